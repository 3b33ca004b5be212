/- EntriesAgree is proved: for every input the law returns true, and its argument reads afterwards as it read before. Conditions: those of the given row alone. -/
import Derived.Test.YtophabkpfpbadaaGreatDoorEaConSex
import Derived.Test.YtophabkpfpbadaaGreatDoorEaConTwo
import Derived.Test.YtophabkpfpbadaaGreatDoorEaConOct
set_option linter.unusedVariables false
set_option linter.unusedSimpArgs false
set_option maxRecDepth 20000
namespace Go.Proofs.YtophabkpfpbadaaGreatDoor
open Go Go.Eng
def oQMgA204_3:OL:= [(0,[]),(1,[0]),(2,[0,1]),(3,[0]),(4,rg 4),(5,rg 5),(6,rg 6),(7,rg 5),(8,rg 8),(9,rg 9),(10,rg 10),(11,rg 9),(12,rg 8),(13,rg 8),(14,rg 14),(15,rg 15),(16,rg 16),(17,rg 15),(18,rg 14),(19,rg 14),(20,[4,5,6,7]),(21,[4,5,6,7]),(22,[]),(23,[])]
def oQMgA127_5:OL:= [(0,[]),(1,[0]),(2,[0,1]),(3,[0]),(4,[0]),(5,rg 5),(6,rg 6),(7,rg 5),(8,rg 5),(9,[]),(10,[])]
def oQMgA127_11:OL:= [(0,[]),(1,[0]),(2,[0,1]),(3,[0,1,2]),(4,[0,1,2]),(5,rg 5),(6,rg 6),(7,rg 6),(8,rg 5),(9,rg 5),(10,rg 10),(11,rg 11),(12,rg 10),(13,rg 10),(14,[2,3,4]),(15,[2,3,4]),(16,[]),(17,[])]
def oQMgA127_17:OL:= [(0,[]),(1,[0]),(2,[0,1]),(3,[0]),(4,[0]),(5,rg 5),(6,rg 6),(7,rg 5),(8,rg 5),(9,[]),(10,[]),(11,[])]
def oQMgA127_23:OL:= [(0,[]),(1,[0]),(2,[0,1]),(3,[0,1,2]),(4,[0,1,2]),(5,rg 5),(6,rg 6),(7,rg 6),(8,rg 5),(9,rg 5),(10,rg 10),(11,rg 11),(12,rg 10),(13,rg 10),(14,[2,3,4]),(15,[2,3,4]),(16,[]),(17,[])]
def oQMgA127_35:OL:= [(0,[]),(1,[0]),(2,[0,1]),(3,[0,1,2]),(4,[0,1]),(5,[0]),(6,[0]),(7,rg 7),(8,rg 8),(9,rg 7),(10,rg 7),(11,[]),(12,[]),(13,[])]
theorem wSwpEn (g:FuncId)(P A M B S c:List Ent)(a b n:Nat)(ha:P.length=a)(hb0:a+A.length+M.length=b)(hn:A.length=n)(hAB:B.length=n)(hc:c=P++(A++(M++(B++S))))(hl:c.length≤2^20):
 FSpec Tryz.prog 204 [.buf 1000001,.d (.int .i64 a),.d (.int .i64 b),.d (.int .i64 n),.fn g []] [(1000001,seqB 52 4 enF en0 c)]
  (fun y r=>y= .tup []∧r= [(1000001,seqB 52 4 enF en0 (P++(B++(M++(A++S)))))]):=by
 have hl0:=hl;rw[hc]at hl0;simp only[List.length_append]at hl0;refine spec_of hT (C:= []) Tryz.func204 rfl Tryz.call204 rfl rfl rfl ?_;conv=>whnf
 refine LoopX.rule hT (C:= []) (ι:=Nat×List Ent×List Ent×List Ent×List Ent×List Ent) (fun(i,A1,A2,B1,B2,c)=>A1++A2=A∧B1++B2=B∧A1.length=i∧B1.length=i∧c=P++(B1++(A2++(M++(A1++(B2++S))))))
  (fun(i,_,_,_,_,c)=>mkSt [(0,.buf 1000001),(1,.d (.int .i64 a)),(2,.d (.int .i64 b)),(3,.d (.int .i64 n)),(10,.d (.int .i64 i))] [(1000001,seqB 52 4 enF en0 c)])
  (fun(i,_,_,_,_,_)=>n - i) (0,[],A,[],B,c) ⟨rfl,rfl,rfl,rfl,hc⟩ (by exact eAx [(1000001,1000001)]) ?_
 rintro⟨i,A1,A2,B1,B2,d⟩ ⟨p1,p2,p3,p4,p5⟩;have l1:A1.length+A2.length=A.length:=by rw[←p1,List.length_append]
 have l2:B1.length+B2.length=B.length:=by rw[←p2,List.length_append]
 cases A2 with
 | nil=>
   have hb9:B2= []:=List.length_eq_zero_iff.1 (by simp only[List.length_nil]at l1;omega);subst hb9;rw[List.append_nil]at p1 p2;subst p1 p2;simp only[List.length_nil]at l1 l2;conv=>whnf
   repeat' (first|((first|(refine br_intro ?_ ?_<;>intro hb<;>try simp only[brs]at hb)|refine rAx hT 3 oQMgA204_3 ?_|omega|refine sAx ?_|decide|assumption)<;>conv=>whnf))
   all_goals first
    |(exfalso;omega)
    | (refine .ret _ ?_
       conv=>whnf
       exact⟨_,⟨rfl,rfl⟩,by rw[p5];exact rr,trivial⟩)
 |cons x A2=>
 cases B2 with
 |nil=>exfalso;simp only[List.length_nil,List.length_cons]at l1 l2;omega
 |cons y B2=>
 simp only[List.length_cons]at l1 l2;have hc':d=(P++B1)++x::((A2++(M++A1))++y::(B2++S)):=by rw[p5];simp
 have hlc:d.length=P.length+A.length+M.length+B.length+S.length:=by rw[hc'];simp only[List.length_append,List.length_cons];omega
 have i1:((a:Int)+(i:Int)).toNat=(P++B1).length:=by rw[List.length_append];omega
 have i2:((b:Int)+(i:Int)).toNat=(P++B1).length+1+(A2++(M++A1)).length:=by simp only[List.length_append];omega
 obtain⟨g1,g2,g3⟩:=swp_at (P++B1) (A2++(M++A1)) (B2++S) x y en0;rw[←hc',←i1]at g1;rw[←hc',←i2]at g2;rw[←hc',←i2,←i1]at g3;conv=>whnf
 repeat' (first|((first|(refine br_intro ?_ ?_<;>intro hb<;>try simp only[brs]at hb)|refine rAx hT 3 oQMgA204_3 ?_|omega|refine sAx ?_|decide|assumption)<;>conv=>whnf))
 all_goals first
  |(exfalso;omega)
  |(refine⟨(i+1,A1++ [x],A2,B1++ [y],B2,(d.set ((a:Int)+(i:Int)).toNat (d.getD ((b:Int)+(i:Int)).toNat en0)).set ((b:Int)+(i:Int)).toNat (d.getD ((a:Int)+(i:Int)).toNat en0)),⟨by rw[←p1];simp,by rw[←p2];simp,by simp only[List.length_append,List.length_cons,List.length_nil];omega,by simp only[List.length_append,List.length_cons,List.length_nil];omega,by rw[g1,g2,g3];simp⟩,by show n - (i+1)<n - i;omega,Entails.mk' [(1000001,1000001)] rfl rfl ⟨lr,lr,lr,lr,SV.le_int (by omega),trivial⟩ ⟨Res.le_put2 (fun _=>rfl) (fun _=>rfl),trivial⟩⟩)
theorem wRotEn (g:FuncId)(P X Y S c:List Ent)(a m b:Nat)(ha:P.length=a)(hm:a+X.length=m)(hb0:m+Y.length=b)(hc:c=P++(X++(Y++S)))(hX:1≤X.length)(hY:1≤Y.length)(hl:c.length≤2^20):
 FSpec Tryz.prog 170 [.buf 1000001,.d (.int .i64 a),.d (.int .i64 m),.d (.int .i64 b),.fn g []] [(1000001,seqB 52 4 enF en0 c)]
  (fun y r=>y= .tup []∧r= [(1000001,seqB 52 4 enF en0 (P++(Y++(X++S))))]):=by
 have hl0:=hl;rw[hc]at hl0;simp only[List.length_append]at hl0;refine spec_of hT (C:= []) Tryz.func170 rfl Tryz.call170 rfl rfl rfl ?_;conv=>whnf
 repeat' (first|((first|(refine br_intro ?_ ?_<;>intro hb<;>try simp only[brs]at hb)|omega|refine sAx ?_|decide|assumption)<;>conv=>whnf))
 refine LoopX.rule hT (C:= []) (ι:=Nat×Nat×List Ent×List Ent×List Ent×List Ent×List Ent) (fun(i,j,A,X',Y',B,c)=>A++(Y'++(X'++B))=P++(Y++(X++S))∧A.length+i=m∧X'.length=i∧Y'.length=j∧1≤i∧1≤j∧c=A++(X'++(Y'++B)))
  (fun(i,j,_,_,_,_,c)=>mkSt [(0,.buf 1000001),(2,.d (.int .i64 m)),(4,.fn g []),(10,.d (.int .i64 i)),(11,.d (.int .i64 j))] [(1000001,seqB 52 4 enF en0 c)])
  (fun(i,j,_,_,_,_,_)=>i+j) (X.length,Y.length,P,X,Y,S,c) ⟨rfl,by show P.length+X.length=m;omega,rfl,rfl,hX,hY,hc⟩ (by exact eAx [(1000001,1000001)]) ?_
 rintro⟨i,j,A,X',Y',B,d⟩ ⟨p1,p2,p3,p4,p5,p6,p7⟩
 have q1:A.length+X'.length+Y'.length+B.length=P.length+X.length+Y.length+S.length:=by
  have:=congrArg List.length p1;simp only[List.length_append]at this;omega
 have hld:d.length≤2^20:=by rw[p7];simp only[List.length_append];omega
 have e1:((m:Int) - (i:Int))=((A.length:Nat):Int):=by omega
 rcases Nat.lt_trichotomy i j with q|q|q
 · obtain⟨k1,k2,k3⟩:=cut_at Y' (j - i) (by omega);generalize List.take (j - i) Y' =U at k1 k2;generalize List.drop (j - i) Y' =V at k1 k3;subst k1;simp only[List.length_append]at p4 q1;have c1:=wSwpEn g A X' U V B d A.length (A.length+i+U.length) i rfl (by omega) p3 (by omega) (by rw[p7];simp) hld;conv=>whnf
   repeat' (first|((first|(refine CallX.of c1 [(1000001,1000001)] rfl ⟨lr,SV.le_int (by omega),SV.le_int (by omega),lr,lr,trivial⟩ ⟨rr,trivial⟩ rfl rfl ?_;rintro y rout ⟨rfl,rfl⟩;refine⟨rfl,?_⟩)|(refine br_intro ?_ ?_<;>intro hb<;>try simp only[brs]at hb)|omega|refine sAx ?_|decide|assumption)<;>conv=>whnf))
   all_goals first
    |(exfalso;omega)
    |exact⟨(i,j - i,A,V,U,X'++B,A++(V++(U++(X'++B)))),⟨by rw[←p1];simp,p2,by omega,by omega,by omega,by omega,by simp⟩,by show i+(j - i)<i+j;omega,(by exact eAx [(1000001,1000001)])⟩
 · have c1:=wSwpEn g A X' [] Y' B d A.length m i rfl (by show A.length+X'.length+0=m;omega) p3 (by omega) (by rw[p7];simp) hld;conv=>whnf
   repeat' (first|((first|(refine CallX.of c1 [(1000001,1000001)] rfl ⟨lr,SV.le_int (by omega),lr,lr,lr,trivial⟩ ⟨rr,trivial⟩ rfl rfl ?_;rintro y rout ⟨rfl,rfl⟩;refine⟨rfl,?_⟩)|(refine br_intro ?_ ?_<;>intro hb<;>try simp only[brs]at hb)|omega|refine sAx ?_|decide|assumption)<;>conv=>whnf))
   all_goals first
    |(exfalso;omega)
    | (rw[←p1]
       refine .ret _ ?_;conv=>whnf
       exact⟨_,⟨rfl,rfl⟩,rr,trivial⟩)
 · obtain⟨k1,k2,k3⟩:=cut_at X' j (by omega);generalize List.take j X' =U at k1 k2;generalize List.drop j X' =V at k1 k3;subst k1;simp only[List.length_append]at p3 q1;have c1:=wSwpEn g A U V Y' B d A.length m j rfl (by omega) (by omega) p4 (by rw[p7];simp) hld;conv=>whnf
   repeat' (first|((first|(refine CallX.of c1 [(1000001,1000001)] rfl ⟨lr,SV.le_int (by omega),lr,lr,lr,trivial⟩ ⟨rr,trivial⟩ rfl rfl ?_;rintro y rout ⟨rfl,rfl⟩;refine⟨rfl,?_⟩)|(refine br_intro ?_ ?_<;>intro hb<;>try simp only[brs]at hb)|omega|refine sAx ?_|decide|assumption)<;>conv=>whnf))
   all_goals first
    |(exfalso;omega)
    |exact⟨(i - j,j,A++Y',V,U,B,A++(Y'++(V++(U++B)))),⟨by rw[←p1];simp,by simp only[List.length_append];omega,by omega,by omega,by omega,by omega,by simp⟩,by show i - j+j<i+j;omega,(by exact eAx [(1000001,1000001)])⟩
abbrev SymEn (g:FuncId)(f:Ent→Ent→Int)(P X Y S c:List Ent)(a m b:Nat):Prop:=
 FSpec Tryz.prog 127 [.buf 1000001,.d (.int .i64 a),.d (.int .i64 m),.d (.int .i64 b),.fn g []] [(1000001,seqB 52 4 enF en0 c)]
  (fun y r=>y= .tup []∧∃Z,Z.Perm (X++Y)∧Srt f Z∧r= [(1000001,seqB 52 4 enF en0 (P++(Z++S)))])
theorem wSymAEn (g:FuncId)(f:Ent→Ent→Int)(hf:TOrd f)(P Y S c:List Ent)(x:Ent)(a m b:Nat)(ha:P.length=a)(hm:a+1=m)(hb0:m+Y.length=b)(hc:c=P++([x]++(Y++S)))(hY:Srt f Y)(hl:c.length≤2^20)
 (hcmp:∀p q,p ∈ [x]++Y→q ∈ [x]++Y→FSpec Tryz.prog g [.agg ((enF p).map .d),.agg ((enF q).map .d)] [] (fun y r=>y= .d (.int .i64 (f p q))∧r= [])):SymEn g f P [x] Y S c a m b:=by
 have hl0:=hl;rw[hc]at hl0;simp only[List.length_append,List.length_singleton]at hl0;have hlc:c.length=P.length+(1+Y.length)+S.length:=by rw[hc];simp only[List.length_append,List.length_singleton];omega
 have gx:c.getD (a:Int).toNat en0=x:=by rw[hc,getD_win (by omega) (by simp only[List.length_singleton];omega),show(a:Int).toNat - P.length=0 by omega];rfl
 have gy:∀k,m≤k→k<b→c.getD k en0=Y.getD (k - m) en0:=fun k h1 h2=>by
  rw[hc,←List.append_assoc,getD_win (by simp only[List.length_append,List.length_singleton];omega) (by simp only[List.length_append,List.length_singleton];omega)];congr 1
  simp only[List.length_append,List.length_singleton];omega
 refine spec_of hT (C:= []) Tryz.func127 rfl Tryz.call127 rfl rfl rfl ?_;conv=>whnf
 repeat' (first|((first|(refine br_intro ?_ ?_<;>intro hb<;>try simp only[brs]at hb)|refine rAx hT 5 oQMgA127_5 ?_|refine rAx hT 11 oQMgA127_11 ?_|refine rAx hT 17 oQMgA127_17 ?_|refine rAx hT 23 oQMgA127_23 ?_|refine rAx hT 35 oQMgA127_35 ?_|omega|refine sAx ?_|decide|assumption)<;>conv=>whnf))
 all_goals try(exfalso;omega)
 refine LoopX.rule hT (C:= []) (ι:=Nat×Nat) (fun(i,j)=>m≤i∧i≤j∧j≤b∧(i - m=0∨f (Y.getD (i - m - 1) en0) x≤0)∧(j - m=Y.length∨f x (Y.getD (j - m) en0)≤0))
  (fun(i,j)=>mkSt [(0,.buf 1000001),(1,.d (.int .i64 a)),(4,.fn g []),(10,.d (.int .i64 i)),(11,.d (.int .i64 j))] [(1000001,seqB 52 4 enF en0 c)])
  (fun(i,j)=>j - i) (m,b) ⟨Nat.le_refl _,by show m≤b;omega,Nat.le_refl _,.inl (by show m - m=0;omega),.inl (by show b - m=_;omega)⟩ (by exact eAx [(1000001,1000001)]) ?_
 rintro⟨i,j⟩ ⟨p1,p2,p3,p4,p5⟩;try dsimp only at p1 p2 p3 p4 p5
 rcases Nat.lt_or_ge i j with q|q
 · obtain⟨M,hM⟩:∃M,M=(i+j)/2:=⟨_,rfl⟩;have hh:=half2 i j (by omega) p2;rw[←hM]at hh;have gM:c.getD (M:Int).toNat en0=Y.getD (M - m) en0:=by rw[Int.toNat_natCast];exact gy M (by omega) (by omega)
   have mM:Y.getD (M - m) en0 ∈ [x]++Y:=List.mem_append_right _ (getD_mem (by omega));conv=>whnf
   repeat' (first|(refine⟨rfl,?_⟩;conv=>whnf)|(rw[hh];conv=>whnf)|((first|(refine CallX.of (hcmp (Y.getD (M - m) en0) x mM (by simp)) [] rfl ⟨by rw[←gM];exact lr,by rw[←gx];exact lr,trivial⟩ trivial rfl rfl ?_;rintro y rout ⟨rfl,rfl⟩;refine⟨rfl,?_⟩)|(refine br_intro ?_ ?_<;>intro hb<;>try simp only[brs]at hb)|refine rAx hT 5 oQMgA127_5 ?_|refine rAx hT 11 oQMgA127_11 ?_|refine rAx hT 17 oQMgA127_17 ?_|refine rAx hT 23 oQMgA127_23 ?_|refine rAx hT 35 oQMgA127_35 ?_|omega|refine sAx ?_|decide|assumption)<;>conv=>whnf))
   all_goals try(exfalso;omega)
   · exact⟨(M+1,j),⟨by show m≤M+1;omega,by show M+1≤j;omega,p3,.inr (by show f (Y.getD (M+1 - m - 1) _) _≤0;rw[show M+1 - m - 1=M - m by omega];omega),p5⟩,by show j - (M+1)<j - i;omega,(by exact eAx [(1000001,1000001)])⟩
   · exact⟨(i,M),⟨p1,by show i≤M;omega,by show M≤b;omega,p4,.inr (by show f _ (Y.getD (M - m) _)≤0;rw[hf.sw];omega)⟩,by show M - i<j - i;omega,(by exact eAx [(1000001,1000001)])⟩
 · have hij:i=j:=by omega
   subst hij;obtain⟨k1,k2,k3⟩:=cut_at Y (i - m) (by omega);have s1:=srt_below hf hY (x:=x) (d:=en0) (t:=i - m) (by omega) p4;have s2:=srt_above hf hY (x:=x) (d:=en0) (t:=i - m) p5;generalize List.take (i - m) Y=Y1 at k1 k2 s1;generalize List.drop (i - m) Y=Y2 at k1 k3 s2;subst k1;have sZ:=srt_ins hY s1 s2;conv=>whnf
   repeat' (first|((first|(refine br_intro ?_ ?_<;>intro hb<;>try simp only[brs]at hb)|refine rAx hT 5 oQMgA127_5 ?_|refine rAx hT 11 oQMgA127_11 ?_|refine rAx hT 17 oQMgA127_17 ?_|refine rAx hT 23 oQMgA127_23 ?_|refine rAx hT 35 oQMgA127_35 ?_|omega|refine sAx ?_|decide|assumption)<;>conv=>whnf))
   all_goals try(exfalso;omega)
   refine LoopX.rule hT (C:= []) (ι:=Nat×List Ent×List Ent×List Ent) (fun(k,A,B,c)=>A++B=Y1∧A.length+a=k∧c=P++(A++(x::(B++(Y2++S)))))
    (fun(k,_,_,c)=>mkSt [(0,.buf 1000001),(10,.d (.int .i64 i)),(13,.d (.int .i64 k))] [(1000001,seqB 52 4 enF en0 c)])
    (fun(_,_,B,_)=>B.length) (a,[],Y1,c) ⟨rfl,by simp,by rw[hc];simp⟩ (by exact eAx [(1000001,1000001)]) ?_
   rintro⟨k,A,B,d⟩ ⟨r1,r2,r3⟩;have r4:A.length+B.length=Y1.length:=by rw[←r1,List.length_append]
   have hld:d.length=c.length:=by rw[r3,hc,←r1];simp only[List.length_append,List.length_cons,List.length_nil];omega
   cases B with
   | nil=>
     rw[List.append_nil]at r1;simp only[List.length_nil]at r4;conv=>whnf
     repeat' (first|((first|(refine br_intro ?_ ?_<;>intro hb<;>try simp only[brs]at hb)|refine rAx hT 5 oQMgA127_5 ?_|refine rAx hT 11 oQMgA127_11 ?_|refine rAx hT 17 oQMgA127_17 ?_|refine rAx hT 23 oQMgA127_23 ?_|refine rAx hT 35 oQMgA127_35 ?_|omega|refine sAx ?_|decide|assumption)<;>conv=>whnf))
     all_goals try(exfalso;omega)
     refine .ret _ ?_;conv=>whnf
     exact⟨_,⟨rfl,Y1++x::Y2,List.perm_middle,sZ,rfl⟩,by rw[r3,r1];simp only[List.append_assoc,List.cons_append,List.nil_append];exact rr,trivial⟩
   | cons y B=>
     simp only[List.length_cons]at r4;obtain⟨g1,g2,g3⟩:=swp_at (P++A) [] (B++(Y2++S)) x y en0;have hc':d=(P++A)++x::([]++y::(B++(Y2++S))):=by rw[r3];simp
     have i1:(k:Int).toNat=(P++A).length:=by rw[List.length_append];omega
     have i2:((k:Int)+1).toNat=(P++A).length+1+([]:List Ent).length:=by simp only[List.length_append,List.length_nil];omega
     rw[←hc',←i1]at g1;rw[←hc',←i2]at g2;rw[←hc',←i2,←i1]at g3;conv=>whnf
     repeat' (first|((first|(refine br_intro ?_ ?_<;>intro hb<;>try simp only[brs]at hb)|refine rAx hT 5 oQMgA127_5 ?_|refine rAx hT 11 oQMgA127_11 ?_|refine rAx hT 17 oQMgA127_17 ?_|refine rAx hT 23 oQMgA127_23 ?_|refine rAx hT 35 oQMgA127_35 ?_|omega|refine sAx ?_|decide|assumption)<;>conv=>whnf))
     all_goals try(exfalso;omega)
     refine⟨(k+1,A++ [y],B,(d.set (k:Int).toNat (d.getD ((k:Int)+1).toNat en0)).set ((k:Int)+1).toNat (d.getD (k:Int).toNat en0)),⟨by rw[←r1];simp,by simp only[List.length_append,List.length_singleton];omega,by rw[g1,g2,g3];simp⟩,by show B.length<(y::B).length;simp,Entails.mk' [(1000001,1000001)] rfl rfl ⟨lr,lr,SV.le_int (by omega),trivial⟩ ⟨Res.le_put2 (fun _=>rfl) (fun _=>rfl),trivial⟩⟩
theorem wSymBEn (g:FuncId)(f:Ent→Ent→Int)(hf:TOrd f)(P X S c:List Ent)(x:Ent)(a m b:Nat)(ha:P.length=a)(hm:a+X.length=m)(hX2:2≤X.length)(hb0:m+1=b)(hc:c=P++(X++([x]++S)))(hX:Srt f X)(hl:c.length≤2^20)
 (hcmp:∀p q,p ∈ X++ [x]→q ∈ X++ [x]→FSpec Tryz.prog g [.agg ((enF p).map .d),.agg ((enF q).map .d)] [] (fun y r=>y= .d (.int .i64 (f p q))∧r= [])):SymEn g f P X [x] S c a m b:=by
 have hl0:=hl;rw[hc]at hl0;simp only[List.length_append,List.length_singleton]at hl0;have hlc:c.length=P.length+(X.length+1)+S.length:=by rw[hc];simp only[List.length_append,List.length_singleton];omega
 have gx:c.getD (m:Int).toNat en0=x:=by rw[hc,←List.append_assoc,getD_win (by simp only[List.length_append];omega) (by simp only[List.length_append,List.length_singleton];omega),show(m:Int).toNat - (P++X).length=0 by simp only[List.length_append];omega];rfl
 have gy:∀k,a≤k→k<m→c.getD k en0=X.getD (k - a) en0:=fun k h1 h2=>by
  rw[hc,getD_win (by omega) (by omega),ha]
 refine spec_of hT (C:= []) Tryz.func127 rfl Tryz.call127 rfl rfl rfl ?_;conv=>whnf
 repeat' (first|((first|(refine br_intro ?_ ?_<;>intro hb<;>try simp only[brs]at hb)|refine rAx hT 5 oQMgA127_5 ?_|refine rAx hT 11 oQMgA127_11 ?_|refine rAx hT 17 oQMgA127_17 ?_|refine rAx hT 23 oQMgA127_23 ?_|refine rAx hT 35 oQMgA127_35 ?_|omega|refine sAx ?_|decide|assumption)<;>conv=>whnf))
 all_goals try(exfalso;omega)
 refine LoopX.rule hT (C:= []) (ι:=Nat×Nat) (fun(i,j)=>a≤i∧i≤j∧j≤m∧(i - a=0∨f (X.getD (i - a - 1) en0) x≤0)∧(j - a=X.length∨f x (X.getD (j - a) en0)≤0))
  (fun(i,j)=>mkSt [(0,.buf 1000001),(2,.d (.int .i64 m)),(4,.fn g []),(14,.d (.int .i64 i)),(15,.d (.int .i64 j))] [(1000001,seqB 52 4 enF en0 c)])
  (fun(i,j)=>j - i) (a,m) ⟨Nat.le_refl _,by show a≤m;omega,Nat.le_refl _,.inl (by show a - a=0;omega),.inl (by show m - a=_;omega)⟩ (by exact eAx [(1000001,1000001)]) ?_
 rintro⟨i,j⟩ ⟨p1,p2,p3,p4,p5⟩;try dsimp only at p1 p2 p3 p4 p5
 rcases Nat.lt_or_ge i j with q|q
 · obtain⟨M,hM⟩:∃M,M=(i+j)/2:=⟨_,rfl⟩;have hh:=half2 i j (by omega) p2;rw[←hM]at hh;have gM:c.getD (M:Int).toNat en0=X.getD (M - a) en0:=by rw[Int.toNat_natCast];exact gy M (by omega) (by omega)
   have mM:X.getD (M - a) en0 ∈ X++ [x]:=List.mem_append_left _ (getD_mem (by omega));conv=>whnf
   repeat' (first|(refine⟨rfl,?_⟩;conv=>whnf)|(rw[hh];conv=>whnf)|((first|(refine CallX.of (hcmp x (X.getD (M - a) en0) (by simp) mM) [] rfl ⟨by rw[←gx];exact lr,by rw[←gM];exact lr,trivial⟩ trivial rfl rfl ?_;rintro y rout ⟨rfl,rfl⟩;refine⟨rfl,?_⟩)|(refine br_intro ?_ ?_<;>intro hb<;>try simp only[brs]at hb)|refine rAx hT 5 oQMgA127_5 ?_|refine rAx hT 11 oQMgA127_11 ?_|refine rAx hT 17 oQMgA127_17 ?_|refine rAx hT 23 oQMgA127_23 ?_|refine rAx hT 35 oQMgA127_35 ?_|omega|refine sAx ?_|decide|assumption)<;>conv=>whnf))
   all_goals try(exfalso;omega)
   · exact⟨(M+1,j),⟨by show a≤M+1;omega,by show M+1≤j;omega,p3,.inr (by show f (X.getD (M+1 - a - 1) _) _≤0;rw[show M+1 - a - 1=M - a by omega,hf.sw];omega),p5⟩,by show j - (M+1)<j - i;omega,(by exact eAx [(1000001,1000001)])⟩
   · exact⟨(i,M),⟨p1,by show i≤M;omega,by show M≤m;omega,p4,.inr (by show f _ (X.getD (M - a) _)≤0;omega)⟩,by show M - i<j - i;omega,(by exact eAx [(1000001,1000001)])⟩
 · have hij:i=j:=by omega
   subst hij;obtain⟨k1,k2,k3⟩:=cut_at X (i - a) (by omega);have s1:=srt_below hf hX (x:=x) (d:=en0) (t:=i - a) (by omega) p4;have s2:=srt_above hf hX (x:=x) (d:=en0) (t:=i - a) p5;generalize List.take (i - a) X=Y1 at k1 k2 s1;generalize List.drop (i - a) X=Y2 at k1 k3 s2;subst k1;have sZ:=srt_ins hX s1 s2;simp only[List.length_append]at hm hl0 k3;conv=>whnf
   repeat' (first|((first|(refine br_intro ?_ ?_<;>intro hb<;>try simp only[brs]at hb)|refine rAx hT 5 oQMgA127_5 ?_|refine rAx hT 11 oQMgA127_11 ?_|refine rAx hT 17 oQMgA127_17 ?_|refine rAx hT 23 oQMgA127_23 ?_|refine rAx hT 35 oQMgA127_35 ?_|omega|refine sAx ?_|decide|assumption)<;>conv=>whnf))
   all_goals try(exfalso;omega)
   refine LoopX.rule hT (C:= []) (ι:=Nat×List Ent×List Ent×List Ent) (fun(k,A,B,c)=>A.reverse++B=Y2∧A.length+i=k∧c=P++(Y1++(A.reverse++(x::(B++S)))))
    (fun(k,_,_,c)=>mkSt [(0,.buf 1000001),(14,.d (.int .i64 i)),(17,.d (.int .i64 k))] [(1000001,seqB 52 4 enF en0 c)])
    (fun(_,A,_,_)=>A.length) (m,Y2.reverse,[],c) ⟨by simp,by show Y2.reverse.length+i=m;rw[List.length_reverse];omega,by rw[hc];simp⟩ (by exact eAx [(1000001,1000001)]) ?_
   rintro⟨k,A,B,d⟩ ⟨r1,r2,r3⟩;have r4:A.length+B.length=Y2.length:=by rw[←r1,List.length_append,List.length_reverse]
   have hld:d.length=c.length:=by rw[r3,hc,←r1];simp only[List.length_append,List.length_cons,List.length_nil,List.length_reverse];omega
   cases A with
   | nil=>
     rw[List.reverse_nil,List.nil_append]at r1;simp only[List.length_nil]at r4 r2;conv=>whnf
     repeat' (first|((first|(refine br_intro ?_ ?_<;>intro hb<;>try simp only[brs]at hb)|refine rAx hT 5 oQMgA127_5 ?_|refine rAx hT 11 oQMgA127_11 ?_|refine rAx hT 17 oQMgA127_17 ?_|refine rAx hT 23 oQMgA127_23 ?_|refine rAx hT 35 oQMgA127_35 ?_|omega|refine sAx ?_|decide|assumption)<;>conv=>whnf))
     all_goals try(exfalso;omega)
     refine .ret _ ?_;conv=>whnf
     exact⟨_,⟨rfl,Y1++x::Y2,by rw[List.append_assoc];exact List.Perm.append_left Y1 (List.perm_append_singleton x Y2).symm,sZ,rfl⟩,by rw[r3,r1];simp only[List.append_assoc,List.cons_append,List.nil_append,List.reverse_nil];exact rr,trivial⟩
   | cons y A=>
     simp only[List.length_cons]at r4 r2;obtain⟨g1,g2,g3⟩:=swp_at (P++(Y1++A.reverse)) [] (B++S) y x en0;have hc':d=(P++(Y1++A.reverse))++y::([]++x::(B++S)):=by rw[r3];simp
     have i1:((k:Int) - 1).toNat=(P++(Y1++A.reverse)).length:=by simp only[List.length_append,List.length_reverse];omega
     have i2:(k:Int).toNat=(P++(Y1++A.reverse)).length+1+([]:List Ent).length:=by simp only[List.length_append,List.length_nil,List.length_reverse];omega
     rw[←hc',←i1]at g1;rw[←hc',←i2]at g2;rw[←hc',←i2,←i1]at g3;conv=>whnf
     repeat' (first|((first|(refine br_intro ?_ ?_<;>intro hb<;>try simp only[brs]at hb)|refine rAx hT 5 oQMgA127_5 ?_|refine rAx hT 11 oQMgA127_11 ?_|refine rAx hT 17 oQMgA127_17 ?_|refine rAx hT 23 oQMgA127_23 ?_|refine rAx hT 35 oQMgA127_35 ?_|omega|refine sAx ?_|decide|assumption)<;>conv=>whnf))
     all_goals try(exfalso;omega)
     refine⟨(k - 1,A,y::B,(d.set (k:Int).toNat (d.getD ((k:Int) - 1).toNat en0)).set ((k:Int) - 1).toNat (d.getD (k:Int).toNat en0)),⟨by rw[←r1];simp,by omega,?_⟩,by show A.length<(y::A).length;simp,Entails.mk' [(1000001,1000001)] rfl rfl ⟨lr,lr,SV.le_int (by omega),trivial⟩ ⟨Res.le_put2 (fun _=>rfl) (fun _=>rfl),trivial⟩⟩;rw[List.set_comm _ _ (by omega),g1,g2,g3];simp
def oQMgB127_5:List (Nat×List Nat):= [(0,[]),(1,[0]),(2,[0,1]),(3,[0]),(4,[0]),(5,[0,1,2,3,4]),(6,[0,1,2,3,4,5]),(7,[0,1,2,3,4]),(8,[0,1,2,3,4]),(9,[]),(10,[])]
def oQMgB127_11:List (Nat×List Nat):= [(0,[]),(1,[0]),(2,[0,1]),(3,[0,1,2]),(4,[0,1,2]),(5,[0,1,2,3,4]),(6,[0,1,2,3,4,5]),(7,[0,1,2,3,4,5]),(8,[0,1,2,3,4]),(9,[0,1,2,3,4]),(10,[0,1,2,3,4,5,6,7,8,9]),(11,[0,1,2,3,4,5,6,7,8,9,10]),(12,[0,1,2,3,4,5,6,7,8,9]),(13,[0,1,2,3,4,5,6,7,8,9]),(14,[2,3,4]),(15,[2,3,4]),(16,[]),(17,[])]
def oQMgB127_17:List (Nat×List Nat):= [(0,[]),(1,[0]),(2,[0,1]),(3,[0]),(4,[0]),(5,[0,1,2,3,4]),(6,[0,1,2,3,4,5]),(7,[0,1,2,3,4]),(8,[0,1,2,3,4]),(9,[]),(10,[]),(11,[])]
def oQMgB127_23:List (Nat×List Nat):= [(0,[]),(1,[0]),(2,[0,1]),(3,[0,1,2]),(4,[0,1,2]),(5,[0,1,2,3,4]),(6,[0,1,2,3,4,5]),(7,[0,1,2,3,4,5]),(8,[0,1,2,3,4]),(9,[0,1,2,3,4]),(10,[0,1,2,3,4,5,6,7,8,9]),(11,[0,1,2,3,4,5,6,7,8,9,10]),(12,[0,1,2,3,4,5,6,7,8,9]),(13,[0,1,2,3,4,5,6,7,8,9]),(14,[2,3,4]),(15,[2,3,4]),(16,[]),(17,[])]
def oQMgB127_35:List (Nat×List Nat):= [(0,[]),(1,[0]),(2,[0,1]),(3,[0,1,2]),(4,[0,1]),(5,[0]),(6,[0]),(7,[0,1,2,3,4,5,6]),(8,[0,1,2,3,4,5,6,7]),(9,[0,1,2,3,4,5,6]),(10,[0,1,2,3,4,5,6]),(11,[]),(12,[]),(13,[])]
set_option maxHeartbeats 4000000 in
theorem wSymCEn (g:FuncId)(f:Ent→Ent→Int)(hf:TOrd f)(P X Y S c:List Ent)(a m b:Nat)(ha:P.length=a)(hm:a+X.length=m)(hb0:m+Y.length=b)(hc:c=P++(X++(Y++S)))(hX2:2≤X.length)(hY2:2≤Y.length)(hX:Srt f X)(hY:Srt f Y)(hl:c.length≤2^20)
 (hcmp:∀p q,p ∈ X++Y→q ∈ X++Y→FSpec Tryz.prog g [.agg ((enF p).map .d),.agg ((enF q).map .d)] [] (fun y r=>y= .d (.int .i64 (f p q))∧r= []))
 (ih:∀ (P X' Y' S c:List Ent) (a m b:Nat),P.length=a→a+X'.length=m→m+Y'.length=b→c=P++(X'++(Y'++S))→1≤X'.length→1≤Y'.length→X'.length+Y'.length<X.length+Y.length→Srt f X'→Srt f Y'→c.length≤2^20→(∀p ∈ X'++Y',p ∈ X++Y)→SymEn g f P X' Y' S c a m b):SymEn g f P X Y S c a m b:=by
 have hl0:=hl
 rw[hc]at hl0
 simp only[List.length_append]at hl0
 have hlc:c.length=P.length+(X.length+Y.length)+S.length:=by rw[hc];simp only[List.length_append];omega
 have gx:∀k,a≤k→k<m→c.getD k en0=X.getD (k - a) en0:=fun k h1 h2=>by
  rw[hc,getD_win (by omega) (by omega),ha]
 have gy:∀k,m≤k→k<b→c.getD k en0=Y.getD (k - m) en0:=fun k h1 h2=>by
  rw[hc,←List.append_assoc,getD_win (by simp only[List.length_append];omega) (by simp only[List.length_append];omega)]
  congr 1
  simp only[List.length_append];omega
 obtain⟨Md,hMd⟩:∃Md,Md=(a+b)/2:=⟨_,rfl⟩
 have hh0:=half2 a b (by omega) (by omega)
 rw[←hMd]at hh0
 obtain⟨s0,r0,h01,h02⟩:∃s0 r0:Nat,(Md<m→s0=Md+m - b∧r0=Md)∧(m≤Md→s0=a∧r0=m):=by
  by_cases q:Md<m
  · exact⟨Md+m - b,Md,fun _=>⟨rfl,rfl⟩,fun h=>by omega⟩
  · exact⟨a,m,fun h=>by omega,fun _=>⟨rfl,rfl⟩⟩
 have h03:s0≤r0∧a≤s0∧r0≤m∧r0≤Md:=by
  rcases Nat.lt_or_ge Md m with q|q
  · have:=h01 q;omega
  · have:=h02 q;omega
 obtain⟨h03,h04,h05,h06⟩:=h03
 refine spec_of hT (C:= []) Tryz.func127 rfl Tryz.call127 rfl rfl rfl ?_
 conv=>whnf
 repeat' (first|(refine⟨rfl,?_⟩;conv=>whnf)|(rw[hh0];conv=>whnf)|(refine br_intro ?_ ?_<;>intro hb<;>(try simp only[brs]at hb)<;>conv=>whnf)|(refine RegX.rule (id:=5) hT rfl [] oQMgB127_5 (by decide+kernel) ?_;conv=>whnf)|(refine RegX.rule (id:=11) hT rfl [] oQMgB127_11 (by decide+kernel) ?_;conv=>whnf)|(refine RegX.rule (id:=17) hT rfl [] oQMgB127_17 (by decide+kernel) ?_;conv=>whnf)|(refine RegX.rule (id:=23) hT rfl [] oQMgB127_23 (by decide+kernel) ?_;conv=>whnf)|(refine RegX.rule (id:=35) hT rfl [] oQMgB127_35 (by decide+kernel) ?_;conv=>whnf)|omega|(refine And.intro ?_ ?_;((try dsimp only);first|omega|(refine szA rfl ?_;omega)|(refine szB rfl ?_;omega)|(unfold inI64;omega)|exact rfl|(simp only[List.toList_toArray,List.length_cons,List.length_nil];omega)|(simp only[lns]at*;omega)|decide|(unfold inI64;decide));conv=>whnf)|decide|assumption)
 all_goals try(exfalso;omega)
 all_goals
  refine LoopX.rule hT (C:= []) (ι:=Nat×Nat) (fun(s,r)=>s0≤s∧s≤r∧r≤r0∧(s=s0∨f (X.getD (s - a - 1) en0) (Y.getD (Md - s) en0)≤0)∧(r=r0∨f (Y.getD (Md - r - 1) en0) (X.getD (r - a) en0)≤0))
   (fun(s,r)=>mkSt [(0,.buf 1000001),(1,.d (.int .i64 a)),(2,.d (.int .i64 m)),(3,.d (.int .i64 b)),(4,.fn g []),(18,.d (.int .i64 Md)),(19,.d (.int .i64 ((Md+m:Nat):Int))),(20,.d (.int .i64 s)),(21,.d (.int .i64 r)),(22,.d (.int .i64 ((Md+m - 1:Nat):Int)))] [(1000001,seqB 52 4 enF en0 c)])
   (fun(s,r)=>r - s) (s0,r0) ⟨Nat.le_refl _,h03,Nat.le_refl _,.inl rfl,.inl rfl⟩ (by(refine Entails.mk' [(1000001,1000001)] rfl rfl ?_ ?_<;>repeat' (first|exact True.intro|exact lr|exact rr|exact SV.le_int (by omega)|exact SV.le_any _|refine And.intro ?_ ?_));done) ?_
  rintro⟨s,r⟩ ⟨p1,p2,p3,p4,p5⟩
  try dsimp only at p1 p2 p3 p4 p5
  rcases Nat.lt_or_ge s r with q|q
  · obtain⟨C,hC⟩:∃C,C=(s+r)/2:=⟨_,rfl⟩
    have hh:=half2 s r (by omega) p2
    rw[←hC]at hh
    have hCb:s≤C∧C<r:=by omega
    have gM:c.getD (C:Int).toNat en0=X.getD (C - a) en0:=by rw[Int.toNat_natCast];exact gx C (by omega) (by omega)
    have gN:c.getD (((Md+m - 1:Nat):Int) - (C:Int)).toNat en0=Y.getD (Md - C - 1) en0:=by
     rw[show(((Md+m - 1:Nat):Int) - (C:Int)).toNat=Md+m - 1 - C by omega,gy _ (by omega) (by rcases Nat.lt_or_ge Md m with t|t;(have:=h01 t;omega);(have:=h02 t;omega))]
     congr 1;omega
    have mM:X.getD (C - a) en0 ∈ X++Y:=List.mem_append_left _ (getD_mem (by omega))
    have mN:Y.getD (Md - C - 1) en0 ∈ X++Y:=List.mem_append_right _ (getD_mem (by rcases Nat.lt_or_ge Md m with t|t;(have:=h01 t;omega);(have:=h02 t;omega)))
    have hbd:Md+m - 1 - C<b:=by rcases Nat.lt_or_ge Md m with t|t;(have:=h01 t;omega);(have:=h02 t;omega)
    conv=>whnf
    repeat' (first|(refine⟨rfl,?_⟩;conv=>whnf)|(rw[hh];conv=>whnf)|(refine CallX.of (hcmp (Y.getD (Md - C - 1) en0) (X.getD (C - a) en0) mN mM) [] rfl ⟨by rw[←gN];exact lr,by rw[←gM];exact lr,trivial⟩ trivial rfl rfl ?_;rintro y rout ⟨rfl,rfl⟩;refine⟨rfl,?_⟩;conv=>whnf)|(refine br_intro ?_ ?_<;>intro hb<;>(try simp only[brs]at hb)<;>conv=>whnf)|(refine RegX.rule (id:=5) hT rfl [] oQMgB127_5 (by decide+kernel) ?_;conv=>whnf)|(refine RegX.rule (id:=11) hT rfl [] oQMgB127_11 (by decide+kernel) ?_;conv=>whnf)|(refine RegX.rule (id:=17) hT rfl [] oQMgB127_17 (by decide+kernel) ?_;conv=>whnf)|(refine RegX.rule (id:=23) hT rfl [] oQMgB127_23 (by decide+kernel) ?_;conv=>whnf)|(refine RegX.rule (id:=35) hT rfl [] oQMgB127_35 (by decide+kernel) ?_;conv=>whnf)|omega|(refine And.intro ?_ ?_;((try dsimp only);first|omega|(refine szA rfl ?_;omega)|(refine szB rfl ?_;omega)|(unfold inI64;omega)|exact rfl|(simp only[List.toList_toArray,List.length_cons,List.length_nil];omega)|(simp only[lns]at*;omega)|decide|(unfold inI64;decide));conv=>whnf)|decide|assumption)
    all_goals try(exfalso;omega)
    · exact⟨(C+1,r),⟨by show s0≤C+1;omega,by show C+1≤r;omega,p3,.inr (by show f (X.getD (C+1 - a - 1) _) (Y.getD (Md - (C+1)) _)≤0;rw[show C+1 - a - 1=C - a by omega,show Md - (C+1)=Md - C - 1 by omega,hf.sw];omega),p5⟩,by show r - (C+1)<r - s;omega,(by(refine Entails.mk' [(1000001,1000001)] rfl rfl ?_ ?_<;>repeat' (first|exact True.intro|exact lr|exact rr|exact SV.le_int (by omega)|exact SV.le_any _|refine And.intro ?_ ?_));done)⟩
    · exact⟨(s,C),⟨p1,by show s≤C;omega,by show C≤r0;omega,p4,.inr (by show f (Y.getD (Md - C - 1) _) (X.getD (C - a) _)≤0;omega)⟩,by show C - s<r - s;omega,(by(refine Entails.mk' [(1000001,1000001)] rfl rfl ?_ ?_<;>repeat' (first|exact True.intro|exact lr|exact rr|exact SV.le_int (by omega)|exact SV.le_any _|refine And.intro ?_ ?_));done)⟩
  · have hij:s=r:=by omega
    subst hij
    have hsY:Md - s≤Y.length:=by rcases Nat.lt_or_ge Md m with t|t;(have:=h01 t;omega);(have:=h02 t;omega)
    have cr1:=srt_cross hf hX hY (d:=en0) (s:=s - a) (e:=Md - s) (by omega) (by
     rcases p4 with t|t
     · rcases Nat.lt_or_ge Md m with u|u
       · have:=h01 u;exact .inr (.inl (by omega))
       · have:=h02 u;exact .inl (by omega)
     · exact .inr (.inr t))
    have cr2:=srt_cross hf hY hX (d:=en0) (s:=Md - s) (e:=s - a) hsY (by
     rcases p5 with t|t
     · rcases Nat.lt_or_ge Md m with u|u
       · have:=h01 u;exact .inl (by omega)
       · have:=h02 u;exact .inr (.inl (by omega))
     · exact .inr (.inr t))
    obtain⟨k1,k2,k3⟩:=cut_at X (s - a) (by omega)
    obtain⟨k4,k5,k6⟩:=cut_at Y (Md - s) hsY
    generalize List.take (s - a) X=X1 at k1 k2 cr1
    generalize List.drop (s - a) X=X2 at k1 k3 cr2
    generalize List.take (Md - s) Y=Y1 at k4 k5 cr2
    generalize List.drop (Md - s) Y=Y2 at k4 k6 cr1
    clear gx gy p4 p5
    have hX':=hX
    have hY':=hY
    rw[←k1]at hX'
    rw[←k4]at hY'
    have J:=fun{Z1 Z2:List Ent} (p1:Z1.Perm (X1++Y1)) (s1:Srt f Z1) (p2:Z2.Perm (X2++Y2)) (s2:Srt f Z2)=>srt_join p1 s1 p2 s2 hX' hY' cr1 cr2
    rw[k1,k4]at J
    have uX:=List.pairwise_append.1 hX'
    have uY:=List.pairwise_append.1 hY'
    have sL:X1.length=0∨Y1.length=0→Srt f (X1++Y1):=fun h=>by
     rcases h with h|h
     · rw[List.length_eq_zero_iff.1 h];exact uY.1
     · rw[List.length_eq_zero_iff.1 h,List.append_nil];exact uX.1
    have sR:X2.length=0∨Y2.length=0→Srt f (X2++Y2):=fun h=>by
     rcases h with h|h
     · rw[List.length_eq_zero_iff.1 h];exact uY.2.1
     · rw[List.length_eq_zero_iff.1 h,List.append_nil];exact uX.2.1
    have eC:X2.length=0∨Y1.length=0→c=P++(X1++(Y1++(X2++(Y2++S)))):=fun h=>by
     rw[hc,←k1,←k4]
     rcases h with h|h<;>rw[List.length_eq_zero_iff.1 h]<;>simp
    have eR:c=(P++X1)++(X2++(Y1++(Y2++S))):=by rw[hc,←k1,←k4];simp
    have hlc2:P.length+X1.length+X2.length+Y1.length+Y2.length+S.length≤2^20:=by omega
    have mL:∀p ∈ X1++Y1,p ∈ X++Y:=fun p hp=>by
     rw[←k1,←k4];rcases List.mem_append.1 hp with t|t<;>simp[t]
    have mR:∀p ∈ X2++Y2,p ∈ X++Y:=fun p hp=>by
     rw[←k1,←k4];rcases List.mem_append.1 hp with t|t<;>simp[t]
    conv=>whnf
    repeat' (first|(refine CallX.of (wRotEn g (P++X1) X2 Y1 (Y2++S) c s m (Md+m - s) (by rw[List.length_append];omega) (by omega) (by omega) eR (by omega) (by omega) hl) [(1000001,1000001)] rfl ⟨lr,lr,lr,SV.le_int (by omega),lr,trivial⟩ ⟨rr,trivial⟩ rfl rfl ?_;rintro y rout ⟨rfl,rfl⟩;refine⟨rfl,?_⟩;conv=>whnf)|(refine CallX.of (ih P X1 Y1 (X2++(Y2++S)) ((P++X1)++(Y1++(X2++(Y2++S)))) a s Md ha (by omega) (by omega) (by simp) (by omega) (by omega) (by omega) uX.1 uY.1 (by simp only[List.length_append];omega) mL) [(1000001,1000001)] rfl ⟨lr,lr,lr,lr,lr,trivial⟩ ⟨rr,trivial⟩ rfl rfl ?_;rintro y rout ⟨rfl,Z1,z1,z2,rfl⟩;refine⟨rfl,?_⟩;conv=>whnf)|(refine CallX.of (ih P X1 Y1 (X2++(Y2++S)) c a s Md ha (by omega) (by omega) (eC (by omega)) (by omega) (by omega) (by omega) uX.1 uY.1 hl mL) [(1000001,1000001)] rfl ⟨lr,lr,lr,lr,lr,trivial⟩ ⟨rr,trivial⟩ rfl rfl ?_;rintro y rout ⟨rfl,Z1,z1,z2,rfl⟩;refine⟨rfl,?_⟩;conv=>whnf)|(refine CallX.of (ih (P++Z1) X2 Y2 S (P++(Z1++(X2++(Y2++S)))) Md (Md+m - s) b (by rw[List.length_append,z1.length_eq,List.length_append];omega) (by omega) (by omega) (by simp) (by omega) (by omega) (by omega) uX.2.1 uY.2.1 (by have:=z1.length_eq;simp only[List.length_append]at this ⊢;omega) mR) [(1000001,1000001)] rfl ⟨lr,lr,SV.le_int (by omega),lr,lr,trivial⟩ ⟨rr,trivial⟩ rfl rfl ?_;rintro y rout ⟨rfl,Z2,z3,z4,rfl⟩;refine⟨rfl,?_⟩;conv=>whnf)|(refine CallX.of (ih (P++(X1++Y1)) X2 Y2 S ((P++X1)++(Y1++(X2++(Y2++S)))) Md (Md+m - s) b (by simp only[List.length_append];omega) (by omega) (by omega) (by simp) (by omega) (by omega) (by omega) uX.2.1 uY.2.1 (by simp only[List.length_append];omega) mR) [(1000001,1000001)] rfl ⟨lr,lr,SV.le_int (by omega),lr,lr,trivial⟩ ⟨rr,trivial⟩ rfl rfl ?_;rintro y rout ⟨rfl,Z2,z3,z4,rfl⟩;refine⟨rfl,?_⟩;conv=>whnf)|(refine CallX.of (ih (P++(X1++Y1)) X2 Y2 S c Md (Md+m - s) b (by simp only[List.length_append];omega) (by omega) (by omega) (by rw[eC (by omega)];simp) (by omega) (by omega) (by omega) uX.2.1 uY.2.1 hl mR) [(1000001,1000001)] rfl ⟨lr,lr,SV.le_int (by omega),lr,lr,trivial⟩ ⟨rr,trivial⟩ rfl rfl ?_;rintro y rout ⟨rfl,Z2,z3,z4,rfl⟩;refine⟨rfl,?_⟩;conv=>whnf)|(refine br_intro ?_ ?_<;>intro hb<;>(try simp only[brs]at hb)<;>conv=>whnf)|(refine RegX.rule (id:=5) hT rfl [] oQMgB127_5 (by decide+kernel) ?_;conv=>whnf)|(refine RegX.rule (id:=11) hT rfl [] oQMgB127_11 (by decide+kernel) ?_;conv=>whnf)|(refine RegX.rule (id:=17) hT rfl [] oQMgB127_17 (by decide+kernel) ?_;conv=>whnf)|(refine RegX.rule (id:=23) hT rfl [] oQMgB127_23 (by decide+kernel) ?_;conv=>whnf)|(refine RegX.rule (id:=35) hT rfl [] oQMgB127_35 (by decide+kernel) ?_;conv=>whnf)|omega|(refine And.intro ?_ ?_;((try dsimp only);first|omega|(refine szA rfl ?_;omega)|(refine szB rfl ?_;omega)|(unfold inI64;omega)|exact rfl|(simp only[List.toList_toArray,List.length_cons,List.length_nil];omega)|(simp only[lns]at*;omega)|decide|(unfold inI64;decide));conv=>whnf)|decide|assumption)
    all_goals try(exfalso;omega)
    all_goals
     refine .ret _ ?_
     conv=>whnf
     first
      |exact⟨_,⟨rfl,Z1++Z2,(J z1 z2 z3 z4).1,(J z1 z2 z3 z4).2,rfl⟩,by simp only[List.append_assoc];exact rr,trivial⟩
      |exact⟨_,⟨rfl,Z1++(X2++Y2),(J z1 z2 (List.Perm.refl _) (sR (by omega))).1,(J z1 z2 (List.Perm.refl _) (sR (by omega))).2,rfl⟩,by simp only[List.append_assoc];exact rr,trivial⟩
      |exact⟨_,⟨rfl,(X1++Y1)++Z2,(J (List.Perm.refl _) (sL (by omega)) z3 z4).1,(J (List.Perm.refl _) (sL (by omega)) z3 z4).2,rfl⟩,by simp only[List.append_assoc];exact rr,trivial⟩
      |exact⟨_,⟨rfl,(X1++Y1)++(X2++Y2),(J (List.Perm.refl _) (sL (by omega)) (List.Perm.refl _) (sR (by omega))).1,(J (List.Perm.refl _) (sL (by omega)) (List.Perm.refl _) (sR (by omega))).2,rfl⟩,by simp only[List.append_assoc];exact rr,trivial⟩
      |exact⟨_,⟨rfl,(X1++Y1)++(X2++Y2),(J (List.Perm.refl _) (sL (by omega)) (List.Perm.refl _) (sR (by omega))).1,(J (List.Perm.refl _) (sL (by omega)) (List.Perm.refl _) (sR (by omega))).2,rfl⟩,by rw[eC (by omega)];simp only[List.append_assoc];exact rr,trivial⟩
theorem wSymEn (g:FuncId)(f:Ent→Ent→Int)(hf:TOrd f):∀ (n:Nat) (P X Y S c:List Ent) (a m b:Nat),X.length+Y.length≤n→P.length=a→a+X.length=m→m+Y.length=b→c=P++(X++(Y++S))→1≤X.length→1≤Y.length→Srt f X→Srt f Y→c.length≤2^20→
 (∀p q,p ∈ X++Y→q ∈ X++Y→FSpec Tryz.prog g [.agg ((enF p).map .d),.agg ((enF q).map .d)] [] (fun y r=>y= .d (.int .i64 (f p q))∧r= []))→SymEn g f P X Y S c a m b
 |0=>fun P X Y S c a m b h0 _ _ _ _ hX1 _ _ _ _ _=>by omega
 | n +1=>fun P X Y S c a m b h0 ha hm hb0 hc hX1 hY1 hX hY hl hcmp=>by
   by_cases q:X.length=1
   · obtain⟨x,rfl⟩:=List.length_eq_one_iff.1 q
     exact wSymAEn g f hf P Y S c x a m b ha hm hb0 hc hY hl hcmp
   by_cases r:Y.length=1
   · obtain⟨x,rfl⟩:=List.length_eq_one_iff.1 r
     exact wSymBEn g f hf P X S c x a m b ha hm (by omega) hb0 hc hX hl hcmp
   exact wSymCEn g f hf P X Y S c a m b ha hm hb0 hc (by omega) (by omega) hX hY hl hcmp fun P X' Y' S c a m b k1 k2 k3 k4 k5 k6 k7 k8 k9 k10 k11=>
    wSymEn g f hf n P X' Y' S c a m b (by omega) k1 k2 k3 k4 k5 k6 k8 k9 k10 fun p q hp hq=>hcmp p q (k11 p hp) (k11 q hq)
def oQMgC126_4:OL:= [(0,[]),(1,[0]),(2,[]),(3,[]),(4,[]),(5,[4]),(6,[4,5]),(7,[4]),(8,[4]),(9,[4,5,6,7,8]),(10,[4,5,6,7,8,9]),(11,[4,5,6,7,8,9]),(12,[4,5,6,7,8]),(13,[4,5,6,7,8]),(14,[]),(15,[]),(16,[])]
def oQMgC126_6:OL:= [(0,[]),(1,[0]),(2,[0,1]),(3,[0,1,2]),(4,[0,1,2]),(5,rg 5),(6,rg 6),(7,rg 6),(8,rg 5),(9,rg 5),(10,rg 10),(11,rg 11),(12,rg 10),(13,rg 10),(14,[2,3,4]),(15,[2,3,4]),(16,[]),(17,[])]
theorem wInsREn (g:FuncId)(cmp:Ent→Ent→Int)(P l S c0:List Ent)(a b0:Nat)(ha:P.length=a)(hbb:a+l.length=b0)(hc0:c0=P++(l++S))(hl:c0.length≤2^20)
 (hcmp:∀p q,p ∈ l→q ∈ l→FSpec Tryz.prog g [.agg ((enF p).map .d),.agg ((enF q).map .d)] [] (fun y r=>y= .d (.int .i64 (cmp p q))∧r= [])):
 FSpec Tryz.prog 126 [.buf 1000001,.d (.int .i64 a),.d (.int .i64 b0),.fn g []] [(1000001,seqB 52 4 enF en0 c0)]
  (fun y r=>y= .tup []∧r= [(1000001,seqB 52 4 enF en0 (P++(isort cmp l++S)))]):=by
 have hl0:=hl;rw[hc0]at hl0;simp only[List.length_append]at hl0;refine spec_of hT (C:= []) Tryz.func126 rfl Tryz.call126 rfl rfl rfl ?_;conv=>whnf
 repeat' (first|((first|(refine br_intro ?_ ?_<;>intro hb<;>try simp only[brs]at hb)|refine rAx hT 4 oQMgC126_4 ?_|refine rAx hT 6 oQMgC126_6 ?_|omega|refine sAx ?_|decide|assumption)<;>conv=>whnf))
 refine LoopX.rule hT (C:= []) (ι:=Nat×Nat×List Ent) (fun(k,i,c)=>k=a+i∧1≤i∧(i≤l.length∨i=1)∧c=P++((isortR cmp (l.take i)).reverse++(l.drop i++S)))
  (fun(k,_,c)=>mkSt [(0,.buf 1000001),(1,.d (.int .i64 a)),(2,.d (.int .i64 b0)),(3,.fn g []),(8,.d (.int .i64 k))] [(1000001,seqB 52 4 enF en0 c)])
  (fun(_,i,_)=>l.length - i) (a+1,1,c0) ⟨rfl,by simp,by simp,by rw[hc0];cases l with|nil=>rfl|cons x l=>simp[isortR,insR]⟩ (by exact eAx [(1000001,1000001)]) ?_
 rintro⟨k,i,c⟩ ⟨p0,p1,p2,p3⟩;try dsimp only at p0 p1 p2 p3
 rcases Nat.lt_or_ge i l.length with hi|hi
 · have hx:l[i] ∈ l:=List.getElem_mem hi;have hmem:∀y ∈ isortR cmp (l.take i),y ∈ l:=fun y hy=>List.mem_of_mem_take ((isortR_mem cmp _).1 hy)
   have hlr:(isortR cmp (l.take i)).length=i:=by rw[isortR_length,List.length_take];omega
   have hc:c=P++((isortR cmp (l.take i)).reverse++(l[i]::([]++(l.drop (i+1)++S)))):=by rw[p3,List.drop_eq_getElem_cons hi];rfl
   have hlc:c.length=P.length+l.length+S.length:=by rw[hc];simp only[List.length_append,List.length_cons,List.length_reverse,List.length_drop,List.length_nil,hlr];omega
   conv=>whnf
   repeat' (first|((first|(refine br_intro ?_ ?_<;>intro hb<;>try simp only[brs]at hb)|refine rAx hT 4 oQMgC126_4 ?_|refine rAx hT 6 oQMgC126_6 ?_|omega|refine sAx ?_|decide|assumption)<;>conv=>whnf))
   all_goals try(exfalso;omega)
   refine LoopX.rule hT (C:= []) (ι:=Nat×List Ent×List Ent×List Ent) (fun(j,A,B,b)=>j=a+A.length∧insR cmp l[i] (isortR cmp (l.take i))=B.reverse++insR cmp l[i] A∧A.length+B.length=i∧(∀y ∈ A,y ∈ l)∧b=P++(A.reverse++(l[i]::(B++(l.drop (i+1)++S)))))
    (fun(j,_,_,b)=>mkSt [(0,.buf 1000001),(1,.d (.int .i64 a)),(2,.d (.int .i64 b0)),(3,.fn g []),(8,.d (.int .i64 k)),(9,.d (.int .i64 j))] [(1000001,seqB 52 4 enF en0 b)])
    (fun(_,A,_,_)=>A.length) (k,isortR cmp (l.take i),[],c) ⟨by omega,by simp,by simpa using hlr,hmem,hc⟩ (by exact eAx [(1000001,1000001)]) ?_
   rintro⟨j,A,B,b⟩ ⟨q0,q1,q2,q3,hbd⟩;try dsimp only at q0 q1 q2 q3 hbd
   have hlen:b.length=P.length+l.length+S.length:=by rw[hbd];simp only[List.length_append,List.length_cons,List.length_reverse,List.length_drop];omega
   have hfin:A= []∨(∃y A',A=y::A'∧0≤cmp l[i] y)→b=P++((isortR cmp (l.take (i+1))).reverse++(l.drop (i+1)++S)):=fun h=>by
    have e:isortR cmp (l.take (i+1))=B.reverse++l[i]::A:=by
     rw[take_snoc hi,isortR_snoc,q1];rcases h with rfl|⟨y,A',rfl,h⟩
     · rfl
     · rw[insR,if_neg (by omega)]
    rw[e,hbd];simp
   cases A with
   | nil=>
     simp only[List.length_nil]at q0 q2;conv=>whnf
     repeat' (first|((first|(refine br_intro ?_ ?_<;>intro hb<;>try simp only[brs]at hb)|refine rAx hT 4 oQMgC126_4 ?_|refine rAx hT 6 oQMgC126_6 ?_|omega|refine sAx ?_|decide|assumption)<;>conv=>whnf))
     all_goals try(exfalso;omega)
     exact⟨(k+1,i+1,b),⟨by show k+1=a+(i+1);omega,by show 1≤i+1;omega,.inl hi,hfin (.inl rfl)⟩,by show l.length - (i+1)<l.length - i;omega,(by exact eAx [(1000001,1000001)])⟩
   | cons y A=>
     simp only[List.length_cons]at q0 q2;obtain⟨g1,g2,g3⟩:=swp_at (P++A.reverse) [] (B++(l.drop (i+1)++S)) y l[i] en0;have hc':b=(P++A.reverse)++y::([]++l[i]::(B++(l.drop (i+1)++S))):=by rw[hbd];simp
     have i1:((j:Int) - 1).toNat=(P++A.reverse).length:=by simp only[List.length_append,List.length_reverse];omega
     have i2:(j:Int).toNat=(P++A.reverse).length+1+([]:List Ent).length:=by simp only[List.length_append,List.length_nil,List.length_reverse];omega
     rw[←hc',←i1]at g1;rw[←hc',←i2]at g2;rw[←hc',←i2,←i1]at g3;conv=>whnf
     repeat' (first|((first|(refine CallX.of (hcmp l[i] y hx (q3 y (by simp))) [] rfl ⟨by rw[←g2];exact lr,by rw[←g1];exact lr,trivial⟩ trivial rfl rfl ?_;rintro x rout ⟨rfl,rfl⟩;refine⟨rfl,?_⟩)|(refine br_intro ?_ ?_<;>intro hb<;>try simp only[brs]at hb)|refine rAx hT 4 oQMgC126_4 ?_|refine rAx hT 6 oQMgC126_6 ?_|omega|refine sAx ?_|decide|assumption)<;>conv=>whnf))
     all_goals try(exfalso;omega)
     · refine⟨(j - 1,A,y::B,(b.set (j:Int).toNat (b.getD ((j:Int) - 1).toNat en0)).set ((j:Int) - 1).toNat (b.getD (j:Int).toNat en0)),⟨by omega,by rw[q1];simp[insR,hb],by simp only[List.length_cons];omega,fun z hz=>q3 z (by simp[hz]),?_⟩,by show A.length<(y::A).length;simp,Entails.mk' [(1000001,1000001)] rfl rfl ⟨lr,lr,lr,lr,lr,SV.le_int (by omega),trivial⟩ ⟨Res.le_put2 (fun _=>rfl) (fun _=>rfl),trivial⟩⟩;rw[List.set_comm _ _ (by omega),g1,g2,g3];simp
     · exact⟨(k+1,i+1,b),⟨by show k+1=a+(i+1);omega,by show 1≤i+1;omega,.inl hi,hfin (.inr ⟨y,A,rfl,by omega⟩)⟩,by show l.length - (i+1)<l.length - i;omega,(by exact eAx [(1000001,1000001)])⟩
 · conv=>whnf
   repeat' (first|((first|(refine br_intro ?_ ?_<;>intro hb<;>try simp only[brs]at hb)|refine rAx hT 4 oQMgC126_4 ?_|refine rAx hT 6 oQMgC126_6 ?_|omega|refine sAx ?_|decide|assumption)<;>conv=>whnf))
   all_goals try(exfalso;omega)
   refine .ret _ ?_;conv=>whnf
   have e1:c=P++(isort cmp l++S):=by
    rw[p3,List.take_of_length_le (by omega),List.drop_eq_nil_iff.2 (by omega),List.nil_append];rfl
   subst e1;exact⟨_,⟨rfl,rfl⟩,rr,trivial⟩
set_option maxHeartbeats 4000000 in
theorem wStabEn (g:FuncId)(f:Ent→Ent→Int)(hf:TOrd f)(l:List Ent)(hl:l.length≤2^19)
 (hcmp:∀p q,p ∈ l→q ∈ l→FSpec Tryz.prog g [.agg ((enF p).map .d),.agg ((enF q).map .d)] [] (fun y r=>y= .d (.int .i64 (f p q))∧r= [])):
 FSpec Tryz.prog 84 [.buf 1000001,.d (.int .i64 l.length),.fn g []] [(1000001,seqB 52 4 enF en0 l)]
  (fun y r=>y= .tup []∧∃Z,Z.Perm l∧Srt f Z∧r= [(1000001,seqB 52 4 enF en0 Z)]):=by
 obtain⟨n,hn⟩:∃n,n=l.length:=⟨_,rfl⟩;rw[←hn]at hl ⊢;refine spec_of hT (C:= []) Tryz.func84 rfl Tryz.call84 rfl rfl rfl ?_;conv=>whnf
 repeat' (first|((first|(refine br_intro ?_ ?_<;>intro hb<;>try simp only[brs]at hb)|omega|refine sAx ?_|decide|assumption)<;>conv=>whnf))
 refine LoopX.rule hT (C:= []) (ι:=Nat×List (List Ent)×List Ent×List Ent) (fun(a,D,R,c)=>(∀x ∈ D,x.length=20∧Srt f x)∧D.flatten.length=a∧c=D.flatten++R∧c.Perm l)
  (fun(a,_,_,c)=>mkSt [(0,.buf 1000001),(1,.d (.int .i64 n)),(2,.fn g []),(6,.d (.int .i64 20)),(7,.d (.int .i64 a)),(8,.d (.int .i64 ((a+20:Nat):Int)))] [(1000001,seqB 52 4 enF en0 c)])
  (fun(_,_,R,_)=>R.length) (0,[],l,l) ⟨by simp,rfl,rfl,List.Perm.refl _⟩ (by exact eAx [(1000001,1000001)]) ?_
 rintro⟨a,D,R,c⟩ ⟨p1,p2,p3,p4⟩;try dsimp only at p1 p2 p3 p4
 have q1:a+R.length=n:=by rw[hn,←p4.length_eq,p3,List.length_append,p2]
 rcases Nat.lt_or_ge R.length 20 with q|q
 · have hcI:=wInsREn g f D.flatten R [] c a n p2 q1 (by rw[p3,List.append_nil]) (by rw[p4.length_eq];omega) (fun x y hx hy=>hcmp x y (p4.mem_iff.1 (by rw[p3];simp[hx])) (p4.mem_iff.1 (by rw[p3];simp[hy])));rw[List.append_nil]at hcI
   have p4':(D.flatten++isort f R).Perm l:=by
    refine List.Perm.trans ?_ p4;rw[p3];exact List.Perm.append_left _ (isort_perm f R)
   have hR:(isort f R).length=R.length:=(isort_perm f R).length_eq;have sR:=isort_srt hf R;generalize isort f R=T at hcI p4' hR sR;conv=>whnf
   repeat' (first|((first|(refine oAx hcI [(1000001,1000001)] ?_;rintro y rout ⟨rfl,rfl⟩;refine⟨rfl,?_⟩)|(refine br_intro ?_ ?_<;>intro hb<;>try simp only[brs]at hb)|omega|refine sAx ?_|decide|assumption)<;>conv=>whnf))
   all_goals try(exfalso;omega)
   refine LoopX.rule hT (C:= []) (ι:=Nat×List (List Ent)×List Ent×List Ent) (fun(bs,D,t,c)=>20≤bs∧bs≤2*n+20∧(∀x ∈ D,x.length=bs∧Srt f x)∧t.length<bs∧Srt f t∧c=D.flatten++t∧c.Perm l)
    (fun(bs,_,_,c)=>mkSt [(0,.buf 1000001),(1,.d (.int .i64 n)),(2,.fn g []),(6,.d (.int .i64 bs))] [(1000001,seqB 52 4 enF en0 c)])
    (fun(bs,_,_,_)=>2*n - bs) (20,D,T,D.flatten++T) ⟨Nat.le_refl _,by show 20≤2*n+20;omega,p1,by show T.length<20;omega,sR,rfl,p4'⟩ (by exact eAx [(1000001,1000001)]) ?_
   clear hcI p4' sR hR p1 p2 p3 p4 q1 q;rintro⟨bs,D,t,c⟩ ⟨p1,p2,p3,p4,p5,p6,p7⟩;try dsimp only at p1 p2 p3 p4 p5 p6 p7
   have q1:D.flatten.length+t.length=n:=by rw[hn,←p7.length_eq,p6,List.length_append]
   rcases Nat.lt_or_ge bs n with q|q
   · conv=>whnf
     repeat' (first|((first|(refine br_intro ?_ ?_<;>intro hb<;>try simp only[brs]at hb)|omega|refine sAx ?_|decide|assumption)<;>conv=>whnf))
     all_goals try(exfalso;omega)
     refine LoopX.rule hT (C:= []) (ι:=Nat×List (List Ent)×List (List Ent)×List Ent) (fun(a,E,D,c)=>(∀x ∈ E,x.length=2*bs∧Srt f x)∧(∀x ∈ D,x.length=bs∧Srt f x)∧E.flatten.length=a∧c=E.flatten++(D.flatten++t)∧c.Perm l)
      (fun(a,_,_,c)=>mkSt [(0,.buf 1000001),(1,.d (.int .i64 n)),(2,.fn g []),(6,.d (.int .i64 bs)),(7,.d (.int .i64 a)),(8,.d (.int .i64 ((a+2*bs:Nat):Int)))] [(1000001,seqB 52 4 enF en0 c)])
      (fun(_,_,D,_)=>D.length) (0,[],D,c) ⟨by simp,p3,rfl,p6,p7⟩ (by exact eAx [(1000001,1000001)]) ?_
     clear p3 p6 p7 q1;rintro⟨a,E,D,c⟩ ⟨r1,r2,r3,r4,r5⟩;try dsimp only at r1 r2 r3 r4 r5
     have q1:a+D.flatten.length+t.length=n:=by rw[hn,←r5.length_eq,r4,List.length_append,List.length_append];omega
     have hlc:c.length≤2^20:=by rw[r5.length_eq];omega
     have hcm:∀p q,p ∈ c→q ∈ c→FSpec Tryz.prog g [.agg ((enF p).map .d),.agg ((enF q).map .d)] [] (fun y r=>y= .d (.int .i64 (f p q))∧r= []):=fun p q hp hq=>hcmp p q (r5.mem_iff.1 hp) (r5.mem_iff.1 hq)
     match D,r2,r4,q1 with
     | [],r2,r4,q1=>
       simp only[List.flatten_nil,List.length_nil,List.nil_append]at q1 r4;conv=>whnf
       repeat' (first|((first|(refine br_intro ?_ ?_<;>intro hb<;>try simp only[brs]at hb)|omega|refine sAx ?_|decide|assumption)<;>conv=>whnf))
       all_goals try(exfalso;omega)
       exact⟨(2*bs,E,t,c),⟨by show 20≤2*bs;omega,by show 2*bs≤2*n+20;omega,r1,by show t.length<2*bs;omega,p5,r4,r5⟩,by show 2*n - 2*bs<2*n - bs;omega,(by exact eAx [(1000001,1000001)])⟩
     | [c1],r2,r4,q1=>
       simp only[List.flatten_cons,List.flatten_nil,List.append_nil]at q1 r4;have k1:=r2 c1 (by simp)
       by_cases ht:t.length=0
       · have et:t= []:=List.length_eq_zero_iff.1 ht;conv=>whnf
         repeat' (first|((first|(refine br_intro ?_ ?_<;>intro hb<;>try simp only[brs]at hb)|omega|refine sAx ?_|decide|assumption)<;>conv=>whnf))
         all_goals try(exfalso;omega)
         exact⟨(2*bs,E,c1,c),⟨by show 20≤2*bs;omega,by show 2*bs≤2*n+20;omega,r1,by show c1.length<2*bs;omega,k1.2,by show c=_;rw[r4,et,List.append_nil],r5⟩,by show 2*n - 2*bs<2*n - bs;omega,(by exact eAx [(1000001,1000001)])⟩
       · have hcS:=wSymEn g f hf (c1.length+t.length) E.flatten c1 t [] c a (a+bs) n (Nat.le_refl _) r3 (by omega) (by omega) (by rw[r4];simp) (by omega) (by omega) k1.2 p5 hlc (fun p q hp hq=>hcm p q (by rw[r4];exact List.mem_append_right _ hp) (by rw[r4];exact List.mem_append_right _ hq));conv=>whnf
         repeat' (first|((first|(refine CallX.of hcS [(1000001,1000001)] rfl ⟨lr,lr,SV.le_int (by omega),lr,lr,trivial⟩ ⟨rr,trivial⟩ rfl rfl ?_;rintro y rout ⟨rfl,Z,z1,z2,rfl⟩;refine⟨rfl,?_⟩)|(refine br_intro ?_ ?_<;>intro hb<;>try simp only[brs]at hb)|omega|refine sAx ?_|decide|assumption)<;>conv=>whnf))
         all_goals try(exfalso;omega)
         have hz:=z1.length_eq;rw[List.length_append]at hz;rw[List.append_nil]at*
         exact⟨(2*bs,E,Z,E.flatten++Z),⟨by show 20≤2*bs;omega,by show 2*bs≤2*n+20;omega,r1,by show Z.length<2*bs;omega,z2,rfl,(List.Perm.append_left _ z1).trans (by rw[←r4];exact r5)⟩,by show 2*n - 2*bs<2*n - bs;omega,(by exact eAx [(1000001,1000001)])⟩
     | c1::c2::D,r2,r4,q1=>
       simp only[List.flatten_cons,List.length_append]at q1;have k1:=r2 c1 (by simp);have k2:=r2 c2 (by simp);have r4':c=E.flatten++(c1++(c2++(D.flatten++t))):=by rw[r4];simp
       have hcS:=wSymEn g f hf (c1.length+c2.length) E.flatten c1 c2 (D.flatten++t) c a (a+bs) (a+2*bs) (Nat.le_refl _) r3 (by omega) (by omega) r4' (by omega) (by omega) k1.2 k2.2 hlc (fun p q hp hq=>hcm p q (by rw[r4'];rcases List.mem_append.1 hp with u|u<;>simp[u]) (by rw[r4'];rcases List.mem_append.1 hq with u|u<;>simp[u]));conv=>whnf
       repeat' (first|((first|(refine CallX.of hcS [(1000001,1000001)] rfl ⟨lr,lr,SV.le_int (by omega),lr,lr,trivial⟩ ⟨rr,trivial⟩ rfl rfl ?_;rintro y rout ⟨rfl,Z,z1,z2,rfl⟩;refine⟨rfl,?_⟩)|(refine br_intro ?_ ?_<;>intro hb<;>try simp only[brs]at hb)|omega|refine sAx ?_|decide|assumption)<;>conv=>whnf))
       all_goals try(exfalso;omega)
       have hz:=z1.length_eq;rw[List.length_append]at hz;refine⟨(a+2*bs,E++ [Z],D,E.flatten++(Z++(D.flatten++t))),⟨fun x hx=> ?_,fun x hx=>r2 x (by simp[hx]),by simp only[List.flatten_append,List.flatten_cons,List.flatten_nil,List.append_nil,List.length_append];omega,by simp,?_⟩,by show D.length<(c1::c2::D).length;simp;omega,(by exact eAx [(1000001,1000001)])⟩
       · rcases List.mem_append.1 hx with u|u
         · exact r1 x u
         · rw[List.mem_singleton]at u;subst u;exact⟨by omega,z2⟩
       · refine List.Perm.trans ?_ r5;rw[r4',←List.append_assoc c1];exact List.Perm.append_left _ (z1.append_right _)
   · conv=>whnf
     repeat' (first|((first|(refine br_intro ?_ ?_<;>intro hb<;>try simp only[brs]at hb)|omega|refine sAx ?_|decide|assumption)<;>conv=>whnf))
     all_goals try(exfalso;omega)
     refine .ret _ ?_;conv=>whnf
     refine⟨_,⟨rfl,c,p7,?_,rfl⟩,rr,trivial⟩
     match D,p3,p6,q1 with
     | [],p3,p6,q1=>rw[p6];exact p5
     | c1::D,p3,p6,q1=>
       have k1:=p3 c1 (by simp);simp only[List.flatten_cons,List.length_append]at q1;have h1:D.flatten= []:=List.length_eq_zero_iff.1 (by omega);have h2:t= []:=List.length_eq_zero_iff.1 (by omega);rw[p6,List.flatten_cons,h1,h2,List.append_nil,List.append_nil];exact k1.2
 · have hT0:(R.take 20).length=20:=by rw[List.length_take];omega
   have hR:R.take 20++R.drop 20=R:=List.take_append_drop 20 R;have hD:(R.drop 20).length=R.length - 20:=List.length_drop ..;generalize R.take 20=R1 at hT0 hR;generalize R.drop 20=R2 at hR hD;subst hR;have hcI:=wInsREn g f D.flatten R1 R2 c a (a+20) p2 (by omega) p3 (by rw[p4.length_eq];omega) (fun x y hx hy=>hcmp x y (p4.mem_iff.1 (by rw[p3];simp[hx])) (p4.mem_iff.1 (by rw[p3];simp[hy])));conv=>whnf
   repeat' (first|((first|(refine oAx hcI [(1000001,1000001)] ?_;rintro y rout ⟨rfl,rfl⟩;refine⟨rfl,?_⟩)|(refine br_intro ?_ ?_<;>intro hb<;>try simp only[brs]at hb)|omega|refine sAx ?_|decide|assumption)<;>conv=>whnf))
   all_goals try(exfalso;omega)
   refine⟨(a+20,D++ [isort f R1],R2,D.flatten++(isort f R1++R2)),⟨fun x hx=> ?_,by simp only[List.flatten_append,List.flatten_cons,List.flatten_nil,List.append_nil,List.length_append,(isort_perm f R1).length_eq];omega,by simp,?_⟩,by show R2.length<(R1++R2).length;rw[List.length_append];omega,(by exact eAx [(1000001,1000001)])⟩
   · rcases List.mem_append.1 hx with u|u
     · exact p1 x u
     · rw[List.mem_singleton]at u;subst u;exact⟨by rw[(isort_perm f R1).length_eq];exact hT0,isort_srt hf R1⟩
   · refine List.Perm.trans ?_ p4;rw[p3];exact List.Perm.append_left _ ((isort_perm f R1).append_right _)
theorem wSStEn (g:FuncId)(f:Ent→Ent→Int)(hf:TOrd f)(l:List Ent)(hl:l.length≤2^19)(hz:∀a ∈ l,∀b ∈ l,f a b=0→a=b)
 (hcmp:∀p q,p ∈ l→q ∈ l→FSpec Tryz.prog g [.agg ((enF p).map .d),.agg ((enF q).map .d)] [] (fun y r=>y= .d (.int .i64 (f p q))∧r= [])):
 FSpec Tryz.prog 42 [.buf 1000001,.fn g []] [(1000001,seqB 52 4 enF en0 l)]
  (fun y r=>y= .tup []∧r= [(1000001,seqB 52 4 enF en0 (isort f l))]):=by
 refine spec_of hT (C:= []) Tryz.func42 rfl Tryz.call42 rfl rfl rfl ?_;conv=>whnf
 repeat' (first|((first|(refine oAx (wStabEn g f hf l hl hcmp) [(1000001,1000001)] ?_;rintro y rout ⟨rfl,Z,z1,z2,rfl⟩;refine⟨rfl,?_⟩)|(refine br_intro ?_ ?_<;>intro hb<;>try simp only[brs]at hb)|omega|refine sAx ?_|decide|assumption)<;>conv=>whnf))
 refine .ret _ ?_;conv=>whnf
 rw[sort_one hf hz z1 z2];exact⟨_,⟨rfl,rfl⟩,rr,trivial⟩
theorem wMerge (a b:List Ent)(ha:entOk a)(hb':entOk b)(hn:a.length+b.length≤2^18):
 FSpec Tryz.prog 19 [.d (ents a),.d (ents b)] [] (fun x r=>x= .tup [.d (if mrgF a b=0 then ents (mrgEL a b)else .nilsl),.d (.int .i64 (mrgF a b))]∧r= []):=by
 have hml:=mrgEL_len a b;have hfl: [a,b].flatten=a++b:=by simp
 have h156:=sConcatE [a,b] (by simp) (by simp[lensE];omega);rw[hfl]at h156;have h62:=wSStEn 43 cmpE4 cmpE4_ord (a++b) (by rw[List.length_append];omega) (fun p _ q _ h=>cmpE4_zero.1 h) (fun p q _ _=>lz157 p q);have hil:(isort cmpE4 (a++b)).length=a.length+b.length:=by unfold isort;rw[List.length_reverse,isortR_length,List.length_append]
 have h160:=en151 (isort cmpE4 (a++b)) (by omega);rw[show cptE (isort cmpE4 (a++b)) (isort cmpE4 (a++b)).length=mrgEL a b from rfl]at h160;refine spec_of hT (C:= []) Tryz.func19 rfl Tryz.call19 rfl rfl rfl ?_;conv=>whnf
 repeat' (first|(refine CallX.exact (lz64 a ha) rfl rfl ?_;rotate_right;conv=>whnf)|(refine CallX.exact (lz64 b hb') rfl rfl ?_;rotate_right;conv=>whnf)|((first|refine CallX.pure (s105 [_,_] (by simp)) ⟨SV.le_lit (by rfl) (by rfl),trivial⟩ rfl ?_|(refine br_intro ?_ ?_<;>intro hb<;>try simp only[brs]at hb)|omega|refine sAx ?_|decide|assumption)<;>conv=>whnf))
 · have hE:mrgF a b=firstE [entsE a,entsE b]:=by unfold mrgF;rw[if_pos hb]
   rw[hE,if_neg hb];refine .ret _ ?_;conv=>whnf
   refine⟨[],⟨congrArg SV.tup ?_,rfl⟩,trivial⟩;repeat' (refine cons_eq ?_ ?_)
   all_goals (conv=>lhs;whnf)
   all_goals try(with_reducible rfl)
   all_goals rfl
 have hE:mrgF a b=if firstAt (cnE (mrgEL a b)) (mrgEL a b).length≠0 then 13 else if 1000<(mrgEL a b).length then 2 else 0:=by unfold mrgF;rw[if_neg (fun h=>h hb)]
 rw[hE];refine CallX.of h156 [(6,24)] rfl ⟨SV.le_lit (l:= [a,b]) rfl rfl,trivial⟩ trivial rfl rfl ?_;rintro x rout ⟨rfl,rfl⟩;refine⟨rfl,?_⟩;conv=>whnf
 repeat' (first|((first|(refine br_intro ?_ ?_<;>intro hb<;>try simp only[brs]at hb)|omega|refine sAx ?_|decide|assumption)<;>conv=>whnf))
 refine oAx h62 [(1000001,24)] ?_;rintro x rout ⟨rfl,rfl⟩;refine⟨rfl,?_⟩;conv=>whnf
 repeat' (first|((first|(refine br_intro ?_ ?_<;>intro hb<;>try simp only[brs]at hb)|omega|refine sAx ?_|decide|assumption)<;>conv=>whnf))
 refine oAx h160 [(1000001,24),(59,100)] ?_;rintro x rout ⟨d,hd,rfl,rfl⟩;rcases hd with rfl|rfl
 · refine⟨rfl,?_⟩;conv=>whnf
   repeat' (first|((first|(refine br_intro ?_ ?_<;>intro hb<;>try simp only[brs]at hb)|omega|refine sAx ?_|decide|assumption)<;>conv=>whnf))
   refine LoopX.rule hT (C:= []) (ι:=Nat) (fun i=>i≤(mrgEL a b).length∧∀j,j<i→cnE (mrgEL a b) j=0) (fun i=>mkSt [(7,.buf 7),(8,.mp 8),(30,.buf 7),(31,.d (.int .i64 (mrgEL a b).length)),(32,.d (.int .i64 i))] [(7,enB (mrgEL a b)),(8,enR ((mrgEL a b).take i))]) (fun i=>(mrgEL a b).length - i) 0 ⟨by omega,by omega⟩ ?_ ?_
   · refine Entails.mk' [(7,24),(8,29)] rfl rfl ⟨lr,lr,lr,lr,lr,trivial⟩ ⟨rr,Res.le_map (fun key hk=> ?_),trivial⟩;obtain⟨z1,z2,rfl⟩:=wk_si hk;exact⟨rfl,rfl⟩
   rintro i ⟨p1,p2⟩;have e1:(i:Int).toNat=i:=Int.toNat_natCast i;conv=>whnf
   repeat' (first|(refine And.intro (rfl:zrow _=some [DV.bool false]) ?_;conv=>whnf)|(simp only[Nat.beq_refl,cond_true];conv=>whnf)|((first|(refine br_intro ?_ ?_<;>intro hb<;>try simp only[brs]at hb)|omega|refine sAx ?_|decide|assumption)<;>conv=>whnf))
   · have hbd:dupE ((mrgEL a b).take i) ((mrgEL a b).getD i en0)=true:=hb;have h13:cnE (mrgEL a b) i=13:=by unfold cnE;rw[if_pos hbd]
     have hf:firstAt (cnE (mrgEL a b)) (mrgEL a b).length=13:=firstAt_eq (by omega) p2 (by decide) h13;rw[hf];refine .ret _ ?_;conv=>whnf
     refine⟨[],⟨congrArg SV.tup ?_,rfl⟩,trivial⟩;repeat' (refine cons_eq ?_ ?_)
     all_goals (conv=>lhs;whnf)
     all_goals try(with_reducible rfl)
     all_goals rfl
   · have hbd:dupE ((mrgEL a b).take i) ((mrgEL a b).getD i en0)=false:=hb;exact⟨i+1,⟨by omega,first_step p2 (by unfold cnE;rw[if_neg (by rw[hbd];simp)])⟩,by omega,Entails.mk' [(7,7),(8,8)] rfl rfl ⟨lr,lr,lr,lr,lr,trivial⟩ ⟨rr,enR_up (x:=(mrgEL a b).getD (i:Int).toNat en0) (by omega) (by rw[e1]),trivial⟩⟩
   · have hf:firstAt (cnE (mrgEL a b)) (mrgEL a b).length=0:=firstAt_zero (fun j hj=>p2 j (by omega));have hv:(if firstAt (cnE (mrgEL a b)) (mrgEL a b).length≠0 then(13:Int)else if 1000<(mrgEL a b).length then 2 else 0)=2:=by rw[hf,if_neg (by simp),if_pos (by omega)]
     rw[hv,if_neg (by decide)];refine .ret _ ?_;conv=>whnf
     refine⟨[],⟨congrArg SV.tup ?_,rfl⟩,trivial⟩;repeat' (refine cons_eq ?_ ?_)
     all_goals (conv=>lhs;whnf)
     all_goals try(with_reducible rfl)
     all_goals rfl
   · have hf:firstAt (cnE (mrgEL a b)) (mrgEL a b).length=0:=firstAt_zero (fun j hj=>p2 j (by omega));have hv:(if firstAt (cnE (mrgEL a b)) (mrgEL a b).length≠0 then(13:Int)else if 1000<(mrgEL a b).length then 2 else 0)=0:=by rw[hf,if_neg (by simp),if_neg (by omega)]
     rw[hv,if_pos rfl];refine .freeze _ 7 52 4 _ _ rfl ?_;refine .ret _ ?_;conv=>whnf
     refine⟨[],⟨congrArg SV.tup ?_,rfl⟩,trivial⟩;repeat' (refine cons_eq ?_ ?_)
     all_goals (conv=>lhs;whnf)
     all_goals try(with_reducible rfl)
 · refine⟨rfl,?_⟩;conv=>whnf
   repeat' (first|((first|(refine br_intro ?_ ?_<;>intro hb<;>try simp only[brs]at hb)|omega|refine sAx ?_|decide|assumption)<;>conv=>whnf))
   refine LoopX.rule hT (C:= []) (ι:=Nat) (fun i=>i≤(mrgEL a b).length∧∀j,j<i→cnE (mrgEL a b) j=0) (fun i=>mkSt [(7,.buf 7),(8,.mp 8),(30,.buf 7),(31,.d (.int .i64 (mrgEL a b).length)),(32,.d (.int .i64 i))] [(7,enB (mrgEL a b)),(8,enR ((mrgEL a b).take i))]) (fun i=>(mrgEL a b).length - i) 0 ⟨by omega,by omega⟩ ?_ ?_
   · refine Entails.mk' [(7,100),(8,29)] rfl rfl ⟨lr,lr,lr,lr,lr,trivial⟩ ⟨rr,Res.le_map (fun key hk=> ?_),trivial⟩;obtain⟨z1,z2,rfl⟩:=wk_si hk;exact⟨rfl,rfl⟩
   rintro i ⟨p1,p2⟩;have e1:(i:Int).toNat=i:=Int.toNat_natCast i;conv=>whnf
   repeat' (first|(refine And.intro (rfl:zrow _=some [DV.bool false]) ?_;conv=>whnf)|(simp only[Nat.beq_refl,cond_true];conv=>whnf)|((first|(refine br_intro ?_ ?_<;>intro hb<;>try simp only[brs]at hb)|omega|refine sAx ?_|decide|assumption)<;>conv=>whnf))
   · have hbd:dupE ((mrgEL a b).take i) ((mrgEL a b).getD i en0)=true:=hb;have h13:cnE (mrgEL a b) i=13:=by unfold cnE;rw[if_pos hbd]
     have hf:firstAt (cnE (mrgEL a b)) (mrgEL a b).length=13:=firstAt_eq (by omega) p2 (by decide) h13;rw[hf];refine .ret _ ?_;conv=>whnf
     refine⟨[],⟨congrArg SV.tup ?_,rfl⟩,trivial⟩;repeat' (refine cons_eq ?_ ?_)
     all_goals (conv=>lhs;whnf)
     all_goals try(with_reducible rfl)
     all_goals rfl
   · have hbd:dupE ((mrgEL a b).take i) ((mrgEL a b).getD i en0)=false:=hb;exact⟨i+1,⟨by omega,first_step p2 (by unfold cnE;rw[if_neg (by rw[hbd];simp)])⟩,by omega,Entails.mk' [(7,7),(8,8)] rfl rfl ⟨lr,lr,lr,lr,lr,trivial⟩ ⟨rr,enR_up (x:=(mrgEL a b).getD (i:Int).toNat en0) (by omega) (by rw[e1]),trivial⟩⟩
   · have hf:firstAt (cnE (mrgEL a b)) (mrgEL a b).length=0:=firstAt_zero (fun j hj=>p2 j (by omega));have hv:(if firstAt (cnE (mrgEL a b)) (mrgEL a b).length≠0 then(13:Int)else if 1000<(mrgEL a b).length then 2 else 0)=2:=by rw[hf,if_neg (by simp),if_pos (by omega)]
     rw[hv,if_neg (by decide)];refine .ret _ ?_;conv=>whnf
     refine⟨[],⟨congrArg SV.tup ?_,rfl⟩,trivial⟩;repeat' (refine cons_eq ?_ ?_)
     all_goals (conv=>lhs;whnf)
     all_goals try(with_reducible rfl)
     all_goals rfl
   · have hf:firstAt (cnE (mrgEL a b)) (mrgEL a b).length=0:=firstAt_zero (fun j hj=>p2 j (by omega));have hv:(if firstAt (cnE (mrgEL a b)) (mrgEL a b).length≠0 then(13:Int)else if 1000<(mrgEL a b).length then 2 else 0)=0:=by rw[hf,if_neg (by simp),if_neg (by omega)]
     rw[hv,if_pos rfl];refine .freeze _ 7 52 4 _ _ rfl ?_;refine .ret _ ?_;conv=>whnf
     refine⟨[],⟨congrArg SV.tup ?_,rfl⟩,trivial⟩;repeat' (refine cons_eq ?_ ?_)
     all_goals (conv=>lhs;whnf)
     all_goals try(with_reducible rfl)
def oQOrA18_11:OL:= [(0,[]),(1,[0]),(2,[0,1]),(3,[0,1,2]),(4,rg 4),(5,rg 5),(6,rg 4),(7,rg 4),(8,rg 8),(9,rg 9),(10,rg 8),(11,rg 8),(12,[2,3]),(13,[2,3]),(14,[]),(15,[])]
abbrev inBq (l:List Int):Res:=seqB 3 1 iF 0 l
def ints0 (q:Nat):List Int:=(List.range q).map fun(i:Nat)=>(i:Int)
theorem perm_swap2 {o:List Int}{j k:Nat}(hj:j<o.length)(hk:k<o.length):((o.set j (o.getD k 0)).set k (o.getD j 0)).Perm o:=by
 have h:=List.set_set_perm hj hk;rw[List.getD_eq_getElem?_getD,List.getD_eq_getElem?_getD,List.getElem?_eq_getElem hj,List.getElem?_eq_getElem hk];exact h
theorem wOrd (n:Nat)(L:Nat→Int)(hL:Rok n L)(a:Int)(h0:0≤a)(ha:a≤2^38)(q:Nat)(hq:q≤1000):
 FSpec Tryz.prog 18 [.ptr 1000000 0,.d (.int .i64 q)] [(1000000,strm n L a)] (fun y r=>∃o b,o.Perm (ints0 q)∧a≤b∧b≤a+q+1∧y= .buf 5∧r= [(1000000,strm n L b),(5,inBq o)]):=by
 refine spec_of hT (C:= []) Tryz.func18 rfl Tryz.call18 rfl rfl rfl ?_;conv=>whnf
 refine LoopX.rule hT (C:= []) (ι:=Nat×List Int) (fun(i,o)=>i≤q∧o=ints0 i)
  (fun(i,o)=>mkSt [(0,.ptr 1000000 0),(1,.d (.int .i64 q)),(5,.buf 5),(9,.d (.int .i64 q)),(10,.d (.int .i64 i))] [(1000000,strm n L a),(5,inBq o)]) (fun(i,_)=>q - i) (0,[]) ⟨by simp,rfl⟩ ?_ ?_
 · exact(Entails.nil 5 5 3 1 (rowF iF 0 []) rfl rfl (by decide)).trans (by exact eAx [(1000000,1000000),(5,5)])
 rintro⟨i,o⟩ ⟨p1,p2'⟩;have p1:i≤q:=p1;have p2':o=ints0 i:=p2';have p2:o.length=i:=by rw[p2'];simp[ints0]
 conv=>whnf
 repeat' (first|((first|(refine br_intro ?_ ?_<;>intro hb<;>try simp only[brs]at hb)|refine rAx hT 11 oQOrA18_11 ?_|omega|refine sAx ?_|decide|assumption)<;>conv=>whnf))
 · exact⟨(i+1,o++ [(i:Int)]),⟨by omega,by show o++ [(i:Int)]=ints0 (i+1);rw[p2'];unfold ints0;rw[List.range_succ,List.map_append];rfl⟩,(show q - (i+1)<q - i by omega),Entails.mk' [(1000000,1000000),(5,16)] rfl rfl ⟨lr,lr,lr,lr,lr,trivial⟩ ⟨rr,Res.le_snocF rfl,trivial⟩⟩
 have hlen:o.length=q:=by omega
 refine LoopX.rule hT (C:= []) (ι:=Int×Int×List Int) (fun(b,j,o)=>(a≤b∧b+j≤a+q∧-1≤j∧j≤(q:Int) - 1)∧o.Perm (ints0 q))
  (fun(b,j,o)=>mkSt [(0,.ptr 1000000 0),(5,.buf 5),(7,.d (.int .i64 j))] [(1000000,strm n L b),(5,inBq o)]) (fun(_,j,_)=>(j+1).toNat) (a,(q:Int) - 1,o) ⟨⟨by show a≤a;omega,by show a+((q:Int) - 1)≤a+q;omega,by show -1≤(q:Int) - 1;omega,by show(q:Int) - 1≤(q:Int) - 1;omega⟩,by show o.Perm (ints0 q);rw[p2',show i=q by omega]⟩ (by exact eAx [(1000000,1000000),(5,5)]) ?_
 rintro⟨b,j,o⟩ ⟨⟨r1,r2,r3,r4⟩,r6⟩;have r1:a≤b:=r1;have r2:b+j≤a+q:=r2;have r3: -1≤j:=r3;have r4:j≤(q:Int) - 1:=r4;have r6:o.Perm (ints0 q):=r6;have r5:o.length=q:=by rw[r6.length_eq];simp[ints0]
 conv=>whnf
 repeat' (first|(refine CallX.of (s86 n L hL _ ?_ ?_ _ ?_) [(1000000,1000000)] rfl ⟨lr,lr,trivial⟩ ⟨rr,trivial⟩ rfl rfl ?_;rotate_right;rintro x rout ⟨⟨k,hk1,hk2,hk3,rfl⟩,⟨c,c1,c2,rfl⟩⟩;refine⟨rfl,?_⟩;conv=>whnf)|((first|(refine br_intro ?_ ?_<;>intro hb<;>try simp only[brs]at hb)|refine rAx hT 11 oQOrA18_11 ?_|omega|refine sAx ?_|decide|assumption)<;>conv=>whnf))
 all_goals first
  |(refine⟨(b+1,j - 1,(o.set j.toNat (o.getD k.toNat 0)).set k.toNat (o.getD j.toNat 0)),⟨⟨by omega,by omega,by omega,by omega⟩,(perm_swap2 (by omega) (by omega)).trans r6⟩,by show(j - 1+1).toNat<(j+1).toNat;omega,Entails.mk' [(1000000,1000000),(5,5)] rfl rfl ⟨lr,lr,lr,trivial⟩ ⟨rr,Res.le_put2 (fun _=>rfl) (fun _=>rfl),trivial⟩⟩)
  | (refine .ret _ ?_
     conv=>whnf
     exact⟨[(1000000,strm n L b),(5,inBq o)],⟨o,b,r6,by omega,by omega,rfl,rfl⟩,rr,rr,trivial⟩)
def oQEaC4_8:OL:= [(0,[]),(1,[0]),(2,[0]),(3,[0]),(4,rg 4),(5,rg 4),(6,[0]),(7,[]),(8,[])]
def oQEaC4_10:OL:= [(0,[]),(1,[]),(2,[]),(3,[0,1,2]),(4,[0,1,2]),(5,[0,1,2]),(6,[0,1,2]),(7,[0,1,2]),(8,rg 8),(9,rg 8),(10,[0,1,2]),(11,[]),(12,[])]
def oQEaC4_13:OL:= [(0,[]),(1,[]),(2,[]),(3,[]),(4,[]),(5,rg 5),(6,rg 5),(7,rg 5),(8,rg 5),(9,rg 5),(10,[]),(11,[]),(12,[]),(13,[12]),(14,[13]),(15,[])]
theorem perm3 {o:List Int}(h:o.Perm (ints0 3)):o= [0,1,2]∨o= [0,2,1]∨o= [1,0,2]∨o= [1,2,0]∨o= [2,0,1]∨o= [2,1,0]:=by
 have hl:o.length=3:=by rw[h.length_eq];rfl
 match o,hl with
 | [x,y,z],_=>
   have e:ints0 3= [0,1,2]:=rfl;rw[e]at h;have hm:∀w:Int,w ∈ [x,y,z]↔w ∈ ([0,1,2]:List Int):=fun w=>h.mem_iff
   have hn: [x,y,z].Nodup:=h.nodup_iff.2 (by decide);have hx:=(hm x).1 (by simp);have hy:=(hm y).1 (by simp);have hz:=(hm z).1 (by simp);simp only[List.mem_cons,List.not_mem_nil,or_false]at hx hy hz;simp only[List.nodup_cons,List.mem_cons,List.not_mem_nil,or_false,not_or]at hn;rcases hx with rfl|rfl|rfl<;>rcases hy with rfl|rfl|rfl<;>rcases hz with rfl|rfl|rfl<;>simp_all
set_option maxHeartbeats 16000000 in
theorem z4 (n:Nat)(L:Nat→Int)(hn:n≤maxLen)(hL0:∀i,-2^63≤L i∧L i<2^63):
 FSpec Tryz.prog 4 [.d (.ro 1 n fun i=> [.int .i64 (L i)])] kx (fun x r=>x= .d (.bool true)∧r=kx):=by
 have hL:Rok n L:=⟨hn,hL0⟩;refine spec_of hT (C:= []) Tryz.func4 rfl Tryz.call4 rfl rfl rfl ?_;conv=>whnf
 repeat' (first|(refine CallX.of (gRHouse n L hL _ ?_ ?_) [(1000000,23)] rfl ⟨lr,trivial⟩ ⟨rr,trivial⟩ rfl rfl ?_;rotate_right;rintro x rout ⟨⟨h,⟨hh,hE⟩,rfl⟩,⟨c,c1,c2,rfl⟩⟩;refine⟨rfl,?_⟩;conv=>whnf)|(refine CallX.of (s64 n L hL _ ?_ ?_ 0 18 (by omega) (by omega) (by omega) (by omega)) [(1000000,23)] rfl ⟨lr,lr,lr,trivial⟩ ⟨rr,trivial⟩ rfl rfl ?_;rotate_right;rintro x rout ⟨⟨m1,hm1,hm2,rfl⟩,⟨c,c1,c2,rfl⟩⟩;refine⟨rfl,?_⟩;conv=>whnf)|(refine CallX.of (gREnt n L hL _ ?_ ?_ m1 (by omega) (by omega)) [(1000000,23),(1000009,1000009)] rfl ⟨lr,lr,trivial⟩ ⟨rr,rr,trivial⟩ rfl rfl ?_;rotate_right;rintro x rout ⟨l,b,⟨hG,hlE⟩,⟨b1,b2⟩,rfl,rfl⟩;refine⟨rfl,?_⟩;conv=>whnf)|((first|(refine br_intro ?_ ?_<;>intro hb<;>try simp only[brs]at hb)|refine rAx hT 8 oQEaC4_8 ?_|refine rAx hT 10 oQEaC4_10 ?_|refine rAx hT 13 oQEaC4_13 ?_|omega|refine sAx ?_|decide|assumption)<;>conv=>whnf))
 all_goals try omega
 have k:=offH_of hh hE hG (by omega) hlE;have hll:l.length≤400:=k.len;have hR:=ents_iff.1 hlE;obtain⟨b0,hb0⟩:∃b0:Int,b0=b:=⟨_,rfl⟩;have hb1:0≤b0∧b0≤2^34:=by omega
 refine LoopX.rule hT (C:= []) (ι:=Int×Nat×List Ent×List Ent×List Ent) (fun(b,i,P0,P1,P2)=>(b0≤b∧b≤b0+2*i)∧i≤l.length∧prt l i P0 P1 P2)
  (fun(b,i,P0,P1,P2)=>mkSt [(3,.ptr 23 0),(4,.ptr 4 0),(5,.d (ents l)),(6,.ptr 6 0),(30,.d (ents l)),(31,.d (.int .i64 l.length)),(32,.d (.int .i64 i))] [(23,strm n L b),(1000009,KX),(4,.cells 42 (houC h)),(6,.cells 73 [.buf 161,.buf 162,.buf 163]),(161,enB P0),(162,enB P1),(163,enB P2)])
  (fun(_,i,_,_,_)=>l.length - i) (b,0,[],[],[]) ⟨⟨by show b0≤b;omega,by show b≤b0+2*((0:Nat):Int);omega⟩,Nat.zero_le _,⟨⟨List.nil_sublist _,List.nil_sublist _,List.nil_sublist _⟩,fun e he=>by simp at he⟩⟩ ?_ ?_
 · refine(Entails.nilCell 6 161 52 4 0 (rowF enF en0 []) rfl rfl rfl (by decide) rfl).trans ((Entails.nilCell 6 162 52 4 1 (rowF enF en0 []) rfl rfl rfl (by decide) rfl).trans ((Entails.nilCell 6 163 52 4 2 (rowF enF en0 []) rfl rfl rfl (by decide) rfl).trans ?_));exact Entails.mk' [(23,23),(1000009,1000009),(4,4),(6,6),(161,161),(162,162),(163,163)] rfl rfl ⟨lr,lr,lr,lr,lr,lr,lr,trivial⟩ ⟨rr,rr,rr,rr,rr,rr,rr,trivial⟩
 rintro⟨b,i,P0,P1,P2⟩ ⟨⟨p1,p2⟩,p3,p4⟩;have p1:b0≤b:=p1;have p2:b≤b0+2*i:=p2;have p3:i≤l.length:=p3;have p4:prt l i P0 P1 P2:=p4;have e1:(i:Int).toNat=i:=Int.toNat_natCast i;have hl0:P0.length≤400:=by have:=p4.1.1.length_le;rw[List.length_take]at this;omega
 have hl1:P1.length≤400:=by have:=p4.1.2.1.length_le;rw[List.length_take]at this;omega
 have hl2:P2.length≤400:=by have:=p4.1.2.2.length_le;rw[List.length_take]at this;omega
 rcases Nat.lt_or_ge i l.length with hin|hin
 · have stp:=fun{a' b' c':List Ent}=>prt_step (a':=a') (b':=b') (c':=c') hin p4
   rw[←e1]at stp;conv=>whnf
   repeat' (first|(refine oAx (s86 n L hL b (by omega) (by omega) 3 (by omega)) [(1000000,23)] ?_;rintro x rout ⟨⟨j,j1,j2,j3,rfl⟩,rfl⟩;have hj:j=0∨j=1∨j=2:=(by have:=j2 (by omega);omega);refine⟨rfl,?_⟩;rcases hj with rfl|rfl|rfl<;>conv=>whnf;conv=>whnf)|(refine oAx (s84 n L hL (b+1) (by omega) (by omega) 3 (by omega)) [(1000000,23)] ?_;rintro x rout ⟨⟨fb,rfl⟩,⟨c,d1,d2,rfl⟩⟩;refine⟨rfl,?_⟩;cases fb<;>conv=>whnf;conv=>whnf)|((first|(refine br_intro ?_ ?_<;>intro hb<;>try simp only[brs]at hb)|refine rAx hT 8 oQEaC4_8 ?_|refine rAx hT 10 oQEaC4_10 ?_|refine rAx hT 13 oQEaC4_13 ?_|omega|refine sAx ?_|decide|assumption)<;>conv=>whnf))
   all_goals try(exfalso;omega)
   all_goals first
    |exact⟨(c,i+1,P0++ [l.getD (i:Int).toNat en0],P1,P2),⟨⟨by show b0≤c;omega,by show c≤b0+2*((i+1:Nat):Int);omega⟩,by show i+1≤_;omega,stp (.inr rfl) (.inl rfl) (.inl rfl) (.inl rfl)⟩,by show l.length - (i+1)<l.length - i;omega,Entails.mk' [(23,23),(1000009,1000009),(4,4),(6,6),(161,44),(162,162),(163,163)] rfl rfl ⟨lr,lr,lr,lr,lr,lr,SV.le_int (by omega),trivial⟩ ⟨rr,rr,rr,rr,Res.le_snocF (x:=l.getD (i:Int).toNat en0) rfl,rr,rr,trivial⟩⟩
    |exact⟨(c,i+1,P0++ [l.getD (i:Int).toNat en0],P1++ [l.getD (i:Int).toNat en0],P2),⟨⟨by show b0≤c;omega,by show c≤b0+2*((i+1:Nat):Int);omega⟩,by show i+1≤_;omega,stp (.inr rfl) (.inr rfl) (.inl rfl) (.inl rfl)⟩,by show l.length - (i+1)<l.length - i;omega,Entails.mk' [(23,23),(1000009,1000009),(4,4),(6,6),(161,44),(162,58),(163,163)] rfl rfl ⟨lr,lr,lr,lr,lr,lr,SV.le_int (by omega),trivial⟩ ⟨rr,rr,rr,rr,Res.le_snocF (x:=l.getD (i:Int).toNat en0) rfl,Res.le_snocF (x:=l.getD (i:Int).toNat en0) rfl,rr,trivial⟩⟩
    |exact⟨(c,i+1,P0,P1++ [l.getD (i:Int).toNat en0],P2),⟨⟨by show b0≤c;omega,by show c≤b0+2*((i+1:Nat):Int);omega⟩,by show i+1≤_;omega,stp (.inl rfl) (.inr rfl) (.inl rfl) (.inr (.inl rfl))⟩,by show l.length - (i+1)<l.length - i;omega,Entails.mk' [(23,23),(1000009,1000009),(4,4),(6,6),(161,161),(162,44),(163,163)] rfl rfl ⟨lr,lr,lr,lr,lr,lr,SV.le_int (by omega),trivial⟩ ⟨rr,rr,rr,rr,rr,Res.le_snocF (x:=l.getD (i:Int).toNat en0) rfl,rr,trivial⟩⟩
    |exact⟨(c,i+1,P0,P1++ [l.getD (i:Int).toNat en0],P2++ [l.getD (i:Int).toNat en0]),⟨⟨by show b0≤c;omega,by show c≤b0+2*((i+1:Nat):Int);omega⟩,by show i+1≤_;omega,stp (.inl rfl) (.inr rfl) (.inr rfl) (.inr (.inl rfl))⟩,by show l.length - (i+1)<l.length - i;omega,Entails.mk' [(23,23),(1000009,1000009),(4,4),(6,6),(161,161),(162,44),(163,58)] rfl rfl ⟨lr,lr,lr,lr,lr,lr,SV.le_int (by omega),trivial⟩ ⟨rr,rr,rr,rr,rr,Res.le_snocF (x:=l.getD (i:Int).toNat en0) rfl,Res.le_snocF (x:=l.getD (i:Int).toNat en0) rfl,trivial⟩⟩
    |exact⟨(c,i+1,P0,P1,P2++ [l.getD (i:Int).toNat en0]),⟨⟨by show b0≤c;omega,by show c≤b0+2*((i+1:Nat):Int);omega⟩,by show i+1≤_;omega,stp (.inl rfl) (.inl rfl) (.inr rfl) (.inr (.inr rfl))⟩,by show l.length - (i+1)<l.length - i;omega,Entails.mk' [(23,23),(1000009,1000009),(4,4),(6,6),(161,161),(162,162),(163,44)] rfl rfl ⟨lr,lr,lr,lr,lr,lr,SV.le_int (by omega),trivial⟩ ⟨rr,rr,rr,rr,rr,rr,Res.le_snocF (x:=l.getD (i:Int).toNat en0) rfl,trivial⟩⟩
    |exact⟨(c,i+1,P0++ [l.getD (i:Int).toNat en0],P1,P2++ [l.getD (i:Int).toNat en0]),⟨⟨by show b0≤c;omega,by show c≤b0+2*((i+1:Nat):Int);omega⟩,by show i+1≤_;omega,stp (.inr rfl) (.inl rfl) (.inr rfl) (.inl rfl)⟩,by show l.length - (i+1)<l.length - i;omega,Entails.mk' [(23,23),(1000009,1000009),(4,4),(6,6),(161,58),(162,162),(163,44)] rfl rfl ⟨lr,lr,lr,lr,lr,lr,SV.le_int (by omega),trivial⟩ ⟨rr,rr,rr,rr,Res.le_snocF (x:=l.getD (i:Int).toNat en0) rfl,rr,Res.le_snocF (x:=l.getD (i:Int).toNat en0) rfl,trivial⟩⟩
 · have hil:i=l.length:=by omega
   rw[hil]at p4;unfold prt at p4;rw[List.take_length]at p4;obtain⟨⟨s0,s1,s2⟩,cv⟩:=p4;have eK:∀ {a:List Ent},a.Sublist l→entOk a:=fun{a} ha=>⟨by have:=ha.length_le;omega,fun e he=>k.ent.2 e (ha.subset he)⟩
   have M1:∀a b:List Ent,a.Sublist l→b.Sublist l→FSpec Tryz.prog 19 [.d (ents a),.d (ents b)] [] (fun x r=>x= .tup [.d (ents (mrgEL a b)),.d (.int .i64 0)]∧r= []):=fun a b ha hb=>by
    have c:=wMerge a b (eK ha) (eK hb) (by have:=ha.length_le;have:=hb.length_le;omega);rw[(mrg_parts hR ha hb).1,if_pos rfl]at c;exact c
   have M2:∀a b c:List Ent,a.Sublist l→b.Sublist l→c.Sublist l→(∀e ∈ l,e ∈ a∨e ∈ b∨e ∈ c)→FSpec Tryz.prog 19 [.d (ents c),.d (ents (mrgEL a b))] [] (fun x r=>x= .tup [.d (ents l),.d (.int .i64 0)]∧r= []):=fun a b c ha hb hc hcv=>by
    have hm:=(mrg_parts hR ha hb).2.1;have c1:=wMerge c (mrgEL a b) (eK hc) (eK hm) (by have:=hc.length_le;have:=hm.length_le;omega);obtain⟨_,h2,h3⟩:=mrg_all hR ha hb hc hcv;rw[h2,h3,if_pos rfl]at c1;exact c1
   have cE:=lz17 l l (by omega);rw[decide_eq_true rfl]at cE;have cL:=wLog h l k;have cH:=wHires h l k;have hfl:=fltE_parts (houE_flt hE);obtain⟨g1,g2,g3⟩:=log_right k;obtain⟨w1,w2,w3,w4,w5⟩:=hires_right k
   have hlg:(isort evCmp (offZ h l).log).length≤3000:=by
    have:=(offN_I h (vmO h.flt.veh) (smO h.flt.sta) l l.length (Nat.le_refl _)).log;have h2:(offZ h l).log.length≤2*l.length:=this;rw[(isort_perm evCmp _).length_eq];omega
   have cB:=wBroken h.flt k.hou.1 hfl.2 (houE_flt hE) _ hlg g1 g2 g3;have cC:=wClashes (hirZ h l) w1 w2 (by omega) w4 w5;unfold hirZ at cC;clear g1 g2 g3 w1 w2 w3 w4 w5 hlg;generalize (keysS (offZ h l).his.has).map (hirG (offZ h l).his)=HZ at cH cC;generalize isort evCmp (offZ h l).log=lg at cL cB;conv=>whnf
   repeat' (first|(refine CallX.freeze _ _ _ _ 161 52 4 _ _ rfl rfl ?_;refine CallX.freeze _ _ _ _ 162 52 4 _ _ rfl rfl ?_;refine CallX.freeze _ _ _ _ 163 52 4 _ _ rfl rfl ?_;refine CallX.of (wOrd n L hL b (by omega) (by omega) 3 (by omega)) [(1000000,23),(5,170)] rfl ⟨lr,SV.le_int rfl,trivial⟩ ⟨rr,trivial⟩ rfl rfl ?_;rintro y rout ⟨o,c,ho,d1,d2,rfl,rfl⟩;refine⟨rfl,?_⟩;rcases perm3 ho with rfl|rfl|rfl|rfl|rfl|rfl<;>conv=>whnf;conv=>whnf)|((first|refine pAx (M1 P0 P1 s0 s1) ?_|refine pAx (M1 P0 P2 s0 s2) ?_|refine pAx (M1 P1 P0 s1 s0) ?_|refine pAx (M1 P1 P2 s1 s2) ?_|refine pAx (M1 P2 P0 s2 s0) ?_|refine pAx (M1 P2 P1 s2 s1) ?_)<;>conv=>whnf)|(refine CallX.pure (M2 P0 P1 P2 s0 s1 s2 (fun e he=>by rcases cv e he with q|q|q<;>simp[q])) ⟨lr,lr,trivial⟩ rfl ?_;conv=>whnf)|(refine CallX.pure (M2 P0 P2 P1 s0 s2 s1 (fun e he=>by rcases cv e he with q|q|q<;>simp[q])) ⟨lr,lr,trivial⟩ rfl ?_;conv=>whnf)|(refine CallX.pure (M2 P1 P0 P2 s1 s0 s2 (fun e he=>by rcases cv e he with q|q|q<;>simp[q])) ⟨lr,lr,trivial⟩ rfl ?_;conv=>whnf)|(refine CallX.pure (M2 P1 P2 P0 s1 s2 s0 (fun e he=>by rcases cv e he with q|q|q<;>simp[q])) ⟨lr,lr,trivial⟩ rfl ?_;conv=>whnf)|(refine CallX.pure (M2 P2 P0 P1 s2 s0 s1 (fun e he=>by rcases cv e he with q|q|q<;>simp[q])) ⟨lr,lr,trivial⟩ rfl ?_;conv=>whnf)|(refine CallX.pure (M2 P2 P1 P0 s2 s1 s0 (fun e he=>by rcases cv e he with q|q|q<;>simp[q])) ⟨lr,lr,trivial⟩ rfl ?_;conv=>whnf)|(refine CallX.exact (cE) rfl rfl ?_;rotate_right;conv=>whnf)|((first|(refine oAx cL [(1000009,1000009)] ?_;rintro x rout ⟨rfl,rfl⟩;refine⟨rfl,?_⟩)|(refine oAx cH [(1000009,1000009)] ?_;rintro x rout ⟨rfl,rfl⟩;refine⟨rfl,?_⟩)|refine pAx cB ?_|(refine oAx cC [] ?_;rintro x rout ⟨⟨out,⟨u1,u2⟩,rfl⟩,rfl⟩;refine⟨rfl,?_⟩)|refine pAx (wCl24 out (by omega) u1) ?_|refine pAx sReady ?_|(refine br_intro ?_ ?_<;>intro hb<;>try simp only[brs]at hb)|refine rAx hT 8 oQEaC4_8 ?_|refine rAx hT 10 oQEaC4_10 ?_|refine rAx hT 13 oQEaC4_13 ?_|omega|refine sAx ?_|decide|assumption)<;>conv=>whnf))
   all_goals try(exfalso;omega)
   all_goals try(exfalso;contradiction)
   all_goals
    refine .ret _ ?_;conv=>whnf
    exact⟨kx,⟨rfl,rfl⟩,rr,trivial⟩
end Go.Proofs.YtophabkpfpbadaaGreatDoor
