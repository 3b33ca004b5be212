/- TopHousesTell is proved: for every input the law returns true, and its argument reads afterwards as it read before. Conditions: those of the given row alone. -/
import Derived.Test.YtkokpbpililcdaaGreatDoorThConSep
import Derived.Test.YtkokpbpililcdaaGreatDoorThEngTwo
import Derived.Sort.OwnSorted
import Derived.Shelf.Sort.Plain
import Derived.Shelf.Slices.In.SortNone
import Derived.Test.YtkokpbpililcdaaGreatDoorThConOne
import Derived.Test.YtkokpbpililcdaaGreatDoorThConQua
import Derived.Test.YtkokpbpililcdaaGreatDoorThConTwo
import Derived.Test.YtkokpbpililcdaaGreatDoorThConSex
set_option linter.unusedVariables false
set_option linter.unusedSimpArgs false
set_option maxRecDepth 20000
namespace Go.Proofs.YtkokpbpililcdaaGreatDoor
open Go Go.Eng
def dM:OL:= [(0,[]),(1,[0]),(2,[0,1]),(3,[0]),(4,[0]),(5,rg 5),(6,rg 6),(7,rg 5),(8,rg 5),(9,[]),(10,[])]
def dv:OL:= [(0,[]),(1,[0]),(2,[0,1]),(3,[0,1,2]),(4,[0,1,2]),(5,rg 5),(6,rg 6),(7,rg 6),(8,rg 5),(9,rg 5),(10,rg 10),(11,rg 11),(12,rg 10),(13,rg 10),(14,[2,3,4]),(15,[2,3,4]),(16,[]),(17,[])]
def dx:OL:= [(0,[]),(1,[0]),(2,[0,1]),(3,[0]),(4,[0]),(5,rg 5),(6,rg 6),(7,rg 5),(8,rg 5),(9,[]),(10,[]),(11,[])]
def dt:OL:= [(0,[]),(1,[0]),(2,[0,1]),(3,[0,1,2]),(4,[0,1,2]),(5,rg 5),(6,rg 6),(7,rg 6),(8,rg 5),(9,rg 5),(10,rg 10),(11,rg 11),(12,rg 10),(13,rg 10),(14,[2,3,4]),(15,[2,3,4]),(16,[]),(17,[])]
abbrev yp (g:FuncId)(f:cJ→cJ→Int)(P X Y S c:List cJ)(a m b:Nat):Prop:=
 ai Tryz.prog 248 [.buf 1000001,.d (.int .i64 a),.d (.int .i64 m),.d (.int .i64 b),.fn g []] [(1000001,aL 242 5 iy dn c)]
  (fun y r=>y= .tup []∧∃Z,Z.Perm (X++Y)∧l6 f Z∧r= [(1000001,aL 242 5 iy dn (P++(Z++S)))])
theorem H4 (g:FuncId)(f:cJ→cJ→Int)(hf:jj f)(P Y S c:List cJ)(x:cJ)(a m b:Nat)(ha:P.length=a)(hm:a+1=m)(hb0:m+Y.length=b)(hc:c=P++([x]++(Y++S)))(hY:l6 f Y)(hl:c.length≤2^20)
 (hcmp:∀p q,p ∈ [x]++Y→q ∈ [x]++Y→ai Tryz.prog g [.agg ((iy p).map .d),.agg ((iy q).map .d)] [] (fun y r=>y= .d (.int .i64 (f p q))∧r= [])):yp g f P [x] Y S c a m b:=by
 have hl0:=hl;rw[hc]at hl0;simp only[List.length_append,List.length_singleton]at hl0;have hlc:c.length=P.length+(1+Y.length)+S.length:=by rw[hc];simp only[List.length_append,List.length_singleton];omega
 have gx:c.getD (a:Int).toNat dn=x:=by rw[hc,j4 (by omega) (by simp only[List.length_singleton];omega),show(a:Int).toNat - P.length=0 by omega];rfl
 have gy:∀k,m≤k→k<b→c.getD k dn=Y.getD (k - m) dn:=fun k h1 h2=>by
  rw[hc,←List.append_assoc,j4 (by simp only[List.length_append,List.length_singleton];omega) (by simp only[List.length_append,List.length_singleton];omega)];congr 1
  simp only[List.length_append,List.length_singleton];omega
 refine ae hT (C:= []) Tryz.func248 rfl Tryz.call248 rfl rfl rfl ?_;conv=>whnf
 repeat' (first|((first|(refine aa ?_ ?_<;>intro hb<;>try simp only[az]at hb)|refine aq hT 5 dM ?_|refine aq hT 11 dv ?_|refine aq hT 17 dx ?_|refine aq hT 23 dt ?_|refine aq hT 35 oJStC248_35 ?_|omega|refine aA ?_|decide|assumption)<;>conv=>whnf))
 all_goals try(exfalso;omega)
 refine ah hT (C:= []) (ι:=Nat×Nat) (fun(i,j)=>m≤i∧i≤j∧j≤b∧(i - m=0∨f (Y.getD (i - m - 1) dn) x≤0)∧(j - m=Y.length∨f x (Y.getD (j - m) dn)≤0))
  (fun(i,j)=>aI [(0,.buf 1000001),(1,.d (.int .i64 a)),(4,.fn g []),(10,.d (.int .i64 i)),(11,.d (.int .i64 j))] [(1000001,aL 242 5 iy dn c)])
  (fun(i,j)=>j - i) (m,b) ⟨Nat.le_refl _,by show m≤b;omega,Nat.le_refl _,.inl (by show m - m=0;omega),.inl (by show b - m=_;omega)⟩ (by exact be [(1000001,1000001)]) ?_
 rintro⟨i,j⟩ ⟨p1,p2,p3,p4,p5⟩;try dsimp only at p1 p2 p3 p4 p5
 rcases Nat.lt_or_ge i j with q|q
 · obtain⟨M,hM⟩:∃M,M=(i+j)/2:=⟨_,rfl⟩;have hh:=yU i j (by omega) p2;rw[←hM]at hh;have gM:c.getD (M:Int).toNat dn=Y.getD (M - m) dn:=by rw[Int.toNat_natCast];exact gy M (by omega) (by omega)
   have mM:Y.getD (M - m) dn ∈ [x]++Y:=List.mem_append_right _ (ao (by omega));conv=>whnf
   repeat' (first|(refine⟨rfl,?_⟩;conv=>whnf)|(rw[hh];conv=>whnf)|((first|(refine dQ.of (hcmp (Y.getD (M - m) dn) x mM (by simp)) [] rfl ⟨by rw[←gM];exact lr,by rw[←gx];exact lr,trivial⟩ trivial rfl rfl ?_;rintro y rout ⟨rfl,rfl⟩;refine⟨rfl,?_⟩)|(refine aa ?_ ?_<;>intro hb<;>try simp only[az]at hb)|refine aq hT 5 dM ?_|refine aq hT 11 dv ?_|refine aq hT 17 dx ?_|refine aq hT 23 dt ?_|refine aq hT 35 oJStC248_35 ?_|omega|refine aA ?_|decide|assumption)<;>conv=>whnf))
   all_goals try(exfalso;omega)
   · exact⟨(M+1,j),⟨by show m≤M+1;omega,by show M+1≤j;omega,p3,.inr (by show f (Y.getD (M+1 - m - 1) _) _≤0;rw[show M+1 - m - 1=M - m by omega];omega),p5⟩,by show j - (M+1)<j - i;omega,(by exact be [(1000001,1000001)])⟩
   · exact⟨(i,M),⟨p1,by show i≤M;omega,by show M≤b;omega,p4,.inr (by show f _ (Y.getD (M - m) _)≤0;rw[hf.sw];omega)⟩,by show M - i<j - i;omega,(by exact be [(1000001,1000001)])⟩
 · have hij:i=j:=by omega
   subst hij;obtain⟨k1,k2,k3⟩:=qo Y (i - m) (by omega);have s1:=pW hf hY (x:=x) (d:=dn) (t:=i - m) (by omega) p4;have s2:=qd hf hY (x:=x) (d:=dn) (t:=i - m) p5;generalize List.take (i - m) Y=Y1 at k1 k2 s1;generalize List.drop (i - m) Y=Y2 at k1 k3 s2;subst k1;have sZ:=Cg hY s1 s2;conv=>whnf
   repeat' (first|((first|(refine aa ?_ ?_<;>intro hb<;>try simp only[az]at hb)|refine aq hT 5 dM ?_|refine aq hT 11 dv ?_|refine aq hT 17 dx ?_|refine aq hT 23 dt ?_|refine aq hT 35 oJStC248_35 ?_|omega|refine aA ?_|decide|assumption)<;>conv=>whnf))
   all_goals try(exfalso;omega)
   refine ah hT (C:= []) (ι:=Nat×List cJ×List cJ×List cJ) (fun(k,A,B,c)=>A++B=Y1∧A.length+a=k∧c=P++(A++(x::(B++(Y2++S)))))
    (fun(k,_,_,c)=>aI [(0,.buf 1000001),(10,.d (.int .i64 i)),(13,.d (.int .i64 k))] [(1000001,aL 242 5 iy dn c)])
    (fun(_,_,B,_)=>B.length) (a,[],Y1,c) ⟨rfl,by simp,by rw[hc];simp⟩ (by exact be [(1000001,1000001)]) ?_
   rintro⟨k,A,B,d⟩ ⟨r1,r2,r3⟩;have r4:A.length+B.length=Y1.length:=by rw[←r1,List.length_append]
   have hld:d.length=c.length:=by rw[r3,hc,←r1];simp only[List.length_append,List.length_cons,List.length_nil];omega
   cases B with
   | nil=>
     rw[List.append_nil]at r1;simp only[List.length_nil]at r4;conv=>whnf
     repeat' (first|((first|(refine aa ?_ ?_<;>intro hb<;>try simp only[az]at hb)|refine aq hT 5 dM ?_|refine aq hT 11 dv ?_|refine aq hT 17 dx ?_|refine aq hT 23 dt ?_|refine aq hT 35 oJStC248_35 ?_|omega|refine aA ?_|decide|assumption)<;>conv=>whnf))
     all_goals try(exfalso;omega)
     refine .ret _ ?_;conv=>whnf
     exact⟨_,⟨rfl,Y1++x::Y2,List.perm_middle,sZ,rfl⟩,by rw[r3,r1];simp only[List.append_assoc,List.cons_append,List.nil_append];exact rr,trivial⟩
   | cons y B=>
     simp only[List.length_cons]at r4;obtain⟨g1,g2,g3⟩:=wB (P++A) [] (B++(Y2++S)) x y dn;have hc':d=(P++A)++x::([]++y::(B++(Y2++S))):=by rw[r3];simp
     have i1:(k:Int).toNat=(P++A).length:=by rw[List.length_append];omega
     have i2:((k:Int)+1).toNat=(P++A).length+1+([]:List cJ).length:=by simp only[List.length_append,List.length_nil];omega
     rw[←hc',←i1]at g1;rw[←hc',←i2]at g2;rw[←hc',←i2,←i1]at g3;conv=>whnf
     repeat' (first|((first|(refine aa ?_ ?_<;>intro hb<;>try simp only[az]at hb)|refine aq hT 5 dM ?_|refine aq hT 11 dv ?_|refine aq hT 17 dx ?_|refine aq hT 23 dt ?_|refine aq hT 35 oJStC248_35 ?_|omega|refine aA ?_|decide|assumption)<;>conv=>whnf))
     all_goals try(exfalso;omega)
     refine⟨(k+1,A++ [y],B,(d.set (k:Int).toNat (d.getD ((k:Int)+1).toNat dn)).set ((k:Int)+1).toNat (d.getD (k:Int).toNat dn)),⟨by rw[←r1];simp,by simp only[List.length_append,List.length_singleton];omega,by rw[g1,g2,g3];simp⟩,by show B.length<(y::B).length;simp,af [(1000001,1000001)] rfl rfl ⟨lr,lr,ap (by omega),trivial⟩ ⟨fN (fun _=>rfl) (fun _=>rfl),trivial⟩⟩
theorem Iu (g:FuncId)(f:cJ→cJ→Int)(hf:jj f)(P X S c:List cJ)(x:cJ)(a m b:Nat)(ha:P.length=a)(hm:a+X.length=m)(hX2:2≤X.length)(hb0:m+1=b)(hc:c=P++(X++([x]++S)))(hX:l6 f X)(hl:c.length≤2^20)
 (hcmp:∀p q,p ∈ X++ [x]→q ∈ X++ [x]→ai Tryz.prog g [.agg ((iy p).map .d),.agg ((iy q).map .d)] [] (fun y r=>y= .d (.int .i64 (f p q))∧r= [])):yp g f P X [x] S c a m b:=by
 have hl0:=hl;rw[hc]at hl0;simp only[List.length_append,List.length_singleton]at hl0;have hlc:c.length=P.length+(X.length+1)+S.length:=by rw[hc];simp only[List.length_append,List.length_singleton];omega
 have gx:c.getD (m:Int).toNat dn=x:=by rw[hc,←List.append_assoc,j4 (by simp only[List.length_append];omega) (by simp only[List.length_append,List.length_singleton];omega),show(m:Int).toNat - (P++X).length=0 by simp only[List.length_append];omega];rfl
 have gy:∀k,a≤k→k<m→c.getD k dn=X.getD (k - a) dn:=fun k h1 h2=>by
  rw[hc,j4 (by omega) (by omega),ha]
 refine ae hT (C:= []) Tryz.func248 rfl Tryz.call248 rfl rfl rfl ?_;conv=>whnf
 repeat' (first|((first|(refine aa ?_ ?_<;>intro hb<;>try simp only[az]at hb)|refine aq hT 5 dM ?_|refine aq hT 11 dv ?_|refine aq hT 17 dx ?_|refine aq hT 23 dt ?_|refine aq hT 35 oJStC248_35 ?_|omega|refine aA ?_|decide|assumption)<;>conv=>whnf))
 all_goals try(exfalso;omega)
 refine ah hT (C:= []) (ι:=Nat×Nat) (fun(i,j)=>a≤i∧i≤j∧j≤m∧(i - a=0∨f (X.getD (i - a - 1) dn) x≤0)∧(j - a=X.length∨f x (X.getD (j - a) dn)≤0))
  (fun(i,j)=>aI [(0,.buf 1000001),(2,.d (.int .i64 m)),(4,.fn g []),(14,.d (.int .i64 i)),(15,.d (.int .i64 j))] [(1000001,aL 242 5 iy dn c)])
  (fun(i,j)=>j - i) (a,m) ⟨Nat.le_refl _,by show a≤m;omega,Nat.le_refl _,.inl (by show a - a=0;omega),.inl (by show m - a=_;omega)⟩ (by exact be [(1000001,1000001)]) ?_
 rintro⟨i,j⟩ ⟨p1,p2,p3,p4,p5⟩;try dsimp only at p1 p2 p3 p4 p5
 rcases Nat.lt_or_ge i j with q|q
 · obtain⟨M,hM⟩:∃M,M=(i+j)/2:=⟨_,rfl⟩;have hh:=yU i j (by omega) p2;rw[←hM]at hh;have gM:c.getD (M:Int).toNat dn=X.getD (M - a) dn:=by rw[Int.toNat_natCast];exact gy M (by omega) (by omega)
   have mM:X.getD (M - a) dn ∈ X++ [x]:=List.mem_append_left _ (ao (by omega));conv=>whnf
   repeat' (first|(refine⟨rfl,?_⟩;conv=>whnf)|(rw[hh];conv=>whnf)|((first|(refine dQ.of (hcmp x (X.getD (M - a) dn) (by simp) mM) [] rfl ⟨by rw[←gx];exact lr,by rw[←gM];exact lr,trivial⟩ trivial rfl rfl ?_;rintro y rout ⟨rfl,rfl⟩;refine⟨rfl,?_⟩)|(refine aa ?_ ?_<;>intro hb<;>try simp only[az]at hb)|refine aq hT 5 dM ?_|refine aq hT 11 dv ?_|refine aq hT 17 dx ?_|refine aq hT 23 dt ?_|refine aq hT 35 oJStC248_35 ?_|omega|refine aA ?_|decide|assumption)<;>conv=>whnf))
   all_goals try(exfalso;omega)
   · exact⟨(M+1,j),⟨by show a≤M+1;omega,by show M+1≤j;omega,p3,.inr (by show f (X.getD (M+1 - a - 1) _) _≤0;rw[show M+1 - a - 1=M - a by omega,hf.sw];omega),p5⟩,by show j - (M+1)<j - i;omega,(by exact be [(1000001,1000001)])⟩
   · exact⟨(i,M),⟨p1,by show i≤M;omega,by show M≤m;omega,p4,.inr (by show f _ (X.getD (M - a) _)≤0;omega)⟩,by show M - i<j - i;omega,(by exact be [(1000001,1000001)])⟩
 · have hij:i=j:=by omega
   subst hij;obtain⟨k1,k2,k3⟩:=qo X (i - a) (by omega);have s1:=pW hf hX (x:=x) (d:=dn) (t:=i - a) (by omega) p4;have s2:=qd hf hX (x:=x) (d:=dn) (t:=i - a) p5;generalize List.take (i - a) X=Y1 at k1 k2 s1;generalize List.drop (i - a) X=Y2 at k1 k3 s2;subst k1;have sZ:=Cg hX s1 s2;simp only[List.length_append]at hm hl0 k3;conv=>whnf
   repeat' (first|((first|(refine aa ?_ ?_<;>intro hb<;>try simp only[az]at hb)|refine aq hT 5 dM ?_|refine aq hT 11 dv ?_|refine aq hT 17 dx ?_|refine aq hT 23 dt ?_|refine aq hT 35 oJStC248_35 ?_|omega|refine aA ?_|decide|assumption)<;>conv=>whnf))
   all_goals try(exfalso;omega)
   refine ah hT (C:= []) (ι:=Nat×List cJ×List cJ×List cJ) (fun(k,A,B,c)=>A.reverse++B=Y2∧A.length+i=k∧c=P++(Y1++(A.reverse++(x::(B++S)))))
    (fun(k,_,_,c)=>aI [(0,.buf 1000001),(14,.d (.int .i64 i)),(17,.d (.int .i64 k))] [(1000001,aL 242 5 iy dn c)])
    (fun(_,A,_,_)=>A.length) (m,Y2.reverse,[],c) ⟨by simp,by show Y2.reverse.length+i=m;rw[List.length_reverse];omega,by rw[hc];simp⟩ (by exact be [(1000001,1000001)]) ?_
   rintro⟨k,A,B,d⟩ ⟨r1,r2,r3⟩;have r4:A.length+B.length=Y2.length:=by rw[←r1,List.length_append,List.length_reverse]
   have hld:d.length=c.length:=by rw[r3,hc,←r1];simp only[List.length_append,List.length_cons,List.length_nil,List.length_reverse];omega
   cases A with
   | nil=>
     rw[List.reverse_nil,List.nil_append]at r1;simp only[List.length_nil]at r4 r2;conv=>whnf
     repeat' (first|((first|(refine aa ?_ ?_<;>intro hb<;>try simp only[az]at hb)|refine aq hT 5 dM ?_|refine aq hT 11 dv ?_|refine aq hT 17 dx ?_|refine aq hT 23 dt ?_|refine aq hT 35 oJStC248_35 ?_|omega|refine aA ?_|decide|assumption)<;>conv=>whnf))
     all_goals try(exfalso;omega)
     refine .ret _ ?_;conv=>whnf
     exact⟨_,⟨rfl,Y1++x::Y2,by rw[List.append_assoc];exact List.Perm.append_left Y1 (List.perm_append_singleton x Y2).symm,sZ,rfl⟩,by rw[r3,r1];simp only[List.append_assoc,List.cons_append,List.nil_append,List.reverse_nil];exact rr,trivial⟩
   | cons y A=>
     simp only[List.length_cons]at r4 r2;obtain⟨g1,g2,g3⟩:=wB (P++(Y1++A.reverse)) [] (B++S) y x dn;have hc':d=(P++(Y1++A.reverse))++y::([]++x::(B++S)):=by rw[r3];simp
     have i1:((k:Int) - 1).toNat=(P++(Y1++A.reverse)).length:=by simp only[List.length_append,List.length_reverse];omega
     have i2:(k:Int).toNat=(P++(Y1++A.reverse)).length+1+([]:List cJ).length:=by simp only[List.length_append,List.length_nil,List.length_reverse];omega
     rw[←hc',←i1]at g1;rw[←hc',←i2]at g2;rw[←hc',←i2,←i1]at g3;conv=>whnf
     repeat' (first|((first|(refine aa ?_ ?_<;>intro hb<;>try simp only[az]at hb)|refine aq hT 5 dM ?_|refine aq hT 11 dv ?_|refine aq hT 17 dx ?_|refine aq hT 23 dt ?_|refine aq hT 35 oJStC248_35 ?_|omega|refine aA ?_|decide|assumption)<;>conv=>whnf))
     all_goals try(exfalso;omega)
     refine⟨(k - 1,A,y::B,(d.set (k:Int).toNat (d.getD ((k:Int) - 1).toNat dn)).set ((k:Int) - 1).toNat (d.getD (k:Int).toNat dn)),⟨by rw[←r1];simp,by omega,?_⟩,by show A.length<(y::A).length;simp,af [(1000001,1000001)] rfl rfl ⟨lr,lr,ap (by omega),trivial⟩ ⟨fN (fun _=>rfl) (fun _=>rfl),trivial⟩⟩;rw[List.set_comm _ _ (by omega),g1,g2,g3];simp
def lX:List (Nat×List Nat):= [(0,[]),(1,[0]),(2,[0,1]),(3,[0,1,2]),(4,[0,1]),(5,[0]),(6,[0]),(7,[0,1,2,3,4,5,6]),(8,[0,1,2,3,4,5,6,7]),(9,[0,1,2,3,4,5,6]),(10,[0,1,2,3,4,5,6]),(11,[]),(12,[]),(13,[])]
set_option maxHeartbeats 4000000 in
theorem Ix (g:FuncId)(f:cJ→cJ→Int)(hf:jj f)(P X Y S c:List cJ)(a m b:Nat)(ha:P.length=a)(hm:a+X.length=m)(hb0:m+Y.length=b)(hc:c=P++(X++(Y++S)))(hX2:2≤X.length)(hY2:2≤Y.length)(hX:l6 f X)(hY:l6 f Y)(hl:c.length≤2^20)
 (hcmp:∀p q,p ∈ X++Y→q ∈ X++Y→ai Tryz.prog g [.agg ((iy p).map .d),.agg ((iy q).map .d)] [] (fun y r=>y= .d (.int .i64 (f p q))∧r= []))
 (ih:∀ (P X' Y' S c:List cJ) (a m b:Nat),P.length=a→a+X'.length=m→m+Y'.length=b→c=P++(X'++(Y'++S))→1≤X'.length→1≤Y'.length→X'.length+Y'.length<X.length+Y.length→l6 f X'→l6 f Y'→c.length≤2^20→(∀p ∈ X'++Y',p ∈ X++Y)→yp g f P X' Y' S c a m b):yp g f P X Y S c a m b:=by
 have hl0:=hl
 rw[hc]at hl0
 simp only[List.length_append]at hl0
 have hlc:c.length=P.length+(X.length+Y.length)+S.length:=by rw[hc];simp only[List.length_append];omega
 have gx:∀k,a≤k→k<m→c.getD k dn=X.getD (k - a) dn:=fun k h1 h2=>by
  rw[hc,j4 (by omega) (by omega),ha]
 have gy:∀k,m≤k→k<b→c.getD k dn=Y.getD (k - m) dn:=fun k h1 h2=>by
  rw[hc,←List.append_assoc,j4 (by simp only[List.length_append];omega) (by simp only[List.length_append];omega)]
  congr 1
  simp only[List.length_append];omega
 obtain⟨Md,hMd⟩:∃Md,Md=(a+b)/2:=⟨_,rfl⟩
 have hh0:=yU a b (by omega) (by omega)
 rw[←hMd]at hh0
 obtain⟨s0,r0,h01,h02⟩:∃s0 r0:Nat,(Md<m→s0=Md+m - b∧r0=Md)∧(m≤Md→s0=a∧r0=m):=by
  by_cases q:Md<m
  · exact⟨Md+m - b,Md,fun _=>⟨rfl,rfl⟩,fun h=>by omega⟩
  · exact⟨a,m,fun h=>by omega,fun _=>⟨rfl,rfl⟩⟩
 have h03:s0≤r0∧a≤s0∧r0≤m∧r0≤Md:=by
  rcases Nat.lt_or_ge Md m with q|q
  · have:=h01 q;omega
  · have:=h02 q;omega
 obtain⟨h03,h04,h05,h06⟩:=h03
 refine ae hT (C:= []) Tryz.func248 rfl Tryz.call248 rfl rfl rfl ?_
 conv=>whnf
 repeat' (first|(refine⟨rfl,?_⟩;conv=>whnf)|(rw[hh0];conv=>whnf)|(refine aa ?_ ?_<;>intro hb<;>(try simp only[az]at hb)<;>conv=>whnf)|(refine bR (id:=5) hT rfl [] oJStD248_5 (by decide+kernel) ?_;conv=>whnf)|(refine bR (id:=11) hT rfl [] oJStD248_11 (by decide+kernel) ?_;conv=>whnf)|(refine bR (id:=17) hT rfl [] oJStD248_17 (by decide+kernel) ?_;conv=>whnf)|(refine bR (id:=23) hT rfl [] oJStD248_23 (by decide+kernel) ?_;conv=>whnf)|(refine bR (id:=35) hT rfl [] lX (by decide+kernel) ?_;conv=>whnf)|omega|(refine And.intro ?_ ?_;((try dsimp only);first|omega|(refine Og rfl ?_;omega)|(refine Oq rfl ?_;omega)|(unfold aS;omega)|exact rfl|(simp only[List.toList_toArray,List.length_cons,List.length_nil];omega)|(simp only[Oo]at*;omega)|decide|(unfold aS;decide));conv=>whnf)|decide|assumption)
 all_goals try(exfalso;omega)
 all_goals
  refine ah hT (C:= []) (ι:=Nat×Nat) (fun(s,r)=>s0≤s∧s≤r∧r≤r0∧(s=s0∨f (X.getD (s - a - 1) dn) (Y.getD (Md - s) dn)≤0)∧(r=r0∨f (Y.getD (Md - r - 1) dn) (X.getD (r - a) dn)≤0))
   (fun(s,r)=>aI [(0,.buf 1000001),(1,.d (.int .i64 a)),(2,.d (.int .i64 m)),(3,.d (.int .i64 b)),(4,.fn g []),(18,.d (.int .i64 Md)),(19,.d (.int .i64 ((Md+m:Nat):Int))),(20,.d (.int .i64 s)),(21,.d (.int .i64 r)),(22,.d (.int .i64 ((Md+m - 1:Nat):Int)))] [(1000001,aL 242 5 iy dn c)])
   (fun(s,r)=>r - s) (s0,r0) ⟨Nat.le_refl _,h03,Nat.le_refl _,.inl rfl,.inl rfl⟩ (by(refine af [(1000001,1000001)] rfl rfl ?_ ?_<;>repeat' (first|exact True.intro|exact lr|exact rr|exact ap (by omega)|exact a7 _|refine And.intro ?_ ?_));done) ?_
  rintro⟨s,r⟩ ⟨p1,p2,p3,p4,p5⟩
  try dsimp only at p1 p2 p3 p4 p5
  rcases Nat.lt_or_ge s r with q|q
  · obtain⟨C,hC⟩:∃C,C=(s+r)/2:=⟨_,rfl⟩
    have hh:=yU s r (by omega) p2
    rw[←hC]at hh
    have hCb:s≤C∧C<r:=by omega
    have gM:c.getD (C:Int).toNat dn=X.getD (C - a) dn:=by rw[Int.toNat_natCast];exact gx C (by omega) (by omega)
    have gN:c.getD (((Md+m - 1:Nat):Int) - (C:Int)).toNat dn=Y.getD (Md - C - 1) dn:=by
     rw[show(((Md+m - 1:Nat):Int) - (C:Int)).toNat=Md+m - 1 - C by omega,gy _ (by omega) (by rcases Nat.lt_or_ge Md m with t|t;(have:=h01 t;omega);(have:=h02 t;omega))]
     congr 1;omega
    have mM:X.getD (C - a) dn ∈ X++Y:=List.mem_append_left _ (ao (by omega))
    have mN:Y.getD (Md - C - 1) dn ∈ X++Y:=List.mem_append_right _ (ao (by rcases Nat.lt_or_ge Md m with t|t;(have:=h01 t;omega);(have:=h02 t;omega)))
    have hbd:Md+m - 1 - C<b:=by rcases Nat.lt_or_ge Md m with t|t;(have:=h01 t;omega);(have:=h02 t;omega)
    conv=>whnf
    repeat' (first|(refine⟨rfl,?_⟩;conv=>whnf)|(rw[hh];conv=>whnf)|(refine dQ.of (hcmp (Y.getD (Md - C - 1) dn) (X.getD (C - a) dn) mN mM) [] rfl ⟨by rw[←gN];exact lr,by rw[←gM];exact lr,trivial⟩ trivial rfl rfl ?_;rintro y rout ⟨rfl,rfl⟩;refine⟨rfl,?_⟩;conv=>whnf)|(refine aa ?_ ?_<;>intro hb<;>(try simp only[az]at hb)<;>conv=>whnf)|(refine bR (id:=5) hT rfl [] oJStD248_5 (by decide+kernel) ?_;conv=>whnf)|(refine bR (id:=11) hT rfl [] oJStD248_11 (by decide+kernel) ?_;conv=>whnf)|(refine bR (id:=17) hT rfl [] oJStD248_17 (by decide+kernel) ?_;conv=>whnf)|(refine bR (id:=23) hT rfl [] oJStD248_23 (by decide+kernel) ?_;conv=>whnf)|(refine bR (id:=35) hT rfl [] lX (by decide+kernel) ?_;conv=>whnf)|omega|(refine And.intro ?_ ?_;((try dsimp only);first|omega|(refine Og rfl ?_;omega)|(refine Oq rfl ?_;omega)|(unfold aS;omega)|exact rfl|(simp only[List.toList_toArray,List.length_cons,List.length_nil];omega)|(simp only[Oo]at*;omega)|decide|(unfold aS;decide));conv=>whnf)|decide|assumption)
    all_goals try(exfalso;omega)
    · exact⟨(C+1,r),⟨by show s0≤C+1;omega,by show C+1≤r;omega,p3,.inr (by show f (X.getD (C+1 - a - 1) _) (Y.getD (Md - (C+1)) _)≤0;rw[show C+1 - a - 1=C - a by omega,show Md - (C+1)=Md - C - 1 by omega,hf.sw];omega),p5⟩,by show r - (C+1)<r - s;omega,(by(refine af [(1000001,1000001)] rfl rfl ?_ ?_<;>repeat' (first|exact True.intro|exact lr|exact rr|exact ap (by omega)|exact a7 _|refine And.intro ?_ ?_));done)⟩
    · exact⟨(s,C),⟨p1,by show s≤C;omega,by show C≤r0;omega,p4,.inr (by show f (Y.getD (Md - C - 1) _) (X.getD (C - a) _)≤0;omega)⟩,by show C - s<r - s;omega,(by(refine af [(1000001,1000001)] rfl rfl ?_ ?_<;>repeat' (first|exact True.intro|exact lr|exact rr|exact ap (by omega)|exact a7 _|refine And.intro ?_ ?_));done)⟩
  · have hij:s=r:=by omega
    subst hij
    have hsY:Md - s≤Y.length:=by rcases Nat.lt_or_ge Md m with t|t;(have:=h01 t;omega);(have:=h02 t;omega)
    have cr1:=vp hf hX hY (d:=dn) (s:=s - a) (e:=Md - s) (by omega) (by
     rcases p4 with t|t
     · rcases Nat.lt_or_ge Md m with u|u
       · have:=h01 u;exact .inr (.inl (by omega))
       · have:=h02 u;exact .inl (by omega)
     · exact .inr (.inr t))
    have cr2:=vp hf hY hX (d:=dn) (s:=Md - s) (e:=s - a) hsY (by
     rcases p5 with t|t
     · rcases Nat.lt_or_ge Md m with u|u
       · have:=h01 u;exact .inl (by omega)
       · have:=h02 u;exact .inr (.inl (by omega))
     · exact .inr (.inr t))
    obtain⟨k1,k2,k3⟩:=qo X (s - a) (by omega)
    obtain⟨k4,k5,k6⟩:=qo Y (Md - s) hsY
    generalize List.take (s - a) X=X1 at k1 k2 cr1
    generalize List.drop (s - a) X=X2 at k1 k3 cr2
    generalize List.take (Md - s) Y=Y1 at k4 k5 cr2
    generalize List.drop (Md - s) Y=Y2 at k4 k6 cr1
    clear gx gy p4 p5
    have hX':=hX
    have hY':=hY
    rw[←k1]at hX'
    rw[←k4]at hY'
    have J:=fun{Z1 Z2:List cJ} (p1:Z1.Perm (X1++Y1)) (s1:l6 f Z1) (p2:Z2.Perm (X2++Y2)) (s2:l6 f Z2)=>F8 p1 s1 p2 s2 hX' hY' cr1 cr2
    rw[k1,k4]at J
    have uX:=List.pairwise_append.1 hX'
    have uY:=List.pairwise_append.1 hY'
    have sL:X1.length=0∨Y1.length=0→l6 f (X1++Y1):=fun h=>by
     rcases h with h|h
     · rw[List.length_eq_zero_iff.1 h];exact uY.1
     · rw[List.length_eq_zero_iff.1 h,List.append_nil];exact uX.1
    have sR:X2.length=0∨Y2.length=0→l6 f (X2++Y2):=fun h=>by
     rcases h with h|h
     · rw[List.length_eq_zero_iff.1 h];exact uY.2.1
     · rw[List.length_eq_zero_iff.1 h,List.append_nil];exact uX.2.1
    have eC:X2.length=0∨Y1.length=0→c=P++(X1++(Y1++(X2++(Y2++S)))):=fun h=>by
     rw[hc,←k1,←k4]
     rcases h with h|h<;>rw[List.length_eq_zero_iff.1 h]<;>simp
    have eR:c=(P++X1)++(X2++(Y1++(Y2++S))):=by rw[hc,←k1,←k4];simp
    have hlc2:P.length+X1.length+X2.length+Y1.length+Y2.length+S.length≤2^20:=by omega
    have mL:∀p ∈ X1++Y1,p ∈ X++Y:=fun p hp=>by
     rw[←k1,←k4];rcases List.mem_append.1 hp with t|t<;>simp[t]
    have mR:∀p ∈ X2++Y2,p ∈ X++Y:=fun p hp=>by
     rw[←k1,←k4];rcases List.mem_append.1 hp with t|t<;>simp[t]
    conv=>whnf
    repeat' (first|(refine dQ.of (KN g (P++X1) X2 Y1 (Y2++S) c s m (Md+m - s) (by rw[List.length_append];omega) (by omega) (by omega) eR (by omega) (by omega) hl) [(1000001,1000001)] rfl ⟨lr,lr,lr,ap (by omega),lr,trivial⟩ ⟨rr,trivial⟩ rfl rfl ?_;rintro y rout ⟨rfl,rfl⟩;refine⟨rfl,?_⟩;conv=>whnf)|(refine dQ.of (ih P X1 Y1 (X2++(Y2++S)) ((P++X1)++(Y1++(X2++(Y2++S)))) a s Md ha (by omega) (by omega) (by simp) (by omega) (by omega) (by omega) uX.1 uY.1 (by simp only[List.length_append];omega) mL) [(1000001,1000001)] rfl ⟨lr,lr,lr,lr,lr,trivial⟩ ⟨rr,trivial⟩ rfl rfl ?_;rintro y rout ⟨rfl,Z1,z1,z2,rfl⟩;refine⟨rfl,?_⟩;conv=>whnf)|(refine dQ.of (ih P X1 Y1 (X2++(Y2++S)) c a s Md ha (by omega) (by omega) (eC (by omega)) (by omega) (by omega) (by omega) uX.1 uY.1 hl mL) [(1000001,1000001)] rfl ⟨lr,lr,lr,lr,lr,trivial⟩ ⟨rr,trivial⟩ rfl rfl ?_;rintro y rout ⟨rfl,Z1,z1,z2,rfl⟩;refine⟨rfl,?_⟩;conv=>whnf)|(refine dQ.of (ih (P++Z1) X2 Y2 S (P++(Z1++(X2++(Y2++S)))) Md (Md+m - s) b (by rw[List.length_append,z1.length_eq,List.length_append];omega) (by omega) (by omega) (by simp) (by omega) (by omega) (by omega) uX.2.1 uY.2.1 (by have:=z1.length_eq;simp only[List.length_append]at this ⊢;omega) mR) [(1000001,1000001)] rfl ⟨lr,lr,ap (by omega),lr,lr,trivial⟩ ⟨rr,trivial⟩ rfl rfl ?_;rintro y rout ⟨rfl,Z2,z3,z4,rfl⟩;refine⟨rfl,?_⟩;conv=>whnf)|(refine dQ.of (ih (P++(X1++Y1)) X2 Y2 S ((P++X1)++(Y1++(X2++(Y2++S)))) Md (Md+m - s) b (by simp only[List.length_append];omega) (by omega) (by omega) (by simp) (by omega) (by omega) (by omega) uX.2.1 uY.2.1 (by simp only[List.length_append];omega) mR) [(1000001,1000001)] rfl ⟨lr,lr,ap (by omega),lr,lr,trivial⟩ ⟨rr,trivial⟩ rfl rfl ?_;rintro y rout ⟨rfl,Z2,z3,z4,rfl⟩;refine⟨rfl,?_⟩;conv=>whnf)|(refine dQ.of (ih (P++(X1++Y1)) X2 Y2 S c Md (Md+m - s) b (by simp only[List.length_append];omega) (by omega) (by omega) (by rw[eC (by omega)];simp) (by omega) (by omega) (by omega) uX.2.1 uY.2.1 hl mR) [(1000001,1000001)] rfl ⟨lr,lr,ap (by omega),lr,lr,trivial⟩ ⟨rr,trivial⟩ rfl rfl ?_;rintro y rout ⟨rfl,Z2,z3,z4,rfl⟩;refine⟨rfl,?_⟩;conv=>whnf)|(refine aa ?_ ?_<;>intro hb<;>(try simp only[az]at hb)<;>conv=>whnf)|(refine bR (id:=5) hT rfl [] oJStD248_5 (by decide+kernel) ?_;conv=>whnf)|(refine bR (id:=11) hT rfl [] oJStD248_11 (by decide+kernel) ?_;conv=>whnf)|(refine bR (id:=17) hT rfl [] oJStD248_17 (by decide+kernel) ?_;conv=>whnf)|(refine bR (id:=23) hT rfl [] oJStD248_23 (by decide+kernel) ?_;conv=>whnf)|(refine bR (id:=35) hT rfl [] lX (by decide+kernel) ?_;conv=>whnf)|omega|(refine And.intro ?_ ?_;((try dsimp only);first|omega|(refine Og rfl ?_;omega)|(refine Oq rfl ?_;omega)|(unfold aS;omega)|exact rfl|(simp only[List.toList_toArray,List.length_cons,List.length_nil];omega)|(simp only[Oo]at*;omega)|decide|(unfold aS;decide));conv=>whnf)|decide|assumption)
    all_goals try(exfalso;omega)
    all_goals
     refine .ret _ ?_
     conv=>whnf
     first
      |exact⟨_,⟨rfl,Z1++Z2,(J z1 z2 z3 z4).1,(J z1 z2 z3 z4).2,rfl⟩,by simp only[List.append_assoc];exact rr,trivial⟩
      |exact⟨_,⟨rfl,Z1++(X2++Y2),(J z1 z2 (List.Perm.refl _) (sR (by omega))).1,(J z1 z2 (List.Perm.refl _) (sR (by omega))).2,rfl⟩,by simp only[List.append_assoc];exact rr,trivial⟩
      |exact⟨_,⟨rfl,(X1++Y1)++Z2,(J (List.Perm.refl _) (sL (by omega)) z3 z4).1,(J (List.Perm.refl _) (sL (by omega)) z3 z4).2,rfl⟩,by simp only[List.append_assoc];exact rr,trivial⟩
      |exact⟨_,⟨rfl,(X1++Y1)++(X2++Y2),(J (List.Perm.refl _) (sL (by omega)) (List.Perm.refl _) (sR (by omega))).1,(J (List.Perm.refl _) (sL (by omega)) (List.Perm.refl _) (sR (by omega))).2,rfl⟩,by simp only[List.append_assoc];exact rr,trivial⟩
      |exact⟨_,⟨rfl,(X1++Y1)++(X2++Y2),(J (List.Perm.refl _) (sL (by omega)) (List.Perm.refl _) (sR (by omega))).1,(J (List.Perm.refl _) (sL (by omega)) (List.Perm.refl _) (sR (by omega))).2,rfl⟩,by rw[eC (by omega)];simp only[List.append_assoc];exact rr,trivial⟩
theorem B0 (g:FuncId)(f:cJ→cJ→Int)(hf:jj f):∀ (n:Nat) (P X Y S c:List cJ) (a m b:Nat),X.length+Y.length≤n→P.length=a→a+X.length=m→m+Y.length=b→c=P++(X++(Y++S))→1≤X.length→1≤Y.length→l6 f X→l6 f Y→c.length≤2^20→
 (∀p q,p ∈ X++Y→q ∈ X++Y→ai Tryz.prog g [.agg ((iy p).map .d),.agg ((iy q).map .d)] [] (fun y r=>y= .d (.int .i64 (f p q))∧r= []))→yp g f P X Y S c a m b
 |0=>fun P X Y S c a m b h0 _ _ _ _ hX1 _ _ _ _ _=>by omega
 | n +1=>fun P X Y S c a m b h0 ha hm hb0 hc hX1 hY1 hX hY hl hcmp=>by
   by_cases q:X.length=1
   · obtain⟨x,rfl⟩:=List.length_eq_one_iff.1 q
     exact H4 g f hf P Y S c x a m b ha hm hb0 hc hY hl hcmp
   by_cases r:Y.length=1
   · obtain⟨x,rfl⟩:=List.length_eq_one_iff.1 r
     exact Iu g f hf P X S c x a m b ha hm (by omega) hb0 hc hX hl hcmp
   exact Ix g f hf P X Y S c a m b ha hm hb0 hc (by omega) (by omega) hX hY hl hcmp fun P X' Y' S c a m b k1 k2 k3 k4 k5 k6 k7 k8 k9 k10 k11=>
    B0 g f hf n P X' Y' S c a m b (by omega) k1 k2 k3 k4 k5 k6 k8 k9 k10 fun p q hp hq=>hcmp p q (k11 p hp) (k11 q hq)
def jd:OL:= [(0,[]),(1,[0]),(2,[]),(3,[]),(4,[]),(5,[4]),(6,[4,5]),(7,[4]),(8,[4]),(9,[4,5,6,7,8]),(10,[4,5,6,7,8,9]),(11,[4,5,6,7,8,9]),(12,[4,5,6,7,8]),(13,[4,5,6,7,8]),(14,[]),(15,[]),(16,[])]
def iU:OL:= [(0,[]),(1,[0]),(2,[0,1]),(3,[0,1,2]),(4,[0,1,2]),(5,rg 5),(6,rg 6),(7,rg 6),(8,rg 5),(9,rg 5),(10,rg 10),(11,rg 11),(12,rg 10),(13,rg 10),(14,[2,3,4]),(15,[2,3,4]),(16,[]),(17,[])]
def BF:OL:= [(0,[]),(1,[]),(2,[0,1]),(3,[0,1]),(5,rg 4),(6,rg 4),(7,[0,1,2,3,5,6]),(8,[0,1,2,3,5,6]),(4,[5,6,7,8]),(9,[]),(10,[]),(11,[]),(12,[])]
theorem Cm (g:FuncId)(cmp:cJ→cJ→Int)(P l S c0:List cJ)(a b0:Nat)(ha:P.length=a)(hbb:a+l.length=b0)(hc0:c0=P++(l++S))(hl:c0.length≤2^20)
 (hcmp:∀p q,p ∈ l→q ∈ l→ai Tryz.prog g [.agg ((iy p).map .d),.agg ((iy q).map .d)] [] (fun y r=>y= .d (.int .i64 (cmp p q))∧r= [])):
 ai Tryz.prog 247 [.buf 1000001,.d (.int .i64 a),.d (.int .i64 b0),.fn g []] [(1000001,aL 242 5 iy dn c0)]
  (fun y r=>y= .tup []∧r= [(1000001,aL 242 5 iy dn (P++(eI cmp l++S)))]):=by
 have hl0:=hl;rw[hc0]at hl0;simp only[List.length_append]at hl0;refine ae hT (C:= []) Tryz.func247 rfl Tryz.call247 rfl rfl rfl ?_;conv=>whnf
 repeat' (first|((first|(refine aa ?_ ?_<;>intro hb<;>try simp only[az]at hb)|refine aq hT 4 jd ?_|refine aq hT 6 iU ?_|omega|refine aA ?_|decide|assumption)<;>conv=>whnf))
 refine ah hT (C:= []) (ι:=Nat×Nat×List cJ) (fun(k,i,c)=>k=a+i∧1≤i∧(i≤l.length∨i=1)∧c=P++((b8 cmp (l.take i)).reverse++(l.drop i++S)))
  (fun(k,_,c)=>aI [(0,.buf 1000001),(1,.d (.int .i64 a)),(2,.d (.int .i64 b0)),(3,.fn g []),(8,.d (.int .i64 k))] [(1000001,aL 242 5 iy dn c)])
  (fun(_,i,_)=>l.length - i) (a+1,1,c0) ⟨rfl,by simp,by simp,by rw[hc0];cases l with|nil=>rfl|cons x l=>simp[b8,ig]⟩ (by exact be [(1000001,1000001)]) ?_
 rintro⟨k,i,c⟩ ⟨p0,p1,p2,p3⟩;try dsimp only at p0 p1 p2 p3
 rcases Nat.lt_or_ge i l.length with hi|hi
 · have hx:l[i] ∈ l:=List.getElem_mem hi;have hmem:∀y ∈ b8 cmp (l.take i),y ∈ l:=fun y hy=>List.mem_of_mem_take ((oo cmp _).1 hy)
   have hlr:(b8 cmp (l.take i)).length=i:=by rw[nK,List.length_take];omega
   have hc:c=P++((b8 cmp (l.take i)).reverse++(l[i]::([]++(l.drop (i+1)++S)))):=by rw[p3,List.drop_eq_getElem_cons hi];rfl
   have hlc:c.length=P.length+l.length+S.length:=by rw[hc];simp only[List.length_append,List.length_cons,List.length_reverse,List.length_drop,List.length_nil,hlr];omega
   conv=>whnf
   repeat' (first|((first|(refine aa ?_ ?_<;>intro hb<;>try simp only[az]at hb)|refine aq hT 4 jd ?_|refine aq hT 6 iU ?_|omega|refine aA ?_|decide|assumption)<;>conv=>whnf))
   all_goals try(exfalso;omega)
   refine ah hT (C:= []) (ι:=Nat×List cJ×List cJ×List cJ) (fun(j,A,B,b)=>j=a+A.length∧ig cmp l[i] (b8 cmp (l.take i))=B.reverse++ig cmp l[i] A∧A.length+B.length=i∧(∀y ∈ A,y ∈ l)∧b=P++(A.reverse++(l[i]::(B++(l.drop (i+1)++S)))))
    (fun(j,_,_,b)=>aI [(0,.buf 1000001),(1,.d (.int .i64 a)),(2,.d (.int .i64 b0)),(3,.fn g []),(8,.d (.int .i64 k)),(9,.d (.int .i64 j))] [(1000001,aL 242 5 iy dn b)])
    (fun(_,A,_,_)=>A.length) (k,b8 cmp (l.take i),[],c) ⟨by omega,by simp,by simpa using hlr,hmem,hc⟩ (by exact be [(1000001,1000001)]) ?_
   rintro⟨j,A,B,b⟩ ⟨q0,q1,q2,q3,hbd⟩;try dsimp only at q0 q1 q2 q3 hbd
   have hlen:b.length=P.length+l.length+S.length:=by rw[hbd];simp only[List.length_append,List.length_cons,List.length_reverse,List.length_drop];omega
   have hfin:A= []∨(∃y A',A=y::A'∧0≤cmp l[i] y)→b=P++((b8 cmp (l.take (i+1))).reverse++(l.drop (i+1)++S)):=fun h=>by
    have e:b8 cmp (l.take (i+1))=B.reverse++l[i]::A:=by
     rw[mO hi,mu,q1];rcases h with rfl|⟨y,A',rfl,h⟩
     · rfl
     · rw[ig,if_neg (by omega)]
    rw[e,hbd];simp
   cases A with
   | nil=>
     simp only[List.length_nil]at q0 q2;conv=>whnf
     repeat' (first|((first|(refine aa ?_ ?_<;>intro hb<;>try simp only[az]at hb)|refine aq hT 4 jd ?_|refine aq hT 6 iU ?_|omega|refine aA ?_|decide|assumption)<;>conv=>whnf))
     all_goals try(exfalso;omega)
     exact⟨(k+1,i+1,b),⟨by show k+1=a+(i+1);omega,by show 1≤i+1;omega,.inl hi,hfin (.inl rfl)⟩,by show l.length - (i+1)<l.length - i;omega,(by exact be [(1000001,1000001)])⟩
   | cons y A=>
     simp only[List.length_cons]at q0 q2;obtain⟨g1,g2,g3⟩:=wB (P++A.reverse) [] (B++(l.drop (i+1)++S)) y l[i] dn;have hc':b=(P++A.reverse)++y::([]++l[i]::(B++(l.drop (i+1)++S))):=by rw[hbd];simp
     have i1:((j:Int) - 1).toNat=(P++A.reverse).length:=by simp only[List.length_append,List.length_reverse];omega
     have i2:(j:Int).toNat=(P++A.reverse).length+1+([]:List cJ).length:=by simp only[List.length_append,List.length_nil,List.length_reverse];omega
     rw[←hc',←i1]at g1;rw[←hc',←i2]at g2;rw[←hc',←i2,←i1]at g3;conv=>whnf
     repeat' (first|((first|(refine dQ.of (hcmp l[i] y hx (q3 y (by simp))) [] rfl ⟨by rw[←g2];exact lr,by rw[←g1];exact lr,trivial⟩ trivial rfl rfl ?_;rintro x rout ⟨rfl,rfl⟩;refine⟨rfl,?_⟩)|(refine aa ?_ ?_<;>intro hb<;>try simp only[az]at hb)|refine aq hT 4 jd ?_|refine aq hT 6 iU ?_|omega|refine aA ?_|decide|assumption)<;>conv=>whnf))
     all_goals try(exfalso;omega)
     · refine⟨(j - 1,A,y::B,(b.set (j:Int).toNat (b.getD ((j:Int) - 1).toNat dn)).set ((j:Int) - 1).toNat (b.getD (j:Int).toNat dn)),⟨by omega,by rw[q1];simp[ig,hb],by simp only[List.length_cons];omega,fun z hz=>q3 z (by simp[hz]),?_⟩,by show A.length<(y::A).length;simp,af [(1000001,1000001)] rfl rfl ⟨lr,lr,lr,lr,lr,ap (by omega),trivial⟩ ⟨fN (fun _=>rfl) (fun _=>rfl),trivial⟩⟩;rw[List.set_comm _ _ (by omega),g1,g2,g3];simp
     · exact⟨(k+1,i+1,b),⟨by show k+1=a+(i+1);omega,by show 1≤i+1;omega,.inl hi,hfin (.inr ⟨y,A,rfl,by omega⟩)⟩,by show l.length - (i+1)<l.length - i;omega,(by exact be [(1000001,1000001)])⟩
 · conv=>whnf
   repeat' (first|((first|(refine aa ?_ ?_<;>intro hb<;>try simp only[az]at hb)|refine aq hT 4 jd ?_|refine aq hT 6 iU ?_|omega|refine aA ?_|decide|assumption)<;>conv=>whnf))
   all_goals try(exfalso;omega)
   refine .ret _ ?_;conv=>whnf
   have e1:c=P++(eI cmp l++S):=by
    rw[p3,List.take_of_length_le (by omega),List.drop_eq_nil_iff.2 (by omega),List.nil_append];rfl
   subst e1;exact⟨_,⟨rfl,rfl⟩,rr,trivial⟩
set_option maxHeartbeats 4000000 in
theorem HY (g:FuncId)(f:cJ→cJ→Int)(hf:jj f)(l:List cJ)(hl:l.length≤2^19)
 (hcmp:∀p q,p ∈ l→q ∈ l→ai Tryz.prog g [.agg ((iy p).map .d),.agg ((iy q).map .d)] [] (fun y r=>y= .d (.int .i64 (f p q))∧r= [])):
 ai Tryz.prog 199 [.buf 1000001,.d (.int .i64 l.length),.fn g []] [(1000001,aL 242 5 iy dn l)]
  (fun y r=>y= .tup []∧∃Z,Z.Perm l∧l6 f Z∧r= [(1000001,aL 242 5 iy dn Z)]):=by
 obtain⟨n,hn⟩:∃n,n=l.length:=⟨_,rfl⟩;rw[←hn]at hl ⊢;refine ae hT (C:= []) Tryz.func199 rfl Tryz.call199 rfl rfl rfl ?_;conv=>whnf
 repeat' (first|((first|(refine aa ?_ ?_<;>intro hb<;>try simp only[az]at hb)|omega|refine aA ?_|decide|assumption)<;>conv=>whnf))
 refine ah hT (C:= []) (ι:=Nat×List (List cJ)×List cJ×List cJ) (fun(a,D,R,c)=>(∀x ∈ D,x.length=20∧l6 f x)∧D.flatten.length=a∧c=D.flatten++R∧c.Perm l)
  (fun(a,_,_,c)=>aI [(0,.buf 1000001),(1,.d (.int .i64 n)),(2,.fn g []),(6,.d (.int .i64 20)),(7,.d (.int .i64 a)),(8,.d (.int .i64 ((a+20:Nat):Int)))] [(1000001,aL 242 5 iy dn c)])
  (fun(_,_,R,_)=>R.length) (0,[],l,l) ⟨by simp,rfl,rfl,List.Perm.refl _⟩ (by exact be [(1000001,1000001)]) ?_
 rintro⟨a,D,R,c⟩ ⟨p1,p2,p3,p4⟩;try dsimp only at p1 p2 p3 p4
 have q1:a+R.length=n:=by rw[hn,←p4.length_eq,p3,List.length_append,p2]
 rcases Nat.lt_or_ge R.length 20 with q|q
 · have hcI:=Cm g f D.flatten R [] c a n p2 q1 (by rw[p3,List.append_nil]) (by rw[p4.length_eq];omega) (fun x y hx hy=>hcmp x y (p4.mem_iff.1 (by rw[p3];simp[hx])) (p4.mem_iff.1 (by rw[p3];simp[hy])));rw[List.append_nil]at hcI
   have p4':(D.flatten++eI f R).Perm l:=by
    refine List.Perm.trans ?_ p4;rw[p3];exact List.Perm.append_left _ (eh f R)
   have hR:(eI f R).length=R.length:=(eh f R).length_eq;have sR:=m0 hf R;generalize eI f R=T at hcI p4' hR sR;conv=>whnf
   repeat' (first|((first|(refine cd hcI [(1000001,1000001)] ?_;rintro y rout ⟨rfl,rfl⟩;refine⟨rfl,?_⟩)|(refine aa ?_ ?_<;>intro hb<;>try simp only[az]at hb)|omega|refine aA ?_|decide|assumption)<;>conv=>whnf))
   all_goals try(exfalso;omega)
   refine ah hT (C:= []) (ι:=Nat×List (List cJ)×List cJ×List cJ) (fun(bs,D,t,c)=>20≤bs∧bs≤2*n+20∧(∀x ∈ D,x.length=bs∧l6 f x)∧t.length<bs∧l6 f t∧c=D.flatten++t∧c.Perm l)
    (fun(bs,_,_,c)=>aI [(0,.buf 1000001),(1,.d (.int .i64 n)),(2,.fn g []),(6,.d (.int .i64 bs))] [(1000001,aL 242 5 iy dn c)])
    (fun(bs,_,_,_)=>2*n - bs) (20,D,T,D.flatten++T) ⟨Nat.le_refl _,by show 20≤2*n+20;omega,p1,by show T.length<20;omega,sR,rfl,p4'⟩ (by exact be [(1000001,1000001)]) ?_
   clear hcI p4' sR hR p1 p2 p3 p4 q1 q;rintro⟨bs,D,t,c⟩ ⟨p1,p2,p3,p4,p5,p6,p7⟩;try dsimp only at p1 p2 p3 p4 p5 p6 p7
   have q1:D.flatten.length+t.length=n:=by rw[hn,←p7.length_eq,p6,List.length_append]
   rcases Nat.lt_or_ge bs n with q|q
   · conv=>whnf
     repeat' (first|((first|(refine aa ?_ ?_<;>intro hb<;>try simp only[az]at hb)|omega|refine aA ?_|decide|assumption)<;>conv=>whnf))
     all_goals try(exfalso;omega)
     refine ah hT (C:= []) (ι:=Nat×List (List cJ)×List (List cJ)×List cJ) (fun(a,E,D,c)=>(∀x ∈ E,x.length=2*bs∧l6 f x)∧(∀x ∈ D,x.length=bs∧l6 f x)∧E.flatten.length=a∧c=E.flatten++(D.flatten++t)∧c.Perm l)
      (fun(a,_,_,c)=>aI [(0,.buf 1000001),(1,.d (.int .i64 n)),(2,.fn g []),(6,.d (.int .i64 bs)),(7,.d (.int .i64 a)),(8,.d (.int .i64 ((a+2*bs:Nat):Int)))] [(1000001,aL 242 5 iy dn c)])
      (fun(_,_,D,_)=>D.length) (0,[],D,c) ⟨by simp,p3,rfl,p6,p7⟩ (by exact be [(1000001,1000001)]) ?_
     clear p3 p6 p7 q1;rintro⟨a,E,D,c⟩ ⟨r1,r2,r3,r4,r5⟩;try dsimp only at r1 r2 r3 r4 r5
     have q1:a+D.flatten.length+t.length=n:=by rw[hn,←r5.length_eq,r4,List.length_append,List.length_append];omega
     have hlc:c.length≤2^20:=by rw[r5.length_eq];omega
     have hcm:∀p q,p ∈ c→q ∈ c→ai Tryz.prog g [.agg ((iy p).map .d),.agg ((iy q).map .d)] [] (fun y r=>y= .d (.int .i64 (f p q))∧r= []):=fun p q hp hq=>hcmp p q (r5.mem_iff.1 hp) (r5.mem_iff.1 hq)
     match D,r2,r4,q1 with
     | [],r2,r4,q1=>
       simp only[List.flatten_nil,List.length_nil,List.nil_append]at q1 r4;conv=>whnf
       repeat' (first|((first|(refine aa ?_ ?_<;>intro hb<;>try simp only[az]at hb)|omega|refine aA ?_|decide|assumption)<;>conv=>whnf))
       all_goals try(exfalso;omega)
       exact⟨(2*bs,E,t,c),⟨by show 20≤2*bs;omega,by show 2*bs≤2*n+20;omega,r1,by show t.length<2*bs;omega,p5,r4,r5⟩,by show 2*n - 2*bs<2*n - bs;omega,(by exact be [(1000001,1000001)])⟩
     | [c1],r2,r4,q1=>
       simp only[List.flatten_cons,List.flatten_nil,List.append_nil]at q1 r4;have k1:=r2 c1 (by simp)
       by_cases ht:t.length=0
       · have et:t= []:=List.length_eq_zero_iff.1 ht;conv=>whnf
         repeat' (first|((first|(refine aa ?_ ?_<;>intro hb<;>try simp only[az]at hb)|omega|refine aA ?_|decide|assumption)<;>conv=>whnf))
         all_goals try(exfalso;omega)
         exact⟨(2*bs,E,c1,c),⟨by show 20≤2*bs;omega,by show 2*bs≤2*n+20;omega,r1,by show c1.length<2*bs;omega,k1.2,by show c=_;rw[r4,et,List.append_nil],r5⟩,by show 2*n - 2*bs<2*n - bs;omega,(by exact be [(1000001,1000001)])⟩
       · have hcS:=B0 g f hf (c1.length+t.length) E.flatten c1 t [] c a (a+bs) n (Nat.le_refl _) r3 (by omega) (by omega) (by rw[r4];simp) (by omega) (by omega) k1.2 p5 hlc (fun p q hp hq=>hcm p q (by rw[r4];exact List.mem_append_right _ hp) (by rw[r4];exact List.mem_append_right _ hq));conv=>whnf
         repeat' (first|((first|(refine dQ.of hcS [(1000001,1000001)] rfl ⟨lr,lr,ap (by omega),lr,lr,trivial⟩ ⟨rr,trivial⟩ rfl rfl ?_;rintro y rout ⟨rfl,Z,z1,z2,rfl⟩;refine⟨rfl,?_⟩)|(refine aa ?_ ?_<;>intro hb<;>try simp only[az]at hb)|omega|refine aA ?_|decide|assumption)<;>conv=>whnf))
         all_goals try(exfalso;omega)
         have hz:=z1.length_eq;rw[List.length_append]at hz;rw[List.append_nil]at*
         exact⟨(2*bs,E,Z,E.flatten++Z),⟨by show 20≤2*bs;omega,by show 2*bs≤2*n+20;omega,r1,by show Z.length<2*bs;omega,z2,rfl,(List.Perm.append_left _ z1).trans (by rw[←r4];exact r5)⟩,by show 2*n - 2*bs<2*n - bs;omega,(by exact be [(1000001,1000001)])⟩
     | c1::c2::D,r2,r4,q1=>
       simp only[List.flatten_cons,List.length_append]at q1;have k1:=r2 c1 (by simp);have k2:=r2 c2 (by simp);have r4':c=E.flatten++(c1++(c2++(D.flatten++t))):=by rw[r4];simp
       have hcS:=B0 g f hf (c1.length+c2.length) E.flatten c1 c2 (D.flatten++t) c a (a+bs) (a+2*bs) (Nat.le_refl _) r3 (by omega) (by omega) r4' (by omega) (by omega) k1.2 k2.2 hlc (fun p q hp hq=>hcm p q (by rw[r4'];rcases List.mem_append.1 hp with u|u<;>simp[u]) (by rw[r4'];rcases List.mem_append.1 hq with u|u<;>simp[u]));conv=>whnf
       repeat' (first|((first|(refine dQ.of hcS [(1000001,1000001)] rfl ⟨lr,lr,ap (by omega),lr,lr,trivial⟩ ⟨rr,trivial⟩ rfl rfl ?_;rintro y rout ⟨rfl,Z,z1,z2,rfl⟩;refine⟨rfl,?_⟩)|(refine aa ?_ ?_<;>intro hb<;>try simp only[az]at hb)|omega|refine aA ?_|decide|assumption)<;>conv=>whnf))
       all_goals try(exfalso;omega)
       have hz:=z1.length_eq;rw[List.length_append]at hz;refine⟨(a+2*bs,E++ [Z],D,E.flatten++(Z++(D.flatten++t))),⟨fun x hx=> ?_,fun x hx=>r2 x (by simp[hx]),by simp only[List.flatten_append,List.flatten_cons,List.flatten_nil,List.append_nil,List.length_append];omega,by simp,?_⟩,by show D.length<(c1::c2::D).length;simp;omega,(by exact be [(1000001,1000001)])⟩
       · rcases List.mem_append.1 hx with u|u
         · exact r1 x u
         · rw[List.mem_singleton]at u;subst u;exact⟨by omega,z2⟩
       · refine List.Perm.trans ?_ r5;rw[r4',←List.append_assoc c1];exact List.Perm.append_left _ (z1.append_right _)
   · conv=>whnf
     repeat' (first|((first|(refine aa ?_ ?_<;>intro hb<;>try simp only[az]at hb)|omega|refine aA ?_|decide|assumption)<;>conv=>whnf))
     all_goals try(exfalso;omega)
     refine .ret _ ?_;conv=>whnf
     refine⟨_,⟨rfl,c,p7,?_,rfl⟩,rr,trivial⟩
     match D,p3,p6,q1 with
     | [],p3,p6,q1=>rw[p6];exact p5
     | c1::D,p3,p6,q1=>
       have k1:=p3 c1 (by simp);simp only[List.flatten_cons,List.length_append]at q1;have h1:D.flatten= []:=List.length_eq_zero_iff.1 (by omega);have h2:t= []:=List.length_eq_zero_iff.1 (by omega);rw[p6,List.flatten_cons,h1,h2,List.append_nil,List.append_nil];exact k1.2
 · have hT0:(R.take 20).length=20:=by rw[List.length_take];omega
   have hR:R.take 20++R.drop 20=R:=List.take_append_drop 20 R;have hD:(R.drop 20).length=R.length - 20:=List.length_drop ..;generalize R.take 20=R1 at hT0 hR;generalize R.drop 20=R2 at hR hD;subst hR;have hcI:=Cm g f D.flatten R1 R2 c a (a+20) p2 (by omega) p3 (by rw[p4.length_eq];omega) (fun x y hx hy=>hcmp x y (p4.mem_iff.1 (by rw[p3];simp[hx])) (p4.mem_iff.1 (by rw[p3];simp[hy])));conv=>whnf
   repeat' (first|((first|(refine cd hcI [(1000001,1000001)] ?_;rintro y rout ⟨rfl,rfl⟩;refine⟨rfl,?_⟩)|(refine aa ?_ ?_<;>intro hb<;>try simp only[az]at hb)|omega|refine aA ?_|decide|assumption)<;>conv=>whnf))
   all_goals try(exfalso;omega)
   refine⟨(a+20,D++ [eI f R1],R2,D.flatten++(eI f R1++R2)),⟨fun x hx=> ?_,by simp only[List.flatten_append,List.flatten_cons,List.flatten_nil,List.append_nil,List.length_append,(eh f R1).length_eq];omega,by simp,?_⟩,by show R2.length<(R1++R2).length;rw[List.length_append];omega,(by exact be [(1000001,1000001)])⟩
   · rcases List.mem_append.1 hx with u|u
     · exact p1 x u
     · rw[List.mem_singleton]at u;subst u;exact⟨by rw[(eh f R1).length_eq];exact hT0,m0 hf R1⟩
   · refine List.Perm.trans ?_ p4;rw[p3];exact List.Perm.append_left _ ((eh f R1).append_right _)
theorem KM (g:FuncId)(f:cJ→cJ→Int)(hf:jj f)(l:List cJ)(hl:l.length≤2^19)(hz:∀a ∈ l,∀b ∈ l,f a b=0→a=b)
 (hcmp:∀p q,p ∈ l→q ∈ l→ai Tryz.prog g [.agg ((iy p).map .d),.agg ((iy q).map .d)] [] (fun y r=>y= .d (.int .i64 (f p q))∧r= [])):
 ai Tryz.prog 153 [.buf 1000001,.fn g []] [(1000001,aL 242 5 iy dn l)]
  (fun y r=>y= .tup []∧r= [(1000001,aL 242 5 iy dn (eI f l))]):=by
 refine ae hT (C:= []) Tryz.func153 rfl Tryz.call153 rfl rfl rfl ?_;conv=>whnf
 repeat' (first|((first|(refine cd (HY g f hf l hl hcmp) [(1000001,1000001)] ?_;rintro y rout ⟨rfl,Z,z1,z2,rfl⟩;refine⟨rfl,?_⟩)|(refine aa ?_ ?_<;>intro hb<;>try simp only[az]at hb)|omega|refine aA ?_|decide|assumption)<;>conv=>whnf))
 refine .ret _ ?_;conv=>whnf
 rw[yo hf hz z1 z2];exact⟨_,⟨rfl,rfl⟩,rr,trivial⟩
def jY (a b:cJ):Int:=al [eO a.tm b.tm,dJ a.veh b.veh]
theorem DB:jY=xl (fun a b=>eO a.tm b.tm) (fun a b=>dJ a.veh b.veh):=by
 funext a b
 unfold jY xl;simp only[al];grind
theorem Eb:jj jY:=by
 rw[DB];exact(jj.int (fun a:cJ=>a.tm)).seq (jj.str (fun a:cJ=>a.veh))
theorem AB {a b:cJ}(h:jY a b=0):a.tm=b.tm∧a.veh=b.veh:=by
 unfold jY at h;exact⟨iP.1 (bj h _ (by simp)),kg.1 (bj h _ (by simp))⟩
theorem KE (a b:cJ):ai Tryz.prog 154 [.agg ((iy a).map .d),.agg ((iy b).map .d)] [] (fun x r=>x= .d (.int .i64 (jY a b))∧r= []):=by
 refine ae hT (C:= []) Tryz.func154 rfl Tryz.call154 rfl rfl rfl ?_;conv=>whnf
 repeat' (first|(refine ac (Ax _ _) rfl rfl ?_;rotate_right;conv=>whnf)|(refine ac (E7 _ _) rfl rfl ?_;rotate_right;conv=>whnf)|((first|refine aw (DW [_,_] (by simp)) ⟨aj (by rfl) (by rfl),trivial⟩ rfl ?_|(refine aa ?_ ?_<;>intro hb<;>try simp only[az]at hb)|refine aq hT 1 BF ?_|omega|refine aA ?_|decide|assumption)<;>conv=>whnf))
 refine .ret _ ?_;conv=>whnf
 refine⟨[],⟨?_,rfl⟩,trivial⟩;conv=>lhs;whnf
 rfl
theorem FG {l:List cJ}(h:l.Pairwise fun a b=>¬ (a.veh=b.veh∧a.tm=b.tm)):∀a ∈ l,∀b ∈ l,jY a b=0→a=b:=fun a ha b hb e=>by
 obtain⟨e1,e2⟩:=AB e;obtain⟨i,hi,rfl⟩:=List.getElem_of_mem ha;obtain⟨j,hj,rfl⟩:=List.getElem_of_mem hb;rcases Nat.lt_trichotomy i j with q|q|q
 · exact absurd ⟨e2,e1⟩ (List.pairwise_iff_getElem.1 h i j hi hj q)
 · subst q;rfl
 · exact absurd ⟨e2.symm,e1.symm⟩ (List.pairwise_iff_getElem.1 h j i hj hi q)
theorem Ft (l:List cJ)(hl:l.length≤2^19)(h:l.Pairwise fun a b=>¬ (a.veh=b.veh∧a.tm=b.tm)):ai Tryz.prog 153 [.buf 1000001,.fn 154 []] [(1000001,HE l)] (fun y r=>y= .tup []∧r= [(1000001,HE (eI jY l))]):=
 KM 154 jY Eb l hl (FG h) fun p q _ _=>KE p q
def fJ:OL:= [(0,[]),(1,[]),(2,[]),(3,[]),(4,rg 4),(5,rg 4),(6,rg 6),(7,rg 6),(8,[])]
def eT:OL:= [(0,[]),(1,[]),(2,[]),(3,[]),(4,rg 4),(5,rg 4),(6,[])]
abbrev Ms (h:eH)(vm:Mp (List UInt8))(sm:Mp Bool)(s:dw)(lg:List cJ):List (Nat×aY):=
 [(22,.cells 120 (Be h++ [.mp 14,.mp 15,.mp 16,.buf 50,.mp 17,.mp 18,.mp 19,.mp 20,.buf 51])),(14,eY false [.str []] pT vm),(15,eY false [.bool false] HH sm),(16,eY true (kE oM) kE s.sts),(50,HE lg),(17,GB s.ats),(18,eY true (lS lO) lS s.bks),(19,eY true (eK none) eK s.his),(20,eY false [.int .i64 0] ED s.paid),(51,JN s.ref)]
set_option maxHeartbeats 16000000 in
theorem Jd (h:eH)(hco:l8 h.flt.cls)(hv:h.flt.veh.length≤2^20)(hs:h.flt.sta.length≤2^20)(l:List bv)(hl:l.length≤400)(hx:∀x ∈ l,x.words.length≤2^20):
 ai Tryz.prog 89 [.agg (Be h),.d (jI l)] [(1000009,KX)] (fun y r=>y= .ptr 22 0∧r=(1000009,KX)::Ms h (lp h.flt.veh) (pD h.flt.sta) (cq h l) (eI jY (cq h l).log)):=by
 have cF:=fun s hs x hx=>II h hco (lp h.flt.veh) (pD h.flt.sta) s hs x hx
 obtain⟨V,hV⟩:∃V,V=h.flt.veh:=⟨_,rfl⟩;obtain⟨W,hW⟩:∃W,W=h.flt.sta:=⟨_,rfl⟩;have hZ:=fun i=>xD h (lp V) (pD W) l i
 have hG:=fun i hi e=>EB h (lp V) (pD W) (l:=l) (i:=i) hi e
 have hB:=fun i hi e=>GF h (lp V) (pD W) (l:=l) (i:=i) hi e
 have hE:cq h l=mh h (lp V) (pD W) l l.length:=by rw[hV,hW];rfl
 rw[hE];obtain⟨kA1,nA1,gA1,kA3,nA3,gA3,kB0,nB0,gB0,kB1,nB1,gB1,kB2,nB2,gB2,kB3,nB3,gB3,kB4,nB4,gB4,C0,C1,C2,C3,C4,C5,C6,hH⟩:∃ (kA1 nA1:Nat) (gA1:Nat→List DV) (kA3 nA3:Nat) (gA3:Nat→List DV) (kB0 nB0:Nat) (gB0:Nat→List DV) (kB1 nB1:Nat) (gB1:Nat→List DV) (kB2 nB2:Nat) (gB2:Nat→List DV) (kB3 nB3:Nat) (gB3:Nat→List DV) (kB4 nB4:Nat) (gB4:Nat→List DV) (C0 C1 C2 C3 C4 C5 C6:Int),Be h= [.d (jN W),.d (.ro kA1 nA1 gA1),.d (lY V),.d (.ro kA3 nA3 gA3),.d (.ro kB0 nB0 gB0),.d (.ro kB1 nB1 gB1),.d (.ro kB2 nB2 gB2),.d (.ro kB3 nB3 gB3),.d (.ro kB4 nB4 gB4),.d (.int .i64 C0),.d (.int .i64 C1),.d (.int .i64 C2),.d (.int .i64 C3),.d (.int .i64 C4),.d (.int .i64 C5),.d (.int .i64 C6)]:=⟨_,_,_,_,_,_,_,_,_,_,_,_,_,_,_,_,_,_,_,_,_,_,_,_,_,_,_,_,by rw[hV,hW];rfl⟩;unfold Ms;unfold jf Mb cL JS at cF;rw[hH];rw[hH]at cF;rw[←hV]at hv;rw[←hW]at hs;rw[←hV,←hW]at cF ⊢;have hO0:mh h (lp V) (pD W) l 0=kC:=rfl;have hR:=fun i=>FE h (lp V) (pD W) l i
 have hS:=fun s x (e:kW h (lp V) (pD W) s x≠0)=>tQ e
 generalize mh h (lp V) (pD W) l=O at hZ hG hB hO0 hR ⊢;generalize kW h (lp V) (pD W)=fE at cF hG hB hS;generalize kN h (lp V) (pD W)=fO at cF hG hS;refine ae hT (C:= []) Tryz.func89 rfl Tryz.call89 rfl rfl rfl ?_;conv=>whnf
 repeat' (first|((first|(refine aa ?_ ?_<;>intro hb<;>try simp only[az]at hb)|refine aq hT 5 fJ ?_|refine aq hT 10 eT ?_|omega|refine aA ?_|decide|assumption)<;>conv=>whnf))
 refine ah hT (C:= []) (ι:=Nat) (fun i=>i≤V.length) (fun i=>aI [(1,.d (jI l)),(2,.ptr 2 0),(5,.ptr 22 0),(25,.d (lY V)),(26,.d (.int .i64 V.length)),(27,.d (.int .i64 i))] [(1000009,KX),(2,.cells 42 [.d (jN W),.d (.ro kA1 nA1 gA1),.d (lY V),.d (.ro kA3 nA3 gA3),.d (.ro kB0 nB0 gB0),.d (.ro kB1 nB1 gB1),.d (.ro kB2 nB2 gB2),.d (.ro kB3 nB3 gB3),.d (.ro kB4 nB4 gB4),.d (.int .i64 C0),.d (.int .i64 C1),.d (.int .i64 C2),.d (.int .i64 C3),.d (.int .i64 C4),.d (.int .i64 C5),.d (.int .i64 C6)]),(22,.cells 120 [.d (jN W),.d (.ro kA1 nA1 gA1),.d (lY V),.d (.ro kA3 nA3 gA3),.d (.ro kB0 nB0 gB0),.d (.ro kB1 nB1 gB1),.d (.ro kB2 nB2 gB2),.d (.ro kB3 nB3 gB3),.d (.ro kB4 nB4 gB4),.d (.int .i64 C0),.d (.int .i64 C1),.d (.int .i64 C2),.d (.int .i64 C3),.d (.int .i64 C4),.d (.int .i64 C5),.d (.int .i64 C6),.mp 14,.mp 15,.mp 16,.d .nilsl,.mp 17,.mp 18,.mp 19,.mp 20,.d .nilsl]),(14,eY false [.str []] pT (lp (V.take i))),(15,eY false [.bool false] HH (pD [])),(16,eY true (kE oM) kE kC.sts),(17,GB kC.ats),(18,eY true (lS lO) lS kC.bks),(19,eY true (eK none) eK kC.his),(20,eY false [.int .i64 0] ED kC.paid)])
  (fun i=>V.length - i) 0 (Nat.zero_le _) ?_ ?_
 · exact af [(1000009,1000009),(2,2),(22,22),(14,14),(15,15),(16,16),(17,17),(18,18),(19,19),(20,20)] rfl rfl ⟨lr,lr,lr,lr,lr,lr,trivial⟩ ⟨rr,rr,rr,bC (fun _ _=>⟨rfl,rfl⟩),bC (fun _ _=>⟨rfl,rfl⟩),bC (fun _ _=>⟨rfl,rfl⟩),bC (fun K hK=>by obtain⟨s,n,rfl⟩:=CL hK;exact⟨rfl,rfl⟩),bC (fun _ _=>⟨rfl,rfl⟩),bC (fun _ _=>⟨rfl,rfl⟩),bC (fun _ _=>⟨rfl,rfl⟩),trivial⟩
 rintro i hi;have hi:i≤V.length:=hi;have e1:(i:Int).toNat=i:=Int.toNat_natCast i;rcases Nat.lt_or_ge i V.length with hin|hin
 · conv=>whnf
   repeat' (first|((first|(refine aa ?_ ?_<;>intro hb<;>try simp only[az]at hb)|refine aq hT 5 fJ ?_|refine aq hT 10 eT ?_|omega|refine aA ?_|decide|assumption)<;>conv=>whnf))
   all_goals try(exfalso;omega)
   refine⟨i+1,by show i+1≤_;omega,by show V.length - (i+1)<V.length - i;omega,af [(2,2),(1000009,1000009),(22,22),(14,14),(15,15),(16,16),(17,17),(18,18),(19,19),(20,20)] rfl rfl ⟨lr,lr,lr,lr,lr,ap (by omega),trivial⟩ ⟨rr,rr,rr,?_,rr,rr,rr,rr,rr,rr,trivial⟩⟩;rw[yK hin,←e1];exact fq
 have hiV:i=V.length:=by omega
 rw[hiV,List.take_length];clear hin e1 hiV;conv=>whnf
 repeat' (first|((first|(refine aa ?_ ?_<;>intro hb<;>try simp only[az]at hb)|refine aq hT 5 fJ ?_|refine aq hT 10 eT ?_|omega|refine aA ?_|decide|assumption)<;>conv=>whnf))
 all_goals try(exfalso;omega)
 refine ah hT (C:= []) (ι:=Nat) (fun i=>i≤W.length) (fun i=>aI [(1,.d (jI l)),(5,.ptr 22 0),(42,.d (jN W)),(43,.d (.int .i64 W.length)),(44,.d (.int .i64 i))] [(1000009,KX),(22,.cells 120 [.d (jN W),.d (.ro kA1 nA1 gA1),.d (lY V),.d (.ro kA3 nA3 gA3),.d (.ro kB0 nB0 gB0),.d (.ro kB1 nB1 gB1),.d (.ro kB2 nB2 gB2),.d (.ro kB3 nB3 gB3),.d (.ro kB4 nB4 gB4),.d (.int .i64 C0),.d (.int .i64 C1),.d (.int .i64 C2),.d (.int .i64 C3),.d (.int .i64 C4),.d (.int .i64 C5),.d (.int .i64 C6),.mp 14,.mp 15,.mp 16,.d .nilsl,.mp 17,.mp 18,.mp 19,.mp 20,.d .nilsl]),(14,eY false [.str []] pT (lp V)),(15,eY false [.bool false] HH (pD (W.take i))),(16,eY true (kE oM) kE kC.sts),(17,GB kC.ats),(18,eY true (lS lO) lS kC.bks),(19,eY true (eK none) eK kC.his),(20,eY false [.int .i64 0] ED kC.paid)])
  (fun i=>W.length - i) 0 (Nat.zero_le _) ?_ ?_
 · exact af [(1000009,1000009),(22,22),(14,14),(15,15),(16,16),(17,17),(18,18),(19,19),(20,20)] rfl rfl ⟨lr,lr,lr,lr,lr,trivial⟩ ⟨rr,rr,rr,rr,rr,rr,rr,rr,rr,trivial⟩
 rintro i hi;have hi:i≤W.length:=hi;have e1:(i:Int).toNat=i:=Int.toNat_natCast i;rcases Nat.lt_or_ge i W.length with hin|hin
 · conv=>whnf
   repeat' (first|((first|(refine aa ?_ ?_<;>intro hb<;>try simp only[az]at hb)|refine aq hT 5 fJ ?_|refine aq hT 10 eT ?_|omega|refine aA ?_|decide|assumption)<;>conv=>whnf))
   all_goals try(exfalso;omega)
   refine⟨i+1,by show i+1≤_;omega,by show W.length - (i+1)<W.length - i;omega,af [(1000009,1000009),(22,22),(14,14),(15,15),(16,16),(17,17),(18,18),(19,19),(20,20)] rfl rfl ⟨lr,lr,lr,lr,ap (by omega),trivial⟩ ⟨rr,rr,rr,?_,rr,rr,rr,rr,rr,trivial⟩⟩;rw[FQ hin,←e1];exact fq
 have hiW:i=W.length:=by omega
 rw[hiW,List.take_length];clear hin e1 hiW;conv=>whnf
 repeat' (first|((first|(refine aa ?_ ?_<;>intro hb<;>try simp only[az]at hb)|refine aq hT 5 fJ ?_|refine aq hT 10 eT ?_|omega|refine aA ?_|decide|assumption)<;>conv=>whnf))
 all_goals try(exfalso;omega)
 refine ah hT (C:= []) (ι:=Nat×dw) (fun(i,s)=>i≤l.length∧s=O i) (fun(i,s)=>aI [(5,.ptr 22 0),(55,.d (jI l)),(56,.d (.int .i64 l.length)),(57,.d (.int .i64 i))] [(1000009,KX),(22,.cells 120 [.d (jN W),.d (.ro kA1 nA1 gA1),.d (lY V),.d (.ro kA3 nA3 gA3),.d (.ro kB0 nB0 gB0),.d (.ro kB1 nB1 gB1),.d (.ro kB2 nB2 gB2),.d (.ro kB3 nB3 gB3),.d (.ro kB4 nB4 gB4),.d (.int .i64 C0),.d (.int .i64 C1),.d (.int .i64 C2),.d (.int .i64 C3),.d (.int .i64 C4),.d (.int .i64 C5),.d (.int .i64 C6),.mp 14,.mp 15,.mp 16,.buf 50,.mp 17,.mp 18,.mp 19,.mp 20,.buf 51]),(14,eY false [.str []] pT (lp V)),(15,eY false [.bool false] HH (pD W)),(16,eY true (kE oM) kE s.sts),(50,HE s.log),(17,GB s.ats),(18,eY true (lS lO) lS s.bks),(19,eY true (eK none) eK s.his),(20,eY false [.int .i64 0] ED s.paid),(51,JN s.ref)])
  (fun(i,_)=>l.length - i) (0,kC) ⟨Nat.zero_le _,hO0.symm⟩ ?_ ?_
 · refine(dg 22 50 242 5 19 (aW iy dn []) rfl rfl rfl (by decide) rfl).trans ((dg 22 51 239 2 24 (aW Q1 QW []) rfl rfl rfl (by decide) rfl).trans ?_);exact af [(50,50),(51,51),(1000009,1000009),(22,22),(14,14),(15,15),(16,16),(17,17),(18,18),(19,19),(20,20)] rfl rfl ⟨lr,lr,lr,lr,trivial⟩ ⟨rr,rr,rr,rr,rr,rr,rr,rr,rr,rr,rr,trivial⟩
 rintro⟨i,s⟩ ⟨hi,hsO⟩;have hi:i≤l.length:=hi;have hsO:s=O i:=hsO;have e1:(i:Int).toNat=i:=Int.toNat_natCast i;have kI:=hZ i hi;have kR:=hR i;rw[←hsO]at kI kR;rcases Nat.lt_or_ge i l.length with hin|hin
 · have hxi:=hx _ (ao (x:=cW) hin);have cX:=cF s (kI.ok (by omega) (by omega)) (l.getD (i:Int).toNat cW) (by rw[e1];exact hxi)
   by_cases e:fE s (l.getD (i:Int).toNat cW)=0
   · have hN:=hG i hin (by rw[←hsO,←e1];exact e);rw[←hsO]at hN;rw[e]at cX;conv=>whnf
     repeat' (first|((first|(refine cd cX [(1000009,1000009),(1000001,22),(1000002,14),(1000003,15),(1000004,16),(1000005,50),(1000006,17),(1000007,18),(1000008,19),(1000010,20),(1000011,51),(50,60)] ?_;rintro y rout ⟨rfl,rfl⟩;refine⟨rfl,?_⟩)|(refine aa ?_ ?_<;>intro hb<;>try simp only[az]at hb)|refine aq hT 5 fJ ?_|refine aq hT 10 eT ?_|omega|refine aA ?_|decide|assumption)<;>conv=>whnf))
     all_goals try(exfalso;omega)
     exact⟨(i+1,fO s (l.getD (i:Int).toNat cW)),⟨by show i+1≤_;omega,by show _=O (i+1);rw[hN,e1]⟩,by show l.length - (i+1)<l.length - i;omega,af [(50,60),(51,51),(1000009,1000009),(22,22),(14,14),(15,15),(16,16),(17,17),(18,18),(19,19),(20,20)] rfl rfl ⟨lr,lr,lr,ap (by omega),trivial⟩ ⟨rr,rr,rr,rr,rr,rr,rr,rr,rr,rr,rr,trivial⟩⟩
   · have hN:=hB i hin (by rw[←hsO,←e1];exact e);rw[←hsO]at hN;rw[hS _ _ e]at cX;conv=>whnf
     repeat' (first|((first|(refine cd cX [(1000009,1000009),(1000001,22),(1000002,14),(1000003,15),(1000004,16),(1000005,50),(1000006,17),(1000007,18),(1000008,19),(1000010,20),(1000011,51),(50,60)] ?_;rintro y rout ⟨rfl,rfl⟩;refine⟨rfl,?_⟩)|(refine aa ?_ ?_<;>intro hb<;>try simp only[az]at hb)|refine aq hT 5 fJ ?_|refine aq hT 10 eT ?_|omega|refine aA ?_|decide|assumption)<;>conv=>whnf))
     all_goals try(exfalso;omega)
     all_goals try(exfalso;exact e (by rw[e1];assumption))
     refine⟨(i+1,{s with ref:=s.ref++ [⟨i,fE s (l.getD (i:Int).toNat cW)⟩]}),⟨by show i+1≤_;omega,by show _=O (i+1);rw[hN,e1]⟩,by show l.length - (i+1)<l.length - i;omega,af [(50,60),(51,76),(1000009,1000009),(22,22),(14,14),(15,15),(16,16),(17,17),(18,18),(19,19),(20,20)] rfl rfl ⟨lr,lr,lr,ap (by omega),trivial⟩ ⟨rr,rr,rr,rr,rr,rr,rr,rr,rr,rr,?_,trivial⟩⟩;exact aG (x:=(⟨i,fE s (l.getD (i:Int).toNat cW)⟩:B7)) rfl
 · have hil:i=l.length:=by omega
   have c113:=Ft s.log (by have:=kI.log;omega) kI.apt;conv=>whnf
   repeat' (first|((first|(refine cd c113 [(1000001,50)] ?_;rintro y rout ⟨rfl,rfl⟩;refine⟨rfl,?_⟩)|(refine aa ?_ ?_<;>intro hb<;>try simp only[az]at hb)|refine aq hT 5 fJ ?_|refine aq hT 10 eT ?_|omega|refine aA ?_|decide|assumption)<;>conv=>whnf))
   all_goals try(exfalso;omega)
   refine .ret _ ?_;conv=>whnf
   rw[←hil,←hsO];exact⟨_,⟨rfl,rfl⟩,rr,rr,rr,rr,rr,rr,rr,rr,rr,rr,rr,trivial⟩
end Go.Proofs.YtkokpbpililcdaaGreatDoor
namespace Go.Eng
open Go Go.Proofs Go.Sort Go.RowKit
def sY (l:List (List UInt8)):List (List UInt8):=l.mergeSort fun x y=>decide (x≤y)
theorem fz (l:List (List UInt8)):(sY l).Perm l:=List.mergeSort_perm _ _
theorem wE (l:List (List UInt8)):(sY l).length=l.length:=(fz l).length_eq
theorem kL (l:List (List UInt8)):(sY l).Pairwise fun x y=>x≤y:=by
 have:=List.pairwise_mergeSort (le:=fun x y:List UInt8=>decide (x≤y)) (fun a b c h1 h2=>by simp only[decide_eq_true_eq]at*;exact List.le_trans h1 h2) (fun a b=>by simp only[Bool.or_eq_true,decide_eq_true_eq];exact List.le_total a b) l;exact this.imp (fun h=>by simpa using h)
theorem Gz {l m:List (List UInt8)}(h:l.Perm m):sY l=sY m:=
 List.Perm.eq_of_pairwise (le:=fun x y:List UInt8=>x≤y) (fun x y _ _ h1 h2=>List.le_antisymm h1 h2) (kL l) (kL m) ((fz l).trans (h.trans (fz m).symm))
end Go.Eng
set_option maxRecDepth 20000
namespace Go.Proofs.YtkokpbpililcdaaGreatDoor
open Go Go.Eng
theorem DM {ks:List KK}{has:List DV→Bool}{clock:Nat}{kb:List (List DV×Nat)}(hk:KB ks has clock kb){p q:List DV×Nat}(hp:p ∈ kb)(hq:q ∈ kb):(p.2=q.2↔p.1=q.1):=by
 obtain⟨i,hi,rfl⟩:=List.getElem_of_mem hp;obtain⟨j,hj,rfl⟩:=List.getElem_of_mem hq
 have h1:∀i j (hi:i<kb.length) (hj:j<kb.length),i<j→kb[i].2<kb[j].2:=fun i j hi hj hij=>by
  have:=List.pairwise_iff_getElem.1 hk.ki i j (by simpa using hi) (by simpa using hj) hij;simpa using this
 have h2:∀i j (hi:i<kb.length) (hj:j<kb.length),i<j→kb[i].1≠kb[j].1:=fun i j hi hj hij e=>by
  have:=List.pairwise_iff_getElem.1 hk.kd i j (by simpa using hi) (by simpa using hj) hij;simp only[List.getElem_map]at this;rw[e]at this;rw[bH (hk.kw _ (List.getElem_mem hj))]at this;cases this
 rcases Nat.lt_trichotomy i j with q|q|q
 · exact⟨fun e=>absurd e (Nat.ne_of_lt (h1 i j hi hj q)),fun e=>absurd e (h2 i j hi hj q)⟩
 · subst q;exact⟨fun _=>rfl,fun _=>rfl⟩
 · exact⟨fun e=>absurd e.symm (Nat.ne_of_lt (h1 j i hj hi q)),fun e=>absurd e.symm (h2 j i hj hi q)⟩
open Classical in
noncomputable def dr (has:List UInt8→Bool):List (List UInt8):=
 if h:∃K:List (List UInt8),K.Nodup∧∀k,k ∈ K↔has k=true then sY (Classical.choose h)else []
theorem tV {has:List UInt8→Bool}{K:List (List UInt8)}(h1:K.Nodup)(h2:∀k,k ∈ K↔has k=true):sY K=dr has:=by
 have h:∃K:List (List UInt8),K.Nodup∧∀k,k ∈ K↔has k=true:=⟨K,h1,h2⟩;unfold dr;rw[dif_pos h];have hc:=Classical.choose_spec h;exact Gz ((List.perm_ext_iff_of_nodup h1 hc.1).2 fun k=>by rw[h2 k,hc.2 k])
theorem vN {has:List UInt8→Bool}{L:List (List UInt8)}(hL:∀k,has k=true→k ∈ L):(dr has).length≤L.length:=by
 unfold dr;split
 · rename_i h;have hc:=Classical.choose_spec h;rw[wE];exact pL _ _ hc.1 fun k hk=>hL k ((hc.2 k).1 hk)
 · simp
structure DY (h:eH)(l:List bv):Prop where
 hou:EX h
 ent:vG l
 len:l.length≤400
 wds:∀x ∈ l,x.words.length≤2^20
 hE:tI h=0
 lE:dZ l=0
set_option maxHeartbeats 4000000 in
theorem Re (h:eH)(l:List bv)(k:DY h l):
 ai Tryz.prog 33 [hou h,.d (jI l)] [(1000009,KX)] (fun y r=>y= .tup [.ptr 22 0,.d (.int .i64 0)]∧r=(1000009,KX)::Ms h (lp h.flt.veh) (pD h.flt.sta) (cq h l) (eI jY (cq h l).log)):=by
 have c1:=QJ h k.hou;have c2:=LN l k.ent;have c3:=Jd h k.hou.1.cls k.hou.1.veh.1 k.hou.1.sta.1 l k.len k.wds;rw[k.hE]at c1;rw[k.lE]at c2;generalize cq h l=Z at c3 ⊢;generalize eI jY Z.log=lg at c3 ⊢;generalize lp h.flt.veh=vm at c3 ⊢;generalize pD h.flt.sta=sm at c3 ⊢;refine ae hT (C:= []) Tryz.func33 rfl Tryz.call33 rfl rfl rfl ?_;conv=>whnf
 repeat' (first|(refine qJ c1 ?_;conv=>whnf)|(refine ac (c2) rfl rfl ?_;rotate_right;conv=>whnf)|((first|refine aw (gp [_,_] (by simp)) ⟨aj (by rfl) (by rfl),trivial⟩ rfl ?_|(refine cd c3 [(1000009,1000009),(22,22),(14,14),(15,15),(16,16),(50,50),(17,17),(18,18),(19,19),(20,20),(51,51)] ?_;rintro y rout ⟨rfl,rfl⟩;refine⟨rfl,?_⟩)|(refine aa ?_ ?_<;>intro hb<;>try simp only[az]at hb)|omega|refine aA ?_|decide|assumption)<;>conv=>whnf))
 all_goals try(exfalso;contradiction)
 refine .ret _ ?_;conv=>whnf
 exact⟨_,⟨rfl,rfl⟩,rr,rr,rr,rr,rr,rr,rr,rr,rr,rr,rr,trivial⟩
theorem nh {α:Type}{R:α→α→Prop}{l:List α}(d:α):l.Pairwise R↔∀i j,i<j→j<l.length→R (l.getD i d) (l.getD j d):=by
 rw[List.pairwise_iff_getElem];constructor
 · intro h i j hij hj;rw[List.getD_eq_getElem?_getD,List.getD_eq_getElem?_getD,List.getElem?_eq_getElem (by omega),List.getElem?_eq_getElem hj];exact h i j _ hj hij
 · intro h i j hi hj hij;have:=h i j hij hj;rw[List.getD_eq_getElem?_getD,List.getD_eq_getElem?_getD,List.getElem?_eq_getElem hi,List.getElem?_eq_getElem hj]at this;exact this
theorem AA:gl=xl (fun a b=>eO a.tm b.tm) (xl (fun a b=>dJ a.desk b.desk) (fun a b=>eO a.no b.no)):=by
 funext a b
 unfold gl xl;simp only[al];grind
theorem Bo:jj gl:=by
 rw[AA];exact(jj.int (fun a:bv=>a.tm)).seq ((jj.str (fun a:bv=>a.desk)).seq (jj.int (fun a:bv=>a.no)))
structure Kh (l:List bv):Prop where
 len:l.length≤1000
 frm:∀x ∈ l,lc x=0
 ord:l.Pairwise fun a b=>gl a b<0
 dup:l.Pairwise fun a b=>ur a b=false
theorem uV {l:List bv}{i:Nat}:qx l i=0↔lc (l.getD i cW)=0∧(0<i→gl (l.getD (i - 1) cW) (l.getD i cW)<0)∧zW (l.take i) (l.getD i cW)=false:=by
 unfold qx
 by_cases h1:lc (l.getD i cW)=0
 · rw[if_neg (fun c=>c h1)]
   by_cases h2:0<i∧0≤gl (l.getD (i - 1) cW) (l.getD i cW)
   · rw[if_pos h2];exact⟨fun h=>absurd h (by decide),fun h=>by have:=h.2.1 h2.1;omega⟩
   · rw[if_neg h2]
     cases h3:zW (l.take i) (l.getD i cW)with
     |true=>exact⟨fun h=>absurd h (by decide),fun h=>by cases h.2.2⟩
     |false=>exact⟨fun _=>⟨h1,fun q=>by omega,rfl⟩,fun _=>rfl⟩
 · rw[if_pos h1];exact⟨fun h=>absurd h h1,fun h=>absurd h.1 h1⟩
theorem yB {l:List bv}{x:bv}:zW l x=false↔∀y ∈ l,ur y x=false:=by
 show(l.any fun y=>y.desk==x.desk&&decide (y.no=x.no))=false↔_;rw[List.any_eq_false];refine⟨fun h y hy=> ?_,fun h y hy=> ?_⟩
 · have:=h y hy;unfold ur;simpa using this
 · have:=h y hy;unfold ur at this;rw[this];simp
theorem yL {l:List bv}:dZ l=0↔Kh l:=by
 constructor
 · intro h;unfold dZ at h
   by_cases hl:1000<l.length
   · rw[if_pos hl]at h;exact absurd h (by decide)
   rw[if_neg hl]at h;have hA:=fun i hi=>uV.1 (bG h i hi)
   refine⟨by omega,fun x hx=> ?_,(nh cW).2 fun i j=> ?_,(nh cW).2 fun i j hij hj=> ?_⟩
   · obtain⟨i,hi,rfl⟩:=a8 (d:=cW) hx;exact(hA i hi).1
   · induction j with
     |zero=>intro hij;omega
     | succ j ih=>
       intro hij hj;have h1:=(hA (j+1) hj).2.1 (by omega);rw[Nat.add_sub_cancel]at h1
       by_cases q:i=j
       · rw[q];exact h1
       · exact Bo.tr _ _ _ (ih (by omega) (by omega)) h1
   · have h1:=yB.1 (hA j hj).2.2;refine h1 _ ?_
     have:l.getD i cW=(l.take j).getD i cW:=by
      rw[List.getD_eq_getElem?_getD,List.getD_eq_getElem?_getD,List.getElem?_take_of_lt hij]
     rw[this];exact ao (by rw[List.length_take];omega)
 · intro h;unfold dZ;rw[if_neg (by have:=h.len;omega)];refine aF fun i hi=>uV.2 ⟨h.frm _ (ao hi),fun q=>(nh cW).1 h.ord (i - 1) i (by omega) hi,yB.2 fun y hy=> ?_⟩
   obtain⟨j,hj,rfl⟩:=a8 (d:=cW) hy;rw[List.length_take]at hj
   have:(l.take i).getD j cW=l.getD j cW:=by
    rw[List.getD_eq_getElem?_getD,List.getD_eq_getElem?_getD,List.getElem?_take_of_lt (by omega)]
   rw[this];exact(nh cW).1 h.dup j i (by omega) hi
section
variable (h:eH) (vm:Mp (List UInt8)) (sm:Mp Bool)
end
def Kk (v:List UInt8)(l:List cJ):List cJ:=l.filter fun x=>decide (x.veh=v)
def Of (l:List cJ):EW:=l.foldl lQ oM
def Ml:EW→List cJ→Prop
 |_,[]=>True
 |s,x::l=>gv s x=true∧Ml (lQ s x) l
theorem zI:∀ (l:List cJ) (s:EW) (x:cJ),Ml s (l++ [x])↔Ml s l∧gv (l.foldl lQ s) x=true
 | [],s,x=>⟨fun h=>⟨trivial,h.1⟩,fun h=>⟨h.2,trivial⟩⟩
 | y::l,s,x=>by
   show gv s y=true∧Ml (lQ s y) (l++ [x])↔(gv s y=true∧Ml (lQ s y) l)∧_;rw[zI l (lQ s y) x,and_assoc];rfl
structure Me (vm:Mp (List UInt8))(sm:Mp Bool)(x:cJ):Prop where
 tm:0≤x.tm∧x.tm≤5761439
 veh:vm.has x.veh=true
 st:sm.val x.st=true
 kind:1≤x.kind∧x.kind≤8
 to:x.to≠ []→x.kind=6
 lv:x.kind=6→sm.val x.to=true
 ne:x.to≠x.st
structure nr (vm:Mp (List UInt8))(sm:Mp Bool)(now:Int)(s:dw):Prop where
 inc:s.log.Pairwise fun a b=>a.tm≤b.tm
 low:∀x ∈ s.log,x.tm≤now
 rt:∀x ∈ s.log,Me vm sm x
 cur:∀v,s.sts.val v=Of (Kk v s.log)
 ok:∀v,Ml oM (Kk v s.log)
theorem z8 (v:List UInt8)(l:List cJ)(x:cJ):Kk v (l++ [x])=Kk v l++(if x.veh=v then [x]else []):=by
 unfold Kk;rw[List.filter_append];congr 1
 by_cases h:x.veh=v
 · rw[if_pos h,List.filter_cons_of_pos (by simpa using h)];rfl
 · rw[if_neg h,List.filter_cons_of_neg (by simpa using h)];rfl
theorem nr.say {vm:Mp (List UInt8)}{sm:Mp Bool}{now:Int}{s:dw}(h:nr vm sm now s){x:cJ}(hx:Me vm sm x)(ht:x.tm=now)(hok:gv (s.sts.val x.veh) x=true):nr vm sm now (gD s x) where
 inc:=by
  show(s.log++ [x]).Pairwise _;rw[List.pairwise_append];exact⟨h.inc,List.pairwise_singleton _ _,fun a ha b hb=>by rw[List.mem_singleton]at hb;rw[hb,ht];exact h.low a ha⟩
 low:=fun y hy=>by
  rcases List.mem_append.1 (show y ∈ s.log++ [x]from hy)with q|q
  · exact h.low y q
  · rw[List.mem_singleton]at q;rw[q,ht];exact Int.le_refl _
 rt:=fun y hy=>by
  rcases List.mem_append.1 (show y ∈ s.log++ [x]from hy)with q|q
  · exact h.rt y q
  · rw[List.mem_singleton]at q;rw[q];exact hx
 cur:=fun v=>by
  show(if v=x.veh then lQ (s.sts.val x.veh) x else s.sts.val v)=Of (Kk v (s.log++ [x]));rw[z8]
  by_cases q:v=x.veh
  · rw[if_pos q,if_pos q.symm,q];unfold Of;rw[List.foldl_append];show lQ (s.sts.val x.veh) x=lQ (Of (Kk x.veh s.log)) x;rw[h.cur x.veh]
  · rw[if_neg q,if_neg (fun e=>q e.symm),List.append_nil];exact h.cur v
 ok:=fun v=>by
  show Ml oM (Kk v (s.log++ [x]));rw[z8]
  by_cases q:x.veh=v
  · rw[if_pos q,zI];refine⟨h.ok v,?_⟩;have:=h.cur v;rw[q]at hok;rw[this]at hok;exact hok
  · rw[if_neg q,List.append_nil];exact h.ok v
theorem nr.later {vm:Mp (List UInt8)}{sm:Mp Bool}{now t:Int}{s:dw}(h:nr vm sm now s)(ht:now≤t):nr vm sm t s:=
 ⟨h.inc,fun x hx=>by have:=h.low x hx;omega,h.rt,h.cur,h.ok⟩
def jb (x:rS):Int:=if x.inn.tm= -1 then 5761440 else x.inn.tm
structure jV (vm:Mp (List UInt8))(now:Int)(s:dw):Prop where
 key:∀k g,s.his.val k=some g→g.key=k
 veh:∀k g,s.his.val k=some g→∀x ∈ g.legs,vm.has x.veh=true
 past:∀k g,s.his.val k=some g→∀x ∈ g.legs,x.out.tm≤now∧(x.inn.tm≠-1→x.inn.tm≤now)
 opn:∀k g,s.his.val k=some g→∀x ∈ g.legs,x.inn.tm= -1→(s.sts.val x.veh).k=2
 dis:∀k1 k2 g1 g2,k1≠k2→s.his.val k1=some g1→s.his.val k2=some g2→∀x ∈ g1.legs,∀y ∈ g2.legs,x.veh=y.veh→jb x≤y.out.tm∨jb y≤x.out.tm
theorem jV.later {vm:Mp (List UInt8)}{now t:Int}{s:dw}(h:jV vm now s)(ht:now≤t):jV vm t s:=
 ⟨h.key,h.veh,fun k g hk x hx=>⟨by have:=(h.past k g hk x hx).1;omega,fun q=>by have:=(h.past k g hk x hx).2 q;omega⟩,h.opn,h.dis⟩
theorem jV.same {vm:Mp (List UInt8)}{now:Int}{s s':dw}(h:jV vm now s)(hh:s'.his=s.his)(ho:∀v,(s.sts.val v).k=2→(s'.sts.val v).k=2):jV vm now s':=by
 refine⟨?_,?_,?_,?_,?_⟩<;>rw[hh]
 · exact h.key
 · exact h.veh
 · exact h.past
 · exact fun k g hk x hx q=>ho _ (h.opn k g hk x hx q)
 · exact h.dis
theorem jV.put {vm:Mp (List UInt8)}{now:Int}{s s':dw}(h:jV vm now s){key:List UInt8}{g':di}(hh:s'.his=s.his.put key (some g'))(hk:g'.key=key)(hv:∀x ∈ g'.legs,vm.has x.veh=true)
 (hp:∀x ∈ g'.legs,x.out.tm≤now∧(x.inn.tm≠-1→x.inn.tm≤now))(ho:∀x ∈ g'.legs,x.inn.tm= -1→(s'.sts.val x.veh).k=2)
 (hs:∀k g,k≠key→s.his.val k=some g→∀y ∈ g.legs,y.inn.tm= -1→(s'.sts.val y.veh).k=2)
 (hd:∀k g,k≠key→s.his.val k=some g→∀x ∈ g'.legs,∀y ∈ g.legs,x.veh=y.veh→jb x≤y.out.tm∨jb y≤x.out.tm):jV vm now s':=by
 have hval:∀k,s'.his.val k=if k=key then some g' else s.his.val k:=fun k=>by rw[hh];rfl
 have hc:∀k g,s'.his.val k=some g→(k=key∧g=g')∨(k≠key∧s.his.val k=some g):=fun k g hk=>by
  rw[hval]at hk
  by_cases q:k=key
  · rw[if_pos q]at hk;exact .inl ⟨q,(Option.some.inj hk).symm⟩
  · rw[if_neg q]at hk;exact .inr ⟨q,hk⟩
 refine⟨fun k g hk' => ?_,fun k g hk' => ?_,fun k g hk' => ?_,fun k g hk' => ?_,fun k1 k2 g1 g2 hne h1 h2=> ?_⟩
 · rcases hc k g hk' with⟨e1,e2⟩|⟨e1,e2⟩
   · rw[e1,e2];exact hk
   · exact h.key k g e2
 · rcases hc k g hk' with⟨e1,e2⟩|⟨e1,e2⟩
   · rw[e2];exact hv
   · exact h.veh k g e2
 · rcases hc k g hk' with⟨e1,e2⟩|⟨e1,e2⟩
   · rw[e2];exact hp
   · exact h.past k g e2
 · rcases hc k g hk' with⟨e1,e2⟩|⟨e1,e2⟩
   · rw[e2];exact ho
   · exact hs k g e1 e2
 · rcases hc k1 g1 h1 with⟨a1,a2⟩|⟨a1,a2⟩<;>rcases hc k2 g2 h2 with⟨b1,b2⟩|⟨b1,b2⟩
   · exact absurd (a1.trans b1.symm) hne
   · rw[a2];exact hd k2 g2 b1 b2
   · rw[b2];exact fun x hx y hy e=>(hd k1 g1 a1 a2 y hy x hx e.symm).symm
   · exact h.dis k1 k2 g1 g2 hne a2 b2
theorem D6 {w:List UInt8}(h:aT.has w=true):aT.val w=1∨aT.val w=4∨aT.val w=5∨aT.val w=6∨aT.val w=7∨aT.val w=8:=by
 simp only[aT,Mp.put,Mp.nil,Bool.or_eq_true,decide_eq_true_eq,Bool.false_eq_true,or_false]at h ⊢;grind
theorem Gv {s:EW}{x:cJ}(hk:x.kind=1∨x.kind=4∨x.kind=5∨x.kind=6∨x.kind=7∨x.kind=8)(h:gv s x=true):s.k≠2:=by
 unfold gv at h;intro e;rw[e]at h;rcases hk with q|q|q|q|q|q<;>simp[q]at h
theorem CM {s:EW}{x:cJ}(hk:x.kind=2)(h:gv s x=true):s.k=1∧(lQ s x).k=2:=by
 constructor
 · unfold gv at h;simp[hk]at h;exact h.1
 · unfold lQ;rw[if_pos h];simp[hk]
variable {vm:Mp (List UInt8)} {sm:Mp Bool} {now:Int} {s:dw}
theorem jp (s:dw)(x:cJ)(v:List UInt8):(gD s x).sts.val v=if v=x.veh then lQ (s.sts.val x.veh) x else s.sts.val v:=rfl
theorem jV.free (h:jV vm now s){v:List UInt8}(h1:(s.sts.val v).k=1){k:List UInt8}{g:di}(hk:s.his.val k=some g){y:rS}(hy:y ∈ g.legs)(e:y.veh=v):y.inn.tm≠-1:=fun q=>by
 have:=h.opn k g hk y hy q;rw[e,h1]at this;exact absurd this (by decide)
theorem jV.one (h:jV vm now s)(hn:now≤5761439){k1 k2:List UInt8}{g1 g2:di}(hne:k1≠k2)(h1:s.his.val k1=some g1)(h2:s.his.val k2=some g2){x y:rS}(hx:x ∈ g1.legs)(hy:y ∈ g2.legs)(e:x.veh=y.veh)(q1:x.inn.tm= -1):y.inn.tm≠-1∧jb y≤x.out.tm:=by
 have p1:=(h.past k1 g1 h1 x hx).1;have p2:=(h.past k2 g2 h2 y hy).1;have hd:=h.dis k1 k2 g1 g2 hne h1 h2 x hx y hy e;unfold jb at hd;rw[if_pos q1]at hd;unfold jb
 by_cases r:y.inn.tm= -1
 · rw[if_pos r]at hd;omega
 · rw[if_neg r]at hd ⊢;exact⟨r,by omega⟩
theorem Jm (hb:nr vm sm now s)(hc:jV vm now s)(hsm:sm.val []=false)(hn:0≤now∧now≤5761439){t:lU}(hk:aT.has t.word=true):nr vm sm now (lP vm sm s (gu now t))∧jV vm now (lP vm sm s (gu now t)):=by
 unfold lP;split
 · rename_i e;unfold nt at e;have e1:=bj e _ (List.mem_cons_self ..);have e2:=bj e _ (List.mem_cons_of_mem _ (List.mem_cons_self ..));have e3:=(eA (bj e (g8 s (gu now t)) (by simp))).2;have hkv:=D6 hk;have hK:(gu now t).kind=aT.val t.word:=rfl;have hT:(gu now t).to=if aT.val t.word=6 then t.texts.getD 2 []else []:=rfl
   have h1:(!vm.has (gu now t).veh||(!sm.val (gu now t).st||(decide ((gu now t).kind=6)&& !sm.val (gu now t).to)))=false:=by
    cases q:(!vm.has (gu now t).veh||(!sm.val (gu now t).st||(decide ((gu now t).kind=6)&& !sm.val (gu now t).to)))with
    |false=>rfl
    |true=>rw[q]at e1;exact absurd e1 (by decide)
   have h2:(decide ((gu now t).kind=6)&&decide ((gu now t).to=(gu now t).st))=false:=by
    cases q:(decide ((gu now t).kind=6)&&decide ((gu now t).to=(gu now t).st))with
    |false=>rfl
    |true=>rw[q]at e2;exact absurd e2 (by decide)
   simp only[Bool.or_eq_false_iff,Bool.not_eq_false']at h1;obtain⟨a1,a2,a3⟩:=h1
   have hr:Me vm sm (gu now t):=by
    refine⟨hn,a1,a2,by rw[hK];omega,fun q=> ?_,fun q=> ?_,fun q=> ?_⟩
    · by_cases r:aT.val t.word=6
      · rw[hK];exact r
      · rw[hT,if_neg r]at q;exact absurd rfl q
    · rw[q]at a3;simpa using a3
    · by_cases r:aT.val t.word=6
      · rw[hK,decide_eq_true r,Bool.true_and,decide_eq_false_iff_not]at h2;exact h2 q
      · rw[hT,if_neg r]at q;rw[←q,hsm]at a2;cases a2
   refine⟨hb.say hr rfl e3,hc.same rfl fun v hv=> ?_⟩;rw[jp]
   by_cases q:v=(gu now t).veh
   · rw[q]at hv;exact absurd hv (Gv (by rw[hK];exact hkv) e3)
   · rw[if_neg q];exact hv
 · exact⟨hb,hc⟩
theorem LI (hb:nr vm sm now s)(hc:jV vm now s)(hsm:sm.val []=false)(hn:0≤now∧now≤5761439)(t:lU):nr vm sm now (s8 vm sm s now t)∧jV vm now (s8 vm sm s now t):=by
 unfold s8;split
 · rename_i e;unfold Ay at e
   by_cases q:bN (kH now t)=0
   · rw[if_neg (fun c=>c q)]at e;have e2:=bj e _ (List.mem_cons_of_mem _ (List.mem_cons_self ..));have e3:=(eA (bj e (g8 s (mq now t)) (by simp))).2;obtain⟨o1,o2⟩:=CM (x:=mq now t) rfl e3
     have h1:(!vm.has (t.texts.getD 2 [])|| !sm.val (t.texts.getD 3 []))=false:=by
      cases q:(!vm.has (t.texts.getD 2 [])|| !sm.val (t.texts.getD 3 []))with
      |false=>rfl
      |true=>rw[q]at e2;exact absurd e2 (by decide)
     simp only[Bool.or_eq_false_iff,Bool.not_eq_false']at h1
     have hr:Me vm sm (mq now t):=⟨hn,h1.1,h1.2,⟨by show(1:Int)≤2;decide,by show(2:Int)≤8;decide⟩,fun q=>absurd rfl q,fun q=>absurd (show(2:Int)=6 from q) (by decide),fun q=>by
      have:t.texts.getD 3 []= []:=q.symm
      rw[this,hsm]at h1;cases h1.2⟩
     refine⟨?_,hc.put (key:=t.texts.getD 0 []) (g':=kH now t) rfl rfl (fun x hx=> ?_) (fun x hx=> ?_) (fun x hx _=> ?_) (fun k g hne hk y hy q' => ?_) (fun k g hne hk x hx y hy e' => ?_)⟩
     · have h3:=hb.say hr rfl e3;exact⟨h3.inc,h3.low,h3.rt,h3.cur,h3.ok⟩
     · have:x=⟨t.texts.getD 2 [],⟨now,t.texts.getD 3 [],t.nums.getD 1 0,t.nums.getD 2 0⟩,ET⟩:=List.mem_singleton.1 hx;rw[this];exact h1.1
     · have:x=⟨t.texts.getD 2 [],⟨now,t.texts.getD 3 [],t.nums.getD 1 0,t.nums.getD 2 0⟩,ET⟩:=List.mem_singleton.1 hx;rw[this];exact⟨Int.le_refl _,fun c=>absurd rfl c⟩
     · have:x=⟨t.texts.getD 2 [],⟨now,t.texts.getD 3 [],t.nums.getD 1 0,t.nums.getD 2 0⟩,ET⟩:=List.mem_singleton.1 hx;rw[this];show((gD s (mq now t)).sts.val (t.texts.getD 2 [])).k=2;rw[jp,if_pos (show t.texts.getD 2 []=(mq now t).veh from rfl)];exact o2
     · show((gD s (mq now t)).sts.val y.veh).k=2;rw[jp,if_neg (fun r=>hc.free o1 hk hy r q')];exact hc.opn k g hk y hy q'
     · have hxe:x=⟨t.texts.getD 2 [],⟨now,t.texts.getD 3 [],t.nums.getD 1 0,t.nums.getD 2 0⟩,ET⟩:=List.mem_singleton.1 hx;right;have h5:=hc.free o1 hk hy (by rw[←e',hxe];rfl);have h6:=(hc.past k g hk y hy).2 h5;unfold jb;rw[if_neg h5,hxe];exact h6
   · rw[if_pos q]at e;exact absurd e q
 · exact⟨hb,hc⟩
theorem yX {g:di}(h:bN g=0){x:rS}{i:Nat}(hi:i<g.legs.length)(hx:g.legs.getD i dY=x)(hl:i+1<g.legs.length):x.inn.tm≠-1:=fun q=>by
 have hA:=(lm h).2.2.2.2.2 i hi;unfold oV at hA;rw[hx]at hA;rw[if_pos q,if_pos (show(i:Int)<(g.legs.length:Int) - 1 by omega)]at hA;grind
theorem mJ {g:di}(h:bN g=0)(r:oN){x:rS}(hx:x ∈ eW g.legs r):(x ∈ g.legs∧x.inn.tm≠-1)∨∃y ∈ g.legs,x={y with inn:=r}∧y=g.legs.getD (g.legs.length - 1) dY:=by
 have hK:=lm h;obtain⟨i,hi,rfl⟩:=a8 (d:=dY) hx;rw[gO]at hi;unfold eW;rw[show((g.legs.length:Int) - 1).toNat=g.legs.length - 1 by omega,List.getD_eq_getElem?_getD,List.getElem?_set]
 by_cases q:g.legs.length - 1=i
 · right;rw[if_pos q,if_pos (by omega)];exact⟨g.legs.getD (g.legs.length - 1) dY,ao (by omega),rfl,rfl⟩
 · left;rw[if_neg q,←List.getD_eq_getElem?_getD];exact⟨ao hi,yX h hi rfl (by omega)⟩
theorem EK {g:di}(h:bN g=0)(ho:xc g=true):(g.legs.getD (g.legs.length - 1) dY) ∈ g.legs∧(g.legs.getD (g.legs.length - 1) dY).inn.tm= -1∧(g.legs.getD (g.legs.length - 1) dY).veh=gq g:=by
 have hK:=lm h;unfold xc at ho;rw[show((g.legs.length:Int) - 1).toNat=g.legs.length - 1 by omega]at ho;refine⟨ao (by omega),by simpa using ho,?_⟩;unfold gq;rw[show((g.legs.length:Int) - 1).toNat=g.legs.length - 1 by omega]
theorem KC (hi:∀k,s.his.has k=true→∃g,s.his.val k=some g∧bN g=0)(hb:nr vm sm now s)(hc:jV vm now s)(hsm:sm.val []=false)(hn:0≤now∧now≤5761439)(t:lU):nr vm sm now (jU vm sm s now t)∧jV vm now (jU vm sm s now t):=by
 unfold jU;split
 · rename_i e;unfold lM at e
   by_cases q:s.his.has (t.texts.getD 0 [])=true
   · rw [if_pos q]at e;obtain⟨g,hg,hE⟩:=hi _ q;have hgd:(s.his.val (t.texts.getD 0 [])).getD iq=g:=by rw[hg];rfl
     rw[hgd]at e ⊢;obtain⟨⟨_,ho,hN⟩,hkn,hcan⟩:=sB e;obtain⟨l1,l2,l3⟩:=EK hE ho
     have hkey:(bo g now t).key=t.texts.getD 0 []:=by
      have:=hc.key _ g hg;unfold bo;split
      · exact this
      · split
        · exact this
        · exact this
     have hold:vm.has (gq g)=true:=by rw[←l3];exact hc.veh _ g hg _ l1
     have hst2:(s.sts.val (gq g)).k=2:=by rw[←l3];exact hc.opn _ g hg _ l1 l2
     have hno:∀k g',k≠t.texts.getD 0 []→s.his.val k=some g'→∀y ∈ g'.legs,y.inn.tm= -1→y.veh≠gq g:=fun k g' hne hk y hy hq er=>
      (hc.one hn.2 (fun z=>hne z.symm) hg hk l1 hy (by rw[l3,er]) l2).1 hq
     have hclo:∀r:oN,r.tm=now→∀k g',k≠t.texts.getD 0 []→s.his.val k=some g'→∀x ∈ eW g.legs r,∀y ∈ g'.legs,x.veh=y.veh→jb x≤y.out.tm∨jb y≤x.out.tm:=fun r hr k g' hne hk x hx y hy er=>by
      rcases mJ hE r hx with⟨h1,h2⟩|⟨z,h1,h2,h3⟩
      · exact hc.dis _ _ _ _ (fun z=>hne z.symm) hg hk x h1 y hy er
      · right;rw[←h3]at l2;have:=(hc.one hn.2 (fun z=>hne z.symm) hg hk h1 hy (by rw[h2]at er;exact er) l2).2;rw[h2];exact this
     have hpst:∀r:oN,r.tm=now→∀x ∈ eW g.legs r,x.out.tm≤now∧(x.inn.tm≠-1→x.inn.tm≤now):=fun r hr x hx=>by
      rcases mJ hE r hx with⟨h1,h2⟩|⟨z,h1,h2,h3⟩
      · exact hc.past _ g hg x h1
      · rw[h2];exact⟨(hc.past _ g hg z h1).1,fun _=>by show r.tm≤now;omega⟩
     have hvh:∀r:oN,∀x ∈ eW g.legs r,vm.has x.veh=true:=fun r x hx=>by
      rcases mJ hE r hx with⟨h1,h2⟩|⟨z,h1,h2,h3⟩
      · exact hc.veh _ g hg x h1
      · rw[h2];exact hc.veh _ g hg z h1
     have hcl2:∀r:oN,r.tm=now→∀x ∈ eW g.legs r,x.inn.tm≠-1:=fun r hr x hx=>by
      rcases mJ hE r hx with⟨h1,h2⟩|⟨z,h1,h2,h3⟩
      · exact h2
      · rw[h2];show r.tm≠-1;omega
     by_cases w1:t.word= [101,120,116,101,110,100]
     · have hEv:c7 g now t= []:=by unfold c7;rw[if_pos w1]
       have hNx:bo g now t=Aa g (t.nums.getD 0 0):=by unfold bo;rw[if_pos w1]
       rw[hEv,hNx];rw[hNx]at hkey;refine⟨⟨hb.inc,hb.low,hb.rt,hb.cur,hb.ok⟩,hc.put (key:=t.texts.getD 0 []) (g':=Aa g (t.nums.getD 0 0)) rfl hkey (hc.veh _ g hg) (hc.past _ g hg) (hc.opn _ g hg) (fun k g' hne hk=>hc.opn k g' hk) (fun k g' hne hk x hx y hy er=>hc.dis _ _ g g' (fun z=>hne z.symm) hg hk x hx y hy er)⟩
     by_cases w2:t.word= [99,108,111,115,101]
     · have hEv:c7 g now t= [⟨now,gq g,t.texts.getD 1 [],3,[]⟩]:=by unfold c7;rw[if_neg w1,if_pos w2]
       have hNx:bo g now t=Ad g (fW now t):=by unfold bo;rw[if_neg w1,if_pos w2]
       have hKn:sm.val (t.texts.getD 1 [])=true:=by unfold e8 at hkn;rw[if_neg w1,if_pos w2]at hkn;exact hkn
       rw[hEv]at hcan ⊢;rw[hNx]at hkey ⊢;have c1:=(eA (hcan 0 (by simp))).2
       have hr:Me vm sm ⟨now,gq g,t.texts.getD 1 [],3,[]⟩:=⟨hn,hold,hKn,⟨by show(1:Int)≤3;decide,by show(3:Int)≤8;decide⟩,fun z=>absurd rfl z,fun z=>absurd (show(3:Int)=6 from z) (by decide),fun z=>by
        have:t.texts.getD 1 []= []:=z.symm
        rw[this,hsm]at hKn;cases hKn⟩
       have h3:=hb.say hr rfl c1;refine⟨⟨h3.inc,h3.low,h3.rt,h3.cur,h3.ok⟩,hc.put (key:=t.texts.getD 0 []) (g':=Ad g (fW now t)) rfl hkey (hvh _) (hpst _ rfl) (fun x hx z=>absurd z (hcl2 _ rfl x hx)) (fun k g' hne hk y hy z=> ?_) (hclo _ rfl)⟩;show((gD s ⟨now,gq g,t.texts.getD 1 [],3,[]⟩).sts.val y.veh).k=2;rw[jp,if_neg (hno k g' hne hk y hy z)];exact hc.opn k g' hk y hy z
     · have hEv:c7 g now t= [⟨now,gq g,t.texts.getD 1 [],3,[]⟩,⟨now,t.texts.getD 2 [],t.texts.getD 1 [],2,[]⟩]:=by unfold c7;rw[if_neg w1,if_neg w2]
       have hNx:bo g now t=vM g (fW now t) (t.texts.getD 2 []) (ik now t):=by unfold bo;rw[if_neg w1,if_neg w2]
       have hKn:sm.val (t.texts.getD 1 [])=true∧vm.has (t.texts.getD 2 [])=true:=by
        unfold e8 at hkn;rw[if_neg w1,if_neg w2,Bool.and_eq_true]at hkn;exact hkn
       rw[hEv]at hcan ⊢;rw[hNx]at hkey hN ⊢;have hne2:=F6 (lm hE).2.1 hN;have c1:=(eA (hcan 0 (by simp))).2;have c2:gv (s.sts.val (t.texts.getD 2 [])) ⟨now,t.texts.getD 2 [],t.texts.getD 1 [],2,[]⟩=true:=(eA (hcan 1 (by simp))).2;have hst:t.texts.getD 1 []≠ []:=fun z=>by rw[z,hsm]at hKn;cases hKn.1
       have hr1:Me vm sm ⟨now,gq g,t.texts.getD 1 [],3,[]⟩:=⟨hn,hold,hKn.1,⟨by show(1:Int)≤3;decide,by show(3:Int)≤8;decide⟩,fun z=>absurd rfl z,fun z=>absurd (show(3:Int)=6 from z) (by decide),fun z=>hst z.symm⟩;have hr2:Me vm sm ⟨now,t.texts.getD 2 [],t.texts.getD 1 [],2,[]⟩:=⟨hn,hKn.2,hKn.1,⟨by show(1:Int)≤2;decide,by show(2:Int)≤8;decide⟩,fun z=>absurd rfl z,fun z=>absurd (show(2:Int)=6 from z) (by decide),fun z=>hst z.symm⟩
       have c3:gv ((gD s ⟨now,gq g,t.texts.getD 1 [],3,[]⟩).sts.val (t.texts.getD 2 [])) ⟨now,t.texts.getD 2 [],t.texts.getD 1 [],2,[]⟩=true:=by
        rw[jp,if_neg hne2];exact c2
       obtain⟨o1,o2⟩:=CM (x:=⟨now,t.texts.getD 2 [],t.texts.getD 1 [],2,[]⟩) rfl c2;have h3:=(hb.say hr1 rfl c1).say hr2 rfl c3
       have hsts:∀v,((gD (gD s ⟨now,gq g,t.texts.getD 1 [],3,[]⟩) ⟨now,t.texts.getD 2 [],t.texts.getD 1 [],2,[]⟩).sts.val v)=if v=t.texts.getD 2 []then lQ (s.sts.val (t.texts.getD 2 [])) ⟨now,t.texts.getD 2 [],t.texts.getD 1 [],2,[]⟩else if v=gq g then lQ (s.sts.val (gq g)) ⟨now,gq g,t.texts.getD 1 [],3,[]⟩else s.sts.val v:=fun v=>by
        rw[jp,jp,jp,if_neg hne2]
       refine⟨⟨h3.inc,h3.low,h3.rt,h3.cur,h3.ok⟩,hc.put (key:=t.texts.getD 0 []) (g':=vM g (fW now t) (t.texts.getD 2 []) (ik now t)) rfl hkey (fun x hx=> ?_) (fun x hx=> ?_) (fun x hx z=> ?_) (fun k g' hne hk y hy z=> ?_) (fun k g' hne hk x hx y hy er=> ?_)⟩
       · rcases List.mem_append.1 (show x ∈ eW g.legs (fW now t)++ [⟨t.texts.getD 2 [],ik now t,ET⟩]from hx)with r|r
         · exact hvh _ x r
         · rw[List.mem_singleton]at r;rw[r];exact hKn.2
       · rcases List.mem_append.1 (show x ∈ eW g.legs (fW now t)++ [⟨t.texts.getD 2 [],ik now t,ET⟩]from hx)with r|r
         · exact hpst _ rfl x r
         · rw[List.mem_singleton]at r;rw[r];exact⟨Int.le_refl _,fun c=>absurd rfl c⟩
       · rcases List.mem_append.1 (show x ∈ eW g.legs (fW now t)++ [⟨t.texts.getD 2 [],ik now t,ET⟩]from hx)with r|r
         · exact absurd z (hcl2 _ rfl x r)
         · rw[List.mem_singleton]at r;rw[r];show((gD (gD s ⟨now,gq g,t.texts.getD 1 [],3,[]⟩) ⟨now,t.texts.getD 2 [],t.texts.getD 1 [],2,[]⟩).sts.val (t.texts.getD 2 [])).k=2;rw[hsts,if_pos rfl];exact o2
       · show((gD (gD s ⟨now,gq g,t.texts.getD 1 [],3,[]⟩) ⟨now,t.texts.getD 2 [],t.texts.getD 1 [],2,[]⟩).sts.val y.veh).k=2;rw[hsts,if_neg (fun r=>hc.free o1 hk hy r z),if_neg (hno k g' hne hk y hy z)];exact hc.opn k g' hk y hy z
       · rcases List.mem_append.1 (show x ∈ eW g.legs (fW now t)++ [⟨t.texts.getD 2 [],ik now t,ET⟩]from hx)with r|r
         · exact hclo _ rfl k g' hne hk x r y hy er
         · rw[List.mem_singleton]at r;right;have h5:=hc.free o1 hk hy (by rw[←er,r]);have h6:=(hc.past k g' hk y hy).2 h5;unfold jb;rw[if_neg h5,r];exact h6
   · rw[if_neg q]at e;exact absurd e (by decide)
 · exact⟨hb,hc⟩
theorem Jj (h:eH){m n:Nat}{t0:Int}(hI:fU m n s)(hb:nr vm sm t0 s)(hc:jV vm t0 s)(hsm:sm.val []=false){x:bv}(ht:t0≤x.tm)(hx:0≤x.tm∧x.tm≤5761439):nr vm sm x.tm (kN h vm sm s x)∧jV vm x.tm (kN h vm sm s x):=by
 have hb:=hb.later ht;have hc:=hc.later ht;unfold kN;split
 · exact⟨hb,hc⟩
 split
 · rename_i q;exact Jm hb hc hsm hx q
 split
 · unfold gi;split
   · exact⟨⟨hb.inc,hb.low,hb.rt,hb.cur,hb.ok⟩,⟨hc.key,hc.veh,hc.past,hc.opn,hc.dis⟩⟩
   · exact⟨hb,hc⟩
 split
 · split
   · exact⟨⟨hb.inc,hb.low,hb.rt,hb.cur,hb.ok⟩,⟨hc.key,hc.veh,hc.past,hc.opn,hc.dis⟩⟩
   · exact⟨hb,hc⟩
 split
 · exact LI hb hc hsm hx _
 split
 · unfold kU;split
   · exact⟨⟨hb.inc,hb.low,hb.rt,hb.cur,hb.ok⟩,⟨hc.key,hc.veh,hc.past,hc.opn,hc.dis⟩⟩
   · exact⟨hb,hc⟩
 exact KC hI.his hb hc hsm hx _
theorem De (h:eH)(hsm:sm.val []=false):∀ (l:List bv) {m n:Nat} {t0:Int} {s:dw},fU m n s→nr vm sm t0 s→jV vm t0 s→l.Pairwise (fun a b=>a.tm≤b.tm)→(∀x ∈ l,t0≤x.tm∧0≤x.tm∧x.tm≤5761439)→t0≤5761439→∃t1,t1≤5761439∧nr vm sm t1 (rJ h vm sm s l)∧jV vm t1 (rJ h vm sm s l)
 | [],m,n,t0,s,hI,hb,hc,_,_,h0=>⟨t0,h0,hb,hc⟩
 | x::l,m,n,t0,s,hI,hb,hc,hp,hx,h0=>by
   obtain⟨a1,a2⟩:=hx x (by simp);obtain⟨b1,b2⟩:=Jj h hI hb hc hsm a1 a2;rw[List.pairwise_cons]at hp;exact De h hsm l (F7 hI h vm sm x) b1 b2 hp.2 (fun y hy=>⟨hp.1 y hy,(hx y (by simp[hy])).2⟩) a2.2
theorem KF:nr vm sm 0 kC:=⟨List.Pairwise.nil,fun x hx=>(by cases hx),fun x hx=>(by cases hx),fun v=>rfl,fun v=>trivial⟩
theorem Lm:jV vm 0 kC:=⟨fun k g hk=>(by cases hk),fun k g hk=>(by cases hk),fun k g hk=>(by cases hk),fun k g hk=>(by cases hk),fun k1 k2 g1 g2 _ hk=>(by cases hk)⟩
theorem Ch (h:eH)(hsm:(pD h.flt.sta).val []=false){l:List bv}(hl:Kh l):∃t1,t1≤5761439∧nr (lp h.flt.veh) (pD h.flt.sta) t1 (cq h l)∧jV (lp h.flt.veh) t1 (cq h l):=by
 have hf:∀x ∈ l,0≤x.tm∧x.tm≤5761439:=fun x hx=>by
  have:=hl.frm x hx;unfold lc at this
  by_cases q:0≤x.tm∧x.tm≤5761439
  · exact q
  · rw[if_pos q]at this;exact absurd this (by decide)
 have hp:l.Pairwise fun a b=>a.tm≤b.tm:=hl.ord.imp fun{a b} q=>by
  unfold gl at q;simp only[al]at q
  by_cases z:eO a.tm b.tm=0
  · have:=iP.1 z;omega
  · rw[if_neg z]at q;have:=Ci.1 q;omega
 obtain⟨t1,h1,h2,h3⟩:=De (vm:=lp h.flt.veh) (sm:=pD h.flt.sta) h hsm l Hv KF Lm hp (fun x hx=>⟨(hf x hx).1,hf x hx⟩) (by decide)
 have e:cq h l={rJ h (lp h.flt.veh) (pD h.flt.sta) kC l with ref:=(cq h l).ref}:=by
  unfold cq mh;rw[List.take_length]
 rw[e];exact⟨t1,h1,⟨h2.inc,h2.low,h2.rt,h2.cur,h2.ok⟩,⟨h3.key,h3.veh,h3.past,h3.opn,h3.dis⟩⟩
def ke (m:Mp (Option di))(k:List UInt8):di:=(m.val k).getD iq
theorem vg {va:Bool}{key row row':List DV}{k:SV→SV→Prop}(h:row=row')(hk:yh false key fun x=>mC va row' (k x)):yh false key fun x=>mC va row (k x):=by rw[h];exact hk
theorem oE {has:List UInt8→Bool}{L:List (List UInt8)}(hL:∀k,has k=true→k ∈ L):(dr has).Nodup∧(dr has).Pairwise (fun a b=>a≤b)∧∀k,k ∈ dr has↔has k=true:=by
 have ex : ∀L:List (List UInt8),∃K:List (List UInt8),K.Nodup∧∀k,k ∈ K↔k ∈ L∧has k=true:=fun L=>by
  induction L with
  |nil=>exact⟨[],List.nodup_nil,fun k=>⟨fun h=>(by cases h),fun h=>(by cases h.1)⟩⟩
  | cons x L ih=>
    obtain⟨K,h1,h2⟩:=ih
    by_cases q:has x=true∧x ∉ K
    · refine⟨x::K,List.nodup_cons.2 ⟨q.2,h1⟩,fun k=> ?_⟩;rw[List.mem_cons,List.mem_cons,h2];constructor
      · rintro(e|e)
        · exact⟨.inl e,by rw[e];exact q.1⟩
        · exact⟨.inr e.1,e.2⟩
      · rintro⟨e|e,f⟩
        · exact .inl e
        · exact .inr ⟨e,f⟩
    · refine⟨K,h1,fun k=> ?_⟩;rw[h2,List.mem_cons];constructor
      · exact fun e=>⟨.inr e.1,e.2⟩
      · rintro⟨e|e,f⟩
        · rw[e]at f ⊢
          by_cases z:x ∈ K
          · exact⟨((h2 x).1 z).1,f⟩
          · exact absurd ⟨f,z⟩ q
        · exact⟨e,f⟩
 obtain⟨K,h1,h2⟩:=ex L
 have h3:∀k,k ∈ K↔has k=true:=fun k=>by
  rw[h2];exact⟨fun h=>h.2,fun h=>⟨hL k h,h⟩⟩
 rw[←tV h1 h3];exact⟨(fz K).nodup_iff.2 h1,kL K,fun k=>by rw[(fz K).mem_iff];exact h3 k⟩
theorem JE {l:List wR}{k:List UInt8}(h:(pD l).val k=true):∃s ∈ l,s.key=k:=by
 have key:∀ (l:List wR) (m:Mp Bool),(l.foldl (fun m s=>m.put s.key true) m).val k=true→m.val k=true∨∃s ∈ l,s.key=k:=by
  intro l
  induction l with
  |nil=>intro m h;exact .inl h
  | cons v l ih=>
    intro m h;rcases ih _ h with q|⟨w,q1,q2⟩
    · have q:(if k=v.key then true else m.val k)=true:=q
      by_cases e:k=v.key
      · exact .inr ⟨v,by simp,e.symm⟩
      · rw[if_neg e]at q;exact .inl q
    · exact .inr ⟨w,by simp[q1],q2⟩
 rcases key l _ h with q|q
 · cases q
 · exact q
theorem He {f:lR}(h:lN f=0):lJ f.sta=0:=by
 unfold lN at h
 by_cases q:nJ f=0
 · exact bj q _ (List.mem_cons_self ..)
 · rw[if_pos q]at h;exact absurd h q
theorem si {h:eH}(hE:tI h=0):lN h.flt=0:=bj hE _ (List.mem_cons_self ..)
theorem CN {h:eH}(hE:tI h=0):(pD h.flt.sta).val []=false:=by
 cases q:(pD h.flt.sta).val []with
 |false=>rfl
 | true=>
   obtain⟨s,h1,h2⟩:=JE q;obtain⟨j,hj,rfl⟩:=a8 (d:=o9) h1;have hS:=He (si hE);unfold lJ at hS
   by_cases c:50<h.flt.sta.length
   · rw[if_pos c]at hS;exact absurd hS (by decide)
   rw[if_neg c]at hS;have:=bG hS j hj;unfold Ap at this;rw[h2,if_pos (by decide)]at this;exact absurd this (by decide)
noncomputable def fi (h:eH)(l:List bv):List di:=(dr (cq h l).his.has).map (ke (cq h l).his)
theorem wl {h:eH}{l:List bv}(k:DY h l):ON (fi h l)∧JP (fi h l)=0∧(fi h l).length≤l.length∧(∀g ∈ fi h l,g.legs.length≤2^20):=by
 obtain⟨t1,h1,hb,hc⟩:=Ch h (CN k.hE) (yL.1 k.lE);have hI:fU (2*l.length) l.length (cq h l):=xD h _ _ l l.length (Nat.le_refl _);obtain⟨L,hL1,hL2⟩:=hI.fh;obtain⟨n1,n2,n3⟩:=oE hL2
 have hlen:(fi h l).length≤l.length:=by
  unfold fi;rw[List.length_map];have:=vN hL2;omega
 have hget:∀i,i<(fi h l).length→∃g,(fi h l).getD i iq=g∧(cq h l).his.val ((dr (cq h l).his.has).getD i [])=some g∧bN g=0:=fun i hi=>by
  have hi':i<(dr (cq h l).his.has).length:=by unfold fi at hi;rwa [List.length_map]at hi
  obtain⟨g,e1,e2⟩:=hI.his _ ((n3 _).1 (ao (x:= []) hi'));refine⟨g,?_,e1,e2⟩;unfold fi;rw[List.getD_eq_getElem?_getD,List.getElem?_map,List.getElem?_eq_getElem hi'];show ke (cq h l).his (dr (cq h l).his.has)[i]=g;rw[List.getD_eq_getElem?_getD,List.getElem?_eq_getElem hi']at e1;unfold ke;rw[show(cq h l).his.val (dr (cq h l).his.has)[i]=some g from e1];rfl
 have hE:∀g ∈ fi h l,bN g=0:=fun g hg=>by
  obtain⟨i,hi,rfl⟩:=a8 (d:=iq) hg;obtain⟨g',e1,_,e3⟩:=hget i hi;rw[e1];exact e3
 refine⟨⟨by have:=k.len;omega,fun g hg=>(lm (hE g hg)).1.k⟩,?_,hlen,fun g hg=>by have:=(lm (hE g hg)).2.2.1;omega⟩
 · unfold JP;rw[if_neg (by have:=k.len;omega)];refine aF fun i hi=> ?_
   unfold Gk;obtain⟨g,e1,e2,e3⟩:=hget i hi;rw[e1,e3,if_neg (fun c=>c rfl)]
   by_cases q:0<i
   · obtain⟨g2,f1,f2,f3⟩:=hget (i - 1) (by omega);rw[f1,hc.key _ _ e2,hc.key _ _ f2];have hi':i<(dr (cq h l).his.has).length:=by unfold fi at hi;rwa [List.length_map]at hi
     have a1:((dr (cq h l).his.has).getD (i - 1) [])≤((dr (cq h l).his.has).getD i []):=(nh []).1 n2 (i - 1) i (by omega) hi';have a2:((dr (cq h l).his.has).getD (i - 1) [])≠((dr (cq h l).his.has).getD i []):=(nh []).1 n1 (i - 1) i (by omega) hi'
     have a3:dI ((dr (cq h l).his.has).getD i []) ((dr (cq h l).his.has).getD (i - 1) [])=false:=by
      unfold dI;rw[Go.Proofs.bytesLess_eq,decide_eq_false (fun c=>(List.not_lt.2 a1) c),Bool.false_or];exact beq_eq_false_iff_ne.2 fun e=>a2 e.symm
     rw[a3,if_neg (fun c=>by cases c.2)]
   · rw[if_neg (fun c=>q c.1)]
abbrev xT (h:eH)(vm:Mp (List UInt8))(R P:aY):List (Nat×aY):=
 [(1000001,.cells 120 (Be h++ [.mp 1000002,.any,.any,.any,.any,.any,.mp 1000008,.mp 1000010,.any])),(1000002,eY false [.str []] pT vm),(1000008,R),(1000010,P)]
abbrev Pl (m:Mp (Option di)):aY:=eY true (eK none) eK m
abbrev x6 (m:Mp Int):aY:=eY false [.int .i64 0] ED m
def DC (g:di):Bool:=decide ((nR g).inn.tm= -1)
theorem H7 (g:di):decide ((g.legs.getD ((g.legs.length:Int) - 1).toNat dY).inn.tm= -1)=DC g:=by
 have e:((g.legs.length:Int) - 1).toNat=g.legs.length - 1:=by omega
 rw[e];rfl
theorem Rc (g:di)(h1:1≤g.legs.length)(hl:g.legs.length≤2^40):ai Tryz.prog 91 [.agg ((ji g).map .d)] [] (fun y r=>y= .d (.bool (DC g))∧r= []):=by
 rw[←H7];refine ae hT (C:= []) Tryz.func91 rfl Tryz.call91 rfl rfl rfl ?_;conv=>whnf
 repeat' (first|((first|(refine aa ?_ ?_<;>intro hb<;>try simp only[az]at hb)|omega|refine aA ?_|decide|assumption)<;>conv=>whnf))
 refine .ret _ ?_;conv=>whnf
 refine⟨[],⟨?_,rfl⟩,trivial⟩;conv=>lhs;whnf
def JG (d:uk)(g:di)(q:List ip×Int):List ip:=if(ta d g (if q.2=0 then q.1 else [])).2=0 then(ta d g (if q.2=0 then q.1 else [])).1 else []
def GC (h:eH)(vm:Mp (List UInt8))(g:di):List ip:=JG h.dea g (wv h.tar (vm.val (g.legs.getD 0 dY).veh) g.frm g.to (g.legs.getD 0 dY).out.st (nR g).inn.st)
def mH:OL:= [(0,[]),(1,[]),(2,[]),(3,[]),(4,rg 4),(5,rg 4),(6,rg 6),(7,rg 6),(8,rg 6),(9,rg 6),(10,rg 4),(11,rg 4),(12,rg 12),(13,rg 13),(14,[4,5,6,7,8,9,10,11]),(15,[])]
def mK:OL:= [(0,[]),(1,[]),(2,[]),(3,[]),(4,[]),(5,rg 5),(6,rg 5),(7,rg 5),(8,rg 5),(9,rg 9),(10,rg 9),(11,rg 5),(12,rg 12),(13,rg 12),(14,rg 14),(15,rg 14),(16,rg 14),(17,rg 17),(18,rg 17),(19,rg 17),(20,rg 5),(21,[]),(22,[]),(23,[]),(24,[23]),(25,[24]),(26,[])]
def m9:OL:= [(0,[]),(1,[]),(2,[]),(3,[]),(4,[]),(5,rg 5),(6,rg 6),(7,[]),(8,[]),(9,[]),(10,[9]),(11,[10]),(12,[])]
theorem Ee {l:List lH}{L:List ip}(hk:∀x ∈ l,x.key.length≤40):∀k,k≤l.length→∀x ∈ fX l L k,x.key.length≤40:=by
 intro k
 induction k with
 |zero=>intro _ x hx;simp[fX]at hx
 | succ k ih=>
   intro h x hx;rw[fX]at hx;rcases List.mem_append.1 hx with q|q
   · exact ih (by omega) x q
   · rw[List.mem_singleton]at q;subst q;exact hk _ (ao (x:=cg) (show k<l.length by omega))
theorem Ia {t:rG}(hE:f8 t.tax=0):∀x ∈ t.tax,x.key.length≤40:=by
 unfold f8 at hE;split at hE
 · cases hE
 · intro x hx;obtain⟨j,hj,rfl⟩:=a8 (d:=cg) hx;have:=bG hE j hj;unfold mi at this
   dsimp only at this
   refine yb ?_
   cases q:aE (t.tax.getD j cg).key with
   |true=>rfl
   |false=>rw[q]at this;simp at this
theorem E4 (k:Int):(HQ k).length≤40:=by
 unfold HQ;repeat' split
 all_goals decide
theorem B4 {t:rG}{c:List UInt8}{a b:Int}{A B:List UInt8}(h:Fj t c a b A B):(wv t c a b A B).1.length≤131∧∀x ∈ (wv t c a b A B).1,x.key.length≤40:=by
 have hE:=(oC h.tE).2.2.2.2;have h10:=xK hE;unfold wv
 by_cases q:((ES (ff t.rat c a b)).getD 0 eL).fine=true
 · rw [if_neg (by rw[q];simp)];split
   · simp
   split
   · simp
   · obtain⟨p1,p2⟩:=Cu h q
     have hq:(p9 t (xq t c a b) A B).length≤121∧∀x ∈ p9 t (xq t c a b) A B,x.key.length≤40:=by
      unfold p9;refine⟨?_,fun x hx=> ?_⟩
      · rw[List.length_append,List.length_map];split<;>simp<;>omega
      · rcases List.mem_append.1 hx with z|z
        · obtain⟨y,hy,rfl⟩:=List.mem_map.1 z;exact E4 _
        · split at z
          · cases z
          · rw[List.mem_singleton]at z;subst z;show([111,110,101,119,97,121]:List UInt8).length≤40;decide
     refine⟨by show List.length (_++_)≤131;rw[List.length_append,l9];omega,fun x hx=> ?_⟩;rcases List.mem_append.1 hx with z|z
     · exact hq.2 x z
     · exact Ee (Ia hE) _ (Nat.le_refl _) x z
 · rw[if_pos (by simpa using q)];simp
structure Je (h:eH)(vm:Mp (List UInt8))(g:di):Prop where
 dR:IF h.dea
 dE:rN h.dea=0
 gK:JY g
 gE:bN g=0
 cl:(nR g).inn.tm≠-1
 ask:Fj h.tar (vm.val (g.legs.getD 0 dY).veh) g.frm g.to (g.legs.getD 0 dY).out.st (nR g).inn.st
set_option maxHeartbeats 8000000 in
theorem Ro (h:eH)(vm:Mp (List UInt8))(R P:aY)(g:di)(hp:Je h vm g):
 ai Tryz.prog 36 [.ptr 1000001 0,.agg ((ji g).map .d)] (xT h vm R P) (fun y r=>y= .d (kV (GC h vm g))∧r=xT h vm R P):=by
 have hP:=Dn hp.gE hp.cl;have n1:=hP.n1;have n2:=hP.n2;have c12:=Ra h.tar _ _ _ _ _ hp.ask;have hq:=B4 hp.ask;have hl:=Ag g;unfold GC JG;rw[←hl]at c12 hq ⊢;generalize wv h.tar (vm.val (g.legs.getD 0 dY).veh) g.frm g.to (g.legs.getD 0 dY).out.st (g.legs.getD ((g.legs.length:Int) - 1).toNat dY).inn.st=v at c12 hq ⊢;obtain⟨L,e⟩:=v
 by_cases q:e=0
 · subst q;rw[show oB (L,0)= .tup [.d (kV L),.d (.int .i64 0)]from rfl]at c12;rw[show(if(L,(0:Int)).2=0 then(L,(0:Int)).1 else [])=L from rfl];have c15:=QL h.dea hp.dR hp.dE g hp.gK hp.gE hp.cl L ⟨by have:L.length≤131:=hq.1;omega,fun x hx=>Nat.le_trans (hq.2 x hx) (by decide)⟩;generalize ta h.dea g L=w at c15 ⊢;obtain⟨M,f⟩:=w
   by_cases r:f=0
   · subst r;rw[show oB (M,0)= .tup [.d (kV M),.d (.int .i64 0)]from rfl]at c15;rw[show(if(M,(0:Int)).2=0 then(M,(0:Int)).1 else [])=M from rfl];refine ae hT (C:= []) Tryz.func36 rfl Tryz.call36 rfl rfl rfl ?_;conv=>whnf
     repeat' (first|(refine ac (c12) rfl rfl ?_;rotate_right;conv=>whnf)|(refine ac (c15) rfl rfl ?_;rotate_right;conv=>whnf)|((first|(refine aa ?_ ?_<;>intro hb<;>try simp only[az]at hb)|refine aq hT 1 mH ?_|refine aq hT 2 mK ?_|refine aq hT 5 m9 ?_|omega|refine aA ?_|decide|assumption)<;>conv=>whnf))
     all_goals try(exfalso;contradiction)
     refine .ret _ ?_;conv=>whnf
     exact⟨xT h vm R P,⟨rfl,rfl⟩,rr,rr,rr,rr,trivial⟩
   · rw[show oB (M,f)= .tup [.d .nilsl,.d (.int .i64 f)]from if_pos r]at c15;rw[show(if(M,f).2=0 then(M,f).1 else [])= []from if_neg r];refine ae hT (C:= []) Tryz.func36 rfl Tryz.call36 rfl rfl rfl ?_;conv=>whnf
     repeat' (first|(refine ac (c12) rfl rfl ?_;rotate_right;conv=>whnf)|(refine ac (c15) rfl rfl ?_;rotate_right;conv=>whnf)|((first|(refine aa ?_ ?_<;>intro hb<;>try simp only[az]at hb)|refine aq hT 1 mH ?_|refine aq hT 2 mK ?_|refine aq hT 5 m9 ?_|omega|refine aA ?_|decide|assumption)<;>conv=>whnf))
     all_goals try(exfalso;contradiction)
     refine .weak _ ?_;conv=>whnf
     exact⟨.d (kV []),xT h vm R P,aO,⟨rfl,rfl⟩,rr,rr,rr,rr,trivial⟩
 · rw[show oB (L,e)= .tup [.d .nilsl,.d (.int .i64 e)]from if_pos q]at c12;rw[show(if(L,e).2=0 then(L,e).1 else [])= []from if_neg q];have c15:=QL h.dea hp.dR hp.dE g hp.gK hp.gE hp.cl [] ⟨by simp,by simp⟩;generalize ta h.dea g []=w at c15 ⊢;obtain⟨M,f⟩:=w
   by_cases r:f=0
   · subst r;rw[show oB (M,0)= .tup [.d (kV M),.d (.int .i64 0)]from rfl]at c15;rw[show(if(M,(0:Int)).2=0 then(M,(0:Int)).1 else [])=M from rfl];refine ae hT (C:= []) Tryz.func36 rfl Tryz.call36 rfl rfl rfl ?_;conv=>whnf
     repeat' (first|(refine ac (c12) rfl rfl ?_;rotate_right;conv=>whnf)|((first|refine aw c15 ⟨lr,lr,aO,trivial⟩ rfl ?_|(refine aa ?_ ?_<;>intro hb<;>try simp only[az]at hb)|refine aq hT 1 mH ?_|refine aq hT 2 mK ?_|refine aq hT 5 m9 ?_|omega|refine aA ?_|decide|assumption)<;>conv=>whnf))
     all_goals try(exfalso;contradiction)
     refine .ret _ ?_;conv=>whnf
     exact⟨xT h vm R P,⟨rfl,rfl⟩,rr,rr,rr,rr,trivial⟩
   · rw[show oB (M,f)= .tup [.d .nilsl,.d (.int .i64 f)]from if_pos r]at c15;rw[show(if(M,f).2=0 then(M,f).1 else [])= []from if_neg r];refine ae hT (C:= []) Tryz.func36 rfl Tryz.call36 rfl rfl rfl ?_;conv=>whnf
     repeat' (first|(refine ac (c12) rfl rfl ?_;rotate_right;conv=>whnf)|((first|refine aw c15 ⟨lr,lr,aO,trivial⟩ rfl ?_|(refine aa ?_ ?_<;>intro hb<;>try simp only[az]at hb)|refine aq hT 1 mH ?_|refine aq hT 2 mK ?_|refine aq hT 5 m9 ?_|omega|refine aA ?_|decide|assumption)<;>conv=>whnf))
     all_goals try(exfalso;contradiction)
     refine .weak _ ?_;conv=>whnf
     exact⟨.d (kV []),xT h vm R P,aO,⟨rfl,rfl⟩,rr,rr,rr,rr,trivial⟩
structure pS where
 acc:List UInt8
 amt:Int
deriving DecidableEq
def jJ:pS:=⟨[],0⟩
def jk (p:pS):List DV:= [.str p.acc,.int .i64 p.amt]
def pz:List UInt8:= [100,117,101]
def nC:List UInt8:= [99,97,115,104]
def Mv:List (List UInt8):= [[],[114,101,110,116],[99,111,100,101],[101,120,116,114,97],[102,101,101],[116,97,120],[111,116,104,101,114]]
abbrev JO:=List UInt8×Int
def mn (l:List Int):Int:=l.foldr (· + ·) 0
theorem GQ (a b:List Int):mn (a++b)=mn a+mn b:=by
 unfold mn
 induction a with
 |nil=>simp
 |cons x a ih=>simp only[List.cons_append,List.foldr_cons,ih];omega
theorem Dv {a b:List Int}(h:a.Perm b):mn a=mn b:=by
 unfold mn
 induction h with
 |nil=>rfl
 |cons x _ ih=>simp only[List.foldr_cons,ih]
 |swap x y l=>simp only[List.foldr_cons];omega
 |trans _ _ h1 h2=>rw[h1,h2]
theorem Ie {l:List Int}{c:Int}(hc:0≤c)(h:∀x ∈ l,-c≤x∧x≤c): -(c*l.length)≤mn l∧mn l≤c*l.length:=by
 induction l with
 |nil=>simp[mn]
 | cons x l ih=>
   have h1:=ih fun y hy=>h y (List.mem_cons_of_mem _ hy)
   have h2:=h x (by simp);have e:c*((x::l).length:Int)=c*l.length+c:=by rw[List.length_cons,Int.natCast_add,Int.mul_add];simp
   have e2:mn (x::l)=x+mn l:=rfl;rw[e,e2];omega
def ib (o:List JO):Mp Int:=⟨fun s=>o.any fun p=>decide (p.1=s),fun s=>mn ((o.filter fun p=>decide (p.1=s)).map (·.2))⟩
def DP (m:Mp Int)(k:List UInt8)(c:Int):Mp Int:=m.put k (m.val k+c)
theorem pe (o:List JO)(k:List UInt8)(c:Int):ib (o++ [(k,c)])=DP (ib o) k c:=by
 unfold ib DP Mp.put;simp only[Mp.mk.injEq];refine⟨funext fun s=> ?_,funext fun s=> ?_⟩
 · rw[List.any_append,Bool.or_comm]
   by_cases h:s=k
   · subst h;simp
   · have h':¬k=s:=fun e=>h e.symm
     simp[h,h']
 · rw[List.filter_append,List.map_append,GQ]
   by_cases h:s=k
   · subst h;simp[mn]
   · have h':¬k=s:=fun e=>h e.symm
     simp[h,h',mn]
theorem D4 {a b:List JO}(h:a.Perm b):ib a=ib b:=by
 unfold ib;simp only[Mp.mk.injEq];refine⟨funext fun s=> ?_,funext fun s=>Dv ((h.filter _).map _)⟩;rw[Bool.eq_iff_iff,List.any_eq_true,List.any_eq_true];exact⟨fun⟨x,h1,h2⟩=>⟨x,h.mem_iff.1 h1,h2⟩,fun⟨x,h1,h2⟩=>⟨x,h.mem_iff.2 h1,h2⟩⟩
theorem Jn {o:List JO}{c:Int}(hc:0≤c)(h:∀p ∈ o,-c≤p.2∧p.2≤c)(s:List UInt8): -(c*o.length)≤(ib o).val s∧(ib o).val s≤c*o.length:=by
 have h1:=Ie (l:=(o.filter fun p=>decide (p.1=s)).map (·.2)) hc (fun x hx=>by
  obtain⟨p,hp,rfl⟩:=List.mem_map.1 hx
  exact h p (List.mem_filter.1 hp).1)
 have h2:((o.filter fun p=>decide (p.1=s)).map (·.2)).length≤o.length:=by rw[List.length_map];exact List.length_filter_le _ _
 have h3:=Int.mul_le_mul_of_nonneg_left (Int.ofNat_le.2 h2) hc;show -(c*o.length)≤mn _∧mn _≤c*o.length;omega
def Gf (x:ip):List JO:= [(pz,x.cents),(Mv.getD x.kind.toNat [],-x.cents)]
def x9 (h:eH)(vm:Mp (List UInt8))(pd:Mp Int)(k:List UInt8)(g:di):List JO:=
 [(nC,pd.val k),(pz,-pd.val k)]++if DC g=true then []else(GC h vm g).flatMap Gf
def iJ (h:eH)(vm:Mp (List UInt8))(his:Mp (Option di))(pd:Mp Int)(ks:List (List UInt8)):List JO:=ks.flatMap fun k=>x9 h vm pd k (ke his k)
def rm (m:Mp Int)(ks:List (List UInt8)):List pS:=(ks.filter fun k=> !decide (m.val k=0)).map fun k=>⟨k,m.val k⟩
def GI (a b:pS):Int:=dJ a.acc b.acc
theorem L9 {d:uk}{g:di}{L:List ip}(h:(ta d g L).2=0):eF (ta d g L).1=0:=by
 unfold ta at h ⊢
 by_cases h1:eF L=0
 · rw[if_neg (fun z=>z h1)]at h ⊢
   by_cases h2:eF (D0 d g L)=0
   · rw[if_neg (fun z=>z h2)];exact h2
   · rw[if_pos h2]at h;exact absurd h h2
 · rw[if_pos h1]at h;exact absurd h h1
theorem K8 (d:uk)(g:di)(q:List ip×Int):eF (JG d g q)=0:=by
 unfold JG;generalize (if q.2=0 then q.1 else [])=L
 by_cases r:(ta d g L).2=0
 · rw[if_pos r];exact L9 r
 · rw[if_neg r];rfl
theorem EF (h:eH)(vm:Mp (List UInt8))(m:Mp (Option di))(pd:Mp Int)(ks:List (List UInt8))(s:List UInt8):iJ h vm m pd (ks++ [s])=iJ h vm m pd ks++x9 h vm pd s (ke m s):=by
 unfold iJ;rw[List.flatMap_append];simp
theorem Gt (h:eH)(vm:Mp (List UInt8))(g:di):eF (GC h vm g)=0:=K8 _ _ _
theorem C7 (W:List ip):(W.flatMap Gf).length=2*W.length:=by
 induction W with
 |nil=>rfl
 |cons x W ih=>rw[List.flatMap_cons,List.length_append,ih,List.length_cons];simp[Gf];omega
theorem Hr {W:List ip}(h:eF W=0):∀p ∈ W.flatMap Gf,-1000000000≤p.2∧p.2≤1000000000:=fun p hp=>by
 obtain⟨x,hx,hp⟩:=List.mem_flatMap.1 hp;have:=((mV.1 h).2 x hx).2.2;simp only[Gf,List.mem_cons,List.not_mem_nil,or_false]at hp;rcases hp with rfl|rfl
 · exact this
 · show -1000000000≤-x.cents∧-x.cents≤1000000000;omega
theorem It {h:eH}{vm:Mp (List UInt8)}{pd:Mp Int}{s:List UInt8}{g:di}(hp:∀k,0≤pd.val k∧pd.val k≤10^9):(x9 h vm pd s g).length≤2002∧∀p ∈ x9 h vm pd s g,-1000000000≤p.2∧p.2≤1000000000:=by
 have hq:=hp s;have e:=Gt h vm g;have hl:=(mV.1 e).1;unfold x9;refine⟨?_,fun p hm=> ?_⟩
 · rw[List.length_append];split
   · simp
   · rw[C7];simp only[List.length_cons,List.length_nil];omega
 · rcases List.mem_append.1 hm with q|q
   · simp only[List.mem_cons,List.not_mem_nil,or_false]at q;rcases q with rfl|rfl
     · show -1000000000≤pd.val s∧pd.val s≤1000000000;omega
     · show -1000000000≤-pd.val s∧-pd.val s≤1000000000;omega
   · split at q
     · cases q
     · exact Hr e p q
theorem ng {h:eH}{vm:Mp (List UInt8)}{m:Mp (Option di)}{pd:Mp Int}(hp:∀k,0≤pd.val k∧pd.val k≤10^9)(ks:List (List UInt8)):(iJ h vm m pd ks).length≤2002*ks.length∧∀p ∈ iJ h vm m pd ks,-1000000000≤p.2∧p.2≤1000000000:=by
 induction ks with
 |nil=>exact⟨by simp[iJ],fun p hp=>by simp[iJ]at hp⟩
 | cons k ks ih=>
   have h1:=It (h:=h) (vm:=vm) (s:=k) (g:=ke m k) hp;have e:iJ h vm m pd (k::ks)=x9 h vm pd k (ke m k)++iJ h vm m pd ks:=rfl;rw[e,List.length_append,List.length_cons];exact⟨by have:=h1.1;have:=ih.1;omega,fun p hm=>(List.mem_append.1 hm).elim (h1.2 p) (ih.2 p)⟩
theorem xg {o:List JO}(h:∀p ∈ o,-1000000000≤p.2∧p.2≤1000000000)(hl:o.length≤2000000)(s:List UInt8): -2^60≤(ib o).val s∧(ib o).val s≤2^60:=by
 have:=Jn (by decide) h s;omega
end Go.Proofs.YtkokpbpililcdaaGreatDoor
