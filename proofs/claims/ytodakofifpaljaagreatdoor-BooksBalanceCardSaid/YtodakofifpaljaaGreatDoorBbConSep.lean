/- BooksBalance is proved: for every input the law returns true, and its argument reads afterwards as it read before. Conditions: those of the given row alone. -/
import Derived.Test.YtodakofifpaljaaGreatDoorBbConSex
import Derived.Test.YtodakofifpaljaaGreatDoorBbEngTwo
import Derived.Sort.OwnSorted
import Derived.Shelf.Sort.Plain
import Derived.Shelf.Slices.In.SortNone
import Derived.Test.YtodakofifpaljaaGreatDoorBbConOne
import Derived.Test.YtodakofifpaljaaGreatDoorBbConQui
import Derived.Test.YtodakofifpaljaaGreatDoorBbConTri
import Derived.Test.YtodakofifpaljaaGreatDoorBbConQua
set_option linter.unusedVariables false
set_option linter.unusedSimpArgs false
set_option maxRecDepth 20000
namespace Go.Proofs.YtodakofifpaljaaGreatDoor
open Go Go.Eng
def ml:List (Nat×List Nat):= [(0,[]),(1,[0]),(2,[0,1]),(3,[0,1,2]),(4,[0,1]),(5,[0]),(6,[0]),(7,[0,1,2,3,4,5,6]),(8,[0,1,2,3,4,5,6,7]),(9,[0,1,2,3,4,5,6]),(10,[0,1,2,3,4,5,6]),(11,[]),(12,[]),(13,[])]
set_option maxHeartbeats 4000000 in
theorem HC (g:FuncId)(f:cO→cO→Int)(hf:jj f)(P X Y S c:List cO)(a m b:Nat)(ha:P.length=a)(hm:a+X.length=m)(hb0:m+Y.length=b)(hc:c=P++(X++(Y++S)))(hX2:2≤X.length)(hY2:2≤Y.length)(hX:mn f X)(hY:mn f Y)(hl:c.length≤2^20)
 (hcmp:∀p q,p ∈ X++Y→q ∈ X++Y→ai Tryz.prog g [.agg ((iB p).map .d),.agg ((iB q).map .d)] [] (fun y r=>y= .d (.int .i64 (f p q))∧r= []))
 (ih:∀ (P X' Y' S c:List cO) (a m b:Nat),P.length=a→a+X'.length=m→m+Y'.length=b→c=P++(X'++(Y'++S))→1≤X'.length→1≤Y'.length→X'.length+Y'.length<X.length+Y.length→mn f X'→mn f Y'→c.length≤2^20→(∀p ∈ X'++Y',p ∈ X++Y)→yP g f P X' Y' S c a m b):yP g f P X Y S c a m b:=by
 have hl0:=hl
 rw[hc]at hl0
 simp only[List.length_append]at hl0
 have hlc:c.length=P.length+(X.length+Y.length)+S.length:=by rw[hc];simp only[List.length_append];omega
 have gx:∀k,a≤k→k<m→c.getD k dt=X.getD (k - a) dt:=fun k h1 h2=>by
  rw[hc,jM (by omega) (by omega),ha]
 have gy:∀k,m≤k→k<b→c.getD k dt=Y.getD (k - m) dt:=fun k h1 h2=>by
  rw[hc,←List.append_assoc,jM (by simp only[List.length_append];omega) (by simp only[List.length_append];omega)]
  congr 1
  simp only[List.length_append];omega
 obtain⟨Md,hMd⟩:∃Md,Md=(a+b)/2:=⟨_,rfl⟩
 have hh0:=zf a b (by omega) (by omega)
 rw[←hMd]at hh0
 obtain⟨s0,r0,h01,h02⟩:∃s0 r0:Nat,(Md<m→s0=Md+m - b∧r0=Md)∧(m≤Md→s0=a∧r0=m):=by
  by_cases q:Md<m
  · exact⟨Md+m - b,Md,fun _=>⟨rfl,rfl⟩,fun h=>by omega⟩
  · exact⟨a,m,fun h=>by omega,fun _=>⟨rfl,rfl⟩⟩
 have h03:s0≤r0∧a≤s0∧r0≤m∧r0≤Md:=by
  rcases Nat.lt_or_ge Md m with q|q
  · have:=h01 q;omega
  · have:=h02 q;omega
 obtain⟨h03,h04,h05,h06⟩:=h03
 refine af hT (C:= []) Tryz.func207 rfl Tryz.call207 rfl rfl rfl ?_
 conv=>whnf
 repeat' (first|(refine⟨rfl,?_⟩;conv=>whnf)|(rw[hh0];conv=>whnf)|(refine aa ?_ ?_<;>intro hb<;>(try simp only[az]at hb)<;>conv=>whnf)|(refine a8 (id:=5) hT rfl [] oBStD207_5 (by decide+kernel) ?_;conv=>whnf)|(refine a8 (id:=11) hT rfl [] oBStD207_11 (by decide+kernel) ?_;conv=>whnf)|(refine a8 (id:=17) hT rfl [] oBStD207_17 (by decide+kernel) ?_;conv=>whnf)|(refine a8 (id:=23) hT rfl [] oBStD207_23 (by decide+kernel) ?_;conv=>whnf)|(refine a8 (id:=35) hT rfl [] ml (by decide+kernel) ?_;conv=>whnf)|omega|(refine And.intro ?_ ?_;((try dsimp only);first|omega|(refine N3 rfl ?_;omega)|(refine N5 rfl ?_;omega)|(unfold aF;omega)|exact rfl|(simp only[List.toList_toArray,List.length_cons,List.length_nil];omega)|(simp only[N9]at*;omega)|decide|(unfold aF;decide));conv=>whnf)|decide|assumption)
 all_goals try(exfalso;omega)
 all_goals
  refine ah hT (C:= []) (ι:=Nat×Nat) (fun(s,r)=>s0≤s∧s≤r∧r≤r0∧(s=s0∨f (X.getD (s - a - 1) dt) (Y.getD (Md - s) dt)≤0)∧(r=r0∨f (Y.getD (Md - r - 1) dt) (X.getD (r - a) dt)≤0))
   (fun(s,r)=>aN [(0,.buf 1000001),(1,.d (.int .i64 a)),(2,.d (.int .i64 m)),(3,.d (.int .i64 b)),(4,.fn g []),(18,.d (.int .i64 Md)),(19,.d (.int .i64 ((Md+m:Nat):Int))),(20,.d (.int .i64 s)),(21,.d (.int .i64 r)),(22,.d (.int .i64 ((Md+m - 1:Nat):Int)))] [(1000001,aM 198 5 iB dt c)])
   (fun(s,r)=>r - s) (s0,r0) ⟨Nat.le_refl _,h03,Nat.le_refl _,.inl rfl,.inl rfl⟩ (by(refine ae [(1000001,1000001)] rfl rfl ?_ ?_<;>repeat' (first|exact True.intro|exact lr|exact rr|exact am (by omega)|exact aI _|refine And.intro ?_ ?_));done) ?_
  rintro⟨s,r⟩ ⟨p1,p2,p3,p4,p5⟩
  try dsimp only at p1 p2 p3 p4 p5
  rcases Nat.lt_or_ge s r with q|q
  · obtain⟨C,hC⟩:∃C,C=(s+r)/2:=⟨_,rfl⟩
    have hh:=zf s r (by omega) p2
    rw[←hC]at hh
    have hCb:s≤C∧C<r:=by omega
    have gM:c.getD (C:Int).toNat dt=X.getD (C - a) dt:=by rw[Int.toNat_natCast];exact gx C (by omega) (by omega)
    have gN:c.getD (((Md+m - 1:Nat):Int) - (C:Int)).toNat dt=Y.getD (Md - C - 1) dt:=by
     rw[show(((Md+m - 1:Nat):Int) - (C:Int)).toNat=Md+m - 1 - C by omega,gy _ (by omega) (by rcases Nat.lt_or_ge Md m with t|t;(have:=h01 t;omega);(have:=h02 t;omega))]
     congr 1;omega
    have mM:X.getD (C - a) dt ∈ X++Y:=List.mem_append_left _ (aq (by omega))
    have mN:Y.getD (Md - C - 1) dt ∈ X++Y:=List.mem_append_right _ (aq (by rcases Nat.lt_or_ge Md m with t|t;(have:=h01 t;omega);(have:=h02 t;omega)))
    have hbd:Md+m - 1 - C<b:=by rcases Nat.lt_or_ge Md m with t|t;(have:=h01 t;omega);(have:=h02 t;omega)
    conv=>whnf
    repeat' (first|(refine⟨rfl,?_⟩;conv=>whnf)|(rw[hh];conv=>whnf)|(refine fz.of (hcmp (Y.getD (Md - C - 1) dt) (X.getD (C - a) dt) mN mM) [] rfl ⟨by rw[←gN];exact lr,by rw[←gM];exact lr,trivial⟩ trivial rfl rfl ?_;rintro y rout ⟨rfl,rfl⟩;refine⟨rfl,?_⟩;conv=>whnf)|(refine aa ?_ ?_<;>intro hb<;>(try simp only[az]at hb)<;>conv=>whnf)|(refine a8 (id:=5) hT rfl [] oBStD207_5 (by decide+kernel) ?_;conv=>whnf)|(refine a8 (id:=11) hT rfl [] oBStD207_11 (by decide+kernel) ?_;conv=>whnf)|(refine a8 (id:=17) hT rfl [] oBStD207_17 (by decide+kernel) ?_;conv=>whnf)|(refine a8 (id:=23) hT rfl [] oBStD207_23 (by decide+kernel) ?_;conv=>whnf)|(refine a8 (id:=35) hT rfl [] ml (by decide+kernel) ?_;conv=>whnf)|omega|(refine And.intro ?_ ?_;((try dsimp only);first|omega|(refine N3 rfl ?_;omega)|(refine N5 rfl ?_;omega)|(unfold aF;omega)|exact rfl|(simp only[List.toList_toArray,List.length_cons,List.length_nil];omega)|(simp only[N9]at*;omega)|decide|(unfold aF;decide));conv=>whnf)|decide|assumption)
    all_goals try(exfalso;omega)
    · exact⟨(C+1,r),⟨by show s0≤C+1;omega,by show C+1≤r;omega,p3,.inr (by show f (X.getD (C+1 - a - 1) _) (Y.getD (Md - (C+1)) _)≤0;rw[show C+1 - a - 1=C - a by omega,show Md - (C+1)=Md - C - 1 by omega,hf.sw];omega),p5⟩,by show r - (C+1)<r - s;omega,(by(refine ae [(1000001,1000001)] rfl rfl ?_ ?_<;>repeat' (first|exact True.intro|exact lr|exact rr|exact am (by omega)|exact aI _|refine And.intro ?_ ?_));done)⟩
    · exact⟨(s,C),⟨p1,by show s≤C;omega,by show C≤r0;omega,p4,.inr (by show f (Y.getD (Md - C - 1) _) (X.getD (C - a) _)≤0;omega)⟩,by show C - s<r - s;omega,(by(refine ae [(1000001,1000001)] rfl rfl ?_ ?_<;>repeat' (first|exact True.intro|exact lr|exact rr|exact am (by omega)|exact aI _|refine And.intro ?_ ?_));done)⟩
  · have hij:s=r:=by omega
    subst hij
    have hsY:Md - s≤Y.length:=by rcases Nat.lt_or_ge Md m with t|t;(have:=h01 t;omega);(have:=h02 t;omega)
    have cr1:=vu hf hX hY (d:=dt) (s:=s - a) (e:=Md - s) (by omega) (by
     rcases p4 with t|t
     · rcases Nat.lt_or_ge Md m with u|u
       · have:=h01 u;exact .inr (.inl (by omega))
       · have:=h02 u;exact .inl (by omega)
     · exact .inr (.inr t))
    have cr2:=vu hf hY hX (d:=dt) (s:=Md - s) (e:=s - a) hsY (by
     rcases p5 with t|t
     · rcases Nat.lt_or_ge Md m with u|u
       · have:=h01 u;exact .inl (by omega)
       · have:=h02 u;exact .inr (.inl (by omega))
     · exact .inr (.inr t))
    obtain⟨k1,k2,k3⟩:=ql X (s - a) (by omega)
    obtain⟨k4,k5,k6⟩:=ql Y (Md - s) hsY
    generalize List.take (s - a) X=X1 at k1 k2 cr1
    generalize List.drop (s - a) X=X2 at k1 k3 cr2
    generalize List.take (Md - s) Y=Y1 at k4 k5 cr2
    generalize List.drop (Md - s) Y=Y2 at k4 k6 cr1
    clear gx gy p4 p5
    have hX':=hX
    have hY':=hY
    rw[←k1]at hX'
    rw[←k4]at hY'
    have J:=fun{Z1 Z2:List cO} (p1:Z1.Perm (X1++Y1)) (s1:mn f Z1) (p2:Z2.Perm (X2++Y2)) (s2:mn f Z2)=>FH p1 s1 p2 s2 hX' hY' cr1 cr2
    rw[k1,k4]at J
    have uX:=List.pairwise_append.1 hX'
    have uY:=List.pairwise_append.1 hY'
    have sL:X1.length=0∨Y1.length=0→mn f (X1++Y1):=fun h=>by
     rcases h with h|h
     · rw[List.length_eq_zero_iff.1 h];exact uY.1
     · rw[List.length_eq_zero_iff.1 h,List.append_nil];exact uX.1
    have sR:X2.length=0∨Y2.length=0→mn f (X2++Y2):=fun h=>by
     rcases h with h|h
     · rw[List.length_eq_zero_iff.1 h];exact uY.2.1
     · rw[List.length_eq_zero_iff.1 h,List.append_nil];exact uX.2.1
    have eC:X2.length=0∨Y1.length=0→c=P++(X1++(Y1++(X2++(Y2++S)))):=fun h=>by
     rw[hc,←k1,←k4]
     rcases h with h|h<;>rw[List.length_eq_zero_iff.1 h]<;>simp
    have eR:c=(P++X1)++(X2++(Y1++(Y2++S))):=by rw[hc,←k1,←k4];simp
    have hlc2:P.length+X1.length+X2.length+Y1.length+Y2.length+S.length≤2^20:=by omega
    have mL:∀p ∈ X1++Y1,p ∈ X++Y:=fun p hp=>by
     rw[←k1,←k4];rcases List.mem_append.1 hp with t|t<;>simp[t]
    have mR:∀p ∈ X2++Y2,p ∈ X++Y:=fun p hp=>by
     rw[←k1,←k4];rcases List.mem_append.1 hp with t|t<;>simp[t]
    conv=>whnf
    repeat' (first|(refine fz.of (Lb g (P++X1) X2 Y1 (Y2++S) c s m (Md+m - s) (by rw[List.length_append];omega) (by omega) (by omega) eR (by omega) (by omega) hl) [(1000001,1000001)] rfl ⟨lr,lr,lr,am (by omega),lr,trivial⟩ ⟨rr,trivial⟩ rfl rfl ?_;rintro y rout ⟨rfl,rfl⟩;refine⟨rfl,?_⟩;conv=>whnf)|(refine fz.of (ih P X1 Y1 (X2++(Y2++S)) ((P++X1)++(Y1++(X2++(Y2++S)))) a s Md ha (by omega) (by omega) (by simp) (by omega) (by omega) (by omega) uX.1 uY.1 (by simp only[List.length_append];omega) mL) [(1000001,1000001)] rfl ⟨lr,lr,lr,lr,lr,trivial⟩ ⟨rr,trivial⟩ rfl rfl ?_;rintro y rout ⟨rfl,Z1,z1,z2,rfl⟩;refine⟨rfl,?_⟩;conv=>whnf)|(refine fz.of (ih P X1 Y1 (X2++(Y2++S)) c a s Md ha (by omega) (by omega) (eC (by omega)) (by omega) (by omega) (by omega) uX.1 uY.1 hl mL) [(1000001,1000001)] rfl ⟨lr,lr,lr,lr,lr,trivial⟩ ⟨rr,trivial⟩ rfl rfl ?_;rintro y rout ⟨rfl,Z1,z1,z2,rfl⟩;refine⟨rfl,?_⟩;conv=>whnf)|(refine fz.of (ih (P++Z1) X2 Y2 S (P++(Z1++(X2++(Y2++S)))) Md (Md+m - s) b (by rw[List.length_append,z1.length_eq,List.length_append];omega) (by omega) (by omega) (by simp) (by omega) (by omega) (by omega) uX.2.1 uY.2.1 (by have:=z1.length_eq;simp only[List.length_append]at this ⊢;omega) mR) [(1000001,1000001)] rfl ⟨lr,lr,am (by omega),lr,lr,trivial⟩ ⟨rr,trivial⟩ rfl rfl ?_;rintro y rout ⟨rfl,Z2,z3,z4,rfl⟩;refine⟨rfl,?_⟩;conv=>whnf)|(refine fz.of (ih (P++(X1++Y1)) X2 Y2 S ((P++X1)++(Y1++(X2++(Y2++S)))) Md (Md+m - s) b (by simp only[List.length_append];omega) (by omega) (by omega) (by simp) (by omega) (by omega) (by omega) uX.2.1 uY.2.1 (by simp only[List.length_append];omega) mR) [(1000001,1000001)] rfl ⟨lr,lr,am (by omega),lr,lr,trivial⟩ ⟨rr,trivial⟩ rfl rfl ?_;rintro y rout ⟨rfl,Z2,z3,z4,rfl⟩;refine⟨rfl,?_⟩;conv=>whnf)|(refine fz.of (ih (P++(X1++Y1)) X2 Y2 S c Md (Md+m - s) b (by simp only[List.length_append];omega) (by omega) (by omega) (by rw[eC (by omega)];simp) (by omega) (by omega) (by omega) uX.2.1 uY.2.1 hl mR) [(1000001,1000001)] rfl ⟨lr,lr,am (by omega),lr,lr,trivial⟩ ⟨rr,trivial⟩ rfl rfl ?_;rintro y rout ⟨rfl,Z2,z3,z4,rfl⟩;refine⟨rfl,?_⟩;conv=>whnf)|(refine aa ?_ ?_<;>intro hb<;>(try simp only[az]at hb)<;>conv=>whnf)|(refine a8 (id:=5) hT rfl [] oBStD207_5 (by decide+kernel) ?_;conv=>whnf)|(refine a8 (id:=11) hT rfl [] oBStD207_11 (by decide+kernel) ?_;conv=>whnf)|(refine a8 (id:=17) hT rfl [] oBStD207_17 (by decide+kernel) ?_;conv=>whnf)|(refine a8 (id:=23) hT rfl [] oBStD207_23 (by decide+kernel) ?_;conv=>whnf)|(refine a8 (id:=35) hT rfl [] ml (by decide+kernel) ?_;conv=>whnf)|omega|(refine And.intro ?_ ?_;((try dsimp only);first|omega|(refine N3 rfl ?_;omega)|(refine N5 rfl ?_;omega)|(unfold aF;omega)|exact rfl|(simp only[List.toList_toArray,List.length_cons,List.length_nil];omega)|(simp only[N9]at*;omega)|decide|(unfold aF;decide));conv=>whnf)|decide|assumption)
    all_goals try(exfalso;omega)
    all_goals
     refine .ret _ ?_
     conv=>whnf
     first
      |exact⟨_,⟨rfl,Z1++Z2,(J z1 z2 z3 z4).1,(J z1 z2 z3 z4).2,rfl⟩,by simp only[List.append_assoc];exact rr,trivial⟩
      |exact⟨_,⟨rfl,Z1++(X2++Y2),(J z1 z2 (List.Perm.refl _) (sR (by omega))).1,(J z1 z2 (List.Perm.refl _) (sR (by omega))).2,rfl⟩,by simp only[List.append_assoc];exact rr,trivial⟩
      |exact⟨_,⟨rfl,(X1++Y1)++Z2,(J (List.Perm.refl _) (sL (by omega)) z3 z4).1,(J (List.Perm.refl _) (sL (by omega)) z3 z4).2,rfl⟩,by simp only[List.append_assoc];exact rr,trivial⟩
      |exact⟨_,⟨rfl,(X1++Y1)++(X2++Y2),(J (List.Perm.refl _) (sL (by omega)) (List.Perm.refl _) (sR (by omega))).1,(J (List.Perm.refl _) (sL (by omega)) (List.Perm.refl _) (sR (by omega))).2,rfl⟩,by simp only[List.append_assoc];exact rr,trivial⟩
      |exact⟨_,⟨rfl,(X1++Y1)++(X2++Y2),(J (List.Perm.refl _) (sL (by omega)) (List.Perm.refl _) (sR (by omega))).1,(J (List.Perm.refl _) (sL (by omega)) (List.Perm.refl _) (sR (by omega))).2,rfl⟩,by rw[eC (by omega)];simp only[List.append_assoc];exact rr,trivial⟩
theorem z6 (g:FuncId)(f:cO→cO→Int)(hf:jj f):∀ (n:Nat) (P X Y S c:List cO) (a m b:Nat),X.length+Y.length≤n→P.length=a→a+X.length=m→m+Y.length=b→c=P++(X++(Y++S))→1≤X.length→1≤Y.length→mn f X→mn f Y→c.length≤2^20→
 (∀p q,p ∈ X++Y→q ∈ X++Y→ai Tryz.prog g [.agg ((iB p).map .d),.agg ((iB q).map .d)] [] (fun y r=>y= .d (.int .i64 (f p q))∧r= []))→yP g f P X Y S c a m b
 |0=>fun P X Y S c a m b h0 _ _ _ _ hX1 _ _ _ _ _=>by omega
 | n +1=>fun P X Y S c a m b h0 ha hm hb0 hc hX1 hY1 hX hY hl hcmp=>by
   by_cases q:X.length=1
   · obtain⟨x,rfl⟩:=List.length_eq_one_iff.1 q
     exact IH g f hf P Y S c x a m b ha hm hb0 hc hY hl hcmp
   by_cases r:Y.length=1
   · obtain⟨x,rfl⟩:=List.length_eq_one_iff.1 r
     exact H7 g f hf P X S c x a m b ha hm (by omega) hb0 hc hX hl hcmp
   exact HC g f hf P X Y S c a m b ha hm hb0 hc (by omega) (by omega) hX hY hl hcmp fun P X' Y' S c a m b k1 k2 k3 k4 k5 k6 k7 k8 k9 k10 k11=>
    z6 g f hf n P X' Y' S c a m b (by omega) k1 k2 k3 k4 k5 k6 k8 k9 k10 fun p q hp hq=>hcmp p q (k11 p hp) (k11 q hq)
def iY:OL:= [(0,[]),(1,[0]),(2,[]),(3,[]),(4,[]),(5,[4]),(6,[4,5]),(7,[4]),(8,[4]),(9,[4,5,6,7,8]),(10,[4,5,6,7,8,9]),(11,[4,5,6,7,8,9]),(12,[4,5,6,7,8]),(13,[4,5,6,7,8]),(14,[]),(15,[]),(16,[])]
def jc:OL:= [(0,[]),(1,[0]),(2,[0,1]),(3,[0,1,2]),(4,[0,1,2]),(5,rg 5),(6,rg 6),(7,rg 6),(8,rg 5),(9,rg 5),(10,rg 10),(11,rg 11),(12,rg 10),(13,rg 10),(14,[2,3,4]),(15,[2,3,4]),(16,[]),(17,[])]
def Ad:OL:= [(0,[]),(1,[]),(2,[0,1]),(3,[0,1]),(5,rg 4),(6,rg 4),(7,[0,1,2,3,5,6]),(8,[0,1,2,3,5,6]),(4,[5,6,7,8]),(9,[]),(10,[]),(11,[]),(12,[])]
theorem Dn (g:FuncId)(cmp:cO→cO→Int)(P l S c0:List cO)(a b0:Nat)(ha:P.length=a)(hbb:a+l.length=b0)(hc0:c0=P++(l++S))(hl:c0.length≤2^20)
 (hcmp:∀p q,p ∈ l→q ∈ l→ai Tryz.prog g [.agg ((iB p).map .d),.agg ((iB q).map .d)] [] (fun y r=>y= .d (.int .i64 (cmp p q))∧r= [])):
 ai Tryz.prog 206 [.buf 1000001,.d (.int .i64 a),.d (.int .i64 b0),.fn g []] [(1000001,aM 198 5 iB dt c0)]
  (fun y r=>y= .tup []∧r= [(1000001,aM 198 5 iB dt (P++(di cmp l++S)))]):=by
 have hl0:=hl;rw[hc0]at hl0;simp only[List.length_append]at hl0;refine af hT (C:= []) Tryz.func206 rfl Tryz.call206 rfl rfl rfl ?_;conv=>whnf
 repeat' (first|((first|(refine aa ?_ ?_<;>intro hb<;>try simp only[az]at hb)|refine aw hT 4 iY ?_|refine aw hT 6 jc ?_|omega|refine aA ?_|decide|assumption)<;>conv=>whnf))
 refine ah hT (C:= []) (ι:=Nat×Nat×List cO) (fun(k,i,c)=>k=a+i∧1≤i∧(i≤l.length∨i=1)∧c=P++((bF cmp (l.take i)).reverse++(l.drop i++S)))
  (fun(k,_,c)=>aN [(0,.buf 1000001),(1,.d (.int .i64 a)),(2,.d (.int .i64 b0)),(3,.fn g []),(8,.d (.int .i64 k))] [(1000001,aM 198 5 iB dt c)])
  (fun(_,i,_)=>l.length - i) (a+1,1,c0) ⟨rfl,by simp,by simp,by rw[hc0];cases l with|nil=>rfl|cons x l=>simp[bF,fC]⟩ (by exact bz [(1000001,1000001)]) ?_
 rintro⟨k,i,c⟩ ⟨p0,p1,p2,p3⟩;try dsimp only at p0 p1 p2 p3
 rcases Nat.lt_or_ge i l.length with hi|hi
 · have hx:l[i] ∈ l:=List.getElem_mem hi;have hmem:∀y ∈ bF cmp (l.take i),y ∈ l:=fun y hy=>List.mem_of_mem_take ((jg cmp _).1 hy)
   have hlr:(bF cmp (l.take i)).length=i:=by rw[fy,List.length_take];omega
   have hc:c=P++((bF cmp (l.take i)).reverse++(l[i]::([]++(l.drop (i+1)++S)))):=by rw[p3,List.drop_eq_getElem_cons hi];rfl
   have hlc:c.length=P.length+l.length+S.length:=by rw[hc];simp only[List.length_append,List.length_cons,List.length_reverse,List.length_drop,List.length_nil,hlr];omega
   conv=>whnf
   repeat' (first|((first|(refine aa ?_ ?_<;>intro hb<;>try simp only[az]at hb)|refine aw hT 4 iY ?_|refine aw hT 6 jc ?_|omega|refine aA ?_|decide|assumption)<;>conv=>whnf))
   all_goals try(exfalso;omega)
   refine ah hT (C:= []) (ι:=Nat×List cO×List cO×List cO) (fun(j,A,B,b)=>j=a+A.length∧fC cmp l[i] (bF cmp (l.take i))=B.reverse++fC cmp l[i] A∧A.length+B.length=i∧(∀y ∈ A,y ∈ l)∧b=P++(A.reverse++(l[i]::(B++(l.drop (i+1)++S)))))
    (fun(j,_,_,b)=>aN [(0,.buf 1000001),(1,.d (.int .i64 a)),(2,.d (.int .i64 b0)),(3,.fn g []),(8,.d (.int .i64 k)),(9,.d (.int .i64 j))] [(1000001,aM 198 5 iB dt b)])
    (fun(_,A,_,_)=>A.length) (k,bF cmp (l.take i),[],c) ⟨by omega,by simp,by simpa using hlr,hmem,hc⟩ (by exact bz [(1000001,1000001)]) ?_
   rintro⟨j,A,B,b⟩ ⟨q0,q1,q2,q3,hbd⟩;try dsimp only at q0 q1 q2 q3 hbd
   have hlen:b.length=P.length+l.length+S.length:=by rw[hbd];simp only[List.length_append,List.length_cons,List.length_reverse,List.length_drop];omega
   have hfin:A= []∨(∃y A',A=y::A'∧0≤cmp l[i] y)→b=P++((bF cmp (l.take (i+1))).reverse++(l.drop (i+1)++S)):=fun h=>by
    have e:bF cmp (l.take (i+1))=B.reverse++l[i]::A:=by
     rw[gQ hi,ij,q1];rcases h with rfl|⟨y,A',rfl,h⟩
     · rfl
     · rw[fC,if_neg (by omega)]
    rw[e,hbd];simp
   cases A with
   | nil=>
     simp only[List.length_nil]at q0 q2;conv=>whnf
     repeat' (first|((first|(refine aa ?_ ?_<;>intro hb<;>try simp only[az]at hb)|refine aw hT 4 iY ?_|refine aw hT 6 jc ?_|omega|refine aA ?_|decide|assumption)<;>conv=>whnf))
     all_goals try(exfalso;omega)
     exact⟨(k+1,i+1,b),⟨by show k+1=a+(i+1);omega,by show 1≤i+1;omega,.inl hi,hfin (.inl rfl)⟩,by show l.length - (i+1)<l.length - i;omega,(by exact bz [(1000001,1000001)])⟩
   | cons y A=>
     simp only[List.length_cons]at q0 q2;obtain⟨g1,g2,g3⟩:=w5 (P++A.reverse) [] (B++(l.drop (i+1)++S)) y l[i] dt;have hc':b=(P++A.reverse)++y::([]++l[i]::(B++(l.drop (i+1)++S))):=by rw[hbd];simp
     have i1:((j:Int) - 1).toNat=(P++A.reverse).length:=by simp only[List.length_append,List.length_reverse];omega
     have i2:(j:Int).toNat=(P++A.reverse).length+1+([]:List cO).length:=by simp only[List.length_append,List.length_nil,List.length_reverse];omega
     rw[←hc',←i1]at g1;rw[←hc',←i2]at g2;rw[←hc',←i2,←i1]at g3;conv=>whnf
     repeat' (first|((first|(refine fz.of (hcmp l[i] y hx (q3 y (by simp))) [] rfl ⟨by rw[←g2];exact lr,by rw[←g1];exact lr,trivial⟩ trivial rfl rfl ?_;rintro x rout ⟨rfl,rfl⟩;refine⟨rfl,?_⟩)|(refine aa ?_ ?_<;>intro hb<;>try simp only[az]at hb)|refine aw hT 4 iY ?_|refine aw hT 6 jc ?_|omega|refine aA ?_|decide|assumption)<;>conv=>whnf))
     all_goals try(exfalso;omega)
     · refine⟨(j - 1,A,y::B,(b.set (j:Int).toNat (b.getD ((j:Int) - 1).toNat dt)).set ((j:Int) - 1).toNat (b.getD (j:Int).toNat dt)),⟨by omega,by rw[q1];simp[fC,hb],by simp only[List.length_cons];omega,fun z hz=>q3 z (by simp[hz]),?_⟩,by show A.length<(y::A).length;simp,ae [(1000001,1000001)] rfl rfl ⟨lr,lr,lr,lr,lr,am (by omega),trivial⟩ ⟨fU (fun _=>rfl) (fun _=>rfl),trivial⟩⟩;rw[List.set_comm _ _ (by omega),g1,g2,g3];simp
     · exact⟨(k+1,i+1,b),⟨by show k+1=a+(i+1);omega,by show 1≤i+1;omega,.inl hi,hfin (.inr ⟨y,A,rfl,by omega⟩)⟩,by show l.length - (i+1)<l.length - i;omega,(by exact bz [(1000001,1000001)])⟩
 · conv=>whnf
   repeat' (first|((first|(refine aa ?_ ?_<;>intro hb<;>try simp only[az]at hb)|refine aw hT 4 iY ?_|refine aw hT 6 jc ?_|omega|refine aA ?_|decide|assumption)<;>conv=>whnf))
   all_goals try(exfalso;omega)
   refine .ret _ ?_;conv=>whnf
   have e1:c=P++(di cmp l++S):=by
    rw[p3,List.take_of_length_le (by omega),List.drop_eq_nil_iff.2 (by omega),List.nil_append];rfl
   subst e1;exact⟨_,⟨rfl,rfl⟩,rr,trivial⟩
set_option maxHeartbeats 4000000 in
theorem HD (g:FuncId)(f:cO→cO→Int)(hf:jj f)(l:List cO)(hl:l.length≤2^19)
 (hcmp:∀p q,p ∈ l→q ∈ l→ai Tryz.prog g [.agg ((iB p).map .d),.agg ((iB q).map .d)] [] (fun y r=>y= .d (.int .i64 (f p q))∧r= [])):
 ai Tryz.prog 153 [.buf 1000001,.d (.int .i64 l.length),.fn g []] [(1000001,aM 198 5 iB dt l)]
  (fun y r=>y= .tup []∧∃Z,Z.Perm l∧mn f Z∧r= [(1000001,aM 198 5 iB dt Z)]):=by
 obtain⟨n,hn⟩:∃n,n=l.length:=⟨_,rfl⟩;rw[←hn]at hl ⊢;refine af hT (C:= []) Tryz.func153 rfl Tryz.call153 rfl rfl rfl ?_;conv=>whnf
 repeat' (first|((first|(refine aa ?_ ?_<;>intro hb<;>try simp only[az]at hb)|omega|refine aA ?_|decide|assumption)<;>conv=>whnf))
 refine ah hT (C:= []) (ι:=Nat×List (List cO)×List cO×List cO) (fun(a,D,R,c)=>(∀x ∈ D,x.length=20∧mn f x)∧D.flatten.length=a∧c=D.flatten++R∧c.Perm l)
  (fun(a,_,_,c)=>aN [(0,.buf 1000001),(1,.d (.int .i64 n)),(2,.fn g []),(6,.d (.int .i64 20)),(7,.d (.int .i64 a)),(8,.d (.int .i64 ((a+20:Nat):Int)))] [(1000001,aM 198 5 iB dt c)])
  (fun(_,_,R,_)=>R.length) (0,[],l,l) ⟨by simp,rfl,rfl,List.Perm.refl _⟩ (by exact bz [(1000001,1000001)]) ?_
 rintro⟨a,D,R,c⟩ ⟨p1,p2,p3,p4⟩;try dsimp only at p1 p2 p3 p4
 have q1:a+R.length=n:=by rw[hn,←p4.length_eq,p3,List.length_append,p2]
 rcases Nat.lt_or_ge R.length 20 with q|q
 · have hcI:=Dn g f D.flatten R [] c a n p2 q1 (by rw[p3,List.append_nil]) (by rw[p4.length_eq];omega) (fun x y hx hy=>hcmp x y (p4.mem_iff.1 (by rw[p3];simp[hx])) (p4.mem_iff.1 (by rw[p3];simp[hy])));rw[List.append_nil]at hcI
   have p4':(D.flatten++di f R).Perm l:=by
    refine List.Perm.trans ?_ p4;rw[p3];exact List.Perm.append_left _ (dH f R)
   have hR:(di f R).length=R.length:=(dH f R).length_eq;have sR:=jS hf R;generalize di f R=T at hcI p4' hR sR;conv=>whnf
   repeat' (first|((first|(refine cj hcI [(1000001,1000001)] ?_;rintro y rout ⟨rfl,rfl⟩;refine⟨rfl,?_⟩)|(refine aa ?_ ?_<;>intro hb<;>try simp only[az]at hb)|omega|refine aA ?_|decide|assumption)<;>conv=>whnf))
   all_goals try(exfalso;omega)
   refine ah hT (C:= []) (ι:=Nat×List (List cO)×List cO×List cO) (fun(bs,D,t,c)=>20≤bs∧bs≤2*n+20∧(∀x ∈ D,x.length=bs∧mn f x)∧t.length<bs∧mn f t∧c=D.flatten++t∧c.Perm l)
    (fun(bs,_,_,c)=>aN [(0,.buf 1000001),(1,.d (.int .i64 n)),(2,.fn g []),(6,.d (.int .i64 bs))] [(1000001,aM 198 5 iB dt c)])
    (fun(bs,_,_,_)=>2*n - bs) (20,D,T,D.flatten++T) ⟨Nat.le_refl _,by show 20≤2*n+20;omega,p1,by show T.length<20;omega,sR,rfl,p4'⟩ (by exact bz [(1000001,1000001)]) ?_
   clear hcI p4' sR hR p1 p2 p3 p4 q1 q;rintro⟨bs,D,t,c⟩ ⟨p1,p2,p3,p4,p5,p6,p7⟩;try dsimp only at p1 p2 p3 p4 p5 p6 p7
   have q1:D.flatten.length+t.length=n:=by rw[hn,←p7.length_eq,p6,List.length_append]
   rcases Nat.lt_or_ge bs n with q|q
   · conv=>whnf
     repeat' (first|((first|(refine aa ?_ ?_<;>intro hb<;>try simp only[az]at hb)|omega|refine aA ?_|decide|assumption)<;>conv=>whnf))
     all_goals try(exfalso;omega)
     refine ah hT (C:= []) (ι:=Nat×List (List cO)×List (List cO)×List cO) (fun(a,E,D,c)=>(∀x ∈ E,x.length=2*bs∧mn f x)∧(∀x ∈ D,x.length=bs∧mn f x)∧E.flatten.length=a∧c=E.flatten++(D.flatten++t)∧c.Perm l)
      (fun(a,_,_,c)=>aN [(0,.buf 1000001),(1,.d (.int .i64 n)),(2,.fn g []),(6,.d (.int .i64 bs)),(7,.d (.int .i64 a)),(8,.d (.int .i64 ((a+2*bs:Nat):Int)))] [(1000001,aM 198 5 iB dt c)])
      (fun(_,_,D,_)=>D.length) (0,[],D,c) ⟨by simp,p3,rfl,p6,p7⟩ (by exact bz [(1000001,1000001)]) ?_
     clear p3 p6 p7 q1;rintro⟨a,E,D,c⟩ ⟨r1,r2,r3,r4,r5⟩;try dsimp only at r1 r2 r3 r4 r5
     have q1:a+D.flatten.length+t.length=n:=by rw[hn,←r5.length_eq,r4,List.length_append,List.length_append];omega
     have hlc:c.length≤2^20:=by rw[r5.length_eq];omega
     have hcm:∀p q,p ∈ c→q ∈ c→ai Tryz.prog g [.agg ((iB p).map .d),.agg ((iB q).map .d)] [] (fun y r=>y= .d (.int .i64 (f p q))∧r= []):=fun p q hp hq=>hcmp p q (r5.mem_iff.1 hp) (r5.mem_iff.1 hq)
     match D,r2,r4,q1 with
     | [],r2,r4,q1=>
       simp only[List.flatten_nil,List.length_nil,List.nil_append]at q1 r4;conv=>whnf
       repeat' (first|((first|(refine aa ?_ ?_<;>intro hb<;>try simp only[az]at hb)|omega|refine aA ?_|decide|assumption)<;>conv=>whnf))
       all_goals try(exfalso;omega)
       exact⟨(2*bs,E,t,c),⟨by show 20≤2*bs;omega,by show 2*bs≤2*n+20;omega,r1,by show t.length<2*bs;omega,p5,r4,r5⟩,by show 2*n - 2*bs<2*n - bs;omega,(by exact bz [(1000001,1000001)])⟩
     | [c1],r2,r4,q1=>
       simp only[List.flatten_cons,List.flatten_nil,List.append_nil]at q1 r4;have k1:=r2 c1 (by simp)
       by_cases ht:t.length=0
       · have et:t= []:=List.length_eq_zero_iff.1 ht;conv=>whnf
         repeat' (first|((first|(refine aa ?_ ?_<;>intro hb<;>try simp only[az]at hb)|omega|refine aA ?_|decide|assumption)<;>conv=>whnf))
         all_goals try(exfalso;omega)
         exact⟨(2*bs,E,c1,c),⟨by show 20≤2*bs;omega,by show 2*bs≤2*n+20;omega,r1,by show c1.length<2*bs;omega,k1.2,by show c=_;rw[r4,et,List.append_nil],r5⟩,by show 2*n - 2*bs<2*n - bs;omega,(by exact bz [(1000001,1000001)])⟩
       · have hcS:=z6 g f hf (c1.length+t.length) E.flatten c1 t [] c a (a+bs) n (Nat.le_refl _) r3 (by omega) (by omega) (by rw[r4];simp) (by omega) (by omega) k1.2 p5 hlc (fun p q hp hq=>hcm p q (by rw[r4];exact List.mem_append_right _ hp) (by rw[r4];exact List.mem_append_right _ hq));conv=>whnf
         repeat' (first|((first|(refine fz.of hcS [(1000001,1000001)] rfl ⟨lr,lr,am (by omega),lr,lr,trivial⟩ ⟨rr,trivial⟩ rfl rfl ?_;rintro y rout ⟨rfl,Z,z1,z2,rfl⟩;refine⟨rfl,?_⟩)|(refine aa ?_ ?_<;>intro hb<;>try simp only[az]at hb)|omega|refine aA ?_|decide|assumption)<;>conv=>whnf))
         all_goals try(exfalso;omega)
         have hz:=z1.length_eq;rw[List.length_append]at hz;rw[List.append_nil]at*
         exact⟨(2*bs,E,Z,E.flatten++Z),⟨by show 20≤2*bs;omega,by show 2*bs≤2*n+20;omega,r1,by show Z.length<2*bs;omega,z2,rfl,(List.Perm.append_left _ z1).trans (by rw[←r4];exact r5)⟩,by show 2*n - 2*bs<2*n - bs;omega,(by exact bz [(1000001,1000001)])⟩
     | c1::c2::D,r2,r4,q1=>
       simp only[List.flatten_cons,List.length_append]at q1;have k1:=r2 c1 (by simp);have k2:=r2 c2 (by simp);have r4':c=E.flatten++(c1++(c2++(D.flatten++t))):=by rw[r4];simp
       have hcS:=z6 g f hf (c1.length+c2.length) E.flatten c1 c2 (D.flatten++t) c a (a+bs) (a+2*bs) (Nat.le_refl _) r3 (by omega) (by omega) r4' (by omega) (by omega) k1.2 k2.2 hlc (fun p q hp hq=>hcm p q (by rw[r4'];rcases List.mem_append.1 hp with u|u<;>simp[u]) (by rw[r4'];rcases List.mem_append.1 hq with u|u<;>simp[u]));conv=>whnf
       repeat' (first|((first|(refine fz.of hcS [(1000001,1000001)] rfl ⟨lr,lr,am (by omega),lr,lr,trivial⟩ ⟨rr,trivial⟩ rfl rfl ?_;rintro y rout ⟨rfl,Z,z1,z2,rfl⟩;refine⟨rfl,?_⟩)|(refine aa ?_ ?_<;>intro hb<;>try simp only[az]at hb)|omega|refine aA ?_|decide|assumption)<;>conv=>whnf))
       all_goals try(exfalso;omega)
       have hz:=z1.length_eq;rw[List.length_append]at hz;refine⟨(a+2*bs,E++ [Z],D,E.flatten++(Z++(D.flatten++t))),⟨fun x hx=> ?_,fun x hx=>r2 x (by simp[hx]),by simp only[List.flatten_append,List.flatten_cons,List.flatten_nil,List.append_nil,List.length_append];omega,by simp,?_⟩,by show D.length<(c1::c2::D).length;simp;omega,(by exact bz [(1000001,1000001)])⟩
       · rcases List.mem_append.1 hx with u|u
         · exact r1 x u
         · rw[List.mem_singleton]at u;subst u;exact⟨by omega,z2⟩
       · refine List.Perm.trans ?_ r5;rw[r4',←List.append_assoc c1];exact List.Perm.append_left _ (z1.append_right _)
   · conv=>whnf
     repeat' (first|((first|(refine aa ?_ ?_<;>intro hb<;>try simp only[az]at hb)|omega|refine aA ?_|decide|assumption)<;>conv=>whnf))
     all_goals try(exfalso;omega)
     refine .ret _ ?_;conv=>whnf
     refine⟨_,⟨rfl,c,p7,?_,rfl⟩,rr,trivial⟩
     match D,p3,p6,q1 with
     | [],p3,p6,q1=>rw[p6];exact p5
     | c1::D,p3,p6,q1=>
       have k1:=p3 c1 (by simp);simp only[List.flatten_cons,List.length_append]at q1;have h1:D.flatten= []:=List.length_eq_zero_iff.1 (by omega);have h2:t= []:=List.length_eq_zero_iff.1 (by omega);rw[p6,List.flatten_cons,h1,h2,List.append_nil,List.append_nil];exact k1.2
 · have hT0:(R.take 20).length=20:=by rw[List.length_take];omega
   have hR:R.take 20++R.drop 20=R:=List.take_append_drop 20 R;have hD:(R.drop 20).length=R.length - 20:=List.length_drop ..;generalize R.take 20=R1 at hT0 hR;generalize R.drop 20=R2 at hR hD;subst hR;have hcI:=Dn g f D.flatten R1 R2 c a (a+20) p2 (by omega) p3 (by rw[p4.length_eq];omega) (fun x y hx hy=>hcmp x y (p4.mem_iff.1 (by rw[p3];simp[hx])) (p4.mem_iff.1 (by rw[p3];simp[hy])));conv=>whnf
   repeat' (first|((first|(refine cj hcI [(1000001,1000001)] ?_;rintro y rout ⟨rfl,rfl⟩;refine⟨rfl,?_⟩)|(refine aa ?_ ?_<;>intro hb<;>try simp only[az]at hb)|omega|refine aA ?_|decide|assumption)<;>conv=>whnf))
   all_goals try(exfalso;omega)
   refine⟨(a+20,D++ [di f R1],R2,D.flatten++(di f R1++R2)),⟨fun x hx=> ?_,by simp only[List.flatten_append,List.flatten_cons,List.flatten_nil,List.append_nil,List.length_append,(dH f R1).length_eq];omega,by simp,?_⟩,by show R2.length<(R1++R2).length;rw[List.length_append];omega,(by exact bz [(1000001,1000001)])⟩
   · rcases List.mem_append.1 hx with u|u
     · exact p1 x u
     · rw[List.mem_singleton]at u;subst u;exact⟨by rw[(dH f R1).length_eq];exact hT0,jS hf R1⟩
   · refine List.Perm.trans ?_ p4;rw[p3];exact List.Perm.append_left _ ((dH f R1).append_right _)
theorem KN (g:FuncId)(f:cO→cO→Int)(hf:jj f)(l:List cO)(hl:l.length≤2^19)(hz:∀a ∈ l,∀b ∈ l,f a b=0→a=b)
 (hcmp:∀p q,p ∈ l→q ∈ l→ai Tryz.prog g [.agg ((iB p).map .d),.agg ((iB q).map .d)] [] (fun y r=>y= .d (.int .i64 (f p q))∧r= [])):
 ai Tryz.prog 102 [.buf 1000001,.fn g []] [(1000001,aM 198 5 iB dt l)]
  (fun y r=>y= .tup []∧r= [(1000001,aM 198 5 iB dt (di f l))]):=by
 refine af hT (C:= []) Tryz.func102 rfl Tryz.call102 rfl rfl rfl ?_;conv=>whnf
 repeat' (first|((first|(refine cj (HD g f hf l hl hcmp) [(1000001,1000001)] ?_;rintro y rout ⟨rfl,Z,z1,z2,rfl⟩;refine⟨rfl,?_⟩)|(refine aa ?_ ?_<;>intro hb<;>try simp only[az]at hb)|omega|refine aA ?_|decide|assumption)<;>conv=>whnf))
 refine .ret _ ?_;conv=>whnf
 rw[xV hf hz z1 z2];exact⟨_,⟨rfl,rfl⟩,rr,trivial⟩
def iC (a b:cO):Int:=al [eU a.tm b.tm,dM a.veh b.veh]
theorem DB:iC=wj (fun a b=>eU a.tm b.tm) (fun a b=>dM a.veh b.veh):=by
 funext a b
 unfold iC wj;simp only[al];grind
theorem EE:jj iC:=by
 rw[DB];exact(jj.int (fun a:cO=>a.tm)).seq (jj.str (fun a:cO=>a.veh))
theorem B8 {a b:cO}(h:iC a b=0):a.tm=b.tm∧a.veh=b.veh:=by
 unfold iC at h;exact⟨iQ.1 (bi h _ (by simp)),jX.1 (bi h _ (by simp))⟩
theorem LG (a b:cO):ai Tryz.prog 103 [.agg ((iB a).map .d),.agg ((iB b).map .d)] [] (fun x r=>x= .d (.int .i64 (iC a b))∧r= []):=by
 refine af hT (C:= []) Tryz.func103 rfl Tryz.call103 rfl rfl rfl ?_;conv=>whnf
 repeat' (first|(refine ac (yE _ _) rfl rfl ?_;rotate_right;conv=>whnf)|(refine ac (FC _ _) rfl rfl ?_;rotate_right;conv=>whnf)|((first|refine ao (A5 [_,_] (by simp)) ⟨aj (by rfl) (by rfl),trivial⟩ rfl ?_|(refine aa ?_ ?_<;>intro hb<;>try simp only[az]at hb)|refine aw hT 1 Ad ?_|omega|refine aA ?_|decide|assumption)<;>conv=>whnf))
 refine .ret _ ?_;conv=>whnf
 refine⟨[],⟨?_,rfl⟩,trivial⟩;conv=>lhs;whnf
 rfl
theorem Fi {l:List cO}(h:l.Pairwise fun a b=>¬ (a.veh=b.veh∧a.tm=b.tm)):∀a ∈ l,∀b ∈ l,iC a b=0→a=b:=fun a ha b hb e=>by
 obtain⟨e1,e2⟩:=B8 e;obtain⟨i,hi,rfl⟩:=List.getElem_of_mem ha;obtain⟨j,hj,rfl⟩:=List.getElem_of_mem hb;rcases Nat.lt_trichotomy i j with q|q|q
 · exact absurd ⟨e2,e1⟩ (List.pairwise_iff_getElem.1 h i j hi hj q)
 · subst q;rfl
 · exact absurd ⟨e2.symm,e1.symm⟩ (List.pairwise_iff_getElem.1 h j i hj hi q)
theorem FA (l:List cO)(hl:l.length≤2^19)(h:l.Pairwise fun a b=>¬ (a.veh=b.veh∧a.tm=b.tm)):ai Tryz.prog 102 [.buf 1000001,.fn 103 []] [(1000001,Hi l)] (fun y r=>y= .tup []∧r= [(1000001,Hi (di iC l))]):=
 KN 103 iC EE l hl (Fi h) fun p q _ _=>LG p q
def fW:OL:= [(0,[]),(1,[]),(2,[]),(3,[]),(4,rg 4),(5,rg 4),(6,rg 6),(7,rg 6),(8,[])]
def eQ:OL:= [(0,[]),(1,[]),(2,[]),(3,[]),(4,rg 4),(5,rg 4),(6,[])]
abbrev J0 (h:ed)(vm:Mp (List UInt8))(sm:Mp Bool)(s:dA)(lg:List cO):List (Nat×aY):=
 [(22,.cells 101 (uN h++ [.mp 14,.mp 15,.mp 16,.buf 50,.mp 17,.mp 18,.mp 19,.mp 20,.buf 51])),(14,e8 false [.str []] pH vm),(15,e8 false [.bool false] Hj sm),(16,e8 true (kB oC) kB s.sts),(50,Hi lg),(17,Ft s.ats),(18,e8 true (lO lJ) lO s.bks),(19,e8 true (dO none) dO s.his),(20,e8 false [.int .i64 0] Er s.paid),(51,Jt s.ref)]
set_option maxHeartbeats 16000000 in
theorem Ik (h:ed)(hco:lT h.flt.cls)(hv:h.flt.veh.length≤2^20)(hs:h.flt.sta.length≤2^20)(l:List bx)(hl:l.length≤400)(hx:∀x ∈ l,x.words.length≤2^20):
 ai Tryz.prog 52 [.agg (uN h),.d (ga l)] [(1000009,KX)] (fun y r=>y= .ptr 22 0∧r=(1000009,KX)::J0 h (fx h.flt.veh) (nr h.flt.sta) (aZ h l) (di iC (aZ h l).log)):=by
 have cF:=fun s hs x hx=>IR h hco (fx h.flt.veh) (nr h.flt.sta) s hs x hx
 obtain⟨V,hV⟩:∃V,V=h.flt.veh:=⟨_,rfl⟩;obtain⟨W,hW⟩:∃W,W=h.flt.sta:=⟨_,rfl⟩;have hZ:=fun i=>ol h (fx V) (nr W) l i
 have hG:=fun i hi e=>D7 h (fx V) (nr W) (l:=l) (i:=i) hi e
 have hB:=fun i hi e=>F6 h (fx V) (nr W) (l:=l) (i:=i) hi e
 have hE:aZ h l=my h (fx V) (nr W) l l.length:=by rw[hV,hW];rfl
 rw[hE];obtain⟨kA1,nA1,gA1,kA3,nA3,gA3,kB0,nB0,gB0,kB1,nB1,gB1,kB2,nB2,gB2,kB3,nB3,gB3,kB4,nB4,gB4,C0,C1,C2,C3,C4,C5,C6,hH⟩:∃ (kA1 nA1:Nat) (gA1:Nat→List DV) (kA3 nA3:Nat) (gA3:Nat→List DV) (kB0 nB0:Nat) (gB0:Nat→List DV) (kB1 nB1:Nat) (gB1:Nat→List DV) (kB2 nB2:Nat) (gB2:Nat→List DV) (kB3 nB3:Nat) (gB3:Nat→List DV) (kB4 nB4:Nat) (gB4:Nat→List DV) (C0 C1 C2 C3 C4 C5 C6:Int),uN h= [.d (oa W),.d (.ro kA1 nA1 gA1),.d (rf V),.d (.ro kA3 nA3 gA3),.d (.ro kB0 nB0 gB0),.d (.ro kB1 nB1 gB1),.d (.ro kB2 nB2 gB2),.d (.ro kB3 nB3 gB3),.d (.ro kB4 nB4 gB4),.d (.int .i64 C0),.d (.int .i64 C1),.d (.int .i64 C2),.d (.int .i64 C3),.d (.int .i64 C4),.d (.int .i64 C5),.d (.int .i64 C6)]:=⟨_,_,_,_,_,_,_,_,_,_,_,_,_,_,_,_,_,_,_,_,_,_,_,_,_,_,_,_,by rw[hV,hW];rfl⟩;unfold J0;unfold iS Ku cR Jq at cF;rw[hH];rw[hH]at cF;rw[←hV]at hv;rw[←hW]at hs;rw[←hV,←hW]at cF ⊢;have hO0:my h (fx V) (nr W) l 0=jU:=rfl;have hR:=fun i=>GS h (fx V) (nr W) l i
 have hS:=fun s x (e:kJ h (fx V) (nr W) s x≠0)=>tD e
 generalize my h (fx V) (nr W) l=O at hZ hG hB hO0 hR ⊢;generalize kJ h (fx V) (nr W)=fE at cF hG hB hS;generalize lm h (fx V) (nr W)=fO at cF hG hS;refine af hT (C:= []) Tryz.func52 rfl Tryz.call52 rfl rfl rfl ?_;conv=>whnf
 repeat' (first|((first|(refine aa ?_ ?_<;>intro hb<;>try simp only[az]at hb)|refine aw hT 5 fW ?_|refine aw hT 10 eQ ?_|omega|refine aA ?_|decide|assumption)<;>conv=>whnf))
 refine ah hT (C:= []) (ι:=Nat) (fun i=>i≤V.length) (fun i=>aN [(1,.d (ga l)),(2,.ptr 2 0),(5,.ptr 22 0),(25,.d (rf V)),(26,.d (.int .i64 V.length)),(27,.d (.int .i64 i))] [(1000009,KX),(2,.cells 42 [.d (oa W),.d (.ro kA1 nA1 gA1),.d (rf V),.d (.ro kA3 nA3 gA3),.d (.ro kB0 nB0 gB0),.d (.ro kB1 nB1 gB1),.d (.ro kB2 nB2 gB2),.d (.ro kB3 nB3 gB3),.d (.ro kB4 nB4 gB4),.d (.int .i64 C0),.d (.int .i64 C1),.d (.int .i64 C2),.d (.int .i64 C3),.d (.int .i64 C4),.d (.int .i64 C5),.d (.int .i64 C6)]),(22,.cells 101 [.d (oa W),.d (.ro kA1 nA1 gA1),.d (rf V),.d (.ro kA3 nA3 gA3),.d (.ro kB0 nB0 gB0),.d (.ro kB1 nB1 gB1),.d (.ro kB2 nB2 gB2),.d (.ro kB3 nB3 gB3),.d (.ro kB4 nB4 gB4),.d (.int .i64 C0),.d (.int .i64 C1),.d (.int .i64 C2),.d (.int .i64 C3),.d (.int .i64 C4),.d (.int .i64 C5),.d (.int .i64 C6),.mp 14,.mp 15,.mp 16,.d .nilsl,.mp 17,.mp 18,.mp 19,.mp 20,.d .nilsl]),(14,e8 false [.str []] pH (fx (V.take i))),(15,e8 false [.bool false] Hj (nr [])),(16,e8 true (kB oC) kB jU.sts),(17,Ft jU.ats),(18,e8 true (lO lJ) lO jU.bks),(19,e8 true (dO none) dO jU.his),(20,e8 false [.int .i64 0] Er jU.paid)])
  (fun i=>V.length - i) 0 (Nat.zero_le _) ?_ ?_
 · exact ae [(1000009,1000009),(2,2),(22,22),(14,14),(15,15),(16,16),(17,17),(18,18),(19,19),(20,20)] rfl rfl ⟨lr,lr,lr,lr,lr,lr,trivial⟩ ⟨rr,rr,rr,bC (fun _ _=>⟨rfl,rfl⟩),bC (fun _ _=>⟨rfl,rfl⟩),bC (fun _ _=>⟨rfl,rfl⟩),bC (fun K hK=>by obtain⟨s,n,rfl⟩:=CF hK;exact⟨rfl,rfl⟩),bC (fun _ _=>⟨rfl,rfl⟩),bC (fun _ _=>⟨rfl,rfl⟩),bC (fun _ _=>⟨rfl,rfl⟩),trivial⟩
 rintro i hi;have hi:i≤V.length:=hi;have e1:(i:Int).toNat=i:=Int.toNat_natCast i;rcases Nat.lt_or_ge i V.length with hin|hin
 · conv=>whnf
   repeat' (first|((first|(refine aa ?_ ?_<;>intro hb<;>try simp only[az]at hb)|refine aw hT 5 fW ?_|refine aw hT 10 eQ ?_|omega|refine aA ?_|decide|assumption)<;>conv=>whnf))
   all_goals try(exfalso;omega)
   refine⟨i+1,by show i+1≤_;omega,by show V.length - (i+1)<V.length - i;omega,ae [(2,2),(1000009,1000009),(22,22),(14,14),(15,15),(16,16),(17,17),(18,18),(19,19),(20,20)] rfl rfl ⟨lr,lr,lr,lr,lr,am (by omega),trivial⟩ ⟨rr,rr,rr,?_,rr,rr,rr,rr,rr,rr,trivial⟩⟩;rw[yq hin,←e1];exact fK
 have hiV:i=V.length:=by omega
 rw[hiV,List.take_length];clear hin e1 hiV;conv=>whnf
 repeat' (first|((first|(refine aa ?_ ?_<;>intro hb<;>try simp only[az]at hb)|refine aw hT 5 fW ?_|refine aw hT 10 eQ ?_|omega|refine aA ?_|decide|assumption)<;>conv=>whnf))
 all_goals try(exfalso;omega)
 refine ah hT (C:= []) (ι:=Nat) (fun i=>i≤W.length) (fun i=>aN [(1,.d (ga l)),(5,.ptr 22 0),(42,.d (oa W)),(43,.d (.int .i64 W.length)),(44,.d (.int .i64 i))] [(1000009,KX),(22,.cells 101 [.d (oa W),.d (.ro kA1 nA1 gA1),.d (rf V),.d (.ro kA3 nA3 gA3),.d (.ro kB0 nB0 gB0),.d (.ro kB1 nB1 gB1),.d (.ro kB2 nB2 gB2),.d (.ro kB3 nB3 gB3),.d (.ro kB4 nB4 gB4),.d (.int .i64 C0),.d (.int .i64 C1),.d (.int .i64 C2),.d (.int .i64 C3),.d (.int .i64 C4),.d (.int .i64 C5),.d (.int .i64 C6),.mp 14,.mp 15,.mp 16,.d .nilsl,.mp 17,.mp 18,.mp 19,.mp 20,.d .nilsl]),(14,e8 false [.str []] pH (fx V)),(15,e8 false [.bool false] Hj (nr (W.take i))),(16,e8 true (kB oC) kB jU.sts),(17,Ft jU.ats),(18,e8 true (lO lJ) lO jU.bks),(19,e8 true (dO none) dO jU.his),(20,e8 false [.int .i64 0] Er jU.paid)])
  (fun i=>W.length - i) 0 (Nat.zero_le _) ?_ ?_
 · exact ae [(1000009,1000009),(22,22),(14,14),(15,15),(16,16),(17,17),(18,18),(19,19),(20,20)] rfl rfl ⟨lr,lr,lr,lr,lr,trivial⟩ ⟨rr,rr,rr,rr,rr,rr,rr,rr,rr,trivial⟩
 rintro i hi;have hi:i≤W.length:=hi;have e1:(i:Int).toNat=i:=Int.toNat_natCast i;rcases Nat.lt_or_ge i W.length with hin|hin
 · conv=>whnf
   repeat' (first|((first|(refine aa ?_ ?_<;>intro hb<;>try simp only[az]at hb)|refine aw hT 5 fW ?_|refine aw hT 10 eQ ?_|omega|refine aA ?_|decide|assumption)<;>conv=>whnf))
   all_goals try(exfalso;omega)
   refine⟨i+1,by show i+1≤_;omega,by show W.length - (i+1)<W.length - i;omega,ae [(1000009,1000009),(22,22),(14,14),(15,15),(16,16),(17,17),(18,18),(19,19),(20,20)] rfl rfl ⟨lr,lr,lr,lr,am (by omega),trivial⟩ ⟨rr,rr,rr,?_,rr,rr,rr,rr,rr,trivial⟩⟩;rw[FL hin,←e1];exact fK
 have hiW:i=W.length:=by omega
 rw[hiW,List.take_length];clear hin e1 hiW;conv=>whnf
 repeat' (first|((first|(refine aa ?_ ?_<;>intro hb<;>try simp only[az]at hb)|refine aw hT 5 fW ?_|refine aw hT 10 eQ ?_|omega|refine aA ?_|decide|assumption)<;>conv=>whnf))
 all_goals try(exfalso;omega)
 refine ah hT (C:= []) (ι:=Nat×dA) (fun(i,s)=>i≤l.length∧s=O i) (fun(i,s)=>aN [(5,.ptr 22 0),(55,.d (ga l)),(56,.d (.int .i64 l.length)),(57,.d (.int .i64 i))] [(1000009,KX),(22,.cells 101 [.d (oa W),.d (.ro kA1 nA1 gA1),.d (rf V),.d (.ro kA3 nA3 gA3),.d (.ro kB0 nB0 gB0),.d (.ro kB1 nB1 gB1),.d (.ro kB2 nB2 gB2),.d (.ro kB3 nB3 gB3),.d (.ro kB4 nB4 gB4),.d (.int .i64 C0),.d (.int .i64 C1),.d (.int .i64 C2),.d (.int .i64 C3),.d (.int .i64 C4),.d (.int .i64 C5),.d (.int .i64 C6),.mp 14,.mp 15,.mp 16,.buf 50,.mp 17,.mp 18,.mp 19,.mp 20,.buf 51]),(14,e8 false [.str []] pH (fx V)),(15,e8 false [.bool false] Hj (nr W)),(16,e8 true (kB oC) kB s.sts),(50,Hi s.log),(17,Ft s.ats),(18,e8 true (lO lJ) lO s.bks),(19,e8 true (dO none) dO s.his),(20,e8 false [.int .i64 0] Er s.paid),(51,Jt s.ref)])
  (fun(i,_)=>l.length - i) (0,jU) ⟨Nat.zero_le _,hO0.symm⟩ ?_ ?_
 · refine(dn 22 50 198 5 19 (aV iB dt []) rfl rfl rfl (by decide) rfl).trans ((dn 22 51 195 2 24 (aV QR QO []) rfl rfl rfl (by decide) rfl).trans ?_);exact ae [(50,50),(51,51),(1000009,1000009),(22,22),(14,14),(15,15),(16,16),(17,17),(18,18),(19,19),(20,20)] rfl rfl ⟨lr,lr,lr,lr,trivial⟩ ⟨rr,rr,rr,rr,rr,rr,rr,rr,rr,rr,rr,trivial⟩
 rintro⟨i,s⟩ ⟨hi,hsO⟩;have hi:i≤l.length:=hi;have hsO:s=O i:=hsO;have e1:(i:Int).toNat=i:=Int.toNat_natCast i;have kI:=hZ i hi;have kR:=hR i;rw[←hsO]at kI kR;rcases Nat.lt_or_ge i l.length with hin|hin
 · have hxi:=hx _ (aq (x:=dQ) hin);have cX:=cF s (kI.ok (by omega) (by omega)) (l.getD (i:Int).toNat dQ) (by rw[e1];exact hxi)
   by_cases e:fE s (l.getD (i:Int).toNat dQ)=0
   · have hN:=hG i hin (by rw[←hsO,←e1];exact e);rw[←hsO]at hN;rw[e]at cX;conv=>whnf
     repeat' (first|((first|(refine cj cX [(1000009,1000009),(1000001,22),(1000002,14),(1000003,15),(1000004,16),(1000005,50),(1000006,17),(1000007,18),(1000008,19),(1000010,20),(1000011,51),(50,60)] ?_;rintro y rout ⟨rfl,rfl⟩;refine⟨rfl,?_⟩)|(refine aa ?_ ?_<;>intro hb<;>try simp only[az]at hb)|refine aw hT 5 fW ?_|refine aw hT 10 eQ ?_|omega|refine aA ?_|decide|assumption)<;>conv=>whnf))
     all_goals try(exfalso;omega)
     exact⟨(i+1,fO s (l.getD (i:Int).toNat dQ)),⟨by show i+1≤_;omega,by show _=O (i+1);rw[hN,e1]⟩,by show l.length - (i+1)<l.length - i;omega,ae [(50,60),(51,51),(1000009,1000009),(22,22),(14,14),(15,15),(16,16),(17,17),(18,18),(19,19),(20,20)] rfl rfl ⟨lr,lr,lr,am (by omega),trivial⟩ ⟨rr,rr,rr,rr,rr,rr,rr,rr,rr,rr,rr,trivial⟩⟩
   · have hN:=hB i hin (by rw[←hsO,←e1];exact e);rw[←hsO]at hN;rw[hS _ _ e]at cX;conv=>whnf
     repeat' (first|((first|(refine cj cX [(1000009,1000009),(1000001,22),(1000002,14),(1000003,15),(1000004,16),(1000005,50),(1000006,17),(1000007,18),(1000008,19),(1000010,20),(1000011,51),(50,60)] ?_;rintro y rout ⟨rfl,rfl⟩;refine⟨rfl,?_⟩)|(refine aa ?_ ?_<;>intro hb<;>try simp only[az]at hb)|refine aw hT 5 fW ?_|refine aw hT 10 eQ ?_|omega|refine aA ?_|decide|assumption)<;>conv=>whnf))
     all_goals try(exfalso;omega)
     all_goals try(exfalso;exact e (by rw[e1];assumption))
     refine⟨(i+1,{s with ref:=s.ref++ [⟨i,fE s (l.getD (i:Int).toNat dQ)⟩]}),⟨by show i+1≤_;omega,by show _=O (i+1);rw[hN,e1]⟩,by show l.length - (i+1)<l.length - i;omega,ae [(50,60),(51,76),(1000009,1000009),(22,22),(14,14),(15,15),(16,16),(17,17),(18,18),(19,19),(20,20)] rfl rfl ⟨lr,lr,lr,am (by omega),trivial⟩ ⟨rr,rr,rr,rr,rr,rr,rr,rr,rr,rr,?_,trivial⟩⟩;exact aR (x:=(⟨i,fE s (l.getD (i:Int).toNat dQ)⟩:BI)) rfl
 · have hil:i=l.length:=by omega
   have c113:=FA s.log (by have:=kI.log;omega) kI.apt;conv=>whnf
   repeat' (first|((first|(refine cj c113 [(1000001,50)] ?_;rintro y rout ⟨rfl,rfl⟩;refine⟨rfl,?_⟩)|(refine aa ?_ ?_<;>intro hb<;>try simp only[az]at hb)|refine aw hT 5 fW ?_|refine aw hT 10 eQ ?_|omega|refine aA ?_|decide|assumption)<;>conv=>whnf))
   all_goals try(exfalso;omega)
   refine .ret _ ?_;conv=>whnf
   rw[←hil,←hsO];exact⟨_,⟨rfl,rfl⟩,rr,rr,rr,rr,rr,rr,rr,rr,rr,rr,rr,trivial⟩
end Go.Proofs.YtodakofifpaljaaGreatDoor
namespace Go.Eng
open Go Go.Proofs Go.Sort Go.RowKit
def nQ:List UInt8→List DV:=fun s=> [.str s]
def sortS (l:List (List UInt8)):List (List UInt8):=l.mergeSort fun x y=>decide (x≤y)
theorem eY (l:List (List UInt8)):(sortS l).Perm l:=List.mergeSort_perm _ _
theorem iM (l:List (List UInt8)):(sortS l).length=l.length:=(eY l).length_eq
theorem ls (l:List (List UInt8)):(sortS l).Pairwise fun x y=>x≤y:=by
 have:=List.pairwise_mergeSort (le:=fun x y:List UInt8=>decide (x≤y)) (fun a b c h1 h2=>by simp only[decide_eq_true_eq]at*;exact List.le_trans h1 h2) (fun a b=>by simp only[Bool.or_eq_true,decide_eq_true_eq];exact List.le_total a b) l;exact this.imp (fun h=>by simpa using h)
theorem GK {l m:List (List UInt8)}(h:l.Perm m):sortS l=sortS m:=
 List.Perm.eq_of_pairwise (le:=fun x y:List UInt8=>x≤y) (fun x y _ _ h1 h2=>List.le_antisymm h1 h2) (ls l) (ls m) ((eY l).trans (h.trans (eY m).symm))
theorem ai.sortS {P:Program}{f:FuncId}{e:TypeId}(henter:∀args w,(callFunc f args).run P w= .ok (.enter f args) w)(l:List (List UInt8))
 (hn:∀w,Calls P f #[.slice none 0 0] w fun e' w' =>e' = .returned (.tuple #[])∧w' =w)
 (hc:∀ (io cap:Nat) (w:World),Holds encStr w io 0 l.toArray→io<w.heap.size→Calls P f #[.slice (some ⟨io,0,none⟩) l.length cap] w fun e' w' =>e' = .returned (.tuple #[])∧∃n os,w' =grow (putRow encStr (Sort.ahead w n) io 0 (Go.Eng.sortS l).toArray) os):
 ai P f [.buf 1000001] [(1000001,aM e 1 nQ [] l)] (fun y r=>y= .tup []∧r= [(1000001,aM e 1 nQ [] (Go.Eng.sortS l))]):=by
 refine⟨henter,fun G β w vs hpre hvl hvd=> ?_⟩
 match vs,hvl with
 | [v],_=>
   have hv:=hvd 0 _ _ rfl rfl
   cases hv with|buf _ _ hb _=>
   have hR:aE [(1000001,aM e 1 nQ [] l)] 1000001=some (aM e 1 nQ [] l):=by simp[aE]
   have hrow:∀ {q:List (List UInt8)} d r,aE [(1000001,aM e 1 nQ [] q)] d=some r→d=1000001∧r=aM e 1 nQ [] q:=by
    intro q d r hr;simp only[aE]at hr
    cases hq:Nat.beq d 1000001 with
    |false=>rw[show(d.beq 1000001)=false from hq]at hr;cases hr
    |true=>rw[show(d.beq 1000001)=true from hq]at hr;cases hr;exact⟨Nat.eq_of_beq_eq_true hq,rfl⟩
   obtain⟨v',xs,hv',hown,_,_,hden⟩:=hpre.rs _ _ hR;rw[hb]at hv';cases hv';rcases hown.2 with⟨rfl,hz⟩|⟨g,cap,cur,rfl,hg,hh,hnc,hcm,hcz,htake⟩
   · have hl0:l= []:=List.length_eq_zero_iff.1 hz;subst hl0;refine(hn w).mono ?_;rintro e' w' ⟨rfl,rfl⟩;refine⟨.tuple #[],.tup [],[(1000001,aM e 1 nQ [] (Go.Eng.sortS []))],G,β,rfl,⟨rfl,rfl⟩,⟨Hp.le_refl G,fk.le_refl β,fun b o ho=>hpre.gw b o ho,fun b o ho=>.inl ho,⟨rfl,rfl,rfl,Nat.le_refl _,fun b hlt hT=>rfl⟩,fun d r hr=> ?_,fun d d' r r' _ _ _ e1 e2 _ _ _ _ _ _=> ?_,fun d r u b e1 _ hu hbk=> ?_⟩,.tup [] [] rfl (fun i x v hx=>by simp at hx)⟩
     · rw[show Go.Eng.sortS []= []by simp[Go.Eng.sortS]]at hr;exact hpre.rs d r hr
     · rw[(hrow d r e1).1,(hrow d' r' e2).1]
     · obtain⟨rfl,rfl⟩:=hrow d r e1;rw[hb]at hu;cases hu;exact absurd (hbk.plain rfl) (by simp[io])
   have hxs:xs=l.map encStr:=by
    apply List.ext_getElem
    · rw[hown.1];simp
    intro i hi hi';have hil:i<l.length:=by simpa using hi'
    obtain⟨u,hu,hd⟩:=hden i 0 (.str (l.getD i [])) hil rfl;rw[Nat.mul_one,Nat.add_zero,List.getElem?_eq_getElem hi]at hu;cases hu;generalize xs[i]=z at hd;cases hd;simp[List.getD_eq_getElem?_getD,hil]
   have hgs:g<w.heap.size:=(Array.getElem?_eq_some_iff.1 hh).1;have hho:=holds_of_block (ss:=l) hh (by rw[←hxs,←htake,Nat.mul_one]);refine(hc g cap w hho hgs).mono ?_;rintro e' w' ⟨rfl,n,os,rfl⟩;have hgb:=grownBy_sorted (w:=w) (g:=g) (n:=n) (os:=os) (Go.Eng.sortS l).toArray;have BU:=ownsRow_sorted (w:=w) (base:=0) (cap:=cap) (n:=n) (os:=os) (iM l) (Nat.zero_le _) hh hnc hcm hcz;have hTin:Eg w β (aE [(1000001,aM e 1 nQ [] l)]) g:=⟨1000001,_,_,hR,rfl,hb,.of rfl⟩;have hGg:G g=none:=hpre.og _ _ _ g hR rfl hb (.of rfl);refine⟨.tuple #[],.tup [],_,G,β,rfl,⟨rfl,rfl⟩,⟨Hp.le_refl G,fk.le_refl β,fun b o ho=> ?_,fun b o ho=>.inl ho,⟨hgb.os,hgb.tape,hgb.output,hgb.size,fun b hlt hT=> ?_⟩,fun d r hr=> ?_,fun d d' r r' _ _ _ e1 e2 _ _ _ _ _ _=> ?_,fun d r u b e1 _ hu hbk=> ?_⟩,.tup [] [] rfl (fun i x v hx=>by simp at hx)⟩
   · have hw:=hpre.gw b o ho;rw[hgb.block b (Array.getElem?_eq_some_iff.1 hw).1 (fun q=>by cases q;rw[hGg]at ho;cases ho)];exact hw
   · exact hgb.block b hlt (fun q=>by cases q;exact hT hTin)
   · obtain⟨rfl,rfl⟩:=hrow d r hr;refine⟨_,_,hb,by rw[iM];exact BU,by omega,fun i hi=>rfl,fun i j x hi hx=> ?_⟩
     have hj:j=0:=by
      have:=(List.getElem?_eq_some_iff.1 hx).1;simp[aV,nQ]at this;omega
     subst hj;simp[aV,nQ]at hx;subst hx;exact⟨encStr ((Go.Eng.sortS l).getD i []),by rw[Nat.mul_one,Nat.add_zero];simp[List.getD_eq_getElem?_getD,hi],.str _⟩
   · rw[(hrow d r e1).1,(hrow d' r' e2).1]
   · obtain⟨rfl,rfl⟩:=hrow d r e1;rw[hb]at hu;cases hu;cases hbk.plain rfl;exact⟨hGg,.inl hTin⟩
end Go.Eng
set_option maxRecDepth 20000
namespace Go.Proofs.YtodakofifpaljaaGreatDoor
open Go Go.Eng
theorem vv {ks:List KK}{has:List DV→Bool}{clock:Nat}{kb:List (List DV×Nat)}(hk:KB ks has clock kb){p q:List DV×Nat}(hp:p ∈ kb)(hq:q ∈ kb):(p.2=q.2↔p.1=q.1):=by
 obtain⟨i,hi,rfl⟩:=List.getElem_of_mem hp;obtain⟨j,hj,rfl⟩:=List.getElem_of_mem hq
 have h1:∀i j (hi:i<kb.length) (hj:j<kb.length),i<j→kb[i].2<kb[j].2:=fun i j hi hj hij=>by
  have:=List.pairwise_iff_getElem.1 hk.ki i j (by simpa using hi) (by simpa using hj) hij;simpa using this
 have h2:∀i j (hi:i<kb.length) (hj:j<kb.length),i<j→kb[i].1≠kb[j].1:=fun i j hi hj hij e=>by
  have:=List.pairwise_iff_getElem.1 hk.kd i j (by simpa using hi) (by simpa using hj) hij;simp only[List.getElem_map]at this;rw[e]at this;rw[bJ (hk.kw _ (List.getElem_mem hj))]at this;cases this
 rcases Nat.lt_trichotomy i j with q|q|q
 · exact⟨fun e=>absurd e (Nat.ne_of_lt (h1 i j hi hj q)),fun e=>absurd e (h2 i j hi hj q)⟩
 · subst q;exact⟨fun _=>rfl,fun _=>rfl⟩
 · exact⟨fun e=>absurd e.symm (Nat.ne_of_lt (h1 j i hj hi q)),fun e=>absurd e.symm (h2 j i hj hi q)⟩
open Classical in
noncomputable def ca (has:List UInt8→Bool):List (List UInt8):=
 if h:∃K:List (List UInt8),K.Nodup∧∀k,k ∈ K↔has k=true then sortS (Classical.choose h)else []
theorem pw {has:List UInt8→Bool}{K:List (List UInt8)}(h1:K.Nodup)(h2:∀k,k ∈ K↔has k=true):sortS K=ca has:=by
 have h:∃K:List (List UInt8),K.Nodup∧∀k,k ∈ K↔has k=true:=⟨K,h1,h2⟩;unfold ca;rw[dif_pos h];have hc:=Classical.choose_spec h;exact GK ((List.perm_ext_iff_of_nodup h1 hc.1).2 fun k=>by rw[h2 k,hc.2 k])
theorem qy {has:List UInt8→Bool}{L:List (List UInt8)}(hL:∀k,has k=true→k ∈ L):(ca has).length≤L.length:=by
 unfold ca;split
 · rename_i h;have hc:=Classical.choose_spec h;rw[iM];exact lU _ _ hc.1 fun k hk=>hL k ((hc.2 k).1 hk)
 · simp
theorem K1 (l:List (List UInt8))(hl:l.length<2^40):ai Tryz.prog 57 [.buf 1000001] [(1000001,aM 9 1 nQ [] l)] (fun y r=>y= .tup []∧r= [(1000001,aM 9 1 nQ [] (sortS l))]):=by
 have e:jT.f 190=57:=rfl;refine ai.sortS Tryz.call57 l (fun w=> ?_) (fun io cap w hH hb=> ?_)
 · have:=Any.slices_Sort_string_none oK none 0 w;rw[e]at this;exact this
 · have:=Any.slices_Sort_string oK io 0 cap l w hH hb (by omega);rw[e]at this;exact this
structure uk (h:ed)(l:List bx):Prop where
 hou:GD h
 ent:Ci l
 len:l.length≤400
 wds:∀x ∈ l,x.words.length≤2^20
 hE:um h=0
 lE:jx l=0
set_option maxHeartbeats 4000000 in
theorem N4 (h:ed)(l:List bx)(k:uk h l):
 ai Tryz.prog 23 [hou h,.d (ga l)] [(1000009,KX)] (fun y r=>y= .tup [.ptr 22 0,.d (.int .i64 0)]∧r=(1000009,KX)::J0 h (fx h.flt.veh) (nr h.flt.sta) (aZ h l) (di iC (aZ h l).log)):=by
 have c1:=Qt h k.hou;have c2:=Og l k.ent;have c3:=Ik h k.hou.1.cls k.hou.1.veh.1 k.hou.1.sta.1 l k.len k.wds;rw[k.hE]at c1;rw[k.lE]at c2;generalize aZ h l=Z at c3 ⊢;generalize di iC Z.log=lg at c3 ⊢;generalize fx h.flt.veh=vm at c3 ⊢;generalize nr h.flt.sta=sm at c3 ⊢;refine af hT (C:= []) Tryz.func23 rfl Tryz.call23 rfl rfl rfl ?_;conv=>whnf
 repeat' (first|(refine rZ c1 ?_;conv=>whnf)|(refine ac (c2) rfl rfl ?_;rotate_right;conv=>whnf)|((first|refine ao (fu [_,_] (by simp)) ⟨aj (by rfl) (by rfl),trivial⟩ rfl ?_|(refine cj c3 AK ?_;rintro y rout ⟨rfl,rfl⟩;refine⟨rfl,?_⟩)|(refine aa ?_ ?_<;>intro hb<;>try simp only[az]at hb)|omega|refine aA ?_|decide|assumption)<;>conv=>whnf))
 all_goals try(exfalso;contradiction)
 refine .ret _ ?_;conv=>whnf
 exact⟨_,⟨rfl,rfl⟩,rr,rr,rr,rr,rr,rr,rr,rr,rr,rr,rr,trivial⟩
theorem mH {α:Type}{R:α→α→Prop}{l:List α}(d:α):l.Pairwise R↔∀i j,i<j→j<l.length→R (l.getD i d) (l.getD j d):=by
 rw[List.pairwise_iff_getElem];constructor
 · intro h i j hij hj;rw[List.getD_eq_getElem?_getD,List.getD_eq_getElem?_getD,List.getElem?_eq_getElem (by omega),List.getElem?_eq_getElem hj];exact h i j _ hj hij
 · intro h i j hi hj hij;have:=h i j hij hj;rw[List.getD_eq_getElem?_getD,List.getD_eq_getElem?_getD,List.getElem?_eq_getElem hi,List.getElem?_eq_getElem hj]at this;exact this
theorem Bz:gg=wj (fun a b=>eU a.tm b.tm) (wj (fun a b=>dM a.desk b.desk) (fun a b=>eU a.no b.no)):=by
 funext a b
 unfold gg wj;simp only[al];grind
theorem Ar:jj gg:=by
 rw[Bz];exact(jj.int (fun a:bx=>a.tm)).seq ((jj.str (fun a:bx=>a.desk)).seq (jj.int (fun a:bx=>a.no)))
structure Jp (l:List bx):Prop where
 len:l.length≤1000
 frm:∀x ∈ l,ry x=0
 ord:l.Pairwise fun a b=>gg a b<0
 dup:l.Pairwise fun a b=>uE a b=false
theorem uW {l:List bx}{i:Nat}:rG l i=0↔ry (l.getD i dQ)=0∧(0<i→gg (l.getD (i - 1) dQ) (l.getD i dQ)<0)∧zS (l.take i) (l.getD i dQ)=false:=by
 unfold rG
 by_cases h1:ry (l.getD i dQ)=0
 · rw[if_neg (fun c=>c h1)]
   by_cases h2:0<i∧0≤gg (l.getD (i - 1) dQ) (l.getD i dQ)
   · rw[if_pos h2];exact⟨fun h=>absurd h (by decide),fun h=>by have:=h.2.1 h2.1;omega⟩
   · rw[if_neg h2]
     cases h3:zS (l.take i) (l.getD i dQ)with
     |true=>exact⟨fun h=>absurd h (by decide),fun h=>by cases h.2.2⟩
     |false=>exact⟨fun _=>⟨h1,fun q=>by omega,rfl⟩,fun _=>rfl⟩
 · rw[if_pos h1];exact⟨fun h=>absurd h h1,fun h=>absurd h.1 h1⟩
theorem zw {l:List bx}{x:bx}:zS l x=false↔∀y ∈ l,uE y x=false:=by
 show(l.any fun y=>y.desk==x.desk&&decide (y.no=x.no))=false↔_;rw[List.any_eq_false];refine⟨fun h y hy=> ?_,fun h y hy=> ?_⟩
 · have:=h y hy;unfold uE;simpa using this
 · have:=h y hy;unfold uE at this;rw[this];simp
theorem tF {l:List bx}:jx l=0↔Jp l:=by
 constructor
 · intro h;unfold jx at h
   by_cases hl:1000<l.length
   · rw[if_pos hl]at h;exact absurd h (by decide)
   rw[if_neg hl]at h;have hA:=fun i hi=>uW.1 (cg h i hi)
   refine⟨by omega,fun x hx=> ?_,(mH dQ).2 fun i j=> ?_,(mH dQ).2 fun i j hij hj=> ?_⟩
   · obtain⟨i,hi,rfl⟩:=bQ (d:=dQ) hx;exact(hA i hi).1
   · induction j with
     |zero=>intro hij;omega
     | succ j ih=>
       intro hij hj;have h1:=(hA (j+1) hj).2.1 (by omega);rw[Nat.add_sub_cancel]at h1
       by_cases q:i=j
       · rw[q];exact h1
       · exact Ar.tr _ _ _ (ih (by omega) (by omega)) h1
   · have h1:=zw.1 (hA j hj).2.2;refine h1 _ ?_
     have:l.getD i dQ=(l.take j).getD i dQ:=by
      rw[List.getD_eq_getElem?_getD,List.getD_eq_getElem?_getD,List.getElem?_take_of_lt hij]
     rw[this];exact aq (by rw[List.length_take];omega)
 · intro h;unfold jx;rw[if_neg (by have:=h.len;omega)];refine aC fun i hi=>uW.2 ⟨h.frm _ (aq hi),fun q=>(mH dQ).1 h.ord (i - 1) i (by omega) hi,zw.2 fun y hy=> ?_⟩
   obtain⟨j,hj,rfl⟩:=bQ (d:=dQ) hy;rw[List.length_take]at hj
   have:(l.take i).getD j dQ=l.getD j dQ:=by
    rw[List.getD_eq_getElem?_getD,List.getD_eq_getElem?_getD,List.getElem?_take_of_lt (by omega)]
   rw[this];exact(mH dQ).1 h.dup j i (by omega) hi
section
variable (h:ed) (vm:Mp (List UInt8)) (sm:Mp Bool)
end
def Ju (v:List UInt8)(l:List cO):List cO:=l.filter fun x=>decide (x.veh=v)
def N0 (l:List cO):ES:=l.foldl lM oC
def J4:ES→List cO→Prop
 |_,[]=>True
 |s,x::l=>gG s x=true∧J4 (lM s x) l
theorem zj:∀ (l:List cO) (s:ES) (x:cO),J4 s (l++ [x])↔J4 s l∧gG (l.foldl lM s) x=true
 | [],s,x=>⟨fun h=>⟨trivial,h.1⟩,fun h=>⟨h.2,trivial⟩⟩
 | y::l,s,x=>by
   show gG s y=true∧J4 (lM s y) (l++ [x])↔(gG s y=true∧J4 (lM s y) l)∧_;rw[zj l (lM s y) x,and_assoc];rfl
structure KY (vm:Mp (List UInt8))(sm:Mp Bool)(x:cO):Prop where
 tm:0≤x.tm∧x.tm≤5761439
 veh:vm.has x.veh=true
 st:sm.val x.st=true
 kind:1≤x.kind∧x.kind≤8
 to:x.to≠ []→x.kind=6
 lv:x.kind=6→sm.val x.to=true
 ne:x.to≠x.st
structure nd (vm:Mp (List UInt8))(sm:Mp Bool)(now:Int)(s:dA):Prop where
 inc:s.log.Pairwise fun a b=>a.tm≤b.tm
 low:∀x ∈ s.log,x.tm≤now
 rt:∀x ∈ s.log,KY vm sm x
 cur:∀v,s.sts.val v=N0 (Ju v s.log)
 ok:∀v,J4 oC (Ju v s.log)
theorem yH (v:List UInt8)(l:List cO)(x:cO):Ju v (l++ [x])=Ju v l++(if x.veh=v then [x]else []):=by
 unfold Ju;rw[List.filter_append];congr 1
 by_cases h:x.veh=v
 · rw[if_pos h,List.filter_cons_of_pos (by simpa using h)];rfl
 · rw[if_neg h,List.filter_cons_of_neg (by simpa using h)];rfl
theorem nd.say {vm:Mp (List UInt8)}{sm:Mp Bool}{now:Int}{s:dA}(h:nd vm sm now s){x:cO}(hx:KY vm sm x)(ht:x.tm=now)(hok:gG (s.sts.val x.veh) x=true):nd vm sm now (gW s x) where
 inc:=by
  show(s.log++ [x]).Pairwise _;rw[List.pairwise_append];exact⟨h.inc,List.pairwise_singleton _ _,fun a ha b hb=>by rw[List.mem_singleton]at hb;rw[hb,ht];exact h.low a ha⟩
 low:=fun y hy=>by
  rcases List.mem_append.1 (show y ∈ s.log++ [x]from hy)with q|q
  · exact h.low y q
  · rw[List.mem_singleton]at q;rw[q,ht];exact Int.le_refl _
 rt:=fun y hy=>by
  rcases List.mem_append.1 (show y ∈ s.log++ [x]from hy)with q|q
  · exact h.rt y q
  · rw[List.mem_singleton]at q;rw[q];exact hx
 cur:=fun v=>by
  show(if v=x.veh then lM (s.sts.val x.veh) x else s.sts.val v)=N0 (Ju v (s.log++ [x]));rw[yH]
  by_cases q:v=x.veh
  · rw[if_pos q,if_pos q.symm,q];unfold N0;rw[List.foldl_append];show lM (s.sts.val x.veh) x=lM (N0 (Ju x.veh s.log)) x;rw[h.cur x.veh]
  · rw[if_neg q,if_neg (fun e=>q e.symm),List.append_nil];exact h.cur v
 ok:=fun v=>by
  show J4 oC (Ju v (s.log++ [x]));rw[yH]
  by_cases q:x.veh=v
  · rw[if_pos q,zj];refine⟨h.ok v,?_⟩;have:=h.cur v;rw[q]at hok;rw[this]at hok;exact hok
  · rw[if_neg q,List.append_nil];exact h.ok v
theorem nd.later {vm:Mp (List UInt8)}{sm:Mp Bool}{now t:Int}{s:dA}(h:nd vm sm now s)(ht:now≤t):nd vm sm t s:=
 ⟨h.inc,fun x hx=>by have:=h.low x hx;omega,h.rt,h.cur,h.ok⟩
def iT (x:rW):Int:=if x.inn.tm= -1 then 5761440 else x.inn.tm
structure kr (vm:Mp (List UInt8))(now:Int)(s:dA):Prop where
 key:∀k g,s.his.val k=some g→g.key=k
 veh:∀k g,s.his.val k=some g→∀x ∈ g.legs,vm.has x.veh=true
 past:∀k g,s.his.val k=some g→∀x ∈ g.legs,x.out.tm≤now∧(x.inn.tm≠-1→x.inn.tm≤now)
 opn:∀k g,s.his.val k=some g→∀x ∈ g.legs,x.inn.tm= -1→(s.sts.val x.veh).k=2
 dis:∀k1 k2 g1 g2,k1≠k2→s.his.val k1=some g1→s.his.val k2=some g2→∀x ∈ g1.legs,∀y ∈ g2.legs,x.veh=y.veh→iT x≤y.out.tm∨iT y≤x.out.tm
theorem kr.later {vm:Mp (List UInt8)}{now t:Int}{s:dA}(h:kr vm now s)(ht:now≤t):kr vm t s:=
 ⟨h.key,h.veh,fun k g hk x hx=>⟨by have:=(h.past k g hk x hx).1;omega,fun q=>by have:=(h.past k g hk x hx).2 q;omega⟩,h.opn,h.dis⟩
theorem kr.same {vm:Mp (List UInt8)}{now:Int}{s s':dA}(h:kr vm now s)(hh:s'.his=s.his)(ho:∀v,(s.sts.val v).k=2→(s'.sts.val v).k=2):kr vm now s':=by
 refine⟨?_,?_,?_,?_,?_⟩<;>rw[hh]
 · exact h.key
 · exact h.veh
 · exact h.past
 · exact fun k g hk x hx q=>ho _ (h.opn k g hk x hx q)
 · exact h.dis
theorem kr.put {vm:Mp (List UInt8)}{now:Int}{s s':dA}(h:kr vm now s){key:List UInt8}{g':cy}(hh:s'.his=s.his.put key (some g'))(hk:g'.key=key)(hv:∀x ∈ g'.legs,vm.has x.veh=true)
 (hp:∀x ∈ g'.legs,x.out.tm≤now∧(x.inn.tm≠-1→x.inn.tm≤now))(ho:∀x ∈ g'.legs,x.inn.tm= -1→(s'.sts.val x.veh).k=2)
 (hs:∀k g,k≠key→s.his.val k=some g→∀y ∈ g.legs,y.inn.tm= -1→(s'.sts.val y.veh).k=2)
 (hd:∀k g,k≠key→s.his.val k=some g→∀x ∈ g'.legs,∀y ∈ g.legs,x.veh=y.veh→iT x≤y.out.tm∨iT y≤x.out.tm):kr vm now s':=by
 have hval:∀k,s'.his.val k=if k=key then some g' else s.his.val k:=fun k=>by rw[hh];rfl
 have hc:∀k g,s'.his.val k=some g→(k=key∧g=g')∨(k≠key∧s.his.val k=some g):=fun k g hk=>by
  rw[hval]at hk
  by_cases q:k=key
  · rw[if_pos q]at hk;exact .inl ⟨q,(Option.some.inj hk).symm⟩
  · rw[if_neg q]at hk;exact .inr ⟨q,hk⟩
 refine⟨fun k g hk' => ?_,fun k g hk' => ?_,fun k g hk' => ?_,fun k g hk' => ?_,fun k1 k2 g1 g2 hne h1 h2=> ?_⟩
 · rcases hc k g hk' with⟨e1,e2⟩|⟨e1,e2⟩
   · rw[e1,e2];exact hk
   · exact h.key k g e2
 · rcases hc k g hk' with⟨e1,e2⟩|⟨e1,e2⟩
   · rw[e2];exact hv
   · exact h.veh k g e2
 · rcases hc k g hk' with⟨e1,e2⟩|⟨e1,e2⟩
   · rw[e2];exact hp
   · exact h.past k g e2
 · rcases hc k g hk' with⟨e1,e2⟩|⟨e1,e2⟩
   · rw[e2];exact ho
   · exact hs k g e1 e2
 · rcases hc k1 g1 h1 with⟨a1,a2⟩|⟨a1,a2⟩<;>rcases hc k2 g2 h2 with⟨b1,b2⟩|⟨b1,b2⟩
   · exact absurd (a1.trans b1.symm) hne
   · rw[a2];exact hd k2 g2 b1 b2
   · rw[b2];exact fun x hx y hy e=>(hd k1 g1 a1 a2 y hy x hx e.symm).symm
   · exact h.dis k1 k2 g1 g2 hne a2 b2
theorem D4 {w:List UInt8}(h:aU.has w=true):aU.val w=1∨aU.val w=4∨aU.val w=5∨aU.val w=6∨aU.val w=7∨aU.val w=8:=by
 simp only[aU,Mp.put,Mp.nil,Bool.or_eq_true,decide_eq_true_eq,Bool.false_eq_true,or_false]at h ⊢;grind
theorem FF {s:ES}{x:cO}(hk:x.kind=1∨x.kind=4∨x.kind=5∨x.kind=6∨x.kind=7∨x.kind=8)(h:gG s x=true):s.k≠2:=by
 unfold gG at h;intro e;rw[e]at h;rcases hk with q|q|q|q|q|q<;>simp[q]at h
theorem De {s:ES}{x:cO}(hk:x.kind=2)(h:gG s x=true):s.k=1∧(lM s x).k=2:=by
 constructor
 · unfold gG at h;simp[hk]at h;exact h.1
 · unfold lM;rw[if_pos h];simp[hk]
variable {vm:Mp (List UInt8)} {sm:Mp Bool} {now:Int} {s:dA}
theorem jE (s:dA)(x:cO)(v:List UInt8):(gW s x).sts.val v=if v=x.veh then lM (s.sts.val x.veh) x else s.sts.val v:=rfl
theorem kr.free (h:kr vm now s){v:List UInt8}(h1:(s.sts.val v).k=1){k:List UInt8}{g:cy}(hk:s.his.val k=some g){y:rW}(hy:y ∈ g.legs)(e:y.veh=v):y.inn.tm≠-1:=fun q=>by
 have:=h.opn k g hk y hy q;rw[e,h1]at this;exact absurd this (by decide)
theorem kr.one (h:kr vm now s)(hn:now≤5761439){k1 k2:List UInt8}{g1 g2:cy}(hne:k1≠k2)(h1:s.his.val k1=some g1)(h2:s.his.val k2=some g2){x y:rW}(hx:x ∈ g1.legs)(hy:y ∈ g2.legs)(e:x.veh=y.veh)(q1:x.inn.tm= -1):y.inn.tm≠-1∧iT y≤x.out.tm:=by
 have p1:=(h.past k1 g1 h1 x hx).1;have p2:=(h.past k2 g2 h2 y hy).1;have hd:=h.dis k1 k2 g1 g2 hne h1 h2 x hx y hy e;unfold iT at hd;rw[if_pos q1]at hd;unfold iT
 by_cases r:y.inn.tm= -1
 · rw[if_pos r]at hd;omega
 · rw[if_neg r]at hd ⊢;exact⟨r,by omega⟩
theorem HZ (hb:nd vm sm now s)(hc:kr vm now s)(hsm:sm.val []=false)(hn:0≤now∧now≤5761439){t:mh}(hk:aU.has t.word=true):nd vm sm now (lL vm sm s (gD now t))∧kr vm now (lL vm sm s (gD now t)):=by
 unfold lL;split
 · rename_i e;unfold nf at e;have e1:=bi e _ (List.mem_cons_self ..);have e2:=bi e _ (List.mem_cons_of_mem _ (List.mem_cons_self ..));have e3:=(eJ (bi e (g9 s (gD now t)) (by simp))).2;have hkv:=D4 hk;have hK:(gD now t).kind=aU.val t.word:=rfl;have hT:(gD now t).to=if aU.val t.word=6 then t.texts.getD 2 []else []:=rfl
   have h1:(!vm.has (gD now t).veh||(!sm.val (gD now t).st||(decide ((gD now t).kind=6)&& !sm.val (gD now t).to)))=false:=by
    cases q:(!vm.has (gD now t).veh||(!sm.val (gD now t).st||(decide ((gD now t).kind=6)&& !sm.val (gD now t).to)))with
    |false=>rfl
    |true=>rw[q]at e1;exact absurd e1 (by decide)
   have h2:(decide ((gD now t).kind=6)&&decide ((gD now t).to=(gD now t).st))=false:=by
    cases q:(decide ((gD now t).kind=6)&&decide ((gD now t).to=(gD now t).st))with
    |false=>rfl
    |true=>rw[q]at e2;exact absurd e2 (by decide)
   simp only[Bool.or_eq_false_iff,Bool.not_eq_false']at h1;obtain⟨a1,a2,a3⟩:=h1
   have hr:KY vm sm (gD now t):=by
    refine⟨hn,a1,a2,by rw[hK];omega,fun q=> ?_,fun q=> ?_,fun q=> ?_⟩
    · by_cases r:aU.val t.word=6
      · rw[hK];exact r
      · rw[hT,if_neg r]at q;exact absurd rfl q
    · rw[q]at a3;simpa using a3
    · by_cases r:aU.val t.word=6
      · rw[hK,decide_eq_true r,Bool.true_and,decide_eq_false_iff_not]at h2;exact h2 q
      · rw[hT,if_neg r]at q;rw[←q,hsm]at a2;cases a2
   refine⟨hb.say hr rfl e3,hc.same rfl fun v hv=> ?_⟩;rw[jE]
   by_cases q:v=(gD now t).veh
   · rw[q]at hv;exact absurd hv (FF (by rw[hK];exact hkv) e3)
   · rw[if_neg q];exact hv
 · exact⟨hb,hc⟩
theorem Kb (hb:nd vm sm now s)(hc:kr vm now s)(hsm:sm.val []=false)(hn:0≤now∧now≤5761439)(t:mh):nd vm sm now (r7 vm sm s now t)∧kr vm now (r7 vm sm s now t):=by
 unfold r7;split
 · rename_i e;unfold Bu at e
   by_cases q:bO (kN now t)=0
   · rw[if_neg (fun c=>c q)]at e;have e2:=bi e _ (List.mem_cons_of_mem _ (List.mem_cons_self ..));have e3:=(eJ (bi e (g9 s (mb now t)) (by simp))).2;obtain⟨o1,o2⟩:=De (x:=mb now t) rfl e3
     have h1:(!vm.has (t.texts.getD 2 [])|| !sm.val (t.texts.getD 3 []))=false:=by
      cases q:(!vm.has (t.texts.getD 2 [])|| !sm.val (t.texts.getD 3 []))with
      |false=>rfl
      |true=>rw[q]at e2;exact absurd e2 (by decide)
     simp only[Bool.or_eq_false_iff,Bool.not_eq_false']at h1
     have hr:KY vm sm (mb now t):=⟨hn,h1.1,h1.2,⟨by show(1:Int)≤2;decide,by show(2:Int)≤8;decide⟩,fun q=>absurd rfl q,fun q=>absurd (show(2:Int)=6 from q) (by decide),fun q=>by
      have:t.texts.getD 3 []= []:=q.symm
      rw[this,hsm]at h1;cases h1.2⟩
     refine⟨?_,hc.put (key:=t.texts.getD 0 []) (g':=kN now t) rfl rfl (fun x hx=> ?_) (fun x hx=> ?_) (fun x hx _=> ?_) (fun k g hne hk y hy q' => ?_) (fun k g hne hk x hx y hy e' => ?_)⟩
     · have h3:=hb.say hr rfl e3;exact⟨h3.inc,h3.low,h3.rt,h3.cur,h3.ok⟩
     · have:x=⟨t.texts.getD 2 [],⟨now,t.texts.getD 3 [],t.nums.getD 1 0,t.nums.getD 2 0⟩,ET⟩:=List.mem_singleton.1 hx;rw[this];exact h1.1
     · have:x=⟨t.texts.getD 2 [],⟨now,t.texts.getD 3 [],t.nums.getD 1 0,t.nums.getD 2 0⟩,ET⟩:=List.mem_singleton.1 hx;rw[this];exact⟨Int.le_refl _,fun c=>absurd rfl c⟩
     · have:x=⟨t.texts.getD 2 [],⟨now,t.texts.getD 3 [],t.nums.getD 1 0,t.nums.getD 2 0⟩,ET⟩:=List.mem_singleton.1 hx;rw[this];show((gW s (mb now t)).sts.val (t.texts.getD 2 [])).k=2;rw[jE,if_pos (show t.texts.getD 2 []=(mb now t).veh from rfl)];exact o2
     · show((gW s (mb now t)).sts.val y.veh).k=2;rw[jE,if_neg (fun r=>hc.free o1 hk hy r q')];exact hc.opn k g hk y hy q'
     · have hxe:x=⟨t.texts.getD 2 [],⟨now,t.texts.getD 3 [],t.nums.getD 1 0,t.nums.getD 2 0⟩,ET⟩:=List.mem_singleton.1 hx;right;have h5:=hc.free o1 hk hy (by rw[←e',hxe];rfl);have h6:=(hc.past k g hk y hy).2 h5;unfold iT;rw[if_neg h5,hxe];exact h6
   · rw[if_pos q]at e;exact absurd e q
 · exact⟨hb,hc⟩
theorem zA {g:cy}(h:bO g=0){x:rW}{i:Nat}(hi:i<g.legs.length)(hx:g.legs.getD i ew=x)(hl:i+1<g.legs.length):x.inn.tm≠-1:=fun q=>by
 have hA:=(kV h).2.2.2.2.2 i hi;unfold oM at hA;rw[hx]at hA;rw[if_pos q,if_pos (show(i:Int)<(g.legs.length:Int) - 1 by omega)]at hA;grind
theorem mW {g:cy}(h:bO g=0)(r:oD){x:rW}(hx:x ∈ e9 g.legs r):(x ∈ g.legs∧x.inn.tm≠-1)∨∃y ∈ g.legs,x={y with inn:=r}∧y=g.legs.getD (g.legs.length - 1) ew:=by
 have hK:=kV h;obtain⟨i,hi,rfl⟩:=bQ (d:=ew) hx;rw[gJ]at hi;unfold e9;rw[show((g.legs.length:Int) - 1).toNat=g.legs.length - 1 by omega,List.getD_eq_getElem?_getD,List.getElem?_set]
 by_cases q:g.legs.length - 1=i
 · right;rw[if_pos q,if_pos (by omega)];exact⟨g.legs.getD (g.legs.length - 1) ew,aq (by omega),rfl,rfl⟩
 · left;rw[if_neg q,←List.getD_eq_getElem?_getD];exact⟨aq hi,zA h hi rfl (by omega)⟩
theorem EK {g:cy}(h:bO g=0)(ho:wV g=true):(g.legs.getD (g.legs.length - 1) ew) ∈ g.legs∧(g.legs.getD (g.legs.length - 1) ew).inn.tm= -1∧(g.legs.getD (g.legs.length - 1) ew).veh=gA g:=by
 have hK:=kV h;unfold wV at ho;rw[show((g.legs.length:Int) - 1).toNat=g.legs.length - 1 by omega]at ho;refine⟨aq (by omega),by simpa using ho,?_⟩;unfold gA;rw[show((g.legs.length:Int) - 1).toNat=g.legs.length - 1 by omega]
theorem Lp (hi:∀k,s.his.has k=true→∃g,s.his.val k=some g∧bO g=0)(hb:nd vm sm now s)(hc:kr vm now s)(hsm:sm.val []=false)(hn:0≤now∧now≤5761439)(t:mh):nd vm sm now (jQ vm sm s now t)∧kr vm now (jQ vm sm s now t):=by
 unfold jQ;split
 · rename_i e;unfold lN at e
   by_cases q:s.his.has (t.texts.getD 0 [])=true
   · rw [if_pos q]at e;obtain⟨g,hg,hE⟩:=hi _ q;have hgd:(s.his.val (t.texts.getD 0 [])).getD fp=g:=by rw[hg];rfl
     rw[hgd]at e ⊢;obtain⟨⟨_,ho,hN⟩,hkn,hcan⟩:=r9 e;obtain⟨l1,l2,l3⟩:=EK hE ho
     have hkey:(bg g now t).key=t.texts.getD 0 []:=by
      have:=hc.key _ g hg;unfold bg;split
      · exact this
      · split
        · exact this
        · exact this
     have hold:vm.has (gA g)=true:=by rw[←l3];exact hc.veh _ g hg _ l1
     have hst2:(s.sts.val (gA g)).k=2:=by rw[←l3];exact hc.opn _ g hg _ l1 l2
     have hno:∀k g',k≠t.texts.getD 0 []→s.his.val k=some g'→∀y ∈ g'.legs,y.inn.tm= -1→y.veh≠gA g:=fun k g' hne hk y hy hq er=>
      (hc.one hn.2 (fun z=>hne z.symm) hg hk l1 hy (by rw[l3,er]) l2).1 hq
     have hclo:∀r:oD,r.tm=now→∀k g',k≠t.texts.getD 0 []→s.his.val k=some g'→∀x ∈ e9 g.legs r,∀y ∈ g'.legs,x.veh=y.veh→iT x≤y.out.tm∨iT y≤x.out.tm:=fun r hr k g' hne hk x hx y hy er=>by
      rcases mW hE r hx with⟨h1,h2⟩|⟨z,h1,h2,h3⟩
      · exact hc.dis _ _ _ _ (fun z=>hne z.symm) hg hk x h1 y hy er
      · right;rw[←h3]at l2;have:=(hc.one hn.2 (fun z=>hne z.symm) hg hk h1 hy (by rw[h2]at er;exact er) l2).2;rw[h2];exact this
     have hpst:∀r:oD,r.tm=now→∀x ∈ e9 g.legs r,x.out.tm≤now∧(x.inn.tm≠-1→x.inn.tm≤now):=fun r hr x hx=>by
      rcases mW hE r hx with⟨h1,h2⟩|⟨z,h1,h2,h3⟩
      · exact hc.past _ g hg x h1
      · rw[h2];exact⟨(hc.past _ g hg z h1).1,fun _=>by show r.tm≤now;omega⟩
     have hvh:∀r:oD,∀x ∈ e9 g.legs r,vm.has x.veh=true:=fun r x hx=>by
      rcases mW hE r hx with⟨h1,h2⟩|⟨z,h1,h2,h3⟩
      · exact hc.veh _ g hg x h1
      · rw[h2];exact hc.veh _ g hg z h1
     have hcl2:∀r:oD,r.tm=now→∀x ∈ e9 g.legs r,x.inn.tm≠-1:=fun r hr x hx=>by
      rcases mW hE r hx with⟨h1,h2⟩|⟨z,h1,h2,h3⟩
      · exact h2
      · rw[h2];show r.tm≠-1;omega
     by_cases w1:t.word= [101,120,116,101,110,100]
     · have hEv:dh g now t= []:=by unfold dh;rw[if_pos w1]
       have hNx:bg g now t=zY g (t.nums.getD 0 0):=by unfold bg;rw[if_pos w1]
       rw[hEv,hNx];rw[hNx]at hkey;refine⟨⟨hb.inc,hb.low,hb.rt,hb.cur,hb.ok⟩,hc.put (key:=t.texts.getD 0 []) (g':=zY g (t.nums.getD 0 0)) rfl hkey (hc.veh _ g hg) (hc.past _ g hg) (hc.opn _ g hg) (fun k g' hne hk=>hc.opn k g' hk) (fun k g' hne hk x hx y hy er=>hc.dis _ _ g g' (fun z=>hne z.symm) hg hk x hx y hy er)⟩
     by_cases w2:t.word= [99,108,111,115,101]
     · have hEv:dh g now t= [⟨now,gA g,t.texts.getD 1 [],3,[]⟩]:=by unfold dh;rw[if_neg w1,if_pos w2]
       have hNx:bg g now t=zV g (f9 now t):=by unfold bg;rw[if_neg w1,if_pos w2]
       have hKn:sm.val (t.texts.getD 1 [])=true:=by unfold fj at hkn;rw[if_neg w1,if_pos w2]at hkn;exact hkn
       rw[hEv]at hcan ⊢;rw[hNx]at hkey ⊢;have c1:=(eJ (hcan 0 (by simp))).2
       have hr:KY vm sm ⟨now,gA g,t.texts.getD 1 [],3,[]⟩:=⟨hn,hold,hKn,⟨by show(1:Int)≤3;decide,by show(3:Int)≤8;decide⟩,fun z=>absurd rfl z,fun z=>absurd (show(3:Int)=6 from z) (by decide),fun z=>by
        have:t.texts.getD 1 []= []:=z.symm
        rw[this,hsm]at hKn;cases hKn⟩
       have h3:=hb.say hr rfl c1;refine⟨⟨h3.inc,h3.low,h3.rt,h3.cur,h3.ok⟩,hc.put (key:=t.texts.getD 0 []) (g':=zV g (f9 now t)) rfl hkey (hvh _) (hpst _ rfl) (fun x hx z=>absurd z (hcl2 _ rfl x hx)) (fun k g' hne hk y hy z=> ?_) (hclo _ rfl)⟩;show((gW s ⟨now,gA g,t.texts.getD 1 [],3,[]⟩).sts.val y.veh).k=2;rw[jE,if_neg (hno k g' hne hk y hy z)];exact hc.opn k g' hk y hy z
     · have hEv:dh g now t= [⟨now,gA g,t.texts.getD 1 [],3,[]⟩,⟨now,t.texts.getD 2 [],t.texts.getD 1 [],2,[]⟩]:=by unfold dh;rw[if_neg w1,if_neg w2]
       have hNx:bg g now t=vA g (f9 now t) (t.texts.getD 2 []) (g7 now t):=by unfold bg;rw[if_neg w1,if_neg w2]
       have hKn:sm.val (t.texts.getD 1 [])=true∧vm.has (t.texts.getD 2 [])=true:=by
        unfold fj at hkn;rw[if_neg w1,if_neg w2,Bool.and_eq_true]at hkn;exact hkn
       rw[hEv]at hcan ⊢;rw[hNx]at hkey hN ⊢;have hne2:=GE (kV hE).2.1 hN;have c1:=(eJ (hcan 0 (by simp))).2;have c2:gG (s.sts.val (t.texts.getD 2 [])) ⟨now,t.texts.getD 2 [],t.texts.getD 1 [],2,[]⟩=true:=(eJ (hcan 1 (by simp))).2;have hst:t.texts.getD 1 []≠ []:=fun z=>by rw[z,hsm]at hKn;cases hKn.1
       have hr1:KY vm sm ⟨now,gA g,t.texts.getD 1 [],3,[]⟩:=⟨hn,hold,hKn.1,⟨by show(1:Int)≤3;decide,by show(3:Int)≤8;decide⟩,fun z=>absurd rfl z,fun z=>absurd (show(3:Int)=6 from z) (by decide),fun z=>hst z.symm⟩;have hr2:KY vm sm ⟨now,t.texts.getD 2 [],t.texts.getD 1 [],2,[]⟩:=⟨hn,hKn.2,hKn.1,⟨by show(1:Int)≤2;decide,by show(2:Int)≤8;decide⟩,fun z=>absurd rfl z,fun z=>absurd (show(2:Int)=6 from z) (by decide),fun z=>hst z.symm⟩
       have c3:gG ((gW s ⟨now,gA g,t.texts.getD 1 [],3,[]⟩).sts.val (t.texts.getD 2 [])) ⟨now,t.texts.getD 2 [],t.texts.getD 1 [],2,[]⟩=true:=by
        rw[jE,if_neg hne2];exact c2
       obtain⟨o1,o2⟩:=De (x:=⟨now,t.texts.getD 2 [],t.texts.getD 1 [],2,[]⟩) rfl c2;have h3:=(hb.say hr1 rfl c1).say hr2 rfl c3
       have hsts:∀v,((gW (gW s ⟨now,gA g,t.texts.getD 1 [],3,[]⟩) ⟨now,t.texts.getD 2 [],t.texts.getD 1 [],2,[]⟩).sts.val v)=if v=t.texts.getD 2 []then lM (s.sts.val (t.texts.getD 2 [])) ⟨now,t.texts.getD 2 [],t.texts.getD 1 [],2,[]⟩else if v=gA g then lM (s.sts.val (gA g)) ⟨now,gA g,t.texts.getD 1 [],3,[]⟩else s.sts.val v:=fun v=>by
        rw[jE,jE,jE,if_neg hne2]
       refine⟨⟨h3.inc,h3.low,h3.rt,h3.cur,h3.ok⟩,hc.put (key:=t.texts.getD 0 []) (g':=vA g (f9 now t) (t.texts.getD 2 []) (g7 now t)) rfl hkey (fun x hx=> ?_) (fun x hx=> ?_) (fun x hx z=> ?_) (fun k g' hne hk y hy z=> ?_) (fun k g' hne hk x hx y hy er=> ?_)⟩
       · rcases List.mem_append.1 (show x ∈ e9 g.legs (f9 now t)++ [⟨t.texts.getD 2 [],g7 now t,ET⟩]from hx)with r|r
         · exact hvh _ x r
         · rw[List.mem_singleton]at r;rw[r];exact hKn.2
       · rcases List.mem_append.1 (show x ∈ e9 g.legs (f9 now t)++ [⟨t.texts.getD 2 [],g7 now t,ET⟩]from hx)with r|r
         · exact hpst _ rfl x r
         · rw[List.mem_singleton]at r;rw[r];exact⟨Int.le_refl _,fun c=>absurd rfl c⟩
       · rcases List.mem_append.1 (show x ∈ e9 g.legs (f9 now t)++ [⟨t.texts.getD 2 [],g7 now t,ET⟩]from hx)with r|r
         · exact absurd z (hcl2 _ rfl x r)
         · rw[List.mem_singleton]at r;rw[r];show((gW (gW s ⟨now,gA g,t.texts.getD 1 [],3,[]⟩) ⟨now,t.texts.getD 2 [],t.texts.getD 1 [],2,[]⟩).sts.val (t.texts.getD 2 [])).k=2;rw[hsts,if_pos rfl];exact o2
       · show((gW (gW s ⟨now,gA g,t.texts.getD 1 [],3,[]⟩) ⟨now,t.texts.getD 2 [],t.texts.getD 1 [],2,[]⟩).sts.val y.veh).k=2;rw[hsts,if_neg (fun r=>hc.free o1 hk hy r z),if_neg (hno k g' hne hk y hy z)];exact hc.opn k g' hk y hy z
       · rcases List.mem_append.1 (show x ∈ e9 g.legs (f9 now t)++ [⟨t.texts.getD 2 [],g7 now t,ET⟩]from hx)with r|r
         · exact hclo _ rfl k g' hne hk x r y hy er
         · rw[List.mem_singleton]at r;right;have h5:=hc.free o1 hk hy (by rw[←er,r]);have h6:=(hc.past k g' hk y hy).2 h5;unfold iT;rw[if_neg h5,r];exact h6
   · rw[if_neg q]at e;exact absurd e (by decide)
 · exact⟨hb,hc⟩
theorem I3 (h:ed){m n:Nat}{t0:Int}(hI:fq m n s)(hb:nd vm sm t0 s)(hc:kr vm t0 s)(hsm:sm.val []=false){x:bx}(ht:t0≤x.tm)(hx:0≤x.tm∧x.tm≤5761439):nd vm sm x.tm (lm h vm sm s x)∧kr vm x.tm (lm h vm sm s x):=by
 have hb:=hb.later ht;have hc:=hc.later ht;unfold lm;split
 · exact⟨hb,hc⟩
 split
 · rename_i q;exact HZ hb hc hsm hx q
 split
 · unfold gf;split
   · exact⟨⟨hb.inc,hb.low,hb.rt,hb.cur,hb.ok⟩,⟨hc.key,hc.veh,hc.past,hc.opn,hc.dis⟩⟩
   · exact⟨hb,hc⟩
 split
 · split
   · exact⟨⟨hb.inc,hb.low,hb.rt,hb.cur,hb.ok⟩,⟨hc.key,hc.veh,hc.past,hc.opn,hc.dis⟩⟩
   · exact⟨hb,hc⟩
 split
 · exact Kb hb hc hsm hx _
 split
 · unfold li;split
   · exact⟨⟨hb.inc,hb.low,hb.rt,hb.cur,hb.ok⟩,⟨hc.key,hc.veh,hc.past,hc.opn,hc.dis⟩⟩
   · exact⟨hb,hc⟩
 exact Lp hI.his hb hc hsm hx _
theorem CW (h:ed)(hsm:sm.val []=false):∀ (l:List bx) {m n:Nat} {t0:Int} {s:dA},fq m n s→nd vm sm t0 s→kr vm t0 s→l.Pairwise (fun a b=>a.tm≤b.tm)→(∀x ∈ l,t0≤x.tm∧0≤x.tm∧x.tm≤5761439)→t0≤5761439→∃t1,t1≤5761439∧nd vm sm t1 (rA h vm sm s l)∧kr vm t1 (rA h vm sm s l)
 | [],m,n,t0,s,hI,hb,hc,_,_,h0=>⟨t0,h0,hb,hc⟩
 | x::l,m,n,t0,s,hI,hb,hc,hp,hx,h0=>by
   obtain⟨a1,a2⟩:=hx x (by simp);obtain⟨b1,b2⟩:=I3 h hI hb hc hsm a1 a2;rw[List.pairwise_cons]at hp;exact CW h hsm l (Fs hI h vm sm x) b1 b2 hp.2 (fun y hy=>⟨hp.1 y hy,(hx y (by simp[hy])).2⟩) a2.2
theorem K6:nd vm sm 0 jU:=⟨List.Pairwise.nil,fun x hx=>(by cases hx),fun x hx=>(by cases hx),fun v=>rfl,fun v=>trivial⟩
theorem Kz:kr vm 0 jU:=⟨fun k g hk=>(by cases hk),fun k g hk=>(by cases hk),fun k g hk=>(by cases hk),fun k g hk=>(by cases hk),fun k1 k2 g1 g2 _ hk=>(by cases hk)⟩
theorem xA (h:ed)(hsm:(nr h.flt.sta).val []=false){l:List bx}(hl:Jp l):∃t1,t1≤5761439∧nd (fx h.flt.veh) (nr h.flt.sta) t1 (aZ h l)∧kr (fx h.flt.veh) t1 (aZ h l):=by
 have hf:∀x ∈ l,0≤x.tm∧x.tm≤5761439:=fun x hx=>by
  have:=hl.frm x hx;unfold ry at this
  by_cases q:0≤x.tm∧x.tm≤5761439
  · exact q
  · rw[if_pos q]at this;exact absurd this (by decide)
 have hp:l.Pairwise fun a b=>a.tm≤b.tm:=hl.ord.imp fun{a b} q=>by
  unfold gg at q;simp only[al]at q
  by_cases z:eU a.tm b.tm=0
  · have:=iQ.1 z;omega
  · rw[if_neg z]at q;have:=Di.1 q;omega
 obtain⟨t1,h1,h2,h3⟩:=CW (vm:=fx h.flt.veh) (sm:=nr h.flt.sta) h hsm l EZ K6 Kz hp (fun x hx=>⟨(hf x hx).1,hf x hx⟩) (by decide)
 have e:aZ h l={rA h (fx h.flt.veh) (nr h.flt.sta) jU l with ref:=(aZ h l).ref}:=by
  unfold aZ my;rw[List.take_length]
 rw[e];exact⟨t1,h1,⟨h2.inc,h2.low,h2.rt,h2.cur,h2.ok⟩,⟨h3.key,h3.veh,h3.past,h3.opn,h3.dis⟩⟩
def dm (m:Mp (Option cy))(k:List UInt8):cy:=(m.val k).getD fp
theorem mY {va:Bool}{key row row':List DV}{k:SV→SV→Prop}(h:row=row')(hk:zD false key fun x=>lS va row' (k x)):zD false key fun x=>lS va row (k x):=by rw[h];exact hk
set_option maxHeartbeats 4000000 in
theorem GZ (m:Mp (Option cy))(hf:∃L:List (List UInt8),L.length≤400∧∀k,m.has k=true→k ∈ L)(hrow:∀k,m.has k=true→dO (m.val k)=gr (dm m k))(hsome:∀k,m.has k=true→m.val k≠none):
 ai Tryz.prog 25 [.mp 1000007] [(1000007,e8 true (dO none) dO m)] (fun y r=>y= .d (dD 5 gr fp ((ca m.has).map (dm m)))∧r= []):=by
 refine af hT (C:= []) Tryz.func25 rfl Tryz.call25 rfl rfl rfl ?_;conv=>whnf
 repeat' (first|(intro clock kb hkb;conv=>whnf)|((first|(refine aa ?_ ?_<;>intro hb<;>try simp only[az]at hb)|omega|refine aA ?_|decide|assumption)<;>conv=>whnf))
 have hkl:kb.length≤400:=by
  obtain⟨L,h1,h2⟩:=hf
  have:=hkb.le (L.map fun x=> [.str x]) (fun key hw hh=>by
   obtain⟨s,rfl⟩:=fa hw
   exact List.mem_map.2 ⟨s,h2 s hh,rfl⟩)
  rw[List.length_map]at this;omega
 refine ah hT (C:= []) (ι:=List Nat×List (List UInt8)) (fun(seen,ks)=>ks.Nodup∧(∀k b',([DV.str k],b') ∈ kb→(b' ∈ seen↔k ∈ ks))∧∀k ∈ ks,m.has k=true)
  (fun(seen,ks)=>aN [(0,.mp 1000007),(3,.buf 3),(9,.ptr 9 0)] [(1000007,.mapB false true [.str] (dO none) (fun K=>m.has (bW K)) (fun K=>dO (m.val (bW K))) clock kb),(3,aM 9 1 nQ [] ks),(9,.iter 1000007 clock seen)])
  (fun(seen,ks)=>(kb.filter fun p=> !seen.contains p.2).length) ([],[]) ⟨by simp,by simp,by simp⟩ ?_ ?_
 · exact(dv.nil 3 3 9 1 (aV nQ [] []) rfl rfl (by decide)).trans (ae [(1000007,1000007),(3,3),(9,9)] rfl rfl ⟨lr,lr,lr,trivial⟩ ⟨rr,rr,rr,trivial⟩)
 rintro⟨seen,ks⟩ ⟨g1,g2,g3⟩;have g1:ks.Nodup:=g1;have g2:∀k b',([DV.str k],b') ∈ kb→(b' ∈ seen↔k ∈ ks):=g2;have g3:∀k ∈ ks,m.has k=true:=g3
 have hks:ks.length≤400:=by
  obtain⟨L,h1,h2⟩:=hf;have:=lU _ _ g1 (fun k hk=>h2 k (g3 k hk));omega
 conv=>whnf
 repeat' (first|((first|(refine aa ?_ ?_<;>intro hb<;>try simp only[az]at hb)|omega|refine aA ?_|decide|assumption)<;>conv=>whnf))
 refine⟨rfl,fun key b' hkb1 hseen=> ?_,fun fc=> ?_⟩
 · obtain⟨s,rfl⟩:=fa (hkb.kw _ hkb1);have kA:m.has s=true:=(hkb.kh _ (hkb.kw _ hkb1)).2 ⟨_,hkb1⟩;have hsn:s ∉ ks:=fun q=>hseen ((g2 s b' hkb1).2 q)
   obtain⟨g,hg⟩:∃g,m.val s=some g:=by cases hm:m.val s with|some g=>exact⟨g,rfl⟩|none=>exact absurd hm (hsome s kA)
   refine mY (row:=dO (m.val s)) (row':=gr g) (congrArg dO hg) ?_;conv=>whnf
   repeat' (first|((first|(refine⟨rfl,_,hkb1,?_⟩;refine mY (row:=dO (m.val s)) (row':=gr g) (congrArg dO hg) ?_)|(refine aa ?_ ?_<;>intro hb<;>try simp only[az]at hb)|omega|refine aA ?_|decide|assumption)<;>conv=>whnf))
   refine⟨(b'::seen,ks++ [s]),⟨?_,fun k b2 hk2=> ?_,fun k hk=> ?_⟩,?_,?_⟩
   · rw[List.nodup_append];exact⟨g1,by simp,fun x hx y hy=>by simp at hy;subst hy;exact fun e=>hsn (by rw[←e];exact hx)⟩
   · have hst:=vv hkb hk2 hkb1;simp only[List.mem_cons,List.mem_append,List.not_mem_nil,or_false];rw[g2 k b2 hk2];have:b2=b'↔k=s:=by rw[show(b2=b')=((([DV.str k],b2):List DV×Nat).2=(([DV.str s],b'):List DV×Nat).2)from rfl,hst];simp
     rw[this];exact or_comm
   · rcases List.mem_append.1 hk with q|q
     · exact g3 k q
     · simp at q;subst q;exact kA
   · show(kb.filter fun p=> !(b'::seen).contains p.2).length<(kb.filter fun p=> !seen.contains p.2).length
     have e:kb.filter (fun p=> !(b'::seen).contains p.2)=(kb.filter fun p=> !seen.contains p.2).filter fun p=> !(p.2==b'):=by
      rw[List.filter_filter];refine List.filter_congr fun p _=> ?_
      simp[List.contains_cons,Bool.and_comm];rfl
     rw[e];refine Nat.lt_of_le_of_ne (List.length_filter_le _ _) (fun q=> ?_);have:=(List.length_filter_eq_length_iff.1 q) ([.str s],b') (List.mem_filter.2 ⟨hkb1,by simpa using hseen⟩);simp at this
   · exact ae [(1000007,1000007),(3,17),(9,9)] rfl rfl ⟨lr,lr,lr,trivial⟩ ⟨rr,aR (x:=s) rfl,rr,trivial⟩
 · have hiff:∀k,k ∈ ks↔m.has k=true:=fun k=>⟨g3 k,fun q=>by
    obtain⟨b',hb'⟩:=(hkb.kh [.str k] (by simp[wk,iD])).1 q
    exact(g2 k b' hb').1 (fc _ hb')⟩
   have hsrt:=pw g1 hiff;have cS:=K1 ks (by omega);have hlS:(sortS ks).length=ks.length:=iM ks;have hmS:∀k ∈ sortS ks,m.has k=true:=fun k hk=>g3 k ((eY ks).mem_iff.1 hk)
   rw[←hsrt];generalize sortS ks=Q at cS hlS hmS;conv=>whnf
   repeat' (first|((first|(refine cj cS [(1000001,3)] ?_;rintro y rout ⟨rfl,rfl⟩;refine⟨rfl,?_⟩)|(refine aa ?_ ?_<;>intro hb<;>try simp only[az]at hb)|omega|refine aA ?_|decide|assumption)<;>conv=>whnf))
   refine ah hT (C:= []) (ι:=Nat) (fun i=>i≤Q.length)
    (fun i=>aN [(0,.mp 1000007),(5,.buf 5),(20,.buf 3),(21,.d (.int .i64 Q.length)),(22,.d (.int .i64 i))] [(1000007,.mapB false true [.str] (dO none) (fun K=>m.has (bW K)) (fun K=>dO (m.val (bW K))) clock kb),(3,aM 9 1 nQ [] Q),(5,aM 60 5 gr fp ((Q.take i).map (dm m)))])
    (fun i=>Q.length - i) 0 (Nat.zero_le _) ?_ ?_
   · exact(dv.nil 5 5 60 5 (aV gr fp []) rfl rfl (by decide)).trans (ae [(1000007,1000007),(3,3),(5,5)] rfl rfl ⟨lr,lr,lr,lr,lr,trivial⟩ ⟨rr,rr,rr,trivial⟩)
   rintro i hi;have hi:i≤Q.length:=hi;have e1:(i:Int).toNat=i:=Int.toNat_natCast i;have hlm:((Q.take i).map (dm m)).length=i:=by rw[List.length_map,List.length_take];omega
   rcases Nat.lt_or_ge i Q.length with hin|hin
   · obtain⟨s,hs⟩:∃s,s=Q.getD (i:Int).toNat []:=⟨_,rfl⟩;have kA:m.has s=true:=by rw[hs,e1];exact hmS _ (aq hin)
     obtain⟨g,hg⟩:∃g,m.val s=some g:=by cases hm:m.val s with|some g=>exact⟨g,rfl⟩|none=>exact absurd hm (hsome s kA)
     conv=>whnf
     repeat' (first|((first|(refine And.intro (rfl:aK _=some (dO none)) ?_;refine dq (row':=gr g) (congrArg dO (show m.val (Q.getD (i:Int).toNat [])=some g by rw[←hs];exact hg)) ?_)|(refine aa ?_ ?_<;>intro hb<;>try simp only[az]at hb)|omega|refine aA ?_|decide|assumption)<;>conv=>whnf))
     all_goals try(exfalso;omega)
     refine⟨i+1,by show i+1≤_;omega,by show Q.length - (i+1)<Q.length - i;omega,ae [(1000007,1000007),(3,3),(5,31)] rfl rfl ⟨lr,lr,lr,lr,am (by omega),trivial⟩ ⟨rr,rr,?_,trivial⟩⟩
     have et:(Q.take (i+1)).map (dm m)=(Q.take i).map (dm m)++ [dm m s]:=by
      rw[List.take_succ_eq_append_getElem hin,List.map_append,hs,e1,List.getD_eq_getElem?_getD,List.getElem?_eq_getElem hin];rfl
     rw[et];exact aR (x:=dm m s) (by unfold dm;rw[hg];rfl)
   · have hiQ:i=Q.length:=by omega
     conv=>whnf
     repeat' (first|((first|(refine aa ?_ ?_<;>intro hb<;>try simp only[az]at hb)|omega|refine aA ?_|decide|assumption)<;>conv=>whnf))
     all_goals try(exfalso;omega)
     refine .freeze _ 5 60 5 _ _ rfl (.weak _ ?_);conv=>whnf
     refine⟨.d (dD 5 gr fp ((Q.take i).map (dm m))),[],lr,⟨by rw[hiQ,List.take_length],rfl⟩,trivial⟩
set_option maxHeartbeats 4000000 in
theorem Kn (h:ed)(l:List bx)(k:uk h l):
 ai Tryz.prog 8 [hou h,.d (ga l)] [(1000009,KX)] (fun y r=>y= .tup [.d (Jc ((ca (aZ h l).his.has).map (dm (aZ h l).his))),.d (.int .i64 0)]∧r= [(1000009,KX)]):=by
 have c1:=N4 h l k;have hZ:fq (2*l.length) l.length (aZ h l):=ol h _ _ l l.length (Nat.le_refl _);generalize aZ h l=Z at c1 hZ ⊢
 have hso:∀k,Z.his.has k=true→Z.his.val k≠none:=fun k q=>by
  obtain⟨g,h1,_⟩:=hZ.his k q;rw[h1];exact fun e=>by cases e
 have c2:=GZ Z.his (kO hZ.fh k.len) (fun k q=>by
  obtain⟨g,h1,_⟩:=hZ.his k q
  unfold dm;rw[h1];rfl) hso
 generalize di iC Z.log=lg at c1 ⊢;generalize fx h.flt.veh=vm at c1 ⊢;generalize nr h.flt.sta=sm at c1 ⊢;generalize (ca Z.his.has).map (dm Z.his)=R at c2 ⊢;refine af hT (C:= []) Tryz.func8 rfl Tryz.call8 rfl rfl rfl ?_;conv=>whnf
 repeat' (first|((first|(refine cj c1 AK ?_;rintro y rout ⟨rfl,rfl⟩;refine⟨rfl,?_⟩)|(refine cj c2 [(1000007,19)] ?_;rintro y rout ⟨rfl,rfl⟩;refine⟨rfl,?_⟩)|(refine aa ?_ ?_<;>intro hb<;>try simp only[az]at hb)|omega|refine aA ?_|decide|assumption)<;>conv=>whnf))
 all_goals try(exfalso;contradiction)
 refine .ret _ ?_;conv=>whnf
 exact⟨[(1000009,KX)],⟨rfl,rfl⟩,rr,trivial⟩
theorem ja {has:List UInt8→Bool}{L:List (List UInt8)}(hL:∀k,has k=true→k ∈ L):(ca has).Nodup∧(ca has).Pairwise (fun a b=>a≤b)∧∀k,k ∈ ca has↔has k=true:=by
 have ex : ∀L:List (List UInt8),∃K:List (List UInt8),K.Nodup∧∀k,k ∈ K↔k ∈ L∧has k=true:=fun L=>by
  induction L with
  |nil=>exact⟨[],List.nodup_nil,fun k=>⟨fun h=>(by cases h),fun h=>(by cases h.1)⟩⟩
  | cons x L ih=>
    obtain⟨K,h1,h2⟩:=ih
    by_cases q:has x=true∧x ∉ K
    · refine⟨x::K,List.nodup_cons.2 ⟨q.2,h1⟩,fun k=> ?_⟩;rw[List.mem_cons,List.mem_cons,h2];constructor
      · rintro(e|e)
        · exact⟨.inl e,by rw[e];exact q.1⟩
        · exact⟨.inr e.1,e.2⟩
      · rintro⟨e|e,f⟩
        · exact .inl e
        · exact .inr ⟨e,f⟩
    · refine⟨K,h1,fun k=> ?_⟩;rw[h2,List.mem_cons];constructor
      · exact fun e=>⟨.inr e.1,e.2⟩
      · rintro⟨e|e,f⟩
        · rw[e]at f ⊢
          by_cases z:x ∈ K
          · exact⟨((h2 x).1 z).1,f⟩
          · exact absurd ⟨f,z⟩ q
        · exact⟨e,f⟩
 obtain⟨K,h1,h2⟩:=ex L
 have h3:∀k,k ∈ K↔has k=true:=fun k=>by
  rw[h2];exact⟨fun h=>h.2,fun h=>⟨hL k h,h⟩⟩
 rw[←pw h1 h3];exact⟨(eY K).nodup_iff.2 h1,ls K,fun k=>by rw[(eY K).mem_iff];exact h3 k⟩
theorem Hq {l:List xC}{k:List UInt8}(h:(nr l).val k=true):∃s ∈ l,s.key=k:=by
 have key:∀ (l:List xC) (m:Mp Bool),(l.foldl (fun m s=>m.put s.key true) m).val k=true→m.val k=true∨∃s ∈ l,s.key=k:=by
  intro l
  induction l with
  |nil=>intro m h;exact .inl h
  | cons v l ih=>
    intro m h;rcases ih _ h with q|⟨w,q1,q2⟩
    · have q:(if k=v.key then true else m.val k)=true:=q
      by_cases e:k=v.key
      · exact .inr ⟨v,by simp,e.symm⟩
      · rw[if_neg e]at q;exact .inl q
    · exact .inr ⟨w,by simp[q1],q2⟩
 rcases key l _ h with q|q
 · cases q
 · exact q
theorem FO {f:rT}(h:nG f=0):mj f.sta=0:=by
 unfold nG at h
 by_cases q:ni f=0
 · exact bi q _ (List.mem_cons_self ..)
 · rw[if_pos q]at h;exact absurd h q
theorem xZ {h:ed}(hE:um h=0):nG h.flt=0:=bi hE _ (List.mem_cons_self ..)
theorem wZ {h:ed}(hE:um h=0):(nr h.flt.sta).val []=false:=by
 cases q:(nr h.flt.sta).val []with
 |false=>rfl
 | true=>
   obtain⟨s,h1,h2⟩:=Hq q;obtain⟨j,hj,rfl⟩:=bQ (d:=wx) h1;have hS:=FO (xZ hE);unfold mj at hS
   by_cases c:50<h.flt.sta.length
   · rw[if_pos c]at hS;exact absurd hS (by decide)
   rw[if_neg c]at hS;have:=cg hS j hj;unfold Ac at this;rw[h2,if_pos (by decide)]at this;exact absurd this (by decide)
noncomputable def eN (h:ed)(l:List bx):List cy:=(ca (aZ h l).his.has).map (dm (aZ h l).his)
theorem pB {h:ed}{l:List bx}(k:uk h l):PW (eN h l)∧Jm (eN h l)=0∧(eN h l).length≤l.length∧(∀g ∈ eN h l,g.legs.length≤2^20):=by
 obtain⟨t1,h1,hb,hc⟩:=xA h (wZ k.hE) (tF.1 k.lE);have hI:fq (2*l.length) l.length (aZ h l):=ol h _ _ l l.length (Nat.le_refl _);obtain⟨L,hL1,hL2⟩:=hI.fh;obtain⟨n1,n2,n3⟩:=ja hL2
 have hlen:(eN h l).length≤l.length:=by
  unfold eN;rw[List.length_map];have:=qy hL2;omega
 have hget:∀i,i<(eN h l).length→∃g,(eN h l).getD i fp=g∧(aZ h l).his.val ((ca (aZ h l).his.has).getD i [])=some g∧bO g=0:=fun i hi=>by
  have hi':i<(ca (aZ h l).his.has).length:=by unfold eN at hi;rwa [List.length_map]at hi
  obtain⟨g,e1,e2⟩:=hI.his _ ((n3 _).1 (aq (x:= []) hi'));refine⟨g,?_,e1,e2⟩;unfold eN;rw[List.getD_eq_getElem?_getD,List.getElem?_map,List.getElem?_eq_getElem hi'];show dm (aZ h l).his (ca (aZ h l).his.has)[i]=g;rw[List.getD_eq_getElem?_getD,List.getElem?_eq_getElem hi']at e1;unfold dm;rw[show(aZ h l).his.val (ca (aZ h l).his.has)[i]=some g from e1];rfl
 have hE:∀g ∈ eN h l,bO g=0:=fun g hg=>by
  obtain⟨i,hi,rfl⟩:=bQ (d:=fp) hg;obtain⟨g',e1,_,e3⟩:=hget i hi;rw[e1];exact e3
 refine⟨⟨by have:=k.len;omega,fun g hg=>(kV (hE g hg)).1.k⟩,?_,hlen,fun g hg=>by have:=(kV (hE g hg)).2.2.1;omega⟩
 · unfold Jm;rw[if_neg (by have:=k.len;omega)];refine aC fun i hi=> ?_
   unfold Fo;obtain⟨g,e1,e2,e3⟩:=hget i hi;rw[e1,e3,if_neg (fun c=>c rfl)]
   by_cases q:0<i
   · obtain⟨g2,f1,f2,f3⟩:=hget (i - 1) (by omega);rw[f1,hc.key _ _ e2,hc.key _ _ f2];have hi':i<(ca (aZ h l).his.has).length:=by unfold eN at hi;rwa [List.length_map]at hi
     have a1:((ca (aZ h l).his.has).getD (i - 1) [])≤((ca (aZ h l).his.has).getD i []):=(mH []).1 n2 (i - 1) i (by omega) hi';have a2:((ca (aZ h l).his.has).getD (i - 1) [])≠((ca (aZ h l).his.has).getD i []):=(mH []).1 n1 (i - 1) i (by omega) hi'
     have a3:cV ((ca (aZ h l).his.has).getD i []) ((ca (aZ h l).his.has).getD (i - 1) [])=false:=by
      unfold cV;rw[Go.Proofs.bytesLess_eq,decide_eq_false (fun c=>(List.not_lt.2 a1) c),Bool.false_or];exact beq_eq_false_iff_ne.2 fun e=>a2 e.symm
     rw[a3,if_neg (fun c=>by cases c.2)]
   · rw[if_neg (fun c=>q c.1)]
abbrev re (h:ed)(vm:Mp (List UInt8))(R P:aY):List (Nat×aY):=
 [(1000001,.cells 101 (uN h++ [.mp 1000002,.any,.any,.any,.any,.any,.mp 1000008,.mp 1000010,.any])),(1000002,e8 false [.str []] pH vm),(1000008,R),(1000010,P)]
abbrev AG (m:Mp (Option cy)):aY:=e8 true (dO none) dO m
abbrev pC (m:Mp Int):aY:=e8 false [.int .i64 0] Er m
def ix (g:cy):Bool:=decide ((nJ g).inn.tm= -1)
theorem CN (g:cy):decide ((g.legs.getD ((g.legs.length:Int) - 1).toNat ew).inn.tm= -1)=ix g:=by
 have e:((g.legs.length:Int) - 1).toNat=g.legs.length - 1:=by omega
 rw[e];rfl
theorem QU (g:cy)(h1:1≤g.legs.length)(hl:g.legs.length≤2^40):ai Tryz.prog 53 [.agg ((gr g).map .d)] [] (fun y r=>y= .d (.bool (ix g))∧r= []):=by
 rw[←CN];refine af hT (C:= []) Tryz.func53 rfl Tryz.call53 rfl rfl rfl ?_;conv=>whnf
 repeat' (first|((first|(refine aa ?_ ?_<;>intro hb<;>try simp only[az]at hb)|omega|refine aA ?_|decide|assumption)<;>conv=>whnf))
 refine .ret _ ?_;conv=>whnf
 refine⟨[],⟨?_,rfl⟩,trivial⟩;conv=>lhs;whnf
theorem Q8 (g:cy)(h1:1≤g.legs.length)(hl:g.legs.length≤2^40):ai Tryz.prog 10 [.agg ((gr g).map .d)] [] (fun y r=>y= .d (.bool (ix g))∧r= []):=by
 rw[←CN];refine af hT (C:= []) Tryz.func10 rfl Tryz.call10 rfl rfl rfl ?_;conv=>whnf
 repeat' (first|((first|(refine aa ?_ ?_<;>intro hb<;>try simp only[az]at hb)|omega|refine aA ?_|decide|assumption)<;>conv=>whnf))
 all_goals try(exfalso;omega)
 refine .ret _ ?_;conv=>whnf
 refine⟨[],⟨?_,rfl⟩,trivial⟩;conv=>lhs;whnf
set_option maxHeartbeats 4000000 in
theorem QP (h:ed)(vm:Mp (List UInt8))(his:Mp (Option cy))(P:aY)(k:List UInt8)(g:cy)(hg:his.val k=some g)(hh:his.has k=true)(h1:1≤g.legs.length)(hl:g.legs.length≤2^40):
 ai Tryz.prog 26 [.ptr 1000001 0,.d (.str k)] (re h vm (AG his) P) (fun y r=>y= .tup [.agg ((gr g).map .d),.d (.int .i64 (if ix g=true then 11 else 0))]∧r=re h vm (AG his) P):=by
 have c91:=QU g h1 hl
 cases hb0:ix g with
 | true=>
   rw[hb0]at c91;rw[if_pos rfl];refine af hT (C:= []) Tryz.func26 rfl Tryz.call26 rfl rfl rfl ?_;conv=>whnf
   repeat' (first|(refine And.intro (rfl:aK _=some (dO none)) ?_;refine dq (row':=gr g) (congrArg dO hg) ?_;conv=>whnf)|(refine ac (c91) rfl rfl ?_;rotate_right;conv=>whnf)|((first|(refine aa ?_ ?_<;>intro hb<;>try simp only[az]at hb)|omega|refine aA ?_|decide|assumption)<;>conv=>whnf))
   all_goals try(have z:=hb;rw[show his.has (bW [.str k])=his.has k from rfl,hh]at z;cases z)
   refine .ret _ ?_;conv=>whnf
   exact⟨re h vm (AG his) P,⟨rfl,rfl⟩,rr,rr,rr,rr,trivial⟩
 | false=>
   rw[hb0]at c91;rw[if_neg (by simp)];refine af hT (C:= []) Tryz.func26 rfl Tryz.call26 rfl rfl rfl ?_;conv=>whnf
   repeat' (first|(refine And.intro (rfl:aK _=some (dO none)) ?_;refine dq (row':=gr g) (congrArg dO hg) ?_;conv=>whnf)|(refine ac (c91) rfl rfl ?_;rotate_right;conv=>whnf)|((first|(refine aa ?_ ?_<;>intro hb<;>try simp only[az]at hb)|omega|refine aA ?_|decide|assumption)<;>conv=>whnf))
   all_goals try(have z:=hb;rw[show his.has (bW [.str k])=his.has k from rfl,hh]at z;cases z)
   refine .ret _ ?_;conv=>whnf
   exact⟨re h vm (AG his) P,⟨rfl,rfl⟩,rr,rr,rr,rr,trivial⟩
def H1 (d:uc)(g:cy)(q:List gR×Int):List gR:=if(sr d g (if q.2=0 then q.1 else [])).2=0 then(sr d g (if q.2=0 then q.1 else [])).1 else []
def jW (h:ed)(vm:Mp (List UInt8))(g:cy):List gR:=H1 h.dea g (wM h.tar (vm.val (g.legs.getD 0 ew).veh) g.frm g.to (g.legs.getD 0 ew).out.st (nJ g).inn.st)
def m8:OL:= [(0,[]),(1,[]),(2,[]),(3,[]),(4,rg 4),(5,rg 4),(6,rg 6),(7,rg 6),(8,rg 6),(9,rg 6),(10,rg 4),(11,rg 4),(12,rg 12),(13,rg 13),(14,[4,5,6,7,8,9,10,11]),(15,[])]
def m0:OL:= [(0,[]),(1,[]),(2,[]),(3,[]),(4,[]),(5,rg 5),(6,rg 5),(7,rg 5),(8,rg 5),(9,rg 9),(10,rg 9),(11,rg 5),(12,rg 12),(13,rg 12),(14,rg 14),(15,rg 14),(16,rg 14),(17,rg 17),(18,rg 17),(19,rg 17),(20,rg 5),(21,[]),(22,[]),(23,[]),(24,[23]),(25,[24]),(26,[])]
def m6:OL:= [(0,[]),(1,[]),(2,[]),(3,[]),(4,[]),(5,rg 5),(6,rg 6),(7,[]),(8,[]),(9,[]),(10,[9]),(11,[10]),(12,[])]
theorem DF {l:List lD}{L:List gR}(hk:∀x ∈ l,x.key.length≤40):∀k,k≤l.length→∀x ∈ gc l L k,x.key.length≤40:=by
 intro k
 induction k with
 |zero=>intro _ x hx;simp[gc]at hx
 | succ k ih=>
   intro h x hx;rw[gc]at hx;rcases List.mem_append.1 hx with q|q
   · exact ih (by omega) x q
   · rw[List.mem_singleton]at q;subst q;exact hk _ (aq (x:=cm) (show k<l.length by omega))
theorem It {t:rB}(hE:gh t.tax=0):∀x ∈ t.tax,x.key.length≤40:=by
 unfold gh at hE;split at hE
 · cases hE
 · intro x hx;obtain⟨j,hj,rfl⟩:=bQ (d:=cm) hx;have:=cg hE j hj;unfold ma at this
   dsimp only at this
   refine zF ?_
   cases q:aG (t.tax.getD j cm).key with
   |true=>rfl
   |false=>rw[q]at this;simp at this
theorem Gw (k:Int):(HQ k).length≤40:=by
 unfold HQ;repeat' split
 all_goals decide
theorem BP {t:rB}{c:List UInt8}{a b:Int}{A B:List UInt8}(h:Gv t c a b A B):(wM t c a b A B).1.length≤131∧∀x ∈ (wM t c a b A B).1,x.key.length≤40:=by
 have hE:=(nD h.tE).2.2.2.2;have h10:=wI hE;unfold wM
 by_cases q:((EO (fo t.rat c a b)).getD 0 eP).fine=true
 · rw [if_neg (by rw[q];simp)];split
   · simp
   split
   · simp
   · obtain⟨p1,p2⟩:=Dd h q
     have hq:(qo t (w8 t c a b) A B).length≤121∧∀x ∈ qo t (w8 t c a b) A B,x.key.length≤40:=by
      unfold qo;refine⟨?_,fun x hx=> ?_⟩
      · rw[List.length_append,List.length_map];split<;>simp<;>omega
      · rcases List.mem_append.1 hx with z|z
        · obtain⟨y,hy,rfl⟩:=List.mem_map.1 z;exact Gw _
        · split at z
          · cases z
          · rw[List.mem_singleton]at z;subst z;show([111,110,101,119,97,121]:List UInt8).length≤40;decide
     refine⟨by show List.length (_++_)≤131;rw[List.length_append,mg];omega,fun x hx=> ?_⟩;rcases List.mem_append.1 hx with z|z
     · exact hq.2 x z
     · exact DF (It hE) _ (Nat.le_refl _) x z
 · rw[if_pos (by simpa using q)];simp
structure Ej (h:ed)(vm:Mp (List UInt8))(g:cy):Prop where
 dR:H8 h.dea
 dE:rF h.dea=0
 gK:JG g
 gE:bO g=0
 cl:(nJ g).inn.tm≠-1
 ask:Gv h.tar (vm.val (g.legs.getD 0 ew).veh) g.frm g.to (g.legs.getD 0 ew).out.st (nJ g).inn.st
set_option maxHeartbeats 8000000 in
theorem PR (h:ed)(vm:Mp (List UInt8))(R P:aY)(g:cy)(hp:Ej h vm g):
 ai Tryz.prog 28 [.ptr 1000001 0,.agg ((gr g).map .d)] (re h vm R P) (fun y r=>y= .d (jK (jW h vm g))∧r=re h vm R P):=by
 have hP:=Dp hp.gE hp.cl;have n1:=hP.n1;have n2:=hP.n2;have c12:=Ro h.tar _ _ _ _ _ hp.ask;have hq:=BP hp.ask;have hl:=AL g;unfold jW H1;rw[←hl]at c12 hq ⊢;generalize wM h.tar (vm.val (g.legs.getD 0 ew).veh) g.frm g.to (g.legs.getD 0 ew).out.st (g.legs.getD ((g.legs.length:Int) - 1).toNat ew).inn.st=v at c12 hq ⊢;obtain⟨L,e⟩:=v
 by_cases q:e=0
 · subst q;rw[show ou (L,0)= .tup [.d (jK L),.d (.int .i64 0)]from rfl]at c12;rw[show(if(L,(0:Int)).2=0 then(L,(0:Int)).1 else [])=L from rfl];have c15:=QC h.dea hp.dR hp.dE g hp.gK hp.gE hp.cl L ⟨by have:L.length≤131:=hq.1;omega,fun x hx=>Nat.le_trans (hq.2 x hx) (by decide)⟩;generalize sr h.dea g L=w at c15 ⊢;obtain⟨M,f⟩:=w
   by_cases r:f=0
   · subst r;rw[show ou (M,0)= .tup [.d (jK M),.d (.int .i64 0)]from rfl]at c15;rw[show(if(M,(0:Int)).2=0 then(M,(0:Int)).1 else [])=M from rfl];refine af hT (C:= []) Tryz.func28 rfl Tryz.call28 rfl rfl rfl ?_;conv=>whnf
     repeat' (first|(refine ac (c12) rfl rfl ?_;rotate_right;conv=>whnf)|(refine ac (c15) rfl rfl ?_;rotate_right;conv=>whnf)|((first|(refine aa ?_ ?_<;>intro hb<;>try simp only[az]at hb)|refine aw hT 1 m8 ?_|refine aw hT 2 m0 ?_|refine aw hT 5 m6 ?_|omega|refine aA ?_|decide|assumption)<;>conv=>whnf))
     all_goals try(exfalso;contradiction)
     refine .ret _ ?_;conv=>whnf
     exact⟨re h vm R P,⟨rfl,rfl⟩,rr,rr,rr,rr,trivial⟩
   · rw[show ou (M,f)= .tup [.d .nilsl,.d (.int .i64 f)]from if_pos r]at c15;rw[show(if(M,f).2=0 then(M,f).1 else [])= []from if_neg r];refine af hT (C:= []) Tryz.func28 rfl Tryz.call28 rfl rfl rfl ?_;conv=>whnf
     repeat' (first|(refine ac (c12) rfl rfl ?_;rotate_right;conv=>whnf)|(refine ac (c15) rfl rfl ?_;rotate_right;conv=>whnf)|((first|(refine aa ?_ ?_<;>intro hb<;>try simp only[az]at hb)|refine aw hT 1 m8 ?_|refine aw hT 2 m0 ?_|refine aw hT 5 m6 ?_|omega|refine aA ?_|decide|assumption)<;>conv=>whnf))
     all_goals try(exfalso;contradiction)
     refine .weak _ ?_;conv=>whnf
     exact⟨.d (jK []),re h vm R P,aW,⟨rfl,rfl⟩,rr,rr,rr,rr,trivial⟩
 · rw[show ou (L,e)= .tup [.d .nilsl,.d (.int .i64 e)]from if_pos q]at c12;rw[show(if(L,e).2=0 then(L,e).1 else [])= []from if_neg q];have c15:=QC h.dea hp.dR hp.dE g hp.gK hp.gE hp.cl [] ⟨by simp,by simp⟩;generalize sr h.dea g []=w at c15 ⊢;obtain⟨M,f⟩:=w
   by_cases r:f=0
   · subst r;rw[show ou (M,0)= .tup [.d (jK M),.d (.int .i64 0)]from rfl]at c15;rw[show(if(M,(0:Int)).2=0 then(M,(0:Int)).1 else [])=M from rfl];refine af hT (C:= []) Tryz.func28 rfl Tryz.call28 rfl rfl rfl ?_;conv=>whnf
     repeat' (first|(refine ac (c12) rfl rfl ?_;rotate_right;conv=>whnf)|((first|refine ao c15 ⟨lr,lr,aW,trivial⟩ rfl ?_|(refine aa ?_ ?_<;>intro hb<;>try simp only[az]at hb)|refine aw hT 1 m8 ?_|refine aw hT 2 m0 ?_|refine aw hT 5 m6 ?_|omega|refine aA ?_|decide|assumption)<;>conv=>whnf))
     all_goals try(exfalso;contradiction)
     refine .ret _ ?_;conv=>whnf
     exact⟨re h vm R P,⟨rfl,rfl⟩,rr,rr,rr,rr,trivial⟩
   · rw[show ou (M,f)= .tup [.d .nilsl,.d (.int .i64 f)]from if_pos r]at c15;rw[show(if(M,f).2=0 then(M,f).1 else [])= []from if_neg r];refine af hT (C:= []) Tryz.func28 rfl Tryz.call28 rfl rfl rfl ?_;conv=>whnf
     repeat' (first|(refine ac (c12) rfl rfl ?_;rotate_right;conv=>whnf)|((first|refine ao c15 ⟨lr,lr,aW,trivial⟩ rfl ?_|(refine aa ?_ ?_<;>intro hb<;>try simp only[az]at hb)|refine aw hT 1 m8 ?_|refine aw hT 2 m0 ?_|refine aw hT 5 m6 ?_|omega|refine aA ?_|decide|assumption)<;>conv=>whnf))
     all_goals try(exfalso;contradiction)
     refine .weak _ ?_;conv=>whnf
     exact⟨.d (jK []),re h vm R P,aW,⟨rfl,rfl⟩,rr,rr,rr,rr,trivial⟩
set_option maxHeartbeats 8000000 in
theorem q9 (h:ed)(l:List bx)(k:uk h l)(g:cy)(hh:(aZ h l).his.has g.key=true)(hg:(aZ h l).his.val g.key=some g)(h1:1≤g.legs.length)(hl:g.legs.length≤2^40)(hb:ix g=false→Ej h (fx h.flt.veh) g):
 ai Tryz.prog 11 [hou h,.d (ga l),.d (.str g.key)] [(1000009,KX)] (fun y r=>y=(if ix g=true then .tup [.d .nilsl,.d (.int .i64 11)]else .tup [.d (jK (jW h (fx h.flt.veh) g)),.d (.int .i64 0)])∧r= [(1000009,KX)]):=by
 have c1:=N4 h l k;have c2:=QP h (fx h.flt.veh) (aZ h l).his (pC (aZ h l).paid) g.key g hg hh h1 hl;have c3:=fun z=>PR h (fx h.flt.veh) (AG (aZ h l).his) (pC (aZ h l).paid) g (hb z)
 generalize aZ h l=Z at c1 c2 c3;generalize di iC Z.log=lg at c1;generalize fx h.flt.veh=vm at c1 c2 c3 ⊢;generalize nr h.flt.sta=sm at c1;generalize jW h vm g=W at c3 ⊢
 cases ho:ix g with
 | true=>
   rw[ho,if_pos rfl]at c2;rw[if_pos rfl];refine af hT (C:= []) Tryz.func11 rfl Tryz.call11 rfl rfl rfl ?_;conv=>whnf
   repeat' (first|((first|(refine cj c1 AK ?_;rintro y rout ⟨rfl,rfl⟩;refine⟨rfl,?_⟩)|(refine fz.of c2 Br rfl ⟨lr,lr,trivial⟩ ⟨ft ⟨lr,lr,lr,lr,lr,lr,lr,lr,lr,lr,lr,lr,lr,lr,lr,lr,lr,aI _,aI _,aI _,aI _,aI _,lr,lr,aI _,trivial⟩,rr,rr,rr,trivial⟩ rfl rfl ?_;rintro y rout ⟨rfl,rfl⟩;refine⟨rfl,?_⟩)|(refine aa ?_ ?_<;>intro hb<;>try simp only[az]at hb)|omega|refine aA ?_|decide|assumption)<;>conv=>whnf))
   all_goals try(exfalso;contradiction)
   refine .ret _ ?_;conv=>whnf
   exact⟨_,⟨rfl,rfl⟩,rr,trivial⟩
 | false=>
   have c3:=c3 ho;rw[ho,if_neg (by simp)]at c2;rw[if_neg (by simp)];refine af hT (C:= []) Tryz.func11 rfl Tryz.call11 rfl rfl rfl ?_;conv=>whnf
   repeat' (first|((first|(refine cj c1 AK ?_;rintro y rout ⟨rfl,rfl⟩;refine⟨rfl,?_⟩)|(refine fz.of c2 Br rfl ⟨lr,lr,trivial⟩ ⟨ft ⟨lr,lr,lr,lr,lr,lr,lr,lr,lr,lr,lr,lr,lr,lr,lr,lr,lr,aI _,aI _,aI _,aI _,aI _,lr,lr,aI _,trivial⟩,rr,rr,rr,trivial⟩ rfl rfl ?_;rintro y rout ⟨rfl,rfl⟩;refine⟨rfl,?_⟩)|(refine cj c3 Br ?_;rintro y rout ⟨rfl,rfl⟩;refine⟨rfl,?_⟩)|(refine aa ?_ ?_<;>intro hb<;>try simp only[az]at hb)|omega|refine aA ?_|decide|assumption)<;>conv=>whnf))
   all_goals try(exfalso;contradiction)
   refine .ret _ ?_;conv=>whnf
   exact⟨_,⟨rfl,rfl⟩,rr,trivial⟩
structure lP where
 acc:List UInt8
 amt:Int
deriving DecidableEq
def fw:lP:=⟨[],0⟩
def gv (p:lP):List DV:= [.str p.acc,.int .i64 p.amt]
def ef:List UInt8:= [100,117,101]
def dr:List UInt8:= [99,97,115,104]
def G5:List (List UInt8):= [[],[114,101,110,116],[99,111,100,101],[101,120,116,114,97],[102,101,101],[116,97,120],[111,116,104,101,114]]
abbrev EQ:=List UInt8×Int
def cf (l:List Int):Int:=l.foldr (· + ·) 0
theorem l8 (a b:List Int):cf (a++b)=cf a+cf b:=by
 unfold cf
 induction a with
 |nil=>simp
 |cons x a ih=>simp only[List.cons_append,List.foldr_cons,ih];omega
theorem vc {a b:List Int}(h:a.Perm b):cf a=cf b:=by
 unfold cf
 induction h with
 |nil=>rfl
 |cons x _ ih=>simp only[List.foldr_cons,ih]
 |swap x y l=>simp only[List.foldr_cons];omega
 |trans _ _ h1 h2=>rw[h1,h2]
theorem Cw {l:List Int}{c:Int}(hc:0≤c)(h:∀x ∈ l,-c≤x∧x≤c): -(c*l.length)≤cf l∧cf l≤c*l.length:=by
 induction l with
 |nil=>simp[cf]
 | cons x l ih=>
   have h1:=ih fun y hy=>h y (List.mem_cons_of_mem _ hy)
   have h2:=h x (by simp);have e:c*((x::l).length:Int)=c*l.length+c:=by rw[List.length_cons,Int.natCast_add,Int.mul_add];simp
   have e2:cf (x::l)=x+cf l:=rfl;rw[e,e2];omega
def cZ (o:List EQ):Mp Int:=⟨fun s=>o.any fun p=>decide (p.1=s),fun s=>cf ((o.filter fun p=>decide (p.1=s)).map (·.2))⟩
def Du (m:Mp Int)(k:List UInt8)(c:Int):Mp Int:=m.put k (m.val k+c)
theorem oI (o:List EQ)(k:List UInt8)(c:Int):cZ (o++ [(k,c)])=Du (cZ o) k c:=by
 unfold cZ Du Mp.put;simp only[Mp.mk.injEq];refine⟨funext fun s=> ?_,funext fun s=> ?_⟩
 · rw[List.any_append,Bool.or_comm]
   by_cases h:s=k
   · subst h;simp
   · have h':¬k=s:=fun e=>h e.symm
     simp[h,h']
 · rw[List.filter_append,List.map_append,l8]
   by_cases h:s=k
   · subst h;simp[cf]
   · have h':¬k=s:=fun e=>h e.symm
     simp[h,h',cf]
theorem Ee {a b:List EQ}(h:a.Perm b):cZ a=cZ b:=by
 unfold cZ;simp only[Mp.mk.injEq];refine⟨funext fun s=> ?_,funext fun s=>vc ((h.filter _).map _)⟩;rw[Bool.eq_iff_iff,List.any_eq_true,List.any_eq_true];exact⟨fun⟨x,h1,h2⟩=>⟨x,h.mem_iff.1 h1,h2⟩,fun⟨x,h1,h2⟩=>⟨x,h.mem_iff.2 h1,h2⟩⟩
theorem Cr {o:List EQ}{c:Int}(hc:0≤c)(h:∀p ∈ o,-c≤p.2∧p.2≤c)(s:List UInt8): -(c*o.length)≤(cZ o).val s∧(cZ o).val s≤c*o.length:=by
 have h1:=Cw (l:=(o.filter fun p=>decide (p.1=s)).map (·.2)) hc (fun x hx=>by
  obtain⟨p,hp,rfl⟩:=List.mem_map.1 hx
  exact h p (List.mem_filter.1 hp).1)
 have h2:((o.filter fun p=>decide (p.1=s)).map (·.2)).length≤o.length:=by rw[List.length_map];exact List.length_filter_le _ _
 have h3:=Int.mul_le_mul_of_nonneg_left (Int.ofNat_le.2 h2) hc;show -(c*o.length)≤cf _∧cf _≤c*o.length;omega
def zX (x:gR):List EQ:= [(ef,x.cents),(G5.getD x.kind.toNat [],-x.cents)]
def pM (h:ed)(vm:Mp (List UInt8))(pd:Mp Int)(k:List UInt8)(g:cy):List EQ:=
 [(dr,pd.val k),(ef,-pd.val k)]++if ix g=true then []else(jW h vm g).flatMap zX
def eo (h:ed)(vm:Mp (List UInt8))(his:Mp (Option cy))(pd:Mp Int)(ks:List (List UInt8)):List EQ:=ks.flatMap fun k=>pM h vm pd k (dm his k)
def nE (m:Mp Int)(ks:List (List UInt8)):List lP:=(ks.filter fun k=> !decide (m.val k=0)).map fun k=>⟨k,m.val k⟩
def sH (a b:lP):Int:=dM a.acc b.acc
theorem LB {d:uc}{g:cy}{L:List gR}(h:(sr d g L).2=0):eH (sr d g L).1=0:=by
 unfold sr at h ⊢
 by_cases h1:eH L=0
 · rw[if_neg (fun z=>z h1)]at h ⊢
   by_cases h2:eH (DX d g L)=0
   · rw[if_neg (fun z=>z h2)];exact h2
   · rw[if_pos h2]at h;exact absurd h h2
 · rw[if_pos h1]at h;exact absurd h h1
theorem KF (d:uc)(g:cy)(q:List gR×Int):eH (H1 d g q)=0:=by
 unfold H1;generalize (if q.2=0 then q.1 else [])=L
 by_cases r:(sr d g L).2=0
 · rw[if_pos r];exact LB r
 · rw[if_neg r];rfl
theorem Ec (h:ed)(vm:Mp (List UInt8))(m:Mp (Option cy))(pd:Mp Int)(ks:List (List UInt8))(s:List UInt8):eo h vm m pd (ks++ [s])=eo h vm m pd ks++pM h vm pd s (dm m s):=by
 unfold eo;rw[List.flatMap_append];simp
theorem sM (h:ed)(vm:Mp (List UInt8))(g:cy):eH (jW h vm g)=0:=KF _ _ _
theorem Dh (W:List gR):(W.flatMap zX).length=2*W.length:=by
 induction W with
 |nil=>rfl
 |cons x W ih=>rw[List.flatMap_cons,List.length_append,ih,List.length_cons];simp[zX];omega
theorem GC {W:List gR}(h:eH W=0):∀p ∈ W.flatMap zX,-1000000000≤p.2∧p.2≤1000000000:=fun p hp=>by
 obtain⟨x,hx,hp⟩:=List.mem_flatMap.1 hp;have:=((gP.1 h).2 x hx).2.2;simp only[zX,List.mem_cons,List.not_mem_nil,or_false]at hp;rcases hp with rfl|rfl
 · exact this
 · show -1000000000≤-x.cents∧-x.cents≤1000000000;omega
theorem HU {h:ed}{vm:Mp (List UInt8)}{pd:Mp Int}{s:List UInt8}{g:cy}(hp:∀k,0≤pd.val k∧pd.val k≤10^9):(pM h vm pd s g).length≤2002∧∀p ∈ pM h vm pd s g,-1000000000≤p.2∧p.2≤1000000000:=by
 have hq:=hp s;have e:=sM h vm g;have hl:=(gP.1 e).1;unfold pM;refine⟨?_,fun p hm=> ?_⟩
 · rw[List.length_append];split
   · simp
   · rw[Dh];simp only[List.length_cons,List.length_nil];omega
 · rcases List.mem_append.1 hm with q|q
   · simp only[List.mem_cons,List.not_mem_nil,or_false]at q;rcases q with rfl|rfl
     · show -1000000000≤pd.val s∧pd.val s≤1000000000;omega
     · show -1000000000≤-pd.val s∧-pd.val s≤1000000000;omega
   · split at q
     · cases q
     · exact GC e p q
theorem lf {h:ed}{vm:Mp (List UInt8)}{m:Mp (Option cy)}{pd:Mp Int}(hp:∀k,0≤pd.val k∧pd.val k≤10^9)(ks:List (List UInt8)):(eo h vm m pd ks).length≤2002*ks.length∧∀p ∈ eo h vm m pd ks,-1000000000≤p.2∧p.2≤1000000000:=by
 induction ks with
 |nil=>exact⟨by simp[eo],fun p hp=>by simp[eo]at hp⟩
 | cons k ks ih=>
   have h1:=HU (h:=h) (vm:=vm) (s:=k) (g:=dm m k) hp;have e:eo h vm m pd (k::ks)=pM h vm pd k (dm m k)++eo h vm m pd ks:=rfl;rw[e,List.length_append,List.length_cons];exact⟨by have:=h1.1;have:=ih.1;omega,fun p hm=>(List.mem_append.1 hm).elim (h1.2 p) (ih.2 p)⟩
theorem xr {o:List EQ}(h:∀p ∈ o,-1000000000≤p.2∧p.2≤1000000000)(hl:o.length≤2000000)(s:List UInt8): -2^60≤(cZ o).val s∧(cZ o).val s≤2^60:=by
 have:=Cr (by decide) h s;omega
end Go.Proofs.YtodakofifpaljaaGreatDoor
