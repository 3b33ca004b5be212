/- TopQuoteAgain is proved: for every input the law returns true, and its argument reads afterwards as it read before. Conditions: those of the given row alone. -/
import Derived.Test.YtkokpbpililcdaaGreatDoorTqConSep
import Derived.Test.YtkokpbpililcdaaGreatDoorTqEngTwo
import Derived.Sort.OwnSorted
import Derived.Shelf.Sort.Plain
import Derived.Shelf.Slices.In.SortNone
import Derived.Test.YtkokpbpililcdaaGreatDoorTqConOne
import Derived.Test.YtkokpbpililcdaaGreatDoorTqConQui
import Derived.Test.YtkokpbpililcdaaGreatDoorTqConTri
import Derived.Test.YtkokpbpililcdaaGreatDoorTqConQua
import Derived.Test.YtkokpbpililcdaaGreatDoorTqConTwo
set_option linter.unusedVariables false
set_option linter.unusedSimpArgs false
set_option maxRecDepth 20000
namespace Go.Proofs.YtkokpbpililcdaaGreatDoor
open Go Go.Eng
def oJStE247_4:OL:= [(0,[]),(1,[0]),(2,[]),(3,[]),(4,[]),(5,[4]),(6,[4,5]),(7,[4]),(8,[4]),(9,[4,5,6,7,8]),(10,[4,5,6,7,8,9]),(11,[4,5,6,7,8,9]),(12,[4,5,6,7,8]),(13,[4,5,6,7,8]),(14,[]),(15,[]),(16,[])]
def oJStE247_6:OL:= [(0,[]),(1,[0]),(2,[0,1]),(3,[0,1,2]),(4,[0,1,2]),(5,rg 5),(6,rg 6),(7,rg 6),(8,rg 5),(9,rg 5),(10,rg 10),(11,rg 11),(12,rg 10),(13,rg 10),(14,[2,3,4]),(15,[2,3,4]),(16,[]),(17,[])]
def oJStE154_1:OL:= [(0,[]),(1,[]),(2,[0,1]),(3,[0,1]),(5,rg 4),(6,rg 4),(7,[0,1,2,3,5,6]),(8,[0,1,2,3,5,6]),(4,[5,6,7,8]),(9,[]),(10,[]),(11,[]),(12,[])]
theorem wInsREv (g:FuncId)(cmp:Evn→Evn→Int)(P l S c0:List Evn)(a b0:Nat)(ha:P.length=a)(hbb:a+l.length=b0)(hc0:c0=P++(l++S))(hl:c0.length≤2^20)
 (hcmp:∀p q,p ∈ l→q ∈ l→FSpec Tryz.prog g [.agg ((evF p).map .d),.agg ((evF q).map .d)] [] (fun y r=>y= .d (.int .i64 (cmp p q))∧r= [])):
 FSpec Tryz.prog 247 [.buf 1000001,.d (.int .i64 a),.d (.int .i64 b0),.fn g []] [(1000001,seqB 242 5 evF ev0 c0)]
  (fun y r=>y= .tup []∧r= [(1000001,seqB 242 5 evF ev0 (P++(isort cmp l++S)))]):=by
 have hl0:=hl;rw[hc0]at hl0;simp only[List.length_append]at hl0;refine spec_of hT (C:= []) Tryz.func247 rfl Tryz.call247 rfl rfl rfl ?_;conv=>whnf
 repeat' (first|((first|(refine br_intro ?_ ?_<;>intro hb<;>try simp only[brs]at hb)|refine rAx hT 4 oJStE247_4 ?_|refine rAx hT 6 oJStE247_6 ?_|omega|refine sAx ?_|decide|assumption)<;>conv=>whnf))
 refine LoopX.rule hT (C:= []) (ι:=Nat×Nat×List Evn) (fun(k,i,c)=>k=a+i∧1≤i∧(i≤l.length∨i=1)∧c=P++((isortR cmp (l.take i)).reverse++(l.drop i++S)))
  (fun(k,_,c)=>mkSt [(0,.buf 1000001),(1,.d (.int .i64 a)),(2,.d (.int .i64 b0)),(3,.fn g []),(8,.d (.int .i64 k))] [(1000001,seqB 242 5 evF ev0 c)])
  (fun(_,i,_)=>l.length - i) (a+1,1,c0) ⟨rfl,by simp,by simp,by rw[hc0];cases l with|nil=>rfl|cons x l=>simp[isortR,insR]⟩ (by exact eAx [(1000001,1000001)]) ?_
 rintro⟨k,i,c⟩ ⟨p0,p1,p2,p3⟩;try dsimp only at p0 p1 p2 p3
 rcases Nat.lt_or_ge i l.length with hi|hi
 · have hx:l[i] ∈ l:=List.getElem_mem hi;have hmem:∀y ∈ isortR cmp (l.take i),y ∈ l:=fun y hy=>List.mem_of_mem_take ((isortR_mem cmp _).1 hy)
   have hlr:(isortR cmp (l.take i)).length=i:=by rw[isortR_length,List.length_take];omega
   have hc:c=P++((isortR cmp (l.take i)).reverse++(l[i]::([]++(l.drop (i+1)++S)))):=by rw[p3,List.drop_eq_getElem_cons hi];rfl
   have hlc:c.length=P.length+l.length+S.length:=by rw[hc];simp only[List.length_append,List.length_cons,List.length_reverse,List.length_drop,List.length_nil,hlr];omega
   conv=>whnf
   repeat' (first|((first|(refine br_intro ?_ ?_<;>intro hb<;>try simp only[brs]at hb)|refine rAx hT 4 oJStE247_4 ?_|refine rAx hT 6 oJStE247_6 ?_|omega|refine sAx ?_|decide|assumption)<;>conv=>whnf))
   all_goals try(exfalso;omega)
   refine LoopX.rule hT (C:= []) (ι:=Nat×List Evn×List Evn×List Evn) (fun(j,A,B,b)=>j=a+A.length∧insR cmp l[i] (isortR cmp (l.take i))=B.reverse++insR cmp l[i] A∧A.length+B.length=i∧(∀y ∈ A,y ∈ l)∧b=P++(A.reverse++(l[i]::(B++(l.drop (i+1)++S)))))
    (fun(j,_,_,b)=>mkSt [(0,.buf 1000001),(1,.d (.int .i64 a)),(2,.d (.int .i64 b0)),(3,.fn g []),(8,.d (.int .i64 k)),(9,.d (.int .i64 j))] [(1000001,seqB 242 5 evF ev0 b)])
    (fun(_,A,_,_)=>A.length) (k,isortR cmp (l.take i),[],c) ⟨by omega,by simp,by simpa using hlr,hmem,hc⟩ (by exact eAx [(1000001,1000001)]) ?_
   rintro⟨j,A,B,b⟩ ⟨q0,q1,q2,q3,hbd⟩;try dsimp only at q0 q1 q2 q3 hbd
   have hlen:b.length=P.length+l.length+S.length:=by rw[hbd];simp only[List.length_append,List.length_cons,List.length_reverse,List.length_drop];omega
   have hfin:A= []∨(∃y A',A=y::A'∧0≤cmp l[i] y)→b=P++((isortR cmp (l.take (i+1))).reverse++(l.drop (i+1)++S)):=fun h=>by
    have e:isortR cmp (l.take (i+1))=B.reverse++l[i]::A:=by
     rw[take_snoc hi,isortR_snoc,q1];rcases h with rfl|⟨y,A',rfl,h⟩
     · rfl
     · rw[insR,if_neg (by omega)]
    rw[e,hbd];simp
   cases A with
   | nil=>
     simp only[List.length_nil]at q0 q2;conv=>whnf
     repeat' (first|((first|(refine br_intro ?_ ?_<;>intro hb<;>try simp only[brs]at hb)|refine rAx hT 4 oJStE247_4 ?_|refine rAx hT 6 oJStE247_6 ?_|omega|refine sAx ?_|decide|assumption)<;>conv=>whnf))
     all_goals try(exfalso;omega)
     exact⟨(k+1,i+1,b),⟨by show k+1=a+(i+1);omega,by show 1≤i+1;omega,.inl hi,hfin (.inl rfl)⟩,by show l.length - (i+1)<l.length - i;omega,(by exact eAx [(1000001,1000001)])⟩
   | cons y A=>
     simp only[List.length_cons]at q0 q2;obtain⟨g1,g2,g3⟩:=swp_at (P++A.reverse) [] (B++(l.drop (i+1)++S)) y l[i] ev0;have hc':b=(P++A.reverse)++y::([]++l[i]::(B++(l.drop (i+1)++S))):=by rw[hbd];simp
     have i1:((j:Int) - 1).toNat=(P++A.reverse).length:=by simp only[List.length_append,List.length_reverse];omega
     have i2:(j:Int).toNat=(P++A.reverse).length+1+([]:List Evn).length:=by simp only[List.length_append,List.length_nil,List.length_reverse];omega
     rw[←hc',←i1]at g1;rw[←hc',←i2]at g2;rw[←hc',←i2,←i1]at g3;conv=>whnf
     repeat' (first|((first|(refine CallX.of (hcmp l[i] y hx (q3 y (by simp))) [] rfl ⟨by rw[←g2];exact lr,by rw[←g1];exact lr,trivial⟩ trivial rfl rfl ?_;rintro x rout ⟨rfl,rfl⟩;refine⟨rfl,?_⟩)|(refine br_intro ?_ ?_<;>intro hb<;>try simp only[brs]at hb)|refine rAx hT 4 oJStE247_4 ?_|refine rAx hT 6 oJStE247_6 ?_|omega|refine sAx ?_|decide|assumption)<;>conv=>whnf))
     all_goals try(exfalso;omega)
     · refine⟨(j - 1,A,y::B,(b.set (j:Int).toNat (b.getD ((j:Int) - 1).toNat ev0)).set ((j:Int) - 1).toNat (b.getD (j:Int).toNat ev0)),⟨by omega,by rw[q1];simp[insR,hb],by simp only[List.length_cons];omega,fun z hz=>q3 z (by simp[hz]),?_⟩,by show A.length<(y::A).length;simp,Entails.mk' [(1000001,1000001)] rfl rfl ⟨lr,lr,lr,lr,lr,SV.le_int (by omega),trivial⟩ ⟨Res.le_put2 (fun _=>rfl) (fun _=>rfl),trivial⟩⟩;rw[List.set_comm _ _ (by omega),g1,g2,g3];simp
     · exact⟨(k+1,i+1,b),⟨by show k+1=a+(i+1);omega,by show 1≤i+1;omega,.inl hi,hfin (.inr ⟨y,A,rfl,by omega⟩)⟩,by show l.length - (i+1)<l.length - i;omega,(by exact eAx [(1000001,1000001)])⟩
 · conv=>whnf
   repeat' (first|((first|(refine br_intro ?_ ?_<;>intro hb<;>try simp only[brs]at hb)|refine rAx hT 4 oJStE247_4 ?_|refine rAx hT 6 oJStE247_6 ?_|omega|refine sAx ?_|decide|assumption)<;>conv=>whnf))
   all_goals try(exfalso;omega)
   refine .ret _ ?_;conv=>whnf
   have e1:c=P++(isort cmp l++S):=by
    rw[p3,List.take_of_length_le (by omega),List.drop_eq_nil_iff.2 (by omega),List.nil_append];rfl
   subst e1;exact⟨_,⟨rfl,rfl⟩,rr,trivial⟩
set_option maxHeartbeats 4000000 in
theorem wStabEv (g:FuncId)(f:Evn→Evn→Int)(hf:TOrd f)(l:List Evn)(hl:l.length≤2^19)
 (hcmp:∀p q,p ∈ l→q ∈ l→FSpec Tryz.prog g [.agg ((evF p).map .d),.agg ((evF q).map .d)] [] (fun y r=>y= .d (.int .i64 (f p q))∧r= [])):
 FSpec Tryz.prog 199 [.buf 1000001,.d (.int .i64 l.length),.fn g []] [(1000001,seqB 242 5 evF ev0 l)]
  (fun y r=>y= .tup []∧∃Z,Z.Perm l∧Srt f Z∧r= [(1000001,seqB 242 5 evF ev0 Z)]):=by
 obtain⟨n,hn⟩:∃n,n=l.length:=⟨_,rfl⟩;rw[←hn]at hl ⊢;refine spec_of hT (C:= []) Tryz.func199 rfl Tryz.call199 rfl rfl rfl ?_;conv=>whnf
 repeat' (first|((first|(refine br_intro ?_ ?_<;>intro hb<;>try simp only[brs]at hb)|omega|refine sAx ?_|decide|assumption)<;>conv=>whnf))
 refine LoopX.rule hT (C:= []) (ι:=Nat×List (List Evn)×List Evn×List Evn) (fun(a,D,R,c)=>(∀x ∈ D,x.length=20∧Srt f x)∧D.flatten.length=a∧c=D.flatten++R∧c.Perm l)
  (fun(a,_,_,c)=>mkSt [(0,.buf 1000001),(1,.d (.int .i64 n)),(2,.fn g []),(6,.d (.int .i64 20)),(7,.d (.int .i64 a)),(8,.d (.int .i64 ((a+20:Nat):Int)))] [(1000001,seqB 242 5 evF ev0 c)])
  (fun(_,_,R,_)=>R.length) (0,[],l,l) ⟨by simp,rfl,rfl,List.Perm.refl _⟩ (by exact eAx [(1000001,1000001)]) ?_
 rintro⟨a,D,R,c⟩ ⟨p1,p2,p3,p4⟩;try dsimp only at p1 p2 p3 p4
 have q1:a+R.length=n:=by rw[hn,←p4.length_eq,p3,List.length_append,p2]
 rcases Nat.lt_or_ge R.length 20 with q|q
 · have hcI:=wInsREv g f D.flatten R [] c a n p2 q1 (by rw[p3,List.append_nil]) (by rw[p4.length_eq];omega) (fun x y hx hy=>hcmp x y (p4.mem_iff.1 (by rw[p3];simp[hx])) (p4.mem_iff.1 (by rw[p3];simp[hy])));rw[List.append_nil]at hcI
   have p4':(D.flatten++isort f R).Perm l:=by
    refine List.Perm.trans ?_ p4;rw[p3];exact List.Perm.append_left _ (isort_perm f R)
   have hR:(isort f R).length=R.length:=(isort_perm f R).length_eq;have sR:=isort_srt hf R;generalize isort f R=T at hcI p4' hR sR;conv=>whnf
   repeat' (first|((first|(refine oAx hcI [(1000001,1000001)] ?_;rintro y rout ⟨rfl,rfl⟩;refine⟨rfl,?_⟩)|(refine br_intro ?_ ?_<;>intro hb<;>try simp only[brs]at hb)|omega|refine sAx ?_|decide|assumption)<;>conv=>whnf))
   all_goals try(exfalso;omega)
   refine LoopX.rule hT (C:= []) (ι:=Nat×List (List Evn)×List Evn×List Evn) (fun(bs,D,t,c)=>20≤bs∧bs≤2*n+20∧(∀x ∈ D,x.length=bs∧Srt f x)∧t.length<bs∧Srt f t∧c=D.flatten++t∧c.Perm l)
    (fun(bs,_,_,c)=>mkSt [(0,.buf 1000001),(1,.d (.int .i64 n)),(2,.fn g []),(6,.d (.int .i64 bs))] [(1000001,seqB 242 5 evF ev0 c)])
    (fun(bs,_,_,_)=>2*n - bs) (20,D,T,D.flatten++T) ⟨Nat.le_refl _,by show 20≤2*n+20;omega,p1,by show T.length<20;omega,sR,rfl,p4'⟩ (by exact eAx [(1000001,1000001)]) ?_
   clear hcI p4' sR hR p1 p2 p3 p4 q1 q;rintro⟨bs,D,t,c⟩ ⟨p1,p2,p3,p4,p5,p6,p7⟩;try dsimp only at p1 p2 p3 p4 p5 p6 p7
   have q1:D.flatten.length+t.length=n:=by rw[hn,←p7.length_eq,p6,List.length_append]
   rcases Nat.lt_or_ge bs n with q|q
   · conv=>whnf
     repeat' (first|((first|(refine br_intro ?_ ?_<;>intro hb<;>try simp only[brs]at hb)|omega|refine sAx ?_|decide|assumption)<;>conv=>whnf))
     all_goals try(exfalso;omega)
     refine LoopX.rule hT (C:= []) (ι:=Nat×List (List Evn)×List (List Evn)×List Evn) (fun(a,E,D,c)=>(∀x ∈ E,x.length=2*bs∧Srt f x)∧(∀x ∈ D,x.length=bs∧Srt f x)∧E.flatten.length=a∧c=E.flatten++(D.flatten++t)∧c.Perm l)
      (fun(a,_,_,c)=>mkSt [(0,.buf 1000001),(1,.d (.int .i64 n)),(2,.fn g []),(6,.d (.int .i64 bs)),(7,.d (.int .i64 a)),(8,.d (.int .i64 ((a+2*bs:Nat):Int)))] [(1000001,seqB 242 5 evF ev0 c)])
      (fun(_,_,D,_)=>D.length) (0,[],D,c) ⟨by simp,p3,rfl,p6,p7⟩ (by exact eAx [(1000001,1000001)]) ?_
     clear p3 p6 p7 q1;rintro⟨a,E,D,c⟩ ⟨r1,r2,r3,r4,r5⟩;try dsimp only at r1 r2 r3 r4 r5
     have q1:a+D.flatten.length+t.length=n:=by rw[hn,←r5.length_eq,r4,List.length_append,List.length_append];omega
     have hlc:c.length≤2^20:=by rw[r5.length_eq];omega
     have hcm:∀p q,p ∈ c→q ∈ c→FSpec Tryz.prog g [.agg ((evF p).map .d),.agg ((evF q).map .d)] [] (fun y r=>y= .d (.int .i64 (f p q))∧r= []):=fun p q hp hq=>hcmp p q (r5.mem_iff.1 hp) (r5.mem_iff.1 hq)
     match D,r2,r4,q1 with
     | [],r2,r4,q1=>
       simp only[List.flatten_nil,List.length_nil,List.nil_append]at q1 r4;conv=>whnf
       repeat' (first|((first|(refine br_intro ?_ ?_<;>intro hb<;>try simp only[brs]at hb)|omega|refine sAx ?_|decide|assumption)<;>conv=>whnf))
       all_goals try(exfalso;omega)
       exact⟨(2*bs,E,t,c),⟨by show 20≤2*bs;omega,by show 2*bs≤2*n+20;omega,r1,by show t.length<2*bs;omega,p5,r4,r5⟩,by show 2*n - 2*bs<2*n - bs;omega,(by exact eAx [(1000001,1000001)])⟩
     | [c1],r2,r4,q1=>
       simp only[List.flatten_cons,List.flatten_nil,List.append_nil]at q1 r4;have k1:=r2 c1 (by simp)
       by_cases ht:t.length=0
       · have et:t= []:=List.length_eq_zero_iff.1 ht;conv=>whnf
         repeat' (first|((first|(refine br_intro ?_ ?_<;>intro hb<;>try simp only[brs]at hb)|omega|refine sAx ?_|decide|assumption)<;>conv=>whnf))
         all_goals try(exfalso;omega)
         exact⟨(2*bs,E,c1,c),⟨by show 20≤2*bs;omega,by show 2*bs≤2*n+20;omega,r1,by show c1.length<2*bs;omega,k1.2,by show c=_;rw[r4,et,List.append_nil],r5⟩,by show 2*n - 2*bs<2*n - bs;omega,(by exact eAx [(1000001,1000001)])⟩
       · have hcS:=wSymEv g f hf (c1.length+t.length) E.flatten c1 t [] c a (a+bs) n (Nat.le_refl _) r3 (by omega) (by omega) (by rw[r4];simp) (by omega) (by omega) k1.2 p5 hlc (fun p q hp hq=>hcm p q (by rw[r4];exact List.mem_append_right _ hp) (by rw[r4];exact List.mem_append_right _ hq));conv=>whnf
         repeat' (first|((first|(refine CallX.of hcS [(1000001,1000001)] rfl ⟨lr,lr,SV.le_int (by omega),lr,lr,trivial⟩ ⟨rr,trivial⟩ rfl rfl ?_;rintro y rout ⟨rfl,Z,z1,z2,rfl⟩;refine⟨rfl,?_⟩)|(refine br_intro ?_ ?_<;>intro hb<;>try simp only[brs]at hb)|omega|refine sAx ?_|decide|assumption)<;>conv=>whnf))
         all_goals try(exfalso;omega)
         have hz:=z1.length_eq;rw[List.length_append]at hz;rw[List.append_nil]at*
         exact⟨(2*bs,E,Z,E.flatten++Z),⟨by show 20≤2*bs;omega,by show 2*bs≤2*n+20;omega,r1,by show Z.length<2*bs;omega,z2,rfl,(List.Perm.append_left _ z1).trans (by rw[←r4];exact r5)⟩,by show 2*n - 2*bs<2*n - bs;omega,(by exact eAx [(1000001,1000001)])⟩
     | c1::c2::D,r2,r4,q1=>
       simp only[List.flatten_cons,List.length_append]at q1;have k1:=r2 c1 (by simp);have k2:=r2 c2 (by simp);have r4':c=E.flatten++(c1++(c2++(D.flatten++t))):=by rw[r4];simp
       have hcS:=wSymEv g f hf (c1.length+c2.length) E.flatten c1 c2 (D.flatten++t) c a (a+bs) (a+2*bs) (Nat.le_refl _) r3 (by omega) (by omega) r4' (by omega) (by omega) k1.2 k2.2 hlc (fun p q hp hq=>hcm p q (by rw[r4'];rcases List.mem_append.1 hp with u|u<;>simp[u]) (by rw[r4'];rcases List.mem_append.1 hq with u|u<;>simp[u]));conv=>whnf
       repeat' (first|((first|(refine CallX.of hcS [(1000001,1000001)] rfl ⟨lr,lr,SV.le_int (by omega),lr,lr,trivial⟩ ⟨rr,trivial⟩ rfl rfl ?_;rintro y rout ⟨rfl,Z,z1,z2,rfl⟩;refine⟨rfl,?_⟩)|(refine br_intro ?_ ?_<;>intro hb<;>try simp only[brs]at hb)|omega|refine sAx ?_|decide|assumption)<;>conv=>whnf))
       all_goals try(exfalso;omega)
       have hz:=z1.length_eq;rw[List.length_append]at hz;refine⟨(a+2*bs,E++ [Z],D,E.flatten++(Z++(D.flatten++t))),⟨fun x hx=> ?_,fun x hx=>r2 x (by simp[hx]),by simp only[List.flatten_append,List.flatten_cons,List.flatten_nil,List.append_nil,List.length_append];omega,by simp,?_⟩,by show D.length<(c1::c2::D).length;simp;omega,(by exact eAx [(1000001,1000001)])⟩
       · rcases List.mem_append.1 hx with u|u
         · exact r1 x u
         · rw[List.mem_singleton]at u;subst u;exact⟨by omega,z2⟩
       · refine List.Perm.trans ?_ r5;rw[r4',←List.append_assoc c1];exact List.Perm.append_left _ (z1.append_right _)
   · conv=>whnf
     repeat' (first|((first|(refine br_intro ?_ ?_<;>intro hb<;>try simp only[brs]at hb)|omega|refine sAx ?_|decide|assumption)<;>conv=>whnf))
     all_goals try(exfalso;omega)
     refine .ret _ ?_;conv=>whnf
     refine⟨_,⟨rfl,c,p7,?_,rfl⟩,rr,trivial⟩
     match D,p3,p6,q1 with
     | [],p3,p6,q1=>rw[p6];exact p5
     | c1::D,p3,p6,q1=>
       have k1:=p3 c1 (by simp);simp only[List.flatten_cons,List.length_append]at q1;have h1:D.flatten= []:=List.length_eq_zero_iff.1 (by omega);have h2:t= []:=List.length_eq_zero_iff.1 (by omega);rw[p6,List.flatten_cons,h1,h2,List.append_nil,List.append_nil];exact k1.2
 · have hT0:(R.take 20).length=20:=by rw[List.length_take];omega
   have hR:R.take 20++R.drop 20=R:=List.take_append_drop 20 R;have hD:(R.drop 20).length=R.length - 20:=List.length_drop ..;generalize R.take 20=R1 at hT0 hR;generalize R.drop 20=R2 at hR hD;subst hR;have hcI:=wInsREv g f D.flatten R1 R2 c a (a+20) p2 (by omega) p3 (by rw[p4.length_eq];omega) (fun x y hx hy=>hcmp x y (p4.mem_iff.1 (by rw[p3];simp[hx])) (p4.mem_iff.1 (by rw[p3];simp[hy])));conv=>whnf
   repeat' (first|((first|(refine oAx hcI [(1000001,1000001)] ?_;rintro y rout ⟨rfl,rfl⟩;refine⟨rfl,?_⟩)|(refine br_intro ?_ ?_<;>intro hb<;>try simp only[brs]at hb)|omega|refine sAx ?_|decide|assumption)<;>conv=>whnf))
   all_goals try(exfalso;omega)
   refine⟨(a+20,D++ [isort f R1],R2,D.flatten++(isort f R1++R2)),⟨fun x hx=> ?_,by simp only[List.flatten_append,List.flatten_cons,List.flatten_nil,List.append_nil,List.length_append,(isort_perm f R1).length_eq];omega,by simp,?_⟩,by show R2.length<(R1++R2).length;rw[List.length_append];omega,(by exact eAx [(1000001,1000001)])⟩
   · rcases List.mem_append.1 hx with u|u
     · exact p1 x u
     · rw[List.mem_singleton]at u;subst u;exact⟨by rw[(isort_perm f R1).length_eq];exact hT0,isort_srt hf R1⟩
   · refine List.Perm.trans ?_ p4;rw[p3];exact List.Perm.append_left _ ((isort_perm f R1).append_right _)
theorem wSStEv (g:FuncId)(f:Evn→Evn→Int)(hf:TOrd f)(l:List Evn)(hl:l.length≤2^19)(hz:∀a ∈ l,∀b ∈ l,f a b=0→a=b)
 (hcmp:∀p q,p ∈ l→q ∈ l→FSpec Tryz.prog g [.agg ((evF p).map .d),.agg ((evF q).map .d)] [] (fun y r=>y= .d (.int .i64 (f p q))∧r= [])):
 FSpec Tryz.prog 153 [.buf 1000001,.fn g []] [(1000001,seqB 242 5 evF ev0 l)]
  (fun y r=>y= .tup []∧r= [(1000001,seqB 242 5 evF ev0 (isort f l))]):=by
 refine spec_of hT (C:= []) Tryz.func153 rfl Tryz.call153 rfl rfl rfl ?_;conv=>whnf
 repeat' (first|((first|(refine oAx (wStabEv g f hf l hl hcmp) [(1000001,1000001)] ?_;rintro y rout ⟨rfl,Z,z1,z2,rfl⟩;refine⟨rfl,?_⟩)|(refine br_intro ?_ ?_<;>intro hb<;>try simp only[brs]at hb)|omega|refine sAx ?_|decide|assumption)<;>conv=>whnf))
 refine .ret _ ?_;conv=>whnf
 rw[sort_one hf hz z1 z2];exact⟨_,⟨rfl,rfl⟩,rr,trivial⟩
def evCmp (a b:Evn):Int:=firstE [cmpI a.tm b.tm,cmpS a.veh b.veh]
theorem evCmp_seq:evCmp=seq2 (fun a b=>cmpI a.tm b.tm) (fun a b=>cmpS a.veh b.veh):=by
 funext a b
 unfold evCmp seq2;simp only[firstE];grind
theorem evCmp_ord:TOrd evCmp:=by
 rw[evCmp_seq];exact(TOrd.int (fun a:Evn=>a.tm)).seq (TOrd.str (fun a:Evn=>a.veh))
theorem evCmp_zero {a b:Evn}(h:evCmp a b=0):a.tm=b.tm∧a.veh=b.veh:=by
 unfold evCmp at h;exact⟨cmpI_zero.1 (firstE_mem h _ (by simp)),cmpS_zero.1 (firstE_mem h _ (by simp))⟩
theorem wEvCmp (a b:Evn):FSpec Tryz.prog 154 [.agg ((evF a).map .d),.agg ((evF b).map .d)] [] (fun x r=>x= .d (.int .i64 (evCmp a b))∧r= []):=by
 refine spec_of hT (C:= []) Tryz.func154 rfl Tryz.call154 rfl rfl rfl ?_;conv=>whnf
 repeat' (first|(refine CallX.exact (s184 _ _) rfl rfl ?_;rotate_right;conv=>whnf)|(refine CallX.exact (s183 _ _) rfl rfl ?_;rotate_right;conv=>whnf)|((first|refine CallX.pure (s182 [_,_] (by simp)) ⟨SV.le_lit (by rfl) (by rfl),trivial⟩ rfl ?_|(refine br_intro ?_ ?_<;>intro hb<;>try simp only[brs]at hb)|refine rAx hT 1 oJStE154_1 ?_|omega|refine sAx ?_|decide|assumption)<;>conv=>whnf))
 refine .ret _ ?_;conv=>whnf
 refine⟨[],⟨?_,rfl⟩,trivial⟩;conv=>lhs;whnf
 rfl
theorem apt_zero {l:List Evn}(h:l.Pairwise fun a b=>¬ (a.veh=b.veh∧a.tm=b.tm)):∀a ∈ l,∀b ∈ l,evCmp a b=0→a=b:=fun a ha b hb e=>by
 obtain⟨e1,e2⟩:=evCmp_zero e;obtain⟨i,hi,rfl⟩:=List.getElem_of_mem ha;obtain⟨j,hj,rfl⟩:=List.getElem_of_mem hb;rcases Nat.lt_trichotomy i j with q|q|q
 · exact absurd ⟨e2,e1⟩ (List.pairwise_iff_getElem.1 h i j hi hj q)
 · subst q;rfl
 · exact absurd ⟨e2.symm,e1.symm⟩ (List.pairwise_iff_getElem.1 h j i hj hi q)
theorem wSortLog (l:List Evn)(hl:l.length≤2^19)(h:l.Pairwise fun a b=>¬ (a.veh=b.veh∧a.tm=b.tm)):FSpec Tryz.prog 153 [.buf 1000001,.fn 154 []] [(1000001,evB l)] (fun y r=>y= .tup []∧r= [(1000001,evB (isort evCmp l))]):=
 wSStEv 154 evCmp evCmp_ord l hl (apt_zero h) fun p q _ _=>wEvCmp p q
def oJOfP89_5:OL:= [(0,[]),(1,[]),(2,[]),(3,[]),(4,rg 4),(5,rg 4),(6,rg 6),(7,rg 6),(8,[])]
def oJOfP89_10:OL:= [(0,[]),(1,[]),(2,[]),(3,[]),(4,rg 4),(5,rg 4),(6,[])]
abbrev offF (h:Hou)(vm:Mp (List UInt8))(sm:Mp Bool)(s:Off)(lg:List Evn):List (Nat×Res):=
 [(22,.cells 120 (houC h++ [.mp 14,.mp 15,.mp 16,.buf 50,.mp 17,.mp 18,.mp 19,.mp 20,.buf 51])),(14,mpS false [.str []] sF1 vm),(15,mpS false [.bool false] bF1 sm),(16,mpS true (ssF ss0) ssF s.sts),(50,evB lg),(17,atM s.ats),(18,mpS true (bkF bk0) bkF s.bks),(19,mpS true (hiO none) hiO s.his),(20,mpS false [.int .i64 0] iF1 s.paid),(51,rfB s.ref)]
set_option maxHeartbeats 16000000 in
theorem wOffice (h:Hou)(hco:clsOk h.flt.cls)(hv:h.flt.veh.length≤2^20)(hs:h.flt.sta.length≤2^20)(l:List Ent)(hl:l.length≤400)(hx:∀x ∈ l,x.words.length≤2^20):
 FSpec Tryz.prog 89 [.agg (houC h),.d (ents l)] [(1000009,KX)] (fun y r=>y= .ptr 22 0∧r=(1000009,KX)::offF h (vmO h.flt.veh) (smO h.flt.sta) (offZ h l) (isort evCmp (offZ h l).log)):=by
 have cF:=fun s hs x hx=>wFollow h hco (vmO h.flt.veh) (smO h.flt.sta) s hs x hx
 obtain⟨V,hV⟩:∃V,V=h.flt.veh:=⟨_,rfl⟩;obtain⟨W,hW⟩:∃W,W=h.flt.sta:=⟨_,rfl⟩;have hZ:=fun i=>offN_I h (vmO V) (smO W) l i
 have hG:=fun i hi e=>offN_good h (vmO V) (smO W) (l:=l) (i:=i) hi e
 have hB:=fun i hi e=>offN_bad h (vmO V) (smO W) (l:=l) (i:=i) hi e
 have hE:offZ h l=offN h (vmO V) (smO W) l l.length:=by rw[hV,hW];rfl
 rw[hE];obtain⟨kA1,nA1,gA1,kA3,nA3,gA3,kB0,nB0,gB0,kB1,nB1,gB1,kB2,nB2,gB2,kB3,nB3,gB3,kB4,nB4,gB4,C0,C1,C2,C3,C4,C5,C6,hH⟩:∃ (kA1 nA1:Nat) (gA1:Nat→List DV) (kA3 nA3:Nat) (gA3:Nat→List DV) (kB0 nB0:Nat) (gB0:Nat→List DV) (kB1 nB1:Nat) (gB1:Nat→List DV) (kB2 nB2:Nat) (gB2:Nat→List DV) (kB3 nB3:Nat) (gB3:Nat→List DV) (kB4 nB4:Nat) (gB4:Nat→List DV) (C0 C1 C2 C3 C4 C5 C6:Int),houC h= [.d (stas W),.d (.ro kA1 nA1 gA1),.d (vehs V),.d (.ro kA3 nA3 gA3),.d (.ro kB0 nB0 gB0),.d (.ro kB1 nB1 gB1),.d (.ro kB2 nB2 gB2),.d (.ro kB3 nB3 gB3),.d (.ro kB4 nB4 gB4),.d (.int .i64 C0),.d (.int .i64 C1),.d (.int .i64 C2),.d (.int .i64 C3),.d (.int .i64 C4),.d (.int .i64 C5),.d (.int .i64 C6)]:=⟨_,_,_,_,_,_,_,_,_,_,_,_,_,_,_,_,_,_,_,_,_,_,_,_,_,_,_,_,by rw[hV,hW];rfl⟩;unfold offF;unfold offR offC offO offCo at cF;rw[hH];rw[hH]at cF;rw[←hV]at hv;rw[←hW]at hs;rw[←hV,←hW]at cF ⊢;have hO0:offN h (vmO V) (smO W) l 0=off0:=rfl;have hR:=fun i=>offN_ref h (vmO V) (smO W) l i
 have hS:=fun s x (e:folE h (vmO V) (smO W) s x≠0)=>fol_same e
 generalize offN h (vmO V) (smO W) l=O at hZ hG hB hO0 hR ⊢;generalize folE h (vmO V) (smO W)=fE at cF hG hB hS;generalize folO h (vmO V) (smO W)=fO at cF hG hS;refine spec_of hT (C:= []) Tryz.func89 rfl Tryz.call89 rfl rfl rfl ?_;conv=>whnf
 repeat' (first|((first|(refine br_intro ?_ ?_<;>intro hb<;>try simp only[brs]at hb)|refine rAx hT 5 oJOfP89_5 ?_|refine rAx hT 10 oJOfP89_10 ?_|omega|refine sAx ?_|decide|assumption)<;>conv=>whnf))
 refine LoopX.rule hT (C:= []) (ι:=Nat) (fun i=>i≤V.length) (fun i=>mkSt [(1,.d (ents l)),(2,.ptr 2 0),(5,.ptr 22 0),(25,.d (vehs V)),(26,.d (.int .i64 V.length)),(27,.d (.int .i64 i))] [(1000009,KX),(2,.cells 42 [.d (stas W),.d (.ro kA1 nA1 gA1),.d (vehs V),.d (.ro kA3 nA3 gA3),.d (.ro kB0 nB0 gB0),.d (.ro kB1 nB1 gB1),.d (.ro kB2 nB2 gB2),.d (.ro kB3 nB3 gB3),.d (.ro kB4 nB4 gB4),.d (.int .i64 C0),.d (.int .i64 C1),.d (.int .i64 C2),.d (.int .i64 C3),.d (.int .i64 C4),.d (.int .i64 C5),.d (.int .i64 C6)]),(22,.cells 120 [.d (stas W),.d (.ro kA1 nA1 gA1),.d (vehs V),.d (.ro kA3 nA3 gA3),.d (.ro kB0 nB0 gB0),.d (.ro kB1 nB1 gB1),.d (.ro kB2 nB2 gB2),.d (.ro kB3 nB3 gB3),.d (.ro kB4 nB4 gB4),.d (.int .i64 C0),.d (.int .i64 C1),.d (.int .i64 C2),.d (.int .i64 C3),.d (.int .i64 C4),.d (.int .i64 C5),.d (.int .i64 C6),.mp 14,.mp 15,.mp 16,.d .nilsl,.mp 17,.mp 18,.mp 19,.mp 20,.d .nilsl]),(14,mpS false [.str []] sF1 (vmO (V.take i))),(15,mpS false [.bool false] bF1 (smO [])),(16,mpS true (ssF ss0) ssF off0.sts),(17,atM off0.ats),(18,mpS true (bkF bk0) bkF off0.bks),(19,mpS true (hiO none) hiO off0.his),(20,mpS false [.int .i64 0] iF1 off0.paid)])
  (fun i=>V.length - i) 0 (Nat.zero_le _) ?_ ?_
 · exact Entails.mk' [(1000009,1000009),(2,2),(22,22),(14,14),(15,15),(16,16),(17,17),(18,18),(19,19),(20,20)] rfl rfl ⟨lr,lr,lr,lr,lr,lr,trivial⟩ ⟨rr,rr,rr,Res.le_map (fun _ _=>⟨rfl,rfl⟩),Res.le_map (fun _ _=>⟨rfl,rfl⟩),Res.le_map (fun _ _=>⟨rfl,rfl⟩),Res.le_map (fun K hK=>by obtain⟨s,n,rfl⟩:=wk_si hK;exact⟨rfl,rfl⟩),Res.le_map (fun _ _=>⟨rfl,rfl⟩),Res.le_map (fun _ _=>⟨rfl,rfl⟩),Res.le_map (fun _ _=>⟨rfl,rfl⟩),trivial⟩
 rintro i hi;have hi:i≤V.length:=hi;have e1:(i:Int).toNat=i:=Int.toNat_natCast i;rcases Nat.lt_or_ge i V.length with hin|hin
 · conv=>whnf
   repeat' (first|((first|(refine br_intro ?_ ?_<;>intro hb<;>try simp only[brs]at hb)|refine rAx hT 5 oJOfP89_5 ?_|refine rAx hT 10 oJOfP89_10 ?_|omega|refine sAx ?_|decide|assumption)<;>conv=>whnf))
   all_goals try(exfalso;omega)
   refine⟨i+1,by show i+1≤_;omega,by show V.length - (i+1)<V.length - i;omega,Entails.mk' [(2,2),(1000009,1000009),(22,22),(14,14),(15,15),(16,16),(17,17),(18,18),(19,19),(20,20)] rfl rfl ⟨lr,lr,lr,lr,lr,SV.le_int (by omega),trivial⟩ ⟨rr,rr,rr,?_,rr,rr,rr,rr,rr,rr,trivial⟩⟩;rw[vmO_succ hin,←e1];exact mpS_put
 have hiV:i=V.length:=by omega
 rw[hiV,List.take_length];clear hin e1 hiV;conv=>whnf
 repeat' (first|((first|(refine br_intro ?_ ?_<;>intro hb<;>try simp only[brs]at hb)|refine rAx hT 5 oJOfP89_5 ?_|refine rAx hT 10 oJOfP89_10 ?_|omega|refine sAx ?_|decide|assumption)<;>conv=>whnf))
 all_goals try(exfalso;omega)
 refine LoopX.rule hT (C:= []) (ι:=Nat) (fun i=>i≤W.length) (fun i=>mkSt [(1,.d (ents l)),(5,.ptr 22 0),(42,.d (stas W)),(43,.d (.int .i64 W.length)),(44,.d (.int .i64 i))] [(1000009,KX),(22,.cells 120 [.d (stas W),.d (.ro kA1 nA1 gA1),.d (vehs V),.d (.ro kA3 nA3 gA3),.d (.ro kB0 nB0 gB0),.d (.ro kB1 nB1 gB1),.d (.ro kB2 nB2 gB2),.d (.ro kB3 nB3 gB3),.d (.ro kB4 nB4 gB4),.d (.int .i64 C0),.d (.int .i64 C1),.d (.int .i64 C2),.d (.int .i64 C3),.d (.int .i64 C4),.d (.int .i64 C5),.d (.int .i64 C6),.mp 14,.mp 15,.mp 16,.d .nilsl,.mp 17,.mp 18,.mp 19,.mp 20,.d .nilsl]),(14,mpS false [.str []] sF1 (vmO V)),(15,mpS false [.bool false] bF1 (smO (W.take i))),(16,mpS true (ssF ss0) ssF off0.sts),(17,atM off0.ats),(18,mpS true (bkF bk0) bkF off0.bks),(19,mpS true (hiO none) hiO off0.his),(20,mpS false [.int .i64 0] iF1 off0.paid)])
  (fun i=>W.length - i) 0 (Nat.zero_le _) ?_ ?_
 · exact Entails.mk' [(1000009,1000009),(22,22),(14,14),(15,15),(16,16),(17,17),(18,18),(19,19),(20,20)] rfl rfl ⟨lr,lr,lr,lr,lr,trivial⟩ ⟨rr,rr,rr,rr,rr,rr,rr,rr,rr,trivial⟩
 rintro i hi;have hi:i≤W.length:=hi;have e1:(i:Int).toNat=i:=Int.toNat_natCast i;rcases Nat.lt_or_ge i W.length with hin|hin
 · conv=>whnf
   repeat' (first|((first|(refine br_intro ?_ ?_<;>intro hb<;>try simp only[brs]at hb)|refine rAx hT 5 oJOfP89_5 ?_|refine rAx hT 10 oJOfP89_10 ?_|omega|refine sAx ?_|decide|assumption)<;>conv=>whnf))
   all_goals try(exfalso;omega)
   refine⟨i+1,by show i+1≤_;omega,by show W.length - (i+1)<W.length - i;omega,Entails.mk' [(1000009,1000009),(22,22),(14,14),(15,15),(16,16),(17,17),(18,18),(19,19),(20,20)] rfl rfl ⟨lr,lr,lr,lr,SV.le_int (by omega),trivial⟩ ⟨rr,rr,rr,?_,rr,rr,rr,rr,rr,trivial⟩⟩;rw[smO_succ hin,←e1];exact mpS_put
 have hiW:i=W.length:=by omega
 rw[hiW,List.take_length];clear hin e1 hiW;conv=>whnf
 repeat' (first|((first|(refine br_intro ?_ ?_<;>intro hb<;>try simp only[brs]at hb)|refine rAx hT 5 oJOfP89_5 ?_|refine rAx hT 10 oJOfP89_10 ?_|omega|refine sAx ?_|decide|assumption)<;>conv=>whnf))
 all_goals try(exfalso;omega)
 refine LoopX.rule hT (C:= []) (ι:=Nat×Off) (fun(i,s)=>i≤l.length∧s=O i) (fun(i,s)=>mkSt [(5,.ptr 22 0),(55,.d (ents l)),(56,.d (.int .i64 l.length)),(57,.d (.int .i64 i))] [(1000009,KX),(22,.cells 120 [.d (stas W),.d (.ro kA1 nA1 gA1),.d (vehs V),.d (.ro kA3 nA3 gA3),.d (.ro kB0 nB0 gB0),.d (.ro kB1 nB1 gB1),.d (.ro kB2 nB2 gB2),.d (.ro kB3 nB3 gB3),.d (.ro kB4 nB4 gB4),.d (.int .i64 C0),.d (.int .i64 C1),.d (.int .i64 C2),.d (.int .i64 C3),.d (.int .i64 C4),.d (.int .i64 C5),.d (.int .i64 C6),.mp 14,.mp 15,.mp 16,.buf 50,.mp 17,.mp 18,.mp 19,.mp 20,.buf 51]),(14,mpS false [.str []] sF1 (vmO V)),(15,mpS false [.bool false] bF1 (smO W)),(16,mpS true (ssF ss0) ssF s.sts),(50,evB s.log),(17,atM s.ats),(18,mpS true (bkF bk0) bkF s.bks),(19,mpS true (hiO none) hiO s.his),(20,mpS false [.int .i64 0] iF1 s.paid),(51,rfB s.ref)])
  (fun(i,_)=>l.length - i) (0,off0) ⟨Nat.zero_le _,hO0.symm⟩ ?_ ?_
 · refine(Entails.nilCell 22 50 242 5 19 (rowF evF ev0 []) rfl rfl rfl (by decide) rfl).trans ((Entails.nilCell 22 51 239 2 24 (rowF rfF rf0 []) rfl rfl rfl (by decide) rfl).trans ?_);exact Entails.mk' [(50,50),(51,51),(1000009,1000009),(22,22),(14,14),(15,15),(16,16),(17,17),(18,18),(19,19),(20,20)] rfl rfl ⟨lr,lr,lr,lr,trivial⟩ ⟨rr,rr,rr,rr,rr,rr,rr,rr,rr,rr,rr,trivial⟩
 rintro⟨i,s⟩ ⟨hi,hsO⟩;have hi:i≤l.length:=hi;have hsO:s=O i:=hsO;have e1:(i:Int).toNat=i:=Int.toNat_natCast i;have kI:=hZ i hi;have kR:=hR i;rw[←hsO]at kI kR;rcases Nat.lt_or_ge i l.length with hin|hin
 · have hxi:=hx _ (getD_mem (x:=en0) hin);have cX:=cF s (kI.ok (by omega) (by omega)) (l.getD (i:Int).toNat en0) (by rw[e1];exact hxi)
   by_cases e:fE s (l.getD (i:Int).toNat en0)=0
   · have hN:=hG i hin (by rw[←hsO,←e1];exact e);rw[←hsO]at hN;rw[e]at cX;conv=>whnf
     repeat' (first|((first|(refine oAx cX [(1000009,1000009),(1000001,22),(1000002,14),(1000003,15),(1000004,16),(1000005,50),(1000006,17),(1000007,18),(1000008,19),(1000010,20),(1000011,51),(50,60)] ?_;rintro y rout ⟨rfl,rfl⟩;refine⟨rfl,?_⟩)|(refine br_intro ?_ ?_<;>intro hb<;>try simp only[brs]at hb)|refine rAx hT 5 oJOfP89_5 ?_|refine rAx hT 10 oJOfP89_10 ?_|omega|refine sAx ?_|decide|assumption)<;>conv=>whnf))
     all_goals try(exfalso;omega)
     exact⟨(i+1,fO s (l.getD (i:Int).toNat en0)),⟨by show i+1≤_;omega,by show _=O (i+1);rw[hN,e1]⟩,by show l.length - (i+1)<l.length - i;omega,Entails.mk' [(50,60),(51,51),(1000009,1000009),(22,22),(14,14),(15,15),(16,16),(17,17),(18,18),(19,19),(20,20)] rfl rfl ⟨lr,lr,lr,SV.le_int (by omega),trivial⟩ ⟨rr,rr,rr,rr,rr,rr,rr,rr,rr,rr,rr,trivial⟩⟩
   · have hN:=hB i hin (by rw[←hsO,←e1];exact e);rw[←hsO]at hN;rw[hS _ _ e]at cX;conv=>whnf
     repeat' (first|((first|(refine oAx cX [(1000009,1000009),(1000001,22),(1000002,14),(1000003,15),(1000004,16),(1000005,50),(1000006,17),(1000007,18),(1000008,19),(1000010,20),(1000011,51),(50,60)] ?_;rintro y rout ⟨rfl,rfl⟩;refine⟨rfl,?_⟩)|(refine br_intro ?_ ?_<;>intro hb<;>try simp only[brs]at hb)|refine rAx hT 5 oJOfP89_5 ?_|refine rAx hT 10 oJOfP89_10 ?_|omega|refine sAx ?_|decide|assumption)<;>conv=>whnf))
     all_goals try(exfalso;omega)
     all_goals try(exfalso;exact e (by rw[e1];assumption))
     refine⟨(i+1,{s with ref:=s.ref++ [⟨i,fE s (l.getD (i:Int).toNat en0)⟩]}),⟨by show i+1≤_;omega,by show _=O (i+1);rw[hN,e1]⟩,by show l.length - (i+1)<l.length - i;omega,Entails.mk' [(50,60),(51,76),(1000009,1000009),(22,22),(14,14),(15,15),(16,16),(17,17),(18,18),(19,19),(20,20)] rfl rfl ⟨lr,lr,lr,SV.le_int (by omega),trivial⟩ ⟨rr,rr,rr,rr,rr,rr,rr,rr,rr,rr,?_,trivial⟩⟩;exact Res.le_snocF (x:=(⟨i,fE s (l.getD (i:Int).toNat en0)⟩:Rfs)) rfl
 · have hil:i=l.length:=by omega
   have c113:=wSortLog s.log (by have:=kI.log;omega) kI.apt;conv=>whnf
   repeat' (first|((first|(refine oAx c113 [(1000001,50)] ?_;rintro y rout ⟨rfl,rfl⟩;refine⟨rfl,?_⟩)|(refine br_intro ?_ ?_<;>intro hb<;>try simp only[brs]at hb)|refine rAx hT 5 oJOfP89_5 ?_|refine rAx hT 10 oJOfP89_10 ?_|omega|refine sAx ?_|decide|assumption)<;>conv=>whnf))
   all_goals try(exfalso;omega)
   refine .ret _ ?_;conv=>whnf
   rw[←hil,←hsO];exact⟨_,⟨rfl,rfl⟩,rr,rr,rr,rr,rr,rr,rr,rr,rr,rr,rr,trivial⟩
end Go.Proofs.YtkokpbpililcdaaGreatDoor
namespace Go.Eng
open Go Go.Proofs Go.Sort Go.RowKit
def sF1':List UInt8→List DV:=fun s=> [.str s]
def sortS (l:List (List UInt8)):List (List UInt8):=l.mergeSort fun x y=>decide (x≤y)
theorem sortS_perm (l:List (List UInt8)):(sortS l).Perm l:=List.mergeSort_perm _ _
theorem sortS_length (l:List (List UInt8)):(sortS l).length=l.length:=(sortS_perm l).length_eq
theorem sortS_sorted (l:List (List UInt8)):(sortS l).Pairwise fun x y=>x≤y:=by
 have:=List.pairwise_mergeSort (le:=fun x y:List UInt8=>decide (x≤y)) (fun a b c h1 h2=>by simp only[decide_eq_true_eq]at*;exact List.le_trans h1 h2) (fun a b=>by simp only[Bool.or_eq_true,decide_eq_true_eq];exact List.le_total a b) l;exact this.imp (fun h=>by simpa using h)
theorem sortS_eq {l m:List (List UInt8)}(h:l.Perm m):sortS l=sortS m:=
 List.Perm.eq_of_pairwise (le:=fun x y:List UInt8=>x≤y) (fun x y _ _ h1 h2=>List.le_antisymm h1 h2) (sortS_sorted l) (sortS_sorted m) ((sortS_perm l).trans (h.trans (sortS_perm m).symm))
theorem FSpec.sortS {P:Program}{f:FuncId}{e:TypeId}(henter:∀args w,(callFunc f args).run P w= .ok (.enter f args) w)(l:List (List UInt8))
 (hn:∀w,Calls P f #[.slice none 0 0] w fun e' w' =>e' = .returned (.tuple #[])∧w' =w)
 (hc:∀ (blk cap:Nat) (w:World),Holds encStr w blk 0 l.toArray→blk<w.heap.size→Calls P f #[.slice (some ⟨blk,0,none⟩) l.length cap] w fun e' w' =>e' = .returned (.tuple #[])∧∃n os,w' =grow (putRow encStr (Sort.ahead w n) blk 0 (Go.Eng.sortS l).toArray) os):
 FSpec P f [.buf 1000001] [(1000001,seqB e 1 sF1' [] l)] (fun y r=>y= .tup []∧r= [(1000001,seqB e 1 sF1' [] (Go.Eng.sortS l))]):=by
 refine⟨henter,fun G β w vs hpre hvl hvd=> ?_⟩
 match vs,hvl with
 | [v],_=>
   have hv:=hvd 0 _ _ rfl rfl
   cases hv with|buf _ _ hb _=>
   have hR:lookL [(1000001,seqB e 1 sF1' [] l)] 1000001=some (seqB e 1 sF1' [] l):=by simp[lookL]
   have hrow:∀ {q:List (List UInt8)} d r,lookL [(1000001,seqB e 1 sF1' [] q)] d=some r→d=1000001∧r=seqB e 1 sF1' [] q:=by
    intro q d r hr;simp only[lookL]at hr
    cases hq:Nat.beq d 1000001 with
    |false=>rw[show(d.beq 1000001)=false from hq]at hr;cases hr
    |true=>rw[show(d.beq 1000001)=true from hq]at hr;cases hr;exact⟨Nat.eq_of_beq_eq_true hq,rfl⟩
   obtain⟨v',xs,hv',hown,_,_,hden⟩:=hpre.rs _ _ hR;rw[hb]at hv';cases hv';rcases hown.2 with⟨rfl,hz⟩|⟨g,cap,cur,rfl,hg,hh,hnc,hcm,hcz,htake⟩
   · have hl0:l= []:=List.length_eq_zero_iff.1 hz;subst hl0;refine(hn w).mono ?_;rintro e' w' ⟨rfl,rfl⟩;refine⟨.tuple #[],.tup [],[(1000001,seqB e 1 sF1' [] (Go.Eng.sortS []))],G,β,rfl,⟨rfl,rfl⟩,⟨Hp.le_refl G,Env.le_refl β,fun b o ho=>hpre.gw b o ho,fun b o ho=>.inl ho,⟨rfl,rfl,rfl,Nat.le_refl _,fun b hlt hT=>rfl⟩,fun d r hr=> ?_,fun d d' r r' _ _ _ e1 e2 _ _ _ _ _ _=> ?_,fun d r u b e1 _ hu hbk=> ?_⟩,.tup [] [] rfl (fun i x v hx=>by simp at hx)⟩
     · rw[show Go.Eng.sortS []= []by simp[Go.Eng.sortS]]at hr;exact hpre.rs d r hr
     · rw[(hrow d r e1).1,(hrow d' r' e2).1]
     · obtain⟨rfl,rfl⟩:=hrow d r e1;rw[hb]at hu;cases hu;exact absurd (hbk.plain rfl) (by simp[blk])
   have hxs:xs=l.map encStr:=by
    apply List.ext_getElem
    · rw[hown.1];simp
    intro i hi hi';have hil:i<l.length:=by simpa using hi'
    obtain⟨u,hu,hd⟩:=hden i 0 (.str (l.getD i [])) hil rfl;rw[Nat.mul_one,Nat.add_zero,List.getElem?_eq_getElem hi]at hu;cases hu;generalize xs[i]=z at hd;cases hd;simp[List.getD_eq_getElem?_getD,hil]
   have hgs:g<w.heap.size:=(Array.getElem?_eq_some_iff.1 hh).1;have hho:=holds_of_block (ss:=l) hh (by rw[←hxs,←htake,Nat.mul_one]);refine(hc g cap w hho hgs).mono ?_;rintro e' w' ⟨rfl,n,os,rfl⟩;have hgb:=grownBy_sorted (w:=w) (g:=g) (n:=n) (os:=os) (Go.Eng.sortS l).toArray;have hrs:=ownsRow_sorted (w:=w) (base:=0) (cap:=cap) (n:=n) (os:=os) (sortS_length l) (Nat.zero_le _) hh hnc hcm hcz;have hTin:Tin w β (lookL [(1000001,seqB e 1 sF1' [] l)]) g:=⟨1000001,_,_,hR,rfl,hb,.of rfl⟩;have hGg:G g=none:=hpre.og _ _ _ g hR rfl hb (.of rfl);refine⟨.tuple #[],.tup [],_,G,β,rfl,⟨rfl,rfl⟩,⟨Hp.le_refl G,Env.le_refl β,fun b o ho=> ?_,fun b o ho=>.inl ho,⟨hgb.os,hgb.tape,hgb.output,hgb.size,fun b hlt hT=> ?_⟩,fun d r hr=> ?_,fun d d' r r' _ _ _ e1 e2 _ _ _ _ _ _=> ?_,fun d r u b e1 _ hu hbk=> ?_⟩,.tup [] [] rfl (fun i x v hx=>by simp at hx)⟩
   · have hw:=hpre.gw b o ho;rw[hgb.block b (Array.getElem?_eq_some_iff.1 hw).1 (fun q=>by cases q;rw[hGg]at ho;cases ho)];exact hw
   · exact hgb.block b hlt (fun q=>by cases q;exact hT hTin)
   · obtain⟨rfl,rfl⟩:=hrow d r hr;refine⟨_,_,hb,by rw[sortS_length];exact hrs,by omega,fun i hi=>rfl,fun i j x hi hx=> ?_⟩
     have hj:j=0:=by
      have:=(List.getElem?_eq_some_iff.1 hx).1;simp[rowF,sF1']at this;omega
     subst hj;simp[rowF,sF1']at hx;subst hx;exact⟨encStr ((Go.Eng.sortS l).getD i []),by rw[Nat.mul_one,Nat.add_zero];simp[List.getD_eq_getElem?_getD,hi],.str _⟩
   · rw[(hrow d r e1).1,(hrow d' r' e2).1]
   · obtain⟨rfl,rfl⟩:=hrow d r e1;rw[hb]at hu;cases hu;cases hbk.plain rfl;exact⟨hGg,.inl hTin⟩
end Go.Eng
set_option maxRecDepth 20000
namespace Go.Proofs.YtkokpbpililcdaaGreatDoor
open Go Go.Eng
theorem KB_stampQ {ks:List KK}{has:List DV→Bool}{clock:Nat}{kb:List (List DV×Nat)}(hk:KB ks has clock kb){p q:List DV×Nat}(hp:p ∈ kb)(hq:q ∈ kb):(p.2=q.2↔p.1=q.1):=by
 obtain⟨i,hi,rfl⟩:=List.getElem_of_mem hp;obtain⟨j,hj,rfl⟩:=List.getElem_of_mem hq
 have h1:∀i j (hi:i<kb.length) (hj:j<kb.length),i<j→kb[i].2<kb[j].2:=fun i j hi hj hij=>by
  have:=List.pairwise_iff_getElem.1 hk.ki i j (by simpa using hi) (by simpa using hj) hij;simpa using this
 have h2:∀i j (hi:i<kb.length) (hj:j<kb.length),i<j→kb[i].1≠kb[j].1:=fun i j hi hj hij e=>by
  have:=List.pairwise_iff_getElem.1 hk.kd i j (by simpa using hi) (by simpa using hj) hij;simp only[List.getElem_map]at this;rw[e]at this;rw[keyEq_refl (hk.kw _ (List.getElem_mem hj))]at this;cases this
 rcases Nat.lt_trichotomy i j with q|q|q
 · exact⟨fun e=>absurd e (Nat.ne_of_lt (h1 i j hi hj q)),fun e=>absurd e (h2 i j hi hj q)⟩
 · subst q;exact⟨fun _=>rfl,fun _=>rfl⟩
 · exact⟨fun e=>absurd e.symm (Nat.ne_of_lt (h1 j i hj hi q)),fun e=>absurd e.symm (h2 j i hj hi q)⟩
open Classical in
noncomputable def keysS (has:List UInt8→Bool):List (List UInt8):=
 if h:∃K:List (List UInt8),K.Nodup∧∀k,k ∈ K↔has k=true then sortS (Classical.choose h)else []
theorem keysS_eq {has:List UInt8→Bool}{K:List (List UInt8)}(h1:K.Nodup)(h2:∀k,k ∈ K↔has k=true):sortS K=keysS has:=by
 have h:∃K:List (List UInt8),K.Nodup∧∀k,k ∈ K↔has k=true:=⟨K,h1,h2⟩;unfold keysS;rw[dif_pos h];have hc:=Classical.choose_spec h;exact sortS_eq ((List.perm_ext_iff_of_nodup h1 hc.1).2 fun k=>by rw[h2 k,hc.2 k])
theorem keysS_len {has:List UInt8→Bool}{L:List (List UInt8)}(hL:∀k,has k=true→k ∈ L):(keysS has).length≤L.length:=by
 unfold keysS;split
 · rename_i h;have hc:=Classical.choose_spec h;rw[sortS_length];exact nodup_le _ _ hc.1 fun k hk=>hL k ((hc.2 k).1 hk)
 · simp
theorem wSortS (l:List (List UInt8))(hl:l.length<2^40):FSpec Tryz.prog 90 [.buf 1000001] [(1000001,seqB 9 1 sF1' [] l)] (fun y r=>y= .tup []∧r= [(1000001,seqB 9 1 sF1' [] (sortS l))]):=by
 have e:Tryz.lays190_ren.f 190=90:=rfl;refine FSpec.sortS Tryz.call90 l (fun w=> ?_) (fun blk cap w hH hb=> ?_)
 · have:=Any.slices_Sort_string_none Tryz.lays190 none 0 w;rw[e]at this;exact this
 · have:=Any.slices_Sort_string Tryz.lays190 blk 0 cap l w hH hb (by omega);rw[e]at this;exact this
structure offH (h:Hou)(l:List Ent):Prop where
 hou:houOk h
 ent:entOk l
 len:l.length≤400
 wds:∀x ∈ l,x.words.length≤2^20
 hE:houE h=0
 lE:entsE l=0
set_option maxHeartbeats 4000000 in
theorem wMd (h:Hou)(l:List Ent)(k:offH h l):
 FSpec Tryz.prog 33 [hou h,.d (ents l)] [(1000009,KX)] (fun y r=>y= .tup [.ptr 22 0,.d (.int .i64 0)]∧r=(1000009,KX)::offF h (vmO h.flt.veh) (smO h.flt.sta) (offZ h l) (isort evCmp (offZ h l).log)):=by
 have c1:=y20h h k.hou;have c2:=lz64 l k.ent;have c3:=wOffice h k.hou.1.cls k.hou.1.veh.1 k.hou.1.sta.1 l k.len k.wds;rw[k.hE]at c1;rw[k.lE]at c2;generalize offZ h l=Z at c3 ⊢;generalize isort evCmp Z.log=lg at c3 ⊢;generalize vmO h.flt.veh=vm at c3 ⊢;generalize smO h.flt.sta=sm at c3 ⊢;refine spec_of hT (C:= []) Tryz.func33 rfl Tryz.call33 rfl rfl rfl ?_;conv=>whnf
 repeat' (first|(refine pAx c1 ?_;conv=>whnf)|(refine CallX.exact (c2) rfl rfl ?_;rotate_right;conv=>whnf)|((first|refine CallX.pure (s105 [_,_] (by simp)) ⟨SV.le_lit (by rfl) (by rfl),trivial⟩ rfl ?_|(refine oAx c3 rq10 ?_;rintro y rout ⟨rfl,rfl⟩;refine⟨rfl,?_⟩)|(refine br_intro ?_ ?_<;>intro hb<;>try simp only[brs]at hb)|omega|refine sAx ?_|decide|assumption)<;>conv=>whnf))
 all_goals try(exfalso;contradiction)
 refine .ret _ ?_;conv=>whnf
 exact⟨_,⟨rfl,rfl⟩,rr,rr,rr,rr,rr,rr,rr,rr,rr,rr,rr,trivial⟩
theorem pw_getD {α:Type}{R:α→α→Prop}{l:List α}(d:α):l.Pairwise R↔∀i j,i<j→j<l.length→R (l.getD i d) (l.getD j d):=by
 rw[List.pairwise_iff_getElem];constructor
 · intro h i j hij hj;rw[List.getD_eq_getElem?_getD,List.getD_eq_getElem?_getD,List.getElem?_eq_getElem (by omega),List.getElem?_eq_getElem hj];exact h i j _ hj hij
 · intro h i j hi hj hij;have:=h i j hij hj;rw[List.getD_eq_getElem?_getD,List.getD_eq_getElem?_getD,List.getElem?_eq_getElem hi,List.getElem?_eq_getElem hj]at this;exact this
theorem entCmp_seq:entCmp=seq2 (fun a b=>cmpI a.tm b.tm) (seq2 (fun a b=>cmpS a.desk b.desk) (fun a b=>cmpI a.no b.no)):=by
 funext a b
 unfold entCmp seq2;simp only[firstE];grind
theorem entCmp_ord:TOrd entCmp:=by
 rw[entCmp_seq];exact(TOrd.int (fun a:Ent=>a.tm)).seq ((TOrd.str (fun a:Ent=>a.desk)).seq (TOrd.int (fun a:Ent=>a.no)))
structure entsR (l:List Ent):Prop where
 len:l.length≤1000
 frm:∀x ∈ l,frmE x=0
 ord:l.Pairwise fun a b=>entCmp a b<0
 dup:l.Pairwise fun a b=>eqE a b=false
theorem entE_zero {l:List Ent}{i:Nat}:entE l i=0↔frmE (l.getD i en0)=0∧(0<i→entCmp (l.getD (i - 1) en0) (l.getD i en0)<0)∧dupE (l.take i) (l.getD i en0)=false:=by
 unfold entE
 by_cases h1:frmE (l.getD i en0)=0
 · rw[if_neg (fun c=>c h1)]
   by_cases h2:0<i∧0≤entCmp (l.getD (i - 1) en0) (l.getD i en0)
   · rw[if_pos h2];exact⟨fun h=>absurd h (by decide),fun h=>by have:=h.2.1 h2.1;omega⟩
   · rw[if_neg h2]
     cases h3:dupE (l.take i) (l.getD i en0)with
     |true=>exact⟨fun h=>absurd h (by decide),fun h=>by cases h.2.2⟩
     |false=>exact⟨fun _=>⟨h1,fun q=>by omega,rfl⟩,fun _=>rfl⟩
 · rw[if_pos h1];exact⟨fun h=>absurd h h1,fun h=>absurd h.1 h1⟩
theorem dupE_iff {l:List Ent}{x:Ent}:dupE l x=false↔∀y ∈ l,eqE y x=false:=by
 show(l.any fun y=>y.desk==x.desk&&decide (y.no=x.no))=false↔_;rw[List.any_eq_false];refine⟨fun h y hy=> ?_,fun h y hy=> ?_⟩
 · have:=h y hy;unfold eqE;simpa using this
 · have:=h y hy;unfold eqE at this;rw[this];simp
theorem ents_iff {l:List Ent}:entsE l=0↔entsR l:=by
 constructor
 · intro h;unfold entsE at h
   by_cases hl:1000<l.length
   · rw[if_pos hl]at h;exact absurd h (by decide)
   rw[if_neg hl]at h;have hA:=fun i hi=>entE_zero.1 (firstAt_all h i hi)
   refine⟨by omega,fun x hx=> ?_,(pw_getD en0).2 fun i j=> ?_,(pw_getD en0).2 fun i j hij hj=> ?_⟩
   · obtain⟨i,hi,rfl⟩:=mem_getD (d:=en0) hx;exact(hA i hi).1
   · induction j with
     |zero=>intro hij;omega
     | succ j ih=>
       intro hij hj;have h1:=(hA (j+1) hj).2.1 (by omega);rw[Nat.add_sub_cancel]at h1
       by_cases q:i=j
       · rw[q];exact h1
       · exact entCmp_ord.tr _ _ _ (ih (by omega) (by omega)) h1
   · have h1:=dupE_iff.1 (hA j hj).2.2;refine h1 _ ?_
     have:l.getD i en0=(l.take j).getD i en0:=by
      rw[List.getD_eq_getElem?_getD,List.getD_eq_getElem?_getD,List.getElem?_take_of_lt hij]
     rw[this];exact getD_mem (by rw[List.length_take];omega)
 · intro h;unfold entsE;rw[if_neg (by have:=h.len;omega)];refine firstAt_zero fun i hi=>entE_zero.2 ⟨h.frm _ (getD_mem hi),fun q=>(pw_getD en0).1 h.ord (i - 1) i (by omega) hi,dupE_iff.2 fun y hy=> ?_⟩
   obtain⟨j,hj,rfl⟩:=mem_getD (d:=en0) hy;rw[List.length_take]at hj
   have:(l.take i).getD j en0=l.getD j en0:=by
    rw[List.getD_eq_getElem?_getD,List.getD_eq_getElem?_getD,List.getElem?_take_of_lt (by omega)]
   rw[this];exact(pw_getD en0).1 h.dup j i (by omega) hi
section
variable (h:Hou) (vm:Mp (List UInt8)) (sm:Mp Bool)
end
def byV (v:List UInt8)(l:List Evn):List Evn:=l.filter fun x=>decide (x.veh=v)
def stV (l:List Evn):Stt:=l.foldl folS ss0
def chn:Stt→List Evn→Prop
 |_,[]=>True
 |s,x::l=>folOk s x=true∧chn (folS s x) l
theorem chn_snoc:∀ (l:List Evn) (s:Stt) (x:Evn),chn s (l++ [x])↔chn s l∧folOk (l.foldl folS s) x=true
 | [],s,x=>⟨fun h=>⟨trivial,h.1⟩,fun h=>⟨h.2,trivial⟩⟩
 | y::l,s,x=>by
   show folOk s y=true∧chn (folS s y) (l++ [x])↔(folOk s y=true∧chn (folS s y) l)∧_;rw[chn_snoc l (folS s y) x,and_assoc];rfl
structure evR (vm:Mp (List UInt8))(sm:Mp Bool)(x:Evn):Prop where
 tm:0≤x.tm∧x.tm≤5761439
 veh:vm.has x.veh=true
 st:sm.val x.st=true
 kind:1≤x.kind∧x.kind≤8
 to:x.to≠ []→x.kind=6
 lv:x.kind=6→sm.val x.to=true
 ne:x.to≠x.st
structure logB (vm:Mp (List UInt8))(sm:Mp Bool)(now:Int)(s:Off):Prop where
 inc:s.log.Pairwise fun a b=>a.tm≤b.tm
 low:∀x ∈ s.log,x.tm≤now
 rt:∀x ∈ s.log,evR vm sm x
 cur:∀v,s.sts.val v=stV (byV v s.log)
 ok:∀v,chn ss0 (byV v s.log)
theorem byV_snoc (v:List UInt8)(l:List Evn)(x:Evn):byV v (l++ [x])=byV v l++(if x.veh=v then [x]else []):=by
 unfold byV;rw[List.filter_append];congr 1
 by_cases h:x.veh=v
 · rw[if_pos h,List.filter_cons_of_pos (by simpa using h)];rfl
 · rw[if_neg h,List.filter_cons_of_neg (by simpa using h)];rfl
theorem logB.say {vm:Mp (List UInt8)}{sm:Mp Bool}{now:Int}{s:Off}(h:logB vm sm now s){x:Evn}(hx:evR vm sm x)(ht:x.tm=now)(hok:folOk (s.sts.val x.veh) x=true):logB vm sm now (sayS s x) where
 inc:=by
  show(s.log++ [x]).Pairwise _;rw[List.pairwise_append];exact⟨h.inc,List.pairwise_singleton _ _,fun a ha b hb=>by rw[List.mem_singleton]at hb;rw[hb,ht];exact h.low a ha⟩
 low:=fun y hy=>by
  rcases List.mem_append.1 (show y ∈ s.log++ [x]from hy)with q|q
  · exact h.low y q
  · rw[List.mem_singleton]at q;rw[q,ht];exact Int.le_refl _
 rt:=fun y hy=>by
  rcases List.mem_append.1 (show y ∈ s.log++ [x]from hy)with q|q
  · exact h.rt y q
  · rw[List.mem_singleton]at q;rw[q];exact hx
 cur:=fun v=>by
  show(if v=x.veh then folS (s.sts.val x.veh) x else s.sts.val v)=stV (byV v (s.log++ [x]));rw[byV_snoc]
  by_cases q:v=x.veh
  · rw[if_pos q,if_pos q.symm,q];unfold stV;rw[List.foldl_append];show folS (s.sts.val x.veh) x=folS (stV (byV x.veh s.log)) x;rw[h.cur x.veh]
  · rw[if_neg q,if_neg (fun e=>q e.symm),List.append_nil];exact h.cur v
 ok:=fun v=>by
  show chn ss0 (byV v (s.log++ [x]));rw[byV_snoc]
  by_cases q:x.veh=v
  · rw[if_pos q,chn_snoc];refine⟨h.ok v,?_⟩;have:=h.cur v;rw[q]at hok;rw[this]at hok;exact hok
  · rw[if_neg q,List.append_nil];exact h.ok v
theorem logB.later {vm:Mp (List UInt8)}{sm:Mp Bool}{now t:Int}{s:Off}(h:logB vm sm now s)(ht:now≤t):logB vm sm t s:=
 ⟨h.inc,fun x hx=>by have:=h.low x hx;omega,h.rt,h.cur,h.ok⟩
def lastTo (x:Leg):Int:=if x.inn.tm= -1 then 5761440 else x.inn.tm
structure hirC (vm:Mp (List UInt8))(now:Int)(s:Off):Prop where
 key:∀k g,s.his.val k=some g→g.key=k
 veh:∀k g,s.his.val k=some g→∀x ∈ g.legs,vm.has x.veh=true
 past:∀k g,s.his.val k=some g→∀x ∈ g.legs,x.out.tm≤now∧(x.inn.tm≠-1→x.inn.tm≤now)
 opn:∀k g,s.his.val k=some g→∀x ∈ g.legs,x.inn.tm= -1→(s.sts.val x.veh).k=2
 dis:∀k1 k2 g1 g2,k1≠k2→s.his.val k1=some g1→s.his.val k2=some g2→∀x ∈ g1.legs,∀y ∈ g2.legs,x.veh=y.veh→lastTo x≤y.out.tm∨lastTo y≤x.out.tm
theorem hirC.later {vm:Mp (List UInt8)}{now t:Int}{s:Off}(h:hirC vm now s)(ht:now≤t):hirC vm t s:=
 ⟨h.key,h.veh,fun k g hk x hx=>⟨by have:=(h.past k g hk x hx).1;omega,fun q=>by have:=(h.past k g hk x hx).2 q;omega⟩,h.opn,h.dis⟩
theorem hirC.same {vm:Mp (List UInt8)}{now:Int}{s s':Off}(h:hirC vm now s)(hh:s'.his=s.his)(ho:∀v,(s.sts.val v).k=2→(s'.sts.val v).k=2):hirC vm now s':=by
 refine⟨?_,?_,?_,?_,?_⟩<;>rw[hh]
 · exact h.key
 · exact h.veh
 · exact h.past
 · exact fun k g hk x hx q=>ho _ (h.opn k g hk x hx q)
 · exact h.dis
theorem hirC.put {vm:Mp (List UInt8)}{now:Int}{s s':Off}(h:hirC vm now s){key:List UInt8}{g':Hir}(hh:s'.his=s.his.put key (some g'))(hk:g'.key=key)(hv:∀x ∈ g'.legs,vm.has x.veh=true)
 (hp:∀x ∈ g'.legs,x.out.tm≤now∧(x.inn.tm≠-1→x.inn.tm≤now))(ho:∀x ∈ g'.legs,x.inn.tm= -1→(s'.sts.val x.veh).k=2)
 (hs:∀k g,k≠key→s.his.val k=some g→∀y ∈ g.legs,y.inn.tm= -1→(s'.sts.val y.veh).k=2)
 (hd:∀k g,k≠key→s.his.val k=some g→∀x ∈ g'.legs,∀y ∈ g.legs,x.veh=y.veh→lastTo x≤y.out.tm∨lastTo y≤x.out.tm):hirC vm now s':=by
 have hval:∀k,s'.his.val k=if k=key then some g' else s.his.val k:=fun k=>by rw[hh];rfl
 have hc:∀k g,s'.his.val k=some g→(k=key∧g=g')∨(k≠key∧s.his.val k=some g):=fun k g hk=>by
  rw[hval]at hk
  by_cases q:k=key
  · rw[if_pos q]at hk;exact .inl ⟨q,(Option.some.inj hk).symm⟩
  · rw[if_neg q]at hk;exact .inr ⟨q,hk⟩
 refine⟨fun k g hk' => ?_,fun k g hk' => ?_,fun k g hk' => ?_,fun k g hk' => ?_,fun k1 k2 g1 g2 hne h1 h2=> ?_⟩
 · rcases hc k g hk' with⟨e1,e2⟩|⟨e1,e2⟩
   · rw[e1,e2];exact hk
   · exact h.key k g e2
 · rcases hc k g hk' with⟨e1,e2⟩|⟨e1,e2⟩
   · rw[e2];exact hv
   · exact h.veh k g e2
 · rcases hc k g hk' with⟨e1,e2⟩|⟨e1,e2⟩
   · rw[e2];exact hp
   · exact h.past k g e2
 · rcases hc k g hk' with⟨e1,e2⟩|⟨e1,e2⟩
   · rw[e2];exact ho
   · exact hs k g e1 e2
 · rcases hc k1 g1 h1 with⟨a1,a2⟩|⟨a1,a2⟩<;>rcases hc k2 g2 h2 with⟨b1,b2⟩|⟨b1,b2⟩
   · exact absurd (a1.trans b1.symm) hne
   · rw[a2];exact hd k2 g2 b1 b2
   · rw[b2];exact fun x hx y hy e=>(hd k1 g1 a1 a2 y hy x hx e.symm).symm
   · exact h.dis k1 k2 g1 g2 hne a2 b2
theorem kinds_val {w:List UInt8}(h:kindsM.has w=true):kindsM.val w=1∨kindsM.val w=4∨kindsM.val w=5∨kindsM.val w=6∨kindsM.val w=7∨kindsM.val w=8:=by
 simp only[kindsM,Mp.put,Mp.nil,Bool.or_eq_true,decide_eq_true_eq,Bool.false_eq_true,or_false]at h ⊢;grind
theorem fol_not2 {s:Stt}{x:Evn}(hk:x.kind=1∨x.kind=4∨x.kind=5∨x.kind=6∨x.kind=7∨x.kind=8)(h:folOk s x=true):s.k≠2:=by
 unfold folOk at h;intro e;rw[e]at h;rcases hk with q|q|q|q|q|q<;>simp[q]at h
theorem fol_out {s:Stt}{x:Evn}(hk:x.kind=2)(h:folOk s x=true):s.k=1∧(folS s x).k=2:=by
 constructor
 · unfold folOk at h;simp[hk]at h;exact h.1
 · unfold folS;rw[if_pos h];simp[hk]
variable {vm:Mp (List UInt8)} {sm:Mp Bool} {now:Int} {s:Off}
theorem say_sts (s:Off)(x:Evn)(v:List UInt8):(sayS s x).sts.val v=if v=x.veh then folS (s.sts.val x.veh) x else s.sts.val v:=rfl
theorem hirC.free (h:hirC vm now s){v:List UInt8}(h1:(s.sts.val v).k=1){k:List UInt8}{g:Hir}(hk:s.his.val k=some g){y:Leg}(hy:y ∈ g.legs)(e:y.veh=v):y.inn.tm≠-1:=fun q=>by
 have:=h.opn k g hk y hy q;rw[e,h1]at this;exact absurd this (by decide)
theorem hirC.one (h:hirC vm now s)(hn:now≤5761439){k1 k2:List UInt8}{g1 g2:Hir}(hne:k1≠k2)(h1:s.his.val k1=some g1)(h2:s.his.val k2=some g2){x y:Leg}(hx:x ∈ g1.legs)(hy:y ∈ g2.legs)(e:x.veh=y.veh)(q1:x.inn.tm= -1):y.inn.tm≠-1∧lastTo y≤x.out.tm:=by
 have p1:=(h.past k1 g1 h1 x hx).1;have p2:=(h.past k2 g2 h2 y hy).1;have hd:=h.dis k1 k2 g1 g2 hne h1 h2 x hx y hy e;unfold lastTo at hd;rw[if_pos q1]at hd;unfold lastTo
 by_cases r:y.inn.tm= -1
 · rw[if_pos r]at hd;omega
 · rw[if_neg r]at hd ⊢;exact⟨r,by omega⟩
theorem evtS_BC (hb:logB vm sm now s)(hc:hirC vm now s)(hsm:sm.val []=false)(hn:0≤now∧now≤5761439){t:Tol}(hk:kindsM.has t.word=true):logB vm sm now (evtS vm sm s (evOf now t))∧hirC vm now (evtS vm sm s (evOf now t)):=by
 unfold evtS;split
 · rename_i e;unfold evtE at e;have e1:=firstE_mem e _ (List.mem_cons_self ..);have e2:=firstE_mem e _ (List.mem_cons_of_mem _ (List.mem_cons_self ..));have e3:=(canE_zero (firstE_mem e (canE s (evOf now t)) (by simp))).2;have hkv:=kinds_val hk;have hK:(evOf now t).kind=kindsM.val t.word:=rfl;have hT:(evOf now t).to=if kindsM.val t.word=6 then t.texts.getD 2 []else []:=rfl
   have h1:(!vm.has (evOf now t).veh||(!sm.val (evOf now t).st||(decide ((evOf now t).kind=6)&& !sm.val (evOf now t).to)))=false:=by
    cases q:(!vm.has (evOf now t).veh||(!sm.val (evOf now t).st||(decide ((evOf now t).kind=6)&& !sm.val (evOf now t).to)))with
    |false=>rfl
    |true=>rw[q]at e1;exact absurd e1 (by decide)
   have h2:(decide ((evOf now t).kind=6)&&decide ((evOf now t).to=(evOf now t).st))=false:=by
    cases q:(decide ((evOf now t).kind=6)&&decide ((evOf now t).to=(evOf now t).st))with
    |false=>rfl
    |true=>rw[q]at e2;exact absurd e2 (by decide)
   simp only[Bool.or_eq_false_iff,Bool.not_eq_false']at h1;obtain⟨a1,a2,a3⟩:=h1
   have hr:evR vm sm (evOf now t):=by
    refine⟨hn,a1,a2,by rw[hK];omega,fun q=> ?_,fun q=> ?_,fun q=> ?_⟩
    · by_cases r:kindsM.val t.word=6
      · rw[hK];exact r
      · rw[hT,if_neg r]at q;exact absurd rfl q
    · rw[q]at a3;simpa using a3
    · by_cases r:kindsM.val t.word=6
      · rw[hK,decide_eq_true r,Bool.true_and,decide_eq_false_iff_not]at h2;exact h2 q
      · rw[hT,if_neg r]at q;rw[←q,hsm]at a2;cases a2
   refine⟨hb.say hr rfl e3,hc.same rfl fun v hv=> ?_⟩;rw[say_sts]
   by_cases q:v=(evOf now t).veh
   · rw[q]at hv;exact absurd hv (fol_not2 (by rw[hK];exact hkv) e3)
   · rw[if_neg q];exact hv
 · exact⟨hb,hc⟩
theorem stS_BC (hb:logB vm sm now s)(hc:hirC vm now s)(hsm:sm.val []=false)(hn:0≤now∧now≤5761439)(t:Tol):logB vm sm now (stS vm sm s now t)∧hirC vm now (stS vm sm s now t):=by
 unfold stS;split
 · rename_i e;unfold stE at e
   by_cases q:hirE (stHi now t)=0
   · rw[if_neg (fun c=>c q)]at e;have e2:=firstE_mem e _ (List.mem_cons_of_mem _ (List.mem_cons_self ..));have e3:=(canE_zero (firstE_mem e (canE s (stEv now t)) (by simp))).2;obtain⟨o1,o2⟩:=fol_out (x:=stEv now t) rfl e3
     have h1:(!vm.has (t.texts.getD 2 [])|| !sm.val (t.texts.getD 3 []))=false:=by
      cases q:(!vm.has (t.texts.getD 2 [])|| !sm.val (t.texts.getD 3 []))with
      |false=>rfl
      |true=>rw[q]at e2;exact absurd e2 (by decide)
     simp only[Bool.or_eq_false_iff,Bool.not_eq_false']at h1
     have hr:evR vm sm (stEv now t):=⟨hn,h1.1,h1.2,⟨by show(1:Int)≤2;decide,by show(2:Int)≤8;decide⟩,fun q=>absurd rfl q,fun q=>absurd (show(2:Int)=6 from q) (by decide),fun q=>by
      have:t.texts.getD 3 []= []:=q.symm
      rw[this,hsm]at h1;cases h1.2⟩
     refine⟨?_,hc.put (key:=t.texts.getD 0 []) (g':=stHi now t) rfl rfl (fun x hx=> ?_) (fun x hx=> ?_) (fun x hx _=> ?_) (fun k g hne hk y hy q' => ?_) (fun k g hne hk x hx y hy e' => ?_)⟩
     · have h3:=hb.say hr rfl e3;exact⟨h3.inc,h3.low,h3.rt,h3.cur,h3.ok⟩
     · have:x=⟨t.texts.getD 2 [],⟨now,t.texts.getD 3 [],t.nums.getD 1 0,t.nums.getD 2 0⟩,rgN⟩:=List.mem_singleton.1 hx;rw[this];exact h1.1
     · have:x=⟨t.texts.getD 2 [],⟨now,t.texts.getD 3 [],t.nums.getD 1 0,t.nums.getD 2 0⟩,rgN⟩:=List.mem_singleton.1 hx;rw[this];exact⟨Int.le_refl _,fun c=>absurd rfl c⟩
     · have:x=⟨t.texts.getD 2 [],⟨now,t.texts.getD 3 [],t.nums.getD 1 0,t.nums.getD 2 0⟩,rgN⟩:=List.mem_singleton.1 hx;rw[this];show((sayS s (stEv now t)).sts.val (t.texts.getD 2 [])).k=2;rw[say_sts,if_pos (show t.texts.getD 2 []=(stEv now t).veh from rfl)];exact o2
     · show((sayS s (stEv now t)).sts.val y.veh).k=2;rw[say_sts,if_neg (fun r=>hc.free o1 hk hy r q')];exact hc.opn k g hk y hy q'
     · have hxe:x=⟨t.texts.getD 2 [],⟨now,t.texts.getD 3 [],t.nums.getD 1 0,t.nums.getD 2 0⟩,rgN⟩:=List.mem_singleton.1 hx;right;have h5:=hc.free o1 hk hy (by rw[←e',hxe];rfl);have h6:=(hc.past k g hk y hy).2 h5;unfold lastTo;rw[if_neg h5,hxe];exact h6
   · rw[if_pos q]at e;exact absurd e q
 · exact⟨hb,hc⟩
theorem legs_closed {g:Hir}(h:hirE g=0){x:Leg}{i:Nat}(hi:i<g.legs.length)(hx:g.legs.getD i lg0=x)(hl:i+1<g.legs.length):x.inn.tm≠-1:=fun q=>by
 have hA:=(hirE_K h).2.2.2.2.2 i hi;unfold legE at hA;rw[hx]at hA;rw[if_pos q,if_pos (show(i:Int)<(g.legs.length:Int) - 1 by omega)]at hA;grind
theorem setIn_mem {g:Hir}(h:hirE g=0)(r:Rdg){x:Leg}(hx:x ∈ setIn g.legs r):(x ∈ g.legs∧x.inn.tm≠-1)∨∃y ∈ g.legs,x={y with inn:=r}∧y=g.legs.getD (g.legs.length - 1) lg0:=by
 have hK:=hirE_K h;obtain⟨i,hi,rfl⟩:=mem_getD (d:=lg0) hx;rw[setIn_len]at hi;unfold setIn;rw[show((g.legs.length:Int) - 1).toNat=g.legs.length - 1 by omega,List.getD_eq_getElem?_getD,List.getElem?_set]
 by_cases q:g.legs.length - 1=i
 · right;rw[if_pos q,if_pos (by omega)];exact⟨g.legs.getD (g.legs.length - 1) lg0,getD_mem (by omega),rfl,rfl⟩
 · left;rw[if_neg q,←List.getD_eq_getElem?_getD];exact⟨getD_mem hi,legs_closed h hi rfl (by omega)⟩
theorem last_open {g:Hir}(h:hirE g=0)(ho:opnH g=true):(g.legs.getD (g.legs.length - 1) lg0) ∈ g.legs∧(g.legs.getD (g.legs.length - 1) lg0).inn.tm= -1∧(g.legs.getD (g.legs.length - 1) lg0).veh=oldV g:=by
 have hK:=hirE_K h;unfold opnH at ho;rw[show((g.legs.length:Int) - 1).toNat=g.legs.length - 1 by omega]at ho;refine⟨getD_mem (by omega),by simpa using ho,?_⟩;unfold oldV;rw[show((g.legs.length:Int) - 1).toNat=g.legs.length - 1 by omega]
theorem chS_BC (hi:∀k,s.his.has k=true→∃g,s.his.val k=some g∧hirE g=0)(hb:logB vm sm now s)(hc:hirC vm now s)(hsm:sm.val []=false)(hn:0≤now∧now≤5761439)(t:Tol):logB vm sm now (chS vm sm s now t)∧hirC vm now (chS vm sm s now t):=by
 unfold chS;split
 · rename_i e;unfold chE at e
   by_cases q:s.his.has (t.texts.getD 0 [])=true
   · rw [if_pos q]at e;obtain⟨g,hg,hE⟩:=hi _ q;have hgd:(s.his.val (t.texts.getD 0 [])).getD hi0=g:=by rw[hg];rfl
     rw[hgd]at e ⊢;obtain⟨⟨_,ho,hN⟩,hkn,hcan⟩:=chG_zero e;obtain⟨l1,l2,l3⟩:=last_open hE ho
     have hkey:(chNext g now t).key=t.texts.getD 0 []:=by
      have:=hc.key _ g hg;unfold chNext;split
      · exact this
      · split
        · exact this
        · exact this
     have hold:vm.has (oldV g)=true:=by rw[←l3];exact hc.veh _ g hg _ l1
     have hst2:(s.sts.val (oldV g)).k=2:=by rw[←l3];exact hc.opn _ g hg _ l1 l2
     have hno:∀k g',k≠t.texts.getD 0 []→s.his.val k=some g'→∀y ∈ g'.legs,y.inn.tm= -1→y.veh≠oldV g:=fun k g' hne hk y hy hq er=>
      (hc.one hn.2 (fun z=>hne z.symm) hg hk l1 hy (by rw[l3,er]) l2).1 hq
     have hclo:∀r:Rdg,r.tm=now→∀k g',k≠t.texts.getD 0 []→s.his.val k=some g'→∀x ∈ setIn g.legs r,∀y ∈ g'.legs,x.veh=y.veh→lastTo x≤y.out.tm∨lastTo y≤x.out.tm:=fun r hr k g' hne hk x hx y hy er=>by
      rcases setIn_mem hE r hx with⟨h1,h2⟩|⟨z,h1,h2,h3⟩
      · exact hc.dis _ _ _ _ (fun z=>hne z.symm) hg hk x h1 y hy er
      · right;rw[←h3]at l2;have:=(hc.one hn.2 (fun z=>hne z.symm) hg hk h1 hy (by rw[h2]at er;exact er) l2).2;rw[h2];exact this
     have hpst:∀r:Rdg,r.tm=now→∀x ∈ setIn g.legs r,x.out.tm≤now∧(x.inn.tm≠-1→x.inn.tm≤now):=fun r hr x hx=>by
      rcases setIn_mem hE r hx with⟨h1,h2⟩|⟨z,h1,h2,h3⟩
      · exact hc.past _ g hg x h1
      · rw[h2];exact⟨(hc.past _ g hg z h1).1,fun _=>by show r.tm≤now;omega⟩
     have hvh:∀r:Rdg,∀x ∈ setIn g.legs r,vm.has x.veh=true:=fun r x hx=>by
      rcases setIn_mem hE r hx with⟨h1,h2⟩|⟨z,h1,h2,h3⟩
      · exact hc.veh _ g hg x h1
      · rw[h2];exact hc.veh _ g hg z h1
     have hcl2:∀r:Rdg,r.tm=now→∀x ∈ setIn g.legs r,x.inn.tm≠-1:=fun r hr x hx=>by
      rcases setIn_mem hE r hx with⟨h1,h2⟩|⟨z,h1,h2,h3⟩
      · exact h2
      · rw[h2];show r.tm≠-1;omega
     by_cases w1:t.word= [101,120,116,101,110,100]
     · have hEv:chEvs g now t= []:=by unfold chEvs;rw[if_pos w1]
       have hNx:chNext g now t=xtH g (t.nums.getD 0 0):=by unfold chNext;rw[if_pos w1]
       rw[hEv,hNx];rw[hNx]at hkey;refine⟨⟨hb.inc,hb.low,hb.rt,hb.cur,hb.ok⟩,hc.put (key:=t.texts.getD 0 []) (g':=xtH g (t.nums.getD 0 0)) rfl hkey (hc.veh _ g hg) (hc.past _ g hg) (hc.opn _ g hg) (fun k g' hne hk=>hc.opn k g' hk) (fun k g' hne hk x hx y hy er=>hc.dis _ _ g g' (fun z=>hne z.symm) hg hk x hx y hy er)⟩
     by_cases w2:t.word= [99,108,111,115,101]
     · have hEv:chEvs g now t= [⟨now,oldV g,t.texts.getD 1 [],3,[]⟩]:=by unfold chEvs;rw[if_neg w1,if_pos w2]
       have hNx:chNext g now t=clH g (chIn now t):=by unfold chNext;rw[if_neg w1,if_pos w2]
       have hKn:sm.val (t.texts.getD 1 [])=true:=by unfold chKn at hkn;rw[if_neg w1,if_pos w2]at hkn;exact hkn
       rw[hEv]at hcan ⊢;rw[hNx]at hkey ⊢;have c1:=(canE_zero (hcan 0 (by simp))).2
       have hr:evR vm sm ⟨now,oldV g,t.texts.getD 1 [],3,[]⟩:=⟨hn,hold,hKn,⟨by show(1:Int)≤3;decide,by show(3:Int)≤8;decide⟩,fun z=>absurd rfl z,fun z=>absurd (show(3:Int)=6 from z) (by decide),fun z=>by
        have:t.texts.getD 1 []= []:=z.symm
        rw[this,hsm]at hKn;cases hKn⟩
       have h3:=hb.say hr rfl c1;refine⟨⟨h3.inc,h3.low,h3.rt,h3.cur,h3.ok⟩,hc.put (key:=t.texts.getD 0 []) (g':=clH g (chIn now t)) rfl hkey (hvh _) (hpst _ rfl) (fun x hx z=>absurd z (hcl2 _ rfl x hx)) (fun k g' hne hk y hy z=> ?_) (hclo _ rfl)⟩;show((sayS s ⟨now,oldV g,t.texts.getD 1 [],3,[]⟩).sts.val y.veh).k=2;rw[say_sts,if_neg (hno k g' hne hk y hy z)];exact hc.opn k g' hk y hy z
     · have hEv:chEvs g now t= [⟨now,oldV g,t.texts.getD 1 [],3,[]⟩,⟨now,t.texts.getD 2 [],t.texts.getD 1 [],2,[]⟩]:=by unfold chEvs;rw[if_neg w1,if_neg w2]
       have hNx:chNext g now t=exH g (chIn now t) (t.texts.getD 2 []) (chOut now t):=by unfold chNext;rw[if_neg w1,if_neg w2]
       have hKn:sm.val (t.texts.getD 1 [])=true∧vm.has (t.texts.getD 2 [])=true:=by
        unfold chKn at hkn;rw[if_neg w1,if_neg w2,Bool.and_eq_true]at hkn;exact hkn
       rw[hEv]at hcan ⊢;rw[hNx]at hkey hN ⊢;have hne2:=exH_ne (hirE_K hE).2.1 hN;have c1:=(canE_zero (hcan 0 (by simp))).2;have c2:folOk (s.sts.val (t.texts.getD 2 [])) ⟨now,t.texts.getD 2 [],t.texts.getD 1 [],2,[]⟩=true:=(canE_zero (hcan 1 (by simp))).2;have hst:t.texts.getD 1 []≠ []:=fun z=>by rw[z,hsm]at hKn;cases hKn.1
       have hr1:evR vm sm ⟨now,oldV g,t.texts.getD 1 [],3,[]⟩:=⟨hn,hold,hKn.1,⟨by show(1:Int)≤3;decide,by show(3:Int)≤8;decide⟩,fun z=>absurd rfl z,fun z=>absurd (show(3:Int)=6 from z) (by decide),fun z=>hst z.symm⟩;have hr2:evR vm sm ⟨now,t.texts.getD 2 [],t.texts.getD 1 [],2,[]⟩:=⟨hn,hKn.2,hKn.1,⟨by show(1:Int)≤2;decide,by show(2:Int)≤8;decide⟩,fun z=>absurd rfl z,fun z=>absurd (show(2:Int)=6 from z) (by decide),fun z=>hst z.symm⟩
       have c3:folOk ((sayS s ⟨now,oldV g,t.texts.getD 1 [],3,[]⟩).sts.val (t.texts.getD 2 [])) ⟨now,t.texts.getD 2 [],t.texts.getD 1 [],2,[]⟩=true:=by
        rw[say_sts,if_neg hne2];exact c2
       obtain⟨o1,o2⟩:=fol_out (x:=⟨now,t.texts.getD 2 [],t.texts.getD 1 [],2,[]⟩) rfl c2;have h3:=(hb.say hr1 rfl c1).say hr2 rfl c3
       have hsts:∀v,((sayS (sayS s ⟨now,oldV g,t.texts.getD 1 [],3,[]⟩) ⟨now,t.texts.getD 2 [],t.texts.getD 1 [],2,[]⟩).sts.val v)=if v=t.texts.getD 2 []then folS (s.sts.val (t.texts.getD 2 [])) ⟨now,t.texts.getD 2 [],t.texts.getD 1 [],2,[]⟩else if v=oldV g then folS (s.sts.val (oldV g)) ⟨now,oldV g,t.texts.getD 1 [],3,[]⟩else s.sts.val v:=fun v=>by
        rw[say_sts,say_sts,say_sts,if_neg hne2]
       refine⟨⟨h3.inc,h3.low,h3.rt,h3.cur,h3.ok⟩,hc.put (key:=t.texts.getD 0 []) (g':=exH g (chIn now t) (t.texts.getD 2 []) (chOut now t)) rfl hkey (fun x hx=> ?_) (fun x hx=> ?_) (fun x hx z=> ?_) (fun k g' hne hk y hy z=> ?_) (fun k g' hne hk x hx y hy er=> ?_)⟩
       · rcases List.mem_append.1 (show x ∈ setIn g.legs (chIn now t)++ [⟨t.texts.getD 2 [],chOut now t,rgN⟩]from hx)with r|r
         · exact hvh _ x r
         · rw[List.mem_singleton]at r;rw[r];exact hKn.2
       · rcases List.mem_append.1 (show x ∈ setIn g.legs (chIn now t)++ [⟨t.texts.getD 2 [],chOut now t,rgN⟩]from hx)with r|r
         · exact hpst _ rfl x r
         · rw[List.mem_singleton]at r;rw[r];exact⟨Int.le_refl _,fun c=>absurd rfl c⟩
       · rcases List.mem_append.1 (show x ∈ setIn g.legs (chIn now t)++ [⟨t.texts.getD 2 [],chOut now t,rgN⟩]from hx)with r|r
         · exact absurd z (hcl2 _ rfl x r)
         · rw[List.mem_singleton]at r;rw[r];show((sayS (sayS s ⟨now,oldV g,t.texts.getD 1 [],3,[]⟩) ⟨now,t.texts.getD 2 [],t.texts.getD 1 [],2,[]⟩).sts.val (t.texts.getD 2 [])).k=2;rw[hsts,if_pos rfl];exact o2
       · show((sayS (sayS s ⟨now,oldV g,t.texts.getD 1 [],3,[]⟩) ⟨now,t.texts.getD 2 [],t.texts.getD 1 [],2,[]⟩).sts.val y.veh).k=2;rw[hsts,if_neg (fun r=>hc.free o1 hk hy r z),if_neg (hno k g' hne hk y hy z)];exact hc.opn k g' hk y hy z
       · rcases List.mem_append.1 (show x ∈ setIn g.legs (chIn now t)++ [⟨t.texts.getD 2 [],chOut now t,rgN⟩]from hx)with r|r
         · exact hclo _ rfl k g' hne hk x r y hy er
         · rw[List.mem_singleton]at r;right;have h5:=hc.free o1 hk hy (by rw[←er,r]);have h6:=(hc.past k g' hk y hy).2 h5;unfold lastTo;rw[if_neg h5,r];exact h6
   · rw[if_neg q]at e;exact absurd e (by decide)
 · exact⟨hb,hc⟩
theorem folO_BC (h:Hou){m n:Nat}{t0:Int}(hI:offI m n s)(hb:logB vm sm t0 s)(hc:hirC vm t0 s)(hsm:sm.val []=false){x:Ent}(ht:t0≤x.tm)(hx:0≤x.tm∧x.tm≤5761439):logB vm sm x.tm (folO h vm sm s x)∧hirC vm x.tm (folO h vm sm s x):=by
 have hb:=hb.later ht;have hc:=hc.later ht;unfold folO;split
 · exact⟨hb,hc⟩
 split
 · rename_i q;exact evtS_BC hb hc hsm hx q
 split
 · unfold bookS;split
   · exact⟨⟨hb.inc,hb.low,hb.rt,hb.cur,hb.ok⟩,⟨hc.key,hc.veh,hc.past,hc.opn,hc.dis⟩⟩
   · exact⟨hb,hc⟩
 split
 · split
   · exact⟨⟨hb.inc,hb.low,hb.rt,hb.cur,hb.ok⟩,⟨hc.key,hc.veh,hc.past,hc.opn,hc.dis⟩⟩
   · exact⟨hb,hc⟩
 split
 · exact stS_BC hb hc hsm hx _
 split
 · unfold payS;split
   · exact⟨⟨hb.inc,hb.low,hb.rt,hb.cur,hb.ok⟩,⟨hc.key,hc.veh,hc.past,hc.opn,hc.dis⟩⟩
   · exact⟨hb,hc⟩
 exact chS_BC hI.his hb hc hsm hx _
theorem runC_BC (h:Hou)(hsm:sm.val []=false):∀ (l:List Ent) {m n:Nat} {t0:Int} {s:Off},offI m n s→logB vm sm t0 s→hirC vm t0 s→l.Pairwise (fun a b=>a.tm≤b.tm)→(∀x ∈ l,t0≤x.tm∧0≤x.tm∧x.tm≤5761439)→t0≤5761439→∃t1,t1≤5761439∧logB vm sm t1 (runC h vm sm s l)∧hirC vm t1 (runC h vm sm s l)
 | [],m,n,t0,s,hI,hb,hc,_,_,h0=>⟨t0,h0,hb,hc⟩
 | x::l,m,n,t0,s,hI,hb,hc,hp,hx,h0=>by
   obtain⟨a1,a2⟩:=hx x (by simp);obtain⟨b1,b2⟩:=folO_BC h hI hb hc hsm a1 a2;rw[List.pairwise_cons]at hp;exact runC_BC h hsm l (folO_I hI h vm sm x) b1 b2 hp.2 (fun y hy=>⟨hp.1 y hy,(hx y (by simp[hy])).2⟩) a2.2
theorem off0_B:logB vm sm 0 off0:=⟨List.Pairwise.nil,fun x hx=>(by cases hx),fun x hx=>(by cases hx),fun v=>rfl,fun v=>trivial⟩
theorem off0_C:hirC vm 0 off0:=⟨fun k g hk=>(by cases hk),fun k g hk=>(by cases hk),fun k g hk=>(by cases hk),fun k g hk=>(by cases hk),fun k1 k2 g1 g2 _ hk=>(by cases hk)⟩
theorem offZ_BC (h:Hou)(hsm:(smO h.flt.sta).val []=false){l:List Ent}(hl:entsR l):∃t1,t1≤5761439∧logB (vmO h.flt.veh) (smO h.flt.sta) t1 (offZ h l)∧hirC (vmO h.flt.veh) t1 (offZ h l):=by
 have hf:∀x ∈ l,0≤x.tm∧x.tm≤5761439:=fun x hx=>by
  have:=hl.frm x hx;unfold frmE at this
  by_cases q:0≤x.tm∧x.tm≤5761439
  · exact q
  · rw[if_pos q]at this;exact absurd this (by decide)
 have hp:l.Pairwise fun a b=>a.tm≤b.tm:=hl.ord.imp fun{a b} q=>by
  unfold entCmp at q;simp only[firstE]at q
  by_cases z:cmpI a.tm b.tm=0
  · have:=cmpI_zero.1 z;omega
  · rw[if_neg z]at q;have:=cmpI_lt.1 q;omega
 obtain⟨t1,h1,h2,h3⟩:=runC_BC (vm:=vmO h.flt.veh) (sm:=smO h.flt.sta) h hsm l off0_I off0_B off0_C hp (fun x hx=>⟨(hf x hx).1,hf x hx⟩) (by decide)
 have e:offZ h l={runC h (vmO h.flt.veh) (smO h.flt.sta) off0 l with ref:=(offZ h l).ref}:=by
  unfold offZ offN;rw[List.take_length]
 rw[e];exact⟨t1,h1,⟨h2.inc,h2.low,h2.rt,h2.cur,h2.ok⟩,⟨h3.key,h3.veh,h3.past,h3.opn,h3.dis⟩⟩
def hirG (m:Mp (Option Hir))(k:List UInt8):Hir:=(m.val k).getD hi0
theorem keyRow_eq {va:Bool}{key row row':List DV}{k:SV→SV→Prop}(h:row=row')(hk:keySV false key fun x=>rowSV va row' (k x)):keySV false key fun x=>rowSV va row (k x):=by rw[h];exact hk
set_option maxHeartbeats 4000000 in
theorem wSortedH (m:Mp (Option Hir))(hf:∃L:List (List UInt8),L.length≤400∧∀k,m.has k=true→k ∈ L)(hrow:∀k,m.has k=true→hiO (m.val k)=hiF (hirG m k))(hsome:∀k,m.has k=true→m.val k≠none):
 FSpec Tryz.prog 34 [.mp 1000007] [(1000007,mpS true (hiO none) hiO m)] (fun y r=>y= .d (seqD 5 hiF hi0 ((keysS m.has).map (hirG m)))∧r= []):=by
 refine spec_of hT (C:= []) Tryz.func34 rfl Tryz.call34 rfl rfl rfl ?_;conv=>whnf
 repeat' (first|(intro clock kb hkb;conv=>whnf)|((first|(refine br_intro ?_ ?_<;>intro hb<;>try simp only[brs]at hb)|omega|refine sAx ?_|decide|assumption)<;>conv=>whnf))
 have hkl:kb.length≤400:=by
  obtain⟨L,h1,h2⟩:=hf
  have:=hkb.le (L.map fun x=> [.str x]) (fun key hw hh=>by
   obtain⟨s,rfl⟩:=wk_str1 hw
   exact List.mem_map.2 ⟨s,h2 s hh,rfl⟩)
  rw[List.length_map]at this;omega
 refine LoopX.rule hT (C:= []) (ι:=List Nat×List (List UInt8)) (fun(seen,ks)=>ks.Nodup∧(∀k b',([DV.str k],b') ∈ kb→(b' ∈ seen↔k ∈ ks))∧∀k ∈ ks,m.has k=true)
  (fun(seen,ks)=>mkSt [(0,.mp 1000007),(3,.buf 3),(9,.ptr 9 0)] [(1000007,.mapB false true [.str] (hiO none) (fun K=>m.has (keyE K)) (fun K=>hiO (m.val (keyE K))) clock kb),(3,seqB 9 1 sF1' [] ks),(9,.iter 1000007 clock seen)])
  (fun(seen,ks)=>(kb.filter fun p=> !seen.contains p.2).length) ([],[]) ⟨by simp,by simp,by simp⟩ ?_ ?_
 · exact(Entails.nil 3 3 9 1 (rowF sF1' [] []) rfl rfl (by decide)).trans (Entails.mk' [(1000007,1000007),(3,3),(9,9)] rfl rfl ⟨lr,lr,lr,trivial⟩ ⟨rr,rr,rr,trivial⟩)
 rintro⟨seen,ks⟩ ⟨g1,g2,g3⟩;have g1:ks.Nodup:=g1;have g2:∀k b',([DV.str k],b') ∈ kb→(b' ∈ seen↔k ∈ ks):=g2;have g3:∀k ∈ ks,m.has k=true:=g3
 have hks:ks.length≤400:=by
  obtain⟨L,h1,h2⟩:=hf;have:=nodup_le _ _ g1 (fun k hk=>h2 k (g3 k hk));omega
 conv=>whnf
 repeat' (first|((first|(refine br_intro ?_ ?_<;>intro hb<;>try simp only[brs]at hb)|omega|refine sAx ?_|decide|assumption)<;>conv=>whnf))
 refine⟨rfl,fun key b' hkb1 hseen=> ?_,fun hall=> ?_⟩
 · obtain⟨s,rfl⟩:=wk_str1 (hkb.kw _ hkb1);have hs0:m.has s=true:=(hkb.kh _ (hkb.kw _ hkb1)).2 ⟨_,hkb1⟩;have hsn:s ∉ ks:=fun q=>hseen ((g2 s b' hkb1).2 q)
   obtain⟨g,hg⟩:∃g,m.val s=some g:=by cases hm:m.val s with|some g=>exact⟨g,rfl⟩|none=>exact absurd hm (hsome s hs0)
   refine keyRow_eq (row:=hiO (m.val s)) (row':=hiF g) (congrArg hiO hg) ?_;conv=>whnf
   repeat' (first|((first|(refine⟨rfl,_,hkb1,?_⟩;refine keyRow_eq (row:=hiO (m.val s)) (row':=hiF g) (congrArg hiO hg) ?_)|(refine br_intro ?_ ?_<;>intro hb<;>try simp only[brs]at hb)|omega|refine sAx ?_|decide|assumption)<;>conv=>whnf))
   refine⟨(b'::seen,ks++ [s]),⟨?_,fun k b2 hk2=> ?_,fun k hk=> ?_⟩,?_,?_⟩
   · rw[List.nodup_append];exact⟨g1,by simp,fun x hx y hy=>by simp at hy;subst hy;exact fun e=>hsn (by rw[←e];exact hx)⟩
   · have hst:=KB_stampQ hkb hk2 hkb1;simp only[List.mem_cons,List.mem_append,List.not_mem_nil,or_false];rw[g2 k b2 hk2];have:b2=b'↔k=s:=by rw[show(b2=b')=((([DV.str k],b2):List DV×Nat).2=(([DV.str s],b'):List DV×Nat).2)from rfl,hst];simp
     rw[this];exact or_comm
   · rcases List.mem_append.1 hk with q|q
     · exact g3 k q
     · simp at q;subst q;exact hs0
   · show(kb.filter fun p=> !(b'::seen).contains p.2).length<(kb.filter fun p=> !seen.contains p.2).length
     have e:kb.filter (fun p=> !(b'::seen).contains p.2)=(kb.filter fun p=> !seen.contains p.2).filter fun p=> !(p.2==b'):=by
      rw[List.filter_filter];refine List.filter_congr fun p _=> ?_
      simp[List.contains_cons,Bool.and_comm];rfl
     rw[e];refine Nat.lt_of_le_of_ne (List.length_filter_le _ _) (fun q=> ?_);have:=(List.length_filter_eq_length_iff.1 q) ([.str s],b') (List.mem_filter.2 ⟨hkb1,by simpa using hseen⟩);simp at this
   · exact Entails.mk' [(1000007,1000007),(3,17),(9,9)] rfl rfl ⟨lr,lr,lr,trivial⟩ ⟨rr,Res.le_snocF (x:=s) rfl,rr,trivial⟩
 · have hiff:∀k,k ∈ ks↔m.has k=true:=fun k=>⟨g3 k,fun q=>by
    obtain⟨b',hb'⟩:=(hkb.kh [.str k] (by simp[wk,wk1])).1 q
    exact(g2 k b' hb').1 (hall _ hb')⟩
   have hsrt:=keysS_eq g1 hiff;have cS:=wSortS ks (by omega);have hlS:(sortS ks).length=ks.length:=sortS_length ks;have hmS:∀k ∈ sortS ks,m.has k=true:=fun k hk=>g3 k ((sortS_perm ks).mem_iff.1 hk)
   rw[←hsrt];generalize sortS ks=Q at cS hlS hmS;conv=>whnf
   repeat' (first|((first|(refine oAx cS [(1000001,3)] ?_;rintro y rout ⟨rfl,rfl⟩;refine⟨rfl,?_⟩)|(refine br_intro ?_ ?_<;>intro hb<;>try simp only[brs]at hb)|omega|refine sAx ?_|decide|assumption)<;>conv=>whnf))
   refine LoopX.rule hT (C:= []) (ι:=Nat) (fun i=>i≤Q.length)
    (fun i=>mkSt [(0,.mp 1000007),(5,.buf 5),(20,.buf 3),(21,.d (.int .i64 Q.length)),(22,.d (.int .i64 i))] [(1000007,.mapB false true [.str] (hiO none) (fun K=>m.has (keyE K)) (fun K=>hiO (m.val (keyE K))) clock kb),(3,seqB 9 1 sF1' [] Q),(5,seqB 55 5 hiF hi0 ((Q.take i).map (hirG m)))])
    (fun i=>Q.length - i) 0 (Nat.zero_le _) ?_ ?_
   · exact(Entails.nil 5 5 55 5 (rowF hiF hi0 []) rfl rfl (by decide)).trans (Entails.mk' [(1000007,1000007),(3,3),(5,5)] rfl rfl ⟨lr,lr,lr,lr,lr,trivial⟩ ⟨rr,rr,rr,trivial⟩)
   rintro i hi;have hi:i≤Q.length:=hi;have e1:(i:Int).toNat=i:=Int.toNat_natCast i;have hlm:((Q.take i).map (hirG m)).length=i:=by rw[List.length_map,List.length_take];omega
   rcases Nat.lt_or_ge i Q.length with hin|hin
   · obtain⟨s,hs⟩:∃s,s=Q.getD (i:Int).toNat []:=⟨_,rfl⟩;have hs0:m.has s=true:=by rw[hs,e1];exact hmS _ (getD_mem hin)
     obtain⟨g,hg⟩:∃g,m.val s=some g:=by cases hm:m.val s with|some g=>exact⟨g,rfl⟩|none=>exact absurd hm (hsome s hs0)
     conv=>whnf
     repeat' (first|((first|(refine And.intro (rfl:zrow _=some (hiO none)) ?_;refine rowSV_eq (row':=hiF g) (congrArg hiO (show m.val (Q.getD (i:Int).toNat [])=some g by rw[←hs];exact hg)) ?_)|(refine br_intro ?_ ?_<;>intro hb<;>try simp only[brs]at hb)|omega|refine sAx ?_|decide|assumption)<;>conv=>whnf))
     all_goals try(exfalso;omega)
     refine⟨i+1,by show i+1≤_;omega,by show Q.length - (i+1)<Q.length - i;omega,Entails.mk' [(1000007,1000007),(3,3),(5,31)] rfl rfl ⟨lr,lr,lr,lr,SV.le_int (by omega),trivial⟩ ⟨rr,rr,?_,trivial⟩⟩
     have et:(Q.take (i+1)).map (hirG m)=(Q.take i).map (hirG m)++ [hirG m s]:=by
      rw[List.take_succ_eq_append_getElem hin,List.map_append,hs,e1,List.getD_eq_getElem?_getD,List.getElem?_eq_getElem hin];rfl
     rw[et];exact Res.le_snocF (x:=hirG m s) (by unfold hirG;rw[hg];rfl)
   · have hiQ:i=Q.length:=by omega
     conv=>whnf
     repeat' (first|((first|(refine br_intro ?_ ?_<;>intro hb<;>try simp only[brs]at hb)|omega|refine sAx ?_|decide|assumption)<;>conv=>whnf))
     all_goals try(exfalso;omega)
     refine .freeze _ 5 55 5 _ _ rfl (.weak _ ?_);conv=>whnf
     refine⟨.d (seqD 5 hiF hi0 ((Q.take i).map (hirG m))),[],lr,⟨by rw[hiQ,List.take_length],rfl⟩,trivial⟩
set_option maxHeartbeats 4000000 in
theorem wHires (h:Hou)(l:List Ent)(k:offH h l):
 FSpec Tryz.prog 8 [hou h,.d (ents l)] [(1000009,KX)] (fun y r=>y= .tup [.d (hirs ((keysS (offZ h l).his.has).map (hirG (offZ h l).his))),.d (.int .i64 0)]∧r= [(1000009,KX)]):=by
 have c1:=wMd h l k;have hZ:offI (2*l.length) l.length (offZ h l):=offN_I h _ _ l l.length (Nat.le_refl _);generalize offZ h l=Z at c1 hZ ⊢
 have hso:∀k,Z.his.has k=true→Z.his.val k≠none:=fun k q=>by
  obtain⟨g,h1,_⟩:=hZ.his k q;rw[h1];exact fun e=>by cases e
 have c2:=wSortedH Z.his (up_keys hZ.fh k.len) (fun k q=>by
  obtain⟨g,h1,_⟩:=hZ.his k q
  unfold hirG;rw[h1];rfl) hso
 generalize isort evCmp Z.log=lg at c1 ⊢;generalize vmO h.flt.veh=vm at c1 ⊢;generalize smO h.flt.sta=sm at c1 ⊢;generalize (keysS Z.his.has).map (hirG Z.his)=R at c2 ⊢;refine spec_of hT (C:= []) Tryz.func8 rfl Tryz.call8 rfl rfl rfl ?_;conv=>whnf
 repeat' (first|((first|(refine oAx c1 rq10 ?_;rintro y rout ⟨rfl,rfl⟩;refine⟨rfl,?_⟩)|(refine oAx c2 [(1000007,19)] ?_;rintro y rout ⟨rfl,rfl⟩;refine⟨rfl,?_⟩)|(refine br_intro ?_ ?_<;>intro hb<;>try simp only[brs]at hb)|omega|refine sAx ?_|decide|assumption)<;>conv=>whnf))
 all_goals try(exfalso;contradiction)
 refine .ret _ ?_;conv=>whnf
 exact⟨[(1000009,KX)],⟨rfl,rfl⟩,rr,trivial⟩
theorem keysS_spec {has:List UInt8→Bool}{L:List (List UInt8)}(hL:∀k,has k=true→k ∈ L):(keysS has).Nodup∧(keysS has).Pairwise (fun a b=>a≤b)∧∀k,k ∈ keysS has↔has k=true:=by
 have ex : ∀L:List (List UInt8),∃K:List (List UInt8),K.Nodup∧∀k,k ∈ K↔k ∈ L∧has k=true:=fun L=>by
  induction L with
  |nil=>exact⟨[],List.nodup_nil,fun k=>⟨fun h=>(by cases h),fun h=>(by cases h.1)⟩⟩
  | cons x L ih=>
    obtain⟨K,h1,h2⟩:=ih
    by_cases q:has x=true∧x ∉ K
    · refine⟨x::K,List.nodup_cons.2 ⟨q.2,h1⟩,fun k=> ?_⟩;rw[List.mem_cons,List.mem_cons,h2];constructor
      · rintro(e|e)
        · exact⟨.inl e,by rw[e];exact q.1⟩
        · exact⟨.inr e.1,e.2⟩
      · rintro⟨e|e,f⟩
        · exact .inl e
        · exact .inr ⟨e,f⟩
    · refine⟨K,h1,fun k=> ?_⟩;rw[h2,List.mem_cons];constructor
      · exact fun e=>⟨.inr e.1,e.2⟩
      · rintro⟨e|e,f⟩
        · rw[e]at f ⊢
          by_cases z:x ∈ K
          · exact⟨((h2 x).1 z).1,f⟩
          · exact absurd ⟨f,z⟩ q
        · exact⟨e,f⟩
 obtain⟨K,h1,h2⟩:=ex L
 have h3:∀k,k ∈ K↔has k=true:=fun k=>by
  rw[h2];exact⟨fun h=>h.2,fun h=>⟨hL k h,h⟩⟩
 rw[←keysS_eq h1 h3];exact⟨(sortS_perm K).nodup_iff.2 h1,sortS_sorted K,fun k=>by rw[(sortS_perm K).mem_iff];exact h3 k⟩
theorem smO_val {l:List Sta}{k:List UInt8}(h:(smO l).val k=true):∃s ∈ l,s.key=k:=by
 have key:∀ (l:List Sta) (m:Mp Bool),(l.foldl (fun m s=>m.put s.key true) m).val k=true→m.val k=true∨∃s ∈ l,s.key=k:=by
  intro l
  induction l with
  |nil=>intro m h;exact .inl h
  | cons v l ih=>
    intro m h;rcases ih _ h with q|⟨w,q1,q2⟩
    · have q:(if k=v.key then true else m.val k)=true:=q
      by_cases e:k=v.key
      · exact .inr ⟨v,by simp,e.symm⟩
      · rw[if_neg e]at q;exact .inl q
    · exact .inr ⟨w,by simp[q1],q2⟩
 rcases key l _ h with q|q
 · cases q
 · exact q
theorem fltE_sta {f:Flt}(h:fltE f=0):stasE f.sta=0:=by
 unfold fltE at h
 by_cases q:fltE0 f=0
 · exact firstE_mem q _ (List.mem_cons_self ..)
 · rw[if_pos q]at h;exact absurd h q
theorem houE_flt {h:Hou}(hE:houE h=0):fltE h.flt=0:=firstE_mem hE _ (List.mem_cons_self ..)
theorem smO_nil {h:Hou}(hE:houE h=0):(smO h.flt.sta).val []=false:=by
 cases q:(smO h.flt.sta).val []with
 |false=>rfl
 | true=>
   obtain⟨s,h1,h2⟩:=smO_val q;obtain⟨j,hj,rfl⟩:=mem_getD (d:=sta0) h1;have hS:=fltE_sta (houE_flt hE);unfold stasE at hS
   by_cases c:50<h.flt.sta.length
   · rw[if_pos c]at hS;exact absurd hS (by decide)
   rw[if_neg c]at hS;have:=firstAt_all hS j hj;unfold stnE at this;rw[h2,if_pos (by decide)]at this;exact absurd this (by decide)
noncomputable def hirZ (h:Hou)(l:List Ent):List Hir:=(keysS (offZ h l).his.has).map (hirG (offZ h l).his)
theorem hires_rightK {h:Hou}{l:List Ent}(k:offH h l):hiOk (hirZ h l)∧hirsE (hirZ h l)=0∧(hirZ h l).length≤l.length∧(∀g ∈ hirZ h l,g.legs.length≤2^20):=by
 obtain⟨t1,h1,hb,hc⟩:=offZ_BC h (smO_nil k.hE) (ents_iff.1 k.lE);have hI:offI (2*l.length) l.length (offZ h l):=offN_I h _ _ l l.length (Nat.le_refl _);obtain⟨L,hL1,hL2⟩:=hI.fh;obtain⟨n1,n2,n3⟩:=keysS_spec hL2
 have hlen:(hirZ h l).length≤l.length:=by
  unfold hirZ;rw[List.length_map];have:=keysS_len hL2;omega
 have hget:∀i,i<(hirZ h l).length→∃g,(hirZ h l).getD i hi0=g∧(offZ h l).his.val ((keysS (offZ h l).his.has).getD i [])=some g∧hirE g=0:=fun i hi=>by
  have hi':i<(keysS (offZ h l).his.has).length:=by unfold hirZ at hi;rwa [List.length_map]at hi
  obtain⟨g,e1,e2⟩:=hI.his _ ((n3 _).1 (getD_mem (x:= []) hi'));refine⟨g,?_,e1,e2⟩;unfold hirZ;rw[List.getD_eq_getElem?_getD,List.getElem?_map,List.getElem?_eq_getElem hi'];show hirG (offZ h l).his (keysS (offZ h l).his.has)[i]=g;rw[List.getD_eq_getElem?_getD,List.getElem?_eq_getElem hi']at e1;unfold hirG;rw[show(offZ h l).his.val (keysS (offZ h l).his.has)[i]=some g from e1];rfl
 have hE:∀g ∈ hirZ h l,hirE g=0:=fun g hg=>by
  obtain⟨i,hi,rfl⟩:=mem_getD (d:=hi0) hg;obtain⟨g',e1,_,e3⟩:=hget i hi;rw[e1];exact e3
 refine⟨⟨by have:=k.len;omega,fun g hg=>(hirE_K (hE g hg)).1.k⟩,?_,hlen,fun g hg=>by have:=(hirE_K (hE g hg)).2.2.1;omega⟩
 · unfold hirsE;rw[if_neg (by have:=k.len;omega)];refine firstAt_zero fun i hi=> ?_
   unfold hirsE1;obtain⟨g,e1,e2,e3⟩:=hget i hi;rw[e1,e3,if_neg (fun c=>c rfl)]
   by_cases q:0<i
   · obtain⟨g2,f1,f2,f3⟩:=hget (i - 1) (by omega);rw[f1,hc.key _ _ e2,hc.key _ _ f2];have hi':i<(keysS (offZ h l).his.has).length:=by unfold hirZ at hi;rwa [List.length_map]at hi
     have a1:((keysS (offZ h l).his.has).getD (i - 1) [])≤((keysS (offZ h l).his.has).getD i []):=(pw_getD []).1 n2 (i - 1) i (by omega) hi';have a2:((keysS (offZ h l).his.has).getD (i - 1) [])≠((keysS (offZ h l).his.has).getD i []):=(pw_getD []).1 n1 (i - 1) i (by omega) hi'
     have a3:strLe ((keysS (offZ h l).his.has).getD i []) ((keysS (offZ h l).his.has).getD (i - 1) [])=false:=by
      unfold strLe;rw[Go.Proofs.bytesLess_eq,decide_eq_false (fun c=>(List.not_lt.2 a1) c),Bool.false_or];exact beq_eq_false_iff_ne.2 fun e=>a2 e.symm
     rw[a3,if_neg (fun c=>by cases c.2)]
   · rw[if_neg (fun c=>q c.1)]
abbrev offQ (h:Hou)(vm:Mp (List UInt8))(his:Mp (Option Hir)):List (Nat×Res):=
 [(1000001,.cells 120 (houC h++ [.mp 1000002,.any,.any,.any,.any,.any,.mp 1000008,.any,.any])),(1000002,mpS false [.str []] sF1 vm),(1000008,mpS true (hiO none) hiO his)]
def opnB (g:Hir):Bool:=decide ((lstL g).inn.tm= -1)
theorem opnB_eq (g:Hir):decide ((g.legs.getD ((g.legs.length:Int) - 1).toNat lg0).inn.tm= -1)=opnB g:=by
 have e:((g.legs.length:Int) - 1).toNat=g.legs.length - 1:=by omega
 rw[e];rfl
theorem q91 (g:Hir)(h1:1≤g.legs.length)(hl:g.legs.length≤2^40):FSpec Tryz.prog 91 [.agg ((hiF g).map .d)] [] (fun y r=>y= .d (.bool (opnB g))∧r= []):=by
 rw[←opnB_eq];refine spec_of hT (C:= []) Tryz.func91 rfl Tryz.call91 rfl rfl rfl ?_;conv=>whnf
 repeat' (first|((first|(refine br_intro ?_ ?_<;>intro hb<;>try simp only[brs]at hb)|omega|refine sAx ?_|decide|assumption)<;>conv=>whnf))
 refine .ret _ ?_;conv=>whnf
 refine⟨[],⟨?_,rfl⟩,trivial⟩;conv=>lhs;whnf
theorem q10 (g:Hir)(h1:1≤g.legs.length)(hl:g.legs.length≤2^40):FSpec Tryz.prog 10 [.agg ((hiF g).map .d)] [] (fun y r=>y= .d (.bool (opnB g))∧r= []):=by
 rw[←opnB_eq];refine spec_of hT (C:= []) Tryz.func10 rfl Tryz.call10 rfl rfl rfl ?_;conv=>whnf
 repeat' (first|((first|(refine br_intro ?_ ?_<;>intro hb<;>try simp only[brs]at hb)|omega|refine sAx ?_|decide|assumption)<;>conv=>whnf))
 all_goals try(exfalso;omega)
 refine .ret _ ?_;conv=>whnf
 refine⟨[],⟨?_,rfl⟩,trivial⟩;conv=>lhs;whnf
set_option maxHeartbeats 4000000 in
theorem q35 (h:Hou)(vm:Mp (List UInt8))(his:Mp (Option Hir))(k:List UInt8)(g:Hir)(hg:his.val k=some g)(hh:his.has k=true)(h1:1≤g.legs.length)(hl:g.legs.length≤2^40):
 FSpec Tryz.prog 35 [.ptr 1000001 0,.d (.str k)] (offQ h vm his) (fun y r=>y= .tup [.agg ((hiF g).map .d),.d (.int .i64 (if opnB g=true then 11 else 0))]∧r=offQ h vm his):=by
 have c91:=q91 g h1 hl
 cases hb0:opnB g with
 | true=>
   rw[hb0]at c91;rw[if_pos rfl];refine spec_of hT (C:= []) Tryz.func35 rfl Tryz.call35 rfl rfl rfl ?_;conv=>whnf
   repeat' (first|(refine And.intro (rfl:zrow _=some (hiO none)) ?_;refine rowSV_eq (row':=hiF g) (congrArg hiO hg) ?_;conv=>whnf)|(refine CallX.exact (c91) rfl rfl ?_;rotate_right;conv=>whnf)|((first|(refine br_intro ?_ ?_<;>intro hb<;>try simp only[brs]at hb)|omega|refine sAx ?_|decide|assumption)<;>conv=>whnf))
   all_goals try(have z:=hb;rw[show his.has (keyE [.str k])=his.has k from rfl,hh]at z;cases z)
   refine .ret _ ?_;conv=>whnf
   exact⟨offQ h vm his,⟨rfl,rfl⟩,rr,rr,rr,trivial⟩
 | false=>
   rw[hb0]at c91;rw[if_neg (by simp)];refine spec_of hT (C:= []) Tryz.func35 rfl Tryz.call35 rfl rfl rfl ?_;conv=>whnf
   repeat' (first|(refine And.intro (rfl:zrow _=some (hiO none)) ?_;refine rowSV_eq (row':=hiF g) (congrArg hiO hg) ?_;conv=>whnf)|(refine CallX.exact (c91) rfl rfl ?_;rotate_right;conv=>whnf)|((first|(refine br_intro ?_ ?_<;>intro hb<;>try simp only[brs]at hb)|omega|refine sAx ?_|decide|assumption)<;>conv=>whnf))
   all_goals try(have z:=hb;rw[show his.has (keyE [.str k])=his.has k from rfl,hh]at z;cases z)
   refine .ret _ ?_;conv=>whnf
   exact⟨offQ h vm his,⟨rfl,rfl⟩,rr,rr,rr,trivial⟩
def gotV (d:Dea)(g:Hir)(q:List Lin×Int):List Lin:=if(bilV d g (if q.2=0 then q.1 else [])).2=0 then(bilV d g (if q.2=0 then q.1 else [])).1 else []
def linV (h:Hou)(vm:Mp (List UInt8))(g:Hir):List Lin:=gotV h.dea g (quoV h.tar (vm.val (g.legs.getD 0 lg0).veh) g.frm g.to (g.legs.getD 0 lg0).out.st (lstL g).inn.st)
def oJLnC36_1:OL:= [(0,[]),(1,[]),(2,[]),(3,[]),(4,rg 4),(5,rg 4),(6,rg 6),(7,rg 6),(8,rg 6),(9,rg 6),(10,rg 4),(11,rg 4),(12,rg 12),(13,rg 13),(14,[4,5,6,7,8,9,10,11]),(15,[])]
def oJLnC36_2:OL:= [(0,[]),(1,[]),(2,[]),(3,[]),(4,[]),(5,rg 5),(6,rg 5),(7,rg 5),(8,rg 5),(9,rg 9),(10,rg 9),(11,rg 5),(12,rg 12),(13,rg 12),(14,rg 14),(15,rg 14),(16,rg 14),(17,rg 17),(18,rg 17),(19,rg 17),(20,rg 5),(21,[]),(22,[]),(23,[]),(24,[23]),(25,[24]),(26,[])]
def oJLnC36_5:OL:= [(0,[]),(1,[]),(2,[]),(3,[]),(4,[]),(5,rg 5),(6,rg 6),(7,[]),(8,[]),(9,[]),(10,[9]),(11,[10]),(12,[])]
theorem taxN_keys {l:List Tax}{L:List Lin}(hk:∀x ∈ l,x.key.length≤40):∀k,k≤l.length→∀x ∈ taxN l L k,x.key.length≤40:=by
 intro k
 induction k with
 |zero=>intro _ x hx;simp[taxN]at hx
 | succ k ih=>
   intro h x hx;rw[taxN]at hx;rcases List.mem_append.1 hx with q|q
   · exact ih (by omega) x q
   · rw[List.mem_singleton]at q;subst q;exact hk _ (getD_mem (x:=tax0) (show k<l.length by omega))
theorem tax_key {t:Tar}(hE:taxsE t.tax=0):∀x ∈ t.tax,x.key.length≤40:=by
 unfold taxsE at hE;split at hE
 · cases hE
 · intro x hx;obtain⟨j,hj,rfl⟩:=mem_getD (d:=tax0) hx;have:=firstAt_all hE j hj;unfold taxE at this
   dsimp only at this
   refine keyLn ?_
   cases q:isKeyB (t.tax.getD j tax0).key with
   |true=>rfl
   |false=>rw[q]at this;simp at this
theorem keyP_len (k:Int):(keyP k).length≤40:=by
 unfold keyP;repeat' split
 all_goals decide
theorem quoV_lines {t:Tar}{c:List UInt8}{a b:Int}{A B:List UInt8}(h:askP t c a b A B):(quoV t c a b A B).1.length≤131∧∀x ∈ (quoV t c a b A B).1,x.key.length≤40:=by
 have hE:=(tarE_parts h.tE).2.2.2.2;have h10:=tax_len hE;unfold quoV
 by_cases q:((dvV (rentV t.rat c a b)).getD 0 dv0).fine=true
 · rw [if_neg (by rw[q];simp)];split
   · simp
   split
   · simp
   · obtain⟨p1,p2⟩:=quoP_bd h q
     have hq:(quoL t (quoP t c a b) A B).length≤121∧∀x ∈ quoL t (quoP t c a b) A B,x.key.length≤40:=by
      unfold quoL;refine⟨?_,fun x hx=> ?_⟩
      · rw[List.length_append,List.length_map];split<;>simp<;>omega
      · rcases List.mem_append.1 hx with z|z
        · obtain⟨y,hy,rfl⟩:=List.mem_map.1 z;exact keyP_len _
        · split at z
          · cases z
          · rw[List.mem_singleton]at z;subst z;show([111,110,101,119,97,121]:List UInt8).length≤40;decide
     refine⟨by show List.length (_++_)≤131;rw[List.length_append,taxN_len];omega,fun x hx=> ?_⟩;rcases List.mem_append.1 hx with z|z
     · exact hq.2 x z
     · exact taxN_keys (tax_key hE) _ (Nat.le_refl _) x z
 · rw[if_pos (by simpa using q)];simp
structure bilP (h:Hou)(vm:Mp (List UInt8))(g:Hir):Prop where
 dR:deaR h.dea
 dE:deaE h.dea=0
 gK:hiK g
 gE:hirE g=0
 cl:(lstL g).inn.tm≠-1
 ask:askP h.tar (vm.val (g.legs.getD 0 lg0).veh) g.frm g.to (g.legs.getD 0 lg0).out.st (lstL g).inn.st
set_option maxHeartbeats 8000000 in
theorem q36 (h:Hou)(vm:Mp (List UInt8))(his:Mp (Option Hir))(g:Hir)(hp:bilP h vm g):
 FSpec Tryz.prog 36 [.ptr 1000001 0,.agg ((hiF g).map .d)] (offQ h vm his) (fun y r=>y= .d (lins (linV h vm g))∧r=offQ h vm his):=by
 have hP:=hirP_of hp.gE hp.cl;have n1:=hP.n1;have n2:=hP.n2;have c12:=q12 h.tar _ _ _ _ _ hp.ask;have hq:=quoV_lines hp.ask;have hl:=lst_eq g;unfold linV gotV;rw[←hl]at c12 hq ⊢;generalize quoV h.tar (vm.val (g.legs.getD 0 lg0).veh) g.frm g.to (g.legs.getD 0 lg0).out.st (g.legs.getD ((g.legs.length:Int) - 1).toNat lg0).inn.st=v at c12 hq ⊢;obtain⟨L,e⟩:=v
 by_cases q:e=0
 · subst q;rw[show quoR (L,0)= .tup [.d (lins L),.d (.int .i64 0)]from rfl]at c12;rw[show(if(L,(0:Int)).2=0 then(L,(0:Int)).1 else [])=L from rfl];have c15:=q15 h.dea hp.dR hp.dE g hp.gK hp.gE hp.cl L ⟨by have:L.length≤131:=hq.1;omega,fun x hx=>Nat.le_trans (hq.2 x hx) (by decide)⟩;generalize bilV h.dea g L=w at c15 ⊢;obtain⟨M,f⟩:=w
   by_cases r:f=0
   · subst r;rw[show quoR (M,0)= .tup [.d (lins M),.d (.int .i64 0)]from rfl]at c15;rw[show(if(M,(0:Int)).2=0 then(M,(0:Int)).1 else [])=M from rfl];refine spec_of hT (C:= []) Tryz.func36 rfl Tryz.call36 rfl rfl rfl ?_;conv=>whnf
     repeat' (first|(refine CallX.exact (c12) rfl rfl ?_;rotate_right;conv=>whnf)|(refine CallX.exact (c15) rfl rfl ?_;rotate_right;conv=>whnf)|((first|(refine br_intro ?_ ?_<;>intro hb<;>try simp only[brs]at hb)|refine rAx hT 1 oJLnC36_1 ?_|refine rAx hT 2 oJLnC36_2 ?_|refine rAx hT 5 oJLnC36_5 ?_|omega|refine sAx ?_|decide|assumption)<;>conv=>whnf))
     all_goals try(exfalso;contradiction)
     refine .ret _ ?_;conv=>whnf
     exact⟨offQ h vm his,⟨rfl,rfl⟩,rr,rr,rr,trivial⟩
   · rw[show quoR (M,f)= .tup [.d .nilsl,.d (.int .i64 f)]from if_pos r]at c15;rw[show(if(M,f).2=0 then(M,f).1 else [])= []from if_neg r];refine spec_of hT (C:= []) Tryz.func36 rfl Tryz.call36 rfl rfl rfl ?_;conv=>whnf
     repeat' (first|(refine CallX.exact (c12) rfl rfl ?_;rotate_right;conv=>whnf)|(refine CallX.exact (c15) rfl rfl ?_;rotate_right;conv=>whnf)|((first|(refine br_intro ?_ ?_<;>intro hb<;>try simp only[brs]at hb)|refine rAx hT 1 oJLnC36_1 ?_|refine rAx hT 2 oJLnC36_2 ?_|refine rAx hT 5 oJLnC36_5 ?_|omega|refine sAx ?_|decide|assumption)<;>conv=>whnf))
     all_goals try(exfalso;contradiction)
     refine .weak _ ?_;conv=>whnf
     exact⟨.d (lins []),offQ h vm his,SV.le_nilS,⟨rfl,rfl⟩,rr,rr,rr,trivial⟩
 · rw[show quoR (L,e)= .tup [.d .nilsl,.d (.int .i64 e)]from if_pos q]at c12;rw[show(if(L,e).2=0 then(L,e).1 else [])= []from if_neg q];have c15:=q15 h.dea hp.dR hp.dE g hp.gK hp.gE hp.cl [] ⟨by simp,by simp⟩;generalize bilV h.dea g []=w at c15 ⊢;obtain⟨M,f⟩:=w
   by_cases r:f=0
   · subst r;rw[show quoR (M,0)= .tup [.d (lins M),.d (.int .i64 0)]from rfl]at c15;rw[show(if(M,(0:Int)).2=0 then(M,(0:Int)).1 else [])=M from rfl];refine spec_of hT (C:= []) Tryz.func36 rfl Tryz.call36 rfl rfl rfl ?_;conv=>whnf
     repeat' (first|(refine CallX.exact (c12) rfl rfl ?_;rotate_right;conv=>whnf)|((first|refine CallX.pure c15 ⟨lr,lr,SV.le_nilS,trivial⟩ rfl ?_|(refine br_intro ?_ ?_<;>intro hb<;>try simp only[brs]at hb)|refine rAx hT 1 oJLnC36_1 ?_|refine rAx hT 2 oJLnC36_2 ?_|refine rAx hT 5 oJLnC36_5 ?_|omega|refine sAx ?_|decide|assumption)<;>conv=>whnf))
     all_goals try(exfalso;contradiction)
     refine .ret _ ?_;conv=>whnf
     exact⟨offQ h vm his,⟨rfl,rfl⟩,rr,rr,rr,trivial⟩
   · rw[show quoR (M,f)= .tup [.d .nilsl,.d (.int .i64 f)]from if_pos r]at c15;rw[show(if(M,f).2=0 then(M,f).1 else [])= []from if_neg r];refine spec_of hT (C:= []) Tryz.func36 rfl Tryz.call36 rfl rfl rfl ?_;conv=>whnf
     repeat' (first|(refine CallX.exact (c12) rfl rfl ?_;rotate_right;conv=>whnf)|((first|refine CallX.pure c15 ⟨lr,lr,SV.le_nilS,trivial⟩ rfl ?_|(refine br_intro ?_ ?_<;>intro hb<;>try simp only[brs]at hb)|refine rAx hT 1 oJLnC36_1 ?_|refine rAx hT 2 oJLnC36_2 ?_|refine rAx hT 5 oJLnC36_5 ?_|omega|refine sAx ?_|decide|assumption)<;>conv=>whnf))
     all_goals try(exfalso;contradiction)
     refine .weak _ ?_;conv=>whnf
     exact⟨.d (lins []),offQ h vm his,SV.le_nilS,⟨rfl,rfl⟩,rr,rr,rr,trivial⟩
set_option maxHeartbeats 8000000 in
theorem q9 (h:Hou)(l:List Ent)(k:offH h l)(g:Hir)(hh:(offZ h l).his.has g.key=true)(hg:(offZ h l).his.val g.key=some g)(h1:1≤g.legs.length)(hl:g.legs.length≤2^40)(hb:opnB g=false→bilP h (vmO h.flt.veh) g):
 FSpec Tryz.prog 9 [hou h,.d (ents l),.d (.str g.key)] [(1000009,KX)] (fun y r=>y=(if opnB g=true then .tup [.d .nilsl,.d (.int .i64 11)]else .tup [.d (lins (linV h (vmO h.flt.veh) g)),.d (.int .i64 0)])∧r= [(1000009,KX)]):=by
 have c1:=wMd h l k;have c2:=q35 h (vmO h.flt.veh) (offZ h l).his g.key g hg hh h1 hl;have c3:=fun z=>q36 h (vmO h.flt.veh) (offZ h l).his g (hb z)
 generalize offZ h l=Z at c1 c2 c3;generalize isort evCmp Z.log=lg at c1;generalize vmO h.flt.veh=vm at c1 c2 c3 ⊢;generalize smO h.flt.sta=sm at c1;generalize linV h vm g=W at c3 ⊢
 cases ho:opnB g with
 | true=>
   rw[ho,if_pos rfl]at c2;rw[if_pos rfl];refine spec_of hT (C:= []) Tryz.func9 rfl Tryz.call9 rfl rfl rfl ?_;conv=>whnf
   repeat' (first|((first|(refine oAx c1 rq10 ?_;rintro y rout ⟨rfl,rfl⟩;refine⟨rfl,?_⟩)|(refine CallX.of c2 [(1000001,22),(1000002,14),(1000008,19)] rfl ⟨lr,lr,trivial⟩ ⟨Res.le_cellsL ⟨lr,lr,lr,lr,lr,lr,lr,lr,lr,lr,lr,lr,lr,lr,lr,lr,lr,SV.le_any _,SV.le_any _,SV.le_any _,SV.le_any _,SV.le_any _,lr,SV.le_any _,SV.le_any _,trivial⟩,rr,rr,trivial⟩ rfl rfl ?_;rintro y rout ⟨rfl,rfl⟩;refine⟨rfl,?_⟩)|(refine br_intro ?_ ?_<;>intro hb<;>try simp only[brs]at hb)|omega|refine sAx ?_|decide|assumption)<;>conv=>whnf))
   all_goals try(exfalso;contradiction)
   refine .ret _ ?_;conv=>whnf
   exact⟨_,⟨rfl,rfl⟩,rr,trivial⟩
 | false=>
   have c3:=c3 ho;rw[ho,if_neg (by simp)]at c2;rw[if_neg (by simp)];refine spec_of hT (C:= []) Tryz.func9 rfl Tryz.call9 rfl rfl rfl ?_;conv=>whnf
   repeat' (first|((first|(refine oAx c1 rq10 ?_;rintro y rout ⟨rfl,rfl⟩;refine⟨rfl,?_⟩)|(refine CallX.of c2 [(1000001,22),(1000002,14),(1000008,19)] rfl ⟨lr,lr,trivial⟩ ⟨Res.le_cellsL ⟨lr,lr,lr,lr,lr,lr,lr,lr,lr,lr,lr,lr,lr,lr,lr,lr,lr,SV.le_any _,SV.le_any _,SV.le_any _,SV.le_any _,SV.le_any _,lr,SV.le_any _,SV.le_any _,trivial⟩,rr,rr,trivial⟩ rfl rfl ?_;rintro y rout ⟨rfl,rfl⟩;refine⟨rfl,?_⟩)|(refine oAx c3 [(1000001,22),(1000002,14),(1000008,19)] ?_;rintro y rout ⟨rfl,rfl⟩;refine⟨rfl,?_⟩)|(refine br_intro ?_ ?_<;>intro hb<;>try simp only[brs]at hb)|omega|refine sAx ?_|decide|assumption)<;>conv=>whnf))
   all_goals try(exfalso;contradiction)
   refine .ret _ ?_;conv=>whnf
   exact⟨_,⟨rfl,rfl⟩,rr,trivial⟩
theorem vmO_has {l:List Veh}{k:List UInt8}(h:(vmO l).has k=true):0≤veIx l k:=by
 have key:∀ (l:List Veh) (m:Mp (List UInt8)),(l.foldl (fun m v=>m.put v.key v.cls) m).has k=true→m.has k=true∨∃v ∈ l,v.key=k:=by
  intro l
  induction l with
  |nil=>intro m h;exact .inl h
  | cons v l ih=>
    intro m h;rcases ih _ h with q|⟨w,q1,q2⟩
    · have q:(decide (k=v.key)||m.has k)=true:=q;rw[Bool.or_eq_true,decide_eq_true_eq]at q;rcases q with q|q
      · exact .inr ⟨v,by simp,q.symm⟩
      · exact .inl q
    · exact .inr ⟨w,by simp[q1],q2⟩
 rcases key l _ h with q|⟨v,q1,q2⟩
 · cases q
 · obtain⟨j,hj,rfl⟩:=mem_getD (d:=veh0) q1;exact ixF_pos hj (by show((l.getD j veh0).key==k)=true;rw[q2];simp)
theorem vmO_val:∀ (n:Nat) (l:List Veh),l.length=n→(∀i j,i<l.length→j<l.length→(l.getD i veh0).key=(l.getD j veh0).key→i=j)→∀i,i<l.length→(vmO l).val (l.getD i veh0).key=(l.getD i veh0).cls:=by
 intro n l hn hu
 have key:∀m,m≤l.length→∀i,i<m→(vmO (l.take m)).val (l.getD i veh0).key=(l.getD i veh0).cls:=by
  intro m
  induction m with
  |zero=>intro _ i hi;omega
  | succ m ih=>
    intro hm i hi;rw[vmO_succ (by omega)];show(if(l.getD i veh0).key=(l.getD m veh0).key then(l.getD m veh0).cls else(vmO (l.take m)).val (l.getD i veh0).key)=_
    by_cases q:(l.getD i veh0).key=(l.getD m veh0).key
    · rw[if_pos q,hu i m (by omega) (by omega) q]
    · rw[if_neg q];have:i≠m:=fun e=>q (by rw[e])
      exact ih (by omega) i (by omega)
 intro i hi;have:=key l.length (Nat.le_refl _) i hi;rwa [List.take_length]at this
theorem vehS_uniq {l:List Veh}(h:vehS l):∀i j,i<l.length→j<l.length→(l.getD i veh0).key=(l.getD j veh0).key→i=j:=by
 intro i j hi hj e;rcases Nat.lt_trichotomy i j with q|q|q
 · have:=h i j q hj;rw[e,less_irr]at this;cases this
 · exact q
 · have:=h j i q hi;rw[e,less_irr]at this;cases this
theorem vm_cls {f:Flt}(h:vehS f.veh){v:List UInt8}(hv:(vmO f.veh).has v=true):0≤veIx f.veh v∧(veIx f.veh v).toNat<f.veh.length∧(vmO f.veh).val v=(f.veh.getD (veIx f.veh v).toNat veh0).cls:=by
 have h0:=vmO_has hv;have hb:=ixF_bd (p:=fun i=>(f.veh.getD i veh0).key==v) (n:=f.veh.length);have hi:(veIx f.veh v).toNat<f.veh.length:=by unfold veIx at*;omega
 have hk:(f.veh.getD (veIx f.veh v).toNat veh0).key=v:=by
  have:=hb.2.2 h0;exact eq_of_beq this
 refine⟨h0,hi,?_⟩;have:=vmO_val _ f.veh rfl (vehS_uniq h) _ hi;rwa [hk]at this
theorem cls_key {f:Flt}(h:fltE f=0){i:Nat}(hi:i<f.veh.length):isKeyB (f.veh.getD i veh0).cls=true:=by
 have h0:fltE0 f=0∧firstAt (vehE1 f) f.veh.length=0:=by
  unfold fltE at h
  by_cases q:fltE0 f=0
  · rw[if_neg (fun c=>c q)]at h;refine⟨q,?_⟩
    by_cases r:firstAt (vehE1 f) f.veh.length=0
    · exact r
    · rw[if_pos r]at h;exact absurd h r
  · rw[if_pos q]at h;exact absurd h q
 have h1:=firstAt_all h0.2 i hi;unfold vehE1 at h1
 have h2:¬clIx f.cls (f.veh.getD i veh0).cls<0:=by
  split at h1
  · cases h1
  · split at h1
    · cases h1
    · split at h1
      · cases h1
      · assumption
 have hb:=ixF_bd (p:=fun j=>(f.cls.getD j cls0).key==(f.veh.getD i veh0).cls) (n:=f.cls.length);have hc:clssE f.cls=0:=firstE_mem h0.1 _ (by simp);have hj:(clIx f.cls (f.veh.getD i veh0).cls).toNat<f.cls.length:=by unfold clIx at*;omega
 have hk:(f.cls.getD (clIx f.cls (f.veh.getD i veh0).cls).toNat cls0).key=(f.veh.getD i veh0).cls:=eq_of_beq (hb.2.2 (by unfold clIx at h2;omega));rw[←hk];unfold clssE at hc;split at hc
 · cases hc
 · have h3:=firstAt_all (firstE_mem hc _ (List.mem_cons_self ..)) _ hj;unfold clsE1 at h3
   cases q:isKeyB (f.cls.getD (clIx f.cls (f.veh.getD i veh0).cls).toNat cls0).key with
   |true=>rfl
   |false=>rw[q]at h3;simp at h3
theorem hirZ_at {h:Hou}{l:List Ent}(k:offH h l){i:Nat}(hi:i<(hirZ h l).length):
 (offZ h l).his.has ((hirZ h l).getD i hi0).key=true∧(offZ h l).his.val ((hirZ h l).getD i hi0).key=some ((hirZ h l).getD i hi0)∧hirE ((hirZ h l).getD i hi0)=0∧∀x ∈ ((hirZ h l).getD i hi0).legs,(vmO h.flt.veh).has x.veh=true:=by
 obtain⟨t1,h1,hb,hc⟩:=offZ_BC h (smO_nil k.hE) (ents_iff.1 k.lE);have hI:offI (2*l.length) l.length (offZ h l):=offN_I h _ _ l l.length (Nat.le_refl _);obtain⟨L,hL1,hL2⟩:=hI.fh;obtain⟨n1,n2,n3⟩:=keysS_spec hL2;have hi':i<(keysS (offZ h l).his.has).length:=by unfold hirZ at hi;rwa [List.length_map]at hi
 have hh:=(n3 _).1 (getD_mem (x:= []) hi');obtain⟨g,e1,e2⟩:=hI.his _ hh
 have eg:(hirZ h l).getD i hi0=g:=by
  unfold hirZ;rw[List.getD_eq_getElem?_getD,List.getElem?_map,List.getElem?_eq_getElem hi'];show hirG (offZ h l).his (keysS (offZ h l).his.has)[i]=g;have e1:=e1;rw[List.getD_eq_getElem?_getD,List.getElem?_eq_getElem hi']at e1;unfold hirG;rw[show(offZ h l).his.val (keysS (offZ h l).his.has)[i]=some g from e1];rfl
 rw[eg,hc.key _ _ e1];exact⟨hh,e1,e2,hc.veh _ _ e1⟩
theorem z38 (x:Veh)(key:List UInt8):FSpec Tryz.prog 38 [.agg ((vehF x).map .d),.ptr 1000001 0] [(1000001,kyC key)] (fun y r=>y= .d (.bool (x.key==key))∧r= [(1000001,kyC key)]):=by
 refine spec_of hT (C:= []) Tryz.func38 rfl Tryz.call38 rfl rfl rfl ?_;conv=>whnf
 refine .ret _ ?_;conv=>whnf
 exact⟨[(1000001,kyC key)],⟨rfl,rfl⟩,rr,trivial⟩
theorem q37 (l:List Veh)(hl:l.length≤2^40)(key:List UInt8):FSpec Tryz.prog 37 [.d (vehs l),.fn 38 [.ptr 1000001 0]] [(1000001,kyC key)] (fun x r=>x= .d (.int .i64 (veIx l key))∧r= [(1000001,kyC key)]):=by
 refine spec_of hT (C:= []) Tryz.func37 rfl Tryz.call37 rfl rfl rfl ?_;conv=>whnf
 refine LoopX.rule hT (C:= []) (ι:=Nat) (fun i=>i≤l.length∧∀j,j<i→((l.getD j veh0).key==key)=false) (fun i=>mkSt [(0,.d (vehs l)),(1,.fn 38 [.ptr 1000001 0]),(7,.d (.int .i64 l.length)),(8,.d (.int .i64 i))] [(1000001,kyC key)]) (fun i=>l.length - i) 0 ⟨by omega,by omega⟩ (by exact eAx [(1000001,1000001)]) ?_;rintro i ⟨p1,p2⟩;have e1:(i:Int).toNat=i:=Int.toNat_natCast i;conv=>whnf
 repeat' (first|((first|(refine oAx (z38 (l.getD (i:Int).toNat veh0) key) [(1000001,1000001)] ?_;rintro x rout ⟨rfl,rfl⟩;refine⟨rfl,?_⟩)|(refine br_intro ?_ ?_<;>intro hb<;>try simp only[brs]at hb)|omega|refine sAx ?_|decide|assumption)<;>conv=>whnf))
 · refine .ret _ ?_;conv=>whnf
   refine⟨[(1000001,kyC key)],⟨?_,rfl⟩,rr,trivial⟩;conv=>lhs;whnf
   congr 2
   exact(ixF_hit (by omega) p2 (by simpa using hb)).symm
 · exact⟨i+1,⟨by omega,all_step p2 (by simpa using hb)⟩,by omega,(by exact eAx [(1000001,1000001)])⟩
 · refine .ret _ ?_;conv=>whnf
   refine⟨[(1000001,kyC key)],⟨?_,rfl⟩,rr,trivial⟩;conv=>lhs;whnf
   congr 2
   have:i=l.length:=by omega
   subst this;exact(ixF_none p2).symm
theorem q11 (f:Flt)(hv:f.veh.length≤2^40)(key:List UInt8):FSpec Tryz.prog 11 [.agg (fltL f),.d (.str key)] [] (fun x r=>x= .d (.int .i64 (veIx f.veh key))∧r= []):=by
 refine spec_of hT (C:= []) Tryz.func11 rfl Tryz.call11 rfl rfl rfl ?_;conv=>whnf
 repeat' (first|((first|(refine oAx (q37 f.veh hv key) [(1000001,3)] ?_;rintro x rout ⟨rfl,rfl⟩;refine⟨rfl,?_⟩)|(refine br_intro ?_ ?_<;>intro hb<;>try simp only[brs]at hb)|omega|refine sAx ?_|decide|assumption)<;>conv=>whnf))
 refine .ret _ ?_;conv=>whnf
 refine⟨[],⟨?_,rfl⟩,trivial⟩;conv=>lhs;whnf
end Go.Proofs.YtkokpbpililcdaaGreatDoor
