/- EntriesFollow is proved: for every input the law returns true, and its argument reads afterwards as it read before. Conditions: those of the given row alone. -/
import Derived.Test.YtafhoijegjmdcaaGreatDoorLzConQua
import Derived.Test.YtafhoijegjmdcaaGreatDoorLzEngTwo
import Derived.Sort.OwnSorted
import Derived.Shelf.Sort.Plain
import Derived.Shelf.Slices.In.SortNone
import Derived.Test.YtafhoijegjmdcaaGreatDoorLzConOne
import Derived.Test.YtafhoijegjmdcaaGreatDoorLzConTri
import Derived.Test.YtafhoijegjmdcaaGreatDoorLzConTwo
set_option linter.unusedVariables false
set_option linter.unusedSimpArgs false
set_option maxHeartbeats 16000000
set_option maxRecDepth 20000
namespace Go.Proofs.YtafhoijegjmdcaaGreatDoor
open Go Go.Eng
def lf:TL:= [(4,[(0,[]),(1,[0]),(2,[]),(3,[]),(4,[]),(5,[4]),(6,[4,5]),(7,[4]),(8,[4]),(9,[4,5,6,7,8]),(10,[4,5,6,7,8,9]),(11,[4,5,6,7,8,9]),(12,[4,5,6,7,8]),(13,[4,5,6,7,8]),(14,[]),(15,[]),(16,[])]),(6,[(0,[]),(1,[0]),(2,[0,1]),(3,[0,1,2]),(4,[0,1,2]),(5,rg 5),(6,rg 6),(7,rg 6),(8,rg 5),(9,rg 5),(10,rg 10),(11,rg 11),(12,rg 10),(13,rg 10),(14,[2,3,4]),(15,[2,3,4]),(16,[]),(17,[])])]
def Di:TL:= [(1,[(0,[]),(1,[]),(2,[0,1]),(3,[0,1]),(5,rg 4),(6,rg 4),(7,[0,1,2,3,5,6]),(8,[0,1,2,3,5,6]),(4,[5,6,7,8]),(9,[]),(10,[]),(11,[]),(12,[])])]
theorem zI (g:FuncId)(cmp:aS→aS→Int)(P l S c0:List aS)(a b0:Nat)(ha:P.length=a)(hbb:a+l.length=b0)(hc0:c0=P++(l++S))(hl:c0.length≤2^20)
 (hcmp:∀p q,p ∈ l→q ∈ l→ae Tryz.prog g [.agg ((eV p).map .d),.agg ((eV q).map .d)] [] (fun y r=>y= .d (.int .i64 (cmp p q))∧r= [])):
 ae Tryz.prog 238 [.buf 1000001,.d (.int .i64 a),.d (.int .i64 b0),.fn g []] [(1000001,aD 72 5 eV cj c0)]
  (fun y r=>y= .tup []∧r= [(1000001,aD 72 5 eV cj (P++(bc cmp l++S)))]):=by
 have hl0:=hl;rw[hc0]at hl0;simp only[List.length_append]at hl0;refine aj hT Tryz.func238 Tryz.call238 ?_;conv=>whnf
 repeat' ((first|refine aa ?_ ?_<;>intro hb<;>try simp only[am]at hb|refine bg hT lf ?_|omega|refine ao ?_|decide|assumption)<;>conv=>whnf)
 refine af hT (C:= []) (ι:=Nat×Nat×List aS) (fun(k,i,c)=>k=a+i∧1≤i∧(i≤l.length∨i=1)∧c=P++((bv cmp (l.take i)).reverse++(l.drop i++S)))
  (fun(k,_,c)=>aJ [(0,.buf 1000001),(1,.d (.int .i64 a)),(2,.d (.int .i64 b0)),(3,.fn g []),(8,.d (.int .i64 k))] [(1000001,aD 72 5 eV cj c)])
  (fun(_,i,_)=>l.length - i) (a+1,1,c0) ⟨rfl,by simp,by simp,by rw[hc0];cases l with|nil=>rfl|cons x l=>simp[bv,fB]⟩ (by exact a7 [(1000001,1000001)]) ?_
 rintro⟨k,i,c⟩ ⟨p0,p1,p2,p3⟩;try dsimp only at p0 p1 p2 p3
 rcases Nat.lt_or_ge i l.length with hi|hi
 · have hx:l[i] ∈ l:=List.getElem_mem hi;have hmem:∀y ∈ bv cmp (l.take i),y ∈ l:=fun y hy=>List.mem_of_mem_take ((jZ cmp _).1 hy)
   have hlr:(bv cmp (l.take i)).length=i:=by rw[fp,List.length_take];omega
   have hc:c=P++((bv cmp (l.take i)).reverse++(l[i]::([]++(l.drop (i+1)++S)))):=by rw[p3,List.drop_eq_getElem_cons hi];rfl
   have hlc:c.length=P.length+l.length+S.length:=by rw[hc];simp only[List.length_append,List.length_cons,List.length_reverse,List.length_drop,List.length_nil,hlr];omega
   conv=>whnf
   repeat' ((first|refine aa ?_ ?_<;>intro hb<;>try simp only[am]at hb|refine bg hT lf ?_|omega|refine ao ?_|decide|assumption)<;>conv=>whnf)
   all_goals try(exfalso;omega)
   refine af hT (C:= []) (ι:=Nat×List aS×List aS×List aS) (fun(j,A,B,b)=>j=a+A.length∧fB cmp l[i] (bv cmp (l.take i))=B.reverse++fB cmp l[i] A∧A.length+B.length=i∧(∀y ∈ A,y ∈ l)∧b=P++(A.reverse++(l[i]::(B++(l.drop (i+1)++S)))))
    (fun(j,_,_,b)=>aJ [(0,.buf 1000001),(1,.d (.int .i64 a)),(2,.d (.int .i64 b0)),(3,.fn g []),(8,.d (.int .i64 k)),(9,.d (.int .i64 j))] [(1000001,aD 72 5 eV cj b)])
    (fun(_,A,_,_)=>A.length) (k,bv cmp (l.take i),[],c) ⟨by omega,by simp,by simpa using hlr,hmem,hc⟩ (by exact a7 [(1000001,1000001)]) ?_
   rintro⟨j,A,B,b⟩ ⟨q0,q1,q2,q3,hbd⟩;try dsimp only at q0 q1 q2 q3 hbd
   have hlen:b.length=P.length+l.length+S.length:=by rw[hbd];simp only[List.length_append,List.length_cons,List.length_reverse,List.length_drop];omega
   have hfin:A= []∨(∃y A',A=y::A'∧0≤cmp l[i] y)→b=P++((bv cmp (l.take (i+1))).reverse++(l.drop (i+1)++S)):=fun h=>by
    have e:bv cmp (l.take (i+1))=B.reverse++l[i]::A:=by
     rw[dh hi,jc,q1];rcases h with rfl|⟨y,A',rfl,h⟩
     · rfl
     · rw[fB,if_neg (by omega)]
    rw[e,hbd];simp
   cases A with
   | nil=>
     simp only[List.length_nil]at q0 q2;conv=>whnf
     repeat' ((first|refine aa ?_ ?_<;>intro hb<;>try simp only[am]at hb|refine bg hT lf ?_|omega|refine ao ?_|decide|assumption)<;>conv=>whnf)
     all_goals try(exfalso;omega)
     exact⟨(k+1,i+1,b),⟨by show k+1=a+(i+1);omega,by show 1≤i+1;omega,.inl hi,hfin (.inl rfl)⟩,by show l.length - (i+1)<l.length - i;omega,(by exact a7 [(1000001,1000001)])⟩
   | cons y A=>
     simp only[List.length_cons]at q0 q2;obtain⟨g1,g2,g3⟩:=uj (P++A.reverse) [] (B++(l.drop (i+1)++S)) y l[i] cj;have hc':b=(P++A.reverse)++y::([]++l[i]::(B++(l.drop (i+1)++S))):=by rw[hbd];simp
     have i1:((j:Int) - 1).toNat=(P++A.reverse).length:=by simp only[List.length_append,List.length_reverse];omega
     have i2:(j:Int).toNat=(P++A.reverse).length+1+([]:List aS).length:=by simp only[List.length_append,List.length_nil,List.length_reverse];omega
     rw[←hc',←i1]at g1;rw[←hc',←i2]at g2;rw[←hc',←i2,←i1]at g3;conv=>whnf
     repeat' ((first|(refine dP.of (hcmp l[i] y hx (q3 y (by simp))) [] rfl ⟨by rw[←g2];exact lr,by rw[←g1];exact lr,trivial⟩ trivial rfl rfl ?_;rintro x rout ⟨rfl,rfl⟩;refine⟨rfl,?_⟩)|refine aa ?_ ?_<;>intro hb<;>try simp only[am]at hb|refine bg hT lf ?_|omega|refine ao ?_|decide|assumption)<;>conv=>whnf)
     all_goals try(exfalso;omega)
     · refine⟨(j - 1,A,y::B,(b.set (j:Int).toNat (b.getD ((j:Int) - 1).toNat cj)).set ((j:Int) - 1).toNat (b.getD (j:Int).toNat cj)),⟨by omega,by rw[q1];simp[fB,hb],by simp only[List.length_cons];omega,fun z hz=>q3 z (by simp[hz]),?_⟩,by show A.length<(y::A).length;simp,ac [(1000001,1000001)] rfl rfl ⟨lr,lr,lr,lr,lr,au (by omega),trivial⟩ ⟨eD (fun _=>rfl) (fun _=>rfl),trivial⟩⟩;rw[List.set_comm _ _ (by omega),g1,g2,g3];simp
     · exact⟨(k+1,i+1,b),⟨by show k+1=a+(i+1);omega,by show 1≤i+1;omega,.inl hi,hfin (.inr ⟨y,A,rfl,by omega⟩)⟩,by show l.length - (i+1)<l.length - i;omega,(by exact a7 [(1000001,1000001)])⟩
 · conv=>whnf
   repeat' ((first|refine aa ?_ ?_<;>intro hb<;>try simp only[am]at hb|refine bg hT lf ?_|omega|refine ao ?_|decide|assumption)<;>conv=>whnf)
   all_goals try(exfalso;omega)
   refine .ret _ ?_;conv=>whnf
   have e1:c=P++(bc cmp l++S):=by
    rw[p3,List.take_of_length_le (by omega),List.drop_eq_nil_iff.2 (by omega),List.nil_append];rfl
   subst e1;exact⟨_,⟨rfl,rfl⟩,rr,trivial⟩
theorem GV (g:FuncId)(f:aS→aS→Int)(hf:iV f)(l:List aS)(hl:l.length≤2^19)
 (hcmp:∀p q,p ∈ l→q ∈ l→ae Tryz.prog g [.agg ((eV p).map .d),.agg ((eV q).map .d)] [] (fun y r=>y= .d (.int .i64 (f p q))∧r= [])):
 ae Tryz.prog 181 [.buf 1000001,.d (.int .i64 l.length),.fn g []] [(1000001,aD 72 5 eV cj l)]
  (fun y r=>y= .tup []∧∃Z,Z.Perm l∧kP f Z∧r= [(1000001,aD 72 5 eV cj Z)]):=by
 obtain⟨n,hn⟩:∃n,n=l.length:=⟨_,rfl⟩;rw[←hn]at hl ⊢;refine aj hT Tryz.func181 Tryz.call181 ?_;conv=>whnf
 repeat' ((first|refine aa ?_ ?_<;>intro hb<;>try simp only[am]at hb|omega|refine ao ?_|decide|assumption)<;>conv=>whnf)
 refine af hT (C:= []) (ι:=Nat×List (List aS)×List aS×List aS) (fun(a,D,R,c)=>(∀x ∈ D,x.length=20∧kP f x)∧D.flatten.length=a∧c=D.flatten++R∧c.Perm l)
  (fun(a,_,_,c)=>aJ [(0,.buf 1000001),(1,.d (.int .i64 n)),(2,.fn g []),(6,.d (.int .i64 20)),(7,.d (.int .i64 a)),(8,.d (.int .i64 ((a+20:Nat):Int)))] [(1000001,aD 72 5 eV cj c)])
  (fun(_,_,R,_)=>R.length) (0,[],l,l) ⟨by simp,rfl,rfl,List.Perm.refl _⟩ (by exact a7 [(1000001,1000001)]) ?_
 rintro⟨a,D,R,c⟩ ⟨p1,p2,p3,p4⟩;try dsimp only at p1 p2 p3 p4
 have q1:a+R.length=n:=by rw[hn,←p4.length_eq,p3,List.length_append,p2]
 rcases Nat.lt_or_ge R.length 20 with q|q
 · have hcI:=zI g f D.flatten R [] c a n p2 q1 (by rw[p3,List.append_nil]) (by rw[p4.length_eq];omega) (fun x y hx hy=>hcmp x y (p4.mem_iff.1 (by rw[p3];simp[hx])) (p4.mem_iff.1 (by rw[p3];simp[hy])));rw[List.append_nil]at hcI
   have p4':(D.flatten++bc f R).Perm l:=by
    refine List.Perm.trans ?_ p4;rw[p3];exact List.Perm.append_left _ (aK f R)
   have hR:(bc f R).length=R.length:=(aK f R).length_eq;have sR:=jK hf R;generalize bc f R=T at hcI p4' hR sR;conv=>whnf
   repeat' ((first|(refine bP hcI [(1000001,1000001)] ?_)|refine aa ?_ ?_<;>intro hb<;>try simp only[am]at hb|omega|refine ao ?_|decide|assumption)<;>conv=>whnf)
   all_goals try(exfalso;omega)
   refine af hT (C:= []) (ι:=Nat×List (List aS)×List aS×List aS) (fun(bs,D,t,c)=>20≤bs∧bs≤2*n+20∧(∀x ∈ D,x.length=bs∧kP f x)∧t.length<bs∧kP f t∧c=D.flatten++t∧c.Perm l)
    (fun(bs,_,_,c)=>aJ [(0,.buf 1000001),(1,.d (.int .i64 n)),(2,.fn g []),(6,.d (.int .i64 bs))] [(1000001,aD 72 5 eV cj c)])
    (fun(bs,_,_,_)=>2*n - bs) (20,D,T,D.flatten++T) ⟨Nat.le_refl _,by show 20≤2*n+20;omega,p1,by show T.length<20;omega,sR,rfl,p4'⟩ (by exact a7 [(1000001,1000001)]) ?_
   clear hcI p4' sR hR p1 p2 p3 p4 q1 q;rintro⟨bs,D,t,c⟩ ⟨p1,p2,p3,p4,p5,p6,p7⟩;try dsimp only at p1 p2 p3 p4 p5 p6 p7
   have q1:D.flatten.length+t.length=n:=by rw[hn,←p7.length_eq,p6,List.length_append]
   rcases Nat.lt_or_ge bs n with q|q
   · conv=>whnf
     repeat' ((first|refine aa ?_ ?_<;>intro hb<;>try simp only[am]at hb|omega|refine ao ?_|decide|assumption)<;>conv=>whnf)
     all_goals try(exfalso;omega)
     refine af hT (C:= []) (ι:=Nat×List (List aS)×List (List aS)×List aS) (fun(a,E,D,c)=>(∀x ∈ E,x.length=2*bs∧kP f x)∧(∀x ∈ D,x.length=bs∧kP f x)∧E.flatten.length=a∧c=E.flatten++(D.flatten++t)∧c.Perm l)
      (fun(a,_,_,c)=>aJ [(0,.buf 1000001),(1,.d (.int .i64 n)),(2,.fn g []),(6,.d (.int .i64 bs)),(7,.d (.int .i64 a)),(8,.d (.int .i64 ((a+2*bs:Nat):Int)))] [(1000001,aD 72 5 eV cj c)])
      (fun(_,_,D,_)=>D.length) (0,[],D,c) ⟨by simp,p3,rfl,p6,p7⟩ (by exact a7 [(1000001,1000001)]) ?_
     clear p3 p6 p7 q1;rintro⟨a,E,D,c⟩ ⟨r1,r2,r3,r4,r5⟩;try dsimp only at r1 r2 r3 r4 r5
     have q1:a+D.flatten.length+t.length=n:=by rw[hn,←r5.length_eq,r4,List.length_append,List.length_append];omega
     have hlc:c.length≤2^20:=by rw[r5.length_eq];omega
     have hcm:∀p q,p ∈ c→q ∈ c→ae Tryz.prog g [.agg ((eV p).map .d),.agg ((eV q).map .d)] [] (fun y r=>y= .d (.int .i64 (f p q))∧r= []):=fun p q hp hq=>hcmp p q (r5.mem_iff.1 hp) (r5.mem_iff.1 hq)
     match D,r2,r4,q1 with
     | [],r2,r4,q1=>
       simp only[List.flatten_nil,List.length_nil,List.nil_append]at q1 r4;conv=>whnf
       repeat' ((first|refine aa ?_ ?_<;>intro hb<;>try simp only[am]at hb|omega|refine ao ?_|decide|assumption)<;>conv=>whnf)
       all_goals try(exfalso;omega)
       exact⟨(2*bs,E,t,c),⟨by show 20≤2*bs;omega,by show 2*bs≤2*n+20;omega,r1,by show t.length<2*bs;omega,p5,r4,r5⟩,by show 2*n - 2*bs<2*n - bs;omega,(by exact a7 [(1000001,1000001)])⟩
     | [c1],r2,r4,q1=>
       simp only[List.flatten_cons,List.flatten_nil,List.append_nil]at q1 r4;have k1:=r2 c1 (by simp)
       by_cases ht:t.length=0
       · have et:t= []:=List.length_eq_zero_iff.1 ht;conv=>whnf
         repeat' ((first|refine aa ?_ ?_<;>intro hb<;>try simp only[am]at hb|omega|refine ao ?_|decide|assumption)<;>conv=>whnf)
         all_goals try(exfalso;omega)
         exact⟨(2*bs,E,c1,c),⟨by show 20≤2*bs;omega,by show 2*bs≤2*n+20;omega,r1,by show c1.length<2*bs;omega,k1.2,by show c=_;rw[r4,et,List.append_nil],r5⟩,by show 2*n - 2*bs<2*n - bs;omega,(by exact a7 [(1000001,1000001)])⟩
       · have hcS:=yQ g f hf (c1.length+t.length) E.flatten c1 t [] c a (a+bs) n (Nat.le_refl _) r3 (by omega) (by omega) (by rw[r4];simp) (by omega) (by omega) k1.2 p5 hlc (fun p q hp hq=>hcm p q (by rw[r4];exact List.mem_append_right _ hp) (by rw[r4];exact List.mem_append_right _ hq));conv=>whnf
         repeat' ((first|(refine dP.of hcS [(1000001,1000001)] rfl ⟨lr,lr,au (by omega),lr,lr,trivial⟩ ⟨rr,trivial⟩ rfl rfl ?_;rintro y rout ⟨rfl,Z,z1,z2,rfl⟩;refine⟨rfl,?_⟩)|refine aa ?_ ?_<;>intro hb<;>try simp only[am]at hb|omega|refine ao ?_|decide|assumption)<;>conv=>whnf)
         all_goals try(exfalso;omega)
         have hz:=z1.length_eq;rw[List.length_append]at hz;rw[List.append_nil]at*
         exact⟨(2*bs,E,Z,E.flatten++Z),⟨by show 20≤2*bs;omega,by show 2*bs≤2*n+20;omega,r1,by show Z.length<2*bs;omega,z2,rfl,(List.Perm.append_left _ z1).trans (by rw[←r4];exact r5)⟩,by show 2*n - 2*bs<2*n - bs;omega,(by exact a7 [(1000001,1000001)])⟩
     | c1::c2::D,r2,r4,q1=>
       simp only[List.flatten_cons,List.length_append]at q1;have k1:=r2 c1 (by simp);have k2:=r2 c2 (by simp);have r4':c=E.flatten++(c1++(c2++(D.flatten++t))):=by rw[r4];simp
       have hcS:=yQ g f hf (c1.length+c2.length) E.flatten c1 c2 (D.flatten++t) c a (a+bs) (a+2*bs) (Nat.le_refl _) r3 (by omega) (by omega) r4' (by omega) (by omega) k1.2 k2.2 hlc (fun p q hp hq=>hcm p q (by rw[r4'];rcases List.mem_append.1 hp with u|u<;>simp[u]) (by rw[r4'];rcases List.mem_append.1 hq with u|u<;>simp[u]));conv=>whnf
       repeat' ((first|(refine dP.of hcS [(1000001,1000001)] rfl ⟨lr,lr,au (by omega),lr,lr,trivial⟩ ⟨rr,trivial⟩ rfl rfl ?_;rintro y rout ⟨rfl,Z,z1,z2,rfl⟩;refine⟨rfl,?_⟩)|refine aa ?_ ?_<;>intro hb<;>try simp only[am]at hb|omega|refine ao ?_|decide|assumption)<;>conv=>whnf)
       all_goals try(exfalso;omega)
       have hz:=z1.length_eq;rw[List.length_append]at hz;refine⟨(a+2*bs,E++ [Z],D,E.flatten++(Z++(D.flatten++t))),⟨fun x hx=> ?_,fun x hx=>r2 x (by simp[hx]),by simp only[List.flatten_append,List.flatten_cons,List.flatten_nil,List.append_nil,List.length_append];omega,by simp,?_⟩,by show D.length<(c1::c2::D).length;simp;omega,(by exact a7 [(1000001,1000001)])⟩
       · rcases List.mem_append.1 hx with u|u
         · exact r1 x u
         · rw[List.mem_singleton]at u;subst u;exact⟨by omega,z2⟩
       · refine List.Perm.trans ?_ r5;rw[r4',←List.append_assoc c1];exact List.Perm.append_left _ (z1.append_right _)
   · conv=>whnf
     repeat' ((first|refine aa ?_ ?_<;>intro hb<;>try simp only[am]at hb|omega|refine ao ?_|decide|assumption)<;>conv=>whnf)
     all_goals try(exfalso;omega)
     refine .ret _ ?_;conv=>whnf
     refine⟨_,⟨rfl,c,p7,?_,rfl⟩,rr,trivial⟩
     match D,p3,p6,q1 with
     | [],p3,p6,q1=>rw[p6];exact p5
     | c1::D,p3,p6,q1=>
       have k1:=p3 c1 (by simp);simp only[List.flatten_cons,List.length_append]at q1;have h1:D.flatten= []:=List.length_eq_zero_iff.1 (by omega);have h2:t= []:=List.length_eq_zero_iff.1 (by omega);rw[p6,List.flatten_cons,h1,h2,List.append_nil,List.append_nil];exact k1.2
 · have hT0:(R.take 20).length=20:=by rw[List.length_take];omega
   have hR:R.take 20++R.drop 20=R:=List.take_append_drop 20 R;have hD:(R.drop 20).length=R.length - 20:=List.length_drop ..;generalize R.take 20=R1 at hT0 hR;generalize R.drop 20=R2 at hR hD;subst hR;have hcI:=zI g f D.flatten R1 R2 c a (a+20) p2 (by omega) p3 (by rw[p4.length_eq];omega) (fun x y hx hy=>hcmp x y (p4.mem_iff.1 (by rw[p3];simp[hx])) (p4.mem_iff.1 (by rw[p3];simp[hy])));conv=>whnf
   repeat' ((first|(refine bP hcI [(1000001,1000001)] ?_)|refine aa ?_ ?_<;>intro hb<;>try simp only[am]at hb|omega|refine ao ?_|decide|assumption)<;>conv=>whnf)
   all_goals try(exfalso;omega)
   refine⟨(a+20,D++ [bc f R1],R2,D.flatten++(bc f R1++R2)),⟨fun x hx=> ?_,by simp only[List.flatten_append,List.flatten_cons,List.flatten_nil,List.append_nil,List.length_append,(aK f R1).length_eq];omega,by simp,?_⟩,by show R2.length<(R1++R2).length;rw[List.length_append];omega,(by exact a7 [(1000001,1000001)])⟩
   · rcases List.mem_append.1 hx with u|u
     · exact p1 x u
     · rw[List.mem_singleton]at u;subst u;exact⟨by rw[(aK f R1).length_eq];exact hT0,jK hf R1⟩
   · refine List.Perm.trans ?_ p4;rw[p3];exact List.Perm.append_left _ ((aK f R1).append_right _)
theorem x6 (g:FuncId)(f:aS→aS→Int)(hf:iV f)(l:List aS)(hl:l.length≤2^19)(hz:∀a ∈ l,∀b ∈ l,f a b=0→a=b)
 (hcmp:∀p q,p ∈ l→q ∈ l→ae Tryz.prog g [.agg ((eV p).map .d),.agg ((eV q).map .d)] [] (fun y r=>y= .d (.int .i64 (f p q))∧r= [])):
 ae Tryz.prog 122 [.buf 1000001,.fn g []] [(1000001,aD 72 5 eV cj l)]
  (fun y r=>y= .tup []∧r= [(1000001,aD 72 5 eV cj (bc f l))]):=by
 refine aj hT Tryz.func122 Tryz.call122 ?_;conv=>whnf
 repeat' ((first|(refine dp (GV g f hf l hl hcmp) [(1000001,1000001)] ?_;rintro y rout ⟨rfl,Z,z1,z2,rfl⟩;refine⟨rfl,?_⟩)|refine aa ?_ ?_<;>intro hb<;>try simp only[am]at hb|omega|refine ao ?_|decide|assumption)<;>conv=>whnf)
 refine .ret _ ?_;conv=>whnf
 rw[nv hf hz z1 z2];exact⟨_,⟨rfl,rfl⟩,rr,trivial⟩
def aX (a b:aS):Int:=ah [bJ a.tm b.tm,dq a.veh b.veh]
theorem AH:aX=tX (fun a b=>bJ a.tm b.tm) (fun a b=>dq a.veh b.veh):=by
 funext a b
 unfold aX tX;simp only[ah];grind
theorem dx:iV aX:=by
 rw[AH];exact(iV.int (fun a:aS=>a.tm)).seq (iV.str (fun a:aS=>a.veh))
theorem m6 {a b:aS}(h:aX a b=0):a.tm=b.tm∧a.veh=b.veh:=by
 unfold aX at h;exact⟨dw.1 (bf h _ (by simp)),mb.1 (bf h _ (by simp))⟩
theorem ID (a b:aS):ae Tryz.prog 123 [.agg ((eV a).map .d),.agg ((eV b).map .d)] [] (fun x r=>x= .d (.int .i64 (aX a b))∧r= []):=by
 refine aj hT Tryz.func123 Tryz.call123 ?_;conv=>whnf
 repeat' (first|(refine ab (wP _ _) rfl rfl ?_;rotate_right;conv=>whnf)|(refine ab (Fo _ _) rfl rfl ?_;rotate_right;conv=>whnf)|((first|refine ap (BW [_,_] (by simp)) ⟨ai (by rfl) (by rfl),trivial⟩ rfl ?_|refine aa ?_ ?_<;>intro hb<;>try simp only[am]at hb|refine bg hT Di ?_|omega|refine ao ?_|decide|assumption)<;>conv=>whnf))
 refine .ret _ ?_;conv=>whnf
 refine⟨[],⟨?_,rfl⟩,trivial⟩;conv=>lhs;whnf
 rfl
theorem vK {l:List aS}(h:l.Pairwise fun a b=>¬ (a.veh=b.veh∧a.tm=b.tm)):∀a ∈ l,∀b ∈ l,aX a b=0→a=b:=fun a ha b hb e=>by
 obtain⟨e1,e2⟩:=m6 e;obtain⟨i,hi,rfl⟩:=List.getElem_of_mem ha;obtain⟨j,hj,rfl⟩:=List.getElem_of_mem hb;rcases Nat.lt_trichotomy i j with q|q|q
 · exact absurd ⟨e2,e1⟩ (List.pairwise_iff_getElem.1 h i j hi hj q)
 · subst q;rfl
 · exact absurd ⟨e2.symm,e1.symm⟩ (List.pairwise_iff_getElem.1 h j i hj hi q)
theorem DT (l:List aS)(hl:l.length≤2^19)(h:l.Pairwise fun a b=>¬ (a.veh=b.veh∧a.tm=b.tm)):ae Tryz.prog 122 [.buf 1000001,.fn 123 []] [(1000001,nC l)] (fun y r=>y= .tup []∧r= [(1000001,nC (bc aX l))]):=
 x6 123 aX dx l hl (vK h) fun p q _ _=>ID p q
def oG (v:List UInt8)(l:List aS):List aS:=l.filter fun x=>decide (x.veh=v)
def HB (l:List aS):gh:=l.foldl gp ep
def Gy:gh→List aS→Prop
 |_,[]=>True
 |s,x::l=>dF s x=true∧Gy (gp s x) l
theorem vU:∀ (l:List aS) (s:gh) (x:aS),Gy s (l++ [x])↔Gy s l∧dF (l.foldl gp s) x=true
 | [],s,x=>⟨fun h=>⟨trivial,h.1⟩,fun h=>⟨h.2,trivial⟩⟩
 | y::l,s,x=>by
   show dF s y=true∧Gy (gp s y) (l++ [x])↔(dF s y=true∧Gy (gp s y) l)∧_;rw[vU l (gp s y) x,and_assoc];rfl
structure BT (vm:Mp (List UInt8))(sm:Mp Bool)(x:aS):Prop where
 tm:0≤x.tm∧x.tm≤5761439
 veh:vm.has x.veh=true
 st:sm.val x.st=true
 kind:1≤x.kind∧x.kind≤8
 to:x.to≠ []→x.kind=6
 lv:x.kind=6→sm.val x.to=true
 ne:x.to≠x.st
structure gI (vm:Mp (List UInt8))(sm:Mp Bool)(now:Int)(s:da):Prop where
 inc:s.log.Pairwise fun a b=>a.tm≤b.tm
 low:∀x ∈ s.log,x.tm≤now
 rt:∀x ∈ s.log,BT vm sm x
 cur:∀v,s.sts.val v=HB (oG v s.log)
 ok:∀v,Gy ep (oG v s.log)
theorem xw (v:List UInt8)(l:List aS)(x:aS):oG v (l++ [x])=oG v l++(if x.veh=v then [x]else []):=by
 unfold oG;rw[List.filter_append];congr 1
 by_cases h:x.veh=v
 · rw[if_pos h,List.filter_cons_of_pos (by simpa using h)];rfl
 · rw[if_neg h,List.filter_cons_of_neg (by simpa using h)];rfl
theorem gI.say {vm:Mp (List UInt8)}{sm:Mp Bool}{now:Int}{s:da}(h:gI vm sm now s){x:aS}(hx:BT vm sm x)(ht:x.tm=now)(hok:dF (s.sts.val x.veh) x=true):gI vm sm now (fy s x) where
 inc:=by
  show(s.log++ [x]).Pairwise _;rw[List.pairwise_append];exact⟨h.inc,List.pairwise_singleton _ _,fun a ha b hb=>by rw[List.mem_singleton]at hb;rw[hb,ht];exact h.low a ha⟩
 low:=fun y hy=>by
  rcases List.mem_append.1 (show y ∈ s.log++ [x]from hy)with q|q
  · exact h.low y q
  · rw[List.mem_singleton]at q;rw[q,ht];exact Int.le_refl _
 rt:=fun y hy=>by
  rcases List.mem_append.1 (show y ∈ s.log++ [x]from hy)with q|q
  · exact h.rt y q
  · rw[List.mem_singleton]at q;rw[q];exact hx
 cur:=fun v=>by
  show(if v=x.veh then gp (s.sts.val x.veh) x else s.sts.val v)=HB (oG v (s.log++ [x]));rw[xw]
  by_cases q:v=x.veh
  · rw[if_pos q,if_pos q.symm,q];unfold HB;rw[List.foldl_append];show gp (s.sts.val x.veh) x=gp (HB (oG x.veh s.log)) x;rw[h.cur x.veh]
  · rw[if_neg q,if_neg (fun e=>q e.symm),List.append_nil];exact h.cur v
 ok:=fun v=>by
  show Gy ep (oG v (s.log++ [x]));rw[xw]
  by_cases q:x.veh=v
  · rw[if_pos q,vU];refine⟨h.ok v,?_⟩;have:=h.cur v;rw[q]at hok;rw[this]at hok;exact hok
  · rw[if_neg q,List.append_nil];exact h.ok v
theorem gI.later {vm:Mp (List UInt8)}{sm:Mp Bool}{now t:Int}{s:da}(h:gI vm sm now s)(ht:now≤t):gI vm sm t s:=
 ⟨h.inc,fun x hx=>by have:=h.low x hx;omega,h.rt,h.cur,h.ok⟩
theorem Dv {vm:Mp (List UInt8)}{sm:Mp Bool}{now:Int}{s:da}(h:gI vm sm now s)(ha:s.log.Pairwise fun a b=>¬ (a.veh=b.veh∧a.tm=b.tm))(v:List UInt8):oG v (bc aX s.log)=oG v s.log:=by
 have key:∀ {l:List aS},l.Pairwise (fun a b=>a.veh=b.veh→a.tm<b.tm)→(oG v l).Pairwise fun a b=>a.tm<b.tm:=fun{l} hl=>by
  refine List.Pairwise.imp_of_mem (fun{a b} ha hb hab=> ?_) (hl.sublist (show(oG v l).Sublist l from List.filter_sublist));have h1:a.veh=v:=by simpa using(List.mem_filter.1 ha).2
  have h2:b.veh=v:=by simpa using(List.mem_filter.1 hb).2
  exact hab (by rw[h1,h2])
 have hp:(oG v (bc aX s.log)).Perm (oG v s.log):=(aK aX s.log).filter _;refine List.Perm.eq_of_pairwise (le:=fun a b:aS=>a.tm<b.tm) (fun x y _ _ q1 q2=>by omega) (key ?_) (key ?_) hp
 · have h1:=jK dx s.log;have h2:(bc aX s.log).Pairwise fun a b=>¬ (a.veh=b.veh∧a.tm=b.tm):=(aK aX s.log).symm.pairwise ha fun{a b} q e=>q ⟨e.1.symm,e.2.symm⟩
   refine(h1.and h2).imp fun{a b} q e=> ?_
   have h3:bJ a.tm b.tm≤0:=by
    have:=q.1;unfold aX at this;simp only[ah]at this
    by_cases z:bJ a.tm b.tm=0
    · omega
    · rw[if_neg z]at this;exact this
   have h4:a.tm≠b.tm:=fun z=>q.2 ⟨e,z⟩
   by_cases z:bJ a.tm b.tm=0
   · exact absurd (dw.1 z) h4
   · exact qx.1 (by omega)
 · refine(h.inc.and ha).imp fun{a b} q e=> ?_
   have:=q.1;have h4:a.tm≠b.tm:=fun z=>q.2 ⟨e,z⟩
   omega
def iD (x:na):Int:=if x.inn.tm= -1 then 5761440 else x.inn.tm
structure jn (vm:Mp (List UInt8))(now:Int)(s:da):Prop where
 key:∀k g,s.his.val k=some g→g.key=k
 veh:∀k g,s.his.val k=some g→∀x ∈ g.legs,vm.has x.veh=true
 past:∀k g,s.his.val k=some g→∀x ∈ g.legs,x.out.tm≤now∧(x.inn.tm≠-1→x.inn.tm≤now)
 opn:∀k g,s.his.val k=some g→∀x ∈ g.legs,x.inn.tm= -1→(s.sts.val x.veh).k=2
 dis:∀k1 k2 g1 g2,k1≠k2→s.his.val k1=some g1→s.his.val k2=some g2→∀x ∈ g1.legs,∀y ∈ g2.legs,x.veh=y.veh→iD x≤y.out.tm∨iD y≤x.out.tm
theorem jn.later {vm:Mp (List UInt8)}{now t:Int}{s:da}(h:jn vm now s)(ht:now≤t):jn vm t s:=
 ⟨h.key,h.veh,fun k g hk x hx=>⟨by have:=(h.past k g hk x hx).1;omega,fun q=>by have:=(h.past k g hk x hx).2 q;omega⟩,h.opn,h.dis⟩
theorem jn.same {vm:Mp (List UInt8)}{now:Int}{s s':da}(h:jn vm now s)(hh:s'.his=s.his)(ho:∀v,(s.sts.val v).k=2→(s'.sts.val v).k=2):jn vm now s':=by
 refine⟨?_,?_,?_,?_,?_⟩<;>rw[hh]
 · exact h.key
 · exact h.veh
 · exact h.past
 · exact fun k g hk x hx q=>ho _ (h.opn k g hk x hx q)
 · exact h.dis
theorem jn.put {vm:Mp (List UInt8)}{now:Int}{s s':da}(h:jn vm now s){key:List UInt8}{g':cq}(hh:s'.his=s.his.put key (some g'))(hk:g'.key=key)(hv:∀x ∈ g'.legs,vm.has x.veh=true)
 (hp:∀x ∈ g'.legs,x.out.tm≤now∧(x.inn.tm≠-1→x.inn.tm≤now))(ho:∀x ∈ g'.legs,x.inn.tm= -1→(s'.sts.val x.veh).k=2)
 (hs:∀k g,k≠key→s.his.val k=some g→∀y ∈ g.legs,y.inn.tm= -1→(s'.sts.val y.veh).k=2)
 (hd:∀k g,k≠key→s.his.val k=some g→∀x ∈ g'.legs,∀y ∈ g.legs,x.veh=y.veh→iD x≤y.out.tm∨iD y≤x.out.tm):jn vm now s':=by
 have hval:∀k,s'.his.val k=if k=key then some g' else s.his.val k:=fun k=>by rw[hh];rfl
 have hc:∀k g,s'.his.val k=some g→(k=key∧g=g')∨(k≠key∧s.his.val k=some g):=fun k g hk=>by
  rw[hval]at hk
  by_cases q:k=key
  · rw[if_pos q]at hk;exact .inl ⟨q,(Option.some.inj hk).symm⟩
  · rw[if_neg q]at hk;exact .inr ⟨q,hk⟩
 refine⟨fun k g hk' => ?_,fun k g hk' => ?_,fun k g hk' => ?_,fun k g hk' => ?_,fun k1 k2 g1 g2 hne h1 h2=> ?_⟩
 · rcases hc k g hk' with⟨e1,e2⟩|⟨e1,e2⟩
   · rw[e1,e2];exact hk
   · exact h.key k g e2
 · rcases hc k g hk' with⟨e1,e2⟩|⟨e1,e2⟩
   · rw[e2];exact hv
   · exact h.veh k g e2
 · rcases hc k g hk' with⟨e1,e2⟩|⟨e1,e2⟩
   · rw[e2];exact hp
   · exact h.past k g e2
 · rcases hc k g hk' with⟨e1,e2⟩|⟨e1,e2⟩
   · rw[e2];exact ho
   · exact hs k g e1 e2
 · rcases hc k1 g1 h1 with⟨a1,a2⟩|⟨a1,a2⟩<;>rcases hc k2 g2 h2 with⟨b1,b2⟩|⟨b1,b2⟩
   · exact absurd (a1.trans b1.symm) hne
   · rw[a2];exact hd k2 g2 b1 b2
   · rw[b2];exact fun x hx y hy e=>(hd k1 g1 a1 a2 y hy x hx e.symm).symm
   · exact h.dis k1 k2 g1 g2 hne a2 b2
theorem s7 {w:List UInt8}(h:aM.has w=true):aM.val w=1∨aM.val w=4∨aM.val w=5∨aM.val w=6∨aM.val w=7∨aM.val w=8:=by
 simp only[aM,Mp.put,Mp.nil,Bool.or_eq_true,decide_eq_true_eq,Bool.false_eq_true,or_false]at h ⊢;grind
theorem EP {s:gh}{x:aS}(hk:x.kind=1∨x.kind=4∨x.kind=5∨x.kind=6∨x.kind=7∨x.kind=8)(h:dF s x=true):s.k≠2:=by
 unfold dF at h;intro e;rw[e]at h;rcases hk with q|q|q|q|q|q<;>simp[q]at h
theorem zN {s:gh}{x:aS}(hk:x.kind=2)(h:dF s x=true):s.k=1∧(gp s x).k=2:=by
 constructor
 · unfold dF at h;simp[hk]at h;exact h.1
 · unfold gp;rw[if_pos h];simp[hk]
variable {vm:Mp (List UInt8)} {sm:Mp Bool} {now:Int} {s:da}
theorem g8 (s:da)(x:aS)(v:List UInt8):(fy s x).sts.val v=if v=x.veh then gp (s.sts.val x.veh) x else s.sts.val v:=rfl
theorem jn.free (h:jn vm now s){v:List UInt8}(h1:(s.sts.val v).k=1){k:List UInt8}{g:cq}(hk:s.his.val k=some g){y:na}(hy:y ∈ g.legs)(e:y.veh=v):y.inn.tm≠-1:=fun q=>by
 have:=h.opn k g hk y hy q;rw[e,h1]at this;exact absurd this (by decide)
theorem jn.one (h:jn vm now s)(hn:now≤5761439){k1 k2:List UInt8}{g1 g2:cq}(hne:k1≠k2)(h1:s.his.val k1=some g1)(h2:s.his.val k2=some g2){x y:na}(hx:x ∈ g1.legs)(hy:y ∈ g2.legs)(e:x.veh=y.veh)(q1:x.inn.tm= -1):y.inn.tm≠-1∧iD y≤x.out.tm:=by
 have p1:=(h.past k1 g1 h1 x hx).1;have p2:=(h.past k2 g2 h2 y hy).1;have hd:=h.dis k1 k2 g1 g2 hne h1 h2 x hx y hy e;unfold iD at hd;rw[if_pos q1]at hd;unfold iD
 by_cases r:y.inn.tm= -1
 · rw[if_pos r]at hd;omega
 · rw[if_neg r]at hd ⊢;exact⟨r,by omega⟩
theorem FK (hb:gI vm sm now s)(hc:jn vm now s)(hsm:sm.val []=false)(hn:0≤now∧now≤5761439){t:ik}(hk:aM.has t.word=true):gI vm sm now (kg vm sm s (eZ now t))∧jn vm now (kg vm sm s (eZ now t)):=by
 unfold kg;split
 · rename_i e;unfold kU at e;have e1:=bf e _ (List.mem_cons_self ..);have e2:=bf e _ (List.mem_cons_of_mem _ (List.mem_cons_self ..));have e3:=(dO (bf e (dV s (eZ now t)) (by simp))).2;have hkv:=s7 hk;have hK:(eZ now t).kind=aM.val t.word:=rfl;have hT:(eZ now t).to=if aM.val t.word=6 then t.texts.getD 2 []else []:=rfl
   have h1:(!vm.has (eZ now t).veh||(!sm.val (eZ now t).st||(decide ((eZ now t).kind=6)&& !sm.val (eZ now t).to)))=false:=by
    cases q:(!vm.has (eZ now t).veh||(!sm.val (eZ now t).st||(decide ((eZ now t).kind=6)&& !sm.val (eZ now t).to)))with
    |false=>rfl
    |true=>rw[q]at e1;exact absurd e1 (by decide)
   have h2:(decide ((eZ now t).kind=6)&&decide ((eZ now t).to=(eZ now t).st))=false:=by
    cases q:(decide ((eZ now t).kind=6)&&decide ((eZ now t).to=(eZ now t).st))with
    |false=>rfl
    |true=>rw[q]at e2;exact absurd e2 (by decide)
   simp only[Bool.or_eq_false_iff,Bool.not_eq_false']at h1;obtain⟨a1,a2,a3⟩:=h1
   have hr:BT vm sm (eZ now t):=by
    refine⟨hn,a1,a2,by rw[hK];omega,fun q=> ?_,fun q=> ?_,fun q=> ?_⟩
    · by_cases r:aM.val t.word=6
      · rw[hK];exact r
      · rw[hT,if_neg r]at q;exact absurd rfl q
    · rw[q]at a3;simpa using a3
    · by_cases r:aM.val t.word=6
      · rw[hK,decide_eq_true r,Bool.true_and,decide_eq_false_iff_not]at h2;exact h2 q
      · rw[hT,if_neg r]at q;rw[←q,hsm]at a2;cases a2
   refine⟨hb.say hr rfl e3,hc.same rfl fun v hv=> ?_⟩;rw[g8]
   by_cases q:v=(eZ now t).veh
   · rw[q]at hv;exact absurd hv (EP (by rw[hK];exact hkv) e3)
   · rw[if_neg q];exact hv
 · exact⟨hb,hc⟩
theorem IB (hb:gI vm sm now s)(hc:jn vm now s)(hsm:sm.val []=false)(hn:0≤now∧now≤5761439)(t:ik):gI vm sm now (r7 vm sm s now t)∧jn vm now (r7 vm sm s now t):=by
 unfold r7;split
 · rename_i e;unfold vC at e
   by_cases q:aT (fw now t)=0
   · rw[if_neg (fun c=>c q)]at e;have e2:=bf e _ (List.mem_cons_of_mem _ (List.mem_cons_self ..));have e3:=(dO (bf e (dV s (ia now t)) (by simp))).2;obtain⟨o1,o2⟩:=zN (x:=ia now t) rfl e3
     have h1:(!vm.has (t.texts.getD 2 [])|| !sm.val (t.texts.getD 3 []))=false:=by
      cases q:(!vm.has (t.texts.getD 2 [])|| !sm.val (t.texts.getD 3 []))with
      |false=>rfl
      |true=>rw[q]at e2;exact absurd e2 (by decide)
     simp only[Bool.or_eq_false_iff,Bool.not_eq_false']at h1
     have hr:BT vm sm (ia now t):=⟨hn,h1.1,h1.2,⟨by show(1:Int)≤2;decide,by show(2:Int)≤8;decide⟩,fun q=>absurd rfl q,fun q=>absurd (show(2:Int)=6 from q) (by decide),fun q=>by
      have:t.texts.getD 3 []= []:=q.symm
      rw[this,hsm]at h1;cases h1.2⟩
     refine⟨?_,hc.put (key:=t.texts.getD 0 []) (g':=fw now t) rfl rfl (fun x hx=> ?_) (fun x hx=> ?_) (fun x hx _=> ?_) (fun k g hne hk y hy q' => ?_) (fun k g hne hk x hx y hy e' => ?_)⟩
     · have h3:=hb.say hr rfl e3;exact⟨h3.inc,h3.low,h3.rt,h3.cur,h3.ok⟩
     · have:x=⟨t.texts.getD 2 [],⟨now,t.texts.getD 3 [],t.nums.getD 1 0,t.nums.getD 2 0⟩,r8⟩:=List.mem_singleton.1 hx;rw[this];exact h1.1
     · have:x=⟨t.texts.getD 2 [],⟨now,t.texts.getD 3 [],t.nums.getD 1 0,t.nums.getD 2 0⟩,r8⟩:=List.mem_singleton.1 hx;rw[this];exact⟨Int.le_refl _,fun c=>absurd rfl c⟩
     · have:x=⟨t.texts.getD 2 [],⟨now,t.texts.getD 3 [],t.nums.getD 1 0,t.nums.getD 2 0⟩,r8⟩:=List.mem_singleton.1 hx;rw[this];show((fy s (ia now t)).sts.val (t.texts.getD 2 [])).k=2;rw[g8,if_pos (show t.texts.getD 2 []=(ia now t).veh from rfl)];exact o2
     · show((fy s (ia now t)).sts.val y.veh).k=2;rw[g8,if_neg (fun r=>hc.free o1 hk hy r q')];exact hc.opn k g hk y hy q'
     · have hxe:x=⟨t.texts.getD 2 [],⟨now,t.texts.getD 3 [],t.nums.getD 1 0,t.nums.getD 2 0⟩,r8⟩:=List.mem_singleton.1 hx;right;have h5:=hc.free o1 hk hy (by rw[←e',hxe];rfl);have h6:=(hc.past k g hk y hy).2 h5;unfold iD;rw[if_neg h5,hxe];exact h6
   · rw[if_pos q]at e;exact absurd e q
 · exact⟨hb,hc⟩
theorem lw {g:cq}(h:aT g=0){x:na}{i:Nat}(hi:i<g.legs.length)(hx:g.legs.getD i cr=x)(hl:i+1<g.legs.length):x.inn.tm≠-1:=fun q=>by
 have hA:=(e6 h).2.2.2.2.2 i hi;unfold iQ at hA;rw[hx]at hA;rw[if_pos q,if_pos (show(i:Int)<(g.legs.length:Int) - 1 by omega)]at hA;grind
theorem lL {g:cq}(h:aT g=0)(r:ij){x:na}(hx:x ∈ ct g.legs r):(x ∈ g.legs∧x.inn.tm≠-1)∨∃y ∈ g.legs,x={y with inn:=r}∧y=g.legs.getD (g.legs.length - 1) cr:=by
 have hK:=e6 h;obtain⟨i,hi,rfl⟩:=bI (d:=cr) hx;rw[cU]at hi;unfold ct;rw[show((g.legs.length:Int) - 1).toNat=g.legs.length - 1 by omega,List.getD_eq_getElem?_getD,List.getElem?_set]
 by_cases q:g.legs.length - 1=i
 · right;rw[if_pos q,if_pos (by omega)];exact⟨g.legs.getD (g.legs.length - 1) cr,al (by omega),rfl,rfl⟩
 · left;rw[if_neg q,←List.getD_eq_getElem?_getD];exact⟨al hi,lw h hi rfl (by omega)⟩
theorem gr {g:cq}(h:aT g=0)(ho:fx g=true):(g.legs.getD (g.legs.length - 1) cr) ∈ g.legs∧(g.legs.getD (g.legs.length - 1) cr).inn.tm= -1∧(g.legs.getD (g.legs.length - 1) cr).veh=eJ g:=by
 have hK:=e6 h;unfold fx at ho;rw[show((g.legs.length:Int) - 1).toNat=g.legs.length - 1 by omega]at ho;refine⟨al (by omega),by simpa using ho,?_⟩;unfold eJ;rw[show((g.legs.length:Int) - 1).toNat=g.legs.length - 1 by omega]
theorem Jr (hi:∀k,s.his.has k=true→∃g,s.his.val k=some g∧aT g=0)(hb:gI vm sm now s)(hc:jn vm now s)(hsm:sm.val []=false)(hn:0≤now∧now≤5761439)(t:ik):gI vm sm now (sB vm sm s now t)∧jn vm now (sB vm sm s now t):=by
 unfold sB;split
 · rename_i e;unfold t8 at e
   by_cases q:s.his.has (t.texts.getD 0 [])=true
   · rw [if_pos q]at e;obtain⟨g,hg,hE⟩:=hi _ q;have hgd:(s.his.val (t.texts.getD 0 [])).getD fq=g:=by rw[hg];rfl
     rw[hgd]at e ⊢;obtain⟨⟨_,ho,hN⟩,hkn,hcan⟩:=qG e;obtain⟨l1,l2,l3⟩:=gr hE ho
     have hkey:(aY g now t).key=t.texts.getD 0 []:=by
      have:=hc.key _ g hg;unfold aY;split
      · exact this
      · split
        · exact this
        · exact this
     have hold:vm.has (eJ g)=true:=by rw[←l3];exact hc.veh _ g hg _ l1
     have hst2:(s.sts.val (eJ g)).k=2:=by rw[←l3];exact hc.opn _ g hg _ l1 l2
     have hno:∀k g',k≠t.texts.getD 0 []→s.his.val k=some g'→∀y ∈ g'.legs,y.inn.tm= -1→y.veh≠eJ g:=fun k g' hne hk y hy hq er=>
      (hc.one hn.2 (fun z=>hne z.symm) hg hk l1 hy (by rw[l3,er]) l2).1 hq
     have hclo:∀r:ij,r.tm=now→∀k g',k≠t.texts.getD 0 []→s.his.val k=some g'→∀x ∈ ct g.legs r,∀y ∈ g'.legs,x.veh=y.veh→iD x≤y.out.tm∨iD y≤x.out.tm:=fun r hr k g' hne hk x hx y hy er=>by
      rcases lL hE r hx with⟨h1,h2⟩|⟨z,h1,h2,h3⟩
      · exact hc.dis _ _ _ _ (fun z=>hne z.symm) hg hk x h1 y hy er
      · right;rw[←h3]at l2;have:=(hc.one hn.2 (fun z=>hne z.symm) hg hk h1 hy (by rw[h2]at er;exact er) l2).2;rw[h2];exact this
     have hpst:∀r:ij,r.tm=now→∀x ∈ ct g.legs r,x.out.tm≤now∧(x.inn.tm≠-1→x.inn.tm≤now):=fun r hr x hx=>by
      rcases lL hE r hx with⟨h1,h2⟩|⟨z,h1,h2,h3⟩
      · exact hc.past _ g hg x h1
      · rw[h2];exact⟨(hc.past _ g hg z h1).1,fun _=>by show r.tm≤now;omega⟩
     have hvh:∀r:ij,∀x ∈ ct g.legs r,vm.has x.veh=true:=fun r x hx=>by
      rcases lL hE r hx with⟨h1,h2⟩|⟨z,h1,h2,h3⟩
      · exact hc.veh _ g hg x h1
      · rw[h2];exact hc.veh _ g hg z h1
     have hcl2:∀r:ij,r.tm=now→∀x ∈ ct g.legs r,x.inn.tm≠-1:=fun r hr x hx=>by
      rcases lL hE r hx with⟨h1,h2⟩|⟨z,h1,h2,h3⟩
      · exact h2
      · rw[h2];show r.tm≠-1;omega
     by_cases w1:t.word= [101,120,116,101,110,100]
     · have hEv:dW g now t= []:=by unfold dW;rw[if_pos w1]
       have hNx:aY g now t=sO g (t.nums.getD 0 0):=by unfold aY;rw[if_pos w1]
       rw[hEv,hNx];rw[hNx]at hkey;refine⟨⟨hb.inc,hb.low,hb.rt,hb.cur,hb.ok⟩,hc.put (key:=t.texts.getD 0 []) (g':=sO g (t.nums.getD 0 0)) rfl hkey (hc.veh _ g hg) (hc.past _ g hg) (hc.opn _ g hg) (fun k g' hne hk=>hc.opn k g' hk) (fun k g' hne hk x hx y hy er=>hc.dis _ _ g g' (fun z=>hne z.symm) hg hk x hx y hy er)⟩
     by_cases w2:t.word= [99,108,111,115,101]
     · have hEv:dW g now t= [⟨now,eJ g,t.texts.getD 1 [],3,[]⟩]:=by unfold dW;rw[if_neg w1,if_pos w2]
       have hNx:aY g now t=q8 g (jI now t):=by unfold aY;rw[if_neg w1,if_pos w2]
       have hKn:sm.val (t.texts.getD 1 [])=true:=by unfold lD at hkn;rw[if_neg w1,if_pos w2]at hkn;exact hkn
       rw[hEv]at hcan ⊢;rw[hNx]at hkey ⊢;have c1:=(dO (hcan 0 (by simp))).2
       have hr:BT vm sm ⟨now,eJ g,t.texts.getD 1 [],3,[]⟩:=⟨hn,hold,hKn,⟨by show(1:Int)≤3;decide,by show(3:Int)≤8;decide⟩,fun z=>absurd rfl z,fun z=>absurd (show(3:Int)=6 from z) (by decide),fun z=>by
        have:t.texts.getD 1 []= []:=z.symm
        rw[this,hsm]at hKn;cases hKn⟩
       have h3:=hb.say hr rfl c1;refine⟨⟨h3.inc,h3.low,h3.rt,h3.cur,h3.ok⟩,hc.put (key:=t.texts.getD 0 []) (g':=q8 g (jI now t)) rfl hkey (hvh _) (hpst _ rfl) (fun x hx z=>absurd z (hcl2 _ rfl x hx)) (fun k g' hne hk y hy z=> ?_) (hclo _ rfl)⟩;show((fy s ⟨now,eJ g,t.texts.getD 1 [],3,[]⟩).sts.val y.veh).k=2;rw[g8,if_neg (hno k g' hne hk y hy z)];exact hc.opn k g' hk y hy z
     · have hEv:dW g now t= [⟨now,eJ g,t.texts.getD 1 [],3,[]⟩,⟨now,t.texts.getD 2 [],t.texts.getD 1 [],2,[]⟩]:=by unfold dW;rw[if_neg w1,if_neg w2]
       have hNx:aY g now t=ng g (jI now t) (t.texts.getD 2 []) (ln now t):=by unfold aY;rw[if_neg w1,if_neg w2]
       have hKn:sm.val (t.texts.getD 1 [])=true∧vm.has (t.texts.getD 2 [])=true:=by
        unfold lD at hkn;rw[if_neg w1,if_neg w2,Bool.and_eq_true]at hkn;exact hkn
       rw[hEv]at hcan ⊢;rw[hNx]at hkey hN ⊢;have hne2:=DN (e6 hE).2.1 hN;have c1:=(dO (hcan 0 (by simp))).2;have c2:dF (s.sts.val (t.texts.getD 2 [])) ⟨now,t.texts.getD 2 [],t.texts.getD 1 [],2,[]⟩=true:=(dO (hcan 1 (by simp))).2;have hst:t.texts.getD 1 []≠ []:=fun z=>by rw[z,hsm]at hKn;cases hKn.1
       have hr1:BT vm sm ⟨now,eJ g,t.texts.getD 1 [],3,[]⟩:=⟨hn,hold,hKn.1,⟨by show(1:Int)≤3;decide,by show(3:Int)≤8;decide⟩,fun z=>absurd rfl z,fun z=>absurd (show(3:Int)=6 from z) (by decide),fun z=>hst z.symm⟩;have hr2:BT vm sm ⟨now,t.texts.getD 2 [],t.texts.getD 1 [],2,[]⟩:=⟨hn,hKn.2,hKn.1,⟨by show(1:Int)≤2;decide,by show(2:Int)≤8;decide⟩,fun z=>absurd rfl z,fun z=>absurd (show(2:Int)=6 from z) (by decide),fun z=>hst z.symm⟩
       have c3:dF ((fy s ⟨now,eJ g,t.texts.getD 1 [],3,[]⟩).sts.val (t.texts.getD 2 [])) ⟨now,t.texts.getD 2 [],t.texts.getD 1 [],2,[]⟩=true:=by
        rw[g8,if_neg hne2];exact c2
       obtain⟨o1,o2⟩:=zN (x:=⟨now,t.texts.getD 2 [],t.texts.getD 1 [],2,[]⟩) rfl c2;have h3:=(hb.say hr1 rfl c1).say hr2 rfl c3
       have hsts:∀v,((fy (fy s ⟨now,eJ g,t.texts.getD 1 [],3,[]⟩) ⟨now,t.texts.getD 2 [],t.texts.getD 1 [],2,[]⟩).sts.val v)=if v=t.texts.getD 2 []then gp (s.sts.val (t.texts.getD 2 [])) ⟨now,t.texts.getD 2 [],t.texts.getD 1 [],2,[]⟩else if v=eJ g then gp (s.sts.val (eJ g)) ⟨now,eJ g,t.texts.getD 1 [],3,[]⟩else s.sts.val v:=fun v=>by
        rw[g8,g8,g8,if_neg hne2]
       refine⟨⟨h3.inc,h3.low,h3.rt,h3.cur,h3.ok⟩,hc.put (key:=t.texts.getD 0 []) (g':=ng g (jI now t) (t.texts.getD 2 []) (ln now t)) rfl hkey (fun x hx=> ?_) (fun x hx=> ?_) (fun x hx z=> ?_) (fun k g' hne hk y hy z=> ?_) (fun k g' hne hk x hx y hy er=> ?_)⟩
       · rcases List.mem_append.1 (show x ∈ ct g.legs (jI now t)++ [⟨t.texts.getD 2 [],ln now t,r8⟩]from hx)with r|r
         · exact hvh _ x r
         · rw[List.mem_singleton]at r;rw[r];exact hKn.2
       · rcases List.mem_append.1 (show x ∈ ct g.legs (jI now t)++ [⟨t.texts.getD 2 [],ln now t,r8⟩]from hx)with r|r
         · exact hpst _ rfl x r
         · rw[List.mem_singleton]at r;rw[r];exact⟨Int.le_refl _,fun c=>absurd rfl c⟩
       · rcases List.mem_append.1 (show x ∈ ct g.legs (jI now t)++ [⟨t.texts.getD 2 [],ln now t,r8⟩]from hx)with r|r
         · exact absurd z (hcl2 _ rfl x r)
         · rw[List.mem_singleton]at r;rw[r];show((fy (fy s ⟨now,eJ g,t.texts.getD 1 [],3,[]⟩) ⟨now,t.texts.getD 2 [],t.texts.getD 1 [],2,[]⟩).sts.val (t.texts.getD 2 [])).k=2;rw[hsts,if_pos rfl];exact o2
       · show((fy (fy s ⟨now,eJ g,t.texts.getD 1 [],3,[]⟩) ⟨now,t.texts.getD 2 [],t.texts.getD 1 [],2,[]⟩).sts.val y.veh).k=2;rw[hsts,if_neg (fun r=>hc.free o1 hk hy r z),if_neg (hno k g' hne hk y hy z)];exact hc.opn k g' hk y hy z
       · rcases List.mem_append.1 (show x ∈ ct g.legs (jI now t)++ [⟨t.texts.getD 2 [],ln now t,r8⟩]from hx)with r|r
         · exact hclo _ rfl k g' hne hk x r y hy er
         · rw[List.mem_singleton]at r;right;have h5:=hc.free o1 hk hy (by rw[←er,r]);have h6:=(hc.past k g' hk y hy).2 h5;unfold iD;rw[if_neg h5,r];exact h6
   · rw[if_neg q]at e;exact absurd e (by decide)
 · exact⟨hb,hc⟩
theorem AD (h:df){m n:Nat}{t0:Int}(hI:dQ m n s)(hb:gI vm sm t0 s)(hc:jn vm t0 s)(hsm:sm.val []=false){x:aZ}(ht:t0≤x.tm)(hx:0≤x.tm∧x.tm≤5761439):gI vm sm x.tm (iU h vm sm s x)∧jn vm x.tm (iU h vm sm s x):=by
 have hb:=hb.later ht;have hc:=hc.later ht;unfold iU;split
 · exact⟨hb,hc⟩
 split
 · rename_i q;exact FK hb hc hsm hx q
 split
 · unfold gF;split
   · exact⟨⟨hb.inc,hb.low,hb.rt,hb.cur,hb.ok⟩,⟨hc.key,hc.veh,hc.past,hc.opn,hc.dis⟩⟩
   · exact⟨hb,hc⟩
 split
 · split
   · exact⟨⟨hb.inc,hb.low,hb.rt,hb.cur,hb.ok⟩,⟨hc.key,hc.veh,hc.past,hc.opn,hc.dis⟩⟩
   · exact⟨hb,hc⟩
 split
 · exact IB hb hc hsm hx _
 split
 · unfold ml;split
   · exact⟨⟨hb.inc,hb.low,hb.rt,hb.cur,hb.ok⟩,⟨hc.key,hc.veh,hc.past,hc.opn,hc.dis⟩⟩
   · exact⟨hb,hc⟩
 exact Jr hI.his hb hc hsm hx _
theorem Ax (h:df)(hsm:sm.val []=false):∀ (l:List aZ) {m n:Nat} {t0:Int} {s:da},dQ m n s→gI vm sm t0 s→jn vm t0 s→l.Pairwise (fun a b=>a.tm≤b.tm)→(∀x ∈ l,t0≤x.tm∧0≤x.tm∧x.tm≤5761439)→t0≤5761439→∃t1,t1≤5761439∧gI vm sm t1 (pT h vm sm s l)∧jn vm t1 (pT h vm sm s l)
 | [],m,n,t0,s,hI,hb,hc,_,_,h0=>⟨t0,h0,hb,hc⟩
 | x::l,m,n,t0,s,hI,hb,hc,hp,hx,h0=>by
   obtain⟨a1,a2⟩:=hx x (by simp);obtain⟨b1,b2⟩:=AD h hI hb hc hsm a1 a2;rw[List.pairwise_cons]at hp;exact Ax h hsm l (yE hI h vm sm x) b1 b2 hp.2 (fun y hy=>⟨hp.1 y hy,(hx y (by simp[hy])).2⟩) a2.2
theorem zn:gI vm sm 0 jl:=⟨List.Pairwise.nil,fun x hx=>(by cases hx),fun x hx=>(by cases hx),fun v=>rfl,fun v=>trivial⟩
theorem yG:jn vm 0 jl:=⟨fun k g hk=>(by cases hk),fun k g hk=>(by cases hk),fun k g hk=>(by cases hk),fun k g hk=>(by cases hk),fun k1 k2 g1 g2 _ hk=>(by cases hk)⟩
end Go.Proofs.YtafhoijegjmdcaaGreatDoor
namespace Go.Eng
open Go Go.Proofs Go.Sort Go.RowKit
def gW:List UInt8→List DV:=fun s=> [.str s]
def sortS (l:List (List UInt8)):List (List UInt8):=l.mergeSort fun x y=>decide (x≤y)
theorem d8 (l:List (List UInt8)):(sortS l).Perm l:=List.mergeSort_perm _ _
theorem d7 (l:List (List UInt8)):(sortS l).length=l.length:=(d8 l).length_eq
theorem j0 (l:List (List UInt8)):(sortS l).Pairwise fun x y=>x≤y:=by
 have:=List.pairwise_mergeSort (le:=fun x y:List UInt8=>decide (x≤y)) (fun a b c h1 h2=>by simp only[decide_eq_true_eq]at*;exact List.le_trans h1 h2) (fun a b=>by simp only[Bool.or_eq_true,decide_eq_true_eq];exact List.le_total a b) l;exact this.imp (fun h=>by simpa using h)
theorem Dd {l m:List (List UInt8)}(h:l.Perm m):sortS l=sortS m:=
 List.Perm.eq_of_pairwise (le:=fun x y:List UInt8=>x≤y) (fun x y _ _ h1 h2=>List.le_antisymm h1 h2) (j0 l) (j0 m) ((d8 l).trans (h.trans (d8 m).symm))
theorem ae.sortS {P:Program}{f:FuncId}{e:TypeId}(henter:∀args w,(callFunc f args).run P w= .ok (.enter f args) w)(l:List (List UInt8))
 (hn:∀w,Calls P f #[.slice none 0 0] w fun e' w' =>e' = .returned (.tuple #[])∧w' =w)
 (hc:∀ (gR cap:Nat) (w:World),Holds encStr w gR 0 l.toArray→gR<w.heap.size→Calls P f #[.slice (some ⟨gR,0,none⟩) l.length cap] w fun e' w' =>e' = .returned (.tuple #[])∧∃n os,w' =grow (putRow encStr (Sort.ahead w n) gR 0 (Go.Eng.sortS l).toArray) os):
 ae P f [.buf 1000001] [(1000001,aD e 1 gW [] l)] (fun y r=>y= .tup []∧r= [(1000001,aD e 1 gW [] (Go.Eng.sortS l))]):=by
 refine⟨henter,fun G β w vs hpre hvl hvd=> ?_⟩
 match vs,hvl with
 | [v],_=>
   have hv:=hvd 0 _ _ rfl rfl
   cases hv with|buf _ _ hb _=>
   have hR:aC [(1000001,aD e 1 gW [] l)] 1000001=some (aD e 1 gW [] l):=by simp[aC]
   have hrow:∀ {q:List (List UInt8)} d r,aC [(1000001,aD e 1 gW [] q)] d=some r→d=1000001∧r=aD e 1 gW [] q:=by
    intro q d r hr;simp only[aC]at hr
    cases hq:Nat.beq d 1000001 with
    |false=>rw[show(d.beq 1000001)=false from hq]at hr;cases hr
    |true=>rw[show(d.beq 1000001)=true from hq]at hr;cases hr;exact⟨Nat.eq_of_beq_eq_true hq,rfl⟩
   obtain⟨v',xs,hv',hown,_,_,hden⟩:=hpre.rs _ _ hR;rw[hb]at hv';cases hv';rcases hown.2 with⟨rfl,hz⟩|⟨g,cap,cur,rfl,hg,hh,hnc,hcm,hcz,htake⟩
   · have hl0:l= []:=List.length_eq_zero_iff.1 hz;subst hl0;refine(hn w).mono ?_;rintro e' w' ⟨rfl,rfl⟩;refine⟨.tuple #[],.tup [],[(1000001,aD e 1 gW [] (Go.Eng.sortS []))],G,β,rfl,⟨rfl,rfl⟩,⟨Hp.le_refl G,eP.le_refl β,fun b o ho=>hpre.gw b o ho,fun b o ho=>.inl ho,⟨rfl,rfl,rfl,Nat.le_refl _,fun b hlt hT=>rfl⟩,fun d r hr=> ?_,fun d d' r r' _ _ _ e1 e2 _ _ _ _ _ _=> ?_,fun d r u b e1 _ hu hbk=> ?_⟩,.tup [] [] rfl (fun i x v hx=>by simp at hx)⟩
     · rw[show Go.Eng.sortS []= []by simp[Go.Eng.sortS]]at hr;exact hpre.rs d r hr
     · rw[(hrow d r e1).1,(hrow d' r' e2).1]
     · obtain⟨rfl,rfl⟩:=hrow d r e1;rw[hb]at hu;cases hu;exact absurd (hbk.plain rfl) (by simp[gR])
   have hxs:xs=l.map encStr:=by
    apply List.ext_getElem
    · rw[hown.1];simp
    intro i hi hi';have hil:i<l.length:=by simpa using hi'
    obtain⟨u,hu,hd⟩:=hden i 0 (.str (l.getD i [])) hil rfl;rw[Nat.mul_one,Nat.add_zero,List.getElem?_eq_getElem hi]at hu;cases hu;generalize xs[i]=z at hd;cases hd;simp[List.getD_eq_getElem?_getD,hil]
   have hgs:g<w.heap.size:=(Array.getElem?_eq_some_iff.1 hh).1;have hho:=holds_of_block (ss:=l) hh (by rw[←hxs,←htake,Nat.mul_one]);refine(hc g cap w hho hgs).mono ?_;rintro e' w' ⟨rfl,n,os,rfl⟩;have hgb:=grownBy_sorted (w:=w) (g:=g) (n:=n) (os:=os) (Go.Eng.sortS l).toArray;have vD:=ownsRow_sorted (w:=w) (base:=0) (cap:=cap) (n:=n) (os:=os) (d7 l) (Nat.zero_le _) hh hnc hcm hcz;have hTin:B5 w β (aC [(1000001,aD e 1 gW [] l)]) g:=⟨1000001,_,_,hR,rfl,hb,.of rfl⟩;have hGg:G g=none:=hpre.og _ _ _ g hR rfl hb (.of rfl);refine⟨.tuple #[],.tup [],_,G,β,rfl,⟨rfl,rfl⟩,⟨Hp.le_refl G,eP.le_refl β,fun b o ho=> ?_,fun b o ho=>.inl ho,⟨hgb.os,hgb.tape,hgb.output,hgb.size,fun b hlt hT=> ?_⟩,fun d r hr=> ?_,fun d d' r r' _ _ _ e1 e2 _ _ _ _ _ _=> ?_,fun d r u b e1 _ hu hbk=> ?_⟩,.tup [] [] rfl (fun i x v hx=>by simp at hx)⟩
   · have hw:=hpre.gw b o ho;rw[hgb.block b (Array.getElem?_eq_some_iff.1 hw).1 (fun q=>by cases q;rw[hGg]at ho;cases ho)];exact hw
   · exact hgb.block b hlt (fun q=>by cases q;exact hT hTin)
   · obtain⟨rfl,rfl⟩:=hrow d r hr;refine⟨_,_,hb,by rw[d7];exact vD,by omega,fun i hi=>rfl,fun i j x hi hx=> ?_⟩
     have hj:j=0:=by
      have:=(List.getElem?_eq_some_iff.1 hx).1;simp[aR,gW]at this;omega
     subst hj;simp[aR,gW]at hx;subst hx;exact⟨encStr ((Go.Eng.sortS l).getD i []),by rw[Nat.mul_one,Nat.add_zero];simp[List.getD_eq_getElem?_getD,hi],.str _⟩
   · rw[(hrow d r e1).1,(hrow d' r' e2).1]
   · obtain⟨rfl,rfl⟩:=hrow d r e1;rw[hb]at hu;cases hu;cases hbk.plain rfl;exact⟨hGg,.inl hTin⟩
end Go.Eng
set_option maxRecDepth 20000
namespace Go.Proofs.YtafhoijegjmdcaaGreatDoor
open Go Go.Eng
theorem l9 {ks:List KK}{has:List DV→Bool}{clock:Nat}{kb:List (List DV×Nat)}(hk:KB ks has clock kb){p q:List DV×Nat}(hp:p ∈ kb)(hq:q ∈ kb):(p.2=q.2↔p.1=q.1):=by
 obtain⟨i,hi,rfl⟩:=List.getElem_of_mem hp;obtain⟨j,hj,rfl⟩:=List.getElem_of_mem hq
 have h1:∀i j (hi:i<kb.length) (hj:j<kb.length),i<j→kb[i].2<kb[j].2:=fun i j hi hj hij=>by
  have:=List.pairwise_iff_getElem.1 hk.ki i j (by simpa using hi) (by simpa using hj) hij;simpa using this
 have h2:∀i j (hi:i<kb.length) (hj:j<kb.length),i<j→kb[i].1≠kb[j].1:=fun i j hi hj hij e=>by
  have:=List.pairwise_iff_getElem.1 hk.kd i j (by simpa using hi) (by simpa using hj) hij;simp only[List.getElem_map]at this;rw[e]at this;rw[cd (hk.kw _ (List.getElem_mem hj))]at this;cases this
 rcases Nat.lt_trichotomy i j with q|q|q
 · exact⟨fun e=>absurd e (Nat.ne_of_lt (h1 i j hi hj q)),fun e=>absurd e (h2 i j hi hj q)⟩
 · subst q;exact⟨fun _=>rfl,fun _=>rfl⟩
 · exact⟨fun e=>absurd e.symm (Nat.ne_of_lt (h1 j i hj hi q)),fun e=>absurd e.symm (h2 j i hj hi q)⟩
open Classical in
noncomputable def ey (has:List UInt8→Bool):List (List UInt8):=
 if h:∃K:List (List UInt8),K.Nodup∧∀k,k ∈ K↔has k=true then sortS (Classical.choose h)else []
theorem ly {has:List UInt8→Bool}{K:List (List UInt8)}(h1:K.Nodup)(h2:∀k,k ∈ K↔has k=true):sortS K=ey has:=by
 have h:∃K:List (List UInt8),K.Nodup∧∀k,k ∈ K↔has k=true:=⟨K,h1,h2⟩;unfold ey;rw[dif_pos h];have hc:=Classical.choose_spec h;exact Dd ((List.perm_ext_iff_of_nodup h1 hc.1).2 fun k=>by rw[h2 k,hc.2 k])
theorem tO {has:List UInt8→Bool}{L:List (List UInt8)}(hL:∀k,has k=true→k ∈ L):(ey has).length≤L.length:=by
 unfold ey;split
 · rename_i h;have hc:=Classical.choose_spec h;rw[d7];exact jw _ _ hc.1 fun k hk=>hL k ((hc.2 k).1 hk)
 · simp
theorem uA (l:List (List UInt8))(hl:l.length<2^40):ae Tryz.prog 70 [.buf 1000001] [(1000001,aD 9 1 gW [] l)] (fun y r=>y= .tup []∧r= [(1000001,aD 9 1 gW [] (sortS l))]):=by
 have e:js.f 190=70:=rfl;refine ae.sortS Tryz.call70 l (fun w=> ?_) (fun gR cap w hH hb=> ?_)
 · have:=Any.slices_Sort_string_none nG none 0 w;rw[e]at this;exact this
 · have:=Any.slices_Sort_string nG gR 0 cap l w hH hb (by omega);rw[e]at this;exact this
def hJ (m:Mp oR)(k:List UInt8):oR:=m.val k
def jd:TL:= [(5,[(0,[]),(1,[]),(2,[]),(3,[]),(4,rg 4),(5,rg 4),(6,rg 6),(7,rg 6),(8,[])]),(10,[(0,[]),(1,[]),(2,[]),(3,[]),(4,rg 4),(5,rg 4),(6,[])])]
abbrev I0 (h:df)(vm:Mp (List UInt8))(sm:Mp Bool)(s:da)(lg:List aS):List (Nat×bh):=
 [(22,.cells 107 (oU h++ [.mp 14,.mp 15,.mp 16,.buf 50,.mp 17,.mp 18,.mp 19,.mp 20,.buf 51])),(14,dM false [.str []] vR vm),(15,dM false [.bool false] Ht sm),(16,dM true (jC ep) jC s.sts),(50,nC lg),(17,GK s.ats),(18,dM true (ez fG) ez s.bks),(19,dM true (cQ none) cQ s.his),(20,dM false [.int .i64 0] xU s.paid),(51,Ic s.ref)]
theorem Gp (h:df)(hco:kD h.flt.cls)(hv:h.flt.veh.length≤2^20)(hs:h.flt.sta.length≤2^20)(l:List aZ)(hl:l.length≤400)(hx:∀x ∈ l,x.words.length≤2^20):
 ae Tryz.prog 69 [.agg (oU h),.d (fN l)] [(1000009,KX)] (fun y r=>y= .ptr 22 0∧r=(1000009,KX)::I0 h (b8 h.flt.veh) (bV h.flt.sta) (cV h l) (bc aX (cV h l).log)):=by
 have cF:=fun s hs x hx=>GM h hco (b8 h.flt.veh) (bV h.flt.sta) s hs x hx
 obtain⟨V,hV⟩:∃V,V=h.flt.veh:=⟨_,rfl⟩;obtain⟨W,hW⟩:∃W,W=h.flt.sta:=⟨_,rfl⟩;have hZ:=fun i=>uf h (b8 V) (bV W) l i
 have hG:=fun i hi e=>Bj h (b8 V) (bV W) (l:=l) (i:=i) hi e
 have hB:=fun i hi e=>Ee h (b8 V) (bV W) (l:=l) (i:=i) hi e
 have hE:cV h l=ll h (b8 V) (bV W) l l.length:=by rw[hV,hW];rfl
 rw[hE];obtain⟨kA1,nA1,gA1,kA3,nA3,gA3,kB0,nB0,gB0,kB1,nB1,gB1,kB2,nB2,gB2,kB3,nB3,gB3,kB4,nB4,gB4,C0,C1,C2,C3,C4,C5,C6,hH⟩:∃ (kA1 nA1:Nat) (gA1:Nat→List DV) (kA3 nA3:Nat) (gA3:Nat→List DV) (kB0 nB0:Nat) (gB0:Nat→List DV) (kB1 nB1:Nat) (gB1:Nat→List DV) (kB2 nB2:Nat) (gB2:Nat→List DV) (kB3 nB3:Nat) (gB3:Nat→List DV) (kB4 nB4:Nat) (gB4:Nat→List DV) (C0 C1 C2 C3 C4 C5 C6:Int),oU h= [.d (iT W),.d (.ro kA1 nA1 gA1),.d (mg V),.d (.ro kA3 nA3 gA3),.d (.ro kB0 nB0 gB0),.d (.ro kB1 nB1 gB1),.d (.ro kB2 nB2 gB2),.d (.ro kB3 nB3 gB3),.d (.ro kB4 nB4 gB4),.d (.int .i64 C0),.d (.int .i64 C1),.d (.int .i64 C2),.d (.int .i64 C3),.d (.int .i64 C4),.d (.int .i64 C5),.d (.int .i64 C6)]:=⟨_,_,_,_,_,_,_,_,_,_,_,_,_,_,_,_,_,_,_,_,_,_,_,_,_,_,_,_,by rw[hV,hW];rfl⟩;unfold I0;unfold jk Jj dT Hy at cF;rw[hH];rw[hH]at cF;rw[←hV]at hv;rw[←hW]at hs;rw[←hV,←hW]at cF ⊢;have hO0:ll h (b8 V) (bV W) l 0=jl:=rfl;have hR:=fun i=>wI h (b8 V) (bV W) l i
 have hS:=fun s x (e:gJ h (b8 V) (bV W) s x≠0)=>lu e
 generalize ll h (b8 V) (bV W) l=O at hZ hG hB hO0 hR ⊢;generalize gJ h (b8 V) (bV W)=fE at cF hG hB hS;generalize iU h (b8 V) (bV W)=fO at cF hG hS;refine aj hT Tryz.func69 Tryz.call69 ?_;conv=>whnf
 repeat' ((first|refine aa ?_ ?_<;>intro hb<;>try simp only[am]at hb|refine bg hT jd ?_|omega|refine ao ?_|decide|assumption)<;>conv=>whnf)
 refine af hT (C:= []) (ι:=Nat) (fun i=>i≤V.length) (fun i=>aJ [(1,.d (fN l)),(2,.ptr 2 0),(5,.ptr 22 0),(25,.d (mg V)),(26,.d (.int .i64 V.length)),(27,.d (.int .i64 i))] [(1000009,KX),(2,.cells 42 [.d (iT W),.d (.ro kA1 nA1 gA1),.d (mg V),.d (.ro kA3 nA3 gA3),.d (.ro kB0 nB0 gB0),.d (.ro kB1 nB1 gB1),.d (.ro kB2 nB2 gB2),.d (.ro kB3 nB3 gB3),.d (.ro kB4 nB4 gB4),.d (.int .i64 C0),.d (.int .i64 C1),.d (.int .i64 C2),.d (.int .i64 C3),.d (.int .i64 C4),.d (.int .i64 C5),.d (.int .i64 C6)]),(22,.cells 107 [.d (iT W),.d (.ro kA1 nA1 gA1),.d (mg V),.d (.ro kA3 nA3 gA3),.d (.ro kB0 nB0 gB0),.d (.ro kB1 nB1 gB1),.d (.ro kB2 nB2 gB2),.d (.ro kB3 nB3 gB3),.d (.ro kB4 nB4 gB4),.d (.int .i64 C0),.d (.int .i64 C1),.d (.int .i64 C2),.d (.int .i64 C3),.d (.int .i64 C4),.d (.int .i64 C5),.d (.int .i64 C6),.mp 14,.mp 15,.mp 16,.d .nilsl,.mp 17,.mp 18,.mp 19,.mp 20,.d .nilsl]),(14,dM false [.str []] vR (b8 (V.take i))),(15,dM false [.bool false] Ht (bV [])),(16,dM true (jC ep) jC jl.sts),(17,GK jl.ats),(18,dM true (ez fG) ez jl.bks),(19,dM true (cQ none) cQ jl.his),(20,dM false [.int .i64 0] xU jl.paid)])
  (fun i=>V.length - i) 0 (Nat.zero_le _) ?_ ?_
 · exact ac [(1000009,1000009),(2,2),(22,22),(14,14),(15,15),(16,16),(17,17),(18,18),(19,19),(20,20)] rfl rfl ⟨lr,lr,lr,lr,lr,lr,trivial⟩ ⟨rr,rr,rr,bn (fun _ _=>⟨rfl,rfl⟩),bn (fun _ _=>⟨rfl,rfl⟩),bn (fun _ _=>⟨rfl,rfl⟩),bn (fun K hK=>by obtain⟨s,n,rfl⟩:=tF hK;exact⟨rfl,rfl⟩),bn (fun _ _=>⟨rfl,rfl⟩),bn (fun _ _=>⟨rfl,rfl⟩),bn (fun _ _=>⟨rfl,rfl⟩),trivial⟩
 rintro i hi;have hi:i≤V.length:=hi;have e1:=ek i;rcases Nat.lt_or_ge i V.length with hin|hin
 · conv=>whnf
   repeat' ((first|refine aa ?_ ?_<;>intro hb<;>try simp only[am]at hb|refine bg hT jd ?_|omega|refine ao ?_|decide|assumption)<;>conv=>whnf)
   all_goals try(exfalso;omega)
   refine⟨i+1,by show i+1≤_;omega,by show V.length - (i+1)<V.length - i;omega,ac [(2,2),(1000009,1000009),(22,22),(14,14),(15,15),(16,16),(17,17),(18,18),(19,19),(20,20)] rfl rfl ⟨lr,lr,lr,lr,lr,au (by omega),trivial⟩ ⟨rr,rr,rr,?_,rr,rr,rr,rr,rr,rr,trivial⟩⟩;rw[ED hin,←e1];exact eQ
 have hiV:i=V.length:=by omega
 rw[hiV,List.take_length];clear hin e1 hiV;conv=>whnf
 repeat' ((first|refine aa ?_ ?_<;>intro hb<;>try simp only[am]at hb|refine bg hT jd ?_|omega|refine ao ?_|decide|assumption)<;>conv=>whnf)
 all_goals try(exfalso;omega)
 refine af hT (C:= []) (ι:=Nat) (fun i=>i≤W.length) (fun i=>aJ [(1,.d (fN l)),(5,.ptr 22 0),(42,.d (iT W)),(43,.d (.int .i64 W.length)),(44,.d (.int .i64 i))] [(1000009,KX),(22,.cells 107 [.d (iT W),.d (.ro kA1 nA1 gA1),.d (mg V),.d (.ro kA3 nA3 gA3),.d (.ro kB0 nB0 gB0),.d (.ro kB1 nB1 gB1),.d (.ro kB2 nB2 gB2),.d (.ro kB3 nB3 gB3),.d (.ro kB4 nB4 gB4),.d (.int .i64 C0),.d (.int .i64 C1),.d (.int .i64 C2),.d (.int .i64 C3),.d (.int .i64 C4),.d (.int .i64 C5),.d (.int .i64 C6),.mp 14,.mp 15,.mp 16,.d .nilsl,.mp 17,.mp 18,.mp 19,.mp 20,.d .nilsl]),(14,dM false [.str []] vR (b8 V)),(15,dM false [.bool false] Ht (bV (W.take i))),(16,dM true (jC ep) jC jl.sts),(17,GK jl.ats),(18,dM true (ez fG) ez jl.bks),(19,dM true (cQ none) cQ jl.his),(20,dM false [.int .i64 0] xU jl.paid)])
  (fun i=>W.length - i) 0 (Nat.zero_le _) ?_ ?_
 · exact ac [(1000009,1000009),(22,22),(14,14),(15,15),(16,16),(17,17),(18,18),(19,19),(20,20)] rfl rfl ⟨lr,lr,lr,lr,lr,trivial⟩ ⟨rr,rr,rr,rr,rr,rr,rr,rr,rr,trivial⟩
 rintro i hi;have hi:i≤W.length:=hi;have e1:=ek i;rcases Nat.lt_or_ge i W.length with hin|hin
 · conv=>whnf
   repeat' ((first|refine aa ?_ ?_<;>intro hb<;>try simp only[am]at hb|refine bg hT jd ?_|omega|refine ao ?_|decide|assumption)<;>conv=>whnf)
   all_goals try(exfalso;omega)
   refine⟨i+1,by show i+1≤_;omega,by show W.length - (i+1)<W.length - i;omega,ac [(1000009,1000009),(22,22),(14,14),(15,15),(16,16),(17,17),(18,18),(19,19),(20,20)] rfl rfl ⟨lr,lr,lr,lr,au (by omega),trivial⟩ ⟨rr,rr,rr,?_,rr,rr,rr,rr,rr,trivial⟩⟩;rw[DH hin,←e1];exact eQ
 have hiW:i=W.length:=by omega
 rw[hiW,List.take_length];clear hin e1 hiW;conv=>whnf
 repeat' ((first|refine aa ?_ ?_<;>intro hb<;>try simp only[am]at hb|refine bg hT jd ?_|omega|refine ao ?_|decide|assumption)<;>conv=>whnf)
 all_goals try(exfalso;omega)
 refine af hT (C:= []) (ι:=Nat×da) (fun(i,s)=>i≤l.length∧s=O i) (fun(i,s)=>aJ [(5,.ptr 22 0),(55,.d (fN l)),(56,.d (.int .i64 l.length)),(57,.d (.int .i64 i))] [(1000009,KX),(22,.cells 107 [.d (iT W),.d (.ro kA1 nA1 gA1),.d (mg V),.d (.ro kA3 nA3 gA3),.d (.ro kB0 nB0 gB0),.d (.ro kB1 nB1 gB1),.d (.ro kB2 nB2 gB2),.d (.ro kB3 nB3 gB3),.d (.ro kB4 nB4 gB4),.d (.int .i64 C0),.d (.int .i64 C1),.d (.int .i64 C2),.d (.int .i64 C3),.d (.int .i64 C4),.d (.int .i64 C5),.d (.int .i64 C6),.mp 14,.mp 15,.mp 16,.buf 50,.mp 17,.mp 18,.mp 19,.mp 20,.buf 51]),(14,dM false [.str []] vR (b8 V)),(15,dM false [.bool false] Ht (bV W)),(16,dM true (jC ep) jC s.sts),(50,nC s.log),(17,GK s.ats),(18,dM true (ez fG) ez s.bks),(19,dM true (cQ none) cQ s.his),(20,dM false [.int .i64 0] xU s.paid),(51,Ic s.ref)])
  (fun(i,_)=>l.length - i) (0,jl) ⟨Nat.zero_le _,hO0.symm⟩ ?_ ?_
 · refine(bF 22 50 72 5 19 (aR eV cj []) rfl rfl rfl (by decide) rfl).trans ((bF 22 51 69 2 24 (aR LK Lv []) rfl rfl rfl (by decide) rfl).trans ?_);exact ac [(50,50),(51,51),(1000009,1000009),(22,22),(14,14),(15,15),(16,16),(17,17),(18,18),(19,19),(20,20)] rfl rfl ⟨lr,lr,lr,lr,trivial⟩ ⟨rr,rr,rr,rr,rr,rr,rr,rr,rr,rr,rr,trivial⟩
 rintro⟨i,s⟩ ⟨hi,hsO⟩;have hi:i≤l.length:=hi;have hsO:s=O i:=hsO;have e1:=ek i;have kI:=hZ i hi;have kR:=hR i;rw[←hsO]at kI kR;rcases Nat.lt_or_ge i l.length with hin|hin
 · have hxi:=hx _ (al (x:=bH) hin);have cX:=cF s (kI.ok (by omega) (by omega)) (l.getD (i:Int).toNat bH) (by rw[e1];exact hxi)
   by_cases e:fE s (l.getD (i:Int).toNat bH)=0
   · have hN:=hG i hin (by rw[←hsO,←e1];exact e);rw[←hsO]at hN;rw[e]at cX;conv=>whnf
     repeat' ((first|(refine bP cX [(1000009,1000009),(1000001,22),(1000002,14),(1000003,15),(1000004,16),(1000005,50),(1000006,17),(1000007,18),(1000008,19),(1000010,20),(1000011,51),(50,60)] ?_)|refine aa ?_ ?_<;>intro hb<;>try simp only[am]at hb|refine bg hT jd ?_|omega|refine ao ?_|decide|assumption)<;>conv=>whnf)
     all_goals try(exfalso;omega)
     exact⟨(i+1,fO s (l.getD (i:Int).toNat bH)),⟨by show i+1≤_;omega,by show _=O (i+1);rw[hN,e1]⟩,by show l.length - (i+1)<l.length - i;omega,ac [(50,60),(51,51),(1000009,1000009),(22,22),(14,14),(15,15),(16,16),(17,17),(18,18),(19,19),(20,20)] rfl rfl ⟨lr,lr,lr,au (by omega),trivial⟩ ⟨rr,rr,rr,rr,rr,rr,rr,rr,rr,rr,rr,trivial⟩⟩
   · have hN:=hB i hin (by rw[←hsO,←e1];exact e);rw[←hsO]at hN;rw[hS _ _ e]at cX;conv=>whnf
     repeat' ((first|(refine bP cX [(1000009,1000009),(1000001,22),(1000002,14),(1000003,15),(1000004,16),(1000005,50),(1000006,17),(1000007,18),(1000008,19),(1000010,20),(1000011,51),(50,60)] ?_)|refine aa ?_ ?_<;>intro hb<;>try simp only[am]at hb|refine bg hT jd ?_|omega|refine ao ?_|decide|assumption)<;>conv=>whnf)
     all_goals try(exfalso;omega)
     all_goals try(exfalso;exact e (by rw[e1];assumption))
     refine⟨(i+1,{s with ref:=s.ref++ [⟨i,fE s (l.getD (i:Int).toNat bH)⟩]}),⟨by show i+1≤_;omega,by show _=O (i+1);rw[hN,e1]⟩,by show l.length - (i+1)<l.length - i;omega,ac [(50,60),(51,76),(1000009,1000009),(22,22),(14,14),(15,15),(16,16),(17,17),(18,18),(19,19),(20,20)] rfl rfl ⟨lr,lr,lr,au (by omega),trivial⟩ ⟨rr,rr,rr,rr,rr,rr,rr,rr,rr,rr,?_,trivial⟩⟩;exact aB (x:=(⟨i,fE s (l.getD (i:Int).toNat bH)⟩:sk)) rfl
 · have hil:i=l.length:=by omega
   have c113:=DT s.log (by have:=kI.log;omega) kI.apt;conv=>whnf
   repeat' ((first|(refine bP c113 [(1000001,50)] ?_)|refine aa ?_ ?_<;>intro hb<;>try simp only[am]at hb|refine bg hT jd ?_|omega|refine ao ?_|decide|assumption)<;>conv=>whnf)
   all_goals try(exfalso;omega)
   refine .ret _ ?_;conv=>whnf
   rw[←hil,←hsO];exact⟨_,⟨rfl,rfl⟩,rr,rr,rr,rr,rr,rr,rr,rr,rr,rr,rr,trivial⟩
structure A3 (h:df)(l:List aZ):Prop where
 hou:oa h
 ent:ku l
 len:l.length≤400
 wds:∀x ∈ l,x.words.length≤2^20
 hE:gi h=0
 lE:cx l=0
theorem LJ (h:df)(l:List aZ)(k:A3 h l):
 ae Tryz.prog 34 [hou h,.d (fN l)] [(1000009,KX)] (fun y r=>y= .tup [.ptr 22 0,.d (.int .i64 0)]∧r=(1000009,KX)::I0 h (b8 h.flt.veh) (bV h.flt.sta) (cV h l) (bc aX (cV h l).log)):=by
 have c1:=Li h k.hou;have c2:=Fm l k.ent;have c3:=Gp h k.hou.1.cls k.hou.1.veh.1 k.hou.1.sta.1 l k.len k.wds;rw[k.hE]at c1;rw[k.lE]at c2;generalize cV h l=Z at c3 ⊢;generalize bc aX Z.log=lg at c3 ⊢;generalize b8 h.flt.veh=vm at c3 ⊢;generalize bV h.flt.sta=sm at c3 ⊢;refine aj hT Tryz.func34 Tryz.call34 ?_;conv=>whnf
 repeat' (first|(refine Fc c1 ?_;conv=>whnf)|(refine ab (c2) rfl rfl ?_;rotate_right;conv=>whnf)|((first|refine ap (kM [_,_] (by simp)) ⟨ai (by rfl) (by rfl),trivial⟩ rfl ?_|(refine bP c3 J1 ?_)|refine aa ?_ ?_<;>intro hb<;>try simp only[am]at hb|omega|refine ao ?_|decide|assumption)<;>conv=>whnf))
 all_goals try(exfalso;contradiction)
 refine .ret _ ?_;conv=>whnf
 exact⟨_,⟨rfl,rfl⟩,rr,rr,rr,rr,rr,rr,rr,rr,rr,rr,rr,trivial⟩
def fP (m:Mp (Option cq))(k:List UInt8):cq:=(m.val k).getD fq
theorem lV {va:Bool}{key row row':List DV}{k:SV→SV→Prop}(h:row=row')(hk:wR false key fun x=>lq va row' (k x)):wR false key fun x=>lq va row (k x):=by rw[h];exact hk
theorem EJ (m:Mp (Option cq))(hf:∃L:List (List UInt8),L.length≤400∧∀k,m.has k=true→k ∈ L)(hrow:∀k,m.has k=true→cQ (m.val k)=dS (fP m k))(hsome:∀k,m.has k=true→m.val k≠none):
 ae Tryz.prog 36 [.mp 1000007] [(1000007,dM true (cQ none) cQ m)] (fun y r=>y= .d (d6 5 dS fq ((ey m.has).map (fP m)))∧r= []):=by
 refine aj hT Tryz.func36 Tryz.call36 ?_;conv=>whnf
 repeat' (first|(intro clock kb hkb;conv=>whnf)|((first|refine aa ?_ ?_<;>intro hb<;>try simp only[am]at hb|omega|refine ao ?_|decide|assumption)<;>conv=>whnf))
 have hkl:kb.length≤400:=by
  obtain⟨L,h1,h2⟩:=hf
  have:=hkb.le (L.map fun x=> [.str x]) (fun key hw hh=>by
   obtain⟨s,rfl⟩:=dL hw
   exact List.mem_map.2 ⟨s,h2 s hh,rfl⟩)
  rw[List.length_map]at this;omega
 refine af hT (C:= []) (ι:=List Nat×List (List UInt8)) (fun(seen,ks)=>ks.Nodup∧(∀k b',([DV.str k],b') ∈ kb→(b' ∈ seen↔k ∈ ks))∧∀k ∈ ks,m.has k=true)
  (fun(seen,ks)=>aJ [(0,.mp 1000007),(3,.buf 3),(9,.ptr 9 0)] [(1000007,.mapB false true [.str] (cQ none) (fun K=>m.has (cf K)) (fun K=>cQ (m.val (cf K))) clock kb),(3,aD 9 1 gW [] ks),(9,.iter 1000007 clock seen)])
  (fun(seen,ks)=>(kb.filter fun p=> !seen.contains p.2).length) ([],[]) ⟨by simp,by simp,by simp⟩ ?_ ?_
 · exact(du.nil 3 3 9 1 (aR gW [] []) rfl rfl (by decide)).trans (ac LF rfl rfl ⟨lr,lr,lr,trivial⟩ ⟨rr,rr,rr,trivial⟩)
 rintro⟨seen,ks⟩ ⟨g1,g2,g3⟩;have g1:ks.Nodup:=g1;have g2:∀k b',([DV.str k],b') ∈ kb→(b' ∈ seen↔k ∈ ks):=g2;have g3:∀k ∈ ks,m.has k=true:=g3
 have hks:ks.length≤400:=by
  obtain⟨L,h1,h2⟩:=hf;have:=jw _ _ g1 (fun k hk=>h2 k (g3 k hk));omega
 conv=>whnf
 repeat' ((first|refine aa ?_ ?_<;>intro hb<;>try simp only[am]at hb|omega|refine ao ?_|decide|assumption)<;>conv=>whnf)
 refine⟨rfl,fun key b' hkb1 hseen=> ?_,fun eM=> ?_⟩
 · obtain⟨s,rfl⟩:=dL (hkb.kw _ hkb1);have kT:m.has s=true:=(hkb.kh _ (hkb.kw _ hkb1)).2 ⟨_,hkb1⟩;have hsn:s ∉ ks:=fun q=>hseen ((g2 s b' hkb1).2 q)
   obtain⟨g,hg⟩:∃g,m.val s=some g:=by cases hm:m.val s with|some g=>exact⟨g,rfl⟩|none=>exact absurd hm (hsome s kT)
   refine lV (row:=cQ (m.val s)) (row':=dS g) (congrArg cQ hg) ?_;conv=>whnf
   repeat' ((first|(refine⟨rfl,_,hkb1,?_⟩;refine lV (row:=cQ (m.val s)) (row':=dS g) (congrArg cQ hg) ?_)|refine aa ?_ ?_<;>intro hb<;>try simp only[am]at hb|omega|refine ao ?_|decide|assumption)<;>conv=>whnf)
   refine⟨(b'::seen,ks++ [s]),⟨?_,fun k b2 hk2=> ?_,fun k hk=> ?_⟩,?_,?_⟩
   · rw[List.nodup_append];exact⟨g1,by simp,fun x hx y hy=>by simp at hy;subst hy;exact fun e=>hsn (by rw[←e];exact hx)⟩
   · have hst:=l9 hkb hk2 hkb1;simp only[List.mem_cons,List.mem_append,List.not_mem_nil,or_false];rw[g2 k b2 hk2];have:b2=b'↔k=s:=by rw[show(b2=b')=((([DV.str k],b2):List DV×Nat).2=(([DV.str s],b'):List DV×Nat).2)from rfl,hst];simp
     rw[this];exact or_comm
   · rcases List.mem_append.1 hk with q|q
     · exact g3 k q
     · simp at q;subst q;exact kT
   · show(kb.filter fun p=> !(b'::seen).contains p.2).length<(kb.filter fun p=> !seen.contains p.2).length
     have e:kb.filter (fun p=> !(b'::seen).contains p.2)=(kb.filter fun p=> !seen.contains p.2).filter fun p=> !(p.2==b'):=by
      rw[List.filter_filter];refine List.filter_congr fun p _=> ?_
      simp[List.contains_cons,Bool.and_comm];rfl
     rw[e];refine Nat.lt_of_le_of_ne (List.length_filter_le _ _) (fun q=> ?_);have:=(List.length_filter_eq_length_iff.1 q) ([.str s],b') (List.mem_filter.2 ⟨hkb1,by simpa using hseen⟩);simp at this
   · exact ac LA rfl rfl ⟨lr,lr,lr,trivial⟩ ⟨rr,aB (x:=s) rfl,rr,trivial⟩
 · have hiff:∀k,k ∈ ks↔m.has k=true:=fun k=>⟨g3 k,fun q=>by
    obtain⟨b',hb'⟩:=(hkb.kh [.str k] (by simp[wk,gK])).1 q
    exact(g2 k b' hb').1 (eM _ hb')⟩
   have hsrt:=ly g1 hiff;have cS:=uA ks (by omega);have hlS:(sortS ks).length=ks.length:=d7 ks;have hmS:∀k ∈ sortS ks,m.has k=true:=fun k hk=>g3 k ((d8 ks).mem_iff.1 hk)
   rw[←hsrt];generalize sortS ks=Q at cS hlS hmS;conv=>whnf
   repeat' ((first|(refine bP cS [(1000001,3)] ?_)|refine aa ?_ ?_<;>intro hb<;>try simp only[am]at hb|omega|refine ao ?_|decide|assumption)<;>conv=>whnf)
   refine af hT (C:= []) (ι:=Nat) (fun i=>i≤Q.length)
    (fun i=>aJ [(0,.mp 1000007),(5,.buf 5),(20,.buf 3),(21,.d (.int .i64 Q.length)),(22,.d (.int .i64 i))] [(1000007,.mapB false true [.str] (cQ none) (fun K=>m.has (cf K)) (fun K=>cQ (m.val (cf K))) clock kb),(3,aD 9 1 gW [] Q),(5,aD 112 5 dS fq ((Q.take i).map (fP m)))])
    (fun i=>Q.length - i) 0 (Nat.zero_le _) ?_ ?_
   · exact(du.nil 5 5 112 5 (aR dS fq []) rfl rfl (by decide)).trans (ac LH rfl rfl ⟨lr,lr,lr,lr,lr,trivial⟩ ⟨rr,rr,rr,trivial⟩)
   rintro i hi;have hi:i≤Q.length:=hi;have e1:=ek i;have hlm:((Q.take i).map (fP m)).length=i:=by rw[List.length_map,List.length_take];omega
   rcases Nat.lt_or_ge i Q.length with hin|hin
   · obtain⟨s,hs⟩:∃s,s=Q.getD (i:Int).toNat []:=⟨_,rfl⟩;have kT:m.has s=true:=by rw[hs,e1];exact hmS _ (al hin)
     obtain⟨g,hg⟩:∃g,m.val s=some g:=by cases hm:m.val s with|some g=>exact⟨g,rfl⟩|none=>exact absurd hm (hsome s kT)
     conv=>whnf
     repeat' ((first|(refine And.intro (rfl:bt _=some (cQ none)) ?_;refine cm (row':=dS g) (congrArg cQ (show m.val (Q.getD (i:Int).toNat [])=some g by rw[←hs];exact hg)) ?_)|refine aa ?_ ?_<;>intro hb<;>try simp only[am]at hb|omega|refine ao ?_|decide|assumption)<;>conv=>whnf)
     all_goals try(exfalso;omega)
     refine⟨i+1,by show i+1≤_;omega,by show Q.length - (i+1)<Q.length - i;omega,ac E8 rfl rfl ⟨lr,lr,lr,lr,au (by omega),trivial⟩ ⟨rr,rr,?_,trivial⟩⟩
     have et:(Q.take (i+1)).map (fP m)=(Q.take i).map (fP m)++ [fP m s]:=by
      rw[List.take_succ_eq_append_getElem hin,List.map_append,hs,e1,List.getD_eq_getElem?_getD,List.getElem?_eq_getElem hin];rfl
     rw[et];exact aB (x:=fP m s) (by unfold fP;rw[hg];rfl)
   · have hiQ:i=Q.length:=by omega
     conv=>whnf
     repeat' ((first|refine aa ?_ ?_<;>intro hb<;>try simp only[am]at hb|omega|refine ao ?_|decide|assumption)<;>conv=>whnf)
     all_goals try(exfalso;omega)
     refine .freeze _ 5 112 5 _ _ rfl (.weak _ ?_);conv=>whnf
     refine⟨.d (d6 5 dS fq ((Q.take i).map (fP m))),[],lr,⟨by rw[hiQ,List.take_length],rfl⟩,trivial⟩
theorem IG (h:df)(l:List aZ)(k:A3 h l):
 ae Tryz.prog 10 [hou h,.d (fN l)] [(1000009,KX)] (fun y r=>y= .tup [.d (uS ((ey (cV h l).his.has).map (fP (cV h l).his))),.d (.int .i64 0)]∧r= [(1000009,KX)]):=by
 have c1:=LJ h l k;have hZ:dQ (2*l.length) l.length (cV h l):=uf h _ _ l l.length (Nat.le_refl _);generalize cV h l=Z at c1 hZ ⊢
 have hso:∀k,Z.his.has k=true→Z.his.val k≠none:=fun k q=>by
  obtain⟨g,h1,_⟩:=hZ.his k q;rw[h1];exact fun e=>by cases e
 have c2:=EJ Z.his (gU hZ.fh k.len) (fun k q=>by
  obtain⟨g,h1,_⟩:=hZ.his k q
  unfold fP;rw[h1];rfl) hso
 generalize bc aX Z.log=lg at c1 ⊢;generalize b8 h.flt.veh=vm at c1 ⊢;generalize bV h.flt.sta=sm at c1 ⊢;generalize (ey Z.his.has).map (fP Z.his)=R at c2 ⊢;refine aj hT Tryz.func10 Tryz.call10 ?_;conv=>whnf
 repeat' ((first|(refine bP c1 J1 ?_)|(refine bP c2 [(1000007,19)] ?_)|refine aa ?_ ?_<;>intro hb<;>try simp only[am]at hb|omega|refine ao ?_|decide|assumption)<;>conv=>whnf)
 all_goals try(exfalso;contradiction)
 refine .ret _ ?_;conv=>whnf
 exact⟨[(1000009,KX)],⟨rfl,rfl⟩,rr,trivial⟩
theorem zj {has:List UInt8→Bool}{L:List (List UInt8)}(hL:∀k,has k=true→k ∈ L):(ey has).Nodup∧(ey has).Pairwise (fun a b=>a≤b)∧∀k,k ∈ ey has↔has k=true:=by
 have ex : ∀L:List (List UInt8),∃K:List (List UInt8),K.Nodup∧∀k,k ∈ K↔k ∈ L∧has k=true:=fun L=>by
  induction L with
  |nil=>exact⟨[],List.nodup_nil,fun k=>⟨fun h=>(by cases h),fun h=>(by cases h.1)⟩⟩
  | cons x L ih=>
    obtain⟨K,h1,h2⟩:=ih
    by_cases q:has x=true∧x ∉ K
    · refine⟨x::K,List.nodup_cons.2 ⟨q.2,h1⟩,fun k=> ?_⟩;rw[List.mem_cons,List.mem_cons,h2];constructor
      · rintro(e|e)
        · exact⟨.inl e,by rw[e];exact q.1⟩
        · exact⟨.inr e.1,e.2⟩
      · rintro⟨e|e,f⟩
        · exact .inl e
        · exact .inr ⟨e,f⟩
    · refine⟨K,h1,fun k=> ?_⟩;rw[h2,List.mem_cons];constructor
      · exact fun e=>⟨.inr e.1,e.2⟩
      · rintro⟨e|e,f⟩
        · rw[e]at f ⊢
          by_cases z:x ∈ K
          · exact⟨((h2 x).1 z).1,f⟩
          · exact absurd ⟨f,z⟩ q
        · exact⟨e,f⟩
 obtain⟨K,h1,h2⟩:=ex L
 have h3:∀k,k ∈ K↔has k=true:=fun k=>by
  rw[h2];exact⟨fun h=>h.2,fun h=>⟨hL k h,h⟩⟩
 rw[←ly h1 h3];exact⟨(d8 K).nodup_iff.2 h1,j0 K,fun k=>by rw[(d8 K).mem_iff];exact h3 k⟩
theorem AG {l:List lB}{k:List UInt8}(h:(bV l).val k=true):∃s ∈ l,s.key=k:=by
 have key:∀ (l:List lB) (m:Mp Bool),(l.foldl (fun m s=>m.put s.key true) m).val k=true→m.val k=true∨∃s ∈ l,s.key=k:=by
  intro l
  induction l with
  |nil=>intro m h;exact .inl h
  | cons v l ih=>
    intro m h;rcases ih _ h with q|⟨w,q1,q2⟩
    · have q:(if k=v.key then true else m.val k)=true:=q
      by_cases e:k=v.key
      · exact .inr ⟨v,by simp,e.symm⟩
      · rw[if_neg e]at q;exact .inl q
    · exact .inr ⟨w,by simp[q1],q2⟩
 rcases key l _ h with q|q
 · cases q
 · exact q
theorem De {f:nc}(h:iL f=0):gj f.sta=0:=by
 unfold iL at h
 by_cases q:kL f=0
 · exact bf q _ (List.mem_cons_self ..)
 · rw[if_pos q]at h;exact absurd h q
theorem ru {h:df}(hE:gi h=0):iL h.flt=0:=bf hE _ (List.mem_cons_self ..)
theorem ul {h:df}(hE:gi h=0):(bV h.flt.sta).val []=false:=by
 cases q:(bV h.flt.sta).val []with
 |false=>rfl
 | true=>
   obtain⟨s,h1,h2⟩:=AG q;obtain⟨j,hj,rfl⟩:=bI (d:=fZ) h1;have hS:=De (ru hE);unfold gj at hS
   by_cases c:50<h.flt.sta.length
   · rw[if_pos c]at hS;exact absurd hS (by decide)
   rw[if_neg c]at hS;have:=fL hS j hj;unfold pI at this;rw[h2,if_pos (by decide)]at this;exact absurd this (by decide)
def kS (v:List UInt8)(acc:List gh)(x:aS):List gh:=if x.veh=v∧dF (acc.getLastD ep) x=true then acc++ [gp (acc.getLastD ep) x]else acc
def Ha (v:List UInt8)(l:List aS):List gh:=l.foldl (kS v) [ep]
def mo (l:List aS)(v:List UInt8)(t:Int):gh:=((Ha v l).reverse.find? fun s=>decide (s.sin≤t)).getD ep
theorem rM (v:List UInt8):∀ (l:List aS) (acc:List gh),Gy (acc.getLastD ep) (oG v l)→(l.foldl (kS v) acc).getLastD ep=(oG v l).foldl gp (acc.getLastD ep)
 | [],_,_=>rfl
 | x ::l,acc,h=>by
   rw[List.foldl_cons]
   by_cases q:x.veh=v
   · have e:oG v (x::l)=x::oG v l:=List.filter_cons_of_pos (by simpa using q);rw[e]at h ⊢;have e2:kS v acc x=acc++ [gp (acc.getLastD ep) x]:=if_pos ⟨q,h.1⟩;have e3:(acc++ [gp (acc.getLastD ep) x]).getLastD ep=gp (acc.getLastD ep) x:=by simp
     rw[e2,rM v l _ (by rw[e3];exact h.2),e3,List.foldl_cons]
   · have e:oG v (x::l)=oG v l:=List.filter_cons_of_neg (by simpa using q);rw[e]at h ⊢;have e2:kS v acc x=acc:=if_neg (fun c=>q c.1);rw[e2,rM v l _ h]
theorem yB (v:List UInt8):∀ (l:List aS) (acc:List gh),acc≠ []→l.foldl (kS v) acc≠ []
 | [],_,h=>h
 | x::l,acc,h=>by
   rw[List.foldl_cons];refine yB v l _ ?_;unfold kS;split
   · simp
   · exact h
theorem Dr {t:Int}:∀ (l:List aS) (s:gh),s.sin≤t→(∀x ∈ l,x.tm≤t)→(l.foldl gp s).sin≤t
 | [],_,h,_=>h
 | x::l,s,h,hl=>by
   rw[List.foldl_cons];refine Dr l _ ?_ (fun y hy=>hl y (List.mem_cons_of_mem _ hy));have:=hl x List.mem_cons_self;unfold gp;repeat' split
   all_goals first|exact this|exact h
theorem CN {v:List UInt8}{l:List aS}{t:Int}(h:Gy ep (oG v l))(ht:0≤t)(hl:∀x ∈ l,x.tm≤t):mo l v t=HB (oG v l):=by
 have h1:(Ha v l).getLastD ep=HB (oG v l):=rM v l [ep] h;have h2:Ha v l≠ []:=yB v l [ep] (by simp);have h3:(HB (oG v l)).sin≤t:=Dr _ _ ht (fun x hx=>hl x (List.mem_filter.1 hx).1)
 have h4:Ha v l=(Ha v l).dropLast++ [HB (oG v l)]:=by
  rw[←h1,List.getLastD_eq_getLast?,List.getLast?_eq_some_getLast h2,Option.getD_some,List.dropLast_concat_getLast h2]
 unfold mo;rw[h4,List.reverse_append,List.reverse_singleton,List.singleton_append,List.find?_cons_of_pos (by simpa using h3)];rfl
def zX (vm:Mp (List UInt8))(sm:Mp Bool)(x:aS):Int:=
 if ¬ (0≤x.tm∧x.tm≤5761439)then 1 else if(!vm.has x.veh|| !sm.val x.st)=true then 8 else if ¬ (1≤x.kind∧x.kind≤8)then 4
 else if x.kind≠6∧x.to≠ []then 3 else if x.kind=6∧sm.val x.to=false then 8 else if x.to=x.st then 14 else 0
def eY (vm:Mp (List UInt8))(sm:Mp Bool)(log:List aS)(x:aS):Int:=
 if zX vm sm x≠0 then zX vm sm x else if(log.any fun y=>decide (y.tm=x.tm)&&decide (y.veh=x.veh))=true then 6 else if dF (mo log x.veh x.tm) x=true then 0 else 11
def e9 (s:da):List aS:=bc aX s.log
variable {vm:Mp (List UInt8)} {sm:Mp Bool}
theorem zM {m n:Nat}{now:Int}{s:da}(hI:dQ m n s)(hB:gI vm sm now s)(h0:0≤now){x:aS}(hx:x.tm=now):eY vm sm (e9 s) x=if zX vm sm x≠0 then zX vm sm x else dV s x:=by
 unfold eY
 by_cases q:zX vm sm x=0
 · have hq:¬zX vm sm x≠0:=fun c=>c q
   rw[if_neg hq,if_neg hq]
   have e1:((e9 s).any fun y=>decide (y.tm=x.tm)&&decide (y.veh=x.veh))=s.ats x.veh x.tm:=by
    rw[Bool.eq_iff_iff,hI.ats,List.any_eq_true];constructor
    · rintro⟨y,hy,e⟩;simp only[Bool.and_eq_true,decide_eq_true_eq]at e;exact⟨y,(aK _ _).mem_iff.1 hy,e.2,e.1⟩
    · rintro⟨y,hy,e1,e2⟩;exact⟨y,(aK _ _).mem_iff.2 hy,by simp[e1,e2]⟩
   have e2:oG x.veh (e9 s)=oG x.veh s.log:=Dv hB hI.apt _
   have e3:mo (e9 s) x.veh x.tm=s.sts.val x.veh:=by
    rw[CN (by rw[e2];exact hB.ok _) (by omega) (fun y hy=>by rw[hx];exact hB.low y ((aK _ _).mem_iff.1 hy)),e2,hB.cur]
   rw[e1,e3];unfold dV;simp only[ah];cases s.ats x.veh x.tm<;>cases dF (s.sts.val x.veh) x<;>rfl
 · rw[if_pos q,if_pos q]
theorem qd {m n:Nat}{s:da}(hI:dQ m n s){x:aS}(hx:dV s x=0):bc aX (e9 s++ [x])=e9 (fy s x):=by
 have hp:(e9 s++ [x]).Perm (s.log++ [x]):=(aK aX s.log).append_right _;refine nv dx (fun a ha b hb e=> ?_) ((aK aX _).trans hp) (jK dx _);have hz:=m6 e
 have hn:s.ats x.veh x.tm=false:=by
  unfold dV at hx;simp only[ah]at hx
  cases q:s.ats x.veh x.tm with
  |false=>rfl
  |true=>rw[q]at hx;simp at hx
 have hno:∀y ∈ s.log,¬ (y.veh=x.veh∧y.tm=x.tm):=fun y hy c=>by
  have:=(hI.ats x.veh x.tm).2 ⟨y,hy,c⟩;rw[hn]at this;cases this
 have hpw:∀a ∈ s.log,∀b ∈ s.log,(a.veh=b.veh∧a.tm=b.tm)→a=b:=by
  have:=hI.apt;intro a ha b hb hab;obtain⟨i,hi,rfl⟩:=List.getElem_of_mem ha;obtain⟨j,hj,rfl⟩:=List.getElem_of_mem hb;rcases Nat.lt_trichotomy i j with q|q|q
  · exact absurd hab (List.pairwise_iff_getElem.1 this i j hi hj q)
  · subst q;rfl
  · exact absurd ⟨hab.1.symm,hab.2.symm⟩ (List.pairwise_iff_getElem.1 this j i hj hi q)
 rcases List.mem_append.1 ha with p|p<;>rcases List.mem_append.1 hb with q|q
 · exact hpw a p b q ⟨hz.2,hz.1⟩
 · rw[List.mem_singleton]at q;subst q;exact absurd ⟨hz.2,hz.1⟩ (hno a p)
 · rw[List.mem_singleton]at p;subst p;exact absurd ⟨hz.2.symm,hz.1.symm⟩ (hno b q)
 · rw[List.mem_singleton]at p q;rw[p,q]
theorem Gl {m n:Nat}{now:Int}{s:da}(hI:dQ m n s)(hB:gI vm sm now s)(h0:0≤now∧now≤5761439){x:aS}(hx:x.tm=now)(hk:1≤x.kind∧x.kind≤8)(hto:x.kind≠6→x.to= [])(hsm:sm.val []=false):eY vm sm (e9 s) x=kU vm sm s x:=by
 rw[zM hI hB h0.1 hx];unfold zX kU;rw[if_neg (show ¬ ¬ (0≤x.tm∧x.tm≤5761439)by rw[hx];exact fun c=>c h0),if_neg (show ¬ ¬ (1≤x.kind∧x.kind≤8)from fun c=>c hk),if_neg (show ¬ (x.kind≠6∧x.to≠ [])from fun c=>c.2 (hto c.1))];simp only[ah];cases hv:vm.has x.veh<;>cases hs:sm.val x.st<;>simp
 by_cases h6:x.kind=6
 · simp only[h6,true_and,decide_true,Bool.true_and];cases ht:sm.val x.to<;>simp
   by_cases he:x.to=x.st<;>simp[he]
 · have e:=hto h6;have he:¬x.to=x.st:=fun c=>by rw[←c,e,hsm]at hs;cases hs
   simp[h6,he]
def AC:TL:= [(6,[(0,[]),(1,[0]),(2,[]),(3,[]),(4,rg 4),(5,rg 5),(6,rg 4),(7,rg 4),(8,[])])]
def Ab:TL:= [(6,[(0,[]),(1,[0]),(2,[]),(3,[]),(4,rg 4),(5,rg 5),(6,rg 4),(7,rg 4),(8,[])])]
theorem zc {a b:aS}:a=b↔(((a.tm=b.tm∧a.veh=b.veh)∧a.st=b.st)∧a.kind=b.kind)∧a.to=b.to:=by cases a;cases b;simp[and_assoc]
instance:DecidableEq aS:=fun _ _=>decidable_of_iff _ zc.symm
theorem DR {a b:oR}:a=b↔((((a.key=b.key∧a.cls=b.cls)∧a.frm=b.frm)∧a.to=b.to)∧a.made=b.made)∧a.pct=b.pct:=by cases a;cases b;simp[and_assoc]
instance:DecidableEq oR:=fun _ _=>decidable_of_iff _ DR.symm
def yg:List Nat:= [80,82]
theorem BV:yg.all (kY Tryz.prog)=true:=by decide+kernel
noncomputable def TW:ci:=BC Tryz.prog (mem yg)
theorem OY:aQ Tryz.prog TW:=⟨mem yg,fun _ _ h=>h,fun t ht=>List.all_eq_true.1 BV t ((mem_iff _ _).1 ht)⟩
theorem JR (l m:List aS)(hl:l.length≤2^40)(hm:m.length≤2^40):ae Tryz.prog 17 [.d (ic l),.d (ic m)] [] (fun x r=>x= .d (.bool (decide (l=m)))∧r= []):=by
 skip
 refine aj hT Tryz.func17 Tryz.call17 ?_;conv=>whnf
 repeat' ((first|refine aa ?_ ?_<;>intro hb<;>try simp only[am]at hb|refine bg hT AC ?_|omega|refine ao ?_|decide|assumption)<;>conv=>whnf)
 · refine .ret _ ?_;conv=>whnf
   refine⟨[],⟨?_,rfl⟩,trivial⟩;conv=>lhs;whnf
   have:¬l=m:=fun q=>by subst q;simp at hb
   simp[this]
 have hlen:l.length=m.length:=by
  omega
 refine af hT (C:= []) (ι:=Nat) (fun i=>i≤l.length∧∀j,j<i→l.getD j cj=m.getD j cj) (fun i=>aJ [(0,.d (ic l)),(1,.d (ic m)),(12,.d (.int .i64 l.length)),(13,.d (.int .i64 i))] []) (fun i=>l.length - i) 0 ⟨by simp,fun j hj=>absurd hj (Nat.not_lt_zero j)⟩ (by exact a7 []) ?_;rintro i ⟨p1,p2⟩;have e1:=ek i;conv=>whnf
 repeat' ((first|refine aa ?_ ?_<;>intro hb<;>try simp only[am]at hb|refine bg hT AC ?_|omega|refine ao ?_|decide|assumption)<;>conv=>whnf)
 · refine .ret _ ?_;conv=>whnf
   refine⟨[],⟨?_,rfl⟩,trivial⟩;conv=>lhs;whnf
   have:¬l=m:=fun q=>by subst q;simp at hb
   simp[this]
 · exact⟨i+1,⟨by omega,aV p2 (by rw[zc];simpa [and_assoc]using hb)⟩,by omega,(by exact a7 [])⟩
 · refine .ret _ ?_;conv=>whnf
   refine⟨[],⟨?_,rfl⟩,trivial⟩;conv=>lhs;whnf
   have:i=l.length:=by omega
   subst this;simp[rJ cj hlen p2]
theorem Kt (l m:List oR)(hl:l.length≤2^40)(hm:m.length≤2^40):ae Tryz.prog 18 [.d (pF l),.d (pF m)] [] (fun x r=>x= .d (.bool (decide (l=m)))∧r= []):=by
 have hT:=OY;refine aj hT Tryz.func18 Tryz.call18 ?_;conv=>whnf
 repeat' ((first|refine aa ?_ ?_<;>intro hb<;>try simp only[am]at hb|refine bg hT Ab ?_|omega|refine ao ?_|decide|assumption)<;>conv=>whnf)
 · refine .ret _ ?_;conv=>whnf
   refine⟨[],⟨?_,rfl⟩,trivial⟩;conv=>lhs;whnf
   have:¬l=m:=fun q=>by subst q;simp at hb
   simp[this]
 have hlen:l.length=m.length:=by
  omega
 refine af hT (C:= []) (ι:=Nat) (fun i=>i≤l.length∧∀j,j<i→l.getD j fG=m.getD j fG) (fun i=>aJ [(0,.d (pF l)),(1,.d (pF m)),(12,.d (.int .i64 l.length)),(13,.d (.int .i64 i))] []) (fun i=>l.length - i) 0 ⟨by simp,fun j hj=>absurd hj (Nat.not_lt_zero j)⟩ (by exact a7 []) ?_;rintro i ⟨p1,p2⟩;have e1:=ek i;conv=>whnf
 repeat' ((first|refine aa ?_ ?_<;>intro hb<;>try simp only[am]at hb|refine bg hT Ab ?_|omega|refine ao ?_|decide|assumption)<;>conv=>whnf)
 · refine .ret _ ?_;conv=>whnf
   refine⟨[],⟨?_,rfl⟩,trivial⟩;conv=>lhs;whnf
   have:¬l=m:=fun q=>by subst q;simp at hb
   simp[this]
 · exact⟨i+1,⟨by omega,aV p2 (by rw[DR];simpa [and_assoc]using hb)⟩,by omega,(by exact a7 [])⟩
 · refine .ret _ ?_;conv=>whnf
   refine⟨[],⟨?_,rfl⟩,trivial⟩;conv=>lhs;whnf
   have:i=l.length:=by omega
   subst this;simp[rJ fG hlen p2]
def Om (s:lB):bh:=.cells 127 ((pG s).map .d)
def nf (s:lB)(k:Nat)(x y:Int):lB:={s with h:=fun j=>if j=2*k then x else if j=2*k+1 then y else s.h j}
theorem Jt:ae Tryz.prog 193 [.d (.int .u64 0)] [] (fun y r=>(∃m:Int,y= .d (.int .i64 m))∧r= []):=by
 refine aj hT Tryz.func193 Tryz.call193 ?_;conv=>whnf
 repeat' ((first|refine aa ?_ ?_<;>intro hb<;>try simp only[am]at hb|omega|refine ao ?_|decide|assumption)<;>conv=>whnf)
 refine .ret _ ?_;conv=>whnf
 exact⟨[],⟨⟨_,rfl⟩,rfl⟩,trivial⟩
theorem Jg:ae Tryz.prog 193 [.d (.int .u64 1)] [] (fun y r=>(∃m:Int,y= .d (.int .i64 m))∧r= []):=by
 refine aj hT Tryz.func193 Tryz.call193 ?_;conv=>whnf
 repeat' ((first|refine aa ?_ ?_<;>intro hb<;>try simp only[am]at hb|omega|refine ao ?_|decide|assumption)<;>conv=>whnf)
 refine .ret _ ?_;conv=>whnf
 exact⟨[],⟨⟨_,rfl⟩,rfl⟩,trivial⟩
theorem Ia:ae Tryz.prog 193 [.d (.int .u64 2)] [] (fun y r=>(∃m:Int,y= .d (.int .i64 m))∧r= []):=by
 refine aj hT Tryz.func193 Tryz.call193 ?_;conv=>whnf
 repeat' ((first|refine aa ?_ ?_<;>intro hb<;>try simp only[am]at hb|omega|refine ao ?_|decide|assumption)<;>conv=>whnf)
 refine .ret _ ?_;conv=>whnf
 exact⟨[],⟨⟨_,rfl⟩,rfl⟩,trivial⟩
theorem IC:ae Tryz.prog 193 [.d (.int .u64 3)] [] (fun y r=>(∃m:Int,y= .d (.int .i64 m))∧r= []):=by
 refine aj hT Tryz.func193 Tryz.call193 ?_;conv=>whnf
 repeat' ((first|refine aa ?_ ?_<;>intro hb<;>try simp only[am]at hb|omega|refine ao ?_|decide|assumption)<;>conv=>whnf)
 refine .ret _ ?_;conv=>whnf
 exact⟨[],⟨⟨_,rfl⟩,rfl⟩,trivial⟩
theorem HH:ae Tryz.prog 193 [.d (.int .u64 4)] [] (fun y r=>(∃m:Int,y= .d (.int .i64 m))∧r= []):=by
 refine aj hT Tryz.func193 Tryz.call193 ?_;conv=>whnf
 repeat' ((first|refine aa ?_ ?_<;>intro hb<;>try simp only[am]at hb|omega|refine ao ?_|decide|assumption)<;>conv=>whnf)
 refine .ret _ ?_;conv=>whnf
 exact⟨[],⟨⟨_,rfl⟩,rfl⟩,trivial⟩
theorem H1:ae Tryz.prog 193 [.d (.int .u64 5)] [] (fun y r=>(∃m:Int,y= .d (.int .i64 m))∧r= []):=by
 refine aj hT Tryz.func193 Tryz.call193 ?_;conv=>whnf
 repeat' ((first|refine aa ?_ ?_<;>intro hb<;>try simp only[am]at hb|omega|refine ao ?_|decide|assumption)<;>conv=>whnf)
 refine .ret _ ?_;conv=>whnf
 exact⟨[],⟨⟨_,rfl⟩,rfl⟩,trivial⟩
theorem IR:ae Tryz.prog 193 [.d (.int .u64 6)] [] (fun y r=>(∃m:Int,y= .d (.int .i64 m))∧r= []):=by
 refine aj hT Tryz.func193 Tryz.call193 ?_;conv=>whnf
 repeat' ((first|refine aa ?_ ?_<;>intro hb<;>try simp only[am]at hb|omega|refine ao ?_|decide|assumption)<;>conv=>whnf)
 refine .ret _ ?_;conv=>whnf
 exact⟨[],⟨⟨_,rfl⟩,rfl⟩,trivial⟩
theorem It:ae Tryz.prog 193 [.d (.int .u64 7)] [] (fun y r=>(∃m:Int,y= .d (.int .i64 m))∧r= []):=by
 refine aj hT Tryz.func193 Tryz.call193 ?_;conv=>whnf
 repeat' ((first|refine aa ?_ ?_<;>intro hb<;>try simp only[am]at hb|omega|refine ao ?_|decide|assumption)<;>conv=>whnf)
 refine .ret _ ?_;conv=>whnf
 exact⟨[],⟨⟨_,rfl⟩,rfl⟩,trivial⟩
theorem I6:ae Tryz.prog 193 [.d (.int .u64 8)] [] (fun y r=>(∃m:Int,y= .d (.int .i64 m))∧r= []):=by
 refine aj hT Tryz.func193 Tryz.call193 ?_;conv=>whnf
 repeat' ((first|refine aa ?_ ?_<;>intro hb<;>try simp only[am]at hb|omega|refine ao ?_|decide|assumption)<;>conv=>whnf)
 refine .ret _ ?_;conv=>whnf
 exact⟨[],⟨⟨_,rfl⟩,rfl⟩,trivial⟩
theorem HT:ae Tryz.prog 193 [.d (.int .u64 9)] [] (fun y r=>(∃m:Int,y= .d (.int .i64 m))∧r= []):=by
 refine aj hT Tryz.func193 Tryz.call193 ?_;conv=>whnf
 repeat' ((first|refine aa ?_ ?_<;>intro hb<;>try simp only[am]at hb|omega|refine ao ?_|decide|assumption)<;>conv=>whnf)
 refine .ret _ ?_;conv=>whnf
 exact⟨[],⟨⟨_,rfl⟩,rfl⟩,trivial⟩
theorem Gt:ae Tryz.prog 193 [.d (.int .u64 10)] [] (fun y r=>(∃m:Int,y= .d (.int .i64 m))∧r= []):=by
 refine aj hT Tryz.func193 Tryz.call193 ?_;conv=>whnf
 repeat' ((first|refine aa ?_ ?_<;>intro hb<;>try simp only[am]at hb|omega|refine ao ?_|decide|assumption)<;>conv=>whnf)
 refine .ret _ ?_;conv=>whnf
 exact⟨[],⟨⟨_,rfl⟩,rfl⟩,trivial⟩
theorem FH:ae Tryz.prog 193 [.d (.int .u64 11)] [] (fun y r=>(∃m:Int,y= .d (.int .i64 m))∧r= []):=by
 refine aj hT Tryz.func193 Tryz.call193 ?_;conv=>whnf
 repeat' ((first|refine aa ?_ ?_<;>intro hb<;>try simp only[am]at hb|omega|refine ao ?_|decide|assumption)<;>conv=>whnf)
 refine .ret _ ?_;conv=>whnf
 exact⟨[],⟨⟨_,rfl⟩,rfl⟩,trivial⟩
theorem F8:ae Tryz.prog 193 [.d (.int .u64 12)] [] (fun y r=>(∃m:Int,y= .d (.int .i64 m))∧r= []):=by
 refine aj hT Tryz.func193 Tryz.call193 ?_;conv=>whnf
 repeat' ((first|refine aa ?_ ?_<;>intro hb<;>try simp only[am]at hb|omega|refine ao ?_|decide|assumption)<;>conv=>whnf)
 refine .ret _ ?_;conv=>whnf
 exact⟨[],⟨⟨_,rfl⟩,rfl⟩,trivial⟩
theorem Nq (n:Nat)(hn:n≤12):ae Tryz.prog 193 [.d (.int .u64 n)] [] (fun y r=>(∃m:Int,y= .d (.int .i64 m))∧r= []):=by
 match n,hn with
 |0,_=>exact Jt
 |1,_=>exact Jg
 |2,_=>exact Ia
 |3,_=>exact IC
 |4,_=>exact HH
 |5,_=>exact H1
 |6,_=>exact IR
 |7,_=>exact It
 |8,_=>exact I6
 |9,_=>exact HT
 |10,_=>exact Gt
 |11,_=>exact FH
 |12,_=>exact F8
 |n+13,h=>omega
theorem CE (n:Nat)(hn:n≤12):IntKind.u64.wrap n=n:=by
 match n,hn with
 |0,_|1,_|2,_|3,_|4,_|5,_|6,_|7,_|8,_|9,_|10,_|11,_|12,_=>decide
 |n+13,h=>omega
theorem D1 (n:Nat)(hn:n≤12):ae Tryz.prog 126 [.d (.int .u64 (IntKind.u64.wrap n))] [] (fun y r=>(∃m:Int,y= .d (.int .i64 m))∧r= []):=by
 rw[CE n hn];refine aj hT Tryz.func126 Tryz.call126 ?_;conv=>whnf
 repeat' ((first|refine aa ?_ ?_<;>intro hb<;>try simp only[am]at hb|omega|refine ao ?_|decide|assumption)<;>conv=>whnf)
 refine dp (Nq n hn) [] ?_;rintro x rout ⟨⟨m,rfl⟩,rfl⟩;refine⟨rfl,?_⟩;conv=>whnf
 refine .ret _ ?_;conv=>whnf
 exact⟨[],⟨⟨_,rfl⟩,rfl⟩,trivial⟩
abbrev rP (l:List iE):bh:=aD 134 3 ig bD l
abbrev w9 (l:List lB):bh:=aD 127 15 pG fZ l
abbrev uD (l:List pV):bh:=aD 131 2 uM dg l
def wq (p q:iE):Int:=if p.frm≠q.frm then p.frm - q.frm else dq (p.veh++ [32]++p.plt) (q.veh++ [32]++q.plt)
theorem za {A B:List iE}{x y:iE}{D b:List iE}{j:Nat}(hb:(y::A).reverse++ [x]++B++D=b)(hj:j=A.length+1):
 b.getD j bD=x∧b.getD (j - 1) bD=y∧(b.set j y).set (j - 1) x=A.reverse++ [x]++(y::B)++D:=by
 subst hj;refine⟨?_,?_,?_⟩
 · rw[←hb,show(y::A).reverse++ [x]++B++D=(y::A).reverse++x::(B++D)by simp];exact oe _ _ _ _ (by simp)
 · rw[←hb,show(y::A).reverse++ [x]++B++D=A.reverse++y::([x]++B++D)by simp];exact oe _ _ _ _ (by simp)
 · rw[←hb];have:=rN A.reverse (B++D) x y;simp only[List.length_reverse]at this;simp only[List.reverse_cons,List.append_assoc,List.singleton_append,List.cons_append,List.nil_append,Nat.add_sub_cancel]at this ⊢;exact this
theorem lO {P:bh→Prop}:∀ {l:List (Nat×bh)},(∀p ∈ l,P p.2)→∀c q,aC l c=some q→P q:=by
 intro l
 induction l with
 |nil=>intro _ c q h;cases h
 | cons p l ih=>
   intro hp c q h;simp only[aC]at h
   by_cases e:c=p.1
   · subst e;simp at h;subst h;exact hp p (by simp)
   · rw[aw e]at h;exact ih (fun x hx=>hp x (by simp[hx])) c q h
theorem zU (l:List iE):(rP l).flat:=fun _ _=>rfl
theorem Fu (l:List pV):(uD l).flat:=fun _ _=>rfl
def v4:List (List UInt8):= [[118,49],[118,50],[118,51],[118,52]]
def O9 (c:List gd):bh:=.cells 31 [.buf 10,.d (dI c),.buf 20,.buf 30]
def Kk (c:List gd):bh:=.cells 31 [.buf 10,.d (dI c),.buf 20,.d .nilsl]
def LS:bh:=.cells 31 [.d .nilsl,.d .nilsl,.d .nilsl,.d .nilsl]
def Mx (st:List lB)(c:List gd)(vs:List pV)(ps:List iE):Prop:=dA BZ 3 st∧(c.length=4∧∀x ∈ c,zi x)∧dA AZ 4 vs∧dA v7 5 ps
theorem ut {α:Type}{P:Program}{c:Code}{Q:Exit→St→Prop}{G:Prop}(σ:α→St)(pre:α→Prop)(main:(∀a,pre a→mD P c Q (σ a))→G)(tail:∀a,pre a→mD P c Q (σ a)):G:=main tail
def Ks:List lB:= [⟨[115,49],fun _=>0⟩]
structure HW (f:nc):Prop where
 sta:dA BZ 4 f.sta
 cls:G5 f.cls
 veh:dA AZ 5 f.veh
 plt:dA v7 6 f.plt
theorem HW.ok {f:nc}(h:HW f):qF f:=
 ⟨⟨Nat.le_trans h.sta.1 (by decide),fun s hs=>Nat.le_trans (h.sta.2 s hs) (by decide)⟩,⟨Nat.le_trans h.cls.1 (by decide),fun s hs=>⟨Nat.le_trans (h.cls.2 s hs).1 (by decide),Nat.le_trans (h.cls.2 s hs).2 (by decide)⟩⟩,
   ⟨Nat.le_trans h.veh.1 (by decide),fun s hs=>⟨Nat.le_trans (h.veh.2 s hs).1 (by decide),Nat.le_trans (h.veh.2 s hs).2 (by decide)⟩⟩,⟨Nat.le_trans h.plt.1 (by decide),fun s hs=>⟨(h.plt.2 s hs).1,Nat.le_trans (h.plt.2 s hs).2.1 (by decide),Nat.le_trans (h.plt.2 s hs).2.2 (by decide)⟩⟩⟩
def rp:TL:= [(12,[(0,[]),(1,[]),(2,[0,1]),(3,[0,1,2]),(4,[0,1]),(5,[]),(6,[])])]
def zw (x:pL):Prop:=x.cls.length≤8
def c3:List (List UInt8):= [[109,97,120,105],[109,105,100,105],[109,105,110,105]]
theorem KP (n:Nat)(L:Nat→Int)(hL:oW n L)(a:Int)(h0:0≤a)(ha:a≤2^36):
 ae Tryz.prog 104 [.ptr 1000000 0] [(1000000,bd n L a)] (fun y r=>∃l:List pL,∃b,dA zw 9 l∧(a≤b∧b≤a+100)∧y= .buf 3∧r= [(3,aD 187 7 xQ eI l),(1000000,bd n L b)]):=by
 refine aj hT Tryz.func104 Tryz.call104 ?_;conv=>whnf
 refine af hT (C:= []) (ι:=Int×List pL×Nat) (fun(b,l,i)=>(a≤b∧b≤a+30*i∧i≤3)∧dA zw (3*i) l)
  (fun(b,l,i)=>aJ [(0,.ptr 1000000 0),(3,.buf 3),(8,.d (bU c3)),(9,.d (.int .i64 3)),(10,.d (.int .i64 i))] [(1000000,bd n L b),(3,aD 187 7 xQ eI l)])
  (fun(_,_,i)=>3 - i) (a,[],0) ⟨⟨by simp,by simp,by simp⟩,⟨by simp,by simp⟩⟩ ?_ ?_
 · refine(du.nil 3 3 187 7 (aR xQ eI []) rfl rfl (by decide)).trans (ac [(1000000,1000000),(3,3)] rfl rfl ⟨lr,lr,ai rfl rfl,lr,lr,trivial⟩ ⟨rr,rr,trivial⟩)
 rintro⟨b,l,i⟩ ⟨⟨p1,p2,p3⟩,p4⟩;have p1:a≤b:=p1;have p2:b≤a+30*i:=p2;have p3:i≤3:=p3;have p4:dA zw (3*i) l:=p4;have hc3:c3.length=3:=rfl;have hl1:l.length≤3*i:=p4.1;rcases Nat.lt_or_ge i 3 with hi|hi
 · conv=>whnf
   repeat' (first|(refine kN (jF n L hL _ ?_ ?_ [0,0,0,3] ?_ ?_) [(1000000,1000000)] ?_;rotate_right;rintro x rout ⟨⟨u1,hu1,rfl⟩,⟨c,c1,c2,rfl⟩⟩;have hw1:=LB hu1 (by decide);refine⟨rfl,?_⟩;conv=>whnf)|(refine kN (jF n L hL _ ?_ ?_ [0,1,1,2,3] ?_ ?_) [(1000000,1000000)] ?_;rotate_right;rintro x rout ⟨⟨u2,hu2,rfl⟩,⟨c,c1,c2,rfl⟩⟩;refine⟨rfl,?_⟩;conv=>whnf)|((first|refine aa ?_ ?_<;>intro hb<;>try simp only[am]at hb|refine bg hT rp ?_|omega|refine ao ?_|decide|assumption)<;>conv=>whnf))
   all_goals try(exfalso;omega)
   have hw2:0≤u2∧u2≤3:=by simp only[List.mem_cons,List.not_mem_nil,or_false]at hu2;omega
   have hw3:u1≤5000:=by omega
   have hkk:(c3.getD (i:Int).toNat []).length≤8:=bu (al (by omega)) rfl;obtain⟨cc,hcc⟩:∃cc:Int,cc=c:=⟨_,rfl⟩;obtain⟨ky,hky⟩:∃ky,ky=c3.getD (i:Int).toNat []:=⟨_,rfl⟩
   refine af hT (C:= []) (ι:=Int×List pL×Int×Nat) (fun(d,m,f,k)=>(cc≤d∧d≤cc+6*k∧(k:Int)≤u2)∧dA zw (3*i+k) m∧0≤f∧f≤5000)
    (fun(d,m,f,k)=>aJ [(0,.ptr 1000000 0),(3,.buf 3),(5,.d (.str ky)),(6,.d (.int .i64 f)),(8,.d (bU c3)),(9,.d (.int .i64 3)),(10,.d (.int .i64 i)),(19,.d (.int .i64 u2)),(20,.d (.int .i64 k))] [(1000000,bd n L d),(3,aD 187 7 xQ eI m)])
    (fun(_,_,_,k)=>u2.toNat - k) (cc,l,u1,0) ⟨⟨by simp,by simp,by show((0:Nat):Int)≤u2;omega⟩,p4,by show 0≤u1;omega,by show u1≤5000;omega⟩ (by subst hcc hky;exact(by exact a7 [(1000000,1000000),(3,3)])) ?_
   rintro⟨d,m,f,k⟩ ⟨⟨q1,q2,q3⟩,q4,q5,q6⟩;have q1:cc≤d:=q1;have q2:d≤cc+6*k:=q2;have q3:(k:Int)≤u2:=q3;have q4:dA zw (3*i+k) m:=q4;have q5:0≤f:=q5;have q6:f≤5000:=q6;have hm1:m.length≤3*i+k:=q4.1;conv=>whnf
   repeat' (first|(refine kN (jF n L hL _ ?_ ?_ [1,5,20,4000] ?_ ?_) [(1000000,1000000)] ?_;rotate_right;rintro x rout ⟨⟨u3,hu3,rfl⟩,⟨c,c1,c2,rfl⟩⟩;have hw4:0≤u3∧u3≤4000:=(by simp only[List.mem_cons,List.not_mem_nil,or_false]at hu3;omega);refine⟨rfl,?_⟩;conv=>whnf)|(refine kN (jF n L hL _ ?_ ?_ [-1,5,10,10,0] ?_ ?_) [(1000000,1000000)] ?_;rotate_right;rintro x rout ⟨⟨u4,hu4,rfl⟩,⟨c,c1,c2,rfl⟩⟩;refine⟨rfl,?_⟩;conv=>whnf)|(refine kN (jF n L hL _ ?_ ?_ [-1,50,50,70,40] ?_ ?_) [(1000000,1000000)] ?_;rotate_right;rintro x rout ⟨⟨u5,hu5,rfl⟩,⟨c,c1,c2,rfl⟩⟩;refine⟨rfl,?_⟩;conv=>whnf)|(refine kN (jF n L hL _ ?_ ?_ [-1,70,90,100] ?_ ?_) [(1000000,1000000)] ?_;rotate_right;rintro x rout ⟨⟨u6,hu6,rfl⟩,⟨c,c1,c2,rfl⟩⟩;refine⟨rfl,?_⟩;conv=>whnf)|(refine kN (jF n L hL _ ?_ ?_ [-1,200,250,300] ?_ ?_) [(1000000,1000000)] ?_;rotate_right;rintro x rout ⟨⟨u7,hu7,rfl⟩,⟨c,c1,c2,rfl⟩⟩;refine⟨rfl,?_⟩;conv=>whnf)|(refine kN (jF n L hL _ ?_ ?_ [0,0,0,2] ?_ ?_) [(1000000,1000000)] ?_;rotate_right;rintro x rout ⟨⟨u8,hu8,rfl⟩,⟨c,c1,c2,rfl⟩⟩;have hw8:0≤u8∧u8≤2:=(by simp only[List.mem_cons,List.not_mem_nil,or_false]at hu8;omega);refine⟨rfl,?_⟩;conv=>whnf)|((first|(refine And.intro (by show bC (min (f+u3) 4001+u8);unfold bC;omega) ?_)|refine aa ?_ ?_<;>intro hb<;>try simp only[am]at hb|refine bg hT rp ?_|omega|refine ao ?_|decide|assumption)<;>conv=>whnf))
   · exact⟨(c,m,i+1),⟨⟨by omega,by show _≤a+30*((i+1:Nat):Int);omega,by omega⟩,bo q4 (by omega)⟩,by show 3 - (i+1)<3 - i;omega,(by exact a7 [(1000000,1000000),(3,3)])⟩
   · exact⟨(_,m++ [⟨ky,f,min (f+u3) 4001,u4,u5,u6,u7⟩],min (f+u3) 4001+u8,k+1),⟨⟨by omega,by show _≤cc+6*((k+1:Nat):Int);omega,by show((k+1:Nat):Int)≤u2;omega⟩,dk q4 (by omega) (by show ky.length≤8;rw[hky];exact hkk),by show 0≤min (f+u3) 4001+u8;omega,by show min (f+u3) 4001+u8≤5000;omega⟩,by show u2.toNat - (k+1)<u2.toNat - k;omega,
      ac [(1000000,1000000),(3,54)] rfl rfl ⟨lr,lr,lr,lr,lr,lr,lr,lr,lr,trivial⟩ ⟨rr,aB rfl,trivial⟩⟩
   · exact⟨(d,m,i+1),⟨⟨by omega,by show _≤a+30*((i+1:Nat):Int);omega,by omega⟩,bo q4 (by omega)⟩,by show 3 - (i+1)<3 - i;omega,(by exact a7 [(1000000,1000000),(3,3)])⟩
 · conv=>whnf
   repeat' ((first|refine aa ?_ ?_<;>intro hb<;>try simp only[am]at hb|refine bg hT rp ?_|omega|refine ao ?_|decide|assumption)<;>conv=>whnf)
   all_goals try(exfalso;omega)
   refine .ret _ ?_;conv=>whnf
   exact⟨[(3,aD 187 7 xQ eI l),(1000000,bd n L _)],⟨l,b,bo p4 (by omega),⟨by omega,by omega⟩,rfl,rfl⟩,rr,rr,trivial⟩
theorem IA (n:Nat)(L:Nat→Int)(hL:oW n L)(a:Int)(h0:0≤a)(ha:a≤2^35):
 ae Tryz.prog 57 [.ptr 1000000 0] [(1000000,bd n L a)] (fun y r=>(∃l:List pL,dA zw 10 l∧y= .d (mQ l))∧fo n L a 120 r):=by
 refine aj hT Tryz.func57 Tryz.call57 ?_;conv=>whnf
 refine dp (KP n L hL _ ?_ ?_) [(1000000,1000000),(3,6)] ?_
 rotate_right
 rintro x rout ⟨l,b,p4,⟨p1,p2⟩,rfl,rfl⟩;refine⟨rfl,?_⟩;have hl1:l.length≤9:=p4.1;conv=>whnf
 repeat' (first|(refine dp (pn n L hL _ ?_ ?_ 12 ?_) [(1000000,1000000)] ?_;rotate_right;rintro x rout ⟨⟨w,rfl⟩,⟨c,c1,c2,rfl⟩⟩;refine⟨rfl,?_⟩;conv=>whnf)|(refine dp (wA n L hL _ ?_ ?_ 4 ?_) [(1000000,1000000)] ?_;rotate_right;rintro x rout ⟨⟨m,hm1,hm2,hm3,rfl⟩,⟨c,c1,c2,rfl⟩⟩;refine⟨rfl,?_⟩;conv=>whnf)|(refine dp (wA n L hL _ ?_ ?_ _ ?_) [(1000000,1000000)] ?_;rotate_right;rintro x rout ⟨⟨j,hj1,hj2,hj3,rfl⟩,⟨c,c1,c2,rfl⟩⟩;refine⟨rfl,?_⟩;conv=>whnf)|(refine dP.of (mI n L hL _ ?_ ?_ [[],[65],[109,105,110,105],[122,101,100]] (by simp) (by simp)) [(1000000,1000000)] rfl ⟨lr,ai rfl rfl,trivial⟩ ⟨rr,trivial⟩ rfl rfl ?_;rotate_right;rintro x rout ⟨⟨u1,hu1,rfl⟩,⟨c,c1,c2,rfl⟩⟩;refine⟨rfl,?_⟩;conv=>whnf)|(refine dp (mh n L hL _ ?_ ?_ 0 10 ?_ ?_ ?_) [(1000000,1000000)] ?_;rotate_right;rintro x rout ⟨⟨o1,ho1,ho2,rfl⟩,⟨c,c1,c2,rfl⟩⟩;refine⟨rfl,?_⟩;conv=>whnf)|(refine dp (mh n L hL _ ?_ ?_ 1 4001 ?_ ?_ ?_) [(1000000,1000000)] ?_;rotate_right;rintro x rout ⟨⟨o2,ho3,ho4,rfl⟩,⟨c,c1,c2,rfl⟩⟩;refine⟨rfl,?_⟩;conv=>whnf)|(refine dp (mh n L hL _ ?_ ?_ (-1) 1000000 ?_ ?_ ?_) [(1000000,1000000)] ?_;rotate_right;rintro x rout ⟨⟨o3,ho5,ho6,rfl⟩,⟨c,c1,c2,rfl⟩⟩;refine⟨rfl,?_⟩;conv=>whnf)|((first|refine aa ?_ ?_<;>intro hb<;>try simp only[am]at hb|omega|refine ao ?_|decide|assumption)<;>conv=>whnf))
 all_goals try(exact h0)
 all_goals try omega
 · have hw1:u1.length≤8:=bu hu1 rfl;refine .freeze _ 6 187 7 _ _ rfl (.weak _ ?_);conv=>whnf
   exact⟨.d (mQ (kO l j.toNat eI fun y=>{y with cls:=u1})),[(1000000,bd n L _)],s5 (fun y:pL=>{y with cls:=u1}) (fun _=>rfl),⟨⟨_,fd (g:=fun y:pL=>{y with cls:=u1}) (bo p4 (by omega)) (fun y hy=>hw1),rfl⟩,_,by omega,by omega,rfl⟩,rr,trivial⟩
 · refine .freeze _ 6 187 7 _ _ rfl (.weak _ ?_);conv=>whnf
   have hrow:=eg (f:=xQ) (d:=eI) (eg (l:=l) (j:=j.toNat) (off:=1) (ds:= [.int .i64 o1]) (fun _ _=>rfl) (fun y:pL=>{y with frm:=o1}) (fun _=>rfl)) (off:=2) (ds:= [.int .i64 o2]) (j:=j.toNat) (fun y:pL=>{y with to:=o2}) (fun _=>rfl);exact⟨.d (mQ (kO (kO l j.toNat eI fun y=>{y with frm:=o1}) j.toNat eI fun y=>{y with to:=o2})),[(1000000,bd n L _)],cO (by simp) (fun i hi=>hrow i (by simpa using hi)),⟨⟨_,fd (g:=fun y:pL=>{y with to:=o2}) (fd (g:=fun y:pL=>{y with frm:=o1}) (bo p4 (by omega)) (fun y hy=>hy)) (fun y hy=>hy),rfl⟩,_,by omega,by omega,rfl⟩,rr,trivial⟩
 · refine .freeze _ 6 187 7 _ _ rfl (.weak _ ?_);conv=>whnf
   exact⟨.d (mQ (kO l j.toNat eI fun y=>{y with dy:=o3})),[(1000000,bd n L _)],s5 (fun y:pL=>{y with dy:=o3}) (fun _=>rfl),⟨⟨_,fd (g:=fun y:pL=>{y with dy:=o3}) (bo p4 (by omega)) (fun y hy=>hy),rfl⟩,_,by omega,by omega,rfl⟩,rr,trivial⟩
 · refine .freeze _ 27 187 7 _ _ rfl (.weak _ ?_);conv=>whnf
   exact⟨.d (mQ (l++ [l.getD 0 eI])),[(1000000,bd n L _)],cO (by simp) (iJ rfl),⟨⟨_,dk p4 (by omega) (p4.2 _ (al (by omega))),rfl⟩,_,by omega,by omega,rfl⟩,rr,trivial⟩
 all_goals
  refine .freeze _ 6 187 7 _ _ rfl (.weak _ ?_);conv=>whnf
  exact⟨.d (mQ l),[(1000000,bd n L _)],lr,⟨⟨_,bo p4 (by omega),rfl⟩,_,by omega,by omega,rfl⟩,rr,trivial⟩
def Gx:TL:= [(6,[(0,[]),(1,[0]),(2,[0]),(3,[0,1,2]),(4,[0,1,2]),(5,rg 5),(6,rg 6),(7,rg 5),(8,[0]),(9,[0]),(10,[]),(11,[])])]
def Lf (x:ym):Prop:=x.key.length≤8
def Ka (x:Fe):Prop:=x.a.length≤8∧x.b.length≤8
def G9 (x:vi):Prop:=x.key.length≤8∧x.cls.length≤8
theorem Ac {e:List ym}{g:Nat→List DV}{m:Int}(h0:0≤m)(h2:m≤2)(hl:e.length=2)(q0:g 0=II (e.getD 0 sy))(q1:g 1=II (e.getD 1 sy)):SV.le (.d (.ro 4 m.toNat g)) (.d (sq (e.take m.toNat))):=
 cO (by rw[List.length_take];omega) (fun i hi=>by
  have:i=0∨i=1:=by omega
  simp only[aR,o0 hi];rcases this with rfl|rfl
  · exact q0
  · exact q1)
theorem Hc (n:Nat)(L:Nat→Int)(hL:oW n L)(a:Int)(h0:0≤a)(ha:a≤2^36):
 ae Tryz.prog 58 [.ptr 1000000 0] [(1000000,bd n L a)] (fun y r=>(∃l:List ym,dA Lf 2 l∧y= .d (sq l))∧fo n L a 20 r):=by
 refine g9 hT (C:= [24]) Tryz.func58 rfl Tryz.call58 rfl rfl rfl ?_;conv=>whnf
 repeat' (first|(refine kN (jF n L hL _ ?_ ?_ [0,5,100] ?_ ?_) [(1000000,1000000)] ?_;rotate_right;rintro x rout ⟨⟨u1,hu1,rfl⟩,⟨c,c1,c2,rfl⟩⟩;refine⟨rfl,?_⟩;conv=>whnf)|(refine kN (jF n L hL _ ?_ ?_ [0,2] ?_ ?_) [(1000000,1000000)] ?_;rotate_right;rintro x rout ⟨⟨u2,hu2,rfl⟩,⟨c,c1,c2,rfl⟩⟩;refine⟨rfl,?_⟩;conv=>whnf)|(refine kN (jF n L hL _ ?_ ?_ [-1,0,7] ?_ ?_) [(1000000,1000000)] ?_;rotate_right;rintro x rout ⟨⟨u3,hu3,rfl⟩,⟨c,c1,c2,rfl⟩⟩;refine⟨rfl,?_⟩;conv=>whnf)|(refine kN (jF n L hL _ ?_ ?_ [0,10] ?_ ?_) [(1000000,1000000)] ?_;rotate_right;rintro x rout ⟨⟨u4,hu4,rfl⟩,⟨c,c1,c2,rfl⟩⟩;refine⟨rfl,?_⟩;conv=>whnf)|(refine kN (jF n L hL _ ?_ ?_ [0,3,50] ?_ ?_) [(1000000,1000000)] ?_;rotate_right;rintro x rout ⟨⟨u5,hu5,rfl⟩,⟨c,c1,c2,rfl⟩⟩;refine⟨rfl,?_⟩;conv=>whnf)|(refine kN (jF n L hL _ ?_ ?_ [-1,-1,20,1000] ?_ ?_) [(1000000,1000000)] ?_;rotate_right;rintro x rout ⟨⟨u6,hu6,rfl⟩,⟨c,c1,c2,rfl⟩⟩;refine⟨rfl,?_⟩;conv=>whnf)|(refine dp (pn n L hL _ ?_ ?_ 15 ?_) [(1000000,1000000)] ?_;rotate_right;rintro x rout ⟨⟨w,rfl⟩,⟨c,c1,c2,rfl⟩⟩;refine⟨rfl,?_⟩;conv=>whnf)|(refine dP.of (mI n L hL _ ?_ ?_ [[],[65],[109,97,112],[115,101,97,116]] (by simp) (by simp)) [(1000000,1000000)] rfl ⟨lr,ai rfl rfl,trivial⟩ ⟨rr,trivial⟩ rfl rfl ?_;rotate_right;rintro x rout ⟨⟨v1,hv1,rfl⟩,⟨c,c1,c2,rfl⟩⟩;refine⟨rfl,?_⟩;conv=>whnf)|(refine dp (mh n L hL _ ?_ ?_ 0 1000000 ?_ ?_ ?_) [(1000000,1000000)] ?_;rotate_right;rintro x rout ⟨⟨o1,ho1,ho2,rfl⟩,⟨c,c1,c2,rfl⟩⟩;refine⟨rfl,?_⟩;conv=>whnf)|(refine dp (mh n L hL _ ?_ ?_ (-1) 1000000 ?_ ?_ ?_) [(1000000,1000000)] ?_;rotate_right;rintro x rout ⟨⟨o2,ho3,ho4,rfl⟩,⟨c,c1,c2,rfl⟩⟩;refine⟨rfl,?_⟩;conv=>whnf)|(refine kN (jF n L hL _ ?_ ?_ [0,1,2,2] ?_ ?_) [(1000000,1000000)] ?_;rotate_right;rintro x rout ⟨⟨m,hm,rfl⟩,⟨c,c1,c2,rfl⟩⟩;have hm2:0≤m∧m≤2:=(by simp only[List.mem_cons,List.not_mem_nil,or_false]at hm;omega);refine⟨rfl,?_⟩;conv=>whnf)|((first|refine jP.first (lo:=none) rfl ?_|refine aa ?_ ?_<;>intro hb<;>try simp only[am]at hb|omega|refine ao ?_|decide|assumption)<;>conv=>whnf))
 all_goals try(exact h0)
 all_goals try omega
 · have hw:v1.length≤8:=bu hv1 rfl;refine .freeze _ 41 189 4 _ _ rfl (.weak _ ?_);conv=>whnf
   refine⟨.d (sq (([⟨[109,97,112],u1,u2,u3⟩,⟨v1,o1,0,o2⟩]:List ym).take m.toNat)),[(1000000,bd n L _)],Ac hm2.1 hm2.2 rfl rfl rfl,⟨⟨_,⟨by rw[List.length_take];exact Nat.min_le_right _ _,fun x hx=> ?_⟩,rfl⟩,_,by omega,by omega,rfl⟩,rr,trivial⟩;have hx:=List.mem_of_mem_take hx;simp only[List.mem_cons,List.not_mem_nil,or_false]at hx;rcases hx with rfl|rfl
   · show([109,97,112]:List UInt8).length≤8;decide
   · exact hw
 · refine .freeze _ 41 189 4 _ _ rfl (.weak _ ?_);conv=>whnf
   refine⟨.d (sq (([⟨[109,97,112],u1,u2,u3⟩,⟨[115,101,97,116],u4,u5,u6⟩]:List ym).take m.toNat)),[(1000000,bd n L _)],Ac hm2.1 hm2.2 rfl rfl rfl,⟨⟨_,⟨by rw[List.length_take];exact Nat.min_le_right _ _,fun x hx=> ?_⟩,rfl⟩,_,by omega,by omega,rfl⟩,rr,trivial⟩;have hx:=List.mem_of_mem_take hx;simp only[List.mem_cons,List.not_mem_nil,or_false]at hx;rcases hx with rfl|rfl
   · show([109,97,112]:List UInt8).length≤8;decide
   · show([115,101,97,116]:List UInt8).length≤8;decide
def Pf (p:List UInt8×List UInt8):List DV:= [.str p.1,.str p.2]
def f4:List (List UInt8×List UInt8):= [([115,49],[115,50]),([115,49],[115,51]),([115,50],[115,49]),([115,51],[115,50])]
theorem IP (i:Nat):(f4.getD i ([],[])).1.length≤8∧(f4.getD i ([],[])).2.length≤8:=by
 match i with
 |0=>decide
 |1=>decide
 |2=>decide
 |3=>decide
 |i+4=>simp[f4]
theorem Ke (n:Nat)(L:Nat→Int)(hL:oW n L)(a:Int)(h0:0≤a)(ha:a≤2^36):
 ae Tryz.prog 59 [.ptr 1000000 0] [(1000000,bd n L a)] (fun y r=>(∃l:List Fe,dA Ka 5 l∧y= .d (E3 l))∧fo n L a 20 r):=by
 refine aj hT Tryz.func59 Tryz.call59 ?_;conv=>whnf
 refine af hT (C:= []) (ι:=Int×List Fe×Nat) (fun(b,l,i)=>(a≤b∧b≤a+2*i∧i≤4)∧dA Ka i l)
  (fun(b,l,i)=>aJ [(0,.ptr 1000000 0),(3,.buf 3),(10,.d (d6 2 Pf ([],[]) f4)),(11,.d (.int .i64 4)),(12,.d (.int .i64 i))] [(1000000,bd n L b),(3,aD 193 3 M1 Jw l)])
  (fun(_,_,i)=>4 - i) (a,[],0) ⟨⟨by simp,by simp,by simp⟩,⟨by simp,by simp⟩⟩ ?_ ?_
 · refine(du.nil 3 3 193 3 (aR M1 Jw []) rfl rfl (by decide)).trans (ac [(1000000,1000000),(3,3)] rfl rfl ⟨lr,lr,ai rfl rfl,lr,lr,trivial⟩ ⟨rr,rr,trivial⟩)
 rintro⟨b,l,i⟩ ⟨⟨p1,p2,p3⟩,p4⟩;have p1:a≤b:=p1;have p2:b≤a+2*i:=p2;have p3:i≤4:=p3;have p4:dA Ka i l:=p4;have hc3:f4.length=4:=rfl;have hl1:l.length≤i:=p4.1;have e1:=ek i;have hf:=IP (i:Int).toNat;conv=>whnf
 repeat' (first|(refine dp (pn n L hL _ ?_ ?_ 3 ?_) [(1000000,1000000)] ?_;rotate_right;rintro x rout ⟨⟨w,rfl⟩,⟨c,c1,c2,rfl⟩⟩;refine⟨rfl,?_⟩;conv=>whnf)|(refine kN (jF n L hL _ ?_ ?_ [0,40,700] ?_ ?_) [(1000000,1000000)] ?_;rotate_right;rintro x rout ⟨⟨u1,hu1,rfl⟩,⟨c,c1,c2,rfl⟩⟩;refine⟨rfl,?_⟩;conv=>whnf)|(refine dp (pn n L hL _ ?_ ?_ 15 ?_) [(1000000,1000000)] ?_;rotate_right;rintro x rout ⟨⟨w2,rfl⟩,⟨c,c1,c2,rfl⟩⟩;refine⟨rfl,?_⟩;conv=>whnf)|(refine dP.of (mI n L hL _ ?_ ?_ [[115,51],[65],[115,49]] (by simp) (by simp)) [(1000000,1000000)] rfl ⟨lr,ai rfl rfl,trivial⟩ ⟨rr,trivial⟩ rfl rfl ?_;rotate_right;rintro x rout ⟨⟨v1,hv1,rfl⟩,⟨c,c1,c2,rfl⟩⟩;refine⟨rfl,?_⟩;conv=>whnf)|(refine dP.of (mI n L hL _ ?_ ?_ [[115,51],[115,57],[]] (by simp) (by simp)) [(1000000,1000000)] rfl ⟨lr,ai rfl rfl,trivial⟩ ⟨rr,trivial⟩ rfl rfl ?_;rotate_right;rintro x rout ⟨⟨v2,hv2,rfl⟩,⟨c,c1,c2,rfl⟩⟩;refine⟨rfl,?_⟩;conv=>whnf)|(refine dp (mh n L hL _ ?_ ?_ 0 1000000 ?_ ?_ ?_) [(1000000,1000000)] ?_;rotate_right;rintro x rout ⟨⟨o1,ho1,ho2,rfl⟩,⟨c,c1,c2,rfl⟩⟩;refine⟨rfl,?_⟩;conv=>whnf)|((first|refine aa ?_ ?_<;>intro hb<;>try simp only[am]at hb|refine bg hT Gx ?_|omega|refine ao ?_|decide|assumption)<;>conv=>whnf))
 all_goals try(exact h0)
 all_goals try omega
 · exact⟨(c,l++ [⟨(f4.getD (i:Int).toNat ([],[])).1,(f4.getD (i:Int).toNat ([],[])).2,u1⟩],i+1),⟨⟨by omega,by show _≤a+2*((i+1:Nat):Int);omega,by omega⟩,dk p4 (by omega) (show Ka ⟨(f4.getD (i:Int).toNat ([],[])).1,(f4.getD (i:Int).toNat ([],[])).2,u1⟩from hf)⟩,by show 4 - (i+1)<4 - i;omega,
    ac [(1000000,1000000),(3,29)] rfl rfl ⟨lr,lr,lr,lr,lr,trivial⟩ ⟨rr,aB rfl,trivial⟩⟩
 · exact⟨(c,l,i+1),⟨⟨by omega,by show _≤a+2*((i+1:Nat):Int);omega,by omega⟩,bo p4 (by omega)⟩,by show 4 - (i+1)<4 - i;omega,(by exact a7 [(1000000,1000000),(3,3)])⟩
 · refine .freeze _ 44 193 3 _ _ rfl (.weak _ ?_);conv=>whnf
   exact⟨.d (E3 (l++ [⟨v1,v2,o1⟩])),[(1000000,bd n L _)],cO (by simp) (iJ rfl),⟨⟨_,dk p4 (by omega) ⟨bu hv1 rfl,bu hv2 rfl⟩,rfl⟩,_,by omega,by omega,rfl⟩,rr,trivial⟩
 · refine .freeze _ 3 193 3 _ _ rfl (.weak _ ?_);conv=>whnf
   exact⟨.d (E3 l),[(1000000,bd n L _)],lr,⟨⟨_,bo p4 (by omega),rfl⟩,_,by omega,by omega,rfl⟩,rr,trivial⟩
def k3:List (List UInt8):= [[97,49,48],[98,50,48],[99,51,48]]
theorem I2 (n:Nat)(L:Nat→Int)(hL:oW n L)(a:Int)(h0:0≤a)(ha:a≤2^36):
 ae Tryz.prog 60 [.ptr 1000000 0] [(1000000,bd n L a)] (fun y r=>(∃l:List vi,dA G9 3 l∧y= .d (uH l))∧fo n L a 40 r):=by
 refine aj hT Tryz.func60 Tryz.call60 ?_;conv=>whnf
 refine af hT (C:= []) (ι:=Int×List vi×Nat) (fun(b,l,i)=>(a≤b∧b≤a+8*i∧i≤3)∧dA G9 i l)
  (fun(b,l,i)=>aJ [(0,.ptr 1000000 0),(3,.buf 3),(8,.d (bU k3)),(9,.d (.int .i64 3)),(10,.d (.int .i64 i))] [(1000000,bd n L b),(3,aD 195 6 Gj m0 l)])
  (fun(_,_,i)=>3 - i) (a,[],0) ⟨⟨by simp,by simp,by simp⟩,⟨by simp,by simp⟩⟩ ?_ ?_
 · refine(du.nil 3 3 195 6 (aR Gj m0 []) rfl rfl (by decide)).trans (ac [(1000000,1000000),(3,3)] rfl rfl ⟨lr,lr,ai rfl rfl,lr,lr,trivial⟩ ⟨rr,rr,trivial⟩)
 rintro⟨b,l,i⟩ ⟨⟨p1,p2,p3⟩,p4⟩;have p1:a≤b:=p1;have p2:b≤a+8*i:=p2;have p3:i≤3:=p3;have p4:dA G9 i l:=p4;have hc3:k3.length=3:=rfl;have hl1:l.length≤i:=p4.1;have hkk:(i:Int)<3→(k3.getD (i:Int).toNat []).length≤8:=fun h=>bu (al (by omega)) rfl
 conv=>whnf
 repeat' (first|(refine dp (pn n L hL _ ?_ ?_ 4 ?_) [(1000000,1000000)] ?_;rotate_right;rintro x rout ⟨⟨w,rfl⟩,⟨c,c1,c2,rfl⟩⟩;refine⟨rfl,?_⟩;conv=>whnf)|(refine kN (jF n L hL _ ?_ ?_ [0,0,3] ?_ ?_) [(1000000,1000000)] ?_;rotate_right;rintro x rout ⟨⟨u1,hu1,rfl⟩,⟨c,c1,c2,rfl⟩⟩;have hw1:=LB hu1 (by decide);refine⟨rfl,?_⟩;conv=>whnf)|(refine dP.of (mI n L hL _ ?_ ?_ [[],[],[109,105,110,105]] (by simp) (by simp)) [(1000000,1000000)] rfl ⟨lr,ai rfl rfl,trivial⟩ ⟨rr,trivial⟩ rfl rfl ?_;rotate_right;rintro x rout ⟨⟨v1,hv1,rfl⟩,⟨c,c1,c2,rfl⟩⟩;refine⟨rfl,?_⟩;conv=>whnf)|(refine kN (jF n L hL _ ?_ ?_ [0,1,10,3000] ?_ ?_) [(1000000,1000000)] ?_;rotate_right;rintro x rout ⟨⟨u2,hu2,rfl⟩,⟨c,c1,c2,rfl⟩⟩;have hw2:=LB hu2 (by decide);refine⟨rfl,?_⟩;conv=>whnf)|(refine kN (jF n L hL _ ?_ ?_ [1,1,2,5] ?_ ?_) [(1000000,1000000)] ?_;rotate_right;rintro x rout ⟨⟨u3,hu3,rfl⟩,⟨c,c1,c2,rfl⟩⟩;refine⟨rfl,?_⟩;conv=>whnf)|(refine kN (jF n L hL _ ?_ ?_ [1,100,100,250,1000] ?_ ?_) [(1000000,1000000)] ?_;rotate_right;rintro x rout ⟨⟨u4,hu4,rfl⟩,⟨c,c1,c2,rfl⟩⟩;refine⟨rfl,?_⟩;conv=>whnf)|(refine dp (pn n L hL _ ?_ ?_ 15 ?_) [(1000000,1000000)] ?_;rotate_right;rintro x rout ⟨⟨w2,rfl⟩,⟨c,c1,c2,rfl⟩⟩;refine⟨rfl,?_⟩;conv=>whnf)|(refine dp (wA n L hL _ ?_ ?_ _ ?_) [(1000000,1000000)] ?_;rotate_right;rintro x rout ⟨⟨j,hj1,hj2,hj3,rfl⟩,⟨c,c1,c2,rfl⟩⟩;refine⟨rfl,?_⟩;conv=>whnf)|(refine dP.of (mI n L hL _ ?_ ?_ [(l.getD j.toNat m0).key,[],[122,101,100],[97,49,48]] (by simp) (by simp)) [(1000000,1000000)] rfl ⟨lr,ai rfl rfl,trivial⟩ ⟨rr,trivial⟩ rfl rfl ?_;rotate_right;rintro x rout ⟨⟨v2,hv2,rfl⟩,⟨c,c1,c2,rfl⟩⟩;refine⟨rfl,?_⟩;conv=>whnf)|(refine dp (mh n L hL _ ?_ ?_ 1 120 ?_ ?_ ?_) [(1000000,1000000)] ?_;rotate_right;rintro x rout ⟨⟨o1,ho1,ho2,rfl⟩,⟨c,c1,c2,rfl⟩⟩;refine⟨rfl,?_⟩;conv=>whnf)|(refine dp (mh n L hL _ ?_ ?_ 1 1000 ?_ ?_ ?_) [(1000000,1000000)] ?_;rotate_right;rintro x rout ⟨⟨o2,ho3,ho4,rfl⟩,⟨c,c1,c2,rfl⟩⟩;refine⟨rfl,?_⟩;conv=>whnf)|((first|refine aa ?_ ?_<;>intro hb<;>try simp only[am]at hb|omega|refine ao ?_|decide|assumption)<;>conv=>whnf))
 all_goals try(exact h0)
 all_goals try omega
 · exact⟨(c,l,i+1),⟨⟨by omega,by show _≤a+8*((i+1:Nat):Int);omega,by omega⟩,bo p4 (by omega)⟩,by show 3 - (i+1)<3 - i;omega,(by exact a7 [(1000000,1000000),(3,3)])⟩
 · exact⟨(c,l++ [⟨k3.getD (i:Int).toNat [],v1,u1,u1+u2,u3,u4⟩],i+1),⟨⟨by omega,by show _≤a+8*((i+1:Nat):Int);omega,by omega⟩,dk p4 (by omega) ⟨hkk (by omega),bu hv1 rfl⟩⟩,by show 3 - (i+1)<3 - i;omega,
    ac [(1000000,1000000),(3,38)] rfl rfl ⟨lr,lr,lr,lr,lr,trivial⟩ ⟨rr,aB rfl,trivial⟩⟩
 · have hv:v2.length≤8:=by
    simp only[List.mem_cons,List.not_mem_nil,or_false]at hv2;rcases hv2 with rfl|rfl|rfl|rfl
    · exact(p4.2 _ (al (by omega))).1
    · decide
    · decide
    · decide
   refine .freeze _ 3 195 6 _ _ rfl (.weak _ ?_);conv=>whnf
   have hrow:=eg (f:=Gj) (d:=m0) (eg (eg (l:=l) (j:=j.toNat) (off:=0) (ds:= [.str v2]) (fun _ _=>rfl) (fun y:vi=>{y with key:=v2}) (fun _=>rfl)) (off:=4) (ds:= [.int .i64 o1]) (j:=j.toNat) (fun y:vi=>{y with days:=o1}) (fun _=>rfl)) (off:=5) (ds:= [.int .i64 o2]) (j:=j.toNat) (fun y:vi=>{y with per:=o2}) (fun _=>rfl);exact⟨.d (uH (kO (kO (kO l j.toNat m0 fun y=>{y with key:=v2}) j.toNat m0 fun y=>{y with days:=o1}) j.toNat m0 fun y=>{y with per:=o2})),[(1000000,bd n L _)],cO (by simp) (fun i hi=>hrow i (by simpa using hi)),⟨⟨_,fd (g:=fun y:vi=>{y with per:=o2}) (fd (g:=fun y:vi=>{y with days:=o1}) (fd (g:=fun y:vi=>{y with key:=v2}) (bo p4 (by omega)) (fun y hy=>⟨hv,hy.2⟩)) (fun y hy=>hy)) (fun y hy=>hy),rfl⟩,_,by omega,by omega,rfl⟩,rr,trivial⟩
 all_goals
  refine .freeze _ 3 195 6 _ _ rfl (.weak _ ?_);conv=>whnf
  exact⟨.d (uH l),[(1000000,bd n L _)],lr,⟨⟨_,bo p4 (by omega),rfl⟩,_,by omega,by omega,rfl⟩,rr,trivial⟩
end Go.Proofs.YtafhoijegjmdcaaGreatDoor
