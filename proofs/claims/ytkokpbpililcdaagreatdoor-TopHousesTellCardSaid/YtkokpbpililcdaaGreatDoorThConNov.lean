/- TopHousesTell is proved: for every input the law returns true, and its argument reads afterwards as it read before. Conditions: those of the given row alone. -/
import Derived.Test.YtkokpbpililcdaaGreatDoorThConOct
import Derived.Test.YtkokpbpililcdaaGreatDoorThConSep
import Derived.Test.YtkokpbpililcdaaGreatDoorThConSex
import Derived.Test.YtkokpbpililcdaaGreatDoorThConTri
import Derived.Test.YtkokpbpililcdaaGreatDoorThConTwo
import Derived.Test.YtkokpbpililcdaaGreatDoorThConQui
set_option linter.unusedVariables false
set_option linter.unusedSimpArgs false
set_option maxRecDepth 20000
namespace Go.Proofs.YtkokpbpililcdaaGreatDoor
open Go Go.Eng
def kS:OL:= [(0,[]),(1,[0]),(2,[]),(3,[]),(4,[]),(5,[4]),(6,[4,5]),(7,[4]),(8,[4]),(9,[4,5,6,7,8]),(10,[4,5,6,7,8,9]),(11,[4,5,6,7,8,9]),(12,[4,5,6,7,8]),(13,[4,5,6,7,8]),(14,[]),(15,[]),(16,[])]
def kF:OL:= [(0,[]),(1,[0]),(2,[0,1]),(3,[0,1,2]),(4,[0,1,2]),(5,rg 5),(6,rg 6),(7,rg 6),(8,rg 5),(9,rg 5),(10,rg 10),(11,rg 11),(12,rg 10),(13,rg 10),(14,[2,3,4]),(15,[2,3,4]),(16,[]),(17,[])]
theorem yk {A B:List pS}{x y:pS}{D b:List pS}{j:Nat}(hb:(y::A).reverse++ [x]++B++D=b)(hj:j=A.length+1):
 b.getD j jJ=x∧b.getD (j - 1) jJ=y∧(b.set j y).set (j - 1) x=A.reverse++ [x]++(y::B)++D:=by
 subst hj;refine⟨?_,?_,?_⟩
 · rw[←hb,show(y::A).reverse++ [x]++B++D=(y::A).reverse++x::(B++D)by simp];exact zx _ _ _ _ (by simp)
 · rw[←hb,show(y::A).reverse++ [x]++B++D=A.reverse++y::([x]++B++D)by simp];exact zx _ _ _ _ (by simp)
 · rw[←hb];have:=AK A.reverse (B++D) x y;simp only[List.length_reverse]at this;simp only[List.reverse_cons,List.append_assoc,List.singleton_append,List.cons_append,List.nil_append,Nat.add_sub_cancel]at this ⊢;exact this
theorem IZ (g:FuncId)(cmp:pS→pS→Int)(l:List pS)(hl:l.length≤2^40)
 (hcmp:∀p q,p ∈ l→q ∈ l→ai Tryz.prog g [.agg ((jk p).map .d),.agg ((jk q).map .d)] [] (fun y r=>y= .d (.int .i64 (cmp p q))∧r= [])):
 ai Tryz.prog 229 [.buf 1000001,.d (.int .i64 0),.d (.int .i64 l.length),.fn g []] [(1000001,aL 96 2 jk jJ l)]
  (fun y r=>y= .tup []∧r= [(1000001,aL 96 2 jk jJ (eI cmp l))]):=by
 refine ae hT (C:= []) Tryz.func229 rfl Tryz.call229 rfl rfl rfl ?_;conv=>whnf
 repeat' (first|((first|(refine aa ?_ ?_<;>intro hb<;>try simp only[az]at hb)|refine aq hT 4 kS ?_|refine aq hT 6 kF ?_|omega|refine aA ?_|decide|assumption)<;>conv=>whnf))
 refine ah hT (C:= []) (ι:=Nat×List pS) (fun(i,c)=>1≤i∧(i≤l.length∨i=1)∧c=(b8 cmp (l.take i)).reverse++l.drop i)
  (fun(i,c)=>aI [(0,.buf 1000001),(1,.d (.int .i64 0)),(2,.d (.int .i64 l.length)),(3,.fn g []),(8,.d (.int .i64 i))] [(1000001,aL 96 2 jk jJ c)])
  (fun(i,_)=>l.length - i) (1,l) ⟨by simp,by simp,by cases l with|nil=>rfl|cons x l=>simp[b8,ig]⟩ (by exact be [(1000001,1000001)]) ?_
 rintro⟨i,c⟩ ⟨p1,p2,p3⟩;conv=>whnf
 repeat' (first|((first|(refine aa ?_ ?_<;>intro hb<;>try simp only[az]at hb)|refine aq hT 4 kS ?_|refine aq hT 6 kF ?_|omega|refine aA ?_|decide|assumption)<;>conv=>whnf))
 · have hi:i<l.length:=by omega
   have hx:l[i] ∈ l:=List.getElem_mem hi;have hmem:∀y ∈ b8 cmp (l.take i),y ∈ l:=fun y hy=>List.mem_of_mem_take ((oo cmp _).1 hy)
   have hlr:(b8 cmp (l.take i)).length=i:=by rw[nK,List.length_take];omega
   have hc:c=(b8 cmp (l.take i)).reverse++ [l[i]]++ []++l.drop (i+1):=by rw[p3,List.drop_eq_getElem_cons hi];simp
   refine ah hT (C:= []) (ι:=List pS×List pS×List pS) (fun(A,B,b)=>ig cmp l[i] (b8 cmp (l.take i))=B.reverse++ig cmp l[i] A∧A.length+B.length=i∧(∀y ∈ A,y ∈ l)∧A.reverse++ [l[i]]++B++l.drop (i+1)=b)
    (fun(A,B,b)=>aI [(0,.buf 1000001),(1,.d (.int .i64 0)),(2,.d (.int .i64 l.length)),(3,.fn g []),(8,.d (.int .i64 i)),(9,.d (.int .i64 A.length))] [(1000001,aL 96 2 jk jJ b)])
    (fun(A,_,_)=>A.length) (b8 cmp (l.take i),[],c) ⟨by simp,by simpa using hlr,hmem,hc.symm⟩ ?_ ?_
   · exact af [(1000001,1000001)] rfl rfl ⟨lr,lr,lr,lr,lr,ap (by omega),trivial⟩ ⟨rr,trivial⟩
   rintro⟨A,B,b⟩ ⟨q1,q2,q3,hbd⟩;have hlen:b.length=l.length:=by rw[←hbd];simp;omega
   have hfin:A= []∨(∃y A',A=y::A'∧0≤cmp l[i] y)→b8 cmp (l.take (i+1))=B.reverse++l[i]::A∧b=(b8 cmp (l.take (i+1))).reverse++l.drop (i+1):=fun h=>by
    have e:b8 cmp (l.take (i+1))=B.reverse++l[i]::A:=by
     rw[mO hi,mu,q1];rcases h with rfl|⟨y,A',rfl,h⟩
     · rfl
     · rw[ig,if_neg (by omega)]
    exact⟨e,by rw[e,←hbd];simp⟩
   conv=>whnf
   repeat' (first|((first|(refine aa ?_ ?_<;>intro hb<;>try simp only[az]at hb)|refine aq hT 4 kS ?_|refine aq hT 6 kF ?_|omega|refine aA ?_|decide|assumption)<;>conv=>whnf))
   · cases A with
     |nil=>simp at hb
     |cons y A=>
     obtain⟨g1,g2,g3⟩:=yk (j:=(((y::A).length:Int)).toNat) hbd (by simp);have ej:((((y::A).length:Int)) - 1).toNat=(((y::A).length:Int)).toNat - 1:=by omega
     refine dQ.of (hcmp l[i] y hx (q3 y (by simp))) [] rfl ⟨by rw[←g1];exact lr,by rw[←g2,←ej];exact lr,trivial⟩ trivial rfl rfl ?_;rintro x rout ⟨rfl,rfl⟩;refine⟨rfl,?_⟩;conv=>whnf
     repeat' (first|((first|(refine aa ?_ ?_<;>intro hb<;>try simp only[az]at hb)|refine aq hT 4 kS ?_|refine aq hT 6 kF ?_|omega|refine aA ?_|decide|assumption)<;>conv=>whnf))
     · refine⟨(A,y::B,_),⟨by rw[q1];simp[ig,hb],by simp only[List.length_cons]at q2 ⊢;omega,fun z hz=>q3 z (by simp[hz]),?_⟩,by show A.length<(y::A).length;simp,af [(1000001,1000001)] rfl rfl ⟨lr,lr,lr,lr,lr,ap (by simp only[List.length_cons];omega),trivial⟩ ⟨fN (x:=b.getD ((((y::A).length:Int)) - 1).toNat jJ) (y:=b.getD (((y::A).length:Int)).toNat jJ) (fun _=>rfl) (fun _=>rfl),trivial⟩⟩;rw[←g3,ej,g1,g2]
     · obtain⟨_,h2⟩:=hfin (.inr ⟨y,A,rfl,hb⟩);exact⟨(i+1,b),⟨by omega,by omega,h2⟩,by show l.length - (i+1)<l.length - i;omega,(by exact be [(1000001,1000001)])⟩
   · have hA:A= []:=List.length_eq_zero_iff.1 (by omega);obtain⟨_,h2⟩:=hfin (.inl hA);exact⟨(i+1,b),⟨by omega,by omega,h2⟩,by show l.length - (i+1)<l.length - i;omega,(by exact be [(1000001,1000001)])⟩
 · refine .ret _ ?_;conv=>whnf
   have e1:c=eI cmp l:=by
    rw[p3,List.take_of_length_le (by omega),List.drop_eq_nil_iff.2 (by omega),List.append_nil];rfl
   subst e1;exact⟨_,⟨rfl,rfl⟩,rr,trivial⟩
theorem HN (g:FuncId)(cmp:pS→pS→Int)(l:List pS)(hl:l.length≤12)(lim:Int)
 (hcmp:∀p q,p ∈ l→q ∈ l→ai Tryz.prog g [.agg ((jk p).map .d),.agg ((jk q).map .d)] [] (fun y r=>y= .d (.int .i64 (cmp p q))∧r= [])):
 ai Tryz.prog 185 [.buf 1000001,.d (.int .i64 0),.d (.int .i64 l.length),.d (.int .i64 lim),.fn g []] [(1000001,aL 96 2 jk jJ l)]
  (fun y r=>y= .tup []∧r= [(1000001,aL 96 2 jk jJ (eI cmp l))]):=by
 refine ae hT (C:= []) Tryz.func185 rfl Tryz.call185 rfl rfl rfl ?_;conv=>whnf
 refine bU hT (C:= []) (fun _ _ h=>h) (fun _ h=>h) ?_;conv=>whnf
 repeat' (first|((first|(refine aa ?_ ?_<;>intro hb<;>try simp only[az]at hb)|refine aq hT 17 oJLeB185_17 ?_|omega|refine aA ?_|decide|assumption)<;>conv=>whnf))
 refine cd (IZ g cmp l (by omega) hcmp) [(1000001,1000001)] ?_;rintro x rout ⟨rfl,rfl⟩;refine⟨rfl,?_⟩;conv=>whnf
 refine .ret _ ?_;conv=>whnf
 exact⟨_,⟨rfl,rfl⟩,rr,trivial⟩
theorem Fb (g:FuncId)(cmp:pS→pS→Int)(l:List pS)(hl:l.length≤12)
 (hcmp:∀p q,p ∈ l→q ∈ l→ai Tryz.prog g [.agg ((jk p).map .d),.agg ((jk q).map .d)] [] (fun y r=>y= .d (.int .i64 (cmp p q))∧r= [])):
 ai Tryz.prog 132 [.buf 1000001,.fn g []] [(1000001,aL 96 2 jk jJ l)]
  (fun y r=>y= .tup []∧r= [(1000001,aL 96 2 jk jJ (eI cmp l))]):=by
 refine ae hT (C:= []) Tryz.func132 rfl Tryz.call132 rfl rfl rfl ?_;conv=>whnf
 repeat' (first|((first|(refine aa ?_ ?_<;>intro hb<;>try simp only[az]at hb)|omega|refine aA ?_|decide|assumption)<;>conv=>whnf))
 refine cd (Fs l.length hl) [] ?_;rintro x rout ⟨⟨lim,rfl⟩,rfl⟩;refine⟨rfl,?_⟩;conv=>whnf
 repeat' (first|((first|(refine aa ?_ ?_<;>intro hb<;>try simp only[az]at hb)|omega|refine aA ?_|decide|assumption)<;>conv=>whnf))
 refine cd (HN g cmp l hl lim hcmp) [(1000001,1000001)] ?_;rintro x rout ⟨rfl,rfl⟩;refine⟨rfl,?_⟩;conv=>whnf
 refine .ret _ ?_;conv=>whnf
 exact⟨_,⟨rfl,rfl⟩,rr,trivial⟩
theorem PA (a b:pS):ai Tryz.prog 133 [.agg ((jk a).map .d),.agg ((jk b).map .d)] [] (fun x r=>x= .d (.int .i64 (GI a b))∧r= []):=by
 have c1:=Ax a.acc b.acc;refine ae hT (C:= []) Tryz.func133 rfl Tryz.call133 rfl rfl rfl ?_;conv=>whnf
 repeat' (first|(refine ac (c1) rfl rfl ?_;rotate_right;conv=>whnf)|((first|(refine aa ?_ ?_<;>intro hb<;>try simp only[az]at hb)|omega|refine aA ?_|decide|assumption)<;>conv=>whnf))
 refine .ret _ ?_;conv=>whnf
 refine⟨[],⟨?_,rfl⟩,trivial⟩;conv=>lhs;whnf
 rfl
def dT:OL:= [(0,[]),(1,[]),(2,[0,1]),(3,[0,1]),(4,[0,1]),(5,[0,1]),(6,rg 6),(7,[0,1]),(8,[]),(9,[])]
def dV:OL:= [(0,[]),(1,[]),(2,[0,1]),(3,[0,1]),(4,[0,1]),(5,[0,1]),(6,rg 6),(7,[0,1]),(8,[]),(9,[])]
def dA:OL:= [(0,[]),(1,[0]),(2,[0,1]),(3,[0,1]),(4,[0]),(5,[0]),(6,[]),(7,rg 7),(8,rg 7),(9,[]),(10,[])]
abbrev NS (h:eH)(vm:Mp (List UInt8))(m:Mp (Option di))(pd:Mp Int)(clock:Nat)(kb:List (List DV×Nat)):List (Nat×aY):=xT h vm (.mapB false true [.str] (eK none) (fun K=>m.has (cf K)) (fun K=>eK (m.val (cf K))) clock kb) (x6 pd)
noncomputable def BI (M:Mp Int):List pS:=eI GI (rm M (dr M.has))
theorem zc:jj GI:=jj.str (fun a:pS=>a.acc)
theorem Ic {M:Mp Int}{qs:List (List UInt8)}(h1:qs.Nodup)(h2:∀k,k ∈ qs↔M.has k=true):eI GI (rm M qs)=BI M:=by
 unfold BI
 have hq:∀ks,∀a ∈ rm M ks,a.amt=M.val a.acc:=fun ks a ha=>by
  obtain⟨k,_,rfl⟩:=List.mem_map.1 ha;rfl
 refine yo zc (fun a ha b hb e=> ?_) ((eh _ _).trans ?_) (m0 zc _)
 · have e:a.acc=b.acc:=kg.1 e;have h3:=hq _ a ha;have h4:=hq _ b hb;cases a;cases b;subst e;simp only at h3 h4;rw[h3,h4]
 · rw[←tV h1 h2];exact(((fz qs).symm.filter _).map _)
theorem vJ (M:Mp Int)(qs:List (List UInt8))(s:List UInt8):rm M (qs++ [s])=rm M qs++if M.val s=0 then []else [⟨s,M.val s⟩]:=by
 unfold rm;rw[List.filter_append,List.map_append]
 by_cases h:M.val s=0<;>simp[h]
def Bt:List (List UInt8):=nC::pz::Mv
theorem H8 (n:Nat):Mv.getD n [] ∈ Bt:=by
 rcases Nat.lt_or_ge n Mv.length with h|h
 · rw[List.getD_eq_getElem?_getD,List.getElem?_eq_getElem h];exact List.mem_cons_of_mem _ (List.mem_cons_of_mem _ (List.getElem_mem h))
 · rw[List.getD_eq_getElem?_getD,List.getElem?_eq_none h];decide
theorem y2 {h:eH}{vm:Mp (List UInt8)}{m:Mp (Option di)}{pd:Mp Int}{ks:List (List UInt8)}{k:List UInt8}(hk:(ib (iJ h vm m pd ks)).has k=true):k ∈ Bt:=by
 obtain⟨p,hp,hq⟩:=List.any_eq_true.1 hk;have hq:=of_decide_eq_true hq;subst hq;obtain⟨s,_,hp⟩:=List.mem_flatMap.1 hp;rcases List.mem_append.1 hp with q|q
 · simp only[List.mem_cons,List.not_mem_nil,or_false]at q;rcases q with rfl|rfl
   · show nC ∈ Bt;decide
   · show pz ∈ Bt;decide
 · split at q
   · cases q
   · obtain⟨x,_,q⟩:=List.mem_flatMap.1 q;simp only[Gf,List.mem_cons,List.not_mem_nil,or_false]at q;rcases q with rfl|rfl
     · show pz ∈ Bt;decide
     · exact H8 _
theorem sH {α:Type}{va:Bool}{z:List DV}{f:α→List DV}{m:Mp α}{x y:List UInt8}{v w:α}:
 aY.le (.map false va [.str] z (fun q=>ay q [.str y]||(ay q [.str x]||m.has (cf q))) (fun q=>bif ay q [.str y]then f w else bif ay q [.str x]then f v else f (m.val (cf q)))) (eY va z f ((m.put x v).put y w)):=bC fun K hK=>by
 obtain⟨s,rfl⟩:=gg hK;rw[mY,mY];refine⟨rfl,?_⟩;show(bif decide (s=y)then f w else bif decide (s=x)then f v else f (m.val s))=f (if s=y then w else if s=x then v else m.val s)
 by_cases q:s=y
 · rw[decide_eq_true q,if_pos q];rfl
 · rw[decide_eq_false q,if_neg q]
   by_cases r:s=x
   · rw[decide_eq_true r,if_pos r];rfl
   · rw[decide_eq_false r,if_neg r];rfl
theorem MA {a b:Int}(h: -2^60≤a∧a≤2^60)(k: -1000000000≤b∧b≤1000000000):aS (a+b)∧aS (a - b):=by
 unfold aS;omega
theorem vh {has:List UInt8→Bool}{clock:Nat}{kb:List (List DV×Nat)}(hkb:KB [.str] (fun K=>has (cf K)) clock kb){seen:List Nat}{ks:List (List UInt8)}(g1:ks.Nodup)(g2:∀k b',([DV.str k],b') ∈ kb→(b' ∈ seen↔k ∈ ks))(g3:∀k ∈ ks,has k=true)
 {s:List UInt8}{b':Nat}(hkb1:([DV.str s],b') ∈ kb)(hseen:b' ∉ seen)(hsn:s ∉ ks)(nM:has s=true):
 ((ks++ [s]).Nodup∧(∀k b2,([DV.str k],b2) ∈ kb→(b2 ∈ b'::seen↔k ∈ ks++ [s]))∧∀k ∈ ks++ [s],has k=true)∧(kb.filter fun p=> !(b'::seen).contains p.2).length<(kb.filter fun p=> !seen.contains p.2).length:=by
 refine⟨⟨?_,fun k b2 hk2=> ?_,fun k hk=> ?_⟩,?_⟩
 · rw[List.nodup_append];exact⟨g1,by simp,fun x hx y hy=>by simp at hy;subst hy;exact fun e=>hsn (by rw[←e];exact hx)⟩
 · have hst:=DM hkb hk2 hkb1;simp only[List.mem_cons,List.mem_append,List.not_mem_nil,or_false];rw[g2 k b2 hk2];have:b2=b'↔k=s:=by rw[show(b2=b')=((([DV.str k],b2):List DV×Nat).2=(([DV.str s],b'):List DV×Nat).2)from rfl,hst];simp
   rw[this];exact or_comm
 · rcases List.mem_append.1 hk with q|q
   · exact g3 k q
   · simp at q;subst q;exact nM
 · have e:kb.filter (fun p=> !(b'::seen).contains p.2)=(kb.filter fun p=> !seen.contains p.2).filter fun p=> !(p.2==b'):=by
    rw[List.filter_filter];refine List.filter_congr fun p _=> ?_
    simp[List.contains_cons,Bool.and_comm];rfl
   rw[e];refine Nat.lt_of_le_of_ne (List.length_filter_le _ _) (fun q=> ?_);have:=(List.length_filter_eq_length_iff.1 q) ([.str s],b') (List.mem_filter.2 ⟨hkb1,by simpa using hseen⟩);simp at this
set_option maxHeartbeats 16000000 in
theorem Ri (h:eH)(vm:Mp (List UInt8))(m:Mp (Option di))(pd:Mp Int)(hf:∃L:List (List UInt8),L.length≤400∧∀k,m.has k=true→k ∈ L)(hsome:∀k,m.has k=true→m.val k≠none)
 (hg:∀k,m.has k=true→(1≤(ke m k).legs.length∧(ke m k).legs.length≤2^40)∧(DC (ke m k)=false→Je h vm (ke m k)))(hp:∀k,0≤pd.val k∧pd.val k≤10^9):
 ai Tryz.prog 72 [.ptr 1000001 0] (xT h vm (Pl m) (x6 pd)) (fun y r=>y= .d (dC 2 jk jJ (BI (ib (iJ h vm m pd (dr m.has)))))∧r= []):=by
 refine ae hT (C:= []) Tryz.func72 rfl Tryz.call72 rfl rfl rfl ?_;conv=>whnf
 repeat' (first|(intro clock kb hkb;conv=>whnf)|((first|(refine aa ?_ ?_<;>intro hb<;>try simp only[az]at hb)|refine aq hT 5 dT ?_|refine aq hT 6 dV ?_|refine aq hT 12 dA ?_|omega|refine aA ?_|decide|assumption)<;>conv=>whnf))
 have hkl:kb.length≤400:=by
  obtain⟨L,h1,h2⟩:=hf
  have:=hkb.le (L.map fun x=> [.str x]) (fun key hw hh=>by
   obtain⟨s,rfl⟩:=gg hw
   exact List.mem_map.2 ⟨s,h2 s hh,rfl⟩)
  rw[List.length_map]at this;omega
 refine ah hT (C:= []) (ι:=List Nat×List (List UInt8)) (fun(seen,ks)=>ks.Nodup∧(∀k b',([DV.str k],b') ∈ kb→(b' ∈ seen↔k ∈ ks))∧∀k ∈ ks,m.has k=true)
  (fun(seen,ks)=>aI [(0,.ptr 1000001 0),(3,.mp 11),(16,.ptr 16 0)] (NS h vm m pd clock kb++ [(11,x6 (ib (iJ h vm m pd ks))),(16,.iter 1000008 clock seen)]))
  (fun(seen,ks)=>(kb.filter fun p=> !seen.contains p.2).length) ([],[]) ⟨by simp,by simp,by simp⟩ ?_ ?_
 · refine af FP rfl rfl ⟨lr,lr,lr,trivial⟩ ⟨rr,rr,rr,rr,bC (fun _ _=>⟨rfl,rfl⟩),rr,trivial⟩
 rintro⟨seen,ks⟩ ⟨g1,g2,g3⟩;have g1:ks.Nodup:=g1;have g2:∀k b',([DV.str k],b') ∈ kb→(b' ∈ seen↔k ∈ ks):=g2;have g3:∀k ∈ ks,m.has k=true:=g3
 have hks:ks.length≤400:=by
  obtain⟨L,h1,h2⟩:=hf;have:=pL _ _ g1 (fun k hk=>h2 k (g3 k hk));omega
 conv=>whnf
 repeat' (first|((first|(refine aa ?_ ?_<;>intro hb<;>try simp only[az]at hb)|refine aq hT 5 dT ?_|refine aq hT 6 dV ?_|refine aq hT 12 dA ?_|omega|refine aA ?_|decide|assumption)<;>conv=>whnf))
 refine⟨rfl,fun key b' hkb1 hseen=> ?_,fun eJ=> ?_⟩
 · obtain⟨s,rfl⟩:=gg (hkb.kw _ hkb1);have nM:m.has s=true:=(hkb.kh _ (hkb.kw _ hkb1)).2 ⟨_,hkb1⟩;have hsn:s ∉ ks:=fun q=>hseen ((g2 s b' hkb1).2 q)
   obtain⟨g,hg1⟩:∃g,m.val s=some g:=by cases hm:m.val s with|some g=>exact⟨g,rfl⟩|none=>exact absurd hm (hsome s nM)
   have hgm:ke m s=g:=by unfold ke;rw[hg1];rfl
   obtain⟨⟨gl1,gl2⟩,gB⟩:=hg s nM;rw[hgm]at gl1 gl2 gB;obtain⟨hp1,hp2⟩:=hp s;have c91:=Rc g gl1 gl2;have c36:=fun z=>Ro h vm (.mapB false true [.str] (eK none) (fun K=>m.has (cf K)) (fun K=>eK (m.val (cf K))) clock kb) (x6 pd) g (gB z)
   have hE:=Gt h vm g;generalize hW:GC h vm g=W at c36 hE;obtain⟨hWl,hWr⟩:=mV.1 hE;have hst:((ks++ [s]).Nodup∧(∀k b2,([DV.str k],b2) ∈ kb→(b2 ∈ b'::seen↔k ∈ ks++ [s]))∧∀k ∈ ks++ [s],m.has k=true)∧(kb.filter fun p=> !(b'::seen).contains p.2).length<(kb.filter fun p=> !seen.contains p.2).length:=vh hkb g1 g2 g3 hkb1 hseen hsn nM;have hM:=fun s=>xg (ng (h:=h) (vm:=vm) (m:=m) hp ks).2 (by have:=(ng (h:=h) (vm:=vm) (m:=m) hp ks).1;omega) s
   have hp9:∀k,-1000000000≤pd.val k∧pd.val k≤1000000000:=fun k=>by have:=hp k;omega
   have hS:=congrArg ib (EF h vm m pd ks s);rw[hgm]at hS
   have eM:ib (iJ h vm m pd ks++ [(nC,pd.val s),(pz,-pd.val s)])=DP (DP (ib (iJ h vm m pd ks)) nC (pd.val s)) pz (-pd.val s):=by
    rw[show [(nC,pd.val s),(pz,-pd.val s)]= [(nC,pd.val s)]++ [(pz,-pd.val s)]from rfl,←List.append_assoc,pe,pe]
   refine vg (row:=eK (m.val s)) (row':=ji g) (congrArg eK hg1) ?_;conv=>whnf
   repeat' (first|((first|(refine⟨rfl,_,hkb1,?_⟩;refine vg (row:=eK (m.val s)) (row':=ji g) (congrArg eK hg1) ?_)|refine And.intro (rfl:aK _=some [.int .i64 0]) ?_)<;>conv=>whnf)|(refine ac (c91) rfl rfl ?_;rotate_right;conv=>whnf)|((first|refine And.intro (MA (hM _) (hp9 _)).1 ?_|refine And.intro (MA (hM _) (hp9 _)).2 ?_|(refine aa ?_ ?_<;>intro hb<;>try simp only[az]at hb)|refine aq hT 5 dT ?_|refine aq hT 6 dV ?_|refine aq hT 12 dA ?_|omega|refine aA ?_|decide|assumption)<;>conv=>whnf))
   · refine⟨(b'::seen,ks++ [s]),hst.1,hst.2,af FP rfl rfl ⟨lr,lr,lr,trivial⟩ ⟨rr,rr,rr,rr,?_,rr,trivial⟩⟩;rw[hS,x9,if_pos hb,List.append_nil,eM];exact sH
   · refine cd (c36 hb) [(1000001,1000001),(1000002,1000002),(1000008,1000008),(1000010,1000010)] ?_;rintro y rout ⟨rfl,rfl⟩;refine⟨rfl,?_⟩;conv=>whnf
     repeat' (first|((first|(refine aa ?_ ?_<;>intro hb<;>try simp only[az]at hb)|refine aq hT 5 dT ?_|refine aq hT 6 dV ?_|refine aq hT 12 dA ?_|omega|refine aA ?_|decide|assumption)<;>conv=>whnf))
     rw[x9,if_neg (by rw[hb];simp),hW,←List.append_assoc]at hS
     have hO:∀p ∈ iJ h vm m pd ks++ [(nC,pd.val s),(pz,-pd.val s)],-1000000000≤p.2∧p.2≤1000000000:=fun p hm=>(List.mem_append.1 hm).elim ((ng (h:=h) (vm:=vm) (m:=m) hp ks).2 p) (fun q=>by
      simp only[List.mem_cons,List.not_mem_nil,or_false]at q;rcases q with rfl|rfl
      · exact hp9 s
      · show -1000000000≤-pd.val s∧-pd.val s≤1000000000;omega)
     have hOl:(iJ h vm m pd ks++ [(nC,pd.val s),(pz,-pd.val s)]).length≤2002*ks.length+2:=by rw[List.length_append];have:=(ng (h:=h) (vm:=vm) (m:=m) hp ks).1;simp only[List.length_cons,List.length_nil];omega
     generalize hOe:iJ h vm m pd ks++ [(nC,pd.val s),(pz,-pd.val s)]=O at hS hO hOl eM;refine ah hT (C:= []) (ι:=Nat) (fun i=>i≤W.length) (fun i=>aI [(0,.ptr 1000001 0),(3,.mp 11),(16,.ptr 16 0),(44,.d (kV W)),(45,.d (.int .i64 W.length)),(46,.d (.int .i64 i))] (NS h vm m pd clock kb++ [(11,x6 (ib (O++(W.take i).flatMap Gf))),(16,.iter 1000008 clock (b'::seen))])) (fun i=>W.length - i) 0 (Nat.zero_le _) ?_ ?_
     · refine af FP rfl rfl ⟨lr,lr,lr,lr,lr,lr,trivial⟩ ⟨rr,rr,rr,rr,?_,rr,trivial⟩;rw[List.take_zero,List.flatMap_nil,List.append_nil,eM];exact sH
     intro i hi;have e1:(i:Int).toNat=i:=Int.toNat_natCast i;rcases Nat.lt_or_ge i W.length with hin|hin
     · have hM:=fun s=>xg (o:=O++(W.take i).flatMap Gf) (fun p hm=>(List.mem_append.1 hm).elim (hO p) (fun q=>Hr hE p (List.mem_flatMap.2 (by obtain⟨x,hx,hq⟩:=List.mem_flatMap.1 q;exact⟨x,List.mem_of_mem_take hx,hq⟩)))) (by rw[List.length_append,C7,List.length_take];omega) s
       have hx:Lp (W.getD (i:Int).toNat kr):=by rw[e1];exact hWr _ (ao hin)
       have eX:ib (O++(W.take (i+1)).flatMap Gf)=DP (DP (ib (O++(W.take i).flatMap Gf)) pz (W.getD (i:Int).toNat kr).cents) (Mv.getD (W.getD (i:Int).toNat kr).kind.toNat []) (-(W.getD (i:Int).toNat kr).cents):=by
        rw[e1,fD hin,List.flatMap_append,←List.append_assoc,show [W.getD i kr].flatMap Gf= [(pz,(W.getD i kr).cents)]++ [(Mv.getD (W.getD i kr).kind.toNat [],-(W.getD i kr).cents)]from rfl,←List.append_assoc,pe,pe]
       have hx2:=hx.2.2;have hkd:(W.getD (i:Int).toNat kr).kind=1∨(W.getD (i:Int).toNat kr).kind=2∨(W.getD (i:Int).toNat kr).kind=3∨(W.getD (i:Int).toNat kr).kind=4∨(W.getD (i:Int).toNat kr).kind=5∨(W.getD (i:Int).toNat kr).kind=6:=by have:=hx.1;omega
       conv=>whnf
       repeat' (first|((first|refine And.intro (rfl:aK _=some [.int .i64 0]) ?_|refine And.intro (MA (hM _) hx2).1 ?_|refine And.intro (MA (hM _) hx2).2 ?_|(refine aa ?_ ?_<;>intro hb<;>try simp only[az]at hb)|refine aq hT 5 dT ?_|refine aq hT 6 dV ?_|refine aq hT 12 dA ?_|omega|refine aA ?_|decide|assumption)<;>conv=>whnf))
       all_goals try(exfalso;omega)
       rcases hkd with hk|hk|hk|hk|hk|hk
       all_goals
        rw[hk];conv=>whnf
        repeat' (first|((first|refine And.intro (rfl:aK _=some [.int .i64 0]) ?_|refine And.intro (MA (hM _) hx2).1 ?_|refine And.intro (MA (hM _) hx2).2 ?_|(refine aa ?_ ?_<;>intro hb<;>try simp only[az]at hb)|refine aq hT 5 dT ?_|refine aq hT 6 dV ?_|refine aq hT 12 dA ?_|omega|refine aA ?_|decide|assumption)<;>conv=>whnf))
        refine⟨i+1,by show i+1≤_;omega,by show W.length - (i+1)<W.length - i;omega,af FP rfl rfl ⟨lr,lr,lr,lr,lr,ap (by omega),trivial⟩ ⟨rr,rr,rr,rr,?_,rr,trivial⟩⟩;rw[eX,hk];exact sH
     · have hiW:i=W.length:=by omega
       conv=>whnf
       repeat' (first|((first|(refine aa ?_ ?_<;>intro hb<;>try simp only[az]at hb)|refine aq hT 5 dT ?_|refine aq hT 6 dV ?_|refine aq hT 12 dA ?_|omega|refine aA ?_|decide|assumption)<;>conv=>whnf))
       all_goals try(exfalso;omega)
       refine⟨(b'::seen,ks++ [s]),hst.1,hst.2,af FP rfl rfl ⟨lr,lr,lr,trivial⟩ ⟨rr,rr,rr,rr,?_,rr,trivial⟩⟩;rw[hS,hiW,List.take_length];exact rr
 · have hiff:∀k,k ∈ ks↔m.has k=true:=fun k=>⟨g3 k,fun q=>by
    obtain⟨b',hb'⟩:=(hkb.kh [.str k] (by simp[wk,iE])).1 q
    exact(g2 k b' hb').1 (eJ _ hb')⟩
   have hpm:ib (iJ h vm m pd ks)=ib (iJ h vm m pd (dr m.has)):=by
    rw[←tV g1 hiff];exact D4 ((fz ks).symm.flatMap_right _)
   conv=>whnf
   repeat' (first|(intro clock2 kb2 hkb2;conv=>whnf)|((first|(refine aa ?_ ?_<;>intro hb<;>try simp only[az]at hb)|refine aq hT 5 dT ?_|refine aq hT 6 dV ?_|refine aq hT 12 dA ?_|omega|refine aA ?_|decide|assumption)<;>conv=>whnf))
   have hacc:=fun k=>y2 (h:=h) (vm:=vm) (m:=m) (pd:=pd) (ks:=ks) (k:=k)
   have hM:=fun s=>xg (ng (h:=h) (vm:=vm) (m:=m) hp ks).2 (by have:=(ng (h:=h) (vm:=vm) (m:=m) hp ks).1;omega) s
   rw[←hpm];generalize ib (iJ h vm m pd ks)=M at hacc hM hkb2 ⊢
   refine ah hT (C:= []) (ι:=List Nat×List (List UInt8)) (fun(seen,qs)=>qs.Nodup∧(∀k b',([DV.str k],b') ∈ kb2→(b' ∈ seen↔k ∈ qs))∧∀k ∈ qs,M.has k=true)
    (fun(seen,qs)=>aI [(8,.buf 8),(67,.ptr 67 0)] [(8,aL 96 2 jk jJ (rm M qs)),(11,.mapB false false [.str] [.int .i64 0] (fun K=>M.has (cf K)) (fun K=>ED (M.val (cf K))) clock2 kb2),(67,.iter 11 clock2 seen)])
    (fun(seen,qs)=>(kb2.filter fun p=> !seen.contains p.2).length) ([],[]) ⟨by simp,by simp,by simp⟩ ?_ ?_
   · exact(dc.nil 8 8 96 2 (aW jk jJ []) rfl rfl (by decide)).trans (af [(8,8),(11,11),(67,67)] rfl rfl ⟨lr,lr,trivial⟩ ⟨rr,rr,rr,trivial⟩)
   rintro⟨seen2,qs⟩ ⟨q1,q2,q3⟩;have q1:qs.Nodup:=q1;have q2:∀k b',([DV.str k],b') ∈ kb2→(b' ∈ seen2↔k ∈ qs):=q2;have q3:∀k ∈ qs,M.has k=true:=q3
   have hqs:qs.length≤9:=by
    have:=pL _ _ q1 (fun k hk=>hacc k (q3 k hk));exact this
   have hpl:(rm M qs).length≤9:=by unfold rm;rw[List.length_map];exact Nat.le_trans (List.length_filter_le _ _) hqs
   conv=>whnf
   repeat' (first|((first|(refine aa ?_ ?_<;>intro hb<;>try simp only[az]at hb)|refine aq hT 5 dT ?_|refine aq hT 6 dV ?_|refine aq hT 12 dA ?_|omega|refine aA ?_|decide|assumption)<;>conv=>whnf))
   refine⟨rfl,fun key b' hkb1 hseen=> ?_,fun hall2=> ?_⟩
   · obtain⟨s,rfl⟩:=gg (hkb2.kw _ hkb1);have nM:M.has s=true:=(hkb2.kh _ (hkb2.kw _ hkb1)).2 ⟨_,hkb1⟩;have hsn:s ∉ qs:=fun q=>hseen ((q2 s b' hkb1).2 q)
     have hst:((qs++ [s]).Nodup∧(∀k b2,([DV.str k],b2) ∈ kb2→(b2 ∈ b'::seen2↔k ∈ qs++ [s]))∧∀k ∈ qs++ [s],M.has k=true)∧(kb2.filter fun p=> !(b'::seen2).contains p.2).length<(kb2.filter fun p=> !seen2.contains p.2).length:=vh hkb2 q1 q2 q3 hkb1 hseen hsn nM;conv=>whnf
     repeat' (first|((first|refine⟨rfl,_,hkb1,?_⟩|(refine aa ?_ ?_<;>intro hb<;>try simp only[az]at hb)|refine aq hT 5 dT ?_|refine aq hT 6 dV ?_|refine aq hT 12 dA ?_|omega|refine aA ?_|decide|assumption)<;>conv=>whnf))
     · refine⟨(b'::seen2,qs++ [s]),hst.1,hst.2,af [(8,80),(11,11),(67,67)] rfl rfl ⟨lr,lr,trivial⟩ ⟨?_,rr,rr,trivial⟩⟩;rw[vJ,if_neg (show ¬M.val s=0 from hb)];exact aG (x:=(⟨s,M.val s⟩:pS)) rfl
     · refine⟨(b'::seen2,qs++ [s]),hst.1,hst.2,af [(8,8),(11,11),(67,67)] rfl rfl ⟨lr,lr,trivial⟩ ⟨?_,rr,rr,trivial⟩⟩;rw[vJ,if_pos (show M.val s=0 from hb),List.append_nil];exact rr
   · have hiff2:∀k,k ∈ qs↔M.has k=true:=fun k=>⟨q3 k,fun q=>by
      obtain⟨b',hb'⟩:=(hkb2.kh [.str k] (by simp[wk,iE])).1 q
      exact(q2 k b' hb').1 (hall2 _ hb')⟩
     have cS:=Fb 133 GI (rm M qs) (by omega) (fun p q _ _=>PA p q);rw[Ic q1 hiff2]at cS;conv=>whnf
     repeat' (first|((first|(refine cd cS [(1000001,8)] ?_;rintro y rout ⟨rfl,rfl⟩;refine⟨rfl,?_⟩)|(refine aa ?_ ?_<;>intro hb<;>try simp only[az]at hb)|refine aq hT 5 dT ?_|refine aq hT 6 dV ?_|refine aq hT 12 dA ?_|omega|refine aA ?_|decide|assumption)<;>conv=>whnf))
     refine .freeze _ 8 96 2 _ _ rfl (.weak _ ?_);conv=>whnf
     refine⟨.d (dC 2 jk jJ (BI M)),[],lr,⟨rfl,rfl⟩,trivial⟩
theorem Ii {l:List mF}{k:List UInt8}(h:(lp l).has k=true):0≤rB l k:=by
 have key:∀ (l:List mF) (m:Mp (List UInt8)),(l.foldl (fun m v=>m.put v.key v.cls) m).has k=true→m.has k=true∨∃v ∈ l,v.key=k:=by
  intro l
  induction l with
  |nil=>intro m h;exact .inl h
  | cons v l ih=>
    intro m h;rcases ih _ h with q|⟨w,q1,q2⟩
    · have q:(decide (k=v.key)||m.has k)=true:=q;rw[Bool.or_eq_true,decide_eq_true_eq]at q;rcases q with q|q
      · exact .inr ⟨v,by simp,q.symm⟩
      · exact .inl q
    · exact .inr ⟨w,by simp[q1],q2⟩
 rcases key l _ h with q|⟨v,q1,q2⟩
 · cases q
 · obtain⟨j,hj,rfl⟩:=a8 (d:=bD) q1;exact nj hj (by show((l.getD j bD).key==k)=true;rw[q2];simp)
theorem H3:∀ (n:Nat) (l:List mF),l.length=n→(∀i j,i<l.length→j<l.length→(l.getD i bD).key=(l.getD j bD).key→i=j)→∀i,i<l.length→(lp l).val (l.getD i bD).key=(l.getD i bD).cls:=by
 intro n l hn hu
 have key:∀m,m≤l.length→∀i,i<m→(lp (l.take m)).val (l.getD i bD).key=(l.getD i bD).cls:=by
  intro m
  induction m with
  |zero=>intro _ i hi;omega
  | succ m ih=>
    intro hm i hi;rw[yK (by omega)];show(if(l.getD i bD).key=(l.getD m bD).key then(l.getD m bD).cls else(lp (l.take m)).val (l.getD i bD).key)=_
    by_cases q:(l.getD i bD).key=(l.getD m bD).key
    · rw[if_pos q,hu i m (by omega) (by omega) q]
    · rw[if_neg q];have:i≠m:=fun e=>q (by rw[e])
      exact ih (by omega) i (by omega)
 intro i hi;have:=key l.length (Nat.le_refl _) i hi;rwa [List.take_length]at this
theorem DI {l:List mF}(h:wj l):∀i j,i<l.length→j<l.length→(l.getD i bD).key=(l.getD j bD).key→i=j:=by
 intro i j hi hj e;rcases Nat.lt_trichotomy i j with q|q|q
 · have:=h i j q hj;rw[e,dX]at this;cases this
 · exact q
 · have:=h j i q hi;rw[e,dX]at this;cases this
theorem Ky {f:lR}(h:wj f.veh){v:List UInt8}(hv:(lp f.veh).has v=true):0≤rB f.veh v∧(rB f.veh v).toNat<f.veh.length∧(lp f.veh).val v=(f.veh.getD (rB f.veh v).toNat bD).cls:=by
 have h0:=Ii hv;have hb:=eP (p:=fun i=>(f.veh.getD i bD).key==v) (n:=f.veh.length);have hi:(rB f.veh v).toNat<f.veh.length:=by unfold rB at*;omega
 have hk:(f.veh.getD (rB f.veh v).toNat bD).key=v:=by
  have:=hb.2.2 h0;exact eq_of_beq this
 refine⟨h0,hi,?_⟩;have:=H3 _ f.veh rfl (DI h) _ hi;rwa [hk]at this
theorem JK {f:lR}(h:lN f=0){i:Nat}(hi:i<f.veh.length):aE (f.veh.getD i bD).cls=true:=by
 have h0:nJ f=0∧bf (jB f) f.veh.length=0:=by
  unfold lN at h
  by_cases q:nJ f=0
  · rw[if_neg (fun c=>c q)]at h;refine⟨q,?_⟩
    by_cases r:bf (jB f) f.veh.length=0
    · exact r
    · rw[if_pos r]at h;exact absurd h r
  · rw[if_pos q]at h;exact absurd h q
 have h1:=bG h0.2 i hi;unfold jB at h1
 have h2:¬fY f.cls (f.veh.getD i bD).cls<0:=by
  split at h1
  · cases h1
  · split at h1
    · cases h1
    · split at h1
      · cases h1
      · assumption
 have hb:=eP (p:=fun j=>(f.cls.getD j bB).key==(f.veh.getD i bD).cls) (n:=f.cls.length);have hc:gz f.cls=0:=bj h0.1 _ (by simp);have hj:(fY f.cls (f.veh.getD i bD).cls).toNat<f.cls.length:=by unfold fY at*;omega
 have hk:(f.cls.getD (fY f.cls (f.veh.getD i bD).cls).toNat bB).key=(f.veh.getD i bD).cls:=eq_of_beq (hb.2.2 (by unfold fY at h2;omega));rw[←hk];unfold gz at hc;split at hc
 · cases hc
 · have h3:=bG (bj hc _ (List.mem_cons_self ..)) _ hj;unfold vi at h3
   cases q:aE (f.cls.getD (fY f.cls (f.veh.getD i bD).cls).toNat bB).key with
   |true=>rfl
   |false=>rw[q]at h3;simp at h3
theorem Ja {h:eH}{l:List bv}(k:DY h l){i:Nat}(hi:i<(fi h l).length):
 (cq h l).his.has ((fi h l).getD i iq).key=true∧(cq h l).his.val ((fi h l).getD i iq).key=some ((fi h l).getD i iq)∧bN ((fi h l).getD i iq)=0∧∀x ∈ ((fi h l).getD i iq).legs,(lp h.flt.veh).has x.veh=true:=by
 obtain⟨t1,h1,hb,hc⟩:=Ch h (CN k.hE) (yL.1 k.lE);have hI:fU (2*l.length) l.length (cq h l):=xD h _ _ l l.length (Nat.le_refl _);obtain⟨L,hL1,hL2⟩:=hI.fh;obtain⟨n1,n2,n3⟩:=oE hL2;have hi':i<(dr (cq h l).his.has).length:=by unfold fi at hi;rwa [List.length_map]at hi
 have hh:=(n3 _).1 (ao (x:= []) hi');obtain⟨g,e1,e2⟩:=hI.his _ hh
 have eg:(fi h l).getD i iq=g:=by
  unfold fi;rw[List.getD_eq_getElem?_getD,List.getElem?_map,List.getElem?_eq_getElem hi'];show ke (cq h l).his (dr (cq h l).his.has)[i]=g;have e1:=e1;rw[List.getD_eq_getElem?_getD,List.getElem?_eq_getElem hi']at e1;unfold ke;rw[show(cq h l).his.val (dr (cq h l).his.has)[i]=some g from e1];rfl
 rw[eg,hc.key _ _ e1];exact⟨hh,e1,e2,hc.veh _ _ e1⟩
def DS:OL:= [(0,[]),(1,[0]),(2,[0]),(3,[]),(4,[])]
def Dy:wR:=⟨[115],fun k=>if k=1 then 9 else 0⟩
theorem Qw:ai Tryz.prog 110 [.agg ((sG Dy).map .d),.d (.int .i64 0)] [] (fun x r=>x= .d (.int .i64 0)∧r= []):=by
 have hok:BO [Dy]:=⟨by decide,fun c hc=>by rw[List.mem_singleton]at hc;subst hc;decide⟩;have hE:lJ [Dy]=0:=by decide+kernel
 have h1:=N7 [Dy] hok;rw[hE]at h1;have h3:=gp [0,0] (by simp);refine ae hT (C:= []) Tryz.func110 rfl Tryz.call110 rfl rfl rfl ?_;conv=>whnf
 repeat' (first|((first|refine aw h1 ⟨aj (by rfl) (by rfl),trivial⟩ rfl ?_|refine aw h3 ⟨aj (by rfl) (by rfl),trivial⟩ rfl ?_|(refine aa ?_ ?_<;>intro hb<;>try simp only[az]at hb)|omega|refine aA ?_|decide|assumption)<;>conv=>whnf))
 refine .ret _ ?_;conv=>whnf
 refine⟨[],⟨?_,rfl⟩,trivial⟩;conv=>lhs;whnf
 rfl
theorem PJ:ai Tryz.prog 112 [.agg ((sG Dy).map .d),.d (.int .i64 0)] [] (fun x r=>x= .agg [.d (.int .i64 0),.d (.int .i64 9)]∧r= []):=by
 refine ae hT (C:= []) Tryz.func112 rfl Tryz.call112 rfl rfl rfl ?_;conv=>whnf
 repeat' (first|((first|(refine aa ?_ ?_<;>intro hb<;>try simp only[az]at hb)|omega|refine aA ?_|decide|assumption)<;>conv=>whnf))
 refine .ret _ ?_;conv=>whnf
 refine⟨[],⟨?_,rfl⟩,trivial⟩;conv=>lhs;whnf
 rfl
theorem PB:ai Tryz.prog 54 [.agg ((sG Dy).map .d),.d (.int .i64 8)] [] (fun x r=>x= .tup [.d (.bool true),.d (.int .i64 0)]∧r= []):=by
 refine ae hT (C:= []) Tryz.func54 rfl Tryz.call54 rfl rfl rfl ?_;conv=>whnf
 repeat' (first|(refine ac (Nd 8) rfl rfl ?_;rotate_right;conv=>whnf)|(refine ac (Qw) rfl rfl ?_;rotate_right;conv=>whnf)|(refine ac (PJ) rfl rfl ?_;rotate_right;conv=>whnf)|((first|(refine aa ?_ ?_<;>intro hb<;>try simp only[az]at hb)|refine aq hT 1 DS ?_|omega|refine aA ?_|decide|assumption)<;>conv=>whnf))
 refine .ret _ ?_;conv=>whnf
 refine⟨[],⟨congrArg SV.tup ?_,rfl⟩,trivial⟩;repeat' (refine aN ?_ ?_)
 all_goals (conv=>lhs;whnf)
 all_goals try(with_reducible rfl)
 all_goals rfl
theorem PT:ai Tryz.prog 16 [] [] (fun x r=>x= .d (.bool true)∧r= []):=by
 refine ae hT (C:= []) Tryz.func16 rfl Tryz.call16 rfl rfl rfl ?_;conv=>whnf
 repeat' (first|(refine ac (PB) rfl rfl ?_;rotate_right;conv=>whnf)|((first|(refine aa ?_ ?_<;>intro hb<;>try simp only[az]at hb)|omega|refine aA ?_|decide|assumption)<;>conv=>whnf))
 refine .ret _ ?_;conv=>whnf
 refine⟨[],⟨?_,rfl⟩,trivial⟩;conv=>lhs;whnf
theorem H1 {h:eH}{l:List bv}(k:DY h l)(hds:A9 h.dea){i:Nat}(hi:i<(fi h l).length):
 (1≤((fi h l).getD i iq).legs.length∧((fi h l).getD i iq).legs.length≤2^40)∧(DC ((fi h l).getD i iq)=false→Je h (lp h.flt.veh) ((fi h l).getD i iq)):=by
 have hE:=k.hE;obtain⟨r1,r2,r3,r4⟩:=wl k;have hdE:rN h.dea=0:=by unfold tI at hE;exact eB hE _ (by simp)
 have htE:rv h.tar=0:=by unfold tI at hE;exact eB hE _ (by simp)
 have hfE:lN h.flt=0:=si hE
 have hvS:wj h.flt.veh:=by
  unfold lN at hfE
  by_cases q:nJ h.flt=0
  · rw[if_neg (fun c=>c q)]at hfE
    by_cases r:bf (jB h.flt) h.flt.veh.length=0
    · exact qT r
    · rw[if_pos r]at hfE;exact absurd hfE r
  · rw[if_pos q]at hfE;exact absurd hfE q
 have hdR:=H0 hdE hds;obtain⟨a1,a2,a3,a4⟩:=Ja k hi;obtain⟨⟨_,hTm,hn1,hn2⟩,hlg⟩:=qe a3;have hl0:((fi h l).getD i iq).legs.getD 0 dY ∈ ((fi h l).getD i iq).legs:=ao (by omega);have hvm:=a4 _ hl0;obtain⟨v1,v2,v3⟩:=Ky hvS hvm;have hgk:JY ((fi h l).getD i iq):=r1.2 _ (ao hi);refine⟨⟨hn1,by omega⟩,fun z=> ?_⟩;have z:(nR ((fi h l).getD i iq)).inn.tm≠-1:=of_decide_eq_false z;have eJ:=tC a3 z;have hA:=(ja (eJ _ hl0).2.1).2.1;have hB:=(ja (eJ _ (ao (x:=dY) (show((fi h l).getD i iq).legs.length - 1<((fi h l).getD i iq).legs.length by omega))).2.2).2.1;exact⟨hdR,hdE,hgk,a3,z,⟨k.hou.2,htE,by rw[v3];exact JK hfE v2,hTm,hA,hB⟩⟩
noncomputable def GJ (h:eH)(l:List bv):List pS:=BI (ib (iJ h (lp h.flt.veh) (cq h l).his (cq h l).paid (dr (cq h l).his.has)))
set_option maxHeartbeats 8000000 in
theorem Rp (h:eH)(l:List bv)(k:DY h l)(hds:A9 h.dea):
 ai Tryz.prog 24 [hou h,.d (jI l)] [(1000009,KX)] (fun y r=>y= .tup [.d (dC 2 jk jJ (GJ h l)),.d (.int .i64 0)]∧r= [(1000009,KX)]):=by
 have c1:=Re h l k;have hZ:fU (2*l.length) l.length (cq h l):=xD h _ _ l l.length (Nat.le_refl _);have hat:=fun i hi=>H1 k hds (i:=i) hi
 have hso:∀s,(cq h l).his.has s=true→(cq h l).his.val s≠none:=fun s q=>by
  obtain⟨g,h1,_⟩:=hZ.his s q;rw[h1];exact fun e=>by cases e
 have hf:=nk hZ.fh k.len
 have hgs:∀s,(cq h l).his.has s=true→(1≤(ke (cq h l).his s).legs.length∧(ke (cq h l).his s).legs.length≤2^40)∧(DC (ke (cq h l).his s)=false→Je h (lp h.flt.veh) (ke (cq h l).his s)):=fun s q=>by
  have hm:s ∈ dr (cq h l).his.has:=by
   obtain⟨L,_,hL⟩:=hf;exact((oE hL).2.2 s).2 q
  have hm2:ke (cq h l).his s ∈ fi h l:=List.mem_map.2 ⟨s,hm,rfl⟩;obtain⟨i,hi,e⟩:=List.getElem_of_mem hm2;have:=hat i hi;rw[List.getD_eq_getElem?_getD,List.getElem?_eq_getElem hi]at this;rw[←e];exact this
 have c2:=Ri h (lp h.flt.veh) (cq h l).his (cq h l).paid hf hso hgs hZ.paid;unfold GJ;generalize cq h l=Z at c1 c2 ⊢;generalize eI jY Z.log=lg at c1 ⊢;generalize lp h.flt.veh=vm at c1 c2 ⊢;generalize pD h.flt.sta=sm at c1 ⊢;generalize BI (ib (iJ h vm Z.his Z.paid (dr Z.his.has)))=R at c2 ⊢;refine ae hT (C:= []) Tryz.func24 rfl Tryz.call24 rfl rfl rfl ?_;conv=>whnf
 repeat' (first|((first|(refine cd c1 [(1000009,1000009),(22,22),(14,14),(15,15),(16,16),(50,50),(17,17),(18,18),(19,19),(20,20),(51,51)] ?_;rintro y rout ⟨rfl,rfl⟩;refine⟨rfl,?_⟩)|(refine dQ.of c2 [(1000001,22),(1000002,14),(1000008,19),(1000010,20)] rfl ⟨lr,trivial⟩ ⟨uG ⟨lr,lr,lr,lr,lr,lr,lr,lr,lr,lr,lr,lr,lr,lr,lr,lr,lr,a7 _,a7 _,a7 _,a7 _,a7 _,lr,lr,a7 _,trivial⟩,rr,rr,rr,trivial⟩ rfl rfl ?_;rintro y rout ⟨rfl,rfl⟩;refine⟨rfl,?_⟩)|(refine aa ?_ ?_<;>intro hb<;>try simp only[az]at hb)|omega|refine aA ?_|decide|assumption)<;>conv=>whnf))
 all_goals try(exfalso;contradiction)
 refine .ret _ ?_;conv=>whnf
 exact⟨[(1000009,KX)],⟨rfl,rfl⟩,rr,trivial⟩
def uU:OL:= [(0,[]),(1,[0]),(2,[]),(3,[]),(4,rg 4),(5,rg 5),(6,rg 4),(7,rg 4),(8,[])]
def vf:OL:= [(0,[]),(1,[0]),(2,[]),(3,[]),(4,rg 4),(5,rg 5),(6,rg 4),(7,rg 4),(8,[])]
abbrev Js (l:List pS):DV:=dC 2 jk jJ l
theorem O4 {a b:pS}:a=b↔a.acc=b.acc∧a.amt=b.amt:=by cases a;cases b;simp
theorem Rd (l m:List pS)(hl:l.length≤2^40)(hm:m.length≤2^40):ai Tryz.prog 25 [.d (Js l),.d (Js m)] [] (fun x r=>x= .d (.bool (decide (l=m)))∧r= []):=by
 refine ae hT (C:= []) Tryz.func25 rfl Tryz.call25 rfl rfl rfl ?_;conv=>whnf
 repeat' (first|((first|(refine aa ?_ ?_<;>intro hb<;>try simp only[az]at hb)|refine aq hT 6 uU ?_|omega|refine aA ?_|decide|assumption)<;>conv=>whnf))
 · refine .ret _ ?_;conv=>whnf
   refine⟨[],⟨?_,rfl⟩,trivial⟩;conv=>lhs;whnf
   have:¬l=m:=fun q=>by subst q;simp at hb
   simp[this]
 have hlen:l.length=m.length:=by
  omega
 refine ah hT (C:= []) (ι:=Nat) (fun i=>i≤l.length∧∀j,j<i→l.getD j jJ=m.getD j jJ) (fun i=>aI [(0,.d (Js l)),(1,.d (Js m)),(12,.d (.int .i64 l.length)),(13,.d (.int .i64 i))] []) (fun i=>l.length - i) 0 ⟨by simp,fun j hj=>absurd hj (Nat.not_lt_zero j)⟩ (by exact be []) ?_;rintro i ⟨p1,p2⟩;have e1:(i:Int).toNat=i:=Int.toNat_natCast i;conv=>whnf
 repeat' (first|((first|(refine aa ?_ ?_<;>intro hb<;>try simp only[az]at hb)|refine aq hT 6 uU ?_|omega|refine aA ?_|decide|assumption)<;>conv=>whnf))
 · refine .ret _ ?_;conv=>whnf
   refine⟨[],⟨?_,rfl⟩,trivial⟩;conv=>lhs;whnf
   have:¬l=m:=fun q=>by subst q;simp at hb
   simp[this]
 · exact⟨i+1,⟨by omega,bw p2 (by rw[O4];simpa [and_assoc]using hb)⟩,by omega,(by exact be [])⟩
 · refine .ret _ ?_;conv=>whnf
   refine⟨[],⟨?_,rfl⟩,trivial⟩;conv=>lhs;whnf
   have:i=l.length:=by omega
   subst this;simp[tc jJ hlen p2]
theorem Ru (l m:List bv)(hl:l.length≤2^40)(hm:m.length≤2^40):ai Tryz.prog 19 [.d (jI l),.d (jI m)] [] (fun x r=>x= .d (.bool (decide (l=m)))∧r= []):=by
 refine ae hT (C:= []) Tryz.func19 rfl Tryz.call19 rfl rfl rfl ?_;conv=>whnf
 repeat' (first|((first|(refine aa ?_ ?_<;>intro hb<;>try simp only[az]at hb)|refine aq hT 6 vf ?_|omega|refine aA ?_|decide|assumption)<;>conv=>whnf))
 · refine .ret _ ?_;conv=>whnf
   refine⟨[],⟨?_,rfl⟩,trivial⟩;conv=>lhs;whnf
   have:¬l=m:=fun q=>by subst q;simp at hb
   simp[this]
 have hlen:l.length=m.length:=by
  omega
 refine ah hT (C:= []) (ι:=Nat) (fun i=>i≤l.length∧∀j,j<i→l.getD j cW=m.getD j cW) (fun i=>aI [(0,.d (jI l)),(1,.d (jI m)),(12,.d (.int .i64 l.length)),(13,.d (.int .i64 i))] []) (fun i=>l.length - i) 0 ⟨by simp,fun j hj=>absurd hj (Nat.not_lt_zero j)⟩ (by exact be []) ?_;rintro i ⟨p1,p2⟩;have e1:(i:Int).toNat=i:=Int.toNat_natCast i;conv=>whnf
 repeat' (first|((first|(refine aa ?_ ?_<;>intro hb<;>try simp only[az]at hb)|refine aq hT 6 vf ?_|omega|refine aA ?_|decide|assumption)<;>conv=>whnf))
 · refine .ret _ ?_;conv=>whnf
   refine⟨[],⟨?_,rfl⟩,trivial⟩;conv=>lhs;whnf
   have:¬l=m:=fun q=>by subst q;simp at hb
   simp[this]
 · exact⟨i+1,⟨by omega,bw p2 (by rw[Gw];simpa [and_assoc]using hb)⟩,by omega,(by exact be [])⟩
 · refine .ret _ ?_;conv=>whnf
   refine⟨[],⟨?_,rfl⟩,trivial⟩;conv=>lhs;whnf
   have:i=l.length:=by omega
   subst this;simp[tc cW hlen p2]
set_option maxHeartbeats 4000000 in
theorem Nr (n:Nat)(L:Nat→Int)(hL:sJ n L)(a:Int)(h0:0≤a)(ha:a≤2^35)(m:Int)(hm1:0≤m)(hm2:m≤20):
 ai Tryz.prog 6 [.ptr 1000000 0,.d (.int .i64 m)] [(1000000,bp n L a),(1000009,KX)] (fun y r=>∃l:List bv,∃b,(dP Fu m.toNat l∧dZ l=0)∧(a≤b∧b≤a+5000)∧y= .d (jI l)∧r= [(1000000,bp n L b),(1000009,KX)]):=by
 refine ae hT (C:= []) Tryz.func6 rfl Tryz.call6 rfl rfl rfl ?_;conv=>whnf
 refine ah hT (C:= []) (ι:=Int×Nat) (fun(b,k)=>(a≤b∧b≤a+1000*k)∧k≤5)
  (fun(b,k)=>aI [(0,.ptr 1000000 0),(1,.d (.int .i64 m)),(6,.d (.int .i64 k))] [(1000000,bp n L b),(1000009,KX)]) (fun(_,k)=>5 - k) (a,0) ⟨⟨by simp,by simp⟩,by simp⟩ (by exact be [(1000000,1000000),(1000009,1000009)]) ?_
 rintro⟨b,k⟩ ⟨⟨p1,p2⟩,p3⟩;have p1:a≤b:=p1;have p2:b≤a+1000*k:=p2;have p3:k≤5:=p3;conv=>whnf
 repeat' (first|((first|(refine cd (Rg n L hL b (by omega) (by omega) m hm1 hm2) [(1000000,1000000),(1000009,1000009),(5,10)] ?_;rintro x rout ⟨l,c,hl,⟨c1,c2⟩,rfl,rfl⟩;refine⟨rfl,?_⟩)|(refine dQ.freeze _ _ _ _ 10 84 4 _ _ rfl rfl ?_;refine qJ (PY l (xe hl (by omega))) ?_)|(refine aa ?_ ?_<;>intro hb<;>try simp only[az]at hb)|omega|refine aA ?_|decide|assumption)<;>conv=>whnf))
 · refine .ret _ ?_;conv=>whnf
   exact⟨[(1000000,bp n L c),(1000009,KX)],⟨l,c,⟨hl,hb⟩,⟨by omega,by omega⟩,rfl,rfl⟩,rr,rr,trivial⟩
 · exact⟨(c,k+1),⟨⟨by show a≤c;omega,by show c≤a+1000*((k+1:Nat):Int);omega⟩,by show k+1≤5;omega⟩,by show 5 - (k+1)<5 - k;omega,(by exact be [(1000000,1000000),(1000009,1000009)])⟩
 · refine .weak _ ?_;conv=>whnf
   exact⟨_,[(1000000,bp n L b),(1000009,KX)],aO,⟨[],b,⟨⟨by simp,by simp⟩,rfl⟩,⟨by omega,by omega⟩,rfl,rfl⟩,rr,rr,trivial⟩
theorem FZ (h:eH)(l:List bv):(GJ h l).length≤9:=by
 unfold GJ BI;have h1:∀k,(ib (iJ h (lp h.flt.veh) (cq h l).his (cq h l).paid (dr (cq h l).his.has))).has k=true→k ∈ Bt:=fun k hk=>y2 hk
 generalize ib (iJ h (lp h.flt.veh) (cq h l).his (cq h l).paid (dr (cq h l).his.has))=M at h1 ⊢;have h2:=vN h1
 have h3:(rm M (dr M.has)).length≤(dr M.has).length:=by
  unfold rm;rw[List.length_map];exact List.length_filter_le _ _
 have h4:Bt.length=9:=rfl;rw[(eh _ _).length_eq];omega
theorem Jh {h:eH}{l:List bv}{k:Nat}(hh:Kz h)(hE:tI h=0)(hG:dP Fu k l)(hk:k≤400)(hlE:dZ l=0):DY h l:=
 ⟨hh.ok,xe hG (by omega),by have:=hG.1;omega,fun x hx=>by have:=(hG.2 x hx).1.2;omega,hE,hlE⟩
set_option maxHeartbeats 16000000 in
theorem z4 (n:Nat)(L:Nat→Int)(hn:n≤maxLen)(hL0:∀i,-2^63≤L i∧L i<2^63):
 ai Tryz.prog 4 [.d (.ro 1 n fun i=> [.int .i64 (L i)])] kx (fun x r=>x= .d (.bool true)∧r=kx):=by
 have hL:sJ n L:=⟨hn,hL0⟩;refine ae hT (C:= []) Tryz.func4 rfl Tryz.call4 rfl rfl rfl ?_;conv=>whnf
 repeat' (first|(refine dQ.of (HU n L hL _ ?_ ?_) [(1000000,26)] rfl ⟨lr,trivial⟩ ⟨rr,trivial⟩ rfl rfl ?_;rotate_right;rintro x rout ⟨⟨h,⟨⟨⟨hh,hE⟩,hv⟩,hds⟩,rfl⟩,⟨c,c1,c2,rfl⟩⟩;refine⟨rfl,?_⟩;conv=>whnf)|(refine dQ.of (QX n L hL _ ?_ ?_ 0 20 (by omega) (by omega) (by omega) (by omega)) [(1000000,26)] rfl ⟨lr,lr,lr,trivial⟩ ⟨rr,trivial⟩ rfl rfl ?_;rotate_right;rintro x rout ⟨⟨m1,hm1,hm2,rfl⟩,⟨c,c1,c2,rfl⟩⟩;refine⟨rfl,?_⟩;conv=>whnf)|(refine dQ.of (Nr n L hL _ ?_ ?_ m1 (by omega) (by omega)) [(1000000,26),(1000009,1000009)] rfl ⟨lr,lr,trivial⟩ ⟨rr,rr,trivial⟩ rfl rfl ?_;rotate_right;rintro x rout ⟨l,b,⟨hG,hlE⟩,⟨b1,b2⟩,rfl,rfl⟩;refine⟨rfl,?_⟩;conv=>whnf)|((first|(refine aa ?_ ?_<;>intro hb<;>try simp only[az]at hb)|omega|refine aA ?_|decide|assumption)<;>conv=>whnf))
 all_goals try omega
 have k:=Jh hh hE hG (by omega) hlE;have hll:=k.len;have htE:rv h.tar=0:=by unfold tI at hE;exact eB hE _ (by simp)
 have hfE:lN h.flt=0:=si hE;have hrE:cR h.tar.rat=0:=by unfold rv at htE;exact eB htE _ (by simp)
 obtain⟨t1,t2,t3⟩:=EL hlE (by omega);obtain⟨u1,u2,u3⟩:=DO hrE;have hrl:=yY hrE;have c17:=Qu l (xe hG (by omega)) ⟨by omega,t2⟩ t1;rw[hlE,if_pos rfl]at c17;have c18:=OM (bV fV l) (by omega);rw[t3]at c18;have c19:=Ru l l (by omega) (by omega);rw[decide_eq_true rfl]at c19;have c20:=QC h.flt hv hfE hh.ok.1;have c21:=OJ h.flt hv hfE hh.ok.1;have c22:=Ow h.tar.rat hh.ok.2.1 ⟨by omega,u2⟩ u1;rw[hrE,if_pos rfl]at c22;have c23:=OG (bV fF h.tar.rat) (by omega);rw[u3]at c23;have c24:=Rp h l k hds;have hlh:=FZ h l;generalize GJ h l=W at c24 hlh;have c25:=Rd W W (by omega) (by omega);rw[decide_eq_true rfl]at c25;generalize bV fV l=T1 at c17 c18;generalize uT h.flt=T2 at c20 c21;generalize bV fF h.tar.rat=T3 at c22 c23;repeat' (first|((first|(refine cd c17 [(1000009,1000009)] ?_;rintro x rout ⟨rfl,rfl⟩;refine⟨rfl,?_⟩)|(refine cd c18 [(1000009,1000009)] ?_;rintro x rout ⟨rfl,rfl⟩;refine⟨rfl,?_⟩)|(refine cd c20 [(1000009,1000009)] ?_;rintro x rout ⟨rfl,rfl⟩;refine⟨rfl,?_⟩)|(refine cd c21 [(1000009,1000009)] ?_;rintro x rout ⟨rfl,rfl⟩;refine⟨rfl,?_⟩)|(refine cd c22 [(1000009,1000009)] ?_;rintro x rout ⟨rfl,rfl⟩;refine⟨rfl,?_⟩)|(refine cd c23 [(1000009,1000009)] ?_;rintro x rout ⟨rfl,rfl⟩;refine⟨rfl,?_⟩)|(refine cd c24 [(1000009,1000009)] ?_;rintro x rout ⟨rfl,rfl⟩;refine⟨rfl,?_⟩))<;>conv=>whnf)|(refine ac (c19) rfl rfl ?_;rotate_right;conv=>whnf)|(refine ac (c25) rfl rfl ?_;rotate_right;conv=>whnf)|(refine ac (PT) rfl rfl ?_;rotate_right;conv=>whnf)|((first|(refine aa ?_ ?_<;>intro hb<;>try simp only[az]at hb)|omega|refine aA ?_|decide|assumption)<;>conv=>whnf))
 refine .ret _ ?_;conv=>whnf
 exact⟨kx,⟨rfl,rfl⟩,rr,trivial⟩
end Go.Proofs.YtkokpbpililcdaaGreatDoor
