/- BooksBalance is proved: for every input the law returns true, and its argument reads afterwards as it read before. Conditions: those of the given row alone. -/
import Derived.Test.YtodakofifpaljaaGreatDoorBbConSep
import Derived.Test.YtodakofifpaljaaGreatDoorBbConSex
import Derived.Test.YtodakofifpaljaaGreatDoorBbConTri
import Derived.Test.YtodakofifpaljaaGreatDoorBbConTwo
import Derived.Test.YtodakofifpaljaaGreatDoorBbConQui
import Derived.Test.YtodakofifpaljaaGreatDoorBbConQua
import Derived.Test.YtodakofifpaljaaGreatDoorBbConOne
set_option linter.unusedVariables false
set_option linter.unusedSimpArgs false
set_option maxRecDepth 20000
namespace Go.Proofs.YtodakofifpaljaaGreatDoor
open Go Go.Eng
def lp:OL:= [(0,[]),(1,[0]),(2,[]),(3,[]),(4,[]),(5,[4]),(6,[4,5]),(7,[4]),(8,[4]),(9,[4,5,6,7,8]),(10,[4,5,6,7,8,9]),(11,[4,5,6,7,8,9]),(12,[4,5,6,7,8]),(13,[4,5,6,7,8]),(14,[]),(15,[]),(16,[])]
def kT:OL:= [(0,[]),(1,[0]),(2,[0,1]),(3,[0,1,2]),(4,[0,1,2]),(5,rg 5),(6,rg 6),(7,rg 6),(8,rg 5),(9,rg 5),(10,rg 10),(11,rg 11),(12,rg 10),(13,rg 10),(14,[2,3,4]),(15,[2,3,4]),(16,[]),(17,[])]
theorem zn {A B:List lP}{x y:lP}{D b:List lP}{j:Nat}(hb:(y::A).reverse++ [x]++B++D=b)(hj:j=A.length+1):
 b.getD j fw=x∧b.getD (j - 1) fw=y∧(b.set j y).set (j - 1) x=A.reverse++ [x]++(y::B)++D:=by
 subst hj;refine⟨?_,?_,?_⟩
 · rw[←hb,show(y::A).reverse++ [x]++B++D=(y::A).reverse++x::(B++D)by simp];exact pF _ _ _ _ (by simp)
 · rw[←hb,show(y::A).reverse++ [x]++B++D=A.reverse++y::([x]++B++D)by simp];exact pF _ _ _ _ (by simp)
 · rw[←hb];have:=t8 A.reverse (B++D) x y;simp only[List.length_reverse]at this;simp only[List.reverse_cons,List.append_assoc,List.singleton_append,List.cons_append,List.nil_append,Nat.add_sub_cancel]at this ⊢;exact this
theorem IB (g:FuncId)(cmp:lP→lP→Int)(l:List lP)(hl:l.length≤2^40)
 (hcmp:∀p q,p ∈ l→q ∈ l→ai Tryz.prog g [.agg ((gv p).map .d),.agg ((gv q).map .d)] [] (fun y r=>y= .d (.int .i64 (cmp p q))∧r= [])):
 ai Tryz.prog 155 [.buf 1000001,.d (.int .i64 0),.d (.int .i64 l.length),.fn g []] [(1000001,aM 55 2 gv fw l)]
  (fun y r=>y= .tup []∧r= [(1000001,aM 55 2 gv fw (di cmp l))]):=by
 refine af hT (C:= []) Tryz.func155 rfl Tryz.call155 rfl rfl rfl ?_;conv=>whnf
 repeat' (first|((first|(refine aa ?_ ?_<;>intro hb<;>try simp only[az]at hb)|refine aw hT 4 lp ?_|refine aw hT 6 kT ?_|omega|refine aA ?_|decide|assumption)<;>conv=>whnf))
 refine ah hT (C:= []) (ι:=Nat×List lP) (fun(i,c)=>1≤i∧(i≤l.length∨i=1)∧c=(bF cmp (l.take i)).reverse++l.drop i)
  (fun(i,c)=>aN [(0,.buf 1000001),(1,.d (.int .i64 0)),(2,.d (.int .i64 l.length)),(3,.fn g []),(8,.d (.int .i64 i))] [(1000001,aM 55 2 gv fw c)])
  (fun(i,_)=>l.length - i) (1,l) ⟨by simp,by simp,by cases l with|nil=>rfl|cons x l=>simp[bF,fC]⟩ (by exact bz [(1000001,1000001)]) ?_
 rintro⟨i,c⟩ ⟨p1,p2,p3⟩;conv=>whnf
 repeat' (first|((first|(refine aa ?_ ?_<;>intro hb<;>try simp only[az]at hb)|refine aw hT 4 lp ?_|refine aw hT 6 kT ?_|omega|refine aA ?_|decide|assumption)<;>conv=>whnf))
 · have hi:i<l.length:=by omega
   have hx:l[i] ∈ l:=List.getElem_mem hi;have hmem:∀y ∈ bF cmp (l.take i),y ∈ l:=fun y hy=>List.mem_of_mem_take ((jg cmp _).1 hy)
   have hlr:(bF cmp (l.take i)).length=i:=by rw[fy,List.length_take];omega
   have hc:c=(bF cmp (l.take i)).reverse++ [l[i]]++ []++l.drop (i+1):=by rw[p3,List.drop_eq_getElem_cons hi];simp
   refine ah hT (C:= []) (ι:=List lP×List lP×List lP) (fun(A,B,b)=>fC cmp l[i] (bF cmp (l.take i))=B.reverse++fC cmp l[i] A∧A.length+B.length=i∧(∀y ∈ A,y ∈ l)∧A.reverse++ [l[i]]++B++l.drop (i+1)=b)
    (fun(A,B,b)=>aN [(0,.buf 1000001),(1,.d (.int .i64 0)),(2,.d (.int .i64 l.length)),(3,.fn g []),(8,.d (.int .i64 i)),(9,.d (.int .i64 A.length))] [(1000001,aM 55 2 gv fw b)])
    (fun(A,_,_)=>A.length) (bF cmp (l.take i),[],c) ⟨by simp,by simpa using hlr,hmem,hc.symm⟩ ?_ ?_
   · exact ae [(1000001,1000001)] rfl rfl ⟨lr,lr,lr,lr,lr,am (by omega),trivial⟩ ⟨rr,trivial⟩
   rintro⟨A,B,b⟩ ⟨q1,q2,q3,hbd⟩;have hlen:b.length=l.length:=by rw[←hbd];simp;omega
   have hfin:A= []∨(∃y A',A=y::A'∧0≤cmp l[i] y)→bF cmp (l.take (i+1))=B.reverse++l[i]::A∧b=(bF cmp (l.take (i+1))).reverse++l.drop (i+1):=fun h=>by
    have e:bF cmp (l.take (i+1))=B.reverse++l[i]::A:=by
     rw[gQ hi,ij,q1];rcases h with rfl|⟨y,A',rfl,h⟩
     · rfl
     · rw[fC,if_neg (by omega)]
    exact⟨e,by rw[e,←hbd];simp⟩
   conv=>whnf
   repeat' (first|((first|(refine aa ?_ ?_<;>intro hb<;>try simp only[az]at hb)|refine aw hT 4 lp ?_|refine aw hT 6 kT ?_|omega|refine aA ?_|decide|assumption)<;>conv=>whnf))
   · cases A with
     |nil=>simp at hb
     |cons y A=>
     obtain⟨g1,g2,g3⟩:=zn (j:=(((y::A).length:Int)).toNat) hbd (by simp);have ej:((((y::A).length:Int)) - 1).toNat=(((y::A).length:Int)).toNat - 1:=by omega
     refine fz.of (hcmp l[i] y hx (q3 y (by simp))) [] rfl ⟨by rw[←g1];exact lr,by rw[←g2,←ej];exact lr,trivial⟩ trivial rfl rfl ?_;rintro x rout ⟨rfl,rfl⟩;refine⟨rfl,?_⟩;conv=>whnf
     repeat' (first|((first|(refine aa ?_ ?_<;>intro hb<;>try simp only[az]at hb)|refine aw hT 4 lp ?_|refine aw hT 6 kT ?_|omega|refine aA ?_|decide|assumption)<;>conv=>whnf))
     · refine⟨(A,y::B,_),⟨by rw[q1];simp[fC,hb],by simp only[List.length_cons]at q2 ⊢;omega,fun z hz=>q3 z (by simp[hz]),?_⟩,by show A.length<(y::A).length;simp,ae [(1000001,1000001)] rfl rfl ⟨lr,lr,lr,lr,lr,am (by simp only[List.length_cons];omega),trivial⟩ ⟨fU (x:=b.getD ((((y::A).length:Int)) - 1).toNat fw) (y:=b.getD (((y::A).length:Int)).toNat fw) (fun _=>rfl) (fun _=>rfl),trivial⟩⟩;rw[←g3,ej,g1,g2]
     · obtain⟨_,h2⟩:=hfin (.inr ⟨y,A,rfl,hb⟩);exact⟨(i+1,b),⟨by omega,by omega,h2⟩,by show l.length - (i+1)<l.length - i;omega,(by exact bz [(1000001,1000001)])⟩
   · have hA:A= []:=List.length_eq_zero_iff.1 (by omega);obtain⟨_,h2⟩:=hfin (.inl hA);exact⟨(i+1,b),⟨by omega,by omega,h2⟩,by show l.length - (i+1)<l.length - i;omega,(by exact bz [(1000001,1000001)])⟩
 · refine .ret _ ?_;conv=>whnf
   have e1:c=di cmp l:=by
    rw[p3,List.take_of_length_le (by omega),List.drop_eq_nil_iff.2 (by omega),List.append_nil];rfl
   subst e1;exact⟨_,⟨rfl,rfl⟩,rr,trivial⟩
theorem IZ (g:FuncId)(cmp:lP→lP→Int)(l:List lP)(hl:l.length≤12)(lim:Int)
 (hcmp:∀p q,p ∈ l→q ∈ l→ai Tryz.prog g [.agg ((gv p).map .d),.agg ((gv q).map .d)] [] (fun y r=>y= .d (.int .i64 (cmp p q))∧r= [])):
 ai Tryz.prog 105 [.buf 1000001,.d (.int .i64 0),.d (.int .i64 l.length),.d (.int .i64 lim),.fn g []] [(1000001,aM 55 2 gv fw l)]
  (fun y r=>y= .tup []∧r= [(1000001,aM 55 2 gv fw (di cmp l))]):=by
 refine af hT (C:= []) Tryz.func105 rfl Tryz.call105 rfl rfl rfl ?_;conv=>whnf
 refine dP hT (C:= []) (fun _ _ h=>h) (fun _ h=>h) ?_;conv=>whnf
 repeat' (first|((first|(refine aa ?_ ?_<;>intro hb<;>try simp only[az]at hb)|refine aw hT 17 oBLeB105_17 ?_|omega|refine aA ?_|decide|assumption)<;>conv=>whnf))
 refine cj (IB g cmp l (by omega) hcmp) [(1000001,1000001)] ?_;rintro x rout ⟨rfl,rfl⟩;refine⟨rfl,?_⟩;conv=>whnf
 refine .ret _ ?_;conv=>whnf
 exact⟨_,⟨rfl,rfl⟩,rr,trivial⟩
theorem FY (g:FuncId)(cmp:lP→lP→Int)(l:List lP)(hl:l.length≤12)
 (hcmp:∀p q,p ∈ l→q ∈ l→ai Tryz.prog g [.agg ((gv p).map .d),.agg ((gv q).map .d)] [] (fun y r=>y= .d (.int .i64 (cmp p q))∧r= [])):
 ai Tryz.prog 54 [.buf 1000001,.fn g []] [(1000001,aM 55 2 gv fw l)]
  (fun y r=>y= .tup []∧r= [(1000001,aM 55 2 gv fw (di cmp l))]):=by
 refine af hT (C:= []) Tryz.func54 rfl Tryz.call54 rfl rfl rfl ?_;conv=>whnf
 repeat' (first|((first|(refine aa ?_ ?_<;>intro hb<;>try simp only[az]at hb)|omega|refine aA ?_|decide|assumption)<;>conv=>whnf))
 refine cj (GG l.length hl) [] ?_;rintro x rout ⟨⟨lim,rfl⟩,rfl⟩;refine⟨rfl,?_⟩;conv=>whnf
 repeat' (first|((first|(refine aa ?_ ?_<;>intro hb<;>try simp only[az]at hb)|omega|refine aA ?_|decide|assumption)<;>conv=>whnf))
 refine cj (IZ g cmp l hl lim hcmp) [(1000001,1000001)] ?_;rintro x rout ⟨rfl,rfl⟩;refine⟨rfl,?_⟩;conv=>whnf
 refine .ret _ ?_;conv=>whnf
 exact⟨_,⟨rfl,rfl⟩,rr,trivial⟩
theorem OC (a b:lP):ai Tryz.prog 55 [.agg ((gv a).map .d),.agg ((gv b).map .d)] [] (fun x r=>x= .d (.int .i64 (sH a b))∧r= []):=by
 have c1:=yE a.acc b.acc;refine af hT (C:= []) Tryz.func55 rfl Tryz.call55 rfl rfl rfl ?_;conv=>whnf
 repeat' (first|(refine ac (c1) rfl rfl ?_;rotate_right;conv=>whnf)|((first|(refine aa ?_ ?_<;>intro hb<;>try simp only[az]at hb)|omega|refine aA ?_|decide|assumption)<;>conv=>whnf))
 refine .ret _ ?_;conv=>whnf
 refine⟨[],⟨?_,rfl⟩,trivial⟩;conv=>lhs;whnf
 rfl
def eh:OL:= [(0,[]),(1,[]),(2,[0,1]),(3,[0,1]),(4,[0,1]),(5,[0,1]),(6,rg 6),(7,[0,1]),(8,[]),(9,[])]
def ep:OL:= [(0,[]),(1,[]),(2,[0,1]),(3,[0,1]),(4,[0,1]),(5,[0,1]),(6,rg 6),(7,[0,1]),(8,[]),(9,[])]
def dI:OL:= [(0,[]),(1,[0]),(2,[0,1]),(3,[0,1]),(4,[0]),(5,[0]),(6,[]),(7,rg 7),(8,rg 7),(9,[]),(10,[])]
abbrev NI (h:ed)(vm:Mp (List UInt8))(m:Mp (Option cy))(pd:Mp Int)(clock:Nat)(kb:List (List DV×Nat)):List (Nat×aY):=re h vm (.mapB false true [.str] (dO none) (fun K=>m.has (bW K)) (fun K=>dO (m.val (bW K))) clock kb) (pC pd)
noncomputable def yT (M:Mp Int):List lP:=di sH (nE M (ca M.has))
theorem oE:jj sH:=jj.str (fun a:lP=>a.acc)
theorem Is {M:Mp Int}{qs:List (List UInt8)}(h1:qs.Nodup)(h2:∀k,k ∈ qs↔M.has k=true):di sH (nE M qs)=yT M:=by
 unfold yT
 have hq:∀ks,∀a ∈ nE M ks,a.amt=M.val a.acc:=fun ks a ha=>by
  obtain⟨k,_,rfl⟩:=List.mem_map.1 ha;rfl
 refine xV oE (fun a ha b hb e=> ?_) ((dH _ _).trans ?_) (jS oE _)
 · have e:a.acc=b.acc:=jX.1 e;have h3:=hq _ a ha;have h4:=hq _ b hb;cases a;cases b;subst e;simp only at h3 h4;rw[h3,h4]
 · rw[←pw h1 h2];exact(((eY qs).symm.filter _).map _)
theorem vO (M:Mp Int)(qs:List (List UInt8))(s:List UInt8):nE M (qs++ [s])=nE M qs++if M.val s=0 then []else [⟨s,M.val s⟩]:=by
 unfold nE;rw[List.filter_append,List.map_append]
 by_cases h:M.val s=0<;>simp[h]
def yz:List (List UInt8):=dr::ef::G5
theorem Jg (n:Nat):G5.getD n [] ∈ yz:=by
 rcases Nat.lt_or_ge n G5.length with h|h
 · rw[List.getD_eq_getElem?_getD,List.getElem?_eq_getElem h];exact List.mem_cons_of_mem _ (List.mem_cons_of_mem _ (List.getElem_mem h))
 · rw[List.getD_eq_getElem?_getD,List.getElem?_eq_none h];decide
theorem r8 {h:ed}{vm:Mp (List UInt8)}{m:Mp (Option cy)}{pd:Mp Int}{ks:List (List UInt8)}{k:List UInt8}(hk:(cZ (eo h vm m pd ks)).has k=true):k ∈ yz:=by
 obtain⟨p,hp,hq⟩:=List.any_eq_true.1 hk;have hq:=of_decide_eq_true hq;subst hq;obtain⟨s,_,hp⟩:=List.mem_flatMap.1 hp;rcases List.mem_append.1 hp with q|q
 · simp only[List.mem_cons,List.not_mem_nil,or_false]at q;rcases q with rfl|rfl
   · show dr ∈ yz;decide
   · show ef ∈ yz;decide
 · split at q
   · cases q
   · obtain⟨x,_,q⟩:=List.mem_flatMap.1 q;simp only[zX,List.mem_cons,List.not_mem_nil,or_false]at q;rcases q with rfl|rfl
     · show ef ∈ yz;decide
     · exact Jg _
theorem sX {α:Type}{va:Bool}{z:List DV}{f:α→List DV}{m:Mp α}{x y:List UInt8}{v w:α}:
 aY.le (.map false va [.str] z (fun q=>ay q [.str y]||(ay q [.str x]||m.has (bW q))) (fun q=>bif ay q [.str y]then f w else bif ay q [.str x]then f v else f (m.val (bW q)))) (e8 va z f ((m.put x v).put y w)):=bC fun K hK=>by
 obtain⟨s,rfl⟩:=fa hK;rw[m7,m7];refine⟨rfl,?_⟩;show(bif decide (s=y)then f w else bif decide (s=x)then f v else f (m.val s))=f (if s=y then w else if s=x then v else m.val s)
 by_cases q:s=y
 · rw[decide_eq_true q,if_pos q];rfl
 · rw[decide_eq_false q,if_neg q]
   by_cases r:s=x
   · rw[decide_eq_true r,if_pos r];rfl
   · rw[decide_eq_false r,if_neg r];rfl
theorem L8 {a b:Int}(h: -2^60≤a∧a≤2^60)(k: -1000000000≤b∧b≤1000000000):aF (a+b)∧aF (a - b):=by
 unfold aF;omega
theorem v6 {has:List UInt8→Bool}{clock:Nat}{kb:List (List DV×Nat)}(hkb:KB [.str] (fun K=>has (bW K)) clock kb){seen:List Nat}{ks:List (List UInt8)}(g1:ks.Nodup)(g2:∀k b',([DV.str k],b') ∈ kb→(b' ∈ seen↔k ∈ ks))(g3:∀k ∈ ks,has k=true)
 {s:List UInt8}{b':Nat}(hkb1:([DV.str s],b') ∈ kb)(hseen:b' ∉ seen)(hsn:s ∉ ks)(kA:has s=true):
 ((ks++ [s]).Nodup∧(∀k b2,([DV.str k],b2) ∈ kb→(b2 ∈ b'::seen↔k ∈ ks++ [s]))∧∀k ∈ ks++ [s],has k=true)∧(kb.filter fun p=> !(b'::seen).contains p.2).length<(kb.filter fun p=> !seen.contains p.2).length:=by
 refine⟨⟨?_,fun k b2 hk2=> ?_,fun k hk=> ?_⟩,?_⟩
 · rw[List.nodup_append];exact⟨g1,by simp,fun x hx y hy=>by simp at hy;subst hy;exact fun e=>hsn (by rw[←e];exact hx)⟩
 · have hst:=vv hkb hk2 hkb1;simp only[List.mem_cons,List.mem_append,List.not_mem_nil,or_false];rw[g2 k b2 hk2];have:b2=b'↔k=s:=by rw[show(b2=b')=((([DV.str k],b2):List DV×Nat).2=(([DV.str s],b'):List DV×Nat).2)from rfl,hst];simp
   rw[this];exact or_comm
 · rcases List.mem_append.1 hk with q|q
   · exact g3 k q
   · simp at q;subst q;exact kA
 · have e:kb.filter (fun p=> !(b'::seen).contains p.2)=(kb.filter fun p=> !seen.contains p.2).filter fun p=> !(p.2==b'):=by
    rw[List.filter_filter];refine List.filter_congr fun p _=> ?_
    simp[List.contains_cons,Bool.and_comm];rfl
   rw[e];refine Nat.lt_of_le_of_ne (List.length_filter_le _ _) (fun q=> ?_);have:=(List.length_filter_eq_length_iff.1 q) ([.str s],b') (List.mem_filter.2 ⟨hkb1,by simpa using hseen⟩);simp at this
set_option maxHeartbeats 16000000 in
theorem QY (h:ed)(vm:Mp (List UInt8))(m:Mp (Option cy))(pd:Mp Int)(hf:∃L:List (List UInt8),L.length≤400∧∀k,m.has k=true→k ∈ L)(hsome:∀k,m.has k=true→m.val k≠none)
 (hg:∀k,m.has k=true→(1≤(dm m k).legs.length∧(dm m k).legs.length≤2^40)∧(ix (dm m k)=false→Ej h vm (dm m k)))(hp:∀k,0≤pd.val k∧pd.val k≤10^9):
 ai Tryz.prog 24 [.ptr 1000001 0] (re h vm (AG m) (pC pd)) (fun y r=>y= .d (dD 2 gv fw (yT (cZ (eo h vm m pd (ca m.has)))))∧r= []):=by
 refine af hT (C:= []) Tryz.func24 rfl Tryz.call24 rfl rfl rfl ?_;conv=>whnf
 repeat' (first|(intro clock kb hkb;conv=>whnf)|((first|(refine aa ?_ ?_<;>intro hb<;>try simp only[az]at hb)|refine aw hT 5 eh ?_|refine aw hT 6 ep ?_|refine aw hT 12 dI ?_|omega|refine aA ?_|decide|assumption)<;>conv=>whnf))
 have hkl:kb.length≤400:=by
  obtain⟨L,h1,h2⟩:=hf
  have:=hkb.le (L.map fun x=> [.str x]) (fun key hw hh=>by
   obtain⟨s,rfl⟩:=fa hw
   exact List.mem_map.2 ⟨s,h2 s hh,rfl⟩)
  rw[List.length_map]at this;omega
 refine ah hT (C:= []) (ι:=List Nat×List (List UInt8)) (fun(seen,ks)=>ks.Nodup∧(∀k b',([DV.str k],b') ∈ kb→(b' ∈ seen↔k ∈ ks))∧∀k ∈ ks,m.has k=true)
  (fun(seen,ks)=>aN [(0,.ptr 1000001 0),(3,.mp 11),(16,.ptr 16 0)] (NI h vm m pd clock kb++ [(11,pC (cZ (eo h vm m pd ks))),(16,.iter 1000008 clock seen)]))
  (fun(seen,ks)=>(kb.filter fun p=> !seen.contains p.2).length) ([],[]) ⟨by simp,by simp,by simp⟩ ?_ ?_
 · refine ae Hd rfl rfl ⟨lr,lr,lr,trivial⟩ ⟨rr,rr,rr,rr,bC (fun _ _=>⟨rfl,rfl⟩),rr,trivial⟩
 rintro⟨seen,ks⟩ ⟨g1,g2,g3⟩;have g1:ks.Nodup:=g1;have g2:∀k b',([DV.str k],b') ∈ kb→(b' ∈ seen↔k ∈ ks):=g2;have g3:∀k ∈ ks,m.has k=true:=g3
 have hks:ks.length≤400:=by
  obtain⟨L,h1,h2⟩:=hf;have:=lU _ _ g1 (fun k hk=>h2 k (g3 k hk));omega
 conv=>whnf
 repeat' (first|((first|(refine aa ?_ ?_<;>intro hb<;>try simp only[az]at hb)|refine aw hT 5 eh ?_|refine aw hT 6 ep ?_|refine aw hT 12 dI ?_|omega|refine aA ?_|decide|assumption)<;>conv=>whnf))
 refine⟨rfl,fun key b' hkb1 hseen=> ?_,fun fc=> ?_⟩
 · obtain⟨s,rfl⟩:=fa (hkb.kw _ hkb1);have kA:m.has s=true:=(hkb.kh _ (hkb.kw _ hkb1)).2 ⟨_,hkb1⟩;have hsn:s ∉ ks:=fun q=>hseen ((g2 s b' hkb1).2 q)
   obtain⟨g,hg1⟩:∃g,m.val s=some g:=by cases hm:m.val s with|some g=>exact⟨g,rfl⟩|none=>exact absurd hm (hsome s kA)
   have hgm:dm m s=g:=by unfold dm;rw[hg1];rfl
   obtain⟨⟨gl1,gl2⟩,gB⟩:=hg s kA;rw[hgm]at gl1 gl2 gB;obtain⟨hp1,hp2⟩:=hp s;have c91:=QU g gl1 gl2;have c36:=fun z=>PR h vm (.mapB false true [.str] (dO none) (fun K=>m.has (bW K)) (fun K=>dO (m.val (bW K))) clock kb) (pC pd) g (gB z)
   have hE:=sM h vm g;generalize hW:jW h vm g=W at c36 hE;obtain⟨hWl,hWr⟩:=gP.1 hE;have hst:((ks++ [s]).Nodup∧(∀k b2,([DV.str k],b2) ∈ kb→(b2 ∈ b'::seen↔k ∈ ks++ [s]))∧∀k ∈ ks++ [s],m.has k=true)∧(kb.filter fun p=> !(b'::seen).contains p.2).length<(kb.filter fun p=> !seen.contains p.2).length:=v6 hkb g1 g2 g3 hkb1 hseen hsn kA;have hM:=fun s=>xr (lf (h:=h) (vm:=vm) (m:=m) hp ks).2 (by have:=(lf (h:=h) (vm:=vm) (m:=m) hp ks).1;omega) s
   have hp9:∀k,-1000000000≤pd.val k∧pd.val k≤1000000000:=fun k=>by have:=hp k;omega
   have hS:=congrArg cZ (Ec h vm m pd ks s);rw[hgm]at hS
   have eM:cZ (eo h vm m pd ks++ [(dr,pd.val s),(ef,-pd.val s)])=Du (Du (cZ (eo h vm m pd ks)) dr (pd.val s)) ef (-pd.val s):=by
    rw[show [(dr,pd.val s),(ef,-pd.val s)]= [(dr,pd.val s)]++ [(ef,-pd.val s)]from rfl,←List.append_assoc,oI,oI]
   refine mY (row:=dO (m.val s)) (row':=gr g) (congrArg dO hg1) ?_;conv=>whnf
   repeat' (first|((first|(refine⟨rfl,_,hkb1,?_⟩;refine mY (row:=dO (m.val s)) (row':=gr g) (congrArg dO hg1) ?_)|refine And.intro (rfl:aK _=some [.int .i64 0]) ?_)<;>conv=>whnf)|(refine ac (c91) rfl rfl ?_;rotate_right;conv=>whnf)|((first|refine And.intro (L8 (hM _) (hp9 _)).1 ?_|refine And.intro (L8 (hM _) (hp9 _)).2 ?_|(refine aa ?_ ?_<;>intro hb<;>try simp only[az]at hb)|refine aw hT 5 eh ?_|refine aw hT 6 ep ?_|refine aw hT 12 dI ?_|omega|refine aA ?_|decide|assumption)<;>conv=>whnf))
   · refine⟨(b'::seen,ks++ [s]),hst.1,hst.2,ae Hd rfl rfl ⟨lr,lr,lr,trivial⟩ ⟨rr,rr,rr,rr,?_,rr,trivial⟩⟩;rw[hS,pM,if_pos hb,List.append_nil,eM];exact sX
   · refine cj (c36 hb) [(1000001,1000001),(1000002,1000002),(1000008,1000008),(1000010,1000010)] ?_;rintro y rout ⟨rfl,rfl⟩;refine⟨rfl,?_⟩;conv=>whnf
     repeat' (first|((first|(refine aa ?_ ?_<;>intro hb<;>try simp only[az]at hb)|refine aw hT 5 eh ?_|refine aw hT 6 ep ?_|refine aw hT 12 dI ?_|omega|refine aA ?_|decide|assumption)<;>conv=>whnf))
     rw[pM,if_neg (by rw[hb];simp),hW,←List.append_assoc]at hS
     have hO:∀p ∈ eo h vm m pd ks++ [(dr,pd.val s),(ef,-pd.val s)],-1000000000≤p.2∧p.2≤1000000000:=fun p hm=>(List.mem_append.1 hm).elim ((lf (h:=h) (vm:=vm) (m:=m) hp ks).2 p) (fun q=>by
      simp only[List.mem_cons,List.not_mem_nil,or_false]at q;rcases q with rfl|rfl
      · exact hp9 s
      · show -1000000000≤-pd.val s∧-pd.val s≤1000000000;omega)
     have hOl:(eo h vm m pd ks++ [(dr,pd.val s),(ef,-pd.val s)]).length≤2002*ks.length+2:=by rw[List.length_append];have:=(lf (h:=h) (vm:=vm) (m:=m) hp ks).1;simp only[List.length_cons,List.length_nil];omega
     generalize hOe:eo h vm m pd ks++ [(dr,pd.val s),(ef,-pd.val s)]=O at hS hO hOl eM;refine ah hT (C:= []) (ι:=Nat) (fun i=>i≤W.length) (fun i=>aN [(0,.ptr 1000001 0),(3,.mp 11),(16,.ptr 16 0),(44,.d (jK W)),(45,.d (.int .i64 W.length)),(46,.d (.int .i64 i))] (NI h vm m pd clock kb++ [(11,pC (cZ (O++(W.take i).flatMap zX))),(16,.iter 1000008 clock (b'::seen))])) (fun i=>W.length - i) 0 (Nat.zero_le _) ?_ ?_
     · refine ae Hd rfl rfl ⟨lr,lr,lr,lr,lr,lr,trivial⟩ ⟨rr,rr,rr,rr,?_,rr,trivial⟩;rw[List.take_zero,List.flatMap_nil,List.append_nil,eM];exact sX
     intro i hi;have e1:(i:Int).toNat=i:=Int.toNat_natCast i;rcases Nat.lt_or_ge i W.length with hin|hin
     · have hM:=fun s=>xr (o:=O++(W.take i).flatMap zX) (fun p hm=>(List.mem_append.1 hm).elim (hO p) (fun q=>GC hE p (List.mem_flatMap.2 (by obtain⟨x,hx,hq⟩:=List.mem_flatMap.1 q;exact⟨x,List.mem_of_mem_take hx,hq⟩)))) (by rw[List.length_append,Dh,List.length_take];omega) s
       have hx:JT (W.getD (i:Int).toNat j5):=by rw[e1];exact hWr _ (aq hin)
       have eX:cZ (O++(W.take (i+1)).flatMap zX)=Du (Du (cZ (O++(W.take i).flatMap zX)) ef (W.getD (i:Int).toNat j5).cents) (G5.getD (W.getD (i:Int).toNat j5).kind.toNat []) (-(W.getD (i:Int).toNat j5).cents):=by
        rw[e1,dG hin,List.flatMap_append,←List.append_assoc,show [W.getD i j5].flatMap zX= [(ef,(W.getD i j5).cents)]++ [(G5.getD (W.getD i j5).kind.toNat [],-(W.getD i j5).cents)]from rfl,←List.append_assoc,oI,oI]
       have hx2:=hx.2.2;have hkd:(W.getD (i:Int).toNat j5).kind=1∨(W.getD (i:Int).toNat j5).kind=2∨(W.getD (i:Int).toNat j5).kind=3∨(W.getD (i:Int).toNat j5).kind=4∨(W.getD (i:Int).toNat j5).kind=5∨(W.getD (i:Int).toNat j5).kind=6:=by have:=hx.1;omega
       conv=>whnf
       repeat' (first|((first|refine And.intro (rfl:aK _=some [.int .i64 0]) ?_|refine And.intro (L8 (hM _) hx2).1 ?_|refine And.intro (L8 (hM _) hx2).2 ?_|(refine aa ?_ ?_<;>intro hb<;>try simp only[az]at hb)|refine aw hT 5 eh ?_|refine aw hT 6 ep ?_|refine aw hT 12 dI ?_|omega|refine aA ?_|decide|assumption)<;>conv=>whnf))
       all_goals try(exfalso;omega)
       rcases hkd with hk|hk|hk|hk|hk|hk
       all_goals
        rw[hk];conv=>whnf
        repeat' (first|((first|refine And.intro (rfl:aK _=some [.int .i64 0]) ?_|refine And.intro (L8 (hM _) hx2).1 ?_|refine And.intro (L8 (hM _) hx2).2 ?_|(refine aa ?_ ?_<;>intro hb<;>try simp only[az]at hb)|refine aw hT 5 eh ?_|refine aw hT 6 ep ?_|refine aw hT 12 dI ?_|omega|refine aA ?_|decide|assumption)<;>conv=>whnf))
        refine⟨i+1,by show i+1≤_;omega,by show W.length - (i+1)<W.length - i;omega,ae Hd rfl rfl ⟨lr,lr,lr,lr,lr,am (by omega),trivial⟩ ⟨rr,rr,rr,rr,?_,rr,trivial⟩⟩;rw[eX,hk];exact sX
     · have hiW:i=W.length:=by omega
       conv=>whnf
       repeat' (first|((first|(refine aa ?_ ?_<;>intro hb<;>try simp only[az]at hb)|refine aw hT 5 eh ?_|refine aw hT 6 ep ?_|refine aw hT 12 dI ?_|omega|refine aA ?_|decide|assumption)<;>conv=>whnf))
       all_goals try(exfalso;omega)
       refine⟨(b'::seen,ks++ [s]),hst.1,hst.2,ae Hd rfl rfl ⟨lr,lr,lr,trivial⟩ ⟨rr,rr,rr,rr,?_,rr,trivial⟩⟩;rw[hS,hiW,List.take_length];exact rr
 · have hiff:∀k,k ∈ ks↔m.has k=true:=fun k=>⟨g3 k,fun q=>by
    obtain⟨b',hb'⟩:=(hkb.kh [.str k] (by simp[wk,iD])).1 q
    exact(g2 k b' hb').1 (fc _ hb')⟩
   have hpm:cZ (eo h vm m pd ks)=cZ (eo h vm m pd (ca m.has)):=by
    rw[←pw g1 hiff];exact Ee ((eY ks).symm.flatMap_right _)
   conv=>whnf
   repeat' (first|(intro clock2 kb2 hkb2;conv=>whnf)|((first|(refine aa ?_ ?_<;>intro hb<;>try simp only[az]at hb)|refine aw hT 5 eh ?_|refine aw hT 6 ep ?_|refine aw hT 12 dI ?_|omega|refine aA ?_|decide|assumption)<;>conv=>whnf))
   have hacc:=fun k=>r8 (h:=h) (vm:=vm) (m:=m) (pd:=pd) (ks:=ks) (k:=k)
   have hM:=fun s=>xr (lf (h:=h) (vm:=vm) (m:=m) hp ks).2 (by have:=(lf (h:=h) (vm:=vm) (m:=m) hp ks).1;omega) s
   rw[←hpm];generalize cZ (eo h vm m pd ks)=M at hacc hM hkb2 ⊢
   refine ah hT (C:= []) (ι:=List Nat×List (List UInt8)) (fun(seen,qs)=>qs.Nodup∧(∀k b',([DV.str k],b') ∈ kb2→(b' ∈ seen↔k ∈ qs))∧∀k ∈ qs,M.has k=true)
    (fun(seen,qs)=>aN [(8,.buf 8),(67,.ptr 67 0)] [(8,aM 55 2 gv fw (nE M qs)),(11,.mapB false false [.str] [.int .i64 0] (fun K=>M.has (bW K)) (fun K=>Er (M.val (bW K))) clock2 kb2),(67,.iter 11 clock2 seen)])
    (fun(seen,qs)=>(kb2.filter fun p=> !seen.contains p.2).length) ([],[]) ⟨by simp,by simp,by simp⟩ ?_ ?_
   · exact(dv.nil 8 8 55 2 (aV gv fw []) rfl rfl (by decide)).trans (ae [(8,8),(11,11),(67,67)] rfl rfl ⟨lr,lr,trivial⟩ ⟨rr,rr,rr,trivial⟩)
   rintro⟨seen2,qs⟩ ⟨q1,q2,q3⟩;have q1:qs.Nodup:=q1;have q2:∀k b',([DV.str k],b') ∈ kb2→(b' ∈ seen2↔k ∈ qs):=q2;have q3:∀k ∈ qs,M.has k=true:=q3
   have hqs:qs.length≤9:=by
    have:=lU _ _ q1 (fun k hk=>hacc k (q3 k hk));exact this
   have hpl:(nE M qs).length≤9:=by unfold nE;rw[List.length_map];exact Nat.le_trans (List.length_filter_le _ _) hqs
   conv=>whnf
   repeat' (first|((first|(refine aa ?_ ?_<;>intro hb<;>try simp only[az]at hb)|refine aw hT 5 eh ?_|refine aw hT 6 ep ?_|refine aw hT 12 dI ?_|omega|refine aA ?_|decide|assumption)<;>conv=>whnf))
   refine⟨rfl,fun key b' hkb1 hseen=> ?_,fun hall2=> ?_⟩
   · obtain⟨s,rfl⟩:=fa (hkb2.kw _ hkb1);have kA:M.has s=true:=(hkb2.kh _ (hkb2.kw _ hkb1)).2 ⟨_,hkb1⟩;have hsn:s ∉ qs:=fun q=>hseen ((q2 s b' hkb1).2 q)
     have hst:((qs++ [s]).Nodup∧(∀k b2,([DV.str k],b2) ∈ kb2→(b2 ∈ b'::seen2↔k ∈ qs++ [s]))∧∀k ∈ qs++ [s],M.has k=true)∧(kb2.filter fun p=> !(b'::seen2).contains p.2).length<(kb2.filter fun p=> !seen2.contains p.2).length:=v6 hkb2 q1 q2 q3 hkb1 hseen hsn kA;conv=>whnf
     repeat' (first|((first|refine⟨rfl,_,hkb1,?_⟩|(refine aa ?_ ?_<;>intro hb<;>try simp only[az]at hb)|refine aw hT 5 eh ?_|refine aw hT 6 ep ?_|refine aw hT 12 dI ?_|omega|refine aA ?_|decide|assumption)<;>conv=>whnf))
     · refine⟨(b'::seen2,qs++ [s]),hst.1,hst.2,ae [(8,80),(11,11),(67,67)] rfl rfl ⟨lr,lr,trivial⟩ ⟨?_,rr,rr,trivial⟩⟩;rw[vO,if_neg (show ¬M.val s=0 from hb)];exact aR (x:=(⟨s,M.val s⟩:lP)) rfl
     · refine⟨(b'::seen2,qs++ [s]),hst.1,hst.2,ae [(8,8),(11,11),(67,67)] rfl rfl ⟨lr,lr,trivial⟩ ⟨?_,rr,rr,trivial⟩⟩;rw[vO,if_pos (show M.val s=0 from hb),List.append_nil];exact rr
   · have hiff2:∀k,k ∈ qs↔M.has k=true:=fun k=>⟨q3 k,fun q=>by
      obtain⟨b',hb'⟩:=(hkb2.kh [.str k] (by simp[wk,iD])).1 q
      exact(q2 k b' hb').1 (hall2 _ hb')⟩
     have cS:=FY 55 sH (nE M qs) (by omega) (fun p q _ _=>OC p q);rw[Is q1 hiff2]at cS;conv=>whnf
     repeat' (first|((first|(refine cj cS [(1000001,8)] ?_;rintro y rout ⟨rfl,rfl⟩;refine⟨rfl,?_⟩)|(refine aa ?_ ?_<;>intro hb<;>try simp only[az]at hb)|refine aw hT 5 eh ?_|refine aw hT 6 ep ?_|refine aw hT 12 dI ?_|omega|refine aA ?_|decide|assumption)<;>conv=>whnf))
     refine .freeze _ 8 55 2 _ _ rfl (.weak _ ?_);conv=>whnf
     refine⟨.d (dD 2 gv fw (yT M)),[],lr,⟨rfl,rfl⟩,trivial⟩
theorem HP {l:List uf}{k:List UInt8}(h:(fx l).has k=true):0≤rn l k:=by
 have key:∀ (l:List uf) (m:Mp (List UInt8)),(l.foldl (fun m v=>m.put v.key v.cls) m).has k=true→m.has k=true∨∃v ∈ l,v.key=k:=by
  intro l
  induction l with
  |nil=>intro m h;exact .inl h
  | cons v l ih=>
    intro m h;rcases ih _ h with q|⟨w,q1,q2⟩
    · have q:(decide (k=v.key)||m.has k)=true:=q;rw[Bool.or_eq_true,decide_eq_true_eq]at q;rcases q with q|q
      · exact .inr ⟨v,by simp,q.symm⟩
      · exact .inl q
    · exact .inr ⟨w,by simp[q1],q2⟩
 rcases key l _ h with q|⟨v,q1,q2⟩
 · cases q
 · obtain⟨j,hj,rfl⟩:=bQ (d:=cp) q1;exact mV hj (by show((l.getD j cp).key==k)=true;rw[q2];simp)
theorem Iy:∀ (n:Nat) (l:List uf),l.length=n→(∀i j,i<l.length→j<l.length→(l.getD i cp).key=(l.getD j cp).key→i=j)→∀i,i<l.length→(fx l).val (l.getD i cp).key=(l.getD i cp).cls:=by
 intro n l hn hu
 have key:∀m,m≤l.length→∀i,i<m→(fx (l.take m)).val (l.getD i cp).key=(l.getD i cp).cls:=by
  intro m
  induction m with
  |zero=>intro _ i hi;omega
  | succ m ih=>
    intro hm i hi;rw[yq (by omega)];show(if(l.getD i cp).key=(l.getD m cp).key then(l.getD m cp).cls else(fx (l.take m)).val (l.getD i cp).key)=_
    by_cases q:(l.getD i cp).key=(l.getD m cp).key
    · rw[if_pos q,hu i m (by omega) (by omega) q]
    · rw[if_neg q];have:i≠m:=fun e=>q (by rw[e])
      exact ih (by omega) i (by omega)
 intro i hi;have:=key l.length (Nat.le_refl _) i hi;rwa [List.take_length]at this
theorem DM {l:List uf}(h:wT l):∀i j,i<l.length→j<l.length→(l.getD i cp).key=(l.getD j cp).key→i=j:=by
 intro i j hi hj e;rcases Nat.lt_trichotomy i j with q|q|q
 · have:=h i j q hj;rw[e,ek]at this;cases this
 · exact q
 · have:=h j i q hi;rw[e,ek]at this;cases this
theorem K8 {f:rT}(h:wT f.veh){v:List UInt8}(hv:(fx f.veh).has v=true):0≤rn f.veh v∧(rn f.veh v).toNat<f.veh.length∧(fx f.veh).val v=(f.veh.getD (rn f.veh v).toNat cp).cls:=by
 have h0:=HP hv;have hb:=e6 (p:=fun i=>(f.veh.getD i cp).key==v) (n:=f.veh.length);have hi:(rn f.veh v).toNat<f.veh.length:=by unfold rn at*;omega
 have hk:(f.veh.getD (rn f.veh v).toNat cp).key=v:=by
  have:=hb.2.2 h0;exact eq_of_beq this
 refine⟨h0,hi,?_⟩;have:=Iy _ f.veh rfl (DM h) _ hi;rwa [hk]at this
theorem HT {f:rT}(h:nG f=0){i:Nat}(hi:i<f.veh.length):aG (f.veh.getD i cp).cls=true:=by
 have h0:ni f=0∧aX (jz f) f.veh.length=0:=by
  unfold nG at h
  by_cases q:ni f=0
  · rw[if_neg (fun c=>c q)]at h;refine⟨q,?_⟩
    by_cases r:aX (jz f) f.veh.length=0
    · exact r
    · rw[if_pos r]at h;exact absurd h r
  · rw[if_pos q]at h;exact absurd h q
 have h1:=cg h0.2 i hi;unfold jz at h1
 have h2:¬gd f.cls (f.veh.getD i cp).cls<0:=by
  split at h1
  · cases h1
  · split at h1
    · cases h1
    · split at h1
      · cases h1
      · assumption
 have hb:=e6 (p:=fun j=>(f.cls.getD j cW).key==(f.veh.getD i cp).cls) (n:=f.cls.length);have hc:gF f.cls=0:=bi h0.1 _ (by simp);have hj:(gd f.cls (f.veh.getD i cp).cls).toNat<f.cls.length:=by unfold gd at*;omega
 have hk:(f.cls.getD (gd f.cls (f.veh.getD i cp).cls).toNat cW).key=(f.veh.getD i cp).cls:=eq_of_beq (hb.2.2 (by unfold gd at h2;omega));rw[←hk];unfold gF at hc;split at hc
 · cases hc
 · have h3:=cg (bi hc _ (List.mem_cons_self ..)) _ hj;unfold vC at h3
   cases q:aG (f.cls.getD (gd f.cls (f.veh.getD i cp).cls).toNat cW).key with
   |true=>rfl
   |false=>rw[q]at h3;simp at h3
theorem Ct {h:ed}{l:List bx}(k:uk h l){i:Nat}(hi:i<(eN h l).length):
 (aZ h l).his.has ((eN h l).getD i fp).key=true∧(aZ h l).his.val ((eN h l).getD i fp).key=some ((eN h l).getD i fp)∧bO ((eN h l).getD i fp)=0∧∀x ∈ ((eN h l).getD i fp).legs,(fx h.flt.veh).has x.veh=true:=by
 obtain⟨t1,h1,hb,hc⟩:=xA h (wZ k.hE) (tF.1 k.lE);have hI:fq (2*l.length) l.length (aZ h l):=ol h _ _ l l.length (Nat.le_refl _);obtain⟨L,hL1,hL2⟩:=hI.fh;obtain⟨n1,n2,n3⟩:=ja hL2;have hi':i<(ca (aZ h l).his.has).length:=by unfold eN at hi;rwa [List.length_map]at hi
 have hh:=(n3 _).1 (aq (x:= []) hi');obtain⟨g,e1,e2⟩:=hI.his _ hh
 have eg:(eN h l).getD i fp=g:=by
  unfold eN;rw[List.getD_eq_getElem?_getD,List.getElem?_map,List.getElem?_eq_getElem hi'];show dm (aZ h l).his (ca (aZ h l).his.has)[i]=g;have e1:=e1;rw[List.getD_eq_getElem?_getD,List.getElem?_eq_getElem hi']at e1;unfold dm;rw[show(aZ h l).his.val (ca (aZ h l).his.has)[i]=some g from e1];rfl
 rw[eg,hc.key _ _ e1];exact⟨hh,e1,e2,hc.veh _ _ e1⟩
theorem Cp {h:ed}{l:List bx}(k:uk h l)(hds:AZ h.dea){i:Nat}(hi:i<(eN h l).length):
 (1≤((eN h l).getD i fp).legs.length∧((eN h l).getD i fp).legs.length≤2^40)∧(ix ((eN h l).getD i fp)=false→Ej h (fx h.flt.veh) ((eN h l).getD i fp)):=by
 have hE:=k.hE;obtain⟨r1,r2,r3,r4⟩:=pB k;have hdE:rF h.dea=0:=by unfold um at hE;exact fV hE _ (by simp)
 have htE:uK h.tar=0:=by unfold um at hE;exact fV hE _ (by simp)
 have hfE:nG h.flt=0:=xZ hE
 have hvS:wT h.flt.veh:=by
  unfold nG at hfE
  by_cases q:ni h.flt=0
  · rw[if_neg (fun c=>c q)]at hfE
    by_cases r:aX (jz h.flt) h.flt.veh.length=0
    · exact qM r
    · rw[if_pos r]at hfE;exact absurd hfE r
  · rw[if_pos q]at hfE;exact absurd hfE q
 have hdR:=IY hdE hds;obtain⟨a1,a2,a3,a4⟩:=Ct k hi;obtain⟨⟨_,hTm,hn1,hn2⟩,hlg⟩:=pN a3;have hl0:((eN h l).getD i fp).legs.getD 0 ew ∈ ((eN h l).getD i fp).legs:=aq (by omega);have hvm:=a4 _ hl0;obtain⟨v1,v2,v3⟩:=K8 hvS hvm;have hgk:JG ((eN h l).getD i fp):=r1.2 _ (aq hi);refine⟨⟨hn1,by omega⟩,fun z=> ?_⟩;have z:(nJ ((eN h l).getD i fp)).inn.tm≠-1:=of_decide_eq_false z;have fc:=tU a3 z;have hA:=(iV (fc _ hl0).2.1).2.1;have hB:=(iV (fc _ (aq (x:=ew) (show((eN h l).getD i fp).legs.length - 1<((eN h l).getD i fp).legs.length by omega))).2.2).2.1;exact⟨hdR,hdE,hgk,a3,z,⟨k.hou.2,htE,by rw[v3];exact HT hfE v2,hTm,hA,hB⟩⟩
noncomputable def Ez (h:ed)(l:List bx):List lP:=yT (cZ (eo h (fx h.flt.veh) (aZ h l).his (aZ h l).paid (ca (aZ h l).his.has)))
set_option maxHeartbeats 8000000 in
theorem Rb (h:ed)(l:List bx)(k:uk h l)(hds:AZ h.dea):
 ai Tryz.prog 7 [hou h,.d (ga l)] [(1000009,KX)] (fun y r=>y= .tup [.d (dD 2 gv fw (Ez h l)),.d (.int .i64 0)]∧r= [(1000009,KX)]):=by
 have c1:=N4 h l k;have hZ:fq (2*l.length) l.length (aZ h l):=ol h _ _ l l.length (Nat.le_refl _);have hat:=fun i hi=>Cp k hds (i:=i) hi
 have hso:∀s,(aZ h l).his.has s=true→(aZ h l).his.val s≠none:=fun s q=>by
  obtain⟨g,h1,_⟩:=hZ.his s q;rw[h1];exact fun e=>by cases e
 have hf:=kO hZ.fh k.len
 have hgs:∀s,(aZ h l).his.has s=true→(1≤(dm (aZ h l).his s).legs.length∧(dm (aZ h l).his s).legs.length≤2^40)∧(ix (dm (aZ h l).his s)=false→Ej h (fx h.flt.veh) (dm (aZ h l).his s)):=fun s q=>by
  have hm:s ∈ ca (aZ h l).his.has:=by
   obtain⟨L,_,hL⟩:=hf;exact((ja hL).2.2 s).2 q
  have hm2:dm (aZ h l).his s ∈ eN h l:=List.mem_map.2 ⟨s,hm,rfl⟩;obtain⟨i,hi,e⟩:=List.getElem_of_mem hm2;have:=hat i hi;rw[List.getD_eq_getElem?_getD,List.getElem?_eq_getElem hi]at this;rw[←e];exact this
 have c2:=QY h (fx h.flt.veh) (aZ h l).his (aZ h l).paid hf hso hgs hZ.paid;unfold Ez;generalize aZ h l=Z at c1 c2 ⊢;generalize di iC Z.log=lg at c1 ⊢;generalize fx h.flt.veh=vm at c1 c2 ⊢;generalize nr h.flt.sta=sm at c1 ⊢;generalize yT (cZ (eo h vm Z.his Z.paid (ca Z.his.has)))=R at c2 ⊢;refine af hT (C:= []) Tryz.func7 rfl Tryz.call7 rfl rfl rfl ?_;conv=>whnf
 repeat' (first|((first|(refine cj c1 AK ?_;rintro y rout ⟨rfl,rfl⟩;refine⟨rfl,?_⟩)|(refine fz.of c2 Br rfl ⟨lr,trivial⟩ ⟨ft ⟨lr,lr,lr,lr,lr,lr,lr,lr,lr,lr,lr,lr,lr,lr,lr,lr,lr,aI _,aI _,aI _,aI _,aI _,lr,lr,aI _,trivial⟩,rr,rr,rr,trivial⟩ rfl rfl ?_;rintro y rout ⟨rfl,rfl⟩;refine⟨rfl,?_⟩)|(refine aa ?_ ?_<;>intro hb<;>try simp only[az]at hb)|omega|refine aA ?_|decide|assumption)<;>conv=>whnf))
 all_goals try(exfalso;contradiction)
 refine .ret _ ?_;conv=>whnf
 exact⟨[(1000009,KX)],⟨rfl,rfl⟩,rr,trivial⟩
theorem DW (x:gR)(l:List gR):bX (x::l)=x.cents+bX l:=by unfold bX;simp
theorem dg (x:Int)(l:List Int):cf (x::l)=x+cf l:=rfl
theorem GJ:cf []=0:=rfl
def lK (s:List UInt8)(l:List lP):Int:=l.foldl (fun d p=>if p.acc=s then p.amt else d) 0
theorem D6 (s:List UInt8)(l:List lP)(p:lP):lK s (l++ [p])=if p.acc=s then p.amt else lK s l:=by
 unfold lK;rw[List.foldl_append];rfl
theorem yG {M:Mp Int}{s:List UInt8}{W:List lP}(h1:∀p ∈ W,p.amt=M.val p.acc)(h2:M.val s≠0→∃p ∈ W,p.acc=s):lK s W=M.val s:=by
 have key:∀ (W:List lP) (d:Int),(∀p ∈ W,p.amt=M.val p.acc)→W.foldl (fun d p=>if p.acc=s then p.amt else d) d=M.val s∨(W.foldl (fun d p=>if p.acc=s then p.amt else d) d=d∧∀p ∈ W,p.acc≠s):=by
  intro W
  induction W with
  |nil=>intro d _;exact .inr ⟨rfl,fun p hp=>by cases hp⟩
  | cons p W ih=>
    intro d h;rw[List.foldl_cons];rcases ih (if p.acc=s then p.amt else d) (fun q hq=>h q (List.mem_cons_of_mem _ hq))with q|⟨q1,q2⟩
    · exact .inl q
    · by_cases c:p.acc=s
      · rw[if_pos c]at q1 ⊢;exact .inl (by rw[q1,h p List.mem_cons_self,c])
      · rw[if_neg c]at q1 ⊢
        exact .inr ⟨q1,fun x hx=>by
         rcases List.mem_cons.1 hx with r|r
         · rw[r];exact c
         · exact q2 x r⟩
 rcases key W 0 h1 with q|⟨q1,q2⟩
 · exact q
 · by_cases c:M.val s=0
   · rw[c];exact q1
   · obtain⟨p,hp,e⟩:=h2 c;exact absurd e (q2 p hp)
theorem gk (p:EQ)(o:List EQ)(k:List UInt8):(cZ (p::o)).val k=(if p.1=k then p.2 else 0)+(cZ o).val k:=by
 show cf (((p::o).filter fun p=>decide (p.1=k)).map (·.2))=_+cf ((o.filter fun p=>decide (p.1=k)).map (·.2))
 by_cases c:p.1=k
 · rw[List.filter_cons_of_pos (by simpa using c),if_pos c,List.map_cons,dg]
 · rw[List.filter_cons_of_neg (by simpa using c),if_neg c,Int.zero_add]
theorem rM (a b:List EQ)(k:List UInt8):(cZ (a++b)).val k=(cZ a).val k+(cZ b).val k:=by
 show cf (((a++b).filter fun p=>decide (p.1=k)).map (·.2))=cf ((a.filter fun p=>decide (p.1=k)).map (·.2))+cf ((b.filter fun p=>decide (p.1=k)).map (·.2));rw[List.filter_append,List.map_append,l8]
theorem xd (k:List UInt8):(cZ []).val k=0:=rfl
theorem Cx {a:List UInt8}{c:Int}(f:List UInt8→Int):∀ (K:List (List UInt8)),K.Nodup→cf (K.map fun k=>(if a=k then c else 0)+f k)=(if a ∈ K then c else 0)+cf (K.map f)
 | [],_=>by simp[cf]
 | x ::K,h=>by
   have ih:=Cx (a:=a) (c:=c) f K (List.nodup_cons.1 h).2;have hx:=(List.nodup_cons.1 h).1;rw[List.map_cons,List.map_cons,dg,dg,ih]
   by_cases q:a=x
   · subst q;rw[if_pos rfl,if_neg hx,if_pos List.mem_cons_self];omega
   · rw[if_neg q]
     by_cases r:a ∈ K
     · rw[if_pos r,if_pos (List.mem_cons_of_mem _ r)];omega
     · rw[if_neg r,if_neg (fun z=>by rcases List.mem_cons.1 z with z|z;exact q z;exact r z)];omega
theorem vw {K:List (List UInt8)}(hK:K.Nodup):∀ (o:List EQ),(∀p ∈ o,p.1 ∈ K)→cf (K.map fun k=>(cZ o).val k)=cf (o.map (·.2))
 | [],_=>by
   have:∀K:List (List UInt8),cf (K.map fun k=>(cZ []).val k)=0:=by
    intro K
    induction K with
    |nil=>rfl
    |cons x K ih=>rw[List.map_cons,dg,ih];rfl
   rw[this];rfl
 | p::o,h=>by
   have ih:=vw hK o (fun q hq=>h q (List.mem_cons_of_mem _ hq));have e:(K.map fun k=>(cZ (p::o)).val k)=K.map fun k=>(if p.1=k then p.2 else 0)+(cZ o).val k:=List.map_congr_left fun k _=>gk p o k
   rw[e,Cx _ K hK,if_pos (h p List.mem_cons_self),ih,List.map_cons,dg]
theorem tM (M:Mp Int):∀ (K:List (List UInt8)),cf ((nE M K).map (·.amt))=cf (K.map M.val)
 | []=>rfl
 | x::K=>by
   have ih:=tM M K;unfold nE at ih ⊢
   by_cases c:M.val x=0
   · rw[List.filter_cons_of_neg (by simp[c]),ih,List.map_cons,dg,c,Int.zero_add]
   · rw[List.filter_cons_of_pos (by simp[c]),List.map_cons,List.map_cons,List.map_cons,dg,dg,ih]
theorem HF (n:Nat):G5.getD n []≠ef∧G5.getD n []≠dr:=by
 have:∀x ∈ G5,x≠ef∧x≠dr:=by decide
 rcases Nat.lt_or_ge n G5.length with h|h
 · exact this _ (aq h)
 · rw[List.getD_eq_getElem?_getD,List.getElem?_eq_none h];decide
theorem vD:∀ (W:List gR),(cZ (W.flatMap zX)).val ef=bX W∧(cZ (W.flatMap zX)).val dr=0∧cf ((W.flatMap zX).map (·.2))=0
 | []=>⟨rfl,rfl,rfl⟩
 | x::W=>by
   obtain⟨h1,h2,h3⟩:=vD W;obtain⟨k1,k2⟩:=HF x.kind.toNat;have e:(x::W).flatMap zX=(ef,x.cents)::(G5.getD x.kind.toNat [],-x.cents)::W.flatMap zX:=rfl;rw[e];refine⟨?_,?_,?_⟩
   · rw[gk,gk,h1,if_pos rfl,if_neg k1];rw[DW];omega
   · rw[gk,gk,h2,if_neg (show ¬ef=dr by decide),if_neg k2];rfl
   · rw[List.map_cons,List.map_cons,dg,dg,h3];omega
theorem E8 (h:ed)(vm:Mp (List UInt8))(pd:Mp Int)(k:List UInt8)(g:cy):(cZ (pM h vm pd k g)).val ef= -pd.val k+(if ix g=true then 0 else bX (jW h vm g))∧(cZ (pM h vm pd k g)).val dr=pd.val k∧cf ((pM h vm pd k g).map (·.2))=0:=by
 obtain⟨h1,h2,h3⟩:=vD (jW h vm g)
 have a1:(cZ [(dr,pd.val k),(ef,-pd.val k)]).val ef= -pd.val k:=by
  rw[gk,gk,xd,if_neg (show ¬dr=ef by decide),if_pos rfl];omega
 have a2:(cZ [(dr,pd.val k),(ef,-pd.val k)]).val dr=pd.val k:=by
  rw[gk,gk,xd,if_pos rfl,if_neg (show ¬ef=dr by decide)];omega
 have a3:cf ([(dr,pd.val k),(ef,-pd.val k)].map (·.2))=0:=by
  show pd.val k+(-pd.val k+0)=0;omega
 unfold pM;rw[rM,rM,List.map_append,l8,a1,a2,a3]
 by_cases c:ix g=true
 · rw[if_pos c,if_pos c];refine⟨rfl,?_,rfl⟩;rw[xd];omega
 · rw[if_neg c,if_neg c,h1,h2,h3];exact⟨rfl,by omega,rfl⟩
theorem Cl (h:ed)(vm:Mp (List UInt8))(his:Mp (Option cy))(pd:Mp Int):∀ (ks:List (List UInt8)),(cZ (eo h vm his pd ks)).val ef=cf (ks.map fun k=> -pd.val k+(if ix (dm his k)=true then 0 else bX (jW h vm (dm his k))))∧(cZ (eo h vm his pd ks)).val dr=cf (ks.map pd.val)∧cf ((eo h vm his pd ks).map (·.2))=0
 | []=>⟨rfl,rfl,rfl⟩
 | k::ks=>by
   obtain⟨h1,h2,h3⟩:=Cl h vm his pd ks;obtain⟨g1,g2,g3⟩:=E8 h vm pd k (dm his k);have e:eo h vm his pd (k::ks)=pM h vm pd k (dm his k)++eo h vm his pd ks:=rfl;rw[e,rM,rM,List.map_append,l8,h1,h2,h3,g1,g2,g3,List.map_cons,List.map_cons,dg,dg];exact⟨rfl,rfl,rfl⟩
def yn (h:ed)(vm:Mp (List UInt8))(pd:Mp Int)(g:cy):Int:=if ix g=true then 0 else bX (jW h vm g) - pd.val g.key
def BE (h:ed)(vm:Mp (List UInt8))(g:cy):Int:=if ix g=true then 0 else bX (jW h vm g)
theorem Dc (h:ed)(vm:Mp (List UInt8))(his:Mp (Option cy))(pd:Mp Int)(hp:∀k,0≤pd.val k):∀ (ks:List (List UInt8)),(∀k ∈ ks,(dm his k).key=k)→
 cf (ks.map fun k=> -pd.val k+(if ix (dm his k)=true then 0 else bX (jW h vm (dm his k))))=cf ((ks.map (dm his)).map (BE h vm)) - cf (ks.map pd.val)∧
 cf (ks.map fun k=> -pd.val k+(if ix (dm his k)=true then 0 else bX (jW h vm (dm his k))))≤cf ((ks.map (dm his)).map (yn h vm pd))
 | [],_=>⟨rfl,Int.le_refl _⟩
 | k::ks,hk=>by
   obtain⟨h1,h2⟩:=Dc h vm his pd hp ks (fun x hx=>hk x (List.mem_cons_of_mem _ hx));have hkk:=hk k List.mem_cons_self;have hpk:=hp k;simp only[List.map_cons,dg];unfold BE yn at*;rw[hkk]
   by_cases c:ix (dm his k)=true
   · simp only[if_pos c];exact⟨by omega,by omega⟩
   · simp only[if_neg c];exact⟨by omega,by omega⟩
theorem I4 (h:ed)(vm:Mp (List UInt8))(his:Mp (Option cy))(pd:Mp Int)(hp:∀k,0≤pd.val k){ks:List (List UInt8)}(hkey:∀k ∈ ks,(dm his k).key=k){W:List lP}(hW:W=yT (cZ (eo h vm his pd ks))):
 cf (W.map (·.amt))=0∧lK ef W=cf ((ks.map (dm his)).map (BE h vm)) - lK dr W∧lK ef W≤cf ((ks.map (dm his)).map (yn h vm pd))∧W.Pairwise (fun a b=>sH a b≤0):=by
 have h1:∀k,(cZ (eo h vm his pd ks)).has k=true→k ∈ yz:=fun k hk=>r8 hk
 obtain⟨n1,n2,n3⟩:=ja h1;obtain⟨v1,v2,v3⟩:=Cl h vm his pd ks;obtain⟨o1,o2⟩:=Dc h vm his pd hp ks hkey;have hin:∀p ∈ eo h vm his pd ks,p.1 ∈ ca (cZ (eo h vm his pd ks)).has:=fun p hm=>(n3 p.1).2 (List.any_eq_true.2 ⟨p,hm,by simp⟩)
 have hg:=vw n1 (eo h vm his pd ks) hin;have hperm:W.Perm (nE (cZ (eo h vm his pd ks)) (ca (cZ (eo h vm his pd ks)).has)):=by rw[hW];exact dH _ _
 have hamt:∀p ∈ W,p.amt=(cZ (eo h vm his pd ks)).val p.acc:=fun p hm=>by
  obtain⟨k,_,rfl⟩:=List.mem_map.1 (hperm.mem_iff.1 hm);rfl
 have hfind:∀s,(cZ (eo h vm his pd ks)).val s≠0→∃p ∈ W,p.acc=s:=fun s hs=>by
  have hk:(cZ (eo h vm his pd ks)).has s=true:=by
   rw[←Bool.not_eq_false];intro hf;refine hs ?_;show cf (((eo h vm his pd ks).filter fun p=>decide (p.1=s)).map (·.2))=0
   rw[List.filter_eq_nil_iff.2 (fun p hm=>by
    have:=List.any_eq_false.1 hf p hm
    simpa using this)]
   rfl
  exact⟨⟨s,_⟩,hperm.mem_iff.2 (List.mem_map.2 ⟨s,List.mem_filter.2 ⟨(n3 s).2 hk,by simp[hs]⟩,rfl⟩),rfl⟩
 have hd:=yG hamt (hfind ef);have hc:=yG hamt (hfind dr);refine⟨?_,?_,?_,?_⟩
 · rw[vc (hperm.map _),tM,hg,v3]
 · rw[hd,hc,v1,v2,o1]
 · rw[hd,v1];exact o2
 · rw[hW];exact jS oE _
def yb:OL:= [(0,[]),(1,[0]),(4,[0,1]),(5,[0,1]),(6,[0,1]),(7,[0,1]),(8,[0,1,4,5,6,7]),(9,[0,1]),(2,[4,5,6,7,8,9]),(3,[4,5,6,7,8,9]),(10,[]),(11,[]),(12,[])]
def qk:OL:= [(0,[]),(1,[0]),(2,[0,1]),(3,[0]),(4,[0]),(5,rg 5),(6,rg 6),(7,rg 6),(8,rg 5),(9,rg 5),(10,[]),(11,[])]
set_option maxHeartbeats 8000000 in
theorem O7 (h:ed)(l:List bx)(k:uk h l)(g:cy)(hh:(aZ h l).his.has g.key=true)(hg:(aZ h l).his.val g.key=some g)(h1:1≤g.legs.length)(hl:g.legs.length≤2^40)(hb:ix g=false→Ej h (fx h.flt.veh) g):
 ai Tryz.prog 9 [hou h,.d (ga l),.d (.str g.key)] [(1000009,KX)] (fun y r=>y= .tup [.d (.int .i64 (yn h (fx h.flt.veh) (aZ h l).paid g)),.d (.int .i64 (if ix g=true then 11 else 0))]∧r= [(1000009,KX)]):=by
 have c1:=N4 h l k;have hZ:fq (2*l.length) l.length (aZ h l):=ol h _ _ l l.length (Nat.le_refl _);have hp:=hZ.paid g.key;have c2:=QP h (fx h.flt.veh) (aZ h l).his (pC (aZ h l).paid) g.key g hg hh h1 hl;have c3:=fun z=>PR h (fx h.flt.veh) (AG (aZ h l).his) (pC (aZ h l).paid) g (hb z)
 have hE:=gP.1 (sM h (fx h.flt.veh) g);unfold yn;generalize aZ h l=Z at c1 c2 c3 hp ⊢;generalize di iC Z.log=lg at c1;generalize fx h.flt.veh=vm at c1 c2 c3 hE ⊢;generalize nr h.flt.sta=sm at c1;generalize jW h vm g=W at c3 hE ⊢;have c4:=Mo 1000000000 (by decide) W hE.1 (fun x hx=>(hE.2 x hx).2.2);have hs:=rS (M:=1000000000) (l:=W) (fun x hx=>(hE.2 x hx).2.2);have hWl:=hE.1;have hIn:aF (bX W - Z.paid.val g.key):=by unfold aF;omega
 cases ho:ix g with
 | true=>
   rw[ho,if_pos rfl]at c2;rw[if_pos rfl,if_pos rfl];refine af hT (C:= []) Tryz.func9 rfl Tryz.call9 rfl rfl rfl ?_;conv=>whnf
   repeat' (first|((first|(refine cj c1 AK ?_;rintro y rout ⟨rfl,rfl⟩;refine⟨rfl,?_⟩)|(refine fz.of c2 Br rfl ⟨lr,lr,trivial⟩ ⟨ft ⟨lr,lr,lr,lr,lr,lr,lr,lr,lr,lr,lr,lr,lr,lr,lr,lr,lr,aI _,aI _,aI _,aI _,aI _,lr,lr,aI _,trivial⟩,rr,rr,rr,trivial⟩ rfl rfl ?_;rintro y rout ⟨rfl,rfl⟩;refine⟨rfl,?_⟩)|(refine aa ?_ ?_<;>intro hb<;>try simp only[az]at hb)|refine aw hT 7 yb ?_|omega|refine aA ?_|decide|assumption)<;>conv=>whnf))
   all_goals try(exfalso;contradiction)
   refine .ret _ ?_;conv=>whnf
   exact⟨_,⟨rfl,rfl⟩,rr,trivial⟩
 | false=>
   have c3:=c3 ho;rw[ho,if_neg (by simp)]at c2;rw[if_neg (by simp),if_neg (by simp)];refine af hT (C:= []) Tryz.func9 rfl Tryz.call9 rfl rfl rfl ?_;conv=>whnf
   repeat' (first|((first|(refine cj c1 AK ?_;rintro y rout ⟨rfl,rfl⟩;refine⟨rfl,?_⟩)|(refine fz.of c2 Br rfl ⟨lr,lr,trivial⟩ ⟨ft ⟨lr,lr,lr,lr,lr,lr,lr,lr,lr,lr,lr,lr,lr,lr,lr,lr,lr,aI _,aI _,aI _,aI _,aI _,lr,lr,aI _,trivial⟩,rr,rr,rr,trivial⟩ rfl rfl ?_;rintro y rout ⟨rfl,rfl⟩;refine⟨rfl,?_⟩)|refine fz.look c3 Br rfl ⟨lr,lr,trivial⟩ ⟨⟨_,rfl,rfl⟩,⟨_,rfl,rfl⟩,⟨_,rfl,rfl⟩,⟨_,rfl,rfl⟩,trivial⟩ rfl rfl rfl ?_)<;>conv=>whnf)|(refine ac (c4) rfl rfl ?_;rotate_right;conv=>whnf)|((first|refine And.intro (rfl:aK _=some [.int .i64 0]) ?_|refine And.intro hIn ?_|(refine aa ?_ ?_<;>intro hb<;>try simp only[az]at hb)|refine aw hT 7 yb ?_|omega|refine aA ?_|decide|assumption)<;>conv=>whnf))
   all_goals try(exfalso;contradiction)
   refine .ret _ ?_;conv=>whnf
   exact⟨_,⟨rfl,rfl⟩,rr,trivial⟩
theorem Pl (a b:lP):ai Tryz.prog 13 [.agg ((gv a).map .d),.agg ((gv b).map .d)] [] (fun x r=>x= .d (.int .i64 (sH a b))∧r= []):=by
 have c1:=Me a.acc b.acc;refine af hT (C:= []) Tryz.func13 rfl Tryz.call13 rfl rfl rfl ?_;conv=>whnf
 repeat' (first|(refine ac (c1) rfl rfl ?_;rotate_right;conv=>whnf)|((first|(refine aa ?_ ?_<;>intro hb<;>try simp only[az]at hb)|omega|refine aA ?_|decide|assumption)<;>conv=>whnf))
 refine .ret _ ?_;conv=>whnf
 refine⟨[],⟨?_,rfl⟩,trivial⟩;conv=>lhs;whnf
 rfl
theorem Qg (l:List lP)(hl:l.length≤2^40)(hs:l.Pairwise (fun a b=>sH a b≤0)):ai Tryz.prog 12 [.d (dD 2 gv fw l),.fn 13 []] [] (fun x r=>x= .d (.bool true)∧r= []):=by
 refine af hT (C:= []) Tryz.func12 rfl Tryz.call12 rfl rfl rfl ?_;conv=>whnf
 repeat' (first|((first|(refine aa ?_ ?_<;>intro hb<;>try simp only[az]at hb)|refine aw hT 4 qk ?_|omega|refine aA ?_|decide|assumption)<;>conv=>whnf))
 refine ah hT (C:= []) (ι:=Int) (fun j=> -1≤j∧j<l.length) (fun j=>aN [(0,.d (dD 2 gv fw l)),(1,.fn 13 []),(5,.d (.int .i64 j))] []) (fun j=>(j+1).toNat) ((l.length:Int) - 1) (by omega) (by exact bz []) ?_;rintro j ⟨p1,p2⟩;rcases Int.lt_or_le 0 j with h|h
 · have c:=Pl (l.getD j.toNat fw) (l.getD (j - 1).toNat fw)
   have hle:0≤sH (l.getD j.toNat fw) (l.getD (j - 1).toNat fw):=by
    have:=List.pairwise_iff_getElem.1 hs (j - 1).toNat j.toNat (by omega) (by omega) (by omega);rw[List.getD_eq_getElem?_getD,List.getD_eq_getElem?_getD,List.getElem?_eq_getElem (by omega),List.getElem?_eq_getElem (by omega)];have e:=oE.sw (l[j.toNat]'(by omega)) (l[(j - 1).toNat]'(by omega));show 0≤sH (l[j.toNat]'(by omega)) (l[(j - 1).toNat]'(by omega));omega
   conv=>whnf
   repeat' (first|(refine ac (c) rfl rfl ?_;rotate_right;conv=>whnf)|((first|(refine aa ?_ ?_<;>intro hb<;>try simp only[az]at hb)|refine aw hT 4 qk ?_|omega|refine aA ?_|decide|assumption)<;>conv=>whnf))
   all_goals try(exfalso;omega)
   exact⟨j - 1,by omega,by omega,(by exact bz [])⟩
 · conv=>whnf
   repeat' (first|((first|(refine aa ?_ ?_<;>intro hb<;>try simp only[az]at hb)|refine aw hT 4 qk ?_|omega|refine aA ?_|decide|assumption)<;>conv=>whnf))
   all_goals try(exfalso;omega)
   refine .ret _ ?_;conv=>whnf
   refine⟨[],⟨?_,rfl⟩,trivial⟩;conv=>lhs;whnf
set_option maxHeartbeats 4000000 in
theorem MN (n:Nat)(L:Nat→Int)(hL:sB n L)(a:Int)(h0:0≤a)(ha:a≤2^35)(m:Int)(hm1:0≤m)(hm2:m≤20):
 ai Tryz.prog 5 [.ptr 1000000 0,.d (.int .i64 m)] [(1000000,bj n L a),(1000009,KX)] (fun y r=>∃l:List bx,∃b,(dW Gz m.toNat l∧jx l=0)∧(a≤b∧b≤a+5000)∧y= .d (ga l)∧r= [(1000000,bj n L b),(1000009,KX)]):=by
 refine af hT (C:= []) Tryz.func5 rfl Tryz.call5 rfl rfl rfl ?_;conv=>whnf
 refine ah hT (C:= []) (ι:=Int×Nat) (fun(b,k)=>(a≤b∧b≤a+1000*k)∧k≤5)
  (fun(b,k)=>aN [(0,.ptr 1000000 0),(1,.d (.int .i64 m)),(6,.d (.int .i64 k))] [(1000000,bj n L b),(1000009,KX)]) (fun(_,k)=>5 - k) (a,0) ⟨⟨by simp,by simp⟩,by simp⟩ (by exact bz [(1000000,1000000),(1000009,1000009)]) ?_
 rintro⟨b,k⟩ ⟨⟨p1,p2⟩,p3⟩;have p1:a≤b:=p1;have p2:b≤a+1000*k:=p2;have p3:k≤5:=p3;conv=>whnf
 repeat' (first|((first|(refine cj (Q0 n L hL b (by omega) (by omega) m hm1 hm2) [(1000000,1000000),(1000009,1000009),(5,10)] ?_;rintro x rout ⟨l,c,hl,⟨c1,c2⟩,rfl,rfl⟩;refine⟨rfl,?_⟩)|(refine fz.freeze _ _ _ _ 10 129 4 _ _ rfl rfl ?_;refine rZ (Ou l (CT hl (by omega))) ?_)|(refine aa ?_ ?_<;>intro hb<;>try simp only[az]at hb)|omega|refine aA ?_|decide|assumption)<;>conv=>whnf))
 · refine .ret _ ?_;conv=>whnf
   exact⟨[(1000000,bj n L c),(1000009,KX)],⟨l,c,⟨hl,hb⟩,⟨by omega,by omega⟩,rfl,rfl⟩,rr,rr,trivial⟩
 · exact⟨(c,k+1),⟨⟨by show a≤c;omega,by show c≤a+1000*((k+1:Nat):Int);omega⟩,by show k+1≤5;omega⟩,by show 5 - (k+1)<5 - k;omega,(by exact bz [(1000000,1000000),(1000009,1000009)])⟩
 · refine .weak _ ?_;conv=>whnf
   exact⟨_,[(1000000,bj n L b),(1000009,KX)],aW,⟨[],b,⟨⟨by simp,by simp⟩,rfl⟩,⟨by omega,by omega⟩,rfl,rfl⟩,rr,rr,trivial⟩
structure JY (h:ed):Prop where
 flt:Nf h.flt
 tar:H5 h.tar
theorem JY.ok {h:ed}(k:JY h):GD h:=⟨k.flt.ok,k.tar.ok⟩
def Gb:List xC:= [⟨[115,49],fun _=>0⟩,⟨[115,50],fun _=>0⟩]
def HO:List (List UInt8):= [[118,49],[118,50],[118,51]]
def nP:OL:= [(0,[]),(1,[]),(2,[0,1]),(3,[0,1,2]),(4,[0,1]),(5,[]),(6,[])]
def yo:OL:= [(0,[]),(1,[]),(2,[0,1]),(3,[0,1,2]),(4,rg 4),(5,[0,1,2]),(6,[0,1]),(7,[0,1]),(8,[]),(9,[]),(10,[])]
def yj:OL:= [(0,[]),(1,[0]),(3,[0,1]),(2,[0,3]),(4,[0]),(5,[]),(6,[])]
theorem m5 {α:Type}{m:List α}{x d:α}{j:Nat}(h:j<m.length):(m++ [x]).getD j d=m.getD j d:=by
 rw[List.getD_eq_getElem?_getD,List.getElem?_append_left h,List.getD_eq_getElem?_getD]
theorem mK {α:Type}{m:List α}{x d:α}:(m++ [x]).getD m.length d=x:=by
 rw[List.getD_eq_getElem?_getD,List.getElem?_append_right (Nat.le_refl _),Nat.sub_self];rfl
structure pO (i:Nat)(f:Int)(m:List iy):Prop where
 ok:∀j,j<m.length→lI m j=0
 la:m.length=0∨∃k,k≤i∧k<3∧(m.getD (m.length - 1) bN).cls=c3.getD k []∧(k=i→(m.getD (m.length - 1) bN).to≤f)
theorem Lr:∀i,i<3→aG (c3.getD i [])=true:=by decide+kernel
theorem HL:∀i,i<3→∀k,k<3→k<i→Op.bytesLess (c3.getD i []) (c3.getD k [])=false∧c3.getD k []≠c3.getD i []:=by decide+kernel
theorem Ks:∀i,i<3→Op.bytesLess (c3.getD i []) (c3.getD i [])=false:=by decide+kernel
theorem H4 {i j:Nat}{f g:Int}{m:List iy}(h:pO i f m)(hij:i<j):pO j g m:=⟨h.ok,by
 rcases h.la with h|⟨k,h1,h2,h3,h4⟩
 · exact .inl h
 · exact .inr ⟨k,by omega,h2,h3,fun e=>by omega⟩⟩
theorem CM {i:Nat}{f g:Int}{m:List iy}(h:pO i f m)(hfg:f≤g):pO i g m:=⟨h.ok,by
 rcases h.la with h|⟨k,h1,h2,h3,h4⟩
 · exact .inl h
 · exact .inr ⟨k,h1,h2,h3,fun e=>by have:=h4 e;omega⟩⟩
theorem Dt {i :Nat}{f:Int}{m:List iy}(h:pO i f m)(hi:i<3){x:iy}(h1:x.cls=c3.getD i [])(h2:x.frm=f)(h3:0≤f)(h4:f<x.to)(h5:x.to≤4001)(h6:nums x){g:Int}(hg:x.to≤g):pO i g (m++ [x]):=by
 refine⟨fun j hj=> ?_,.inr ⟨i,Nat.le_refl _,hi,?_,fun _=> ?_⟩⟩
 · rw [List.length_append,List.length_singleton]at hj;rcases Nat.lt_or_ge j m.length with q|q
   · have:=h.ok j q;unfold lI at this ⊢;rw[m5 q,m5 (show j - 1<m.length by omega)];exact this
   · have hjm:j=m.length:=by omega
     subst hjm;unfold lI;rw[mK]
     dsimp only
     rw[h1,Lr i hi,if_neg (by simp),if_neg (fun c=>c ⟨by omega,by omega,h5,h6⟩)];rcases h.la with q0|⟨k,k1,k2,k3,k4⟩
     · rw[if_neg (fun c=>by omega),if_neg (fun c=>by omega)]
     · rcases Nat.eq_zero_or_pos m.length with q0|q0
       · rw[if_neg (fun c=>by omega),if_neg (fun c=>by omega)]
       rw[m5 (show m.length - 1<m.length by omega),k3];have hq:=h.ok (m.length - 1) (by omega)
       have hft:(m.getD (m.length - 1) bN).frm<(m.getD (m.length - 1) bN).to:=by
        unfold lI at hq
        dsimp only at hq
        by_cases c:0≤(m.getD (m.length - 1) bN).frm∧(m.getD (m.length - 1) bN).frm<(m.getD (m.length - 1) bN).to∧(m.getD (m.length - 1) bN).to≤4001∧nums (m.getD (m.length - 1) bN)
        · exact c.2.1
        · exfalso;split at hq
          · exact absurd hq (by decide)
          · first
            |exact absurd hq (by decide)
            |(rw[if_pos c]at hq;exact absurd hq (by decide))
       rcases Nat.lt_or_ge k i with r|r
       · obtain⟨u1,u2⟩:=HL i hi k k2 r;rw[if_neg (fun c=>by rcases c.2 with d|d;(rw[u1]at d;cases d);exact u2 d.1),if_neg (fun c=>u2 c.2.1)]
       · have hki:k=i:=by omega
         subst hki;have:=k4 rfl;rw[if_neg (fun c=>by rcases c.2 with d|d;(rw[Ks k hi]at d;cases d);(have:=d.2;omega)),if_neg (fun c=>by have:=c.2.2;omega)]
 · rw[List.length_append,List.length_singleton,Nat.add_sub_cancel,mK];exact h1
 · rw[List.length_append,List.length_singleton,Nat.add_sub_cancel,mK];exact hg
set_option maxHeartbeats 4000000 in
theorem LK (n:Nat)(L:Nat→Int)(hL:sB n L)(a:Int)(h0:0≤a)(ha:a≤2^36):
 ai Tryz.prog 37 [.ptr 1000000 0] [(1000000,bj n L a)] (fun y r=>∃l:List iy,∃b,(dW rz 9 l∧fH l=0)∧(a≤b∧b≤a+100)∧y= .buf 3∧r= [(3,aM 189 7 pe bN l),(1000000,bj n L b)]):=by
 refine af hT (C:= []) Tryz.func37 rfl Tryz.call37 rfl rfl rfl ?_;conv=>whnf
 refine ah hT (C:= []) (ι:=Int×List iy×Nat) (fun(b,l,i)=>(a≤b∧b≤a+30*i∧i≤3)∧dW rz (3*i) l∧(i=0∧l= []∨1≤i∧pO (i - 1) 6000 l))
  (fun(b,l,i)=>aN [(0,.ptr 1000000 0),(3,.buf 3),(8,.d (ir c3)),(9,.d (.int .i64 3)),(10,.d (.int .i64 i))] [(1000000,bj n L b),(3,aM 189 7 pe bN l)])
  (fun(_,_,i)=>3 - i) (a,[],0) ⟨⟨by simp,by simp,by simp⟩,⟨by simp,by simp⟩,.inl ⟨rfl,rfl⟩⟩ ?_ ?_
 · refine(dv.nil 3 3 189 7 (aV pe bN []) rfl rfl (by decide)).trans (ae [(1000000,1000000),(3,3)] rfl rfl ⟨lr,lr,aj rfl rfl,lr,lr,trivial⟩ ⟨rr,rr,trivial⟩)
 rintro⟨b,l,i⟩ ⟨⟨p1,p2,p3⟩,p4,p5⟩;have p5:i=0∧l= []∨1≤i∧pO (i - 1) 6000 l:=p5;have p1:a≤b:=p1;have p2:b≤a+30*i:=p2;have p3:i≤3:=p3;have e1:(i:Int).toNat=i:=Int.toNat_natCast i;have p4:dW rz (3*i) l:=p4;have hc3:c3.length=3:=rfl;have hl1:l.length≤3*i:=p4.1;rcases Nat.lt_or_ge i 3 with hi|hi
 · have p6:∀f,pO i f l:=fun f=>by
    rcases p5 with⟨e1,e2⟩|⟨e1,e2⟩
    · rw[e2];exact⟨fun j hj=>absurd hj (by simp),.inl rfl⟩
    · exact H4 e2 (by omega)
   conv=>whnf
   repeat' (first|(refine fz.of (jL n L hL _ ?_ ?_ [0,0,0,3] ?_ ?_) [(1000000,1000000)] rfl ⟨lr,aj rfl rfl,trivial⟩ ⟨rr,trivial⟩ rfl rfl ?_;rotate_right;rintro x rout ⟨⟨u1,hu1,rfl⟩,⟨c,c1,c2,rfl⟩⟩;have hw1:=Oa hu1 (by decide);refine⟨rfl,?_⟩;conv=>whnf)|(refine fz.of (jL n L hL _ ?_ ?_ [0,1,1,2,3] ?_ ?_) [(1000000,1000000)] rfl ⟨lr,aj rfl rfl,trivial⟩ ⟨rr,trivial⟩ rfl rfl ?_;rotate_right;rintro x rout ⟨⟨u2,hu2,rfl⟩,⟨c,c1,c2,rfl⟩⟩;refine⟨rfl,?_⟩;conv=>whnf)|((first|(refine aa ?_ ?_<;>intro hb<;>try simp only[az]at hb)|refine aw hT 12 nP ?_|omega|refine aA ?_|decide|assumption)<;>conv=>whnf))
   all_goals try(exfalso;omega)
   have hw2:0≤u2∧u2≤3:=by simp only[List.mem_cons,List.not_mem_nil,or_false]at hu2;omega
   have hw3:u1≤5000:=by omega
   have hkk:(c3.getD (i:Int).toNat []).length≤8:=bV (aq (by omega)) rfl;obtain⟨cc,hcc⟩:∃cc:Int,cc=c:=⟨_,rfl⟩;obtain⟨ky,hky⟩:∃ky,ky=c3.getD (i:Int).toNat []:=⟨_,rfl⟩
   refine ah hT (C:= []) (ι:=Int×List iy×Int×Nat) (fun(d,m,f,k)=>(cc≤d∧d≤cc+6*k∧(k:Int)≤u2)∧dW rz (3*i+k) m∧0≤f∧f≤5000∧pO i f m)
    (fun(d,m,f,k)=>aN [(0,.ptr 1000000 0),(3,.buf 3),(5,.d (.str ky)),(6,.d (.int .i64 f)),(8,.d (ir c3)),(9,.d (.int .i64 3)),(10,.d (.int .i64 i)),(19,.d (.int .i64 u2)),(20,.d (.int .i64 k))] [(1000000,bj n L d),(3,aM 189 7 pe bN m)])
    (fun(_,_,_,k)=>u2.toNat - k) (cc,l,u1,0) ⟨⟨by simp,by simp,by show((0:Nat):Int)≤u2;omega⟩,p4,by show 0≤u1;omega,by show u1≤5000;omega,p6 u1⟩ (by subst hcc hky;exact(by exact bz [(1000000,1000000),(3,3)])) ?_
   rintro⟨d,m,f,k⟩ ⟨⟨q1,q2,q3⟩,q4,q5,q6,q7⟩;have q7:pO i f m:=q7;have q1:cc≤d:=q1;have q2:d≤cc+6*k:=q2;have q3:(k:Int)≤u2:=q3;have q4:dW rz (3*i+k) m:=q4;have q5:0≤f:=q5;have q6:f≤5000:=q6;have hm1:m.length≤3*i+k:=q4.1;conv=>whnf
   repeat' (first|(refine fz.of (jL n L hL _ ?_ ?_ [1,5,20,4000] ?_ ?_) [(1000000,1000000)] rfl ⟨lr,aj rfl rfl,trivial⟩ ⟨rr,trivial⟩ rfl rfl ?_;rotate_right;rintro x rout ⟨⟨u3,hu3,rfl⟩,⟨c,c1,c2,rfl⟩⟩;have hw4:0≤u3∧u3≤4000:=(by simp only[List.mem_cons,List.not_mem_nil,or_false]at hu3;omega);refine⟨rfl,?_⟩;conv=>whnf)|(refine fz.of (jL n L hL _ ?_ ?_ [-1,5,10,10,0] ?_ ?_) [(1000000,1000000)] rfl ⟨lr,aj rfl rfl,trivial⟩ ⟨rr,trivial⟩ rfl rfl ?_;rotate_right;rintro x rout ⟨⟨u4,hu4,rfl⟩,⟨c,c1,c2,rfl⟩⟩;refine⟨rfl,?_⟩;conv=>whnf)|(refine fz.of (jL n L hL _ ?_ ?_ [-1,50,50,70,40] ?_ ?_) [(1000000,1000000)] rfl ⟨lr,aj rfl rfl,trivial⟩ ⟨rr,trivial⟩ rfl rfl ?_;rotate_right;rintro x rout ⟨⟨u5,hu5,rfl⟩,⟨c,c1,c2,rfl⟩⟩;refine⟨rfl,?_⟩;conv=>whnf)|(refine fz.of (jL n L hL _ ?_ ?_ [-1,70,90,100] ?_ ?_) [(1000000,1000000)] rfl ⟨lr,aj rfl rfl,trivial⟩ ⟨rr,trivial⟩ rfl rfl ?_;rotate_right;rintro x rout ⟨⟨u6,hu6,rfl⟩,⟨c,c1,c2,rfl⟩⟩;refine⟨rfl,?_⟩;conv=>whnf)|(refine fz.of (jL n L hL _ ?_ ?_ [-1,200,250,300] ?_ ?_) [(1000000,1000000)] rfl ⟨lr,aj rfl rfl,trivial⟩ ⟨rr,trivial⟩ rfl rfl ?_;rotate_right;rintro x rout ⟨⟨u7,hu7,rfl⟩,⟨c,c1,c2,rfl⟩⟩;refine⟨rfl,?_⟩;conv=>whnf)|(refine fz.of (jL n L hL _ ?_ ?_ [0,0,0,2] ?_ ?_) [(1000000,1000000)] rfl ⟨lr,aj rfl rfl,trivial⟩ ⟨rr,trivial⟩ rfl rfl ?_;rotate_right;rintro x rout ⟨⟨u8,hu8,rfl⟩,⟨c,c1,c2,rfl⟩⟩;have hw8:0≤u8∧u8≤2:=(by simp only[List.mem_cons,List.not_mem_nil,or_false]at hu8;omega);refine⟨rfl,?_⟩;conv=>whnf)|((first|(refine And.intro (by show aF (min (f+u3) 4001+u8);unfold aF;omega) ?_)|(refine aa ?_ ?_<;>intro hb<;>try simp only[az]at hb)|refine aw hT 12 nP ?_|omega|refine aA ?_|decide|assumption)<;>conv=>whnf))
   · exact⟨(c,m,i+1),⟨⟨by omega,by show _≤a+30*((i+1:Nat):Int);omega,by omega⟩,dJ q4 (by omega),.inr ⟨by omega,by show pO (i+1 - 1) 6000 m;rw[Nat.add_sub_cancel];exact CM q7 (by omega)⟩⟩,by show 3 - (i+1)<3 - i;omega,(by exact bz [(1000000,1000000),(3,3)])⟩
   · have hnm:nums ⟨ky,f,min (f+u3) 4001,u4,u5,u6,u7⟩:=by
      simp only[List.mem_cons,List.not_mem_nil,or_false]at hu4 hu5 hu6 hu7;refine⟨?_,?_,?_,?_⟩<;>unfold ru<;>dsimp only<;>omega
     exact⟨(_,m++ [⟨ky,f,min (f+u3) 4001,u4,u5,u6,u7⟩],min (f+u3) 4001+u8,k+1),⟨⟨by omega,by show _≤cc+6*((k+1:Nat):Int);omega,by show((k+1:Nat):Int)≤u2;omega⟩,fi q4 (by omega) (by show ky.length≤8;rw[hky];exact hkk),by show 0≤min (f+u3) 4001+u8;omega,by show min (f+u3) 4001+u8≤5000;omega,Dt (x:=⟨ky,f,min (f+u3) 4001,u4,u5,u6,u7⟩) q7 hi (by rw[hky,e1]) rfl q5 (by show f<min (f+u3) 4001;simp only[cond_false]at*;omega) (by show min (f+u3) 4001≤4001;omega) hnm (by show min (f+u3) 4001≤min (f+u3) 4001+u8;omega)⟩,by show u2.toNat - (k+1)<u2.toNat - k;omega,
      ae [(1000000,1000000),(3,54)] rfl rfl ⟨lr,lr,lr,lr,lr,lr,lr,lr,lr,trivial⟩ ⟨rr,aR rfl,trivial⟩⟩
   · exact⟨(d,m,i+1),⟨⟨by omega,by show _≤a+30*((i+1:Nat):Int);omega,by omega⟩,dJ q4 (by omega),.inr ⟨by omega,by show pO (i+1 - 1) 6000 m;rw[Nat.add_sub_cancel];exact CM q7 (by omega)⟩⟩,by show 3 - (i+1)<3 - i;omega,(by exact bz [(1000000,1000000),(3,3)])⟩
 · conv=>whnf
   repeat' (first|((first|(refine aa ?_ ?_<;>intro hb<;>try simp only[az]at hb)|refine aw hT 12 nP ?_|omega|refine aA ?_|decide|assumption)<;>conv=>whnf))
   all_goals try(exfalso;omega)
   have hle:fH l=0:=by
    unfold fH;rw[if_neg (by omega)];rcases p5 with⟨e1,e2⟩|⟨e1,e2⟩
    · omega
    · exact aC e2.ok
   refine .ret _ ?_;conv=>whnf
   exact⟨[(3,aM 189 7 pe bN l),(1000000,bj n L _)],⟨l,b,⟨dJ p4 (by omega),hle⟩,⟨by omega,by omega⟩,rfl,rfl⟩,rr,rr,trivial⟩
def rp (i:Nat)(l:List ip):Prop:=l.length=4∧∀j,j<4→(l.getD j cW).key=(ut.getD j cW).key∧((l.getD j cW).up= []∨j<i∧∃k,k<j∧(l.getD j cW).up=(ut.getD k cW).key)
theorem Gi {i:Nat}{l:List ip}(h:rp i l):∀x ∈ l,Lx x:=fun x hx=>by
 obtain⟨j,hj,rfl⟩:=bQ (d:=cW) hx;obtain⟨h1,h2⟩:=h.2 j (by have:=h.1;omega);have hk:∀k,k<4→(ut.getD k cW).key.length≤8:=by decide
 have hj4:j<4:=by have:=h.1;omega
 refine⟨by rw[h1];exact hk j hj4,?_⟩;rcases h2 with e|⟨_,k,hk1,e⟩
 · rw[e];simp
 · rw[e];exact hk k (by omega)
theorem LO {i:Nat}{l:List ip}(h:rp i l):gF l=0:=by
 obtain⟨h1,h2⟩:=h
 match l,h1 with
 | [a, b,c,d],_=>
   obtain⟨a1,a2⟩:=h2 0 (by omega);obtain⟨b1,b2⟩:=h2 1 (by omega);obtain⟨c1,c2⟩:=h2 2 (by omega);obtain⟨d1,d2⟩:=h2 3 (by omega);obtain⟨ak,au⟩:=a;obtain⟨bk,bu⟩:=b;obtain⟨ck,cu⟩:=c;obtain⟨dk,du⟩:=d;simp only[List.getD_cons_zero,List.getD_cons_succ]at a1 a2 b1 b2 c1 c2 d1 d2;have ha:au= []:=by rcases a2 with e|⟨_,k,hk,_⟩;exact e;omega
   have hb:bu= []∨bu=(ut.getD 0 cW).key:=by
    rcases b2 with e|⟨_,k,hk,e⟩
    · exact .inl e
    · have:k=0:=by omega
      subst this;exact .inr e
   have hc:cu= []∨cu=(ut.getD 0 cW).key∨cu=(ut.getD 1 cW).key:=by
    rcases c2 with e|⟨_,k,hk,e⟩
    · exact .inl e
    · rcases(show k=0∨k=1 by omega)with r|r<;>subst r
      · exact .inr (.inl e)
      · exact .inr (.inr e)
   have hd:du= []∨du=(ut.getD 0 cW).key∨du=(ut.getD 1 cW).key∨du=(ut.getD 2 cW).key:=by
    rcases d2 with e|⟨_,k,hk,e⟩
    · exact .inl e
    · rcases(show k=0∨k=1∨k=2 by omega)with r|r|r<;>subst r
      · exact .inr (.inl e)
      · exact .inr (.inr (.inl e))
      · exact .inr (.inr (.inr e))
   subst a1 b1 c1 d1 ha;rcases hb with e|e<;>subst e<;>rcases hc with e|e|e<;>subst e<;>rcases hd with e|e|e|e<;>subst e<;>decide+kernel
theorem E5 {i:Nat}{l:List ip}(h:rp i l)(hi:i<4){j:Nat}(hj:j<i):rp (i+1) (mi l i cW fun y=>{y with up:=(l.getD j cW).key}):=by
 refine⟨by unfold mi;rw[List.length_set];exact h.1,fun q hq=> ?_⟩;have hl:=h.1;unfold mi;rw[List.getD_eq_getElem?_getD,List.getElem?_set]
 by_cases e:i=q
 · subst e;rw[if_pos rfl,if_pos (by omega)];exact⟨(h.2 i hi).1,.inr ⟨by omega,j,hj,(h.2 j (by omega)).1⟩⟩
 · rw[if_neg e,←List.getD_eq_getElem?_getD];obtain⟨h1,h2⟩:=h.2 q hq;exact⟨h1,h2.imp id fun h3=>⟨by omega,h3.2⟩⟩
theorem vk {i:Nat}{l:List ip}(h:rp i l):rp (i+1) l:=⟨h.1,fun q hq=>⟨(h.2 q hq).1,(h.2 q hq).2.imp id fun h3=>⟨by omega,h3.2⟩⟩⟩
set_option maxHeartbeats 4000000 in
theorem MR (n:Nat)(L:Nat→Int)(hL:sB n L)(a:Int)(h0:0≤a)(ha:a≤2^38):
 ai Tryz.prog 16 [.ptr 1000000 0] [(1000000,bj n L a)] (fun y r=>∃l:List ip,∃b,rp 4 l∧(a≤b∧b≤a+8)∧y= .buf 9∧r= [(9,aM 131 2 As cW l),(1000000,bj n L b)]):=by
 refine af hT (C:= [9]) Tryz.func16 rfl Tryz.call16 rfl rfl rfl ?_;conv=>whnf
 refine ah hT (C:= []) (ι:=Int×List ip×Nat) (fun(b,l,i)=>(a≤b∧b≤a+2*i)∧i≤4∧rp i l)
  (fun(b,l,i)=>aN [(0,.ptr 1000000 0),(3,.buf 9),(11,.d (.int .i64 4)),(12,.d (.int .i64 i))] [(1000000,bj n L b),(9,aM 131 2 As cW l)])
  (fun(_,_,i)=>4 - i) (a,ut,0) ⟨⟨by simp,by simp⟩,by simp,rfl,by decide⟩ ?_ ?_
 · exact ae [(1000000,1000000),(9,9)] rfl rfl ⟨lr,lr,lr,lr,trivial⟩ ⟨rr,BK rfl rfl,trivial⟩
 rintro⟨b,l,i⟩ ⟨⟨p1,p2⟩,p3,p45⟩;have p45:rp i l:=p45;have p1:a≤b:=p1;have p2:b≤a+2*i:=p2;have p3:i≤4:=p3;have p4:l.length=4:=p45.1;have e1:(i:Int).toNat=i:=Int.toNat_natCast i;conv=>whnf
 repeat' (first|(refine fz.of (CD n L hL _ ?_ ?_ 3 ?_) [(1000000,1000000)] rfl ⟨lr,lr,trivial⟩ ⟨rr,trivial⟩ rfl rfl ?_;rotate_right;rintro x rout ⟨⟨w,rfl⟩,⟨c,c1,c2,rfl⟩⟩;refine⟨rfl,?_⟩;conv=>whnf)|(refine fz.of (EP n L hL _ ?_ ?_ _ ?_) [(1000000,1000000)] rfl ⟨lr,lr,trivial⟩ ⟨rr,trivial⟩ rfl rfl ?_;rotate_right;rintro x rout ⟨⟨j,hj1,hj2,hj3,rfl⟩,⟨c,c1,c2,rfl⟩⟩;refine⟨rfl,?_⟩;conv=>whnf)|((first|(refine aa ?_ ?_<;>intro hb<;>try simp only[az]at hb)|omega|refine aA ?_|decide|assumption)<;>conv=>whnf))
 · have p5:=Gi p45;have hu:Lx (l.getD j.toNat cW):=p5 _ (aq (by omega))
   refine⟨(c+1,mi l i cW (fun y=>{y with up:=(l.getD j.toNat cW).key}),i+1),⟨⟨by omega,by show _≤a+2*((i+1:Nat):Int);omega⟩,by omega,E5 p45 (by omega) (by omega)⟩,by show 4 - (i+1)<4 - i;omega,
    ae [(1000000,1000000),(9,9)] rfl rfl ⟨lr,lr,lr,lr,trivial⟩ ⟨rr,?_,trivial⟩⟩
   exact Bt (fun y:ip=>{y with up:=(l.getD j.toNat cW).key}) (fun _=>rfl)
 · exact⟨(c,l,i+1),⟨⟨by omega,by show _≤a+2*((i+1:Nat):Int);omega⟩,by omega,vk p45⟩,by show 4 - (i+1)<4 - i;omega,(by exact bz [(1000000,1000000),(9,9)])⟩
 · exact⟨(b,l,i+1),⟨⟨p1,by show _≤a+2*((i+1:Nat):Int);omega⟩,by omega,vk p45⟩,by show 4 - (i+1)<4 - i;omega,(by exact bz [(1000000,1000000),(9,9)])⟩
 · refine .ret _ ?_;conv=>whnf
   exact⟨[(9,aM 131 2 As cW l),(1000000,bj n L _)],⟨l,b,by rw[show(4:Nat)=i by omega];exact p45,⟨by omega,by omega⟩,rfl,rfl⟩,rr,rr,trivial⟩
set_option maxHeartbeats 4000000 in
theorem G8 (n:Nat)(L:Nat→Int)(hL:sB n L)(a:Int)(h0:0≤a)(ha:a≤2^33):
 ai Tryz.prog 18 [.ptr 1000000 0] [(1000000,bj n L a)] (fun y r=>(∃t:rB,(H5 t∧uK t=0)∧y=tar t)∧ik n L a 2200 r):=by
 refine af hT (C:= []) Tryz.func18 rfl Tryz.call18 rfl rfl rfl ?_;conv=>whnf
 refine ah hT (C:= []) (ι:=Int×Nat) (fun(b,i)=>a≤b∧b≤a+250*i∧i≤8)
  (fun(b,i)=>aN [(0,.ptr 1000000 0),(2,.ptr 2 0),(4,.d (.int .i64 i))] [(1000000,bj n L b),(2,.cells 38 [.d .nilsl,.d .nilsl,.d .nilsl,.d .nilsl,.d .nilsl])])
  (fun(_,i)=>8 - i) (a,0) ⟨by simp,by simp,by simp⟩ (by exact bz [(1000000,1000000),(2,2)]) ?_
 rintro⟨b,i⟩ ⟨p1,p2,p3⟩;have p1:a≤b:=p1;have p2:b≤a+250*i:=p2;have p3:i≤8:=p3;conv=>whnf
 repeat' (first|(refine fz.of (HV n L hL _ ?_ ?_) [(1000000,1000000)] rfl ⟨lr,trivial⟩ ⟨rr,trivial⟩ rfl rfl ?_;rotate_right;rintro x rout ⟨⟨t,ht,rfl⟩,⟨c,c1,c2,rfl⟩⟩;refine⟨rfl,?_⟩;conv=>whnf)|(refine ao (Rp _ ht.ok) ⟨lr,trivial⟩ rfl ?_;conv=>whnf)|(refine fz.of (LK n L hL _ ?_ ?_) [(1000000,1000000),(3,14)] rfl ⟨lr,trivial⟩ ⟨rr,trivial⟩ rfl rfl ?_;rotate_right;rintro x rout ⟨l,c,⟨hl,hlE⟩,⟨c1,c2⟩,rfl,rfl⟩;refine⟨rfl,?_⟩;conv=>whnf)|((first|(refine aa ?_ ?_<;>intro hb<;>try simp only[az]at hb)|omega|refine aA ?_|decide|assumption)<;>conv=>whnf))
 all_goals try omega
 · refine .ret _ ?_;conv=>whnf
   exact⟨[(1000000,bj n L _)],⟨⟨t,⟨ht,by simpa using hb⟩,rfl⟩,_,by omega,by omega,rfl⟩,rr,trivial⟩
 · exact⟨(c,i+1),⟨by omega,by show _≤a+250*((i+1:Nat):Int);omega,by omega⟩,by show 8 - (i+1)<8 - i;omega,(by exact bz [(1000000,1000000),(2,2)])⟩
 · refine .freeze _ 14 189 7 _ _ rfl (.ent _ _ (fJ 2 14 7 _ 0 _ rfl rfl rfl) (.weak _ ?_));conv=>whnf
   exact⟨tar ⟨l,[],[],[],[]⟩,[(1000000,bj n L _)],cQ ⟨lr,aW,aW,aW,aW,trivial⟩,⟨⟨⟨l,[],[],[],[]⟩,⟨⟨dJ hl (by omega),⟨by simp,by simp⟩,⟨by simp,by simp⟩,⟨by simp,by simp⟩,⟨by simp,by simp⟩⟩,by unfold uK;rw[hlE];rfl⟩,rfl⟩,_,by omega,by omega,rfl⟩,rr,trivial⟩
def BT (i:Nat)(l:List uf):Prop:=l.length=i∧∀j,j<i→(l.getD j cp).key=HO.getD j []∧((l.getD j cp).cls= [109,105,110,105]∨(l.getD j cp).cls= [109,105,100,105])
theorem Eu {i:Nat}{l:List uf}(h:BT i l){k c:List UInt8}(hk:k=HO.getD i [])(hc:c ∈ [[109,105,110,105],[109,105,110,105],[109,105,100,105]]):BT (i+1) (l++ [⟨k,c⟩]):=by
 refine⟨by rw[List.length_append,h.1];rfl,fun j hj=> ?_⟩;have hl:=h.1;rcases Nat.lt_or_ge j l.length with q|q
 · rw[m5 q];exact h.2 j (by omega)
 · have:j=l.length:=by omega
   subst this;rw[mK];refine⟨by rw[hl];exact hk,?_⟩;simp only[List.mem_cons,List.not_mem_nil,or_false]at hc;show c=_∨c=_;rcases hc with e|e|e
   · exact .inl e
   · exact .inl e
   · exact .inr e
theorem GM {cl:List ip}(h:rp 4 cl){c:List UInt8}(hc:c= [109,105,110,105]∨c= [109,105,100,105]):¬gd cl c<0:=by
 have h3:=(h.2 3 (by omega)).1;have h2:=(h.2 2 (by omega)).1;have hl:=h.1;unfold gd;rcases hc with e|e
 · have:=mV (p:=fun i=>(cl.getD i cW).key==c) (n:=cl.length) (k:=3) (by omega) (by rw[h3,e];decide);omega
 · have:=mV (p:=fun i=>(cl.getD i cW).key==c) (n:=cl.length) (k:=2) (by omega) (by rw[h2,e];decide);omega
theorem B3 {cl:List ip}{l:List uf}{t:rB}{d:uc}(hc:rp 4 cl)(hv:BT 3 l)(ht:uK t=0)(hd:rF d=0):um ⟨⟨Gb,cl,l,[]⟩,t,d⟩=0:=by
 have h1:ni ⟨Gb,cl,l,[]⟩=0:=by
  unfold ni
  dsimp only
  rw[LO hc,show mj Gb=0 by decide+kernel,if_neg (by have:=hv.1;omega)];rfl
 have h2:aX (jz ⟨Gb,cl,l,[]⟩) l.length=0:=by
  refine aC fun j hj=> ?_
  have hl:=hv.1;obtain⟨k1,k2⟩:=hv.2 j (by omega);have hk:∀j,j<3→aG (HO.getD j [])=true∧(0<j→cV (HO.getD j []) (HO.getD (j - 1) [])=false):=by decide+kernel
  obtain⟨q1,q2⟩:=hk j (by omega);unfold jz
  dsimp only
  rw[k1,q1,if_neg (by simp),if_neg (fun c=>by
   rw[(hv.2 (j - 1) (by omega)).1,q2 c.1]at c;exact absurd c.2 (by simp)),if_neg (GM hc k2)]
 have h3:nG ⟨Gb,cl,l,[]⟩=0:=by
  unfold nG;rw[h1,if_neg (fun c=>c rfl)]
  dsimp only
  rw[h2,if_neg (fun c=>c rfl)];rfl
 unfold um
 dsimp only
 rw[h3,ht,hd];rfl
structure OH (f:rT):Prop where
 sta:f.sta=Gb
 cls:rp 4 f.cls
 veh:BT 3 f.veh
 plt:f.plt= []
set_option maxHeartbeats 4000000 in
theorem HJ (n:Nat)(L:Nat→Int)(hL:sB n L)(a:Int)(h0:0≤a)(ha:a≤2^32):
 ai Tryz.prog 4 [.ptr 1000000 0] [(1000000,bj n L a)] (fun y r=>(∃h:ed,(((JY h∧um h=0)∧OH h.flt)∧AZ h.dea)∧y=hou h)∧ik n L a 2400 r):=by
 refine af hT (C:= []) Tryz.func4 rfl Tryz.call4 rfl rfl rfl ?_;conv=>whnf
 repeat' (first|(refine fz.of (MR n L hL _ ?_ ?_) [(1000000,1000000),(9,10)] rfl ⟨lr,trivial⟩ ⟨rr,trivial⟩ rfl rfl ?_;rotate_right;rintro x rout ⟨cl,c,hcl,⟨c1,c2⟩,rfl,rfl⟩;refine⟨rfl,?_⟩;conv=>whnf)|((first|(refine aa ?_ ?_<;>intro hb<;>try simp only[az]at hb)|refine aw hT 5 yo ?_|refine aw hT 7 yj ?_|omega|refine aA ?_|decide|assumption)<;>conv=>whnf))
 all_goals try omega
 obtain⟨cc,hcc⟩:∃cc:Int,cc=c:=⟨_,rfl⟩;have hclb:NH cl:=⟨by have:=hcl.1;omega,Gi hcl⟩
 refine ah hT (C:= []) (ι:=Int×List uf×Nat) (fun(b,l,i)=>(cc≤b∧b≤cc+i∧i≤3)∧dW KT i l∧BT i l)
  (fun(b,l,i)=>aN [(0,.ptr 1000000 0),(2,.ptr 2 0),(3,.ptr 3 0),(12,.d (ir HO)),(13,.d (.int .i64 3)),(14,.d (.int .i64 i))] [(1000000,bj n L b),(3,.cells 31 [.d (oa Gb),.buf 10,.buf 20,.d .nilsl]),(10,aM 131 2 As cW cl),(20,aM 81 2 Io cp l),(2,.cells 42 ([.d .nilsl,.d .nilsl,.d .nilsl,.d .nilsl,.d .nilsl,.d .nilsl,.d .nilsl,.d .nilsl,.d .nilsl]++(wW Kr).map .d))])
  (fun(_,_,i)=>3 - i) (cc,[],0) ⟨⟨by simp,by simp,by simp⟩,⟨by simp,by simp⟩,rfl,by simp⟩ ?_ ?_
 · subst hcc
   exact(dn 3 20 81 2 2 (aV Io cp []) rfl rfl rfl (by decide) rfl).trans (ae [(1000000,1000000),(3,3),(10,10),(20,20),(2,2)] rfl rfl ⟨lr,lr,lr,aj rfl rfl,lr,lr,trivial⟩ ⟨rr,pr rfl (by
    intro i x y hx hy
    match i with
    |0=>cases hx;cases hy;exact aj rfl rfl
    |1=>cases hx;cases hy;exact lr
    |2=>cases hx;cases hy;exact lr
    |3=>cases hx;cases hy;exact lr
    |i+4=>cases hx),rr,rr,rr,trivial⟩)
 rintro⟨b,l,i⟩ ⟨⟨p1,p2,p3⟩,p4,p5⟩;have p5:BT i l:=p5;have p1:cc≤b:=p1;have p2:b≤cc+i:=p2;have p3:i≤3:=p3;have p4:dW KT i l:=p4;have hc3:HO.length=3:=rfl;have hl1:l.length≤i:=p4.1;have hkk:(i:Int)<3→(HO.getD (i:Int).toNat []).length≤8:=fun h=>bV (aq (by omega)) rfl
 conv=>whnf
 repeat' (first|(refine fz.of (ua n L hL _ ?_ ?_ [[109,105,110,105],[109,105,110,105],[109,105,100,105]] (by simp) (by simp)) [(1000000,1000000)] rfl ⟨lr,aj rfl rfl,trivial⟩ ⟨rr,trivial⟩ rfl rfl ?_;rotate_right;rintro x rout ⟨⟨v1,hv1,rfl⟩,⟨c,c1,c2,rfl⟩⟩;refine⟨rfl,?_⟩;conv=>whnf)|(refine fz.of (G8 n L hL _ ?_ ?_) [(1000000,1000000)] rfl ⟨lr,trivial⟩ ⟨rr,trivial⟩ rfl rfl ?_;rotate_right;rintro x rout ⟨⟨t,⟨ht,htE⟩,rfl⟩,⟨c,c1,c2,rfl⟩⟩;refine⟨rfl,?_⟩;conv=>whnf)|(refine fz.of (Ke n L hL _ ?_ ?_) [(1000000,1000000)] rfl ⟨lr,trivial⟩ ⟨rr,trivial⟩ rfl rfl ?_;rotate_right;rintro x rout ⟨⟨d,hd,rfl⟩,⟨c,c1,c2,rfl⟩⟩;refine⟨rfl,?_⟩;conv=>whnf)|((first|(refine aa ?_ ?_<;>intro hb<;>try simp only[az]at hb)|refine aw hT 5 yo ?_|refine aw hT 7 yj ?_|omega|refine aA ?_|decide|assumption)<;>conv=>whnf))
 all_goals try omega
 · exact⟨(c,l++ [⟨HO.getD (i:Int).toNat [],v1⟩],i+1),⟨⟨by omega,by show _≤cc+((i+1:Nat):Int);omega,by omega⟩,fi p4 (by omega) ⟨hkk (by omega),bV hv1 rfl⟩,Eu p5 (by rw[Int.toNat_natCast]) hv1⟩,by show 3 - (i+1)<3 - i;omega,
    ae [(1000000,1000000),(3,3),(10,10),(20,26),(2,2)] rfl rfl ⟨lr,lr,lr,lr,lr,lr,trivial⟩ ⟨rr,rr,rr,aR rfl,rr,trivial⟩⟩
 · refine .freeze _ 10 131 2 _ _ rfl (.freeze _ 20 81 2 _ _ rfl (.ent _ _ (fJ 2 10 2 _ 1 _ rfl rfl rfl) (.ent _ _ (fJ 2 20 2 _ 2 _ rfl rfl rfl) (.weak _ ?_))));conv=>whnf
   exact⟨hou ⟨⟨Gb,cl,l,[]⟩,t,d⟩,[(1000000,bj n L _)],cQ ⟨lr,lr,lr,aW,lr,lr,lr,lr,lr,lr,lr,lr,lr,lr,lr,lr,trivial⟩,⟨⟨⟨⟨Gb,cl,l,[]⟩,t,d⟩,⟨⟨⟨⟨⟨⟨by show Gb.length≤4;decide,fun x hx=>by
    simp only[Gb,List.mem_cons,List.not_mem_nil,or_false]at hx;rcases hx with rfl|rfl
    · show([115,49]:List UInt8).length≤8;decide
    · show([115,50]:List UInt8).length≤8;decide⟩,hclb,dJ p4 (by omega),⟨by simp,by simp⟩⟩,ht⟩,B3 hcl (by rw[show(3:Nat)=i by omega];exact p5) htE hd.1⟩,⟨rfl,hcl,by show BT 3 l;rw[show(3:Nat)=i by omega];exact p5,rfl⟩⟩,hd.2⟩,rfl⟩,_,by omega,by omega,rfl⟩,rr,trivial⟩
def AX:List Nat:= [172,221,129,177,121,124,198,262,107,370]
theorem EM:AX.all (nB Tryz.prog)=true:=by decide+kernel
noncomputable def TW:ci:=GV Tryz.prog (mem AX)
theorem uw:aP Tryz.prog TW:=⟨mem AX,fun _ _ h=>h,fun t ht=>List.all_eq_true.1 EM t ((mem_iff _ _).1 ht)⟩
def xP:OL:= [(0,[]),(1,[0]),(2,[]),(3,[]),(4,[]),(5,[4]),(6,[4,5]),(7,[4]),(8,[4]),(9,[4,5,6,7,8]),(10,[4,5,6,7,8,9]),(11,[4,5,6,7,8,9]),(12,[4,5,6,7,8]),(13,[4,5,6,7,8]),(14,[]),(15,[]),(16,[])]
def x8:OL:= [(0,[]),(1,[0]),(2,[0,1]),(3,[0,1,2]),(4,[0,1,2]),(5,rg 5),(6,rg 6),(7,rg 6),(8,rg 5),(9,rg 5),(10,rg 10),(11,rg 11),(12,rg 10),(13,rg 10),(14,[2,3,4]),(15,[2,3,4]),(16,[]),(17,[])]
section
variable {α:Type} (cmp:α→α→Int)
end
theorem P4 (g:FuncId)(x1 x2 x3:DV)(e1 e2 e3:TypeId)(cmp:Int→Int→Int)(l:List Int)(hl:l.length≤2^40)
 (hcmp:∀p q,p ∈ l→q ∈ l→ai Tryz.prog g [.d (.int .i64 p),.d (.int .i64 q),.ptr 1000002 0,.ptr 1000003 0,.ptr 1000004 0] (na (.d x1) (.d x2) (.d x3) e1 e2 e3)
   (fun y r=>y= .d (.int .i64 (cmp p q))∧r=na (.d x1) (.d x2) (.d x3) e1 e2 e3)):
 ai Tryz.prog 226 [.buf 1000001,.d (.int .i64 0),.d (.int .i64 l.length),.fn g [.ptr 1000002 0,.ptr 1000003 0,.ptr 1000004 0]] ((1000001,aM 3 1 iF 0 l)::na (.d x1) (.d x2) (.d x3) e1 e2 e3)
  (fun y r=>y= .tup []∧r=(1000001,aM 3 1 iF 0 (di cmp l))::na (.d x1) (.d x2) (.d x3) e1 e2 e3):=by
 refine af hT (C:= []) Tryz.func226 rfl Tryz.call226 rfl rfl rfl ?_;conv=>whnf
 refine⟨by unfold aF;omega,?_⟩;conv=>whnf
 refine ah hT (C:= []) (ι:=Nat×List Int) (fun p=>1≤p.1∧(p.1≤l.length∨p.1=1)∧p.2=(bF cmp (l.take p.1)).reverse++l.drop p.1)
  (fun p=>aN [(0,.buf 1000001),(1,.d (.int .i64 0)),(2,.d (.int .i64 l.length)),(3,.fn g [.ptr 1000002 0,.ptr 1000003 0,.ptr 1000004 0]),(8,.d (.int .i64 p.1))] ((1000001,aM 3 1 iF 0 p.2)::na (.d x1) (.d x2) (.d x3) e1 e2 e3))
  (fun p=>l.length - p.1) (1,l) ⟨by simp,by simp,?_⟩ ?_ ?_
 · simp only
   cases l with
   |nil=>rfl
   |cons x l=>simp[bF,fC]
 · exact ae AP rfl rfl ⟨lr,lr,lr,lr,lr,trivial⟩ ⟨rr,rr,rr,rr,trivial⟩
 rintro⟨i,c⟩ ⟨p1,p2,p3⟩;simp only at p1 p2 p3;conv=>whnf
 refine aa (fun h=> ?_) (fun h=> ?_)
 · simp only[decide_eq_true_eq]at h;have hi:i<l.length:=by omega
   conv=>whnf
   have hx:l[i] ∈ l:=List.getElem_mem hi;have hmem:∀y ∈ bF cmp (l.take i),y ∈ l:=fun y hy=>List.mem_of_mem_take ((jg cmp _).1 hy)
   refine ah hT (C:= []) (ι:=List Int×List Int) (fun p=>fC cmp l[i] (bF cmp (l.take i))=p.2.reverse++fC cmp l[i] p.1∧p.1.length+p.2.length=i∧∀y ∈ p.1,y ∈ l)
    (fun p=>aN [(0,.buf 1000001),(1,.d (.int .i64 0)),(2,.d (.int .i64 l.length)),(3,.fn g [.ptr 1000002 0,.ptr 1000003 0,.ptr 1000004 0]),(8,.d (.int .i64 i)),(9,.d (.int .i64 p.1.length))]
      ((1000001,aM 3 1 iF 0 (p.1.reverse++ [l[i]]++p.2++l.drop (i+1)))::na (.d x1) (.d x2) (.d x3) e1 e2 e3))
    (fun p=>p.1.length) (bF cmp (l.take i),[]) ⟨by simp,?_,hmem⟩ ?_ ?_
   · simp[fy];omega
   · refine ae AP rfl rfl ⟨lr,lr,lr,lr,lr,am ?_,trivial⟩ ⟨?_,rr,rr,rr,trivial⟩
     · simp[fy];omega
     · have:c=(bF cmp (l.take i)).reverse++ [l[i]]++ []++l.drop (i+1):=by rw[p3,List.drop_eq_getElem_cons hi];simp
       show aY.le (aM 3 1 iF 0 c) _;rw[this];exact rr
   rintro⟨A,B⟩ ⟨q1,q2,q3⟩;simp only at q1 q2 q3;have hlen:(A.reverse++ [l[i]]++B++l.drop (i+1)).length=l.length:=by simp;omega
   conv=>whnf
   refine a8 hT rfl [] xP (by decide+kernel) ?_;conv=>whnf
   refine aa (fun h2=> ?_) (fun h2=> ?_)
   · conv=>whnf
     cases A with
     |nil=>simp at h2
     |cons y A=>
     have g1:((y::A).reverse++ [l[i]]++B++l.drop (i+1)).getD (((y::A).length:Int)).toNat 0=l[i]:=by
      rw[show(y::A).reverse++ [l[i]]++B++l.drop (i+1)=(y::A).reverse++l[i]::(B++l.drop (i+1))by simp];exact pF _ _ _ _ (by simp)
     have g2:((y::A).reverse++ [l[i]]++B++l.drop (i+1)).getD ((((y::A).length:Int)) - 1).toNat 0=y:=by
      rw[show(y::A).reverse++ [l[i]]++B++l.drop (i+1)=A.reverse++y::([l[i]]++B++l.drop (i+1))by simp];exact pF _ _ _ _ (by simp)
     have hA:(y::A).length=A.length+1:=rfl;refine⟨⟨by omega,by simp only[hlen];omega⟩,?_⟩;conv=>whnf
     refine⟨by simp only[hlen];omega,?_⟩;conv=>whnf
     refine⟨by unfold aF;simp only[List.length_cons];omega,?_⟩;conv=>whnf
     refine⟨⟨by simp only[List.length_cons];omega,by simp only[hlen,List.length_cons];omega⟩,?_⟩;conv=>whnf
     refine⟨by simp only[hlen,List.length_cons];omega,?_⟩;conv=>whnf
     refine fz.of (hcmp l[i] y hx (q3 y (by simp))) [(1000002,1000002),(1000003,1000003),(1000004,1000004)] rfl ⟨am g1,am g2,lr,lr,lr,trivial⟩ ⟨rr,rr,rr,trivial⟩ rfl rfl ?_;rintro x rout ⟨rfl,rfl⟩;refine⟨rfl,?_⟩;conv=>whnf
     refine aa (fun h3=> ?_) (fun h3=> ?_)
     · simp only[decide_eq_true_eq]at h3;conv=>whnf
       refine a8 hT rfl [] x8 (by decide+kernel) ?_;conv=>whnf
       repeat (refine And.intro (by(try unfold aF);(try dsimp only);(try simp only[hlen,List.length_cons,List.length_append,List.length_singleton,List.length_nil]);omega) ?_;conv=>whnf)
       have hsw:(((y::A).reverse++ [l[i]]++B++l.drop (i+1)).set (((y::A).length:Int)).toNat y).set ((((y::A).length:Int)) - 1).toNat l[i]=A.reverse++ [l[i]]++(y::B)++l.drop (i+1):=by
        have k1:(((y::A).length:Int)).toNat=A.reverse.length+1:=by simp
        have k2:((((y::A).length:Int)) - 1).toNat=A.reverse.length:=by simp
        rw[k1,k2];have:=t8 A.reverse (B++l.drop (i+1)) l[i] y;simp only[List.reverse_cons,List.append_assoc,List.singleton_append,List.cons_append,List.nil_append]at this ⊢;exact this
       refine⟨(A,y::B),⟨?_,by simp only[List.length_cons]at q2 ⊢;omega,fun z hz=>q3 z (by simp[hz])⟩,by simp only[List.length_cons];omega,?_⟩
       · rw[q1];simp[fC,h3]
       · refine ae AP rfl rfl ⟨lr,lr,lr,lr,lr,am (by simp only[List.length_cons];omega),trivial⟩ ⟨?_,rr,rr,rr,trivial⟩;show aY.le _ (aM 3 1 iF 0 (A.reverse++ [l[i]]++(y::B)++l.drop (i+1)));rw[←hsw];refine bB (by simp) (fun k hk=> ?_);have e1:=ku (f:=iF) (d:=0) (l:=((y::A).reverse++ [l[i]]++B++l.drop (i+1))) (x:=y) (j:=((((y::A).length:Int)).toNat)) (off:=0) (ds:= [.int .i64 (((y::A).reverse++ [l[i]]++B++l.drop (i+1)).getD ((((y::A).length:Int) - 1).toNat) 0)]) (get:=aV iF 0 ((y::A).reverse++ [l[i]]++B++l.drop (i+1))) (fun _ _=>rfl) (fun z _=>by rw[g2];rfl)
         have e2:=ku (f:=iF) (d:=0) (l:=((y::A).reverse++ [l[i]]++B++l.drop (i+1)).set ((((y::A).length:Int)).toNat) y) (x:=l[i]) (j:=((((y::A).length:Int) - 1).toNat)) (off:=0) (ds:= [.int .i64 (((y::A).reverse++ [l[i]]++B++l.drop (i+1)).getD ((((y::A).length:Int)).toNat) 0)])
          (get:=fun k=>bif Nat.beq k ((((y::A).length:Int)).toNat)then bR (aV iF 0 ((y::A).reverse++ [l[i]]++B++l.drop (i+1)) k) 0 [.int .i64 (((y::A).reverse++ [l[i]]++B++l.drop (i+1)).getD ((((y::A).length:Int) - 1).toNat) 0)]else aV iF 0 ((y::A).reverse++ [l[i]]++B++l.drop (i+1)) k) (fun k hk=>e1 k (by simpa using hk)) (fun z _=>by rw[g1];rfl)
         exact e2 k (by simpa using hk)
     · simp only[decide_eq_false_iff_not]at h3;conv=>whnf
       refine⟨by unfold aF;omega,?_⟩;conv=>whnf
       refine⟨(i+1,(y::A).reverse++ [l[i]]++B++l.drop (i+1)),⟨by simp only;omega,by simp only;omega,?_⟩,by simp only;omega,?_⟩
       · simp only;rw[gQ hi,ij,q1];simp[fC,h3]
       · exact ae AP rfl rfl ⟨lr,lr,lr,lr,lr,trivial⟩ ⟨rr,rr,rr,rr,trivial⟩
   · conv=>whnf
     refine⟨by unfold aF;omega,?_⟩;conv=>whnf
     have hA:A= []:=by cases A<;>simp at h2 ⊢
     subst hA;refine⟨(i+1,[].reverse++ [l[i]]++B++l.drop (i+1)),⟨by simp only;omega,by simp only;omega,?_⟩,by simp only;omega,?_⟩
     · simp only;rw[gQ hi,ij,q1];simp[fC]
     · exact ae AP rfl rfl ⟨lr,lr,lr,lr,lr,trivial⟩ ⟨rr,rr,rr,rr,trivial⟩
 · conv=>whnf
   have e1:c=di cmp l:=by
    simp only[decide_eq_false_iff_not]at h;rw[p3,List.take_of_length_le (by omega),List.drop_eq_nil_iff.2 (by omega),List.append_nil];rfl
   refine .ret _ ?_;conv=>whnf
   subst e1;exact⟨_,⟨rfl,rfl⟩,rr,rr,rr,rr,trivial⟩
def y9:OL:= [(0,[]),(1,[0]),(2,[0,1]),(3,[0]),(4,[0]),(5,[]),(6,rg 6),(7,[]),(8,rg 8),(9,rg 9),(10,rg 10),(11,rg 9),(12,rg 9),(13,rg 8),(14,rg 14),(15,rg 8),(16,[]),(17,[])]
theorem OA (g:FuncId)(x1 x2 x3:DV)(e1 e2 e3:TypeId)(cmp:Int→Int→Int)(l:List Int)(hl:l.length<20)
 (hcmp:∀p q,p ∈ l→q ∈ l→ai Tryz.prog g [.d (.int .i64 p),.d (.int .i64 q),.ptr 1000002 0,.ptr 1000003 0,.ptr 1000004 0] (na (.d x1) (.d x2) (.d x3) e1 e2 e3)
   (fun y r=>y= .d (.int .i64 (cmp p q))∧r=na (.d x1) (.d x2) (.d x3) e1 e2 e3)):
 ai Tryz.prog 185 [.buf 1000001,.d (.int .i64 l.length),.fn g [.ptr 1000002 0,.ptr 1000003 0,.ptr 1000004 0]] ((1000001,aM 3 1 iF 0 l)::na (.d x1) (.d x2) (.d x3) e1 e2 e3)
  (fun y r=>y= .tup []∧r=(1000001,aM 3 1 iF 0 (di cmp l))::na (.d x1) (.d x2) (.d x3) e1 e2 e3):=by
 refine af hT (C:= []) Tryz.func185 rfl Tryz.call185 rfl rfl rfl ?_;conv=>whnf
 refine dP hT (C:= []) (fun _ _ h=>h) (fun _ h=>h) ?_;conv=>whnf
 refine aa (fun h=> ?_) (fun h=> ?_)
 · simp at h;omega
 conv=>whnf
 refine cj (P4 g x1 x2 x3 e1 e2 e3 cmp l (by omega) hcmp) AP ?_;rintro x rout ⟨rfl,rfl⟩;refine⟨rfl,?_⟩;conv=>whnf
 refine dP hT (C:= []) (fun _ _ h=>h) (fun _ h=>h) ?_;conv=>whnf
 refine aa (fun h=> ?_) (fun h=> ?_)
 · simp at h;omega
 conv=>whnf
 refine .ret _ ?_;conv=>whnf
 exact⟨_,⟨rfl,rfl⟩,rr,rr,rr,rr,trivial⟩
theorem PZ (g:FuncId)(x1 x2 x3:DV)(e1 e2 e3:TypeId)(cmp:Int→Int→Int)(l:List Int)(hl:l.length<20)
 (hcmp:∀p q,p ∈ l→q ∈ l→ai Tryz.prog g [.d (.int .i64 p),.d (.int .i64 q),.ptr 1000002 0,.ptr 1000003 0,.ptr 1000004 0] (na (.d x1) (.d x2) (.d x3) e1 e2 e3)
   (fun y r=>y= .d (.int .i64 (cmp p q))∧r=na (.d x1) (.d x2) (.d x3) e1 e2 e3)):
 ai Tryz.prog 120 [.buf 1000001,.fn g [.ptr 1000002 0,.ptr 1000003 0,.ptr 1000004 0]] ((1000001,aM 3 1 iF 0 l)::na (.d x1) (.d x2) (.d x3) e1 e2 e3)
  (fun y r=>y= .tup []∧r=(1000001,aM 3 1 iF 0 (di cmp l))::na (.d x1) (.d x2) (.d x3) e1 e2 e3):=by
 refine af hT (C:= []) Tryz.func120 rfl Tryz.call120 rfl rfl rfl ?_;conv=>whnf
 refine cj (OA g x1 x2 x3 e1 e2 e3 cmp l (by omega) hcmp) AP ?_;rintro x rout ⟨rfl,rfl⟩;refine⟨rfl,?_⟩;conv=>whnf
 refine .ret _ ?_;conv=>whnf
 exact⟨_,⟨rfl,rfl⟩,rr,rr,rr,rr,trivial⟩
theorem Pi (c s:Int)(w:List Int)(hc:0≤c∧c≤1000000000)(hw:∀x ∈ w,0≤x∧x≤5761440)(hs:0<s)(hs2:s≤2^40)(p q:Nat)(hp:p<w.length)(hq:q<w.length):
 ai Tryz.prog 121 [.d (.int .i64 p),.d (.int .i64 q),.ptr 1000002 0,.ptr 1000003 0,.ptr 1000004 0] (na (.d (.int .i64 c)) (.d (dC w)) (.d (.int .i64 s)) 3 22 3)
  (fun y r=>y= .d (.int .i64 ((c*w.getD q 0).tmod s - (c*w.getD p 0).tmod s))∧r=na (.d (.int .i64 c)) (.d (dC w)) (.d (.int .i64 s)) 3 22 3):=by
 refine af hT (C:= []) Tryz.func121 rfl Tryz.call121 rfl rfl rfl ?_;conv=>whnf
 have bd:∀i:Nat,i<w.length→0≤c*w.getD (i:Int).toNat 0∧c*w.getD (i:Int).toNat 0≤1000000000*5761440:=fun i hi=>by
  rw[gO hi];have:=hw _ (List.getElem_mem hi);exact⟨Int.mul_nonneg hc.1 this.1,Int.mul_le_mul hc.2 this.2 this.1 (by omega)⟩
 have bp:=bd p hp;have bq:=bd q hq;have tp:=Int.tmod_nonneg s bp.1;have tq:=Int.tmod_nonneg s bq.1;have tp2:=Int.tmod_lt_of_pos (c*w.getD (p:Int).toNat 0) hs;have tq2:=Int.tmod_lt_of_pos (c*w.getD (q:Int).toNat 0) hs;refine a8 hT rfl [] y9 (by decide+kernel) ?_;conv=>whnf
 repeat (refine And.intro (by(try unfold aF);(try dsimp only);(try simp only[List.length_cons,List.length_append,List.length_singleton,List.length_nil]);omega) ?_;conv=>whnf)
 refine .ret _ ?_;conv=>whnf
 exact⟨_,⟨rfl,rfl⟩,rr,rr,rr,trivial⟩
def BM:OL:= [(0,[]),(1,[]),(2,[]),(3,[0,1,2]),(4,[0,1,2]),(5,[0,1,2]),(6,[3,4,5]),(7,[])]
theorem OX (c:Int)(w:List Int)(hc:0≤c∧c≤1000000000)(hw:∀x ∈ w,0≤x∧x≤5761440)(hn:w.length<20)(hs:w.sum≠0)(hleft:0≤gH c (dN c w) w.length∧gH c (dN c w) w.length≤w.length):
 ai Tryz.prog 63 [.d (.int .i64 c),.d (dC w)] [] (fun y r=>y= .d (dC (sS c w))∧r= []):=by
 have kA:0≤w.sum:=lu fun x hx=>(hw x hx).1
 have hs1:w.sum≤5761440*w.length:=Am fun x hx=>(hw x hx).2
 refine af hT (C:= []) Tryz.func63 rfl Tryz.call63 rfl rfl rfl ?_;conv=>whnf
 refine ah hT (C:= []) (ι:=Nat) (fun i=>i≤w.length) (fun i=>aN [(2,.ptr 2 0),(3,.ptr 3 0),(5,.ptr 5 0),(15,.d (dC w)),(16,.d (.int .i64 w.length)),(17,.d (.int .i64 i))]
  [(2,.cells 3 [.d (.int .i64 c)]),(3,.cells 22 [.d (dC w)]),(5,.cells 3 [.d (.int .i64 (w.take i).sum)])]) (fun i=>w.length - i) 0 (by omega) ?_ ?_
 · exact ae [(2,2),(3,3),(5,5)] rfl rfl ⟨lr,lr,lr,lr,lr,lr,trivial⟩ ⟨rr,rr,rr,trivial⟩
 intro i p1;conv=>whnf
 refine aa (fun h=> ?_) (fun h=> ?_)
 · simp only[decide_eq_true_eq]at h;have hi:i<w.length:=by omega
   have b1:=hw _ (List.getElem_mem hi);have b2:0≤(w.take i).sum:=lu fun x hx=>(hw x (List.mem_of_mem_take hx)).1
   have b3:(w.take i).sum≤5761440*(w.take i).length:=Am fun x hx=>(hw x (List.mem_of_mem_take hx)).2
   have b4:(w.take i).length=i:=by simp;omega
   have b5:w.getD (i:Int).toNat 0=w[i]:=gO hi;conv=>whnf
   repeat (refine And.intro (by(try unfold aF);(try dsimp only);(try simp only[List.length_cons,List.length_append,List.length_singleton,List.length_nil]);omega) ?_;conv=>whnf)
   refine⟨i+1,hi,by omega,?_⟩;refine ae [(2,2),(3,3),(5,5)] rfl rfl ⟨lr,lr,lr,lr,lr,lr,trivial⟩ ⟨rr,rr,?_,trivial⟩;show aY.le (.cells 3 [.d (.int .i64 ((w.take i).sum+w.getD (i:Int).toNat 0))]) (.cells 3 [.d (.int .i64 (w.take (i+1)).sum)]);rw[b5,sk hi];exact rr
 simp only[decide_eq_false_iff_not]at h;have e1:i=w.length:=by omega
 subst e1;rw[List.take_length];conv=>whnf
 refine a8 hT rfl [] BM (by decide+kernel) ?_;conv=>whnf
 refine And.intro ⟨by omega,by omega,by show(8:Int)*w.length≤_;omega,by omega⟩ ?_;conv=>whnf
 refine And.intro ⟨by omega,by omega,by show(8:Int)*w.length≤_;omega,by omega⟩ ?_;conv=>whnf
 have hg0:∀j,j<w.length→0≤c*w.getD j 0∧c*w.getD j 0≤1000000000*5761440:=fun j hj=>by
  have:=hw _ (aq (x:=(0:Int)) hj);exact⟨Int.mul_nonneg hc.1 this.1,Int.mul_le_mul hc.2 this.2 this.1 (by omega)⟩
 have hg1:∀j,j<w.length→0≤dN c w j∧dN c w j≤1000000000*5761440:=fun j hj=>by
  have:=hg0 j hj;exact⟨Int.tdiv_nonneg this.1 kA,Int.le_trans (Int.tdiv_le_self _ this.1) this.2⟩
 have hl1:∀i,i≤w.length→c - 1000000000*5761440*i≤gH c (dN c w) i∧gH c (dN c w) i≤c:=fun i=>by
  induction i with
  |zero=>intro _;simp[gH]
  |succ i ih=>intro hi;have:=ih (by omega);have:=hg1 i (by omega);rw[sK];omega
 refine ah hT (C:= []) (ι:=Nat) (fun i=>i≤w.length) (fun i=>aN [(2,.ptr 2 0),(3,.ptr 3 0),(5,.ptr 5 0),(8,.buf 27),(9,.buf 30),(10,.d (.int .i64 (gH c (dN c w) i))),(32,.d (dC w)),(33,.d (.int .i64 w.length)),(34,.d (.int .i64 i))]
  [(2,.cells 3 [.d (.int .i64 c)]),(3,.cells 22 [.d (dC w)]),(5,.cells 3 [.d (.int .i64 w.sum)]),(27,aM 3 1 iF 0 (ee (dN c w) w.length i)),(30,aM 3 1 iF 0 (ee (fun j=>(j:Int)) w.length i))]) (fun i=>w.length - i) 0 (by omega) ?_ ?_
 · exact ae [(2,2),(3,3),(5,5),(27,27),(30,30)] rfl rfl ⟨lr,lr,lr,lr,lr,am (by simp[gH]),lr,lr,lr,trivial⟩
    ⟨rr,rr,rr,tg (by rfl) (fun _=>rfl),tg (by rfl) (fun _=>rfl),trivial⟩
 clear p1 h;intro i p1;conv=>whnf
 refine aa (fun h=> ?_) (fun h=> ?_)
 · simp only[decide_eq_true_eq]at h;have hi:i<w.length:=by omega
   have b0:=hg0 i hi;have b1:=hg1 i hi;have b2:=hl1 i p1;have e1:(i:Int).toNat=i:=Int.toNat_natCast i;have l1:=dU (dN c w) w.length i;have l2:=dU (fun j=>(j:Int)) w.length i;conv=>whnf
   repeat (refine And.intro (by(try unfold aF);(try dsimp only);(try simp only[e1,l1,l2,List.length_cons,List.length_append,List.length_singleton,List.length_nil]);omega) ?_;conv=>whnf)
   refine And.intro (by show aF (dN c w i);unfold aF;omega) ?_;conv=>whnf
   repeat (refine And.intro (by(try unfold aF);(try dsimp only);(try simp only[e1,l1,l2,List.length_cons,List.length_append,List.length_singleton,List.length_nil]);omega) ?_;conv=>whnf)
   simp only[e1,Nat.beq_refl,cond_true];conv=>whnf
   refine And.intro (by show aF (gH c (dN c w) i - dN c w i);unfold aF;omega) ?_;conv=>whnf
   refine And.intro (by unfold aF;omega) ?_;conv=>whnf
   refine⟨i+1,hi,by omega,?_⟩
   have r1:aY.le (.buf 3 1 (ee (dN c w) w.length i).length fun j=>bif Nat.beq j i then bR (aV iF 0 (ee (dN c w) w.length i) j) 0 [.int .i64 (dN c w i)]else aV iF 0 (ee (dN c w) w.length i) j) (aM 3 1 iF 0 (ee (dN c w) w.length (i+1))):=by
    rw[←vp];exact g8 (fun _ _=>rfl)
   have r2:aY.le (.buf 3 1 (ee (fun j=>(j:Int)) w.length i).length fun j=>bif Nat.beq j i then bR (aV iF 0 (ee (fun j=>(j:Int)) w.length i) j) 0 [.int .i64 (i:Int)]else aV iF 0 (ee (fun j=>(j:Int)) w.length i) j) (aM 3 1 iF 0 (ee (fun j=>(j:Int)) w.length (i+1))):=by
    rw[←vp];exact g8 (fun _ _=>rfl)
   exact ae [(2,2),(3,3),(5,5),(27,27),(30,30)] rfl rfl ⟨lr,lr,lr,lr,lr,am (sK c (dN c w) i).symm,lr,lr,lr,trivial⟩
    ⟨rr,rr,rr,r1,r2,trivial⟩
 simp only[decide_eq_false_iff_not]at h;have e1:i=w.length:=by omega
 subst e1;conv=>whnf
 have hlen:(ee (fun j=>(j:Int)) w.length w.length).length=w.length:=dU _ _ _
 have hmemo:∀p,p ∈ ee (fun j=>(j:Int)) w.length w.length→∃j:Nat,p=j∧j<w.length:=fun p hp=>by
  simp only[ee,List.mem_map,List.mem_range]at hp;obtain⟨j,hj,rfl⟩:=hp;exact⟨j,by simp[hj],hj⟩
 refine fz.of (PZ 121 (.int .i64 c) (dC w) (.int .i64 w.sum) 3 22 3 (MM c w) (ee (fun j=>(j:Int)) w.length w.length) (by omega) (fun p q hp hq=>by
  obtain⟨j,rfl,hj⟩:=hmemo p hp;obtain⟨k,rfl,hk⟩:=hmemo q hq
  exact Pi c w.sum w hc hw (by omega) (by omega) j k hj hk)) [(1000001,30),(1000002,2),(1000003,3),(1000004,5)] rfl ⟨lr,lr,trivial⟩ ⟨rr,rr,rr,rr,trivial⟩ rfl rfl ?_
 rintro x rout ⟨rfl,rfl⟩;refine⟨rfl,?_⟩;conv=>whnf
 have hol:(lk c w).length=w.length:=by unfold lk di;rw[List.length_reverse,fy,dU]
 refine pP.freeze _ _ _ _ rfl ?_;conv=>whnf
 refine And.intro ⟨by omega,hleft.1,by show _≤((lk c w).length:Int);rw[hol];exact hleft.2⟩ ?_;conv=>whnf
 obtain⟨idx,hidx⟩:∃idx,idx=(lk c w).take (gH c (dN c w) w.length).toNat:=⟨_,rfl⟩;have hil:idx.length=(gH c (dN c w) w.length).toNat:=by rw[hidx,List.length_take,hol];omega
 have him:∀p ∈ idx,∃j:Nat,p=j∧j<w.length:=fun p hp=>by
  rw[hidx]at hp;have:=List.mem_of_mem_take hp;unfold lk di at this;rw[List.mem_reverse,jg]at this;exact hmemo p this
 refine ah hT (C:= []) (ι:=Nat×List Int) (fun p=>p.1≤idx.length∧p.2=Al (ee (dN c w) w.length w.length) (idx.take p.1)∧p.2.length=w.length∧(∀x ∈ p.2,0≤x∧x≤1000000000*5761440+p.1))
  (fun p=>aN [(8,.buf 27),(63,.d (dC idx)),(64,.d (.int .i64 idx.length)),(65,.d (.int .i64 p.1))] [(27,aM 3 1 iF 0 p.2)]) (fun p=>idx.length - p.1) (0,ee (dN c w) w.length w.length) ⟨by simp,by simp[Al],dU _ _ _,?_⟩ ?_ ?_
 · intro x hx;simp only[ee,List.mem_map,List.mem_range]at hx;obtain⟨j,hj,rfl⟩:=hx;have:=hg1 j hj;simp[hj];omega
 · refine ae [(27,27)] rfl rfl ⟨lr,bt ?_ (fun i hi=> ?_),am ?_,lr,trivial⟩ ⟨rr,trivial⟩
   · rw[hil];omega
   · change aV iF 0 (lk c w) (Int.toNat 0+i)=_
     rw[gp (show Int.toNat 0+i<(lk c w).length by simp only[Int.toNat_zero];omega),gp (show i<idx.length by omega)];subst hidx;simp[lk]
   · rw[hil];omega
 rintro⟨i,P⟩ ⟨p1,p2,p3,p4⟩;simp only at p1 p2 p3 p4;conv=>whnf
 refine aa (fun h=> ?_) (fun h=> ?_)
 · simp only[decide_eq_true_eq]at h;have hi:i<idx.length:=by omega
   obtain⟨j,hj,hjw⟩:=him _ (List.getElem_mem hi);have e0:(i:Int).toNat=i:=Int.toNat_natCast i;have e1:idx.getD (i:Int).toNat 0=j:=by rw[gO hi,hj]
   have e2:(j:Int).toNat=j:=Int.toNat_natCast j;conv=>whnf
   repeat (refine And.intro (by(try unfold aF);(try dsimp only);(try simp only[e1,e2,List.length_cons,List.length_append,List.length_singleton,List.length_nil]);omega) ?_;conv=>whnf)
   have hjP:j<P.length:=by omega
   have bP:=p4 _ (aq (x:=(0:Int)) hjP);refine And.intro (by simp only[e1,e2];unfold aF;omega) ?_;conv=>whnf
   repeat (refine And.intro (by(try unfold aF);(try dsimp only);(try simp only[e1,e2,List.length_cons,List.length_append,List.length_singleton,List.length_nil]);omega) ?_;conv=>whnf)
   refine⟨(i+1,P.set j (P.getD j 0+1)),⟨hi,?_,by simp only[List.length_set];exact p3,?_⟩,by simp only;omega,?_⟩
   · simp only;rw[gQ hi,DK,←p2,hj,e2]
   · simp only;intro x hx;rcases List.mem_or_eq_of_mem_set hx with q|q
     · have:=p4 x q;omega
     · subst q;omega
   · have r1:aY.le (.buf 3 1 P.length fun k=>bif Nat.beq k (idx.getD (i:Int).toNat 0).toNat then bR (aV iF 0 P k) 0 [.int .i64 (P.getD (idx.getD (i:Int).toNat 0).toNat 0+1)]else aV iF 0 P k) (aM 3 1 iF 0 (P.set j (P.getD j 0+1))):=by
      rw[e1,e2];exact g8 (fun _ _=>rfl)
     exact ae [(27,27)] rfl rfl ⟨lr,lr,lr,lr,trivial⟩ ⟨r1,trivial⟩
 simp only[decide_eq_false_iff_not]at h;have e1:i=idx.length:=by omega
 subst e1;conv=>whnf
 rw[List.take_length,hidx]at p2;refine .freeze _ 27 3 1 _ _ rfl ?_;refine .ret _ ?_;conv=>whnf
 refine⟨[],⟨?_,rfl⟩,trivial⟩;conv=>lhs;whnf
 show SV.d (dC P)=SV.d (dC (sS c w));rw[p2];rfl
theorem Q9 (c:Int)(w:List Int)(hn:w.length<20):ai Tryz.prog 30 [.d (.int .i64 c),.d (dC w)] []
 (fun y r=>y= .tup [.d (if jh c w=0 then dC (sS c w)else .nilsl),.d (.int .i64 (jh c w))]∧r= []):=by
 refine af hT (C:= []) Tryz.func30 rfl Tryz.call30 rfl rfl rfl ?_;conv=>whnf
 refine ao (fA _ _ _) ⟨lr,lr,lr,trivial⟩ rfl ?_;conv=>whnf
 refine ao (eK _ _) ⟨lr,lr,trivial⟩ rfl ?_;conv=>whnf
 refine ao (eK _ _) ⟨lr,lr,trivial⟩ rfl ?_;conv=>whnf
 refine ao (fu [_,_] (by simp)) ⟨aj (by rfl) (by rfl),trivial⟩ rfl ?_;have hnl:¬ (50<w.length):=by omega
 generalize he:al _=e
 have he2:e=if 0≤c∧c≤1000000000 then 0 else 1:=by
  rw[←he];simp only[al]
  by_cases h:0≤c∧c≤1000000000<;>simp[h]<;>omega
 conv=>whnf
 refine aa (fun h=> ?_) (fun h=> ?_)
 · simp at h;conv=>whnf
   refine .ret _ ?_;conv=>whnf
   refine⟨[],⟨?_,rfl⟩,trivial⟩;show SV.tup [.d .nilsl,.d (.int .i64 e)]=_;have hc:¬ (0≤c∧c≤1000000000):=fun q=>h (by rw[he2,if_pos q])
   rw[if_neg hc]at he2;have:jh c w=1:=by simp only[jh];rw[if_pos hc]
   rw[this,he2];rfl
 simp at h;have hc:0≤c∧c≤1000000000:=Classical.byContradiction fun q=>by rw[if_neg q]at he2;omega
 conv=>whnf
 refine ah hT (C:= []) (ι:=Nat) (fun i=>i≤w.length∧(∀x ∈ w.take i,0≤x∧x≤5761440)) (fun i=>aN [(0,.d (.int .i64 c)),(1,.d (dC w)),(7,.d (.int .i64 (w.take i).sum)),(23,.d (dC w)),(24,.d (.int .i64 w.length)),(25,.d (.int .i64 i))] []) (fun i=>w.length - i) 0 ⟨by omega,by simp⟩ ?_ ?_
 · refine ae [] rfl rfl ⟨lr,lr,lr,lr,lr,lr,trivial⟩ trivial
 rintro i ⟨p1,p2⟩;conv=>whnf
 refine aa (fun h=> ?_) (fun h=> ?_)
 · simp only[decide_eq_true_eq]at h;have hi:i<w.length:=by omega
   have b2:0≤(w.take i).sum:=lu fun x hx=>(p2 x hx).1
   have b3:(w.take i).sum≤5761440*(w.take i).length:=Am fun x hx=>(p2 x hx).2
   have b4:(w.take i).length=i:=by simp;omega
   conv=>whnf
   repeat (refine And.intro (by(try unfold aF);(try dsimp only);(try simp only[List.length_cons,List.length_append,List.length_singleton,List.length_nil]);omega) ?_;conv=>whnf)
   refine ao (fA _ _ _) ⟨lr,lr,lr,trivial⟩ rfl ?_;rw[gO hi];conv=>whnf
   refine aa (fun h2=> ?_) (fun h2=> ?_)
   · conv=>whnf
     refine .ret _ ?_;conv=>whnf
     refine⟨[],⟨?_,rfl⟩,trivial⟩;show SV.tup [.d .nilsl,.d (.int .i64 1)]=_
     have:jh c w=1:=by
      simp only[jh];rw[if_neg (by omega),if_neg hnl,if_pos];rw[List.any_eq_true];exact⟨w[i],List.getElem_mem hi,h2⟩
     rw[this];rfl
   · simp at h2;conv=>whnf
     repeat (refine And.intro (by(try unfold aF);(try dsimp only);(try simp only[List.length_cons,List.length_append,List.length_singleton,List.length_nil]);omega) ?_;conv=>whnf)
     refine⟨i+1,⟨hi,fun x hx=> ?_⟩,by omega,?_⟩
     · rw[←List.take_append_getElem hi]at hx;rcases List.mem_append.1 hx with q|q
       · exact p2 x q
       · simp at q;subst q;omega
     · exact ae [] rfl rfl ⟨lr,lr,am (sk hi).symm,lr,lr,lr,trivial⟩ trivial
 simp only[decide_eq_false_iff_not]at h;have e1:i=w.length:=by omega
 subst e1;rw[List.take_length]at p2 ⊢
 have hany:w.any (fun x=> !decide (0≤x∧x≤5761440))=false:=by
  rw[List.any_eq_false];intro x hx;have:=p2 x hx;simp;omega
 conv=>whnf
 refine aa (fun h2=> ?_) (fun h2=> ?_)
 · conv=>whnf
   refine .ret _ ?_;conv=>whnf
   refine⟨[],⟨?_,rfl⟩,trivial⟩;show SV.tup [.d .nilsl,.d (.int .i64 8)]=_;simp at h2
   have:jh c w=8:=by
    simp only[jh];rw[if_neg (by omega),if_neg hnl,hany,if_neg (by simp),if_pos h2]
   rw[this];rfl
 · simp at h2;have kA:0≤w.sum:=lu fun x hx=>(p2 x hx).1
   conv=>whnf
   refine rZ (OX c w hc p2 hn h2 (z8 c w hc.1 (fun x hx=>(p2 x hx).1) (by omega))) ?_;conv=>whnf
   refine .ret _ ?_;conv=>whnf
   refine⟨[],⟨?_,rfl⟩,trivial⟩;show SV.tup [.d (dC (sS c w)),.d (.int .i64 0)]=_
   have:jh c w=0:=by
    simp only[jh];rw[if_neg (by omega),if_neg hnl,hany,if_neg (by simp),if_neg h2]
   rw[this];rfl
def ya:OL:= [(0,[]),(1,[]),(2,[]),(3,[]),(4,[]),(5,[3,4]),(6,[3,4,5]),(7,[3,4,5]),(8,[3,4]),(9,[3,4]),(10,[3,4]),(11,[]),(12,[]),(13,[])]
def qN:OL:= [(0,[]),(2,[0]),(3,[0]),(5,[0,2,3]),(7,[0,2,3,5]),(8,[0,2,3,5,7]),(9,[0,2,3,5,7]),(10,[0,2,3,5]),(1,[2,3,5,7,8,9,10]),(4,[5,7,8,9,10]),(6,[7,8,9,10]),(11,[]),(12,[]),(13,[]),(14,[])]
def qG:OL:= [(0,[]),(1,[]),(2,[0,1]),(3,[0,1,2]),(4,[0,1,2]),(5,[0,1]),(6,[0,1]),(7,rg 7),(8,rg 7),(9,[0,1]),(10,rg 10),(11,rg 10),(12,[0,1]),(13,[]),(14,[]),(15,[])]
theorem y4 (r:GB):ai Tryz.prog 64 [.agg ((NR r).map .d)] [] (fun x o=>x= .d (.int .i64 (wR r))∧o= []):=by
 refine af hT (C:= []) Tryz.func64 rfl Tryz.call64 rfl rfl rfl ?_;conv=>whnf
 repeat' (first|(refine ac (fA _ _ _) rfl rfl ?_;rotate_right;conv=>whnf)|(refine ac (eK _ _) rfl rfl ?_;rotate_right;conv=>whnf)|((first|(refine aa ?_ ?_<;>intro hb<;>try simp only[az]at hb)|omega|refine aA ?_|decide|assumption)<;>conv=>whnf))
 all_goals
  refine .ret _ ?_;conv=>whnf
  refine⟨[],⟨?_,rfl⟩,trivial⟩;conv=>lhs;whnf
  congr 2
  unfold wR;grind
theorem ze (l:List xU)(hk:Mt l):ai Tryz.prog 65 [.d (Lg l)] [] (fun x r=>x= .d (.int .i64 (lZ l))∧r= []):=by
 refine af hT (C:= []) Tryz.func65 rfl Tryz.call65 rfl rfl rfl ?_;conv=>whnf
 refine aa (fun h0=> ?_) (fun h0=> ?_)
 · simp at h0;conv=>whnf
   refine .ret _ ?_;conv=>whnf
   refine⟨[],⟨?_,rfl⟩,trivial⟩;conv=>lhs;whnf
   unfold lZ;rw[if_pos (by omega)]
 simp at h0;conv=>whnf
 refine ah hT (C:= []) (ι:=Nat) (fun i=>i≤l.length∧∀j,j<i→BN l j=0) (fun i=>aN [(0,.d (Lg l)),(8,.d (Lg l)),(9,.d (.int .i64 l.length)),(10,.d (.int .i64 i))] []) (fun i=>l.length - i) 0 ⟨by omega,by omega⟩ (by exact bz []) ?_;rintro i ⟨p1,p2⟩;have hx:(i:Int)<l.length→N1 (l.getD (i:Int).toNat qx):=fun hi=>hk.2 _ (aq (by omega))
 have e1:(i:Int).toNat=i:=Int.toNat_natCast i
 have hbad:∀e:Int,i<l.length→e≠0→BN l i=e→lZ l=e:=fun e h h1 h2=>by
  unfold lZ;rw[if_neg (by omega)];exact aT h p2 h1 h2
 conv=>whnf
 repeat' (first|(refine ac (gC _ (hx (by omega)).1) rfl rfl ?_;rotate_right;conv=>whnf)|(refine ac (Mf _ (hx (by omega)).2) rfl rfl ?_;rotate_right;conv=>whnf)|(refine ac (fA _ _ _) rfl rfl ?_;rotate_right;conv=>whnf)|(refine ac (Ex _) rfl rfl ?_;rotate_right;conv=>whnf)|((first|(refine aa ?_ ?_<;>intro hb<;>try simp only[az]at hb)|refine aw hT 8 ya ?_|omega|refine aA ?_|decide|assumption)<;>conv=>whnf))
 all_goals first
  |(refine⟨i+1,⟨by omega,aQ p2 (by clear p2 hbad hk hx;simp only[e1,aJ]at*;unfold BN cV;grind)⟩,by omega,(by exact bz [])⟩)
  | (refine .ret _ ?_
     conv=>whnf
     refine⟨[],⟨?_,rfl⟩,trivial⟩;conv=>lhs;whnf
     congr 2
     first
      |exact(hbad _ (by omega) (by decide) (by clear p2 hbad hk hx;simp only[e1,aJ]at*;unfold BN cV;grind)).symm
      | (have:i=l.length:=by omega
         subst this
         unfold lZ;rw[if_neg (by omega),aC p2]))
theorem Pc (r:GB)(n:xU)(t:Int)(hn:N1 n):ai Tryz.prog 31 [.agg ((NR r).map .d),.agg ((MX n).map .d),.d (.int .i64 t)] [] (fun x o=>x=Iu r n t∧o= []):=by
 have h105:=fu [wR r,lZ [n],if 0≤t∧t≤5761439 then 0 else 1,if decide (t<n.came)=true then 11 else 0] (by simp)
 have hE:al [wR r,lZ [n],if 0≤t∧t≤5761439 then 0 else 1,if decide (t<n.came)=true then 11 else 0]=ws r n t:=by
  unfold ws;simp only[decide_eq_true_eq]
 rw[hE]at h105;unfold Iu
 by_cases hz:ws r n t=0
 · rw[if_pos hz];rw[hz]at h105;obtain⟨h1,h2,h3,h4⟩:=D0 hz;obtain⟨_,_,_,h5,h6⟩:=Iv h2;obtain⟨_,h7,h8,h9⟩:=yA h1;have hO:=HW h1 h5.1 h4 h3.2;have hM:=ID hO.1 hO.2 h9.1 h9.2;have a1:=oF (a:=t) (b:=1440) (by omega) (by omega);have a2:=oF (a:=n.came) (b:=1440) (by omega) (by omega);have hM1:aF (DY r n t*r.late):=by unfold aF;omega
   have hM2:aF (Iw r n t):=by unfold Iw aF;omega
   have hq:aF (max 0 (t.tdiv 1440 - n.came.tdiv 1440 - r.pay)+r.step):=by unfold aF;omega
   have hq2:aF (max 0 (t.tdiv 1440 - n.came.tdiv 1440 - r.pay)+r.step - 1):=by unfold aF;omega
   have hq3:aF (DY r n t):=by unfold aF;omega
   refine af hT (C:= []) Tryz.func31 rfl Tryz.call31 rfl rfl rfl ?_;conv=>whnf
   repeat' (first|(refine ac (y4 r) rfl rfl ?_;rotate_right;conv=>whnf)|(refine ao (ze [n] (yc hn)) ⟨aj (by rfl) (by rfl),trivial⟩ rfl ?_;conv=>whnf)|(refine ac (CY t) rfl rfl ?_;rotate_right;conv=>whnf)|(refine ac (eK _ _) rfl rfl ?_;rotate_right;conv=>whnf)|((first|refine ao h105 ⟨aj (by rfl) (by rfl),trivial⟩ rfl ?_|refine And.intro hq ?_|refine And.intro hq2 ?_|refine And.intro hq3 ?_|refine And.intro hM1 ?_|refine And.intro hM2 ?_|(refine aa ?_ ?_<;>intro hb<;>try simp only[az]at hb)|refine aw hT 1 qN ?_|refine aw hT 5 qG ?_|omega|refine aA ?_|decide|assumption)<;>conv=>whnf))
   refine .ret _ ?_;conv=>whnf
   refine⟨[],⟨congrArg SV.tup ?_,rfl⟩,trivial⟩;repeat' (refine bD ?_ ?_)
   all_goals (conv=>lhs;whnf)
   all_goals try(with_reducible rfl)
   all_goals rfl
 · rw[if_neg hz];generalize ws r n t=e at h105 hz;refine af hT (C:= []) Tryz.func31 rfl Tryz.call31 rfl rfl rfl ?_;conv=>whnf
   repeat' (first|(refine ac (y4 r) rfl rfl ?_;rotate_right;conv=>whnf)|(refine ao (ze [n] (yc hn)) ⟨aj (by rfl) (by rfl),trivial⟩ rfl ?_;conv=>whnf)|(refine ac (CY t) rfl rfl ?_;rotate_right;conv=>whnf)|(refine ac (eK _ _) rfl rfl ?_;rotate_right;conv=>whnf)|((first|refine ao h105 ⟨aj (by rfl) (by rfl),trivial⟩ rfl ?_|(refine aa ?_ ?_<;>intro hb<;>try simp only[az]at hb)|refine aw hT 1 qN ?_|refine aw hT 5 qG ?_|omega|refine aA ?_|decide|assumption)<;>conv=>whnf))
   refine .ret _ ?_;conv=>whnf
   refine⟨[],⟨congrArg SV.tup ?_,rfl⟩,trivial⟩;repeat' (refine bD ?_ ?_)
   all_goals (conv=>lhs;whnf)
   all_goals try(with_reducible rfl)
   all_goals rfl
def yI:OL:= [(0,[]),(1,[]),(2,[]),(3,[]),(4,[]),(5,[3,4]),(6,[3,4,5]),(7,[3,4,5]),(8,[3,4]),(9,[3,4]),(10,[3,4]),(11,[]),(12,[]),(13,[])]
def wF:OL:= [(0,[]),(1,[]),(2,[]),(3,[]),(4,[3]),(5,[3]),(6,[]),(7,[]),(8,[]),(9,[3,4,5,6,7,8]),(10,[3,4,5,6,7,8,9]),(11,[3,4,5,6,7,8,9]),(12,[3,4,5,6,7,8]),(13,[3,4,5,6,7,8]),(14,[3,4,5,6,7,8]),(15,[3,4,5,6,7,8,9,10,11,12,13,14]),(16,[3,4,5,6,7,8,9,10,11,12,13,14]),(17,[3,4,5,6,7,8,9,10,11,12,13,14,15,16]),(18,[3,4,5,6,7,8,9,10,11,12,13,14,15,16]),(19,[]),(20,[]),(21,[]),(22,[])]
theorem O0 (a b c d:List UInt8):ai Tryz.prog 186 [.d (.str a),.d (.str b),.d (.str c),.d (.str d)] [] (fun x r=>x= .d (.int .i64 (Jz a b c d))∧r= []):=by
 refine af hT (C:= []) Tryz.func186 rfl Tryz.call186 rfl rfl rfl ?_;conv=>whnf
 repeat' (first|(refine ac (yE _ _) rfl rfl ?_;rotate_right;conv=>whnf)|((first|refine ao (A5 [_,_] (by simp)) ⟨aj (by rfl) (by rfl),trivial⟩ rfl ?_|(refine aa ?_ ?_<;>intro hb<;>try simp only[az]at hb)|omega|refine aA ?_|decide|assumption)<;>conv=>whnf))
 refine .ret _ ?_;conv=>whnf
 refine⟨[],⟨?_,rfl⟩,trivial⟩;conv=>lhs;whnf
 rfl
theorem PU (l:List Hf)(hk:MW l):ai Tryz.prog 123 [.d (At l)] [] (fun x r=>x= .d (.int .i64 (AB l))∧r= []):=by
 refine af hT (C:= []) Tryz.func123 rfl Tryz.call123 rfl rfl rfl ?_;conv=>whnf
 refine aa (fun h0=> ?_) (fun h0=> ?_)
 · simp at h0;conv=>whnf
   refine .ret _ ?_;conv=>whnf
   refine⟨[],⟨?_,rfl⟩,trivial⟩;conv=>lhs;whnf
   unfold AB;rw[if_pos (by omega)]
 simp at h0;conv=>whnf
 refine ah hT (C:= []) (ι:=Nat) (fun i=>i≤l.length∧∀j,j<i→Mk l j=0) (fun i=>aN [(0,.d (At l)),(8,.d (At l)),(9,.d (.int .i64 l.length)),(10,.d (.int .i64 i))] []) (fun i=>l.length - i) 0 ⟨by omega,by omega⟩ (by exact bz []) ?_;rintro i ⟨p1,p2⟩;have hx:(i:Int)<l.length→O9 (l.getD (i:Int).toNat N6):=fun hi=>hk.2 _ (aq (by omega))
 have e1:(i:Int).toNat=i:=Int.toNat_natCast i
 have hbad:∀e:Int,i<l.length→e≠0→Mk l i=e→AB l=e:=fun e h h1 h2=>by
  unfold AB;rw[if_neg (by omega)];exact aT h p2 h1 h2
 conv=>whnf
 repeat' (first|(refine ac (gC _ (hx (by omega))) rfl rfl ?_;rotate_right;conv=>whnf)|(refine ac (fA _ _ _) rfl rfl ?_;rotate_right;conv=>whnf)|((first|(refine aa ?_ ?_<;>intro hb<;>try simp only[az]at hb)|refine aw hT 8 yI ?_|omega|refine aA ?_|decide|assumption)<;>conv=>whnf))
 all_goals first
  |(refine⟨i+1,⟨by omega,aQ p2 (by clear p2 hbad hk hx;simp only[e1,aJ]at*;unfold Mk cV;grind)⟩,by omega,(by exact bz [])⟩)
  | (refine .ret _ ?_
     conv=>whnf
     refine⟨[],⟨?_,rfl⟩,trivial⟩;conv=>lhs;whnf
     congr 2
     first
      |exact(hbad _ (by omega) (by decide) (by clear p2 hbad hk hx;simp only[e1,aJ]at*;unfold Mk cV;grind)).symm
      | (have:i=l.length:=by omega
         subst this
         unfold AB;rw[if_neg (by omega),aC p2]))
theorem Oi (l:List rX)(hk:Mx l):ai Tryz.prog 124 [.d (wA l)] [] (fun x r=>x= .d (.int .i64 (AV l))∧r= []):=by
 refine af hT (C:= []) Tryz.func124 rfl Tryz.call124 rfl rfl rfl ?_;conv=>whnf
 refine aa (fun h0=> ?_) (fun h0=> ?_)
 · simp at h0;conv=>whnf
   refine .ret _ ?_;conv=>whnf
   refine⟨[],⟨?_,rfl⟩,trivial⟩;conv=>lhs;whnf
   unfold AV;rw[if_pos (by omega)]
 simp at h0;conv=>whnf
 refine ah hT (C:= []) (ι:=Nat) (fun i=>i≤l.length∧∀j,j<i→Mu l j=0) (fun i=>aN [(0,.d (wA l)),(8,.d (wA l)),(9,.d (.int .i64 l.length)),(10,.d (.int .i64 i))] []) (fun i=>l.length - i) 0 ⟨by omega,by omega⟩ (by exact bz []) ?_;rintro i ⟨p1,p2⟩;have hx:(i:Int)<l.length→Pu (l.getD (i:Int).toNat Ed):=fun hi=>hk.2 _ (aq (by omega))
 have e1:(i:Int).toNat=i:=Int.toNat_natCast i
 have hbad:∀e:Int,i<l.length→e≠0→Mu l i=e→AV l=e:=fun e h h1 h2=>by
  unfold AV;rw[if_neg (by omega)];exact aT h p2 h1 h2
 conv=>whnf
 repeat' (first|(refine ac (gC _ (hx (by omega)).1) rfl rfl ?_;rotate_right;conv=>whnf)|(refine ac (gC _ (hx (by omega)).2) rfl rfl ?_;rotate_right;conv=>whnf)|(refine ac (O0 _ _ _ _) rfl rfl ?_;rotate_right;conv=>whnf)|(refine ac (fA _ _ _) rfl rfl ?_;rotate_right;conv=>whnf)|((first|(refine aa ?_ ?_<;>intro hb<;>try simp only[az]at hb)|refine aw hT 10 wF ?_|omega|refine aA ?_|decide|assumption)<;>conv=>whnf))
 all_goals first
  |(refine⟨i+1,⟨by omega,aQ p2 (by clear p2 hbad hk hx;simp only[e1,aJ]at*;unfold Mu;grind)⟩,by omega,(by exact bz [])⟩)
  | (refine .ret _ ?_
     conv=>whnf
     refine⟨[],⟨?_,rfl⟩,trivial⟩;conv=>lhs;whnf
     congr 2
     first
      |exact(hbad _ (by omega) (by decide) (by clear p2 hbad hk hx;simp only[e1,aJ]at*;unfold Mu;grind)).symm
      | (have:i=l.length:=by omega
         subst this
         unfold AV;rw[if_neg (by omega),aC p2]))
theorem Ot (l:List Hf)(m:List rX)(hl:MW l)(hm:Mx m):ai Tryz.prog 67 [.d (At l),.d (wA m)] [] (fun x r=>x= .d (.int .i64 (al [AB l,AV m]))∧r= []):=by
 refine af hT (C:= []) Tryz.func67 rfl Tryz.call67 rfl rfl rfl ?_;conv=>whnf
 repeat' (first|(refine ac (PU l hl) rfl rfl ?_;rotate_right;conv=>whnf)|(refine ac (Oi m hm) rfl rfl ?_;rotate_right;conv=>whnf)|((first|refine ao (fu [_,_] (by simp)) ⟨aj (by rfl) (by rfl),trivial⟩ rfl ?_|(refine aa ?_ ?_<;>intro hb<;>try simp only[az]at hb)|omega|refine aA ?_|decide|assumption)<;>conv=>whnf))
 refine .ret _ ?_;conv=>whnf
 refine⟨[],⟨?_,rfl⟩,trivial⟩;conv=>lhs;whnf
theorem Mc:ai Tryz.prog 67 [.d (At tN),.d (wA tR)] [] (fun x r=>x= .d (.int .i64 0)∧r= []):=by
 have h:=Ot tN tR ⟨by simp[tN],by intro x hx;simp[tN]at hx;rcases hx with rfl|rfl<;>simp[O9]⟩ ⟨by simp[tR],by intro x hx;simp[tR]at hx;subst hx;simp[Pu]⟩;rwa [show al [AB tN,AV tR]=0 by decide]at h
end Go.Proofs.YtodakofifpaljaaGreatDoor
