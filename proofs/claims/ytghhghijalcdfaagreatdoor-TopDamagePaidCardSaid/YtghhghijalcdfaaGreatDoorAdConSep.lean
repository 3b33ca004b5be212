/- TopDamagePaid is proved: for every input the law returns true, and its argument reads afterwards as it read before. Conditions: those of the given row alone. -/
import Derived.Test.YtghhghijalcdfaaGreatDoorAdConSex
import Derived.Test.YtghhghijalcdfaaGreatDoorAdConTwo
import Derived.Test.YtghhghijalcdfaaGreatDoorAdEngTwo
import Derived.Test.YtghhghijalcdfaaGreatDoorAdConTri
import Derived.Test.YtghhghijalcdfaaGreatDoorAdConOne
set_option linter.unusedVariables false
set_option linter.unusedSimpArgs false
set_option maxHeartbeats 16000000
set_option maxRecDepth 20000
namespace Go.Proofs.YtghhghijalcdfaaGreatDoor
open Go Go.Eng
def oABlB9:TL:= [(1,[(0,[]),(4,[0]),(6,[0,4]),(1,[4,6]),(2,[4,6]),(3,[4,6]),(5,[6]),(7,[]),(8,[]),(9,[]),(10,[])]),(25,[(0,[]),(1,[]),(2,[0,1]),(3,[0,1]),(4,[2,3]),(5,[])])]
abbrev shB (l:List Pair):Res:=seqB 64 2 pF ([],0) l
def K0 (ps:List Pair):List Pair:=([],0)::ps.map fun p=>(p.1,0)
def W0 (ps:List Pair):List Int:=0::ps.map (·.2)
theorem K0_snoc (ps:List Pair)(k:List UInt8)(n:Int):K0 (ps++ [(k,n)])=K0 ps++ [(k,0)]:=by simp[K0]
theorem W0_snoc (ps:List Pair)(k:List UInt8)(n:Int):W0 (ps++ [(k,n)])=W0 ps++ [n]:=by simp[W0]
theorem K0_len (ps:List Pair):(K0 ps).length=ps.length+1:=by simp[K0]
theorem W0_len (ps:List Pair):(W0 ps).length=ps.length+1:=by simp[W0]
theorem W0_sum (ps:List Pair):(W0 ps).sum=(ps.map (·.2)).sum:=by simp[W0]
theorem prts_mem {v:List UInt8}{a b:Int}{l:List Hir}{p:Pair}(h:p ∈ prts v a b l):0<p.2∧∃g ∈ l,p.1=g.key:=by
 unfold prts at h;obtain⟨h1,h2⟩:=List.mem_filter.1 h;obtain⟨g,hg,rfl⟩:=List.mem_map.1 h1;exact⟨by simpa using h2,g,hg,rfl⟩
theorem prts_len (v:List UInt8)(a b:Int)(l:List Hir):(prts v a b l).length≤l.length:=by
 unfold prts;refine Nat.le_trans (List.length_filter_le _ _) ?_;simp
theorem hadA_len {v:List UInt8}{a b:Int}{l:List Hir}(hl:∀h ∈ l,h.legs.length≤20):∀i,i≤l.length→(hadA v a b l i).length≤20*i:=by
 intro i
 induction i with
 |zero=>intro _;simp[hadA]
 | succ i ih=>
   intro hi;rw[hadA_succ (by omega),List.length_append];have:=ih (by omega);have h2:=(hadN_ok v a b (l.getD i hi0).legs (l.getD i hi0).legs.length).1;have h3:=hl (l.getD i hi0) (getD_mem (by omega));unfold hadH;omega
theorem hadA_in (v:List UInt8)(a b:Int)(l:List Hir)(i:Nat):inW a b (hadA v a b l i):=fun x hx=>by
 unfold hadA at hx;obtain⟨h,_,hh⟩:=List.mem_flatMap.1 hx;exact(hadN_ok v a b h.legs h.legs.length).2 x hh
theorem hadA_sum (v:List UInt8)(a b:Int)(l:List Hir)(i:Nat):wlen (hadA v a b l i)=(W0 (prts v a b (l.take i))).sum:=by
 unfold hadA;rw[hadA_wlen,W0_sum,prts_sum]
theorem mkS_eq {c:Int}{ws Q:List Pair}(h1:Q.length=ws.length)(hl:(splitG c (ws.map (·.2))).length=ws.length)(h2:∀j,j<ws.length→(Q.getD j ([],0)).1=(ws.getD j ([],0)).1)
 (h3:∀j,j<ws.length→(Q.getD j ([],0)).2=(splitG c (ws.map (·.2))).getD j 0):Q=mkS c ws:=by
 unfold mkS;refine eq_of_getD ([],0) (by simp[h1,hl]) (fun j hj=> ?_);have hj':j<ws.length:=by omega
 have e:(List.zipWith (fun(p:Pair) (x:Int)=>((p.1,x):Pair)) ws (splitG c (ws.map (·.2)))).getD j ([],0)=((ws.getD j ([],0)).1,(splitG c (ws.map (·.2))).getD j 0):=by
  rw[List.getD_eq_getElem?_getD,List.getElem?_zipWith,List.getElem?_eq_getElem hj',List.getElem?_eq_getElem (by omega:j<(splitG c (ws.map (·.2))).length),List.getD_eq_getElem?_getD,List.getD_eq_getElem?_getD,List.getElem?_eq_getElem hj',List.getElem?_eq_getElem (by omega:j<(splitG c (ws.map (·.2))).length)];rfl
 rw[e,←h2 j hj',←h3 j hj']
theorem K0_get (P:List Pair)(j:Nat)(x:Int):((K0 P).getD j ([],0)).1=((([],x)::P:List Pair).getD j ([],0)).1:=by
 unfold K0
 cases j with
 |zero=>rfl
 | succ j=>
   rw[List.getD_cons_succ,List.getD_cons_succ,List.getD_eq_getElem?_getD,List.getElem?_map,List.getD_eq_getElem?_getD];cases P[j]? <;>rfl
theorem drop1_get (Q:List Pair)(j:Nat):(Q.drop 1).getD j ([],0)=Q.getD (1+j) ([],0):=by
 rw[List.getD_eq_getElem?_getD,List.getElem?_drop,←List.getD_eq_getElem?_getD]
def blE0 (v:List UInt8)(a b:Int)(l:List Hir):Int:=firstE [if(!isKeyB v)=true then 5 else 0,winE a b,hirsE l]
open Classical in
noncomputable def blmF (v:List UInt8)(a b:Int)(l:List Hir)(c:Int):List Pair×Int:=if blE0 v a b l=0 then blmE v a b l c else([],blE0 v a b l)
def blPost (q:List Pair×Int)(y:SV):Prop:=y= .tup [.d (pairs q.1),.d (.int .i64 q.2)]
theorem firstE2_0 (x:Int):firstE [x,0]=x:=by simp only[firstE];grind
theorem firstE2_ne (x:Int):firstE [x,1]≠0:=by simp only[firstE];grind
theorem rows_drop1 {W:List Int}{o:Int}:∀i,i<(W.drop 1).length→(bif Nat.beq (1+i) 0 then setAtD (rowF iF 0 W (1+i)) 0 [.int .i64 o]else rowF iF 0 W (1+i))=rowF iF 0 (W.drop 1) i:=by
 intro i hi;rw[nbeq_ne (by omega:1+i≠0)];simp only[cond_false,rowF];congr 1
 rw[List.getD_eq_getElem?_getD,List.getD_eq_getElem?_getD,List.getElem?_drop]
theorem getD_set_ne {α:Type}{l:List α}{i j:Nat}{x d:α}(h:i≠j):(l.set i x).getD j d=l.getD j d:=by
 rw[List.getD_eq_getElem?_getD,List.getElem?_set,if_neg h,List.getD_eq_getElem?_getD]
theorem getD_set_eq {α:Type}{l:List α}{i:Nat}{x d:α}(h:i<l.length):(l.set i x).getD i d=x:=by
 rw[List.getD_eq_getElem?_getD,List.getElem?_set];simp[h]
theorem getD_set_fst {Q:List Pair}{j k:Nat}{x:Int}:((Q.set j ((Q.getD j ([],0)).1,x)).getD k ([],0)).1=(Q.getD k ([],0)).1:=by
 by_cases h:j=k
 · subst h
   by_cases hj:j<Q.length
   · rw[getD_set_eq hj]
   · rw[List.set_eq_of_length_le (by omega)]
 · rw[getD_set_ne h]
theorem le_sum {l:List Int}(h:∀x ∈ l,0≤x):∀x ∈ l,x≤l.sum:=by
 induction l with
 |nil=>intro x hx;cases hx
 | cons y l ih=>
   intro x hx;have h1:=sum_nonneg fun z hz=>h z (List.mem_cons_of_mem _ hz)
   rw[List.sum_cons];rcases List.mem_cons.1 hx with rfl|q
   · omega
   · have:=ih (fun z hz=>h z (List.mem_cons_of_mem _ hz)) x q;have:=h y (by simp);omega
theorem hirs_seq {l:List Hir}(h:hirsE l=0):(∀g ∈ l,hirE g=0)∧∀i,0<i→i<l.length→strLe (l.getD i hi0).key (l.getD (i - 1) hi0).key=false:=by
 unfold hirsE at h;split at h
 · omega
 have hall:=firstAt_all h;refine⟨fun g hg=> ?_,fun i h0 hi=> ?_⟩
 · obtain⟨i,hi,rfl⟩:=mem_getD (d:=hi0) hg;have:=hall i hi;unfold hirsE1 at this;split at this
   · omega
   · rename_i q;exact Classical.not_not.1 q
 · have:=hall i hi;unfold hirsE1 at this;split at this
   · omega
   · split at this
     · omega
     · rename_i q
       cases e:strLe (l.getD i hi0).key (l.getD (i - 1) hi0).key with
       |false=>rfl
       |true=>exact absurd ⟨h0,e⟩ q
theorem z33 (v:List UInt8)(hv:v.length≤2^40)(a b:Int)(l:List Hir)(hok:hiOk l)(hl5:l.length≤20)(hl3:∀h ∈ l,h.legs.length≤20)(hpr:(prts v a b l).length≤18)(c:Int):
 FSpec Tryz.prog 9 [.d (.str v),.agg [.d (.int .i64 a),.d (.int .i64 b)],.d (hirs l),.d (.int .i64 c)] []
  (fun y r=>blPost (blmF v a b l c) y∧r= []):=by
 have c1:=s108 v hv;have c2:=z123 a b;have c3:=z124 l hok;obtain⟨E,hE⟩:∃E:Int,E=blE0 v a b l:=⟨_,rfl⟩;have c4:=s105 [if(!isKeyB v)=true then 5 else 0,winE a b,hirsE l] (by simp);rw[show firstE [if(!isKeyB v)=true then 5 else 0,winE a b,hirsE l]=E from hE.symm]at c4;refine spec_of hT (C:= [42,43]) Tryz.func9 rfl Tryz.call9 rfl rfl rfl ?_;conv=>whnf
 repeat' (first|(refine CallX.exact (c1) rfl rfl ?_;rotate_right;conv=>whnf)|(refine CallX.exact (s107 _ _) rfl rfl ?_;rotate_right;conv=>whnf)|(refine CallX.exact (c2) rfl rfl ?_;rotate_right;conv=>whnf)|(refine CallX.exact (c3) rfl rfl ?_;rotate_right;conv=>whnf)|((first|refine CallX.pure c4 ⟨SV.le_lit (by rfl) (by rfl),trivial⟩ rfl ?_|refine br_intro ?_ ?_<;>intro hb<;>try simp only[brs]at hb|refine tAx hT oABlB9 ?_|omega|refine sAx ?_|decide|assumption)<;>conv=>whnf))
 · refine .weak _ ?_;conv=>whnf
   refine⟨.tup [.d (pairs []),.d (.int .i64 E)],[],SV.le_tup ⟨SV.le_nilS,lr,trivial⟩,⟨?_,rfl⟩,trivial⟩;unfold blPost blmF;rw[if_neg (by rw[←hE];omega),←hE]
 have hE0:blE0 v a b l=0:=by omega
 have hF:blmF v a b l c=blmE v a b l c:=by unfold blmF;rw[if_pos hE0]
 have hw:winE a b=0:=by
  unfold blE0 at hE0;simp only[firstE]at hE0;grind
 have hh0:hirsE l=0:=by
  unfold blE0 at hE0;simp only[firstE]at hE0;grind
 have hseq:∀g ∈ l,lgSeq g.legs:=fun g hg=>lgSeq_of ((hirs_seq hh0).1 g hg)
 have hab:(0≤a∧a≤b)∧b≤5761440:=by unfold winE at hw;grind
 obtain⟨⟨ha0,hab⟩,hb0⟩:=hab;rw[hF];repeat' ((first|refine br_intro ?_ ?_<;>intro hb<;>try simp only[brs]at hb|refine tAx hT oABlB9 ?_|omega|refine sAx ?_|decide|assumption)<;>conv=>whnf)
 refine LoopX.rule hT (C:= [42,43]) (ι:=Nat) (fun i=>(i≤l.length∧disjW (hadA v a b l i))∧∀i',i'<i→∀j,j<(hadH v a b (l.getD i' hi0)).length→hitW (hadA v a b l i'++(hadH v a b (l.getD i' hi0)).take j) ((hadH v a b (l.getD i' hi0)).getD j vw0)=false)
  (fun i=>mkSt [(0,.d (.str v)),(3,.d (.int .i64 c)),(5,.ptr 5 0),(11,.d (.int .i64 (b - a - (W0 (prts v a b (l.take i))).sum))),(12,.buf 12),(13,.buf 13),(14,.buf 14),(44,.d (hirs l)),(45,.d (.int .i64 l.length)),(46,.d (.int .i64 i))] [(5,vwC (a,b)),(12,vwB (hadA v a b l i)),(13,shB (K0 (prts v a b (l.take i)))),(14,seqB 3 1 iF 0 (W0 (prts v a b (l.take i))))])
  (fun i=>l.length - i) 0 ⟨⟨by simp,List.Pairwise.nil⟩,fun i' h=>by omega⟩ ?_ ?_
 · exact(Entails.nil 12 12 55 2 (rowF vwF vw0 []) rfl rfl (by decide)).trans (by(refine Entails.mk' [(5,5),(12,12),(13,42),(14,43)] rfl rfl ?_ ?_<;>repeat' (first|exact True.intro|exact lr|exact rr|(exact SV.le_int (by simp[W0,prts]))|(exact Res.le_lit rfl rfl)|exact SV.le_int (by omega)|exact SV.le_any _|refine And.intro ?_ ?_));done)
 rintro i ⟨⟨p1,d1⟩,nh⟩;have hsum:=hadA_sum v a b l i;have hin:=hadA_in v a b l i;have hm:=disj_sum _ (hadA v a b l i) a b (Nat.le_refl _) d1 hin hab;have hAl:=hadA_len (v:=v) (a:=a) (b:=b) hl3 i p1;have hPl:=prts_len v a b (l.take i);have hPl:(prts v a b (l.take i)).length≤i:=by simp at hPl;omega
 have hs0:0≤(W0 (prts v a b (l.take i))).sum:=by
  rw[W0_sum,prts_sum];exact sum_nonneg fun x hx=>by obtain⟨h,_,rfl⟩:=List.mem_map.1 hx;exact hadS_nonneg v a b h
 have e1:=tnc i
 by_cases hi:i<l.length
 · have hHl:=hl3 (l.getD (i:Int).toNat hi0) (getD_mem (by omega));have c5:=z125 (l.getD (i:Int).toNat hi0) v a b (by omega);have hD0:=hadN_ok v a b (l.getD (i:Int).toNat hi0).legs (l.getD (i:Int).toNat hi0).legs.length;have hA1:=hadA_succ (v:=v) (a:=a) (b:=b) hi;have hP1:=prts_take (v:=v) (a:=a) (b:=b) hi;have hcl:=fun j hj hh=>clash_of (v:=v) (a:=a) (b:=b) hi (hseq _ (getD_mem hi)) (j:=j) hj hh
   rw[←e1]at hA1 hP1 hcl;simp only[Int.toNat_natCast]at hA1 hP1;obtain⟨D,hD⟩:∃D,D=hadN v a b (l.getD (i:Int).toNat hi0).legs (l.getD (i:Int).toNat hi0).legs.length:=⟨_,rfl⟩;have hDH:hadH v a b (l.getD i hi0)=D:=by rw[hD,e1];rfl
   have hDS:hadS v a b (l.getD i hi0)=wlen D:=by unfold hadS;rw[hDH]
   rw[←hD]at c5 hD0;obtain⟨hD1,hD2⟩:=hD0;have hD3:D.length≤20:=by omega
   conv=>whnf
   repeat' (first|(refine CallX.exact (c5) rfl rfl ?_;rotate_right;conv=>whnf)|((first|refine br_intro ?_ ?_<;>intro hb<;>try simp only[brs]at hb|refine tAx hT oABlB9 ?_|omega|refine sAx ?_|decide|assumption)<;>conv=>whnf))
   · refine LoopX.rule hT (C:= [42,43]) (ι:=Nat) (fun j=>(j≤D.length∧disjW (hadA v a b l i++D.take j))∧∀j',j'<j→hitW (hadA v a b l i++D.take j') (D.getD j' vw0)=false)
      (fun j=>mkSt [(0,.d (.str v)),(3,.d (.int .i64 c)),(5,.ptr 5 0),(11,.d (.int .i64 (b - a - (W0 (prts v a b (l.take i))).sum))),(12,.buf 12),(13,.buf 13),(14,.buf 14),(16,.ptr 16 0),(17,.d (.int .i64 (wlen (D.take j)))),(44,.d (hirs l)),(45,.d (.int .i64 l.length)),(46,.d (.int .i64 i)),(53,.d (wins D)),(54,.d (.int .i64 D.length)),(55,.d (.int .i64 j))] [(5,vwC (a,b)),(12,vwB (hadA v a b l i++D.take j)),(13,shB (K0 (prts v a b (l.take i)))),(14,seqB 3 1 iF 0 (W0 (prts v a b (l.take i)))),(16,hcell (l.getD (i:Int).toNat hi0))])
      (fun j=>D.length - j) 0 ⟨⟨by omega,by simpa using d1⟩,fun j' h=>by omega⟩ (by(refine Entails.mk' [(5,5),(12,12),(13,13),(14,14),(16,16)] rfl rfl ?_ ?_<;>repeat' (first|exact True.intro|exact lr|exact rr|(exact SV.le_int (by simp[wlen]))|(exact Res.le_buf (by simp) (fun i hi=>by simp))|exact SV.le_int (by omega)|exact SV.le_any _|refine And.intro ?_ ?_));done) ?_
     rintro j ⟨⟨q1,q3⟩,nj⟩;have f1:(j:Int).toNat=j:=Int.toNat_natCast j
     have q4:inW a b (hadA v a b l i++D.take j):=fun y hy=>by
      rcases List.mem_append.1 hy with q|q
      · exact hin y q
      · exact hD2 y (List.mem_of_mem_take q)
     have hm':=disj_sum _ (hadA v a b l i++D.take j) a b (Nat.le_refl _) q3 q4 hab;have hwa:wlen (hadA v a b l i++D.take j)=(W0 (prts v a b (l.take i))).sum+wlen (D.take j):=by rw[wlen_app,hsum]
     have hw0:0≤wlen (D.take j):=by
      unfold wlen
      exact sum_nonneg fun x hx=>by
       obtain⟨y,hy,rfl⟩:=List.mem_map.1 hx;have:=hD2 y (List.mem_of_mem_take hy);omega
     have hlen0:(hadA v a b l i++D.take j).length≤500:=by rw[List.length_append,List.length_take];omega
     have hlen:(hadA v a b l i++D.take j).length≤2^40:=by omega
     by_cases hj:j<D.length
     · have hx:=hD2 (D.getD (j:Int).toNat vw0) (getD_mem (by omega));obtain⟨x1,x2,x3⟩:=hx;have ht:D.take (j+1)=D.take j++ [D.getD (j:Int).toNat vw0]:=by rw[f1];exact take_snocD hj
       have c6:=z126 (D.getD (j:Int).toNat vw0) (hadA v a b l i++D.take j) hlen;have hI1:inI64 ((D.getD (j:Int).toNat vw0).2 - (D.getD (j:Int).toNat vw0).1):=by unfold inI64;omega
       have hI2:inI64 (wlen (D.take j)+((D.getD (j:Int).toNat vw0).2 - (D.getD (j:Int).toNat vw0).1)):=by unfold inI64;omega
       conv=>whnf
       repeat' ((first|(refine oEx c6 [(1000001,12),(1000002,19)] ?_)|refine And.intro hI1 ?_|refine And.intro hI2 ?_|refine br_intro ?_ ?_<;>intro hb<;>try simp only[brs]at hb|refine tAx hT oABlB9 ?_|omega|refine sAx ?_|decide|assumption)<;>conv=>whnf)
       · refine .weak _ ?_;conv=>whnf
         refine⟨.tup [.d (pairs []),.d (.int .i64 13)],[],SV.le_tup ⟨SV.le_nilS,lr,trivial⟩,⟨?_,rfl⟩,trivial⟩
         have hc:clash v a b l:=by
          refine clash_of (i:=i) hi (hseq _ (getD_mem hi)) (j:=j) (by rw[hDH];exact hj) ?_;rw[hDH];simpa [f1]using hb
         unfold blPost blmE;rw[if_pos hc]
       · have hno:hitW (hadA v a b l i++D.take j) (D.getD (j:Int).toNat vw0)=false:=by simpa using hb
         have hd:=disj_snoc q3 (hitW_no hno);rw[List.append_assoc,←ht]at hd;refine⟨j+1,⟨⟨by omega,hd⟩,fun j' hj' => ?_⟩,(show D.length - (j+1)<D.length - j by omega),Entails.mk' [(5,5),(12,65),(13,13),(14,14),(16,16)] rfl rfl ⟨lr,lr,lr,lr,lr,lr,lr,lr,SV.le_int ?_,lr,lr,lr,lr,lr,SV.le_int (by omega),trivial⟩ ⟨rr,?_,rr,rr,rr,trivial⟩⟩
         · rcases Nat.lt_or_ge j' j with q|q
           · exact nj j' q
           · have:j' =j:=by omega
             subst this;rw[f1]at hno;exact hno
         · rw[ht,wlen_app,wlen_cons];simp[wlen]
         · rw[ht,←List.append_assoc];exact Res.le_snocF rfl
     · have hjD:j=D.length:=by omega
       have hall:D.take j=D:=by rw[hjD,List.take_length]
       have hnh:∀i',i'<i+1→∀j,j<(hadH v a b (l.getD i' hi0)).length→hitW (hadA v a b l i'++(hadH v a b (l.getD i' hi0)).take j) ((hadH v a b (l.getD i' hi0)).getD j vw0)=false:=fun i' hi' k hk=>by
        rcases Nat.lt_or_ge i' i with q|q
        · exact nh i' q k hk
        · have:i' =i:=by omega
          subst this;rw[hDH]at hk ⊢;exact nj k (by omega)
       have hA2:hadA v a b l (i+1)=hadA v a b l i++D:=by rw[hadA_succ hi,hDH]
       rw[hall]at q3 hwa hw0 hm' ⊢;have hKl:=K0_len (prts v a b (l.take i));have hWl:=W0_len (prts v a b (l.take i));conv=>whnf
       repeat' ((first|refine br_intro ?_ ?_<;>intro hb<;>try simp only[brs]at hb|refine tAx hT oABlB9 ?_|omega|refine sAx ?_|decide|assumption)<;>conv=>whnf)
       all_goals try(exfalso;omega)
       · have hP2:prts v a b (l.take (i+1))=prts v a b (l.take i)++ [((l.getD (i:Int).toNat hi0).key,wlen D)]:=by
          rw[prts_take hi,hDS,if_pos (by omega),e1]
         refine⟨i+1,⟨⟨by omega,by rw[hA2];exact q3⟩,hnh⟩,(show l.length - (i+1)<l.length - i by omega),?_⟩;rw[hA2,hP2,K0_snoc,W0_snoc];exact Entails.mk' [(5,5),(12,12),(13,81),(14,85)] rfl rfl ⟨lr,lr,lr,SV.le_int (by simp;omega),lr,lr,lr,lr,lr,SV.le_int (by omega),trivial⟩ ⟨rr,rr,Res.le_snocF rfl,Res.le_snocF rfl,trivial⟩
       · have hP2:prts v a b (l.take (i+1))=prts v a b (l.take i):=by
          rw[prts_take hi,hDS,if_neg (by omega),List.append_nil]
         refine⟨i+1,⟨⟨by omega,by rw[hA2];exact q3⟩,hnh⟩,(show l.length - (i+1)<l.length - i by omega),?_⟩;rw[hA2,hP2];exact(by exact eAx [(5,5),(12,12),(13,13),(14,14)])
 · have hil:i=l.length:=by omega
   have hnc:¬clash v a b l:=no_clash fun i' hi' =>nh i' (by omega)
   have htk:l.take i=l:=by rw[hil,List.take_length]
   rw[htk]at hsum hPl hs0 ⊢;obtain⟨P,hP⟩:∃P,P=prts v a b l:=⟨_,rfl⟩
   have hPk:∀p ∈ P,0<p.2:=fun p hp=>by
    rw[hP]at hp;obtain⟨q1,g,hg,q2⟩:=prts_mem hp;exact q1
   have hoff:offi v a b l=b - a - (W0 P).sum:=by unfold offi;rw[hP,W0_sum,prts_sum]
   rw[←hP]at hsum hPl hs0 hpr ⊢;have hWl:=W0_len P;have hKl:=K0_len P;have hWs:=W0_sum P
   have hw1:∀x ∈ W0 P,0≤x:=fun x hx=>by
    unfold W0 at hx;rcases List.mem_cons.1 hx with q|q
    · omega
    · obtain⟨p,hp,rfl⟩:=List.mem_map.1 q;have:=hPk p hp;omega
   have hset:(W0 P).set 0 (b - a - (W0 P).sum)=(b - a - (W0 P).sum)::P.map (·.2):=rfl;have hW0s:((W0 P).set 0 (b - a - (W0 P).sum)).sum=b - a:=by rw[hset,List.sum_cons];omega
   have hW0b:∀x ∈ (W0 P).set 0 (b - a - (W0 P).sum),0≤x∧x≤5761440:=fun x hx=>by
    have h0:∀x ∈ (W0 P).set 0 (b - a - (W0 P).sum),0≤x:=fun x hx=>by
     rcases List.mem_or_eq_of_mem_set hx with q|q
     · exact hw1 x q
     · omega
    have:=le_sum h0 x hx;have:=h0 x hx;omega
   have hdrop:(W0 P).drop 1=P.map (·.2):=rfl;have hW1b:∀x ∈ P.map (·.2),0≤x∧x≤5761440:=fun x hx=>hW0b x (by rw[hset];exact List.mem_cons_of_mem _ hx)
   have hOl:(K0 P).length≤19:=by omega
   have hsub:SV.le (SV.sub 13 2 (1:Int).toNat ((((K0 P).length:Nat):Int) - 1).toNat) (SV.sub 13 2 1 ((K0 P).length - 1)):=by
    rw[show(1:Int).toNat=1 from rfl,show((((K0 P).length:Nat):Int) - 1).toNat=(K0 P).length - 1 by omega];exact lr
   have hpos:b - a - (W0 P).sum=0→(K0 P).length≤1→a=b:=fun q1 q2=>by
    have:P= []:=List.eq_nil_of_length_eq_zero (by omega);rw[this]at hWs q1;simp at hWs;rw[hWs]at q1;omega
   by_cases hc:0≤c∧c≤1000000000
   · have c6:=s119 c 0 1000000000;rw[decide_eq_true hc]at c6;have s1:a<b→FSpec Tryz.prog 30 [.d (.int .i64 c),.d (ints ((W0 P).set 0 (b - a - (W0 P).sum)))] [] (fun y r=>y= .d (ints (splitG c ((W0 P).set 0 (b - a - (W0 P).sum))))∧r= []):=fun q=>s120 c _ hc hW0b (by simp;omega) (by omega) (left_bound c _ hc.1 (fun x hx=>(hW0b x hx).1) (by omega))
     have hl1:a<b→(splitG c ((W0 P).set 0 (b - a - (W0 P).sum))).length=P.length+1:=fun q=>by rw[splitG_eq c _ (left_bound c _ hc.1 (fun x hx=>(hW0b x hx).1) (by omega)),rngL_length];simp;omega
     have s2:b - a - (W0 P).sum=0→a<b→FSpec Tryz.prog 30 [.d (.int .i64 c),.d (ints (P.map (·.2)))] [] (fun y r=>y= .d (ints (splitG c (P.map (·.2))))∧r= []):=fun p q=>
      s120 c (P.map (·.2)) hc hW1b (by simp;omega) (by omega) (left_bound c _ hc.1 (fun x hx=>(hW1b x hx).1) (by omega))
     have hl2:b - a - (W0 P).sum=0→a<b→(splitG c (P.map (·.2))).length=P.length:=fun p q=>by
      rw[splitG_eq c _ (left_bound c _ hc.1 (fun x hx=>(hW1b x hx).1) (by omega)),rngL_length];simp
     have hB:a<b→blmE v a b l c=(mkS c (wtsP v a b l),0):=fun q=>by
      unfold blmE;rw[if_neg hnc,if_neg (by omega),if_neg (by omega)]
     have hw2:b - a - (W0 P).sum=0→wtsP v a b l=P:=fun q=>by unfold wtsP;rw[hoff,if_neg (by omega),hP]
     have hw3:0<b - a - (W0 P).sum→wtsP v a b l=([],b - a - (W0 P).sum)::P:=fun q=>by unfold wtsP;rw[hoff,if_pos q,hP]
     rw[hset]at s1 hl1;generalize hG1:splitG c ((b - a - (W0 P).sum)::P.map (·.2))=P1 at s1 hl1;generalize hG2:splitG c (P.map (·.2))=P2 at s2 hl2;conv=>whnf
     repeat' (first|(refine CallX.exact (c6) rfl rfl ?_;rotate_right;conv=>whnf)|(refine CallX.exact (s107 _ _) rfl rfl ?_;rotate_right;conv=>whnf)|((first|refine CallX.pure (s105 [_,0] (by simp)) ⟨SV.le_lit (by rfl) (by rfl),trivial⟩ rfl ?_|(refine CallX.freeze _ _ _ _ 14 3 1 _ _ rfl rfl ?_;(first|refine CallX.pure (s1 (by omega)) ⟨lr,SV.le_putF (fun _ _=>rfl),trivial⟩ rfl ?_|refine CallX.pure (s2 (by omega) (by omega)) ⟨lr,SV.le_ro (by first|(simp;done)|(simp;omega)) (fun i hi=>rows_drop1 (W:=W0 P) i (by simp at hi ⊢;omega)),trivial⟩ rfl ?_))|refine br_intro ?_ ?_<;>intro hb<;>try simp only[brs]at hb|refine tAx hT oABlB9 ?_|omega|refine sAx ?_|decide|assumption)<;>conv=>whnf))
     all_goals try(exfalso;rw[firstE2_0]at*;simp at*;omega)
     all_goals first
      | (refine .weak _ ?_
         conv=>whnf
         refine⟨.tup [.d (pairs [([],c)]),.d (.int .i64 0)],[],SV.le_tup ⟨SV.le_lit rfl rfl,lr,trivial⟩,⟨?_,rfl⟩,trivial⟩;unfold blPost blmE
         rw[if_neg hnc,if_neg (by omega),if_pos (by omega)])
      |skip
     · have hlt:a<b:=by omega
       have ho0:b - a - (W0 P).sum=0:=by omega
       have hlP:=hl2 ho0 hlt
       refine LoopX.rule hT (C:= [42,43]) (ι:=List Pair×Nat) (fun(Q,i)=>(i≤P2.length∧Q.length=P.length+1)∧(∀j,j<i→(Q.getD (1+j) ([],0)).2=P2.getD j 0)∧∀j,(Q.getD j ([],0)).1=((K0 P).getD j ([],0)).1)
        (fun(Q,i)=>mkSt [(13,.sub 13 2 1 ((K0 P).length - 1)),(127,.d (ints P2)),(128,.d (.int .i64 P2.length)),(129,.d (.int .i64 i))] [(13,shB Q)]) (fun(_,i)=>P2.length - i) (K0 P,0) ⟨⟨by simp,hKl⟩,by simp,fun _=>rfl⟩ (by(refine Entails.mk' [(13,13)] rfl rfl ?_ ?_<;>repeat' (first|exact True.intro|exact lr|exact rr|(exact hsub)|exact SV.le_int (by omega)|exact SV.le_any _|refine And.intro ?_ ?_));done) ?_
       rintro⟨Q,i⟩ ⟨⟨g1,g2⟩,g3,g4⟩;have g1:i≤P2.length:=g1;have g2:Q.length=P.length+1:=g2;have e1:=tnc i;conv=>whnf
       repeat' ((first|refine br_intro ?_ ?_<;>intro hb<;>try simp only[brs]at hb|refine tAx hT oABlB9 ?_|omega|refine sAx ?_|decide|assumption)<;>conv=>whnf)
       · refine⟨(Q.set (1+(i:Int).toNat) ((Q.getD (1+(i:Int).toNat) ([],0)).1,P2.getD (i:Int).toNat 0),i+1),⟨⟨by omega,by simpa using g2⟩,fun j hj=> ?_,fun j=> ?_⟩,(show P2.length - (i+1)<P2.length - i by omega),Entails.mk' [(13,13)] rfl rfl ⟨lr,lr,lr,lr,trivial⟩ ⟨Res.le_upd (f:=pF) (fun p:Pair=>(p.1,P2.getD (i:Int).toNat 0)) (fun _=>rfl),trivial⟩⟩
         · show((Q.set (1+(i:Int).toNat) _).getD (1+j) ([],0)).2=_;rw[e1]
           by_cases q:j=i
           · subst q;rw[getD_set_eq (by omega)]
           · rw[getD_set_ne (by omega)];exact g3 j (by have:j<i+1:=hj;omega)
         · exact getD_set_fst.trans (g4 j)
       · have hi:i=P2.length:=by omega
         refine .freeze _ 13 64 2 _ _ rfl ?_;refine .ent _ _ (Entails.froSub 8 13 2 1 ((K0 P).length - 1) _ _ rfl rfl) ?_;refine .weak _ ?_;conv=>whnf
         refine⟨.tup [.d (pairs (Q.drop 1)),.d (.int .i64 0)],[],SV.le_tup ⟨SV.le_drop (by simp[g2,hKl]),lr,trivial⟩,⟨?_,rfl⟩,trivial⟩;unfold blPost;rw[hB hlt,hw2 ho0]
         have:Q.drop 1=mkS c P:=by
          refine mkS_eq (by simp;omega) (by rw[hG2];exact hlP) (fun j hj=> ?_) (fun j hj=> ?_)
          · rw[drop1_get,g4,K0_get P _ 0,Nat.add_comm 1 j,List.getD_cons_succ]
          · rw[drop1_get,hG2];exact g3 j (by omega)
         rw[this]
     all_goals
      have hlt:a<b:=by omega
      have ho1:0<b - a - (W0 P).sum:=by
       have:=hpos;omega
      have hlP:=hl1 hlt
      refine LoopX.rule hT (C:= [42,43]) (ι:=List Pair×Nat) (fun(Q,i)=>(i≤P1.length∧Q.length=P.length+1)∧(∀j,j<i→(Q.getD j ([],0)).2=P1.getD j 0)∧∀j,(Q.getD j ([],0)).1=((K0 P).getD j ([],0)).1)
       (fun(Q,i)=>mkSt [(13,.buf 13),(127,.d (ints P1)),(128,.d (.int .i64 P1.length)),(129,.d (.int .i64 i))] [(13,shB Q)]) (fun(_,i)=>P1.length - i) (K0 P,0) ⟨⟨by simp,hKl⟩,by simp,fun _=>rfl⟩ (by exact eAx [(13,13)]) ?_
      rintro⟨Q,i⟩ ⟨⟨g1,g2⟩,g3,g4⟩;have g1:i≤P1.length:=g1;have g2:Q.length=P.length+1:=g2;have e1:=tnc i;conv=>whnf
      repeat' ((first|refine br_intro ?_ ?_<;>intro hb<;>try simp only[brs]at hb|refine tAx hT oABlB9 ?_|omega|refine sAx ?_|decide|assumption)<;>conv=>whnf)
      · refine⟨(Q.set (i:Int).toNat ((Q.getD (i:Int).toNat ([],0)).1,P1.getD (i:Int).toNat 0),i+1),⟨⟨by omega,by simpa using g2⟩,fun j hj=> ?_,fun j=> ?_⟩,(show P1.length - (i+1)<P1.length - i by omega),Entails.mk' [(13,13)] rfl rfl ⟨lr,lr,lr,lr,trivial⟩ ⟨Res.le_upd (f:=pF) (fun p:Pair=>(p.1,P1.getD (i:Int).toNat 0)) (fun _=>rfl),trivial⟩⟩
        · show((Q.set (i:Int).toNat _).getD j ([],0)).2=_;rw[e1]
          by_cases q:j=i
          · subst q;rw[getD_set_eq (by omega)]
          · rw[getD_set_ne (by omega)];exact g3 j (by have:j<i+1:=hj;omega)
        · exact getD_set_fst.trans (g4 j)
      · have hi:i=P1.length:=by omega
        refine .freeze _ 13 64 2 _ _ rfl (.weak _ ?_);conv=>whnf
        refine⟨.tup [.d (pairs Q),.d (.int .i64 0)],[],SV.le_tup ⟨lr,lr,trivial⟩,⟨?_,rfl⟩,trivial⟩;unfold blPost;rw[hB hlt,hw3 ho1]
        have:Q=mkS c (([],b - a - (W0 P).sum)::P):=by
         refine mkS_eq (by simpa using g2) (by rw[List.map_cons,hG1];simpa using hlP) (fun j hj=> ?_) (fun j hj=> ?_)
         · rw[g4,K0_get P j (b - a - (W0 P).sum)]
         · rw[List.map_cons,hG1];exact g3 j (by simp at hj;omega)
        rw[←this]
   · have c6:=s119 c 0 1000000000;rw[decide_eq_false hc]at c6
     have hB:blmE v a b l c=([],1):=by
      unfold blmE;rw[if_neg hnc,if_pos hc]
     conv=>whnf
     repeat' (first|(refine CallX.exact (c6) rfl rfl ?_;rotate_right;conv=>whnf)|(refine CallX.exact (s107 _ _) rfl rfl ?_;rotate_right;conv=>whnf)|((first|refine CallX.pure (s105 [_,1] (by simp)) ⟨SV.le_lit (by rfl) (by rfl),trivial⟩ rfl ?_|refine br_intro ?_ ?_<;>intro hb<;>try simp only[brs]at hb|refine tAx hT oABlB9 ?_|omega|refine sAx ?_|decide|assumption)<;>conv=>whnf))
     all_goals first
      |(exfalso;exact firstE2_ne _ (by assumption))
      | (refine .weak _ ?_
         conv=>whnf
         refine⟨.tup [.d (pairs []),.d (.int .i64 _)],[],SV.le_tup ⟨SV.le_nilS,lr,trivial⟩,⟨?_,rfl⟩,trivial⟩;unfold blPost;rw[hB];congr 4
         simp only[firstE];grind)
theorem vmO_has {l:List Veh}{k:List UInt8}(h:(vmO l).has k=true):0≤veIx l k:=by
 have key:∀ (l:List Veh) (m:Mp (List UInt8)),(l.foldl (fun m v=>m.put v.key v.cls) m).has k=true→m.has k=true∨∃v ∈ l,v.key=k:=by
  intro l
  induction l with
  |nil=>intro m h;exact .inl h
  | cons v l ih=>
    intro m h;rcases ih _ h with q|⟨w,q1,q2⟩
    · have q:(decide (k=v.key)||m.has k)=true:=q;rw[Bool.or_eq_true,decide_eq_true_eq]at q;rcases q with q|q
      · exact .inr ⟨v,by simp,q.symm⟩
      · exact .inl q
    · exact .inr ⟨w,by simp[q1],q2⟩
 rcases key l _ h with q|⟨v,q1,q2⟩
 · cases q
 · obtain⟨j,hj,rfl⟩:=mem_getD (d:=veh0) q1;exact ixF_pos hj (by show((l.getD j veh0).key==k)=true;rw[q2];simp)
theorem smO_has {l:List Sta}{k:List UInt8}(h:(smO l).val k=true):stHas l k=true:=by
 obtain⟨s,h1,h2⟩:=smO_val h;obtain⟨j,hj,rfl⟩:=mem_getD (d:=sta0) h1;unfold stHas stIx;rw[decide_eq_true_eq];exact ixF_pos hj (by show((l.getD j sta0).key==k)=true;rw[h2];simp)
theorem fltE_parts {f:Flt}(h:fltE f=0):stasE f.sta=0∧vehS f.veh:=by
 unfold fltE at h
 by_cases q:fltE0 f=0
 · rw[if_neg (fun c=>c q)]at h
   by_cases r:firstAt (vehE1 f) f.veh.length=0
   · exact⟨firstE_mem q _ (List.mem_cons_self ..),vehE_sorted r⟩
   · rw[if_pos r]at h;exact absurd h r
 · rw[if_pos q]at h;exact absurd h q
theorem log_right {h:Hou}{l:List Ent}(k:offH h l):(∀i,i<(isort evCmp (offZ h l).log).length→evG h.flt ((isort evCmp (offZ h l).log).getD i ev0))∧
 (∀i,0<i→i<(isort evCmp (offZ h l).log).length→evCmp ((isort evCmp (offZ h l).log).getD (i - 1) ev0) ((isort evCmp (offZ h l).log).getD i ev0)<0)∧∀v,chn ss0 (byV v (isort evCmp (offZ h l).log)):=by
 obtain⟨t1,h1,hb,hc⟩:=offZ_BC h (smO_nil k.hE) (ents_iff.1 k.lE);have hI:offI (2*l.length) l.length (offZ h l):=offN_I h _ _ l l.length (Nat.le_refl _);refine⟨fun i hi=> ?_,fun i h0 hi=> ?_,fun v=> ?_⟩
 · have hm:(isort evCmp (offZ h l).log).getD i ev0 ∈ (offZ h l).log:=(isort_perm evCmp _).mem_iff.1 (getD_mem hi);have g:=hb.rt _ hm;exact⟨g.tm,vmO_has g.veh,smO_has g.st,g.kind,g.to,fun q=>smO_has (g.lv q),g.ne⟩
 · have hs:=(pw_getD ev0).1 (isort_srt evCmp_ord (offZ h l).log) (i - 1) i (by omega) hi;have ha:(isort evCmp (offZ h l).log).Pairwise fun a b=>¬ (a.veh=b.veh∧a.tm=b.tm):=(isort_perm evCmp _).symm.pairwise hI.apt fun{a b} q e=>q ⟨e.1.symm,e.2.symm⟩
   have hn:=(pw_getD ev0).1 ha (i - 1) i (by omega) hi;have hz:evCmp ((isort evCmp (offZ h l).log).getD (i - 1) ev0) ((isort evCmp (offZ h l).log).getD i ev0)≠0:=fun e=>hn ⟨(evCmp_zero e).2,(evCmp_zero e).1⟩
   omega
 · rw[byV_sort hb hI.apt v];exact hb.ok v
theorem sp_le {a b:Int}(hab:a≤b)(hb:b≤5761440):∀ (l:List Evn) (p:Stt×Int),chn p.1 l→(0≤p.2∧p.2≤Fc a b p.1.sin)→p.1.sin≤5761440→(∀x ∈ l,p.1.sin≤x.tm∧x.tm≤5761440)→l.Pairwise (fun x y=>x.tm≤y.tm)→
 0≤spE a b 2 (l.foldl (spN a b 2) p)∧spE a b 2 (l.foldl (spN a b 2) p)≤b - a
 | [],p,_,h,hs,_,_=>by
   have c1:=com_F (a:=a) (b:=b) (c:=p.1.sin) (d:=5761440) hab hs;have c2:=com_nn a b p.1.sin 5761440;have e:Fc a b 5761440=b - a:=by unfold Fc;omega
   have f0:Fc a b p.1.sin≤b - a:=by unfold Fc;omega
   show 0≤spE a b 2 p∧spE a b 2 p≤b - a;unfold spE
   split<;>omega
 | x ::l,p,hc,h,hs,ht,hp=>by
   rw[List.pairwise_cons]at hp;have hx:=ht x (by simp)
   have hsn:(folS p.1 x).sin=x.tm:=by
    unfold folS;rw[if_pos hc.1];repeat' split
    all_goals rfl
   have c1:=com_F (a:=a) (b:=b) (c:=p.1.sin) (d:=x.tm) hab hx.1;have c2:=com_nn a b p.1.sin x.tm;have f1:Fc a b p.1.sin≤Fc a b x.tm:=by omega
   refine sp_le hab hb l (spN a b 2 p x) hc.2 ?_ (by show(folS p.1 x).sin≤_;rw[hsn];exact hx.2) (fun y hy=>⟨by show(folS p.1 x).sin≤_;rw[hsn];exact hp.1 y hy,(ht y (by simp[hy])).2⟩) hp.2;show 0≤p.2+(if p.1.k=2 then com a b p.1.sin x.tm else 0)∧p.2+(if p.1.k=2 then com a b p.1.sin x.tm else 0)≤Fc a b (folS p.1 x).sin;rw[hsn];split<;>omega
theorem splitG_bd {c:Int}{w:List Int}(hc:0≤c)(hw:∀x ∈ w,0≤x)(hs:0<w.sum):∀x ∈ splitG c w,0≤x∧x≤c+1:=fun x hx=>by
 rw[splitG_eq c w (left_bound c w hc hw hs)]at hx;obtain⟨j,hj,rfl⟩:=List.mem_map.1 hx;have hj:=List.mem_range.1 hj;have hm:=getD_mem (x:=(0:Int)) hj;have h1:=hw _ hm;have h2:=le_sum hw _ hm;unfold splitE partG;have h0:0≤c*w.getD j 0:=Int.mul_nonneg hc h1;have h3:c*w.getD j 0≤c*w.sum:=Int.mul_le_mul_of_nonneg_left h2 hc;have h4:(c*w.getD j 0).tdiv w.sum=c*w.getD j 0/w.sum:=Int.tdiv_eq_ediv_of_nonneg h0;have h5:0≤c*w.getD j 0/w.sum:=Int.ediv_nonneg h0 (by omega)
 have h6:c*w.getD j 0/w.sum≤c:=by
  have:=Int.ediv_le_ediv hs h3;rw[Int.mul_ediv_cancel _ (by omega)]at this;exact this
 rw[h4];split<;>omega
theorem ev0_I:evI off0:=fun φ=>by
 have e:keysS off0.his.has= []:=List.eq_nil_iff_forall_not_mem.2 fun k hk=>by
  have:=((keysS_spec (L:= []) (fun k q=>by cases q)).2.2 k).1 hk;cases this
 rw[e];rfl
structure dmgOk (a b c:Int)(S:List Pair)(t:Int):Prop where
 sum:(S.map (·.2)).sum=c
 off:paidF S=(c*(b - a - t)).tdiv (b - a)∨paidF S=(c*(b - a - t)).tdiv (b - a)+1
 bd:∀p ∈ S,0≤p.2∧p.2≤c+1
 len:S.length≤20
 hired:0≤t∧t≤b - a
theorem dmg_all {h:Hou}{l:List Ent}(k:offH h l)(hl:l.length≤20){v:List UInt8}(hv:isKeyB v=true){a b c:Int}(hab:0≤a∧a<b∧b≤5761440)(hc:0≤c∧c≤1000000000):
 (prts v a b (hirZ h l)).length≤18∧(∀g ∈ hirZ h l,g.legs.length≤20)∧∃S,blmF v a b (hirZ h l) c=(S,0)∧dmgOk a b c S (spK a b 2 (byV v (isort evCmp (offZ h l).log))):=by
 obtain⟨t1,h1,hb,hC⟩:=offZ_BC h (smO_nil k.hE) (ents_iff.1 k.lE);have hI:offI (2*l.length) l.length (offZ h l):=offN_I h _ _ l l.length (Nat.le_refl _)
 have htm:∀x ∈ l,0≤x.tm:=fun x hx=>by
  have:=(ents_iff.1 k.lE).frm x hx;unfold frmE at this
  by_cases q:0≤x.tm∧x.tm≤5761439
  · exact q.1
  · rw[if_pos q]at this;exact absurd this (by decide)
 have e0:offZ h l={runC h (vmO h.flt.veh) (smO h.flt.sta) off0 l with ref:=(offZ h l).ref}:=by
  unfold offZ offN;rw[List.take_length]
 have hev:evI (offZ h l):=by
  rw[e0];exact runC_evI h l off0_I ev0_I htm
 have hcn:evC l.length (offZ h l):=by
  rw[e0];have:=runC_evC (c:=0) (vm:=vmO h.flt.veh) (sm:=smO h.flt.sta) h l off0_I (fun v=>Nat.le_refl _);rw[Nat.zero_add]at this;exact this
 obtain⟨r1,r2,r3,r4⟩:=hires_rightK k;have hp:=prts_few hI hb hev hcn v a b;have hnc:=no_clashL hI hC v a b;have hof:=offi_log (a:=a) (b:=b) hI hb h1 hev (by omega) v;have hz:hirZ h l=(keysS (offZ h l).his.has).map (hirG (offZ h l).his):=rfl;rw[←hz]at hp hnc hof;have hlg:∀g ∈ hirZ h l,g.legs.length≤20:=fun g hg=>(hir_parts ((hirs_seq r2).1 g hg)).1.2.2.2
 have hsp:=sp_le (a:=a) (b:=b) (by omega) hab.2.2 (byV v (offZ h l).log) (ss0,0) (hb.ok v) ⟨Int.le_refl _,by show(0:Int)≤Fc a b 0;unfold Fc;omega⟩ (by decide) (fun x hx=>by
  have:=(hb.rt x (List.mem_filter.1 hx).1).tm
  exact⟨this.1,by omega⟩) (hb.inc.sublist List.filter_sublist)
 rw[byV_sort hb hI.apt v];have hsK:spK a b 2 (byV v (offZ h l).log)=spE a b 2 ((byV v (offZ h l).log).foldl (spN a b 2) (ss0,0)):=rfl;rw[←hsK]at hsp;generalize spK a b 2 (byV v (offZ h l).log)=T at hof hsp ⊢;have h0:0≤offi v a b (hirZ h l):=by omega
 have hkey:∀g ∈ hirZ h l,g.key≠ []:=fun g hg q=>by
  have:=(hir_parts ((hirs_seq r2).1 g hg)).1.1.1;rw[q]at this;cases this
 obtain⟨d1,d2⟩:=dmg (v:=v) (a:=a) (b:=b) (c:=c) (l:=hirZ h l) hab.2.1 hc.1 h0 hkey;have hs:=wtsP_sum (v:=v) (a:=a) (b:=b) (l:=hirZ h l) h0
 have hlen:(wtsP v a b (hirZ h l)).length≤(prts v a b (hirZ h l)).length+1:=by
  unfold wtsP;split<;>simp
 refine⟨by omega,hlg,mkS c (wtsP v a b (hirZ h l)),?_,d1,by rw[hof]at d2;exact d2,fun p hp=> ?_,?_,hsp⟩
 · have e1:blE0 v a b (hirZ h l)=0:=by
    unfold blE0;rw[hv,r2,show winE a b=0 from if_pos ⟨⟨by omega,by omega⟩,by omega⟩];rfl
   unfold blmF blmE;rw[if_pos e1,if_neg hnc,if_neg (fun q=>q hc),if_neg (by omega)]
 · unfold mkS at hp
   have:p.2 ∈ splitG c ((wtsP v a b (hirZ h l)).map (·.2)):=by
    obtain⟨i,hi,e⟩:=List.mem_iff_getElem.1 hp;rw[List.getElem_zipWith]at e;rw[←e];exact List.getElem_mem _
   exact splitG_bd hc.1 (wtsP_nn v a b _) (by rw[hs];omega) _ this
 · unfold mkS;rw[List.length_zipWith];omega
end Go.Proofs.YtghhghijalcdfaaGreatDoor
namespace Go.Eng
open Go
variable {A:Amb} {G:Hp} {β:Env} {s:St} {t:Array Value} {w:World}
theorem Entails.bunchNew (e k:Nat)(hk:0<k)(hu:s.used 999999=false):Entails s (s.app ⟨none,.any,[(999999,some (.bunch e k []))],[999999]⟩):=by
 refine⟨fun A a w=> ?_⟩;rintro⟨h0,G,β,h⟩;exact⟨h0,G,_,h.bunchNew hk hu⟩
theorem MG.bunchFreeAll {q e k:Nat}:∀ (l:List (Value×Nat×(Nat→List DV))) {G:Hp} {s:St},MG A G β s t w→s.res q=some (.bunch e k l)→
 ∃G',G.le G'∧(∀p ∈ l,DV.Den G' (.ro k p.2.1 p.2.2) p.1)∧MG A G' β (s.app ⟨none,.any,[(q,some (.bunch e k []))],[]⟩) t w:=by
 intro l
 induction l with
 | nil =>
   intro G s h hq;refine⟨G,Hp.le_refl G,fun p hp=>(by cases hp),?_⟩
   have:s.app ⟨none,.any,[(q,some (.bunch e k []))],[]⟩=s:=by
    cases s with
    | mk tm rs us=>
      simp only[St.app,St.mk.injEq];refine⟨rfl,?_,rfl⟩;funext x
      simp only[putR_apply,lookR]
      by_cases c:x=q
      · subst c;simpa using hq.symm
      · rw[nbeq_ne c];rfl
   rw[this];exact h
 | cons p l ih=>
   obtain⟨v,n,get⟩:=p;intro G s h hq;obtain⟨G1,h1,h2,h3⟩:=h.bunchFree hq;obtain⟨G2,k1,k2,k3⟩:=ih h3 (by simp[St.app,putR_apply,lookR]);refine⟨G2,Hp.le_trans h1 k1,fun p hp=> ?_,?_⟩
   · rcases List.mem_cons.1 hp with rfl|hp
     · exact h2.mono k1
     · exact k2 p hp
   · have:(s.app ⟨none,.any,[(q,some (.bunch e k l))],[]⟩).app ⟨none,.any,[(q,some (.bunch e k []))],[]⟩=s.app ⟨none,.any,[(q,some (.bunch e k []))],[]⟩:=by
      simp only[St.app,St.mk.injEq];refine⟨rfl,?_,rfl⟩;funext x
      simp only[putR_apply,lookR]
      by_cases c:x=q
      · subst c;simp
      · rw[nbeq_ne c];rfl
     rw[this]at k3;exact k3
theorem Entails.bunchFro {q e k e2 k2 N:Nat}{l:List (Value×Nat×(Nat→List DV))}{get:Nat→List DV}(get':Nat→List DV)(hb:s.res 999999=some (.bunch e k l))(hq:s.res q=some (.buf e2 k2 N get))
 (hl:∀i,i<N→(get' i).length=(get i).length)
 (hg:∀ (i j:Nat) (x:DV),i<N→(get' i)[j]? =some x→(get i)[j]? =some x∨∃p ∈ l,(get i)[j]? =some (.opq p.1)∧∀G v,DV.Den G (.ro k p.2.1 p.2.2) v→DV.Den G x v):
 Entails s (s.app ⟨none,.any,[(999999,none),(q,some (.buf e2 k2 N get'))],[]⟩):=by
 refine⟨fun A a w=> ?_⟩;rintro⟨h0,G,β,h⟩;obtain⟨G',h1,h2,h3⟩:=MG.bunchFreeAll l h hb;have hne:¬q=999999:=fun c=>by rw[c,hb]at hq;cases hq
 have hq1:(s.app ⟨none,.any,[(999999,some (.bunch e k []))],[]⟩).res q=some (.buf e2 k2 N get):=by
  simp only[St.app,putR_apply,lookR];rw[nbeq_ne hne];exact hq
 obtain⟨v,xs,hv,hown,hk,hlen,hden⟩:=h3.rs _ _ hq1
 have h4:=h3.changeG (r':=.buf e2 k2 N get') hq1 rfl hv rfl rfl rfl rfl (fun _ _=>rfl) (fun b hb=>hb.to rfl) ⟨v,xs,hv,hown,hk,fun i hi=>(hl i hi).trans (hlen i hi),fun i j x hi hx=>by
  rcases hg i j x hi hx with c|⟨p,hp,c,hx⟩
  · exact hden i j x hi c
  · obtain⟨u,hu,hd⟩:=hden i j _ hi c
    cases hd with|opq _ _=>exact⟨_,hu,hx _ _ (h2 p hp)⟩⟩
 have h5:=h4.drop 999999;refine⟨h0,G',β,?_⟩
 have:((s.app ⟨none,.any,[(999999,some (.bunch e k []))],[]⟩).app ⟨none,.any,[(q,some (.buf e2 k2 N get'))],[]⟩).app ⟨none,.any,[(999999,none)],[]⟩=s.app ⟨none,.any,[(999999,none),(q,some (.buf e2 k2 N get'))],[]⟩:=by
  simp only[St.app,St.mk.injEq];refine⟨rfl,?_,rfl⟩;funext x
  simp only[putR_apply,lookR]
  by_cases c:x=999999
  · subst c;simp
  · rw[nbeq_ne c]
    by_cases d:x=q
    · subst d;simp
    · rw[nbeq_ne d];rfl
 rw[←this];exact h5
end Go.Eng
set_option maxRecDepth 20000
namespace Go.Proofs.YtghhghijalcdfaaGreatDoor
open Go Go.Eng
def oASpA65:TL:= [(0,[(0,[]),(1,[]),(2,[]),(3,[0,1,2]),(4,[0,1,2]),(5,[0,1,2]),(6,rg 6),(7,rg 6),(8,rg 6),(9,rg 9),(10,rg 9),(11,rg 9),(12,rg 12),(13,rg 12),(14,rg 12),(15,rg 15),(16,rg 15),(17,rg 15),(18,[]),(19,rg 19),(20,[]),(21,[]),(22,[])])]
theorem wCom {a b c d:Int}(ha:0≤a∧a≤5761440)(hb:0≤b∧b≤5761440)(hc:0≤c∧c≤5761440)(hd:0≤d∧d≤5761440):
 FSpec Tryz.prog 66 [.agg [.d (.int .i64 a),.d (.int .i64 b)],.agg [.d (.int .i64 c),.d (.int .i64 d)]] [] (fun y r=>y= .d (.int .i64 (com a b c d))∧r= []):=by
 refine spAx hT Tryz.func66 Tryz.call66 ?_;conv=>whnf
 repeat' ((first|(refine And.intro (show inI64 (min b d - max a c)by unfold inI64;omega) ?_)|refine br_intro ?_ ?_<;>intro hb<;>try simp only[brs]at hb|omega|refine sAx ?_|decide|assumption)<;>conv=>whnf)
 refine .ret _ ?_;conv=>whnf
 refine⟨[],⟨?_,rfl⟩,trivial⟩;conv=>lhs;whnf
 rfl
def spF (c:Int→Int):List DV:= [.int .i64 (c 0),.int .i64 (c 1),.int .i64 (c 2),.int .i64 (c 3),.int .i64 (c 4),.int .i64 (c 5)]
def addC (c:Int→Int)(st m:Int):Int→Int:=fun k=>if k=st then c k+m else c k
def addN (cn:List UInt8→Int→Int)(v:List UInt8)(st m:Int):List UInt8→Int→Int:=fun w=>if w=v then addC (cn v) st m else cn w
abbrev Bls:=List (List UInt8×Nat)
def spB (bl:Bls)(cn:List UInt8→Int→Int):List (Value×Nat×(Nat→List DV)):=bl.map fun p=>(rowB p.2,1,fun _=>spF (cn p.1))
abbrev spR (bl:Bls)(cn:List UInt8→Int→Int):Res:=.bunch 60 6 (spB bl cn)
theorem spB_split {bl:Bls}{v:List UInt8}{b:Nat}(hm:(v,b) ∈ bl)(hn:(bl.map (·.1)).Nodup):∃b1 b2,∀cn,spB bl cn=spB b1 cn++(rowB b,1,fun _=>spF (cn v))::spB b2 cn∧∀st m,spB bl (addN cn v st m)=spB b1 cn++(rowB b,1,fun _=>spF (addC (cn v) st m))::spB b2 cn:=by
 obtain⟨b1,b2,rfl⟩:=List.append_of_mem hm;rw[List.map_append,List.map_cons,List.nodup_append]at hn;obtain⟨_,h2,h3⟩:=hn
 have e:∀cn st m (q:Bls),(∀p ∈ q,p.1≠v)→spB q (addN cn v st m)=spB q cn:=fun cn st m q hq=>List.map_congr_left fun p hp=>by
  unfold addN;rw[if_neg (hq p hp)]
 refine⟨b1,b2,fun cn=>⟨by simp[spB],fun st m=> ?_⟩⟩;have e1:=e cn st m b1 (fun p hp c=>h3 _ (List.mem_map.2 ⟨p,hp,rfl⟩) v List.mem_cons_self c);have e2:=e cn st m b2 (fun p hp c=>(List.nodup_cons.1 h2).1 (List.mem_map.2 ⟨p,hp,c⟩));have e3:addN cn v st m v=addC (cn v) st m:=if_pos rfl;rw[←e1,←e2,←e3];simp[spB]
theorem wAdd {bl:Bls}{cn:List UInt8→Int→Int}{v:List UInt8}{b:Nat}{p:Value}{st m:Int}(hm:(v,b) ∈ bl)(hn:(bl.map (·.1)).Nodup)(hp:p=ptrB b)(hs:0≤st∧st≤5)(hi:inI64 (cn v st+m)):
 FSpec Tryz.prog 65 [.d (.opq p),.d (.int .i64 st),.d (.int .i64 m)] [(1000001,spR bl cn)] (fun y r=>y= .tup []∧r= [(1000001,spR bl (addN cn v st m))]):=by
 subst hp;obtain⟨b1,b2,hsp⟩:=spB_split hm hn;obtain⟨h1,h2⟩:=hsp cn;have h2:=h2 st m;obtain⟨X,hX⟩:∃X,X=spB b1 cn++(rowB b,1,fun _=>spF (addC (cn v) st m))::spB b2 cn:=⟨_,rfl⟩;have hst:st=0∨st=1∨st=2∨st=3∨st=4∨st=5:=by omega
 rcases hst with rfl|rfl|rfl|rfl|rfl|rfl
 all_goals
  refine spAx hT Tryz.func65 Tryz.call65 ?_;conv=>whnf
  repeat' ((first|refine⟨_,_,_,h1,Nat.le_of_ble_eq_true rfl,?_⟩|refine⟨_,_,_,h1,?_⟩|refine And.intro hi ?_|refine br_intro ?_ ?_<;>intro hb<;>try simp only[brs]at hb|refine tAx hT oASpA65 ?_|omega|refine sAx ?_|decide|assumption)<;>conv=>whnf)
  refine .ret _ ?_;conv=>whnf
  refine⟨[(1000001,.bunch 60 6 X)],⟨rfl,by rw[hX,←h2]⟩,?_,trivial⟩;subst hX;conv=>whnf
  exact rr
def cntN (a b:Int)(l:List Evn)(v:List UInt8)(k:Int):Int:=((byV v l).foldl (spN a b k) (ss0,0)).2
theorem spN_fst (a b k:Int):∀ (l:List Evn) (p:Stt×Int),(l.foldl (spN a b k) p).1=l.foldl folS p.1
 | [],_=>rfl
 |x::l,p=>spN_fst a b k l (spN a b k p x)
theorem com_le {a b:Int}(h:a≤b)(c d:Int):0≤com a b c d∧com a b c d≤b - a:=by unfold com;omega
theorem spN_bd {a b:Int}(h:a≤b)(k:Int):∀ (l:List Evn) (p:Stt×Int),p.2≤(l.foldl (spN a b k) p).2∧(l.foldl (spN a b k) p).2≤p.2+(b - a)*l.length
 | [],p=>by simp
 | x::l,p=>by
   obtain⟨h1,h2⟩:=spN_bd h k l (spN a b k p x);have e:(spN a b k p x).2=p.2+if p.1.k=k then com a b p.1.sin x.tm else 0:=rfl;obtain⟨c1,c2⟩:=com_le h p.1.sin x.tm;rw[List.foldl_cons,List.length_cons];have e2:(b - a)*((l.length+1:Nat):Int)=(b - a)*l.length+(b - a):=by rw[Int.natCast_add,Int.mul_add];simp
   rw[e2];split at e<;>omega
theorem cntN_bd {a b:Int}(h:0≤a∧a≤b∧b≤5761440){l:List Evn}(hl:l.length≤3000)(v:List UInt8)(k:Int):0≤cntN a b l v k∧cntN a b l v k≤5761440*3000:=by
 obtain⟨h1,h2⟩:=spN_bd h.2.1 k (byV v l) (ss0,0);have h3:(byV v l).length≤l.length:=List.length_filter_le _ _;have h4:(b - a)*((byV v l).length:Int)≤5761440*3000:=Int.le_trans (Int.mul_le_mul_of_nonneg_right (show b - a≤5761440 by omega) (by omega)) (Int.mul_le_mul_of_nonneg_left (by omega) (by omega));unfold cntN;simp only at h1 h2;omega
theorem cntN_snoc (a b:Int)(l:List Evn)(x:Evn):cntN a b (l++ [x])=addN (cntN a b l) x.veh (stV (byV x.veh l)).k (com a b (stV (byV x.veh l)).sin x.tm):=by
 funext v k
 unfold addN addC cntN;rw[byV_snoc]
 by_cases q:v=x.veh
 · rw[if_pos q,if_pos q.symm,List.foldl_append,←q];have e:((byV v l).foldl (spN a b k) (ss0,0)).1=stV (byV v l):=spN_fst a b k _ _;show _+(if((byV v l).foldl (spN a b k) (ss0,0)).1.k=k then _ else 0)=_;rw[e]
   by_cases r:k=(stV (byV v l)).k
   · rw[if_pos r,if_pos r.symm]
   · rw[if_neg r,if_neg (fun z=>r z.symm),Int.add_zero]
 · rw[if_neg q,if_neg (fun z=>q z.symm),List.append_nil]
theorem stV_bd:∀ (l:List Evn) (s:Stt),(∀x ∈ l,0≤x.tm∧x.tm≤5761439)→(0≤s.k∧s.k≤5)∧0≤s.sin∧s.sin≤5761439→(0≤(l.foldl folS s).k∧(l.foldl folS s).k≤5)∧0≤(l.foldl folS s).sin∧(l.foldl folS s).sin≤5761439
 | [],s,_,h=>h
 | x ::l,s,ht,h=>by
   refine stV_bd l (folS s x) (fun y hy=>ht y (by simp[hy])) ?_;have:=ht x (by simp);unfold folS;repeat' split
   all_goals first
    |exact h
    |exact⟨⟨by dsimp only;omega,by dsimp only;omega⟩,this.1,this.2⟩
def cntZ (a b:Int)(l:List Evn)(ks:List (List UInt8))(v:List UInt8)(k:Int):Int:=if v ∈ ks then spK a b k (byV v l)else cntN a b l v k
theorem cntZ_snoc (a b:Int)(l:List Evn){ks:List (List UInt8)}{v:List UInt8}(h:v ∉ ks):cntZ a b l (ks++ [v])=addN (cntZ a b l ks) v (stV (byV v l)).k (com a b (stV (byV v l)).sin 5761440):=by
 funext w k
 unfold addN addC cntZ
 by_cases q:w=v
 · subst q;rw[if_pos (by simp),if_pos rfl,if_neg h];unfold spK spE cntN;have e:((byV w l).foldl (spN a b k) (ss0,0)).1=stV (byV w l):=spN_fst a b k _ _;rw[e]
   by_cases r:k=(stV (byV w l)).k
   · rw[if_pos r,if_pos r.symm]
   · rw[if_neg r,if_neg (fun z=>r z.symm),Int.add_zero]
 · rw[if_neg q]
   by_cases r:w ∈ ks
   · rw[if_pos r,if_pos (by simp[r])]
   · rw[if_neg r,if_neg (by simp[r,q])]
theorem cntZ_nil (a b:Int)(l:List Evn):cntZ a b l []=cntN a b l:=by
 funext v k;unfold cntZ;rw[if_neg (by simp)]
def oASpB33:TL:= [(14,[(0,[]),(1,[0]),(2,[0]),(3,[]),(4,rg 4),(5,rg 4),(6,rg 6),(7,rg 7),(8,rg 7),(9,rg 9),(10,rg 9),(11,rg 7),(12,rg 6),(13,[])]),(21,[(0,[]),(1,[0]),(2,[0]),(3,[]),(4,rg 4),(5,rg 4),(6,rg 6),(7,rg 7),(8,rg 7),(9,rg 7),(10,rg 6),(11,[])])]
abbrev nilP:DV:=.opq (.pointer none)
def oF:Value→List DV:=fun v=> [.opq v]
structure spOk (vs:List Veh)(bl:Bls)(M:Mp Value)(i:Nat):Prop where
 ks:bl.map (·.1)=((vs.take i).map (·.key)).reverse
 at':∀p ∈ bl,M.val p.1=ptrB p.2
theorem keys_nodup {vs:List Veh}(h:vehS vs)(i:Nat):((vs.take i).map (·.key)).Nodup:=by
 refine List.Nodup.sublist ((List.take_sublist i vs).map _) ?_;rw[List.nodup_iff_pairwise_ne,List.pairwise_map,List.pairwise_iff_getElem];intro p q hp hq hpq e;have:=h p q hpq hq;rw[List.getD_eq_getElem?_getD,List.getD_eq_getElem?_getD,List.getElem?_eq_getElem hp,List.getElem?_eq_getElem hq]at this;simp only[Option.getD_some]at this;rw[e,less_irr]at this;cases this
theorem spOk.nd {vs:List Veh}{bl:Bls}{M:Mp Value}{i:Nat}(h:spOk vs bl M i)(hs:vehS vs):(bl.map (·.1)).Nodup:=by
 rw[h.ks];exact(List.reverse_perm _).nodup_iff.2 (keys_nodup hs i)
theorem spOk.mem {vs:List Veh}{bl:Bls}{M:Mp Value}(h:spOk vs bl M vs.length){v:List UInt8}(hv:v ∈ vs.map (·.key)):∃b,(v,b) ∈ bl∧M.val v=ptrB b:=by
 have:v ∈ bl.map (·.1):=by rw[h.ks,List.mem_reverse,List.take_length];exact hv
 obtain⟨p,hp,rfl⟩:=List.mem_map.1 this;exact⟨p.2,hp,h.at' p hp⟩
theorem spOk.snoc {vs:List Veh}{bl:Bls}{M:Mp Value}{i:Nat}(h:spOk vs bl M i)(hs:vehS vs)(hi:i<vs.length)(b:Nat):spOk vs (((vs.getD i veh0).key,b)::bl) (M.put (vs.getD i veh0).key (ptrB b)) (i+1):=by
 have hn:=keys_nodup hs (i+1);have et:=take_snocD (d:=veh0) hi;refine⟨by rw[List.map_cons,h.ks,et,List.map_append,List.reverse_append];rfl,fun p hp=> ?_⟩;show(if p.1=(vs.getD i veh0).key then ptrB b else M.val p.1)=_;rcases List.mem_cons.1 hp with rfl|hp
 · rw[if_pos rfl]
 · rw[if_neg,h.at' p hp];intro e;have:p.1 ∈ bl.map (·.1):=List.mem_map.2 ⟨p,hp,rfl⟩;rw[h.ks,List.mem_reverse,e]at this;rw[et,List.map_append,List.nodup_append]at hn;exact hn.2.2 _ this _ (by simp) rfl
theorem veIx_mem {vs:List Veh}{v:List UInt8}(h:0≤veIx vs v):v ∈ vs.map (·.key):=by
 obtain⟨_,h1,h2⟩:=ixF_bd (p:=fun i=>(vs.getD i veh0).key==v) (n:=vs.length);unfold veIx at h;have h3:=h2 h;exact List.mem_map.2 ⟨_,getD_mem (x:=veh0) (i:=(ixF (fun i=>(vs.getD i veh0).key==v) vs.length).toNat) (by omega),by simpa using h3⟩
theorem wSpent (f:Flt)(hk:fltOk f)(hs:vehS f.veh)(l:List Evn)(hl:l.length≤3000)(hg:∀i,i<l.length→evG f (l.getD i ev0))(h:∀v,chn ss0 (byV v l))(a b:Int)(hab:0≤a∧a≤b∧b≤5761440):
 FSpec Tryz.prog 33 [flt f,.d (evns l),.agg [.d (.int .i64 a),.d (.int .i64 b)]] []
  (fun y r=>∃M bl,spOk f.veh bl M f.veh.length∧y= .mp 19∧r= [(19,mpS false [nilP] oF M),(999999,spR bl (cntZ a b l (f.veh.map (·.key))))]):=by
 have hvl:=hk.veh.1
 have htm:∀x ∈ l,0≤x.tm∧x.tm≤5761439:=fun x hx=>by
  obtain⟨i,hi,rfl⟩:=mem_getD (d:=ev0) hx;exact(hg i hi).tm
 have hst:∀v i,(0≤(stV (byV v (l.take i))).k∧(stV (byV v (l.take i))).k≤5)∧0≤(stV (byV v (l.take i))).sin∧(stV (byV v (l.take i))).sin≤5761439:=fun v i=>
  stV_bd _ ss0 (fun x hx=>htm x (List.mem_of_mem_take (List.mem_filter.1 hx).1)) ⟨⟨by decide,by decide⟩,by decide,by decide⟩
 refine spAx hT Tryz.func33 Tryz.call33 ?_;conv=>whnf
 repeat' ((first|refine br_intro ?_ ?_<;>intro hb<;>try simp only[brs]at hb|refine tAx hT oASpB33 ?_|omega|refine sAx ?_|decide|assumption)<;>conv=>whnf)
 refine LoopX.rule hT (C:= []) (ι:=Nat×Mp Value×Bls) (fun(i,M,bl)=>i≤f.veh.length∧spOk f.veh bl M i) (fun(i,M,bl)=>mkSt [(1,.d (evns l)),(3,.ptr 3 0),(5,.ptr 5 0),(7,.mp 19),(8,.mp 20),(22,.d (vehs f.veh)),(23,.d (.int .i64 f.veh.length)),(24,.d (.int .i64 i))] [(3,fltC f),(5,vwC (a,b)),(19,mpS false [nilP] oF M),(20,mpS true (ssF ss0) ssF (Mp.nil ss0)),(999999,spR bl fun _ _=>0)])
  (fun(i,_,_)=>f.veh.length - i) (0,Mp.nil (.pointer none),[]) ⟨Nat.zero_le _,rfl,fun p hp=>by cases hp⟩ ?_ ?_
 · exact(Entails.bunchNew 60 6 (by decide) rfl).trans (Entails.mk' rq12 rfl rfl ⟨lr,lr,lr,lr,lr,lr,lr,lr,trivial⟩ ⟨rr,rr,Res.le_map (fun _ _=>⟨rfl,rfl⟩),Res.le_map (fun _ _=>⟨rfl,rfl⟩),rr,trivial⟩)
 rintro⟨i,M,bl⟩ ⟨p1,p2⟩;have p1:i≤f.veh.length:=p1;have p2:spOk f.veh bl M i:=p2;have e1:=tnc i;rcases Nat.lt_or_ge i f.veh.length with hi|hi
 · conv=>whnf
   repeat' (first|(intro b9;conv=>whnf)|((first|refine br_intro ?_ ?_<;>intro hb<;>try simp only[brs]at hb|refine tAx hT oASpB33 ?_|omega|refine sAx ?_|decide|assumption)<;>conv=>whnf))
   all_goals try(exfalso;omega)
   have hn:=p2.snoc hs hi b9;rw[←e1]at hn;rw[e1]at hn;exact⟨(i+1,_,_),⟨hi,hn⟩,by show f.veh.length - (i+1)<f.veh.length - i;omega,Entails.mk' rq12 rfl rfl ⟨lr,lr,lr,lr,lr,lr,lr,SV.le_int (by omega),trivial⟩ ⟨rr,rr,mpS_put,rr,rr,trivial⟩⟩
 have hil:i=f.veh.length:=by omega
 subst hil;have hnd:=p2.nd hs;conv=>whnf
 repeat' ((first|refine br_intro ?_ ?_<;>intro hb<;>try simp only[brs]at hb|refine tAx hT oASpB33 ?_|omega|refine sAx ?_|decide|assumption)<;>conv=>whnf)
 all_goals try(exfalso;omega)
 refine LoopX.rule hT (C:= []) (ι:=Nat×Mp Stt) (fun(j,N)=>j≤l.length∧∀v,N.val v=stV (byV v (l.take j))) (fun(j,N)=>mkSt [(3,.ptr 3 0),(5,.ptr 5 0),(7,.mp 19),(8,.mp 20),(34,.d (evns l)),(35,.d (.int .i64 l.length)),(36,.d (.int .i64 j))] [(3,fltC f),(5,vwC (a,b)),(19,mpS false [nilP] oF M),(20,mpS true (ssF ss0) ssF N),(999999,spR bl (cntN a b (l.take j)))])
  (fun(j,_)=>l.length - j) (0,Mp.nil ss0) ⟨Nat.zero_le _,fun v=>rfl⟩ ?_ ?_
 · exact Entails.mk' rq12 rfl rfl ⟨lr,lr,lr,lr,lr,lr,lr,trivial⟩ ⟨rr,rr,rr,rr,rr,trivial⟩
 rintro⟨j,N⟩ ⟨hj,hN⟩;have hj:j≤l.length:=hj;have hN:∀v,N.val v=stV (byV v (l.take j)):=hN;have e2:(j:Int).toNat=j:=Int.toNat_natCast j;rcases Nat.lt_or_ge j l.length with hjn|hjn
 · have hf:=fine_at h hjn;have hgx:=hg j hjn;obtain⟨x,hx⟩:∃x,x=l.getD (j:Int).toNat ev0:=⟨_,rfl⟩;have hx':l.getD j ev0=x:=by rw[hx,e2]
   rw[hx',←hN]at hf;rw[hx']at hgx;have ht:l.take (j+1)=l.take j++ [x]:=by rw[←hx'];exact take_snocD (d:=ev0) hjn
   obtain⟨b9,hb9,hv9⟩:=p2.mem (veIx_mem hgx.veh);obtain⟨⟨k1,k2⟩,k3,k4⟩:=hst x.veh j;rw[←hN]at k1 k2 k3 k4;have c64:=wFol (N.val x.veh) x;rw[hf]at c64;have hx3:=hgx.tm;have c66:=wCom (a:=a) (b:=b) (c:=(N.val x.veh).sin) (d:=x.tm) (by omega) (by omega) (by omega) (by omega);have hbd:=cntN_bd (a:=a) (b:=b) hab (l:=l.take j) (by rw[List.length_take];omega) x.veh (N.val x.veh).k;have hcm:=com_le (a:=a) (b:=b) hab.2.1 (N.val x.veh).sin x.tm;have c65:=wAdd (st:=(N.val x.veh).k) (m:=com a b (N.val x.veh).sin x.tm) hb9 hnd hv9 ⟨k1,k2⟩ (show inI64 (cntN a b (l.take j) x.veh (N.val x.veh).k+com a b (N.val x.veh).sin x.tm)by unfold inI64;omega);have hS:addN (cntN a b (l.take j)) x.veh (N.val x.veh).k (com a b (N.val x.veh).sin x.tm)=cntN a b (l.take (j+1)):=by rw[ht,cntN_snoc,hN]
   rw[hS]at c65
   have hN':∀v,(N.put x.veh (folS (N.val x.veh) x)).val v=stV (byV v (l.take (j+1))):=fun v=>by
    rw[ht,byV_snoc];show(if v=x.veh then _ else N.val v)=_
    by_cases q:v=x.veh
    · rw[if_pos q,if_pos q.symm,q];unfold stV;rw[List.foldl_append,hN];rfl
    · rw[if_neg q,if_neg (fun z=>q z.symm),List.append_nil];exact hN v
   conv=>whnf
   repeat' (first|(rw[←hx];conv=>whnf)|((first|refine And.intro (rfl:zrow _=some (ssF ss0)) ?_|refine And.intro (rfl:zrow _=some [nilP]) ?_|refine pAx c64 ?_|refine pAx c66 ?_|(refine oEx c65 [(1000001,999999)] ?_)|refine br_intro ?_ ?_<;>intro hb<;>try simp only[brs]at hb|refine tAx hT oASpB33 ?_|omega|refine sAx ?_|decide|assumption)<;>conv=>whnf))
   all_goals try(exfalso;omega)
   exact⟨(j+1,N.put x.veh (folS (N.val x.veh) x)),⟨by show j+1≤_;omega,hN'⟩,by show l.length - (j+1)<l.length - j;omega,Entails.mk' rq12 rfl rfl ⟨lr,lr,lr,lr,lr,lr,SV.le_int (by omega),trivial⟩ ⟨rr,rr,rr,mpS_put,rr,trivial⟩⟩
 have hjl:j=l.length:=by omega
 subst hjl;rw[List.take_length]at hN;conv=>whnf
 repeat' ((first|refine br_intro ?_ ?_<;>intro hb<;>try simp only[brs]at hb|refine tAx hT oASpB33 ?_|omega|refine sAx ?_|decide|assumption)<;>conv=>whnf)
 all_goals try(exfalso;omega)
 refine LoopX.rule hT (C:= []) (ι:=Nat) (fun i=>i≤f.veh.length) (fun i=>mkSt [(5,.ptr 5 0),(7,.mp 19),(8,.mp 20),(71,.d (vehs f.veh)),(72,.d (.int .i64 f.veh.length)),(73,.d (.int .i64 i))] [(5,vwC (a,b)),(19,mpS false [nilP] oF M),(20,mpS true (ssF ss0) ssF N),(999999,spR bl (cntZ a b l ((f.veh.take i).map (·.key))))])
  (fun i=>f.veh.length - i) 0 (Nat.zero_le _) ?_ ?_
 · refine Entails.mk' [(5,5),(19,19),(20,20),(999999,999999)] rfl rfl ⟨lr,lr,lr,lr,lr,lr,trivial⟩ ⟨rr,rr,rr,?_,trivial⟩;show Res.le (spR bl (cntN a b (l.take l.length))) (spR bl (cntZ a b l ((f.veh.take 0).map (·.key))));rw[List.take_length,List.take_zero,List.map_nil,cntZ_nil];exact rr
 intro i hi;have hi:i≤f.veh.length:=hi;have e3:(i:Int).toNat=i:=Int.toNat_natCast i;rcases Nat.lt_or_ge i f.veh.length with hin|hin
 · obtain⟨x,hx⟩:∃x,x=f.veh.getD (i:Int).toNat veh0:=⟨_,rfl⟩;have hx':f.veh.getD i veh0=x:=by rw[hx,e3]
   have ht:f.veh.take (i+1)=f.veh.take i++ [x]:=by rw[←hx'];exact take_snocD (d:=veh0) hin
   have hxm:x ∈ f.veh:=by rw[←hx'];exact getD_mem hin
   have hxn:x.key ∉ (f.veh.take i).map (·.key):=by
    have hn:=keys_nodup hs (i+1);rw[ht,List.map_append,List.nodup_append]at hn;exact fun q=>hn.2.2 _ q _ (by simp) rfl
   obtain⟨b9,hb9,hv9⟩:=p2.mem (List.mem_map.2 ⟨x,hxm,rfl⟩);obtain⟨⟨k1,k2⟩,k3,k4⟩:=hst x.key l.length;rw[List.take_length,←hN]at k1 k2 k3 k4;have c66:=wCom (a:=a) (b:=b) (c:=(N.val x.key).sin) (d:=5761440) (by omega) (by omega) (by omega) (by omega);have hbd:=cntN_bd (a:=a) (b:=b) hab hl x.key (N.val x.key).k;have hcm:=com_le (a:=a) (b:=b) hab.2.1 (N.val x.key).sin 5761440;have hcz:cntZ a b l ((f.veh.take i).map (·.key)) x.key (N.val x.key).k=cntN a b l x.key (N.val x.key).k:=if_neg hxn;have c65:=wAdd (cn:=cntZ a b l ((f.veh.take i).map (·.key))) (st:=(N.val x.key).k) (m:=com a b (N.val x.key).sin 5761440) hb9 hnd hv9 ⟨k1,k2⟩ (show inI64 (cntZ a b l ((f.veh.take i).map (·.key)) x.key (N.val x.key).k+com a b (N.val x.key).sin 5761440)by rw[hcz];unfold inI64;omega);have hS:addN (cntZ a b l ((f.veh.take i).map (·.key))) x.key (N.val x.key).k (com a b (N.val x.key).sin 5761440)=cntZ a b l ((f.veh.take (i+1)).map (·.key)):=by rw[ht,List.map_append,List.map_cons,List.map_nil,cntZ_snoc a b l hxn,hN]
   rw[hS]at c65;conv=>whnf
   repeat' (first|(rw[←hx];conv=>whnf)|((first|refine And.intro (rfl:zrow _=some (ssF ss0)) ?_|refine And.intro (rfl:zrow _=some [nilP]) ?_|refine pAx c66 ?_|(refine oEx c65 [(1000001,999999)] ?_)|refine br_intro ?_ ?_<;>intro hb<;>try simp only[brs]at hb|refine tAx hT oASpB33 ?_|omega|refine sAx ?_|decide|assumption)<;>conv=>whnf))
   all_goals try(exfalso;omega)
   exact⟨i+1,by show i+1≤_;omega,by show f.veh.length - (i+1)<f.veh.length - i;omega,Entails.mk' [(5,5),(19,19),(20,20),(999999,999999)] rfl rfl ⟨lr,lr,lr,lr,lr,SV.le_int (by omega),trivial⟩ ⟨rr,rr,rr,rr,trivial⟩⟩
 have hiv:i=f.veh.length:=by omega
 subst hiv;conv=>whnf
 repeat' ((first|refine br_intro ?_ ?_<;>intro hb<;>try simp only[brs]at hb|refine tAx hT oASpB33 ?_|omega|refine sAx ?_|decide|assumption)<;>conv=>whnf)
 all_goals try(exfalso;omega)
 refine .ret _ ?_;conv=>whnf
 exact⟨[(19,mpS false [nilP] oF M),(999999,spR bl (cntZ a b l ((f.veh.take f.veh.length).map fun x:Veh=>x.key)))],⟨M,bl,p2,rfl,by rw[List.take_length]⟩,rr,rr,trivial⟩
def oASpC10:TL:= [(4,[(0,[]),(1,[0]),(5,[0,1]),(2,[5]),(3,[5]),(4,[5]),(6,[]),(7,[]),(8,[]),(9,[])])]
theorem veIx_pos {vs:List Veh}{v:List UInt8}(hv:v ∈ vs.map (·.key)):0≤veIx vs v:=by
 obtain⟨w,hw,rfl⟩:=List.mem_map.1 hv;obtain⟨j,hj,rfl⟩:=mem_getD (d:=veh0) hw;exact ixF_pos hj (by show((vs.getD j veh0).key==(vs.getD j veh0).key)=true;simp)
theorem wSpentIn (f:Flt)(hk:fltOk f)(hs:vehS f.veh)(hE:fltE f=0)(l:List Evn)(hl:l.length≤3000)(hg:∀i,i<l.length→evG f (l.getD i ev0))(ho:∀i,0<i→i<l.length→evCmp (l.getD (i - 1) ev0) (l.getD i ev0)<0)(h:∀v,chn ss0 (byV v l))
 (v:List UInt8)(hv:v ∈ f.veh.map (·.key))(a b:Int)(hab:0≤a∧a≤b∧b≤5761440):
 FSpec Tryz.prog 10 [flt f,.d (evns l),.d (.str v),.agg [.d (.int .i64 a),.d (.int .i64 b)]] [] (fun y r=>y= .tup [.agg ((spF fun k=>spK a b k (byV v l)).map .d),.d (.int .i64 0)]∧r= []):=by
 have c1:=z114 f hk;rw[hE]at c1;have c2:=wLotChk f hk hs l hl hg ho
 have c3:FSpec Tryz.prog 31 [flt f,.d (evns l)] [] (fun x r=>x= .d (.int .i64 0)∧r= []):=by
  refine spAx hT Tryz.func31 Tryz.call31 ?_;conv=>whnf
  repeat' (first|(refine CallX.exact (c1) rfl rfl ?_;rotate_right;conv=>whnf)|(refine CallX.exact (c2) rfl rfl ?_;rotate_right;conv=>whnf)|((first|refine br_intro ?_ ?_<;>intro hb<;>try simp only[brs]at hb|omega|refine sAx ?_|decide|assumption)<;>conv=>whnf))
  all_goals try(exfalso;contradiction)
  refine .ret _ ?_;conv=>whnf
  refine⟨[],⟨?_,rfl⟩,trivial⟩;conv=>lhs;whnf
 have c4:=z243 f hk.veh.1 hs v;have hvp:=veIx_pos hv;have c5:=z123 a b;rw[show winE a b=0 from if_pos ⟨⟨hab.1,hab.2.1⟩,hab.2.2⟩]at c5;have c6:=s105 [0,0] (by simp);rw[show firstE [0,0]=0 from rfl]at c6;have c7:=s107 (decide (veIx f.veh v<0)) 8;rw[decide_eq_false (by omega),show(if false=true then(8:Int)else 0)=0 from rfl]at c7;have c8:=wSpent f hk hs l hl hg h a b hab
 have hz:∀w,w ∈ f.veh.map (·.key)→spF (cntZ a b l (f.veh.map (·.key)) w)=spF fun k=>spK a b k (byV w l):=fun w hw=>by
  congr 1;funext k;unfold cntZ;rw[if_pos hw]
 refine spAx hT Tryz.func10 Tryz.call10 ?_;conv=>whnf
 repeat' (first|(refine CallX.exact (c3) rfl rfl ?_;rotate_right;conv=>whnf)|(refine CallX.exact (c4) rfl rfl ?_;rotate_right;conv=>whnf)|(refine CallX.pure c7 ⟨SV.le_bool (decide_eq_false (by omega)),lr,trivial⟩ rfl ?_;conv=>whnf)|(refine CallX.exact (c5) rfl rfl ?_;rotate_right;conv=>whnf)|((first|refine CallX.pure c6 ⟨SV.le_lit (by rfl) (by rfl),trivial⟩ rfl ?_|(refine oAx c8 [(19,119),(999999,999999)] ?_;rintro y rout ⟨M,bl,hM,rfl,rfl⟩;refine⟨rfl,?_⟩;obtain⟨b9,hb9,hv9⟩:=hM.mem hv;obtain⟨b1,b2,hsp⟩:=spB_split hb9 (hM.nd hs);have h9:=(hsp (cntZ a b l (f.veh.map (·.key)))).1;rw[hz v hv]at h9)|(refine And.intro (rfl:zrow _=some [nilP]) ?_;refine rowSV_eq (row':= [.opq (ptrB b9)]) (congrArg oF hv9) ?_)|refine⟨_,_,_,h9,?_⟩|refine br_intro ?_ ?_<;>intro hb<;>try simp only[brs]at hb|refine tAx hT oASpC10 ?_|omega|refine sAx ?_|decide|assumption)<;>conv=>whnf))
 all_goals try(exfalso;contradiction)
 refine .weak _ ?_;conv=>whnf
 exact⟨.tup [.agg ((spF fun k=>spK a b k (byV v l)).map .d),.d (.int .i64 0)],[],SV.le_tup ⟨lr,lr,trivial⟩,⟨rfl,rfl⟩,trivial⟩
theorem wLog (h:Hou)(l:List Ent)(k:offH h l):
 FSpec Tryz.prog 8 [hou h,.d (ents l)] [(1000009,KX)] (fun y r=>y= .tup [.d (evns (isort evCmp (offZ h l).log)),.d (.int .i64 0)]∧r= [(1000009,KX)]):=by
 have c1:=wMd h l k;generalize offZ h l=Z at c1 ⊢;generalize isort evCmp Z.log=lg at c1 ⊢;generalize vmO h.flt.veh=vm at c1 ⊢;generalize smO h.flt.sta=sm at c1 ⊢;refine spAx hT Tryz.func8 Tryz.call8 ?_;conv=>whnf
 repeat' ((first|(refine oEx c1 rq11 ?_)|refine br_intro ?_ ?_<;>intro hb<;>try simp only[brs]at hb|omega|refine sAx ?_|decide|assumption)<;>conv=>whnf)
 all_goals try(exfalso;contradiction)
 refine .freeze _ 50 146 5 _ _ rfl (.weak _ ?_);conv=>whnf
 exact⟨.tup [.d (evns lg),.d (.int .i64 0)],[(1000009,KX)],SV.le_tup ⟨lr,lr,trivial⟩,⟨rfl,rfl⟩,rr,trivial⟩
structure fltK (f:Flt):Prop where
 sta:allK staK 4 f.sta
 cls:clsB f.cls
 veh:allK vehK 5 f.veh
 plt:allK pltK 6 f.plt
theorem fltK.ok {f:Flt}(h:fltK f):fltOk f:=
 ⟨⟨Nat.le_trans h.sta.1 (by decide),fun s hs=>Nat.le_trans (h.sta.2 s hs) (by decide)⟩,⟨Nat.le_trans h.cls.1 (by decide),fun s hs=>⟨Nat.le_trans (h.cls.2 s hs).1 (by decide),Nat.le_trans (h.cls.2 s hs).2 (by decide)⟩⟩,
   ⟨Nat.le_trans h.veh.1 (by decide),fun s hs=>⟨Nat.le_trans (h.veh.2 s hs).1 (by decide),Nat.le_trans (h.veh.2 s hs).2 (by decide)⟩⟩,⟨Nat.le_trans h.plt.1 (by decide),fun s hs=>⟨(h.plt.2 s hs).1,Nat.le_trans (h.plt.2 s hs).2.1 (by decide),Nat.le_trans (h.plt.2 s hs).2.2 (by decide)⟩⟩⟩
def oATmA38:TL:= [(12,[(0,[]),(1,[]),(2,[0,1]),(3,[0,1,2]),(4,[0,1]),(5,[]),(6,[])])]
def ratM (x:Rat):Prop:=x.cls.length≤8
def c3:List (List UInt8):= [[109,97,120,105],[109,105,100,105],[109,105,110,105]]
theorem y169 (n:Nat)(L:Nat→Int)(hL:Rok n L)(a:Int)(h0:0≤a)(ha:a≤2^36):
 FSpec Tryz.prog 38 [.ptr 1000000 0] [(1000000,strm n L a)] (fun y r=>∃l:List Rat,∃b,allK ratM 9 l∧(a≤b∧b≤a+100)∧y= .buf 3∧r= [(3,seqB 166 7 ratF rat0 l),(1000000,strm n L b)]):=by
 refine spAx hT Tryz.func38 Tryz.call38 ?_;conv=>whnf
 refine LoopX.rule hT (C:= []) (ι:=Int×List Rat×Nat) (fun(b,l,i)=>(a≤b∧b≤a+30*i∧i≤3)∧allK ratM (3*i) l)
  (fun(b,l,i)=>mkSt [(0,.ptr 1000000 0),(3,.buf 3),(8,.d (strs c3)),(9,.d (.int .i64 3)),(10,.d (.int .i64 i))] [(1000000,strm n L b),(3,seqB 166 7 ratF rat0 l)])
  (fun(_,_,i)=>3 - i) (a,[],0) ⟨⟨by simp,by simp,by simp⟩,⟨by simp,by simp⟩⟩ ?_ ?_
 · refine(Entails.nil 3 3 166 7 (rowF ratF rat0 []) rfl rfl (by decide)).trans (Entails.mk' [(1000000,1000000),(3,3)] rfl rfl ⟨lr,lr,SV.le_lit rfl rfl,lr,lr,trivial⟩ ⟨rr,rr,trivial⟩)
 rintro⟨b,l,i⟩ ⟨⟨p1,p2,p3⟩,p4⟩;have p1:a≤b:=p1;have p2:b≤a+30*i:=p2;have p3:i≤3:=p3;have p4:allK ratM (3*i) l:=p4;have hc3:c3.length=3:=rfl;have hl1:l.length≤3*i:=p4.1;rcases Nat.lt_or_ge i 3 with hi|hi
 · conv=>whnf
   repeat' (first|(refine oLx (s33 n L hL _ ?_ ?_ [0,0,0,3] ?_ ?_) [(1000000,1000000)] ?_;rotate_right;rintro x rout ⟨⟨u1,hu1,rfl⟩,⟨c,c1,c2,rfl⟩⟩;have hw1:=pkD hu1 (by decide);refine⟨rfl,?_⟩;conv=>whnf)|(refine oLx (s33 n L hL _ ?_ ?_ [0,1,1,2,3] ?_ ?_) [(1000000,1000000)] ?_;rotate_right;rintro x rout ⟨⟨u2,hu2,rfl⟩,⟨c,c1,c2,rfl⟩⟩;refine⟨rfl,?_⟩;conv=>whnf)|((first|refine br_intro ?_ ?_<;>intro hb<;>try simp only[brs]at hb|refine tAx hT oATmA38 ?_|omega|refine sAx ?_|decide|assumption)<;>conv=>whnf))
   all_goals try(exfalso;omega)
   have hw2:0≤u2∧u2≤3:=by simp only[List.mem_cons,List.not_mem_nil,or_false]at hu2;omega
   have hw3:u1≤5000:=by omega
   have hkk:(c3.getD (i:Int).toNat []).length≤8:=mem_len (getD_mem (by omega)) rfl;obtain⟨cc,hcc⟩:∃cc:Int,cc=c:=⟨_,rfl⟩;obtain⟨ky,hky⟩:∃ky,ky=c3.getD (i:Int).toNat []:=⟨_,rfl⟩
   refine LoopX.rule hT (C:= []) (ι:=Int×List Rat×Int×Nat) (fun(d,m,f,k)=>(cc≤d∧d≤cc+6*k∧(k:Int)≤u2)∧allK ratM (3*i+k) m∧0≤f∧f≤5000)
    (fun(d,m,f,k)=>mkSt [(0,.ptr 1000000 0),(3,.buf 3),(5,.d (.str ky)),(6,.d (.int .i64 f)),(8,.d (strs c3)),(9,.d (.int .i64 3)),(10,.d (.int .i64 i)),(19,.d (.int .i64 u2)),(20,.d (.int .i64 k))] [(1000000,strm n L d),(3,seqB 166 7 ratF rat0 m)])
    (fun(_,_,_,k)=>u2.toNat - k) (cc,l,u1,0) ⟨⟨by simp,by simp,by show((0:Nat):Int)≤u2;omega⟩,p4,by show 0≤u1;omega,by show u1≤5000;omega⟩ (by subst hcc hky;exact(by exact eAx [(1000000,1000000),(3,3)])) ?_
   rintro⟨d,m,f,k⟩ ⟨⟨q1,q2,q3⟩,q4,q5,q6⟩;have q1:cc≤d:=q1;have q2:d≤cc+6*k:=q2;have q3:(k:Int)≤u2:=q3;have q4:allK ratM (3*i+k) m:=q4;have q5:0≤f:=q5;have q6:f≤5000:=q6;have hm1:m.length≤3*i+k:=q4.1;conv=>whnf
   repeat' (first|(refine oLx (s33 n L hL _ ?_ ?_ [1,5,20,4000] ?_ ?_) [(1000000,1000000)] ?_;rotate_right;rintro x rout ⟨⟨u3,hu3,rfl⟩,⟨c,c1,c2,rfl⟩⟩;have hw4:0≤u3∧u3≤4000:=(by simp only[List.mem_cons,List.not_mem_nil,or_false]at hu3;omega);refine⟨rfl,?_⟩;conv=>whnf)|(refine oLx (s33 n L hL _ ?_ ?_ [-1,5,10,10,0] ?_ ?_) [(1000000,1000000)] ?_;rotate_right;rintro x rout ⟨⟨u4,hu4,rfl⟩,⟨c,c1,c2,rfl⟩⟩;refine⟨rfl,?_⟩;conv=>whnf)|(refine oLx (s33 n L hL _ ?_ ?_ [-1,50,50,70,40] ?_ ?_) [(1000000,1000000)] ?_;rotate_right;rintro x rout ⟨⟨u5,hu5,rfl⟩,⟨c,c1,c2,rfl⟩⟩;refine⟨rfl,?_⟩;conv=>whnf)|(refine oLx (s33 n L hL _ ?_ ?_ [-1,70,90,100] ?_ ?_) [(1000000,1000000)] ?_;rotate_right;rintro x rout ⟨⟨u6,hu6,rfl⟩,⟨c,c1,c2,rfl⟩⟩;refine⟨rfl,?_⟩;conv=>whnf)|(refine oLx (s33 n L hL _ ?_ ?_ [-1,200,250,300] ?_ ?_) [(1000000,1000000)] ?_;rotate_right;rintro x rout ⟨⟨u7,hu7,rfl⟩,⟨c,c1,c2,rfl⟩⟩;refine⟨rfl,?_⟩;conv=>whnf)|(refine oLx (s33 n L hL _ ?_ ?_ [0,0,0,2] ?_ ?_) [(1000000,1000000)] ?_;rotate_right;rintro x rout ⟨⟨u8,hu8,rfl⟩,⟨c,c1,c2,rfl⟩⟩;have hw8:0≤u8∧u8≤2:=(by simp only[List.mem_cons,List.not_mem_nil,or_false]at hu8;omega);refine⟨rfl,?_⟩;conv=>whnf)|((first|(refine And.intro (by show inI64 (min (f+u3) 4001+u8);unfold inI64;omega) ?_)|refine br_intro ?_ ?_<;>intro hb<;>try simp only[brs]at hb|refine tAx hT oATmA38 ?_|omega|refine sAx ?_|decide|assumption)<;>conv=>whnf))
   · exact⟨(c,m,i+1),⟨⟨by omega,by show _≤a+30*((i+1:Nat):Int);omega,by omega⟩,allK_le q4 (by omega)⟩,by show 3 - (i+1)<3 - i;omega,(by exact eAx [(1000000,1000000),(3,3)])⟩
   · exact⟨(_,m++ [⟨ky,f,min (f+u3) 4001,u4,u5,u6,u7⟩],min (f+u3) 4001+u8,k+1),⟨⟨by omega,by show _≤cc+6*((k+1:Nat):Int);omega,by show((k+1:Nat):Int)≤u2;omega⟩,allK_snoc q4 (by omega) (by show ky.length≤8;rw[hky];exact hkk),by show 0≤min (f+u3) 4001+u8;omega,by show min (f+u3) 4001+u8≤5000;omega⟩,by show u2.toNat - (k+1)<u2.toNat - k;omega,
      Entails.mk' [(1000000,1000000),(3,54)] rfl rfl ⟨lr,lr,lr,lr,lr,lr,lr,lr,lr,trivial⟩ ⟨rr,Res.le_snocF rfl,trivial⟩⟩
   · exact⟨(d,m,i+1),⟨⟨by omega,by show _≤a+30*((i+1:Nat):Int);omega,by omega⟩,allK_le q4 (by omega)⟩,by show 3 - (i+1)<3 - i;omega,(by exact eAx [(1000000,1000000),(3,3)])⟩
 · conv=>whnf
   repeat' ((first|refine br_intro ?_ ?_<;>intro hb<;>try simp only[brs]at hb|refine tAx hT oATmA38 ?_|omega|refine sAx ?_|decide|assumption)<;>conv=>whnf)
   all_goals try(exfalso;omega)
   refine .ret _ ?_;conv=>whnf
   exact⟨[(3,seqB 166 7 ratF rat0 l),(1000000,strm n L _)],⟨l,b,allK_le p4 (by omega),⟨by omega,by omega⟩,rfl,rfl⟩,rr,rr,trivial⟩
theorem yRates (n:Nat)(L:Nat→Int)(hL:Rok n L)(a:Int)(h0:0≤a)(ha:a≤2^35):
 FSpec Tryz.prog 70 [.ptr 1000000 0] [(1000000,strm n L a)] (fun y r=>(∃l:List Rat,allK ratM 10 l∧y= .d (rats l))∧Moved n L a 120 r):=by
 refine spAx hT Tryz.func70 Tryz.call70 ?_;conv=>whnf
 refine oAx (y169 n L hL _ ?_ ?_) [(1000000,1000000),(3,6)] ?_
 rotate_right
 rintro x rout ⟨l,b,p4,⟨p1,p2⟩,rfl,rfl⟩;refine⟨rfl,?_⟩;have hl1:l.length≤9:=p4.1;conv=>whnf
 repeat' (first|(refine oAx (s84 n L hL _ ?_ ?_ 12 ?_) [(1000000,1000000)] ?_;rotate_right;rintro x rout ⟨⟨w,rfl⟩,⟨c,c1,c2,rfl⟩⟩;refine⟨rfl,?_⟩;conv=>whnf)|(refine oAx (s86 n L hL _ ?_ ?_ 4 ?_) [(1000000,1000000)] ?_;rotate_right;rintro x rout ⟨⟨m,hm1,hm2,hm3,rfl⟩,⟨c,c1,c2,rfl⟩⟩;refine⟨rfl,?_⟩;conv=>whnf)|(refine oAx (s86 n L hL _ ?_ ?_ _ ?_) [(1000000,1000000)] ?_;rotate_right;rintro x rout ⟨⟨j,hj1,hj2,hj3,rfl⟩,⟨c,c1,c2,rfl⟩⟩;refine⟨rfl,?_⟩;conv=>whnf)|(refine CallX.of (s15 n L hL _ ?_ ?_ [[],[65],[109,105,110,105],[122,101,100]] (by simp) (by simp)) [(1000000,1000000)] rfl ⟨lr,SV.le_lit rfl rfl,trivial⟩ ⟨rr,trivial⟩ rfl rfl ?_;rotate_right;rintro x rout ⟨⟨u1,hu1,rfl⟩,⟨c,c1,c2,rfl⟩⟩;refine⟨rfl,?_⟩;conv=>whnf)|(refine oAx (s104 n L hL _ ?_ ?_ 0 10 ?_ ?_ ?_) [(1000000,1000000)] ?_;rotate_right;rintro x rout ⟨⟨o1,ho1,ho2,rfl⟩,⟨c,c1,c2,rfl⟩⟩;refine⟨rfl,?_⟩;conv=>whnf)|(refine oAx (s104 n L hL _ ?_ ?_ 1 4001 ?_ ?_ ?_) [(1000000,1000000)] ?_;rotate_right;rintro x rout ⟨⟨o2,ho3,ho4,rfl⟩,⟨c,c1,c2,rfl⟩⟩;refine⟨rfl,?_⟩;conv=>whnf)|(refine oAx (s104 n L hL _ ?_ ?_ (-1) 1000000 ?_ ?_ ?_) [(1000000,1000000)] ?_;rotate_right;rintro x rout ⟨⟨o3,ho5,ho6,rfl⟩,⟨c,c1,c2,rfl⟩⟩;refine⟨rfl,?_⟩;conv=>whnf)|((first|refine br_intro ?_ ?_<;>intro hb<;>try simp only[brs]at hb|omega|refine sAx ?_|decide|assumption)<;>conv=>whnf))
 all_goals try(exact h0)
 all_goals try omega
 · have hw1:u1.length≤8:=mem_len hu1 rfl;refine .freeze _ 6 166 7 _ _ rfl (.weak _ ?_);conv=>whnf
   exact⟨.d (rats (updL l j.toNat rat0 fun y=>{y with cls:=u1})),[(1000000,strm n L _)],SV.le_upd (fun y:Rat=>{y with cls:=u1}) (fun _=>rfl),⟨⟨_,allK_upd (g:=fun y:Rat=>{y with cls:=u1}) (allK_le p4 (by omega)) (fun y hy=>hw1),rfl⟩,_,by omega,by omega,rfl⟩,rr,trivial⟩
 · refine .freeze _ 6 166 7 _ _ rfl (.weak _ ?_);conv=>whnf
   have hrow:=rows_updG (f:=ratF) (d:=rat0) (rows_updG (l:=l) (j:=j.toNat) (off:=1) (ds:= [.int .i64 o1]) (fun _ _=>rfl) (fun y:Rat=>{y with frm:=o1}) (fun _=>rfl)) (off:=2) (ds:= [.int .i64 o2]) (j:=j.toNat) (fun y:Rat=>{y with to:=o2}) (fun _=>rfl);exact⟨.d (rats (updL (updL l j.toNat rat0 fun y=>{y with frm:=o1}) j.toNat rat0 fun y=>{y with to:=o2})),[(1000000,strm n L _)],SV.le_ro (by simp) (fun i hi=>hrow i (by simpa using hi)),⟨⟨_,allK_upd (g:=fun y:Rat=>{y with to:=o2}) (allK_upd (g:=fun y:Rat=>{y with frm:=o1}) (allK_le p4 (by omega)) (fun y hy=>hy)) (fun y hy=>hy),rfl⟩,_,by omega,by omega,rfl⟩,rr,trivial⟩
 · refine .freeze _ 6 166 7 _ _ rfl (.weak _ ?_);conv=>whnf
   exact⟨.d (rats (updL l j.toNat rat0 fun y=>{y with dy:=o3})),[(1000000,strm n L _)],SV.le_upd (fun y:Rat=>{y with dy:=o3}) (fun _=>rfl),⟨⟨_,allK_upd (g:=fun y:Rat=>{y with dy:=o3}) (allK_le p4 (by omega)) (fun y hy=>hy),rfl⟩,_,by omega,by omega,rfl⟩,rr,trivial⟩
 · refine .freeze _ 27 166 7 _ _ rfl (.weak _ ?_);conv=>whnf
   exact⟨.d (rats (l++ [l.getD 0 rat0])),[(1000000,strm n L _)],SV.le_ro (by simp) (rows_snocF rfl),⟨⟨_,allK_snoc p4 (by omega) (p4.2 _ (getD_mem (by omega))),rfl⟩,_,by omega,by omega,rfl⟩,rr,trivial⟩
 all_goals
  refine .freeze _ 6 166 7 _ _ rfl (.weak _ ?_);conv=>whnf
  exact⟨.d (rats l),[(1000000,strm n L _)],lr,⟨⟨_,allK_le p4 (by omega),rfl⟩,_,by omega,by omega,rfl⟩,rr,trivial⟩
def oATmB72:TL:= [(6,[(0,[]),(1,[0]),(2,[0]),(3,[0,1,2]),(4,[0,1,2]),(5,rg 5),(6,rg 6),(7,rg 5),(8,[0]),(9,[0]),(10,[]),(11,[])])]
def extM (x:Ext):Prop:=x.key.length≤8
def feM (x:Fe):Prop:=x.a.length≤8∧x.b.length≤8
def codM (x:Cod):Prop:=x.key.length≤8∧x.cls.length≤8
theorem ext_cut {e:List Ext}{g:Nat→List DV}{m:Int}(h0:0≤m)(h2:m≤2)(hl:e.length=2)(q0:g 0=extF (e.getD 0 ext0))(q1:g 1=extF (e.getD 1 ext0)):SV.le (.d (.ro 4 m.toNat g)) (.d (exts (e.take m.toNat))):=
 SV.le_ro (by rw[List.length_take];omega) (fun i hi=>by
  have:i=0∨i=1:=by omega
  simp only[rowF,getD_take hi];rcases this with rfl|rfl
  · exact q0
  · exact q1)
theorem yExtras (n:Nat)(L:Nat→Int)(hL:Rok n L)(a:Int)(h0:0≤a)(ha:a≤2^36):
 FSpec Tryz.prog 71 [.ptr 1000000 0] [(1000000,strm n L a)] (fun y r=>(∃l:List Ext,allK extM 2 l∧y= .d (exts l))∧Moved n L a 20 r):=by
 refine spec_of hT (C:= [24]) Tryz.func71 rfl Tryz.call71 rfl rfl rfl ?_;conv=>whnf
 repeat' (first|(refine oLx (s33 n L hL _ ?_ ?_ [0,5,100] ?_ ?_) [(1000000,1000000)] ?_;rotate_right;rintro x rout ⟨⟨u1,hu1,rfl⟩,⟨c,c1,c2,rfl⟩⟩;refine⟨rfl,?_⟩;conv=>whnf)|(refine oLx (s33 n L hL _ ?_ ?_ [0,2] ?_ ?_) [(1000000,1000000)] ?_;rotate_right;rintro x rout ⟨⟨u2,hu2,rfl⟩,⟨c,c1,c2,rfl⟩⟩;refine⟨rfl,?_⟩;conv=>whnf)|(refine oLx (s33 n L hL _ ?_ ?_ [-1,0,7] ?_ ?_) [(1000000,1000000)] ?_;rotate_right;rintro x rout ⟨⟨u3,hu3,rfl⟩,⟨c,c1,c2,rfl⟩⟩;refine⟨rfl,?_⟩;conv=>whnf)|(refine oLx (s33 n L hL _ ?_ ?_ [0,10] ?_ ?_) [(1000000,1000000)] ?_;rotate_right;rintro x rout ⟨⟨u4,hu4,rfl⟩,⟨c,c1,c2,rfl⟩⟩;refine⟨rfl,?_⟩;conv=>whnf)|(refine oLx (s33 n L hL _ ?_ ?_ [0,3,50] ?_ ?_) [(1000000,1000000)] ?_;rotate_right;rintro x rout ⟨⟨u5,hu5,rfl⟩,⟨c,c1,c2,rfl⟩⟩;refine⟨rfl,?_⟩;conv=>whnf)|(refine oLx (s33 n L hL _ ?_ ?_ [-1,-1,20,1000] ?_ ?_) [(1000000,1000000)] ?_;rotate_right;rintro x rout ⟨⟨u6,hu6,rfl⟩,⟨c,c1,c2,rfl⟩⟩;refine⟨rfl,?_⟩;conv=>whnf)|(refine oAx (s84 n L hL _ ?_ ?_ 15 ?_) [(1000000,1000000)] ?_;rotate_right;rintro x rout ⟨⟨w,rfl⟩,⟨c,c1,c2,rfl⟩⟩;refine⟨rfl,?_⟩;conv=>whnf)|(refine CallX.of (s15 n L hL _ ?_ ?_ [[],[65],[109,97,112],[115,101,97,116]] (by simp) (by simp)) [(1000000,1000000)] rfl ⟨lr,SV.le_lit rfl rfl,trivial⟩ ⟨rr,trivial⟩ rfl rfl ?_;rotate_right;rintro x rout ⟨⟨v1,hv1,rfl⟩,⟨c,c1,c2,rfl⟩⟩;refine⟨rfl,?_⟩;conv=>whnf)|(refine oAx (s104 n L hL _ ?_ ?_ 0 1000000 ?_ ?_ ?_) [(1000000,1000000)] ?_;rotate_right;rintro x rout ⟨⟨o1,ho1,ho2,rfl⟩,⟨c,c1,c2,rfl⟩⟩;refine⟨rfl,?_⟩;conv=>whnf)|(refine oAx (s104 n L hL _ ?_ ?_ (-1) 1000000 ?_ ?_ ?_) [(1000000,1000000)] ?_;rotate_right;rintro x rout ⟨⟨o2,ho3,ho4,rfl⟩,⟨c,c1,c2,rfl⟩⟩;refine⟨rfl,?_⟩;conv=>whnf)|(refine oLx (s33 n L hL _ ?_ ?_ [0,1,2,2] ?_ ?_) [(1000000,1000000)] ?_;rotate_right;rintro x rout ⟨⟨m,hm,rfl⟩,⟨c,c1,c2,rfl⟩⟩;have hm2:0≤m∧m≤2:=(by simp only[List.mem_cons,List.not_mem_nil,or_false]at hm;omega);refine⟨rfl,?_⟩;conv=>whnf)|((first|refine SliceX.first (lo:=none) rfl ?_|refine br_intro ?_ ?_<;>intro hb<;>try simp only[brs]at hb|omega|refine sAx ?_|decide|assumption)<;>conv=>whnf))
 all_goals try(exact h0)
 all_goals try omega
 · have hw:v1.length≤8:=mem_len hv1 rfl;refine .freeze _ 41 189 4 _ _ rfl (.weak _ ?_);conv=>whnf
   refine⟨.d (exts (([⟨[109,97,112],u1,u2,u3⟩,⟨v1,o1,0,o2⟩]:List Ext).take m.toNat)),[(1000000,strm n L _)],ext_cut hm2.1 hm2.2 rfl rfl rfl,⟨⟨_,⟨by rw[List.length_take];exact Nat.min_le_right _ _,fun x hx=> ?_⟩,rfl⟩,_,by omega,by omega,rfl⟩,rr,trivial⟩;have hx:=List.mem_of_mem_take hx;simp only[List.mem_cons,List.not_mem_nil,or_false]at hx;rcases hx with rfl|rfl
   · show([109,97,112]:List UInt8).length≤8;decide
   · exact hw
 · refine .freeze _ 41 189 4 _ _ rfl (.weak _ ?_);conv=>whnf
   refine⟨.d (exts (([⟨[109,97,112],u1,u2,u3⟩,⟨[115,101,97,116],u4,u5,u6⟩]:List Ext).take m.toNat)),[(1000000,strm n L _)],ext_cut hm2.1 hm2.2 rfl rfl rfl,⟨⟨_,⟨by rw[List.length_take];exact Nat.min_le_right _ _,fun x hx=> ?_⟩,rfl⟩,_,by omega,by omega,rfl⟩,rr,trivial⟩;have hx:=List.mem_of_mem_take hx;simp only[List.mem_cons,List.not_mem_nil,or_false]at hx;rcases hx with rfl|rfl
   · show([109,97,112]:List UInt8).length≤8;decide
   · show([115,101,97,116]:List UInt8).length≤8;decide
def p2F (p:List UInt8×List UInt8):List DV:= [.str p.1,.str p.2]
def f4:List (List UInt8×List UInt8):= [([115,49],[115,50]),([115,49],[115,51]),([115,50],[115,49]),([115,51],[115,50])]
theorem f4_len (i:Nat):(f4.getD i ([],[])).1.length≤8∧(f4.getD i ([],[])).2.length≤8:=by
 match i with
 |0=>decide
 |1=>decide
 |2=>decide
 |3=>decide
 |i+4=>simp[f4]
theorem yFees (n:Nat)(L:Nat→Int)(hL:Rok n L)(a:Int)(h0:0≤a)(ha:a≤2^36):
 FSpec Tryz.prog 72 [.ptr 1000000 0] [(1000000,strm n L a)] (fun y r=>(∃l:List Fe,allK feM 5 l∧y= .d (fes l))∧Moved n L a 20 r):=by
 refine spAx hT Tryz.func72 Tryz.call72 ?_;conv=>whnf
 refine LoopX.rule hT (C:= []) (ι:=Int×List Fe×Nat) (fun(b,l,i)=>(a≤b∧b≤a+2*i∧i≤4)∧allK feM i l)
  (fun(b,l,i)=>mkSt [(0,.ptr 1000000 0),(3,.buf 3),(10,.d (seqD 2 p2F ([],[]) f4)),(11,.d (.int .i64 4)),(12,.d (.int .i64 i))] [(1000000,strm n L b),(3,seqB 193 3 feF fe0 l)])
  (fun(_,_,i)=>4 - i) (a,[],0) ⟨⟨by simp,by simp,by simp⟩,⟨by simp,by simp⟩⟩ ?_ ?_
 · refine(Entails.nil 3 3 193 3 (rowF feF fe0 []) rfl rfl (by decide)).trans (Entails.mk' [(1000000,1000000),(3,3)] rfl rfl ⟨lr,lr,SV.le_lit rfl rfl,lr,lr,trivial⟩ ⟨rr,rr,trivial⟩)
 rintro⟨b,l,i⟩ ⟨⟨p1,p2,p3⟩,p4⟩;have p1:a≤b:=p1;have p2:b≤a+2*i:=p2;have p3:i≤4:=p3;have p4:allK feM i l:=p4;have hc3:f4.length=4:=rfl;have hl1:l.length≤i:=p4.1;have e1:=tnc i;have hf:=f4_len (i:Int).toNat;conv=>whnf
 repeat' (first|(refine oAx (s84 n L hL _ ?_ ?_ 3 ?_) [(1000000,1000000)] ?_;rotate_right;rintro x rout ⟨⟨w,rfl⟩,⟨c,c1,c2,rfl⟩⟩;refine⟨rfl,?_⟩;conv=>whnf)|(refine oLx (s33 n L hL _ ?_ ?_ [0,40,700] ?_ ?_) [(1000000,1000000)] ?_;rotate_right;rintro x rout ⟨⟨u1,hu1,rfl⟩,⟨c,c1,c2,rfl⟩⟩;refine⟨rfl,?_⟩;conv=>whnf)|(refine oAx (s84 n L hL _ ?_ ?_ 15 ?_) [(1000000,1000000)] ?_;rotate_right;rintro x rout ⟨⟨w2,rfl⟩,⟨c,c1,c2,rfl⟩⟩;refine⟨rfl,?_⟩;conv=>whnf)|(refine CallX.of (s15 n L hL _ ?_ ?_ [[115,51],[65],[115,49]] (by simp) (by simp)) [(1000000,1000000)] rfl ⟨lr,SV.le_lit rfl rfl,trivial⟩ ⟨rr,trivial⟩ rfl rfl ?_;rotate_right;rintro x rout ⟨⟨v1,hv1,rfl⟩,⟨c,c1,c2,rfl⟩⟩;refine⟨rfl,?_⟩;conv=>whnf)|(refine CallX.of (s15 n L hL _ ?_ ?_ [[115,51],[115,57],[]] (by simp) (by simp)) [(1000000,1000000)] rfl ⟨lr,SV.le_lit rfl rfl,trivial⟩ ⟨rr,trivial⟩ rfl rfl ?_;rotate_right;rintro x rout ⟨⟨v2,hv2,rfl⟩,⟨c,c1,c2,rfl⟩⟩;refine⟨rfl,?_⟩;conv=>whnf)|(refine oAx (s104 n L hL _ ?_ ?_ 0 1000000 ?_ ?_ ?_) [(1000000,1000000)] ?_;rotate_right;rintro x rout ⟨⟨o1,ho1,ho2,rfl⟩,⟨c,c1,c2,rfl⟩⟩;refine⟨rfl,?_⟩;conv=>whnf)|((first|refine br_intro ?_ ?_<;>intro hb<;>try simp only[brs]at hb|refine tAx hT oATmB72 ?_|omega|refine sAx ?_|decide|assumption)<;>conv=>whnf))
 all_goals try(exact h0)
 all_goals try omega
 · exact⟨(c,l++ [⟨(f4.getD (i:Int).toNat ([],[])).1,(f4.getD (i:Int).toNat ([],[])).2,u1⟩],i+1),⟨⟨by omega,by show _≤a+2*((i+1:Nat):Int);omega,by omega⟩,allK_snoc p4 (by omega) (show feM ⟨(f4.getD (i:Int).toNat ([],[])).1,(f4.getD (i:Int).toNat ([],[])).2,u1⟩from hf)⟩,by show 4 - (i+1)<4 - i;omega,
    Entails.mk' [(1000000,1000000),(3,29)] rfl rfl ⟨lr,lr,lr,lr,lr,trivial⟩ ⟨rr,Res.le_snocF rfl,trivial⟩⟩
 · exact⟨(c,l,i+1),⟨⟨by omega,by show _≤a+2*((i+1:Nat):Int);omega,by omega⟩,allK_le p4 (by omega)⟩,by show 4 - (i+1)<4 - i;omega,(by exact eAx [(1000000,1000000),(3,3)])⟩
 · refine .freeze _ 44 193 3 _ _ rfl (.weak _ ?_);conv=>whnf
   exact⟨.d (fes (l++ [⟨v1,v2,o1⟩])),[(1000000,strm n L _)],SV.le_ro (by simp) (rows_snocF rfl),⟨⟨_,allK_snoc p4 (by omega) ⟨mem_len hv1 rfl,mem_len hv2 rfl⟩,rfl⟩,_,by omega,by omega,rfl⟩,rr,trivial⟩
 · refine .freeze _ 3 193 3 _ _ rfl (.weak _ ?_);conv=>whnf
   exact⟨.d (fes l),[(1000000,strm n L _)],lr,⟨⟨_,allK_le p4 (by omega),rfl⟩,_,by omega,by omega,rfl⟩,rr,trivial⟩
def k3:List (List UInt8):= [[97,49,48],[98,50,48],[99,51,48]]
theorem yCodes (n:Nat)(L:Nat→Int)(hL:Rok n L)(a:Int)(h0:0≤a)(ha:a≤2^36):
 FSpec Tryz.prog 73 [.ptr 1000000 0] [(1000000,strm n L a)] (fun y r=>(∃l:List Cod,allK codM 3 l∧y= .d (cods l))∧Moved n L a 40 r):=by
 refine spAx hT Tryz.func73 Tryz.call73 ?_;conv=>whnf
 refine LoopX.rule hT (C:= []) (ι:=Int×List Cod×Nat) (fun(b,l,i)=>(a≤b∧b≤a+8*i∧i≤3)∧allK codM i l)
  (fun(b,l,i)=>mkSt [(0,.ptr 1000000 0),(3,.buf 3),(8,.d (strs k3)),(9,.d (.int .i64 3)),(10,.d (.int .i64 i))] [(1000000,strm n L b),(3,seqB 195 6 codF cod0 l)])
  (fun(_,_,i)=>3 - i) (a,[],0) ⟨⟨by simp,by simp,by simp⟩,⟨by simp,by simp⟩⟩ ?_ ?_
 · refine(Entails.nil 3 3 195 6 (rowF codF cod0 []) rfl rfl (by decide)).trans (Entails.mk' [(1000000,1000000),(3,3)] rfl rfl ⟨lr,lr,SV.le_lit rfl rfl,lr,lr,trivial⟩ ⟨rr,rr,trivial⟩)
 rintro⟨b,l,i⟩ ⟨⟨p1,p2,p3⟩,p4⟩;have p1:a≤b:=p1;have p2:b≤a+8*i:=p2;have p3:i≤3:=p3;have p4:allK codM i l:=p4;have hc3:k3.length=3:=rfl;have hl1:l.length≤i:=p4.1;have hkk:(i:Int)<3→(k3.getD (i:Int).toNat []).length≤8:=fun h=>mem_len (getD_mem (by omega)) rfl
 conv=>whnf
 repeat' (first|(refine oAx (s84 n L hL _ ?_ ?_ 4 ?_) [(1000000,1000000)] ?_;rotate_right;rintro x rout ⟨⟨w,rfl⟩,⟨c,c1,c2,rfl⟩⟩;refine⟨rfl,?_⟩;conv=>whnf)|(refine oLx (s33 n L hL _ ?_ ?_ [0,0,3] ?_ ?_) [(1000000,1000000)] ?_;rotate_right;rintro x rout ⟨⟨u1,hu1,rfl⟩,⟨c,c1,c2,rfl⟩⟩;have hw1:=pkD hu1 (by decide);refine⟨rfl,?_⟩;conv=>whnf)|(refine CallX.of (s15 n L hL _ ?_ ?_ [[],[],[109,105,110,105]] (by simp) (by simp)) [(1000000,1000000)] rfl ⟨lr,SV.le_lit rfl rfl,trivial⟩ ⟨rr,trivial⟩ rfl rfl ?_;rotate_right;rintro x rout ⟨⟨v1,hv1,rfl⟩,⟨c,c1,c2,rfl⟩⟩;refine⟨rfl,?_⟩;conv=>whnf)|(refine oLx (s33 n L hL _ ?_ ?_ [0,1,10,3000] ?_ ?_) [(1000000,1000000)] ?_;rotate_right;rintro x rout ⟨⟨u2,hu2,rfl⟩,⟨c,c1,c2,rfl⟩⟩;have hw2:=pkD hu2 (by decide);refine⟨rfl,?_⟩;conv=>whnf)|(refine oLx (s33 n L hL _ ?_ ?_ [1,1,2,5] ?_ ?_) [(1000000,1000000)] ?_;rotate_right;rintro x rout ⟨⟨u3,hu3,rfl⟩,⟨c,c1,c2,rfl⟩⟩;refine⟨rfl,?_⟩;conv=>whnf)|(refine oLx (s33 n L hL _ ?_ ?_ [1,100,100,250,1000] ?_ ?_) [(1000000,1000000)] ?_;rotate_right;rintro x rout ⟨⟨u4,hu4,rfl⟩,⟨c,c1,c2,rfl⟩⟩;refine⟨rfl,?_⟩;conv=>whnf)|(refine oAx (s84 n L hL _ ?_ ?_ 15 ?_) [(1000000,1000000)] ?_;rotate_right;rintro x rout ⟨⟨w2,rfl⟩,⟨c,c1,c2,rfl⟩⟩;refine⟨rfl,?_⟩;conv=>whnf)|(refine oAx (s86 n L hL _ ?_ ?_ _ ?_) [(1000000,1000000)] ?_;rotate_right;rintro x rout ⟨⟨j,hj1,hj2,hj3,rfl⟩,⟨c,c1,c2,rfl⟩⟩;refine⟨rfl,?_⟩;conv=>whnf)|(refine CallX.of (s15 n L hL _ ?_ ?_ [(l.getD j.toNat cod0).key,[],[122,101,100],[97,49,48]] (by simp) (by simp)) [(1000000,1000000)] rfl ⟨lr,SV.le_lit rfl rfl,trivial⟩ ⟨rr,trivial⟩ rfl rfl ?_;rotate_right;rintro x rout ⟨⟨v2,hv2,rfl⟩,⟨c,c1,c2,rfl⟩⟩;refine⟨rfl,?_⟩;conv=>whnf)|(refine oAx (s104 n L hL _ ?_ ?_ 1 120 ?_ ?_ ?_) [(1000000,1000000)] ?_;rotate_right;rintro x rout ⟨⟨o1,ho1,ho2,rfl⟩,⟨c,c1,c2,rfl⟩⟩;refine⟨rfl,?_⟩;conv=>whnf)|(refine oAx (s104 n L hL _ ?_ ?_ 1 1000 ?_ ?_ ?_) [(1000000,1000000)] ?_;rotate_right;rintro x rout ⟨⟨o2,ho3,ho4,rfl⟩,⟨c,c1,c2,rfl⟩⟩;refine⟨rfl,?_⟩;conv=>whnf)|((first|refine br_intro ?_ ?_<;>intro hb<;>try simp only[brs]at hb|omega|refine sAx ?_|decide|assumption)<;>conv=>whnf))
 all_goals try(exact h0)
 all_goals try omega
 · exact⟨(c,l,i+1),⟨⟨by omega,by show _≤a+8*((i+1:Nat):Int);omega,by omega⟩,allK_le p4 (by omega)⟩,by show 3 - (i+1)<3 - i;omega,(by exact eAx [(1000000,1000000),(3,3)])⟩
 · exact⟨(c,l++ [⟨k3.getD (i:Int).toNat [],v1,u1,u1+u2,u3,u4⟩],i+1),⟨⟨by omega,by show _≤a+8*((i+1:Nat):Int);omega,by omega⟩,allK_snoc p4 (by omega) ⟨hkk (by omega),mem_len hv1 rfl⟩⟩,by show 3 - (i+1)<3 - i;omega,
    Entails.mk' [(1000000,1000000),(3,38)] rfl rfl ⟨lr,lr,lr,lr,lr,trivial⟩ ⟨rr,Res.le_snocF rfl,trivial⟩⟩
 · have hv:v2.length≤8:=by
    simp only[List.mem_cons,List.not_mem_nil,or_false]at hv2;rcases hv2 with rfl|rfl|rfl|rfl
    · exact(p4.2 _ (getD_mem (by omega))).1
    · decide
    · decide
    · decide
   refine .freeze _ 3 195 6 _ _ rfl (.weak _ ?_);conv=>whnf
   have hrow:=rows_updG (f:=codF) (d:=cod0) (rows_updG (rows_updG (l:=l) (j:=j.toNat) (off:=0) (ds:= [.str v2]) (fun _ _=>rfl) (fun y:Cod=>{y with key:=v2}) (fun _=>rfl)) (off:=4) (ds:= [.int .i64 o1]) (j:=j.toNat) (fun y:Cod=>{y with days:=o1}) (fun _=>rfl)) (off:=5) (ds:= [.int .i64 o2]) (j:=j.toNat) (fun y:Cod=>{y with per:=o2}) (fun _=>rfl);exact⟨.d (cods (updL (updL (updL l j.toNat cod0 fun y=>{y with key:=v2}) j.toNat cod0 fun y=>{y with days:=o1}) j.toNat cod0 fun y=>{y with per:=o2})),[(1000000,strm n L _)],SV.le_ro (by simp) (fun i hi=>hrow i (by simpa using hi)),⟨⟨_,allK_upd (g:=fun y:Cod=>{y with per:=o2}) (allK_upd (g:=fun y:Cod=>{y with days:=o1}) (allK_upd (g:=fun y:Cod=>{y with key:=v2}) (allK_le p4 (by omega)) (fun y hy=>⟨hv,hy.2⟩)) (fun y hy=>hy)) (fun y hy=>hy),rfl⟩,_,by omega,by omega,rfl⟩,rr,trivial⟩
 all_goals
  refine .freeze _ 3 195 6 _ _ rfl (.weak _ ?_);conv=>whnf
  exact⟨.d (cods l),[(1000000,strm n L _)],lr,⟨⟨_,allK_le p4 (by omega),rfl⟩,_,by omega,by omega,rfl⟩,rr,trivial⟩
def oATmC74:TL:= [(18,[(0,[]),(1,[0]),(2,[0]),(3,[0]),(4,[0]),(5,rg 5),(6,rg 6),(7,rg 5),(8,rg 5),(9,[0]),(10,[]),(11,[]),(12,[])])]
def taxM (x:Tax):Prop:=x.key.length≤8∧x.on.length≤8
structure BTx where
 key:List UInt8
 per:Int
 v:Value
 on:List Int
 over:Bool
def btF (x:BTx):List DV:= [.str x.key,.int .i64 x.per,.opq x.v,.bool x.over]
def bt0:BTx:=⟨[],0,.nilFunc,[],false⟩
def bM (x:BTx):Prop:=x.key.length≤8∧x.on.length≤5
def bT (x:BTx):Tax:=⟨x.key,x.per,x.on,x.over⟩
def bE (x:BTx):Value×Nat×(Nat→List DV):=(x.v,x.on.length,rowF iF 0 x.on)
def bL (l:List BTx):List (Value×Nat×(Nat→List DV)):=(l.map bE).reverse
theorem bL_snoc (l:List BTx)(x:BTx):bL (l++ [x])=bE x::bL l:=by simp[bL]
theorem bL_mem {l:List BTx}{x:BTx}(h:x ∈ l):bE x ∈ bL l:=by
 unfold bL;rw[List.mem_reverse];exact List.mem_map.2 ⟨x,h,rfl⟩
theorem bL_split (l:List BTx){j:Nat}(h:j<l.length):∃A B,bL l=A++bE (l.getD j bt0)::B∧∀x,∀t ∈ l.set j x,t=x∨bE t ∈ A++B:=by
 have e:l=l.take j++l.getD j bt0::l.drop (j+1):=by
  rw[List.getD_eq_getElem?_getD,List.getElem?_eq_getElem h,Option.getD_some,←List.drop_eq_getElem_cons h,List.take_append_drop]
 refine⟨((l.drop (j+1)).map bE).reverse,((l.take j).map bE).reverse,?_,fun x t ht=> ?_⟩
 · conv=>lhs;rw[e]
   simp[bL]
 · rw[List.set_eq_take_append_cons_drop,if_pos h]at ht;rcases List.mem_append.1 ht with q|q
   · exact .inr (List.mem_append.2 (.inr (by rw[List.mem_reverse];exact List.mem_map.2 ⟨t,q,rfl⟩)))
   · rcases List.mem_cons.1 q with q|q
     · exact .inl q
     · exact .inr (List.mem_append.2 (.inl (by rw[List.mem_reverse];exact List.mem_map.2 ⟨t,q,rfl⟩)))
theorem tax_fro {s:St}{q N:Nat}{Bn:List (Value×Nat×(Nat→List DV))}{get:Nat→List DV}(hb:s.res 999999=some (.bunch 3 1 Bn))(hq:s.res q=some (.buf 198 4 N get))(l:List BTx)(hN:N=l.length)(hg:∀i,i<N→get i=rowF btF bt0 l i)
 (hB:∀t ∈ l,∃p ∈ Bn,p.1=t.v∧p.2.1=t.on.length∧∀i,i<p.2.1→p.2.2 i=rowF iF 0 t.on i):
 Entails s (s.app ⟨none,.any,[(999999,none),(q,some (.buf 198 4 N (rowF taxF tax0 (l.map bT))))],[]⟩):=by
 have hrow:∀i,i<N→rowF taxF tax0 (l.map bT) i=taxF (bT (l.getD i bt0)):=fun i hi=>by
  unfold rowF;congr 1
  rw[List.getD_eq_getElem?_getD,List.getElem?_map,List.getD_eq_getElem?_getD,List.getElem?_eq_getElem (by omega)];rfl
 refine Entails.bunchFro _ hb hq (fun i hi=>by rw[hrow i hi,hg i hi];rfl) (fun i j x hi hx=> ?_);rw[hrow i hi]at hx;rw[hg i hi];obtain⟨t,ht⟩:∃t,t=l.getD i bt0:=⟨_,rfl⟩;have hm:t ∈ l:=by rw[ht];exact getD_mem (by omega)
 show(btF (l.getD i bt0))[j]? =some x∨∃p ∈ Bn,(btF (l.getD i bt0))[j]? =some (.opq p.1)∧∀G v,DV.Den G (.ro 1 p.2.1 p.2.2) v→DV.Den G x v;rw[←ht]at hx ⊢
 match j with
 |0=>exact .inl hx
 |1=>exact .inl hx
 |3=>exact .inl hx
 | 2=>
   obtain⟨p,hp,h1,h2,h3⟩:=hB t hm;cases hx
   exact .inr ⟨p,hp,by rw[h1];rfl,fun G v hv=>DV.ro_ext h2 h3 hv⟩
 |j+4=>cases hx
def tk3:List (List UInt8):= [[99,105,116,121],[115,116,97,116,101],[118,97,116]]
theorem taxM_map {l:List BTx}{k:Nat}(hl:l.length≤k)(h:∀t ∈ l,t.key.length≤8∧t.on.length≤8):allK taxM k (l.map bT):=
 ⟨by rw[List.length_map];exact hl,fun x hx=>by
   obtain⟨t,ht,rfl⟩:=List.mem_map.1 hx
   exact h t ht⟩
theorem yTaxes (n:Nat)(L:Nat→Int)(hL:Rok n L)(a:Int)(h0:0≤a)(ha:a≤2^36):
 FSpec Tryz.prog 74 [.ptr 1000000 0] [(1000000,strm n L a)] (fun y r=>(∃l:List Tax,allK taxM 3 l∧y= .d (taxs l))∧Moved n L a 50 r):=by
 refine spAx hT Tryz.func74 Tryz.call74 ?_;conv=>whnf
 refine LoopX.rule hT (C:= []) (ι:=Int×List BTx×Nat) (fun(b,l,i)=>(a≤b∧b≤a+10*i∧i≤3)∧allK bM i l)
  (fun(b,l,i)=>mkSt [(0,.ptr 1000000 0),(3,.buf 3),(10,.d (strs tk3)),(11,.d (.int .i64 3)),(12,.d (.int .i64 i))] [(1000000,strm n L b),(3,seqB 198 4 btF bt0 l),(999999,.bunch 3 1 (bL l))])
  (fun(_,_,i)=>3 - i) (a,[],0) ⟨⟨by simp,by simp,by simp⟩,⟨by simp,by simp⟩⟩ ?_ ?_
 · refine(Entails.bunchNew 3 1 (by decide) rfl).trans ((Entails.nil 3 3 198 4 (rowF btF bt0 []) rfl rfl (by decide)).trans (Entails.mk' [(1000000,1000000),(3,3),(999999,999999)] rfl rfl ⟨lr,lr,SV.le_lit rfl rfl,lr,lr,trivial⟩ ⟨rr,rr,rr,trivial⟩))
 rintro⟨b,l,i⟩ ⟨⟨p1,p2,p3⟩,p4⟩;have p1:a≤b:=p1;have p2:b≤a+10*i:=p2;have p3:i≤3:=p3;have p4:allK bM i l:=p4;have hc3:tk3.length=3:=rfl;have hl1:l.length≤i:=p4.1;have hkk:(i:Int)<3→(tk3.getD (i:Int).toNat []).length≤8:=fun h=>mem_len (getD_mem (by omega)) rfl
 rcases Nat.lt_or_ge i 3 with hi|hi
 · conv=>whnf
   repeat' (first|(refine oAx (s84 n L hL _ ?_ ?_ 3 ?_) [(1000000,1000000)] ?_;rotate_right;rintro x rout ⟨⟨w,rfl⟩,⟨c,c1,c2,rfl⟩⟩;refine⟨rfl,?_⟩;conv=>whnf)|(refine oLx (s33 n L hL _ ?_ ?_ [0,50,75,200,1000] ?_ ?_) [(1000000,1000000)] ?_;rotate_right;rintro x rout ⟨⟨u1,hu1,rfl⟩,⟨c,c1,c2,rfl⟩⟩;refine⟨rfl,?_⟩;conv=>whnf)|(refine oAx (s84 n L hL _ ?_ ?_ 2 ?_) [(1000000,1000000)] ?_;rotate_right;rintro x rout ⟨⟨w2,rfl⟩,⟨c,c1,c2,rfl⟩⟩;refine⟨rfl,?_⟩;conv=>whnf)|((first|refine br_intro ?_ ?_<;>intro hb<;>try simp only[brs]at hb|refine tAx hT oATmC74 ?_|omega|refine sAx ?_|decide|assumption)<;>conv=>whnf))
   all_goals try(exact h0)
   all_goals try omega
   · exact⟨(c,l,i+1),⟨⟨by omega,by show _≤a+10*((i+1:Nat):Int);omega,by omega⟩,allK_le p4 (by omega)⟩,by show 3 - (i+1)<3 - i;omega,(by exact eAx [(1000000,1000000),(3,3),(999999,999999)])⟩
   · have hk:=hkk (by omega);obtain⟨ky,hky⟩:∃ky,ky=tk3.getD (i:Int).toNat []:=⟨_,rfl⟩;obtain⟨cc,hcc⟩:∃cc:Int,cc=c:=⟨_,rfl⟩;rw[←hky]at hk
     refine LoopX.rule hT (C:= []) (ι:=Int×List Int×Nat) (fun(d,on,k)=>(cc≤d∧d≤cc+k∧k≤5)∧on.length≤k)
      (fun(d,on,k)=>mkSt [(0,.ptr 1000000 0),(3,.buf 3),(6,.ptr 6 0),(10,.d (strs tk3)),(11,.d (.int .i64 3)),(12,.d (.int .i64 i)),(25,.d (ints [1,2,3,4,6])),(26,.d (.int .i64 5)),(27,.d (.int .i64 k))] [(1000000,strm n L d),(3,seqB 198 4 btF bt0 l),(999999,.bunch 3 1 (bL l)),(6,.cells 198 [.d (.str ky),.d (.int .i64 u1),.buf 7,.d (.bool w2)]),(7,seqB 3 1 iF 0 on)])
      (fun(_,_,k)=>5 - k) (cc,[],0) ⟨⟨by simp,by simp,by simp⟩,by simp⟩ ?_ ?_
     · subst hcc hky;refine(Entails.nilCell 6 7 3 1 2 (rowF iF 0 []) rfl rfl rfl (by decide) rfl).trans (Entails.mk' [(1000000,1000000),(3,3),(999999,999999),(6,6),(7,7)] rfl rfl ⟨lr,lr,lr,lr,lr,lr,SV.le_lit rfl rfl,lr,lr,trivial⟩ ⟨rr,rr,rr,?_,rr,trivial⟩);conv=>whnf
       refine⟨rfl,fun _ _ _ _ h=> ?_⟩;exact h
     rintro⟨d,on,k⟩ ⟨⟨q1,q2,q3⟩,q4⟩;have q1:cc≤d:=q1;have q2:d≤cc+k:=q2;have q3:k≤5:=q3;have q4:on.length≤k:=q4;conv=>whnf
     repeat' (first|(refine oAx (s84 n L hL _ ?_ ?_ 2 ?_) [(1000000,1000000)] ?_;rotate_right;rintro x rout ⟨⟨w3,rfl⟩,⟨c,c1,c2,rfl⟩⟩;refine⟨rfl,?_⟩;conv=>whnf)|(intro v;conv=>whnf)|((first|refine br_intro ?_ ?_<;>intro hb<;>try simp only[brs]at hb|refine tAx hT oATmC74 ?_|omega|refine sAx ?_|decide|assumption)<;>conv=>whnf))
     all_goals try(exact h0)
     all_goals try omega
     · exact⟨(c,on++ [([1,2,3,4,6]:List Int).getD (k:Int).toNat 0],k+1),⟨⟨by omega,by show _≤cc+((k+1:Nat):Int);omega,by omega⟩,by show(on++_).length≤k+1;rw[List.length_append];simp;omega⟩,by show 5 - (k+1)<5 - k;omega,
        Entails.mk' [(1000000,1000000),(3,3),(999999,999999),(6,6),(7,37)] rfl rfl ⟨lr,lr,lr,lr,lr,lr,lr,lr,lr,trivial⟩ ⟨rr,rr,rr,rr,Res.le_snocF rfl,trivial⟩⟩
     · exact⟨(c,on,k+1),⟨⟨by omega,by show _≤cc+((k+1:Nat):Int);omega,by omega⟩,by show on.length≤k+1;omega⟩,by show 5 - (k+1)<5 - k;omega,(by exact eAx [(1000000,1000000),(3,3),(999999,999999),(6,6),(7,7)])⟩
     · exact⟨(d,l++ [⟨ky,u1,v,on,w2⟩],i+1),⟨⟨by omega,by show _≤a+10*((i+1:Nat):Int);omega,by omega⟩,allK_snoc p4 (by omega) ⟨hk,by show on.length≤5;omega⟩⟩,by show 3 - (i+1)<3 - i;omega,
        Entails.mk' [(1000000,1000000),(3,43),(999999,999999)] rfl rfl ⟨lr,lr,lr,lr,lr,trivial⟩ ⟨rr,Res.le_snocF rfl,(by rw[bL_snoc];exact rr),trivial⟩⟩
 · have hi3:i=3:=by omega
   subst hi3;have hsp:=fun(j:Int) (h1:0≤j) (h2:j<l.length)=>bL_split l (j:=j.toNat) (by omega)
   have hon:∀j:Int,0≤j→j<l.length→(l.getD j.toNat bt0).on.length≤5:=fun j h1 h2=>(p4.2 _ (getD_mem (by omega))).2
   have hB:∀t ∈ l,∃p ∈ bL l,p.1=t.v∧p.2.1=t.on.length∧∀i,i<p.2.1→p.2.2 i=rowF iF 0 t.on i:=fun t ht=>⟨_,bL_mem ht,rfl,rfl,fun _ _=>rfl⟩
   conv=>whnf
   repeat' (first|(refine oAx (s84 n L hL _ ?_ ?_ 15 ?_) [(1000000,1000000)] ?_;rotate_right;rintro x rout ⟨⟨w,rfl⟩,⟨c,c1,c2,rfl⟩⟩;refine⟨rfl,?_⟩;conv=>whnf)|(refine oAx (s86 n L hL _ ?_ ?_ 3 ?_) [(1000000,1000000)] ?_;rotate_right;rintro x rout ⟨⟨m,hm1,hm2,hm3,rfl⟩,⟨c,c1,c2,rfl⟩⟩;refine⟨rfl,?_⟩;conv=>whnf)|(refine oAx (s86 n L hL _ ?_ ?_ _ ?_) [(1000000,1000000)] ?_;rotate_right;rintro x rout ⟨⟨j,hj1,hj2,hj3,rfl⟩,⟨c,c1,c2,rfl⟩⟩;refine⟨rfl,?_⟩;conv=>whnf)|(refine CallX.of (s15 n L hL _ ?_ ?_ [[],[99,105,116,121],[65]] (by simp) (by simp)) [(1000000,1000000)] rfl ⟨lr,SV.le_lit rfl rfl,trivial⟩ ⟨rr,trivial⟩ rfl rfl ?_;rotate_right;rintro x rout ⟨⟨v1,hv1,rfl⟩,⟨c,c1,c2,rfl⟩⟩;refine⟨rfl,?_⟩;conv=>whnf)|(refine oAx (s104 n L hL _ ?_ ?_ 0 1000 ?_ ?_ ?_) [(1000000,1000000)] ?_;rotate_right;rintro x rout ⟨⟨o1,ho1,ho2,rfl⟩,⟨c,c1,c2,rfl⟩⟩;refine⟨rfl,?_⟩;conv=>whnf)|(refine oLx (s33 n L hL _ ?_ ?_ [0,5,6,7,1] ?_ ?_) [(1000000,1000000)] ?_;rotate_right;rintro x rout ⟨⟨u1,hu1,rfl⟩,⟨c,c1,c2,rfl⟩⟩;refine⟨rfl,?_⟩;conv=>whnf)|((first|(obtain⟨A,B,hAB,hset⟩:=hsp j hj1 (hj2 (by omega));refine⟨A,_,_,B,hAB,?_⟩)|(refine And.intro (by have:=hon j hj1 (hj2 (by omega));show((l.getD j.toNat bt0).on.length+1)*8≤140737488355328;omega) ?_))<;>conv=>whnf)|(intro v';conv=>whnf)|((first|refine br_intro ?_ ?_<;>intro hb<;>try simp only[brs]at hb|refine tAx hT oATmC74 ?_|omega|refine sAx ?_|decide|assumption)<;>conv=>whnf))
   all_goals try(exact h0)
   all_goals try omega
   · have hw:v1.length≤8:=mem_len hv1 rfl;refine .ent _ _ (tax_fro (q:=3) rfl rfl (updL l j.toNat bt0 fun y=>{y with key:=v1}) (by simp) (fun i hi=>rows_updG (f:=btF) (d:=bt0) (l:=l) (j:=j.toNat) (off:=0) (ds:= [.str v1]) (fun _ _=>rfl) (fun y:BTx=>{y with key:=v1}) (fun _=>rfl) i (by simpa using hi)) (fun t ht=> ?_)) (.freeze _ 3 198 4 _ _ rfl (.weak _ ?_))
     · rcases List.mem_or_eq_of_mem_set ht with q|rfl
       · exact hB t q
       · exact hB (l.getD j.toNat bt0) (getD_mem (by omega))
     conv=>whnf
     exact⟨.d (taxs ((updL l j.toNat bt0 fun y=>{y with key:=v1}).map bT)),[(1000000,strm n L _)],SV.le_ro (by simp) (fun _ _=>rfl),⟨⟨_,taxM_map (by simpa using p4.1) (fun t ht=>by
      rcases List.mem_or_eq_of_mem_set ht with q|rfl
      · exact⟨(p4.2 t q).1,Nat.le_trans (p4.2 t q).2 (by decide)⟩
      · exact⟨hw,Nat.le_trans (p4.2 _ (getD_mem (by omega))).2 (by decide)⟩),rfl⟩,_,by omega,by omega,rfl⟩,rr,trivial⟩
   · refine .ent _ _ (tax_fro (q:=3) rfl rfl (updL l j.toNat bt0 fun y=>{y with per:=o1}) (by simp) (fun i hi=>rows_updG (f:=btF) (d:=bt0) (l:=l) (j:=j.toNat) (off:=1) (ds:= [.int .i64 o1]) (fun _ _=>rfl) (fun y:BTx=>{y with per:=o1}) (fun _=>rfl) i (by simpa using hi)) (fun t ht=> ?_)) (.freeze _ 3 198 4 _ _ rfl (.weak _ ?_))
     · rcases List.mem_or_eq_of_mem_set ht with q|rfl
       · exact hB t q
       · exact hB (l.getD j.toNat bt0) (getD_mem (by omega))
     conv=>whnf
     exact⟨.d (taxs ((updL l j.toNat bt0 fun y=>{y with per:=o1}).map bT)),[(1000000,strm n L _)],SV.le_ro (by simp) (fun _ _=>rfl),⟨⟨_,taxM_map (by simpa using p4.1) (fun t ht=>by
      rcases List.mem_or_eq_of_mem_set ht with q|rfl
      · exact⟨(p4.2 t q).1,Nat.le_trans (p4.2 t q).2 (by decide)⟩
      · exact⟨(p4.2 _ (getD_mem (by omega))).1,Nat.le_trans (p4.2 _ (getD_mem (by omega))).2 (by decide)⟩),rfl⟩,_,by omega,by omega,rfl⟩,rr,trivial⟩
   · have hon:=hon j hj1 (hj2 (by omega));refine .ent _ _ (tax_fro (q:=3) rfl rfl (updL l j.toNat bt0 fun y=>{y with v:=v',on:=y.on++ [u1]}) (by simp) (fun i hi=>rows_updG (f:=btF) (d:=bt0) (l:=l) (j:=j.toNat) (off:=2) (ds:= [.opq v']) (fun _ _=>rfl) (fun y:BTx=>{y with v:=v',on:=y.on++ [u1]}) (fun _=>rfl) i (by simpa using hi)) (fun t ht=> ?_)) (.freeze _ 3 198 4 _ _ rfl (.weak _ ?_))
     · rcases hset _ t ht with rfl|q
       · exact⟨_,List.mem_cons_self,rfl,by simp,fun i hi=>rows_snocF (f:=iF) (d:=0) (l:=(l.getD j.toNat bt0).on) (x:=u1) (h:=fun i=> [[DV.int .i64 u1]].getD i []) rfl i hi⟩
       · exact⟨_,List.mem_cons_of_mem _ q,rfl,rfl,fun _ _=>rfl⟩
     conv=>whnf
     exact⟨.d (taxs ((updL l j.toNat bt0 fun y=>{y with v:=v',on:=y.on++ [u1]}).map bT)),[(1000000,strm n L _)],SV.le_ro (by simp) (fun _ _=>rfl),⟨⟨_,taxM_map (by simpa using p4.1) (fun t ht=>by
      rcases List.mem_or_eq_of_mem_set ht with q|rfl
      · exact⟨(p4.2 t q).1,Nat.le_trans (p4.2 t q).2 (by decide)⟩
      · exact⟨(p4.2 _ (getD_mem (by omega))).1,by show(_++ [u1]).length≤8;rw[List.length_append,List.length_singleton];omega⟩),rfl⟩,_,by omega,by omega,rfl⟩,rr,trivial⟩
   all_goals
    refine .ent _ _ (tax_fro (q:=3) rfl rfl l rfl (fun _ _=>rfl) hB) (.freeze _ 3 198 4 _ _ rfl (.weak _ ?_));conv=>whnf
    exact⟨.d (taxs (l.map bT)),[(1000000,strm n L _)],SV.le_ro (by simp) (fun _ _=>rfl),⟨⟨_,taxM_map p4.1 (fun t q=>⟨(p4.2 t q).1,Nat.le_trans (p4.2 t q).2 (by decide)⟩),rfl⟩,_,by omega,by omega,rfl⟩,rr,trivial⟩
def dea (d:Dea):SV:=.agg ((deaF d).map .d)
theorem yDeal (n:Nat)(L:Nat→Int)(hL:Rok n L)(a:Int)(h0:0≤a)(ha:a≤2^37):
 FSpec Tryz.prog 39 [.ptr 1000000 0] [(1000000,strm n L a)] (fun y r=>(∃d:Dea,y=dea d)∧Moved n L a 20 r):=by
 refine spAx hT Tryz.func39 Tryz.call39 ?_;conv=>whnf
 repeat' (first|(refine oLx (s33 n L hL _ ?_ ?_ [0,100,200,10000] ?_ ?_) [(1000000,1000000)] ?_;rotate_right;rintro x rout ⟨⟨u1,hu1,rfl⟩,⟨c,c1,c2,rfl⟩⟩;refine⟨rfl,?_⟩;conv=>whnf)|(refine oLx (s33 n L hL _ ?_ ?_ [0,2,30] ?_ ?_) [(1000000,1000000)] ?_;rotate_right;rintro x rout ⟨⟨u2,hu2,rfl⟩,⟨c,c1,c2,rfl⟩⟩;refine⟨rfl,?_⟩;conv=>whnf)|(refine oLx (s33 n L hL _ ?_ ?_ [0,300,1000] ?_ ?_) [(1000000,1000000)] ?_;rotate_right;rintro x rout ⟨⟨u3,hu3,rfl⟩,⟨c,c1,c2,rfl⟩⟩;refine⟨rfl,?_⟩;conv=>whnf)|(refine oLx (s33 n L hL _ ?_ ?_ [0,29,30,59,60] ?_ ?_) [(1000000,1000000)] ?_;rotate_right;rintro x rout ⟨⟨u4,hu4,rfl⟩,⟨c,c1,c2,rfl⟩⟩;refine⟨rfl,?_⟩;conv=>whnf)|(refine oLx (s33 n L hL _ ?_ ?_ [0,500,1000,2000] ?_ ?_) [(1000000,1000000)] ?_;rotate_right;rintro x rout ⟨⟨u5,hu5,rfl⟩,⟨c,c1,c2,rfl⟩⟩;refine⟨rfl,?_⟩;conv=>whnf)|(refine oLx (s33 n L hL _ ?_ ?_ [0,4000,5000,9000] ?_ ?_) [(1000000,1000000)] ?_;rotate_right;rintro x rout ⟨⟨u6,hu6,rfl⟩,⟨c,c1,c2,rfl⟩⟩;refine⟨rfl,?_⟩;conv=>whnf)|(refine oLx (s33 n L hL _ ?_ ?_ [0,10000,1000000] ?_ ?_) [(1000000,1000000)] ?_;rotate_right;rintro x rout ⟨⟨u7,hu7,rfl⟩,⟨c,c1,c2,rfl⟩⟩;refine⟨rfl,?_⟩;conv=>whnf)|(refine oAx (s84 n L hL _ ?_ ?_ 15 ?_) [(1000000,1000000)] ?_;rotate_right;rintro x rout ⟨⟨w,rfl⟩,⟨c,c1,c2,rfl⟩⟩;refine⟨rfl,?_⟩;conv=>whnf)|(refine oAx (s104 n L hL _ ?_ ?_ 0 10000 ?_ ?_ ?_) [(1000000,1000000)] ?_;rotate_right;rintro x rout ⟨⟨o1,ho1,ho2,rfl⟩,⟨c,c1,c2,rfl⟩⟩;refine⟨rfl,?_⟩;conv=>whnf)|(refine oAx (s104 n L hL _ ?_ ?_ 0 1440 ?_ ?_ ?_) [(1000000,1000000)] ?_;rotate_right;rintro x rout ⟨⟨o2,ho3,ho4,rfl⟩,⟨c,c1,c2,rfl⟩⟩;refine⟨rfl,?_⟩;conv=>whnf)|(refine oAx (s104 n L hL _ ?_ ?_ 0 1000000 ?_ ?_ ?_) [(1000000,1000000)] ?_;rotate_right;rintro x rout ⟨⟨o3,ho5,ho6,rfl⟩,⟨c,c1,c2,rfl⟩⟩;refine⟨rfl,?_⟩;conv=>whnf)|(refine oAx (s104 n L hL _ ?_ ?_ 0 1000000 ?_ ?_ ?_) [(1000000,1000000)] ?_;rotate_right;rintro x rout ⟨⟨o4,ho7,ho8,rfl⟩,⟨c,c1,c2,rfl⟩⟩;refine⟨rfl,?_⟩;conv=>whnf)|((first|refine br_intro ?_ ?_<;>intro hb<;>try simp only[brs]at hb|omega|refine sAx ?_|decide|assumption)<;>conv=>whnf))
 all_goals try(exact h0)
 all_goals try omega
 all_goals refine .ret _ ?_
 all_goals conv=>whnf
 · exact⟨[(1000000,strm n L _)],⟨⟨⟨_,_,_,_,_,_,_⟩,rfl⟩,_,by omega,by omega,rfl⟩,rr,trivial⟩
 · exact⟨[(1000000,strm n L _)],⟨⟨⟨_,_,_,_,_,_,_⟩,rfl⟩,_,by omega,by omega,rfl⟩,rr,trivial⟩
def dea0:Dea:=⟨0,0,0,0,0,0,0⟩
theorem yRDeal (n:Nat)(L:Nat→Int)(hL:Rok n L)(a:Int)(h0:0≤a)(ha:a≤2^36):
 FSpec Tryz.prog 15 [.ptr 1000000 0] [(1000000,strm n L a)] (fun y r=>(∃d:Dea,deaE d=0∧y=dea d)∧Moved n L a 160 r):=by
 refine spAx hT Tryz.func15 Tryz.call15 ?_;conv=>whnf
 refine LoopX.rule hT (C:= []) (ι:=Int×Nat) (fun(b,i)=>a≤b∧b≤a+20*i∧i≤8)
  (fun(b,i)=>mkSt [(0,.ptr 1000000 0),(2,.ptr 2 0),(4,.d (.int .i64 i))] [(1000000,strm n L b),(2,.cells 40 ((deaF dea0).map .d))])
  (fun(_,i)=>8 - i) (a,0) ⟨by simp,by simp,by simp⟩ (by exact eAx [(1000000,1000000),(2,2)]) ?_
 rintro⟨b,i⟩ ⟨p1,p2,p3⟩;have p1:a≤b:=p1;have p2:b≤a+20*i:=p2;have p3:i≤8:=p3;conv=>whnf
 repeat' (first|(refine oAx (yDeal n L hL _ ?_ ?_) [(1000000,1000000)] ?_;rotate_right;rintro x rout ⟨⟨d,rfl⟩,⟨c,c1,c2,rfl⟩⟩;refine⟨rfl,?_⟩;conv=>whnf)|((first|refine CallX.pure (y85 _) ⟨lr,trivial⟩ rfl ?_|refine br_intro ?_ ?_<;>intro hb<;>try simp only[brs]at hb|omega|refine sAx ?_|decide|assumption)<;>conv=>whnf))
 all_goals try omega
 · refine .ret _ ?_;conv=>whnf
   exact⟨[(1000000,strm n L _)],⟨⟨d,by simpa using hb,rfl⟩,_,by omega,by omega,rfl⟩,rr,trivial⟩
 · exact⟨(c,i+1),⟨by omega,by show _≤a+20*((i+1:Nat):Int);omega,by omega⟩,by show 8 - (i+1)<8 - i;omega,(by exact eAx [(1000000,1000000),(2,2)])⟩
 · refine .ret _ ?_;conv=>whnf
   exact⟨[(1000000,strm n L _)],⟨⟨dea0,by decide,rfl⟩,_,by omega,by omega,rfl⟩,rr,trivial⟩
structure tarM (t:Tar):Prop where
 rat:allK ratM 10 t.rat
 ext:allK extM 2 t.ext
 fe:allK feM 5 t.fe
 cod:allK codM 3 t.cod
 tax:allK taxM 3 t.tax
theorem tarM.ok {t:Tar}(h:tarM t):tarOk t:=
 ⟨⟨Nat.le_trans h.rat.1 (by decide),fun x hx=>Nat.le_trans (h.rat.2 x hx) (by decide)⟩,⟨Nat.le_trans h.ext.1 (by decide),fun x hx=>Nat.le_trans (h.ext.2 x hx) (by decide)⟩,
   ⟨Nat.le_trans h.fe.1 (by decide),fun x hx=>⟨Nat.le_trans (h.fe.2 x hx).1 (by decide),Nat.le_trans (h.fe.2 x hx).2 (by decide)⟩⟩,
   ⟨Nat.le_trans h.cod.1 (by decide),fun x hx=>⟨Nat.le_trans (h.cod.2 x hx).1 (by decide),Nat.le_trans (h.cod.2 x hx).2 (by decide)⟩⟩,
   ⟨Nat.le_trans h.tax.1 (by decide),fun x hx=>⟨Nat.le_trans (h.tax.2 x hx).1 (by decide),Nat.le_trans (h.tax.2 x hx).2 (by decide)⟩⟩⟩
def tar (t:Tar):SV:=.agg (tarL t)
theorem yTariff (n:Nat)(L:Nat→Int)(hL:Rok n L)(a:Int)(h0:0≤a)(ha:a≤2^34):
 FSpec Tryz.prog 36 [.ptr 1000000 0] [(1000000,strm n L a)] (fun y r=>(∃t:Tar,tarM t∧y=tar t)∧Moved n L a 250 r):=by
 refine spAx hT Tryz.func36 Tryz.call36 ?_;conv=>whnf
 repeat' (first|(refine oAx (yRates n L hL _ ?_ ?_) [(1000000,1000000)] ?_;rotate_right;rintro x rout ⟨⟨t1,ht1,rfl⟩,⟨c,c1,c2,rfl⟩⟩;refine⟨rfl,?_⟩;conv=>whnf)|(refine oAx (yExtras n L hL _ ?_ ?_) [(1000000,1000000)] ?_;rotate_right;rintro x rout ⟨⟨t2,ht2,rfl⟩,⟨c,c1,c2,rfl⟩⟩;refine⟨rfl,?_⟩;conv=>whnf)|(refine oAx (yFees n L hL _ ?_ ?_) [(1000000,1000000)] ?_;rotate_right;rintro x rout ⟨⟨t3,ht3,rfl⟩,⟨c,c1,c2,rfl⟩⟩;refine⟨rfl,?_⟩;conv=>whnf)|(refine oAx (yCodes n L hL _ ?_ ?_) [(1000000,1000000)] ?_;rotate_right;rintro x rout ⟨⟨t4,ht4,rfl⟩,⟨c,c1,c2,rfl⟩⟩;refine⟨rfl,?_⟩;conv=>whnf)|(refine oAx (yTaxes n L hL _ ?_ ?_) [(1000000,1000000)] ?_;rotate_right;rintro x rout ⟨⟨t5,ht5,rfl⟩,⟨c,c1,c2,rfl⟩⟩;refine⟨rfl,?_⟩;conv=>whnf)|((first|refine br_intro ?_ ?_<;>intro hb<;>try simp only[brs]at hb|omega|refine sAx ?_|decide|assumption)<;>conv=>whnf))
 all_goals try omega
 refine .ret _ ?_;conv=>whnf
 exact⟨[(1000000,strm n L _)],⟨⟨⟨t1,t2,t3,t4,t5⟩,⟨ht1,ht2,ht3,ht4,ht5⟩,rfl⟩,_,by omega,by omega,rfl⟩,rr,trivial⟩
structure houM (h:Hou):Prop where
 flt:fltK h.flt
 tar:tarM h.tar
theorem houM.ok {h:Hou}(k:houM h):houOk h:=⟨k.flt.ok,k.tar.ok⟩
def st2:List Sta:= [⟨[115,49],fun _=>0⟩,⟨[115,50],fun _=>0⟩]
def vk3:List (List UInt8):= [[118,49],[118,50],[118,51]]
end Go.Proofs.YtghhghijalcdfaaGreatDoor
