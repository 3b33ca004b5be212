/- TopQuoteAgain is proved: for every input the law returns true, and its argument reads afterwards as it read before. Conditions: those of the given row alone. -/
import Derived.Test.YtkokpbpililcdaaGreatDoorTqConTri
import Derived.Test.YtkokpbpililcdaaGreatDoorTqConOne
import Derived.Test.YtkokpbpililcdaaGreatDoorTqConTwo
import Derived.Shelf.Small.Strs
import Derived.Test.YtkokpbpililcdaaGreatDoorProg
import Derived.Test.YtkokpbpililcdaaGreatDoorTqEngTwo
set_option linter.unusedVariables false
set_option linter.unusedSimpArgs false
set_option maxRecDepth 20000
namespace Go.Proofs.YtkokpbpililcdaaGreatDoor
open Go Go.Eng
def oJQuH41_11:OL:= [(0,[]),(1,[]),(2,[0,1]),(3,[0,1]),(4,rg 4),(5,rg 4),(6,rg 6),(7,rg 6),(8,rg 8),(9,rg 8),(10,[]),(11,[]),(12,[]),(13,[12]),(14,[12,13]),(15,[13,14]),(16,[14]),(17,[])]
def oJQuH41_19:OL:= [(0,[]),(1,[0]),(2,[0,1]),(3,[0,1]),(4,rg 4),(5,rg 4),(6,rg 6),(10,rg 7),(11,rg 7),(7,[0,1,2,3,10,11]),(8,[0,1,10,11]),(9,[0,1,10,11]),(12,[0,1,2,3,8,9]),(13,[0,1]),(14,[0]),(15,[0]),(16,[]),(17,[])]
theorem SV.le_appF {α:Type}{f:α→List DV}{d:α}{l m:List α}{k:Nat}:SV.le (.d (.ro k (l.length+m.length) (appGet l.length (rowF f d l) (rowF f d m)))) (.d (seqD k f d (l++m))):=by
 refine SV.le_ro (by simp) (fun i hi=> ?_)
 by_cases h:i<l.length
 · rw[appGet_lt h];simp only[rowF];rw[List.getD_eq_getElem?_getD,List.getD_eq_getElem?_getD,List.getElem?_append_left h]
 · rw[appGet_ge (by omega)];simp only[rowF];rw[List.getD_eq_getElem?_getD,List.getD_eq_getElem?_getD,List.getElem?_append_right (by omega)]
theorem linP_bd {P:List Dvd}(h:∀x ∈ P,(0≤x.cents∧x.cents≤24000000)∧1≤x.kind∧x.kind≤4):∀x ∈ P.map linP,0≤x.cents∧x.cents≤24000000:=fun x hx=>by
 obtain⟨y,hy,rfl⟩:=List.mem_map.1 hx;exact(h y hy).1
theorem quoP_bd {t:Tar}{c:List UInt8}{a b:Int}{A B:List UInt8}(h:askP t c a b A B)(q:((dvV (rentV t.rat c a b)).getD 0 dv0).fine=true):(quoP t c a b).length≤120∧∀x ∈ quoP t c a b,(0≤x.cents∧x.cents≤24000000)∧1≤x.kind∧x.kind≤4:=by
 have ok:=rent_ok (tarE_parts h.tE).1 c h.tm;obtain⟨h1,h2⟩:=pcsV_bd (dvD_I ok (rentV t.rat c a b).se.length (Nat.le_refl _)) (daysW a b).toNat 0 (Nat.zero_le _) q;have:=ok.n;exact⟨Nat.le_trans h1 (by omega),h2⟩
theorem feeI_cents {l:List Fe}(hE:fesE l=0){A B:List UInt8}(h:¬feeI l A B<0):0≤(l.getD (feeI l A B).toNat fe0).cents∧(l.getD (feeI l A B).toNat fe0).cents≤1000000:=by
 have hb:=ixF_bd (p:=fun i=>(l.getD i fe0).a==A&&(l.getD i fe0).b==B) (n:=l.length);have hi:(feeI l A B).toNat<l.length:=by unfold feeI at*;omega
 unfold fesE at hE;split at hE
 · cases hE
 · have:=firstAt_all hE _ hi;unfold feE at this
   dsimp only at this
   grind
theorem tax_P {t:Tar}(hk:taxOk t.tax)(hE:taxsE t.tax=0){L:List Lin}(hl:L.length≤1000)(hc:∀x ∈ L,0≤x.cents)(hs:linS L+1≤1002000000):taxP t.tax L:=by
 have h1 :t.tax.length≤10∧∀x ∈ t.tax,0≤x.per∧x.per≤1000:=by
  unfold taxsE at hE;split at hE
  · cases hE
  · refine⟨by omega,fun x hx=> ?_⟩;obtain⟨j,hj,rfl⟩:=mem_getD (d:=tax0) hx;have:=firstAt_all hE j hj;unfold taxE at this
    dsimp only at this
    split at this
    · cases this
    · split at this
      · cases this
      · split at this
        · cases this
        · rename_i c;exact Classical.not_not.1 c
 exact⟨h1.1,fun x hx=>⟨h1.2 x hx,(hk.2 x hx).2⟩,hl,hc,hs⟩
theorem tax_len {t:Tar}(hE:taxsE t.tax=0):t.tax.length≤10:=by
 unfold taxsE at hE;split at hE
 · cases hE
 · omega
def quoR (q:List Lin×Int):SV:=if q.2≠0 then .tup [.d .nilsl,.d (.int .i64 q.2)]else .tup [.d (lins q.1),.d (.int .i64 0)]
set_option maxHeartbeats 8000000 in
theorem q41 (t:Tar)(c:List UInt8)(a b:Int)(A B:List UInt8)(h:askP t c a b A B):
 FSpec Tryz.prog 41 [.agg (tarL t),askA c a b A B] [] (fun y r=>y=quoR (quoV t c a b A B)∧r= []):=by
 obtain⟨e1,e2,e3,e4,e5⟩:=tarE_parts h.tE;obtain⟨t1,t2,t3,t4,t5⟩:=h.tok;have hcl:c.length≤2^40:=Nat.le_trans (keyLn h.ck) (by decide);have c99:=q99 t.rat t1 e1 c h.ck hcl a b h.tm;have c103:=q103 t.fe t3 e3 A B h.Ak h.Bk;have hP:pcsV (dvV (rentV t.rat c a b)) (daysW a b).toNat 0=quoP t c a b:=rfl;rw[hP]at c99;unfold quoV
 by_cases q:((dvV (rentV t.rat c a b)).getD 0 dv0).fine=true
 · obtain ⟨p1,p2⟩:=quoP_bd h q;rw[if_pos q]at c99;rw[if_neg (by rw[q];simp)];generalize quoP t c a b=P at*;have hL:=linP_bd p2;have hS0:=onS_bd ⟨[],0,[],false⟩ (L:=P.map linP) fun x hx=>(hL x hx).1
   have c100:=q100n t.cod t4 e4 c h.ck a b h.tm (linS (P.map linP)) (by omega);have c101:=q101b 24000000 (by omega) (P.map linP) (by rw[List.length_map];omega) (fun x hx=>by have:=hL x hx;omega);have hlen:(P.map linP).length≤120:=by rw[List.length_map];exact p1
   refine spec_of hT (C:= []) Tryz.func41 rfl Tryz.call41 rfl rfl rfl ?_;conv=>whnf
   repeat' (first|(refine CallX.exact (c99) rfl rfl ?_;rotate_right;conv=>whnf)|((first|(refine br_intro ?_ ?_<;>intro hb<;>try simp only[brs]at hb)|refine rAx hT 11 oJQuH41_11 ?_|refine rAx hT 19 oJQuH41_19 ?_|omega|refine sAx ?_|decide|assumption)<;>conv=>whnf))
   all_goals try(exfalso;omega)
   refine LoopX.rule hT (C:= []) (ι:=Nat) (fun i=>i≤P.length) (fun i=>mkSt [(2,.ptr 2 0),(3,.ptr 3 0),(8,.buf 8),(30,.d (pcs P)),(31,.d (.int .i64 P.length)),(32,.d (.int .i64 i))] [(2,.cells 38 (tarL t)),(3,.cells 70 [.d (.str c),.d (.int .i64 a),.d (.int .i64 b),.d (.str A),.d (.str B),.d .nilsl,.d .nilsl]),(8,linB ((P.take i).map linP))]) (fun i=>P.length - i) 0 (Nat.zero_le _) ?_ ?_
   · exact(Entails.nil 8 8 74 3 (rowF liF li0 []) rfl rfl (by decide)).trans (Entails.mk' [(2,2),(3,3),(8,8)] rfl rfl ⟨lr,lr,lr,lr,lr,lr,trivial⟩ ⟨rr,rr,rr,trivial⟩)
   intro i pi;have e0:(i:Int).toNat=i:=Int.toNat_natCast i;rcases Nat.lt_or_ge i P.length with hi|hi
   · have hx:=(p2 _ (getD_mem (x:=dv0) (show(i:Int).toNat<P.length by omega))).2;have hs:(P.take (i+1)).map linP=(P.take i).map linP++ [linP (P.getD (i:Int).toNat dv0)]:=by rw[take_snocD (d:=dv0) hi,e0];simp
     have hk4:(P.getD (i:Int).toNat dv0).kind=1∨(P.getD (i:Int).toNat dv0).kind=2∨(P.getD (i:Int).toNat dv0).kind=3∨(P.getD (i:Int).toNat dv0).kind=4:=by omega
     have hml:(List.map linP (List.take i P)).length≤120:=by rw[List.length_map,List.length_take];omega
     have hlp:linP (P.getD (i:Int).toNat dv0)=⟨1,keyP (P.getD (i:Int).toNat dv0).kind,(P.getD (i:Int).toNat dv0).cents⟩:=rfl;conv=>whnf
     repeat' (first|((first|(refine br_intro ?_ ?_<;>intro hb<;>try simp only[brs]at hb)|refine rAx hT 11 oJQuH41_11 ?_|refine rAx hT 19 oJQuH41_19 ?_|omega|refine sAx ?_|decide|assumption)<;>conv=>whnf))
     rcases hk4 with hk|hk|hk|hk
     all_goals
      rw[hk]at hlp ⊢;conv=>whnf
     all_goals
      repeat' (first|((first|(refine br_intro ?_ ?_<;>intro hb<;>try simp only[brs]at hb)|refine rAx hT 11 oJQuH41_11 ?_|refine rAx hT 19 oJQuH41_19 ?_|omega|refine sAx ?_|decide|assumption)<;>conv=>whnf))
     all_goals
      refine⟨i+1,by omega,by omega,Entails.mk' [(2,2),(3,3),(8,47)] rfl rfl ⟨lr,lr,lr,lr,lr,SV.le_int (by omega),trivial⟩ ⟨rr,rr,?_,trivial⟩⟩;rw[hs,hlp];exact Res.le_snocF rfl
   · have hiP:i=P.length:=by omega
     subst hiP;rw[List.take_length];obtain⟨L,hLd⟩:∃L,L=P.map linP:=⟨_,rfl⟩;have hquo:∀X,quoL t P A B=L++X↔quoL t P A B=L++X:=fun _=>Iff.rfl
     rw[←hLd]at hL hS0 c100 c101 hlen ⊢
     by_cases q2:1000000000<linS L
     · rw[if_pos q2]at c100 ⊢;conv=>whnf
       repeat' (first|(refine CallX.look c101 [(1000001,8)] rfl ⟨lr,trivial⟩ ⟨⟨_,rfl,rfl⟩,trivial⟩ rfl rfl rfl ?_;conv=>whnf)|(refine CallX.exact (c100) rfl rfl ?_;rotate_right;conv=>whnf)|((first|(refine br_intro ?_ ?_<;>intro hb<;>try simp only[brs]at hb)|refine rAx hT 11 oJQuH41_11 ?_|refine rAx hT 19 oJQuH41_19 ?_|omega|refine sAx ?_|decide|assumption)<;>conv=>whnf))
       all_goals try(exfalso;omega)
       refine .ret _ ?_;conv=>whnf
       refine⟨[],⟨congrArg SV.tup ?_,rfl⟩,trivial⟩;repeat' (refine cons_eq ?_ ?_)
       all_goals (conv=>lhs;whnf)
       all_goals try(with_reducible rfl)
     · rw [if_neg q2]at c100 ⊢;conv=>whnf
       repeat' (first|(refine CallX.look c101 [(1000001,8)] rfl ⟨lr,trivial⟩ ⟨⟨_,rfl,rfl⟩,trivial⟩ rfl rfl rfl ?_;conv=>whnf)|(refine CallX.exact (c100) rfl rfl ?_;rotate_right;conv=>whnf)|((first|(refine br_intro ?_ ?_<;>intro hb<;>try simp only[brs]at hb)|refine rAx hT 11 oJQuH41_11 ?_|refine rAx hT 19 oJQuH41_19 ?_|omega|refine sAx ?_|decide|assumption)<;>conv=>whnf))
       all_goals try(exfalso;omega)
       refine LoopX.rule hT (C:= []) (ι:=Unit) (fun _=>True) (fun _=>mkSt [(2,.ptr 2 0),(3,.ptr 3 0),(8,.buf 8),(77,.d .nilsl),(78,.d (.int .i64 0)),(79,.d (.int .i64 0))] [(2,.cells 38 (tarL t)),(3,.cells 70 [.d (.str c),.d (.int .i64 a),.d (.int .i64 b),.d (.str A),.d (.str B),.d .nilsl,.d .nilsl]),(8,linB L)]) (fun _=>0) () trivial ?_ ?_
       · exact Entails.mk' [(2,2),(3,3),(8,8)] rfl rfl ⟨lr,lr,lr,lr,lr,lr,trivial⟩ ⟨rr,rr,rr,trivial⟩
       rintro⟨⟩ -;have hLL:∀F,quoL t P A B=P.map linP++F→quoL t P A B=L++F:=fun F z=>by rw[z,hLd]
       by_cases q3:A=B
       · rw[if_pos q3]at c103;rw[if_neg (fun z=>z.1 q3)];have hq3:quoL t P A B=L:=by unfold quoL;rw[if_pos q3,List.append_nil,hLd]
         have c104:=q104b t.tax L (tax_P t5 e5 (by omega) (fun x hx=>(hL x hx).1) (by omega));have h10:(taxN t.tax L t.tax.length).length≤10:=by rw[taxN_len];exact tax_len e5
         rw[hq3];generalize taxN t.tax L t.tax.length=X at c104 h10 ⊢;conv=>whnf
         repeat' (first|(refine CallX.exact (c103) rfl rfl ?_;rotate_right;conv=>whnf)|((first|(refine oAx c104 [(1000001,8)] ?_;rintro y rout ⟨rfl,rfl⟩;refine⟨rfl,?_⟩)|(refine br_intro ?_ ?_<;>intro hb<;>try simp only[brs]at hb)|refine rAx hT 11 oJQuH41_11 ?_|refine rAx hT 19 oJQuH41_19 ?_|omega|refine sAx ?_|decide|assumption)<;>conv=>whnf))
         all_goals try(exfalso;first|omega|contradiction)
         refine .freeze _ 129 74 3 _ _ rfl (.weak _ ?_);conv=>whnf
         exact⟨.tup [.d (lins (L++X)),.d (.int .i64 0)],[],SV.le_tup ⟨SV.le_appF,lr,trivial⟩,⟨rfl,rfl⟩,trivial⟩
       · rw [if_neg q3]at c103
         by_cases q4:feeI t.fe A B<0
         · rw[if_pos q4]at c103;rw[if_pos ⟨q3,q4⟩];conv=>whnf
           repeat' (first|(refine CallX.exact (c103) rfl rfl ?_;rotate_right;conv=>whnf)|((first|(refine br_intro ?_ ?_<;>intro hb<;>try simp only[brs]at hb)|refine rAx hT 11 oJQuH41_11 ?_|refine rAx hT 19 oJQuH41_19 ?_|omega|refine sAx ?_|decide|assumption)<;>conv=>whnf))
           all_goals try(exfalso;first|omega|contradiction)
           refine .ret _ ?_;conv=>whnf
           refine⟨[],⟨congrArg SV.tup ?_,rfl⟩,trivial⟩;repeat' (refine cons_eq ?_ ?_)
           all_goals (conv=>lhs;whnf)
           all_goals try(with_reducible rfl)
         · rw[if_neg q4]at c103;rw[if_neg (fun z=>q4 z.2)];have hfc:=feeI_cents e3 q4;have hq3:quoL t P A B=L++ [⟨4,[111,110,101,119,97,121],(t.fe.getD (feeI t.fe A B).toNat fe0).cents⟩]:=by unfold quoL;rw[if_neg q3,hLd]
           rw[hq3];generalize (t.fe.getD (feeI t.fe A B).toNat fe0).cents=w at c103 hfc ⊢;obtain⟨M,hM⟩:∃M,M=L++ [⟨4,[111,110,101,119,97,121],w⟩]:=⟨_,rfl⟩;have hMl:M.length=L.length+1:=by rw[hM];simp
           have hMs:linS M=linS L+w:=by rw[hM,linS_app];simp[linS]
           have c104:=q104b t.tax M (tax_P t5 e5 (by omega) (fun x hx=>by
            rw[hM]at hx;rcases List.mem_append.1 hx with z|z
            · exact(hL x z).1
            · rw[List.mem_singleton]at z;subst z;exact hfc.1) (by omega))
           have h10:(taxN t.tax M t.tax.length).length≤10:=by rw[taxN_len];exact tax_len e5
           rw[←hM];generalize taxN t.tax M t.tax.length=X at c104 h10 ⊢;have hMr:Res.le (.buf 74 3 (L.length+1) (appGet L.length (rowF liF li0 L) fun i=> [[DV.int .i64 4,.str [111,110,101,119,97,121],.int .i64 w]].getD i [])) (linB M):=by rw[hM];exact Res.le_snocF rfl
           conv=>whnf
           repeat' (first|(refine CallX.exact (c103) rfl rfl ?_;rotate_right;conv=>whnf)|((first|(refine CallX.of c104 [(1000001,123)] rfl ⟨lr,lr,trivial⟩ ⟨hMr,trivial⟩ rfl rfl ?_;rintro y rout ⟨rfl,rfl⟩;refine⟨rfl,?_⟩)|(refine br_intro ?_ ?_<;>intro hb<;>try simp only[brs]at hb)|refine rAx hT 11 oJQuH41_11 ?_|refine rAx hT 19 oJQuH41_19 ?_|omega|refine sAx ?_|decide|assumption)<;>conv=>whnf))
           all_goals try(exfalso;first|omega|contradiction)
           refine .freeze _ 129 74 3 _ _ rfl (.weak _ ?_);conv=>whnf
           exact⟨.tup [.d (lins (M++X)),.d (.int .i64 0)],[],SV.le_tup ⟨SV.le_appF,lr,trivial⟩,⟨rfl,rfl⟩,trivial⟩
 · rw[if_neg q]at c99;rw[if_pos (by simpa using q)];refine spec_of hT (C:= []) Tryz.func41 rfl Tryz.call41 rfl rfl rfl ?_;conv=>whnf
   repeat' (first|(refine CallX.exact (c99) rfl rfl ?_;rotate_right;conv=>whnf)|((first|(refine br_intro ?_ ?_<;>intro hb<;>try simp only[brs]at hb)|refine rAx hT 11 oJQuH41_11 ?_|refine rAx hT 19 oJQuH41_19 ?_|omega|refine sAx ?_|decide|assumption)<;>conv=>whnf))
   all_goals try(exfalso;omega)
   refine .ret _ ?_;conv=>whnf
   refine⟨[],⟨congrArg SV.tup ?_,rfl⟩,trivial⟩;repeat' (refine cons_eq ?_ ?_)
   all_goals (conv=>lhs;whnf)
   all_goals try(with_reducible rfl)
theorem q12 (t:Tar)(c:List UInt8)(a b:Int)(A B:List UInt8)(h:askP t c a b A B):
 FSpec Tryz.prog 12 [.agg (tarL t),askA c a b A B] [] (fun y r=>y=quoR (quoV t c a b A B)∧r= []):=by
 have c39:=y81 t h.tok;rw[h.tE]at c39;have c41:=q41 t c a b A B h;generalize quoV t c a b A B=v at c41 ⊢;obtain⟨L,e⟩:=v;unfold quoR at c41 ⊢
 by_cases q:e=0
 · subst q;rw[if_neg (fun z=>z rfl)]at c41 ⊢;refine spec_of hT (C:= []) Tryz.func12 rfl Tryz.call12 rfl rfl rfl ?_;conv=>whnf
   repeat' (first|(refine CallX.exact (c39) rfl rfl ?_;rotate_right;conv=>whnf)|(refine CallX.exact (q40n t) rfl rfl ?_;rotate_right;conv=>whnf)|(refine CallX.exact (c41) rfl rfl ?_;rotate_right;conv=>whnf)|((first|(refine br_intro ?_ ?_<;>intro hb<;>try simp only[brs]at hb)|omega|refine sAx ?_|decide|assumption)<;>conv=>whnf))
   refine .ret _ ?_;conv=>whnf
   refine⟨[],⟨congrArg SV.tup ?_,rfl⟩,trivial⟩;repeat' (refine cons_eq ?_ ?_)
   all_goals (conv=>lhs;whnf)
   all_goals try(with_reducible rfl)
 · rw[if_pos q]at c41 ⊢;refine spec_of hT (C:= []) Tryz.func12 rfl Tryz.call12 rfl rfl rfl ?_;conv=>whnf
   repeat' (first|(refine CallX.exact (c39) rfl rfl ?_;rotate_right;conv=>whnf)|(refine CallX.exact (q40n t) rfl rfl ?_;rotate_right;conv=>whnf)|(refine CallX.exact (c41) rfl rfl ?_;rotate_right;conv=>whnf)|((first|(refine br_intro ?_ ?_<;>intro hb<;>try simp only[brs]at hb)|omega|refine sAx ?_|decide|assumption)<;>conv=>whnf))
   refine .ret _ ?_;conv=>whnf
   refine⟨[],⟨congrArg SV.tup ?_,rfl⟩,trivial⟩;repeat' (refine cons_eq ?_ ?_)
   all_goals (conv=>lhs;whnf)
   all_goals try(with_reducible rfl)
def begN (n l:Int):Int:=(n+l - 1).tdiv l
def lstL (h:Hir):Leg:=h.legs.getD (h.legs.length - 1) lg0
def latN (h:Hir):Int:=max 0 ((lstL h).inn.tm - h.to)
def latV (d:Dea)(h:Hir):Int:=if latN h≤d.grc then 0 else min (d.hr*begN (latN h) 60) (d.dy*begN (latN h) 1440)
def kmL (x:Leg):Int:=if x.inn.meter - x.out.meter<0 then x.inn.meter - x.out.meter+1000000 else x.inn.meter - x.out.meter
def kmV (l:List Leg):Int:=(l.map kmL).sum
def misL (x:Leg):Int:=max 0 (x.out.fuel - x.inn.fuel)
def misV (l:List Leg):Int:=(l.map misL).sum
def addL (k:List UInt8)(c:Int)(L:List Lin):List Lin:=if c≠0 then L++ [⟨6,k,c⟩]else L
def kLate:List UInt8:= [108,97,116,101]
def kDist:List UInt8:= [100,105,115,116,97,110,99,101]
def kFuel:List UInt8:= [102,117,101,108]
def dstV (d:Dea)(h:Hir):Int:=d.km*max 0 (kmV h.legs - d.free*daysW h.frm h.to)
def bilO (d:Dea)(h:Hir)(L:List Lin):List Lin:=addL kFuel (d.eig*misV h.legs) (addL kDist (dstV d h) (addL kLate (latV d h) L))
def bilV (d:Dea)(h:Hir)(L:List Lin):List Lin×Int:=if linsE L≠0 then([],linsE L)else if linsE (bilO d h L)≠0 then([],linsE (bilO d h L))else(bilO d h L,0)
def linR (x:Lin):Prop:=(1≤x.kind∧x.kind≤6)∧isKeyB x.key=true∧-1000000000≤x.cents∧x.cents≤1000000000
theorem linsE_iff {L:List Lin}:linsE L=0↔L.length≤1000∧∀x ∈ L,linR x:=by
 unfold linsE;constructor
 · intro h;split at h
   · cases h
   · refine⟨by omega,fun x hx=> ?_⟩;obtain⟨j,hj,rfl⟩:=mem_getD (d:=li0) hx;have:=firstAt_all h j hj;unfold linE1 at this;unfold linR
     cases q:isKeyB (L.getD j li0).key with
     |true=>rw[q]at this;grind
     |false=>rw[q]at this;grind
 · rintro⟨h1,h2⟩;rw[if_neg (by omega)];refine firstAt_zero fun j hj=> ?_
   obtain⟨a,b,c⟩:=h2 _ (getD_mem (x:=li0) hj);unfold linE1;rw[if_neg (fun q=>q a),b,if_neg (by simp),if_neg (fun q=>q c)]
theorem addL_R {k:List UInt8}(hk:isKeyB k=true){c:Int}(hc: -1000000000≤c∧c≤1000000000){L:List Lin}(h:∀x ∈ L,linR x):(∀x ∈ addL k c L,linR x)∧(addL k c L).length≤L.length+1:=by
 unfold addL;split
 · refine⟨fun x hx=> ?_,by simp⟩;rcases List.mem_append.1 hx with q|q
   · exact h x q
   · rw[List.mem_singleton]at q;subst q;exact⟨⟨by show(1:Int)≤6;omega,by show(6:Int)≤6;omega⟩,hk,hc⟩
 · exact⟨h,by omega⟩
theorem addL_pre {k:List UInt8}{c:Int}{L:List Lin}:∃R,addL k c L=L++R:=by
 unfold addL;split
 · exact⟨_,rfl⟩
 · exact⟨[],by simp⟩
theorem bilO_pre (d:Dea)(h:Hir)(L:List Lin):∃R,bilO d h L=L++R:=by
 unfold bilO;obtain⟨a,ha⟩:=addL_pre (k:=kLate) (c:=latV d h) (L:=L);rw[ha];obtain⟨b,hb⟩:=addL_pre (k:=kDist) (c:=dstV d h) (L:=L++a);rw[hb];obtain⟨c,hc⟩:=addL_pre (k:=kFuel) (c:=d.eig*misV h.legs) (L:=L++a++b);rw[hc];exact⟨a++b++c,by simp⟩
theorem begN_bd {n l:Int}(hn:0≤n)(hl:0<l):0≤begN n l∧begN n l*l≤n+l - 1:=by
 unfold begN;rw[Int.tdiv_eq_ediv_of_nonneg (by omega)];refine⟨Int.ediv_nonneg (by omega) (by omega),?_⟩;exact Int.ediv_mul_le _ (by omega)
theorem km_sum {l:List Leg}(h:∀x ∈ l,(0≤x.out.meter∧x.out.meter≤999999)∧(0≤x.inn.meter∧x.inn.meter≤999999)∧(0≤x.out.fuel∧x.out.fuel≤8)∧0≤x.inn.fuel∧x.inn.fuel≤8):
 (0≤kmV l∧kmV l≤999999*l.length)∧0≤misV l∧misV l≤8*l.length:=by
 induction l with
 |nil=>simp[kmV,misV]
 | cons x l ih=>
   obtain⟨a,b,c,d⟩:=h x List.mem_cons_self;obtain⟨⟨h1,h2⟩,h3,h4⟩:=ih fun y hy=>h y (List.mem_cons_of_mem _ hy)
   simp only[kmV,misV,List.map_cons,List.sum_cons,List.length_cons]at h1 h2 h3 h4 ⊢;have e1:0≤kmL x∧kmL x≤999999:=by unfold kmL;split<;>omega
   have e2:0≤misL x∧misL x≤8:=by unfold misL;omega
   rw[show((l.length+1:Nat):Int)=(l.length:Int)+1 by push_cast;rfl];omega
abbrev lgBf (l:List Leg):Res:=seqB 63 9 lgF lg0 l
def opnH (h:Hir):Bool:=decide ((h.legs.getD ((h.legs.length:Int) - 1).toNat lg0).inn.tm= -1)
def goE (h:Hir):Int:=if hirE h≠0 then hirE h else if opnH h then 0 else 11
def exH (h:Hir)(ri:Rdg)(v:List UInt8)(ro:Rdg):Hir:=⟨h.key,h.drv,h.frm,h.to,setIn h.legs ri++ [⟨v,ro,rgN⟩]⟩
def clH (h:Hir)(ri:Rdg):Hir:=⟨h.key,h.drv,h.frm,h.to,setIn h.legs ri⟩
def xtH (h:Hir)(to:Int):Hir:=⟨h.key,h.drv,h.frm,to,h.legs⟩
def mdE (h h':Hir):Int:=if goE h≠0 then goE h else hirE h'
def mdH (h h':Hir):Hir:=if mdE h h' =0 then h' else hi0
def hiL (h:Hir):Prop:=h.key.length≤2^40∧h.drv.length≤2^40∧h.legs.length≤2^19∧∀x ∈ h.legs,lgK x
theorem hiL.k {h:Hir}(q:hiL h):hiK h:=⟨q.1,q.2.1,by have:=q.2.2.1;omega,q.2.2.2⟩
theorem setIn_K {l:List Leg}{r:Rdg}(h:∀x ∈ l,lgK x)(hr:r.st.length≤2^40):∀x ∈ setIn l r,lgK x:=fun x hx=>by
 unfold setIn at hx
 by_cases hi:((l.length:Int) - 1).toNat<l.length
 · rcases List.mem_or_eq_of_mem_set hx with q|q
   · exact h x q
   · have h1:l.getD ((l.length:Int) - 1).toNat lg0 ∈ l:=by
      rw[List.getD_eq_getElem?_getD,List.getElem?_eq_getElem hi];exact List.getElem_mem hi
     subst q;exact⟨(h _ h1).1,(h _ h1).2.1,hr⟩
 · rw[List.set_eq_of_length_le (by omega)]at hx;exact h x hx
theorem SV.le_put_snocF {α:Type}{f:α→List DV}{d x y:α}{l:List α}{k j off:Nat}{ds:List DV}{h:Nat→List DV}(hj:∀z,l[j]? =some z→setAtD (f z) off ds=f x)(hx:h 0=f y):
 SV.le (.d (.ro k (l.length+1) (appGet l.length (fun i=>bif Nat.beq i j then setAtD (rowF f d l i) off ds else rowF f d l i) h))) (.d (seqD k f d (l.set j x++ [y]))):=by
 refine SV.le_ro (by simp) (fun i hi=> ?_);have h1:=rows_putF (f:=f) (d:=d) (l:=l) (x:=x) (j:=j) (off:=off) (ds:=ds) hj;rcases Nat.lt_or_ge i l.length with q|q
 · rw[appGet_lt q,h1 i q];simp only[rowF];rw[getD_app_lt (by simpa using q)]
 · have:i=l.length:=by omega
   subst this;rw[appGet_ge (Nat.le_refl _),Nat.sub_self,hx];simp only[rowF];congr 1
   rw[List.getD_eq_getElem?_getD,List.getElem?_append_right (by simp)];simp
theorem wMade (h:Hir)(hk:hiK h):FSpec Tryz.prog 287 [.agg ((hiF h).map .d)] [] (fun y r=>y= .tup [.agg ((hiF (if hirE h=0 then h else hi0)).map .d),.d (.int .i64 (hirE h))]∧r= []):=by
 have h183:=z210 h hk
 by_cases q:hirE h=0
 · rw[if_pos q];rw[q]at h183 ⊢;refine spec_of hT (C:= []) Tryz.func287 rfl Tryz.call287 rfl rfl rfl ?_;conv=>whnf
   repeat' (first|(refine CallX.exact (h183) rfl rfl ?_;rotate_right;conv=>whnf)|((first|(refine br_intro ?_ ?_<;>intro hb<;>try simp only[brs]at hb)|omega|refine sAx ?_|decide|assumption)<;>conv=>whnf))
   refine .ret _ ?_;conv=>whnf
   exact⟨[],⟨rfl,rfl⟩,trivial⟩
 · rw[if_neg q];generalize hirE h=E at h183 q;refine spec_of hT (C:= []) Tryz.func287 rfl Tryz.call287 rfl rfl rfl ?_;conv=>whnf
   repeat' (first|(refine CallX.exact (h183) rfl rfl ?_;rotate_right;conv=>whnf)|((first|(refine br_intro ?_ ?_<;>intro hb<;>try simp only[brs]at hb)|omega|refine sAx ?_|decide|assumption)<;>conv=>whnf))
   all_goals first
    |(exfalso;omega)
    | (refine .weak _ ?_
       conv=>whnf
       exact⟨.tup [.agg ((hiF hi0).map .d),.d (.int .i64 E)],[],SV.le_tup ⟨SV.le_agg ⟨lr,lr,lr,lr,SV.le_nilS,trivial⟩,lr,trivial⟩,⟨rfl,rfl⟩,trivial⟩)
theorem wOpen (h:Hir)(hl:h.legs.length≤2^40)(h1:1≤h.legs.length):FSpec Tryz.prog 47 [.agg ((hiF h).map .d)] [] (fun y r=>y= .d (.bool (opnH h))∧r= []):=by
 refine spec_of hT (C:= []) Tryz.func47 rfl Tryz.call47 rfl rfl rfl ?_;conv=>whnf
 repeat' (first|((first|(refine br_intro ?_ ?_<;>intro hb<;>try simp only[brs]at hb)|omega|refine sAx ?_|decide|assumption)<;>conv=>whnf))
 refine .ret _ ?_;conv=>whnf
 refine⟨[],⟨?_,rfl⟩,trivial⟩;conv=>lhs;whnf
 rfl
theorem wClL (l:List Leg)(h1:1≤l.length)(hl:l.length≤2^20):FSpec Tryz.prog 306 [.d (legs l)] [] (fun y r=>y= .buf 7∧r= [(7,lgBf l)]):=by
 refine spec_of hT (C:= [5]) Tryz.func306 rfl Tryz.call306 rfl rfl rfl ?_;conv=>whnf
 rintro b hbn;conv=>whnf
 repeat' (first|((first|(refine br_intro ?_ ?_<;>intro hb<;>try simp only[brs]at hb)|omega|refine sAx ?_|decide|assumption)<;>conv=>whnf))
 · exfalso;have:=hbn (by assumption);omega
 · refine .ret _ ?_;conv=>whnf
   refine⟨_,⟨rfl,rfl⟩,Res.le_buf (by simp) (fun i hi=> ?_),trivial⟩;rw[appGet_ge (by omega)];rfl
theorem hirE_len {h:Hir}(q:hirE h=0):1≤h.legs.length:=by
 unfold hirE at q;grind
theorem wGoE (h:Hir)(hk:hiL h)(hE:goE h≠0):FSpec Tryz.prog 288 [.agg ((hiF h).map .d)] [] (fun y r=>y= .tup [.agg ((hiF hi0).map .d),.d (.int .i64 (goE h))]∧r= []):=by
 have c1:=z210 h hk.k
 by_cases q:hirE h=0
 · have c2:=wOpen h (by have:=hk.2.2.1;omega) (hirE_len q)
   have e1:opnH h=false:=by
    cases e:opnH h with
    |false=>rfl
    |true=>exfalso;apply hE;unfold goE;rw[if_neg (fun c=>c q),e,if_pos rfl]
   have e2:goE h=11:=by unfold goE;rw[if_neg (fun c=>c q),e1];rfl
   rw[e2];rw[q]at c1;rw[e1]at c2;refine spec_of hT (C:= []) Tryz.func288 rfl Tryz.call288 rfl rfl rfl ?_;conv=>whnf
   repeat' (first|(refine CallX.exact (c1) rfl rfl ?_;rotate_right;conv=>whnf)|(refine CallX.exact (c2) rfl rfl ?_;rotate_right;conv=>whnf)|((first|(refine br_intro ?_ ?_<;>intro hb<;>try simp only[brs]at hb)|omega|refine sAx ?_|decide|assumption)<;>conv=>whnf))
   all_goals
    refine .weak _ ?_;conv=>whnf
    exact⟨.tup [.agg ((hiF hi0).map .d),.d (.int .i64 11)],[],SV.le_tup ⟨SV.le_agg ⟨lr,lr,lr,lr,SV.le_nilS,trivial⟩,lr,trivial⟩,⟨rfl,rfl⟩,trivial⟩
 · have e2:goE h=hirE h:=by unfold goE;rw[if_pos q]
   rw[e2];generalize hirE h=E at c1 q;refine spec_of hT (C:= []) Tryz.func288 rfl Tryz.call288 rfl rfl rfl ?_;conv=>whnf
   repeat' (first|(refine CallX.exact (c1) rfl rfl ?_;rotate_right;conv=>whnf)|((first|(refine br_intro ?_ ?_<;>intro hb<;>try simp only[brs]at hb)|omega|refine sAx ?_|decide|assumption)<;>conv=>whnf))
   all_goals first
    |(exfalso;omega)
    | (refine .weak _ ?_
       conv=>whnf
       exact⟨.tup [.agg ((hiF hi0).map .d),.d (.int .i64 E)],[],SV.le_tup ⟨SV.le_agg ⟨lr,lr,lr,lr,SV.le_nilS,trivial⟩,lr,trivial⟩,⟨rfl,rfl⟩,trivial⟩)
abbrev hAg (h:Hir)(d:Nat):SV:=.agg [.d (.str h.key),.d (.str h.drv),.d (.int .i64 h.frm),.d (.int .i64 h.to),.buf d]
theorem goE_zero {h:Hir}(hE:goE h=0):hirE h=0∧opnH h=true:=by
 unfold goE at hE;split at hE
 · rename_i c;exact absurd hE c
 · rename_i c;split at hE
   · rename_i d;exact⟨by simpa using c,d⟩
   · exact absurd hE (by decide)
theorem wGoK (h:Hir)(hk:hiL h)(hE:goE h=0):FSpec Tryz.prog 288 [.agg ((hiF h).map .d)] [] (fun y r=>y= .tup [hAg h 7,.d (.int .i64 0)]∧r= [(7,lgBf h.legs)]):=by
 obtain⟨q,e1⟩:=goE_zero hE;have c1:=z210 h hk.k;have hl:=hk.2.2.1;have c2:=wOpen h (by omega) (hirE_len q);rw[q]at c1;rw[e1]at c2;refine spec_of hT (C:= []) Tryz.func288 rfl Tryz.call288 rfl rfl rfl ?_;conv=>whnf
 repeat' (first|(refine CallX.exact (c1) rfl rfl ?_;rotate_right;conv=>whnf)|(refine CallX.exact (c2) rfl rfl ?_;rotate_right;conv=>whnf)|((first|(refine oAx (wClL h.legs (hirE_len q) (by omega)) [(7,7)] ?_;rintro x rout ⟨rfl,rfl⟩;refine⟨rfl,?_⟩)|(refine br_intro ?_ ?_<;>intro hb<;>try simp only[brs]at hb)|omega|refine sAx ?_|decide|assumption)<;>conv=>whnf))
 refine .ret _ ?_;conv=>whnf
 exact⟨_,⟨rfl,rfl⟩,rr,trivial⟩
set_option maxHeartbeats 1000000 in
theorem wExt (h:Hir)(hk:hiL h)(to:Int):FSpec Tryz.prog 244 [.agg ((hiF h).map .d),.d (.int .i64 to)] [] (fun y r=>y= .tup [.agg ((hiF (mdH h (xtH h to))).map .d),.d (.int .i64 (mdE h (xtH h to)))]∧r= []):=by
 have hH:hiL (xtH h to):=hk;generalize hHe:xtH h to=H at hH ⊢
 by_cases q:goE h≠0
 · have c1:=wGoE h hk q;have e1:mdE h H=goE h:=by unfold mdE;rw[if_pos q]
   have e2:mdH h H=hi0:=by unfold mdH;rw[e1,if_neg q]
   rw[e1,e2];generalize goE h=E at c1 q;refine spec_of hT (C:= []) Tryz.func244 rfl Tryz.call244 rfl rfl rfl ?_;conv=>whnf
   repeat' (first|(refine CallX.exact (c1) rfl rfl ?_;rotate_right;conv=>whnf)|((first|(refine br_intro ?_ ?_<;>intro hb<;>try simp only[brs]at hb)|omega|refine sAx ?_|decide|assumption)<;>conv=>whnf))
   all_goals first
    |(exfalso;omega)
    | (refine .weak _ ?_
       conv=>whnf
       exact⟨.tup [.agg ((hiF hi0).map .d),.d (.int .i64 E)],[],SV.le_tup ⟨SV.le_agg ⟨lr,lr,lr,lr,SV.le_nilS,trivial⟩,lr,trivial⟩,⟨rfl,rfl⟩,trivial⟩)
 · have q:goE h=0:=by omega
   have e1:mdE h H=hirE H:=by unfold mdE;rw[if_neg (fun c=>c q)]
   have e2:mdH h H=if hirE H=0 then H else hi0:=by unfold mdH;rw[e1]
   rw[e1,e2];have c1:=wGoK h hk q;have c2:=wMade H hH.k;generalize hirE H=E at c2;generalize hR:(if E=0 then H else hi0)=R at c2;have hl:=hk.2.2.1;have hn:=hirE_len (goE_zero q).1;subst hHe;refine spec_of hT (C:= []) Tryz.func244 rfl Tryz.call244 rfl rfl rfl ?_;conv=>whnf
   repeat' (first|((first|(refine oAx c1 [(7,40)] ?_;rintro x rout ⟨rfl,rfl⟩;refine⟨rfl,?_⟩)|(refine CallX.freeze _ _ _ _ 40 63 9 _ _ rfl rfl ?_;refine CallX.pure c2 ⟨SV.le_agg ⟨lr,lr,lr,lr,lr,trivial⟩,trivial⟩ rfl ?_)|(refine br_intro ?_ ?_<;>intro hb<;>try simp only[brs]at hb)|omega|refine sAx ?_|decide|assumption)<;>conv=>whnf))
   all_goals first
    |(exfalso;omega)
    | (refine .ret _ ?_
       conv=>whnf
       exact⟨[],⟨rfl,rfl⟩,trivial⟩)
set_option maxHeartbeats 1000000 in
theorem wCls (h:Hir)(hk:hiL h)(ri:Rdg)(hr:ri.st.length≤2^40):FSpec Tryz.prog 245 [.agg ((hiF h).map .d),.agg ((rgF ri).map .d)] [] (fun y r=>y= .tup [.agg ((hiF (mdH h (clH h ri))).map .d),.d (.int .i64 (mdE h (clH h ri)))]∧r= []):=by
 have hH:hiL (clH h ri):=⟨hk.1,hk.2.1,by show(setIn h.legs ri).length≤_;rw[setIn_len];exact hk.2.2.1,setIn_K hk.2.2.2 hr⟩;generalize hHe:clH h ri=H at hH ⊢
 by_cases q:goE h≠0
 · have c1:=wGoE h hk q;have e1:mdE h H=goE h:=by unfold mdE;rw[if_pos q]
   have e2:mdH h H=hi0:=by unfold mdH;rw[e1,if_neg q]
   rw[e1,e2];generalize goE h=E at c1 q;refine spec_of hT (C:= []) Tryz.func245 rfl Tryz.call245 rfl rfl rfl ?_;conv=>whnf
   repeat' (first|(refine CallX.exact (c1) rfl rfl ?_;rotate_right;conv=>whnf)|((first|(refine br_intro ?_ ?_<;>intro hb<;>try simp only[brs]at hb)|omega|refine sAx ?_|decide|assumption)<;>conv=>whnf))
   all_goals first
    |(exfalso;omega)
    | (refine .weak _ ?_
       conv=>whnf
       exact⟨.tup [.agg ((hiF hi0).map .d),.d (.int .i64 E)],[],SV.le_tup ⟨SV.le_agg ⟨lr,lr,lr,lr,SV.le_nilS,trivial⟩,lr,trivial⟩,⟨rfl,rfl⟩,trivial⟩)
 · have q:goE h=0:=by omega
   have e1:mdE h H=hirE H:=by unfold mdE;rw[if_neg (fun c=>c q)]
   have e2:mdH h H=if hirE H=0 then H else hi0:=by unfold mdH;rw[e1]
   rw[e1,e2];have c1:=wGoK h hk q;have c2:=wMade H hH.k;generalize hirE H=E at c2;generalize hR:(if E=0 then H else hi0)=R at c2;have hl:=hk.2.2.1;have hn:=hirE_len (goE_zero q).1;subst hHe;refine spec_of hT (C:= []) Tryz.func245 rfl Tryz.call245 rfl rfl rfl ?_;conv=>whnf
   repeat' (first|((first|(refine oAx c1 [(7,40)] ?_;rintro x rout ⟨rfl,rfl⟩;refine⟨rfl,?_⟩)|(refine CallX.freeze _ _ _ _ 40 63 9 _ _ rfl rfl ?_;refine CallX.pure c2 ⟨SV.le_agg ⟨lr,lr,lr,lr,SV.le_putF setIn_put,trivial⟩,trivial⟩ rfl ?_)|(refine br_intro ?_ ?_<;>intro hb<;>try simp only[brs]at hb)|omega|refine sAx ?_|decide|assumption)<;>conv=>whnf))
   all_goals first
    |(exfalso;omega)
    | (refine .ret _ ?_
       conv=>whnf
       exact⟨[],⟨rfl,rfl⟩,trivial⟩)
set_option maxHeartbeats 1000000 in
theorem wExc (h:Hir)(hk:hiL h)(hs:h.legs.length<2^19)(ri:Rdg)(hr:ri.st.length≤2^40)(v:List UInt8)(hv:v.length≤2^40)(ro:Rdg)(ho:ro.st.length≤2^40):
 FSpec Tryz.prog 246 [.agg ((hiF h).map .d),.agg ((rgF ri).map .d),.d (.str v),.agg ((rgF ro).map .d)] [] (fun y r=>y= .tup [.agg ((hiF (mdH h (exH h ri v ro))).map .d),.d (.int .i64 (mdE h (exH h ri v ro)))]∧r= []):=by
 have hH:hiL (exH h ri v ro):=⟨hk.1,hk.2.1,by show(setIn h.legs ri++ [_]).length≤_;rw[List.length_append,setIn_len,List.length_singleton];omega,fun x hx=>by
  rcases List.mem_append.1 hx with q|q
  · exact setIn_K hk.2.2.2 hr x q
  · rw[List.mem_singleton]at q;subst q;exact⟨hv,ho,by simp[rgN]⟩⟩
 generalize hHe:exH h ri v ro=H at hH ⊢
 by_cases q:goE h≠0
 · have c1:=wGoE h hk q;have e1:mdE h H=goE h:=by unfold mdE;rw[if_pos q]
   have e2:mdH h H=hi0:=by unfold mdH;rw[e1,if_neg q]
   rw[e1,e2];generalize goE h=E at c1 q;refine spec_of hT (C:= []) Tryz.func246 rfl Tryz.call246 rfl rfl rfl ?_;conv=>whnf
   repeat' (first|(refine CallX.exact (c1) rfl rfl ?_;rotate_right;conv=>whnf)|((first|(refine br_intro ?_ ?_<;>intro hb<;>try simp only[brs]at hb)|omega|refine sAx ?_|decide|assumption)<;>conv=>whnf))
   all_goals first
    |(exfalso;omega)
    | (refine .weak _ ?_
       conv=>whnf
       exact⟨.tup [.agg ((hiF hi0).map .d),.d (.int .i64 E)],[],SV.le_tup ⟨SV.le_agg ⟨lr,lr,lr,lr,SV.le_nilS,trivial⟩,lr,trivial⟩,⟨rfl,rfl⟩,trivial⟩)
 · have q:goE h=0:=by omega
   have e1:mdE h H=hirE H:=by unfold mdE;rw[if_neg (fun c=>c q)]
   have e2:mdH h H=if hirE H=0 then H else hi0:=by unfold mdH;rw[e1]
   rw[e1,e2];have c1:=wGoK h hk q;have c2:=wMade H hH.k;generalize hirE H=E at c2;generalize hR:(if E=0 then H else hi0)=R at c2;have hl:=hk.2.2.1;have hn:=hirE_len (goE_zero q).1;subst hHe;refine spec_of hT (C:= []) Tryz.func246 rfl Tryz.call246 rfl rfl rfl ?_;conv=>whnf
   repeat' (first|((first|(refine oAx c1 [(7,50)] ?_;rintro x rout ⟨rfl,rfl⟩;refine⟨rfl,?_⟩)|(refine CallX.freeze _ _ _ _ 36 63 9 _ _ rfl rfl ?_;refine CallX.pure c2 ⟨SV.le_agg ⟨lr,lr,lr,lr,SV.le_put_snocF setIn_put rfl,trivial⟩,trivial⟩ rfl ?_)|(refine br_intro ?_ ?_<;>intro hb<;>try simp only[brs]at hb)|omega|refine sAx ?_|decide|assumption)<;>conv=>whnf))
   all_goals first
    |(exfalso;omega)
    | (refine .ret _ ?_
       conv=>whnf
       exact⟨[],⟨rfl,rfl⟩,trivial⟩)
theorem wStart (key drv:List UInt8)(a b:Int)(v:List UInt8)(o:Rdg)(h1:key.length≤2^40)(h2:drv.length≤2^40)(h3:v.length≤2^40)(h4:o.st.length≤2^40):
 FSpec Tryz.prog 243 [.d (.str key),.d (.str drv),.agg [.d (.int .i64 a),.d (.int .i64 b)],.d (.str v),.agg ((rgF o).map .d)] [] (fun y r=>y= .tup [.agg ((hiF (if hirE (startH key drv a b v o)=0 then startH key drv a b v o else hi0)).map .d),.d (.int .i64 (hirE (startH key drv a b v o)))]∧r= []):=by
 have h265:=wMade (startH key drv a b v o) ⟨h1,h2,by simp[startH],fun x hx=>by simp[startH]at hx;subst hx;exact⟨h3,h4,by simp[rgN]⟩⟩;generalize hirE (startH key drv a b v o)=E at h265 ⊢;generalize hH:(if E=0 then startH key drv a b v o else hi0)=H at h265 ⊢;refine spec_of hT (C:= []) Tryz.func243 rfl Tryz.call243 rfl rfl rfl ?_;conv=>whnf
 repeat' (first|((first|refine CallX.pure h265 ⟨SV.le_agg ⟨lr,lr,lr,lr,SV.le_lit rfl rfl,trivial⟩,trivial⟩ rfl ?_|(refine br_intro ?_ ?_<;>intro hb<;>try simp only[brs]at hb)|omega|refine sAx ?_|decide|assumption)<;>conv=>whnf))
 refine .ret _ ?_;conv=>whnf
 exact⟨[],⟨rfl,rfl⟩,trivial⟩
end Go.Proofs.YtkokpbpililcdaaGreatDoor
namespace Go.Proofs
open Go.Shelf
def Tryz.lays106_ren:Go.Shelf.Ren:=⟨fun|106=>147|213=>189|265=>238|n=>n,fun|9=>9|3=>3|n=>n,fun|n=>n⟩
theorem Tryz.lays106:Go.Proofs.Lays.n106 Tryz.prog Tryz.lays106_ren:={
 mixed:=by kernel_rfl
 f106:=Tryz.func147.trans (congrArg some (by kernel_rfl))
 f213:=Tryz.func189.trans (congrArg some (by kernel_rfl))
 f265:=Tryz.func238.trans (congrArg some (by kernel_rfl))
 t3:=Tryz.underlying3
 a3:=Tryz.isAgg3
 z3:=Tryz.sizeOf3
 v3:=Tryz.zeroValue3
 t9:=Tryz.underlying9
 a9:=Tryz.isAgg9
 z9:=Tryz.sizeOf9
 v9:=Tryz.zeroValue9}
end Go.Proofs
set_option maxRecDepth 20000
namespace Go.Proofs.YtkokpbpililcdaaGreatDoor
open Go Go.Eng Go.RowKit
theorem cmpB_S:∀ (a b:List UInt8),Lib.compareBytes a b=cmpS a b:=by
 intro a
 induction a with
 |nil=>intro b;cases b<;>simp[Lib.compareBytes,cmpS,Op.bytesLess]
 | cons x a ih=>
   intro b
   cases b with
   |nil=>simp[Lib.compareBytes,cmpS,Op.bytesLess]
   | cons y b=>
     have:=ih b;unfold cmpS at this ⊢;simp only[Lib.compareBytes,Op.bytesLess];grind
theorem s190 (a b:List UInt8):FSpec Tryz.prog 147 [.d (.str a),.d (.str b)] [] (fun x r=>x= .d (.int .i64 (cmpS a b))∧r= []):=by
 refine FSpec.ofBelow Tryz.call147 (fun G β w vs _ hl hd=> ?_)
 match vs,hl with
 | [u,v],_=>
   have hu:=hd 0 _ _ rfl rfl;have hv:=hd 1 _ _ rfl rfl
   cases hu with|d _ _ hu=>cases hu with|str _=>
   cases hv with|d _ _ hv=>cases hv with|str _=>
   refine⟨.int .i64 (Lib.compareBytes a b),fun G β=> ?_,(Go.Proofs.Any.strings_Compare Go.Proofs.Tryz.lays106 ⟨a.toArray⟩ ⟨b.toArray⟩ w).mono ?_⟩
   · rw[←cmpB_S];exact .d _ _ (.int _ _)
   · rintro e w' ⟨he,rfl⟩;exact⟨he,Below.refl _ _⟩
structure fltK (f:Flt):Prop where
 sta:allK staK 4 f.sta
 cls:clsB f.cls
 veh:allK vehK 5 f.veh
 plt:allK pltK 6 f.plt
theorem fltK.ok {f:Flt}(h:fltK f):fltOk f:=
 ⟨⟨Nat.le_trans h.sta.1 (by decide),fun s hs=>Nat.le_trans (h.sta.2 s hs) (by decide)⟩,⟨Nat.le_trans h.cls.1 (by decide),fun s hs=>⟨Nat.le_trans (h.cls.2 s hs).1 (by decide),Nat.le_trans (h.cls.2 s hs).2 (by decide)⟩⟩,
   ⟨Nat.le_trans h.veh.1 (by decide),fun s hs=>⟨Nat.le_trans (h.veh.2 s hs).1 (by decide),Nat.le_trans (h.veh.2 s hs).2 (by decide)⟩⟩,⟨Nat.le_trans h.plt.1 (by decide),fun s hs=>⟨(h.plt.2 s hs).1,Nat.le_trans (h.plt.2 s hs).2.1 (by decide),Nat.le_trans (h.plt.2 s hs).2.2 (by decide)⟩⟩⟩
def oJTmA76_12:OL:= [(0,[]),(1,[]),(2,[0,1]),(3,[0,1,2]),(4,[0,1]),(5,[]),(6,[])]
def ratM (x:Rat):Prop:=x.cls.length≤8
def c3:List (List UInt8):= [[109,97,120,105],[109,105,100,105],[109,105,110,105]]
set_option maxHeartbeats 4000000 in
theorem y169 (n:Nat)(L:Nat→Int)(hL:Rok n L)(a:Int)(h0:0≤a)(ha:a≤2^36):
 FSpec Tryz.prog 76 [.ptr 1000000 0] [(1000000,strm n L a)] (fun y r=>∃l:List Rat,∃b,allK ratM 9 l∧(a≤b∧b≤a+100)∧y= .buf 3∧r= [(3,seqB 168 7 ratF rat0 l),(1000000,strm n L b)]):=by
 refine spec_of hT (C:= []) Tryz.func76 rfl Tryz.call76 rfl rfl rfl ?_;conv=>whnf
 refine LoopX.rule hT (C:= []) (ι:=Int×List Rat×Nat) (fun(b,l,i)=>(a≤b∧b≤a+30*i∧i≤3)∧allK ratM (3*i) l)
  (fun(b,l,i)=>mkSt [(0,.ptr 1000000 0),(3,.buf 3),(8,.d (strs c3)),(9,.d (.int .i64 3)),(10,.d (.int .i64 i))] [(1000000,strm n L b),(3,seqB 168 7 ratF rat0 l)])
  (fun(_,_,i)=>3 - i) (a,[],0) ⟨⟨by simp,by simp,by simp⟩,⟨by simp,by simp⟩⟩ ?_ ?_
 · refine(Entails.nil 3 3 168 7 (rowF ratF rat0 []) rfl rfl (by decide)).trans (Entails.mk' [(1000000,1000000),(3,3)] rfl rfl ⟨lr,lr,SV.le_lit rfl rfl,lr,lr,trivial⟩ ⟨rr,rr,trivial⟩)
 rintro⟨b,l,i⟩ ⟨⟨p1,p2,p3⟩,p4⟩;have p1:a≤b:=p1;have p2:b≤a+30*i:=p2;have p3:i≤3:=p3;have p4:allK ratM (3*i) l:=p4;have hc3:c3.length=3:=rfl;have hl1:l.length≤3*i:=p4.1;rcases Nat.lt_or_ge i 3 with hi|hi
 · conv=>whnf
   repeat' (first|(refine CallX.of (s33 n L hL _ ?_ ?_ [0,0,0,3] ?_ ?_) [(1000000,1000000)] rfl ⟨lr,SV.le_lit rfl rfl,trivial⟩ ⟨rr,trivial⟩ rfl rfl ?_;rotate_right;rintro x rout ⟨⟨u1,hu1,rfl⟩,⟨c,c1,c2,rfl⟩⟩;have hw1:=pkD hu1 (by decide);refine⟨rfl,?_⟩;conv=>whnf)|(refine CallX.of (s33 n L hL _ ?_ ?_ [0,1,1,2,3] ?_ ?_) [(1000000,1000000)] rfl ⟨lr,SV.le_lit rfl rfl,trivial⟩ ⟨rr,trivial⟩ rfl rfl ?_;rotate_right;rintro x rout ⟨⟨u2,hu2,rfl⟩,⟨c,c1,c2,rfl⟩⟩;refine⟨rfl,?_⟩;conv=>whnf)|((first|(refine br_intro ?_ ?_<;>intro hb<;>try simp only[brs]at hb)|refine rAx hT 12 oJTmA76_12 ?_|omega|refine sAx ?_|decide|assumption)<;>conv=>whnf))
   all_goals try(exfalso;omega)
   have hw2:0≤u2∧u2≤3:=by simp only[List.mem_cons,List.not_mem_nil,or_false]at hu2;omega
   have hw3:u1≤5000:=by omega
   have hkk:(c3.getD (i:Int).toNat []).length≤8:=mem_len (getD_mem (by omega)) rfl;obtain⟨cc,hcc⟩:∃cc:Int,cc=c:=⟨_,rfl⟩;obtain⟨ky,hky⟩:∃ky,ky=c3.getD (i:Int).toNat []:=⟨_,rfl⟩
   refine LoopX.rule hT (C:= []) (ι:=Int×List Rat×Int×Nat) (fun(d,m,f,k)=>(cc≤d∧d≤cc+6*k∧(k:Int)≤u2)∧allK ratM (3*i+k) m∧0≤f∧f≤5000)
    (fun(d,m,f,k)=>mkSt [(0,.ptr 1000000 0),(3,.buf 3),(5,.d (.str ky)),(6,.d (.int .i64 f)),(8,.d (strs c3)),(9,.d (.int .i64 3)),(10,.d (.int .i64 i)),(19,.d (.int .i64 u2)),(20,.d (.int .i64 k))] [(1000000,strm n L d),(3,seqB 168 7 ratF rat0 m)])
    (fun(_,_,_,k)=>u2.toNat - k) (cc,l,u1,0) ⟨⟨by simp,by simp,by show((0:Nat):Int)≤u2;omega⟩,p4,by show 0≤u1;omega,by show u1≤5000;omega⟩ (by subst hcc hky;exact(by exact eAx [(1000000,1000000),(3,3)])) ?_
   rintro⟨d,m,f,k⟩ ⟨⟨q1,q2,q3⟩,q4,q5,q6⟩;have q1:cc≤d:=q1;have q2:d≤cc+6*k:=q2;have q3:(k:Int)≤u2:=q3;have q4:allK ratM (3*i+k) m:=q4;have q5:0≤f:=q5;have q6:f≤5000:=q6;have hm1:m.length≤3*i+k:=q4.1;conv=>whnf
   repeat' (first|(refine CallX.of (s33 n L hL _ ?_ ?_ [1,5,20,4000] ?_ ?_) [(1000000,1000000)] rfl ⟨lr,SV.le_lit rfl rfl,trivial⟩ ⟨rr,trivial⟩ rfl rfl ?_;rotate_right;rintro x rout ⟨⟨u3,hu3,rfl⟩,⟨c,c1,c2,rfl⟩⟩;have hw4:0≤u3∧u3≤4000:=(by simp only[List.mem_cons,List.not_mem_nil,or_false]at hu3;omega);refine⟨rfl,?_⟩;conv=>whnf)|(refine CallX.of (s33 n L hL _ ?_ ?_ [-1,5,10,10,0] ?_ ?_) [(1000000,1000000)] rfl ⟨lr,SV.le_lit rfl rfl,trivial⟩ ⟨rr,trivial⟩ rfl rfl ?_;rotate_right;rintro x rout ⟨⟨u4,hu4,rfl⟩,⟨c,c1,c2,rfl⟩⟩;refine⟨rfl,?_⟩;conv=>whnf)|(refine CallX.of (s33 n L hL _ ?_ ?_ [-1,50,50,70,40] ?_ ?_) [(1000000,1000000)] rfl ⟨lr,SV.le_lit rfl rfl,trivial⟩ ⟨rr,trivial⟩ rfl rfl ?_;rotate_right;rintro x rout ⟨⟨u5,hu5,rfl⟩,⟨c,c1,c2,rfl⟩⟩;refine⟨rfl,?_⟩;conv=>whnf)|(refine CallX.of (s33 n L hL _ ?_ ?_ [-1,70,90,100] ?_ ?_) [(1000000,1000000)] rfl ⟨lr,SV.le_lit rfl rfl,trivial⟩ ⟨rr,trivial⟩ rfl rfl ?_;rotate_right;rintro x rout ⟨⟨u6,hu6,rfl⟩,⟨c,c1,c2,rfl⟩⟩;refine⟨rfl,?_⟩;conv=>whnf)|(refine CallX.of (s33 n L hL _ ?_ ?_ [-1,200,250,300] ?_ ?_) [(1000000,1000000)] rfl ⟨lr,SV.le_lit rfl rfl,trivial⟩ ⟨rr,trivial⟩ rfl rfl ?_;rotate_right;rintro x rout ⟨⟨u7,hu7,rfl⟩,⟨c,c1,c2,rfl⟩⟩;refine⟨rfl,?_⟩;conv=>whnf)|(refine CallX.of (s33 n L hL _ ?_ ?_ [0,0,0,2] ?_ ?_) [(1000000,1000000)] rfl ⟨lr,SV.le_lit rfl rfl,trivial⟩ ⟨rr,trivial⟩ rfl rfl ?_;rotate_right;rintro x rout ⟨⟨u8,hu8,rfl⟩,⟨c,c1,c2,rfl⟩⟩;have hw8:0≤u8∧u8≤2:=(by simp only[List.mem_cons,List.not_mem_nil,or_false]at hu8;omega);refine⟨rfl,?_⟩;conv=>whnf)|((first|(refine And.intro (by show inI64 (min (f+u3) 4001+u8);unfold inI64;omega) ?_)|(refine br_intro ?_ ?_<;>intro hb<;>try simp only[brs]at hb)|refine rAx hT 12 oJTmA76_12 ?_|omega|refine sAx ?_|decide|assumption)<;>conv=>whnf))
   · exact⟨(c,m,i+1),⟨⟨by omega,by show _≤a+30*((i+1:Nat):Int);omega,by omega⟩,allK_le q4 (by omega)⟩,by show 3 - (i+1)<3 - i;omega,(by exact eAx [(1000000,1000000),(3,3)])⟩
   · exact⟨(_,m++ [⟨ky,f,min (f+u3) 4001,u4,u5,u6,u7⟩],min (f+u3) 4001+u8,k+1),⟨⟨by omega,by show _≤cc+6*((k+1:Nat):Int);omega,by show((k+1:Nat):Int)≤u2;omega⟩,allK_snoc q4 (by omega) (by show ky.length≤8;rw[hky];exact hkk),by show 0≤min (f+u3) 4001+u8;omega,by show min (f+u3) 4001+u8≤5000;omega⟩,by show u2.toNat - (k+1)<u2.toNat - k;omega,
      Entails.mk' [(1000000,1000000),(3,54)] rfl rfl ⟨lr,lr,lr,lr,lr,lr,lr,lr,lr,trivial⟩ ⟨rr,Res.le_snocF rfl,trivial⟩⟩
   · exact⟨(d,m,i+1),⟨⟨by omega,by show _≤a+30*((i+1:Nat):Int);omega,by omega⟩,allK_le q4 (by omega)⟩,by show 3 - (i+1)<3 - i;omega,(by exact eAx [(1000000,1000000),(3,3)])⟩
 · conv=>whnf
   repeat' (first|((first|(refine br_intro ?_ ?_<;>intro hb<;>try simp only[brs]at hb)|refine rAx hT 12 oJTmA76_12 ?_|omega|refine sAx ?_|decide|assumption)<;>conv=>whnf))
   all_goals try(exfalso;omega)
   refine .ret _ ?_;conv=>whnf
   exact⟨[(3,seqB 168 7 ratF rat0 l),(1000000,strm n L _)],⟨l,b,allK_le p4 (by omega),⟨by omega,by omega⟩,rfl,rfl⟩,rr,rr,trivial⟩
set_option maxHeartbeats 4000000 in
theorem yRates (n:Nat)(L:Nat→Int)(hL:Rok n L)(a:Int)(h0:0≤a)(ha:a≤2^35):
 FSpec Tryz.prog 134 [.ptr 1000000 0] [(1000000,strm n L a)] (fun y r=>(∃l:List Rat,allK ratM 10 l∧y= .d (rats l))∧Moved n L a 120 r):=by
 refine spec_of hT (C:= []) Tryz.func134 rfl Tryz.call134 rfl rfl rfl ?_;conv=>whnf
 refine CallX.of (y169 n L hL _ ?_ ?_) [(1000000,1000000),(3,6)] rfl ⟨lr,trivial⟩ ⟨rr,trivial⟩ rfl rfl ?_
 rotate_right
 rintro x rout ⟨l,b,p4,⟨p1,p2⟩,rfl,rfl⟩;refine⟨rfl,?_⟩;have hl1:l.length≤9:=p4.1;conv=>whnf
 repeat' (first|(refine CallX.of (s84 n L hL _ ?_ ?_ 12 ?_) [(1000000,1000000)] rfl ⟨lr,lr,trivial⟩ ⟨rr,trivial⟩ rfl rfl ?_;rotate_right;rintro x rout ⟨⟨w,rfl⟩,⟨c,c1,c2,rfl⟩⟩;refine⟨rfl,?_⟩;conv=>whnf)|(refine CallX.of (s86 n L hL _ ?_ ?_ 4 ?_) [(1000000,1000000)] rfl ⟨lr,lr,trivial⟩ ⟨rr,trivial⟩ rfl rfl ?_;rotate_right;rintro x rout ⟨⟨m,hm1,hm2,hm3,rfl⟩,⟨c,c1,c2,rfl⟩⟩;refine⟨rfl,?_⟩;conv=>whnf)|(refine CallX.of (s86 n L hL _ ?_ ?_ _ ?_) [(1000000,1000000)] rfl ⟨lr,lr,trivial⟩ ⟨rr,trivial⟩ rfl rfl ?_;rotate_right;rintro x rout ⟨⟨j,hj1,hj2,hj3,rfl⟩,⟨c,c1,c2,rfl⟩⟩;refine⟨rfl,?_⟩;conv=>whnf)|(refine CallX.of (s15 n L hL _ ?_ ?_ [[],[65],[109,105,110,105],[122,101,100]] (by simp) (by simp)) [(1000000,1000000)] rfl ⟨lr,SV.le_lit rfl rfl,trivial⟩ ⟨rr,trivial⟩ rfl rfl ?_;rotate_right;rintro x rout ⟨⟨u1,hu1,rfl⟩,⟨c,c1,c2,rfl⟩⟩;refine⟨rfl,?_⟩;conv=>whnf)|(refine CallX.of (s104 n L hL _ ?_ ?_ 0 10 ?_ ?_ ?_) [(1000000,1000000)] rfl ⟨lr,lr,lr,trivial⟩ ⟨rr,trivial⟩ rfl rfl ?_;rotate_right;rintro x rout ⟨⟨o1,ho1,ho2,rfl⟩,⟨c,c1,c2,rfl⟩⟩;refine⟨rfl,?_⟩;conv=>whnf)|(refine CallX.of (s104 n L hL _ ?_ ?_ 1 4001 ?_ ?_ ?_) [(1000000,1000000)] rfl ⟨lr,lr,lr,trivial⟩ ⟨rr,trivial⟩ rfl rfl ?_;rotate_right;rintro x rout ⟨⟨o2,ho3,ho4,rfl⟩,⟨c,c1,c2,rfl⟩⟩;refine⟨rfl,?_⟩;conv=>whnf)|(refine CallX.of (s104 n L hL _ ?_ ?_ (-1) 1000000 ?_ ?_ ?_) [(1000000,1000000)] rfl ⟨lr,lr,lr,trivial⟩ ⟨rr,trivial⟩ rfl rfl ?_;rotate_right;rintro x rout ⟨⟨o3,ho5,ho6,rfl⟩,⟨c,c1,c2,rfl⟩⟩;refine⟨rfl,?_⟩;conv=>whnf)|((first|(refine br_intro ?_ ?_<;>intro hb<;>try simp only[brs]at hb)|omega|refine sAx ?_|decide|assumption)<;>conv=>whnf))
 all_goals try(exact h0)
 all_goals try omega
 · have hw1:u1.length≤8:=mem_len hu1 rfl;refine .freeze _ 6 168 7 _ _ rfl (.weak _ ?_);conv=>whnf
   exact⟨.d (rats (updL l j.toNat rat0 fun y=>{y with cls:=u1})),[(1000000,strm n L _)],SV.le_upd (fun y:Rat=>{y with cls:=u1}) (fun _=>rfl),⟨⟨_,allK_upd (g:=fun y:Rat=>{y with cls:=u1}) (allK_le p4 (by omega)) (fun y hy=>hw1),rfl⟩,_,by omega,by omega,rfl⟩,rr,trivial⟩
 · refine .freeze _ 6 168 7 _ _ rfl (.weak _ ?_);conv=>whnf
   have hrow:=rows_updG (f:=ratF) (d:=rat0) (rows_updG (l:=l) (j:=j.toNat) (off:=1) (ds:= [.int .i64 o1]) (fun _ _=>rfl) (fun y:Rat=>{y with frm:=o1}) (fun _=>rfl)) (off:=2) (ds:= [.int .i64 o2]) (j:=j.toNat) (fun y:Rat=>{y with to:=o2}) (fun _=>rfl);exact⟨.d (rats (updL (updL l j.toNat rat0 fun y=>{y with frm:=o1}) j.toNat rat0 fun y=>{y with to:=o2})),[(1000000,strm n L _)],SV.le_ro (by simp) (fun i hi=>hrow i (by simpa using hi)),⟨⟨_,allK_upd (g:=fun y:Rat=>{y with to:=o2}) (allK_upd (g:=fun y:Rat=>{y with frm:=o1}) (allK_le p4 (by omega)) (fun y hy=>hy)) (fun y hy=>hy),rfl⟩,_,by omega,by omega,rfl⟩,rr,trivial⟩
 · refine .freeze _ 6 168 7 _ _ rfl (.weak _ ?_);conv=>whnf
   exact⟨.d (rats (updL l j.toNat rat0 fun y=>{y with dy:=o3})),[(1000000,strm n L _)],SV.le_upd (fun y:Rat=>{y with dy:=o3}) (fun _=>rfl),⟨⟨_,allK_upd (g:=fun y:Rat=>{y with dy:=o3}) (allK_le p4 (by omega)) (fun y hy=>hy),rfl⟩,_,by omega,by omega,rfl⟩,rr,trivial⟩
 · refine .freeze _ 27 168 7 _ _ rfl (.weak _ ?_);conv=>whnf
   exact⟨.d (rats (l++ [l.getD 0 rat0])),[(1000000,strm n L _)],SV.le_ro (by simp) (rows_snocF rfl),⟨⟨_,allK_snoc p4 (by omega) (p4.2 _ (getD_mem (by omega))),rfl⟩,_,by omega,by omega,rfl⟩,rr,trivial⟩
 all_goals
  refine .freeze _ 6 168 7 _ _ rfl (.weak _ ?_);conv=>whnf
  exact⟨.d (rats l),[(1000000,strm n L _)],lr,⟨⟨_,allK_le p4 (by omega),rfl⟩,_,by omega,by omega,rfl⟩,rr,trivial⟩
def oJTmB136_6:OL:= [(0,[]),(1,[0]),(2,[0]),(3,[0,1,2]),(4,[0,1,2]),(5,rg 5),(6,rg 6),(7,rg 5),(8,[0]),(9,[0]),(10,[]),(11,[])]
def extM (x:Ext):Prop:=x.key.length≤8
def feM (x:Fe):Prop:=x.a.length≤8∧x.b.length≤8
def codM (x:Cod):Prop:=x.key.length≤8∧x.cls.length≤8
theorem ext_cut {e:List Ext}{g:Nat→List DV}{m:Int}(h0:0≤m)(h2:m≤2)(hl:e.length=2)(q0:g 0=extF (e.getD 0 ext0))(q1:g 1=extF (e.getD 1 ext0)):SV.le (.d (.ro 4 m.toNat g)) (.d (exts (e.take m.toNat))):=
 SV.le_ro (by rw[List.length_take];omega) (fun i hi=>by
  have:i=0∨i=1:=by omega
  simp only[rowF,getD_take hi];rcases this with rfl|rfl
  · exact q0
  · exact q1)
set_option maxHeartbeats 4000000 in
theorem yExtras (n:Nat)(L:Nat→Int)(hL:Rok n L)(a:Int)(h0:0≤a)(ha:a≤2^36):
 FSpec Tryz.prog 135 [.ptr 1000000 0] [(1000000,strm n L a)] (fun y r=>(∃l:List Ext,allK extM 2 l∧y= .d (exts l))∧Moved n L a 20 r):=by
 refine spec_of hT (C:= [24]) Tryz.func135 rfl Tryz.call135 rfl rfl rfl ?_;conv=>whnf
 repeat' (first|(refine CallX.of (s33 n L hL _ ?_ ?_ [0,5,100] ?_ ?_) [(1000000,1000000)] rfl ⟨lr,SV.le_lit rfl rfl,trivial⟩ ⟨rr,trivial⟩ rfl rfl ?_;rotate_right;rintro x rout ⟨⟨u1,hu1,rfl⟩,⟨c,c1,c2,rfl⟩⟩;refine⟨rfl,?_⟩;conv=>whnf)|(refine CallX.of (s33 n L hL _ ?_ ?_ [0,2] ?_ ?_) [(1000000,1000000)] rfl ⟨lr,SV.le_lit rfl rfl,trivial⟩ ⟨rr,trivial⟩ rfl rfl ?_;rotate_right;rintro x rout ⟨⟨u2,hu2,rfl⟩,⟨c,c1,c2,rfl⟩⟩;refine⟨rfl,?_⟩;conv=>whnf)|(refine CallX.of (s33 n L hL _ ?_ ?_ [-1,0,7] ?_ ?_) [(1000000,1000000)] rfl ⟨lr,SV.le_lit rfl rfl,trivial⟩ ⟨rr,trivial⟩ rfl rfl ?_;rotate_right;rintro x rout ⟨⟨u3,hu3,rfl⟩,⟨c,c1,c2,rfl⟩⟩;refine⟨rfl,?_⟩;conv=>whnf)|(refine CallX.of (s33 n L hL _ ?_ ?_ [0,10] ?_ ?_) [(1000000,1000000)] rfl ⟨lr,SV.le_lit rfl rfl,trivial⟩ ⟨rr,trivial⟩ rfl rfl ?_;rotate_right;rintro x rout ⟨⟨u4,hu4,rfl⟩,⟨c,c1,c2,rfl⟩⟩;refine⟨rfl,?_⟩;conv=>whnf)|(refine CallX.of (s33 n L hL _ ?_ ?_ [0,3,50] ?_ ?_) [(1000000,1000000)] rfl ⟨lr,SV.le_lit rfl rfl,trivial⟩ ⟨rr,trivial⟩ rfl rfl ?_;rotate_right;rintro x rout ⟨⟨u5,hu5,rfl⟩,⟨c,c1,c2,rfl⟩⟩;refine⟨rfl,?_⟩;conv=>whnf)|(refine CallX.of (s33 n L hL _ ?_ ?_ [-1,-1,20,1000] ?_ ?_) [(1000000,1000000)] rfl ⟨lr,SV.le_lit rfl rfl,trivial⟩ ⟨rr,trivial⟩ rfl rfl ?_;rotate_right;rintro x rout ⟨⟨u6,hu6,rfl⟩,⟨c,c1,c2,rfl⟩⟩;refine⟨rfl,?_⟩;conv=>whnf)|(refine CallX.of (s84 n L hL _ ?_ ?_ 15 ?_) [(1000000,1000000)] rfl ⟨lr,lr,trivial⟩ ⟨rr,trivial⟩ rfl rfl ?_;rotate_right;rintro x rout ⟨⟨w,rfl⟩,⟨c,c1,c2,rfl⟩⟩;refine⟨rfl,?_⟩;conv=>whnf)|(refine CallX.of (s15 n L hL _ ?_ ?_ [[],[65],[109,97,112],[115,101,97,116]] (by simp) (by simp)) [(1000000,1000000)] rfl ⟨lr,SV.le_lit rfl rfl,trivial⟩ ⟨rr,trivial⟩ rfl rfl ?_;rotate_right;rintro x rout ⟨⟨v1,hv1,rfl⟩,⟨c,c1,c2,rfl⟩⟩;refine⟨rfl,?_⟩;conv=>whnf)|(refine CallX.of (s104 n L hL _ ?_ ?_ 0 1000000 ?_ ?_ ?_) [(1000000,1000000)] rfl ⟨lr,lr,lr,trivial⟩ ⟨rr,trivial⟩ rfl rfl ?_;rotate_right;rintro x rout ⟨⟨o1,ho1,ho2,rfl⟩,⟨c,c1,c2,rfl⟩⟩;refine⟨rfl,?_⟩;conv=>whnf)|(refine CallX.of (s104 n L hL _ ?_ ?_ (-1) 1000000 ?_ ?_ ?_) [(1000000,1000000)] rfl ⟨lr,lr,lr,trivial⟩ ⟨rr,trivial⟩ rfl rfl ?_;rotate_right;rintro x rout ⟨⟨o2,ho3,ho4,rfl⟩,⟨c,c1,c2,rfl⟩⟩;refine⟨rfl,?_⟩;conv=>whnf)|(refine CallX.of (s33 n L hL _ ?_ ?_ [0,1,2,2] ?_ ?_) [(1000000,1000000)] rfl ⟨lr,SV.le_lit rfl rfl,trivial⟩ ⟨rr,trivial⟩ rfl rfl ?_;rotate_right;rintro x rout ⟨⟨m,hm,rfl⟩,⟨c,c1,c2,rfl⟩⟩;have hm2:0≤m∧m≤2:=(by simp only[List.mem_cons,List.not_mem_nil,or_false]at hm;omega);refine⟨rfl,?_⟩;conv=>whnf)|((first|refine SliceX.first (lo:=none) rfl ?_|(refine br_intro ?_ ?_<;>intro hb<;>try simp only[brs]at hb)|omega|refine sAx ?_|decide|assumption)<;>conv=>whnf))
 all_goals try(exact h0)
 all_goals try omega
 · have hw:v1.length≤8:=mem_len hv1 rfl;refine .freeze _ 41 201 4 _ _ rfl (.weak _ ?_);conv=>whnf
   refine⟨.d (exts (([⟨[109,97,112],u1,u2,u3⟩,⟨v1,o1,0,o2⟩]:List Ext).take m.toNat)),[(1000000,strm n L _)],ext_cut hm2.1 hm2.2 rfl rfl rfl,⟨⟨_,⟨by rw[List.length_take];exact Nat.min_le_right _ _,fun x hx=> ?_⟩,rfl⟩,_,by omega,by omega,rfl⟩,rr,trivial⟩;have hx:=List.mem_of_mem_take hx;simp only[List.mem_cons,List.not_mem_nil,or_false]at hx;rcases hx with rfl|rfl
   · show([109,97,112]:List UInt8).length≤8;decide
   · exact hw
 · refine .freeze _ 41 201 4 _ _ rfl (.weak _ ?_);conv=>whnf
   refine⟨.d (exts (([⟨[109,97,112],u1,u2,u3⟩,⟨[115,101,97,116],u4,u5,u6⟩]:List Ext).take m.toNat)),[(1000000,strm n L _)],ext_cut hm2.1 hm2.2 rfl rfl rfl,⟨⟨_,⟨by rw[List.length_take];exact Nat.min_le_right _ _,fun x hx=> ?_⟩,rfl⟩,_,by omega,by omega,rfl⟩,rr,trivial⟩;have hx:=List.mem_of_mem_take hx;simp only[List.mem_cons,List.not_mem_nil,or_false]at hx;rcases hx with rfl|rfl
   · show([109,97,112]:List UInt8).length≤8;decide
   · show([115,101,97,116]:List UInt8).length≤8;decide
def p2F (p:List UInt8×List UInt8):List DV:= [.str p.1,.str p.2]
def f4:List (List UInt8×List UInt8):= [([115,49],[115,50]),([115,49],[115,51]),([115,50],[115,49]),([115,51],[115,50])]
theorem f4_len (i:Nat):(f4.getD i ([],[])).1.length≤8∧(f4.getD i ([],[])).2.length≤8:=by
 match i with
 |0=>decide
 |1=>decide
 |2=>decide
 |3=>decide
 |i+4=>simp[f4]
set_option maxHeartbeats 4000000 in
theorem yFees (n:Nat)(L:Nat→Int)(hL:Rok n L)(a:Int)(h0:0≤a)(ha:a≤2^36):
 FSpec Tryz.prog 136 [.ptr 1000000 0] [(1000000,strm n L a)] (fun y r=>(∃l:List Fe,allK feM 5 l∧y= .d (fes l))∧Moved n L a 20 r):=by
 refine spec_of hT (C:= []) Tryz.func136 rfl Tryz.call136 rfl rfl rfl ?_;conv=>whnf
 refine LoopX.rule hT (C:= []) (ι:=Int×List Fe×Nat) (fun(b,l,i)=>(a≤b∧b≤a+2*i∧i≤4)∧allK feM i l)
  (fun(b,l,i)=>mkSt [(0,.ptr 1000000 0),(3,.buf 3),(10,.d (seqD 2 p2F ([],[]) f4)),(11,.d (.int .i64 4)),(12,.d (.int .i64 i))] [(1000000,strm n L b),(3,seqB 248 3 feF fe0 l)])
  (fun(_,_,i)=>4 - i) (a,[],0) ⟨⟨by simp,by simp,by simp⟩,⟨by simp,by simp⟩⟩ ?_ ?_
 · refine(Entails.nil 3 3 248 3 (rowF feF fe0 []) rfl rfl (by decide)).trans (Entails.mk' [(1000000,1000000),(3,3)] rfl rfl ⟨lr,lr,SV.le_lit rfl rfl,lr,lr,trivial⟩ ⟨rr,rr,trivial⟩)
 rintro⟨b,l,i⟩ ⟨⟨p1,p2,p3⟩,p4⟩;have p1:a≤b:=p1;have p2:b≤a+2*i:=p2;have p3:i≤4:=p3;have p4:allK feM i l:=p4;have hc3:f4.length=4:=rfl;have hl1:l.length≤i:=p4.1;have e1:(i:Int).toNat=i:=Int.toNat_natCast i;have hf:=f4_len (i:Int).toNat;conv=>whnf
 repeat' (first|(refine CallX.of (s84 n L hL _ ?_ ?_ 3 ?_) [(1000000,1000000)] rfl ⟨lr,lr,trivial⟩ ⟨rr,trivial⟩ rfl rfl ?_;rotate_right;rintro x rout ⟨⟨w,rfl⟩,⟨c,c1,c2,rfl⟩⟩;refine⟨rfl,?_⟩;conv=>whnf)|(refine CallX.of (s33 n L hL _ ?_ ?_ [0,40,700] ?_ ?_) [(1000000,1000000)] rfl ⟨lr,SV.le_lit rfl rfl,trivial⟩ ⟨rr,trivial⟩ rfl rfl ?_;rotate_right;rintro x rout ⟨⟨u1,hu1,rfl⟩,⟨c,c1,c2,rfl⟩⟩;refine⟨rfl,?_⟩;conv=>whnf)|(refine CallX.of (s84 n L hL _ ?_ ?_ 15 ?_) [(1000000,1000000)] rfl ⟨lr,lr,trivial⟩ ⟨rr,trivial⟩ rfl rfl ?_;rotate_right;rintro x rout ⟨⟨w2,rfl⟩,⟨c,c1,c2,rfl⟩⟩;refine⟨rfl,?_⟩;conv=>whnf)|(refine CallX.of (s15 n L hL _ ?_ ?_ [[115,51],[65],[115,49]] (by simp) (by simp)) [(1000000,1000000)] rfl ⟨lr,SV.le_lit rfl rfl,trivial⟩ ⟨rr,trivial⟩ rfl rfl ?_;rotate_right;rintro x rout ⟨⟨v1,hv1,rfl⟩,⟨c,c1,c2,rfl⟩⟩;refine⟨rfl,?_⟩;conv=>whnf)|(refine CallX.of (s15 n L hL _ ?_ ?_ [[115,51],[115,57],[]] (by simp) (by simp)) [(1000000,1000000)] rfl ⟨lr,SV.le_lit rfl rfl,trivial⟩ ⟨rr,trivial⟩ rfl rfl ?_;rotate_right;rintro x rout ⟨⟨v2,hv2,rfl⟩,⟨c,c1,c2,rfl⟩⟩;refine⟨rfl,?_⟩;conv=>whnf)|(refine CallX.of (s104 n L hL _ ?_ ?_ 0 1000000 ?_ ?_ ?_) [(1000000,1000000)] rfl ⟨lr,lr,lr,trivial⟩ ⟨rr,trivial⟩ rfl rfl ?_;rotate_right;rintro x rout ⟨⟨o1,ho1,ho2,rfl⟩,⟨c,c1,c2,rfl⟩⟩;refine⟨rfl,?_⟩;conv=>whnf)|((first|(refine br_intro ?_ ?_<;>intro hb<;>try simp only[brs]at hb)|refine rAx hT 6 oJTmB136_6 ?_|omega|refine sAx ?_|decide|assumption)<;>conv=>whnf))
 all_goals try(exact h0)
 all_goals try omega
 · exact⟨(c,l++ [⟨(f4.getD (i:Int).toNat ([],[])).1,(f4.getD (i:Int).toNat ([],[])).2,u1⟩],i+1),⟨⟨by omega,by show _≤a+2*((i+1:Nat):Int);omega,by omega⟩,allK_snoc p4 (by omega) (show feM ⟨(f4.getD (i:Int).toNat ([],[])).1,(f4.getD (i:Int).toNat ([],[])).2,u1⟩from hf)⟩,by show 4 - (i+1)<4 - i;omega,
    Entails.mk' [(1000000,1000000),(3,29)] rfl rfl ⟨lr,lr,lr,lr,lr,trivial⟩ ⟨rr,Res.le_snocF rfl,trivial⟩⟩
 · exact⟨(c,l,i+1),⟨⟨by omega,by show _≤a+2*((i+1:Nat):Int);omega,by omega⟩,allK_le p4 (by omega)⟩,by show 4 - (i+1)<4 - i;omega,(by exact eAx [(1000000,1000000),(3,3)])⟩
 · refine .freeze _ 44 248 3 _ _ rfl (.weak _ ?_);conv=>whnf
   exact⟨.d (fes (l++ [⟨v1,v2,o1⟩])),[(1000000,strm n L _)],SV.le_ro (by simp) (rows_snocF rfl),⟨⟨_,allK_snoc p4 (by omega) ⟨mem_len hv1 rfl,mem_len hv2 rfl⟩,rfl⟩,_,by omega,by omega,rfl⟩,rr,trivial⟩
 · refine .freeze _ 3 248 3 _ _ rfl (.weak _ ?_);conv=>whnf
   exact⟨.d (fes l),[(1000000,strm n L _)],lr,⟨⟨_,allK_le p4 (by omega),rfl⟩,_,by omega,by omega,rfl⟩,rr,trivial⟩
def k3:List (List UInt8):= [[97,49,48],[98,50,48],[99,51,48]]
set_option maxHeartbeats 4000000 in
theorem yCodes (n:Nat)(L:Nat→Int)(hL:Rok n L)(a:Int)(h0:0≤a)(ha:a≤2^36):
 FSpec Tryz.prog 137 [.ptr 1000000 0] [(1000000,strm n L a)] (fun y r=>(∃l:List Cod,allK codM 3 l∧y= .d (cods l))∧Moved n L a 40 r):=by
 refine spec_of hT (C:= []) Tryz.func137 rfl Tryz.call137 rfl rfl rfl ?_;conv=>whnf
 refine LoopX.rule hT (C:= []) (ι:=Int×List Cod×Nat) (fun(b,l,i)=>(a≤b∧b≤a+8*i∧i≤3)∧allK codM i l)
  (fun(b,l,i)=>mkSt [(0,.ptr 1000000 0),(3,.buf 3),(8,.d (strs k3)),(9,.d (.int .i64 3)),(10,.d (.int .i64 i))] [(1000000,strm n L b),(3,seqB 250 6 codF cod0 l)])
  (fun(_,_,i)=>3 - i) (a,[],0) ⟨⟨by simp,by simp,by simp⟩,⟨by simp,by simp⟩⟩ ?_ ?_
 · refine(Entails.nil 3 3 250 6 (rowF codF cod0 []) rfl rfl (by decide)).trans (Entails.mk' [(1000000,1000000),(3,3)] rfl rfl ⟨lr,lr,SV.le_lit rfl rfl,lr,lr,trivial⟩ ⟨rr,rr,trivial⟩)
 rintro⟨b,l,i⟩ ⟨⟨p1,p2,p3⟩,p4⟩;have p1:a≤b:=p1;have p2:b≤a+8*i:=p2;have p3:i≤3:=p3;have p4:allK codM i l:=p4;have hc3:k3.length=3:=rfl;have hl1:l.length≤i:=p4.1;have hkk:(i:Int)<3→(k3.getD (i:Int).toNat []).length≤8:=fun h=>mem_len (getD_mem (by omega)) rfl
 conv=>whnf
 repeat' (first|(refine CallX.of (s84 n L hL _ ?_ ?_ 4 ?_) [(1000000,1000000)] rfl ⟨lr,lr,trivial⟩ ⟨rr,trivial⟩ rfl rfl ?_;rotate_right;rintro x rout ⟨⟨w,rfl⟩,⟨c,c1,c2,rfl⟩⟩;refine⟨rfl,?_⟩;conv=>whnf)|(refine CallX.of (s33 n L hL _ ?_ ?_ [0,0,3] ?_ ?_) [(1000000,1000000)] rfl ⟨lr,SV.le_lit rfl rfl,trivial⟩ ⟨rr,trivial⟩ rfl rfl ?_;rotate_right;rintro x rout ⟨⟨u1,hu1,rfl⟩,⟨c,c1,c2,rfl⟩⟩;have hw1:=pkD hu1 (by decide);refine⟨rfl,?_⟩;conv=>whnf)|(refine CallX.of (s15 n L hL _ ?_ ?_ [[],[],[109,105,110,105]] (by simp) (by simp)) [(1000000,1000000)] rfl ⟨lr,SV.le_lit rfl rfl,trivial⟩ ⟨rr,trivial⟩ rfl rfl ?_;rotate_right;rintro x rout ⟨⟨v1,hv1,rfl⟩,⟨c,c1,c2,rfl⟩⟩;refine⟨rfl,?_⟩;conv=>whnf)|(refine CallX.of (s33 n L hL _ ?_ ?_ [0,1,10,3000] ?_ ?_) [(1000000,1000000)] rfl ⟨lr,SV.le_lit rfl rfl,trivial⟩ ⟨rr,trivial⟩ rfl rfl ?_;rotate_right;rintro x rout ⟨⟨u2,hu2,rfl⟩,⟨c,c1,c2,rfl⟩⟩;have hw2:=pkD hu2 (by decide);refine⟨rfl,?_⟩;conv=>whnf)|(refine CallX.of (s33 n L hL _ ?_ ?_ [1,1,2,5] ?_ ?_) [(1000000,1000000)] rfl ⟨lr,SV.le_lit rfl rfl,trivial⟩ ⟨rr,trivial⟩ rfl rfl ?_;rotate_right;rintro x rout ⟨⟨u3,hu3,rfl⟩,⟨c,c1,c2,rfl⟩⟩;refine⟨rfl,?_⟩;conv=>whnf)|(refine CallX.of (s33 n L hL _ ?_ ?_ [1,100,100,250,1000] ?_ ?_) [(1000000,1000000)] rfl ⟨lr,SV.le_lit rfl rfl,trivial⟩ ⟨rr,trivial⟩ rfl rfl ?_;rotate_right;rintro x rout ⟨⟨u4,hu4,rfl⟩,⟨c,c1,c2,rfl⟩⟩;refine⟨rfl,?_⟩;conv=>whnf)|(refine CallX.of (s84 n L hL _ ?_ ?_ 15 ?_) [(1000000,1000000)] rfl ⟨lr,lr,trivial⟩ ⟨rr,trivial⟩ rfl rfl ?_;rotate_right;rintro x rout ⟨⟨w2,rfl⟩,⟨c,c1,c2,rfl⟩⟩;refine⟨rfl,?_⟩;conv=>whnf)|(refine CallX.of (s86 n L hL _ ?_ ?_ _ ?_) [(1000000,1000000)] rfl ⟨lr,lr,trivial⟩ ⟨rr,trivial⟩ rfl rfl ?_;rotate_right;rintro x rout ⟨⟨j,hj1,hj2,hj3,rfl⟩,⟨c,c1,c2,rfl⟩⟩;refine⟨rfl,?_⟩;conv=>whnf)|(refine CallX.of (s15 n L hL _ ?_ ?_ [(l.getD j.toNat cod0).key,[],[122,101,100],[97,49,48]] (by simp) (by simp)) [(1000000,1000000)] rfl ⟨lr,SV.le_lit rfl rfl,trivial⟩ ⟨rr,trivial⟩ rfl rfl ?_;rotate_right;rintro x rout ⟨⟨v2,hv2,rfl⟩,⟨c,c1,c2,rfl⟩⟩;refine⟨rfl,?_⟩;conv=>whnf)|(refine CallX.of (s104 n L hL _ ?_ ?_ 1 120 ?_ ?_ ?_) [(1000000,1000000)] rfl ⟨lr,lr,lr,trivial⟩ ⟨rr,trivial⟩ rfl rfl ?_;rotate_right;rintro x rout ⟨⟨o1,ho1,ho2,rfl⟩,⟨c,c1,c2,rfl⟩⟩;refine⟨rfl,?_⟩;conv=>whnf)|(refine CallX.of (s104 n L hL _ ?_ ?_ 1 1000 ?_ ?_ ?_) [(1000000,1000000)] rfl ⟨lr,lr,lr,trivial⟩ ⟨rr,trivial⟩ rfl rfl ?_;rotate_right;rintro x rout ⟨⟨o2,ho3,ho4,rfl⟩,⟨c,c1,c2,rfl⟩⟩;refine⟨rfl,?_⟩;conv=>whnf)|((first|(refine br_intro ?_ ?_<;>intro hb<;>try simp only[brs]at hb)|omega|refine sAx ?_|decide|assumption)<;>conv=>whnf))
 all_goals try(exact h0)
 all_goals try omega
 · exact⟨(c,l,i+1),⟨⟨by omega,by show _≤a+8*((i+1:Nat):Int);omega,by omega⟩,allK_le p4 (by omega)⟩,by show 3 - (i+1)<3 - i;omega,(by exact eAx [(1000000,1000000),(3,3)])⟩
 · exact⟨(c,l++ [⟨k3.getD (i:Int).toNat [],v1,u1,u1+u2,u3,u4⟩],i+1),⟨⟨by omega,by show _≤a+8*((i+1:Nat):Int);omega,by omega⟩,allK_snoc p4 (by omega) ⟨hkk (by omega),mem_len hv1 rfl⟩⟩,by show 3 - (i+1)<3 - i;omega,
    Entails.mk' [(1000000,1000000),(3,38)] rfl rfl ⟨lr,lr,lr,lr,lr,trivial⟩ ⟨rr,Res.le_snocF rfl,trivial⟩⟩
 · have hv:v2.length≤8:=by
    simp only[List.mem_cons,List.not_mem_nil,or_false]at hv2;rcases hv2 with rfl|rfl|rfl|rfl
    · exact(p4.2 _ (getD_mem (by omega))).1
    · decide
    · decide
    · decide
   refine .freeze _ 3 250 6 _ _ rfl (.weak _ ?_);conv=>whnf
   have hrow:=rows_updG (f:=codF) (d:=cod0) (rows_updG (rows_updG (l:=l) (j:=j.toNat) (off:=0) (ds:= [.str v2]) (fun _ _=>rfl) (fun y:Cod=>{y with key:=v2}) (fun _=>rfl)) (off:=4) (ds:= [.int .i64 o1]) (j:=j.toNat) (fun y:Cod=>{y with days:=o1}) (fun _=>rfl)) (off:=5) (ds:= [.int .i64 o2]) (j:=j.toNat) (fun y:Cod=>{y with per:=o2}) (fun _=>rfl);exact⟨.d (cods (updL (updL (updL l j.toNat cod0 fun y=>{y with key:=v2}) j.toNat cod0 fun y=>{y with days:=o1}) j.toNat cod0 fun y=>{y with per:=o2})),[(1000000,strm n L _)],SV.le_ro (by simp) (fun i hi=>hrow i (by simpa using hi)),⟨⟨_,allK_upd (g:=fun y:Cod=>{y with per:=o2}) (allK_upd (g:=fun y:Cod=>{y with days:=o1}) (allK_upd (g:=fun y:Cod=>{y with key:=v2}) (allK_le p4 (by omega)) (fun y hy=>⟨hv,hy.2⟩)) (fun y hy=>hy)) (fun y hy=>hy),rfl⟩,_,by omega,by omega,rfl⟩,rr,trivial⟩
 all_goals
  refine .freeze _ 3 250 6 _ _ rfl (.weak _ ?_);conv=>whnf
  exact⟨.d (cods l),[(1000000,strm n L _)],lr,⟨⟨_,allK_le p4 (by omega),rfl⟩,_,by omega,by omega,rfl⟩,rr,trivial⟩
end Go.Proofs.YtkokpbpililcdaaGreatDoor
namespace Go.Eng
open Go
variable {A:Amb} {G:Hp} {β:Env} {s:St} {t:Array Value} {w:World}
theorem Entails.bunchNew (e k:Nat)(hk:0<k)(hu:s.used 999999=false):Entails s (s.app ⟨none,.any,[(999999,some (.bunch e k []))],[999999]⟩):=by
 refine⟨fun A a w=> ?_⟩;rintro⟨h0,G,β,h⟩;exact⟨h0,G,_,h.bunchNew hk hu⟩
theorem MG.bunchFreeAll {q e k:Nat}:∀ (l:List (Value×Nat×(Nat→List DV))) {G:Hp} {s:St},MG A G β s t w→s.res q=some (.bunch e k l)→
 ∃G',G.le G'∧(∀p ∈ l,DV.Den G' (.ro k p.2.1 p.2.2) p.1)∧MG A G' β (s.app ⟨none,.any,[(q,some (.bunch e k []))],[]⟩) t w:=by
 intro l
 induction l with
 | nil =>
   intro G s h hq;refine⟨G,Hp.le_refl G,fun p hp=>(by cases hp),?_⟩
   have:s.app ⟨none,.any,[(q,some (.bunch e k []))],[]⟩=s:=by
    cases s with
    | mk tm rs us=>
      simp only[St.app,St.mk.injEq];refine⟨rfl,?_,rfl⟩;funext x
      simp only[putR_apply,lookR]
      by_cases c:x=q
      · subst c;simpa using hq.symm
      · rw[nbeq_ne c];rfl
   rw[this];exact h
 | cons p l ih=>
   obtain⟨v,n,get⟩:=p;intro G s h hq;obtain⟨G1,h1,h2,h3⟩:=h.bunchFree hq;obtain⟨G2,k1,k2,k3⟩:=ih h3 (by simp[St.app,putR_apply,lookR]);refine⟨G2,Hp.le_trans h1 k1,fun p hp=> ?_,?_⟩
   · rcases List.mem_cons.1 hp with rfl|hp
     · exact h2.mono k1
     · exact k2 p hp
   · have:(s.app ⟨none,.any,[(q,some (.bunch e k l))],[]⟩).app ⟨none,.any,[(q,some (.bunch e k []))],[]⟩=s.app ⟨none,.any,[(q,some (.bunch e k []))],[]⟩:=by
      simp only[St.app,St.mk.injEq];refine⟨rfl,?_,rfl⟩;funext x
      simp only[putR_apply,lookR]
      by_cases c:x=q
      · subst c;simp
      · rw[nbeq_ne c];rfl
     rw[this]at k3;exact k3
theorem Entails.bunchFro {q e k e2 k2 N:Nat}{l:List (Value×Nat×(Nat→List DV))}{get:Nat→List DV}(get':Nat→List DV)(hb:s.res 999999=some (.bunch e k l))(hq:s.res q=some (.buf e2 k2 N get))
 (hl:∀i,i<N→(get' i).length=(get i).length)
 (hg:∀ (i j:Nat) (x:DV),i<N→(get' i)[j]? =some x→(get i)[j]? =some x∨∃p ∈ l,(get i)[j]? =some (.opq p.1)∧∀G v,DV.Den G (.ro k p.2.1 p.2.2) v→DV.Den G x v):
 Entails s (s.app ⟨none,.any,[(999999,none),(q,some (.buf e2 k2 N get'))],[]⟩):=by
 refine⟨fun A a w=> ?_⟩;rintro⟨h0,G,β,h⟩;obtain⟨G',h1,h2,h3⟩:=MG.bunchFreeAll l h hb;have hne:¬q=999999:=fun c=>by rw[c,hb]at hq;cases hq
 have hq1:(s.app ⟨none,.any,[(999999,some (.bunch e k []))],[]⟩).res q=some (.buf e2 k2 N get):=by
  simp only[St.app,putR_apply,lookR];rw[nbeq_ne hne];exact hq
 obtain⟨v,xs,hv,hown,hk,hlen,hden⟩:=h3.rs _ _ hq1
 have h4:=h3.changeG (r':=.buf e2 k2 N get') hq1 rfl hv rfl rfl rfl rfl (fun _ _=>rfl) (fun b hb=>hb.to rfl) ⟨v,xs,hv,hown,hk,fun i hi=>(hl i hi).trans (hlen i hi),fun i j x hi hx=>by
  rcases hg i j x hi hx with c|⟨p,hp,c,hx⟩
  · exact hden i j x hi c
  · obtain⟨u,hu,hd⟩:=hden i j _ hi c
    cases hd with|opq _ _=>exact⟨_,hu,hx _ _ (h2 p hp)⟩⟩
 have h5:=h4.drop 999999;refine⟨h0,G',β,?_⟩
 have:((s.app ⟨none,.any,[(999999,some (.bunch e k []))],[]⟩).app ⟨none,.any,[(q,some (.buf e2 k2 N get'))],[]⟩).app ⟨none,.any,[(999999,none)],[]⟩=s.app ⟨none,.any,[(999999,none),(q,some (.buf e2 k2 N get'))],[]⟩:=by
  simp only[St.app,St.mk.injEq];refine⟨rfl,?_,rfl⟩;funext x
  simp only[putR_apply,lookR]
  by_cases c:x=999999
  · subst c;simp
  · rw[nbeq_ne c]
    by_cases d:x=q
    · subst d;simp
    · rw[nbeq_ne d];rfl
 rw[←this];exact h5
end Go.Eng
set_option maxRecDepth 20000
namespace Go.Proofs.YtkokpbpililcdaaGreatDoor
open Go Go.Eng
def oJTmC138_18:OL:= [(0,[]),(1,[0]),(2,[0]),(3,[0]),(4,[0]),(5,rg 5),(6,rg 6),(7,rg 5),(8,rg 5),(9,[0]),(10,[]),(11,[]),(12,[])]
def taxM (x:Tax):Prop:=x.key.length≤8∧x.on.length≤8
structure BTx where
 key:List UInt8
 per:Int
 v:Value
 on:List Int
 over:Bool
def btF (x:BTx):List DV:= [.str x.key,.int .i64 x.per,.opq x.v,.bool x.over]
def bt0:BTx:=⟨[],0,.nilFunc,[],false⟩
def bM (x:BTx):Prop:=x.key.length≤8∧x.on.length≤5
def bT (x:BTx):Tax:=⟨x.key,x.per,x.on,x.over⟩
def bE (x:BTx):Value×Nat×(Nat→List DV):=(x.v,x.on.length,rowF iF 0 x.on)
def bL (l:List BTx):List (Value×Nat×(Nat→List DV)):=(l.map bE).reverse
theorem bL_snoc (l:List BTx)(x:BTx):bL (l++ [x])=bE x::bL l:=by simp[bL]
theorem bL_mem {l:List BTx}{x:BTx}(h:x ∈ l):bE x ∈ bL l:=by
 unfold bL;rw[List.mem_reverse];exact List.mem_map.2 ⟨x,h,rfl⟩
theorem bL_split (l:List BTx){j:Nat}(h:j<l.length):∃A B,bL l=A++bE (l.getD j bt0)::B∧∀x,∀t ∈ l.set j x,t=x∨bE t ∈ A++B:=by
 have e:l=l.take j++l.getD j bt0::l.drop (j+1):=by
  rw[List.getD_eq_getElem?_getD,List.getElem?_eq_getElem h,Option.getD_some,←List.drop_eq_getElem_cons h,List.take_append_drop]
 refine⟨((l.drop (j+1)).map bE).reverse,((l.take j).map bE).reverse,?_,fun x t ht=> ?_⟩
 · conv=>lhs;rw[e]
   simp[bL]
 · rw[List.set_eq_take_append_cons_drop,if_pos h]at ht;rcases List.mem_append.1 ht with q|q
   · exact .inr (List.mem_append.2 (.inr (by rw[List.mem_reverse];exact List.mem_map.2 ⟨t,q,rfl⟩)))
   · rcases List.mem_cons.1 q with q|q
     · exact .inl q
     · exact .inr (List.mem_append.2 (.inl (by rw[List.mem_reverse];exact List.mem_map.2 ⟨t,q,rfl⟩)))
theorem tax_fro {s:St}{q N:Nat}{Bn:List (Value×Nat×(Nat→List DV))}{get:Nat→List DV}(hb:s.res 999999=some (.bunch 3 1 Bn))(hq:s.res q=some (.buf 252 4 N get))(l:List BTx)(hN:N=l.length)(hg:∀i,i<N→get i=rowF btF bt0 l i)
 (hB:∀t ∈ l,∃p ∈ Bn,p.1=t.v∧p.2.1=t.on.length∧∀i,i<p.2.1→p.2.2 i=rowF iF 0 t.on i):
 Entails s (s.app ⟨none,.any,[(999999,none),(q,some (.buf 252 4 N (rowF taxF tax0 (l.map bT))))],[]⟩):=by
 have hrow:∀i,i<N→rowF taxF tax0 (l.map bT) i=taxF (bT (l.getD i bt0)):=fun i hi=>by
  unfold rowF;congr 1
  rw[List.getD_eq_getElem?_getD,List.getElem?_map,List.getD_eq_getElem?_getD,List.getElem?_eq_getElem (by omega)];rfl
 refine Entails.bunchFro _ hb hq (fun i hi=>by rw[hrow i hi,hg i hi];rfl) (fun i j x hi hx=> ?_);rw[hrow i hi]at hx;rw[hg i hi];obtain⟨t,ht⟩:∃t,t=l.getD i bt0:=⟨_,rfl⟩;have hm:t ∈ l:=by rw[ht];exact getD_mem (by omega)
 show(btF (l.getD i bt0))[j]? =some x∨∃p ∈ Bn,(btF (l.getD i bt0))[j]? =some (.opq p.1)∧∀G v,DV.Den G (.ro 1 p.2.1 p.2.2) v→DV.Den G x v;rw[←ht]at hx ⊢
 match j with
 |0=>exact .inl hx
 |1=>exact .inl hx
 |3=>exact .inl hx
 | 2=>
   obtain⟨p,hp,h1,h2,h3⟩:=hB t hm;cases hx
   exact .inr ⟨p,hp,by rw[h1];rfl,fun G v hv=>DV.ro_ext h2 h3 hv⟩
 |j+4=>cases hx
def tk3:List (List UInt8):= [[99,105,116,121],[115,116,97,116,101],[118,97,116]]
theorem taxM_map {l:List BTx}{k:Nat}(hl:l.length≤k)(h:∀t ∈ l,t.key.length≤8∧t.on.length≤8):allK taxM k (l.map bT):=
 ⟨by rw[List.length_map];exact hl,fun x hx=>by
   obtain⟨t,ht,rfl⟩:=List.mem_map.1 hx
   exact h t ht⟩
set_option maxHeartbeats 4000000 in
theorem yTaxes (n:Nat)(L:Nat→Int)(hL:Rok n L)(a:Int)(h0:0≤a)(ha:a≤2^36):
 FSpec Tryz.prog 138 [.ptr 1000000 0] [(1000000,strm n L a)] (fun y r=>(∃l:List Tax,allK taxM 3 l∧y= .d (taxs l))∧Moved n L a 50 r):=by
 refine spec_of hT (C:= []) Tryz.func138 rfl Tryz.call138 rfl rfl rfl ?_;conv=>whnf
 refine LoopX.rule hT (C:= []) (ι:=Int×List BTx×Nat) (fun(b,l,i)=>(a≤b∧b≤a+10*i∧i≤3)∧allK bM i l)
  (fun(b,l,i)=>mkSt [(0,.ptr 1000000 0),(3,.buf 3),(10,.d (strs tk3)),(11,.d (.int .i64 3)),(12,.d (.int .i64 i))] [(1000000,strm n L b),(3,seqB 252 4 btF bt0 l),(999999,.bunch 3 1 (bL l))])
  (fun(_,_,i)=>3 - i) (a,[],0) ⟨⟨by simp,by simp,by simp⟩,⟨by simp,by simp⟩⟩ ?_ ?_
 · refine(Entails.bunchNew 3 1 (by decide) rfl).trans ((Entails.nil 3 3 252 4 (rowF btF bt0 []) rfl rfl (by decide)).trans (Entails.mk' [(1000000,1000000),(3,3),(999999,999999)] rfl rfl ⟨lr,lr,SV.le_lit rfl rfl,lr,lr,trivial⟩ ⟨rr,rr,rr,trivial⟩))
 rintro⟨b,l,i⟩ ⟨⟨p1,p2,p3⟩,p4⟩;have p1:a≤b:=p1;have p2:b≤a+10*i:=p2;have p3:i≤3:=p3;have p4:allK bM i l:=p4;have hc3:tk3.length=3:=rfl;have hl1:l.length≤i:=p4.1;have hkk:(i:Int)<3→(tk3.getD (i:Int).toNat []).length≤8:=fun h=>mem_len (getD_mem (by omega)) rfl
 rcases Nat.lt_or_ge i 3 with hi|hi
 · conv=>whnf
   repeat' (first|(refine CallX.of (s84 n L hL _ ?_ ?_ 3 ?_) [(1000000,1000000)] rfl ⟨lr,lr,trivial⟩ ⟨rr,trivial⟩ rfl rfl ?_;rotate_right;rintro x rout ⟨⟨w,rfl⟩,⟨c,c1,c2,rfl⟩⟩;refine⟨rfl,?_⟩;conv=>whnf)|(refine CallX.of (s33 n L hL _ ?_ ?_ [0,50,75,200,1000] ?_ ?_) [(1000000,1000000)] rfl ⟨lr,SV.le_lit rfl rfl,trivial⟩ ⟨rr,trivial⟩ rfl rfl ?_;rotate_right;rintro x rout ⟨⟨u1,hu1,rfl⟩,⟨c,c1,c2,rfl⟩⟩;refine⟨rfl,?_⟩;conv=>whnf)|(refine CallX.of (s84 n L hL _ ?_ ?_ 2 ?_) [(1000000,1000000)] rfl ⟨lr,lr,trivial⟩ ⟨rr,trivial⟩ rfl rfl ?_;rotate_right;rintro x rout ⟨⟨w2,rfl⟩,⟨c,c1,c2,rfl⟩⟩;refine⟨rfl,?_⟩;conv=>whnf)|((first|(refine br_intro ?_ ?_<;>intro hb<;>try simp only[brs]at hb)|refine rAx hT 18 oJTmC138_18 ?_|omega|refine sAx ?_|decide|assumption)<;>conv=>whnf))
   all_goals try(exact h0)
   all_goals try omega
   · exact⟨(c,l,i+1),⟨⟨by omega,by show _≤a+10*((i+1:Nat):Int);omega,by omega⟩,allK_le p4 (by omega)⟩,by show 3 - (i+1)<3 - i;omega,(by exact eAx [(1000000,1000000),(3,3),(999999,999999)])⟩
   · have hk:=hkk (by omega);obtain⟨ky,hky⟩:∃ky,ky=tk3.getD (i:Int).toNat []:=⟨_,rfl⟩;obtain⟨cc,hcc⟩:∃cc:Int,cc=c:=⟨_,rfl⟩;rw[←hky]at hk
     refine LoopX.rule hT (C:= []) (ι:=Int×List Int×Nat) (fun(d,on,k)=>(cc≤d∧d≤cc+k∧k≤5)∧on.length≤k)
      (fun(d,on,k)=>mkSt [(0,.ptr 1000000 0),(3,.buf 3),(6,.ptr 6 0),(10,.d (strs tk3)),(11,.d (.int .i64 3)),(12,.d (.int .i64 i)),(25,.d (ints [1,2,3,4,6])),(26,.d (.int .i64 5)),(27,.d (.int .i64 k))] [(1000000,strm n L d),(3,seqB 252 4 btF bt0 l),(999999,.bunch 3 1 (bL l)),(6,.cells 252 [.d (.str ky),.d (.int .i64 u1),.buf 7,.d (.bool w2)]),(7,seqB 3 1 iF 0 on)])
      (fun(_,_,k)=>5 - k) (cc,[],0) ⟨⟨by simp,by simp,by simp⟩,by simp⟩ ?_ ?_
     · subst hcc hky;refine(Entails.nilCell 6 7 3 1 2 (rowF iF 0 []) rfl rfl rfl (by decide) rfl).trans (Entails.mk' [(1000000,1000000),(3,3),(999999,999999),(6,6),(7,7)] rfl rfl ⟨lr,lr,lr,lr,lr,lr,SV.le_lit rfl rfl,lr,lr,trivial⟩ ⟨rr,rr,rr,?_,rr,trivial⟩);conv=>whnf
       refine⟨rfl,fun _ _ _ _ h=> ?_⟩;exact h
     rintro⟨d,on,k⟩ ⟨⟨q1,q2,q3⟩,q4⟩;have q1:cc≤d:=q1;have q2:d≤cc+k:=q2;have q3:k≤5:=q3;have q4:on.length≤k:=q4;conv=>whnf
     repeat' (first|(refine CallX.of (s84 n L hL _ ?_ ?_ 2 ?_) [(1000000,1000000)] rfl ⟨lr,lr,trivial⟩ ⟨rr,trivial⟩ rfl rfl ?_;rotate_right;rintro x rout ⟨⟨w3,rfl⟩,⟨c,c1,c2,rfl⟩⟩;refine⟨rfl,?_⟩;conv=>whnf)|(intro v;conv=>whnf)|((first|(refine br_intro ?_ ?_<;>intro hb<;>try simp only[brs]at hb)|refine rAx hT 18 oJTmC138_18 ?_|omega|refine sAx ?_|decide|assumption)<;>conv=>whnf))
     all_goals try(exact h0)
     all_goals try omega
     · exact⟨(c,on++ [([1,2,3,4,6]:List Int).getD (k:Int).toNat 0],k+1),⟨⟨by omega,by show _≤cc+((k+1:Nat):Int);omega,by omega⟩,by show(on++_).length≤k+1;rw[List.length_append];simp;omega⟩,by show 5 - (k+1)<5 - k;omega,
        Entails.mk' [(1000000,1000000),(3,3),(999999,999999),(6,6),(7,37)] rfl rfl ⟨lr,lr,lr,lr,lr,lr,lr,lr,lr,trivial⟩ ⟨rr,rr,rr,rr,Res.le_snocF rfl,trivial⟩⟩
     · exact⟨(c,on,k+1),⟨⟨by omega,by show _≤cc+((k+1:Nat):Int);omega,by omega⟩,by show on.length≤k+1;omega⟩,by show 5 - (k+1)<5 - k;omega,(by exact eAx [(1000000,1000000),(3,3),(999999,999999),(6,6),(7,7)])⟩
     · exact⟨(d,l++ [⟨ky,u1,v,on,w2⟩],i+1),⟨⟨by omega,by show _≤a+10*((i+1:Nat):Int);omega,by omega⟩,allK_snoc p4 (by omega) ⟨hk,by show on.length≤5;omega⟩⟩,by show 3 - (i+1)<3 - i;omega,
        Entails.mk' [(1000000,1000000),(3,43),(999999,999999)] rfl rfl ⟨lr,lr,lr,lr,lr,trivial⟩ ⟨rr,Res.le_snocF rfl,(by rw[bL_snoc];exact rr),trivial⟩⟩
 · have hi3:i=3:=by omega
   subst hi3;have hsp:=fun(j:Int) (h1:0≤j) (h2:j<l.length)=>bL_split l (j:=j.toNat) (by omega)
   have hon:∀j:Int,0≤j→j<l.length→(l.getD j.toNat bt0).on.length≤5:=fun j h1 h2=>(p4.2 _ (getD_mem (by omega))).2
   have hB:∀t ∈ l,∃p ∈ bL l,p.1=t.v∧p.2.1=t.on.length∧∀i,i<p.2.1→p.2.2 i=rowF iF 0 t.on i:=fun t ht=>⟨_,bL_mem ht,rfl,rfl,fun _ _=>rfl⟩
   conv=>whnf
   repeat' (first|(refine CallX.of (s84 n L hL _ ?_ ?_ 15 ?_) [(1000000,1000000)] rfl ⟨lr,lr,trivial⟩ ⟨rr,trivial⟩ rfl rfl ?_;rotate_right;rintro x rout ⟨⟨w,rfl⟩,⟨c,c1,c2,rfl⟩⟩;refine⟨rfl,?_⟩;conv=>whnf)|(refine CallX.of (s86 n L hL _ ?_ ?_ 3 ?_) [(1000000,1000000)] rfl ⟨lr,lr,trivial⟩ ⟨rr,trivial⟩ rfl rfl ?_;rotate_right;rintro x rout ⟨⟨m,hm1,hm2,hm3,rfl⟩,⟨c,c1,c2,rfl⟩⟩;refine⟨rfl,?_⟩;conv=>whnf)|(refine CallX.of (s86 n L hL _ ?_ ?_ _ ?_) [(1000000,1000000)] rfl ⟨lr,lr,trivial⟩ ⟨rr,trivial⟩ rfl rfl ?_;rotate_right;rintro x rout ⟨⟨j,hj1,hj2,hj3,rfl⟩,⟨c,c1,c2,rfl⟩⟩;refine⟨rfl,?_⟩;conv=>whnf)|(refine CallX.of (s15 n L hL _ ?_ ?_ [[],[99,105,116,121],[65]] (by simp) (by simp)) [(1000000,1000000)] rfl ⟨lr,SV.le_lit rfl rfl,trivial⟩ ⟨rr,trivial⟩ rfl rfl ?_;rotate_right;rintro x rout ⟨⟨v1,hv1,rfl⟩,⟨c,c1,c2,rfl⟩⟩;refine⟨rfl,?_⟩;conv=>whnf)|(refine CallX.of (s104 n L hL _ ?_ ?_ 0 1000 ?_ ?_ ?_) [(1000000,1000000)] rfl ⟨lr,lr,lr,trivial⟩ ⟨rr,trivial⟩ rfl rfl ?_;rotate_right;rintro x rout ⟨⟨o1,ho1,ho2,rfl⟩,⟨c,c1,c2,rfl⟩⟩;refine⟨rfl,?_⟩;conv=>whnf)|(refine CallX.of (s33 n L hL _ ?_ ?_ [0,5,6,7,1] ?_ ?_) [(1000000,1000000)] rfl ⟨lr,SV.le_lit rfl rfl,trivial⟩ ⟨rr,trivial⟩ rfl rfl ?_;rotate_right;rintro x rout ⟨⟨u1,hu1,rfl⟩,⟨c,c1,c2,rfl⟩⟩;refine⟨rfl,?_⟩;conv=>whnf)|((first|(obtain⟨A,B,hAB,hset⟩:=hsp j hj1 (hj2 (by omega));refine⟨A,_,_,B,hAB,?_⟩)|(refine And.intro (by have:=hon j hj1 (hj2 (by omega));show((l.getD j.toNat bt0).on.length+1)*8≤140737488355328;omega) ?_))<;>conv=>whnf)|(intro v';conv=>whnf)|((first|(refine br_intro ?_ ?_<;>intro hb<;>try simp only[brs]at hb)|refine rAx hT 18 oJTmC138_18 ?_|omega|refine sAx ?_|decide|assumption)<;>conv=>whnf))
   all_goals try(exact h0)
   all_goals try omega
   · have hw:v1.length≤8:=mem_len hv1 rfl;refine .ent _ _ (tax_fro (q:=3) rfl rfl (updL l j.toNat bt0 fun y=>{y with key:=v1}) (by simp) (fun i hi=>rows_updG (f:=btF) (d:=bt0) (l:=l) (j:=j.toNat) (off:=0) (ds:= [.str v1]) (fun _ _=>rfl) (fun y:BTx=>{y with key:=v1}) (fun _=>rfl) i (by simpa using hi)) (fun t ht=> ?_)) (.freeze _ 3 252 4 _ _ rfl (.weak _ ?_))
     · rcases List.mem_or_eq_of_mem_set ht with q|rfl
       · exact hB t q
       · exact hB (l.getD j.toNat bt0) (getD_mem (by omega))
     conv=>whnf
     exact⟨.d (taxs ((updL l j.toNat bt0 fun y=>{y with key:=v1}).map bT)),[(1000000,strm n L _)],SV.le_ro (by simp) (fun _ _=>rfl),⟨⟨_,taxM_map (by simpa using p4.1) (fun t ht=>by
      rcases List.mem_or_eq_of_mem_set ht with q|rfl
      · exact⟨(p4.2 t q).1,Nat.le_trans (p4.2 t q).2 (by decide)⟩
      · exact⟨hw,Nat.le_trans (p4.2 _ (getD_mem (by omega))).2 (by decide)⟩),rfl⟩,_,by omega,by omega,rfl⟩,rr,trivial⟩
   · refine .ent _ _ (tax_fro (q:=3) rfl rfl (updL l j.toNat bt0 fun y=>{y with per:=o1}) (by simp) (fun i hi=>rows_updG (f:=btF) (d:=bt0) (l:=l) (j:=j.toNat) (off:=1) (ds:= [.int .i64 o1]) (fun _ _=>rfl) (fun y:BTx=>{y with per:=o1}) (fun _=>rfl) i (by simpa using hi)) (fun t ht=> ?_)) (.freeze _ 3 252 4 _ _ rfl (.weak _ ?_))
     · rcases List.mem_or_eq_of_mem_set ht with q|rfl
       · exact hB t q
       · exact hB (l.getD j.toNat bt0) (getD_mem (by omega))
     conv=>whnf
     exact⟨.d (taxs ((updL l j.toNat bt0 fun y=>{y with per:=o1}).map bT)),[(1000000,strm n L _)],SV.le_ro (by simp) (fun _ _=>rfl),⟨⟨_,taxM_map (by simpa using p4.1) (fun t ht=>by
      rcases List.mem_or_eq_of_mem_set ht with q|rfl
      · exact⟨(p4.2 t q).1,Nat.le_trans (p4.2 t q).2 (by decide)⟩
      · exact⟨(p4.2 _ (getD_mem (by omega))).1,Nat.le_trans (p4.2 _ (getD_mem (by omega))).2 (by decide)⟩),rfl⟩,_,by omega,by omega,rfl⟩,rr,trivial⟩
   · have hon:=hon j hj1 (hj2 (by omega));refine .ent _ _ (tax_fro (q:=3) rfl rfl (updL l j.toNat bt0 fun y=>{y with v:=v',on:=y.on++ [u1]}) (by simp) (fun i hi=>rows_updG (f:=btF) (d:=bt0) (l:=l) (j:=j.toNat) (off:=2) (ds:= [.opq v']) (fun _ _=>rfl) (fun y:BTx=>{y with v:=v',on:=y.on++ [u1]}) (fun _=>rfl) i (by simpa using hi)) (fun t ht=> ?_)) (.freeze _ 3 252 4 _ _ rfl (.weak _ ?_))
     · rcases hset _ t ht with rfl|q
       · exact⟨_,List.mem_cons_self,rfl,by simp,fun i hi=>rows_snocF (f:=iF) (d:=0) (l:=(l.getD j.toNat bt0).on) (x:=u1) (h:=fun i=> [[DV.int .i64 u1]].getD i []) rfl i hi⟩
       · exact⟨_,List.mem_cons_of_mem _ q,rfl,rfl,fun _ _=>rfl⟩
     conv=>whnf
     exact⟨.d (taxs ((updL l j.toNat bt0 fun y=>{y with v:=v',on:=y.on++ [u1]}).map bT)),[(1000000,strm n L _)],SV.le_ro (by simp) (fun _ _=>rfl),⟨⟨_,taxM_map (by simpa using p4.1) (fun t ht=>by
      rcases List.mem_or_eq_of_mem_set ht with q|rfl
      · exact⟨(p4.2 t q).1,Nat.le_trans (p4.2 t q).2 (by decide)⟩
      · exact⟨(p4.2 _ (getD_mem (by omega))).1,by show(_++ [u1]).length≤8;rw[List.length_append,List.length_singleton];omega⟩),rfl⟩,_,by omega,by omega,rfl⟩,rr,trivial⟩
   all_goals
    refine .ent _ _ (tax_fro (q:=3) rfl rfl l rfl (fun _ _=>rfl) hB) (.freeze _ 3 252 4 _ _ rfl (.weak _ ?_));conv=>whnf
    exact⟨.d (taxs (l.map bT)),[(1000000,strm n L _)],SV.le_ro (by simp) (fun _ _=>rfl),⟨⟨_,taxM_map p4.1 (fun t q=>⟨(p4.2 t q).1,Nat.le_trans (p4.2 t q).2 (by decide)⟩),rfl⟩,_,by omega,by omega,rfl⟩,rr,trivial⟩
def dea (d:Dea):SV:=.agg ((deaF d).map .d)
def deaS (d:Dea):Prop:=(0≤d.km∧d.km≤30)∧(0≤d.eig∧d.eig≤1000)∧0≤d.dy∧d.dy≤9000
theorem deaS_of {a b c e u2 u3 u6:Int}(h2:u2 ∈ ([0,2,30]:List Int))(h3:u3 ∈ ([0,300,1000]:List Int))(h6:u6 ∈ ([0,4000,5000,9000]:List Int)):deaS ⟨a,u2,u3,b,c,u6,e⟩:=by
 simp only[List.mem_cons,List.not_mem_nil,or_false]at h2 h3 h6;refine⟨?_,?_,?_⟩<;>(dsimp only;omega)
set_option maxHeartbeats 4000000 in
theorem yDeal (n:Nat)(L:Nat→Int)(hL:Rok n L)(a:Int)(h0:0≤a)(ha:a≤2^37):
 FSpec Tryz.prog 77 [.ptr 1000000 0] [(1000000,strm n L a)] (fun y r=>(∃d:Dea,deaS d∧y=dea d)∧Moved n L a 20 r):=by
 refine spec_of hT (C:= []) Tryz.func77 rfl Tryz.call77 rfl rfl rfl ?_;conv=>whnf
 repeat' (first|(refine CallX.of (s33 n L hL _ ?_ ?_ [0,100,200,10000] ?_ ?_) [(1000000,1000000)] rfl ⟨lr,SV.le_lit rfl rfl,trivial⟩ ⟨rr,trivial⟩ rfl rfl ?_;rotate_right;rintro x rout ⟨⟨u1,hu1,rfl⟩,⟨c,c1,c2,rfl⟩⟩;refine⟨rfl,?_⟩;conv=>whnf)|(refine CallX.of (s33 n L hL _ ?_ ?_ [0,2,30] ?_ ?_) [(1000000,1000000)] rfl ⟨lr,SV.le_lit rfl rfl,trivial⟩ ⟨rr,trivial⟩ rfl rfl ?_;rotate_right;rintro x rout ⟨⟨u2,hu2,rfl⟩,⟨c,c1,c2,rfl⟩⟩;refine⟨rfl,?_⟩;conv=>whnf)|(refine CallX.of (s33 n L hL _ ?_ ?_ [0,300,1000] ?_ ?_) [(1000000,1000000)] rfl ⟨lr,SV.le_lit rfl rfl,trivial⟩ ⟨rr,trivial⟩ rfl rfl ?_;rotate_right;rintro x rout ⟨⟨u3,hu3,rfl⟩,⟨c,c1,c2,rfl⟩⟩;refine⟨rfl,?_⟩;conv=>whnf)|(refine CallX.of (s33 n L hL _ ?_ ?_ [0,29,30,59,60] ?_ ?_) [(1000000,1000000)] rfl ⟨lr,SV.le_lit rfl rfl,trivial⟩ ⟨rr,trivial⟩ rfl rfl ?_;rotate_right;rintro x rout ⟨⟨u4,hu4,rfl⟩,⟨c,c1,c2,rfl⟩⟩;refine⟨rfl,?_⟩;conv=>whnf)|(refine CallX.of (s33 n L hL _ ?_ ?_ [0,500,1000,2000] ?_ ?_) [(1000000,1000000)] rfl ⟨lr,SV.le_lit rfl rfl,trivial⟩ ⟨rr,trivial⟩ rfl rfl ?_;rotate_right;rintro x rout ⟨⟨u5,hu5,rfl⟩,⟨c,c1,c2,rfl⟩⟩;refine⟨rfl,?_⟩;conv=>whnf)|(refine CallX.of (s33 n L hL _ ?_ ?_ [0,4000,5000,9000] ?_ ?_) [(1000000,1000000)] rfl ⟨lr,SV.le_lit rfl rfl,trivial⟩ ⟨rr,trivial⟩ rfl rfl ?_;rotate_right;rintro x rout ⟨⟨u6,hu6,rfl⟩,⟨c,c1,c2,rfl⟩⟩;refine⟨rfl,?_⟩;conv=>whnf)|(refine CallX.of (s33 n L hL _ ?_ ?_ [0,10000,1000000] ?_ ?_) [(1000000,1000000)] rfl ⟨lr,SV.le_lit rfl rfl,trivial⟩ ⟨rr,trivial⟩ rfl rfl ?_;rotate_right;rintro x rout ⟨⟨u7,hu7,rfl⟩,⟨c,c1,c2,rfl⟩⟩;refine⟨rfl,?_⟩;conv=>whnf)|(refine CallX.of (s84 n L hL _ ?_ ?_ 15 ?_) [(1000000,1000000)] rfl ⟨lr,lr,trivial⟩ ⟨rr,trivial⟩ rfl rfl ?_;rotate_right;rintro x rout ⟨⟨w,rfl⟩,⟨c,c1,c2,rfl⟩⟩;refine⟨rfl,?_⟩;conv=>whnf)|(refine CallX.of (s104 n L hL _ ?_ ?_ 0 10000 ?_ ?_ ?_) [(1000000,1000000)] rfl ⟨lr,lr,lr,trivial⟩ ⟨rr,trivial⟩ rfl rfl ?_;rotate_right;rintro x rout ⟨⟨o1,ho1,ho2,rfl⟩,⟨c,c1,c2,rfl⟩⟩;refine⟨rfl,?_⟩;conv=>whnf)|(refine CallX.of (s104 n L hL _ ?_ ?_ 0 1440 ?_ ?_ ?_) [(1000000,1000000)] rfl ⟨lr,lr,lr,trivial⟩ ⟨rr,trivial⟩ rfl rfl ?_;rotate_right;rintro x rout ⟨⟨o2,ho3,ho4,rfl⟩,⟨c,c1,c2,rfl⟩⟩;refine⟨rfl,?_⟩;conv=>whnf)|(refine CallX.of (s104 n L hL _ ?_ ?_ 0 1000000 ?_ ?_ ?_) [(1000000,1000000)] rfl ⟨lr,lr,lr,trivial⟩ ⟨rr,trivial⟩ rfl rfl ?_;rotate_right;rintro x rout ⟨⟨o3,ho5,ho6,rfl⟩,⟨c,c1,c2,rfl⟩⟩;refine⟨rfl,?_⟩;conv=>whnf)|(refine CallX.of (s104 n L hL _ ?_ ?_ 0 1000000 ?_ ?_ ?_) [(1000000,1000000)] rfl ⟨lr,lr,lr,trivial⟩ ⟨rr,trivial⟩ rfl rfl ?_;rotate_right;rintro x rout ⟨⟨o4,ho7,ho8,rfl⟩,⟨c,c1,c2,rfl⟩⟩;refine⟨rfl,?_⟩;conv=>whnf)|((first|(refine br_intro ?_ ?_<;>intro hb<;>try simp only[brs]at hb)|omega|refine sAx ?_|decide|assumption)<;>conv=>whnf))
 all_goals try(exact h0)
 all_goals try omega
 all_goals refine .ret _ ?_
 all_goals conv=>whnf
 · exact⟨[(1000000,strm n L _)],⟨⟨⟨_,_,_,_,_,_,_⟩,deaS_of hu2 hu3 hu6,rfl⟩,_,by omega,by omega,rfl⟩,rr,trivial⟩
 · exact⟨[(1000000,strm n L _)],⟨⟨⟨_,_,_,_,_,_,_⟩,deaS_of hu2 hu3 hu6,rfl⟩,_,by omega,by omega,rfl⟩,rr,trivial⟩
def dea0:Dea:=⟨0,0,0,0,0,0,0⟩
set_option maxHeartbeats 4000000 in
theorem yRDeal (n:Nat)(L:Nat→Int)(hL:Rok n L)(a:Int)(h0:0≤a)(ha:a≤2^36):
 FSpec Tryz.prog 29 [.ptr 1000000 0] [(1000000,strm n L a)] (fun y r=>(∃d:Dea,(deaE d=0∧deaS d)∧y=dea d)∧Moved n L a 160 r):=by
 refine spec_of hT (C:= []) Tryz.func29 rfl Tryz.call29 rfl rfl rfl ?_;conv=>whnf
 refine LoopX.rule hT (C:= []) (ι:=Int×Nat) (fun(b,i)=>a≤b∧b≤a+20*i∧i≤8)
  (fun(b,i)=>mkSt [(0,.ptr 1000000 0),(2,.ptr 2 0),(4,.d (.int .i64 i))] [(1000000,strm n L b),(2,.cells 40 ((deaF dea0).map .d))])
  (fun(_,i)=>8 - i) (a,0) ⟨by simp,by simp,by simp⟩ (by exact eAx [(1000000,1000000),(2,2)]) ?_
 rintro⟨b,i⟩ ⟨p1,p2,p3⟩;have p1:a≤b:=p1;have p2:b≤a+20*i:=p2;have p3:i≤8:=p3;conv=>whnf
 repeat' (first|(refine CallX.of (yDeal n L hL _ ?_ ?_) [(1000000,1000000)] rfl ⟨lr,trivial⟩ ⟨rr,trivial⟩ rfl rfl ?_;rotate_right;rintro x rout ⟨⟨d,hds,rfl⟩,⟨c,c1,c2,rfl⟩⟩;refine⟨rfl,?_⟩;conv=>whnf)|((first|refine CallX.pure (y85 _) ⟨lr,trivial⟩ rfl ?_|(refine br_intro ?_ ?_<;>intro hb<;>try simp only[brs]at hb)|omega|refine sAx ?_|decide|assumption)<;>conv=>whnf))
 all_goals try omega
 · refine .ret _ ?_;conv=>whnf
   exact⟨[(1000000,strm n L _)],⟨⟨d,⟨by simpa using hb,hds⟩,rfl⟩,_,by omega,by omega,rfl⟩,rr,trivial⟩
 · exact⟨(c,i+1),⟨by omega,by show _≤a+20*((i+1:Nat):Int);omega,by omega⟩,by show 8 - (i+1)<8 - i;omega,(by exact eAx [(1000000,1000000),(2,2)])⟩
 · refine .ret _ ?_;conv=>whnf
   exact⟨[(1000000,strm n L _)],⟨⟨dea0,⟨by decide,⟨by decide,by decide⟩,⟨by decide,by decide⟩,by decide,by decide⟩,rfl⟩,_,by omega,by omega,rfl⟩,rr,trivial⟩
structure tarM (t:Tar):Prop where
 rat:allK ratM 10 t.rat
 ext:allK extM 2 t.ext
 fe:allK feM 5 t.fe
 cod:allK codM 3 t.cod
 tax:allK taxM 3 t.tax
theorem tarM.ok {t:Tar}(h:tarM t):tarOk t:=
 ⟨⟨Nat.le_trans h.rat.1 (by decide),fun x hx=>Nat.le_trans (h.rat.2 x hx) (by decide)⟩,⟨Nat.le_trans h.ext.1 (by decide),fun x hx=>Nat.le_trans (h.ext.2 x hx) (by decide)⟩,
   ⟨Nat.le_trans h.fe.1 (by decide),fun x hx=>⟨Nat.le_trans (h.fe.2 x hx).1 (by decide),Nat.le_trans (h.fe.2 x hx).2 (by decide)⟩⟩,
   ⟨Nat.le_trans h.cod.1 (by decide),fun x hx=>⟨Nat.le_trans (h.cod.2 x hx).1 (by decide),Nat.le_trans (h.cod.2 x hx).2 (by decide)⟩⟩,
   ⟨Nat.le_trans h.tax.1 (by decide),fun x hx=>⟨Nat.le_trans (h.tax.2 x hx).1 (by decide),Nat.le_trans (h.tax.2 x hx).2 (by decide)⟩⟩⟩
def tar (t:Tar):SV:=.agg (tarL t)
set_option maxHeartbeats 4000000 in
theorem yTariff (n:Nat)(L:Nat→Int)(hL:Rok n L)(a:Int)(h0:0≤a)(ha:a≤2^34):
 FSpec Tryz.prog 74 [.ptr 1000000 0] [(1000000,strm n L a)] (fun y r=>(∃t:Tar,tarM t∧y=tar t)∧Moved n L a 250 r):=by
 refine spec_of hT (C:= []) Tryz.func74 rfl Tryz.call74 rfl rfl rfl ?_;conv=>whnf
 repeat' (first|(refine CallX.of (yRates n L hL _ ?_ ?_) [(1000000,1000000)] rfl ⟨lr,trivial⟩ ⟨rr,trivial⟩ rfl rfl ?_;rotate_right;rintro x rout ⟨⟨t1,ht1,rfl⟩,⟨c,c1,c2,rfl⟩⟩;refine⟨rfl,?_⟩;conv=>whnf)|(refine CallX.of (yExtras n L hL _ ?_ ?_) [(1000000,1000000)] rfl ⟨lr,trivial⟩ ⟨rr,trivial⟩ rfl rfl ?_;rotate_right;rintro x rout ⟨⟨t2,ht2,rfl⟩,⟨c,c1,c2,rfl⟩⟩;refine⟨rfl,?_⟩;conv=>whnf)|(refine CallX.of (yFees n L hL _ ?_ ?_) [(1000000,1000000)] rfl ⟨lr,trivial⟩ ⟨rr,trivial⟩ rfl rfl ?_;rotate_right;rintro x rout ⟨⟨t3,ht3,rfl⟩,⟨c,c1,c2,rfl⟩⟩;refine⟨rfl,?_⟩;conv=>whnf)|(refine CallX.of (yCodes n L hL _ ?_ ?_) [(1000000,1000000)] rfl ⟨lr,trivial⟩ ⟨rr,trivial⟩ rfl rfl ?_;rotate_right;rintro x rout ⟨⟨t4,ht4,rfl⟩,⟨c,c1,c2,rfl⟩⟩;refine⟨rfl,?_⟩;conv=>whnf)|(refine CallX.of (yTaxes n L hL _ ?_ ?_) [(1000000,1000000)] rfl ⟨lr,trivial⟩ ⟨rr,trivial⟩ rfl rfl ?_;rotate_right;rintro x rout ⟨⟨t5,ht5,rfl⟩,⟨c,c1,c2,rfl⟩⟩;refine⟨rfl,?_⟩;conv=>whnf)|((first|(refine br_intro ?_ ?_<;>intro hb<;>try simp only[brs]at hb)|omega|refine sAx ?_|decide|assumption)<;>conv=>whnf))
 all_goals try omega
 refine .ret _ ?_;conv=>whnf
 exact⟨[(1000000,strm n L _)],⟨⟨⟨t1,t2,t3,t4,t5⟩,⟨ht1,ht2,ht3,ht4,ht5⟩,rfl⟩,_,by omega,by omega,rfl⟩,rr,trivial⟩
theorem hir_parts {h:Hir}(hE:hirE h=0):((isKeyB h.key=true∧isKeyB h.drv=true)∧timE h.frm h.to=0∧1≤h.legs.length∧h.legs.length≤20)∧∀i,i<h.legs.length→legE h i=0:=by
 unfold hirE at hE;split at hE
 · omega
 rename_i a;split at hE
 · omega
 rename_i b;split at hE
 · omega
 rename_i c;split at hE
 · omega
 rename_i d;refine⟨⟨⟨?_,?_⟩,Classical.not_not.1 b,by omega,by omega⟩,fun i hi=>firstAt_all hE i hi⟩
 · cases q:isKeyB h.key with
   |true=>rfl
   |false=>exact absurd (Or.inl q) a
 · cases q:isKeyB h.drv with
   |true=>rfl
   |false=>exact absurd (Or.inr q) a
theorem rdgE_parts {r:Rdg}(h:rdgE r=0):(0≤r.tm∧r.tm≤5761439)∧isKeyB r.st=true∧(0≤r.meter∧r.meter≤999999)∧0≤r.fuel∧r.fuel≤8:=by
 unfold rdgE at h;split at h
 · omega
 rename_i a;split at h
 · omega
 rename_i b;split at h
 · omega
 rename_i c;refine⟨Classical.not_not.1 a,?_,(Classical.not_not.1 c).1,(Classical.not_not.1 c).2⟩
 cases q:isKeyB r.st with
 |true=>rfl
 |false=>exact absurd q b
theorem leg_parts {h:Hir}{i:Nat}(e:legE h i=0):isKeyB (h.legs.getD i lg0).veh=true∧rdgE (h.legs.getD i lg0).out=0∧((h.legs.getD i lg0).inn.tm= -1∧(h.legs.length:Int) - 1≤i∨rdgE (h.legs.getD i lg0).inn=0):=by
 unfold legE at e;split at e
 · omega
 rename_i a;split at e
 · rename_i b;exact absurd e b
 rename_i b;refine⟨?_,Classical.not_not.1 b,?_⟩
 · cases q:isKeyB (h.legs.getD i lg0).veh with
   |true=>rfl
   |false=>exact absurd q a
 · split at e
   · omega
   split at e
   · omega
   split at e
   · omega
   split at e
   · omega
   split at e
   · rename_i c;split at e
     · omega
     split at e
     · omega
     · exact .inl ⟨c,by omega⟩
   · split at e
     · rename_i c d;exact absurd e d
     · rename_i c d;exact .inr (Classical.not_not.1 d)
theorem hir_closed {h:Hir}(hE:hirE h=0)(hc:(lstL h).inn.tm≠-1):∀x ∈ h.legs,isKeyB x.veh=true∧rdgE x.out=0∧rdgE x.inn=0:=by
 intro x hx;obtain⟨i,hi,rfl⟩:=mem_getD (d:=lg0) hx;obtain⟨p1,p2⟩:=hir_parts hE;obtain⟨a,b,c⟩:=leg_parts (p2 i hi);refine⟨a,b,?_⟩;rcases c with⟨c1,c2⟩|c
 · have:i=h.legs.length - 1:=by omega
   subst this;exact absurd c1 hc
 · exact c
def deaR (d:Dea):Prop:=((0≤d.free∧d.free≤10000)∧(0≤d.km∧d.km≤30)∧(0≤d.eig∧d.eig≤1000))∧(0≤d.grc∧0≤d.hr∧d.hr≤1000000)∧0≤d.dy∧d.dy≤9000
theorem deaR_of {d:Dea}(hE:deaE d=0)(h:deaS d):deaR d:=by
 unfold deaE at hE;split at hE
 · rename_i q;obtain⟨h1,h2,h3⟩:=h;exact⟨⟨q.1,h1,h2⟩,⟨q.2.2.2.1.1,q.2.2.2.2.1⟩,h3⟩
 · cases hE
theorem bil_ok {d:Dea}{h:Hir}{L:List Lin}(hd:deaR d)(hE:hirE h=0)(hc:(lstL h).inn.tm≠-1)(hl:L.length≤997)(hq:linsE L=0):linsE (bilO d h L)=0:=by
 obtain⟨⟨d1,d2,d3⟩,⟨d4,d5,d6⟩,d7,d8⟩:=hd;obtain⟨⟨_,hT,hn1,hn2⟩,_⟩:=hir_parts hE;have hcl:=hir_closed hE hc
 have hk:=km_sum (l:=h.legs) fun x hx=>by
  obtain⟨_,b,c⟩:=hcl x hx;have b:=rdgE_parts b;have c:=rdgE_parts c;exact⟨b.2.2.1,c.2.2.1,b.2.2.2,c.2.2.2⟩
 have hlm:lstL h ∈ h.legs:=getD_mem (by omega);have hin:=(rdgE_parts (hcl _ hlm).2.2).1
 have hlat:0≤latN h∧latN h≤5761439:=by
  unfold latN;unfold timE at hT;split at hT<;>omega
 obtain⟨g1,g2⟩:=linsE_iff.1 hq
 have c1: -1000000000≤latV d h∧latV d h≤1000000000:=by
  unfold latV;split
  · omega
  · have b1:=begN_bd hlat.1 (show(0:Int)<60 by omega);have b2:=begN_bd hlat.1 (show(0:Int)<1440 by omega);generalize begN (latN h) 60=u at*;generalize begN (latN h) 1440=v at*;have hv:v≤4002:=by omega
    have e1:0≤d.hr*u:=Int.mul_nonneg d5 b1.1;have e2:0≤d.dy*v:=Int.mul_nonneg d7 b2.1;have e3:d.dy*v≤9000*4002:=Int.mul_le_mul d8 hv b2.1 (by omega);omega
 have c2: -1000000000≤dstV d h∧dstV d h≤1000000000:=by
  unfold dstV;obtain⟨m,hm⟩:∃m,m=max 0 (kmV h.legs - d.free*daysW h.frm h.to):=⟨_,rfl⟩
  have hdw:0≤d.free*daysW h.frm h.to:=Int.mul_nonneg d1.1 (by
   unfold daysW;unfold timE at hT;split at hT
   · omega
   · rw[Int.tdiv_eq_ediv_of_nonneg (by omega)];omega)
  have hm2:0≤m∧m≤19999980:=by rw[hm];omega
  rw[←hm];have e1:0≤d.km*m:=Int.mul_nonneg d2.1 hm2.1;have e3:d.km*m≤30*19999980:=Int.mul_le_mul d2.2 hm2.2 hm2.1 (by omega);omega
 have c3: -1000000000≤d.eig*misV h.legs∧d.eig*misV h.legs≤1000000000:=by
  have hm2:0≤misV h.legs∧misV h.legs≤160:=by omega
  have e1:0≤d.eig*misV h.legs:=Int.mul_nonneg d3.1 hm2.1;have e3:d.eig*misV h.legs≤1000*160:=Int.mul_le_mul d3.2 hm2.2 hm2.1 (by omega);omega
 obtain⟨r1,s1⟩:=addL_R (k:=kLate) (by decide) c1 g2;obtain⟨r2,s2⟩:=addL_R (k:=kDist) (by decide) c2 r1;obtain⟨r3,s3⟩:=addL_R (k:=kFuel) (by decide) c3 r2;exact linsE_iff.2 ⟨by show(addL kFuel _ _).length≤1000;omega,r3⟩
def oJBiC50_1:OL:= [(0,[]),(1,[]),(2,[0,1]),(3,[0,1]),(4,[0,1]),(5,[0,1]),(6,[]),(7,[]),(8,[]),(9,[]),(10,rg 10),(11,rg 10),(12,rg 10),(13,[]),(14,[]),(15,[])]
def oJBiC50_4:OL:= [(0,[]),(1,[0]),(2,[0]),(3,[0,1,2]),(6,rg 4),(7,rg 4),(8,[0,1,2,3,6,7]),(4,[0,1,2,6,7,8]),(5,[0,6,7,8]),(9,[0,1,2,6,7,5]),(10,[0,1,2,5]),(11,[0]),(12,[1,2,6,7,5,10,11]),(13,[])]
theorem q48 (l:List Lin)(hl:l.length≤2^20):FSpec Tryz.prog 48 [.d (lins l)] [] (fun y r=>(y= .d .nilsl∧l= []∧r= [])∨(y= .buf 7∧r= [(7,linB l)])):=by
 refine spec_of hT (C:= [5]) Tryz.func48 rfl Tryz.call48 rfl rfl rfl ?_;conv=>whnf
 rintro b hbn;conv=>whnf
 repeat' (first|((first|(refine br_intro ?_ ?_<;>intro hb<;>try simp only[brs]at hb)|omega|refine sAx ?_|decide|assumption)<;>conv=>whnf))
 · have:l= []:=List.eq_nil_of_length_eq_zero (hbn (by assumption));refine .ret _ ?_;conv=>whnf
   exact⟨_,.inl ⟨rfl,this,rfl⟩,trivial⟩
 · refine .ret _ ?_;conv=>whnf
   refine⟨_,.inr ⟨rfl,rfl⟩,Res.le_buf (by simp) (fun i hi=> ?_),trivial⟩;rw[appGet_ge (by omega)];rfl
abbrev linC (d:Nat):Res:=.cells 56 [.buf d]
theorem q49 (k:List UInt8)(c:Int)(l:List Lin)(hl:l.length≤2^20):FSpec Tryz.prog 49 [.d (.str k),.d (.int .i64 c),.ptr 1000001 0] [(1000001,linC 1000002),(1000002,linB l)] (fun y r=>y= .tup []∧r= [(1000001,linC 50),(50,linB (addL k c l))]):=by
 refine spec_of hT (C:= []) Tryz.func49 rfl Tryz.call49 rfl rfl rfl ?_;conv=>whnf
 repeat' (first|((first|(refine br_intro ?_ ?_<;>intro hb<;>try simp only[brs]at hb)|omega|refine sAx ?_|decide|assumption)<;>conv=>whnf))
 · have e:addL k c l=l++ [⟨6,k,c⟩]:=by unfold addL;rw[if_pos (by simpa using hb)]
   rw[e];refine .ent _ _ (Entails.mk' (ts:= []) (rs:= [(1000001,linC 50),(50,linB (l++ [⟨6,k,c⟩]))]) [(1000001,1000001),(50,12)] rfl rfl trivial ⟨rr,Res.le_snocF rfl,trivial⟩) (.ret _ ?_);conv=>whnf
   exact⟨_,⟨rfl,rfl⟩,rr,rr,trivial⟩
 · have e:addL k c l=l:=by unfold addL;rw[if_neg (by simpa using hb)]
   rw[e];refine .ent _ _ (Entails.mk' (ts:= []) (rs:= [(1000001,linC 50),(50,linB l)]) [(1000001,1000001),(50,1000002)] rfl rfl trivial ⟨rr,rr,trivial⟩) (.ret _ ?_);conv=>whnf
   exact⟨_,⟨rfl,rfl⟩,rr,rr,trivial⟩
theorem q49n (k:List UInt8)(c:Int):FSpec Tryz.prog 49 [.d (.str k),.d (.int .i64 c),.ptr 1000001 0] [(1000001,.cells 56 [.d .nilsl])] (fun y r=>y= .tup []∧r= [(1000001,linC 50),(50,linB (addL k c []))]):=
 FSpec.nilCell (d:=1000002) (e:=74) (k:=3) (j:=0) (g:=rowF liF li0 []) (q49 k c [] (by simp)) (by decide) rfl rfl rfl
theorem q109 (n L:Int)(hn:0≤n∧n≤2^40)(hL:1≤L∧L≤2^20):FSpec Tryz.prog 109 [.d (.int .i64 n),.d (.int .i64 L)] [] (fun y r=>y= .d (.int .i64 (begN n L))∧r= []):=by
 have hq:inI64 ((n+L - 1).tdiv L):=by
  unfold inI64;rw[Int.tdiv_eq_ediv_of_nonneg (by omega)];have h1:=Int.ediv_nonneg (show 0≤n+L - 1 by omega) (show 0≤L by omega);have h2:=Int.ediv_le_self L (show 0≤n+L - 1 by omega);omega
 refine spec_of hT (C:= []) Tryz.func109 rfl Tryz.call109 rfl rfl rfl ?_;conv=>whnf
 repeat' (first|((first|refine And.intro hq ?_|(refine br_intro ?_ ?_<;>intro hb<;>try simp only[brs]at hb)|omega|refine sAx ?_|decide|assumption)<;>conv=>whnf))
 refine .ret _ ?_;conv=>whnf
 refine⟨[],⟨?_,rfl⟩,trivial⟩;conv=>lhs;whnf
 rfl
theorem lst_eq (h:Hir):(h.legs.getD ((h.legs.length:Int) - 1).toNat lg0)=lstL h:=by
 have e:((h.legs.length:Int) - 1).toNat=h.legs.length - 1:=by omega
 rw[e];rfl
structure hirP (h:Hir):Prop where
 n1:1≤h.legs.length
 n2:h.legs.length≤20
 tm:0≤h.frm∧h.frm<h.to∧h.to≤5761439
 lst:0≤(lstL h).inn.tm∧(lstL h).inn.tm≤5761439
 lg:∀x ∈ h.legs,(0≤x.out.meter∧x.out.meter≤999999)∧(0≤x.inn.meter∧x.inn.meter≤999999)∧(0≤x.out.fuel∧x.out.fuel≤8)∧0≤x.inn.fuel∧x.inn.fuel≤8
theorem hirP_of {h:Hir}(hE:hirE h=0)(hc:(lstL h).inn.tm≠-1):hirP h:=by
 obtain⟨⟨_,hT,hn1,hn2⟩,_⟩:=hir_parts hE;have hcl:=hir_closed hE hc;have hlm:lstL h ∈ h.legs:=getD_mem (by omega);refine⟨hn1,hn2,by unfold timE at hT;split at hT<;>omega,(rdgE_parts (hcl _ hlm).2.2).1,fun x hx=> ?_⟩;obtain⟨_,b,c⟩:=hcl x hx;have b:=rdgE_parts b;have c:=rdgE_parts c;exact⟨b.2.2.1,c.2.2.1,b.2.2.2,c.2.2.2⟩
set_option maxHeartbeats 4000000 in
theorem q50 (d:Dea)(hd:deaR d)(h:Hir)(hp:hirP h):FSpec Tryz.prog 50 [.agg ((deaF d).map .d),.agg ((hiF h).map .d)] [] (fun y r=>y= .tup [.d (.int .i64 (latN h)),.d (.int .i64 (latV d h))]∧r= []):=by
 obtain⟨n1,n2,tm,lst,_⟩:=hp;obtain⟨_,⟨d4,d5,d6⟩,d7,d8⟩:=hd;have hl:=lst_eq h;have hlat:0≤latN h∧latN h≤5761439:=by unfold latN;omega
 have b1:=begN_bd hlat.1 (show(0:Int)<60 by omega);have b2:=begN_bd hlat.1 (show(0:Int)<1440 by omega);have e1:0≤d.hr*begN (latN h) 60:=Int.mul_nonneg d5 b1.1;have e1b:d.hr*begN (latN h) 60≤1000000*5761498:=Int.mul_le_mul d6 (by omega) b1.1 (by omega);have e2:0≤d.dy*begN (latN h) 1440:=Int.mul_nonneg d7 b2.1;have e2b:d.dy*begN (latN h) 1440≤9000*5762878:=Int.mul_le_mul d8 (by omega) b2.1 (by omega);have lst':0≤(h.legs.getD ((h.legs.length:Int) - 1).toNat lg0).inn.tm∧(h.legs.getD ((h.legs.length:Int) - 1).toNat lg0).inn.tm≤5761439:=by rw[hl];exact lst
 have hn':latN h=max 0 ((h.legs.getD ((h.legs.length:Int) - 1).toNat lg0).inn.tm - h.to):=by unfold latN;rw[hl]
 unfold latV;rw[hn']at hlat b1 b2 e1 e1b e2 e2b ⊢;have c60:=q109 (max 0 ((h.legs.getD ((h.legs.length:Int) - 1).toNat lg0).inn.tm - h.to)) 60 (by omega) (by omega);have c1440:=q109 (max 0 ((h.legs.getD ((h.legs.length:Int) - 1).toNat lg0).inn.tm - h.to)) 1440 (by omega) (by omega)
 by_cases q:max 0 ((h.legs.getD ((h.legs.length:Int) - 1).toNat lg0).inn.tm - h.to)≤d.grc
 · rw[if_pos q];refine spec_of hT (C:= []) Tryz.func50 rfl Tryz.call50 rfl rfl rfl ?_;conv=>whnf
   repeat' (first|((first|(refine br_intro ?_ ?_<;>intro hb<;>try simp only[brs]at hb)|refine rAx hT 1 oJBiC50_1 ?_|refine rAx hT 4 oJBiC50_4 ?_|omega|refine sAx ?_|decide|assumption)<;>conv=>whnf))
   all_goals try(exfalso;exact absurd q (Int.not_le.2 hb))
   refine .ret _ ?_;conv=>whnf
   refine⟨[],⟨congrArg SV.tup ?_,rfl⟩,trivial⟩;repeat' (refine cons_eq ?_ ?_)
   all_goals (conv=>lhs;whnf)
   all_goals try(with_reducible rfl)
   all_goals rfl
 · rw[if_neg q];refine spec_of hT (C:= []) Tryz.func50 rfl Tryz.call50 rfl rfl rfl ?_;conv=>whnf
   repeat' (first|(refine CallX.exact (c60) rfl rfl ?_;rotate_right;conv=>whnf)|(refine CallX.exact (c1440) rfl rfl ?_;rotate_right;conv=>whnf)|((first|(refine br_intro ?_ ?_<;>intro hb<;>try simp only[brs]at hb)|refine rAx hT 1 oJBiC50_1 ?_|refine rAx hT 4 oJBiC50_4 ?_|omega|refine sAx ?_|decide|assumption)<;>conv=>whnf))
   all_goals try(exfalso;exact q hb)
   refine .ret _ ?_;conv=>whnf
   refine⟨[],⟨congrArg SV.tup ?_,rfl⟩,trivial⟩;repeat' (refine cons_eq ?_ ?_)
   all_goals (conv=>lhs;whnf)
   all_goals try(with_reducible rfl)
   all_goals rfl
set_option maxHeartbeats 4000000 in
theorem q51 (h:Hir)(hp:hirP h):FSpec Tryz.prog 51 [.agg ((hiF h).map .d)] [] (fun y r=>y= .d (.int .i64 (kmV h.legs))∧r= []):=by
 obtain⟨n1,n2,_,_,lg⟩:=hp
 have hsm:∀i,i≤h.legs.length→0≤kmV (h.legs.take i)∧kmV (h.legs.take i)≤999999*20:=fun i hi=>by
  have:=(km_sum (l:=h.legs.take i) fun x hx=>lg x (List.mem_of_mem_take hx)).1;rw[List.length_take,Nat.min_eq_left hi]at this;omega
 refine spec_of hT (C:= []) Tryz.func51 rfl Tryz.call51 rfl rfl rfl ?_;conv=>whnf
 repeat' (first|((first|(refine br_intro ?_ ?_<;>intro hb<;>try simp only[brs]at hb)|omega|refine sAx ?_|decide|assumption)<;>conv=>whnf))
 refine LoopX.rule hT (C:= []) (ι:=Nat) (fun i=>i≤h.legs.length) (fun i=>mkSt [(3,.d (.int .i64 (kmV (h.legs.take i)))),(8,.d (legs h.legs)),(9,.d (.int .i64 h.legs.length)),(10,.d (.int .i64 i))] []) (fun i=>h.legs.length - i) 0 (Nat.zero_le _) (by exact eAx []) ?_;rintro i p1;have e1:(i:Int).toNat=i:=Int.toNat_natCast i;have hs0:=hsm i p1;rcases Nat.lt_or_ge i h.legs.length with hi|hi
 · have hx:=lg _ (getD_mem (x:=lg0) (show(i:Int).toNat<h.legs.length by omega))
   have hk:kmV (h.legs.take (i+1))=kmV (h.legs.take i)+kmL (h.legs.getD (i:Int).toNat lg0):=by
    rw[take_snocD (d:=lg0) hi,e1];simp[kmV]
   conv=>whnf
   repeat' (first|((first|(refine br_intro ?_ ?_<;>intro hb<;>try simp only[brs]at hb)|omega|refine sAx ?_|decide|assumption)<;>conv=>whnf))
   all_goals try(exfalso;omega)
   all_goals
    refine⟨i+1,by omega,by omega,Entails.mk' [] rfl rfl ⟨SV.le_int ?_,lr,lr,SV.le_int (by omega),trivial⟩ trivial⟩;rw[hk];unfold kmL;simp only[e1]at*;split<;>omega
 · have:i=h.legs.length:=by omega
   subst this;rw[List.take_length]at*;conv=>whnf
   repeat' (first|((first|(refine br_intro ?_ ?_<;>intro hb<;>try simp only[brs]at hb)|omega|refine sAx ?_|decide|assumption)<;>conv=>whnf))
   all_goals try(exfalso;omega)
   refine .ret _ ?_;conv=>whnf
   refine⟨[],⟨?_,rfl⟩,trivial⟩;conv=>lhs;whnf
set_option maxHeartbeats 4000000 in
theorem q53 (h:Hir)(hp:hirP h):FSpec Tryz.prog 53 [.agg ((hiF h).map .d)] [] (fun y r=>y= .d (.int .i64 (misV h.legs))∧r= []):=by
 obtain⟨n1,n2,_,_,lg⟩:=hp
 have hsm:∀i,i≤h.legs.length→0≤misV (h.legs.take i)∧misV (h.legs.take i)≤160:=fun i hi=>by
  have:=(km_sum (l:=h.legs.take i) fun x hx=>lg x (List.mem_of_mem_take hx)).2;rw[List.length_take,Nat.min_eq_left hi]at this;omega
 refine spec_of hT (C:= []) Tryz.func53 rfl Tryz.call53 rfl rfl rfl ?_;conv=>whnf
 repeat' (first|((first|(refine br_intro ?_ ?_<;>intro hb<;>try simp only[brs]at hb)|omega|refine sAx ?_|decide|assumption)<;>conv=>whnf))
 refine LoopX.rule hT (C:= []) (ι:=Nat) (fun i=>i≤h.legs.length) (fun i=>mkSt [(3,.d (.int .i64 (misV (h.legs.take i)))),(7,.d (legs h.legs)),(8,.d (.int .i64 h.legs.length)),(9,.d (.int .i64 i))] []) (fun i=>h.legs.length - i) 0 (Nat.zero_le _) (by exact eAx []) ?_;rintro i p1;have e1:(i:Int).toNat=i:=Int.toNat_natCast i;have hs0:=hsm i p1;rcases Nat.lt_or_ge i h.legs.length with hi|hi
 · have hx:=lg _ (getD_mem (x:=lg0) (show(i:Int).toNat<h.legs.length by omega))
   have hk:misV (h.legs.take (i+1))=misV (h.legs.take i)+misL (h.legs.getD (i:Int).toNat lg0):=by
    rw[take_snocD (d:=lg0) hi,e1];simp[misV]
   have hmx:inI64 (misV (List.take i h.legs)+bif true then max 0 ((h.legs.getD (i:Int).toNat lg0).out.fuel - (h.legs.getD (i:Int).toNat lg0).inn.fuel)else min 0 ((h.legs.getD (i:Int).toNat lg0).out.fuel - (h.legs.getD (i:Int).toNat lg0).inn.fuel)):=by
    show inI64 (_+max 0 _);unfold inI64;omega
   conv=>whnf
   repeat' (first|((first|refine And.intro hmx ?_|(refine br_intro ?_ ?_<;>intro hb<;>try simp only[brs]at hb)|omega|refine sAx ?_|decide|assumption)<;>conv=>whnf))
   all_goals try(exfalso;omega)
   all_goals
    refine⟨i+1,by omega,by omega,Entails.mk' [] rfl rfl ⟨SV.le_int ?_,lr,lr,SV.le_int (by omega),trivial⟩ trivial⟩;rw[hk];rfl
 · have:i=h.legs.length:=by omega
   subst this;rw[List.take_length]at*;conv=>whnf
   repeat' (first|((first|(refine br_intro ?_ ?_<;>intro hb<;>try simp only[brs]at hb)|omega|refine sAx ?_|decide|assumption)<;>conv=>whnf))
   all_goals try(exfalso;omega)
   refine .ret _ ?_;conv=>whnf
   refine⟨[],⟨?_,rfl⟩,trivial⟩;conv=>lhs;whnf
end Go.Proofs.YtkokpbpililcdaaGreatDoor
