/- TopHousesTell is proved: for every input the law returns true, and its argument reads afterwards as it read before. Conditions: those of the given row alone. -/
import Derived.Test.YtkokpbpililcdaaGreatDoorThConQui
import Derived.Test.YtkokpbpililcdaaGreatDoorThConQua
import Derived.Test.YtkokpbpililcdaaGreatDoorThConOne
import Derived.Test.YtkokpbpililcdaaGreatDoorThConTri
import Derived.Test.YtkokpbpililcdaaGreatDoorThConTwo
set_option linter.unusedVariables false
set_option linter.unusedSimpArgs false
set_option maxRecDepth 20000
namespace Go.Proofs.YtkokpbpililcdaaGreatDoor
open Go Go.Eng
def AW:OL:= [(0,[]),(2,[0]),(6,[0,2]),(1,[2,6]),(3,[6]),(4,[6]),(5,[6]),(7,[]),(8,[]),(9,[]),(10,[])]
theorem yb {s:List UInt8}(h:aE s=true):s.length≤40:=by
 unfold aE at h;simp only[Bool.and_eq_true,decide_eq_true_eq]at h;exact h.2
def OQ (d:qu):List DV:= [.int .i64 d.kind,.int .i64 d.days,.int .i64 d.cents]
abbrev pcs (l:List qu):DV:=dC 3 OQ eL l
theorem OI (l:List fg)(hl:sX l)(hE:cR l=0)(c:List UInt8)(hc:aE c=true)(hcl:c.length≤2^40)(a b:Int)(hTm:gX a b=0):
 ai Tryz.prog 161 [.d (fG l),.d (.str c),.agg [.d (.int .i64 a),.d (.int .i64 b)]] [] (fun y r=>y= .d (.int .i64 0)∧r= []):=by
 have h1:=H9 l hl;have h2:=Kp a b;have h3:=gp [0,0,0] (by simp);have hk:=iR c hcl;rw[hE]at h1;rw[hTm]at h2;rw[hc]at hk;refine ae hT (C:= []) Tryz.func161 rfl Tryz.call161 rfl rfl rfl ?_;conv=>whnf
 repeat' (first|(refine ac (h1) rfl rfl ?_;rotate_right;conv=>whnf)|(refine ac (h2) rfl rfl ?_;rotate_right;conv=>whnf)|(refine ac (hk) rfl rfl ?_;rotate_right;conv=>whnf)|(refine ac (fC _ _) rfl rfl ?_;rotate_right;conv=>whnf)|((first|refine aw h3 ⟨aj (by rfl) (by rfl),trivial⟩ rfl ?_|(refine aa ?_ ?_<;>intro hb<;>try simp only[az]at hb)|refine aq hT 1 AW ?_|omega|refine aA ?_|decide|assumption)<;>conv=>whnf))
 refine .ret _ ?_;conv=>whnf
 refine⟨[],⟨?_,rfl⟩,trivial⟩;conv=>lhs;whnf
 rfl
theorem qN {l:List fg}(h:cR l=0):l.length≤200∧∀x ∈ l,(0≤x.frm∧x.frm<x.to∧x.to≤4001)∧nums x:=by
 unfold cR at h;split at h
 · cases h
 · refine⟨by omega,fun x hx=> ?_⟩;obtain⟨j,hj,rfl⟩:=a8 (d:=aV) hx;have:=bG h j hj;unfold ll at this
   dsimp only at this
   split at this
   · cases this
   · split at this
     · cases this
     · rename_i c;have c:=Classical.not_not.1 c;exact⟨⟨c.1,c.2.1,c.2.2.1⟩,c.2.2.2⟩
theorem Dk {l:List fg}(h:cR l=0)(c:List UInt8){a b:Int}(hTm:gX a b=0):qR (ff l c a b):=by
 obtain⟨r1,r2⟩:=qN h;have hd:(0≤a∧a<b∧b≤5761439)∧b - a≤172800:=by unfold gX at hTm;split at hTm<;>omega
 have hn:da a b=(b - a+1440 - 1)/1440:=by unfold da;rw[Int.tdiv_eq_ediv_of_nonneg (by omega)]
 have hsl:(ff l c a b).se.length=(da a b).toNat:=by simp[ff,ju]
 refine⟨by rw[hsl];omega,hd.1,by rw[hsl];show a+_<b;omega,fun x hx=>(r2 x hx).2,fun s hs=> ?_⟩;simp only[ff,ju,List.mem_map]at hs;obtain⟨i,_,rfl⟩:=hs;have:=eP (p:=fun j=>(l.getD j aV).cls==c&&(decide ((l.getD j aV).frm≤(dH a i).tdiv 1440)&&decide ((dH a i).tdiv 1440≤(l.getD j aV).to - 1))) (n:=l.length);exact⟨this.1,this.2.1⟩
set_option maxHeartbeats 4000000 in
theorem Rv (l:List fg)(hl:sX l)(hE:cR l=0)(c:List UInt8)(hc:aE c=true)(hcl:c.length≤2^40)(a b:Int)(hTm:gX a b=0):
 ai Tryz.prog 99 [.d (fG l),.d (.str c),.agg [.d (.int .i64 a),.d (.int .i64 b)]] []
  (fun y r=>y=(if((ES (ff l c a b)).getD 0 eL).fine=true then .tup [.d (pcs (oT (ES (ff l c a b)) (da a b).toNat 0)),.d (.int .i64 0)]else .tup [.d .nilsl,.d (.int .i64 8)])∧r= []):=by
 obtain⟨r1,r2⟩:=qN hE;have ok:=Dk hE c hTm;have hd:(0≤a∧a<b∧b≤5761439)∧b - a≤172800:=by unfold gX at hTm;split at hTm<;>omega
 have hn:da a b≤120:=by have:=yw (a:=a) (b:=b) (by omega);omega
 have c161:=OI l hl hE c hc hcl a b hTm;have c162:=PX l (by omega) (fun x hx=>by have:=(r2 x hx).1;omega) c a b hd.1 hn;have c163:=P9 (ff l c a b) ok (by show l.length≤_;omega);have hI:=CS ok (ff l c a b).se.length (Nat.le_refl _);have hV:ES (ff l c a b)=JL (ff l c a b) (ff l c a b).se.length:=rfl;rw[←hV]at hI;have hnl:(ff l c a b).se.length=(da a b).toNat:=by simp[ff,ju]
 have c163':ai Tryz.prog 163 [.agg [.d (fG l),.d (.int .i64 a),.d (.int .i64 b),.d (gr (ju l c a (da a b).toNat))]] [] (fun y r=>y= .d (ER (ES (ff l c a b)))∧r= []):=c163;generalize ff l c a b=R at*;generalize ES R=B at*;have hBl:=hI.len;have hn1:=ok.n;rw[←hnl]
 by_cases q:(B.getD 0 eL).fine=true
 · rw [if_pos q];refine ae hT (C:= []) Tryz.func99 rfl Tryz.call99 rfl rfl rfl ?_;conv=>whnf
   repeat' (first|(refine ac (c161) rfl rfl ?_;rotate_right;conv=>whnf)|(refine ac (c162) rfl rfl ?_;rotate_right;conv=>whnf)|(refine ac (c163') rfl rfl ?_;rotate_right;conv=>whnf)|((first|(refine aa ?_ ?_<;>intro hb<;>try simp only[az]at hb)|omega|refine aA ?_|decide|assumption)<;>conv=>whnf))
   all_goals try(exfalso;first|omega|exact absurd q (by simpa using hb))
   refine ah hT (C:= []) (ι:=Nat×List qu) (fun(i,L)=>(i≤R.se.length∧(B.getD i eL).fine=true)∧L.length≤i∧∃f,R.se.length - i≤f∧oT B R.se.length 0=L++oT B f i)
    (fun(i,L)=>aI [(9,.d (ER B)),(10,.buf 10),(11,.d (.int .i64 i))] [(10,aL 195 3 OQ eL L)]) (fun(i,_)=>R.se.length - i) (0,[]) ⟨⟨Nat.zero_le _,q⟩,Nat.le_refl _,R.se.length,by omega,rfl⟩ ?_ ?_
   · exact(dc.nil 10 10 195 3 (aW OQ eL []) rfl rfl (by decide)).trans (af [(10,10)] rfl rfl ⟨lr,lr,lr,trivial⟩ ⟨rr,trivial⟩)
   rintro⟨i,L⟩ ⟨⟨p1,p2⟩,p3,f,p4,p5⟩;have p1:i≤R.se.length:=p1;have p3:L.length≤i:=p3;have e1:(i:Int).toNat=i:=Int.toNat_natCast i;rcases Nat.lt_or_ge i R.se.length with hi|hi
   · obtain⟨s1,s2,s3,s4⟩:=hI.stp i hi p2;rw[←e1]at s2 s3;conv=>whnf
     repeat' (first|((first|(refine aa ?_ ?_<;>intro hb<;>try simp only[az]at hb)|omega|refine aA ?_|decide|assumption)<;>conv=>whnf))
     all_goals try(exfalso;omega)
     rw[e1]at s2 s3;obtain⟨f',rfl⟩:∃f',f=f'+1:=⟨f - 1,by omega⟩;rw[oT,if_pos (by omega)]at p5
     exact⟨(i+(B.getD i eL).days.toNat,L++ [B.getD (i:Int).toNat eL]),⟨⟨by show i+_≤_;omega,s4⟩,by show(L++ [_]).length≤i+_;rw[List.length_append];simp only[List.length_cons,List.length_nil];omega,f',by show R.se.length - (i+_)≤f';omega,by rw[p5,e1];simp⟩,by show R.se.length - (i+_)<R.se.length - i;omega,
      af [(10,49)] rfl rfl ⟨lr,lr,ap (by rw[e1];omega),trivial⟩ ⟨aG rfl,trivial⟩⟩
   · have hin:i=R.se.length:=by omega
     have hz:∀f,oT B f i= []:=fun f=>by
      cases f with
      |zero=>rfl
      |succ f=>rw[oT,if_neg (by omega)]
     rw[hz,List.append_nil]at p5;rw[p5];conv=>whnf
     repeat' (first|((first|(refine aa ?_ ?_<;>intro hb<;>try simp only[az]at hb)|omega|refine aA ?_|decide|assumption)<;>conv=>whnf))
     all_goals try(exfalso;omega)
     refine .freeze _ 10 195 3 _ _ rfl (.weak _ ?_);conv=>whnf
     exact⟨_,[],bK (m:= [.d (pcs L),.d (.int .i64 0)]) ⟨lr,lr,trivial⟩,⟨rfl,rfl⟩,trivial⟩
 · rw[if_neg q];refine ae hT (C:= []) Tryz.func99 rfl Tryz.call99 rfl rfl rfl ?_;conv=>whnf
   repeat' (first|(refine ac (c161) rfl rfl ?_;rotate_right;conv=>whnf)|(refine ac (c162) rfl rfl ?_;rotate_right;conv=>whnf)|(refine ac (c163') rfl rfl ?_;rotate_right;conv=>whnf)|((first|(refine aa ?_ ?_<;>intro hb<;>try simp only[az]at hb)|omega|refine aA ?_|decide|assumption)<;>conv=>whnf))
   all_goals try(exfalso;first|omega|exact absurd (by simpa using hb) q)
   refine .ret _ ?_;conv=>whnf
   refine⟨[],⟨congrArg SV.tup ?_,rfl⟩,trivial⟩;repeat' (refine aN ?_ ?_)
   all_goals (conv=>lhs;whnf)
   all_goals try(with_reducible rfl)
theorem NJ (n:Int)(hn:0≤n∧n≤2^60):ai Tryz.prog 167 [.d (.int .i64 n)] [] (fun y r=>y= .d (.int .i64 (nB n))∧r= []):=by
 have hq:aS ((n+500).tdiv 1000):=by unfold aS;rw[Int.tdiv_eq_ediv_of_nonneg (by omega)];omega
 have hm0:0≤(n+500).tmod 1000:=Int.tmod_nonneg _ (by omega);have hm:aS ((n+500).tmod 1000):=by unfold aS;rw[Int.tmod_eq_emod_of_nonneg (by omega)];omega
 refine ae hT (C:= []) Tryz.func167 rfl Tryz.call167 rfl rfl rfl ?_;conv=>whnf
 repeat' (first|((first|refine And.intro hq ?_|refine And.intro hm ?_|(refine aa ?_ ?_<;>intro hb<;>try simp only[az]at hb)|omega|refine aA ?_|decide|assumption)<;>conv=>whnf))
 all_goals try(exfalso;omega)
 refine .ret _ ?_;conv=>whnf
 refine⟨[],⟨?_,rfl⟩,trivial⟩;conv=>lhs;whnf
 unfold nB;rw[if_neg (by omega)]
set_option maxHeartbeats 4000000 in
theorem Qj (l:List Fe)(hl:JC l)(hE:nu l=0)(A B:List UInt8)(hA:aE A=true)(hB:aE B=true):
 ai Tryz.prog 103 [.d (EU l),.d (.str A),.d (.str B)] [] (fun y r=>y=(if A=B then .tup [.d (.int .i64 0),.d (.int .i64 0)]else if pH l A B<0 then .tup [.d (.int .i64 0),.d (.int .i64 8)]else .tup [.d (.int .i64 (l.getD (pH l A B).toNat uC).cents),.d (.int .i64 0)])∧r= []):=by
 have h1:=Nv l hl;rw[hE]at h1;have hkA:=iR A (Nat.le_trans (yb hA) (by decide));have hkB:=iR B (Nat.le_trans (yb hB) (by decide));rw[hA]at hkA;rw[hB]at hkB;have h3:=gp [0,0] (by simp);have hll:l.length≤2^40:=hl.1;refine ae hT (C:= []) Tryz.func103 rfl Tryz.call103 rfl rfl rfl ?_;conv=>whnf
 repeat' (first|(refine ac (h1) rfl rfl ?_;rotate_right;conv=>whnf)|(refine ac (hkA) rfl rfl ?_;rotate_right;conv=>whnf)|(refine ac (hkB) rfl rfl ?_;rotate_right;conv=>whnf)|(refine ac (fC _ _) rfl rfl ?_;rotate_right;conv=>whnf)|((first|refine aw h3 ⟨aj (by rfl) (by rfl),trivial⟩ rfl ?_|(refine aa ?_ ?_<;>intro hb<;>try simp only[az]at hb)|omega|refine aA ?_|decide|assumption)<;>conv=>whnf))
 all_goals try(exfalso;omega)
 · rw[if_pos hb];refine .ret _ ?_;conv=>whnf
   refine⟨[],⟨congrArg SV.tup ?_,rfl⟩,trivial⟩;repeat' (refine aN ?_ ?_)
   all_goals (conv=>lhs;whnf)
   all_goals try(with_reducible rfl)
 have hne:¬A=B:=by assumption
 rw[if_neg hne];refine ah hT (C:= []) (ι:=Nat) (fun i=>i≤l.length∧∀j,j<i→((l.getD j uC).a==A&&(l.getD j uC).b==B)=false) (fun i=>aI [(1,.d (.str A)),(2,.d (.str B)),(30,.d (EU l)),(31,.d (.int .i64 l.length)),(32,.d (.int .i64 i))] []) (fun i=>l.length - i) 0 ⟨by omega,by omega⟩ (by exact be []) ?_;rintro i ⟨p1,p2⟩;have e1:(i:Int).toNat=i:=Int.toNat_natCast i;conv=>whnf
 repeat' (first|((first|(refine aa ?_ ?_<;>intro hb<;>try simp only[az]at hb)|omega|refine aA ?_|decide|assumption)<;>conv=>whnf))
 · have hh:((l.getD i uC).a==A&&(l.getD i uC).b==B)=true:=by simp only[e1]at*;simp;exact⟨by assumption,hb⟩
   have hx:pH l A B=i:=gd (by omega) p2 hh;rw[hx,if_neg (by omega)];refine .ret _ ?_;conv=>whnf
   refine⟨[],⟨congrArg SV.tup ?_,rfl⟩,trivial⟩;repeat' (refine aN ?_ ?_)
   all_goals (conv=>lhs;whnf)
   all_goals try(with_reducible rfl)
 · exact⟨i+1,⟨by omega,bw p2 (by simp only[e1]at*;simp;intro z;exact hb)⟩,by omega,(by exact be [])⟩
 · exact⟨i+1,⟨by omega,bw p2 (by simp only[e1]at*;simp;intro z;exact absurd z hb)⟩,by omega,(by exact be [])⟩
 · have:i=l.length:=by omega
   subst this;have hx:pH l A B= -1:=ew p2;rw[hx,if_pos (by omega)];refine .ret _ ?_;conv=>whnf
   refine⟨[],⟨congrArg SV.tup ?_,rfl⟩,trivial⟩;repeat' (refine aN ?_ ?_)
   all_goals (conv=>lhs;whnf)
   all_goals try(with_reducible rfl)
def sI:OL:= [(0,[]),(1,[0]),(3,[0,1]),(7,[0,1,3]),(9,[0,1,3,7]),(2,[3,7,9]),(4,[7,9]),(5,[7,9]),(6,[7,9]),(8,[9]),(10,[]),(11,[]),(12,[]),(13,[]),(14,[]),(15,[])]
def io:OL:= [(0,[]),(1,[0]),(2,[0]),(3,[0,1,2]),(4,rg 4),(5,rg 4),(6,[0,1,2]),(7,[0,1,2]),(8,[0]),(9,[0]),(10,[]),(11,[])]
abbrev j5 (l:List ip):aY:=aL 74 3 J5 kr l
theorem NT:ai Tryz.prog 96 [.d .nilsl,.any] [] (fun y r=>y= .d (.int .i64 0)∧r= []):=by
 refine ae hT (C:= []) Tryz.func96 rfl Tryz.call96 rfl rfl rfl ?_;conv=>whnf
 repeat' (first|((first|(refine aa ?_ ?_<;>intro hb<;>try simp only[az]at hb)|omega|refine aA ?_|decide|assumption)<;>conv=>whnf))
 refine ah hT (C:= []) (ι:=Unit) (fun _=>True) (fun _=>aI [(0,.d .nilsl),(1,.any),(10,.d .nilsl),(11,.d (.int .i64 0)),(12,.d (.int .i64 0))] []) (fun _=>0) () trivial (by exact be []) ?_;rintro⟨⟩ -;conv=>whnf
 repeat' (first|((first|(refine aa ?_ ?_<;>intro hb<;>try simp only[az]at hb)|omega|refine aA ?_|decide|assumption)<;>conv=>whnf))
 refine .ret _ ?_;conv=>whnf
 refine⟨[],⟨?_,rfl⟩,trivial⟩;conv=>lhs;whnf
theorem M2 (t:rG):ai Tryz.prog 40 [.agg (uJ t),.d .nilsl] [] (fun y r=>y= .d (.int .i64 0)∧r= []):=by
 refine ae hT (C:= []) Tryz.func40 rfl Tryz.call40 rfl rfl rfl ?_;conv=>whnf
 repeat' (first|((first|refine aw NT ⟨lr,a7 _,trivial⟩ rfl ?_|(refine aa ?_ ?_<;>intro hb<;>try simp only[az]at hb)|omega|refine aA ?_|decide|assumption)<;>conv=>whnf))
 refine .ret _ ?_;conv=>whnf
 refine⟨[],⟨?_,rfl⟩,trivial⟩;conv=>lhs;whnf
theorem Ny (l:List vk)(hl:Cy l)(hE:jF l=0)(c:List UInt8)(hc:aE c=true)(a b:Int)(hTm:gX a b=0)(s:Int)(hs:0≤s):
 ai Tryz.prog 100 [.d (uM l),.d .nilsl,.d (.str c),.agg [.d (.int .i64 a),.d (.int .i64 b)],.d (.int .i64 s)] [] (fun y r=>y= .tup [.d (.str []),.d (.int .i64 0),.d (.int .i64 (if 1000000000<s then 1 else 0))]∧r= []):=by
 have h1:=MW l hl;rw[hE]at h1;have hk:=iR c (Nat.le_trans (yb hc) (by decide));rw[hc]at hk;have h2:=Kp a b;rw[hTm]at h2;have h3:=gp [0,0,0,if 1000000000<s then 1 else 0] (by simp);have e3:al [0,0,0,if 1000000000<s then 1 else 0]=if 1000000000<s then 1 else 0:=by split<;>rfl
 rw[e3]at h3
 have hW:(if(!decide (0≤s∧s≤1000000000))=true then(1:Int)else 0)=if 1000000000<s then 1 else 0:=by
  by_cases q:1000000000<s
  · rw[if_pos q,decide_eq_false (by omega)];rfl
  · rw[if_neg q,decide_eq_true (by omega)];rfl
 have h4:=fC (!decide (0≤s∧s≤1000000000)) 1;rw[hW]at h4;refine ae hT (C:= []) Tryz.func100 rfl Tryz.call100 rfl rfl rfl ?_;conv=>whnf
 repeat' (first|(refine ac (h1) rfl rfl ?_;rotate_right;conv=>whnf)|(refine aw NT ⟨lr,a7 _,trivial⟩ rfl ?_;conv=>whnf)|(refine ac (hk) rfl rfl ?_;rotate_right;conv=>whnf)|(refine ac (h2) rfl rfl ?_;rotate_right;conv=>whnf)|(refine ac (ix _ _ _) rfl rfl ?_;rotate_right;conv=>whnf)|(refine ac (h4) rfl rfl ?_;rotate_right;conv=>whnf)|(refine ac (fC _ _) rfl rfl ?_;rotate_right;conv=>whnf)|((first|refine aw h3 ⟨aj (by rfl) (by rfl),trivial⟩ rfl ?_|(refine aa ?_ ?_<;>intro hb<;>try simp only[az]at hb)|refine aq hT 4 sI ?_|refine aq hT 11 oJQuG100_11 ?_|refine aq hT 12 oJQuG100_12 ?_|omega|refine aA ?_|decide|assumption)<;>conv=>whnf))
 · have e:(if 1000000000<s then(1:Int)else 0)=1:=by
    by_cases q:1000000000<s
    · rw[if_pos q]
    · rw[if_neg q]at hb;exact absurd rfl hb
   rw[e];refine .ret _ ?_;conv=>whnf
   refine⟨[],⟨congrArg SV.tup ?_,rfl⟩,trivial⟩;repeat' (refine aN ?_ ?_)
   all_goals (conv=>lhs;whnf)
   all_goals try(with_reducible rfl)
 have e:(if 1000000000<s then(1:Int)else 0)=0:=by
  by_cases q:1000000000<s
  · rw[if_pos q]at hb;cases hb
  · rw[if_neg q]
 rw[e];refine ah hT (C:= []) (ι:=Unit) (fun _=>True) (fun _=>aI [(15,.d (.str [])),(16,.d (.int .i64 0)),(45,.d .nilsl),(46,.d (.int .i64 0)),(47,.d (.int .i64 0))] []) (fun _=>0) () trivial (by exact be []) ?_;rintro⟨⟩ -;conv=>whnf
 repeat' (first|((first|(refine aa ?_ ?_<;>intro hb<;>try simp only[az]at hb)|refine aq hT 4 sI ?_|refine aq hT 11 oJQuG100_11 ?_|refine aq hT 12 oJQuG100_12 ?_|omega|refine aA ?_|decide|assumption)<;>conv=>whnf))
 refine .ret _ ?_;conv=>whnf
 refine⟨[],⟨congrArg SV.tup ?_,rfl⟩,trivial⟩;repeat' (refine aN ?_ ?_)
 all_goals (conv=>lhs;whnf)
 all_goals try(with_reducible rfl)
theorem Kj (M:Int)(hM:0≤M∧M≤2^40)(l:List ip)(hn:l.length≤1000)(hl:∀c ∈ l,-M≤c.cents∧c.cents≤M):ai Tryz.prog 101 [.buf 1000001] [(1000001,j5 l)] (fun x r=>x= .d (.int .i64 (dl l))∧r= [(1000001,j5 l)]):=by
 have h1:=nQ (args:= [.buf 1000001]) 1000001 74 3 l.length (aW J5 kr l) (Ps M hM l hn hl) rfl (fun c r q=>nomatch q) rfl
  (fun x r h=>by obtain⟨rfl,rfl⟩:=h;exact⟨rfl,fun c q e=>(nomatch e),rfl⟩)
 exact h1.mono (fun x r h=>by obtain⟨r0,⟨q,rfl⟩,rfl⟩:=h;exact⟨q,rfl⟩)
theorem E8 (t:lH){L:List ip}{i:Nat}(h:i<L.length):Ac t (L.take (i+1))=Ac t (L.take i)+(if(L.getD i kr).kind ∈ t.on then(L.getD i kr).cents else 0):=by
 rw[fD (d:=kr) h];simp[Ac]
structure Lr (l:List lH)(L:List ip):Prop where
 tl:l.length≤10
 per:∀x ∈ l,(0≤x.per∧x.per≤1000)∧x.on.length≤2^40
 ln:L.length≤1000
 ct:∀x ∈ L,0≤x.cents
 sm:dl L+1≤1002000000
theorem Oc {k:Nat}(h:k≤10):(1:Int)≤2 ^ k∧(2:Int) ^ k≤1024:=by
 have:k=0∨k=1∨k=2∨k=3∨k=4∨k=5∨k=6∨k=7∨k=8∨k=9∨k=10:=by omega
 rcases this with rfl|rfl|rfl|rfl|rfl|rfl|rfl|rfl|rfl|rfl|rfl<;>decide
theorem Lr.bd {l:List lH}{L:List ip}(h:Lr l L){k:Nat}(hk:k≤l.length):(∀x ∈ fX l L k,0≤x.cents)∧0≤dl (fX l L k)∧dl (fX l L k)≤1026048000000:=by
 obtain⟨a,b,c⟩:=Jl (b:=1002000000) h.sm h.ct (fun x hx=>(h.per x hx).1) k hk;have:=Oc (Nat.le_trans hk h.tl);exact⟨a,b,by omega⟩
theorem CY {L:List ip}(h:∀x ∈ L,0≤x.cents):∀x ∈ L,x.cents≤dl L:=by
 induction L with
 |nil=>intro x hx;cases hx
 | cons y L ih=>
   intro x hx;have h0:=h y List.mem_cons_self;have ih:=ih fun z hz=>h z (List.mem_cons_of_mem _ hz)
   have hs:0≤dl L:=(lT ⟨[],0,[],false⟩ (fun z hz=>h z (List.mem_cons_of_mem _ hz))).1|>fun q=>Int.le_trans q (lT ⟨[],0,[],false⟩ (fun z hz=>h z (List.mem_cons_of_mem _ hz))).2
   simp only[dl,List.map_cons,List.sum_cons]at hs ih ⊢;rcases List.mem_cons.1 hx with q|q
   · subst q;omega
   · have:=ih x q;omega
set_option maxHeartbeats 4000000 in
theorem Ke (l:List lH)(L:List ip)(h:Lr l L):ai Tryz.prog 104 [.d (ij l),.buf 1000001] [(1000001,j5 L)] (fun y r=>y= .d (kV (fX l L l.length))∧r= [(1000001,j5 L)]):=by
 have htl:=h.tl;have hln:=h.ln;refine ae hT (C:= []) Tryz.func104 rfl Tryz.call104 rfl rfl rfl ?_;conv=>whnf
 repeat' (first|((first|(refine aa ?_ ?_<;>intro hb<;>try simp only[az]at hb)|refine aq hT 14 io ?_|omega|refine aA ?_|decide|assumption)<;>conv=>whnf))
 refine ah hT (C:= []) (ι:=Nat) (fun k=>k≤l.length) (fun k=>aI [(1,.buf 1000001),(5,.buf 5),(11,.d (ij l)),(12,.d (.int .i64 l.length)),(13,.d (.int .i64 k))] [(5,j5 (fX l L k)),(1000001,j5 L)]) (fun k=>l.length - k) 0 (Nat.zero_le _) ?_ ?_
 · exact(dc.nil 5 5 74 3 (aW J5 kr []) rfl rfl (by decide)).trans (af [(5,5),(1000001,1000001)] rfl rfl ⟨lr,lr,lr,lr,lr,trivial⟩ ⟨rr,rr,trivial⟩)
 intro k pk;have e1:(k:Int).toNat=k:=Int.toNat_natCast k;obtain⟨n1,n2,n3⟩:=h.bd pk;rcases Nat.lt_or_ge k l.length with hk|hk
 · have hp:=h.per _ (ao (x:=cg) (show(k:Int).toNat<l.length by omega));obtain⟨X,hX⟩:∃X,X=fX l L k:=⟨_,rfl⟩;have hXl:X.length=k:=by rw[hX];exact l9 l L k
   rw[←hX]at n1 n2 n3
   have hXb:∀c ∈ X,-1026048000000≤c.cents∧c.cents≤1026048000000:=fun c hc=>by
    have:=CY n1 c hc;have:=n1 c hc;omega
   have ho:=lT (l.getD (k:Int).toNat cg) h.ct;have hsm:=h.sm;rw[←hX];conv=>whnf
   repeat' (first|((first|(refine aa ?_ ?_<;>intro hb<;>try simp only[az]at hb)|refine aq hT 14 io ?_|omega|refine aA ?_|decide|assumption)<;>conv=>whnf))
   refine ah hT (C:= []) (ι:=Nat) (fun i=>i≤L.length) (fun i=>aI [(1,.buf 1000001),(5,.buf 5),(7,.ptr 7 0),(8,.d (.int .i64 (Ac (l.getD (k:Int).toNat cg) (L.take i)))),(11,.d (ij l)),(12,.d (.int .i64 l.length)),(13,.d (.int .i64 k)),(17,.buf 1000001),(18,.d (.int .i64 L.length)),(19,.d (.int .i64 i))] [(5,j5 X),(7,.cells 252 ((xw (l.getD (k:Int).toNat cg)).map .d)),(1000001,j5 L)]) (fun i=>L.length - i) 0 (Nat.zero_le _) ?_ ?_
   · exact af [(5,5),(7,7),(1000001,1000001)] rfl rfl ⟨lr,lr,lr,lr,lr,lr,lr,lr,lr,lr,trivial⟩ ⟨rr,rr,rr,trivial⟩
   intro i pi;have e2:(i:Int).toNat=i:=Int.toNat_natCast i;have hoi:=lT (l.getD (k:Int).toNat cg) (L:=L.take i) fun x hx=>h.ct x (List.mem_of_mem_take hx)
   have hti:dl (L.take i)≤dl L:=by
    have:=pt (L.take i) (L.drop i);rw[List.take_append_drop]at this;have h2:=lT (l.getD (k:Int).toNat cg) (L:=L.drop i) fun x hx=>h.ct x (List.mem_of_mem_drop hx)
    omega
   rcases Nat.lt_or_ge i L.length with hi|hi
   · have hci:=h.ct _ (ao (x:=kr) (show(i:Int).toNat<L.length by omega));have hcl:=CY h.ct _ (ao (x:=kr) (show(i:Int).toNat<L.length by omega));have hsu:=E8 (l.getD k cg) hi;conv=>whnf
     repeat' (first|(refine ac (Nf (l.getD (k:Int).toNat cg).on hp.2 (L.getD (i:Int).toNat kr).kind) rfl rfl ?_;rotate_right;conv=>whnf)|((first|(refine aa ?_ ?_<;>intro hb<;>try simp only[az]at hb)|refine aq hT 14 io ?_|omega|refine aA ?_|decide|assumption)<;>conv=>whnf))
     all_goals try(exfalso;omega)
     all_goals
      refine⟨i+1,by omega,by omega,af [(5,5),(7,7),(1000001,1000001)] rfl rfl ⟨lr,lr,lr,ap ?_,lr,lr,lr,lr,lr,ap (by omega),trivial⟩ ⟨rr,rr,rr,trivial⟩⟩;simp only[e1,e2];rw[hsu]
      first
       |rw[if_pos hb]
       |rw[if_neg hb,Int.add_zero]
   · have CI:i=L.length:=by omega
     subst CI;rw[List.take_length];have c101:=Kj 1026048000000 (by omega) X (by omega) hXb;have ho2:Ac (l.getD (k:Int).toNat cg) L≤1002000000:=by omega
     have hm0:∀z:Int,0≤z→z≤1027050000000→0≤z*(l.getD (k:Int).toNat cg).per∧z*(l.getD (k:Int).toNat cg).per≤1027050000000*1000:=fun z h1 h2=>⟨Int.mul_nonneg h1 hp.1.1,Int.mul_le_mul h2 hp.1.2 hp.1.1 (by omega)⟩
     have hma:=hm0 (Ac (l.getD (k:Int).toNat cg) L) ho.1 (by omega);have hmb:=hm0 (Ac (l.getD (k:Int).toNat cg) L+dl X) (by omega) (by omega);have hN:fX l L (k+1)=X++ [⟨5,(l.getD k cg).key,nB ((Ac (l.getD k cg) L+if(l.getD k cg).over=true then dl X else 0)*(l.getD k cg).per)⟩]:=by rw[hX];rfl
     conv=>whnf
     repeat' (first|(refine cd c101 [(1000001,5)] ?_;rintro y rout ⟨rfl,rfl⟩;refine⟨rfl,?_⟩;conv=>whnf)|(refine ac (NJ ((Ac (l.getD (k:Int).toNat cg) L+dl X)*(l.getD (k:Int).toNat cg).per) ⟨by omega,by omega⟩) rfl rfl ?_;rotate_right;conv=>whnf)|(refine ac (NJ (Ac (l.getD (k:Int).toNat cg) L*(l.getD (k:Int).toNat cg).per) ⟨by omega,by omega⟩) rfl rfl ?_;rotate_right;conv=>whnf)|((first|(refine aa ?_ ?_<;>intro hb<;>try simp only[az]at hb)|refine aq hT 14 io ?_|omega|refine aA ?_|decide|assumption)<;>conv=>whnf))
     all_goals try(exfalso;omega)
     all_goals
      refine⟨k+1,by omega,by omega,af [(5,49),(1000001,1000001)] rfl rfl ⟨lr,lr,lr,lr,ap (by omega),trivial⟩ ⟨?_,rr,trivial⟩⟩;rw[hN]
      first
       |rw[if_pos hb]
       |rw[if_neg (by rw[hb];simp),Int.add_zero]
      exact aG rfl
 · have hkl:k=l.length:=by omega
   subst hkl;conv=>whnf
   repeat' (first|((first|(refine aa ?_ ?_<;>intro hb<;>try simp only[az]at hb)|refine aq hT 14 io ?_|omega|refine aA ?_|decide|assumption)<;>conv=>whnf))
   all_goals try(exfalso;omega)
   refine .freeze _ 5 74 3 _ _ rfl (.weak _ ?_);conv=>whnf
   exact⟨_,[(1000001,j5 L)],lr,⟨rfl,rfl⟩,rr,trivial⟩
structure Fj (t:rG)(c:List UInt8)(a b:Int)(A B:List UInt8):Prop where
 tok:zu t
 tE:rv t=0
 ck:aE c=true
 tm:gX a b=0
 Ak:aE A=true
 Bk:aE B=true
abbrev N4 (c:List UInt8)(a b:Int)(A B:List UInt8):SV:=.agg [.d (.str c),.d (.int .i64 a),.d (.int .i64 b),.d (.str A),.d (.str B),.d .nilsl,.d .nilsl]
theorem eB:∀ {l:List Int},al l=0→∀x ∈ l,x=0
 | [],_,x,hx=>by cases hx
 | y ::l,h,x,hx=>by
   simp only[al]at h
   by_cases q:y=0
   · rw[if_pos q]at h;rcases List.mem_cons.1 hx with e|e
     · rw[e];exact q
     · exact eB h x e
   · rw[if_neg q]at h;exact absurd h q
theorem oC {t:rG}(h:rv t=0):cR t.rat=0∧jR t.ext=0∧nu t.fe=0∧jF t.cod=0∧f8 t.tax=0:=
 ⟨eB h _ (by simp),eB h _ (by simp),eB h _ (by simp),eB h _ (by simp),eB h _ (by simp)⟩
def en:OL:= [(0,[]),(1,[]),(2,[0,1]),(3,[0,1]),(4,rg 4),(5,rg 4),(6,rg 6),(7,rg 6),(8,rg 8),(9,rg 8),(10,[]),(11,[]),(12,[]),(13,[12]),(14,[12,13]),(15,[13,14]),(16,[14]),(17,[])]
theorem ug {α:Type}{f:α→List DV}{d:α}{l m:List α}{k:Nat}:SV.le (.d (.ro k (l.length+m.length) (eS l.length (aW f d l) (aW f d m)))) (.d (dC k f d (l++m))):=by
 refine bZ (by simp) (fun i hi=> ?_)
 by_cases h:i<l.length
 · rw[iO h];simp only[aW];rw[List.getD_eq_getElem?_getD,List.getD_eq_getElem?_getD,List.getElem?_append_left h]
 · rw[fQ (by omega)];simp only[aW];rw[List.getD_eq_getElem?_getD,List.getD_eq_getElem?_getD,List.getElem?_append_right (by omega)]
theorem Jx {P:List qu}(h:∀x ∈ P,(0≤x.cents∧x.cents≤24000000)∧1≤x.kind∧x.kind≤4):∀x ∈ P.map nX,0≤x.cents∧x.cents≤24000000:=fun x hx=>by
 obtain⟨y,hy,rfl⟩:=List.mem_map.1 hx;exact(h y hy).1
theorem Cu {t:rG}{c:List UInt8}{a b:Int}{A B:List UInt8}(h:Fj t c a b A B)(q:((ES (ff t.rat c a b)).getD 0 eL).fine=true):(xq t c a b).length≤120∧∀x ∈ xq t c a b,(0≤x.cents∧x.cents≤24000000)∧1≤x.kind∧x.kind≤4:=by
 have ok:=Dk (oC h.tE).1 c h.tm;obtain⟨h1,h2⟩:=IH (CS ok (ff t.rat c a b).se.length (Nat.le_refl _)) (da a b).toNat 0 (Nat.zero_le _) q;have:=ok.n;exact⟨Nat.le_trans h1 (by omega),h2⟩
theorem BA {l:List Fe}(hE:nu l=0){A B:List UInt8}(h:¬pH l A B<0):0≤(l.getD (pH l A B).toNat uC).cents∧(l.getD (pH l A B).toNat uC).cents≤1000000:=by
 have hb:=eP (p:=fun i=>(l.getD i uC).a==A&&(l.getD i uC).b==B) (n:=l.length);have hi:(pH l A B).toNat<l.length:=by unfold pH at*;omega
 unfold nu at hE;split at hE
 · cases hE
 · have:=bG hE _ hi;unfold HG at this
   dsimp only at this
   grind
theorem JW {t:rG}(hk:Ct t.tax)(hE:f8 t.tax=0){L:List ip}(hl:L.length≤1000)(hc:∀x ∈ L,0≤x.cents)(hs:dl L+1≤1002000000):Lr t.tax L:=by
 have h1 :t.tax.length≤10∧∀x ∈ t.tax,0≤x.per∧x.per≤1000:=by
  unfold f8 at hE;split at hE
  · cases hE
  · refine⟨by omega,fun x hx=> ?_⟩;obtain⟨j,hj,rfl⟩:=a8 (d:=cg) hx;have:=bG hE j hj;unfold mi at this
    dsimp only at this
    split at this
    · cases this
    · split at this
      · cases this
      · split at this
        · cases this
        · rename_i c;exact Classical.not_not.1 c
 exact⟨h1.1,fun x hx=>⟨h1.2 x hx,(hk.2 x hx).2⟩,hl,hc,hs⟩
theorem xK {t:rG}(hE:f8 t.tax=0):t.tax.length≤10:=by
 unfold f8 at hE;split at hE
 · cases hE
 · omega
def oB (q:List ip×Int):SV:=if q.2≠0 then .tup [.d .nilsl,.d (.int .i64 q.2)]else .tup [.d (kV q.1),.d (.int .i64 0)]
set_option maxHeartbeats 8000000 in
theorem Rs (t :rG)(c:List UInt8)(a b:Int)(A B:List UInt8)(h:Fj t c a b A B):
 ai Tryz.prog 41 [.agg (uJ t),N4 c a b A B] [] (fun y r=>y=oB (wv t c a b A B)∧r= []):=by
 obtain⟨e1,e2,e3,e4,e5⟩:=oC h.tE;obtain⟨t1,t2,t3,t4,t5⟩:=h.tok;have hcl:c.length≤2^40:=Nat.le_trans (yb h.ck) (by decide);have c99:=Rv t.rat t1 e1 c h.ck hcl a b h.tm;have c103:=Qj t.fe t3 e3 A B h.Ak h.Bk;have hP:oT (ES (ff t.rat c a b)) (da a b).toNat 0=xq t c a b:=rfl;rw[hP]at c99;unfold wv
 by_cases q:((ES (ff t.rat c a b)).getD 0 eL).fine=true
 · obtain ⟨p1,p2⟩:=Cu h q;rw[if_pos q]at c99;rw[if_neg (by rw[q];simp)];generalize xq t c a b=P at*;have hL:=Jx p2;have hS0:=lT ⟨[],0,[],false⟩ (L:=P.map nX) fun x hx=>(hL x hx).1
   have c100:=Ny t.cod t4 e4 c h.ck a b h.tm (dl (P.map nX)) (by omega);have c101:=Kj 24000000 (by omega) (P.map nX) (by rw[List.length_map];omega) (fun x hx=>by have:=hL x hx;omega);have hlen:(P.map nX).length≤120:=by rw[List.length_map];exact p1
   refine ae hT (C:= []) Tryz.func41 rfl Tryz.call41 rfl rfl rfl ?_;conv=>whnf
   repeat' (first|(refine ac (c99) rfl rfl ?_;rotate_right;conv=>whnf)|((first|(refine aa ?_ ?_<;>intro hb<;>try simp only[az]at hb)|refine aq hT 11 en ?_|refine aq hT 19 oJQuH41_19 ?_|omega|refine aA ?_|decide|assumption)<;>conv=>whnf))
   all_goals try(exfalso;omega)
   refine ah hT (C:= []) (ι:=Nat) (fun i=>i≤P.length) (fun i=>aI [(2,.ptr 2 0),(3,.ptr 3 0),(8,.buf 8),(30,.d (pcs P)),(31,.d (.int .i64 P.length)),(32,.d (.int .i64 i))] [(2,.cells 38 (uJ t)),(3,.cells 70 [.d (.str c),.d (.int .i64 a),.d (.int .i64 b),.d (.str A),.d (.str B),.d .nilsl,.d .nilsl]),(8,j5 ((P.take i).map nX))]) (fun i=>P.length - i) 0 (Nat.zero_le _) ?_ ?_
   · exact(dc.nil 8 8 74 3 (aW J5 kr []) rfl rfl (by decide)).trans (af [(2,2),(3,3),(8,8)] rfl rfl ⟨lr,lr,lr,lr,lr,lr,trivial⟩ ⟨rr,rr,rr,trivial⟩)
   intro i pi;have e0:(i:Int).toNat=i:=Int.toNat_natCast i;rcases Nat.lt_or_ge i P.length with hi|hi
   · have hx:=(p2 _ (ao (x:=eL) (show(i:Int).toNat<P.length by omega))).2;have hs:(P.take (i+1)).map nX=(P.take i).map nX++ [nX (P.getD (i:Int).toNat eL)]:=by rw[fD (d:=eL) hi,e0];simp
     have hk4:(P.getD (i:Int).toNat eL).kind=1∨(P.getD (i:Int).toNat eL).kind=2∨(P.getD (i:Int).toNat eL).kind=3∨(P.getD (i:Int).toNat eL).kind=4:=by omega
     have hml:(List.map nX (List.take i P)).length≤120:=by rw[List.length_map,List.length_take];omega
     have hlp:nX (P.getD (i:Int).toNat eL)=⟨1,HQ (P.getD (i:Int).toNat eL).kind,(P.getD (i:Int).toNat eL).cents⟩:=rfl;conv=>whnf
     repeat' (first|((first|(refine aa ?_ ?_<;>intro hb<;>try simp only[az]at hb)|refine aq hT 11 en ?_|refine aq hT 19 oJQuH41_19 ?_|omega|refine aA ?_|decide|assumption)<;>conv=>whnf))
     rcases hk4 with hk|hk|hk|hk
     all_goals
      rw[hk]at hlp ⊢;conv=>whnf
     all_goals
      repeat' (first|((first|(refine aa ?_ ?_<;>intro hb<;>try simp only[az]at hb)|refine aq hT 11 en ?_|refine aq hT 19 oJQuH41_19 ?_|omega|refine aA ?_|decide|assumption)<;>conv=>whnf))
     all_goals
      refine⟨i+1,by omega,by omega,af [(2,2),(3,3),(8,47)] rfl rfl ⟨lr,lr,lr,lr,lr,ap (by omega),trivial⟩ ⟨rr,rr,?_,trivial⟩⟩;rw[hs,hlp];exact aG rfl
   · have hiP:i=P.length:=by omega
     subst hiP;rw[List.take_length];obtain⟨L,hLd⟩:∃L,L=P.map nX:=⟨_,rfl⟩;have hquo:∀X,p9 t P A B=L++X↔p9 t P A B=L++X:=fun _=>Iff.rfl
     rw[←hLd]at hL hS0 c100 c101 hlen ⊢
     by_cases q2:1000000000<dl L
     · rw[if_pos q2]at c100 ⊢;conv=>whnf
       repeat' (first|(refine dQ.look c101 [(1000001,8)] rfl ⟨lr,trivial⟩ ⟨⟨_,rfl,rfl⟩,trivial⟩ rfl rfl rfl ?_;conv=>whnf)|(refine ac (c100) rfl rfl ?_;rotate_right;conv=>whnf)|((first|(refine aa ?_ ?_<;>intro hb<;>try simp only[az]at hb)|refine aq hT 11 en ?_|refine aq hT 19 oJQuH41_19 ?_|omega|refine aA ?_|decide|assumption)<;>conv=>whnf))
       all_goals try(exfalso;omega)
       refine .ret _ ?_;conv=>whnf
       refine⟨[],⟨congrArg SV.tup ?_,rfl⟩,trivial⟩;repeat' (refine aN ?_ ?_)
       all_goals (conv=>lhs;whnf)
       all_goals try(with_reducible rfl)
     · rw [if_neg q2]at c100 ⊢;conv=>whnf
       repeat' (first|(refine dQ.look c101 [(1000001,8)] rfl ⟨lr,trivial⟩ ⟨⟨_,rfl,rfl⟩,trivial⟩ rfl rfl rfl ?_;conv=>whnf)|(refine ac (c100) rfl rfl ?_;rotate_right;conv=>whnf)|((first|(refine aa ?_ ?_<;>intro hb<;>try simp only[az]at hb)|refine aq hT 11 en ?_|refine aq hT 19 oJQuH41_19 ?_|omega|refine aA ?_|decide|assumption)<;>conv=>whnf))
       all_goals try(exfalso;omega)
       refine ah hT (C:= []) (ι:=Unit) (fun _=>True) (fun _=>aI [(2,.ptr 2 0),(3,.ptr 3 0),(8,.buf 8),(77,.d .nilsl),(78,.d (.int .i64 0)),(79,.d (.int .i64 0))] [(2,.cells 38 (uJ t)),(3,.cells 70 [.d (.str c),.d (.int .i64 a),.d (.int .i64 b),.d (.str A),.d (.str B),.d .nilsl,.d .nilsl]),(8,j5 L)]) (fun _=>0) () trivial ?_ ?_
       · exact af [(2,2),(3,3),(8,8)] rfl rfl ⟨lr,lr,lr,lr,lr,lr,trivial⟩ ⟨rr,rr,rr,trivial⟩
       rintro⟨⟩ -;have hLL:∀F,p9 t P A B=P.map nX++F→p9 t P A B=L++F:=fun F z=>by rw[z,hLd]
       by_cases q3:A=B
       · rw[if_pos q3]at c103;rw[if_neg (fun z=>z.1 q3)];have hq3:p9 t P A B=L:=by unfold p9;rw[if_pos q3,List.append_nil,hLd]
         have c104:=Ke t.tax L (JW t5 e5 (by omega) (fun x hx=>(hL x hx).1) (by omega));have h10:(fX t.tax L t.tax.length).length≤10:=by rw[l9];exact xK e5
         rw[hq3];generalize fX t.tax L t.tax.length=X at c104 h10 ⊢;conv=>whnf
         repeat' (first|(refine ac (c103) rfl rfl ?_;rotate_right;conv=>whnf)|((first|(refine cd c104 [(1000001,8)] ?_;rintro y rout ⟨rfl,rfl⟩;refine⟨rfl,?_⟩)|(refine aa ?_ ?_<;>intro hb<;>try simp only[az]at hb)|refine aq hT 11 en ?_|refine aq hT 19 oJQuH41_19 ?_|omega|refine aA ?_|decide|assumption)<;>conv=>whnf))
         all_goals try(exfalso;first|omega|contradiction)
         refine .freeze _ 129 74 3 _ _ rfl (.weak _ ?_);conv=>whnf
         exact⟨.tup [.d (kV (L++X)),.d (.int .i64 0)],[],bK ⟨ug,lr,trivial⟩,⟨rfl,rfl⟩,trivial⟩
       · rw [if_neg q3]at c103
         by_cases q4:pH t.fe A B<0
         · rw[if_pos q4]at c103;rw[if_pos ⟨q3,q4⟩];conv=>whnf
           repeat' (first|(refine ac (c103) rfl rfl ?_;rotate_right;conv=>whnf)|((first|(refine aa ?_ ?_<;>intro hb<;>try simp only[az]at hb)|refine aq hT 11 en ?_|refine aq hT 19 oJQuH41_19 ?_|omega|refine aA ?_|decide|assumption)<;>conv=>whnf))
           all_goals try(exfalso;first|omega|contradiction)
           refine .ret _ ?_;conv=>whnf
           refine⟨[],⟨congrArg SV.tup ?_,rfl⟩,trivial⟩;repeat' (refine aN ?_ ?_)
           all_goals (conv=>lhs;whnf)
           all_goals try(with_reducible rfl)
         · rw[if_neg q4]at c103;rw[if_neg (fun z=>q4 z.2)];have hfc:=BA e3 q4;have hq3:p9 t P A B=L++ [⟨4,[111,110,101,119,97,121],(t.fe.getD (pH t.fe A B).toNat uC).cents⟩]:=by unfold p9;rw[if_neg q3,hLd]
           rw[hq3];generalize (t.fe.getD (pH t.fe A B).toNat uC).cents=w at c103 hfc ⊢;obtain⟨M,hM⟩:∃M,M=L++ [⟨4,[111,110,101,119,97,121],w⟩]:=⟨_,rfl⟩;have hMl:M.length=L.length+1:=by rw[hM];simp
           have hMs:dl M=dl L+w:=by rw[hM,pt];simp[dl]
           have c104:=Ke t.tax M (JW t5 e5 (by omega) (fun x hx=>by
            rw[hM]at hx;rcases List.mem_append.1 hx with z|z
            · exact(hL x z).1
            · rw[List.mem_singleton]at z;subst z;exact hfc.1) (by omega))
           have h10:(fX t.tax M t.tax.length).length≤10:=by rw[l9];exact xK e5
           rw[←hM];generalize fX t.tax M t.tax.length=X at c104 h10 ⊢;have hMr:aY.le (.buf 74 3 (L.length+1) (eS L.length (aW J5 kr L) fun i=> [[DV.int .i64 4,.str [111,110,101,119,97,121],.int .i64 w]].getD i [])) (j5 M):=by rw[hM];exact aG rfl
           conv=>whnf
           repeat' (first|(refine ac (c103) rfl rfl ?_;rotate_right;conv=>whnf)|((first|(refine dQ.of c104 [(1000001,123)] rfl ⟨lr,lr,trivial⟩ ⟨hMr,trivial⟩ rfl rfl ?_;rintro y rout ⟨rfl,rfl⟩;refine⟨rfl,?_⟩)|(refine aa ?_ ?_<;>intro hb<;>try simp only[az]at hb)|refine aq hT 11 en ?_|refine aq hT 19 oJQuH41_19 ?_|omega|refine aA ?_|decide|assumption)<;>conv=>whnf))
           all_goals try(exfalso;first|omega|contradiction)
           refine .freeze _ 129 74 3 _ _ rfl (.weak _ ?_);conv=>whnf
           exact⟨.tup [.d (kV (M++X)),.d (.int .i64 0)],[],bK ⟨ug,lr,trivial⟩,⟨rfl,rfl⟩,trivial⟩
 · rw[if_neg q]at c99;rw[if_pos (by simpa using q)];refine ae hT (C:= []) Tryz.func41 rfl Tryz.call41 rfl rfl rfl ?_;conv=>whnf
   repeat' (first|(refine ac (c99) rfl rfl ?_;rotate_right;conv=>whnf)|((first|(refine aa ?_ ?_<;>intro hb<;>try simp only[az]at hb)|refine aq hT 11 en ?_|refine aq hT 19 oJQuH41_19 ?_|omega|refine aA ?_|decide|assumption)<;>conv=>whnf))
   all_goals try(exfalso;omega)
   refine .ret _ ?_;conv=>whnf
   refine⟨[],⟨congrArg SV.tup ?_,rfl⟩,trivial⟩;repeat' (refine aN ?_ ?_)
   all_goals (conv=>lhs;whnf)
   all_goals try(with_reducible rfl)
theorem Ra (t:rG)(c:List UInt8)(a b:Int)(A B:List UInt8)(h:Fj t c a b A B):
 ai Tryz.prog 12 [.agg (uJ t),N4 c a b A B] [] (fun y r=>y=oB (wv t c a b A B)∧r= []):=by
 have c39:=Q0 t h.tok;rw[h.tE]at c39;have c41:=Rs t c a b A B h;generalize wv t c a b A B=v at c41 ⊢;obtain⟨L,e⟩:=v;unfold oB at c41 ⊢
 by_cases q:e=0
 · subst q;rw[if_neg (fun z=>z rfl)]at c41 ⊢;refine ae hT (C:= []) Tryz.func12 rfl Tryz.call12 rfl rfl rfl ?_;conv=>whnf
   repeat' (first|(refine ac (c39) rfl rfl ?_;rotate_right;conv=>whnf)|(refine ac (M2 t) rfl rfl ?_;rotate_right;conv=>whnf)|(refine ac (c41) rfl rfl ?_;rotate_right;conv=>whnf)|((first|(refine aa ?_ ?_<;>intro hb<;>try simp only[az]at hb)|omega|refine aA ?_|decide|assumption)<;>conv=>whnf))
   refine .ret _ ?_;conv=>whnf
   refine⟨[],⟨congrArg SV.tup ?_,rfl⟩,trivial⟩;repeat' (refine aN ?_ ?_)
   all_goals (conv=>lhs;whnf)
   all_goals try(with_reducible rfl)
 · rw[if_pos q]at c41 ⊢;refine ae hT (C:= []) Tryz.func12 rfl Tryz.call12 rfl rfl rfl ?_;conv=>whnf
   repeat' (first|(refine ac (c39) rfl rfl ?_;rotate_right;conv=>whnf)|(refine ac (M2 t) rfl rfl ?_;rotate_right;conv=>whnf)|(refine ac (c41) rfl rfl ?_;rotate_right;conv=>whnf)|((first|(refine aa ?_ ?_<;>intro hb<;>try simp only[az]at hb)|omega|refine aA ?_|decide|assumption)<;>conv=>whnf))
   refine .ret _ ?_;conv=>whnf
   refine⟨[],⟨congrArg SV.tup ?_,rfl⟩,trivial⟩;repeat' (refine aN ?_ ?_)
   all_goals (conv=>lhs;whnf)
   all_goals try(with_reducible rfl)
def uz (n l:Int):Int:=(n+l - 1).tdiv l
def nR (h:di):rS:=h.legs.getD (h.legs.length - 1) dY
def qA (h:di):Int:=max 0 ((nR h).inn.tm - h.to)
def Bb (d:uk)(h:di):Int:=if qA h≤d.grc then 0 else min (d.hr*uz (qA h) 60) (d.dy*uz (qA h) 1440)
def MJ (x:rS):Int:=if x.inn.meter - x.out.meter<0 then x.inn.meter - x.out.meter+1000000 else x.inn.meter - x.out.meter
def xL (l:List rS):Int:=(l.map MJ).sum
def G8 (x:rS):Int:=max 0 (x.out.fuel - x.inn.fuel)
def kO (l:List rS):Int:=(l.map G8).sum
def oc (k:List UInt8)(c:Int)(L:List ip):List ip:=if c≠0 then L++ [⟨6,k,c⟩]else L
def ym:List UInt8:= [108,97,116,101]
def Cs:List UInt8:= [100,105,115,116,97,110,99,101]
def Cc:List UInt8:= [102,117,101,108]
def Jq (d:uk)(h:di):Int:=d.km*max 0 (xL h.legs - d.free*da h.frm h.to)
def D0 (d:uk)(h:di)(L:List ip):List ip:=oc Cc (d.eig*kO h.legs) (oc Cs (Jq d h) (oc ym (Bb d h) L))
def ta (d:uk)(h:di)(L:List ip):List ip×Int:=if eF L≠0 then([],eF L)else if eF (D0 d h L)≠0 then([],eF (D0 d h L))else(D0 d h L,0)
def Lp (x:ip):Prop:=(1≤x.kind∧x.kind≤6)∧aE x.key=true∧-1000000000≤x.cents∧x.cents≤1000000000
theorem mV {L:List ip}:eF L=0↔L.length≤1000∧∀x ∈ L,Lp x:=by
 unfold eF;constructor
 · intro h;split at h
   · cases h
   · refine⟨by omega,fun x hx=> ?_⟩;obtain⟨j,hj,rfl⟩:=a8 (d:=kr) hx;have:=bG h j hj;unfold tB at this;unfold Lp
     cases q:aE (L.getD j kr).key with
     |true=>rw[q]at this;grind
     |false=>rw[q]at this;grind
 · rintro⟨h1,h2⟩;rw[if_neg (by omega)];refine aF fun j hj=> ?_
   obtain⟨a,b,c⟩:=h2 _ (ao (x:=kr) hj);unfold tB;rw[if_neg (fun q=>q a),b,if_neg (by simp),if_neg (fun q=>q c)]
theorem CC {n l:Int}(hn:0≤n)(hl:0<l):0≤uz n l∧uz n l*l≤n+l - 1:=by
 unfold uz;rw[Int.tdiv_eq_ediv_of_nonneg (by omega)];refine⟨Int.ediv_nonneg (by omega) (by omega),?_⟩;exact Int.ediv_mul_le _ (by omega)
theorem wz {l:List rS}(h:∀x ∈ l,(0≤x.out.meter∧x.out.meter≤999999)∧(0≤x.inn.meter∧x.inn.meter≤999999)∧(0≤x.out.fuel∧x.out.fuel≤8)∧0≤x.inn.fuel∧x.inn.fuel≤8):
 (0≤xL l∧xL l≤999999*l.length)∧0≤kO l∧kO l≤8*l.length:=by
 induction l with
 |nil=>simp[xL,kO]
 | cons x l ih=>
   obtain⟨a,b,c,d⟩:=h x List.mem_cons_self;obtain⟨⟨h1,h2⟩,h3,h4⟩:=ih fun y hy=>h y (List.mem_cons_of_mem _ hy)
   simp only[xL,kO,List.map_cons,List.sum_cons,List.length_cons]at h1 h2 h3 h4 ⊢;have e1:0≤MJ x∧MJ x≤999999:=by unfold MJ;split<;>omega
   have e2:0≤G8 x∧G8 x≤8:=by unfold G8;omega
   rw[show((l.length+1:Nat):Int)=(l.length:Int)+1 by push_cast;rfl];omega
abbrev NY (l:List rS):aY:=aL 63 9 Ok dY l
def xc (h:di):Bool:=decide ((h.legs.getD ((h.legs.length:Int) - 1).toNat dY).inn.tm= -1)
def ru (h:di):Int:=if bN h≠0 then bN h else if xc h then 0 else 11
def vM (h:di)(ri:oN)(v:List UInt8)(ro:oN):di:=⟨h.key,h.drv,h.frm,h.to,eW h.legs ri++ [⟨v,ro,ET⟩]⟩
def Ad (h:di)(ri:oN):di:=⟨h.key,h.drv,h.frm,h.to,eW h.legs ri⟩
def Aa (h:di)(to:Int):di:=⟨h.key,h.drv,h.frm,to,h.legs⟩
def iu (h h':di):Int:=if ru h≠0 then ru h else bN h'
def uK (h h':di):di:=if iu h h' =0 then h' else iq
def CI (h:di):Prop:=h.key.length≤2^40∧h.drv.length≤2^40∧h.legs.length≤2^19∧∀x ∈ h.legs,MB x
theorem CI.k {h:di}(q:CI h):JY h:=⟨q.1,q.2.1,by have:=q.2.2.1;omega,q.2.2.2⟩
theorem Dd {l:List rS}{r:oN}(h:∀x ∈ l,MB x)(hr:r.st.length≤2^40):∀x ∈ eW l r,MB x:=fun x hx=>by
 unfold eW at hx
 by_cases hi:((l.length:Int) - 1).toNat<l.length
 · rcases List.mem_or_eq_of_mem_set hx with q|q
   · exact h x q
   · have h1:l.getD ((l.length:Int) - 1).toNat dY ∈ l:=by
      rw[List.getD_eq_getElem?_getD,List.getElem?_eq_getElem hi];exact List.getElem_mem hi
     subst q;exact⟨(h _ h1).1,(h _ h1).2.1,hr⟩
 · rw[List.set_eq_of_length_le (by omega)]at hx;exact h x hx
theorem ry {α:Type}{f:α→List DV}{d x y:α}{l:List α}{k j off:Nat}{ds:List DV}{h:Nat→List DV}(hj:∀z,l[j]? =some z→cm (f z) off ds=f x)(hx:h 0=f y):
 SV.le (.d (.ro k (l.length+1) (eS l.length (fun i=>bif Nat.beq i j then cm (aW f d l i) off ds else aW f d l i) h))) (.d (dC k f d (l.set j x++ [y]))):=by
 refine bZ (by simp) (fun i hi=> ?_);have h1:=m7 (f:=f) (d:=d) (l:=l) (x:=x) (j:=j) (off:=off) (ds:=ds) hj;rcases Nat.lt_or_ge i l.length with q|q
 · rw[iO q,h1 i q];simp only[aW];rw[yq (by simpa using q)]
 · have:i=l.length:=by omega
   subst this;rw[fQ (Nat.le_refl _),Nat.sub_self,hx];simp only[aW];congr 1
   rw[List.getD_eq_getElem?_getD,List.getElem?_append_right (by simp)];simp
theorem Df (h:di)(hk:JY h):ai Tryz.prog 287 [.agg ((ji h).map .d)] [] (fun y r=>y= .tup [.agg ((ji (if bN h=0 then h else iq)).map .d),.d (.int .i64 (bN h))]∧r= []):=by
 have h183:=z210 h hk
 by_cases q:bN h=0
 · rw[if_pos q];rw[q]at h183 ⊢;refine ae hT (C:= []) Tryz.func287 rfl Tryz.call287 rfl rfl rfl ?_;conv=>whnf
   repeat' (first|(refine ac (h183) rfl rfl ?_;rotate_right;conv=>whnf)|((first|(refine aa ?_ ?_<;>intro hb<;>try simp only[az]at hb)|omega|refine aA ?_|decide|assumption)<;>conv=>whnf))
   refine .ret _ ?_;conv=>whnf
   exact⟨[],⟨rfl,rfl⟩,trivial⟩
 · rw[if_neg q];generalize bN h=E at h183 q;refine ae hT (C:= []) Tryz.func287 rfl Tryz.call287 rfl rfl rfl ?_;conv=>whnf
   repeat' (first|(refine ac (h183) rfl rfl ?_;rotate_right;conv=>whnf)|((first|(refine aa ?_ ?_<;>intro hb<;>try simp only[az]at hb)|omega|refine aA ?_|decide|assumption)<;>conv=>whnf))
   all_goals first
    |(exfalso;omega)
    | (refine .weak _ ?_
       conv=>whnf
       exact⟨.tup [.agg ((ji iq).map .d),.d (.int .i64 E)],[],bK ⟨cM ⟨lr,lr,lr,lr,aO,trivial⟩,lr,trivial⟩,⟨rfl,rfl⟩,trivial⟩)
theorem JU (h:di)(hl:h.legs.length≤2^40)(h1:1≤h.legs.length):ai Tryz.prog 47 [.agg ((ji h).map .d)] [] (fun y r=>y= .d (.bool (xc h))∧r= []):=by
 refine ae hT (C:= []) Tryz.func47 rfl Tryz.call47 rfl rfl rfl ?_;conv=>whnf
 repeat' (first|((first|(refine aa ?_ ?_<;>intro hb<;>try simp only[az]at hb)|omega|refine aA ?_|decide|assumption)<;>conv=>whnf))
 refine .ret _ ?_;conv=>whnf
 refine⟨[],⟨?_,rfl⟩,trivial⟩;conv=>lhs;whnf
 rfl
theorem QA (l:List rS)(h1:1≤l.length)(hl:l.length≤2^20):ai Tryz.prog 306 [.d (legs l)] [] (fun y r=>y= .buf 7∧r= [(7,NY l)]):=by
 refine ae hT (C:= [5]) Tryz.func306 rfl Tryz.call306 rfl rfl rfl ?_;conv=>whnf
 rintro b hbn;conv=>whnf
 repeat' (first|((first|(refine aa ?_ ?_<;>intro hb<;>try simp only[az]at hb)|omega|refine aA ?_|decide|assumption)<;>conv=>whnf))
 · exfalso;have:=hbn (by assumption);omega
 · refine .ret _ ?_;conv=>whnf
   refine⟨_,⟨rfl,rfl⟩,ek (by simp) (fun i hi=> ?_),trivial⟩;rw[fQ (by omega)];rfl
theorem kp {h:di}(q:bN h=0):1≤h.legs.length:=by
 unfold bN at q;grind
theorem K7 (h:di)(hk:CI h)(hE:ru h≠0):ai Tryz.prog 288 [.agg ((ji h).map .d)] [] (fun y r=>y= .tup [.agg ((ji iq).map .d),.d (.int .i64 (ru h))]∧r= []):=by
 have c1:=z210 h hk.k
 by_cases q:bN h=0
 · have c2:=JU h (by have:=hk.2.2.1;omega) (kp q)
   have e1:xc h=false:=by
    cases e:xc h with
    |false=>rfl
    |true=>exfalso;apply hE;unfold ru;rw[if_neg (fun c=>c q),e,if_pos rfl]
   have e2:ru h=11:=by unfold ru;rw[if_neg (fun c=>c q),e1];rfl
   rw[e2];rw[q]at c1;rw[e1]at c2;refine ae hT (C:= []) Tryz.func288 rfl Tryz.call288 rfl rfl rfl ?_;conv=>whnf
   repeat' (first|(refine ac (c1) rfl rfl ?_;rotate_right;conv=>whnf)|(refine ac (c2) rfl rfl ?_;rotate_right;conv=>whnf)|((first|(refine aa ?_ ?_<;>intro hb<;>try simp only[az]at hb)|omega|refine aA ?_|decide|assumption)<;>conv=>whnf))
   all_goals
    refine .weak _ ?_;conv=>whnf
    exact⟨.tup [.agg ((ji iq).map .d),.d (.int .i64 11)],[],bK ⟨cM ⟨lr,lr,lr,lr,aO,trivial⟩,lr,trivial⟩,⟨rfl,rfl⟩,trivial⟩
 · have e2:ru h=bN h:=by unfold ru;rw[if_pos q]
   rw[e2];generalize bN h=E at c1 q;refine ae hT (C:= []) Tryz.func288 rfl Tryz.call288 rfl rfl rfl ?_;conv=>whnf
   repeat' (first|(refine ac (c1) rfl rfl ?_;rotate_right;conv=>whnf)|((first|(refine aa ?_ ?_<;>intro hb<;>try simp only[az]at hb)|omega|refine aA ?_|decide|assumption)<;>conv=>whnf))
   all_goals first
    |(exfalso;omega)
    | (refine .weak _ ?_
       conv=>whnf
       exact⟨.tup [.agg ((ji iq).map .d),.d (.int .i64 E)],[],bK ⟨cM ⟨lr,lr,lr,lr,aO,trivial⟩,lr,trivial⟩,⟨rfl,rfl⟩,trivial⟩)
abbrev Q4 (h:di)(d:Nat):SV:=.agg [.d (.str h.key),.d (.str h.drv),.d (.int .i64 h.frm),.d (.int .i64 h.to),.buf d]
theorem ku {h:di}(hE:ru h=0):bN h=0∧xc h=true:=by
 unfold ru at hE;split at hE
 · rename_i c;exact absurd hE c
 · rename_i c;split at hE
   · rename_i d;exact⟨by simpa using c,d⟩
   · exact absurd hE (by decide)
theorem Lg (h:di)(hk:CI h)(hE:ru h=0):ai Tryz.prog 288 [.agg ((ji h).map .d)] [] (fun y r=>y= .tup [Q4 h 7,.d (.int .i64 0)]∧r= [(7,NY h.legs)]):=by
 obtain⟨q,e1⟩:=ku hE;have c1:=z210 h hk.k;have hl:=hk.2.2.1;have c2:=JU h (by omega) (kp q);rw[q]at c1;rw[e1]at c2;refine ae hT (C:= []) Tryz.func288 rfl Tryz.call288 rfl rfl rfl ?_;conv=>whnf
 repeat' (first|(refine ac (c1) rfl rfl ?_;rotate_right;conv=>whnf)|(refine ac (c2) rfl rfl ?_;rotate_right;conv=>whnf)|((first|(refine cd (QA h.legs (kp q) (by omega)) [(7,7)] ?_;rintro x rout ⟨rfl,rfl⟩;refine⟨rfl,?_⟩)|(refine aa ?_ ?_<;>intro hb<;>try simp only[az]at hb)|omega|refine aA ?_|decide|assumption)<;>conv=>whnf))
 refine .ret _ ?_;conv=>whnf
 exact⟨_,⟨rfl,rfl⟩,rr,trivial⟩
set_option maxHeartbeats 1000000 in
theorem Pn (h:di)(hk:CI h)(to:Int):ai Tryz.prog 244 [.agg ((ji h).map .d),.d (.int .i64 to)] [] (fun y r=>y= .tup [.agg ((ji (uK h (Aa h to))).map .d),.d (.int .i64 (iu h (Aa h to)))]∧r= []):=by
 have hH:CI (Aa h to):=hk;generalize hHe:Aa h to=H at hH ⊢
 by_cases q:ru h≠0
 · have c1:=K7 h hk q;have e1:iu h H=ru h:=by unfold iu;rw[if_pos q]
   have e2:uK h H=iq:=by unfold uK;rw[e1,if_neg q]
   rw[e1,e2];generalize ru h=E at c1 q;refine ae hT (C:= []) Tryz.func244 rfl Tryz.call244 rfl rfl rfl ?_;conv=>whnf
   repeat' (first|(refine ac (c1) rfl rfl ?_;rotate_right;conv=>whnf)|((first|(refine aa ?_ ?_<;>intro hb<;>try simp only[az]at hb)|omega|refine aA ?_|decide|assumption)<;>conv=>whnf))
   all_goals first
    |(exfalso;omega)
    | (refine .weak _ ?_
       conv=>whnf
       exact⟨.tup [.agg ((ji iq).map .d),.d (.int .i64 E)],[],bK ⟨cM ⟨lr,lr,lr,lr,aO,trivial⟩,lr,trivial⟩,⟨rfl,rfl⟩,trivial⟩)
 · have q:ru h=0:=by omega
   have e1:iu h H=bN H:=by unfold iu;rw[if_neg (fun c=>c q)]
   have e2:uK h H=if bN H=0 then H else iq:=by unfold uK;rw[e1]
   rw[e1,e2];have c1:=Lg h hk q;have c2:=Df H hH.k;generalize bN H=E at c2;generalize hR:(if E=0 then H else iq)=R at c2;have hl:=hk.2.2.1;have hn:=kp (ku q).1;subst hHe;refine ae hT (C:= []) Tryz.func244 rfl Tryz.call244 rfl rfl rfl ?_;conv=>whnf
   repeat' (first|((first|(refine cd c1 [(7,40)] ?_;rintro x rout ⟨rfl,rfl⟩;refine⟨rfl,?_⟩)|(refine dQ.freeze _ _ _ _ 40 63 9 _ _ rfl rfl ?_;refine aw c2 ⟨cM ⟨lr,lr,lr,lr,lr,trivial⟩,trivial⟩ rfl ?_)|(refine aa ?_ ?_<;>intro hb<;>try simp only[az]at hb)|omega|refine aA ?_|decide|assumption)<;>conv=>whnf))
   all_goals first
    |(exfalso;omega)
    | (refine .ret _ ?_
       conv=>whnf
       exact⟨[],⟨rfl,rfl⟩,trivial⟩)
set_option maxHeartbeats 1000000 in
theorem PM (h:di)(hk:CI h)(ri:oN)(hr:ri.st.length≤2^40):ai Tryz.prog 245 [.agg ((ji h).map .d),.agg ((M3 ri).map .d)] [] (fun y r=>y= .tup [.agg ((ji (uK h (Ad h ri))).map .d),.d (.int .i64 (iu h (Ad h ri)))]∧r= []):=by
 have hH:CI (Ad h ri):=⟨hk.1,hk.2.1,by show(eW h.legs ri).length≤_;rw[gO];exact hk.2.2.1,Dd hk.2.2.2 hr⟩;generalize hHe:Ad h ri=H at hH ⊢
 by_cases q:ru h≠0
 · have c1:=K7 h hk q;have e1:iu h H=ru h:=by unfold iu;rw[if_pos q]
   have e2:uK h H=iq:=by unfold uK;rw[e1,if_neg q]
   rw[e1,e2];generalize ru h=E at c1 q;refine ae hT (C:= []) Tryz.func245 rfl Tryz.call245 rfl rfl rfl ?_;conv=>whnf
   repeat' (first|(refine ac (c1) rfl rfl ?_;rotate_right;conv=>whnf)|((first|(refine aa ?_ ?_<;>intro hb<;>try simp only[az]at hb)|omega|refine aA ?_|decide|assumption)<;>conv=>whnf))
   all_goals first
    |(exfalso;omega)
    | (refine .weak _ ?_
       conv=>whnf
       exact⟨.tup [.agg ((ji iq).map .d),.d (.int .i64 E)],[],bK ⟨cM ⟨lr,lr,lr,lr,aO,trivial⟩,lr,trivial⟩,⟨rfl,rfl⟩,trivial⟩)
 · have q:ru h=0:=by omega
   have e1:iu h H=bN H:=by unfold iu;rw[if_neg (fun c=>c q)]
   have e2:uK h H=if bN H=0 then H else iq:=by unfold uK;rw[e1]
   rw[e1,e2];have c1:=Lg h hk q;have c2:=Df H hH.k;generalize bN H=E at c2;generalize hR:(if E=0 then H else iq)=R at c2;have hl:=hk.2.2.1;have hn:=kp (ku q).1;subst hHe;refine ae hT (C:= []) Tryz.func245 rfl Tryz.call245 rfl rfl rfl ?_;conv=>whnf
   repeat' (first|((first|(refine cd c1 [(7,40)] ?_;rintro x rout ⟨rfl,rfl⟩;refine⟨rfl,?_⟩)|(refine dQ.freeze _ _ _ _ 40 63 9 _ _ rfl rfl ?_;refine aw c2 ⟨cM ⟨lr,lr,lr,lr,tf uZ,trivial⟩,trivial⟩ rfl ?_)|(refine aa ?_ ?_<;>intro hb<;>try simp only[az]at hb)|omega|refine aA ?_|decide|assumption)<;>conv=>whnf))
   all_goals first
    |(exfalso;omega)
    | (refine .ret _ ?_
       conv=>whnf
       exact⟨[],⟨rfl,rfl⟩,trivial⟩)
set_option maxHeartbeats 1000000 in
theorem Pr (h:di)(hk:CI h)(hs:h.legs.length<2^19)(ri:oN)(hr:ri.st.length≤2^40)(v:List UInt8)(hv:v.length≤2^40)(ro:oN)(ho:ro.st.length≤2^40):
 ai Tryz.prog 246 [.agg ((ji h).map .d),.agg ((M3 ri).map .d),.d (.str v),.agg ((M3 ro).map .d)] [] (fun y r=>y= .tup [.agg ((ji (uK h (vM h ri v ro))).map .d),.d (.int .i64 (iu h (vM h ri v ro)))]∧r= []):=by
 have hH:CI (vM h ri v ro):=⟨hk.1,hk.2.1,by show(eW h.legs ri++ [_]).length≤_;rw[List.length_append,gO,List.length_singleton];omega,fun x hx=>by
  rcases List.mem_append.1 hx with q|q
  · exact Dd hk.2.2.2 hr x q
  · rw[List.mem_singleton]at q;subst q;exact⟨hv,ho,by simp[ET]⟩⟩
 generalize hHe:vM h ri v ro=H at hH ⊢
 by_cases q:ru h≠0
 · have c1:=K7 h hk q;have e1:iu h H=ru h:=by unfold iu;rw[if_pos q]
   have e2:uK h H=iq:=by unfold uK;rw[e1,if_neg q]
   rw[e1,e2];generalize ru h=E at c1 q;refine ae hT (C:= []) Tryz.func246 rfl Tryz.call246 rfl rfl rfl ?_;conv=>whnf
   repeat' (first|(refine ac (c1) rfl rfl ?_;rotate_right;conv=>whnf)|((first|(refine aa ?_ ?_<;>intro hb<;>try simp only[az]at hb)|omega|refine aA ?_|decide|assumption)<;>conv=>whnf))
   all_goals first
    |(exfalso;omega)
    | (refine .weak _ ?_
       conv=>whnf
       exact⟨.tup [.agg ((ji iq).map .d),.d (.int .i64 E)],[],bK ⟨cM ⟨lr,lr,lr,lr,aO,trivial⟩,lr,trivial⟩,⟨rfl,rfl⟩,trivial⟩)
 · have q:ru h=0:=by omega
   have e1:iu h H=bN H:=by unfold iu;rw[if_neg (fun c=>c q)]
   have e2:uK h H=if bN H=0 then H else iq:=by unfold uK;rw[e1]
   rw[e1,e2];have c1:=Lg h hk q;have c2:=Df H hH.k;generalize bN H=E at c2;generalize hR:(if E=0 then H else iq)=R at c2;have hl:=hk.2.2.1;have hn:=kp (ku q).1;subst hHe;refine ae hT (C:= []) Tryz.func246 rfl Tryz.call246 rfl rfl rfl ?_;conv=>whnf
   repeat' (first|((first|(refine cd c1 [(7,50)] ?_;rintro x rout ⟨rfl,rfl⟩;refine⟨rfl,?_⟩)|(refine dQ.freeze _ _ _ _ 36 63 9 _ _ rfl rfl ?_;refine aw c2 ⟨cM ⟨lr,lr,lr,lr,ry uZ rfl,trivial⟩,trivial⟩ rfl ?_)|(refine aa ?_ ?_<;>intro hb<;>try simp only[az]at hb)|omega|refine aA ?_|decide|assumption)<;>conv=>whnf))
   all_goals first
    |(exfalso;omega)
    | (refine .ret _ ?_
       conv=>whnf
       exact⟨[],⟨rfl,rfl⟩,trivial⟩)
theorem LR (key drv:List UInt8)(a b:Int)(v:List UInt8)(o:oN)(h1:key.length≤2^40)(h2:drv.length≤2^40)(h3:v.length≤2^40)(h4:o.st.length≤2^40):
 ai Tryz.prog 243 [.d (.str key),.d (.str drv),.agg [.d (.int .i64 a),.d (.int .i64 b)],.d (.str v),.agg ((M3 o).map .d)] [] (fun y r=>y= .tup [.agg ((ji (if bN (lb key drv a b v o)=0 then lb key drv a b v o else iq)).map .d),.d (.int .i64 (bN (lb key drv a b v o)))]∧r= []):=by
 have h265:=Df (lb key drv a b v o) ⟨h1,h2,by simp[lb],fun x hx=>by simp[lb]at hx;subst hx;exact⟨h3,h4,by simp[ET]⟩⟩;generalize bN (lb key drv a b v o)=E at h265 ⊢;generalize hH:(if E=0 then lb key drv a b v o else iq)=H at h265 ⊢;refine ae hT (C:= []) Tryz.func243 rfl Tryz.call243 rfl rfl rfl ?_;conv=>whnf
 repeat' (first|((first|refine aw h265 ⟨cM ⟨lr,lr,lr,lr,aj rfl rfl,trivial⟩,trivial⟩ rfl ?_|(refine aa ?_ ?_<;>intro hb<;>try simp only[az]at hb)|omega|refine aA ?_|decide|assumption)<;>conv=>whnf))
 refine .ret _ ?_;conv=>whnf
 exact⟨[],⟨rfl,rfl⟩,trivial⟩
theorem qe {h:di}(hE:bN h=0):((aE h.key=true∧aE h.drv=true)∧gX h.frm h.to=0∧1≤h.legs.length∧h.legs.length≤20)∧∀i,i<h.legs.length→oV h i=0:=by
 unfold bN at hE;split at hE
 · omega
 rename_i a;split at hE
 · omega
 rename_i b;split at hE
 · omega
 rename_i c;split at hE
 · omega
 rename_i d;refine⟨⟨⟨?_,?_⟩,Classical.not_not.1 b,by omega,by omega⟩,fun i hi=>bG hE i hi⟩
 · cases q:aE h.key with
   |true=>rfl
   |false=>exact absurd (Or.inl q) a
 · cases q:aE h.drv with
   |true=>rfl
   |false=>exact absurd (Or.inr q) a
theorem ja {r:oN}(h:pI r=0):(0≤r.tm∧r.tm≤5761439)∧aE r.st=true∧(0≤r.meter∧r.meter≤999999)∧0≤r.fuel∧r.fuel≤8:=by
 unfold pI at h;split at h
 · omega
 rename_i a;split at h
 · omega
 rename_i b;split at h
 · omega
 rename_i c;refine⟨Classical.not_not.1 a,?_,(Classical.not_not.1 c).1,(Classical.not_not.1 c).2⟩
 cases q:aE r.st with
 |true=>rfl
 |false=>exact absurd q b
theorem Ei {h:di}{i:Nat}(e:oV h i=0):aE (h.legs.getD i dY).veh=true∧pI (h.legs.getD i dY).out=0∧((h.legs.getD i dY).inn.tm= -1∧(h.legs.length:Int) - 1≤i∨pI (h.legs.getD i dY).inn=0):=by
 unfold oV at e;split at e
 · omega
 rename_i a;split at e
 · rename_i b;exact absurd e b
 rename_i b;refine⟨?_,Classical.not_not.1 b,?_⟩
 · cases q:aE (h.legs.getD i dY).veh with
   |true=>rfl
   |false=>exact absurd q a
 · split at e
   · omega
   split at e
   · omega
   split at e
   · omega
   split at e
   · omega
   split at e
   · rename_i c;split at e
     · omega
     split at e
     · omega
     · exact .inl ⟨c,by omega⟩
   · split at e
     · rename_i c d;exact absurd e d
     · rename_i c d;exact .inr (Classical.not_not.1 d)
theorem tC {h:di}(hE:bN h=0)(hc:(nR h).inn.tm≠-1):∀x ∈ h.legs,aE x.veh=true∧pI x.out=0∧pI x.inn=0:=by
 intro x hx;obtain⟨i,hi,rfl⟩:=a8 (d:=dY) hx;obtain⟨p1,p2⟩:=qe hE;obtain⟨a,b,c⟩:=Ei (p2 i hi);refine⟨a,b,?_⟩;rcases c with⟨c1,c2⟩|c
 · have:i=h.legs.length - 1:=by omega
   subst this;exact absurd c1 hc
 · exact c
def IF (d:uk):Prop:=((0≤d.free∧d.free≤10000)∧(0≤d.km∧d.km≤30)∧(0≤d.eig∧d.eig≤1000))∧(0≤d.grc∧0≤d.hr∧d.hr≤1000000)∧0≤d.dy∧d.dy≤9000
theorem H0 {d:uk}(hE:rN d=0)(h:A9 d):IF d:=by
 unfold rN at hE;split at hE
 · rename_i q;obtain⟨h1,h2,h3⟩:=h;exact⟨⟨q.1,h1,h2⟩,⟨q.2.2.2.1.1,q.2.2.2.2.1⟩,h3⟩
 · cases hE
def vB:OL:= [(0,[]),(1,[]),(2,[0,1]),(3,[0,1]),(4,[0,1]),(5,[0,1]),(6,[]),(7,[]),(8,[]),(9,[]),(10,rg 10),(11,rg 10),(12,rg 10),(13,[]),(14,[]),(15,[])]
def vz:OL:= [(0,[]),(1,[0]),(2,[0]),(3,[0,1,2]),(6,rg 4),(7,rg 4),(8,[0,1,2,3,6,7]),(4,[0,1,2,6,7,8]),(5,[0,6,7,8]),(9,[0,1,2,6,7,5]),(10,[0,1,2,5]),(11,[0]),(12,[1,2,6,7,5,10,11]),(13,[])]
theorem Rk (l:List ip)(hl:l.length≤2^20):ai Tryz.prog 48 [.d (kV l)] [] (fun y r=>(y= .d .nilsl∧l= []∧r= [])∨(y= .buf 7∧r= [(7,j5 l)])):=by
 refine ae hT (C:= [5]) Tryz.func48 rfl Tryz.call48 rfl rfl rfl ?_;conv=>whnf
 rintro b hbn;conv=>whnf
 repeat' (first|((first|(refine aa ?_ ?_<;>intro hb<;>try simp only[az]at hb)|omega|refine aA ?_|decide|assumption)<;>conv=>whnf))
 · have:l= []:=List.eq_nil_of_length_eq_zero (hbn (by assumption));refine .ret _ ?_;conv=>whnf
   exact⟨_,.inl ⟨rfl,this,rfl⟩,trivial⟩
 · refine .ret _ ?_;conv=>whnf
   refine⟨_,.inr ⟨rfl,rfl⟩,ek (by simp) (fun i hi=> ?_),trivial⟩;rw[fQ (by omega)];rfl
abbrev Fq (d:Nat):aY:=.cells 56 [.buf d]
theorem Ot (k:List UInt8)(c:Int)(l:List ip)(hl:l.length≤2^20):ai Tryz.prog 49 [.d (.str k),.d (.int .i64 c),.ptr 1000001 0] [(1000001,Fq 1000002),(1000002,j5 l)] (fun y r=>y= .tup []∧r= [(1000001,Fq 50),(50,j5 (oc k c l))]):=by
 refine ae hT (C:= []) Tryz.func49 rfl Tryz.call49 rfl rfl rfl ?_;conv=>whnf
 repeat' (first|((first|(refine aa ?_ ?_<;>intro hb<;>try simp only[az]at hb)|omega|refine aA ?_|decide|assumption)<;>conv=>whnf))
 · have e:oc k c l=l++ [⟨6,k,c⟩]:=by unfold oc;rw[if_pos (by simpa using hb)]
   rw[e];refine .ent _ _ (af (ts:= []) (rs:= [(1000001,Fq 50),(50,j5 (l++ [⟨6,k,c⟩]))]) [(1000001,1000001),(50,12)] rfl rfl trivial ⟨rr,aG rfl,trivial⟩) (.ret _ ?_);conv=>whnf
   exact⟨_,⟨rfl,rfl⟩,rr,rr,trivial⟩
 · have e:oc k c l=l:=by unfold oc;rw[if_neg (by simpa using hb)]
   rw[e];refine .ent _ _ (af (ts:= []) (rs:= [(1000001,Fq 50),(50,j5 l)]) [(1000001,1000001),(50,1000002)] rfl rfl trivial ⟨rr,rr,trivial⟩) (.ret _ ?_);conv=>whnf
   exact⟨_,⟨rfl,rfl⟩,rr,rr,trivial⟩
theorem OT (k:List UInt8)(c:Int):ai Tryz.prog 49 [.d (.str k),.d (.int .i64 c),.ptr 1000001 0] [(1000001,.cells 56 [.d .nilsl])] (fun y r=>y= .tup []∧r= [(1000001,Fq 50),(50,j5 (oc k c []))]):=
 ey (d:=1000002) (e:=74) (k:=3) (j:=0) (g:=aW J5 kr []) (Ot k c [] (by simp)) (by decide) rfl rfl rfl
theorem NR (n L:Int)(hn:0≤n∧n≤2^40)(hL:1≤L∧L≤2^20):ai Tryz.prog 109 [.d (.int .i64 n),.d (.int .i64 L)] [] (fun y r=>y= .d (.int .i64 (uz n L))∧r= []):=by
 have hq:aS ((n+L - 1).tdiv L):=by
  unfold aS;rw[Int.tdiv_eq_ediv_of_nonneg (by omega)];have h1:=Int.ediv_nonneg (show 0≤n+L - 1 by omega) (show 0≤L by omega);have h2:=Int.ediv_le_self L (show 0≤n+L - 1 by omega);omega
 refine ae hT (C:= []) Tryz.func109 rfl Tryz.call109 rfl rfl rfl ?_;conv=>whnf
 repeat' (first|((first|refine And.intro hq ?_|(refine aa ?_ ?_<;>intro hb<;>try simp only[az]at hb)|omega|refine aA ?_|decide|assumption)<;>conv=>whnf))
 refine .ret _ ?_;conv=>whnf
 refine⟨[],⟨?_,rfl⟩,trivial⟩;conv=>lhs;whnf
 rfl
theorem Ag (h:di):(h.legs.getD ((h.legs.length:Int) - 1).toNat dY)=nR h:=by
 have e:((h.legs.length:Int) - 1).toNat=h.legs.length - 1:=by omega
 rw[e];rfl
structure EZ (h:di):Prop where
 n1:1≤h.legs.length
 n2:h.legs.length≤20
 tm:0≤h.frm∧h.frm<h.to∧h.to≤5761439
 lst:0≤(nR h).inn.tm∧(nR h).inn.tm≤5761439
 lg:∀x ∈ h.legs,(0≤x.out.meter∧x.out.meter≤999999)∧(0≤x.inn.meter∧x.inn.meter≤999999)∧(0≤x.out.fuel∧x.out.fuel≤8)∧0≤x.inn.fuel∧x.inn.fuel≤8
theorem Dn {h:di}(hE:bN h=0)(hc:(nR h).inn.tm≠-1):EZ h:=by
 obtain⟨⟨_,hT,hn1,hn2⟩,_⟩:=qe hE;have hcl:=tC hE hc;have hlm:nR h ∈ h.legs:=ao (by omega);refine⟨hn1,hn2,by unfold gX at hT;split at hT<;>omega,(ja (hcl _ hlm).2.2).1,fun x hx=> ?_⟩;obtain⟨_,b,c⟩:=hcl x hx;have b:=ja b;have c:=ja c;exact⟨b.2.2.1,c.2.2.1,b.2.2.2,c.2.2.2⟩
set_option maxHeartbeats 4000000 in
theorem Rm (d:uk)(hd:IF d)(h:di)(hp:EZ h):ai Tryz.prog 50 [.agg ((wY d).map .d),.agg ((ji h).map .d)] [] (fun y r=>y= .tup [.d (.int .i64 (qA h)),.d (.int .i64 (Bb d h))]∧r= []):=by
 obtain⟨n1,n2,tm,lst,_⟩:=hp;obtain⟨_,⟨d4,d5,d6⟩,d7,d8⟩:=hd;have hl:=Ag h;have hlat:0≤qA h∧qA h≤5761439:=by unfold qA;omega
 have b1:=CC hlat.1 (show(0:Int)<60 by omega);have b2:=CC hlat.1 (show(0:Int)<1440 by omega);have e1:0≤d.hr*uz (qA h) 60:=Int.mul_nonneg d5 b1.1;have e1b:d.hr*uz (qA h) 60≤1000000*5761498:=Int.mul_le_mul d6 (by omega) b1.1 (by omega);have e2:0≤d.dy*uz (qA h) 1440:=Int.mul_nonneg d7 b2.1;have e2b:d.dy*uz (qA h) 1440≤9000*5762878:=Int.mul_le_mul d8 (by omega) b2.1 (by omega);have lst':0≤(h.legs.getD ((h.legs.length:Int) - 1).toNat dY).inn.tm∧(h.legs.getD ((h.legs.length:Int) - 1).toNat dY).inn.tm≤5761439:=by rw[hl];exact lst
 have hn':qA h=max 0 ((h.legs.getD ((h.legs.length:Int) - 1).toNat dY).inn.tm - h.to):=by unfold qA;rw[hl]
 unfold Bb;rw[hn']at hlat b1 b2 e1 e1b e2 e2b ⊢;have c60:=NR (max 0 ((h.legs.getD ((h.legs.length:Int) - 1).toNat dY).inn.tm - h.to)) 60 (by omega) (by omega);have c1440:=NR (max 0 ((h.legs.getD ((h.legs.length:Int) - 1).toNat dY).inn.tm - h.to)) 1440 (by omega) (by omega)
 by_cases q:max 0 ((h.legs.getD ((h.legs.length:Int) - 1).toNat dY).inn.tm - h.to)≤d.grc
 · rw[if_pos q];refine ae hT (C:= []) Tryz.func50 rfl Tryz.call50 rfl rfl rfl ?_;conv=>whnf
   repeat' (first|((first|(refine aa ?_ ?_<;>intro hb<;>try simp only[az]at hb)|refine aq hT 1 vB ?_|refine aq hT 4 vz ?_|omega|refine aA ?_|decide|assumption)<;>conv=>whnf))
   all_goals try(exfalso;exact absurd q (Int.not_le.2 hb))
   refine .ret _ ?_;conv=>whnf
   refine⟨[],⟨congrArg SV.tup ?_,rfl⟩,trivial⟩;repeat' (refine aN ?_ ?_)
   all_goals (conv=>lhs;whnf)
   all_goals try(with_reducible rfl)
   all_goals rfl
 · rw[if_neg q];refine ae hT (C:= []) Tryz.func50 rfl Tryz.call50 rfl rfl rfl ?_;conv=>whnf
   repeat' (first|(refine ac (c60) rfl rfl ?_;rotate_right;conv=>whnf)|(refine ac (c1440) rfl rfl ?_;rotate_right;conv=>whnf)|((first|(refine aa ?_ ?_<;>intro hb<;>try simp only[az]at hb)|refine aq hT 1 vB ?_|refine aq hT 4 vz ?_|omega|refine aA ?_|decide|assumption)<;>conv=>whnf))
   all_goals try(exfalso;exact q hb)
   refine .ret _ ?_;conv=>whnf
   refine⟨[],⟨congrArg SV.tup ?_,rfl⟩,trivial⟩;repeat' (refine aN ?_ ?_)
   all_goals (conv=>lhs;whnf)
   all_goals try(with_reducible rfl)
   all_goals rfl
set_option maxHeartbeats 4000000 in
theorem Q9 (h:di)(hp:EZ h):ai Tryz.prog 51 [.agg ((ji h).map .d)] [] (fun y r=>y= .d (.int .i64 (xL h.legs))∧r= []):=by
 obtain⟨n1,n2,_,_,lg⟩:=hp
 have hsm:∀i,i≤h.legs.length→0≤xL (h.legs.take i)∧xL (h.legs.take i)≤999999*20:=fun i hi=>by
  have:=(wz (l:=h.legs.take i) fun x hx=>lg x (List.mem_of_mem_take hx)).1;rw[List.length_take,Nat.min_eq_left hi]at this;omega
 refine ae hT (C:= []) Tryz.func51 rfl Tryz.call51 rfl rfl rfl ?_;conv=>whnf
 repeat' (first|((first|(refine aa ?_ ?_<;>intro hb<;>try simp only[az]at hb)|omega|refine aA ?_|decide|assumption)<;>conv=>whnf))
 refine ah hT (C:= []) (ι:=Nat) (fun i=>i≤h.legs.length) (fun i=>aI [(3,.d (.int .i64 (xL (h.legs.take i)))),(8,.d (legs h.legs)),(9,.d (.int .i64 h.legs.length)),(10,.d (.int .i64 i))] []) (fun i=>h.legs.length - i) 0 (Nat.zero_le _) (by exact be []) ?_;rintro i p1;have e1:(i:Int).toNat=i:=Int.toNat_natCast i;have nM:=hsm i p1;rcases Nat.lt_or_ge i h.legs.length with hi|hi
 · have hx:=lg _ (ao (x:=dY) (show(i:Int).toNat<h.legs.length by omega))
   have hk:xL (h.legs.take (i+1))=xL (h.legs.take i)+MJ (h.legs.getD (i:Int).toNat dY):=by
    rw[fD (d:=dY) hi,e1];simp[xL]
   conv=>whnf
   repeat' (first|((first|(refine aa ?_ ?_<;>intro hb<;>try simp only[az]at hb)|omega|refine aA ?_|decide|assumption)<;>conv=>whnf))
   all_goals try(exfalso;omega)
   all_goals
    refine⟨i+1,by omega,by omega,af [] rfl rfl ⟨ap ?_,lr,lr,ap (by omega),trivial⟩ trivial⟩;rw[hk];unfold MJ;simp only[e1]at*;split<;>omega
 · have:i=h.legs.length:=by omega
   subst this;rw[List.take_length]at*;conv=>whnf
   repeat' (first|((first|(refine aa ?_ ?_<;>intro hb<;>try simp only[az]at hb)|omega|refine aA ?_|decide|assumption)<;>conv=>whnf))
   all_goals try(exfalso;omega)
   refine .ret _ ?_;conv=>whnf
   refine⟨[],⟨?_,rfl⟩,trivial⟩;conv=>lhs;whnf
set_option maxHeartbeats 4000000 in
theorem Rq (h:di)(hp:EZ h):ai Tryz.prog 53 [.agg ((ji h).map .d)] [] (fun y r=>y= .d (.int .i64 (kO h.legs))∧r= []):=by
 obtain⟨n1,n2,_,_,lg⟩:=hp
 have hsm:∀i,i≤h.legs.length→0≤kO (h.legs.take i)∧kO (h.legs.take i)≤160:=fun i hi=>by
  have:=(wz (l:=h.legs.take i) fun x hx=>lg x (List.mem_of_mem_take hx)).2;rw[List.length_take,Nat.min_eq_left hi]at this;omega
 refine ae hT (C:= []) Tryz.func53 rfl Tryz.call53 rfl rfl rfl ?_;conv=>whnf
 repeat' (first|((first|(refine aa ?_ ?_<;>intro hb<;>try simp only[az]at hb)|omega|refine aA ?_|decide|assumption)<;>conv=>whnf))
 refine ah hT (C:= []) (ι:=Nat) (fun i=>i≤h.legs.length) (fun i=>aI [(3,.d (.int .i64 (kO (h.legs.take i)))),(7,.d (legs h.legs)),(8,.d (.int .i64 h.legs.length)),(9,.d (.int .i64 i))] []) (fun i=>h.legs.length - i) 0 (Nat.zero_le _) (by exact be []) ?_;rintro i p1;have e1:(i:Int).toNat=i:=Int.toNat_natCast i;have nM:=hsm i p1;rcases Nat.lt_or_ge i h.legs.length with hi|hi
 · have hx:=lg _ (ao (x:=dY) (show(i:Int).toNat<h.legs.length by omega))
   have hk:kO (h.legs.take (i+1))=kO (h.legs.take i)+G8 (h.legs.getD (i:Int).toNat dY):=by
    rw[fD (d:=dY) hi,e1];simp[kO]
   have hmx:aS (kO (List.take i h.legs)+bif true then max 0 ((h.legs.getD (i:Int).toNat dY).out.fuel - (h.legs.getD (i:Int).toNat dY).inn.fuel)else min 0 ((h.legs.getD (i:Int).toNat dY).out.fuel - (h.legs.getD (i:Int).toNat dY).inn.fuel)):=by
    show aS (_+max 0 _);unfold aS;omega
   conv=>whnf
   repeat' (first|((first|refine And.intro hmx ?_|(refine aa ?_ ?_<;>intro hb<;>try simp only[az]at hb)|omega|refine aA ?_|decide|assumption)<;>conv=>whnf))
   all_goals try(exfalso;omega)
   all_goals
    refine⟨i+1,by omega,by omega,af [] rfl rfl ⟨ap ?_,lr,lr,ap (by omega),trivial⟩ trivial⟩;rw[hk];rfl
 · have:i=h.legs.length:=by omega
   subst this;rw[List.take_length]at*;conv=>whnf
   repeat' (first|((first|(refine aa ?_ ?_<;>intro hb<;>try simp only[az]at hb)|omega|refine aA ?_|decide|assumption)<;>conv=>whnf))
   all_goals try(exfalso;omega)
   refine .ret _ ?_;conv=>whnf
   refine⟨[],⟨?_,rfl⟩,trivial⟩;conv=>lhs;whnf
def mQ:OL:= [(0,[]),(2,[0]),(4,[0,2]),(1,[2,4]),(3,[4]),(5,[]),(6,[]),(7,[]),(8,[])]
def lh:OL:= [(0,[]),(1,[0]),(2,[0]),(3,[0,1,2]),(5,rg 4),(6,rg 4),(7,[0,1,2,3,5,6]),(8,[0,1,2,3,5,6]),(4,[0,1,2,5,6,7,8]),(9,[0,1,2,5,6]),(10,[0,1,2]),(11,[0,1,2]),(12,[0,1,2]),(13,[0]),(14,[])]
def lq:OL:= [(0,[]),(1,[0]),(2,[0]),(3,[0,1,2]),(4,[0,1,2]),(5,[0]),(6,[])]
theorem PP (l:List ip)(hk:l.length≤2^40∧∀x ∈ l,x.key.length≤2^40):ai Tryz.prog 13 [.buf 1000001] [(1000001,j5 l)] (fun x r=>x= .d (.int .i64 (eF l))∧r= [(1000001,j5 l)]):=by
 have h1:=nQ (args:= [.buf 1000001]) 1000001 74 3 l.length (aW J5 kr l) (QY l hk) rfl (fun c r q=>nomatch q) rfl
  (fun x r h=>by obtain⟨rfl,rfl⟩:=h;exact⟨rfl,fun c q e=>(nomatch e),rfl⟩)
 exact h1.mono (fun x r h=>by obtain⟨r0,⟨q,rfl⟩,rfl⟩:=h;exact⟨q,rfl⟩)
theorem AP {k:List UInt8}(hk:k.length≤40){c:Int}{L:List ip}{n:Nat}(h:L.length≤n∧∀x ∈ L,x.key.length≤2^40):(oc k c L).length≤n+1∧∀x ∈ oc k c L,x.key.length≤2^40:=by
 unfold oc;split
 · refine⟨by rw[List.length_append];simp only[List.length_cons,List.length_nil];omega,fun x hx=> ?_⟩;rcases List.mem_append.1 hx with q|q
   · exact h.2 x q
   · rw[List.mem_singleton]at q;subst q;exact Nat.le_trans hk (by decide)
 · exact⟨by omega,h.2⟩
theorem DA {h:di}(hc:(nR h).inn.tm≠-1):decide ((h.legs.getD ((h.legs.length:Int) - 1).toNat dY).inn.tm= -1)=false:=decide_eq_false (by rw[Ag h];exact hc)
theorem Rt (h:di)(hp:EZ h)(hc:(nR h).inn.tm≠-1):ai Tryz.prog 47 [.agg ((ji h).map .d)] [] (fun y r=>y= .d (.bool false)∧r= []):=by
 have n1:=hp.n1;have n2:=hp.n2;rw[←DA hc];refine ae hT (C:= []) Tryz.func47 rfl Tryz.call47 rfl rfl rfl ?_;conv=>whnf
 repeat' (first|((first|(refine aa ?_ ?_<;>intro hb<;>try simp only[az]at hb)|omega|refine aA ?_|decide|assumption)<;>conv=>whnf))
 refine .ret _ ?_;conv=>whnf
 refine⟨[],⟨?_,rfl⟩,trivial⟩;conv=>lhs;whnf
set_option maxHeartbeats 8000000 in
theorem QL (d:uk)(hd:IF d)(hdE:rN d=0)(h:di)(hk:JY h)(hE:bN h=0)(hc:(nR h).inn.tm≠-1)(l:List ip)(hl:l.length≤2^10∧∀x ∈ l,x.key.length≤2^40):
 ai Tryz.prog 15 [.agg ((wY d).map .d),.agg ((ji h).map .d),.d (kV l)] [] (fun y r=>y=oB (ta d h l)∧r= []):=by
 have hp:=Dn hE hc;have c45:=QM d;rw[hdE]at c45;have c46:=z210 h hk;rw[hE]at c46;have c13:=QY l ⟨by omega,hl.2⟩;have h3:=gp [0,0,eF l] (by simp);have e3:al [0,0,eF l]=eF l:=by simp only[al];by_cases z:eF l=0<;>simp[z]
 rw[e3]at h3
 by_cases q:eF l=0
 · rw [q]at c13 h3;have hll:=mV.1 q;have c47:=Rt h hp hc;have c48:=Rk l (by omega);have c50:=Rm d hd h hp;have c51:=Q9 h hp;have c52:=K1 h.frm h.to hp.tm;have c53:=Rq h hp;obtain⟨L1,hL1⟩:∃L1,L1=oc ym (Bb d h) l:=⟨_,rfl⟩;obtain⟨L2,hL2⟩:∃L2,L2=oc Cs (Jq d h) L1:=⟨_,rfl⟩;obtain⟨L3,hL3⟩:∃L3,L3=oc Cc (d.eig*kO h.legs) L2:=⟨_,rfl⟩;have k1:=AP (k:=ym) (by decide) (c:=Bb d h) hl;have k2:=AP (k:=Cs) (by decide) (c:=Jq d h) k1;have k3:=AP (k:=Cc) (by decide) (c:=d.eig*kO h.legs) k2;rw[←hL1]at k1 k2 k3;rw[←hL2]at k2 k3;rw[←hL3]at k3;have a1:=Ot ym (Bb d h) l (by omega);rw[←hL1]at a1;have a1n:=OT ym (Bb d h);have a2:=Ot Cs (Jq d h) L1 (by omega);rw[←hL2]at a2;have a3:=Ot Cc (d.eig*kO h.legs) L2 (by omega);rw[←hL3]at a3;have c13b:=PP L3 ⟨by omega,k3.2⟩;have hO:D0 d h l=L3:=by unfold D0;rw[←hL1,←hL2,←hL3]
   unfold ta;rw[if_neg (fun z=>z q),hO]
   have hdw:0≤da h.frm h.to∧da h.frm h.to≤5762879:=by
    have:=hp.tm;unfold da;rw[Int.tdiv_eq_ediv_of_nonneg (by omega)];omega
   have hkm:=(wz hp.lg).1;have hms:=(wz hp.lg).2;have hn2:=hp.n2;obtain⟨⟨d1,d2,d3⟩,_⟩:=hd;have f1:0≤d.free*da h.frm h.to:=Int.mul_nonneg d1.1 hdw.1;have f2:d.free*da h.frm h.to≤10000*5762879:=Int.mul_le_mul d1.2 hdw.2 hdw.1 (by omega);have hi1:aS (d.free*da h.frm h.to):=by unfold aS;omega
   have hm0:0≤max 0 (xL h.legs - d.free*da h.frm h.to)∧max 0 (xL h.legs - d.free*da h.frm h.to)≤19999980:=by omega
   have g1:0≤d.km*max 0 (xL h.legs - d.free*da h.frm h.to):=Int.mul_nonneg d2.1 hm0.1;have g2:d.km*max 0 (xL h.legs - d.free*da h.frm h.to)≤30*19999980:=Int.mul_le_mul d2.2 hm0.2 hm0.1 (by omega)
   have hi2:aS (d.km*bif true then max 0 (xL h.legs - d.free*da h.frm h.to)else min 0 (xL h.legs - d.free*da h.frm h.to)):=by
    show aS (d.km*max 0 _);unfold aS;omega
   have m1:0≤d.eig*kO h.legs:=Int.mul_nonneg d3.1 hms.1;have m2:d.eig*kO h.legs≤1000*160:=Int.mul_le_mul d3.2 (by omega) hms.1 (by omega);have hi3:aS (d.eig*kO h.legs):=by unfold aS;omega
   refine ae hT (C:= []) Tryz.func15 rfl Tryz.call15 rfl rfl rfl ?_;conv=>whnf
   repeat' (first|(refine ac (c45) rfl rfl ?_;rotate_right;conv=>whnf)|(refine ac (c46) rfl rfl ?_;rotate_right;conv=>whnf)|(refine ac (c13) rfl rfl ?_;rotate_right;conv=>whnf)|(refine aw h3 ⟨aj (by rfl) (by rfl),trivial⟩ rfl ?_;conv=>whnf)|(refine ac (c47) rfl rfl ?_;rotate_right;conv=>whnf)|((first|(refine aa ?_ ?_<;>intro hb<;>try simp only[az]at hb)|refine aq hT 1 mQ ?_|refine aq hT 10 lh ?_|refine aq hT 11 lq ?_|omega|refine aA ?_|decide|assumption)<;>conv=>whnf))
   all_goals try(exfalso;omega)
   refine cd c48 [(7,501)] ?_;rintro x rout (⟨rfl,hnil,rfl⟩|⟨rfl,rfl⟩)
   · subst hnil;rw[←hL1]at a1n;refine⟨rfl,?_⟩;conv=>whnf
     repeat' (first|(refine ac (c50) rfl rfl ?_;rotate_right;conv=>whnf)|(refine cd a1n [(1000001,9),(50,502)] ?_;rintro y rout ⟨rfl,rfl⟩;refine⟨rfl,?_⟩;conv=>whnf)|(refine ac (c51) rfl rfl ?_;rotate_right;conv=>whnf)|(refine ac (c52) rfl rfl ?_;rotate_right;conv=>whnf)|((first|refine And.intro hi1 ?_|refine And.intro hi2 ?_|(refine cd a2 [(1000001,9),(1000002,502),(50,503)] ?_;rintro y rout ⟨rfl,rfl⟩;refine⟨rfl,?_⟩))<;>conv=>whnf)|(refine ac (c53) rfl rfl ?_;rotate_right;conv=>whnf)|((first|refine And.intro hi3 ?_|(refine cd a3 [(1000001,9),(1000002,503),(50,504)] ?_;rintro y rout ⟨rfl,rfl⟩;refine⟨rfl,?_⟩)|(refine cd c13b [(1000001,504)] ?_;rintro y rout ⟨rfl,rfl⟩;refine⟨rfl,?_⟩)|(refine aa ?_ ?_<;>intro hb<;>try simp only[az]at hb)|refine aq hT 1 mQ ?_|refine aq hT 10 lh ?_|refine aq hT 11 lq ?_|omega|refine aA ?_|decide|assumption)<;>conv=>whnf))
     · rw[if_pos hb];unfold oB;rw[if_pos hb];refine .ret _ ?_;conv=>whnf
       refine⟨[],⟨congrArg SV.tup ?_,rfl⟩,trivial⟩;repeat' (refine aN ?_ ?_)
       all_goals (conv=>lhs;whnf)
       all_goals try(with_reducible rfl)
     · rw[if_neg (fun z=>z hb)];unfold oB;rw[if_neg (fun z=>z rfl)];refine .freeze _ 504 74 3 _ _ rfl (.weak _ ?_);conv=>whnf
       exact⟨.tup [.d (kV L3),.d (.int .i64 0)],[],bK ⟨lr,lr,trivial⟩,⟨rfl,rfl⟩,trivial⟩
   · refine⟨rfl,?_⟩;conv=>whnf
     repeat' (first|(refine ac (c50) rfl rfl ?_;rotate_right;conv=>whnf)|(refine cd a1 [(1000001,9),(1000002,501),(50,502)] ?_;rintro y rout ⟨rfl,rfl⟩;refine⟨rfl,?_⟩;conv=>whnf)|(refine ac (c51) rfl rfl ?_;rotate_right;conv=>whnf)|(refine ac (c52) rfl rfl ?_;rotate_right;conv=>whnf)|((first|refine And.intro hi1 ?_|refine And.intro hi2 ?_|(refine cd a2 [(1000001,9),(1000002,502),(50,503)] ?_;rintro y rout ⟨rfl,rfl⟩;refine⟨rfl,?_⟩))<;>conv=>whnf)|(refine ac (c53) rfl rfl ?_;rotate_right;conv=>whnf)|((first|refine And.intro hi3 ?_|(refine cd a3 [(1000001,9),(1000002,503),(50,504)] ?_;rintro y rout ⟨rfl,rfl⟩;refine⟨rfl,?_⟩)|(refine cd c13b [(1000001,504)] ?_;rintro y rout ⟨rfl,rfl⟩;refine⟨rfl,?_⟩)|(refine aa ?_ ?_<;>intro hb<;>try simp only[az]at hb)|refine aq hT 1 mQ ?_|refine aq hT 10 lh ?_|refine aq hT 11 lq ?_|omega|refine aA ?_|decide|assumption)<;>conv=>whnf))
     · rw[if_pos hb];unfold oB;rw[if_pos hb];refine .ret _ ?_;conv=>whnf
       refine⟨[],⟨congrArg SV.tup ?_,rfl⟩,trivial⟩;repeat' (refine aN ?_ ?_)
       all_goals (conv=>lhs;whnf)
       all_goals try(with_reducible rfl)
     · rw[if_neg (fun z=>z hb)];unfold oB;rw[if_neg (fun z=>z rfl)];refine .freeze _ 504 74 3 _ _ rfl (.weak _ ?_);conv=>whnf
       exact⟨.tup [.d (kV L3),.d (.int .i64 0)],[],bK ⟨lr,lr,trivial⟩,⟨rfl,rfl⟩,trivial⟩
 · unfold ta;rw[if_pos q];generalize eF l=e at c13 h3 q;unfold oB;rw[if_pos q];refine ae hT (C:= []) Tryz.func15 rfl Tryz.call15 rfl rfl rfl ?_;conv=>whnf
   repeat' (first|(refine ac (c45) rfl rfl ?_;rotate_right;conv=>whnf)|(refine ac (c46) rfl rfl ?_;rotate_right;conv=>whnf)|(refine ac (c13) rfl rfl ?_;rotate_right;conv=>whnf)|((first|refine aw h3 ⟨aj (by rfl) (by rfl),trivial⟩ rfl ?_|(refine aa ?_ ?_<;>intro hb<;>try simp only[az]at hb)|refine aq hT 1 mQ ?_|refine aq hT 10 lh ?_|refine aq hT 11 lq ?_|omega|refine aA ?_|decide|assumption)<;>conv=>whnf))
   all_goals try(exfalso;omega)
   refine .ret _ ?_;conv=>whnf
   refine⟨[],⟨congrArg SV.tup ?_,rfl⟩,trivial⟩;repeat' (refine aN ?_ ?_)
   all_goals (conv=>lhs;whnf)
   all_goals try(with_reducible rfl)
theorem vw (s p:List UInt8)(hp:p≠ []):(Lib.split s p).length≤s.length+1:=by
 have key:∀ (n:Nat) (s:List UInt8),s.length≤n→∀k,(Lib.splitK p 0 k s).length≤s.length+1:=by
  intro n
  induction n with
  | zero=>
    intro s hs k
    cases k with
    |zero=>simp[Lib.splitK]
    | succ k=>
      unfold Lib.splitK;split
      · simp
      · rename_i h;have:=Lib.drop_shorter hp h
        omega
  | succ n ih=>
    intro s hs k
    cases k with
    |zero=>simp[Lib.splitK]
    | succ k=>
      unfold Lib.splitK;split
      · simp
      · rename_i h;have h1:=Lib.drop_shorter hp h;have h2:=ih (s.drop ((Lib.index s p).toNat+p.length)) (by omega) k;simp only[List.length_cons];omega
 exact key s.length s (Nat.le_refl _) _
theorem vQ {s p:List UInt8}{x:List UInt8}(h:x ∈ Lib.split s p):x.length≤s.length:=by
 have key:∀ (k:Nat) (s:List UInt8),∀x ∈ Lib.splitK p 0 k s,x.length≤s.length:=by
  intro k
  induction k with
  |zero=>intro s x hx;simp[Lib.splitK]at hx;subst hx;exact Nat.le_refl _
  | succ k ih=>
    intro s x hx;unfold Lib.splitK at hx;split at hx
    · simp at hx;subst hx;exact Nat.le_refl _
    · rcases List.mem_cons.1 hx with q|q
      · subst q;simp;omega
      · have:=ih _ x q;simp at this;omega
 exact key _ s x h
def nY (l:List (List UInt8)):Bool:= !decide ([] ∈ l)
theorem Ex {sep:List UInt8}{save:Nat}:∀ {k:Nat} {s:List UInt8},Lib.splitK sep save k s≠ []
 |0,s=>by simp[Lib.splitK]
 |k+1,s=>by unfold Lib.splitK;split<;>simp
theorem KY (s:List UInt8)(hs:s.length≤2^30):ai Tryz.prog 71 [.d (.str s)] kx (fun x r=>x= .tup [.d (eE (Lib.split s [32])),.d (.bool (nY (Lib.split s [32])))]∧r=kx):=by
 have hl:=vw s [32] (by decide);refine ae hT (C:= []) Tryz.func71 rfl Tryz.call71 rfl rfl rfl ?_;conv=>whnf
 repeat' (first|(refine dm (E1 s [32] (by omega) (by decide)) rfl rfl rfl rfl ?_;conv=>whnf)|(refine ac (Lw (Lib.split s [32]) (by omega) []) rfl rfl ?_;rotate_right;conv=>whnf)|((first|(refine aa ?_ ?_<;>intro hb<;>try simp only[az]at hb)|omega|refine aA ?_|decide|assumption)<;>conv=>whnf))
 refine .ret _ ?_;conv=>whnf
 refine⟨kx,⟨congrArg SV.tup ?_,rfl⟩,rr,trivial⟩;repeat' (refine aN ?_ ?_)
 all_goals (conv=>lhs;whnf)
 all_goals try(with_reducible rfl)
 all_goals rfl
structure lU where
 word:List UInt8
 texts:List (List UInt8)
 nums:List Int
def Bh (t:lU):List DV:= [.str t.word,eE t.texts,gr t.nums]
def Kt:lU:=⟨[],[],[]⟩
def uH (f:List UInt8)(w:List (List UInt8)):Nat→List (List UInt8)
 |0=> []
 |i+1=>if f.getD i 0=119 then uH f w i++ [w.getD i []]else uH f w i
def uF (f:List UInt8)(w:List (List UInt8)):Nat→List Int
 |0=> []
 |i+1=>if f.getD i 0=119 then uF f w i else uF f w i++ [fd (w.getD i [])]
theorem Dj (f:List UInt8)(w:List (List UInt8)):∀i,(uH f w i).length≤i
 |0=>by simp[uH]
 | i+1=>by
   have:=Dj f w i;unfold uH;split
   · rw[List.length_append,List.length_singleton];omega
   · omega
theorem Cv (f:List UInt8)(w:List (List UInt8)):∀i,(uF f w i).length≤i
 |0=>by simp[uF]
 | i+1=>by
   have:=Cv f w i;unfold uF;split
   · omega
   · rw[List.length_append,List.length_singleton];omega
def EM (f:List UInt8)(w:List (List UInt8)):Bool:=decide (∀j,j<w.length→(f.getD j 0=119∨dB (w.getD j [])=true))
def iD (w:List (List UInt8)):List UInt8:=w.getD 0 []
def jh (fm:Mp (List UInt8))(s:List UInt8):Bool:=
 nY (Lib.split s [32])&&(fm.has (iD (Lib.split s [32]))&&(decide ((Lib.split s [32]).length=1+(fm.val (iD (Lib.split s [32]))).length)&&EM (fm.val (iD (Lib.split s [32]))) ((Lib.split s [32]).drop 1)))
def dq (fm:Mp (List UInt8))(s:List UInt8):lU:=
 ⟨iD (Lib.split s [32]),uH (fm.val (iD (Lib.split s [32]))) ((Lib.split s [32]).drop 1) ((Lib.split s [32]).drop 1).length,uF (fm.val (iD (Lib.split s [32]))) ((Lib.split s [32]).drop 1) ((Lib.split s [32]).drop 1).length⟩
set_option maxHeartbeats 4000000 in
theorem uf (fm:Mp (List UInt8))(hf:∀k,(fm.val k).length≤2^20)(s:List UInt8)(hs:s.length≤2^20):
 ai Tryz.prog 191 [.d (.str s),.mp 1000001] [(1000001,eY false [.str []] pT fm),(1000009,KX)] (fun y r=>y= .tup [.agg ((Bh (if jh fm s then dq fm s else Kt)).map .d),.d (.bool (jh fm s))]∧r= [(1000001,eY false [.str []] pT fm),(1000009,KX)]):=by
 obtain⟨W,hW⟩:∃W,W=Lib.split s [32]:=⟨_,rfl⟩;have c1:=KY s (by omega);have hl:=vw s [32] (by decide);have hn:Lib.split s [32]≠ []:=Ex;have hmem:∀x ∈ Lib.split s [32],x.length≤s.length:=fun x hx=>vQ hx
 have hn1:1≤W.length:=by rw[hW];exact List.length_pos_iff.2 hn
 unfold jh dq;rw[←hW]at c1 hl hmem ⊢;refine ae hT (C:= []) Tryz.func191 rfl Tryz.call191 rfl rfl rfl ?_;conv=>whnf
 have hfw:=hf (iD W);repeat' (first|((first|refine dm c1 rfl rfl rfl rfl ?_|refine And.intro (rfl:aK _=some [.str []]) ?_|(refine And.intro (by have:=hf (cf [DV.str (W.getD (Int.toNat 0) [])]);unfold aS;omega) ?_)|(refine aa ?_ ?_<;>intro hb<;>try simp only[az]at hb)|omega|refine aA ?_|decide|assumption)<;>conv=>whnf))
 all_goals first
  | (have hE:(nY W&&(fm.has (iD W)&&(decide (W.length=1+(fm.val (iD W)).length)&&EM (fm.val (iD W)) (W.drop 1))))=false:=by
      first
       |(rw[show nY W=false from hb];rfl)
       |(rw[show fm.has (iD W)=false from hb];simp)
       | (have q:¬ (W.length:Int)=1+((fm.val (iD W)).length:Nat):=hb
          rw[show decide (W.length=1+(fm.val (iD W)).length)=false from decide_eq_false (by omega)];simp)
     rw[hE];refine .weak _ ?_;conv=>whnf
     exact⟨.tup [.agg ((Bh Kt).map .d),.d (.bool false)],_,bK ⟨cM ⟨lr,aO,aO,trivial⟩,lr,trivial⟩,⟨rfl,rfl⟩,rr,rr,trivial⟩)
  |skip
 trace_state
 · obtain ⟨f,hfe⟩:∃f,f=fm.val (iD W):=⟨_,rfl⟩;rw[←hfe]at hfw;obtain⟨W1,hW1⟩:∃W1,W1=W.drop 1:=⟨_,rfl⟩;have hl1:W1.length=W.length - 1:=by rw[hW1,List.length_drop]
   have hlf:W1.length=f.length:=by
    have:(W.length:Int)=1+((fm.val (iD W)).length:Nat):=hb;rw[←hfe]at this;omega
   have hm1:∀j,(W1.getD j []).length≤2^40:=fun j=>by
    by_cases hj:j<W1.length
    · have h1:W1.getD j [] ∈ W:=by
       have h2:W1.getD j [] ∈ W1:=by rw[List.getD_eq_getElem?_getD,List.getElem?_eq_getElem hj];exact List.getElem_mem hj
       rw[hW1]at h2 ⊢;exact List.mem_of_mem_drop h2
      have:=hmem _ h1;omega
    · rw[List.getD_eq_getElem?_getD,List.getElem?_eq_none (by omega)];simp
   refine ah hT (C:= []) (ι:=Nat) (fun i=>i≤W1.length∧∀j,j<i→(f.getD j 0=119∨dB (W1.getD j [])=true))
    (fun i=>aI [(4,.ptr 4 0),(8,.d (.str f)),(10,.ptr 10 0),(48,.d (eE W1)),(49,.d (.int .i64 W1.length)),(50,.d (.int .i64 i))] [(1000001,eY false [.str []] pT fm),(1000009,KX),(4,.cells 286 [.d (.str []),.d .nilsl,.d .nilsl]),(10,.cells 286 [.d (.str (iD W)),.buf 20,.buf 21]),(20,aL 9 1 sF [] (uH f W1 i)),(21,aL 3 1 iF 0 (uF f W1 i))])
    (fun i=>W1.length - i) 0 ⟨by omega,fun j hj=>by omega⟩ ?_ ?_
   · subst hW1 hfe;refine dc.trans (dg 10 20 9 1 1 (aW sF [] []) rfl rfl rfl (by decide) rfl) ?_;refine dc.trans (dg 10 21 3 1 2 (aW iF 0 []) rfl rfl rfl (by decide) rfl) ?_;refine(af [(1000001,1000001),(1000009,1000009),(4,4),(10,10),(20,20),(21,21)] rfl rfl ⟨lr,lr,lr,AM (by rw[List.length_drop];omega),ap (by rw[List.length_drop];omega),lr,trivial⟩ ⟨rr,rr,rr,rr,rr,rr,trivial⟩)
   rintro i ⟨p1,p2⟩;have e1:(i:Int).toNat=i:=Int.toNat_natCast i;have htl:=Dj f W1 i;have hnl:=Cv f W1 i;conv=>whnf
   repeat' (first|((first|refine dm (JM (W1.getD (i:Int).toNat []) (hm1 _)) rfl rfl rfl rfl ?_|(refine And.intro (by show(_+1)*16≤_;omega) ?_)|(refine And.intro (by show(_+1)*8≤_;omega) ?_)|(refine aa ?_ ?_<;>intro hb<;>try simp only[az]at hb)|omega|refine aA ?_|decide|assumption)<;>conv=>whnf))
   all_goals first
    | (have hc:f.getD i 0=119:=UInt8.toNat_inj.1 (by have:((f.getD i 0).toNat:Int)=119:=hb;show _=119;omega)
       have hT2:uH f W1 (i+1)=uH f W1 i++ [W1.getD i []]:=by rw[uH,if_pos hc]
       have hN2:uF f W1 (i+1)=uF f W1 i:=by rw[uF,if_pos hc]
       refine⟨i+1,⟨by omega,fun j hj=> ?_⟩,by omega,af [(1000001,1000001),(1000009,1000009),(4,4),(10,10),(20,63),(21,21)] rfl rfl ⟨lr,lr,lr,lr,lr,lr,trivial⟩ ⟨rr,rr,rr,rr,(by show aY.le _ (aL 9 1 sF [] (uH f W1 (i+1)));rw[hT2];exact aG (x:=W1.getD i []) rfl),(by show aY.le _ (aL 3 1 iF 0 (uF f W1 (i+1)));rw[hN2];exact rr),trivial⟩⟩
       by_cases q:j<i
       · exact p2 j q
       · exact .inl (by rw[show j=i by omega];exact hc))
    | (have hb0:¬ ((f.getD i 0).toNat:Int)=119:=by assumption
       have hc:¬f.getD i 0=119:=fun q=>hb0 (by rw[q];rfl)
       have hk:dB (W1.getD i [])=true:=hb;have hT2:uH f W1 (i+1)=uH f W1 i:=by rw[uH,if_neg hc]
       have hN2:uF f W1 (i+1)=uF f W1 i++ [fd (W1.getD i [])]:=by rw[uF,if_neg hc]
       refine⟨i+1,⟨by omega,fun j hj=> ?_⟩,by omega,af [(1000001,1000001),(1000009,1000009),(4,4),(10,10),(20,20),(21,77)] rfl rfl ⟨lr,lr,lr,lr,lr,lr,trivial⟩ ⟨rr,rr,rr,rr,(by show aY.le _ (aL 9 1 sF [] (uH f W1 (i+1)));rw[hT2];exact rr),(by show aY.le _ (aL 3 1 iF 0 (uF f W1 (i+1)));rw[hN2];exact aG (x:=fd (W1.getD i [])) rfl),trivial⟩⟩
       by_cases q:j<i
       · exact p2 j q
       · exact .inr (by rw[show j=i by omega];exact hk))
    | (have hb0:¬ ((f.getD i 0).toNat:Int)=119:=by assumption
       have hc:¬f.getD i 0=119:=fun q=>hb0 (by rw[q];rfl)
       have hk:dB (W1.getD i [])=false:=hb
       have hE:(nY W&&(fm.has (iD W)&&(decide (W.length=1+(fm.val (iD W)).length)&&EM (fm.val (iD W)) (W.drop 1))))=false:=by
        rw[←hfe,←hW1,show EM f W1=false from decide_eq_false (fun q=>by
         rcases q i (by omega)with r|r
         · exact hc r
         · rw[hk]at r;cases r)]
        simp
       rw[hE];refine .weak _ ?_;conv=>whnf
       exact⟨.tup [.agg ((Bh Kt).map .d),.d (.bool false)],_,bK ⟨cM ⟨lr,aO,aO,trivial⟩,lr,trivial⟩,⟨rfl,rfl⟩,rr,rr,trivial⟩)
    | (have hE:(nY W&&(fm.has (iD W)&&(decide (W.length=1+(fm.val (iD W)).length)&&EM (fm.val (iD W)) (W.drop 1))))=true:=by
        have h1:nY W=true:=by assumption
        have h2:fm.has (iD W)=true:=by assumption
        rw[h1,h2,←hfe,←hW1,show EM f W1=true from decide_eq_true (fun j hj=>p2 j (by omega)),show decide (W.length=1+f.length)=true from decide_eq_true (by omega)];rfl
       rw[hE,if_pos rfl,←hfe,←hW1];have hi:i=W1.length:=by omega
       subst hi;refine .freeze _ 20 9 1 _ _ rfl ?_;refine .freeze _ 21 3 1 _ _ rfl ?_;refine .ent _ _ (lC 4 20 1 rfl rfl rfl) ?_;refine .ent _ _ (lC 4 21 2 rfl rfl rfl) ?_;refine .ret _ ?_;conv=>whnf
       exact⟨_,⟨rfl,rfl⟩,rr,rr,trivial⟩)
def formsM:Mp (List UInt8):=((((((((((((((Mp.nil []).put [101,110,116,101,114] [119,119]).put [115,104,111,112] [119,119]).put [100,111,110,101] [119,119]).put [99,111,109,101] [119,119]).put [103,111,110,101] [119,119]).put [108,101,97,118,101] [119,119,119]).put [98,111,111,107] [119,119,110,110,110]).put [99,97,110,99,101,108] [119]).put [115,116,97,114,116] [119,119,110,119,119,110,110]).put [115,119,97,112] [119,119,110,110,119,110,110]).put [101,120,116,101,110,100] [119,110]).put [99,108,111,115,101] [119,119,110,110]).put [112,97,121] [119,110])
def aT:Mp Int:=(((((((Mp.nil 0).put [101,110,116,101,114] 1).put [115,104,111,112] 4).put [100,111,110,101] 5).put [99,111,109,101] 7).put [103,111,110,101] 8).put [108,101,97,118,101] 6)
theorem HK (s k v b:List UInt8):(bif decide (s=k)then [DV.str v]else [DV.str b])= [DV.str (if s=k then v else b)]:=by by_cases h:s=k<;>simp[h]
theorem Jz (s k:List UInt8)(v b:Int):(bif decide (s=k)then [DV.int .i64 v]else [DV.int .i64 b])= [DV.int .i64 (if s=k then v else b)]:=by by_cases h:s=k<;>simp[h]
theorem Fi (v:ByteArray):wL (.string v)= .str v.data.toList:=rfl
theorem LQ (v:Int):wL (.int .i64 v)= .int .i64 v:=rfl
set_option maxHeartbeats 4000000 in
theorem mo:ai Tryz.prog 192 [] [] (fun y r=>y= .mp 1∧r= [(1,eY false [.str []] pT formsM)]):=by
 refine ae hT (C:= []) Tryz.func192 rfl Tryz.call192 rfl rfl rfl ?_;conv=>whnf
 repeat' (first|((first|(refine aa ?_ ?_<;>intro hb<;>try simp only[az]at hb)|omega|refine aA ?_|decide|assumption)<;>conv=>whnf))
 refine .ret _ ?_;conv=>whnf
 refine⟨_,⟨rfl,rfl⟩,bC (fun K hK=> ?_),trivial⟩;obtain⟨s,rfl⟩:=gg hK;simp only[Fi,mY,HK];exact⟨rfl,rfl⟩
set_option maxHeartbeats 4000000 in
theorem oh:ai Tryz.prog 193 [] [] (fun y r=>y= .mp 1∧r= [(1,eY false [.int .i64 0] ED aT)]):=by
 refine ae hT (C:= []) Tryz.func193 rfl Tryz.call193 rfl rfl rfl ?_;conv=>whnf
 repeat' (first|((first|(refine aa ?_ ?_<;>intro hb<;>try simp only[az]at hb)|omega|refine aA ?_|decide|assumption)<;>conv=>whnf))
 refine .ret _ ?_;conv=>whnf
 refine⟨_,⟨rfl,rfl⟩,bC (fun K hK=> ?_),trivial⟩;obtain⟨s,rfl⟩:=gg hK;simp only[Fi,LQ,mY,Jz];exact⟨rfl,rfl⟩
def AX:OL:= [(0,[]),(1,[]),(2,[]),(3,[]),(4,rg 4),(5,rg 4),(6,[]),(7,[]),(8,[]),(9,[8]),(10,[9]),(11,[])]
def BQ:OL:= [(0,[]),(1,[]),(2,[]),(3,[]),(4,[]),(5,[]),(6,[]),(7,[3,4,5,6]),(8,[3,4,5,6]),(9,[]),(10,[]),(11,[]),(12,[]),(13,[]),(14,[]),(15,[]),(16,[]),(17,[]),(18,[]),(19,[15,16,17,18]),(20,[15,16,17,18]),(21,[]),(22,[]),(23,[]),(24,[]),(26,rg 25),(35,[0,1,2,3,4,5,6,7,8,9,10,11,12,13,14,15,16,17,18,19,20,21,22,23,24,26]),(36,[0,1,2,3,4,5,6,7,8,9,10,11,12,13,14,15,16,17,18,19,20,21,22,23,24,26,35]),(25,[26,35,36]),(27,[35,36]),(28,[35,36]),(29,[35,36]),(30,[35,36,28,29]),(31,[35,36,28,29]),(32,[35,36]),(33,[35,36]),(34,[35,36]),(37,[]),(38,[]),(39,[]),(40,[])]
def nt (vm:Mp (List UInt8))(sm:Mp Bool)(s:dw)(x:cJ):Int:=
 al [if(!vm.has x.veh||(!sm.val x.st||(decide (x.kind=6)&& !sm.val x.to)))then 8 else 0,if(decide (x.kind=6)&&decide (x.to=x.st))then 14 else 0,g8 s x]
def lP (vm:Mp (List UInt8))(sm:Mp Bool)(s:dw)(x:cJ):dw:=if nt vm sm s x=0 then gD s x else s
set_option maxHeartbeats 4000000 in
theorem O5 (h:eH)(vm:Mp (List UInt8))(sm:Mp Bool)(s:dw)(x:cJ)(hl:s.log.length≤2^20):
 ai Tryz.prog 194 [.ptr 1000001 0,.agg ((iy x).map .d)] (jf h vm sm s) (fun y r=>y= .d (.int .i64 (nt vm sm s x))∧r=cL h vm sm (lP vm sm s x)):=by
 have c1:=IA h vm sm s x;have c2:=GL h vm sm s x hl;generalize hC:g8 s x=C at c1;refine ae hT (C:= []) Tryz.func194 rfl Tryz.call194 rfl rfl rfl ?_;conv=>whnf
 repeat' (first|((first|(refine cd (c1) MI ?_;rintro y rout ⟨rfl,rfl⟩;refine⟨rfl,?_⟩)|(refine cd (c2) Ib ?_;rintro y rout ⟨rfl,rfl⟩;refine⟨rfl,?_⟩))<;>conv=>whnf)|(refine ac (fC _ _) rfl rfl ?_;rotate_right;conv=>whnf)|((first|refine And.intro (rfl:aK _=some (kE oM)) ?_|refine And.intro (rfl:aK _=some [.bool false]) ?_|refine And.intro (rfl:aK _=some (pT [])) ?_|refine And.intro (rfl:aK _=some [.str []]) ?_|refine And.intro (rfl:aK _=some (lS lO)) ?_|refine And.intro (rfl:aK _=some (eK none)) ?_|refine And.intro (rfl:aK _=some [.int .i64 0]) ?_|refine aw (gp [_,_,_] (by simp)) ⟨aj (by rfl) (by rfl),trivial⟩ rfl ?_|(refine aa ?_ ?_<;>intro hb<;>try simp only[az]at hb)|refine aq hT 1 AX ?_|refine aq hT 3 BQ ?_|omega|refine aA ?_|decide|assumption)<;>conv=>whnf))
 all_goals first
  | (have hS:lP vm sm s x=s:=by
      clear c1 c2;simp only[cf]at*;unfold lP nt;rw[hC]
      first
       |(simp_all [al];done)
       |(simp_all [al];grind)
       |grind [al]
     rw[hS];refine .ent _ _ (af (ts:= [(4,.d (.int .i64 (nt vm sm s x)))]) (rs:=cL h vm sm (s)) ul rfl rfl ⟨ap (by clear c1 c2;simp only[cf]at*;unfold nt;rw[hC];first|(simp_all [al];done)|(simp_all [al];grind)|grind [al]),trivial⟩ ⟨rr,rr,rr,rr,rr,rr,rr,rr,rr,rr,trivial⟩) ?_;refine .ret _ ?_;conv=>whnf
     exact⟨_,⟨rfl,rfl⟩,rr,rr,rr,rr,rr,rr,rr,rr,rr,rr,trivial⟩)
  | (have hS:lP vm sm s x=gD s x:=by
      clear c1 c2;simp only[cf]at*;unfold lP nt;rw[hC]
      first
       |(simp_all [al];done)
       |(simp_all [al];grind)
       |grind [al]
     rw[hS];refine .ent _ _ (af (ts:= [(4,.d (.int .i64 (nt vm sm s x)))]) (rs:=cL h vm sm (gD s x)) MH rfl rfl ⟨ap (by clear c1 c2;simp only[cf]at*;unfold nt;rw[hC];first|(simp_all [al];done)|(simp_all [al];grind)|grind [al]),trivial⟩ ⟨rr,rr,rr,rr,rr,rr,rr,rr,rr,rr,trivial⟩) ?_;refine .ret _ ?_;conv=>whnf
     exact⟨_,⟨rfl,rfl⟩,rr,rr,rr,rr,rr,rr,rr,rr,rr,rr,trivial⟩)
def s7:OL:= [(0,[]),(1,[]),(3,[0,1]),(7,[0,1,3]),(8,[0,1,3]),(9,[0,1,3]),(10,[0,1,3]),(11,[0,1,3,7,8,9,10]),(12,[0,1,3]),(13,[0,1,3,7,8,9,10,11,12]),(14,[0,1,3]),(15,[0,1,3]),(2,[3,7,8,9,10,11,12,13,14,15]),(4,[7,8,9,10,11,12,13,14,15]),(5,[7,8,9,10,11,12,13,14,15]),(6,[7,8,9,10,11,12,13,14,15]),(16,[]),(17,[]),(18,[]),(19,[])]
def kf (s:dw)(key:List UInt8)(c:Int):Int:=al [if !s.his.has key then 8 else 0,if !decide (0≤c∧c≤1000000000)then 1 else 0,if 1000000000<s.paid.val key+c then 2 else 0]
def kU (s:dw)(key:List UInt8)(c:Int):dw:=if kf s key c=0 then{s with paid:=s.paid.put key (s.paid.val key+c)}else s
set_option maxHeartbeats 4000000 in
theorem Qx (h:eH)(vm:Mp (List UInt8))(sm:Mp Bool)(s:dw)(key:List UInt8)(c:Int)(hc: -2^40≤c∧c≤2^40)(hp: -2^40≤s.paid.val key∧s.paid.val key≤2^40):
 ai Tryz.prog 197 [.ptr 1000001 0,.d (.str key),.d (.int .i64 c)] (jf h vm sm s) (fun y r=>y= .d (.int .i64 (kf s key c))∧r=cL h vm sm (kU s key c)):=by
 obtain⟨hc1,hc2⟩:=hc;obtain⟨hp1,hp2⟩:=hp;rcases hv:s.his.val key with _|g
 · skip
   refine ae hT (C:= []) Tryz.func197 rfl Tryz.call197 rfl rfl rfl ?_;conv=>whnf
   repeat' (first|(refine ac (ix _ _ _) rfl rfl ?_;rotate_right;conv=>whnf)|(refine And.intro (by show aS (s.paid.val key+c);unfold aS;omega) ?_;conv=>whnf)|(refine ac (fC _ _) rfl rfl ?_;rotate_right;conv=>whnf)|((first|(refine And.intro (rfl:aK _=some (eK none)) ?_;refine dW (row':=eK none) (congrArg eK hv) ?_)|refine And.intro (rfl:aK _=some (kE oM)) ?_|refine And.intro (rfl:aK _=some [.bool false]) ?_|refine And.intro (rfl:aK _=some (pT [])) ?_|refine And.intro (rfl:aK _=some [.str []]) ?_|refine And.intro (rfl:aK _=some (lS lO)) ?_|refine And.intro (rfl:aK _=some (eK none)) ?_|refine And.intro (rfl:aK _=some [.int .i64 0]) ?_|refine aw (gp [_,_,_] (by simp)) ⟨aj (by rfl) (by rfl),trivial⟩ rfl ?_|(refine aa ?_ ?_<;>intro hb<;>try simp only[az]at hb)|refine aq hT 2 s7 ?_|omega|refine aA ?_|decide|assumption)<;>conv=>whnf))
   all_goals first
    | (have hS:kU s key c=(s):=by
        unfold kU kf
        (try simp only[cf]at*);first|(simp_all [al];done)|(simp_all [al];grind)|grind [al]
       rw[hS];refine .ent _ _ (af (ts:= [(6,.d (.int .i64 (kf s key c)))]) (rs:=cL h vm sm (s)) ul rfl rfl ⟨ap (by unfold kf;(try simp only[cf]at*);first|(simp_all [al];done)|(simp_all [al];grind)|grind [al]),trivial⟩ ⟨rr,rr,rr,rr,rr,rr,rr,rr,rr,rr,trivial⟩) ?_;refine .ret _ ?_;conv=>whnf
       exact⟨_,⟨rfl,rfl⟩,rr,rr,rr,rr,rr,rr,rr,rr,rr,rr,trivial⟩)
    | (have hS:kU s key c=({s with paid:=s.paid.put key (s.paid.val key+c)}):=by
        unfold kU kf
        (try simp only[cf]at*);first|(simp_all [al];done)|(simp_all [al];grind)|grind [al]
       rw[hS];refine .ent _ _ (af (ts:= [(6,.d (.int .i64 (kf s key c)))]) (rs:=cL h vm sm ({s with paid:=s.paid.put key (s.paid.val key+c)})) ul rfl rfl ⟨ap (by unfold kf;(try simp only[cf]at*);first|(simp_all [al];done)|(simp_all [al];grind)|grind [al]),trivial⟩ ⟨rr,rr,rr,rr,rr,rr,rr,rr,fq,rr,trivial⟩) ?_;refine .ret _ ?_;conv=>whnf
       exact⟨_,⟨rfl,rfl⟩,rr,rr,rr,rr,rr,rr,rr,rr,rr,rr,trivial⟩)
 · skip
   refine ae hT (C:= []) Tryz.func197 rfl Tryz.call197 rfl rfl rfl ?_;conv=>whnf
   repeat' (first|(refine ac (ix _ _ _) rfl rfl ?_;rotate_right;conv=>whnf)|(refine And.intro (by show aS (s.paid.val key+c);unfold aS;omega) ?_;conv=>whnf)|(refine ac (fC _ _) rfl rfl ?_;rotate_right;conv=>whnf)|((first|(refine And.intro (rfl:aK _=some (eK none)) ?_;refine dW (row':=ji g) (congrArg eK hv) ?_)|refine And.intro (rfl:aK _=some (kE oM)) ?_|refine And.intro (rfl:aK _=some [.bool false]) ?_|refine And.intro (rfl:aK _=some (pT [])) ?_|refine And.intro (rfl:aK _=some [.str []]) ?_|refine And.intro (rfl:aK _=some (lS lO)) ?_|refine And.intro (rfl:aK _=some (eK none)) ?_|refine And.intro (rfl:aK _=some [.int .i64 0]) ?_|refine aw (gp [_,_,_] (by simp)) ⟨aj (by rfl) (by rfl),trivial⟩ rfl ?_|(refine aa ?_ ?_<;>intro hb<;>try simp only[az]at hb)|refine aq hT 2 s7 ?_|omega|refine aA ?_|decide|assumption)<;>conv=>whnf))
   all_goals first
    | (have hS:kU s key c=(s):=by
        unfold kU kf
        (try simp only[cf]at*);first|(simp_all [al];done)|(simp_all [al];grind)|grind [al]
       rw[hS];refine .ent _ _ (af (ts:= [(6,.d (.int .i64 (kf s key c)))]) (rs:=cL h vm sm (s)) ul rfl rfl ⟨ap (by unfold kf;(try simp only[cf]at*);first|(simp_all [al];done)|(simp_all [al];grind)|grind [al]),trivial⟩ ⟨rr,rr,rr,rr,rr,rr,rr,rr,rr,rr,trivial⟩) ?_;refine .ret _ ?_;conv=>whnf
       exact⟨_,⟨rfl,rfl⟩,rr,rr,rr,rr,rr,rr,rr,rr,rr,rr,trivial⟩)
    | (have hS:kU s key c=({s with paid:=s.paid.put key (s.paid.val key+c)}):=by
        unfold kU kf
        (try simp only[cf]at*);first|(simp_all [al];done)|(simp_all [al];grind)|grind [al]
       rw[hS];refine .ent _ _ (af (ts:= [(6,.d (.int .i64 (kf s key c)))]) (rs:=cL h vm sm ({s with paid:=s.paid.put key (s.paid.val key+c)})) ul rfl rfl ⟨ap (by unfold kf;(try simp only[cf]at*);first|(simp_all [al];done)|(simp_all [al];grind)|grind [al]),trivial⟩ ⟨rr,rr,rr,rr,rr,rr,rr,rr,fq,rr,trivial⟩) ?_;refine .ret _ ?_;conv=>whnf
       exact⟨_,⟨rfl,rfl⟩,rr,rr,rr,rr,rr,rr,rr,rr,rr,rr,trivial⟩)
def sV:OL:= [(0,[]),(1,[]),(2,[]),(3,[]),(4,[]),(5,[3,4]),(6,[3,4,5]),(7,[3,4,5]),(8,[3,4]),(9,[3,4]),(10,[3,4]),(11,[]),(12,[]),(13,[])]
theorem Pj (x:fB)(key:List UInt8):ai Tryz.prog 315 [.agg ((rq x).map .d),.ptr 1000001 0] [(1000001,xN key)] (fun y r=>y= .d (.bool (x.key==key))∧r= [(1000001,xN key)]):=by
 refine ae hT (C:= []) Tryz.func315 rfl Tryz.call315 rfl rfl rfl ?_;conv=>whnf
 refine .ret _ ?_;conv=>whnf
 exact⟨[(1000001,xN key)],⟨rfl,rfl⟩,rr,trivial⟩
theorem K3 (l:List fB)(hl:l.length≤2^40)(key:List UInt8):ai Tryz.prog 179 [.d (gP l),.fn 315 [.ptr 1000001 0]] [(1000001,xN key)] (fun x r=>x= .d (.int .i64 (fY l key))∧r= [(1000001,xN key)]):=by
 refine ae hT (C:= []) Tryz.func179 rfl Tryz.call179 rfl rfl rfl ?_;conv=>whnf
 refine ah hT (C:= []) (ι:=Nat) (fun i=>i≤l.length∧∀j,j<i→((l.getD j bB).key==key)=false) (fun i=>aI [(0,.d (gP l)),(1,.fn 315 [.ptr 1000001 0]),(7,.d (.int .i64 l.length)),(8,.d (.int .i64 i))] [(1000001,xN key)]) (fun i=>l.length - i) 0 ⟨by omega,by omega⟩ (by exact be [(1000001,1000001)]) ?_;rintro i ⟨p1,p2⟩;have e1:(i:Int).toNat=i:=Int.toNat_natCast i;conv=>whnf
 repeat' (first|((first|(refine cd (Pj (l.getD (i:Int).toNat bB) key) [(1000001,1000001)] ?_;rintro x rout ⟨rfl,rfl⟩;refine⟨rfl,?_⟩)|(refine aa ?_ ?_<;>intro hb<;>try simp only[az]at hb)|omega|refine aA ?_|decide|assumption)<;>conv=>whnf))
 · refine .ret _ ?_;conv=>whnf
   refine⟨[(1000001,xN key)],⟨?_,rfl⟩,rr,trivial⟩;conv=>lhs;whnf
   congr 2
   exact(gd (by omega) p2 (by simpa using hb)).symm
 · exact⟨i+1,⟨by omega,bw p2 (by simpa using hb)⟩,by omega,(by exact be [(1000001,1000001)])⟩
 · refine .ret _ ?_;conv=>whnf
   refine⟨[(1000001,xN key)],⟨?_,rfl⟩,rr,trivial⟩;conv=>lhs;whnf
   congr 2
   have:i=l.length:=by omega
   subst this;exact(ew p2).symm
def yP (l:List fB)(key:List UInt8):Bool:=decide (0≤fY l key)
theorem MM (l:List fB)(hl:l.length≤2^40)(key:List UInt8):ai Tryz.prog 314 [.d (gP l),.fn 315 [.ptr 1000001 0]] [(1000001,xN key)] (fun x r=>x= .d (.bool (yP l key))∧r= [(1000001,xN key)]):=by
 refine ae hT (C:= []) Tryz.func314 rfl Tryz.call314 rfl rfl rfl ?_;conv=>whnf
 repeat' (first|((first|(refine cd (K3 l hl key) [(1000001,1000001)] ?_;rintro x rout ⟨rfl,rfl⟩;refine⟨rfl,?_⟩)|(refine aa ?_ ?_<;>intro hb<;>try simp only[az]at hb)|omega|refine aA ?_|decide|assumption)<;>conv=>whnf))
 refine .ret _ ?_;conv=>whnf
 exact⟨_,⟨rfl,rfl⟩,rr,trivial⟩
theorem Em (l:List fB)(hl:l.length≤2^40)(key:List UInt8):ai Tryz.prog 305 [.d (gP l),.d (.str key)] [] (fun x r=>x= .d (.bool (yP l key))∧r= []):=by
 refine ae hT (C:= []) Tryz.func305 rfl Tryz.call305 rfl rfl rfl ?_;conv=>whnf
 repeat' (first|((first|(refine cd (MM l hl key) [(1000001,3)] ?_;rintro x rout ⟨rfl,rfl⟩;refine⟨rfl,?_⟩)|(refine aa ?_ ?_<;>intro hb<;>try simp only[az]at hb)|omega|refine aA ?_|decide|assumption)<;>conv=>whnf))
 refine .ret _ ?_;conv=>whnf
 refine⟨[],⟨?_,rfl⟩,trivial⟩;conv=>lhs;whnf
def xC (b:Ca):Int:=
 if aE b.key=false∨aE b.cls=false then 5 else if b.frm<0∨b.to≤b.frm∨5761439<b.to then 1
 else if ¬ (0≤b.made∧b.made≤b.frm)∨¬ (0≤b.pct∧b.pct≤100)then 1 else 0
set_option maxHeartbeats 2000000 in
theorem HT (b:Ca)(h1:b.key.length≤2^40)(h2:b.cls.length≤2^40):ai Tryz.prog 304 [.d (D1 [b])] [] (fun x r=>x= .d (.int .i64 (xC b))∧r= []):=by
 have c1:=iR b.key h1;have c2:=iR b.cls h2;refine ae hT (C:= []) Tryz.func304 rfl Tryz.call304 rfl rfl rfl ?_;conv=>whnf
 refine ah hT (C:= []) (ι:=Nat) (fun i=>i=0∨(i=1∧xC b=0)) (fun i=>aI [(0,.d (D1 [b])),(8,.d (D1 [b])),(9,.d (.int .i64 1)),(10,.d (.int .i64 i))] []) (fun i=>1 - i) 0 (.inl rfl) (by exact be []) ?_;rintro i (rfl|⟨rfl,hz⟩)
 · conv =>whnf
   repeat' (first|(refine ac (c1) rfl rfl ?_;rotate_right;conv=>whnf)|(refine ac (c2) rfl rfl ?_;rotate_right;conv=>whnf)|(refine ac (ix _ _ _) rfl rfl ?_;rotate_right;conv=>whnf)|((first|(refine aa ?_ ?_<;>intro hb<;>try simp only[az]at hb)|refine aq hT 8 sV ?_|omega|refine aA ?_|decide|assumption)<;>conv=>whnf))
   all_goals first
    | (refine .ret _ ?_
       conv=>whnf
       refine⟨[],⟨?_,rfl⟩,trivial⟩;conv=>lhs;whnf
       congr 2
       clear c1 c2
       (try simp only[List.getD_cons_zero]at*)
       unfold xC
       grind)
    | (refine⟨1,.inr ⟨rfl,?_⟩,by omega,(by exact be [])⟩
       clear c1 c2
       (try simp only[List.getD_cons_zero]at*)
       unfold xC
       grind)
 · rw[hz];conv=>whnf
   repeat' (first|((first|(refine aa ?_ ?_<;>intro hb<;>try simp only[az]at hb)|refine aq hT 8 sV ?_|omega|refine aA ?_|decide|assumption)<;>conv=>whnf))
   refine .ret _ ?_;conv=>whnf
   refine⟨[],⟨?_,rfl⟩,trivial⟩;conv=>lhs;whnf
def yS (l:List fB)(b:Ca):Int:=if xC b≠0 then xC b else if yP l b.cls then 0 else 8
set_option maxHeartbeats 2000000 in
theorem FF (l:List fB)(hl:l.length≤2^40)(b:Ca)(h1:b.key.length≤2^40)(h2:b.cls.length≤2^40):ai Tryz.prog 286 [.d (gP l),.d (D1 [b])] [] (fun x r=>x= .d (.int .i64 (yS l b))∧r= []):=by
 have c1:=HT b h1 h2;have c2:=Em l hl b.cls;have hD:yS l b=if xC b≠0 then xC b else if yP l b.cls then 0 else 8:=rfl;generalize xC b=F at c1 hD;generalize yP l b.cls=H at c2 hD;refine ae hT (C:= []) Tryz.func286 rfl Tryz.call286 rfl rfl rfl ?_;conv=>whnf
 repeat' (first|(refine ac (c1) rfl rfl ?_;rotate_right;conv=>whnf)|((first|(refine aa ?_ ?_<;>intro hb<;>try simp only[az]at hb)|omega|refine aA ?_|decide|assumption)<;>conv=>whnf))
 · rw[if_pos hb]at hD;rw[hD];refine .ret _ ?_;conv=>whnf
   refine⟨[],⟨?_,rfl⟩,trivial⟩;conv=>lhs;whnf
 rw[if_neg (fun c=>c hb)]at hD;refine ah hT (C:= []) (ι:=Nat) (fun i=>i=0∨(i=1∧H=true)) (fun i=>aI [(0,.d (gP l)),(13,.d (D1 [b])),(14,.d (.int .i64 1)),(15,.d (.int .i64 i))] []) (fun i=>1 - i) 0 (.inl rfl) (by exact be []) ?_;rintro i (rfl|⟨rfl,hz⟩)
 · conv =>whnf
   repeat' (first|((first|refine qJ c2 ?_|(refine aa ?_ ?_<;>intro hb<;>try simp only[az]at hb)|omega|refine aA ?_|decide|assumption)<;>conv=>whnf))
   all_goals first
    | (refine⟨1,.inr ⟨rfl,?_⟩,by omega,(by exact be [])⟩
       first|exact hb|simpa using hb)
    | (rw[show H=false from by first|exact hb|simpa using hb]at hD
       rw[hD];refine .ret _ ?_;conv=>whnf
       refine⟨[],⟨?_,rfl⟩,trivial⟩;conv=>lhs;whnf
       all_goals rfl)
 · rw[hz]at hD;rw[hD];conv=>whnf
   repeat' (first|((first|(refine aa ?_ ?_<;>intro hb<;>try simp only[az]at hb)|omega|refine aA ?_|decide|assumption)<;>conv=>whnf))
   refine .ret _ ?_;conv=>whnf
   refine⟨[],⟨?_,rfl⟩,trivial⟩;conv=>lhs;whnf
   rfl
def IE (l:List fB)(b:Ca):Int:=al [gz l,yS l b]
theorem IU (l:List fB)(hk:l8 l)(b:Ca)(h1:b.key.length≤2^40)(h2:b.cls.length≤2^40):ai Tryz.prog 242 [.d (gP l),.d (D1 [b])] [] (fun x r=>x= .d (.int .i64 (IE l b))∧r= []):=by
 have c1:=z175 l hk;have c2:=FF l (by have:=hk.1;omega) b h1 h2;have hE:IE l b=al [gz l,yS l b]:=rfl;generalize gz l=A at c1 hE;generalize yS l b=B at c2 hE;rw[hE];refine ae hT (C:= []) Tryz.func242 rfl Tryz.call242 rfl rfl rfl ?_;conv=>whnf
 repeat' (first|(refine ac (c1) rfl rfl ?_;rotate_right;conv=>whnf)|(refine ac (c2) rfl rfl ?_;rotate_right;conv=>whnf)|((first|refine aw (gp [_,_] (by simp)) ⟨aj (by rfl) (by rfl),trivial⟩ rfl ?_|(refine aa ?_ ?_<;>intro hb<;>try simp only[az]at hb)|omega|refine aA ?_|decide|assumption)<;>conv=>whnf))
 refine .ret _ ?_;conv=>whnf
 refine⟨[],⟨?_,rfl⟩,trivial⟩;conv=>lhs;whnf
def uj:OL:= [(0,[]),(1,[]),(2,[]),(3,[]),(4,rg 4),(5,rg 4),(6,[]),(7,[]),(8,[]),(9,[8]),(10,rg 10),(11,[9]),(12,[])]
def uh:OL:= [(0,[]),(1,[]),(2,[]),(3,[]),(4,rg 4),(5,rg 4),(6,[]),(7,[]),(8,[]),(9,[8]),(10,rg 10),(11,[9]),(12,[])]
def ub:OL:= [(0,[]),(1,[]),(2,[]),(3,[]),(4,[]),(5,[]),(6,rg 6),(7,rg 6),(9,rg 8),(14,[0,1,2,3,4,5,6,7,9]),(15,[0,1,2,3,4,5,6,7,9]),(16,[0,1,2,3,4,5,6,7,9]),(17,[0,1,2,3,4,5,6,7,9]),(8,[9,14,15,16,17]),(10,[14,15,16,17]),(11,[14,15,16,17]),(12,[14,15,16,17]),(13,[14,15,16,17]),(18,[]),(19,[]),(20,[]),(21,[]),(22,[]),(23,[])]
def sU:OL:= [(0,[]),(1,[]),(2,[]),(3,[]),(4,rg 4),(5,rg 4),(6,rg 6),(7,[])]
def ga (h:eH)(s:dw)(b:Ca):Int:=al [IE h.flt.cls b,if(s.bks.has b.key||s.his.has b.key)then 6 else 0,0]
def gi (h:eH)(s:dw)(b:Ca):dw:=if ga h s b=0 then{s with bks:=s.bks.put b.key b}else s
def NE (m:List UInt8→Bool):Prop:=∃L:List (List UInt8),L.length<500∧∀k,m k=true→k ∈ L
theorem NE.kb {m:List UInt8→Bool}(h:NE m){clock:Nat}{kb:List (List DV×Nat)}(hk:KB [.str] (fun K=>m (cf K)) clock kb):kb.length<500:=by
 obtain⟨L,h1,h2⟩:=h
 have:=hk.le (L.map fun x=> [.str x]) (fun key hw hh=>by
  obtain⟨s,rfl⟩:=gg hw
  exact List.mem_map.2 ⟨s,h2 s hh,rfl⟩)
 rw[List.length_map]at this;omega
set_option maxHeartbeats 4000000 in
theorem NU (h:eH)(hc:l8 h.flt.cls)(vm:Mp (List UInt8))(sm:Mp Bool)(s:dw)(b:Ca)(h1:b.key.length≤2^40)(h2:b.cls.length≤2^40)(hf:NE s.bks.has):
 ai Tryz.prog 195 [.ptr 1000001 0,.agg ((lS b).map .d)] (jf h vm sm s) (fun y r=>y= .d (.int .i64 (ga h s b))∧r=cL h vm sm (gi h s b)):=by
 have c1:=IU h.flt.cls hc b h1 h2;generalize hC:IE h.flt.cls b=C at c1;have hcn:∀clock kb,KB [.str] (fun K=>s.bks.has (cf K)) clock kb→kb.length<500:=fun clock kb hk=>hf.kb hk
 rcases hv:s.his.val b.key with _|g
 · skip
   refine ae hT (C:= []) Tryz.func195 rfl Tryz.call195 rfl rfl rfl ?_;conv=>whnf
   repeat' (first|((first|(refine oP (id:=3) 1000007 rfl ?_;intro clock kb hKB;have hk5:=hcn clock kb hKB;have hk6:¬ (500:Int)≤(kb.length:Int):=(by omega))|refine xd.unc (id:=6) 1000007 rfl ?_)<;>conv=>whnf)|(refine ac (fC _ _) rfl rfl ?_;rotate_right;conv=>whnf)|((first|(refine And.intro (rfl:aK _=some (eK none)) ?_;refine dW (row':=eK none) (congrArg eK hv) ?_)|refine And.intro (rfl:aK _=some (kE oM)) ?_|refine And.intro (rfl:aK _=some [.bool false]) ?_|refine And.intro (rfl:aK _=some (pT [])) ?_|refine And.intro (rfl:aK _=some [.str []]) ?_|refine And.intro (rfl:aK _=some (lS lO)) ?_|refine And.intro (rfl:aK _=some (eK none)) ?_|refine And.intro (rfl:aK _=some [.int .i64 0]) ?_|refine aw c1 ⟨lr,aj rfl rfl,trivial⟩ rfl ?_|refine aw (gp [_,_,_] (by simp)) ⟨aj (by rfl) (by rfl),trivial⟩ rfl ?_|(refine aa ?_ ?_<;>intro hb<;>try simp only[az]at hb)|refine aq hT 1 uj ?_|refine aq hT 2 uh ?_|refine aq hT 3 ub ?_|refine aq hT 6 sU ?_|omega|refine aA ?_|decide|assumption)<;>conv=>whnf))
   all_goals first
    | (have hS:gi h s b=(s):=by
        clear c1 hcn hKB hf;unfold gi ga;rw[hC]
        (try simp only[cf]at*);first|(simp_all [al];done)|(simp_all [al];grind)|grind [al]
       rw[hS];refine .ent _ _ (af (ts:= [(4,.d (.int .i64 (ga h s b)))]) (rs:=cL h vm sm (s)) ul rfl rfl ⟨ap (by clear c1 hcn hKB hf;unfold ga;rw[hC];(try simp only[cf]at*);first|(simp_all [al];done)|(simp_all [al];grind)|grind [al]),trivial⟩ ⟨rr,rr,rr,rr,rr,rr,fP fun _ _=>⟨rfl,rfl⟩,rr,rr,rr,trivial⟩) ?_;refine .ret _ ?_;conv=>whnf
       exact⟨_,⟨rfl,rfl⟩,rr,rr,rr,rr,rr,rr,rr,rr,rr,rr,trivial⟩)
    | (have hS:gi h s b=({s with bks:=s.bks.put b.key b}):=by
        clear c1 hcn hKB hf;unfold gi ga;rw[hC]
        (try simp only[cf]at*);first|(simp_all [al];done)|(simp_all [al];grind)|grind [al]
       rw[hS];refine .ent _ _ (af (ts:= [(4,.d (.int .i64 (ga h s b)))]) (rs:=cL h vm sm ({s with bks:=s.bks.put b.key b})) ul rfl rfl ⟨ap (by clear c1 hcn hKB hf;unfold ga;rw[hC];(try simp only[cf]at*);first|(simp_all [al];done)|(simp_all [al];grind)|grind [al]),trivial⟩ ⟨rr,rr,rr,rr,rr,rr,fq,rr,rr,rr,trivial⟩) ?_;refine .ret _ ?_;conv=>whnf
       exact⟨_,⟨rfl,rfl⟩,rr,rr,rr,rr,rr,rr,rr,rr,rr,rr,trivial⟩)
 · skip
   refine ae hT (C:= []) Tryz.func195 rfl Tryz.call195 rfl rfl rfl ?_;conv=>whnf
   repeat' (first|((first|(refine oP (id:=3) 1000007 rfl ?_;intro clock kb hKB;have hk5:=hcn clock kb hKB;have hk6:¬ (500:Int)≤(kb.length:Int):=(by omega))|refine xd.unc (id:=6) 1000007 rfl ?_)<;>conv=>whnf)|(refine ac (fC _ _) rfl rfl ?_;rotate_right;conv=>whnf)|((first|(refine And.intro (rfl:aK _=some (eK none)) ?_;refine dW (row':=ji g) (congrArg eK hv) ?_)|refine And.intro (rfl:aK _=some (kE oM)) ?_|refine And.intro (rfl:aK _=some [.bool false]) ?_|refine And.intro (rfl:aK _=some (pT [])) ?_|refine And.intro (rfl:aK _=some [.str []]) ?_|refine And.intro (rfl:aK _=some (lS lO)) ?_|refine And.intro (rfl:aK _=some (eK none)) ?_|refine And.intro (rfl:aK _=some [.int .i64 0]) ?_|refine aw c1 ⟨lr,aj rfl rfl,trivial⟩ rfl ?_|refine aw (gp [_,_,_] (by simp)) ⟨aj (by rfl) (by rfl),trivial⟩ rfl ?_|(refine aa ?_ ?_<;>intro hb<;>try simp only[az]at hb)|refine aq hT 1 uj ?_|refine aq hT 2 uh ?_|refine aq hT 3 ub ?_|refine aq hT 6 sU ?_|omega|refine aA ?_|decide|assumption)<;>conv=>whnf))
   all_goals first
    | (have hS:gi h s b=(s):=by
        clear c1 hcn hKB hf;unfold gi ga;rw[hC]
        (try simp only[cf]at*);first|(simp_all [al];done)|(simp_all [al];grind)|grind [al]
       rw[hS];refine .ent _ _ (af (ts:= [(4,.d (.int .i64 (ga h s b)))]) (rs:=cL h vm sm (s)) ul rfl rfl ⟨ap (by clear c1 hcn hKB hf;unfold ga;rw[hC];(try simp only[cf]at*);first|(simp_all [al];done)|(simp_all [al];grind)|grind [al]),trivial⟩ ⟨rr,rr,rr,rr,rr,rr,fP fun _ _=>⟨rfl,rfl⟩,rr,rr,rr,trivial⟩) ?_;refine .ret _ ?_;conv=>whnf
       exact⟨_,⟨rfl,rfl⟩,rr,rr,rr,rr,rr,rr,rr,rr,rr,rr,trivial⟩)
    | (have hS:gi h s b=({s with bks:=s.bks.put b.key b}):=by
        clear c1 hcn hKB hf;unfold gi ga;rw[hC]
        (try simp only[cf]at*);first|(simp_all [al];done)|(simp_all [al];grind)|grind [al]
       rw[hS];refine .ent _ _ (af (ts:= [(4,.d (.int .i64 (ga h s b)))]) (rs:=cL h vm sm ({s with bks:=s.bks.put b.key b})) ul rfl rfl ⟨ap (by clear c1 hcn hKB hf;unfold ga;rw[hC];(try simp only[cf]at*);first|(simp_all [al];done)|(simp_all [al];grind)|grind [al]),trivial⟩ ⟨rr,rr,rr,rr,rr,rr,fq,rr,rr,rr,trivial⟩) ?_;refine .ret _ ?_;conv=>whnf
       exact⟨_,⟨rfl,rfl⟩,rr,rr,rr,rr,rr,rr,rr,rr,rr,rr,trivial⟩)
end Go.Proofs.YtkokpbpililcdaaGreatDoor
