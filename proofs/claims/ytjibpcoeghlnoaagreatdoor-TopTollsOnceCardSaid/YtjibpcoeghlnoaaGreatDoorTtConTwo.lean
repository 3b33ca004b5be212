/- TopTollsOnce is proved: for every input the law returns true, and its argument reads afterwards as it read before. Conditions: those of the given row alone. -/
import Derived.Test.YtjibpcoeghlnoaaGreatDoorTtConOne
import Derived.Test.YtjibpcoeghlnoaaGreatDoorProg
import Derived.Test.YtjibpcoeghlnoaaGreatDoorTtEngTwo
import Derived.Shelf.Small.Strs
set_option linter.unusedVariables false
set_option linter.unusedSimpArgs false
set_option maxRecDepth 20000
namespace Go.Proofs.YtjibpcoeghlnoaaGreatDoor
open Go Go.Eng
def oKHiA180_1:OL:= [(0,[]),(1,[]),(3,[0,1]),(4,[0,1]),(8,[0,1,3,4]),(9,[0,1,3,4]),(2,[3,4,8,9]),(5,[8,9]),(6,[8,9]),(7,[8,9]),(10,[]),(11,[]),(12,[]),(13,[]),(14,[]),(15,[]),(16,[]),(17,[]),(18,[]),(19,[]),(20,[]),(21,[])]
def oKHiA137_2:OL:= [(0,[]),(1,[]),(5,[0,1]),(6,[0,1]),(2,[5,6]),(3,[5,6]),(4,[5,6]),(7,[]),(8,[]),(9,[]),(10,[])]
def oKHiA137_16:OL:= [(0,[]),(1,[]),(2,[0,1]),(3,[]),(5,rg 4),(6,[0,1,2,3,5]),(7,[0,1,2,3,5]),(8,[0,1,2,3,5]),(9,[0,1,2,3,5]),(10,rg 4),(4,[5,6,7,8,9,10]),(11,[]),(12,[]),(13,[]),(14,[])]
def oKHiA137_17:OL:= [(0,[]),(1,[]),(3,[0,1]),(4,[0,1]),(5,[0,1]),(6,[0,1,3,4,5]),(7,[0,1,3,4,5]),(8,[0,1,3,4,5]),(9,[0,1]),(2,[3,4,5,6,7,8,9]),(10,[]),(11,[]),(12,[]),(13,[])]
def oKHiA93_1:OL:= [(0,[]),(1,[]),(11,[0,1]),(12,[0,1]),(2,[11,12]),(3,[11,12]),(4,[11,12]),(5,[11,12]),(6,[11,12]),(7,[11,12]),(8,[11,12]),(9,[11,12]),(10,[11,12]),(13,[]),(14,[]),(15,[]),(16,[])]
def oKHiA55_6:OL:= [(0,[]),(2,[0]),(3,[0]),(1,[2,3]),(4,[]),(5,[]),(6,[]),(7,[5,6]),(8,[5,6,7]),(9,[5,6,7]),(10,[5,6,7]),(11,[5,6]),(12,[5,6]),(13,[5,6]),(14,[]),(15,[]),(16,[]),(17,[]),(18,[]),(19,[])]
structure Rdg where
 tm:Int
 st:List UInt8
 meter:Int
 fuel:Int
def rgF:Rdg→List DV:=fun r=> [.int .i64 r.tm,.str r.st,.int .i64 r.meter,.int .i64 r.fuel]
structure Leg where
 veh:List UInt8
 out:Rdg
 inn:Rdg
def lgF:Leg→List DV:=fun x=> [.str x.veh,.int .i64 x.out.tm,.str x.out.st,.int .i64 x.out.meter,.int .i64 x.out.fuel,.int .i64 x.inn.tm,.str x.inn.st,.int .i64 x.inn.meter,.int .i64 x.inn.fuel]
def rg0:Rdg:=⟨0,[],0,0⟩
def lg0:Leg:=⟨[],rg0,rg0⟩
abbrev legs (l:List Leg):DV:=seqD 9 lgF lg0 l
structure Hir where
 key:List UInt8
 drv:List UInt8
 frm:Int
 to:Int
 legs:List Leg
def hiF:Hir→List DV:=fun h=> [.str h.key,.str h.drv,.int .i64 h.frm,.int .i64 h.to,Go.Proofs.YtjibpcoeghlnoaaGreatDoor.legs h.legs]
def hi0:Hir:=⟨[],[],0,0,[]⟩
abbrev hirs (l:List Hir):DV:=seqD 5 hiF hi0 l
abbrev hcell (h:Hir):Res:=.cells 78 [.d (.str h.key),.d (.str h.drv),.d (.int .i64 h.frm),.d (.int .i64 h.to),.d (Go.Proofs.YtjibpcoeghlnoaaGreatDoor.legs h.legs)]
def lgK (x:Leg):Prop:=x.veh.length≤2^40∧x.out.st.length≤2^40∧x.inn.st.length≤2^40
def hiK (h:Hir):Prop:=h.key.length≤2^40∧h.drv.length≤2^40∧h.legs.length≤2^40∧∀x ∈ h.legs,lgK x
def hiOk (l:List Hir):Prop:=l.length≤2^40∧∀h ∈ l,hiK h
def rdgE (r:Rdg):Int:=if ¬ (0≤r.tm∧r.tm≤5761439)then 1 else if isKeyB r.st=false then 5 else if ¬ ((0≤r.meter∧r.meter≤999999)∧(0≤r.fuel∧r.fuel≤8))then 1 else 0
def timE (a b:Int):Int:=if a<0∨b≤a∨5761439<b then 1 else if 172800<b - a then 2 else 0
def legE (h:Hir)(i:Nat):Int:=
 if isKeyB (h.legs.getD i lg0).veh=false then 5
 else if rdgE (h.legs.getD i lg0).out≠0 then rdgE (h.legs.getD i lg0).out
 else if i=0∧(h.legs.getD i lg0).out.tm≠h.frm then 7
 else if 0<i∧(h.legs.getD i lg0).out.tm≠(h.legs.getD (i - 1) lg0).inn.tm then 7
 else if 0<i∧(h.legs.getD i lg0).veh=(h.legs.getD (i - 1) lg0).veh then 16
 else if 0<i∧(h.legs.getD i lg0).out.st≠(h.legs.getD (i - 1) lg0).inn.st then 8
 else if(h.legs.getD i lg0).inn.tm= -1 then(if ¬ ((h.legs.getD i lg0).inn.st= []∧(h.legs.getD i lg0).inn.meter=0∧(h.legs.getD i lg0).inn.fuel=0)then 3 else if(i:Int)<(h.legs.length:Int) - 1 then 11 else 0)
 else if rdgE (h.legs.getD i lg0).inn≠0 then rdgE (h.legs.getD i lg0).inn
 else if(h.legs.getD i lg0).inn.tm≤(h.legs.getD i lg0).out.tm then 7 else 0
def hirE (h:Hir):Int:=
 if isKeyB h.key=false∨isKeyB h.drv=false then 5 else if timE h.frm h.to≠0 then timE h.frm h.to
 else if h.legs.length=0 then 3 else if 20<h.legs.length then 2 else firstAt (legE h) h.legs.length
def hirsE1 (l:List Hir)(i:Nat):Int:=if hirE (l.getD i hi0)≠0 then hirE (l.getD i hi0)else if 0<i∧strLe (l.getD i hi0).key (l.getD (i - 1) hi0).key=true then 7 else 0
def hirsE (l:List Hir):Int:=if 500<l.length then 2 else firstAt (hirsE1 l) l.length
theorem z220 (n:Int):FSpec Tryz.prog 54 [.d (.int .i64 n)] [] (fun x o=>x= .d (.int .i64 (if 0≤n∧n≤5761439 then 0 else 1))∧o= []):=by
 refine spec_of hT (C:= []) Tryz.func54 rfl Tryz.call54 rfl rfl rfl ?_;conv=>whnf
 repeat' (first|(refine CallX.exact (s154 _) rfl rfl ?_;rotate_right;conv=>whnf)|(refine CallX.exact (s107 _ _) rfl rfl ?_;rotate_right;conv=>whnf)|((first|(refine br_intro ?_ ?_<;>intro hb<;>try simp only[brs]at hb)|omega|refine sAx ?_|decide|assumption)<;>conv=>whnf))
 refine .ret _ ?_;conv=>whnf
 refine⟨[],⟨?_,rfl⟩,trivial⟩;conv=>lhs;whnf
 congr 2
 grind
theorem z312 (r:Rdg)(h:r.st.length≤2^40):FSpec Tryz.prog 180 [.agg ((rgF r).map .d)] [] (fun x o=>x= .d (.int .i64 (rdgE r))∧o= []):=by
 refine spec_of hT (C:= []) Tryz.func180 rfl Tryz.call180 rfl rfl rfl ?_;conv=>whnf
 repeat' (first|(refine CallX.exact (z220 _) rfl rfl ?_;rotate_right;conv=>whnf)|(refine CallX.exact (s108 _ h) rfl rfl ?_;rotate_right;conv=>whnf)|(refine CallX.exact (s119 _ _ _) rfl rfl ?_;rotate_right;conv=>whnf)|(refine CallX.exact (s107 _ _) rfl rfl ?_;rotate_right;conv=>whnf)|((first|refine CallX.pure (s105 [_,_,_] (by simp)) ⟨SV.le_lit (by rfl) (by rfl),trivial⟩ rfl ?_|(refine br_intro ?_ ?_<;>intro hb<;>try simp only[brs]at hb)|refine rAx hT 1 oKHiA180_1 ?_|omega|refine sAx ?_|decide|assumption)<;>conv=>whnf))
 all_goals
  refine .ret _ ?_;conv=>whnf
  refine⟨[],⟨?_,rfl⟩,trivial⟩;conv=>lhs;whnf
  congr 2
  unfold rdgE;simp only[firstE];grind
def daysW (a b:Int):Int:=(b - a+1440 - 1).tdiv 1440
theorem daysW_lt {a b:Int}(h:a<b):120<daysW a b↔172800<b - a:=by
 unfold daysW;rw[Int.tdiv_eq_ediv_of_nonneg (by omega)];omega
theorem z311 (a b:Int)(h:0≤a∧a<b∧b≤5761439):FSpec Tryz.prog 179 [.agg [.d (.int .i64 a),.d (.int .i64 b)]] [] (fun x o=>x= .d (.int .i64 (daysW a b))∧o= []):=by
 obtain⟨h1,h2,h3⟩:=h;have hd:inI64 ((b - a+1440 - 1).tdiv 1440):=by unfold inI64;rw[Int.tdiv_eq_ediv_of_nonneg (by omega)];omega
 refine spec_of hT (C:= []) Tryz.func179 rfl Tryz.call179 rfl rfl rfl ?_;conv=>whnf
 repeat' (first|((first|refine And.intro hd ?_|(refine br_intro ?_ ?_<;>intro hb<;>try simp only[brs]at hb)|omega|refine sAx ?_|decide|assumption)<;>conv=>whnf))
 refine .ret _ ?_;conv=>whnf
 refine⟨[],⟨?_,rfl⟩,trivial⟩;conv=>lhs;whnf
 rfl
theorem z263 (a b:Int):FSpec Tryz.prog 136 [.agg [.d (.int .i64 a),.d (.int .i64 b)]] [] (fun x o=>x= .d (.int .i64 (timE a b))∧o= []):=by
 have hd:=daysW_lt (a:=a) (b:=b);refine spec_of hT (C:= []) Tryz.func136 rfl Tryz.call136 rfl rfl rfl ?_;conv=>whnf
 repeat' (first|(refine CallX.exact (z311 a b ⟨by omega,by omega,by omega⟩) rfl rfl ?_;rotate_right;conv=>whnf)|(refine CallX.exact (s107 _ _) rfl rfl ?_;rotate_right;conv=>whnf)|((first|(refine br_intro ?_ ?_<;>intro hb<;>try simp only[brs]at hb)|omega|refine sAx ?_|decide|assumption)<;>conv=>whnf))
 all_goals
  refine .ret _ ?_;conv=>whnf
  refine⟨[],⟨?_,rfl⟩,trivial⟩;conv=>lhs;whnf
  congr 2
  unfold timE;grind
set_option maxHeartbeats 2000000 in
theorem z264 (h:Hir)(hk:hiK h)(i:Nat)(hi:i<h.legs.length):FSpec Tryz.prog 137 [.agg ((hiF h).map .d),.d (.int .i64 i)] [] (fun x o=>x= .d (.int .i64 (legE h i))∧o= []):=by
 have e1:(i:Int).toNat=i:=Int.toNat_natCast i;have hl:=hk.2.2.1;have hx:lgK (h.legs.getD (i:Int).toNat lg0):=hk.2.2.2 _ (getD_mem (by omega));refine spec_of hT (C:= []) Tryz.func137 rfl Tryz.call137 rfl rfl rfl ?_;conv=>whnf
 repeat' (first|(refine CallX.exact (s108 _ hx.1) rfl rfl ?_;rotate_right;conv=>whnf)|(refine CallX.exact (z312 (h.legs.getD (i:Int).toNat lg0).out hx.2.1) rfl rfl ?_;rotate_right;conv=>whnf)|(refine CallX.exact (z312 (h.legs.getD (i:Int).toNat lg0).inn hx.2.2) rfl rfl ?_;rotate_right;conv=>whnf)|(refine CallX.exact (s107 _ _) rfl rfl ?_;rotate_right;conv=>whnf)|((first|refine CallX.pure (s105 [_,_] (by simp)) ⟨SV.le_lit (by rfl) (by rfl),trivial⟩ rfl ?_|(refine br_intro ?_ ?_<;>intro hb<;>try simp only[brs]at hb)|refine rAx hT 2 oKHiA137_2 ?_|refine rAx hT 16 oKHiA137_16 ?_|refine rAx hT 17 oKHiA137_17 ?_|omega|refine sAx ?_|decide|assumption)<;>conv=>whnf))
 all_goals
  refine .ret _ ?_;conv=>whnf
  refine⟨[],⟨?_,rfl⟩,trivial⟩;conv=>lhs;whnf
  congr 2
  clear hx hk;simp only[e1,toNat_pred,firstE]at*;unfold legE;grind
theorem hirE_bad {h:Hir}(q:isKeyB h.key=false∨isKeyB h.drv=false):hirE h=5:=by unfold hirE;rw[if_pos q]
theorem hirE_time {h:Hir}(q1:isKeyB h.key=true)(q2:isKeyB h.drv=true)(q:timE h.frm h.to≠0):hirE h=timE h.frm h.to:=by
 unfold hirE;rw[if_neg (by rw[q1,q2];simp),if_pos q]
theorem hirE_legs {h:Hir}(q1:isKeyB h.key=true)(q2:isKeyB h.drv=true)(q:timE h.frm h.to=0):hirE h=if h.legs.length=0 then 3 else if 20<h.legs.length then 2 else firstAt (legE h) h.legs.length:=by
 unfold hirE;rw[if_neg (by rw[q1,q2];simp),if_neg (by omega)]
set_option maxHeartbeats 2000000 in
theorem z210 (h:Hir)(hk:hiK h):FSpec Tryz.prog 93 [.agg ((hiF h).map .d)] [] (fun x o=>x= .d (.int .i64 (hirE h))∧o= []):=by
 have c1:=s108 h.key hk.1;have c2:=s108 h.drv hk.2.1;have c3:=z263 h.frm h.to;have hl:=hk.2.2.1;have c5:=s105 [5,timE h.frm h.to] (by simp);rw[show firstE [5,timE h.frm h.to]=5 from rfl]at c5;have c6:=s105 [0,timE h.frm h.to] (by simp);rw[show firstE [0,timE h.frm h.to]=timE h.frm h.to from by simp only[firstE];grind]at c6
 cases q1:isKeyB h.key with
 | false=>
   rw[hirE_bad (.inl q1)];rw[q1]at c1;generalize timE h.frm h.to=E at c3 c5 c6;refine spec_of hT (C:= []) Tryz.func93 rfl Tryz.call93 rfl rfl rfl ?_;conv=>whnf
   repeat' (first|(refine CallX.exact (c1) rfl rfl ?_;rotate_right;conv=>whnf)|(refine CallX.exact (c3) rfl rfl ?_;rotate_right;conv=>whnf)|(refine CallX.exact (s107 _ _) rfl rfl ?_;rotate_right;conv=>whnf)|((first|refine CallX.pure c5 ⟨SV.le_lit (by rfl) (by rfl),trivial⟩ rfl ?_|(refine br_intro ?_ ?_<;>intro hb<;>try simp only[brs]at hb)|refine rAx hT 1 oKHiA93_1 ?_|omega|refine sAx ?_|decide|assumption)<;>conv=>whnf))
   refine .ret _ ?_;conv=>whnf
   refine⟨[],⟨?_,rfl⟩,trivial⟩
   conv=>lhs;whnf
 |true=>
 rw[q1]at c1
 cases q2:isKeyB h.drv with
 | false=>
   rw[hirE_bad (.inr q2)];rw[q2]at c2;generalize timE h.frm h.to=E at c3 c5 c6;refine spec_of hT (C:= []) Tryz.func93 rfl Tryz.call93 rfl rfl rfl ?_;conv=>whnf
   repeat' (first|(refine CallX.exact (c1) rfl rfl ?_;rotate_right;conv=>whnf)|(refine CallX.exact (c2) rfl rfl ?_;rotate_right;conv=>whnf)|(refine CallX.exact (c3) rfl rfl ?_;rotate_right;conv=>whnf)|(refine CallX.exact (s107 _ _) rfl rfl ?_;rotate_right;conv=>whnf)|((first|refine CallX.pure c5 ⟨SV.le_lit (by rfl) (by rfl),trivial⟩ rfl ?_|(refine br_intro ?_ ?_<;>intro hb<;>try simp only[brs]at hb)|refine rAx hT 1 oKHiA93_1 ?_|omega|refine sAx ?_|decide|assumption)<;>conv=>whnf))
   refine .ret _ ?_;conv=>whnf
   refine⟨[],⟨?_,rfl⟩,trivial⟩
   conv=>lhs;whnf
 |true=>
 rw[q2]at c2
 by_cases q3:timE h.frm h.to=0
 · have hE:=hirE_legs q1 q2 q3;rw[hE];clear hE;rw[q3]at c3 c6
   by_cases q4:h.legs.length=0
   · rw[if_pos q4];refine spec_of hT (C:= []) Tryz.func93 rfl Tryz.call93 rfl rfl rfl ?_;conv=>whnf
     repeat' (first|(refine CallX.exact (c1) rfl rfl ?_;rotate_right;conv=>whnf)|(refine CallX.exact (c2) rfl rfl ?_;rotate_right;conv=>whnf)|(refine CallX.exact (c3) rfl rfl ?_;rotate_right;conv=>whnf)|(refine CallX.exact (s107 _ _) rfl rfl ?_;rotate_right;conv=>whnf)|((first|refine CallX.pure c6 ⟨SV.le_lit (by rfl) (by rfl),trivial⟩ rfl ?_|(refine br_intro ?_ ?_<;>intro hb<;>try simp only[brs]at hb)|refine rAx hT 1 oKHiA93_1 ?_|omega|refine sAx ?_|decide|assumption)<;>conv=>whnf))
     all_goals first
      |(exfalso;omega)
      | (refine .ret _ ?_
         conv=>whnf
         refine⟨[],⟨?_,rfl⟩,trivial⟩;conv=>lhs;whnf
         all_goals rfl)
   by_cases q5:20<h.legs.length
   · rw[if_neg q4,if_pos q5];refine spec_of hT (C:= []) Tryz.func93 rfl Tryz.call93 rfl rfl rfl ?_;conv=>whnf
     repeat' (first|(refine CallX.exact (c1) rfl rfl ?_;rotate_right;conv=>whnf)|(refine CallX.exact (c2) rfl rfl ?_;rotate_right;conv=>whnf)|(refine CallX.exact (c3) rfl rfl ?_;rotate_right;conv=>whnf)|(refine CallX.exact (s107 _ _) rfl rfl ?_;rotate_right;conv=>whnf)|((first|refine CallX.pure c6 ⟨SV.le_lit (by rfl) (by rfl),trivial⟩ rfl ?_|(refine br_intro ?_ ?_<;>intro hb<;>try simp only[brs]at hb)|refine rAx hT 1 oKHiA93_1 ?_|omega|refine sAx ?_|decide|assumption)<;>conv=>whnf))
     all_goals first
      |(exfalso;omega)
      | (refine .ret _ ?_
         conv=>whnf
         refine⟨[],⟨?_,rfl⟩,trivial⟩;conv=>lhs;whnf
         all_goals rfl)
   obtain⟨F,hfin⟩:∃F:Int,F=firstAt (legE h) h.legs.length:=⟨_,rfl⟩;rw[if_neg q4,if_neg q5,←hfin];refine spec_of hT (C:= []) Tryz.func93 rfl Tryz.call93 rfl rfl rfl ?_;conv=>whnf
   repeat' (first|(refine CallX.exact (c1) rfl rfl ?_;rotate_right;conv=>whnf)|(refine CallX.exact (c2) rfl rfl ?_;rotate_right;conv=>whnf)|(refine CallX.exact (c3) rfl rfl ?_;rotate_right;conv=>whnf)|(refine CallX.exact (s107 _ _) rfl rfl ?_;rotate_right;conv=>whnf)|((first|refine CallX.pure c6 ⟨SV.le_lit (by rfl) (by rfl),trivial⟩ rfl ?_|(refine br_intro ?_ ?_<;>intro hb<;>try simp only[brs]at hb)|refine rAx hT 1 oKHiA93_1 ?_|omega|refine sAx ?_|decide|assumption)<;>conv=>whnf))
   all_goals first
    |(exfalso;omega)
    |skip
   refine LoopX.rule hT (C:= []) (ι:=Nat) (fun i=>i≤h.legs.length∧∀j,j<i→legE h j=0) (fun i=>mkSt [(1,.ptr 1 0),(37,.d (.int .i64 h.legs.length)),(38,.d (.int .i64 i))] [(1,hcell h)]) (fun i=>h.legs.length - i) 0 ⟨by omega,by omega⟩ (by exact eAx [(1,1)]) ?_;rintro i ⟨p1,p2⟩;have e1:(i:Int).toNat=i:=Int.toNat_natCast i;conv=>whnf
   repeat' (first|((first|refine pAx (z264 h hk i (by omega)) ?_|(refine br_intro ?_ ?_<;>intro hb<;>try simp only[brs]at hb)|refine rAx hT 1 oKHiA93_1 ?_|omega|refine sAx ?_|decide|assumption)<;>conv=>whnf))
   · refine .ret _ ?_;conv=>whnf
     refine⟨[],⟨?_,rfl⟩,trivial⟩;conv=>lhs;whnf
     congr 2
     rw[hfin];exact(firstAt_eq (by omega) p2 (by simpa using hb) rfl).symm
   · exact⟨i+1,⟨by omega,first_step p2 (by simpa using hb)⟩,by omega,(by exact eAx [(1,1)])⟩
   · refine .ret _ ?_;conv=>whnf
     refine⟨[],⟨?_,rfl⟩,trivial⟩;conv=>lhs;whnf
     congr 2
     have:i=h.legs.length:=by omega
     subst this;rw[hfin,firstAt_zero p2]
 · rw[hirE_time q1 q2 q3];generalize timE h.frm h.to=E at c3 q3 c5 c6;refine spec_of hT (C:= []) Tryz.func93 rfl Tryz.call93 rfl rfl rfl ?_;conv=>whnf
   repeat' (first|(refine CallX.exact (c1) rfl rfl ?_;rotate_right;conv=>whnf)|(refine CallX.exact (c2) rfl rfl ?_;rotate_right;conv=>whnf)|(refine CallX.exact (c3) rfl rfl ?_;rotate_right;conv=>whnf)|(refine CallX.exact (s107 _ _) rfl rfl ?_;rotate_right;conv=>whnf)|((first|refine CallX.pure c6 ⟨SV.le_lit (by rfl) (by rfl),trivial⟩ rfl ?_|(refine br_intro ?_ ?_<;>intro hb<;>try simp only[brs]at hb)|refine rAx hT 1 oKHiA93_1 ?_|omega|refine sAx ?_|decide|assumption)<;>conv=>whnf))
   all_goals first
    |(exfalso;omega)
    | (refine .ret _ ?_
       conv=>whnf
       refine⟨[],⟨?_,rfl⟩,trivial⟩;conv=>lhs;whnf
       all_goals rfl)
set_option maxHeartbeats 2000000 in
theorem z124 (l:List Hir)(hk:hiOk l):FSpec Tryz.prog 55 [.d (hirs l)] [] (fun x r=>x= .d (.int .i64 (hirsE l))∧r= []):=by
 refine spec_of hT (C:= []) Tryz.func55 rfl Tryz.call55 rfl rfl rfl ?_;conv=>whnf
 refine br_intro (fun h0=> ?_) (fun h0=> ?_)
 · simp at h0;conv=>whnf
   refine .ret _ ?_;conv=>whnf
   refine⟨[],⟨?_,rfl⟩,trivial⟩;conv=>lhs;whnf
   unfold hirsE;rw[if_pos (by omega)]
 simp at h0;conv=>whnf
 refine LoopX.rule hT (C:= []) (ι:=Nat) (fun i=>i≤l.length∧∀j,j<i→hirsE1 l j=0) (fun i=>mkSt [(0,.d (hirs l)),(9,.d (hirs l)),(10,.d (.int .i64 l.length)),(11,.d (.int .i64 i))] []) (fun i=>l.length - i) 0 ⟨by omega,by omega⟩ (by exact eAx []) ?_;rintro i ⟨p1,p2⟩;have hx:(i:Int)<l.length→hiK (l.getD (i:Int).toNat hi0):=fun hi=>hk.2 _ (getD_mem (by omega))
 have e1:(i:Int).toNat=i:=Int.toNat_natCast i;have em:(max ((i:Int) - 1) 0).toNat=i - 1:=by omega
 have hbad:∀e:Int,i<l.length→e≠0→hirsE1 l i=e→hirsE l=e:=fun e h h1 h2=>by
  unfold hirsE;rw[if_neg (by omega)];exact firstAt_eq h p2 h1 h2
 conv=>whnf
 repeat' (first|((first|refine And.intro (show 0≤max ((i:Int) - 1) 0∧max ((i:Int) - 1) 0<(l.length:Int)from by omega) ?_|refine pAx (z210 (l.getD (i:Int).toNat hi0) (hx (by omega))) ?_)<;>conv=>whnf)|(refine CallX.exact (s107 _ _) rfl rfl ?_;rotate_right;conv=>whnf)|((first|refine CallX.pure (s105 [_,_] (by simp)) ⟨SV.le_lit (by rfl) (by rfl),trivial⟩ rfl ?_|(refine br_intro ?_ ?_<;>intro hb<;>try simp only[brs]at hb)|refine rAx hT 6 oKHiA55_6 ?_|omega|refine sAx ?_|decide|assumption)<;>conv=>whnf))
 all_goals first
  |(refine⟨i+1,⟨by omega,first_step p2 (by clear p2 hbad hk hx;simp only[e1,em,cond_true,firstE]at*;unfold hirsE1 strLe;grind)⟩,by omega,(by exact eAx [])⟩)
  | (refine .ret _ ?_
     conv=>whnf
     refine⟨[],⟨?_,rfl⟩,trivial⟩;conv=>lhs;whnf
     congr 2
     first
      |exact(hbad _ (by omega) (by clear p2 hbad hk hx;simp only[e1,em,cond_true,firstE]at*;grind) (by clear p2 hbad hk hx;simp only[e1,em,cond_true,firstE]at*;unfold hirsE1 strLe;grind)).symm
      | (have:i=l.length:=by omega
         subst this
         unfold hirsE;rw[if_neg (by omega),firstAt_zero p2]))
theorem Res.le_put2 {α:Type}{f:α→List DV}{d:α}{l:List α}{x y:α}{e k j1 j2:Nat}{ds1 ds2:List DV}(h1:∀z,setAtD (f z) 0 ds1=f x)(h2:∀z,setAtD (f z) 0 ds2=f y):
 Res.le (.buf e k l.length fun i=>bif Nat.beq i j2 then setAtD (bif Nat.beq i j1 then setAtD (rowF f d l i) 0 ds1 else rowF f d l i) 0 ds2 else bif Nat.beq i j1 then setAtD (rowF f d l i) 0 ds1 else rowF f d l i) (seqB e k f d ((l.set j1 x).set j2 y)):=by
 refine Res.le_buf (by simp) (fun k hk=> ?_);have e1:=rows_putG (f:=f) (d:=d) (l:=l) (x:=x) (j:=j1) (off:=0) (ds:=ds1) (get:=rowF f d l) (fun _ _=>rfl) (fun z _=>h1 z);have e2:=rows_putG (f:=f) (d:=d) (l:=l.set j1 x) (x:=y) (j:=j2) (off:=0) (ds:=ds2) (get:=fun i=>bif Nat.beq i j1 then setAtD (rowF f d l i) 0 ds1 else rowF f d l i) (fun k hk=>e1 k (by simpa using hk)) (fun z _=>h2 z);exact e2 k (by simpa using hk)
def sameP (l c:List Pas):Prop:=c.length=l.length∧∀x ∈ c,x ∈ l
theorem sameP_set {l c:List Pas}{j:Nat}{x:Pas}(h:sameP l c)(hx:x ∈ l):sameP l (c.set j x):=
 ⟨by rw[List.length_set];exact h.1,fun y hy=>by rcases List.mem_or_eq_of_mem_set hy with q|q;exact h.2 y q;subst q;exact hx⟩
def subP (l c:List Pas):Prop:=c.length≤l.length∧∀x ∈ c,x ∈ l
def pOk1 (p:Pas):Prop:=p.gate.length≤8∧p.plate.length≤8∧(-2^40≤p.tm∧p.tm≤2^40)∧-2^40≤p.cents∧p.cents≤2^40
def pSh (l:List Pas)(k:Nat):Prop:=l.length≤k∧∀p ∈ l,pOk1 p
theorem pSh_snoc {l:List Pas}{k:Nat}{x:Pas}(h:pSh l k)(hx:pOk1 x):pSh (l++ [x]) (k+1):=by
 refine⟨by rw[List.length_append];simpa using h.1,fun p hp=> ?_⟩;rcases List.mem_append.1 hp with q|q
 · exact h.2 p q
 · simp at q;subst q;exact hx
theorem pSh_put {l:List Pas}{k m:Nat}{i:Nat}{x:Pas}(h:pSh l k)(hm:k≤m)(hx:i<l.length→pOk1 x):pSh (l.set i x) m:=by
 refine⟨by have:=h.1;rw[List.length_set];omega,fun p hp=> ?_⟩
 by_cases hi:i<l.length
 · rcases List.mem_or_eq_of_mem_set hp with q|q
   · exact h.2 p q
   · subst q;exact hx hi
 · rw[List.set_eq_of_length_le (by omega)]at hp;exact h.2 p hp
theorem mem_bd {l:List Int}{u:Int}(h:u ∈ l)(q:l.all (fun x=>decide (-2^40≤x∧x≤2^40))=true): -2^40≤u∧u≤2^40:=by
 have:=List.all_eq_true.1 q u h;exact of_decide_eq_true this
theorem SV.le_upd {α:Type}{f:α→List DV}{d:α}{l:List α}{k j off:Nat}{ds:List DV}(g:α→α)(hg:∀y,setAtD (f y) off ds=f (g y)):
 SV.le (.d (.ro k l.length fun i=>bif Nat.beq i j then setAtD (rowF f d l i) off ds else rowF f d l i)) (.d (seqD k f d (l.set j (g (l.getD j d))))):=
 SV.le_putF fun y hy=>by rw[hg,List.getD_eq_getElem?_getD,hy];rfl
end Go.Proofs.YtjibpcoeghlnoaaGreatDoor
namespace Go.Proofs
open Go.Shelf
end Go.Proofs
set_option maxRecDepth 20000
namespace Go.Proofs.YtjibpcoeghlnoaaGreatDoor
open Go Go.Eng Go.RowKit
theorem pas_eq {a b:Pas}:a=b↔a.tm=b.tm∧a.gate=b.gate∧a.plate=b.plate∧a.cents=b.cents:=by cases a;cases b;simp
instance:DecidableEq Pas:=fun _ _=>decidable_of_iff _ pas_eq.symm
theorem SV.le_drop {α:Type}{f:α→List DV}{d:α}{l:List α}{k j m:Nat}(hm:m=(l.drop j).length):SV.le (.d (.ro k m fun i=>rowF f d l (j+i))) (.d (seqD k f d (l.drop j))):=
 SV.le_ro hm (fun i hi=>by simp only[rowF];rw[List.getD_eq_getElem?_getD,List.getD_eq_getElem?_getD,List.getElem?_drop])
theorem Res.le_upd {α:Type}{f:α→List DV}{d:α}{l:List α}{e k j off:Nat}{ds:List DV}(g:α→α)(hg:∀y,setAtD (f y) off ds=f (g y)):
 Res.le (.buf e k l.length fun i=>bif Nat.beq i j then setAtD (rowF f d l i) off ds else rowF f d l i) (seqB e k f d (l.set j (g (l.getD j d)))):=
 Res.le_putF fun y hy=>by rw[hg,List.getD_eq_getElem?_getD,hy];rfl
def allK {α:Type}(K:α→Prop)(k:Nat)(l:List α):Prop:=l.length≤k∧∀x ∈ l,K x
theorem allK_snoc {α:Type}{K:α→Prop}{l:List α}{k m:Nat}{x:α}(h:allK K k l)(hm:k+1≤m)(hx:K x):allK K m (l++ [x]):=by
 refine⟨by rw[List.length_append];have:=h.1;simp;omega,fun p hp=> ?_⟩;rcases List.mem_append.1 hp with q|q
 · exact h.2 p q
 · simp at q;subst q;exact hx
theorem allK_le {α:Type}{K:α→Prop}{l:List α}{k m:Nat}(h:allK K k l)(hm:k≤m):allK K m l:=⟨by have:=h.1;omega,h.2⟩
theorem allK_upd {α:Type}{K:α→Prop}{l:List α}{k j:Nat}{d:α}{g:α→α}(h:allK K k l)(hg:∀y,K y→K (g y)):allK K k (l.set j (g (l.getD j d))):=by
 refine⟨by rw[List.length_set];exact h.1,fun p hp=> ?_⟩
 by_cases hj:j<l.length
 · rcases List.mem_or_eq_of_mem_set hp with q|q
   · exact h.2 p q
   · subst q;exact hg _ (h.2 _ (getD_mem hj))
 · rw[List.set_eq_of_length_le (by omega)]at hp;exact h.2 p hp
theorem rows_updG {α:Type}{f:α→List DV}{d:α}{l:List α}{j off:Nat}{ds:List DV}{get:Nat→List DV}(hg:∀i,i<l.length→get i=rowF f d l i)(g:α→α)(h:∀y,setAtD (f y) off ds=f (g y)):
 ∀i,i<(l.set j (g (l.getD j d))).length→(bif Nat.beq i j then setAtD (get i) off ds else get i)=rowF f d (l.set j (g (l.getD j d))) i:=by
 rw[List.length_set];exact rows_putG hg (fun y hy=>by rw[h,List.getD_eq_getElem?_getD,hy];rfl)
abbrev updL {α:Type}(l:List α)(j:Nat)(d:α)(g:α→α):List α:=l.set j (g (l.getD j d))
theorem SV.le_agg {l m:List SV}(h:argsLe0 l m):SV.le (.agg l) (.agg m):=by
 obtain⟨h1,h2⟩:=argsLe0_get h;intro G β v hv
 cases hv with|agg _ vs hl hd=>
 refine .agg _ _ (hl.trans h1) (fun i y v hy hv=> ?_);have hi:i<l.length:=by rw[h1];exact(List.getElem?_eq_some_iff.1 hy).1
 exact h2 i _ y (List.getElem?_eq_getElem hi) hy G β v (hd i _ v (List.getElem?_eq_getElem hi) hv)
def cellsLe:List SV→List SV→Prop
 | [],[]=>True
 |x::l,y::m=>SV.le x y∧cellsLe l m
 |_,_=>False
theorem cellsLe_get:∀ {l m:List SV},cellsLe l m→l.length=m.length∧∀ (i:Nat) x y,l[i]? =some x→m[i]? =some y→SV.le x y:=by
 intro l
 induction l with
 | nil=>
   intro m h
   cases m with
   |nil=>exact⟨rfl,by simp⟩
   |cons y m=>exact h.elim
 | cons x l ih=>
   intro m h
   cases m with
   |nil=>exact h.elim
   | cons y m=>
     obtain⟨h1,h2⟩:=h;obtain⟨i1,i2⟩:=ih h2;refine⟨by simp[i1],fun i a b ha hb=> ?_⟩
     cases i with
     |zero=>simp at ha hb;subst ha;subst hb;exact h1
     |succ i=>exact i2 i a b (by simpa using ha) (by simpa using hb)
theorem Res.le_cellsL {e:TypeId}{l m:List SV}(h:cellsLe l m):Res.le (.cells e l) (.cells e m):=
 Res.le_cells (cellsLe_get h).1 (cellsLe_get h).2
theorem getD_app_lt {α:Type}{l m:List α}{i:Nat}{z:α}(h:i<l.length):(l++m).getD i z=l.getD i z:=by
 rw[List.getD_eq_getElem?_getD,List.getD_eq_getElem?_getD,List.getElem?_append_left h]
def rgN:Rdg:=⟨-1,[],0,0⟩
def setIn (l:List Leg)(r:Rdg):List Leg:=l.set ((l.length:Int) - 1).toNat {l.getD ((l.length:Int) - 1).toNat lg0 with inn:=r}
theorem setIn_len (l:List Leg)(r:Rdg):(setIn l r).length=l.length:=by simp[setIn]
theorem Res.le_put_snocF {α:Type}{f:α→List DV}{d x y:α}{l:List α}{e k j off:Nat}{ds:List DV}{h:Nat→List DV}(hj:∀z,l[j]? =some z→setAtD (f z) off ds=f x)(hx:h 0=f y):
 Res.le (.buf e k (l.length+1) (appGet l.length (fun i=>bif Nat.beq i j then setAtD (rowF f d l i) off ds else rowF f d l i) h)) (seqB e k f d (l.set j x++ [y])):=by
 refine Res.le_buf (by simp) (fun i hi=> ?_);have h1:=rows_putF (f:=f) (d:=d) (l:=l) (x:=x) (j:=j) (off:=off) (ds:=ds) hj;rcases Nat.lt_or_ge i l.length with q|q
 · rw[appGet_lt q,h1 i q];simp only[rowF];rw[getD_app_lt (by simpa using q)]
 · have:i=l.length:=by omega
   subst this;rw[appGet_ge (Nat.le_refl _),Nat.sub_self,hx];simp only[rowF];congr 1
   rw[List.getD_eq_getElem?_getD,List.getElem?_append_right (by simp)];simp
theorem setIn_put {l:List Leg}{r:Rdg}:∀z,l[((l.length:Int) - 1).toNat]? =some z→setAtD (lgF z) 5 [.int .i64 r.tm,.str r.st,.int .i64 r.meter,.int .i64 r.fuel]=lgF {l.getD ((l.length:Int) - 1).toNat lg0 with inn:=r}:=fun z hz=>by
 rw[List.getD_eq_getElem?_getD,hz];rfl
def startH (key drv:List UInt8)(a b:Int)(v:List UInt8)(o:Rdg):Hir:=⟨key,drv,a,b,[⟨v,o,rgN⟩]⟩
structure Slt where
 day:Int
 many:Int
structure Wnt where
 v:List UInt8
 fr:Int
 to:Int
def wn0:Wnt:=⟨[],0,0⟩
structure Plc where
 v:List UInt8
 day:Int
def pl0:Plc:=⟨[],0⟩
structure Bsy where
 v:List UInt8
 fr:Int
 to:Int
 cents:Int
def namesB (w:List Wnt)(l:List Plc):Prop:=w.length=l.length∧∀i,i<w.length→(w.getD i wn0).v=(l.getD i pl0).v
instance (w:List Wnt)(l:List Plc):Decidable (namesB w l):=inferInstanceAs (Decidable (_∧_))
structure Ned where
 st:List UInt8
 many:Int
structure Roa where
 a:List UInt8
 b:List UInt8
 car:Int
 ride:Int
def rd0:Roa:=⟨[],[],0,0⟩
structure Mov where
 a:List UInt8
 b:List UInt8
 many:Int
def mv0:Mov:=⟨[],[],0⟩
structure Arc where
 fr:Int
 to:Int
 car:Int
 flow:Int
def stF:Int×Bool→List DV:=fun s=> [.int .i64 s.1,.bool s.2]
abbrev steps (l:List (Int×Bool)):DV:=seqD 2 stF (0,false) l
theorem mov_eq {a b:Mov}:a=b↔a.a=b.a∧a.b=b.b∧a.many=b.many:=by cases a;cases b;simp
instance:DecidableEq Mov:=fun _ _=>decidable_of_iff _ mov_eq.symm
structure Pnl where
 key:List UInt8
 w:Int
 h:Int
 pr:Int
structure Mrk where
 pan:List UInt8
 kind:Int
 x:Int
 y:Int
 size:Int
structure Rul where
 near:Int
 slack:Int
 join:Int
 part:Int
theorem less_trans:∀ {a b c:List UInt8},Op.bytesLess a b=true→Op.bytesLess b c=true→Op.bytesLess a c=true:=by
 intro a
 induction a with
 |nil=>intro b c h1 h2;cases b<;>cases c<;>simp_all [Op.bytesLess]
 | cons x a ih=>
   intro b c h1 h2
   cases b with
   |nil=>simp[Op.bytesLess]at h1
   | cons y b=>
     cases c with
     |nil=>simp[Op.bytesLess]at h2
     | cons z c=>
       simp only[Op.bytesLess]at h1 h2 ⊢;grind [UInt8.lt_trans]
theorem less_irr:∀ (a:List UInt8),Op.bytesLess a a=false:=by
 intro a
 induction a with
 |nil=>rfl
 |cons x a ih=>simp[Op.bytesLess,ih]
def onRd (l:List Roa)(a b:List UInt8)(i:Nat):Bool:=(l.getD i rd0).a==a&&(l.getD i rd0).b==b
def roadX (l:List Roa)(a b:List UInt8):Int:=ixF (onRd l a b) l.length
theorem ixF_pos {p:Nat→Bool}{n k:Nat}(hk:k<n)(h:p k=true):0≤ixF p n:=by
 have hb:=ixF_bd (p:=p) (n:=n);rcases Int.lt_or_le (ixF p n) 0 with q|q
 · exfalso
   have hn :∀m,ixF p m<0→∀j,j<m→p j=false:=by
    intro m
    induction m with
    |zero=>intro _ j hj;omega
    | succ m ih=>
      intro hm j hj;rw[ixF]at hm;split at hm
      · rename_i hz
        by_cases hjm:j=m
        · subst hjm;split at hm
          · omega
          · rename_i hf;simpa using hf
        · exact ih (by omega) j (by omega)
      · rename_i hz;have:=(ixF_bd (p:=p) (n:=m)).1;omega
   rw[hn n q k hk]at h;cases h
 · exact q
def roadO (l:List Roa)(a b:List UInt8):Option Roa:=if 0≤roadX l a b then some (l.getD (roadX l a b).toNat rd0)else none
def rideO (l:List Roa)(a b:List UInt8):Option Int:=if a=b then some 0 else(roadO l a b).map (·.ride)
def makeO (l:List Roa)(a:List UInt8)(m:Mov):Option Int:=(rideO l a m.a).bind fun n=>(roadO l m.a m.b).map fun r=>n+r.car
abbrev RPt:=Option (List UInt8×Int)
def stepR (l:List Roa)(m:List Mov)(st:RPt)(k:Int):RPt:=st.bind fun p=>(makeO l p.1 (m.getD k.toNat mv0)).map fun n=>((m.getD k.toNat mv0).b,p.2+n)
def partR (l:List Roa)(start:List UInt8)(m:List Mov)(o:List Int):RPt:=o.foldl (stepR l m) (some (start,0))
def roundO (l:List Roa)(start:List UInt8)(m:List Mov)(o:List Int):Option Int:=(partR l start m o).bind fun p=>(rideO l p.1 start).map fun n=>p.2+n
abbrev RSt:=List Int×Int
def rs (l:List Roa)(start:List UInt8)(m:List Mov):Nat→List Int→RSt→RSt
 | 0,o,st=>match roundO l start m o with
   |some n=>if 0≤st.2∧st.2≤n then st else(o,n)
   |none=>st
 |d+1,o,st=>(List.range m.length).foldl (fun(st:RSt) (k:Nat)=>if o.contains (k:Int)then st else rs l start m d (o++ [(k:Int)]) st) st
def lastE (x:Leg):Int:=if x.inn.tm= -1 then 5761440 else x.inn.tm
def onL (v:List UInt8)(x:Leg)(t:Int):Bool:=decide (x.veh=v)&&(decide (x.out.tm≤t)&&decide (t<lastE x))
def occ (v:List UInt8)(h:Hir)(t:Int):Bool:=h.legs.any fun x=>onL v x t
def lgSeq (ls:List Leg):Prop:=(∀x ∈ ls,0≤x.out.tm∧x.out.tm<lastE x∧lastE x≤5761440)∧∀i j,i<j→j<ls.length→lastE (ls.getD i lg0)≤(ls.getD j lg0).out.tm
theorem rdgE_zero {r:Rdg}(h:rdgE r=0):0≤r.tm∧r.tm≤5761439:=by
 unfold rdgE at h;split at h
 · omega
 · omega
theorem legE_zero {h:Hir}{i:Nat}(he:legE h i=0):(0≤(h.legs.getD i lg0).out.tm∧(h.legs.getD i lg0).out.tm<lastE (h.legs.getD i lg0)∧lastE (h.legs.getD i lg0)≤5761440)∧(0<i→(h.legs.getD i lg0).out.tm=(h.legs.getD (i - 1) lg0).inn.tm)∧
 ((h.legs.getD i lg0).inn.tm= -1→(h.legs.length:Int) - 1≤i):=by
 unfold legE at he;split at he
 · omega
 split at he
 · omega
 rename_i h1 h2;have ho:=rdgE_zero (Classical.not_not.1 h2);split at he
 · omega
 split at he
 · omega
 rename_i h3 h4;split at he
 · omega
 split at he
 · omega
 split at he
 · rename_i h5;split at he
   · omega
   split at he
   · omega
   refine⟨⟨ho.1,?_,?_⟩,fun q=>Classical.byContradiction fun q2=>h4 ⟨q,q2⟩,fun _=>by omega⟩
   · unfold lastE;rw[if_pos h5];omega
   · unfold lastE;rw[if_pos h5];omega
 · rename_i h5;split at he
   · omega
   rename_i h6;have hi:=rdgE_zero (Classical.not_not.1 h6);split at he
   · omega
   refine⟨⟨ho.1,?_,?_⟩,fun q=>Classical.byContradiction fun q2=>h4 ⟨q,q2⟩,fun q=>absurd q h5⟩
   · unfold lastE;rw[if_neg h5];omega
   · unfold lastE;rw[if_neg h5];omega
theorem lgSeq_of {h:Hir}(he:hirE h=0):lgSeq h.legs:=by
 have hall:∀i,i<h.legs.length→legE h i=0:=by
  unfold hirE at he;split at he
  · omega
  split at he
  · omega
  split at he
  · omega
  split at he
  · omega
  exact firstAt_all he
 refine⟨fun x hx=> ?_,fun i j hij hj=> ?_⟩
 · obtain⟨i,hi,rfl⟩:=mem_getD (d:=lg0) hx;exact(legE_zero (hall i hi)).1
 · have next:∀k,k+1<h.legs.length→lastE (h.legs.getD k lg0)=(h.legs.getD (k+1) lg0).out.tm:=fun k hk=>by
    have h1:=(legE_zero (hall (k+1) hk)).2.1 (by omega);rw[Nat.add_sub_cancel]at h1
    have h2:(h.legs.getD k lg0).inn.tm≠-1:=fun q=>by
     have:=(legE_zero (hall k (by omega))).2.2 q;omega
    unfold lastE;rw[if_neg h2,h1]
   induction j with
   |zero=>omega
   | succ j ih=>
     rcases Nat.lt_or_ge i j with q|q
     · have h1:=ih q (by omega);have h2:=(legE_zero (hall j (by omega))).1;have h3:=next j hj;omega
     · have:i=j:=by omega
       subst this;rw[next i hj];exact Int.le_refl _
def occK (v:List UInt8)(ls:List Leg)(k:Nat)(t:Int):Bool:=(ls.take k).any fun x=>onL v x t
theorem occK_succ {v:List UInt8}{ls:List Leg}{k:Nat}(hk:k<ls.length)(t:Int):occK v ls (k+1) t=(occK v ls k t||onL v (ls.getD k lg0) t):=by
 unfold occK;rw[take_snocD (d:=lg0) hk,List.any_append];simp
theorem occK_all (v:List UInt8)(h:Hir)(t:Int):occK v h.legs h.legs.length t=occ v h t:=by
 unfold occK occ;rw[List.take_length]
theorem pkD {l:List Int}{x:Int}(h:x ∈ l)(hl:(l.all fun y=>decide (0≤y)&&decide (y≤3000))=true):0≤x∧x≤3000:=by
 have:=List.all_eq_true.1 hl x h;simpa using this
theorem hirs_seq {l:List Hir}(h:hirsE l=0):(∀g ∈ l,hirE g=0)∧∀i,0<i→i<l.length→strLe (l.getD i hi0).key (l.getD (i - 1) hi0).key=false:=by
 unfold hirsE at h;split at h
 · omega
 have hall:=firstAt_all h;refine⟨fun g hg=> ?_,fun i h0 hi=> ?_⟩
 · obtain⟨i,hi,rfl⟩:=mem_getD (d:=hi0) hg;have:=hall i hi;unfold hirsE1 at this;split at this
   · omega
   · rename_i q;exact Classical.not_not.1 q
 · have:=hall i hi;unfold hirsE1 at this;split at this
   · omega
   · split at this
     · omega
     · rename_i q
       cases e:strLe (l.getD i hi0).key (l.getD (i - 1) hi0).key with
       |false=>rfl
       |true=>exact absurd ⟨h0,e⟩ q
end Go.Proofs.YtjibpcoeghlnoaaGreatDoor
namespace Go.Proofs
open Go.Shelf
def Tryz.lays106_ren:Go.Shelf.Ren:=⟨fun|106=>107|213=>143|265=>184|n=>n,fun|9=>9|3=>3|n=>n,fun|n=>n⟩
theorem Tryz.lays106:Go.Proofs.Lays.n106 Tryz.prog Tryz.lays106_ren:={
 mixed:=by kernel_rfl
 f106:=Tryz.func107.trans (congrArg some (by kernel_rfl))
 f213:=Tryz.func143.trans (congrArg some (by kernel_rfl))
 f265:=Tryz.func184.trans (congrArg some (by kernel_rfl))
 t3:=Tryz.underlying3
 a3:=Tryz.isAgg3
 z3:=Tryz.sizeOf3
 v3:=Tryz.zeroValue3
 t9:=Tryz.underlying9
 a9:=Tryz.isAgg9
 z9:=Tryz.sizeOf9
 v9:=Tryz.zeroValue9}
end Go.Proofs
set_option maxRecDepth 20000
namespace Go.Proofs.YtjibpcoeghlnoaaGreatDoor
open Go Go.Eng Go.RowKit
theorem cmpB_S:∀ (a b:List UInt8),Lib.compareBytes a b=cmpS a b:=by
 intro a
 induction a with
 |nil=>intro b;cases b<;>simp[Lib.compareBytes,cmpS,Op.bytesLess]
 | cons x a ih=>
   intro b
   cases b with
   |nil=>simp[Lib.compareBytes,cmpS,Op.bytesLess]
   | cons y b=>
     have:=ih b;unfold cmpS at this ⊢;simp only[Lib.compareBytes,Op.bytesLess];grind
theorem s190 (a b:List UInt8):FSpec Tryz.prog 107 [.d (.str a),.d (.str b)] [] (fun x r=>x= .d (.int .i64 (cmpS a b))∧r= []):=by
 refine FSpec.ofBelow Tryz.call107 (fun G β w vs _ hl hd=> ?_)
 match vs,hl with
 | [u,v],_=>
   have hu:=hd 0 _ _ rfl rfl;have hv:=hd 1 _ _ rfl rfl
   cases hu with|d _ _ hu=>cases hu with|str _=>
   cases hv with|d _ _ hv=>cases hv with|str _=>
   refine⟨.int .i64 (Lib.compareBytes a b),fun G β=> ?_,(Go.Proofs.Any.strings_Compare Go.Proofs.Tryz.lays106 ⟨a.toArray⟩ ⟨b.toArray⟩ w).mono ?_⟩
   · rw[←cmpB_S];exact .d _ _ (.int _ _)
   · rintro e w' ⟨he,rfl⟩;exact⟨he,Below.refl _ _⟩
def withK (v:List UInt8)(l:List Hir)(t:Int):List UInt8×Bool:=match l.find? (fun h=>occ v h t)with|some h=>(h.key,true)|none=>([],false)
theorem withK_no {v:List UInt8}{l:List Hir}{t:Int}(h:∀j,j<l.length→occ v (l.getD j hi0) t=false):withK v l t=([],false):=by
 unfold withK
 have:l.find? (fun h=>occ v h t)=none:=by
  rw[List.find?_eq_none];intro x hx;obtain⟨j,hj,rfl⟩:=mem_getD (d:=hi0) hx;rw[h j hj];simp
 rw[this]
theorem withK_yes {v:List UInt8}{l:List Hir}{t:Int}:∀ {i:Nat},i<l.length→(∀j,j<i→occ v (l.getD j hi0) t=false)→occ v (l.getD i hi0) t=true→withK v l t=((l.getD i hi0).key,true):=by
 induction l with
 |nil=>intro i hi;simp at hi
 | cons x l ih=>
   intro i hi h ho
   cases i with
   | zero=>
     rw[List.getD_cons_zero]at ho ⊢;unfold withK
     rw[List.find?_cons_of_pos (by simpa using ho)]
   | succ i=>
     have h0:=h 0 (by omega);rw[List.getD_cons_zero]at h0;have:=ih (i:=i) (by simpa using hi) (fun j hj=>by have:=h (j+1) (by omega);rwa [List.getD_cons_succ]at this) (by simpa using ho);unfold withK at this ⊢;rw[List.find?_cons_of_neg (by simp[h0])];simpa using this
theorem occK_mono {v:List UInt8}{ls:List Leg}{k:Nat}{t:Int}(hk:k<ls.length)(h:onL v (ls.getD k lg0) t=true):(ls.any fun x=>onL v x t)=true:=by
 rw[List.any_eq_true];exact⟨_,getD_mem hk,h⟩
structure Plt where
 frm:Int
 veh:List UInt8
 plt:List UInt8
deriving DecidableEq
structure Hld where
 veh:List UInt8
 frm:Int
 til:Int
def clashP (o p:Plt):Bool:=decide (o.veh=p.veh)||decide (o.plt=p.plt)
def livStep (acc:List Plt)(x:Plt):List Plt:=acc.filter (fun e=> !clashP e x)++ [x]
def liv (l:List Plt):List Plt:=l.foldl livStep []
def early (l:List Plt)(t:Int):List Plt:=l.filter fun p=>decide (p.frm≤t)
def worn (l:List Plt)(t:Int):List Plt:=(early l t).filter fun p=> !(early l t).any fun o=>decide (p.frm<o.frm)&&clashP o p
theorem snoc_ind {α:Type}{P:List α→Prop}(h0:P [])(h1:∀l x,P l→P (l++ [x])):∀l,P l:=by
 have:∀l:List α,P l.reverse:=by
  intro l
  induction l with
  |nil=>exact h0
  |cons x l ih=>rw[List.reverse_cons];exact h1 _ _ ih
 intro l;have:=this l.reverse;rwa [List.reverse_reverse]at this
theorem liv_snoc (l:List Plt)(x:Plt):liv (l++ [x])=(liv l).filter (fun e=> !clashP e x)++ [x]:=by
 unfold liv;rw[List.foldl_append];rfl
def srtP (l:List Plt):Prop:=l.Pairwise (fun p q=>p.frm≤q.frm)
def aprP (l:List Plt):Prop:=l.Pairwise (fun p q=>p.frm=q.frm→clashP p q=false)
theorem liv_mem {l:List Plt}:∀ {e},e ∈ liv l→e ∈ l:=by
 refine snoc_ind (P:=fun l=>∀ {e},e ∈ liv l→e ∈ l) (by intro e h;cases h) ?_ l;intro l x ih e h;rw[liv_snoc,List.mem_append,List.mem_filter]at h;rw[List.mem_append];exact h.imp (fun q=>ih q.1) id
theorem liv_apart (l:List Plt):(liv l).Pairwise (fun p q=>clashP p q=false):=by
 refine snoc_ind (P:=fun l=>(liv l).Pairwise (fun p q=>clashP p q=false)) .nil ?_ l;intro l x ih;rw[liv_snoc,List.pairwise_append];refine⟨ih.filter _,by simp,fun a ha b hb=> ?_⟩;rw[List.mem_singleton]at hb;subst hb;have:=(List.mem_filter.1 ha).2;simpa using this
theorem early_snoc (l:List Plt)(x:Plt)(t:Int):early (l++ [x]) t=if x.frm≤t then early l t++ [x]else early l t:=by
 unfold early;rw[List.filter_append]
 by_cases h:x.frm≤t<;>simp[h]
theorem early_all {l:List Plt}{t:Int}(h:∀e ∈ l,e.frm≤t):early l t=l:=by
 unfold early;rw[List.filter_eq_self];intro e he;simpa using h e he
theorem wornE (E:List Plt)(hs:srtP E)(ha:aprP E):E.filter (fun p=> !E.any fun o=>decide (p.frm<o.frm)&&clashP o p)=liv E:=by
 revert hs ha
 refine snoc_ind (P:=fun E=>srtP E→aprP E→E.filter (fun p=> !E.any fun o=>decide (p.frm<o.frm)&&clashP o p)=liv E) (by intro _ _;rfl) ?_ E;intro l x ih hs ha;unfold srtP at hs;unfold aprP at ha;rw[List.pairwise_append]at hs ha;have h1:=ih hs.1 ha.1;rw[liv_snoc,←h1,List.filter_append,List.filter_filter];congr 1
 · refine List.filter_congr fun p hp=> ?_
   have q1:=hs.2.2 p hp x (by simp);have q2:=ha.2.2 p hp x (by simp);rw[List.any_append,Bool.not_or,Bool.and_comm];congr 1
   simp only[List.any_cons,List.any_nil,Bool.or_false]
   by_cases h:p.frm<x.frm
   · have:clashP x p=clashP p x:=by unfold clashP;simp only[eq_comm]
     simp[h,this]
   · have:p.frm=x.frm:=by omega
     simp[h,q2 this]
 · rw[List.filter_eq_self];intro y hy;rw[List.mem_singleton]at hy;subst hy;rw[Bool.not_eq_true',List.any_eq_false];intro o ho
   have:o.frm≤y.frm:=by
    rcases List.mem_append.1 ho with q|q
    · exact hs.2.2 o q y (by simp)
    · rw[List.mem_singleton]at q;subst q;exact Int.le_refl _
   simp[show ¬y.frm<o.frm by omega]
theorem worn_liv {l:List Plt}(hs:srtP l)(ha:aprP l)(t:Int):worn l t=liv (early l t):=
 wornE _ (hs.filter _) (ha.filter _)
theorem liv_early {l:List Plt}(hs:srtP l){t:Int}:∀ {e},e ∈ liv l→e.frm≤t→e ∈ liv (early l t):=by
 revert hs
 refine snoc_ind (P:=fun l=>srtP l→∀ {e},e ∈ liv l→e.frm≤t→e ∈ liv (early l t)) (by intro _ e h;cases h) ?_ l;intro l x ih hs e he ht;unfold srtP at hs;rw[List.pairwise_append]at hs;rw[early_snoc]
 by_cases hx:x.frm≤t
 · rw[if_pos hx,early_all (fun e he=>by have:=hs.2.2 e he x (by simp);omega)];exact he
 · rw[if_neg hx];rw[liv_snoc,List.mem_append]at he;rcases he with q|q
   · exact ih hs.1 (List.mem_filter.1 q).1 ht
   · rw[List.mem_singleton]at q;subst q;exact absurd ht hx
theorem apart_eq {L:List Plt}(h:L.Pairwise (fun p q=>clashP p q=false)){a b:Plt}(ha:a ∈ L)(hb:b ∈ L)(hc:clashP a b=true):a=b:=by
 induction L with
 |nil=>cases ha
 | cons y L ih=>
   rw[List.pairwise_cons]at h;rcases List.mem_cons.1 ha with rfl|ha'
   · rcases List.mem_cons.1 hb with rfl|hb'
     · rfl
     · rw[h.1 b hb']at hc;cases hc
   · rcases List.mem_cons.1 hb with rfl|hb'
     · have:=h.1 a ha';have q:clashP b a=clashP a b:=by unfold clashP;simp only[eq_comm]
       rw[q,hc]at this;cases this
     · exact ih h.2 ha' hb'
def findP (L:List Plt)(p:List UInt8):Option Plt:=L.find? fun e=>decide (e.plt=p)
theorem findP_of {L:List Plt}(h:L.Pairwise (fun p q=>clashP p q=false)){e:Plt}(he:e ∈ L):findP L e.plt=some e:=by
 cases hf:findP L e.plt with
 | none=>
   have:=List.find?_eq_none.1 hf e he
   simp at this
 | some a=>
   have h1:=List.find?_some hf;have h2:=List.mem_of_find?_eq_some hf;simp only[decide_eq_true_eq]at h1;rw[apart_eq h h2 he (by unfold clashP;simp[h1])]
theorem findP_some {L:List Plt}{p:List UInt8}{e:Plt}(h:findP L p=some e):e ∈ L∧e.plt=p:=
 ⟨List.mem_of_find?_eq_some h,by simpa using List.find?_some h⟩
theorem findP_none {L:List Plt}{p:List UInt8}(h:findP L p=none):∀e ∈ L,e.plt≠p:=by
 intro e he;have:=List.find?_eq_none.1 h e he;simpa using this
structure HS where
 live:List Plt
 out:List UInt8→List Hld
def hdrop (s:HS)(p:List UInt8)(t:Int):HS:=
 match findP s.live p with
 |none=>s
 |some e=>⟨s.live.filter fun e=> !decide (e.plt=p),fun q=>if q=p∧e.frm<t then s.out q++ [⟨e.veh,e.frm,t⟩]else s.out q⟩
def findV (L:List Plt)(v:List UInt8):Option Plt:=L.find? fun e=>decide (e.veh=v)
def hmid (s:HS)(x:Plt):HS:=match findV s.live x.veh with|none=>s|some e=>hdrop s e.plt x.frm
def hstep (s:HS)(x:Plt):HS:=⟨(hdrop (hmid s x) x.plt x.frm).live++ [x],(hdrop (hmid s x) x.plt x.frm).out⟩
def hs0:HS:=⟨[],fun _=> []⟩
def hall (l:List Plt):HS:=l.foldl hstep hs0
def hend (l:List Plt):HS:=l.foldl (fun s x=>hdrop s x.plt 5761440) (hall l)
def inH (t:Int)(h:Hld):Bool:=decide (h.frm≤t)&&decide (t<h.til)
def findH (o:List Hld)(t:Int):Option (List UInt8):=(o.find? (inH t)).map (·.veh)
def expH (l live:List Plt)(p:List UInt8)(t:Int):Option (List UInt8):=
 match findP (liv (early l t)) p with
 |some e=>if e ∈ live then none else some e.veh
 |none=>none
structure HInv (T:Int)(l:List Plt)(s:HS):Prop where
 eq:∀p t,t<T→findH (s.out p) t=expH l s.live p t
 til:∀p h,h ∈ s.out p→h.til≤T
 sub:∀e ∈ s.live,e ∈ liv l
 apart:s.live.Pairwise (fun p q=>clashP p q=false)
theorem hdrop_live (s:HS)(p:List UInt8)(t:Int):(hdrop s p t).live=s.live.filter fun e=> !decide (e.plt=p):=by
 unfold hdrop
 cases h:findP s.live p with
 |some e=>rfl
 | none=>
   symm
   rw[List.filter_eq_self];intro e he;simpa using findP_none h e he
theorem hdrop_inv {T:Int}{l:List Plt}{s:HS}(h:HInv T l s)(hs:srtP l)(p:List UInt8):HInv T l (hdrop s p T):=by
 have hlive:=hdrop_live s p T;have hsub:∀e ∈ (hdrop s p T).live,e ∈ s.live:=by intro e he;rw[hlive]at he;exact(List.mem_filter.1 he).1
 refine⟨fun q t ht=> ?_,fun q x hx=> ?_,fun e he=>h.sub e (hsub e he),by rw[hlive];exact h.apart.filter _⟩
 · have hold :=h.eq q t ht
   cases hf:findP s.live p with
   | none=>
     have:hdrop s p T=s:=by unfold hdrop;rw[hf]
     rw[this];exact hold
   | some e=>
     obtain⟨e1,e2⟩:=findP_some hf;have ho:(hdrop s p T).out q=if q=p∧e.frm<T then s.out q++ [⟨e.veh,e.frm,T⟩]else s.out q:=by unfold hdrop;rw[hf]
     rw[ho]
     by_cases hq:q=p
     · subst hq
       by_cases hte:e.frm≤t
       · have hin:=liv_early hs (h.sub e e1) hte;have hfe:findP (liv (early l t)) q=some e:=by rw[←e2];exact findP_of (liv_apart _) hin
         have h0:expH l s.live q t=none:=by unfold expH;rw[hfe];simp[e1]
         have h1:expH l (hdrop s q T).live q t=some e.veh:=by
          unfold expH;rw[hfe];have:e ∉ (hdrop s q T).live:=by rw[hlive,List.mem_filter];simp[e2]
          simp[this]
         rw[h0]at hold;rw[h1,if_pos ⟨rfl,by omega⟩];unfold findH at hold ⊢;rw[Option.map_eq_none_iff]at hold;rw[List.find?_append,hold];simp[inH,hte,ht]
       · have hex:expH l (hdrop s q T).live q t=expH l s.live q t:=by
          unfold expH
          cases hg:findP (liv (early l t)) q with
          |none=>rfl
          | some a=>
            obtain⟨a1,a2⟩:=findP_some hg
            have hat:a.frm≤t:=by
             have:=(List.mem_filter.1 (liv_mem a1)).2;simpa using this
            have hna:a ∉ s.live:=fun hm=>by
             have:=apart_eq h.apart hm e1 (by unfold clashP;simp[a2,e2]);subst this;exact hte hat
            have hnb:a ∉ (hdrop s q T).live:=fun hm=>hna (hsub a hm)
            simp[hna,hnb]
         rw[hex,←hold];split
         · unfold findH;rw[List.find?_append]
           cases (s.out q).find? (inH t)with
           |some y=>rfl
           |none=>simp[inH,hte]
         · rfl
     · rw [if_neg (fun c=>hq c.1),hold];unfold expH
       cases hg:findP (liv (early l t)) q with
       |none=>rfl
       | some a=>
         obtain⟨a1,a2⟩:=findP_some hg
         have:a ∈ (hdrop s p T).live↔a ∈ s.live:=by
          rw[hlive,List.mem_filter];exact⟨fun q=>q.1,fun m=>⟨m,by simp only[Bool.not_eq_true',decide_eq_false_iff_not];rw[a2];exact hq⟩⟩
         simp[this]
 · cases hf:findP s.live p with
   | none=>
     have:hdrop s p T=s:=by unfold hdrop;rw[hf]
     rw[this]at hx;exact h.til q x hx
   | some e=>
     have ho:(hdrop s p T).out q=if q=p∧e.frm<T then s.out q++ [⟨e.veh,e.frm,T⟩]else s.out q:=by unfold hdrop;rw[hf]
     rw[ho]at hx;split at hx
     · rcases List.mem_append.1 hx with m|m
       · exact h.til q x m
       · rw[List.mem_singleton]at m;subst m;exact Int.le_refl _
     · exact h.til q x hx
theorem HInv.raise {T0 T:Int}{l:List Plt}{s:HS}(h:HInv T0 l s)(hl:∀e,e ∈ liv l→e ∈ s.live)(hf:∀e ∈ l,e.frm≤T0)(hT:T0≤T):HInv T l s:=by
 refine⟨fun p t ht=> ?_,fun p x hx=>Int.le_trans (h.til p x hx) hT,h.sub,h.apart⟩
 by_cases h0:t<T0
 · exact h.eq p t h0
 · have he:early l t=l:=early_all (fun e he=>by have:=hf e he;omega)
   have h1:expH l s.live p t=none:=by
    unfold expH;rw[he]
    cases hg:findP (liv l) p with
    |none=>rfl
    |some a=>simp[hl a (findP_some hg).1]
   rw[h1];unfold findH;rw[Option.map_eq_none_iff,List.find?_eq_none];intro x hx;have:=h.til p x hx;simp[inH];omega
theorem hmid_live {s:HS}(h:s.live.Pairwise (fun p q=>clashP p q=false))(x:Plt):(hmid s x).live=s.live.filter fun e=> !decide (e.veh=x.veh):=by
 unfold hmid
 cases hf:findV s.live x.veh with
 | none=>
   symm
   rw[List.filter_eq_self];intro e he;have:=List.find?_eq_none.1 hf e he
   simpa using this
 | some e=>
   have h1:=List.find?_some hf;have h2:=List.mem_of_find?_eq_some hf;simp only[decide_eq_true_eq]at h1;simp only;rw[hdrop_live];refine List.filter_congr fun a ha=> ?_
   congr 1
   rw[decide_eq_decide];constructor
   · intro q;rw[apart_eq h ha h2 (by unfold clashP;simp[q])];exact h1
   · intro q;rw[apart_eq h ha h2 (by unfold clashP;simp[q,h1])]
theorem hstep_live {s:HS}(h:s.live.Pairwise (fun p q=>clashP p q=false))(x:Plt):(hstep s x).live=s.live.filter (fun e=> !clashP e x)++ [x]:=by
 show(hdrop (hmid s x) x.plt x.frm).live++ [x]=_;rw[hdrop_live,hmid_live h,List.filter_filter];congr 1
 refine List.filter_congr fun a ha=> ?_
 unfold clashP;rw[Bool.not_or,Bool.and_comm]
theorem hmid_inv {l:List Plt}{s:HS}{x:Plt}(h:HInv x.frm l s)(hs:srtP l):HInv x.frm l (hmid s x):=by
 unfold hmid
 cases findV s.live x.veh with
 |none=>exact h
 |some e=>exact hdrop_inv h hs _
theorem hstep_inv {l:List Plt}{s:HS}{x:Plt}(h:HInv x.frm l s)(hl:s.live=liv l)(hs:srtP (l++ [x])):HInv x.frm (l++ [x]) (hstep s x)∧(hstep s x).live=liv (l++ [x]):=by
 unfold srtP at hs;rw[List.pairwise_append]at hs;have hlive:(hstep s x).live=liv (l++ [x]):=by rw[hstep_live h.apart,liv_snoc,hl]
 have h2:=hdrop_inv (hmid_inv h hs.1) hs.1 x.plt;refine⟨⟨fun p t ht=> ?_,h2.til,fun e he=>by rwa [hlive]at he,by rw[hlive];exact liv_apart _⟩,hlive⟩;have:=h2.eq p t ht;show findH ((hdrop (hmid s x) x.plt x.frm).out p) t=_;rw[this];unfold expH;rw[early_snoc,if_neg (by omega)]
 cases hg:findP (liv (early l t)) p with
 |none=>rfl
 | some a=>
   obtain⟨a1,a2⟩:=findP_some hg
   have hat:a.frm≤t:=by
    have:=(List.mem_filter.1 (liv_mem a1)).2;simpa using this
   have:a ∈ (hstep s x).live↔a ∈ (hdrop (hmid s x) x.plt x.frm).live:=by
    show a ∈ (hdrop (hmid s x) x.plt x.frm).live++ [x]↔_;rw[List.mem_append,List.mem_singleton];exact⟨fun q=>q.resolve_right (by rintro rfl;omega),.inl⟩
   simp[this]
theorem hall_snoc (l:List Plt)(x:Plt):hall (l++ [x])=hstep (hall l) x:=by unfold hall;rw[List.foldl_append];rfl
theorem hall_inv (l:List Plt)(hs:srtP l):(hall l).live=liv l∧∀T,(∀e ∈ l,e.frm≤T)→HInv T l (hall l):=by
 revert hs
 refine snoc_ind (P:=fun l=>srtP l→(hall l).live=liv l∧∀T,(∀e ∈ l,e.frm≤T)→HInv T l (hall l)) ?_ ?_ l
 · intro _;exact⟨rfl,fun T _=>⟨fun p t _=>rfl,fun p h hh=>(List.not_mem_nil hh).elim,fun e he=>(List.not_mem_nil he).elim,.nil⟩⟩
 · intro l x ih hs;have hs':=hs;unfold srtP at hs';rw[List.pairwise_append]at hs';obtain⟨i1,i2⟩:=ih hs'.1;have h1:=i2 x.frm (fun e he=>hs'.2.2 e he x (by simp));have h2:=hstep_inv h1 i1 hs;rw[hall_snoc];refine⟨h2.2,fun T hT=> ?_⟩;have hx:x.frm≤T:=hT x (by simp);refine h2.1.raise (fun e he=>by rw[h2.2];exact he) (fun e he=> ?_) hx;rcases List.mem_append.1 he with q|q
   · exact hs'.2.2 e q x (by simp)
   · rw[List.mem_singleton]at q;subst q;exact Int.le_refl _
theorem hdrops_inv {T:Int}{l:List Plt}(hs:srtP l):∀ (m:List Plt) (s:HS),HInv T l s→HInv T l (m.foldl (fun s x=>hdrop s x.plt T) s)∧
 ∀e ∈ (m.foldl (fun s x=>hdrop s x.plt T) s).live,e ∈ s.live∧∀x ∈ m,e.plt≠x.plt:=by
 intro m
 induction m with
 |nil=>intro s h;exact⟨h,fun e he=>⟨he,fun x hx=>by cases hx⟩⟩
 | cons y m ih=>
   intro s h;obtain⟨i1,i2⟩:=ih _ (hdrop_inv h hs y.plt);refine⟨i1,fun e he=> ?_⟩;obtain⟨j1,j2⟩:=i2 e he;rw[hdrop_live,List.mem_filter]at j1;refine⟨j1.1,fun x hx=> ?_⟩;rcases List.mem_cons.1 hx with rfl|q
   · simpa using j1.2
   · exact j2 x q
theorem hend_eq {l:List Plt}(hs:srtP l)(hm:∀e ∈ l,e.frm<5761440){t:Int}(ht:t<5761440)(p:List UInt8):
 findH ((hend l).out p) t=(findP (liv (early l t)) p).map (·.veh):=by
 obtain⟨h1,h2⟩:=hall_inv l hs;have h3:=h2 5761440 (fun e he=>by have:=hm e he;omega);obtain⟨h4,h5⟩:=hdrops_inv hs l _ h3;have:=h4.eq p t ht;unfold hend;rw[this];unfold expH
 cases hg:findP (liv (early l t)) p with
 |none=>rfl
 | some a=>
   have hna:a ∉ (l.foldl (fun s x=>hdrop s x.plt 5761440) (hall l)).live:=fun hm' =>by
    obtain⟨j1,j2⟩:=h5 a hm';rw[h1]at j1;exact j2 a (liv_mem j1) rfl
   simp[hna]
structure Ntr where
 name:Int
 pay:Int
 step:Int
 late:Int
structure Ntc where
 key:List UInt8
 plate:List UInt8
 tm:Int
 came:Int
 cents:Int
theorem sMoment (n:Int):FSpec Tryz.prog 54 [.d (.int .i64 n)] [] (fun x o=>x= .d (.int .i64 (if 0≤n∧n≤5761439 then 0 else 1))∧o= []):=by
 refine spec_of hT (C:= []) Tryz.func54 rfl Tryz.call54 rfl rfl rfl ?_;conv=>whnf
 repeat' (first|(refine CallX.exact (s154 _) rfl rfl ?_;rotate_right;conv=>whnf)|(refine CallX.exact (s107 _ _) rfl rfl ?_;rotate_right;conv=>whnf)|((first|(refine br_intro ?_ ?_<;>intro hb<;>try simp only[brs]at hb)|omega|refine sAx ?_|decide|assumption)<;>conv=>whnf))
 refine .ret _ ?_;conv=>whnf
 refine⟨[],⟨?_,rfl⟩,trivial⟩;conv=>lhs;whnf
 congr 2
 grind
structure Cls where
 key:List UInt8
 up:List UInt8
structure Veh where
 key:List UInt8
 cls:List UInt8
structure Sta where
 key:List UInt8
 h:Nat→Int
def clsF:Cls→List DV:=fun c=> [.str c.key,.str c.up]
def cls0:Cls:=⟨[],[]⟩
abbrev clss (l:List Cls):DV:=seqD 2 clsF cls0 l
def vehF:Veh→List DV:=fun c=> [.str c.key,.str c.cls]
def veh0:Veh:=⟨[],[]⟩
abbrev vehs (l:List Veh):DV:=seqD 2 vehF veh0 l
def pltF:Plt→List DV:=fun p=> [.int .i64 p.frm,.str p.veh,.str p.plt]
def plt0:Plt:=⟨0,[],[]⟩
abbrev plts (l:List Plt):DV:=seqD 3 pltF plt0 l
def staF:Sta→List DV:=fun s=> [.str s.key,.int .i64 (s.h 0),.int .i64 (s.h 1),.int .i64 (s.h 2),.int .i64 (s.h 3),.int .i64 (s.h 4),.int .i64 (s.h 5),.int .i64 (s.h 6),.int .i64 (s.h 7),.int .i64 (s.h 8),.int .i64 (s.h 9),.int .i64 (s.h 10),.int .i64 (s.h 11),.int .i64 (s.h 12),.int .i64 (s.h 13)]
def sta0:Sta:=⟨[],fun _=>0⟩
abbrev stas (l:List Sta):DV:=seqD 15 staF sta0 l
def clsK (c:Cls):Prop:=c.key.length≤8∧c.up.length≤8
def vehK (c:Veh):Prop:=c.key.length≤8∧c.cls.length≤8
def pltK (c:Plt):Prop:=(-2^40≤c.frm∧c.frm≤2^40)∧c.veh.length≤8∧c.plt.length≤16
def staK (c:Sta):Prop:=c.key.length≤8
def cls4:List Cls:= [⟨[98,105,103],[]⟩,⟨[109,97,120,105],[]⟩,⟨[109,105,100,105],[]⟩,⟨[109,105,110,105],[]⟩]
def clsB (l:List Cls):Prop:=l.length≤4∧∀x ∈ l,clsK x
def kyC (key:List UInt8):Res:=.cells 9 [.d (.str key)]
def clIx (l:List Cls)(key:List UInt8):Int:=ixF (fun i=>(l.getD i cls0).key==key) l.length
def veIx (l:List Veh)(key:List UInt8):Int:=ixF (fun i=>(l.getD i veh0).key==key) l.length
theorem z242 (x:Cls)(key:List UInt8):FSpec Tryz.prog 175 [.agg ((clsF x).map .d),.ptr 1000001 0] [(1000001,kyC key)] (fun y r=>y= .d (.bool (x.key==key))∧r= [(1000001,kyC key)]):=by
 refine spec_of hT (C:= []) Tryz.func175 rfl Tryz.call175 rfl rfl rfl ?_;conv=>whnf
 refine .ret _ ?_;conv=>whnf
 exact⟨[(1000001,kyC key)],⟨rfl,rfl⟩,rr,trivial⟩
theorem z155b (l:List Cls)(hl:l.length≤2^40)(key:List UInt8):FSpec Tryz.prog 174 [.d (clss l),.fn 175 [.ptr 1000001 0]] [(1000001,kyC key)] (fun x r=>x= .d (.int .i64 (clIx l key))∧r= [(1000001,kyC key)]):=by
 refine spec_of hT (C:= []) Tryz.func174 rfl Tryz.call174 rfl rfl rfl ?_;conv=>whnf
 refine LoopX.rule hT (C:= []) (ι:=Nat) (fun i=>i≤l.length∧∀j,j<i→((l.getD j cls0).key==key)=false) (fun i=>mkSt [(0,.d (clss l)),(1,.fn 175 [.ptr 1000001 0]),(7,.d (.int .i64 l.length)),(8,.d (.int .i64 i))] [(1000001,kyC key)]) (fun i=>l.length - i) 0 ⟨by omega,by omega⟩ (by exact eAx [(1000001,1000001)]) ?_;rintro i ⟨p1,p2⟩;have e1:(i:Int).toNat=i:=Int.toNat_natCast i;conv=>whnf
 repeat' (first|((first|(refine oAx (z242 (l.getD (i:Int).toNat cls0) key) [(1000001,1000001)] ?_;rintro x rout ⟨rfl,rfl⟩;refine⟨rfl,?_⟩)|(refine br_intro ?_ ?_<;>intro hb<;>try simp only[brs]at hb)|omega|refine sAx ?_|decide|assumption)<;>conv=>whnf))
 · refine .ret _ ?_;conv=>whnf
   refine⟨[(1000001,kyC key)],⟨?_,rfl⟩,rr,trivial⟩;conv=>lhs;whnf
   congr 2
   exact(ixF_hit (by omega) p2 (by simpa using hb)).symm
 · exact⟨i+1,⟨by omega,all_step p2 (by simpa using hb)⟩,by omega,(by exact eAx [(1000001,1000001)])⟩
 · refine .ret _ ?_;conv=>whnf
   refine⟨[(1000001,kyC key)],⟨?_,rfl⟩,rr,trivial⟩;conv=>lhs;whnf
   congr 2
   have:i=l.length:=by omega
   subst this;exact(ixF_none p2).symm
theorem z176 (l:List Cls)(hl:l.length≤2^40)(key:List UInt8):FSpec Tryz.prog 127 [.d (clss l),.d (.str key)] [] (fun x r=>x= .d (.int .i64 (clIx l key))∧r= []):=by
 refine spec_of hT (C:= []) Tryz.func127 rfl Tryz.call127 rfl rfl rfl ?_;conv=>whnf
 refine oAx (z155b l hl key) [(1000001,3)] ?_;rintro x rout ⟨rfl,rfl⟩;refine⟨rfl,?_⟩;conv=>whnf
 refine .ret _ ?_;conv=>whnf
 refine⟨[],⟨?_,rfl⟩,trivial⟩;conv=>lhs;whnf
structure Flt where
 sta:List Sta
 cls:List Cls
 veh:List Veh
 plt:List Plt
abbrev flt (f:Flt):SV:=.agg [.d (stas f.sta),.d (clss f.cls),.d (vehs f.veh),.d (plts f.plt)]
theorem clIx_bd (l:List Cls)(key:List UInt8): -1≤clIx l key∧clIx l key<l.length:=⟨ixF_bd.1,ixF_bd.2.1⟩
theorem clIx_at {l:List Cls}{key:List UInt8}(h:0≤clIx l key):(l.getD (clIx l key).toNat cls0).key=key:=by
 have:=(ixF_bd (p:=fun i=>(l.getD i cls0).key==key) (n:=l.length)).2.2 h;exact eq_of_beq this
def upC (l:List Cls)(key:List UInt8):List UInt8:=(l.getD (clIx l key).toNat cls0).up
def abv (l:List Cls):Nat→List UInt8→List (List UInt8)
 |0,_=> []
 |n+1,key=>if upC l key= []then []else upC l key::abv l n (upC l key)
theorem abv_len (l:List Cls):∀ (n:Nat) (key:List UInt8),(abv l n key).length≤n:=by
 intro n
 induction n with
 |zero=>intro key;simp[abv]
 |succ n ih=>intro key;rw[abv];split;simp;simp;exact ih _
def upsOk (l:List Cls):Prop:=(∀c ∈ l,c.up≠ []→0≤clIx l c.up)
theorem z241 (l:List Cls)(hl:l.length≤2^20)(hu:upsOk l)(key:List UInt8)(hk:0≤clIx l key):
 FSpec Tryz.prog 173 [.d (clss l),.d (.str key)] [] (fun x r=>x= .d (strs (abv l l.length key))∧r= []):=by
 refine spec_of hT (C:= []) Tryz.func173 rfl Tryz.call173 rfl rfl rfl ?_;conv=>whnf
 refine LoopX.rule hT (C:= []) (ι:=List (List UInt8)×List UInt8×Nat) (fun(o,k,i)=>i≤l.length∧o.length≤i∧0≤clIx l k∧o++abv l (l.length - i) k=abv l l.length key)
  (fun(o,k,i)=>mkSt [(0,.d (clss l)),(1,.d (.str k)),(5,.buf 5),(7,.d (.int .i64 l.length)),(8,.d (.int .i64 i))] [(5,seqB 9 1 sF [] o)])
  (fun(_,_,i)=>l.length - i) ([],key,0) ⟨by simp,by simp,hk,by simp⟩ ?_ ?_
 · exact(Entails.nil 5 5 9 1 (rowF sF [] []) rfl rfl (by decide)).trans (Entails.mk' [(5,5)] rfl rfl ⟨lr,lr,lr,lr,lr,trivial⟩ ⟨rr,trivial⟩)
 rintro⟨o,k,i⟩ ⟨p1,p2,p3,p4⟩;have p1:i≤l.length:=p1;have p2:o.length≤i:=p2;have p3:0≤clIx l k:=p3;have p4:o++abv l (l.length - i) k=abv l l.length key:=p4;have hb1:=(clIx_bd l k).2;conv=>whnf
 repeat' (first|(refine CallX.exact (z176 l (by omega) k) rfl rfl ?_;rotate_right;conv=>whnf)|((first|(refine br_intro ?_ ?_<;>intro hb<;>try simp only[brs]at hb)|omega|refine sAx ?_|decide|assumption)<;>conv=>whnf))
 · refine .freeze _ 5 9 1 _ _ rfl (.weak _ ?_);conv=>whnf
   refine⟨.d (strs o),[],lr,⟨?_,rfl⟩,trivial⟩;rw[←p4,show l.length - i=(l.length - i - 1)+1 by omega,abv,if_pos (show upC l k= []from hb),List.append_nil]
 · have hm:(l.getD (clIx l k).toNat cls0) ∈ l:=getD_mem (by omega)
   refine⟨(o++ [upC l k],upC l k,i+1),⟨by omega,by simp;omega,hu _ hm hb,?_⟩,by show l.length - (i+1)<l.length - i;omega,
    Entails.mk' [(5,22)] rfl rfl ⟨lr,lr,lr,lr,lr,trivial⟩ ⟨Res.le_snocF rfl,trivial⟩⟩
   rw[←p4,show l.length - i=(l.length - (i+1))+1 by omega,abv,if_neg (show ¬upC l k= []from hb),List.append_assoc];rfl
 · refine .freeze _ 5 9 1 _ _ rfl (.weak _ ?_);conv=>whnf
   refine⟨.d (strs o),[],lr,⟨?_,rfl⟩,trivial⟩;rw[←p4,show l.length - i=0 by omega,abv,List.append_nil]
theorem z208 (l:List (List UInt8))(hl:l.length≤2^40)(v:List UInt8):FSpec Tryz.prog 204 [.d (strs l),.d (.str v)] [] (fun x r=>x= .d (.int .i64 (ixF (fun i=>l.getD i []==v) l.length))∧r= []):=by
 refine spec_of hT (C:= []) Tryz.func204 rfl Tryz.call204 rfl rfl rfl ?_;conv=>whnf
 refine LoopX.rule hT (C:= []) (ι:=Nat) (fun i=>i≤l.length∧∀j,j<i→(l.getD j []==v)=false) (fun i=>mkSt [(0,.d (strs l)),(1,.d (.str v)),(7,.d (.int .i64 l.length)),(8,.d (.int .i64 i))] []) (fun i=>l.length - i) 0 ⟨by omega,by omega⟩ (by exact eAx []) ?_;rintro i ⟨p1,p2⟩;have e1:(i:Int).toNat=i:=Int.toNat_natCast i;conv=>whnf
 repeat' (first|((first|(refine br_intro ?_ ?_<;>intro hb<;>try simp only[brs]at hb)|omega|refine sAx ?_|decide|assumption)<;>conv=>whnf))
 · refine .ret _ ?_;conv=>whnf
   refine⟨[],⟨?_,rfl⟩,trivial⟩;conv=>lhs;whnf
   congr 2
   exact(ixF_hit (by omega) p2 (by rw[←hb];simp)).symm
 · exact⟨i+1,⟨by omega,all_step p2 (beq_eq_false_iff_ne.2 fun q=>hb q.symm)⟩,by omega,(by exact eAx [])⟩
 · refine .ret _ ?_;conv=>whnf
   refine⟨[],⟨?_,rfl⟩,trivial⟩;conv=>lhs;whnf
   congr 2
   have:i=l.length:=by omega
   subst this;exact(ixF_none p2).symm
theorem ix_memF (l:List (List UInt8))(v:List UInt8):decide (0≤ixF (fun i=>l.getD i []==v) l.length)=decide (v ∈ l):=by
 rw[decide_eq_decide];constructor
 · intro h;have:=ixF_bd (p:=fun i=>l.getD i []==v) (n:=l.length);rw[←eq_of_beq (this.2.2 h)];exact getD_mem (by omega)
 · intro h;obtain⟨j,hj,rfl⟩:=mem_getD (d:= []) h;exact ixF_pos hj (by simp)
theorem z153 (l:List (List UInt8))(hl:l.length≤2^40)(v:List UInt8):FSpec Tryz.prog 172 [.d (strs l),.d (.str v)] [] (fun x r=>x= .d (.bool (decide (v ∈ l)))∧r= []):=by
 refine spec_of hT (C:= []) Tryz.func172 rfl Tryz.call172 rfl rfl rfl ?_;conv=>whnf
 repeat' (first|(refine CallX.exact (z208 l hl v) rfl rfl ?_;rotate_right;conv=>whnf)|((first|(refine br_intro ?_ ?_<;>intro hb<;>try simp only[brs]at hb)|omega|refine sAx ?_|decide|assumption)<;>conv=>whnf))
 refine .ret _ ?_;conv=>whnf
 refine⟨[],⟨?_,rfl⟩,trivial⟩;conv=>lhs;whnf
 rw[←ix_memF]
def itU (l:List Cls):Nat→List UInt8→List UInt8
 |0,k=>k
 |n+1,k=>itU l n (upC l k)
theorem itU_add (l:List Cls):∀ (a b:Nat) (k:List UInt8),itU l (a+b) k=itU l b (itU l a k):=by
 intro a
 induction a with
 |zero=>intro b k;rw[Nat.zero_add];rfl
 |succ a ih=>intro b k;rw[show a+1+b=(a+b)+1 by omega,itU,ih,itU]
theorem abv_mem (l : List Cls) : ∀ (n : Nat) (k v :List UInt8),v ∈ abv l n k↔∃j,j<n∧itU l (j+1) k=v∧∀i,i≤j→itU l (i+1) k≠ []:=by
 intro n
 induction n with
 |zero=>intro k v;simp[abv]
 | succ n ih=>
   intro k v;rw[abv]
   by_cases h:upC l k= []
   · rw[if_pos h];constructor
     · intro q;cases q
     · rintro⟨j,_,_,h3⟩;exact absurd h (h3 0 (by omega))
   · rw [if_neg h,List.mem_cons,ih];constructor
     · rintro(rfl|⟨j,h1,h2,h3⟩)
       · exact ⟨0, by omega, rfl, fun i hi => by obtain rfl:i=0:=by omega
                                                 exact h⟩
       · refine⟨j+1,by omega,h2,fun i hi=> ?_⟩
         cases i with
         |zero=>exact h
         |succ i=>exact h3 i (by omega)
     · rintro⟨j,h1,h2,h3⟩
       cases j with
       |zero=>exact .inl h2.symm
       |succ j=>exact .inr ⟨j,by omega,h2,fun i hi=>h3 (i+1) (by omega)⟩
theorem nodupG {α:Type}{l m:List α}(h:l.Nodup)(hs:∀x ∈ l,x ∈ m):l.length≤m.length:=by
 induction l generalizing m with
 |nil=>simp
 | cons x l ih=>
   rw[List.nodup_cons]at h;obtain⟨a,b,rfl⟩:=List.append_of_mem (hs x (by simp))
   have:=ih (m:=a++b) h.2 (fun y hy=>by
    have q:=hs y (by simp[hy]);simp only[List.mem_append,List.mem_cons]at q ⊢;rcases q with q|q|q
    · exact .inl q
    · subst q;exact absurd hy h.1
    · exact .inr q)
   simp at this ⊢;omega
theorem clIx_mem {l:List Cls}{k:List UInt8}(h:0≤clIx l k):k ∈ l.map (·.key):=by
 rw[←clIx_at h];exact List.mem_map_of_mem (getD_mem (by have:=(clIx_bd l k).2;omega))
theorem itU_in {l:List Cls}(hu:upsOk l){k:List UInt8}(hk:0≤clIx l k):∀ (j:Nat),(∀i,i<j→itU l (i+1) k≠ [])→0≤clIx l (itU l j k):=by
 intro j
 induction j with
 |zero=>intro _;exact hk
 | succ j ih=>
   intro h;have h1:=ih (fun i hi=>h i (by omega));have h2:=h j (by omega);have e:itU l (j+1) k=upC l (itU l j k):=by rw[itU_add];rfl
   rw[e]at h2 ⊢;exact hu _ (getD_mem (by have:=(clIx_bd l (itU l j k)).2;omega)) h2
theorem loop_eq {l:List Cls}(hu:upsOk l){k:List UInt8}(hk:0≤clIx l k):k ∈ abv l (l.length+1) k↔k ∈ abv l l.length k:=by
 rw[abv_mem,abv_mem];constructor
 · rintro⟨j,h1,h2,h3⟩
   by_cases hj:j<l.length
   · exact⟨j,hj,h2,h3⟩
   · have hj:j=l.length:=by omega
     subst hj
     by_cases hex:∃j',j'<l.length∧itU l (j'+1) k=k
     · obtain⟨j',q1,q2⟩:=hex;exact⟨j',q1,q2,fun i hi=>h3 i (by omega)⟩
     · exfalso
       have hnd:((List.range (l.length+1)).map fun j=>itU l j k).Nodup:=by
        rw[List.nodup_iff_pairwise_ne,List.pairwise_map];refine List.Pairwise.imp_of_mem ?_ List.pairwise_lt_range;intro a b ha hb hab he;rw[List.mem_range]at ha hb;refine hex ⟨a+(l.length+1 - b) - 1,by omega,?_⟩;rw[show a+(l.length+1 - b) - 1+1=a+(l.length+1 - b)by omega,itU_add,he,←itU_add,show b+(l.length+1 - b)=l.length+1 by omega];exact h2
       have:=nodupG (m:=l.map (·.key)) hnd (fun x hx=>by
        obtain⟨j,hj,rfl⟩:=List.mem_map.1 hx;rw[List.mem_range]at hj
        exact clIx_mem (itU_in hu hk j (fun i hi=>h3 i (by omega))))
       simp at this;omega
 · rintro⟨j,h1,h2,h3⟩;exact⟨j,by omega,h2,h3⟩
theorem clIx_pos {l:List Cls}{c:Cls}(h:c ∈ l):0≤clIx l c.key:=by
 obtain⟨j,hj,rfl⟩:=mem_getD (d:=cls0) h;exact ixF_pos hj (by simp)
def clsE1 (l:List Cls)(i:Nat):Int:=
 if isKeyB (l.getD i cls0).key=false then 5 else if 0<i∧strLe (l.getD i cls0).key (l.getD (i - 1) cls0).key=true then 7
 else if(l.getD i cls0).up≠ []∧isKeyB (l.getD i cls0).up=false then 5 else 0
def clsE2 (l:List Cls)(i:Nat):Int:=if(l.getD i cls0).up≠ []∧clIx l (l.getD i cls0).up<0 then 8 else 0
def clsE3 (l:List Cls)(i:Nat):Int:=if(l.getD i cls0).key ∈ abv l l.length (l.getD i cls0).key then 14 else 0
def clssE (l:List Cls):Int:=if 30<l.length then 2 else firstE [firstAt (clsE1 l) l.length,firstAt (clsE2 l) l.length,firstAt (clsE3 l) l.length]
def clsOk (l:List Cls):Prop:=l.length≤2^20∧∀c ∈ l,c.key.length≤2^40∧c.up.length≤2^40
def pltCmp (a b:Plt):Int:=firstE [cmpI a.frm b.frm,cmpS a.veh b.veh,cmpS a.plt b.plt]
def pltC (p:Plt):Res:=.cells 48 ((pltF p).map .d)
def twP (p o:Plt):Bool:=decide (o.frm=p.frm)&&(o.veh==p.veh||o.plt==p.plt)
theorem ix_any {α:Type}(l:List α)(d:α)(q:α→Bool):decide (0≤ixF (fun i=>q (l.getD i d)) l.length)=l.any q:=by
 rw[Bool.eq_iff_iff,decide_eq_true_eq,List.any_eq_true];constructor
 · intro h;have:=ixF_bd (p:=fun i=>q (l.getD i d)) (n:=l.length);exact⟨_,getD_mem (by omega),this.2.2 h⟩
 · rintro⟨x,hx,hq⟩;obtain⟨j,hj,rfl⟩:=mem_getD (d:=d) hx;exact ixF_pos hj hq
def oKCoWm48_8:OL:= [(0,[]),(1,[]),(2,[]),(3,[]),(4,[]),(5,[3,4]),(6,[3,4,5]),(7,[3,4,5]),(8,[3,4]),(9,[3,4]),(10,[3,4]),(11,[]),(12,[]),(13,[])]
def oKCoWm90_1:OL:= [(0,[]),(1,[]),(2,[0,1]),(3,[0,1]),(5,rg 4),(6,rg 4),(7,[0,1,2,3,5,6]),(8,[0,1,2,3,5,6]),(10,[0,1,2,3,5,6,7,8]),(11,[0,1,2,3,5,6,7,8]),(12,[0,1,2,3,5,6,7,8,10,11]),(13,[0,1,2,3,5,6,7,8,10,11]),(4,[5,6,7,8,10,11,12,13]),(9,[10,11,12,13]),(14,[]),(15,[]),(16,[]),(17,[])]
theorem s66 (a b c:Int):FSpec Tryz.prog 37 [.agg [.d (.int .i64 a),.d (.int .i64 b),.d (.int .i64 c)]] [] (fun x r=>x= .d (.int .i64 (tollE a b c))∧r= []):=by
 refine spec_of hT (C:= []) Tryz.func37 rfl Tryz.call37 rfl rfl rfl ?_;conv=>whnf
 repeat' (first|(refine CallX.exact (s119 _ _ _) rfl rfl ?_;rotate_right;conv=>whnf)|(refine CallX.exact (s107 _ _) rfl rfl ?_;rotate_right;conv=>whnf)|((first|(refine br_intro ?_ ?_<;>intro hb<;>try simp only[brs]at hb)|omega|refine sAx ?_|decide|assumption)<;>conv=>whnf))
 all_goals
  refine .ret _ ?_;conv=>whnf
  refine⟨[],⟨?_,rfl⟩,trivial⟩;conv=>lhs;whnf
  congr 2;simp only[tollE];grind
theorem s88 (l:List Gate)(hk:gOk l):FSpec Tryz.prog 48 [.d (gates l)] [] (fun x r=>x= .d (.int .i64 (gatesE l))∧r= []):=by
 refine spec_of hT (C:= []) Tryz.func48 rfl Tryz.call48 rfl rfl rfl ?_;conv=>whnf
 refine br_intro (fun h0=> ?_) (fun h0=> ?_)
 · simp at h0;conv=>whnf
   refine .ret _ ?_;conv=>whnf
   refine⟨[],⟨?_,rfl⟩,trivial⟩;conv=>lhs;whnf
   unfold gatesE;rw[if_pos (by omega)]
 simp at h0;conv=>whnf
 refine LoopX.rule hT (C:= []) (ι:=Nat) (fun i=>i≤l.length∧∀j,j<i→gateE l j=0) (fun i=>mkSt [(0,.d (gates l)),(8,.d (gates l)),(9,.d (.int .i64 l.length)),(10,.d (.int .i64 i))] []) (fun i=>l.length - i) 0 ⟨by omega,by omega⟩ (by exact eAx []) ?_;rintro i ⟨p1,p2⟩;have hx:(i:Int)<l.length→(l.getD (i:Int).toNat g0).key.length≤2^40∧(l.getD (i:Int).toNat g0).area.length≤2^40:=fun hi=>hk.2 _ (getD_mem (by omega))
 have e1:(i:Int).toNat=i:=Int.toNat_natCast i
 have hbad:∀e:Int,i<l.length→e≠0→gateE l i=e→gatesE l=e:=fun e h h1 h2=>by
  unfold gatesE;rw[if_neg (by omega)];exact firstAt_eq h p2 h1 h2
 conv=>whnf
 repeat' (first|(refine CallX.exact (s108 _ (hx (by omega)).1) rfl rfl ?_;rotate_right;conv=>whnf)|(refine CallX.exact (s108 _ (hx (by omega)).2) rfl rfl ?_;rotate_right;conv=>whnf)|(refine CallX.exact (s119 _ _ _) rfl rfl ?_;rotate_right;conv=>whnf)|((first|(refine br_intro ?_ ?_<;>intro hb<;>try simp only[brs]at hb)|refine rAx hT 8 oKCoWm48_8 ?_|omega|refine sAx ?_|decide|assumption)<;>conv=>whnf))
 all_goals first
  |(refine⟨i+1,⟨by omega,first_step p2 (by clear p2 hbad hk hx;simp only[e1,toNat_pred]at*;unfold gateE strLe;grind)⟩,by omega,(by exact eAx [])⟩)
  | (refine .ret _ ?_
     conv=>whnf
     refine⟨[],⟨?_,rfl⟩,trivial⟩;conv=>lhs;whnf
     congr 2
     first
      |exact(hbad _ (by omega) (by decide) (by clear p2 hbad hk hx;simp only[e1,toNat_pred]at*;unfold gateE strLe;grind)).symm
      | (have:i=l.length:=by omega
         subst this
         unfold gatesE;rw[if_neg (by omega),firstAt_zero p2]))
theorem s150 (a b:Pas):FSpec Tryz.prog 90 [.agg ((paF a).map .d),.agg ((paF b).map .d)] [] (fun x r=>x= .d (.int .i64 (pasCmp a b))∧r= []):=by
 refine spec_of hT (C:= []) Tryz.func90 rfl Tryz.call90 rfl rfl rfl ?_;conv=>whnf
 repeat' (first|(refine CallX.exact (s183 _ _) rfl rfl ?_;rotate_right;conv=>whnf)|(refine CallX.exact (s184 _ _) rfl rfl ?_;rotate_right;conv=>whnf)|((first|refine CallX.pure (s182 [_,_,_] (by simp)) ⟨SV.le_lit rfl rfl,trivial⟩ rfl ?_|(refine br_intro ?_ ?_<;>intro hb<;>try simp only[brs]at hb)|refine rAx hT 1 oKCoWm90_1 ?_|omega|refine sAx ?_|decide|assumption)<;>conv=>whnf))
 all_goals
  refine .ret _ ?_;conv=>whnf
  refine⟨[],⟨?_,rfl⟩,trivial⟩;conv=>lhs;whnf
  rfl
def oKCoXm41_1:OL:= [(0,[]),(1,[]),(2,[0,1]),(3,[0,1,2]),(4,rg 4),(5,rg 4),(6,[0,1,2]),(7,[0,1]),(8,[0,1]),(9,[0,1]),(10,[]),(11,[])]
def oKCoXm49_14:OL:= [(0,[]),(1,[]),(2,[]),(3,[]),(4,[3]),(5,[3]),(6,[]),(7,[]),(8,[3,4,5,6,7]),(9,[]),(10,[]),(11,[]),(12,[])]
theorem s187 (g:Gate)(key:List UInt8):FSpec Tryz.prog 89 [.agg ((gF g).map .d),.ptr 1000001 0] [(1000001,kcell key)] (fun x r=>x= .d (.bool (g.key==key))∧r= [(1000001,kcell key)]):=by
 refine spec_of hT (C:= []) Tryz.func89 rfl Tryz.call89 rfl rfl rfl ?_;conv=>whnf
 refine .ret _ ?_;conv=>whnf
 exact⟨[(1000001,kcell key)],⟨rfl,rfl⟩,rr,trivial⟩
theorem s186 (l:List Gate)(hl:l.length≤2^40)(key:List UInt8):FSpec Tryz.prog 88 [.d (gates l),.fn 89 [.ptr 1000001 0]] [(1000001,kcell key)] (fun x r=>x= .d (.int .i64 (gateIx l key))∧r= [(1000001,kcell key)]):=by
 refine spec_of hT (C:= []) Tryz.func88 rfl Tryz.call88 rfl rfl rfl ?_;conv=>whnf
 refine LoopX.rule hT (C:= []) (ι:=Nat) (fun i=>i≤l.length∧∀j,j<i→((l.getD j g0).key==key)=false) (fun i=>mkSt [(0,.d (gates l)),(1,.fn 89 [.ptr 1000001 0]),(7,.d (.int .i64 l.length)),(8,.d (.int .i64 i))] [(1000001,kcell key)]) (fun i=>l.length - i) 0 ⟨by omega,by omega⟩ (by exact eAx [(1000001,1000001)]) ?_;rintro i ⟨p1,p2⟩;have e1:(i:Int).toNat=i:=Int.toNat_natCast i;conv=>whnf
 repeat' (first|((first|(refine oAx (s187 (l.getD (i:Int).toNat g0) key) [(1000001,1000001)] ?_;rintro x rout ⟨rfl,rfl⟩;refine⟨rfl,?_⟩)|(refine br_intro ?_ ?_<;>intro hb<;>try simp only[brs]at hb)|omega|refine sAx ?_|decide|assumption)<;>conv=>whnf))
 · refine .ret _ ?_;conv=>whnf
   refine⟨[(1000001,kcell key)],⟨?_,rfl⟩,rr,trivial⟩;conv=>lhs;whnf
   congr 2
   exact(ixF_hit (by omega) p2 (by simpa using hb)).symm
 · exact⟨i+1,⟨by omega,all_step p2 (by simpa using hb)⟩,by omega,(by exact eAx [(1000001,1000001)])⟩
 · refine .ret _ ?_;conv=>whnf
   refine⟨[(1000001,kcell key)],⟨?_,rfl⟩,rr,trivial⟩;conv=>lhs;whnf
   congr 2
   have:i=l.length:=by omega
   subst this;exact(ixF_none p2).symm
theorem s153 (l:List Gate)(hl:l.length≤2^40)(key:List UInt8):FSpec Tryz.prog 47 [.d (gates l),.d (.str key)] [] (fun x r=>x= .d (.int .i64 (gateIx l key))∧r= []):=by
 refine spec_of hT (C:= []) Tryz.func47 rfl Tryz.call47 rfl rfl rfl ?_;conv=>whnf
 refine oAx (s186 l hl key) [(1000001,3)] ?_;rintro x rout ⟨rfl,rfl⟩;refine⟨rfl,?_⟩;conv=>whnf
 refine .ret _ ?_;conv=>whnf
 refine⟨[],⟨?_,rfl⟩,trivial⟩;conv=>lhs;whnf
theorem s155 (l:List Gate)(hl:l.length≤2^40)(p:Pas)(hp: -2^40≤p.tm∧p.tm≤2^40)(hg:∀g ∈ l,-2^40≤g.clock∧g.clock≤2^40)(h0:0≤gateIx l p.gate):
 FSpec Tryz.prog 41 [.d (gates l),.agg ((paF p).map .d)] [] (fun x r=>x= .d (.int .i64 (trueT l p))∧r= []):=by
 have hb:=(ixF_bd (p:=fun i=>(l.getD i g0).key==p.gate) (n:=l.length));have hb1:gateIx l p.gate<l.length:=hb.2.1;have hc:=hg (l.getD (gateIx l p.gate).toNat g0) (getD_mem (by omega));refine spec_of hT (C:= []) Tryz.func41 rfl Tryz.call41 rfl rfl rfl ?_;conv=>whnf
 repeat' (first|(refine CallX.exact (s153 l hl _) rfl rfl ?_;rotate_right;conv=>whnf)|((first|(refine br_intro ?_ ?_<;>intro hb<;>try simp only[brs]at hb)|refine rAx hT 1 oKCoXm41_1 ?_|omega|refine sAx ?_|decide|assumption)<;>conv=>whnf))
 refine .ret _ ?_;conv=>whnf
 refine⟨[],⟨?_,rfl⟩,trivial⟩;conv=>lhs;whnf
 rfl
theorem s152 (l:List Pas)(hk:pOk l):FSpec Tryz.prog 49 [.d (pass l)] [] (fun x r=>x= .d (.int .i64 (formE l))∧r= []):=by
 refine spec_of hT (C:= []) Tryz.func49 rfl Tryz.call49 rfl rfl rfl ?_;conv=>whnf
 refine br_intro (fun h0=> ?_) (fun h0=> ?_)
 · simp at h0;conv=>whnf
   refine .ret _ ?_;conv=>whnf
   refine⟨[],⟨?_,rfl⟩,trivial⟩;conv=>lhs;whnf
   unfold formE;rw[if_pos (by omega)]
 simp at h0;conv=>whnf
 refine LoopX.rule hT (C:= []) (ι:=Nat) (fun i=>i≤l.length∧∀j,j<i→pasE l j=0) (fun i=>mkSt [(0,.d (pass l)),(8,.d (pass l)),(9,.d (.int .i64 l.length)),(10,.d (.int .i64 i))] []) (fun i=>l.length - i) 0 ⟨by omega,by omega⟩ (by exact eAx []) ?_;rintro i ⟨p1,p2⟩;have hx:(i:Int)<l.length→(l.getD (i:Int).toNat pa0).gate.length≤2^40∧(l.getD (i:Int).toNat pa0).plate.length≤2^40:=fun hi=>hk.2 _ (getD_mem (by omega))
 have e1:(i:Int).toNat=i:=Int.toNat_natCast i
 have hbad:∀e:Int,i<l.length→e≠0→pasE l i=e→formE l=e:=fun e h h1 h2=>by
  unfold formE;rw[if_neg (by omega)];exact firstAt_eq h p2 h1 h2
 conv=>whnf
 repeat' (first|(refine CallX.exact (s154 _) rfl rfl ?_;rotate_right;conv=>whnf)|(refine CallX.exact (s108 _ (hx (by omega)).1) rfl rfl ?_;rotate_right;conv=>whnf)|(refine CallX.exact (s185 _ (hx (by omega)).2) rfl rfl ?_;rotate_right;conv=>whnf)|(refine CallX.exact (s119 _ _ _) rfl rfl ?_;rotate_right;conv=>whnf)|(refine CallX.exact (s150 (l.getD ((i:Int) - 1).toNat pa0) (l.getD (i:Int).toNat pa0)) rfl rfl ?_;rotate_right;conv=>whnf)|((first|(refine br_intro ?_ ?_<;>intro hb<;>try simp only[brs]at hb)|refine rAx hT 14 oKCoXm49_14 ?_|omega|refine sAx ?_|decide|assumption)<;>conv=>whnf))
 all_goals first
  |(refine⟨i+1,⟨by omega,first_step p2 (by clear p2 hbad hk hx;simp only[e1,toNat_pred]at*;unfold pasE;grind)⟩,by omega,(by exact eAx [])⟩)
  | (refine .ret _ ?_
     conv=>whnf
     refine⟨[],⟨?_,rfl⟩,trivial⟩;conv=>lhs;whnf
     congr 2
     first
      |exact(hbad _ (by omega) (by decide) (by clear p2 hbad hk hx;simp only[e1,toNat_pred]at*;unfold pasE;grind)).symm
      | (have:i=l.length:=by omega
         subst this
         unfold formE;rw[if_neg (by omega),firstAt_zero p2]))
def vehS (l:List Veh):Prop:=∀i j,i<j→j<l.length→Op.bytesLess (l.getD i veh0).key (l.getD j veh0).key=true
theorem z287 (v:Veh)(key:List UInt8):FSpec Tryz.prog 206 [.agg ((vehF v).map .d),.d (.str key)] [] (fun y r=>y= .d (.int .i64 (cmpS v.key key))∧r= []):=by
 refine spec_of hT (C:= []) Tryz.func206 rfl Tryz.call206 rfl rfl rfl ?_;conv=>whnf
 repeat' (first|(refine CallX.exact (s184 _ _) rfl rfl ?_;rotate_right;conv=>whnf)|((first|(refine br_intro ?_ ?_<;>intro hb<;>try simp only[brs]at hb)|omega|refine sAx ?_|decide|assumption)<;>conv=>whnf))
 refine .ret _ ?_;conv=>whnf
 refine⟨[],⟨?_,rfl⟩,trivial⟩;conv=>lhs;whnf
theorem cmpS_neg (a b:List UInt8):cmpS a b<0↔Op.bytesLess a b=true:=by unfold cmpS;grind
theorem cmpS_zeroF (a b:List UInt8):cmpS a b=0↔a=b:=by
 unfold cmpS;grind [less_tri,less_irr]
theorem half2 (lo hi:Nat)(h:hi≤2^20)(hl:lo≤hi):IntKind.wrap .u64 ((lo:Int)+hi)/2=(((lo+hi)/2:Nat):Int):=by
 unfold IntKind.wrap;simp[IntKind.signed,IntKind.bits];omega
theorem vehS_lt {l:List Veh}(hs:vehS l){key:List UInt8}{i j:Nat}(hij:i≤j)(hj:j<l.length)(h:Op.bytesLess (l.getD j veh0).key key=true):Op.bytesLess (l.getD i veh0).key key=true:=by
 rcases Nat.lt_or_ge i j with q|q
 · exact less_trans (hs i j q hj) h
 · obtain rfl:i=j:=by omega
   exact h
theorem veIx_hit {l:List Veh}(hs:vehS l){i:Nat}(hi:i<l.length):veIx l (l.getD i veh0).key=i:=by
 refine ixF_hit hi (fun j hj=> ?_) (by simp);rw[beq_eq_false_iff_ne];intro e;have:=hs j i hj hi;rw[e,less_irr]at this;cases this
theorem veIx_no {l:List Veh}{key:List UInt8}(h:∀i,i<l.length→(l.getD i veh0).key≠key):veIx l key= -1:=
 ixF_none fun j hj=>beq_eq_false_iff_ne.2 (h j hj)
theorem z286 (l:List Veh)(hl:l.length≤2^20)(hs:vehS l)(key:List UInt8):FSpec Tryz.prog 205 [.d (vehs l),.d (.str key),.fn 206 []] []
 (fun y r=>(∃j:Nat,∃b:Bool,y= .tup [.d (.int .i64 j),.d (.bool b)]∧veIx l key=if b=true then(j:Int)else -1)∧r= []):=by
 refine spec_of hT (C:= []) Tryz.func205 rfl Tryz.call205 rfl rfl rfl ?_;conv=>whnf
 refine LoopX.rule hT (C:= []) (ι:=Nat×Nat) (fun(lo,hi)=>(lo≤hi∧hi≤l.length)∧(∀j,j<lo→Op.bytesLess (l.getD j veh0).key key=true)∧∀j,hi≤j→j<l.length→Op.bytesLess (l.getD j veh0).key key=false)
  (fun(lo,hi)=>mkSt [(0,.d (vehs l)),(1,.d (.str key)),(2,.fn 206 []),(8,.d (.int .i64 l.length)),(9,.d (.int .i64 lo)),(10,.d (.int .i64 hi))] []) (fun(lo,hi)=>hi - lo) (0,l.length)
  ⟨⟨by simp,by simp⟩,fun j hj=>by omega,fun j h1 h2=>by omega⟩ (by exact eAx []) ?_
 rintro⟨lo,hi⟩ ⟨⟨p1,p2⟩,p3,p4⟩;have p1:lo≤hi:=p1;have p2:hi≤l.length:=p2;have p3:∀j,j<lo→Op.bytesLess (l.getD j veh0).key key=true:=p3;have p4:∀j,hi≤j→j<l.length→Op.bytesLess (l.getD j veh0).key key=false:=p4;have hh:=half2 lo hi (by omega) p1;obtain⟨M,hM⟩:∃M,M=(lo+hi)/2:=⟨_,rfl⟩;rw[←hM]at hh;have e1:((M:Nat):Int).toNat=M:=Int.toNat_natCast M;have e2:((lo:Nat):Int).toNat=lo:=Int.toNat_natCast lo;conv=>whnf
 repeat' (first|(refine⟨rfl,?_⟩;conv=>whnf)|(rw[hh];conv=>whnf)|(refine CallX.exact (z287 (l.getD (M:Int).toNat veh0) key) rfl rfl ?_;rotate_right;conv=>whnf)|(refine CallX.exact (z287 (l.getD (lo:Int).toNat veh0) key) rfl rfl ?_;rotate_right;conv=>whnf)|((first|(refine br_intro ?_ ?_<;>intro hb<;>try simp only[brs]at hb)|omega|refine sAx ?_|decide|assumption)<;>conv=>whnf))
 · have hb1:=(cmpS_neg _ _).1 hb;exact⟨(M+1,hi),⟨⟨by omega,p2⟩,fun j hj=>vehS_lt hs (show j≤M by omega) (by omega) hb1,p4⟩,by show hi - (M+1)<hi - lo;omega,(by exact eAx [])⟩
 · have hb1:Op.bytesLess (l.getD M veh0).key key=false:=by
    rw[←Bool.not_eq_true,←cmpS_neg];omega
   refine⟨(lo,M),⟨⟨by omega,by omega⟩,p3,fun j h1 h2=> ?_⟩,by show M - lo<hi - lo;omega,(by exact eAx [])⟩;rw[←Bool.not_eq_true];intro q;rw[vehS_lt hs h1 h2 q]at hb1;cases hb1
 · refine .ret _ ?_;conv=>whnf
   refine⟨[],⟨⟨lo,decide (cmpS (l.getD lo veh0).key key=0),rfl,?_⟩,rfl⟩,trivial⟩
   by_cases q:(l.getD lo veh0).key=key
   · rw[if_pos (by rw[decide_eq_true_eq,cmpS_zeroF];exact q),←q];exact veIx_hit hs (by omega)
   · rw[if_neg (by rw[decide_eq_true_eq,cmpS_zeroF];exact q)];have h0:=p4 lo (by omega) (by omega);have h1:=less_tri _ _ h0 q;refine veIx_no fun i hi2 e=> ?_
     rcases Nat.lt_trichotomy i lo with r|r|r
     · have:=p3 i r;rw[e,less_irr]at this;cases this
     · subst r;exact q e
     · have:=less_trans h1 (hs lo i r hi2);rw[e,less_irr]at this;cases this
 · refine .ret _ ?_;conv=>whnf
   refine⟨[],⟨⟨lo,false,rfl,?_⟩,rfl⟩,trivial⟩;rw[if_neg (by simp)];refine veIx_no fun i hi2 e=> ?_
   have:=p3 i (by omega);rw[e,less_irr]at this;cases this
def oKFlE126_8:OL:= [(0,[]),(1,[]),(2,[]),(3,[]),(4,[]),(5,[3,4]),(6,[3,4,5]),(7,[3,4,5]),(8,[3,4]),(9,[3,4]),(10,[3,4]),(11,[]),(12,[]),(13,[])]
def oKFlE126_22:OL:= [(0,[]),(1,[0]),(2,[0]),(4,[0,1,2]),(5,[0,1,2]),(3,[4,5]),(6,[])]
set_option maxHeartbeats 2000000 in
theorem z175 (l:List Cls)(hk:clsOk l):FSpec Tryz.prog 126 [.d (clss l)] [] (fun x r=>x= .d (.int .i64 (clssE l))∧r= []):=by
 have hlen:=hk.1;refine spec_of hT (C:= []) Tryz.func126 rfl Tryz.call126 rfl rfl rfl ?_;conv=>whnf
 refine br_intro (fun h0=> ?_) (fun h0=> ?_)
 · simp at h0;conv=>whnf
   refine .ret _ ?_;conv=>whnf
   refine⟨[],⟨?_,rfl⟩,trivial⟩;conv=>lhs;whnf
   unfold clssE;rw[if_pos (by omega)]
 simp at h0;conv=>whnf
 refine LoopX.rule hT (C:= []) (ι:=Nat) (fun i=>i≤l.length∧∀j,j<i→clsE1 l j=0) (fun i=>mkSt [(0,.d (clss l)),(12,.d (clss l)),(13,.d (.int .i64 l.length)),(14,.d (.int .i64 i))] []) (fun i=>l.length - i) 0 ⟨by omega,by omega⟩ (by exact eAx []) ?_;rintro i ⟨p1,p2⟩;have hx:(i:Int)<l.length→(l.getD (i:Int).toNat cls0).key.length≤2^40∧(l.getD (i:Int).toNat cls0).up.length≤2^40:=fun hi=>hk.2 _ (getD_mem (by omega))
 have e1:(i:Int).toNat=i:=Int.toNat_natCast i
 have hbad:∀e:Int,i<l.length→e≠0→clsE1 l i=e→clssE l=e:=fun e h h1 h2=>by
  unfold clssE;rw[if_neg (by omega),firstAt_eq h p2 h1 h2,firstE,if_neg h1]
 rcases Nat.lt_or_ge i l.length with hi|hi
 · conv =>whnf
   repeat' (first|(refine CallX.exact (s108 _ (hx (by omega)).1) rfl rfl ?_;rotate_right;conv=>whnf)|(refine CallX.exact (s108 _ (hx (by omega)).2) rfl rfl ?_;rotate_right;conv=>whnf)|((first|(refine br_intro ?_ ?_<;>intro hb<;>try simp only[brs]at hb)|refine rAx hT 8 oKFlE126_8 ?_|refine rAx hT 22 oKFlE126_22 ?_|omega|refine sAx ?_|decide|assumption)<;>conv=>whnf))
   all_goals try(exfalso;omega)
   all_goals first
    |(refine⟨i+1,⟨by omega,first_step p2 (by clear p2 hbad hk hx;simp only[e1,toNat_pred]at*;unfold clsE1 strLe;grind)⟩,by omega,(by exact eAx [])⟩)
    | (refine .ret _ ?_
       conv=>whnf
       refine⟨[],⟨?_,rfl⟩,trivial⟩;conv=>lhs;whnf
       congr 2
       exact(hbad _ (by omega) (by decide) (by clear p2 hbad hk hx;simp only[e1,toNat_pred]at*;unfold clsE1 strLe;grind)).symm)
 have hil:i=l.length:=by omega
 subst hil;have P1:=firstAt_zero p2;clear hbad hx p2;conv=>whnf
 repeat' (first|((first|(refine br_intro ?_ ?_<;>intro hb<;>try simp only[brs]at hb)|refine rAx hT 8 oKFlE126_8 ?_|refine rAx hT 22 oKFlE126_22 ?_|omega|refine sAx ?_|decide|assumption)<;>conv=>whnf))
 all_goals try(exfalso;omega)
 refine LoopX.rule hT (C:= []) (ι:=Nat) (fun i=>i≤l.length∧∀j,j<i→clsE2 l j=0) (fun i=>mkSt [(0,.d (clss l)),(49,.d (clss l)),(50,.d (.int .i64 l.length)),(51,.d (.int .i64 i))] []) (fun i=>l.length - i) 0 ⟨by omega,by omega⟩ (by exact eAx []) ?_;rintro i ⟨p1,p2⟩;have e1:(i:Int).toNat=i:=Int.toNat_natCast i
 have hbad:∀e:Int,i<l.length→e≠0→clsE2 l i=e→clssE l=e:=fun e h h1 h2=>by
  unfold clssE;rw[if_neg (by omega),firstE,if_pos P1,firstE,firstAt_eq h p2 h1 h2,if_neg h1]
 rcases Nat.lt_or_ge i l.length with hi|hi
 · conv =>whnf
   repeat' (first|(refine CallX.exact (z176 l (by omega) _) rfl rfl ?_;rotate_right;conv=>whnf)|((first|(refine br_intro ?_ ?_<;>intro hb<;>try simp only[brs]at hb)|refine rAx hT 8 oKFlE126_8 ?_|refine rAx hT 22 oKFlE126_22 ?_|omega|refine sAx ?_|decide|assumption)<;>conv=>whnf))
   all_goals try(exfalso;omega)
   all_goals first
    |(refine⟨i+1,⟨by omega,first_step p2 (by clear p2 hbad hk;simp only[e1]at*;unfold clsE2;grind)⟩,by omega,(by exact eAx [])⟩)
    | (refine .ret _ ?_
       conv=>whnf
       refine⟨[],⟨?_,rfl⟩,trivial⟩;conv=>lhs;whnf
       congr 2
       exact(hbad _ (by omega) (by decide) (by clear p2 hbad hk;simp only[e1]at*;unfold clsE2;grind)).symm)
 have hil:i=l.length:=by omega
 subst hil;have P2:=firstAt_zero p2
 have hu:upsOk l:=fun c hc hn=>by
  obtain⟨j,hj,rfl⟩:=mem_getD (d:=cls0) hc;have:=p2 j hj;unfold clsE2 at this;rcases Int.lt_or_le (clIx l (l.getD j cls0).up) 0 with q|q
  · rw[if_pos ⟨hn,q⟩]at this;cases this
  · exact q
 clear hbad p2;conv=>whnf
 repeat' (first|((first|(refine br_intro ?_ ?_<;>intro hb<;>try simp only[brs]at hb)|refine rAx hT 8 oKFlE126_8 ?_|refine rAx hT 22 oKFlE126_22 ?_|omega|refine sAx ?_|decide|assumption)<;>conv=>whnf))
 all_goals try(exfalso;omega)
 refine LoopX.rule hT (C:= []) (ι:=Nat) (fun i=>i≤l.length∧∀j,j<i→clsE3 l j=0) (fun i=>mkSt [(0,.d (clss l)),(66,.d (clss l)),(67,.d (.int .i64 l.length)),(68,.d (.int .i64 i))] []) (fun i=>l.length - i) 0 ⟨by omega,by omega⟩ (by exact eAx []) ?_;rintro i ⟨p1,p2⟩;have e1:(i:Int).toNat=i:=Int.toNat_natCast i
 have hbad:∀e:Int,i<l.length→e≠0→clsE3 l i=e→clssE l=e:=fun e h h1 h2=>by
  unfold clssE;rw[if_neg (by omega),firstE,if_pos P1,firstE,if_pos P2,firstE,firstAt_eq h p2 h1 h2,if_neg h1]
 rcases Nat.lt_or_ge i l.length with hi|hi
 · have hin:=clIx_pos (l:=l) (c:=l.getD (i:Int).toNat cls0) (getD_mem (by omega));have hal:=abv_len l l.length (l.getD (i:Int).toNat cls0).key;have hlo:=loop_eq hu hin;conv=>whnf
   repeat' (first|(refine CallX.exact (z241 l hlen hu _ hin) rfl rfl ?_;rotate_right;conv=>whnf)|(refine CallX.exact (z153 _ (by omega) _) rfl rfl ?_;rotate_right;conv=>whnf)|((first|(refine br_intro ?_ ?_<;>intro hb<;>try simp only[brs]at hb)|refine rAx hT 8 oKFlE126_8 ?_|refine rAx hT 22 oKFlE126_22 ?_|omega|refine sAx ?_|decide|assumption)<;>conv=>whnf))
   all_goals try(exfalso;omega)
   all_goals first
    |(refine⟨i+1,⟨by omega,first_step p2 (by clear p2 hbad hk;simp only[e1]at*;unfold clsE3;grind)⟩,by omega,(by exact eAx [])⟩)
    | (refine .ret _ ?_
       conv=>whnf
       refine⟨[],⟨?_,rfl⟩,trivial⟩;conv=>lhs;whnf
       congr 2
       exact(hbad _ (by omega) (by decide) (by clear p2 hbad hk;simp only[e1]at*;unfold clsE3;grind)).symm)
 have hil:i=l.length:=by omega
 subst hil;have P3:=firstAt_zero p2;conv=>whnf
 repeat' (first|((first|(refine br_intro ?_ ?_<;>intro hb<;>try simp only[brs]at hb)|refine rAx hT 8 oKFlE126_8 ?_|refine rAx hT 22 oKFlE126_22 ?_|omega|refine sAx ?_|decide|assumption)<;>conv=>whnf))
 all_goals try(exfalso;omega)
 refine .ret _ ?_;conv=>whnf
 refine⟨[],⟨?_,rfl⟩,trivial⟩;conv=>lhs;whnf
 unfold clssE;rw[if_neg (by omega),firstE,if_pos P1,firstE,if_pos P2,firstE,if_pos P3];rfl
end Go.Proofs.YtjibpcoeghlnoaaGreatDoor
