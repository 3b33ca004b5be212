/- TopQuoteAgain is proved: for every input the law returns true, and its argument reads afterwards as it read before. Conditions: those of the given row alone. -/
import Derived.Test.YtkokpbpililcdaaGreatDoorTqConOne
import Derived.Test.YtkokpbpililcdaaGreatDoorTqEngTwo
set_option linter.unusedVariables false
set_option linter.unusedSimpArgs false
set_option maxRecDepth 20000
namespace Go.Proofs.YtkokpbpililcdaaGreatDoor
open Go Go.Eng
def oJHiA168_1:OL:= [(0,[]),(1,[]),(3,[0,1]),(4,[0,1]),(8,[0,1,3,4]),(9,[0,1,3,4]),(2,[3,4,8,9]),(5,[8,9]),(6,[8,9]),(7,[8,9]),(10,[]),(11,[]),(12,[]),(13,[]),(14,[]),(15,[]),(16,[]),(17,[]),(18,[]),(19,[]),(20,[]),(21,[])]
def oJHiA108_2:OL:= [(0,[]),(1,[]),(5,[0,1]),(6,[0,1]),(2,[5,6]),(3,[5,6]),(4,[5,6]),(7,[]),(8,[]),(9,[]),(10,[])]
def oJHiA108_16:OL:= [(0,[]),(1,[]),(2,[0,1]),(3,[]),(5,rg 4),(6,[0,1,2,3,5]),(7,[0,1,2,3,5]),(8,[0,1,2,3,5]),(9,[0,1,2,3,5]),(10,rg 4),(4,[5,6,7,8,9,10]),(11,[]),(12,[]),(13,[]),(14,[])]
def oJHiA108_17:OL:= [(0,[]),(1,[]),(3,[0,1]),(4,[0,1]),(5,[0,1]),(6,[0,1,3,4,5]),(7,[0,1,3,4,5]),(8,[0,1,3,4,5]),(9,[0,1]),(2,[3,4,5,6,7,8,9]),(10,[]),(11,[]),(12,[]),(13,[])]
def oJHiA46_1:OL:= [(0,[]),(1,[]),(11,[0,1]),(12,[0,1]),(2,[11,12]),(3,[11,12]),(4,[11,12]),(5,[11,12]),(6,[11,12]),(7,[11,12]),(8,[11,12]),(9,[11,12]),(10,[11,12]),(13,[]),(14,[]),(15,[]),(16,[])]
structure Rdg where
 tm:Int
 st:List UInt8
 meter:Int
 fuel:Int
def rgF:Rdg→List DV:=fun r=> [.int .i64 r.tm,.str r.st,.int .i64 r.meter,.int .i64 r.fuel]
structure Leg where
 veh:List UInt8
 out:Rdg
 inn:Rdg
def lgF:Leg→List DV:=fun x=> [.str x.veh,.int .i64 x.out.tm,.str x.out.st,.int .i64 x.out.meter,.int .i64 x.out.fuel,.int .i64 x.inn.tm,.str x.inn.st,.int .i64 x.inn.meter,.int .i64 x.inn.fuel]
def rg0:Rdg:=⟨0,[],0,0⟩
def lg0:Leg:=⟨[],rg0,rg0⟩
abbrev legs (l:List Leg):DV:=seqD 9 lgF lg0 l
structure Hir where
 key:List UInt8
 drv:List UInt8
 frm:Int
 to:Int
 legs:List Leg
def hiF:Hir→List DV:=fun h=> [.str h.key,.str h.drv,.int .i64 h.frm,.int .i64 h.to,Go.Proofs.YtkokpbpililcdaaGreatDoor.legs h.legs]
def hi0:Hir:=⟨[],[],0,0,[]⟩
abbrev hirs (l:List Hir):DV:=seqD 5 hiF hi0 l
abbrev hcell (h:Hir):Res:=.cells 55 [.d (.str h.key),.d (.str h.drv),.d (.int .i64 h.frm),.d (.int .i64 h.to),.d (Go.Proofs.YtkokpbpililcdaaGreatDoor.legs h.legs)]
def lgK (x:Leg):Prop:=x.veh.length≤2^40∧x.out.st.length≤2^40∧x.inn.st.length≤2^40
def hiK (h:Hir):Prop:=h.key.length≤2^40∧h.drv.length≤2^40∧h.legs.length≤2^40∧∀x ∈ h.legs,lgK x
def hiOk (l:List Hir):Prop:=l.length≤2^40∧∀h ∈ l,hiK h
def rdgE (r:Rdg):Int:=if ¬ (0≤r.tm∧r.tm≤5761439)then 1 else if isKeyB r.st=false then 5 else if ¬ ((0≤r.meter∧r.meter≤999999)∧(0≤r.fuel∧r.fuel≤8))then 1 else 0
def timE (a b:Int):Int:=if a<0∨b≤a∨5761439<b then 1 else if 172800<b - a then 2 else 0
def legE (h:Hir)(i:Nat):Int:=
 if isKeyB (h.legs.getD i lg0).veh=false then 5
 else if rdgE (h.legs.getD i lg0).out≠0 then rdgE (h.legs.getD i lg0).out
 else if i=0∧(h.legs.getD i lg0).out.tm≠h.frm then 7
 else if 0<i∧(h.legs.getD i lg0).out.tm≠(h.legs.getD (i - 1) lg0).inn.tm then 7
 else if 0<i∧(h.legs.getD i lg0).veh=(h.legs.getD (i - 1) lg0).veh then 16
 else if 0<i∧(h.legs.getD i lg0).out.st≠(h.legs.getD (i - 1) lg0).inn.st then 8
 else if(h.legs.getD i lg0).inn.tm= -1 then(if ¬ ((h.legs.getD i lg0).inn.st= []∧(h.legs.getD i lg0).inn.meter=0∧(h.legs.getD i lg0).inn.fuel=0)then 3 else if(i:Int)<(h.legs.length:Int) - 1 then 11 else 0)
 else if rdgE (h.legs.getD i lg0).inn≠0 then rdgE (h.legs.getD i lg0).inn
 else if(h.legs.getD i lg0).inn.tm≤(h.legs.getD i lg0).out.tm then 7 else 0
def hirE (h:Hir):Int:=
 if isKeyB h.key=false∨isKeyB h.drv=false then 5 else if timE h.frm h.to≠0 then timE h.frm h.to
 else if h.legs.length=0 then 3 else if 20<h.legs.length then 2 else firstAt (legE h) h.legs.length
def hirsE1 (l:List Hir)(i:Nat):Int:=if hirE (l.getD i hi0)≠0 then hirE (l.getD i hi0)else if 0<i∧strLe (l.getD i hi0).key (l.getD (i - 1) hi0).key=true then 7 else 0
def hirsE (l:List Hir):Int:=if 500<l.length then 2 else firstAt (hirsE1 l) l.length
theorem z220 (n:Int):FSpec Tryz.prog 111 [.d (.int .i64 n)] [] (fun x o=>x= .d (.int .i64 (if 0≤n∧n≤5761439 then 0 else 1))∧o= []):=by
 refine spec_of hT (C:= []) Tryz.func111 rfl Tryz.call111 rfl rfl rfl ?_;conv=>whnf
 repeat' (first|(refine CallX.exact (s154 _) rfl rfl ?_;rotate_right;conv=>whnf)|(refine CallX.exact (s107 _ _) rfl rfl ?_;rotate_right;conv=>whnf)|((first|(refine br_intro ?_ ?_<;>intro hb<;>try simp only[brs]at hb)|omega|refine sAx ?_|decide|assumption)<;>conv=>whnf))
 refine .ret _ ?_;conv=>whnf
 refine⟨[],⟨?_,rfl⟩,trivial⟩;conv=>lhs;whnf
 congr 2
 grind
theorem z312 (r:Rdg)(h:r.st.length≤2^40):FSpec Tryz.prog 168 [.agg ((rgF r).map .d)] [] (fun x o=>x= .d (.int .i64 (rdgE r))∧o= []):=by
 refine spec_of hT (C:= []) Tryz.func168 rfl Tryz.call168 rfl rfl rfl ?_;conv=>whnf
 repeat' (first|(refine CallX.exact (z220 _) rfl rfl ?_;rotate_right;conv=>whnf)|(refine CallX.exact (s108 _ h) rfl rfl ?_;rotate_right;conv=>whnf)|(refine CallX.exact (s119 _ _ _) rfl rfl ?_;rotate_right;conv=>whnf)|(refine CallX.exact (s107 _ _) rfl rfl ?_;rotate_right;conv=>whnf)|((first|refine CallX.pure (s105 [_,_,_] (by simp)) ⟨SV.le_lit (by rfl) (by rfl),trivial⟩ rfl ?_|(refine br_intro ?_ ?_<;>intro hb<;>try simp only[brs]at hb)|refine rAx hT 1 oJHiA168_1 ?_|omega|refine sAx ?_|decide|assumption)<;>conv=>whnf))
 all_goals
  refine .ret _ ?_;conv=>whnf
  refine⟨[],⟨?_,rfl⟩,trivial⟩;conv=>lhs;whnf
  congr 2
  unfold rdgE;simp only[firstE];grind
def daysW (a b:Int):Int:=(b - a+1440 - 1).tdiv 1440
theorem daysW_lt {a b:Int}(h:a<b):120<daysW a b↔172800<b - a:=by
 unfold daysW;rw[Int.tdiv_eq_ediv_of_nonneg (by omega)];omega
theorem z311 (a b:Int)(h:0≤a∧a<b∧b≤5761439):FSpec Tryz.prog 52 [.agg [.d (.int .i64 a),.d (.int .i64 b)]] [] (fun x o=>x= .d (.int .i64 (daysW a b))∧o= []):=by
 obtain⟨h1,h2,h3⟩:=h;have hd:inI64 ((b - a+1440 - 1).tdiv 1440):=by unfold inI64;rw[Int.tdiv_eq_ediv_of_nonneg (by omega)];omega
 refine spec_of hT (C:= []) Tryz.func52 rfl Tryz.call52 rfl rfl rfl ?_;conv=>whnf
 repeat' (first|((first|refine And.intro hd ?_|(refine br_intro ?_ ?_<;>intro hb<;>try simp only[brs]at hb)|omega|refine sAx ?_|decide|assumption)<;>conv=>whnf))
 refine .ret _ ?_;conv=>whnf
 refine⟨[],⟨?_,rfl⟩,trivial⟩;conv=>lhs;whnf
 rfl
theorem z263 (a b:Int):FSpec Tryz.prog 107 [.agg [.d (.int .i64 a),.d (.int .i64 b)]] [] (fun x o=>x= .d (.int .i64 (timE a b))∧o= []):=by
 have hd:=daysW_lt (a:=a) (b:=b);refine spec_of hT (C:= []) Tryz.func107 rfl Tryz.call107 rfl rfl rfl ?_;conv=>whnf
 repeat' (first|(refine CallX.exact (z311 a b ⟨by omega,by omega,by omega⟩) rfl rfl ?_;rotate_right;conv=>whnf)|(refine CallX.exact (s107 _ _) rfl rfl ?_;rotate_right;conv=>whnf)|((first|(refine br_intro ?_ ?_<;>intro hb<;>try simp only[brs]at hb)|omega|refine sAx ?_|decide|assumption)<;>conv=>whnf))
 all_goals
  refine .ret _ ?_;conv=>whnf
  refine⟨[],⟨?_,rfl⟩,trivial⟩;conv=>lhs;whnf
  congr 2
  unfold timE;grind
set_option maxHeartbeats 2000000 in
theorem z264 (h:Hir)(hk:hiK h)(i:Nat)(hi:i<h.legs.length):FSpec Tryz.prog 108 [.agg ((hiF h).map .d),.d (.int .i64 i)] [] (fun x o=>x= .d (.int .i64 (legE h i))∧o= []):=by
 have e1:(i:Int).toNat=i:=Int.toNat_natCast i;have hl:=hk.2.2.1;have hx:lgK (h.legs.getD (i:Int).toNat lg0):=hk.2.2.2 _ (getD_mem (by omega));refine spec_of hT (C:= []) Tryz.func108 rfl Tryz.call108 rfl rfl rfl ?_;conv=>whnf
 repeat' (first|(refine CallX.exact (s108 _ hx.1) rfl rfl ?_;rotate_right;conv=>whnf)|(refine CallX.exact (z312 (h.legs.getD (i:Int).toNat lg0).out hx.2.1) rfl rfl ?_;rotate_right;conv=>whnf)|(refine CallX.exact (z312 (h.legs.getD (i:Int).toNat lg0).inn hx.2.2) rfl rfl ?_;rotate_right;conv=>whnf)|(refine CallX.exact (s107 _ _) rfl rfl ?_;rotate_right;conv=>whnf)|((first|refine CallX.pure (s105 [_,_] (by simp)) ⟨SV.le_lit (by rfl) (by rfl),trivial⟩ rfl ?_|(refine br_intro ?_ ?_<;>intro hb<;>try simp only[brs]at hb)|refine rAx hT 2 oJHiA108_2 ?_|refine rAx hT 16 oJHiA108_16 ?_|refine rAx hT 17 oJHiA108_17 ?_|omega|refine sAx ?_|decide|assumption)<;>conv=>whnf))
 all_goals
  refine .ret _ ?_;conv=>whnf
  refine⟨[],⟨?_,rfl⟩,trivial⟩;conv=>lhs;whnf
  congr 2
  clear hx hk;simp only[e1,toNat_pred,firstE]at*;unfold legE;grind
theorem hirE_bad {h:Hir}(q:isKeyB h.key=false∨isKeyB h.drv=false):hirE h=5:=by unfold hirE;rw[if_pos q]
theorem hirE_time {h:Hir}(q1:isKeyB h.key=true)(q2:isKeyB h.drv=true)(q:timE h.frm h.to≠0):hirE h=timE h.frm h.to:=by
 unfold hirE;rw[if_neg (by rw[q1,q2];simp),if_pos q]
theorem hirE_legs {h:Hir}(q1:isKeyB h.key=true)(q2:isKeyB h.drv=true)(q:timE h.frm h.to=0):hirE h=if h.legs.length=0 then 3 else if 20<h.legs.length then 2 else firstAt (legE h) h.legs.length:=by
 unfold hirE;rw[if_neg (by rw[q1,q2];simp),if_neg (by omega)]
set_option maxHeartbeats 2000000 in
theorem z210 (h:Hir)(hk:hiK h):FSpec Tryz.prog 46 [.agg ((hiF h).map .d)] [] (fun x o=>x= .d (.int .i64 (hirE h))∧o= []):=by
 have c1:=s108 h.key hk.1;have c2:=s108 h.drv hk.2.1;have c3:=z263 h.frm h.to;have hl:=hk.2.2.1;have c5:=s105 [5,timE h.frm h.to] (by simp);rw[show firstE [5,timE h.frm h.to]=5 from rfl]at c5;have c6:=s105 [0,timE h.frm h.to] (by simp);rw[show firstE [0,timE h.frm h.to]=timE h.frm h.to from by simp only[firstE];grind]at c6
 cases q1:isKeyB h.key with
 | false=>
   rw[hirE_bad (.inl q1)];rw[q1]at c1;generalize timE h.frm h.to=E at c3 c5 c6;refine spec_of hT (C:= []) Tryz.func46 rfl Tryz.call46 rfl rfl rfl ?_;conv=>whnf
   repeat' (first|(refine CallX.exact (c1) rfl rfl ?_;rotate_right;conv=>whnf)|(refine CallX.exact (c3) rfl rfl ?_;rotate_right;conv=>whnf)|(refine CallX.exact (s107 _ _) rfl rfl ?_;rotate_right;conv=>whnf)|((first|refine CallX.pure c5 ⟨SV.le_lit (by rfl) (by rfl),trivial⟩ rfl ?_|(refine br_intro ?_ ?_<;>intro hb<;>try simp only[brs]at hb)|refine rAx hT 1 oJHiA46_1 ?_|omega|refine sAx ?_|decide|assumption)<;>conv=>whnf))
   refine .ret _ ?_;conv=>whnf
   refine⟨[],⟨?_,rfl⟩,trivial⟩
   conv=>lhs;whnf
 |true=>
 rw[q1]at c1
 cases q2:isKeyB h.drv with
 | false=>
   rw[hirE_bad (.inr q2)];rw[q2]at c2;generalize timE h.frm h.to=E at c3 c5 c6;refine spec_of hT (C:= []) Tryz.func46 rfl Tryz.call46 rfl rfl rfl ?_;conv=>whnf
   repeat' (first|(refine CallX.exact (c1) rfl rfl ?_;rotate_right;conv=>whnf)|(refine CallX.exact (c2) rfl rfl ?_;rotate_right;conv=>whnf)|(refine CallX.exact (c3) rfl rfl ?_;rotate_right;conv=>whnf)|(refine CallX.exact (s107 _ _) rfl rfl ?_;rotate_right;conv=>whnf)|((first|refine CallX.pure c5 ⟨SV.le_lit (by rfl) (by rfl),trivial⟩ rfl ?_|(refine br_intro ?_ ?_<;>intro hb<;>try simp only[brs]at hb)|refine rAx hT 1 oJHiA46_1 ?_|omega|refine sAx ?_|decide|assumption)<;>conv=>whnf))
   refine .ret _ ?_;conv=>whnf
   refine⟨[],⟨?_,rfl⟩,trivial⟩
   conv=>lhs;whnf
 |true=>
 rw[q2]at c2
 by_cases q3:timE h.frm h.to=0
 · have hE:=hirE_legs q1 q2 q3;rw[hE];clear hE;rw[q3]at c3 c6
   by_cases q4:h.legs.length=0
   · rw[if_pos q4];refine spec_of hT (C:= []) Tryz.func46 rfl Tryz.call46 rfl rfl rfl ?_;conv=>whnf
     repeat' (first|(refine CallX.exact (c1) rfl rfl ?_;rotate_right;conv=>whnf)|(refine CallX.exact (c2) rfl rfl ?_;rotate_right;conv=>whnf)|(refine CallX.exact (c3) rfl rfl ?_;rotate_right;conv=>whnf)|(refine CallX.exact (s107 _ _) rfl rfl ?_;rotate_right;conv=>whnf)|((first|refine CallX.pure c6 ⟨SV.le_lit (by rfl) (by rfl),trivial⟩ rfl ?_|(refine br_intro ?_ ?_<;>intro hb<;>try simp only[brs]at hb)|refine rAx hT 1 oJHiA46_1 ?_|omega|refine sAx ?_|decide|assumption)<;>conv=>whnf))
     all_goals first
      |(exfalso;omega)
      | (refine .ret _ ?_
         conv=>whnf
         refine⟨[],⟨?_,rfl⟩,trivial⟩;conv=>lhs;whnf
         all_goals rfl)
   by_cases q5:20<h.legs.length
   · rw[if_neg q4,if_pos q5];refine spec_of hT (C:= []) Tryz.func46 rfl Tryz.call46 rfl rfl rfl ?_;conv=>whnf
     repeat' (first|(refine CallX.exact (c1) rfl rfl ?_;rotate_right;conv=>whnf)|(refine CallX.exact (c2) rfl rfl ?_;rotate_right;conv=>whnf)|(refine CallX.exact (c3) rfl rfl ?_;rotate_right;conv=>whnf)|(refine CallX.exact (s107 _ _) rfl rfl ?_;rotate_right;conv=>whnf)|((first|refine CallX.pure c6 ⟨SV.le_lit (by rfl) (by rfl),trivial⟩ rfl ?_|(refine br_intro ?_ ?_<;>intro hb<;>try simp only[brs]at hb)|refine rAx hT 1 oJHiA46_1 ?_|omega|refine sAx ?_|decide|assumption)<;>conv=>whnf))
     all_goals first
      |(exfalso;omega)
      | (refine .ret _ ?_
         conv=>whnf
         refine⟨[],⟨?_,rfl⟩,trivial⟩;conv=>lhs;whnf
         all_goals rfl)
   obtain⟨F,hfin⟩:∃F:Int,F=firstAt (legE h) h.legs.length:=⟨_,rfl⟩;rw[if_neg q4,if_neg q5,←hfin];refine spec_of hT (C:= []) Tryz.func46 rfl Tryz.call46 rfl rfl rfl ?_;conv=>whnf
   repeat' (first|(refine CallX.exact (c1) rfl rfl ?_;rotate_right;conv=>whnf)|(refine CallX.exact (c2) rfl rfl ?_;rotate_right;conv=>whnf)|(refine CallX.exact (c3) rfl rfl ?_;rotate_right;conv=>whnf)|(refine CallX.exact (s107 _ _) rfl rfl ?_;rotate_right;conv=>whnf)|((first|refine CallX.pure c6 ⟨SV.le_lit (by rfl) (by rfl),trivial⟩ rfl ?_|(refine br_intro ?_ ?_<;>intro hb<;>try simp only[brs]at hb)|refine rAx hT 1 oJHiA46_1 ?_|omega|refine sAx ?_|decide|assumption)<;>conv=>whnf))
   all_goals first
    |(exfalso;omega)
    |skip
   refine LoopX.rule hT (C:= []) (ι:=Nat) (fun i=>i≤h.legs.length∧∀j,j<i→legE h j=0) (fun i=>mkSt [(1,.ptr 1 0),(37,.d (.int .i64 h.legs.length)),(38,.d (.int .i64 i))] [(1,hcell h)]) (fun i=>h.legs.length - i) 0 ⟨by omega,by omega⟩ (by exact eAx [(1,1)]) ?_;rintro i ⟨p1,p2⟩;have e1:(i:Int).toNat=i:=Int.toNat_natCast i;conv=>whnf
   repeat' (first|((first|refine pAx (z264 h hk i (by omega)) ?_|(refine br_intro ?_ ?_<;>intro hb<;>try simp only[brs]at hb)|refine rAx hT 1 oJHiA46_1 ?_|omega|refine sAx ?_|decide|assumption)<;>conv=>whnf))
   · refine .ret _ ?_;conv=>whnf
     refine⟨[],⟨?_,rfl⟩,trivial⟩;conv=>lhs;whnf
     congr 2
     rw[hfin];exact(firstAt_eq (by omega) p2 (by simpa using hb) rfl).symm
   · exact⟨i+1,⟨by omega,first_step p2 (by simpa using hb)⟩,by omega,(by exact eAx [(1,1)])⟩
   · refine .ret _ ?_;conv=>whnf
     refine⟨[],⟨?_,rfl⟩,trivial⟩;conv=>lhs;whnf
     congr 2
     have:i=h.legs.length:=by omega
     subst this;rw[hfin,firstAt_zero p2]
 · rw[hirE_time q1 q2 q3];generalize timE h.frm h.to=E at c3 q3 c5 c6;refine spec_of hT (C:= []) Tryz.func46 rfl Tryz.call46 rfl rfl rfl ?_;conv=>whnf
   repeat' (first|(refine CallX.exact (c1) rfl rfl ?_;rotate_right;conv=>whnf)|(refine CallX.exact (c2) rfl rfl ?_;rotate_right;conv=>whnf)|(refine CallX.exact (c3) rfl rfl ?_;rotate_right;conv=>whnf)|(refine CallX.exact (s107 _ _) rfl rfl ?_;rotate_right;conv=>whnf)|((first|refine CallX.pure c6 ⟨SV.le_lit (by rfl) (by rfl),trivial⟩ rfl ?_|(refine br_intro ?_ ?_<;>intro hb<;>try simp only[brs]at hb)|refine rAx hT 1 oJHiA46_1 ?_|omega|refine sAx ?_|decide|assumption)<;>conv=>whnf))
   all_goals first
    |(exfalso;omega)
    | (refine .ret _ ?_
       conv=>whnf
       refine⟨[],⟨?_,rfl⟩,trivial⟩;conv=>lhs;whnf
       all_goals rfl)
theorem SV.le_agg {l m:List SV}(h:argsLe0 l m):SV.le (.agg l) (.agg m):=by
 obtain⟨h1,h2⟩:=argsLe0_get h;intro G β v hv
 cases hv with|agg _ vs hl hd=>
 refine .agg _ _ (hl.trans h1) (fun i y v hy hv=> ?_);have hi:i<l.length:=by rw[h1];exact(List.getElem?_eq_some_iff.1 hy).1
 exact h2 i _ y (List.getElem?_eq_getElem hi) hy G β v (hd i _ v (List.getElem?_eq_getElem hi) hv)
def cellsLe:List SV→List SV→Prop
 | [],[]=>True
 |x::l,y::m=>SV.le x y∧cellsLe l m
 |_,_=>False
theorem cellsLe_get:∀ {l m:List SV},cellsLe l m→l.length=m.length∧∀ (i:Nat) x y,l[i]? =some x→m[i]? =some y→SV.le x y:=by
 intro l
 induction l with
 | nil=>
   intro m h
   cases m with
   |nil=>exact⟨rfl,by simp⟩
   |cons y m=>exact h.elim
 | cons x l ih=>
   intro m h
   cases m with
   |nil=>exact h.elim
   | cons y m=>
     obtain⟨h1,h2⟩:=h;obtain⟨i1,i2⟩:=ih h2;refine⟨by simp[i1],fun i a b ha hb=> ?_⟩
     cases i with
     |zero=>simp at ha hb;subst ha;subst hb;exact h1
     |succ i=>exact i2 i a b (by simpa using ha) (by simpa using hb)
theorem Res.le_cellsL {e:TypeId}{l m:List SV}(h:cellsLe l m):Res.le (.cells e l) (.cells e m):=
 Res.le_cells (cellsLe_get h).1 (cellsLe_get h).2
theorem getD_app_lt {α:Type}{l m:List α}{i:Nat}{z:α}(h:i<l.length):(l++m).getD i z=l.getD i z:=by
 rw[List.getD_eq_getElem?_getD,List.getD_eq_getElem?_getD,List.getElem?_append_left h]
def rgN:Rdg:=⟨-1,[],0,0⟩
def setIn (l:List Leg)(r:Rdg):List Leg:=l.set ((l.length:Int) - 1).toNat {l.getD ((l.length:Int) - 1).toNat lg0 with inn:=r}
theorem setIn_len (l:List Leg)(r:Rdg):(setIn l r).length=l.length:=by simp[setIn]
theorem Res.le_put_snocF {α:Type}{f:α→List DV}{d x y:α}{l:List α}{e k j off:Nat}{ds:List DV}{h:Nat→List DV}(hj:∀z,l[j]? =some z→setAtD (f z) off ds=f x)(hx:h 0=f y):
 Res.le (.buf e k (l.length+1) (appGet l.length (fun i=>bif Nat.beq i j then setAtD (rowF f d l i) off ds else rowF f d l i) h)) (seqB e k f d (l.set j x++ [y])):=by
 refine Res.le_buf (by simp) (fun i hi=> ?_);have h1:=rows_putF (f:=f) (d:=d) (l:=l) (x:=x) (j:=j) (off:=off) (ds:=ds) hj;rcases Nat.lt_or_ge i l.length with q|q
 · rw[appGet_lt q,h1 i q];simp only[rowF];rw[getD_app_lt (by simpa using q)]
 · have:i=l.length:=by omega
   subst this;rw[appGet_ge (Nat.le_refl _),Nat.sub_self,hx];simp only[rowF];congr 1
   rw[List.getD_eq_getElem?_getD,List.getElem?_append_right (by simp)];simp
theorem setIn_put {l:List Leg}{r:Rdg}:∀z,l[((l.length:Int) - 1).toNat]? =some z→setAtD (lgF z) 5 [.int .i64 r.tm,.str r.st,.int .i64 r.meter,.int .i64 r.fuel]=lgF {l.getD ((l.length:Int) - 1).toNat lg0 with inn:=r}:=fun z hz=>by
 rw[List.getD_eq_getElem?_getD,hz];rfl
def startH (key drv:List UInt8)(a b:Int)(v:List UInt8)(o:Rdg):Hir:=⟨key,drv,a,b,[⟨v,o,rgN⟩]⟩
theorem pkD {l:List Int}{x:Int}(h:x ∈ l)(hl:(l.all fun y=>decide (0≤y)&&decide (y≤3000))=true):0≤x∧x≤3000:=by
 have:=List.all_eq_true.1 hl x h;simpa using this
structure Ntr where
 name:Int
 pay:Int
 step:Int
 late:Int
structure Ntc where
 key:List UInt8
 plate:List UInt8
 tm:Int
 came:Int
 cents:Int
structure Cls where
 key:List UInt8
 up:List UInt8
structure Veh where
 key:List UInt8
 cls:List UInt8
structure Sta where
 key:List UInt8
 h:Nat→Int
def clsF:Cls→List DV:=fun c=> [.str c.key,.str c.up]
def cls0:Cls:=⟨[],[]⟩
abbrev clss (l:List Cls):DV:=seqD 2 clsF cls0 l
def vehF:Veh→List DV:=fun c=> [.str c.key,.str c.cls]
def veh0:Veh:=⟨[],[]⟩
abbrev vehs (l:List Veh):DV:=seqD 2 vehF veh0 l
def pltF:Plt→List DV:=fun p=> [.int .i64 p.frm,.str p.veh,.str p.plt]
def plt0:Plt:=⟨0,[],[]⟩
abbrev plts (l:List Plt):DV:=seqD 3 pltF plt0 l
def staF:Sta→List DV:=fun s=> [.str s.key,.int .i64 (s.h 0),.int .i64 (s.h 1),.int .i64 (s.h 2),.int .i64 (s.h 3),.int .i64 (s.h 4),.int .i64 (s.h 5),.int .i64 (s.h 6),.int .i64 (s.h 7),.int .i64 (s.h 8),.int .i64 (s.h 9),.int .i64 (s.h 10),.int .i64 (s.h 11),.int .i64 (s.h 12),.int .i64 (s.h 13)]
def sta0:Sta:=⟨[],fun _=>0⟩
abbrev stas (l:List Sta):DV:=seqD 15 staF sta0 l
def clsK (c:Cls):Prop:=c.key.length≤8∧c.up.length≤8
def vehK (c:Veh):Prop:=c.key.length≤8∧c.cls.length≤8
def pltK (c:Plt):Prop:=(-2^40≤c.frm∧c.frm≤2^40)∧c.veh.length≤8∧c.plt.length≤16
def staK (c:Sta):Prop:=c.key.length≤8
def cls4:List Cls:= [⟨[98,105,103],[]⟩,⟨[109,97,120,105],[]⟩,⟨[109,105,100,105],[]⟩,⟨[109,105,110,105],[]⟩]
def clsB (l:List Cls):Prop:=l.length≤4∧∀x ∈ l,clsK x
structure Arc where
 fr:Int
 to:Int
 car:Int
 flow:Int
def stF:Int×Bool→List DV:=fun s=> [.int .i64 s.1,.bool s.2]
abbrev steps (l:List (Int×Bool)):DV:=seqD 2 stF (0,false) l
theorem mov_eq {a b:Mov}:a=b↔a.a=b.a∧a.b=b.b∧a.many=b.many:=by cases a;cases b;simp
instance:DecidableEq Mov:=fun _ _=>decidable_of_iff _ mov_eq.symm
structure Pnl where
 key:List UInt8
 w:Int
 h:Int
 pr:Int
structure Mrk where
 pan:List UInt8
 kind:Int
 x:Int
 y:Int
 size:Int
structure Rul where
 near:Int
 slack:Int
 join:Int
 part:Int
theorem less_trans:∀ {a b c:List UInt8},Op.bytesLess a b=true→Op.bytesLess b c=true→Op.bytesLess a c=true:=by
 intro a
 induction a with
 |nil=>intro b c h1 h2;cases b<;>cases c<;>simp_all [Op.bytesLess]
 | cons x a ih=>
   intro b c h1 h2
   cases b with
   |nil=>simp[Op.bytesLess]at h1
   | cons y b=>
     cases c with
     |nil=>simp[Op.bytesLess]at h2
     | cons z c=>
       simp only[Op.bytesLess]at h1 h2 ⊢;grind [UInt8.lt_trans]
theorem less_irr:∀ (a:List UInt8),Op.bytesLess a a=false:=by
 intro a
 induction a with
 |nil=>rfl
 |cons x a ih=>simp[Op.bytesLess,ih]
def onRd (l:List Roa)(a b:List UInt8)(i:Nat):Bool:=(l.getD i rd0).a==a&&(l.getD i rd0).b==b
def roadX (l:List Roa)(a b:List UInt8):Int:=ixF (onRd l a b) l.length
theorem ixF_pos {p:Nat→Bool}{n k:Nat}(hk:k<n)(h:p k=true):0≤ixF p n:=by
 have hb:=ixF_bd (p:=p) (n:=n);rcases Int.lt_or_le (ixF p n) 0 with q|q
 · exfalso
   have hn :∀m,ixF p m<0→∀j,j<m→p j=false:=by
    intro m
    induction m with
    |zero=>intro _ j hj;omega
    | succ m ih=>
      intro hm j hj;rw[ixF]at hm;split at hm
      · rename_i hz
        by_cases hjm:j=m
        · subst hjm;split at hm
          · omega
          · rename_i hf;simpa using hf
        · exact ih (by omega) j (by omega)
      · rename_i hz;have:=(ixF_bd (p:=p) (n:=m)).1;omega
   rw[hn n q k hk]at h;cases h
 · exact q
def roadO (l:List Roa)(a b:List UInt8):Option Roa:=if 0≤roadX l a b then some (l.getD (roadX l a b).toNat rd0)else none
def rideO (l:List Roa)(a b:List UInt8):Option Int:=if a=b then some 0 else(roadO l a b).map (·.ride)
def makeO (l:List Roa)(a:List UInt8)(m:Mov):Option Int:=(rideO l a m.a).bind fun n=>(roadO l m.a m.b).map fun r=>n+r.car
abbrev RPt:=Option (List UInt8×Int)
def stepR (l:List Roa)(m:List Mov)(st:RPt)(k:Int):RPt:=st.bind fun p=>(makeO l p.1 (m.getD k.toNat mv0)).map fun n=>((m.getD k.toNat mv0).b,p.2+n)
def partR (l:List Roa)(start:List UInt8)(m:List Mov)(o:List Int):RPt:=o.foldl (stepR l m) (some (start,0))
def roundO (l:List Roa)(start:List UInt8)(m:List Mov)(o:List Int):Option Int:=(partR l start m o).bind fun p=>(rideO l p.1 start).map fun n=>p.2+n
abbrev RSt:=List Int×Int
def rs (l:List Roa)(start:List UInt8)(m:List Mov):Nat→List Int→RSt→RSt
 | 0,o,st=>match roundO l start m o with
   |some n=>if 0≤st.2∧st.2≤n then st else(o,n)
   |none=>st
 |d+1,o,st=>(List.range m.length).foldl (fun(st:RSt) (k:Nat)=>if o.contains (k:Int)then st else rs l start m d (o++ [(k:Int)]) st) st
def kyC (key:List UInt8):Res:=.cells 9 [.d (.str key)]
def clIx (l:List Cls)(key:List UInt8):Int:=ixF (fun i=>(l.getD i cls0).key==key) l.length
def veIx (l:List Veh)(key:List UInt8):Int:=ixF (fun i=>(l.getD i veh0).key==key) l.length
theorem z242 (x:Cls)(key:List UInt8):FSpec Tryz.prog 180 [.agg ((clsF x).map .d),.ptr 1000001 0] [(1000001,kyC key)] (fun y r=>y= .d (.bool (x.key==key))∧r= [(1000001,kyC key)]):=by
 refine spec_of hT (C:= []) Tryz.func180 rfl Tryz.call180 rfl rfl rfl ?_;conv=>whnf
 refine .ret _ ?_;conv=>whnf
 exact⟨[(1000001,kyC key)],⟨rfl,rfl⟩,rr,trivial⟩
theorem z155b (l:List Cls)(hl:l.length≤2^40)(key:List UInt8):FSpec Tryz.prog 179 [.d (clss l),.fn 180 [.ptr 1000001 0]] [(1000001,kyC key)] (fun x r=>x= .d (.int .i64 (clIx l key))∧r= [(1000001,kyC key)]):=by
 refine spec_of hT (C:= []) Tryz.func179 rfl Tryz.call179 rfl rfl rfl ?_;conv=>whnf
 refine LoopX.rule hT (C:= []) (ι:=Nat) (fun i=>i≤l.length∧∀j,j<i→((l.getD j cls0).key==key)=false) (fun i=>mkSt [(0,.d (clss l)),(1,.fn 180 [.ptr 1000001 0]),(7,.d (.int .i64 l.length)),(8,.d (.int .i64 i))] [(1000001,kyC key)]) (fun i=>l.length - i) 0 ⟨by omega,by omega⟩ (by exact eAx [(1000001,1000001)]) ?_;rintro i ⟨p1,p2⟩;have e1:(i:Int).toNat=i:=Int.toNat_natCast i;conv=>whnf
 repeat' (first|((first|(refine oAx (z242 (l.getD (i:Int).toNat cls0) key) [(1000001,1000001)] ?_;rintro x rout ⟨rfl,rfl⟩;refine⟨rfl,?_⟩)|(refine br_intro ?_ ?_<;>intro hb<;>try simp only[brs]at hb)|omega|refine sAx ?_|decide|assumption)<;>conv=>whnf))
 · refine .ret _ ?_;conv=>whnf
   refine⟨[(1000001,kyC key)],⟨?_,rfl⟩,rr,trivial⟩;conv=>lhs;whnf
   congr 2
   exact(ixF_hit (by omega) p2 (by simpa using hb)).symm
 · exact⟨i+1,⟨by omega,all_step p2 (by simpa using hb)⟩,by omega,(by exact eAx [(1000001,1000001)])⟩
 · refine .ret _ ?_;conv=>whnf
   refine⟨[(1000001,kyC key)],⟨?_,rfl⟩,rr,trivial⟩;conv=>lhs;whnf
   congr 2
   have:i=l.length:=by omega
   subst this;exact(ixF_none p2).symm
theorem z176 (l:List Cls)(hl:l.length≤2^40)(key:List UInt8):FSpec Tryz.prog 125 [.d (clss l),.d (.str key)] [] (fun x r=>x= .d (.int .i64 (clIx l key))∧r= []):=by
 refine spec_of hT (C:= []) Tryz.func125 rfl Tryz.call125 rfl rfl rfl ?_;conv=>whnf
 refine oAx (z155b l hl key) [(1000001,3)] ?_;rintro x rout ⟨rfl,rfl⟩;refine⟨rfl,?_⟩;conv=>whnf
 refine .ret _ ?_;conv=>whnf
 refine⟨[],⟨?_,rfl⟩,trivial⟩;conv=>lhs;whnf
structure Flt where
 sta:List Sta
 cls:List Cls
 veh:List Veh
 plt:List Plt
abbrev flt (f:Flt):SV:=.agg [.d (stas f.sta),.d (clss f.cls),.d (vehs f.veh),.d (plts f.plt)]
theorem clIx_bd (l:List Cls)(key:List UInt8): -1≤clIx l key∧clIx l key<l.length:=⟨ixF_bd.1,ixF_bd.2.1⟩
theorem clIx_at {l:List Cls}{key:List UInt8}(h:0≤clIx l key):(l.getD (clIx l key).toNat cls0).key=key:=by
 have:=(ixF_bd (p:=fun i=>(l.getD i cls0).key==key) (n:=l.length)).2.2 h;exact eq_of_beq this
def upC (l:List Cls)(key:List UInt8):List UInt8:=(l.getD (clIx l key).toNat cls0).up
def abv (l:List Cls):Nat→List UInt8→List (List UInt8)
 |0,_=> []
 |n+1,key=>if upC l key= []then []else upC l key::abv l n (upC l key)
theorem abv_len (l:List Cls):∀ (n:Nat) (key:List UInt8),(abv l n key).length≤n:=by
 intro n
 induction n with
 |zero=>intro key;simp[abv]
 |succ n ih=>intro key;rw[abv];split;simp;simp;exact ih _
def upsOk (l:List Cls):Prop:=(∀c ∈ l,c.up≠ []→0≤clIx l c.up)
theorem z241 (l:List Cls)(hl:l.length≤2^20)(hu:upsOk l)(key:List UInt8)(hk:0≤clIx l key):
 FSpec Tryz.prog 178 [.d (clss l),.d (.str key)] [] (fun x r=>x= .d (strs (abv l l.length key))∧r= []):=by
 refine spec_of hT (C:= []) Tryz.func178 rfl Tryz.call178 rfl rfl rfl ?_;conv=>whnf
 refine LoopX.rule hT (C:= []) (ι:=List (List UInt8)×List UInt8×Nat) (fun(o,k,i)=>i≤l.length∧o.length≤i∧0≤clIx l k∧o++abv l (l.length - i) k=abv l l.length key)
  (fun(o,k,i)=>mkSt [(0,.d (clss l)),(1,.d (.str k)),(5,.buf 5),(7,.d (.int .i64 l.length)),(8,.d (.int .i64 i))] [(5,seqB 9 1 sF [] o)])
  (fun(_,_,i)=>l.length - i) ([],key,0) ⟨by simp,by simp,hk,by simp⟩ ?_ ?_
 · exact(Entails.nil 5 5 9 1 (rowF sF [] []) rfl rfl (by decide)).trans (Entails.mk' [(5,5)] rfl rfl ⟨lr,lr,lr,lr,lr,trivial⟩ ⟨rr,trivial⟩)
 rintro⟨o,k,i⟩ ⟨p1,p2,p3,p4⟩;have p1:i≤l.length:=p1;have p2:o.length≤i:=p2;have p3:0≤clIx l k:=p3;have p4:o++abv l (l.length - i) k=abv l l.length key:=p4;have hb1:=(clIx_bd l k).2;conv=>whnf
 repeat' (first|(refine CallX.exact (z176 l (by omega) k) rfl rfl ?_;rotate_right;conv=>whnf)|((first|(refine br_intro ?_ ?_<;>intro hb<;>try simp only[brs]at hb)|omega|refine sAx ?_|decide|assumption)<;>conv=>whnf))
 · refine .freeze _ 5 9 1 _ _ rfl (.weak _ ?_);conv=>whnf
   refine⟨.d (strs o),[],lr,⟨?_,rfl⟩,trivial⟩;rw[←p4,show l.length - i=(l.length - i - 1)+1 by omega,abv,if_pos (show upC l k= []from hb),List.append_nil]
 · have hm:(l.getD (clIx l k).toNat cls0) ∈ l:=getD_mem (by omega)
   refine⟨(o++ [upC l k],upC l k,i+1),⟨by omega,by simp;omega,hu _ hm hb,?_⟩,by show l.length - (i+1)<l.length - i;omega,
    Entails.mk' [(5,22)] rfl rfl ⟨lr,lr,lr,lr,lr,trivial⟩ ⟨Res.le_snocF rfl,trivial⟩⟩
   rw[←p4,show l.length - i=(l.length - (i+1))+1 by omega,abv,if_neg (show ¬upC l k= []from hb),List.append_assoc];rfl
 · refine .freeze _ 5 9 1 _ _ rfl (.weak _ ?_);conv=>whnf
   refine⟨.d (strs o),[],lr,⟨?_,rfl⟩,trivial⟩;rw[←p4,show l.length - i=0 by omega,abv,List.append_nil]
theorem z208 (l:List (List UInt8))(hl:l.length≤2^40)(v:List UInt8):FSpec Tryz.prog 121 [.d (strs l),.d (.str v)] [] (fun x r=>x= .d (.int .i64 (ixF (fun i=>l.getD i []==v) l.length))∧r= []):=by
 refine spec_of hT (C:= []) Tryz.func121 rfl Tryz.call121 rfl rfl rfl ?_;conv=>whnf
 refine LoopX.rule hT (C:= []) (ι:=Nat) (fun i=>i≤l.length∧∀j,j<i→(l.getD j []==v)=false) (fun i=>mkSt [(0,.d (strs l)),(1,.d (.str v)),(7,.d (.int .i64 l.length)),(8,.d (.int .i64 i))] []) (fun i=>l.length - i) 0 ⟨by omega,by omega⟩ (by exact eAx []) ?_;rintro i ⟨p1,p2⟩;have e1:(i:Int).toNat=i:=Int.toNat_natCast i;conv=>whnf
 repeat' (first|((first|(refine br_intro ?_ ?_<;>intro hb<;>try simp only[brs]at hb)|omega|refine sAx ?_|decide|assumption)<;>conv=>whnf))
 · refine .ret _ ?_;conv=>whnf
   refine⟨[],⟨?_,rfl⟩,trivial⟩;conv=>lhs;whnf
   congr 2
   exact(ixF_hit (by omega) p2 (by rw[←hb];simp)).symm
 · exact⟨i+1,⟨by omega,all_step p2 (beq_eq_false_iff_ne.2 fun q=>hb q.symm)⟩,by omega,(by exact eAx [])⟩
 · refine .ret _ ?_;conv=>whnf
   refine⟨[],⟨?_,rfl⟩,trivial⟩;conv=>lhs;whnf
   congr 2
   have:i=l.length:=by omega
   subst this;exact(ixF_none p2).symm
theorem ix_memF (l:List (List UInt8))(v:List UInt8):decide (0≤ixF (fun i=>l.getD i []==v) l.length)=decide (v ∈ l):=by
 rw[decide_eq_decide];constructor
 · intro h;have:=ixF_bd (p:=fun i=>l.getD i []==v) (n:=l.length);rw[←eq_of_beq (this.2.2 h)];exact getD_mem (by omega)
 · intro h;obtain⟨j,hj,rfl⟩:=mem_getD (d:= []) h;exact ixF_pos hj (by simp)
theorem z153 (l:List (List UInt8))(hl:l.length≤2^40)(v:List UInt8):FSpec Tryz.prog 63 [.d (strs l),.d (.str v)] [] (fun x r=>x= .d (.bool (decide (v ∈ l)))∧r= []):=by
 refine spec_of hT (C:= []) Tryz.func63 rfl Tryz.call63 rfl rfl rfl ?_;conv=>whnf
 repeat' (first|(refine CallX.exact (z208 l hl v) rfl rfl ?_;rotate_right;conv=>whnf)|((first|(refine br_intro ?_ ?_<;>intro hb<;>try simp only[brs]at hb)|omega|refine sAx ?_|decide|assumption)<;>conv=>whnf))
 refine .ret _ ?_;conv=>whnf
 refine⟨[],⟨?_,rfl⟩,trivial⟩;conv=>lhs;whnf
 rw[←ix_memF]
def itU (l:List Cls):Nat→List UInt8→List UInt8
 |0,k=>k
 |n+1,k=>itU l n (upC l k)
theorem itU_add (l:List Cls):∀ (a b:Nat) (k:List UInt8),itU l (a+b) k=itU l b (itU l a k):=by
 intro a
 induction a with
 |zero=>intro b k;rw[Nat.zero_add];rfl
 |succ a ih=>intro b k;rw[show a+1+b=(a+b)+1 by omega,itU,ih,itU]
theorem abv_mem (l : List Cls) : ∀ (n : Nat) (k v :List UInt8),v ∈ abv l n k↔∃j,j<n∧itU l (j+1) k=v∧∀i,i≤j→itU l (i+1) k≠ []:=by
 intro n
 induction n with
 |zero=>intro k v;simp[abv]
 | succ n ih=>
   intro k v;rw[abv]
   by_cases h:upC l k= []
   · rw[if_pos h];constructor
     · intro q;cases q
     · rintro⟨j,_,_,h3⟩;exact absurd h (h3 0 (by omega))
   · rw [if_neg h,List.mem_cons,ih];constructor
     · rintro(rfl|⟨j,h1,h2,h3⟩)
       · exact ⟨0, by omega, rfl, fun i hi => by obtain rfl:i=0:=by omega
                                                 exact h⟩
       · refine⟨j+1,by omega,h2,fun i hi=> ?_⟩
         cases i with
         |zero=>exact h
         |succ i=>exact h3 i (by omega)
     · rintro⟨j,h1,h2,h3⟩
       cases j with
       |zero=>exact .inl h2.symm
       |succ j=>exact .inr ⟨j,by omega,h2,fun i hi=>h3 (i+1) (by omega)⟩
theorem nodupG {α:Type}{l m:List α}(h:l.Nodup)(hs:∀x ∈ l,x ∈ m):l.length≤m.length:=by
 induction l generalizing m with
 |nil=>simp
 | cons x l ih=>
   rw[List.nodup_cons]at h;obtain⟨a,b,rfl⟩:=List.append_of_mem (hs x (by simp))
   have:=ih (m:=a++b) h.2 (fun y hy=>by
    have q:=hs y (by simp[hy]);simp only[List.mem_append,List.mem_cons]at q ⊢;rcases q with q|q|q
    · exact .inl q
    · subst q;exact absurd hy h.1
    · exact .inr q)
   simp at this ⊢;omega
theorem clIx_mem {l:List Cls}{k:List UInt8}(h:0≤clIx l k):k ∈ l.map (·.key):=by
 rw[←clIx_at h];exact List.mem_map_of_mem (getD_mem (by have:=(clIx_bd l k).2;omega))
theorem itU_in {l:List Cls}(hu:upsOk l){k:List UInt8}(hk:0≤clIx l k):∀ (j:Nat),(∀i,i<j→itU l (i+1) k≠ [])→0≤clIx l (itU l j k):=by
 intro j
 induction j with
 |zero=>intro _;exact hk
 | succ j ih=>
   intro h;have h1:=ih (fun i hi=>h i (by omega));have h2:=h j (by omega);have e:itU l (j+1) k=upC l (itU l j k):=by rw[itU_add];rfl
   rw[e]at h2 ⊢;exact hu _ (getD_mem (by have:=(clIx_bd l (itU l j k)).2;omega)) h2
theorem loop_eq {l:List Cls}(hu:upsOk l){k:List UInt8}(hk:0≤clIx l k):k ∈ abv l (l.length+1) k↔k ∈ abv l l.length k:=by
 rw[abv_mem,abv_mem];constructor
 · rintro⟨j,h1,h2,h3⟩
   by_cases hj:j<l.length
   · exact⟨j,hj,h2,h3⟩
   · have hj:j=l.length:=by omega
     subst hj
     by_cases hex:∃j',j'<l.length∧itU l (j'+1) k=k
     · obtain⟨j',q1,q2⟩:=hex;exact⟨j',q1,q2,fun i hi=>h3 i (by omega)⟩
     · exfalso
       have hnd:((List.range (l.length+1)).map fun j=>itU l j k).Nodup:=by
        rw[List.nodup_iff_pairwise_ne,List.pairwise_map];refine List.Pairwise.imp_of_mem ?_ List.pairwise_lt_range;intro a b ha hb hab he;rw[List.mem_range]at ha hb;refine hex ⟨a+(l.length+1 - b) - 1,by omega,?_⟩;rw[show a+(l.length+1 - b) - 1+1=a+(l.length+1 - b)by omega,itU_add,he,←itU_add,show b+(l.length+1 - b)=l.length+1 by omega];exact h2
       have:=nodupG (m:=l.map (·.key)) hnd (fun x hx=>by
        obtain⟨j,hj,rfl⟩:=List.mem_map.1 hx;rw[List.mem_range]at hj
        exact clIx_mem (itU_in hu hk j (fun i hi=>h3 i (by omega))))
       simp at this;omega
 · rintro⟨j,h1,h2,h3⟩;exact⟨j,by omega,h2,h3⟩
theorem clIx_pos {l:List Cls}{c:Cls}(h:c ∈ l):0≤clIx l c.key:=by
 obtain⟨j,hj,rfl⟩:=mem_getD (d:=cls0) h;exact ixF_pos hj (by simp)
def clsE1 (l:List Cls)(i:Nat):Int:=
 if isKeyB (l.getD i cls0).key=false then 5 else if 0<i∧strLe (l.getD i cls0).key (l.getD (i - 1) cls0).key=true then 7
 else if(l.getD i cls0).up≠ []∧isKeyB (l.getD i cls0).up=false then 5 else 0
def clsE2 (l:List Cls)(i:Nat):Int:=if(l.getD i cls0).up≠ []∧clIx l (l.getD i cls0).up<0 then 8 else 0
def clsE3 (l:List Cls)(i:Nat):Int:=if(l.getD i cls0).key ∈ abv l l.length (l.getD i cls0).key then 14 else 0
def clssE (l:List Cls):Int:=if 30<l.length then 2 else firstE [firstAt (clsE1 l) l.length,firstAt (clsE2 l) l.length,firstAt (clsE3 l) l.length]
def clsOk (l:List Cls):Prop:=l.length≤2^20∧∀c ∈ l,c.key.length≤2^40∧c.up.length≤2^40
def pltCmp (a b:Plt):Int:=firstE [cmpI a.frm b.frm,cmpS a.veh b.veh,cmpS a.plt b.plt]
def pltC (p:Plt):Res:=.cells 163 ((pltF p).map .d)
def twP (p o:Plt):Bool:=decide (o.frm=p.frm)&&(o.veh==p.veh||o.plt==p.plt)
def vehS (l:List Veh):Prop:=∀i j,i<j→j<l.length→Op.bytesLess (l.getD i veh0).key (l.getD j veh0).key=true
theorem z287 (v:Veh)(key:List UInt8):FSpec Tryz.prog 228 [.agg ((vehF v).map .d),.d (.str key)] [] (fun y r=>y= .d (.int .i64 (cmpS v.key key))∧r= []):=by
 refine spec_of hT (C:= []) Tryz.func228 rfl Tryz.call228 rfl rfl rfl ?_;conv=>whnf
 repeat' (first|(refine CallX.exact (s184 _ _) rfl rfl ?_;rotate_right;conv=>whnf)|((first|(refine br_intro ?_ ?_<;>intro hb<;>try simp only[brs]at hb)|omega|refine sAx ?_|decide|assumption)<;>conv=>whnf))
 refine .ret _ ?_;conv=>whnf
 refine⟨[],⟨?_,rfl⟩,trivial⟩;conv=>lhs;whnf
theorem cmpS_neg (a b:List UInt8):cmpS a b<0↔Op.bytesLess a b=true:=by unfold cmpS;grind
theorem cmpS_zeroF (a b:List UInt8):cmpS a b=0↔a=b:=by
 unfold cmpS;grind [less_tri,less_irr]
theorem half2 (lo hi:Nat)(h:hi≤2^20)(hl:lo≤hi):IntKind.wrap .u64 ((lo:Int)+hi)/2=(((lo+hi)/2:Nat):Int):=by
 unfold IntKind.wrap;simp[IntKind.signed,IntKind.bits];omega
theorem vehS_lt {l:List Veh}(hs:vehS l){key:List UInt8}{i j:Nat}(hij:i≤j)(hj:j<l.length)(h:Op.bytesLess (l.getD j veh0).key key=true):Op.bytesLess (l.getD i veh0).key key=true:=by
 rcases Nat.lt_or_ge i j with q|q
 · exact less_trans (hs i j q hj) h
 · obtain rfl:i=j:=by omega
   exact h
theorem veIx_hit {l:List Veh}(hs:vehS l){i:Nat}(hi:i<l.length):veIx l (l.getD i veh0).key=i:=by
 refine ixF_hit hi (fun j hj=> ?_) (by simp);rw[beq_eq_false_iff_ne];intro e;have:=hs j i hj hi;rw[e,less_irr]at this;cases this
theorem veIx_no {l:List Veh}{key:List UInt8}(h:∀i,i<l.length→(l.getD i veh0).key≠key):veIx l key= -1:=
 ixF_none fun j hj=>beq_eq_false_iff_ne.2 (h j hj)
theorem z286 (l:List Veh)(hl:l.length≤2^20)(hs:vehS l)(key:List UInt8):FSpec Tryz.prog 227 [.d (vehs l),.d (.str key),.fn 228 []] []
 (fun y r=>(∃j:Nat,∃b:Bool,y= .tup [.d (.int .i64 j),.d (.bool b)]∧veIx l key=if b=true then(j:Int)else -1)∧r= []):=by
 refine spec_of hT (C:= []) Tryz.func227 rfl Tryz.call227 rfl rfl rfl ?_;conv=>whnf
 refine LoopX.rule hT (C:= []) (ι:=Nat×Nat) (fun(lo,hi)=>(lo≤hi∧hi≤l.length)∧(∀j,j<lo→Op.bytesLess (l.getD j veh0).key key=true)∧∀j,hi≤j→j<l.length→Op.bytesLess (l.getD j veh0).key key=false)
  (fun(lo,hi)=>mkSt [(0,.d (vehs l)),(1,.d (.str key)),(2,.fn 228 []),(8,.d (.int .i64 l.length)),(9,.d (.int .i64 lo)),(10,.d (.int .i64 hi))] []) (fun(lo,hi)=>hi - lo) (0,l.length)
  ⟨⟨by simp,by simp⟩,fun j hj=>by omega,fun j h1 h2=>by omega⟩ (by exact eAx []) ?_
 rintro⟨lo,hi⟩ ⟨⟨p1,p2⟩,p3,p4⟩;have p1:lo≤hi:=p1;have p2:hi≤l.length:=p2;have p3:∀j,j<lo→Op.bytesLess (l.getD j veh0).key key=true:=p3;have p4:∀j,hi≤j→j<l.length→Op.bytesLess (l.getD j veh0).key key=false:=p4;have hh:=half2 lo hi (by omega) p1;obtain⟨M,hM⟩:∃M,M=(lo+hi)/2:=⟨_,rfl⟩;rw[←hM]at hh;have e1:((M:Nat):Int).toNat=M:=Int.toNat_natCast M;have e2:((lo:Nat):Int).toNat=lo:=Int.toNat_natCast lo;conv=>whnf
 repeat' (first|(refine⟨rfl,?_⟩;conv=>whnf)|(rw[hh];conv=>whnf)|(refine CallX.exact (z287 (l.getD (M:Int).toNat veh0) key) rfl rfl ?_;rotate_right;conv=>whnf)|(refine CallX.exact (z287 (l.getD (lo:Int).toNat veh0) key) rfl rfl ?_;rotate_right;conv=>whnf)|((first|(refine br_intro ?_ ?_<;>intro hb<;>try simp only[brs]at hb)|omega|refine sAx ?_|decide|assumption)<;>conv=>whnf))
 · have hb1:=(cmpS_neg _ _).1 hb;exact⟨(M+1,hi),⟨⟨by omega,p2⟩,fun j hj=>vehS_lt hs (show j≤M by omega) (by omega) hb1,p4⟩,by show hi - (M+1)<hi - lo;omega,(by exact eAx [])⟩
 · have hb1:Op.bytesLess (l.getD M veh0).key key=false:=by
    rw[←Bool.not_eq_true,←cmpS_neg];omega
   refine⟨(lo,M),⟨⟨by omega,by omega⟩,p3,fun j h1 h2=> ?_⟩,by show M - lo<hi - lo;omega,(by exact eAx [])⟩;rw[←Bool.not_eq_true];intro q;rw[vehS_lt hs h1 h2 q]at hb1;cases hb1
 · refine .ret _ ?_;conv=>whnf
   refine⟨[],⟨⟨lo,decide (cmpS (l.getD lo veh0).key key=0),rfl,?_⟩,rfl⟩,trivial⟩
   by_cases q:(l.getD lo veh0).key=key
   · rw[if_pos (by rw[decide_eq_true_eq,cmpS_zeroF];exact q),←q];exact veIx_hit hs (by omega)
   · rw[if_neg (by rw[decide_eq_true_eq,cmpS_zeroF];exact q)];have h0:=p4 lo (by omega) (by omega);have h1:=less_tri _ _ h0 q;refine veIx_no fun i hi2 e=> ?_
     rcases Nat.lt_trichotomy i lo with r|r|r
     · have:=p3 i r;rw[e,less_irr]at this;cases this
     · subst r;exact q e
     · have:=less_trans h1 (hs lo i r hi2);rw[e,less_irr]at this;cases this
 · refine .ret _ ?_;conv=>whnf
   refine⟨[],⟨⟨lo,false,rfl,?_⟩,rfl⟩,trivial⟩;rw[if_neg (by simp)];refine veIx_no fun i hi2 e=> ?_
   have:=p3 i (by omega);rw[e,less_irr]at this;cases this
def oJFlE124_8:OL:= [(0,[]),(1,[]),(2,[]),(3,[]),(4,[]),(5,[3,4]),(6,[3,4,5]),(7,[3,4,5]),(8,[3,4]),(9,[3,4]),(10,[3,4]),(11,[]),(12,[]),(13,[])]
def oJFlE124_22:OL:= [(0,[]),(1,[0]),(2,[0]),(4,[0,1,2]),(5,[0,1,2]),(3,[4,5]),(6,[])]
set_option maxHeartbeats 2000000 in
theorem z175 (l:List Cls)(hk:clsOk l):FSpec Tryz.prog 124 [.d (clss l)] [] (fun x r=>x= .d (.int .i64 (clssE l))∧r= []):=by
 have hlen:=hk.1;refine spec_of hT (C:= []) Tryz.func124 rfl Tryz.call124 rfl rfl rfl ?_;conv=>whnf
 refine br_intro (fun h0=> ?_) (fun h0=> ?_)
 · simp at h0;conv=>whnf
   refine .ret _ ?_;conv=>whnf
   refine⟨[],⟨?_,rfl⟩,trivial⟩;conv=>lhs;whnf
   unfold clssE;rw[if_pos (by omega)]
 simp at h0;conv=>whnf
 refine LoopX.rule hT (C:= []) (ι:=Nat) (fun i=>i≤l.length∧∀j,j<i→clsE1 l j=0) (fun i=>mkSt [(0,.d (clss l)),(12,.d (clss l)),(13,.d (.int .i64 l.length)),(14,.d (.int .i64 i))] []) (fun i=>l.length - i) 0 ⟨by omega,by omega⟩ (by exact eAx []) ?_;rintro i ⟨p1,p2⟩;have hx:(i:Int)<l.length→(l.getD (i:Int).toNat cls0).key.length≤2^40∧(l.getD (i:Int).toNat cls0).up.length≤2^40:=fun hi=>hk.2 _ (getD_mem (by omega))
 have e1:(i:Int).toNat=i:=Int.toNat_natCast i
 have hbad:∀e:Int,i<l.length→e≠0→clsE1 l i=e→clssE l=e:=fun e h h1 h2=>by
  unfold clssE;rw[if_neg (by omega),firstAt_eq h p2 h1 h2,firstE,if_neg h1]
 rcases Nat.lt_or_ge i l.length with hi|hi
 · conv =>whnf
   repeat' (first|(refine CallX.exact (s108 _ (hx (by omega)).1) rfl rfl ?_;rotate_right;conv=>whnf)|(refine CallX.exact (s108 _ (hx (by omega)).2) rfl rfl ?_;rotate_right;conv=>whnf)|((first|(refine br_intro ?_ ?_<;>intro hb<;>try simp only[brs]at hb)|refine rAx hT 8 oJFlE124_8 ?_|refine rAx hT 22 oJFlE124_22 ?_|omega|refine sAx ?_|decide|assumption)<;>conv=>whnf))
   all_goals try(exfalso;omega)
   all_goals first
    |(refine⟨i+1,⟨by omega,first_step p2 (by clear p2 hbad hk hx;simp only[e1,toNat_pred]at*;unfold clsE1 strLe;grind)⟩,by omega,(by exact eAx [])⟩)
    | (refine .ret _ ?_
       conv=>whnf
       refine⟨[],⟨?_,rfl⟩,trivial⟩;conv=>lhs;whnf
       congr 2
       exact(hbad _ (by omega) (by decide) (by clear p2 hbad hk hx;simp only[e1,toNat_pred]at*;unfold clsE1 strLe;grind)).symm)
 have hil:i=l.length:=by omega
 subst hil;have P1:=firstAt_zero p2;clear hbad hx p2;conv=>whnf
 repeat' (first|((first|(refine br_intro ?_ ?_<;>intro hb<;>try simp only[brs]at hb)|refine rAx hT 8 oJFlE124_8 ?_|refine rAx hT 22 oJFlE124_22 ?_|omega|refine sAx ?_|decide|assumption)<;>conv=>whnf))
 all_goals try(exfalso;omega)
 refine LoopX.rule hT (C:= []) (ι:=Nat) (fun i=>i≤l.length∧∀j,j<i→clsE2 l j=0) (fun i=>mkSt [(0,.d (clss l)),(49,.d (clss l)),(50,.d (.int .i64 l.length)),(51,.d (.int .i64 i))] []) (fun i=>l.length - i) 0 ⟨by omega,by omega⟩ (by exact eAx []) ?_;rintro i ⟨p1,p2⟩;have e1:(i:Int).toNat=i:=Int.toNat_natCast i
 have hbad:∀e:Int,i<l.length→e≠0→clsE2 l i=e→clssE l=e:=fun e h h1 h2=>by
  unfold clssE;rw[if_neg (by omega),firstE,if_pos P1,firstE,firstAt_eq h p2 h1 h2,if_neg h1]
 rcases Nat.lt_or_ge i l.length with hi|hi
 · conv =>whnf
   repeat' (first|(refine CallX.exact (z176 l (by omega) _) rfl rfl ?_;rotate_right;conv=>whnf)|((first|(refine br_intro ?_ ?_<;>intro hb<;>try simp only[brs]at hb)|refine rAx hT 8 oJFlE124_8 ?_|refine rAx hT 22 oJFlE124_22 ?_|omega|refine sAx ?_|decide|assumption)<;>conv=>whnf))
   all_goals try(exfalso;omega)
   all_goals first
    |(refine⟨i+1,⟨by omega,first_step p2 (by clear p2 hbad hk;simp only[e1]at*;unfold clsE2;grind)⟩,by omega,(by exact eAx [])⟩)
    | (refine .ret _ ?_
       conv=>whnf
       refine⟨[],⟨?_,rfl⟩,trivial⟩;conv=>lhs;whnf
       congr 2
       exact(hbad _ (by omega) (by decide) (by clear p2 hbad hk;simp only[e1]at*;unfold clsE2;grind)).symm)
 have hil:i=l.length:=by omega
 subst hil;have P2:=firstAt_zero p2
 have hu:upsOk l:=fun c hc hn=>by
  obtain⟨j,hj,rfl⟩:=mem_getD (d:=cls0) hc;have:=p2 j hj;unfold clsE2 at this;rcases Int.lt_or_le (clIx l (l.getD j cls0).up) 0 with q|q
  · rw[if_pos ⟨hn,q⟩]at this;cases this
  · exact q
 clear hbad p2;conv=>whnf
 repeat' (first|((first|(refine br_intro ?_ ?_<;>intro hb<;>try simp only[brs]at hb)|refine rAx hT 8 oJFlE124_8 ?_|refine rAx hT 22 oJFlE124_22 ?_|omega|refine sAx ?_|decide|assumption)<;>conv=>whnf))
 all_goals try(exfalso;omega)
 refine LoopX.rule hT (C:= []) (ι:=Nat) (fun i=>i≤l.length∧∀j,j<i→clsE3 l j=0) (fun i=>mkSt [(0,.d (clss l)),(66,.d (clss l)),(67,.d (.int .i64 l.length)),(68,.d (.int .i64 i))] []) (fun i=>l.length - i) 0 ⟨by omega,by omega⟩ (by exact eAx []) ?_;rintro i ⟨p1,p2⟩;have e1:(i:Int).toNat=i:=Int.toNat_natCast i
 have hbad:∀e:Int,i<l.length→e≠0→clsE3 l i=e→clssE l=e:=fun e h h1 h2=>by
  unfold clssE;rw[if_neg (by omega),firstE,if_pos P1,firstE,if_pos P2,firstE,firstAt_eq h p2 h1 h2,if_neg h1]
 rcases Nat.lt_or_ge i l.length with hi|hi
 · have hin:=clIx_pos (l:=l) (c:=l.getD (i:Int).toNat cls0) (getD_mem (by omega));have hal:=abv_len l l.length (l.getD (i:Int).toNat cls0).key;have hlo:=loop_eq hu hin;conv=>whnf
   repeat' (first|(refine CallX.exact (z241 l hlen hu _ hin) rfl rfl ?_;rotate_right;conv=>whnf)|(refine CallX.exact (z153 _ (by omega) _) rfl rfl ?_;rotate_right;conv=>whnf)|((first|(refine br_intro ?_ ?_<;>intro hb<;>try simp only[brs]at hb)|refine rAx hT 8 oJFlE124_8 ?_|refine rAx hT 22 oJFlE124_22 ?_|omega|refine sAx ?_|decide|assumption)<;>conv=>whnf))
   all_goals try(exfalso;omega)
   all_goals first
    |(refine⟨i+1,⟨by omega,first_step p2 (by clear p2 hbad hk;simp only[e1]at*;unfold clsE3;grind)⟩,by omega,(by exact eAx [])⟩)
    | (refine .ret _ ?_
       conv=>whnf
       refine⟨[],⟨?_,rfl⟩,trivial⟩;conv=>lhs;whnf
       congr 2
       exact(hbad _ (by omega) (by decide) (by clear p2 hbad hk;simp only[e1]at*;unfold clsE3;grind)).symm)
 have hil:i=l.length:=by omega
 subst hil;have P3:=firstAt_zero p2;conv=>whnf
 repeat' (first|((first|(refine br_intro ?_ ?_<;>intro hb<;>try simp only[brs]at hb)|refine rAx hT 8 oJFlE124_8 ?_|refine rAx hT 22 oJFlE124_22 ?_|omega|refine sAx ?_|decide|assumption)<;>conv=>whnf))
 all_goals try(exfalso;omega)
 refine .ret _ ?_;conv=>whnf
 refine⟨[],⟨?_,rfl⟩,trivial⟩;conv=>lhs;whnf
 unfold clssE;rw[if_neg (by omega),firstE,if_pos P1,firstE,if_pos P2,firstE,if_pos P3];rfl
def oJFlG123_8:OL:= [(0,[]),(1,[]),(2,[]),(3,[]),(4,[]),(5,[3,4]),(6,[3,4,5]),(7,[3,4,5]),(8,[3,4]),(9,[3,4]),(10,[3,4]),(11,[]),(12,[]),(13,[])]
def okW (s:Sta)(k:Nat):Bool:=decide ((0≤s.h (2*k)∧s.h (2*k)≤s.h (2*k+1))∧s.h (2*k+1)≤1440)
def hrs (s:Sta):Bool:=(List.range 7).all (okW s)
theorem hrs_yes {s:Sta}(h:∀j,j<7→okW s j=true):hrs s=true:=by
 unfold hrs;rw[List.all_eq_true];intro j hj;exact h j (List.mem_range.1 hj)
theorem hrs_no {s:Sta}{j:Nat}(hj:j<7)(h:okW s j=false):hrs s=false:=by
 unfold hrs;rw[List.all_eq_false];exact⟨j,List.mem_range.2 hj,by simp[h]⟩
def stnE (l:List Sta)(i:Nat):Int:=
 if isKeyB (l.getD i sta0).key=false then 5 else if 0<i∧strLe (l.getD i sta0).key (l.getD (i - 1) sta0).key=true then 7 else if hrs (l.getD i sta0)=false then 1 else 0
def stasE (l:List Sta):Int:=if 50<l.length then 2 else firstAt (stnE l) l.length
def stasOk (l:List Sta):Prop:=l.length≤2^20∧∀c ∈ l,c.key.length≤2^40
set_option maxHeartbeats 4000000 in
theorem z174 (l :List Sta)(hk:stasOk l):FSpec Tryz.prog 123 [.d (stas l)] [] (fun x r=>x= .d (.int .i64 (stasE l))∧r= []):=by
 have hlen:=hk.1;refine spec_of hT (C:= []) Tryz.func123 rfl Tryz.call123 rfl rfl rfl ?_;conv=>whnf
 refine br_intro (fun h0=> ?_) (fun h0=> ?_)
 · simp at h0;conv=>whnf
   refine .ret _ ?_;conv=>whnf
   refine⟨[],⟨?_,rfl⟩,trivial⟩;conv=>lhs;whnf
   unfold stasE;rw[if_pos (by omega)]
 simp at h0;conv=>whnf
 refine LoopX.rule hT (C:= []) (ι:=Nat) (fun i=>i≤l.length∧∀j,j<i→stnE l j=0) (fun i=>mkSt [(0,.d (stas l)),(10,.d (stas l)),(11,.d (.int .i64 l.length)),(12,.d (.int .i64 i))] []) (fun i=>l.length - i) 0 ⟨by omega,by omega⟩ (by exact eAx []) ?_;rintro i ⟨p1,p2⟩;have hx:(i:Int)<l.length→(l.getD (i:Int).toNat sta0).key.length≤2^40:=fun hi=>hk.2 _ (getD_mem (by omega))
 have e1:(i:Int).toNat=i:=Int.toNat_natCast i
 have hbad:∀e:Int,i<l.length→e≠0→stnE l i=e→stasE l=e:=fun e h h1 h2=>by
  unfold stasE;rw[if_neg (by omega)];exact firstAt_eq h p2 h1 h2
 rcases Nat.lt_or_ge i l.length with hi|hi
 · obtain ⟨s,hs⟩:∃s,s=l.getD (i:Int).toNat sta0:=⟨_,rfl⟩;conv=>whnf
   repeat' (first|(refine CallX.exact (s108 _ (hx (by omega))) rfl rfl ?_;rotate_right;conv=>whnf)|((first|(refine br_intro ?_ ?_<;>intro hb<;>try simp only[brs]at hb)|refine rAx hT 8 oJFlG123_8 ?_|omega|refine sAx ?_|decide|assumption)<;>conv=>whnf))
   all_goals try(exfalso;omega)
   all_goals first
    | (refine .ret _ ?_
       conv=>whnf
       refine⟨[],⟨?_,rfl⟩,trivial⟩;conv=>lhs;whnf
       congr 2
       exact(hbad _ (by omega) (by decide) (by clear p2 hbad hk hx;simp only[e1,toNat_pred]at*;unfold stnE strLe;grind)).symm)
    | (have hok:stnE l i=if hrs s=false then 1 else 0:=by
        clear p2 hbad hk hx;simp only[e1,toNat_pred]at*;subst hs;unfold stnE strLe;grind
       refine LoopX.rule hT (C:= []) (ι:=Nat) (fun k=>k≤7∧∀j,j<k→okW s j=true) (fun k=>mkSt [(0,.d (stas l)),(10,.d (stas l)),(11,.d (.int .i64 l.length)),(12,.d (.int .i64 i)),(37,.agg (((staF s).drop 1).map .d)),(38,.d (.int .i64 k))] []) (fun k=>7 - k) 0 ⟨by omega,by omega⟩ (by rw[hs];exact(by exact eAx [])) ?_;rintro k ⟨q1,q2⟩;have hkk:k=7∨k=0∨k=1∨k=2∨k=3∨k=4∨k=5∨k=6:=by omega
       rcases hkk with rfl|rfl|rfl|rfl|rfl|rfl|rfl|rfl
       · rw[hrs_yes q2]at hok;conv=>whnf
         repeat' (first|((first|(refine br_intro ?_ ?_<;>intro hb<;>try simp only[brs]at hb)|refine rAx hT 8 oJFlG123_8 ?_|omega|refine sAx ?_|decide|assumption)<;>conv=>whnf))
         exact⟨i+1,⟨by omega,first_step p2 (by rw[hok];rfl)⟩,by omega,(by exact eAx [])⟩
       · conv =>whnf
         repeat' (first|(refine CallX.exact (s119 _ _ _) rfl rfl ?_;rotate_right;conv=>whnf)|((first|(refine br_intro ?_ ?_<;>intro hb<;>try simp only[brs]at hb)|refine rAx hT 8 oJFlG123_8 ?_|omega|refine sAx ?_|decide|assumption)<;>conv=>whnf))
         all_goals first
          | (refine .ret _ ?_
             conv=>whnf
             refine⟨[],⟨?_,rfl⟩,trivial⟩;conv=>lhs;whnf
             congr 2
             exact(hbad _ (by omega) (by decide) (by rw[hok,hrs_no (j:=0) (by omega) (by show decide ((0≤s.h 0∧s.h 0≤s.h 1)∧s.h 1≤1440)=false;rw[decide_eq_false_iff_not];omega)];rfl)).symm)
          |exact⟨1,⟨by omega,all_step (p:=fun j=>okW s j=true) (i:=0) q2 (by show decide ((0≤s.h 0∧s.h 0≤s.h 1)∧s.h 1≤1440)=true;rw[decide_eq_true_eq];omega)⟩,by omega,(by exact eAx [])⟩
       · conv =>whnf
         repeat' (first|(refine CallX.exact (s119 _ _ _) rfl rfl ?_;rotate_right;conv=>whnf)|((first|(refine br_intro ?_ ?_<;>intro hb<;>try simp only[brs]at hb)|refine rAx hT 8 oJFlG123_8 ?_|omega|refine sAx ?_|decide|assumption)<;>conv=>whnf))
         all_goals first
          | (refine .ret _ ?_
             conv=>whnf
             refine⟨[],⟨?_,rfl⟩,trivial⟩;conv=>lhs;whnf
             congr 2
             exact(hbad _ (by omega) (by decide) (by rw[hok,hrs_no (j:=1) (by omega) (by show decide ((0≤s.h 2∧s.h 2≤s.h 3)∧s.h 3≤1440)=false;rw[decide_eq_false_iff_not];omega)];rfl)).symm)
          |exact⟨2,⟨by omega,all_step (p:=fun j=>okW s j=true) (i:=1) q2 (by show decide ((0≤s.h 2∧s.h 2≤s.h 3)∧s.h 3≤1440)=true;rw[decide_eq_true_eq];omega)⟩,by omega,(by exact eAx [])⟩
       · conv =>whnf
         repeat' (first|(refine CallX.exact (s119 _ _ _) rfl rfl ?_;rotate_right;conv=>whnf)|((first|(refine br_intro ?_ ?_<;>intro hb<;>try simp only[brs]at hb)|refine rAx hT 8 oJFlG123_8 ?_|omega|refine sAx ?_|decide|assumption)<;>conv=>whnf))
         all_goals first
          | (refine .ret _ ?_
             conv=>whnf
             refine⟨[],⟨?_,rfl⟩,trivial⟩;conv=>lhs;whnf
             congr 2
             exact(hbad _ (by omega) (by decide) (by rw[hok,hrs_no (j:=2) (by omega) (by show decide ((0≤s.h 4∧s.h 4≤s.h 5)∧s.h 5≤1440)=false;rw[decide_eq_false_iff_not];omega)];rfl)).symm)
          |exact⟨3,⟨by omega,all_step (p:=fun j=>okW s j=true) (i:=2) q2 (by show decide ((0≤s.h 4∧s.h 4≤s.h 5)∧s.h 5≤1440)=true;rw[decide_eq_true_eq];omega)⟩,by omega,(by exact eAx [])⟩
       · conv =>whnf
         repeat' (first|(refine CallX.exact (s119 _ _ _) rfl rfl ?_;rotate_right;conv=>whnf)|((first|(refine br_intro ?_ ?_<;>intro hb<;>try simp only[brs]at hb)|refine rAx hT 8 oJFlG123_8 ?_|omega|refine sAx ?_|decide|assumption)<;>conv=>whnf))
         all_goals first
          | (refine .ret _ ?_
             conv=>whnf
             refine⟨[],⟨?_,rfl⟩,trivial⟩;conv=>lhs;whnf
             congr 2
             exact(hbad _ (by omega) (by decide) (by rw[hok,hrs_no (j:=3) (by omega) (by show decide ((0≤s.h 6∧s.h 6≤s.h 7)∧s.h 7≤1440)=false;rw[decide_eq_false_iff_not];omega)];rfl)).symm)
          |exact⟨4,⟨by omega,all_step (p:=fun j=>okW s j=true) (i:=3) q2 (by show decide ((0≤s.h 6∧s.h 6≤s.h 7)∧s.h 7≤1440)=true;rw[decide_eq_true_eq];omega)⟩,by omega,(by exact eAx [])⟩
       · conv =>whnf
         repeat' (first|(refine CallX.exact (s119 _ _ _) rfl rfl ?_;rotate_right;conv=>whnf)|((first|(refine br_intro ?_ ?_<;>intro hb<;>try simp only[brs]at hb)|refine rAx hT 8 oJFlG123_8 ?_|omega|refine sAx ?_|decide|assumption)<;>conv=>whnf))
         all_goals first
          | (refine .ret _ ?_
             conv=>whnf
             refine⟨[],⟨?_,rfl⟩,trivial⟩;conv=>lhs;whnf
             congr 2
             exact(hbad _ (by omega) (by decide) (by rw[hok,hrs_no (j:=4) (by omega) (by show decide ((0≤s.h 8∧s.h 8≤s.h 9)∧s.h 9≤1440)=false;rw[decide_eq_false_iff_not];omega)];rfl)).symm)
          |exact⟨5,⟨by omega,all_step (p:=fun j=>okW s j=true) (i:=4) q2 (by show decide ((0≤s.h 8∧s.h 8≤s.h 9)∧s.h 9≤1440)=true;rw[decide_eq_true_eq];omega)⟩,by omega,(by exact eAx [])⟩
       · conv =>whnf
         repeat' (first|(refine CallX.exact (s119 _ _ _) rfl rfl ?_;rotate_right;conv=>whnf)|((first|(refine br_intro ?_ ?_<;>intro hb<;>try simp only[brs]at hb)|refine rAx hT 8 oJFlG123_8 ?_|omega|refine sAx ?_|decide|assumption)<;>conv=>whnf))
         all_goals first
          | (refine .ret _ ?_
             conv=>whnf
             refine⟨[],⟨?_,rfl⟩,trivial⟩;conv=>lhs;whnf
             congr 2
             exact(hbad _ (by omega) (by decide) (by rw[hok,hrs_no (j:=5) (by omega) (by show decide ((0≤s.h 10∧s.h 10≤s.h 11)∧s.h 11≤1440)=false;rw[decide_eq_false_iff_not];omega)];rfl)).symm)
          |exact⟨6,⟨by omega,all_step (p:=fun j=>okW s j=true) (i:=5) q2 (by show decide ((0≤s.h 10∧s.h 10≤s.h 11)∧s.h 11≤1440)=true;rw[decide_eq_true_eq];omega)⟩,by omega,(by exact eAx [])⟩
       · conv =>whnf
         repeat' (first|(refine CallX.exact (s119 _ _ _) rfl rfl ?_;rotate_right;conv=>whnf)|((first|(refine br_intro ?_ ?_<;>intro hb<;>try simp only[brs]at hb)|refine rAx hT 8 oJFlG123_8 ?_|omega|refine sAx ?_|decide|assumption)<;>conv=>whnf))
         all_goals first
          | (refine .ret _ ?_
             conv=>whnf
             refine⟨[],⟨?_,rfl⟩,trivial⟩;conv=>lhs;whnf
             congr 2
             exact(hbad _ (by omega) (by decide) (by rw[hok,hrs_no (j:=6) (by omega) (by show decide ((0≤s.h 12∧s.h 12≤s.h 13)∧s.h 13≤1440)=false;rw[decide_eq_false_iff_not];omega)];rfl)).symm)
          |exact⟨7,⟨by omega,all_step (p:=fun j=>okW s j=true) (i:=6) q2 (by show decide ((0≤s.h 12∧s.h 12≤s.h 13)∧s.h 13≤1440)=true;rw[decide_eq_true_eq];omega)⟩,by omega,(by exact eAx [])⟩)
 have hil:i=l.length:=by omega
 subst hil;conv=>whnf
 repeat' (first|((first|(refine br_intro ?_ ?_<;>intro hb<;>try simp only[brs]at hb)|refine rAx hT 8 oJFlG123_8 ?_|omega|refine sAx ?_|decide|assumption)<;>conv=>whnf))
 all_goals try(exfalso;omega)
 refine .ret _ ?_;conv=>whnf
 refine⟨[],⟨?_,rfl⟩,trivial⟩;conv=>lhs;whnf
 congr 2
 unfold stasE;rw[if_neg (by omega),firstAt_zero p2]
def vehE1 (f:Flt)(i:Nat):Int:=
 if isKeyB (f.veh.getD i veh0).key=false then 5 else if 0<i∧strLe (f.veh.getD i veh0).key (f.veh.getD (i - 1) veh0).key=true then 7
 else if clIx f.cls (f.veh.getD i veh0).cls<0 then 8 else 0
def pltE1 (f:Flt)(i:Nat):Int:=
 if ¬ (0≤(f.plt.getD i plt0).frm∧(f.plt.getD i plt0).frm≤5761439)then 1 else if veIx f.veh (f.plt.getD i plt0).veh<0 then 8 else if isPlateB (f.plt.getD i plt0).plt=false then 3
 else if 0<i∧0≤pltCmp (f.plt.getD (i - 1) plt0) (f.plt.getD i plt0)then 7 else if((f.plt.take i).any (twP (f.plt.getD i plt0)))=true then 6 else 0
def fltE0 (f:Flt):Int:=firstE [stasE f.sta,clssE f.cls,if 500<f.veh.length then 2 else 0]
def fltE (f:Flt):Int:=if fltE0 f≠0 then fltE0 f else if firstAt (vehE1 f) f.veh.length≠0 then firstAt (vehE1 f) f.veh.length
 else if 1000<f.plt.length then 2 else firstAt (pltE1 f) f.plt.length
structure fltOk (f:Flt):Prop where
 sta:stasOk f.sta
 cls:clsOk f.cls
 veh:f.veh.length≤2^20∧∀v ∈ f.veh,v.key.length≤2^40∧v.cls.length≤2^40
 plt:f.plt.length≤2^20∧∀p ∈ f.plt,(-2^40≤p.frm∧p.frm≤2^40)∧p.veh.length≤2^40∧p.plt.length≤2^40
def fltC (f:Flt):Res:=.cells 31 [.d (stas f.sta),.d (clss f.cls),.d (vehs f.veh),.d (plts f.plt)]
theorem vehE_sorted {f:Flt}(h:firstAt (vehE1 f) f.veh.length=0):vehS f.veh:=by
 have h0:=firstAt_all h
 have step:∀j,j+1<f.veh.length→Op.bytesLess (f.veh.getD j veh0).key (f.veh.getD (j+1) veh0).key=true:=by
  intro j hj;have:=h0 (j+1) hj;unfold vehE1 strLe at this;simp only[Nat.add_sub_cancel]at this;have hl:=less_tri (f.veh.getD (j+1) veh0).key (f.veh.getD j veh0).key;grind
 intro i j hij hj
 induction j with
 |zero=>omega
 | succ j ih=>
   rcases Nat.lt_or_ge i j with q|q
   · exact less_trans (ih q (by omega)) (step j hj)
   · obtain rfl:i=j:=by omega
     exact step i hj
theorem z243 (f:Flt)(hl:f.veh.length≤2^20)(hs:vehS f.veh)(key:List UInt8):FSpec Tryz.prog 181 [flt f,.d (.str key)] [] (fun x r=>x= .d (.int .i64 (veIx f.veh key))∧r= []):=by
 refine spec_of hT (C:= []) Tryz.func181 rfl Tryz.call181 rfl rfl rfl ?_;conv=>whnf
 refine oAx (z286 f.veh hl hs key) [] ?_;rintro x rout ⟨⟨j,b,rfl,hj⟩,rfl⟩;refine⟨rfl,?_⟩;conv=>whnf
 repeat' (first|((first|(refine br_intro ?_ ?_<;>intro hb<;>try simp only[brs]at hb)|omega|refine sAx ?_|decide|assumption)<;>conv=>whnf))
 · refine .ret _ ?_;conv=>whnf
   refine⟨[],⟨?_,rfl⟩,trivial⟩;conv=>lhs;whnf
   congr 2
   rw[hj,if_neg (by simp[hb])]
 · refine .ret _ ?_;conv=>whnf
   refine⟨[],⟨?_,rfl⟩,trivial⟩;conv=>lhs;whnf
   congr 2
   rw[hj,if_pos hb]
def oJFlL126_14:OL:= [(0,[]),(1,[]),(2,[0,1]),(3,[0,1]),(5,rg 4),(6,rg 4),(7,[0,1,2,3,5,6]),(8,[0,1,2,3,5,6]),(10,[0,1,2,3,5,6,7,8]),(11,[0,1,2,3,5,6,7,8]),(12,[0,1,2,3,5,6,7,8,10,11]),(13,[0,1,2,3,5,6,7,8,10,11]),(4,[5,6,7,8,10,11,12,13]),(9,[10,11,12,13]),(14,[]),(15,[]),(16,[]),(17,[])]
def oJFlL126_17:OL:= [(0,[]),(1,[]),(2,[]),(3,[]),(4,[]),(5,[3,4]),(6,[]),(7,[]),(8,[]),(9,[3,4,5,6,7,8]),(10,[3,4,5,6,7,8]),(11,[]),(12,[])]
theorem pltCmp_frm {a b:Plt}(h:pltCmp a b<0):a.frm≤b.frm:=by
 unfold pltCmp at h;rw[firstE]at h;split at h
 · rename_i q;unfold cmpI at q;split at q<;>(try split at q)<;>omega
 · unfold cmpI at h;split at h<;>(try split at h)<;>omega
theorem pltE1_cmp {f:Flt}{j:Nat}(h:pltE1 f j=0)(hj:0<j):pltCmp (f.plt.getD (j - 1) plt0) (f.plt.getD j plt0)<0:=by
 unfold pltE1 at h;grind
theorem frm_mono {f:Flt}{i:Nat}(h:∀j,j≤i→0<j→pltCmp (f.plt.getD (j - 1) plt0) (f.plt.getD j plt0)<0):∀b a,a≤b→b≤i→(f.plt.getD a plt0).frm≤(f.plt.getD b plt0).frm:=by
 intro b
 induction b with
 | zero => intro a ha _;obtain rfl:a=0:=by omega
           exact Int.le_refl _
 | succ b ih=>
   intro a ha hb;rcases Nat.lt_or_ge a (b+1)with q|q
   · have h1:=ih a (by omega) (by omega);have h2:=pltCmp_frm (h (b+1) hb (by omega));rw[Nat.add_sub_cancel]at h2;omega
   · obtain rfl:a=b+1:=by omega
     exact Int.le_refl _
theorem getD_take {α:Type}{l:List α}{d:α}{i j:Nat}(h:j<i):(l.take i).getD j d=l.getD j d:=by
 rw[List.getD_eq_getElem?_getD,List.getElem?_take_of_lt h,←List.getD_eq_getElem?_getD]
theorem tw_none {f:Flt}{i m:Nat}(hi:i<f.plt.length)(hm:m≤i)(h1:∀j,m≤j→j<i→twP (f.plt.getD i plt0) (f.plt.getD j plt0)=false)
 (h2:∀j,j<m→(f.plt.getD j plt0).frm≠(f.plt.getD i plt0).frm):(f.plt.take i).any (twP (f.plt.getD i plt0))=false:=by
 rw[List.any_eq_false];intro x hx;obtain⟨j,hj,rfl⟩:=mem_getD (d:=plt0) hx;rw[List.length_take]at hj;rw[getD_take (by omega)];rcases Nat.lt_or_ge j m with q|q
 · unfold twP;simp only[decide_eq_false (h2 j q),Bool.false_and];simp
 · rw[h1 j q (by omega)];simp
theorem tw_some {f:Flt}{i k:Nat}(hi:i<f.plt.length)(hk:k<i)(h:twP (f.plt.getD i plt0) (f.plt.getD k plt0)=true):(f.plt.take i).any (twP (f.plt.getD i plt0))=true:=by
 rw[List.any_eq_true];refine⟨(f.plt.take i).getD k plt0,getD_mem (by rw[List.length_take];omega),?_⟩;rw[getD_take hk];exact h
def pltsE (f:Flt):Int:=if 1000<f.plt.length then 2 else firstAt (pltE1 f) f.plt.length
set_option maxHeartbeats 4000000 in
theorem z177 (f:Flt)(hk:fltOk f)(hs:vehS f.veh):FSpec Tryz.prog 126 [flt f] [] (fun x r=>x= .d (.int .i64 (pltsE f))∧r= []):=by
 have hlv:=hk.veh.1;have hlp:=hk.plt.1;refine spec_of hT (C:= []) Tryz.func126 rfl Tryz.call126 rfl rfl rfl ?_;conv=>whnf
 repeat' (first|((first|(refine br_intro ?_ ?_<;>intro hb<;>try simp only[brs]at hb)|refine rAx hT 14 oJFlL126_14 ?_|refine rAx hT 17 oJFlL126_17 ?_|omega|refine sAx ?_|decide|assumption)<;>conv=>whnf))
 · refine .ret _ ?_;conv=>whnf
   refine⟨[],⟨?_,rfl⟩,trivial⟩;conv=>lhs;whnf
   congr 2
   unfold pltsE;rw[if_pos (by omega)]
 refine LoopX.rule hT (C:= []) (ι:=Nat) (fun i=>i≤f.plt.length∧∀j,j<i→pltE1 f j=0) (fun i=>mkSt [(1,.ptr 1 0),(13,.d (plts f.plt)),(14,.d (.int .i64 f.plt.length)),(15,.d (.int .i64 i))] [(1,fltC f)]) (fun i=>f.plt.length - i) 0 ⟨by omega,by omega⟩ (by exact eAx [(1,1)]) ?_;rintro i ⟨p1,p2⟩;have hx:(i:Int)<f.plt.length→(-2^40≤(f.plt.getD (i:Int).toNat plt0).frm∧(f.plt.getD (i:Int).toNat plt0).frm≤2^40)∧(f.plt.getD (i:Int).toNat plt0).veh.length≤2^40∧(f.plt.getD (i:Int).toNat plt0).plt.length≤2^40:=fun hi=>hk.plt.2 _ (getD_mem (by omega))
 have e1:(i:Int).toNat=i:=Int.toNat_natCast i
 have hbad:∀e:Int,i<f.plt.length→e≠0→pltE1 f i=e→pltsE f=e:=fun e h h1 h2=>by
  unfold pltsE;rw[if_neg (by omega),firstAt_eq h p2 h1 h2]
 rcases Nat.lt_or_ge i f.plt.length with hi|hi
 · have hx2 :=hx (by omega);have hz:((i:Int) - 1).toNat=i - 1:=by omega
   conv=>whnf
   repeat' (first|(refine CallX.exact (s154 _) rfl rfl ?_;rotate_right;conv=>whnf)|(refine CallX.exact (z243 f (by omega) hs _) rfl rfl ?_;rotate_right;conv=>whnf)|(refine CallX.exact (s185 _ hx2.2.2) rfl rfl ?_;rotate_right;conv=>whnf)|(refine CallX.exact (s183 _ _) rfl rfl ?_;rotate_right;conv=>whnf)|(refine CallX.exact (s184 _ _) rfl rfl ?_;rotate_right;conv=>whnf)|((first|refine CallX.pure (s182 [cmpI (f.plt.getD ((i:Int) - 1).toNat plt0).frm (f.plt.getD (i:Int).toNat plt0).frm,cmpS (f.plt.getD ((i:Int) - 1).toNat plt0).veh (f.plt.getD (i:Int).toNat plt0).veh,cmpS (f.plt.getD ((i:Int) - 1).toNat plt0).plt (f.plt.getD (i:Int).toNat plt0).plt] (by simp)) ⟨SV.le_lit (by rfl) (by rfl),trivial⟩ rfl ?_|(refine br_intro ?_ ?_<;>intro hb<;>try simp only[brs]at hb)|refine rAx hT 14 oJFlL126_14 ?_|refine rAx hT 17 oJFlL126_17 ?_|omega|refine sAx ?_|decide|assumption)<;>conv=>whnf))
   all_goals first
    | (refine .ret _ ?_
       conv=>whnf
       refine⟨[],⟨?_,rfl⟩,trivial⟩;conv=>lhs;whnf
       congr 2
       exact(hbad _ (by omega) (by decide) (by clear p2 hbad hk hx hx2;simp only[e1,hz]at*;unfold pltE1;(try unfold pltCmp);grind)).symm)
    | (have hcmp:0<i→pltCmp (f.plt.getD (i - 1) plt0) (f.plt.getD i plt0)<0:=by
        intro _
        first
         |(exfalso;omega)
         |(clear p2 hbad hk hx hx2;simp only[e1,hz]at*;unfold pltCmp;assumption)
       have hall:∀j,j≤i→0<j→pltCmp (f.plt.getD (j - 1) plt0) (f.plt.getD j plt0)<0:=fun j h1 h2=>by
        rcases Nat.lt_or_ge j i with q|q
        · exact pltE1_cmp (p2 j q) h2
        · obtain rfl:j=i:=by omega
          exact hcmp h2
       have hz0:∀ (c:Bool),pltE1 f i=(if(f.plt.take i).any (twP (f.plt.getD i plt0))=true then 6 else 0):=by
        intro _;clear p2 hbad hk hx hx2;simp only[e1,hz]at*;unfold pltE1;grind
       have hz0:=hz0 true
       refine LoopX.rule hT (C:= []) (ι:=Nat) (fun m=>m≤i∧∀j,m≤j→j<i→(f.plt.getD j plt0).frm=(f.plt.getD i plt0).frm∧twP (f.plt.getD i plt0) (f.plt.getD j plt0)=false)
        (fun m=>mkSt [(1,.ptr 1 0),(4,.ptr 4 0),(6,.d (.int .i64 ((m:Int) - 1))),(13,.d (plts f.plt)),(14,.d (.int .i64 f.plt.length)),(15,.d (.int .i64 i))] [(1,fltC f),(4,pltC (f.plt.getD (i:Int).toNat plt0))]) (fun m=>m) i ⟨by omega,fun j h1 h2=>by omega⟩ (by exact eAx [(1,1),(4,4)]) ?_
       rintro m ⟨q1,q2⟩;have hm1:0<m→((m:Int) - 1).toNat=m - 1:=fun h=>by omega
       conv=>whnf
       repeat' (first|((first|(refine br_intro ?_ ?_<;>intro hb<;>try simp only[brs]at hb)|refine rAx hT 14 oJFlL126_14 ?_|refine rAx hT 17 oJFlL126_17 ?_|omega|refine sAx ?_|decide|assumption)<;>conv=>whnf))
       all_goals first
        | (refine .ret _ ?_
           conv=>whnf
           refine⟨[],⟨?_,rfl⟩,trivial⟩;conv=>lhs;whnf
           congr 2
           refine(hbad _ (by omega) (by decide) ?_).symm
           rw[hz0,if_pos (tw_some hi (k:=m - 1) (by omega) (by clear p2 hbad hk hx hx2 hall;simp only[e1,hm1 (by omega)]at*;unfold twP;grind))])
        |exact⟨m - 1,⟨by omega,fun j h1 h2=>by
         rcases Nat.lt_or_ge j m with r|r
         · obtain rfl:j=m - 1:=by omega
           clear p2 hbad hk hx hx2 hall;simp only[e1,hm1 (by omega)]at*;unfold twP;grind
         · exact q2 j r h2⟩,by show m - 1<m;omega,Entails.mk' [(1,1),(4,4)] rfl rfl ⟨lr,lr,SV.le_int (by omega),lr,lr,lr,trivial⟩ ⟨rr,rr,trivial⟩⟩
        |exact⟨i+1,⟨by omega,first_step p2 (by
         rw[hz0,tw_none hi q1 (fun j h1 h2=>(q2 j h1 h2).2) (fun j h1=>by
          have h2:=frm_mono hall i (m - 1) (by omega) (by omega);have h3:=frm_mono hall (m - 1) j (by omega) (by omega);clear p2 hbad hk hx hx2 hall;simp only[e1,hm1 (by omega)]at*
          omega)]
         rfl)⟩,by omega,(by exact eAx [(1,1)])⟩)
 have hil:i=f.plt.length:=by omega
 subst hil;have F2:=firstAt_zero p2;clear hbad hx p2;conv=>whnf
 repeat' (first|((first|(refine br_intro ?_ ?_<;>intro hb<;>try simp only[brs]at hb)|refine rAx hT 14 oJFlL126_14 ?_|refine rAx hT 17 oJFlL126_17 ?_|omega|refine sAx ?_|decide|assumption)<;>conv=>whnf))
 all_goals try(exfalso;omega)
 refine .ret _ ?_;conv=>whnf
 refine⟨[],⟨?_,rfl⟩,trivial⟩;conv=>lhs;whnf
 congr 2
 unfold pltsE;rw[if_neg (by omega)];exact F2.symm
def oJFlM65_1:OL:= [(0,[]),(1,[]),(3,[0,1]),(4,[0,1]),(6,[0,1,3,4]),(7,[0,1,3,4]),(8,[0,1,3,4]),(9,[0,1,3,4]),(2,[3,4,6,7,8,9]),(5,[6,7,8,9]),(10,[]),(11,[]),(12,[]),(13,[])]
def oJFlM65_9:OL:= [(0,[]),(1,[]),(2,[]),(3,[]),(4,[]),(5,[3,4]),(6,[3,4]),(7,[3,4,5,6]),(8,[3,4,5,6]),(9,[3,4]),(10,[3,4]),(11,[3,4]),(12,[]),(13,[]),(14,[])]
set_option maxHeartbeats 4000000 in
theorem z114 (f:Flt)(hk:fltOk f):FSpec Tryz.prog 65 [flt f] [] (fun x r=>x= .d (.int .i64 (fltE f))∧r= []):=by
 have hlv:=hk.veh.1;have hlp:=hk.plt.1
 have H:(if decide ((500:Int)<f.veh.length)=true then(2:Int)else 0)=if 500<f.veh.length then 2 else 0:=by
  simp only[decide_eq_true_eq];congr 1;rw[eq_iff_iff];omega
 have h3:=s105 [stasE f.sta,clssE f.cls,if decide ((500:Int)<f.veh.length)=true then 2 else 0] (by simp);rw[show firstE [stasE f.sta,clssE f.cls,if decide ((500:Int)<f.veh.length)=true then 2 else 0]=fltE0 f from by rw[H];rfl]at h3;refine spec_of hT (C:= []) Tryz.func65 rfl Tryz.call65 rfl rfl rfl ?_;conv=>whnf
 repeat' (first|(refine CallX.exact (z174 f.sta hk.sta) rfl rfl ?_;rotate_right;conv=>whnf)|(refine CallX.exact (z175 f.cls hk.cls) rfl rfl ?_;rotate_right;conv=>whnf)|(refine CallX.exact (s107 _ _) rfl rfl ?_;rotate_right;conv=>whnf)|((first|refine CallX.pure h3 ⟨SV.le_lit (by rfl) (by rfl),trivial⟩ rfl ?_|(refine br_intro ?_ ?_<;>intro hb<;>try simp only[brs]at hb)|refine rAx hT 1 oJFlM65_1 ?_|refine rAx hT 9 oJFlM65_9 ?_|omega|refine sAx ?_|decide|assumption)<;>conv=>whnf))
 · refine .ret _ ?_;conv=>whnf
   refine⟨[],⟨?_,rfl⟩,trivial⟩;conv=>lhs;whnf
   congr 2
   unfold fltE;rw[if_pos hb]
 have F0:fltE0 f=0:=hb;refine LoopX.rule hT (C:= []) (ι:=Nat) (fun i=>i≤f.veh.length∧∀j,j<i→vehE1 f j=0) (fun i=>mkSt [(1,.ptr 1 0),(23,.d (vehs f.veh)),(24,.d (.int .i64 f.veh.length)),(25,.d (.int .i64 i))] [(1,fltC f)]) (fun i=>f.veh.length - i) 0 ⟨by omega,by omega⟩ (by exact eAx [(1,1)]) ?_;rintro i ⟨p1,p2⟩;have hx:(i:Int)<f.veh.length→(f.veh.getD (i:Int).toNat veh0).key.length≤2^40∧(f.veh.getD (i:Int).toNat veh0).cls.length≤2^40:=fun hi=>hk.veh.2 _ (getD_mem (by omega))
 have e1:(i:Int).toNat=i:=Int.toNat_natCast i
 have hbad:∀e:Int,i<f.veh.length→e≠0→vehE1 f i=e→fltE f=e:=fun e h h1 h2=>by
  unfold fltE;rw[if_neg (by omega),firstAt_eq h p2 h1 h2,if_pos h1]
 rcases Nat.lt_or_ge i f.veh.length with hi|hi
 · conv =>whnf
   repeat' (first|(refine CallX.exact (s108 _ (hx (by omega)).1) rfl rfl ?_;rotate_right;conv=>whnf)|(refine CallX.exact (z176 f.cls (Nat.le_trans hk.cls.1 (by decide)) _) rfl rfl ?_;rotate_right;conv=>whnf)|((first|(refine br_intro ?_ ?_<;>intro hb<;>try simp only[brs]at hb)|refine rAx hT 1 oJFlM65_1 ?_|refine rAx hT 9 oJFlM65_9 ?_|omega|refine sAx ?_|decide|assumption)<;>conv=>whnf))
   all_goals try(exfalso;omega)
   all_goals first
    |(refine⟨i+1,⟨by omega,first_step p2 (by clear p2 hbad hk hx;simp only[e1,toNat_pred]at*;unfold vehE1 strLe;grind)⟩,by omega,(by exact eAx [(1,1)])⟩)
    | (refine .ret _ ?_
       conv=>whnf
       refine⟨[],⟨?_,rfl⟩,trivial⟩;conv=>lhs;whnf
       congr 2
       exact(hbad _ (by omega) (by decide) (by clear p2 hbad hk hx;simp only[e1,toNat_pred]at*;unfold vehE1 strLe;grind)).symm)
 have hil:i=f.veh.length:=by omega
 subst hil;have F1:=firstAt_zero p2;clear hbad hx p2;conv=>whnf
 repeat' (first|(refine CallX.exact (z177 f hk (vehE_sorted F1)) rfl rfl ?_;rotate_right;conv=>whnf)|((first|(refine br_intro ?_ ?_<;>intro hb<;>try simp only[brs]at hb)|refine rAx hT 1 oJFlM65_1 ?_|refine rAx hT 9 oJFlM65_9 ?_|omega|refine sAx ?_|decide|assumption)<;>conv=>whnf))
 all_goals try(exfalso;omega)
 refine .ret _ ?_;conv=>whnf
 refine⟨[],⟨?_,rfl⟩,trivial⟩;conv=>lhs;whnf
 congr 2
 unfold fltE pltsE;simp[F0,F1]
def oJTaA69_18:OL:= [(0,[]),(1,[]),(2,[0,1]),(3,[0,1]),(5,rg 4),(6,rg 4),(7,[0,1,2,3,5,6]),(8,[0,1,2,3,5,6]),(4,[5,6,7,8]),(9,[]),(10,[]),(11,[]),(12,[])]
def oJTaA139_6:OL:= [(0,[]),(1,[]),(2,[0,1]),(3,[0,1]),(4,rg 4),(5,rg 4),(6,rg 6),(7,rg 6),(8,[]),(9,rg 9),(10,rg 9),(11,rg 11),(12,rg 11),(13,rg 13),(14,rg 13),(15,rg 15),(16,rg 15),(17,rg 9),(18,[9,10,11,12,13,14,15,16,17]),(19,[])]
structure Rat where
 cls:List UInt8
 frm:Int
 to:Int
 hr:Int
 dy:Int
 we:Int
 wk:Int
def ratF (x:Rat):List DV:= [.str x.cls,.int .i64 x.frm,.int .i64 x.to,.int .i64 x.hr,.int .i64 x.dy,.int .i64 x.we,.int .i64 x.wk]
def rat0:Rat:=⟨[],0,0,0,0,0,0⟩
abbrev rats (l:List Rat):DV:=seqD 7 ratF rat0 l
def numO (n:Int):Prop:= -1≤n∧n≤1000000
instance (n:Int):Decidable (numO n):=by unfold numO;infer_instance
def nums (x:Rat):Prop:=numO x.hr∧numO x.dy∧numO x.we∧numO x.wk
instance (x:Rat):Decidable (nums x):=by unfold nums;infer_instance
theorem cmp2_ge (a b:List UInt8)(m n:Int):(0≤firstE [cmpS a b,cmpI m n])=(Op.bytesLess b a=true∨(a=b∧n≤m)):=by
 apply propext
 unfold firstE cmpS cmpI firstE firstE;have h1:=less_tri a b;have h2:=less_irr a;grind [less_trans]
theorem cmp2s_ge (a b c d:List UInt8):(0≤firstE [cmpS a b,cmpS c d])=(Op.bytesLess b a=true∨(a=b∧strLe d c=true)):=by
 apply propext
 unfold firstE cmpS firstE firstE strLe;have h1:=less_tri a b;have h2:=less_irr a;have h3:=less_tri c d;have h4:=less_irr c;grind [less_trans]
theorem cmp2_lt (a b:List UInt8)(m n:Int):(firstE [cmpS a b,cmpI m n]<0)=¬ (Op.bytesLess b a=true∨(a=b∧n≤m)):=by
 rw[←cmp2_ge];exact propext Int.not_le.symm
theorem cmp2s_lt (a b c d:List UInt8):(firstE [cmpS a b,cmpS c d]<0)=¬ (Op.bytesLess b a=true∨(a=b∧strLe d c=true)):=by
 rw[←cmp2s_ge];exact propext Int.not_le.symm
def ratE (l:List Rat)(i:Nat):Int:=
 let x:=l.getD i rat0
 let q:=l.getD (i - 1) rat0
 if isKeyB x.cls=false then 5 else if ¬ (0≤x.frm∧x.frm<x.to∧x.to≤4001∧nums x)then 1 else if 0<i∧(Op.bytesLess x.cls q.cls=true∨(q.cls=x.cls∧x.frm≤q.frm))then 7 else if 0<i∧q.cls=x.cls∧x.frm<q.to then 13 else 0
def ratsE (l:List Rat):Int:=if 200<l.length then 2 else firstAt (ratE l) l.length
def ratK (x:Rat):Prop:=x.cls.length≤2^40
def ratOk (l:List Rat):Prop:=l.length≤2^40∧∀x ∈ l,ratK x
theorem min4_lt (p q r t c:Int):(min (min (min p q) r) t<c)=(p<c∨q<c∨r<c∨t<c):=by apply propext;omega
theorem max4_gt (p q r t c:Int):(c<max (max (max p q) r) t)=(c<p∨c<q∨c<r∨c<t):=by apply propext;omega
set_option maxHeartbeats 4000000 in
theorem y149 (l:List Rat)(hk:ratOk l):FSpec Tryz.prog 69 [.d (rats l)] [] (fun x r=>x= .d (.int .i64 (ratsE l))∧r= []):=by
 refine spec_of hT (C:= []) Tryz.func69 rfl Tryz.call69 rfl rfl rfl ?_;conv=>whnf
 refine br_intro (fun h0=> ?_) (fun h0=> ?_)
 · simp at h0;conv=>whnf
   refine .ret _ ?_;conv=>whnf
   refine⟨[],⟨?_,rfl⟩,trivial⟩;conv=>lhs;whnf
   unfold ratsE;rw[if_pos (by omega)]
 simp at h0;conv=>whnf
 refine LoopX.rule hT (C:= []) (ι:=Nat) (fun i=>i≤l.length∧∀j,j<i→ratE l j=0) (fun i=>mkSt [(0,.d (rats l)),(11,.d (rats l)),(12,.d (.int .i64 l.length)),(13,.d (.int .i64 i))] []) (fun i=>l.length - i) 0 ⟨by omega,by omega⟩ (by exact eAx []) ?_;rintro i ⟨p1,p2⟩;have hx:(i:Int)<l.length→ratK (l.getD (i:Int).toNat rat0):=fun hi=>hk.2 _ (getD_mem (by omega))
 have e1:(i:Int).toNat=i:=Int.toNat_natCast i
 have hbad:∀e:Int,i<l.length→e≠0→ratE l i=e→ratsE l=e:=fun e h h1 h2=>by
  unfold ratsE;rw[if_neg (by omega)];exact firstAt_eq h p2 h1 h2
 conv=>whnf
 repeat' (first|(refine CallX.exact (s108 _ (hx (by omega))) rfl rfl ?_;rotate_right;conv=>whnf)|((first|(refine br_intro ?_ ?_<;>intro hb<;>try simp only[brs]at hb)|refine rAx hT 18 oJTaA69_18 ?_|omega|refine sAx ?_|decide|assumption)<;>conv=>whnf))
 · refine .ret _ ?_;conv=>whnf
   refine⟨[],⟨?_,rfl⟩,trivial⟩;conv=>lhs;whnf
   congr 2
   exact(hbad _ (by omega) (by decide) (by clear p2 hbad hk hx;simp only[e1]at*;unfold ratE;grind)).symm
 · refine .ret _ ?_;conv=>whnf
   refine⟨[],⟨?_,rfl⟩,trivial⟩;conv=>lhs;whnf
   congr 2
   exact(hbad _ (by omega) (by decide) (by clear p2 hbad hk hx;simp only[e1]at*;unfold ratE;grind)).symm
 · refine .ret _ ?_;conv=>whnf
   refine⟨[],⟨?_,rfl⟩,trivial⟩;conv=>lhs;whnf
   congr 2
   exact(hbad _ (by omega) (by decide) (by clear p2 hbad hk hx;simp only[e1]at*;unfold ratE;grind)).symm
 · refine .ret _ ?_;conv=>whnf
   refine⟨[],⟨?_,rfl⟩,trivial⟩;conv=>lhs;whnf
   congr 2
   exact(hbad _ (by omega) (by decide) (by clear p2 hbad hk hx;simp only[e1]at*;unfold ratE;grind)).symm
 · have hi:i<l.length:=by omega
   have hN:isKeyB (l.getD i rat0).cls=true∧0≤(l.getD i rat0).frm∧(l.getD i rat0).frm<(l.getD i rat0).to∧(l.getD i rat0).to≤4001:=by clear p2 hbad hk hx;simp only[e1]at*;grind
   have hR:ratE l i=if ¬nums (l.getD i rat0)then 1 else if 0<i∧(Op.bytesLess (l.getD i rat0).cls (l.getD (i - 1) rat0).cls=true∨((l.getD (i - 1) rat0).cls=(l.getD i rat0).cls∧(l.getD i rat0).frm≤(l.getD (i - 1) rat0).frm))then 7 else if 0<i∧(l.getD (i - 1) rat0).cls=(l.getD i rat0).cls∧(l.getD i rat0).frm<(l.getD (i - 1) rat0).to then 13 else 0:=by
    obtain⟨n1,n2,n3,n4⟩:=hN;unfold ratE;simp only;rw[if_neg (by rw[n1];simp)]
    by_cases hn:nums (l.getD i rat0)<;>simp only[hn,n2,n3,n4,and_true,and_false,true_and,not_true_eq_false,not_false_eq_true,if_true,if_false]
   obtain⟨X,hX⟩:∃X,X=l.getD (i:Int).toNat rat0:=⟨_,rfl⟩;have hX2:l.getD i rat0=X:=hX.symm;rw[hX2]at hN hR;refine LoopX.rule hT (C:= []) (ι:=Nat) (fun k=>k≤4∧∀j,j<k→numO (([X.hr,X.dy,X.we,X.wk]:List Int).getD j 0)) (fun k=>mkSt [(0,.d (rats l)),(3,.d (.int .i64 i)),(4,.ptr 4 0),(11,.d (rats l)),(12,.d (.int .i64 l.length)),(13,.d (.int .i64 i)),(47,.d (ints [X.hr,X.dy,X.we,X.wk])),(48,.d (.int .i64 4)),(49,.d (.int .i64 k))] [(4,.cells 168 ((ratF X).map .d))]) (fun k=>4 - k) 0 ⟨by omega,by omega⟩ (by subst hX;exact(by(refine Entails.mk' [(4,4)] rfl rfl ?_ ?_<;>repeat' (first|exact True.intro|exact lr|exact rr|(exact SV.le_lit rfl rfl)|exact SV.le_int (by omega)|exact SV.le_any _|refine And.intro ?_ ?_));done)) ?_;rintro k ⟨q1,q2⟩;have e2:(k:Int).toNat=k:=Int.toNat_natCast k;clear hx hk;conv=>whnf
   repeat' (first|(refine CallX.exact (s119 _ _ _) rfl rfl ?_;rotate_right;conv=>whnf)|(refine CallX.exact (s184 _ _) rfl rfl ?_;rotate_right;conv=>whnf)|(refine CallX.exact (s183 _ _) rfl rfl ?_;rotate_right;conv=>whnf)|((first|refine CallX.pure (s182 [_,_] (by simp)) ⟨SV.le_lit (by rfl) (by rfl),trivial⟩ rfl ?_|(refine br_intro ?_ ?_<;>intro hb<;>try simp only[brs]at hb)|refine rAx hT 18 oJTaA69_18 ?_|omega|refine sAx ?_|decide|assumption)<;>conv=>whnf))
   · refine .ret _ ?_;conv=>whnf
     refine⟨[],⟨?_,rfl⟩,trivial⟩;conv=>lhs;whnf
     congr 2
     refine(hbad _ hi (by decide) ?_).symm;rw[hR,if_pos];rintro⟨⟨n1,n2⟩,⟨n3,n4⟩,⟨n5,n6⟩,n7,n8⟩;have hk4:k=0∨k=1∨k=2∨k=3:=by omega
     rcases hk4 with rfl|rfl|rfl|rfl<;>(simp only[Int.toNat_natCast,List.getD_cons_zero,List.getD_cons_succ]at hb;omega)
   · exact⟨k+1,⟨by omega,all_step q2 hb⟩,by omega,(by exact eAx [(4,4)])⟩
   all_goals
    have hk4:k=4:=by omega
    subst hk4;have hn:nums X:=⟨q2 0 (by omega),q2 1 (by omega),q2 2 (by omega),q2 3 (by omega)⟩;rw[if_neg (fun h=>h hn)]at hR;clear q1 q2 e2 hN
    first
     |(refine⟨i+1,⟨by omega,first_step p2 (by rw[hR];clear p2 hbad hR hX hX2;simp only[e1,toNat_pred]at*;(try simp only[cmp2_ge,cmp2_lt]at*);grind)⟩,by omega,(by exact eAx [])⟩)
     | (refine .ret _ ?_
        conv=>whnf
        refine⟨[],⟨?_,rfl⟩,trivial⟩;conv=>lhs;whnf
        congr 2
        exact(hbad _ hi (by decide) (by rw[hR];clear p2 hbad hR hX hX2;simp only[e1,toNat_pred]at*;(try simp only[cmp2_ge,cmp2_lt]at*);grind)).symm)
 · refine .ret _ ?_;conv=>whnf
   refine⟨[],⟨?_,rfl⟩,trivial⟩;conv=>lhs;whnf
   congr 2
   have:i=l.length:=by omega
   subst this;unfold ratsE;rw[if_neg (by omega),firstAt_zero p2]
set_option maxHeartbeats 4000000 in
theorem y161 (l:List Rat)(hk:ratOk l):FSpec Tryz.prog 139 [.d (rats l)] [] (fun x r=>x= .d (.int .i64 (ratsE l))∧r= []):=by
 refine spec_of hT (C:= []) Tryz.func139 rfl Tryz.call139 rfl rfl rfl ?_;conv=>whnf
 refine br_intro (fun h0=> ?_) (fun h0=> ?_)
 · simp at h0;conv=>whnf
   refine .ret _ ?_;conv=>whnf
   refine⟨[],⟨?_,rfl⟩,trivial⟩;conv=>lhs;whnf
   unfold ratsE;rw[if_pos (by omega)]
 simp at h0;conv=>whnf
 refine LoopX.rule hT (C:= []) (ι:=Nat) (fun i=>i≤l.length∧∀j,j<i→ratE l j=0) (fun i=>mkSt [(0,.d (rats l)),(11,.d (rats l)),(12,.d (.int .i64 l.length)),(13,.d (.int .i64 i))] []) (fun i=>l.length - i) 0 ⟨by omega,by omega⟩ (by exact eAx []) ?_;rintro i ⟨p1,p2⟩;have hx:(i:Int)<l.length→ratK (l.getD (i:Int).toNat rat0):=fun hi=>hk.2 _ (getD_mem (by omega))
 have e1:(i:Int).toNat=i:=Int.toNat_natCast i
 have hbad:∀e:Int,i<l.length→e≠0→ratE l i=e→ratsE l=e:=fun e h h1 h2=>by
  unfold ratsE;rw[if_neg (by omega)];exact firstAt_eq h p2 h1 h2
 conv=>whnf
 repeat' (first|(refine CallX.exact (s21 _ (hx (by omega))) rfl rfl ?_;rotate_right;conv=>whnf)|((first|(refine br_intro ?_ ?_<;>intro hb<;>try simp only[brs]at hb)|refine rAx hT 6 oJTaA139_6 ?_|omega|refine sAx ?_|decide|assumption)<;>conv=>whnf))
 all_goals first
  |(refine⟨i+1,⟨by omega,first_step p2 (by clear p2 hbad hk hx;simp only[e1,toNat_pred]at*;unfold ratE nums numO;(try simp only[min4_lt,max4_gt]at*);grind)⟩,by omega,(by exact eAx [])⟩)
  | (refine .ret _ ?_
     conv=>whnf
     refine⟨[],⟨?_,rfl⟩,trivial⟩;conv=>lhs;whnf
     congr 2
     first
      |exact(hbad _ (by omega) (by decide) (by clear p2 hbad hk hx;simp only[e1,toNat_pred]at*;unfold ratE nums numO;(try simp only[min4_lt,max4_gt]at*);grind)).symm
      | (have:i=l.length:=by omega
         subst this
         unfold ratsE;rw[if_neg (by omega),firstAt_zero p2]))
def oJTaB92_8:OL:= [(0,[]),(1,[]),(2,[]),(3,[]),(4,[]),(5,[3,4]),(6,[3,4,5]),(7,[3,4,5]),(8,[3,4]),(9,[3,4]),(10,[3,4]),(11,[]),(12,[]),(13,[])]
def oJTaB93_10:OL:= [(0,[]),(1,[]),(2,[]),(3,[]),(4,[3]),(5,[3]),(6,[]),(7,[]),(8,[]),(9,[3,4,5,6,7,8]),(10,[3,4,5,6,7,8]),(12,[3,4,5,6,7,8,9,10]),(13,[3,4,5,6,7,8,9,10,12]),(14,[3,4,5,6,7,8,9,10,12]),(15,[3,4,5,6,7,8,9,10]),(16,[3,4,5,6,7,8,9,10]),(17,[3,4,5,6,7,8,9,10]),(18,[3,4,5,6,7,8,9,10,12,13,14,15,16,17]),(19,[3,4,5,6,7,8,9,10,12,13,14,15,16,17]),(11,[12,13,14,15,16,17,18,19]),(20,[]),(21,[]),(22,[]),(23,[]),(24,[]),(25,[])]
def oJTaB141_10:OL:= [(0,[]),(1,[]),(2,[]),(3,[]),(4,[]),(5,[3,4]),(6,[3,4,5]),(7,[3,4,5]),(8,[3,4]),(9,[3,4]),(10,[3,4]),(11,[]),(12,[]),(13,[]),(14,[]),(15,[13,14]),(16,[13,14,15]),(17,[13,14,15]),(18,[13,14]),(19,[13,14]),(20,[13,14]),(21,[]),(22,[]),(23,[]),(24,[]),(25,[23,24]),(26,[23,24,25]),(27,[23,24,25]),(28,[23,24]),(29,[23,24]),(30,[23,24]),(31,[]),(32,[]),(33,[]),(34,[]),(35,[])]
def oJTaB94_8:OL:= [(0,[]),(1,[]),(2,[]),(3,[]),(4,[]),(5,[3,4]),(6,[3,4,5]),(7,[3,4,5]),(8,[3,4]),(9,[3,4]),(10,[3,4]),(11,[]),(12,[]),(13,[])]
structure Ext where
 key:List UInt8
 once:Int
 dy:Int
 most:Int
def extF (x:Ext):List DV:= [.str x.key,.int .i64 x.once,.int .i64 x.dy,.int .i64 x.most]
def ext0:Ext:=⟨[],0,0,0⟩
abbrev exts (l:List Ext):DV:=seqD 4 extF ext0 l
def extE (l:List Ext)(i:Nat):Int:=
 let x:=l.getD i ext0
 if isKeyB x.key=false then 5 else if 0<i∧strLe x.key (l.getD (i - 1) ext0).key=true then 7 else if ¬ ((0≤x.once∧x.once≤1000000)∧(0≤x.dy∧x.dy≤1000000)∧(-1≤x.most∧x.most≤1000000))then 1 else 0
def extsE (l:List Ext):Int:=if 30<l.length then 2 else firstAt (extE l) l.length
def extK (x:Ext):Prop:=x.key.length≤2^40
def extOk (l:List Ext):Prop:=l.length≤2^40∧∀x ∈ l,extK x
set_option maxHeartbeats 2000000 in
theorem y150 (l:List Ext)(hk:extOk l):FSpec Tryz.prog 92 [.d (exts l)] [] (fun x r=>x= .d (.int .i64 (extsE l))∧r= []):=by
 refine spec_of hT (C:= []) Tryz.func92 rfl Tryz.call92 rfl rfl rfl ?_;conv=>whnf
 refine br_intro (fun h0=> ?_) (fun h0=> ?_)
 · simp at h0;conv=>whnf
   refine .ret _ ?_;conv=>whnf
   refine⟨[],⟨?_,rfl⟩,trivial⟩;conv=>lhs;whnf
   unfold extsE;rw[if_pos (by omega)]
 simp at h0;conv=>whnf
 refine LoopX.rule hT (C:= []) (ι:=Nat) (fun i=>i≤l.length∧∀j,j<i→extE l j=0) (fun i=>mkSt [(0,.d (exts l)),(8,.d (exts l)),(9,.d (.int .i64 l.length)),(10,.d (.int .i64 i))] []) (fun i=>l.length - i) 0 ⟨by omega,by omega⟩ (by exact eAx []) ?_;rintro i ⟨p1,p2⟩;have hx:(i:Int)<l.length→extK (l.getD (i:Int).toNat ext0):=fun hi=>hk.2 _ (getD_mem (by omega))
 have e1:(i:Int).toNat=i:=Int.toNat_natCast i
 have hbad:∀e:Int,i<l.length→e≠0→extE l i=e→extsE l=e:=fun e h h1 h2=>by
  unfold extsE;rw[if_neg (by omega)];exact firstAt_eq h p2 h1 h2
 conv=>whnf
 repeat' (first|(refine CallX.exact (s108 _ (hx (by omega))) rfl rfl ?_;rotate_right;conv=>whnf)|(refine CallX.exact (s119 _ _ _) rfl rfl ?_;rotate_right;conv=>whnf)|((first|(refine br_intro ?_ ?_<;>intro hb<;>try simp only[brs]at hb)|refine rAx hT 8 oJTaB92_8 ?_|omega|refine sAx ?_|decide|assumption)<;>conv=>whnf))
 all_goals first
  |(refine⟨i+1,⟨by omega,first_step p2 (by clear p2 hbad hk hx;simp only[e1,toNat_pred]at*;unfold extE strLe;grind)⟩,by omega,(by exact eAx [])⟩)
  | (refine .ret _ ?_
     conv=>whnf
     refine⟨[],⟨?_,rfl⟩,trivial⟩;conv=>lhs;whnf
     congr 2
     first
      |exact(hbad _ (by omega) (by decide) (by clear p2 hbad hk hx;simp only[e1,toNat_pred]at*;unfold extE strLe;grind)).symm
      | (have:i=l.length:=by omega
         subst this
         unfold extsE;rw[if_neg (by omega),firstAt_zero p2]))
set_option maxHeartbeats 2000000 in
theorem y162 (l:List Ext)(hk:extOk l):FSpec Tryz.prog 140 [.d (exts l)] [] (fun x r=>x= .d (.int .i64 (extsE l))∧r= []):=by
 refine spec_of hT (C:= []) Tryz.func140 rfl Tryz.call140 rfl rfl rfl ?_;conv=>whnf
 refine br_intro (fun h0=> ?_) (fun h0=> ?_)
 · simp at h0;conv=>whnf
   refine .ret _ ?_;conv=>whnf
   refine⟨[],⟨?_,rfl⟩,trivial⟩;conv=>lhs;whnf
   unfold extsE;rw[if_pos (by omega)]
 simp at h0;conv=>whnf
 refine LoopX.rule hT (C:= []) (ι:=Nat) (fun i=>i≤l.length∧∀j,j<i→extE l j=0) (fun i=>mkSt [(3,.d (.str (if i=0 then []else(l.getD (i - 1) ext0).key))),(9,.d (exts l)),(10,.d (.int .i64 l.length)),(11,.d (.int .i64 i))] []) (fun i=>l.length - i) 0 ⟨by omega,by omega⟩ (by exact eAx []) ?_;rintro i ⟨p1,p2⟩;have hx:(i:Int)<l.length→extK (l.getD (i:Int).toNat ext0):=fun hi=>hk.2 _ (getD_mem (by omega))
 have e1:(i:Int).toNat=i:=Int.toNat_natCast i
 have hbad:∀e:Int,i<l.length→e≠0→extE l i=e→extsE l=e:=fun e h h1 h2=>by
  unfold extsE;rw[if_neg (by omega)];exact firstAt_eq h p2 h1 h2
 conv=>whnf
 repeat' (first|(refine CallX.exact (s21 _ (hx (by omega))) rfl rfl ?_;rotate_right;conv=>whnf)|(refine CallX.exact (s110 _ _ _) rfl rfl ?_;rotate_right;conv=>whnf)|((first|(refine br_intro ?_ ?_<;>intro hb<;>try simp only[brs]at hb)|omega|refine sAx ?_|decide|assumption)<;>conv=>whnf))
 all_goals first
  |(refine⟨i+1,⟨by omega,first_step p2 (by clear p2 hbad hk hx;simp only[e1]at*;unfold extE strLe;grind)⟩,by omega,Entails.mk' [] rfl rfl ⟨(by rw[show(if i+1=0 then([]:List UInt8)else(l.getD (i+1 - 1) ext0).key)=(l.getD (i:Int).toNat ext0).key from by rw[if_neg (by omega),e1,Nat.add_sub_cancel]];exact lr),lr,lr,lr,trivial⟩ trivial⟩)
  | (refine .ret _ ?_
     conv=>whnf
     refine⟨[],⟨?_,rfl⟩,trivial⟩;conv=>lhs;whnf
     congr 2
     first
      |exact(hbad _ (by omega) (by decide) (by clear p2 hbad hk hx;simp only[e1]at*;unfold extE strLe;grind [isKey_nil,less_nil])).symm
      | (have:i=l.length:=by omega
         subst this
         unfold extsE;rw[if_neg (by omega),firstAt_zero p2]))
structure Fe where
 a:List UInt8
 b:List UInt8
 cents:Int
def feF (x:Fe):List DV:= [.str x.a,.str x.b,.int .i64 x.cents]
def fe0:Fe:=⟨[],[],0⟩
abbrev fes (l:List Fe):DV:=seqD 3 feF fe0 l
def feE (l:List Fe)(i:Nat):Int:=
 let x:=l.getD i fe0
 let q:=l.getD (i - 1) fe0
 if isKeyB x.a=false∨isKeyB x.b=false then 5 else if x.a=x.b then 14 else if 0<i∧(Op.bytesLess x.a q.a=true∨(q.a=x.a∧strLe x.b q.b=true))then 7 else if ¬ (0≤x.cents∧x.cents≤1000000)then 1 else 0
def fesE (l:List Fe):Int:=if 500<l.length then 2 else firstAt (feE l) l.length
def feK (x:Fe):Prop:=x.a.length≤2^40∧x.b.length≤2^40
def feOk (l:List Fe):Prop:=l.length≤2^40∧∀x ∈ l,feK x
set_option maxHeartbeats 2000000 in
theorem y151 (l:List Fe)(hk:feOk l):FSpec Tryz.prog 93 [.d (fes l)] [] (fun x r=>x= .d (.int .i64 (fesE l))∧r= []):=by
 refine spec_of hT (C:= []) Tryz.func93 rfl Tryz.call93 rfl rfl rfl ?_;conv=>whnf
 refine br_intro (fun h0=> ?_) (fun h0=> ?_)
 · simp at h0;conv=>whnf
   refine .ret _ ?_;conv=>whnf
   refine⟨[],⟨?_,rfl⟩,trivial⟩;conv=>lhs;whnf
   unfold fesE;rw[if_pos (by omega)]
 simp at h0;conv=>whnf
 refine LoopX.rule hT (C:= []) (ι:=Nat) (fun i=>i≤l.length∧∀j,j<i→feE l j=0) (fun i=>mkSt [(0,.d (fes l)),(8,.d (fes l)),(9,.d (.int .i64 l.length)),(10,.d (.int .i64 i))] []) (fun i=>l.length - i) 0 ⟨by omega,by omega⟩ (by exact eAx []) ?_;rintro i ⟨p1,p2⟩;have hx:(i:Int)<l.length→feK (l.getD (i:Int).toNat fe0):=fun hi=>hk.2 _ (getD_mem (by omega))
 have e1:(i:Int).toNat=i:=Int.toNat_natCast i
 have hbad:∀e:Int,i<l.length→e≠0→feE l i=e→fesE l=e:=fun e h h1 h2=>by
  unfold fesE;rw[if_neg (by omega)];exact firstAt_eq h p2 h1 h2
 conv=>whnf
 repeat' (first|(refine CallX.exact (s108 _ (hx (by omega)).1) rfl rfl ?_;rotate_right;conv=>whnf)|(refine CallX.exact (s108 _ (hx (by omega)).2) rfl rfl ?_;rotate_right;conv=>whnf)|(refine CallX.exact (s119 _ _ _) rfl rfl ?_;rotate_right;conv=>whnf)|(refine CallX.exact (s184 _ _) rfl rfl ?_;rotate_right;conv=>whnf)|((first|refine CallX.pure (s182 [_,_] (by simp)) ⟨SV.le_lit (by rfl) (by rfl),trivial⟩ rfl ?_|(refine br_intro ?_ ?_<;>intro hb<;>try simp only[brs]at hb)|refine rAx hT 10 oJTaB93_10 ?_|omega|refine sAx ?_|decide|assumption)<;>conv=>whnf))
 all_goals first
  |(refine⟨i+1,⟨by omega,first_step p2 (by clear p2 hbad hk hx;simp only[e1,toNat_pred]at*;unfold feE;(try simp only[cmp2s_ge,cmp2s_lt]at*);grind)⟩,by omega,(by exact eAx [])⟩)
  | (refine .ret _ ?_
     conv=>whnf
     refine⟨[],⟨?_,rfl⟩,trivial⟩;conv=>lhs;whnf
     congr 2
     first
      |exact(hbad _ (by omega) (by decide) (by clear p2 hbad hk hx;simp only[e1,toNat_pred]at*;unfold feE;(try simp only[cmp2s_ge,cmp2s_lt]at*);grind)).symm
      | (have:i=l.length:=by omega
         subst this
         unfold fesE;rw[if_neg (by omega),firstAt_zero p2]))
set_option maxHeartbeats 2000000 in
theorem y163 (l:List Fe)(hk:feOk l):FSpec Tryz.prog 141 [.d (fes l)] [] (fun x r=>x= .d (.int .i64 (fesE l))∧r= []):=by
 refine spec_of hT (C:= []) Tryz.func141 rfl Tryz.call141 rfl rfl rfl ?_;conv=>whnf
 refine br_intro (fun h0=> ?_) (fun h0=> ?_)
 · simp at h0;conv=>whnf
   refine .ret _ ?_;conv=>whnf
   refine⟨[],⟨?_,rfl⟩,trivial⟩;conv=>lhs;whnf
   unfold fesE;rw[if_pos (by omega)]
 simp at h0;conv=>whnf
 refine LoopX.rule hT (C:= []) (ι:=Nat) (fun i=>i≤l.length∧∀j,j<i→feE l j=0) (fun i=>mkSt [(0,.d (fes l)),(8,.d (fes l)),(9,.d (.int .i64 l.length)),(10,.d (.int .i64 i))] []) (fun i=>l.length - i) 0 ⟨by omega,by omega⟩ (by exact eAx []) ?_;rintro i ⟨p1,p2⟩;have hx:(i:Int)<l.length→feK (l.getD (i:Int).toNat fe0):=fun hi=>hk.2 _ (getD_mem (by omega))
 have e1:(i:Int).toNat=i:=Int.toNat_natCast i
 have hbad:∀e:Int,i<l.length→e≠0→feE l i=e→fesE l=e:=fun e h h1 h2=>by
  unfold fesE;rw[if_neg (by omega)];exact firstAt_eq h p2 h1 h2
 conv=>whnf
 repeat' (first|(refine CallX.exact (s21 _ (hx (by omega)).1) rfl rfl ?_;rotate_right;conv=>whnf)|(refine CallX.exact (s21 _ (hx (by omega)).2) rfl rfl ?_;rotate_right;conv=>whnf)|(refine CallX.exact (s110 _ _ _) rfl rfl ?_;rotate_right;conv=>whnf)|((first|(refine br_intro ?_ ?_<;>intro hb<;>try simp only[brs]at hb)|refine rAx hT 10 oJTaB141_10 ?_|omega|refine sAx ?_|decide|assumption)<;>conv=>whnf))
 all_goals first
  |(refine⟨i+1,⟨by omega,first_step p2 (by clear p2 hbad hk hx;simp only[e1,toNat_pred]at*;unfold feE strLe;grind)⟩,by omega,(by exact eAx [])⟩)
  | (refine .ret _ ?_
     conv=>whnf
     refine⟨[],⟨?_,rfl⟩,trivial⟩;conv=>lhs;whnf
     congr 2
     first
      |exact(hbad _ (by omega) (by decide) (by clear p2 hbad hk hx;simp only[e1,toNat_pred]at*;unfold feE strLe;grind)).symm
      | (have:i=l.length:=by omega
         subst this
         unfold fesE;rw[if_neg (by omega),firstAt_zero p2]))
structure Cod where
 key:List UInt8
 cls:List UInt8
 frm:Int
 to:Int
 days:Int
 per:Int
def codF (x:Cod):List DV:= [.str x.key,.str x.cls,.int .i64 x.frm,.int .i64 x.to,.int .i64 x.days,.int .i64 x.per]
def cod0:Cod:=⟨[],[],0,0,0,0⟩
abbrev cods (l:List Cod):DV:=seqD 6 codF cod0 l
def codE (l:List Cod)(i:Nat):Int:=
 let x:=l.getD i cod0
 if isKeyB x.key=false then 5 else if 0<i∧strLe x.key (l.getD (i - 1) cod0).key=true then 7 else if x.cls≠ []∧isKeyB x.cls=false then 5 else if ¬ ((0≤x.frm∧x.frm≤x.to)∧x.to≤4001∧(1≤x.days∧x.days≤120)∧(1≤x.per∧x.per≤1000))then 1 else 0
def codsE (l:List Cod):Int:=if 50<l.length then 2 else firstAt (codE l) l.length
def codK (x:Cod):Prop:=x.key.length≤2^40∧x.cls.length≤2^40
def codOk (l:List Cod):Prop:=l.length≤2^40∧∀x ∈ l,codK x
set_option maxHeartbeats 2000000 in
theorem y152 (l:List Cod)(hk:codOk l):FSpec Tryz.prog 94 [.d (cods l)] [] (fun x r=>x= .d (.int .i64 (codsE l))∧r= []):=by
 refine spec_of hT (C:= []) Tryz.func94 rfl Tryz.call94 rfl rfl rfl ?_;conv=>whnf
 refine br_intro (fun h0=> ?_) (fun h0=> ?_)
 · simp at h0;conv=>whnf
   refine .ret _ ?_;conv=>whnf
   refine⟨[],⟨?_,rfl⟩,trivial⟩;conv=>lhs;whnf
   unfold codsE;rw[if_pos (by omega)]
 simp at h0;conv=>whnf
 refine LoopX.rule hT (C:= []) (ι:=Nat) (fun i=>i≤l.length∧∀j,j<i→codE l j=0) (fun i=>mkSt [(0,.d (cods l)),(8,.d (cods l)),(9,.d (.int .i64 l.length)),(10,.d (.int .i64 i))] []) (fun i=>l.length - i) 0 ⟨by omega,by omega⟩ (by exact eAx []) ?_;rintro i ⟨p1,p2⟩;have hx:(i:Int)<l.length→codK (l.getD (i:Int).toNat cod0):=fun hi=>hk.2 _ (getD_mem (by omega))
 have e1:(i:Int).toNat=i:=Int.toNat_natCast i
 have hbad:∀e:Int,i<l.length→e≠0→codE l i=e→codsE l=e:=fun e h h1 h2=>by
  unfold codsE;rw[if_neg (by omega)];exact firstAt_eq h p2 h1 h2
 conv=>whnf
 repeat' (first|(refine CallX.exact (s108 _ (hx (by omega)).1) rfl rfl ?_;rotate_right;conv=>whnf)|(refine CallX.exact (s108 _ (hx (by omega)).2) rfl rfl ?_;rotate_right;conv=>whnf)|(refine CallX.exact (s119 _ _ _) rfl rfl ?_;rotate_right;conv=>whnf)|((first|(refine br_intro ?_ ?_<;>intro hb<;>try simp only[brs]at hb)|refine rAx hT 8 oJTaB94_8 ?_|omega|refine sAx ?_|decide|assumption)<;>conv=>whnf))
 all_goals first
  |(refine⟨i+1,⟨by omega,first_step p2 (by clear p2 hbad hk hx;simp only[e1,toNat_pred]at*;unfold codE strLe;grind)⟩,by omega,(by exact eAx [])⟩)
  | (refine .ret _ ?_
     conv=>whnf
     refine⟨[],⟨?_,rfl⟩,trivial⟩;conv=>lhs;whnf
     congr 2
     first
      |exact(hbad _ (by omega) (by decide) (by clear p2 hbad hk hx;simp only[e1,toNat_pred]at*;unfold codE strLe;grind)).symm
      | (have:i=l.length:=by omega
         subst this
         unfold codsE;rw[if_neg (by omega),firstAt_zero p2]))
set_option maxHeartbeats 2000000 in
theorem y164 (l:List Cod)(hk:codOk l):FSpec Tryz.prog 142 [.d (cods l)] [] (fun x r=>x= .d (.int .i64 (codsE l))∧r= []):=by
 refine spec_of hT (C:= []) Tryz.func142 rfl Tryz.call142 rfl rfl rfl ?_;conv=>whnf
 refine br_intro (fun h0=> ?_) (fun h0=> ?_)
 · simp at h0;conv=>whnf
   refine .ret _ ?_;conv=>whnf
   refine⟨[],⟨?_,rfl⟩,trivial⟩;conv=>lhs;whnf
   unfold codsE;rw[if_pos (by omega)]
 simp at h0;conv=>whnf
 refine LoopX.rule hT (C:= []) (ι:=Nat) (fun i=>i≤l.length∧∀j,j<i→codE l j=0) (fun i=>mkSt [(3,.d (.str (if i=0 then []else(l.getD (i - 1) cod0).key))),(9,.d (cods l)),(10,.d (.int .i64 l.length)),(11,.d (.int .i64 i))] []) (fun i=>l.length - i) 0 ⟨by omega,by omega⟩ (by exact eAx []) ?_;rintro i ⟨p1,p2⟩;have hx:(i:Int)<l.length→codK (l.getD (i:Int).toNat cod0):=fun hi=>hk.2 _ (getD_mem (by omega))
 have e1:(i:Int).toNat=i:=Int.toNat_natCast i
 have hbad:∀e:Int,i<l.length→e≠0→codE l i=e→codsE l=e:=fun e h h1 h2=>by
  unfold codsE;rw[if_neg (by omega)];exact firstAt_eq h p2 h1 h2
 conv=>whnf
 repeat' (first|(refine CallX.exact (s21 _ (hx (by omega)).1) rfl rfl ?_;rotate_right;conv=>whnf)|(refine CallX.exact (s21 _ (hx (by omega)).2) rfl rfl ?_;rotate_right;conv=>whnf)|(refine CallX.exact (s110 _ _ _) rfl rfl ?_;rotate_right;conv=>whnf)|((first|(refine br_intro ?_ ?_<;>intro hb<;>try simp only[brs]at hb)|omega|refine sAx ?_|decide|assumption)<;>conv=>whnf))
 all_goals first
  |(refine⟨i+1,⟨by omega,first_step p2 (by clear p2 hbad hk hx;simp only[e1]at*;unfold codE strLe;grind)⟩,by omega,Entails.mk' [] rfl rfl ⟨(by rw[show(if i+1=0 then([]:List UInt8)else(l.getD (i+1 - 1) cod0).key)=(l.getD (i:Int).toNat cod0).key from by rw[if_neg (by omega),e1,Nat.add_sub_cancel]];exact lr),lr,lr,lr,trivial⟩ trivial⟩)
  | (refine .ret _ ?_
     conv=>whnf
     refine⟨[],⟨?_,rfl⟩,trivial⟩;conv=>lhs;whnf
     congr 2
     first
      |exact(hbad _ (by omega) (by decide) (by clear p2 hbad hk hx;simp only[e1]at*;unfold codE strLe;grind [isKey_nil,less_nil])).symm
      | (have:i=l.length:=by omega
         subst this
         unfold codsE;rw[if_neg (by omega),firstAt_zero p2]))
end Go.Proofs.YtkokpbpililcdaaGreatDoor
