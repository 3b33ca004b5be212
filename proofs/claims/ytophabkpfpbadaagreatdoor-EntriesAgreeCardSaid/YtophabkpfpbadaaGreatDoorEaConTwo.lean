/- EntriesAgree is proved: for every input the law returns true, and its argument reads afterwards as it read before. Conditions: those of the given row alone. -/
import Derived.Test.YtophabkpfpbadaaGreatDoorEaConOne
import Derived.Test.YtophabkpfpbadaaGreatDoorProg
import Derived.Test.YtophabkpfpbadaaGreatDoorEaEngTwo
set_option linter.unusedVariables false
set_option linter.unusedSimpArgs false
set_option maxRecDepth 20000
namespace Go.Proofs.YtophabkpfpbadaaGreatDoor
open Go Go.Eng
def ixF (p:Nat→Bool):Nat→Int
 |0=> -1
 |n+1=>if ixF p n= -1 then(if p n=true then n else -1)else ixF p n
theorem ixF_none {p:Nat→Bool}:∀ {n:Nat},(∀j,j<n→p j=false)→ixF p n= -1:=by
 intro n
 induction n with
 |zero=>intro _;rfl
 |succ n ih=>intro h;rw[ixF,if_pos (ih fun j hj=>h j (by omega)),h n (by omega)];rfl
theorem ixF_hit {p:Nat→Bool}{n i:Nat}(hi:i<n)(h:∀j,j<i→p j=false)(h1:p i=true):ixF p n=i:=by
 induction n with
 |zero=>omega
 | succ n ih=>
   rw[ixF]
   by_cases q:i<n
   · rw[ih q,if_neg (by omega)]
   · have:i=n:=by omega
     subst this;rw[if_pos (ixF_none h),if_pos h1]
theorem ixF_bd {p:Nat→Bool}:∀ {n:Nat},-1≤ixF p n∧ixF p n<n∧(0≤ixF p n→p (ixF p n).toNat=true):=by
 intro n
 induction n with
 |zero=>simp[ixF]
 | succ n ih=>
   rw[ixF];split
   · split
     · rename_i h;exact⟨by omega,by omega,fun _=>by simpa using h⟩
     · exact⟨by omega,by omega,fun h=>by omega⟩
   · exact⟨ih.1,by omega,ih.2.2⟩
theorem s154 (n:Int):FSpec Tryz.prog 80 [.d (.int .i64 n)] [] (fun x r=>x= .d (.bool (decide (0≤n∧n≤5761439)))∧r= []):=by
 refine spec_of hT (C:= []) Tryz.func80 rfl Tryz.call80 rfl rfl rfl ?_;conv=>whnf
 repeat' (first|(refine CallX.exact (s119 _ _ _) rfl rfl ?_;rotate_right;conv=>whnf)|((first|(refine br_intro ?_ ?_<;>intro hb<;>try simp only[brs]at hb)|omega|refine sAx ?_|decide|assumption)<;>conv=>whnf))
 refine .ret _ ?_;conv=>whnf
 refine⟨[],⟨?_,rfl⟩,trivial⟩;conv=>lhs;whnf
structure Chg where
 hire:List UInt8
 vehicle:List UInt8
 pas:Int
 cents:Int
structure Lin where
 kind:Int
 key:List UInt8
 cents:Int
deriving DecidableEq
theorem mem_len {l:List (List UInt8)}{u:List UInt8}(h:u ∈ l)(q:l.all (fun x=>decide (x.length≤8))=true):u.length≤8:=by
 have:=List.all_eq_true.1 q u h;exact of_decide_eq_true this
theorem s133 (n:Int):FSpec Tryz.prog 106 [.d (.int .i64 n)] [] (fun x r=>x= .d (.bool (decide (0≤n∧n≤5761439)))∧r= []):=by
 refine spec_of hT (C:= []) Tryz.func106 rfl Tryz.call106 rfl rfl rfl ?_;conv=>whnf
 repeat' (first|(refine CallX.exact (s110 _ _ _) rfl rfl ?_;rotate_right;conv=>whnf)|((first|(refine br_intro ?_ ?_<;>intro hb<;>try simp only[brs]at hb)|omega|refine sAx ?_|decide|assumption)<;>conv=>whnf))
 refine .ret _ ?_;conv=>whnf
 refine⟨[],⟨?_,rfl⟩,trivial⟩;conv=>lhs;whnf
theorem isKey_nil:isKeyB []=false:=by decide
theorem less_nil (a:List UInt8):Op.bytesLess a []=false:=by cases a<;>rfl
def oQHiA180_1:OL:= [(0,[]),(1,[]),(3,[0,1]),(4,[0,1]),(8,[0,1,3,4]),(9,[0,1,3,4]),(2,[3,4,8,9]),(5,[8,9]),(6,[8,9]),(7,[8,9]),(10,[]),(11,[]),(12,[]),(13,[]),(14,[]),(15,[]),(16,[]),(17,[]),(18,[]),(19,[]),(20,[]),(21,[])]
def oQHiA137_2:OL:= [(0,[]),(1,[]),(5,[0,1]),(6,[0,1]),(2,[5,6]),(3,[5,6]),(4,[5,6]),(7,[]),(8,[]),(9,[]),(10,[])]
def oQHiA137_16:OL:= [(0,[]),(1,[]),(2,[0,1]),(3,[]),(5,rg 4),(6,[0,1,2,3,5]),(7,[0,1,2,3,5]),(8,[0,1,2,3,5]),(9,[0,1,2,3,5]),(10,rg 4),(4,[5,6,7,8,9,10]),(11,[]),(12,[]),(13,[]),(14,[])]
def oQHiA137_17:OL:= [(0,[]),(1,[]),(3,[0,1]),(4,[0,1]),(5,[0,1]),(6,[0,1,3,4,5]),(7,[0,1,3,4,5]),(8,[0,1,3,4,5]),(9,[0,1]),(2,[3,4,5,6,7,8,9]),(10,[]),(11,[]),(12,[]),(13,[])]
def oQHiA90_1:OL:= [(0,[]),(1,[]),(11,[0,1]),(12,[0,1]),(2,[11,12]),(3,[11,12]),(4,[11,12]),(5,[11,12]),(6,[11,12]),(7,[11,12]),(8,[11,12]),(9,[11,12]),(10,[11,12]),(13,[]),(14,[]),(15,[]),(16,[])]
def oQHiA51_6:OL:= [(0,[]),(2,[0]),(3,[0]),(1,[2,3]),(4,[]),(5,[]),(6,[]),(7,[5,6]),(8,[5,6,7]),(9,[5,6,7]),(10,[5,6,7]),(11,[5,6]),(12,[5,6]),(13,[5,6]),(14,[]),(15,[]),(16,[]),(17,[]),(18,[]),(19,[])]
structure Rdg where
 tm:Int
 st:List UInt8
 meter:Int
 fuel:Int
def rgF:Rdg→List DV:=fun r=> [.int .i64 r.tm,.str r.st,.int .i64 r.meter,.int .i64 r.fuel]
structure Leg where
 veh:List UInt8
 out:Rdg
 inn:Rdg
def lgF:Leg→List DV:=fun x=> [.str x.veh,.int .i64 x.out.tm,.str x.out.st,.int .i64 x.out.meter,.int .i64 x.out.fuel,.int .i64 x.inn.tm,.str x.inn.st,.int .i64 x.inn.meter,.int .i64 x.inn.fuel]
def rg0:Rdg:=⟨0,[],0,0⟩
def lg0:Leg:=⟨[],rg0,rg0⟩
abbrev legs (l:List Leg):DV:=seqD 9 lgF lg0 l
structure Hir where
 key:List UInt8
 drv:List UInt8
 frm:Int
 to:Int
 legs:List Leg
def hiF:Hir→List DV:=fun h=> [.str h.key,.str h.drv,.int .i64 h.frm,.int .i64 h.to,Go.Proofs.YtophabkpfpbadaaGreatDoor.legs h.legs]
def hi0:Hir:=⟨[],[],0,0,[]⟩
abbrev hirs (l:List Hir):DV:=seqD 5 hiF hi0 l
abbrev hcell (h:Hir):Res:=.cells 146 [.d (.str h.key),.d (.str h.drv),.d (.int .i64 h.frm),.d (.int .i64 h.to),.d (Go.Proofs.YtophabkpfpbadaaGreatDoor.legs h.legs)]
def lgK (x:Leg):Prop:=x.veh.length≤2^40∧x.out.st.length≤2^40∧x.inn.st.length≤2^40
def hiK (h:Hir):Prop:=h.key.length≤2^40∧h.drv.length≤2^40∧h.legs.length≤2^40∧∀x ∈ h.legs,lgK x
def hiOk (l:List Hir):Prop:=l.length≤2^40∧∀h ∈ l,hiK h
def rdgE (r:Rdg):Int:=if ¬ (0≤r.tm∧r.tm≤5761439)then 1 else if isKeyB r.st=false then 5 else if ¬ ((0≤r.meter∧r.meter≤999999)∧(0≤r.fuel∧r.fuel≤8))then 1 else 0
def timE (a b:Int):Int:=if a<0∨b≤a∨5761439<b then 1 else if 172800<b - a then 2 else 0
def legE (h:Hir)(i:Nat):Int:=
 if isKeyB (h.legs.getD i lg0).veh=false then 5
 else if rdgE (h.legs.getD i lg0).out≠0 then rdgE (h.legs.getD i lg0).out
 else if i=0∧(h.legs.getD i lg0).out.tm≠h.frm then 7
 else if 0<i∧(h.legs.getD i lg0).out.tm≠(h.legs.getD (i - 1) lg0).inn.tm then 7
 else if 0<i∧(h.legs.getD i lg0).veh=(h.legs.getD (i - 1) lg0).veh then 16
 else if 0<i∧(h.legs.getD i lg0).out.st≠(h.legs.getD (i - 1) lg0).inn.st then 8
 else if(h.legs.getD i lg0).inn.tm= -1 then(if ¬ ((h.legs.getD i lg0).inn.st= []∧(h.legs.getD i lg0).inn.meter=0∧(h.legs.getD i lg0).inn.fuel=0)then 3 else if(i:Int)<(h.legs.length:Int) - 1 then 11 else 0)
 else if rdgE (h.legs.getD i lg0).inn≠0 then rdgE (h.legs.getD i lg0).inn
 else if(h.legs.getD i lg0).inn.tm≤(h.legs.getD i lg0).out.tm then 7 else 0
def hirE (h:Hir):Int:=
 if isKeyB h.key=false∨isKeyB h.drv=false then 5 else if timE h.frm h.to≠0 then timE h.frm h.to
 else if h.legs.length=0 then 3 else if 20<h.legs.length then 2 else firstAt (legE h) h.legs.length
def hirsE1 (l:List Hir)(i:Nat):Int:=if hirE (l.getD i hi0)≠0 then hirE (l.getD i hi0)else if 0<i∧strLe (l.getD i hi0).key (l.getD (i - 1) hi0).key=true then 7 else 0
def hirsE (l:List Hir):Int:=if 500<l.length then 2 else firstAt (hirsE1 l) l.length
theorem z220 (n:Int):FSpec Tryz.prog 74 [.d (.int .i64 n)] [] (fun x o=>x= .d (.int .i64 (if 0≤n∧n≤5761439 then 0 else 1))∧o= []):=by
 refine spec_of hT (C:= []) Tryz.func74 rfl Tryz.call74 rfl rfl rfl ?_;conv=>whnf
 repeat' (first|(refine CallX.exact (s154 _) rfl rfl ?_;rotate_right;conv=>whnf)|(refine CallX.exact (s107 _ _) rfl rfl ?_;rotate_right;conv=>whnf)|((first|(refine br_intro ?_ ?_<;>intro hb<;>try simp only[brs]at hb)|omega|refine sAx ?_|decide|assumption)<;>conv=>whnf))
 refine .ret _ ?_;conv=>whnf
 refine⟨[],⟨?_,rfl⟩,trivial⟩;conv=>lhs;whnf
 congr 2
 grind
theorem z312 (r:Rdg)(h:r.st.length≤2^40):FSpec Tryz.prog 180 [.agg ((rgF r).map .d)] [] (fun x o=>x= .d (.int .i64 (rdgE r))∧o= []):=by
 refine spec_of hT (C:= []) Tryz.func180 rfl Tryz.call180 rfl rfl rfl ?_;conv=>whnf
 repeat' (first|(refine CallX.exact (z220 _) rfl rfl ?_;rotate_right;conv=>whnf)|(refine CallX.exact (s108 _ h) rfl rfl ?_;rotate_right;conv=>whnf)|(refine CallX.exact (s119 _ _ _) rfl rfl ?_;rotate_right;conv=>whnf)|(refine CallX.exact (s107 _ _) rfl rfl ?_;rotate_right;conv=>whnf)|((first|refine CallX.pure (s105 [_,_,_] (by simp)) ⟨SV.le_lit (by rfl) (by rfl),trivial⟩ rfl ?_|(refine br_intro ?_ ?_<;>intro hb<;>try simp only[brs]at hb)|refine rAx hT 1 oQHiA180_1 ?_|omega|refine sAx ?_|decide|assumption)<;>conv=>whnf))
 all_goals
  refine .ret _ ?_;conv=>whnf
  refine⟨[],⟨?_,rfl⟩,trivial⟩;conv=>lhs;whnf
  congr 2
  unfold rdgE;simp only[firstE];grind
def daysW (a b:Int):Int:=(b - a+1440 - 1).tdiv 1440
theorem daysW_lt {a b:Int}(h:a<b):120<daysW a b↔172800<b - a:=by
 unfold daysW;rw[Int.tdiv_eq_ediv_of_nonneg (by omega)];omega
theorem z311 (a b:Int)(h:0≤a∧a<b∧b≤5761439):FSpec Tryz.prog 179 [.agg [.d (.int .i64 a),.d (.int .i64 b)]] [] (fun x o=>x= .d (.int .i64 (daysW a b))∧o= []):=by
 obtain⟨h1,h2,h3⟩:=h;have hd:inI64 ((b - a+1440 - 1).tdiv 1440):=by unfold inI64;rw[Int.tdiv_eq_ediv_of_nonneg (by omega)];omega
 refine spec_of hT (C:= []) Tryz.func179 rfl Tryz.call179 rfl rfl rfl ?_;conv=>whnf
 repeat' (first|((first|refine And.intro hd ?_|(refine br_intro ?_ ?_<;>intro hb<;>try simp only[brs]at hb)|omega|refine sAx ?_|decide|assumption)<;>conv=>whnf))
 refine .ret _ ?_;conv=>whnf
 refine⟨[],⟨?_,rfl⟩,trivial⟩;conv=>lhs;whnf
 rfl
theorem z263 (a b:Int):FSpec Tryz.prog 136 [.agg [.d (.int .i64 a),.d (.int .i64 b)]] [] (fun x o=>x= .d (.int .i64 (timE a b))∧o= []):=by
 have hd:=daysW_lt (a:=a) (b:=b);refine spec_of hT (C:= []) Tryz.func136 rfl Tryz.call136 rfl rfl rfl ?_;conv=>whnf
 repeat' (first|(refine CallX.exact (z311 a b ⟨by omega,by omega,by omega⟩) rfl rfl ?_;rotate_right;conv=>whnf)|(refine CallX.exact (s107 _ _) rfl rfl ?_;rotate_right;conv=>whnf)|((first|(refine br_intro ?_ ?_<;>intro hb<;>try simp only[brs]at hb)|omega|refine sAx ?_|decide|assumption)<;>conv=>whnf))
 all_goals
  refine .ret _ ?_;conv=>whnf
  refine⟨[],⟨?_,rfl⟩,trivial⟩;conv=>lhs;whnf
  congr 2
  unfold timE;grind
set_option maxHeartbeats 2000000 in
theorem z264 (h:Hir)(hk:hiK h)(i:Nat)(hi:i<h.legs.length):FSpec Tryz.prog 137 [.agg ((hiF h).map .d),.d (.int .i64 i)] [] (fun x o=>x= .d (.int .i64 (legE h i))∧o= []):=by
 have e1:(i:Int).toNat=i:=Int.toNat_natCast i;have hl:=hk.2.2.1;have hx:lgK (h.legs.getD (i:Int).toNat lg0):=hk.2.2.2 _ (getD_mem (by omega));refine spec_of hT (C:= []) Tryz.func137 rfl Tryz.call137 rfl rfl rfl ?_;conv=>whnf
 repeat' (first|(refine CallX.exact (s108 _ hx.1) rfl rfl ?_;rotate_right;conv=>whnf)|(refine CallX.exact (z312 (h.legs.getD (i:Int).toNat lg0).out hx.2.1) rfl rfl ?_;rotate_right;conv=>whnf)|(refine CallX.exact (z312 (h.legs.getD (i:Int).toNat lg0).inn hx.2.2) rfl rfl ?_;rotate_right;conv=>whnf)|(refine CallX.exact (s107 _ _) rfl rfl ?_;rotate_right;conv=>whnf)|((first|refine CallX.pure (s105 [_,_] (by simp)) ⟨SV.le_lit (by rfl) (by rfl),trivial⟩ rfl ?_|(refine br_intro ?_ ?_<;>intro hb<;>try simp only[brs]at hb)|refine rAx hT 2 oQHiA137_2 ?_|refine rAx hT 16 oQHiA137_16 ?_|refine rAx hT 17 oQHiA137_17 ?_|omega|refine sAx ?_|decide|assumption)<;>conv=>whnf))
 all_goals
  refine .ret _ ?_;conv=>whnf
  refine⟨[],⟨?_,rfl⟩,trivial⟩;conv=>lhs;whnf
  congr 2
  clear hx hk;simp only[e1,toNat_pred,firstE]at*;unfold legE;grind
theorem hirE_bad {h:Hir}(q:isKeyB h.key=false∨isKeyB h.drv=false):hirE h=5:=by unfold hirE;rw[if_pos q]
theorem hirE_time {h:Hir}(q1:isKeyB h.key=true)(q2:isKeyB h.drv=true)(q:timE h.frm h.to≠0):hirE h=timE h.frm h.to:=by
 unfold hirE;rw[if_neg (by rw[q1,q2];simp),if_pos q]
theorem hirE_legs {h:Hir}(q1:isKeyB h.key=true)(q2:isKeyB h.drv=true)(q:timE h.frm h.to=0):hirE h=if h.legs.length=0 then 3 else if 20<h.legs.length then 2 else firstAt (legE h) h.legs.length:=by
 unfold hirE;rw[if_neg (by rw[q1,q2];simp),if_neg (by omega)]
set_option maxHeartbeats 2000000 in
theorem z210 (h:Hir)(hk:hiK h):FSpec Tryz.prog 90 [.agg ((hiF h).map .d)] [] (fun x o=>x= .d (.int .i64 (hirE h))∧o= []):=by
 have c1:=s108 h.key hk.1;have c2:=s108 h.drv hk.2.1;have c3:=z263 h.frm h.to;have hl:=hk.2.2.1;have c5:=s105 [5,timE h.frm h.to] (by simp);rw[show firstE [5,timE h.frm h.to]=5 from rfl]at c5;have c6:=s105 [0,timE h.frm h.to] (by simp);rw[show firstE [0,timE h.frm h.to]=timE h.frm h.to from by simp only[firstE];grind]at c6
 cases q1:isKeyB h.key with
 | false=>
   rw[hirE_bad (.inl q1)];rw[q1]at c1;generalize timE h.frm h.to=E at c3 c5 c6;refine spec_of hT (C:= []) Tryz.func90 rfl Tryz.call90 rfl rfl rfl ?_;conv=>whnf
   repeat' (first|(refine CallX.exact (c1) rfl rfl ?_;rotate_right;conv=>whnf)|(refine CallX.exact (c3) rfl rfl ?_;rotate_right;conv=>whnf)|(refine CallX.exact (s107 _ _) rfl rfl ?_;rotate_right;conv=>whnf)|((first|refine CallX.pure c5 ⟨SV.le_lit (by rfl) (by rfl),trivial⟩ rfl ?_|(refine br_intro ?_ ?_<;>intro hb<;>try simp only[brs]at hb)|refine rAx hT 1 oQHiA90_1 ?_|omega|refine sAx ?_|decide|assumption)<;>conv=>whnf))
   refine .ret _ ?_;conv=>whnf
   refine⟨[],⟨?_,rfl⟩,trivial⟩
   conv=>lhs;whnf
 |true=>
 rw[q1]at c1
 cases q2:isKeyB h.drv with
 | false=>
   rw[hirE_bad (.inr q2)];rw[q2]at c2;generalize timE h.frm h.to=E at c3 c5 c6;refine spec_of hT (C:= []) Tryz.func90 rfl Tryz.call90 rfl rfl rfl ?_;conv=>whnf
   repeat' (first|(refine CallX.exact (c1) rfl rfl ?_;rotate_right;conv=>whnf)|(refine CallX.exact (c2) rfl rfl ?_;rotate_right;conv=>whnf)|(refine CallX.exact (c3) rfl rfl ?_;rotate_right;conv=>whnf)|(refine CallX.exact (s107 _ _) rfl rfl ?_;rotate_right;conv=>whnf)|((first|refine CallX.pure c5 ⟨SV.le_lit (by rfl) (by rfl),trivial⟩ rfl ?_|(refine br_intro ?_ ?_<;>intro hb<;>try simp only[brs]at hb)|refine rAx hT 1 oQHiA90_1 ?_|omega|refine sAx ?_|decide|assumption)<;>conv=>whnf))
   refine .ret _ ?_;conv=>whnf
   refine⟨[],⟨?_,rfl⟩,trivial⟩
   conv=>lhs;whnf
 |true=>
 rw[q2]at c2
 by_cases q3:timE h.frm h.to=0
 · have hE:=hirE_legs q1 q2 q3;rw[hE];clear hE;rw[q3]at c3 c6
   by_cases q4:h.legs.length=0
   · rw[if_pos q4];refine spec_of hT (C:= []) Tryz.func90 rfl Tryz.call90 rfl rfl rfl ?_;conv=>whnf
     repeat' (first|(refine CallX.exact (c1) rfl rfl ?_;rotate_right;conv=>whnf)|(refine CallX.exact (c2) rfl rfl ?_;rotate_right;conv=>whnf)|(refine CallX.exact (c3) rfl rfl ?_;rotate_right;conv=>whnf)|(refine CallX.exact (s107 _ _) rfl rfl ?_;rotate_right;conv=>whnf)|((first|refine CallX.pure c6 ⟨SV.le_lit (by rfl) (by rfl),trivial⟩ rfl ?_|(refine br_intro ?_ ?_<;>intro hb<;>try simp only[brs]at hb)|refine rAx hT 1 oQHiA90_1 ?_|omega|refine sAx ?_|decide|assumption)<;>conv=>whnf))
     all_goals first
      |(exfalso;omega)
      | (refine .ret _ ?_
         conv=>whnf
         refine⟨[],⟨?_,rfl⟩,trivial⟩;conv=>lhs;whnf
         all_goals rfl)
   by_cases q5:20<h.legs.length
   · rw[if_neg q4,if_pos q5];refine spec_of hT (C:= []) Tryz.func90 rfl Tryz.call90 rfl rfl rfl ?_;conv=>whnf
     repeat' (first|(refine CallX.exact (c1) rfl rfl ?_;rotate_right;conv=>whnf)|(refine CallX.exact (c2) rfl rfl ?_;rotate_right;conv=>whnf)|(refine CallX.exact (c3) rfl rfl ?_;rotate_right;conv=>whnf)|(refine CallX.exact (s107 _ _) rfl rfl ?_;rotate_right;conv=>whnf)|((first|refine CallX.pure c6 ⟨SV.le_lit (by rfl) (by rfl),trivial⟩ rfl ?_|(refine br_intro ?_ ?_<;>intro hb<;>try simp only[brs]at hb)|refine rAx hT 1 oQHiA90_1 ?_|omega|refine sAx ?_|decide|assumption)<;>conv=>whnf))
     all_goals first
      |(exfalso;omega)
      | (refine .ret _ ?_
         conv=>whnf
         refine⟨[],⟨?_,rfl⟩,trivial⟩;conv=>lhs;whnf
         all_goals rfl)
   obtain⟨F,hfin⟩:∃F:Int,F=firstAt (legE h) h.legs.length:=⟨_,rfl⟩;rw[if_neg q4,if_neg q5,←hfin];refine spec_of hT (C:= []) Tryz.func90 rfl Tryz.call90 rfl rfl rfl ?_;conv=>whnf
   repeat' (first|(refine CallX.exact (c1) rfl rfl ?_;rotate_right;conv=>whnf)|(refine CallX.exact (c2) rfl rfl ?_;rotate_right;conv=>whnf)|(refine CallX.exact (c3) rfl rfl ?_;rotate_right;conv=>whnf)|(refine CallX.exact (s107 _ _) rfl rfl ?_;rotate_right;conv=>whnf)|((first|refine CallX.pure c6 ⟨SV.le_lit (by rfl) (by rfl),trivial⟩ rfl ?_|(refine br_intro ?_ ?_<;>intro hb<;>try simp only[brs]at hb)|refine rAx hT 1 oQHiA90_1 ?_|omega|refine sAx ?_|decide|assumption)<;>conv=>whnf))
   all_goals first
    |(exfalso;omega)
    |skip
   refine LoopX.rule hT (C:= []) (ι:=Nat) (fun i=>i≤h.legs.length∧∀j,j<i→legE h j=0) (fun i=>mkSt [(1,.ptr 1 0),(37,.d (.int .i64 h.legs.length)),(38,.d (.int .i64 i))] [(1,hcell h)]) (fun i=>h.legs.length - i) 0 ⟨by omega,by omega⟩ (by exact eAx [(1,1)]) ?_;rintro i ⟨p1,p2⟩;have e1:(i:Int).toNat=i:=Int.toNat_natCast i;conv=>whnf
   repeat' (first|((first|refine pAx (z264 h hk i (by omega)) ?_|(refine br_intro ?_ ?_<;>intro hb<;>try simp only[brs]at hb)|refine rAx hT 1 oQHiA90_1 ?_|omega|refine sAx ?_|decide|assumption)<;>conv=>whnf))
   · refine .ret _ ?_;conv=>whnf
     refine⟨[],⟨?_,rfl⟩,trivial⟩;conv=>lhs;whnf
     congr 2
     rw[hfin];exact(firstAt_eq (by omega) p2 (by simpa using hb) rfl).symm
   · exact⟨i+1,⟨by omega,first_step p2 (by simpa using hb)⟩,by omega,(by exact eAx [(1,1)])⟩
   · refine .ret _ ?_;conv=>whnf
     refine⟨[],⟨?_,rfl⟩,trivial⟩;conv=>lhs;whnf
     congr 2
     have:i=h.legs.length:=by omega
     subst this;rw[hfin,firstAt_zero p2]
 · rw[hirE_time q1 q2 q3];generalize timE h.frm h.to=E at c3 q3 c5 c6;refine spec_of hT (C:= []) Tryz.func90 rfl Tryz.call90 rfl rfl rfl ?_;conv=>whnf
   repeat' (first|(refine CallX.exact (c1) rfl rfl ?_;rotate_right;conv=>whnf)|(refine CallX.exact (c2) rfl rfl ?_;rotate_right;conv=>whnf)|(refine CallX.exact (c3) rfl rfl ?_;rotate_right;conv=>whnf)|(refine CallX.exact (s107 _ _) rfl rfl ?_;rotate_right;conv=>whnf)|((first|refine CallX.pure c6 ⟨SV.le_lit (by rfl) (by rfl),trivial⟩ rfl ?_|(refine br_intro ?_ ?_<;>intro hb<;>try simp only[brs]at hb)|refine rAx hT 1 oQHiA90_1 ?_|omega|refine sAx ?_|decide|assumption)<;>conv=>whnf))
   all_goals first
    |(exfalso;omega)
    | (refine .ret _ ?_
       conv=>whnf
       refine⟨[],⟨?_,rfl⟩,trivial⟩;conv=>lhs;whnf
       all_goals rfl)
set_option maxHeartbeats 2000000 in
theorem z124 (l:List Hir)(hk:hiOk l):FSpec Tryz.prog 51 [.d (hirs l)] [] (fun x r=>x= .d (.int .i64 (hirsE l))∧r= []):=by
 refine spec_of hT (C:= []) Tryz.func51 rfl Tryz.call51 rfl rfl rfl ?_;conv=>whnf
 refine br_intro (fun h0=> ?_) (fun h0=> ?_)
 · simp at h0;conv=>whnf
   refine .ret _ ?_;conv=>whnf
   refine⟨[],⟨?_,rfl⟩,trivial⟩;conv=>lhs;whnf
   unfold hirsE;rw[if_pos (by omega)]
 simp at h0;conv=>whnf
 refine LoopX.rule hT (C:= []) (ι:=Nat) (fun i=>i≤l.length∧∀j,j<i→hirsE1 l j=0) (fun i=>mkSt [(0,.d (hirs l)),(9,.d (hirs l)),(10,.d (.int .i64 l.length)),(11,.d (.int .i64 i))] []) (fun i=>l.length - i) 0 ⟨by omega,by omega⟩ (by exact eAx []) ?_;rintro i ⟨p1,p2⟩;have hx:(i:Int)<l.length→hiK (l.getD (i:Int).toNat hi0):=fun hi=>hk.2 _ (getD_mem (by omega))
 have e1:(i:Int).toNat=i:=Int.toNat_natCast i;have em:(max ((i:Int) - 1) 0).toNat=i - 1:=by omega
 have hbad:∀e:Int,i<l.length→e≠0→hirsE1 l i=e→hirsE l=e:=fun e h h1 h2=>by
  unfold hirsE;rw[if_neg (by omega)];exact firstAt_eq h p2 h1 h2
 conv=>whnf
 repeat' (first|((first|refine And.intro (show 0≤max ((i:Int) - 1) 0∧max ((i:Int) - 1) 0<(l.length:Int)from by omega) ?_|refine pAx (z210 (l.getD (i:Int).toNat hi0) (hx (by omega))) ?_)<;>conv=>whnf)|(refine CallX.exact (s107 _ _) rfl rfl ?_;rotate_right;conv=>whnf)|((first|refine CallX.pure (s105 [_,_] (by simp)) ⟨SV.le_lit (by rfl) (by rfl),trivial⟩ rfl ?_|(refine br_intro ?_ ?_<;>intro hb<;>try simp only[brs]at hb)|refine rAx hT 6 oQHiA51_6 ?_|omega|refine sAx ?_|decide|assumption)<;>conv=>whnf))
 all_goals first
  |(refine⟨i+1,⟨by omega,first_step p2 (by clear p2 hbad hk hx;simp only[e1,em,cond_true,firstE]at*;unfold hirsE1 strLe;grind)⟩,by omega,(by exact eAx [])⟩)
  | (refine .ret _ ?_
     conv=>whnf
     refine⟨[],⟨?_,rfl⟩,trivial⟩;conv=>lhs;whnf
     congr 2
     first
      |exact(hbad _ (by omega) (by clear p2 hbad hk hx;simp only[e1,em,cond_true,firstE]at*;grind) (by clear p2 hbad hk hx;simp only[e1,em,cond_true,firstE]at*;unfold hirsE1 strLe;grind)).symm
      | (have:i=l.length:=by omega
         subst this
         unfold hirsE;rw[if_neg (by omega),firstAt_zero p2]))
theorem Res.le_put2 {α:Type}{f:α→List DV}{d:α}{l:List α}{x y:α}{e k j1 j2:Nat}{ds1 ds2:List DV}(h1:∀z,setAtD (f z) 0 ds1=f x)(h2:∀z,setAtD (f z) 0 ds2=f y):
 Res.le (.buf e k l.length fun i=>bif Nat.beq i j2 then setAtD (bif Nat.beq i j1 then setAtD (rowF f d l i) 0 ds1 else rowF f d l i) 0 ds2 else bif Nat.beq i j1 then setAtD (rowF f d l i) 0 ds1 else rowF f d l i) (seqB e k f d ((l.set j1 x).set j2 y)):=by
 refine Res.le_buf (by simp) (fun k hk=> ?_);have e1:=rows_putG (f:=f) (d:=d) (l:=l) (x:=x) (j:=j1) (off:=0) (ds:=ds1) (get:=rowF f d l) (fun _ _=>rfl) (fun z _=>h1 z);have e2:=rows_putG (f:=f) (d:=d) (l:=l.set j1 x) (x:=y) (j:=j2) (off:=0) (ds:=ds2) (get:=fun i=>bif Nat.beq i j1 then setAtD (rowF f d l i) 0 ds1 else rowF f d l i) (fun k hk=>e1 k (by simpa using hk)) (fun z _=>h2 z);exact e2 k (by simpa using hk)
theorem mem_bd {l:List Int}{u:Int}(h:u ∈ l)(q:l.all (fun x=>decide (-2^40≤x∧x≤2^40))=true): -2^40≤u∧u≤2^40:=by
 have:=List.all_eq_true.1 q u h;exact of_decide_eq_true this
theorem SV.le_upd {α:Type}{f:α→List DV}{d:α}{l:List α}{k j off:Nat}{ds:List DV}(g:α→α)(hg:∀y,setAtD (f y) off ds=f (g y)):
 SV.le (.d (.ro k l.length fun i=>bif Nat.beq i j then setAtD (rowF f d l i) off ds else rowF f d l i)) (.d (seqD k f d (l.set j (g (l.getD j d))))):=
 SV.le_putF fun y hy=>by rw[hg,List.getD_eq_getElem?_getD,hy];rfl
end Go.Proofs.YtophabkpfpbadaaGreatDoor
namespace Go.Proofs
open Go.Shelf
end Go.Proofs
set_option maxRecDepth 20000
namespace Go.Proofs.YtophabkpfpbadaaGreatDoor
open Go Go.Eng Go.RowKit
theorem Res.le_appF {α:Type}{f:α→List DV}{d:α}{l m:List α}{e k:Nat}:Res.le (.buf e k (l.length+m.length) (appGet l.length (rowF f d l) (rowF f d m))) (seqB e k f d (l++m)):=by
 refine Res.le_buf (by simp) (fun i hi=> ?_)
 by_cases h:i<l.length
 · rw[appGet_lt h];simp only[rowF];rw[List.getD_eq_getElem?_getD,List.getD_eq_getElem?_getD,List.getElem?_append_left h]
 · rw[appGet_ge (by omega)];simp only[rowF];rw[List.getD_eq_getElem?_getD,List.getD_eq_getElem?_getD,List.getElem?_append_right (by omega)]
theorem pas_eq {a b:Pas}:a=b↔a.tm=b.tm∧a.gate=b.gate∧a.plate=b.plate∧a.cents=b.cents:=by cases a;cases b;simp
instance:DecidableEq Pas:=fun _ _=>decidable_of_iff _ pas_eq.symm
structure Slt where
 day:Int
 many:Int
structure Wnt where
 v:List UInt8
 fr:Int
 to:Int
def wn0:Wnt:=⟨[],0,0⟩
structure Plc where
 v:List UInt8
 day:Int
def pl0:Plc:=⟨[],0⟩
structure Bsy where
 v:List UInt8
 fr:Int
 to:Int
 cents:Int
def namesB (w:List Wnt)(l:List Plc):Prop:=w.length=l.length∧∀i,i<w.length→(w.getD i wn0).v=(l.getD i pl0).v
instance (w:List Wnt)(l:List Plc):Decidable (namesB w l):=inferInstanceAs (Decidable (_∧_))
theorem SV.le_drop {α:Type}{f:α→List DV}{d:α}{l:List α}{k j m:Nat}(hm:m=(l.drop j).length):SV.le (.d (.ro k m fun i=>rowF f d l (j+i))) (.d (seqD k f d (l.drop j))):=
 SV.le_ro hm (fun i hi=>by simp only[rowF];rw[List.getD_eq_getElem?_getD,List.getD_eq_getElem?_getD,List.getElem?_drop])
theorem Res.le_upd {α:Type}{f:α→List DV}{d:α}{l:List α}{e k j off:Nat}{ds:List DV}(g:α→α)(hg:∀y,setAtD (f y) off ds=f (g y)):
 Res.le (.buf e k l.length fun i=>bif Nat.beq i j then setAtD (rowF f d l i) off ds else rowF f d l i) (seqB e k f d (l.set j (g (l.getD j d)))):=
 Res.le_putF fun y hy=>by rw[hg,List.getD_eq_getElem?_getD,hy];rfl
def allK {α:Type}(K:α→Prop)(k:Nat)(l:List α):Prop:=l.length≤k∧∀x ∈ l,K x
theorem allK_snoc {α:Type}{K:α→Prop}{l:List α}{k m:Nat}{x:α}(h:allK K k l)(hm:k+1≤m)(hx:K x):allK K m (l++ [x]):=by
 refine⟨by rw[List.length_append];have:=h.1;simp;omega,fun p hp=> ?_⟩;rcases List.mem_append.1 hp with q|q
 · exact h.2 p q
 · simp at q;subst q;exact hx
theorem allK_le {α:Type}{K:α→Prop}{l:List α}{k m:Nat}(h:allK K k l)(hm:k≤m):allK K m l:=⟨by have:=h.1;omega,h.2⟩
theorem allK_upd {α:Type}{K:α→Prop}{l:List α}{k j:Nat}{d:α}{g:α→α}(h:allK K k l)(hg:∀y,K y→K (g y)):allK K k (l.set j (g (l.getD j d))):=by
 refine⟨by rw[List.length_set];exact h.1,fun p hp=> ?_⟩
 by_cases hj:j<l.length
 · rcases List.mem_or_eq_of_mem_set hp with q|q
   · exact h.2 p q
   · subst q;exact hg _ (h.2 _ (getD_mem hj))
 · rw[List.set_eq_of_length_le (by omega)]at hp;exact h.2 p hp
theorem rows_updG {α:Type}{f:α→List DV}{d:α}{l:List α}{j off:Nat}{ds:List DV}{get:Nat→List DV}(hg:∀i,i<l.length→get i=rowF f d l i)(g:α→α)(h:∀y,setAtD (f y) off ds=f (g y)):
 ∀i,i<(l.set j (g (l.getD j d))).length→(bif Nat.beq i j then setAtD (get i) off ds else get i)=rowF f d (l.set j (g (l.getD j d))) i:=by
 rw[List.length_set];exact rows_putG hg (fun y hy=>by rw[h,List.getD_eq_getElem?_getD,hy];rfl)
abbrev updL {α:Type}(l:List α)(j:Nat)(d:α)(g:α→α):List α:=l.set j (g (l.getD j d))
def oQShG120_8:OL:= [(0,[]),(1,[]),(2,[]),(3,[]),(4,[]),(5,[3,4]),(6,[3,4,5]),(7,[3,4,5]),(8,[3,4]),(9,[3,4]),(10,[3,4]),(11,[]),(12,[]),(13,[])]
def oQShG121_10:OL:= [(0,[]),(1,[]),(2,[]),(3,[]),(4,[3]),(5,[3]),(6,[]),(7,[]),(8,[]),(9,[3,4,5,6,7,8]),(10,[3,4,5,6,7,8,9]),(11,[3,4,5,6,7,8,9]),(12,[3,4,5,6,7,8]),(13,[3,4,5,6,7,8]),(14,[3,4,5,6,7,8]),(15,[3,4,5,6,7,8,9,10,11,12,13,14]),(16,[3,4,5,6,7,8,9,10,11,12,13,14]),(17,[3,4,5,6,7,8,9,10,11,12,13,14,15,16]),(18,[3,4,5,6,7,8,9,10,11,12,13,14,15,16]),(19,[]),(20,[]),(21,[]),(22,[])]
structure Ned where
 st:List UInt8
 many:Int
def ndF:Ned→List DV:=fun s=> [.str s.st,.int .i64 s.many]
def nd0:Ned:=⟨[],0⟩
abbrev neds (l:List Ned):DV:=seqD 2 ndF nd0 l
structure Roa where
 a:List UInt8
 b:List UInt8
 car:Int
 ride:Int
def rdF:Roa→List DV:=fun s=> [.str s.a,.str s.b,.int .i64 s.car,.int .i64 s.ride]
def rd0:Roa:=⟨[],[],0,0⟩
abbrev roas (l:List Roa):DV:=seqD 4 rdF rd0 l
structure Mov where
 a:List UInt8
 b:List UInt8
 many:Int
def mvF:Mov→List DV:=fun s=> [.str s.a,.str s.b,.int .i64 s.many]
def mv0:Mov:=⟨[],[],0⟩
abbrev movs (l:List Mov):DV:=seqD 3 mvF mv0 l
def ndE (l:List Ned)(i:Nat):Int:=
 let x:=l.getD i nd0
 if isKeyB x.st=false then 5 else if 0<i∧strLe x.st (l.getD (i - 1) nd0).st=true then 7 else if ¬ (-20≤x.many∧x.many≤20)then 1 else 0
def ndsE (l:List Ned):Int:=if 10<l.length then 2 else firstAt (ndE l) l.length
def ndK (x:Ned):Prop:=x.st.length≤2^40
def ndOk (l:List Ned):Prop:=l.length≤2^40∧∀x ∈ l,ndK x
def endsC (a b c d:List UInt8):Int:=firstE [cmpS a c,cmpS b d]
def rdE (l:List Roa)(i:Nat):Int:=
 let x:=l.getD i rd0
 if isKeyB x.a=false∨isKeyB x.b=false then 5 else if x.a=x.b then 14 else if 0<i∧0≤endsC (l.getD (i - 1) rd0).a (l.getD (i - 1) rd0).b x.a x.b then 7 else if ¬ ((0≤x.car∧x.car≤1000000)∧(0≤x.ride∧x.ride≤1000000))then 1 else 0
def rdsE (l:List Roa):Int:=if 2500<l.length then 2 else firstAt (rdE l) l.length
def rdK (x:Roa):Prop:=x.a.length≤2^40∧x.b.length≤2^40
def rdOk (l:List Roa):Prop:=l.length≤2^40∧∀x ∈ l,rdK x
theorem s204 (a b c d:List UInt8):FSpec Tryz.prog 169 [.d (.str a),.d (.str b),.d (.str c),.d (.str d)] [] (fun x r=>x= .d (.int .i64 (endsC a b c d))∧r= []):=by
 refine spec_of hT (C:= []) Tryz.func169 rfl Tryz.call169 rfl rfl rfl ?_;conv=>whnf
 repeat' (first|(refine CallX.exact (s184 _ _) rfl rfl ?_;rotate_right;conv=>whnf)|((first|refine CallX.pure (s182 [_,_] (by simp)) ⟨SV.le_lit (by rfl) (by rfl),trivial⟩ rfl ?_|(refine br_intro ?_ ?_<;>intro hb<;>try simp only[brs]at hb)|omega|refine sAx ?_|decide|assumption)<;>conv=>whnf))
 refine .ret _ ?_;conv=>whnf
 refine⟨[],⟨?_,rfl⟩,trivial⟩;conv=>lhs;whnf
 rfl
theorem s163 (l:List Ned)(hk:ndOk l):FSpec Tryz.prog 120 [.d (neds l)] [] (fun x r=>x= .d (.int .i64 (ndsE l))∧r= []):=by
 refine spec_of hT (C:= []) Tryz.func120 rfl Tryz.call120 rfl rfl rfl ?_;conv=>whnf
 refine br_intro (fun h0=> ?_) (fun h0=> ?_)
 · simp at h0;conv=>whnf
   refine .ret _ ?_;conv=>whnf
   refine⟨[],⟨?_,rfl⟩,trivial⟩;conv=>lhs;whnf
   unfold ndsE;rw[if_pos (by omega)]
 simp at h0;conv=>whnf
 refine LoopX.rule hT (C:= []) (ι:=Nat) (fun i=>i≤l.length∧∀j,j<i→ndE l j=0) (fun i=>mkSt [(0,.d (neds l)),(8,.d (neds l)),(9,.d (.int .i64 l.length)),(10,.d (.int .i64 i))] []) (fun i=>l.length - i) 0 ⟨by omega,by omega⟩ (by exact eAx []) ?_;rintro i ⟨p1,p2⟩;have hx:(i:Int)<l.length→ndK (l.getD (i:Int).toNat nd0):=fun hi=>hk.2 _ (getD_mem (by omega))
 have e1:(i:Int).toNat=i:=Int.toNat_natCast i
 have hbad:∀e:Int,i<l.length→e≠0→ndE l i=e→ndsE l=e:=fun e h h1 h2=>by
  unfold ndsE;rw[if_neg (by omega)];exact firstAt_eq h p2 h1 h2
 conv=>whnf
 repeat' (first|(refine CallX.exact (s108 _ (hx (by omega))) rfl rfl ?_;rotate_right;conv=>whnf)|(refine CallX.exact (s119 _ _ _) rfl rfl ?_;rotate_right;conv=>whnf)|((first|(refine br_intro ?_ ?_<;>intro hb<;>try simp only[brs]at hb)|refine rAx hT 8 oQShG120_8 ?_|omega|refine sAx ?_|decide|assumption)<;>conv=>whnf))
 all_goals first
  |(refine⟨i+1,⟨by omega,first_step p2 (by clear p2 hbad hk hx;simp only[e1,toNat_pred]at*;unfold ndE strLe;grind)⟩,by omega,(by exact eAx [])⟩)
  | (refine .ret _ ?_
     conv=>whnf
     refine⟨[],⟨?_,rfl⟩,trivial⟩;conv=>lhs;whnf
     congr 2
     first
      |exact(hbad _ (by omega) (by decide) (by clear p2 hbad hk hx;simp only[e1,toNat_pred]at*;unfold ndE strLe;grind)).symm
      | (have:i=l.length:=by omega
         subst this
         unfold ndsE;rw[if_neg (by omega),firstAt_zero p2]))
theorem s164 (l:List Roa)(hk:rdOk l):FSpec Tryz.prog 121 [.d (roas l)] [] (fun x r=>x= .d (.int .i64 (rdsE l))∧r= []):=by
 refine spec_of hT (C:= []) Tryz.func121 rfl Tryz.call121 rfl rfl rfl ?_;conv=>whnf
 refine br_intro (fun h0=> ?_) (fun h0=> ?_)
 · simp at h0;conv=>whnf
   refine .ret _ ?_;conv=>whnf
   refine⟨[],⟨?_,rfl⟩,trivial⟩;conv=>lhs;whnf
   unfold rdsE;rw[if_pos (by omega)]
 simp at h0;conv=>whnf
 refine LoopX.rule hT (C:= []) (ι:=Nat) (fun i=>i≤l.length∧∀j,j<i→rdE l j=0) (fun i=>mkSt [(0,.d (roas l)),(8,.d (roas l)),(9,.d (.int .i64 l.length)),(10,.d (.int .i64 i))] []) (fun i=>l.length - i) 0 ⟨by omega,by omega⟩ (by exact eAx []) ?_;rintro i ⟨p1,p2⟩;have hx:(i:Int)<l.length→rdK (l.getD (i:Int).toNat rd0):=fun hi=>hk.2 _ (getD_mem (by omega))
 have e1:(i:Int).toNat=i:=Int.toNat_natCast i
 have hbad:∀e:Int,i<l.length→e≠0→rdE l i=e→rdsE l=e:=fun e h h1 h2=>by
  unfold rdsE;rw[if_neg (by omega)];exact firstAt_eq h p2 h1 h2
 conv=>whnf
 repeat' (first|(refine CallX.exact (s108 _ (hx (by omega)).1) rfl rfl ?_;rotate_right;conv=>whnf)|(refine CallX.exact (s108 _ (hx (by omega)).2) rfl rfl ?_;rotate_right;conv=>whnf)|(refine CallX.exact (s204 _ _ _ _) rfl rfl ?_;rotate_right;conv=>whnf)|(refine CallX.exact (s119 _ _ _) rfl rfl ?_;rotate_right;conv=>whnf)|((first|(refine br_intro ?_ ?_<;>intro hb<;>try simp only[brs]at hb)|refine rAx hT 10 oQShG121_10 ?_|omega|refine sAx ?_|decide|assumption)<;>conv=>whnf))
 all_goals first
  |(refine⟨i+1,⟨by omega,first_step p2 (by clear p2 hbad hk hx;simp only[e1,toNat_pred]at*;unfold rdE;grind)⟩,by omega,(by exact eAx [])⟩)
  | (refine .ret _ ?_
     conv=>whnf
     refine⟨[],⟨?_,rfl⟩,trivial⟩;conv=>lhs;whnf
     congr 2
     first
      |exact(hbad _ (by omega) (by decide) (by clear p2 hbad hk hx;simp only[e1,toNat_pred]at*;unfold rdE;grind)).symm
      | (have:i=l.length:=by omega
         subst this
         unfold rdsE;rw[if_neg (by omega),firstAt_zero p2]))
theorem s113 (l:List Ned)(m:List Roa)(hl:ndOk l)(hm:rdOk m):FSpec Tryz.prog 75 [.d (neds l),.d (roas m)] [] (fun x r=>x= .d (.int .i64 (firstE [ndsE l,rdsE m]))∧r= []):=by
 refine spec_of hT (C:= []) Tryz.func75 rfl Tryz.call75 rfl rfl rfl ?_;conv=>whnf
 repeat' (first|(refine CallX.exact (s163 l hl) rfl rfl ?_;rotate_right;conv=>whnf)|(refine CallX.exact (s164 m hm) rfl rfl ?_;rotate_right;conv=>whnf)|((first|refine CallX.pure (s105 [_,_] (by simp)) ⟨SV.le_lit (by rfl) (by rfl),trivial⟩ rfl ?_|(refine br_intro ?_ ?_<;>intro hb<;>try simp only[brs]at hb)|omega|refine sAx ?_|decide|assumption)<;>conv=>whnf))
 refine .ret _ ?_;conv=>whnf
 refine⟨[],⟨?_,rfl⟩,trivial⟩;conv=>lhs;whnf
def tN:List Ned:= [⟨[97],1⟩,⟨[98],-1⟩]
def tR:List Roa:= [⟨[97],[98],4,0⟩]
theorem s113t:FSpec Tryz.prog 75 [.d (neds tN),.d (roas tR)] [] (fun x r=>x= .d (.int .i64 0)∧r= []):=by
 have h:=s113 tN tR ⟨by simp[tN],by intro x hx;simp[tN]at hx;rcases hx with rfl|rfl<;>simp[ndK]⟩ ⟨by simp[tR],by intro x hx;simp[tR]at hx;subst hx;simp[rdK]⟩;rwa [show firstE [ndsE tN,rdsE tR]=0 by decide]at h
structure Plt where
 frm:Int
 veh:List UInt8
 plt:List UInt8
deriving DecidableEq
structure Hld where
 veh:List UInt8
 frm:Int
 til:Int
def clashP (o p:Plt):Bool:=decide (o.veh=p.veh)||decide (o.plt=p.plt)
def livStep (acc:List Plt)(x:Plt):List Plt:=acc.filter (fun e=> !clashP e x)++ [x]
def liv (l:List Plt):List Plt:=l.foldl livStep []
def early (l:List Plt)(t:Int):List Plt:=l.filter fun p=>decide (p.frm≤t)
def findP (L:List Plt)(p:List UInt8):Option Plt:=L.find? fun e=>decide (e.plt=p)
structure HS where
 live:List Plt
 out:List UInt8→List Hld
def hdrop (s:HS)(p:List UInt8)(t:Int):HS:=
 match findP s.live p with
 |none=>s
 |some e=>⟨s.live.filter fun e=> !decide (e.plt=p),fun q=>if q=p∧e.frm<t then s.out q++ [⟨e.veh,e.frm,t⟩]else s.out q⟩
def findV (L:List Plt)(v:List UInt8):Option Plt:=L.find? fun e=>decide (e.veh=v)
def hmid (s:HS)(x:Plt):HS:=match findV s.live x.veh with|none=>s|some e=>hdrop s e.plt x.frm
def hstep (s:HS)(x:Plt):HS:=⟨(hdrop (hmid s x) x.plt x.frm).live++ [x],(hdrop (hmid s x) x.plt x.frm).out⟩
def hs0:HS:=⟨[],fun _=> []⟩
def hall (l:List Plt):HS:=l.foldl hstep hs0
def inH (t:Int)(h:Hld):Bool:=decide (h.frm≤t)&&decide (t<h.til)
def findH (o:List Hld)(t:Int):Option (List UInt8):=(o.find? (inH t)).map (·.veh)
def expH (l live:List Plt)(p:List UInt8)(t:Int):Option (List UInt8):=
 match findP (liv (early l t)) p with
 |some e=>if e ∈ live then none else some e.veh
 |none=>none
structure HInv (T:Int)(l:List Plt)(s:HS):Prop where
 eq:∀p t,t<T→findH (s.out p) t=expH l s.live p t
 til:∀p h,h ∈ s.out p→h.til≤T
 sub:∀e ∈ s.live,e ∈ liv l
 apart:s.live.Pairwise (fun p q=>clashP p q=false)
theorem SV.le_agg {l m:List SV}(h:argsLe0 l m):SV.le (.agg l) (.agg m):=by
 obtain⟨h1,h2⟩:=argsLe0_get h;intro G β v hv
 cases hv with|agg _ vs hl hd=>
 refine .agg _ _ (hl.trans h1) (fun i y v hy hv=> ?_);have hi:i<l.length:=by rw[h1];exact(List.getElem?_eq_some_iff.1 hy).1
 exact h2 i _ y (List.getElem?_eq_getElem hi) hy G β v (hd i _ v (List.getElem?_eq_getElem hi) hv)
theorem getD_app_lt {α:Type}{l m:List α}{i:Nat}{z:α}(h:i<l.length):(l++m).getD i z=l.getD i z:=by
 rw[List.getD_eq_getElem?_getD,List.getD_eq_getElem?_getD,List.getElem?_append_left h]
def rgN:Rdg:=⟨-1,[],0,0⟩
def setIn (l:List Leg)(r:Rdg):List Leg:=l.set ((l.length:Int) - 1).toNat {l.getD ((l.length:Int) - 1).toNat lg0 with inn:=r}
theorem setIn_len (l:List Leg)(r:Rdg):(setIn l r).length=l.length:=by simp[setIn]
theorem Res.le_put_snocF {α:Type}{f:α→List DV}{d x y:α}{l:List α}{e k j off:Nat}{ds:List DV}{h:Nat→List DV}(hj:∀z,l[j]? =some z→setAtD (f z) off ds=f x)(hx:h 0=f y):
 Res.le (.buf e k (l.length+1) (appGet l.length (fun i=>bif Nat.beq i j then setAtD (rowF f d l i) off ds else rowF f d l i) h)) (seqB e k f d (l.set j x++ [y])):=by
 refine Res.le_buf (by simp) (fun i hi=> ?_);have h1:=rows_putF (f:=f) (d:=d) (l:=l) (x:=x) (j:=j) (off:=off) (ds:=ds) hj;rcases Nat.lt_or_ge i l.length with q|q
 · rw[appGet_lt q,h1 i q];simp only[rowF];rw[getD_app_lt (by simpa using q)]
 · have:i=l.length:=by omega
   subst this;rw[appGet_ge (Nat.le_refl _),Nat.sub_self,hx];simp only[rowF];congr 1
   rw[List.getD_eq_getElem?_getD,List.getElem?_append_right (by simp)];simp
theorem setIn_put {l:List Leg}{r:Rdg}:∀z,l[((l.length:Int) - 1).toNat]? =some z→setAtD (lgF z) 5 [.int .i64 r.tm,.str r.st,.int .i64 r.meter,.int .i64 r.fuel]=lgF {l.getD ((l.length:Int) - 1).toNat lg0 with inn:=r}:=fun z hz=>by
 rw[List.getD_eq_getElem?_getD,hz];rfl
def startH (key drv:List UInt8)(a b:Int)(v:List UInt8)(o:Rdg):Hir:=⟨key,drv,a,b,[⟨v,o,rgN⟩]⟩
theorem pkD {l:List Int}{x:Int}(h:x ∈ l)(hl:(l.all fun y=>decide (0≤y)&&decide (y≤3000))=true):0≤x∧x≤3000:=by
 have:=List.all_eq_true.1 hl x h;simpa using this
def oQDNtA73_8:OL:= [(0,[]),(1,[]),(2,[]),(3,[]),(4,[]),(5,[3,4]),(6,[3,4,5]),(7,[3,4,5]),(8,[3,4]),(9,[3,4]),(10,[3,4]),(11,[]),(12,[]),(13,[])]
def oQDNtA36_1:OL:= [(0,[]),(2,[0]),(3,[0]),(5,[0,2,3]),(7,[0,2,3,5]),(8,[0,2,3,5,7]),(9,[0,2,3,5,7]),(10,[0,2,3,5]),(1,[2,3,5,7,8,9,10]),(4,[5,7,8,9,10]),(6,[7,8,9,10]),(11,[]),(12,[]),(13,[]),(14,[])]
def oQDNtA36_5:OL:= [(0,[]),(1,[]),(2,[0,1]),(3,[0,1,2]),(4,[0,1,2]),(5,[0,1]),(6,[0,1]),(7,rg 7),(8,rg 7),(9,[0,1]),(10,rg 10),(11,rg 10),(12,[0,1]),(13,[]),(14,[]),(15,[])]
structure Ntr where
 name:Int
 pay:Int
 step:Int
 late:Int
def ntrF:Ntr→List DV:=fun r=> [.int .i64 r.name,.int .i64 r.pay,.int .i64 r.step,.int .i64 r.late]
structure Ntc where
 key:List UInt8
 plate:List UInt8
 tm:Int
 came:Int
 cents:Int
def ntcF:Ntc→List DV:=fun n=> [.str n.key,.str n.plate,.int .i64 n.tm,.int .i64 n.came,.int .i64 n.cents]
def ntc0:Ntc:=⟨[],[],0,0,0⟩
abbrev ntcs (l:List Ntc):DV:=seqD 5 ntcF ntc0 l
def ntrE (r:Ntr):Int:=if(0≤r.name∧r.name≤4000)∧(0≤r.pay∧r.pay≤4000)∧(1≤r.step∧r.step≤4000)∧(0≤r.late∧r.late≤1000000)then 0 else 1
def ntcE (l:List Ntc)(i:Nat):Int:=
 if isKeyB (l.getD i ntc0).key=false then 5 else if 0<i∧strLe (l.getD i ntc0).key (l.getD (i - 1) ntc0).key=true then 7 else if isPlateB (l.getD i ntc0).plate=false then 3
 else if ¬ ((0≤(l.getD i ntc0).tm∧(l.getD i ntc0).tm≤(l.getD i ntc0).came)∧(0≤(l.getD i ntc0).came∧(l.getD i ntc0).came≤5761439)∧(0≤(l.getD i ntc0).cents∧(l.getD i ntc0).cents≤1000000))then 1 else 0
def ntcsE (l:List Ntc):Int:=if 200<l.length then 2 else firstAt (ntcE l) l.length
def ntK (n:Ntc):Prop:=n.key.length≤2^40∧n.plate.length≤2^40
def ntOk (l:List Ntc):Prop:=l.length≤2^40∧∀x ∈ l,ntK x
theorem sNtRules (r:Ntr):FSpec Tryz.prog 72 [.agg ((ntrF r).map .d)] [] (fun x o=>x= .d (.int .i64 (ntrE r))∧o= []):=by
 refine spec_of hT (C:= []) Tryz.func72 rfl Tryz.call72 rfl rfl rfl ?_;conv=>whnf
 repeat' (first|(refine CallX.exact (s119 _ _ _) rfl rfl ?_;rotate_right;conv=>whnf)|(refine CallX.exact (s107 _ _) rfl rfl ?_;rotate_right;conv=>whnf)|((first|(refine br_intro ?_ ?_<;>intro hb<;>try simp only[brs]at hb)|omega|refine sAx ?_|decide|assumption)<;>conv=>whnf))
 all_goals
  refine .ret _ ?_;conv=>whnf
  refine⟨[],⟨?_,rfl⟩,trivial⟩;conv=>lhs;whnf
  congr 2
  unfold ntrE;grind
theorem sMoment (n:Int):FSpec Tryz.prog 74 [.d (.int .i64 n)] [] (fun x o=>x= .d (.int .i64 (if 0≤n∧n≤5761439 then 0 else 1))∧o= []):=by
 refine spec_of hT (C:= []) Tryz.func74 rfl Tryz.call74 rfl rfl rfl ?_;conv=>whnf
 repeat' (first|(refine CallX.exact (s154 _) rfl rfl ?_;rotate_right;conv=>whnf)|(refine CallX.exact (s107 _ _) rfl rfl ?_;rotate_right;conv=>whnf)|((first|(refine br_intro ?_ ?_<;>intro hb<;>try simp only[brs]at hb)|omega|refine sAx ?_|decide|assumption)<;>conv=>whnf))
 refine .ret _ ?_;conv=>whnf
 refine⟨[],⟨?_,rfl⟩,trivial⟩;conv=>lhs;whnf
 congr 2
 grind
theorem sNotices (l:List Ntc)(hk:ntOk l):FSpec Tryz.prog 73 [.d (ntcs l)] [] (fun x r=>x= .d (.int .i64 (ntcsE l))∧r= []):=by
 refine spec_of hT (C:= []) Tryz.func73 rfl Tryz.call73 rfl rfl rfl ?_;conv=>whnf
 refine br_intro (fun h0=> ?_) (fun h0=> ?_)
 · simp at h0;conv=>whnf
   refine .ret _ ?_;conv=>whnf
   refine⟨[],⟨?_,rfl⟩,trivial⟩;conv=>lhs;whnf
   unfold ntcsE;rw[if_pos (by omega)]
 simp at h0;conv=>whnf
 refine LoopX.rule hT (C:= []) (ι:=Nat) (fun i=>i≤l.length∧∀j,j<i→ntcE l j=0) (fun i=>mkSt [(0,.d (ntcs l)),(8,.d (ntcs l)),(9,.d (.int .i64 l.length)),(10,.d (.int .i64 i))] []) (fun i=>l.length - i) 0 ⟨by omega,by omega⟩ (by exact eAx []) ?_;rintro i ⟨p1,p2⟩;have hx:(i:Int)<l.length→ntK (l.getD (i:Int).toNat ntc0):=fun hi=>hk.2 _ (getD_mem (by omega))
 have e1:(i:Int).toNat=i:=Int.toNat_natCast i
 have hbad:∀e:Int,i<l.length→e≠0→ntcE l i=e→ntcsE l=e:=fun e h h1 h2=>by
  unfold ntcsE;rw[if_neg (by omega)];exact firstAt_eq h p2 h1 h2
 conv=>whnf
 repeat' (first|(refine CallX.exact (s108 _ (hx (by omega)).1) rfl rfl ?_;rotate_right;conv=>whnf)|(refine CallX.exact (s185 _ (hx (by omega)).2) rfl rfl ?_;rotate_right;conv=>whnf)|(refine CallX.exact (s119 _ _ _) rfl rfl ?_;rotate_right;conv=>whnf)|(refine CallX.exact (s154 _) rfl rfl ?_;rotate_right;conv=>whnf)|((first|(refine br_intro ?_ ?_<;>intro hb<;>try simp only[brs]at hb)|refine rAx hT 8 oQDNtA73_8 ?_|omega|refine sAx ?_|decide|assumption)<;>conv=>whnf))
 all_goals first
  |(refine⟨i+1,⟨by omega,first_step p2 (by clear p2 hbad hk hx;simp only[e1,toNat_pred]at*;unfold ntcE strLe;grind)⟩,by omega,(by exact eAx [])⟩)
  | (refine .ret _ ?_
     conv=>whnf
     refine⟨[],⟨?_,rfl⟩,trivial⟩;conv=>lhs;whnf
     congr 2
     first
      |exact(hbad _ (by omega) (by decide) (by clear p2 hbad hk hx;simp only[e1,toNat_pred]at*;unfold ntcE strLe;grind)).symm
      | (have:i=l.length:=by omega
         subst this
         unfold ntcsE;rw[if_neg (by omega),firstAt_zero p2]))
def dueE (r:Ntr)(n:Ntc)(t:Int):Int:=firstE [ntrE r,ntcsE [n],if 0≤t∧t≤5761439 then 0 else 1,if t<n.came then 11 else 0]
def dueO (r:Ntr)(n:Ntc)(t:Int):Int:=(max 0 (t.tdiv 1440 - n.came.tdiv 1440 - r.pay)+r.step - 1).tdiv r.step
def dueV (r:Ntr)(n:Ntc)(t:Int):Int:=n.cents+dueO r n t*r.late
theorem ntc_one {n:Ntc}(h:ntcsE [n]=0):isKeyB n.key=true∧isPlateB n.plate=true∧(0≤n.tm∧n.tm≤n.came)∧(0≤n.came∧n.came≤5761439)∧(0≤n.cents∧n.cents≤1000000):=by
 have h:ntcE [n] 0=0:=by simpa [ntcsE,firstAt]using h
 unfold ntcE at h;simp only[List.getD_cons_zero]at h;grind
theorem ntr_zero {r:Ntr}(h:ntrE r=0):(0≤r.name∧r.name≤4000)∧(0≤r.pay∧r.pay≤4000)∧(1≤r.step∧r.step≤4000)∧(0≤r.late∧r.late≤1000000):=by unfold ntrE at h;grind
theorem dueE_zero {r:Ntr}{n:Ntc}{t:Int}(h:dueE r n t=0):ntrE r=0∧ntcsE [n]=0∧(0≤t∧t≤5761439)∧n.came≤t:=by
 unfold dueE at h;simp only[firstE]at h;grind
theorem mul_bdN {a b A B:Int}(h0:0≤a)(h1:a≤A)(h2:0≤b)(h3:b≤B):0≤a*b∧a*b≤A*B:=
 ⟨Int.mul_nonneg h0 h2,Int.mul_le_mul h1 h3 h2 (by omega)⟩
theorem tdiv_bd {a b:Int}(h0:0≤a)(h1:1≤b):0≤a.tdiv b∧a.tdiv b≤a:=by
 refine⟨Int.tdiv_nonneg h0 (by omega),?_⟩;have h4:=Int.tmod_add_mul_tdiv a b;have h2:0≤a.tmod b:=Int.tmod_nonneg _ h0;have h5:a.tdiv b*1≤a.tdiv b*b:=Int.mul_le_mul_of_nonneg_left h1 (Int.tdiv_nonneg h0 (by omega));rw[Int.mul_comm]at h4;omega
theorem dueO_bd {r:Ntr}{n:Ntc}{t:Int}(h1:ntrE r=0)(hc:0≤n.came)(ht:n.came≤t)(ht2:t≤5761439):0≤dueO r n t∧dueO r n t≤10000:=by
 obtain⟨_,h2,h3,_⟩:=ntr_zero h1;unfold dueO;have a1:=tdiv_bd (a:=t) (b:=1440) (by omega) (by omega);have a2:=tdiv_bd (a:=n.came) (b:=1440) (by omega) (by omega);have h4:=Int.tmod_add_mul_tdiv t 1440;have h5:0≤t.tmod 1440:=Int.tmod_nonneg _ (by omega);obtain⟨q,hq⟩:∃q,q=max 0 (t.tdiv 1440 - n.came.tdiv 1440 - r.pay)+r.step - 1:=⟨_,rfl⟩;have hq0:0≤q∧q≤10000:=by omega
 rw[←hq];have:=tdiv_bd hq0.1 h3.1;omega
def dueW (r:Ntr)(n:Ntc)(t:Int):SV:=if dueE r n t=0 then .tup [.d (.int .i64 (dueV r n t)),.d (.int .i64 0)]else .tup [.d (.int .i64 0),.d (.int .i64 (dueE r n t))]
theorem ntOk_one {n:Ntc}(h:ntK n):ntOk [n]:=⟨by simp,fun x hx=>by rw[List.mem_singleton]at hx;rw[hx];exact h⟩
theorem sDue (r:Ntr)(n:Ntc)(t:Int)(hn:ntK n):FSpec Tryz.prog 36 [.agg ((ntrF r).map .d),.agg ((ntcF n).map .d),.d (.int .i64 t)] [] (fun x o=>x=dueW r n t∧o= []):=by
 have h105:=s105 [ntrE r,ntcsE [n],if 0≤t∧t≤5761439 then 0 else 1,if decide (t<n.came)=true then 11 else 0] (by simp)
 have hE:firstE [ntrE r,ntcsE [n],if 0≤t∧t≤5761439 then 0 else 1,if decide (t<n.came)=true then 11 else 0]=dueE r n t:=by
  unfold dueE;simp only[decide_eq_true_eq]
 rw[hE]at h105;unfold dueW
 by_cases hz:dueE r n t=0
 · rw[if_pos hz];rw[hz]at h105;obtain⟨h1,h2,h3,h4⟩:=dueE_zero hz;obtain⟨_,_,_,h5,h6⟩:=ntc_one h2;obtain⟨_,h7,h8,h9⟩:=ntr_zero h1;have hO:=dueO_bd h1 h5.1 h4 h3.2;have hM:=mul_bdN hO.1 hO.2 h9.1 h9.2;have a1:=tdiv_bd (a:=t) (b:=1440) (by omega) (by omega);have a2:=tdiv_bd (a:=n.came) (b:=1440) (by omega) (by omega);have hM1:inI64 (dueO r n t*r.late):=by unfold inI64;omega
   have hM2:inI64 (dueV r n t):=by unfold dueV inI64;omega
   have hq:inI64 (max 0 (t.tdiv 1440 - n.came.tdiv 1440 - r.pay)+r.step):=by unfold inI64;omega
   have hq2:inI64 (max 0 (t.tdiv 1440 - n.came.tdiv 1440 - r.pay)+r.step - 1):=by unfold inI64;omega
   have hq3:inI64 (dueO r n t):=by unfold inI64;omega
   refine spec_of hT (C:= []) Tryz.func36 rfl Tryz.call36 rfl rfl rfl ?_;conv=>whnf
   repeat' (first|(refine CallX.exact (sNtRules r) rfl rfl ?_;rotate_right;conv=>whnf)|(refine CallX.pure (sNotices [n] (ntOk_one hn)) ⟨SV.le_lit (by rfl) (by rfl),trivial⟩ rfl ?_;conv=>whnf)|(refine CallX.exact (sMoment t) rfl rfl ?_;rotate_right;conv=>whnf)|(refine CallX.exact (s107 _ _) rfl rfl ?_;rotate_right;conv=>whnf)|((first|refine CallX.pure h105 ⟨SV.le_lit (by rfl) (by rfl),trivial⟩ rfl ?_|refine And.intro hq ?_|refine And.intro hq2 ?_|refine And.intro hq3 ?_|refine And.intro hM1 ?_|refine And.intro hM2 ?_|(refine br_intro ?_ ?_<;>intro hb<;>try simp only[brs]at hb)|refine rAx hT 1 oQDNtA36_1 ?_|refine rAx hT 5 oQDNtA36_5 ?_|omega|refine sAx ?_|decide|assumption)<;>conv=>whnf))
   refine .ret _ ?_;conv=>whnf
   refine⟨[],⟨congrArg SV.tup ?_,rfl⟩,trivial⟩;repeat' (refine cons_eq ?_ ?_)
   all_goals (conv=>lhs;whnf)
   all_goals try(with_reducible rfl)
   all_goals rfl
 · rw[if_neg hz];generalize dueE r n t=e at h105 hz;refine spec_of hT (C:= []) Tryz.func36 rfl Tryz.call36 rfl rfl rfl ?_;conv=>whnf
   repeat' (first|(refine CallX.exact (sNtRules r) rfl rfl ?_;rotate_right;conv=>whnf)|(refine CallX.pure (sNotices [n] (ntOk_one hn)) ⟨SV.le_lit (by rfl) (by rfl),trivial⟩ rfl ?_;conv=>whnf)|(refine CallX.exact (sMoment t) rfl rfl ?_;rotate_right;conv=>whnf)|(refine CallX.exact (s107 _ _) rfl rfl ?_;rotate_right;conv=>whnf)|((first|refine CallX.pure h105 ⟨SV.le_lit (by rfl) (by rfl),trivial⟩ rfl ?_|(refine br_intro ?_ ?_<;>intro hb<;>try simp only[brs]at hb)|refine rAx hT 1 oQDNtA36_1 ?_|refine rAx hT 5 oQDNtA36_5 ?_|omega|refine sAx ?_|decide|assumption)<;>conv=>whnf))
   refine .ret _ ?_;conv=>whnf
   refine⟨[],⟨congrArg SV.tup ?_,rfl⟩,trivial⟩;repeat' (refine cons_eq ?_ ?_)
   all_goals (conv=>lhs;whnf)
   all_goals try(with_reducible rfl)
   all_goals rfl
structure Cls where
 key:List UInt8
 up:List UInt8
structure Veh where
 key:List UInt8
 cls:List UInt8
structure Sta where
 key:List UInt8
 h:Nat→Int
def clsF:Cls→List DV:=fun c=> [.str c.key,.str c.up]
def cls0:Cls:=⟨[],[]⟩
abbrev clss (l:List Cls):DV:=seqD 2 clsF cls0 l
def vehF:Veh→List DV:=fun c=> [.str c.key,.str c.cls]
def veh0:Veh:=⟨[],[]⟩
abbrev vehs (l:List Veh):DV:=seqD 2 vehF veh0 l
def pltF:Plt→List DV:=fun p=> [.int .i64 p.frm,.str p.veh,.str p.plt]
def plt0:Plt:=⟨0,[],[]⟩
abbrev plts (l:List Plt):DV:=seqD 3 pltF plt0 l
def staF:Sta→List DV:=fun s=> [.str s.key,.int .i64 (s.h 0),.int .i64 (s.h 1),.int .i64 (s.h 2),.int .i64 (s.h 3),.int .i64 (s.h 4),.int .i64 (s.h 5),.int .i64 (s.h 6),.int .i64 (s.h 7),.int .i64 (s.h 8),.int .i64 (s.h 9),.int .i64 (s.h 10),.int .i64 (s.h 11),.int .i64 (s.h 12),.int .i64 (s.h 13)]
def sta0:Sta:=⟨[],fun _=>0⟩
abbrev stas (l:List Sta):DV:=seqD 15 staF sta0 l
def clsK (c:Cls):Prop:=c.key.length≤8∧c.up.length≤8
def vehK (c:Veh):Prop:=c.key.length≤8∧c.cls.length≤8
def pltK (c:Plt):Prop:=(-2^40≤c.frm∧c.frm≤2^40)∧c.veh.length≤8∧c.plt.length≤16
def staK (c:Sta):Prop:=c.key.length≤8
def cls4:List Cls:= [⟨[98,105,103],[]⟩,⟨[109,97,120,105],[]⟩,⟨[109,105,100,105],[]⟩,⟨[109,105,110,105],[]⟩]
def clsB (l:List Cls):Prop:=l.length≤4∧∀x ∈ l,clsK x
def oQShH76_1:OL:= [(0,[]),(1,[]),(2,[]),(3,[0,1,2]),(4,[0,1,2]),(5,[0,1,2]),(6,[]),(7,[]),(8,[])]
def oQShH76_6:OL:= [(0,[]),(1,[]),(2,[]),(3,[]),(4,rg 4),(5,rg 5),(6,rg 5),(7,rg 5),(8,rg 5),(9,rg 9),(10,rg 10),(11,rg 10),(12,rg 10),(13,rg 13),(14,rg 13),(15,rg 13),(16,rg 13),(17,[9,13,14,15,16]),(18,[9,13,14,15,16]),(19,[]),(20,[])]
def oQShH76_12:OL:= [(0,[]),(1,[0]),(2,[0]),(3,[0]),(4,[0]),(5,rg 5),(6,rg 6),(7,rg 7),(8,rg 7),(9,rg 5),(10,rg 5),(11,[0]),(12,[]),(13,[]),(14,[])]
def nHas (l:List Roa):Nat→List DV→Bool
 |0=>fun _=>false
 |n+1=>fun q=>keyEq q [.str (l.getD n rd0).a,.str (l.getD n rd0).b]||nHas l n q
def nVal (l:List Roa):Nat→List DV→List DV
 |0=>fun _=> [.str [],.str [],.int .i64 0,.int .i64 0]
 |n+1=>fun q=>bif keyEq q [.str (l.getD n rd0).a,.str (l.getD n rd0).b]then rdF (l.getD n rd0)else nVal l n q
abbrev netR (l:List Roa)(n:Nat):Res:=.map true true [.str,.str] [.str [],.str [],.int .i64 0,.int .i64 0] (nHas l n) (nVal l n)
theorem s165 (l:List Roa)(hl:l.length≤2^40):FSpec Tryz.prog 122 [.d (roas l)] [] (fun y r=>y= .mp 3∧r= [(3,netR l l.length)]):=by
 refine spec_of hT (C:= []) Tryz.func122 rfl Tryz.call122 rfl rfl rfl ?_;conv=>whnf
 refine LoopX.rule hT (C:= []) (ι:=Nat) (fun i=>i≤l.length) (fun i=>mkSt [(3,.mp 3),(7,.d (roas l)),(8,.d (.int .i64 l.length)),(9,.d (.int .i64 i))] [(3,netR l i)]) (fun i=>l.length - i) 0 (by omega) ?_ ?_
 · exact Entails.mk' [(3,6)] rfl rfl ⟨lr,lr,lr,lr,trivial⟩ ⟨rr,trivial⟩
 rintro i p1;conv=>whnf
 repeat' (first|((first|(refine br_intro ?_ ?_<;>intro hb<;>try simp only[brs]at hb)|omega|refine sAx ?_|decide|assumption)<;>conv=>whnf))
 · exact⟨i+1,by omega,by omega,Entails.mk' [(3,3)] rfl rfl ⟨lr,lr,lr,lr,trivial⟩ ⟨rr,trivial⟩⟩
 · have:i=l.length:=by omega
   subst this;refine .ret _ ?_;conv=>whnf
   exact⟨_,⟨rfl,rfl⟩,rr,trivial⟩
structure Arc where
 fr:Int
 to:Int
 car:Int
 flow:Int
def arF:Arc→List DV:=fun s=> [.int .i64 s.fr,.int .i64 s.to,.int .i64 s.car,.int .i64 s.flow]
def ar0:Arc:=⟨0,0,0,0⟩
abbrev froI (l:List Int):Res:=.fro 1 l.length (rowF iF 0 l)
abbrev arcB (l:List Arc):Res:=seqB 180 4 arF ar0 l
set_option maxHeartbeats 4000000 in
theorem s114t:FSpec Tryz.prog 76 [.d (neds tN),.d (roas tR)] [] (fun y r=>y= .ptr 20 0∧r= [(20,.cells 178 [.buf 15,.buf 18,.buf 88]),(15,froI [1,0]),(18,froI [0,1]),(88,arcB [⟨0,1,4,0⟩])]):=by
 refine spec_of hT (C:= []) Tryz.func76 rfl Tryz.call76 rfl rfl rfl ?_;conv=>whnf
 repeat' (first|((first|(refine oAx (s165 tR (by simp[tR])) [(3,22)] ?_;rintro x rout ⟨rfl,rfl⟩;refine⟨rfl,?_⟩)|refine LoopX.run hT (C:= []) 8 rfl [0,5,6,23,24,25] [] (fun _ _ h=>h) (fun _ h=>h) ?_|refine LoopX.run hT (C:= []) 16 rfl [0,5,6,7,8,23,24,25,49,50,51] [] (fun _ _ h=>h) (fun _ h=>h) ?_|refine And.intro (rfl:zrow _=some [.str [],.str [],.int .i64 0,.int .i64 0]) ?_|(refine br_intro ?_ ?_<;>intro hb<;>try simp only[brs]at hb)|refine rAx hT 1 oQShH76_1 ?_|refine rAx hT 6 oQShH76_6 ?_|refine rAx hT 12 oQShH76_12 ?_|omega|refine sAx ?_|decide|assumption)<;>conv=>whnf))
 refine .freeze _ 15 3 1 _ _ rfl (.freeze _ 18 3 1 _ _ rfl (.ret _ ?_));conv=>whnf
 refine⟨_,⟨rfl,rfl⟩,rr,Res.le_fro rfl ?_,Res.le_fro rfl ?_,Res.le_buf rfl ?_,trivial⟩
 · intro i hi;have:i=0∨i=1:=by simp[tN]at hi;omega
   rcases this with rfl|rfl<;>rfl
 · intro i hi;have:i=0∨i=1:=by simp[tN]at hi;omega
   rcases this with rfl|rfl<;>rfl
 · intro i hi;have:i=0:=by simp at hi;omega
   subst this;rfl
theorem s166 (l:List Int)(hl:l.length≤2^20)(h0:0<l.length):FSpec Tryz.prog 123 [.d (ints l)] [] (fun y r=>y= .buf 7∧r= [(7,seqB 3 1 iF 0 l)]):=by
 refine spec_of hT (C:= [5]) Tryz.func123 rfl Tryz.call123 rfl rfl rfl ?_;conv=>whnf
 rintro b hbn;conv=>whnf
 repeat' (first|((first|(refine br_intro ?_ ?_<;>intro hb<;>try simp only[brs]at hb)|omega|refine sAx ?_|decide|assumption)<;>conv=>whnf))
 · exact absurd (hbn (by assumption)) (by omega)
 · refine .ret _ ?_;conv=>whnf
   refine⟨_,⟨rfl,rfl⟩,Res.le_buf (by simp) (fun i hi=> ?_),trivial⟩;rw[appGet_ge (by omega)];rfl
theorem s168e (g:Nat→List DV):FSpec Tryz.prog 125 [.d (.ro 4 0 g)] [] (fun y r=>y= .d (seqD 4 arF ar0 [])∧r= []):=by
 refine spec_of hT (C:= [5]) Tryz.func125 rfl Tryz.call125 rfl rfl rfl ?_;conv=>whnf
 rintro b hbn;conv=>whnf
 repeat' (first|((first|(refine br_intro ?_ ?_<;>intro hb<;>try simp only[brs]at hb)|omega|refine sAx ?_|decide|assumption)<;>conv=>whnf))
 · refine .weak _ ?_;conv=>whnf
   exact⟨_,[],SV.le_nilS,⟨rfl,rfl⟩,trivial⟩
 · refine .freeze _ 7 180 4 _ _ rfl (.weak _ ?_);conv=>whnf
   exact⟨_,[],SV.le_ro (by simp) (fun i hi=>absurd hi (by simp)),⟨rfl,rfl⟩,trivial⟩
def oQShI124_1:OL:= [(0,[]),(1,[]),(2,[]),(3,[]),(4,[]),(5,[]),(6,rg 6),(7,rg 6),(8,rg 6),(9,rg 6),(10,rg 6),(11,rg 6),(12,[6,7,8,9,10,11]),(13,[])]
def oQShI124_15:OL:= [(0,[]),(1,[0]),(2,[0]),(3,[]),(4,[]),(5,[]),(6,[]),(7,[]),(8,[7]),(9,[7]),(10,[]),(11,[]),(12,[7,8,9,10,11]),(13,[7,8,9,10,11]),(14,[]),(15,[7,8,9,10,11,12,13,14]),(16,[7,8,9,10,11,12,13,14,15]),(17,[7,8,9,10,11,12,13,14,15]),(18,[7,8,9,10,11,12,13,14]),(19,[7,8,9,10,11,12,13,14]),(20,[]),(21,[])]
def oQShI124_16:OL:= [(0,[]),(1,[0]),(2,[0]),(3,[0,1,2]),(4,rg 4),(5,rg 4),(6,rg 6),(7,rg 7),(8,rg 7),(9,rg 6),(10,rg 6),(11,rg 11),(12,rg 11),(13,rg 6),(14,rg 14),(15,rg 14),(16,[3,4,5,14,15]),(17,[3,4,5,14,15]),(18,[]),(19,[]),(20,[])]
def oQShI124_17:OL:= [(0,[]),(1,[]),(2,[]),(3,[]),(4,[]),(5,[4]),(6,[4]),(7,[]),(8,[]),(9,[]),(10,[]),(11,[]),(12,[]),(13,[12]),(14,[12]),(15,[]),(16,[]),(17,[12,13,14,15,16]),(18,[12,13,14,15,16]),(19,[]),(20,[12,13,14,15,16,17,18,19]),(21,[12,13,14,15,16,17,18,19,20]),(22,[12,13,14,15,16,17,18,19,20]),(23,[12,13,14,15,16,17,18,19]),(24,[12,13,14,15,16,17,18,19]),(25,[]),(26,[])]
def oQShI124_18:OL:= [(0,[]),(1,[0]),(2,[0]),(3,[0,1,2]),(4,rg 4),(5,rg 4),(6,rg 6),(7,rg 7),(8,rg 7),(9,rg 6),(10,rg 6),(11,rg 11),(12,rg 11),(13,rg 6),(14,rg 14),(15,rg 14),(16,[3,4,5,14,15]),(17,[3,4,5,14,15]),(18,[]),(19,[]),(20,[])]
def oQShI78_1:OL:= [(0,[]),(1,[]),(2,[]),(3,[]),(5,rg 4),(6,rg 4),(7,rg 4),(8,rg 4),(10,[0,1,2,3,5,6,7,8]),(11,[0,1,2,3,5,6,7,8]),(12,[0,1,2,3,5,6,7,8]),(13,[0,1,2,3,5,6,7,8]),(14,[0,1,2,3,5,6,7,8,10,11,12,13]),(15,[0,1,2,3,5,6,7,8]),(4,[5,6,7,8,10,11,12,13,14,15]),(9,[10,11,12,13,14,15]),(16,[]),(17,[]),(18,[]),(19,[])]
def stF:Int×Bool→List DV:=fun s=> [.int .i64 s.1,.bool s.2]
abbrev steps (l:List (Int×Bool)):DV:=seqD 2 stF (0,false) l
abbrev tpC:Res:=.cells 178 [.buf 1000001,.buf 1000002,.buf 1000003]
abbrev tpB (h w:List Int)(l:List Arc):List (Nat×Res):= [(1000000,tpC),(1000001,froI h),(1000002,froI w),(1000003,arcB l)]
abbrev tpD (h w:List Int):List (Nat×Res):= [(1000000,.cells 178 [.buf 1000001,.buf 1000002,.d (seqD 4 arF ar0 [])]),(1000001,froI h),(1000002,froI w)]
set_option maxHeartbeats 4000000 in
theorem s167a:FSpec Tryz.prog 124 [.ptr 1000000 0,.buf 1000004] ([(1000004,seqB 3 1 iF 0 [1,0])]++tpB [1,0] [0,1] [⟨0,1,4,0⟩])
 (fun y r=>y= .tup [.d (ints [0,4]),.d (steps [(-1,false),(0,false)])]∧r= [(1000004,seqB 3 1 iF 0 [1,0])]++tpB [1,0] [0,1] [⟨0,1,4,0⟩]):=by
 refine spec_of hT (C:= []) Tryz.func124 rfl Tryz.call124 rfl rfl rfl ?_;conv=>whnf
 repeat' (first|((first|refine LoopX.run hT (C:= []) 6 rfl [0,1,4,5,23,24] [1000000,1000001,1000002,1000003,1000004] (fun _ _ h=>h) (fun _ h=>h) ?_|refine LoopX.run hT (C:= []) 20 rfl [0,4,5,7] [1000000,1000001,1000002,1000003,1000004] (fun _ _ h=>h) (fun _ h=>h) ?_|refine LoopX.run hT (C:= []) 26 rfl [0,4,5,7,47,48,49] [1000000,1000001,1000002,1000003,1000004] (fun _ _ h=>h) (fun _ h=>h) ?_|(refine br_intro ?_ ?_<;>intro hb<;>try simp only[brs]at hb)|refine rAx hT 1 oQShI124_1 ?_|refine rAx hT 15 oQShI124_15 ?_|refine rAx hT 16 oQShI124_16 ?_|refine rAx hT 17 oQShI124_17 ?_|refine rAx hT 18 oQShI124_18 ?_|omega|refine sAx ?_|decide|assumption)<;>conv=>whnf))
 refine .freeze _ 15 3 1 _ _ rfl (.freeze _ 21 231 2 _ _ rfl (.weak _ ?_));conv=>whnf
 refine⟨.tup [.d (ints [0,4]),.d (steps [(-1,false),(0,false)])],_,SV.le_tup ⟨SV.le_ro rfl ?_,SV.le_ro rfl ?_,trivial⟩,⟨rfl,rfl⟩,?_⟩
 · intro i hi;have:i=0∨i=1:=by simp at hi;omega
   rcases this with rfl|rfl<;>rfl
 · intro i hi;have:i=0∨i=1:=by simp at hi;omega
   rcases this with rfl|rfl<;>rfl
 · refine⟨rr,rr,rr,rr,?_⟩;first|exact trivial|exact⟨rr,trivial⟩
set_option maxHeartbeats 4000000 in
theorem s167b:FSpec Tryz.prog 124 [.ptr 1000000 0,.buf 1000004] ([(1000004,seqB 3 1 iF 0 [0,0])]++tpB [1,0] [0,1] [⟨0,1,4,1⟩])
 (fun y r=>y= .tup [.d (ints [1125899906842624,1125899906842624]),.d (steps [(-1,false),(-1,false)])]∧r= [(1000004,seqB 3 1 iF 0 [0,0])]++tpB [1,0] [0,1] [⟨0,1,4,1⟩]):=by
 refine spec_of hT (C:= []) Tryz.func124 rfl Tryz.call124 rfl rfl rfl ?_;conv=>whnf
 repeat' (first|((first|refine LoopX.run hT (C:= []) 6 rfl [0,1,4,5,23,24] [1000000,1000001,1000002,1000003,1000004] (fun _ _ h=>h) (fun _ h=>h) ?_|refine LoopX.run hT (C:= []) 20 rfl [0,4,5,7] [1000000,1000001,1000002,1000003,1000004] (fun _ _ h=>h) (fun _ h=>h) ?_|refine LoopX.run hT (C:= []) 26 rfl [0,4,5,7,47,48,49] [1000000,1000001,1000002,1000003,1000004] (fun _ _ h=>h) (fun _ h=>h) ?_|(refine br_intro ?_ ?_<;>intro hb<;>try simp only[brs]at hb)|refine rAx hT 1 oQShI124_1 ?_|refine rAx hT 15 oQShI124_15 ?_|refine rAx hT 16 oQShI124_16 ?_|refine rAx hT 17 oQShI124_17 ?_|refine rAx hT 18 oQShI124_18 ?_|omega|refine sAx ?_|decide|assumption)<;>conv=>whnf))
 refine .freeze _ 15 3 1 _ _ rfl (.freeze _ 21 231 2 _ _ rfl (.weak _ ?_));conv=>whnf
 refine⟨.tup [.d (ints [1125899906842624,1125899906842624]),.d (steps [(-1,false),(-1,false)])],_,SV.le_tup ⟨SV.le_ro rfl ?_,SV.le_ro rfl ?_,trivial⟩,⟨rfl,rfl⟩,?_⟩
 · intro i hi;have:i=0∨i=1:=by simp at hi;omega
   rcases this with rfl|rfl<;>rfl
 · intro i hi;have:i=0∨i=1:=by simp at hi;omega
   rcases this with rfl|rfl<;>rfl
 · refine⟨rr,rr,rr,rr,?_⟩;first|exact trivial|exact⟨rr,trivial⟩
set_option maxHeartbeats 4000000 in
theorem s167c:FSpec Tryz.prog 124 [.ptr 1000000 0,.buf 1000004] ([(1000004,seqB 3 1 iF 0 [0,0])]++tpD [0,0] [0,0])
 (fun y r=>y= .tup [.d (ints [1125899906842624,1125899906842624]),.d (steps [(-1,false),(-1,false)])]∧r= [(1000004,seqB 3 1 iF 0 [0,0])]++tpD [0,0] [0,0]):=by
 refine spec_of hT (C:= []) Tryz.func124 rfl Tryz.call124 rfl rfl rfl ?_;conv=>whnf
 repeat' (first|((first|refine LoopX.run hT (C:= []) 6 rfl [0,1,4,5,23,24] [1000000,1000001,1000002,1000004] (fun _ _ h=>h) (fun _ h=>h) ?_|refine LoopX.run hT (C:= []) 20 rfl [0,4,5,7] [1000000,1000001,1000002,1000004] (fun _ _ h=>h) (fun _ h=>h) ?_|refine LoopX.run hT (C:= []) 26 rfl [0,4,5,7,47,48,49] [1000000,1000001,1000002,1000004] (fun _ _ h=>h) (fun _ h=>h) ?_|(refine br_intro ?_ ?_<;>intro hb<;>try simp only[brs]at hb)|refine rAx hT 1 oQShI124_1 ?_|refine rAx hT 15 oQShI124_15 ?_|refine rAx hT 16 oQShI124_16 ?_|refine rAx hT 17 oQShI124_17 ?_|refine rAx hT 18 oQShI124_18 ?_|omega|refine sAx ?_|decide|assumption)<;>conv=>whnf))
 refine .freeze _ 15 3 1 _ _ rfl (.freeze _ 21 231 2 _ _ rfl (.weak _ ?_));conv=>whnf
 refine⟨.tup [.d (ints [1125899906842624,1125899906842624]),.d (steps [(-1,false),(-1,false)])],_,SV.le_tup ⟨SV.le_ro rfl ?_,SV.le_ro rfl ?_,trivial⟩,⟨rfl,rfl⟩,?_⟩
 · intro i hi;have:i=0∨i=1:=by simp at hi;omega
   rcases this with rfl|rfl<;>rfl
 · intro i hi;have:i=0∨i=1:=by simp at hi;omega
   rcases this with rfl|rfl<;>rfl
 · refine⟨rr,rr,rr,rr,?_⟩;first|exact trivial|exact⟨rr,trivial⟩
set_option maxHeartbeats 4000000 in
theorem s116t:FSpec Tryz.prog 78 [.ptr 1000000 0,.d (.int .i64 1),.d (.int .i64 0),.d (.int .i64 1),.d (.int .i64 1)] [(1000000,tpC),(1000001,froI [1,0]),(1000002,froI [0,1]),(1000003,.fro 4 1 (rowF arF ar0 [⟨0,1,4,1⟩]))]
 (fun y r=>y= .ptr 30 0∧r= [(1000000,tpC),(1000001,froI [1,0]),(1000002,froI [0,1]),(1000003,.fro 4 1 (rowF arF ar0 [⟨0,1,4,1⟩])),(30,.cells 178 [.buf 16,.buf 21,.d (seqD 4 arF ar0 [])]),(16,froI [0,0]),(21,froI [0,0])]):=by
 refine spec_of hT (C:= []) Tryz.func78 rfl Tryz.call78 rfl rfl rfl ?_;conv=>whnf
 refine RegX.rule hT rfl [] oQShI78_1 (by decide+kernel) ?_;conv=>whnf
 repeat' (first|((first|(refine oAx (s166 [1,0] (by simp) (by simp)) [(7,16)] ?_;rintro x rout ⟨rfl,rfl⟩;refine⟨rfl,?_⟩)|(refine oAx (s166 [0,1] (by simp) (by simp)) [(7,21)] ?_;rintro x rout ⟨rfl,rfl⟩;refine⟨rfl,?_⟩)|refine CallX.pure (s168e _) ⟨lr,trivial⟩ rfl ?_|(refine br_intro ?_ ?_<;>intro hb<;>try simp only[brs]at hb)|refine rAx hT 1 oQShI78_1 ?_|omega|refine sAx ?_|decide|assumption)<;>conv=>whnf))
 refine .freeze _ 16 3 1 _ _ rfl (.freeze _ 21 3 1 _ _ rfl (.ret _ ?_));conv=>whnf
 refine⟨_,⟨rfl,rfl⟩,rr,rr,rr,rr,rr,Res.le_fro rfl ?_,Res.le_fro rfl ?_,trivial⟩
 · intro i hi;have:i=0∨i=1:=by simp at hi;omega
   rcases this with rfl|rfl<;>rfl
 · intro i hi;have:i=0∨i=1:=by simp at hi;omega
   rcases this with rfl|rfl<;>rfl
def oQShJ77_1:OL:= [(0,[]),(1,[]),(2,[]),(3,[]),(5,rg 4),(6,rg 4),(7,rg 4),(8,rg 4),(4,[5,6,7,8]),(9,[]),(10,[]),(11,[])]
def oQShJ77_14:OL:= [(0,[]),(1,[]),(2,[]),(3,[]),(4,[3]),(5,[]),(6,[]),(7,[]),(8,[]),(9,[]),(10,[]),(11,[]),(12,[]),(13,[]),(14,[13]),(15,[]),(16,[]),(17,[13,14,15,16]),(18,[13,14,15,16,17]),(19,[13,14,15,16]),(20,[13,14,15,16]),(21,[]),(22,[]),(23,[])]
def oQShJ77_21:OL:= [(0,[]),(1,[]),(2,[]),(3,[]),(4,rg 4),(5,rg 5),(6,rg 4),(7,rg 4),(8,rg 4),(9,[]),(10,[]),(11,rg 11),(12,[])]
def oQShJ77_23:OL:= [(0,[]),(1,[0]),(2,[0]),(3,[]),(4,rg 4),(5,rg 4),(6,[4,5]),(7,[])]
def oQShJ77_31:OL:= [(0,[]),(1,[]),(2,[]),(3,[]),(4,rg 4),(5,rg 5),(6,rg 4),(7,rg 4),(8,rg 4),(9,[]),(10,[])]
def oQShJ37_13:OL:= [(0,[]),(1,[0]),(2,[0]),(3,[0]),(4,[0]),(5,rg 5),(6,rg 5),(7,[0]),(8,[0]),(9,rg 9),(10,rg 9),(11,rg 9),(12,rg 9),(13,rg 13),(14,rg 13),(15,rg 9),(16,rg 9),(17,[0]),(18,[])]
def oQShJ37_19:OL:= [(0,[]),(1,[0]),(2,[0,1]),(3,[0,1]),(4,[0]),(5,[0]),(6,[0]),(7,rg 7),(8,rg 8),(9,rg 8),(10,rg 7),(11,rg 7),(12,rg 7),(13,rg 13),(14,[0]),(15,[0]),(16,[]),(17,[])]
set_option maxHeartbeats 8000000 in
theorem s115a:FSpec Tryz.prog 77 [.ptr 1000000 0] (tpB [1,0] [0,1] [⟨0,1,4,0⟩]) (fun y r=>y= .tup [.d (.int .i64 4),.d (.bool true)]∧r=tpB [1,0] [0,1] [⟨0,1,4,1⟩]):=by
 refine spec_of hT (C:= []) Tryz.func77 rfl Tryz.call77 rfl rfl rfl ?_;conv=>whnf
 refine RegX.rule hT rfl [] oQShJ77_1 (by decide+kernel) ?_;conv=>whnf
 repeat' (first|((first|(refine oAx (s166 [1,0] (by simp) (by simp)) [(7,22)] ?_;rintro x rout ⟨rfl,rfl⟩;refine⟨rfl,?_⟩)|(refine oAx (s166 [0,1] (by simp) (by simp)) [(7,27)] ?_;rintro x rout ⟨rfl,rfl⟩;refine⟨rfl,?_⟩))<;>conv=>whnf)|(refine CallX.of s167a [(1000000,1000000),(1000001,1000001),(1000002,1000002),(1000003,1000003),(1000004,22)] rfl ⟨lr,lr,trivial⟩ ⟨(Res.le_buf rfl (fun i hi=>by(have:i=0∨i=1:=by simp at hi;omega);rcases this with(rfl|rfl)<;>rfl)),rr,rr,rr,(Res.le_buf rfl (fun i hi=>by(have:i=0:=by simp at hi;omega);subst this;rfl)),trivial⟩ rfl rfl ?_;rintro x rout ⟨rfl,rfl⟩;refine⟨rfl,?_⟩;conv=>whnf)|(refine CallX.of s167b [(1000000,1000000),(1000001,1000001),(1000002,1000002),(1000003,1000003),(1000004,22)] rfl ⟨lr,lr,trivial⟩ ⟨(Res.le_buf rfl (fun i hi=>by(have:i=0∨i=1:=by simp at hi;omega);rcases this with(rfl|rfl)<;>rfl)),rr,rr,rr,(Res.le_buf rfl (fun i hi=>by(have:i=0:=by simp at hi;omega);subst this;rfl)),trivial⟩ rfl rfl ?_;rintro x rout ⟨rfl,rfl⟩;refine⟨rfl,?_⟩;conv=>whnf)|((first|refine LoopX.run hT (C:= []) 6 rfl [0,4,5,32,33] [1000000,1000001,1000002,1000003] (fun _ _ h=>h) (fun _ h=>h) ?_|refine LoopX.run hT (C:= []) 7 rfl [0,4,5,7] [1000000,1000001,1000002,1000003] (fun _ _ h=>h) (fun _ h=>h) ?_|refine LoopX.run hT (C:= []) 22 rfl [0,4,5,7,8,9,10,11,50,51,52] [1000000,1000001,1000002,1000003] (fun _ _ h=>h) (fun _ h=>h) ?_|refine LoopX.run hT (C:= []) 40 rfl [0,4,5,7,8,9,10,14,15] [1000000,1000001,1000002,1000003] (fun _ _ h=>h) (fun _ h=>h) ?_|refine LoopX.run hT (C:= []) 60 rfl [0,4,5,7,9,14,15] [1000000,1000001,1000002,1000003] (fun _ _ h=>h) (fun _ h=>h) ?_|(refine br_intro ?_ ?_<;>intro hb<;>try simp only[brs]at hb)|refine rAx hT 1 oQShJ77_1 ?_|refine rAx hT 14 oQShJ77_14 ?_|refine rAx hT 21 oQShJ77_21 ?_|refine rAx hT 23 oQShJ77_23 ?_|refine rAx hT 31 oQShJ77_31 ?_|omega|refine sAx ?_|decide|assumption)<;>conv=>whnf))
 refine .weak _ ?_;conv=>whnf
 exact⟨.tup [.d (.int .i64 4),.d (.bool true)],_,SV.le_tup ⟨SV.le_int rfl,SV.le_bool rfl,trivial⟩,⟨rfl,rfl⟩,rr,rr,rr,(Res.le_buf rfl (fun i hi=>by(have:i=0:=by simp at hi;omega);subst this;rfl)),trivial⟩
set_option maxHeartbeats 8000000 in
theorem s115b:FSpec Tryz.prog 77 [.ptr 1000000 0] (tpD [0,0] [0,0]) (fun y r=>y= .tup [.d (.int .i64 0),.d (.bool true)]∧r=tpD [0,0] [0,0]):=by
 refine spec_of hT (C:= []) Tryz.func77 rfl Tryz.call77 rfl rfl rfl ?_;conv=>whnf
 refine RegX.rule hT rfl [] oQShJ77_1 (by decide+kernel) ?_;conv=>whnf
 repeat' (first|((first|(refine oAx (s166 [0,0] (by simp) (by simp)) [(7,22)] ?_;rintro x rout ⟨rfl,rfl⟩;refine⟨rfl,?_⟩)|(refine oAx (s166 [0,0] (by simp) (by simp)) [(7,27)] ?_;rintro x rout ⟨rfl,rfl⟩;refine⟨rfl,?_⟩)|(refine oAx s167c [(1000000,1000000),(1000001,1000001),(1000002,1000002),(1000004,22)] ?_;rintro x rout ⟨rfl,rfl⟩;refine⟨rfl,?_⟩)|refine LoopX.run hT (C:= []) 6 rfl [0,4,5,32,33] [1000000,1000001,1000002] (fun _ _ h=>h) (fun _ h=>h) ?_|refine LoopX.run hT (C:= []) 7 rfl [0,4,5,7] [1000000,1000001,1000002] (fun _ _ h=>h) (fun _ h=>h) ?_|refine LoopX.run hT (C:= []) 22 rfl [0,4,5,7,8,9,10,11,50,51,52] [1000000,1000001,1000002] (fun _ _ h=>h) (fun _ h=>h) ?_|refine LoopX.run hT (C:= []) 40 rfl [0,4,5,7,8,9,10,14,15] [1000000,1000001,1000002] (fun _ _ h=>h) (fun _ h=>h) ?_|refine LoopX.run hT (C:= []) 60 rfl [0,4,5,7,9,14,15] [1000000,1000001,1000002] (fun _ _ h=>h) (fun _ h=>h) ?_|(refine br_intro ?_ ?_<;>intro hb<;>try simp only[brs]at hb)|refine rAx hT 1 oQShJ77_1 ?_|refine rAx hT 14 oQShJ77_14 ?_|refine rAx hT 21 oQShJ77_21 ?_|refine rAx hT 23 oQShJ77_23 ?_|refine rAx hT 31 oQShJ77_31 ?_|omega|refine sAx ?_|decide|assumption)<;>conv=>whnf))
 refine .weak _ ?_;conv=>whnf
 exact⟨.tup [.d (.int .i64 0),.d (.bool true)],_,SV.le_tup ⟨SV.le_int rfl,SV.le_bool rfl,trivial⟩,⟨rfl,rfl⟩,rr,rr,rr,trivial⟩
set_option maxHeartbeats 8000000 in
theorem s27t:FSpec Tryz.prog 37 [.d (neds tN),.d (roas tR)] [] (fun y r=>y= .tup [.d (movs [⟨[97],[98],1⟩]),.d (.int .i64 0)]∧r= []):=by
 refine spec_of hT (C:= []) Tryz.func37 rfl Tryz.call37 rfl rfl rfl ?_;conv=>whnf
 repeat' (first|(refine CallX.exact (s113t) rfl rfl ?_;rotate_right;conv=>whnf)|((first|(refine oAx s114t [(20,24),(15,1000),(18,1001),(88,1002)] ?_;rintro x rout ⟨rfl,rfl⟩;refine⟨rfl,?_⟩)|(refine oAx s115a [(1000000,24),(1000001,1000),(1000002,1001),(1000003,1002)] ?_;rintro x rout ⟨rfl,rfl⟩;refine⟨rfl,?_⟩)|(refine br_intro ?_ ?_<;>intro hb<;>try simp only[brs]at hb)|refine rAx hT 13 oQShJ37_13 ?_|refine rAx hT 19 oQShJ37_19 ?_|omega|refine sAx ?_|decide|assumption)<;>conv=>whnf))
 refine LoopX.freeze 1002 180 4 1 _ rfl ?_;repeat' (first|((first|(refine CallX.of s116t [(1000000,24),(1000001,1000),(1000002,1001),(1000003,1002),(30,1100),(16,1101),(21,1102)] rfl ⟨lr,SV.le_int rfl,SV.le_int rfl,SV.le_int rfl,SV.le_int rfl,trivial⟩ ⟨rr,rr,rr,Res.le_fro rfl (fun i hi=>by(have:i=0:=by simp at hi;omega);subst this;rfl),trivial⟩ rfl rfl ?_;rintro x rout ⟨rfl,rfl⟩;refine⟨rfl,?_⟩)|(refine CallX.of s116t [(1000000,24),(1000001,1000),(1000002,1001),(1000003,1002),(30,1200),(16,1201),(21,1202)] rfl ⟨lr,SV.le_int rfl,SV.le_int rfl,SV.le_int rfl,SV.le_int rfl,trivial⟩ ⟨rr,rr,rr,Res.le_fro rfl (fun i hi=>by(have:i=0:=by simp at hi;omega);subst this;rfl),trivial⟩ rfl rfl ?_;rintro x rout ⟨rfl,rfl⟩;refine⟨rfl,?_⟩)|(refine oAx s115b [(1000000,1100),(1000001,1101),(1000002,1102)] ?_;rintro x rout ⟨rfl,rfl⟩;refine⟨rfl,?_⟩)|refine LoopX.run hT (C:= []) 18 rfl [0,7,8,10] [] (fun _ _ h=>h) (fun _ h=>h) ?_|refine LoopX.run hT (C:= []) 26 rfl [0,7,8,10,11,12,13] [] (fun _ _ h=>h) (fun _ h=>h) ?_|(refine br_intro ?_ ?_<;>intro hb<;>try simp only[brs]at hb)|refine rAx hT 13 oQShJ37_13 ?_|refine rAx hT 19 oQShJ37_19 ?_|omega|refine sAx ?_|decide|assumption)<;>conv=>whnf))
 refine .freeze _ 106 183 3 _ _ rfl (.weak _ ?_);conv=>whnf
 exact⟨.tup [.d (movs [⟨[97],[98],1⟩]),.d (.int .i64 0)],_,SV.le_tup ⟨SV.le_ro rfl (fun i hi=>by(have:i=0:=by simp at hi;omega);subst this;rfl),SV.le_int rfl,trivial⟩,⟨rfl,rfl⟩,trivial⟩
theorem mov_eq {a b:Mov}:a=b↔a.a=b.a∧a.b=b.b∧a.many=b.many:=by cases a;cases b;simp
instance:DecidableEq Mov:=fun _ _=>decidable_of_iff _ mov_eq.symm
structure Pnl where
 key:List UInt8
 w:Int
 h:Int
 pr:Int
structure Mrk where
 pan:List UInt8
 kind:Int
 x:Int
 y:Int
 size:Int
structure Rul where
 near:Int
 slack:Int
 join:Int
 part:Int
theorem less_trans:∀ {a b c:List UInt8},Op.bytesLess a b=true→Op.bytesLess b c=true→Op.bytesLess a c=true:=by
 intro a
 induction a with
 |nil=>intro b c h1 h2;cases b<;>cases c<;>simp_all [Op.bytesLess]
 | cons x a ih=>
   intro b c h1 h2
   cases b with
   |nil=>simp[Op.bytesLess]at h1
   | cons y b=>
     cases c with
     |nil=>simp[Op.bytesLess]at h2
     | cons z c=>
       simp only[Op.bytesLess]at h1 h2 ⊢;grind [UInt8.lt_trans]
theorem less_irr:∀ (a:List UInt8),Op.bytesLess a a=false:=by
 intro a
 induction a with
 |nil=>rfl
 |cons x a ih=>simp[Op.bytesLess,ih]
def onRd (l:List Roa)(a b:List UInt8)(i:Nat):Bool:=(l.getD i rd0).a==a&&(l.getD i rd0).b==b
def roadX (l:List Roa)(a b:List UInt8):Int:=ixF (onRd l a b) l.length
theorem ixF_pos {p:Nat→Bool}{n k:Nat}(hk:k<n)(h:p k=true):0≤ixF p n:=by
 have hb:=ixF_bd (p:=p) (n:=n);rcases Int.lt_or_le (ixF p n) 0 with q|q
 · exfalso
   have hn :∀m,ixF p m<0→∀j,j<m→p j=false:=by
    intro m
    induction m with
    |zero=>intro _ j hj;omega
    | succ m ih=>
      intro hm j hj;rw[ixF]at hm;split at hm
      · rename_i hz
        by_cases hjm:j=m
        · subst hjm;split at hm
          · omega
          · rename_i hf;simpa using hf
        · exact ih (by omega) j (by omega)
      · rename_i hz;have:=(ixF_bd (p:=p) (n:=m)).1;omega
   rw[hn n q k hk]at h;cases h
 · exact q
def roadO (l:List Roa)(a b:List UInt8):Option Roa:=if 0≤roadX l a b then some (l.getD (roadX l a b).toNat rd0)else none
def rideO (l:List Roa)(a b:List UInt8):Option Int:=if a=b then some 0 else(roadO l a b).map (·.ride)
def makeO (l:List Roa)(a:List UInt8)(m:Mov):Option Int:=(rideO l a m.a).bind fun n=>(roadO l m.a m.b).map fun r=>n+r.car
abbrev RPt:=Option (List UInt8×Int)
def stepR (l:List Roa)(m:List Mov)(st:RPt)(k:Int):RPt:=st.bind fun p=>(makeO l p.1 (m.getD k.toNat mv0)).map fun n=>((m.getD k.toNat mv0).b,p.2+n)
def partR (l:List Roa)(start:List UInt8)(m:List Mov)(o:List Int):RPt:=o.foldl (stepR l m) (some (start,0))
def roundO (l:List Roa)(start:List UInt8)(m:List Mov)(o:List Int):Option Int:=(partR l start m o).bind fun p=>(rideO l p.1 start).map fun n=>p.2+n
abbrev RSt:=List Int×Int
def rs (l:List Roa)(start:List UInt8)(m:List Mov):Nat→List Int→RSt→RSt
 | 0,o,st=>match roundO l start m o with
   |some n=>if 0≤st.2∧st.2≤n then st else(o,n)
   |none=>st
 |d+1,o,st=>(List.range m.length).foldl (fun(st:RSt) (k:Nat)=>if o.contains (k:Int)then st else rs l start m d (o++ [(k:Int)]) st) st
def kyC (key:List UInt8):Res:=.cells 9 [.d (.str key)]
def clIx (l:List Cls)(key:List UInt8):Int:=ixF (fun i=>(l.getD i cls0).key==key) l.length
def veIx (l:List Veh)(key:List UInt8):Int:=ixF (fun i=>(l.getD i veh0).key==key) l.length
theorem z242 (x:Cls)(key:List UInt8):FSpec Tryz.prog 174 [.agg ((clsF x).map .d),.ptr 1000001 0] [(1000001,kyC key)] (fun y r=>y= .d (.bool (x.key==key))∧r= [(1000001,kyC key)]):=by
 refine spec_of hT (C:= []) Tryz.func174 rfl Tryz.call174 rfl rfl rfl ?_;conv=>whnf
 refine .ret _ ?_;conv=>whnf
 exact⟨[(1000001,kyC key)],⟨rfl,rfl⟩,rr,trivial⟩
theorem z155b (l:List Cls)(hl:l.length≤2^40)(key:List UInt8):FSpec Tryz.prog 173 [.d (clss l),.fn 174 [.ptr 1000001 0]] [(1000001,kyC key)] (fun x r=>x= .d (.int .i64 (clIx l key))∧r= [(1000001,kyC key)]):=by
 refine spec_of hT (C:= []) Tryz.func173 rfl Tryz.call173 rfl rfl rfl ?_;conv=>whnf
 refine LoopX.rule hT (C:= []) (ι:=Nat) (fun i=>i≤l.length∧∀j,j<i→((l.getD j cls0).key==key)=false) (fun i=>mkSt [(0,.d (clss l)),(1,.fn 174 [.ptr 1000001 0]),(7,.d (.int .i64 l.length)),(8,.d (.int .i64 i))] [(1000001,kyC key)]) (fun i=>l.length - i) 0 ⟨by omega,by omega⟩ (by exact eAx [(1000001,1000001)]) ?_;rintro i ⟨p1,p2⟩;have e1:(i:Int).toNat=i:=Int.toNat_natCast i;conv=>whnf
 repeat' (first|((first|(refine oAx (z242 (l.getD (i:Int).toNat cls0) key) [(1000001,1000001)] ?_;rintro x rout ⟨rfl,rfl⟩;refine⟨rfl,?_⟩)|(refine br_intro ?_ ?_<;>intro hb<;>try simp only[brs]at hb)|omega|refine sAx ?_|decide|assumption)<;>conv=>whnf))
 · refine .ret _ ?_;conv=>whnf
   refine⟨[(1000001,kyC key)],⟨?_,rfl⟩,rr,trivial⟩;conv=>lhs;whnf
   congr 2
   exact(ixF_hit (by omega) p2 (by simpa using hb)).symm
 · exact⟨i+1,⟨by omega,all_step p2 (by simpa using hb)⟩,by omega,(by exact eAx [(1000001,1000001)])⟩
 · refine .ret _ ?_;conv=>whnf
   refine⟨[(1000001,kyC key)],⟨?_,rfl⟩,rr,trivial⟩;conv=>lhs;whnf
   congr 2
   have:i=l.length:=by omega
   subst this;exact(ixF_none p2).symm
theorem z176 (l:List Cls)(hl:l.length≤2^40)(key:List UInt8):FSpec Tryz.prog 131 [.d (clss l),.d (.str key)] [] (fun x r=>x= .d (.int .i64 (clIx l key))∧r= []):=by
 refine spec_of hT (C:= []) Tryz.func131 rfl Tryz.call131 rfl rfl rfl ?_;conv=>whnf
 refine oAx (z155b l hl key) [(1000001,3)] ?_;rintro x rout ⟨rfl,rfl⟩;refine⟨rfl,?_⟩;conv=>whnf
 refine .ret _ ?_;conv=>whnf
 refine⟨[],⟨?_,rfl⟩,trivial⟩;conv=>lhs;whnf
structure Flt where
 sta:List Sta
 cls:List Cls
 veh:List Veh
 plt:List Plt
abbrev flt (f:Flt):SV:=.agg [.d (stas f.sta),.d (clss f.cls),.d (vehs f.veh),.d (plts f.plt)]
theorem clIx_bd (l:List Cls)(key:List UInt8): -1≤clIx l key∧clIx l key<l.length:=⟨ixF_bd.1,ixF_bd.2.1⟩
theorem clIx_at {l:List Cls}{key:List UInt8}(h:0≤clIx l key):(l.getD (clIx l key).toNat cls0).key=key:=by
 have:=(ixF_bd (p:=fun i=>(l.getD i cls0).key==key) (n:=l.length)).2.2 h;exact eq_of_beq this
def upC (l:List Cls)(key:List UInt8):List UInt8:=(l.getD (clIx l key).toNat cls0).up
def abv (l:List Cls):Nat→List UInt8→List (List UInt8)
 |0,_=> []
 |n+1,key=>if upC l key= []then []else upC l key::abv l n (upC l key)
theorem abv_len (l:List Cls):∀ (n:Nat) (key:List UInt8),(abv l n key).length≤n:=by
 intro n
 induction n with
 |zero=>intro key;simp[abv]
 |succ n ih=>intro key;rw[abv];split;simp;simp;exact ih _
def upsOk (l:List Cls):Prop:=(∀c ∈ l,c.up≠ []→0≤clIx l c.up)
theorem z241 (l:List Cls)(hl:l.length≤2^20)(hu:upsOk l)(key:List UInt8)(hk:0≤clIx l key):
 FSpec Tryz.prog 172 [.d (clss l),.d (.str key)] [] (fun x r=>x= .d (strs (abv l l.length key))∧r= []):=by
 refine spec_of hT (C:= []) Tryz.func172 rfl Tryz.call172 rfl rfl rfl ?_;conv=>whnf
 refine LoopX.rule hT (C:= []) (ι:=List (List UInt8)×List UInt8×Nat) (fun(o,k,i)=>i≤l.length∧o.length≤i∧0≤clIx l k∧o++abv l (l.length - i) k=abv l l.length key)
  (fun(o,k,i)=>mkSt [(0,.d (clss l)),(1,.d (.str k)),(5,.buf 5),(7,.d (.int .i64 l.length)),(8,.d (.int .i64 i))] [(5,seqB 9 1 sF [] o)])
  (fun(_,_,i)=>l.length - i) ([],key,0) ⟨by simp,by simp,hk,by simp⟩ ?_ ?_
 · exact(Entails.nil 5 5 9 1 (rowF sF [] []) rfl rfl (by decide)).trans (Entails.mk' [(5,5)] rfl rfl ⟨lr,lr,lr,lr,lr,trivial⟩ ⟨rr,trivial⟩)
 rintro⟨o,k,i⟩ ⟨p1,p2,p3,p4⟩;have p1:i≤l.length:=p1;have p2:o.length≤i:=p2;have p3:0≤clIx l k:=p3;have p4:o++abv l (l.length - i) k=abv l l.length key:=p4;have hb1:=(clIx_bd l k).2;conv=>whnf
 repeat' (first|(refine CallX.exact (z176 l (by omega) k) rfl rfl ?_;rotate_right;conv=>whnf)|((first|(refine br_intro ?_ ?_<;>intro hb<;>try simp only[brs]at hb)|omega|refine sAx ?_|decide|assumption)<;>conv=>whnf))
 · refine .freeze _ 5 9 1 _ _ rfl (.weak _ ?_);conv=>whnf
   refine⟨.d (strs o),[],lr,⟨?_,rfl⟩,trivial⟩;rw[←p4,show l.length - i=(l.length - i - 1)+1 by omega,abv,if_pos (show upC l k= []from hb),List.append_nil]
 · have hm:(l.getD (clIx l k).toNat cls0) ∈ l:=getD_mem (by omega)
   refine⟨(o++ [upC l k],upC l k,i+1),⟨by omega,by simp;omega,hu _ hm hb,?_⟩,by show l.length - (i+1)<l.length - i;omega,
    Entails.mk' [(5,22)] rfl rfl ⟨lr,lr,lr,lr,lr,trivial⟩ ⟨Res.le_snocF rfl,trivial⟩⟩
   rw[←p4,show l.length - i=(l.length - (i+1))+1 by omega,abv,if_neg (show ¬upC l k= []from hb),List.append_assoc];rfl
 · refine .freeze _ 5 9 1 _ _ rfl (.weak _ ?_);conv=>whnf
   refine⟨.d (strs o),[],lr,⟨?_,rfl⟩,trivial⟩;rw[←p4,show l.length - i=0 by omega,abv,List.append_nil]
theorem z208 (l:List (List UInt8))(hl:l.length≤2^40)(v:List UInt8):FSpec Tryz.prog 205 [.d (strs l),.d (.str v)] [] (fun x r=>x= .d (.int .i64 (ixF (fun i=>l.getD i []==v) l.length))∧r= []):=by
 refine spec_of hT (C:= []) Tryz.func205 rfl Tryz.call205 rfl rfl rfl ?_;conv=>whnf
 refine LoopX.rule hT (C:= []) (ι:=Nat) (fun i=>i≤l.length∧∀j,j<i→(l.getD j []==v)=false) (fun i=>mkSt [(0,.d (strs l)),(1,.d (.str v)),(7,.d (.int .i64 l.length)),(8,.d (.int .i64 i))] []) (fun i=>l.length - i) 0 ⟨by omega,by omega⟩ (by exact eAx []) ?_;rintro i ⟨p1,p2⟩;have e1:(i:Int).toNat=i:=Int.toNat_natCast i;conv=>whnf
 repeat' (first|((first|(refine br_intro ?_ ?_<;>intro hb<;>try simp only[brs]at hb)|omega|refine sAx ?_|decide|assumption)<;>conv=>whnf))
 · refine .ret _ ?_;conv=>whnf
   refine⟨[],⟨?_,rfl⟩,trivial⟩;conv=>lhs;whnf
   congr 2
   exact(ixF_hit (by omega) p2 (by rw[←hb];simp)).symm
 · exact⟨i+1,⟨by omega,all_step p2 (beq_eq_false_iff_ne.2 fun q=>hb q.symm)⟩,by omega,(by exact eAx [])⟩
 · refine .ret _ ?_;conv=>whnf
   refine⟨[],⟨?_,rfl⟩,trivial⟩;conv=>lhs;whnf
   congr 2
   have:i=l.length:=by omega
   subst this;exact(ixF_none p2).symm
theorem ix_memF (l:List (List UInt8))(v:List UInt8):decide (0≤ixF (fun i=>l.getD i []==v) l.length)=decide (v ∈ l):=by
 rw[decide_eq_decide];constructor
 · intro h;have:=ixF_bd (p:=fun i=>l.getD i []==v) (n:=l.length);rw[←eq_of_beq (this.2.2 h)];exact getD_mem (by omega)
 · intro h;obtain⟨j,hj,rfl⟩:=mem_getD (d:= []) h;exact ixF_pos hj (by simp)
theorem z153 (l:List (List UInt8))(hl:l.length≤2^40)(v:List UInt8):FSpec Tryz.prog 171 [.d (strs l),.d (.str v)] [] (fun x r=>x= .d (.bool (decide (v ∈ l)))∧r= []):=by
 refine spec_of hT (C:= []) Tryz.func171 rfl Tryz.call171 rfl rfl rfl ?_;conv=>whnf
 repeat' (first|(refine CallX.exact (z208 l hl v) rfl rfl ?_;rotate_right;conv=>whnf)|((first|(refine br_intro ?_ ?_<;>intro hb<;>try simp only[brs]at hb)|omega|refine sAx ?_|decide|assumption)<;>conv=>whnf))
 refine .ret _ ?_;conv=>whnf
 refine⟨[],⟨?_,rfl⟩,trivial⟩;conv=>lhs;whnf
 rw[←ix_memF]
def itU (l:List Cls):Nat→List UInt8→List UInt8
 |0,k=>k
 |n+1,k=>itU l n (upC l k)
theorem itU_add (l:List Cls):∀ (a b:Nat) (k:List UInt8),itU l (a+b) k=itU l b (itU l a k):=by
 intro a
 induction a with
 |zero=>intro b k;rw[Nat.zero_add];rfl
 |succ a ih=>intro b k;rw[show a+1+b=(a+b)+1 by omega,itU,ih,itU]
theorem abv_mem (l : List Cls) : ∀ (n : Nat) (k v :List UInt8),v ∈ abv l n k↔∃j,j<n∧itU l (j+1) k=v∧∀i,i≤j→itU l (i+1) k≠ []:=by
 intro n
 induction n with
 |zero=>intro k v;simp[abv]
 | succ n ih=>
   intro k v;rw[abv]
   by_cases h:upC l k= []
   · rw[if_pos h];constructor
     · intro q;cases q
     · rintro⟨j,_,_,h3⟩;exact absurd h (h3 0 (by omega))
   · rw [if_neg h,List.mem_cons,ih];constructor
     · rintro(rfl|⟨j,h1,h2,h3⟩)
       · exact ⟨0, by omega, rfl, fun i hi => by obtain rfl:i=0:=by omega
                                                 exact h⟩
       · refine⟨j+1,by omega,h2,fun i hi=> ?_⟩
         cases i with
         |zero=>exact h
         |succ i=>exact h3 i (by omega)
     · rintro⟨j,h1,h2,h3⟩
       cases j with
       |zero=>exact .inl h2.symm
       |succ j=>exact .inr ⟨j,by omega,h2,fun i hi=>h3 (i+1) (by omega)⟩
theorem nodupG {α:Type}{l m:List α}(h:l.Nodup)(hs:∀x ∈ l,x ∈ m):l.length≤m.length:=by
 induction l generalizing m with
 |nil=>simp
 | cons x l ih=>
   rw[List.nodup_cons]at h;obtain⟨a,b,rfl⟩:=List.append_of_mem (hs x (by simp))
   have:=ih (m:=a++b) h.2 (fun y hy=>by
    have q:=hs y (by simp[hy]);simp only[List.mem_append,List.mem_cons]at q ⊢;rcases q with q|q|q
    · exact .inl q
    · subst q;exact absurd hy h.1
    · exact .inr q)
   simp at this ⊢;omega
theorem clIx_mem {l:List Cls}{k:List UInt8}(h:0≤clIx l k):k ∈ l.map (·.key):=by
 rw[←clIx_at h];exact List.mem_map_of_mem (getD_mem (by have:=(clIx_bd l k).2;omega))
theorem itU_in {l:List Cls}(hu:upsOk l){k:List UInt8}(hk:0≤clIx l k):∀ (j:Nat),(∀i,i<j→itU l (i+1) k≠ [])→0≤clIx l (itU l j k):=by
 intro j
 induction j with
 |zero=>intro _;exact hk
 | succ j ih=>
   intro h;have h1:=ih (fun i hi=>h i (by omega));have h2:=h j (by omega);have e:itU l (j+1) k=upC l (itU l j k):=by rw[itU_add];rfl
   rw[e]at h2 ⊢;exact hu _ (getD_mem (by have:=(clIx_bd l (itU l j k)).2;omega)) h2
theorem loop_eq {l:List Cls}(hu:upsOk l){k:List UInt8}(hk:0≤clIx l k):k ∈ abv l (l.length+1) k↔k ∈ abv l l.length k:=by
 rw[abv_mem,abv_mem];constructor
 · rintro⟨j,h1,h2,h3⟩
   by_cases hj:j<l.length
   · exact⟨j,hj,h2,h3⟩
   · have hj:j=l.length:=by omega
     subst hj
     by_cases hex:∃j',j'<l.length∧itU l (j'+1) k=k
     · obtain⟨j',q1,q2⟩:=hex;exact⟨j',q1,q2,fun i hi=>h3 i (by omega)⟩
     · exfalso
       have hnd:((List.range (l.length+1)).map fun j=>itU l j k).Nodup:=by
        rw[List.nodup_iff_pairwise_ne,List.pairwise_map];refine List.Pairwise.imp_of_mem ?_ List.pairwise_lt_range;intro a b ha hb hab he;rw[List.mem_range]at ha hb;refine hex ⟨a+(l.length+1 - b) - 1,by omega,?_⟩;rw[show a+(l.length+1 - b) - 1+1=a+(l.length+1 - b)by omega,itU_add,he,←itU_add,show b+(l.length+1 - b)=l.length+1 by omega];exact h2
       have:=nodupG (m:=l.map (·.key)) hnd (fun x hx=>by
        obtain⟨j,hj,rfl⟩:=List.mem_map.1 hx;rw[List.mem_range]at hj
        exact clIx_mem (itU_in hu hk j (fun i hi=>h3 i (by omega))))
       simp at this;omega
 · rintro⟨j,h1,h2,h3⟩;exact⟨j,by omega,h2,h3⟩
theorem clIx_pos {l:List Cls}{c:Cls}(h:c ∈ l):0≤clIx l c.key:=by
 obtain⟨j,hj,rfl⟩:=mem_getD (d:=cls0) h;exact ixF_pos hj (by simp)
def clsE1 (l:List Cls)(i:Nat):Int:=
 if isKeyB (l.getD i cls0).key=false then 5 else if 0<i∧strLe (l.getD i cls0).key (l.getD (i - 1) cls0).key=true then 7
 else if(l.getD i cls0).up≠ []∧isKeyB (l.getD i cls0).up=false then 5 else 0
def clsE2 (l:List Cls)(i:Nat):Int:=if(l.getD i cls0).up≠ []∧clIx l (l.getD i cls0).up<0 then 8 else 0
def clsE3 (l:List Cls)(i:Nat):Int:=if(l.getD i cls0).key ∈ abv l l.length (l.getD i cls0).key then 14 else 0
def clssE (l:List Cls):Int:=if 30<l.length then 2 else firstE [firstAt (clsE1 l) l.length,firstAt (clsE2 l) l.length,firstAt (clsE3 l) l.length]
def clsOk (l:List Cls):Prop:=l.length≤2^20∧∀c ∈ l,c.key.length≤2^40∧c.up.length≤2^40
def pltCmp (a b:Plt):Int:=firstE [cmpI a.frm b.frm,cmpS a.veh b.veh,cmpS a.plt b.plt]
def pltC (p:Plt):Res:=.cells 289 ((pltF p).map .d)
def twP (p o:Plt):Bool:=decide (o.frm=p.frm)&&(o.veh==p.veh||o.plt==p.plt)
def vehS (l:List Veh):Prop:=∀i j,i<j→j<l.length→Op.bytesLess (l.getD i veh0).key (l.getD j veh0).key=true
theorem z287 (v:Veh)(key:List UInt8):FSpec Tryz.prog 176 [.agg ((vehF v).map .d),.d (.str key)] [] (fun y r=>y= .d (.int .i64 (cmpS v.key key))∧r= []):=by
 refine spec_of hT (C:= []) Tryz.func176 rfl Tryz.call176 rfl rfl rfl ?_;conv=>whnf
 repeat' (first|(refine CallX.exact (s184 _ _) rfl rfl ?_;rotate_right;conv=>whnf)|((first|(refine br_intro ?_ ?_<;>intro hb<;>try simp only[brs]at hb)|omega|refine sAx ?_|decide|assumption)<;>conv=>whnf))
 refine .ret _ ?_;conv=>whnf
 refine⟨[],⟨?_,rfl⟩,trivial⟩;conv=>lhs;whnf
theorem cmpS_neg (a b:List UInt8):cmpS a b<0↔Op.bytesLess a b=true:=by unfold cmpS;grind
theorem cmpS_zeroF (a b:List UInt8):cmpS a b=0↔a=b:=by
 unfold cmpS;grind [less_tri,less_irr]
theorem half2 (lo hi:Nat)(h:hi≤2^20)(hl:lo≤hi):IntKind.wrap .u64 ((lo:Int)+hi)/2=(((lo+hi)/2:Nat):Int):=by
 unfold IntKind.wrap;simp[IntKind.signed,IntKind.bits];omega
theorem vehS_lt {l:List Veh}(hs:vehS l){key:List UInt8}{i j:Nat}(hij:i≤j)(hj:j<l.length)(h:Op.bytesLess (l.getD j veh0).key key=true):Op.bytesLess (l.getD i veh0).key key=true:=by
 rcases Nat.lt_or_ge i j with q|q
 · exact less_trans (hs i j q hj) h
 · obtain rfl:i=j:=by omega
   exact h
theorem veIx_hit {l:List Veh}(hs:vehS l){i:Nat}(hi:i<l.length):veIx l (l.getD i veh0).key=i:=by
 refine ixF_hit hi (fun j hj=> ?_) (by simp);rw[beq_eq_false_iff_ne];intro e;have:=hs j i hj hi;rw[e,less_irr]at this;cases this
theorem veIx_no {l:List Veh}{key:List UInt8}(h:∀i,i<l.length→(l.getD i veh0).key≠key):veIx l key= -1:=
 ixF_none fun j hj=>beq_eq_false_iff_ne.2 (h j hj)
theorem z286 (l:List Veh)(hl:l.length≤2^20)(hs:vehS l)(key:List UInt8):FSpec Tryz.prog 175 [.d (vehs l),.d (.str key),.fn 176 []] []
 (fun y r=>(∃j:Nat,∃b:Bool,y= .tup [.d (.int .i64 j),.d (.bool b)]∧veIx l key=if b=true then(j:Int)else -1)∧r= []):=by
 refine spec_of hT (C:= []) Tryz.func175 rfl Tryz.call175 rfl rfl rfl ?_;conv=>whnf
 refine LoopX.rule hT (C:= []) (ι:=Nat×Nat) (fun(lo,hi)=>(lo≤hi∧hi≤l.length)∧(∀j,j<lo→Op.bytesLess (l.getD j veh0).key key=true)∧∀j,hi≤j→j<l.length→Op.bytesLess (l.getD j veh0).key key=false)
  (fun(lo,hi)=>mkSt [(0,.d (vehs l)),(1,.d (.str key)),(2,.fn 176 []),(8,.d (.int .i64 l.length)),(9,.d (.int .i64 lo)),(10,.d (.int .i64 hi))] []) (fun(lo,hi)=>hi - lo) (0,l.length)
  ⟨⟨by simp,by simp⟩,fun j hj=>by omega,fun j h1 h2=>by omega⟩ (by exact eAx []) ?_
 rintro⟨lo,hi⟩ ⟨⟨p1,p2⟩,p3,p4⟩;have p1:lo≤hi:=p1;have p2:hi≤l.length:=p2;have p3:∀j,j<lo→Op.bytesLess (l.getD j veh0).key key=true:=p3;have p4:∀j,hi≤j→j<l.length→Op.bytesLess (l.getD j veh0).key key=false:=p4;have hh:=half2 lo hi (by omega) p1;obtain⟨M,hM⟩:∃M,M=(lo+hi)/2:=⟨_,rfl⟩;rw[←hM]at hh;have e1:((M:Nat):Int).toNat=M:=Int.toNat_natCast M;have e2:((lo:Nat):Int).toNat=lo:=Int.toNat_natCast lo;conv=>whnf
 repeat' (first|(refine⟨rfl,?_⟩;conv=>whnf)|(rw[hh];conv=>whnf)|(refine CallX.exact (z287 (l.getD (M:Int).toNat veh0) key) rfl rfl ?_;rotate_right;conv=>whnf)|(refine CallX.exact (z287 (l.getD (lo:Int).toNat veh0) key) rfl rfl ?_;rotate_right;conv=>whnf)|((first|(refine br_intro ?_ ?_<;>intro hb<;>try simp only[brs]at hb)|omega|refine sAx ?_|decide|assumption)<;>conv=>whnf))
 · have hb1:=(cmpS_neg _ _).1 hb;exact⟨(M+1,hi),⟨⟨by omega,p2⟩,fun j hj=>vehS_lt hs (show j≤M by omega) (by omega) hb1,p4⟩,by show hi - (M+1)<hi - lo;omega,(by exact eAx [])⟩
 · have hb1:Op.bytesLess (l.getD M veh0).key key=false:=by
    rw[←Bool.not_eq_true,←cmpS_neg];omega
   refine⟨(lo,M),⟨⟨by omega,by omega⟩,p3,fun j h1 h2=> ?_⟩,by show M - lo<hi - lo;omega,(by exact eAx [])⟩;rw[←Bool.not_eq_true];intro q;rw[vehS_lt hs h1 h2 q]at hb1;cases hb1
 · refine .ret _ ?_;conv=>whnf
   refine⟨[],⟨⟨lo,decide (cmpS (l.getD lo veh0).key key=0),rfl,?_⟩,rfl⟩,trivial⟩
   by_cases q:(l.getD lo veh0).key=key
   · rw[if_pos (by rw[decide_eq_true_eq,cmpS_zeroF];exact q),←q];exact veIx_hit hs (by omega)
   · rw[if_neg (by rw[decide_eq_true_eq,cmpS_zeroF];exact q)];have h0:=p4 lo (by omega) (by omega);have h1:=less_tri _ _ h0 q;refine veIx_no fun i hi2 e=> ?_
     rcases Nat.lt_trichotomy i lo with r|r|r
     · have:=p3 i r;rw[e,less_irr]at this;cases this
     · subst r;exact q e
     · have:=less_trans h1 (hs lo i r hi2);rw[e,less_irr]at this;cases this
 · refine .ret _ ?_;conv=>whnf
   refine⟨[],⟨⟨lo,false,rfl,?_⟩,rfl⟩,trivial⟩;rw[if_neg (by simp)];refine veIx_no fun i hi2 e=> ?_
   have:=p3 i (by omega);rw[e,less_irr]at this;cases this
def oQFlE130_8:OL:= [(0,[]),(1,[]),(2,[]),(3,[]),(4,[]),(5,[3,4]),(6,[3,4,5]),(7,[3,4,5]),(8,[3,4]),(9,[3,4]),(10,[3,4]),(11,[]),(12,[]),(13,[])]
def oQFlE130_22:OL:= [(0,[]),(1,[0]),(2,[0]),(4,[0,1,2]),(5,[0,1,2]),(3,[4,5]),(6,[])]
set_option maxHeartbeats 2000000 in
theorem z175 (l:List Cls)(hk:clsOk l):FSpec Tryz.prog 130 [.d (clss l)] [] (fun x r=>x= .d (.int .i64 (clssE l))∧r= []):=by
 have hlen:=hk.1;refine spec_of hT (C:= []) Tryz.func130 rfl Tryz.call130 rfl rfl rfl ?_;conv=>whnf
 refine br_intro (fun h0=> ?_) (fun h0=> ?_)
 · simp at h0;conv=>whnf
   refine .ret _ ?_;conv=>whnf
   refine⟨[],⟨?_,rfl⟩,trivial⟩;conv=>lhs;whnf
   unfold clssE;rw[if_pos (by omega)]
 simp at h0;conv=>whnf
 refine LoopX.rule hT (C:= []) (ι:=Nat) (fun i=>i≤l.length∧∀j,j<i→clsE1 l j=0) (fun i=>mkSt [(0,.d (clss l)),(12,.d (clss l)),(13,.d (.int .i64 l.length)),(14,.d (.int .i64 i))] []) (fun i=>l.length - i) 0 ⟨by omega,by omega⟩ (by exact eAx []) ?_;rintro i ⟨p1,p2⟩;have hx:(i:Int)<l.length→(l.getD (i:Int).toNat cls0).key.length≤2^40∧(l.getD (i:Int).toNat cls0).up.length≤2^40:=fun hi=>hk.2 _ (getD_mem (by omega))
 have e1:(i:Int).toNat=i:=Int.toNat_natCast i
 have hbad:∀e:Int,i<l.length→e≠0→clsE1 l i=e→clssE l=e:=fun e h h1 h2=>by
  unfold clssE;rw[if_neg (by omega),firstAt_eq h p2 h1 h2,firstE,if_neg h1]
 rcases Nat.lt_or_ge i l.length with hi|hi
 · conv =>whnf
   repeat' (first|(refine CallX.exact (s108 _ (hx (by omega)).1) rfl rfl ?_;rotate_right;conv=>whnf)|(refine CallX.exact (s108 _ (hx (by omega)).2) rfl rfl ?_;rotate_right;conv=>whnf)|((first|(refine br_intro ?_ ?_<;>intro hb<;>try simp only[brs]at hb)|refine rAx hT 8 oQFlE130_8 ?_|refine rAx hT 22 oQFlE130_22 ?_|omega|refine sAx ?_|decide|assumption)<;>conv=>whnf))
   all_goals try(exfalso;omega)
   all_goals first
    |(refine⟨i+1,⟨by omega,first_step p2 (by clear p2 hbad hk hx;simp only[e1,toNat_pred]at*;unfold clsE1 strLe;grind)⟩,by omega,(by exact eAx [])⟩)
    | (refine .ret _ ?_
       conv=>whnf
       refine⟨[],⟨?_,rfl⟩,trivial⟩;conv=>lhs;whnf
       congr 2
       exact(hbad _ (by omega) (by decide) (by clear p2 hbad hk hx;simp only[e1,toNat_pred]at*;unfold clsE1 strLe;grind)).symm)
 have hil:i=l.length:=by omega
 subst hil;have P1:=firstAt_zero p2;clear hbad hx p2;conv=>whnf
 repeat' (first|((first|(refine br_intro ?_ ?_<;>intro hb<;>try simp only[brs]at hb)|refine rAx hT 8 oQFlE130_8 ?_|refine rAx hT 22 oQFlE130_22 ?_|omega|refine sAx ?_|decide|assumption)<;>conv=>whnf))
 all_goals try(exfalso;omega)
 refine LoopX.rule hT (C:= []) (ι:=Nat) (fun i=>i≤l.length∧∀j,j<i→clsE2 l j=0) (fun i=>mkSt [(0,.d (clss l)),(49,.d (clss l)),(50,.d (.int .i64 l.length)),(51,.d (.int .i64 i))] []) (fun i=>l.length - i) 0 ⟨by omega,by omega⟩ (by exact eAx []) ?_;rintro i ⟨p1,p2⟩;have e1:(i:Int).toNat=i:=Int.toNat_natCast i
 have hbad:∀e:Int,i<l.length→e≠0→clsE2 l i=e→clssE l=e:=fun e h h1 h2=>by
  unfold clssE;rw[if_neg (by omega),firstE,if_pos P1,firstE,firstAt_eq h p2 h1 h2,if_neg h1]
 rcases Nat.lt_or_ge i l.length with hi|hi
 · conv =>whnf
   repeat' (first|(refine CallX.exact (z176 l (by omega) _) rfl rfl ?_;rotate_right;conv=>whnf)|((first|(refine br_intro ?_ ?_<;>intro hb<;>try simp only[brs]at hb)|refine rAx hT 8 oQFlE130_8 ?_|refine rAx hT 22 oQFlE130_22 ?_|omega|refine sAx ?_|decide|assumption)<;>conv=>whnf))
   all_goals try(exfalso;omega)
   all_goals first
    |(refine⟨i+1,⟨by omega,first_step p2 (by clear p2 hbad hk;simp only[e1]at*;unfold clsE2;grind)⟩,by omega,(by exact eAx [])⟩)
    | (refine .ret _ ?_
       conv=>whnf
       refine⟨[],⟨?_,rfl⟩,trivial⟩;conv=>lhs;whnf
       congr 2
       exact(hbad _ (by omega) (by decide) (by clear p2 hbad hk;simp only[e1]at*;unfold clsE2;grind)).symm)
 have hil:i=l.length:=by omega
 subst hil;have P2:=firstAt_zero p2
 have hu:upsOk l:=fun c hc hn=>by
  obtain⟨j,hj,rfl⟩:=mem_getD (d:=cls0) hc;have:=p2 j hj;unfold clsE2 at this;rcases Int.lt_or_le (clIx l (l.getD j cls0).up) 0 with q|q
  · rw[if_pos ⟨hn,q⟩]at this;cases this
  · exact q
 clear hbad p2;conv=>whnf
 repeat' (first|((first|(refine br_intro ?_ ?_<;>intro hb<;>try simp only[brs]at hb)|refine rAx hT 8 oQFlE130_8 ?_|refine rAx hT 22 oQFlE130_22 ?_|omega|refine sAx ?_|decide|assumption)<;>conv=>whnf))
 all_goals try(exfalso;omega)
 refine LoopX.rule hT (C:= []) (ι:=Nat) (fun i=>i≤l.length∧∀j,j<i→clsE3 l j=0) (fun i=>mkSt [(0,.d (clss l)),(66,.d (clss l)),(67,.d (.int .i64 l.length)),(68,.d (.int .i64 i))] []) (fun i=>l.length - i) 0 ⟨by omega,by omega⟩ (by exact eAx []) ?_;rintro i ⟨p1,p2⟩;have e1:(i:Int).toNat=i:=Int.toNat_natCast i
 have hbad:∀e:Int,i<l.length→e≠0→clsE3 l i=e→clssE l=e:=fun e h h1 h2=>by
  unfold clssE;rw[if_neg (by omega),firstE,if_pos P1,firstE,if_pos P2,firstE,firstAt_eq h p2 h1 h2,if_neg h1]
 rcases Nat.lt_or_ge i l.length with hi|hi
 · have hin:=clIx_pos (l:=l) (c:=l.getD (i:Int).toNat cls0) (getD_mem (by omega));have hal:=abv_len l l.length (l.getD (i:Int).toNat cls0).key;have hlo:=loop_eq hu hin;conv=>whnf
   repeat' (first|(refine CallX.exact (z241 l hlen hu _ hin) rfl rfl ?_;rotate_right;conv=>whnf)|(refine CallX.exact (z153 _ (by omega) _) rfl rfl ?_;rotate_right;conv=>whnf)|((first|(refine br_intro ?_ ?_<;>intro hb<;>try simp only[brs]at hb)|refine rAx hT 8 oQFlE130_8 ?_|refine rAx hT 22 oQFlE130_22 ?_|omega|refine sAx ?_|decide|assumption)<;>conv=>whnf))
   all_goals try(exfalso;omega)
   all_goals first
    |(refine⟨i+1,⟨by omega,first_step p2 (by clear p2 hbad hk;simp only[e1]at*;unfold clsE3;grind)⟩,by omega,(by exact eAx [])⟩)
    | (refine .ret _ ?_
       conv=>whnf
       refine⟨[],⟨?_,rfl⟩,trivial⟩;conv=>lhs;whnf
       congr 2
       exact(hbad _ (by omega) (by decide) (by clear p2 hbad hk;simp only[e1]at*;unfold clsE3;grind)).symm)
 have hil:i=l.length:=by omega
 subst hil;have P3:=firstAt_zero p2;conv=>whnf
 repeat' (first|((first|(refine br_intro ?_ ?_<;>intro hb<;>try simp only[brs]at hb)|refine rAx hT 8 oQFlE130_8 ?_|refine rAx hT 22 oQFlE130_22 ?_|omega|refine sAx ?_|decide|assumption)<;>conv=>whnf))
 all_goals try(exfalso;omega)
 refine .ret _ ?_;conv=>whnf
 refine⟨[],⟨?_,rfl⟩,trivial⟩;conv=>lhs;whnf
 unfold clssE;rw[if_neg (by omega),firstE,if_pos P1,firstE,if_pos P2,firstE,if_pos P3];rfl
end Go.Proofs.YtophabkpfpbadaaGreatDoor
