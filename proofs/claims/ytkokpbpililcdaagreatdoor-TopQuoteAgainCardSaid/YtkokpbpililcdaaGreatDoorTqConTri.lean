/- TopQuoteAgain is proved: for every input the law returns true, and its argument reads afterwards as it read before. Conditions: those of the given row alone. -/
import Derived.Test.YtkokpbpililcdaaGreatDoorTqConTwo
import Derived.Test.YtkokpbpililcdaaGreatDoorTqConOne
import Derived.Test.YtkokpbpililcdaaGreatDoorTqEngTwo
set_option linter.unusedVariables false
set_option linter.unusedSimpArgs false
set_option maxRecDepth 20000
namespace Go.Proofs.YtkokpbpililcdaaGreatDoor
open Go Go.Eng
structure Tax where
 key:List UInt8
 per:Int
 on:List Int
 over:Bool
def taxF (x:Tax):List DV:= [.str x.key,.int .i64 x.per,ints x.on,.bool x.over]
def tax0:Tax:=⟨[],0,[],false⟩
abbrev taxs (l:List Tax):DV:=seqD 4 taxF tax0 l
def taxC (x:Tax):Res:=.cells 252 ((taxF x).map .d)
def txOn (l:List Int)(k:Nat):Int:=if l.getD k 0=5∨¬ (1≤l.getD k 0∧l.getD k 0≤6)then 4 else if 0<k∧l.getD k 0≤l.getD (k - 1) 0 then 7 else 0
def txOns (l:List Int):Int:=firstAt (txOn l) l.length
def dupT (l:List Tax)(x:Tax):Bool:=decide (0≤ixF (fun i=>(l.getD i tax0).key==x.key) l.length)
def taxE (l:List Tax)(i:Nat):Int:=
 let x:=l.getD i tax0
 if isKeyB x.key=false then 5 else if dupT (l.take i) x=true then 6 else if ¬ (0≤x.per∧x.per≤1000)then 1 else txOns x.on
def taxsE (l:List Tax):Int:=if 10<l.length then 2 else firstAt (taxE l) l.length
def taxK (x:Tax):Prop:=x.key.length≤2^40∧x.on.length≤2^40
def taxOk (l:List Tax):Prop:=l.length≤2^40∧∀x ∈ l,taxK x
theorem y229 (y x:Tax):FSpec Tryz.prog 158 [.agg ((taxF y).map .d),.ptr 1000001 0] [(1000001,taxC x)] (fun v r=>v= .d (.bool (y.key==x.key))∧r= [(1000001,taxC x)]):=by
 refine spec_of hT (C:= []) Tryz.func158 rfl Tryz.call158 rfl rfl rfl ?_;conv=>whnf
 refine .ret _ ?_;conv=>whnf
 exact⟨[(1000001,taxC x)],⟨rfl,rfl⟩,rr,trivial⟩
theorem y309a (l:List Tax)(hl:l.length≤2^40)(x:Tax):FSpec Tryz.prog 211 [.d (taxs l),.fn 158 [.ptr 1000001 0]] [(1000001,taxC x)] (fun v r=>v= .d (.int .i64 (ixF (fun i=>(l.getD i tax0).key==x.key) l.length))∧r= [(1000001,taxC x)]):=by
 refine spec_of hT (C:= []) Tryz.func211 rfl Tryz.call211 rfl rfl rfl ?_;conv=>whnf
 refine LoopX.rule hT (C:= []) (ι:=Nat) (fun i=>i≤l.length∧∀j,j<i→((l.getD j tax0).key==x.key)=false) (fun i=>mkSt [(0,.d (taxs l)),(1,.fn 158 [.ptr 1000001 0]),(7,.d (.int .i64 l.length)),(8,.d (.int .i64 i))] [(1000001,taxC x)]) (fun i=>l.length - i) 0 ⟨by omega,by omega⟩ (by exact eAx [(1000001,1000001)]) ?_;rintro i ⟨p1,p2⟩;have e1:(i:Int).toNat=i:=Int.toNat_natCast i;conv=>whnf
 repeat' (first|((first|(refine oAx (y229 (l.getD (i:Int).toNat tax0) x) [(1000001,1000001)] ?_;rintro v rout ⟨rfl,rfl⟩;refine⟨rfl,?_⟩)|(refine br_intro ?_ ?_<;>intro hb<;>try simp only[brs]at hb)|omega|refine sAx ?_|decide|assumption)<;>conv=>whnf))
 · refine .ret _ ?_;conv=>whnf
   refine⟨[(1000001,taxC x)],⟨?_,rfl⟩,rr,trivial⟩;conv=>lhs;whnf
   congr 2
   exact(ixF_hit (by omega) p2 (by simpa using hb)).symm
 · exact⟨i+1,⟨by omega,all_step p2 (by simpa using hb)⟩,by omega,(by exact eAx [(1000001,1000001)])⟩
 · refine .ret _ ?_;conv=>whnf
   refine⟨[(1000001,taxC x)],⟨?_,rfl⟩,rr,trivial⟩;conv=>lhs;whnf
   congr 2
   have:i=l.length:=by omega
   subst this;exact(ixF_none p2).symm
theorem y309ac (l:List Tax)(hl:l.length≤2^40)(x:Tax):FSpec Tryz.prog 157 [.d (taxs l),.fn 158 [.ptr 1000001 0]] [(1000001,taxC x)] (fun v r=>v= .d (.bool (dupT l x))∧r= [(1000001,taxC x)]):=by
 refine spec_of hT (C:= []) Tryz.func157 rfl Tryz.call157 rfl rfl rfl ?_;conv=>whnf
 repeat' (first|((first|(refine oAx (y309a l hl x) [(1000001,1000001)] ?_;rintro v rout ⟨rfl,rfl⟩;refine⟨rfl,?_⟩)|(refine br_intro ?_ ?_<;>intro hb<;>try simp only[brs]at hb)|omega|refine sAx ?_|decide|assumption)<;>conv=>whnf))
 refine .ret _ ?_;conv=>whnf
 exact⟨[(1000001,taxC x)],⟨rfl,rfl⟩,rr,trivial⟩
theorem y235 (y x:Tax):FSpec Tryz.prog 186 [.agg ((taxF y).map .d),.ptr 1000001 0] [(1000001,taxC x)] (fun v r=>v= .d (.bool (y.key==x.key))∧r= [(1000001,taxC x)]):=by
 refine spec_of hT (C:= []) Tryz.func186 rfl Tryz.call186 rfl rfl rfl ?_;conv=>whnf
 refine .ret _ ?_;conv=>whnf
 exact⟨[(1000001,taxC x)],⟨rfl,rfl⟩,rr,trivial⟩
theorem y309b (l:List Tax)(hl:l.length≤2^40)(x:Tax):FSpec Tryz.prog 211 [.d (taxs l),.fn 186 [.ptr 1000001 0]] [(1000001,taxC x)] (fun v r=>v= .d (.int .i64 (ixF (fun i=>(l.getD i tax0).key==x.key) l.length))∧r= [(1000001,taxC x)]):=by
 refine spec_of hT (C:= []) Tryz.func211 rfl Tryz.call211 rfl rfl rfl ?_;conv=>whnf
 refine LoopX.rule hT (C:= []) (ι:=Nat) (fun i=>i≤l.length∧∀j,j<i→((l.getD j tax0).key==x.key)=false) (fun i=>mkSt [(0,.d (taxs l)),(1,.fn 186 [.ptr 1000001 0]),(7,.d (.int .i64 l.length)),(8,.d (.int .i64 i))] [(1000001,taxC x)]) (fun i=>l.length - i) 0 ⟨by omega,by omega⟩ (by exact eAx [(1000001,1000001)]) ?_;rintro i ⟨p1,p2⟩;have e1:(i:Int).toNat=i:=Int.toNat_natCast i;conv=>whnf
 repeat' (first|((first|(refine oAx (y235 (l.getD (i:Int).toNat tax0) x) [(1000001,1000001)] ?_;rintro v rout ⟨rfl,rfl⟩;refine⟨rfl,?_⟩)|(refine br_intro ?_ ?_<;>intro hb<;>try simp only[brs]at hb)|omega|refine sAx ?_|decide|assumption)<;>conv=>whnf))
 · refine .ret _ ?_;conv=>whnf
   refine⟨[(1000001,taxC x)],⟨?_,rfl⟩,rr,trivial⟩;conv=>lhs;whnf
   congr 2
   exact(ixF_hit (by omega) p2 (by simpa using hb)).symm
 · exact⟨i+1,⟨by omega,all_step p2 (by simpa using hb)⟩,by omega,(by exact eAx [(1000001,1000001)])⟩
 · refine .ret _ ?_;conv=>whnf
   refine⟨[(1000001,taxC x)],⟨?_,rfl⟩,rr,trivial⟩;conv=>lhs;whnf
   congr 2
   have:i=l.length:=by omega
   subst this;exact(ixF_none p2).symm
theorem y309bc (l:List Tax)(hl:l.length≤2^40)(x:Tax):FSpec Tryz.prog 157 [.d (taxs l),.fn 186 [.ptr 1000001 0]] [(1000001,taxC x)] (fun v r=>v= .d (.bool (dupT l x))∧r= [(1000001,taxC x)]):=by
 refine spec_of hT (C:= []) Tryz.func157 rfl Tryz.call157 rfl rfl rfl ?_;conv=>whnf
 repeat' (first|((first|(refine oAx (y309b l hl x) [(1000001,1000001)] ?_;rintro v rout ⟨rfl,rfl⟩;refine⟨rfl,?_⟩)|(refine br_intro ?_ ?_<;>intro hb<;>try simp only[brs]at hb)|omega|refine sAx ?_|decide|assumption)<;>conv=>whnf))
 refine .ret _ ?_;conv=>whnf
 exact⟨[(1000001,taxC x)],⟨rfl,rfl⟩,rr,trivial⟩
theorem le_takeT {l:List Tax}{i:Nat}(h:i≤l.length):SV.le (.d (.ro 4 i fun j=>rowF taxF tax0 l (0+j))) (.d (taxs (l.take i))):=
 SV.le_ro (by rw[List.length_take];omega) (fun j hj=>by
  simp only[Nat.zero_add,rowF]
  rw[List.getD_eq_getElem?_getD,List.getD_eq_getElem?_getD,List.getElem?_take_of_lt hj])
theorem taxE_hit {l:List Tax}{i:Nat}{e:Int}(h0:¬ 10<l.length)(h:i<l.length)(p:∀j,j<i→taxE l j=0)(h1:e≠0)(h2:taxE l i=e):taxsE l=e:=by
 unfold taxsE;rw[if_neg h0];exact firstAt_eq h p h1 h2
set_option maxHeartbeats 2000000 in
theorem y153 (l:List Tax)(hk:taxOk l):FSpec Tryz.prog 95 [.d (taxs l)] [] (fun x r=>x= .d (.int .i64 (taxsE l))∧r= []):=by
 refine spec_of hT (C:= []) Tryz.func95 rfl Tryz.call95 rfl rfl rfl ?_;conv=>whnf
 refine br_intro (fun h0=> ?_) (fun h0=> ?_)
 · simp at h0;conv=>whnf
   refine .ret _ ?_;conv=>whnf
   refine⟨[],⟨?_,rfl⟩,trivial⟩;conv=>lhs;whnf
   unfold taxsE;rw[if_pos (by omega)]
 simp at h0;conv=>whnf
 refine LoopX.rule hT (C:= []) (ι:=Nat) (fun i=>i≤l.length∧∀j,j<i→taxE l j=0) (fun i=>mkSt [(0,.d (taxs l)),(10,.d (taxs l)),(11,.d (.int .i64 l.length)),(12,.d (.int .i64 i))] []) (fun i=>l.length - i) 0 ⟨by omega,by omega⟩ (by exact eAx []) ?_;rintro i ⟨p1,p2⟩;have e1:(i:Int).toNat=i:=Int.toNat_natCast i;have hK:(i:Int)<l.length→taxK (l.getD (i:Int).toNat tax0):=fun hi=>hk.2 _ (getD_mem (by omega))
 have hD:=y309ac (l.take (i:Int).toNat) (by rw[List.length_take];have:=hk.1;omega) (l.getD (i:Int).toNat tax0);conv=>whnf
 repeat' (first|(refine CallX.exact (s108 _ (hK (by omega)).1) rfl rfl ?_;rotate_right;conv=>whnf)|(refine CallX.exact (s119 _ _ _) rfl rfl ?_;rotate_right;conv=>whnf)|((first|(refine CallX.of hD [(1000001,4)] rfl ⟨le_takeT (by omega),lr,trivial⟩ ⟨rr,trivial⟩ rfl rfl ?_;rintro v rout ⟨rfl,rfl⟩;refine⟨rfl,?_⟩)|(refine br_intro ?_ ?_<;>intro hb<;>try simp only[brs]at hb)|omega|refine sAx ?_|decide|assumption)<;>conv=>whnf))
 · refine .ret _ ?_;conv=>whnf
   refine⟨[],⟨?_,rfl⟩,trivial⟩;conv=>lhs;whnf
   congr 2
   exact(taxE_hit (by omega) (by omega) p2 (by decide) (by clear p2 hD hk hK;simp only[e1]at*;unfold taxE;grind)).symm
 · refine .ret _ ?_;conv=>whnf
   refine⟨[],⟨?_,rfl⟩,trivial⟩;conv=>lhs;whnf
   congr 2
   exact(taxE_hit (by omega) (by omega) p2 (by decide) (by clear p2 hD hk hK;simp only[e1]at*;unfold taxE;grind)).symm
 · refine .ret _ ?_;conv=>whnf
   refine⟨[],⟨?_,rfl⟩,trivial⟩;conv=>lhs;whnf
   congr 2
   exact(taxE_hit (by omega) (by omega) p2 (by decide) (by clear p2 hD hk hK;simp only[e1]at*;unfold taxE;grind)).symm
 · have hi:i<l.length:=by omega
   have hT1:taxE l i=txOns (l.getD (i:Int).toNat tax0).on:=by clear p2 hD hk hK;simp only[e1]at*;unfold taxE;grind
   obtain⟨X,hX⟩:∃X,X=l.getD (i:Int).toNat tax0:=⟨_,rfl⟩;have hXl:X.on.length≤2^40:=by rw[hX];exact(hK (by omega)).2
   rw[←hX]at hT1;refine LoopX.rule hT (C:= []) (ι:=Nat) (fun k=>k≤X.on.length∧∀j,j<k→txOn X.on j=0) (fun k=>mkSt [(0,.d (taxs l)),(4,.ptr 4 0),(10,.d (taxs l)),(11,.d (.int .i64 l.length)),(12,.d (.int .i64 i)),(34,.d (ints X.on)),(35,.d (.int .i64 X.on.length)),(36,.d (.int .i64 k))] [(4,taxC X)]) (fun k=>X.on.length - k) 0 ⟨by omega,by omega⟩ (by subst hX;exact(by exact eAx [(4,4)])) ?_;rintro k ⟨q1,q2⟩;have e2:(k:Int).toNat=k:=Int.toNat_natCast k;have hbad:∀e:Int,k<X.on.length→e≠0→txOn X.on k=e→taxsE l=e:=fun e h h1 h2=>taxE_hit (by omega) hi p2 h1 (by rw[hT1];exact firstAt_eq h q2 h1 h2)
   clear hD hK hk;conv=>whnf
   repeat' (first|(refine CallX.exact (s119 _ _ _) rfl rfl ?_;rotate_right;conv=>whnf)|((first|(refine br_intro ?_ ?_<;>intro hb<;>try simp only[brs]at hb)|omega|refine sAx ?_|decide|assumption)<;>conv=>whnf))
   all_goals first
    |(refine⟨k+1,⟨by omega,first_step q2 (by clear p2 q2 hbad hT1 hX;simp only[e2,toNat_pred]at*;unfold txOn;grind)⟩,by omega,(by exact eAx [(4,4)])⟩)
    | (refine .ret _ ?_
       conv=>whnf
       refine⟨[],⟨?_,rfl⟩,trivial⟩;conv=>lhs;whnf
       congr 2
       exact(hbad _ (by omega) (by decide) (by clear p2 q2 hbad hT1 hX;simp only[e2,toNat_pred]at*;unfold txOn;grind)).symm)
    | (refine⟨i+1,⟨by omega,first_step p2 ?_⟩,by omega,(by exact eAx [])⟩
       rw[hT1];have:k=X.on.length:=by omega
       subst this
       exact firstAt_zero q2)
 · refine .ret _ ?_;conv=>whnf
   refine⟨[],⟨?_,rfl⟩,trivial⟩;conv=>lhs;whnf
   congr 2
   have:i=l.length:=by omega
   subst this;unfold taxsE;rw[if_neg (by omega),firstAt_zero p2]
set_option maxHeartbeats 2000000 in
theorem y165 (l:List Tax)(hk:taxOk l):FSpec Tryz.prog 143 [.d (taxs l)] [] (fun x r=>x= .d (.int .i64 (taxsE l))∧r= []):=by
 refine spec_of hT (C:= []) Tryz.func143 rfl Tryz.call143 rfl rfl rfl ?_;conv=>whnf
 refine br_intro (fun h0=> ?_) (fun h0=> ?_)
 · simp at h0;conv=>whnf
   refine .ret _ ?_;conv=>whnf
   refine⟨[],⟨?_,rfl⟩,trivial⟩;conv=>lhs;whnf
   unfold taxsE;rw[if_pos (by omega)]
 simp at h0;conv=>whnf
 refine LoopX.rule hT (C:= []) (ι:=Nat) (fun i=>i≤l.length∧∀j,j<i→taxE l j=0) (fun i=>mkSt [(0,.d (taxs l)),(10,.d (taxs l)),(11,.d (.int .i64 l.length)),(12,.d (.int .i64 i))] []) (fun i=>l.length - i) 0 ⟨by omega,by omega⟩ (by exact eAx []) ?_;rintro i ⟨p1,p2⟩;have e1:(i:Int).toNat=i:=Int.toNat_natCast i;have hK:(i:Int)<l.length→taxK (l.getD (i:Int).toNat tax0):=fun hi=>hk.2 _ (getD_mem (by omega))
 have hD:=y309bc (l.take (i:Int).toNat) (by rw[List.length_take];have:=hk.1;omega) (l.getD (i:Int).toNat tax0);conv=>whnf
 repeat' (first|(refine CallX.exact (s21 _ (hK (by omega)).1) rfl rfl ?_;rotate_right;conv=>whnf)|(refine CallX.exact (s110 _ _ _) rfl rfl ?_;rotate_right;conv=>whnf)|((first|(refine CallX.of hD [(1000001,4)] rfl ⟨le_takeT (by omega),lr,trivial⟩ ⟨rr,trivial⟩ rfl rfl ?_;rintro v rout ⟨rfl,rfl⟩;refine⟨rfl,?_⟩)|(refine br_intro ?_ ?_<;>intro hb<;>try simp only[brs]at hb)|omega|refine sAx ?_|decide|assumption)<;>conv=>whnf))
 · refine .ret _ ?_;conv=>whnf
   refine⟨[],⟨?_,rfl⟩,trivial⟩;conv=>lhs;whnf
   congr 2
   exact(taxE_hit (by omega) (by omega) p2 (by decide) (by clear p2 hD hk hK;simp only[e1]at*;unfold taxE;grind)).symm
 · refine .ret _ ?_;conv=>whnf
   refine⟨[],⟨?_,rfl⟩,trivial⟩;conv=>lhs;whnf
   congr 2
   exact(taxE_hit (by omega) (by omega) p2 (by decide) (by clear p2 hD hk hK;simp only[e1]at*;unfold taxE;grind)).symm
 · refine .ret _ ?_;conv=>whnf
   refine⟨[],⟨?_,rfl⟩,trivial⟩;conv=>lhs;whnf
   congr 2
   exact(taxE_hit (by omega) (by omega) p2 (by decide) (by clear p2 hD hk hK;simp only[e1]at*;unfold taxE;grind)).symm
 · have hi:i<l.length:=by omega
   have hT1:taxE l i=txOns (l.getD (i:Int).toNat tax0).on:=by clear p2 hD hk hK;simp only[e1]at*;unfold taxE;grind
   obtain⟨X,hX⟩:∃X,X=l.getD (i:Int).toNat tax0:=⟨_,rfl⟩;have hXl:X.on.length≤2^40:=by rw[hX];exact(hK (by omega)).2
   rw[←hX]at hT1;refine LoopX.rule hT (C:= []) (ι:=Nat) (fun k=>k≤X.on.length∧∀j,j<k→txOn X.on j=0) (fun k=>mkSt [(0,.d (taxs l)),(4,.ptr 4 0),(10,.d (taxs l)),(11,.d (.int .i64 l.length)),(12,.d (.int .i64 i)),(34,.d (ints X.on)),(35,.d (.int .i64 X.on.length)),(36,.d (.int .i64 k))] [(4,taxC X)]) (fun k=>X.on.length - k) 0 ⟨by omega,by omega⟩ (by subst hX;exact(by exact eAx [(4,4)])) ?_;rintro k ⟨q1,q2⟩;have e2:(k:Int).toNat=k:=Int.toNat_natCast k;have hbad:∀e:Int,k<X.on.length→e≠0→txOn X.on k=e→taxsE l=e:=fun e h h1 h2=>taxE_hit (by omega) hi p2 h1 (by rw[hT1];exact firstAt_eq h q2 h1 h2)
   clear hD hK hk;conv=>whnf
   repeat' (first|(refine CallX.exact (s110 _ _ _) rfl rfl ?_;rotate_right;conv=>whnf)|((first|(refine br_intro ?_ ?_<;>intro hb<;>try simp only[brs]at hb)|omega|refine sAx ?_|decide|assumption)<;>conv=>whnf))
   all_goals first
    |(refine⟨k+1,⟨by omega,first_step q2 (by clear p2 q2 hbad hT1 hX;simp only[e2,toNat_pred]at*;unfold txOn;grind)⟩,by omega,(by exact eAx [(4,4)])⟩)
    | (refine .ret _ ?_
       conv=>whnf
       refine⟨[],⟨?_,rfl⟩,trivial⟩;conv=>lhs;whnf
       congr 2
       exact(hbad _ (by omega) (by decide) (by clear p2 q2 hbad hT1 hX;simp only[e2,toNat_pred]at*;unfold txOn;grind)).symm)
    | (refine⟨i+1,⟨by omega,first_step p2 ?_⟩,by omega,(by exact eAx [])⟩
       rw[hT1];have:k=X.on.length:=by omega
       subst this
       exact firstAt_zero q2)
 · refine .ret _ ?_;conv=>whnf
   refine⟨[],⟨?_,rfl⟩,trivial⟩;conv=>lhs;whnf
   congr 2
   have:i=l.length:=by omega
   subst this;unfold taxsE;rw[if_neg (by omega),firstAt_zero p2]
def oJTaD39_1:OL:= [(0,[]),(1,[]),(3,[0,1]),(4,[0,1]),(6,[0,1,3,4]),(7,[0,1,3,4]),(9,[0,1,3,4,6,7]),(10,[0,1,3,4,6,7]),(12,[0,1,3,4,6,7,9,10]),(13,[0,1,3,4,6,7,9,10]),(2,[3,4,6,7,9,10,12,13]),(5,[6,7,9,10,12,13]),(8,[9,10,12,13]),(11,[12,13]),(14,[]),(15,[]),(16,[]),(17,[])]
def oJTaD75_1:OL:= [(0,[]),(1,[]),(3,[0,1]),(4,[0,1]),(6,[0,1,3,4]),(7,[0,1,3,4]),(9,[0,1,3,4,6,7]),(10,[0,1,3,4,6,7]),(12,[0,1,3,4,6,7,9,10]),(13,[0,1,3,4,6,7,9,10]),(17,[0,1,3,4,6,7,9,10,12,13]),(2,[3,4,6,7,9,10,12,13,17]),(5,[6,7,9,10,12,13,17]),(8,[9,10,12,13,17]),(11,[12,13,17]),(14,[17]),(15,[17]),(16,[17])]
def oJTaD88_1:OL:= [(0,[]),(1,[]),(3,[0,1]),(4,[0,1]),(6,[0,1,3,4]),(7,[0,1,3,4]),(2,[3,4,6,7]),(5,[6,7]),(8,[]),(9,[]),(10,[]),(11,[])]
structure Tar where
 rat:List Rat
 ext:List Ext
 fe:List Fe
 cod:List Cod
 tax:List Tax
def tarL (t:Tar):List SV:= [.d (rats t.rat),.d (exts t.ext),.d (fes t.fe),.d (cods t.cod),.d (taxs t.tax)]
def tarOk (t:Tar):Prop:=ratOk t.rat∧extOk t.ext∧feOk t.fe∧codOk t.cod∧taxOk t.tax
def tarE (t:Tar):Int:=firstE [ratsE t.rat,extsE t.ext,fesE t.fe,codsE t.cod,taxsE t.tax]
structure Dea where
 free:Int
 km:Int
 eig:Int
 grc:Int
 hr:Int
 dy:Int
 dep:Int
def deaF (d:Dea):List DV:= [.int .i64 d.free,.int .i64 d.km,.int .i64 d.eig,.int .i64 d.grc,.int .i64 d.hr,.int .i64 d.dy,.int .i64 d.dep]
def deaE (d:Dea):Int:=if(0≤d.free∧d.free≤10000)∧(0≤d.km∧d.km≤100000)∧(0≤d.eig∧d.eig≤100000)∧(0≤d.grc∧d.grc≤1440)∧(0≤d.hr∧d.hr≤1000000)∧(0≤d.dy∧d.dy≤1000000)∧(0≤d.dep∧d.dep≤1000000)then 0 else 1
theorem firstE_hit:∀ {R:List Int} {i:Nat},i<R.length→(∀j,j<i→R.getD j 0=0)→R.getD i 0≠0→firstE R=R.getD i 0
 | [],i,h,_,_=>by simp at h
 |x::R,0,_,_,h=>by simp only[List.getD_cons_zero]at h ⊢;rw[firstE,if_neg h]
 | x::R,i+1,h,p,q=>by
   have h0:x=0:=p 0 (by omega);simp only[List.getD_cons_succ]at q ⊢;rw[firstE,if_pos h0];exact firstE_hit (by simpa using h) (fun j hj=>by have:=p (j+1) (by omega);simpa using this) q
theorem firstE_none:∀ {R:List Int},(∀j,j<R.length→R.getD j 0=0)→firstE R=0
 | [],_=>rfl
 | x::R,p=>by
   have h0:x=0:=p 0 (by simp);rw[firstE,if_pos h0];exact firstE_none (fun j hj=>by have:=p (j+1) (by simpa using hj);simpa using this)
theorem y81 (t:Tar)(hk:tarOk t):FSpec Tryz.prog 39 [.agg (tarL t)] [] (fun x r=>x= .d (.int .i64 (tarE t))∧r= []):=by
 refine spec_of hT (C:= []) Tryz.func39 rfl Tryz.call39 rfl rfl rfl ?_;conv=>whnf
 repeat' (first|(refine CallX.exact (y149 _ hk.1) rfl rfl ?_;rotate_right;conv=>whnf)|(refine CallX.exact (y150 _ hk.2.1) rfl rfl ?_;rotate_right;conv=>whnf)|(refine CallX.exact (y151 _ hk.2.2.1) rfl rfl ?_;rotate_right;conv=>whnf)|(refine CallX.exact (y152 _ hk.2.2.2.1) rfl rfl ?_;rotate_right;conv=>whnf)|(refine CallX.exact (y153 _ hk.2.2.2.2) rfl rfl ?_;rotate_right;conv=>whnf)|((first|refine CallX.pure (s105 [_,_,_,_,_] (by simp)) ⟨SV.le_lit (by rfl) (by rfl),trivial⟩ rfl ?_|(refine br_intro ?_ ?_<;>intro hb<;>try simp only[brs]at hb)|refine rAx hT 1 oJTaD39_1 ?_|omega|refine sAx ?_|decide|assumption)<;>conv=>whnf))
 refine .ret _ ?_;conv=>whnf
 refine⟨[],⟨?_,rfl⟩,trivial⟩;conv=>lhs;whnf
 rfl
theorem y84 (t:Tar)(hk:tarOk t):FSpec Tryz.prog 75 [.agg (tarL t)] [] (fun x r=>x= .d (.int .i64 (tarE t))∧r= []):=by
 have h1:=y161 _ hk.1;have h2:=y162 _ hk.2.1;have h3:=y163 _ hk.2.2.1;have h4:=y164 _ hk.2.2.2.1;have h5:=y165 _ hk.2.2.2.2;unfold tarE;generalize ratsE t.rat=r1 at h1 ⊢;generalize extsE t.ext=r2 at h2 ⊢;generalize fesE t.fe=r3 at h3 ⊢;generalize codsE t.cod=r4 at h4 ⊢;generalize taxsE t.tax=r5 at h5 ⊢;refine spec_of hT (C:= []) Tryz.func75 rfl Tryz.call75 rfl rfl rfl ?_;conv=>whnf
 repeat' (first|(refine CallX.exact (h1) rfl rfl ?_;rotate_right;conv=>whnf)|(refine CallX.exact (h2) rfl rfl ?_;rotate_right;conv=>whnf)|(refine CallX.exact (h3) rfl rfl ?_;rotate_right;conv=>whnf)|(refine CallX.exact (h4) rfl rfl ?_;rotate_right;conv=>whnf)|(refine CallX.exact (h5) rfl rfl ?_;rotate_right;conv=>whnf)|((first|(refine br_intro ?_ ?_<;>intro hb<;>try simp only[brs]at hb)|refine rAx hT 1 oJTaD75_1 ?_|omega|refine sAx ?_|decide|assumption)<;>conv=>whnf))
 obtain⟨R,hR⟩:∃R:List Int,R= [r1,r2,r3,r4,r5]:=⟨_,rfl⟩;have hRl:R.length=5:=by rw[hR];rfl
 rw[←hR];refine LoopX.rule hT (C:= []) (ι:=Nat) (fun i=>i≤5∧∀j,j<i→R.getD j 0=0) (fun i=>mkSt [(20,.d (ints R)),(21,.d (.int .i64 5)),(22,.d (.int .i64 i))] []) (fun i=>5 - i) 0 ⟨by omega,by omega⟩ (by subst hR;exact(by(refine Entails.mk' [] rfl rfl ?_ ?_<;>repeat' (first|exact True.intro|exact lr|exact rr|(exact SV.le_lit rfl rfl)|exact SV.le_int (by omega)|exact SV.le_any _|refine And.intro ?_ ?_));done)) ?_;rintro i ⟨p1,p2⟩;have e1:(i:Int).toNat=i:=Int.toNat_natCast i;conv=>whnf
 repeat' (first|((first|(refine br_intro ?_ ?_<;>intro hb<;>try simp only[brs]at hb)|refine rAx hT 1 oJTaD75_1 ?_|omega|refine sAx ?_|decide|assumption)<;>conv=>whnf))
 · refine .ret _ ?_;conv=>whnf
   refine⟨[],⟨?_,rfl⟩,trivial⟩;conv=>lhs;whnf
   congr 2
   exact(firstE_hit (by omega) p2 hb).symm
 · exact⟨i+1,⟨by omega,all_step p2 hb⟩,by omega,(by exact eAx [])⟩
 · refine .ret _ ?_;conv=>whnf
   refine⟨[],⟨?_,rfl⟩,trivial⟩;conv=>lhs;whnf
   congr 2
   exact(firstE_none (fun j hj=>p2 j (by omega))).symm
theorem y82 (d:Dea):FSpec Tryz.prog 45 [.agg ((deaF d).map .d)] [] (fun x r=>x= .d (.int .i64 (deaE d))∧r= []):=by
 refine spec_of hT (C:= []) Tryz.func45 rfl Tryz.call45 rfl rfl rfl ?_;conv=>whnf
 repeat' (first|(refine CallX.exact (s119 _ _ _) rfl rfl ?_;rotate_right;conv=>whnf)|(refine CallX.exact (s107 _ _) rfl rfl ?_;rotate_right;conv=>whnf)|((first|(refine br_intro ?_ ?_<;>intro hb<;>try simp only[brs]at hb)|omega|refine sAx ?_|decide|assumption)<;>conv=>whnf))
 all_goals
  refine .ret _ ?_;conv=>whnf
  refine⟨[],⟨?_,rfl⟩,trivial⟩;conv=>lhs;whnf
  congr 2
  unfold deaE;grind
theorem y85 (d:Dea):FSpec Tryz.prog 78 [.agg ((deaF d).map .d)] [] (fun x r=>x= .d (.int .i64 (deaE d))∧r= []):=by
 refine spec_of hT (C:= []) Tryz.func78 rfl Tryz.call78 rfl rfl rfl ?_;conv=>whnf
 repeat' (first|(refine CallX.exact (s110 _ _ _) rfl rfl ?_;rotate_right;conv=>whnf)|((first|(refine br_intro ?_ ?_<;>intro hb<;>try simp only[brs]at hb)|omega|refine sAx ?_|decide|assumption)<;>conv=>whnf))
 all_goals
  refine .ret _ ?_;conv=>whnf
  refine⟨[],⟨?_,rfl⟩,trivial⟩;conv=>lhs;whnf
  congr 2
  unfold deaE;grind
structure Hou where
 flt:Flt
 tar:Tar
 dea:Dea
def fltL (f:Flt):List SV:= [.d (stas f.sta),.d (clss f.cls),.d (vehs f.veh),.d (plts f.plt)]
def hou (h:Hou):SV:=.agg (fltL h.flt++tarL h.tar++(deaF h.dea).map .d)
def houOk (h:Hou):Prop:=fltOk h.flt∧tarOk h.tar
def houE (h:Hou):Int:=firstE [fltE h.flt,tarE h.tar,deaE h.dea]
theorem y20h (h:Hou)(hk:houOk h):FSpec Tryz.prog 88 [hou h] [] (fun x r=>x= .d (.int .i64 (houE h))∧r= []):=by
 refine spec_of hT (C:= []) Tryz.func88 rfl Tryz.call88 rfl rfl rfl ?_;conv=>whnf
 repeat' (first|(refine CallX.exact (z114 h.flt hk.1) rfl rfl ?_;rotate_right;conv=>whnf)|(refine CallX.exact (y81 h.tar hk.2) rfl rfl ?_;rotate_right;conv=>whnf)|(refine CallX.exact (y82 h.dea) rfl rfl ?_;rotate_right;conv=>whnf)|((first|refine CallX.pure (s105 [_,_,_] (by simp)) ⟨SV.le_lit (by rfl) (by rfl),trivial⟩ rfl ?_|(refine br_intro ?_ ?_<;>intro hb<;>try simp only[brs]at hb)|refine rAx hT 1 oJTaD88_1 ?_|omega|refine sAx ?_|decide|assumption)<;>conv=>whnf))
 refine .ret _ ?_;conv=>whnf
 refine⟨[],⟨?_,rfl⟩,trivial⟩;conv=>lhs;whnf
 rfl
def linE1 (l:List Lin)(i:Nat):Int:=if ¬ (1≤(l.getD i li0).kind∧(l.getD i li0).kind≤6)then 4 else if isKeyB (l.getD i li0).key=false then 5 else if ¬ (-1000000000≤(l.getD i li0).cents∧(l.getD i li0).cents≤1000000000)then 1 else 0
def linsE (l:List Lin):Int:=if 1000<l.length then 2 else firstAt (linE1 l) l.length
theorem q13 (l:List Lin)(hk:l.length≤2^40∧∀x ∈ l,x.key.length≤2^40):FSpec Tryz.prog 13 [.d (lins l)] [] (fun x r=>x= .d (.int .i64 (linsE l))∧r= []):=by
 have hkl:=hk.1;refine spec_of hT (C:= []) Tryz.func13 rfl Tryz.call13 rfl rfl rfl ?_;conv=>whnf
 refine br_intro (fun h0=> ?_) (fun h0=> ?_)
 · simp at h0;conv=>whnf
   refine .ret _ ?_;conv=>whnf
   refine⟨[],⟨?_,rfl⟩,trivial⟩;conv=>lhs;whnf
   unfold linsE;rw[if_pos (by omega)]
 simp at h0;conv=>whnf
 refine LoopX.rule hT (C:= []) (ι:=Nat) (fun i=>i≤l.length∧∀j,j<i→linE1 l j=0) (fun i=>mkSt [(8,.d (lins l)),(9,.d (.int .i64 l.length)),(10,.d (.int .i64 i))] []) (fun i=>l.length - i) 0 ⟨by omega,by omega⟩ (by exact eAx []) ?_;rintro i ⟨p1,p2⟩;have hx:(i:Int)<l.length→(l.getD (i:Int).toNat li0).key.length≤2^40:=fun hi=>hk.2 _ (getD_mem (by omega))
 have e1:(i:Int).toNat=i:=Int.toNat_natCast i
 have hbad:∀e:Int,i<l.length→e≠0→linE1 l i=e→linsE l=e:=fun e h h1 h2=>by
  unfold linsE;rw[if_neg (by omega)];exact firstAt_eq h p2 h1 h2
 conv=>whnf
 repeat' (first|(refine CallX.exact (s108 _ (hx (by omega))) rfl rfl ?_;rotate_right;conv=>whnf)|(refine CallX.exact (s119 _ _ _) rfl rfl ?_;rotate_right;conv=>whnf)|((first|(refine br_intro ?_ ?_<;>intro hb<;>try simp only[brs]at hb)|omega|refine sAx ?_|decide|assumption)<;>conv=>whnf))
 all_goals first
  |(refine⟨i+1,⟨by omega,first_step p2 (by clear p2 hbad hk hx;simp only[e1]at*;unfold linE1;grind)⟩,by omega,(by exact eAx [])⟩)
  | (refine .ret _ ?_
     conv=>whnf
     refine⟨[],⟨?_,rfl⟩,trivial⟩;conv=>lhs;whnf
     congr 2
     first
      |exact(hbad _ (by omega) (by decide) (by clear p2 hbad hk hx;simp only[e1]at*;unfold linE1;grind)).symm
      | (have:i=l.length:=by omega
         subst this
         unfold linsE;rw[if_neg (by omega),firstAt_zero p2]))
def linS (l:List Lin):Int:=(l.map (·.cents)).sum
theorem linS_snoc {l:List Lin}{i:Nat}(h:i<l.length):linS (l.take (i+1))=linS (l.take i)+(l.getD i li0).cents:=by
 rw[take_snocD (d:=li0) h];simp[linS]
theorem linS_bd {M:Int}{l:List Lin}(hl:∀c ∈ l,-M≤c.cents∧c.cents≤M): -(M*l.length)≤linS l∧linS l≤M*l.length:=by
 induction l with
 |nil=>simp[linS]
 | cons x l ih=>
   have h1:=hl x List.mem_cons_self;have h2:=ih (fun y hy=>hl y (List.mem_cons_of_mem _ hy));simp only[linS,List.map_cons,List.sum_cons,List.length_cons]at h2 ⊢;rw[show((l.length+1:Nat):Int)=(l.length:Int)+1 by push_cast;rfl,Int.mul_add,Int.mul_one];omega
theorem q101 (M:Int)(hM:0≤M∧M≤2^40)(l:List Lin)(hn:l.length≤1000)(hl:∀c ∈ l,-M≤c.cents∧c.cents≤M):FSpec Tryz.prog 101 [.d (lins l)] [] (fun x r=>x= .d (.int .i64 (linS l))∧r= []):=by
 have hsm:∀i,i≤l.length→-2^51≤linS (l.take i)∧linS (l.take i)≤2^51:=fun i hi=>by
  have h1:=linS_bd (l:=l.take i) (fun x hx=>hl x (List.mem_of_mem_take hx));rw[List.length_take,Nat.min_eq_left hi]at h1;have h2:M*i≤2^40*1000:=Int.mul_le_mul hM.2 (by omega) (by omega) (by omega);omega
 refine spec_of hT (C:= []) Tryz.func101 rfl Tryz.call101 rfl rfl rfl ?_;conv=>whnf
 repeat' (first|((first|(refine br_intro ?_ ?_<;>intro hb<;>try simp only[brs]at hb)|omega|refine sAx ?_|decide|assumption)<;>conv=>whnf))
 refine LoopX.rule hT (C:= []) (ι:=Nat) (fun i=>i≤l.length) (fun i=>mkSt [(3,.d (.int .i64 (linS (l.take i)))),(6,.d (lins l)),(7,.d (.int .i64 l.length)),(8,.d (.int .i64 i))] []) (fun i=>l.length - i) 0 (by omega) (by exact eAx []) ?_;rintro i p1;have e1:(i:Int).toNat=i:=Int.toNat_natCast i;have hs0:=hsm i p1;have hg:(i:Int)<l.length→-M≤(l.getD (i:Int).toNat li0).cents∧(l.getD (i:Int).toNat li0).cents≤M:=fun h=>hl _ (getD_mem (by omega))
 conv=>whnf
 repeat' (first|((first|(refine br_intro ?_ ?_<;>intro hb<;>try simp only[brs]at hb)|omega|refine sAx ?_|decide|assumption)<;>conv=>whnf))
 · refine⟨i+1,by omega,by omega,Entails.mk' [] rfl rfl ⟨SV.le_int ?_,lr,lr,lr,trivial⟩ trivial⟩;rw[linS_snoc (by omega),e1]
 · have:i=l.length:=by omega
   subst this;rw[List.take_length];refine .ret _ ?_;conv=>whnf
   refine⟨[],⟨?_,rfl⟩,trivial⟩;conv=>lhs;whnf
def begW (a i:Int):Int:=a+i*1440
def endW (a b i:Int):Int:=min (begW a (i+1)) b
def rtI (l:List Rat)(c:List UInt8)(d:Int):Int:=ixF (fun i=>(l.getD i rat0).cls==c&&(decide ((l.getD i rat0).frm≤d)&&decide (d≤(l.getD i rat0).to - 1))) l.length
structure Rtd where
 rt:List Rat
 a:Int
 b:Int
 se:List Int
def rentN (l:List Rat)(c:List UInt8)(a:Int)(n:Nat):List Int:=(List.range n).map fun i:Nat=>rtI l c ((begW a (i:Int)).tdiv 1440)
def rentV (l:List Rat)(c:List UInt8)(a b:Int):Rtd:=⟨l,a,b,rentN l c a (daysW a b).toNat⟩
def wkA (t:Int):Int:=t - t.tmod 10080 - 4320+720
def wkB (t:Int):Int:=t - t.tmod 10080+5760+720
def wkE (t:Int):Int:=if wkA t≤t∧t≤wkA t+4320 - 1 then wkA t+4320 else if wkB t≤t∧t≤wkB t+4320 - 1 then wkB t+4320 else -1
def priR (h:Rtd)(k f m:Int)(r:Rat):Int×Bool:=
 let left:=(h.se.length:Int) - f
 if k=1 then(r.hr,decide (m=1)&&decide (left=1))
 else if k=2 then(r.dy,decide (m=1))
 else if k=3 then(r.we,decide (0≤wkE (begW h.a f))&&decide (endW h.a h.b (f+m - 1)≤wkE (begW h.a f)))
 else if k=4 then(r.wk,decide (m=min 7 left)&&((h.se.drop f.toNat).take m.toNat).all fun s=>decide (s=h.se.getD f.toNat 0))
 else(-1,decide (m=1))
def priM (h:Rtd)(k f p:Int):Int:=if k=1 then p*(endW h.a h.b f - begW h.a f+59).tdiv 60 else p
def priV (h:Rtd)(k f m:Int):Int×Bool:=
 if m<1∨(h.se.length:Int) - f<m∨(-1:Int) ∈ (h.se.drop f.toNat).take m.toNat then(0,false)
 else
  let q:=priR h k f m (h.rt.getD (h.se.getD f.toNat 0).toNat rat0)
  if q.2=false∨q.1<0 then(0,false)else(priM h k f q.1,true)
structure Dvd where
 cost:Int
 pcs:Int
 kind:Int
 days:Int
 cents:Int
 fine:Bool
deriving DecidableEq
def dvF (d:Dvd):List DV:= [.int .i64 d.cost,.int .i64 d.pcs,.int .i64 d.kind,.int .i64 d.days,.int .i64 d.cents,.bool d.fine]
def dv0:Dvd:=⟨0,0,0,0,0,false⟩
def dvS (h:Rtd)(i:Nat)(k m:Int)(B:List Dvd):List Dvd:=
 let q:=priV h k i m
 let r:=B.getD (i+m.toNat) dv0
 if q.2=false∨r.fine=false then B
 else if(B.getD i dv0).fine=false∨q.1+r.cost<(B.getD i dv0).cost∨(q.1+r.cost=(B.getD i dv0).cost∧1+r.pcs<(B.getD i dv0).pcs)then B.set i ⟨q.1+r.cost,1+r.pcs,k,m,q.1,true⟩
 else B
def dvM (h:Rtd)(i:Nat)(k:Int):Nat→List Dvd→List Dvd
 |0,B=>B
 |m+1,B=>dvS h i k ((m+1:Nat):Int) (dvM h i k m B)
def dvL (h:Rtd)(i:Nat):Nat:=min 7 (h.se.length - i)
def dvK (h:Rtd)(i:Nat):Nat→List Dvd→List Dvd
 |0,B=>B
 |k+1,B=>dvM h i ((k+1:Nat):Int) (dvL h i) (dvK h i k B)
def dvB0 (n:Nat):List Dvd:=(List.replicate (n+1) dv0).set n {dv0 with fine:=true}
def dvD (h:Rtd):Nat→List Dvd
 |0=>dvB0 h.se.length
 |j+1=>dvK h (h.se.length - 1 - j) 4 (dvD h j)
def dvV (h:Rtd):List Dvd:=dvD h h.se.length
structure dvI (h:Rtd)(B:List Dvd):Prop where
 len:B.length=h.se.length+1
 bd:∀j,j≤h.se.length→(0≤(B.getD j dv0).cost∧(B.getD j dv0).cost≤24000000*((h.se.length - j:Nat):Int))∧(0≤(B.getD j dv0).pcs∧(B.getD j dv0).pcs≤((h.se.length - j:Nat):Int))∧
  (0≤(B.getD j dv0).cents∧(B.getD j dv0).cents≤24000000)∧(0≤(B.getD j dv0).kind∧(B.getD j dv0).kind≤4)
 stp:∀j,j<h.se.length→(B.getD j dv0).fine=true→1≤(B.getD j dv0).kind∧1≤(B.getD j dv0).days∧(j:Int)+(B.getD j dv0).days≤h.se.length∧(B.getD (j+(B.getD j dv0).days.toNat) dv0).fine=true
theorem getD_set {α:Type}(l:List α)(i j:Nat)(x d:α)(hi:i<l.length):(l.set i x).getD j d=if j=i then x else l.getD j d:=by
 simp only[List.getD_eq_getElem?_getD,List.getElem?_set]
 by_cases e:i=j
 · subst e;simp[hi]
 · rw[if_neg e,if_neg (fun c=>e c.symm)]
theorem dvB0_I (h:Rtd):dvI h (dvB0 h.se.length):=by
 have hg:∀j,(dvB0 h.se.length).getD j dv0=if j=h.se.length then{dv0 with fine:=true}else dv0:=fun j=>by
  unfold dvB0;rw[getD_set _ _ _ _ _ (by simp)];split
  · rfl
  · simp only[List.getD_eq_getElem?_getD,List.getElem?_replicate];split<;>rfl
 refine⟨by simp[dvB0],fun j hj=> ?_,fun j hj hf=> ?_⟩
 · rw[hg];split<;>simp[dv0]<;>omega
 · rw[hg,if_neg (by omega)]at hf;exact absurd hf (by simp[dv0])
structure rtdOk (h:Rtd):Prop where
 n:h.se.length≤120
 ab:0≤h.a∧h.a<h.b∧h.b≤5761439
 lst:h.a+((h.se.length:Int) - 1)*1440<h.b
 rt:∀x ∈ h.rt,nums x
 sx:∀s ∈ h.se,-1≤s∧s<h.rt.length
theorem tdiv60 {x:Int}(h0:0≤x):x.tdiv 60=x/60:=Int.tdiv_eq_ediv_of_nonneg h0
theorem priV_bd {h:Rtd}(ok:rtdOk h){k f m:Int}(hf:0≤f):(0≤(priV h k f m).1∧(priV h k f m).1≤24000000)∧((priV h k f m).2=true→1≤m∧f+m≤h.se.length):=by
 unfold priV;split
 · exact⟨by simp,by simp⟩
 · rename_i c
   dsimp only
   split
   · exact⟨by simp,by simp⟩
   · rename_i c2;refine⟨?_,fun _=>by omega⟩;have hm:1≤m∧f+m≤h.se.length:=by omega
     have hlt:f.toNat<h.se.length:=by omega
     have hs:=ok.sx _ (getD_mem (x:=(0:Int)) hlt)
     have hne:h.se.getD f.toNat 0≠-1:=fun q=>c (Or.inr (Or.inr (by
      rw[←q]
      have e:(h.se.drop f.toNat).take m.toNat=h.se.getD f.toNat 0::((h.se.drop (f.toNat+1)).take (m.toNat - 1)):=by
       rw[List.drop_eq_getElem_cons hlt];obtain⟨mm,hmm⟩:∃mm,m.toNat=mm+1:=⟨m.toNat - 1,by omega⟩;rw[hmm,List.take_succ_cons,List.getD_eq_getElem?_getD,List.getElem?_eq_getElem hlt];rfl
      rw[e];exact List.mem_cons_self)))
     have hr:=ok.rt _ (getD_mem (x:=rat0) (show(h.se.getD f.toNat 0).toNat<h.rt.length by omega));obtain⟨r1,r2,r3,r4⟩:=hr;generalize h.rt.getD (h.se.getD f.toNat 0).toNat rat0=r at*
     have hp:(priR h k f m r).1≤1000000:=by
      unfold priR;unfold numO at r1 r2 r3 r4;repeat' split
      all_goals dsimp only
      all_goals omega
     have hq:0≤(priR h k f m r).1:=by
      have:=c2;omega
     generalize (priR h k f m r).1=p at hp hq;show 0≤priM h k f p∧priM h k f p≤24000000;unfold priM;split
     · have hlast:=ok.lst;have hab:=ok.ab
       have h1:begW h.a f<h.b:=by
        unfold begW;have:f≤(h.se.length:Int) - 1:=by omega
        omega
       have h2:0≤endW h.a h.b f - begW h.a f∧endW h.a h.b f - begW h.a f≤1440:=by
        unfold endW;have:begW h.a (f+1)=begW h.a f+1440:=by unfold begW;omega
        omega
       rw[tdiv60 (by omega)];have h3:0≤(endW h.a h.b f - begW h.a f+59)/60∧(endW h.a h.b f - begW h.a f+59)/60≤24:=by omega
       generalize (endW h.a h.b f - begW h.a f+59)/60=u at h3
       exact⟨Int.mul_nonneg hq h3.1,by
        have:=Int.mul_le_mul hp h3.2 h3.1 (by omega)
        omega⟩
     · omega
theorem dvS_I {h:Rtd}(ok:rtdOk h){i:Nat}(hi:i<h.se.length){k m:Int}(hk:1≤k∧k≤4){B:List Dvd}(hB:dvI h B):dvI h (dvS h i k m B):=by
 unfold dvS
 dsimp only
 split
 · exact hB
 · rename_i c;split
   · obtain⟨⟨p1,p2⟩,p3⟩:=priV_bd ok (k:=k) (f:=(i:Int)) (m:=m) (by omega);have hq:(priV h k i m).2=true:=by cases e:(priV h k i m).2 with|true=>rfl|false=>exact absurd (Or.inl e) c
     have hr:(B.getD (i+m.toNat) dv0).fine=true:=by cases e:(B.getD (i+m.toNat) dv0).fine with|true=>rfl|false=>exact absurd (Or.inr e) c
     have p3:=p3 hq;have hl:=hB.len;obtain⟨⟨b1,b2⟩,⟨b3,b4⟩,_,_⟩:=hB.bd (i+m.toNat) (by omega);refine⟨by rw[List.length_set];exact hl,fun j hj=> ?_,fun j hj hf=> ?_⟩
     · rw[getD_set _ _ _ _ _ (by omega)];split
       · rename_i e;subst e;refine⟨⟨by show 0≤_+_;omega,?_⟩,⟨by show 0≤1+_;omega,by show 1+_≤_;omega⟩,⟨p1,p2⟩,by show 0≤k;omega,hk.2⟩;show(priV h k j m).1+(B.getD (j+m.toNat) dv0).cost≤_;have:((h.se.length - (j+m.toNat):Nat):Int)+1≤((h.se.length - j:Nat):Int):=by omega
         omega
       · exact hB.bd j hj
     · rw[getD_set _ _ _ _ _ (by omega)]at hf ⊢
       by_cases e:j=i
       · subst e;rw[if_pos rfl]at hf ⊢;refine⟨hk.1,p3.1,p3.2,?_⟩;show((B.set j _).getD (j+m.toNat) dv0).fine=true;rw[getD_set _ _ _ _ _ (by omega),if_neg (by omega)];exact hr
       · rw[if_neg e]at hf ⊢;obtain⟨s1,s2,s3,s4⟩:=hB.stp j hj hf;refine⟨s1,s2,s3,?_⟩;rw[getD_set _ _ _ _ _ (by omega)];split
         · rfl
         · exact s4
   · exact hB
theorem dvM_I {h:Rtd}(ok:rtdOk h){i:Nat}(hi:i<h.se.length){k:Int}(hk:1≤k∧k≤4){B:List Dvd}(hB:dvI h B):∀m,dvI h (dvM h i k m B)
 |0=>hB
 |m+1=>dvS_I ok hi hk (dvM_I ok hi hk hB m)
theorem dvK_I {h:Rtd}(ok:rtdOk h){i:Nat}(hi:i<h.se.length){B:List Dvd}(hB:dvI h B):∀k,k≤4→dvI h (dvK h i k B)
 |0,_=>hB
 |k+1,hk=>dvM_I ok hi (by omega) (dvK_I ok hi hB k (by omega)) _
theorem dvD_I {h:Rtd}(ok:rtdOk h):∀j,j≤h.se.length→dvI h (dvD h j)
 |0,_=>dvB0_I h
 |j+1,hj=>dvK_I ok (by omega) (dvD_I ok j (by omega)) 4 (Nat.le_refl _)
def pcsV (B:List Dvd):Nat→Nat→List Dvd
 |0,_=> []
 |n+1,i=>if i<B.length - 1 then B.getD i dv0::pcsV B n (i+(B.getD i dv0).days.toNat)else []
theorem pcsV_bd {h:Rtd}{B:List Dvd}(hB:dvI h B):∀n i,i≤h.se.length→(B.getD i dv0).fine=true→(pcsV B n i).length≤h.se.length - i∧∀x ∈ pcsV B n i,(0≤x.cents∧x.cents≤24000000)∧1≤x.kind∧x.kind≤4:=by
 intro n
 induction n with
 |zero=>intro i _ _;exact⟨by simp[pcsV],by simp[pcsV]⟩
 | succ n ih=>
   intro i hi hf;unfold pcsV;split
   · rename_i c;have hl:=hB.len;obtain⟨s1,s2,s3,s4⟩:=hB.stp i (by omega) hf;obtain⟨h1,h2⟩:=ih (i+(B.getD i dv0).days.toNat) (by omega) s4;obtain⟨_,_,b3,b4⟩:=hB.bd i hi;refine⟨by rw[List.length_cons];omega,fun x hx=> ?_⟩;rcases List.mem_cons.1 hx with q|q
     · subst q;exact⟨b3,s1,b4.2⟩
     · exact h2 x q
   · exact⟨by simp,by simp⟩
def keyP (k:Int):List UInt8:=if k=1 then [104,111,117,114,115]else if k=2 then [100,97,121]else if k=3 then [119,101,101,107,101,110,100]else if k=4 then [119,101,101,107]else []
def linP (d:Dvd):Lin:=⟨1,keyP d.kind,d.cents⟩
def onS (t:Tax)(L:List Lin):Int:=(L.map fun x=>if x.kind ∈ t.on then x.cents else 0).sum
def nearV (n:Int):Int:=if(n+500).tmod 1000<0 then(n+500).tdiv 1000 - 1 else(n+500).tdiv 1000
def taxN (l:List Tax)(L:List Lin):Nat→List Lin
 |0=> []
 |k+1=>taxN l L k++ [⟨5,(l.getD k tax0).key,nearV ((onS (l.getD k tax0) L+if(l.getD k tax0).over=true then linS (taxN l L k)else 0)*(l.getD k tax0).per)⟩]
theorem taxN_len (l:List Tax)(L:List Lin):∀k,(taxN l L k).length=k
 |0=>rfl
 |k+1=>by rw[taxN,List.length_append,taxN_len l L k];rfl
theorem linS_app (a b:List Lin):linS (a++b)=linS a+linS b:=by unfold linS;simp
theorem nearV_bd {n:Int}(h:0≤n):0≤nearV n∧1000*nearV n≤n+500:=by
 unfold nearV;rw[Int.tdiv_eq_ediv_of_nonneg (by omega)];have:0≤(n+500).tmod 1000:=Int.tmod_nonneg _ (by omega);rw[if_neg (by omega)];omega
theorem onS_bd (t:Tax):∀ {L:List Lin},(∀x ∈ L,0≤x.cents)→0≤onS t L∧onS t L≤linS L
 | [],_=>by simp[onS,linS]
 | x::L,h=>by
   have h1:=h x List.mem_cons_self;have h2:=onS_bd t (fun y hy=>h y (List.mem_cons_of_mem _ hy));simp only[onS,linS,List.map_cons,List.sum_cons]at h2 ⊢;split<;>omega
theorem taxN_bd {l:List Tax}{L:List Lin}{b:Int}(hb:linS L+1≤b)(hL:∀x ∈ L,0≤x.cents)(ht:∀x ∈ l,0≤x.per∧x.per≤1000):∀k,k≤l.length→(∀x ∈ taxN l L k,0≤x.cents)∧0≤linS (taxN l L k)∧linS (taxN l L k)+b≤2 ^ k*b:=by
 intro k
 induction k with
 |zero=>intro _;exact⟨by simp[taxN],by simp[taxN,linS],by simp[taxN,linS]⟩
 | succ k ih=>
   intro hk;obtain⟨h1,h2,h3⟩:=ih (by omega);have ho:=onS_bd (l.getD k tax0) hL;have hp:=ht _ (getD_mem (x:=tax0) (show k<l.length by omega));obtain⟨m,hm⟩:∃m,m=onS (l.getD k tax0) L+(if(l.getD k tax0).over=true then linS (taxN l L k)else 0):=⟨_,rfl⟩;have hm1:0≤m∧m≤linS L+linS (taxN l L k):=by rw[hm];split<;>omega
   have hmp:0≤m*(l.getD k tax0).per∧m*(l.getD k tax0).per≤m*1000:=⟨Int.mul_nonneg hm1.1 hp.1,Int.mul_le_mul_of_nonneg_left hp.2 hm1.1⟩;have hn:=nearV_bd hmp.1;have e:taxN l L (k+1)=taxN l L k++ [⟨5,(l.getD k tax0).key,nearV (m*(l.getD k tax0).per)⟩]:=by rw[taxN,hm]
   rw[e];refine⟨fun x hx=> ?_,?_,?_⟩
   · rcases List.mem_append.1 hx with q|q
     · exact h1 x q
     · rw[List.mem_singleton]at q;subst q;exact hn.1
   · rw[linS_app];show 0≤_+linS [_];simp only[linS,List.map_cons,List.map_nil,List.sum_cons,List.sum_nil]at h2 ⊢;omega
   · rw[linS_app,Int.pow_succ];have:linS [(⟨5,(l.getD k tax0).key,nearV (m*(l.getD k tax0).per)⟩:Lin)]=nearV (m*(l.getD k tax0).per):=by simp[linS]
     rw[this];have:(2:Int) ^ k*2*b=2*(2 ^ k*b):=by rw[Int.mul_comm ((2:Int) ^ k) 2,Int.mul_assoc]
     rw[this];generalize (2:Int) ^ k*b=y at*;omega
def feeI (l:List Fe)(a b:List UInt8):Int:=ixF (fun i=>(l.getD i fe0).a==a&&(l.getD i fe0).b==b) l.length
def quoL (t:Tar)(P:List Dvd)(A B:List UInt8):List Lin:=P.map linP++(if A=B then []else [⟨4,[111,110,101,119,97,121],(t.fe.getD (feeI t.fe A B).toNat fe0).cents⟩])
def quoP (t:Tar)(c:List UInt8)(a b:Int):List Dvd:=pcsV (dvV (rentV t.rat c a b)) (daysW a b).toNat 0
def quoV (t:Tar)(c:List UInt8)(a b:Int)(A B:List UInt8):List Lin×Int:=
 if((dvV (rentV t.rat c a b)).getD 0 dv0).fine=false then([],8)
 else if 1000000000<linS ((quoP t c a b).map linP)then([],1)
 else if A≠B∧feeI t.fe A B<0 then([],8)
 else(quoL t (quoP t c a b) A B++taxN t.tax (quoL t (quoP t c a b) A B) t.tax.length,0)
def oJQuB257_1:OL:= [(0,[]),(1,[0]),(2,[0]),(4,[0,1,2]),(5,[0,1,2]),(6,[0,1,2]),(3,[4,5,6]),(7,[]),(8,[])]
def oJQuB162_5:OL:= [(0,[]),(1,[]),(2,[0,1]),(3,[0,1,2]),(4,rg 4),(5,rg 5),(6,rg 4),(7,rg 4),(8,[0,1]),(9,[0,1]),(10,[]),(11,[]),(12,[])]
theorem q217 (l:List Int)(hl:l.length≤2^40)(v:Int):FSpec Tryz.prog 217 [.d (ints l),.d (.int .i64 v)] [] (fun x r=>x= .d (.int .i64 (ixF (fun i=>decide (v=l.getD i 0)) l.length))∧r= []):=by
 refine spec_of hT (C:= []) Tryz.func217 rfl Tryz.call217 rfl rfl rfl ?_;conv=>whnf
 refine LoopX.rule hT (C:= []) (ι:=Nat) (fun i=>i≤l.length∧∀j,j<i→decide (v=l.getD j 0)=false) (fun i=>mkSt [(0,.d (ints l)),(1,.d (.int .i64 v)),(7,.d (.int .i64 l.length)),(8,.d (.int .i64 i))] []) (fun i=>l.length - i) 0 ⟨by omega,by omega⟩ (by exact eAx []) ?_;rintro i ⟨p1,p2⟩;have e1:(i:Int).toNat=i:=Int.toNat_natCast i;conv=>whnf
 repeat' (first|((first|(refine br_intro ?_ ?_<;>intro hb<;>try simp only[brs]at hb)|omega|refine sAx ?_|decide|assumption)<;>conv=>whnf))
 · refine .ret _ ?_;conv=>whnf
   refine⟨[],⟨?_,rfl⟩,trivial⟩;conv=>lhs;whnf
   congr 2
   exact(ixF_hit (by omega) p2 (by simpa using hb)).symm
 · exact⟨i+1,⟨by omega,all_step p2 (by simpa using hb)⟩,by omega,(by exact eAx [])⟩
 · refine .ret _ ?_;conv=>whnf
   refine⟨[],⟨?_,rfl⟩,trivial⟩;conv=>lhs;whnf
   congr 2
   have:i=l.length:=by omega
   subst this;exact(ixF_none p2).symm
theorem ix_int (l:List Int)(v:Int):decide (0≤ixF (fun i=>decide (v=l.getD i 0)) l.length)=decide (v ∈ l):=by
 rw[decide_eq_decide];constructor
 · intro h;have hb:=ixF_bd (p:=fun i=>decide (v=l.getD i 0)) (n:=l.length);have h2:=of_decide_eq_true (hb.2.2 h);rw[h2];exact getD_mem (by omega)
 · intro h;obtain⟨j,hj,e⟩:=mem_getD (d:=(0:Int)) h;exact ixF_pos hj (decide_eq_true e.symm)
theorem q166 (l:List Int)(hl:l.length≤2^40)(v:Int):FSpec Tryz.prog 166 [.d (ints l),.d (.int .i64 v)] [] (fun x r=>x= .d (.bool (decide (v ∈ l)))∧r= []):=by
 refine spec_of hT (C:= []) Tryz.func166 rfl Tryz.call166 rfl rfl rfl ?_;conv=>whnf
 repeat' (first|(refine CallX.exact (q217 l hl v) rfl rfl ?_;rotate_right;conv=>whnf)|((first|(refine br_intro ?_ ?_<;>intro hb<;>try simp only[brs]at hb)|omega|refine sAx ?_|decide|assumption)<;>conv=>whnf))
 refine .ret _ ?_;conv=>whnf
 refine⟨[],⟨?_,rfl⟩,trivial⟩;conv=>lhs;whnf
 exact congrArg SV.d (congrArg DV.bool (ix_int l v))
abbrev rkC (c:List UInt8):Res:=.cells 9 [.d (.str c)]
abbrev rkI (d:Int):Res:=.cells 3 [.d (.int .i64 d)]
def rtP (c:List UInt8)(d:Int)(x:Rat):Bool:=x.cls==c&&(decide (x.frm≤d)&&decide (d≤x.to - 1))
theorem q255 (x:Rat)(hx: -2^40≤x.to∧x.to≤2^40)(c:List UInt8)(d:Int):FSpec Tryz.prog 255 [.agg ((ratF x).map .d),.ptr 1000001 0,.ptr 1000002 0] [(1000001,rkC c),(1000002,rkI d)] (fun y r=>y= .d (.bool (rtP c d x))∧r= [(1000001,rkC c),(1000002,rkI d)]):=by
 refine spec_of hT (C:= []) Tryz.func255 rfl Tryz.call255 rfl rfl rfl ?_;conv=>whnf
 repeat' (first|(refine CallX.exact (s119 _ _ _) rfl rfl ?_;rotate_right;conv=>whnf)|((first|(refine br_intro ?_ ?_<;>intro hb<;>try simp only[brs]at hb)|omega|refine sAx ?_|decide|assumption)<;>conv=>whnf))
 all_goals
  refine .ret _ ?_;conv=>whnf
  refine⟨[(1000001,rkC c),(1000002,rkI d)],⟨?_,rfl⟩,rr,rr,trivial⟩;conv=>lhs;whnf
  congr 2
  unfold rtP;simp_all
theorem q254 (l:List Rat)(hl:l.length≤2^40)(hx:∀x ∈ l,-2^40≤x.to∧x.to≤2^40)(c:List UInt8)(d:Int):FSpec Tryz.prog 254 [.d (rats l),.fn 255 [.ptr 1000001 0,.ptr 1000002 0]] [(1000001,rkC c),(1000002,rkI d)] (fun y r=>y= .d (.int .i64 (ixF (fun i=>rtP c d (l.getD i rat0)) l.length))∧r= [(1000001,rkC c),(1000002,rkI d)]):=by
 refine spec_of hT (C:= []) Tryz.func254 rfl Tryz.call254 rfl rfl rfl ?_;conv=>whnf
 refine LoopX.rule hT (C:= []) (ι:=Nat) (fun i=>i≤l.length∧∀j,j<i→rtP c d (l.getD j rat0)=false) (fun i=>mkSt [(0,.d (rats l)),(1,.fn 255 [.ptr 1000001 0,.ptr 1000002 0]),(7,.d (.int .i64 l.length)),(8,.d (.int .i64 i))] [(1000001,rkC c),(1000002,rkI d)]) (fun i=>l.length - i) 0 ⟨by omega,by omega⟩ (by exact eAx [(1000001,1000001),(1000002,1000002)]) ?_;rintro i ⟨p1,p2⟩;have e1:(i:Int).toNat=i:=Int.toNat_natCast i;conv=>whnf
 repeat' (first|((first|(refine CallX.of (q255 (l.getD (i:Int).toNat rat0) (hx _ (getD_mem (by omega))) c d) [(1000001,1000001),(1000002,1000002)] rfl ⟨lr,lr,lr,trivial⟩ ⟨rr,rr,trivial⟩ rfl rfl ?_;rintro x rout ⟨rfl,rfl⟩;refine⟨rfl,?_⟩)|(refine br_intro ?_ ?_<;>intro hb<;>try simp only[brs]at hb)|omega|refine sAx ?_|decide|assumption)<;>conv=>whnf))
 · refine .ret _ ?_;conv=>whnf
   refine⟨[(1000001,rkC c),(1000002,rkI d)],⟨?_,rfl⟩,rr,rr,trivial⟩;conv=>lhs;whnf
   congr 2
   exact(ixF_hit (by omega) p2 (by simpa using hb)).symm
 · exact⟨i+1,⟨by omega,all_step p2 (by simpa using hb)⟩,by omega,(by exact eAx [(1000001,1000001),(1000002,1000002)])⟩
 · refine .ret _ ?_;conv=>whnf
   refine⟨[(1000001,rkC c),(1000002,rkI d)],⟨?_,rfl⟩,rr,rr,trivial⟩;conv=>lhs;whnf
   congr 2
   have:i=l.length:=by omega
   subst this;exact(ixF_none p2).symm
theorem q212 (l:List Rat)(hl:l.length≤2^40)(hx:∀x ∈ l,-2^40≤x.to∧x.to≤2^40)(c:List UInt8)(d:Int):FSpec Tryz.prog 212 [.d (rats l),.d (.str c),.d (.int .i64 d)] [] (fun y r=>y= .d (.int .i64 (rtI l c d))∧r= []):=by
 refine spec_of hT (C:= []) Tryz.func212 rfl Tryz.call212 rfl rfl rfl ?_;conv=>whnf
 repeat' (first|((first|(refine oAx (q254 l hl hx c d) [(1000001,4),(1000002,5)] ?_;rintro x rout ⟨rfl,rfl⟩;refine⟨rfl,?_⟩)|(refine br_intro ?_ ?_<;>intro hb<;>try simp only[brs]at hb)|omega|refine sAx ?_|decide|assumption)<;>conv=>whnf))
 refine .ret _ ?_;conv=>whnf
 refine⟨[],⟨?_,rfl⟩,trivial⟩;conv=>lhs;whnf
 rfl
theorem q213 (l:List Rat)(a b:Int)(se:List Int)(i:Int)(ha:0≤a∧a≤5761439)(hi: -1≤i∧i≤2^20):FSpec Tryz.prog 213 [.agg [.d (rats l),.d (.int .i64 a),.d (.int .i64 b),.d (ints se)],.d (.int .i64 i)] [] (fun y r=>y= .d (.int .i64 (begW a i))∧r= []):=by
 refine spec_of hT (C:= []) Tryz.func213 rfl Tryz.call213 rfl rfl rfl ?_;conv=>whnf
 repeat' (first|((first|(refine br_intro ?_ ?_<;>intro hb<;>try simp only[brs]at hb)|omega|refine sAx ?_|decide|assumption)<;>conv=>whnf))
 refine .ret _ ?_;conv=>whnf
 refine⟨[],⟨?_,rfl⟩,trivial⟩;conv=>lhs;whnf
 rfl
theorem q213b (l:List Rat)(a b:Int)(se:List Int)(i:Int)(ha:0≤a∧a≤5761439)(hi: -1≤i∧i≤2^20):FSpec Tryz.prog 213 [.agg [.d (rats l),.d (.int .i64 a),.d (.int .i64 b),.buf 1000003],.d (.int .i64 i)] [(1000003,seqB 3 1 iF 0 se)] (fun y r=>y= .d (.int .i64 (begW a i))∧r= [(1000003,seqB 3 1 iF 0 se)]):=by
 have h1:=FSpec.lend (args:= [.agg [.d (rats l),.d (.int .i64 a),.d (.int .i64 b),.buf 1000003],.d (.int .i64 i)]) 1000003 3 1 se.length (rowF iF 0 se) (q213 l a b se i ha hi) rfl (fun c r q=>nomatch q) rfl
  (fun x r h=>by obtain⟨rfl,rfl⟩:=h;exact⟨rfl,fun c q e=>(nomatch e),rfl⟩)
 exact h1.mono (fun x r h=>by obtain⟨r0,⟨q,rfl⟩,rfl⟩:=h;exact⟨q,rfl⟩)
theorem q257 (l:List Rat)(a b:Int)(se:List Int)(i:Int)(ha:0≤a∧a≤5761439)(hi: -1≤i∧i<2^20):FSpec Tryz.prog 257 [.agg [.d (rats l),.d (.int .i64 a),.d (.int .i64 b),.d (ints se)],.d (.int .i64 i)] [] (fun y r=>y= .d (.int .i64 (endW a b i))∧r= []):=by
 have hb1: -2^40≤begW a (i+1)∧begW a (i+1)≤2^40:=by unfold begW;omega
 refine spec_of hT (C:= []) Tryz.func257 rfl Tryz.call257 rfl rfl rfl ?_;conv=>whnf
 repeat' (first|(refine CallX.exact (q213 l a b se (i+1) ha ⟨by omega,by omega⟩) rfl rfl ?_;rotate_right;conv=>whnf)|((first|(refine br_intro ?_ ?_<;>intro hb<;>try simp only[brs]at hb)|refine rAx hT 1 oJQuB257_1 ?_|omega|refine sAx ?_|decide|assumption)<;>conv=>whnf))
 refine .ret _ ?_;conv=>whnf
 refine⟨[],⟨?_,rfl⟩,trivial⟩;conv=>lhs;whnf
 rfl
theorem wkN (t:Int)(ht:0≤t∧t≤2^30):0≤t.tmod 10080∧t.tmod 10080≤t:=⟨Int.tmod_nonneg _ ht.1,by rw[Int.tmod_eq_emod_of_nonneg ht.1];omega⟩
set_option maxHeartbeats 4000000 in
theorem q256 (t:Int)(ht:0≤t∧t≤2^30):FSpec Tryz.prog 256 [.d (.int .i64 t)] [] (fun y r=>y= .d (.int .i64 (wkE t))∧r= []):=by
 have hm:=wkN t ht;have hmi:inI64 (t.tmod 10080):=by unfold inI64;omega
 refine spec_of hT (C:= []) Tryz.func256 rfl Tryz.call256 rfl rfl rfl ?_;conv=>whnf
 repeat' (first|((first|refine And.intro hmi ?_|(refine br_intro ?_ ?_<;>intro hb<;>try simp only[brs]at hb)|omega|refine sAx ?_|decide|assumption)<;>conv=>whnf))
 refine LoopX.unroll hT (C:= []) (fun _ _ h=>h) (fun _ h=>h) ?_;conv=>whnf
 repeat' (first|(refine CallX.exact (s119 _ _ _) rfl rfl ?_;rotate_right;conv=>whnf)|((first|(refine br_intro ?_ ?_<;>intro hb<;>try simp only[brs]at hb)|omega|refine sAx ?_|decide|assumption)<;>conv=>whnf))
 · refine .ret _ ?_;conv=>whnf
   refine⟨[],⟨?_,rfl⟩,trivial⟩;conv=>lhs;whnf
   unfold wkE wkA;rw[if_pos (by omega)]
 refine LoopX.unroll hT (C:= []) (fun _ _ h=>h) (fun _ h=>h) ?_;conv=>whnf
 repeat' (first|(refine CallX.exact (s119 _ _ _) rfl rfl ?_;rotate_right;conv=>whnf)|((first|(refine br_intro ?_ ?_<;>intro hb<;>try simp only[brs]at hb)|omega|refine sAx ?_|decide|assumption)<;>conv=>whnf))
 · refine .ret _ ?_;conv=>whnf
   refine⟨[],⟨?_,rfl⟩,trivial⟩;conv=>lhs;whnf
   unfold wkE wkA wkB;rw[if_neg (by omega),if_pos (by omega)]
 refine LoopX.unroll hT (C:= []) (fun _ _ h=>h) (fun _ h=>h) ?_;conv=>whnf
 repeat' (first|((first|(refine br_intro ?_ ?_<;>intro hb<;>try simp only[brs]at hb)|omega|refine sAx ?_|decide|assumption)<;>conv=>whnf))
 refine .ret _ ?_;conv=>whnf
 refine⟨[],⟨?_,rfl⟩,trivial⟩;conv=>lhs;whnf
 unfold wkE wkA wkB;rw[if_neg (by omega),if_neg (by omega)]
set_option maxHeartbeats 4000000 in
theorem q162 (l:List Rat)(hl:l.length≤2^40)(hx:∀x ∈ l,-2^40≤x.to∧x.to≤2^40)(c:List UInt8)(a b:Int)(hab:0≤a∧a<b∧b≤5761439)(hn:daysW a b≤120):
 FSpec Tryz.prog 162 [.d (rats l),.d (.str c),.agg [.d (.int .i64 a),.d (.int .i64 b)]] [] (fun y r=>y= .agg [.d (rats l),.d (.int .i64 a),.d (.int .i64 b),.d (ints (rentN l c a (daysW a b).toNat))]∧r= []):=by
 have hd:1≤daysW a b:=by unfold daysW;rw[Int.tdiv_eq_ediv_of_nonneg (by omega)];omega
 have hdn:((daysW a b).toNat:Int)=daysW a b:=Int.toNat_of_nonneg (by omega);have c52:=z311 a b hab;rw[←hdn]at c52;obtain⟨n,hn2⟩:∃n,n=(daysW a b).toNat:=⟨_,rfl⟩;have hnb:n≤120:=by omega
 rw[←hn2]at c52 ⊢;refine spec_of hT (C:= []) Tryz.func162 rfl Tryz.call162 rfl rfl rfl ?_;conv=>whnf
 repeat' (first|(refine CallX.exact (c52) rfl rfl ?_;rotate_right;conv=>whnf)|((first|(refine br_intro ?_ ?_<;>intro hb<;>try simp only[brs]at hb)|refine rAx hT 5 oJQuB162_5 ?_|omega|refine sAx ?_|decide|assumption)<;>conv=>whnf))
 refine LoopX.rule hT (C:= []) (ι:=Nat) (fun i=>i≤n) (fun i=>mkSt [(0,.d (rats l)),(1,.d (.str c)),(6,.ptr 6 0),(7,.ptr 7 0),(13,.d (.int .i64 n)),(14,.d (.int .i64 i))] [(6,.cells 260 [.d .nilsl,.d (.int .i64 0),.d (.int .i64 0),.d .nilsl]),(7,.cells 260 [.d (rats l),.d (.int .i64 a),.d (.int .i64 b),.buf 50]),(50,seqB 3 1 iF 0 (rentN l c a i))]) (fun i=>n - i) 0 (Nat.zero_le _) ?_ ?_
 · refine(Entails.nilCell 7 50 3 1 3 (rowF iF 0 []) rfl rfl rfl (by decide) rfl).trans ?_;exact Entails.mk' [(6,6),(7,7),(50,50)] rfl rfl ⟨lr,lr,lr,lr,lr,lr,trivial⟩ ⟨rr,rr,rr,trivial⟩
 intro i pi;have e1:(i:Int).toNat=i:=Int.toNat_natCast i;have hbg:0≤begW a i∧begW a i≤2^40:=by unfold begW;omega
 have hbd:inI64 ((begW a i).tdiv 1440):=by unfold inI64;rw[Int.tdiv_eq_ediv_of_nonneg hbg.1];omega
 have hrl:(rentN l c a i).length=i:=by simp[rentN]
 rcases Nat.lt_or_ge i n with hi|hi
 · have cb:=q213b l a b (rentN l c a i) i (by omega) (by omega);have cr:=q212 l hl hx c ((begW a i).tdiv 1440);conv=>whnf
   repeat' (first|(refine CallX.look cb [(1000003,50)] rfl ⟨lr,lr,trivial⟩ ⟨⟨_,rfl,rfl⟩,trivial⟩ rfl rfl rfl ?_;conv=>whnf)|(refine CallX.exact (cr) rfl rfl ?_;rotate_right;conv=>whnf)|((first|refine And.intro hbd ?_|(refine br_intro ?_ ?_<;>intro hb<;>try simp only[brs]at hb)|refine rAx hT 5 oJQuB162_5 ?_|omega|refine sAx ?_|decide|assumption)<;>conv=>whnf))
   all_goals try(exfalso;omega)
   have hs:rentN l c a (i+1)=rentN l c a i++ [rtI l c ((begW a i).tdiv 1440)]:=by simp[rentN,List.range_succ]
   refine⟨i+1,by omega,by omega,Entails.mk' [(6,6),(7,7),(50,27)] rfl rfl ⟨lr,lr,lr,lr,lr,SV.le_int (by omega),trivial⟩ ⟨rr,rr,?_,trivial⟩⟩;rw[hs];exact Res.le_snocF rfl
 · have hin:i=n:=by omega
   rw[hin];conv=>whnf
   repeat' (first|((first|(refine br_intro ?_ ?_<;>intro hb<;>try simp only[brs]at hb)|refine rAx hT 5 oJQuB162_5 ?_|omega|refine sAx ?_|decide|assumption)<;>conv=>whnf))
   all_goals try(exfalso;omega)
   refine .freeze _ 50 3 1 _ _ rfl (.ent _ _ (Entails.froCell 6 50 1 _ 3 _ rfl rfl rfl) (.weak _ ?_));conv=>whnf
   exact⟨.agg [.d (rats l),.d (.int .i64 a),.d (.int .i64 b),.d (ints (rentN l c a n))],[],SV.le_agg ⟨lr,lr,lr,lr,trivial⟩,⟨rfl,rfl⟩,trivial⟩
def oJQuC214_4:OL:= [(0,[]),(1,[]),(2,[0,1]),(3,[0,1]),(4,rg 4),(5,[0,1]),(6,[0,1]),(7,[]),(8,[]),(9,rg 9),(10,[])]
def oJQuC214_13:OL:= [(0,[]),(1,[]),(2,[0,1]),(3,[0,1]),(4,[0,1]),(5,[0,1]),(6,[0,1,5]),(7,[0,1,5,6]),(8,[0,1,5]),(9,[0,1,5]),(11,[0,1,5,6,7,8,9]),(10,[0,1,11]),(12,[0,1]),(13,[0,1]),(14,[11,12,13]),(15,[])]
def oJQuC214_24:OL:= [(0,[]),(1,[0]),(2,[0,1]),(4,[0,1,2]),(5,[0,1,2,4]),(3,[0,4,5]),(6,[0]),(7,[0]),(8,[0]),(9,[0]),(10,[]),(11,[])]
abbrev rtdL (h:Rtd):List SV:= [.d (rats h.rt),.d (.int .i64 h.a),.d (.int .i64 h.b),.d (ints h.se)]
abbrev rtdA (h:Rtd):SV:=.agg (rtdL h)
def segI (h:Rtd)(f m:Nat):List Int:=(h.se.drop f).take m
theorem segI_len {h:Rtd}{f m:Nat}(hm:f+m≤h.se.length):(segI h f m).length=m:=by unfold segI;simp;omega
theorem segI_get {h:Rtd}{f m j:Nat}(hm:f+m≤h.se.length)(hj:j<m):(segI h f m).getD j 0=h.se.getD (f+j) 0:=by
 unfold segI;simp only[List.getD_eq_getElem?_getD,List.getElem?_take,List.getElem?_drop,if_pos hj]
theorem segI_le {h:Rtd}{f m:Nat}(hm:f+m≤h.se.length):SV.le (.d (.ro 1 ((f:Int)+(m:Int) - (f:Int)).toNat fun j=>rowF iF 0 h.se ((f:Int).toNat+j))) (.d (ints (segI h f m))):=
 SV.le_ro (by rw[segI_len hm];omega) (fun j hj=>by
  rw[Int.toNat_natCast];show iF (h.se.getD (f+j) 0)=iF ((segI h f m).getD j 0)
  rw[segI_get hm (by omega)])
theorem priV_of {h:Rtd}{k:Int}{f m:Nat}(h1:1≤m)(hm:f+m≤h.se.length):priV h k f m=if(-1:Int) ∈ segI h f m then(0,false)else
 if(priR h k f m (h.rt.getD (h.se.getD f 0).toNat rat0)).2=false∨(priR h k f m (h.rt.getD (h.se.getD f 0).toNat rat0)).1<0 then(0,false)else(priM h k f (priR h k f m (h.rt.getD (h.se.getD f 0).toNat rat0)).1,true):=by
 unfold priV segI;simp only[Int.toNat_natCast]
 by_cases q:(-1:Int) ∈ (h.se.drop f).take m
 · rw[if_pos (Or.inr (Or.inr q)),if_pos q]
 · rw[if_neg (by rintro(c|c|c);omega;omega;exact q c),if_neg q]
theorem le_bool {a b:Bool}(h:a=b):SV.le (.d (.bool a)) (.d (.bool b)):=h ▸ lr
set_option maxHeartbeats 4000000 in
theorem q214 (h : Rtd) (ok : rtdOk h) (hl:h.rt.length≤2^20)(k:Int)(hk:1≤k∧k≤4)(f m:Nat)(h1:1≤m)(hm:f+m≤h.se.length):
 FSpec Tryz.prog 214 [rtdA h,.d (.int .i64 k),.d (.int .i64 f),.d (.int .i64 m)] [] (fun y r=>y= .tup [.d (.int .i64 (priV h k f m).1),.d (.bool (priV h k f m).2)]∧r= []):=by
 obtain⟨o1,⟨o2,o3,o4⟩,o5,o6,o7⟩:=ok;have hsl:=segI_len hm;have c166:=q166 (segI h f m) (by omega) (-1);have e1:(f:Int).toNat=f:=Int.toNat_natCast f;rw[priV_of h1 hm]
 by_cases q:(-1:Int) ∈ segI h f m
 · rw[if_pos q];rw[decide_eq_true q]at c166;refine spec_of hT (C:= []) Tryz.func214 rfl Tryz.call214 rfl rfl rfl ?_;conv=>whnf
   repeat' (first|((first|refine CallX.pure c166 ⟨segI_le hm,lr,trivial⟩ rfl ?_|(refine br_intro ?_ ?_<;>intro hb<;>try simp only[brs]at hb)|refine rAx hT 4 oJQuC214_4 ?_|refine rAx hT 13 oJQuC214_13 ?_|refine rAx hT 24 oJQuC214_24 ?_|omega|refine sAx ?_|decide|assumption)<;>conv=>whnf))
   all_goals try(exfalso;omega)
   refine .ret _ ?_;conv=>whnf
   refine⟨[],⟨congrArg SV.tup ?_,rfl⟩,trivial⟩;repeat' (refine cons_eq ?_ ?_)
   all_goals (conv=>lhs;whnf)
   all_goals try(with_reducible rfl)
 · rw [if_neg q];rw[decide_eq_false q]at c166;have hs0:h.se.getD (f:Int).toNat 0 ∈ h.se:=getD_mem (by omega);have hs1:=o7 _ hs0
   have hs2:h.se.getD (f:Int).toNat 0≠-1:=fun z=>q (by
    have:=segI_get (h:=h) hm (show 0<m by omega);rw[Nat.add_zero,←e1,z]at this
    rw[←this];exact getD_mem (by omega))
   have hr:=o6 _ (getD_mem (x:=rat0) (show(h.se.getD (f:Int).toNat 0).toNat<h.rt.length by omega))
   have hb0 : begW h.a f < h.b := by unfold begW;have:(f:Int)≤(h.se.length:Int) - 1:=by omega
                                     omega
   have hbg:begW h.a f=h.a+f*1440:=rfl;have hr1:=hr;obtain⟨u1,u2,u3,u4⟩:=hr1;unfold numO at u1 u2 u3 u4;have cb:=q213 h.rt h.a h.b h.se f (by omega) (by omega);have ce:=q257 h.rt h.a h.b h.se f (by omega) (by omega);have ce2:=q257 h.rt h.a h.b h.se ((f:Int)+m - 1) (by omega) (by omega);have cw:=q256 (begW h.a f) (by omega)
   have hend:0≤endW h.a h.b f - begW h.a f∧endW h.a h.b f - begW h.a f≤1440:=by
    unfold endW;have:begW h.a ((f:Int)+1)=begW h.a f+1440:=by unfold begW;omega
    omega
   have hbgb:0≤begW h.a f∧begW h.a f≤2^30:=by omega
   have hdq:0≤(endW h.a h.b f - begW h.a f+59).tdiv 60∧(endW h.a h.b f - begW h.a f+59).tdiv 60≤24:=by rw[tdiv60 (by omega)];omega
   have hdi:inI64 ((endW h.a h.b f - begW h.a f+59).tdiv 60):=by unfold inI64;omega
   obtain⟨R,hR⟩:∃R,R=h.rt.getD (h.se.getD f 0).toNat rat0:=⟨_,rfl⟩
   have hmu:inI64 ((h.rt.getD (h.se.getD (f:Int).toNat 0).toNat rat0).hr*(endW h.a h.b f - begW h.a f+59).tdiv 60):=by
    generalize (h.rt.getD (h.se.getD (f:Int).toNat 0).toNat rat0).hr=p at*;generalize (endW h.a h.b f - begW h.a f+59).tdiv 60=z at*;have z1:=Int.mul_nonneg (show 0≤p+1 by omega) hdq.1;have z2:=Int.mul_nonneg (show 0≤1000000 - p by omega) hdq.1;rw[Int.add_mul]at z1;rw[Int.sub_mul]at z2;unfold inI64;omega
   have hk4:k=1∨k=2∨k=3∨k=4:=by omega
   rcases hk4 with rfl|rfl|rfl|rfl
   · have hP:∀R,priR h 1 f m R=(R.hr,decide ((m:Int)=1)&&decide ((h.se.length:Int) - f=1)):=fun R=>by unfold priR;rw[if_pos rfl]
     rw[hP];refine spec_of hT (C:= []) Tryz.func214 rfl Tryz.call214 rfl rfl rfl ?_;conv=>whnf
     repeat' (first|(refine CallX.pure c166 ⟨segI_le hm,lr,trivial⟩ rfl ?_;conv=>whnf)|(refine CallX.exact (cb) rfl rfl ?_;rotate_right;conv=>whnf)|(refine CallX.exact (ce) rfl rfl ?_;rotate_right;conv=>whnf)|(refine CallX.exact (ce2) rfl rfl ?_;rotate_right;conv=>whnf)|(refine CallX.exact (cw) rfl rfl ?_;rotate_right;conv=>whnf)|((first|refine And.intro hdi ?_|refine And.intro hmu ?_|(refine br_intro ?_ ?_<;>intro hb<;>try simp only[brs]at hb)|refine rAx hT 4 oJQuC214_4 ?_|refine rAx hT 13 oJQuC214_13 ?_|refine rAx hT 24 oJQuC214_24 ?_|omega|refine sAx ?_|decide|assumption)<;>conv=>whnf))
     all_goals try(exfalso;omega)
     all_goals
      refine .ret _ ?_;conv=>whnf
      refine⟨[],⟨congrArg SV.tup ?_,rfl⟩,trivial⟩;repeat' (refine cons_eq ?_ ?_)
      all_goals (conv=>lhs;whnf)
      all_goals try(with_reducible rfl)
      all_goals simp only[Int.toNat_natCast]
      all_goals first
       |rw[if_pos (by first|exact Or.inr (by assumption)|exact Or.inl (by simp;omega))]
       |(rw[if_neg (fun c=>c.elim (fun c=>by simp at c;omega) (fun c=>by omega))];done)
       |(rw[if_neg (fun c=>c.elim (fun c=>by simp at c;omega) (fun c=>by omega))];unfold priM;rw[if_pos rfl])
   · have hP:∀R,priR h 2 f m R=(R.dy,decide ((m:Int)=1)):=fun R=>by unfold priR;rw[if_neg (by decide),if_pos rfl]
     rw[hP];refine spec_of hT (C:= []) Tryz.func214 rfl Tryz.call214 rfl rfl rfl ?_;conv=>whnf
     repeat' (first|(refine CallX.pure c166 ⟨segI_le hm,lr,trivial⟩ rfl ?_;conv=>whnf)|(refine CallX.exact (cb) rfl rfl ?_;rotate_right;conv=>whnf)|(refine CallX.exact (ce) rfl rfl ?_;rotate_right;conv=>whnf)|(refine CallX.exact (ce2) rfl rfl ?_;rotate_right;conv=>whnf)|(refine CallX.exact (cw) rfl rfl ?_;rotate_right;conv=>whnf)|((first|(refine br_intro ?_ ?_<;>intro hb<;>try simp only[brs]at hb)|refine rAx hT 4 oJQuC214_4 ?_|refine rAx hT 13 oJQuC214_13 ?_|refine rAx hT 24 oJQuC214_24 ?_|omega|refine sAx ?_|decide|assumption)<;>conv=>whnf))
     all_goals try(exfalso;omega)
     all_goals
      refine .ret _ ?_;conv=>whnf
      refine⟨[],⟨congrArg SV.tup ?_,rfl⟩,trivial⟩;repeat' (refine cons_eq ?_ ?_)
      all_goals (conv=>lhs;whnf)
      all_goals try(with_reducible rfl)
      all_goals simp only[Int.toNat_natCast]
      all_goals first
       |rw[if_pos (by first|exact Or.inr (by assumption)|exact Or.inl (by simp;omega))]
       |(rw[if_neg (fun c=>c.elim (fun c=>by simp at c;omega) (fun c=>by omega))];done)
       |(rw[if_neg (fun c=>c.elim (fun c=>by simp at c;omega) (fun c=>by omega))];unfold priM;rw[if_neg (by decide)])
   · have hP:∀R,priR h 3 f m R=(R.we,decide (0≤wkE (begW h.a f))&&decide (endW h.a h.b ((f:Int)+m - 1)≤wkE (begW h.a f))):=fun R=>by unfold priR;rw[if_neg (by decide),if_neg (by decide),if_pos rfl]
     rw[hP];refine spec_of hT (C:= []) Tryz.func214 rfl Tryz.call214 rfl rfl rfl ?_;conv=>whnf
     repeat' (first|(refine CallX.pure c166 ⟨segI_le hm,lr,trivial⟩ rfl ?_;conv=>whnf)|(refine CallX.exact (cb) rfl rfl ?_;rotate_right;conv=>whnf)|(refine CallX.exact (ce2) rfl rfl ?_;rotate_right;conv=>whnf)|(refine CallX.exact (cw) rfl rfl ?_;rotate_right;conv=>whnf)|((first|(refine br_intro ?_ ?_<;>intro hb<;>try simp only[brs]at hb)|refine rAx hT 4 oJQuC214_4 ?_|refine rAx hT 13 oJQuC214_13 ?_|refine rAx hT 24 oJQuC214_24 ?_|omega|refine sAx ?_|decide|assumption)<;>conv=>whnf))
     all_goals try(exfalso;omega)
     all_goals
      refine .ret _ ?_;conv=>whnf
      refine⟨[],⟨congrArg SV.tup ?_,rfl⟩,trivial⟩;repeat' (refine cons_eq ?_ ?_)
      all_goals (conv=>lhs;whnf)
      all_goals try(with_reducible rfl)
      all_goals simp only[Int.toNat_natCast]
      all_goals first
       |rw[if_pos (by first|exact Or.inr (by assumption)|exact Or.inl (by simp;omega))]
       |(rw[if_neg (fun c=>c.elim (fun c=>by simp at c;omega) (fun c=>by omega))];done)
       |(rw[if_neg (fun c=>c.elim (fun c=>by simp at c;omega) (fun c=>by omega))];unfold priM;rw[if_neg (by decide)])
   · have hP:∀R,priR h 4 f m R=(R.wk,decide ((m:Int)=min 7 ((h.se.length:Int) - f))&&((segI h f m).all fun s=>decide (s=h.se.getD f 0))):=fun R=>by
      unfold priR segI;rw[if_neg (by decide),if_neg (by decide),if_neg (by decide),if_pos rfl,Int.toNat_natCast,Int.toNat_natCast]
     rw[hP];obtain⟨W,hW⟩:∃W:Bool,W=decide ((m:Int)=min 7 ((h.se.length:Int) - f)):=⟨_,rfl⟩
     have hSs:∀i,i<m→((segI h f m).take (i+1)).all (fun s=>decide (s=h.se.getD f 0))=(((segI h f m).take i).all (fun s=>decide (s=h.se.getD f 0))&&decide ((segI h f m).getD i 0=h.se.getD f 0)):=fun i hi=>by
      rw[take_snocD (d:=(0:Int)) (by omega),List.all_append];simp
     rw[←hW];obtain⟨S,hS⟩:∃S,S=segI h f m:=⟨_,rfl⟩;rw[←hS]at hSs hsl c166 ⊢;have hle:=segI_le (h:=h) hm;rw[←hS]at hle;refine spec_of hT (C:= []) Tryz.func214 rfl Tryz.call214 rfl rfl rfl ?_;conv=>whnf
     repeat' (first|((first|refine CallX.pure c166 ⟨hle,lr,trivial⟩ rfl ?_|(refine br_intro ?_ ?_<;>intro hb<;>try simp only[brs]at hb)|refine rAx hT 4 oJQuC214_4 ?_|refine rAx hT 13 oJQuC214_13 ?_|refine rAx hT 24 oJQuC214_24 ?_|omega|refine sAx ?_|decide|assumption)<;>conv=>whnf))
     all_goals try(exfalso;omega)
     refine LoopX.rule hT (C:= []) (ι:=Nat) (fun i=>i≤m) (fun i=>mkSt [(1,.d (.int .i64 4)),(2,.d (.int .i64 f)),(4,.ptr 4 0),(12,.d (.int .i64 (h.rt.getD (h.se.getD (f:Int).toNat 0).toNat rat0).wk)),(13,.d (.bool ((S.take i).all (fun s=>decide (s=h.se.getD f 0))&&W))),(98,.d (ints S)),(99,.d (.int .i64 m)),(100,.d (.int .i64 i))] [(4,.cells 260 (rtdL h))]) (fun i=>m - i) 0 (Nat.zero_le _) ?_ ?_
     · subst hW;exact Entails.mk' [(4,4)] rfl rfl ⟨lr,lr,lr,lr,lr,hle,SV.le_int (by omega),lr,trivial⟩ ⟨rr,trivial⟩
     intro i pi;have e2:(i:Int).toNat=i:=Int.toNat_natCast i;rcases Nat.lt_or_ge i m with hi|hi
     · have hss:=hSs i hi;conv=>whnf
       repeat' (first|((first|(refine br_intro ?_ ?_<;>intro hb<;>try simp only[brs]at hb)|refine rAx hT 4 oJQuC214_4 ?_|refine rAx hT 13 oJQuC214_13 ?_|refine rAx hT 24 oJQuC214_24 ?_|omega|refine sAx ?_|decide|assumption)<;>conv=>whnf))
       all_goals try(exfalso;omega)
       all_goals
        refine⟨i+1,by omega,by omega,Entails.mk' [(4,4)] rfl rfl ⟨lr,lr,lr,lr,?_,lr,lr,SV.le_int (by omega),trivial⟩ ⟨rr,trivial⟩⟩;rw[hss]
        first
         |exact le_bool (by simp only[Bool.and_eq_true,e1,e2]at*;rw[hb.1,hb.2];simp)
         |exact le_bool (by simp only[e1,e2]at*;grind)
     · have him:i=m:=by omega
       have hSt:S.take i=S:=by rw[List.take_of_length_le (by omega)]
       rw[hSt];clear hP hSs hSt hW;generalize (S.all fun s=>decide (s=h.se.getD f 0))=Z;cases Z<;>cases W
       all_goals
        conv=>whnf
       all_goals
        repeat' (first|((first|(refine br_intro ?_ ?_<;>intro hb<;>try simp only[brs]at hb)|refine rAx hT 4 oJQuC214_4 ?_|refine rAx hT 13 oJQuC214_13 ?_|refine rAx hT 24 oJQuC214_24 ?_|omega|refine sAx ?_|decide|assumption)<;>conv=>whnf))
       all_goals try(exfalso;omega)
       all_goals
        refine .ret _ ?_;conv=>whnf
        refine⟨[],⟨congrArg SV.tup ?_,rfl⟩,trivial⟩;repeat' (refine cons_eq ?_ ?_)
        all_goals (conv=>lhs;whnf)
        all_goals try(with_reducible rfl)
       all_goals try simp only[Int.toNat_natCast,Bool.false_and,Bool.and_false,Bool.and_self,reduceCtorEq,true_or,false_or,if_true]
       all_goals first
        |done
        |(rw[if_pos hb];done)
        |(rw[if_neg (Int.not_lt.2 hb)];done)
        |(rw[if_neg (Int.not_lt.2 hb)];unfold priM;rw[if_neg (by decide)])
        |skip
def oJQuD163_17:OL:= [(0,[]),(1,[0]),(2,[]),(3,[]),(4,[]),(5,[]),(6,[]),(7,[]),(8,[]),(9,[7,8]),(10,[7,8,9]),(11,[7,8]),(12,[7,8]),(13,[7,8]),(15,[7,8,9,10,11,12,13]),(16,[7,8,9,10,11,12,13]),(17,[7,8,9,10,11,12,13,15,16]),(18,[7,8,9,10,11,12,13,15,16,17]),(19,[7,8,9,10,11,12,13,15,16]),(20,[7,8,9,10,11,12,13,15,16]),(21,[7,8,9,10,11,12,13,15,16]),(14,[15,16,17,18,19,20,21]),(22,[]),(23,[]),(24,[]),(25,[]),(26,[])]
abbrev dvs (l:List Dvd):DV:=seqD 6 dvF dv0 l
abbrev dvR (l:List Dvd):Res:=seqB 264 6 dvF dv0 l
theorem dvB0_get (n j:Nat):(dvB0 n).getD j dv0=if j=n then{dv0 with fine:=true}else dv0:=by
 unfold dvB0;rw[getD_set _ _ _ _ _ (by simp)];split
 · rfl
 · simp only[List.getD_eq_getElem?_getD,List.getElem?_replicate];split<;>rfl
theorem cmp2i_lt (a b c d:Int):(firstE [cmpI a b,cmpI c d]<0)↔(a<b∨(a=b∧c<d)):=by
 simp only[firstE];unfold cmpI;repeat' split
 all_goals omega
set_option maxHeartbeats 16000000 in
theorem q163 (h:Rtd)(ok:rtdOk h)(hl:h.rt.length≤2^20):FSpec Tryz.prog 163 [rtdA h] [] (fun y r=>y= .d (dvs (dvV h))∧r= []):=by
 have hn:=ok.n;refine spec_of hT (C:= []) Tryz.func163 rfl Tryz.call163 rfl rfl rfl ?_;conv=>whnf
 repeat' (first|((first|(refine br_intro ?_ ?_<;>intro hb<;>try simp only[brs]at hb)|refine rAx hT 17 oJQuD163_17 ?_|omega|refine sAx ?_|decide|assumption)<;>conv=>whnf))
 refine LoopX.rule hT (C:= []) (ι:=Nat) (fun j=>j≤h.se.length) (fun j=>mkSt [(1,.ptr 1 0),(3,.d (.int .i64 h.se.length)),(4,.buf 4),(5,.d (.int .i64 ((h.se.length:Int) - 1 - j)))] [(1,.cells 260 (rtdL h)),(4,dvR (dvD h j))]) (fun j=>h.se.length - j) 0 (Nat.zero_le _) ?_ ?_
 · refine Entails.mk' [(1,1),(4,17)] rfl rfl ⟨lr,lr,lr,SV.le_int (by omega),trivial⟩ ⟨rr,Res.le_buf (by show _=(dvB0 h.se.length).length;unfold dvB0;rw[List.length_set,List.length_replicate];omega) (fun j hj=> ?_),trivial⟩;show _=dvF ((dvB0 h.se.length).getD j dv0);rw[dvB0_get]
   by_cases e:j=h.se.length
   · subst e;rw[if_pos rfl,Int.toNat_natCast,Nat.beq_refl,cond_true];rfl
   · rw[if_neg e,Int.toNat_natCast,nbeq_ne e,cond_false];rfl
 intro j pj;rcases Nat.lt_or_ge j h.se.length with hj|hj
 · have hI :=dvD_I ok j pj;obtain⟨i,hi⟩:∃i,i=h.se.length - 1 - j:=⟨_,rfl⟩;have hin:i<h.se.length:=by omega
   have hii:(h.se.length:Int) - 1 - j=i:=by omega
   have hL:dvL h i=min 7 (h.se.length - i):=rfl;rw[hii];conv=>whnf
   repeat' (first|((first|(refine br_intro ?_ ?_<;>intro hb<;>try simp only[brs]at hb)|refine rAx hT 17 oJQuD163_17 ?_|omega|refine sAx ?_|decide|assumption)<;>conv=>whnf))
   refine LoopX.rule hT (C:= []) (ι:=Nat) (fun k=>k≤4) (fun k=>mkSt [(1,.ptr 1 0),(3,.d (.int .i64 h.se.length)),(4,.buf 4),(5,.d (.int .i64 i)),(6,.d (.int .i64 ((k:Int)+1)))] [(1,.cells 260 (rtdL h)),(4,dvR (dvK h i k (dvD h j)))]) (fun k=>4 - k) 0 (by omega) ?_ ?_
   · exact Entails.mk' [(1,1),(4,4)] rfl rfl ⟨lr,lr,lr,lr,lr,trivial⟩ ⟨rr,rr,trivial⟩
   intro k pk;have hK:=dvK_I ok hin hI k pk;rcases Nat.lt_or_ge k 4 with hk|hk
   · conv=>whnf
     repeat' (first|((first|(refine br_intro ?_ ?_<;>intro hb<;>try simp only[brs]at hb)|refine rAx hT 17 oJQuD163_17 ?_|omega|refine sAx ?_|decide|assumption)<;>conv=>whnf))
     refine LoopX.rule hT (C:= []) (ι:=Nat) (fun m=>m≤dvL h i) (fun m=>mkSt [(1,.ptr 1 0),(3,.d (.int .i64 h.se.length)),(4,.buf 4),(5,.d (.int .i64 i)),(6,.d (.int .i64 ((k:Int)+1))),(7,.d (.int .i64 ((m:Int)+1)))] [(1,.cells 260 (rtdL h)),(4,dvR (dvM h i ((k+1:Nat):Int) m (dvK h i k (dvD h j))))]) (fun m=>dvL h i - m) 0 (Nat.zero_le _) ?_ ?_
     · exact Entails.mk' [(1,1),(4,4)] rfl rfl ⟨lr,lr,lr,lr,lr,lr,trivial⟩ ⟨rr,rr,trivial⟩
     intro m pm;have hM:=dvM_I ok hin (k:=((k+1:Nat):Int)) (by omega) hK m;obtain⟨B,hB⟩:∃B,B=dvM h i ((k+1:Nat):Int) m (dvK h i k (dvD h j)):=⟨_,rfl⟩;have hBl:=hM.len;rw[←hB]at hM hBl;have hbf:(bif false then max 7 ((h.se.length:Int) - (i:Int))else min 7 ((h.se.length:Int) - (i:Int)))=((dvL h i:Nat):Int):=by show min 7 ((h.se.length:Int) - (i:Int))=_;rw[hL];omega
     rcases Nat.lt_or_ge m (dvL h i)with hm|hm
     · have him:i+(m+1)≤h.se.length:=by omega
       have c214:=q214 h ok hl ((k:Int)+1) (by omega) i (m+1) (by omega) him;have c214':FSpec Tryz.prog 214 [rtdA h,.d (.int .i64 ((k:Int)+1)),.d (.int .i64 i),.d (.int .i64 ((m:Int)+1))] [] (fun y r=>y= .tup [.d (.int .i64 (priV h ((k:Int)+1) i ((m:Int)+1)).1),.d (.bool (priV h ((k:Int)+1) i ((m:Int)+1)).2)]∧r= []):=c214;have hpb:=priV_bd ok (k:=(k:Int)+1) (f:=(i:Int)) (m:=(m:Int)+1) (by omega);obtain⟨q,hq⟩:∃q,q=priV h ((k:Int)+1) i ((m:Int)+1):=⟨_,rfl⟩;rw[←hq]at c214' hpb;have hB2:B.length≤2^20:=by omega
       have hbi:=hM.bd i (by omega);have hbm:=hM.bd (i+(m+1)) him;have im:((i:Int)+((m:Int)+1)).toNat=i+(m+1):=by omega
       have ii:(i:Int).toNat=i:=Int.toNat_natCast i;rw[←im]at hbm;have hS:dvM h i ((k+1:Nat):Int) (m+1) (dvK h i k (dvD h j))=dvS h i ((k:Int)+1) ((m:Int)+1) B:=by rw[hB];rfl
       have hD:dvS h i ((k:Int)+1) ((m:Int)+1) B=if q.2=false∨(B.getD ((i:Int)+((m:Int)+1)).toNat dv0).fine=false then B else if(B.getD i dv0).fine=false∨q.1+(B.getD ((i:Int)+((m:Int)+1)).toNat dv0).cost<(B.getD i dv0).cost∨(q.1+(B.getD ((i:Int)+((m:Int)+1)).toNat dv0).cost=(B.getD i dv0).cost∧1+(B.getD ((i:Int)+((m:Int)+1)).toNat dv0).pcs<(B.getD i dv0).pcs)then B.set (i:Int).toNat ⟨q.1+(B.getD ((i:Int)+((m:Int)+1)).toNat dv0).cost,1+(B.getD ((i:Int)+((m:Int)+1)).toNat dv0).pcs,(k:Int)+1,(m:Int)+1,q.1,true⟩else B:=by
        rw[hq,im,ii];rfl
       have hBe:=hB.symm;clear hB hq;rw[hBe];conv=>whnf
       repeat' (first|(refine CallX.exact (c214') rfl rfl ?_;rotate_right;conv=>whnf)|(refine CallX.exact (s183 _ _) rfl rfl ?_;rotate_right;conv=>whnf)|((first|refine CallX.pure (s182 [_,_] (by simp)) ⟨SV.le_lit (by rfl) (by rfl),trivial⟩ rfl ?_|(refine br_intro ?_ ?_<;>intro hb<;>try simp only[brs]at hb)|refine rAx hT 17 oJQuD163_17 ?_|omega|refine sAx ?_|decide|assumption)<;>conv=>whnf))
       all_goals try(exfalso;omega)
       all_goals
        refine⟨m+1,by omega,by omega,Entails.mk' [(1,1),(4,4)] rfl rfl ⟨lr,lr,lr,lr,lr,SV.le_int (by omega),trivial⟩ ⟨rr,?_,trivial⟩⟩;rw[hS,hD];simp only[cmp2i_lt,Int.toNat_natCast]at*
        first
         |(rw[if_pos (Or.inl hb)];exact rr)
         |(rw[if_pos (Or.inr hb)];exact rr)
         |(rw[if_neg (by simp_all),if_pos (by first|exact Or.inl hb|exact Or.inr hb)];exact Res.le_putF (fun y _=>rfl))
         |(rw[if_neg (by simp_all),if_neg (fun c=>c.elim (fun c=>by simp_all) (fun z=>absurd ((cmp2i_lt _ _ _ _).2 z) (Int.not_lt.2 hb)))];exact rr)
     · have hmL:m=dvL h i:=by omega
       subst hmL;conv=>whnf
       repeat' (first|((first|(refine br_intro ?_ ?_<;>intro hb<;>try simp only[brs]at hb)|refine rAx hT 17 oJQuD163_17 ?_|omega|refine sAx ?_|decide|assumption)<;>conv=>whnf))
       all_goals try(exfalso;omega)
       exact⟨k+1,by omega,by omega,Entails.mk' [(1,1),(4,4)] rfl rfl ⟨lr,lr,lr,lr,SV.le_int (by omega),trivial⟩ ⟨rr,rr,trivial⟩⟩
   · have hk4:k=4:=by omega
     subst hk4;conv=>whnf
     repeat' (first|((first|(refine br_intro ?_ ?_<;>intro hb<;>try simp only[brs]at hb)|refine rAx hT 17 oJQuD163_17 ?_|omega|refine sAx ?_|decide|assumption)<;>conv=>whnf))
     all_goals try(exfalso;omega)
     refine⟨j+1,by omega,by omega,Entails.mk' [(1,1),(4,4)] rfl rfl ⟨lr,lr,lr,SV.le_int (by omega),trivial⟩ ⟨rr,?_,trivial⟩⟩;rw[hi];exact rr
 · have hjn:j=h.se.length:=by omega
   subst hjn;conv=>whnf
   repeat' (first|((first|(refine br_intro ?_ ?_<;>intro hb<;>try simp only[brs]at hb)|refine rAx hT 17 oJQuD163_17 ?_|omega|refine sAx ?_|decide|assumption)<;>conv=>whnf))
   all_goals try(exfalso;omega)
   refine .freeze _ 4 264 6 _ _ rfl (.weak _ ?_);conv=>whnf
   exact⟨_,[],lr,⟨rfl,rfl⟩,trivial⟩
def oJQuE161_1:OL:= [(0,[]),(2,[0]),(6,[0,2]),(1,[2,6]),(3,[6]),(4,[6]),(5,[6]),(7,[]),(8,[]),(9,[]),(10,[])]
theorem keyLn {s:List UInt8}(h:isKeyB s=true):s.length≤40:=by
 unfold isKeyB at h;simp only[Bool.and_eq_true,decide_eq_true_eq]at h;exact h.2
def pcF (d:Dvd):List DV:= [.int .i64 d.kind,.int .i64 d.days,.int .i64 d.cents]
abbrev pcs (l:List Dvd):DV:=seqD 3 pcF dv0 l
theorem q161 (l:List Rat)(hl:ratOk l)(hE:ratsE l=0)(c:List UInt8)(hc:isKeyB c=true)(hcl:c.length≤2^40)(a b:Int)(hTm:timE a b=0):
 FSpec Tryz.prog 161 [.d (rats l),.d (.str c),.agg [.d (.int .i64 a),.d (.int .i64 b)]] [] (fun y r=>y= .d (.int .i64 0)∧r= []):=by
 have h1:=y149 l hl;have h2:=z263 a b;have h3:=s105 [0,0,0] (by simp);have hk:=s108 c hcl;rw[hE]at h1;rw[hTm]at h2;rw[hc]at hk;refine spec_of hT (C:= []) Tryz.func161 rfl Tryz.call161 rfl rfl rfl ?_;conv=>whnf
 repeat' (first|(refine CallX.exact (h1) rfl rfl ?_;rotate_right;conv=>whnf)|(refine CallX.exact (h2) rfl rfl ?_;rotate_right;conv=>whnf)|(refine CallX.exact (hk) rfl rfl ?_;rotate_right;conv=>whnf)|(refine CallX.exact (s107 _ _) rfl rfl ?_;rotate_right;conv=>whnf)|((first|refine CallX.pure h3 ⟨SV.le_lit (by rfl) (by rfl),trivial⟩ rfl ?_|(refine br_intro ?_ ?_<;>intro hb<;>try simp only[brs]at hb)|refine rAx hT 1 oJQuE161_1 ?_|omega|refine sAx ?_|decide|assumption)<;>conv=>whnf))
 refine .ret _ ?_;conv=>whnf
 refine⟨[],⟨?_,rfl⟩,trivial⟩;conv=>lhs;whnf
 rfl
theorem ratsE_parts {l:List Rat}(h:ratsE l=0):l.length≤200∧∀x ∈ l,(0≤x.frm∧x.frm<x.to∧x.to≤4001)∧nums x:=by
 unfold ratsE at h;split at h
 · cases h
 · refine⟨by omega,fun x hx=> ?_⟩;obtain⟨j,hj,rfl⟩:=mem_getD (d:=rat0) hx;have:=firstAt_all h j hj;unfold ratE at this
   dsimp only at this
   split at this
   · cases this
   · split at this
     · cases this
     · rename_i c;have c:=Classical.not_not.1 c;exact⟨⟨c.1,c.2.1,c.2.2.1⟩,c.2.2.2⟩
theorem rent_ok {l:List Rat}(h:ratsE l=0)(c:List UInt8){a b:Int}(hTm:timE a b=0):rtdOk (rentV l c a b):=by
 obtain⟨r1,r2⟩:=ratsE_parts h;have hd:(0≤a∧a<b∧b≤5761439)∧b - a≤172800:=by unfold timE at hTm;split at hTm<;>omega
 have hn:daysW a b=(b - a+1440 - 1)/1440:=by unfold daysW;rw[Int.tdiv_eq_ediv_of_nonneg (by omega)]
 have hsl:(rentV l c a b).se.length=(daysW a b).toNat:=by simp[rentV,rentN]
 refine⟨by rw[hsl];omega,hd.1,by rw[hsl];show a+_<b;omega,fun x hx=>(r2 x hx).2,fun s hs=> ?_⟩;simp only[rentV,rentN,List.mem_map]at hs;obtain⟨i,_,rfl⟩:=hs;have:=ixF_bd (p:=fun j=>(l.getD j rat0).cls==c&&(decide ((l.getD j rat0).frm≤(begW a i).tdiv 1440)&&decide ((begW a i).tdiv 1440≤(l.getD j rat0).to - 1))) (n:=l.length);exact⟨this.1,this.2.1⟩
set_option maxHeartbeats 4000000 in
theorem q99 (l:List Rat)(hl:ratOk l)(hE:ratsE l=0)(c:List UInt8)(hc:isKeyB c=true)(hcl:c.length≤2^40)(a b:Int)(hTm:timE a b=0):
 FSpec Tryz.prog 99 [.d (rats l),.d (.str c),.agg [.d (.int .i64 a),.d (.int .i64 b)]] []
  (fun y r=>y=(if((dvV (rentV l c a b)).getD 0 dv0).fine=true then .tup [.d (pcs (pcsV (dvV (rentV l c a b)) (daysW a b).toNat 0)),.d (.int .i64 0)]else .tup [.d .nilsl,.d (.int .i64 8)])∧r= []):=by
 obtain⟨r1,r2⟩:=ratsE_parts hE;have ok:=rent_ok hE c hTm;have hd:(0≤a∧a<b∧b≤5761439)∧b - a≤172800:=by unfold timE at hTm;split at hTm<;>omega
 have hn:daysW a b≤120:=by have:=daysW_lt (a:=a) (b:=b) (by omega);omega
 have c161:=q161 l hl hE c hc hcl a b hTm;have c162:=q162 l (by omega) (fun x hx=>by have:=(r2 x hx).1;omega) c a b hd.1 hn;have c163:=q163 (rentV l c a b) ok (by show l.length≤_;omega);have hI:=dvD_I ok (rentV l c a b).se.length (Nat.le_refl _);have hV:dvV (rentV l c a b)=dvD (rentV l c a b) (rentV l c a b).se.length:=rfl;rw[←hV]at hI;have hnl:(rentV l c a b).se.length=(daysW a b).toNat:=by simp[rentV,rentN]
 have c163':FSpec Tryz.prog 163 [.agg [.d (rats l),.d (.int .i64 a),.d (.int .i64 b),.d (ints (rentN l c a (daysW a b).toNat))]] [] (fun y r=>y= .d (dvs (dvV (rentV l c a b)))∧r= []):=c163;generalize rentV l c a b=R at*;generalize dvV R=B at*;have hBl:=hI.len;have hn1:=ok.n;rw[←hnl]
 by_cases q:(B.getD 0 dv0).fine=true
 · rw [if_pos q];refine spec_of hT (C:= []) Tryz.func99 rfl Tryz.call99 rfl rfl rfl ?_;conv=>whnf
   repeat' (first|(refine CallX.exact (c161) rfl rfl ?_;rotate_right;conv=>whnf)|(refine CallX.exact (c162) rfl rfl ?_;rotate_right;conv=>whnf)|(refine CallX.exact (c163') rfl rfl ?_;rotate_right;conv=>whnf)|((first|(refine br_intro ?_ ?_<;>intro hb<;>try simp only[brs]at hb)|omega|refine sAx ?_|decide|assumption)<;>conv=>whnf))
   all_goals try(exfalso;first|omega|exact absurd q (by simpa using hb))
   refine LoopX.rule hT (C:= []) (ι:=Nat×List Dvd) (fun(i,L)=>(i≤R.se.length∧(B.getD i dv0).fine=true)∧L.length≤i∧∃f,R.se.length - i≤f∧pcsV B R.se.length 0=L++pcsV B f i)
    (fun(i,L)=>mkSt [(9,.d (dvs B)),(10,.buf 10),(11,.d (.int .i64 i))] [(10,seqB 195 3 pcF dv0 L)]) (fun(i,_)=>R.se.length - i) (0,[]) ⟨⟨Nat.zero_le _,q⟩,Nat.le_refl _,R.se.length,by omega,rfl⟩ ?_ ?_
   · exact(Entails.nil 10 10 195 3 (rowF pcF dv0 []) rfl rfl (by decide)).trans (Entails.mk' [(10,10)] rfl rfl ⟨lr,lr,lr,trivial⟩ ⟨rr,trivial⟩)
   rintro⟨i,L⟩ ⟨⟨p1,p2⟩,p3,f,p4,p5⟩;have p1:i≤R.se.length:=p1;have p3:L.length≤i:=p3;have e1:(i:Int).toNat=i:=Int.toNat_natCast i;rcases Nat.lt_or_ge i R.se.length with hi|hi
   · obtain⟨s1,s2,s3,s4⟩:=hI.stp i hi p2;rw[←e1]at s2 s3;conv=>whnf
     repeat' (first|((first|(refine br_intro ?_ ?_<;>intro hb<;>try simp only[brs]at hb)|omega|refine sAx ?_|decide|assumption)<;>conv=>whnf))
     all_goals try(exfalso;omega)
     rw[e1]at s2 s3;obtain⟨f',rfl⟩:∃f',f=f'+1:=⟨f - 1,by omega⟩;rw[pcsV,if_pos (by omega)]at p5
     exact⟨(i+(B.getD i dv0).days.toNat,L++ [B.getD (i:Int).toNat dv0]),⟨⟨by show i+_≤_;omega,s4⟩,by show(L++ [_]).length≤i+_;rw[List.length_append];simp only[List.length_cons,List.length_nil];omega,f',by show R.se.length - (i+_)≤f';omega,by rw[p5,e1];simp⟩,by show R.se.length - (i+_)<R.se.length - i;omega,
      Entails.mk' [(10,49)] rfl rfl ⟨lr,lr,SV.le_int (by rw[e1];omega),trivial⟩ ⟨Res.le_snocF rfl,trivial⟩⟩
   · have hin:i=R.se.length:=by omega
     have hz:∀f,pcsV B f i= []:=fun f=>by
      cases f with
      |zero=>rfl
      |succ f=>rw[pcsV,if_neg (by omega)]
     rw[hz,List.append_nil]at p5;rw[p5];conv=>whnf
     repeat' (first|((first|(refine br_intro ?_ ?_<;>intro hb<;>try simp only[brs]at hb)|omega|refine sAx ?_|decide|assumption)<;>conv=>whnf))
     all_goals try(exfalso;omega)
     refine .freeze _ 10 195 3 _ _ rfl (.weak _ ?_);conv=>whnf
     exact⟨_,[],SV.le_tup (m:= [.d (pcs L),.d (.int .i64 0)]) ⟨lr,lr,trivial⟩,⟨rfl,rfl⟩,trivial⟩
 · rw[if_neg q];refine spec_of hT (C:= []) Tryz.func99 rfl Tryz.call99 rfl rfl rfl ?_;conv=>whnf
   repeat' (first|(refine CallX.exact (c161) rfl rfl ?_;rotate_right;conv=>whnf)|(refine CallX.exact (c162) rfl rfl ?_;rotate_right;conv=>whnf)|(refine CallX.exact (c163') rfl rfl ?_;rotate_right;conv=>whnf)|((first|(refine br_intro ?_ ?_<;>intro hb<;>try simp only[brs]at hb)|omega|refine sAx ?_|decide|assumption)<;>conv=>whnf))
   all_goals try(exfalso;first|omega|exact absurd (by simpa using hb) q)
   refine .ret _ ?_;conv=>whnf
   refine⟨[],⟨congrArg SV.tup ?_,rfl⟩,trivial⟩;repeat' (refine cons_eq ?_ ?_)
   all_goals (conv=>lhs;whnf)
   all_goals try(with_reducible rfl)
theorem q167 (n:Int)(hn:0≤n∧n≤2^60):FSpec Tryz.prog 167 [.d (.int .i64 n)] [] (fun y r=>y= .d (.int .i64 (nearV n))∧r= []):=by
 have hq:inI64 ((n+500).tdiv 1000):=by unfold inI64;rw[Int.tdiv_eq_ediv_of_nonneg (by omega)];omega
 have hm0:0≤(n+500).tmod 1000:=Int.tmod_nonneg _ (by omega);have hm:inI64 ((n+500).tmod 1000):=by unfold inI64;rw[Int.tmod_eq_emod_of_nonneg (by omega)];omega
 refine spec_of hT (C:= []) Tryz.func167 rfl Tryz.call167 rfl rfl rfl ?_;conv=>whnf
 repeat' (first|((first|refine And.intro hq ?_|refine And.intro hm ?_|(refine br_intro ?_ ?_<;>intro hb<;>try simp only[brs]at hb)|omega|refine sAx ?_|decide|assumption)<;>conv=>whnf))
 all_goals try(exfalso;omega)
 refine .ret _ ?_;conv=>whnf
 refine⟨[],⟨?_,rfl⟩,trivial⟩;conv=>lhs;whnf
 unfold nearV;rw[if_neg (by omega)]
set_option maxHeartbeats 4000000 in
theorem q103 (l:List Fe)(hl:feOk l)(hE:fesE l=0)(A B:List UInt8)(hA:isKeyB A=true)(hB:isKeyB B=true):
 FSpec Tryz.prog 103 [.d (fes l),.d (.str A),.d (.str B)] [] (fun y r=>y=(if A=B then .tup [.d (.int .i64 0),.d (.int .i64 0)]else if feeI l A B<0 then .tup [.d (.int .i64 0),.d (.int .i64 8)]else .tup [.d (.int .i64 (l.getD (feeI l A B).toNat fe0).cents),.d (.int .i64 0)])∧r= []):=by
 have h1:=y151 l hl;rw[hE]at h1;have hkA:=s108 A (Nat.le_trans (keyLn hA) (by decide));have hkB:=s108 B (Nat.le_trans (keyLn hB) (by decide));rw[hA]at hkA;rw[hB]at hkB;have h3:=s105 [0,0] (by simp);have hll:l.length≤2^40:=hl.1;refine spec_of hT (C:= []) Tryz.func103 rfl Tryz.call103 rfl rfl rfl ?_;conv=>whnf
 repeat' (first|(refine CallX.exact (h1) rfl rfl ?_;rotate_right;conv=>whnf)|(refine CallX.exact (hkA) rfl rfl ?_;rotate_right;conv=>whnf)|(refine CallX.exact (hkB) rfl rfl ?_;rotate_right;conv=>whnf)|(refine CallX.exact (s107 _ _) rfl rfl ?_;rotate_right;conv=>whnf)|((first|refine CallX.pure h3 ⟨SV.le_lit (by rfl) (by rfl),trivial⟩ rfl ?_|(refine br_intro ?_ ?_<;>intro hb<;>try simp only[brs]at hb)|omega|refine sAx ?_|decide|assumption)<;>conv=>whnf))
 all_goals try(exfalso;omega)
 · rw[if_pos hb];refine .ret _ ?_;conv=>whnf
   refine⟨[],⟨congrArg SV.tup ?_,rfl⟩,trivial⟩;repeat' (refine cons_eq ?_ ?_)
   all_goals (conv=>lhs;whnf)
   all_goals try(with_reducible rfl)
 have hne:¬A=B:=by assumption
 rw[if_neg hne];refine LoopX.rule hT (C:= []) (ι:=Nat) (fun i=>i≤l.length∧∀j,j<i→((l.getD j fe0).a==A&&(l.getD j fe0).b==B)=false) (fun i=>mkSt [(1,.d (.str A)),(2,.d (.str B)),(30,.d (fes l)),(31,.d (.int .i64 l.length)),(32,.d (.int .i64 i))] []) (fun i=>l.length - i) 0 ⟨by omega,by omega⟩ (by exact eAx []) ?_;rintro i ⟨p1,p2⟩;have e1:(i:Int).toNat=i:=Int.toNat_natCast i;conv=>whnf
 repeat' (first|((first|(refine br_intro ?_ ?_<;>intro hb<;>try simp only[brs]at hb)|omega|refine sAx ?_|decide|assumption)<;>conv=>whnf))
 · have hh:((l.getD i fe0).a==A&&(l.getD i fe0).b==B)=true:=by simp only[e1]at*;simp;exact⟨by assumption,hb⟩
   have hx:feeI l A B=i:=ixF_hit (by omega) p2 hh;rw[hx,if_neg (by omega)];refine .ret _ ?_;conv=>whnf
   refine⟨[],⟨congrArg SV.tup ?_,rfl⟩,trivial⟩;repeat' (refine cons_eq ?_ ?_)
   all_goals (conv=>lhs;whnf)
   all_goals try(with_reducible rfl)
 · exact⟨i+1,⟨by omega,all_step p2 (by simp only[e1]at*;simp;intro z;exact hb)⟩,by omega,(by exact eAx [])⟩
 · exact⟨i+1,⟨by omega,all_step p2 (by simp only[e1]at*;simp;intro z;exact absurd z hb)⟩,by omega,(by exact eAx [])⟩
 · have:i=l.length:=by omega
   subst this;have hx:feeI l A B= -1:=ixF_none p2;rw[hx,if_pos (by omega)];refine .ret _ ?_;conv=>whnf
   refine⟨[],⟨congrArg SV.tup ?_,rfl⟩,trivial⟩;repeat' (refine cons_eq ?_ ?_)
   all_goals (conv=>lhs;whnf)
   all_goals try(with_reducible rfl)
def oJQuG100_4:OL:= [(0,[]),(1,[0]),(3,[0,1]),(7,[0,1,3]),(9,[0,1,3,7]),(2,[3,7,9]),(4,[7,9]),(5,[7,9]),(6,[7,9]),(8,[9]),(10,[]),(11,[]),(12,[]),(13,[]),(14,[]),(15,[])]
def oJQuG100_11:OL:= [(0,[]),(1,[0]),(2,[0,1]),(6,[0,1,2]),(3,[0,6]),(4,[6]),(5,[6]),(7,[])]
def oJQuG100_12:OL:= [(0,[]),(1,[]),(2,[]),(3,[]),(4,[]),(5,[]),(6,[4,5]),(7,[]),(8,[]),(9,[]),(10,[]),(11,[]),(12,[]),(13,[10,11,12]),(14,[10,11,12]),(15,[10,11,12,13,14]),(16,[10,11,12,13,14]),(17,[10,11,12,13,14]),(18,[]),(19,[]),(20,[]),(21,[]),(23,[21]),(24,[21]),(22,[23,24]),(25,[]),(26,[]),(27,[])]
def oJQuG104_14:OL:= [(0,[]),(1,[0]),(2,[0]),(3,[0,1,2]),(4,rg 4),(5,rg 4),(6,[0,1,2]),(7,[0,1,2]),(8,[0]),(9,[0]),(10,[]),(11,[])]
abbrev linB (l:List Lin):Res:=seqB 74 3 liF li0 l
theorem q96n:FSpec Tryz.prog 96 [.d .nilsl,.any] [] (fun y r=>y= .d (.int .i64 0)∧r= []):=by
 refine spec_of hT (C:= []) Tryz.func96 rfl Tryz.call96 rfl rfl rfl ?_;conv=>whnf
 repeat' (first|((first|(refine br_intro ?_ ?_<;>intro hb<;>try simp only[brs]at hb)|omega|refine sAx ?_|decide|assumption)<;>conv=>whnf))
 refine LoopX.rule hT (C:= []) (ι:=Unit) (fun _=>True) (fun _=>mkSt [(0,.d .nilsl),(1,.any),(10,.d .nilsl),(11,.d (.int .i64 0)),(12,.d (.int .i64 0))] []) (fun _=>0) () trivial (by exact eAx []) ?_;rintro⟨⟩ -;conv=>whnf
 repeat' (first|((first|(refine br_intro ?_ ?_<;>intro hb<;>try simp only[brs]at hb)|omega|refine sAx ?_|decide|assumption)<;>conv=>whnf))
 refine .ret _ ?_;conv=>whnf
 refine⟨[],⟨?_,rfl⟩,trivial⟩;conv=>lhs;whnf
theorem q40n (t:Tar):FSpec Tryz.prog 40 [.agg (tarL t),.d .nilsl] [] (fun y r=>y= .d (.int .i64 0)∧r= []):=by
 refine spec_of hT (C:= []) Tryz.func40 rfl Tryz.call40 rfl rfl rfl ?_;conv=>whnf
 repeat' (first|((first|refine CallX.pure q96n ⟨lr,SV.le_any _,trivial⟩ rfl ?_|(refine br_intro ?_ ?_<;>intro hb<;>try simp only[brs]at hb)|omega|refine sAx ?_|decide|assumption)<;>conv=>whnf))
 refine .ret _ ?_;conv=>whnf
 refine⟨[],⟨?_,rfl⟩,trivial⟩;conv=>lhs;whnf
theorem q100n (l:List Cod)(hl:codOk l)(hE:codsE l=0)(c:List UInt8)(hc:isKeyB c=true)(a b:Int)(hTm:timE a b=0)(s:Int)(hs:0≤s):
 FSpec Tryz.prog 100 [.d (cods l),.d .nilsl,.d (.str c),.agg [.d (.int .i64 a),.d (.int .i64 b)],.d (.int .i64 s)] [] (fun y r=>y= .tup [.d (.str []),.d (.int .i64 0),.d (.int .i64 (if 1000000000<s then 1 else 0))]∧r= []):=by
 have h1:=y152 l hl;rw[hE]at h1;have hk:=s108 c (Nat.le_trans (keyLn hc) (by decide));rw[hc]at hk;have h2:=z263 a b;rw[hTm]at h2;have h3:=s105 [0,0,0,if 1000000000<s then 1 else 0] (by simp);have e3:firstE [0,0,0,if 1000000000<s then 1 else 0]=if 1000000000<s then 1 else 0:=by split<;>rfl
 rw[e3]at h3
 have hW:(if(!decide (0≤s∧s≤1000000000))=true then(1:Int)else 0)=if 1000000000<s then 1 else 0:=by
  by_cases q:1000000000<s
  · rw[if_pos q,decide_eq_false (by omega)];rfl
  · rw[if_neg q,decide_eq_true (by omega)];rfl
 have h4:=s107 (!decide (0≤s∧s≤1000000000)) 1;rw[hW]at h4;refine spec_of hT (C:= []) Tryz.func100 rfl Tryz.call100 rfl rfl rfl ?_;conv=>whnf
 repeat' (first|(refine CallX.exact (h1) rfl rfl ?_;rotate_right;conv=>whnf)|(refine CallX.pure q96n ⟨lr,SV.le_any _,trivial⟩ rfl ?_;conv=>whnf)|(refine CallX.exact (hk) rfl rfl ?_;rotate_right;conv=>whnf)|(refine CallX.exact (h2) rfl rfl ?_;rotate_right;conv=>whnf)|(refine CallX.exact (s119 _ _ _) rfl rfl ?_;rotate_right;conv=>whnf)|(refine CallX.exact (h4) rfl rfl ?_;rotate_right;conv=>whnf)|(refine CallX.exact (s107 _ _) rfl rfl ?_;rotate_right;conv=>whnf)|((first|refine CallX.pure h3 ⟨SV.le_lit (by rfl) (by rfl),trivial⟩ rfl ?_|(refine br_intro ?_ ?_<;>intro hb<;>try simp only[brs]at hb)|refine rAx hT 4 oJQuG100_4 ?_|refine rAx hT 11 oJQuG100_11 ?_|refine rAx hT 12 oJQuG100_12 ?_|omega|refine sAx ?_|decide|assumption)<;>conv=>whnf))
 · have e:(if 1000000000<s then(1:Int)else 0)=1:=by
    by_cases q:1000000000<s
    · rw[if_pos q]
    · rw[if_neg q]at hb;exact absurd rfl hb
   rw[e];refine .ret _ ?_;conv=>whnf
   refine⟨[],⟨congrArg SV.tup ?_,rfl⟩,trivial⟩;repeat' (refine cons_eq ?_ ?_)
   all_goals (conv=>lhs;whnf)
   all_goals try(with_reducible rfl)
 have e:(if 1000000000<s then(1:Int)else 0)=0:=by
  by_cases q:1000000000<s
  · rw[if_pos q]at hb;cases hb
  · rw[if_neg q]
 rw[e];refine LoopX.rule hT (C:= []) (ι:=Unit) (fun _=>True) (fun _=>mkSt [(15,.d (.str [])),(16,.d (.int .i64 0)),(45,.d .nilsl),(46,.d (.int .i64 0)),(47,.d (.int .i64 0))] []) (fun _=>0) () trivial (by exact eAx []) ?_;rintro⟨⟩ -;conv=>whnf
 repeat' (first|((first|(refine br_intro ?_ ?_<;>intro hb<;>try simp only[brs]at hb)|refine rAx hT 4 oJQuG100_4 ?_|refine rAx hT 11 oJQuG100_11 ?_|refine rAx hT 12 oJQuG100_12 ?_|omega|refine sAx ?_|decide|assumption)<;>conv=>whnf))
 refine .ret _ ?_;conv=>whnf
 refine⟨[],⟨congrArg SV.tup ?_,rfl⟩,trivial⟩;repeat' (refine cons_eq ?_ ?_)
 all_goals (conv=>lhs;whnf)
 all_goals try(with_reducible rfl)
theorem q101b (M:Int)(hM:0≤M∧M≤2^40)(l:List Lin)(hn:l.length≤1000)(hl:∀c ∈ l,-M≤c.cents∧c.cents≤M):FSpec Tryz.prog 101 [.buf 1000001] [(1000001,linB l)] (fun x r=>x= .d (.int .i64 (linS l))∧r= [(1000001,linB l)]):=by
 have h1:=FSpec.lend (args:= [.buf 1000001]) 1000001 74 3 l.length (rowF liF li0 l) (q101 M hM l hn hl) rfl (fun c r q=>nomatch q) rfl
  (fun x r h=>by obtain⟨rfl,rfl⟩:=h;exact⟨rfl,fun c q e=>(nomatch e),rfl⟩)
 exact h1.mono (fun x r h=>by obtain⟨r0,⟨q,rfl⟩,rfl⟩:=h;exact⟨q,rfl⟩)
theorem onS_succ (t:Tax){L:List Lin}{i:Nat}(h:i<L.length):onS t (L.take (i+1))=onS t (L.take i)+(if(L.getD i li0).kind ∈ t.on then(L.getD i li0).cents else 0):=by
 rw[take_snocD (d:=li0) h];simp[onS]
structure taxP (l:List Tax)(L:List Lin):Prop where
 tl:l.length≤10
 per:∀x ∈ l,(0≤x.per∧x.per≤1000)∧x.on.length≤2^40
 ln:L.length≤1000
 ct:∀x ∈ L,0≤x.cents
 sm:linS L+1≤1002000000
theorem pow10 {k:Nat}(h:k≤10):(1:Int)≤2 ^ k∧(2:Int) ^ k≤1024:=by
 have:k=0∨k=1∨k=2∨k=3∨k=4∨k=5∨k=6∨k=7∨k=8∨k=9∨k=10:=by omega
 rcases this with rfl|rfl|rfl|rfl|rfl|rfl|rfl|rfl|rfl|rfl|rfl<;>decide
theorem taxP.bd {l:List Tax}{L:List Lin}(h:taxP l L){k:Nat}(hk:k≤l.length):(∀x ∈ taxN l L k,0≤x.cents)∧0≤linS (taxN l L k)∧linS (taxN l L k)≤1026048000000:=by
 obtain⟨a,b,c⟩:=taxN_bd (b:=1002000000) h.sm h.ct (fun x hx=>(h.per x hx).1) k hk;have:=pow10 (Nat.le_trans hk h.tl);exact⟨a,b,by omega⟩
theorem linS_nn {L:List Lin}(h:∀x ∈ L,0≤x.cents):∀x ∈ L,x.cents≤linS L:=by
 induction L with
 |nil=>intro x hx;cases hx
 | cons y L ih=>
   intro x hx;have h0:=h y List.mem_cons_self;have ih:=ih fun z hz=>h z (List.mem_cons_of_mem _ hz)
   have hs:0≤linS L:=(onS_bd ⟨[],0,[],false⟩ (fun z hz=>h z (List.mem_cons_of_mem _ hz))).1|>fun q=>Int.le_trans q (onS_bd ⟨[],0,[],false⟩ (fun z hz=>h z (List.mem_cons_of_mem _ hz))).2
   simp only[linS,List.map_cons,List.sum_cons]at hs ih ⊢;rcases List.mem_cons.1 hx with q|q
   · subst q;omega
   · have:=ih x q;omega
set_option maxHeartbeats 4000000 in
theorem q104b (l:List Tax)(L:List Lin)(h:taxP l L):FSpec Tryz.prog 104 [.d (taxs l),.buf 1000001] [(1000001,linB L)] (fun y r=>y= .d (lins (taxN l L l.length))∧r= [(1000001,linB L)]):=by
 have htl:=h.tl;have hln:=h.ln;refine spec_of hT (C:= []) Tryz.func104 rfl Tryz.call104 rfl rfl rfl ?_;conv=>whnf
 repeat' (first|((first|(refine br_intro ?_ ?_<;>intro hb<;>try simp only[brs]at hb)|refine rAx hT 14 oJQuG104_14 ?_|omega|refine sAx ?_|decide|assumption)<;>conv=>whnf))
 refine LoopX.rule hT (C:= []) (ι:=Nat) (fun k=>k≤l.length) (fun k=>mkSt [(1,.buf 1000001),(5,.buf 5),(11,.d (taxs l)),(12,.d (.int .i64 l.length)),(13,.d (.int .i64 k))] [(5,linB (taxN l L k)),(1000001,linB L)]) (fun k=>l.length - k) 0 (Nat.zero_le _) ?_ ?_
 · exact(Entails.nil 5 5 74 3 (rowF liF li0 []) rfl rfl (by decide)).trans (Entails.mk' [(5,5),(1000001,1000001)] rfl rfl ⟨lr,lr,lr,lr,lr,trivial⟩ ⟨rr,rr,trivial⟩)
 intro k pk;have e1:(k:Int).toNat=k:=Int.toNat_natCast k;obtain⟨n1,n2,n3⟩:=h.bd pk;rcases Nat.lt_or_ge k l.length with hk|hk
 · have hp:=h.per _ (getD_mem (x:=tax0) (show(k:Int).toNat<l.length by omega));obtain⟨X,hX⟩:∃X,X=taxN l L k:=⟨_,rfl⟩;have hXl:X.length=k:=by rw[hX];exact taxN_len l L k
   rw[←hX]at n1 n2 n3
   have hXb:∀c ∈ X,-1026048000000≤c.cents∧c.cents≤1026048000000:=fun c hc=>by
    have:=linS_nn n1 c hc;have:=n1 c hc;omega
   have ho:=onS_bd (l.getD (k:Int).toNat tax0) h.ct;have hsm:=h.sm;rw[←hX];conv=>whnf
   repeat' (first|((first|(refine br_intro ?_ ?_<;>intro hb<;>try simp only[brs]at hb)|refine rAx hT 14 oJQuG104_14 ?_|omega|refine sAx ?_|decide|assumption)<;>conv=>whnf))
   refine LoopX.rule hT (C:= []) (ι:=Nat) (fun i=>i≤L.length) (fun i=>mkSt [(1,.buf 1000001),(5,.buf 5),(7,.ptr 7 0),(8,.d (.int .i64 (onS (l.getD (k:Int).toNat tax0) (L.take i)))),(11,.d (taxs l)),(12,.d (.int .i64 l.length)),(13,.d (.int .i64 k)),(17,.buf 1000001),(18,.d (.int .i64 L.length)),(19,.d (.int .i64 i))] [(5,linB X),(7,.cells 252 ((taxF (l.getD (k:Int).toNat tax0)).map .d)),(1000001,linB L)]) (fun i=>L.length - i) 0 (Nat.zero_le _) ?_ ?_
   · exact Entails.mk' [(5,5),(7,7),(1000001,1000001)] rfl rfl ⟨lr,lr,lr,lr,lr,lr,lr,lr,lr,lr,trivial⟩ ⟨rr,rr,rr,trivial⟩
   intro i pi;have e2:(i:Int).toNat=i:=Int.toNat_natCast i;have hoi:=onS_bd (l.getD (k:Int).toNat tax0) (L:=L.take i) fun x hx=>h.ct x (List.mem_of_mem_take hx)
   have hti:linS (L.take i)≤linS L:=by
    have:=linS_app (L.take i) (L.drop i);rw[List.take_append_drop]at this;have h2:=onS_bd (l.getD (k:Int).toNat tax0) (L:=L.drop i) fun x hx=>h.ct x (List.mem_of_mem_drop hx)
    omega
   rcases Nat.lt_or_ge i L.length with hi|hi
   · have hci:=h.ct _ (getD_mem (x:=li0) (show(i:Int).toNat<L.length by omega));have hcl:=linS_nn h.ct _ (getD_mem (x:=li0) (show(i:Int).toNat<L.length by omega));have hsu:=onS_succ (l.getD k tax0) hi;conv=>whnf
     repeat' (first|(refine CallX.exact (q166 (l.getD (k:Int).toNat tax0).on hp.2 (L.getD (i:Int).toNat li0).kind) rfl rfl ?_;rotate_right;conv=>whnf)|((first|(refine br_intro ?_ ?_<;>intro hb<;>try simp only[brs]at hb)|refine rAx hT 14 oJQuG104_14 ?_|omega|refine sAx ?_|decide|assumption)<;>conv=>whnf))
     all_goals try(exfalso;omega)
     all_goals
      refine⟨i+1,by omega,by omega,Entails.mk' [(5,5),(7,7),(1000001,1000001)] rfl rfl ⟨lr,lr,lr,SV.le_int ?_,lr,lr,lr,lr,lr,SV.le_int (by omega),trivial⟩ ⟨rr,rr,rr,trivial⟩⟩;simp only[e1,e2];rw[hsu]
      first
       |rw[if_pos hb]
       |rw[if_neg hb,Int.add_zero]
   · have hiL:i=L.length:=by omega
     subst hiL;rw[List.take_length];have c101:=q101b 1026048000000 (by omega) X (by omega) hXb;have ho2:onS (l.getD (k:Int).toNat tax0) L≤1002000000:=by omega
     have hm0:∀z:Int,0≤z→z≤1027050000000→0≤z*(l.getD (k:Int).toNat tax0).per∧z*(l.getD (k:Int).toNat tax0).per≤1027050000000*1000:=fun z h1 h2=>⟨Int.mul_nonneg h1 hp.1.1,Int.mul_le_mul h2 hp.1.2 hp.1.1 (by omega)⟩
     have hma:=hm0 (onS (l.getD (k:Int).toNat tax0) L) ho.1 (by omega);have hmb:=hm0 (onS (l.getD (k:Int).toNat tax0) L+linS X) (by omega) (by omega);have hN:taxN l L (k+1)=X++ [⟨5,(l.getD k tax0).key,nearV ((onS (l.getD k tax0) L+if(l.getD k tax0).over=true then linS X else 0)*(l.getD k tax0).per)⟩]:=by rw[hX];rfl
     conv=>whnf
     repeat' (first|(refine oAx c101 [(1000001,5)] ?_;rintro y rout ⟨rfl,rfl⟩;refine⟨rfl,?_⟩;conv=>whnf)|(refine CallX.exact (q167 ((onS (l.getD (k:Int).toNat tax0) L+linS X)*(l.getD (k:Int).toNat tax0).per) ⟨by omega,by omega⟩) rfl rfl ?_;rotate_right;conv=>whnf)|(refine CallX.exact (q167 (onS (l.getD (k:Int).toNat tax0) L*(l.getD (k:Int).toNat tax0).per) ⟨by omega,by omega⟩) rfl rfl ?_;rotate_right;conv=>whnf)|((first|(refine br_intro ?_ ?_<;>intro hb<;>try simp only[brs]at hb)|refine rAx hT 14 oJQuG104_14 ?_|omega|refine sAx ?_|decide|assumption)<;>conv=>whnf))
     all_goals try(exfalso;omega)
     all_goals
      refine⟨k+1,by omega,by omega,Entails.mk' [(5,49),(1000001,1000001)] rfl rfl ⟨lr,lr,lr,lr,SV.le_int (by omega),trivial⟩ ⟨?_,rr,trivial⟩⟩;rw[hN]
      first
       |rw[if_pos hb]
       |rw[if_neg (by rw[hb];simp),Int.add_zero]
      exact Res.le_snocF rfl
 · have hkl:k=l.length:=by omega
   subst hkl;conv=>whnf
   repeat' (first|((first|(refine br_intro ?_ ?_<;>intro hb<;>try simp only[brs]at hb)|refine rAx hT 14 oJQuG104_14 ?_|omega|refine sAx ?_|decide|assumption)<;>conv=>whnf))
   all_goals try(exfalso;omega)
   refine .freeze _ 5 74 3 _ _ rfl (.weak _ ?_);conv=>whnf
   exact⟨_,[(1000001,linB L)],lr,⟨rfl,rfl⟩,rr,trivial⟩
structure askP (t:Tar)(c:List UInt8)(a b:Int)(A B:List UInt8):Prop where
 tok:tarOk t
 tE:tarE t=0
 ck:isKeyB c=true
 tm:timE a b=0
 Ak:isKeyB A=true
 Bk:isKeyB B=true
abbrev askA (c:List UInt8)(a b:Int)(A B:List UInt8):SV:=.agg [.d (.str c),.d (.int .i64 a),.d (.int .i64 b),.d (.str A),.d (.str B),.d .nilsl,.d .nilsl]
theorem firstE_in:∀ {l:List Int},firstE l=0→∀x ∈ l,x=0
 | [],_,x,hx=>by cases hx
 | y ::l,h,x,hx=>by
   simp only[firstE]at h
   by_cases q:y=0
   · rw[if_pos q]at h;rcases List.mem_cons.1 hx with e|e
     · rw[e];exact q
     · exact firstE_in h x e
   · rw[if_neg q]at h;exact absurd h q
theorem tarE_parts {t:Tar}(h:tarE t=0):ratsE t.rat=0∧extsE t.ext=0∧fesE t.fe=0∧codsE t.cod=0∧taxsE t.tax=0:=
 ⟨firstE_in h _ (by simp),firstE_in h _ (by simp),firstE_in h _ (by simp),firstE_in h _ (by simp),firstE_in h _ (by simp)⟩
end Go.Proofs.YtkokpbpililcdaaGreatDoor
