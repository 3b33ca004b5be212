/- TopHousesTell is proved: for every input the law returns true, and its argument reads afterwards as it read before. Conditions: those of the given row alone. -/
import Derived.Test.YtkokpbpililcdaaGreatDoorThConTri
import Derived.Test.YtkokpbpililcdaaGreatDoorThConOne
import Derived.Test.YtkokpbpililcdaaGreatDoorThEngTwo
import Derived.Test.YtkokpbpililcdaaGreatDoorThEngMap
import Derived.Test.YtkokpbpililcdaaGreatDoorThConTwo
set_option linter.unusedVariables false
set_option linter.unusedSimpArgs false
set_option maxRecDepth 20000
namespace Go.Proofs.YtkokpbpililcdaaGreatDoor
open Go Go.Eng
structure lH where
 key:List UInt8
 per:Int
 on:List Int
 over:Bool
def xw (x:lH):List DV:= [.str x.key,.int .i64 x.per,gr x.on,.bool x.over]
def cg:lH:=⟨[],0,[],false⟩
abbrev ij (l:List lH):DV:=dC 4 xw cg l
def iH (x:lH):aY:=.cells 252 ((xw x).map .d)
def w6 (l:List Int)(k:Nat):Int:=if l.getD k 0=5∨¬ (1≤l.getD k 0∧l.getD k 0≤6)then 4 else if 0<k∧l.getD k 0≤l.getD (k - 1) 0 then 7 else 0
def GP (l:List Int):Int:=bf (w6 l) l.length
def Kl (l:List lH)(x:lH):Bool:=decide (0≤jP (fun i=>(l.getD i cg).key==x.key) l.length)
def mi (l:List lH)(i:Nat):Int:=
 let x:=l.getD i cg
 if aE x.key=false then 5 else if Kl (l.take i) x=true then 6 else if ¬ (0≤x.per∧x.per≤1000)then 1 else GP x.on
def f8 (l:List lH):Int:=if 10<l.length then 2 else bf (mi l) l.length
def Ma (x:lH):Prop:=x.key.length≤2^40∧x.on.length≤2^40
def Ct (l:List lH):Prop:=l.length≤2^40∧∀x ∈ l,Ma x
theorem Pu (y x:lH):ai Tryz.prog 158 [.agg ((xw y).map .d),.ptr 1000001 0] [(1000001,iH x)] (fun v r=>v= .d (.bool (y.key==x.key))∧r= [(1000001,iH x)]):=by
 refine ae hT (C:= []) Tryz.func158 rfl Tryz.call158 rfl rfl rfl ?_;conv=>whnf
 refine .ret _ ?_;conv=>whnf
 exact⟨[(1000001,iH x)],⟨rfl,rfl⟩,rr,trivial⟩
theorem Nb (l:List lH)(hl:l.length≤2^40)(x:lH):ai Tryz.prog 211 [.d (ij l),.fn 158 [.ptr 1000001 0]] [(1000001,iH x)] (fun v r=>v= .d (.int .i64 (jP (fun i=>(l.getD i cg).key==x.key) l.length))∧r= [(1000001,iH x)]):=by
 refine ae hT (C:= []) Tryz.func211 rfl Tryz.call211 rfl rfl rfl ?_;conv=>whnf
 refine ah hT (C:= []) (ι:=Nat) (fun i=>i≤l.length∧∀j,j<i→((l.getD j cg).key==x.key)=false) (fun i=>aI [(0,.d (ij l)),(1,.fn 158 [.ptr 1000001 0]),(7,.d (.int .i64 l.length)),(8,.d (.int .i64 i))] [(1000001,iH x)]) (fun i=>l.length - i) 0 ⟨by omega,by omega⟩ (by exact be [(1000001,1000001)]) ?_;rintro i ⟨p1,p2⟩;have e1:(i:Int).toNat=i:=Int.toNat_natCast i;conv=>whnf
 repeat' (first|((first|(refine cd (Pu (l.getD (i:Int).toNat cg) x) [(1000001,1000001)] ?_;rintro v rout ⟨rfl,rfl⟩;refine⟨rfl,?_⟩)|(refine aa ?_ ?_<;>intro hb<;>try simp only[az]at hb)|omega|refine aA ?_|decide|assumption)<;>conv=>whnf))
 · refine .ret _ ?_;conv=>whnf
   refine⟨[(1000001,iH x)],⟨?_,rfl⟩,rr,trivial⟩;conv=>lhs;whnf
   congr 2
   exact(gd (by omega) p2 (by simpa using hb)).symm
 · exact⟨i+1,⟨by omega,bw p2 (by simpa using hb)⟩,by omega,(by exact be [(1000001,1000001)])⟩
 · refine .ret _ ?_;conv=>whnf
   refine⟨[(1000001,iH x)],⟨?_,rfl⟩,rr,trivial⟩;conv=>lhs;whnf
   congr 2
   have:i=l.length:=by omega
   subst this;exact(ew p2).symm
theorem LF (l:List lH)(hl:l.length≤2^40)(x:lH):ai Tryz.prog 157 [.d (ij l),.fn 158 [.ptr 1000001 0]] [(1000001,iH x)] (fun v r=>v= .d (.bool (Kl l x))∧r= [(1000001,iH x)]):=by
 refine ae hT (C:= []) Tryz.func157 rfl Tryz.call157 rfl rfl rfl ?_;conv=>whnf
 repeat' (first|((first|(refine cd (Nb l hl x) [(1000001,1000001)] ?_;rintro v rout ⟨rfl,rfl⟩;refine⟨rfl,?_⟩)|(refine aa ?_ ?_<;>intro hb<;>try simp only[az]at hb)|omega|refine aA ?_|decide|assumption)<;>conv=>whnf))
 refine .ret _ ?_;conv=>whnf
 exact⟨[(1000001,iH x)],⟨rfl,rfl⟩,rr,trivial⟩
theorem QB (y x:lH):ai Tryz.prog 186 [.agg ((xw y).map .d),.ptr 1000001 0] [(1000001,iH x)] (fun v r=>v= .d (.bool (y.key==x.key))∧r= [(1000001,iH x)]):=by
 refine ae hT (C:= []) Tryz.func186 rfl Tryz.call186 rfl rfl rfl ?_;conv=>whnf
 refine .ret _ ?_;conv=>whnf
 exact⟨[(1000001,iH x)],⟨rfl,rfl⟩,rr,trivial⟩
theorem Nx (l:List lH)(hl:l.length≤2^40)(x:lH):ai Tryz.prog 211 [.d (ij l),.fn 186 [.ptr 1000001 0]] [(1000001,iH x)] (fun v r=>v= .d (.int .i64 (jP (fun i=>(l.getD i cg).key==x.key) l.length))∧r= [(1000001,iH x)]):=by
 refine ae hT (C:= []) Tryz.func211 rfl Tryz.call211 rfl rfl rfl ?_;conv=>whnf
 refine ah hT (C:= []) (ι:=Nat) (fun i=>i≤l.length∧∀j,j<i→((l.getD j cg).key==x.key)=false) (fun i=>aI [(0,.d (ij l)),(1,.fn 186 [.ptr 1000001 0]),(7,.d (.int .i64 l.length)),(8,.d (.int .i64 i))] [(1000001,iH x)]) (fun i=>l.length - i) 0 ⟨by omega,by omega⟩ (by exact be [(1000001,1000001)]) ?_;rintro i ⟨p1,p2⟩;have e1:(i:Int).toNat=i:=Int.toNat_natCast i;conv=>whnf
 repeat' (first|((first|(refine cd (QB (l.getD (i:Int).toNat cg) x) [(1000001,1000001)] ?_;rintro v rout ⟨rfl,rfl⟩;refine⟨rfl,?_⟩)|(refine aa ?_ ?_<;>intro hb<;>try simp only[az]at hb)|omega|refine aA ?_|decide|assumption)<;>conv=>whnf))
 · refine .ret _ ?_;conv=>whnf
   refine⟨[(1000001,iH x)],⟨?_,rfl⟩,rr,trivial⟩;conv=>lhs;whnf
   congr 2
   exact(gd (by omega) p2 (by simpa using hb)).symm
 · exact⟨i+1,⟨by omega,bw p2 (by simpa using hb)⟩,by omega,(by exact be [(1000001,1000001)])⟩
 · refine .ret _ ?_;conv=>whnf
   refine⟨[(1000001,iH x)],⟨?_,rfl⟩,rr,trivial⟩;conv=>lhs;whnf
   congr 2
   have:i=l.length:=by omega
   subst this;exact(ew p2).symm
theorem Kr (l:List lH)(hl:l.length≤2^40)(x:lH):ai Tryz.prog 157 [.d (ij l),.fn 186 [.ptr 1000001 0]] [(1000001,iH x)] (fun v r=>v= .d (.bool (Kl l x))∧r= [(1000001,iH x)]):=by
 refine ae hT (C:= []) Tryz.func157 rfl Tryz.call157 rfl rfl rfl ?_;conv=>whnf
 repeat' (first|((first|(refine cd (Nx l hl x) [(1000001,1000001)] ?_;rintro v rout ⟨rfl,rfl⟩;refine⟨rfl,?_⟩)|(refine aa ?_ ?_<;>intro hb<;>try simp only[az]at hb)|omega|refine aA ?_|decide|assumption)<;>conv=>whnf))
 refine .ret _ ?_;conv=>whnf
 exact⟨[(1000001,iH x)],⟨rfl,rfl⟩,rr,trivial⟩
theorem zg {l:List lH}{i:Nat}(h:i≤l.length):SV.le (.d (.ro 4 i fun j=>aW xw cg l (0+j))) (.d (ij (l.take i))):=
 bZ (by rw[List.length_take];omega) (fun j hj=>by
  simp only[Nat.zero_add,aW]
  rw[List.getD_eq_getElem?_getD,List.getD_eq_getElem?_getD,List.getElem?_take_of_lt hj])
theorem ia {l:List lH}{i:Nat}{e:Int}(h0:¬ 10<l.length)(h:i<l.length)(p:∀j,j<i→mi l j=0)(h1:e≠0)(h2:mi l i=e):f8 l=e:=by
 unfold f8;rw[if_neg h0];exact aX h p h1 h2
set_option maxHeartbeats 2000000 in
theorem Oy (l:List lH)(hk:Ct l):ai Tryz.prog 95 [.d (ij l)] [] (fun x r=>x= .d (.int .i64 (f8 l))∧r= []):=by
 refine ae hT (C:= []) Tryz.func95 rfl Tryz.call95 rfl rfl rfl ?_;conv=>whnf
 refine aa (fun h0=> ?_) (fun h0=> ?_)
 · simp at h0;conv=>whnf
   refine .ret _ ?_;conv=>whnf
   refine⟨[],⟨?_,rfl⟩,trivial⟩;conv=>lhs;whnf
   unfold f8;rw[if_pos (by omega)]
 simp at h0;conv=>whnf
 refine ah hT (C:= []) (ι:=Nat) (fun i=>i≤l.length∧∀j,j<i→mi l j=0) (fun i=>aI [(0,.d (ij l)),(10,.d (ij l)),(11,.d (.int .i64 l.length)),(12,.d (.int .i64 i))] []) (fun i=>l.length - i) 0 ⟨by omega,by omega⟩ (by exact be []) ?_;rintro i ⟨p1,p2⟩;have e1:(i:Int).toNat=i:=Int.toNat_natCast i;have hK:(i:Int)<l.length→Ma (l.getD (i:Int).toNat cg):=fun hi=>hk.2 _ (ao (by omega))
 have hD:=LF (l.take (i:Int).toNat) (by rw[List.length_take];have:=hk.1;omega) (l.getD (i:Int).toNat cg);conv=>whnf
 repeat' (first|(refine ac (iR _ (hK (by omega)).1) rfl rfl ?_;rotate_right;conv=>whnf)|(refine ac (ix _ _ _) rfl rfl ?_;rotate_right;conv=>whnf)|((first|(refine dQ.of hD [(1000001,4)] rfl ⟨zg (by omega),lr,trivial⟩ ⟨rr,trivial⟩ rfl rfl ?_;rintro v rout ⟨rfl,rfl⟩;refine⟨rfl,?_⟩)|(refine aa ?_ ?_<;>intro hb<;>try simp only[az]at hb)|omega|refine aA ?_|decide|assumption)<;>conv=>whnf))
 · refine .ret _ ?_;conv=>whnf
   refine⟨[],⟨?_,rfl⟩,trivial⟩;conv=>lhs;whnf
   congr 2
   exact(ia (by omega) (by omega) p2 (by decide) (by clear p2 hD hk hK;simp only[e1]at*;unfold mi;grind)).symm
 · refine .ret _ ?_;conv=>whnf
   refine⟨[],⟨?_,rfl⟩,trivial⟩;conv=>lhs;whnf
   congr 2
   exact(ia (by omega) (by omega) p2 (by decide) (by clear p2 hD hk hK;simp only[e1]at*;unfold mi;grind)).symm
 · refine .ret _ ?_;conv=>whnf
   refine⟨[],⟨?_,rfl⟩,trivial⟩;conv=>lhs;whnf
   congr 2
   exact(ia (by omega) (by omega) p2 (by decide) (by clear p2 hD hk hK;simp only[e1]at*;unfold mi;grind)).symm
 · have hi:i<l.length:=by omega
   have hT1:mi l i=GP (l.getD (i:Int).toNat cg).on:=by clear p2 hD hk hK;simp only[e1]at*;unfold mi;grind
   obtain⟨X,hX⟩:∃X,X=l.getD (i:Int).toNat cg:=⟨_,rfl⟩;have hXl:X.on.length≤2^40:=by rw[hX];exact(hK (by omega)).2
   rw[←hX]at hT1;refine ah hT (C:= []) (ι:=Nat) (fun k=>k≤X.on.length∧∀j,j<k→w6 X.on j=0) (fun k=>aI [(0,.d (ij l)),(4,.ptr 4 0),(10,.d (ij l)),(11,.d (.int .i64 l.length)),(12,.d (.int .i64 i)),(34,.d (gr X.on)),(35,.d (.int .i64 X.on.length)),(36,.d (.int .i64 k))] [(4,iH X)]) (fun k=>X.on.length - k) 0 ⟨by omega,by omega⟩ (by subst hX;exact(by exact be [(4,4)])) ?_;rintro k ⟨q1,q2⟩;have e2:(k:Int).toNat=k:=Int.toNat_natCast k;have hbad:∀e:Int,k<X.on.length→e≠0→w6 X.on k=e→f8 l=e:=fun e h h1 h2=>ia (by omega) hi p2 h1 (by rw[hT1];exact aX h q2 h1 h2)
   clear hD hK hk;conv=>whnf
   repeat' (first|(refine ac (ix _ _ _) rfl rfl ?_;rotate_right;conv=>whnf)|((first|(refine aa ?_ ?_<;>intro hb<;>try simp only[az]at hb)|omega|refine aA ?_|decide|assumption)<;>conv=>whnf))
   all_goals first
    |(refine⟨k+1,⟨by omega,aU q2 (by clear p2 q2 hbad hT1 hX;simp only[e2,aP]at*;unfold w6;grind)⟩,by omega,(by exact be [(4,4)])⟩)
    | (refine .ret _ ?_
       conv=>whnf
       refine⟨[],⟨?_,rfl⟩,trivial⟩;conv=>lhs;whnf
       congr 2
       exact(hbad _ (by omega) (by decide) (by clear p2 q2 hbad hT1 hX;simp only[e2,aP]at*;unfold w6;grind)).symm)
    | (refine⟨i+1,⟨by omega,aU p2 ?_⟩,by omega,(by exact be [])⟩
       rw[hT1];have:k=X.on.length:=by omega
       subst this
       exact aF q2)
 · refine .ret _ ?_;conv=>whnf
   refine⟨[],⟨?_,rfl⟩,trivial⟩;conv=>lhs;whnf
   congr 2
   have:i=l.length:=by omega
   subst this;unfold f8;rw[if_neg (by omega),aF p2]
set_option maxHeartbeats 2000000 in
theorem Ov (l:List lH)(hk:Ct l):ai Tryz.prog 143 [.d (ij l)] [] (fun x r=>x= .d (.int .i64 (f8 l))∧r= []):=by
 refine ae hT (C:= []) Tryz.func143 rfl Tryz.call143 rfl rfl rfl ?_;conv=>whnf
 refine aa (fun h0=> ?_) (fun h0=> ?_)
 · simp at h0;conv=>whnf
   refine .ret _ ?_;conv=>whnf
   refine⟨[],⟨?_,rfl⟩,trivial⟩;conv=>lhs;whnf
   unfold f8;rw[if_pos (by omega)]
 simp at h0;conv=>whnf
 refine ah hT (C:= []) (ι:=Nat) (fun i=>i≤l.length∧∀j,j<i→mi l j=0) (fun i=>aI [(0,.d (ij l)),(10,.d (ij l)),(11,.d (.int .i64 l.length)),(12,.d (.int .i64 i))] []) (fun i=>l.length - i) 0 ⟨by omega,by omega⟩ (by exact be []) ?_;rintro i ⟨p1,p2⟩;have e1:(i:Int).toNat=i:=Int.toNat_natCast i;have hK:(i:Int)<l.length→Ma (l.getD (i:Int).toNat cg):=fun hi=>hk.2 _ (ao (by omega))
 have hD:=Kr (l.take (i:Int).toNat) (by rw[List.length_take];have:=hk.1;omega) (l.getD (i:Int).toNat cg);conv=>whnf
 repeat' (first|(refine ac (J4 _ (hK (by omega)).1) rfl rfl ?_;rotate_right;conv=>whnf)|(refine ac (zb _ _ _) rfl rfl ?_;rotate_right;conv=>whnf)|((first|(refine dQ.of hD [(1000001,4)] rfl ⟨zg (by omega),lr,trivial⟩ ⟨rr,trivial⟩ rfl rfl ?_;rintro v rout ⟨rfl,rfl⟩;refine⟨rfl,?_⟩)|(refine aa ?_ ?_<;>intro hb<;>try simp only[az]at hb)|omega|refine aA ?_|decide|assumption)<;>conv=>whnf))
 · refine .ret _ ?_;conv=>whnf
   refine⟨[],⟨?_,rfl⟩,trivial⟩;conv=>lhs;whnf
   congr 2
   exact(ia (by omega) (by omega) p2 (by decide) (by clear p2 hD hk hK;simp only[e1]at*;unfold mi;grind)).symm
 · refine .ret _ ?_;conv=>whnf
   refine⟨[],⟨?_,rfl⟩,trivial⟩;conv=>lhs;whnf
   congr 2
   exact(ia (by omega) (by omega) p2 (by decide) (by clear p2 hD hk hK;simp only[e1]at*;unfold mi;grind)).symm
 · refine .ret _ ?_;conv=>whnf
   refine⟨[],⟨?_,rfl⟩,trivial⟩;conv=>lhs;whnf
   congr 2
   exact(ia (by omega) (by omega) p2 (by decide) (by clear p2 hD hk hK;simp only[e1]at*;unfold mi;grind)).symm
 · have hi:i<l.length:=by omega
   have hT1:mi l i=GP (l.getD (i:Int).toNat cg).on:=by clear p2 hD hk hK;simp only[e1]at*;unfold mi;grind
   obtain⟨X,hX⟩:∃X,X=l.getD (i:Int).toNat cg:=⟨_,rfl⟩;have hXl:X.on.length≤2^40:=by rw[hX];exact(hK (by omega)).2
   rw[←hX]at hT1;refine ah hT (C:= []) (ι:=Nat) (fun k=>k≤X.on.length∧∀j,j<k→w6 X.on j=0) (fun k=>aI [(0,.d (ij l)),(4,.ptr 4 0),(10,.d (ij l)),(11,.d (.int .i64 l.length)),(12,.d (.int .i64 i)),(34,.d (gr X.on)),(35,.d (.int .i64 X.on.length)),(36,.d (.int .i64 k))] [(4,iH X)]) (fun k=>X.on.length - k) 0 ⟨by omega,by omega⟩ (by subst hX;exact(by exact be [(4,4)])) ?_;rintro k ⟨q1,q2⟩;have e2:(k:Int).toNat=k:=Int.toNat_natCast k;have hbad:∀e:Int,k<X.on.length→e≠0→w6 X.on k=e→f8 l=e:=fun e h h1 h2=>ia (by omega) hi p2 h1 (by rw[hT1];exact aX h q2 h1 h2)
   clear hD hK hk;conv=>whnf
   repeat' (first|(refine ac (zb _ _ _) rfl rfl ?_;rotate_right;conv=>whnf)|((first|(refine aa ?_ ?_<;>intro hb<;>try simp only[az]at hb)|omega|refine aA ?_|decide|assumption)<;>conv=>whnf))
   all_goals first
    |(refine⟨k+1,⟨by omega,aU q2 (by clear p2 q2 hbad hT1 hX;simp only[e2,aP]at*;unfold w6;grind)⟩,by omega,(by exact be [(4,4)])⟩)
    | (refine .ret _ ?_
       conv=>whnf
       refine⟨[],⟨?_,rfl⟩,trivial⟩;conv=>lhs;whnf
       congr 2
       exact(hbad _ (by omega) (by decide) (by clear p2 q2 hbad hT1 hX;simp only[e2,aP]at*;unfold w6;grind)).symm)
    | (refine⟨i+1,⟨by omega,aU p2 ?_⟩,by omega,(by exact be [])⟩
       rw[hT1];have:k=X.on.length:=by omega
       subst this
       exact aF q2)
 · refine .ret _ ?_;conv=>whnf
   refine⟨[],⟨?_,rfl⟩,trivial⟩;conv=>lhs;whnf
   congr 2
   have:i=l.length:=by omega
   subst this;unfold f8;rw[if_neg (by omega),aF p2]
def DZ:OL:= [(0,[]),(1,[]),(3,[0,1]),(4,[0,1]),(6,[0,1,3,4]),(7,[0,1,3,4]),(9,[0,1,3,4,6,7]),(10,[0,1,3,4,6,7]),(12,[0,1,3,4,6,7,9,10]),(13,[0,1,3,4,6,7,9,10]),(2,[3,4,6,7,9,10,12,13]),(5,[6,7,9,10,12,13]),(8,[9,10,12,13]),(11,[12,13]),(14,[]),(15,[]),(16,[]),(17,[])]
def wi:OL:= [(0,[]),(1,[]),(3,[0,1]),(4,[0,1]),(6,[0,1,3,4]),(7,[0,1,3,4]),(9,[0,1,3,4,6,7]),(10,[0,1,3,4,6,7]),(12,[0,1,3,4,6,7,9,10]),(13,[0,1,3,4,6,7,9,10]),(17,[0,1,3,4,6,7,9,10,12,13]),(2,[3,4,6,7,9,10,12,13,17]),(5,[6,7,9,10,12,13,17]),(8,[9,10,12,13,17]),(11,[12,13,17]),(14,[17]),(15,[17]),(16,[17])]
def D2:OL:= [(0,[]),(1,[]),(3,[0,1]),(4,[0,1]),(6,[0,1,3,4]),(7,[0,1,3,4]),(2,[3,4,6,7]),(5,[6,7]),(8,[]),(9,[]),(10,[]),(11,[])]
structure rG where
 rat:List fg
 ext:List Bu
 fe:List Fe
 cod:List vk
 tax:List lH
def uJ (t:rG):List SV:= [.d (fG t.rat),.d (uD t.ext),.d (EU t.fe),.d (uM t.cod),.d (ij t.tax)]
def zu (t:rG):Prop:=sX t.rat∧Gg t.ext∧JC t.fe∧Cy t.cod∧Ct t.tax
def rv (t:rG):Int:=al [cR t.rat,jR t.ext,nu t.fe,jF t.cod,f8 t.tax]
structure uk where
 free:Int
 km:Int
 eig:Int
 grc:Int
 hr:Int
 dy:Int
 dep:Int
def wY (d:uk):List DV:= [.int .i64 d.free,.int .i64 d.km,.int .i64 d.eig,.int .i64 d.grc,.int .i64 d.hr,.int .i64 d.dy,.int .i64 d.dep]
def rN (d:uk):Int:=if(0≤d.free∧d.free≤10000)∧(0≤d.km∧d.km≤100000)∧(0≤d.eig∧d.eig≤100000)∧(0≤d.grc∧d.grc≤1440)∧(0≤d.hr∧d.hr≤1000000)∧(0≤d.dy∧d.dy≤1000000)∧(0≤d.dep∧d.dep≤1000000)then 0 else 1
theorem sk:∀ {R:List Int} {i:Nat},i<R.length→(∀j,j<i→R.getD j 0=0)→R.getD i 0≠0→al R=R.getD i 0
 | [],i,h,_,_=>by simp at h
 |x::R,0,_,_,h=>by simp only[List.getD_cons_zero]at h ⊢;rw[al,if_neg h]
 | x::R,i+1,h,p,q=>by
   have h0:x=0:=p 0 (by omega);simp only[List.getD_cons_succ]at q ⊢;rw[al,if_pos h0];exact sk (by simpa using h) (fun j hj=>by have:=p (j+1) (by omega);simpa using this) q
theorem rh:∀ {R:List Int},(∀j,j<R.length→R.getD j 0=0)→al R=0
 | [],_=>rfl
 | x::R,p=>by
   have h0:x=0:=p 0 (by simp);rw[al,if_pos h0];exact rh (fun j hj=>by have:=p (j+1) (by simpa using hj);simpa using this)
theorem Q0 (t:rG)(hk:zu t):ai Tryz.prog 39 [.agg (uJ t)] [] (fun x r=>x= .d (.int .i64 (rv t))∧r= []):=by
 refine ae hT (C:= []) Tryz.func39 rfl Tryz.call39 rfl rfl rfl ?_;conv=>whnf
 repeat' (first|(refine ac (H9 _ hk.1) rfl rfl ?_;rotate_right;conv=>whnf)|(refine ac (PK _ hk.2.1) rfl rfl ?_;rotate_right;conv=>whnf)|(refine ac (Nv _ hk.2.2.1) rfl rfl ?_;rotate_right;conv=>whnf)|(refine ac (MW _ hk.2.2.2.1) rfl rfl ?_;rotate_right;conv=>whnf)|(refine ac (Oy _ hk.2.2.2.2) rfl rfl ?_;rotate_right;conv=>whnf)|((first|refine aw (gp [_,_,_,_,_] (by simp)) ⟨aj (by rfl) (by rfl),trivial⟩ rfl ?_|(refine aa ?_ ?_<;>intro hb<;>try simp only[az]at hb)|refine aq hT 1 DZ ?_|omega|refine aA ?_|decide|assumption)<;>conv=>whnf))
 refine .ret _ ?_;conv=>whnf
 refine⟨[],⟨?_,rfl⟩,trivial⟩;conv=>lhs;whnf
 rfl
theorem Q8 (t:rG)(hk:zu t):ai Tryz.prog 75 [.agg (uJ t)] [] (fun x r=>x= .d (.int .i64 (rv t))∧r= []):=by
 have h1:=P6 _ hk.1;have h2:=PU _ hk.2.1;have h3:=OV _ hk.2.2.1;have h4:=PS _ hk.2.2.2.1;have h5:=Ov _ hk.2.2.2.2;unfold rv;generalize cR t.rat=r1 at h1 ⊢;generalize jR t.ext=r2 at h2 ⊢;generalize nu t.fe=r3 at h3 ⊢;generalize jF t.cod=r4 at h4 ⊢;generalize f8 t.tax=r5 at h5 ⊢;refine ae hT (C:= []) Tryz.func75 rfl Tryz.call75 rfl rfl rfl ?_;conv=>whnf
 repeat' (first|(refine ac (h1) rfl rfl ?_;rotate_right;conv=>whnf)|(refine ac (h2) rfl rfl ?_;rotate_right;conv=>whnf)|(refine ac (h3) rfl rfl ?_;rotate_right;conv=>whnf)|(refine ac (h4) rfl rfl ?_;rotate_right;conv=>whnf)|(refine ac (h5) rfl rfl ?_;rotate_right;conv=>whnf)|((first|(refine aa ?_ ?_<;>intro hb<;>try simp only[az]at hb)|refine aq hT 1 wi ?_|omega|refine aA ?_|decide|assumption)<;>conv=>whnf))
 obtain⟨R,hR⟩:∃R:List Int,R= [r1,r2,r3,r4,r5]:=⟨_,rfl⟩;have hRl:R.length=5:=by rw[hR];rfl
 rw[←hR];refine ah hT (C:= []) (ι:=Nat) (fun i=>i≤5∧∀j,j<i→R.getD j 0=0) (fun i=>aI [(20,.d (gr R)),(21,.d (.int .i64 5)),(22,.d (.int .i64 i))] []) (fun i=>5 - i) 0 ⟨by omega,by omega⟩ (by subst hR;exact(by(refine af [] rfl rfl ?_ ?_<;>repeat' (first|exact True.intro|exact lr|exact rr|(exact aj rfl rfl)|exact ap (by omega)|exact a7 _|refine And.intro ?_ ?_));done)) ?_;rintro i ⟨p1,p2⟩;have e1:(i:Int).toNat=i:=Int.toNat_natCast i;conv=>whnf
 repeat' (first|((first|(refine aa ?_ ?_<;>intro hb<;>try simp only[az]at hb)|refine aq hT 1 wi ?_|omega|refine aA ?_|decide|assumption)<;>conv=>whnf))
 · refine .ret _ ?_;conv=>whnf
   refine⟨[],⟨?_,rfl⟩,trivial⟩;conv=>lhs;whnf
   congr 2
   exact(sk (by omega) p2 hb).symm
 · exact⟨i+1,⟨by omega,bw p2 hb⟩,by omega,(by exact be [])⟩
 · refine .ret _ ?_;conv=>whnf
   refine⟨[],⟨?_,rfl⟩,trivial⟩;conv=>lhs;whnf
   congr 2
   exact(rh (fun j hj=>p2 j (by omega))).symm
theorem QM (d:uk):ai Tryz.prog 45 [.agg ((wY d).map .d)] [] (fun x r=>x= .d (.int .i64 (rN d))∧r= []):=by
 refine ae hT (C:= []) Tryz.func45 rfl Tryz.call45 rfl rfl rfl ?_;conv=>whnf
 repeat' (first|(refine ac (ix _ _ _) rfl rfl ?_;rotate_right;conv=>whnf)|(refine ac (fC _ _) rfl rfl ?_;rotate_right;conv=>whnf)|((first|(refine aa ?_ ?_<;>intro hb<;>try simp only[az]at hb)|omega|refine aA ?_|decide|assumption)<;>conv=>whnf))
 all_goals
  refine .ret _ ?_;conv=>whnf
  refine⟨[],⟨?_,rfl⟩,trivial⟩;conv=>lhs;whnf
  congr 2
  unfold rN;grind
theorem Q5 (d:uk):ai Tryz.prog 78 [.agg ((wY d).map .d)] [] (fun x r=>x= .d (.int .i64 (rN d))∧r= []):=by
 refine ae hT (C:= []) Tryz.func78 rfl Tryz.call78 rfl rfl rfl ?_;conv=>whnf
 repeat' (first|(refine ac (zb _ _ _) rfl rfl ?_;rotate_right;conv=>whnf)|((first|(refine aa ?_ ?_<;>intro hb<;>try simp only[az]at hb)|omega|refine aA ?_|decide|assumption)<;>conv=>whnf))
 all_goals
  refine .ret _ ?_;conv=>whnf
  refine⟨[],⟨?_,rfl⟩,trivial⟩;conv=>lhs;whnf
  congr 2
  unfold rN;grind
structure eH where
 flt:lR
 tar:rG
 dea:uk
def Na (f:lR):List SV:= [.d (jN f.sta),.d (gP f.cls),.d (lY f.veh),.d (wG f.plt)]
def hou (h:eH):SV:=.agg (Na h.flt++uJ h.tar++(wY h.dea).map .d)
def EX (h:eH):Prop:=vn h.flt∧zu h.tar
def tI (h:eH):Int:=al [lN h.flt,rv h.tar,rN h.dea]
theorem QJ (h:eH)(hk:EX h):ai Tryz.prog 88 [hou h] [] (fun x r=>x= .d (.int .i64 (tI h))∧r= []):=by
 refine ae hT (C:= []) Tryz.func88 rfl Tryz.call88 rfl rfl rfl ?_;conv=>whnf
 repeat' (first|(refine ac (Lc h.flt hk.1) rfl rfl ?_;rotate_right;conv=>whnf)|(refine ac (Q0 h.tar hk.2) rfl rfl ?_;rotate_right;conv=>whnf)|(refine ac (QM h.dea) rfl rfl ?_;rotate_right;conv=>whnf)|((first|refine aw (gp [_,_,_] (by simp)) ⟨aj (by rfl) (by rfl),trivial⟩ rfl ?_|(refine aa ?_ ?_<;>intro hb<;>try simp only[az]at hb)|refine aq hT 1 D2 ?_|omega|refine aA ?_|decide|assumption)<;>conv=>whnf))
 refine .ret _ ?_;conv=>whnf
 refine⟨[],⟨?_,rfl⟩,trivial⟩;conv=>lhs;whnf
 rfl
theorem LY:ai Tryz.prog 210 [.d (.int .u64 0)] [] (fun y r=>(∃m:Int,y= .d (.int .i64 m))∧r= []):=by
 refine ae hT (C:= []) Tryz.func210 rfl Tryz.call210 rfl rfl rfl ?_;conv=>whnf
 repeat' (first|((first|(refine aa ?_ ?_<;>intro hb<;>try simp only[az]at hb)|omega|refine aA ?_|decide|assumption)<;>conv=>whnf))
 refine .ret _ ?_;conv=>whnf
 exact⟨[],⟨⟨_,rfl⟩,rfl⟩,trivial⟩
theorem Mh:ai Tryz.prog 210 [.d (.int .u64 1)] [] (fun y r=>(∃m:Int,y= .d (.int .i64 m))∧r= []):=by
 refine ae hT (C:= []) Tryz.func210 rfl Tryz.call210 rfl rfl rfl ?_;conv=>whnf
 repeat' (first|((first|(refine aa ?_ ?_<;>intro hb<;>try simp only[az]at hb)|omega|refine aA ?_|decide|assumption)<;>conv=>whnf))
 refine .ret _ ?_;conv=>whnf
 exact⟨[],⟨⟨_,rfl⟩,rfl⟩,trivial⟩
theorem L4:ai Tryz.prog 210 [.d (.int .u64 2)] [] (fun y r=>(∃m:Int,y= .d (.int .i64 m))∧r= []):=by
 refine ae hT (C:= []) Tryz.func210 rfl Tryz.call210 rfl rfl rfl ?_;conv=>whnf
 repeat' (first|((first|(refine aa ?_ ?_<;>intro hb<;>try simp only[az]at hb)|omega|refine aA ?_|decide|assumption)<;>conv=>whnf))
 refine .ret _ ?_;conv=>whnf
 exact⟨[],⟨⟨_,rfl⟩,rfl⟩,trivial⟩
theorem Ls:ai Tryz.prog 210 [.d (.int .u64 3)] [] (fun y r=>(∃m:Int,y= .d (.int .i64 m))∧r= []):=by
 refine ae hT (C:= []) Tryz.func210 rfl Tryz.call210 rfl rfl rfl ?_;conv=>whnf
 repeat' (first|((first|(refine aa ?_ ?_<;>intro hb<;>try simp only[az]at hb)|omega|refine aA ?_|decide|assumption)<;>conv=>whnf))
 refine .ret _ ?_;conv=>whnf
 exact⟨[],⟨⟨_,rfl⟩,rfl⟩,trivial⟩
theorem KU:ai Tryz.prog 210 [.d (.int .u64 4)] [] (fun y r=>(∃m:Int,y= .d (.int .i64 m))∧r= []):=by
 refine ae hT (C:= []) Tryz.func210 rfl Tryz.call210 rfl rfl rfl ?_;conv=>whnf
 repeat' (first|((first|(refine aa ?_ ?_<;>intro hb<;>try simp only[az]at hb)|omega|refine aA ?_|decide|assumption)<;>conv=>whnf))
 refine .ret _ ?_;conv=>whnf
 exact⟨[],⟨⟨_,rfl⟩,rfl⟩,trivial⟩
theorem Ku:ai Tryz.prog 210 [.d (.int .u64 5)] [] (fun y r=>(∃m:Int,y= .d (.int .i64 m))∧r= []):=by
 refine ae hT (C:= []) Tryz.func210 rfl Tryz.call210 rfl rfl rfl ?_;conv=>whnf
 repeat' (first|((first|(refine aa ?_ ?_<;>intro hb<;>try simp only[az]at hb)|omega|refine aA ?_|decide|assumption)<;>conv=>whnf))
 refine .ret _ ?_;conv=>whnf
 exact⟨[],⟨⟨_,rfl⟩,rfl⟩,trivial⟩
theorem Ln:ai Tryz.prog 210 [.d (.int .u64 6)] [] (fun y r=>(∃m:Int,y= .d (.int .i64 m))∧r= []):=by
 refine ae hT (C:= []) Tryz.func210 rfl Tryz.call210 rfl rfl rfl ?_;conv=>whnf
 repeat' (first|((first|(refine aa ?_ ?_<;>intro hb<;>try simp only[az]at hb)|omega|refine aA ?_|decide|assumption)<;>conv=>whnf))
 refine .ret _ ?_;conv=>whnf
 exact⟨[],⟨⟨_,rfl⟩,rfl⟩,trivial⟩
theorem K4:ai Tryz.prog 210 [.d (.int .u64 7)] [] (fun y r=>(∃m:Int,y= .d (.int .i64 m))∧r= []):=by
 refine ae hT (C:= []) Tryz.func210 rfl Tryz.call210 rfl rfl rfl ?_;conv=>whnf
 repeat' (first|((first|(refine aa ?_ ?_<;>intro hb<;>try simp only[az]at hb)|omega|refine aA ?_|decide|assumption)<;>conv=>whnf))
 refine .ret _ ?_;conv=>whnf
 exact⟨[],⟨⟨_,rfl⟩,rfl⟩,trivial⟩
theorem LU:ai Tryz.prog 210 [.d (.int .u64 8)] [] (fun y r=>(∃m:Int,y= .d (.int .i64 m))∧r= []):=by
 refine ae hT (C:= []) Tryz.func210 rfl Tryz.call210 rfl rfl rfl ?_;conv=>whnf
 repeat' (first|((first|(refine aa ?_ ?_<;>intro hb<;>try simp only[az]at hb)|omega|refine aA ?_|decide|assumption)<;>conv=>whnf))
 refine .ret _ ?_;conv=>whnf
 exact⟨[],⟨⟨_,rfl⟩,rfl⟩,trivial⟩
theorem K9:ai Tryz.prog 210 [.d (.int .u64 9)] [] (fun y r=>(∃m:Int,y= .d (.int .i64 m))∧r= []):=by
 refine ae hT (C:= []) Tryz.func210 rfl Tryz.call210 rfl rfl rfl ?_;conv=>whnf
 repeat' (first|((first|(refine aa ?_ ?_<;>intro hb<;>try simp only[az]at hb)|omega|refine aA ?_|decide|assumption)<;>conv=>whnf))
 refine .ret _ ?_;conv=>whnf
 exact⟨[],⟨⟨_,rfl⟩,rfl⟩,trivial⟩
theorem Ig:ai Tryz.prog 210 [.d (.int .u64 10)] [] (fun y r=>(∃m:Int,y= .d (.int .i64 m))∧r= []):=by
 refine ae hT (C:= []) Tryz.func210 rfl Tryz.call210 rfl rfl rfl ?_;conv=>whnf
 repeat' (first|((first|(refine aa ?_ ?_<;>intro hb<;>try simp only[az]at hb)|omega|refine aA ?_|decide|assumption)<;>conv=>whnf))
 refine .ret _ ?_;conv=>whnf
 exact⟨[],⟨⟨_,rfl⟩,rfl⟩,trivial⟩
theorem Jt:ai Tryz.prog 210 [.d (.int .u64 11)] [] (fun y r=>(∃m:Int,y= .d (.int .i64 m))∧r= []):=by
 refine ae hT (C:= []) Tryz.func210 rfl Tryz.call210 rfl rfl rfl ?_;conv=>whnf
 repeat' (first|((first|(refine aa ?_ ?_<;>intro hb<;>try simp only[az]at hb)|omega|refine aA ?_|decide|assumption)<;>conv=>whnf))
 refine .ret _ ?_;conv=>whnf
 exact⟨[],⟨⟨_,rfl⟩,rfl⟩,trivial⟩
theorem IV:ai Tryz.prog 210 [.d (.int .u64 12)] [] (fun y r=>(∃m:Int,y= .d (.int .i64 m))∧r= []):=by
 refine ae hT (C:= []) Tryz.func210 rfl Tryz.call210 rfl rfl rfl ?_;conv=>whnf
 repeat' (first|((first|(refine aa ?_ ?_<;>intro hb<;>try simp only[az]at hb)|omega|refine aA ?_|decide|assumption)<;>conv=>whnf))
 refine .ret _ ?_;conv=>whnf
 exact⟨[],⟨⟨_,rfl⟩,rfl⟩,trivial⟩
theorem OS (n:Nat)(hn:n≤12):ai Tryz.prog 210 [.d (.int .u64 n)] [] (fun y r=>(∃m:Int,y= .d (.int .i64 m))∧r= []):=by
 match n,hn with
 |0,_=>exact LY
 |1,_=>exact Mh
 |2,_=>exact L4
 |3,_=>exact Ls
 |4,_=>exact KU
 |5,_=>exact Ku
 |6,_=>exact Ln
 |7,_=>exact K4
 |8,_=>exact LU
 |9,_=>exact K9
 |10,_=>exact Ig
 |11,_=>exact Jt
 |12,_=>exact IV
 |n+13,h=>omega
theorem Fk (n:Nat)(hn:n≤12):IntKind.u64.wrap n=n:=by
 match n,hn with
 |0,_|1,_|2,_|3,_|4,_|5,_|6,_|7,_|8,_|9,_|10,_|11,_|12,_=>decide
 |n+13,h=>omega
theorem Fs (n:Nat)(hn:n≤12):ai Tryz.prog 156 [.d (.int .u64 (IntKind.u64.wrap n))] [] (fun y r=>(∃m:Int,y= .d (.int .i64 m))∧r= []):=by
 rw[Fk n hn];refine ae hT (C:= []) Tryz.func156 rfl Tryz.call156 rfl rfl rfl ?_;conv=>whnf
 repeat' (first|((first|(refine aa ?_ ?_<;>intro hb<;>try simp only[az]at hb)|omega|refine aA ?_|decide|assumption)<;>conv=>whnf))
 refine cd (OS n hn) [] ?_;rintro x rout ⟨⟨m,rfl⟩,rfl⟩;refine⟨rfl,?_⟩;conv=>whnf
 refine .ret _ ?_;conv=>whnf
 exact⟨[],⟨⟨_,rfl⟩,rfl⟩,trivial⟩
structure NH (f:lR):Prop where
 sta:dP PD 4 f.sta
 cls:Nn f.cls
 veh:dP yi 5 f.veh
 plt:dP Pd 6 f.plt
theorem NH.ok {f:lR}(h:NH f):vn f:=
 ⟨⟨Nat.le_trans h.sta.1 (by decide),fun s hs=>Nat.le_trans (h.sta.2 s hs) (by decide)⟩,⟨Nat.le_trans h.cls.1 (by decide),fun s hs=>⟨Nat.le_trans (h.cls.2 s hs).1 (by decide),Nat.le_trans (h.cls.2 s hs).2 (by decide)⟩⟩,
   ⟨Nat.le_trans h.veh.1 (by decide),fun s hs=>⟨Nat.le_trans (h.veh.2 s hs).1 (by decide),Nat.le_trans (h.veh.2 s hs).2 (by decide)⟩⟩,⟨Nat.le_trans h.plt.1 (by decide),fun s hs=>⟨(h.plt.2 s hs).1,Nat.le_trans (h.plt.2 s hs).2.1 (by decide),Nat.le_trans (h.plt.2 s hs).2.2 (by decide)⟩⟩⟩
def oL:OL:= [(0,[]),(1,[]),(2,[0,1]),(3,[0,1,2]),(4,[0,1]),(5,[]),(6,[])]
def rz (x:fg):Prop:=x.cls.length≤8
def c3:List (List UInt8):= [[109,97,120,105],[109,105,100,105],[109,105,110,105]]
set_option maxHeartbeats 4000000 in
theorem Qq (n:Nat)(L:Nat→Int)(hL:sJ n L)(a:Int)(h0:0≤a)(ha:a≤2^36):
 ai Tryz.prog 76 [.ptr 1000000 0] [(1000000,bp n L a)] (fun y r=>∃l:List fg,∃b,dP rz 9 l∧(a≤b∧b≤a+100)∧y= .buf 3∧r= [(3,aL 168 7 ft aV l),(1000000,bp n L b)]):=by
 refine ae hT (C:= []) Tryz.func76 rfl Tryz.call76 rfl rfl rfl ?_;conv=>whnf
 refine ah hT (C:= []) (ι:=Int×List fg×Nat) (fun(b,l,i)=>(a≤b∧b≤a+30*i∧i≤3)∧dP rz (3*i) l)
  (fun(b,l,i)=>aI [(0,.ptr 1000000 0),(3,.buf 3),(8,.d (eE c3)),(9,.d (.int .i64 3)),(10,.d (.int .i64 i))] [(1000000,bp n L b),(3,aL 168 7 ft aV l)])
  (fun(_,_,i)=>3 - i) (a,[],0) ⟨⟨by simp,by simp,by simp⟩,⟨by simp,by simp⟩⟩ ?_ ?_
 · refine(dc.nil 3 3 168 7 (aW ft aV []) rfl rfl (by decide)).trans (af [(1000000,1000000),(3,3)] rfl rfl ⟨lr,lr,aj rfl rfl,lr,lr,trivial⟩ ⟨rr,rr,trivial⟩)
 rintro⟨b,l,i⟩ ⟨⟨p1,p2,p3⟩,p4⟩;have p1:a≤b:=p1;have p2:b≤a+30*i:=p2;have p3:i≤3:=p3;have p4:dP rz (3*i) l:=p4;have hc3:c3.length=3:=rfl;have hl1:l.length≤3*i:=p4.1;rcases Nat.lt_or_ge i 3 with hi|hi
 · conv=>whnf
   repeat' (first|(refine dQ.of (kD n L hL _ ?_ ?_ [0,0,0,3] ?_ ?_) [(1000000,1000000)] rfl ⟨lr,aj rfl rfl,trivial⟩ ⟨rr,trivial⟩ rfl rfl ?_;rotate_right;rintro x rout ⟨⟨u1,hu1,rfl⟩,⟨c,c1,c2,rfl⟩⟩;have hw1:=On hu1 (by decide);refine⟨rfl,?_⟩;conv=>whnf)|(refine dQ.of (kD n L hL _ ?_ ?_ [0,1,1,2,3] ?_ ?_) [(1000000,1000000)] rfl ⟨lr,aj rfl rfl,trivial⟩ ⟨rr,trivial⟩ rfl rfl ?_;rotate_right;rintro x rout ⟨⟨u2,hu2,rfl⟩,⟨c,c1,c2,rfl⟩⟩;refine⟨rfl,?_⟩;conv=>whnf)|((first|(refine aa ?_ ?_<;>intro hb<;>try simp only[az]at hb)|refine aq hT 12 oL ?_|omega|refine aA ?_|decide|assumption)<;>conv=>whnf))
   all_goals try(exfalso;omega)
   have hw2:0≤u2∧u2≤3:=by simp only[List.mem_cons,List.not_mem_nil,or_false]at hu2;omega
   have hw3:u1≤5000:=by omega
   have hkk:(c3.getD (i:Int).toNat []).length≤8:=bO (ao (by omega)) rfl;obtain⟨cc,hcc⟩:∃cc:Int,cc=c:=⟨_,rfl⟩;obtain⟨ky,hky⟩:∃ky,ky=c3.getD (i:Int).toNat []:=⟨_,rfl⟩
   refine ah hT (C:= []) (ι:=Int×List fg×Int×Nat) (fun(d,m,f,k)=>(cc≤d∧d≤cc+6*k∧(k:Int)≤u2)∧dP rz (3*i+k) m∧0≤f∧f≤5000)
    (fun(d,m,f,k)=>aI [(0,.ptr 1000000 0),(3,.buf 3),(5,.d (.str ky)),(6,.d (.int .i64 f)),(8,.d (eE c3)),(9,.d (.int .i64 3)),(10,.d (.int .i64 i)),(19,.d (.int .i64 u2)),(20,.d (.int .i64 k))] [(1000000,bp n L d),(3,aL 168 7 ft aV m)])
    (fun(_,_,_,k)=>u2.toNat - k) (cc,l,u1,0) ⟨⟨by simp,by simp,by show((0:Nat):Int)≤u2;omega⟩,p4,by show 0≤u1;omega,by show u1≤5000;omega⟩ (by subst hcc hky;exact(by exact be [(1000000,1000000),(3,3)])) ?_
   rintro⟨d,m,f,k⟩ ⟨⟨q1,q2,q3⟩,q4,q5,q6⟩;have q1:cc≤d:=q1;have q2:d≤cc+6*k:=q2;have q3:(k:Int)≤u2:=q3;have q4:dP rz (3*i+k) m:=q4;have q5:0≤f:=q5;have q6:f≤5000:=q6;have hm1:m.length≤3*i+k:=q4.1;conv=>whnf
   repeat' (first|(refine dQ.of (kD n L hL _ ?_ ?_ [1,5,20,4000] ?_ ?_) [(1000000,1000000)] rfl ⟨lr,aj rfl rfl,trivial⟩ ⟨rr,trivial⟩ rfl rfl ?_;rotate_right;rintro x rout ⟨⟨u3,hu3,rfl⟩,⟨c,c1,c2,rfl⟩⟩;have hw4:0≤u3∧u3≤4000:=(by simp only[List.mem_cons,List.not_mem_nil,or_false]at hu3;omega);refine⟨rfl,?_⟩;conv=>whnf)|(refine dQ.of (kD n L hL _ ?_ ?_ [-1,5,10,10,0] ?_ ?_) [(1000000,1000000)] rfl ⟨lr,aj rfl rfl,trivial⟩ ⟨rr,trivial⟩ rfl rfl ?_;rotate_right;rintro x rout ⟨⟨u4,hu4,rfl⟩,⟨c,c1,c2,rfl⟩⟩;refine⟨rfl,?_⟩;conv=>whnf)|(refine dQ.of (kD n L hL _ ?_ ?_ [-1,50,50,70,40] ?_ ?_) [(1000000,1000000)] rfl ⟨lr,aj rfl rfl,trivial⟩ ⟨rr,trivial⟩ rfl rfl ?_;rotate_right;rintro x rout ⟨⟨u5,hu5,rfl⟩,⟨c,c1,c2,rfl⟩⟩;refine⟨rfl,?_⟩;conv=>whnf)|(refine dQ.of (kD n L hL _ ?_ ?_ [-1,70,90,100] ?_ ?_) [(1000000,1000000)] rfl ⟨lr,aj rfl rfl,trivial⟩ ⟨rr,trivial⟩ rfl rfl ?_;rotate_right;rintro x rout ⟨⟨u6,hu6,rfl⟩,⟨c,c1,c2,rfl⟩⟩;refine⟨rfl,?_⟩;conv=>whnf)|(refine dQ.of (kD n L hL _ ?_ ?_ [-1,200,250,300] ?_ ?_) [(1000000,1000000)] rfl ⟨lr,aj rfl rfl,trivial⟩ ⟨rr,trivial⟩ rfl rfl ?_;rotate_right;rintro x rout ⟨⟨u7,hu7,rfl⟩,⟨c,c1,c2,rfl⟩⟩;refine⟨rfl,?_⟩;conv=>whnf)|(refine dQ.of (kD n L hL _ ?_ ?_ [0,0,0,2] ?_ ?_) [(1000000,1000000)] rfl ⟨lr,aj rfl rfl,trivial⟩ ⟨rr,trivial⟩ rfl rfl ?_;rotate_right;rintro x rout ⟨⟨u8,hu8,rfl⟩,⟨c,c1,c2,rfl⟩⟩;have hw8:0≤u8∧u8≤2:=(by simp only[List.mem_cons,List.not_mem_nil,or_false]at hu8;omega);refine⟨rfl,?_⟩;conv=>whnf)|((first|(refine And.intro (by show aS (min (f+u3) 4001+u8);unfold aS;omega) ?_)|(refine aa ?_ ?_<;>intro hb<;>try simp only[az]at hb)|refine aq hT 12 oL ?_|omega|refine aA ?_|decide|assumption)<;>conv=>whnf))
   · exact⟨(c,m,i+1),⟨⟨by omega,by show _≤a+30*((i+1:Nat):Int);omega,by omega⟩,dF q4 (by omega)⟩,by show 3 - (i+1)<3 - i;omega,(by exact be [(1000000,1000000),(3,3)])⟩
   · exact⟨(_,m++ [⟨ky,f,min (f+u3) 4001,u4,u5,u6,u7⟩],min (f+u3) 4001+u8,k+1),⟨⟨by omega,by show _≤cc+6*((k+1:Nat):Int);omega,by show((k+1:Nat):Int)≤u2;omega⟩,e6 q4 (by omega) (by show ky.length≤8;rw[hky];exact hkk),by show 0≤min (f+u3) 4001+u8;omega,by show min (f+u3) 4001+u8≤5000;omega⟩,by show u2.toNat - (k+1)<u2.toNat - k;omega,
      af [(1000000,1000000),(3,54)] rfl rfl ⟨lr,lr,lr,lr,lr,lr,lr,lr,lr,trivial⟩ ⟨rr,aG rfl,trivial⟩⟩
   · exact⟨(d,m,i+1),⟨⟨by omega,by show _≤a+30*((i+1:Nat):Int);omega,by omega⟩,dF q4 (by omega)⟩,by show 3 - (i+1)<3 - i;omega,(by exact be [(1000000,1000000),(3,3)])⟩
 · conv=>whnf
   repeat' (first|((first|(refine aa ?_ ?_<;>intro hb<;>try simp only[az]at hb)|refine aq hT 12 oL ?_|omega|refine aA ?_|decide|assumption)<;>conv=>whnf))
   all_goals try(exfalso;omega)
   refine .ret _ ?_;conv=>whnf
   exact⟨[(3,aL 168 7 ft aV l),(1000000,bp n L _)],⟨l,b,dF p4 (by omega),⟨by omega,by omega⟩,rfl,rfl⟩,rr,rr,trivial⟩
set_option maxHeartbeats 4000000 in
theorem L6 (n:Nat)(L:Nat→Int)(hL:sJ n L)(a:Int)(h0:0≤a)(ha:a≤2^35):
 ai Tryz.prog 134 [.ptr 1000000 0] [(1000000,bp n L a)] (fun y r=>(∃l:List fg,dP rz 10 l∧y= .d (fG l))∧gZ n L a 120 r):=by
 refine ae hT (C:= []) Tryz.func134 rfl Tryz.call134 rfl rfl rfl ?_;conv=>whnf
 refine dQ.of (Qq n L hL _ ?_ ?_) [(1000000,1000000),(3,6)] rfl ⟨lr,trivial⟩ ⟨rr,trivial⟩ rfl rfl ?_
 rotate_right
 rintro x rout ⟨l,b,p4,⟨p1,p2⟩,rfl,rfl⟩;refine⟨rfl,?_⟩;have hl1:l.length≤9:=p4.1;conv=>whnf
 repeat' (first|(refine dQ.of (Cf n L hL _ ?_ ?_ 12 ?_) [(1000000,1000000)] rfl ⟨lr,lr,trivial⟩ ⟨rr,trivial⟩ rfl rfl ?_;rotate_right;rintro x rout ⟨⟨w,rfl⟩,⟨c,c1,c2,rfl⟩⟩;refine⟨rfl,?_⟩;conv=>whnf)|(refine dQ.of (EQ n L hL _ ?_ ?_ 4 ?_) [(1000000,1000000)] rfl ⟨lr,lr,trivial⟩ ⟨rr,trivial⟩ rfl rfl ?_;rotate_right;rintro x rout ⟨⟨m,hm1,hm2,hm3,rfl⟩,⟨c,c1,c2,rfl⟩⟩;refine⟨rfl,?_⟩;conv=>whnf)|(refine dQ.of (EQ n L hL _ ?_ ?_ _ ?_) [(1000000,1000000)] rfl ⟨lr,lr,trivial⟩ ⟨rr,trivial⟩ rfl rfl ?_;rotate_right;rintro x rout ⟨⟨j,hj1,hj2,hj3,rfl⟩,⟨c,c1,c2,rfl⟩⟩;refine⟨rfl,?_⟩;conv=>whnf)|(refine dQ.of (tp n L hL _ ?_ ?_ [[],[65],[109,105,110,105],[122,101,100]] (by simp) (by simp)) [(1000000,1000000)] rfl ⟨lr,aj rfl rfl,trivial⟩ ⟨rr,trivial⟩ rfl rfl ?_;rotate_right;rintro x rout ⟨⟨u1,hu1,rfl⟩,⟨c,c1,c2,rfl⟩⟩;refine⟨rfl,?_⟩;conv=>whnf)|(refine dQ.of (oA n L hL _ ?_ ?_ 0 10 ?_ ?_ ?_) [(1000000,1000000)] rfl ⟨lr,lr,lr,trivial⟩ ⟨rr,trivial⟩ rfl rfl ?_;rotate_right;rintro x rout ⟨⟨o1,ho1,ho2,rfl⟩,⟨c,c1,c2,rfl⟩⟩;refine⟨rfl,?_⟩;conv=>whnf)|(refine dQ.of (oA n L hL _ ?_ ?_ 1 4001 ?_ ?_ ?_) [(1000000,1000000)] rfl ⟨lr,lr,lr,trivial⟩ ⟨rr,trivial⟩ rfl rfl ?_;rotate_right;rintro x rout ⟨⟨o2,ho3,ho4,rfl⟩,⟨c,c1,c2,rfl⟩⟩;refine⟨rfl,?_⟩;conv=>whnf)|(refine dQ.of (oA n L hL _ ?_ ?_ (-1) 1000000 ?_ ?_ ?_) [(1000000,1000000)] rfl ⟨lr,lr,lr,trivial⟩ ⟨rr,trivial⟩ rfl rfl ?_;rotate_right;rintro x rout ⟨⟨o3,ho5,ho6,rfl⟩,⟨c,c1,c2,rfl⟩⟩;refine⟨rfl,?_⟩;conv=>whnf)|((first|(refine aa ?_ ?_<;>intro hb<;>try simp only[az]at hb)|omega|refine aA ?_|decide|assumption)<;>conv=>whnf))
 all_goals try(exact h0)
 all_goals try omega
 · have hw1:u1.length≤8:=bO hu1 rfl;refine .freeze _ 6 168 7 _ _ rfl (.weak _ ?_);conv=>whnf
   exact⟨.d (fG (me l j.toNat aV fun y=>{y with cls:=u1})),[(1000000,bp n L _)],wd (fun y:fg=>{y with cls:=u1}) (fun _=>rfl),⟨⟨_,iX (g:=fun y:fg=>{y with cls:=u1}) (dF p4 (by omega)) (fun y hy=>hw1),rfl⟩,_,by omega,by omega,rfl⟩,rr,trivial⟩
 · refine .freeze _ 6 168 7 _ _ rfl (.weak _ ?_);conv=>whnf
   have hrow:=fM (f:=ft) (d:=aV) (fM (l:=l) (j:=j.toNat) (off:=1) (ds:= [.int .i64 o1]) (fun _ _=>rfl) (fun y:fg=>{y with frm:=o1}) (fun _=>rfl)) (off:=2) (ds:= [.int .i64 o2]) (j:=j.toNat) (fun y:fg=>{y with to:=o2}) (fun _=>rfl);exact⟨.d (fG (me (me l j.toNat aV fun y=>{y with frm:=o1}) j.toNat aV fun y=>{y with to:=o2})),[(1000000,bp n L _)],bZ (by simp) (fun i hi=>hrow i (by simpa using hi)),⟨⟨_,iX (g:=fun y:fg=>{y with to:=o2}) (iX (g:=fun y:fg=>{y with frm:=o1}) (dF p4 (by omega)) (fun y hy=>hy)) (fun y hy=>hy),rfl⟩,_,by omega,by omega,rfl⟩,rr,trivial⟩
 · refine .freeze _ 6 168 7 _ _ rfl (.weak _ ?_);conv=>whnf
   exact⟨.d (fG (me l j.toNat aV fun y=>{y with dy:=o3})),[(1000000,bp n L _)],wd (fun y:fg=>{y with dy:=o3}) (fun _=>rfl),⟨⟨_,iX (g:=fun y:fg=>{y with dy:=o3}) (dF p4 (by omega)) (fun y hy=>hy),rfl⟩,_,by omega,by omega,rfl⟩,rr,trivial⟩
 · refine .freeze _ 27 168 7 _ _ rfl (.weak _ ?_);conv=>whnf
   exact⟨.d (fG (l++ [l.getD 0 aV])),[(1000000,bp n L _)],bZ (by simp) (kX rfl),⟨⟨_,e6 p4 (by omega) (p4.2 _ (ao (by omega))),rfl⟩,_,by omega,by omega,rfl⟩,rr,trivial⟩
 all_goals
  refine .freeze _ 6 168 7 _ _ rfl (.weak _ ?_);conv=>whnf
  exact⟨.d (fG l),[(1000000,bp n L _)],lr,⟨⟨_,dF p4 (by omega),rfl⟩,_,by omega,by omega,rfl⟩,rr,trivial⟩
def Af:OL:= [(0,[]),(1,[0]),(2,[0]),(3,[0,1,2]),(4,[0,1,2]),(5,rg 5),(6,rg 6),(7,rg 5),(8,[0]),(9,[0]),(10,[]),(11,[])]
def MT (x:Bu):Prop:=x.key.length≤8
def Nz (x:Fe):Prop:=x.a.length≤8∧x.b.length≤8
def IM (x:vk):Prop:=x.key.length≤8∧x.cls.length≤8
theorem CE {e:List Bu}{g:Nat→List DV}{m:Int}(h0:0≤m)(h2:m≤2)(hl:e.length=2)(q0:g 0=Mi (e.getD 0 uB))(q1:g 1=Mi (e.getD 1 uB)):SV.le (.d (.ro 4 m.toNat g)) (.d (uD (e.take m.toNat))):=
 bZ (by rw[List.length_take];omega) (fun i hi=>by
  have:i=0∨i=1:=by omega
  simp only[aW,qC hi];rcases this with rfl|rfl
  · exact q0
  · exact q1)
set_option maxHeartbeats 4000000 in
theorem JH (n:Nat)(L:Nat→Int)(hL:sJ n L)(a:Int)(h0:0≤a)(ha:a≤2^36):
 ai Tryz.prog 135 [.ptr 1000000 0] [(1000000,bp n L a)] (fun y r=>(∃l:List Bu,dP MT 2 l∧y= .d (uD l))∧gZ n L a 20 r):=by
 refine ae hT (C:= [24]) Tryz.func135 rfl Tryz.call135 rfl rfl rfl ?_;conv=>whnf
 repeat' (first|(refine dQ.of (kD n L hL _ ?_ ?_ [0,5,100] ?_ ?_) [(1000000,1000000)] rfl ⟨lr,aj rfl rfl,trivial⟩ ⟨rr,trivial⟩ rfl rfl ?_;rotate_right;rintro x rout ⟨⟨u1,hu1,rfl⟩,⟨c,c1,c2,rfl⟩⟩;refine⟨rfl,?_⟩;conv=>whnf)|(refine dQ.of (kD n L hL _ ?_ ?_ [0,2] ?_ ?_) [(1000000,1000000)] rfl ⟨lr,aj rfl rfl,trivial⟩ ⟨rr,trivial⟩ rfl rfl ?_;rotate_right;rintro x rout ⟨⟨u2,hu2,rfl⟩,⟨c,c1,c2,rfl⟩⟩;refine⟨rfl,?_⟩;conv=>whnf)|(refine dQ.of (kD n L hL _ ?_ ?_ [-1,0,7] ?_ ?_) [(1000000,1000000)] rfl ⟨lr,aj rfl rfl,trivial⟩ ⟨rr,trivial⟩ rfl rfl ?_;rotate_right;rintro x rout ⟨⟨u3,hu3,rfl⟩,⟨c,c1,c2,rfl⟩⟩;refine⟨rfl,?_⟩;conv=>whnf)|(refine dQ.of (kD n L hL _ ?_ ?_ [0,10] ?_ ?_) [(1000000,1000000)] rfl ⟨lr,aj rfl rfl,trivial⟩ ⟨rr,trivial⟩ rfl rfl ?_;rotate_right;rintro x rout ⟨⟨u4,hu4,rfl⟩,⟨c,c1,c2,rfl⟩⟩;refine⟨rfl,?_⟩;conv=>whnf)|(refine dQ.of (kD n L hL _ ?_ ?_ [0,3,50] ?_ ?_) [(1000000,1000000)] rfl ⟨lr,aj rfl rfl,trivial⟩ ⟨rr,trivial⟩ rfl rfl ?_;rotate_right;rintro x rout ⟨⟨u5,hu5,rfl⟩,⟨c,c1,c2,rfl⟩⟩;refine⟨rfl,?_⟩;conv=>whnf)|(refine dQ.of (kD n L hL _ ?_ ?_ [-1,-1,20,1000] ?_ ?_) [(1000000,1000000)] rfl ⟨lr,aj rfl rfl,trivial⟩ ⟨rr,trivial⟩ rfl rfl ?_;rotate_right;rintro x rout ⟨⟨u6,hu6,rfl⟩,⟨c,c1,c2,rfl⟩⟩;refine⟨rfl,?_⟩;conv=>whnf)|(refine dQ.of (Cf n L hL _ ?_ ?_ 15 ?_) [(1000000,1000000)] rfl ⟨lr,lr,trivial⟩ ⟨rr,trivial⟩ rfl rfl ?_;rotate_right;rintro x rout ⟨⟨w,rfl⟩,⟨c,c1,c2,rfl⟩⟩;refine⟨rfl,?_⟩;conv=>whnf)|(refine dQ.of (tp n L hL _ ?_ ?_ [[],[65],[109,97,112],[115,101,97,116]] (by simp) (by simp)) [(1000000,1000000)] rfl ⟨lr,aj rfl rfl,trivial⟩ ⟨rr,trivial⟩ rfl rfl ?_;rotate_right;rintro x rout ⟨⟨v1,hv1,rfl⟩,⟨c,c1,c2,rfl⟩⟩;refine⟨rfl,?_⟩;conv=>whnf)|(refine dQ.of (oA n L hL _ ?_ ?_ 0 1000000 ?_ ?_ ?_) [(1000000,1000000)] rfl ⟨lr,lr,lr,trivial⟩ ⟨rr,trivial⟩ rfl rfl ?_;rotate_right;rintro x rout ⟨⟨o1,ho1,ho2,rfl⟩,⟨c,c1,c2,rfl⟩⟩;refine⟨rfl,?_⟩;conv=>whnf)|(refine dQ.of (oA n L hL _ ?_ ?_ (-1) 1000000 ?_ ?_ ?_) [(1000000,1000000)] rfl ⟨lr,lr,lr,trivial⟩ ⟨rr,trivial⟩ rfl rfl ?_;rotate_right;rintro x rout ⟨⟨o2,ho3,ho4,rfl⟩,⟨c,c1,c2,rfl⟩⟩;refine⟨rfl,?_⟩;conv=>whnf)|(refine dQ.of (kD n L hL _ ?_ ?_ [0,1,2,2] ?_ ?_) [(1000000,1000000)] rfl ⟨lr,aj rfl rfl,trivial⟩ ⟨rr,trivial⟩ rfl rfl ?_;rotate_right;rintro x rout ⟨⟨m,hm,rfl⟩,⟨c,c1,c2,rfl⟩⟩;have hm2:0≤m∧m≤2:=(by simp only[List.mem_cons,List.not_mem_nil,or_false]at hm;omega);refine⟨rfl,?_⟩;conv=>whnf)|((first|refine sT.first (lo:=none) rfl ?_|(refine aa ?_ ?_<;>intro hb<;>try simp only[az]at hb)|omega|refine aA ?_|decide|assumption)<;>conv=>whnf))
 all_goals try(exact h0)
 all_goals try omega
 · have hw:v1.length≤8:=bO hv1 rfl;refine .freeze _ 41 201 4 _ _ rfl (.weak _ ?_);conv=>whnf
   refine⟨.d (uD (([⟨[109,97,112],u1,u2,u3⟩,⟨v1,o1,0,o2⟩]:List Bu).take m.toNat)),[(1000000,bp n L _)],CE hm2.1 hm2.2 rfl rfl rfl,⟨⟨_,⟨by rw[List.length_take];exact Nat.min_le_right _ _,fun x hx=> ?_⟩,rfl⟩,_,by omega,by omega,rfl⟩,rr,trivial⟩;have hx:=List.mem_of_mem_take hx;simp only[List.mem_cons,List.not_mem_nil,or_false]at hx;rcases hx with rfl|rfl
   · show([109,97,112]:List UInt8).length≤8;decide
   · exact hw
 · refine .freeze _ 41 201 4 _ _ rfl (.weak _ ?_);conv=>whnf
   refine⟨.d (uD (([⟨[109,97,112],u1,u2,u3⟩,⟨[115,101,97,116],u4,u5,u6⟩]:List Bu).take m.toNat)),[(1000000,bp n L _)],CE hm2.1 hm2.2 rfl rfl rfl,⟨⟨_,⟨by rw[List.length_take];exact Nat.min_le_right _ _,fun x hx=> ?_⟩,rfl⟩,_,by omega,by omega,rfl⟩,rr,trivial⟩;have hx:=List.mem_of_mem_take hx;simp only[List.mem_cons,List.not_mem_nil,or_false]at hx;rcases hx with rfl|rfl
   · show([109,97,112]:List UInt8).length≤8;decide
   · show([115,101,97,116]:List UInt8).length≤8;decide
def Rh (p:List UInt8×List UInt8):List DV:= [.str p.1,.str p.2]
def f4:List (List UInt8×List UInt8):= [([115,49],[115,50]),([115,49],[115,51]),([115,50],[115,49]),([115,51],[115,50])]
theorem KR (i:Nat):(f4.getD i ([],[])).1.length≤8∧(f4.getD i ([],[])).2.length≤8:=by
 match i with
 |0=>decide
 |1=>decide
 |2=>decide
 |3=>decide
 |i+4=>simp[f4]
set_option maxHeartbeats 4000000 in
theorem NZ (n:Nat)(L:Nat→Int)(hL:sJ n L)(a:Int)(h0:0≤a)(ha:a≤2^36):
 ai Tryz.prog 136 [.ptr 1000000 0] [(1000000,bp n L a)] (fun y r=>(∃l:List Fe,dP Nz 5 l∧y= .d (EU l))∧gZ n L a 20 r):=by
 refine ae hT (C:= []) Tryz.func136 rfl Tryz.call136 rfl rfl rfl ?_;conv=>whnf
 refine ah hT (C:= []) (ι:=Int×List Fe×Nat) (fun(b,l,i)=>(a≤b∧b≤a+2*i∧i≤4)∧dP Nz i l)
  (fun(b,l,i)=>aI [(0,.ptr 1000000 0),(3,.buf 3),(10,.d (dC 2 Rh ([],[]) f4)),(11,.d (.int .i64 4)),(12,.d (.int .i64 i))] [(1000000,bp n L b),(3,aL 248 3 O1 uC l)])
  (fun(_,_,i)=>4 - i) (a,[],0) ⟨⟨by simp,by simp,by simp⟩,⟨by simp,by simp⟩⟩ ?_ ?_
 · refine(dc.nil 3 3 248 3 (aW O1 uC []) rfl rfl (by decide)).trans (af [(1000000,1000000),(3,3)] rfl rfl ⟨lr,lr,aj rfl rfl,lr,lr,trivial⟩ ⟨rr,rr,trivial⟩)
 rintro⟨b,l,i⟩ ⟨⟨p1,p2,p3⟩,p4⟩;have p1:a≤b:=p1;have p2:b≤a+2*i:=p2;have p3:i≤4:=p3;have p4:dP Nz i l:=p4;have hc3:f4.length=4:=rfl;have hl1:l.length≤i:=p4.1;have e1:(i:Int).toNat=i:=Int.toNat_natCast i;have hf:=KR (i:Int).toNat;conv=>whnf
 repeat' (first|(refine dQ.of (Cf n L hL _ ?_ ?_ 3 ?_) [(1000000,1000000)] rfl ⟨lr,lr,trivial⟩ ⟨rr,trivial⟩ rfl rfl ?_;rotate_right;rintro x rout ⟨⟨w,rfl⟩,⟨c,c1,c2,rfl⟩⟩;refine⟨rfl,?_⟩;conv=>whnf)|(refine dQ.of (kD n L hL _ ?_ ?_ [0,40,700] ?_ ?_) [(1000000,1000000)] rfl ⟨lr,aj rfl rfl,trivial⟩ ⟨rr,trivial⟩ rfl rfl ?_;rotate_right;rintro x rout ⟨⟨u1,hu1,rfl⟩,⟨c,c1,c2,rfl⟩⟩;refine⟨rfl,?_⟩;conv=>whnf)|(refine dQ.of (Cf n L hL _ ?_ ?_ 15 ?_) [(1000000,1000000)] rfl ⟨lr,lr,trivial⟩ ⟨rr,trivial⟩ rfl rfl ?_;rotate_right;rintro x rout ⟨⟨w2,rfl⟩,⟨c,c1,c2,rfl⟩⟩;refine⟨rfl,?_⟩;conv=>whnf)|(refine dQ.of (tp n L hL _ ?_ ?_ [[115,51],[65],[115,49]] (by simp) (by simp)) [(1000000,1000000)] rfl ⟨lr,aj rfl rfl,trivial⟩ ⟨rr,trivial⟩ rfl rfl ?_;rotate_right;rintro x rout ⟨⟨v1,hv1,rfl⟩,⟨c,c1,c2,rfl⟩⟩;refine⟨rfl,?_⟩;conv=>whnf)|(refine dQ.of (tp n L hL _ ?_ ?_ [[115,51],[115,57],[]] (by simp) (by simp)) [(1000000,1000000)] rfl ⟨lr,aj rfl rfl,trivial⟩ ⟨rr,trivial⟩ rfl rfl ?_;rotate_right;rintro x rout ⟨⟨v2,hv2,rfl⟩,⟨c,c1,c2,rfl⟩⟩;refine⟨rfl,?_⟩;conv=>whnf)|(refine dQ.of (oA n L hL _ ?_ ?_ 0 1000000 ?_ ?_ ?_) [(1000000,1000000)] rfl ⟨lr,lr,lr,trivial⟩ ⟨rr,trivial⟩ rfl rfl ?_;rotate_right;rintro x rout ⟨⟨o1,ho1,ho2,rfl⟩,⟨c,c1,c2,rfl⟩⟩;refine⟨rfl,?_⟩;conv=>whnf)|((first|(refine aa ?_ ?_<;>intro hb<;>try simp only[az]at hb)|refine aq hT 6 Af ?_|omega|refine aA ?_|decide|assumption)<;>conv=>whnf))
 all_goals try(exact h0)
 all_goals try omega
 · exact⟨(c,l++ [⟨(f4.getD (i:Int).toNat ([],[])).1,(f4.getD (i:Int).toNat ([],[])).2,u1⟩],i+1),⟨⟨by omega,by show _≤a+2*((i+1:Nat):Int);omega,by omega⟩,e6 p4 (by omega) (show Nz ⟨(f4.getD (i:Int).toNat ([],[])).1,(f4.getD (i:Int).toNat ([],[])).2,u1⟩from hf)⟩,by show 4 - (i+1)<4 - i;omega,
    af [(1000000,1000000),(3,29)] rfl rfl ⟨lr,lr,lr,lr,lr,trivial⟩ ⟨rr,aG rfl,trivial⟩⟩
 · exact⟨(c,l,i+1),⟨⟨by omega,by show _≤a+2*((i+1:Nat):Int);omega,by omega⟩,dF p4 (by omega)⟩,by show 4 - (i+1)<4 - i;omega,(by exact be [(1000000,1000000),(3,3)])⟩
 · refine .freeze _ 44 248 3 _ _ rfl (.weak _ ?_);conv=>whnf
   exact⟨.d (EU (l++ [⟨v1,v2,o1⟩])),[(1000000,bp n L _)],bZ (by simp) (kX rfl),⟨⟨_,e6 p4 (by omega) ⟨bO hv1 rfl,bO hv2 rfl⟩,rfl⟩,_,by omega,by omega,rfl⟩,rr,trivial⟩
 · refine .freeze _ 3 248 3 _ _ rfl (.weak _ ?_);conv=>whnf
   exact⟨.d (EU l),[(1000000,bp n L _)],lr,⟨⟨_,dF p4 (by omega),rfl⟩,_,by omega,by omega,rfl⟩,rr,trivial⟩
def k3:List (List UInt8):= [[97,49,48],[98,50,48],[99,51,48]]
set_option maxHeartbeats 4000000 in
theorem Ly (n:Nat)(L:Nat→Int)(hL:sJ n L)(a:Int)(h0:0≤a)(ha:a≤2^36):
 ai Tryz.prog 137 [.ptr 1000000 0] [(1000000,bp n L a)] (fun y r=>(∃l:List vk,dP IM 3 l∧y= .d (uM l))∧gZ n L a 40 r):=by
 refine ae hT (C:= []) Tryz.func137 rfl Tryz.call137 rfl rfl rfl ?_;conv=>whnf
 refine ah hT (C:= []) (ι:=Int×List vk×Nat) (fun(b,l,i)=>(a≤b∧b≤a+8*i∧i≤3)∧dP IM i l)
  (fun(b,l,i)=>aI [(0,.ptr 1000000 0),(3,.buf 3),(8,.d (eE k3)),(9,.d (.int .i64 3)),(10,.d (.int .i64 i))] [(1000000,bp n L b),(3,aL 250 6 Iq oa l)])
  (fun(_,_,i)=>3 - i) (a,[],0) ⟨⟨by simp,by simp,by simp⟩,⟨by simp,by simp⟩⟩ ?_ ?_
 · refine(dc.nil 3 3 250 6 (aW Iq oa []) rfl rfl (by decide)).trans (af [(1000000,1000000),(3,3)] rfl rfl ⟨lr,lr,aj rfl rfl,lr,lr,trivial⟩ ⟨rr,rr,trivial⟩)
 rintro⟨b,l,i⟩ ⟨⟨p1,p2,p3⟩,p4⟩;have p1:a≤b:=p1;have p2:b≤a+8*i:=p2;have p3:i≤3:=p3;have p4:dP IM i l:=p4;have hc3:k3.length=3:=rfl;have hl1:l.length≤i:=p4.1;have hkk:(i:Int)<3→(k3.getD (i:Int).toNat []).length≤8:=fun h=>bO (ao (by omega)) rfl
 conv=>whnf
 repeat' (first|(refine dQ.of (Cf n L hL _ ?_ ?_ 4 ?_) [(1000000,1000000)] rfl ⟨lr,lr,trivial⟩ ⟨rr,trivial⟩ rfl rfl ?_;rotate_right;rintro x rout ⟨⟨w,rfl⟩,⟨c,c1,c2,rfl⟩⟩;refine⟨rfl,?_⟩;conv=>whnf)|(refine dQ.of (kD n L hL _ ?_ ?_ [0,0,3] ?_ ?_) [(1000000,1000000)] rfl ⟨lr,aj rfl rfl,trivial⟩ ⟨rr,trivial⟩ rfl rfl ?_;rotate_right;rintro x rout ⟨⟨u1,hu1,rfl⟩,⟨c,c1,c2,rfl⟩⟩;have hw1:=On hu1 (by decide);refine⟨rfl,?_⟩;conv=>whnf)|(refine dQ.of (tp n L hL _ ?_ ?_ [[],[],[109,105,110,105]] (by simp) (by simp)) [(1000000,1000000)] rfl ⟨lr,aj rfl rfl,trivial⟩ ⟨rr,trivial⟩ rfl rfl ?_;rotate_right;rintro x rout ⟨⟨v1,hv1,rfl⟩,⟨c,c1,c2,rfl⟩⟩;refine⟨rfl,?_⟩;conv=>whnf)|(refine dQ.of (kD n L hL _ ?_ ?_ [0,1,10,3000] ?_ ?_) [(1000000,1000000)] rfl ⟨lr,aj rfl rfl,trivial⟩ ⟨rr,trivial⟩ rfl rfl ?_;rotate_right;rintro x rout ⟨⟨u2,hu2,rfl⟩,⟨c,c1,c2,rfl⟩⟩;have hw2:=On hu2 (by decide);refine⟨rfl,?_⟩;conv=>whnf)|(refine dQ.of (kD n L hL _ ?_ ?_ [1,1,2,5] ?_ ?_) [(1000000,1000000)] rfl ⟨lr,aj rfl rfl,trivial⟩ ⟨rr,trivial⟩ rfl rfl ?_;rotate_right;rintro x rout ⟨⟨u3,hu3,rfl⟩,⟨c,c1,c2,rfl⟩⟩;refine⟨rfl,?_⟩;conv=>whnf)|(refine dQ.of (kD n L hL _ ?_ ?_ [1,100,100,250,1000] ?_ ?_) [(1000000,1000000)] rfl ⟨lr,aj rfl rfl,trivial⟩ ⟨rr,trivial⟩ rfl rfl ?_;rotate_right;rintro x rout ⟨⟨u4,hu4,rfl⟩,⟨c,c1,c2,rfl⟩⟩;refine⟨rfl,?_⟩;conv=>whnf)|(refine dQ.of (Cf n L hL _ ?_ ?_ 15 ?_) [(1000000,1000000)] rfl ⟨lr,lr,trivial⟩ ⟨rr,trivial⟩ rfl rfl ?_;rotate_right;rintro x rout ⟨⟨w2,rfl⟩,⟨c,c1,c2,rfl⟩⟩;refine⟨rfl,?_⟩;conv=>whnf)|(refine dQ.of (EQ n L hL _ ?_ ?_ _ ?_) [(1000000,1000000)] rfl ⟨lr,lr,trivial⟩ ⟨rr,trivial⟩ rfl rfl ?_;rotate_right;rintro x rout ⟨⟨j,hj1,hj2,hj3,rfl⟩,⟨c,c1,c2,rfl⟩⟩;refine⟨rfl,?_⟩;conv=>whnf)|(refine dQ.of (tp n L hL _ ?_ ?_ [(l.getD j.toNat oa).key,[],[122,101,100],[97,49,48]] (by simp) (by simp)) [(1000000,1000000)] rfl ⟨lr,aj rfl rfl,trivial⟩ ⟨rr,trivial⟩ rfl rfl ?_;rotate_right;rintro x rout ⟨⟨v2,hv2,rfl⟩,⟨c,c1,c2,rfl⟩⟩;refine⟨rfl,?_⟩;conv=>whnf)|(refine dQ.of (oA n L hL _ ?_ ?_ 1 120 ?_ ?_ ?_) [(1000000,1000000)] rfl ⟨lr,lr,lr,trivial⟩ ⟨rr,trivial⟩ rfl rfl ?_;rotate_right;rintro x rout ⟨⟨o1,ho1,ho2,rfl⟩,⟨c,c1,c2,rfl⟩⟩;refine⟨rfl,?_⟩;conv=>whnf)|(refine dQ.of (oA n L hL _ ?_ ?_ 1 1000 ?_ ?_ ?_) [(1000000,1000000)] rfl ⟨lr,lr,lr,trivial⟩ ⟨rr,trivial⟩ rfl rfl ?_;rotate_right;rintro x rout ⟨⟨o2,ho3,ho4,rfl⟩,⟨c,c1,c2,rfl⟩⟩;refine⟨rfl,?_⟩;conv=>whnf)|((first|(refine aa ?_ ?_<;>intro hb<;>try simp only[az]at hb)|omega|refine aA ?_|decide|assumption)<;>conv=>whnf))
 all_goals try(exact h0)
 all_goals try omega
 · exact⟨(c,l,i+1),⟨⟨by omega,by show _≤a+8*((i+1:Nat):Int);omega,by omega⟩,dF p4 (by omega)⟩,by show 3 - (i+1)<3 - i;omega,(by exact be [(1000000,1000000),(3,3)])⟩
 · exact⟨(c,l++ [⟨k3.getD (i:Int).toNat [],v1,u1,u1+u2,u3,u4⟩],i+1),⟨⟨by omega,by show _≤a+8*((i+1:Nat):Int);omega,by omega⟩,e6 p4 (by omega) ⟨hkk (by omega),bO hv1 rfl⟩⟩,by show 3 - (i+1)<3 - i;omega,
    af [(1000000,1000000),(3,38)] rfl rfl ⟨lr,lr,lr,lr,lr,trivial⟩ ⟨rr,aG rfl,trivial⟩⟩
 · have hv:v2.length≤8:=by
    simp only[List.mem_cons,List.not_mem_nil,or_false]at hv2;rcases hv2 with rfl|rfl|rfl|rfl
    · exact(p4.2 _ (ao (by omega))).1
    · decide
    · decide
    · decide
   refine .freeze _ 3 250 6 _ _ rfl (.weak _ ?_);conv=>whnf
   have hrow:=fM (f:=Iq) (d:=oa) (fM (fM (l:=l) (j:=j.toNat) (off:=0) (ds:= [.str v2]) (fun _ _=>rfl) (fun y:vk=>{y with key:=v2}) (fun _=>rfl)) (off:=4) (ds:= [.int .i64 o1]) (j:=j.toNat) (fun y:vk=>{y with days:=o1}) (fun _=>rfl)) (off:=5) (ds:= [.int .i64 o2]) (j:=j.toNat) (fun y:vk=>{y with per:=o2}) (fun _=>rfl);exact⟨.d (uM (me (me (me l j.toNat oa fun y=>{y with key:=v2}) j.toNat oa fun y=>{y with days:=o1}) j.toNat oa fun y=>{y with per:=o2})),[(1000000,bp n L _)],bZ (by simp) (fun i hi=>hrow i (by simpa using hi)),⟨⟨_,iX (g:=fun y:vk=>{y with per:=o2}) (iX (g:=fun y:vk=>{y with days:=o1}) (iX (g:=fun y:vk=>{y with key:=v2}) (dF p4 (by omega)) (fun y hy=>⟨hv,hy.2⟩)) (fun y hy=>hy)) (fun y hy=>hy),rfl⟩,_,by omega,by omega,rfl⟩,rr,trivial⟩
 all_goals
  refine .freeze _ 3 250 6 _ _ rfl (.weak _ ?_);conv=>whnf
  exact⟨.d (uM l),[(1000000,bp n L _)],lr,⟨⟨_,dF p4 (by omega),rfl⟩,_,by omega,by omega,rfl⟩,rr,trivial⟩
end Go.Proofs.YtkokpbpililcdaaGreatDoor
namespace Go.Eng
open Go
variable {A:nG} {G:Hp} {β:eZ} {s:St} {t:Array Value} {w:World}
theorem dc.bunchNew (e k:Nat)(hk:0<k)(hu:s.used 999999=false):dc s (s.app ⟨none,.any,[(999999,some (.bunch e k []))],[999999]⟩):=by
 refine⟨fun A a w=> ?_⟩;rintro⟨h0,G,β,h⟩;exact⟨h0,G,_,h.bunchNew hk hu⟩
theorem rK {q e k:Nat}:∀ (l:List (Value×Nat×(Nat→List DV))) {G:Hp} {s:St},MG A G β s t w→s.res q=some (.bunch e k l)→
 ∃G',G.le G'∧(∀p ∈ l,aJ G' (.ro k p.2.1 p.2.2) p.1)∧MG A G' β (s.app ⟨none,.any,[(q,some (.bunch e k []))],[]⟩) t w:=by
 intro l
 induction l with
 | nil =>
   intro G s h hq;refine⟨G,Hp.le_refl G,fun p hp=>(by cases hp),?_⟩
   have:s.app ⟨none,.any,[(q,some (.bunch e k []))],[]⟩=s:=by
    cases s with
    | mk tm rs us=>
      simp only[St.app,St.mk.injEq];refine⟨rfl,?_,rfl⟩;funext x
      simp only[aD,aQ]
      by_cases c:x=q
      · subst c;simpa using hq.symm
      · rw[ax c];rfl
   rw[this];exact h
 | cons p l ih=>
   obtain⟨v,n,get⟩:=p;intro G s h hq;obtain⟨G1,h1,h2,h3⟩:=h.bunchFree hq;obtain⟨G2,k1,k2,k3⟩:=ih h3 (by simp[St.app,aD,aQ]);refine⟨G2,Hp.le_trans h1 k1,fun p hp=> ?_,?_⟩
   · rcases List.mem_cons.1 hp with rfl|hp
     · exact h2.mono k1
     · exact k2 p hp
   · have:(s.app ⟨none,.any,[(q,some (.bunch e k l))],[]⟩).app ⟨none,.any,[(q,some (.bunch e k []))],[]⟩=s.app ⟨none,.any,[(q,some (.bunch e k []))],[]⟩:=by
      simp only[St.app,St.mk.injEq];refine⟨rfl,?_,rfl⟩;funext x
      simp only[aD,aQ]
      by_cases c:x=q
      · subst c;simp
      · rw[ax c];rfl
     rw[this]at k3;exact k3
theorem pV {q e k e2 k2 N:Nat}{l:List (Value×Nat×(Nat→List DV))}{get:Nat→List DV}(get':Nat→List DV)(hb:s.res 999999=some (.bunch e k l))(hq:s.res q=some (.buf e2 k2 N get))
 (hl:∀i,i<N→(get' i).length=(get i).length)
 (hg:∀ (i j:Nat) (x:DV),i<N→(get' i)[j]? =some x→(get i)[j]? =some x∨∃p ∈ l,(get i)[j]? =some (.opq p.1)∧∀G v,aJ G (.ro k p.2.1 p.2.2) v→aJ G x v):
 dc s (s.app ⟨none,.any,[(999999,none),(q,some (.buf e2 k2 N get'))],[]⟩):=by
 refine⟨fun A a w=> ?_⟩;rintro⟨h0,G,β,h⟩;obtain⟨G',h1,h2,h3⟩:=rK l h hb;have hne:¬q=999999:=fun c=>by rw[c,hb]at hq;cases hq
 have hq1:(s.app ⟨none,.any,[(999999,some (.bunch e k []))],[]⟩).res q=some (.buf e2 k2 N get):=by
  simp only[St.app,aD,aQ];rw[ax hne];exact hq
 obtain⟨v,xs,hv,hown,hk,hlen,hden⟩:=h3.rs _ _ hq1
 have h4:=h3.changeG (r':=.buf e2 k2 N get') hq1 rfl hv rfl rfl rfl rfl (fun _ _=>rfl) (fun b hb=>hb.to rfl) ⟨v,xs,hv,hown,hk,fun i hi=>(hl i hi).trans (hlen i hi),fun i j x hi hx=>by
  rcases hg i j x hi hx with c|⟨p,hp,c,hx⟩
  · exact hden i j x hi c
  · obtain⟨u,hu,hd⟩:=hden i j _ hi c
    cases hd with|opq _ _=>exact⟨_,hu,hx _ _ (h2 p hp)⟩⟩
 have h5:=h4.drop 999999;refine⟨h0,G',β,?_⟩
 have:((s.app ⟨none,.any,[(999999,some (.bunch e k []))],[]⟩).app ⟨none,.any,[(q,some (.buf e2 k2 N get'))],[]⟩).app ⟨none,.any,[(999999,none)],[]⟩=s.app ⟨none,.any,[(999999,none),(q,some (.buf e2 k2 N get'))],[]⟩:=by
  simp only[St.app,St.mk.injEq];refine⟨rfl,?_,rfl⟩;funext x
  simp only[aD,aQ]
  by_cases c:x=999999
  · subst c;simp
  · rw[ax c]
    by_cases d:x=q
    · subst d;simp
    · rw[ax d];rfl
 rw[←this];exact h5
end Go.Eng
set_option maxRecDepth 20000
namespace Go.Proofs.YtkokpbpililcdaaGreatDoor
open Go Go.Eng
def l7:OL:= [(0,[]),(1,[0]),(2,[0]),(3,[0]),(4,[0]),(5,rg 5),(6,rg 6),(7,rg 5),(8,rg 5),(9,[0]),(10,[]),(11,[]),(12,[])]
def Lu (x:lH):Prop:=x.key.length≤8∧x.on.length≤8
structure yE where
 key:List UInt8
 per:Int
 v:Value
 on:List Int
 over:Bool
def Ih (x:yE):List DV:= [.str x.key,.int .i64 x.per,.opq x.v,.bool x.over]
def rZ:yE:=⟨[],0,.nilFunc,[],false⟩
def bM (x:yE):Prop:=x.key.length≤8∧x.on.length≤5
def bT (x:yE):lH:=⟨x.key,x.per,x.on,x.over⟩
def bE (x:yE):Value×Nat×(Nat→List DV):=(x.v,x.on.length,aW iF 0 x.on)
def bL (l:List yE):List (Value×Nat×(Nat→List DV)):=(l.map bE).reverse
theorem Ik (l:List yE)(x:yE):bL (l++ [x])=bE x::bL l:=by simp[bL]
theorem Lk {l:List yE}{x:yE}(h:x ∈ l):bE x ∈ bL l:=by
 unfold bL;rw[List.mem_reverse];exact List.mem_map.2 ⟨x,h,rfl⟩
theorem Hg (l:List yE){j:Nat}(h:j<l.length):∃A B,bL l=A++bE (l.getD j rZ)::B∧∀x,∀t ∈ l.set j x,t=x∨bE t ∈ A++B:=by
 have e:l=l.take j++l.getD j rZ::l.drop (j+1):=by
  rw[List.getD_eq_getElem?_getD,List.getElem?_eq_getElem h,Option.getD_some,←List.drop_eq_getElem_cons h,List.take_append_drop]
 refine⟨((l.drop (j+1)).map bE).reverse,((l.take j).map bE).reverse,?_,fun x t ht=> ?_⟩
 · conv=>lhs;rw[e]
   simp[bL]
 · rw[List.set_eq_take_append_cons_drop,if_pos h]at ht;rcases List.mem_append.1 ht with q|q
   · exact .inr (List.mem_append.2 (.inr (by rw[List.mem_reverse];exact List.mem_map.2 ⟨t,q,rfl⟩)))
   · rcases List.mem_cons.1 q with q|q
     · exact .inl q
     · exact .inr (List.mem_append.2 (.inl (by rw[List.mem_reverse];exact List.mem_map.2 ⟨t,q,rfl⟩)))
theorem rV {s:St}{q N:Nat}{Bn:List (Value×Nat×(Nat→List DV))}{get:Nat→List DV}(hb:s.res 999999=some (.bunch 3 1 Bn))(hq:s.res q=some (.buf 252 4 N get))(l:List yE)(hN:N=l.length)(hg:∀i,i<N→get i=aW Ih rZ l i)
 (hB:∀t ∈ l,∃p ∈ Bn,p.1=t.v∧p.2.1=t.on.length∧∀i,i<p.2.1→p.2.2 i=aW iF 0 t.on i):
 dc s (s.app ⟨none,.any,[(999999,none),(q,some (.buf 252 4 N (aW xw cg (l.map bT))))],[]⟩):=by
 have hrow:∀i,i<N→aW xw cg (l.map bT) i=xw (bT (l.getD i rZ)):=fun i hi=>by
  unfold aW;congr 1
  rw[List.getD_eq_getElem?_getD,List.getElem?_map,List.getD_eq_getElem?_getD,List.getElem?_eq_getElem (by omega)];rfl
 refine pV _ hb hq (fun i hi=>by rw[hrow i hi,hg i hi];rfl) (fun i j x hi hx=> ?_);rw[hrow i hi]at hx;rw[hg i hi];obtain⟨t,ht⟩:∃t,t=l.getD i rZ:=⟨_,rfl⟩;have hm:t ∈ l:=by rw[ht];exact ao (by omega)
 show(Ih (l.getD i rZ))[j]? =some x∨∃p ∈ Bn,(Ih (l.getD i rZ))[j]? =some (.opq p.1)∧∀G v,aJ G (.ro 1 p.2.1 p.2.2) v→aJ G x v;rw[←ht]at hx ⊢
 match j with
 |0=>exact .inl hx
 |1=>exact .inl hx
 |3=>exact .inl hx
 | 2=>
   obtain⟨p,hp,h1,h2,h3⟩:=hB t hm;cases hx
   exact .inr ⟨p,hp,by rw[h1];rfl,fun G v hv=>vo h2 h3 hv⟩
 |j+4=>cases hx
def MV:List (List UInt8):= [[99,105,116,121],[115,116,97,116,101],[118,97,116]]
theorem pN {l:List yE}{k:Nat}(hl:l.length≤k)(h:∀t ∈ l,t.key.length≤8∧t.on.length≤8):dP Lu k (l.map bT):=
 ⟨by rw[List.length_map];exact hl,fun x hx=>by
   obtain⟨t,ht,rfl⟩:=List.mem_map.1 hx
   exact h t ht⟩
set_option maxHeartbeats 4000000 in
theorem Mt (n:Nat)(L:Nat→Int)(hL:sJ n L)(a:Int)(h0:0≤a)(ha:a≤2^36):
 ai Tryz.prog 138 [.ptr 1000000 0] [(1000000,bp n L a)] (fun y r=>(∃l:List lH,dP Lu 3 l∧y= .d (ij l))∧gZ n L a 50 r):=by
 refine ae hT (C:= []) Tryz.func138 rfl Tryz.call138 rfl rfl rfl ?_;conv=>whnf
 refine ah hT (C:= []) (ι:=Int×List yE×Nat) (fun(b,l,i)=>(a≤b∧b≤a+10*i∧i≤3)∧dP bM i l)
  (fun(b,l,i)=>aI [(0,.ptr 1000000 0),(3,.buf 3),(10,.d (eE MV)),(11,.d (.int .i64 3)),(12,.d (.int .i64 i))] [(1000000,bp n L b),(3,aL 252 4 Ih rZ l),(999999,.bunch 3 1 (bL l))])
  (fun(_,_,i)=>3 - i) (a,[],0) ⟨⟨by simp,by simp,by simp⟩,⟨by simp,by simp⟩⟩ ?_ ?_
 · refine(dc.bunchNew 3 1 (by decide) rfl).trans ((dc.nil 3 3 252 4 (aW Ih rZ []) rfl rfl (by decide)).trans (af [(1000000,1000000),(3,3),(999999,999999)] rfl rfl ⟨lr,lr,aj rfl rfl,lr,lr,trivial⟩ ⟨rr,rr,rr,trivial⟩))
 rintro⟨b,l,i⟩ ⟨⟨p1,p2,p3⟩,p4⟩;have p1:a≤b:=p1;have p2:b≤a+10*i:=p2;have p3:i≤3:=p3;have p4:dP bM i l:=p4;have hc3:MV.length=3:=rfl;have hl1:l.length≤i:=p4.1;have hkk:(i:Int)<3→(MV.getD (i:Int).toNat []).length≤8:=fun h=>bO (ao (by omega)) rfl
 rcases Nat.lt_or_ge i 3 with hi|hi
 · conv=>whnf
   repeat' (first|(refine dQ.of (Cf n L hL _ ?_ ?_ 3 ?_) [(1000000,1000000)] rfl ⟨lr,lr,trivial⟩ ⟨rr,trivial⟩ rfl rfl ?_;rotate_right;rintro x rout ⟨⟨w,rfl⟩,⟨c,c1,c2,rfl⟩⟩;refine⟨rfl,?_⟩;conv=>whnf)|(refine dQ.of (kD n L hL _ ?_ ?_ [0,50,75,200,1000] ?_ ?_) [(1000000,1000000)] rfl ⟨lr,aj rfl rfl,trivial⟩ ⟨rr,trivial⟩ rfl rfl ?_;rotate_right;rintro x rout ⟨⟨u1,hu1,rfl⟩,⟨c,c1,c2,rfl⟩⟩;refine⟨rfl,?_⟩;conv=>whnf)|(refine dQ.of (Cf n L hL _ ?_ ?_ 2 ?_) [(1000000,1000000)] rfl ⟨lr,lr,trivial⟩ ⟨rr,trivial⟩ rfl rfl ?_;rotate_right;rintro x rout ⟨⟨w2,rfl⟩,⟨c,c1,c2,rfl⟩⟩;refine⟨rfl,?_⟩;conv=>whnf)|((first|(refine aa ?_ ?_<;>intro hb<;>try simp only[az]at hb)|refine aq hT 18 l7 ?_|omega|refine aA ?_|decide|assumption)<;>conv=>whnf))
   all_goals try(exact h0)
   all_goals try omega
   · exact⟨(c,l,i+1),⟨⟨by omega,by show _≤a+10*((i+1:Nat):Int);omega,by omega⟩,dF p4 (by omega)⟩,by show 3 - (i+1)<3 - i;omega,(by exact be [(1000000,1000000),(3,3),(999999,999999)])⟩
   · have hk:=hkk (by omega);obtain⟨ky,hky⟩:∃ky,ky=MV.getD (i:Int).toNat []:=⟨_,rfl⟩;obtain⟨cc,hcc⟩:∃cc:Int,cc=c:=⟨_,rfl⟩;rw[←hky]at hk
     refine ah hT (C:= []) (ι:=Int×List Int×Nat) (fun(d,on,k)=>(cc≤d∧d≤cc+k∧k≤5)∧on.length≤k)
      (fun(d,on,k)=>aI [(0,.ptr 1000000 0),(3,.buf 3),(6,.ptr 6 0),(10,.d (eE MV)),(11,.d (.int .i64 3)),(12,.d (.int .i64 i)),(25,.d (gr [1,2,3,4,6])),(26,.d (.int .i64 5)),(27,.d (.int .i64 k))] [(1000000,bp n L d),(3,aL 252 4 Ih rZ l),(999999,.bunch 3 1 (bL l)),(6,.cells 252 [.d (.str ky),.d (.int .i64 u1),.buf 7,.d (.bool w2)]),(7,aL 3 1 iF 0 on)])
      (fun(_,_,k)=>5 - k) (cc,[],0) ⟨⟨by simp,by simp,by simp⟩,by simp⟩ ?_ ?_
     · subst hcc hky;refine(dg 6 7 3 1 2 (aW iF 0 []) rfl rfl rfl (by decide) rfl).trans (af [(1000000,1000000),(3,3),(999999,999999),(6,6),(7,7)] rfl rfl ⟨lr,lr,lr,lr,lr,lr,aj rfl rfl,lr,lr,trivial⟩ ⟨rr,rr,rr,?_,rr,trivial⟩);conv=>whnf
       refine⟨rfl,fun _ _ _ _ h=> ?_⟩;exact h
     rintro⟨d,on,k⟩ ⟨⟨q1,q2,q3⟩,q4⟩;have q1:cc≤d:=q1;have q2:d≤cc+k:=q2;have q3:k≤5:=q3;have q4:on.length≤k:=q4;conv=>whnf
     repeat' (first|(refine dQ.of (Cf n L hL _ ?_ ?_ 2 ?_) [(1000000,1000000)] rfl ⟨lr,lr,trivial⟩ ⟨rr,trivial⟩ rfl rfl ?_;rotate_right;rintro x rout ⟨⟨w3,rfl⟩,⟨c,c1,c2,rfl⟩⟩;refine⟨rfl,?_⟩;conv=>whnf)|(intro v;conv=>whnf)|((first|(refine aa ?_ ?_<;>intro hb<;>try simp only[az]at hb)|refine aq hT 18 l7 ?_|omega|refine aA ?_|decide|assumption)<;>conv=>whnf))
     all_goals try(exact h0)
     all_goals try omega
     · exact⟨(c,on++ [([1,2,3,4,6]:List Int).getD (k:Int).toNat 0],k+1),⟨⟨by omega,by show _≤cc+((k+1:Nat):Int);omega,by omega⟩,by show(on++_).length≤k+1;rw[List.length_append];simp;omega⟩,by show 5 - (k+1)<5 - k;omega,
        af [(1000000,1000000),(3,3),(999999,999999),(6,6),(7,37)] rfl rfl ⟨lr,lr,lr,lr,lr,lr,lr,lr,lr,trivial⟩ ⟨rr,rr,rr,rr,aG rfl,trivial⟩⟩
     · exact⟨(c,on,k+1),⟨⟨by omega,by show _≤cc+((k+1:Nat):Int);omega,by omega⟩,by show on.length≤k+1;omega⟩,by show 5 - (k+1)<5 - k;omega,(by exact be [(1000000,1000000),(3,3),(999999,999999),(6,6),(7,7)])⟩
     · exact⟨(d,l++ [⟨ky,u1,v,on,w2⟩],i+1),⟨⟨by omega,by show _≤a+10*((i+1:Nat):Int);omega,by omega⟩,e6 p4 (by omega) ⟨hk,by show on.length≤5;omega⟩⟩,by show 3 - (i+1)<3 - i;omega,
        af [(1000000,1000000),(3,43),(999999,999999)] rfl rfl ⟨lr,lr,lr,lr,lr,trivial⟩ ⟨rr,aG rfl,(by rw[Ik];exact rr),trivial⟩⟩
 · have hi3:i=3:=by omega
   subst hi3;have hsp:=fun(j:Int) (h1:0≤j) (h2:j<l.length)=>Hg l (j:=j.toNat) (by omega)
   have hon:∀j:Int,0≤j→j<l.length→(l.getD j.toNat rZ).on.length≤5:=fun j h1 h2=>(p4.2 _ (ao (by omega))).2
   have hB:∀t ∈ l,∃p ∈ bL l,p.1=t.v∧p.2.1=t.on.length∧∀i,i<p.2.1→p.2.2 i=aW iF 0 t.on i:=fun t ht=>⟨_,Lk ht,rfl,rfl,fun _ _=>rfl⟩
   conv=>whnf
   repeat' (first|(refine dQ.of (Cf n L hL _ ?_ ?_ 15 ?_) [(1000000,1000000)] rfl ⟨lr,lr,trivial⟩ ⟨rr,trivial⟩ rfl rfl ?_;rotate_right;rintro x rout ⟨⟨w,rfl⟩,⟨c,c1,c2,rfl⟩⟩;refine⟨rfl,?_⟩;conv=>whnf)|(refine dQ.of (EQ n L hL _ ?_ ?_ 3 ?_) [(1000000,1000000)] rfl ⟨lr,lr,trivial⟩ ⟨rr,trivial⟩ rfl rfl ?_;rotate_right;rintro x rout ⟨⟨m,hm1,hm2,hm3,rfl⟩,⟨c,c1,c2,rfl⟩⟩;refine⟨rfl,?_⟩;conv=>whnf)|(refine dQ.of (EQ n L hL _ ?_ ?_ _ ?_) [(1000000,1000000)] rfl ⟨lr,lr,trivial⟩ ⟨rr,trivial⟩ rfl rfl ?_;rotate_right;rintro x rout ⟨⟨j,hj1,hj2,hj3,rfl⟩,⟨c,c1,c2,rfl⟩⟩;refine⟨rfl,?_⟩;conv=>whnf)|(refine dQ.of (tp n L hL _ ?_ ?_ [[],[99,105,116,121],[65]] (by simp) (by simp)) [(1000000,1000000)] rfl ⟨lr,aj rfl rfl,trivial⟩ ⟨rr,trivial⟩ rfl rfl ?_;rotate_right;rintro x rout ⟨⟨v1,hv1,rfl⟩,⟨c,c1,c2,rfl⟩⟩;refine⟨rfl,?_⟩;conv=>whnf)|(refine dQ.of (oA n L hL _ ?_ ?_ 0 1000 ?_ ?_ ?_) [(1000000,1000000)] rfl ⟨lr,lr,lr,trivial⟩ ⟨rr,trivial⟩ rfl rfl ?_;rotate_right;rintro x rout ⟨⟨o1,ho1,ho2,rfl⟩,⟨c,c1,c2,rfl⟩⟩;refine⟨rfl,?_⟩;conv=>whnf)|(refine dQ.of (kD n L hL _ ?_ ?_ [0,5,6,7,1] ?_ ?_) [(1000000,1000000)] rfl ⟨lr,aj rfl rfl,trivial⟩ ⟨rr,trivial⟩ rfl rfl ?_;rotate_right;rintro x rout ⟨⟨u1,hu1,rfl⟩,⟨c,c1,c2,rfl⟩⟩;refine⟨rfl,?_⟩;conv=>whnf)|((first|(obtain⟨A,B,hAB,hset⟩:=hsp j hj1 (hj2 (by omega));refine⟨A,_,_,B,hAB,?_⟩)|(refine And.intro (by have:=hon j hj1 (hj2 (by omega));show((l.getD j.toNat rZ).on.length+1)*8≤140737488355328;omega) ?_))<;>conv=>whnf)|(intro v';conv=>whnf)|((first|(refine aa ?_ ?_<;>intro hb<;>try simp only[az]at hb)|refine aq hT 18 l7 ?_|omega|refine aA ?_|decide|assumption)<;>conv=>whnf))
   all_goals try(exact h0)
   all_goals try omega
   · have hw:v1.length≤8:=bO hv1 rfl;refine .ent _ _ (rV (q:=3) rfl rfl (me l j.toNat rZ fun y=>{y with key:=v1}) (by simp) (fun i hi=>fM (f:=Ih) (d:=rZ) (l:=l) (j:=j.toNat) (off:=0) (ds:= [.str v1]) (fun _ _=>rfl) (fun y:yE=>{y with key:=v1}) (fun _=>rfl) i (by simpa using hi)) (fun t ht=> ?_)) (.freeze _ 3 252 4 _ _ rfl (.weak _ ?_))
     · rcases List.mem_or_eq_of_mem_set ht with q|rfl
       · exact hB t q
       · exact hB (l.getD j.toNat rZ) (ao (by omega))
     conv=>whnf
     exact⟨.d (ij ((me l j.toNat rZ fun y=>{y with key:=v1}).map bT)),[(1000000,bp n L _)],bZ (by simp) (fun _ _=>rfl),⟨⟨_,pN (by simpa using p4.1) (fun t ht=>by
      rcases List.mem_or_eq_of_mem_set ht with q|rfl
      · exact⟨(p4.2 t q).1,Nat.le_trans (p4.2 t q).2 (by decide)⟩
      · exact⟨hw,Nat.le_trans (p4.2 _ (ao (by omega))).2 (by decide)⟩),rfl⟩,_,by omega,by omega,rfl⟩,rr,trivial⟩
   · refine .ent _ _ (rV (q:=3) rfl rfl (me l j.toNat rZ fun y=>{y with per:=o1}) (by simp) (fun i hi=>fM (f:=Ih) (d:=rZ) (l:=l) (j:=j.toNat) (off:=1) (ds:= [.int .i64 o1]) (fun _ _=>rfl) (fun y:yE=>{y with per:=o1}) (fun _=>rfl) i (by simpa using hi)) (fun t ht=> ?_)) (.freeze _ 3 252 4 _ _ rfl (.weak _ ?_))
     · rcases List.mem_or_eq_of_mem_set ht with q|rfl
       · exact hB t q
       · exact hB (l.getD j.toNat rZ) (ao (by omega))
     conv=>whnf
     exact⟨.d (ij ((me l j.toNat rZ fun y=>{y with per:=o1}).map bT)),[(1000000,bp n L _)],bZ (by simp) (fun _ _=>rfl),⟨⟨_,pN (by simpa using p4.1) (fun t ht=>by
      rcases List.mem_or_eq_of_mem_set ht with q|rfl
      · exact⟨(p4.2 t q).1,Nat.le_trans (p4.2 t q).2 (by decide)⟩
      · exact⟨(p4.2 _ (ao (by omega))).1,Nat.le_trans (p4.2 _ (ao (by omega))).2 (by decide)⟩),rfl⟩,_,by omega,by omega,rfl⟩,rr,trivial⟩
   · have hon:=hon j hj1 (hj2 (by omega));refine .ent _ _ (rV (q:=3) rfl rfl (me l j.toNat rZ fun y=>{y with v:=v',on:=y.on++ [u1]}) (by simp) (fun i hi=>fM (f:=Ih) (d:=rZ) (l:=l) (j:=j.toNat) (off:=2) (ds:= [.opq v']) (fun _ _=>rfl) (fun y:yE=>{y with v:=v',on:=y.on++ [u1]}) (fun _=>rfl) i (by simpa using hi)) (fun t ht=> ?_)) (.freeze _ 3 252 4 _ _ rfl (.weak _ ?_))
     · rcases hset _ t ht with rfl|q
       · exact⟨_,List.mem_cons_self,rfl,by simp,fun i hi=>kX (f:=iF) (d:=0) (l:=(l.getD j.toNat rZ).on) (x:=u1) (h:=fun i=> [[DV.int .i64 u1]].getD i []) rfl i hi⟩
       · exact⟨_,List.mem_cons_of_mem _ q,rfl,rfl,fun _ _=>rfl⟩
     conv=>whnf
     exact⟨.d (ij ((me l j.toNat rZ fun y=>{y with v:=v',on:=y.on++ [u1]}).map bT)),[(1000000,bp n L _)],bZ (by simp) (fun _ _=>rfl),⟨⟨_,pN (by simpa using p4.1) (fun t ht=>by
      rcases List.mem_or_eq_of_mem_set ht with q|rfl
      · exact⟨(p4.2 t q).1,Nat.le_trans (p4.2 t q).2 (by decide)⟩
      · exact⟨(p4.2 _ (ao (by omega))).1,by show(_++ [u1]).length≤8;rw[List.length_append,List.length_singleton];omega⟩),rfl⟩,_,by omega,by omega,rfl⟩,rr,trivial⟩
   all_goals
    refine .ent _ _ (rV (q:=3) rfl rfl l rfl (fun _ _=>rfl) hB) (.freeze _ 3 252 4 _ _ rfl (.weak _ ?_));conv=>whnf
    exact⟨.d (ij (l.map bT)),[(1000000,bp n L _)],bZ (by simp) (fun _ _=>rfl),⟨⟨_,pN p4.1 (fun t q=>⟨(p4.2 t q).1,Nat.le_trans (p4.2 t q).2 (by decide)⟩),rfl⟩,_,by omega,by omega,rfl⟩,rr,trivial⟩
def dea (d:uk):SV:=.agg ((wY d).map .d)
def A9 (d:uk):Prop:=(0≤d.km∧d.km≤30)∧(0≤d.eig∧d.eig≤1000)∧0≤d.dy∧d.dy≤9000
theorem CP {a b c e u2 u3 u6:Int}(h2:u2 ∈ ([0,2,30]:List Int))(h3:u3 ∈ ([0,300,1000]:List Int))(h6:u6 ∈ ([0,4000,5000,9000]:List Int)):A9 ⟨a,u2,u3,b,c,u6,e⟩:=by
 simp only[List.mem_cons,List.not_mem_nil,or_false]at h2 h3 h6;refine⟨?_,?_,?_⟩<;>(dsimp only;omega)
set_option maxHeartbeats 4000000 in
theorem Oe (n:Nat)(L:Nat→Int)(hL:sJ n L)(a:Int)(h0:0≤a)(ha:a≤2^37):
 ai Tryz.prog 77 [.ptr 1000000 0] [(1000000,bp n L a)] (fun y r=>(∃d:uk,A9 d∧y=dea d)∧gZ n L a 20 r):=by
 refine ae hT (C:= []) Tryz.func77 rfl Tryz.call77 rfl rfl rfl ?_;conv=>whnf
 repeat' (first|(refine dQ.of (kD n L hL _ ?_ ?_ [0,100,200,10000] ?_ ?_) [(1000000,1000000)] rfl ⟨lr,aj rfl rfl,trivial⟩ ⟨rr,trivial⟩ rfl rfl ?_;rotate_right;rintro x rout ⟨⟨u1,hu1,rfl⟩,⟨c,c1,c2,rfl⟩⟩;refine⟨rfl,?_⟩;conv=>whnf)|(refine dQ.of (kD n L hL _ ?_ ?_ [0,2,30] ?_ ?_) [(1000000,1000000)] rfl ⟨lr,aj rfl rfl,trivial⟩ ⟨rr,trivial⟩ rfl rfl ?_;rotate_right;rintro x rout ⟨⟨u2,hu2,rfl⟩,⟨c,c1,c2,rfl⟩⟩;refine⟨rfl,?_⟩;conv=>whnf)|(refine dQ.of (kD n L hL _ ?_ ?_ [0,300,1000] ?_ ?_) [(1000000,1000000)] rfl ⟨lr,aj rfl rfl,trivial⟩ ⟨rr,trivial⟩ rfl rfl ?_;rotate_right;rintro x rout ⟨⟨u3,hu3,rfl⟩,⟨c,c1,c2,rfl⟩⟩;refine⟨rfl,?_⟩;conv=>whnf)|(refine dQ.of (kD n L hL _ ?_ ?_ [0,29,30,59,60] ?_ ?_) [(1000000,1000000)] rfl ⟨lr,aj rfl rfl,trivial⟩ ⟨rr,trivial⟩ rfl rfl ?_;rotate_right;rintro x rout ⟨⟨u4,hu4,rfl⟩,⟨c,c1,c2,rfl⟩⟩;refine⟨rfl,?_⟩;conv=>whnf)|(refine dQ.of (kD n L hL _ ?_ ?_ [0,500,1000,2000] ?_ ?_) [(1000000,1000000)] rfl ⟨lr,aj rfl rfl,trivial⟩ ⟨rr,trivial⟩ rfl rfl ?_;rotate_right;rintro x rout ⟨⟨u5,hu5,rfl⟩,⟨c,c1,c2,rfl⟩⟩;refine⟨rfl,?_⟩;conv=>whnf)|(refine dQ.of (kD n L hL _ ?_ ?_ [0,4000,5000,9000] ?_ ?_) [(1000000,1000000)] rfl ⟨lr,aj rfl rfl,trivial⟩ ⟨rr,trivial⟩ rfl rfl ?_;rotate_right;rintro x rout ⟨⟨u6,hu6,rfl⟩,⟨c,c1,c2,rfl⟩⟩;refine⟨rfl,?_⟩;conv=>whnf)|(refine dQ.of (kD n L hL _ ?_ ?_ [0,10000,1000000] ?_ ?_) [(1000000,1000000)] rfl ⟨lr,aj rfl rfl,trivial⟩ ⟨rr,trivial⟩ rfl rfl ?_;rotate_right;rintro x rout ⟨⟨u7,hu7,rfl⟩,⟨c,c1,c2,rfl⟩⟩;refine⟨rfl,?_⟩;conv=>whnf)|(refine dQ.of (Cf n L hL _ ?_ ?_ 15 ?_) [(1000000,1000000)] rfl ⟨lr,lr,trivial⟩ ⟨rr,trivial⟩ rfl rfl ?_;rotate_right;rintro x rout ⟨⟨w,rfl⟩,⟨c,c1,c2,rfl⟩⟩;refine⟨rfl,?_⟩;conv=>whnf)|(refine dQ.of (oA n L hL _ ?_ ?_ 0 10000 ?_ ?_ ?_) [(1000000,1000000)] rfl ⟨lr,lr,lr,trivial⟩ ⟨rr,trivial⟩ rfl rfl ?_;rotate_right;rintro x rout ⟨⟨o1,ho1,ho2,rfl⟩,⟨c,c1,c2,rfl⟩⟩;refine⟨rfl,?_⟩;conv=>whnf)|(refine dQ.of (oA n L hL _ ?_ ?_ 0 1440 ?_ ?_ ?_) [(1000000,1000000)] rfl ⟨lr,lr,lr,trivial⟩ ⟨rr,trivial⟩ rfl rfl ?_;rotate_right;rintro x rout ⟨⟨o2,ho3,ho4,rfl⟩,⟨c,c1,c2,rfl⟩⟩;refine⟨rfl,?_⟩;conv=>whnf)|(refine dQ.of (oA n L hL _ ?_ ?_ 0 1000000 ?_ ?_ ?_) [(1000000,1000000)] rfl ⟨lr,lr,lr,trivial⟩ ⟨rr,trivial⟩ rfl rfl ?_;rotate_right;rintro x rout ⟨⟨o3,ho5,ho6,rfl⟩,⟨c,c1,c2,rfl⟩⟩;refine⟨rfl,?_⟩;conv=>whnf)|(refine dQ.of (oA n L hL _ ?_ ?_ 0 1000000 ?_ ?_ ?_) [(1000000,1000000)] rfl ⟨lr,lr,lr,trivial⟩ ⟨rr,trivial⟩ rfl rfl ?_;rotate_right;rintro x rout ⟨⟨o4,ho7,ho8,rfl⟩,⟨c,c1,c2,rfl⟩⟩;refine⟨rfl,?_⟩;conv=>whnf)|((first|(refine aa ?_ ?_<;>intro hb<;>try simp only[az]at hb)|omega|refine aA ?_|decide|assumption)<;>conv=>whnf))
 all_goals try(exact h0)
 all_goals try omega
 all_goals refine .ret _ ?_
 all_goals conv=>whnf
 · exact⟨[(1000000,bp n L _)],⟨⟨⟨_,_,_,_,_,_,_⟩,CP hu2 hu3 hu6,rfl⟩,_,by omega,by omega,rfl⟩,rr,trivial⟩
 · exact⟨[(1000000,bp n L _)],⟨⟨⟨_,_,_,_,_,_,_⟩,CP hu2 hu3 hu6,rfl⟩,_,by omega,by omega,rfl⟩,rr,trivial⟩
def KP:uk:=⟨0,0,0,0,0,0,0⟩
set_option maxHeartbeats 4000000 in
theorem Lh (n:Nat)(L:Nat→Int)(hL:sJ n L)(a:Int)(h0:0≤a)(ha:a≤2^36):
 ai Tryz.prog 29 [.ptr 1000000 0] [(1000000,bp n L a)] (fun y r=>(∃d:uk,(rN d=0∧A9 d)∧y=dea d)∧gZ n L a 160 r):=by
 refine ae hT (C:= []) Tryz.func29 rfl Tryz.call29 rfl rfl rfl ?_;conv=>whnf
 refine ah hT (C:= []) (ι:=Int×Nat) (fun(b,i)=>a≤b∧b≤a+20*i∧i≤8)
  (fun(b,i)=>aI [(0,.ptr 1000000 0),(2,.ptr 2 0),(4,.d (.int .i64 i))] [(1000000,bp n L b),(2,.cells 40 ((wY KP).map .d))])
  (fun(_,i)=>8 - i) (a,0) ⟨by simp,by simp,by simp⟩ (by exact be [(1000000,1000000),(2,2)]) ?_
 rintro⟨b,i⟩ ⟨p1,p2,p3⟩;have p1:a≤b:=p1;have p2:b≤a+20*i:=p2;have p3:i≤8:=p3;conv=>whnf
 repeat' (first|(refine dQ.of (Oe n L hL _ ?_ ?_) [(1000000,1000000)] rfl ⟨lr,trivial⟩ ⟨rr,trivial⟩ rfl rfl ?_;rotate_right;rintro x rout ⟨⟨d,hds,rfl⟩,⟨c,c1,c2,rfl⟩⟩;refine⟨rfl,?_⟩;conv=>whnf)|((first|refine aw (Q5 _) ⟨lr,trivial⟩ rfl ?_|(refine aa ?_ ?_<;>intro hb<;>try simp only[az]at hb)|omega|refine aA ?_|decide|assumption)<;>conv=>whnf))
 all_goals try omega
 · refine .ret _ ?_;conv=>whnf
   exact⟨[(1000000,bp n L _)],⟨⟨d,⟨by simpa using hb,hds⟩,rfl⟩,_,by omega,by omega,rfl⟩,rr,trivial⟩
 · exact⟨(c,i+1),⟨by omega,by show _≤a+20*((i+1:Nat):Int);omega,by omega⟩,by show 8 - (i+1)<8 - i;omega,(by exact be [(1000000,1000000),(2,2)])⟩
 · refine .ret _ ?_;conv=>whnf
   exact⟨[(1000000,bp n L _)],⟨⟨KP,⟨by decide,⟨by decide,by decide⟩,⟨by decide,by decide⟩,by decide,by decide⟩,rfl⟩,_,by omega,by omega,rfl⟩,rr,trivial⟩
structure I4 (t:rG):Prop where
 rat:dP rz 10 t.rat
 ext:dP MT 2 t.ext
 fe:dP Nz 5 t.fe
 cod:dP IM 3 t.cod
 tax:dP Lu 3 t.tax
theorem I4.ok {t:rG}(h:I4 t):zu t:=
 ⟨⟨Nat.le_trans h.rat.1 (by decide),fun x hx=>Nat.le_trans (h.rat.2 x hx) (by decide)⟩,⟨Nat.le_trans h.ext.1 (by decide),fun x hx=>Nat.le_trans (h.ext.2 x hx) (by decide)⟩,
   ⟨Nat.le_trans h.fe.1 (by decide),fun x hx=>⟨Nat.le_trans (h.fe.2 x hx).1 (by decide),Nat.le_trans (h.fe.2 x hx).2 (by decide)⟩⟩,
   ⟨Nat.le_trans h.cod.1 (by decide),fun x hx=>⟨Nat.le_trans (h.cod.2 x hx).1 (by decide),Nat.le_trans (h.cod.2 x hx).2 (by decide)⟩⟩,
   ⟨Nat.le_trans h.tax.1 (by decide),fun x hx=>⟨Nat.le_trans (h.tax.2 x hx).1 (by decide),Nat.le_trans (h.tax.2 x hx).2 (by decide)⟩⟩⟩
def tar (t:rG):SV:=.agg (uJ t)
set_option maxHeartbeats 4000000 in
theorem Io (n:Nat)(L:Nat→Int)(hL:sJ n L)(a:Int)(h0:0≤a)(ha:a≤2^34):
 ai Tryz.prog 74 [.ptr 1000000 0] [(1000000,bp n L a)] (fun y r=>(∃t:rG,I4 t∧y=tar t)∧gZ n L a 250 r):=by
 refine ae hT (C:= []) Tryz.func74 rfl Tryz.call74 rfl rfl rfl ?_;conv=>whnf
 repeat' (first|(refine dQ.of (L6 n L hL _ ?_ ?_) [(1000000,1000000)] rfl ⟨lr,trivial⟩ ⟨rr,trivial⟩ rfl rfl ?_;rotate_right;rintro x rout ⟨⟨t1,ht1,rfl⟩,⟨c,c1,c2,rfl⟩⟩;refine⟨rfl,?_⟩;conv=>whnf)|(refine dQ.of (JH n L hL _ ?_ ?_) [(1000000,1000000)] rfl ⟨lr,trivial⟩ ⟨rr,trivial⟩ rfl rfl ?_;rotate_right;rintro x rout ⟨⟨t2,ht2,rfl⟩,⟨c,c1,c2,rfl⟩⟩;refine⟨rfl,?_⟩;conv=>whnf)|(refine dQ.of (NZ n L hL _ ?_ ?_) [(1000000,1000000)] rfl ⟨lr,trivial⟩ ⟨rr,trivial⟩ rfl rfl ?_;rotate_right;rintro x rout ⟨⟨t3,ht3,rfl⟩,⟨c,c1,c2,rfl⟩⟩;refine⟨rfl,?_⟩;conv=>whnf)|(refine dQ.of (Ly n L hL _ ?_ ?_) [(1000000,1000000)] rfl ⟨lr,trivial⟩ ⟨rr,trivial⟩ rfl rfl ?_;rotate_right;rintro x rout ⟨⟨t4,ht4,rfl⟩,⟨c,c1,c2,rfl⟩⟩;refine⟨rfl,?_⟩;conv=>whnf)|(refine dQ.of (Mt n L hL _ ?_ ?_) [(1000000,1000000)] rfl ⟨lr,trivial⟩ ⟨rr,trivial⟩ rfl rfl ?_;rotate_right;rintro x rout ⟨⟨t5,ht5,rfl⟩,⟨c,c1,c2,rfl⟩⟩;refine⟨rfl,?_⟩;conv=>whnf)|((first|(refine aa ?_ ?_<;>intro hb<;>try simp only[az]at hb)|omega|refine aA ?_|decide|assumption)<;>conv=>whnf))
 all_goals try omega
 refine .ret _ ?_;conv=>whnf
 exact⟨[(1000000,bp n L _)],⟨⟨⟨t1,t2,t3,t4,t5⟩,⟨ht1,ht2,ht3,ht4,ht5⟩,rfl⟩,_,by omega,by omega,rfl⟩,rr,trivial⟩
structure Kz (h:eH):Prop where
 flt:NH h.flt
 tar:I4 h.tar
theorem Kz.ok {h:eH}(k:Kz h):EX h:=⟨k.flt.ok,k.tar.ok⟩
def nF:List wR:= [⟨[115,49],fun _=>0⟩,⟨[115,50],fun _=>0⟩]
def Cq:List (List UInt8):= [[118,49],[118,50],[118,51]]
end Go.Proofs.YtkokpbpililcdaaGreatDoor
namespace Go.Eng
open Go
variable {A:nG} {G:Hp} {β:eZ} {s:St} {t:Array Value} {w:World}
theorem xd.ent {P:Program}{id:Nat}{ops:Array Oper}{k:St→Prop}{s s':St}(he:dc s s')(h:xd P id ops k s'):xd P id ops k s:=
 ⟨fun A a w hN hm=>h.wp A a w hN (he.imp A a w hm)⟩
theorem MG.counted (h:MG A G β s t w){d:Nat}{ag va:Bool}{ks:List KK}{zr:List DV}{has:List DV→Bool}{val:List DV→List DV}(hd:s.res d=some (.map ag va ks zr has val)):
 ∃clock kb,KB ks has clock kb∧MG A G β (s.app ⟨none,.any,[(d,some (.mapB ag va ks zr has val clock kb))],[]⟩) t w:=by
 obtain⟨r,es,clock,l,hb,hh,hl,hw,hI,hf⟩:=h.rs _ _ hd;exact⟨clock,_,xX hl hw hI hf,h.change (d:=d) (r':=.mapB ag va ks zr has val clock ((l.map (·.1)).zip (es.toList.map (·.born)))) (v:=.map (some r)) (w':=w) hd rfl rfl hb rfl rfl rfl rfl (fun _ _=>rfl) ⟨r,es,l,hb,hh,hl,hw,hI,rfl,hf⟩⟩
theorem oP {P:Program}{id:Nat}{ops:Array Oper}{k:St→Prop}{s:St}(d:Nat){ag va:Bool}{ks:List KK}{zr:List DV}{has:List DV→Bool}{val:List DV→List DV}(hd:s.res d=some (.map ag va ks zr has val))
 (h:∀clock kb,KB ks has clock kb→xd P id ops k (s.app ⟨none,.any,[(d,some (.mapB ag va ks zr has val clock kb))],[]⟩)):xd P id ops k s:=by
 refine⟨fun A a w hN=> ?_⟩;rintro⟨h0,G,β,hm⟩;obtain⟨clock,kb,hk,hm'⟩:=hm.counted hd;exact(h clock kb hk).wp A a w hN ⟨h0,G,β,hm'⟩
theorem dc.unc {s:St}(d:Nat){ag va:Bool}{ks:List KK}{zr:List DV}{has:List DV→Bool}{val:List DV→List DV}{clock:Nat}{kb:List (List DV×Nat)}(hd:s.res d=some (.mapB ag va ks zr has val clock kb)):
 dc s (s.app ⟨none,.any,[(d,some (.map ag va ks zr has val))],[]⟩):=by
 refine⟨fun A a w=> ?_⟩;rintro⟨h0,G,β,h⟩;obtain⟨r,es,l,hb,hh,hl,hw,hI,hkb,hf⟩:=h.rs _ _ hd;exact⟨h0,G,β,h.change (d:=d) (r':=.map ag va ks zr has val) (v:=.map (some r)) (w':=w) hd rfl rfl hb rfl rfl rfl rfl (fun _ _=>rfl) ⟨r,es,clock,l,hb,hh,hl,hw,hI,hf⟩⟩
theorem xd.unc {P:Program}{id:Nat}{ops:Array Oper}{k:St→Prop}{s:St}(d:Nat){ag va:Bool}{ks:List KK}{zr:List DV}{has:List DV→Bool}{val:List DV→List DV}{clock:Nat}{kb:List (List DV×Nat)}(hd:s.res d=some (.mapB ag va ks zr has val clock kb))
 (h:xd P id ops k (s.app ⟨none,.any,[(d,some (.map ag va ks zr has val))],[]⟩)):xd P id ops k s:=.ent (.unc d hd) h
theorem pL {α:Type}:∀ (l L:List α),l.Nodup→(∀x ∈ l,x ∈ L)→l.length≤L.length:=by
 intro l
 induction l with
 |nil=>intro L _ _;simp
 | cons x l ih=>
   intro L hn hL;obtain⟨A,B,rfl⟩:=List.append_of_mem (hL x (by simp));rw[List.nodup_cons]at hn
   have:=ih (A++B) hn.2 (fun y hy=>by
    have h1:=hL y (by simp[hy]);rw[List.mem_append,List.mem_cons]at h1;rcases h1 with q|q|q
    · exact List.mem_append_left _ q
    · subst q;exact absurd hy hn.1
    · exact List.mem_append_right _ q)
   simp at this ⊢;omega
theorem KB.le {ks:List KK}{has:List DV→Bool}{clock:Nat}{kb:List (List DV×Nat)}(h:KB ks has clock kb):∀ (L:List (List DV)),(∀key,wk ks key=true→has key=true→key ∈ L)→kb.length≤L.length:=by
 intro L hL
 have hs:∀x ∈ kb.map (·.1),x ∈ L:=fun x hx=>by
  obtain⟨p,hp,rfl⟩:=List.mem_map.1 hx;exact hL _ (h.kw p hp) ((h.kh _ (h.kw p hp)).2 ⟨p.2,hp⟩)
 have hn:(kb.map (·.1)).Nodup:=by
  have hw:∀x ∈ kb.map (·.1),wk ks x=true:=fun x hx=>by
   obtain⟨p,hp,rfl⟩:=List.mem_map.1 hx;exact h.kw p hp
  refine List.Pairwise.imp_of_mem (fun{a b} ha _ hab=> ?_) h.kd;rintro rfl;rw[bH (hw a ha)]at hab;cases hab
 have:=pL _ _ hn hs;simpa using this
theorem lC {s:St}(c d j:Nat){ce:TypeId}{l:List SV}{k n:Nat}{g:Nat→List DV}(hc:s.res c=some (.cells ce l))(hj:l[j]? =some (.buf d))(hd:s.res d=some (.fro k n g)):
 dc s (s.app ⟨none,.any,[(c,some (.cells ce (l.set j (.d (.ro k n g)))))],[]⟩):=by
 refine⟨fun A a w=> ?_⟩;rintro⟨h0,G,β,h⟩;obtain⟨b,vs,hb,hh,hl,hv⟩:=h.rs _ _ hc;obtain⟨v,hv1,hv2⟩:=h.rs _ _ hd;refine⟨h0,G,β,h.change (d:=c) (r':=.cells ce (l.set j (.d (.ro k n g)))) (v:=.pointer (some ⟨b,0,none⟩)) (w':=w) hc rfl rfl hb rfl rfl rfl rfl (fun _ _=>rfl) ⟨b,vs,hb,hh,by simpa using hl,fun i x u hx hu=> ?_⟩⟩
 by_cases q:i=j
 · subst q;have hlt:i<l.length:=(List.getElem?_eq_some_iff.1 hj).1;rw[List.getElem?_set_self hlt]at hx;cases hx;have:=hv i _ u hj hu
   cases this with|buf _ _ hb2 _=>
   rw[hv1]at hb2;cases hb2;exact .d _ _ hv2
 · rw[List.getElem?_set_ne (fun e=>q e.symm)]at hx;exact hv i x u hx hu
end Go.Eng
set_option maxRecDepth 20000
namespace Go.Proofs.YtkokpbpililcdaaGreatDoor
open Go Go.Eng
def At:OL:= [(0,[]),(1,[]),(2,[0,1]),(3,[]),(4,[])]
def Bx:OL:= [(0,[]),(1,[]),(2,[]),(3,[0,1,2]),(4,[])]
def zY:OL:= [(0,[]),(1,[]),(2,[]),(3,[0,1,2]),(4,[])]
def zM:OL:= [(0,[]),(1,[]),(2,[0,1]),(3,[0,1,2]),(4,[2]),(5,[])]
def B9:OL:= [(0,[]),(1,[]),(2,[]),(3,[]),(4,rg 4),(5,rg 4),(6,[]),(7,rg 7),(12,rg 8),(8,[12]),(9,[12]),(10,[12]),(11,[12,10]),(13,[11]),(14,[])]
def Aj:OL:= [(0,[]),(1,[]),(2,[]),(3,[]),(4,rg 4),(5,rg 4),(6,rg 6),(7,rg 6),(8,rg 4),(9,[]),(11,rg 10),(12,rg 10),(10,[11,12]),(13,[]),(14,[]),(15,[]),(16,[])]
def BH:OL:= [(0,[]),(1,[]),(2,[]),(3,[]),(4,rg 4),(5,rg 4),(6,rg 6),(7,rg 6),(8,rg 6),(9,rg 6),(10,rg 10),(11,rg 10),(12,rg 6),(13,rg 13),(14,rg 6),(15,rg 6),(16,rg 6),(17,[0,1,2,3,4,5,16]),(18,[17])]
def A3:OL:= [(0,[]),(1,[]),(2,[]),(3,[]),(4,rg 4),(5,rg 4),(6,rg 6),(7,rg 6),(8,rg 4),(9,[])]
def BT:OL:= [(0,[]),(1,[0]),(2,[0]),(3,[0]),(4,[0]),(5,rg 5),(6,rg 5),(7,[0]),(8,[]),(9,[]),(10,[])]
structure Mp (α:Type) where
 has:List UInt8→Bool
 val:List UInt8→α
def Mp.put {α:Type}(m:Mp α)(x:List UInt8)(v:α):Mp α:=⟨fun s=>decide (s=x)||m.has s,fun s=>if s=x then v else m.val s⟩
def Mp.del {α:Type}(m:Mp α)(x:List UInt8)(z:α):Mp α:=⟨fun s=> !decide (s=x)&&m.has s,fun s=>if s=x then z else m.val s⟩
def Mp.nil {α:Type}(z:α):Mp α:=⟨fun _=>false,fun _=>z⟩
abbrev eY {α:Type}(va:Bool)(z:List DV)(f:α→List DV)(m:Mp α):aY:=.map false va [.str] z (fun K=>m.has (cf K)) (fun K=>f (m.val (cf K)))
theorem mY (s x:List UInt8):ay [.str s] [.str x]=decide (s=x):=by
 rw[Bool.eq_iff_iff];simp[ay,df]
theorem fq {α:Type}{va:Bool}{z:List DV}{f:α→List DV}{m:Mp α}{x:List UInt8}{v:α}:
 aY.le (.map false va [.str] z (fun q=>ay q [.str x]||m.has (cf q)) (fun q=>bif ay q [.str x]then f v else f (m.val (cf q)))) (eY va z f (m.put x v)):=bC fun K hK=>by
 obtain⟨s,rfl⟩:=gg hK;rw[mY];refine⟨rfl,?_⟩;show(bif decide (s=x)then f v else f (m.val s))=f (if s=x then v else m.val s)
 by_cases q:s=x<;>simp[q]
theorem wP {α:Type}{va:Bool}{z:α}{f:α→List DV}{m:Mp α}{x:List UInt8}:
 aY.le (.map false va [.str] (f z) (fun q=> !ay q [.str x]&&m.has (cf q)) (fun q=>bif ay q [.str x]then f z else f (m.val (cf q)))) (eY va (f z) f (m.del x z)):=bC fun K hK=>by
 obtain⟨s,rfl⟩:=gg hK;rw[mY];refine⟨rfl,?_⟩;show(bif decide (s=x)then f z else f (m.val s))=f (if s=x then z else m.val s)
 by_cases q:s=x<;>simp[q]
structure Ca where
 key:List UInt8
 cls:List UInt8
 frm:Int
 to:Int
 made:Int
 pct:Int
def lS:Ca→List DV:=fun b=> [.str b.key,.str b.cls,.int .i64 b.frm,.int .i64 b.to,.int .i64 b.made,.int .i64 b.pct]
def lO:Ca:=⟨[],[],0,0,0,0⟩
abbrev D1 (l:List Ca):DV:=dC 6 lS lO l
structure cJ where
 tm:Int
 veh:List UInt8
 st:List UInt8
 kind:Int
 to:List UInt8
def iy:cJ→List DV:=fun x=> [.int .i64 x.tm,.str x.veh,.str x.st,.int .i64 x.kind,.str x.to]
def dn:cJ:=⟨0,[],[],0,[]⟩
abbrev xh (l:List cJ):DV:=dC 5 iy dn l
abbrev HE (l:List cJ):aY:=aL 242 5 iy dn l
structure EW where
 k:Int
 st:List UInt8
 sin:Int
def kE:EW→List DV:=fun s=> [.int .i64 s.k,.str s.st,.int .i64 s.sin]
def oM:EW:=⟨0,[],0⟩
structure B7 where
 ent:Int
 why:Int
def Q1:B7→List DV:=fun r=> [.int .i64 r.ent,.int .i64 r.why]
def QW:B7:=⟨0,0⟩
abbrev JN (l:List B7):aY:=aL 239 2 Q1 QW l
def gv (s:EW)(x:cJ):Bool:=
 if x.kind=1 then decide (s.k=0)else if x.kind=2 then decide (s.k=1)&&decide (s.st=x.st)else if x.kind=3 then decide (s.k=2)
 else if x.kind=4 then decide (s.k=1)&&decide (s.st=x.st)else if x.kind=5 then decide (s.k=3)&&decide (s.st=x.st)
 else if x.kind=6 then decide (s.k=1)&&decide (s.st=x.st)else if x.kind=7 then decide (s.k=4)&&decide (s.st=x.st)
 else if x.kind=8 then decide (s.k=1)&&decide (s.st=x.st)else false
def lQ (s:EW)(x:cJ):EW:=
 if gv s x then(if x.kind=2 then⟨2,[],x.tm⟩else if x.kind=4 then⟨3,x.st,x.tm⟩else if x.kind=6 then⟨4,x.to,x.tm⟩else if x.kind=8 then⟨5,[],x.tm⟩else⟨1,x.st,x.tm⟩)else s
def Rf:Option di→DV
 |some h=>legs h.legs
 |none=>.nilsl
def eK (o:Option di):List DV:= [.str (o.elim [] (·.key)),.str (o.elim [] (·.drv)),.int .i64 (o.elim 0 (·.frm)),.int .i64 (o.elim 0 (·.to)),Rf o]
theorem dW {va:Bool}{row row':List DV}{k:SV→Prop}(h:row=row')(hk:mC va row' k):mC va row k:=by rw[h];exact hk
structure dw where
 sts:Mp EW
 log:List cJ
 ats:List UInt8→Int→Bool
 bks:Mp Ca
 his:Mp (Option di)
 paid:Mp Int
 ref:List B7
def pT:List UInt8→List DV:=fun s=> [.str s]
def ED:Int→List DV:=fun n=> [.int .i64 n]
def HH:Bool→List DV:=fun b=> [.bool b]
def atH (a:List UInt8→Int→Bool):List DV→Bool
 | [.str v,.int .i64 t]=>a v t
 |_=>false
abbrev GB (a:List UInt8→Int→Bool):aY:=.map true false [.str,.int .i64] [.bool false] (atH a) (fun K=> [.bool (atH a K)])
def CT (a:List UInt8→Int→Bool)(v:List UInt8)(t:Int):List UInt8→Int→Bool:=fun w u=>(decide (w=v)&&decide (u=t))||a w u
theorem Jf {a:List UInt8→Int→Bool}{v:List UInt8}{t:Int}:
 aY.le (.map true false [.str,.int .i64] [.bool false] (fun q=>ay q [.str v,.int .i64 t]||atH a q) (fun q=>bif ay q [.str v,.int .i64 t]then [.bool true]else [.bool (atH a q)])) (GB (CT a v t)):=bC fun K hK=>by
 obtain⟨s,n,rfl⟩:=CL hK
 have e:ay [.str s,.int .i64 n] [.str v,.int .i64 t]=(decide (s=v)&&decide (n=t)):=by
  rw[Bool.eq_iff_iff];simp[ay,df]
 rw[e];refine⟨rfl,?_⟩;show(bif decide (s=v)&&decide (n=t)then [DV.bool true]else [.bool (a s n)])= [.bool ((decide (s=v)&&decide (n=t))||a s n)];cases (decide (s=v)&&decide (n=t))<;>rfl
abbrev Be (h:eH):List SV:=Na h.flt++uJ h.tar++(wY h.dea).map .d
abbrev Mb (h:eH):aY:=.cells 120 (Be h++ [.mp 1000002,.mp 1000003,.mp 1000004,.buf 1000005,.mp 1000006,.mp 1000007,.mp 1000008,.mp 1000010,.buf 1000011])
abbrev jf (h:eH)(vm:Mp (List UInt8))(sm:Mp Bool)(s:dw):List (Nat×aY):=
 [(1000001,Mb h),(1000002,eY false [.str []] pT vm),(1000003,eY false [.bool false] HH sm),(1000004,eY true (kE oM) kE s.sts),(1000005,HE s.log),(1000006,GB s.ats),(1000007,eY true (lS lO) lS s.bks),(1000008,eY true (eK none) eK s.his),(1000010,eY false [.int .i64 0] ED s.paid),(1000011,JN s.ref)]
set_option maxHeartbeats 2000000 in
theorem LZ (s:EW)(x:cJ):ai Tryz.prog 285 [.agg ((kE s).map .d),.agg ((iy x).map .d)] [] (fun y r=>y= .tup [.agg ((kE (lQ s x)).map .d),.d (.bool (gv s x))]∧r= []):=by
 refine ae hT (C:= []) Tryz.func285 rfl Tryz.call285 rfl rfl rfl ?_;conv=>whnf
 repeat' (first|((first|(refine aa ?_ ?_<;>intro hb<;>try simp only[az]at hb)|refine aq hT 3 At ?_|refine aq hT 6 Bx ?_|refine aq hT 10 zY ?_|refine aq hT 16 zM ?_|omega|refine aA ?_|decide|assumption)<;>conv=>whnf))
 all_goals
  refine .ret _ ?_;conv=>whnf
  refine⟨[],⟨congrArg SV.tup ?_,rfl⟩,trivial⟩;repeat' (refine aN ?_ ?_)
  all_goals (conv=>lhs;whnf)
  all_goals try(with_reducible rfl)
 all_goals first
  |rfl
  |(simp[lQ,gv,kE, *];done)
  |(simp[lQ,gv,kE, *];rfl)
abbrev JS (h:eH):aY:=.cells 120 (Be h++ [.mp 1000002,.mp 1000003,.mp 1000004,.buf 50,.mp 1000006,.mp 1000007,.mp 1000008,.mp 1000010,.buf 1000011])
abbrev cL (h:eH)(vm:Mp (List UInt8))(sm:Mp Bool)(s:dw):List (Nat×aY):=
 [(1000001,JS h),(1000002,eY false [.str []] pT vm),(1000003,eY false [.bool false] HH sm),(1000004,eY true (kE oM) kE s.sts),(50,HE s.log),(1000006,GB s.ats),(1000007,eY true (lS lO) lS s.bks),(1000008,eY true (eK none) eK s.his),(1000010,eY false [.int .i64 0] ED s.paid),(1000011,JN s.ref)]
def g8 (s:dw)(x:cJ):Int:=al [if s.ats x.veh x.tm then 6 else 0,if(!gv (s.sts.val x.veh) x)then 11 else 0]
def gD (s:dw)(x:cJ):dw:={s with sts:=s.sts.put x.veh (lQ (s.sts.val x.veh) x),ats:=CT s.ats x.veh x.tm,log:=s.log++ [x]}
set_option maxHeartbeats 2000000 in
theorem IA (h:eH)(vm:Mp (List UInt8))(sm:Mp Bool)(s:dw)(x:cJ):ai Tryz.prog 240 [.ptr 1000001 0,.agg ((iy x).map .d)] (jf h vm sm s) (fun y r=>y= .d (.int .i64 (g8 s x))∧r=jf h vm sm s):=by
 refine ae hT (C:= []) Tryz.func240 rfl Tryz.call240 rfl rfl rfl ?_;conv=>whnf
 repeat' (first|(refine aw (LZ _ x) ⟨lr,lr,trivial⟩ rfl ?_;conv=>whnf)|(refine ac (fC _ _) rfl rfl ?_;rotate_right;conv=>whnf)|((first|refine And.intro (rfl:aK _=some (kE oM)) ?_|refine And.intro (rfl:aK _=some [DV.bool false]) ?_|refine aw (gp [_,_] (by simp)) ⟨aj (by rfl) (by rfl),trivial⟩ rfl ?_|(refine aa ?_ ?_<;>intro hb<;>try simp only[az]at hb)|refine aq hT 1 B9 ?_|refine aq hT 2 Aj ?_|omega|refine aA ?_|decide|assumption)<;>conv=>whnf))
 refine .ret _ ?_;conv=>whnf
 exact⟨jf h vm sm s,⟨rfl,rfl⟩,rr,rr,rr,rr,rr,rr,rr,rr,rr,rr,trivial⟩
set_option maxHeartbeats 2000000 in
theorem GL (h:eH)(vm:Mp (List UInt8))(sm:Mp Bool)(s:dw)(x:cJ)(hl:s.log.length≤2^20):ai Tryz.prog 241 [.ptr 1000001 0,.agg ((iy x).map .d)] (jf h vm sm s) (fun y r=>y= .tup []∧r=cL h vm sm (gD s x)):=by
 refine ae hT (C:= []) Tryz.func241 rfl Tryz.call241 rfl rfl rfl ?_;conv=>whnf
 repeat' (first|((first|refine aw (LZ _ x) ⟨lr,lr,trivial⟩ rfl ?_|refine And.intro (rfl:aK _=some (kE oM)) ?_|refine And.intro (rfl:aK _=some [DV.bool false]) ?_|(refine aa ?_ ?_<;>intro hb<;>try simp only[az]at hb)|refine aq hT 1 BH ?_|refine aq hT 2 A3 ?_|refine aq hT 3 BT ?_|omega|refine aA ?_|decide|assumption)<;>conv=>whnf))
 refine .ent _ _ (af (ts:= []) (rs:=cL h vm sm (gD s x)) [(1000001,1000001),(1000002,1000002),(1000003,1000003),(1000004,1000004),(50,38),(1000006,1000006),(1000007,1000007),(1000008,1000008),(1000010,1000010),(1000011,1000011)] rfl rfl trivial ⟨rr,rr,rr,fq,aG (x:=x) rfl,Jf,rr,rr,rr,rr,trivial⟩) ?_;refine .ret _ ?_;conv=>whnf
 exact⟨_,⟨rfl,rfl⟩,rr,rr,rr,rr,rr,rr,rr,rr,rr,rr,trivial⟩
end Go.Proofs.YtkokpbpililcdaaGreatDoor
