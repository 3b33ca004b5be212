/- BooksBalance is proved: for every input the law returns true, and its argument reads afterwards as it read before. Conditions: those of the given row alone. -/
import Derived.Test.YtodakofifpaljaaGreatDoorBbConOne
import Derived.Test.YtodakofifpaljaaGreatDoorBbEngTwo
set_option linter.unusedVariables false
set_option linter.unusedSimpArgs false
set_option maxRecDepth 20000
namespace Go.Proofs.YtodakofifpaljaaGreatDoor
open Go Go.Eng
def BS:OL:= [(0,[]),(1,[]),(3,[0,1]),(4,[0,1]),(8,[0,1,3,4]),(9,[0,1,3,4]),(2,[3,4,8,9]),(5,[8,9]),(6,[8,9]),(7,[8,9]),(10,[]),(11,[]),(12,[]),(13,[]),(14,[]),(15,[]),(16,[]),(17,[]),(18,[]),(19,[]),(20,[]),(21,[])]
def Bh:OL:= [(0,[]),(1,[]),(5,[0,1]),(6,[0,1]),(2,[5,6]),(3,[5,6]),(4,[5,6]),(7,[]),(8,[]),(9,[]),(10,[])]
def yZ:OL:= [(0,[]),(1,[]),(2,[0,1]),(3,[]),(5,rg 4),(6,[0,1,2,3,5]),(7,[0,1,2,3,5]),(8,[0,1,2,3,5]),(9,[0,1,2,3,5]),(10,rg 4),(4,[5,6,7,8,9,10]),(11,[]),(12,[]),(13,[]),(14,[])]
def zM:OL:= [(0,[]),(1,[]),(3,[0,1]),(4,[0,1]),(5,[0,1]),(6,[0,1,3,4,5]),(7,[0,1,3,4,5]),(8,[0,1,3,4,5]),(9,[0,1]),(2,[3,4,5,6,7,8,9]),(10,[]),(11,[]),(12,[]),(13,[])]
def fS:OL:= [(0,[]),(1,[]),(11,[0,1]),(12,[0,1]),(2,[11,12]),(3,[11,12]),(4,[11,12]),(5,[11,12]),(6,[11,12]),(7,[11,12]),(8,[11,12]),(9,[11,12]),(10,[11,12]),(13,[]),(14,[]),(15,[]),(16,[])]
structure oD where
 tm:Int
 st:List UInt8
 meter:Int
 fuel:Int
def Nv:oD→List DV:=fun r=> [.int .i64 r.tm,.str r.st,.int .i64 r.meter,.int .i64 r.fuel]
structure rW where
 veh:List UInt8
 out:oD
 inn:oD
def N8:rW→List DV:=fun x=> [.str x.veh,.int .i64 x.out.tm,.str x.out.st,.int .i64 x.out.meter,.int .i64 x.out.fuel,.int .i64 x.inn.tm,.str x.inn.st,.int .i64 x.inn.meter,.int .i64 x.inn.fuel]
def QG:oD:=⟨0,[],0,0⟩
def ew:rW:=⟨[],QG,QG⟩
abbrev legs (l:List rW):DV:=dD 9 N8 ew l
structure cy where
 key:List UInt8
 drv:List UInt8
 frm:Int
 to:Int
 legs:List rW
def gr:cy→List DV:=fun h=> [.str h.key,.str h.drv,.int .i64 h.frm,.int .i64 h.to,Go.Proofs.YtodakofifpaljaaGreatDoor.legs h.legs]
def fp:cy:=⟨[],[],0,0,[]⟩
abbrev Jc (l:List cy):DV:=dD 5 gr fp l
abbrev vd (h:cy):aY:=.cells 60 [.d (.str h.key),.d (.str h.drv),.d (.int .i64 h.frm),.d (.int .i64 h.to),.d (Go.Proofs.YtodakofifpaljaaGreatDoor.legs h.legs)]
def L6 (x:rW):Prop:=x.veh.length≤2^40∧x.out.st.length≤2^40∧x.inn.st.length≤2^40
def JG (h:cy):Prop:=h.key.length≤2^40∧h.drv.length≤2^40∧h.legs.length≤2^40∧∀x ∈ h.legs,L6 x
def PW (l:List cy):Prop:=l.length≤2^40∧∀h ∈ l,JG h
def pz (r:oD):Int:=if ¬ (0≤r.tm∧r.tm≤5761439)then 1 else if aG r.st=false then 5 else if ¬ ((0≤r.meter∧r.meter≤999999)∧(0≤r.fuel∧r.fuel≤8))then 1 else 0
def ic (a b:Int):Int:=if a<0∨b≤a∨5761439<b then 1 else if 172800<b - a then 2 else 0
def oM (h:cy)(i:Nat):Int:=
 if aG (h.legs.getD i ew).veh=false then 5
 else if pz (h.legs.getD i ew).out≠0 then pz (h.legs.getD i ew).out
 else if i=0∧(h.legs.getD i ew).out.tm≠h.frm then 7
 else if 0<i∧(h.legs.getD i ew).out.tm≠(h.legs.getD (i - 1) ew).inn.tm then 7
 else if 0<i∧(h.legs.getD i ew).veh=(h.legs.getD (i - 1) ew).veh then 16
 else if 0<i∧(h.legs.getD i ew).out.st≠(h.legs.getD (i - 1) ew).inn.st then 8
 else if(h.legs.getD i ew).inn.tm= -1 then(if ¬ ((h.legs.getD i ew).inn.st= []∧(h.legs.getD i ew).inn.meter=0∧(h.legs.getD i ew).inn.fuel=0)then 3 else if(i:Int)<(h.legs.length:Int) - 1 then 11 else 0)
 else if pz (h.legs.getD i ew).inn≠0 then pz (h.legs.getD i ew).inn
 else if(h.legs.getD i ew).inn.tm≤(h.legs.getD i ew).out.tm then 7 else 0
def bO (h:cy):Int:=
 if aG h.key=false∨aG h.drv=false then 5 else if ic h.frm h.to≠0 then ic h.frm h.to
 else if h.legs.length=0 then 3 else if 20<h.legs.length then 2 else aX (oM h) h.legs.length
def Fo (l:List cy)(i:Nat):Int:=if bO (l.getD i fp)≠0 then bO (l.getD i fp)else if 0<i∧cV (l.getD i fp).key (l.getD (i - 1) fp).key=true then 7 else 0
def Jm (l:List cy):Int:=if 500<l.length then 2 else aX (Fo l) l.length
theorem Qz (n:Int):ai Tryz.prog 66 [.d (.int .i64 n)] [] (fun x o=>x= .d (.int .i64 (if 0≤n∧n≤5761439 then 0 else 1))∧o= []):=by
 refine af hT (C:= []) Tryz.func66 rfl Tryz.call66 rfl rfl rfl ?_;conv=>whnf
 repeat' (first|(refine ac (Ex _) rfl rfl ?_;rotate_right;conv=>whnf)|(refine ac (eK _ _) rfl rfl ?_;rotate_right;conv=>whnf)|((first|(refine aa ?_ ?_<;>intro hb<;>try simp only[az]at hb)|omega|refine aA ?_|decide|assumption)<;>conv=>whnf))
 refine .ret _ ?_;conv=>whnf
 refine⟨[],⟨?_,rfl⟩,trivial⟩;conv=>lhs;whnf
 congr 2
 grind
theorem M9 (r:oD)(h:r.st.length≤2^40):ai Tryz.prog 225 [.agg ((Nv r).map .d)] [] (fun x o=>x= .d (.int .i64 (pz r))∧o= []):=by
 refine af hT (C:= []) Tryz.func225 rfl Tryz.call225 rfl rfl rfl ?_;conv=>whnf
 repeat' (first|(refine ac (Qz _) rfl rfl ?_;rotate_right;conv=>whnf)|(refine ac (gC _ h) rfl rfl ?_;rotate_right;conv=>whnf)|(refine ac (fA _ _ _) rfl rfl ?_;rotate_right;conv=>whnf)|(refine ac (eK _ _) rfl rfl ?_;rotate_right;conv=>whnf)|((first|refine ao (fu [_,_,_] (by simp)) ⟨aj (by rfl) (by rfl),trivial⟩ rfl ?_|(refine aa ?_ ?_<;>intro hb<;>try simp only[az]at hb)|refine aw hT 1 BS ?_|omega|refine aA ?_|decide|assumption)<;>conv=>whnf))
 all_goals
  refine .ret _ ?_;conv=>whnf
  refine⟨[],⟨?_,rfl⟩,trivial⟩;conv=>lhs;whnf
  congr 2
  unfold pz;simp only[al];grind
def df (a b:Int):Int:=(b - a+1440 - 1).tdiv 1440
theorem zk {a b:Int}(h:a<b):120<df a b↔172800<b - a:=by
 unfold df;rw[Int.tdiv_eq_ediv_of_nonneg (by omega)];omega
theorem J1 (a b:Int)(h:0≤a∧a<b∧b≤5761439):ai Tryz.prog 118 [.agg [.d (.int .i64 a),.d (.int .i64 b)]] [] (fun x o=>x= .d (.int .i64 (df a b))∧o= []):=by
 obtain⟨h1,h2,h3⟩:=h;have hd:aF ((b - a+1440 - 1).tdiv 1440):=by unfold aF;rw[Int.tdiv_eq_ediv_of_nonneg (by omega)];omega
 refine af hT (C:= []) Tryz.func118 rfl Tryz.call118 rfl rfl rfl ?_;conv=>whnf
 repeat' (first|((first|refine And.intro hd ?_|(refine aa ?_ ?_<;>intro hb<;>try simp only[az]at hb)|omega|refine aA ?_|decide|assumption)<;>conv=>whnf))
 refine .ret _ ?_;conv=>whnf
 refine⟨[],⟨?_,rfl⟩,trivial⟩;conv=>lhs;whnf
 rfl
theorem Kw (a b:Int):ai Tryz.prog 182 [.agg [.d (.int .i64 a),.d (.int .i64 b)]] [] (fun x o=>x= .d (.int .i64 (ic a b))∧o= []):=by
 have hd:=zk (a:=a) (b:=b);refine af hT (C:= []) Tryz.func182 rfl Tryz.call182 rfl rfl rfl ?_;conv=>whnf
 repeat' (first|(refine ac (J1 a b ⟨by omega,by omega,by omega⟩) rfl rfl ?_;rotate_right;conv=>whnf)|(refine ac (eK _ _) rfl rfl ?_;rotate_right;conv=>whnf)|((first|(refine aa ?_ ?_<;>intro hb<;>try simp only[az]at hb)|omega|refine aA ?_|decide|assumption)<;>conv=>whnf))
 all_goals
  refine .ret _ ?_;conv=>whnf
  refine⟨[],⟨?_,rfl⟩,trivial⟩;conv=>lhs;whnf
  congr 2
  unfold ic;grind
set_option maxHeartbeats 2000000 in
theorem Qk (h:cy)(hk:JG h)(i:Nat)(hi:i<h.legs.length):ai Tryz.prog 183 [.agg ((gr h).map .d),.d (.int .i64 i)] [] (fun x o=>x= .d (.int .i64 (oM h i))∧o= []):=by
 have e1:(i:Int).toNat=i:=Int.toNat_natCast i;have hl:=hk.2.2.1;have hx:L6 (h.legs.getD (i:Int).toNat ew):=hk.2.2.2 _ (aq (by omega));refine af hT (C:= []) Tryz.func183 rfl Tryz.call183 rfl rfl rfl ?_;conv=>whnf
 repeat' (first|(refine ac (gC _ hx.1) rfl rfl ?_;rotate_right;conv=>whnf)|(refine ac (M9 (h.legs.getD (i:Int).toNat ew).out hx.2.1) rfl rfl ?_;rotate_right;conv=>whnf)|(refine ac (M9 (h.legs.getD (i:Int).toNat ew).inn hx.2.2) rfl rfl ?_;rotate_right;conv=>whnf)|(refine ac (eK _ _) rfl rfl ?_;rotate_right;conv=>whnf)|((first|refine ao (fu [_,_] (by simp)) ⟨aj (by rfl) (by rfl),trivial⟩ rfl ?_|(refine aa ?_ ?_<;>intro hb<;>try simp only[az]at hb)|refine aw hT 2 Bh ?_|refine aw hT 16 yZ ?_|refine aw hT 17 zM ?_|omega|refine aA ?_|decide|assumption)<;>conv=>whnf))
 all_goals
  refine .ret _ ?_;conv=>whnf
  refine⟨[],⟨?_,rfl⟩,trivial⟩;conv=>lhs;whnf
  congr 2
  clear hx hk;simp only[e1,aJ,al]at*;unfold oM;grind
theorem zh {h:cy}(q:aG h.key=false∨aG h.drv=false):bO h=5:=by unfold bO;rw[if_pos q]
theorem Ep {h:cy}(q1:aG h.key=true)(q2:aG h.drv=true)(q:ic h.frm h.to≠0):bO h=ic h.frm h.to:=by
 unfold bO;rw[if_neg (by rw[q1,q2];simp),if_pos q]
theorem EG {h:cy}(q1:aG h.key=true)(q2:aG h.drv=true)(q:ic h.frm h.to=0):bO h=if h.legs.length=0 then 3 else if 20<h.legs.length then 2 else aX (oM h) h.legs.length:=by
 unfold bO;rw[if_neg (by rw[q1,q2];simp),if_neg (by omega)]
set_option maxHeartbeats 2000000 in
theorem z210 (h:cy)(hk:JG h):ai Tryz.prog 111 [.agg ((gr h).map .d)] [] (fun x o=>x= .d (.int .i64 (bO h))∧o= []):=by
 have c1:=gC h.key hk.1;have c2:=gC h.drv hk.2.1;have c3:=Kw h.frm h.to;have hl:=hk.2.2.1;have c5:=fu [5,ic h.frm h.to] (by simp);rw[show al [5,ic h.frm h.to]=5 from rfl]at c5;have c6:=fu [0,ic h.frm h.to] (by simp);rw[show al [0,ic h.frm h.to]=ic h.frm h.to from by simp only[al];grind]at c6
 cases q1:aG h.key with
 | false=>
   rw[zh (.inl q1)];rw[q1]at c1;generalize ic h.frm h.to=E at c3 c5 c6;refine af hT (C:= []) Tryz.func111 rfl Tryz.call111 rfl rfl rfl ?_;conv=>whnf
   repeat' (first|(refine ac (c1) rfl rfl ?_;rotate_right;conv=>whnf)|(refine ac (c3) rfl rfl ?_;rotate_right;conv=>whnf)|(refine ac (eK _ _) rfl rfl ?_;rotate_right;conv=>whnf)|((first|refine ao c5 ⟨aj (by rfl) (by rfl),trivial⟩ rfl ?_|(refine aa ?_ ?_<;>intro hb<;>try simp only[az]at hb)|refine aw hT 1 fS ?_|omega|refine aA ?_|decide|assumption)<;>conv=>whnf))
   refine .ret _ ?_;conv=>whnf
   refine⟨[],⟨?_,rfl⟩,trivial⟩
   conv=>lhs;whnf
 |true=>
 rw[q1]at c1
 cases q2:aG h.drv with
 | false=>
   rw[zh (.inr q2)];rw[q2]at c2;generalize ic h.frm h.to=E at c3 c5 c6;refine af hT (C:= []) Tryz.func111 rfl Tryz.call111 rfl rfl rfl ?_;conv=>whnf
   repeat' (first|(refine ac (c1) rfl rfl ?_;rotate_right;conv=>whnf)|(refine ac (c2) rfl rfl ?_;rotate_right;conv=>whnf)|(refine ac (c3) rfl rfl ?_;rotate_right;conv=>whnf)|(refine ac (eK _ _) rfl rfl ?_;rotate_right;conv=>whnf)|((first|refine ao c5 ⟨aj (by rfl) (by rfl),trivial⟩ rfl ?_|(refine aa ?_ ?_<;>intro hb<;>try simp only[az]at hb)|refine aw hT 1 fS ?_|omega|refine aA ?_|decide|assumption)<;>conv=>whnf))
   refine .ret _ ?_;conv=>whnf
   refine⟨[],⟨?_,rfl⟩,trivial⟩
   conv=>lhs;whnf
 |true=>
 rw[q2]at c2
 by_cases q3:ic h.frm h.to=0
 · have hE:=EG q1 q2 q3;rw[hE];clear hE;rw[q3]at c3 c6
   by_cases q4:h.legs.length=0
   · rw[if_pos q4];refine af hT (C:= []) Tryz.func111 rfl Tryz.call111 rfl rfl rfl ?_;conv=>whnf
     repeat' (first|(refine ac (c1) rfl rfl ?_;rotate_right;conv=>whnf)|(refine ac (c2) rfl rfl ?_;rotate_right;conv=>whnf)|(refine ac (c3) rfl rfl ?_;rotate_right;conv=>whnf)|(refine ac (eK _ _) rfl rfl ?_;rotate_right;conv=>whnf)|((first|refine ao c6 ⟨aj (by rfl) (by rfl),trivial⟩ rfl ?_|(refine aa ?_ ?_<;>intro hb<;>try simp only[az]at hb)|refine aw hT 1 fS ?_|omega|refine aA ?_|decide|assumption)<;>conv=>whnf))
     all_goals first
      |(exfalso;omega)
      | (refine .ret _ ?_
         conv=>whnf
         refine⟨[],⟨?_,rfl⟩,trivial⟩;conv=>lhs;whnf
         all_goals rfl)
   by_cases q5:20<h.legs.length
   · rw[if_neg q4,if_pos q5];refine af hT (C:= []) Tryz.func111 rfl Tryz.call111 rfl rfl rfl ?_;conv=>whnf
     repeat' (first|(refine ac (c1) rfl rfl ?_;rotate_right;conv=>whnf)|(refine ac (c2) rfl rfl ?_;rotate_right;conv=>whnf)|(refine ac (c3) rfl rfl ?_;rotate_right;conv=>whnf)|(refine ac (eK _ _) rfl rfl ?_;rotate_right;conv=>whnf)|((first|refine ao c6 ⟨aj (by rfl) (by rfl),trivial⟩ rfl ?_|(refine aa ?_ ?_<;>intro hb<;>try simp only[az]at hb)|refine aw hT 1 fS ?_|omega|refine aA ?_|decide|assumption)<;>conv=>whnf))
     all_goals first
      |(exfalso;omega)
      | (refine .ret _ ?_
         conv=>whnf
         refine⟨[],⟨?_,rfl⟩,trivial⟩;conv=>lhs;whnf
         all_goals rfl)
   obtain⟨F,hfin⟩:∃F:Int,F=aX (oM h) h.legs.length:=⟨_,rfl⟩;rw[if_neg q4,if_neg q5,←hfin];refine af hT (C:= []) Tryz.func111 rfl Tryz.call111 rfl rfl rfl ?_;conv=>whnf
   repeat' (first|(refine ac (c1) rfl rfl ?_;rotate_right;conv=>whnf)|(refine ac (c2) rfl rfl ?_;rotate_right;conv=>whnf)|(refine ac (c3) rfl rfl ?_;rotate_right;conv=>whnf)|(refine ac (eK _ _) rfl rfl ?_;rotate_right;conv=>whnf)|((first|refine ao c6 ⟨aj (by rfl) (by rfl),trivial⟩ rfl ?_|(refine aa ?_ ?_<;>intro hb<;>try simp only[az]at hb)|refine aw hT 1 fS ?_|omega|refine aA ?_|decide|assumption)<;>conv=>whnf))
   all_goals first
    |(exfalso;omega)
    |skip
   refine ah hT (C:= []) (ι:=Nat) (fun i=>i≤h.legs.length∧∀j,j<i→oM h j=0) (fun i=>aN [(1,.ptr 1 0),(37,.d (.int .i64 h.legs.length)),(38,.d (.int .i64 i))] [(1,vd h)]) (fun i=>h.legs.length - i) 0 ⟨by omega,by omega⟩ (by exact bz [(1,1)]) ?_;rintro i ⟨p1,p2⟩;have e1:(i:Int).toNat=i:=Int.toNat_natCast i;conv=>whnf
   repeat' (first|((first|refine rZ (Qk h hk i (by omega)) ?_|(refine aa ?_ ?_<;>intro hb<;>try simp only[az]at hb)|refine aw hT 1 fS ?_|omega|refine aA ?_|decide|assumption)<;>conv=>whnf))
   · refine .ret _ ?_;conv=>whnf
     refine⟨[],⟨?_,rfl⟩,trivial⟩;conv=>lhs;whnf
     congr 2
     rw[hfin];exact(aT (by omega) p2 (by simpa using hb) rfl).symm
   · exact⟨i+1,⟨by omega,aQ p2 (by simpa using hb)⟩,by omega,(by exact bz [(1,1)])⟩
   · refine .ret _ ?_;conv=>whnf
     refine⟨[],⟨?_,rfl⟩,trivial⟩;conv=>lhs;whnf
     congr 2
     have:i=h.legs.length:=by omega
     subst this;rw[hfin,aC p2]
 · rw[Ep q1 q2 q3];generalize ic h.frm h.to=E at c3 q3 c5 c6;refine af hT (C:= []) Tryz.func111 rfl Tryz.call111 rfl rfl rfl ?_;conv=>whnf
   repeat' (first|(refine ac (c1) rfl rfl ?_;rotate_right;conv=>whnf)|(refine ac (c2) rfl rfl ?_;rotate_right;conv=>whnf)|(refine ac (c3) rfl rfl ?_;rotate_right;conv=>whnf)|(refine ac (eK _ _) rfl rfl ?_;rotate_right;conv=>whnf)|((first|refine ao c6 ⟨aj (by rfl) (by rfl),trivial⟩ rfl ?_|(refine aa ?_ ?_<;>intro hb<;>try simp only[az]at hb)|refine aw hT 1 fS ?_|omega|refine aA ?_|decide|assumption)<;>conv=>whnf))
   all_goals first
    |(exfalso;omega)
    | (refine .ret _ ?_
       conv=>whnf
       refine⟨[],⟨?_,rfl⟩,trivial⟩;conv=>lhs;whnf
       all_goals rfl)
theorem cQ {l m:List SV}(h:pu l m):SV.le (.agg l) (.agg m):=by
 obtain⟨h1,h2⟩:=jn h;intro G β v hv
 cases hv with|agg _ vs hl hd=>
 refine .agg _ _ (hl.trans h1) (fun i y v hy hv=> ?_);have hi:i<l.length:=by rw[h1];exact(List.getElem?_eq_some_iff.1 hy).1
 exact h2 i _ y (List.getElem?_eq_getElem hi) hy G β v (hd i _ v (List.getElem?_eq_getElem hi) hv)
def wS:List SV→List SV→Prop
 | [],[]=>True
 |x::l,y::m=>SV.le x y∧wS l m
 |_,_=>False
theorem qI:∀ {l m:List SV},wS l m→l.length=m.length∧∀ (i:Nat) x y,l[i]? =some x→m[i]? =some y→SV.le x y:=by
 intro l
 induction l with
 | nil=>
   intro m h
   cases m with
   |nil=>exact⟨rfl,by simp⟩
   |cons y m=>exact h.elim
 | cons x l ih=>
   intro m h
   cases m with
   |nil=>exact h.elim
   | cons y m=>
     obtain⟨h1,h2⟩:=h;obtain⟨i1,i2⟩:=ih h2;refine⟨by simp[i1],fun i a b ha hb=> ?_⟩
     cases i with
     |zero=>simp at ha hb;subst ha;subst hb;exact h1
     |succ i=>exact i2 i a b (by simpa using ha) (by simpa using hb)
theorem ft {e:TypeId}{l m:List SV}(h:wS l m):aY.le (.cells e l) (.cells e m):=
 pr (qI h).1 (qI h).2
theorem xL {α:Type}{l m:List α}{i:Nat}{z:α}(h:i<l.length):(l++m).getD i z=l.getD i z:=by
 rw[List.getD_eq_getElem?_getD,List.getD_eq_getElem?_getD,List.getElem?_append_left h]
def ET:oD:=⟨-1,[],0,0⟩
def e9 (l:List rW)(r:oD):List rW:=l.set ((l.length:Int) - 1).toNat {l.getD ((l.length:Int) - 1).toNat ew with inn:=r}
theorem gJ (l:List rW)(r:oD):(e9 l r).length=l.length:=by simp[e9]
theorem vj {l:List rW}{r:oD}:∀z,l[((l.length:Int) - 1).toNat]? =some z→bR (N8 z) 5 [.int .i64 r.tm,.str r.st,.int .i64 r.meter,.int .i64 r.fuel]=N8 {l.getD ((l.length:Int) - 1).toNat ew with inn:=r}:=fun z hz=>by
 rw[List.getD_eq_getElem?_getD,hz];rfl
def kL (key drv:List UInt8)(a b:Int)(v:List UInt8)(o:oD):cy:=⟨key,drv,a,b,[⟨v,o,ET⟩]⟩
theorem Oa {l:List Int}{x:Int}(h:x ∈ l)(hl:(l.all fun y=>decide (0≤y)&&decide (y≤3000))=true):0≤x∧x≤3000:=by
 have:=List.all_eq_true.1 hl x h;simpa using this
structure GB where
 name:Int
 pay:Int
 step:Int
 late:Int
def NR:GB→List DV:=fun r=> [.int .i64 r.name,.int .i64 r.pay,.int .i64 r.step,.int .i64 r.late]
structure xU where
 key:List UInt8
 plate:List UInt8
 tm:Int
 came:Int
 cents:Int
def MX:xU→List DV:=fun n=> [.str n.key,.str n.plate,.int .i64 n.tm,.int .i64 n.came,.int .i64 n.cents]
def qx:xU:=⟨[],[],0,0,0⟩
abbrev Lg (l:List xU):DV:=dD 5 MX qx l
def wR (r:GB):Int:=if(0≤r.name∧r.name≤4000)∧(0≤r.pay∧r.pay≤4000)∧(1≤r.step∧r.step≤4000)∧(0≤r.late∧r.late≤1000000)then 0 else 1
def BN (l:List xU)(i:Nat):Int:=
 if aG (l.getD i qx).key=false then 5 else if 0<i∧cV (l.getD i qx).key (l.getD (i - 1) qx).key=true then 7 else if i7 (l.getD i qx).plate=false then 3
 else if ¬ ((0≤(l.getD i qx).tm∧(l.getD i qx).tm≤(l.getD i qx).came)∧(0≤(l.getD i qx).came∧(l.getD i qx).came≤5761439)∧(0≤(l.getD i qx).cents∧(l.getD i qx).cents≤1000000))then 1 else 0
def lZ (l:List xU):Int:=if 200<l.length then 2 else aX (BN l) l.length
def N1 (n:xU):Prop:=n.key.length≤2^40∧n.plate.length≤2^40
def Mt (l:List xU):Prop:=l.length≤2^40∧∀x ∈ l,N1 x
theorem CY (n:Int):ai Tryz.prog 66 [.d (.int .i64 n)] [] (fun x o=>x= .d (.int .i64 (if 0≤n∧n≤5761439 then 0 else 1))∧o= []):=by
 refine af hT (C:= []) Tryz.func66 rfl Tryz.call66 rfl rfl rfl ?_;conv=>whnf
 repeat' (first|(refine ac (Ex _) rfl rfl ?_;rotate_right;conv=>whnf)|(refine ac (eK _ _) rfl rfl ?_;rotate_right;conv=>whnf)|((first|(refine aa ?_ ?_<;>intro hb<;>try simp only[az]at hb)|omega|refine aA ?_|decide|assumption)<;>conv=>whnf))
 refine .ret _ ?_;conv=>whnf
 refine⟨[],⟨?_,rfl⟩,trivial⟩;conv=>lhs;whnf
 congr 2
 grind
def ws (r:GB)(n:xU)(t:Int):Int:=al [wR r,lZ [n],if 0≤t∧t≤5761439 then 0 else 1,if t<n.came then 11 else 0]
def DY (r:GB)(n:xU)(t:Int):Int:=(max 0 (t.tdiv 1440 - n.came.tdiv 1440 - r.pay)+r.step - 1).tdiv r.step
def Iw (r:GB)(n:xU)(t:Int):Int:=n.cents+DY r n t*r.late
theorem Iv {n:xU}(h:lZ [n]=0):aG n.key=true∧i7 n.plate=true∧(0≤n.tm∧n.tm≤n.came)∧(0≤n.came∧n.came≤5761439)∧(0≤n.cents∧n.cents≤1000000):=by
 have h:BN [n] 0=0:=by simpa [lZ,aX]using h
 unfold BN at h;simp only[List.getD_cons_zero]at h;grind
theorem yA {r:GB}(h:wR r=0):(0≤r.name∧r.name≤4000)∧(0≤r.pay∧r.pay≤4000)∧(1≤r.step∧r.step≤4000)∧(0≤r.late∧r.late≤1000000):=by unfold wR at h;grind
theorem D0 {r:GB}{n:xU}{t:Int}(h:ws r n t=0):wR r=0∧lZ [n]=0∧(0≤t∧t≤5761439)∧n.came≤t:=by
 unfold ws at h;simp only[al]at h;grind
theorem ID {a b A B:Int}(h0:0≤a)(h1:a≤A)(h2:0≤b)(h3:b≤B):0≤a*b∧a*b≤A*B:=
 ⟨Int.mul_nonneg h0 h2,Int.mul_le_mul h1 h3 h2 (by omega)⟩
theorem oF {a b:Int}(h0:0≤a)(h1:1≤b):0≤a.tdiv b∧a.tdiv b≤a:=by
 refine⟨Int.tdiv_nonneg h0 (by omega),?_⟩;have h4:=Int.tmod_add_mul_tdiv a b;have h2:0≤a.tmod b:=Int.tmod_nonneg _ h0;have h5:a.tdiv b*1≤a.tdiv b*b:=Int.mul_le_mul_of_nonneg_left h1 (Int.tdiv_nonneg h0 (by omega));rw[Int.mul_comm]at h4;omega
theorem HW {r:GB}{n:xU}{t:Int}(h1:wR r=0)(hc:0≤n.came)(ht:n.came≤t)(ht2:t≤5761439):0≤DY r n t∧DY r n t≤10000:=by
 obtain⟨_,h2,h3,_⟩:=yA h1;unfold DY;have a1:=oF (a:=t) (b:=1440) (by omega) (by omega);have a2:=oF (a:=n.came) (b:=1440) (by omega) (by omega);have h4:=Int.tmod_add_mul_tdiv t 1440;have h5:0≤t.tmod 1440:=Int.tmod_nonneg _ (by omega);obtain⟨q,hq⟩:∃q,q=max 0 (t.tdiv 1440 - n.came.tdiv 1440 - r.pay)+r.step - 1:=⟨_,rfl⟩;have hq0:0≤q∧q≤10000:=by omega
 rw[←hq];have:=oF hq0.1 h3.1;omega
def Iu (r:GB)(n:xU)(t:Int):SV:=if ws r n t=0 then .tup [.d (.int .i64 (Iw r n t)),.d (.int .i64 0)]else .tup [.d (.int .i64 0),.d (.int .i64 (ws r n t))]
theorem yc {n:xU}(h:N1 n):Mt [n]:=⟨by simp,fun x hx=>by rw[List.mem_singleton]at hx;rw[hx];exact h⟩
structure ip where
 key:List UInt8
 up:List UInt8
structure uf where
 key:List UInt8
 cls:List UInt8
structure xC where
 key:List UInt8
 h:Nat→Int
def As:ip→List DV:=fun c=> [.str c.key,.str c.up]
def cW:ip:=⟨[],[]⟩
abbrev jk (l:List ip):DV:=dD 2 As cW l
def Io:uf→List DV:=fun c=> [.str c.key,.str c.cls]
def cp:uf:=⟨[],[]⟩
abbrev rf (l:List uf):DV:=dD 2 Io cp l
def NE:zR→List DV:=fun p=> [.int .i64 p.frm,.str p.veh,.str p.plt]
def dS:zR:=⟨0,[],[]⟩
abbrev Gj (l:List zR):DV:=dD 3 NE dS l
def M5:xC→List DV:=fun s=> [.str s.key,.int .i64 (s.h 0),.int .i64 (s.h 1),.int .i64 (s.h 2),.int .i64 (s.h 3),.int .i64 (s.h 4),.int .i64 (s.h 5),.int .i64 (s.h 6),.int .i64 (s.h 7),.int .i64 (s.h 8),.int .i64 (s.h 9),.int .i64 (s.h 10),.int .i64 (s.h 11),.int .i64 (s.h 12),.int .i64 (s.h 13)]
def wx:xC:=⟨[],fun _=>0⟩
abbrev oa (l:List xC):DV:=dD 15 M5 wx l
def Lx (c:ip):Prop:=c.key.length≤8∧c.up.length≤8
def KT (c:uf):Prop:=c.key.length≤8∧c.cls.length≤8
def Po (c:zR):Prop:=(-2^40≤c.frm∧c.frm≤2^40)∧c.veh.length≤8∧c.plt.length≤16
def Pp (c:xC):Prop:=c.key.length≤8
def ut:List ip:= [⟨[98,105,103],[]⟩,⟨[109,97,120,105],[]⟩,⟨[109,105,100,105],[]⟩,⟨[109,105,110,105],[]⟩]
def NH (l:List ip):Prop:=l.length≤4∧∀x ∈ l,Lx x
def nHas (l:List rX):Nat→List DV→Bool
 |0=>fun _=>false
 |n+1=>fun q=>ay q [.str (l.getD n Ed).a,.str (l.getD n Ed).b]||nHas l n q
def Nx (l:List rX):Nat→List DV→List DV
 |0=>fun _=> [.str [],.str [],.int .i64 0,.int .i64 0]
 |n+1=>fun q=>bif ay q [.str (l.getD n Ed).a,.str (l.getD n Ed).b]then QQ (l.getD n Ed)else Nx l n q
abbrev MU (l:List rX)(n:Nat):aY:=.map true true [.str,.str] [.str [],.str [],.int .i64 0,.int .i64 0] (nHas l n) (Nx l n)
structure Od where
 fr:Int
 to:Int
 car:Int
 flow:Int
def LY:Od→List DV:=fun s=> [.int .i64 s.fr,.int .i64 s.to,.int .i64 s.car,.int .i64 s.flow]
def L7:Od:=⟨0,0,0,0⟩
abbrev rc (l:List Int):aY:=.fro 1 l.length (aV iF 0 l)
def Rc:Int×Bool→List DV:=fun s=> [.int .i64 s.1,.bool s.2]
abbrev vP (l:List (Int×Bool)):DV:=dD 2 Rc (0,false) l
theorem FK {a b:Fk}:a=b↔a.a=b.a∧a.b=b.b∧a.many=b.many:=by cases a;cases b;simp
instance:DecidableEq Fk:=fun _ _=>decidable_of_iff _ FK.symm
theorem fQ:∀ {a b c:List UInt8},Op.bytesLess a b=true→Op.bytesLess b c=true→Op.bytesLess a c=true:=by
 intro a
 induction a with
 |nil=>intro b c h1 h2;cases b<;>cases c<;>simp_all [Op.bytesLess]
 | cons x a ih=>
   intro b c h1 h2
   cases b with
   |nil=>simp[Op.bytesLess]at h1
   | cons y b=>
     cases c with
     |nil=>simp[Op.bytesLess]at h2
     | cons z c=>
       simp only[Op.bytesLess]at h1 h2 ⊢;grind [UInt8.lt_trans]
theorem ek:∀ (a:List UInt8),Op.bytesLess a a=false:=by
 intro a
 induction a with
 |nil=>rfl
 |cons x a ih=>simp[Op.bytesLess,ih]
def PM (l:List rX)(a b:List UInt8)(i:Nat):Bool:=(l.getD i Ed).a==a&&(l.getD i Ed).b==b
def JK (l:List rX)(a b:List UInt8):Int:=j7 (PM l a b) l.length
theorem mV {p:Nat→Bool}{n k:Nat}(hk:k<n)(h:p k=true):0≤j7 p n:=by
 have hb:=e6 (p:=p) (n:=n);rcases Int.lt_or_le (j7 p n) 0 with q|q
 · exfalso
   have hn :∀m,j7 p m<0→∀j,j<m→p j=false:=by
    intro m
    induction m with
    |zero=>intro _ j hj;omega
    | succ m ih=>
      intro hm j hj;rw[j7]at hm;split at hm
      · rename_i hz
        by_cases hjm:j=m
        · subst hjm;split at hm
          · omega
          · rename_i hf;simpa using hf
        · exact ih (by omega) j (by omega)
      · rename_i hz;have:=(e6 (p:=p) (n:=m)).1;omega
   rw[hn n q k hk]at h;cases h
 · exact q
def Jv (l:List rX)(a b:List UInt8):Option rX:=if 0≤JK l a b then some (l.getD (JK l a b).toNat Ed)else none
def Jy (l:List rX)(a b:List UInt8):Option Int:=if a=b then some 0 else(Jv l a b).map (·.ride)
def Nz (l:List rX)(a:List UInt8)(m:Fk):Option Int:=(Jy l a m.a).bind fun n=>(Jv l m.a m.b).map fun r=>n+r.car
abbrev P9:=Option (List UInt8×Int)
def Na (l:List rX)(m:List Fk)(st:P9)(k:Int):P9:=st.bind fun p=>(Nz l p.1 (m.getD k.toNat Ph)).map fun n=>((m.getD k.toNat Ph).b,p.2+n)
def MP (l:List rX)(start:List UInt8)(m:List Fk)(o:List Int):P9:=o.foldl (Na l m) (some (start,0))
def LM (l:List rX)(start:List UInt8)(m:List Fk)(o:List Int):Option Int:=(MP l start m o).bind fun p=>(Jy l p.1 start).map fun n=>p.2+n
abbrev Qa:=List Int×Int
def rs (l:List rX)(start:List UInt8)(m:List Fk):Nat→List Int→Qa→Qa
 | 0,o,st=>match LM l start m o with
   |some n=>if 0≤st.2∧st.2≤n then st else(o,n)
   |none=>st
 |d+1,o,st=>(List.range m.length).foldl (fun(st:Qa) (k:Nat)=>if o.contains (k:Int)then st else rs l start m d (o++ [(k:Int)]) st) st
def xF (key:List UInt8):aY:=.cells 9 [.d (.str key)]
def gd (l:List ip)(key:List UInt8):Int:=j7 (fun i=>(l.getD i cW).key==key) l.length
def rn (l:List uf)(key:List UInt8):Int:=j7 (fun i=>(l.getD i cp).key==key) l.length
theorem Qo (x:ip)(key:List UInt8):ai Tryz.prog 194 [.agg ((As x).map .d),.ptr 1000001 0] [(1000001,xF key)] (fun y r=>y= .d (.bool (x.key==key))∧r= [(1000001,xF key)]):=by
 refine af hT (C:= []) Tryz.func194 rfl Tryz.call194 rfl rfl rfl ?_;conv=>whnf
 refine .ret _ ?_;conv=>whnf
 exact⟨[(1000001,xF key)],⟨rfl,rfl⟩,rr,trivial⟩
theorem NL (l:List ip)(hl:l.length≤2^40)(key:List UInt8):ai Tryz.prog 193 [.d (jk l),.fn 194 [.ptr 1000001 0]] [(1000001,xF key)] (fun x r=>x= .d (.int .i64 (gd l key))∧r= [(1000001,xF key)]):=by
 refine af hT (C:= []) Tryz.func193 rfl Tryz.call193 rfl rfl rfl ?_;conv=>whnf
 refine ah hT (C:= []) (ι:=Nat) (fun i=>i≤l.length∧∀j,j<i→((l.getD j cW).key==key)=false) (fun i=>aN [(0,.d (jk l)),(1,.fn 194 [.ptr 1000001 0]),(7,.d (.int .i64 l.length)),(8,.d (.int .i64 i))] [(1000001,xF key)]) (fun i=>l.length - i) 0 ⟨by omega,by omega⟩ (by exact bz [(1000001,1000001)]) ?_;rintro i ⟨p1,p2⟩;have e1:(i:Int).toNat=i:=Int.toNat_natCast i;conv=>whnf
 repeat' (first|((first|(refine cj (Qo (l.getD (i:Int).toNat cW) key) [(1000001,1000001)] ?_;rintro x rout ⟨rfl,rfl⟩;refine⟨rfl,?_⟩)|(refine aa ?_ ?_<;>intro hb<;>try simp only[az]at hb)|omega|refine aA ?_|decide|assumption)<;>conv=>whnf))
 · refine .ret _ ?_;conv=>whnf
   refine⟨[(1000001,xF key)],⟨?_,rfl⟩,rr,trivial⟩;conv=>lhs;whnf
   congr 2
   exact(gm (by omega) p2 (by simpa using hb)).symm
 · exact⟨i+1,⟨by omega,bH p2 (by simpa using hb)⟩,by omega,(by exact bz [(1000001,1000001)])⟩
 · refine .ret _ ?_;conv=>whnf
   refine⟨[(1000001,xF key)],⟨?_,rfl⟩,rr,trivial⟩;conv=>lhs;whnf
   congr 2
   have:i=l.length:=by omega
   subst this;exact(eG p2).symm
theorem Kk (l:List ip)(hl:l.length≤2^40)(key:List UInt8):ai Tryz.prog 138 [.d (jk l),.d (.str key)] [] (fun x r=>x= .d (.int .i64 (gd l key))∧r= []):=by
 refine af hT (C:= []) Tryz.func138 rfl Tryz.call138 rfl rfl rfl ?_;conv=>whnf
 refine cj (NL l hl key) [(1000001,3)] ?_;rintro x rout ⟨rfl,rfl⟩;refine⟨rfl,?_⟩;conv=>whnf
 refine .ret _ ?_;conv=>whnf
 refine⟨[],⟨?_,rfl⟩,trivial⟩;conv=>lhs;whnf
structure rT where
 sta:List xC
 cls:List ip
 veh:List uf
 plt:List zR
abbrev flt (f:rT):SV:=.agg [.d (oa f.sta),.d (jk f.cls),.d (rf f.veh),.d (Gj f.plt)]
theorem wu (l:List ip)(key:List UInt8): -1≤gd l key∧gd l key<l.length:=⟨e6.1,e6.2.1⟩
theorem Hz {l:List ip}{key:List UInt8}(h:0≤gd l key):(l.getD (gd l key).toNat cW).key=key:=by
 have:=(e6 (p:=fun i=>(l.getD i cW).key==key) (n:=l.length)).2.2 h;exact eq_of_beq this
def He (l:List ip)(key:List UInt8):List UInt8:=(l.getD (gd l key).toNat cW).up
def xD (l:List ip):Nat→List UInt8→List (List UInt8)
 |0,_=> []
 |n+1,key=>if He l key= []then []else He l key::xD l n (He l key)
theorem IA (l:List ip):∀ (n:Nat) (key:List UInt8),(xD l n key).length≤n:=by
 intro n
 induction n with
 |zero=>intro key;simp[xD]
 |succ n ih=>intro key;rw[xD];split;simp;simp;exact ih _
def Ck (l:List ip):Prop:=(∀c ∈ l,c.up≠ []→0≤gd l c.up)
theorem O1 (l:List ip)(hl:l.length≤2^20)(hu:Ck l)(key:List UInt8)(hk:0≤gd l key):
 ai Tryz.prog 192 [.d (jk l),.d (.str key)] [] (fun x r=>x= .d (ir (xD l l.length key))∧r= []):=by
 refine af hT (C:= []) Tryz.func192 rfl Tryz.call192 rfl rfl rfl ?_;conv=>whnf
 refine ah hT (C:= []) (ι:=List (List UInt8)×List UInt8×Nat) (fun(o,k,i)=>i≤l.length∧o.length≤i∧0≤gd l k∧o++xD l (l.length - i) k=xD l l.length key)
  (fun(o,k,i)=>aN [(0,.d (jk l)),(1,.d (.str k)),(5,.buf 5),(7,.d (.int .i64 l.length)),(8,.d (.int .i64 i))] [(5,aM 9 1 sF [] o)])
  (fun(_,_,i)=>l.length - i) ([],key,0) ⟨by simp,by simp,hk,by simp⟩ ?_ ?_
 · exact(dv.nil 5 5 9 1 (aV sF [] []) rfl rfl (by decide)).trans (ae [(5,5)] rfl rfl ⟨lr,lr,lr,lr,lr,trivial⟩ ⟨rr,trivial⟩)
 rintro⟨o,k,i⟩ ⟨p1,p2,p3,p4⟩;have p1:i≤l.length:=p1;have p2:o.length≤i:=p2;have p3:0≤gd l k:=p3;have p4:o++xD l (l.length - i) k=xD l l.length key:=p4;have hb1:=(wu l k).2;conv=>whnf
 repeat' (first|(refine ac (Kk l (by omega) k) rfl rfl ?_;rotate_right;conv=>whnf)|((first|(refine aa ?_ ?_<;>intro hb<;>try simp only[az]at hb)|omega|refine aA ?_|decide|assumption)<;>conv=>whnf))
 · refine .freeze _ 5 9 1 _ _ rfl (.weak _ ?_);conv=>whnf
   refine⟨.d (ir o),[],lr,⟨?_,rfl⟩,trivial⟩;rw[←p4,show l.length - i=(l.length - i - 1)+1 by omega,xD,if_pos (show He l k= []from hb),List.append_nil]
 · have hm:(l.getD (gd l k).toNat cW) ∈ l:=aq (by omega)
   refine⟨(o++ [He l k],He l k,i+1),⟨by omega,by simp;omega,hu _ hm hb,?_⟩,by show l.length - (i+1)<l.length - i;omega,
    ae [(5,22)] rfl rfl ⟨lr,lr,lr,lr,lr,trivial⟩ ⟨aR rfl,trivial⟩⟩
   rw[←p4,show l.length - i=(l.length - (i+1))+1 by omega,xD,if_neg (show ¬He l k= []from hb),List.append_assoc];rfl
 · refine .freeze _ 5 9 1 _ _ rfl (.weak _ ?_);conv=>whnf
   refine⟨.d (ir o),[],lr,⟨?_,rfl⟩,trivial⟩;rw[←p4,show l.length - i=0 by omega,xD,List.append_nil]
theorem O2 (l:List (List UInt8))(hl:l.length≤2^40)(v:List UInt8):ai Tryz.prog 240 [.d (ir l),.d (.str v)] [] (fun x r=>x= .d (.int .i64 (j7 (fun i=>l.getD i []==v) l.length))∧r= []):=by
 refine af hT (C:= []) Tryz.func240 rfl Tryz.call240 rfl rfl rfl ?_;conv=>whnf
 refine ah hT (C:= []) (ι:=Nat) (fun i=>i≤l.length∧∀j,j<i→(l.getD j []==v)=false) (fun i=>aN [(0,.d (ir l)),(1,.d (.str v)),(7,.d (.int .i64 l.length)),(8,.d (.int .i64 i))] []) (fun i=>l.length - i) 0 ⟨by omega,by omega⟩ (by exact bz []) ?_;rintro i ⟨p1,p2⟩;have e1:(i:Int).toNat=i:=Int.toNat_natCast i;conv=>whnf
 repeat' (first|((first|(refine aa ?_ ?_<;>intro hb<;>try simp only[az]at hb)|omega|refine aA ?_|decide|assumption)<;>conv=>whnf))
 · refine .ret _ ?_;conv=>whnf
   refine⟨[],⟨?_,rfl⟩,trivial⟩;conv=>lhs;whnf
   congr 2
   exact(gm (by omega) p2 (by rw[←hb];simp)).symm
 · exact⟨i+1,⟨by omega,bH p2 (beq_eq_false_iff_ne.2 fun q=>hb q.symm)⟩,by omega,(by exact bz [])⟩
 · refine .ret _ ?_;conv=>whnf
   refine⟨[],⟨?_,rfl⟩,trivial⟩;conv=>lhs;whnf
   congr 2
   have:i=l.length:=by omega
   subst this;exact(eG p2).symm
theorem Ia (l:List (List UInt8))(v:List UInt8):decide (0≤j7 (fun i=>l.getD i []==v) l.length)=decide (v ∈ l):=by
 rw[decide_eq_decide];constructor
 · intro h;have:=e6 (p:=fun i=>l.getD i []==v) (n:=l.length);rw[←eq_of_beq (this.2.2 h)];exact aq (by omega)
 · intro h;obtain⟨j,hj,rfl⟩:=bQ (d:= []) h;exact mV hj (by simp)
theorem Qu (l:List (List UInt8))(hl:l.length≤2^40)(v:List UInt8):ai Tryz.prog 191 [.d (ir l),.d (.str v)] [] (fun x r=>x= .d (.bool (decide (v ∈ l)))∧r= []):=by
 refine af hT (C:= []) Tryz.func191 rfl Tryz.call191 rfl rfl rfl ?_;conv=>whnf
 repeat' (first|(refine ac (O2 l hl v) rfl rfl ?_;rotate_right;conv=>whnf)|((first|(refine aa ?_ ?_<;>intro hb<;>try simp only[az]at hb)|omega|refine aA ?_|decide|assumption)<;>conv=>whnf))
 refine .ret _ ?_;conv=>whnf
 refine⟨[],⟨?_,rfl⟩,trivial⟩;conv=>lhs;whnf
 rw[←Ia]
def Bj (l:List ip):Nat→List UInt8→List UInt8
 |0,k=>k
 |n+1,k=>Bj l n (He l k)
theorem xp (l:List ip):∀ (a b:Nat) (k:List UInt8),Bj l (a+b) k=Bj l b (Bj l a k):=by
 intro a
 induction a with
 |zero=>intro b k;rw[Nat.zero_add];rfl
 |succ a ih=>intro b k;rw[show a+1+b=(a+b)+1 by omega,Bj,ih,Bj]
theorem CZ (l:List ip):∀ (n:Nat) (k v:List UInt8),v ∈ xD l n k↔∃j,j<n∧Bj l (j+1) k=v∧∀i,i≤j→Bj l (i+1) k≠ []:=by
 intro n
 induction n with
 |zero=>intro k v;simp[xD]
 | succ n ih=>
   intro k v;rw[xD]
   by_cases h:He l k= []
   · rw[if_pos h];constructor
     · intro q;cases q
     · rintro⟨j,_,_,h3⟩;exact absurd h (h3 0 (by omega))
   · rw [if_neg h,List.mem_cons,ih];constructor
     · rintro(rfl|⟨j,h1,h2,h3⟩)
       · exact⟨0,by omega,rfl,fun i hi=>by
                     obtain rfl:i=0:=by omega
                     exact h⟩
       · refine⟨j+1,by omega,h2,fun i hi=> ?_⟩
         cases i with
         |zero=>exact h
         |succ i=>exact h3 i (by omega)
     · rintro⟨j,h1,h2,h3⟩
       cases j with
       |zero=>exact .inl h2.symm
       |succ j=>exact .inr ⟨j,by omega,h2,fun i hi=>h3 (i+1) (by omega)⟩
theorem JR {α:Type}{l m:List α}(h:l.Nodup)(hs:∀x ∈ l,x ∈ m):l.length≤m.length:=by
 induction l generalizing m with
 |nil=>simp
 | cons x l ih=>
   rw[List.nodup_cons]at h;obtain⟨a,b,rfl⟩:=List.append_of_mem (hs x (by simp))
   have:=ih (m:=a++b) h.2 (fun y hy=>by
    have q:=hs y (by simp[hy]);simp only[List.mem_append,List.mem_cons]at q ⊢;rcases q with q|q|q
    · exact .inl q
    · subst q;exact absurd hy h.1
    · exact .inr q)
   simp at this ⊢;omega
theorem G3 {l:List ip}{k:List UInt8}(h:0≤gd l k):k ∈ l.map (·.key):=by
 rw[←Hz h];exact List.mem_map_of_mem (aq (by have:=(wu l k).2;omega))
theorem J9 {l:List ip}(hu:Ck l){k:List UInt8}(hk:0≤gd l k):∀ (j:Nat),(∀i,i<j→Bj l (i+1) k≠ [])→0≤gd l (Bj l j k):=by
 intro j
 induction j with
 |zero=>intro _;exact hk
 | succ j ih=>
   intro h;have h1:=ih (fun i hi=>h i (by omega));have h2:=h j (by omega);have e:Bj l (j+1) k=He l (Bj l j k):=by rw[xp];rfl
   rw[e]at h2 ⊢;exact hu _ (aq (by have:=(wu l (Bj l j k)).2;omega)) h2
theorem Ih {l:List ip}(hu:Ck l){k:List UInt8}(hk:0≤gd l k):k ∈ xD l (l.length+1) k↔k ∈ xD l l.length k:=by
 rw[CZ,CZ];constructor
 · rintro⟨j,h1,h2,h3⟩
   by_cases hj:j<l.length
   · exact⟨j,hj,h2,h3⟩
   · have hj:j=l.length:=by omega
     subst hj
     by_cases hex:∃j',j'<l.length∧Bj l (j'+1) k=k
     · obtain⟨j',q1,q2⟩:=hex;exact⟨j',q1,q2,fun i hi=>h3 i (by omega)⟩
     · exfalso
       have hnd:((List.range (l.length+1)).map fun j=>Bj l j k).Nodup:=by
        rw[List.nodup_iff_pairwise_ne,List.pairwise_map];refine List.Pairwise.imp_of_mem ?_ List.pairwise_lt_range;intro a b ha hb hab he;rw[List.mem_range]at ha hb;refine hex ⟨a+(l.length+1 - b) - 1,by omega,?_⟩;rw[show a+(l.length+1 - b) - 1+1=a+(l.length+1 - b)by omega,xp,he,←xp,show b+(l.length+1 - b)=l.length+1 by omega];exact h2
       have:=JR (m:=l.map (·.key)) hnd (fun x hx=>by
        obtain⟨j,hj,rfl⟩:=List.mem_map.1 hx;rw[List.mem_range]at hj
        exact G3 (J9 hu hk j (fun i hi=>h3 i (by omega))))
       simp at this;omega
 · rintro⟨j,h1,h2,h3⟩;exact⟨j,by omega,h2,h3⟩
theorem Gl {l:List ip}{c:ip}(h:c ∈ l):0≤gd l c.key:=by
 obtain⟨j,hj,rfl⟩:=bQ (d:=cW) h;exact mV hj (by simp)
def vC (l:List ip)(i:Nat):Int:=
 if aG (l.getD i cW).key=false then 5 else if 0<i∧cV (l.getD i cW).key (l.getD (i - 1) cW).key=true then 7
 else if(l.getD i cW).up≠ []∧aG (l.getD i cW).up=false then 5 else 0
def ve (l:List ip)(i:Nat):Int:=if(l.getD i cW).up≠ []∧gd l (l.getD i cW).up<0 then 8 else 0
def y7 (l:List ip)(i:Nat):Int:=if(l.getD i cW).key ∈ xD l l.length (l.getD i cW).key then 14 else 0
def gF (l:List ip):Int:=if 30<l.length then 2 else al [aX (vC l) l.length,aX (ve l) l.length,aX (y7 l) l.length]
def lT (l:List ip):Prop:=l.length≤2^20∧∀c ∈ l,c.key.length≤2^40∧c.up.length≤2^40
def kX (a b:zR):Int:=al [eU a.frm b.frm,dM a.veh b.veh,dM a.plt b.plt]
def O6 (p:zR):aY:=.cells 307 ((NE p).map .d)
def Hh (p o:zR):Bool:=decide (o.frm=p.frm)&&(o.veh==p.veh||o.plt==p.plt)
def wT (l:List uf):Prop:=∀i j,i<j→j<l.length→Op.bytesLess (l.getD i cp).key (l.getD j cp).key=true
theorem Nc (v:uf)(key:List UInt8):ai Tryz.prog 242 [.agg ((Io v).map .d),.d (.str key)] [] (fun y r=>y= .d (.int .i64 (dM v.key key))∧r= []):=by
 refine af hT (C:= []) Tryz.func242 rfl Tryz.call242 rfl rfl rfl ?_;conv=>whnf
 repeat' (first|(refine ac (yE _ _) rfl rfl ?_;rotate_right;conv=>whnf)|((first|(refine aa ?_ ?_<;>intro hb<;>try simp only[az]at hb)|omega|refine aA ?_|decide|assumption)<;>conv=>whnf))
 refine .ret _ ?_;conv=>whnf
 refine⟨[],⟨?_,rfl⟩,trivial⟩;conv=>lhs;whnf
theorem zc (a b:List UInt8):dM a b<0↔Op.bytesLess a b=true:=by unfold dM;grind
theorem th (a b:List UInt8):dM a b=0↔a=b:=by
 unfold dM;grind [gu,ek]
theorem zf (lo hi:Nat)(h:hi≤2^20)(hl:lo≤hi):IntKind.wrap .u64 ((lo:Int)+hi)/2=(((lo+hi)/2:Nat):Int):=by
 unfold IntKind.wrap;simp[IntKind.signed,IntKind.bits];omega
theorem CV {l:List uf}(hs:wT l){key:List UInt8}{i j:Nat}(hij:i≤j)(hj:j<l.length)(h:Op.bytesLess (l.getD j cp).key key=true):Op.bytesLess (l.getD i cp).key key=true:=by
 rcases Nat.lt_or_ge i j with q|q
 · exact fQ (hs i j q hj) h
 · obtain rfl:i=j:=by omega
   exact h
theorem E4 {l:List uf}(hs:wT l){i:Nat}(hi:i<l.length):rn l (l.getD i cp).key=i:=by
 refine gm hi (fun j hj=> ?_) (by simp);rw[beq_eq_false_iff_ne];intro e;have:=hs j i hj hi;rw[e,ek]at this;cases this
theorem CU {l:List uf}{key:List UInt8}(h:∀i,i<l.length→(l.getD i cp).key≠key):rn l key= -1:=
 eG fun j hj=>beq_eq_false_iff_ne.2 (h j hj)
theorem Qq (l:List uf)(hl:l.length≤2^20)(hs:wT l)(key:List UInt8):ai Tryz.prog 241 [.d (rf l),.d (.str key),.fn 242 []] []
 (fun y r=>(∃j:Nat,∃b:Bool,y= .tup [.d (.int .i64 j),.d (.bool b)]∧rn l key=if b=true then(j:Int)else -1)∧r= []):=by
 refine af hT (C:= []) Tryz.func241 rfl Tryz.call241 rfl rfl rfl ?_;conv=>whnf
 refine ah hT (C:= []) (ι:=Nat×Nat) (fun(lo,hi)=>(lo≤hi∧hi≤l.length)∧(∀j,j<lo→Op.bytesLess (l.getD j cp).key key=true)∧∀j,hi≤j→j<l.length→Op.bytesLess (l.getD j cp).key key=false)
  (fun(lo,hi)=>aN [(0,.d (rf l)),(1,.d (.str key)),(2,.fn 242 []),(8,.d (.int .i64 l.length)),(9,.d (.int .i64 lo)),(10,.d (.int .i64 hi))] []) (fun(lo,hi)=>hi - lo) (0,l.length)
  ⟨⟨by simp,by simp⟩,fun j hj=>by omega,fun j h1 h2=>by omega⟩ (by exact bz []) ?_
 rintro⟨lo,hi⟩ ⟨⟨p1,p2⟩,p3,p4⟩;have p1:lo≤hi:=p1;have p2:hi≤l.length:=p2;have p3:∀j,j<lo→Op.bytesLess (l.getD j cp).key key=true:=p3;have p4:∀j,hi≤j→j<l.length→Op.bytesLess (l.getD j cp).key key=false:=p4;have hh:=zf lo hi (by omega) p1;obtain⟨M,hM⟩:∃M,M=(lo+hi)/2:=⟨_,rfl⟩;rw[←hM]at hh;have e1:((M:Nat):Int).toNat=M:=Int.toNat_natCast M;have e2:((lo:Nat):Int).toNat=lo:=Int.toNat_natCast lo;conv=>whnf
 repeat' (first|(refine⟨rfl,?_⟩;conv=>whnf)|(rw[hh];conv=>whnf)|(refine ac (Nc (l.getD (M:Int).toNat cp) key) rfl rfl ?_;rotate_right;conv=>whnf)|(refine ac (Nc (l.getD (lo:Int).toNat cp) key) rfl rfl ?_;rotate_right;conv=>whnf)|((first|(refine aa ?_ ?_<;>intro hb<;>try simp only[az]at hb)|omega|refine aA ?_|decide|assumption)<;>conv=>whnf))
 · have hb1:=(zc _ _).1 hb;exact⟨(M+1,hi),⟨⟨by omega,p2⟩,fun j hj=>CV hs (show j≤M by omega) (by omega) hb1,p4⟩,by show hi - (M+1)<hi - lo;omega,(by exact bz [])⟩
 · have hb1:Op.bytesLess (l.getD M cp).key key=false:=by
    rw[←Bool.not_eq_true,←zc];omega
   refine⟨(lo,M),⟨⟨by omega,by omega⟩,p3,fun j h1 h2=> ?_⟩,by show M - lo<hi - lo;omega,(by exact bz [])⟩;rw[←Bool.not_eq_true];intro q;rw[CV hs h1 h2 q]at hb1;cases hb1
 · refine .ret _ ?_;conv=>whnf
   refine⟨[],⟨⟨lo,decide (dM (l.getD lo cp).key key=0),rfl,?_⟩,rfl⟩,trivial⟩
   by_cases q:(l.getD lo cp).key=key
   · rw[if_pos (by rw[decide_eq_true_eq,th];exact q),←q];exact E4 hs (by omega)
   · rw[if_neg (by rw[decide_eq_true_eq,th];exact q)];have h0:=p4 lo (by omega) (by omega);have h1:=gu _ _ h0 q;refine CU fun i hi2 e=> ?_
     rcases Nat.lt_trichotomy i lo with r|r|r
     · have:=p3 i r;rw[e,ek]at this;cases this
     · subst r;exact q e
     · have:=fQ h1 (hs lo i r hi2);rw[e,ek]at this;cases this
 · refine .ret _ ?_;conv=>whnf
   refine⟨[],⟨⟨lo,false,rfl,?_⟩,rfl⟩,trivial⟩;rw[if_neg (by simp)];refine CU fun i hi2 e=> ?_
   have:=p3 i (by omega);rw[e,ek]at this;cases this
def gV:OL:= [(0,[]),(1,[]),(2,[]),(3,[]),(4,[]),(5,[3,4]),(6,[3,4,5]),(7,[3,4,5]),(8,[3,4]),(9,[3,4]),(10,[3,4]),(11,[]),(12,[]),(13,[])]
def fY:OL:= [(0,[]),(1,[0]),(2,[0]),(4,[0,1,2]),(5,[0,1,2]),(3,[4,5]),(6,[])]
set_option maxHeartbeats 2000000 in
theorem z175 (l:List ip)(hk:lT l):ai Tryz.prog 137 [.d (jk l)] [] (fun x r=>x= .d (.int .i64 (gF l))∧r= []):=by
 have hlen:=hk.1;refine af hT (C:= []) Tryz.func137 rfl Tryz.call137 rfl rfl rfl ?_;conv=>whnf
 refine aa (fun h0=> ?_) (fun h0=> ?_)
 · simp at h0;conv=>whnf
   refine .ret _ ?_;conv=>whnf
   refine⟨[],⟨?_,rfl⟩,trivial⟩;conv=>lhs;whnf
   unfold gF;rw[if_pos (by omega)]
 simp at h0;conv=>whnf
 refine ah hT (C:= []) (ι:=Nat) (fun i=>i≤l.length∧∀j,j<i→vC l j=0) (fun i=>aN [(0,.d (jk l)),(12,.d (jk l)),(13,.d (.int .i64 l.length)),(14,.d (.int .i64 i))] []) (fun i=>l.length - i) 0 ⟨by omega,by omega⟩ (by exact bz []) ?_;rintro i ⟨p1,p2⟩;have hx:(i:Int)<l.length→(l.getD (i:Int).toNat cW).key.length≤2^40∧(l.getD (i:Int).toNat cW).up.length≤2^40:=fun hi=>hk.2 _ (aq (by omega))
 have e1:(i:Int).toNat=i:=Int.toNat_natCast i
 have hbad:∀e:Int,i<l.length→e≠0→vC l i=e→gF l=e:=fun e h h1 h2=>by
  unfold gF;rw[if_neg (by omega),aT h p2 h1 h2,al,if_neg h1]
 rcases Nat.lt_or_ge i l.length with hi|hi
 · conv =>whnf
   repeat' (first|(refine ac (gC _ (hx (by omega)).1) rfl rfl ?_;rotate_right;conv=>whnf)|(refine ac (gC _ (hx (by omega)).2) rfl rfl ?_;rotate_right;conv=>whnf)|((first|(refine aa ?_ ?_<;>intro hb<;>try simp only[az]at hb)|refine aw hT 8 gV ?_|refine aw hT 22 fY ?_|omega|refine aA ?_|decide|assumption)<;>conv=>whnf))
   all_goals try(exfalso;omega)
   all_goals first
    |(refine⟨i+1,⟨by omega,aQ p2 (by clear p2 hbad hk hx;simp only[e1,aJ]at*;unfold vC cV;grind)⟩,by omega,(by exact bz [])⟩)
    | (refine .ret _ ?_
       conv=>whnf
       refine⟨[],⟨?_,rfl⟩,trivial⟩;conv=>lhs;whnf
       congr 2
       exact(hbad _ (by omega) (by decide) (by clear p2 hbad hk hx;simp only[e1,aJ]at*;unfold vC cV;grind)).symm)
 have hil:i=l.length:=by omega
 subst hil;have P1:=aC p2;clear hbad hx p2;conv=>whnf
 repeat' (first|((first|(refine aa ?_ ?_<;>intro hb<;>try simp only[az]at hb)|refine aw hT 8 gV ?_|refine aw hT 22 fY ?_|omega|refine aA ?_|decide|assumption)<;>conv=>whnf))
 all_goals try(exfalso;omega)
 refine ah hT (C:= []) (ι:=Nat) (fun i=>i≤l.length∧∀j,j<i→ve l j=0) (fun i=>aN [(0,.d (jk l)),(49,.d (jk l)),(50,.d (.int .i64 l.length)),(51,.d (.int .i64 i))] []) (fun i=>l.length - i) 0 ⟨by omega,by omega⟩ (by exact bz []) ?_;rintro i ⟨p1,p2⟩;have e1:(i:Int).toNat=i:=Int.toNat_natCast i
 have hbad:∀e:Int,i<l.length→e≠0→ve l i=e→gF l=e:=fun e h h1 h2=>by
  unfold gF;rw[if_neg (by omega),al,if_pos P1,al,aT h p2 h1 h2,if_neg h1]
 rcases Nat.lt_or_ge i l.length with hi|hi
 · conv =>whnf
   repeat' (first|(refine ac (Kk l (by omega) _) rfl rfl ?_;rotate_right;conv=>whnf)|((first|(refine aa ?_ ?_<;>intro hb<;>try simp only[az]at hb)|refine aw hT 8 gV ?_|refine aw hT 22 fY ?_|omega|refine aA ?_|decide|assumption)<;>conv=>whnf))
   all_goals try(exfalso;omega)
   all_goals first
    |(refine⟨i+1,⟨by omega,aQ p2 (by clear p2 hbad hk;simp only[e1]at*;unfold ve;grind)⟩,by omega,(by exact bz [])⟩)
    | (refine .ret _ ?_
       conv=>whnf
       refine⟨[],⟨?_,rfl⟩,trivial⟩;conv=>lhs;whnf
       congr 2
       exact(hbad _ (by omega) (by decide) (by clear p2 hbad hk;simp only[e1]at*;unfold ve;grind)).symm)
 have hil:i=l.length:=by omega
 subst hil;have P2:=aC p2
 have hu:Ck l:=fun c hc hn=>by
  obtain⟨j,hj,rfl⟩:=bQ (d:=cW) hc;have:=p2 j hj;unfold ve at this;rcases Int.lt_or_le (gd l (l.getD j cW).up) 0 with q|q
  · rw[if_pos ⟨hn,q⟩]at this;cases this
  · exact q
 clear hbad p2;conv=>whnf
 repeat' (first|((first|(refine aa ?_ ?_<;>intro hb<;>try simp only[az]at hb)|refine aw hT 8 gV ?_|refine aw hT 22 fY ?_|omega|refine aA ?_|decide|assumption)<;>conv=>whnf))
 all_goals try(exfalso;omega)
 refine ah hT (C:= []) (ι:=Nat) (fun i=>i≤l.length∧∀j,j<i→y7 l j=0) (fun i=>aN [(0,.d (jk l)),(66,.d (jk l)),(67,.d (.int .i64 l.length)),(68,.d (.int .i64 i))] []) (fun i=>l.length - i) 0 ⟨by omega,by omega⟩ (by exact bz []) ?_;rintro i ⟨p1,p2⟩;have e1:(i:Int).toNat=i:=Int.toNat_natCast i
 have hbad:∀e:Int,i<l.length→e≠0→y7 l i=e→gF l=e:=fun e h h1 h2=>by
  unfold gF;rw[if_neg (by omega),al,if_pos P1,al,if_pos P2,al,aT h p2 h1 h2,if_neg h1]
 rcases Nat.lt_or_ge i l.length with hi|hi
 · have hin:=Gl (l:=l) (c:=l.getD (i:Int).toNat cW) (aq (by omega));have hal:=IA l l.length (l.getD (i:Int).toNat cW).key;have hlo:=Ih hu hin;conv=>whnf
   repeat' (first|(refine ac (O1 l hlen hu _ hin) rfl rfl ?_;rotate_right;conv=>whnf)|(refine ac (Qu _ (by omega) _) rfl rfl ?_;rotate_right;conv=>whnf)|((first|(refine aa ?_ ?_<;>intro hb<;>try simp only[az]at hb)|refine aw hT 8 gV ?_|refine aw hT 22 fY ?_|omega|refine aA ?_|decide|assumption)<;>conv=>whnf))
   all_goals try(exfalso;omega)
   all_goals first
    |(refine⟨i+1,⟨by omega,aQ p2 (by clear p2 hbad hk;simp only[e1]at*;unfold y7;grind)⟩,by omega,(by exact bz [])⟩)
    | (refine .ret _ ?_
       conv=>whnf
       refine⟨[],⟨?_,rfl⟩,trivial⟩;conv=>lhs;whnf
       congr 2
       exact(hbad _ (by omega) (by decide) (by clear p2 hbad hk;simp only[e1]at*;unfold y7;grind)).symm)
 have hil:i=l.length:=by omega
 subst hil;have P3:=aC p2;conv=>whnf
 repeat' (first|((first|(refine aa ?_ ?_<;>intro hb<;>try simp only[az]at hb)|refine aw hT 8 gV ?_|refine aw hT 22 fY ?_|omega|refine aA ?_|decide|assumption)<;>conv=>whnf))
 all_goals try(exfalso;omega)
 refine .ret _ ?_;conv=>whnf
 refine⟨[],⟨?_,rfl⟩,trivial⟩;conv=>lhs;whnf
 unfold gF;rw[if_neg (by omega),al,if_pos P1,al,if_pos P2,al,if_pos P3];rfl
def dV:OL:= [(0,[]),(1,[]),(2,[]),(3,[]),(4,[]),(5,[3,4]),(6,[3,4,5]),(7,[3,4,5]),(8,[3,4]),(9,[3,4]),(10,[3,4]),(11,[]),(12,[]),(13,[])]
def GQ (s:xC)(k:Nat):Bool:=decide ((0≤s.h (2*k)∧s.h (2*k)≤s.h (2*k+1))∧s.h (2*k+1)≤1440)
def BU (s:xC):Bool:=(List.range 7).all (GQ s)
theorem IW {s:xC}(h:∀j,j<7→GQ s j=true):BU s=true:=by
 unfold BU;rw[List.all_eq_true];intro j hj;exact h j (List.mem_range.1 hj)
theorem oo {s:xC}{j:Nat}(hj:j<7)(h:GQ s j=false):BU s=false:=by
 unfold BU;rw[List.all_eq_false];exact⟨j,List.mem_range.2 hj,by simp[h]⟩
def Ac (l:List xC)(i:Nat):Int:=
 if aG (l.getD i wx).key=false then 5 else if 0<i∧cV (l.getD i wx).key (l.getD (i - 1) wx).key=true then 7 else if BU (l.getD i wx)=false then 1 else 0
def mj (l:List xC):Int:=if 50<l.length then 2 else aX (Ac l) l.length
def Gq (l:List xC):Prop:=l.length≤2^20∧∀c ∈ l,c.key.length≤2^40
set_option maxHeartbeats 4000000 in
theorem Pd (l : List xC)(hk:Gq l):ai Tryz.prog 136 [.d (oa l)] [] (fun x r=>x= .d (.int .i64 (mj l))∧r= []):=by
 have hlen:=hk.1;refine af hT (C:= []) Tryz.func136 rfl Tryz.call136 rfl rfl rfl ?_;conv=>whnf
 refine aa (fun h0=> ?_) (fun h0=> ?_)
 · simp at h0;conv=>whnf
   refine .ret _ ?_;conv=>whnf
   refine⟨[],⟨?_,rfl⟩,trivial⟩;conv=>lhs;whnf
   unfold mj;rw[if_pos (by omega)]
 simp at h0;conv=>whnf
 refine ah hT (C:= []) (ι:=Nat) (fun i=>i≤l.length∧∀j,j<i→Ac l j=0) (fun i=>aN [(0,.d (oa l)),(10,.d (oa l)),(11,.d (.int .i64 l.length)),(12,.d (.int .i64 i))] []) (fun i=>l.length - i) 0 ⟨by omega,by omega⟩ (by exact bz []) ?_;rintro i ⟨p1,p2⟩;have hx:(i:Int)<l.length→(l.getD (i:Int).toNat wx).key.length≤2^40:=fun hi=>hk.2 _ (aq (by omega))
 have e1:(i:Int).toNat=i:=Int.toNat_natCast i
 have hbad:∀e:Int,i<l.length→e≠0→Ac l i=e→mj l=e:=fun e h h1 h2=>by
  unfold mj;rw[if_neg (by omega)];exact aT h p2 h1 h2
 rcases Nat.lt_or_ge i l.length with hi|hi
 · obtain ⟨s,hs⟩:∃s,s=l.getD (i:Int).toNat wx:=⟨_,rfl⟩;conv=>whnf
   repeat' (first|(refine ac (gC _ (hx (by omega))) rfl rfl ?_;rotate_right;conv=>whnf)|((first|(refine aa ?_ ?_<;>intro hb<;>try simp only[az]at hb)|refine aw hT 8 dV ?_|omega|refine aA ?_|decide|assumption)<;>conv=>whnf))
   all_goals try(exfalso;omega)
   all_goals first
    | (refine .ret _ ?_
       conv=>whnf
       refine⟨[],⟨?_,rfl⟩,trivial⟩;conv=>lhs;whnf
       congr 2
       exact(hbad _ (by omega) (by decide) (by clear p2 hbad hk hx;simp only[e1,aJ]at*;unfold Ac cV;grind)).symm)
    | (have hok:Ac l i=if BU s=false then 1 else 0:=by
        clear p2 hbad hk hx;simp only[e1,aJ]at*;subst hs;unfold Ac cV;grind
       refine ah hT (C:= []) (ι:=Nat) (fun k=>k≤7∧∀j,j<k→GQ s j=true) (fun k=>aN [(0,.d (oa l)),(10,.d (oa l)),(11,.d (.int .i64 l.length)),(12,.d (.int .i64 i)),(37,.agg (((M5 s).drop 1).map .d)),(38,.d (.int .i64 k))] []) (fun k=>7 - k) 0 ⟨by omega,by omega⟩ (by rw[hs];exact(by exact bz [])) ?_;rintro k ⟨q1,q2⟩;have hkk:k=7∨k=0∨k=1∨k=2∨k=3∨k=4∨k=5∨k=6:=by omega
       rcases hkk with rfl|rfl|rfl|rfl|rfl|rfl|rfl|rfl
       · rw[IW q2]at hok;conv=>whnf
         repeat' (first|((first|(refine aa ?_ ?_<;>intro hb<;>try simp only[az]at hb)|refine aw hT 8 dV ?_|omega|refine aA ?_|decide|assumption)<;>conv=>whnf))
         exact⟨i+1,⟨by omega,aQ p2 (by rw[hok];rfl)⟩,by omega,(by exact bz [])⟩
       · conv =>whnf
         repeat' (first|(refine ac (fA _ _ _) rfl rfl ?_;rotate_right;conv=>whnf)|((first|(refine aa ?_ ?_<;>intro hb<;>try simp only[az]at hb)|refine aw hT 8 dV ?_|omega|refine aA ?_|decide|assumption)<;>conv=>whnf))
         all_goals first
          | (refine .ret _ ?_
             conv=>whnf
             refine⟨[],⟨?_,rfl⟩,trivial⟩;conv=>lhs;whnf
             congr 2
             exact(hbad _ (by omega) (by decide) (by rw[hok,oo (j:=0) (by omega) (by show decide ((0≤s.h 0∧s.h 0≤s.h 1)∧s.h 1≤1440)=false;rw[decide_eq_false_iff_not];omega)];rfl)).symm)
          |exact⟨1,⟨by omega,bH (p:=fun j=>GQ s j=true) (i:=0) q2 (by show decide ((0≤s.h 0∧s.h 0≤s.h 1)∧s.h 1≤1440)=true;rw[decide_eq_true_eq];omega)⟩,by omega,(by exact bz [])⟩
       · conv =>whnf
         repeat' (first|(refine ac (fA _ _ _) rfl rfl ?_;rotate_right;conv=>whnf)|((first|(refine aa ?_ ?_<;>intro hb<;>try simp only[az]at hb)|refine aw hT 8 dV ?_|omega|refine aA ?_|decide|assumption)<;>conv=>whnf))
         all_goals first
          | (refine .ret _ ?_
             conv=>whnf
             refine⟨[],⟨?_,rfl⟩,trivial⟩;conv=>lhs;whnf
             congr 2
             exact(hbad _ (by omega) (by decide) (by rw[hok,oo (j:=1) (by omega) (by show decide ((0≤s.h 2∧s.h 2≤s.h 3)∧s.h 3≤1440)=false;rw[decide_eq_false_iff_not];omega)];rfl)).symm)
          |exact⟨2,⟨by omega,bH (p:=fun j=>GQ s j=true) (i:=1) q2 (by show decide ((0≤s.h 2∧s.h 2≤s.h 3)∧s.h 3≤1440)=true;rw[decide_eq_true_eq];omega)⟩,by omega,(by exact bz [])⟩
       · conv =>whnf
         repeat' (first|(refine ac (fA _ _ _) rfl rfl ?_;rotate_right;conv=>whnf)|((first|(refine aa ?_ ?_<;>intro hb<;>try simp only[az]at hb)|refine aw hT 8 dV ?_|omega|refine aA ?_|decide|assumption)<;>conv=>whnf))
         all_goals first
          | (refine .ret _ ?_
             conv=>whnf
             refine⟨[],⟨?_,rfl⟩,trivial⟩;conv=>lhs;whnf
             congr 2
             exact(hbad _ (by omega) (by decide) (by rw[hok,oo (j:=2) (by omega) (by show decide ((0≤s.h 4∧s.h 4≤s.h 5)∧s.h 5≤1440)=false;rw[decide_eq_false_iff_not];omega)];rfl)).symm)
          |exact⟨3,⟨by omega,bH (p:=fun j=>GQ s j=true) (i:=2) q2 (by show decide ((0≤s.h 4∧s.h 4≤s.h 5)∧s.h 5≤1440)=true;rw[decide_eq_true_eq];omega)⟩,by omega,(by exact bz [])⟩
       · conv =>whnf
         repeat' (first|(refine ac (fA _ _ _) rfl rfl ?_;rotate_right;conv=>whnf)|((first|(refine aa ?_ ?_<;>intro hb<;>try simp only[az]at hb)|refine aw hT 8 dV ?_|omega|refine aA ?_|decide|assumption)<;>conv=>whnf))
         all_goals first
          | (refine .ret _ ?_
             conv=>whnf
             refine⟨[],⟨?_,rfl⟩,trivial⟩;conv=>lhs;whnf
             congr 2
             exact(hbad _ (by omega) (by decide) (by rw[hok,oo (j:=3) (by omega) (by show decide ((0≤s.h 6∧s.h 6≤s.h 7)∧s.h 7≤1440)=false;rw[decide_eq_false_iff_not];omega)];rfl)).symm)
          |exact⟨4,⟨by omega,bH (p:=fun j=>GQ s j=true) (i:=3) q2 (by show decide ((0≤s.h 6∧s.h 6≤s.h 7)∧s.h 7≤1440)=true;rw[decide_eq_true_eq];omega)⟩,by omega,(by exact bz [])⟩
       · conv =>whnf
         repeat' (first|(refine ac (fA _ _ _) rfl rfl ?_;rotate_right;conv=>whnf)|((first|(refine aa ?_ ?_<;>intro hb<;>try simp only[az]at hb)|refine aw hT 8 dV ?_|omega|refine aA ?_|decide|assumption)<;>conv=>whnf))
         all_goals first
          | (refine .ret _ ?_
             conv=>whnf
             refine⟨[],⟨?_,rfl⟩,trivial⟩;conv=>lhs;whnf
             congr 2
             exact(hbad _ (by omega) (by decide) (by rw[hok,oo (j:=4) (by omega) (by show decide ((0≤s.h 8∧s.h 8≤s.h 9)∧s.h 9≤1440)=false;rw[decide_eq_false_iff_not];omega)];rfl)).symm)
          |exact⟨5,⟨by omega,bH (p:=fun j=>GQ s j=true) (i:=4) q2 (by show decide ((0≤s.h 8∧s.h 8≤s.h 9)∧s.h 9≤1440)=true;rw[decide_eq_true_eq];omega)⟩,by omega,(by exact bz [])⟩
       · conv =>whnf
         repeat' (first|(refine ac (fA _ _ _) rfl rfl ?_;rotate_right;conv=>whnf)|((first|(refine aa ?_ ?_<;>intro hb<;>try simp only[az]at hb)|refine aw hT 8 dV ?_|omega|refine aA ?_|decide|assumption)<;>conv=>whnf))
         all_goals first
          | (refine .ret _ ?_
             conv=>whnf
             refine⟨[],⟨?_,rfl⟩,trivial⟩;conv=>lhs;whnf
             congr 2
             exact(hbad _ (by omega) (by decide) (by rw[hok,oo (j:=5) (by omega) (by show decide ((0≤s.h 10∧s.h 10≤s.h 11)∧s.h 11≤1440)=false;rw[decide_eq_false_iff_not];omega)];rfl)).symm)
          |exact⟨6,⟨by omega,bH (p:=fun j=>GQ s j=true) (i:=5) q2 (by show decide ((0≤s.h 10∧s.h 10≤s.h 11)∧s.h 11≤1440)=true;rw[decide_eq_true_eq];omega)⟩,by omega,(by exact bz [])⟩
       · conv =>whnf
         repeat' (first|(refine ac (fA _ _ _) rfl rfl ?_;rotate_right;conv=>whnf)|((first|(refine aa ?_ ?_<;>intro hb<;>try simp only[az]at hb)|refine aw hT 8 dV ?_|omega|refine aA ?_|decide|assumption)<;>conv=>whnf))
         all_goals first
          | (refine .ret _ ?_
             conv=>whnf
             refine⟨[],⟨?_,rfl⟩,trivial⟩;conv=>lhs;whnf
             congr 2
             exact(hbad _ (by omega) (by decide) (by rw[hok,oo (j:=6) (by omega) (by show decide ((0≤s.h 12∧s.h 12≤s.h 13)∧s.h 13≤1440)=false;rw[decide_eq_false_iff_not];omega)];rfl)).symm)
          |exact⟨7,⟨by omega,bH (p:=fun j=>GQ s j=true) (i:=6) q2 (by show decide ((0≤s.h 12∧s.h 12≤s.h 13)∧s.h 13≤1440)=true;rw[decide_eq_true_eq];omega)⟩,by omega,(by exact bz [])⟩)
 have hil:i=l.length:=by omega
 subst hil;conv=>whnf
 repeat' (first|((first|(refine aa ?_ ?_<;>intro hb<;>try simp only[az]at hb)|refine aw hT 8 dV ?_|omega|refine aA ?_|decide|assumption)<;>conv=>whnf))
 all_goals try(exfalso;omega)
 refine .ret _ ?_;conv=>whnf
 refine⟨[],⟨?_,rfl⟩,trivial⟩;conv=>lhs;whnf
 congr 2
 unfold mj;rw[if_neg (by omega),aC p2]
def jz (f:rT)(i:Nat):Int:=
 if aG (f.veh.getD i cp).key=false then 5 else if 0<i∧cV (f.veh.getD i cp).key (f.veh.getD (i - 1) cp).key=true then 7
 else if gd f.cls (f.veh.getD i cp).cls<0 then 8 else 0
def oN (f:rT)(i:Nat):Int:=
 if ¬ (0≤(f.plt.getD i dS).frm∧(f.plt.getD i dS).frm≤5761439)then 1 else if rn f.veh (f.plt.getD i dS).veh<0 then 8 else if i7 (f.plt.getD i dS).plt=false then 3
 else if 0<i∧0≤kX (f.plt.getD (i - 1) dS) (f.plt.getD i dS)then 7 else if((f.plt.take i).any (Hh (f.plt.getD i dS)))=true then 6 else 0
def ni (f:rT):Int:=al [mj f.sta,gF f.cls,if 500<f.veh.length then 2 else 0]
def nG (f:rT):Int:=if ni f≠0 then ni f else if aX (jz f) f.veh.length≠0 then aX (jz f) f.veh.length
 else if 1000<f.plt.length then 2 else aX (oN f) f.plt.length
structure Db (f:rT):Prop where
 sta:Gq f.sta
 cls:lT f.cls
 veh:f.veh.length≤2^20∧∀v ∈ f.veh,v.key.length≤2^40∧v.cls.length≤2^40
 plt:f.plt.length≤2^20∧∀p ∈ f.plt,(-2^40≤p.frm∧p.frm≤2^40)∧p.veh.length≤2^40∧p.plt.length≤2^40
def KC (f:rT):aY:=.cells 31 [.d (oa f.sta),.d (jk f.cls),.d (rf f.veh),.d (Gj f.plt)]
theorem qM {f:rT}(h:aX (jz f) f.veh.length=0):wT f.veh:=by
 have h0:=cg h
 have step:∀j,j+1<f.veh.length→Op.bytesLess (f.veh.getD j cp).key (f.veh.getD (j+1) cp).key=true:=by
  intro j hj;have:=h0 (j+1) hj;unfold jz cV at this;simp only[Nat.add_sub_cancel]at this;have hl:=gu (f.veh.getD (j+1) cp).key (f.veh.getD j cp).key;grind
 intro i j hij hj
 induction j with
 |zero=>omega
 | succ j ih=>
   rcases Nat.lt_or_ge i j with q|q
   · exact fQ (ih q (by omega)) (step j hj)
   · obtain rfl:i=j:=by omega
     exact step i hj
theorem P5 (f:rT)(hl:f.veh.length≤2^20)(hs:wT f.veh)(key:List UInt8):ai Tryz.prog 195 [flt f,.d (.str key)] [] (fun x r=>x= .d (.int .i64 (rn f.veh key))∧r= []):=by
 refine af hT (C:= []) Tryz.func195 rfl Tryz.call195 rfl rfl rfl ?_;conv=>whnf
 refine cj (Qq f.veh hl hs key) [] ?_;rintro x rout ⟨⟨j,b,rfl,hj⟩,rfl⟩;refine⟨rfl,?_⟩;conv=>whnf
 repeat' (first|((first|(refine aa ?_ ?_<;>intro hb<;>try simp only[az]at hb)|omega|refine aA ?_|decide|assumption)<;>conv=>whnf))
 · refine .ret _ ?_;conv=>whnf
   refine⟨[],⟨?_,rfl⟩,trivial⟩;conv=>lhs;whnf
   congr 2
   rw[hj,if_neg (by simp[hb])]
 · refine .ret _ ?_;conv=>whnf
   refine⟨[],⟨?_,rfl⟩,trivial⟩;conv=>lhs;whnf
   congr 2
   rw[hj,if_pos hb]
def jB:OL:= [(0,[]),(1,[]),(2,[0,1]),(3,[0,1]),(5,rg 4),(6,rg 4),(7,[0,1,2,3,5,6]),(8,[0,1,2,3,5,6]),(10,[0,1,2,3,5,6,7,8]),(11,[0,1,2,3,5,6,7,8]),(12,[0,1,2,3,5,6,7,8,10,11]),(13,[0,1,2,3,5,6,7,8,10,11]),(4,[5,6,7,8,10,11,12,13]),(9,[10,11,12,13]),(14,[]),(15,[]),(16,[]),(17,[])]
def jD:OL:= [(0,[]),(1,[]),(2,[]),(3,[]),(4,[]),(5,[3,4]),(6,[]),(7,[]),(8,[]),(9,[3,4,5,6,7,8]),(10,[3,4,5,6,7,8]),(11,[]),(12,[])]
theorem AN {a b:zR}(h:kX a b<0):a.frm≤b.frm:=by
 unfold kX at h;rw[al]at h;split at h
 · rename_i q;unfold eU at q;split at q<;>(try split at q)<;>omega
 · unfold eU at h;split at h<;>(try split at h)<;>omega
theorem El {f:rT}{j:Nat}(h:oN f j=0)(hj:0<j):kX (f.plt.getD (j - 1) dS) (f.plt.getD j dS)<0:=by
 unfold oN at h;grind
theorem zK {f:rT}{i:Nat}(h:∀j,j≤i→0<j→kX (f.plt.getD (j - 1) dS) (f.plt.getD j dS)<0):∀b a,a≤b→b≤i→(f.plt.getD a dS).frm≤(f.plt.getD b dS).frm:=by
 intro b
 induction b with
 | zero => intro a ha _;obtain rfl:a=0:=by omega
           exact Int.le_refl _
 | succ b ih=>
   intro a ha hb;rcases Nat.lt_or_ge a (b+1)with q|q
   · have h1:=ih a (by omega) (by omega);have h2:=AN (h (b+1) hb (by omega));rw[Nat.add_sub_cancel]at h2;omega
   · obtain rfl:a=b+1:=by omega
     exact Int.le_refl _
theorem qu {α:Type}{l:List α}{d:α}{i j:Nat}(h:j<i):(l.take i).getD j d=l.getD j d:=by
 rw[List.getD_eq_getElem?_getD,List.getElem?_take_of_lt h,←List.getD_eq_getElem?_getD]
theorem HN {f:rT}{i m:Nat}(hi:i<f.plt.length)(hm:m≤i)(h1:∀j,m≤j→j<i→Hh (f.plt.getD i dS) (f.plt.getD j dS)=false)
 (h2:∀j,j<m→(f.plt.getD j dS).frm≠(f.plt.getD i dS).frm):(f.plt.take i).any (Hh (f.plt.getD i dS))=false:=by
 rw[List.any_eq_false];intro x hx;obtain⟨j,hj,rfl⟩:=bQ (d:=dS) hx;rw[List.length_take]at hj;rw[qu (by omega)];rcases Nat.lt_or_ge j m with q|q
 · unfold Hh;simp only[decide_eq_false (h2 j q),Bool.false_and];simp
 · rw[h1 j q (by omega)];simp
theorem I9 {f:rT}{i k:Nat}(hi:i<f.plt.length)(hk:k<i)(h:Hh (f.plt.getD i dS) (f.plt.getD k dS)=true):(f.plt.take i).any (Hh (f.plt.getD i dS))=true:=by
 rw[List.any_eq_true];refine⟨(f.plt.take i).getD k dS,aq (by rw[List.length_take];omega),?_⟩;rw[qu hk];exact h
def vn (f:rT):Int:=if 1000<f.plt.length then 2 else aX (oN f) f.plt.length
set_option maxHeartbeats 4000000 in
theorem OK (f :rT)(hk:Db f)(hs:wT f.veh):ai Tryz.prog 139 [flt f] [] (fun x r=>x= .d (.int .i64 (vn f))∧r= []):=by
 have hlv:=hk.veh.1;have hlp:=hk.plt.1;refine af hT (C:= []) Tryz.func139 rfl Tryz.call139 rfl rfl rfl ?_;conv=>whnf
 repeat' (first|((first|(refine aa ?_ ?_<;>intro hb<;>try simp only[az]at hb)|refine aw hT 14 jB ?_|refine aw hT 17 jD ?_|omega|refine aA ?_|decide|assumption)<;>conv=>whnf))
 · refine .ret _ ?_;conv=>whnf
   refine⟨[],⟨?_,rfl⟩,trivial⟩;conv=>lhs;whnf
   congr 2
   unfold vn;rw[if_pos (by omega)]
 refine ah hT (C:= []) (ι:=Nat) (fun i=>i≤f.plt.length∧∀j,j<i→oN f j=0) (fun i=>aN [(1,.ptr 1 0),(13,.d (Gj f.plt)),(14,.d (.int .i64 f.plt.length)),(15,.d (.int .i64 i))] [(1,KC f)]) (fun i=>f.plt.length - i) 0 ⟨by omega,by omega⟩ (by exact bz [(1,1)]) ?_;rintro i ⟨p1,p2⟩;have hx:(i:Int)<f.plt.length→(-2^40≤(f.plt.getD (i:Int).toNat dS).frm∧(f.plt.getD (i:Int).toNat dS).frm≤2^40)∧(f.plt.getD (i:Int).toNat dS).veh.length≤2^40∧(f.plt.getD (i:Int).toNat dS).plt.length≤2^40:=fun hi=>hk.plt.2 _ (aq (by omega))
 have e1:(i:Int).toNat=i:=Int.toNat_natCast i
 have hbad:∀e:Int,i<f.plt.length→e≠0→oN f i=e→vn f=e:=fun e h h1 h2=>by
  unfold vn;rw[if_neg (by omega),aT h p2 h1 h2]
 rcases Nat.lt_or_ge i f.plt.length with hi|hi
 · have hx2 :=hx (by omega);have hz:((i:Int) - 1).toNat=i - 1:=by omega
   conv=>whnf
   repeat' (first|(refine ac (Ex _) rfl rfl ?_;rotate_right;conv=>whnf)|(refine ac (P5 f (by omega) hs _) rfl rfl ?_;rotate_right;conv=>whnf)|(refine ac (Mf _ hx2.2.2) rfl rfl ?_;rotate_right;conv=>whnf)|(refine ac (FC _ _) rfl rfl ?_;rotate_right;conv=>whnf)|(refine ac (yE _ _) rfl rfl ?_;rotate_right;conv=>whnf)|((first|refine ao (A5 [eU (f.plt.getD ((i:Int) - 1).toNat dS).frm (f.plt.getD (i:Int).toNat dS).frm,dM (f.plt.getD ((i:Int) - 1).toNat dS).veh (f.plt.getD (i:Int).toNat dS).veh,dM (f.plt.getD ((i:Int) - 1).toNat dS).plt (f.plt.getD (i:Int).toNat dS).plt] (by simp)) ⟨aj (by rfl) (by rfl),trivial⟩ rfl ?_|(refine aa ?_ ?_<;>intro hb<;>try simp only[az]at hb)|refine aw hT 14 jB ?_|refine aw hT 17 jD ?_|omega|refine aA ?_|decide|assumption)<;>conv=>whnf))
   all_goals first
    | (refine .ret _ ?_
       conv=>whnf
       refine⟨[],⟨?_,rfl⟩,trivial⟩;conv=>lhs;whnf
       congr 2
       exact(hbad _ (by omega) (by decide) (by clear p2 hbad hk hx hx2;simp only[e1,hz]at*;unfold oN;(try unfold kX);grind)).symm)
    | (have hcmp:0<i→kX (f.plt.getD (i - 1) dS) (f.plt.getD i dS)<0:=by
        intro _
        first
         |(exfalso;omega)
         |(clear p2 hbad hk hx hx2;simp only[e1,hz]at*;unfold kX;assumption)
       have fc:∀j,j≤i→0<j→kX (f.plt.getD (j - 1) dS) (f.plt.getD j dS)<0:=fun j h1 h2=>by
        rcases Nat.lt_or_ge j i with q|q
        · exact El (p2 j q) h2
        · obtain rfl:j=i:=by omega
          exact hcmp h2
       have hz0:∀ (c:Bool),oN f i=(if(f.plt.take i).any (Hh (f.plt.getD i dS))=true then 6 else 0):=by
        intro _;clear p2 hbad hk hx hx2;simp only[e1,hz]at*;unfold oN;grind
       have hz0:=hz0 true
       refine ah hT (C:= []) (ι:=Nat) (fun m=>m≤i∧∀j,m≤j→j<i→(f.plt.getD j dS).frm=(f.plt.getD i dS).frm∧Hh (f.plt.getD i dS) (f.plt.getD j dS)=false)
        (fun m=>aN [(1,.ptr 1 0),(4,.ptr 4 0),(6,.d (.int .i64 ((m:Int) - 1))),(13,.d (Gj f.plt)),(14,.d (.int .i64 f.plt.length)),(15,.d (.int .i64 i))] [(1,KC f),(4,O6 (f.plt.getD (i:Int).toNat dS))]) (fun m=>m) i ⟨by omega,fun j h1 h2=>by omega⟩ (by exact bz [(1,1),(4,4)]) ?_
       rintro m ⟨q1,q2⟩;have hm1:0<m→((m:Int) - 1).toNat=m - 1:=fun h=>by omega
       conv=>whnf
       repeat' (first|((first|(refine aa ?_ ?_<;>intro hb<;>try simp only[az]at hb)|refine aw hT 14 jB ?_|refine aw hT 17 jD ?_|omega|refine aA ?_|decide|assumption)<;>conv=>whnf))
       all_goals first
        | (refine .ret _ ?_
           conv=>whnf
           refine⟨[],⟨?_,rfl⟩,trivial⟩;conv=>lhs;whnf
           congr 2
           refine(hbad _ (by omega) (by decide) ?_).symm
           rw[hz0,if_pos (I9 hi (k:=m - 1) (by omega) (by clear p2 hbad hk hx hx2 fc;simp only[e1,hm1 (by omega)]at*;unfold Hh;grind))])
        |exact⟨m - 1,⟨by omega,fun j h1 h2=>by
         rcases Nat.lt_or_ge j m with r|r
         · obtain rfl:j=m - 1:=by omega
           clear p2 hbad hk hx hx2 fc;simp only[e1,hm1 (by omega)]at*;unfold Hh;grind
         · exact q2 j r h2⟩,by show m - 1<m;omega,ae [(1,1),(4,4)] rfl rfl ⟨lr,lr,am (by omega),lr,lr,lr,trivial⟩ ⟨rr,rr,trivial⟩⟩
        |exact⟨i+1,⟨by omega,aQ p2 (by
         rw[hz0,HN hi q1 (fun j h1 h2=>(q2 j h1 h2).2) (fun j h1=>by
          have h2:=zK fc i (m - 1) (by omega) (by omega);have h3:=zK fc (m - 1) j (by omega) (by omega);clear p2 hbad hk hx hx2 fc;simp only[e1,hm1 (by omega)]at*
          omega)]
         rfl)⟩,by omega,(by exact bz [(1,1)])⟩)
 have hil:i=f.plt.length:=by omega
 subst hil;have F2:=aC p2;clear hbad hx p2;conv=>whnf
 repeat' (first|((first|(refine aa ?_ ?_<;>intro hb<;>try simp only[az]at hb)|refine aw hT 14 jB ?_|refine aw hT 17 jD ?_|omega|refine aA ?_|decide|assumption)<;>conv=>whnf))
 all_goals try(exfalso;omega)
 refine .ret _ ?_;conv=>whnf
 refine⟨[],⟨?_,rfl⟩,trivial⟩;conv=>lhs;whnf
 congr 2
 unfold vn;rw[if_neg (by omega)];exact F2.symm
def p9:OL:= [(0,[]),(1,[]),(3,[0,1]),(4,[0,1]),(6,[0,1,3,4]),(7,[0,1,3,4]),(8,[0,1,3,4]),(9,[0,1,3,4]),(2,[3,4,6,7,8,9]),(5,[6,7,8,9]),(10,[]),(11,[]),(12,[]),(13,[])]
def qt:OL:= [(0,[]),(1,[]),(2,[]),(3,[]),(4,[]),(5,[3,4]),(6,[3,4]),(7,[3,4,5,6]),(8,[3,4,5,6]),(9,[3,4]),(10,[3,4]),(11,[3,4]),(12,[]),(13,[]),(14,[])]
set_option maxHeartbeats 4000000 in
theorem Om (f:rT)(hk:Db f):ai Tryz.prog 95 [flt f] [] (fun x r=>x= .d (.int .i64 (nG f))∧r= []):=by
 have hlv:=hk.veh.1;have hlp:=hk.plt.1
 have H:(if decide ((500:Int)<f.veh.length)=true then(2:Int)else 0)=if 500<f.veh.length then 2 else 0:=by
  simp only[decide_eq_true_eq];congr 1;rw[eq_iff_iff];omega
 have h3:=fu [mj f.sta,gF f.cls,if decide ((500:Int)<f.veh.length)=true then 2 else 0] (by simp);rw[show al [mj f.sta,gF f.cls,if decide ((500:Int)<f.veh.length)=true then 2 else 0]=ni f from by rw[H];rfl]at h3;refine af hT (C:= []) Tryz.func95 rfl Tryz.call95 rfl rfl rfl ?_;conv=>whnf
 repeat' (first|(refine ac (Pd f.sta hk.sta) rfl rfl ?_;rotate_right;conv=>whnf)|(refine ac (z175 f.cls hk.cls) rfl rfl ?_;rotate_right;conv=>whnf)|(refine ac (eK _ _) rfl rfl ?_;rotate_right;conv=>whnf)|((first|refine ao h3 ⟨aj (by rfl) (by rfl),trivial⟩ rfl ?_|(refine aa ?_ ?_<;>intro hb<;>try simp only[az]at hb)|refine aw hT 1 p9 ?_|refine aw hT 9 qt ?_|omega|refine aA ?_|decide|assumption)<;>conv=>whnf))
 · refine .ret _ ?_;conv=>whnf
   refine⟨[],⟨?_,rfl⟩,trivial⟩;conv=>lhs;whnf
   congr 2
   unfold nG;rw[if_pos hb]
 have F0:ni f=0:=hb;refine ah hT (C:= []) (ι:=Nat) (fun i=>i≤f.veh.length∧∀j,j<i→jz f j=0) (fun i=>aN [(1,.ptr 1 0),(23,.d (rf f.veh)),(24,.d (.int .i64 f.veh.length)),(25,.d (.int .i64 i))] [(1,KC f)]) (fun i=>f.veh.length - i) 0 ⟨by omega,by omega⟩ (by exact bz [(1,1)]) ?_;rintro i ⟨p1,p2⟩;have hx:(i:Int)<f.veh.length→(f.veh.getD (i:Int).toNat cp).key.length≤2^40∧(f.veh.getD (i:Int).toNat cp).cls.length≤2^40:=fun hi=>hk.veh.2 _ (aq (by omega))
 have e1:(i:Int).toNat=i:=Int.toNat_natCast i
 have hbad:∀e:Int,i<f.veh.length→e≠0→jz f i=e→nG f=e:=fun e h h1 h2=>by
  unfold nG;rw[if_neg (by omega),aT h p2 h1 h2,if_pos h1]
 rcases Nat.lt_or_ge i f.veh.length with hi|hi
 · conv =>whnf
   repeat' (first|(refine ac (gC _ (hx (by omega)).1) rfl rfl ?_;rotate_right;conv=>whnf)|(refine ac (Kk f.cls (Nat.le_trans hk.cls.1 (by decide)) _) rfl rfl ?_;rotate_right;conv=>whnf)|((first|(refine aa ?_ ?_<;>intro hb<;>try simp only[az]at hb)|refine aw hT 1 p9 ?_|refine aw hT 9 qt ?_|omega|refine aA ?_|decide|assumption)<;>conv=>whnf))
   all_goals try(exfalso;omega)
   all_goals first
    |(refine⟨i+1,⟨by omega,aQ p2 (by clear p2 hbad hk hx;simp only[e1,aJ]at*;unfold jz cV;grind)⟩,by omega,(by exact bz [(1,1)])⟩)
    | (refine .ret _ ?_
       conv=>whnf
       refine⟨[],⟨?_,rfl⟩,trivial⟩;conv=>lhs;whnf
       congr 2
       exact(hbad _ (by omega) (by decide) (by clear p2 hbad hk hx;simp only[e1,aJ]at*;unfold jz cV;grind)).symm)
 have hil:i=f.veh.length:=by omega
 subst hil;have F1:=aC p2;clear hbad hx p2;conv=>whnf
 repeat' (first|(refine ac (OK f hk (qM F1)) rfl rfl ?_;rotate_right;conv=>whnf)|((first|(refine aa ?_ ?_<;>intro hb<;>try simp only[az]at hb)|refine aw hT 1 p9 ?_|refine aw hT 9 qt ?_|omega|refine aA ?_|decide|assumption)<;>conv=>whnf))
 all_goals try(exfalso;omega)
 refine .ret _ ?_;conv=>whnf
 refine⟨[],⟨?_,rfl⟩,trivial⟩;conv=>lhs;whnf
 congr 2
 unfold nG vn;simp[F0,F1]
def qS:OL:= [(0,[]),(1,[]),(2,[0,1]),(3,[0,1]),(5,rg 4),(6,rg 4),(7,[0,1,2,3,5,6]),(8,[0,1,2,3,5,6]),(4,[5,6,7,8]),(9,[]),(10,[]),(11,[]),(12,[])]
def Ey:OL:= [(0,[]),(1,[]),(2,[0,1]),(3,[0,1]),(4,rg 4),(5,rg 4),(6,rg 6),(7,rg 6),(8,[]),(9,rg 9),(10,rg 9),(11,rg 11),(12,rg 11),(13,rg 13),(14,rg 13),(15,rg 15),(16,rg 15),(17,rg 9),(18,[9,10,11,12,13,14,15,16,17]),(19,[])]
structure iy where
 cls:List UInt8
 frm:Int
 to:Int
 hr:Int
 dy:Int
 we:Int
 wk:Int
def pe (x:iy):List DV:= [.str x.cls,.int .i64 x.frm,.int .i64 x.to,.int .i64 x.hr,.int .i64 x.dy,.int .i64 x.we,.int .i64 x.wk]
def bN:iy:=⟨[],0,0,0,0,0,0⟩
abbrev fR (l:List iy):DV:=dD 7 pe bN l
def ru (n:Int):Prop:= -1≤n∧n≤1000000
instance (n:Int):Decidable (ru n):=by unfold ru;infer_instance
def nums (x:iy):Prop:=ru x.hr∧ru x.dy∧ru x.we∧ru x.wk
instance (x:iy):Decidable (nums x):=by unfold nums;infer_instance
theorem w9 (a b:List UInt8)(m n:Int):(0≤al [dM a b,eU m n])=(Op.bytesLess b a=true∨(a=b∧n≤m)):=by
 apply propext
 unfold al dM eU al al;have h1:=gu a b;have h2:=ek a;grind [fQ]
theorem sD (a b c d:List UInt8):(0≤al [dM a b,dM c d])=(Op.bytesLess b a=true∨(a=b∧cV d c=true)):=by
 apply propext
 unfold al dM al al cV;have h1:=gu a b;have h2:=ek a;have h3:=gu c d;have h4:=ek c;grind [fQ]
theorem CS (a b:List UInt8)(m n:Int):(al [dM a b,eU m n]<0)=¬ (Op.bytesLess b a=true∨(a=b∧n≤m)):=by
 rw[←w9];exact propext Int.not_le.symm
theorem xR (a b c d:List UInt8):(al [dM a b,dM c d]<0)=¬ (Op.bytesLess b a=true∨(a=b∧cV d c=true)):=by
 rw[←sD];exact propext Int.not_le.symm
def lI (l:List iy)(i:Nat):Int:=
 let x:=l.getD i bN
 let q:=l.getD (i - 1) bN
 if aG x.cls=false then 5 else if ¬ (0≤x.frm∧x.frm<x.to∧x.to≤4001∧nums x)then 1 else if 0<i∧(Op.bytesLess x.cls q.cls=true∨(q.cls=x.cls∧x.frm≤q.frm))then 7 else if 0<i∧q.cls=x.cls∧x.frm<q.to then 13 else 0
def fH (l:List iy):Int:=if 200<l.length then 2 else aX (lI l) l.length
def Lz (x:iy):Prop:=x.cls.length≤2^40
def zx (l:List iy):Prop:=l.length≤2^40∧∀x ∈ l,Lz x
theorem CI (p q r t c:Int):(min (min (min p q) r) t<c)=(p<c∨q<c∨r<c∨t<c):=by apply propext;omega
theorem CA (p q r t c:Int):(c<max (max (max p q) r) t)=(c<p∨c<q∨c<r∨c<t):=by apply propext;omega
set_option maxHeartbeats 4000000 in
theorem Nj (l:List iy)(hk:zx l):ai Tryz.prog 140 [.d (fR l)] [] (fun x r=>x= .d (.int .i64 (fH l))∧r= []):=by
 refine af hT (C:= []) Tryz.func140 rfl Tryz.call140 rfl rfl rfl ?_;conv=>whnf
 refine aa (fun h0=> ?_) (fun h0=> ?_)
 · simp at h0;conv=>whnf
   refine .ret _ ?_;conv=>whnf
   refine⟨[],⟨?_,rfl⟩,trivial⟩;conv=>lhs;whnf
   unfold fH;rw[if_pos (by omega)]
 simp at h0;conv=>whnf
 refine ah hT (C:= []) (ι:=Nat) (fun i=>i≤l.length∧∀j,j<i→lI l j=0) (fun i=>aN [(0,.d (fR l)),(11,.d (fR l)),(12,.d (.int .i64 l.length)),(13,.d (.int .i64 i))] []) (fun i=>l.length - i) 0 ⟨by omega,by omega⟩ (by exact bz []) ?_;rintro i ⟨p1,p2⟩;have hx:(i:Int)<l.length→Lz (l.getD (i:Int).toNat bN):=fun hi=>hk.2 _ (aq (by omega))
 have e1:(i:Int).toNat=i:=Int.toNat_natCast i
 have hbad:∀e:Int,i<l.length→e≠0→lI l i=e→fH l=e:=fun e h h1 h2=>by
  unfold fH;rw[if_neg (by omega)];exact aT h p2 h1 h2
 conv=>whnf
 repeat' (first|(refine ac (gC _ (hx (by omega))) rfl rfl ?_;rotate_right;conv=>whnf)|((first|(refine aa ?_ ?_<;>intro hb<;>try simp only[az]at hb)|refine aw hT 18 qS ?_|omega|refine aA ?_|decide|assumption)<;>conv=>whnf))
 · refine .ret _ ?_;conv=>whnf
   refine⟨[],⟨?_,rfl⟩,trivial⟩;conv=>lhs;whnf
   congr 2
   exact(hbad _ (by omega) (by decide) (by clear p2 hbad hk hx;simp only[e1]at*;unfold lI;grind)).symm
 · refine .ret _ ?_;conv=>whnf
   refine⟨[],⟨?_,rfl⟩,trivial⟩;conv=>lhs;whnf
   congr 2
   exact(hbad _ (by omega) (by decide) (by clear p2 hbad hk hx;simp only[e1]at*;unfold lI;grind)).symm
 · refine .ret _ ?_;conv=>whnf
   refine⟨[],⟨?_,rfl⟩,trivial⟩;conv=>lhs;whnf
   congr 2
   exact(hbad _ (by omega) (by decide) (by clear p2 hbad hk hx;simp only[e1]at*;unfold lI;grind)).symm
 · refine .ret _ ?_;conv=>whnf
   refine⟨[],⟨?_,rfl⟩,trivial⟩;conv=>lhs;whnf
   congr 2
   exact(hbad _ (by omega) (by decide) (by clear p2 hbad hk hx;simp only[e1]at*;unfold lI;grind)).symm
 · have hi:i<l.length:=by omega
   have hN:aG (l.getD i bN).cls=true∧0≤(l.getD i bN).frm∧(l.getD i bN).frm<(l.getD i bN).to∧(l.getD i bN).to≤4001:=by clear p2 hbad hk hx;simp only[e1]at*;grind
   have hR:lI l i=if ¬nums (l.getD i bN)then 1 else if 0<i∧(Op.bytesLess (l.getD i bN).cls (l.getD (i - 1) bN).cls=true∨((l.getD (i - 1) bN).cls=(l.getD i bN).cls∧(l.getD i bN).frm≤(l.getD (i - 1) bN).frm))then 7 else if 0<i∧(l.getD (i - 1) bN).cls=(l.getD i bN).cls∧(l.getD i bN).frm<(l.getD (i - 1) bN).to then 13 else 0:=by
    obtain⟨n1,n2,n3,n4⟩:=hN;unfold lI;simp only;rw[if_neg (by rw[n1];simp)]
    by_cases hn:nums (l.getD i bN)<;>simp only[hn,n2,n3,n4,and_true,and_false,true_and,not_true_eq_false,not_false_eq_true,if_true,if_false]
   obtain⟨X,hX⟩:∃X,X=l.getD (i:Int).toNat bN:=⟨_,rfl⟩;have hX2:l.getD i bN=X:=hX.symm;rw[hX2]at hN hR;refine ah hT (C:= []) (ι:=Nat) (fun k=>k≤4∧∀j,j<k→ru (([X.hr,X.dy,X.we,X.wk]:List Int).getD j 0)) (fun k=>aN [(0,.d (fR l)),(3,.d (.int .i64 i)),(4,.ptr 4 0),(11,.d (fR l)),(12,.d (.int .i64 l.length)),(13,.d (.int .i64 i)),(47,.d (dC [X.hr,X.dy,X.we,X.wk])),(48,.d (.int .i64 4)),(49,.d (.int .i64 k))] [(4,.cells 189 ((pe X).map .d))]) (fun k=>4 - k) 0 ⟨by omega,by omega⟩ (by subst hX;exact(by(refine ae [(4,4)] rfl rfl ?_ ?_<;>repeat' (first|exact True.intro|exact lr|exact rr|(exact aj rfl rfl)|exact am (by omega)|exact aI _|refine And.intro ?_ ?_));done)) ?_;rintro k ⟨q1,q2⟩;have e2:(k:Int).toNat=k:=Int.toNat_natCast k;clear hx hk;conv=>whnf
   repeat' (first|(refine ac (fA _ _ _) rfl rfl ?_;rotate_right;conv=>whnf)|(refine ac (yE _ _) rfl rfl ?_;rotate_right;conv=>whnf)|(refine ac (FC _ _) rfl rfl ?_;rotate_right;conv=>whnf)|((first|refine ao (A5 [_,_] (by simp)) ⟨aj (by rfl) (by rfl),trivial⟩ rfl ?_|(refine aa ?_ ?_<;>intro hb<;>try simp only[az]at hb)|refine aw hT 18 qS ?_|omega|refine aA ?_|decide|assumption)<;>conv=>whnf))
   · refine .ret _ ?_;conv=>whnf
     refine⟨[],⟨?_,rfl⟩,trivial⟩;conv=>lhs;whnf
     congr 2
     refine(hbad _ hi (by decide) ?_).symm;rw[hR,if_pos];rintro⟨⟨n1,n2⟩,⟨n3,n4⟩,⟨n5,n6⟩,n7,n8⟩;have hk4:k=0∨k=1∨k=2∨k=3:=by omega
     rcases hk4 with rfl|rfl|rfl|rfl<;>(simp only[Int.toNat_natCast,List.getD_cons_zero,List.getD_cons_succ]at hb;omega)
   · exact⟨k+1,⟨by omega,bH q2 hb⟩,by omega,(by exact bz [(4,4)])⟩
   all_goals
    have hk4:k=4:=by omega
    subst hk4;have hn:nums X:=⟨q2 0 (by omega),q2 1 (by omega),q2 2 (by omega),q2 3 (by omega)⟩;rw[if_neg (fun h=>h hn)]at hR;clear q1 q2 e2 hN
    first
     |(refine⟨i+1,⟨by omega,aQ p2 (by rw[hR];clear p2 hbad hR hX hX2;simp only[e1,aJ]at*;(try simp only[w9,CS]at*);grind)⟩,by omega,(by exact bz [])⟩)
     | (refine .ret _ ?_
        conv=>whnf
        refine⟨[],⟨?_,rfl⟩,trivial⟩;conv=>lhs;whnf
        congr 2
        exact(hbad _ hi (by decide) (by rw[hR];clear p2 hbad hR hX hX2;simp only[e1,aJ]at*;(try simp only[w9,CS]at*);grind)).symm)
 · refine .ret _ ?_;conv=>whnf
   refine⟨[],⟨?_,rfl⟩,trivial⟩;conv=>lhs;whnf
   congr 2
   have:i=l.length:=by omega
   subst this;unfold fH;rw[if_neg (by omega),aC p2]
set_option maxHeartbeats 4000000 in
theorem Pr (l:List iy)(hk:zx l):ai Tryz.prog 81 [.d (fR l)] [] (fun x r=>x= .d (.int .i64 (fH l))∧r= []):=by
 refine af hT (C:= []) Tryz.func81 rfl Tryz.call81 rfl rfl rfl ?_;conv=>whnf
 refine aa (fun h0=> ?_) (fun h0=> ?_)
 · simp at h0;conv=>whnf
   refine .ret _ ?_;conv=>whnf
   refine⟨[],⟨?_,rfl⟩,trivial⟩;conv=>lhs;whnf
   unfold fH;rw[if_pos (by omega)]
 simp at h0;conv=>whnf
 refine ah hT (C:= []) (ι:=Nat) (fun i=>i≤l.length∧∀j,j<i→lI l j=0) (fun i=>aN [(0,.d (fR l)),(11,.d (fR l)),(12,.d (.int .i64 l.length)),(13,.d (.int .i64 i))] []) (fun i=>l.length - i) 0 ⟨by omega,by omega⟩ (by exact bz []) ?_;rintro i ⟨p1,p2⟩;have hx:(i:Int)<l.length→Lz (l.getD (i:Int).toNat bN):=fun hi=>hk.2 _ (aq (by omega))
 have e1:(i:Int).toNat=i:=Int.toNat_natCast i
 have hbad:∀e:Int,i<l.length→e≠0→lI l i=e→fH l=e:=fun e h h1 h2=>by
  unfold fH;rw[if_neg (by omega)];exact aT h p2 h1 h2
 conv=>whnf
 repeat' (first|(refine ac (Jr _ (hx (by omega))) rfl rfl ?_;rotate_right;conv=>whnf)|((first|(refine aa ?_ ?_<;>intro hb<;>try simp only[az]at hb)|refine aw hT 6 Ey ?_|omega|refine aA ?_|decide|assumption)<;>conv=>whnf))
 all_goals first
  |(refine⟨i+1,⟨by omega,aQ p2 (by clear p2 hbad hk hx;simp only[e1,aJ]at*;unfold lI nums ru;(try simp only[CI,CA]at*);grind)⟩,by omega,(by exact bz [])⟩)
  | (refine .ret _ ?_
     conv=>whnf
     refine⟨[],⟨?_,rfl⟩,trivial⟩;conv=>lhs;whnf
     congr 2
     first
      |exact(hbad _ (by omega) (by decide) (by clear p2 hbad hk hx;simp only[e1,aJ]at*;unfold lI nums ru;(try simp only[CI,CA]at*);grind)).symm
      | (have:i=l.length:=by omega
         subst this
         unfold fH;rw[if_neg (by omega),aC p2]))
def B6:OL:= [(0,[]),(1,[]),(2,[]),(3,[]),(4,[]),(5,[3,4]),(6,[3,4,5]),(7,[3,4,5]),(8,[3,4]),(9,[3,4]),(10,[3,4]),(11,[]),(12,[]),(13,[])]
def yf:OL:= [(0,[]),(1,[]),(2,[]),(3,[]),(4,[3]),(5,[3]),(6,[]),(7,[]),(8,[]),(9,[3,4,5,6,7,8]),(10,[3,4,5,6,7,8]),(12,[3,4,5,6,7,8,9,10]),(13,[3,4,5,6,7,8,9,10,12]),(14,[3,4,5,6,7,8,9,10,12]),(15,[3,4,5,6,7,8,9,10]),(16,[3,4,5,6,7,8,9,10]),(17,[3,4,5,6,7,8,9,10]),(18,[3,4,5,6,7,8,9,10,12,13,14,15,16,17]),(19,[3,4,5,6,7,8,9,10,12,13,14,15,16,17]),(11,[12,13,14,15,16,17,18,19]),(20,[]),(21,[]),(22,[]),(23,[]),(24,[]),(25,[])]
def B0:OL:= [(0,[]),(1,[]),(2,[]),(3,[]),(4,[]),(5,[3,4]),(6,[3,4,5]),(7,[3,4,5]),(8,[3,4]),(9,[3,4]),(10,[3,4]),(11,[]),(12,[]),(13,[]),(14,[]),(15,[13,14]),(16,[13,14,15]),(17,[13,14,15]),(18,[13,14]),(19,[13,14]),(20,[13,14]),(21,[]),(22,[]),(23,[]),(24,[]),(25,[23,24]),(26,[23,24,25]),(27,[23,24,25]),(28,[23,24]),(29,[23,24]),(30,[23,24]),(31,[]),(32,[]),(33,[]),(34,[]),(35,[])]
def A4:OL:= [(0,[]),(1,[]),(2,[]),(3,[]),(4,[]),(5,[3,4]),(6,[3,4,5]),(7,[3,4,5]),(8,[3,4]),(9,[3,4]),(10,[3,4]),(11,[]),(12,[]),(13,[])]
structure AY where
 key:List UInt8
 once:Int
 dy:Int
 most:Int
def Lj (x:AY):List DV:= [.str x.key,.int .i64 x.once,.int .i64 x.dy,.int .i64 x.most]
def uo:AY:=⟨[],0,0,0⟩
abbrev uq (l:List AY):DV:=dD 4 Lj uo l
def xn (l:List AY)(i:Nat):Int:=
 let x:=l.getD i uo
 if aG x.key=false then 5 else if 0<i∧cV x.key (l.getD (i - 1) uo).key=true then 7 else if ¬ ((0≤x.once∧x.once≤1000000)∧(0≤x.dy∧x.dy≤1000000)∧(-1≤x.most∧x.most≤1000000))then 1 else 0
def jR (l:List AY):Int:=if 30<l.length then 2 else aX (xn l) l.length
def LR (x:AY):Prop:=x.key.length≤2^40
def Gc (l:List AY):Prop:=l.length≤2^40∧∀x ∈ l,LR x
set_option maxHeartbeats 2000000 in
theorem Qr (l:List AY)(hk:Gc l):ai Tryz.prog 141 [.d (uq l)] [] (fun x r=>x= .d (.int .i64 (jR l))∧r= []):=by
 refine af hT (C:= []) Tryz.func141 rfl Tryz.call141 rfl rfl rfl ?_;conv=>whnf
 refine aa (fun h0=> ?_) (fun h0=> ?_)
 · simp at h0;conv=>whnf
   refine .ret _ ?_;conv=>whnf
   refine⟨[],⟨?_,rfl⟩,trivial⟩;conv=>lhs;whnf
   unfold jR;rw[if_pos (by omega)]
 simp at h0;conv=>whnf
 refine ah hT (C:= []) (ι:=Nat) (fun i=>i≤l.length∧∀j,j<i→xn l j=0) (fun i=>aN [(0,.d (uq l)),(8,.d (uq l)),(9,.d (.int .i64 l.length)),(10,.d (.int .i64 i))] []) (fun i=>l.length - i) 0 ⟨by omega,by omega⟩ (by exact bz []) ?_;rintro i ⟨p1,p2⟩;have hx:(i:Int)<l.length→LR (l.getD (i:Int).toNat uo):=fun hi=>hk.2 _ (aq (by omega))
 have e1:(i:Int).toNat=i:=Int.toNat_natCast i
 have hbad:∀e:Int,i<l.length→e≠0→xn l i=e→jR l=e:=fun e h h1 h2=>by
  unfold jR;rw[if_neg (by omega)];exact aT h p2 h1 h2
 conv=>whnf
 repeat' (first|(refine ac (gC _ (hx (by omega))) rfl rfl ?_;rotate_right;conv=>whnf)|(refine ac (fA _ _ _) rfl rfl ?_;rotate_right;conv=>whnf)|((first|(refine aa ?_ ?_<;>intro hb<;>try simp only[az]at hb)|refine aw hT 8 B6 ?_|omega|refine aA ?_|decide|assumption)<;>conv=>whnf))
 all_goals first
  |(refine⟨i+1,⟨by omega,aQ p2 (by clear p2 hbad hk hx;simp only[e1,aJ]at*;unfold xn cV;grind)⟩,by omega,(by exact bz [])⟩)
  | (refine .ret _ ?_
     conv=>whnf
     refine⟨[],⟨?_,rfl⟩,trivial⟩;conv=>lhs;whnf
     congr 2
     first
      |exact(hbad _ (by omega) (by decide) (by clear p2 hbad hk hx;simp only[e1,aJ]at*;unfold xn cV;grind)).symm
      | (have:i=l.length:=by omega
         subst this
         unfold jR;rw[if_neg (by omega),aC p2]))
set_option maxHeartbeats 2000000 in
theorem Qf (l:List AY)(hk:Gc l):ai Tryz.prog 82 [.d (uq l)] [] (fun x r=>x= .d (.int .i64 (jR l))∧r= []):=by
 refine af hT (C:= []) Tryz.func82 rfl Tryz.call82 rfl rfl rfl ?_;conv=>whnf
 refine aa (fun h0=> ?_) (fun h0=> ?_)
 · simp at h0;conv=>whnf
   refine .ret _ ?_;conv=>whnf
   refine⟨[],⟨?_,rfl⟩,trivial⟩;conv=>lhs;whnf
   unfold jR;rw[if_pos (by omega)]
 simp at h0;conv=>whnf
 refine ah hT (C:= []) (ι:=Nat) (fun i=>i≤l.length∧∀j,j<i→xn l j=0) (fun i=>aN [(3,.d (.str (if i=0 then []else(l.getD (i - 1) uo).key))),(9,.d (uq l)),(10,.d (.int .i64 l.length)),(11,.d (.int .i64 i))] []) (fun i=>l.length - i) 0 ⟨by omega,by omega⟩ (by exact bz []) ?_;rintro i ⟨p1,p2⟩;have hx:(i:Int)<l.length→LR (l.getD (i:Int).toNat uo):=fun hi=>hk.2 _ (aq (by omega))
 have e1:(i:Int).toNat=i:=Int.toNat_natCast i
 have hbad:∀e:Int,i<l.length→e≠0→xn l i=e→jR l=e:=fun e h h1 h2=>by
  unfold jR;rw[if_neg (by omega)];exact aT h p2 h1 h2
 conv=>whnf
 repeat' (first|(refine ac (Jr _ (hx (by omega))) rfl rfl ?_;rotate_right;conv=>whnf)|(refine ac (zC _ _ _) rfl rfl ?_;rotate_right;conv=>whnf)|((first|(refine aa ?_ ?_<;>intro hb<;>try simp only[az]at hb)|omega|refine aA ?_|decide|assumption)<;>conv=>whnf))
 all_goals first
  |(refine⟨i+1,⟨by omega,aQ p2 (by clear p2 hbad hk hx;simp only[e1]at*;unfold xn cV;grind)⟩,by omega,ae [] rfl rfl ⟨(by rw[show(if i+1=0 then([]:List UInt8)else(l.getD (i+1 - 1) uo).key)=(l.getD (i:Int).toNat uo).key from by rw[if_neg (by omega),e1,Nat.add_sub_cancel]];exact lr),lr,lr,lr,trivial⟩ trivial⟩)
  | (refine .ret _ ?_
     conv=>whnf
     refine⟨[],⟨?_,rfl⟩,trivial⟩;conv=>lhs;whnf
     congr 2
     first
      |exact(hbad _ (by omega) (by decide) (by clear p2 hbad hk hx;simp only[e1]at*;unfold xn cV;grind [wc,xX])).symm
      | (have:i=l.length:=by omega
         subst this
         unfold jR;rw[if_neg (by omega),aC p2]))
structure Fe where
 a:List UInt8
 b:List UInt8
 cents:Int
def OO (x:Fe):List DV:= [.str x.a,.str x.b,.int .i64 x.cents]
def uz:Fe:=⟨[],[],0⟩
abbrev ER (l:List Fe):DV:=dD 3 OO uz l
def Hg (l:List Fe)(i:Nat):Int:=
 let x:=l.getD i uz
 let q:=l.getD (i - 1) uz
 if aG x.a=false∨aG x.b=false then 5 else if x.a=x.b then 14 else if 0<i∧(Op.bytesLess x.a q.a=true∨(q.a=x.a∧cV x.b q.b=true))then 7 else if ¬ (0≤x.cents∧x.cents≤1000000)then 1 else 0
def nh (l:List Fe):Int:=if 500<l.length then 2 else aX (Hg l) l.length
def PE (x:Fe):Prop:=x.a.length≤2^40∧x.b.length≤2^40
def IM (l:List Fe):Prop:=l.length≤2^40∧∀x ∈ l,PE x
set_option maxHeartbeats 2000000 in
theorem Nq (l:List Fe)(hk:IM l):ai Tryz.prog 142 [.d (ER l)] [] (fun x r=>x= .d (.int .i64 (nh l))∧r= []):=by
 refine af hT (C:= []) Tryz.func142 rfl Tryz.call142 rfl rfl rfl ?_;conv=>whnf
 refine aa (fun h0=> ?_) (fun h0=> ?_)
 · simp at h0;conv=>whnf
   refine .ret _ ?_;conv=>whnf
   refine⟨[],⟨?_,rfl⟩,trivial⟩;conv=>lhs;whnf
   unfold nh;rw[if_pos (by omega)]
 simp at h0;conv=>whnf
 refine ah hT (C:= []) (ι:=Nat) (fun i=>i≤l.length∧∀j,j<i→Hg l j=0) (fun i=>aN [(0,.d (ER l)),(8,.d (ER l)),(9,.d (.int .i64 l.length)),(10,.d (.int .i64 i))] []) (fun i=>l.length - i) 0 ⟨by omega,by omega⟩ (by exact bz []) ?_;rintro i ⟨p1,p2⟩;have hx:(i:Int)<l.length→PE (l.getD (i:Int).toNat uz):=fun hi=>hk.2 _ (aq (by omega))
 have e1:(i:Int).toNat=i:=Int.toNat_natCast i
 have hbad:∀e:Int,i<l.length→e≠0→Hg l i=e→nh l=e:=fun e h h1 h2=>by
  unfold nh;rw[if_neg (by omega)];exact aT h p2 h1 h2
 conv=>whnf
 repeat' (first|(refine ac (gC _ (hx (by omega)).1) rfl rfl ?_;rotate_right;conv=>whnf)|(refine ac (gC _ (hx (by omega)).2) rfl rfl ?_;rotate_right;conv=>whnf)|(refine ac (fA _ _ _) rfl rfl ?_;rotate_right;conv=>whnf)|(refine ac (yE _ _) rfl rfl ?_;rotate_right;conv=>whnf)|((first|refine ao (A5 [_,_] (by simp)) ⟨aj (by rfl) (by rfl),trivial⟩ rfl ?_|(refine aa ?_ ?_<;>intro hb<;>try simp only[az]at hb)|refine aw hT 10 yf ?_|omega|refine aA ?_|decide|assumption)<;>conv=>whnf))
 all_goals first
  |(refine⟨i+1,⟨by omega,aQ p2 (by clear p2 hbad hk hx;simp only[e1,aJ]at*;unfold Hg;(try simp only[sD,xR]at*);grind)⟩,by omega,(by exact bz [])⟩)
  | (refine .ret _ ?_
     conv=>whnf
     refine⟨[],⟨?_,rfl⟩,trivial⟩;conv=>lhs;whnf
     congr 2
     first
      |exact(hbad _ (by omega) (by decide) (by clear p2 hbad hk hx;simp only[e1,aJ]at*;unfold Hg;(try simp only[sD,xR]at*);grind)).symm
      | (have:i=l.length:=by omega
         subst this
         unfold nh;rw[if_neg (by omega),aC p2]))
set_option maxHeartbeats 2000000 in
theorem PQ (l:List Fe)(hk:IM l):ai Tryz.prog 83 [.d (ER l)] [] (fun x r=>x= .d (.int .i64 (nh l))∧r= []):=by
 refine af hT (C:= []) Tryz.func83 rfl Tryz.call83 rfl rfl rfl ?_;conv=>whnf
 refine aa (fun h0=> ?_) (fun h0=> ?_)
 · simp at h0;conv=>whnf
   refine .ret _ ?_;conv=>whnf
   refine⟨[],⟨?_,rfl⟩,trivial⟩;conv=>lhs;whnf
   unfold nh;rw[if_pos (by omega)]
 simp at h0;conv=>whnf
 refine ah hT (C:= []) (ι:=Nat) (fun i=>i≤l.length∧∀j,j<i→Hg l j=0) (fun i=>aN [(0,.d (ER l)),(8,.d (ER l)),(9,.d (.int .i64 l.length)),(10,.d (.int .i64 i))] []) (fun i=>l.length - i) 0 ⟨by omega,by omega⟩ (by exact bz []) ?_;rintro i ⟨p1,p2⟩;have hx:(i:Int)<l.length→PE (l.getD (i:Int).toNat uz):=fun hi=>hk.2 _ (aq (by omega))
 have e1:(i:Int).toNat=i:=Int.toNat_natCast i
 have hbad:∀e:Int,i<l.length→e≠0→Hg l i=e→nh l=e:=fun e h h1 h2=>by
  unfold nh;rw[if_neg (by omega)];exact aT h p2 h1 h2
 conv=>whnf
 repeat' (first|(refine ac (Jr _ (hx (by omega)).1) rfl rfl ?_;rotate_right;conv=>whnf)|(refine ac (Jr _ (hx (by omega)).2) rfl rfl ?_;rotate_right;conv=>whnf)|(refine ac (zC _ _ _) rfl rfl ?_;rotate_right;conv=>whnf)|((first|(refine aa ?_ ?_<;>intro hb<;>try simp only[az]at hb)|refine aw hT 10 B0 ?_|omega|refine aA ?_|decide|assumption)<;>conv=>whnf))
 all_goals first
  |(refine⟨i+1,⟨by omega,aQ p2 (by clear p2 hbad hk hx;simp only[e1,aJ]at*;unfold Hg cV;grind)⟩,by omega,(by exact bz [])⟩)
  | (refine .ret _ ?_
     conv=>whnf
     refine⟨[],⟨?_,rfl⟩,trivial⟩;conv=>lhs;whnf
     congr 2
     first
      |exact(hbad _ (by omega) (by decide) (by clear p2 hbad hk hx;simp only[e1,aJ]at*;unfold Hg cV;grind)).symm
      | (have:i=l.length:=by omega
         subst this
         unfold nh;rw[if_neg (by omega),aC p2]))
structure vX where
 key:List UInt8
 cls:List UInt8
 frm:Int
 to:Int
 days:Int
 per:Int
def I6 (x:vX):List DV:= [.str x.key,.str x.cls,.int .i64 x.frm,.int .i64 x.to,.int .i64 x.days,.int .i64 x.per]
def oz:vX:=⟨[],[],0,0,0,0⟩
abbrev ug (l:List vX):DV:=dD 6 I6 oz l
def xw (l:List vX)(i:Nat):Int:=
 let x:=l.getD i oz
 if aG x.key=false then 5 else if 0<i∧cV x.key (l.getD (i - 1) oz).key=true then 7 else if x.cls≠ []∧aG x.cls=false then 5 else if ¬ ((0≤x.frm∧x.frm≤x.to)∧x.to≤4001∧(1≤x.days∧x.days≤120)∧(1≤x.per∧x.per≤1000))then 1 else 0
def jq (l:List vX):Int:=if 50<l.length then 2 else aX (xw l) l.length
def J3 (x:vX):Prop:=x.key.length≤2^40∧x.cls.length≤2^40
def Cf (l:List vX):Prop:=l.length≤2^40∧∀x ∈ l,J3 x
set_option maxHeartbeats 2000000 in
theorem Nu (l:List vX)(hk:Cf l):ai Tryz.prog 143 [.d (ug l)] [] (fun x r=>x= .d (.int .i64 (jq l))∧r= []):=by
 refine af hT (C:= []) Tryz.func143 rfl Tryz.call143 rfl rfl rfl ?_;conv=>whnf
 refine aa (fun h0=> ?_) (fun h0=> ?_)
 · simp at h0;conv=>whnf
   refine .ret _ ?_;conv=>whnf
   refine⟨[],⟨?_,rfl⟩,trivial⟩;conv=>lhs;whnf
   unfold jq;rw[if_pos (by omega)]
 simp at h0;conv=>whnf
 refine ah hT (C:= []) (ι:=Nat) (fun i=>i≤l.length∧∀j,j<i→xw l j=0) (fun i=>aN [(0,.d (ug l)),(8,.d (ug l)),(9,.d (.int .i64 l.length)),(10,.d (.int .i64 i))] []) (fun i=>l.length - i) 0 ⟨by omega,by omega⟩ (by exact bz []) ?_;rintro i ⟨p1,p2⟩;have hx:(i:Int)<l.length→J3 (l.getD (i:Int).toNat oz):=fun hi=>hk.2 _ (aq (by omega))
 have e1:(i:Int).toNat=i:=Int.toNat_natCast i
 have hbad:∀e:Int,i<l.length→e≠0→xw l i=e→jq l=e:=fun e h h1 h2=>by
  unfold jq;rw[if_neg (by omega)];exact aT h p2 h1 h2
 conv=>whnf
 repeat' (first|(refine ac (gC _ (hx (by omega)).1) rfl rfl ?_;rotate_right;conv=>whnf)|(refine ac (gC _ (hx (by omega)).2) rfl rfl ?_;rotate_right;conv=>whnf)|(refine ac (fA _ _ _) rfl rfl ?_;rotate_right;conv=>whnf)|((first|(refine aa ?_ ?_<;>intro hb<;>try simp only[az]at hb)|refine aw hT 8 A4 ?_|omega|refine aA ?_|decide|assumption)<;>conv=>whnf))
 all_goals first
  |(refine⟨i+1,⟨by omega,aQ p2 (by clear p2 hbad hk hx;simp only[e1,aJ]at*;unfold xw cV;grind)⟩,by omega,(by exact bz [])⟩)
  | (refine .ret _ ?_
     conv=>whnf
     refine⟨[],⟨?_,rfl⟩,trivial⟩;conv=>lhs;whnf
     congr 2
     first
      |exact(hbad _ (by omega) (by decide) (by clear p2 hbad hk hx;simp only[e1,aJ]at*;unfold xw cV;grind)).symm
      | (have:i=l.length:=by omega
         subst this
         unfold jq;rw[if_neg (by omega),aC p2]))
set_option maxHeartbeats 2000000 in
theorem O8 (l:List vX)(hk:Cf l):ai Tryz.prog 84 [.d (ug l)] [] (fun x r=>x= .d (.int .i64 (jq l))∧r= []):=by
 refine af hT (C:= []) Tryz.func84 rfl Tryz.call84 rfl rfl rfl ?_;conv=>whnf
 refine aa (fun h0=> ?_) (fun h0=> ?_)
 · simp at h0;conv=>whnf
   refine .ret _ ?_;conv=>whnf
   refine⟨[],⟨?_,rfl⟩,trivial⟩;conv=>lhs;whnf
   unfold jq;rw[if_pos (by omega)]
 simp at h0;conv=>whnf
 refine ah hT (C:= []) (ι:=Nat) (fun i=>i≤l.length∧∀j,j<i→xw l j=0) (fun i=>aN [(3,.d (.str (if i=0 then []else(l.getD (i - 1) oz).key))),(9,.d (ug l)),(10,.d (.int .i64 l.length)),(11,.d (.int .i64 i))] []) (fun i=>l.length - i) 0 ⟨by omega,by omega⟩ (by exact bz []) ?_;rintro i ⟨p1,p2⟩;have hx:(i:Int)<l.length→J3 (l.getD (i:Int).toNat oz):=fun hi=>hk.2 _ (aq (by omega))
 have e1:(i:Int).toNat=i:=Int.toNat_natCast i
 have hbad:∀e:Int,i<l.length→e≠0→xw l i=e→jq l=e:=fun e h h1 h2=>by
  unfold jq;rw[if_neg (by omega)];exact aT h p2 h1 h2
 conv=>whnf
 repeat' (first|(refine ac (Jr _ (hx (by omega)).1) rfl rfl ?_;rotate_right;conv=>whnf)|(refine ac (Jr _ (hx (by omega)).2) rfl rfl ?_;rotate_right;conv=>whnf)|(refine ac (zC _ _ _) rfl rfl ?_;rotate_right;conv=>whnf)|((first|(refine aa ?_ ?_<;>intro hb<;>try simp only[az]at hb)|omega|refine aA ?_|decide|assumption)<;>conv=>whnf))
 all_goals first
  |(refine⟨i+1,⟨by omega,aQ p2 (by clear p2 hbad hk hx;simp only[e1]at*;unfold xw cV;grind)⟩,by omega,ae [] rfl rfl ⟨(by rw[show(if i+1=0 then([]:List UInt8)else(l.getD (i+1 - 1) oz).key)=(l.getD (i:Int).toNat oz).key from by rw[if_neg (by omega),e1,Nat.add_sub_cancel]];exact lr),lr,lr,lr,trivial⟩ trivial⟩)
  | (refine .ret _ ?_
     conv=>whnf
     refine⟨[],⟨?_,rfl⟩,trivial⟩;conv=>lhs;whnf
     congr 2
     first
      |exact(hbad _ (by omega) (by decide) (by clear p2 hbad hk hx;simp only[e1]at*;unfold xw cV;grind [wc,xX])).symm
      | (have:i=l.length:=by omega
         subst this
         unfold jq;rw[if_neg (by omega),aC p2]))
structure lD where
 key:List UInt8
 per:Int
 on:List Int
 over:Bool
def wD (x:lD):List DV:= [.str x.key,.int .i64 x.per,dC x.on,.bool x.over]
def cm:lD:=⟨[],0,[],false⟩
abbrev hJ (l:List lD):DV:=dD 4 wD cm l
def iJ (x:lD):aY:=.cells 243 ((wD x).map .d)
def xc (l:List Int)(k:Nat):Int:=if l.getD k 0=5∨¬ (1≤l.getD k 0∧l.getD k 0≤6)then 4 else if 0<k∧l.getD k 0≤l.getD (k - 1) 0 then 7 else 0
def Fd (l:List Int):Int:=aX (xc l) l.length
def Kh (l:List lD)(x:lD):Bool:=decide (0≤j7 (fun i=>(l.getD i cm).key==x.key) l.length)
def ma (l:List lD)(i:Nat):Int:=
 let x:=l.getD i cm
 if aG x.key=false then 5 else if Kh (l.take i) x=true then 6 else if ¬ (0≤x.per∧x.per≤1000)then 1 else Fd x.on
def gh (l:List lD):Int:=if 10<l.length then 2 else aX (ma l) l.length
def KZ (x:lD):Prop:=x.key.length≤2^40∧x.on.length≤2^40
def Df (l:List lD):Prop:=l.length≤2^40∧∀x ∈ l,KZ x
theorem OQ (y x:lD):ai Tryz.prog 196 [.agg ((wD y).map .d),.ptr 1000001 0] [(1000001,iJ x)] (fun v r=>v= .d (.bool (y.key==x.key))∧r= [(1000001,iJ x)]):=by
 refine af hT (C:= []) Tryz.func196 rfl Tryz.call196 rfl rfl rfl ?_;conv=>whnf
 refine .ret _ ?_;conv=>whnf
 exact⟨[(1000001,iJ x)],⟨rfl,rfl⟩,rr,trivial⟩
theorem NA (l:List lD)(hl:l.length≤2^40)(x:lD):ai Tryz.prog 187 [.d (hJ l),.fn 196 [.ptr 1000001 0]] [(1000001,iJ x)] (fun v r=>v= .d (.int .i64 (j7 (fun i=>(l.getD i cm).key==x.key) l.length))∧r= [(1000001,iJ x)]):=by
 refine af hT (C:= []) Tryz.func187 rfl Tryz.call187 rfl rfl rfl ?_;conv=>whnf
 refine ah hT (C:= []) (ι:=Nat) (fun i=>i≤l.length∧∀j,j<i→((l.getD j cm).key==x.key)=false) (fun i=>aN [(0,.d (hJ l)),(1,.fn 196 [.ptr 1000001 0]),(7,.d (.int .i64 l.length)),(8,.d (.int .i64 i))] [(1000001,iJ x)]) (fun i=>l.length - i) 0 ⟨by omega,by omega⟩ (by exact bz [(1000001,1000001)]) ?_;rintro i ⟨p1,p2⟩;have e1:(i:Int).toNat=i:=Int.toNat_natCast i;conv=>whnf
 repeat' (first|((first|(refine cj (OQ (l.getD (i:Int).toNat cm) x) [(1000001,1000001)] ?_;rintro v rout ⟨rfl,rfl⟩;refine⟨rfl,?_⟩)|(refine aa ?_ ?_<;>intro hb<;>try simp only[az]at hb)|omega|refine aA ?_|decide|assumption)<;>conv=>whnf))
 · refine .ret _ ?_;conv=>whnf
   refine⟨[(1000001,iJ x)],⟨?_,rfl⟩,rr,trivial⟩;conv=>lhs;whnf
   congr 2
   exact(gm (by omega) p2 (by simpa using hb)).symm
 · exact⟨i+1,⟨by omega,bH p2 (by simpa using hb)⟩,by omega,(by exact bz [(1000001,1000001)])⟩
 · refine .ret _ ?_;conv=>whnf
   refine⟨[(1000001,iJ x)],⟨?_,rfl⟩,rr,trivial⟩;conv=>lhs;whnf
   congr 2
   have:i=l.length:=by omega
   subst this;exact(eG p2).symm
theorem KI (l:List lD)(hl:l.length≤2^40)(x:lD):ai Tryz.prog 130 [.d (hJ l),.fn 196 [.ptr 1000001 0]] [(1000001,iJ x)] (fun v r=>v= .d (.bool (Kh l x))∧r= [(1000001,iJ x)]):=by
 refine af hT (C:= []) Tryz.func130 rfl Tryz.call130 rfl rfl rfl ?_;conv=>whnf
 repeat' (first|((first|(refine cj (NA l hl x) [(1000001,1000001)] ?_;rintro v rout ⟨rfl,rfl⟩;refine⟨rfl,?_⟩)|(refine aa ?_ ?_<;>intro hb<;>try simp only[az]at hb)|omega|refine aA ?_|decide|assumption)<;>conv=>whnf))
 refine .ret _ ?_;conv=>whnf
 exact⟨[(1000001,iJ x)],⟨rfl,rfl⟩,rr,trivial⟩
theorem Ps (y x:lD):ai Tryz.prog 131 [.agg ((wD y).map .d),.ptr 1000001 0] [(1000001,iJ x)] (fun v r=>v= .d (.bool (y.key==x.key))∧r= [(1000001,iJ x)]):=by
 refine af hT (C:= []) Tryz.func131 rfl Tryz.call131 rfl rfl rfl ?_;conv=>whnf
 refine .ret _ ?_;conv=>whnf
 exact⟨[(1000001,iJ x)],⟨rfl,rfl⟩,rr,trivial⟩
theorem Nr (l:List lD)(hl:l.length≤2^40)(x:lD):ai Tryz.prog 187 [.d (hJ l),.fn 131 [.ptr 1000001 0]] [(1000001,iJ x)] (fun v r=>v= .d (.int .i64 (j7 (fun i=>(l.getD i cm).key==x.key) l.length))∧r= [(1000001,iJ x)]):=by
 refine af hT (C:= []) Tryz.func187 rfl Tryz.call187 rfl rfl rfl ?_;conv=>whnf
 refine ah hT (C:= []) (ι:=Nat) (fun i=>i≤l.length∧∀j,j<i→((l.getD j cm).key==x.key)=false) (fun i=>aN [(0,.d (hJ l)),(1,.fn 131 [.ptr 1000001 0]),(7,.d (.int .i64 l.length)),(8,.d (.int .i64 i))] [(1000001,iJ x)]) (fun i=>l.length - i) 0 ⟨by omega,by omega⟩ (by exact bz [(1000001,1000001)]) ?_;rintro i ⟨p1,p2⟩;have e1:(i:Int).toNat=i:=Int.toNat_natCast i;conv=>whnf
 repeat' (first|((first|(refine cj (Ps (l.getD (i:Int).toNat cm) x) [(1000001,1000001)] ?_;rintro v rout ⟨rfl,rfl⟩;refine⟨rfl,?_⟩)|(refine aa ?_ ?_<;>intro hb<;>try simp only[az]at hb)|omega|refine aA ?_|decide|assumption)<;>conv=>whnf))
 · refine .ret _ ?_;conv=>whnf
   refine⟨[(1000001,iJ x)],⟨?_,rfl⟩,rr,trivial⟩;conv=>lhs;whnf
   congr 2
   exact(gm (by omega) p2 (by simpa using hb)).symm
 · exact⟨i+1,⟨by omega,bH p2 (by simpa using hb)⟩,by omega,(by exact bz [(1000001,1000001)])⟩
 · refine .ret _ ?_;conv=>whnf
   refine⟨[(1000001,iJ x)],⟨?_,rfl⟩,rr,trivial⟩;conv=>lhs;whnf
   congr 2
   have:i=l.length:=by omega
   subst this;exact(eG p2).symm
theorem Lv (l:List lD)(hl:l.length≤2^40)(x:lD):ai Tryz.prog 130 [.d (hJ l),.fn 131 [.ptr 1000001 0]] [(1000001,iJ x)] (fun v r=>v= .d (.bool (Kh l x))∧r= [(1000001,iJ x)]):=by
 refine af hT (C:= []) Tryz.func130 rfl Tryz.call130 rfl rfl rfl ?_;conv=>whnf
 repeat' (first|((first|(refine cj (Nr l hl x) [(1000001,1000001)] ?_;rintro v rout ⟨rfl,rfl⟩;refine⟨rfl,?_⟩)|(refine aa ?_ ?_<;>intro hb<;>try simp only[az]at hb)|omega|refine aA ?_|decide|assumption)<;>conv=>whnf))
 refine .ret _ ?_;conv=>whnf
 exact⟨[(1000001,iJ x)],⟨rfl,rfl⟩,rr,trivial⟩
theorem zz {l:List lD}{i:Nat}(h:i≤l.length):SV.le (.d (.ro 4 i fun j=>aV wD cm l (0+j))) (.d (hJ (l.take i))):=
 bt (by rw[List.length_take];omega) (fun j hj=>by
  simp only[Nat.zero_add,aV]
  rw[List.getD_eq_getElem?_getD,List.getD_eq_getElem?_getD,List.getElem?_take_of_lt hj])
theorem ia {l:List lD}{i:Nat}{e:Int}(h0:¬ 10<l.length)(h:i<l.length)(p:∀j,j<i→ma l j=0)(h1:e≠0)(h2:ma l i=e):gh l=e:=by
 unfold gh;rw[if_neg h0];exact aT h p h1 h2
set_option maxHeartbeats 2000000 in
theorem Pz (l:List lD)(hk:Df l):ai Tryz.prog 144 [.d (hJ l)] [] (fun x r=>x= .d (.int .i64 (gh l))∧r= []):=by
 refine af hT (C:= []) Tryz.func144 rfl Tryz.call144 rfl rfl rfl ?_;conv=>whnf
 refine aa (fun h0=> ?_) (fun h0=> ?_)
 · simp at h0;conv=>whnf
   refine .ret _ ?_;conv=>whnf
   refine⟨[],⟨?_,rfl⟩,trivial⟩;conv=>lhs;whnf
   unfold gh;rw[if_pos (by omega)]
 simp at h0;conv=>whnf
 refine ah hT (C:= []) (ι:=Nat) (fun i=>i≤l.length∧∀j,j<i→ma l j=0) (fun i=>aN [(0,.d (hJ l)),(10,.d (hJ l)),(11,.d (.int .i64 l.length)),(12,.d (.int .i64 i))] []) (fun i=>l.length - i) 0 ⟨by omega,by omega⟩ (by exact bz []) ?_;rintro i ⟨p1,p2⟩;have e1:(i:Int).toNat=i:=Int.toNat_natCast i;have hK:(i:Int)<l.length→KZ (l.getD (i:Int).toNat cm):=fun hi=>hk.2 _ (aq (by omega))
 have hD:=KI (l.take (i:Int).toNat) (by rw[List.length_take];have:=hk.1;omega) (l.getD (i:Int).toNat cm);conv=>whnf
 repeat' (first|(refine ac (gC _ (hK (by omega)).1) rfl rfl ?_;rotate_right;conv=>whnf)|(refine ac (fA _ _ _) rfl rfl ?_;rotate_right;conv=>whnf)|((first|(refine fz.of hD [(1000001,4)] rfl ⟨zz (by omega),lr,trivial⟩ ⟨rr,trivial⟩ rfl rfl ?_;rintro v rout ⟨rfl,rfl⟩;refine⟨rfl,?_⟩)|(refine aa ?_ ?_<;>intro hb<;>try simp only[az]at hb)|omega|refine aA ?_|decide|assumption)<;>conv=>whnf))
 · refine .ret _ ?_;conv=>whnf
   refine⟨[],⟨?_,rfl⟩,trivial⟩;conv=>lhs;whnf
   congr 2
   exact(ia (by omega) (by omega) p2 (by decide) (by clear p2 hD hk hK;simp only[e1]at*;unfold ma;grind)).symm
 · refine .ret _ ?_;conv=>whnf
   refine⟨[],⟨?_,rfl⟩,trivial⟩;conv=>lhs;whnf
   congr 2
   exact(ia (by omega) (by omega) p2 (by decide) (by clear p2 hD hk hK;simp only[e1]at*;unfold ma;grind)).symm
 · refine .ret _ ?_;conv=>whnf
   refine⟨[],⟨?_,rfl⟩,trivial⟩;conv=>lhs;whnf
   congr 2
   exact(ia (by omega) (by omega) p2 (by decide) (by clear p2 hD hk hK;simp only[e1]at*;unfold ma;grind)).symm
 · have hi:i<l.length:=by omega
   have hT1:ma l i=Fd (l.getD (i:Int).toNat cm).on:=by clear p2 hD hk hK;simp only[e1]at*;unfold ma;grind
   obtain⟨X,hX⟩:∃X,X=l.getD (i:Int).toNat cm:=⟨_,rfl⟩;have hXl:X.on.length≤2^40:=by rw[hX];exact(hK (by omega)).2
   rw[←hX]at hT1;refine ah hT (C:= []) (ι:=Nat) (fun k=>k≤X.on.length∧∀j,j<k→xc X.on j=0) (fun k=>aN [(0,.d (hJ l)),(4,.ptr 4 0),(10,.d (hJ l)),(11,.d (.int .i64 l.length)),(12,.d (.int .i64 i)),(34,.d (dC X.on)),(35,.d (.int .i64 X.on.length)),(36,.d (.int .i64 k))] [(4,iJ X)]) (fun k=>X.on.length - k) 0 ⟨by omega,by omega⟩ (by subst hX;exact(by exact bz [(4,4)])) ?_;rintro k ⟨q1,q2⟩;have e2:(k:Int).toNat=k:=Int.toNat_natCast k;have hbad:∀e:Int,k<X.on.length→e≠0→xc X.on k=e→gh l=e:=fun e h h1 h2=>ia (by omega) hi p2 h1 (by rw[hT1];exact aT h q2 h1 h2)
   clear hD hK hk;conv=>whnf
   repeat' (first|(refine ac (fA _ _ _) rfl rfl ?_;rotate_right;conv=>whnf)|((first|(refine aa ?_ ?_<;>intro hb<;>try simp only[az]at hb)|omega|refine aA ?_|decide|assumption)<;>conv=>whnf))
   all_goals first
    |(refine⟨k+1,⟨by omega,aQ q2 (by clear p2 q2 hbad hT1 hX;simp only[e2,aJ]at*;unfold xc;grind)⟩,by omega,(by exact bz [(4,4)])⟩)
    | (refine .ret _ ?_
       conv=>whnf
       refine⟨[],⟨?_,rfl⟩,trivial⟩;conv=>lhs;whnf
       congr 2
       exact(hbad _ (by omega) (by decide) (by clear p2 q2 hbad hT1 hX;simp only[e2,aJ]at*;unfold xc;grind)).symm)
    | (refine⟨i+1,⟨by omega,aQ p2 ?_⟩,by omega,(by exact bz [])⟩
       rw[hT1];have:k=X.on.length:=by omega
       subst this
       exact aC q2)
 · refine .ret _ ?_;conv=>whnf
   refine⟨[],⟨?_,rfl⟩,trivial⟩;conv=>lhs;whnf
   congr 2
   have:i=l.length:=by omega
   subst this;unfold gh;rw[if_neg (by omega),aC p2]
set_option maxHeartbeats 2000000 in
theorem OR (l:List lD)(hk:Df l):ai Tryz.prog 85 [.d (hJ l)] [] (fun x r=>x= .d (.int .i64 (gh l))∧r= []):=by
 refine af hT (C:= []) Tryz.func85 rfl Tryz.call85 rfl rfl rfl ?_;conv=>whnf
 refine aa (fun h0=> ?_) (fun h0=> ?_)
 · simp at h0;conv=>whnf
   refine .ret _ ?_;conv=>whnf
   refine⟨[],⟨?_,rfl⟩,trivial⟩;conv=>lhs;whnf
   unfold gh;rw[if_pos (by omega)]
 simp at h0;conv=>whnf
 refine ah hT (C:= []) (ι:=Nat) (fun i=>i≤l.length∧∀j,j<i→ma l j=0) (fun i=>aN [(0,.d (hJ l)),(10,.d (hJ l)),(11,.d (.int .i64 l.length)),(12,.d (.int .i64 i))] []) (fun i=>l.length - i) 0 ⟨by omega,by omega⟩ (by exact bz []) ?_;rintro i ⟨p1,p2⟩;have e1:(i:Int).toNat=i:=Int.toNat_natCast i;have hK:(i:Int)<l.length→KZ (l.getD (i:Int).toNat cm):=fun hi=>hk.2 _ (aq (by omega))
 have hD:=Lv (l.take (i:Int).toNat) (by rw[List.length_take];have:=hk.1;omega) (l.getD (i:Int).toNat cm);conv=>whnf
 repeat' (first|(refine ac (Jr _ (hK (by omega)).1) rfl rfl ?_;rotate_right;conv=>whnf)|(refine ac (zC _ _ _) rfl rfl ?_;rotate_right;conv=>whnf)|((first|(refine fz.of hD [(1000001,4)] rfl ⟨zz (by omega),lr,trivial⟩ ⟨rr,trivial⟩ rfl rfl ?_;rintro v rout ⟨rfl,rfl⟩;refine⟨rfl,?_⟩)|(refine aa ?_ ?_<;>intro hb<;>try simp only[az]at hb)|omega|refine aA ?_|decide|assumption)<;>conv=>whnf))
 · refine .ret _ ?_;conv=>whnf
   refine⟨[],⟨?_,rfl⟩,trivial⟩;conv=>lhs;whnf
   congr 2
   exact(ia (by omega) (by omega) p2 (by decide) (by clear p2 hD hk hK;simp only[e1]at*;unfold ma;grind)).symm
 · refine .ret _ ?_;conv=>whnf
   refine⟨[],⟨?_,rfl⟩,trivial⟩;conv=>lhs;whnf
   congr 2
   exact(ia (by omega) (by omega) p2 (by decide) (by clear p2 hD hk hK;simp only[e1]at*;unfold ma;grind)).symm
 · refine .ret _ ?_;conv=>whnf
   refine⟨[],⟨?_,rfl⟩,trivial⟩;conv=>lhs;whnf
   congr 2
   exact(ia (by omega) (by omega) p2 (by decide) (by clear p2 hD hk hK;simp only[e1]at*;unfold ma;grind)).symm
 · have hi:i<l.length:=by omega
   have hT1:ma l i=Fd (l.getD (i:Int).toNat cm).on:=by clear p2 hD hk hK;simp only[e1]at*;unfold ma;grind
   obtain⟨X,hX⟩:∃X,X=l.getD (i:Int).toNat cm:=⟨_,rfl⟩;have hXl:X.on.length≤2^40:=by rw[hX];exact(hK (by omega)).2
   rw[←hX]at hT1;refine ah hT (C:= []) (ι:=Nat) (fun k=>k≤X.on.length∧∀j,j<k→xc X.on j=0) (fun k=>aN [(0,.d (hJ l)),(4,.ptr 4 0),(10,.d (hJ l)),(11,.d (.int .i64 l.length)),(12,.d (.int .i64 i)),(34,.d (dC X.on)),(35,.d (.int .i64 X.on.length)),(36,.d (.int .i64 k))] [(4,iJ X)]) (fun k=>X.on.length - k) 0 ⟨by omega,by omega⟩ (by subst hX;exact(by exact bz [(4,4)])) ?_;rintro k ⟨q1,q2⟩;have e2:(k:Int).toNat=k:=Int.toNat_natCast k;have hbad:∀e:Int,k<X.on.length→e≠0→xc X.on k=e→gh l=e:=fun e h h1 h2=>ia (by omega) hi p2 h1 (by rw[hT1];exact aT h q2 h1 h2)
   clear hD hK hk;conv=>whnf
   repeat' (first|(refine ac (zC _ _ _) rfl rfl ?_;rotate_right;conv=>whnf)|((first|(refine aa ?_ ?_<;>intro hb<;>try simp only[az]at hb)|omega|refine aA ?_|decide|assumption)<;>conv=>whnf))
   all_goals first
    |(refine⟨k+1,⟨by omega,aQ q2 (by clear p2 q2 hbad hT1 hX;simp only[e2,aJ]at*;unfold xc;grind)⟩,by omega,(by exact bz [(4,4)])⟩)
    | (refine .ret _ ?_
       conv=>whnf
       refine⟨[],⟨?_,rfl⟩,trivial⟩;conv=>lhs;whnf
       congr 2
       exact(hbad _ (by omega) (by decide) (by clear p2 q2 hbad hT1 hX;simp only[e2,aJ]at*;unfold xc;grind)).symm)
    | (refine⟨i+1,⟨by omega,aQ p2 ?_⟩,by omega,(by exact bz [])⟩
       rw[hT1];have:k=X.on.length:=by omega
       subst this
       exact aC q2)
 · refine .ret _ ?_;conv=>whnf
   refine⟨[],⟨?_,rfl⟩,trivial⟩;conv=>lhs;whnf
   congr 2
   have:i=l.length:=by omega
   subst this;unfold gh;rw[if_neg (by omega),aC p2]
end Go.Proofs.YtodakofifpaljaaGreatDoor
