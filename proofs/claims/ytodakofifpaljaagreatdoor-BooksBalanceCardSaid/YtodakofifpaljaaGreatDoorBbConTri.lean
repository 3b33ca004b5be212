/- BooksBalance is proved: for every input the law returns true, and its argument reads afterwards as it read before. Conditions: those of the given row alone. -/
import Derived.Test.YtodakofifpaljaaGreatDoorBbConTwo
import Derived.Test.YtodakofifpaljaaGreatDoorBbConOne
import Derived.Test.YtodakofifpaljaaGreatDoorBbEngTwo
import Derived.Shelf.Small.Strs
import Derived.Test.YtodakofifpaljaaGreatDoorProg
set_option linter.unusedVariables false
set_option linter.unusedSimpArgs false
set_option maxRecDepth 20000
namespace Go.Proofs.YtodakofifpaljaaGreatDoor
open Go Go.Eng
def EA:OL:= [(0,[]),(1,[]),(3,[0,1]),(4,[0,1]),(6,[0,1,3,4]),(7,[0,1,3,4]),(9,[0,1,3,4,6,7]),(10,[0,1,3,4,6,7]),(12,[0,1,3,4,6,7,9,10]),(13,[0,1,3,4,6,7,9,10]),(2,[3,4,6,7,9,10,12,13]),(5,[6,7,9,10,12,13]),(8,[9,10,12,13]),(11,[12,13]),(14,[]),(15,[]),(16,[]),(17,[])]
def vB:OL:= [(0,[]),(1,[]),(3,[0,1]),(4,[0,1]),(6,[0,1,3,4]),(7,[0,1,3,4]),(9,[0,1,3,4,6,7]),(10,[0,1,3,4,6,7]),(12,[0,1,3,4,6,7,9,10]),(13,[0,1,3,4,6,7,9,10]),(17,[0,1,3,4,6,7,9,10,12,13]),(2,[3,4,6,7,9,10,12,13,17]),(5,[6,7,9,10,12,13,17]),(8,[9,10,12,13,17]),(11,[12,13,17]),(14,[17]),(15,[17]),(16,[17])]
def DN:OL:= [(0,[]),(1,[]),(3,[0,1]),(4,[0,1]),(6,[0,1,3,4]),(7,[0,1,3,4]),(2,[3,4,6,7]),(5,[6,7]),(8,[]),(9,[]),(10,[]),(11,[])]
structure rB where
 rat:List iy
 ext:List AY
 fe:List Fe
 cod:List vX
 tax:List lD
def uA (t:rB):List SV:= [.d (fR t.rat),.d (uq t.ext),.d (ER t.fe),.d (ug t.cod),.d (hJ t.tax)]
def zJ (t:rB):Prop:=zx t.rat∧Gc t.ext∧IM t.fe∧Cf t.cod∧Df t.tax
def uK (t:rB):Int:=al [fH t.rat,jR t.ext,nh t.fe,jq t.cod,gh t.tax]
structure uc where
 free:Int
 km:Int
 eig:Int
 grc:Int
 hr:Int
 dy:Int
 dep:Int
def wW (d:uc):List DV:= [.int .i64 d.free,.int .i64 d.km,.int .i64 d.eig,.int .i64 d.grc,.int .i64 d.hr,.int .i64 d.dy,.int .i64 d.dep]
def rF (d:uc):Int:=if(0≤d.free∧d.free≤10000)∧(0≤d.km∧d.km≤100000)∧(0≤d.eig∧d.eig≤100000)∧(0≤d.grc∧d.grc≤1440)∧(0≤d.hr∧d.hr≤1000000)∧(0≤d.dy∧d.dy≤1000000)∧(0≤d.dep∧d.dep≤1000000)then 0 else 1
theorem sI:∀ {R:List Int} {i:Nat},i<R.length→(∀j,j<i→R.getD j 0=0)→R.getD i 0≠0→al R=R.getD i 0
 | [],i,h,_,_=>by simp at h
 |x::R,0,_,_,h=>by simp only[List.getD_cons_zero]at h ⊢;rw[al,if_neg h]
 | x::R,i+1,h,p,q=>by
   have h0:x=0:=p 0 (by omega);simp only[List.getD_cons_succ]at q ⊢;rw[al,if_pos h0];exact sI (by simpa using h) (fun j hj=>by have:=p (j+1) (by omega);simpa using this) q
theorem ra:∀ {R:List Int},(∀j,j<R.length→R.getD j 0=0)→al R=0
 | [],_=>rfl
 | x::R,p=>by
   have h0:x=0:=p 0 (by simp);rw[al,if_pos h0];exact ra (fun j hj=>by have:=p (j+1) (by simpa using hj);simpa using this)
theorem QM (t:rB)(hk:zJ t):ai Tryz.prog 96 [.agg (uA t)] [] (fun x r=>x= .d (.int .i64 (uK t))∧r= []):=by
 refine af hT (C:= []) Tryz.func96 rfl Tryz.call96 rfl rfl rfl ?_;conv=>whnf
 repeat' (first|(refine ac (Nj _ hk.1) rfl rfl ?_;rotate_right;conv=>whnf)|(refine ac (Qr _ hk.2.1) rfl rfl ?_;rotate_right;conv=>whnf)|(refine ac (Nq _ hk.2.2.1) rfl rfl ?_;rotate_right;conv=>whnf)|(refine ac (Nu _ hk.2.2.2.1) rfl rfl ?_;rotate_right;conv=>whnf)|(refine ac (Pz _ hk.2.2.2.2) rfl rfl ?_;rotate_right;conv=>whnf)|((first|refine ao (fu [_,_,_,_,_] (by simp)) ⟨aj (by rfl) (by rfl),trivial⟩ rfl ?_|(refine aa ?_ ?_<;>intro hb<;>try simp only[az]at hb)|refine aw hT 1 EA ?_|omega|refine aA ?_|decide|assumption)<;>conv=>whnf))
 refine .ret _ ?_;conv=>whnf
 refine⟨[],⟨?_,rfl⟩,trivial⟩;conv=>lhs;whnf
 rfl
theorem Rp (t:rB)(hk:zJ t):ai Tryz.prog 36 [.agg (uA t)] [] (fun x r=>x= .d (.int .i64 (uK t))∧r= []):=by
 have h1:=Pr _ hk.1;have h2:=Qf _ hk.2.1;have h3:=PQ _ hk.2.2.1;have h4:=O8 _ hk.2.2.2.1;have h5:=OR _ hk.2.2.2.2;unfold uK;generalize fH t.rat=r1 at h1 ⊢;generalize jR t.ext=r2 at h2 ⊢;generalize nh t.fe=r3 at h3 ⊢;generalize jq t.cod=r4 at h4 ⊢;generalize gh t.tax=r5 at h5 ⊢;refine af hT (C:= []) Tryz.func36 rfl Tryz.call36 rfl rfl rfl ?_;conv=>whnf
 repeat' (first|(refine ac (h1) rfl rfl ?_;rotate_right;conv=>whnf)|(refine ac (h2) rfl rfl ?_;rotate_right;conv=>whnf)|(refine ac (h3) rfl rfl ?_;rotate_right;conv=>whnf)|(refine ac (h4) rfl rfl ?_;rotate_right;conv=>whnf)|(refine ac (h5) rfl rfl ?_;rotate_right;conv=>whnf)|((first|(refine aa ?_ ?_<;>intro hb<;>try simp only[az]at hb)|refine aw hT 1 vB ?_|omega|refine aA ?_|decide|assumption)<;>conv=>whnf))
 obtain⟨R,hR⟩:∃R:List Int,R= [r1,r2,r3,r4,r5]:=⟨_,rfl⟩;have hRl:R.length=5:=by rw[hR];rfl
 rw[←hR];refine ah hT (C:= []) (ι:=Nat) (fun i=>i≤5∧∀j,j<i→R.getD j 0=0) (fun i=>aN [(20,.d (dC R)),(21,.d (.int .i64 5)),(22,.d (.int .i64 i))] []) (fun i=>5 - i) 0 ⟨by omega,by omega⟩ (by subst hR;exact(by(refine ae [] rfl rfl ?_ ?_<;>repeat' (first|exact True.intro|exact lr|exact rr|(exact aj rfl rfl)|exact am (by omega)|exact aI _|refine And.intro ?_ ?_));done)) ?_;rintro i ⟨p1,p2⟩;have e1:(i:Int).toNat=i:=Int.toNat_natCast i;conv=>whnf
 repeat' (first|((first|(refine aa ?_ ?_<;>intro hb<;>try simp only[az]at hb)|refine aw hT 1 vB ?_|omega|refine aA ?_|decide|assumption)<;>conv=>whnf))
 · refine .ret _ ?_;conv=>whnf
   refine⟨[],⟨?_,rfl⟩,trivial⟩;conv=>lhs;whnf
   congr 2
   exact(sI (by omega) p2 hb).symm
 · exact⟨i+1,⟨by omega,bH p2 hb⟩,by omega,(by exact bz [])⟩
 · refine .ret _ ?_;conv=>whnf
   refine⟨[],⟨?_,rfl⟩,trivial⟩;conv=>lhs;whnf
   congr 2
   exact(ra (fun j hj=>p2 j (by omega))).symm
theorem QB (d:uc):ai Tryz.prog 97 [.agg ((wW d).map .d)] [] (fun x r=>x= .d (.int .i64 (rF d))∧r= []):=by
 refine af hT (C:= []) Tryz.func97 rfl Tryz.call97 rfl rfl rfl ?_;conv=>whnf
 repeat' (first|(refine ac (fA _ _ _) rfl rfl ?_;rotate_right;conv=>whnf)|(refine ac (eK _ _) rfl rfl ?_;rotate_right;conv=>whnf)|((first|(refine aa ?_ ?_<;>intro hb<;>try simp only[az]at hb)|omega|refine aA ?_|decide|assumption)<;>conv=>whnf))
 all_goals
  refine .ret _ ?_;conv=>whnf
  refine⟨[],⟨?_,rfl⟩,trivial⟩;conv=>lhs;whnf
  congr 2
  unfold rF;grind
theorem Q4 (d:uc):ai Tryz.prog 39 [.agg ((wW d).map .d)] [] (fun x r=>x= .d (.int .i64 (rF d))∧r= []):=by
 refine af hT (C:= []) Tryz.func39 rfl Tryz.call39 rfl rfl rfl ?_;conv=>whnf
 repeat' (first|(refine ac (zC _ _ _) rfl rfl ?_;rotate_right;conv=>whnf)|((first|(refine aa ?_ ?_<;>intro hb<;>try simp only[az]at hb)|omega|refine aA ?_|decide|assumption)<;>conv=>whnf))
 all_goals
  refine .ret _ ?_;conv=>whnf
  refine⟨[],⟨?_,rfl⟩,trivial⟩;conv=>lhs;whnf
  congr 2
  unfold rF;grind
structure ed where
 flt:rT
 tar:rB
 dea:uc
def Nm (f:rT):List SV:= [.d (oa f.sta),.d (jk f.cls),.d (rf f.veh),.d (Gj f.plt)]
def hou (h:ed):SV:=.agg (Nm h.flt++uA h.tar++(wW h.dea).map .d)
def GD (h:ed):Prop:=Db h.flt∧zJ h.tar
def um (h:ed):Int:=al [nG h.flt,uK h.tar,rF h.dea]
theorem Qt (h:ed)(hk:GD h):ai Tryz.prog 50 [hou h] [] (fun x r=>x= .d (.int .i64 (um h))∧r= []):=by
 refine af hT (C:= []) Tryz.func50 rfl Tryz.call50 rfl rfl rfl ?_;conv=>whnf
 repeat' (first|(refine ac (Om h.flt hk.1) rfl rfl ?_;rotate_right;conv=>whnf)|(refine ac (QM h.tar hk.2) rfl rfl ?_;rotate_right;conv=>whnf)|(refine ac (QB h.dea) rfl rfl ?_;rotate_right;conv=>whnf)|((first|refine ao (fu [_,_,_] (by simp)) ⟨aj (by rfl) (by rfl),trivial⟩ rfl ?_|(refine aa ?_ ?_<;>intro hb<;>try simp only[az]at hb)|refine aw hT 1 DN ?_|omega|refine aA ?_|decide|assumption)<;>conv=>whnf))
 refine .ret _ ?_;conv=>whnf
 refine⟨[],⟨?_,rfl⟩,trivial⟩;conv=>lhs;whnf
 rfl
def tA (l:List gR)(i:Nat):Int:=if ¬ (1≤(l.getD i j5).kind∧(l.getD i j5).kind≤6)then 4 else if aG (l.getD i j5).key=false then 5 else if ¬ (-1000000000≤(l.getD i j5).cents∧(l.getD i j5).cents≤1000000000)then 1 else 0
def eH (l:List gR):Int:=if 1000<l.length then 2 else aX (tA l) l.length
theorem QS (l:List gR)(hk:l.length≤2^40∧∀x ∈ l,x.key.length≤2^40):ai Tryz.prog 112 [.d (jK l)] [] (fun x r=>x= .d (.int .i64 (eH l))∧r= []):=by
 have hkl:=hk.1;refine af hT (C:= []) Tryz.func112 rfl Tryz.call112 rfl rfl rfl ?_;conv=>whnf
 refine aa (fun h0=> ?_) (fun h0=> ?_)
 · simp at h0;conv=>whnf
   refine .ret _ ?_;conv=>whnf
   refine⟨[],⟨?_,rfl⟩,trivial⟩;conv=>lhs;whnf
   unfold eH;rw[if_pos (by omega)]
 simp at h0;conv=>whnf
 refine ah hT (C:= []) (ι:=Nat) (fun i=>i≤l.length∧∀j,j<i→tA l j=0) (fun i=>aN [(8,.d (jK l)),(9,.d (.int .i64 l.length)),(10,.d (.int .i64 i))] []) (fun i=>l.length - i) 0 ⟨by omega,by omega⟩ (by exact bz []) ?_;rintro i ⟨p1,p2⟩;have hx:(i:Int)<l.length→(l.getD (i:Int).toNat j5).key.length≤2^40:=fun hi=>hk.2 _ (aq (by omega))
 have e1:(i:Int).toNat=i:=Int.toNat_natCast i
 have hbad:∀e:Int,i<l.length→e≠0→tA l i=e→eH l=e:=fun e h h1 h2=>by
  unfold eH;rw[if_neg (by omega)];exact aT h p2 h1 h2
 conv=>whnf
 repeat' (first|(refine ac (gC _ (hx (by omega))) rfl rfl ?_;rotate_right;conv=>whnf)|(refine ac (fA _ _ _) rfl rfl ?_;rotate_right;conv=>whnf)|((first|(refine aa ?_ ?_<;>intro hb<;>try simp only[az]at hb)|omega|refine aA ?_|decide|assumption)<;>conv=>whnf))
 all_goals first
  |(refine⟨i+1,⟨by omega,aQ p2 (by clear p2 hbad hk hx;simp only[e1]at*;unfold tA;grind)⟩,by omega,(by exact bz [])⟩)
  | (refine .ret _ ?_
     conv=>whnf
     refine⟨[],⟨?_,rfl⟩,trivial⟩;conv=>lhs;whnf
     congr 2
     first
      |exact(hbad _ (by omega) (by decide) (by clear p2 hbad hk hx;simp only[e1]at*;unfold tA;grind)).symm
      | (have:i=l.length:=by omega
         subst this
         unfold eH;rw[if_neg (by omega),aC p2]))
def bX (l:List gR):Int:=(l.map (·.cents)).sum
theorem vb {l:List gR}{i:Nat}(h:i<l.length):bX (l.take (i+1))=bX (l.take i)+(l.getD i j5).cents:=by
 rw[dG (d:=j5) h];simp[bX]
theorem rS {M:Int}{l:List gR}(hl:∀c ∈ l,-M≤c.cents∧c.cents≤M): -(M*l.length)≤bX l∧bX l≤M*l.length:=by
 induction l with
 |nil=>simp[bX]
 | cons x l ih=>
   have h1:=hl x List.mem_cons_self;have h2:=ih (fun y hy=>hl y (List.mem_cons_of_mem _ hy));simp only[bX,List.map_cons,List.sum_cons,List.length_cons]at h2 ⊢;rw[show((l.length+1:Nat):Int)=(l.length:Int)+1 by push_cast;rfl,Int.mul_add,Int.mul_one];omega
theorem Mo (M:Int)(hM:0≤M∧M≤2^40)(l:List gR)(hn:l.length≤1000)(hl:∀c ∈ l,-M≤c.cents∧c.cents≤M):ai Tryz.prog 27 [.d (jK l)] [] (fun x r=>x= .d (.int .i64 (bX l))∧r= []):=by
 have hsm:∀i,i≤l.length→-2^51≤bX (l.take i)∧bX (l.take i)≤2^51:=fun i hi=>by
  have h1:=rS (l:=l.take i) (fun x hx=>hl x (List.mem_of_mem_take hx));rw[List.length_take,Nat.min_eq_left hi]at h1;have h2:M*i≤2^40*1000:=Int.mul_le_mul hM.2 (by omega) (by omega) (by omega);omega
 refine af hT (C:= []) Tryz.func27 rfl Tryz.call27 rfl rfl rfl ?_;conv=>whnf
 repeat' (first|((first|(refine aa ?_ ?_<;>intro hb<;>try simp only[az]at hb)|omega|refine aA ?_|decide|assumption)<;>conv=>whnf))
 refine ah hT (C:= []) (ι:=Nat) (fun i=>i≤l.length) (fun i=>aN [(3,.d (.int .i64 (bX (l.take i)))),(6,.d (jK l)),(7,.d (.int .i64 l.length)),(8,.d (.int .i64 i))] []) (fun i=>l.length - i) 0 (by omega) (by exact bz []) ?_;rintro i p1;have e1:(i:Int).toNat=i:=Int.toNat_natCast i;have kA:=hsm i p1;have hg:(i:Int)<l.length→-M≤(l.getD (i:Int).toNat j5).cents∧(l.getD (i:Int).toNat j5).cents≤M:=fun h=>hl _ (aq (by omega))
 conv=>whnf
 repeat' (first|((first|(refine aa ?_ ?_<;>intro hb<;>try simp only[az]at hb)|omega|refine aA ?_|decide|assumption)<;>conv=>whnf))
 · refine⟨i+1,by omega,by omega,ae [] rfl rfl ⟨am ?_,lr,lr,lr,trivial⟩ trivial⟩;rw[vb (by omega),e1]
 · have:i=l.length:=by omega
   subst this;rw[List.take_length];refine .ret _ ?_;conv=>whnf
   refine⟨[],⟨?_,rfl⟩,trivial⟩;conv=>lhs;whnf
def dL (a i:Int):Int:=a+i*1440
def lH (a b i:Int):Int:=min (dL a (i+1)) b
def Qh (l:List iy)(c:List UInt8)(d:Int):Int:=j7 (fun i=>(l.getD i bN).cls==c&&(decide ((l.getD i bN).frm≤d)&&decide (d≤(l.getD i bN).to - 1))) l.length
structure pJ where
 rt:List iy
 a:Int
 b:Int
 se:List Int
def jF (l:List iy)(c:List UInt8)(a:Int)(n:Nat):List Int:=(List.range n).map fun i:Nat=>Qh l c ((dL a (i:Int)).tdiv 1440)
def fo (l:List iy)(c:List UInt8)(a b:Int):pJ:=⟨l,a,b,jF l c a (df a b).toNat⟩
def LW (t:Int):Int:=t - t.tmod 10080 - 4320+720
def NZ (t:Int):Int:=t - t.tmod 10080+5760+720
def JQ (t:Int):Int:=if LW t≤t∧t≤LW t+4320 - 1 then LW t+4320 else if NZ t≤t∧t≤NZ t+4320 - 1 then NZ t+4320 else -1
def nb (h:pJ)(k f m:Int)(r:iy):Int×Bool:=
 let left:=(h.se.length:Int) - f
 if k=1 then(r.hr,decide (m=1)&&decide (left=1))
 else if k=2 then(r.dy,decide (m=1))
 else if k=3 then(r.we,decide (0≤JQ (dL h.a f))&&decide (lH h.a h.b (f+m - 1)≤JQ (dL h.a f)))
 else if k=4 then(r.wk,decide (m=min 7 left)&&((h.se.drop f.toNat).take m.toNat).all fun s=>decide (s=h.se.getD f.toNat 0))
 else(-1,decide (m=1))
def wn (h:pJ)(k f p:Int):Int:=if k=1 then p*(lH h.a h.b f - dL h.a f+59).tdiv 60 else p
def nK (h:pJ)(k f m:Int):Int×Bool:=
 if m<1∨(h.se.length:Int) - f<m∨(-1:Int) ∈ (h.se.drop f.toNat).take m.toNat then(0,false)
 else
  let q:=nb h k f m (h.rt.getD (h.se.getD f.toNat 0).toNat bN)
  if q.2=false∨q.1<0 then(0,false)else(wn h k f q.1,true)
structure pX where
 cost:Int
 pcs:Int
 kind:Int
 days:Int
 cents:Int
 fine:Bool
deriving DecidableEq
def Qw (d:pX):List DV:= [.int .i64 d.cost,.int .i64 d.pcs,.int .i64 d.kind,.int .i64 d.days,.int .i64 d.cents,.bool d.fine]
def eP:pX:=⟨0,0,0,0,0,false⟩
def Ng (h:pJ)(i:Nat)(k m:Int)(B:List pX):List pX:=
 let q:=nK h k i m
 let r:=B.getD (i+m.toNat) eP
 if q.2=false∨r.fine=false then B
 else if(B.getD i eP).fine=false∨q.1+r.cost<(B.getD i eP).cost∨(q.1+r.cost=(B.getD i eP).cost∧1+r.pcs<(B.getD i eP).pcs)then B.set i ⟨q.1+r.cost,1+r.pcs,k,m,q.1,true⟩
 else B
def LV (h:pJ)(i:Nat)(k:Int):Nat→List pX→List pX
 |0,B=>B
 |m+1,B=>Ng h i k ((m+1:Nat):Int) (LV h i k m B)
def J8 (h:pJ)(i:Nat):Nat:=min 7 (h.se.length - i)
def Ly (h:pJ)(i:Nat):Nat→List pX→List pX
 |0,B=>B
 |k+1,B=>LV h i ((k+1:Nat):Int) (J8 h i) (Ly h i k B)
def uH (n:Nat):List pX:=(List.replicate (n+1) eP).set n {eP with fine:=true}
def I5 (h:pJ):Nat→List pX
 |0=>uH h.se.length
 |j+1=>Ly h (h.se.length - 1 - j) 4 (I5 h j)
def EO (h:pJ):List pX:=I5 h h.se.length
structure Ig (h:pJ)(B:List pX):Prop where
 len:B.length=h.se.length+1
 bd:∀j,j≤h.se.length→(0≤(B.getD j eP).cost∧(B.getD j eP).cost≤24000000*((h.se.length - j:Nat):Int))∧(0≤(B.getD j eP).pcs∧(B.getD j eP).pcs≤((h.se.length - j:Nat):Int))∧
  (0≤(B.getD j eP).cents∧(B.getD j eP).cents≤24000000)∧(0≤(B.getD j eP).kind∧(B.getD j eP).kind≤4)
 stp:∀j,j<h.se.length→(B.getD j eP).fine=true→1≤(B.getD j eP).kind∧1≤(B.getD j eP).days∧(j:Int)+(B.getD j eP).days≤h.se.length∧(B.getD (j+(B.getD j eP).days.toNat) eP).fine=true
theorem fF {α:Type}(l:List α)(i j:Nat)(x d:α)(hi:i<l.length):(l.set i x).getD j d=if j=i then x else l.getD j d:=by
 simp only[List.getD_eq_getElem?_getD,List.getElem?_set]
 by_cases e:i=j
 · subst e;simp[hi]
 · rw[if_neg e,if_neg (fun c=>e c.symm)]
theorem LJ (h:pJ):Ig h (uH h.se.length):=by
 have hg:∀j,(uH h.se.length).getD j eP=if j=h.se.length then{eP with fine:=true}else eP:=fun j=>by
  unfold uH;rw[fF _ _ _ _ _ (by simp)];split
  · rfl
  · simp only[List.getD_eq_getElem?_getD,List.getElem?_replicate];split<;>rfl
 refine⟨by simp[uH],fun j hj=> ?_,fun j hj hf=> ?_⟩
 · rw[hg];split<;>simp[eP]<;>omega
 · rw[hg,if_neg (by omega)]at hf;exact absurd hf (by simp[eP])
structure qW (h:pJ):Prop where
 n:h.se.length≤120
 ab:0≤h.a∧h.a<h.b∧h.b≤5761439
 lst:h.a+((h.se.length:Int) - 1)*1440<h.b
 rt:∀x ∈ h.rt,nums x
 sx:∀s ∈ h.se,-1≤s∧s<h.rt.length
theorem F9 {x:Int}(h0:0≤x):x.tdiv 60=x/60:=Int.tdiv_eq_ediv_of_nonneg h0
theorem Dk {h:pJ}(ok:qW h){k f m:Int}(hf:0≤f):(0≤(nK h k f m).1∧(nK h k f m).1≤24000000)∧((nK h k f m).2=true→1≤m∧f+m≤h.se.length):=by
 unfold nK;split
 · exact⟨by simp,by simp⟩
 · rename_i c
   dsimp only
   split
   · exact⟨by simp,by simp⟩
   · rename_i c2;refine⟨?_,fun _=>by omega⟩;have hm:1≤m∧f+m≤h.se.length:=by omega
     have hlt:f.toNat<h.se.length:=by omega
     have hs:=ok.sx _ (aq (x:=(0:Int)) hlt)
     have hne:h.se.getD f.toNat 0≠-1:=fun q=>c (Or.inr (Or.inr (by
      rw[←q]
      have e:(h.se.drop f.toNat).take m.toNat=h.se.getD f.toNat 0::((h.se.drop (f.toNat+1)).take (m.toNat - 1)):=by
       rw[List.drop_eq_getElem_cons hlt];obtain⟨mm,hmm⟩:∃mm,m.toNat=mm+1:=⟨m.toNat - 1,by omega⟩;rw[hmm,List.take_succ_cons,List.getD_eq_getElem?_getD,List.getElem?_eq_getElem hlt];rfl
      rw[e];exact List.mem_cons_self)))
     have hr:=ok.rt _ (aq (x:=bN) (show(h.se.getD f.toNat 0).toNat<h.rt.length by omega));obtain⟨r1,r2,r3,r4⟩:=hr;generalize h.rt.getD (h.se.getD f.toNat 0).toNat bN=r at*
     have hp:(nb h k f m r).1≤1000000:=by
      unfold nb;unfold ru at r1 r2 r3 r4;repeat' split
      all_goals dsimp only
      all_goals omega
     have hq:0≤(nb h k f m r).1:=by
      have:=c2;omega
     generalize (nb h k f m r).1=p at hp hq;show 0≤wn h k f p∧wn h k f p≤24000000;unfold wn;split
     · have hlast:=ok.lst;have hab:=ok.ab
       have h1:dL h.a f<h.b:=by
        unfold dL;have:f≤(h.se.length:Int) - 1:=by omega
        omega
       have h2:0≤lH h.a h.b f - dL h.a f∧lH h.a h.b f - dL h.a f≤1440:=by
        unfold lH;have:dL h.a (f+1)=dL h.a f+1440:=by unfold dL;omega
        omega
       rw[F9 (by omega)];have h3:0≤(lH h.a h.b f - dL h.a f+59)/60∧(lH h.a h.b f - dL h.a f+59)/60≤24:=by omega
       generalize (lH h.a h.b f - dL h.a f+59)/60=u at h3
       exact⟨Int.mul_nonneg hq h3.1,by
        have:=Int.mul_le_mul hp h3.2 h3.1 (by omega)
        omega⟩
     · omega
theorem MK {h:pJ}(ok:qW h){i:Nat}(hi:i<h.se.length){k m:Int}(hk:1≤k∧k≤4){B:List pX}(hB:Ig h B):Ig h (Ng h i k m B):=by
 unfold Ng
 dsimp only
 split
 · exact hB
 · rename_i c;split
   · obtain⟨⟨p1,p2⟩,p3⟩:=Dk ok (k:=k) (f:=(i:Int)) (m:=m) (by omega);have hq:(nK h k i m).2=true:=by cases e:(nK h k i m).2 with|true=>rfl|false=>exact absurd (Or.inl e) c
     have hr:(B.getD (i+m.toNat) eP).fine=true:=by cases e:(B.getD (i+m.toNat) eP).fine with|true=>rfl|false=>exact absurd (Or.inr e) c
     have p3:=p3 hq;have hl:=hB.len;obtain⟨⟨b1,b2⟩,⟨b3,b4⟩,_,_⟩:=hB.bd (i+m.toNat) (by omega);refine⟨by rw[List.length_set];exact hl,fun j hj=> ?_,fun j hj hf=> ?_⟩
     · rw[fF _ _ _ _ _ (by omega)];split
       · rename_i e;subst e;refine⟨⟨by show 0≤_+_;omega,?_⟩,⟨by show 0≤1+_;omega,by show 1+_≤_;omega⟩,⟨p1,p2⟩,by show 0≤k;omega,hk.2⟩;show(nK h k j m).1+(B.getD (j+m.toNat) eP).cost≤_;have:((h.se.length - (j+m.toNat):Nat):Int)+1≤((h.se.length - j:Nat):Int):=by omega
         omega
       · exact hB.bd j hj
     · rw[fF _ _ _ _ _ (by omega)]at hf ⊢
       by_cases e:j=i
       · subst e;rw[if_pos rfl]at hf ⊢;refine⟨hk.1,p3.1,p3.2,?_⟩;show((B.set j _).getD (j+m.toNat) eP).fine=true;rw[fF _ _ _ _ _ (by omega),if_neg (by omega)];exact hr
       · rw[if_neg e]at hf ⊢;obtain⟨s1,s2,s3,s4⟩:=hB.stp j hj hf;refine⟨s1,s2,s3,?_⟩;rw[fF _ _ _ _ _ (by omega)];split
         · rfl
         · exact s4
   · exact hB
theorem Ff {h:pJ}(ok:qW h){i:Nat}(hi:i<h.se.length){k:Int}(hk:1≤k∧k≤4){B:List pX}(hB:Ig h B):∀m,Ig h (LV h i k m B)
 |0=>hB
 |m+1=>MK ok hi hk (Ff ok hi hk hB m)
theorem Gg {h:pJ}(ok:qW h){i:Nat}(hi:i<h.se.length){B:List pX}(hB:Ig h B):∀k,k≤4→Ig h (Ly h i k B)
 |0,_=>hB
 |k+1,hk=>Ff ok hi (by omega) (Gg ok hi hB k (by omega)) _
theorem Co {h:pJ}(ok:qW h):∀j,j≤h.se.length→Ig h (I5 h j)
 |0,_=>LJ h
 |j+1,hj=>Gg ok (by omega) (Co ok j (by omega)) 4 (Nat.le_refl _)
def oX (B:List pX):Nat→Nat→List pX
 |0,_=> []
 |n+1,i=>if i<B.length - 1 then B.getD i eP::oX B n (i+(B.getD i eP).days.toNat)else []
theorem IX {h:pJ}{B:List pX}(hB:Ig h B):∀n i,i≤h.se.length→(B.getD i eP).fine=true→(oX B n i).length≤h.se.length - i∧∀x ∈ oX B n i,(0≤x.cents∧x.cents≤24000000)∧1≤x.kind∧x.kind≤4:=by
 intro n
 induction n with
 |zero=>intro i _ _;exact⟨by simp[oX],by simp[oX]⟩
 | succ n ih=>
   intro i hi hf;unfold oX;split
   · rename_i c;have hl:=hB.len;obtain⟨s1,s2,s3,s4⟩:=hB.stp i (by omega) hf;obtain⟨h1,h2⟩:=ih (i+(B.getD i eP).days.toNat) (by omega) s4;obtain⟨_,_,b3,b4⟩:=hB.bd i hi;refine⟨by rw[List.length_cons];omega,fun x hx=> ?_⟩;rcases List.mem_cons.1 hx with q|q
     · subst q;exact⟨b3,s1,b4.2⟩
     · exact h2 x q
   · exact⟨by simp,by simp⟩
def HQ (k:Int):List UInt8:=if k=1 then [104,111,117,114,115]else if k=2 then [100,97,121]else if k=3 then [119,101,101,107,101,110,100]else if k=4 then [119,101,101,107]else []
def oc (d:pX):gR:=⟨1,HQ d.kind,d.cents⟩
def zZ (t:lD)(L:List gR):Int:=(L.map fun x=>if x.kind ∈ t.on then x.cents else 0).sum
def nk (n:Int):Int:=if(n+500).tmod 1000<0 then(n+500).tdiv 1000 - 1 else(n+500).tdiv 1000
def gc (l:List lD)(L:List gR):Nat→List gR
 |0=> []
 |k+1=>gc l L k++ [⟨5,(l.getD k cm).key,nk ((zZ (l.getD k cm) L+if(l.getD k cm).over=true then bX (gc l L k)else 0)*(l.getD k cm).per)⟩]
theorem mg (l:List lD)(L:List gR):∀k,(gc l L k).length=k
 |0=>rfl
 |k+1=>by rw[gc,List.length_append,mg l L k];rfl
theorem o9 (a b:List gR):bX (a++b)=bX a+bX b:=by unfold bX;simp
theorem E2 {n:Int}(h:0≤n):0≤nk n∧1000*nk n≤n+500:=by
 unfold nk;rw[Int.tdiv_eq_ediv_of_nonneg (by omega)];have:0≤(n+500).tmod 1000:=Int.tmod_nonneg _ (by omega);rw[if_neg (by omega)];omega
theorem mw (t:lD):∀ {L:List gR},(∀x ∈ L,0≤x.cents)→0≤zZ t L∧zZ t L≤bX L
 | [],_=>by simp[zZ,bX]
 | x::L,h=>by
   have h1:=h x List.mem_cons_self;have h2:=mw t (fun y hy=>h y (List.mem_cons_of_mem _ hy));simp only[zZ,bX,List.map_cons,List.sum_cons]at h2 ⊢;split<;>omega
theorem Ib {l:List lD}{L:List gR}{b:Int}(hb:bX L+1≤b)(hL:∀x ∈ L,0≤x.cents)(ht:∀x ∈ l,0≤x.per∧x.per≤1000):∀k,k≤l.length→(∀x ∈ gc l L k,0≤x.cents)∧0≤bX (gc l L k)∧bX (gc l L k)+b≤2 ^ k*b:=by
 intro k
 induction k with
 |zero=>intro _;exact⟨by simp[gc],by simp[gc,bX],by simp[gc,bX]⟩
 | succ k ih=>
   intro hk;obtain⟨h1,h2,h3⟩:=ih (by omega);have ho:=mw (l.getD k cm) hL;have hp:=ht _ (aq (x:=cm) (show k<l.length by omega));obtain⟨m,hm⟩:∃m,m=zZ (l.getD k cm) L+(if(l.getD k cm).over=true then bX (gc l L k)else 0):=⟨_,rfl⟩;have hm1:0≤m∧m≤bX L+bX (gc l L k):=by rw[hm];split<;>omega
   have hmp:0≤m*(l.getD k cm).per∧m*(l.getD k cm).per≤m*1000:=⟨Int.mul_nonneg hm1.1 hp.1,Int.mul_le_mul_of_nonneg_left hp.2 hm1.1⟩;have hn:=E2 hmp.1;have e:gc l L (k+1)=gc l L k++ [⟨5,(l.getD k cm).key,nk (m*(l.getD k cm).per)⟩]:=by rw[gc,hm]
   rw[e];refine⟨fun x hx=> ?_,?_,?_⟩
   · rcases List.mem_append.1 hx with q|q
     · exact h1 x q
     · rw[List.mem_singleton]at q;subst q;exact hn.1
   · rw[o9];show 0≤_+bX [_];simp only[bX,List.map_cons,List.map_nil,List.sum_cons,List.sum_nil]at h2 ⊢;omega
   · rw[o9,Int.pow_succ];have:bX [(⟨5,(l.getD k cm).key,nk (m*(l.getD k cm).per)⟩:gR)]=nk (m*(l.getD k cm).per):=by simp[bX]
     rw[this];have:(2:Int) ^ k*2*b=2*(2 ^ k*b):=by rw[Int.mul_comm ((2:Int) ^ k) 2,Int.mul_assoc]
     rw[this];generalize (2:Int) ^ k*b=y at*;omega
def pf (l:List Fe)(a b:List UInt8):Int:=j7 (fun i=>(l.getD i uz).a==a&&(l.getD i uz).b==b) l.length
def qo (t:rB)(P:List pX)(A B:List UInt8):List gR:=P.map oc++(if A=B then []else [⟨4,[111,110,101,119,97,121],(t.fe.getD (pf t.fe A B).toNat uz).cents⟩])
def w8 (t:rB)(c:List UInt8)(a b:Int):List pX:=oX (EO (fo t.rat c a b)) (df a b).toNat 0
def wM (t:rB)(c:List UInt8)(a b:Int)(A B:List UInt8):List gR×Int:=
 if((EO (fo t.rat c a b)).getD 0 eP).fine=false then([],8)
 else if 1000000000<bX ((w8 t c a b).map oc)then([],1)
 else if A≠B∧pf t.fe A B<0 then([],8)
 else(qo t (w8 t c a b) A B++gc t.tax (qo t (w8 t c a b) A B) t.tax.length,0)
def Bo:OL:= [(0,[]),(1,[0]),(2,[0]),(4,[0,1,2]),(5,[0,1,2]),(6,[0,1,2]),(3,[4,5,6]),(7,[]),(8,[])]
def nF:OL:= [(0,[]),(1,[]),(2,[0,1]),(3,[0,1,2]),(4,rg 4),(5,rg 5),(6,rg 4),(7,rg 4),(8,[0,1]),(9,[0,1]),(10,[]),(11,[]),(12,[])]
theorem OG (l:List Int)(hl:l.length≤2^40)(v:Int):ai Tryz.prog 258 [.d (dC l),.d (.int .i64 v)] [] (fun x r=>x= .d (.int .i64 (j7 (fun i=>decide (v=l.getD i 0)) l.length))∧r= []):=by
 refine af hT (C:= []) Tryz.func258 rfl Tryz.call258 rfl rfl rfl ?_;conv=>whnf
 refine ah hT (C:= []) (ι:=Nat) (fun i=>i≤l.length∧∀j,j<i→decide (v=l.getD j 0)=false) (fun i=>aN [(0,.d (dC l)),(1,.d (.int .i64 v)),(7,.d (.int .i64 l.length)),(8,.d (.int .i64 i))] []) (fun i=>l.length - i) 0 ⟨by omega,by omega⟩ (by exact bz []) ?_;rintro i ⟨p1,p2⟩;have e1:(i:Int).toNat=i:=Int.toNat_natCast i;conv=>whnf
 repeat' (first|((first|(refine aa ?_ ?_<;>intro hb<;>try simp only[az]at hb)|omega|refine aA ?_|decide|assumption)<;>conv=>whnf))
 · refine .ret _ ?_;conv=>whnf
   refine⟨[],⟨?_,rfl⟩,trivial⟩;conv=>lhs;whnf
   congr 2
   exact(gm (by omega) p2 (by simpa using hb)).symm
 · exact⟨i+1,⟨by omega,bH p2 (by simpa using hb)⟩,by omega,(by exact bz [])⟩
 · refine .ret _ ?_;conv=>whnf
   refine⟨[],⟨?_,rfl⟩,trivial⟩;conv=>lhs;whnf
   congr 2
   have:i=l.length:=by omega
   subst this;exact(eG p2).symm
theorem K4 (l:List Int)(v:Int):decide (0≤j7 (fun i=>decide (v=l.getD i 0)) l.length)=decide (v ∈ l):=by
 rw[decide_eq_decide];constructor
 · intro h;have hb:=e6 (p:=fun i=>decide (v=l.getD i 0)) (n:=l.length);have h2:=of_decide_eq_true (hb.2.2 h);rw[h2];exact aq (by omega)
 · intro h;obtain⟨j,hj,e⟩:=bQ (d:=(0:Int)) h;exact mV hj (decide_eq_true e.symm)
theorem ML (l:List Int)(hl:l.length≤2^40)(v:Int):ai Tryz.prog 223 [.d (dC l),.d (.int .i64 v)] [] (fun x r=>x= .d (.bool (decide (v ∈ l)))∧r= []):=by
 refine af hT (C:= []) Tryz.func223 rfl Tryz.call223 rfl rfl rfl ?_;conv=>whnf
 repeat' (first|(refine ac (OG l hl v) rfl rfl ?_;rotate_right;conv=>whnf)|((first|(refine aa ?_ ?_<;>intro hb<;>try simp only[az]at hb)|omega|refine aA ?_|decide|assumption)<;>conv=>whnf))
 refine .ret _ ?_;conv=>whnf
 refine⟨[],⟨?_,rfl⟩,trivial⟩;conv=>lhs;whnf
 exact congrArg SV.d (congrArg DV.bool (K4 l v))
abbrev JO (c:List UInt8):aY:=.cells 9 [.d (.str c)]
abbrev JI (d:Int):aY:=.cells 3 [.d (.int .i64 d)]
def N2 (c:List UInt8)(d:Int)(x:iy):Bool:=x.cls==c&&(decide (x.frm≤d)&&decide (d≤x.to - 1))
theorem ON (x:iy)(hx: -2^40≤x.to∧x.to≤2^40)(c:List UInt8)(d:Int):ai Tryz.prog 277 [.agg ((pe x).map .d),.ptr 1000001 0,.ptr 1000002 0] [(1000001,JO c),(1000002,JI d)] (fun y r=>y= .d (.bool (N2 c d x))∧r= [(1000001,JO c),(1000002,JI d)]):=by
 refine af hT (C:= []) Tryz.func277 rfl Tryz.call277 rfl rfl rfl ?_;conv=>whnf
 repeat' (first|(refine ac (fA _ _ _) rfl rfl ?_;rotate_right;conv=>whnf)|((first|(refine aa ?_ ?_<;>intro hb<;>try simp only[az]at hb)|omega|refine aA ?_|decide|assumption)<;>conv=>whnf))
 all_goals
  refine .ret _ ?_;conv=>whnf
  refine⟨[(1000001,JO c),(1000002,JI d)],⟨?_,rfl⟩,rr,rr,trivial⟩;conv=>lhs;whnf
  congr 2
  unfold N2;simp_all
theorem Ql (l:List iy)(hl:l.length≤2^40)(hx:∀x ∈ l,-2^40≤x.to∧x.to≤2^40)(c:List UInt8)(d:Int):ai Tryz.prog 276 [.d (fR l),.fn 277 [.ptr 1000001 0,.ptr 1000002 0]] [(1000001,JO c),(1000002,JI d)] (fun y r=>y= .d (.int .i64 (j7 (fun i=>N2 c d (l.getD i bN)) l.length))∧r= [(1000001,JO c),(1000002,JI d)]):=by
 refine af hT (C:= []) Tryz.func276 rfl Tryz.call276 rfl rfl rfl ?_;conv=>whnf
 refine ah hT (C:= []) (ι:=Nat) (fun i=>i≤l.length∧∀j,j<i→N2 c d (l.getD j bN)=false) (fun i=>aN [(0,.d (fR l)),(1,.fn 277 [.ptr 1000001 0,.ptr 1000002 0]),(7,.d (.int .i64 l.length)),(8,.d (.int .i64 i))] [(1000001,JO c),(1000002,JI d)]) (fun i=>l.length - i) 0 ⟨by omega,by omega⟩ (by exact bz [(1000001,1000001),(1000002,1000002)]) ?_;rintro i ⟨p1,p2⟩;have e1:(i:Int).toNat=i:=Int.toNat_natCast i;conv=>whnf
 repeat' (first|((first|(refine fz.of (ON (l.getD (i:Int).toNat bN) (hx _ (aq (by omega))) c d) [(1000001,1000001),(1000002,1000002)] rfl ⟨lr,lr,lr,trivial⟩ ⟨rr,rr,trivial⟩ rfl rfl ?_;rintro x rout ⟨rfl,rfl⟩;refine⟨rfl,?_⟩)|(refine aa ?_ ?_<;>intro hb<;>try simp only[az]at hb)|omega|refine aA ?_|decide|assumption)<;>conv=>whnf))
 · refine .ret _ ?_;conv=>whnf
   refine⟨[(1000001,JO c),(1000002,JI d)],⟨?_,rfl⟩,rr,rr,trivial⟩;conv=>lhs;whnf
   congr 2
   exact(gm (by omega) p2 (by simpa using hb)).symm
 · exact⟨i+1,⟨by omega,bH p2 (by simpa using hb)⟩,by omega,(by exact bz [(1000001,1000001),(1000002,1000002)])⟩
 · refine .ret _ ?_;conv=>whnf
   refine⟨[(1000001,JO c),(1000002,JI d)],⟨?_,rfl⟩,rr,rr,trivial⟩;conv=>lhs;whnf
   congr 2
   have:i=l.length:=by omega
   subst this;exact(eG p2).symm
theorem Qn (l:List iy)(hl:l.length≤2^40)(hx:∀x ∈ l,-2^40≤x.to∧x.to≤2^40)(c:List UInt8)(d:Int):ai Tryz.prog 253 [.d (fR l),.d (.str c),.d (.int .i64 d)] [] (fun y r=>y= .d (.int .i64 (Qh l c d))∧r= []):=by
 refine af hT (C:= []) Tryz.func253 rfl Tryz.call253 rfl rfl rfl ?_;conv=>whnf
 repeat' (first|((first|(refine cj (Ql l hl hx c d) [(1000001,4),(1000002,5)] ?_;rintro x rout ⟨rfl,rfl⟩;refine⟨rfl,?_⟩)|(refine aa ?_ ?_<;>intro hb<;>try simp only[az]at hb)|omega|refine aA ?_|decide|assumption)<;>conv=>whnf))
 refine .ret _ ?_;conv=>whnf
 refine⟨[],⟨?_,rfl⟩,trivial⟩;conv=>lhs;whnf
 rfl
theorem JZ (l:List iy)(a b:Int)(se:List Int)(i:Int)(ha:0≤a∧a≤5761439)(hi: -1≤i∧i≤2^20):ai Tryz.prog 254 [.agg [.d (fR l),.d (.int .i64 a),.d (.int .i64 b),.d (dC se)],.d (.int .i64 i)] [] (fun y r=>y= .d (.int .i64 (dL a i))∧r= []):=by
 refine af hT (C:= []) Tryz.func254 rfl Tryz.call254 rfl rfl rfl ?_;conv=>whnf
 repeat' (first|((first|(refine aa ?_ ?_<;>intro hb<;>try simp only[az]at hb)|omega|refine aA ?_|decide|assumption)<;>conv=>whnf))
 refine .ret _ ?_;conv=>whnf
 refine⟨[],⟨?_,rfl⟩,trivial⟩;conv=>lhs;whnf
 rfl
theorem Mq (l:List iy)(a b:Int)(se:List Int)(i:Int)(ha:0≤a∧a≤5761439)(hi: -1≤i∧i≤2^20):ai Tryz.prog 254 [.agg [.d (fR l),.d (.int .i64 a),.d (.int .i64 b),.buf 1000003],.d (.int .i64 i)] [(1000003,aM 3 1 iF 0 se)] (fun y r=>y= .d (.int .i64 (dL a i))∧r= [(1000003,aM 3 1 iF 0 se)]):=by
 have h1:=nW (args:= [.agg [.d (fR l),.d (.int .i64 a),.d (.int .i64 b),.buf 1000003],.d (.int .i64 i)]) 1000003 3 1 se.length (aV iF 0 se) (JZ l a b se i ha hi) rfl (fun c r q=>nomatch q) rfl
  (fun x r h=>by obtain⟨rfl,rfl⟩:=h;exact⟨rfl,fun c q e=>(nomatch e),rfl⟩)
 exact h1.mono (fun x r h=>by obtain⟨r0,⟨q,rfl⟩,rfl⟩:=h;exact⟨q,rfl⟩)
theorem Ml (l:List iy)(a b:Int)(se:List Int)(i:Int)(ha:0≤a∧a≤5761439)(hi: -1≤i∧i<2^20):ai Tryz.prog 279 [.agg [.d (fR l),.d (.int .i64 a),.d (.int .i64 b),.d (dC se)],.d (.int .i64 i)] [] (fun y r=>y= .d (.int .i64 (lH a b i))∧r= []):=by
 have hb1: -2^40≤dL a (i+1)∧dL a (i+1)≤2^40:=by unfold dL;omega
 refine af hT (C:= []) Tryz.func279 rfl Tryz.call279 rfl rfl rfl ?_;conv=>whnf
 repeat' (first|(refine ac (JZ l a b se (i+1) ha ⟨by omega,by omega⟩) rfl rfl ?_;rotate_right;conv=>whnf)|((first|(refine aa ?_ ?_<;>intro hb<;>try simp only[az]at hb)|refine aw hT 1 Bo ?_|omega|refine aA ?_|decide|assumption)<;>conv=>whnf))
 refine .ret _ ?_;conv=>whnf
 refine⟨[],⟨?_,rfl⟩,trivial⟩;conv=>lhs;whnf
 rfl
theorem QX (t:Int)(ht:0≤t∧t≤2^30):0≤t.tmod 10080∧t.tmod 10080≤t:=⟨Int.tmod_nonneg _ ht.1,by rw[Int.tmod_eq_emod_of_nonneg ht.1];omega⟩
set_option maxHeartbeats 4000000 in
theorem OI (t:Int)(ht:0≤t∧t≤2^30):ai Tryz.prog 278 [.d (.int .i64 t)] [] (fun y r=>y= .d (.int .i64 (JQ t))∧r= []):=by
 have hm:=QX t ht;have hmi:aF (t.tmod 10080):=by unfold aF;omega
 refine af hT (C:= []) Tryz.func278 rfl Tryz.call278 rfl rfl rfl ?_;conv=>whnf
 repeat' (first|((first|refine And.intro hmi ?_|(refine aa ?_ ?_<;>intro hb<;>try simp only[az]at hb)|omega|refine aA ?_|decide|assumption)<;>conv=>whnf))
 refine dP hT (C:= []) (fun _ _ h=>h) (fun _ h=>h) ?_;conv=>whnf
 repeat' (first|(refine ac (fA _ _ _) rfl rfl ?_;rotate_right;conv=>whnf)|((first|(refine aa ?_ ?_<;>intro hb<;>try simp only[az]at hb)|omega|refine aA ?_|decide|assumption)<;>conv=>whnf))
 · refine .ret _ ?_;conv=>whnf
   refine⟨[],⟨?_,rfl⟩,trivial⟩;conv=>lhs;whnf
   unfold JQ LW;rw[if_pos (by omega)]
 refine dP hT (C:= []) (fun _ _ h=>h) (fun _ h=>h) ?_;conv=>whnf
 repeat' (first|(refine ac (fA _ _ _) rfl rfl ?_;rotate_right;conv=>whnf)|((first|(refine aa ?_ ?_<;>intro hb<;>try simp only[az]at hb)|omega|refine aA ?_|decide|assumption)<;>conv=>whnf))
 · refine .ret _ ?_;conv=>whnf
   refine⟨[],⟨?_,rfl⟩,trivial⟩;conv=>lhs;whnf
   unfold JQ LW NZ;rw[if_neg (by omega),if_pos (by omega)]
 refine dP hT (C:= []) (fun _ _ h=>h) (fun _ h=>h) ?_;conv=>whnf
 repeat' (first|((first|(refine aa ?_ ?_<;>intro hb<;>try simp only[az]at hb)|omega|refine aA ?_|decide|assumption)<;>conv=>whnf))
 refine .ret _ ?_;conv=>whnf
 refine⟨[],⟨?_,rfl⟩,trivial⟩;conv=>lhs;whnf
 unfold JQ LW NZ;rw[if_neg (by omega),if_neg (by omega)]
set_option maxHeartbeats 4000000 in
theorem Pa (l:List iy)(hl:l.length≤2^40)(hx:∀x ∈ l,-2^40≤x.to∧x.to≤2^40)(c:List UInt8)(a b:Int)(hab:0≤a∧a<b∧b≤5761439)(hn:df a b≤120):
 ai Tryz.prog 219 [.d (fR l),.d (.str c),.agg [.d (.int .i64 a),.d (.int .i64 b)]] [] (fun y r=>y= .agg [.d (fR l),.d (.int .i64 a),.d (.int .i64 b),.d (dC (jF l c a (df a b).toNat))]∧r= []):=by
 have hd:1≤df a b:=by unfold df;rw[Int.tdiv_eq_ediv_of_nonneg (by omega)];omega
 have hdn:((df a b).toNat:Int)=df a b:=Int.toNat_of_nonneg (by omega);have c52:=J1 a b hab;rw[←hdn]at c52;obtain⟨n,hn2⟩:∃n,n=(df a b).toNat:=⟨_,rfl⟩;have hnb:n≤120:=by omega
 rw[←hn2]at c52 ⊢;refine af hT (C:= []) Tryz.func219 rfl Tryz.call219 rfl rfl rfl ?_;conv=>whnf
 repeat' (first|(refine ac (c52) rfl rfl ?_;rotate_right;conv=>whnf)|((first|(refine aa ?_ ?_<;>intro hb<;>try simp only[az]at hb)|refine aw hT 5 nF ?_|omega|refine aA ?_|decide|assumption)<;>conv=>whnf))
 refine ah hT (C:= []) (ι:=Nat) (fun i=>i≤n) (fun i=>aN [(0,.d (fR l)),(1,.d (.str c)),(6,.ptr 6 0),(7,.ptr 7 0),(13,.d (.int .i64 n)),(14,.d (.int .i64 i))] [(6,.cells 335 [.d .nilsl,.d (.int .i64 0),.d (.int .i64 0),.d .nilsl]),(7,.cells 335 [.d (fR l),.d (.int .i64 a),.d (.int .i64 b),.buf 50]),(50,aM 3 1 iF 0 (jF l c a i))]) (fun i=>n - i) 0 (Nat.zero_le _) ?_ ?_
 · refine(dn 7 50 3 1 3 (aV iF 0 []) rfl rfl rfl (by decide) rfl).trans ?_;exact ae [(6,6),(7,7),(50,50)] rfl rfl ⟨lr,lr,lr,lr,lr,lr,trivial⟩ ⟨rr,rr,rr,trivial⟩
 intro i pi;have e1:(i:Int).toNat=i:=Int.toNat_natCast i;have hbg:0≤dL a i∧dL a i≤2^40:=by unfold dL;omega
 have hbd:aF ((dL a i).tdiv 1440):=by unfold aF;rw[Int.tdiv_eq_ediv_of_nonneg hbg.1];omega
 have hrl:(jF l c a i).length=i:=by simp[jF]
 rcases Nat.lt_or_ge i n with hi|hi
 · have cb:=Mq l a b (jF l c a i) i (by omega) (by omega);have cr:=Qn l hl hx c ((dL a i).tdiv 1440);conv=>whnf
   repeat' (first|(refine fz.look cb [(1000003,50)] rfl ⟨lr,lr,trivial⟩ ⟨⟨_,rfl,rfl⟩,trivial⟩ rfl rfl rfl ?_;conv=>whnf)|(refine ac (cr) rfl rfl ?_;rotate_right;conv=>whnf)|((first|refine And.intro hbd ?_|(refine aa ?_ ?_<;>intro hb<;>try simp only[az]at hb)|refine aw hT 5 nF ?_|omega|refine aA ?_|decide|assumption)<;>conv=>whnf))
   all_goals try(exfalso;omega)
   have hs:jF l c a (i+1)=jF l c a i++ [Qh l c ((dL a i).tdiv 1440)]:=by simp[jF,List.range_succ]
   refine⟨i+1,by omega,by omega,ae [(6,6),(7,7),(50,27)] rfl rfl ⟨lr,lr,lr,lr,lr,am (by omega),trivial⟩ ⟨rr,rr,?_,trivial⟩⟩;rw[hs];exact aR rfl
 · have hin:i=n:=by omega
   rw[hin];conv=>whnf
   repeat' (first|((first|(refine aa ?_ ?_<;>intro hb<;>try simp only[az]at hb)|refine aw hT 5 nF ?_|omega|refine aA ?_|decide|assumption)<;>conv=>whnf))
   all_goals try(exfalso;omega)
   refine .freeze _ 50 3 1 _ _ rfl (.ent _ _ (fJ 6 50 1 _ 3 _ rfl rfl rfl) (.weak _ ?_));conv=>whnf
   exact⟨.agg [.d (fR l),.d (.int .i64 a),.d (.int .i64 b),.d (dC (jF l c a n))],[],cQ ⟨lr,lr,lr,lr,trivial⟩,⟨rfl,rfl⟩,trivial⟩
def fM:OL:= [(0,[]),(1,[]),(2,[0,1]),(3,[0,1]),(4,rg 4),(5,[0,1]),(6,[0,1]),(7,[]),(8,[]),(9,rg 9),(10,[])]
def eV:OL:= [(0,[]),(1,[]),(2,[0,1]),(3,[0,1]),(4,[0,1]),(5,[0,1]),(6,[0,1,5]),(7,[0,1,5,6]),(8,[0,1,5]),(9,[0,1,5]),(11,[0,1,5,6,7,8,9]),(10,[0,1,11]),(12,[0,1]),(13,[0,1]),(14,[11,12,13]),(15,[])]
def eW:OL:= [(0,[]),(1,[0]),(2,[0,1]),(4,[0,1,2]),(5,[0,1,2,4]),(3,[0,4,5]),(6,[0]),(7,[0]),(8,[0]),(9,[0]),(10,[]),(11,[])]
abbrev EU (h:pJ):List SV:= [.d (fR h.rt),.d (.int .i64 h.a),.d (.int .i64 h.b),.d (dC h.se)]
abbrev KM (h:pJ):SV:=.agg (EU h)
def nc (h:pJ)(f m:Nat):List Int:=(h.se.drop f).take m
theorem xS {h:pJ}{f m:Nat}(hm:f+m≤h.se.length):(nc h f m).length=m:=by unfold nc;simp;omega
theorem zH {h:pJ}{f m j:Nat}(hm:f+m≤h.se.length)(hj:j<m):(nc h f m).getD j 0=h.se.getD (f+j) 0:=by
 unfold nc;simp only[List.getD_eq_getElem?_getD,List.getElem?_take,List.getElem?_drop,if_pos hj]
theorem oS {h:pJ}{f m:Nat}(hm:f+m≤h.se.length):SV.le (.d (.ro 1 ((f:Int)+(m:Int) - (f:Int)).toNat fun j=>aV iF 0 h.se ((f:Int).toNat+j))) (.d (dC (nc h f m))):=
 bt (by rw[xS hm];omega) (fun j hj=>by
  rw[Int.toNat_natCast];show iF (h.se.getD (f+j) 0)=iF ((nc h f m).getD j 0)
  rw[zH hm (by omega)])
theorem Im {h:pJ}{k:Int}{f m:Nat}(h1:1≤m)(hm:f+m≤h.se.length):nK h k f m=if(-1:Int) ∈ nc h f m then(0,false)else
 if(nb h k f m (h.rt.getD (h.se.getD f 0).toNat bN)).2=false∨(nb h k f m (h.rt.getD (h.se.getD f 0).toNat bN)).1<0 then(0,false)else(wn h k f (nb h k f m (h.rt.getD (h.se.getD f 0).toNat bN)).1,true):=by
 unfold nK nc;simp only[Int.toNat_natCast]
 by_cases q:(-1:Int) ∈ (h.se.drop f).take m
 · rw[if_pos (Or.inr (Or.inr q)),if_pos q]
 · rw[if_neg (by rintro(c|c|c);omega;omega;exact q c),if_neg q]
theorem Cq {a b:Bool}(h:a=b):SV.le (.d (.bool a)) (.d (.bool b)):=h ▸ lr
set_option maxHeartbeats 4000000 in
theorem PC (h : pJ) (ok : qW h) (hl : h.rt.length≤2^20)(k:Int)(hk:1≤k∧k≤4)(f m:Nat)(h1:1≤m)(hm:f+m≤h.se.length):
 ai Tryz.prog 255 [KM h,.d (.int .i64 k),.d (.int .i64 f),.d (.int .i64 m)] [] (fun y r=>y= .tup [.d (.int .i64 (nK h k f m).1),.d (.bool (nK h k f m).2)]∧r= []):=by
 obtain⟨o1,⟨o2,o3,o4⟩,o5,o6,o7⟩:=ok;have hsl:=xS hm;have c166:=ML (nc h f m) (by omega) (-1);have e1:(f:Int).toNat=f:=Int.toNat_natCast f;rw[Im h1 hm]
 by_cases q:(-1:Int) ∈ nc h f m
 · rw[if_pos q];rw[decide_eq_true q]at c166;refine af hT (C:= []) Tryz.func255 rfl Tryz.call255 rfl rfl rfl ?_;conv=>whnf
   repeat' (first|((first|refine ao c166 ⟨oS hm,lr,trivial⟩ rfl ?_|(refine aa ?_ ?_<;>intro hb<;>try simp only[az]at hb)|refine aw hT 4 fM ?_|refine aw hT 13 eV ?_|refine aw hT 24 eW ?_|omega|refine aA ?_|decide|assumption)<;>conv=>whnf))
   all_goals try(exfalso;omega)
   refine .ret _ ?_;conv=>whnf
   refine⟨[],⟨congrArg SV.tup ?_,rfl⟩,trivial⟩;repeat' (refine bD ?_ ?_)
   all_goals (conv=>lhs;whnf)
   all_goals try(with_reducible rfl)
 · rw [if_neg q];rw[decide_eq_false q]at c166;have kA:h.se.getD (f:Int).toNat 0 ∈ h.se:=aq (by omega);have hs1:=o7 _ kA
   have hs2:h.se.getD (f:Int).toNat 0≠-1:=fun z=>q (by
    have:=zH (h:=h) hm (show 0<m by omega);rw[Nat.add_zero,←e1,z]at this
    rw[←this];exact aq (by omega))
   have hr:=o6 _ (aq (x:=bN) (show(h.se.getD (f:Int).toNat 0).toNat<h.rt.length by omega))
   have hb0:dL h.a f<h.b:=by
    unfold dL;have:(f:Int)≤(h.se.length:Int) - 1:=by omega
    omega
   have hbg:dL h.a f=h.a+f*1440:=rfl;have hr1:=hr;obtain⟨u1,u2,u3,u4⟩:=hr1;unfold ru at u1 u2 u3 u4;have cb:=JZ h.rt h.a h.b h.se f (by omega) (by omega);have ce:=Ml h.rt h.a h.b h.se f (by omega) (by omega);have ce2:=Ml h.rt h.a h.b h.se ((f:Int)+m - 1) (by omega) (by omega);have cw:=OI (dL h.a f) (by omega)
   have hend:0≤lH h.a h.b f - dL h.a f∧lH h.a h.b f - dL h.a f≤1440:=by
    unfold lH;have:dL h.a ((f:Int)+1)=dL h.a f+1440:=by unfold dL;omega
    omega
   have hbgb:0≤dL h.a f∧dL h.a f≤2^30:=by omega
   have hdq:0≤(lH h.a h.b f - dL h.a f+59).tdiv 60∧(lH h.a h.b f - dL h.a f+59).tdiv 60≤24:=by rw[F9 (by omega)];omega
   have hdi:aF ((lH h.a h.b f - dL h.a f+59).tdiv 60):=by unfold aF;omega
   obtain⟨R,hR⟩:∃R,R=h.rt.getD (h.se.getD f 0).toNat bN:=⟨_,rfl⟩
   have hmu:aF ((h.rt.getD (h.se.getD (f:Int).toNat 0).toNat bN).hr*(lH h.a h.b f - dL h.a f+59).tdiv 60):=by
    generalize (h.rt.getD (h.se.getD (f:Int).toNat 0).toNat bN).hr=p at*;generalize (lH h.a h.b f - dL h.a f+59).tdiv 60=z at*;have z1:=Int.mul_nonneg (show 0≤p+1 by omega) hdq.1;have z2:=Int.mul_nonneg (show 0≤1000000 - p by omega) hdq.1;rw[Int.add_mul]at z1;rw[Int.sub_mul]at z2;unfold aF;omega
   have hk4:k=1∨k=2∨k=3∨k=4:=by omega
   rcases hk4 with rfl|rfl|rfl|rfl
   · have hP:∀R,nb h 1 f m R=(R.hr,decide ((m:Int)=1)&&decide ((h.se.length:Int) - f=1)):=fun R=>by unfold nb;rw[if_pos rfl]
     rw[hP];refine af hT (C:= []) Tryz.func255 rfl Tryz.call255 rfl rfl rfl ?_;conv=>whnf
     repeat' (first|(refine ao c166 ⟨oS hm,lr,trivial⟩ rfl ?_;conv=>whnf)|(refine ac (cb) rfl rfl ?_;rotate_right;conv=>whnf)|(refine ac (ce) rfl rfl ?_;rotate_right;conv=>whnf)|(refine ac (ce2) rfl rfl ?_;rotate_right;conv=>whnf)|(refine ac (cw) rfl rfl ?_;rotate_right;conv=>whnf)|((first|refine And.intro hdi ?_|refine And.intro hmu ?_|(refine aa ?_ ?_<;>intro hb<;>try simp only[az]at hb)|refine aw hT 4 fM ?_|refine aw hT 13 eV ?_|refine aw hT 24 eW ?_|omega|refine aA ?_|decide|assumption)<;>conv=>whnf))
     all_goals try(exfalso;omega)
     all_goals
      refine .ret _ ?_;conv=>whnf
      refine⟨[],⟨congrArg SV.tup ?_,rfl⟩,trivial⟩;repeat' (refine bD ?_ ?_)
      all_goals (conv=>lhs;whnf)
      all_goals try(with_reducible rfl)
      all_goals simp only[Int.toNat_natCast]
      all_goals first
       |rw[if_pos (by first|exact Or.inr (by assumption)|exact Or.inl (by simp;omega))]
       |(rw[if_neg (fun c=>c.elim (fun c=>by simp at c;omega) (fun c=>by omega))];done)
       |(rw[if_neg (fun c=>c.elim (fun c=>by simp at c;omega) (fun c=>by omega))];unfold wn;rw[if_pos rfl])
   · have hP:∀R,nb h 2 f m R=(R.dy,decide ((m:Int)=1)):=fun R=>by unfold nb;rw[if_neg (by decide),if_pos rfl]
     rw[hP];refine af hT (C:= []) Tryz.func255 rfl Tryz.call255 rfl rfl rfl ?_;conv=>whnf
     repeat' (first|(refine ao c166 ⟨oS hm,lr,trivial⟩ rfl ?_;conv=>whnf)|(refine ac (cb) rfl rfl ?_;rotate_right;conv=>whnf)|(refine ac (ce) rfl rfl ?_;rotate_right;conv=>whnf)|(refine ac (ce2) rfl rfl ?_;rotate_right;conv=>whnf)|(refine ac (cw) rfl rfl ?_;rotate_right;conv=>whnf)|((first|(refine aa ?_ ?_<;>intro hb<;>try simp only[az]at hb)|refine aw hT 4 fM ?_|refine aw hT 13 eV ?_|refine aw hT 24 eW ?_|omega|refine aA ?_|decide|assumption)<;>conv=>whnf))
     all_goals try(exfalso;omega)
     all_goals
      refine .ret _ ?_;conv=>whnf
      refine⟨[],⟨congrArg SV.tup ?_,rfl⟩,trivial⟩;repeat' (refine bD ?_ ?_)
      all_goals (conv=>lhs;whnf)
      all_goals try(with_reducible rfl)
      all_goals simp only[Int.toNat_natCast]
      all_goals first
       |rw[if_pos (by first|exact Or.inr (by assumption)|exact Or.inl (by simp;omega))]
       |(rw[if_neg (fun c=>c.elim (fun c=>by simp at c;omega) (fun c=>by omega))];done)
       |(rw[if_neg (fun c=>c.elim (fun c=>by simp at c;omega) (fun c=>by omega))];unfold wn;rw[if_neg (by decide)])
   · have hP:∀R,nb h 3 f m R=(R.we,decide (0≤JQ (dL h.a f))&&decide (lH h.a h.b ((f:Int)+m - 1)≤JQ (dL h.a f))):=fun R=>by unfold nb;rw[if_neg (by decide),if_neg (by decide),if_pos rfl]
     rw[hP];refine af hT (C:= []) Tryz.func255 rfl Tryz.call255 rfl rfl rfl ?_;conv=>whnf
     repeat' (first|(refine ao c166 ⟨oS hm,lr,trivial⟩ rfl ?_;conv=>whnf)|(refine ac (cb) rfl rfl ?_;rotate_right;conv=>whnf)|(refine ac (ce2) rfl rfl ?_;rotate_right;conv=>whnf)|(refine ac (cw) rfl rfl ?_;rotate_right;conv=>whnf)|((first|(refine aa ?_ ?_<;>intro hb<;>try simp only[az]at hb)|refine aw hT 4 fM ?_|refine aw hT 13 eV ?_|refine aw hT 24 eW ?_|omega|refine aA ?_|decide|assumption)<;>conv=>whnf))
     all_goals try(exfalso;omega)
     all_goals
      refine .ret _ ?_;conv=>whnf
      refine⟨[],⟨congrArg SV.tup ?_,rfl⟩,trivial⟩;repeat' (refine bD ?_ ?_)
      all_goals (conv=>lhs;whnf)
      all_goals try(with_reducible rfl)
      all_goals simp only[Int.toNat_natCast]
      all_goals first
       |rw[if_pos (by first|exact Or.inr (by assumption)|exact Or.inl (by simp;omega))]
       |(rw[if_neg (fun c=>c.elim (fun c=>by simp at c;omega) (fun c=>by omega))];done)
       |(rw[if_neg (fun c=>c.elim (fun c=>by simp at c;omega) (fun c=>by omega))];unfold wn;rw[if_neg (by decide)])
   · have hP:∀R,nb h 4 f m R=(R.wk,decide ((m:Int)=min 7 ((h.se.length:Int) - f))&&((nc h f m).all fun s=>decide (s=h.se.getD f 0))):=fun R=>by
      unfold nb nc;rw[if_neg (by decide),if_neg (by decide),if_neg (by decide),if_pos rfl,Int.toNat_natCast,Int.toNat_natCast]
     rw[hP];obtain⟨W,hW⟩:∃W:Bool,W=decide ((m:Int)=min 7 ((h.se.length:Int) - f)):=⟨_,rfl⟩
     have hSs:∀i,i<m→((nc h f m).take (i+1)).all (fun s=>decide (s=h.se.getD f 0))=(((nc h f m).take i).all (fun s=>decide (s=h.se.getD f 0))&&decide ((nc h f m).getD i 0=h.se.getD f 0)):=fun i hi=>by
      rw[dG (d:=(0:Int)) (by omega),List.all_append];simp
     rw[←hW];obtain⟨S,hS⟩:∃S,S=nc h f m:=⟨_,rfl⟩;rw[←hS]at hSs hsl c166 ⊢;have hle:=oS (h:=h) hm;rw[←hS]at hle;refine af hT (C:= []) Tryz.func255 rfl Tryz.call255 rfl rfl rfl ?_;conv=>whnf
     repeat' (first|((first|refine ao c166 ⟨hle,lr,trivial⟩ rfl ?_|(refine aa ?_ ?_<;>intro hb<;>try simp only[az]at hb)|refine aw hT 4 fM ?_|refine aw hT 13 eV ?_|refine aw hT 24 eW ?_|omega|refine aA ?_|decide|assumption)<;>conv=>whnf))
     all_goals try(exfalso;omega)
     refine ah hT (C:= []) (ι:=Nat) (fun i=>i≤m) (fun i=>aN [(1,.d (.int .i64 4)),(2,.d (.int .i64 f)),(4,.ptr 4 0),(12,.d (.int .i64 (h.rt.getD (h.se.getD (f:Int).toNat 0).toNat bN).wk)),(13,.d (.bool ((S.take i).all (fun s=>decide (s=h.se.getD f 0))&&W))),(98,.d (dC S)),(99,.d (.int .i64 m)),(100,.d (.int .i64 i))] [(4,.cells 335 (EU h))]) (fun i=>m - i) 0 (Nat.zero_le _) ?_ ?_
     · subst hW;exact ae [(4,4)] rfl rfl ⟨lr,lr,lr,lr,lr,hle,am (by omega),lr,trivial⟩ ⟨rr,trivial⟩
     intro i pi;have e2:(i:Int).toNat=i:=Int.toNat_natCast i;rcases Nat.lt_or_ge i m with hi|hi
     · have hss:=hSs i hi;conv=>whnf
       repeat' (first|((first|(refine aa ?_ ?_<;>intro hb<;>try simp only[az]at hb)|refine aw hT 4 fM ?_|refine aw hT 13 eV ?_|refine aw hT 24 eW ?_|omega|refine aA ?_|decide|assumption)<;>conv=>whnf))
       all_goals try(exfalso;omega)
       all_goals
        refine⟨i+1,by omega,by omega,ae [(4,4)] rfl rfl ⟨lr,lr,lr,lr,?_,lr,lr,am (by omega),trivial⟩ ⟨rr,trivial⟩⟩;rw[hss]
        first
         |exact Cq (by simp only[Bool.and_eq_true,e1,e2]at*;rw[hb.1,hb.2];simp)
         |exact Cq (by simp only[e1,e2]at*;grind)
     · have him:i=m:=by omega
       have hSt:S.take i=S:=by rw[List.take_of_length_le (by omega)]
       rw[hSt];clear hP hSs hSt hW;generalize (S.all fun s=>decide (s=h.se.getD f 0))=Z;cases Z<;>cases W
       all_goals
        conv=>whnf
       all_goals
        repeat' (first|((first|(refine aa ?_ ?_<;>intro hb<;>try simp only[az]at hb)|refine aw hT 4 fM ?_|refine aw hT 13 eV ?_|refine aw hT 24 eW ?_|omega|refine aA ?_|decide|assumption)<;>conv=>whnf))
       all_goals try(exfalso;omega)
       all_goals
        refine .ret _ ?_;conv=>whnf
        refine⟨[],⟨congrArg SV.tup ?_,rfl⟩,trivial⟩;repeat' (refine bD ?_ ?_)
        all_goals (conv=>lhs;whnf)
        all_goals try(with_reducible rfl)
       all_goals try simp only[Int.toNat_natCast,Bool.false_and,Bool.and_false,Bool.and_self,reduceCtorEq,true_or,false_or,if_true]
       all_goals first
        |done
        |(rw[if_pos hb];done)
        |(rw[if_neg (Int.not_lt.2 hb)];done)
        |(rw[if_neg (Int.not_lt.2 hb)];unfold wn;rw[if_neg (by decide)])
        |skip
def e7:OL:= [(0,[]),(1,[0]),(2,[]),(3,[]),(4,[]),(5,[]),(6,[]),(7,[]),(8,[]),(9,[7,8]),(10,[7,8,9]),(11,[7,8]),(12,[7,8]),(13,[7,8]),(15,[7,8,9,10,11,12,13]),(16,[7,8,9,10,11,12,13]),(17,[7,8,9,10,11,12,13,15,16]),(18,[7,8,9,10,11,12,13,15,16,17]),(19,[7,8,9,10,11,12,13,15,16]),(20,[7,8,9,10,11,12,13,15,16]),(21,[7,8,9,10,11,12,13,15,16]),(14,[15,16,17,18,19,20,21]),(22,[]),(23,[]),(24,[]),(25,[]),(26,[])]
abbrev EN (l:List pX):DV:=dD 6 Qw eP l
abbrev P8 (l:List pX):aY:=aM 339 6 Qw eP l
theorem Hc (n j:Nat):(uH n).getD j eP=if j=n then{eP with fine:=true}else eP:=by
 unfold uH;rw[fF _ _ _ _ _ (by simp)];split
 · rfl
 · simp only[List.getD_eq_getElem?_getD,List.getElem?_replicate];split<;>rfl
theorem zt (a b c d:Int):(al [eU a b,eU c d]<0)↔(a<b∨(a=b∧c<d)):=by
 simp only[al];unfold eU;repeat' split
 all_goals omega
set_option maxHeartbeats 16000000 in
theorem PO (h:pJ)(ok:qW h)(hl:h.rt.length≤2^20):ai Tryz.prog 220 [KM h] [] (fun y r=>y= .d (EN (EO h))∧r= []):=by
 have hn:=ok.n;refine af hT (C:= []) Tryz.func220 rfl Tryz.call220 rfl rfl rfl ?_;conv=>whnf
 repeat' (first|((first|(refine aa ?_ ?_<;>intro hb<;>try simp only[az]at hb)|refine aw hT 17 e7 ?_|omega|refine aA ?_|decide|assumption)<;>conv=>whnf))
 refine ah hT (C:= []) (ι:=Nat) (fun j=>j≤h.se.length) (fun j=>aN [(1,.ptr 1 0),(3,.d (.int .i64 h.se.length)),(4,.buf 4),(5,.d (.int .i64 ((h.se.length:Int) - 1 - j)))] [(1,.cells 335 (EU h)),(4,P8 (I5 h j))]) (fun j=>h.se.length - j) 0 (Nat.zero_le _) ?_ ?_
 · refine ae [(1,1),(4,17)] rfl rfl ⟨lr,lr,lr,am (by omega),trivial⟩ ⟨rr,bB (by show _=(uH h.se.length).length;unfold uH;rw[List.length_set,List.length_replicate];omega) (fun j hj=> ?_),trivial⟩;show _=Qw ((uH h.se.length).getD j eP);rw[Hc]
   by_cases e:j=h.se.length
   · subst e;rw[if_pos rfl,Int.toNat_natCast,Nat.beq_refl,cond_true];rfl
   · rw[if_neg e,Int.toNat_natCast,ax e,cond_false];rfl
 intro j pj;rcases Nat.lt_or_ge j h.se.length with hj|hj
 · have hI :=Co ok j pj;obtain⟨i,hi⟩:∃i,i=h.se.length - 1 - j:=⟨_,rfl⟩;have hin:i<h.se.length:=by omega
   have hii:(h.se.length:Int) - 1 - j=i:=by omega
   have hL:J8 h i=min 7 (h.se.length - i):=rfl;rw[hii];conv=>whnf
   repeat' (first|((first|(refine aa ?_ ?_<;>intro hb<;>try simp only[az]at hb)|refine aw hT 17 e7 ?_|omega|refine aA ?_|decide|assumption)<;>conv=>whnf))
   refine ah hT (C:= []) (ι:=Nat) (fun k=>k≤4) (fun k=>aN [(1,.ptr 1 0),(3,.d (.int .i64 h.se.length)),(4,.buf 4),(5,.d (.int .i64 i)),(6,.d (.int .i64 ((k:Int)+1)))] [(1,.cells 335 (EU h)),(4,P8 (Ly h i k (I5 h j)))]) (fun k=>4 - k) 0 (by omega) ?_ ?_
   · exact ae [(1,1),(4,4)] rfl rfl ⟨lr,lr,lr,lr,lr,trivial⟩ ⟨rr,rr,trivial⟩
   intro k pk;have hK:=Gg ok hin hI k pk;rcases Nat.lt_or_ge k 4 with hk|hk
   · conv=>whnf
     repeat' (first|((first|(refine aa ?_ ?_<;>intro hb<;>try simp only[az]at hb)|refine aw hT 17 e7 ?_|omega|refine aA ?_|decide|assumption)<;>conv=>whnf))
     refine ah hT (C:= []) (ι:=Nat) (fun m=>m≤J8 h i) (fun m=>aN [(1,.ptr 1 0),(3,.d (.int .i64 h.se.length)),(4,.buf 4),(5,.d (.int .i64 i)),(6,.d (.int .i64 ((k:Int)+1))),(7,.d (.int .i64 ((m:Int)+1)))] [(1,.cells 335 (EU h)),(4,P8 (LV h i ((k+1:Nat):Int) m (Ly h i k (I5 h j))))]) (fun m=>J8 h i - m) 0 (Nat.zero_le _) ?_ ?_
     · exact ae [(1,1),(4,4)] rfl rfl ⟨lr,lr,lr,lr,lr,lr,trivial⟩ ⟨rr,rr,trivial⟩
     intro m pm;have hM:=Ff ok hin (k:=((k+1:Nat):Int)) (by omega) hK m;obtain⟨B,hB⟩:∃B,B=LV h i ((k+1:Nat):Int) m (Ly h i k (I5 h j)):=⟨_,rfl⟩;have hBl:=hM.len;rw[←hB]at hM hBl;have hbf:(bif false then max 7 ((h.se.length:Int) - (i:Int))else min 7 ((h.se.length:Int) - (i:Int)))=((J8 h i:Nat):Int):=by show min 7 ((h.se.length:Int) - (i:Int))=_;rw[hL];omega
     rcases Nat.lt_or_ge m (J8 h i)with hm|hm
     · have him:i+(m+1)≤h.se.length:=by omega
       have c214:=PC h ok hl ((k:Int)+1) (by omega) i (m+1) (by omega) him;have c214':ai Tryz.prog 255 [KM h,.d (.int .i64 ((k:Int)+1)),.d (.int .i64 i),.d (.int .i64 ((m:Int)+1))] [] (fun y r=>y= .tup [.d (.int .i64 (nK h ((k:Int)+1) i ((m:Int)+1)).1),.d (.bool (nK h ((k:Int)+1) i ((m:Int)+1)).2)]∧r= []):=c214;have hpb:=Dk ok (k:=(k:Int)+1) (f:=(i:Int)) (m:=(m:Int)+1) (by omega);obtain⟨q,hq⟩:∃q,q=nK h ((k:Int)+1) i ((m:Int)+1):=⟨_,rfl⟩;rw[←hq]at c214' hpb;have hB2:B.length≤2^20:=by omega
       have hbi:=hM.bd i (by omega);have hbm:=hM.bd (i+(m+1)) him;have im:((i:Int)+((m:Int)+1)).toNat=i+(m+1):=by omega
       have ii:(i:Int).toNat=i:=Int.toNat_natCast i;rw[←im]at hbm;have hS:LV h i ((k+1:Nat):Int) (m+1) (Ly h i k (I5 h j))=Ng h i ((k:Int)+1) ((m:Int)+1) B:=by rw[hB];rfl
       have hD:Ng h i ((k:Int)+1) ((m:Int)+1) B=if q.2=false∨(B.getD ((i:Int)+((m:Int)+1)).toNat eP).fine=false then B else if(B.getD i eP).fine=false∨q.1+(B.getD ((i:Int)+((m:Int)+1)).toNat eP).cost<(B.getD i eP).cost∨(q.1+(B.getD ((i:Int)+((m:Int)+1)).toNat eP).cost=(B.getD i eP).cost∧1+(B.getD ((i:Int)+((m:Int)+1)).toNat eP).pcs<(B.getD i eP).pcs)then B.set (i:Int).toNat ⟨q.1+(B.getD ((i:Int)+((m:Int)+1)).toNat eP).cost,1+(B.getD ((i:Int)+((m:Int)+1)).toNat eP).pcs,(k:Int)+1,(m:Int)+1,q.1,true⟩else B:=by
        rw[hq,im,ii];rfl
       have hBe:=hB.symm;clear hB hq;rw[hBe];conv=>whnf
       repeat' (first|(refine ac (c214') rfl rfl ?_;rotate_right;conv=>whnf)|(refine ac (FC _ _) rfl rfl ?_;rotate_right;conv=>whnf)|((first|refine ao (A5 [_,_] (by simp)) ⟨aj (by rfl) (by rfl),trivial⟩ rfl ?_|(refine aa ?_ ?_<;>intro hb<;>try simp only[az]at hb)|refine aw hT 17 e7 ?_|omega|refine aA ?_|decide|assumption)<;>conv=>whnf))
       all_goals try(exfalso;omega)
       all_goals
        refine⟨m+1,by omega,by omega,ae [(1,1),(4,4)] rfl rfl ⟨lr,lr,lr,lr,lr,am (by omega),trivial⟩ ⟨rr,?_,trivial⟩⟩;rw[hS,hD];simp only[zt,Int.toNat_natCast]at*
        first
         |(rw[if_pos (Or.inl hb)];exact rr)
         |(rw[if_pos (Or.inr hb)];exact rr)
         |(rw[if_neg (by simp_all),if_pos (by first|exact Or.inl hb|exact Or.inr hb)];exact g8 (fun y _=>rfl))
         |(rw[if_neg (by simp_all),if_neg (fun c=>c.elim (fun c=>by simp_all) (fun z=>absurd ((zt _ _ _ _).2 z) (Int.not_lt.2 hb)))];exact rr)
     · have hmL:m=J8 h i:=by omega
       subst hmL;conv=>whnf
       repeat' (first|((first|(refine aa ?_ ?_<;>intro hb<;>try simp only[az]at hb)|refine aw hT 17 e7 ?_|omega|refine aA ?_|decide|assumption)<;>conv=>whnf))
       all_goals try(exfalso;omega)
       exact⟨k+1,by omega,by omega,ae [(1,1),(4,4)] rfl rfl ⟨lr,lr,lr,lr,am (by omega),trivial⟩ ⟨rr,rr,trivial⟩⟩
   · have hk4:k=4:=by omega
     subst hk4;conv=>whnf
     repeat' (first|((first|(refine aa ?_ ?_<;>intro hb<;>try simp only[az]at hb)|refine aw hT 17 e7 ?_|omega|refine aA ?_|decide|assumption)<;>conv=>whnf))
     all_goals try(exfalso;omega)
     refine⟨j+1,by omega,by omega,ae [(1,1),(4,4)] rfl rfl ⟨lr,lr,lr,am (by omega),trivial⟩ ⟨rr,?_,trivial⟩⟩;rw[hi];exact rr
 · have hjn:j=h.se.length:=by omega
   subst hjn;conv=>whnf
   repeat' (first|((first|(refine aa ?_ ?_<;>intro hb<;>try simp only[az]at hb)|refine aw hT 17 e7 ?_|omega|refine aA ?_|decide|assumption)<;>conv=>whnf))
   all_goals try(exfalso;omega)
   refine .freeze _ 4 339 6 _ _ rfl (.weak _ ?_);conv=>whnf
   exact⟨_,[],lr,⟨rfl,rfl⟩,trivial⟩
def Ag:OL:= [(0,[]),(2,[0]),(6,[0,2]),(1,[2,6]),(3,[6]),(4,[6]),(5,[6]),(7,[]),(8,[]),(9,[]),(10,[])]
theorem zF {s:List UInt8}(h:aG s=true):s.length≤40:=by
 unfold aG at h;simp only[Bool.and_eq_true,decide_eq_true_eq]at h;exact h.2
def Qs (d:pX):List DV:= [.int .i64 d.kind,.int .i64 d.days,.int .i64 d.cents]
abbrev pcs (l:List pX):DV:=dD 3 Qs eP l
theorem P0 (l:List iy)(hl:zx l)(hE:fH l=0)(c:List UInt8)(hc:aG c=true)(hcl:c.length≤2^40)(a b:Int)(hTm:ic a b=0):
 ai Tryz.prog 218 [.d (fR l),.d (.str c),.agg [.d (.int .i64 a),.d (.int .i64 b)]] [] (fun y r=>y= .d (.int .i64 0)∧r= []):=by
 have h1:=Nj l hl;have h2:=Kw a b;have h3:=fu [0,0,0] (by simp);have hk:=gC c hcl;rw[hE]at h1;rw[hTm]at h2;rw[hc]at hk;refine af hT (C:= []) Tryz.func218 rfl Tryz.call218 rfl rfl rfl ?_;conv=>whnf
 repeat' (first|(refine ac (h1) rfl rfl ?_;rotate_right;conv=>whnf)|(refine ac (h2) rfl rfl ?_;rotate_right;conv=>whnf)|(refine ac (hk) rfl rfl ?_;rotate_right;conv=>whnf)|(refine ac (eK _ _) rfl rfl ?_;rotate_right;conv=>whnf)|((first|refine ao h3 ⟨aj (by rfl) (by rfl),trivial⟩ rfl ?_|(refine aa ?_ ?_<;>intro hb<;>try simp only[az]at hb)|refine aw hT 1 Ag ?_|omega|refine aA ?_|decide|assumption)<;>conv=>whnf))
 refine .ret _ ?_;conv=>whnf
 refine⟨[],⟨?_,rfl⟩,trivial⟩;conv=>lhs;whnf
 rfl
theorem qP {l:List iy}(h:fH l=0):l.length≤200∧∀x ∈ l,(0≤x.frm∧x.frm<x.to∧x.to≤4001)∧nums x:=by
 unfold fH at h;split at h
 · cases h
 · refine⟨by omega,fun x hx=> ?_⟩;obtain⟨j,hj,rfl⟩:=bQ (d:=bN) hx;have:=cg h j hj;unfold lI at this
   dsimp only at this
   split at this
   · cases this
   · split at this
     · cases this
     · rename_i c;have c:=Classical.not_not.1 c;exact⟨⟨c.1,c.2.1,c.2.2.1⟩,c.2.2.2⟩
theorem Cz {l:List iy}(h:fH l=0)(c:List UInt8){a b:Int}(hTm:ic a b=0):qW (fo l c a b):=by
 obtain⟨r1,r2⟩:=qP h;have hd:(0≤a∧a<b∧b≤5761439)∧b - a≤172800:=by unfold ic at hTm;split at hTm<;>omega
 have hn:df a b=(b - a+1440 - 1)/1440:=by unfold df;rw[Int.tdiv_eq_ediv_of_nonneg (by omega)]
 have hsl:(fo l c a b).se.length=(df a b).toNat:=by simp[fo,jF]
 refine⟨by rw[hsl];omega,hd.1,by rw[hsl];show a+_<b;omega,fun x hx=>(r2 x hx).2,fun s hs=> ?_⟩;simp only[fo,jF,List.mem_map]at hs;obtain⟨i,_,rfl⟩:=hs;have:=e6 (p:=fun j=>(l.getD j bN).cls==c&&(decide ((l.getD j bN).frm≤(dL a i).tdiv 1440)&&decide ((dL a i).tdiv 1440≤(l.getD j bN).to - 1))) (n:=l.length);exact⟨this.1,this.2.1⟩
set_option maxHeartbeats 4000000 in
theorem Rj (l:List iy)(hl:zx l)(hE:fH l=0)(c:List UInt8)(hc:aG c=true)(hcl:c.length≤2^40)(a b:Int)(hTm:ic a b=0):
 ai Tryz.prog 177 [.d (fR l),.d (.str c),.agg [.d (.int .i64 a),.d (.int .i64 b)]] []
  (fun y r=>y=(if((EO (fo l c a b)).getD 0 eP).fine=true then .tup [.d (pcs (oX (EO (fo l c a b)) (df a b).toNat 0)),.d (.int .i64 0)]else .tup [.d .nilsl,.d (.int .i64 8)])∧r= []):=by
 obtain⟨r1,r2⟩:=qP hE;have ok:=Cz hE c hTm;have hd:(0≤a∧a<b∧b≤5761439)∧b - a≤172800:=by unfold ic at hTm;split at hTm<;>omega
 have hn:df a b≤120:=by have:=zk (a:=a) (b:=b) (by omega);omega
 have c161:=P0 l hl hE c hc hcl a b hTm;have c162:=Pa l (by omega) (fun x hx=>by have:=(r2 x hx).1;omega) c a b hd.1 hn;have c163:=PO (fo l c a b) ok (by show l.length≤_;omega);have hI:=Co ok (fo l c a b).se.length (Nat.le_refl _);have hV:EO (fo l c a b)=I5 (fo l c a b) (fo l c a b).se.length:=rfl;rw[←hV]at hI;have hnl:(fo l c a b).se.length=(df a b).toNat:=by simp[fo,jF]
 have c163':ai Tryz.prog 220 [.agg [.d (fR l),.d (.int .i64 a),.d (.int .i64 b),.d (dC (jF l c a (df a b).toNat))]] [] (fun y r=>y= .d (EN (EO (fo l c a b)))∧r= []):=c163;generalize fo l c a b=R at*;generalize EO R=B at*;have hBl:=hI.len;have hn1:=ok.n;rw[←hnl]
 by_cases q:(B.getD 0 eP).fine=true
 · rw [if_pos q];refine af hT (C:= []) Tryz.func177 rfl Tryz.call177 rfl rfl rfl ?_;conv=>whnf
   repeat' (first|(refine ac (c161) rfl rfl ?_;rotate_right;conv=>whnf)|(refine ac (c162) rfl rfl ?_;rotate_right;conv=>whnf)|(refine ac (c163') rfl rfl ?_;rotate_right;conv=>whnf)|((first|(refine aa ?_ ?_<;>intro hb<;>try simp only[az]at hb)|omega|refine aA ?_|decide|assumption)<;>conv=>whnf))
   all_goals try(exfalso;first|omega|exact absurd q (by simpa using hb))
   refine ah hT (C:= []) (ι:=Nat×List pX) (fun(i,L)=>(i≤R.se.length∧(B.getD i eP).fine=true)∧L.length≤i∧∃f,R.se.length - i≤f∧oX B R.se.length 0=L++oX B f i)
    (fun(i,L)=>aN [(9,.d (EN B)),(10,.buf 10),(11,.d (.int .i64 i))] [(10,aM 289 3 Qs eP L)]) (fun(i,_)=>R.se.length - i) (0,[]) ⟨⟨Nat.zero_le _,q⟩,Nat.le_refl _,R.se.length,by omega,rfl⟩ ?_ ?_
   · exact(dv.nil 10 10 289 3 (aV Qs eP []) rfl rfl (by decide)).trans (ae [(10,10)] rfl rfl ⟨lr,lr,lr,trivial⟩ ⟨rr,trivial⟩)
   rintro⟨i,L⟩ ⟨⟨p1,p2⟩,p3,f,p4,p5⟩;have p1:i≤R.se.length:=p1;have p3:L.length≤i:=p3;have e1:(i:Int).toNat=i:=Int.toNat_natCast i;rcases Nat.lt_or_ge i R.se.length with hi|hi
   · obtain⟨s1,s2,s3,s4⟩:=hI.stp i hi p2;rw[←e1]at s2 s3;conv=>whnf
     repeat' (first|((first|(refine aa ?_ ?_<;>intro hb<;>try simp only[az]at hb)|omega|refine aA ?_|decide|assumption)<;>conv=>whnf))
     all_goals try(exfalso;omega)
     rw[e1]at s2 s3;obtain⟨f',rfl⟩:∃f',f=f'+1:=⟨f - 1,by omega⟩;rw[oX,if_pos (by omega)]at p5
     exact⟨(i+(B.getD i eP).days.toNat,L++ [B.getD (i:Int).toNat eP]),⟨⟨by show i+_≤_;omega,s4⟩,by show(L++ [_]).length≤i+_;rw[List.length_append];simp only[List.length_cons,List.length_nil];omega,f',by show R.se.length - (i+_)≤f';omega,by rw[p5,e1];simp⟩,by show R.se.length - (i+_)<R.se.length - i;omega,
      ae [(10,49)] rfl rfl ⟨lr,lr,am (by rw[e1];omega),trivial⟩ ⟨aR rfl,trivial⟩⟩
   · have hin:i=R.se.length:=by omega
     have hz:∀f,oX B f i= []:=fun f=>by
      cases f with
      |zero=>rfl
      |succ f=>rw[oX,if_neg (by omega)]
     rw[hz,List.append_nil]at p5;rw[p5];conv=>whnf
     repeat' (first|((first|(refine aa ?_ ?_<;>intro hb<;>try simp only[az]at hb)|omega|refine aA ?_|decide|assumption)<;>conv=>whnf))
     all_goals try(exfalso;omega)
     refine .freeze _ 10 289 3 _ _ rfl (.weak _ ?_);conv=>whnf
     exact⟨_,[],bG (m:= [.d (pcs L),.d (.int .i64 0)]) ⟨lr,lr,trivial⟩,⟨rfl,rfl⟩,trivial⟩
 · rw[if_neg q];refine af hT (C:= []) Tryz.func177 rfl Tryz.call177 rfl rfl rfl ?_;conv=>whnf
   repeat' (first|(refine ac (c161) rfl rfl ?_;rotate_right;conv=>whnf)|(refine ac (c162) rfl rfl ?_;rotate_right;conv=>whnf)|(refine ac (c163') rfl rfl ?_;rotate_right;conv=>whnf)|((first|(refine aa ?_ ?_<;>intro hb<;>try simp only[az]at hb)|omega|refine aA ?_|decide|assumption)<;>conv=>whnf))
   all_goals try(exfalso;first|omega|exact absurd (by simpa using hb) q)
   refine .ret _ ?_;conv=>whnf
   refine⟨[],⟨congrArg SV.tup ?_,rfl⟩,trivial⟩;repeat' (refine bD ?_ ?_)
   all_goals (conv=>lhs;whnf)
   all_goals try(with_reducible rfl)
theorem Mv (n:Int)(hn:0≤n∧n≤2^60):ai Tryz.prog 224 [.d (.int .i64 n)] [] (fun y r=>y= .d (.int .i64 (nk n))∧r= []):=by
 have hq:aF ((n+500).tdiv 1000):=by unfold aF;rw[Int.tdiv_eq_ediv_of_nonneg (by omega)];omega
 have hm0:0≤(n+500).tmod 1000:=Int.tmod_nonneg _ (by omega);have hm:aF ((n+500).tmod 1000):=by unfold aF;rw[Int.tmod_eq_emod_of_nonneg (by omega)];omega
 refine af hT (C:= []) Tryz.func224 rfl Tryz.call224 rfl rfl rfl ?_;conv=>whnf
 repeat' (first|((first|refine And.intro hq ?_|refine And.intro hm ?_|(refine aa ?_ ?_<;>intro hb<;>try simp only[az]at hb)|omega|refine aA ?_|decide|assumption)<;>conv=>whnf))
 all_goals try(exfalso;omega)
 refine .ret _ ?_;conv=>whnf
 refine⟨[],⟨?_,rfl⟩,trivial⟩;conv=>lhs;whnf
 unfold nk;rw[if_neg (by omega)]
set_option maxHeartbeats 4000000 in
theorem PL (l:List Fe)(hl:IM l)(hE:nh l=0)(A B:List UInt8)(hA:aG A=true)(hB:aG B=true):
 ai Tryz.prog 180 [.d (ER l),.d (.str A),.d (.str B)] [] (fun y r=>y=(if A=B then .tup [.d (.int .i64 0),.d (.int .i64 0)]else if pf l A B<0 then .tup [.d (.int .i64 0),.d (.int .i64 8)]else .tup [.d (.int .i64 (l.getD (pf l A B).toNat uz).cents),.d (.int .i64 0)])∧r= []):=by
 have h1:=Nq l hl;rw[hE]at h1;have hkA:=gC A (Nat.le_trans (zF hA) (by decide));have hkB:=gC B (Nat.le_trans (zF hB) (by decide));rw[hA]at hkA;rw[hB]at hkB;have h3:=fu [0,0] (by simp);have hll:l.length≤2^40:=hl.1;refine af hT (C:= []) Tryz.func180 rfl Tryz.call180 rfl rfl rfl ?_;conv=>whnf
 repeat' (first|(refine ac (h1) rfl rfl ?_;rotate_right;conv=>whnf)|(refine ac (hkA) rfl rfl ?_;rotate_right;conv=>whnf)|(refine ac (hkB) rfl rfl ?_;rotate_right;conv=>whnf)|(refine ac (eK _ _) rfl rfl ?_;rotate_right;conv=>whnf)|((first|refine ao h3 ⟨aj (by rfl) (by rfl),trivial⟩ rfl ?_|(refine aa ?_ ?_<;>intro hb<;>try simp only[az]at hb)|omega|refine aA ?_|decide|assumption)<;>conv=>whnf))
 all_goals try(exfalso;omega)
 · rw[if_pos hb];refine .ret _ ?_;conv=>whnf
   refine⟨[],⟨congrArg SV.tup ?_,rfl⟩,trivial⟩;repeat' (refine bD ?_ ?_)
   all_goals (conv=>lhs;whnf)
   all_goals try(with_reducible rfl)
 have hne:¬A=B:=by assumption
 rw[if_neg hne];refine ah hT (C:= []) (ι:=Nat) (fun i=>i≤l.length∧∀j,j<i→((l.getD j uz).a==A&&(l.getD j uz).b==B)=false) (fun i=>aN [(1,.d (.str A)),(2,.d (.str B)),(30,.d (ER l)),(31,.d (.int .i64 l.length)),(32,.d (.int .i64 i))] []) (fun i=>l.length - i) 0 ⟨by omega,by omega⟩ (by exact bz []) ?_;rintro i ⟨p1,p2⟩;have e1:(i:Int).toNat=i:=Int.toNat_natCast i;conv=>whnf
 repeat' (first|((first|(refine aa ?_ ?_<;>intro hb<;>try simp only[az]at hb)|omega|refine aA ?_|decide|assumption)<;>conv=>whnf))
 · have hh:((l.getD i uz).a==A&&(l.getD i uz).b==B)=true:=by simp only[e1]at*;simp;exact⟨by assumption,hb⟩
   have hx:pf l A B=i:=gm (by omega) p2 hh;rw[hx,if_neg (by omega)];refine .ret _ ?_;conv=>whnf
   refine⟨[],⟨congrArg SV.tup ?_,rfl⟩,trivial⟩;repeat' (refine bD ?_ ?_)
   all_goals (conv=>lhs;whnf)
   all_goals try(with_reducible rfl)
 · exact⟨i+1,⟨by omega,bH p2 (by simp only[e1]at*;simp;intro z;exact hb)⟩,by omega,(by exact bz [])⟩
 · exact⟨i+1,⟨by omega,bH p2 (by simp only[e1]at*;simp;intro z;exact absurd z hb)⟩,by omega,(by exact bz [])⟩
 · have:i=l.length:=by omega
   subst this;have hx:pf l A B= -1:=eG p2;rw[hx,if_pos (by omega)];refine .ret _ ?_;conv=>whnf
   refine⟨[],⟨congrArg SV.tup ?_,rfl⟩,trivial⟩;repeat' (refine bD ?_ ?_)
   all_goals (conv=>lhs;whnf)
   all_goals try(with_reducible rfl)
def sn:OL:= [(0,[]),(1,[0]),(3,[0,1]),(7,[0,1,3]),(9,[0,1,3,7]),(2,[3,7,9]),(4,[7,9]),(5,[7,9]),(6,[7,9]),(8,[9]),(10,[]),(11,[]),(12,[]),(13,[]),(14,[]),(15,[])]
def hU:OL:= [(0,[]),(1,[0]),(2,[0]),(3,[0,1,2]),(4,rg 4),(5,rg 4),(6,[0,1,2]),(7,[0,1,2]),(8,[0]),(9,[0]),(10,[]),(11,[])]
abbrev jP (l:List gR):aY:=aM 68 3 Jn j5 l
theorem Mw:ai Tryz.prog 174 [.d .nilsl,.any] [] (fun y r=>y= .d (.int .i64 0)∧r= []):=by
 refine af hT (C:= []) Tryz.func174 rfl Tryz.call174 rfl rfl rfl ?_;conv=>whnf
 repeat' (first|((first|(refine aa ?_ ?_<;>intro hb<;>try simp only[az]at hb)|omega|refine aA ?_|decide|assumption)<;>conv=>whnf))
 refine ah hT (C:= []) (ι:=Unit) (fun _=>True) (fun _=>aN [(0,.d .nilsl),(1,.any),(10,.d .nilsl),(11,.d (.int .i64 0)),(12,.d (.int .i64 0))] []) (fun _=>0) () trivial (by exact bz []) ?_;rintro⟨⟩ -;conv=>whnf
 repeat' (first|((first|(refine aa ?_ ?_<;>intro hb<;>try simp only[az]at hb)|omega|refine aA ?_|decide|assumption)<;>conv=>whnf))
 refine .ret _ ?_;conv=>whnf
 refine⟨[],⟨?_,rfl⟩,trivial⟩;conv=>lhs;whnf
theorem NK (t:rB):ai Tryz.prog 109 [.agg (uA t),.d .nilsl] [] (fun y r=>y= .d (.int .i64 0)∧r= []):=by
 refine af hT (C:= []) Tryz.func109 rfl Tryz.call109 rfl rfl rfl ?_;conv=>whnf
 repeat' (first|((first|refine ao Mw ⟨lr,aI _,trivial⟩ rfl ?_|(refine aa ?_ ?_<;>intro hb<;>try simp only[az]at hb)|omega|refine aA ?_|decide|assumption)<;>conv=>whnf))
 refine .ret _ ?_;conv=>whnf
 refine⟨[],⟨?_,rfl⟩,trivial⟩;conv=>lhs;whnf
theorem Mi (l:List vX)(hl:Cf l)(hE:jq l=0)(c:List UInt8)(hc:aG c=true)(a b:Int)(hTm:ic a b=0)(s:Int)(hs:0≤s):
 ai Tryz.prog 178 [.d (ug l),.d .nilsl,.d (.str c),.agg [.d (.int .i64 a),.d (.int .i64 b)],.d (.int .i64 s)] [] (fun y r=>y= .tup [.d (.str []),.d (.int .i64 0),.d (.int .i64 (if 1000000000<s then 1 else 0))]∧r= []):=by
 have h1:=Nu l hl;rw[hE]at h1;have hk:=gC c (Nat.le_trans (zF hc) (by decide));rw[hc]at hk;have h2:=Kw a b;rw[hTm]at h2;have h3:=fu [0,0,0,if 1000000000<s then 1 else 0] (by simp);have e3:al [0,0,0,if 1000000000<s then 1 else 0]=if 1000000000<s then 1 else 0:=by split<;>rfl
 rw[e3]at h3
 have hW:(if(!decide (0≤s∧s≤1000000000))=true then(1:Int)else 0)=if 1000000000<s then 1 else 0:=by
  by_cases q:1000000000<s
  · rw[if_pos q,decide_eq_false (by omega)];rfl
  · rw[if_neg q,decide_eq_true (by omega)];rfl
 have h4:=eK (!decide (0≤s∧s≤1000000000)) 1;rw[hW]at h4;refine af hT (C:= []) Tryz.func178 rfl Tryz.call178 rfl rfl rfl ?_;conv=>whnf
 repeat' (first|(refine ac (h1) rfl rfl ?_;rotate_right;conv=>whnf)|(refine ao Mw ⟨lr,aI _,trivial⟩ rfl ?_;conv=>whnf)|(refine ac (hk) rfl rfl ?_;rotate_right;conv=>whnf)|(refine ac (h2) rfl rfl ?_;rotate_right;conv=>whnf)|(refine ac (fA _ _ _) rfl rfl ?_;rotate_right;conv=>whnf)|(refine ac (h4) rfl rfl ?_;rotate_right;conv=>whnf)|(refine ac (eK _ _) rfl rfl ?_;rotate_right;conv=>whnf)|((first|refine ao h3 ⟨aj (by rfl) (by rfl),trivial⟩ rfl ?_|(refine aa ?_ ?_<;>intro hb<;>try simp only[az]at hb)|refine aw hT 4 sn ?_|refine aw hT 11 oBQuG178_11 ?_|refine aw hT 12 oBQuG178_12 ?_|omega|refine aA ?_|decide|assumption)<;>conv=>whnf))
 · have e:(if 1000000000<s then(1:Int)else 0)=1:=by
    by_cases q:1000000000<s
    · rw[if_pos q]
    · rw[if_neg q]at hb;exact absurd rfl hb
   rw[e];refine .ret _ ?_;conv=>whnf
   refine⟨[],⟨congrArg SV.tup ?_,rfl⟩,trivial⟩;repeat' (refine bD ?_ ?_)
   all_goals (conv=>lhs;whnf)
   all_goals try(with_reducible rfl)
 have e:(if 1000000000<s then(1:Int)else 0)=0:=by
  by_cases q:1000000000<s
  · rw[if_pos q]at hb;cases hb
  · rw[if_neg q]
 rw[e];refine ah hT (C:= []) (ι:=Unit) (fun _=>True) (fun _=>aN [(15,.d (.str [])),(16,.d (.int .i64 0)),(45,.d .nilsl),(46,.d (.int .i64 0)),(47,.d (.int .i64 0))] []) (fun _=>0) () trivial (by exact bz []) ?_;rintro⟨⟩ -;conv=>whnf
 repeat' (first|((first|(refine aa ?_ ?_<;>intro hb<;>try simp only[az]at hb)|refine aw hT 4 sn ?_|refine aw hT 11 oBQuG178_11 ?_|refine aw hT 12 oBQuG178_12 ?_|omega|refine aA ?_|decide|assumption)<;>conv=>whnf))
 refine .ret _ ?_;conv=>whnf
 refine⟨[],⟨congrArg SV.tup ?_,rfl⟩,trivial⟩;repeat' (refine bD ?_ ?_)
 all_goals (conv=>lhs;whnf)
 all_goals try(with_reducible rfl)
theorem Jo (M:Int)(hM:0≤M∧M≤2^40)(l:List gR)(hn:l.length≤1000)(hl:∀c ∈ l,-M≤c.cents∧c.cents≤M):ai Tryz.prog 27 [.buf 1000001] [(1000001,jP l)] (fun x r=>x= .d (.int .i64 (bX l))∧r= [(1000001,jP l)]):=by
 have h1:=nW (args:= [.buf 1000001]) 1000001 68 3 l.length (aV Jn j5 l) (Mo M hM l hn hl) rfl (fun c r q=>nomatch q) rfl
  (fun x r h=>by obtain⟨rfl,rfl⟩:=h;exact⟨rfl,fun c q e=>(nomatch e),rfl⟩)
 exact h1.mono (fun x r h=>by obtain⟨r0,⟨q,rfl⟩,rfl⟩:=h;exact⟨q,rfl⟩)
theorem FG (t:lD){L:List gR}{i:Nat}(h:i<L.length):zZ t (L.take (i+1))=zZ t (L.take i)+(if(L.getD i j5).kind ∈ t.on then(L.getD i j5).cents else 0):=by
 rw[dG (d:=j5) h];simp[zZ]
structure KU (l:List lD)(L:List gR):Prop where
 tl:l.length≤10
 per:∀x ∈ l,(0≤x.per∧x.per≤1000)∧x.on.length≤2^40
 ln:L.length≤1000
 ct:∀x ∈ L,0≤x.cents
 sm:bX L+1≤1002000000
theorem MZ {k:Nat}(h:k≤10):(1:Int)≤2 ^ k∧(2:Int) ^ k≤1024:=by
 have:k=0∨k=1∨k=2∨k=3∨k=4∨k=5∨k=6∨k=7∨k=8∨k=9∨k=10:=by omega
 rcases this with rfl|rfl|rfl|rfl|rfl|rfl|rfl|rfl|rfl|rfl|rfl<;>decide
theorem KU.bd {l:List lD}{L:List gR}(h:KU l L){k:Nat}(hk:k≤l.length):(∀x ∈ gc l L k,0≤x.cents)∧0≤bX (gc l L k)∧bX (gc l L k)≤1026048000000:=by
 obtain⟨a,b,c⟩:=Ib (b:=1002000000) h.sm h.ct (fun x hx=>(h.per x hx).1) k hk;have:=MZ (Nat.le_trans hk h.tl);exact⟨a,b,by omega⟩
theorem Cv {L:List gR}(h:∀x ∈ L,0≤x.cents):∀x ∈ L,x.cents≤bX L:=by
 induction L with
 |nil=>intro x hx;cases hx
 | cons y L ih=>
   intro x hx;have h0:=h y List.mem_cons_self;have ih:=ih fun z hz=>h z (List.mem_cons_of_mem _ hz)
   have hs:0≤bX L:=(mw ⟨[],0,[],false⟩ (fun z hz=>h z (List.mem_cons_of_mem _ hz))).1|>fun q=>Int.le_trans q (mw ⟨[],0,[],false⟩ (fun z hz=>h z (List.mem_cons_of_mem _ hz))).2
   simp only[bX,List.map_cons,List.sum_cons]at hs ih ⊢;rcases List.mem_cons.1 hx with q|q
   · subst q;omega
   · have:=ih x q;omega
set_option maxHeartbeats 4000000 in
theorem JB (l:List lD)(L:List gR)(h:KU l L):ai Tryz.prog 181 [.d (hJ l),.buf 1000001] [(1000001,jP L)] (fun y r=>y= .d (jK (gc l L l.length))∧r= [(1000001,jP L)]):=by
 have htl:=h.tl;have hln:=h.ln;refine af hT (C:= []) Tryz.func181 rfl Tryz.call181 rfl rfl rfl ?_;conv=>whnf
 repeat' (first|((first|(refine aa ?_ ?_<;>intro hb<;>try simp only[az]at hb)|refine aw hT 14 hU ?_|omega|refine aA ?_|decide|assumption)<;>conv=>whnf))
 refine ah hT (C:= []) (ι:=Nat) (fun k=>k≤l.length) (fun k=>aN [(1,.buf 1000001),(5,.buf 5),(11,.d (hJ l)),(12,.d (.int .i64 l.length)),(13,.d (.int .i64 k))] [(5,jP (gc l L k)),(1000001,jP L)]) (fun k=>l.length - k) 0 (Nat.zero_le _) ?_ ?_
 · exact(dv.nil 5 5 68 3 (aV Jn j5 []) rfl rfl (by decide)).trans (ae [(5,5),(1000001,1000001)] rfl rfl ⟨lr,lr,lr,lr,lr,trivial⟩ ⟨rr,rr,trivial⟩)
 intro k pk;have e1:(k:Int).toNat=k:=Int.toNat_natCast k;obtain⟨n1,n2,n3⟩:=h.bd pk;rcases Nat.lt_or_ge k l.length with hk|hk
 · have hp:=h.per _ (aq (x:=cm) (show(k:Int).toNat<l.length by omega));obtain⟨X,hX⟩:∃X,X=gc l L k:=⟨_,rfl⟩;have hXl:X.length=k:=by rw[hX];exact mg l L k
   rw[←hX]at n1 n2 n3
   have hXb:∀c ∈ X,-1026048000000≤c.cents∧c.cents≤1026048000000:=fun c hc=>by
    have:=Cv n1 c hc;have:=n1 c hc;omega
   have ho:=mw (l.getD (k:Int).toNat cm) h.ct;have hsm:=h.sm;rw[←hX];conv=>whnf
   repeat' (first|((first|(refine aa ?_ ?_<;>intro hb<;>try simp only[az]at hb)|refine aw hT 14 hU ?_|omega|refine aA ?_|decide|assumption)<;>conv=>whnf))
   refine ah hT (C:= []) (ι:=Nat) (fun i=>i≤L.length) (fun i=>aN [(1,.buf 1000001),(5,.buf 5),(7,.ptr 7 0),(8,.d (.int .i64 (zZ (l.getD (k:Int).toNat cm) (L.take i)))),(11,.d (hJ l)),(12,.d (.int .i64 l.length)),(13,.d (.int .i64 k)),(17,.buf 1000001),(18,.d (.int .i64 L.length)),(19,.d (.int .i64 i))] [(5,jP X),(7,.cells 243 ((wD (l.getD (k:Int).toNat cm)).map .d)),(1000001,jP L)]) (fun i=>L.length - i) 0 (Nat.zero_le _) ?_ ?_
   · exact ae [(5,5),(7,7),(1000001,1000001)] rfl rfl ⟨lr,lr,lr,lr,lr,lr,lr,lr,lr,lr,trivial⟩ ⟨rr,rr,rr,trivial⟩
   intro i pi;have e2:(i:Int).toNat=i:=Int.toNat_natCast i;have hoi:=mw (l.getD (k:Int).toNat cm) (L:=L.take i) fun x hx=>h.ct x (List.mem_of_mem_take hx)
   have hti:bX (L.take i)≤bX L:=by
    have:=o9 (L.take i) (L.drop i);rw[List.take_append_drop]at this;have h2:=mw (l.getD (k:Int).toNat cm) (L:=L.drop i) fun x hx=>h.ct x (List.mem_of_mem_drop hx)
    omega
   rcases Nat.lt_or_ge i L.length with hi|hi
   · have hci:=h.ct _ (aq (x:=j5) (show(i:Int).toNat<L.length by omega));have hcl:=Cv h.ct _ (aq (x:=j5) (show(i:Int).toNat<L.length by omega));have hsu:=FG (l.getD k cm) hi;conv=>whnf
     repeat' (first|(refine ac (ML (l.getD (k:Int).toNat cm).on hp.2 (L.getD (i:Int).toNat j5).kind) rfl rfl ?_;rotate_right;conv=>whnf)|((first|(refine aa ?_ ?_<;>intro hb<;>try simp only[az]at hb)|refine aw hT 14 hU ?_|omega|refine aA ?_|decide|assumption)<;>conv=>whnf))
     all_goals try(exfalso;omega)
     all_goals
      refine⟨i+1,by omega,by omega,ae [(5,5),(7,7),(1000001,1000001)] rfl rfl ⟨lr,lr,lr,am ?_,lr,lr,lr,lr,lr,am (by omega),trivial⟩ ⟨rr,rr,rr,trivial⟩⟩;simp only[e1,e2];rw[hsu]
      first
       |rw[if_pos hb]
       |rw[if_neg hb,Int.add_zero]
   · have Cy:i=L.length:=by omega
     subst Cy;rw[List.take_length];have c101:=Jo 1026048000000 (by omega) X (by omega) hXb;have ho2:zZ (l.getD (k:Int).toNat cm) L≤1002000000:=by omega
     have hm0:∀z:Int,0≤z→z≤1027050000000→0≤z*(l.getD (k:Int).toNat cm).per∧z*(l.getD (k:Int).toNat cm).per≤1027050000000*1000:=fun z h1 h2=>⟨Int.mul_nonneg h1 hp.1.1,Int.mul_le_mul h2 hp.1.2 hp.1.1 (by omega)⟩
     have hma:=hm0 (zZ (l.getD (k:Int).toNat cm) L) ho.1 (by omega);have hmb:=hm0 (zZ (l.getD (k:Int).toNat cm) L+bX X) (by omega) (by omega);have hN:gc l L (k+1)=X++ [⟨5,(l.getD k cm).key,nk ((zZ (l.getD k cm) L+if(l.getD k cm).over=true then bX X else 0)*(l.getD k cm).per)⟩]:=by rw[hX];rfl
     conv=>whnf
     repeat' (first|(refine cj c101 [(1000001,5)] ?_;rintro y rout ⟨rfl,rfl⟩;refine⟨rfl,?_⟩;conv=>whnf)|(refine ac (Mv ((zZ (l.getD (k:Int).toNat cm) L+bX X)*(l.getD (k:Int).toNat cm).per) ⟨by omega,by omega⟩) rfl rfl ?_;rotate_right;conv=>whnf)|(refine ac (Mv (zZ (l.getD (k:Int).toNat cm) L*(l.getD (k:Int).toNat cm).per) ⟨by omega,by omega⟩) rfl rfl ?_;rotate_right;conv=>whnf)|((first|(refine aa ?_ ?_<;>intro hb<;>try simp only[az]at hb)|refine aw hT 14 hU ?_|omega|refine aA ?_|decide|assumption)<;>conv=>whnf))
     all_goals try(exfalso;omega)
     all_goals
      refine⟨k+1,by omega,by omega,ae [(5,49),(1000001,1000001)] rfl rfl ⟨lr,lr,lr,lr,am (by omega),trivial⟩ ⟨?_,rr,trivial⟩⟩;rw[hN]
      first
       |rw[if_pos hb]
       |rw[if_neg (by rw[hb];simp),Int.add_zero]
      exact aR rfl
 · have hkl:k=l.length:=by omega
   subst hkl;conv=>whnf
   repeat' (first|((first|(refine aa ?_ ?_<;>intro hb<;>try simp only[az]at hb)|refine aw hT 14 hU ?_|omega|refine aA ?_|decide|assumption)<;>conv=>whnf))
   all_goals try(exfalso;omega)
   refine .freeze _ 5 68 3 _ _ rfl (.weak _ ?_);conv=>whnf
   exact⟨_,[(1000001,jP L)],lr,⟨rfl,rfl⟩,rr,trivial⟩
structure Gv (t:rB)(c:List UInt8)(a b:Int)(A B:List UInt8):Prop where
 tok:zJ t
 tE:uK t=0
 ck:aG c=true
 tm:ic a b=0
 Ak:aG A=true
 Bk:aG B=true
abbrev Nb (c:List UInt8)(a b:Int)(A B:List UInt8):SV:=.agg [.d (.str c),.d (.int .i64 a),.d (.int .i64 b),.d (.str A),.d (.str B),.d .nilsl,.d .nilsl]
theorem fV:∀ {l:List Int},al l=0→∀x ∈ l,x=0
 | [],_,x,hx=>by cases hx
 | y ::l,h,x,hx=>by
   simp only[al]at h
   by_cases q:y=0
   · rw[if_pos q]at h;rcases List.mem_cons.1 hx with e|e
     · rw[e];exact q
     · exact fV h x e
   · rw[if_neg q]at h;exact absurd h q
theorem nD {t:rB}(h:uK t=0):fH t.rat=0∧jR t.ext=0∧nh t.fe=0∧jq t.cod=0∧gh t.tax=0:=
 ⟨fV h _ (by simp),fV h _ (by simp),fV h _ (by simp),fV h _ (by simp),fV h _ (by simp)⟩
def dT:OL:= [(0,[]),(1,[]),(2,[0,1]),(3,[0,1]),(4,rg 4),(5,rg 4),(6,rg 6),(7,rg 6),(8,rg 8),(9,rg 8),(10,[]),(11,[]),(12,[]),(13,[12]),(14,[12,13]),(15,[13,14]),(16,[14]),(17,[])]
theorem so {α:Type}{f:α→List DV}{d:α}{l m:List α}{k:Nat}:SV.le (.d (.ro k (l.length+m.length) (eT l.length (aV f d l) (aV f d m)))) (.d (dD k f d (l++m))):=by
 refine bt (by simp) (fun i hi=> ?_)
 by_cases h:i<l.length
 · rw[iO h];simp only[aV];rw[List.getD_eq_getElem?_getD,List.getD_eq_getElem?_getD,List.getElem?_append_left h]
 · rw[fg (by omega)];simp only[aV];rw[List.getD_eq_getElem?_getD,List.getD_eq_getElem?_getD,List.getElem?_append_right (by omega)]
theorem H3 {P:List pX}(h:∀x ∈ P,(0≤x.cents∧x.cents≤24000000)∧1≤x.kind∧x.kind≤4):∀x ∈ P.map oc,0≤x.cents∧x.cents≤24000000:=fun x hx=>by
 obtain⟨y,hy,rfl⟩:=List.mem_map.1 hx;exact(h y hy).1
theorem Dd {t:rB}{c:List UInt8}{a b:Int}{A B:List UInt8}(h:Gv t c a b A B)(q:((EO (fo t.rat c a b)).getD 0 eP).fine=true):(w8 t c a b).length≤120∧∀x ∈ w8 t c a b,(0≤x.cents∧x.cents≤24000000)∧1≤x.kind∧x.kind≤4:=by
 have ok:=Cz (nD h.tE).1 c h.tm;obtain⟨h1,h2⟩:=IX (Co ok (fo t.rat c a b).se.length (Nat.le_refl _)) (df a b).toNat 0 (Nat.zero_le _) q;have:=ok.n;exact⟨Nat.le_trans h1 (by omega),h2⟩
theorem Bf {l:List Fe}(hE:nh l=0){A B:List UInt8}(h:¬pf l A B<0):0≤(l.getD (pf l A B).toNat uz).cents∧(l.getD (pf l A B).toNat uz).cents≤1000000:=by
 have hb:=e6 (p:=fun i=>(l.getD i uz).a==A&&(l.getD i uz).b==B) (n:=l.length);have hi:(pf l A B).toNat<l.length:=by unfold pf at*;omega
 unfold nh at hE;split at hE
 · cases hE
 · have:=cg hE _ hi;unfold Hg at this
   dsimp only at this
   grind
theorem JF {t:rB}(hk:Df t.tax)(hE:gh t.tax=0){L:List gR}(hl:L.length≤1000)(hc:∀x ∈ L,0≤x.cents)(hs:bX L+1≤1002000000):KU t.tax L:=by
 have h1 :t.tax.length≤10∧∀x ∈ t.tax,0≤x.per∧x.per≤1000:=by
  unfold gh at hE;split at hE
  · cases hE
  · refine⟨by omega,fun x hx=> ?_⟩;obtain⟨j,hj,rfl⟩:=bQ (d:=cm) hx;have:=cg hE j hj;unfold ma at this
    dsimp only at this
    split at this
    · cases this
    · split at this
      · cases this
      · split at this
        · cases this
        · rename_i c;exact Classical.not_not.1 c
 exact⟨h1.1,fun x hx=>⟨h1.2 x hx,(hk.2 x hx).2⟩,hl,hc,hs⟩
theorem wI {t:rB}(hE:gh t.tax=0):t.tax.length≤10:=by
 unfold gh at hE;split at hE
 · cases hE
 · omega
def ou (q:List gR×Int):SV:=if q.2≠0 then .tup [.d .nilsl,.d (.int .i64 q.2)]else .tup [.d (jK q.1),.d (.int .i64 0)]
set_option maxHeartbeats 8000000 in
theorem Rn (t :rB)(c:List UInt8)(a b:Int)(A B:List UInt8)(h:Gv t c a b A B):
 ai Tryz.prog 110 [.agg (uA t),Nb c a b A B] [] (fun y r=>y=ou (wM t c a b A B)∧r= []):=by
 obtain⟨e1,e2,e3,e4,e5⟩:=nD h.tE;obtain⟨t1,t2,t3,t4,t5⟩:=h.tok;have hcl:c.length≤2^40:=Nat.le_trans (zF h.ck) (by decide);have c99:=Rj t.rat t1 e1 c h.ck hcl a b h.tm;have c103:=PL t.fe t3 e3 A B h.Ak h.Bk;have hP:oX (EO (fo t.rat c a b)) (df a b).toNat 0=w8 t c a b:=rfl;rw[hP]at c99;unfold wM
 by_cases q:((EO (fo t.rat c a b)).getD 0 eP).fine=true
 · obtain ⟨p1,p2⟩:=Dd h q;rw[if_pos q]at c99;rw[if_neg (by rw[q];simp)];generalize w8 t c a b=P at*;have hL:=H3 p2;have hS0:=mw ⟨[],0,[],false⟩ (L:=P.map oc) fun x hx=>(hL x hx).1
   have c100:=Mi t.cod t4 e4 c h.ck a b h.tm (bX (P.map oc)) (by omega);have c101:=Jo 24000000 (by omega) (P.map oc) (by rw[List.length_map];omega) (fun x hx=>by have:=hL x hx;omega);have hlen:(P.map oc).length≤120:=by rw[List.length_map];exact p1
   refine af hT (C:= []) Tryz.func110 rfl Tryz.call110 rfl rfl rfl ?_;conv=>whnf
   repeat' (first|(refine ac (c99) rfl rfl ?_;rotate_right;conv=>whnf)|((first|(refine aa ?_ ?_<;>intro hb<;>try simp only[az]at hb)|refine aw hT 11 dT ?_|refine aw hT 19 oBQuH110_19 ?_|omega|refine aA ?_|decide|assumption)<;>conv=>whnf))
   all_goals try(exfalso;omega)
   refine ah hT (C:= []) (ι:=Nat) (fun i=>i≤P.length) (fun i=>aN [(2,.ptr 2 0),(3,.ptr 3 0),(8,.buf 8),(30,.d (pcs P)),(31,.d (.int .i64 P.length)),(32,.d (.int .i64 i))] [(2,.cells 38 (uA t)),(3,.cells 151 [.d (.str c),.d (.int .i64 a),.d (.int .i64 b),.d (.str A),.d (.str B),.d .nilsl,.d .nilsl]),(8,jP ((P.take i).map oc))]) (fun i=>P.length - i) 0 (Nat.zero_le _) ?_ ?_
   · exact(dv.nil 8 8 68 3 (aV Jn j5 []) rfl rfl (by decide)).trans (ae [(2,2),(3,3),(8,8)] rfl rfl ⟨lr,lr,lr,lr,lr,lr,trivial⟩ ⟨rr,rr,rr,trivial⟩)
   intro i pi;have e0:(i:Int).toNat=i:=Int.toNat_natCast i;rcases Nat.lt_or_ge i P.length with hi|hi
   · have hx:=(p2 _ (aq (x:=eP) (show(i:Int).toNat<P.length by omega))).2;have hs:(P.take (i+1)).map oc=(P.take i).map oc++ [oc (P.getD (i:Int).toNat eP)]:=by rw[dG (d:=eP) hi,e0];simp
     have hk4:(P.getD (i:Int).toNat eP).kind=1∨(P.getD (i:Int).toNat eP).kind=2∨(P.getD (i:Int).toNat eP).kind=3∨(P.getD (i:Int).toNat eP).kind=4:=by omega
     have hml:(List.map oc (List.take i P)).length≤120:=by rw[List.length_map,List.length_take];omega
     have hlp:oc (P.getD (i:Int).toNat eP)=⟨1,HQ (P.getD (i:Int).toNat eP).kind,(P.getD (i:Int).toNat eP).cents⟩:=rfl;conv=>whnf
     repeat' (first|((first|(refine aa ?_ ?_<;>intro hb<;>try simp only[az]at hb)|refine aw hT 11 dT ?_|refine aw hT 19 oBQuH110_19 ?_|omega|refine aA ?_|decide|assumption)<;>conv=>whnf))
     rcases hk4 with hk|hk|hk|hk
     all_goals
      rw[hk]at hlp ⊢;conv=>whnf
     all_goals
      repeat' (first|((first|(refine aa ?_ ?_<;>intro hb<;>try simp only[az]at hb)|refine aw hT 11 dT ?_|refine aw hT 19 oBQuH110_19 ?_|omega|refine aA ?_|decide|assumption)<;>conv=>whnf))
     all_goals
      refine⟨i+1,by omega,by omega,ae [(2,2),(3,3),(8,47)] rfl rfl ⟨lr,lr,lr,lr,lr,am (by omega),trivial⟩ ⟨rr,rr,?_,trivial⟩⟩;rw[hs,hlp];exact aR rfl
   · have hiP:i=P.length:=by omega
     subst hiP;rw[List.take_length];obtain⟨L,hLd⟩:∃L,L=P.map oc:=⟨_,rfl⟩;have hquo:∀X,qo t P A B=L++X↔qo t P A B=L++X:=fun _=>Iff.rfl
     rw[←hLd]at hL hS0 c100 c101 hlen ⊢
     by_cases q2:1000000000<bX L
     · rw[if_pos q2]at c100 ⊢;conv=>whnf
       repeat' (first|(refine fz.look c101 [(1000001,8)] rfl ⟨lr,trivial⟩ ⟨⟨_,rfl,rfl⟩,trivial⟩ rfl rfl rfl ?_;conv=>whnf)|(refine ac (c100) rfl rfl ?_;rotate_right;conv=>whnf)|((first|(refine aa ?_ ?_<;>intro hb<;>try simp only[az]at hb)|refine aw hT 11 dT ?_|refine aw hT 19 oBQuH110_19 ?_|omega|refine aA ?_|decide|assumption)<;>conv=>whnf))
       all_goals try(exfalso;omega)
       refine .ret _ ?_;conv=>whnf
       refine⟨[],⟨congrArg SV.tup ?_,rfl⟩,trivial⟩;repeat' (refine bD ?_ ?_)
       all_goals (conv=>lhs;whnf)
       all_goals try(with_reducible rfl)
     · rw [if_neg q2]at c100 ⊢;conv=>whnf
       repeat' (first|(refine fz.look c101 [(1000001,8)] rfl ⟨lr,trivial⟩ ⟨⟨_,rfl,rfl⟩,trivial⟩ rfl rfl rfl ?_;conv=>whnf)|(refine ac (c100) rfl rfl ?_;rotate_right;conv=>whnf)|((first|(refine aa ?_ ?_<;>intro hb<;>try simp only[az]at hb)|refine aw hT 11 dT ?_|refine aw hT 19 oBQuH110_19 ?_|omega|refine aA ?_|decide|assumption)<;>conv=>whnf))
       all_goals try(exfalso;omega)
       refine ah hT (C:= []) (ι:=Unit) (fun _=>True) (fun _=>aN [(2,.ptr 2 0),(3,.ptr 3 0),(8,.buf 8),(77,.d .nilsl),(78,.d (.int .i64 0)),(79,.d (.int .i64 0))] [(2,.cells 38 (uA t)),(3,.cells 151 [.d (.str c),.d (.int .i64 a),.d (.int .i64 b),.d (.str A),.d (.str B),.d .nilsl,.d .nilsl]),(8,jP L)]) (fun _=>0) () trivial ?_ ?_
       · exact ae [(2,2),(3,3),(8,8)] rfl rfl ⟨lr,lr,lr,lr,lr,lr,trivial⟩ ⟨rr,rr,rr,trivial⟩
       rintro⟨⟩ -;have hLL:∀F,qo t P A B=P.map oc++F→qo t P A B=L++F:=fun F z=>by rw[z,hLd]
       by_cases q3:A=B
       · rw[if_pos q3]at c103;rw[if_neg (fun z=>z.1 q3)];have hq3:qo t P A B=L:=by unfold qo;rw[if_pos q3,List.append_nil,hLd]
         have c104:=JB t.tax L (JF t5 e5 (by omega) (fun x hx=>(hL x hx).1) (by omega));have h10:(gc t.tax L t.tax.length).length≤10:=by rw[mg];exact wI e5
         rw[hq3];generalize gc t.tax L t.tax.length=X at c104 h10 ⊢;conv=>whnf
         repeat' (first|(refine ac (c103) rfl rfl ?_;rotate_right;conv=>whnf)|((first|(refine cj c104 [(1000001,8)] ?_;rintro y rout ⟨rfl,rfl⟩;refine⟨rfl,?_⟩)|(refine aa ?_ ?_<;>intro hb<;>try simp only[az]at hb)|refine aw hT 11 dT ?_|refine aw hT 19 oBQuH110_19 ?_|omega|refine aA ?_|decide|assumption)<;>conv=>whnf))
         all_goals try(exfalso;first|omega|contradiction)
         refine .freeze _ 129 68 3 _ _ rfl (.weak _ ?_);conv=>whnf
         exact⟨.tup [.d (jK (L++X)),.d (.int .i64 0)],[],bG ⟨so,lr,trivial⟩,⟨rfl,rfl⟩,trivial⟩
       · rw [if_neg q3]at c103
         by_cases q4:pf t.fe A B<0
         · rw[if_pos q4]at c103;rw[if_pos ⟨q3,q4⟩];conv=>whnf
           repeat' (first|(refine ac (c103) rfl rfl ?_;rotate_right;conv=>whnf)|((first|(refine aa ?_ ?_<;>intro hb<;>try simp only[az]at hb)|refine aw hT 11 dT ?_|refine aw hT 19 oBQuH110_19 ?_|omega|refine aA ?_|decide|assumption)<;>conv=>whnf))
           all_goals try(exfalso;first|omega|contradiction)
           refine .ret _ ?_;conv=>whnf
           refine⟨[],⟨congrArg SV.tup ?_,rfl⟩,trivial⟩;repeat' (refine bD ?_ ?_)
           all_goals (conv=>lhs;whnf)
           all_goals try(with_reducible rfl)
         · rw[if_neg q4]at c103;rw[if_neg (fun z=>q4 z.2)];have hfc:=Bf e3 q4;have hq3:qo t P A B=L++ [⟨4,[111,110,101,119,97,121],(t.fe.getD (pf t.fe A B).toNat uz).cents⟩]:=by unfold qo;rw[if_neg q3,hLd]
           rw[hq3];generalize (t.fe.getD (pf t.fe A B).toNat uz).cents=w at c103 hfc ⊢;obtain⟨M,hM⟩:∃M,M=L++ [⟨4,[111,110,101,119,97,121],w⟩]:=⟨_,rfl⟩;have hMl:M.length=L.length+1:=by rw[hM];simp
           have hMs:bX M=bX L+w:=by rw[hM,o9];simp[bX]
           have c104:=JB t.tax M (JF t5 e5 (by omega) (fun x hx=>by
            rw[hM]at hx;rcases List.mem_append.1 hx with z|z
            · exact(hL x z).1
            · rw[List.mem_singleton]at z;subst z;exact hfc.1) (by omega))
           have h10:(gc t.tax M t.tax.length).length≤10:=by rw[mg];exact wI e5
           rw[←hM];generalize gc t.tax M t.tax.length=X at c104 h10 ⊢;have hMr:aY.le (.buf 68 3 (L.length+1) (eT L.length (aV Jn j5 L) fun i=> [[DV.int .i64 4,.str [111,110,101,119,97,121],.int .i64 w]].getD i [])) (jP M):=by rw[hM];exact aR rfl
           conv=>whnf
           repeat' (first|(refine ac (c103) rfl rfl ?_;rotate_right;conv=>whnf)|((first|(refine fz.of c104 [(1000001,123)] rfl ⟨lr,lr,trivial⟩ ⟨hMr,trivial⟩ rfl rfl ?_;rintro y rout ⟨rfl,rfl⟩;refine⟨rfl,?_⟩)|(refine aa ?_ ?_<;>intro hb<;>try simp only[az]at hb)|refine aw hT 11 dT ?_|refine aw hT 19 oBQuH110_19 ?_|omega|refine aA ?_|decide|assumption)<;>conv=>whnf))
           all_goals try(exfalso;first|omega|contradiction)
           refine .freeze _ 129 68 3 _ _ rfl (.weak _ ?_);conv=>whnf
           exact⟨.tup [.d (jK (M++X)),.d (.int .i64 0)],[],bG ⟨so,lr,trivial⟩,⟨rfl,rfl⟩,trivial⟩
 · rw[if_neg q]at c99;rw[if_pos (by simpa using q)];refine af hT (C:= []) Tryz.func110 rfl Tryz.call110 rfl rfl rfl ?_;conv=>whnf
   repeat' (first|(refine ac (c99) rfl rfl ?_;rotate_right;conv=>whnf)|((first|(refine aa ?_ ?_<;>intro hb<;>try simp only[az]at hb)|refine aw hT 11 dT ?_|refine aw hT 19 oBQuH110_19 ?_|omega|refine aA ?_|decide|assumption)<;>conv=>whnf))
   all_goals try(exfalso;omega)
   refine .ret _ ?_;conv=>whnf
   refine⟨[],⟨congrArg SV.tup ?_,rfl⟩,trivial⟩;repeat' (refine bD ?_ ?_)
   all_goals (conv=>lhs;whnf)
   all_goals try(with_reducible rfl)
theorem Ro (t:rB)(c:List UInt8)(a b:Int)(A B:List UInt8)(h:Gv t c a b A B):
 ai Tryz.prog 58 [.agg (uA t),Nb c a b A B] [] (fun y r=>y=ou (wM t c a b A B)∧r= []):=by
 have c39:=QM t h.tok;rw[h.tE]at c39;have c41:=Rn t c a b A B h;generalize wM t c a b A B=v at c41 ⊢;obtain⟨L,e⟩:=v;unfold ou at c41 ⊢
 by_cases q:e=0
 · subst q;rw[if_neg (fun z=>z rfl)]at c41 ⊢;refine af hT (C:= []) Tryz.func58 rfl Tryz.call58 rfl rfl rfl ?_;conv=>whnf
   repeat' (first|(refine ac (c39) rfl rfl ?_;rotate_right;conv=>whnf)|(refine ac (NK t) rfl rfl ?_;rotate_right;conv=>whnf)|(refine ac (c41) rfl rfl ?_;rotate_right;conv=>whnf)|((first|(refine aa ?_ ?_<;>intro hb<;>try simp only[az]at hb)|omega|refine aA ?_|decide|assumption)<;>conv=>whnf))
   refine .ret _ ?_;conv=>whnf
   refine⟨[],⟨congrArg SV.tup ?_,rfl⟩,trivial⟩;repeat' (refine bD ?_ ?_)
   all_goals (conv=>lhs;whnf)
   all_goals try(with_reducible rfl)
 · rw[if_pos q]at c41 ⊢;refine af hT (C:= []) Tryz.func58 rfl Tryz.call58 rfl rfl rfl ?_;conv=>whnf
   repeat' (first|(refine ac (c39) rfl rfl ?_;rotate_right;conv=>whnf)|(refine ac (NK t) rfl rfl ?_;rotate_right;conv=>whnf)|(refine ac (c41) rfl rfl ?_;rotate_right;conv=>whnf)|((first|(refine aa ?_ ?_<;>intro hb<;>try simp only[az]at hb)|omega|refine aA ?_|decide|assumption)<;>conv=>whnf))
   refine .ret _ ?_;conv=>whnf
   refine⟨[],⟨congrArg SV.tup ?_,rfl⟩,trivial⟩;repeat' (refine bD ?_ ?_)
   all_goals (conv=>lhs;whnf)
   all_goals try(with_reducible rfl)
def uP (n l:Int):Int:=(n+l - 1).tdiv l
def nJ (h:cy):rW:=h.legs.getD (h.legs.length - 1) ew
def qg (h:cy):Int:=max 0 ((nJ h).inn.tm - h.to)
def AD (d:uc)(h:cy):Int:=if qg h≤d.grc then 0 else min (d.hr*uP (qg h) 60) (d.dy*uP (qg h) 1440)
def L0 (x:rW):Int:=if x.inn.meter - x.out.meter<0 then x.inn.meter - x.out.meter+1000000 else x.inn.meter - x.out.meter
def xE (l:List rW):Int:=(l.map L0).sum
def Fb (x:rW):Int:=max 0 (x.out.fuel - x.inn.fuel)
def lx (l:List rW):Int:=(l.map Fb).sum
def ov (k:List UInt8)(c:Int)(L:List gR):List gR:=if c≠0 then L++ [⟨6,k,c⟩]else L
def y6:List UInt8:= [108,97,116,101]
def Dl:List UInt8:= [100,105,115,116,97,110,99,101]
def CB:List UInt8:= [102,117,101,108]
def HX (d:uc)(h:cy):Int:=d.km*max 0 (xE h.legs - d.free*df h.frm h.to)
def DX (d:uc)(h:cy)(L:List gR):List gR:=ov CB (d.eig*lx h.legs) (ov Dl (HX d h) (ov y6 (AD d h) L))
def sr (d:uc)(h:cy)(L:List gR):List gR×Int:=if eH L≠0 then([],eH L)else if eH (DX d h L)≠0 then([],eH (DX d h L))else(DX d h L,0)
def JT (x:gR):Prop:=(1≤x.kind∧x.kind≤6)∧aG x.key=true∧-1000000000≤x.cents∧x.cents≤1000000000
theorem gP {L:List gR}:eH L=0↔L.length≤1000∧∀x ∈ L,JT x:=by
 unfold eH;constructor
 · intro h;split at h
   · cases h
   · refine⟨by omega,fun x hx=> ?_⟩;obtain⟨j,hj,rfl⟩:=bQ (d:=j5) hx;have:=cg h j hj;unfold tA at this;unfold JT
     cases q:aG (L.getD j j5).key with
     |true=>rw[q]at this;grind
     |false=>rw[q]at this;grind
 · rintro⟨h1,h2⟩;rw[if_neg (by omega)];refine aC fun j hj=> ?_
   obtain⟨a,b,c⟩:=h2 _ (aq (x:=j5) hj);unfold tA;rw[if_neg (fun q=>q a),b,if_neg (by simp),if_neg (fun q=>q c)]
theorem CJ {n l:Int}(hn:0≤n)(hl:0<l):0≤uP n l∧uP n l*l≤n+l - 1:=by
 unfold uP;rw[Int.tdiv_eq_ediv_of_nonneg (by omega)];refine⟨Int.ediv_nonneg (by omega) (by omega),?_⟩;exact Int.ediv_mul_le _ (by omega)
theorem wl {l:List rW}(h:∀x ∈ l,(0≤x.out.meter∧x.out.meter≤999999)∧(0≤x.inn.meter∧x.inn.meter≤999999)∧(0≤x.out.fuel∧x.out.fuel≤8)∧0≤x.inn.fuel∧x.inn.fuel≤8):
 (0≤xE l∧xE l≤999999*l.length)∧0≤lx l∧lx l≤8*l.length:=by
 induction l with
 |nil=>simp[xE,lx]
 | cons x l ih=>
   obtain⟨a,b,c,d⟩:=h x List.mem_cons_self;obtain⟨⟨h1,h2⟩,h3,h4⟩:=ih fun y hy=>h y (List.mem_cons_of_mem _ hy)
   simp only[xE,lx,List.map_cons,List.sum_cons,List.length_cons]at h1 h2 h3 h4 ⊢;have e1:0≤L0 x∧L0 x≤999999:=by unfold L0;split<;>omega
   have e2:0≤Fb x∧Fb x≤8:=by unfold Fb;omega
   rw[show((l.length+1:Nat):Int)=(l.length:Int)+1 by push_cast;rfl];omega
abbrev MF (l:List rW):aY:=aM 109 9 N8 ew l
def wV (h:cy):Bool:=decide ((h.legs.getD ((h.legs.length:Int) - 1).toNat ew).inn.tm= -1)
def rb (h:cy):Int:=if bO h≠0 then bO h else if wV h then 0 else 11
def vA (h:cy)(ri:oD)(v:List UInt8)(ro:oD):cy:=⟨h.key,h.drv,h.frm,h.to,e9 h.legs ri++ [⟨v,ro,ET⟩]⟩
def zV (h:cy)(ri:oD):cy:=⟨h.key,h.drv,h.frm,h.to,e9 h.legs ri⟩
def zY (h:cy)(to:Int):cy:=⟨h.key,h.drv,h.frm,to,h.legs⟩
def iw (h h':cy):Int:=if rb h≠0 then rb h else bO h'
def uB (h h':cy):cy:=if iw h h' =0 then h' else fp
def Cy (h:cy):Prop:=h.key.length≤2^40∧h.drv.length≤2^40∧h.legs.length≤2^19∧∀x ∈ h.legs,L6 x
theorem Cy.k {h:cy}(q:Cy h):JG h:=⟨q.1,q.2.1,by have:=q.2.2.1;omega,q.2.2.2⟩
theorem Dg {l:List rW}{r:oD}(h:∀x ∈ l,L6 x)(hr:r.st.length≤2^40):∀x ∈ e9 l r,L6 x:=fun x hx=>by
 unfold e9 at hx
 by_cases hi:((l.length:Int) - 1).toNat<l.length
 · rcases List.mem_or_eq_of_mem_set hx with q|q
   · exact h x q
   · have h1:l.getD ((l.length:Int) - 1).toNat ew ∈ l:=by
      rw[List.getD_eq_getElem?_getD,List.getElem?_eq_getElem hi];exact List.getElem_mem hi
     subst q;exact⟨(h _ h1).1,(h _ h1).2.1,hr⟩
 · rw[List.set_eq_of_length_le (by omega)]at hx;exact h x hx
theorem rk {α:Type}{f:α→List DV}{d x y:α}{l:List α}{k j off:Nat}{ds:List DV}{h:Nat→List DV}(hj:∀z,l[j]? =some z→bR (f z) off ds=f x)(hx:h 0=f y):
 SV.le (.d (.ro k (l.length+1) (eT l.length (fun i=>bif Nat.beq i j then bR (aV f d l i) off ds else aV f d l i) h))) (.d (dD k f d (l.set j x++ [y]))):=by
 refine bt (by simp) (fun i hi=> ?_);have h1:=mJ (f:=f) (d:=d) (l:=l) (x:=x) (j:=j) (off:=off) (ds:=ds) hj;rcases Nat.lt_or_ge i l.length with q|q
 · rw[iO q,h1 i q];simp only[aV];rw[xL (by simpa using q)]
 · have:i=l.length:=by omega
   subst this;rw[fg (Nat.le_refl _),Nat.sub_self,hx];simp only[aV];congr 1
   rw[List.getD_eq_getElem?_getD,List.getElem?_append_right (by simp)];simp
theorem Cn (h:cy)(hk:JG h):ai Tryz.prog 248 [.agg ((gr h).map .d)] [] (fun y r=>y= .tup [.agg ((gr (if bO h=0 then h else fp)).map .d),.d (.int .i64 (bO h))]∧r= []):=by
 have h183:=z210 h hk
 by_cases q:bO h=0
 · rw[if_pos q];rw[q]at h183 ⊢;refine af hT (C:= []) Tryz.func248 rfl Tryz.call248 rfl rfl rfl ?_;conv=>whnf
   repeat' (first|(refine ac (h183) rfl rfl ?_;rotate_right;conv=>whnf)|((first|(refine aa ?_ ?_<;>intro hb<;>try simp only[az]at hb)|omega|refine aA ?_|decide|assumption)<;>conv=>whnf))
   refine .ret _ ?_;conv=>whnf
   exact⟨[],⟨rfl,rfl⟩,trivial⟩
 · rw[if_neg q];generalize bO h=E at h183 q;refine af hT (C:= []) Tryz.func248 rfl Tryz.call248 rfl rfl rfl ?_;conv=>whnf
   repeat' (first|(refine ac (h183) rfl rfl ?_;rotate_right;conv=>whnf)|((first|(refine aa ?_ ?_<;>intro hb<;>try simp only[az]at hb)|omega|refine aA ?_|decide|assumption)<;>conv=>whnf))
   all_goals first
    |(exfalso;omega)
    | (refine .weak _ ?_
       conv=>whnf
       exact⟨.tup [.agg ((gr fp).map .d),.d (.int .i64 E)],[],bG ⟨cQ ⟨lr,lr,lr,lr,aW,trivial⟩,lr,trivial⟩,⟨rfl,rfl⟩,trivial⟩)
theorem Js (h:cy)(hl:h.legs.length≤2^40)(h1:1≤h.legs.length):ai Tryz.prog 113 [.agg ((gr h).map .d)] [] (fun y r=>y= .d (.bool (wV h))∧r= []):=by
 refine af hT (C:= []) Tryz.func113 rfl Tryz.call113 rfl rfl rfl ?_;conv=>whnf
 repeat' (first|((first|(refine aa ?_ ?_<;>intro hb<;>try simp only[az]at hb)|omega|refine aA ?_|decide|assumption)<;>conv=>whnf))
 refine .ret _ ?_;conv=>whnf
 refine⟨[],⟨?_,rfl⟩,trivial⟩;conv=>lhs;whnf
 rfl
theorem P6 (l:List rW)(h1:1≤l.length)(hl:l.length≤2^20):ai Tryz.prog 274 [.d (legs l)] [] (fun y r=>y= .buf 7∧r= [(7,MF l)]):=by
 refine af hT (C:= [5]) Tryz.func274 rfl Tryz.call274 rfl rfl rfl ?_;conv=>whnf
 rintro b hbn;conv=>whnf
 repeat' (first|((first|(refine aa ?_ ?_<;>intro hb<;>try simp only[az]at hb)|omega|refine aA ?_|decide|assumption)<;>conv=>whnf))
 · exfalso;have:=hbn (by assumption);omega
 · refine .ret _ ?_;conv=>whnf
   refine⟨_,⟨rfl,rfl⟩,bB (by simp) (fun i hi=> ?_),trivial⟩;rw[fg (by omega)];rfl
theorem j0 {h:cy}(q:bO h=0):1≤h.legs.length:=by
 unfold bO at q;grind
theorem JW (h:cy)(hk:Cy h)(hE:rb h≠0):ai Tryz.prog 249 [.agg ((gr h).map .d)] [] (fun y r=>y= .tup [.agg ((gr fp).map .d),.d (.int .i64 (rb h))]∧r= []):=by
 have c1:=z210 h hk.k
 by_cases q:bO h=0
 · have c2:=Js h (by have:=hk.2.2.1;omega) (j0 q)
   have e1:wV h=false:=by
    cases e:wV h with
    |false=>rfl
    |true=>exfalso;apply hE;unfold rb;rw[if_neg (fun c=>c q),e,if_pos rfl]
   have e2:rb h=11:=by unfold rb;rw[if_neg (fun c=>c q),e1];rfl
   rw[e2];rw[q]at c1;rw[e1]at c2;refine af hT (C:= []) Tryz.func249 rfl Tryz.call249 rfl rfl rfl ?_;conv=>whnf
   repeat' (first|(refine ac (c1) rfl rfl ?_;rotate_right;conv=>whnf)|(refine ac (c2) rfl rfl ?_;rotate_right;conv=>whnf)|((first|(refine aa ?_ ?_<;>intro hb<;>try simp only[az]at hb)|omega|refine aA ?_|decide|assumption)<;>conv=>whnf))
   all_goals
    refine .weak _ ?_;conv=>whnf
    exact⟨.tup [.agg ((gr fp).map .d),.d (.int .i64 11)],[],bG ⟨cQ ⟨lr,lr,lr,lr,aW,trivial⟩,lr,trivial⟩,⟨rfl,rfl⟩,trivial⟩
 · have e2:rb h=bO h:=by unfold rb;rw[if_pos q]
   rw[e2];generalize bO h=E at c1 q;refine af hT (C:= []) Tryz.func249 rfl Tryz.call249 rfl rfl rfl ?_;conv=>whnf
   repeat' (first|(refine ac (c1) rfl rfl ?_;rotate_right;conv=>whnf)|((first|(refine aa ?_ ?_<;>intro hb<;>try simp only[az]at hb)|omega|refine aA ?_|decide|assumption)<;>conv=>whnf))
   all_goals first
    |(exfalso;omega)
    | (refine .weak _ ?_
       conv=>whnf
       exact⟨.tup [.agg ((gr fp).map .d),.d (.int .i64 E)],[],bG ⟨cQ ⟨lr,lr,lr,lr,aW,trivial⟩,lr,trivial⟩,⟨rfl,rfl⟩,trivial⟩)
abbrev Ri (h:cy)(d:Nat):SV:=.agg [.d (.str h.key),.d (.str h.drv),.d (.int .i64 h.frm),.d (.int .i64 h.to),.buf d]
theorem kp {h:cy}(hE:rb h=0):bO h=0∧wV h=true:=by
 unfold rb at hE;split at hE
 · rename_i c;exact absurd hE c
 · rename_i c;split at hE
   · rename_i d;exact⟨by simpa using c,d⟩
   · exact absurd hE (by decide)
theorem KS (h:cy)(hk:Cy h)(hE:rb h=0):ai Tryz.prog 249 [.agg ((gr h).map .d)] [] (fun y r=>y= .tup [Ri h 7,.d (.int .i64 0)]∧r= [(7,MF h.legs)]):=by
 obtain⟨q,e1⟩:=kp hE;have c1:=z210 h hk.k;have hl:=hk.2.2.1;have c2:=Js h (by omega) (j0 q);rw[q]at c1;rw[e1]at c2;refine af hT (C:= []) Tryz.func249 rfl Tryz.call249 rfl rfl rfl ?_;conv=>whnf
 repeat' (first|(refine ac (c1) rfl rfl ?_;rotate_right;conv=>whnf)|(refine ac (c2) rfl rfl ?_;rotate_right;conv=>whnf)|((first|(refine cj (P6 h.legs (j0 q) (by omega)) [(7,7)] ?_;rintro x rout ⟨rfl,rfl⟩;refine⟨rfl,?_⟩)|(refine aa ?_ ?_<;>intro hb<;>try simp only[az]at hb)|omega|refine aA ?_|decide|assumption)<;>conv=>whnf))
 refine .ret _ ?_;conv=>whnf
 exact⟨_,⟨rfl,rfl⟩,rr,trivial⟩
set_option maxHeartbeats 1000000 in
theorem Qp (h:cy)(hk:Cy h)(to:Int):ai Tryz.prog 203 [.agg ((gr h).map .d),.d (.int .i64 to)] [] (fun y r=>y= .tup [.agg ((gr (uB h (zY h to))).map .d),.d (.int .i64 (iw h (zY h to)))]∧r= []):=by
 have hH:Cy (zY h to):=hk;generalize hHe:zY h to=H at hH ⊢
 by_cases q:rb h≠0
 · have c1:=JW h hk q;have e1:iw h H=rb h:=by unfold iw;rw[if_pos q]
   have e2:uB h H=fp:=by unfold uB;rw[e1,if_neg q]
   rw[e1,e2];generalize rb h=E at c1 q;refine af hT (C:= []) Tryz.func203 rfl Tryz.call203 rfl rfl rfl ?_;conv=>whnf
   repeat' (first|(refine ac (c1) rfl rfl ?_;rotate_right;conv=>whnf)|((first|(refine aa ?_ ?_<;>intro hb<;>try simp only[az]at hb)|omega|refine aA ?_|decide|assumption)<;>conv=>whnf))
   all_goals first
    |(exfalso;omega)
    | (refine .weak _ ?_
       conv=>whnf
       exact⟨.tup [.agg ((gr fp).map .d),.d (.int .i64 E)],[],bG ⟨cQ ⟨lr,lr,lr,lr,aW,trivial⟩,lr,trivial⟩,⟨rfl,rfl⟩,trivial⟩)
 · have q:rb h=0:=by omega
   have e1:iw h H=bO H:=by unfold iw;rw[if_neg (fun c=>c q)]
   have e2:uB h H=if bO H=0 then H else fp:=by unfold uB;rw[e1]
   rw[e1,e2];have c1:=KS h hk q;have c2:=Cn H hH.k;generalize bO H=E at c2;generalize hR:(if E=0 then H else fp)=R at c2;have hl:=hk.2.2.1;have hn:=j0 (kp q).1;subst hHe;refine af hT (C:= []) Tryz.func203 rfl Tryz.call203 rfl rfl rfl ?_;conv=>whnf
   repeat' (first|((first|(refine cj c1 [(7,40)] ?_;rintro x rout ⟨rfl,rfl⟩;refine⟨rfl,?_⟩)|(refine fz.freeze _ _ _ _ 40 109 9 _ _ rfl rfl ?_;refine ao c2 ⟨cQ ⟨lr,lr,lr,lr,lr,trivial⟩,trivial⟩ rfl ?_)|(refine aa ?_ ?_<;>intro hb<;>try simp only[az]at hb)|omega|refine aA ?_|decide|assumption)<;>conv=>whnf))
   all_goals first
    |(exfalso;omega)
    | (refine .ret _ ?_
       conv=>whnf
       exact⟨[],⟨rfl,rfl⟩,trivial⟩)
set_option maxHeartbeats 1000000 in
theorem Py (h:cy)(hk:Cy h)(ri:oD)(hr:ri.st.length≤2^40):ai Tryz.prog 204 [.agg ((gr h).map .d),.agg ((Nv ri).map .d)] [] (fun y r=>y= .tup [.agg ((gr (uB h (zV h ri))).map .d),.d (.int .i64 (iw h (zV h ri)))]∧r= []):=by
 have hH:Cy (zV h ri):=⟨hk.1,hk.2.1,by show(e9 h.legs ri).length≤_;rw[gJ];exact hk.2.2.1,Dg hk.2.2.2 hr⟩;generalize hHe:zV h ri=H at hH ⊢
 by_cases q:rb h≠0
 · have c1:=JW h hk q;have e1:iw h H=rb h:=by unfold iw;rw[if_pos q]
   have e2:uB h H=fp:=by unfold uB;rw[e1,if_neg q]
   rw[e1,e2];generalize rb h=E at c1 q;refine af hT (C:= []) Tryz.func204 rfl Tryz.call204 rfl rfl rfl ?_;conv=>whnf
   repeat' (first|(refine ac (c1) rfl rfl ?_;rotate_right;conv=>whnf)|((first|(refine aa ?_ ?_<;>intro hb<;>try simp only[az]at hb)|omega|refine aA ?_|decide|assumption)<;>conv=>whnf))
   all_goals first
    |(exfalso;omega)
    | (refine .weak _ ?_
       conv=>whnf
       exact⟨.tup [.agg ((gr fp).map .d),.d (.int .i64 E)],[],bG ⟨cQ ⟨lr,lr,lr,lr,aW,trivial⟩,lr,trivial⟩,⟨rfl,rfl⟩,trivial⟩)
 · have q:rb h=0:=by omega
   have e1:iw h H=bO H:=by unfold iw;rw[if_neg (fun c=>c q)]
   have e2:uB h H=if bO H=0 then H else fp:=by unfold uB;rw[e1]
   rw[e1,e2];have c1:=KS h hk q;have c2:=Cn H hH.k;generalize bO H=E at c2;generalize hR:(if E=0 then H else fp)=R at c2;have hl:=hk.2.2.1;have hn:=j0 (kp q).1;subst hHe;refine af hT (C:= []) Tryz.func204 rfl Tryz.call204 rfl rfl rfl ?_;conv=>whnf
   repeat' (first|((first|(refine cj c1 [(7,40)] ?_;rintro x rout ⟨rfl,rfl⟩;refine⟨rfl,?_⟩)|(refine fz.freeze _ _ _ _ 40 109 9 _ _ rfl rfl ?_;refine ao c2 ⟨cQ ⟨lr,lr,lr,lr,sN vj,trivial⟩,trivial⟩ rfl ?_)|(refine aa ?_ ?_<;>intro hb<;>try simp only[az]at hb)|omega|refine aA ?_|decide|assumption)<;>conv=>whnf))
   all_goals first
    |(exfalso;omega)
    | (refine .ret _ ?_
       conv=>whnf
       exact⟨[],⟨rfl,rfl⟩,trivial⟩)
set_option maxHeartbeats 1000000 in
theorem Ok (h:cy)(hk:Cy h)(hs:h.legs.length<2^19)(ri:oD)(hr:ri.st.length≤2^40)(v:List UInt8)(hv:v.length≤2^40)(ro:oD)(ho:ro.st.length≤2^40):
 ai Tryz.prog 205 [.agg ((gr h).map .d),.agg ((Nv ri).map .d),.d (.str v),.agg ((Nv ro).map .d)] [] (fun y r=>y= .tup [.agg ((gr (uB h (vA h ri v ro))).map .d),.d (.int .i64 (iw h (vA h ri v ro)))]∧r= []):=by
 have hH:Cy (vA h ri v ro):=⟨hk.1,hk.2.1,by show(e9 h.legs ri++ [_]).length≤_;rw[List.length_append,gJ,List.length_singleton];omega,fun x hx=>by
  rcases List.mem_append.1 hx with q|q
  · exact Dg hk.2.2.2 hr x q
  · rw[List.mem_singleton]at q;subst q;exact⟨hv,ho,by simp[ET]⟩⟩
 generalize hHe:vA h ri v ro=H at hH ⊢
 by_cases q:rb h≠0
 · have c1:=JW h hk q;have e1:iw h H=rb h:=by unfold iw;rw[if_pos q]
   have e2:uB h H=fp:=by unfold uB;rw[e1,if_neg q]
   rw[e1,e2];generalize rb h=E at c1 q;refine af hT (C:= []) Tryz.func205 rfl Tryz.call205 rfl rfl rfl ?_;conv=>whnf
   repeat' (first|(refine ac (c1) rfl rfl ?_;rotate_right;conv=>whnf)|((first|(refine aa ?_ ?_<;>intro hb<;>try simp only[az]at hb)|omega|refine aA ?_|decide|assumption)<;>conv=>whnf))
   all_goals first
    |(exfalso;omega)
    | (refine .weak _ ?_
       conv=>whnf
       exact⟨.tup [.agg ((gr fp).map .d),.d (.int .i64 E)],[],bG ⟨cQ ⟨lr,lr,lr,lr,aW,trivial⟩,lr,trivial⟩,⟨rfl,rfl⟩,trivial⟩)
 · have q:rb h=0:=by omega
   have e1:iw h H=bO H:=by unfold iw;rw[if_neg (fun c=>c q)]
   have e2:uB h H=if bO H=0 then H else fp:=by unfold uB;rw[e1]
   rw[e1,e2];have c1:=KS h hk q;have c2:=Cn H hH.k;generalize bO H=E at c2;generalize hR:(if E=0 then H else fp)=R at c2;have hl:=hk.2.2.1;have hn:=j0 (kp q).1;subst hHe;refine af hT (C:= []) Tryz.func205 rfl Tryz.call205 rfl rfl rfl ?_;conv=>whnf
   repeat' (first|((first|(refine cj c1 [(7,50)] ?_;rintro x rout ⟨rfl,rfl⟩;refine⟨rfl,?_⟩)|(refine fz.freeze _ _ _ _ 36 109 9 _ _ rfl rfl ?_;refine ao c2 ⟨cQ ⟨lr,lr,lr,lr,rk vj rfl,trivial⟩,trivial⟩ rfl ?_)|(refine aa ?_ ?_<;>intro hb<;>try simp only[az]at hb)|omega|refine aA ?_|decide|assumption)<;>conv=>whnf))
   all_goals first
    |(exfalso;omega)
    | (refine .ret _ ?_
       conv=>whnf
       exact⟨[],⟨rfl,rfl⟩,trivial⟩)
theorem Ky (key drv:List UInt8)(a b:Int)(v:List UInt8)(o:oD)(h1:key.length≤2^40)(h2:drv.length≤2^40)(h3:v.length≤2^40)(h4:o.st.length≤2^40):
 ai Tryz.prog 202 [.d (.str key),.d (.str drv),.agg [.d (.int .i64 a),.d (.int .i64 b)],.d (.str v),.agg ((Nv o).map .d)] [] (fun y r=>y= .tup [.agg ((gr (if bO (kL key drv a b v o)=0 then kL key drv a b v o else fp)).map .d),.d (.int .i64 (bO (kL key drv a b v o)))]∧r= []):=by
 have h265:=Cn (kL key drv a b v o) ⟨h1,h2,by simp[kL],fun x hx=>by simp[kL]at hx;subst hx;exact⟨h3,h4,by simp[ET]⟩⟩;generalize bO (kL key drv a b v o)=E at h265 ⊢;generalize hH:(if E=0 then kL key drv a b v o else fp)=H at h265 ⊢;refine af hT (C:= []) Tryz.func202 rfl Tryz.call202 rfl rfl rfl ?_;conv=>whnf
 repeat' (first|((first|refine ao h265 ⟨cQ ⟨lr,lr,lr,lr,aj rfl rfl,trivial⟩,trivial⟩ rfl ?_|(refine aa ?_ ?_<;>intro hb<;>try simp only[az]at hb)|omega|refine aA ?_|decide|assumption)<;>conv=>whnf))
 refine .ret _ ?_;conv=>whnf
 exact⟨[],⟨rfl,rfl⟩,trivial⟩
end Go.Proofs.YtodakofifpaljaaGreatDoor
namespace Go.Proofs
open Go.Shelf
def qe:Go.Shelf.Ren:=⟨fun|106=>14|213=>29|265=>60|n=>n,fun|9=>9|3=>3|n=>n,fun|n=>n⟩
theorem Tryz.lays106:Go.Proofs.Lays.n106 Tryz.prog qe:={
 mixed:=by kernel_rfl
 f106:=Tryz.func14.trans (congrArg some (by kernel_rfl))
 f213:=Tryz.func29.trans (congrArg some (by kernel_rfl))
 f265:=Tryz.func60.trans (congrArg some (by kernel_rfl))
 t3:=Tryz.underlying3
 a3:=Tryz.isAgg3
 z3:=Tryz.sizeOf3
 v3:=Tryz.zeroValue3
 t9:=Tryz.underlying9
 a9:=Tryz.isAgg9
 z9:=Tryz.sizeOf9
 v9:=Tryz.zeroValue9}
end Go.Proofs
set_option maxRecDepth 20000
namespace Go.Proofs.YtodakofifpaljaaGreatDoor
open Go Go.Eng Go.RowKit
theorem Lc:∀ (a b:List UInt8),Lib.compareBytes a b=dM a b:=by
 intro a
 induction a with
 |nil=>intro b;cases b<;>simp[Lib.compareBytes,dM,Op.bytesLess]
 | cons x a ih=>
   intro b
   cases b with
   |nil=>simp[Lib.compareBytes,dM,Op.bytesLess]
   | cons y b=>
     have:=ih b;unfold dM at this ⊢;simp only[Lib.compareBytes,Op.bytesLess];grind
theorem Me (a b:List UInt8):ai Tryz.prog 14 [.d (.str a),.d (.str b)] [] (fun x r=>x= .d (.int .i64 (dM a b))∧r= []):=by
 refine jJ Tryz.call14 (fun G β w vs _ hl hd=> ?_)
 match vs,hl with
 | [u,v],_=>
   have hu:=hd 0 _ _ rfl rfl;have hv:=hd 1 _ _ rfl rfl
   cases hu with|d _ _ hu=>cases hu with|str _=>
   cases hv with|d _ _ hv=>cases hv with|str _=>
   refine⟨.int .i64 (Lib.compareBytes a b),fun G β=> ?_,(Go.Proofs.Any.strings_Compare Go.Proofs.Tryz.lays106 ⟨a.toArray⟩ ⟨b.toArray⟩ w).mono ?_⟩
   · rw[←Lc];exact .d _ _ (.int _ _)
   · rintro e w' ⟨he,rfl⟩;exact⟨he,Below.refl _ _⟩
end Go.Proofs.YtodakofifpaljaaGreatDoor
