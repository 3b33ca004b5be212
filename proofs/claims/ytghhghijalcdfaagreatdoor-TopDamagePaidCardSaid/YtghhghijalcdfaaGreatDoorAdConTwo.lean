/- TopDamagePaid is proved: for every input the law returns true, and its argument reads afterwards as it read before. Conditions: those of the given row alone. -/
import Derived.Test.YtghhghijalcdfaaGreatDoorProg
import Derived.Test.YtghhghijalcdfaaGreatDoorAdConOne
import Derived.Test.YtghhghijalcdfaaGreatDoorAdEngTwo
import Derived.Shelf.Spec.SlicesGrow
import Derived.Shelf.Small.Strs
set_option linter.unusedVariables false
set_option linter.unusedSimpArgs false
set_option maxHeartbeats 16000000
namespace Go.Proofs
open Go.Shelf
end Go.Proofs
set_option maxRecDepth 20000
namespace Go.Proofs.YtghhghijalcdfaaGreatDoor
open Go Go.Eng Go.RowKit
theorem pas_eq {a b:Pas}:a=b↔a.tm=b.tm∧a.gate=b.gate∧a.plate=b.plate∧a.cents=b.cents:=by cases a;cases b;simp
instance:DecidableEq Pas:=fun _ _=>decidable_of_iff _ pas_eq.symm
structure Slt where
 day:Int
 many:Int
structure Wnt where
 v:List UInt8
 fr:Int
 to:Int
def wn0:Wnt:=⟨[],0,0⟩
structure Plc where
 v:List UInt8
 day:Int
def pl0:Plc:=⟨[],0⟩
structure Bsy where
 v:List UInt8
 fr:Int
 to:Int
 cents:Int
def namesB (w:List Wnt)(l:List Plc):Prop:=w.length=l.length∧∀i,i<w.length→(w.getD i wn0).v=(l.getD i pl0).v
instance (w:List Wnt)(l:List Plc):Decidable (namesB w l):=inferInstanceAs (Decidable (_∧_))
theorem SV.le_drop {α:Type}{f:α→List DV}{d:α}{l:List α}{k j m:Nat}(hm:m=(l.drop j).length):SV.le (.d (.ro k m fun i=>rowF f d l (j+i))) (.d (seqD k f d (l.drop j))):=
 SV.le_ro hm (fun i hi=>by simp only[rowF];rw[List.getD_eq_getElem?_getD,List.getD_eq_getElem?_getD,List.getElem?_drop])
theorem Res.le_upd {α:Type}{f:α→List DV}{d:α}{l:List α}{e k j off:Nat}{ds:List DV}(g:α→α)(hg:∀y,setAtD (f y) off ds=f (g y)):
 Res.le (.buf e k l.length fun i=>bif Nat.beq i j then setAtD (rowF f d l i) off ds else rowF f d l i) (seqB e k f d (l.set j (g (l.getD j d)))):=
 Res.le_putF fun y hy=>by rw[hg,List.getD_eq_getElem?_getD,hy];rfl
def allK {α:Type}(K:α→Prop)(k:Nat)(l:List α):Prop:=l.length≤k∧∀x ∈ l,K x
theorem allK_snoc {α:Type}{K:α→Prop}{l:List α}{k m:Nat}{x:α}(h:allK K k l)(hm:k+1≤m)(hx:K x):allK K m (l++ [x]):=by
 refine⟨by rw[List.length_append];have:=h.1;simp;omega,fun p hp=> ?_⟩;rcases List.mem_append.1 hp with q|q
 · exact h.2 p q
 · simp at q;subst q;exact hx
theorem allK_le {α:Type}{K:α→Prop}{l:List α}{k m:Nat}(h:allK K k l)(hm:k≤m):allK K m l:=⟨by have:=h.1;omega,h.2⟩
theorem allK_upd {α:Type}{K:α→Prop}{l:List α}{k j:Nat}{d:α}{g:α→α}(h:allK K k l)(hg:∀y,K y→K (g y)):allK K k (l.set j (g (l.getD j d))):=by
 refine⟨by rw[List.length_set];exact h.1,fun p hp=> ?_⟩
 by_cases hj:j<l.length
 · rcases List.mem_or_eq_of_mem_set hp with q|q
   · exact h.2 p q
   · subst q;exact hg _ (h.2 _ (getD_mem hj))
 · rw[List.set_eq_of_length_le (by omega)]at hp;exact h.2 p hp
theorem rows_updG {α:Type}{f:α→List DV}{d:α}{l:List α}{j off:Nat}{ds:List DV}{get:Nat→List DV}(hg:∀i,i<l.length→get i=rowF f d l i)(g:α→α)(h:∀y,setAtD (f y) off ds=f (g y)):
 ∀i,i<(l.set j (g (l.getD j d))).length→(bif Nat.beq i j then setAtD (get i) off ds else get i)=rowF f d (l.set j (g (l.getD j d))) i:=by
 rw[List.length_set];exact rows_putG hg (fun y hy=>by rw[h,List.getD_eq_getElem?_getD,hy];rfl)
abbrev updL {α:Type}(l:List α)(j:Nat)(d:α)(g:α→α):List α:=l.set j (g (l.getD j d))
structure Ned where
 st:List UInt8
 many:Int
structure Roa where
 a:List UInt8
 b:List UInt8
 car:Int
 ride:Int
def rd0:Roa:=⟨[],[],0,0⟩
structure Mov where
 a:List UInt8
 b:List UInt8
 many:Int
def mv0:Mov:=⟨[],[],0⟩
structure Plt where
 frm:Int
 veh:List UInt8
 plt:List UInt8
deriving DecidableEq
structure Hld where
 veh:List UInt8
 frm:Int
 til:Int
def clashP (o p:Plt):Bool:=decide (o.veh=p.veh)||decide (o.plt=p.plt)
def livStep (acc:List Plt)(x:Plt):List Plt:=acc.filter (fun e=> !clashP e x)++ [x]
def liv (l:List Plt):List Plt:=l.foldl livStep []
def early (l:List Plt)(t:Int):List Plt:=l.filter fun p=>decide (p.frm≤t)
def findP (L:List Plt)(p:List UInt8):Option Plt:=L.find? fun e=>decide (e.plt=p)
structure HS where
 live:List Plt
 out:List UInt8→List Hld
def hdrop (s:HS)(p:List UInt8)(t:Int):HS:=
 match findP s.live p with
 |none=>s
 |some e=>⟨s.live.filter fun e=> !decide (e.plt=p),fun q=>if q=p∧e.frm<t then s.out q++ [⟨e.veh,e.frm,t⟩]else s.out q⟩
def findV (L:List Plt)(v:List UInt8):Option Plt:=L.find? fun e=>decide (e.veh=v)
def hmid (s:HS)(x:Plt):HS:=match findV s.live x.veh with|none=>s|some e=>hdrop s e.plt x.frm
def hstep (s:HS)(x:Plt):HS:=⟨(hdrop (hmid s x) x.plt x.frm).live++ [x],(hdrop (hmid s x) x.plt x.frm).out⟩
def hs0:HS:=⟨[],fun _=> []⟩
def hall (l:List Plt):HS:=l.foldl hstep hs0
def inH (t:Int)(h:Hld):Bool:=decide (h.frm≤t)&&decide (t<h.til)
def findH (o:List Hld)(t:Int):Option (List UInt8):=(o.find? (inH t)).map (·.veh)
def expH (l live:List Plt)(p:List UInt8)(t:Int):Option (List UInt8):=
 match findP (liv (early l t)) p with
 |some e=>if e ∈ live then none else some e.veh
 |none=>none
structure HInv (T:Int)(l:List Plt)(s:HS):Prop where
 eq:∀p t,t<T→findH (s.out p) t=expH l s.live p t
 til:∀p h,h ∈ s.out p→h.til≤T
 sub:∀e ∈ s.live,e ∈ liv l
 apart:s.live.Pairwise (fun p q=>clashP p q=false)
theorem SV.le_agg {l m:List SV}(h:argsLe0 l m):SV.le (.agg l) (.agg m):=by
 obtain⟨h1,h2⟩:=argsLe0_get h;intro G β v hv
 cases hv with|agg _ vs hl hd=>
 refine .agg _ _ (hl.trans h1) (fun i y v hy hv=> ?_);have hi:i<l.length:=by rw[h1];exact(List.getElem?_eq_some_iff.1 hy).1
 exact h2 i _ y (List.getElem?_eq_getElem hi) hy G β v (hd i _ v (List.getElem?_eq_getElem hi) hv)
theorem getD_app_lt {α:Type}{l m:List α}{i:Nat}{z:α}(h:i<l.length):(l++m).getD i z=l.getD i z:=by
 rw[List.getD_eq_getElem?_getD,List.getD_eq_getElem?_getD,List.getElem?_append_left h]
def rgN:Rdg:=⟨-1,[],0,0⟩
def setIn (l:List Leg)(r:Rdg):List Leg:=l.set ((l.length:Int) - 1).toNat {l.getD ((l.length:Int) - 1).toNat lg0 with inn:=r}
theorem setIn_len (l:List Leg)(r:Rdg):(setIn l r).length=l.length:=by simp[setIn]
theorem Res.le_put_snocF {α:Type}{f:α→List DV}{d x y:α}{l:List α}{e k j off:Nat}{ds:List DV}{h:Nat→List DV}(hj:∀z,l[j]? =some z→setAtD (f z) off ds=f x)(hx:h 0=f y):
 Res.le (.buf e k (l.length+1) (appGet l.length (fun i=>bif Nat.beq i j then setAtD (rowF f d l i) off ds else rowF f d l i) h)) (seqB e k f d (l.set j x++ [y])):=by
 refine Res.le_buf (by simp) (fun i hi=> ?_);have h1:=rows_putF (f:=f) (d:=d) (l:=l) (x:=x) (j:=j) (off:=off) (ds:=ds) hj;rcases Nat.lt_or_ge i l.length with q|q
 · rw[appGet_lt q,h1 i q];simp only[rowF];rw[getD_app_lt (by simpa using q)]
 · have:i=l.length:=by omega
   subst this;rw[appGet_ge (Nat.le_refl _),Nat.sub_self,hx];simp only[rowF];congr 1
   rw[List.getD_eq_getElem?_getD,List.getElem?_append_right (by simp)];simp
theorem setIn_put {l:List Leg}{r:Rdg}:∀z,l[((l.length:Int) - 1).toNat]? =some z→setAtD (lgF z) 5 [.int .i64 r.tm,.str r.st,.int .i64 r.meter,.int .i64 r.fuel]=lgF {l.getD ((l.length:Int) - 1).toNat lg0 with inn:=r}:=fun z hz=>by
 rw[List.getD_eq_getElem?_getD,hz];rfl
def startH (key drv:List UInt8)(a b:Int)(v:List UInt8)(o:Rdg):Hir:=⟨key,drv,a,b,[⟨v,o,rgN⟩]⟩
theorem pkD {l:List Int}{x:Int}(h:x ∈ l)(hl:(l.all fun y=>decide (0≤y)&&decide (y≤3000))=true):0≤x∧x≤3000:=by
 have:=List.all_eq_true.1 hl x h;simpa using this
structure Ntr where
 name:Int
 pay:Int
 step:Int
 late:Int
structure Ntc where
 key:List UInt8
 plate:List UInt8
 tm:Int
 came:Int
 cents:Int
structure Cls where
 key:List UInt8
 up:List UInt8
structure Veh where
 key:List UInt8
 cls:List UInt8
structure Sta where
 key:List UInt8
 h:Nat→Int
def clsF:Cls→List DV:=fun c=> [.str c.key,.str c.up]
def cls0:Cls:=⟨[],[]⟩
abbrev clss (l:List Cls):DV:=seqD 2 clsF cls0 l
def vehF:Veh→List DV:=fun c=> [.str c.key,.str c.cls]
def veh0:Veh:=⟨[],[]⟩
abbrev vehs (l:List Veh):DV:=seqD 2 vehF veh0 l
def pltF:Plt→List DV:=fun p=> [.int .i64 p.frm,.str p.veh,.str p.plt]
def plt0:Plt:=⟨0,[],[]⟩
abbrev plts (l:List Plt):DV:=seqD 3 pltF plt0 l
def staF:Sta→List DV:=fun s=> [.str s.key,.int .i64 (s.h 0),.int .i64 (s.h 1),.int .i64 (s.h 2),.int .i64 (s.h 3),.int .i64 (s.h 4),.int .i64 (s.h 5),.int .i64 (s.h 6),.int .i64 (s.h 7),.int .i64 (s.h 8),.int .i64 (s.h 9),.int .i64 (s.h 10),.int .i64 (s.h 11),.int .i64 (s.h 12),.int .i64 (s.h 13)]
def sta0:Sta:=⟨[],fun _=>0⟩
abbrev stas (l:List Sta):DV:=seqD 15 staF sta0 l
def clsK (c:Cls):Prop:=c.key.length≤8∧c.up.length≤8
def vehK (c:Veh):Prop:=c.key.length≤8∧c.cls.length≤8
def pltK (c:Plt):Prop:=(-2^40≤c.frm∧c.frm≤2^40)∧c.veh.length≤8∧c.plt.length≤16
def staK (c:Sta):Prop:=c.key.length≤8
def cls4:List Cls:= [⟨[98,105,103],[]⟩,⟨[109,97,120,105],[]⟩,⟨[109,105,100,105],[]⟩,⟨[109,105,110,105],[]⟩]
def clsB (l:List Cls):Prop:=l.length≤4∧∀x ∈ l,clsK x
structure Arc where
 fr:Int
 to:Int
 car:Int
 flow:Int
def stF:Int×Bool→List DV:=fun s=> [.int .i64 s.1,.bool s.2]
abbrev steps (l:List (Int×Bool)):DV:=seqD 2 stF (0,false) l
theorem mov_eq {a b:Mov}:a=b↔a.a=b.a∧a.b=b.b∧a.many=b.many:=by cases a;cases b;simp
instance:DecidableEq Mov:=fun _ _=>decidable_of_iff _ mov_eq.symm
structure Pnl where
 key:List UInt8
 w:Int
 h:Int
 pr:Int
structure Mrk where
 pan:List UInt8
 kind:Int
 x:Int
 y:Int
 size:Int
structure Rul where
 near:Int
 slack:Int
 join:Int
 part:Int
theorem less_trans:∀ {a b c:List UInt8},Op.bytesLess a b=true→Op.bytesLess b c=true→Op.bytesLess a c=true:=by
 intro a
 induction a with
 |nil=>intro b c h1 h2;cases b<;>cases c<;>simp_all [Op.bytesLess]
 | cons x a ih=>
   intro b c h1 h2
   cases b with
   |nil=>simp[Op.bytesLess]at h1
   | cons y b=>
     cases c with
     |nil=>simp[Op.bytesLess]at h2
     | cons z c=>
       simp only[Op.bytesLess]at h1 h2 ⊢;grind [UInt8.lt_trans]
theorem less_irr:∀ (a:List UInt8),Op.bytesLess a a=false:=by
 intro a
 induction a with
 |nil=>rfl
 |cons x a ih=>simp[Op.bytesLess,ih]
def onRd (l:List Roa)(a b:List UInt8)(i:Nat):Bool:=(l.getD i rd0).a==a&&(l.getD i rd0).b==b
def roadX (l:List Roa)(a b:List UInt8):Int:=ixF (onRd l a b) l.length
theorem ixF_pos {p:Nat→Bool}{n k:Nat}(hk:k<n)(h:p k=true):0≤ixF p n:=by
 have hb:=ixF_bd (p:=p) (n:=n);rcases Int.lt_or_le (ixF p n) 0 with q|q
 · exfalso
   have hn :∀m,ixF p m<0→∀j,j<m→p j=false:=by
    intro m
    induction m with
    |zero=>intro _ j hj;omega
    | succ m ih=>
      intro hm j hj;rw[ixF]at hm;split at hm
      · rename_i hz
        by_cases hjm:j=m
        · subst hjm;split at hm
          · omega
          · rename_i hf;simpa using hf
        · exact ih (by omega) j (by omega)
      · rename_i hz;have:=(ixF_bd (p:=p) (n:=m)).1;omega
   rw[hn n q k hk]at h;cases h
 · exact q
def roadO (l:List Roa)(a b:List UInt8):Option Roa:=if 0≤roadX l a b then some (l.getD (roadX l a b).toNat rd0)else none
def rideO (l:List Roa)(a b:List UInt8):Option Int:=if a=b then some 0 else(roadO l a b).map (·.ride)
def makeO (l:List Roa)(a:List UInt8)(m:Mov):Option Int:=(rideO l a m.a).bind fun n=>(roadO l m.a m.b).map fun r=>n+r.car
abbrev RPt:=Option (List UInt8×Int)
def stepR (l:List Roa)(m:List Mov)(st:RPt)(k:Int):RPt:=st.bind fun p=>(makeO l p.1 (m.getD k.toNat mv0)).map fun n=>((m.getD k.toNat mv0).b,p.2+n)
def partR (l:List Roa)(start:List UInt8)(m:List Mov)(o:List Int):RPt:=o.foldl (stepR l m) (some (start,0))
def roundO (l:List Roa)(start:List UInt8)(m:List Mov)(o:List Int):Option Int:=(partR l start m o).bind fun p=>(rideO l p.1 start).map fun n=>p.2+n
abbrev RSt:=List Int×Int
def rs (l:List Roa)(start:List UInt8)(m:List Mov):Nat→List Int→RSt→RSt
 | 0,o,st=>match roundO l start m o with
   |some n=>if 0≤st.2∧st.2≤n then st else(o,n)
   |none=>st
 |d+1,o,st=>(List.range m.length).foldl (fun(st:RSt) (k:Nat)=>if o.contains (k:Int)then st else rs l start m d (o++ [(k:Int)]) st) st
def kyC (key:List UInt8):Res:=.cells 9 [.d (.str key)]
def clIx (l:List Cls)(key:List UInt8):Int:=ixF (fun i=>(l.getD i cls0).key==key) l.length
def veIx (l:List Veh)(key:List UInt8):Int:=ixF (fun i=>(l.getD i veh0).key==key) l.length
theorem z242 (x:Cls)(key:List UInt8):FSpec Tryz.prog 151 [.agg ((clsF x).map .d),.ptr 1000001 0] [(1000001,kyC key)] (fun y r=>y= .d (.bool (x.key==key))∧r= [(1000001,kyC key)]):=by
 refine spAx hT Tryz.func151 Tryz.call151 ?_;conv=>whnf
 refine .ret _ ?_;conv=>whnf
 exact⟨[(1000001,kyC key)],⟨rfl,rfl⟩,rr,trivial⟩
theorem z155b (l:List Cls)(hl:l.length≤2^40)(key:List UInt8):FSpec Tryz.prog 150 [.d (clss l),.fn 151 [.ptr 1000001 0]] [(1000001,kyC key)] (fun x r=>x= .d (.int .i64 (clIx l key))∧r= [(1000001,kyC key)]):=by
 refine spAx hT Tryz.func150 Tryz.call150 ?_;conv=>whnf
 refine LoopX.rule hT (C:= []) (ι:=Nat) (fun i=>i≤l.length∧∀j,j<i→((l.getD j cls0).key==key)=false) (fun i=>mkSt [(0,.d (clss l)),(1,.fn 151 [.ptr 1000001 0]),(7,.d (.int .i64 l.length)),(8,.d (.int .i64 i))] [(1000001,kyC key)]) (fun i=>l.length - i) 0 ⟨by omega,by omega⟩ (by exact eAx [(1000001,1000001)]) ?_;rintro i ⟨p1,p2⟩;have e1:=tnc i;conv=>whnf
 repeat' ((first|(refine oEx (z242 (l.getD (i:Int).toNat cls0) key) [(1000001,1000001)] ?_)|refine br_intro ?_ ?_<;>intro hb<;>try simp only[brs]at hb|omega|refine sAx ?_|decide|assumption)<;>conv=>whnf)
 · refine .ret _ ?_;conv=>whnf
   refine⟨[(1000001,kyC key)],⟨?_,rfl⟩,rr,trivial⟩;conv=>lhs;whnf
   congr 2
   exact(ixF_hit (by omega) p2 (by simpa using hb)).symm
 · exact⟨i+1,⟨by omega,all_step p2 (by simpa using hb)⟩,by omega,(by exact eAx [(1000001,1000001)])⟩
 · refine .ret _ ?_;conv=>whnf
   refine⟨[(1000001,kyC key)],⟨?_,rfl⟩,rr,trivial⟩;conv=>lhs;whnf
   congr 2
   have:i=l.length:=by omega
   subst this;exact(ixF_none p2).symm
theorem z176 (l:List Cls)(hl:l.length≤2^40)(key:List UInt8):FSpec Tryz.prog 106 [.d (clss l),.d (.str key)] [] (fun x r=>x= .d (.int .i64 (clIx l key))∧r= []):=by
 refine spAx hT Tryz.func106 Tryz.call106 ?_;conv=>whnf
 refine oEx (z155b l hl key) [(1000001,3)] ?_;conv=>whnf
 refine .ret _ ?_;conv=>whnf
 refine⟨[],⟨?_,rfl⟩,trivial⟩;conv=>lhs;whnf
structure Flt where
 sta:List Sta
 cls:List Cls
 veh:List Veh
 plt:List Plt
abbrev flt (f:Flt):SV:=.agg [.d (stas f.sta),.d (clss f.cls),.d (vehs f.veh),.d (plts f.plt)]
theorem clIx_bd (l:List Cls)(key:List UInt8): -1≤clIx l key∧clIx l key<l.length:=⟨ixF_bd.1,ixF_bd.2.1⟩
theorem clIx_at {l:List Cls}{key:List UInt8}(h:0≤clIx l key):(l.getD (clIx l key).toNat cls0).key=key:=by
 have:=(ixF_bd (p:=fun i=>(l.getD i cls0).key==key) (n:=l.length)).2.2 h;exact eq_of_beq this
def upC (l:List Cls)(key:List UInt8):List UInt8:=(l.getD (clIx l key).toNat cls0).up
def abv (l:List Cls):Nat→List UInt8→List (List UInt8)
 |0,_=> []
 |n+1,key=>if upC l key= []then []else upC l key::abv l n (upC l key)
theorem abv_len (l:List Cls):∀ (n:Nat) (key:List UInt8),(abv l n key).length≤n:=by
 intro n
 induction n with
 |zero=>intro key;simp[abv]
 |succ n ih=>intro key;rw[abv];split;simp;simp;exact ih _
def upsOk (l:List Cls):Prop:=(∀c ∈ l,c.up≠ []→0≤clIx l c.up)
theorem z241 (l:List Cls)(hl:l.length≤2^20)(hu:upsOk l)(key:List UInt8)(hk:0≤clIx l key):
 FSpec Tryz.prog 149 [.d (clss l),.d (.str key)] [] (fun x r=>x= .d (strs (abv l l.length key))∧r= []):=by
 refine spAx hT Tryz.func149 Tryz.call149 ?_;conv=>whnf
 refine LoopX.rule hT (C:= []) (ι:=List (List UInt8)×List UInt8×Nat) (fun(o,k,i)=>i≤l.length∧o.length≤i∧0≤clIx l k∧o++abv l (l.length - i) k=abv l l.length key)
  (fun(o,k,i)=>mkSt [(0,.d (clss l)),(1,.d (.str k)),(5,.buf 5),(7,.d (.int .i64 l.length)),(8,.d (.int .i64 i))] [(5,seqB 9 1 sF [] o)])
  (fun(_,_,i)=>l.length - i) ([],key,0) ⟨by simp,by simp,hk,by simp⟩ ?_ ?_
 · exact(Entails.nil 5 5 9 1 (rowF sF [] []) rfl rfl (by decide)).trans (Entails.mk' [(5,5)] rfl rfl ⟨lr,lr,lr,lr,lr,trivial⟩ ⟨rr,trivial⟩)
 rintro⟨o,k,i⟩ ⟨p1,p2,p3,p4⟩;have p1:i≤l.length:=p1;have p2:o.length≤i:=p2;have p3:0≤clIx l k:=p3;have p4:o++abv l (l.length - i) k=abv l l.length key:=p4;have hb1:=(clIx_bd l k).2;conv=>whnf
 repeat' (first|(refine CallX.exact (z176 l (by omega) k) rfl rfl ?_;rotate_right;conv=>whnf)|((first|refine br_intro ?_ ?_<;>intro hb<;>try simp only[brs]at hb|omega|refine sAx ?_|decide|assumption)<;>conv=>whnf))
 · refine .freeze _ 5 9 1 _ _ rfl (.weak _ ?_);conv=>whnf
   refine⟨.d (strs o),[],lr,⟨?_,rfl⟩,trivial⟩;rw[←p4,show l.length - i=(l.length - i - 1)+1 by omega,abv,if_pos (show upC l k= []from hb),List.append_nil]
 · have hm:(l.getD (clIx l k).toNat cls0) ∈ l:=getD_mem (by omega)
   refine⟨(o++ [upC l k],upC l k,i+1),⟨by omega,by simp;omega,hu _ hm hb,?_⟩,by show l.length - (i+1)<l.length - i;omega,
    Entails.mk' [(5,22)] rfl rfl ⟨lr,lr,lr,lr,lr,trivial⟩ ⟨Res.le_snocF rfl,trivial⟩⟩
   rw[←p4,show l.length - i=(l.length - (i+1))+1 by omega,abv,if_neg (show ¬upC l k= []from hb),List.append_assoc];rfl
 · refine .freeze _ 5 9 1 _ _ rfl (.weak _ ?_);conv=>whnf
   refine⟨.d (strs o),[],lr,⟨?_,rfl⟩,trivial⟩;rw[←p4,show l.length - i=0 by omega,abv,List.append_nil]
theorem z208 (l:List (List UInt8))(hl:l.length≤2^40)(v:List UInt8):FSpec Tryz.prog 178 [.d (strs l),.d (.str v)] [] (fun x r=>x= .d (.int .i64 (ixF (fun i=>l.getD i []==v) l.length))∧r= []):=by
 refine spAx hT Tryz.func178 Tryz.call178 ?_;conv=>whnf
 refine LoopX.rule hT (C:= []) (ι:=Nat) (fun i=>i≤l.length∧∀j,j<i→(l.getD j []==v)=false) (fun i=>mkSt [(0,.d (strs l)),(1,.d (.str v)),(7,.d (.int .i64 l.length)),(8,.d (.int .i64 i))] []) (fun i=>l.length - i) 0 ⟨by omega,by omega⟩ (by exact eAx []) ?_;rintro i ⟨p1,p2⟩;have e1:=tnc i;conv=>whnf
 repeat' ((first|refine br_intro ?_ ?_<;>intro hb<;>try simp only[brs]at hb|omega|refine sAx ?_|decide|assumption)<;>conv=>whnf)
 · refine .ret _ ?_;conv=>whnf
   refine⟨[],⟨?_,rfl⟩,trivial⟩;conv=>lhs;whnf
   congr 2
   exact(ixF_hit (by omega) p2 (by rw[←hb];simp)).symm
 · exact⟨i+1,⟨by omega,all_step p2 (beq_eq_false_iff_ne.2 fun q=>hb q.symm)⟩,by omega,(by exact eAx [])⟩
 · refine .ret _ ?_;conv=>whnf
   refine⟨[],⟨?_,rfl⟩,trivial⟩;conv=>lhs;whnf
   congr 2
   have:i=l.length:=by omega
   subst this;exact(ixF_none p2).symm
theorem ix_memF (l:List (List UInt8))(v:List UInt8):decide (0≤ixF (fun i=>l.getD i []==v) l.length)=decide (v ∈ l):=by
 rw[decide_eq_decide];constructor
 · intro h;have:=ixF_bd (p:=fun i=>l.getD i []==v) (n:=l.length);rw[←eq_of_beq (this.2.2 h)];exact getD_mem (by omega)
 · intro h;obtain⟨j,hj,rfl⟩:=mem_getD (d:= []) h;exact ixF_pos hj (by simp)
theorem z153 (l:List (List UInt8))(hl:l.length≤2^40)(v:List UInt8):FSpec Tryz.prog 148 [.d (strs l),.d (.str v)] [] (fun x r=>x= .d (.bool (decide (v ∈ l)))∧r= []):=by
 refine spAx hT Tryz.func148 Tryz.call148 ?_;conv=>whnf
 repeat' (first|(refine CallX.exact (z208 l hl v) rfl rfl ?_;rotate_right;conv=>whnf)|((first|refine br_intro ?_ ?_<;>intro hb<;>try simp only[brs]at hb|omega|refine sAx ?_|decide|assumption)<;>conv=>whnf))
 refine .ret _ ?_;conv=>whnf
 refine⟨[],⟨?_,rfl⟩,trivial⟩;conv=>lhs;whnf
 rw[←ix_memF]
def itU (l:List Cls):Nat→List UInt8→List UInt8
 |0,k=>k
 |n+1,k=>itU l n (upC l k)
theorem itU_add (l:List Cls):∀ (a b:Nat) (k:List UInt8),itU l (a+b) k=itU l b (itU l a k):=by
 intro a
 induction a with
 |zero=>intro b k;rw[Nat.zero_add];rfl
 |succ a ih=>intro b k;rw[show a+1+b=(a+b)+1 by omega,itU,ih,itU]
theorem abv_mem (l : List Cls) : ∀ (n : Nat) (k v :List UInt8),v ∈ abv l n k↔∃j,j<n∧itU l (j+1) k=v∧∀i,i≤j→itU l (i+1) k≠ []:=by
 intro n
 induction n with
 |zero=>intro k v;simp[abv]
 | succ n ih=>
   intro k v;rw[abv]
   by_cases h:upC l k= []
   · rw[if_pos h];constructor
     · intro q;cases q
     · rintro⟨j,_,_,h3⟩;exact absurd h (h3 0 (by omega))
   · rw [if_neg h,List.mem_cons,ih];constructor
     · rintro(rfl|⟨j,h1,h2,h3⟩)
       · exact ⟨0, by omega, rfl, fun i hi => by obtain rfl:i=0:=by omega
                                                 exact h⟩
       · refine⟨j+1,by omega,h2,fun i hi=> ?_⟩
         cases i with
         |zero=>exact h
         |succ i=>exact h3 i (by omega)
     · rintro⟨j,h1,h2,h3⟩
       cases j with
       |zero=>exact .inl h2.symm
       |succ j=>exact .inr ⟨j,by omega,h2,fun i hi=>h3 (i+1) (by omega)⟩
theorem nodupG {α:Type}{l m:List α}(h:l.Nodup)(hs:∀x ∈ l,x ∈ m):l.length≤m.length:=by
 induction l generalizing m with
 |nil=>simp
 | cons x l ih=>
   rw[List.nodup_cons]at h;obtain⟨a,b,rfl⟩:=List.append_of_mem (hs x (by simp))
   have:=ih (m:=a++b) h.2 (fun y hy=>by
    have q:=hs y (by simp[hy]);simp only[List.mem_append,List.mem_cons]at q ⊢;rcases q with q|q|q
    · exact .inl q
    · subst q;exact absurd hy h.1
    · exact .inr q)
   simp at this ⊢;omega
theorem clIx_mem {l:List Cls}{k:List UInt8}(h:0≤clIx l k):k ∈ l.map (·.key):=by
 rw[←clIx_at h];exact List.mem_map_of_mem (getD_mem (by have:=(clIx_bd l k).2;omega))
theorem itU_in {l:List Cls}(hu:upsOk l){k:List UInt8}(hk:0≤clIx l k):∀ (j:Nat),(∀i,i<j→itU l (i+1) k≠ [])→0≤clIx l (itU l j k):=by
 intro j
 induction j with
 |zero=>intro _;exact hk
 | succ j ih=>
   intro h;have h1:=ih (fun i hi=>h i (by omega));have h2:=h j (by omega);have e:itU l (j+1) k=upC l (itU l j k):=by rw[itU_add];rfl
   rw[e]at h2 ⊢;exact hu _ (getD_mem (by have:=(clIx_bd l (itU l j k)).2;omega)) h2
theorem loop_eq {l:List Cls}(hu:upsOk l){k:List UInt8}(hk:0≤clIx l k):k ∈ abv l (l.length+1) k↔k ∈ abv l l.length k:=by
 rw[abv_mem,abv_mem];constructor
 · rintro⟨j,h1,h2,h3⟩
   by_cases hj:j<l.length
   · exact⟨j,hj,h2,h3⟩
   · have hj:j=l.length:=by omega
     subst hj
     by_cases hex:∃j',j'<l.length∧itU l (j'+1) k=k
     · obtain⟨j',q1,q2⟩:=hex;exact⟨j',q1,q2,fun i hi=>h3 i (by omega)⟩
     · exfalso
       have hnd:((List.range (l.length+1)).map fun j=>itU l j k).Nodup:=by
        rw[List.nodup_iff_pairwise_ne,List.pairwise_map];refine List.Pairwise.imp_of_mem ?_ List.pairwise_lt_range;intro a b ha hb hab he;rw[List.mem_range]at ha hb;refine hex ⟨a+(l.length+1 - b) - 1,by omega,?_⟩;rw[show a+(l.length+1 - b) - 1+1=a+(l.length+1 - b)by omega,itU_add,he,←itU_add,show b+(l.length+1 - b)=l.length+1 by omega];exact h2
       have:=nodupG (m:=l.map (·.key)) hnd (fun x hx=>by
        obtain⟨j,hj,rfl⟩:=List.mem_map.1 hx;rw[List.mem_range]at hj
        exact clIx_mem (itU_in hu hk j (fun i hi=>h3 i (by omega))))
       simp at this;omega
 · rintro⟨j,h1,h2,h3⟩;exact⟨j,by omega,h2,h3⟩
theorem clIx_pos {l:List Cls}{c:Cls}(h:c ∈ l):0≤clIx l c.key:=by
 obtain⟨j,hj,rfl⟩:=mem_getD (d:=cls0) h;exact ixF_pos hj (by simp)
def clsE1 (l:List Cls)(i:Nat):Int:=
 if isKeyB (l.getD i cls0).key=false then 5 else if 0<i∧strLe (l.getD i cls0).key (l.getD (i - 1) cls0).key=true then 7
 else if(l.getD i cls0).up≠ []∧isKeyB (l.getD i cls0).up=false then 5 else 0
def clsE2 (l:List Cls)(i:Nat):Int:=if(l.getD i cls0).up≠ []∧clIx l (l.getD i cls0).up<0 then 8 else 0
def clsE3 (l:List Cls)(i:Nat):Int:=if(l.getD i cls0).key ∈ abv l l.length (l.getD i cls0).key then 14 else 0
def clssE (l:List Cls):Int:=if 30<l.length then 2 else firstE [firstAt (clsE1 l) l.length,firstAt (clsE2 l) l.length,firstAt (clsE3 l) l.length]
def clsOk (l:List Cls):Prop:=l.length≤2^20∧∀c ∈ l,c.key.length≤2^40∧c.up.length≤2^40
def pltCmp (a b:Plt):Int:=firstE [cmpI a.frm b.frm,cmpS a.veh b.veh,cmpS a.plt b.plt]
def pltC (p:Plt):Res:=.cells 239 ((pltF p).map .d)
def twP (p o:Plt):Bool:=decide (o.frm=p.frm)&&(o.veh==p.veh||o.plt==p.plt)
def vehS (l:List Veh):Prop:=∀i j,i<j→j<l.length→Op.bytesLess (l.getD i veh0).key (l.getD j veh0).key=true
theorem z287 (v:Veh)(key:List UInt8):FSpec Tryz.prog 62 [.agg ((vehF v).map .d),.d (.str key)] [] (fun y r=>y= .d (.int .i64 (cmpS v.key key))∧r= []):=by
 refine spAx hT Tryz.func62 Tryz.call62 ?_;conv=>whnf
 repeat' (first|(refine CallX.exact (s184 _ _) rfl rfl ?_;rotate_right;conv=>whnf)|((first|refine br_intro ?_ ?_<;>intro hb<;>try simp only[brs]at hb|omega|refine sAx ?_|decide|assumption)<;>conv=>whnf))
 refine .ret _ ?_;conv=>whnf
 refine⟨[],⟨?_,rfl⟩,trivial⟩;conv=>lhs;whnf
theorem cmpS_neg (a b:List UInt8):cmpS a b<0↔Op.bytesLess a b=true:=by unfold cmpS;grind
theorem cmpS_zeroF (a b:List UInt8):cmpS a b=0↔a=b:=by
 unfold cmpS;grind [less_tri,less_irr]
theorem half2 (lo hi:Nat)(h:hi≤2^20)(hl:lo≤hi):IntKind.wrap .u64 ((lo:Int)+hi)/2=(((lo+hi)/2:Nat):Int):=by
 unfold IntKind.wrap;simp[IntKind.signed,IntKind.bits];omega
theorem vehS_lt {l:List Veh}(hs:vehS l){key:List UInt8}{i j:Nat}(hij:i≤j)(hj:j<l.length)(h:Op.bytesLess (l.getD j veh0).key key=true):Op.bytesLess (l.getD i veh0).key key=true:=by
 rcases Nat.lt_or_ge i j with q|q
 · exact less_trans (hs i j q hj) h
 · obtain rfl:i=j:=by omega
   exact h
theorem veIx_hit {l:List Veh}(hs:vehS l){i:Nat}(hi:i<l.length):veIx l (l.getD i veh0).key=i:=by
 refine ixF_hit hi (fun j hj=> ?_) (by simp);rw[beq_eq_false_iff_ne];intro e;have:=hs j i hj hi;rw[e,less_irr]at this;cases this
theorem veIx_no {l:List Veh}{key:List UInt8}(h:∀i,i<l.length→(l.getD i veh0).key≠key):veIx l key= -1:=
 ixF_none fun j hj=>beq_eq_false_iff_ne.2 (h j hj)
theorem z286 (l:List Veh)(hl:l.length≤2^20)(hs:vehS l)(key:List UInt8):FSpec Tryz.prog 61 [.d (vehs l),.d (.str key),.fn 62 []] []
 (fun y r=>(∃j:Nat,∃b:Bool,y= .tup [.d (.int .i64 j),.d (.bool b)]∧veIx l key=if b=true then(j:Int)else -1)∧r= []):=by
 refine spAx hT Tryz.func61 Tryz.call61 ?_;conv=>whnf
 refine LoopX.rule hT (C:= []) (ι:=Nat×Nat) (fun(lo,hi)=>(lo≤hi∧hi≤l.length)∧(∀j,j<lo→Op.bytesLess (l.getD j veh0).key key=true)∧∀j,hi≤j→j<l.length→Op.bytesLess (l.getD j veh0).key key=false)
  (fun(lo,hi)=>mkSt [(0,.d (vehs l)),(1,.d (.str key)),(2,.fn 62 []),(8,.d (.int .i64 l.length)),(9,.d (.int .i64 lo)),(10,.d (.int .i64 hi))] []) (fun(lo,hi)=>hi - lo) (0,l.length)
  ⟨⟨by simp,by simp⟩,fun j hj=>by omega,fun j h1 h2=>by omega⟩ (by exact eAx []) ?_
 rintro⟨lo,hi⟩ ⟨⟨p1,p2⟩,p3,p4⟩;have p1:lo≤hi:=p1;have p2:hi≤l.length:=p2;have p3:∀j,j<lo→Op.bytesLess (l.getD j veh0).key key=true:=p3;have p4:∀j,hi≤j→j<l.length→Op.bytesLess (l.getD j veh0).key key=false:=p4;have hh:=half2 lo hi (by omega) p1;obtain⟨M,hM⟩:∃M,M=(lo+hi)/2:=⟨_,rfl⟩;rw[←hM]at hh;have e1:((M:Nat):Int).toNat=M:=Int.toNat_natCast M;have e2:((lo:Nat):Int).toNat=lo:=Int.toNat_natCast lo;conv=>whnf
 repeat' (first|(refine⟨rfl,?_⟩;conv=>whnf)|(rw[hh];conv=>whnf)|(refine CallX.exact (z287 (l.getD (M:Int).toNat veh0) key) rfl rfl ?_;rotate_right;conv=>whnf)|(refine CallX.exact (z287 (l.getD (lo:Int).toNat veh0) key) rfl rfl ?_;rotate_right;conv=>whnf)|((first|refine br_intro ?_ ?_<;>intro hb<;>try simp only[brs]at hb|omega|refine sAx ?_|decide|assumption)<;>conv=>whnf))
 · have hb1:=(cmpS_neg _ _).1 hb;exact⟨(M+1,hi),⟨⟨by omega,p2⟩,fun j hj=>vehS_lt hs (show j≤M by omega) (by omega) hb1,p4⟩,by show hi - (M+1)<hi - lo;omega,(by exact eAx [])⟩
 · have hb1:Op.bytesLess (l.getD M veh0).key key=false:=by
    rw[←Bool.not_eq_true,←cmpS_neg];omega
   refine⟨(lo,M),⟨⟨by omega,by omega⟩,p3,fun j h1 h2=> ?_⟩,by show M - lo<hi - lo;omega,(by exact eAx [])⟩;rw[←Bool.not_eq_true];intro q;rw[vehS_lt hs h1 h2 q]at hb1;cases hb1
 · refine .ret _ ?_;conv=>whnf
   refine⟨[],⟨⟨lo,decide (cmpS (l.getD lo veh0).key key=0),rfl,?_⟩,rfl⟩,trivial⟩
   by_cases q:(l.getD lo veh0).key=key
   · rw[if_pos (by rw[decide_eq_true_eq,cmpS_zeroF];exact q),←q];exact veIx_hit hs (by omega)
   · rw[if_neg (by rw[decide_eq_true_eq,cmpS_zeroF];exact q)];have h0:=p4 lo (by omega) (by omega);have h1:=less_tri _ _ h0 q;refine veIx_no fun i hi2 e=> ?_
     rcases Nat.lt_trichotomy i lo with r|r|r
     · have:=p3 i r;rw[e,less_irr]at this;cases this
     · subst r;exact q e
     · have:=less_trans h1 (hs lo i r hi2);rw[e,less_irr]at this;cases this
 · refine .ret _ ?_;conv=>whnf
   refine⟨[],⟨⟨lo,false,rfl,?_⟩,rfl⟩,trivial⟩;rw[if_neg (by simp)];refine veIx_no fun i hi2 e=> ?_
   have:=p3 i (by omega);rw[e,less_irr]at this;cases this
def oAFlE105:TL:= [(8,[(0,[]),(1,[]),(2,[]),(3,[]),(4,[]),(5,[3,4]),(6,[3,4,5]),(7,[3,4,5]),(8,[3,4]),(9,[3,4]),(10,[3,4]),(11,[]),(12,[]),(13,[])]),(22,[(0,[]),(1,[0]),(2,[0]),(4,[0,1,2]),(5,[0,1,2]),(3,[4,5]),(6,[])])]
theorem z175 (l:List Cls)(hk:clsOk l):FSpec Tryz.prog 105 [.d (clss l)] [] (fun x r=>x= .d (.int .i64 (clssE l))∧r= []):=by
 have hlen:=hk.1;refine spAx hT Tryz.func105 Tryz.call105 ?_;conv=>whnf
 refine br_intro (fun h0=> ?_) (fun h0=> ?_)
 · simp at h0;conv=>whnf
   refine .ret _ ?_;conv=>whnf
   refine⟨[],⟨?_,rfl⟩,trivial⟩;conv=>lhs;whnf
   unfold clssE;rw[if_pos (by omega)]
 simp at h0;conv=>whnf
 refine LoopX.rule hT (C:= []) (ι:=Nat) (fun i=>i≤l.length∧∀j,j<i→clsE1 l j=0) (fun i=>mkSt [(0,.d (clss l)),(12,.d (clss l)),(13,.d (.int .i64 l.length)),(14,.d (.int .i64 i))] []) (fun i=>l.length - i) 0 ⟨by omega,by omega⟩ (by exact eAx []) ?_;rintro i ⟨p1,p2⟩;have hx:(i:Int)<l.length→(l.getD (i:Int).toNat cls0).key.length≤2^40∧(l.getD (i:Int).toNat cls0).up.length≤2^40:=fun hi=>hk.2 _ (getD_mem (by omega))
 have e1:=tnc i
 have hbad:∀e:Int,i<l.length→e≠0→clsE1 l i=e→clssE l=e:=fun e h h1 h2=>by
  unfold clssE;rw[if_neg (by omega),firstAt_eq h p2 h1 h2,firstE,if_neg h1]
 rcases Nat.lt_or_ge i l.length with hi|hi
 · conv =>whnf
   repeat' (first|(refine CallX.exact (s108 _ (hx (by omega)).1) rfl rfl ?_;rotate_right;conv=>whnf)|(refine CallX.exact (s108 _ (hx (by omega)).2) rfl rfl ?_;rotate_right;conv=>whnf)|((first|refine br_intro ?_ ?_<;>intro hb<;>try simp only[brs]at hb|refine tAx hT oAFlE105 ?_|omega|refine sAx ?_|decide|assumption)<;>conv=>whnf))
   all_goals try(exfalso;omega)
   all_goals first
    |(refine⟨i+1,⟨by omega,first_step p2 (by clear p2 hbad hk hx;simp only[e1,toNat_pred]at*;unfold clsE1 strLe;grind)⟩,by omega,(by exact eAx [])⟩)
    | (refine .ret _ ?_
       conv=>whnf
       refine⟨[],⟨?_,rfl⟩,trivial⟩;conv=>lhs;whnf
       congr 2
       exact(hbad _ (by omega) (by decide) (by clear p2 hbad hk hx;simp only[e1,toNat_pred]at*;unfold clsE1 strLe;grind)).symm)
 have hil:i=l.length:=by omega
 subst hil;have P1:=firstAt_zero p2;clear hbad hx p2;conv=>whnf
 repeat' ((first|refine br_intro ?_ ?_<;>intro hb<;>try simp only[brs]at hb|refine tAx hT oAFlE105 ?_|omega|refine sAx ?_|decide|assumption)<;>conv=>whnf)
 all_goals try(exfalso;omega)
 refine LoopX.rule hT (C:= []) (ι:=Nat) (fun i=>i≤l.length∧∀j,j<i→clsE2 l j=0) (fun i=>mkSt [(0,.d (clss l)),(49,.d (clss l)),(50,.d (.int .i64 l.length)),(51,.d (.int .i64 i))] []) (fun i=>l.length - i) 0 ⟨by omega,by omega⟩ (by exact eAx []) ?_;rintro i ⟨p1,p2⟩;have e1:=tnc i
 have hbad:∀e:Int,i<l.length→e≠0→clsE2 l i=e→clssE l=e:=fun e h h1 h2=>by
  unfold clssE;rw[if_neg (by omega),firstE,if_pos P1,firstE,firstAt_eq h p2 h1 h2,if_neg h1]
 rcases Nat.lt_or_ge i l.length with hi|hi
 · conv =>whnf
   repeat' (first|(refine CallX.exact (z176 l (by omega) _) rfl rfl ?_;rotate_right;conv=>whnf)|((first|refine br_intro ?_ ?_<;>intro hb<;>try simp only[brs]at hb|refine tAx hT oAFlE105 ?_|omega|refine sAx ?_|decide|assumption)<;>conv=>whnf))
   all_goals try(exfalso;omega)
   all_goals first
    |(refine⟨i+1,⟨by omega,first_step p2 (by clear p2 hbad hk;simp only[e1]at*;unfold clsE2;grind)⟩,by omega,(by exact eAx [])⟩)
    | (refine .ret _ ?_
       conv=>whnf
       refine⟨[],⟨?_,rfl⟩,trivial⟩;conv=>lhs;whnf
       congr 2
       exact(hbad _ (by omega) (by decide) (by clear p2 hbad hk;simp only[e1]at*;unfold clsE2;grind)).symm)
 have hil:i=l.length:=by omega
 subst hil;have P2:=firstAt_zero p2
 have hu:upsOk l:=fun c hc hn=>by
  obtain⟨j,hj,rfl⟩:=mem_getD (d:=cls0) hc;have:=p2 j hj;unfold clsE2 at this;rcases Int.lt_or_le (clIx l (l.getD j cls0).up) 0 with q|q
  · rw[if_pos ⟨hn,q⟩]at this;cases this
  · exact q
 clear hbad p2;conv=>whnf
 repeat' ((first|refine br_intro ?_ ?_<;>intro hb<;>try simp only[brs]at hb|refine tAx hT oAFlE105 ?_|omega|refine sAx ?_|decide|assumption)<;>conv=>whnf)
 all_goals try(exfalso;omega)
 refine LoopX.rule hT (C:= []) (ι:=Nat) (fun i=>i≤l.length∧∀j,j<i→clsE3 l j=0) (fun i=>mkSt [(0,.d (clss l)),(66,.d (clss l)),(67,.d (.int .i64 l.length)),(68,.d (.int .i64 i))] []) (fun i=>l.length - i) 0 ⟨by omega,by omega⟩ (by exact eAx []) ?_;rintro i ⟨p1,p2⟩;have e1:=tnc i
 have hbad:∀e:Int,i<l.length→e≠0→clsE3 l i=e→clssE l=e:=fun e h h1 h2=>by
  unfold clssE;rw[if_neg (by omega),firstE,if_pos P1,firstE,if_pos P2,firstE,firstAt_eq h p2 h1 h2,if_neg h1]
 rcases Nat.lt_or_ge i l.length with hi|hi
 · have hin:=clIx_pos (l:=l) (c:=l.getD (i:Int).toNat cls0) (getD_mem (by omega));have hal:=abv_len l l.length (l.getD (i:Int).toNat cls0).key;have hlo:=loop_eq hu hin;conv=>whnf
   repeat' (first|(refine CallX.exact (z241 l hlen hu _ hin) rfl rfl ?_;rotate_right;conv=>whnf)|(refine CallX.exact (z153 _ (by omega) _) rfl rfl ?_;rotate_right;conv=>whnf)|((first|refine br_intro ?_ ?_<;>intro hb<;>try simp only[brs]at hb|refine tAx hT oAFlE105 ?_|omega|refine sAx ?_|decide|assumption)<;>conv=>whnf))
   all_goals try(exfalso;omega)
   all_goals first
    |(refine⟨i+1,⟨by omega,first_step p2 (by clear p2 hbad hk;simp only[e1]at*;unfold clsE3;grind)⟩,by omega,(by exact eAx [])⟩)
    | (refine .ret _ ?_
       conv=>whnf
       refine⟨[],⟨?_,rfl⟩,trivial⟩;conv=>lhs;whnf
       congr 2
       exact(hbad _ (by omega) (by decide) (by clear p2 hbad hk;simp only[e1]at*;unfold clsE3;grind)).symm)
 have hil:i=l.length:=by omega
 subst hil;have P3:=firstAt_zero p2;conv=>whnf
 repeat' ((first|refine br_intro ?_ ?_<;>intro hb<;>try simp only[brs]at hb|refine tAx hT oAFlE105 ?_|omega|refine sAx ?_|decide|assumption)<;>conv=>whnf)
 all_goals try(exfalso;omega)
 refine .ret _ ?_;conv=>whnf
 refine⟨[],⟨?_,rfl⟩,trivial⟩;conv=>lhs;whnf
 unfold clssE;rw[if_neg (by omega),firstE,if_pos P1,firstE,if_pos P2,firstE,if_pos P3];rfl
def oAFlG104:TL:= [(8,[(0,[]),(1,[]),(2,[]),(3,[]),(4,[]),(5,[3,4]),(6,[3,4,5]),(7,[3,4,5]),(8,[3,4]),(9,[3,4]),(10,[3,4]),(11,[]),(12,[]),(13,[])])]
def okW (s:Sta)(k:Nat):Bool:=decide ((0≤s.h (2*k)∧s.h (2*k)≤s.h (2*k+1))∧s.h (2*k+1)≤1440)
def hrs (s:Sta):Bool:=(List.range 7).all (okW s)
theorem hrs_yes {s:Sta}(h:∀j,j<7→okW s j=true):hrs s=true:=by
 unfold hrs;rw[List.all_eq_true];intro j hj;exact h j (List.mem_range.1 hj)
theorem hrs_no {s:Sta}{j:Nat}(hj:j<7)(h:okW s j=false):hrs s=false:=by
 unfold hrs;rw[List.all_eq_false];exact⟨j,List.mem_range.2 hj,by simp[h]⟩
def stnE (l:List Sta)(i:Nat):Int:=
 if isKeyB (l.getD i sta0).key=false then 5 else if 0<i∧strLe (l.getD i sta0).key (l.getD (i - 1) sta0).key=true then 7 else if hrs (l.getD i sta0)=false then 1 else 0
def stasE (l:List Sta):Int:=if 50<l.length then 2 else firstAt (stnE l) l.length
def stasOk (l:List Sta):Prop:=l.length≤2^20∧∀c ∈ l,c.key.length≤2^40
theorem z174 (l :List Sta)(hk:stasOk l):FSpec Tryz.prog 104 [.d (stas l)] [] (fun x r=>x= .d (.int .i64 (stasE l))∧r= []):=by
 have hlen:=hk.1;refine spAx hT Tryz.func104 Tryz.call104 ?_;conv=>whnf
 refine br_intro (fun h0=> ?_) (fun h0=> ?_)
 · simp at h0;conv=>whnf
   refine .ret _ ?_;conv=>whnf
   refine⟨[],⟨?_,rfl⟩,trivial⟩;conv=>lhs;whnf
   unfold stasE;rw[if_pos (by omega)]
 simp at h0;conv=>whnf
 refine LoopX.rule hT (C:= []) (ι:=Nat) (fun i=>i≤l.length∧∀j,j<i→stnE l j=0) (fun i=>mkSt [(0,.d (stas l)),(10,.d (stas l)),(11,.d (.int .i64 l.length)),(12,.d (.int .i64 i))] []) (fun i=>l.length - i) 0 ⟨by omega,by omega⟩ (by exact eAx []) ?_;rintro i ⟨p1,p2⟩;have hx:(i:Int)<l.length→(l.getD (i:Int).toNat sta0).key.length≤2^40:=fun hi=>hk.2 _ (getD_mem (by omega))
 have e1:=tnc i
 have hbad:∀e:Int,i<l.length→e≠0→stnE l i=e→stasE l=e:=fun e h h1 h2=>by
  unfold stasE;rw[if_neg (by omega)];exact firstAt_eq h p2 h1 h2
 rcases Nat.lt_or_ge i l.length with hi|hi
 · obtain ⟨s,hs⟩:∃s,s=l.getD (i:Int).toNat sta0:=⟨_,rfl⟩;conv=>whnf
   repeat' (first|(refine CallX.exact (s108 _ (hx (by omega))) rfl rfl ?_;rotate_right;conv=>whnf)|((first|refine br_intro ?_ ?_<;>intro hb<;>try simp only[brs]at hb|refine tAx hT oAFlG104 ?_|omega|refine sAx ?_|decide|assumption)<;>conv=>whnf))
   all_goals try(exfalso;omega)
   all_goals first
    | (refine .ret _ ?_
       conv=>whnf
       refine⟨[],⟨?_,rfl⟩,trivial⟩;conv=>lhs;whnf
       congr 2
       exact(hbad _ (by omega) (by decide) (by clear p2 hbad hk hx;simp only[e1,toNat_pred]at*;unfold stnE strLe;grind)).symm)
    | (have hok:stnE l i=if hrs s=false then 1 else 0:=by
        clear p2 hbad hk hx;simp only[e1,toNat_pred]at*;subst hs;unfold stnE strLe;grind
       refine LoopX.rule hT (C:= []) (ι:=Nat) (fun k=>k≤7∧∀j,j<k→okW s j=true) (fun k=>mkSt [(0,.d (stas l)),(10,.d (stas l)),(11,.d (.int .i64 l.length)),(12,.d (.int .i64 i)),(37,.agg (((staF s).drop 1).map .d)),(38,.d (.int .i64 k))] []) (fun k=>7 - k) 0 ⟨by omega,by omega⟩ (by rw[hs];exact(by exact eAx [])) ?_;rintro k ⟨q1,q2⟩;have hkk:k=7∨k=0∨k=1∨k=2∨k=3∨k=4∨k=5∨k=6:=by omega
       rcases hkk with rfl|rfl|rfl|rfl|rfl|rfl|rfl|rfl
       · rw[hrs_yes q2]at hok;conv=>whnf
         repeat' ((first|refine br_intro ?_ ?_<;>intro hb<;>try simp only[brs]at hb|refine tAx hT oAFlG104 ?_|omega|refine sAx ?_|decide|assumption)<;>conv=>whnf)
         exact⟨i+1,⟨by omega,first_step p2 (by rw[hok];rfl)⟩,by omega,(by exact eAx [])⟩
       · conv =>whnf
         repeat' (first|(refine CallX.exact (s119 _ _ _) rfl rfl ?_;rotate_right;conv=>whnf)|((first|refine br_intro ?_ ?_<;>intro hb<;>try simp only[brs]at hb|refine tAx hT oAFlG104 ?_|omega|refine sAx ?_|decide|assumption)<;>conv=>whnf))
         all_goals first
          | (refine .ret _ ?_
             conv=>whnf
             refine⟨[],⟨?_,rfl⟩,trivial⟩;conv=>lhs;whnf
             congr 2
             exact(hbad _ (by omega) (by decide) (by rw[hok,hrs_no (j:=0) (by omega) (by show decide ((0≤s.h 0∧s.h 0≤s.h 1)∧s.h 1≤1440)=false;rw[decide_eq_false_iff_not];omega)];rfl)).symm)
          |exact⟨1,⟨by omega,all_step (p:=fun j=>okW s j=true) (i:=0) q2 (by show decide ((0≤s.h 0∧s.h 0≤s.h 1)∧s.h 1≤1440)=true;rw[decide_eq_true_eq];omega)⟩,by omega,(by exact eAx [])⟩
       · conv =>whnf
         repeat' (first|(refine CallX.exact (s119 _ _ _) rfl rfl ?_;rotate_right;conv=>whnf)|((first|refine br_intro ?_ ?_<;>intro hb<;>try simp only[brs]at hb|refine tAx hT oAFlG104 ?_|omega|refine sAx ?_|decide|assumption)<;>conv=>whnf))
         all_goals first
          | (refine .ret _ ?_
             conv=>whnf
             refine⟨[],⟨?_,rfl⟩,trivial⟩;conv=>lhs;whnf
             congr 2
             exact(hbad _ (by omega) (by decide) (by rw[hok,hrs_no (j:=1) (by omega) (by show decide ((0≤s.h 2∧s.h 2≤s.h 3)∧s.h 3≤1440)=false;rw[decide_eq_false_iff_not];omega)];rfl)).symm)
          |exact⟨2,⟨by omega,all_step (p:=fun j=>okW s j=true) (i:=1) q2 (by show decide ((0≤s.h 2∧s.h 2≤s.h 3)∧s.h 3≤1440)=true;rw[decide_eq_true_eq];omega)⟩,by omega,(by exact eAx [])⟩
       · conv =>whnf
         repeat' (first|(refine CallX.exact (s119 _ _ _) rfl rfl ?_;rotate_right;conv=>whnf)|((first|refine br_intro ?_ ?_<;>intro hb<;>try simp only[brs]at hb|refine tAx hT oAFlG104 ?_|omega|refine sAx ?_|decide|assumption)<;>conv=>whnf))
         all_goals first
          | (refine .ret _ ?_
             conv=>whnf
             refine⟨[],⟨?_,rfl⟩,trivial⟩;conv=>lhs;whnf
             congr 2
             exact(hbad _ (by omega) (by decide) (by rw[hok,hrs_no (j:=2) (by omega) (by show decide ((0≤s.h 4∧s.h 4≤s.h 5)∧s.h 5≤1440)=false;rw[decide_eq_false_iff_not];omega)];rfl)).symm)
          |exact⟨3,⟨by omega,all_step (p:=fun j=>okW s j=true) (i:=2) q2 (by show decide ((0≤s.h 4∧s.h 4≤s.h 5)∧s.h 5≤1440)=true;rw[decide_eq_true_eq];omega)⟩,by omega,(by exact eAx [])⟩
       · conv =>whnf
         repeat' (first|(refine CallX.exact (s119 _ _ _) rfl rfl ?_;rotate_right;conv=>whnf)|((first|refine br_intro ?_ ?_<;>intro hb<;>try simp only[brs]at hb|refine tAx hT oAFlG104 ?_|omega|refine sAx ?_|decide|assumption)<;>conv=>whnf))
         all_goals first
          | (refine .ret _ ?_
             conv=>whnf
             refine⟨[],⟨?_,rfl⟩,trivial⟩;conv=>lhs;whnf
             congr 2
             exact(hbad _ (by omega) (by decide) (by rw[hok,hrs_no (j:=3) (by omega) (by show decide ((0≤s.h 6∧s.h 6≤s.h 7)∧s.h 7≤1440)=false;rw[decide_eq_false_iff_not];omega)];rfl)).symm)
          |exact⟨4,⟨by omega,all_step (p:=fun j=>okW s j=true) (i:=3) q2 (by show decide ((0≤s.h 6∧s.h 6≤s.h 7)∧s.h 7≤1440)=true;rw[decide_eq_true_eq];omega)⟩,by omega,(by exact eAx [])⟩
       · conv =>whnf
         repeat' (first|(refine CallX.exact (s119 _ _ _) rfl rfl ?_;rotate_right;conv=>whnf)|((first|refine br_intro ?_ ?_<;>intro hb<;>try simp only[brs]at hb|refine tAx hT oAFlG104 ?_|omega|refine sAx ?_|decide|assumption)<;>conv=>whnf))
         all_goals first
          | (refine .ret _ ?_
             conv=>whnf
             refine⟨[],⟨?_,rfl⟩,trivial⟩;conv=>lhs;whnf
             congr 2
             exact(hbad _ (by omega) (by decide) (by rw[hok,hrs_no (j:=4) (by omega) (by show decide ((0≤s.h 8∧s.h 8≤s.h 9)∧s.h 9≤1440)=false;rw[decide_eq_false_iff_not];omega)];rfl)).symm)
          |exact⟨5,⟨by omega,all_step (p:=fun j=>okW s j=true) (i:=4) q2 (by show decide ((0≤s.h 8∧s.h 8≤s.h 9)∧s.h 9≤1440)=true;rw[decide_eq_true_eq];omega)⟩,by omega,(by exact eAx [])⟩
       · conv =>whnf
         repeat' (first|(refine CallX.exact (s119 _ _ _) rfl rfl ?_;rotate_right;conv=>whnf)|((first|refine br_intro ?_ ?_<;>intro hb<;>try simp only[brs]at hb|refine tAx hT oAFlG104 ?_|omega|refine sAx ?_|decide|assumption)<;>conv=>whnf))
         all_goals first
          | (refine .ret _ ?_
             conv=>whnf
             refine⟨[],⟨?_,rfl⟩,trivial⟩;conv=>lhs;whnf
             congr 2
             exact(hbad _ (by omega) (by decide) (by rw[hok,hrs_no (j:=5) (by omega) (by show decide ((0≤s.h 10∧s.h 10≤s.h 11)∧s.h 11≤1440)=false;rw[decide_eq_false_iff_not];omega)];rfl)).symm)
          |exact⟨6,⟨by omega,all_step (p:=fun j=>okW s j=true) (i:=5) q2 (by show decide ((0≤s.h 10∧s.h 10≤s.h 11)∧s.h 11≤1440)=true;rw[decide_eq_true_eq];omega)⟩,by omega,(by exact eAx [])⟩
       · conv =>whnf
         repeat' (first|(refine CallX.exact (s119 _ _ _) rfl rfl ?_;rotate_right;conv=>whnf)|((first|refine br_intro ?_ ?_<;>intro hb<;>try simp only[brs]at hb|refine tAx hT oAFlG104 ?_|omega|refine sAx ?_|decide|assumption)<;>conv=>whnf))
         all_goals first
          | (refine .ret _ ?_
             conv=>whnf
             refine⟨[],⟨?_,rfl⟩,trivial⟩;conv=>lhs;whnf
             congr 2
             exact(hbad _ (by omega) (by decide) (by rw[hok,hrs_no (j:=6) (by omega) (by show decide ((0≤s.h 12∧s.h 12≤s.h 13)∧s.h 13≤1440)=false;rw[decide_eq_false_iff_not];omega)];rfl)).symm)
          |exact⟨7,⟨by omega,all_step (p:=fun j=>okW s j=true) (i:=6) q2 (by show decide ((0≤s.h 12∧s.h 12≤s.h 13)∧s.h 13≤1440)=true;rw[decide_eq_true_eq];omega)⟩,by omega,(by exact eAx [])⟩)
 have hil:i=l.length:=by omega
 subst hil;conv=>whnf
 repeat' ((first|refine br_intro ?_ ?_<;>intro hb<;>try simp only[brs]at hb|refine tAx hT oAFlG104 ?_|omega|refine sAx ?_|decide|assumption)<;>conv=>whnf)
 all_goals try(exfalso;omega)
 refine .ret _ ?_;conv=>whnf
 refine⟨[],⟨?_,rfl⟩,trivial⟩;conv=>lhs;whnf
 congr 2
 unfold stasE;rw[if_neg (by omega),firstAt_zero p2]
def vehE1 (f:Flt)(i:Nat):Int:=
 if isKeyB (f.veh.getD i veh0).key=false then 5 else if 0<i∧strLe (f.veh.getD i veh0).key (f.veh.getD (i - 1) veh0).key=true then 7
 else if clIx f.cls (f.veh.getD i veh0).cls<0 then 8 else 0
def pltE1 (f:Flt)(i:Nat):Int:=
 if ¬ (0≤(f.plt.getD i plt0).frm∧(f.plt.getD i plt0).frm≤5761439)then 1 else if veIx f.veh (f.plt.getD i plt0).veh<0 then 8 else if isPlateB (f.plt.getD i plt0).plt=false then 3
 else if 0<i∧0≤pltCmp (f.plt.getD (i - 1) plt0) (f.plt.getD i plt0)then 7 else if((f.plt.take i).any (twP (f.plt.getD i plt0)))=true then 6 else 0
def fltE0 (f:Flt):Int:=firstE [stasE f.sta,clssE f.cls,if 500<f.veh.length then 2 else 0]
def fltE (f:Flt):Int:=if fltE0 f≠0 then fltE0 f else if firstAt (vehE1 f) f.veh.length≠0 then firstAt (vehE1 f) f.veh.length
 else if 1000<f.plt.length then 2 else firstAt (pltE1 f) f.plt.length
structure fltOk (f:Flt):Prop where
 sta:stasOk f.sta
 cls:clsOk f.cls
 veh:f.veh.length≤2^20∧∀v ∈ f.veh,v.key.length≤2^40∧v.cls.length≤2^40
 plt:f.plt.length≤2^20∧∀p ∈ f.plt,(-2^40≤p.frm∧p.frm≤2^40)∧p.veh.length≤2^40∧p.plt.length≤2^40
def fltC (f:Flt):Res:=.cells 31 [.d (stas f.sta),.d (clss f.cls),.d (vehs f.veh),.d (plts f.plt)]
theorem vehE_sorted {f:Flt}(h:firstAt (vehE1 f) f.veh.length=0):vehS f.veh:=by
 have h0:=firstAt_all h
 have step:∀j,j+1<f.veh.length→Op.bytesLess (f.veh.getD j veh0).key (f.veh.getD (j+1) veh0).key=true:=by
  intro j hj;have:=h0 (j+1) hj;unfold vehE1 strLe at this;simp only[Nat.add_sub_cancel]at this;have hl:=less_tri (f.veh.getD (j+1) veh0).key (f.veh.getD j veh0).key;grind
 intro i j hij hj
 induction j with
 |zero=>omega
 | succ j ih=>
   rcases Nat.lt_or_ge i j with q|q
   · exact less_trans (ih q (by omega)) (step j hj)
   · obtain rfl:i=j:=by omega
     exact step i hj
theorem z243 (f:Flt)(hl:f.veh.length≤2^20)(hs:vehS f.veh)(key:List UInt8):FSpec Tryz.prog 32 [flt f,.d (.str key)] [] (fun x r=>x= .d (.int .i64 (veIx f.veh key))∧r= []):=by
 refine spAx hT Tryz.func32 Tryz.call32 ?_;conv=>whnf
 refine oAx (z286 f.veh hl hs key) [] ?_;rintro x rout ⟨⟨j,b,rfl,hj⟩,rfl⟩;refine⟨rfl,?_⟩;conv=>whnf
 repeat' ((first|refine br_intro ?_ ?_<;>intro hb<;>try simp only[brs]at hb|omega|refine sAx ?_|decide|assumption)<;>conv=>whnf)
 · refine .ret _ ?_;conv=>whnf
   refine⟨[],⟨?_,rfl⟩,trivial⟩;conv=>lhs;whnf
   congr 2
   rw[hj,if_neg (by simp[hb])]
 · refine .ret _ ?_;conv=>whnf
   refine⟨[],⟨?_,rfl⟩,trivial⟩;conv=>lhs;whnf
   congr 2
   rw[hj,if_pos hb]
def oAFlL107:TL:= [(14,[(0,[]),(1,[]),(2,[0,1]),(3,[0,1]),(5,rg 4),(6,rg 4),(7,[0,1,2,3,5,6]),(8,[0,1,2,3,5,6]),(10,[0,1,2,3,5,6,7,8]),(11,[0,1,2,3,5,6,7,8]),(12,[0,1,2,3,5,6,7,8,10,11]),(13,[0,1,2,3,5,6,7,8,10,11]),(4,[5,6,7,8,10,11,12,13]),(9,[10,11,12,13]),(14,[]),(15,[]),(16,[]),(17,[])]),(17,[(0,[]),(1,[]),(2,[]),(3,[]),(4,[]),(5,[3,4]),(6,[]),(7,[]),(8,[]),(9,[3,4,5,6,7,8]),(10,[3,4,5,6,7,8]),(11,[]),(12,[])])]
theorem pltCmp_frm {a b:Plt}(h:pltCmp a b<0):a.frm≤b.frm:=by
 unfold pltCmp at h;rw[firstE]at h;split at h
 · rename_i q;unfold cmpI at q;split at q<;>(try split at q)<;>omega
 · unfold cmpI at h;split at h<;>(try split at h)<;>omega
theorem pltE1_cmp {f:Flt}{j:Nat}(h:pltE1 f j=0)(hj:0<j):pltCmp (f.plt.getD (j - 1) plt0) (f.plt.getD j plt0)<0:=by
 unfold pltE1 at h;grind
theorem frm_mono {f:Flt}{i:Nat}(h:∀j,j≤i→0<j→pltCmp (f.plt.getD (j - 1) plt0) (f.plt.getD j plt0)<0):∀b a,a≤b→b≤i→(f.plt.getD a plt0).frm≤(f.plt.getD b plt0).frm:=by
 intro b
 induction b with
 | zero => intro a ha _;obtain rfl:a=0:=by omega
           exact Int.le_refl _
 | succ b ih=>
   intro a ha hb;rcases Nat.lt_or_ge a (b+1)with q|q
   · have h1:=ih a (by omega) (by omega);have h2:=pltCmp_frm (h (b+1) hb (by omega));rw[Nat.add_sub_cancel]at h2;omega
   · obtain rfl:a=b+1:=by omega
     exact Int.le_refl _
theorem getD_take {α:Type}{l:List α}{d:α}{i j:Nat}(h:j<i):(l.take i).getD j d=l.getD j d:=by
 rw[List.getD_eq_getElem?_getD,List.getElem?_take_of_lt h,←List.getD_eq_getElem?_getD]
theorem tw_none {f:Flt}{i m:Nat}(hi:i<f.plt.length)(hm:m≤i)(h1:∀j,m≤j→j<i→twP (f.plt.getD i plt0) (f.plt.getD j plt0)=false)
 (h2:∀j,j<m→(f.plt.getD j plt0).frm≠(f.plt.getD i plt0).frm):(f.plt.take i).any (twP (f.plt.getD i plt0))=false:=by
 rw[List.any_eq_false];intro x hx;obtain⟨j,hj,rfl⟩:=mem_getD (d:=plt0) hx;rw[List.length_take]at hj;rw[getD_take (by omega)];rcases Nat.lt_or_ge j m with q|q
 · unfold twP;simp only[decide_eq_false (h2 j q),Bool.false_and];simp
 · rw[h1 j q (by omega)];simp
theorem tw_some {f:Flt}{i k:Nat}(hi:i<f.plt.length)(hk:k<i)(h:twP (f.plt.getD i plt0) (f.plt.getD k plt0)=true):(f.plt.take i).any (twP (f.plt.getD i plt0))=true:=by
 rw[List.any_eq_true];refine⟨(f.plt.take i).getD k plt0,getD_mem (by rw[List.length_take];omega),?_⟩;rw[getD_take hk];exact h
def pltsE (f:Flt):Int:=if 1000<f.plt.length then 2 else firstAt (pltE1 f) f.plt.length
theorem z177 (f:Flt)(hk:fltOk f)(hs:vehS f.veh):FSpec Tryz.prog 107 [flt f] [] (fun x r=>x= .d (.int .i64 (pltsE f))∧r= []):=by
 have hlv:=hk.veh.1;have hlp:=hk.plt.1;refine spAx hT Tryz.func107 Tryz.call107 ?_;conv=>whnf
 repeat' ((first|refine br_intro ?_ ?_<;>intro hb<;>try simp only[brs]at hb|refine tAx hT oAFlL107 ?_|omega|refine sAx ?_|decide|assumption)<;>conv=>whnf)
 · refine .ret _ ?_;conv=>whnf
   refine⟨[],⟨?_,rfl⟩,trivial⟩;conv=>lhs;whnf
   congr 2
   unfold pltsE;rw[if_pos (by omega)]
 refine LoopX.rule hT (C:= []) (ι:=Nat) (fun i=>i≤f.plt.length∧∀j,j<i→pltE1 f j=0) (fun i=>mkSt [(1,.ptr 1 0),(13,.d (plts f.plt)),(14,.d (.int .i64 f.plt.length)),(15,.d (.int .i64 i))] [(1,fltC f)]) (fun i=>f.plt.length - i) 0 ⟨by omega,by omega⟩ (by exact eAx [(1,1)]) ?_;rintro i ⟨p1,p2⟩;have hx:(i:Int)<f.plt.length→(-2^40≤(f.plt.getD (i:Int).toNat plt0).frm∧(f.plt.getD (i:Int).toNat plt0).frm≤2^40)∧(f.plt.getD (i:Int).toNat plt0).veh.length≤2^40∧(f.plt.getD (i:Int).toNat plt0).plt.length≤2^40:=fun hi=>hk.plt.2 _ (getD_mem (by omega))
 have e1:=tnc i
 have hbad:∀e:Int,i<f.plt.length→e≠0→pltE1 f i=e→pltsE f=e:=fun e h h1 h2=>by
  unfold pltsE;rw[if_neg (by omega),firstAt_eq h p2 h1 h2]
 rcases Nat.lt_or_ge i f.plt.length with hi|hi
 · have hx2 :=hx (by omega);have hz:((i:Int) - 1).toNat=i - 1:=by omega
   conv=>whnf
   repeat' (first|(refine CallX.exact (s154 _) rfl rfl ?_;rotate_right;conv=>whnf)|(refine CallX.exact (z243 f (by omega) hs _) rfl rfl ?_;rotate_right;conv=>whnf)|(refine CallX.exact (s185 _ hx2.2.2) rfl rfl ?_;rotate_right;conv=>whnf)|(refine CallX.exact (s183 _ _) rfl rfl ?_;rotate_right;conv=>whnf)|(refine CallX.exact (s184 _ _) rfl rfl ?_;rotate_right;conv=>whnf)|((first|refine CallX.pure (s182 [cmpI (f.plt.getD ((i:Int) - 1).toNat plt0).frm (f.plt.getD (i:Int).toNat plt0).frm,cmpS (f.plt.getD ((i:Int) - 1).toNat plt0).veh (f.plt.getD (i:Int).toNat plt0).veh,cmpS (f.plt.getD ((i:Int) - 1).toNat plt0).plt (f.plt.getD (i:Int).toNat plt0).plt] (by simp)) ⟨SV.le_lit (by rfl) (by rfl),trivial⟩ rfl ?_|refine br_intro ?_ ?_<;>intro hb<;>try simp only[brs]at hb|refine tAx hT oAFlL107 ?_|omega|refine sAx ?_|decide|assumption)<;>conv=>whnf))
   all_goals first
    | (refine .ret _ ?_
       conv=>whnf
       refine⟨[],⟨?_,rfl⟩,trivial⟩;conv=>lhs;whnf
       congr 2
       exact(hbad _ (by omega) (by decide) (by clear p2 hbad hk hx hx2;simp only[e1,hz]at*;unfold pltE1;(try unfold pltCmp);grind)).symm)
    | (have hcmp:0<i→pltCmp (f.plt.getD (i - 1) plt0) (f.plt.getD i plt0)<0:=by
        intro _
        first
         |(exfalso;omega)
         |(clear p2 hbad hk hx hx2;simp only[e1,hz]at*;unfold pltCmp;assumption)
       have hall:∀j,j≤i→0<j→pltCmp (f.plt.getD (j - 1) plt0) (f.plt.getD j plt0)<0:=fun j h1 h2=>by
        rcases Nat.lt_or_ge j i with q|q
        · exact pltE1_cmp (p2 j q) h2
        · obtain rfl:j=i:=by omega
          exact hcmp h2
       have hz0:∀ (c:Bool),pltE1 f i=(if(f.plt.take i).any (twP (f.plt.getD i plt0))=true then 6 else 0):=by
        intro _;clear p2 hbad hk hx hx2;simp only[e1,hz]at*;unfold pltE1;grind
       have hz0:=hz0 true
       refine LoopX.rule hT (C:= []) (ι:=Nat) (fun m=>m≤i∧∀j,m≤j→j<i→(f.plt.getD j plt0).frm=(f.plt.getD i plt0).frm∧twP (f.plt.getD i plt0) (f.plt.getD j plt0)=false)
        (fun m=>mkSt [(1,.ptr 1 0),(4,.ptr 4 0),(6,.d (.int .i64 ((m:Int) - 1))),(13,.d (plts f.plt)),(14,.d (.int .i64 f.plt.length)),(15,.d (.int .i64 i))] [(1,fltC f),(4,pltC (f.plt.getD (i:Int).toNat plt0))]) (fun m=>m) i ⟨by omega,fun j h1 h2=>by omega⟩ (by exact eAx [(1,1),(4,4)]) ?_
       rintro m ⟨q1,q2⟩;have hm1:0<m→((m:Int) - 1).toNat=m - 1:=fun h=>by omega
       conv=>whnf
       repeat' ((first|refine br_intro ?_ ?_<;>intro hb<;>try simp only[brs]at hb|refine tAx hT oAFlL107 ?_|omega|refine sAx ?_|decide|assumption)<;>conv=>whnf)
       all_goals first
        | (refine .ret _ ?_
           conv=>whnf
           refine⟨[],⟨?_,rfl⟩,trivial⟩;conv=>lhs;whnf
           congr 2
           refine(hbad _ (by omega) (by decide) ?_).symm
           rw[hz0,if_pos (tw_some hi (k:=m - 1) (by omega) (by clear p2 hbad hk hx hx2 hall;simp only[e1,hm1 (by omega)]at*;unfold twP;grind))])
        |exact⟨m - 1,⟨by omega,fun j h1 h2=>by
         rcases Nat.lt_or_ge j m with r|r
         · obtain rfl:j=m - 1:=by omega
           clear p2 hbad hk hx hx2 hall;simp only[e1,hm1 (by omega)]at*;unfold twP;grind
         · exact q2 j r h2⟩,by show m - 1<m;omega,Entails.mk' [(1,1),(4,4)] rfl rfl ⟨lr,lr,SV.le_int (by omega),lr,lr,lr,trivial⟩ ⟨rr,rr,trivial⟩⟩
        |exact⟨i+1,⟨by omega,first_step p2 (by
         rw[hz0,tw_none hi q1 (fun j h1 h2=>(q2 j h1 h2).2) (fun j h1=>by
          have h2:=frm_mono hall i (m - 1) (by omega) (by omega);have h3:=frm_mono hall (m - 1) j (by omega) (by omega);clear p2 hbad hk hx hx2 hall;simp only[e1,hm1 (by omega)]at*
          omega)]
         rfl)⟩,by omega,(by exact eAx [(1,1)])⟩)
 have hil:i=f.plt.length:=by omega
 subst hil;have F2:=firstAt_zero p2;clear hbad hx p2;conv=>whnf
 repeat' ((first|refine br_intro ?_ ?_<;>intro hb<;>try simp only[brs]at hb|refine tAx hT oAFlL107 ?_|omega|refine sAx ?_|decide|assumption)<;>conv=>whnf)
 all_goals try(exfalso;omega)
 refine .ret _ ?_;conv=>whnf
 refine⟨[],⟨?_,rfl⟩,trivial⟩;conv=>lhs;whnf
 congr 2
 unfold pltsE;rw[if_neg (by omega)];exact F2.symm
def oAFlM59:TL:= [(1,[(0,[]),(1,[]),(3,[0,1]),(4,[0,1]),(6,[0,1,3,4]),(7,[0,1,3,4]),(8,[0,1,3,4]),(9,[0,1,3,4]),(2,[3,4,6,7,8,9]),(5,[6,7,8,9]),(10,[]),(11,[]),(12,[]),(13,[])]),(9,[(0,[]),(1,[]),(2,[]),(3,[]),(4,[]),(5,[3,4]),(6,[3,4]),(7,[3,4,5,6]),(8,[3,4,5,6]),(9,[3,4]),(10,[3,4]),(11,[3,4]),(12,[]),(13,[]),(14,[])])]
theorem z114 (f:Flt)(hk:fltOk f):FSpec Tryz.prog 59 [flt f] [] (fun x r=>x= .d (.int .i64 (fltE f))∧r= []):=by
 have hlv:=hk.veh.1;have hlp:=hk.plt.1
 have H:(if decide ((500:Int)<f.veh.length)=true then(2:Int)else 0)=if 500<f.veh.length then 2 else 0:=by
  simp only[decide_eq_true_eq];congr 1;rw[eq_iff_iff];omega
 have h3:=s105 [stasE f.sta,clssE f.cls,if decide ((500:Int)<f.veh.length)=true then 2 else 0] (by simp);rw[show firstE [stasE f.sta,clssE f.cls,if decide ((500:Int)<f.veh.length)=true then 2 else 0]=fltE0 f from by rw[H];rfl]at h3;refine spAx hT Tryz.func59 Tryz.call59 ?_;conv=>whnf
 repeat' (first|(refine CallX.exact (z174 f.sta hk.sta) rfl rfl ?_;rotate_right;conv=>whnf)|(refine CallX.exact (z175 f.cls hk.cls) rfl rfl ?_;rotate_right;conv=>whnf)|(refine CallX.exact (s107 _ _) rfl rfl ?_;rotate_right;conv=>whnf)|((first|refine CallX.pure h3 ⟨SV.le_lit (by rfl) (by rfl),trivial⟩ rfl ?_|refine br_intro ?_ ?_<;>intro hb<;>try simp only[brs]at hb|refine tAx hT oAFlM59 ?_|omega|refine sAx ?_|decide|assumption)<;>conv=>whnf))
 · refine .ret _ ?_;conv=>whnf
   refine⟨[],⟨?_,rfl⟩,trivial⟩;conv=>lhs;whnf
   congr 2
   unfold fltE;rw[if_pos hb]
 have F0:fltE0 f=0:=hb;refine LoopX.rule hT (C:= []) (ι:=Nat) (fun i=>i≤f.veh.length∧∀j,j<i→vehE1 f j=0) (fun i=>mkSt [(1,.ptr 1 0),(23,.d (vehs f.veh)),(24,.d (.int .i64 f.veh.length)),(25,.d (.int .i64 i))] [(1,fltC f)]) (fun i=>f.veh.length - i) 0 ⟨by omega,by omega⟩ (by exact eAx [(1,1)]) ?_;rintro i ⟨p1,p2⟩;have hx:(i:Int)<f.veh.length→(f.veh.getD (i:Int).toNat veh0).key.length≤2^40∧(f.veh.getD (i:Int).toNat veh0).cls.length≤2^40:=fun hi=>hk.veh.2 _ (getD_mem (by omega))
 have e1:=tnc i
 have hbad:∀e:Int,i<f.veh.length→e≠0→vehE1 f i=e→fltE f=e:=fun e h h1 h2=>by
  unfold fltE;rw[if_neg (by omega),firstAt_eq h p2 h1 h2,if_pos h1]
 rcases Nat.lt_or_ge i f.veh.length with hi|hi
 · conv =>whnf
   repeat' (first|(refine CallX.exact (s108 _ (hx (by omega)).1) rfl rfl ?_;rotate_right;conv=>whnf)|(refine CallX.exact (z176 f.cls (Nat.le_trans hk.cls.1 (by decide)) _) rfl rfl ?_;rotate_right;conv=>whnf)|((first|refine br_intro ?_ ?_<;>intro hb<;>try simp only[brs]at hb|refine tAx hT oAFlM59 ?_|omega|refine sAx ?_|decide|assumption)<;>conv=>whnf))
   all_goals try(exfalso;omega)
   all_goals first
    |(refine⟨i+1,⟨by omega,first_step p2 (by clear p2 hbad hk hx;simp only[e1,toNat_pred]at*;unfold vehE1 strLe;grind)⟩,by omega,(by exact eAx [(1,1)])⟩)
    | (refine .ret _ ?_
       conv=>whnf
       refine⟨[],⟨?_,rfl⟩,trivial⟩;conv=>lhs;whnf
       congr 2
       exact(hbad _ (by omega) (by decide) (by clear p2 hbad hk hx;simp only[e1,toNat_pred]at*;unfold vehE1 strLe;grind)).symm)
 have hil:i=f.veh.length:=by omega
 subst hil;have F1:=firstAt_zero p2;clear hbad hx p2;conv=>whnf
 repeat' (first|(refine CallX.exact (z177 f hk (vehE_sorted F1)) rfl rfl ?_;rotate_right;conv=>whnf)|((first|refine br_intro ?_ ?_<;>intro hb<;>try simp only[brs]at hb|refine tAx hT oAFlM59 ?_|omega|refine sAx ?_|decide|assumption)<;>conv=>whnf))
 all_goals try(exfalso;omega)
 refine .ret _ ?_;conv=>whnf
 refine⟨[],⟨?_,rfl⟩,trivial⟩;conv=>lhs;whnf
 congr 2
 unfold fltE pltsE;simp[F0,F1]
def oATaA118:TL:= [(18,[(0,[]),(1,[]),(2,[0,1]),(3,[0,1]),(5,rg 4),(6,rg 4),(7,[0,1,2,3,5,6]),(8,[0,1,2,3,5,6]),(4,[5,6,7,8]),(9,[]),(10,[]),(11,[]),(12,[])])]
def oATaA75:TL:= [(6,[(0,[]),(1,[]),(2,[0,1]),(3,[0,1]),(4,rg 4),(5,rg 4),(6,rg 6),(7,rg 6),(8,[]),(9,rg 9),(10,rg 9),(11,rg 11),(12,rg 11),(13,rg 13),(14,rg 13),(15,rg 15),(16,rg 15),(17,rg 9),(18,[9,10,11,12,13,14,15,16,17]),(19,[])])]
structure Rat where
 cls:List UInt8
 frm:Int
 to:Int
 hr:Int
 dy:Int
 we:Int
 wk:Int
def ratF (x:Rat):List DV:= [.str x.cls,.int .i64 x.frm,.int .i64 x.to,.int .i64 x.hr,.int .i64 x.dy,.int .i64 x.we,.int .i64 x.wk]
def rat0:Rat:=⟨[],0,0,0,0,0,0⟩
abbrev rats (l:List Rat):DV:=seqD 7 ratF rat0 l
def numO (n:Int):Prop:= -1≤n∧n≤1000000
instance (n:Int):Decidable (numO n):=by unfold numO;infer_instance
def nums (x:Rat):Prop:=numO x.hr∧numO x.dy∧numO x.we∧numO x.wk
instance (x:Rat):Decidable (nums x):=by unfold nums;infer_instance
theorem cmp2_ge (a b:List UInt8)(m n:Int):(0≤firstE [cmpS a b,cmpI m n])=(Op.bytesLess b a=true∨(a=b∧n≤m)):=by
 apply propext
 unfold firstE cmpS cmpI firstE firstE;have h1:=less_tri a b;have h2:=less_irr a;grind [less_trans]
theorem cmp2s_ge (a b c d:List UInt8):(0≤firstE [cmpS a b,cmpS c d])=(Op.bytesLess b a=true∨(a=b∧strLe d c=true)):=by
 apply propext
 unfold firstE cmpS firstE firstE strLe;have h1:=less_tri a b;have h2:=less_irr a;have h3:=less_tri c d;have h4:=less_irr c;grind [less_trans]
theorem cmp2_lt (a b:List UInt8)(m n:Int):(firstE [cmpS a b,cmpI m n]<0)=¬ (Op.bytesLess b a=true∨(a=b∧n≤m)):=by
 rw[←cmp2_ge];exact propext Int.not_le.symm
theorem cmp2s_lt (a b c d:List UInt8):(firstE [cmpS a b,cmpS c d]<0)=¬ (Op.bytesLess b a=true∨(a=b∧strLe d c=true)):=by
 rw[←cmp2s_ge];exact propext Int.not_le.symm
def ratE (l:List Rat)(i:Nat):Int:=
 let x:=l.getD i rat0
 let q:=l.getD (i - 1) rat0
 if isKeyB x.cls=false then 5 else if ¬ (0≤x.frm∧x.frm<x.to∧x.to≤4001∧nums x)then 1 else if 0<i∧(Op.bytesLess x.cls q.cls=true∨(q.cls=x.cls∧x.frm≤q.frm))then 7 else if 0<i∧q.cls=x.cls∧x.frm<q.to then 13 else 0
def ratsE (l:List Rat):Int:=if 200<l.length then 2 else firstAt (ratE l) l.length
def ratK (x:Rat):Prop:=x.cls.length≤2^40
def ratOk (l:List Rat):Prop:=l.length≤2^40∧∀x ∈ l,ratK x
theorem min4_lt (p q r t c:Int):(min (min (min p q) r) t<c)=(p<c∨q<c∨r<c∨t<c):=by apply propext;omega
theorem max4_gt (p q r t c:Int):(c<max (max (max p q) r) t)=(c<p∨c<q∨c<r∨c<t):=by apply propext;omega
theorem y149 (l:List Rat)(hk:ratOk l):FSpec Tryz.prog 118 [.d (rats l)] [] (fun x r=>x= .d (.int .i64 (ratsE l))∧r= []):=by
 refine spAx hT Tryz.func118 Tryz.call118 ?_;conv=>whnf
 refine br_intro (fun h0=> ?_) (fun h0=> ?_)
 · simp at h0;conv=>whnf
   refine .ret _ ?_;conv=>whnf
   refine⟨[],⟨?_,rfl⟩,trivial⟩;conv=>lhs;whnf
   unfold ratsE;rw[if_pos (by omega)]
 simp at h0;conv=>whnf
 refine LoopX.rule hT (C:= []) (ι:=Nat) (fun i=>i≤l.length∧∀j,j<i→ratE l j=0) (fun i=>mkSt [(0,.d (rats l)),(11,.d (rats l)),(12,.d (.int .i64 l.length)),(13,.d (.int .i64 i))] []) (fun i=>l.length - i) 0 ⟨by omega,by omega⟩ (by exact eAx []) ?_;rintro i ⟨p1,p2⟩;have hx:(i:Int)<l.length→ratK (l.getD (i:Int).toNat rat0):=fun hi=>hk.2 _ (getD_mem (by omega))
 have e1:=tnc i
 have hbad:∀e:Int,i<l.length→e≠0→ratE l i=e→ratsE l=e:=fun e h h1 h2=>by
  unfold ratsE;rw[if_neg (by omega)];exact firstAt_eq h p2 h1 h2
 conv=>whnf
 repeat' (first|(refine CallX.exact (s108 _ (hx (by omega))) rfl rfl ?_;rotate_right;conv=>whnf)|((first|refine br_intro ?_ ?_<;>intro hb<;>try simp only[brs]at hb|refine tAx hT oATaA118 ?_|omega|refine sAx ?_|decide|assumption)<;>conv=>whnf))
 · refine .ret _ ?_;conv=>whnf
   refine⟨[],⟨?_,rfl⟩,trivial⟩;conv=>lhs;whnf
   congr 2
   exact(hbad _ (by omega) (by decide) (by clear p2 hbad hk hx;simp only[e1]at*;unfold ratE;grind)).symm
 · refine .ret _ ?_;conv=>whnf
   refine⟨[],⟨?_,rfl⟩,trivial⟩;conv=>lhs;whnf
   congr 2
   exact(hbad _ (by omega) (by decide) (by clear p2 hbad hk hx;simp only[e1]at*;unfold ratE;grind)).symm
 · refine .ret _ ?_;conv=>whnf
   refine⟨[],⟨?_,rfl⟩,trivial⟩;conv=>lhs;whnf
   congr 2
   exact(hbad _ (by omega) (by decide) (by clear p2 hbad hk hx;simp only[e1]at*;unfold ratE;grind)).symm
 · refine .ret _ ?_;conv=>whnf
   refine⟨[],⟨?_,rfl⟩,trivial⟩;conv=>lhs;whnf
   congr 2
   exact(hbad _ (by omega) (by decide) (by clear p2 hbad hk hx;simp only[e1]at*;unfold ratE;grind)).symm
 · have hi:i<l.length:=by omega
   have hN:isKeyB (l.getD i rat0).cls=true∧0≤(l.getD i rat0).frm∧(l.getD i rat0).frm<(l.getD i rat0).to∧(l.getD i rat0).to≤4001:=by clear p2 hbad hk hx;simp only[e1]at*;grind
   have hR:ratE l i=if ¬nums (l.getD i rat0)then 1 else if 0<i∧(Op.bytesLess (l.getD i rat0).cls (l.getD (i - 1) rat0).cls=true∨((l.getD (i - 1) rat0).cls=(l.getD i rat0).cls∧(l.getD i rat0).frm≤(l.getD (i - 1) rat0).frm))then 7 else if 0<i∧(l.getD (i - 1) rat0).cls=(l.getD i rat0).cls∧(l.getD i rat0).frm<(l.getD (i - 1) rat0).to then 13 else 0:=by
    obtain⟨n1,n2,n3,n4⟩:=hN;unfold ratE;simp only;rw[if_neg (by rw[n1];simp)]
    by_cases hn:nums (l.getD i rat0)<;>simp only[hn,n2,n3,n4,and_true,and_false,true_and,not_true_eq_false,not_false_eq_true,if_true,if_false]
   obtain⟨X,hX⟩:∃X,X=l.getD (i:Int).toNat rat0:=⟨_,rfl⟩;have hX2:l.getD i rat0=X:=hX.symm;rw[hX2]at hN hR;refine LoopX.rule hT (C:= []) (ι:=Nat) (fun k=>k≤4∧∀j,j<k→numO (([X.hr,X.dy,X.we,X.wk]:List Int).getD j 0)) (fun k=>mkSt [(0,.d (rats l)),(3,.d (.int .i64 i)),(4,.ptr 4 0),(11,.d (rats l)),(12,.d (.int .i64 l.length)),(13,.d (.int .i64 i)),(47,.d (ints [X.hr,X.dy,X.we,X.wk])),(48,.d (.int .i64 4)),(49,.d (.int .i64 k))] [(4,.cells 166 ((ratF X).map .d))]) (fun k=>4 - k) 0 ⟨by omega,by omega⟩ (by subst hX;exact(by(refine Entails.mk' [(4,4)] rfl rfl ?_ ?_<;>repeat' (first|exact True.intro|exact lr|exact rr|(exact SV.le_lit rfl rfl)|exact SV.le_int (by omega)|exact SV.le_any _|refine And.intro ?_ ?_));done)) ?_;rintro k ⟨q1,q2⟩;have e2:(k:Int).toNat=k:=Int.toNat_natCast k;clear hx hk;conv=>whnf
   repeat' (first|(refine CallX.exact (s119 _ _ _) rfl rfl ?_;rotate_right;conv=>whnf)|(refine CallX.exact (s184 _ _) rfl rfl ?_;rotate_right;conv=>whnf)|(refine CallX.exact (s183 _ _) rfl rfl ?_;rotate_right;conv=>whnf)|((first|refine CallX.pure (s182 [_,_] (by simp)) ⟨SV.le_lit (by rfl) (by rfl),trivial⟩ rfl ?_|refine br_intro ?_ ?_<;>intro hb<;>try simp only[brs]at hb|refine tAx hT oATaA118 ?_|omega|refine sAx ?_|decide|assumption)<;>conv=>whnf))
   · refine .ret _ ?_;conv=>whnf
     refine⟨[],⟨?_,rfl⟩,trivial⟩;conv=>lhs;whnf
     congr 2
     refine(hbad _ hi (by decide) ?_).symm;rw[hR,if_pos];rintro⟨⟨n1,n2⟩,⟨n3,n4⟩,⟨n5,n6⟩,n7,n8⟩;have hk4:k=0∨k=1∨k=2∨k=3:=by omega
     rcases hk4 with rfl|rfl|rfl|rfl<;>(simp only[Int.toNat_natCast,List.getD_cons_zero,List.getD_cons_succ]at hb;omega)
   · exact⟨k+1,⟨by omega,all_step q2 hb⟩,by omega,(by exact eAx [(4,4)])⟩
   all_goals
    have hk4:k=4:=by omega
    subst hk4;have hn:nums X:=⟨q2 0 (by omega),q2 1 (by omega),q2 2 (by omega),q2 3 (by omega)⟩;rw[if_neg (fun h=>h hn)]at hR;clear q1 q2 e2 hN
    first
     |(refine⟨i+1,⟨by omega,first_step p2 (by rw[hR];clear p2 hbad hR hX hX2;simp only[e1,toNat_pred]at*;(try simp only[cmp2_ge,cmp2_lt]at*);grind)⟩,by omega,(by exact eAx [])⟩)
     | (refine .ret _ ?_
        conv=>whnf
        refine⟨[],⟨?_,rfl⟩,trivial⟩;conv=>lhs;whnf
        congr 2
        exact(hbad _ hi (by decide) (by rw[hR];clear p2 hbad hR hX hX2;simp only[e1,toNat_pred]at*;(try simp only[cmp2_ge,cmp2_lt]at*);grind)).symm)
 · refine .ret _ ?_;conv=>whnf
   refine⟨[],⟨?_,rfl⟩,trivial⟩;conv=>lhs;whnf
   congr 2
   have:i=l.length:=by omega
   subst this;unfold ratsE;rw[if_neg (by omega),firstAt_zero p2]
theorem y161 (l:List Rat)(hk:ratOk l):FSpec Tryz.prog 75 [.d (rats l)] [] (fun x r=>x= .d (.int .i64 (ratsE l))∧r= []):=by
 refine spAx hT Tryz.func75 Tryz.call75 ?_;conv=>whnf
 refine br_intro (fun h0=> ?_) (fun h0=> ?_)
 · simp at h0;conv=>whnf
   refine .ret _ ?_;conv=>whnf
   refine⟨[],⟨?_,rfl⟩,trivial⟩;conv=>lhs;whnf
   unfold ratsE;rw[if_pos (by omega)]
 simp at h0;conv=>whnf
 refine LoopX.rule hT (C:= []) (ι:=Nat) (fun i=>i≤l.length∧∀j,j<i→ratE l j=0) (fun i=>mkSt [(0,.d (rats l)),(11,.d (rats l)),(12,.d (.int .i64 l.length)),(13,.d (.int .i64 i))] []) (fun i=>l.length - i) 0 ⟨by omega,by omega⟩ (by exact eAx []) ?_;rintro i ⟨p1,p2⟩;have hx:(i:Int)<l.length→ratK (l.getD (i:Int).toNat rat0):=fun hi=>hk.2 _ (getD_mem (by omega))
 have e1:=tnc i
 have hbad:∀e:Int,i<l.length→e≠0→ratE l i=e→ratsE l=e:=fun e h h1 h2=>by
  unfold ratsE;rw[if_neg (by omega)];exact firstAt_eq h p2 h1 h2
 conv=>whnf
 repeat' (first|(refine CallX.exact (s21 _ (hx (by omega))) rfl rfl ?_;rotate_right;conv=>whnf)|((first|refine br_intro ?_ ?_<;>intro hb<;>try simp only[brs]at hb|refine tAx hT oATaA75 ?_|omega|refine sAx ?_|decide|assumption)<;>conv=>whnf))
 all_goals first
  |(refine⟨i+1,⟨by omega,first_step p2 (by clear p2 hbad hk hx;simp only[e1,toNat_pred]at*;unfold ratE nums numO;(try simp only[min4_lt,max4_gt]at*);grind)⟩,by omega,(by exact eAx [])⟩)
  | (refine .ret _ ?_
     conv=>whnf
     refine⟨[],⟨?_,rfl⟩,trivial⟩;conv=>lhs;whnf
     congr 2
     first
      |exact(hbad _ (by omega) (by decide) (by clear p2 hbad hk hx;simp only[e1,toNat_pred]at*;unfold ratE nums numO;(try simp only[min4_lt,max4_gt]at*);grind)).symm
      | (have:i=l.length:=by omega
         subst this
         unfold ratsE;rw[if_neg (by omega),firstAt_zero p2]))
def oATaB119:TL:= [(8,[(0,[]),(1,[]),(2,[]),(3,[]),(4,[]),(5,[3,4]),(6,[3,4,5]),(7,[3,4,5]),(8,[3,4]),(9,[3,4]),(10,[3,4]),(11,[]),(12,[]),(13,[])])]
def oATaB120:TL:= [(10,[(0,[]),(1,[]),(2,[]),(3,[]),(4,[3]),(5,[3]),(6,[]),(7,[]),(8,[]),(9,[3,4,5,6,7,8]),(10,[3,4,5,6,7,8]),(12,[3,4,5,6,7,8,9,10]),(13,[3,4,5,6,7,8,9,10,12]),(14,[3,4,5,6,7,8,9,10,12]),(15,[3,4,5,6,7,8,9,10]),(16,[3,4,5,6,7,8,9,10]),(17,[3,4,5,6,7,8,9,10]),(18,[3,4,5,6,7,8,9,10,12,13,14,15,16,17]),(19,[3,4,5,6,7,8,9,10,12,13,14,15,16,17]),(11,[12,13,14,15,16,17,18,19]),(20,[]),(21,[]),(22,[]),(23,[]),(24,[]),(25,[])])]
def oATaB77:TL:= [(10,[(0,[]),(1,[]),(2,[]),(3,[]),(4,[]),(5,[3,4]),(6,[3,4,5]),(7,[3,4,5]),(8,[3,4]),(9,[3,4]),(10,[3,4]),(11,[]),(12,[]),(13,[]),(14,[]),(15,[13,14]),(16,[13,14,15]),(17,[13,14,15]),(18,[13,14]),(19,[13,14]),(20,[13,14]),(21,[]),(22,[]),(23,[]),(24,[]),(25,[23,24]),(26,[23,24,25]),(27,[23,24,25]),(28,[23,24]),(29,[23,24]),(30,[23,24]),(31,[]),(32,[]),(33,[]),(34,[]),(35,[])])]
def oATaB121:TL:= [(8,[(0,[]),(1,[]),(2,[]),(3,[]),(4,[]),(5,[3,4]),(6,[3,4,5]),(7,[3,4,5]),(8,[3,4]),(9,[3,4]),(10,[3,4]),(11,[]),(12,[]),(13,[])])]
structure Ext where
 key:List UInt8
 once:Int
 dy:Int
 most:Int
def extF (x:Ext):List DV:= [.str x.key,.int .i64 x.once,.int .i64 x.dy,.int .i64 x.most]
def ext0:Ext:=⟨[],0,0,0⟩
abbrev exts (l:List Ext):DV:=seqD 4 extF ext0 l
def extE (l:List Ext)(i:Nat):Int:=
 let x:=l.getD i ext0
 if isKeyB x.key=false then 5 else if 0<i∧strLe x.key (l.getD (i - 1) ext0).key=true then 7 else if ¬ ((0≤x.once∧x.once≤1000000)∧(0≤x.dy∧x.dy≤1000000)∧(-1≤x.most∧x.most≤1000000))then 1 else 0
def extsE (l:List Ext):Int:=if 30<l.length then 2 else firstAt (extE l) l.length
def extK (x:Ext):Prop:=x.key.length≤2^40
def extOk (l:List Ext):Prop:=l.length≤2^40∧∀x ∈ l,extK x
theorem y150 (l:List Ext)(hk:extOk l):FSpec Tryz.prog 119 [.d (exts l)] [] (fun x r=>x= .d (.int .i64 (extsE l))∧r= []):=by
 refine spAx hT Tryz.func119 Tryz.call119 ?_;conv=>whnf
 refine br_intro (fun h0=> ?_) (fun h0=> ?_)
 · simp at h0;conv=>whnf
   refine .ret _ ?_;conv=>whnf
   refine⟨[],⟨?_,rfl⟩,trivial⟩;conv=>lhs;whnf
   unfold extsE;rw[if_pos (by omega)]
 simp at h0;conv=>whnf
 refine LoopX.rule hT (C:= []) (ι:=Nat) (fun i=>i≤l.length∧∀j,j<i→extE l j=0) (fun i=>mkSt [(0,.d (exts l)),(8,.d (exts l)),(9,.d (.int .i64 l.length)),(10,.d (.int .i64 i))] []) (fun i=>l.length - i) 0 ⟨by omega,by omega⟩ (by exact eAx []) ?_;rintro i ⟨p1,p2⟩;have hx:(i:Int)<l.length→extK (l.getD (i:Int).toNat ext0):=fun hi=>hk.2 _ (getD_mem (by omega))
 have e1:=tnc i
 have hbad:∀e:Int,i<l.length→e≠0→extE l i=e→extsE l=e:=fun e h h1 h2=>by
  unfold extsE;rw[if_neg (by omega)];exact firstAt_eq h p2 h1 h2
 conv=>whnf
 repeat' (first|(refine CallX.exact (s108 _ (hx (by omega))) rfl rfl ?_;rotate_right;conv=>whnf)|(refine CallX.exact (s119 _ _ _) rfl rfl ?_;rotate_right;conv=>whnf)|((first|refine br_intro ?_ ?_<;>intro hb<;>try simp only[brs]at hb|refine tAx hT oATaB119 ?_|omega|refine sAx ?_|decide|assumption)<;>conv=>whnf))
 all_goals first
  |(refine⟨i+1,⟨by omega,first_step p2 (by clear p2 hbad hk hx;simp only[e1,toNat_pred]at*;unfold extE strLe;grind)⟩,by omega,(by exact eAx [])⟩)
  | (refine .ret _ ?_
     conv=>whnf
     refine⟨[],⟨?_,rfl⟩,trivial⟩;conv=>lhs;whnf
     congr 2
     first
      |exact(hbad _ (by omega) (by decide) (by clear p2 hbad hk hx;simp only[e1,toNat_pred]at*;unfold extE strLe;grind)).symm
      | (have:i=l.length:=by omega
         subst this
         unfold extsE;rw[if_neg (by omega),firstAt_zero p2]))
theorem y162 (l:List Ext)(hk:extOk l):FSpec Tryz.prog 76 [.d (exts l)] [] (fun x r=>x= .d (.int .i64 (extsE l))∧r= []):=by
 refine spAx hT Tryz.func76 Tryz.call76 ?_;conv=>whnf
 refine br_intro (fun h0=> ?_) (fun h0=> ?_)
 · simp at h0;conv=>whnf
   refine .ret _ ?_;conv=>whnf
   refine⟨[],⟨?_,rfl⟩,trivial⟩;conv=>lhs;whnf
   unfold extsE;rw[if_pos (by omega)]
 simp at h0;conv=>whnf
 refine LoopX.rule hT (C:= []) (ι:=Nat) (fun i=>i≤l.length∧∀j,j<i→extE l j=0) (fun i=>mkSt [(3,.d (.str (if i=0 then []else(l.getD (i - 1) ext0).key))),(9,.d (exts l)),(10,.d (.int .i64 l.length)),(11,.d (.int .i64 i))] []) (fun i=>l.length - i) 0 ⟨by omega,by omega⟩ (by exact eAx []) ?_;rintro i ⟨p1,p2⟩;have hx:(i:Int)<l.length→extK (l.getD (i:Int).toNat ext0):=fun hi=>hk.2 _ (getD_mem (by omega))
 have e1:=tnc i
 have hbad:∀e:Int,i<l.length→e≠0→extE l i=e→extsE l=e:=fun e h h1 h2=>by
  unfold extsE;rw[if_neg (by omega)];exact firstAt_eq h p2 h1 h2
 conv=>whnf
 repeat' (first|(refine CallX.exact (s21 _ (hx (by omega))) rfl rfl ?_;rotate_right;conv=>whnf)|(refine CallX.exact (s110 _ _ _) rfl rfl ?_;rotate_right;conv=>whnf)|((first|refine br_intro ?_ ?_<;>intro hb<;>try simp only[brs]at hb|omega|refine sAx ?_|decide|assumption)<;>conv=>whnf))
 all_goals first
  |(refine⟨i+1,⟨by omega,first_step p2 (by clear p2 hbad hk hx;simp only[e1]at*;unfold extE strLe;grind)⟩,by omega,Entails.mk' [] rfl rfl ⟨(by rw[show(if i+1=0 then([]:List UInt8)else(l.getD (i+1 - 1) ext0).key)=(l.getD (i:Int).toNat ext0).key from by rw[if_neg (by omega),e1,Nat.add_sub_cancel]];exact lr),lr,lr,lr,trivial⟩ trivial⟩)
  | (refine .ret _ ?_
     conv=>whnf
     refine⟨[],⟨?_,rfl⟩,trivial⟩;conv=>lhs;whnf
     congr 2
     first
      |exact(hbad _ (by omega) (by decide) (by clear p2 hbad hk hx;simp only[e1]at*;unfold extE strLe;grind [isKey_nil,less_nil])).symm
      | (have:i=l.length:=by omega
         subst this
         unfold extsE;rw[if_neg (by omega),firstAt_zero p2]))
structure Fe where
 a:List UInt8
 b:List UInt8
 cents:Int
def feF (x:Fe):List DV:= [.str x.a,.str x.b,.int .i64 x.cents]
def fe0:Fe:=⟨[],[],0⟩
abbrev fes (l:List Fe):DV:=seqD 3 feF fe0 l
def feE (l:List Fe)(i:Nat):Int:=
 let x:=l.getD i fe0
 let q:=l.getD (i - 1) fe0
 if isKeyB x.a=false∨isKeyB x.b=false then 5 else if x.a=x.b then 14 else if 0<i∧(Op.bytesLess x.a q.a=true∨(q.a=x.a∧strLe x.b q.b=true))then 7 else if ¬ (0≤x.cents∧x.cents≤1000000)then 1 else 0
def fesE (l:List Fe):Int:=if 500<l.length then 2 else firstAt (feE l) l.length
def feK (x:Fe):Prop:=x.a.length≤2^40∧x.b.length≤2^40
def feOk (l:List Fe):Prop:=l.length≤2^40∧∀x ∈ l,feK x
theorem y151 (l:List Fe)(hk:feOk l):FSpec Tryz.prog 120 [.d (fes l)] [] (fun x r=>x= .d (.int .i64 (fesE l))∧r= []):=by
 refine spAx hT Tryz.func120 Tryz.call120 ?_;conv=>whnf
 refine br_intro (fun h0=> ?_) (fun h0=> ?_)
 · simp at h0;conv=>whnf
   refine .ret _ ?_;conv=>whnf
   refine⟨[],⟨?_,rfl⟩,trivial⟩;conv=>lhs;whnf
   unfold fesE;rw[if_pos (by omega)]
 simp at h0;conv=>whnf
 refine LoopX.rule hT (C:= []) (ι:=Nat) (fun i=>i≤l.length∧∀j,j<i→feE l j=0) (fun i=>mkSt [(0,.d (fes l)),(8,.d (fes l)),(9,.d (.int .i64 l.length)),(10,.d (.int .i64 i))] []) (fun i=>l.length - i) 0 ⟨by omega,by omega⟩ (by exact eAx []) ?_;rintro i ⟨p1,p2⟩;have hx:(i:Int)<l.length→feK (l.getD (i:Int).toNat fe0):=fun hi=>hk.2 _ (getD_mem (by omega))
 have e1:=tnc i
 have hbad:∀e:Int,i<l.length→e≠0→feE l i=e→fesE l=e:=fun e h h1 h2=>by
  unfold fesE;rw[if_neg (by omega)];exact firstAt_eq h p2 h1 h2
 conv=>whnf
 repeat' (first|(refine CallX.exact (s108 _ (hx (by omega)).1) rfl rfl ?_;rotate_right;conv=>whnf)|(refine CallX.exact (s108 _ (hx (by omega)).2) rfl rfl ?_;rotate_right;conv=>whnf)|(refine CallX.exact (s119 _ _ _) rfl rfl ?_;rotate_right;conv=>whnf)|(refine CallX.exact (s184 _ _) rfl rfl ?_;rotate_right;conv=>whnf)|((first|refine CallX.pure (s182 [_,_] (by simp)) ⟨SV.le_lit (by rfl) (by rfl),trivial⟩ rfl ?_|refine br_intro ?_ ?_<;>intro hb<;>try simp only[brs]at hb|refine tAx hT oATaB120 ?_|omega|refine sAx ?_|decide|assumption)<;>conv=>whnf))
 all_goals first
  |(refine⟨i+1,⟨by omega,first_step p2 (by clear p2 hbad hk hx;simp only[e1,toNat_pred]at*;unfold feE;(try simp only[cmp2s_ge,cmp2s_lt]at*);grind)⟩,by omega,(by exact eAx [])⟩)
  | (refine .ret _ ?_
     conv=>whnf
     refine⟨[],⟨?_,rfl⟩,trivial⟩;conv=>lhs;whnf
     congr 2
     first
      |exact(hbad _ (by omega) (by decide) (by clear p2 hbad hk hx;simp only[e1,toNat_pred]at*;unfold feE;(try simp only[cmp2s_ge,cmp2s_lt]at*);grind)).symm
      | (have:i=l.length:=by omega
         subst this
         unfold fesE;rw[if_neg (by omega),firstAt_zero p2]))
theorem y163 (l:List Fe)(hk:feOk l):FSpec Tryz.prog 77 [.d (fes l)] [] (fun x r=>x= .d (.int .i64 (fesE l))∧r= []):=by
 refine spAx hT Tryz.func77 Tryz.call77 ?_;conv=>whnf
 refine br_intro (fun h0=> ?_) (fun h0=> ?_)
 · simp at h0;conv=>whnf
   refine .ret _ ?_;conv=>whnf
   refine⟨[],⟨?_,rfl⟩,trivial⟩;conv=>lhs;whnf
   unfold fesE;rw[if_pos (by omega)]
 simp at h0;conv=>whnf
 refine LoopX.rule hT (C:= []) (ι:=Nat) (fun i=>i≤l.length∧∀j,j<i→feE l j=0) (fun i=>mkSt [(0,.d (fes l)),(8,.d (fes l)),(9,.d (.int .i64 l.length)),(10,.d (.int .i64 i))] []) (fun i=>l.length - i) 0 ⟨by omega,by omega⟩ (by exact eAx []) ?_;rintro i ⟨p1,p2⟩;have hx:(i:Int)<l.length→feK (l.getD (i:Int).toNat fe0):=fun hi=>hk.2 _ (getD_mem (by omega))
 have e1:=tnc i
 have hbad:∀e:Int,i<l.length→e≠0→feE l i=e→fesE l=e:=fun e h h1 h2=>by
  unfold fesE;rw[if_neg (by omega)];exact firstAt_eq h p2 h1 h2
 conv=>whnf
 repeat' (first|(refine CallX.exact (s21 _ (hx (by omega)).1) rfl rfl ?_;rotate_right;conv=>whnf)|(refine CallX.exact (s21 _ (hx (by omega)).2) rfl rfl ?_;rotate_right;conv=>whnf)|(refine CallX.exact (s110 _ _ _) rfl rfl ?_;rotate_right;conv=>whnf)|((first|refine br_intro ?_ ?_<;>intro hb<;>try simp only[brs]at hb|refine tAx hT oATaB77 ?_|omega|refine sAx ?_|decide|assumption)<;>conv=>whnf))
 all_goals first
  |(refine⟨i+1,⟨by omega,first_step p2 (by clear p2 hbad hk hx;simp only[e1,toNat_pred]at*;unfold feE strLe;grind)⟩,by omega,(by exact eAx [])⟩)
  | (refine .ret _ ?_
     conv=>whnf
     refine⟨[],⟨?_,rfl⟩,trivial⟩;conv=>lhs;whnf
     congr 2
     first
      |exact(hbad _ (by omega) (by decide) (by clear p2 hbad hk hx;simp only[e1,toNat_pred]at*;unfold feE strLe;grind)).symm
      | (have:i=l.length:=by omega
         subst this
         unfold fesE;rw[if_neg (by omega),firstAt_zero p2]))
structure Cod where
 key:List UInt8
 cls:List UInt8
 frm:Int
 to:Int
 days:Int
 per:Int
def codF (x:Cod):List DV:= [.str x.key,.str x.cls,.int .i64 x.frm,.int .i64 x.to,.int .i64 x.days,.int .i64 x.per]
def cod0:Cod:=⟨[],[],0,0,0,0⟩
abbrev cods (l:List Cod):DV:=seqD 6 codF cod0 l
def codE (l:List Cod)(i:Nat):Int:=
 let x:=l.getD i cod0
 if isKeyB x.key=false then 5 else if 0<i∧strLe x.key (l.getD (i - 1) cod0).key=true then 7 else if x.cls≠ []∧isKeyB x.cls=false then 5 else if ¬ ((0≤x.frm∧x.frm≤x.to)∧x.to≤4001∧(1≤x.days∧x.days≤120)∧(1≤x.per∧x.per≤1000))then 1 else 0
def codsE (l:List Cod):Int:=if 50<l.length then 2 else firstAt (codE l) l.length
def codK (x:Cod):Prop:=x.key.length≤2^40∧x.cls.length≤2^40
def codOk (l:List Cod):Prop:=l.length≤2^40∧∀x ∈ l,codK x
theorem y152 (l:List Cod)(hk:codOk l):FSpec Tryz.prog 121 [.d (cods l)] [] (fun x r=>x= .d (.int .i64 (codsE l))∧r= []):=by
 refine spAx hT Tryz.func121 Tryz.call121 ?_;conv=>whnf
 refine br_intro (fun h0=> ?_) (fun h0=> ?_)
 · simp at h0;conv=>whnf
   refine .ret _ ?_;conv=>whnf
   refine⟨[],⟨?_,rfl⟩,trivial⟩;conv=>lhs;whnf
   unfold codsE;rw[if_pos (by omega)]
 simp at h0;conv=>whnf
 refine LoopX.rule hT (C:= []) (ι:=Nat) (fun i=>i≤l.length∧∀j,j<i→codE l j=0) (fun i=>mkSt [(0,.d (cods l)),(8,.d (cods l)),(9,.d (.int .i64 l.length)),(10,.d (.int .i64 i))] []) (fun i=>l.length - i) 0 ⟨by omega,by omega⟩ (by exact eAx []) ?_;rintro i ⟨p1,p2⟩;have hx:(i:Int)<l.length→codK (l.getD (i:Int).toNat cod0):=fun hi=>hk.2 _ (getD_mem (by omega))
 have e1:=tnc i
 have hbad:∀e:Int,i<l.length→e≠0→codE l i=e→codsE l=e:=fun e h h1 h2=>by
  unfold codsE;rw[if_neg (by omega)];exact firstAt_eq h p2 h1 h2
 conv=>whnf
 repeat' (first|(refine CallX.exact (s108 _ (hx (by omega)).1) rfl rfl ?_;rotate_right;conv=>whnf)|(refine CallX.exact (s108 _ (hx (by omega)).2) rfl rfl ?_;rotate_right;conv=>whnf)|(refine CallX.exact (s119 _ _ _) rfl rfl ?_;rotate_right;conv=>whnf)|((first|refine br_intro ?_ ?_<;>intro hb<;>try simp only[brs]at hb|refine tAx hT oATaB121 ?_|omega|refine sAx ?_|decide|assumption)<;>conv=>whnf))
 all_goals first
  |(refine⟨i+1,⟨by omega,first_step p2 (by clear p2 hbad hk hx;simp only[e1,toNat_pred]at*;unfold codE strLe;grind)⟩,by omega,(by exact eAx [])⟩)
  | (refine .ret _ ?_
     conv=>whnf
     refine⟨[],⟨?_,rfl⟩,trivial⟩;conv=>lhs;whnf
     congr 2
     first
      |exact(hbad _ (by omega) (by decide) (by clear p2 hbad hk hx;simp only[e1,toNat_pred]at*;unfold codE strLe;grind)).symm
      | (have:i=l.length:=by omega
         subst this
         unfold codsE;rw[if_neg (by omega),firstAt_zero p2]))
theorem y164 (l:List Cod)(hk:codOk l):FSpec Tryz.prog 78 [.d (cods l)] [] (fun x r=>x= .d (.int .i64 (codsE l))∧r= []):=by
 refine spAx hT Tryz.func78 Tryz.call78 ?_;conv=>whnf
 refine br_intro (fun h0=> ?_) (fun h0=> ?_)
 · simp at h0;conv=>whnf
   refine .ret _ ?_;conv=>whnf
   refine⟨[],⟨?_,rfl⟩,trivial⟩;conv=>lhs;whnf
   unfold codsE;rw[if_pos (by omega)]
 simp at h0;conv=>whnf
 refine LoopX.rule hT (C:= []) (ι:=Nat) (fun i=>i≤l.length∧∀j,j<i→codE l j=0) (fun i=>mkSt [(3,.d (.str (if i=0 then []else(l.getD (i - 1) cod0).key))),(9,.d (cods l)),(10,.d (.int .i64 l.length)),(11,.d (.int .i64 i))] []) (fun i=>l.length - i) 0 ⟨by omega,by omega⟩ (by exact eAx []) ?_;rintro i ⟨p1,p2⟩;have hx:(i:Int)<l.length→codK (l.getD (i:Int).toNat cod0):=fun hi=>hk.2 _ (getD_mem (by omega))
 have e1:=tnc i
 have hbad:∀e:Int,i<l.length→e≠0→codE l i=e→codsE l=e:=fun e h h1 h2=>by
  unfold codsE;rw[if_neg (by omega)];exact firstAt_eq h p2 h1 h2
 conv=>whnf
 repeat' (first|(refine CallX.exact (s21 _ (hx (by omega)).1) rfl rfl ?_;rotate_right;conv=>whnf)|(refine CallX.exact (s21 _ (hx (by omega)).2) rfl rfl ?_;rotate_right;conv=>whnf)|(refine CallX.exact (s110 _ _ _) rfl rfl ?_;rotate_right;conv=>whnf)|((first|refine br_intro ?_ ?_<;>intro hb<;>try simp only[brs]at hb|omega|refine sAx ?_|decide|assumption)<;>conv=>whnf))
 all_goals first
  |(refine⟨i+1,⟨by omega,first_step p2 (by clear p2 hbad hk hx;simp only[e1]at*;unfold codE strLe;grind)⟩,by omega,Entails.mk' [] rfl rfl ⟨(by rw[show(if i+1=0 then([]:List UInt8)else(l.getD (i+1 - 1) cod0).key)=(l.getD (i:Int).toNat cod0).key from by rw[if_neg (by omega),e1,Nat.add_sub_cancel]];exact lr),lr,lr,lr,trivial⟩ trivial⟩)
  | (refine .ret _ ?_
     conv=>whnf
     refine⟨[],⟨?_,rfl⟩,trivial⟩;conv=>lhs;whnf
     congr 2
     first
      |exact(hbad _ (by omega) (by decide) (by clear p2 hbad hk hx;simp only[e1]at*;unfold codE strLe;grind [isKey_nil,less_nil])).symm
      | (have:i=l.length:=by omega
         subst this
         unfold codsE;rw[if_neg (by omega),firstAt_zero p2]))
structure Tax where
 key:List UInt8
 per:Int
 on:List Int
 over:Bool
def taxF (x:Tax):List DV:= [.str x.key,.int .i64 x.per,ints x.on,.bool x.over]
def tax0:Tax:=⟨[],0,[],false⟩
abbrev taxs (l:List Tax):DV:=seqD 4 taxF tax0 l
def taxC (x:Tax):Res:=.cells 198 ((taxF x).map .d)
def txOn (l:List Int)(k:Nat):Int:=if l.getD k 0=5∨¬ (1≤l.getD k 0∧l.getD k 0≤6)then 4 else if 0<k∧l.getD k 0≤l.getD (k - 1) 0 then 7 else 0
def txOns (l:List Int):Int:=firstAt (txOn l) l.length
def dupT (l:List Tax)(x:Tax):Bool:=decide (0≤ixF (fun i=>(l.getD i tax0).key==x.key) l.length)
def taxE (l:List Tax)(i:Nat):Int:=
 let x:=l.getD i tax0
 if isKeyB x.key=false then 5 else if dupT (l.take i) x=true then 6 else if ¬ (0≤x.per∧x.per≤1000)then 1 else txOns x.on
def taxsE (l:List Tax):Int:=if 10<l.length then 2 else firstAt (taxE l) l.length
def taxK (x:Tax):Prop:=x.key.length≤2^40∧x.on.length≤2^40
def taxOk (l:List Tax):Prop:=l.length≤2^40∧∀x ∈ l,taxK x
theorem y229 (y x:Tax):FSpec Tryz.prog 160 [.agg ((taxF y).map .d),.ptr 1000001 0] [(1000001,taxC x)] (fun v r=>v= .d (.bool (y.key==x.key))∧r= [(1000001,taxC x)]):=by
 refine spAx hT Tryz.func160 Tryz.call160 ?_;conv=>whnf
 refine .ret _ ?_;conv=>whnf
 exact⟨[(1000001,taxC x)],⟨rfl,rfl⟩,rr,trivial⟩
theorem y309a (l:List Tax)(hl:l.length≤2^40)(x:Tax):FSpec Tryz.prog 155 [.d (taxs l),.fn 160 [.ptr 1000001 0]] [(1000001,taxC x)] (fun v r=>v= .d (.int .i64 (ixF (fun i=>(l.getD i tax0).key==x.key) l.length))∧r= [(1000001,taxC x)]):=by
 refine spAx hT Tryz.func155 Tryz.call155 ?_;conv=>whnf
 refine LoopX.rule hT (C:= []) (ι:=Nat) (fun i=>i≤l.length∧∀j,j<i→((l.getD j tax0).key==x.key)=false) (fun i=>mkSt [(0,.d (taxs l)),(1,.fn 160 [.ptr 1000001 0]),(7,.d (.int .i64 l.length)),(8,.d (.int .i64 i))] [(1000001,taxC x)]) (fun i=>l.length - i) 0 ⟨by omega,by omega⟩ (by exact eAx [(1000001,1000001)]) ?_;rintro i ⟨p1,p2⟩;have e1:=tnc i;conv=>whnf
 repeat' ((first|(refine oEx (y229 (l.getD (i:Int).toNat tax0) x) [(1000001,1000001)] ?_)|refine br_intro ?_ ?_<;>intro hb<;>try simp only[brs]at hb|omega|refine sAx ?_|decide|assumption)<;>conv=>whnf)
 · refine .ret _ ?_;conv=>whnf
   refine⟨[(1000001,taxC x)],⟨?_,rfl⟩,rr,trivial⟩;conv=>lhs;whnf
   congr 2
   exact(ixF_hit (by omega) p2 (by simpa using hb)).symm
 · exact⟨i+1,⟨by omega,all_step p2 (by simpa using hb)⟩,by omega,(by exact eAx [(1000001,1000001)])⟩
 · refine .ret _ ?_;conv=>whnf
   refine⟨[(1000001,taxC x)],⟨?_,rfl⟩,rr,trivial⟩;conv=>lhs;whnf
   congr 2
   have:i=l.length:=by omega
   subst this;exact(ixF_none p2).symm
theorem y309ac (l:List Tax)(hl:l.length≤2^40)(x:Tax):FSpec Tryz.prog 111 [.d (taxs l),.fn 160 [.ptr 1000001 0]] [(1000001,taxC x)] (fun v r=>v= .d (.bool (dupT l x))∧r= [(1000001,taxC x)]):=by
 refine spAx hT Tryz.func111 Tryz.call111 ?_;conv=>whnf
 repeat' ((first|(refine oEx (y309a l hl x) [(1000001,1000001)] ?_)|refine br_intro ?_ ?_<;>intro hb<;>try simp only[brs]at hb|omega|refine sAx ?_|decide|assumption)<;>conv=>whnf)
 refine .ret _ ?_;conv=>whnf
 exact⟨[(1000001,taxC x)],⟨rfl,rfl⟩,rr,trivial⟩
theorem y235 (y x:Tax):FSpec Tryz.prog 112 [.agg ((taxF y).map .d),.ptr 1000001 0] [(1000001,taxC x)] (fun v r=>v= .d (.bool (y.key==x.key))∧r= [(1000001,taxC x)]):=by
 refine spAx hT Tryz.func112 Tryz.call112 ?_;conv=>whnf
 refine .ret _ ?_;conv=>whnf
 exact⟨[(1000001,taxC x)],⟨rfl,rfl⟩,rr,trivial⟩
theorem y309b (l:List Tax)(hl:l.length≤2^40)(x:Tax):FSpec Tryz.prog 155 [.d (taxs l),.fn 112 [.ptr 1000001 0]] [(1000001,taxC x)] (fun v r=>v= .d (.int .i64 (ixF (fun i=>(l.getD i tax0).key==x.key) l.length))∧r= [(1000001,taxC x)]):=by
 refine spAx hT Tryz.func155 Tryz.call155 ?_;conv=>whnf
 refine LoopX.rule hT (C:= []) (ι:=Nat) (fun i=>i≤l.length∧∀j,j<i→((l.getD j tax0).key==x.key)=false) (fun i=>mkSt [(0,.d (taxs l)),(1,.fn 112 [.ptr 1000001 0]),(7,.d (.int .i64 l.length)),(8,.d (.int .i64 i))] [(1000001,taxC x)]) (fun i=>l.length - i) 0 ⟨by omega,by omega⟩ (by exact eAx [(1000001,1000001)]) ?_;rintro i ⟨p1,p2⟩;have e1:=tnc i;conv=>whnf
 repeat' ((first|(refine oEx (y235 (l.getD (i:Int).toNat tax0) x) [(1000001,1000001)] ?_)|refine br_intro ?_ ?_<;>intro hb<;>try simp only[brs]at hb|omega|refine sAx ?_|decide|assumption)<;>conv=>whnf)
 · refine .ret _ ?_;conv=>whnf
   refine⟨[(1000001,taxC x)],⟨?_,rfl⟩,rr,trivial⟩;conv=>lhs;whnf
   congr 2
   exact(ixF_hit (by omega) p2 (by simpa using hb)).symm
 · exact⟨i+1,⟨by omega,all_step p2 (by simpa using hb)⟩,by omega,(by exact eAx [(1000001,1000001)])⟩
 · refine .ret _ ?_;conv=>whnf
   refine⟨[(1000001,taxC x)],⟨?_,rfl⟩,rr,trivial⟩;conv=>lhs;whnf
   congr 2
   have:i=l.length:=by omega
   subst this;exact(ixF_none p2).symm
theorem y309bc (l:List Tax)(hl:l.length≤2^40)(x:Tax):FSpec Tryz.prog 111 [.d (taxs l),.fn 112 [.ptr 1000001 0]] [(1000001,taxC x)] (fun v r=>v= .d (.bool (dupT l x))∧r= [(1000001,taxC x)]):=by
 refine spAx hT Tryz.func111 Tryz.call111 ?_;conv=>whnf
 repeat' ((first|(refine oEx (y309b l hl x) [(1000001,1000001)] ?_)|refine br_intro ?_ ?_<;>intro hb<;>try simp only[brs]at hb|omega|refine sAx ?_|decide|assumption)<;>conv=>whnf)
 refine .ret _ ?_;conv=>whnf
 exact⟨[(1000001,taxC x)],⟨rfl,rfl⟩,rr,trivial⟩
theorem le_takeT {l:List Tax}{i:Nat}(h:i≤l.length):SV.le (.d (.ro 4 i fun j=>rowF taxF tax0 l (0+j))) (.d (taxs (l.take i))):=
 SV.le_ro (by rw[List.length_take];omega) (fun j hj=>by
  simp only[Nat.zero_add,rowF]
  rw[List.getD_eq_getElem?_getD,List.getD_eq_getElem?_getD,List.getElem?_take_of_lt hj])
theorem taxE_hit {l:List Tax}{i:Nat}{e:Int}(h0:¬ 10<l.length)(h:i<l.length)(p:∀j,j<i→taxE l j=0)(h1:e≠0)(h2:taxE l i=e):taxsE l=e:=by
 unfold taxsE;rw[if_neg h0];exact firstAt_eq h p h1 h2
theorem y153 (l:List Tax)(hk:taxOk l):FSpec Tryz.prog 122 [.d (taxs l)] [] (fun x r=>x= .d (.int .i64 (taxsE l))∧r= []):=by
 refine spAx hT Tryz.func122 Tryz.call122 ?_;conv=>whnf
 refine br_intro (fun h0=> ?_) (fun h0=> ?_)
 · simp at h0;conv=>whnf
   refine .ret _ ?_;conv=>whnf
   refine⟨[],⟨?_,rfl⟩,trivial⟩;conv=>lhs;whnf
   unfold taxsE;rw[if_pos (by omega)]
 simp at h0;conv=>whnf
 refine LoopX.rule hT (C:= []) (ι:=Nat) (fun i=>i≤l.length∧∀j,j<i→taxE l j=0) (fun i=>mkSt [(0,.d (taxs l)),(10,.d (taxs l)),(11,.d (.int .i64 l.length)),(12,.d (.int .i64 i))] []) (fun i=>l.length - i) 0 ⟨by omega,by omega⟩ (by exact eAx []) ?_;rintro i ⟨p1,p2⟩;have e1:=tnc i;have hK:(i:Int)<l.length→taxK (l.getD (i:Int).toNat tax0):=fun hi=>hk.2 _ (getD_mem (by omega))
 have hD:=y309ac (l.take (i:Int).toNat) (by rw[List.length_take];have:=hk.1;omega) (l.getD (i:Int).toNat tax0);conv=>whnf
 repeat' (first|(refine CallX.exact (s108 _ (hK (by omega)).1) rfl rfl ?_;rotate_right;conv=>whnf)|(refine CallX.exact (s119 _ _ _) rfl rfl ?_;rotate_right;conv=>whnf)|((first|(refine CallX.of hD [(1000001,4)] rfl ⟨le_takeT (by omega),lr,trivial⟩ ⟨rr,trivial⟩ rfl rfl ?_;rintro v rout ⟨rfl,rfl⟩;refine⟨rfl,?_⟩)|refine br_intro ?_ ?_<;>intro hb<;>try simp only[brs]at hb|omega|refine sAx ?_|decide|assumption)<;>conv=>whnf))
 · refine .ret _ ?_;conv=>whnf
   refine⟨[],⟨?_,rfl⟩,trivial⟩;conv=>lhs;whnf
   congr 2
   exact(taxE_hit (by omega) (by omega) p2 (by decide) (by clear p2 hD hk hK;simp only[e1]at*;unfold taxE;grind)).symm
 · refine .ret _ ?_;conv=>whnf
   refine⟨[],⟨?_,rfl⟩,trivial⟩;conv=>lhs;whnf
   congr 2
   exact(taxE_hit (by omega) (by omega) p2 (by decide) (by clear p2 hD hk hK;simp only[e1]at*;unfold taxE;grind)).symm
 · refine .ret _ ?_;conv=>whnf
   refine⟨[],⟨?_,rfl⟩,trivial⟩;conv=>lhs;whnf
   congr 2
   exact(taxE_hit (by omega) (by omega) p2 (by decide) (by clear p2 hD hk hK;simp only[e1]at*;unfold taxE;grind)).symm
 · have hi:i<l.length:=by omega
   have hT1:taxE l i=txOns (l.getD (i:Int).toNat tax0).on:=by clear p2 hD hk hK;simp only[e1]at*;unfold taxE;grind
   obtain⟨X,hX⟩:∃X,X=l.getD (i:Int).toNat tax0:=⟨_,rfl⟩;have hXl:X.on.length≤2^40:=by rw[hX];exact(hK (by omega)).2
   rw[←hX]at hT1;refine LoopX.rule hT (C:= []) (ι:=Nat) (fun k=>k≤X.on.length∧∀j,j<k→txOn X.on j=0) (fun k=>mkSt [(0,.d (taxs l)),(4,.ptr 4 0),(10,.d (taxs l)),(11,.d (.int .i64 l.length)),(12,.d (.int .i64 i)),(34,.d (ints X.on)),(35,.d (.int .i64 X.on.length)),(36,.d (.int .i64 k))] [(4,taxC X)]) (fun k=>X.on.length - k) 0 ⟨by omega,by omega⟩ (by subst hX;exact(by exact eAx [(4,4)])) ?_;rintro k ⟨q1,q2⟩;have e2:(k:Int).toNat=k:=Int.toNat_natCast k;have hbad:∀e:Int,k<X.on.length→e≠0→txOn X.on k=e→taxsE l=e:=fun e h h1 h2=>taxE_hit (by omega) hi p2 h1 (by rw[hT1];exact firstAt_eq h q2 h1 h2)
   clear hD hK hk;conv=>whnf
   repeat' (first|(refine CallX.exact (s119 _ _ _) rfl rfl ?_;rotate_right;conv=>whnf)|((first|refine br_intro ?_ ?_<;>intro hb<;>try simp only[brs]at hb|omega|refine sAx ?_|decide|assumption)<;>conv=>whnf))
   all_goals first
    |(refine⟨k+1,⟨by omega,first_step q2 (by clear p2 q2 hbad hT1 hX;simp only[e2,toNat_pred]at*;unfold txOn;grind)⟩,by omega,(by exact eAx [(4,4)])⟩)
    | (refine .ret _ ?_
       conv=>whnf
       refine⟨[],⟨?_,rfl⟩,trivial⟩;conv=>lhs;whnf
       congr 2
       exact(hbad _ (by omega) (by decide) (by clear p2 q2 hbad hT1 hX;simp only[e2,toNat_pred]at*;unfold txOn;grind)).symm)
    | (refine⟨i+1,⟨by omega,first_step p2 ?_⟩,by omega,(by exact eAx [])⟩
       rw[hT1];have:k=X.on.length:=by omega
       subst this
       exact firstAt_zero q2)
 · refine .ret _ ?_;conv=>whnf
   refine⟨[],⟨?_,rfl⟩,trivial⟩;conv=>lhs;whnf
   congr 2
   have:i=l.length:=by omega
   subst this;unfold taxsE;rw[if_neg (by omega),firstAt_zero p2]
theorem y165 (l:List Tax)(hk:taxOk l):FSpec Tryz.prog 79 [.d (taxs l)] [] (fun x r=>x= .d (.int .i64 (taxsE l))∧r= []):=by
 refine spAx hT Tryz.func79 Tryz.call79 ?_;conv=>whnf
 refine br_intro (fun h0=> ?_) (fun h0=> ?_)
 · simp at h0;conv=>whnf
   refine .ret _ ?_;conv=>whnf
   refine⟨[],⟨?_,rfl⟩,trivial⟩;conv=>lhs;whnf
   unfold taxsE;rw[if_pos (by omega)]
 simp at h0;conv=>whnf
 refine LoopX.rule hT (C:= []) (ι:=Nat) (fun i=>i≤l.length∧∀j,j<i→taxE l j=0) (fun i=>mkSt [(0,.d (taxs l)),(10,.d (taxs l)),(11,.d (.int .i64 l.length)),(12,.d (.int .i64 i))] []) (fun i=>l.length - i) 0 ⟨by omega,by omega⟩ (by exact eAx []) ?_;rintro i ⟨p1,p2⟩;have e1:=tnc i;have hK:(i:Int)<l.length→taxK (l.getD (i:Int).toNat tax0):=fun hi=>hk.2 _ (getD_mem (by omega))
 have hD:=y309bc (l.take (i:Int).toNat) (by rw[List.length_take];have:=hk.1;omega) (l.getD (i:Int).toNat tax0);conv=>whnf
 repeat' (first|(refine CallX.exact (s21 _ (hK (by omega)).1) rfl rfl ?_;rotate_right;conv=>whnf)|(refine CallX.exact (s110 _ _ _) rfl rfl ?_;rotate_right;conv=>whnf)|((first|(refine CallX.of hD [(1000001,4)] rfl ⟨le_takeT (by omega),lr,trivial⟩ ⟨rr,trivial⟩ rfl rfl ?_;rintro v rout ⟨rfl,rfl⟩;refine⟨rfl,?_⟩)|refine br_intro ?_ ?_<;>intro hb<;>try simp only[brs]at hb|omega|refine sAx ?_|decide|assumption)<;>conv=>whnf))
 · refine .ret _ ?_;conv=>whnf
   refine⟨[],⟨?_,rfl⟩,trivial⟩;conv=>lhs;whnf
   congr 2
   exact(taxE_hit (by omega) (by omega) p2 (by decide) (by clear p2 hD hk hK;simp only[e1]at*;unfold taxE;grind)).symm
 · refine .ret _ ?_;conv=>whnf
   refine⟨[],⟨?_,rfl⟩,trivial⟩;conv=>lhs;whnf
   congr 2
   exact(taxE_hit (by omega) (by omega) p2 (by decide) (by clear p2 hD hk hK;simp only[e1]at*;unfold taxE;grind)).symm
 · refine .ret _ ?_;conv=>whnf
   refine⟨[],⟨?_,rfl⟩,trivial⟩;conv=>lhs;whnf
   congr 2
   exact(taxE_hit (by omega) (by omega) p2 (by decide) (by clear p2 hD hk hK;simp only[e1]at*;unfold taxE;grind)).symm
 · have hi:i<l.length:=by omega
   have hT1:taxE l i=txOns (l.getD (i:Int).toNat tax0).on:=by clear p2 hD hk hK;simp only[e1]at*;unfold taxE;grind
   obtain⟨X,hX⟩:∃X,X=l.getD (i:Int).toNat tax0:=⟨_,rfl⟩;have hXl:X.on.length≤2^40:=by rw[hX];exact(hK (by omega)).2
   rw[←hX]at hT1;refine LoopX.rule hT (C:= []) (ι:=Nat) (fun k=>k≤X.on.length∧∀j,j<k→txOn X.on j=0) (fun k=>mkSt [(0,.d (taxs l)),(4,.ptr 4 0),(10,.d (taxs l)),(11,.d (.int .i64 l.length)),(12,.d (.int .i64 i)),(34,.d (ints X.on)),(35,.d (.int .i64 X.on.length)),(36,.d (.int .i64 k))] [(4,taxC X)]) (fun k=>X.on.length - k) 0 ⟨by omega,by omega⟩ (by subst hX;exact(by exact eAx [(4,4)])) ?_;rintro k ⟨q1,q2⟩;have e2:(k:Int).toNat=k:=Int.toNat_natCast k;have hbad:∀e:Int,k<X.on.length→e≠0→txOn X.on k=e→taxsE l=e:=fun e h h1 h2=>taxE_hit (by omega) hi p2 h1 (by rw[hT1];exact firstAt_eq h q2 h1 h2)
   clear hD hK hk;conv=>whnf
   repeat' (first|(refine CallX.exact (s110 _ _ _) rfl rfl ?_;rotate_right;conv=>whnf)|((first|refine br_intro ?_ ?_<;>intro hb<;>try simp only[brs]at hb|omega|refine sAx ?_|decide|assumption)<;>conv=>whnf))
   all_goals first
    |(refine⟨k+1,⟨by omega,first_step q2 (by clear p2 q2 hbad hT1 hX;simp only[e2,toNat_pred]at*;unfold txOn;grind)⟩,by omega,(by exact eAx [(4,4)])⟩)
    | (refine .ret _ ?_
       conv=>whnf
       refine⟨[],⟨?_,rfl⟩,trivial⟩;conv=>lhs;whnf
       congr 2
       exact(hbad _ (by omega) (by decide) (by clear p2 q2 hbad hT1 hX;simp only[e2,toNat_pred]at*;unfold txOn;grind)).symm)
    | (refine⟨i+1,⟨by omega,first_step p2 ?_⟩,by omega,(by exact eAx [])⟩
       rw[hT1];have:k=X.on.length:=by omega
       subst this
       exact firstAt_zero q2)
 · refine .ret _ ?_;conv=>whnf
   refine⟨[],⟨?_,rfl⟩,trivial⟩;conv=>lhs;whnf
   congr 2
   have:i=l.length:=by omega
   subst this;unfold taxsE;rw[if_neg (by omega),firstAt_zero p2]
def oATaD89:TL:= [(1,[(0,[]),(1,[]),(3,[0,1]),(4,[0,1]),(6,[0,1,3,4]),(7,[0,1,3,4]),(9,[0,1,3,4,6,7]),(10,[0,1,3,4,6,7]),(12,[0,1,3,4,6,7,9,10]),(13,[0,1,3,4,6,7,9,10]),(2,[3,4,6,7,9,10,12,13]),(5,[6,7,9,10,12,13]),(8,[9,10,12,13]),(11,[12,13]),(14,[]),(15,[]),(16,[]),(17,[])])]
def oATaD37:TL:= [(1,[(0,[]),(1,[]),(3,[0,1]),(4,[0,1]),(6,[0,1,3,4]),(7,[0,1,3,4]),(9,[0,1,3,4,6,7]),(10,[0,1,3,4,6,7]),(12,[0,1,3,4,6,7,9,10]),(13,[0,1,3,4,6,7,9,10]),(17,[0,1,3,4,6,7,9,10,12,13]),(2,[3,4,6,7,9,10,12,13,17]),(5,[6,7,9,10,12,13,17]),(8,[9,10,12,13,17]),(11,[12,13,17]),(14,[17]),(15,[17]),(16,[17])])]
def oATaD50:TL:= [(1,[(0,[]),(1,[]),(3,[0,1]),(4,[0,1]),(6,[0,1,3,4]),(7,[0,1,3,4]),(2,[3,4,6,7]),(5,[6,7]),(8,[]),(9,[]),(10,[]),(11,[])])]
structure Tar where
 rat:List Rat
 ext:List Ext
 fe:List Fe
 cod:List Cod
 tax:List Tax
def tarL (t:Tar):List SV:= [.d (rats t.rat),.d (exts t.ext),.d (fes t.fe),.d (cods t.cod),.d (taxs t.tax)]
def tarOk (t:Tar):Prop:=ratOk t.rat∧extOk t.ext∧feOk t.fe∧codOk t.cod∧taxOk t.tax
def tarE (t:Tar):Int:=firstE [ratsE t.rat,extsE t.ext,fesE t.fe,codsE t.cod,taxsE t.tax]
structure Dea where
 free:Int
 km:Int
 eig:Int
 grc:Int
 hr:Int
 dy:Int
 dep:Int
def deaF (d:Dea):List DV:= [.int .i64 d.free,.int .i64 d.km,.int .i64 d.eig,.int .i64 d.grc,.int .i64 d.hr,.int .i64 d.dy,.int .i64 d.dep]
def deaE (d:Dea):Int:=if(0≤d.free∧d.free≤10000)∧(0≤d.km∧d.km≤100000)∧(0≤d.eig∧d.eig≤100000)∧(0≤d.grc∧d.grc≤1440)∧(0≤d.hr∧d.hr≤1000000)∧(0≤d.dy∧d.dy≤1000000)∧(0≤d.dep∧d.dep≤1000000)then 0 else 1
theorem firstE_hit:∀ {R:List Int} {i:Nat},i<R.length→(∀j,j<i→R.getD j 0=0)→R.getD i 0≠0→firstE R=R.getD i 0
 | [],i,h,_,_=>by simp at h
 |x::R,0,_,_,h=>by simp only[List.getD_cons_zero]at h ⊢;rw[firstE,if_neg h]
 | x::R,i+1,h,p,q=>by
   have h0:x=0:=p 0 (by omega);simp only[List.getD_cons_succ]at q ⊢;rw[firstE,if_pos h0];exact firstE_hit (by simpa using h) (fun j hj=>by have:=p (j+1) (by omega);simpa using this) q
theorem firstE_none:∀ {R:List Int},(∀j,j<R.length→R.getD j 0=0)→firstE R=0
 | [],_=>rfl
 | x::R,p=>by
   have h0:x=0:=p 0 (by simp);rw[firstE,if_pos h0];exact firstE_none (fun j hj=>by have:=p (j+1) (by simpa using hj);simpa using this)
theorem y81 (t:Tar)(hk:tarOk t):FSpec Tryz.prog 89 [.agg (tarL t)] [] (fun x r=>x= .d (.int .i64 (tarE t))∧r= []):=by
 refine spAx hT Tryz.func89 Tryz.call89 ?_;conv=>whnf
 repeat' (first|(refine CallX.exact (y149 _ hk.1) rfl rfl ?_;rotate_right;conv=>whnf)|(refine CallX.exact (y150 _ hk.2.1) rfl rfl ?_;rotate_right;conv=>whnf)|(refine CallX.exact (y151 _ hk.2.2.1) rfl rfl ?_;rotate_right;conv=>whnf)|(refine CallX.exact (y152 _ hk.2.2.2.1) rfl rfl ?_;rotate_right;conv=>whnf)|(refine CallX.exact (y153 _ hk.2.2.2.2) rfl rfl ?_;rotate_right;conv=>whnf)|((first|refine CallX.pure (s105 [_,_,_,_,_] (by simp)) ⟨SV.le_lit (by rfl) (by rfl),trivial⟩ rfl ?_|refine br_intro ?_ ?_<;>intro hb<;>try simp only[brs]at hb|refine tAx hT oATaD89 ?_|omega|refine sAx ?_|decide|assumption)<;>conv=>whnf))
 refine .ret _ ?_;conv=>whnf
 refine⟨[],⟨?_,rfl⟩,trivial⟩;conv=>lhs;whnf
 rfl
theorem y84 (t:Tar)(hk:tarOk t):FSpec Tryz.prog 37 [.agg (tarL t)] [] (fun x r=>x= .d (.int .i64 (tarE t))∧r= []):=by
 have h1:=y161 _ hk.1;have h2:=y162 _ hk.2.1;have h3:=y163 _ hk.2.2.1;have h4:=y164 _ hk.2.2.2.1;have h5:=y165 _ hk.2.2.2.2;unfold tarE;generalize ratsE t.rat=r1 at h1 ⊢;generalize extsE t.ext=r2 at h2 ⊢;generalize fesE t.fe=r3 at h3 ⊢;generalize codsE t.cod=r4 at h4 ⊢;generalize taxsE t.tax=r5 at h5 ⊢;refine spAx hT Tryz.func37 Tryz.call37 ?_;conv=>whnf
 repeat' (first|(refine CallX.exact (h1) rfl rfl ?_;rotate_right;conv=>whnf)|(refine CallX.exact (h2) rfl rfl ?_;rotate_right;conv=>whnf)|(refine CallX.exact (h3) rfl rfl ?_;rotate_right;conv=>whnf)|(refine CallX.exact (h4) rfl rfl ?_;rotate_right;conv=>whnf)|(refine CallX.exact (h5) rfl rfl ?_;rotate_right;conv=>whnf)|((first|refine br_intro ?_ ?_<;>intro hb<;>try simp only[brs]at hb|refine tAx hT oATaD37 ?_|omega|refine sAx ?_|decide|assumption)<;>conv=>whnf))
 obtain⟨R,hR⟩:∃R:List Int,R= [r1,r2,r3,r4,r5]:=⟨_,rfl⟩;have hRl:R.length=5:=by rw[hR];rfl
 rw[←hR];refine LoopX.rule hT (C:= []) (ι:=Nat) (fun i=>i≤5∧∀j,j<i→R.getD j 0=0) (fun i=>mkSt [(20,.d (ints R)),(21,.d (.int .i64 5)),(22,.d (.int .i64 i))] []) (fun i=>5 - i) 0 ⟨by omega,by omega⟩ (by subst hR;exact(by(refine Entails.mk' [] rfl rfl ?_ ?_<;>repeat' (first|exact True.intro|exact lr|exact rr|(exact SV.le_lit rfl rfl)|exact SV.le_int (by omega)|exact SV.le_any _|refine And.intro ?_ ?_));done)) ?_;rintro i ⟨p1,p2⟩;have e1:=tnc i;conv=>whnf
 repeat' ((first|refine br_intro ?_ ?_<;>intro hb<;>try simp only[brs]at hb|refine tAx hT oATaD37 ?_|omega|refine sAx ?_|decide|assumption)<;>conv=>whnf)
 · refine .ret _ ?_;conv=>whnf
   refine⟨[],⟨?_,rfl⟩,trivial⟩;conv=>lhs;whnf
   congr 2
   exact(firstE_hit (by omega) p2 hb).symm
 · exact⟨i+1,⟨by omega,all_step p2 hb⟩,by omega,(by exact eAx [])⟩
 · refine .ret _ ?_;conv=>whnf
   refine⟨[],⟨?_,rfl⟩,trivial⟩;conv=>lhs;whnf
   congr 2
   exact(firstE_none (fun j hj=>p2 j (by omega))).symm
theorem y82 (d:Dea):FSpec Tryz.prog 90 [.agg ((deaF d).map .d)] [] (fun x r=>x= .d (.int .i64 (deaE d))∧r= []):=by
 refine spAx hT Tryz.func90 Tryz.call90 ?_;conv=>whnf
 repeat' (first|(refine CallX.exact (s119 _ _ _) rfl rfl ?_;rotate_right;conv=>whnf)|(refine CallX.exact (s107 _ _) rfl rfl ?_;rotate_right;conv=>whnf)|((first|refine br_intro ?_ ?_<;>intro hb<;>try simp only[brs]at hb|omega|refine sAx ?_|decide|assumption)<;>conv=>whnf))
 all_goals
  refine .ret _ ?_;conv=>whnf
  refine⟨[],⟨?_,rfl⟩,trivial⟩;conv=>lhs;whnf
  congr 2
  unfold deaE;grind
theorem y85 (d:Dea):FSpec Tryz.prog 40 [.agg ((deaF d).map .d)] [] (fun x r=>x= .d (.int .i64 (deaE d))∧r= []):=by
 refine spAx hT Tryz.func40 Tryz.call40 ?_;conv=>whnf
 repeat' (first|(refine CallX.exact (s110 _ _ _) rfl rfl ?_;rotate_right;conv=>whnf)|((first|refine br_intro ?_ ?_<;>intro hb<;>try simp only[brs]at hb|omega|refine sAx ?_|decide|assumption)<;>conv=>whnf))
 all_goals
  refine .ret _ ?_;conv=>whnf
  refine⟨[],⟨?_,rfl⟩,trivial⟩;conv=>lhs;whnf
  congr 2
  unfold deaE;grind
structure Hou where
 flt:Flt
 tar:Tar
 dea:Dea
def fltL (f:Flt):List SV:= [.d (stas f.sta),.d (clss f.cls),.d (vehs f.veh),.d (plts f.plt)]
def hou (h:Hou):SV:=.agg (fltL h.flt++tarL h.tar++(deaF h.dea).map .d)
def houOk (h:Hou):Prop:=fltOk h.flt∧tarOk h.tar
def houE (h:Hou):Int:=firstE [fltE h.flt,tarE h.tar,deaE h.dea]
theorem y20h (h:Hou)(hk:houOk h):FSpec Tryz.prog 50 [hou h] [] (fun x r=>x= .d (.int .i64 (houE h))∧r= []):=by
 refine spAx hT Tryz.func50 Tryz.call50 ?_;conv=>whnf
 repeat' (first|(refine CallX.exact (z114 h.flt hk.1) rfl rfl ?_;rotate_right;conv=>whnf)|(refine CallX.exact (y81 h.tar hk.2) rfl rfl ?_;rotate_right;conv=>whnf)|(refine CallX.exact (y82 h.dea) rfl rfl ?_;rotate_right;conv=>whnf)|((first|refine CallX.pure (s105 [_,_,_] (by simp)) ⟨SV.le_lit (by rfl) (by rfl),trivial⟩ rfl ?_|refine br_intro ?_ ?_<;>intro hb<;>try simp only[brs]at hb|refine tAx hT oATaD50 ?_|omega|refine sAx ?_|decide|assumption)<;>conv=>whnf))
 refine .ret _ ?_;conv=>whnf
 refine⟨[],⟨?_,rfl⟩,trivial⟩;conv=>lhs;whnf
 rfl
end Go.Proofs.YtghhghijalcdfaaGreatDoor
namespace Go.Proofs
open Go.Shelf
end Go.Proofs
set_option maxRecDepth 20000
namespace Go.Proofs.YtghhghijalcdfaaGreatDoor
open Go Go.Eng Go.RowKit
structure Ent where
 tm:Int
 desk:List UInt8
 no:Int
 words:List UInt8
def enF:Ent→List DV:=fun x=> [.int .i64 x.tm,.str x.desk,.int .i64 x.no,.str x.words]
def en0:Ent:=⟨0,[],0,[]⟩
abbrev ents (l:List Ent):DV:=seqD 4 enF en0 l
def MovedK (n:Nat)(L:Nat→Int)(a:Int)(c:Int)(r:List (Nat×Res)):Prop:=∃b,a≤b∧b≤a+c∧r= [(1000000,strm n L b),(1000009,KX)]
end Go.Proofs.YtghhghijalcdfaaGreatDoor
namespace Go.Proofs
open Go.Shelf
def Tryz.lays106_ren:Go.Shelf.Ren:=⟨fun|106=>84|213=>116|265=>158|n=>n,fun|9=>9|3=>3|n=>n,fun|n=>n⟩
theorem Tryz.lays106:Go.Proofs.Lays.n106 Tryz.prog Tryz.lays106_ren:={
 mixed:=by kernel_rfl
 f106:=Tryz.func84.trans (congrArg some (by kernel_rfl))
 f213:=Tryz.func116.trans (congrArg some (by kernel_rfl))
 f265:=Tryz.func158.trans (congrArg some (by kernel_rfl))
 t3:=Tryz.underlying3
 a3:=Tryz.isAgg3
 z3:=Tryz.sizeOf3
 v3:=Tryz.zeroValue3
 t9:=Tryz.underlying9
 a9:=Tryz.isAgg9
 z9:=Tryz.sizeOf9
 v9:=Tryz.zeroValue9}
end Go.Proofs
set_option maxRecDepth 20000
namespace Go.Proofs.YtghhghijalcdfaaGreatDoor
open Go Go.Eng Go.RowKit
theorem cmpB_S:∀ (a b:List UInt8),Lib.compareBytes a b=cmpS a b:=by
 intro a
 induction a with
 |nil=>intro b;cases b<;>simp[Lib.compareBytes,cmpS,Op.bytesLess]
 | cons x a ih=>
   intro b
   cases b with
   |nil=>simp[Lib.compareBytes,cmpS,Op.bytesLess]
   | cons y b=>
     have:=ih b;unfold cmpS at this ⊢;simp only[Lib.compareBytes,Op.bytesLess];grind
theorem s190 (a b:List UInt8):FSpec Tryz.prog 84 [.d (.str a),.d (.str b)] [] (fun x r=>x= .d (.int .i64 (cmpS a b))∧r= []):=by
 refine FSpec.ofBelow Tryz.call84 (fun G β w vs _ hl hd=> ?_)
 match vs,hl with
 | [u,v],_=>
   have hu:=hd 0 _ _ rfl rfl;have hv:=hd 1 _ _ rfl rfl
   cases hu with|d _ _ hu=>cases hu with|str _=>
   cases hv with|d _ _ hv=>cases hv with|str _=>
   refine⟨.int .i64 (Lib.compareBytes a b),fun G β=> ?_,(Go.Proofs.Any.strings_Compare Go.Proofs.Tryz.lays106 ⟨a.toArray⟩ ⟨b.toArray⟩ w).mono ?_⟩
   · rw[←cmpB_S];exact .d _ _ (.int _ _)
   · rintro e w' ⟨he,rfl⟩;exact⟨he,Below.refl _ _⟩
end Go.Proofs.YtghhghijalcdfaaGreatDoor
namespace Go.Proofs
open Go.Shelf
end Go.Proofs
set_option maxRecDepth 20000
namespace Go.Proofs.YtghhghijalcdfaaGreatDoor
open Go Go.Eng Go.RowKit
end Go.Proofs.YtghhghijalcdfaaGreatDoor
set_option maxRecDepth 20000
namespace Go.Proofs.YtghhghijalcdfaaGreatDoor
open Go Go.Eng Go.RowKit
end Go.Proofs.YtghhghijalcdfaaGreatDoor
set_option maxRecDepth 20000
namespace Go.Proofs.YtghhghijalcdfaaGreatDoor
open Go Go.Eng Go.RowKit
end Go.Proofs.YtghhghijalcdfaaGreatDoor
