/- EntriesFollow is proved: for every input the law returns true, and its argument reads afterwards as it read before. Conditions: those of the given row alone. -/
import Derived.Test.YtafhoijegjmdcaaGreatDoorLzConOne
import Derived.Test.YtafhoijegjmdcaaGreatDoorLzEngTwo
import Derived.Shelf.Spec.SlicesGrow
import Derived.Shelf.Small.Strs
import Derived.Test.YtafhoijegjmdcaaGreatDoorProg
set_option linter.unusedVariables false
set_option linter.unusedSimpArgs false
set_option maxHeartbeats 16000000
set_option maxRecDepth 20000
namespace Go.Proofs.YtafhoijegjmdcaaGreatDoor
open Go Go.Eng
structure gd where
 key:List UInt8
 up:List UInt8
structure pV where
 key:List UInt8
 cls:List UInt8
structure lB where
 key:List UInt8
 h:Nat→Int
def ub:gd→List DV:=fun c=> [.str c.key,.str c.up]
def cD:gd:=⟨[],[]⟩
abbrev dI (l:List gd):DV:=d6 2 ub cD l
def uM:pV→List DV:=fun c=> [.str c.key,.str c.cls]
def dg:pV:=⟨[],[]⟩
abbrev mg (l:List pV):DV:=d6 2 uM dg l
def ig:iE→List DV:=fun p=> [.int .i64 p.frm,.str p.veh,.str p.plt]
def bD:iE:=⟨0,[],[]⟩
abbrev vl (l:List iE):DV:=d6 3 ig bD l
def pG:lB→List DV:=fun s=> [.str s.key,.int .i64 (s.h 0),.int .i64 (s.h 1),.int .i64 (s.h 2),.int .i64 (s.h 3),.int .i64 (s.h 4),.int .i64 (s.h 5),.int .i64 (s.h 6),.int .i64 (s.h 7),.int .i64 (s.h 8),.int .i64 (s.h 9),.int .i64 (s.h 10),.int .i64 (s.h 11),.int .i64 (s.h 12),.int .i64 (s.h 13)]
def fZ:lB:=⟨[],fun _=>0⟩
abbrev iT (l:List lB):DV:=d6 15 pG fZ l
def zi (c:gd):Prop:=c.key.length≤8∧c.up.length≤8
def AZ (c:pV):Prop:=c.key.length≤8∧c.cls.length≤8
def v7 (c:iE):Prop:=(-2^40≤c.frm∧c.frm≤2^40)∧c.veh.length≤8∧c.plt.length≤16
def BZ (c:lB):Prop:=c.key.length≤8
def KU:List gd:= [⟨[98,105,103],[]⟩,⟨[109,97,120,105],[]⟩,⟨[109,105,100,105],[]⟩,⟨[109,105,110,105],[]⟩]
theorem sV {l:List (List UInt8)}{u:List UInt8}(h:u ∈ l)(q:l.all (fun x=>decide (x.length≤16))=true):u.length≤16:=by
 have:=List.all_eq_true.1 q u h;simpa using this
theorem Cs (n:Nat)(L:Nat→Int)(hL:oW n L)(a:Int)(h0:0≤a)(ha:a≤2^38):
 ae Tryz.prog 50 [.ptr 1000000 0] [(1000000,bd n L a)] (fun y r=>∃l:List gd,∃b,(l.length=4∧∀x ∈ l,zi x)∧(a≤b∧b≤a+8)∧y= .buf 9∧r= [(9,aD 180 2 ub cD l),(1000000,bd n L b)]):=by
 refine g9 hT (C:= [9]) Tryz.func50 rfl Tryz.call50 rfl rfl rfl ?_;conv=>whnf
 refine af hT (C:= []) (ι:=Int×List gd×Nat) (fun(b,l,i)=>(a≤b∧b≤a+2*i)∧i≤4∧l.length=4∧∀x ∈ l,zi x)
  (fun(b,l,i)=>aJ [(0,.ptr 1000000 0),(3,.buf 9),(11,.d (.int .i64 4)),(12,.d (.int .i64 i))] [(1000000,bd n L b),(9,aD 180 2 ub cD l)])
  (fun(_,_,i)=>4 - i) (a,KU,0) ⟨⟨by simp,by simp⟩,by simp,rfl,by intro x hx;simp only[KU,List.mem_cons,List.not_mem_nil,or_false]at hx;rcases hx with rfl|rfl|rfl|rfl<;>exact⟨by decide,by decide⟩⟩ ?_ ?_
 · exact ac [(1000000,1000000),(9,9)] rfl rfl ⟨lr,lr,lr,lr,trivial⟩ ⟨rr,jU rfl rfl,trivial⟩
 rintro⟨b,l,i⟩ ⟨⟨p1,p2⟩,p3,p4,p5⟩;have p1:a≤b:=p1;have p2:b≤a+2*i:=p2;have p3:i≤4:=p3;have p4:l.length=4:=p4;have e1:=ek i;conv=>whnf
 repeat' (first|(refine dp (pn n L hL _ ?_ ?_ 3 ?_) [(1000000,1000000)] ?_;rotate_right;rintro x rout ⟨⟨w,rfl⟩,⟨c,c1,c2,rfl⟩⟩;refine⟨rfl,?_⟩;conv=>whnf)|(refine dp (wA n L hL _ ?_ ?_ _ ?_) [(1000000,1000000)] ?_;rotate_right;rintro x rout ⟨⟨j,hj1,hj2,hj3,rfl⟩,⟨c,c1,c2,rfl⟩⟩;refine⟨rfl,?_⟩;conv=>whnf)|((first|refine aa ?_ ?_<;>intro hb<;>try simp only[am]at hb|omega|refine ao ?_|decide|assumption)<;>conv=>whnf))
 · have p5:∀x ∈ l,zi x:=p5;have hu:zi (l.getD j.toNat cD):=p5 _ (al (by omega))
   refine⟨(c+1,kO l i cD (fun y=>{y with up:=(l.getD j.toNat cD).key}),i+1),⟨⟨by omega,by show _≤a+2*((i+1:Nat):Int);omega⟩,by omega,by simpa using p4,(fd (g:=fun y:gd=>{y with up:=(l.getD j.toNat cD).key}) (k:=4) ⟨by omega,p5⟩ (fun y hy=>⟨hy.1,hu.1⟩)).2⟩,by show 4 - (i+1)<4 - i;omega,
    ac [(1000000,1000000),(9,9)] rfl rfl ⟨lr,lr,lr,lr,trivial⟩ ⟨rr,?_,trivial⟩⟩
   exact yo (fun y:gd=>{y with up:=(l.getD j.toNat cD).key}) (fun _=>rfl)
 · exact⟨(c,l,i+1),⟨⟨by omega,by show _≤a+2*((i+1:Nat):Int);omega⟩,by omega,p4,p5⟩,by show 4 - (i+1)<4 - i;omega,(by exact a7 [(1000000,1000000),(9,9)])⟩
 · exact⟨(b,l,i+1),⟨⟨p1,by show _≤a+2*((i+1:Nat):Int);omega⟩,by omega,p4,p5⟩,by show 4 - (i+1)<4 - i;omega,(by exact a7 [(1000000,1000000),(9,9)])⟩
 · refine .ret _ ?_;conv=>whnf
   exact⟨[(9,aD 180 2 ub cD l),(1000000,bd n L _)],⟨l,b,⟨p4,p5⟩,⟨by omega,by omega⟩,rfl,rfl⟩,rr,rr,trivial⟩
def G5 (l:List gd):Prop:=l.length≤4∧∀x ∈ l,zi x
theorem Je {a b:Hf}:a=b↔a.a=b.a∧a.b=b.b∧a.many=b.many:=by cases a;cases b;simp
instance:DecidableEq Hf:=fun _ _=>decidable_of_iff _ Je.symm
theorem fu:∀ {a b c:List UInt8},Op.bytesLess a b=true→Op.bytesLess b c=true→Op.bytesLess a c=true:=by
 intro a
 induction a with
 |nil=>intro b c h1 h2;cases b<;>cases c<;>simp_all [Op.bytesLess]
 | cons x a ih=>
   intro b c h1 h2
   cases b with
   |nil=>simp[Op.bytesLess]at h1
   | cons y b=>
     cases c with
     |nil=>simp[Op.bytesLess]at h2
     | cons z c=>
       simp only[Op.bytesLess]at h1 h2 ⊢;grind [UInt8.lt_trans]
theorem eA:∀ (a:List UInt8),Op.bytesLess a a=false:=by
 intro a
 induction a with
 |nil=>rfl
 |cons x a ih=>simp[Op.bytesLess,ih]
def Ns (l:List EU)(a b:List UInt8)(i:Nat):Bool:=(l.getD i MJ).a==a&&(l.getD i MJ).b==b
def Hi (l:List EU)(a b:List UInt8):Int:=gT (Ns l a b) l.length
theorem jQ {p:Nat→Bool}{n k:Nat}(hk:k<n)(h:p k=true):0≤gT p n:=by
 have hb:=eB (p:=p) (n:=n);rcases Int.lt_or_le (gT p n) 0 with q|q
 · exfalso
   have hn :∀m,gT p m<0→∀j,j<m→p j=false:=by
    intro m
    induction m with
    |zero=>intro _ j hj;omega
    | succ m ih=>
      intro hm j hj;rw[gT]at hm;split at hm
      · rename_i hz
        by_cases hjm:j=m
        · subst hjm;split at hm
          · omega
          · rename_i hf;simpa using hf
        · exact ih (by omega) j (by omega)
      · rename_i hz;have:=(eB (p:=p) (n:=m)).1;omega
   rw[hn n q k hk]at h;cases h
 · exact q
def Hn (l:List EU)(a b:List UInt8):Option EU:=if 0≤Hi l a b then some (l.getD (Hi l a b).toNat MJ)else none
def Hl (l:List EU)(a b:List UInt8):Option Int:=if a=b then some 0 else(Hn l a b).map (·.ride)
def Kb (l:List EU)(a:List UInt8)(m:Hf):Option Int:=(Hl l a m.a).bind fun n=>(Hn l m.a m.b).map fun r=>n+r.car
abbrev MH:=Option (List UInt8×Int)
def J8 (l:List EU)(m:List Hf)(st:MH)(k:Int):MH:=st.bind fun p=>(Kb l p.1 (m.getD k.toNat Oy)).map fun n=>((m.getD k.toNat Oy).b,p.2+n)
def Lp (l:List EU)(start:List UInt8)(m:List Hf)(o:List Int):MH:=o.foldl (J8 l m) (some (start,0))
def IU (l:List EU)(start:List UInt8)(m:List Hf)(o:List Int):Option Int:=(Lp l start m o).bind fun p=>(Hl l p.1 start).map fun n=>p.2+n
abbrev Np:=List Int×Int
def rs (l:List EU)(start:List UInt8)(m:List Hf):Nat→List Int→Np→Np
 | 0,o,st=>match IU l start m o with
   |some n=>if 0≤st.2∧st.2≤n then st else(o,n)
   |none=>st
 |d+1,o,st=>(List.range m.length).foldl (fun(st:Np) (k:Nat)=>if o.contains (k:Int)then st else rs l start m d (o++ [(k:Int)]) st) st
def jp (key:List UInt8):bh:=.cells 9 [.d (.str key)]
def fD (l:List gd)(key:List UInt8):Int:=gT (fun i=>(l.getD i cD).key==key) l.length
def m5 (l:List pV)(key:List UInt8):Int:=gT (fun i=>(l.getD i dg).key==key) l.length
theorem MZ (x:gd)(key:List UInt8):ae Tryz.prog 225 [.agg ((ub x).map .d),.ptr 1000001 0] [(1000001,jp key)] (fun y r=>y= .d (.bool (x.key==key))∧r= [(1000001,jp key)]):=by
 refine aj hT Tryz.func225 Tryz.call225 ?_;conv=>whnf
 refine .ret _ ?_;conv=>whnf
 exact⟨[(1000001,jp key)],⟨rfl,rfl⟩,rr,trivial⟩
theorem Ky (l:List gd)(hl:l.length≤2^40)(key:List UInt8):ae Tryz.prog 130 [.d (dI l),.fn 225 [.ptr 1000001 0]] [(1000001,jp key)] (fun x r=>x= .d (.int .i64 (fD l key))∧r= [(1000001,jp key)]):=by
 refine aj hT Tryz.func130 Tryz.call130 ?_;conv=>whnf
 refine af hT (C:= []) (ι:=Nat) (fun i=>i≤l.length∧∀j,j<i→((l.getD j cD).key==key)=false) (fun i=>aJ [(0,.d (dI l)),(1,.fn 225 [.ptr 1000001 0]),(7,.d (.int .i64 l.length)),(8,.d (.int .i64 i))] [(1000001,jp key)]) (fun i=>l.length - i) 0 ⟨by omega,by omega⟩ (by exact a7 [(1000001,1000001)]) ?_;rintro i ⟨p1,p2⟩;have e1:=ek i;conv=>whnf
 repeat' ((first|(refine bP (MZ (l.getD (i:Int).toNat cD) key) [(1000001,1000001)] ?_)|refine aa ?_ ?_<;>intro hb<;>try simp only[am]at hb|omega|refine ao ?_|decide|assumption)<;>conv=>whnf)
 · refine .ret _ ?_;conv=>whnf
   refine⟨[(1000001,jp key)],⟨?_,rfl⟩,rr,trivial⟩;conv=>lhs;whnf
   congr 2
   exact(d5 (by omega) p2 (by simpa using hb)).symm
 · exact⟨i+1,⟨by omega,aV p2 (by simpa using hb)⟩,by omega,(by exact a7 [(1000001,1000001)])⟩
 · refine .ret _ ?_;conv=>whnf
   refine⟨[(1000001,jp key)],⟨?_,rfl⟩,rr,trivial⟩;conv=>lhs;whnf
   congr 2
   have:i=l.length:=by omega
   subst this;exact(dr p2).symm
theorem IV (l:List gd)(hl:l.length≤2^40)(key:List UInt8):ae Tryz.prog 166 [.d (dI l),.d (.str key)] [] (fun x r=>x= .d (.int .i64 (fD l key))∧r= []):=by
 refine aj hT Tryz.func166 Tryz.call166 ?_;conv=>whnf
 refine bP (Ky l hl key) [(1000001,3)] ?_;conv=>whnf
 refine .ret _ ?_;conv=>whnf
 refine⟨[],⟨?_,rfl⟩,trivial⟩;conv=>lhs;whnf
structure nc where
 sta:List lB
 cls:List gd
 veh:List pV
 plt:List iE
abbrev flt (f:nc):SV:=.agg [.d (iT f.sta),.d (dI f.cls),.d (mg f.veh),.d (vl f.plt)]
theorem qt (l:List gd)(key:List UInt8): -1≤fD l key∧fD l key<l.length:=⟨eB.1,eB.2.1⟩
theorem Gb {l:List gd}{key:List UInt8}(h:0≤fD l key):(l.getD (fD l key).toNat cD).key=key:=by
 have:=(eB (p:=fun i=>(l.getD i cD).key==key) (n:=l.length)).2.2 h;exact eq_of_beq this
def wn (l:List gd)(key:List UInt8):List UInt8:=(l.getD (fD l key).toNat cD).up
def oI (l:List gd):Nat→List UInt8→List (List UInt8)
 |0,_=> []
 |n+1,key=>if wn l key= []then []else wn l key::oI l n (wn l key)
theorem Aw (l:List gd):∀ (n:Nat) (key:List UInt8),(oI l n key).length≤n:=by
 intro n
 induction n with
 |zero=>intro key;simp[oI]
 |succ n ih=>intro key;rw[oI];split;simp;simp;exact ih _
def tj (l:List gd):Prop:=(∀c ∈ l,c.up≠ []→0≤fD l c.up)
theorem Mr (l:List gd)(hl:l.length≤2^20)(hu:tj l)(key:List UInt8)(hk:0≤fD l key):
 ae Tryz.prog 224 [.d (dI l),.d (.str key)] [] (fun x r=>x= .d (bU (oI l l.length key))∧r= []):=by
 refine aj hT Tryz.func224 Tryz.call224 ?_;conv=>whnf
 refine af hT (C:= []) (ι:=List (List UInt8)×List UInt8×Nat) (fun(o,k,i)=>i≤l.length∧o.length≤i∧0≤fD l k∧o++oI l (l.length - i) k=oI l l.length key)
  (fun(o,k,i)=>aJ [(0,.d (dI l)),(1,.d (.str k)),(5,.buf 5),(7,.d (.int .i64 l.length)),(8,.d (.int .i64 i))] [(5,aD 9 1 sF [] o)])
  (fun(_,_,i)=>l.length - i) ([],key,0) ⟨by simp,by simp,hk,by simp⟩ ?_ ?_
 · exact(du.nil 5 5 9 1 (aR sF [] []) rfl rfl (by decide)).trans (ac [(5,5)] rfl rfl ⟨lr,lr,lr,lr,lr,trivial⟩ ⟨rr,trivial⟩)
 rintro⟨o,k,i⟩ ⟨p1,p2,p3,p4⟩;have p1:i≤l.length:=p1;have p2:o.length≤i:=p2;have p3:0≤fD l k:=p3;have p4:o++oI l (l.length - i) k=oI l l.length key:=p4;have hb1:=(qt l k).2;conv=>whnf
 repeat' (first|(refine ab (IV l (by omega) k) rfl rfl ?_;rotate_right;conv=>whnf)|((first|refine aa ?_ ?_<;>intro hb<;>try simp only[am]at hb|omega|refine ao ?_|decide|assumption)<;>conv=>whnf))
 · refine .freeze _ 5 9 1 _ _ rfl (.weak _ ?_);conv=>whnf
   refine⟨.d (bU o),[],lr,⟨?_,rfl⟩,trivial⟩;rw[←p4,show l.length - i=(l.length - i - 1)+1 by omega,oI,if_pos (show wn l k= []from hb),List.append_nil]
 · have hm:(l.getD (fD l k).toNat cD) ∈ l:=al (by omega)
   refine⟨(o++ [wn l k],wn l k,i+1),⟨by omega,by simp;omega,hu _ hm hb,?_⟩,by show l.length - (i+1)<l.length - i;omega,
    ac [(5,22)] rfl rfl ⟨lr,lr,lr,lr,lr,trivial⟩ ⟨aB rfl,trivial⟩⟩
   rw[←p4,show l.length - i=(l.length - (i+1))+1 by omega,oI,if_neg (show ¬wn l k= []from hb),List.append_assoc];rfl
 · refine .freeze _ 5 9 1 _ _ rfl (.weak _ ?_);conv=>whnf
   refine⟨.d (bU o),[],lr,⟨?_,rfl⟩,trivial⟩;rw[←p4,show l.length - i=0 by omega,oI,List.append_nil]
theorem Mf (l:List (List UInt8))(hl:l.length≤2^40)(v:List UInt8):ae Tryz.prog 96 [.d (bU l),.d (.str v)] [] (fun x r=>x= .d (.int .i64 (gT (fun i=>l.getD i []==v) l.length))∧r= []):=by
 refine aj hT Tryz.func96 Tryz.call96 ?_;conv=>whnf
 refine af hT (C:= []) (ι:=Nat) (fun i=>i≤l.length∧∀j,j<i→(l.getD j []==v)=false) (fun i=>aJ [(0,.d (bU l)),(1,.d (.str v)),(7,.d (.int .i64 l.length)),(8,.d (.int .i64 i))] []) (fun i=>l.length - i) 0 ⟨by omega,by omega⟩ (by exact a7 []) ?_;rintro i ⟨p1,p2⟩;have e1:=ek i;conv=>whnf
 repeat' ((first|refine aa ?_ ?_<;>intro hb<;>try simp only[am]at hb|omega|refine ao ?_|decide|assumption)<;>conv=>whnf)
 · refine .ret _ ?_;conv=>whnf
   refine⟨[],⟨?_,rfl⟩,trivial⟩;conv=>lhs;whnf
   congr 2
   exact(d5 (by omega) p2 (by rw[←hb];simp)).symm
 · exact⟨i+1,⟨by omega,aV p2 (beq_eq_false_iff_ne.2 fun q=>hb q.symm)⟩,by omega,(by exact a7 [])⟩
 · refine .ret _ ?_;conv=>whnf
   refine⟨[],⟨?_,rfl⟩,trivial⟩;conv=>lhs;whnf
   congr 2
   have:i=l.length:=by omega
   subst this;exact(dr p2).symm
theorem Gi (l:List (List UInt8))(v:List UInt8):decide (0≤gT (fun i=>l.getD i []==v) l.length)=decide (v ∈ l):=by
 rw[decide_eq_decide];constructor
 · intro h;have:=eB (p:=fun i=>l.getD i []==v) (n:=l.length);rw[←eq_of_beq (this.2.2 h)];exact al (by omega)
 · intro h;obtain⟨j,hj,rfl⟩:=bI (d:= []) h;exact jQ hj (by simp)
theorem Kg (l:List (List UInt8))(hl:l.length≤2^40)(v:List UInt8):ae Tryz.prog 127 [.d (bU l),.d (.str v)] [] (fun x r=>x= .d (.bool (decide (v ∈ l)))∧r= []):=by
 refine aj hT Tryz.func127 Tryz.call127 ?_;conv=>whnf
 repeat' (first|(refine ab (Mf l hl v) rfl rfl ?_;rotate_right;conv=>whnf)|((first|refine aa ?_ ?_<;>intro hb<;>try simp only[am]at hb|omega|refine ao ?_|decide|assumption)<;>conv=>whnf))
 refine .ret _ ?_;conv=>whnf
 refine⟨[],⟨?_,rfl⟩,trivial⟩;conv=>lhs;whnf
 rw[←Gi]
def yM (l:List gd):Nat→List UInt8→List UInt8
 |0,k=>k
 |n+1,k=>yM l n (wn l k)
theorem uu (l:List gd):∀ (a b:Nat) (k:List UInt8),yM l (a+b) k=yM l b (yM l a k):=by
 intro a
 induction a with
 |zero=>intro b k;rw[Nat.zero_add];rfl
 |succ a ih=>intro b k;rw[show a+1+b=(a+b)+1 by omega,yM,ih,yM]
theorem AE (l:List gd):∀ (n:Nat) (k v:List UInt8),v ∈ oI l n k↔∃j,j<n∧yM l (j+1) k=v∧∀i,i≤j→yM l (i+1) k≠ []:=by
 intro n
 induction n with
 |zero=>intro k v;simp[oI]
 | succ n ih=>
   intro k v;rw[oI]
   by_cases h:wn l k= []
   · rw[if_pos h];constructor
     · intro q;cases q
     · rintro⟨j,_,_,h3⟩;exact absurd h (h3 0 (by omega))
   · rw [if_neg h,List.mem_cons,ih];constructor
     · rintro(rfl|⟨j,h1,h2,h3⟩)
       · exact⟨0,by omega,rfl,fun i hi=>by
                     obtain rfl:i=0:=by omega
                     exact h⟩
       · refine⟨j+1,by omega,h2,fun i hi=> ?_⟩
         cases i with
         |zero=>exact h
         |succ i=>exact h3 i (by omega)
     · rintro⟨j,h1,h2,h3⟩
       cases j with
       |zero=>exact .inl h2.symm
       |succ j=>exact .inr ⟨j,by omega,h2,fun i hi=>h3 (i+1) (by omega)⟩
theorem Ja {α:Type}{l m:List α}(h:l.Nodup)(hs:∀x ∈ l,x ∈ m):l.length≤m.length:=by
 induction l generalizing m with
 |nil=>simp
 | cons x l ih=>
   rw[List.nodup_cons]at h;obtain⟨a,b,rfl⟩:=List.append_of_mem (hs x (by simp))
   have:=ih (m:=a++b) h.2 (fun y hy=>by
    have q:=hs y (by simp[hy]);simp only[List.mem_append,List.mem_cons]at q ⊢;rcases q with q|q|q
    · exact .inl q
    · subst q;exact absurd hy h.1
    · exact .inr q)
   simp at this ⊢;omega
theorem CQ {l:List gd}{k:List UInt8}(h:0≤fD l k):k ∈ l.map (·.key):=by
 rw[←Gb h];exact List.mem_map_of_mem (al (by have:=(qt l k).2;omega))
theorem Jf {l:List gd}(hu:tj l){k:List UInt8}(hk:0≤fD l k):∀ (j:Nat),(∀i,i<j→yM l (i+1) k≠ [])→0≤fD l (yM l j k):=by
 intro j
 induction j with
 |zero=>intro _;exact hk
 | succ j ih=>
   intro h;have h1:=ih (fun i hi=>h i (by omega));have h2:=h j (by omega);have e:yM l (j+1) k=wn l (yM l j k):=by rw[uu];rfl
   rw[e]at h2 ⊢;exact hu _ (al (by have:=(qt l (yM l j k)).2;omega)) h2
theorem z8 {l:List gd}(hu:tj l){k:List UInt8}(hk:0≤fD l k):k ∈ oI l (l.length+1) k↔k ∈ oI l l.length k:=by
 rw[AE,AE];constructor
 · rintro⟨j,h1,h2,h3⟩
   by_cases hj:j<l.length
   · exact⟨j,hj,h2,h3⟩
   · have hj:j=l.length:=by omega
     subst hj
     by_cases hex:∃j',j'<l.length∧yM l (j'+1) k=k
     · obtain⟨j',q1,q2⟩:=hex;exact⟨j',q1,q2,fun i hi=>h3 i (by omega)⟩
     · exfalso
       have hnd:((List.range (l.length+1)).map fun j=>yM l j k).Nodup:=by
        rw[List.nodup_iff_pairwise_ne,List.pairwise_map];refine List.Pairwise.imp_of_mem ?_ List.pairwise_lt_range;intro a b ha hb hab he;rw[List.mem_range]at ha hb;refine hex ⟨a+(l.length+1 - b) - 1,by omega,?_⟩;rw[show a+(l.length+1 - b) - 1+1=a+(l.length+1 - b)by omega,uu,he,←uu,show b+(l.length+1 - b)=l.length+1 by omega];exact h2
       have:=Ja (m:=l.map (·.key)) hnd (fun x hx=>by
        obtain⟨j,hj,rfl⟩:=List.mem_map.1 hx;rw[List.mem_range]at hj
        exact CQ (Jf hu hk j (fun i hi=>h3 i (by omega))))
       simp at this;omega
 · rintro⟨j,h1,h2,h3⟩;exact⟨j,by omega,h2,h3⟩
theorem vF {l:List gd}{c:gd}(h:c ∈ l):0≤fD l c.key:=by
 obtain⟨j,hj,rfl⟩:=bI (d:=cD) h;exact jQ hj (by simp)
def nE (l:List gd)(i:Nat):Int:=
 if aN (l.getD i cD).key=false then 5 else if 0<i∧dv (l.getD i cD).key (l.getD (i - 1) cD).key=true then 7
 else if(l.getD i cD).up≠ []∧aN (l.getD i cD).up=false then 5 else 0
def lx (l:List gd)(i:Nat):Int:=if(l.getD i cD).up≠ []∧fD l (l.getD i cD).up<0 then 8 else 0
def nq (l:List gd)(i:Nat):Int:=if(l.getD i cD).key ∈ oI l l.length (l.getD i cD).key then 14 else 0
def dD (l:List gd):Int:=if 30<l.length then 2 else ah [a8 (nE l) l.length,a8 (lx l) l.length,a8 (nq l) l.length]
def kD (l:List gd):Prop:=l.length≤2^20∧∀c ∈ l,c.key.length≤2^40∧c.up.length≤2^40
def gL (a b:iE):Int:=ah [bJ a.frm b.frm,dq a.veh b.veh,dq a.plt b.plt]
theorem Bt (a b:iE):gL a b=if a.frm≠b.frm then bJ (a.frm - b.frm) 0 else xh [a.veh,a.plt] [b.veh,b.plt]:=by
 simp only[gL,xh,ah];have e1:bJ (a.frm - b.frm) 0=bJ a.frm b.frm:=by unfold bJ;grind
 have e2:bJ a.frm b.frm=0↔a.frm=b.frm:=by unfold bJ;grind
 rw[e1];grind
def pR (p:iE):bh:=.cells 134 ((ig p).map .d)
def zb (p o:iE):Bool:=decide (o.frm=p.frm)&&(o.veh==p.veh||o.plt==p.plt)
theorem Jv {α:Type}(l:List α)(d:α)(q:α→Bool):decide (0≤gT (fun i=>q (l.getD i d)) l.length)=l.any q:=by
 rw[Bool.eq_iff_iff,decide_eq_true_eq,List.any_eq_true];constructor
 · intro h;have:=eB (p:=fun i=>q (l.getD i d)) (n:=l.length);exact⟨_,al (by omega),this.2.2 h⟩
 · rintro⟨x,hx,hq⟩;obtain⟨j,hj,rfl⟩:=bI (d:=d) hx;exact jQ hj hq
def Bk (l:List pV):Prop:=∀i j,i<j→j<l.length→Op.bytesLess (l.getD i dg).key (l.getD j dg).key=true
theorem Kr (v:pV)(key:List UInt8):ae Tryz.prog 278 [.agg ((uM v).map .d),.d (.str key)] [] (fun y r=>y= .d (.int .i64 (dq v.key key))∧r= []):=by
 refine aj hT Tryz.func278 Tryz.call278 ?_;conv=>whnf
 repeat' (first|(refine ab (wP _ _) rfl rfl ?_;rotate_right;conv=>whnf)|((first|refine aa ?_ ?_<;>intro hb<;>try simp only[am]at hb|omega|refine ao ?_|decide|assumption)<;>conv=>whnf))
 refine .ret _ ?_;conv=>whnf
 refine⟨[],⟨?_,rfl⟩,trivial⟩;conv=>lhs;whnf
theorem wj (a b:List UInt8):dq a b<0↔Op.bytesLess a b=true:=by unfold dq;grind
theorem rB (a b:List UInt8):dq a b=0↔a=b:=by
 unfold dq;grind [fY,eA]
theorem xF (lo hi:Nat)(h:hi≤2^20)(hl:lo≤hi):IntKind.wrap .u64 ((lo:Int)+hi)/2=(((lo+hi)/2:Nat):Int):=by
 unfold IntKind.wrap;simp[IntKind.signed,IntKind.bits];omega
theorem AB {l:List pV}(hs:Bk l){key:List UInt8}{i j:Nat}(hij:i≤j)(hj:j<l.length)(h:Op.bytesLess (l.getD j dg).key key=true):Op.bytesLess (l.getD i dg).key key=true:=by
 rcases Nat.lt_or_ge i j with q|q
 · exact fu (hs i j q hj) h
 · obtain rfl:i=j:=by omega
   exact h
theorem Eh {l:List pV}(hs:Bk l){i:Nat}(hi:i<l.length):m5 l (l.getD i dg).key=i:=by
 refine d5 hi (fun j hj=> ?_) (by simp);rw[beq_eq_false_iff_ne];intro e;have:=hs j i hj hi;rw[e,eA]at this;cases this
theorem Ar {l:List pV}{key:List UInt8}(h:∀i,i<l.length→(l.getD i dg).key≠key):m5 l key= -1:=
 dr fun j hj=>beq_eq_false_iff_ne.2 (h j hj)
theorem Og (l:List pV)(hl:l.length≤2^20)(hs:Bk l)(key:List UInt8):ae Tryz.prog 277 [.d (mg l),.d (.str key),.fn 278 []] []
 (fun y r=>(∃j:Nat,∃b:Bool,y= .tup [.d (.int .i64 j),.d (.bool b)]∧m5 l key=if b=true then(j:Int)else -1)∧r= []):=by
 refine aj hT Tryz.func277 Tryz.call277 ?_;conv=>whnf
 refine af hT (C:= []) (ι:=Nat×Nat) (fun(lo,hi)=>(lo≤hi∧hi≤l.length)∧(∀j,j<lo→Op.bytesLess (l.getD j dg).key key=true)∧∀j,hi≤j→j<l.length→Op.bytesLess (l.getD j dg).key key=false)
  (fun(lo,hi)=>aJ [(0,.d (mg l)),(1,.d (.str key)),(2,.fn 278 []),(8,.d (.int .i64 l.length)),(9,.d (.int .i64 lo)),(10,.d (.int .i64 hi))] []) (fun(lo,hi)=>hi - lo) (0,l.length)
  ⟨⟨by simp,by simp⟩,fun j hj=>by omega,fun j h1 h2=>by omega⟩ (by exact a7 []) ?_
 rintro⟨lo,hi⟩ ⟨⟨p1,p2⟩,p3,p4⟩;have p1:lo≤hi:=p1;have p2:hi≤l.length:=p2;have p3:∀j,j<lo→Op.bytesLess (l.getD j dg).key key=true:=p3;have p4:∀j,hi≤j→j<l.length→Op.bytesLess (l.getD j dg).key key=false:=p4;have hh:=xF lo hi (by omega) p1;obtain⟨M,hM⟩:∃M,M=(lo+hi)/2:=⟨_,rfl⟩;rw[←hM]at hh;have e1:((M:Nat):Int).toNat=M:=Int.toNat_natCast M;have e2:((lo:Nat):Int).toNat=lo:=Int.toNat_natCast lo;conv=>whnf
 repeat' (first|(refine⟨rfl,?_⟩;conv=>whnf)|(rw[hh];conv=>whnf)|(refine ab (Kr (l.getD (M:Int).toNat dg) key) rfl rfl ?_;rotate_right;conv=>whnf)|(refine ab (Kr (l.getD (lo:Int).toNat dg) key) rfl rfl ?_;rotate_right;conv=>whnf)|((first|refine aa ?_ ?_<;>intro hb<;>try simp only[am]at hb|omega|refine ao ?_|decide|assumption)<;>conv=>whnf))
 · have hb1:=(wj _ _).1 hb;exact⟨(M+1,hi),⟨⟨by omega,p2⟩,fun j hj=>AB hs (show j≤M by omega) (by omega) hb1,p4⟩,by show hi - (M+1)<hi - lo;omega,(by exact a7 [])⟩
 · have hb1:Op.bytesLess (l.getD M dg).key key=false:=by
    rw[←Bool.not_eq_true,←wj];omega
   refine⟨(lo,M),⟨⟨by omega,by omega⟩,p3,fun j h1 h2=> ?_⟩,by show M - lo<hi - lo;omega,(by exact a7 [])⟩;rw[←Bool.not_eq_true];intro q;rw[AB hs h1 h2 q]at hb1;cases hb1
 · refine .ret _ ?_;conv=>whnf
   refine⟨[],⟨⟨lo,decide (dq (l.getD lo dg).key key=0),rfl,?_⟩,rfl⟩,trivial⟩
   by_cases q:(l.getD lo dg).key=key
   · rw[if_pos (by rw[decide_eq_true_eq,rB];exact q),←q];exact Eh hs (by omega)
   · rw[if_neg (by rw[decide_eq_true_eq,rB];exact q)];have h0:=p4 lo (by omega) (by omega);have h1:=fY _ _ h0 q;refine Ar fun i hi2 e=> ?_
     rcases Nat.lt_trichotomy i lo with r|r|r
     · have:=p3 i r;rw[e,eA]at this;cases this
     · subst r;exact q e
     · have:=fu h1 (hs lo i r hi2);rw[e,eA]at this;cases this
 · refine .ret _ ?_;conv=>whnf
   refine⟨[],⟨⟨lo,false,rfl,?_⟩,rfl⟩,trivial⟩;rw[if_neg (by simp)];refine Ar fun i hi2 e=> ?_
   have:=p3 i (by omega);rw[e,eA]at this;cases this
def jt:TL:= [(8,[(0,[]),(1,[]),(2,[]),(3,[]),(4,[]),(5,[3,4]),(6,[3,4,5]),(7,[3,4,5]),(8,[3,4]),(9,[3,4]),(10,[3,4]),(11,[]),(12,[]),(13,[])]),(22,[(0,[]),(1,[0]),(2,[0]),(4,[0,1,2]),(5,[0,1,2]),(3,[4,5]),(6,[])])]
theorem z175 (l:List gd)(hk:kD l):ae Tryz.prog 164 [.d (dI l)] [] (fun x r=>x= .d (.int .i64 (dD l))∧r= []):=by
 have hlen:=hk.1;refine aj hT Tryz.func164 Tryz.call164 ?_;conv=>whnf
 refine aa (fun h0=> ?_) (fun h0=> ?_)
 · simp at h0;conv=>whnf
   refine .ret _ ?_;conv=>whnf
   refine⟨[],⟨?_,rfl⟩,trivial⟩;conv=>lhs;whnf
   unfold dD;rw[if_pos (by omega)]
 simp at h0;conv=>whnf
 refine af hT (C:= []) (ι:=Nat) (fun i=>i≤l.length∧∀j,j<i→nE l j=0) (fun i=>aJ [(0,.d (dI l)),(12,.d (dI l)),(13,.d (.int .i64 l.length)),(14,.d (.int .i64 i))] []) (fun i=>l.length - i) 0 ⟨by omega,by omega⟩ (by exact a7 []) ?_;rintro i ⟨p1,p2⟩;have hx:(i:Int)<l.length→(l.getD (i:Int).toNat cD).key.length≤2^40∧(l.getD (i:Int).toNat cD).up.length≤2^40:=fun hi=>hk.2 _ (al (by omega))
 have e1:=ek i
 have hbad:∀e:Int,i<l.length→e≠0→nE l i=e→dD l=e:=fun e h h1 h2=>by
  unfold dD;rw[if_neg (by omega),aP h p2 h1 h2,ah,if_neg h1]
 rcases Nat.lt_or_ge i l.length with hi|hi
 · conv =>whnf
   repeat' (first|(refine ab (kV _ (hx (by omega)).1) rfl rfl ?_;rotate_right;conv=>whnf)|(refine ab (kV _ (hx (by omega)).2) rfl rfl ?_;rotate_right;conv=>whnf)|((first|refine aa ?_ ?_<;>intro hb<;>try simp only[am]at hb|refine bg hT jt ?_|omega|refine ao ?_|decide|assumption)<;>conv=>whnf))
   all_goals try(exfalso;omega)
   all_goals first
    |(refine⟨i+1,⟨by omega,aL p2 (by clear p2 hbad hk hx;simp only[e1,aE]at*;unfold nE dv;grind)⟩,by omega,(by exact a7 [])⟩)
    | (refine .ret _ ?_
       conv=>whnf
       refine⟨[],⟨?_,rfl⟩,trivial⟩;conv=>lhs;whnf
       congr 2
       exact(hbad _ (by omega) (by decide) (by clear p2 hbad hk hx;simp only[e1,aE]at*;unfold nE dv;grind)).symm)
 have hil:i=l.length:=by omega
 subst hil;have P1:=ay p2;clear hbad hx p2;conv=>whnf
 repeat' ((first|refine aa ?_ ?_<;>intro hb<;>try simp only[am]at hb|refine bg hT jt ?_|omega|refine ao ?_|decide|assumption)<;>conv=>whnf)
 all_goals try(exfalso;omega)
 refine af hT (C:= []) (ι:=Nat) (fun i=>i≤l.length∧∀j,j<i→lx l j=0) (fun i=>aJ [(0,.d (dI l)),(49,.d (dI l)),(50,.d (.int .i64 l.length)),(51,.d (.int .i64 i))] []) (fun i=>l.length - i) 0 ⟨by omega,by omega⟩ (by exact a7 []) ?_;rintro i ⟨p1,p2⟩;have e1:=ek i
 have hbad:∀e:Int,i<l.length→e≠0→lx l i=e→dD l=e:=fun e h h1 h2=>by
  unfold dD;rw[if_neg (by omega),ah,if_pos P1,ah,aP h p2 h1 h2,if_neg h1]
 rcases Nat.lt_or_ge i l.length with hi|hi
 · conv =>whnf
   repeat' (first|(refine ab (IV l (by omega) _) rfl rfl ?_;rotate_right;conv=>whnf)|((first|refine aa ?_ ?_<;>intro hb<;>try simp only[am]at hb|refine bg hT jt ?_|omega|refine ao ?_|decide|assumption)<;>conv=>whnf))
   all_goals try(exfalso;omega)
   all_goals first
    |(refine⟨i+1,⟨by omega,aL p2 (by clear p2 hbad hk;simp only[e1]at*;unfold lx;grind)⟩,by omega,(by exact a7 [])⟩)
    | (refine .ret _ ?_
       conv=>whnf
       refine⟨[],⟨?_,rfl⟩,trivial⟩;conv=>lhs;whnf
       congr 2
       exact(hbad _ (by omega) (by decide) (by clear p2 hbad hk;simp only[e1]at*;unfold lx;grind)).symm)
 have hil:i=l.length:=by omega
 subst hil;have P2:=ay p2
 have hu:tj l:=fun c hc hn=>by
  obtain⟨j,hj,rfl⟩:=bI (d:=cD) hc;have:=p2 j hj;unfold lx at this;rcases Int.lt_or_le (fD l (l.getD j cD).up) 0 with q|q
  · rw[if_pos ⟨hn,q⟩]at this;cases this
  · exact q
 clear hbad p2;conv=>whnf
 repeat' ((first|refine aa ?_ ?_<;>intro hb<;>try simp only[am]at hb|refine bg hT jt ?_|omega|refine ao ?_|decide|assumption)<;>conv=>whnf)
 all_goals try(exfalso;omega)
 refine af hT (C:= []) (ι:=Nat) (fun i=>i≤l.length∧∀j,j<i→nq l j=0) (fun i=>aJ [(0,.d (dI l)),(66,.d (dI l)),(67,.d (.int .i64 l.length)),(68,.d (.int .i64 i))] []) (fun i=>l.length - i) 0 ⟨by omega,by omega⟩ (by exact a7 []) ?_;rintro i ⟨p1,p2⟩;have e1:=ek i
 have hbad:∀e:Int,i<l.length→e≠0→nq l i=e→dD l=e:=fun e h h1 h2=>by
  unfold dD;rw[if_neg (by omega),ah,if_pos P1,ah,if_pos P2,ah,aP h p2 h1 h2,if_neg h1]
 rcases Nat.lt_or_ge i l.length with hi|hi
 · have hin:=vF (l:=l) (c:=l.getD (i:Int).toNat cD) (al (by omega));have hal:=Aw l l.length (l.getD (i:Int).toNat cD).key;have hlo:=z8 hu hin;conv=>whnf
   repeat' (first|(refine ab (Mr l hlen hu _ hin) rfl rfl ?_;rotate_right;conv=>whnf)|(refine ab (Kg _ (by omega) _) rfl rfl ?_;rotate_right;conv=>whnf)|((first|refine aa ?_ ?_<;>intro hb<;>try simp only[am]at hb|refine bg hT jt ?_|omega|refine ao ?_|decide|assumption)<;>conv=>whnf))
   all_goals try(exfalso;omega)
   all_goals first
    |(refine⟨i+1,⟨by omega,aL p2 (by clear p2 hbad hk;simp only[e1]at*;unfold nq;grind)⟩,by omega,(by exact a7 [])⟩)
    | (refine .ret _ ?_
       conv=>whnf
       refine⟨[],⟨?_,rfl⟩,trivial⟩;conv=>lhs;whnf
       congr 2
       exact(hbad _ (by omega) (by decide) (by clear p2 hbad hk;simp only[e1]at*;unfold nq;grind)).symm)
 have hil:i=l.length:=by omega
 subst hil;have P3:=ay p2;conv=>whnf
 repeat' ((first|refine aa ?_ ?_<;>intro hb<;>try simp only[am]at hb|refine bg hT jt ?_|omega|refine ao ?_|decide|assumption)<;>conv=>whnf)
 all_goals try(exfalso;omega)
 refine .ret _ ?_;conv=>whnf
 refine⟨[],⟨?_,rfl⟩,trivial⟩;conv=>lhs;whnf
 unfold dD;rw[if_neg (by omega),ah,if_pos P1,ah,if_pos P2,ah,if_pos P3];rfl
def ff:TL:= [(8,[(0,[]),(1,[]),(2,[]),(3,[]),(4,[]),(5,[3,4]),(6,[3,4,5]),(7,[3,4,5]),(8,[3,4]),(9,[3,4]),(10,[3,4]),(11,[]),(12,[]),(13,[])])]
def uc (s:lB)(k:Nat):Bool:=decide ((0≤s.h (2*k)∧s.h (2*k)≤s.h (2*k+1))∧s.h (2*k+1)≤1440)
def vD (s:lB):Bool:=(List.range 7).all (uc s)
theorem zT {s:lB}(h:∀j,j<7→uc s j=true):vD s=true:=by
 unfold vD;rw[List.all_eq_true];intro j hj;exact h j (List.mem_range.1 hj)
theorem fT {s:lB}{j:Nat}(hj:j<7)(h:uc s j=false):vD s=false:=by
 unfold vD;rw[List.all_eq_false];exact⟨j,List.mem_range.2 hj,by simp[h]⟩
def pI (l:List lB)(i:Nat):Int:=
 if aN (l.getD i fZ).key=false then 5 else if 0<i∧dv (l.getD i fZ).key (l.getD (i - 1) fZ).key=true then 7 else if vD (l.getD i fZ)=false then 1 else 0
def gj (l:List lB):Int:=if 50<l.length then 2 else a8 (pI l) l.length
def xY (l:List lB):Prop:=l.length≤2^20∧∀c ∈ l,c.key.length≤2^40
theorem Mq (l : List lB)(hk:xY l):ae Tryz.prog 163 [.d (iT l)] [] (fun x r=>x= .d (.int .i64 (gj l))∧r= []):=by
 have hlen:=hk.1;refine aj hT Tryz.func163 Tryz.call163 ?_;conv=>whnf
 refine aa (fun h0=> ?_) (fun h0=> ?_)
 · simp at h0;conv=>whnf
   refine .ret _ ?_;conv=>whnf
   refine⟨[],⟨?_,rfl⟩,trivial⟩;conv=>lhs;whnf
   unfold gj;rw[if_pos (by omega)]
 simp at h0;conv=>whnf
 refine af hT (C:= []) (ι:=Nat) (fun i=>i≤l.length∧∀j,j<i→pI l j=0) (fun i=>aJ [(0,.d (iT l)),(10,.d (iT l)),(11,.d (.int .i64 l.length)),(12,.d (.int .i64 i))] []) (fun i=>l.length - i) 0 ⟨by omega,by omega⟩ (by exact a7 []) ?_;rintro i ⟨p1,p2⟩;have hx:(i:Int)<l.length→(l.getD (i:Int).toNat fZ).key.length≤2^40:=fun hi=>hk.2 _ (al (by omega))
 have e1:=ek i
 have hbad:∀e:Int,i<l.length→e≠0→pI l i=e→gj l=e:=fun e h h1 h2=>by
  unfold gj;rw[if_neg (by omega)];exact aP h p2 h1 h2
 rcases Nat.lt_or_ge i l.length with hi|hi
 · obtain ⟨s,hs⟩:∃s,s=l.getD (i:Int).toNat fZ:=⟨_,rfl⟩;conv=>whnf
   repeat' (first|(refine ab (kV _ (hx (by omega))) rfl rfl ?_;rotate_right;conv=>whnf)|((first|refine aa ?_ ?_<;>intro hb<;>try simp only[am]at hb|refine bg hT ff ?_|omega|refine ao ?_|decide|assumption)<;>conv=>whnf))
   all_goals try(exfalso;omega)
   all_goals first
    | (refine .ret _ ?_
       conv=>whnf
       refine⟨[],⟨?_,rfl⟩,trivial⟩;conv=>lhs;whnf
       congr 2
       exact(hbad _ (by omega) (by decide) (by clear p2 hbad hk hx;simp only[e1,aE]at*;unfold pI dv;grind)).symm)
    | (have hok:pI l i=if vD s=false then 1 else 0:=by
        clear p2 hbad hk hx;simp only[e1,aE]at*;subst hs;unfold pI dv;grind
       refine af hT (C:= []) (ι:=Nat) (fun k=>k≤7∧∀j,j<k→uc s j=true) (fun k=>aJ [(0,.d (iT l)),(10,.d (iT l)),(11,.d (.int .i64 l.length)),(12,.d (.int .i64 i)),(37,.agg (((pG s).drop 1).map .d)),(38,.d (.int .i64 k))] []) (fun k=>7 - k) 0 ⟨by omega,by omega⟩ (by rw[hs];exact(by exact a7 [])) ?_;rintro k ⟨q1,q2⟩;have hkk:k=7∨k=0∨k=1∨k=2∨k=3∨k=4∨k=5∨k=6:=by omega
       rcases hkk with rfl|rfl|rfl|rfl|rfl|rfl|rfl|rfl
       · rw[zT q2]at hok;conv=>whnf
         repeat' ((first|refine aa ?_ ?_<;>intro hb<;>try simp only[am]at hb|refine bg hT ff ?_|omega|refine ao ?_|decide|assumption)<;>conv=>whnf)
         exact⟨i+1,⟨by omega,aL p2 (by rw[hok];rfl)⟩,by omega,(by exact a7 [])⟩
       · conv =>whnf
         repeat' (first|(refine ab (jY _ _ _) rfl rfl ?_;rotate_right;conv=>whnf)|((first|refine aa ?_ ?_<;>intro hb<;>try simp only[am]at hb|refine bg hT ff ?_|omega|refine ao ?_|decide|assumption)<;>conv=>whnf))
         all_goals first
          | (refine .ret _ ?_
             conv=>whnf
             refine⟨[],⟨?_,rfl⟩,trivial⟩;conv=>lhs;whnf
             congr 2
             exact(hbad _ (by omega) (by decide) (by rw[hok,fT (j:=0) (by omega) (by show decide ((0≤s.h 0∧s.h 0≤s.h 1)∧s.h 1≤1440)=false;rw[decide_eq_false_iff_not];omega)];rfl)).symm)
          |exact⟨1,⟨by omega,aV (p:=fun j=>uc s j=true) (i:=0) q2 (by show decide ((0≤s.h 0∧s.h 0≤s.h 1)∧s.h 1≤1440)=true;rw[decide_eq_true_eq];omega)⟩,by omega,(by exact a7 [])⟩
       · conv =>whnf
         repeat' (first|(refine ab (jY _ _ _) rfl rfl ?_;rotate_right;conv=>whnf)|((first|refine aa ?_ ?_<;>intro hb<;>try simp only[am]at hb|refine bg hT ff ?_|omega|refine ao ?_|decide|assumption)<;>conv=>whnf))
         all_goals first
          | (refine .ret _ ?_
             conv=>whnf
             refine⟨[],⟨?_,rfl⟩,trivial⟩;conv=>lhs;whnf
             congr 2
             exact(hbad _ (by omega) (by decide) (by rw[hok,fT (j:=1) (by omega) (by show decide ((0≤s.h 2∧s.h 2≤s.h 3)∧s.h 3≤1440)=false;rw[decide_eq_false_iff_not];omega)];rfl)).symm)
          |exact⟨2,⟨by omega,aV (p:=fun j=>uc s j=true) (i:=1) q2 (by show decide ((0≤s.h 2∧s.h 2≤s.h 3)∧s.h 3≤1440)=true;rw[decide_eq_true_eq];omega)⟩,by omega,(by exact a7 [])⟩
       · conv =>whnf
         repeat' (first|(refine ab (jY _ _ _) rfl rfl ?_;rotate_right;conv=>whnf)|((first|refine aa ?_ ?_<;>intro hb<;>try simp only[am]at hb|refine bg hT ff ?_|omega|refine ao ?_|decide|assumption)<;>conv=>whnf))
         all_goals first
          | (refine .ret _ ?_
             conv=>whnf
             refine⟨[],⟨?_,rfl⟩,trivial⟩;conv=>lhs;whnf
             congr 2
             exact(hbad _ (by omega) (by decide) (by rw[hok,fT (j:=2) (by omega) (by show decide ((0≤s.h 4∧s.h 4≤s.h 5)∧s.h 5≤1440)=false;rw[decide_eq_false_iff_not];omega)];rfl)).symm)
          |exact⟨3,⟨by omega,aV (p:=fun j=>uc s j=true) (i:=2) q2 (by show decide ((0≤s.h 4∧s.h 4≤s.h 5)∧s.h 5≤1440)=true;rw[decide_eq_true_eq];omega)⟩,by omega,(by exact a7 [])⟩
       · conv =>whnf
         repeat' (first|(refine ab (jY _ _ _) rfl rfl ?_;rotate_right;conv=>whnf)|((first|refine aa ?_ ?_<;>intro hb<;>try simp only[am]at hb|refine bg hT ff ?_|omega|refine ao ?_|decide|assumption)<;>conv=>whnf))
         all_goals first
          | (refine .ret _ ?_
             conv=>whnf
             refine⟨[],⟨?_,rfl⟩,trivial⟩;conv=>lhs;whnf
             congr 2
             exact(hbad _ (by omega) (by decide) (by rw[hok,fT (j:=3) (by omega) (by show decide ((0≤s.h 6∧s.h 6≤s.h 7)∧s.h 7≤1440)=false;rw[decide_eq_false_iff_not];omega)];rfl)).symm)
          |exact⟨4,⟨by omega,aV (p:=fun j=>uc s j=true) (i:=3) q2 (by show decide ((0≤s.h 6∧s.h 6≤s.h 7)∧s.h 7≤1440)=true;rw[decide_eq_true_eq];omega)⟩,by omega,(by exact a7 [])⟩
       · conv =>whnf
         repeat' (first|(refine ab (jY _ _ _) rfl rfl ?_;rotate_right;conv=>whnf)|((first|refine aa ?_ ?_<;>intro hb<;>try simp only[am]at hb|refine bg hT ff ?_|omega|refine ao ?_|decide|assumption)<;>conv=>whnf))
         all_goals first
          | (refine .ret _ ?_
             conv=>whnf
             refine⟨[],⟨?_,rfl⟩,trivial⟩;conv=>lhs;whnf
             congr 2
             exact(hbad _ (by omega) (by decide) (by rw[hok,fT (j:=4) (by omega) (by show decide ((0≤s.h 8∧s.h 8≤s.h 9)∧s.h 9≤1440)=false;rw[decide_eq_false_iff_not];omega)];rfl)).symm)
          |exact⟨5,⟨by omega,aV (p:=fun j=>uc s j=true) (i:=4) q2 (by show decide ((0≤s.h 8∧s.h 8≤s.h 9)∧s.h 9≤1440)=true;rw[decide_eq_true_eq];omega)⟩,by omega,(by exact a7 [])⟩
       · conv =>whnf
         repeat' (first|(refine ab (jY _ _ _) rfl rfl ?_;rotate_right;conv=>whnf)|((first|refine aa ?_ ?_<;>intro hb<;>try simp only[am]at hb|refine bg hT ff ?_|omega|refine ao ?_|decide|assumption)<;>conv=>whnf))
         all_goals first
          | (refine .ret _ ?_
             conv=>whnf
             refine⟨[],⟨?_,rfl⟩,trivial⟩;conv=>lhs;whnf
             congr 2
             exact(hbad _ (by omega) (by decide) (by rw[hok,fT (j:=5) (by omega) (by show decide ((0≤s.h 10∧s.h 10≤s.h 11)∧s.h 11≤1440)=false;rw[decide_eq_false_iff_not];omega)];rfl)).symm)
          |exact⟨6,⟨by omega,aV (p:=fun j=>uc s j=true) (i:=5) q2 (by show decide ((0≤s.h 10∧s.h 10≤s.h 11)∧s.h 11≤1440)=true;rw[decide_eq_true_eq];omega)⟩,by omega,(by exact a7 [])⟩
       · conv =>whnf
         repeat' (first|(refine ab (jY _ _ _) rfl rfl ?_;rotate_right;conv=>whnf)|((first|refine aa ?_ ?_<;>intro hb<;>try simp only[am]at hb|refine bg hT ff ?_|omega|refine ao ?_|decide|assumption)<;>conv=>whnf))
         all_goals first
          | (refine .ret _ ?_
             conv=>whnf
             refine⟨[],⟨?_,rfl⟩,trivial⟩;conv=>lhs;whnf
             congr 2
             exact(hbad _ (by omega) (by decide) (by rw[hok,fT (j:=6) (by omega) (by show decide ((0≤s.h 12∧s.h 12≤s.h 13)∧s.h 13≤1440)=false;rw[decide_eq_false_iff_not];omega)];rfl)).symm)
          |exact⟨7,⟨by omega,aV (p:=fun j=>uc s j=true) (i:=6) q2 (by show decide ((0≤s.h 12∧s.h 12≤s.h 13)∧s.h 13≤1440)=true;rw[decide_eq_true_eq];omega)⟩,by omega,(by exact a7 [])⟩)
 have hil:i=l.length:=by omega
 subst hil;conv=>whnf
 repeat' ((first|refine aa ?_ ?_<;>intro hb<;>try simp only[am]at hb|refine bg hT ff ?_|omega|refine ao ?_|decide|assumption)<;>conv=>whnf)
 all_goals try(exfalso;omega)
 refine .ret _ ?_;conv=>whnf
 refine⟨[],⟨?_,rfl⟩,trivial⟩;conv=>lhs;whnf
 congr 2
 unfold gj;rw[if_neg (by omega),ay p2]
def kG (f:nc)(i:Nat):Int:=
 if aN (f.veh.getD i dg).key=false then 5 else if 0<i∧dv (f.veh.getD i dg).key (f.veh.getD (i - 1) dg).key=true then 7
 else if fD f.cls (f.veh.getD i dg).cls<0 then 8 else 0
def jJ (f:nc)(i:Nat):Int:=
 if ¬ (0≤(f.plt.getD i bD).frm∧(f.plt.getD i bD).frm≤5761439)then 1 else if m5 f.veh (f.plt.getD i bD).veh<0 then 8 else if gE (f.plt.getD i bD).plt=false then 3
 else if 0<i∧0≤gL (f.plt.getD (i - 1) bD) (f.plt.getD i bD)then 7 else if((f.plt.take i).any (zb (f.plt.getD i bD)))=true then 6 else 0
def kL (f:nc):Int:=ah [gj f.sta,dD f.cls,if 500<f.veh.length then 2 else 0]
def iL (f:nc):Int:=if kL f≠0 then kL f else if a8 (kG f) f.veh.length≠0 then a8 (kG f) f.veh.length
 else if 1000<f.plt.length then 2 else a8 (jJ f) f.plt.length
structure qF (f:nc):Prop where
 sta:xY f.sta
 cls:kD f.cls
 veh:f.veh.length≤2^20∧∀v ∈ f.veh,v.key.length≤2^40∧v.cls.length≤2^40
 plt:f.plt.length≤2^20∧∀p ∈ f.plt,(-2^40≤p.frm∧p.frm≤2^40)∧p.veh.length≤2^40∧p.plt.length≤2^40
def CK (f:nc):bh:=.cells 31 [.d (iT f.sta),.d (dI f.cls),.d (mg f.veh),.d (vl f.plt)]
theorem xJ {f:nc}(h:a8 (kG f) f.veh.length=0):Bk f.veh:=by
 have h0:=fL h
 have step:∀j,j+1<f.veh.length→Op.bytesLess (f.veh.getD j dg).key (f.veh.getD (j+1) dg).key=true:=by
  intro j hj;have:=h0 (j+1) hj;unfold kG dv at this;simp only[Nat.add_sub_cancel]at this;have hl:=fY (f.veh.getD (j+1) dg).key (f.veh.getD j dg).key;grind
 intro i j hij hj
 induction j with
 |zero=>omega
 | succ j ih=>
   rcases Nat.lt_or_ge i j with q|q
   · exact fu (ih q (by omega)) (step j hj)
   · obtain rfl:i=j:=by omega
     exact step i hj
theorem M0 (f:nc)(hl:f.veh.length≤2^20)(hs:Bk f.veh)(key:List UInt8):ae Tryz.prog 226 [flt f,.d (.str key)] [] (fun x r=>x= .d (.int .i64 (m5 f.veh key))∧r= []):=by
 refine aj hT Tryz.func226 Tryz.call226 ?_;conv=>whnf
 refine dp (Og f.veh hl hs key) [] ?_;rintro x rout ⟨⟨j,b,rfl,hj⟩,rfl⟩;refine⟨rfl,?_⟩;conv=>whnf
 repeat' ((first|refine aa ?_ ?_<;>intro hb<;>try simp only[am]at hb|omega|refine ao ?_|decide|assumption)<;>conv=>whnf)
 · refine .ret _ ?_;conv=>whnf
   refine⟨[],⟨?_,rfl⟩,trivial⟩;conv=>lhs;whnf
   congr 2
   rw[hj,if_neg (by simp[hb])]
 · refine .ret _ ?_;conv=>whnf
   refine⟨[],⟨?_,rfl⟩,trivial⟩;conv=>lhs;whnf
   congr 2
   rw[hj,if_pos hb]
def nu:TL:= [(14,[(0,[]),(1,[]),(2,[0,1]),(3,[0,1]),(5,rg 4),(6,rg 4),(7,[0,1,2,3,5,6]),(8,[0,1,2,3,5,6]),(10,[0,1,2,3,5,6,7,8]),(11,[0,1,2,3,5,6,7,8]),(12,[0,1,2,3,5,6,7,8,10,11]),(13,[0,1,2,3,5,6,7,8,10,11]),(4,[5,6,7,8,10,11,12,13]),(9,[10,11,12,13]),(14,[]),(15,[]),(16,[]),(17,[])]),(17,[(0,[]),(1,[]),(2,[]),(3,[]),(4,[]),(5,[3,4]),(6,[]),(7,[]),(8,[]),(9,[3,4,5,6,7,8]),(10,[3,4,5,6,7,8]),(11,[]),(12,[])])]
theorem zf {a b:iE}(h:gL a b<0):a.frm≤b.frm:=by
 unfold gL at h;rw[ah]at h;split at h
 · rename_i q;unfold bJ at q;split at q<;>(try split at q)<;>omega
 · unfold bJ at h;split at h<;>(try split at h)<;>omega
theorem Bq {f:nc}{j:Nat}(h:jJ f j=0)(hj:0<j):gL (f.plt.getD (j - 1) bD) (f.plt.getD j bD)<0:=by
 unfold jJ at h;grind
theorem wy {f:nc}{i:Nat}(h:∀j,j≤i→0<j→gL (f.plt.getD (j - 1) bD) (f.plt.getD j bD)<0):∀b a,a≤b→b≤i→(f.plt.getD a bD).frm≤(f.plt.getD b bD).frm:=by
 intro b
 induction b with
 | zero => intro a ha _;obtain rfl:a=0:=by omega
           exact Int.le_refl _
 | succ b ih=>
   intro a ha hb;rcases Nat.lt_or_ge a (b+1)with q|q
   · have h1:=ih a (by omega) (by omega);have h2:=zf (h (b+1) hb (by omega));rw[Nat.add_sub_cancel]at h2;omega
   · obtain rfl:a=b+1:=by omega
     exact Int.le_refl _
theorem o0 {α:Type}{l:List α}{d:α}{i j:Nat}(h:j<i):(l.take i).getD j d=l.getD j d:=by
 rw[List.getD_eq_getElem?_getD,List.getElem?_take_of_lt h,←List.getD_eq_getElem?_getD]
theorem GW {f:nc}{i m:Nat}(hi:i<f.plt.length)(hm:m≤i)(h1:∀j,m≤j→j<i→zb (f.plt.getD i bD) (f.plt.getD j bD)=false)
 (h2:∀j,j<m→(f.plt.getD j bD).frm≠(f.plt.getD i bD).frm):(f.plt.take i).any (zb (f.plt.getD i bD))=false:=by
 rw[List.any_eq_false];intro x hx;obtain⟨j,hj,rfl⟩:=bI (d:=bD) hx;rw[List.length_take]at hj;rw[o0 (by omega)];rcases Nat.lt_or_ge j m with q|q
 · unfold zb;simp only[decide_eq_false (h2 j q),Bool.false_and];simp
 · rw[h1 j q (by omega)];simp
theorem GR {f:nc}{i k:Nat}(hi:i<f.plt.length)(hk:k<i)(h:zb (f.plt.getD i bD) (f.plt.getD k bD)=true):(f.plt.take i).any (zb (f.plt.getD i bD))=true:=by
 rw[List.any_eq_true];refine⟨(f.plt.take i).getD k bD,al (by rw[List.length_take];omega),?_⟩;rw[o0 hk];exact h
def tk (f:nc):Int:=if 1000<f.plt.length then 2 else a8 (jJ f) f.plt.length
theorem MB (f :nc)(hk:qF f)(hs:Bk f.veh):ae Tryz.prog 167 [flt f] [] (fun x r=>x= .d (.int .i64 (tk f))∧r= []):=by
 have hlv:=hk.veh.1;have hlp:=hk.plt.1;refine aj hT Tryz.func167 Tryz.call167 ?_;conv=>whnf
 repeat' ((first|refine aa ?_ ?_<;>intro hb<;>try simp only[am]at hb|refine bg hT nu ?_|omega|refine ao ?_|decide|assumption)<;>conv=>whnf)
 · refine .ret _ ?_;conv=>whnf
   refine⟨[],⟨?_,rfl⟩,trivial⟩;conv=>lhs;whnf
   congr 2
   unfold tk;rw[if_pos (by omega)]
 refine af hT (C:= []) (ι:=Nat) (fun i=>i≤f.plt.length∧∀j,j<i→jJ f j=0) (fun i=>aJ [(1,.ptr 1 0),(13,.d (vl f.plt)),(14,.d (.int .i64 f.plt.length)),(15,.d (.int .i64 i))] [(1,CK f)]) (fun i=>f.plt.length - i) 0 ⟨by omega,by omega⟩ (by exact a7 [(1,1)]) ?_;rintro i ⟨p1,p2⟩;have hx:(i:Int)<f.plt.length→(-2^40≤(f.plt.getD (i:Int).toNat bD).frm∧(f.plt.getD (i:Int).toNat bD).frm≤2^40)∧(f.plt.getD (i:Int).toNat bD).veh.length≤2^40∧(f.plt.getD (i:Int).toNat bD).plt.length≤2^40:=fun hi=>hk.plt.2 _ (al (by omega))
 have e1:=ek i
 have hbad:∀e:Int,i<f.plt.length→e≠0→jJ f i=e→tk f=e:=fun e h h1 h2=>by
  unfold tk;rw[if_neg (by omega),aP h p2 h1 h2]
 rcases Nat.lt_or_ge i f.plt.length with hi|hi
 · have hx2 :=hx (by omega);have hz:((i:Int) - 1).toNat=i - 1:=by omega
   conv=>whnf
   repeat' (first|(refine ab (Ib _) rfl rfl ?_;rotate_right;conv=>whnf)|(refine ab (M0 f (by omega) hs _) rfl rfl ?_;rotate_right;conv=>whnf)|(refine ab (LW _ hx2.2.2) rfl rfl ?_;rotate_right;conv=>whnf)|(refine ab (Fo _ _) rfl rfl ?_;rotate_right;conv=>whnf)|(refine ab (wP _ _) rfl rfl ?_;rotate_right;conv=>whnf)|((first|refine ap (BW [bJ (f.plt.getD ((i:Int) - 1).toNat bD).frm (f.plt.getD (i:Int).toNat bD).frm,dq (f.plt.getD ((i:Int) - 1).toNat bD).veh (f.plt.getD (i:Int).toNat bD).veh,dq (f.plt.getD ((i:Int) - 1).toNat bD).plt (f.plt.getD (i:Int).toNat bD).plt] (by simp)) ⟨ai (by rfl) (by rfl),trivial⟩ rfl ?_|refine aa ?_ ?_<;>intro hb<;>try simp only[am]at hb|refine bg hT nu ?_|omega|refine ao ?_|decide|assumption)<;>conv=>whnf))
   all_goals first
    | (refine .ret _ ?_
       conv=>whnf
       refine⟨[],⟨?_,rfl⟩,trivial⟩;conv=>lhs;whnf
       congr 2
       exact(hbad _ (by omega) (by decide) (by clear p2 hbad hk hx hx2;simp only[e1,hz]at*;unfold jJ;(try unfold gL);grind)).symm)
    | (have hcmp:0<i→gL (f.plt.getD (i - 1) bD) (f.plt.getD i bD)<0:=by
        intro _
        first
         |(exfalso;omega)
         |(clear p2 hbad hk hx hx2;simp only[e1,hz]at*;unfold gL;assumption)
       have eM:∀j,j≤i→0<j→gL (f.plt.getD (j - 1) bD) (f.plt.getD j bD)<0:=fun j h1 h2=>by
        rcases Nat.lt_or_ge j i with q|q
        · exact Bq (p2 j q) h2
        · obtain rfl:j=i:=by omega
          exact hcmp h2
       have hz0:∀ (c:Bool),jJ f i=(if(f.plt.take i).any (zb (f.plt.getD i bD))=true then 6 else 0):=by
        intro _;clear p2 hbad hk hx hx2;simp only[e1,hz]at*;unfold jJ;grind
       have hz0:=hz0 true
       refine af hT (C:= []) (ι:=Nat) (fun m=>m≤i∧∀j,m≤j→j<i→(f.plt.getD j bD).frm=(f.plt.getD i bD).frm∧zb (f.plt.getD i bD) (f.plt.getD j bD)=false)
        (fun m=>aJ [(1,.ptr 1 0),(4,.ptr 4 0),(6,.d (.int .i64 ((m:Int) - 1))),(13,.d (vl f.plt)),(14,.d (.int .i64 f.plt.length)),(15,.d (.int .i64 i))] [(1,CK f),(4,pR (f.plt.getD (i:Int).toNat bD))]) (fun m=>m) i ⟨by omega,fun j h1 h2=>by omega⟩ (by exact a7 [(1,1),(4,4)]) ?_
       rintro m ⟨q1,q2⟩;have hm1:0<m→((m:Int) - 1).toNat=m - 1:=fun h=>by omega
       conv=>whnf
       repeat' ((first|refine aa ?_ ?_<;>intro hb<;>try simp only[am]at hb|refine bg hT nu ?_|omega|refine ao ?_|decide|assumption)<;>conv=>whnf)
       all_goals first
        | (refine .ret _ ?_
           conv=>whnf
           refine⟨[],⟨?_,rfl⟩,trivial⟩;conv=>lhs;whnf
           congr 2
           refine(hbad _ (by omega) (by decide) ?_).symm
           rw[hz0,if_pos (GR hi (k:=m - 1) (by omega) (by clear p2 hbad hk hx hx2 eM;simp only[e1,hm1 (by omega)]at*;unfold zb;grind))])
        |exact⟨m - 1,⟨by omega,fun j h1 h2=>by
         rcases Nat.lt_or_ge j m with r|r
         · obtain rfl:j=m - 1:=by omega
           clear p2 hbad hk hx hx2 eM;simp only[e1,hm1 (by omega)]at*;unfold zb;grind
         · exact q2 j r h2⟩,by show m - 1<m;omega,ac [(1,1),(4,4)] rfl rfl ⟨lr,lr,au (by omega),lr,lr,lr,trivial⟩ ⟨rr,rr,trivial⟩⟩
        |exact⟨i+1,⟨by omega,aL p2 (by
         rw[hz0,GW hi q1 (fun j h1 h2=>(q2 j h1 h2).2) (fun j h1=>by
          have h2:=wy eM i (m - 1) (by omega) (by omega);have h3:=wy eM (m - 1) j (by omega) (by omega);clear p2 hbad hk hx hx2 eM;simp only[e1,hm1 (by omega)]at*
          omega)]
         rfl)⟩,by omega,(by exact a7 [(1,1)])⟩)
 have hil:i=f.plt.length:=by omega
 subst hil;have F2:=ay p2;clear hbad hx p2;conv=>whnf
 repeat' ((first|refine aa ?_ ?_<;>intro hb<;>try simp only[am]at hb|refine bg hT nu ?_|omega|refine ao ?_|decide|assumption)<;>conv=>whnf)
 all_goals try(exfalso;omega)
 refine .ret _ ?_;conv=>whnf
 refine⟨[],⟨?_,rfl⟩,trivial⟩;conv=>lhs;whnf
 congr 2
 unfold tk;rw[if_neg (by omega)];exact F2.symm
def ra:TL:= [(1,[(0,[]),(1,[]),(3,[0,1]),(4,[0,1]),(6,[0,1,3,4]),(7,[0,1,3,4]),(8,[0,1,3,4]),(9,[0,1,3,4]),(2,[3,4,6,7,8,9]),(5,[6,7,8,9]),(10,[]),(11,[]),(12,[]),(13,[])]),(9,[(0,[]),(1,[]),(2,[]),(3,[]),(4,[]),(5,[3,4]),(6,[3,4]),(7,[3,4,5,6]),(8,[3,4,5,6]),(9,[3,4]),(10,[3,4]),(11,[3,4]),(12,[]),(13,[]),(14,[])])]
theorem L5 (f:nc)(hk:qF f):ae Tryz.prog 114 [flt f] [] (fun x r=>x= .d (.int .i64 (iL f))∧r= []):=by
 have hlv:=hk.veh.1;have hlp:=hk.plt.1
 have H:(if decide ((500:Int)<f.veh.length)=true then(2:Int)else 0)=if 500<f.veh.length then 2 else 0:=by
  simp only[decide_eq_true_eq];congr 1;rw[eq_iff_iff];omega
 have h3:=kM [gj f.sta,dD f.cls,if decide ((500:Int)<f.veh.length)=true then 2 else 0] (by simp);rw[show ah [gj f.sta,dD f.cls,if decide ((500:Int)<f.veh.length)=true then 2 else 0]=kL f from by rw[H];rfl]at h3;refine aj hT Tryz.func114 Tryz.call114 ?_;conv=>whnf
 repeat' (first|(refine ab (Mq f.sta hk.sta) rfl rfl ?_;rotate_right;conv=>whnf)|(refine ab (z175 f.cls hk.cls) rfl rfl ?_;rotate_right;conv=>whnf)|(refine ab (j9 _ _) rfl rfl ?_;rotate_right;conv=>whnf)|((first|refine ap h3 ⟨ai (by rfl) (by rfl),trivial⟩ rfl ?_|refine aa ?_ ?_<;>intro hb<;>try simp only[am]at hb|refine bg hT ra ?_|omega|refine ao ?_|decide|assumption)<;>conv=>whnf))
 · refine .ret _ ?_;conv=>whnf
   refine⟨[],⟨?_,rfl⟩,trivial⟩;conv=>lhs;whnf
   congr 2
   unfold iL;rw[if_pos hb]
 have F0:kL f=0:=hb;refine af hT (C:= []) (ι:=Nat) (fun i=>i≤f.veh.length∧∀j,j<i→kG f j=0) (fun i=>aJ [(1,.ptr 1 0),(23,.d (mg f.veh)),(24,.d (.int .i64 f.veh.length)),(25,.d (.int .i64 i))] [(1,CK f)]) (fun i=>f.veh.length - i) 0 ⟨by omega,by omega⟩ (by exact a7 [(1,1)]) ?_;rintro i ⟨p1,p2⟩;have hx:(i:Int)<f.veh.length→(f.veh.getD (i:Int).toNat dg).key.length≤2^40∧(f.veh.getD (i:Int).toNat dg).cls.length≤2^40:=fun hi=>hk.veh.2 _ (al (by omega))
 have e1:=ek i
 have hbad:∀e:Int,i<f.veh.length→e≠0→kG f i=e→iL f=e:=fun e h h1 h2=>by
  unfold iL;rw[if_neg (by omega),aP h p2 h1 h2,if_pos h1]
 rcases Nat.lt_or_ge i f.veh.length with hi|hi
 · conv =>whnf
   repeat' (first|(refine ab (kV _ (hx (by omega)).1) rfl rfl ?_;rotate_right;conv=>whnf)|(refine ab (IV f.cls (Nat.le_trans hk.cls.1 (by decide)) _) rfl rfl ?_;rotate_right;conv=>whnf)|((first|refine aa ?_ ?_<;>intro hb<;>try simp only[am]at hb|refine bg hT ra ?_|omega|refine ao ?_|decide|assumption)<;>conv=>whnf))
   all_goals try(exfalso;omega)
   all_goals first
    |(refine⟨i+1,⟨by omega,aL p2 (by clear p2 hbad hk hx;simp only[e1,aE]at*;unfold kG dv;grind)⟩,by omega,(by exact a7 [(1,1)])⟩)
    | (refine .ret _ ?_
       conv=>whnf
       refine⟨[],⟨?_,rfl⟩,trivial⟩;conv=>lhs;whnf
       congr 2
       exact(hbad _ (by omega) (by decide) (by clear p2 hbad hk hx;simp only[e1,aE]at*;unfold kG dv;grind)).symm)
 have hil:i=f.veh.length:=by omega
 subst hil;have F1:=ay p2;clear hbad hx p2;conv=>whnf
 repeat' (first|(refine ab (MB f hk (xJ F1)) rfl rfl ?_;rotate_right;conv=>whnf)|((first|refine aa ?_ ?_<;>intro hb<;>try simp only[am]at hb|refine bg hT ra ?_|omega|refine ao ?_|decide|assumption)<;>conv=>whnf))
 all_goals try(exfalso;omega)
 refine .ret _ ?_;conv=>whnf
 refine⟨[],⟨?_,rfl⟩,trivial⟩;conv=>lhs;whnf
 congr 2
 unfold iL tk;simp[F0,F1]
def xq:TL:= [(18,[(0,[]),(1,[]),(2,[0,1]),(3,[0,1]),(5,rg 4),(6,rg 4),(7,[0,1,2,3,5,6]),(8,[0,1,2,3,5,6]),(4,[5,6,7,8]),(9,[]),(10,[]),(11,[]),(12,[])])]
def Ff:TL:= [(6,[(0,[]),(1,[]),(2,[0,1]),(3,[0,1]),(4,rg 4),(5,rg 4),(6,rg 6),(7,rg 6),(8,[]),(9,rg 9),(10,rg 9),(11,rg 11),(12,rg 11),(13,rg 13),(14,rg 13),(15,rg 15),(16,rg 15),(17,rg 9),(18,[9,10,11,12,13,14,15,16,17]),(19,[])])]
structure pL where
 cls:List UInt8
 frm:Int
 to:Int
 hr:Int
 dy:Int
 we:Int
 wk:Int
def xQ (x:pL):List DV:= [.str x.cls,.int .i64 x.frm,.int .i64 x.to,.int .i64 x.hr,.int .i64 x.dy,.int .i64 x.we,.int .i64 x.wk]
def eI:pL:=⟨[],0,0,0,0,0,0⟩
abbrev mQ (l:List pL):DV:=d6 7 xQ eI l
def vo (n:Int):Prop:= -1≤n∧n≤1000000
instance (n:Int):Decidable (vo n):=by unfold vo;infer_instance
def nums (x:pL):Prop:=vo x.hr∧vo x.dy∧vo x.we∧vo x.wk
instance (x:pL):Decidable (nums x):=by unfold nums;infer_instance
theorem uZ (a b:List UInt8)(m n:Int):(0≤ah [dq a b,bJ m n])=(Op.bytesLess b a=true∨(a=b∧n≤m)):=by
 apply propext
 unfold ah dq bJ ah ah;have h1:=fY a b;have h2:=eA a;grind [fu]
theorem qH (a b c d:List UInt8):(0≤ah [dq a b,dq c d])=(Op.bytesLess b a=true∨(a=b∧dv d c=true)):=by
 apply propext
 unfold ah dq ah ah dv;have h1:=fY a b;have h2:=eA a;have h3:=fY c d;have h4:=eA c;grind [fu]
theorem As (a b:List UInt8)(m n:Int):(ah [dq a b,bJ m n]<0)=¬ (Op.bytesLess b a=true∨(a=b∧n≤m)):=by
 rw[←uZ];exact propext Int.not_le.symm
theorem xE (a b c d:List UInt8):(ah [dq a b,dq c d]<0)=¬ (Op.bytesLess b a=true∨(a=b∧dv d c=true)):=by
 rw[←qH];exact propext Int.not_le.symm
def pc (l:List pL)(i:Nat):Int:=
 let x:=l.getD i eI
 let q:=l.getD (i - 1) eI
 if aN x.cls=false then 5 else if ¬ (0≤x.frm∧x.frm<x.to∧x.to≤4001∧nums x)then 1 else if 0<i∧(Op.bytesLess x.cls q.cls=true∨(q.cls=x.cls∧x.frm≤q.frm))then 7 else if 0<i∧q.cls=x.cls∧x.frm<q.to then 13 else 0
def kK (l:List pL):Int:=if 200<l.length then 2 else a8 (pc l) l.length
def H3 (x:pL):Prop:=x.cls.length≤2^40
def ES (l:List pL):Prop:=l.length≤2^40∧∀x ∈ l,H3 x
theorem zY (p q r t c:Int):(min (min (min p q) r) t<c)=(p<c∨q<c∨r<c∨t<c):=by apply propext;omega
theorem Aa (p q r t c:Int):(c<max (max (max p q) r) t)=(c<p∨c<q∨c<r∨c<t):=by apply propext;omega
theorem NH (l:List pL)(hk:ES l):ae Tryz.prog 168 [.d (mQ l)] [] (fun x r=>x= .d (.int .i64 (kK l))∧r= []):=by
 refine aj hT Tryz.func168 Tryz.call168 ?_;conv=>whnf
 refine aa (fun h0=> ?_) (fun h0=> ?_)
 · simp at h0;conv=>whnf
   refine .ret _ ?_;conv=>whnf
   refine⟨[],⟨?_,rfl⟩,trivial⟩;conv=>lhs;whnf
   unfold kK;rw[if_pos (by omega)]
 simp at h0;conv=>whnf
 refine af hT (C:= []) (ι:=Nat) (fun i=>i≤l.length∧∀j,j<i→pc l j=0) (fun i=>aJ [(0,.d (mQ l)),(11,.d (mQ l)),(12,.d (.int .i64 l.length)),(13,.d (.int .i64 i))] []) (fun i=>l.length - i) 0 ⟨by omega,by omega⟩ (by exact a7 []) ?_;rintro i ⟨p1,p2⟩;have hx:(i:Int)<l.length→H3 (l.getD (i:Int).toNat eI):=fun hi=>hk.2 _ (al (by omega))
 have e1:=ek i
 have hbad:∀e:Int,i<l.length→e≠0→pc l i=e→kK l=e:=fun e h h1 h2=>by
  unfold kK;rw[if_neg (by omega)];exact aP h p2 h1 h2
 conv=>whnf
 repeat' (first|(refine ab (kV _ (hx (by omega))) rfl rfl ?_;rotate_right;conv=>whnf)|((first|refine aa ?_ ?_<;>intro hb<;>try simp only[am]at hb|refine bg hT xq ?_|omega|refine ao ?_|decide|assumption)<;>conv=>whnf))
 · refine .ret _ ?_;conv=>whnf
   refine⟨[],⟨?_,rfl⟩,trivial⟩;conv=>lhs;whnf
   congr 2
   exact(hbad _ (by omega) (by decide) (by clear p2 hbad hk hx;simp only[e1]at*;unfold pc;grind)).symm
 · refine .ret _ ?_;conv=>whnf
   refine⟨[],⟨?_,rfl⟩,trivial⟩;conv=>lhs;whnf
   congr 2
   exact(hbad _ (by omega) (by decide) (by clear p2 hbad hk hx;simp only[e1]at*;unfold pc;grind)).symm
 · refine .ret _ ?_;conv=>whnf
   refine⟨[],⟨?_,rfl⟩,trivial⟩;conv=>lhs;whnf
   congr 2
   exact(hbad _ (by omega) (by decide) (by clear p2 hbad hk hx;simp only[e1]at*;unfold pc;grind)).symm
 · refine .ret _ ?_;conv=>whnf
   refine⟨[],⟨?_,rfl⟩,trivial⟩;conv=>lhs;whnf
   congr 2
   exact(hbad _ (by omega) (by decide) (by clear p2 hbad hk hx;simp only[e1]at*;unfold pc;grind)).symm
 · have hi:i<l.length:=by omega
   have hN:aN (l.getD i eI).cls=true∧0≤(l.getD i eI).frm∧(l.getD i eI).frm<(l.getD i eI).to∧(l.getD i eI).to≤4001:=by clear p2 hbad hk hx;simp only[e1]at*;grind
   have hR:pc l i=if ¬nums (l.getD i eI)then 1 else if 0<i∧(Op.bytesLess (l.getD i eI).cls (l.getD (i - 1) eI).cls=true∨((l.getD (i - 1) eI).cls=(l.getD i eI).cls∧(l.getD i eI).frm≤(l.getD (i - 1) eI).frm))then 7 else if 0<i∧(l.getD (i - 1) eI).cls=(l.getD i eI).cls∧(l.getD i eI).frm<(l.getD (i - 1) eI).to then 13 else 0:=by
    obtain⟨n1,n2,n3,n4⟩:=hN;unfold pc;simp only;rw[if_neg (by rw[n1];simp)]
    by_cases hn:nums (l.getD i eI)<;>simp only[hn,n2,n3,n4,and_true,and_false,true_and,not_true_eq_false,not_false_eq_true,if_true,if_false]
   obtain⟨X,hX⟩:∃X,X=l.getD (i:Int).toNat eI:=⟨_,rfl⟩;have hX2:l.getD i eI=X:=hX.symm;rw[hX2]at hN hR;refine af hT (C:= []) (ι:=Nat) (fun k=>k≤4∧∀j,j<k→vo (([X.hr,X.dy,X.we,X.wk]:List Int).getD j 0)) (fun k=>aJ [(0,.d (mQ l)),(3,.d (.int .i64 i)),(4,.ptr 4 0),(11,.d (mQ l)),(12,.d (.int .i64 l.length)),(13,.d (.int .i64 i)),(47,.d (cz [X.hr,X.dy,X.we,X.wk])),(48,.d (.int .i64 4)),(49,.d (.int .i64 k))] [(4,.cells 187 ((xQ X).map .d))]) (fun k=>4 - k) 0 ⟨by omega,by omega⟩ (by subst hX;exact(by(refine ac [(4,4)] rfl rfl ?_ ?_<;>repeat' (first|exact True.intro|exact lr|exact rr|(exact ai rfl rfl)|exact au (by omega)|exact SV.le_any _|refine And.intro ?_ ?_));done)) ?_;rintro k ⟨q1,q2⟩;have e2:(k:Int).toNat=k:=Int.toNat_natCast k;clear hx hk;conv=>whnf
   repeat' (first|(refine ab (jY _ _ _) rfl rfl ?_;rotate_right;conv=>whnf)|(refine ab (wP _ _) rfl rfl ?_;rotate_right;conv=>whnf)|(refine ab (Fo _ _) rfl rfl ?_;rotate_right;conv=>whnf)|((first|refine ap (BW [_,_] (by simp)) ⟨ai (by rfl) (by rfl),trivial⟩ rfl ?_|refine aa ?_ ?_<;>intro hb<;>try simp only[am]at hb|refine bg hT xq ?_|omega|refine ao ?_|decide|assumption)<;>conv=>whnf))
   · refine .ret _ ?_;conv=>whnf
     refine⟨[],⟨?_,rfl⟩,trivial⟩;conv=>lhs;whnf
     congr 2
     refine(hbad _ hi (by decide) ?_).symm;rw[hR,if_pos];rintro⟨⟨n1,n2⟩,⟨n3,n4⟩,⟨n5,n6⟩,n7,n8⟩;have hk4:k=0∨k=1∨k=2∨k=3:=by omega
     rcases hk4 with rfl|rfl|rfl|rfl<;>(simp only[Int.toNat_natCast,List.getD_cons_zero,List.getD_cons_succ]at hb;omega)
   · exact⟨k+1,⟨by omega,aV q2 hb⟩,by omega,(by exact a7 [(4,4)])⟩
   all_goals
    have hk4:k=4:=by omega
    subst hk4;have hn:nums X:=⟨q2 0 (by omega),q2 1 (by omega),q2 2 (by omega),q2 3 (by omega)⟩;rw[if_neg (fun h=>h hn)]at hR;clear q1 q2 e2 hN
    first
     |(refine⟨i+1,⟨by omega,aL p2 (by rw[hR];clear p2 hbad hR hX hX2;simp only[e1,aE]at*;(try simp only[uZ,As]at*);grind)⟩,by omega,(by exact a7 [])⟩)
     | (refine .ret _ ?_
        conv=>whnf
        refine⟨[],⟨?_,rfl⟩,trivial⟩;conv=>lhs;whnf
        congr 2
        exact(hbad _ hi (by decide) (by rw[hR];clear p2 hbad hR hX hX2;simp only[e1,aE]at*;(try simp only[uZ,As]at*);grind)).symm)
 · refine .ret _ ?_;conv=>whnf
   refine⟨[],⟨?_,rfl⟩,trivial⟩;conv=>lhs;whnf
   congr 2
   have:i=l.length:=by omega
   subst this;unfold kK;rw[if_neg (by omega),ay p2]
theorem Ms (l:List pL)(hk:ES l):ae Tryz.prog 81 [.d (mQ l)] [] (fun x r=>x= .d (.int .i64 (kK l))∧r= []):=by
 refine aj hT Tryz.func81 Tryz.call81 ?_;conv=>whnf
 refine aa (fun h0=> ?_) (fun h0=> ?_)
 · simp at h0;conv=>whnf
   refine .ret _ ?_;conv=>whnf
   refine⟨[],⟨?_,rfl⟩,trivial⟩;conv=>lhs;whnf
   unfold kK;rw[if_pos (by omega)]
 simp at h0;conv=>whnf
 refine af hT (C:= []) (ι:=Nat) (fun i=>i≤l.length∧∀j,j<i→pc l j=0) (fun i=>aJ [(0,.d (mQ l)),(11,.d (mQ l)),(12,.d (.int .i64 l.length)),(13,.d (.int .i64 i))] []) (fun i=>l.length - i) 0 ⟨by omega,by omega⟩ (by exact a7 []) ?_;rintro i ⟨p1,p2⟩;have hx:(i:Int)<l.length→H3 (l.getD (i:Int).toNat eI):=fun hi=>hk.2 _ (al (by omega))
 have e1:=ek i
 have hbad:∀e:Int,i<l.length→e≠0→pc l i=e→kK l=e:=fun e h h1 h2=>by
  unfold kK;rw[if_neg (by omega)];exact aP h p2 h1 h2
 conv=>whnf
 repeat' (first|(refine ab (vB _ (hx (by omega))) rfl rfl ?_;rotate_right;conv=>whnf)|((first|refine aa ?_ ?_<;>intro hb<;>try simp only[am]at hb|refine bg hT Ff ?_|omega|refine ao ?_|decide|assumption)<;>conv=>whnf))
 all_goals first
  |(refine⟨i+1,⟨by omega,aL p2 (by clear p2 hbad hk hx;simp only[e1,aE]at*;unfold pc nums vo;(try simp only[zY,Aa]at*);grind)⟩,by omega,(by exact a7 [])⟩)
  | (refine .ret _ ?_
     conv=>whnf
     refine⟨[],⟨?_,rfl⟩,trivial⟩;conv=>lhs;whnf
     congr 2
     first
      |exact(hbad _ (by omega) (by decide) (by clear p2 hbad hk hx;simp only[e1,aE]at*;unfold pc nums vo;(try simp only[zY,Aa]at*);grind)).symm
      | (have:i=l.length:=by omega
         subst this
         unfold kK;rw[if_neg (by omega),ay p2]))
def DM:TL:= [(8,[(0,[]),(1,[]),(2,[]),(3,[]),(4,[]),(5,[3,4]),(6,[3,4,5]),(7,[3,4,5]),(8,[3,4]),(9,[3,4]),(10,[3,4]),(11,[]),(12,[]),(13,[])])]
def D2:TL:= [(10,[(0,[]),(1,[]),(2,[]),(3,[]),(4,[3]),(5,[3]),(6,[]),(7,[]),(8,[]),(9,[3,4,5,6,7,8]),(10,[3,4,5,6,7,8]),(12,[3,4,5,6,7,8,9,10]),(13,[3,4,5,6,7,8,9,10,12]),(14,[3,4,5,6,7,8,9,10,12]),(15,[3,4,5,6,7,8,9,10]),(16,[3,4,5,6,7,8,9,10]),(17,[3,4,5,6,7,8,9,10]),(18,[3,4,5,6,7,8,9,10,12,13,14,15,16,17]),(19,[3,4,5,6,7,8,9,10,12,13,14,15,16,17]),(11,[12,13,14,15,16,17,18,19]),(20,[]),(21,[]),(22,[]),(23,[]),(24,[]),(25,[])])]
def GU:TL:= [(10,[(0,[]),(1,[]),(2,[]),(3,[]),(4,[]),(5,[3,4]),(6,[3,4,5]),(7,[3,4,5]),(8,[3,4]),(9,[3,4]),(10,[3,4]),(11,[]),(12,[]),(13,[]),(14,[]),(15,[13,14]),(16,[13,14,15]),(17,[13,14,15]),(18,[13,14]),(19,[13,14]),(20,[13,14]),(21,[]),(22,[]),(23,[]),(24,[]),(25,[23,24]),(26,[23,24,25]),(27,[23,24,25]),(28,[23,24]),(29,[23,24]),(30,[23,24]),(31,[]),(32,[]),(33,[]),(34,[]),(35,[])])]
def Dh:TL:= [(8,[(0,[]),(1,[]),(2,[]),(3,[]),(4,[]),(5,[3,4]),(6,[3,4,5]),(7,[3,4,5]),(8,[3,4]),(9,[3,4]),(10,[3,4]),(11,[]),(12,[]),(13,[])])]
structure ym where
 key:List UInt8
 once:Int
 dy:Int
 most:Int
def II (x:ym):List DV:= [.str x.key,.int .i64 x.once,.int .i64 x.dy,.int .i64 x.most]
def sy:ym:=⟨[],0,0,0⟩
abbrev sq (l:List ym):DV:=d6 4 II sy l
def vy (l:List ym)(i:Nat):Int:=
 let x:=l.getD i sy
 if aN x.key=false then 5 else if 0<i∧dv x.key (l.getD (i - 1) sy).key=true then 7 else if ¬ ((0≤x.once∧x.once≤1000000)∧(0≤x.dy∧x.dy≤1000000)∧(-1≤x.most∧x.most≤1000000))then 1 else 0
def kB (l:List ym):Int:=if 30<l.length then 2 else a8 (vy l) l.length
def Is (x:ym):Prop:=x.key.length≤2^40
def EA (l:List ym):Prop:=l.length≤2^40∧∀x ∈ l,Is x
theorem NN (l:List ym)(hk:EA l):ae Tryz.prog 169 [.d (sq l)] [] (fun x r=>x= .d (.int .i64 (kB l))∧r= []):=by
 refine aj hT Tryz.func169 Tryz.call169 ?_;conv=>whnf
 refine aa (fun h0=> ?_) (fun h0=> ?_)
 · simp at h0;conv=>whnf
   refine .ret _ ?_;conv=>whnf
   refine⟨[],⟨?_,rfl⟩,trivial⟩;conv=>lhs;whnf
   unfold kB;rw[if_pos (by omega)]
 simp at h0;conv=>whnf
 refine af hT (C:= []) (ι:=Nat) (fun i=>i≤l.length∧∀j,j<i→vy l j=0) (fun i=>aJ [(0,.d (sq l)),(8,.d (sq l)),(9,.d (.int .i64 l.length)),(10,.d (.int .i64 i))] []) (fun i=>l.length - i) 0 ⟨by omega,by omega⟩ (by exact a7 []) ?_;rintro i ⟨p1,p2⟩;have hx:(i:Int)<l.length→Is (l.getD (i:Int).toNat sy):=fun hi=>hk.2 _ (al (by omega))
 have e1:=ek i
 have hbad:∀e:Int,i<l.length→e≠0→vy l i=e→kB l=e:=fun e h h1 h2=>by
  unfold kB;rw[if_neg (by omega)];exact aP h p2 h1 h2
 conv=>whnf
 repeat' (first|(refine ab (kV _ (hx (by omega))) rfl rfl ?_;rotate_right;conv=>whnf)|(refine ab (jY _ _ _) rfl rfl ?_;rotate_right;conv=>whnf)|((first|refine aa ?_ ?_<;>intro hb<;>try simp only[am]at hb|refine bg hT DM ?_|omega|refine ao ?_|decide|assumption)<;>conv=>whnf))
 all_goals first
  |(refine⟨i+1,⟨by omega,aL p2 (by clear p2 hbad hk hx;simp only[e1,aE]at*;unfold vy dv;grind)⟩,by omega,(by exact a7 [])⟩)
  | (refine .ret _ ?_
     conv=>whnf
     refine⟨[],⟨?_,rfl⟩,trivial⟩;conv=>lhs;whnf
     congr 2
     first
      |exact(hbad _ (by omega) (by decide) (by clear p2 hbad hk hx;simp only[e1,aE]at*;unfold vy dv;grind)).symm
      | (have:i=l.length:=by omega
         subst this
         unfold kB;rw[if_neg (by omega),ay p2]))
theorem N4 (l:List ym)(hk:EA l):ae Tryz.prog 82 [.d (sq l)] [] (fun x r=>x= .d (.int .i64 (kB l))∧r= []):=by
 refine aj hT Tryz.func82 Tryz.call82 ?_;conv=>whnf
 refine aa (fun h0=> ?_) (fun h0=> ?_)
 · simp at h0;conv=>whnf
   refine .ret _ ?_;conv=>whnf
   refine⟨[],⟨?_,rfl⟩,trivial⟩;conv=>lhs;whnf
   unfold kB;rw[if_pos (by omega)]
 simp at h0;conv=>whnf
 refine af hT (C:= []) (ι:=Nat) (fun i=>i≤l.length∧∀j,j<i→vy l j=0) (fun i=>aJ [(3,.d (.str (if i=0 then []else(l.getD (i - 1) sy).key))),(9,.d (sq l)),(10,.d (.int .i64 l.length)),(11,.d (.int .i64 i))] []) (fun i=>l.length - i) 0 ⟨by omega,by omega⟩ (by exact a7 []) ?_;rintro i ⟨p1,p2⟩;have hx:(i:Int)<l.length→Is (l.getD (i:Int).toNat sy):=fun hi=>hk.2 _ (al (by omega))
 have e1:=ek i
 have hbad:∀e:Int,i<l.length→e≠0→vy l i=e→kB l=e:=fun e h h1 h2=>by
  unfold kB;rw[if_neg (by omega)];exact aP h p2 h1 h2
 conv=>whnf
 repeat' (first|(refine ab (vB _ (hx (by omega))) rfl rfl ?_;rotate_right;conv=>whnf)|(refine ab (kf _ _ _) rfl rfl ?_;rotate_right;conv=>whnf)|((first|refine aa ?_ ?_<;>intro hb<;>try simp only[am]at hb|omega|refine ao ?_|decide|assumption)<;>conv=>whnf))
 all_goals first
  |(refine⟨i+1,⟨by omega,aL p2 (by clear p2 hbad hk hx;simp only[e1]at*;unfold vy dv;grind)⟩,by omega,ac [] rfl rfl ⟨(by rw[show(if i+1=0 then([]:List UInt8)else(l.getD (i+1 - 1) sy).key)=(l.getD (i:Int).toNat sy).key from by rw[if_neg (by omega),e1,Nat.add_sub_cancel]];exact lr),lr,lr,lr,trivial⟩ trivial⟩)
  | (refine .ret _ ?_
     conv=>whnf
     refine⟨[],⟨?_,rfl⟩,trivial⟩;conv=>lhs;whnf
     congr 2
     first
      |exact(hbad _ (by omega) (by decide) (by clear p2 hbad hk hx;simp only[e1]at*;unfold vy dv;grind [gu,iH])).symm
      | (have:i=l.length:=by omega
         subst this
         unfold kB;rw[if_neg (by omega),ay p2]))
structure Fe where
 a:List UInt8
 b:List UInt8
 cents:Int
def M1 (x:Fe):List DV:= [.str x.a,.str x.b,.int .i64 x.cents]
def Jw:Fe:=⟨[],[],0⟩
abbrev E3 (l:List Fe):DV:=d6 3 M1 Jw l
def Gz (l:List Fe)(i:Nat):Int:=
 let x:=l.getD i Jw
 let q:=l.getD (i - 1) Jw
 if aN x.a=false∨aN x.b=false then 5 else if x.a=x.b then 14 else if 0<i∧(Op.bytesLess x.a q.a=true∨(q.a=x.a∧dv x.b q.b=true))then 7 else if ¬ (0≤x.cents∧x.cents≤1000000)then 1 else 0
def pQ (l:List Fe):Int:=if 500<l.length then 2 else a8 (Gz l) l.length
def NM (x:Fe):Prop:=x.a.length≤2^40∧x.b.length≤2^40
def Ju (l:List Fe):Prop:=l.length≤2^40∧∀x ∈ l,NM x
theorem Nv (l:List Fe)(hk:Ju l):ae Tryz.prog 170 [.d (E3 l)] [] (fun x r=>x= .d (.int .i64 (pQ l))∧r= []):=by
 refine aj hT Tryz.func170 Tryz.call170 ?_;conv=>whnf
 refine aa (fun h0=> ?_) (fun h0=> ?_)
 · simp at h0;conv=>whnf
   refine .ret _ ?_;conv=>whnf
   refine⟨[],⟨?_,rfl⟩,trivial⟩;conv=>lhs;whnf
   unfold pQ;rw[if_pos (by omega)]
 simp at h0;conv=>whnf
 refine af hT (C:= []) (ι:=Nat) (fun i=>i≤l.length∧∀j,j<i→Gz l j=0) (fun i=>aJ [(0,.d (E3 l)),(8,.d (E3 l)),(9,.d (.int .i64 l.length)),(10,.d (.int .i64 i))] []) (fun i=>l.length - i) 0 ⟨by omega,by omega⟩ (by exact a7 []) ?_;rintro i ⟨p1,p2⟩;have hx:(i:Int)<l.length→NM (l.getD (i:Int).toNat Jw):=fun hi=>hk.2 _ (al (by omega))
 have e1:=ek i
 have hbad:∀e:Int,i<l.length→e≠0→Gz l i=e→pQ l=e:=fun e h h1 h2=>by
  unfold pQ;rw[if_neg (by omega)];exact aP h p2 h1 h2
 conv=>whnf
 repeat' (first|(refine ab (kV _ (hx (by omega)).1) rfl rfl ?_;rotate_right;conv=>whnf)|(refine ab (kV _ (hx (by omega)).2) rfl rfl ?_;rotate_right;conv=>whnf)|(refine ab (jY _ _ _) rfl rfl ?_;rotate_right;conv=>whnf)|(refine ab (wP _ _) rfl rfl ?_;rotate_right;conv=>whnf)|((first|refine ap (BW [_,_] (by simp)) ⟨ai (by rfl) (by rfl),trivial⟩ rfl ?_|refine aa ?_ ?_<;>intro hb<;>try simp only[am]at hb|refine bg hT D2 ?_|omega|refine ao ?_|decide|assumption)<;>conv=>whnf))
 all_goals first
  |(refine⟨i+1,⟨by omega,aL p2 (by clear p2 hbad hk hx;simp only[e1,aE]at*;unfold Gz;(try simp only[qH,xE]at*);grind)⟩,by omega,(by exact a7 [])⟩)
  | (refine .ret _ ?_
     conv=>whnf
     refine⟨[],⟨?_,rfl⟩,trivial⟩;conv=>lhs;whnf
     congr 2
     first
      |exact(hbad _ (by omega) (by decide) (by clear p2 hbad hk hx;simp only[e1,aE]at*;unfold Gz;(try simp only[qH,xE]at*);grind)).symm
      | (have:i=l.length:=by omega
         subst this
         unfold pQ;rw[if_neg (by omega),ay p2]))
theorem My (l:List Fe)(hk:Ju l):ae Tryz.prog 83 [.d (E3 l)] [] (fun x r=>x= .d (.int .i64 (pQ l))∧r= []):=by
 refine aj hT Tryz.func83 Tryz.call83 ?_;conv=>whnf
 refine aa (fun h0=> ?_) (fun h0=> ?_)
 · simp at h0;conv=>whnf
   refine .ret _ ?_;conv=>whnf
   refine⟨[],⟨?_,rfl⟩,trivial⟩;conv=>lhs;whnf
   unfold pQ;rw[if_pos (by omega)]
 simp at h0;conv=>whnf
 refine af hT (C:= []) (ι:=Nat) (fun i=>i≤l.length∧∀j,j<i→Gz l j=0) (fun i=>aJ [(0,.d (E3 l)),(8,.d (E3 l)),(9,.d (.int .i64 l.length)),(10,.d (.int .i64 i))] []) (fun i=>l.length - i) 0 ⟨by omega,by omega⟩ (by exact a7 []) ?_;rintro i ⟨p1,p2⟩;have hx:(i:Int)<l.length→NM (l.getD (i:Int).toNat Jw):=fun hi=>hk.2 _ (al (by omega))
 have e1:=ek i
 have hbad:∀e:Int,i<l.length→e≠0→Gz l i=e→pQ l=e:=fun e h h1 h2=>by
  unfold pQ;rw[if_neg (by omega)];exact aP h p2 h1 h2
 conv=>whnf
 repeat' (first|(refine ab (vB _ (hx (by omega)).1) rfl rfl ?_;rotate_right;conv=>whnf)|(refine ab (vB _ (hx (by omega)).2) rfl rfl ?_;rotate_right;conv=>whnf)|(refine ab (kf _ _ _) rfl rfl ?_;rotate_right;conv=>whnf)|((first|refine aa ?_ ?_<;>intro hb<;>try simp only[am]at hb|refine bg hT GU ?_|omega|refine ao ?_|decide|assumption)<;>conv=>whnf))
 all_goals first
  |(refine⟨i+1,⟨by omega,aL p2 (by clear p2 hbad hk hx;simp only[e1,aE]at*;unfold Gz dv;grind)⟩,by omega,(by exact a7 [])⟩)
  | (refine .ret _ ?_
     conv=>whnf
     refine⟨[],⟨?_,rfl⟩,trivial⟩;conv=>lhs;whnf
     congr 2
     first
      |exact(hbad _ (by omega) (by decide) (by clear p2 hbad hk hx;simp only[e1,aE]at*;unfold Gz dv;grind)).symm
      | (have:i=l.length:=by omega
         subst this
         unfold pQ;rw[if_neg (by omega),ay p2]))
structure vi where
 key:List UInt8
 cls:List UInt8
 frm:Int
 to:Int
 days:Int
 per:Int
def Gj (x:vi):List DV:= [.str x.key,.str x.cls,.int .i64 x.frm,.int .i64 x.to,.int .i64 x.days,.int .i64 x.per]
def m0:vi:=⟨[],[],0,0,0,0⟩
abbrev uH (l:List vi):DV:=d6 6 Gj m0 l
def vz (l:List vi)(i:Nat):Int:=
 let x:=l.getD i m0
 if aN x.key=false then 5 else if 0<i∧dv x.key (l.getD (i - 1) m0).key=true then 7 else if x.cls≠ []∧aN x.cls=false then 5 else if ¬ ((0≤x.frm∧x.frm≤x.to)∧x.to≤4001∧(1≤x.days∧x.days≤120)∧(1≤x.per∧x.per≤1000))then 1 else 0
def kA (l:List vi):Int:=if 50<l.length then 2 else a8 (vz l) l.length
def IK (x:vi):Prop:=x.key.length≤2^40∧x.cls.length≤2^40
def CF (l:List vi):Prop:=l.length≤2^40∧∀x ∈ l,IK x
theorem Nt (l:List vi)(hk:CF l):ae Tryz.prog 171 [.d (uH l)] [] (fun x r=>x= .d (.int .i64 (kA l))∧r= []):=by
 refine aj hT Tryz.func171 Tryz.call171 ?_;conv=>whnf
 refine aa (fun h0=> ?_) (fun h0=> ?_)
 · simp at h0;conv=>whnf
   refine .ret _ ?_;conv=>whnf
   refine⟨[],⟨?_,rfl⟩,trivial⟩;conv=>lhs;whnf
   unfold kA;rw[if_pos (by omega)]
 simp at h0;conv=>whnf
 refine af hT (C:= []) (ι:=Nat) (fun i=>i≤l.length∧∀j,j<i→vz l j=0) (fun i=>aJ [(0,.d (uH l)),(8,.d (uH l)),(9,.d (.int .i64 l.length)),(10,.d (.int .i64 i))] []) (fun i=>l.length - i) 0 ⟨by omega,by omega⟩ (by exact a7 []) ?_;rintro i ⟨p1,p2⟩;have hx:(i:Int)<l.length→IK (l.getD (i:Int).toNat m0):=fun hi=>hk.2 _ (al (by omega))
 have e1:=ek i
 have hbad:∀e:Int,i<l.length→e≠0→vz l i=e→kA l=e:=fun e h h1 h2=>by
  unfold kA;rw[if_neg (by omega)];exact aP h p2 h1 h2
 conv=>whnf
 repeat' (first|(refine ab (kV _ (hx (by omega)).1) rfl rfl ?_;rotate_right;conv=>whnf)|(refine ab (kV _ (hx (by omega)).2) rfl rfl ?_;rotate_right;conv=>whnf)|(refine ab (jY _ _ _) rfl rfl ?_;rotate_right;conv=>whnf)|((first|refine aa ?_ ?_<;>intro hb<;>try simp only[am]at hb|refine bg hT Dh ?_|omega|refine ao ?_|decide|assumption)<;>conv=>whnf))
 all_goals first
  |(refine⟨i+1,⟨by omega,aL p2 (by clear p2 hbad hk hx;simp only[e1,aE]at*;unfold vz dv;grind)⟩,by omega,(by exact a7 [])⟩)
  | (refine .ret _ ?_
     conv=>whnf
     refine⟨[],⟨?_,rfl⟩,trivial⟩;conv=>lhs;whnf
     congr 2
     first
      |exact(hbad _ (by omega) (by decide) (by clear p2 hbad hk hx;simp only[e1,aE]at*;unfold vz dv;grind)).symm
      | (have:i=l.length:=by omega
         subst this
         unfold kA;rw[if_neg (by omega),ay p2]))
theorem M2 (l:List vi)(hk:CF l):ae Tryz.prog 84 [.d (uH l)] [] (fun x r=>x= .d (.int .i64 (kA l))∧r= []):=by
 refine aj hT Tryz.func84 Tryz.call84 ?_;conv=>whnf
 refine aa (fun h0=> ?_) (fun h0=> ?_)
 · simp at h0;conv=>whnf
   refine .ret _ ?_;conv=>whnf
   refine⟨[],⟨?_,rfl⟩,trivial⟩;conv=>lhs;whnf
   unfold kA;rw[if_pos (by omega)]
 simp at h0;conv=>whnf
 refine af hT (C:= []) (ι:=Nat) (fun i=>i≤l.length∧∀j,j<i→vz l j=0) (fun i=>aJ [(3,.d (.str (if i=0 then []else(l.getD (i - 1) m0).key))),(9,.d (uH l)),(10,.d (.int .i64 l.length)),(11,.d (.int .i64 i))] []) (fun i=>l.length - i) 0 ⟨by omega,by omega⟩ (by exact a7 []) ?_;rintro i ⟨p1,p2⟩;have hx:(i:Int)<l.length→IK (l.getD (i:Int).toNat m0):=fun hi=>hk.2 _ (al (by omega))
 have e1:=ek i
 have hbad:∀e:Int,i<l.length→e≠0→vz l i=e→kA l=e:=fun e h h1 h2=>by
  unfold kA;rw[if_neg (by omega)];exact aP h p2 h1 h2
 conv=>whnf
 repeat' (first|(refine ab (vB _ (hx (by omega)).1) rfl rfl ?_;rotate_right;conv=>whnf)|(refine ab (vB _ (hx (by omega)).2) rfl rfl ?_;rotate_right;conv=>whnf)|(refine ab (kf _ _ _) rfl rfl ?_;rotate_right;conv=>whnf)|((first|refine aa ?_ ?_<;>intro hb<;>try simp only[am]at hb|omega|refine ao ?_|decide|assumption)<;>conv=>whnf))
 all_goals first
  |(refine⟨i+1,⟨by omega,aL p2 (by clear p2 hbad hk hx;simp only[e1]at*;unfold vz dv;grind)⟩,by omega,ac [] rfl rfl ⟨(by rw[show(if i+1=0 then([]:List UInt8)else(l.getD (i+1 - 1) m0).key)=(l.getD (i:Int).toNat m0).key from by rw[if_neg (by omega),e1,Nat.add_sub_cancel]];exact lr),lr,lr,lr,trivial⟩ trivial⟩)
  | (refine .ret _ ?_
     conv=>whnf
     refine⟨[],⟨?_,rfl⟩,trivial⟩;conv=>lhs;whnf
     congr 2
     first
      |exact(hbad _ (by omega) (by decide) (by clear p2 hbad hk hx;simp only[e1]at*;unfold vz dv;grind [gu,iH])).symm
      | (have:i=l.length:=by omega
         subst this
         unfold kA;rw[if_neg (by omega),ay p2]))
structure ow where
 key:List UInt8
 per:Int
 on:List Int
 over:Bool
def vI (x:ow):List DV:= [.str x.key,.int .i64 x.per,cz x.on,.bool x.over]
def jz:ow:=⟨[],0,[],false⟩
abbrev ip (l:List ow):DV:=d6 4 vI jz l
def gV (x:ow):bh:=.cells 198 ((vI x).map .d)
def ug (l:List Int)(k:Nat):Int:=if l.getD k 0=5∨¬ (1≤l.getD k 0∧l.getD k 0≤6)then 4 else if 0<k∧l.getD k 0≤l.getD (k - 1) 0 then 7 else 0
def CP (l:List Int):Int:=a8 (ug l) l.length
def H4 (l:List ow)(x:ow):Bool:=decide (0≤gT (fun i=>(l.getD i jz).key==x.key) l.length)
def mG (l:List ow)(i:Nat):Int:=
 let x:=l.getD i jz
 if aN x.key=false then 5 else if H4 (l.take i) x=true then 6 else if ¬ (0≤x.per∧x.per≤1000)then 1 else CP x.on
def kF (l:List ow):Int:=if 10<l.length then 2 else a8 (mG l) l.length
def Iz (x:ow):Prop:=x.key.length≤2^40∧x.on.length≤2^40
def D5 (l:List ow):Prop:=l.length≤2^40∧∀x ∈ l,Iz x
theorem NI (y x:ow):ae Tryz.prog 228 [.agg ((vI y).map .d),.ptr 1000001 0] [(1000001,gV x)] (fun v r=>v= .d (.bool (y.key==x.key))∧r= [(1000001,gV x)]):=by
 refine aj hT Tryz.func228 Tryz.call228 ?_;conv=>whnf
 refine .ret _ ?_;conv=>whnf
 exact⟨[(1000001,gV x)],⟨rfl,rfl⟩,rr,trivial⟩
theorem Ld (l:List ow)(hl:l.length≤2^40)(x:ow):ae Tryz.prog 195 [.d (ip l),.fn 228 [.ptr 1000001 0]] [(1000001,gV x)] (fun v r=>v= .d (.int .i64 (gT (fun i=>(l.getD i jz).key==x.key) l.length))∧r= [(1000001,gV x)]):=by
 refine aj hT Tryz.func195 Tryz.call195 ?_;conv=>whnf
 refine af hT (C:= []) (ι:=Nat) (fun i=>i≤l.length∧∀j,j<i→((l.getD j jz).key==x.key)=false) (fun i=>aJ [(0,.d (ip l)),(1,.fn 228 [.ptr 1000001 0]),(7,.d (.int .i64 l.length)),(8,.d (.int .i64 i))] [(1000001,gV x)]) (fun i=>l.length - i) 0 ⟨by omega,by omega⟩ (by exact a7 [(1000001,1000001)]) ?_;rintro i ⟨p1,p2⟩;have e1:=ek i;conv=>whnf
 repeat' ((first|(refine bP (NI (l.getD (i:Int).toNat jz) x) [(1000001,1000001)] ?_)|refine aa ?_ ?_<;>intro hb<;>try simp only[am]at hb|omega|refine ao ?_|decide|assumption)<;>conv=>whnf)
 · refine .ret _ ?_;conv=>whnf
   refine⟨[(1000001,gV x)],⟨?_,rfl⟩,rr,trivial⟩;conv=>lhs;whnf
   congr 2
   exact(d5 (by omega) p2 (by simpa using hb)).symm
 · exact⟨i+1,⟨by omega,aV p2 (by simpa using hb)⟩,by omega,(by exact a7 [(1000001,1000001)])⟩
 · refine .ret _ ?_;conv=>whnf
   refine⟨[(1000001,gV x)],⟨?_,rfl⟩,rr,trivial⟩;conv=>lhs;whnf
   congr 2
   have:i=l.length:=by omega
   subst this;exact(dr p2).symm
theorem Iy (l:List ow)(hl:l.length≤2^40)(x:ow):ae Tryz.prog 137 [.d (ip l),.fn 228 [.ptr 1000001 0]] [(1000001,gV x)] (fun v r=>v= .d (.bool (H4 l x))∧r= [(1000001,gV x)]):=by
 refine aj hT Tryz.func137 Tryz.call137 ?_;conv=>whnf
 repeat' ((first|(refine bP (Ld l hl x) [(1000001,1000001)] ?_)|refine aa ?_ ?_<;>intro hb<;>try simp only[am]at hb|omega|refine ao ?_|decide|assumption)<;>conv=>whnf)
 refine .ret _ ?_;conv=>whnf
 exact⟨[(1000001,gV x)],⟨rfl,rfl⟩,rr,trivial⟩
theorem L6 (y x:ow):ae Tryz.prog 138 [.agg ((vI y).map .d),.ptr 1000001 0] [(1000001,gV x)] (fun v r=>v= .d (.bool (y.key==x.key))∧r= [(1000001,gV x)]):=by
 refine aj hT Tryz.func138 Tryz.call138 ?_;conv=>whnf
 refine .ret _ ?_;conv=>whnf
 exact⟨[(1000001,gV x)],⟨rfl,rfl⟩,rr,trivial⟩
theorem Lh (l:List ow)(hl:l.length≤2^40)(x:ow):ae Tryz.prog 195 [.d (ip l),.fn 138 [.ptr 1000001 0]] [(1000001,gV x)] (fun v r=>v= .d (.int .i64 (gT (fun i=>(l.getD i jz).key==x.key) l.length))∧r= [(1000001,gV x)]):=by
 refine aj hT Tryz.func195 Tryz.call195 ?_;conv=>whnf
 refine af hT (C:= []) (ι:=Nat) (fun i=>i≤l.length∧∀j,j<i→((l.getD j jz).key==x.key)=false) (fun i=>aJ [(0,.d (ip l)),(1,.fn 138 [.ptr 1000001 0]),(7,.d (.int .i64 l.length)),(8,.d (.int .i64 i))] [(1000001,gV x)]) (fun i=>l.length - i) 0 ⟨by omega,by omega⟩ (by exact a7 [(1000001,1000001)]) ?_;rintro i ⟨p1,p2⟩;have e1:=ek i;conv=>whnf
 repeat' ((first|(refine bP (L6 (l.getD (i:Int).toNat jz) x) [(1000001,1000001)] ?_)|refine aa ?_ ?_<;>intro hb<;>try simp only[am]at hb|omega|refine ao ?_|decide|assumption)<;>conv=>whnf)
 · refine .ret _ ?_;conv=>whnf
   refine⟨[(1000001,gV x)],⟨?_,rfl⟩,rr,trivial⟩;conv=>lhs;whnf
   congr 2
   exact(d5 (by omega) p2 (by simpa using hb)).symm
 · exact⟨i+1,⟨by omega,aV p2 (by simpa using hb)⟩,by omega,(by exact a7 [(1000001,1000001)])⟩
 · refine .ret _ ?_;conv=>whnf
   refine⟨[(1000001,gV x)],⟨?_,rfl⟩,rr,trivial⟩;conv=>lhs;whnf
   congr 2
   have:i=l.length:=by omega
   subst this;exact(dr p2).symm
theorem IY (l:List ow)(hl:l.length≤2^40)(x:ow):ae Tryz.prog 137 [.d (ip l),.fn 138 [.ptr 1000001 0]] [(1000001,gV x)] (fun v r=>v= .d (.bool (H4 l x))∧r= [(1000001,gV x)]):=by
 refine aj hT Tryz.func137 Tryz.call137 ?_;conv=>whnf
 repeat' ((first|(refine bP (Lh l hl x) [(1000001,1000001)] ?_)|refine aa ?_ ?_<;>intro hb<;>try simp only[am]at hb|omega|refine ao ?_|decide|assumption)<;>conv=>whnf)
 refine .ret _ ?_;conv=>whnf
 exact⟨[(1000001,gV x)],⟨rfl,rfl⟩,rr,trivial⟩
theorem xL {l:List ow}{i:Nat}(h:i≤l.length):SV.le (.d (.ro 4 i fun j=>aR vI jz l (0+j))) (.d (ip (l.take i))):=
 cO (by rw[List.length_take];omega) (fun j hj=>by
  simp only[Nat.zero_add,aR]
  rw[List.getD_eq_getElem?_getD,List.getD_eq_getElem?_getD,List.getElem?_take_of_lt hj])
theorem gD {l:List ow}{i:Nat}{e:Int}(h0:¬ 10<l.length)(h:i<l.length)(p:∀j,j<i→mG l j=0)(h1:e≠0)(h2:mG l i=e):kF l=e:=by
 unfold kF;rw[if_neg h0];exact aP h p h1 h2
theorem Mz (l:List ow)(hk:D5 l):ae Tryz.prog 172 [.d (ip l)] [] (fun x r=>x= .d (.int .i64 (kF l))∧r= []):=by
 refine aj hT Tryz.func172 Tryz.call172 ?_;conv=>whnf
 refine aa (fun h0=> ?_) (fun h0=> ?_)
 · simp at h0;conv=>whnf
   refine .ret _ ?_;conv=>whnf
   refine⟨[],⟨?_,rfl⟩,trivial⟩;conv=>lhs;whnf
   unfold kF;rw[if_pos (by omega)]
 simp at h0;conv=>whnf
 refine af hT (C:= []) (ι:=Nat) (fun i=>i≤l.length∧∀j,j<i→mG l j=0) (fun i=>aJ [(0,.d (ip l)),(10,.d (ip l)),(11,.d (.int .i64 l.length)),(12,.d (.int .i64 i))] []) (fun i=>l.length - i) 0 ⟨by omega,by omega⟩ (by exact a7 []) ?_;rintro i ⟨p1,p2⟩;have e1:=ek i;have hK:(i:Int)<l.length→Iz (l.getD (i:Int).toNat jz):=fun hi=>hk.2 _ (al (by omega))
 have hD:=Iy (l.take (i:Int).toNat) (by rw[List.length_take];have:=hk.1;omega) (l.getD (i:Int).toNat jz);conv=>whnf
 repeat' (first|(refine ab (kV _ (hK (by omega)).1) rfl rfl ?_;rotate_right;conv=>whnf)|(refine ab (jY _ _ _) rfl rfl ?_;rotate_right;conv=>whnf)|((first|(refine dP.of hD [(1000001,4)] rfl ⟨xL (by omega),lr,trivial⟩ ⟨rr,trivial⟩ rfl rfl ?_;rintro v rout ⟨rfl,rfl⟩;refine⟨rfl,?_⟩)|refine aa ?_ ?_<;>intro hb<;>try simp only[am]at hb|omega|refine ao ?_|decide|assumption)<;>conv=>whnf))
 · refine .ret _ ?_;conv=>whnf
   refine⟨[],⟨?_,rfl⟩,trivial⟩;conv=>lhs;whnf
   congr 2
   exact(gD (by omega) (by omega) p2 (by decide) (by clear p2 hD hk hK;simp only[e1]at*;unfold mG;grind)).symm
 · refine .ret _ ?_;conv=>whnf
   refine⟨[],⟨?_,rfl⟩,trivial⟩;conv=>lhs;whnf
   congr 2
   exact(gD (by omega) (by omega) p2 (by decide) (by clear p2 hD hk hK;simp only[e1]at*;unfold mG;grind)).symm
 · refine .ret _ ?_;conv=>whnf
   refine⟨[],⟨?_,rfl⟩,trivial⟩;conv=>lhs;whnf
   congr 2
   exact(gD (by omega) (by omega) p2 (by decide) (by clear p2 hD hk hK;simp only[e1]at*;unfold mG;grind)).symm
 · have hi:i<l.length:=by omega
   have hT1:mG l i=CP (l.getD (i:Int).toNat jz).on:=by clear p2 hD hk hK;simp only[e1]at*;unfold mG;grind
   obtain⟨X,hX⟩:∃X,X=l.getD (i:Int).toNat jz:=⟨_,rfl⟩;have hXl:X.on.length≤2^40:=by rw[hX];exact(hK (by omega)).2
   rw[←hX]at hT1;refine af hT (C:= []) (ι:=Nat) (fun k=>k≤X.on.length∧∀j,j<k→ug X.on j=0) (fun k=>aJ [(0,.d (ip l)),(4,.ptr 4 0),(10,.d (ip l)),(11,.d (.int .i64 l.length)),(12,.d (.int .i64 i)),(34,.d (cz X.on)),(35,.d (.int .i64 X.on.length)),(36,.d (.int .i64 k))] [(4,gV X)]) (fun k=>X.on.length - k) 0 ⟨by omega,by omega⟩ (by subst hX;exact(by exact a7 [(4,4)])) ?_;rintro k ⟨q1,q2⟩;have e2:(k:Int).toNat=k:=Int.toNat_natCast k;have hbad:∀e:Int,k<X.on.length→e≠0→ug X.on k=e→kF l=e:=fun e h h1 h2=>gD (by omega) hi p2 h1 (by rw[hT1];exact aP h q2 h1 h2)
   clear hD hK hk;conv=>whnf
   repeat' (first|(refine ab (jY _ _ _) rfl rfl ?_;rotate_right;conv=>whnf)|((first|refine aa ?_ ?_<;>intro hb<;>try simp only[am]at hb|omega|refine ao ?_|decide|assumption)<;>conv=>whnf))
   all_goals first
    |(refine⟨k+1,⟨by omega,aL q2 (by clear p2 q2 hbad hT1 hX;simp only[e2,aE]at*;unfold ug;grind)⟩,by omega,(by exact a7 [(4,4)])⟩)
    | (refine .ret _ ?_
       conv=>whnf
       refine⟨[],⟨?_,rfl⟩,trivial⟩;conv=>lhs;whnf
       congr 2
       exact(hbad _ (by omega) (by decide) (by clear p2 q2 hbad hT1 hX;simp only[e2,aE]at*;unfold ug;grind)).symm)
    | (refine⟨i+1,⟨by omega,aL p2 ?_⟩,by omega,(by exact a7 [])⟩
       rw[hT1];have:k=X.on.length:=by omega
       subst this
       exact ay q2)
 · refine .ret _ ?_;conv=>whnf
   refine⟨[],⟨?_,rfl⟩,trivial⟩;conv=>lhs;whnf
   congr 2
   have:i=l.length:=by omega
   subst this;unfold kF;rw[if_neg (by omega),ay p2]
theorem L0 (l:List ow)(hk:D5 l):ae Tryz.prog 85 [.d (ip l)] [] (fun x r=>x= .d (.int .i64 (kF l))∧r= []):=by
 refine aj hT Tryz.func85 Tryz.call85 ?_;conv=>whnf
 refine aa (fun h0=> ?_) (fun h0=> ?_)
 · simp at h0;conv=>whnf
   refine .ret _ ?_;conv=>whnf
   refine⟨[],⟨?_,rfl⟩,trivial⟩;conv=>lhs;whnf
   unfold kF;rw[if_pos (by omega)]
 simp at h0;conv=>whnf
 refine af hT (C:= []) (ι:=Nat) (fun i=>i≤l.length∧∀j,j<i→mG l j=0) (fun i=>aJ [(0,.d (ip l)),(10,.d (ip l)),(11,.d (.int .i64 l.length)),(12,.d (.int .i64 i))] []) (fun i=>l.length - i) 0 ⟨by omega,by omega⟩ (by exact a7 []) ?_;rintro i ⟨p1,p2⟩;have e1:=ek i;have hK:(i:Int)<l.length→Iz (l.getD (i:Int).toNat jz):=fun hi=>hk.2 _ (al (by omega))
 have hD:=IY (l.take (i:Int).toNat) (by rw[List.length_take];have:=hk.1;omega) (l.getD (i:Int).toNat jz);conv=>whnf
 repeat' (first|(refine ab (vB _ (hK (by omega)).1) rfl rfl ?_;rotate_right;conv=>whnf)|(refine ab (kf _ _ _) rfl rfl ?_;rotate_right;conv=>whnf)|((first|(refine dP.of hD [(1000001,4)] rfl ⟨xL (by omega),lr,trivial⟩ ⟨rr,trivial⟩ rfl rfl ?_;rintro v rout ⟨rfl,rfl⟩;refine⟨rfl,?_⟩)|refine aa ?_ ?_<;>intro hb<;>try simp only[am]at hb|omega|refine ao ?_|decide|assumption)<;>conv=>whnf))
 · refine .ret _ ?_;conv=>whnf
   refine⟨[],⟨?_,rfl⟩,trivial⟩;conv=>lhs;whnf
   congr 2
   exact(gD (by omega) (by omega) p2 (by decide) (by clear p2 hD hk hK;simp only[e1]at*;unfold mG;grind)).symm
 · refine .ret _ ?_;conv=>whnf
   refine⟨[],⟨?_,rfl⟩,trivial⟩;conv=>lhs;whnf
   congr 2
   exact(gD (by omega) (by omega) p2 (by decide) (by clear p2 hD hk hK;simp only[e1]at*;unfold mG;grind)).symm
 · refine .ret _ ?_;conv=>whnf
   refine⟨[],⟨?_,rfl⟩,trivial⟩;conv=>lhs;whnf
   congr 2
   exact(gD (by omega) (by omega) p2 (by decide) (by clear p2 hD hk hK;simp only[e1]at*;unfold mG;grind)).symm
 · have hi:i<l.length:=by omega
   have hT1:mG l i=CP (l.getD (i:Int).toNat jz).on:=by clear p2 hD hk hK;simp only[e1]at*;unfold mG;grind
   obtain⟨X,hX⟩:∃X,X=l.getD (i:Int).toNat jz:=⟨_,rfl⟩;have hXl:X.on.length≤2^40:=by rw[hX];exact(hK (by omega)).2
   rw[←hX]at hT1;refine af hT (C:= []) (ι:=Nat) (fun k=>k≤X.on.length∧∀j,j<k→ug X.on j=0) (fun k=>aJ [(0,.d (ip l)),(4,.ptr 4 0),(10,.d (ip l)),(11,.d (.int .i64 l.length)),(12,.d (.int .i64 i)),(34,.d (cz X.on)),(35,.d (.int .i64 X.on.length)),(36,.d (.int .i64 k))] [(4,gV X)]) (fun k=>X.on.length - k) 0 ⟨by omega,by omega⟩ (by subst hX;exact(by exact a7 [(4,4)])) ?_;rintro k ⟨q1,q2⟩;have e2:(k:Int).toNat=k:=Int.toNat_natCast k;have hbad:∀e:Int,k<X.on.length→e≠0→ug X.on k=e→kF l=e:=fun e h h1 h2=>gD (by omega) hi p2 h1 (by rw[hT1];exact aP h q2 h1 h2)
   clear hD hK hk;conv=>whnf
   repeat' (first|(refine ab (kf _ _ _) rfl rfl ?_;rotate_right;conv=>whnf)|((first|refine aa ?_ ?_<;>intro hb<;>try simp only[am]at hb|omega|refine ao ?_|decide|assumption)<;>conv=>whnf))
   all_goals first
    |(refine⟨k+1,⟨by omega,aL q2 (by clear p2 q2 hbad hT1 hX;simp only[e2,aE]at*;unfold ug;grind)⟩,by omega,(by exact a7 [(4,4)])⟩)
    | (refine .ret _ ?_
       conv=>whnf
       refine⟨[],⟨?_,rfl⟩,trivial⟩;conv=>lhs;whnf
       congr 2
       exact(hbad _ (by omega) (by decide) (by clear p2 q2 hbad hT1 hX;simp only[e2,aE]at*;unfold ug;grind)).symm)
    | (refine⟨i+1,⟨by omega,aL p2 ?_⟩,by omega,(by exact a7 [])⟩
       rw[hT1];have:k=X.on.length:=by omega
       subst this
       exact ay q2)
 · refine .ret _ ?_;conv=>whnf
   refine⟨[],⟨?_,rfl⟩,trivial⟩;conv=>lhs;whnf
   congr 2
   have:i=l.length:=by omega
   subst this;unfold kF;rw[if_neg (by omega),ay p2]
def EE:TL:= [(1,[(0,[]),(1,[]),(3,[0,1]),(4,[0,1]),(6,[0,1,3,4]),(7,[0,1,3,4]),(9,[0,1,3,4,6,7]),(10,[0,1,3,4,6,7]),(12,[0,1,3,4,6,7,9,10]),(13,[0,1,3,4,6,7,9,10]),(2,[3,4,6,7,9,10,12,13]),(5,[6,7,9,10,12,13]),(8,[9,10,12,13]),(11,[12,13]),(14,[]),(15,[]),(16,[]),(17,[])])]
def zJ:TL:= [(1,[(0,[]),(1,[]),(3,[0,1]),(4,[0,1]),(6,[0,1,3,4]),(7,[0,1,3,4]),(9,[0,1,3,4,6,7]),(10,[0,1,3,4,6,7]),(12,[0,1,3,4,6,7,9,10]),(13,[0,1,3,4,6,7,9,10]),(17,[0,1,3,4,6,7,9,10,12,13]),(2,[3,4,6,7,9,10,12,13,17]),(5,[6,7,9,10,12,13,17]),(8,[9,10,12,13,17]),(11,[12,13,17]),(14,[17]),(15,[17]),(16,[17])])]
def FD:TL:= [(1,[(0,[]),(1,[]),(3,[0,1]),(4,[0,1]),(6,[0,1,3,4]),(7,[0,1,3,4]),(2,[3,4,6,7]),(5,[6,7]),(8,[]),(9,[]),(10,[]),(11,[])])]
structure B6 where
 rat:List pL
 ext:List ym
 fe:List Fe
 cod:List vi
 tax:List ow
def EN (t:B6):List SV:= [.d (mQ t.rat),.d (sq t.ext),.d (E3 t.fe),.d (uH t.cod),.d (ip t.tax)]
def zW (t:B6):Prop:=ES t.rat∧EA t.ext∧Ju t.fe∧CF t.cod∧D5 t.tax
def ET (t:B6):Int:=ah [kK t.rat,kB t.ext,pQ t.fe,kA t.cod,kF t.tax]
structure EW where
 free:Int
 km:Int
 eig:Int
 grc:Int
 hr:Int
 dy:Int
 dep:Int
def yw (d:EW):List DV:= [.int .i64 d.free,.int .i64 d.km,.int .i64 d.eig,.int .i64 d.grc,.int .i64 d.hr,.int .i64 d.dy,.int .i64 d.dep]
def yD (d:EW):Int:=if(0≤d.free∧d.free≤10000)∧(0≤d.km∧d.km≤100000)∧(0≤d.eig∧d.eig≤100000)∧(0≤d.grc∧d.grc≤1440)∧(0≤d.hr∧d.hr≤1000000)∧(0≤d.dy∧d.dy≤1000000)∧(0≤d.dep∧d.dep≤1000000)then 0 else 1
theorem m9:∀ {R:List Int} {i:Nat},i<R.length→(∀j,j<i→R.getD j 0=0)→R.getD i 0≠0→ah R=R.getD i 0
 | [],i,h,_,_=>by simp at h
 |x::R,0,_,_,h=>by simp only[List.getD_cons_zero]at h ⊢;rw[ah,if_neg h]
 | x::R,i+1,h,p,q=>by
   have h0:x=0:=p 0 (by omega);simp only[List.getD_cons_succ]at q ⊢;rw[ah,if_pos h0];exact m9 (by simpa using h) (fun j hj=>by have:=p (j+1) (by omega);simpa using this) q
theorem lH:∀ {R:List Int},(∀j,j<R.length→R.getD j 0=0)→ah R=0
 | [],_=>rfl
 | x::R,p=>by
   have h0:x=0:=p 0 (by simp);rw[ah,if_pos h0];exact lH (fun j hj=>by have:=p (j+1) (by simpa using hj);simpa using this)
theorem Pb (t:B6)(hk:zW t):ae Tryz.prog 115 [.agg (EN t)] [] (fun x r=>x= .d (.int .i64 (ET t))∧r= []):=by
 refine aj hT Tryz.func115 Tryz.call115 ?_;conv=>whnf
 repeat' (first|(refine ab (NH _ hk.1) rfl rfl ?_;rotate_right;conv=>whnf)|(refine ab (NN _ hk.2.1) rfl rfl ?_;rotate_right;conv=>whnf)|(refine ab (Nv _ hk.2.2.1) rfl rfl ?_;rotate_right;conv=>whnf)|(refine ab (Nt _ hk.2.2.2.1) rfl rfl ?_;rotate_right;conv=>whnf)|(refine ab (Mz _ hk.2.2.2.2) rfl rfl ?_;rotate_right;conv=>whnf)|((first|refine ap (kM [_,_,_,_,_] (by simp)) ⟨ai (by rfl) (by rfl),trivial⟩ rfl ?_|refine aa ?_ ?_<;>intro hb<;>try simp only[am]at hb|refine bg hT EE ?_|omega|refine ao ?_|decide|assumption)<;>conv=>whnf))
 refine .ret _ ?_;conv=>whnf
 refine⟨[],⟨?_,rfl⟩,trivial⟩;conv=>lhs;whnf
 rfl
theorem OE (t:B6)(hk:zW t):ae Tryz.prog 38 [.agg (EN t)] [] (fun x r=>x= .d (.int .i64 (ET t))∧r= []):=by
 have h1:=Ms _ hk.1;have h2:=N4 _ hk.2.1;have h3:=My _ hk.2.2.1;have h4:=M2 _ hk.2.2.2.1;have h5:=L0 _ hk.2.2.2.2;unfold ET;generalize kK t.rat=r1 at h1 ⊢;generalize kB t.ext=r2 at h2 ⊢;generalize pQ t.fe=r3 at h3 ⊢;generalize kA t.cod=r4 at h4 ⊢;generalize kF t.tax=r5 at h5 ⊢;refine aj hT Tryz.func38 Tryz.call38 ?_;conv=>whnf
 repeat' (first|(refine ab (h1) rfl rfl ?_;rotate_right;conv=>whnf)|(refine ab (h2) rfl rfl ?_;rotate_right;conv=>whnf)|(refine ab (h3) rfl rfl ?_;rotate_right;conv=>whnf)|(refine ab (h4) rfl rfl ?_;rotate_right;conv=>whnf)|(refine ab (h5) rfl rfl ?_;rotate_right;conv=>whnf)|((first|refine aa ?_ ?_<;>intro hb<;>try simp only[am]at hb|refine bg hT zJ ?_|omega|refine ao ?_|decide|assumption)<;>conv=>whnf))
 obtain⟨R,hR⟩:∃R:List Int,R= [r1,r2,r3,r4,r5]:=⟨_,rfl⟩;have hRl:R.length=5:=by rw[hR];rfl
 rw[←hR];refine af hT (C:= []) (ι:=Nat) (fun i=>i≤5∧∀j,j<i→R.getD j 0=0) (fun i=>aJ [(20,.d (cz R)),(21,.d (.int .i64 5)),(22,.d (.int .i64 i))] []) (fun i=>5 - i) 0 ⟨by omega,by omega⟩ (by subst hR;exact(by(refine ac [] rfl rfl ?_ ?_<;>repeat' (first|exact True.intro|exact lr|exact rr|(exact ai rfl rfl)|exact au (by omega)|exact SV.le_any _|refine And.intro ?_ ?_));done)) ?_;rintro i ⟨p1,p2⟩;have e1:=ek i;conv=>whnf
 repeat' ((first|refine aa ?_ ?_<;>intro hb<;>try simp only[am]at hb|refine bg hT zJ ?_|omega|refine ao ?_|decide|assumption)<;>conv=>whnf)
 · refine .ret _ ?_;conv=>whnf
   refine⟨[],⟨?_,rfl⟩,trivial⟩;conv=>lhs;whnf
   congr 2
   exact(m9 (by omega) p2 hb).symm
 · exact⟨i+1,⟨by omega,aV p2 hb⟩,by omega,(by exact a7 [])⟩
 · refine .ret _ ?_;conv=>whnf
   refine⟨[],⟨?_,rfl⟩,trivial⟩;conv=>lhs;whnf
   congr 2
   exact(lH (fun j hj=>p2 j (by omega))).symm
theorem OM (d:EW):ae Tryz.prog 116 [.agg ((yw d).map .d)] [] (fun x r=>x= .d (.int .i64 (yD d))∧r= []):=by
 refine aj hT Tryz.func116 Tryz.call116 ?_;conv=>whnf
 repeat' (first|(refine ab (jY _ _ _) rfl rfl ?_;rotate_right;conv=>whnf)|(refine ab (j9 _ _) rfl rfl ?_;rotate_right;conv=>whnf)|((first|refine aa ?_ ?_<;>intro hb<;>try simp only[am]at hb|omega|refine ao ?_|decide|assumption)<;>conv=>whnf))
 all_goals
  refine .ret _ ?_;conv=>whnf
  refine⟨[],⟨?_,rfl⟩,trivial⟩;conv=>lhs;whnf
  congr 2
  unfold yD;grind
theorem On (d:EW):ae Tryz.prog 39 [.agg ((yw d).map .d)] [] (fun x r=>x= .d (.int .i64 (yD d))∧r= []):=by
 refine aj hT Tryz.func39 Tryz.call39 ?_;conv=>whnf
 repeat' (first|(refine ab (kf _ _ _) rfl rfl ?_;rotate_right;conv=>whnf)|((first|refine aa ?_ ?_<;>intro hb<;>try simp only[am]at hb|omega|refine ao ?_|decide|assumption)<;>conv=>whnf))
 all_goals
  refine .ret _ ?_;conv=>whnf
  refine⟨[],⟨?_,rfl⟩,trivial⟩;conv=>lhs;whnf
  congr 2
  unfold yD;grind
structure df where
 flt:nc
 tar:B6
 dea:EW
def Kp (f:nc):List SV:= [.d (iT f.sta),.d (dI f.cls),.d (mg f.veh),.d (vl f.plt)]
def hou (h:df):SV:=.agg (Kp h.flt++EN h.tar++(yw h.dea).map .d)
def oa (h:df):Prop:=qF h.flt∧zW h.tar
def gi (h:df):Int:=ah [iL h.flt,ET h.tar,yD h.dea]
theorem Li (h:df)(hk:oa h):ae Tryz.prog 67 [hou h] [] (fun x r=>x= .d (.int .i64 (gi h))∧r= []):=by
 refine aj hT Tryz.func67 Tryz.call67 ?_;conv=>whnf
 repeat' (first|(refine ab (L5 h.flt hk.1) rfl rfl ?_;rotate_right;conv=>whnf)|(refine ab (Pb h.tar hk.2) rfl rfl ?_;rotate_right;conv=>whnf)|(refine ab (OM h.dea) rfl rfl ?_;rotate_right;conv=>whnf)|((first|refine ap (kM [_,_,_] (by simp)) ⟨ai (by rfl) (by rfl),trivial⟩ rfl ?_|refine aa ?_ ?_<;>intro hb<;>try simp only[am]at hb|refine bg hT FD ?_|omega|refine ao ?_|decide|assumption)<;>conv=>whnf))
 refine .ret _ ?_;conv=>whnf
 refine⟨[],⟨?_,rfl⟩,trivial⟩;conv=>lhs;whnf
 rfl
end Go.Proofs.YtafhoijegjmdcaaGreatDoor
namespace Go.Proofs
open Go.Shelf
end Go.Proofs
set_option maxRecDepth 20000
namespace Go.Proofs.YtafhoijegjmdcaaGreatDoor
open Go Go.Eng Go.RowKit
structure aZ where
 tm:Int
 desk:List UInt8
 no:Int
 words:List UInt8
def en:aZ→List DV:=fun x=> [.int .i64 x.tm,.str x.desk,.int .i64 x.no,.str x.words]
def bH:aZ:=⟨0,[],0,[]⟩
abbrev fN (l:List aZ):DV:=d6 4 en bH l
def Ik (n:Nat)(L:Nat→Int)(a:Int)(c:Int)(r:List (Nat×bh)):Prop:=∃b,a≤b∧b≤a+c∧r= [(1000000,bd n L b),(1000009,KX)]
end Go.Proofs.YtafhoijegjmdcaaGreatDoor
namespace Go.Proofs
open Go.Shelf
def oX:Go.Shelf.Ren:=⟨fun|106=>65|213=>112|265=>162|n=>n,fun|9=>9|3=>3|n=>n,fun|n=>n⟩
theorem Tryz.lays106:Go.Proofs.Lays.n106 Tryz.prog oX:={
 mixed:=by kernel_rfl
 f106:=Tryz.func65.trans (congrArg some (by kernel_rfl))
 f213:=Tryz.func112.trans (congrArg some (by kernel_rfl))
 f265:=Tryz.func162.trans (congrArg some (by kernel_rfl))
 t3:=Tryz.underlying3
 a3:=Tryz.isAgg3
 z3:=Tryz.sizeOf3
 v3:=Tryz.zeroValue3
 t9:=Tryz.underlying9
 a9:=Tryz.isAgg9
 z9:=Tryz.sizeOf9
 v9:=Tryz.zeroValue9}
end Go.Proofs
set_option maxRecDepth 20000
namespace Go.Proofs.YtafhoijegjmdcaaGreatDoor
open Go Go.Eng Go.RowKit
theorem El:∀ (a b:List UInt8),Lib.compareBytes a b=dq a b:=by
 intro a
 induction a with
 |nil=>intro b;cases b<;>simp[Lib.compareBytes,dq,Op.bytesLess]
 | cons x a ih=>
   intro b
   cases b with
   |nil=>simp[Lib.compareBytes,dq,Op.bytesLess]
   | cons y b=>
     have:=ih b;unfold dq at this ⊢;simp only[Lib.compareBytes,Op.bytesLess];grind
theorem IX (a b:List UInt8):ae Tryz.prog 65 [.d (.str a),.d (.str b)] [] (fun x r=>x= .d (.int .i64 (dq a b))∧r= []):=by
 refine gz Tryz.call65 (fun G β w vs _ hl hd=> ?_)
 match vs,hl with
 | [u,v],_=>
   have hu:=hd 0 _ _ rfl rfl;have hv:=hd 1 _ _ rfl rfl
   cases hu with|d _ _ hu=>cases hu with|str _=>
   cases hv with|d _ _ hv=>cases hv with|str _=>
   refine⟨.int .i64 (Lib.compareBytes a b),fun G β=> ?_,(Go.Proofs.Any.strings_Compare Go.Proofs.Tryz.lays106 ⟨a.toArray⟩ ⟨b.toArray⟩ w).mono ?_⟩
   · rw[←El];exact .d _ _ (.int _ _)
   · rintro e w' ⟨he,rfl⟩;exact⟨he,Below.refl _ _⟩
end Go.Proofs.YtafhoijegjmdcaaGreatDoor
namespace Go.Proofs
open Go.Shelf
end Go.Proofs
set_option maxRecDepth 20000
namespace Go.Proofs.YtafhoijegjmdcaaGreatDoor
open Go Go.Eng Go.RowKit
end Go.Proofs.YtafhoijegjmdcaaGreatDoor
set_option maxRecDepth 20000
namespace Go.Proofs.YtafhoijegjmdcaaGreatDoor
open Go Go.Eng Go.RowKit
end Go.Proofs.YtafhoijegjmdcaaGreatDoor
set_option maxRecDepth 20000
namespace Go.Proofs.YtafhoijegjmdcaaGreatDoor
open Go Go.Eng Go.RowKit
def su (F:Nat→Int):Nat→Int
 |0=>0
 |n+1=>su F n+F n
theorem fg {F H:Nat→Int}:∀ {n:Nat},(∀k,k<n→F k=H k)→su F n=su H n
 |0,_=>rfl
 |n+1,h=>by rw[su,su,fg (fun k hk=>h k (by omega)),h n (by omega)]
theorem CB {F H:Nat→Int}:∀ {n:Nat},(∀k,k<n→F k≤H k)→su F n≤su H n
 |0,_=>Int.le_refl _
 | n+1,h=>by
   have h1:=CB (n:=n) (fun k hk=>h k (by omega));have h2:=h n (by omega);rw[su,su];omega
theorem Cf (F H:Nat→Int):∀n,su (fun k=>F k+H k) n=su F n+su H n
 |0=>rfl
 |n+1=>by rw[su,su,su,Cf F H n];omega
theorem vc (F H:Nat→Int):∀n,su (fun k=>F k - H k) n=su F n - su H n
 |0=>rfl
 |n+1=>by rw[su,su,su,vc F H n];omega
theorem x3 (a:Int)(F:Nat→Int):∀n,su (fun k=>a*F k) n=a*su F n
 |0=>by simp[su]
 |n+1=>by rw[su,su,x3 a F n,Int.mul_add]
theorem nn {F:Nat→Int}{n:Nat}(h:∀k,k<n→F k=0):su F n=0:=by
 have:∀m,su (fun _=>0) m=0:=fun m=>by
  induction m with
  |zero=>rfl
  |succ m ih=>rw[su,ih];rfl
 rw[fg (H:=fun _=>0) h,this]
theorem JX {F:Nat→Int}{n:Nat}(h:∀k,k<n→0≤F k):0≤su F n:=by
 have:=CB (F:=fun _=>0) (H:=F) (n:=n) h;rwa [nn (fun _ _=>rfl)]at this
theorem Ef {a n:Nat}{x:Int}(h:a<n):su (fun v=>if a=v then x else 0) n=x:=by
 induction n with
 |zero=>omega
 | succ n ih=>
   rw[su]
   by_cases q:a=n
   · subst q;rw[if_pos rfl,nn (fun k hk=>if_neg (by omega))];omega
   · rw[if_neg q,ih (by omega)];omega
theorem zP (F:Nat→Nat→Int)(n:Nat):∀m,su (fun k=>su (fun v=>F k v) n) m=su (fun v=>su (fun k=>F k v) m) n
 |0=>by rw[su];exact(nn fun _ _=>rfl).symm
 |m+1=>by rw[su,zP F n m,←Cf];rfl
theorem HP {F:Nat→Int}{n a:Nat}(h:∀k,k<n→0≤F k)(ha:a<n)(hp:0<F a):0<su F n:=by
 induction n with
 |zero=>omega
 | succ n ih=>
   rw[su];have h1:=JX (n:=n) (F:=F) (fun k hk=>h k (by omega));have h2:=h n (by omega)
   by_cases q:a=n
   · subst q;omega
   · have:=ih (fun k hk=>h k (by omega)) (by omega);omega
structure Nw where
 K:Nat
 N:Nat
 fr:Nat→Nat
 to:Nat→Nat
 c:Nat→Int
structure Nw.Ok (G:Nw):Prop where
 fr:∀k,k<G.K→G.fr k<G.N
 to:∀k,k<G.K→G.to k<G.N
 c0:∀k,k<G.K→0≤G.c k
def Nw.net (G:Nw)(f:Nat→Int)(v:Nat):Int:=su (fun k=>(if G.fr k=v then f k else 0) - (if G.to k=v then f k else 0)) G.K
def Nw.cost (G:Nw)(f:Nat→Int):Int:=su (fun k=>f k*G.c k) G.K
theorem Nw.net_sub (G:Nw)(f g:Nat→Int)(v:Nat):G.net (fun k=>g k - f k) v=G.net g v - G.net f v:=by
 unfold Nw.net;rw[←vc];refine fg fun k _=> ?_
 by_cases a:G.fr k=v<;>by_cases b:G.to k=v<;>simp[a,b]<;>omega
theorem GA {G:Nw}(h:G.Ok)(d:Nat→Int)(p:Nat→Int):su (fun k=>d k*(p (G.to k) - p (G.fr k))) G.K= - su (fun v=>p v*G.net d v) G.N:=by
 have e:∀v,p v*G.net d v=su (fun k=>(if G.fr k=v then p v*d k else 0) - (if G.to k=v then p v*d k else 0)) G.K:=fun v=>by
  unfold Nw.net;rw[←x3];refine fg fun k _=> ?_
  by_cases a:G.fr k=v<;>by_cases b:G.to k=v<;>simp[a,b,Int.mul_sub,Int.mul_neg]
 rw[fg (fun v _=>e v),zP (fun v k=>(if G.fr k=v then p v*d k else 0) - (if G.to k=v then p v*d k else 0))]
 have e2:su (fun k=>d k*(p (G.to k) - p (G.fr k))) G.K=su (fun k=>0 - (p (G.fr k)*d k - p (G.to k)*d k)) G.K:=fg fun k _=>by
  rw[Int.mul_sub,Int.mul_comm (d k),Int.mul_comm (d k)];omega
 rw[e2,vc,nn (fun _ _=>rfl),Int.zero_sub];congr 1
 refine fg fun k hk=> ?_
 rw[vc]
 have f1:su (fun v=>if G.fr k=v then p v*d k else 0) G.N=p (G.fr k)*d k:=by
  rw[fg (H:=fun v=>if G.fr k=v then p (G.fr k)*d k else 0) (fun v _=>by by_cases q:G.fr k=v<;>simp[q])];exact Ef (h.fr k hk)
 have f2:su (fun v=>if G.to k=v then p v*d k else 0) G.N=p (G.to k)*d k:=by
  rw[fg (H:=fun v=>if G.to k=v then p (G.to k)*d k else 0) (fun v _=>by by_cases q:G.to k=v<;>simp[q])];exact Ef (h.to k hk)
 rw[f1,f2]
def Nw.Fills (G:Nw)(have_ want:Nat→Int)(g:Nat→Int):Prop:=(∀k,k<G.K→0≤g k)∧∀v,v<G.N→- want v≤G.net g v∧G.net g v≤have_ v - want v
structure Nw.St (G:Nw)(have_ want f left lack:Nat→Int):Prop where
 f0:∀k,k<G.K→0≤f k
 left0:∀v,v<G.N→0≤left v∧left v≤have_ v
 lack0:∀v,v<G.N→0≤lack v∧lack v≤want v
 net:∀v,v<G.N→G.net f v=(have_ v - left v) - (want v - lack v)
theorem JF {G:Nw}(h:G.Ok){have_ want f left lack:Nat→Int}(hs:G.St have_ want f left lack)(U:Nat→Bool)(h1:∀k,k<G.K→U (G.to k)=true→U (G.fr k)=true)(h2:∀k,k<G.K→0<f k→U (G.fr k)=true→U (G.to k)=true)
 (h3:∀v,v<G.N→0<left v→U v=false){a:Nat}(ha:a<G.N)(hU:U a=true)(hla:0<lack a)(g:Nat→Int):¬G.Fills have_ want g:=by
 intro hg;have hd:=GA h (fun k=>g k - f k) (fun v=>if U v=true then 1 else 0)
 have e1:su (fun k=>(g k - f k)*((if U (G.to k)=true then 1 else 0) - (if U (G.fr k)=true then 1 else 0))) G.K≤0:=by
  have:=CB (n:=G.K) (F:=fun k=>(g k - f k)*((if U (G.to k)=true then 1 else 0) - (if U (G.fr k)=true then 1 else 0))) (H:=fun _=>0) (fun k hk=>by
   have g0:=hg.1 k hk;have f0:=hs.f0 k hk;have a1:=h1 k hk;have a2:=h2 k hk
   cases q1:U (G.to k)<;>cases q2:U (G.fr k)<;>rw[q1,q2]at a1 a2<;>simp at a1 a2 ⊢<;>omega)
  rwa [nn (fun _ _=>rfl)]at this
 have e2:0<su (fun v=>(if U v=true then 1 else 0)* - G.net (fun k=>g k - f k) v) G.N:=by
  refine HP (a:=a) (fun v hv=> ?_) ha ?_
  · rw[G.net_sub f g v];have n1:=hs.net v hv;have n2:=hg.2 v hv;have n3:=hs.lack0 v hv;have n4:=hs.left0 v hv;have n5:=h3 v hv;cases q:U v
    · simp
    · rcases Int.lt_or_le 0 (left v)with w|w
      · have:=n5 w;rw[q]at this;cases this
      · simp;omega
  · rw[G.net_sub f g a,hU];have n1:=hs.net a ha;have n2:=hg.2 a ha;have n4:=hs.left0 a ha;have n5:=h3 a ha;rcases Int.lt_or_le 0 (left a)with w|w
    · have:=n5 w;rw[hU]at this;cases this
    · simp;omega
 have e3:su (fun v=>(if U v=true then(1:Int)else 0)* - G.net (fun k=>g k - f k) v) G.N= - su (fun v=>(if U v=true then 1 else 0)*G.net (fun k=>g k - f k) v) G.N:=by
  rw[show(- su (fun v=>(if U v=true then(1:Int)else 0)*G.net (fun k=>g k - f k) v) G.N)=(-1)*su (fun v=>(if U v=true then(1:Int)else 0)*G.net (fun k=>g k - f k) v) G.N by omega,←x3];exact fg fun v _=>by rw[Int.mul_neg];omega
 omega
def Ot (G:Nw)(e:Nat×Bool):Nat:=if e.2=true then G.fr e.1 else G.to e.1
def Ow (G:Nw)(e:Nat×Bool):Nat:=if e.2=true then G.to e.1 else G.fr e.1
def KY {α:Type}(c:α→α→Int):List α→List α→Int
 | [],[]=>0
 | [],_::_=> -1
 |_::_,[]=>1
 |a::l,b::m=>if c a b=0 then KY c l m else c a b
structure LI (μ:Type) where
 l:List μ
 cost:Int
def JZ {μ:Type}(c:μ→μ→Int)(p q:LI μ):Bool:=if p.cost≠q.cost then decide (p.cost<q.cost)else decide (KY c p.l q.l<0)
abbrev KC (μ:Type):=List UInt8→Option (LI μ)
def Hx {μ:Type}(c:μ→μ→Int)(M:KC μ)(S:List UInt8→LI μ→Prop):Prop:=
 ∀ σ,match M σ with
  |none=>∀p,¬S σ p
  |some q=>S σ q∧∀p,S σ p→JZ c p q=false
theorem HD {μ:Type}{c:μ→μ→Int}{M:KC μ}{S S':List UInt8→LI μ→Prop}(h:Hx c M S)(hs:∀σ p,S σ p↔S' σ p):Hx c M S':=by
 intro σ;have:=h σ
 cases q:M σ with
 |none=>rw[q]at this;exact fun p hp=>this p ((hs σ p).2 hp)
 |some r=>rw[q]at this;exact⟨(hs σ r).1 this.1,fun p hp=>this.2 p ((hs σ p).2 hp)⟩
structure O0 (μ:Type) where
 way:Nat→Option Int
 mv:Nat→Int→μ
 many:Int
structure Lay {μ:Type}(G:Nw)(B:Nat→Bool)(S J:Nat)(ns nw:Nat→Nat)(stn:Nat→O0 μ)(m:Nat→Int→μ)(pos:Nat→Nat→Nat):Prop where
 pend:pos S 0=G.K
 pnext:∀i,i<S→pos (i+1) 0=pos i J
 pnone:∀i k,i<S→k<J→(stn i).way k=none→pos i (k+1)=pos i k
 psome:∀i k car,i<S→k<J→(stn i).way k=some car→pos i (k+1)=pos i k+1∧pos i k<G.K∧G.fr (pos i k)=ns i∧G.to (pos i k)=nw k∧G.c (pos i k)=car∧∀n,m (pos i k) n=(stn i).mv k n
 ns1:∀i,i<S→ns i<G.N∧B (ns i)=true
 ns2:∀i j,i<S→j<S→ns i=ns j→i=j
 nw1:∀k,k<J→nw k<G.N∧B (nw k)=false
 nw2:∀k j,k<J→j<J→nw k=nw j→k=j
 all:∀v,v<G.N→B v=false→∃k,k<J∧v=nw k
theorem F7 (a b:List UInt8):dq a b= - dq b a:=by
 unfold dq
 by_cases e:a=b
 · subst e;simp[eA]
 · cases q:Op.bytesLess a b
   · have:=fY _ _ q e;simp[this]
   · have:Op.bytesLess b a=false:=by
      cases w:Op.bytesLess b a
      · rfl
      · have:=fu q w;rw[eA]at this;cases this
     simp[this]
theorem GY (a b:Int):bJ a b= - bJ b a:=by unfold bJ;grind
theorem At {a b:List UInt8}:dq a b<0↔Op.bytesLess a b=true:=by
 unfold dq;constructor
 · intro h;by_cases q:Op.bytesLess a b=true
   · exact q
   · rw[if_neg q]at h;split at h<;>omega
 · intro h;rw[if_pos h];omega
theorem mb {a b:List UInt8}:dq a b=0↔a=b:=by
 constructor
 · intro h
   by_cases e:a=b
   · exact e
   · exfalso;cases q:Op.bytesLess a b
     · have h2:=fY _ _ q e;unfold dq at h;rw[q,h2]at h;simp at h
     · have:=At.2 q;omega
 · rintro rfl;unfold dq;simp[eA]
theorem yp {a b c:List UInt8}(h1:dq a b<0)(h2:dq b c<0):dq a c<0:=by
 rw[At]at*;exact fu h1 h2
theorem qx {a b:Int}:bJ a b<0↔a<b:=by unfold bJ;split<;>(try split)<;>omega
theorem dw {a b:Int}:bJ a b=0↔a=b:=by unfold bJ;split<;>(try split)<;>omega
def Fr:TL:= [(1,[(0,[]),(1,[]),(2,[0,1]),(3,[0,1]),(5,rg 4),(6,rg 4),(7,[0,1,2,3,5,6]),(8,[0,1,2,3,5,6]),(10,[0,1,2,3,5,6,7,8]),(11,[0,1,2,3,5,6,7,8]),(12,[0,1,2,3,5,6,7,8,10,11]),(13,[0,1,2,3,5,6,7,8,10,11]),(4,[5,6,7,8,10,11,12,13]),(9,[10,11,12,13]),(14,[]),(15,[]),(16,[]),(17,[])])]
def IJ (s:List UInt8):Bool:=s.all fun b=>decide (32≤b.toNat)&&decide (b.toNat≤126)
theorem vv {s:List UInt8}:IJ s=true↔∀j,j<s.length→32≤(s.getD j 0).toNat∧(s.getD j 0).toNat≤126:=by
 unfold IJ;rw[List.all_eq_true];constructor
 · intro h j hj;have:=h _ (al (x:=0) hj);simpa using this
 · intro h x hx;obtain⟨i,hi,rfl⟩:=bI (d:=0) hx;simpa using h i hi
theorem tZ {s:List UInt8}{i:Nat}(hi:i<s.length)(h:¬ (32≤(s.getD i 0).toNat∧(s.getD i 0).toNat≤126)):IJ s=false:=by
 cases q:IJ s with
 |false=>rfl
 |true=>exact absurd (vv.1 q i hi) h
theorem JQ (s:List UInt8)(hl:s.length≤2^40):ae Tryz.prog 120 [.d (.str s)] [] (fun x r=>x= .d (.bool (IJ s))∧r= []):=by
 refine aj hT Tryz.func120 Tryz.call120 ?_;conv=>whnf
 refine af hT (C:= []) (ι:=Nat) (fun i=>i≤s.length∧∀j,j<i→32≤(s.getD j 0).toNat∧(s.getD j 0).toNat≤126) (fun i=>aJ [(0,.d (.str s)),(5,.d (.int .i64 s.length)),(6,.d (.int .i64 i))] []) (fun i=>s.length - i) 0 ⟨by omega,by omega⟩ (by exact a7 []) ?_;rintro i ⟨p1,p2⟩;have e1:=ek i;conv=>whnf
 repeat' ((first|refine aa ?_ ?_<;>intro hb<;>try simp only[am]at hb|omega|refine ao ?_|decide|assumption)<;>conv=>whnf)
 · refine .ret _ ?_;conv=>whnf
   refine⟨[],⟨?_,rfl⟩,trivial⟩;conv=>lhs;whnf
   rw[tZ (i:=i) (by omega) (by omega)]
 · refine .ret _ ?_;conv=>whnf
   refine⟨[],⟨?_,rfl⟩,trivial⟩;conv=>lhs;whnf
   rw[tZ (i:=i) (by omega) (by omega)]
 · exact⟨i+1,⟨by omega,aV p2 (by omega)⟩,by omega,(by exact a7 [])⟩
 · refine .ret _ ?_;conv=>whnf
   refine⟨[],⟨?_,rfl⟩,trivial⟩;conv=>lhs;whnf
   have:i=s.length:=by omega
   subst this;rw[vv.2 p2]
def fa (a b:aZ):Int:=ah [bJ a.tm b.tm,dq a.desk b.desk,bJ a.no b.no]
theorem Hu (a b:aZ):ae Tryz.prog 92 [.agg ((en a).map .d),.agg ((en b).map .d)] [] (fun x r=>x= .d (.int .i64 (fa a b))∧r= []):=by
 refine aj hT Tryz.func92 Tryz.call92 ?_;conv=>whnf
 repeat' (first|(refine ab (wP _ _) rfl rfl ?_;rotate_right;conv=>whnf)|(refine ab (Fo _ _) rfl rfl ?_;rotate_right;conv=>whnf)|((first|refine ap (BW [_,_,_] (by simp)) ⟨ai (by rfl) (by rfl),trivial⟩ rfl ?_|refine aa ?_ ?_<;>intro hb<;>try simp only[am]at hb|refine bg hT Fr ?_|omega|refine ao ?_|decide|assumption)<;>conv=>whnf))
 refine .ret _ ?_;conv=>whnf
 refine⟨[],⟨?_,rfl⟩,trivial⟩;conv=>lhs;whnf
 rfl
theorem KV (n:Int):ae Tryz.prog 64 [.d (.int .i64 n)] [] (fun x r=>x= .d (.int .i64 (bJ n 0))∧r= []):=by
 refine aj hT Tryz.func64 Tryz.call64 ?_;conv=>whnf
 repeat' ((first|refine aa ?_ ?_<;>intro hb<;>try simp only[am]at hb|omega|refine ao ?_|decide|assumption)<;>conv=>whnf)
 all_goals
  refine .ret _ ?_;conv=>whnf
  refine⟨[],⟨?_,rfl⟩,trivial⟩;conv=>lhs;whnf
  congr 2
  unfold bJ;grind
def wJ (a:aZ):Prop:=(-2^40≤a.tm∧a.tm≤2^40)∧(-2^40≤a.no∧a.no≤2^40)
theorem lC (a b:Int):bJ (a - b) 0=bJ a b:=by unfold bJ;grind
theorem JS (a b:aZ)(ha:wJ a)(hb0:wJ b):ae Tryz.prog 33 [.agg ((en a).map .d),.agg ((en b).map .d)] [] (fun x r=>x= .d (.int .i64 (fa a b))∧r= []):=by
 obtain⟨⟨a1,a2⟩,a3,a4⟩:=ha;obtain⟨⟨b1,b2⟩,b3,b4⟩:=hb0;refine aj hT Tryz.func33 Tryz.call33 ?_;conv=>whnf
 repeat' (first|(refine ab (KV _) rfl rfl ?_;rotate_right;conv=>whnf)|(refine ab (IX _ _) rfl rfl ?_;rotate_right;conv=>whnf)|((first|refine aa ?_ ?_<;>intro hb<;>try simp only[am]at hb|omega|refine ao ?_|decide|assumption)<;>conv=>whnf))
 · refine .ret _ ?_;conv=>whnf
   refine⟨[],⟨?_,rfl⟩,trivial⟩;conv=>lhs;whnf
   congr 2
   have h0:¬bJ a.tm b.tm=0:=fun q=>hb (dw.1 q)
   rw[lC];unfold fa;simp only[ah];rw[if_neg h0]
 · rename_i hb1;refine .ret _ ?_;conv=>whnf
   refine⟨[],⟨?_,rfl⟩,trivial⟩;conv=>lhs;whnf
   congr 2
   have h0:bJ a.tm b.tm=0:=dw.2 (by omega);have h1:¬dq a.desk b.desk=0:=fun q=>hb (mb.1 q)
   unfold fa;simp only[ah];rw[if_pos h0,if_neg h1]
 · rename_i hb1;refine .ret _ ?_;conv=>whnf
   refine⟨[],⟨?_,rfl⟩,trivial⟩;conv=>lhs;whnf
   congr 2
   have h0:bJ a.tm b.tm=0:=dw.2 (by omega);have h1:dq a.desk b.desk=0:=mb.2 (by simpa using hb);rw[lC];unfold fa;simp only[ah];rw[if_pos h0,if_pos h1];split<;>simp_all
end Go.Proofs.YtafhoijegjmdcaaGreatDoor
