/- TopDamagePaid is proved: for every input the law returns true, and its argument reads afterwards as it read before. Conditions: those of the given row alone. -/
import Derived.Test.YtghhghijalcdfaaGreatDoorAdEngTwo
import Derived.Test.YtghhghijalcdfaaGreatDoorAdConTwo
import Derived.Test.YtghhghijalcdfaaGreatDoorAdConOne
import Derived.Test.YtghhghijalcdfaaGreatDoorAdEngMap
import Derived.Lib.ItoaNum
import Derived.Lib.AtoiAll
import Derived.Lib.Strings
set_option linter.unusedVariables false
set_option linter.unusedSimpArgs false
set_option maxHeartbeats 16000000
set_option maxRecDepth 20000
namespace Go.Proofs.YtghhghijalcdfaaGreatDoor
open Go Go.Eng
def su (F:Nat→Int):Nat→Int
 |0=>0
 |n+1=>su F n+F n
theorem su_congr {F H:Nat→Int}:∀ {n:Nat},(∀k,k<n→F k=H k)→su F n=su H n
 |0,_=>rfl
 |n+1,h=>by rw[su,su,su_congr (fun k hk=>h k (by omega)),h n (by omega)]
theorem su_le {F H:Nat→Int}:∀ {n:Nat},(∀k,k<n→F k≤H k)→su F n≤su H n
 |0,_=>Int.le_refl _
 | n+1,h=>by
   have h1:=su_le (n:=n) (fun k hk=>h k (by omega));have h2:=h n (by omega);rw[su,su];omega
theorem su_add (F H:Nat→Int):∀n,su (fun k=>F k+H k) n=su F n+su H n
 |0=>rfl
 |n+1=>by rw[su,su,su,su_add F H n];omega
theorem su_sub (F H:Nat→Int):∀n,su (fun k=>F k - H k) n=su F n - su H n
 |0=>rfl
 |n+1=>by rw[su,su,su,su_sub F H n];omega
theorem su_zero {F:Nat→Int}{n:Nat}(h:∀k,k<n→F k=0):su F n=0:=by
 have:∀m,su (fun _=>0) m=0:=fun m=>by
  induction m with
  |zero=>rfl
  |succ m ih=>rw[su,ih];rfl
 rw[su_congr (H:=fun _=>0) h,this]
theorem su_nn {F:Nat→Int}{n:Nat}(h:∀k,k<n→0≤F k):0≤su F n:=by
 have:=su_le (F:=fun _=>0) (H:=F) (n:=n) h;rwa [su_zero (fun _ _=>rfl)]at this
theorem su_one {a n:Nat}{x:Int}(h:a<n):su (fun v=>if a=v then x else 0) n=x:=by
 induction n with
 |zero=>omega
 | succ n ih=>
   rw[su]
   by_cases q:a=n
   · subst q;rw[if_pos rfl,su_zero (fun k hk=>if_neg (by omega))];omega
   · rw[if_neg q,ih (by omega)];omega
structure Nw where
 K:Nat
 N:Nat
 fr:Nat→Nat
 to:Nat→Nat
 c:Nat→Int
structure Nw.Ok (G:Nw):Prop where
 fr:∀k,k<G.K→G.fr k<G.N
 to:∀k,k<G.K→G.to k<G.N
 c0:∀k,k<G.K→0≤G.c k
def Nw.net (G:Nw)(f:Nat→Int)(v:Nat):Int:=su (fun k=>(if G.fr k=v then f k else 0) - (if G.to k=v then f k else 0)) G.K
def Nw.cost (G:Nw)(f:Nat→Int):Int:=su (fun k=>f k*G.c k) G.K
theorem Nw.net_sub (G:Nw)(f g:Nat→Int)(v:Nat):G.net (fun k=>g k - f k) v=G.net g v - G.net f v:=by
 unfold Nw.net;rw[←su_sub];refine su_congr fun k _=> ?_
 by_cases a:G.fr k=v<;>by_cases b:G.to k=v<;>simp[a,b]<;>omega
def Nw.Fills (G:Nw)(have_ want:Nat→Int)(g:Nat→Int):Prop:=(∀k,k<G.K→0≤g k)∧∀v,v<G.N→- want v≤G.net g v∧G.net g v≤have_ v - want v
structure Nw.St (G:Nw)(have_ want f left lack:Nat→Int):Prop where
 f0:∀k,k<G.K→0≤f k
 left0:∀v,v<G.N→0≤left v∧left v≤have_ v
 lack0:∀v,v<G.N→0≤lack v∧lack v≤want v
 net:∀v,v<G.N→G.net f v=(have_ v - left v) - (want v - lack v)
structure Nw.Pot (G:Nw)(have_ f left p:Nat→Int):Prop where
 p0:∀v,v<G.N→0≤p v
 ar:∀k,k<G.K→p (G.to k)≤p (G.fr k)+G.c k
 tight:∀k,k<G.K→0<f k→p (G.fr k)+G.c k≤p (G.to k)
 left:∀v,v<G.N→0<left v→p v≤0
theorem Nw.cost_sub (G:Nw)(f g:Nat→Int):G.cost g - G.cost f=su (fun k=>(g k - f k)*G.c k) G.K:=by
 unfold Nw.cost;rw[←su_sub];exact su_congr fun k _=>by rw[Int.sub_mul]
def farD:Int:=1125899906842624
def upd {α:Type}(f:Nat→α)(a:Nat)(x:α):Nat→α:=fun v=>if v=a then x else f v
theorem upd_self {α:Type}{f:Nat→α}{a:Nat}{x:α}:upd f a x a=x:=if_pos rfl
theorem upd_ne {α:Type}{f:Nat→α}{a v:Nat}{x:α}(h:v≠a):upd f a x v=f v:=if_neg h
def Nw.hd (G:Nw)(e:Nat×Bool):Nat:=if e.2=true then G.fr e.1 else G.to e.1
def Nw.tl (G:Nw)(e:Nat×Bool):Nat:=if e.2=true then G.to e.1 else G.fr e.1
def Nw.cc (G:Nw)(e:Nat×Bool):Int:=if e.2=true then - G.c e.1 else G.c e.1
def Nw.Re (G:Nw)(f:Nat→Int)(e:Nat×Bool):Prop:=e.1<G.K∧(e.2=true→0<f e.1)
theorem Nw.hd_lt {G:Nw}(h:G.Ok){e:Nat×Bool}(he:e.1<G.K):G.hd e<G.N∧G.tl e<G.N:=by
 unfold Nw.hd Nw.tl;have:=h.fr _ he;have:=h.to _ he;cases e.2<;>simp<;>omega
inductive Nw.Ch (G:Nw) (b:Nat→Option (Nat×Bool)) (Q:Nat×Bool→Prop):Nat→Nat→Nat→Prop
 |root (v:Nat) (h:b v=none):Nw.Ch G b Q v 0 v
 |step (v n r:Nat) (e:Nat×Bool) (h:b v=some e) (hq:Q e) (hc:Nw.Ch G b Q (G.tl e) n r):Nw.Ch G b Q v (n+1) r
theorem Nw.Ch.uniq {G:Nw}{b:Nat→Option (Nat×Bool)}{Q Q':Nat×Bool→Prop}{v n r:Nat}(h:G.Ch b Q v n r):∀ {m s:Nat},G.Ch b Q' v m s→n=m∧r=s:=by
 induction h with
 | root v hv=>
   intro m s h2
   cases h2 with
   |root _ _=>exact⟨rfl,rfl⟩
   |step _ _ _ e he _ _=>rw[hv]at he;cases he
 | step v n r e he _ _ ih=>
   intro m s h2
   cases h2 with
   |root _ hv=>rw[hv]at he;cases he
   | step _ n' _ e' he' _ hc' =>
     rw[he]at he';cases he';obtain⟨rfl,rfl⟩:=ih hc';exact⟨rfl,rfl⟩
structure Nw.Wy (G:Nw)(f left p dist:Nat→Int)(b:Nat→Option (Nat×Bool)):Prop where
 d1:∀v,v<G.N→dist v≤farD∧(dist v<farD→p v≤dist v)
 src:∀v,v<G.N→0<left v→dist v=0∧b v=none
 root:∀v,v<G.N→b v=none→dist v<farD→0<left v
 st:∀v e,v<G.N→b v=some e→G.Re f e∧G.hd e=v∧dist (G.tl e)<farD∧dist (G.tl e)+G.cc e≤dist v∧dist v<farD
 rt:∀v,v<G.N→dist v<farD→∃n r,G.Ch b (fun _=>True) v n r
def Nw.Fin (G:Nw)(f dist:Nat→Int):Prop:=∀e,G.Re f e→dist (G.tl e)<farD→dist (G.hd e)≤dist (G.tl e)+G.cc e
theorem Nw.Wy.tight {G:Nw}{f left p dist:Nat→Int}{b:Nat→Option (Nat×Bool)}(hw:G.Wy f left p dist b)(hf:G.Fin f dist){v:Nat}{e:Nat×Bool}(hv:v<G.N)(he:b v=some e):dist v=dist (G.tl e)+G.cc e:=by
 obtain⟨s1,s2,s3,s4,s5⟩:=hw.st v e hv he;have:=hf e s1 s3;rw[s2]at this;omega
def Nw.cnt (G:Nw)(dist:Nat→Int):Int:=su (fun v=>if dist v<farD then 1 else 0) G.N
theorem Nw.net_upd (G:Nw)(g:Nat→Int){k:Nat}(hk:k<G.K)(x:Int)(v:Nat):G.net (upd g k x) v=G.net g v+(if G.fr k=v then x - g k else 0) - (if G.to k=v then x - g k else 0):=by
 have h:=G.net_sub g (upd g k x) v
 have e:G.net (fun i=>upd g k x i - g i) v=(if G.fr k=v then x - g k else 0) - (if G.to k=v then x - g k else 0):=by
  unfold Nw.net;rw[su_congr (H:=fun i=>if k=i then((if G.fr k=v then x - g k else 0) - (if G.to k=v then x - g k else 0))else 0) (fun i _=> ?_),su_one hk]
  by_cases q:i=k
  · rw[if_pos q.symm,q];simp only[upd_self]
  · rw[if_neg (show ¬k=i from fun z=>q z.symm)];simp[upd_ne q]
 omega
theorem ite_sw {a v:Nat}{x y:Int}(h:x=y):(if a=v then x else 0)=(if v=a then y else 0):=by
 subst h
 by_cases q:a=v
 · rw[if_pos q,if_pos q.symm]
 · rw[if_neg q,if_neg (fun z=>q z.symm)]
theorem Nw.cost_upd (G:Nw)(g:Nat→Int){k:Nat}(hk:k<G.K)(x:Int):G.cost (upd g k x)=G.cost g+(x - g k)*G.c k:=by
 have h:=G.cost_sub g (upd g k x)
 have e:su (fun i=>(upd g k x i - g i)*G.c i) G.K=(x - g k)*G.c k:=by
  rw[su_congr (H:=fun i=>if k=i then(x - g k)*G.c k else 0) (fun i _=> ?_),su_one hk]
  by_cases q:i=k
  · rw[if_pos q.symm,q,upd_self]
  · rw[if_neg (show ¬k=i from fun z=>q z.symm),upd_ne q];simp
 omega
structure Nw.Bot (G:Nw)(f dist:Nat→Int)(b:Nat→Option (Nat×Bool))(t:Nat)(lk:Int)(a:Nat)(m:Int):Prop where
 ch:∀m' n' r,m'≤m→G.Ch b (fun e=>e.2=true→m'≤f e.1) a n' r→∃n,G.Ch b (fun e=>e.2=true→m'≤f e.1) t n r
 aN:a<G.N
 dn:dist a<farD
 m1:1≤m∧m≤lk
theorem Nw.Bot.step {G:Nw}(hG:G.Ok){f left p dist:Nat→Int}{b:Nat→Option (Nat×Bool)}(hw:G.Wy f left p dist b){t a:Nat}{lk m:Int}(h:G.Bot f dist b t lk a m){e:Nat×Bool}(he:b a=some e):
 G.Bot f dist b t lk (G.tl e) (if e.2=true then min m (f e.1)else m):=by
 obtain⟨s1,s2,s3,s4,s5⟩:=hw.st a e h.aN he;have hm:=h.m1;have hq:=s1.2;refine⟨fun m' n' r hm' hc=> ?_,(Nw.hd_lt hG s1.1).2,s3,?_⟩
 · refine h.ch m' (n'+1) r ?_ (.step a n' r e he (fun w=> ?_) hc)
   · split at hm'<;>omega
   · rw[if_pos w]at hm';omega
 · cases w:e.2
   · simp;omega
   · have:=hq w;simp;omega
theorem Nw.Bot.done {G:Nw}{f dist:Nat→Int}{b:Nat→Option (Nat×Bool)}{t a:Nat}{lk m:Int}(h:G.Bot f dist b t lk a m)(ha:b a=none){m':Int}(hm:m'≤m):∃n,G.Ch b (fun e=>e.2=true→m'≤f e.1) t n a:=
 h.ch m' 0 a hm (.root a ha)
structure Nw.Aug (G:Nw)(f dist:Nat→Int)(b:Nat→Option (Nat×Bool))(t:Nat)(m:Int)(g:Nat→Int)(a n r:Nat):Prop where
 ch:G.Ch b (fun e=>e.2=true→m≤f e.1) a n r
 aN:a<G.N
 dn:dist a<farD
 fl:∀k,k<G.K→f k≤g k∨∃j s,G.Ch b (fun _=>True) (G.fr k) j s∧n<j∧f k≤g k+m∧m≤f k
 net:∀v,G.net g v=G.net f v - (if v=t then m else 0)+(if v=a then m else 0)
 cost:G.cost g=G.cost f+m*(dist t - dist a)
 pos:∀k,k<G.K→0<g k→0<f k∨(dist (G.fr k)<farD∧dist (G.to k)=dist (G.fr k)+G.c k)
theorem Nw.Ch.weak {G:Nw}{b:Nat→Option (Nat×Bool)}{Q:Nat×Bool→Prop}{v n r:Nat}(h:G.Ch b Q v n r):G.Ch b (fun _=>True) v n r:=by
 induction h with
 |root v hv=>exact .root v hv
 |step v n r e he _ _ ih=>exact .step v n r e he trivial ih
theorem Nw.Aug.step {G:Nw}(hG:G.Ok){f left p dist:Nat→Int}{b:Nat→Option (Nat×Bool)}(hw:G.Wy f left p dist b)(hf:G.Fin f dist){t a n r:Nat}{m:Int}(hm:0≤m){g:Nat→Int}(h:G.Aug f dist b t m g a n r){e:Nat×Bool}(he:b a=some e):
 ∃n',n=n'+1∧G.Aug f dist b t m (upd g e.1 (if e.2=true then g e.1 - m else g e.1+m)) (G.tl e) n' r:=by
 have hch:=h.ch
 cases hch with
 |root _ hv=>rw[hv]at he;cases he
 | step _ n' _ e' he' hq hc=>
   rw[he]at he';cases he';obtain⟨s1,s2,s3,s4,s5⟩:=hw.st a e h.aN he;have htg:=hw.tight hf h.aN he;have hch:=h.ch;refine⟨n',rfl,hc,(Nw.hd_lt hG s1.1).2,s3,fun k hk=> ?_,fun v=> ?_,?_,fun k hk hg=> ?_⟩
   · rcases h.fl k hk with w|⟨j,s,w1,w2,w3,w4⟩
     · by_cases q:k=e.1
       · rw[q,upd_self];rw[q]at w;cases z:e.2
         · left;simp;omega
         · right;have hz:G.hd e=G.fr e.1:=by unfold Nw.hd;rw[z];rfl
           rw[s2]at hz;refine⟨n'+1,r,?_,by omega,by simp;omega,hq z⟩;rw[←hz];exact hch.weak
       · rw[upd_ne q];exact .inl w
     · right;refine⟨j,s,w1,by omega,?_,w4⟩
       by_cases q:k=e.1
       · rw[q,upd_self];rw[q]at w1 w3;cases z:e.2
         · simp;omega
         · exfalso;have hz:G.hd e=G.fr e.1:=by unfold Nw.hd;rw[z];rfl
           rw[s2]at hz;rw[←hz]at w1;have:=hch.weak.uniq w1;omega
       · rw[upd_ne q];exact w3
   · rw[G.net_upd g s1.1,h.net v];have hhd:G.hd e=a:=s2;unfold Nw.hd at hhd;unfold Nw.tl;cases z:e.2<;>rw[z]at hhd<;>simp only[if_true,if_false,Bool.false_eq_true]at hhd ⊢
     · have c1:(if G.to e.1=v then g e.1+m - g e.1 else 0)=(if v=a then m else 0):=by rw[hhd];exact ite_sw (by omega)
       have c2:(if G.fr e.1=v then g e.1+m - g e.1 else 0)=(if v=G.fr e.1 then m else 0):=ite_sw (by omega);rw[c1,c2];omega
     · have c1:(if G.fr e.1=v then g e.1 - m - g e.1 else 0)=(if v=a then - m else 0):=by rw[hhd];exact ite_sw (by omega)
       have c2:(if G.to e.1=v then g e.1 - m - g e.1 else 0)=(if v=G.to e.1 then - m else 0):=ite_sw (by omega);rw[c1,c2]
       by_cases q:v=a<;>by_cases w:v=G.to e.1<;>simp only[q,w,if_true,if_false]<;>(try split)<;>omega
   · rw[G.cost_upd g s1.1,h.cost];have e1:(if e.2=true then g e.1 - m else g e.1+m) - g e.1=if e.2=true then - m else m:=by split<;>omega
     rw[e1,htg];unfold Nw.cc;cases z:e.2
     · simp only[if_false,Bool.false_eq_true];rw[show dist t - dist (G.tl e)=(dist t - (dist (G.tl e)+G.c e.1))+G.c e.1 by omega,Int.mul_add];omega
     · simp only[if_true];have e2:m*(dist t - dist (G.tl e))=m*(dist t - (dist (G.tl e)+ - G.c e.1)) - m*G.c e.1:=by rw[←Int.mul_sub];congr 1;omega
       rw[e2,Int.neg_mul];omega
   · by_cases q:k=e.1
     · rw[q,upd_self]at hg;rw[q];cases z:e.2
       · right;have hz:G.hd e=G.to e.1:=by unfold Nw.hd;rw[z];rfl
         have ht:G.tl e=G.fr e.1:=by unfold Nw.tl;rw[z];rfl
         have hcc:G.cc e=G.c e.1:=by unfold Nw.cc;rw[z];rfl
         rw[←hz,←ht,s2];rw[hcc]at htg;exact⟨s3,htg⟩
       · exact .inl (s1.2 z)
     · rw[upd_ne q]at hg;exact h.pos k hk hg
theorem nodup_len:∀ {L:List Nat} {N:Nat},L.Nodup→(∀x ∈ L,x<N)→L.length≤N:=by
 have key:∀ {N:Nat} (L:List Nat),L.Nodup→(∀x ∈ L,x<N)→(L.length:Int)=su (fun v=>if v ∈ L then 1 else 0) N:=by
  intro N L
  induction L with
  |nil=>intro _ _;rw[su_zero (fun k _=>if_neg (by simp))];rfl
  | cons x L ih=>
    intro hn hl;rw[List.nodup_cons]at hn;have h1:=ih hn.2 (fun y hy=>hl y (List.mem_cons_of_mem _ hy))
    have h2:su (fun v=>if v ∈ x::L then 1 else 0) N=su (fun v=>(if v ∈ L then(1:Int)else 0)+(if x=v then 1 else 0)) N:=su_congr fun v _=>by
     by_cases q:x=v
     · subst q;simp[hn.1]
     · have:¬v=x:=fun z=>q z.symm
       simp[q,this]
    rw[h2,su_add,su_one (hl x (List.mem_cons_self ..)),←h1];simp
 intro L N hn hl;have h:=key L hn hl
 have h2:∀n,su (fun v=>if v ∈ L then 1 else 0) n≤(n:Int):=fun n=>by
  induction n with
  |zero=>exact Int.le_refl _
  |succ n ih=>rw[su];split<;>(push_cast;omega)
 have:=h2 N;omega
theorem Nw.ch_list {G:Nw}{b:Nat→Option (Nat×Bool)}{Q:Nat×Bool→Prop}{N:Nat}(hN:∀v e,v<N→b v=some e→G.tl e<N){v n r:Nat}(h:G.Ch b Q v n r):v<N→∃L:List Nat,L.length=n+1∧L.Nodup∧(∀x ∈ L,x<N)∧∀x ∈ L,∃j,j≤n∧G.Ch b Q x j r:=by
 induction h with
 |root v hv=>intro hvN;exact⟨[v],rfl,by simp,by simpa using hvN,fun x hx=>by rw[List.mem_singleton]at hx;subst hx;exact⟨0,by omega,.root x hv⟩⟩
 | step v n r e he hq hc ih=>
   intro hvN;obtain⟨L,h1,h2,h3,h4⟩:=ih (hN v e hvN he);refine⟨v::L,by rw[List.length_cons,h1],?_,fun x hx=> ?_,fun x hx=> ?_⟩
   · rw[List.nodup_cons];refine⟨fun hm=> ?_,h2⟩;obtain⟨j,hj,hcj⟩:=h4 v hm;have:=(Nw.Ch.step v n r e he hq hc).uniq hcj;omega
   · rcases List.mem_cons.1 hx with rfl|q
     · exact hvN
     · exact h3 x q
   · rcases List.mem_cons.1 hx with rfl|q
     · exact⟨n+1,by omega,.step x n r e he hq hc⟩
     · obtain⟨j,hj,hcj⟩:=h4 x q;exact⟨j,by omega,hcj⟩
structure Nw.Op (G:Nw)(R:Nat×Bool→Prop)(p:Nat→Int):Prop where
 lt:∀e,R e→e.1<G.K
 le:∀e,R e→p (G.hd e)≤p (G.tl e)+G.cc e
structure Nw.Pw (G:Nw)(R:Nat×Bool→Prop)(p:Nat→Int)(P:Int)(dist:Nat→Int)(b:Nat→Option (Nat×Bool)):Prop where
 low:∀v,v<G.N→p v - P≤dist v∧dist v≤0
 root:∀v,v<G.N→b v=none→dist v=0
 st:∀v e,v<G.N→b v=some e→R e∧G.hd e=v∧dist (G.tl e)+G.cc e≤dist v
 rt:∀v,v<G.N→∃n r,G.Ch b (fun _=>True) v n r
theorem Nw.Pw.depth {G:Nw}(hG:G.Ok){R:Nat×Bool→Prop}{p dist:Nat→Int}{P C:Int}{b:Nat→Option (Nat×Bool)}(hp:G.Op R p)(hw:G.Pw R p P dist b)(hc:∀e,R e→- C≤G.cc e){Q:Nat×Bool→Prop}{v n r:Nat}(h:G.Ch b Q v n r):v<G.N→- (C*n)≤dist v:=by
 induction h with
 |root v hv=>intro hvN;rw[hw.root v hvN hv];simp
 | step v n r e he _ _ ih=>
   intro hvN;obtain⟨s1,s2,s4⟩:=hw.st v e hvN he;have h1:=ih (Nw.hd_lt hG (hp.lt e s1)).2;have h2:=hc e s1
   push_cast
   rw[Int.mul_add];omega
theorem Nw.Pw.bd {G:Nw}(hG:G.Ok){R:Nat×Bool→Prop}{p dist:Nat→Int}{P C:Int}(hC:0≤C){b:Nat→Option (Nat×Bool)}(hp:G.Op R p)(hw:G.Pw R p P dist b)(hc:∀e,R e→- C≤G.cc e){v:Nat}(hv:v<G.N): - (C*((G.N:Int) - 1))≤dist v∧dist v≤0:=by
 obtain⟨n,r,h⟩:=hw.rt v hv;obtain⟨L,h1,h2,h3,_⟩:=Nw.ch_list (N:=G.N) (fun v e hv he=>(Nw.hd_lt hG (hp.lt e (hw.st v e hv he).1)).2) h hv;have hl:=nodup_len h2 h3;have hd:=hw.depth hG hp hc h hv;have:C*(n:Int)≤C*((G.N:Int) - 1):=Int.mul_le_mul_of_nonneg_left (by omega) hC;exact⟨by omega,(hw.low v hv).2⟩
def Nw.opn (G:Nw)(have_ f gone:Nat→Int)(e:Nat×Bool):Prop:=e.1<G.K+G.N∧(e.1<G.K→e.2=true→0<f e.1)∧(¬e.1<G.K→0<have_ (e.1 - G.K)∧(e.2=false→gone (e.1 - G.K)<have_ (e.1 - G.K))∧(e.2=true→0<gone (e.1 - G.K)))
structure Nw.Prc (G:Nw)(have_ f gone y:Nat→Int):Prop where
 ar:∀k,k<G.K→y (G.to k)≤y (G.fr k)+G.c k
 tight:∀k,k<G.K→0<f k→y (G.to k)=y (G.fr k)+G.c k
 lo:∀v,v<G.N→0<have_ v→gone v<have_ v→y v≤0
 hi:∀v,v<G.N→0<have_ v→0<gone v→0≤y v
structure Nw.Bip (G:Nw)(B:Nat→Bool):Prop where
 fr:∀k,k<G.K→G.fr k<G.N∧B (G.fr k)=true
 to:∀k,k<G.K→G.to k<G.N∧B (G.to k)=false
structure Nw.Fl (G:Nw)(B:Nat→Bool)(h w g:Nat→Int):Prop where
 g0:∀k,k<G.K→0≤g k
 src:∀v,v<G.N→B v=true→G.net g v≤h v
 dst:∀v,v<G.N→B v=false→G.net g v= - w v
theorem Nw.Bip.net_src {G:Nw}{B:Nat→Bool}(hb:G.Bip B){g:Nat→Int}(h0:∀k,k<G.K→0≤g k){v:Nat}(hv:B v=true):0≤G.net g v:=by
 refine su_nn fun k hk=> ?_
 have:=(hb.to k hk).2;have h1:¬G.to k=v:=fun q=>by rw[q,hv]at this;cases this
 have:=h0 k hk;rw[if_neg h1];split<;>omega
theorem Nw.Bip.net_dst {G:Nw}{B:Nat→Bool}(hb:G.Bip B){g:Nat→Int}(h0:∀k,k<G.K→0≤g k){v:Nat}(hv:B v=false):G.net g v≤0:=by
 have h:G.net g v≤su (fun _=>0) G.K:=su_le fun k hk=>by
  have:=(hb.fr k hk).2;have h1:¬G.fr k=v:=fun q=>by rw[q,hv]at this;cases this
  have:=h0 k hk;simp only[if_neg h1];split<;>omega
 rwa [su_zero (fun _ _=>rfl)]at h
theorem Nw.Bip.fl {G:Nw}{B:Nat→Bool}(hb:G.Bip B){h w:Nat→Int}(hh:∀v,v<G.N→B v=false→h v=0)(hw:∀v,v<G.N→B v=true→w v=0)(g:Nat→Int):G.Fills h w g↔G.Fl B h w g:=by
 constructor
 · rintro⟨h0,h1⟩;refine⟨h0,fun v hv q=> ?_,fun v hv q=> ?_⟩
   · have:=h1 v hv;have:=hw v hv q;omega
   · have:=h1 v hv;have:=hh v hv q;omega
 · intro hg;refine⟨hg.g0,fun v hv=> ?_⟩;cases q:B v
   · have:=hg.dst v hv q;have:=hh v hv q;omega
   · have:=hg.src v hv q;have:=hw v hv q;have:=hb.net_src hg.g0 q;omega
def Nw.sh (G:Nw)(a:Nat):Nw:=⟨G.K - a,G.N,fun k=>G.fr (a+k),fun k=>G.to (a+k),fun k=>G.c (a+k)⟩
theorem Nw.Bip.sh {G:Nw}{B:Nat→Bool}(h:G.Bip B)(a:Nat):(G.sh a).Bip B:=
 ⟨fun k hk=>h.fr (a+k) (by have hk:k<G.K - a:=hk;omega),fun k hk=>h.to (a+k) (by have hk:k<G.K - a:=hk;omega)⟩
def vtl (x:Nat→Int):Nat→Int:=fun k=>x (k+1)
theorem su_cons (F:Nat→Int):∀n,su F (n+1)=F 0+su (fun k=>F (k+1)) n
 |0=>by simp[su]
 |n+1=>by rw[su,su_cons F n,su];omega
theorem Nw.net_cons {G:Nw}{a:Nat}(ha:a<G.K)(x:Nat→Int)(v:Nat):(G.sh a).net x v=(if G.fr a=v then x 0 else 0) - (if G.to a=v then x 0 else 0)+(G.sh (a+1)).net (vtl x) v:=by
 unfold Nw.net;have e:(G.sh a).K=(G.sh (a+1)).K+1:=by show G.K - a=G.K - (a+1)+1;omega
 rw[e,su_cons];congr 1
 refine su_congr fun k _=> ?_
 show(if G.fr (a+(k+1))=v then x (k+1)else 0) - (if G.to (a+(k+1))=v then x (k+1)else 0)=(if G.fr (a+1+k)=v then x (k+1)else 0) - (if G.to (a+1+k)=v then x (k+1)else 0);rw[show a+(k+1)=a+1+k by omega]
def les (h:Nat→Int)(v:Nat)(u:Int):Nat→Int:=upd h v (h v - u)
theorem les_at (h:Nat→Int)(v i:Nat)(u:Int):les h v u i=h i - (if v=i then u else 0):=by
 unfold les upd
 by_cases q:i=v
 · rw[if_pos q,if_pos q.symm,q]
 · rw[if_neg q,if_neg (fun z=>q z.symm)];omega
theorem Nw.fl_cons {G:Nw}{B:Nat→Bool}(hb:G.Bip B){a:Nat}(ha:a<G.K){h w x:Nat→Int}:(G.sh a).Fl B h w x↔0≤x 0∧(G.sh (a+1)).Fl B (les h (G.fr a) (x 0)) (les w (G.to a) (x 0)) (vtl x):=by
 have hf:=hb.fr a ha;have ht:=hb.to a ha;constructor
 · intro hx;refine⟨hx.g0 0 (by show 0<G.K - a;omega),fun k hk=>hx.g0 (k+1) (by have hk:k<G.K - (a+1):=hk;show k+1<G.K - a;omega),fun v hv q=> ?_,fun v hv q=> ?_⟩
   · have h1:=hx.src v hv q;rw[Nw.net_cons ha]at h1;have:¬G.to a=v:=fun z=>by rw[z,q]at ht;cases ht.2
     rw[if_neg this]at h1;rw[les_at];omega
   · have h1:=hx.dst v hv q;rw[Nw.net_cons ha]at h1;have:¬G.fr a=v:=fun z=>by rw[z,q]at hf;cases hf.2
     rw[if_neg this]at h1;rw[les_at];omega
 · rintro⟨h0,hx⟩;refine⟨fun k hk=> ?_,fun v hv q=> ?_,fun v hv q=> ?_⟩
   · cases k with
     |zero=>exact h0
     |succ k=>exact hx.g0 k (by have hk:k+1<G.K - a:=hk;show k<G.K - (a+1);omega)
   · have h1:=hx.src v hv q;rw[les_at]at h1;rw[Nw.net_cons ha];have:¬G.to a=v:=fun z=>by rw[z,q]at ht;cases ht.2
     rw[if_neg this];omega
   · have h1:=hx.dst v hv q;rw[les_at]at h1;rw[Nw.net_cons ha];have:¬G.fr a=v:=fun z=>by rw[z,q]at hf;cases hf.2
     rw[if_neg this];omega
theorem Nw.Fl.first {G:Nw}{B:Nat→Bool}(hb:G.Bip B){a:Nat}(ha:a<G.K){h w x:Nat→Int}(hx:(G.sh a).Fl B h w x):0≤x 0∧x 0≤h (G.fr a)∧x 0≤w (G.to a):=by
 obtain⟨h0,hx2⟩:=(Nw.fl_cons hb ha).1 hx;have hf:=hb.fr a ha;have ht:=hb.to a ha;have h1:=hx2.src _ hf.1 hf.2;have h2:=hx2.dst _ ht.1 ht.2;have h3:=(hb.sh (a+1)).net_src hx2.g0 hf.2;have h4:=(hb.sh (a+1)).net_dst hx2.g0 ht.2;rw[les_at,if_pos rfl]at h1 h2;omega
def Bef (n:Nat)(x y:Nat→Int):Prop:=∃k,k<n∧(∀j,j<k→x j=y j)∧1≤x k∧(y k=0∨x k<y k)
structure Nw.Best (G:Nw)(B:Nat→Bool)(h w:Nat→Int)(c:Int)(x:Nat→Int):Prop where
 fl:G.Fl B h w x
 cost:G.cost x=c
 le:∀y,G.Fl B h w y→c≤G.cost y
 bef:∀y,G.Fl B h w y→G.cost y=c→(∀k,k<G.K→y k=x k)∨Bef G.K x y
def cmpF {α:Type}(c:α→α→Int):List α→List α→Int
 | [],[]=>0
 | [],_::_=> -1
 |_::_,[]=>1
 |a::l,b::m=>if c a b=0 then cmpF c l m else c a b
structure COrd {α:Type}(c:α→α→Int):Prop where
 eq:∀a b,c a b=0↔a=b
 sw:∀a b,c a b<0↔0<c b a
 tr:∀a b d,c a b<0→c b d<0→c a d<0
theorem COrd.refl {α:Type}{c:α→α→Int}(h:COrd c)(a:α):c a a=0:=(h.eq a a).2 rfl
theorem COrd.list {α:Type}{c:α→α→Int}(h:COrd c):COrd (cmpF c):=by
 refine⟨?_,?_,?_⟩
 · intro a
   induction a with
   |nil=>intro b;cases b<;>simp[cmpF]
   | cons x a ih=>
     intro b
     cases b with
     |nil=>simp[cmpF]
     | cons y b=>
       rw[cmpF]
       by_cases q:c x y=0
       · rw[if_pos q,ih];have:=(h.eq x y).1 q;subst this;simp
       · rw[if_neg q];have:¬x=y:=fun z=>q ((h.eq x y).2 z)
         simp[q,this]
 · intro a
   induction a with
   |nil=>intro b;cases b<;>simp[cmpF]
   | cons x a ih=>
     intro b
     cases b with
     |nil=>simp[cmpF]
     | cons y b=>
       rw[cmpF,cmpF]
       by_cases q:c x y=0
       · have:=(h.eq x y).1 q;subst this;rw[if_pos q,if_pos q];exact ih b
       · have:¬c y x=0:=fun z=>q ((h.eq x y).2 ((h.eq y x).1 z).symm)
         rw[if_neg q,if_neg this];exact h.sw x y
 · intro a
   induction a with
   | nil=>
     intro b d
     cases b with
     |nil=>simp[cmpF]
     |cons y b=>cases d<;>simp[cmpF]
   | cons x a ih=>
     intro b d
     cases b with
     |nil=>simp[cmpF]
     | cons y b=>
       cases d with
       | nil=>
         intro _ h2
         simp[cmpF]at h2
       | cons z d=>
         rw[cmpF,cmpF,cmpF]
         by_cases q:c x y=0
         · have:=(h.eq x y).1 q;subst this;rw[if_pos q]
           by_cases w:c x z=0
           · rw[if_pos w,if_pos w];exact ih b d
           · rw[if_neg w,if_neg w];exact fun _ h2=>h2
         · rw[if_neg q]
           by_cases w:c y z=0
           · have:=(h.eq y z).1 w;subst this;rw[if_pos w,if_neg q];exact fun h1 _=>h1
           · rw[if_neg w];intro h1 h2;have h3:=h.tr x y z h1 h2;rw[if_neg (by omega)];exact h3
structure Pla (μ:Type) where
 l:List μ
 cost:Int
def lessP {μ:Type}(c:μ→μ→Int)(p q:Pla μ):Bool:=if p.cost≠q.cost then decide (p.cost<q.cost)else decide (cmpF c p.l q.l<0)
abbrev PMap (μ:Type):=List UInt8→Option (Pla μ)
def MinOf {μ:Type}(c:μ→μ→Int)(M:PMap μ)(S:List UInt8→Pla μ→Prop):Prop:=
 ∀ σ,match M σ with
  |none=>∀p,¬S σ p
  |some q=>S σ q∧∀p,S σ p→lessP c p q=false
theorem MinOf.congr {μ:Type}{c:μ→μ→Int}{M:PMap μ}{S S':List UInt8→Pla μ→Prop}(h:MinOf c M S)(hs:∀σ p,S σ p↔S' σ p):MinOf c M S':=by
 intro σ;have:=h σ
 cases q:M σ with
 |none=>rw[q]at this;exact fun p hp=>this p ((hs σ p).2 hp)
 |some r=>rw[q]at this;exact⟨(hs σ r).1 this.1,fun p hp=>this.2 p ((hs σ p).2 hp)⟩
structure Stn (μ:Type) where
 way:Nat→Option Int
 mv:Nat→Int→μ
 many:Int
def stL (st:List UInt8)(k:Nat)(n:Int):List UInt8:=st.set k (UInt8.ofNat ((st.getD k 0).toNat - n.toNat))
inductive Cd {μ:Type} (s:Stn μ):Nat→Nat→List UInt8→Int→List UInt8→List μ→Int→Prop
 |fin (k:Nat) (st:List UInt8) (left:Int):Cd s 0 k st left st [] 0
 |skip (d k:Nat) (st:List UInt8) (left:Int) (st':List UInt8) (suf:List μ) (dc:Int) (h:Cd s d (k+1) st left st' suf dc):Cd s (d+1) k st left st' suf dc
 |some (d k:Nat) (st:List UInt8) (left:Int) (st':List UInt8) (suf:List μ) (dc n car:Int) (hw:s.way k=some car) (h1:1≤n) (h2:n≤left) (h3:n≤(st.getD k 0).toNat) (h:Cd s d (k+1) (stL st k n) (left - n) st' suf dc):Cd s (d+1) k st left st' (s.mv k n::suf) (n*car+dc)
structure Lay {μ:Type}(G:Nw)(B:Nat→Bool)(S J:Nat)(ns nw:Nat→Nat)(stn:Nat→Stn μ)(m:Nat→Int→μ)(pos:Nat→Nat→Nat):Prop where
 pend:pos S 0=G.K
 pnext:∀i,i<S→pos (i+1) 0=pos i J
 pnone:∀i k,i<S→k<J→(stn i).way k=none→pos i (k+1)=pos i k
 psome:∀i k car,i<S→k<J→(stn i).way k=some car→pos i (k+1)=pos i k+1∧pos i k<G.K∧G.fr (pos i k)=ns i∧G.to (pos i k)=nw k∧G.c (pos i k)=car∧∀n,m (pos i k) n=(stn i).mv k n
 ns1:∀i,i<S→ns i<G.N∧B (ns i)=true
 ns2:∀i j,i<S→j<S→ns i=ns j→i=j
 nw1:∀k,k<J→nw k<G.N∧B (nw k)=false
 nw2:∀k j,k<J→j<J→nw k=nw j→k=j
 all:∀v,v<G.N→B v=false→∃k,k<J∧v=nw k
structure Rel {μ:Type}(G:Nw)(B:Nat→Bool)(S J:Nat)(ns nw:Nat→Nat)(stn:Nat→Stn μ)(i:Nat)(st:List UInt8)(left:Int)(h w:Nat→Int):Prop where
 l0:0≤left
 hi:i<S→h (ns i)=left
 later:∀j,i<j→j<S→h (ns j)=(stn j).many
 other:∀v,v<G.N→B v=true→(∀j,i≤j→j<S→v≠ns j)→0≤h v
 want:∀k,k<J→w (nw k)=(st.getD k 0).toNat
theorem cmpS_sw (a b:List UInt8):cmpS a b= - cmpS b a:=by
 unfold cmpS
 by_cases e:a=b
 · subst e;simp[less_irr]
 · cases q:Op.bytesLess a b
   · have:=less_tri _ _ q e;simp[this]
   · have:Op.bytesLess b a=false:=by
      cases w:Op.bytesLess b a
      · rfl
      · have:=less_trans q w;rw[less_irr]at this;cases this
     simp[this]
structure Ar3 where
 fr:Nat
 to:Nat
 car:Int
theorem cmpI_sw (a b:Int):cmpI a b= - cmpI b a:=by unfold cmpI;grind
theorem cmpS_lt {a b:List UInt8}:cmpS a b<0↔Op.bytesLess a b=true:=by
 unfold cmpS;constructor
 · intro h;by_cases q:Op.bytesLess a b=true
   · exact q
   · rw[if_neg q]at h;split at h<;>omega
 · intro h;rw[if_pos h];omega
theorem cmpS_zero {a b:List UInt8}:cmpS a b=0↔a=b:=by
 constructor
 · intro h
   by_cases e:a=b
   · exact e
   · exfalso;cases q:Op.bytesLess a b
     · have h2:=less_tri _ _ q e;unfold cmpS at h;rw[q,h2]at h;simp at h
     · have:=cmpS_lt.2 q;omega
 · rintro rfl;unfold cmpS;simp[less_irr]
theorem cmpS_trans {a b c:List UInt8}(h1:cmpS a b<0)(h2:cmpS b c<0):cmpS a c<0:=by
 rw[cmpS_lt]at*;exact less_trans h1 h2
theorem cmpI_lt {a b:Int}:cmpI a b<0↔a<b:=by unfold cmpI;split<;>(try split)<;>omega
theorem cmpI_zero {a b:Int}:cmpI a b=0↔a=b:=by unfold cmpI;split<;>(try split)<;>omega
def oAEnA93:TL:= [(1,[(0,[]),(1,[]),(2,[0,1]),(3,[0,1]),(5,rg 4),(6,rg 4),(7,[0,1,2,3,5,6]),(8,[0,1,2,3,5,6]),(10,[0,1,2,3,5,6,7,8]),(11,[0,1,2,3,5,6,7,8]),(12,[0,1,2,3,5,6,7,8,10,11]),(13,[0,1,2,3,5,6,7,8,10,11]),(4,[5,6,7,8,10,11,12,13]),(9,[10,11,12,13]),(14,[]),(15,[]),(16,[]),(17,[])])]
def prB (s:List UInt8):Bool:=s.all fun b=>decide (32≤b.toNat)&&decide (b.toNat≤126)
theorem prB_iff {s:List UInt8}:prB s=true↔∀j,j<s.length→32≤(s.getD j 0).toNat∧(s.getD j 0).toNat≤126:=by
 unfold prB;rw[List.all_eq_true];constructor
 · intro h j hj;have:=h _ (getD_mem (x:=0) hj);simpa using this
 · intro h x hx;obtain⟨i,hi,rfl⟩:=mem_getD (d:=0) hx;simpa using h i hi
theorem prB_bad {s:List UInt8}{i:Nat}(hi:i<s.length)(h:¬ (32≤(s.getD i 0).toNat∧(s.getD i 0).toNat≤126)):prB s=false:=by
 cases q:prB s with
 |false=>rfl
 |true=>exact absurd (prB_iff.1 q i hi) h
theorem lz149 (s:List UInt8)(hl:s.length≤2^40):FSpec Tryz.prog 92 [.d (.str s)] [] (fun x r=>x= .d (.bool (prB s))∧r= []):=by
 refine spAx hT Tryz.func92 Tryz.call92 ?_;conv=>whnf
 refine LoopX.rule hT (C:= []) (ι:=Nat) (fun i=>i≤s.length∧∀j,j<i→32≤(s.getD j 0).toNat∧(s.getD j 0).toNat≤126) (fun i=>mkSt [(0,.d (.str s)),(5,.d (.int .i64 s.length)),(6,.d (.int .i64 i))] []) (fun i=>s.length - i) 0 ⟨by omega,by omega⟩ (by exact eAx []) ?_;rintro i ⟨p1,p2⟩;have e1:=tnc i;conv=>whnf
 repeat' ((first|refine br_intro ?_ ?_<;>intro hb<;>try simp only[brs]at hb|omega|refine sAx ?_|decide|assumption)<;>conv=>whnf)
 · refine .ret _ ?_;conv=>whnf
   refine⟨[],⟨?_,rfl⟩,trivial⟩;conv=>lhs;whnf
   rw[prB_bad (i:=i) (by omega) (by omega)]
 · refine .ret _ ?_;conv=>whnf
   refine⟨[],⟨?_,rfl⟩,trivial⟩;conv=>lhs;whnf
   rw[prB_bad (i:=i) (by omega) (by omega)]
 · exact⟨i+1,⟨by omega,all_step p2 (by omega)⟩,by omega,(by exact eAx [])⟩
 · refine .ret _ ?_;conv=>whnf
   refine⟨[],⟨?_,rfl⟩,trivial⟩;conv=>lhs;whnf
   have:i=s.length:=by omega
   subst this;rw[prB_iff.2 p2]
def entCmp (a b:Ent):Int:=firstE [cmpI a.tm b.tm,cmpS a.desk b.desk,cmpI a.no b.no]
theorem lz150 (a b:Ent):FSpec Tryz.prog 93 [.agg ((enF a).map .d),.agg ((enF b).map .d)] [] (fun x r=>x= .d (.int .i64 (entCmp a b))∧r= []):=by
 refine spAx hT Tryz.func93 Tryz.call93 ?_;conv=>whnf
 repeat' (first|(refine CallX.exact (s184 _ _) rfl rfl ?_;rotate_right;conv=>whnf)|(refine CallX.exact (s183 _ _) rfl rfl ?_;rotate_right;conv=>whnf)|((first|refine CallX.pure (s182 [_,_,_] (by simp)) ⟨SV.le_lit (by rfl) (by rfl),trivial⟩ rfl ?_|refine br_intro ?_ ?_<;>intro hb<;>try simp only[brs]at hb|refine tAx hT oAEnA93 ?_|omega|refine sAx ?_|decide|assumption)<;>conv=>whnf))
 refine .ret _ ?_;conv=>whnf
 refine⟨[],⟨?_,rfl⟩,trivial⟩;conv=>lhs;whnf
 rfl
theorem lz147 (n:Int):FSpec Tryz.prog 83 [.d (.int .i64 n)] [] (fun x r=>x= .d (.int .i64 (cmpI n 0))∧r= []):=by
 refine spAx hT Tryz.func83 Tryz.call83 ?_;conv=>whnf
 repeat' ((first|refine br_intro ?_ ?_<;>intro hb<;>try simp only[brs]at hb|omega|refine sAx ?_|decide|assumption)<;>conv=>whnf)
 all_goals
  refine .ret _ ?_;conv=>whnf
  refine⟨[],⟨?_,rfl⟩,trivial⟩;conv=>lhs;whnf
  congr 2
  unfold cmpI;grind
def entR (a:Ent):Prop:=(-2^40≤a.tm∧a.tm≤2^40)∧(-2^40≤a.no∧a.no≤2^40)
theorem cmpI_sub (a b:Int):cmpI (a - b) 0=cmpI a b:=by unfold cmpI;grind
theorem lz63 (a b:Ent)(ha:entR a)(hb0:entR b):FSpec Tryz.prog 45 [.agg ((enF a).map .d),.agg ((enF b).map .d)] [] (fun x r=>x= .d (.int .i64 (entCmp a b))∧r= []):=by
 obtain⟨⟨a1,a2⟩,a3,a4⟩:=ha;obtain⟨⟨b1,b2⟩,b3,b4⟩:=hb0;refine spAx hT Tryz.func45 Tryz.call45 ?_;conv=>whnf
 repeat' (first|(refine CallX.exact (lz147 _) rfl rfl ?_;rotate_right;conv=>whnf)|(refine CallX.exact (s190 _ _) rfl rfl ?_;rotate_right;conv=>whnf)|((first|refine br_intro ?_ ?_<;>intro hb<;>try simp only[brs]at hb|omega|refine sAx ?_|decide|assumption)<;>conv=>whnf))
 · refine .ret _ ?_;conv=>whnf
   refine⟨[],⟨?_,rfl⟩,trivial⟩;conv=>lhs;whnf
   congr 2
   have h0:¬cmpI a.tm b.tm=0:=fun q=>hb (cmpI_zero.1 q)
   rw[cmpI_sub];unfold entCmp;simp only[firstE];rw[if_neg h0]
 · rename_i hb1;refine .ret _ ?_;conv=>whnf
   refine⟨[],⟨?_,rfl⟩,trivial⟩;conv=>lhs;whnf
   congr 2
   have h0:cmpI a.tm b.tm=0:=cmpI_zero.2 (by omega);have h1:¬cmpS a.desk b.desk=0:=fun q=>hb (cmpS_zero.1 q)
   unfold entCmp;simp only[firstE];rw[if_pos h0,if_neg h1]
 · rename_i hb1;refine .ret _ ?_;conv=>whnf
   refine⟨[],⟨?_,rfl⟩,trivial⟩;conv=>lhs;whnf
   congr 2
   have h0:cmpI a.tm b.tm=0:=cmpI_zero.2 (by omega);have h1:cmpS a.desk b.desk=0:=cmpS_zero.2 (by simpa using hb);rw[cmpI_sub];unfold entCmp;simp only[firstE];rw[if_pos h0,if_pos h1];split<;>simp_all
def oAEnB114:TL:= [(4,[(0,[]),(1,[0]),(2,[]),(3,[]),(4,[]),(5,[4]),(6,[4,5]),(7,[4]),(8,[4]),(9,[4,5,6,7,8]),(10,[4,5,6,7,8,9]),(11,[4,5,6,7,8,9]),(12,[4,5,6,7,8]),(13,[4,5,6,7,8]),(14,[]),(15,[]),(16,[])]),(6,[(0,[]),(1,[0]),(2,[0,1]),(3,[0,1,2]),(4,[0,1,2]),(5,rg 5),(6,rg 6),(7,rg 6),(8,rg 5),(9,rg 5),(10,rg 10),(11,rg 11),(12,rg 10),(13,rg 10),(14,[2,3,4]),(15,[2,3,4]),(16,[]),(17,[])])]
def sameE (l c:List Ent):Prop:=c.length=l.length∧∀x ∈ c,x ∈ l
theorem sameE_set {l c:List Ent}{j:Nat}{x:Ent}(h:sameE l c)(hx:x ∈ l):sameE l (c.set j x):=
 ⟨by rw[List.length_set];exact h.1,fun y hy=>by rcases List.mem_or_eq_of_mem_set hy with q|q;exact h.2 y q;subst q;exact hx⟩
theorem en208 (g:FuncId)(cmp:Ent→Ent→Int)(l:List Ent)(hl:l.length≤2^40)
 (hcmp:∀p q,p ∈ l→q ∈ l→FSpec Tryz.prog g [.agg ((enF p).map .d),.agg ((enF q).map .d)] [] (fun y r=>y= .d (.int .i64 (cmp p q))∧r= [])):
 FSpec Tryz.prog 114 [.buf 1000001,.d (.int .i64 0),.d (.int .i64 l.length),.fn g []] [(1000001,seqB 123 4 enF en0 l)]
  (fun y r=>y= .tup []∧∃c,sameE l c∧r= [(1000001,seqB 123 4 enF en0 c)]):=by
 refine spAx hT Tryz.func114 Tryz.call114 ?_;conv=>whnf
 repeat' ((first|refine br_intro ?_ ?_<;>intro hb<;>try simp only[brs]at hb|refine tAx hT oAEnB114 ?_|omega|refine sAx ?_|decide|assumption)<;>conv=>whnf)
 refine LoopX.rule hT (C:= []) (ι:=Nat×List Ent) (fun(i,c)=>1≤i∧(i≤l.length∨i=1)∧sameE l c)
  (fun(i,c)=>mkSt [(0,.buf 1000001),(1,.d (.int .i64 0)),(2,.d (.int .i64 l.length)),(3,.fn g []),(8,.d (.int .i64 i))] [(1000001,seqB 123 4 enF en0 c)])
  (fun(i,_)=>l.length - i) (1,l) ⟨by simp,by simp,rfl,fun x h=>h⟩ (by exact eAx [(1000001,1000001)]) ?_
 rintro⟨i,c⟩ ⟨p1,p2,p3⟩;have hc0:=p3.1;conv=>whnf
 repeat' ((first|refine br_intro ?_ ?_<;>intro hb<;>try simp only[brs]at hb|refine tAx hT oAEnB114 ?_|omega|refine sAx ?_|decide|assumption)<;>conv=>whnf)
 · refine LoopX.rule hT (C:= []) (ι:=Nat×List Ent) (fun(j,c)=>j≤i∧sameE l c)
    (fun(j,c)=>mkSt [(0,.buf 1000001),(1,.d (.int .i64 0)),(2,.d (.int .i64 l.length)),(3,.fn g []),(8,.d (.int .i64 i)),(9,.d (.int .i64 j))] [(1000001,seqB 123 4 enF en0 c)])
    (fun(j,_)=>j) (i,c) ⟨Nat.le_refl _,p3⟩ (by exact eAx [(1000001,1000001)]) ?_
   rintro⟨j,b⟩ ⟨q1,q3⟩;have hb0:=q3.1;conv=>whnf
   repeat' ((first|refine br_intro ?_ ?_<;>intro hb<;>try simp only[brs]at hb|refine tAx hT oAEnB114 ?_|omega|refine sAx ?_|decide|assumption)<;>conv=>whnf)
   · refine CallX.of (hcmp (b.getD (j:Int).toNat en0) (b.getD ((j:Int) - 1).toNat en0) (q3.2 _ (getD_mem (by omega))) (q3.2 _ (getD_mem (by omega)))) [] rfl ⟨lr,lr,trivial⟩ trivial rfl rfl ?_;rintro x rout ⟨rfl,rfl⟩;refine⟨rfl,?_⟩;conv=>whnf
     repeat' ((first|refine br_intro ?_ ?_<;>intro hb<;>try simp only[brs]at hb|refine tAx hT oAEnB114 ?_|omega|refine sAx ?_|decide|assumption)<;>conv=>whnf)
     · refine⟨(j - 1,_),⟨by omega,sameE_set (sameE_set q3 (q3.2 _ (getD_mem (i:=((j:Int) - 1).toNat) (x:=en0) (by omega)))) (q3.2 _ (getD_mem (i:=(j:Int).toNat) (x:=en0) (by omega)))⟩,by show j - 1<j;omega,Entails.mk' [(1000001,1000001)] rfl rfl ⟨lr,lr,lr,lr,lr,SV.le_int (by omega),trivial⟩ ⟨Res.le_put2 (fun _=>rfl) (fun _=>rfl),trivial⟩⟩
     · exact⟨(i+1,b),⟨by omega,by omega,q3⟩,by show l.length - (i+1)<l.length - i;omega,(by exact eAx [(1000001,1000001)])⟩
   · exact⟨(i+1,b),⟨by omega,by omega,q3⟩,by show l.length - (i+1)<l.length - i;omega,(by exact eAx [(1000001,1000001)])⟩
 · refine .ret _ ?_;conv=>whnf
   exact⟨_,⟨rfl,c,p3,rfl⟩,rr,trivial⟩
theorem en175l (g:FuncId)(cmp:Ent→Ent→Int)(l:List Ent)(hl:l.length<20)
 (hcmp:∀p q,p ∈ l→q ∈ l→FSpec Tryz.prog g [.agg ((enF p).map .d),.agg ((enF q).map .d)] [] (fun y r=>y= .d (.int .i64 (cmp p q))∧r= [])):
 FSpec Tryz.prog 82 [.buf 1000001,.d (.int .i64 l.length),.fn g []] [(1000001,seqB 123 4 enF en0 l)]
  (fun y r=>y= .tup []∧∃c,sameE l c∧r= [(1000001,seqB 123 4 enF en0 c)]):=by
 refine spAx hT Tryz.func82 Tryz.call82 ?_;conv=>whnf
 refine LoopX.rule hT (C:= []) (ι:=Unit) (fun _=>True) (fun _=>mkSt [(0,.buf 1000001),(1,.d (.int .i64 l.length)),(2,.fn g []),(6,.d (.int .i64 20)),(7,.d (.int .i64 0)),(8,.d (.int .i64 20))] [(1000001,seqB 123 4 enF en0 l)]) (fun _=>0) () trivial (by exact eAx [(1000001,1000001)]) ?_;rintro⟨⟩ -;conv=>whnf
 repeat' ((first|refine br_intro ?_ ?_<;>intro hb<;>try simp only[brs]at hb|omega|refine sAx ?_|decide|assumption)<;>conv=>whnf)
 refine oAx (en208 g cmp l (by omega) hcmp) [(1000001,1000001)] ?_;rintro x rout ⟨rfl,c,hc,rfl⟩;refine⟨rfl,?_⟩;conv=>whnf
 refine LoopX.rule hT (C:= []) (ι:=Unit) (fun _=>True) (fun _=>mkSt [(0,.buf 1000001),(1,.d (.int .i64 l.length)),(2,.fn g []),(6,.d (.int .i64 20))] [(1000001,seqB 123 4 enF en0 c)]) (fun _=>0) () trivial (by exact eAx [(1000001,1000001)]) ?_;rintro⟨⟩ -;conv=>whnf
 repeat' ((first|refine br_intro ?_ ?_<;>intro hb<;>try simp only[brs]at hb|omega|refine sAx ?_|decide|assumption)<;>conv=>whnf)
 refine .ret _ ?_;conv=>whnf
 exact⟨_,⟨rfl,c,hc,rfl⟩,rr,trivial⟩
theorem sameE_trans {a b c:List Ent}(h:sameE a b)(k:sameE b c):sameE a c:=⟨k.1.trans h.1,fun x hx=>h.2 x (k.2 x hx)⟩
theorem en208e (g:FuncId)(l:List Ent):
 FSpec Tryz.prog 114 [.buf 1000001,.d (.int .i64 20),.d (.int .i64 20),.fn g []] [(1000001,seqB 123 4 enF en0 l)]
  (fun y r=>y= .tup []∧r= [(1000001,seqB 123 4 enF en0 l)]):=by
 refine spAx hT Tryz.func114 Tryz.call114 ?_;conv=>whnf
 repeat' ((first|refine br_intro ?_ ?_<;>intro hb<;>try simp only[brs]at hb|refine tAx hT oAEnB114 ?_|omega|refine sAx ?_|decide|assumption)<;>conv=>whnf)
 refine LoopX.rule hT (C:= []) (ι:=Unit) (fun _=>True) (fun _=>mkSt [(0,.buf 1000001),(1,.d (.int .i64 20)),(2,.d (.int .i64 20)),(3,.fn g []),(8,.d (.int .i64 21))] [(1000001,seqB 123 4 enF en0 l)]) (fun _=>0) () trivial (by exact eAx [(1000001,1000001)]) ?_;rintro⟨⟩ -;conv=>whnf
 repeat' ((first|refine br_intro ?_ ?_<;>intro hb<;>try simp only[brs]at hb|refine tAx hT oAEnB114 ?_|omega|refine sAx ?_|decide|assumption)<;>conv=>whnf)
 refine .ret _ ?_;conv=>whnf
 exact⟨_,⟨rfl,rfl⟩,rr,trivial⟩
theorem en175t (g:FuncId)(cmp:Ent→Ent→Int)(l:List Ent)(hl:l.length=20)
 (hcmp:∀p q,p ∈ l→q ∈ l→FSpec Tryz.prog g [.agg ((enF p).map .d),.agg ((enF q).map .d)] [] (fun y r=>y= .d (.int .i64 (cmp p q))∧r= [])):
 FSpec Tryz.prog 82 [.buf 1000001,.d (.int .i64 l.length),.fn g []] [(1000001,seqB 123 4 enF en0 l)]
  (fun y r=>y= .tup []∧∃c,sameE l c∧r= [(1000001,seqB 123 4 enF en0 c)]):=by
 have h20:(l.length:Int)=20:=by omega
 rw[h20];refine spAx hT Tryz.func82 Tryz.call82 ?_;conv=>whnf
 refine LoopX.rule hT (C:= []) (ι:=Bool×List Ent) (fun(_,c)=>sameE l c) (fun(b,c)=>mkSt [(0,.buf 1000001),(1,.d (.int .i64 20)),(2,.fn g []),(6,.d (.int .i64 20)),(7,.d (.int .i64 (bif b then 20 else 0))),(8,.d (.int .i64 (bif b then 40 else 20)))] [(1000001,seqB 123 4 enF en0 c)]) (fun(b,_)=>bif b then 0 else 1) (false,l) ⟨rfl,fun x h=>h⟩ (by exact eAx [(1000001,1000001)]) ?_;rintro⟨b,c⟩ hc;have hc:sameE l c:=hc;cases b
 · have c1:=en208 g cmp c (by have:=hc.1;omega) (fun p q hp hq=>hcmp p q (hc.2 p hp) (hc.2 q hq));have h2:(c.length:Int)=20:=by have:=hc.1;omega
   rw[h2]at c1;conv=>whnf
   repeat' ((first|refine br_intro ?_ ?_<;>intro hb<;>try simp only[brs]at hb|omega|refine sAx ?_|decide|assumption)<;>conv=>whnf)
   refine oAx c1 [(1000001,1000001)] ?_;rintro x rout ⟨rfl,d,hd,rfl⟩;refine⟨rfl,?_⟩;conv=>whnf
   repeat' ((first|refine br_intro ?_ ?_<;>intro hb<;>try simp only[brs]at hb|omega|refine sAx ?_|decide|assumption)<;>conv=>whnf)
   exact⟨(true,d),sameE_trans hc hd,by show(0:Nat)<1;omega,(by exact eAx [(1000001,1000001)])⟩
 · conv=>whnf
   repeat' ((first|refine br_intro ?_ ?_<;>intro hb<;>try simp only[brs]at hb|omega|refine sAx ?_|decide|assumption)<;>conv=>whnf)
   refine oEx (en208e g c) [(1000001,1000001)] ?_;conv=>whnf
   refine LoopX.rule hT (C:= []) (ι:=Unit) (fun _=>True) (fun _=>mkSt [(0,.buf 1000001),(1,.d (.int .i64 20)),(2,.fn g []),(6,.d (.int .i64 20))] [(1000001,seqB 123 4 enF en0 c)]) (fun _=>0) () trivial (by exact eAx [(1000001,1000001)]) ?_;rintro⟨⟩ -;conv=>whnf
   repeat' ((first|refine br_intro ?_ ?_<;>intro hb<;>try simp only[brs]at hb|omega|refine sAx ?_|decide|assumption)<;>conv=>whnf)
   refine .ret _ ?_;conv=>whnf
   exact⟨_,⟨rfl,c,hc,rfl⟩,rr,trivial⟩
theorem en175 (g:FuncId)(cmp:Ent→Ent→Int)(l:List Ent)(hl:l.length≤20)
 (hcmp:∀p q,p ∈ l→q ∈ l→FSpec Tryz.prog g [.agg ((enF p).map .d),.agg ((enF q).map .d)] [] (fun y r=>y= .d (.int .i64 (cmp p q))∧r= [])):
 FSpec Tryz.prog 82 [.buf 1000001,.d (.int .i64 l.length),.fn g []] [(1000001,seqB 123 4 enF en0 l)]
  (fun y r=>y= .tup []∧∃c,sameE l c∧r= [(1000001,seqB 123 4 enF en0 c)]):=by
 rcases Nat.lt_or_ge l.length 20 with h|h
 · exact en175l g cmp l h hcmp
 · exact en175t g cmp l (by omega) hcmp
theorem en126 (g:FuncId)(cmp:Ent→Ent→Int)(l:List Ent)(hl:l.length≤20)
 (hcmp:∀p q,p ∈ l→q ∈ l→FSpec Tryz.prog g [.agg ((enF p).map .d),.agg ((enF q).map .d)] [] (fun y r=>y= .d (.int .i64 (cmp p q))∧r= [])):
 FSpec Tryz.prog 44 [.buf 1000001,.fn g []] [(1000001,seqB 123 4 enF en0 l)]
  (fun y r=>y= .tup []∧∃c,sameE l c∧r= [(1000001,seqB 123 4 enF en0 c)]):=by
 refine spAx hT Tryz.func44 Tryz.call44 ?_;conv=>whnf
 repeat' ((first|refine br_intro ?_ ?_<;>intro hb<;>try simp only[brs]at hb|omega|refine sAx ?_|decide|assumption)<;>conv=>whnf)
 refine oAx (en175 g cmp l hl hcmp) [(1000001,1000001)] ?_;rintro x rout ⟨rfl,c,hc,rfl⟩;refine⟨rfl,?_⟩;conv=>whnf
 refine .ret _ ?_;conv=>whnf
 exact⟨_,⟨rfl,c,hc,rfl⟩,rr,trivial⟩
def oAEnC17:TL:= [(9,[(0,[]),(1,[]),(2,[]),(3,[]),(4,[3]),(5,[3]),(6,[]),(7,[]),(8,[3,4,5,6,7]),(9,[]),(10,[]),(11,[])])]
theorem lxF_posE {p:Nat→Bool}{n k:Nat}(hk:k<n)(h:p k=true):0≤ixF p n:=by
 have hb:=ixF_bd (p:=p) (n:=n);rcases Int.lt_or_le (ixF p n) 0 with q|q
 · exfalso
   have hn :∀m,ixF p m<0→∀j,j<m→p j=false:=by
    intro m
    induction m with
    |zero=>intro _ j hj;omega
    | succ m ih=>
      intro hm j hj;rw[ixF]at hm;split at hm
      · rename_i hz
        by_cases hjm:j=m
        · subst hjm;split at hm
          · omega
          · rename_i hf;simpa using hf
        · exact ih (by omega) j (by omega)
      · rename_i hz;have:=(ixF_bd (p:=p) (n:=m)).1;omega
   rw[hn n q k hk]at h;cases h
 · exact q
theorem ent_eq {a b:Ent}:a=b↔((a.tm=b.tm∧a.desk=b.desk)∧a.no=b.no)∧a.words=b.words:=by cases a;cases b;simp[and_assoc]
instance:DecidableEq Ent:=fun _ _=>decidable_of_iff _ ent_eq.symm
def enHas (l:List Ent):List DV→Bool
 | [.str a,.int .i64 b]=>l.any fun y=>y.desk==a&&decide (y.no=b)
 |_=>false
def dupE (l:List Ent)(x:Ent):Bool:=enHas l [.str x.desk,.int .i64 x.no]
abbrev enR (l:List Ent):Res:=.map true false [.str,.int .i64] [.bool false] (enHas l) (fun k=> [.bool (enHas l k)])
def eqE (y x:Ent):Bool:=y.desk==x.desk&&decide (y.no=x.no)
def ecell (x:Ent):Res:=.cells 123 ((enF x).map .d)
theorem lz71 (y x:Ent):FSpec Tryz.prog 48 [.agg ((enF y).map .d),.ptr 1000001 0] [(1000001,ecell x)] (fun v r=>v= .d (.bool (eqE y x))∧r= [(1000001,ecell x)]):=by
 refine spAx hT Tryz.func48 Tryz.call48 ?_;conv=>whnf
 repeat' ((first|refine br_intro ?_ ?_<;>intro hb<;>try simp only[brs]at hb|omega|refine sAx ?_|decide|assumption)<;>conv=>whnf)
 all_goals
  refine .ret _ ?_;conv=>whnf
  refine⟨[(1000001,ecell x)],⟨?_,rfl⟩,rr,trivial⟩;conv=>lhs;whnf
  congr 2
  unfold eqE
  first
   |(rw[hb];simp;done)
   | (have:(y.desk==x.desk)=false:=by simpa using hb
      rw[this];rfl)
   |simp_all
theorem lz152 (l:List Ent)(hl:l.length≤2^40)(x:Ent):FSpec Tryz.prog 88 [.d (ents l),.fn 48 [.ptr 1000001 0]] [(1000001,ecell x)] (fun v r=>v= .d (.int .i64 (ixF (fun i=>eqE (l.getD i en0) x) l.length))∧r= [(1000001,ecell x)]):=by
 refine spAx hT Tryz.func88 Tryz.call88 ?_;conv=>whnf
 refine LoopX.rule hT (C:= []) (ι:=Nat) (fun i=>i≤l.length∧∀j,j<i→eqE (l.getD j en0) x=false) (fun i=>mkSt [(0,.d (ents l)),(1,.fn 48 [.ptr 1000001 0]),(7,.d (.int .i64 l.length)),(8,.d (.int .i64 i))] [(1000001,ecell x)]) (fun i=>l.length - i) 0 ⟨by omega,by omega⟩ (by exact eAx [(1000001,1000001)]) ?_;rintro i ⟨p1,p2⟩;have e1:=tnc i;conv=>whnf
 repeat' ((first|(refine oEx (lz71 (l.getD (i:Int).toNat en0) x) [(1000001,1000001)] ?_)|refine br_intro ?_ ?_<;>intro hb<;>try simp only[brs]at hb|omega|refine sAx ?_|decide|assumption)<;>conv=>whnf)
 · refine .ret _ ?_;conv=>whnf
   refine⟨[(1000001,ecell x)],⟨?_,rfl⟩,rr,trivial⟩;conv=>lhs;whnf
   congr 2
   exact(ixF_hit (by omega) p2 (by simpa using hb)).symm
 · exact⟨i+1,⟨by omega,all_step p2 (by simpa using hb)⟩,by omega,(by exact eAx [(1000001,1000001)])⟩
 · refine .ret _ ?_;conv=>whnf
   refine⟨[(1000001,ecell x)],⟨?_,rfl⟩,rr,trivial⟩;conv=>lhs;whnf
   congr 2
   have:i=l.length:=by omega
   subst this;exact(ixF_none p2).symm
theorem dup_ix (l:List Ent)(x:Ent):decide (0≤ixF (fun i=>eqE (l.getD i en0) x) l.length)=dupE l x:=by
 rw[Bool.eq_iff_iff,decide_eq_true_eq];show _↔(l.any fun y=>y.desk==x.desk&&decide (y.no=x.no))=true;rw[List.any_eq_true];constructor
 · intro h;have:=ixF_bd (p:=fun i=>eqE (l.getD i en0) x) (n:=l.length);exact⟨_,getD_mem (x:=en0) (by omega),this.2.2 h⟩
 · rintro⟨y,hy,he⟩;obtain⟨j,hj,rfl⟩:=mem_getD (d:=en0) hy;exact lxF_posE hj he
theorem lz70 (l:List Ent)(hl:l.length≤2^40)(x:Ent):FSpec Tryz.prog 47 [.d (ents l),.fn 48 [.ptr 1000001 0]] [(1000001,ecell x)] (fun v r=>v= .d (.bool (dupE l x))∧r= [(1000001,ecell x)]):=by
 refine spAx hT Tryz.func47 Tryz.call47 ?_;conv=>whnf
 repeat' ((first|(refine oEx (lz152 l hl x) [(1000001,1000001)] ?_)|refine br_intro ?_ ?_<;>intro hb<;>try simp only[brs]at hb|omega|refine sAx ?_|decide|assumption)<;>conv=>whnf)
 refine .ret _ ?_;conv=>whnf
 refine⟨[(1000001,ecell x)],⟨?_,rfl⟩,rr,trivial⟩;conv=>lhs;whnf
 rw[←dup_ix]
def frmE (x:Ent):Int:=if ¬ (0≤x.tm∧x.tm≤5761439)then 1 else if isKeyB x.desk=false then 5 else if ¬ (1≤x.no∧x.no≤1000000)then 1 else if ¬ (1≤x.words.length∧x.words.length≤200)then 3 else if prB x.words=false then 3 else 0
def entE (l:List Ent)(i:Nat):Int:=if frmE (l.getD i en0)≠0 then frmE (l.getD i en0)else if 0<i∧0≤entCmp (l.getD (i - 1) en0) (l.getD i en0)then 7 else if dupE (l.take i) (l.getD i en0)=true then 6 else 0
def entsE (l:List Ent):Int:=if 1000<l.length then 2 else firstAt (entE l) l.length
def entK (x:Ent):Prop:=(x.desk.length≤2^40∧x.words.length≤2^40)∧entR x
def entOk (l:List Ent):Prop:=l.length≤2^40∧∀x ∈ l,entK x
theorem lz69 (x:Ent)(hk:entK x):FSpec Tryz.prog 46 [.agg ((enF x).map .d)] [] (fun v r=>v= .d (.int .i64 (frmE x))∧r= []):=by
 have hw:=hk.1.2;refine spAx hT Tryz.func46 Tryz.call46 ?_;conv=>whnf
 repeat' (first|(refine CallX.exact (s133 _) rfl rfl ?_;rotate_right;conv=>whnf)|(refine CallX.exact (s21 _ hk.1.1) rfl rfl ?_;rotate_right;conv=>whnf)|(refine CallX.exact (s109 _ _ _) rfl rfl ?_;rotate_right;conv=>whnf)|((first|refine br_intro ?_ ?_<;>intro hb<;>try simp only[brs]at hb|omega|refine sAx ?_|decide|assumption)<;>conv=>whnf))
 iterate 4
  · refine .ret _ ?_;conv=>whnf
    refine⟨[],⟨?_,rfl⟩,trivial⟩;conv=>lhs;whnf
    congr 2
    unfold frmE;grind
 have hf:frmE x=if prB x.words=false then 3 else 0:=by unfold frmE;grind
 rw[hf];refine LoopX.rule hT (C:= []) (ι:=Nat) (fun i=>i≤x.words.length∧∀j,j<i→32≤(x.words.getD j 0).toNat∧(x.words.getD j 0).toNat≤126) (fun i=>mkSt [(1,.ptr 1 0),(27,.d (.int .i64 x.words.length)),(28,.d (.int .i64 i))] [(1,ecell x)]) (fun i=>x.words.length - i) 0 ⟨by omega,by omega⟩ (by exact eAx [(1,1)]) ?_;rintro i ⟨p1,p2⟩;have e1:=tnc i;have hby:(x.words.getD (i:Int).toNat 0).toNat<256:=UInt8.toNat_lt _;have hby2:(x.words.getD i 0).toNat<256:=UInt8.toNat_lt _;conv=>whnf
 repeat' (first|(refine CallX.exact (s109 _ _ _) rfl rfl ?_;rotate_right;conv=>whnf)|((first|refine br_intro ?_ ?_<;>intro hb<;>try simp only[brs]at hb|omega|refine sAx ?_|decide|assumption)<;>conv=>whnf))
 · refine .ret _ ?_;conv=>whnf
   refine⟨[],⟨?_,rfl⟩,trivial⟩;conv=>lhs;whnf
   congr 2
   rw[prB_bad (i:=i) (by omega) (by omega)];rfl
 · exact⟨i+1,⟨by omega,all_step p2 (by omega)⟩,by omega,(by exact eAx [(1,1)])⟩
 · refine .ret _ ?_;conv=>whnf
   refine⟨[],⟨?_,rfl⟩,trivial⟩;conv=>lhs;whnf
   congr 2
   have:i=x.words.length:=by omega
   subst this;rw[prB_iff.2 p2];rfl
theorem le_takeE {l:List Ent}{i:Nat}(h:i≤l.length):SV.le (.d (.ro 4 i fun j=>rowF enF en0 l (0+j))) (.d (ents (l.take i))):=
 SV.le_ro (by rw[List.length_take];omega) (fun j hj=>by
  simp only[Nat.zero_add,rowF]
  rw[List.getD_eq_getElem?_getD,List.getD_eq_getElem?_getD,List.getElem?_take_of_lt hj])
theorem entE_hit {l:List Ent}{i:Nat}{e:Int}(h0:¬ 1000<l.length)(h:i<l.length)(p:∀j,j<i→entE l j=0)(h1:e≠0)(h2:entE l i=e):entsE l=e:=by
 unfold entsE;rw[if_neg h0];exact firstAt_eq h p h1 h2
theorem lz12 (l:List Ent)(hk:entOk l):FSpec Tryz.prog 17 [.d (ents l)] [] (fun x r=>x= .d (.int .i64 (entsE l))∧r= []):=by
 refine spAx hT Tryz.func17 Tryz.call17 ?_;conv=>whnf
 refine br_intro (fun h0=> ?_) (fun h0=> ?_)
 · simp at h0;conv=>whnf
   refine .ret _ ?_;conv=>whnf
   refine⟨[],⟨?_,rfl⟩,trivial⟩;conv=>lhs;whnf
   unfold entsE;rw[if_pos (by omega)]
 simp at h0;conv=>whnf
 refine LoopX.rule hT (C:= []) (ι:=Nat) (fun i=>i≤l.length∧∀j,j<i→entE l j=0) (fun i=>mkSt [(0,.d (ents l)),(9,.d (ents l)),(10,.d (.int .i64 l.length)),(11,.d (.int .i64 i))] []) (fun i=>l.length - i) 0 ⟨by omega,by omega⟩ (by exact eAx []) ?_;rintro i ⟨p1,p2⟩;have e1:=tnc i;have hx:∀i,i<l.length→entK (l.getD i en0):=fun i hi=>hk.2 _ (getD_mem hi)
 have hK:entK (l.getD (i:Int).toNat en0):=by
  rw[e1];rcases Nat.lt_or_ge i l.length with q|q
  · exact hx i q
  · rw[List.getD_eq_getElem?_getD,List.getElem?_eq_none q];simp[entK,entR,en0]
 have hK2:entK (l.getD ((i:Int) - 1).toNat en0):=by
  rcases Nat.lt_or_ge ((i:Int) - 1).toNat l.length with q|q
  · exact hx _ q
  · rw[List.getD_eq_getElem?_getD,List.getElem?_eq_none q];simp[entK,entR,en0]
 have hD:=lz70 (l.take (i:Int).toNat) (by rw[List.length_take];have:=hk.1;omega) (l.getD (i:Int).toNat en0);conv=>whnf
 repeat' (first|(refine CallX.exact (lz69 _ hK) rfl rfl ?_;rotate_right;conv=>whnf)|(refine CallX.exact (lz63 (l.getD ((i:Int) - 1).toNat en0) (l.getD (i:Int).toNat en0) hK2.2 hK.2) rfl rfl ?_;rotate_right;conv=>whnf)|((first|(refine CallX.of hD [(1000001,4)] rfl ⟨le_takeE (by omega),lr,trivial⟩ ⟨rr,trivial⟩ rfl rfl ?_;rintro v rout ⟨rfl,rfl⟩;refine⟨rfl,?_⟩)|refine br_intro ?_ ?_<;>intro hb<;>try simp only[brs]at hb|refine tAx hT oAEnC17 ?_|omega|refine sAx ?_|decide|assumption)<;>conv=>whnf))
 all_goals clear hD hK hK2 hx
 all_goals first
  |(refine⟨i+1,⟨by omega,first_step p2 (by clear p2 hk;simp only[e1,toNat_pred]at*;unfold entE;grind)⟩,by omega,(by exact eAx [])⟩)
  | (refine .ret _ ?_
     conv=>whnf
     refine⟨[],⟨?_,rfl⟩,trivial⟩;conv=>lhs;whnf
     congr 2
     first
      |exact(entE_hit (by omega) (by omega) p2 hb (by clear p2 hk;simp only[e1,toNat_pred]at*;unfold entE;grind)).symm
      |exact(entE_hit (by omega) (by omega) p2 (by decide) (by clear p2 hk;simp only[e1,toNat_pred]at*;unfold entE;grind)).symm
      | (have:i=l.length:=by omega
         subst this
         unfold entsE;rw[if_neg (by omega),firstAt_zero p2]))
def oAEnD51:TL:= [(16,[(0,[]),(1,[]),(2,[]),(3,[]),(4,[3]),(5,[3]),(6,[]),(7,[]),(8,[3,4,5,6,7]),(9,[]),(10,[]),(11,[]),(12,[])])]
theorem wk_si {key:List DV}(h:wk [.str,.int .i64] key=true):∃a b,key= [.str a,.int .i64 b]:=by
 match key,h with
 | [.str a,.int k d],h=>
   have:IntKind.i64=k:=kEq_eq (by simpa [wk,wk1]using h);subst this
   exact⟨a,d,rfl⟩
 | .str _:: .int _ _::_::_,h=>simp[wk]at h
theorem enR_up {l:List Ent}{i:Nat}{x:Ent}(hi:i<l.length)(hx:x=l.getD i en0):
 Res.le (.map true false [.str,.int .i64] [.bool false] (fun q=>keyEq q [.str x.desk,.int .i64 x.no]||enHas (l.take i) q) (fun q=>bif keyEq q [.str x.desk,.int .i64 x.no]then [.bool true]else [.bool (enHas (l.take i) q)])) (enR (l.take (i+1))):=Res.le_map fun K hK=>by
 obtain⟨a,b,rfl⟩:=wk_si hK
 have e:l.take (i+1)=l.take i++ [x]:=by
  rw[hx,List.take_add_one];simp[List.getD_eq_getElem?_getD,hi]
 have h1:enHas (l.take (i+1)) [.str a,.int .i64 b]=(enHas (l.take i) [.str a,.int .i64 b]||(x.desk==a&&decide (x.no=b))):=by
  show(l.take (i+1)).any _=_;rw[e,List.any_append];simp[enHas]
 have h2:keyEq [.str a,.int .i64 b] [.str x.desk,.int .i64 x.no]=(x.desk==a&&decide (x.no=b)):=by
  rw[Bool.eq_iff_iff];simp[keyEq,keyEq1];grind
 rw[h1,h2];cases hq:(x.desk==a&&decide (x.no=b))<;>simp
theorem lz64 (l:List Ent)(hk:entOk l):FSpec Tryz.prog 51 [.d (ents l)] [] (fun x r=>x= .d (.int .i64 (entsE l))∧r= []):=by
 refine spAx hT Tryz.func51 Tryz.call51 ?_;conv=>whnf
 refine br_intro (fun h0=> ?_) (fun h0=> ?_)
 · simp at h0;conv=>whnf
   refine .ret _ ?_;conv=>whnf
   refine⟨[],⟨?_,rfl⟩,trivial⟩;conv=>lhs;whnf
   unfold entsE;rw[if_pos (by omega)]
 simp at h0;conv=>whnf
 refine LoopX.rule hT (C:= []) (ι:=Nat) (fun i=>i≤l.length∧∀j,j<i→entE l j=0) (fun i=>mkSt [(0,.d (ents l)),(3,.mp 3),(11,.d (ents l)),(12,.d (.int .i64 l.length)),(13,.d (.int .i64 i))] [(3,enR (l.take i))]) (fun i=>l.length - i) 0 ⟨by omega,by omega⟩ ?_ ?_
 · refine Entails.mk' [(3,10)] rfl rfl ⟨lr,lr,lr,lr,lr,trivial⟩ ⟨Res.le_map (fun key hk=> ?_),trivial⟩;obtain⟨a,b,rfl⟩:=wk_si hk;exact⟨rfl,rfl⟩
 rintro i ⟨p1,p2⟩;have e1:=tnc i;have hx:∀i,i<l.length→entK (l.getD i en0):=fun i hi=>hk.2 _ (getD_mem hi)
 have hK:entK (l.getD (i:Int).toNat en0):=by
  rw[e1];rcases Nat.lt_or_ge i l.length with q|q
  · exact hx i q
  · rw[List.getD_eq_getElem?_getD,List.getElem?_eq_none q];simp[entK,entR,en0]
 conv=>whnf
 repeat' (first|(refine CallX.exact (s154 _) rfl rfl ?_;rotate_right;conv=>whnf)|(refine CallX.exact (s108 _ hK.1.1) rfl rfl ?_;rotate_right;conv=>whnf)|(refine CallX.exact (s119 _ _ _) rfl rfl ?_;rotate_right;conv=>whnf)|(refine CallX.exact (lz149 _ hK.1.2) rfl rfl ?_;rotate_right;conv=>whnf)|(refine CallX.exact (lz150 (l.getD ((i:Int) - 1).toNat en0) (l.getD (i:Int).toNat en0)) rfl rfl ?_;rotate_right;conv=>whnf)|(refine And.intro (rfl:zrow _=some [DV.bool false]) ?_;conv=>whnf)|(simp only[Nat.beq_refl,cond_true];conv=>whnf)|((first|refine br_intro ?_ ?_<;>intro hb<;>try simp only[brs]at hb|refine tAx hT oAEnD51 ?_|omega|refine sAx ?_|decide|assumption)<;>conv=>whnf))
 all_goals have hwl:(l.getD i en0).words= []↔(l.getD i en0).words.length=0:=List.length_eq_zero_iff.symm
 all_goals clear hK hx
 all_goals first
  |(refine⟨i+1,⟨by omega,first_step p2 (by clear p2 hk;simp only[e1,toNat_pred]at*;unfold entE frmE dupE;grind)⟩,by omega,Entails.mk' [(3,3)] rfl rfl ⟨lr,lr,lr,lr,lr,trivial⟩ ⟨enR_up (x:=l.getD (i:Int).toNat en0) (by omega) (by rw[e1]),trivial⟩⟩)
  | (refine .ret _ ?_
     conv=>whnf
     refine⟨[],⟨?_,rfl⟩,trivial⟩;conv=>lhs;whnf
     congr 2
     first
      |exact(entE_hit (by omega) (by omega) p2 (by decide) (by clear p2 hk;simp only[e1,toNat_pred]at*;unfold entE frmE dupE;grind)).symm
      | (have:i=l.length:=by omega
         subst this
         unfold entsE;rw[if_neg (by omega),firstAt_zero p2]))
theorem dec_len:∀ (k u:Nat),u<10 ^ (k+1)→(Lib.decDigits u).length≤k+1:=by
 intro k
 induction k with
 | zero=>
   intro u h
   rw[Lib.decDigits,dif_pos (by omega)];simp
 | succ k ih=>
   intro u h;rw[Lib.decDigits];split
   · simp
   · have:=ih (u/10) (by rw[Nat.pow_succ]at h;omega);simp;omega
theorem itoa_len {n:Int}(h0: -2^60≤n)(h1:n≤2^60):(Lib.itoa n).length≤20:=by
 have key:∀u:Nat,u≤2^60→(Lib.decDigits u).length≤19:=fun u hu=>dec_len 18 u (by omega)
 unfold Lib.itoa;split
 · have:=key n.natAbs (by omega);simp;omega
 · have:=key n.toNat (by omega);omega
theorem lz59 (n:Nat)(L:Nat→Int)(hL:Rok n L)(a:Int)(h0:0≤a)(ha:a≤2^37)(at':Int)(hq1: -2^40≤at')(hq2:at'≤2^40):
 FSpec Tryz.prog 42 [.ptr 1000000 0,.d (.int .i64 at')] [(1000000,strm n L a),(1000009,KX)] (fun y r=>(∃t:List UInt8,t.length≤2^10∧y= .d (.str t))∧MovedK n L a 20 r):=by
 have hI:∀k:Int,-2^60≤k→k≤2^60→(Lib.itoa k).length≤20:=fun k h1 h2=>itoa_len h1 h2
 refine spAx hT Tryz.func42 Tryz.call42 ?_;conv=>whnf
 repeat' (first|(refine CallX.of (s15 n L hL _ ?_ ?_ [[118,49],[118,49],[118,50],[118,51],[110,111,110,101]] (by simp) (by simp)) [(1000000,1000000)] rfl ⟨lr,SV.le_lit rfl rfl,trivial⟩ ⟨rr,trivial⟩ rfl rfl ?_;rotate_right;rintro x rout ⟨⟨u0,hu0,rfl⟩,⟨c,c1,c2,rfl⟩⟩;have hw0:=mem_len hu0 rfl;refine⟨rfl,?_⟩;conv=>whnf)|(refine CallX.of (s15 n L hL _ ?_ ?_ [[115,49],[115,49],[115,49],[115,50],[115,57]] (by simp) (by simp)) [(1000000,1000000)] rfl ⟨lr,SV.le_lit rfl rfl,trivial⟩ ⟨rr,trivial⟩ rfl rfl ?_;rotate_right;rintro x rout ⟨⟨u1,hu1,rfl⟩,⟨c,c1,c2,rfl⟩⟩;have hw1:=mem_len hu1 rfl;refine⟨rfl,?_⟩;conv=>whnf)|(refine CallX.of (s15 n L hL _ ?_ ?_ [[104,49],[104,49],[104,50],[104,51],[65]] (by simp) (by simp)) [(1000000,1000000)] rfl ⟨lr,SV.le_lit rfl rfl,trivial⟩ ⟨rr,trivial⟩ rfl rfl ?_;rotate_right;rintro x rout ⟨⟨u2,hu2,rfl⟩,⟨c,c1,c2,rfl⟩⟩;have hw2:=mem_len hu2 rfl;refine⟨rfl,?_⟩;conv=>whnf)|(refine CallX.of (s15 n L hL _ ?_ ?_ [[115,104,111,112],[100,111,110,101],[99,111,109,101],[103,111,110,101]] (by simp) (by simp)) [(1000000,1000000)] rfl ⟨lr,SV.le_lit rfl rfl,trivial⟩ ⟨rr,trivial⟩ rfl rfl ?_;rotate_right;rintro x rout ⟨⟨u3,hu3,rfl⟩,⟨c,c1,c2,rfl⟩⟩;have hw3:=mem_len hu3 rfl;refine⟨rfl,?_⟩;conv=>whnf)|(refine CallX.of (s15 n L hL _ ?_ ?_ [[115,50],[115,49],[115,57]] (by simp) (by simp)) [(1000000,1000000)] rfl ⟨lr,SV.le_lit rfl rfl,trivial⟩ ⟨rr,trivial⟩ rfl rfl ?_;rotate_right;rintro x rout ⟨⟨u4,hu4,rfl⟩,⟨c,c1,c2,rfl⟩⟩;have hw4:=mem_len hu4 rfl;refine⟨rfl,?_⟩;conv=>whnf)|(refine CallX.of (s15 n L hL _ ?_ ?_ [[109,105,110,105],[109,105,100,105],[110,111,110,101]] (by simp) (by simp)) [(1000000,1000000)] rfl ⟨lr,SV.le_lit rfl rfl,trivial⟩ ⟨rr,trivial⟩ rfl rfl ?_;rotate_right;rintro x rout ⟨⟨u5,hu5,rfl⟩,⟨c,c1,c2,rfl⟩⟩;have hw5:=mem_len hu5 rfl;refine⟨rfl,?_⟩;conv=>whnf)|(refine CallX.of (s15 n L hL _ ?_ ?_ [[53,48],[49,48,48],[49,48,49]] (by simp) (by simp)) [(1000000,1000000)] rfl ⟨lr,SV.le_lit rfl rfl,trivial⟩ ⟨rr,trivial⟩ rfl rfl ?_;rotate_right;rintro x rout ⟨⟨u6,hu6,rfl⟩,⟨c,c1,c2,rfl⟩⟩;have hw6:=mem_len hu6 rfl;refine⟨rfl,?_⟩;conv=>whnf)|(refine CallX.of (s15 n L hL _ ?_ ?_ [[48],[49,48,48],[57,57,57,57,57,48]] (by simp) (by simp)) [(1000000,1000000)] rfl ⟨lr,SV.le_lit rfl rfl,trivial⟩ ⟨rr,trivial⟩ rfl rfl ?_;rotate_right;rintro x rout ⟨⟨u7,hu7,rfl⟩,⟨c,c1,c2,rfl⟩⟩;have hw7:=mem_len hu7 rfl;refine⟨rfl,?_⟩;conv=>whnf)|(refine CallX.of (s15 n L hL _ ?_ ?_ [[56],[52],[57]] (by simp) (by simp)) [(1000000,1000000)] rfl ⟨lr,SV.le_lit rfl rfl,trivial⟩ ⟨rr,trivial⟩ rfl rfl ?_;rotate_right;rintro x rout ⟨⟨u8,hu8,rfl⟩,⟨c,c1,c2,rfl⟩⟩;have hw8:=mem_len hu8 rfl;refine⟨rfl,?_⟩;conv=>whnf)|(refine CallX.of (s15 n L hL _ ?_ ?_ [[53],[51,48,48],[52,48,48]] (by simp) (by simp)) [(1000000,1000000)] rfl ⟨lr,SV.le_lit rfl rfl,trivial⟩ ⟨rr,trivial⟩ rfl rfl ?_;rotate_right;rintro x rout ⟨⟨u9,hu9,rfl⟩,⟨c,c1,c2,rfl⟩⟩;have hw9:=mem_len hu9 rfl;refine⟨rfl,?_⟩;conv=>whnf)|(refine CallX.of (s15 n L hL _ ?_ ?_ [[56],[50]] (by simp) (by simp)) [(1000000,1000000)] rfl ⟨lr,SV.le_lit rfl rfl,trivial⟩ ⟨rr,trivial⟩ rfl rfl ?_;rotate_right;rintro x rout ⟨⟨u10,hu10,rfl⟩,⟨c,c1,c2,rfl⟩⟩;have hw10:=mem_len hu10 rfl;refine⟨rfl,?_⟩;conv=>whnf)|(refine CallX.of (s33 n L hL _ ?_ ?_ [10,60,1440,2000,-5] (by simp) (by simp)) [(1000000,1000000)] rfl ⟨lr,SV.le_lit rfl rfl,trivial⟩ ⟨rr,trivial⟩ rfl rfl ?_;rotate_right;rintro x rout ⟨⟨n1,hn1,rfl⟩,⟨c,c1,c2,rfl⟩⟩;have hm1:=mem_bd hn1 rfl;have hm1a:=hm1.1;have hm1b:=hm1.2;refine⟨rfl,?_⟩;conv=>whnf)|(refine CallX.of (s33 n L hL _ ?_ ?_ [0,10,100] (by simp) (by simp)) [(1000000,1000000)] rfl ⟨lr,SV.le_lit rfl rfl,trivial⟩ ⟨rr,trivial⟩ rfl rfl ?_;rotate_right;rintro x rout ⟨⟨n2,hn2,rfl⟩,⟨c,c1,c2,rfl⟩⟩;have hm2:=mem_bd hn2 rfl;have hm2a:=hm2.1;have hm2b:=hm2.2;refine⟨rfl,?_⟩;conv=>whnf)|(refine oAx (s86 n L hL _ ?_ ?_ _ ?_) [(1000000,1000000)] ?_;rotate_right;rintro x rout ⟨⟨j,hj1,hj2,hj3,rfl⟩,⟨c,c1,c2,rfl⟩⟩;refine⟨rfl,?_⟩;conv=>whnf)|((first|refine CallX.kn (zItoa _ (by omega) (by omega)) rfl rfl rfl rfl ?_|(refine CallX.of (s15 n L hL _ (by omega) (by omega) [_,_,_,_,_,_,_,_] (by simp) (by simp)) [(1000000,1000000)] rfl ⟨lr,SV.le_lit rfl rfl,trivial⟩ ⟨rr,trivial⟩ rfl rfl ?_;rintro x rout ⟨⟨z,hz,rfl⟩,⟨c9,c91,c92,rfl⟩⟩;refine⟨rfl,?_⟩)|(refine And.intro (by simp only[List.length_append,List.toList_toArray,List.length_cons,List.length_nil];have i1:=hI (at'+n1) (by omega) (by omega);first|omega|(have i2:=hI (at'+n2) (by omega) (by omega);omega)) ?_)|refine br_intro ?_ ?_<;>intro hb<;>try simp only[brs]at hb|omega|refine sAx ?_|decide|assumption)<;>conv=>whnf))
 all_goals refine .ret _ ?_
 all_goals conv=>whnf
 all_goals refine⟨[(1000000,strm n L _),(1000009,KX)],⟨⟨_,?_,rfl⟩,⟨_,?_,?_,rfl⟩⟩,rr,rr,trivial⟩
 all_goals first
  |omega
  | (have i1:=hI (at'+n1) (by omega) (by omega)
     first
      | (simp only[List.length_append,List.toList_toArray,List.length_cons,List.length_nil]
         first
          |omega
          |(have i2:=hI (at'+n2) (by omega) (by omega);omega))
      | (simp only[List.mem_cons,List.not_mem_nil,or_false]at hz
         rcases hz with rfl|rfl|rfl|rfl|rfl|rfl|rfl|rfl<;>simp only[List.length_append,List.toList_toArray,List.length_cons,List.length_nil]<;>omega))
def oAEnF16:TL:= [(9,[(0,[]),(1,[0]),(2,[0,1]),(3,[0,1,2]),(4,[0,1]),(5,rg 5),(6,rg 6),(9,rg 7),(7,[0,1,2,3,4,9]),(8,[9]),(10,[])])]
abbrev enB (l:List Ent):Res:=seqB 123 4 enF en0 l
def keyE:List DV→List UInt8
 | [.str s]=>s
 |_=> []
abbrev mpE (g:List UInt8→Int):Res:=.map false false [.str] [.int .i64 0] (fun K=>decide (0<g (keyE K))) (fun K=> [.int .i64 (g (keyE K))])
def upE (g:List UInt8→Int)(x:List UInt8):List UInt8→Int:=fun s=>if s=x then g x+1 else g s
theorem wk_str1 {K:List DV}(h:wk [.str] K=true):∃s,K= [.str s]:=by
 match K,h with
 | [.str s],_=>exact⟨s,rfl⟩
theorem mpE_up {g:List UInt8→Int}{x:List UInt8}(h0:∀k,0≤g k):
 Res.le (.map false false [.str] [.int .i64 0] (fun q=>keyEq q [.str x]||decide (0<g (keyE q))) (fun q=>bif keyEq q [.str x]then [.int .i64 (g x+1)]else [.int .i64 (g (keyE q))])) (mpE (upE g x)):=Res.le_map fun K hK=>by
 obtain⟨s,rfl⟩:=wk_str1 hK
 have e:keyEq [.str s] [.str x]=decide (s=x):=by
  rw[Bool.eq_iff_iff];simp[keyEq,keyEq1]
 rw[e];show(decide (s=x)||decide (0<g s))=decide (0<upE g x s)∧(bif decide (s=x)then [DV.int .i64 (g x+1)]else [.int .i64 (g s)])= [.int .i64 (upE g x s)];unfold upE
 by_cases q:s=x
 · subst q;have:=h0 s;simp;omega
 · simp[q]
theorem keyEq_one (x:List UInt8):keyEq [.str x] [.str x]=true:=by simp[keyEq,keyEq1]
def entG (x:Ent):Prop:=(x.desk.length≤8∧x.words.length≤2^10)∧entR x
theorem pickE {u:Int}(h:u ∈ ([0,1,5,10,100,500]:List Int)):0≤u∧u≤500:=by
 simp only[List.mem_cons,List.not_mem_nil,or_false]at h;omega
theorem lz9 (n:Nat)(L:Nat→Int)(hL:Rok n L)(a:Int)(h0:0≤a)(ha:a≤2^36)(m:Int)(hm1:0≤m)(hm2:m≤20):
 FSpec Tryz.prog 16 [.ptr 1000000 0,.d (.int .i64 m)] [(1000000,strm n L a),(1000009,KX)] (fun y r=>∃l:List Ent,∃b,allK entG m.toNat l∧(a≤b∧b≤a+1000)∧y= .buf 5∧r= [(5,enB l),(1000000,strm n L b),(1000009,KX)]):=by
 refine spAx hT Tryz.func16 Tryz.call16 ?_;conv=>whnf
 refine LoopX.rule hT (C:= []) (ι:=Int×List Ent×Nat×Int×(List UInt8→Int)) (fun(b,l,k,t,g)=>(a≤b∧b≤a+50*k∧(k:Int)≤m)∧allK entG k l∧(0≤t∧t≤2000*k)∧(∀s,0≤g s∧g s≤k))
  (fun(b,l,k,t,g)=>mkSt [(0,.ptr 1000000 0),(5,.buf 5),(6,.d (.int .i64 t)),(7,.mp 7),(11,.d (.int .i64 m)),(12,.d (.int .i64 k))] [(1000000,strm n L b),(1000009,KX),(5,enB l),(7,mpE g)])
  (fun(_,_,k,_,_)=>30 - k) (a,[],0,0,fun _=>0) ⟨⟨by simp,by simp,by simpa using hm1⟩,⟨by simp,by simp⟩,⟨by simp,by simp⟩,by simp⟩ ?_ ?_
 · refine(Entails.nil 5 5 123 4 (rowF enF en0 []) rfl rfl (by decide)).trans (Entails.mk' [(1000000,1000000),(1000009,1000009),(5,5),(7,10)] rfl rfl ⟨lr,lr,lr,lr,lr,lr,trivial⟩ ⟨rr,rr,rr,Res.le_map (fun key hk=> ?_),trivial⟩);obtain⟨s,rfl⟩:=wk_str1 hk;exact⟨rfl,rfl⟩
 rintro⟨b,l,k,t,g⟩ ⟨⟨p1,p2,p3⟩,q1,⟨q2,q3⟩,q4⟩;have p1:a≤b:=p1;have p2:b≤a+50*k:=p2;have p3:(k:Int)≤m:=p3;have q2:0≤t:=q2;have q3:t≤2000*k:=q3;have hl1:=q1.1;conv=>whnf
 repeat' (first|(refine CallX.of (s33 n L hL _ ?_ ?_ [0,1,5,10,100,500] (by simp) (by simp)) [(1000000,1000000)] rfl ⟨lr,SV.le_lit rfl rfl,trivial⟩ ⟨rr,trivial⟩ rfl rfl ?_;rotate_right;rintro x rout ⟨⟨u1,hu1,rfl⟩,⟨c,c1,c2,rfl⟩⟩;have hb1:=pickE hu1;have hb2:=hb1.1;have hb3:=hb1.2;refine⟨rfl,?_⟩;conv=>whnf)|(refine CallX.of (s15 n L hL _ ?_ ?_ [[100,49],[100,49],[100,50],[100,51]] (by simp) (by simp)) [(1000000,1000000)] rfl ⟨lr,SV.le_lit rfl rfl,trivial⟩ ⟨rr,trivial⟩ rfl rfl ?_;rotate_right;rintro x rout ⟨⟨u2,hu2,rfl⟩,⟨c,c1,c2,rfl⟩⟩;have hg2:=q4 u2;have hg3:0≤g (keyE [DV.str u2]):=hg2.1;have hg4:g (keyE [DV.str u2])≤k:=hg2.2;have hw2:=mem_len hu2 rfl;refine⟨rfl,?_⟩;conv=>whnf)|(refine CallX.of (s15 n L hL _ ?_ ?_ [[],[65]] (by simp) (by simp)) [(1000000,1000000)] rfl ⟨lr,SV.le_lit rfl rfl,trivial⟩ ⟨rr,trivial⟩ rfl rfl ?_;rotate_right;rintro x rout ⟨⟨u3,hu3,rfl⟩,⟨c,c1,c2,rfl⟩⟩;have hw3:=mem_len hu3 rfl;refine⟨rfl,?_⟩;conv=>whnf)|(refine CallX.of (s15 n L hL _ ?_ ?_ [[],[97,10],[195]] (by simp) (by simp)) [(1000000,1000000)] rfl ⟨lr,SV.le_lit rfl rfl,trivial⟩ ⟨rr,trivial⟩ rfl rfl ?_;rotate_right;rintro x rout ⟨⟨u4,hu4,rfl⟩,⟨c,c1,c2,rfl⟩⟩;have hw4:=mem_len hu4 rfl;refine⟨rfl,?_⟩;conv=>whnf)|(refine oAx (s104 n L hL _ ?_ ?_ 0 1000 ?_ ?_ ?_) [(1000000,1000000)] ?_;rotate_right;rintro x rout ⟨⟨u5,hk1,hk2,rfl⟩,⟨c,c1,c2,rfl⟩⟩;refine⟨rfl,?_⟩;conv=>whnf)|(refine oAx (s104 n L hL _ ?_ ?_ 1 1000000 ?_ ?_ ?_) [(1000000,1000000)] ?_;rotate_right;rintro x rout ⟨⟨u6,hk3,hk4,rfl⟩,⟨c,c1,c2,rfl⟩⟩;refine⟨rfl,?_⟩;conv=>whnf)|(refine oAx (s84 n L hL _ ?_ ?_ _ ?_) [(1000000,1000000)] ?_;rotate_right;rintro x rout ⟨⟨f,rfl⟩,⟨c,c1,c2,rfl⟩⟩;refine⟨rfl,?_⟩;conv=>whnf)|(refine oAx (s86 n L hL _ ?_ ?_ _ ?_) [(1000000,1000000)] ?_;rotate_right;rintro x rout ⟨⟨j,hj1,hj2,hj3,rfl⟩,⟨c,c1,c2,rfl⟩⟩;refine⟨rfl,?_⟩;conv=>whnf)|((first|(refine CallX.of (lz59 n L hL _ (by omega) (by omega) (t+u1) (by omega) (by omega)) [(1000000,1000000),(1000009,1000009)] rfl ⟨lr,lr,trivial⟩ ⟨rr,rr,trivial⟩ rfl rfl ?_;rintro x rout ⟨⟨w,hw,rfl⟩,⟨c5,c51,c52,rfl⟩⟩;refine⟨rfl,?_⟩)|refine And.intro (rfl:zrow _=some [DV.int .i64 0]) ?_)<;>conv=>whnf)|(simp only[Nat.beq_refl,cond_true];conv=>whnf)|(rw[keyEq_one,cond_true];conv=>whnf)|((first|refine br_intro ?_ ?_<;>intro hb<;>try simp only[brs]at hb|refine tAx hT oAEnF16 ?_|omega|refine sAx ?_|decide|assumption)<;>conv=>whnf))
 all_goals first
  | (refine⟨(_,_,k+1,_,upE g u2),?_,?_,Entails.mk' [(1000000,1000000),(1000009,1000009),(5,62),(7,7)] rfl rfl ⟨lr,lr,lr,lr,lr,lr,trivial⟩ ⟨rr,rr,Res.le_snocF (x:=⟨_,_,_,_⟩) rfl,mpE_up (fun s=>(q4 s).1),trivial⟩⟩
     · dsimp only
       refine⟨⟨by omega,by omega,by omega⟩,allK_snoc q1 (Nat.le_refl _) ⟨⟨?_,?_⟩,⟨?_,?_⟩,?_,?_⟩,⟨by omega,by omega⟩,fun s=> ?_⟩
       · first
          |exact hw2
          |exact hw3
       · first
          |exact hw
          |exact Nat.le_trans hw4 (by omega)
       · (try dsimp only);omega
       · (try dsimp only);omega
       · (try dsimp only);omega
       · (try dsimp only);omega
       · have z1:=q4 s;have z2:=q4 u2;show 0≤upE g u2 s∧upE g u2 s≤((k+1:Nat):Int);unfold upE;split<;>omega
     · show 30 - (k+1)<30 - k;omega)
  |skip
 refine oAx (en126 45 entCmp l (by omega) (fun p q hp hq=>lz63 p q (q1.2 p hp).2 (q1.2 q hq).2)) [(1000001,5)] ?_;rintro x rout ⟨rfl,e,he,rfl⟩;refine⟨rfl,?_⟩;have he1:=he.1;conv=>whnf
 repeat' ((first|refine br_intro ?_ ?_<;>intro hb<;>try simp only[brs]at hb|refine tAx hT oAEnF16 ?_|omega|refine sAx ?_|decide|assumption)<;>conv=>whnf)
 refine .ret _ ?_;conv=>whnf
 exact⟨[(5,enB e),(1000000,strm n L b),(1000009,KX)],⟨e,b,⟨by omega,fun p hp=>q1.2 p (he.2 p hp)⟩,⟨by omega,by omega⟩,rfl,rfl⟩,rr,rr,rr,trivial⟩
theorem entG_ok {l:List Ent}{k:Nat}(h:allK entG k l)(hk:k≤2^20):entOk l:=
 ⟨by have:=h.1;omega,fun x hx=>by
   obtain⟨⟨h1,h2⟩,h3⟩:=h.2 x hx
   exact⟨⟨by omega,by omega⟩,h3⟩⟩
end Go.Proofs.YtghhghijalcdfaaGreatDoor
namespace Go.Eng
open Go
variable {A:Amb} {G:Hp} {β:Env} {s:St} {t:Array Value} {w:World}
theorem RegX.ent {P:Program}{id:Nat}{ops:Array Oper}{k:St→Prop}{s s':St}(he:Entails s s')(h:RegX P id ops k s'):RegX P id ops k s:=
 ⟨fun A a w hN hm=>h.wp A a w hN (he.imp A a w hm)⟩
theorem MG.counted (h:MG A G β s t w){d:Nat}{ag va:Bool}{ks:List KK}{zr:List DV}{has:List DV→Bool}{val:List DV→List DV}(hd:s.res d=some (.map ag va ks zr has val)):
 ∃clock kb,KB ks has clock kb∧MG A G β (s.app ⟨none,.any,[(d,some (.mapB ag va ks zr has val clock kb))],[]⟩) t w:=by
 obtain⟨r,es,clock,l,hb,hh,hl,hw,hI,hf⟩:=h.rs _ _ hd;exact⟨clock,_,kb_of hl hw hI hf,h.change (d:=d) (r':=.mapB ag va ks zr has val clock ((l.map (·.1)).zip (es.toList.map (·.born)))) (v:=.map (some r)) (w':=w) hd rfl rfl hb rfl rfl rfl rfl (fun _ _=>rfl) ⟨r,es,l,hb,hh,hl,hw,hI,rfl,hf⟩⟩
theorem RegX.cnt {P:Program}{id:Nat}{ops:Array Oper}{k:St→Prop}{s:St}(d:Nat){ag va:Bool}{ks:List KK}{zr:List DV}{has:List DV→Bool}{val:List DV→List DV}(hd:s.res d=some (.map ag va ks zr has val))
 (h:∀clock kb,KB ks has clock kb→RegX P id ops k (s.app ⟨none,.any,[(d,some (.mapB ag va ks zr has val clock kb))],[]⟩)):RegX P id ops k s:=by
 refine⟨fun A a w hN=> ?_⟩;rintro⟨h0,G,β,hm⟩;obtain⟨clock,kb,hk,hm'⟩:=hm.counted hd;exact(h clock kb hk).wp A a w hN ⟨h0,G,β,hm'⟩
theorem Entails.unc {s:St}(d:Nat){ag va:Bool}{ks:List KK}{zr:List DV}{has:List DV→Bool}{val:List DV→List DV}{clock:Nat}{kb:List (List DV×Nat)}(hd:s.res d=some (.mapB ag va ks zr has val clock kb)):
 Entails s (s.app ⟨none,.any,[(d,some (.map ag va ks zr has val))],[]⟩):=by
 refine⟨fun A a w=> ?_⟩;rintro⟨h0,G,β,h⟩;obtain⟨r,es,l,hb,hh,hl,hw,hI,hkb,hf⟩:=h.rs _ _ hd;exact⟨h0,G,β,h.change (d:=d) (r':=.map ag va ks zr has val) (v:=.map (some r)) (w':=w) hd rfl rfl hb rfl rfl rfl rfl (fun _ _=>rfl) ⟨r,es,clock,l,hb,hh,hl,hw,hI,hf⟩⟩
theorem RegX.unc {P:Program}{id:Nat}{ops:Array Oper}{k:St→Prop}{s:St}(d:Nat){ag va:Bool}{ks:List KK}{zr:List DV}{has:List DV→Bool}{val:List DV→List DV}{clock:Nat}{kb:List (List DV×Nat)}(hd:s.res d=some (.mapB ag va ks zr has val clock kb))
 (h:RegX P id ops k (s.app ⟨none,.any,[(d,some (.map ag va ks zr has val))],[]⟩)):RegX P id ops k s:=.ent (.unc d hd) h
theorem nodup_le {α:Type}:∀ (l L:List α),l.Nodup→(∀x ∈ l,x ∈ L)→l.length≤L.length:=by
 intro l
 induction l with
 |nil=>intro L _ _;simp
 | cons x l ih=>
   intro L hn hL;obtain⟨A,B,rfl⟩:=List.append_of_mem (hL x (by simp));rw[List.nodup_cons]at hn
   have:=ih (A++B) hn.2 (fun y hy=>by
    have h1:=hL y (by simp[hy]);rw[List.mem_append,List.mem_cons]at h1;rcases h1 with q|q|q
    · exact List.mem_append_left _ q
    · subst q;exact absurd hy hn.1
    · exact List.mem_append_right _ q)
   simp at this ⊢;omega
theorem KB.le {ks:List KK}{has:List DV→Bool}{clock:Nat}{kb:List (List DV×Nat)}(h:KB ks has clock kb):∀ (L:List (List DV)),(∀key,wk ks key=true→has key=true→key ∈ L)→kb.length≤L.length:=by
 intro L hL
 have hs:∀x ∈ kb.map (·.1),x ∈ L:=fun x hx=>by
  obtain⟨p,hp,rfl⟩:=List.mem_map.1 hx;exact hL _ (h.kw p hp) ((h.kh _ (h.kw p hp)).2 ⟨p.2,hp⟩)
 have hn:(kb.map (·.1)).Nodup:=by
  have hw:∀x ∈ kb.map (·.1),wk ks x=true:=fun x hx=>by
   obtain⟨p,hp,rfl⟩:=List.mem_map.1 hx;exact h.kw p hp
  refine List.Pairwise.imp_of_mem (fun{a b} ha _ hab=> ?_) h.kd;rintro rfl;rw[keyEq_refl (hw a ha)]at hab;cases hab
 have:=nodup_le _ _ hn hs;simpa using this
theorem Entails.cellFro {s:St}(c d j:Nat){ce:TypeId}{l:List SV}{k n:Nat}{g:Nat→List DV}(hc:s.res c=some (.cells ce l))(hj:l[j]? =some (.buf d))(hd:s.res d=some (.fro k n g)):
 Entails s (s.app ⟨none,.any,[(c,some (.cells ce (l.set j (.d (.ro k n g)))))],[]⟩):=by
 refine⟨fun A a w=> ?_⟩;rintro⟨h0,G,β,h⟩;obtain⟨b,vs,hb,hh,hl,hv⟩:=h.rs _ _ hc;obtain⟨v,hv1,hv2⟩:=h.rs _ _ hd;refine⟨h0,G,β,h.change (d:=c) (r':=.cells ce (l.set j (.d (.ro k n g)))) (v:=.pointer (some ⟨b,0,none⟩)) (w':=w) hc rfl rfl hb rfl rfl rfl rfl (fun _ _=>rfl) ⟨b,vs,hb,hh,by simpa using hl,fun i x u hx hu=> ?_⟩⟩
 by_cases q:i=j
 · subst q;have hlt:i<l.length:=(List.getElem?_eq_some_iff.1 hj).1;rw[List.getElem?_set_self hlt]at hx;cases hx;have:=hv i _ u hj hu
   cases this with|buf _ _ hb2 _=>
   rw[hv1]at hb2;cases hb2;exact .d _ _ hv2
 · rw[List.getElem?_set_ne (fun e=>q e.symm)]at hx;exact hv i x u hx hu
end Go.Eng
set_option maxRecDepth 20000
namespace Go.Proofs.YtghhghijalcdfaaGreatDoor
open Go Go.Eng
def oAOfA64:TL:= [(3,[(0,[]),(1,[]),(2,[0,1]),(3,[]),(4,[])]),(6,[(0,[]),(1,[]),(2,[]),(3,[0,1,2]),(4,[])]),(10,[(0,[]),(1,[]),(2,[]),(3,[0,1,2]),(4,[])]),(16,[(0,[]),(1,[]),(2,[0,1]),(3,[0,1,2]),(4,[2]),(5,[])])]
def oAOfA163:TL:= [(1,[(0,[]),(1,[]),(2,[]),(3,[]),(4,rg 4),(5,rg 4),(6,[]),(7,rg 7),(12,rg 8),(8,[12]),(9,[12]),(10,[12]),(11,[12,10]),(13,[11]),(14,[])]),(2,[(0,[]),(1,[]),(2,[]),(3,[]),(4,rg 4),(5,rg 4),(6,rg 6),(7,rg 6),(8,rg 4),(9,[]),(11,rg 10),(12,rg 10),(10,[11,12]),(13,[]),(14,[]),(15,[]),(16,[])])]
def oAOfA164:TL:= [(1,[(0,[]),(1,[]),(2,[]),(3,[]),(4,rg 4),(5,rg 4),(6,rg 6),(7,rg 6),(8,rg 6),(9,rg 6),(10,rg 10),(11,rg 10),(12,rg 6),(13,rg 13),(14,rg 6),(15,rg 6),(16,rg 6),(17,[0,1,2,3,4,5,16]),(18,[17])]),(2,[(0,[]),(1,[]),(2,[]),(3,[]),(4,rg 4),(5,rg 4),(6,rg 6),(7,rg 6),(8,rg 4),(9,[])]),(3,[(0,[]),(1,[0]),(2,[0]),(3,[0]),(4,[0]),(5,rg 5),(6,rg 5),(7,[0]),(8,[]),(9,[]),(10,[])])]
structure Mp (α:Type) where
 has:List UInt8→Bool
 val:List UInt8→α
def Mp.put {α:Type}(m:Mp α)(x:List UInt8)(v:α):Mp α:=⟨fun s=>decide (s=x)||m.has s,fun s=>if s=x then v else m.val s⟩
def Mp.del {α:Type}(m:Mp α)(x:List UInt8)(z:α):Mp α:=⟨fun s=> !decide (s=x)&&m.has s,fun s=>if s=x then z else m.val s⟩
def Mp.nil {α:Type}(z:α):Mp α:=⟨fun _=>false,fun _=>z⟩
abbrev mpS {α:Type}(va:Bool)(z:List DV)(f:α→List DV)(m:Mp α):Res:=.map false va [.str] z (fun K=>m.has (keyE K)) (fun K=>f (m.val (keyE K)))
theorem keyEq_s (s x:List UInt8):keyEq [.str s] [.str x]=decide (s=x):=by
 rw[Bool.eq_iff_iff];simp[keyEq,keyEq1]
theorem mpS_put {α:Type}{va:Bool}{z:List DV}{f:α→List DV}{m:Mp α}{x:List UInt8}{v:α}:
 Res.le (.map false va [.str] z (fun q=>keyEq q [.str x]||m.has (keyE q)) (fun q=>bif keyEq q [.str x]then f v else f (m.val (keyE q)))) (mpS va z f (m.put x v)):=Res.le_map fun K hK=>by
 obtain⟨s,rfl⟩:=wk_str1 hK;rw[keyEq_s];refine⟨rfl,?_⟩;show(bif decide (s=x)then f v else f (m.val s))=f (if s=x then v else m.val s)
 by_cases q:s=x<;>simp[q]
theorem mpS_del {α:Type}{va:Bool}{z:α}{f:α→List DV}{m:Mp α}{x:List UInt8}:
 Res.le (.map false va [.str] (f z) (fun q=> !keyEq q [.str x]&&m.has (keyE q)) (fun q=>bif keyEq q [.str x]then f z else f (m.val (keyE q)))) (mpS va (f z) f (m.del x z)):=Res.le_map fun K hK=>by
 obtain⟨s,rfl⟩:=wk_str1 hK;rw[keyEq_s];refine⟨rfl,?_⟩;show(bif decide (s=x)then f z else f (m.val s))=f (if s=x then z else m.val s)
 by_cases q:s=x<;>simp[q]
structure Bok where
 key:List UInt8
 cls:List UInt8
 frm:Int
 to:Int
 made:Int
 pct:Int
def bkF:Bok→List DV:=fun b=> [.str b.key,.str b.cls,.int .i64 b.frm,.int .i64 b.to,.int .i64 b.made,.int .i64 b.pct]
def bk0:Bok:=⟨[],[],0,0,0,0⟩
abbrev boks (l:List Bok):DV:=seqD 6 bkF bk0 l
structure Evn where
 tm:Int
 veh:List UInt8
 st:List UInt8
 kind:Int
 to:List UInt8
def evF:Evn→List DV:=fun x=> [.int .i64 x.tm,.str x.veh,.str x.st,.int .i64 x.kind,.str x.to]
def ev0:Evn:=⟨0,[],[],0,[]⟩
abbrev evns (l:List Evn):DV:=seqD 5 evF ev0 l
abbrev evB (l:List Evn):Res:=seqB 146 5 evF ev0 l
structure Stt where
 k:Int
 st:List UInt8
 sin:Int
def ssF:Stt→List DV:=fun s=> [.int .i64 s.k,.str s.st,.int .i64 s.sin]
def ss0:Stt:=⟨0,[],0⟩
structure Rfs where
 ent:Int
 why:Int
def rfF:Rfs→List DV:=fun r=> [.int .i64 r.ent,.int .i64 r.why]
def rf0:Rfs:=⟨0,0⟩
abbrev rfB (l:List Rfs):Res:=seqB 173 2 rfF rf0 l
def folOk (s:Stt)(x:Evn):Bool:=
 if x.kind=1 then decide (s.k=0)else if x.kind=2 then decide (s.k=1)&&decide (s.st=x.st)else if x.kind=3 then decide (s.k=2)
 else if x.kind=4 then decide (s.k=1)&&decide (s.st=x.st)else if x.kind=5 then decide (s.k=3)&&decide (s.st=x.st)
 else if x.kind=6 then decide (s.k=1)&&decide (s.st=x.st)else if x.kind=7 then decide (s.k=4)&&decide (s.st=x.st)
 else if x.kind=8 then decide (s.k=1)&&decide (s.st=x.st)else false
def folS (s:Stt)(x:Evn):Stt:=
 if folOk s x then(if x.kind=2 then⟨2,[],x.tm⟩else if x.kind=4 then⟨3,x.st,x.tm⟩else if x.kind=6 then⟨4,x.to,x.tm⟩else if x.kind=8 then⟨5,[],x.tm⟩else⟨1,x.st,x.tm⟩)else s
def lgO:Option Hir→DV
 |some h=>legs h.legs
 |none=>.nilsl
def hiO (o:Option Hir):List DV:= [.str (o.elim [] (·.key)),.str (o.elim [] (·.drv)),.int .i64 (o.elim 0 (·.frm)),.int .i64 (o.elim 0 (·.to)),lgO o]
theorem rowSV_eq {va:Bool}{row row':List DV}{k:SV→Prop}(h:row=row')(hk:rowSV va row' k):rowSV va row k:=by rw[h];exact hk
structure Off where
 sts:Mp Stt
 log:List Evn
 ats:List UInt8→Int→Bool
 bks:Mp Bok
 his:Mp (Option Hir)
 paid:Mp Int
 ref:List Rfs
def sF1:List UInt8→List DV:=fun s=> [.str s]
def iF1:Int→List DV:=fun n=> [.int .i64 n]
def bF1:Bool→List DV:=fun b=> [.bool b]
def atH (a:List UInt8→Int→Bool):List DV→Bool
 | [.str v,.int .i64 t]=>a v t
 |_=>false
abbrev atM (a:List UInt8→Int→Bool):Res:=.map true false [.str,.int .i64] [.bool false] (atH a) (fun K=> [.bool (atH a K)])
def atPut (a:List UInt8→Int→Bool)(v:List UInt8)(t:Int):List UInt8→Int→Bool:=fun w u=>(decide (w=v)&&decide (u=t))||a w u
theorem atM_put {a:List UInt8→Int→Bool}{v:List UInt8}{t:Int}:
 Res.le (.map true false [.str,.int .i64] [.bool false] (fun q=>keyEq q [.str v,.int .i64 t]||atH a q) (fun q=>bif keyEq q [.str v,.int .i64 t]then [.bool true]else [.bool (atH a q)])) (atM (atPut a v t)):=Res.le_map fun K hK=>by
 obtain⟨s,n,rfl⟩:=wk_si hK
 have e:keyEq [.str s,.int .i64 n] [.str v,.int .i64 t]=(decide (s=v)&&decide (n=t)):=by
  rw[Bool.eq_iff_iff];simp[keyEq,keyEq1]
 rw[e];refine⟨rfl,?_⟩;show(bif decide (s=v)&&decide (n=t)then [DV.bool true]else [.bool (a s n)])= [.bool ((decide (s=v)&&decide (n=t))||a s n)];cases (decide (s=v)&&decide (n=t))<;>rfl
abbrev houC (h:Hou):List SV:=fltL h.flt++tarL h.tar++(deaF h.dea).map .d
abbrev offC (h:Hou):Res:=.cells 95 (houC h++ [.mp 1000002,.mp 1000003,.mp 1000004,.buf 1000005,.mp 1000006,.mp 1000007,.mp 1000008,.mp 1000010,.buf 1000011])
abbrev offR (h:Hou)(vm:Mp (List UInt8))(sm:Mp Bool)(s:Off):List (Nat×Res):=
 [(1000001,offC h),(1000002,mpS false [.str []] sF1 vm),(1000003,mpS false [.bool false] bF1 sm),(1000004,mpS true (ssF ss0) ssF s.sts),(1000005,evB s.log),(1000006,atM s.ats),(1000007,mpS true (bkF bk0) bkF s.bks),(1000008,mpS true (hiO none) hiO s.his),(1000010,mpS false [.int .i64 0] iF1 s.paid),(1000011,rfB s.ref)]
theorem wFol (s:Stt)(x:Evn):FSpec Tryz.prog 64 [.agg ((ssF s).map .d),.agg ((evF x).map .d)] [] (fun y r=>y= .tup [.agg ((ssF (folS s x)).map .d),.d (.bool (folOk s x))]∧r= []):=by
 refine spAx hT Tryz.func64 Tryz.call64 ?_;conv=>whnf
 repeat' ((first|refine br_intro ?_ ?_<;>intro hb<;>try simp only[brs]at hb|refine tAx hT oAOfA64 ?_|omega|refine sAx ?_|decide|assumption)<;>conv=>whnf)
 all_goals
  refine .ret _ ?_;conv=>whnf
  refine⟨[],⟨congrArg SV.tup ?_,rfl⟩,trivial⟩;repeat' (refine cons_eq ?_ ?_)
  all_goals (conv=>lhs;whnf)
  all_goals try(with_reducible rfl)
 all_goals first
  |rfl
  |(simp[folS,folOk,ssF, *];done)
  |(simp[folS,folOk,ssF, *];rfl)
abbrev offCo (h:Hou):Res:=.cells 95 (houC h++ [.mp 1000002,.mp 1000003,.mp 1000004,.buf 50,.mp 1000006,.mp 1000007,.mp 1000008,.mp 1000010,.buf 1000011])
abbrev offO (h:Hou)(vm:Mp (List UInt8))(sm:Mp Bool)(s:Off):List (Nat×Res):=
 [(1000001,offCo h),(1000002,mpS false [.str []] sF1 vm),(1000003,mpS false [.bool false] bF1 sm),(1000004,mpS true (ssF ss0) ssF s.sts),(50,evB s.log),(1000006,atM s.ats),(1000007,mpS true (bkF bk0) bkF s.bks),(1000008,mpS true (hiO none) hiO s.his),(1000010,mpS false [.int .i64 0] iF1 s.paid),(1000011,rfB s.ref)]
def canE (s:Off)(x:Evn):Int:=firstE [if s.ats x.veh x.tm then 6 else 0,if(!folOk (s.sts.val x.veh) x)then 11 else 0]
def sayS (s:Off)(x:Evn):Off:={s with sts:=s.sts.put x.veh (folS (s.sts.val x.veh) x),ats:=atPut s.ats x.veh x.tm,log:=s.log++ [x]}
theorem wCan (h:Hou)(vm:Mp (List UInt8))(sm:Mp Bool)(s:Off)(x:Evn):FSpec Tryz.prog 163 [.ptr 1000001 0,.agg ((evF x).map .d)] (offR h vm sm s) (fun y r=>y= .d (.int .i64 (canE s x))∧r=offR h vm sm s):=by
 refine spAx hT Tryz.func163 Tryz.call163 ?_;conv=>whnf
 repeat' (first|(refine CallX.pure (wFol _ x) ⟨lr,lr,trivial⟩ rfl ?_;conv=>whnf)|(refine CallX.exact (s107 _ _) rfl rfl ?_;rotate_right;conv=>whnf)|((first|refine And.intro (rfl:zrow _=some (ssF ss0)) ?_|refine And.intro (rfl:zrow _=some [DV.bool false]) ?_|refine CallX.pure (s105 [_,_] (by simp)) ⟨SV.le_lit (by rfl) (by rfl),trivial⟩ rfl ?_|refine br_intro ?_ ?_<;>intro hb<;>try simp only[brs]at hb|refine tAx hT oAOfA163 ?_|omega|refine sAx ?_|decide|assumption)<;>conv=>whnf))
 refine .ret _ ?_;conv=>whnf
 exact⟨offR h vm sm s,⟨rfl,rfl⟩,rr,rr,rr,rr,rr,rr,rr,rr,rr,rr,trivial⟩
theorem wSay (h:Hou)(vm:Mp (List UInt8))(sm:Mp Bool)(s:Off)(x:Evn)(hl:s.log.length≤2^20):FSpec Tryz.prog 164 [.ptr 1000001 0,.agg ((evF x).map .d)] (offR h vm sm s) (fun y r=>y= .tup []∧r=offO h vm sm (sayS s x)):=by
 refine spAx hT Tryz.func164 Tryz.call164 ?_;conv=>whnf
 repeat' ((first|refine CallX.pure (wFol _ x) ⟨lr,lr,trivial⟩ rfl ?_|refine And.intro (rfl:zrow _=some (ssF ss0)) ?_|refine And.intro (rfl:zrow _=some [DV.bool false]) ?_|refine br_intro ?_ ?_<;>intro hb<;>try simp only[brs]at hb|refine tAx hT oAOfA164 ?_|omega|refine sAx ?_|decide|assumption)<;>conv=>whnf)
 refine .ent _ _ (Entails.mk' (ts:= []) (rs:=offO h vm sm (sayS s x)) [(1000001,1000001),(1000002,1000002),(1000003,1000003),(1000004,1000004),(50,38),(1000006,1000006),(1000007,1000007),(1000008,1000008),(1000010,1000010),(1000011,1000011)] rfl rfl trivial ⟨rr,rr,rr,mpS_put,Res.le_snocF (x:=x) rfl,atM_put,rr,rr,rr,rr,trivial⟩) ?_;refine .ret _ ?_;conv=>whnf
 exact⟨_,⟨rfl,rfl⟩,rr,rr,rr,rr,rr,rr,rr,rr,rr,rr,trivial⟩
def isAtoi (s:List UInt8):Bool:=match Lib.atoiAll s with| .ok n=>Lib.itoa n==s|_=>false
def numN (s:List UInt8):Int:=match Lib.atoiAll s with| .ok n=>n| .range=>Lib.atoiSat s|_=>0
def numOk (s:List UInt8):Bool:=isAtoi s&&decide ((Lib.trimPrefix s [45]).length≤9)
def digs:List UInt8:= [48,49,50,51,52,53,54,55,56,57]
theorem digit_mem (u:Nat)(h:u<10):digs.contains (UInt8.ofNat (48+u))=true:=by
 have:∀u,u<10→digs.contains (UInt8.ofNat (48+u))=true:=by decide
 exact this u h
theorem dec_digits:∀ (n u:Nat),u<n→Lib.decDigits u≠ []∧∀b ∈ Lib.decDigits u,digs.contains b=true:=by
 intro n
 induction n with
 |zero=>intro u h;omega
 | succ n ih=>
   intro u hu;rw[Lib.decDigits];split
   · rename_i h;exact⟨by simp,fun b hb=>by rw[List.mem_singleton]at hb;subst hb;exact digit_mem u h⟩
   · rename_i h;refine⟨by simp,fun b hb=> ?_⟩;rcases List.mem_append.1 hb with q|q
     · exact(ih (u/10) (by omega)).2 b q
     · rw[List.mem_singleton]at q;subst q;exact digit_mem _ (Nat.mod_lt _ (by decide))
theorem trim_itoa (n:Int):Lib.trimPrefix (Lib.itoa n) [45]=Lib.decDigits n.natAbs:=by
 unfold Lib.itoa;split
 · rename_i h;simp[Lib.trimPrefix,Lib.hasPrefix]
 · rename_i h;have hn:n.toNat=n.natAbs:=by omega
   rw[hn];obtain⟨h1,h2⟩:=dec_digits (n.natAbs+1) n.natAbs (by omega)
   cases hd:Lib.decDigits n.natAbs with
   |nil=>exact absurd hd h1
   | cons b r=>
     have hb:=h2 b (by rw[hd];exact List.mem_cons_self);have hne:b≠45:=fun e=>by subst e;revert hb;decide
     have hne':¬ 45=b:=fun e=>hne e.symm
     simp[Lib.trimPrefix,Lib.hasPrefix,hne']
theorem dec_bd:∀ (k u:Nat),(Lib.decDigits u).length≤k→u<10 ^ k:=by
 intro k
 induction k with
 | zero=>
   intro u h;have:=(dec_digits (u+1) u (by omega)).1
   exact absurd (List.eq_nil_of_length_eq_zero (by omega)) this
 | succ k ih=>
   intro u h;rw[Lib.decDigits]at h;split at h
   · rename_i hu;have:1≤10 ^ k:=Nat.one_le_pow _ _ (by decide);rw[Nat.pow_succ];omega
   · have:=ih (u/10) (by simp at h;omega);rw[Nat.pow_succ];omega
theorem numN_bd {s:List UInt8}(h:numOk s=true): -10 ^ 9≤numN s∧numN s≤10 ^ 9:=by
 unfold numOk isAtoi at h;rw[Bool.and_eq_true]at h;unfold numN;split at h
 · rename_i n hn;have he:Lib.itoa n=s:=by simpa using h.1
   have h9:=of_decide_eq_true h.2;rw[←he,trim_itoa]at h9;have:=dec_bd 9 _ h9;rw[hn];show -10 ^ 9≤n∧n≤10 ^ 9;omega
 · cases h.1
theorem lxF_pos {p:Nat→Bool}{n k:Nat}(hk:k<n)(h:p k=true):0≤ixF p n:=by
 have hb:=ixF_bd (p:=p) (n:=n);rcases Int.lt_or_le (ixF p n) 0 with q|q
 · exfalso
   have hn :∀m,ixF p m<0→∀j,j<m→p j=false:=by
    intro m
    induction m with
    |zero=>intro _ j hj;omega
    | succ m ih=>
      intro hm j hj;rw[ixF]at hm;split at hm
      · rename_i hz
        by_cases hjm:j=m
        · subst hjm;split at hm
          · omega
          · rename_i hf;simpa using hf
        · exact ih (by omega) j (by omega)
      · rename_i hz;have:=(ixF_bd (p:=p) (n:=m)).1;omega
   rw[hn n q k hk]at h;cases h
 · exact q
theorem ix_mem (l:List (List UInt8))(v:List UInt8):decide (0≤ixF (fun i=>l.getD i []==v) l.length)=decide (v ∈ l):=by
 rw[decide_eq_decide];constructor
 · intro h;have:=ixF_bd (p:=fun i=>l.getD i []==v) (n:=l.length);rw[←eq_of_beq (this.2.2 h)];exact getD_mem (by omega)
 · intro h;obtain⟨j,hj,rfl⟩:=mem_getD (d:= []) h;exact lxF_pos hj (by simp)
theorem lz143 (l:List (List UInt8))(hl:l.length≤2^40)(v:List UInt8):FSpec Tryz.prog 178 [.d (strs l),.d (.str v)] [] (fun x r=>x= .d (.int .i64 (ixF (fun i=>l.getD i []==v) l.length))∧r= []):=by
 refine spAx hT Tryz.func178 Tryz.call178 ?_;conv=>whnf
 refine LoopX.rule hT (C:= []) (ι:=Nat) (fun i=>i≤l.length∧∀j,j<i→(l.getD j []==v)=false) (fun i=>mkSt [(0,.d (strs l)),(1,.d (.str v)),(7,.d (.int .i64 l.length)),(8,.d (.int .i64 i))] []) (fun i=>l.length - i) 0 ⟨by simp,fun j hj=>absurd hj (Nat.not_lt_zero j)⟩ (by exact eAx []) ?_;rintro i ⟨p1,p2⟩;have e1:=tnc i;conv=>whnf
 repeat' ((first|refine br_intro ?_ ?_<;>intro hb<;>try simp only[brs]at hb|omega|refine sAx ?_|decide|assumption)<;>conv=>whnf)
 · refine .ret _ ?_;conv=>whnf
   refine⟨[],⟨?_,rfl⟩,trivial⟩;conv=>lhs;whnf
   congr 2
   exact(ixF_hit (by omega) p2 (by rw[←hb];simp)).symm
 · exact⟨i+1,⟨by omega,all_step p2 (beq_eq_false_iff_ne.2 fun q=>hb q.symm)⟩,by omega,(by exact eAx [])⟩
 · refine .ret _ ?_;conv=>whnf
   refine⟨[],⟨?_,rfl⟩,trivial⟩;conv=>lhs;whnf
   congr 2
   have:i=l.length:=by omega
   subst this;exact(ixF_none p2).symm
theorem lz78 (l:List (List UInt8))(hl:l.length≤2^40)(v:List UInt8):FSpec Tryz.prog 148 [.d (strs l),.d (.str v)] [] (fun x r=>x= .d (.bool (decide (v ∈ l)))∧r= []):=by
 refine spAx hT Tryz.func148 Tryz.call148 ?_;conv=>whnf
 repeat' (first|(refine CallX.exact (lz143 l hl v) rfl rfl ?_;rotate_right;conv=>whnf)|((first|refine br_intro ?_ ?_<;>intro hb<;>try simp only[brs]at hb|omega|refine sAx ?_|decide|assumption)<;>conv=>whnf))
 refine .ret _ ?_;conv=>whnf
 refine⟨[],⟨?_,rfl⟩,trivial⟩;conv=>lhs;whnf
 rw[←ix_mem]
theorem atoi_bd {s:List UInt8}{v:Int}(h:Lib.atoiAll s= .ok v): -9223372036854775808≤v∧v≤9223372036854775807:=by
 unfold Lib.atoiAll at h;split at h
 · cases h
 · simp only at h;split at h
   · cases h
   · cases h
   · split at h
     · cases h
     · split at h
       · cases h
       · cases h;rename_i h1 h2;split
         · rename_i hq;simp[hq]at h2;omega
         · rename_i hq;simp[hq]at h1;omega
theorem lz129 (s:List UInt8)(hs:s.length≤2^40):FSpec Tryz.prog 162 [.d (.str s)] kx (fun x r=>x= .tup [.d (.int .i64 (numN s)),.d (.bool (numOk s))]∧r=kx):=by
 refine spAx hT Tryz.func162 Tryz.call162 ?_;conv=>whnf
 refine oAx (zAtoi s hs) [(1000009,1000009)] ?_;rintro x rout ⟨hx,rfl⟩;unfold atoiX at hx
 cases hA:Lib.atoiAll s with
 | ok v=>
   rw[hA]at hx;simp only at hx;subst hx;obtain⟨hv0,hv1⟩:=atoi_bd hA;refine⟨rfl,?_⟩;conv=>whnf
   repeat' (first|(refine CallX.exact (zTrimP s [45]) rfl rfl ?_;rotate_right;conv=>whnf)|((first|refine CallX.kn (zItoa v hv0 hv1) rfl rfl rfl rfl ?_|refine br_intro ?_ ?_<;>intro hb<;>try simp only[brs]at hb|omega|refine sAx ?_|decide|assumption)<;>conv=>whnf))
   · refine .ret _ ?_;conv=>whnf
     refine⟨kx,⟨congrArg SV.tup ?_,rfl⟩,rr,trivial⟩;repeat' (refine cons_eq ?_ ?_)
     all_goals (conv=>lhs;whnf)
     all_goals try(with_reducible rfl)
     · unfold numN;rw[hA]
     · unfold numOk isAtoi;rw[hA];simp[hb];omega
   · refine .ret _ ?_;conv=>whnf
     refine⟨kx,⟨congrArg SV.tup ?_,rfl⟩,rr,trivial⟩;repeat' (refine cons_eq ?_ ?_)
     all_goals (conv=>lhs;whnf)
     all_goals try(with_reducible rfl)
     · unfold numN;rw[hA]
     · unfold numOk isAtoi;rw[hA];simp[hb]
 | range=>
   rw[hA]at hx;simp only at hx;obtain⟨t,p,rfl⟩:=hx;refine⟨rfl,?_⟩;conv=>whnf
   repeat' ((first|refine br_intro ?_ ?_<;>intro hb<;>try simp only[brs]at hb|omega|refine sAx ?_|decide|assumption)<;>conv=>whnf)
   refine .ret _ ?_;conv=>whnf
   refine⟨kx,⟨congrArg SV.tup ?_,rfl⟩,rr,trivial⟩;repeat' (refine cons_eq ?_ ?_)
   all_goals (conv=>lhs;whnf)
   all_goals try(with_reducible rfl)
   · unfold numN;rw[hA]
   · unfold numOk isAtoi;rw[hA];rfl
 | _=>
   rw[hA]at hx;simp only at hx;obtain⟨t,p,rfl⟩:=hx;refine⟨rfl,?_⟩;conv=>whnf
   repeat' ((first|refine br_intro ?_ ?_<;>intro hb<;>try simp only[brs]at hb|omega|refine sAx ?_|decide|assumption)<;>conv=>whnf)
   refine .ret _ ?_;conv=>whnf
   refine⟨kx,⟨congrArg SV.tup ?_,rfl⟩,rr,trivial⟩;repeat' (refine cons_eq ?_ ?_)
   all_goals (conv=>lhs;whnf)
   all_goals try(with_reducible rfl)
   · unfold numN;rw[hA]
   · unfold numOk isAtoi;rw[hA];rfl
theorem split_len (s p:List UInt8)(hp:p≠ []):(Lib.split s p).length≤s.length+1:=by
 have key:∀ (n:Nat) (s:List UInt8),s.length≤n→∀k,(Lib.splitK p 0 k s).length≤s.length+1:=by
  intro n
  induction n with
  | zero=>
    intro s hs k
    cases k with
    |zero=>simp[Lib.splitK]
    | succ k=>
      unfold Lib.splitK;split
      · simp
      · rename_i h;have:=Lib.drop_shorter hp h
        omega
  | succ n ih=>
    intro s hs k
    cases k with
    |zero=>simp[Lib.splitK]
    | succ k=>
      unfold Lib.splitK;split
      · simp
      · rename_i h;have h1:=Lib.drop_shorter hp h;have h2:=ih (s.drop ((Lib.index s p).toNat+p.length)) (by omega) k;simp only[List.length_cons];omega
 exact key s.length s (Nat.le_refl _) _
theorem split_mem {s p:List UInt8}{x:List UInt8}(h:x ∈ Lib.split s p):x.length≤s.length:=by
 have key:∀ (k:Nat) (s:List UInt8),∀x ∈ Lib.splitK p 0 k s,x.length≤s.length:=by
  intro k
  induction k with
  |zero=>intro s x hx;simp[Lib.splitK]at hx;subst hx;exact Nat.le_refl _
  | succ k ih=>
    intro s x hx;unfold Lib.splitK at hx;split at hx
    · simp at hx;subst hx;exact Nat.le_refl _
    · rcases List.mem_cons.1 hx with q|q
      · subst q;simp;omega
      · have:=ih _ x q;simp at this;omega
 exact key _ s x h
def wrdsOk (l:List (List UInt8)):Bool:= !decide ([] ∈ l)
theorem splitK_ne {sep:List UInt8}{save:Nat}:∀ {k:Nat} {s:List UInt8},Lib.splitK sep save k s≠ []
 |0,s=>by simp[Lib.splitK]
 |k+1,s=>by unfold Lib.splitK;split<;>simp
theorem wWords (s:List UInt8)(hs:s.length≤2^30):FSpec Tryz.prog 161 [.d (.str s)] kx (fun x r=>x= .tup [.d (strs (Lib.split s [32])),.d (.bool (wrdsOk (Lib.split s [32])))]∧r=kx):=by
 have hl:=split_len s [32] (by decide);refine spAx hT Tryz.func161 Tryz.call161 ?_;conv=>whnf
 repeat' (first|(refine CallX.kn (zSplit s [32] (by omega) (by decide)) rfl rfl rfl rfl ?_;conv=>whnf)|(refine CallX.exact (lz78 (Lib.split s [32]) (by omega) []) rfl rfl ?_;rotate_right;conv=>whnf)|((first|refine br_intro ?_ ?_<;>intro hb<;>try simp only[brs]at hb|omega|refine sAx ?_|decide|assumption)<;>conv=>whnf))
 refine .ret _ ?_;conv=>whnf
 refine⟨kx,⟨congrArg SV.tup ?_,rfl⟩,rr,trivial⟩;repeat' (refine cons_eq ?_ ?_)
 all_goals (conv=>lhs;whnf)
 all_goals try(with_reducible rfl)
 all_goals rfl
structure Tol where
 word:List UInt8
 texts:List (List UInt8)
 nums:List Int
def tolF (t:Tol):List DV:= [.str t.word,strs t.texts,ints t.nums]
def tol0:Tol:=⟨[],[],[]⟩
def txF (f:List UInt8)(w:List (List UInt8)):Nat→List (List UInt8)
 |0=> []
 |i+1=>if f.getD i 0=119 then txF f w i++ [w.getD i []]else txF f w i
def nmF (f:List UInt8)(w:List (List UInt8)):Nat→List Int
 |0=> []
 |i+1=>if f.getD i 0=119 then nmF f w i else nmF f w i++ [numN (w.getD i [])]
theorem txF_len (f:List UInt8)(w:List (List UInt8)):∀i,(txF f w i).length≤i
 |0=>by simp[txF]
 | i+1=>by
   have:=txF_len f w i;unfold txF;split
   · rw[List.length_append,List.length_singleton];omega
   · omega
theorem nmF_len (f:List UInt8)(w:List (List UInt8)):∀i,(nmF f w i).length≤i
 |0=>by simp[nmF]
 | i+1=>by
   have:=nmF_len f w i;unfold nmF;split
   · omega
   · rw[List.length_append,List.length_singleton];omega
def telN (f:List UInt8)(w:List (List UInt8)):Bool:=decide (∀j,j<w.length→(f.getD j 0=119∨numOk (w.getD j [])=true))
def telW (w:List (List UInt8)):List UInt8:=w.getD 0 []
def telOk (fm:Mp (List UInt8))(s:List UInt8):Bool:=
 wrdsOk (Lib.split s [32])&&(fm.has (telW (Lib.split s [32]))&&(decide ((Lib.split s [32]).length=1+(fm.val (telW (Lib.split s [32]))).length)&&telN (fm.val (telW (Lib.split s [32]))) ((Lib.split s [32]).drop 1)))
def telT (fm:Mp (List UInt8))(s:List UInt8):Tol:=
 ⟨telW (Lib.split s [32]),txF (fm.val (telW (Lib.split s [32]))) ((Lib.split s [32]).drop 1) ((Lib.split s [32]).drop 1).length,nmF (fm.val (telW (Lib.split s [32]))) ((Lib.split s [32]).drop 1) ((Lib.split s [32]).drop 1).length⟩
theorem wTell (fm:Mp (List UInt8))(hf:∀k,(fm.val k).length≤2^20)(s:List UInt8)(hs:s.length≤2^20):
 FSpec Tryz.prog 123 [.d (.str s),.mp 1000001] [(1000001,mpS false [.str []] sF1 fm),(1000009,KX)] (fun y r=>y= .tup [.agg ((tolF (if telOk fm s then telT fm s else tol0)).map .d),.d (.bool (telOk fm s))]∧r= [(1000001,mpS false [.str []] sF1 fm),(1000009,KX)]):=by
 obtain⟨W,hW⟩:∃W,W=Lib.split s [32]:=⟨_,rfl⟩;have c1:=wWords s (by omega);have hl:=split_len s [32] (by decide);have hn:Lib.split s [32]≠ []:=splitK_ne;have hmem:∀x ∈ Lib.split s [32],x.length≤s.length:=fun x hx=>split_mem hx
 have hn1:1≤W.length:=by rw[hW];exact List.length_pos_iff.2 hn
 unfold telOk telT;rw[←hW]at c1 hl hmem ⊢;refine spAx hT Tryz.func123 Tryz.call123 ?_;conv=>whnf
 have hfw:=hf (telW W);repeat' ((first|refine CallX.kn c1 rfl rfl rfl rfl ?_|refine And.intro (rfl:zrow _=some [.str []]) ?_|(refine And.intro (by have:=hf (keyE [DV.str (W.getD (Int.toNat 0) [])]);unfold inI64;omega) ?_)|refine br_intro ?_ ?_<;>intro hb<;>try simp only[brs]at hb|omega|refine sAx ?_|decide|assumption)<;>conv=>whnf)
 all_goals first
  | (have hE:(wrdsOk W&&(fm.has (telW W)&&(decide (W.length=1+(fm.val (telW W)).length)&&telN (fm.val (telW W)) (W.drop 1))))=false:=by
      first
       |(rw[show wrdsOk W=false from hb];rfl)
       |(rw[show fm.has (telW W)=false from hb];simp)
       | (have q:¬ (W.length:Int)=1+((fm.val (telW W)).length:Nat):=hb
          rw[show decide (W.length=1+(fm.val (telW W)).length)=false from decide_eq_false (by omega)];simp)
     rw[hE];refine .weak _ ?_;conv=>whnf
     exact⟨.tup [.agg ((tolF tol0).map .d),.d (.bool false)],_,SV.le_tup ⟨SV.le_agg ⟨lr,SV.le_nilS,SV.le_nilS,trivial⟩,lr,trivial⟩,⟨rfl,rfl⟩,rr,rr,trivial⟩)
  |skip
 trace_state
 · obtain ⟨f,hfe⟩:∃f,f=fm.val (telW W):=⟨_,rfl⟩;rw[←hfe]at hfw;obtain⟨W1,hW1⟩:∃W1,W1=W.drop 1:=⟨_,rfl⟩;have hl1:W1.length=W.length - 1:=by rw[hW1,List.length_drop]
   have hlf:W1.length=f.length:=by
    have:(W.length:Int)=1+((fm.val (telW W)).length:Nat):=hb;rw[←hfe]at this;omega
   have hm1:∀j,(W1.getD j []).length≤2^40:=fun j=>by
    by_cases hj:j<W1.length
    · have h1:W1.getD j [] ∈ W:=by
       have h2:W1.getD j [] ∈ W1:=by rw[List.getD_eq_getElem?_getD,List.getElem?_eq_getElem hj];exact List.getElem_mem hj
       rw[hW1]at h2 ⊢;exact List.mem_of_mem_drop h2
      have:=hmem _ h1;omega
    · rw[List.getD_eq_getElem?_getD,List.getElem?_eq_none (by omega)];simp
   refine LoopX.rule hT (C:= []) (ι:=Nat) (fun i=>i≤W1.length∧∀j,j<i→(f.getD j 0=119∨numOk (W1.getD j [])=true))
    (fun i=>mkSt [(4,.ptr 4 0),(8,.d (.str f)),(10,.ptr 10 0),(48,.d (strs W1)),(49,.d (.int .i64 W1.length)),(50,.d (.int .i64 i))] [(1000001,mpS false [.str []] sF1 fm),(1000009,KX),(4,.cells 206 [.d (.str []),.d .nilsl,.d .nilsl]),(10,.cells 206 [.d (.str (telW W)),.buf 20,.buf 21]),(20,seqB 9 1 sF [] (txF f W1 i)),(21,seqB 3 1 iF 0 (nmF f W1 i))])
    (fun i=>W1.length - i) 0 ⟨by omega,fun j hj=>by omega⟩ ?_ ?_
   · subst hW1 hfe;refine Entails.trans (Entails.nilCell 10 20 9 1 1 (rowF sF [] []) rfl rfl rfl (by decide) rfl) ?_;refine Entails.trans (Entails.nilCell 10 21 3 1 2 (rowF iF 0 []) rfl rfl rfl (by decide) rfl) ?_;refine(Entails.mk' [(1000001,1000001),(1000009,1000009),(4,4),(10,10),(20,20),(21,21)] rfl rfl ⟨lr,lr,lr,SV.le_drop (by rw[List.length_drop];omega),SV.le_int (by rw[List.length_drop];omega),lr,trivial⟩ ⟨rr,rr,rr,rr,rr,rr,trivial⟩)
   rintro i ⟨p1,p2⟩;have e1:=tnc i;have htl:=txF_len f W1 i;have hnl:=nmF_len f W1 i;conv=>whnf
   repeat' ((first|refine CallX.kn (lz129 (W1.getD (i:Int).toNat []) (hm1 _)) rfl rfl rfl rfl ?_|(refine And.intro (by show(_+1)*16≤_;omega) ?_)|(refine And.intro (by show(_+1)*8≤_;omega) ?_)|refine br_intro ?_ ?_<;>intro hb<;>try simp only[brs]at hb|omega|refine sAx ?_|decide|assumption)<;>conv=>whnf)
   all_goals first
    | (have hc:f.getD i 0=119:=UInt8.toNat_inj.1 (by have:((f.getD i 0).toNat:Int)=119:=hb;show _=119;omega)
       have hT2:txF f W1 (i+1)=txF f W1 i++ [W1.getD i []]:=by rw[txF,if_pos hc]
       have hN2:nmF f W1 (i+1)=nmF f W1 i:=by rw[nmF,if_pos hc]
       refine⟨i+1,⟨by omega,fun j hj=> ?_⟩,by omega,Entails.mk' [(1000001,1000001),(1000009,1000009),(4,4),(10,10),(20,63),(21,21)] rfl rfl ⟨lr,lr,lr,lr,lr,lr,trivial⟩ ⟨rr,rr,rr,rr,(by show Res.le _ (seqB 9 1 sF [] (txF f W1 (i+1)));rw[hT2];exact Res.le_snocF (x:=W1.getD i []) rfl),(by show Res.le _ (seqB 3 1 iF 0 (nmF f W1 (i+1)));rw[hN2];exact rr),trivial⟩⟩
       by_cases q:j<i
       · exact p2 j q
       · exact .inl (by rw[show j=i by omega];exact hc))
    | (have hb0:¬ ((f.getD i 0).toNat:Int)=119:=by assumption
       have hc:¬f.getD i 0=119:=fun q=>hb0 (by rw[q];rfl)
       have hk:numOk (W1.getD i [])=true:=hb;have hT2:txF f W1 (i+1)=txF f W1 i:=by rw[txF,if_neg hc]
       have hN2:nmF f W1 (i+1)=nmF f W1 i++ [numN (W1.getD i [])]:=by rw[nmF,if_neg hc]
       refine⟨i+1,⟨by omega,fun j hj=> ?_⟩,by omega,Entails.mk' [(1000001,1000001),(1000009,1000009),(4,4),(10,10),(20,20),(21,77)] rfl rfl ⟨lr,lr,lr,lr,lr,lr,trivial⟩ ⟨rr,rr,rr,rr,(by show Res.le _ (seqB 9 1 sF [] (txF f W1 (i+1)));rw[hT2];exact rr),(by show Res.le _ (seqB 3 1 iF 0 (nmF f W1 (i+1)));rw[hN2];exact Res.le_snocF (x:=numN (W1.getD i [])) rfl),trivial⟩⟩
       by_cases q:j<i
       · exact p2 j q
       · exact .inr (by rw[show j=i by omega];exact hk))
    | (have hb0:¬ ((f.getD i 0).toNat:Int)=119:=by assumption
       have hc:¬f.getD i 0=119:=fun q=>hb0 (by rw[q];rfl)
       have hk:numOk (W1.getD i [])=false:=hb
       have hE:(wrdsOk W&&(fm.has (telW W)&&(decide (W.length=1+(fm.val (telW W)).length)&&telN (fm.val (telW W)) (W.drop 1))))=false:=by
        rw[←hfe,←hW1,show telN f W1=false from decide_eq_false (fun q=>by
         rcases q i (by omega)with r|r
         · exact hc r
         · rw[hk]at r;cases r)]
        simp
       rw[hE];refine .weak _ ?_;conv=>whnf
       exact⟨.tup [.agg ((tolF tol0).map .d),.d (.bool false)],_,SV.le_tup ⟨SV.le_agg ⟨lr,SV.le_nilS,SV.le_nilS,trivial⟩,lr,trivial⟩,⟨rfl,rfl⟩,rr,rr,trivial⟩)
    | (have hE:(wrdsOk W&&(fm.has (telW W)&&(decide (W.length=1+(fm.val (telW W)).length)&&telN (fm.val (telW W)) (W.drop 1))))=true:=by
        have h1:wrdsOk W=true:=by assumption
        have h2:fm.has (telW W)=true:=by assumption
        rw[h1,h2,←hfe,←hW1,show telN f W1=true from decide_eq_true (fun j hj=>p2 j (by omega)),show decide (W.length=1+f.length)=true from decide_eq_true (by omega)];rfl
       rw[hE,if_pos rfl,←hfe,←hW1];have hi:i=W1.length:=by omega
       subst hi;refine .freeze _ 20 9 1 _ _ rfl ?_;refine .freeze _ 21 3 1 _ _ rfl ?_;refine .ent _ _ (Entails.cellFro 4 20 1 rfl rfl rfl) ?_;refine .ent _ _ (Entails.cellFro 4 21 2 rfl rfl rfl) ?_;refine .ret _ ?_;conv=>whnf
       exact⟨_,⟨rfl,rfl⟩,rr,rr,trivial⟩)
def formsM:Mp (List UInt8):=((((((((((((((Mp.nil []).put [101,110,116,101,114] [119,119]).put [115,104,111,112] [119,119]).put [100,111,110,101] [119,119]).put [99,111,109,101] [119,119]).put [103,111,110,101] [119,119]).put [108,101,97,118,101] [119,119,119]).put [98,111,111,107] [119,119,110,110,110]).put [99,97,110,99,101,108] [119]).put [115,116,97,114,116] [119,119,110,119,119,110,110]).put [115,119,97,112] [119,119,110,110,119,110,110]).put [101,120,116,101,110,100] [119,110]).put [99,108,111,115,101] [119,119,110,110]).put [112,97,121] [119,110])
def kindsM:Mp Int:=(((((((Mp.nil 0).put [101,110,116,101,114] 1).put [115,104,111,112] 4).put [100,111,110,101] 5).put [99,111,109,101] 7).put [103,111,110,101] 8).put [108,101,97,118,101] 6)
theorem cond_sF (s k v b:List UInt8):(bif decide (s=k)then [DV.str v]else [DV.str b])= [DV.str (if s=k then v else b)]:=by by_cases h:s=k<;>simp[h]
theorem cond_iF (s k:List UInt8)(v b:Int):(bif decide (s=k)then [DV.int .i64 v]else [DV.int .i64 b])= [DV.int .i64 (if s=k then v else b)]:=by by_cases h:s=k<;>simp[h]
theorem cstD_s (v:ByteArray):cstD (.string v)= .str v.data.toList:=rfl
theorem cstD_i (v:Int):cstD (.int .i64 v)= .int .i64 v:=rfl
theorem wForms:FSpec Tryz.prog 124 [] [] (fun y r=>y= .mp 1∧r= [(1,mpS false [.str []] sF1 formsM)]):=by
 refine spAx hT Tryz.func124 Tryz.call124 ?_;conv=>whnf
 repeat' ((first|refine br_intro ?_ ?_<;>intro hb<;>try simp only[brs]at hb|omega|refine sAx ?_|decide|assumption)<;>conv=>whnf)
 refine .ret _ ?_;conv=>whnf
 refine⟨_,⟨rfl,rfl⟩,Res.le_map (fun K hK=> ?_),trivial⟩;obtain⟨s,rfl⟩:=wk_str1 hK;simp only[cstD_s,keyEq_s,cond_sF];exact⟨rfl,rfl⟩
theorem wKinds:FSpec Tryz.prog 125 [] [] (fun y r=>y= .mp 1∧r= [(1,mpS false [.int .i64 0] iF1 kindsM)]):=by
 refine spAx hT Tryz.func125 Tryz.call125 ?_;conv=>whnf
 repeat' ((first|refine br_intro ?_ ?_<;>intro hb<;>try simp only[brs]at hb|omega|refine sAx ?_|decide|assumption)<;>conv=>whnf)
 refine .ret _ ?_;conv=>whnf
 refine⟨_,⟨rfl,rfl⟩,Res.le_map (fun K hK=> ?_),trivial⟩;obtain⟨s,rfl⟩:=wk_str1 hK;simp only[cstD_s,cstD_i,keyEq_s,cond_iF];exact⟨rfl,rfl⟩
end Go.Proofs.YtghhghijalcdfaaGreatDoor
