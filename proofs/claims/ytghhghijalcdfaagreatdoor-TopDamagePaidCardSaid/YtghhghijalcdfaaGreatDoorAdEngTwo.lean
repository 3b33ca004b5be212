/- TopDamagePaid is proved: for every input the law returns true, and its argument reads afterwards as it read before. Conditions: those of the given row alone. -/
import Derived.Test.YtghhghijalcdfaaGreatDoorAdEngOne
import Derived.Test.YtghhghijalcdfaaGreatDoorAdEngMap
import Derived.Deep.LoopGhost
import Derived.Below
set_option linter.unusedVariables false
set_option linter.unusedSimpArgs false
namespace Go.Eng
open Go
def lookN:List (Nat×Nat)→Nat→Option Nat
 | [],_=>none
 |(e,c)::l,d=>bif Nat.beq d e then some c else lookN l d
def lookL:List (Nat×Res)→Nat→Option Res
 | [],_=>none
 |(e,r)::l,d=>bif Nat.beq d e then some r else lookL l d
def okR:List (Nat×Nat)→Bool
 | []=>true
 |(d,c)::l=> !(l.any fun p=>Nat.beq p.1 d||Nat.beq p.2 c)&&okR l
theorem lookN_mem {ρ:List (Nat×Nat)}{d c:Nat}(h:lookN ρ d=some c):(d,c) ∈ ρ:=by
 induction ρ with
 |nil=>cases h
 | cons p l ih=>
   obtain⟨e,c'⟩:=p;simp only[lookN]at h
   by_cases he:d=e
   · subst he;simp at h;subst h;exact List.mem_cons_self
   · rw[nbeq_ne he]at h;exact List.mem_cons_of_mem _ (ih h)
theorem okR_mem {ρ:List (Nat×Nat)}(ok:okR ρ=true){d c:Nat}(h:(d,c) ∈ ρ):lookN ρ d=some c:=by
 induction ρ with
 |nil=>cases h
 | cons p l ih=>
   obtain⟨e,c'⟩:=p;simp only[okR,Bool.and_eq_true,Bool.not_eq_true']at ok;simp only[lookN];rcases List.mem_cons.1 h with q|q
   · cases q;simp
   · by_cases he:d=e
     · subst he;have:=List.any_eq_false.1 ok.1 _ q;simp at this
     · rw[nbeq_ne he];exact ih ok.2 q
theorem okR_inj {ρ:List (Nat×Nat)}(ok:okR ρ=true){d d' c:Nat}(h:(d,c) ∈ ρ)(h':(d',c) ∈ ρ):d=d':=by
 induction ρ with
 |nil=>cases h
 | cons p l ih=>
   obtain⟨e,c'⟩:=p;simp only[okR,Bool.and_eq_true,Bool.not_eq_true']at ok;rcases List.mem_cons.1 h with q|q
   · cases q;rcases List.mem_cons.1 h' with q'|q'
     · cases q';rfl
     · have:=List.any_eq_false.1 ok.1 _ q';simp at this
   · rcases List.mem_cons.1 h' with q'|q'
     · cases q';have:=List.any_eq_false.1 ok.1 _ q;simp at this
     · exact ih ok.2 q q'
mutual
def SV.ren (ρ:List (Nat×Nat)):SV→SV
 | .any=>.any
 | .bad=>.bad
 | .undef=>.undef
 | .d x=>.d x
 | .agg l=>.agg (SV.renL ρ l)
 | .tup l=>.tup (SV.renL ρ l)
 | .ptr q off=>match lookN ρ q with|some c=>.ptr c off|none=>.bad
 | .buf q=>match lookN ρ q with|some c=>.buf c|none=>.bad
 | .bel q k i off=>match lookN ρ q with|some c=>.bel c k i off|none=>.bad
 | .mp q=>match lookN ρ q with|some c=>.mp c|none=>.bad
 | .fn f caps=>.fn f (SV.renL ρ caps)
 | .sub q k lo n=>match lookN ρ q with|some c=>.sub c k lo n|none=>.bad
def SV.renL (ρ:List (Nat×Nat)):List SV→List SV
 | []=> []
 |x::l=>SV.ren ρ x::SV.renL ρ l
end
mutual
def SV.okN (ρ:List (Nat×Nat)):SV→Bool
 | .agg l=>SV.okNL ρ l
 | .tup l=>SV.okNL ρ l
 | .ptr q _=>(lookN ρ q).isSome
 | .buf q=>(lookN ρ q).isSome
 | .bel q _ _ _=>(lookN ρ q).isSome
 | .mp q=>(lookN ρ q).isSome
 | .fn _ caps=>SV.okNL ρ caps
 | .sub q _ _ _=>(lookN ρ q).isSome
 |_=>true
def SV.okNL (ρ:List (Nat×Nat)):List SV→Bool
 | []=>true
 |x::l=>SV.okN ρ x&&SV.okNL ρ l
end
theorem renL_get (ρ:List (Nat×Nat)):∀ (l:List SV) (i:Nat),(SV.renL ρ l)[i]? =(l[i]?).map (SV.ren ρ):=by
 intro l
 induction l with
 |nil=>intro i;simp[SV.renL]
 |cons x l ih=>intro i;cases i<;>simp[SV.renL,ih]
theorem renL_length (ρ:List (Nat×Nat)):∀l:List SV,(SV.renL ρ l).length=l.length:=by
 intro l
 induction l with
 |nil=>rfl
 |cons x l ih=>simp[SV.renL,ih]
theorem okNL_get {ρ:List (Nat×Nat)}:∀ {l:List SV} {i:Nat} {x:SV},SV.okNL ρ l=true→l[i]? =some x→SV.okN ρ x=true:=by
 intro l
 induction l with
 |nil=>intro i x _ h;simp at h
 | cons y l ih=>
   intro i x h hx;simp only[SV.okNL,Bool.and_eq_true]at h
   cases i with
   |zero=>simp at hx;subst hx;exact h.1
   |succ i=>exact ih h.2 (by simpa using hx)
theorem SV.Den.unren {ρ:List (Nat×Nat)}{G:Hp}{βc:Env}{y:SV}{v:Value}(h:SV.Den G βc y v):∀x:SV,y=x.ren ρ→SV.Den G (fun d=>(lookN ρ d).bind βc) x v:=by
 induction h with
 |any v=>intro x hx;cases x<;>simp[SV.ren]at hx<;>first|exact .any v|(split at hx<;>cases hx)
 |undef=>intro x hx;cases x<;>simp[SV.ren]at hx<;>first|exact .undef|(split at hx<;>cases hx)
 |d z v hz=>intro x hx;cases x<;>simp[SV.ren]at hx<;>first|(subst hx;exact .d _ _ hz)|(split at hx<;>cases hx)
 | agg l vs hl _ ih=>
   intro x hx;cases x<;>simp[SV.ren]at hx<;>first|(split at hx<;>cases hx)|skip
   subst hx;rename_i l';refine .agg _ _ (by rw[hl,renL_length]) (fun i z v hz hv=> ?_)
   exact ih i _ v (by rw[renL_get,hz];rfl) hv z rfl
 | tup l vs hl _ ih=>
   intro x hx;cases x<;>simp[SV.ren]at hx<;>first|(split at hx<;>cases hx)|skip
   subst hx;refine .tup _ _ (by rw[hl,renL_length]) (fun i z v hz hv=> ?_)
   exact ih i _ v (by rw[renL_get,hz];rfl) hv z rfl
 | ptr d off b hb=>
   intro x hx;cases x<;>simp[SV.ren]at hx
   all_goals (split at hx<;>simp at hx)
   rename_i hd;obtain⟨rfl,rfl⟩:=hx
   exact .ptr _ _ _ (by simp[hd,hb])
 | buf d v hb h1=>
   intro x hx;cases x<;>simp[SV.ren]at hx
   all_goals (split at hx<;>simp at hx)
   rename_i hd;subst hx
   exact .buf _ _ (by simp[hd,hb]) h1
 | bel d k i off b n cap hb=>
   intro x hx;cases x<;>simp[SV.ren]at hx
   all_goals (split at hx<;>simp at hx)
   rename_i hd;obtain⟨rfl,rfl,rfl,rfl⟩:=hx
   exact .bel _ _ _ _ b n cap (by simp[hd,hb])
 | mp d v hb h1=>
   intro x hx;cases x<;>simp[SV.ren]at hx
   all_goals (split at hx<;>simp at hx)
   rename_i hd;subst hx
   exact .mp _ _ (by simp[hd,hb]) h1
 | fn f caps vs hl _ ih=>
   intro x hx;cases x<;>simp[SV.ren]at hx<;>first|(split at hx<;>cases hx)|skip
   obtain⟨rfl,rfl⟩:=hx;refine .fn _ _ _ (by rw[hl,renL_length]) (fun i z v hz hv=> ?_)
   exact ih i _ v (by rw[renL_get,hz];rfl) hv z rfl
 | sub d k lo n b N cap hb hn=>
   intro x hx;cases x<;>simp[SV.ren]at hx
   all_goals (split at hx<;>simp at hx)
   rename_i hd;obtain⟨rfl,rfl,rfl,rfl⟩:=hx;exact .sub _ _ _ _ b N cap (by simp[hd,hb]) hn
theorem SV.Den.reren {ρ:List (Nat×Nat)}{G:Hp}{β βc:Env}(hβ:∀d c,lookN ρ d=some c→βc c=β d){x:SV}{v:Value}(h:SV.Den G β x v):x.okN ρ=true→SV.Den G βc (x.ren ρ) v:=by
 induction h with
 |any v=>intro _;exact .any v
 |undef=>intro _;exact .undef
 |d z v hz=>intro _;exact .d _ _ hz
 | agg l vs hl _ ih=>
   intro ok;refine .agg _ _ (by rw[hl,renL_length]) (fun i z v hz hv=> ?_);rw[renL_get]at hz
   cases hx:l[i]? with
   |none=>rw[hx]at hz;cases hz
   |some x=>rw[hx]at hz;cases hz;exact ih i x v hx hv (okNL_get ok hx)
 | tup l vs hl _ ih=>
   intro ok;refine .tup _ _ (by rw[hl,renL_length]) (fun i z v hz hv=> ?_);rw[renL_get]at hz
   cases hx:l[i]? with
   |none=>rw[hx]at hz;cases hz
   |some x=>rw[hx]at hz;cases hz;exact ih i x v hx hv (okNL_get ok hx)
 | ptr d off b hb=>
   intro ok;simp only[SV.okN]at ok;obtain⟨c,hc⟩:=Option.isSome_iff_exists.1 ok;simp only[SV.ren,hc]
   exact .ptr _ _ _ ((hβ _ _ hc).trans hb)
 | buf d v hb h1=>
   intro ok;simp only[SV.okN]at ok;obtain⟨c,hc⟩:=Option.isSome_iff_exists.1 ok;simp only[SV.ren,hc]
   exact .buf _ _ ((hβ _ _ hc).trans hb) h1
 | bel d k i off b n cap hb=>
   intro ok;simp only[SV.okN]at ok;obtain⟨c,hc⟩:=Option.isSome_iff_exists.1 ok;simp only[SV.ren,hc]
   exact .bel _ _ _ _ _ _ _ ((hβ _ _ hc).trans hb)
 | mp d v hb h1=>
   intro ok;simp only[SV.okN]at ok;obtain⟨c,hc⟩:=Option.isSome_iff_exists.1 ok;simp only[SV.ren,hc]
   exact .mp _ _ ((hβ _ _ hc).trans hb) h1
 | fn f caps vs hl _ ih=>
   intro ok;refine .fn _ _ _ (by rw[hl,renL_length]) (fun i z v hz hv=> ?_);rw[renL_get]at hz
   cases hx:caps[i]? with
   |none=>rw[hx]at hz;cases hz
   |some x=>rw[hx]at hz;cases hz;exact ih i x v hx hv (okNL_get ok hx)
 | sub d k lo n b N cap hb hn=>
   intro ok;simp only[SV.okN]at ok;obtain⟨c,hc⟩:=Option.isSome_iff_exists.1 ok;simp only[SV.ren,hc];exact .sub _ _ _ _ _ _ _ ((hβ _ _ hc).trans hb) hn
def Res.ren (ρ:List (Nat×Nat)):Res→Res
 | .cells e l=>.cells e (SV.renL ρ l)
 | .buf e k n g=>.buf e k n g
 | .fro k n g=>.fro k n g
 | .byb n g=>.byb n g
 | .map ag va ks zr has val=>.map ag va ks zr has val
 | .mapB ag va ks zr has val clock kb=>.mapB ag va ks zr has val clock kb
 | .iter m since seen=>match lookN ρ m with|some c=>.iter c since seen|none=>.no
 | .mapR kk e k has len get hole=>.mapR kk e k has len get hole
 | .bunch e k l=>.bunch e k l
 | .inX X=>.inX X
 | .know Q=>.know Q
 | .no=>.no
def Res.okN (ρ:List (Nat×Nat)):Res→Bool
 | .cells _ l=>SV.okNL ρ l
 | .iter m _ _=>(lookN ρ m).isSome
 |_=>true
theorem Res.ren_own (ρ:List (Nat×Nat))(r:Res):(r.ren ρ).own=r.own:=by
 cases r<;>first
  |rfl
  |(simp only[Res.ren];split<;>rfl)
theorem Res.ren_isR (ρ:List (Nat×Nat))(r:Res):(r.ren ρ).isR=r.isR:=by
 cases r<;>first
  |rfl
  |(simp only[Res.ren];split<;>rfl)
theorem ResOk.unren {ρ:List (Nat×Nat)}{G:Hp}{βc:Env}{w:World}{d c:Nat}(hd:lookN ρ d=some c){r:Res}(h:ResOk G βc w c (r.ren ρ)):
 ResOk G (fun d=>(lookN ρ d).bind βc) w d r:=by
 cases r with
 | cells e l=>
   obtain⟨b,vs,h1,h2,h3,h4⟩:=h;refine⟨b,vs,by simp[hd,h1],h2,by rw[h3,renL_length],fun i x v hx hv=> ?_⟩
   exact(h4 i _ v (by rw[renL_get,hx];rfl) hv).unren x rfl
 | buf e k n g=>
   obtain⟨v,xs,h1,h2⟩:=h
   exact⟨v,xs,by simp[hd,h1],h2⟩
 | fro k n g=>
   obtain⟨v,h1,h2⟩:=h
   exact⟨v,by simp[hd,h1],h2⟩
 | byb n g=>
   obtain⟨b,cap,cs,e,h1,h2⟩:=h
   exact⟨b,cap,cs,e,by simp[hd,h1],h2⟩
 | map ag va ks zr has val=>
   obtain⟨r,es,clock,l,h1,h2⟩:=h
   exact⟨r,es,clock,l,by simp[hd,h1],h2⟩
 | mapB ag va ks zr has val clock kb=>
   obtain⟨r,es,l,h1,h2⟩:=h
   exact⟨r,es,l,by simp[hd,h1],h2⟩
 | iter m since seen=>
   simp only[Res.ren]at h;split at h
   · rename_i c' hc;obtain⟨q,r,h1,h2,h3⟩:=h;exact⟨q,r,by simp[hd,h1],by simp[hc,h2],h3⟩
   · exact h.elim
 | mapR kk e k has len get hole=>
   obtain⟨r,es,clock,l,h1,h2⟩:=h
   exact⟨r,es,clock,l,by simp[hd,h1],h2⟩
 | bunch e k l=>
   obtain⟨⟨v,h1,h1b⟩,h2⟩:=h
   exact⟨⟨v,by simp[hd,h1],h1b⟩,h2⟩
 | inX X=>
   obtain⟨⟨v,h1⟩,h2⟩:=h
   exact⟨⟨v,by simp[hd,h1]⟩,h2⟩
 | know Q=>
   obtain⟨⟨v,h1⟩,h2⟩:=h
   exact⟨⟨v,by simp[hd,h1]⟩,h2⟩
 |no=>exact h.elim
theorem ResOk.reren {ρ:List (Nat×Nat)}{G:Hp}{β βc:Env}{w:World}(hβ:∀d c,lookN ρ d=some c→βc c=β d){d c:Nat}(hd:lookN ρ d=some c){r:Res}(ok:r.okN ρ=true)
 (h:ResOk G β w d r):ResOk G βc w c (r.ren ρ):=by
 cases r with
 | cells e l=>
   obtain⟨b,vs,h1,h2,h3,h4⟩:=h;refine⟨b,vs,(hβ _ _ hd).trans h1,h2,by rw[h3,renL_length],fun i x v hx hv=> ?_⟩;rw[renL_get]at hx
   cases hy:l[i]? with
   |none=>rw[hy]at hx;cases hx
   |some y=>rw[hy]at hx;cases hx;exact(h4 i y v hy hv).reren hβ (okNL_get ok hy)
 | buf e k n g=>
   obtain⟨v,xs,h1,h2⟩:=h
   exact⟨v,xs,(hβ _ _ hd).trans h1,h2⟩
 | fro k n g=>
   obtain⟨v,h1,h2⟩:=h
   exact⟨v,(hβ _ _ hd).trans h1,h2⟩
 | byb n g=>
   obtain⟨b,cap,cs,e,h1,h2⟩:=h
   exact⟨b,cap,cs,e,(hβ _ _ hd).trans h1,h2⟩
 | map ag va ks zr has val=>
   obtain⟨r,es,clock,l,h1,h2⟩:=h
   exact⟨r,es,clock,l,(hβ _ _ hd).trans h1,h2⟩
 | mapB ag va ks zr has val clock kb=>
   obtain⟨r,es,l,h1,h2⟩:=h
   exact⟨r,es,l,(hβ _ _ hd).trans h1,h2⟩
 | iter m since seen=>
   obtain⟨q,r,h1,h2,h3⟩:=h;simp only[Res.okN]at ok;obtain⟨c',hc⟩:=Option.isSome_iff_exists.1 ok;simp only[Res.ren,hc]
   exact⟨q,r,(hβ _ _ hd).trans h1,(hβ _ _ hc).trans h2,h3⟩
 | mapR kk e k has len get hole=>
   obtain⟨r,es,clock,l,h1,h2⟩:=h
   exact⟨r,es,clock,l,(hβ _ _ hd).trans h1,h2⟩
 | bunch e k l=>
   obtain⟨⟨v,h1,h1b⟩,h2⟩:=h
   exact⟨⟨v,(hβ _ _ hd).trans h1,h1b⟩,h2⟩
 | inX X=>
   obtain⟨⟨v,h1⟩,h2⟩:=h
   exact⟨⟨v,(hβ _ _ hd).trans h1⟩,h2⟩
 | know Q=>
   obtain⟨⟨v,h1⟩,h2⟩:=h
   exact⟨⟨v,(hβ _ _ hd).trans h1⟩,h2⟩
 |no=>exact h.elim
structure Pre (G:Hp)(β:Env)(w:World)(R:Nat→Option Res):Prop where
 gw:∀b o,G b=some o→w.heap[b]? =some o
 rs:∀d r,R d=some r→ResOk G β w d r
 dj:∀d d' r r' v v' b,R d=some r→R d' =some r'→r.own=true→r'.own=true→β d=some v→β d' =some v'→Blks w r v b→Blks w r' v' b→d=d'
 og:∀d r v b,R d=some r→r.own=true→β d=some v→Blks w r v b→G b=none
 sc:∀d v,β d=some v→∃r,R d=some r
def Tin (w:World)(β:Env)(R:Nat→Option Res):Nat→Prop:=fun b=>∃d r v,R d=some r∧r.own=true∧β d=some v∧Blks w r v b
structure Out (G:Hp)(β:Env)(w:World)(R:Nat→Option Res)(G':Hp)(β':Env)(w':World)(R':Nat→Option Res):Prop where
 gle:G.le G'
 ele:β.le β'
 gw:∀b o,G' b=some o→w'.heap[b]? =some o
 gn:∀b o,G' b=some o→G b=some o∨Tin w β R b∨w.heap.size≤b
 keep:Keep w w' (Tin w β R)
 rs:∀d r,R' d=some r→ResOk G' β' w' d r
 dj:∀d d' r r' v v' b,R' d=some r→R' d' =some r'→r.own=true→r'.own=true→β' d=some v→β' d' =some v'→Blks w' r v b→Blks w' r' v' b→d=d'
 og:∀d r v b,R' d=some r→r.own=true→β' d=some v→Blks w' r v b→G' b=none∧(Tin w β R b∨w.heap.size≤b)
structure FSpec (P:Program)(f:FuncId)(args:List SV)(rin:List (Nat×Res))(post:SV→List (Nat×Res)→Prop):Prop where
 enter:∀args w,(callFunc f args).run P w= .ok (.enter f args) w
 calls:∀ (G:Hp) (β:Env) (w:World) (vs:List Value),Pre G β w (lookL rin)→vs.length=args.length→
  (∀ (i:Nat) x v,args[i]? =some x→vs[i]? =some v→SV.Den G β x v)→
  Calls P f vs.toArray w fun e w' =>∃v x rout G' β',e= .returned v∧post x rout∧Out G β w (lookL rin) G' β' w' (lookL rout)∧SV.Den G' β' x v
def SV.le (x y:SV):Prop:=∀G β v,SV.Den G β x v→SV.Den G β y v
theorem SV.le_refl (x:SV):x.le x:=fun _ _ _ h=>h
def Res.le (r r':Res):Prop:=(r.own,r.isR)=(r'.own,r'.isR)∧∀G β w d,ResOk G β w d r→ResOk G β w d r'
theorem Res.le.own' {r r':Res}(h:Res.le r r'):r.own=r'.own:=congrArg Prod.fst h.1
theorem Res.le.isR' {r r':Res}(h:Res.le r r'):r.isR=r'.isR:=congrArg Prod.snd h.1
theorem Res.le_refl (r:Res):r.le r:=⟨rfl,fun _ _ _ _ h=>h⟩
def outs (ρ:List (Nat×Nat))(rout:List (Nat×Res)):List (Nat×Option Res):=ρ.map fun p=>(p.2,(lookL rout p.1).map (Res.ren ρ))
theorem lookR_outs_mem {ρ0:List (Nat×Nat)}{rout:List (Nat×Res)}:∀ {ρ:List (Nat×Nat)},okR ρ=true→∀ {d c:Nat} {x:Option Res},(d,c) ∈ ρ→
 lookR (ρ.map fun p=>(p.2,(lookL rout p.1).map (Res.ren ρ0))) c x=(lookL rout d).map (Res.ren ρ0):=by
 intro ρ
 induction ρ with
 |nil=>intro _ d c x h;cases h
 | cons p l ih=>
   intro ok d c x h;obtain⟨e,c'⟩:=p;have ok':=ok;simp only[okR,Bool.and_eq_true,Bool.not_eq_true']at ok';simp only[List.map_cons,lookR]
   by_cases hc:c=c'
   · subst hc;have:d=e:=okR_inj ok h List.mem_cons_self;subst this;simp
   · rw[nbeq_ne hc];rcases List.mem_cons.1 h with q|q
     · cases q;exact absurd rfl hc
     · exact ih ok'.2 q
theorem lookR_outs_not {ρ0:List (Nat×Nat)}{rout:List (Nat×Res)}:∀ {ρ:List (Nat×Nat)} {c:Nat} {x:Option Res},(∀d,(d,c) ∉ ρ)→
 lookR (ρ.map fun p=>(p.2,(lookL rout p.1).map (Res.ren ρ0))) c x=x:=by
 intro ρ
 induction ρ with
 |nil=>intro c x _;rfl
 | cons p l ih=>
   intro c x h;obtain⟨e,c'⟩:=p;simp only[List.map_cons,lookR];have hc:c≠c':=fun q=>h e (by rw[q];exact List.mem_cons_self)
   rw[nbeq_ne hc];exact ih (fun d hd=>h d (List.mem_cons_of_mem _ hd))
theorem DV.Den.look {G:Hp}{kk N:Nat}{g:Nat→List DV}{b cap N' lo n:Nat}(h:DV.Den G (.ro kk N g) (.slice (some ⟨b,0,none⟩) N' cap))(hn:lo+n≤N'∧N'≤cap):
 DV.Den G (.ro kk n fun j=>g (lo+j)) (.slice (some ⟨b,lo*kk,none⟩) n (cap - lo)):=by
 cases h with|ro _ _ _ _ _ vals hs hcap hmax hl hc hdn=>
 refine .ro kk n _ ⟨b,lo*kk,none⟩ (cap - lo) (fun i j=>vals (lo+i) j) rfl (by omega) (by omega) (fun i hi=>hl _ (by omega)) (fun i j x hi hx=> ?_) (fun i j x hi hx=>hdn _ j x (by omega) hx);have:=hc (lo+i) j x (by omega) hx
 have e:(⟨b,lo*kk,none⟩:Addr).add (i*kk+j)=(⟨b,0,none⟩:Addr).add ((lo+i)*kk+j):=by
  simp[Addr.add,Nat.add_mul,Nat.add_assoc];split
  · rename_i h;obtain⟨h1,h2⟩:=h;split
    · simp
    · simp[h1,h2]
  · rename_i h;rw[if_neg (fun q=>h q.2)]
 rw[e];exact this
def frz1 (d kk n:Nat)(g:Nat→List DV):SV→SV
 | .buf c=>bif Nat.beq c d then .d (.ro kk n g)else .buf c
 | .sub c k' lo m=>bif Nat.beq c d&&Nat.beq k' kk then .d (.ro kk m fun j=>g (lo+j))else .sub c k' lo m
 |x=>x
def frz (d kk n:Nat)(g:Nat→List DV):SV→SV
 | .agg l=>.agg (l.map (frz1 d kk n g))
 |x=>frz1 d kk n g x
theorem frz1_den {G:Hp}{β:Env}{d kk n:Nat}{g:Nat→List DV}(hd:∃v,β d=some v∧DV.Den G (.ro kk n g) v){x:SV}{v:Value}(hx:SV.Den G β x v):SV.Den G β (frz1 d kk n g x) v:=by
 unfold frz1;split
 · rename_i c
   cases hb:Nat.beq c d with
   |false=>exact hx
   | true=>
     have:=Nat.eq_of_beq_eq_true hb;subst this;obtain⟨u,hu,h⟩:=hd
     cases hx with|buf _ _ hv _=>
     rw[hu]at hv;cases hv;exact .d _ _ h
 · rename_i c k' lo m
   cases hb:Nat.beq c d&&Nat.beq k' kk with
   |false=>exact hx
   | true=>
     rw[Bool.and_eq_true]at hb;have h1:=Nat.eq_of_beq_eq_true hb.1;have h2:=Nat.eq_of_beq_eq_true hb.2;subst h1 h2;obtain⟨u,hu,h⟩:=hd
     cases hx with|sub _ _ _ _ b N cap hv hn=>
     rw[hu]at hv;cases hv;exact .d _ _ (h.look hn)
 · exact hx
theorem frz_den {G:Hp}{β:Env}{d kk n:Nat}{g:Nat→List DV}(hd:∃v,β d=some v∧DV.Den G (.ro kk n g) v){x:SV}{v:Value}(hx:SV.Den G β x v):SV.Den G β (frz d kk n g x) v:=by
 unfold frz;split
 · rename_i l
   cases hx with|agg _ vs hl h=>
   refine .agg _ vs (by simpa using hl) (fun i x v hx hv=> ?_);rw[List.getElem?_map]at hx
   cases hy:l[i]? with
   |none=>rw[hy]at hx;cases hx
   |some y=>rw[hy]at hx;cases hx;exact frz1_den hd (h i y v hy hv)
 · exact frz1_den hd hx
theorem frz_buf {d kk n:Nat}{g:Nat→List DV}{x:SV}{c:Nat}(h:frz d kk n g x= .buf c):x= .buf c:=by
 cases x with
 |agg l=>simp[frz]at h
 | buf c' =>
   simp only[frz,frz1]at h
   cases hb:Nat.beq c' d with
   |false=>rw[hb]at h;exact h
   |true=>rw[hb]at h;cases h
 | sub c' k' lo m=>
   simp only[frz,frz1]at h
   cases hb:Nat.beq c' d&&Nat.beq k' kk with
   |false=>rw[hb]at h;exact h
   |true=>rw[hb]at h;cases h
 |_=>simp[frz,frz1]at h
def frzF1 (d:Nat)(e:TypeId)(kk n:Nat)(X:Nat→Prop)(g:Nat→List DV):SV→SV
 | .buf c=>bif Nat.beq c d then .d (.frs e kk n X g)else .buf c
 |x=>x
def frzF (d:Nat)(e:TypeId)(kk n:Nat)(X:Nat→Prop)(g:Nat→List DV):SV→SV
 | .agg l=>.agg (l.map (frzF1 d e kk n X g))
 |x=>frzF1 d e kk n X g x
theorem frzF1_den {G:Hp}{β:Env}{d:Nat}{e:TypeId}{kk n:Nat}{X:Nat→Prop}{g:Nat→List DV}(hd:∃v,β d=some v∧DV.Den G (.frs e kk n X g) v){x:SV}{v:Value}(hx:SV.Den G β x v):SV.Den G β (frzF1 d e kk n X g x) v:=by
 unfold frzF1;split
 · rename_i c
   cases hb:Nat.beq c d with
   |false=>exact hx
   | true=>
     have:=Nat.eq_of_beq_eq_true hb;subst this;obtain⟨u,hu,h⟩:=hd
     cases hx with|buf _ _ hv _=>
     rw[hu]at hv;cases hv;exact .d _ _ h
 · exact hx
theorem frzF_den {G:Hp}{β:Env}{d:Nat}{e:TypeId}{kk n:Nat}{X:Nat→Prop}{g:Nat→List DV}(hd:∃v,β d=some v∧DV.Den G (.frs e kk n X g) v){x:SV}{v:Value}(hx:SV.Den G β x v):SV.Den G β (frzF d e kk n X g x) v:=by
 unfold frzF;split
 · rename_i l
   cases hx with|agg _ vs hl h=>
   refine .agg _ vs (by simpa using hl) (fun i x v hx hv=> ?_);rw[List.getElem?_map]at hx
   cases hy:l[i]? with
   |none=>rw[hy]at hx;cases hx
   |some y=>rw[hy]at hx;cases hx;exact frzF1_den hd (h i y v hy hv)
 · exact frzF1_den hd hx
theorem frzF_buf {d:Nat}{e:TypeId}{kk n:Nat}{X:Nat→Prop}{g:Nat→List DV}{x:SV}{c:Nat}(h:frzF d e kk n X g x= .buf c):x= .buf c:=by
 cases x with
 |agg l=>simp[frzF]at h
 | buf c' =>
   simp only[frzF,frzF1]at h
   cases hb:Nat.beq c' d with
   |false=>rw[hb]at h;exact h
   |true=>rw[hb]at h;cases h
 |_=>simp[frzF,frzF1]at h
inductive CallX (P:Program) (f:FuncId) (dst:Option Nat):List SV→St→List Nat→(Upd→Prop)→Prop
 |call (args:List SV) (s:St) (av:List Nat) (k:Upd→Prop) (ρ:List (Nat×Nat)) (sargs:List SV) (rin:List (Nat×Res)) (post:SV→List (Nat×Res)→Prop)
  (hs:FSpec P f sargs rin post) (hok:okR ρ=true) (hlen:args.length=sargs.length)
  (ha:∀ (i:Nat) x y,args[i]? =some x→sargs[i]? =some y→SV.le x (y.ren ρ))
  (hr:∀d r,lookL rin d=some r→∃c r0,lookN ρ d=some c∧s.res c=some r0∧Res.le r0 (r.ren ρ))
  (hro:∀d c,lookN ρ d=some c→lookL rin d=none→s.used c=false)
  (hav:∀d c,lookN ρ d=some c→mem av c=false)
  (hk:∀x rout,post x rout→x.okN ρ=true∧(∀d r,lookL rout d=some r→(lookN ρ d).isSome=true∧r.okN ρ=true)∧k ⟨dst,x.ren ρ,outs ρ rout,ρ.map (·.2)⟩):
  CallX P f dst args s av k
 |freeze (args:List SV) (s:St) (av:List Nat) (k:Upd→Prop) (d e kk n:Nat) (g:Nat→List DV) (hd:s.res d=some (.buf e kk n g)) (hav:mem av d=false)
  (h:CallX P f dst (args.map (frz d kk n g)) (s.app ⟨none,.any,[(d,some (.fro kk n g))],[]⟩) av (fun u=>k ⟨u.dst,u.v,u.rs++ [(d,some (.fro kk n g))],u.us⟩)):
  CallX P f dst args s av k
 |freezeF (args:List SV) (s:St) (av:List Nat) (k:Upd→Prop) (q d:Nat) (e:TypeId) (kk n:Nat) (X:Nat→Prop) (g:Nat→List DV) (hq:s.res q=some (.inX X)) (hd:s.res d=some (.buf e kk n g)) (hav:mem av d=false) (hav2:mem av q=false)
  (h:CallX P f dst (args.map (frzF d e kk n X g)) (s.app ⟨none,.any,[(d,some (.fro kk n g))],[]⟩) av (fun u=>k ⟨u.dst,u.v,u.rs++ [(d,some (.fro kk n g))],u.us⟩)):
  CallX P f dst args s av k
 |peek (args:List SV) (s:St) (av:List Nat) (k:Upd→Prop) (ρ:List (Nat×Nat)) (sargs:List SV) (rin:List (Nat×Res)) (y:SV)
  (hs:FSpec P f sargs rin fun x r=>x=y∧r=rin) (hok:okR ρ=true) (hlen:args.length=sargs.length)
  (ha:∀ (i:Nat) x z,args[i]? =some x→sargs[i]? =some z→SV.le x (z.ren ρ))
  (hr:∀d r,lookL rin d=some r→∃c,lookN ρ d=some c∧s.res c=some (r.ren ρ))
  (hra:∀d c,lookN ρ d=some c→∃r,lookL rin d=some r)
  (hav:∀d c,lookN ρ d=some c→mem av (c+1099511627776)=false)
  (hy:y.okN ρ=true) (hrk:∀d r,lookL rin d=some r→r.okN ρ=true) (hk:k ⟨dst,y.ren ρ,[],[]⟩):
  CallX P f dst args s av k
theorem lookR_append (l l':List (Nat×Option Res))(d:Nat)(x:Option Res):lookR (l++l') d x=lookR l d (lookR l' d x):=by
 induction l with
 |nil=>rfl
 | cons p l ih=>
   obtain⟨e,r⟩:=p;simp only[List.cons_append,lookR,ih]
theorem ResOk.named {G:Hp}{β:Env}{w:World}{d:Nat}:∀ {r:Res},ResOk G β w d r→∃v,β d=some v
 | .cells ..,⟨_,_,h,_⟩=>⟨_,h⟩
 | .buf ..,⟨_,_,h,_⟩=>⟨_,h⟩
 | .fro ..,⟨_,h,_⟩=>⟨_,h⟩
 | .byb ..,⟨_,_,_,_,h,_⟩=>⟨_,h⟩
 | .map ..,⟨_,_,_,_,h,_⟩=>⟨_,h⟩
 | .mapB ..,⟨_,_,_,h,_⟩=>⟨_,h⟩
 | .iter ..,⟨_,_,h,_⟩=>⟨_,h⟩
 | .mapR ..,⟨_,_,_,_,h,_⟩=>⟨_,h⟩
 | .bunch ..,⟨⟨_,h,_⟩,_⟩=>⟨_,h⟩
 | .inX _,⟨⟨_,h⟩,_⟩=>⟨_,h⟩
 | .know _,⟨⟨_,h⟩,_⟩=>⟨_,h⟩
 | .no,h=>h.elim
theorem CallX.sound_call {P:Program}{f:FuncId}{dst:Option Nat}{args:List SV}{s:St}{k:Upd→Prop}{ρ:List (Nat×Nat)}{sargs:List SV}{rin:List (Nat×Res)}{post:SV→List (Nat×Res)→Prop}
 (hs:FSpec P f sargs rin post)(hok:okR ρ=true)(hlen:args.length=sargs.length)
 (ha:∀ (i:Nat) x y,args[i]? =some x→sargs[i]? =some y→SV.le x (y.ren ρ))
 (hr:∀d r,lookL rin d=some r→∃c r0,lookN ρ d=some c∧s.res c=some r0∧Res.le r0 (r.ren ρ))
 (hro:∀d c,lookN ρ d=some c→lookL rin d=none→s.used c=false)
 (hk:∀x rout,post x rout→x.okN ρ=true∧(∀d r,lookL rout d=some r→(lookN ρ d).isSome=true∧r.okN ρ=true)∧k ⟨dst,x.ren ρ,outs ρ rout,ρ.map (·.2)⟩)
 {A:Amb}{G:Hp}{β:Env}{t:Array Value}{w:World}{vs:List Value}(h:MG A G β s t w)(hvl:vs.length=args.length)(hvd:∀ (i:Nat) x v,args[i]? =some x→vs[i]? =some v→SV.Den G β x v):
 (∀args w,(callFunc f args).run P w= .ok (.enter f args) w)∧
 Calls P f vs.toArray w fun e w' =>∃v u G' β',e= .returned v∧k u∧u.dst=dst∧MG A G' β' (s.app ⟨none,.any,u.rs,u.us⟩) t w'∧SV.Den G' β' u.v v:=by
 refine⟨hs.enter,?_⟩
 have hpre:Pre G (fun d=>(lookN ρ d).bind β) w (lookL rin):=by
  refine⟨h.gw,fun d r hd=> ?_,fun d d' r r' v v' b e1 e2 o1 o2 f1 f2 b1 b2=> ?_,fun d r v b e1 o1 f1 b1=> ?_,fun d v hv=> ?_⟩
  · obtain⟨c,r0,hc,hs0,hle⟩:=hr d r hd;exact(hle.2 _ _ _ _ (h.rs c r0 hs0)).unren hc
  · obtain⟨c,r0,hc,hs0,hle⟩:=hr d r e1;obtain⟨c',r0',hc',hs0',hle'⟩:=hr d' r' e2;simp only[hc,Option.bind_some]at f1;simp only[hc',Option.bind_some]at f2;have:=h.dj c c' r0 r0' v v' b hs0 hs0' (by rw[hle.own',Res.ren_own];exact o1) (by rw[hle'.own',Res.ren_own];exact o2) f1 f2 (b1.to (by rw[hle.isR',Res.ren_isR])) (b2.to (by rw[hle'.isR',Res.ren_isR]));subst this;exact okR_inj hok (lookN_mem hc) (lookN_mem hc')
  · obtain⟨c,r0,hc,hs0,hle⟩:=hr d r e1;simp only[hc,Option.bind_some]at f1;exact(h.og c r0 v b hs0 (by rw[hle.own',Res.ren_own];exact o1) f1 (b1.to (by rw[hle.isR',Res.ren_isR]))).1
  · cases hc:lookN ρ d with
    |none=>simp[hc]at hv
    | some c=>
      simp only[hc,Option.bind_some]at hv
      cases hl:lookL rin d with
      |some r=>exact⟨r,rfl⟩
      |none=>have:=hro d c hc hl;rw[h.sc c v hv]at this;cases this
 have hcall:=hs.calls G (fun d=>(lookN ρ d).bind β) w vs hpre (hvl.trans hlen) (fun i y v hy hv=>by
  have hi:i<args.length:=by rw[hlen];exact(List.getElem?_eq_some_iff.1 hy).1
  have hx:args[i]? =some args[i]:=List.getElem?_eq_getElem hi
  exact(ha i _ y hx hy G β v (hvd i _ v hx hv)).unren y rfl)
 refine hcall.mono ?_;rintro e w' ⟨v,x,rout,G',β',he,hpost,ho,hden⟩;obtain⟨k1,k2,k3⟩:=hk x rout hpost
 have hdec:∀c,Decidable (∃d,lookN ρ d=some c):=fun _=>Classical.propDecidable _
 let βc:Env:=fun c=>if hc:∃d,lookN ρ d=some c then β' (Classical.choose hc)else β c
 have hβ:∀d c,lookN ρ d=some c→βc c=β' d:=by
  intro d c hd;have hc:∃d,lookN ρ d=some c:=⟨d,hd⟩;have:Classical.choose hc=d:=okR_inj hok (lookN_mem (Classical.choose_spec hc)) (lookN_mem hd);simp only[βc,hc,dif_pos,this]
 have hβn:∀c,(¬ ∃d,lookN ρ d=some c)→βc c=β c:=fun c hc=>by simp only[βc,hc,dif_neg,not_false_iff]
 have hle:β.le βc:=by
  intro c u hu
  by_cases hc:∃d,lookN ρ d=some c
  · obtain⟨d,hd⟩:=hc;rw[hβ d c hd];exact ho.ele d u (by simp[hd,hu])
  · rw[hβn c hc];exact hu
 have hT:∀b,Tin w (fun d=>(lookN ρ d).bind β) (lookL rin) b→(∃d c r0 v,lookN ρ d=some c∧s.res c=some r0∧r0.own=true∧β c=some v∧Blks w r0 v b):=by
  rintro b ⟨d,r,v,e1,o1,f1,b1⟩;obtain⟨c,r0,hc,hs0,hle⟩:=hr d r e1;simp only[hc,Option.bind_some]at f1;exact⟨d,c,r0,v,hc,hs0,by rw[hle.own',Res.ren_own];exact o1,f1,b1.to (by rw[hle.isR',Res.ren_isR])⟩
 have hTA:∀b,Tin w (fun d=>(lookN ρ d).bind β) (lookL rin) b→A.T b∨A.w0.heap.size≤b:=by
  intro b hb;obtain⟨d,c,r0,v,_,hs0,o1,f1,b1⟩:=hT b hb;exact(h.og c r0 v b hs0 o1 f1 b1).2
 have hout:∀c r u b,(¬ ∃d,lookN ρ d=some c)→s.res c=some r→r.own=true→β c=some u→Blks w r u b→¬Tin w (fun d=>(lookN ρ d).bind β) (lookL rin) b:=by
  intro c r u b hc hr0 ho0 hu hb hT';obtain⟨d,c',r0,v,hd,hs0,o1,f1,b1⟩:=hT b hT';have:=h.dj c c' r r0 u v b hr0 hs0 ho0 o1 hu f1 hb b1;subst this;exact hc ⟨d,hd⟩
 have hback:∀c r v b,(¬ ∃d,lookN ρ d=some c)→s.res c=some r→r.own=true→β c=some v→Blks w' r v b→Blks w r v b:=fun c r v b hcd hc ho' hv hb=>
  (h.rs c r hc).blks ho' (fun u b hu hb=>ho.keep.block b ((h.rs c r hc).lt ho' hu hb) (hout c r u b hcd hc ho' hu hb)) hv hb
 have hres:∀c,(s.app ⟨none,.any,outs ρ rout,ρ.map (·.2)⟩).res c=lookR (outs ρ rout) c (s.res c):=fun c=>by simp only[St.app,putR_apply]
 have hin:∀d c,lookN ρ d=some c→(s.app ⟨none,.any,outs ρ rout,ρ.map (·.2)⟩).res c=(lookL rout d).map (Res.ren ρ):=fun d c hd=>by
  rw[hres];exact lookR_outs_mem hok (lookN_mem hd)
 have hno:∀c,(¬ ∃d,lookN ρ d=some c)→(s.app ⟨none,.any,outs ρ rout,ρ.map (·.2)⟩).res c=s.res c:=fun c hc=>by
  rw[hres];exact lookR_outs_not (fun d hd=>hc ⟨d,okR_mem hok hd⟩)
 have hmg:MG A G' βc (s.app ⟨none,.any,outs ρ rout,ρ.map (·.2)⟩) t w':=by
  refine⟨h.sz,fun b o e=>ho.gle _ _ (h.g0 b o e),fun d v e=>hle _ _ (h.e0 d v e),ho.gw,fun b o hg=> ?_,⟨ho.keep.os.trans h.keep.os,ho.keep.tape.trans h.keep.tape,ho.keep.output.trans h.keep.output,Nat.le_trans h.keep.size ho.keep.size,fun b hlt hTb=> ?_⟩,
   fun i=>(h.tm i).mono ho.gle hle,fun c r hc=> ?_,fun c c' r r' v v' b e1 e2 o1 o2 f1 f2 b1 b2=> ?_,fun c r v b e1 o1 f1 b1=> ?_,fun c v hv=> ?_⟩
  · rcases ho.gn b o hg with q|q|q
    · exact h.gn _ _ q
    · exact .inr (hTA b q)
    · exact .inr (.inr (Nat.le_trans h.keep.size q))
  · rw[ho.keep.block b (Nat.lt_of_lt_of_le hlt h.keep.size) (fun q=>by rcases hTA b q with q|q;exact hTb q;omega)];exact h.keep.block b hlt hTb
  · by_cases hcd:∃d,lookN ρ d=some c
    · obtain⟨d,hd⟩:=hcd;rw[hin d c hd]at hc
      cases hl:lookL rout d with
      |none=>rw[hl]at hc;cases hc
      |some r' =>rw[hl]at hc;cases hc;exact(ho.rs d r' hl).reren hβ hd (k2 d r' hl).2
    · rw[hno c hcd]at hc;refine(h.rs c r hc).keep ho.gle hle (fun ho' u b hu hb=> ?_);exact ho.keep.block b ((h.rs c r hc).lt ho' hu hb) (hout c r u b hcd hc ho' hu hb)
  · by_cases hcd:∃d,lookN ρ d=some c
    · obtain⟨d,hd⟩:=hcd;rw[hin d c hd]at e1;rw[hβ d c hd]at f1
      cases hl:lookL rout d with
      |none=>rw[hl]at e1;cases e1
      | some r1=>
        rw[hl]at e1;cases e1;rw[Res.ren_own]at o1
        by_cases hcd':∃d,lookN ρ d=some c'
        · obtain⟨d',hd'⟩:=hcd';rw[hin d' c' hd']at e2;rw[hβ d' c' hd']at f2
          cases hl':lookL rout d' with
          |none=>rw[hl']at e2;cases e2
          | some r2=>
            rw[hl']at e2;cases e2;rw[Res.ren_own]at o2;have:=ho.dj d d' r1 r2 v v' b hl hl' o1 o2 f1 f2 (b1.to (Res.ren_isR _ _)) (b2.to (Res.ren_isR _ _));subst this;rw[hd]at hd';cases hd';rfl
        · rw[hno c' hcd']at e2;rw[hβn c' hcd']at f2;have b2:=hback c' r' v' b hcd' e2 o2 f2 b2;rcases(ho.og d r1 v b hl o1 f1 (b1.to (Res.ren_isR _ _))).2 with q|q
          · exact absurd q (hout c' r' v' b hcd' e2 o2 f2 b2)
          · have:=(h.rs c' r' e2).lt o2 f2 b2;omega
    · rw [hno c hcd]at e1;rw[hβn c hcd]at f1
      by_cases hcd':∃d,lookN ρ d=some c'
      · obtain⟨d',hd'⟩:=hcd';rw[hin d' c' hd']at e2;rw[hβ d' c' hd']at f2
        cases hl':lookL rout d' with
        |none=>rw[hl']at e2;cases e2
        | some r2=>
          rw[hl']at e2;cases e2;rw[Res.ren_own]at o2;have b1:=hback c r v b hcd e1 o1 f1 b1;rcases(ho.og d' r2 v' b hl' o2 f2 (b2.to (Res.ren_isR _ _))).2 with q|q
          · exact absurd q (hout c r v b hcd e1 o1 f1 b1)
          · have:=(h.rs c r e1).lt o1 f1 b1;omega
      · rw[hno c' hcd']at e2;rw[hβn c' hcd']at f2;exact h.dj c c' r r' v v' b e1 e2 o1 o2 f1 f2 (hback c r v b hcd e1 o1 f1 b1) (hback c' r' v' b hcd' e2 o2 f2 b2)
  · by_cases hcd:∃d,lookN ρ d=some c
    · obtain⟨d,hd⟩:=hcd;rw[hin d c hd]at e1;rw[hβ d c hd]at f1
      cases hl:lookL rout d with
      |none=>rw[hl]at e1;cases e1
      | some r1=>
        rw[hl]at e1;cases e1;rw[Res.ren_own]at o1;obtain⟨q1,q2⟩:=ho.og d r1 v b hl o1 f1 (b1.to (Res.ren_isR _ _));refine⟨q1,?_⟩;rcases q2 with q2|q2
        · exact hTA b q2
        · exact .inr (Nat.le_trans h.keep.size q2)
    · rw[hno c hcd]at e1;rw[hβn c hcd]at f1;have b1:=hback c r v b hcd e1 o1 f1 b1;obtain⟨q1,q2⟩:=h.og c r v b e1 o1 f1 b1;refine⟨?_,q2⟩
      cases hg:G' b with
      |none=>rfl
      | some o=>
        rcases ho.gn b o hg with q|q|q
        · rw[q1]at q;cases q
        · exact absurd q (hout c r v b hcd e1 o1 f1 b1)
        · have:=(h.rs c r e1).lt o1 f1 b1;omega
  · simp only[St.app,putU_apply,Bool.or_eq_true,mem_iff]
    by_cases hcd:∃d,lookN ρ d=some c
    · obtain⟨d,hd⟩:=hcd;exact .inl (List.mem_map.2 ⟨(d,c),lookN_mem hd,rfl⟩)
    · rw[hβn c hcd]at hv;exact .inr (h.sc c v hv)
 exact⟨v,_,G',βc,he,k3,rfl,hmg,hden.reren hβ k1⟩
theorem CallX.sound {P:Program}{f:FuncId}{dst:Option Nat}{args:List SV}{s:St}{av:List Nat}{k:Upd→Prop}(hx:CallX P f dst args s av k):
 ∀ {A:Amb} {G:Hp} {β:Env} {t:Array Value} {w:World} {vs:List Value},MG A G β s t w→vs.length=args.length→(∀ (i:Nat) x v,args[i]? =some x→vs[i]? =some v→SV.Den G β x v)→
 (∀args w,(callFunc f args).run P w= .ok (.enter f args) w)∧
 Calls P f vs.toArray w fun e w' =>∃v u G' β',e= .returned v∧k u∧u.dst=dst∧MG A G' β' (s.app ⟨none,.any,u.rs,u.us⟩) t w'∧SV.Den G' β' u.v v:=by
 induction hx with
 | call args s av k ρ sargs rin post hs hok hlen ha hr hro hav hk=>
   intro A G β t w vs h hvl hvd
   exact CallX.sound_call hs hok hlen ha hr hro hk h hvl hvd
 | peek args s av k ρ sargs rin y hs hok hlen ha hr hra hav hy hrk hk=>
   intro A G β t w vs h hvl hvd
   have hr':∀d r,lookL rin d=some r→∃c r0,lookN ρ d=some c∧s.res c=some r0∧Res.le r0 (r.ren ρ):=fun d r hd=>by
    obtain⟨c,h1,h2⟩:=hr d r hd;exact⟨c,_,h1,h2,Res.le_refl _⟩
   have hro':∀d c,lookN ρ d=some c→lookL rin d=none→s.used c=false:=fun d c hd hl=>by
    obtain⟨r,h1⟩:=hra d c hd;rw[hl]at h1;cases h1
   obtain⟨e1,e2⟩:=CallX.sound_call (dst:=dst) (k:=fun u=>u=⟨dst,y.ren ρ,outs ρ rin,ρ.map (·.2)⟩) hs hok hlen ha hr' hro' (by
    rintro x rout ⟨rfl,rfl⟩
    exact⟨hy,fun d r hd=>⟨by obtain⟨c,h1,_⟩:=hr d r hd;rw[h1];rfl,hrk d r hd⟩,rfl⟩) h hvl hvd
   refine⟨e1,e2.mono ?_⟩;rintro e w' ⟨v,u,G',β',h1,rfl,h3,h4,h5⟩;refine⟨v,⟨dst,y.ren ρ,[],[]⟩,G',β',h1,hk,rfl,?_,h5⟩
   have hst:s.app ⟨none,.any,outs ρ rin,ρ.map (·.2)⟩=s.app ⟨none,.any,[],[]⟩:=by
    simp only[St.app,St.mk.injEq];refine⟨trivial,?_,?_⟩
    · funext c
      simp only[putR_apply]
      by_cases hcd:∃d,lookN ρ d=some c
      · obtain⟨d,hd⟩:=hcd;obtain⟨r,hl⟩:=hra d c hd;obtain⟨c',hc',hs'⟩:=hr d r hl;rw[hd]at hc';cases hc';exact(lookR_outs_mem hok (lookN_mem hd)).trans (by rw[hl,hs'];rfl)
      · exact lookR_outs_not (fun d hd=>hcd ⟨d,okR_mem hok hd⟩)
    · funext c
      simp only[putU_apply]
      cases hq:mem (ρ.map (·.2)) c with
      |false=>rfl
      | true=>
        rw[mem_iff,List.mem_map]at hq;obtain⟨p,hp,rfl⟩:=hq;have hd:=okR_mem hok (d:=p.1) (c:=p.2) hp;obtain⟨r,hl⟩:=hra p.1 p.2 hd;obtain⟨c',hc',hs'⟩:=hr p.1 r hl;rw[hd]at hc';cases hc';obtain⟨v0,hv0⟩:=ResOk.named (h.rs _ _ hs');rw[h.sc _ _ hv0];rfl
   rw[←hst];exact h4
 | freeze args s av k d e kk n g hd hav h0 ih=>
   intro A G β t w vs h hvl hvd;obtain⟨G',hle,hm⟩:=h.freeze hd
   have hi:=ih hm (vs:=vs) (by simpa using hvl) (fun i x v hx hv=>by
    rw[List.getElem?_map]at hx
    cases hy:args[i]? with
    |none=>rw[hy]at hx;cases hx
    |some y=>rw[hy]at hx;cases hx;exact frz_den (hm.rs d (.fro kk n g) (by simp[St.app,putR_apply,lookR])) ((hvd i y v hy hv).mono hle (Env.le_refl β)))
   refine⟨hi.1,hi.2.mono ?_⟩;rintro e' w' ⟨v,u,G2,β2,h1,h2,h3,h4,h5⟩;refine⟨v,_,G2,β2,h1,h2,h3,?_,h5⟩
   have:(s.app ⟨none,.any,u.rs++ [(d,some (.fro kk n g))],u.us⟩)=((s.app ⟨none,.any,[(d,some (.fro kk n g))],[]⟩).app ⟨none,.any,u.rs,u.us⟩):=by
    simp only[St.app,putT];congr 1
    · funext x
      simp only[putR_apply,lookR_append]
   rw[this]
   exact h4
 | freezeF args s av k q d e kk n X g hq hd hav hav2 h0 ih=>
   intro A G β t w vs h hvl hvd;obtain⟨G',hle,hm,hfr⟩:=h.freezeF hq hd
   have hi:=ih hm (vs:=vs) (by simpa using hvl) (fun i x v hx hv=>by
    rw[List.getElem?_map]at hx
    cases hy:args[i]? with
    |none=>rw[hy]at hx;cases hx
    |some y=>rw[hy]at hx;cases hx;exact frzF_den hfr ((hvd i y v hy hv).mono hle (Env.le_refl β)))
   refine⟨hi.1,hi.2.mono ?_⟩;rintro e' w' ⟨v,u,G2,β2,h1,h2,h3,h4,h5⟩;refine⟨v,_,G2,β2,h1,h2,h3,?_,h5⟩
   have:(s.app ⟨none,.any,u.rs++ [(d,some (.fro kk n g))],u.us⟩)=((s.app ⟨none,.any,[(d,some (.fro kk n g))],[]⟩).app ⟨none,.any,u.rs,u.us⟩):=by
    simp only[St.app,putT];congr 1
    · funext x
      simp only[putR_apply,lookR_append]
   rw[this];exact h4
end Go.Eng
namespace Go.Eng
open Go
def isMut (C:List Nat)(dst:Option Nat):Bool:=
 match dst with
 |some d=>mem C d
 |none=>false
def callV (P:Program)(dst:Option Nat)(f:SV)(args:List SV)(s:St)(av:List Nat)(k:Upd→Prop):Prop:=
 match f with
 | .fn g caps=>CallX P g dst (args++caps) s av k
 |_=>False
def memO (av:List Nat)(d:Option Nat):Bool:=match d with|some d=>mem av d|none=>false
def mapUpdU (T:Tab)(dst:Option Nat)(s:St)(av:List Nat)(ty:TypeId)(m key x:SV)(k:Upd→Prop):Prop:=
 match m with
 | .mp d=>br (mem av d) False (match s.res d with
   |some (.mapR ..)=>backE T dst s av ty (.mp d) key x k
   |_=>mapUpdateE T dst s ty (.mp d) key x k)
 |_=>False
def mapDelU (T:Tab)(dst:Option Nat)(s:St)(av:List Nat)(ty:TypeId)(m key:SV)(k:Upd→Prop):Prop:=
 match m with
 | .mp d=>br (mem av d) False (deleteE T dst s ty (.mp d) key k)
 |_=>False
def mapEntU (T:Tab)(dst:Option Nat)(s:St)(av:List Nat)(ty:TypeId)(m key:SV)(k:Upd→Prop):Prop:=
 match m with
 | .mp d=>br (mem av (d+1099511627776)||mem av (d+2199023255552)) False (mapEntryE T dst s ty (.mp d) key k)
 |_=>False
def entStU (T:Tab)(dst:Option Nat)(s:St)(av:List Nat)(m st x:SV)(k:Upd→Prop):Prop:=
 match m with
 | .mp d=>br (mem av d) False (entryStoreE T dst s (.mp d) st x k)
 |_=>False
def lookF (T:Tab)(dst:Option Nat)(s:St)(ty:TypeId)(m x:SV)(ok:Bool)(k:Upd→Prop):Prop:=
 match m with
 | .mp d=>match s.res d with
   |some (.mapR ..)=>br ok False (takeE T dst s [] ty (.mp d) x k)
   |_=>lookupE T s ty (.mp d) x ok fun v=>k ⟨dst,v,[],[]⟩
 |_=>False
def stepU (P:Program)(T:Tab)(C:List Nat)(o:Oper)(s:St)(av:List Nat)(k:Upd→Prop):Prop:=
 match o.op with
 | .alloc ty=>allocE T o.dst s ty k
 | .box ty x=>boxE o.dst s ty (s.ev x) k
 | .buildSlice ty n ps=>buildSliceE T o.dst s (isMut C o.dst) ty n (ps.toList.map fun p=>(p.1,s.ev p.2)) k
 | .makeSlice ty l c=>makeSliceE T o.dst s ty (s.ev l) (s.ev c) k
 | .store ty p x=>storeE T o.dst s av ty (s.ev p) (s.ev x) k
 | .call c=>match c.callee with
   | .value f=>callV P o.dst (s.ev f) (c.args.toList.map s.ev) s av k
   | .builtin .append=>match c.args.toList,c.argTypes.toList with
     | [x,y],[ty,ty2]=>br (Nat.beq ty2 ty) (appendE T o.dst s av ty (s.ev x) (s.ev y) k) False
     |_,_=>False
   | .builtin .delete=>match c.args.toList,c.argTypes.toList with
     | [x,y],[ty,_]=>mapDelU T o.dst s av ty (s.ev x) (s.ev y) k
     |_,_=>False
   |_=>evP T o s fun v=>k ⟨o.dst,v,[],[]⟩
 | .slice ty x lo hi mx=>match s.ev x with
   | .buf d=>match mx with
     |none=>br (isMut C o.dst) (br (!(mem av d||memO av o.dst)) (prefixE T o.dst s ty d (lo.map s.ev) (hi.map s.ev) k) False) (subE T o.dst s ty (.buf d) (lo.map s.ev) (hi.map s.ev) k)
     |some _=>False
   |_=>evP T o s fun v=>k ⟨o.dst,v,[],[]⟩
 | .lookup ty m x ok=>br (isMut C o.dst) (br ok False (takeE T o.dst s av ty (s.ev m) (s.ev x) k)) (lookupE T s ty (s.ev m) (s.ev x) ok fun v=>k ⟨o.dst,v,[],[]⟩)
 | .mapUpdate ty m key x=>mapUpdU T o.dst s av ty (s.ev m) (s.ev key) (s.ev x) k
 | .mapEntry ty m key=>mapEntU T o.dst s av ty (s.ev m) (s.ev key) k
 | .entryStore ty m st x=>entStU T o.dst s av (s.ev m) (s.ev st) (s.ev x) k
 |_=>evP T o s fun v=>k ⟨o.dst,v,[],[]⟩
theorem br_false_elim {b:Bool}{x:Prop}(h:br b False x):b=false∧x:=by
 cases b
 · exact⟨rfl,h⟩
 · exact h.elim
section
variable {P:Program} {T:Tab} {A:Amb} {G:Hp} {β:Env} {s:St} {a:Act} {w:World} {t:Array Value}
theorem map_den (h:MG A G β s a.tmps w)(l:List Operand):∀ (i:Nat) x v,(l.map s.ev)[i]? =some x→(l.map a.eval)[i]? =some v→SV.Den G β x v:=by
 intro i x v hx hv;rw[List.getElem?_map]at hx hv
 cases hl:l[i]? with
 |none=>rw[hl]at hx;cases hx
 |some y=>rw[hl]at hx hv;cases hx;cases hv;exact h.ev y
theorem wp_mapUpdU (hT:TabOk P T){o:Oper}{ty:TypeId}{m key x:Operand}(ho:o.op= .mapUpdate ty m key x)(h0:a.defers= [])(h:MG A G β s a.tmps w)(hN:∀d,o.dst=some d→d<A.N){av:List Nat}
 {k:Upd→Prop}(hk:mapUpdU T o.dst s av ty (s.ev m) (s.ev key) (s.ev x) k){Q:Exit→Act→World→Prop}:o.wp P a w (fun a' w' =>∃u,k u∧Mod A (s.app u) a' w') Q:=by
 unfold mapUpdU at hk;split at hk
 · rename_i d hm;obtain⟨_,hk⟩:=br_false_elim hk;split at hk
   · rw[←hm]at hk;exact wp_back hT ho h0 h hN hk
   · rw[←hm]at hk;exact wp_mapUpdate hT (.inl ho) h0 h hN hk
 · exact hk.elim
theorem wp_lookE (hT:TabOk P T){o:Oper}{ty:TypeId}{m x:Operand}{ok:Bool}(ho:o.op= .lookup ty m x ok)(h0:a.defers= [])(h:MG A G β s a.tmps w)(hN:∀d,o.dst=some d→d<A.N)
 {k:Upd→Prop}(hk:lookupE T s ty (s.ev m) (s.ev x) ok fun v=>k ⟨o.dst,v,[],[]⟩){Q:Exit→Act→World→Prop}:o.wp P a w (fun a' w' =>∃u,k u∧Mod A (s.app u) a' w') Q:=by
 obtain⟨v,y,h1,h2,h3⟩:=gives_lookup hT h (h.ev m) (h.ev x) hk;exact wp_value (by simp[execOp,ho,h1]) ⟨_,h3,MG.fin (s:=s) (rs:= []) (us:= []) (h0:=h0) h hN h2⟩
theorem wp_takeU (hT:TabOk P T){o:Oper}{ty:TypeId}{m x:Operand}{ok:Bool}(ho:o.op= .lookup ty m x ok)(h0:a.defers= [])(h:MG A G β s a.tmps w)(hN:∀d,o.dst=some d→d<A.N){av:List Nat}
 {k:Upd→Prop}(hk:br ok False (takeE T o.dst s av ty (s.ev m) (s.ev x) k)){Q:Exit→Act→World→Prop}:o.wp P a w (fun a' w' =>∃u,k u∧Mod A (s.app u) a' w') Q:=by
 obtain⟨rfl,hk⟩:=br_false_elim hk;exact wp_take hT ho h0 h hN hk
theorem wp_lookF (hT:TabOk P T){o:Oper}{ty:TypeId}{m x:Operand}{ok:Bool}(ho:o.op= .lookup ty m x ok)(h0:a.defers= [])(h:MG A G β s a.tmps w)(hN:∀d,o.dst=some d→d<A.N)
 {k:Upd→Prop}(hk:lookF T o.dst s ty (s.ev m) (s.ev x) ok k){Q:Exit→Act→World→Prop}:o.wp P a w (fun a' w' =>∃u,k u∧Mod A (s.app u) a' w') Q:=by
 unfold lookF at hk;split at hk
 · rename_i d hm;split at hk
   · rw[←hm]at hk;exact wp_takeU hT ho h0 h hN hk
   · rw[←hm]at hk;exact wp_lookE hT ho h0 h hN hk
 · exact hk.elim
theorem stepU_sound (hT:TabOk P T){C:List Nat}(h0:a.defers= [])(h:MG A G β s a.tmps w){o:Oper}(hN:∀d,o.dst=some d→d<A.N){av:List Nat}{k:Upd→Prop}
 (hk:stepU P T C o s av k){Q:Exit→Act→World→Prop}:o.wp P a w (fun a' w' =>∃u,k u∧Mod A (s.app u) a' w') Q:=by
 have pure:evP T o s (fun v=>k ⟨o.dst,v,[],[]⟩)→o.wp P a w (fun a' w' =>∃u,k u∧Mod A (s.app u) a' w') Q:=by
  intro hk;obtain⟨v,x,h1,h2,h3⟩:=evP_sound hT h hk;exact wp_value h1 ⟨_,h3,MG.fin (s:=s) (rs:= []) (us:= []) (h0:=h0) h hN h2⟩
 unfold stepU at hk;split at hk
 · rename_i ty ho;exact wp_alloc hT ho h0 h hN hk
 · rename_i ty x ho;exact wp_box ho h0 h hN hk
 · rename_i ty n ps ho;exact wp_buildSlice hT ho h0 h hN hk
 · rename_i ty l c ho;exact wp_makeSlice hT ho h0 h hN hk
 · rename_i ty p x ho;exact wp_store hT ho h0 h hN hk
 · rename_i c ho;split at hk
   · rename_i f hc;unfold callV at hk;split at hk
     · rename_i g caps hf;have hfd:=h.ev f;rw[hf]at hfd;generalize hfv:a.eval f=fv at hfd
       cases hfd with|fn _ _ vs hl hd=>
       obtain⟨c1,c2⟩:=hk.sound h (vs:=c.args.toList.map a.eval++vs) (by simp[hl]) (fun i x v hx hv=>by
        have hlen:(c.args.toList.map s.ev).length=(c.args.toList.map a.eval).length:=by simp
        rcases Nat.lt_or_ge i (c.args.toList.map s.ev).length with q|q
        · rw[List.getElem?_append_left q]at hx;rw[List.getElem?_append_left (by rw[←hlen];exact q)]at hv;exact map_den h _ i x v hx hv
        · rw[List.getElem?_append_right q]at hx;rw[List.getElem?_append_right (by rw[←hlen];exact q),←hlen]at hv
          exact hd _ x v hx hv)
       have hrun:(execOp a.eval o).run P w= .ok (.enter g (c.args.toList.map a.eval++vs).toArray) w:=by
        have:(c.args.map a.eval++vs.toArray)=(c.args.toList.map a.eval++vs).toArray:=by apply Array.ext';simp
        simp only[execOp,ho,resolve,hc,hfv,Deferred.ofValue,Sem.run_bind,Sem.run_pure,Result.andThen_ok,invoke];rw[show(#[]++c.args.map a.eval++vs.toArray)=(c.args.toList.map a.eval++vs).toArray by rw[←this];simp];exact c1 _ _
       unfold Oper.wp;rw[hrun,Oper.upon_enter];refine c2.mono ?_;rintro e w' ⟨v,u,G',β',rfl,k1,k2,k3,k4⟩;refine⟨u,k1,?_⟩;obtain⟨ud,uv,urs,uus⟩:=u;simp only at k2;subst k2;exact k3.fin (h0:=h0) hN k4
     · exact hk.elim
   · rename_i hc;split at hk
     · rename_i x y ty ty2 ha hty;obtain⟨h2,hk⟩:=br_elim hk;exact wp_append hT ho hc (by apply Array.ext';simpa using ha) (by apply Array.ext';simpa using hty) (Nat.eq_of_beq_eq_true h2) h0 h hN hk
     · exact hk.elim
   · rename_i hc;split at hk
     · rename_i x y ty ty2 ha hty;unfold mapDelU at hk;split at hk
       · rename_i d hm;obtain⟨_,hk⟩:=br_false_elim hk;rw[←hm]at hk;exact wp_delete hT ho hc (by apply Array.ext';simpa using ha) (by apply Array.ext';simpa using hty) h0 h hN hk
       · exact hk.elim
     · exact hk.elim
   · exact pure hk
 · rename_i ty x lo hi mx ho;split at hk
   · rename_i d hd;split at hk
     · cases hm:isMut C o.dst with
       |true=>rw[hm]at hk;exact wp_prefix hT ho h0 h hN hd (br_elim hk).2
       |false=>rw[hm]at hk;exact wp_sub hT ho h0 h hN (by rw[hd];exact hk)
     · exact hk.elim
   · exact pure hk
 · rename_i ty m x ok ho
   cases hm:isMut C o.dst with
   |true=>rw[hm]at hk;exact wp_takeU hT ho h0 h hN hk
   |false=>rw[hm]at hk;exact wp_lookE hT ho h0 h hN hk
 · rename_i ty m key x ho;exact wp_mapUpdU hT ho h0 h hN hk
 · rename_i ty m key ho;unfold mapEntU at hk;split at hk
   · rename_i d hm;obtain⟨_,hk⟩:=br_false_elim hk;rw[←hm]at hk;exact wp_mapEntry hT ho h0 h hN hk
   · exact hk.elim
 · rename_i ty m st x ho;unfold entStU at hk;split at hk
   · rename_i d hm;obtain⟨_,hk⟩:=br_false_elim hk;rw[←hm]at hk;exact wp_entryStore ho h0 h hN hk
   · exact hk.elim
 · exact pure hk
end
mutual
def forceV:SV→(SV→Prop)→Prop
 | .any,k=>k .any
 | .bad,k=>k .bad
 | .undef,k=>k .undef
 | .d x,k=>forceD x fun x=>k (.d x)
 | .agg l,k=>forceL l fun l=>k (.agg l)
 | .tup l,k=>forceL l fun l=>k (.tup l)
 | .ptr q o,k=>k (.ptr q o)
 | .buf q,k=>k (.buf q)
 | .bel q kk i o,k=>k (.bel q kk i o)
 | .mp q,k=>k (.mp q)
 | .fn f caps,k=>forceL caps fun l=>k (.fn f l)
 | .sub q kk lo n,k=>k (.sub q kk lo n)
def forceL:List SV→(List SV→Prop)→Prop
 | [],k=>k []
 |x::l,k=>forceV x fun x=>forceL l fun l=>k (x::l)
end
mutual
theorem forceV_eq:∀ (x:SV) (k:SV→Prop),forceV x k=k x
 | .any,k=>rfl
 | .bad,k=>rfl
 | .undef,k=>rfl
 | .d x,k=>by simp only[forceV,forceD_eq]
 | .agg l,k=>by simp only[forceV,forceL_eq l]
 | .tup l,k=>by simp only[forceV,forceL_eq l]
 | .ptr q o,k=>rfl
 | .buf q,k=>rfl
 | .bel q kk i o,k=>rfl
 | .mp q,k=>rfl
 | .fn f caps,k=>by simp only[forceV,forceL_eq caps]
 | .sub q kk lo n,k=>rfl
theorem forceL_eq:∀ (l:List SV) (k:List SV→Prop),forceL l k=k l
 | [],k=>rfl
 |x::l,k=>by simp only[forceL,forceV_eq x,forceL_eq l]
end
mutual
def forceVr:SV→(SV→Prop)→Prop
 | .any,k=>k .any
 | .bad,k=>k .bad
 | .undef,k=>k .undef
 | .d x,k=>k (.d x)
 | .agg l,k=>forceLr l fun l=>k (.agg l)
 | .tup l,k=>forceLr l fun l=>k (.tup l)
 | .ptr q o,k=>k (.ptr q o)
 | .buf q,k=>k (.buf q)
 | .bel q kk i o,k=>k (.bel q kk i o)
 | .mp q,k=>k (.mp q)
 | .fn f caps,k=>forceLr caps fun l=>k (.fn f l)
 | .sub q kk lo n,k=>k (.sub q kk lo n)
def forceLr:List SV→(List SV→Prop)→Prop
 | [],k=>k []
 |x::l,k=>forceVr x fun x=>forceLr l fun l=>k (x::l)
end
mutual
theorem forceVr_eq:∀ (x:SV) (k:SV→Prop),forceVr x k=k x
 | .any,k=>rfl
 | .bad,k=>rfl
 | .undef,k=>rfl
 | .d x,k=>rfl
 | .agg l,k=>by simp only[forceVr,forceLr_eq l]
 | .tup l,k=>by simp only[forceVr,forceLr_eq l]
 | .ptr q o,k=>rfl
 | .buf q,k=>rfl
 | .bel q kk i o,k=>rfl
 | .mp q,k=>rfl
 | .fn f caps,k=>by simp only[forceVr,forceLr_eq caps]
 | .sub q kk lo n,k=>rfl
theorem forceLr_eq:∀ (l:List SV) (k:List SV→Prop),forceLr l k=k l
 | [],k=>rfl
 |x::l,k=>by simp only[forceLr,forceVr_eq x,forceLr_eq l]
end
def forceR (r:Res)(k:Res→Prop):Prop:=
 match r with
 | .cells e l=>forceLr l fun l=>k (.cells e l)
 | .buf e kk n g=>k (.buf e kk n g)
 | .fro kk n g=>k (.fro kk n g)
 | .byb n g=>k (.byb n g)
 | .map ag va ks zr has val=>k (.map ag va ks zr has val)
 | .mapB ag va ks zr has val clock kb=>k (.mapB ag va ks zr has val clock kb)
 | .iter m since seen=>k (.iter m since seen)
 | .mapR kk e kz has len get hole=>k (.mapR kk e kz has len get hole)
 | .bunch e kk l=>k (.bunch e kk l)
 | .inX X=>k (.inX X)
 | .know Q=>k (.know Q)
 | .no=>k .no
theorem forceR_eq (r:Res)(k:Res→Prop):forceR r k=k r:=by cases r<;>simp only[forceR,forceLr_eq]
def forceRs:List (Nat×Option Res)→(List (Nat×Option Res)→Prop)→Prop
 | [],k=>k []
 |(d,none)::l,k=>forceRs l fun l=>k ((d,none)::l)
 |(d,some r)::l,k=>forceR r fun r=>forceRs l fun l=>k ((d,some r)::l)
theorem forceRs_eq:∀ (l:List (Nat×Option Res)) (k:List (Nat×Option Res)→Prop),forceRs l k=k l
 | [],k=>rfl
 |(d,none)::l,k=>by simp only[forceRs,forceRs_eq l]
 |(d,some r)::l,k=>by simp only[forceRs,forceR_eq,forceRs_eq l]
def forceN:List Nat→(List Nat→Prop)→Prop
 | [],k=>k []
 |d::l,k=>forceN l fun l=>k (d::l)
theorem forceN_eq:∀ (l:List Nat) (k:List Nat→Prop),forceN l k=k l
 | [],k=>rfl
 |d::l,k=>by simp only[forceN,forceN_eq l]
def forceO (x:Option Nat)(k:Option Nat→Prop):Prop:=match x with|some d=>k (some d)|none=>k none
theorem forceO_eq (x:Option Nat)(k:Option Nat→Prop):forceO x k=k x:=by cases x<;>rfl
def forceU (u:Upd)(k:Upd→Prop):Prop:=
 match u with
 |⟨dst,v,rs,us⟩=>forceO dst fun dst=>forceV v fun v=>forceRs rs fun rs=>forceN us fun us=>k ⟨dst,v,rs,us⟩
theorem forceU_eq (u:Upd)(k:Upd→Prop):forceU u k=k u:=by
 cases u;simp only[forceU,forceO_eq,forceV_eq,forceRs_eq,forceN_eq]
def guardE (s:St)(ops:List Oper)(g:Option (Nat×Bool))(yes no:St→Prop):Prop:=
 match g with
 |none=>yes s
 | some (j,want)=>match ops.drop j with
   | oj :: _=>match oj.dst with
     | some t=>match s.tmps t with
       | .d (.bool b)=>br b (match want with|true=>yes (s.app ⟨some t,.d (.bool true),[],[]⟩)|false=>no (s.app ⟨some t,.d (.bool true),[],[]⟩))
          (match want with|true=>no (s.app ⟨some t,.d (.bool false),[],[]⟩)|false=>yes (s.app ⟨some t,.d (.bool false),[],[]⟩))
       | .undef=>no s
       |_=>False
     |none=>no s
   | []=>no s
def gsem (s:St)(ops:List Oper)(g:Option (Nat×Bool)):Option Bool:=
 match g with
 |none=>some true
 | some (j,want)=>match ops.drop j with
   | oj::_=>match oj.dst with
     | some t=>match s.tmps t with
       | .d (.bool b)=>some (b==want)
       | .undef=>some false
       |_=>none
     |none=>some false
   | []=>some false
theorem app_same {s:St}{t:Nat}{x:SV}(h:s.tmps t=x):s.app ⟨some t,x,[],[]⟩=s:=by
 obtain⟨tm,rs,us⟩:=s;simp only[St.app,putR,putU,St.mk.injEq,and_true];funext i
 rw[putT_apply];split
 · rename_i e;cases e;exact h.symm
 · rfl
theorem guardE_gsem {s:St}{ops:List Oper}{g:Option (Nat×Bool)}{yes no:St→Prop}(h:guardE s ops g yes no):(gsem s ops g=some true∧yes s)∨(gsem s ops g=some false∧no s):=by
 unfold guardE at h;unfold gsem;split at h
 · exact .inl ⟨rfl,h⟩
 · rename_i j want;split at h
   · rename_i oj r hj;try rw[hj]
     try dsimp only
     split at h
     · rename_i t ht;try rw[ht]
       try dsimp only
       split at h
       · rename_i b hb;try rw[hb]
         unfold br at h;cases b
         · rw[app_same hb]at h;cases want
           · exact .inl ⟨rfl,h⟩
           · exact .inr ⟨rfl,h⟩
         · rw[app_same hb]at h;cases want
           · exact .inr ⟨rfl,h⟩
           · exact .inl ⟨rfl,h⟩
       · rename_i hb;try rw[hb]
         exact .inr ⟨rfl,h⟩
       · exact h.elim
     · rename_i ht;try rw[ht]
       exact .inr ⟨rfl,h⟩
   · rename_i hj;try rw[hj]
     exact .inr ⟨rfl,h⟩
inductive SliceX (T:Tab) (o:Oper) (s:St) (ty:TypeId) (d:Nat) (lo hi:Option SV) (mx:Option Operand) (k:Upd→Prop):Prop
 |freeze (e kk n:Nat) (g:Nat→List DV) (hd:s.res d=some (.buf e kk n g)) (h:evP T o (s.app ⟨none,.any,[(d,some (.fro kk n g))],[]⟩) fun v=>k ⟨o.dst,v,[(d,some (.fro kk n g))],[]⟩):SliceX T o s ty d lo hi mx k
 |first(hm:mx=none) (h:prefixE T o.dst s ty d lo hi k):SliceX T o s ty d lo hi mx k
 |look (hm:mx=none) (h:subE T o.dst s ty (.buf d) lo hi k):SliceX T o s ty d lo hi mx k
def kk1 (T:Tab)(t:TypeId):Option KK:=
 match T t with
 |some ⟨.int k,_,_,_,_⟩=>some (.int k)
 |some ⟨.string,_,_,_,_⟩=>some .str
 |some ⟨.bool,_,_,_,_⟩=>some .bool
 |_=>none
def kkL (T:Tab):List Field→Option (List KK)
 | []=>some []
 | f::r=>match kk1 T f.type,kkL T r with
   |some k,some l=>some (k::l)
   |_,_=>none
def kkOf (T:Tab)(kt:TypeId):Option (Bool×List KK):=
 match T kt with
 | some ⟨.struct fs,_,_,_,_⟩=>match kkL T fs.toList with
   |some l=>some (true,l)
   |none=>none
 | some ⟨.array n e,_,_,_,_⟩=>match kk1 T e with
   |some k=>some (true,List.replicate n k)
   |none=>none
 | _=>match kk1 T kt with
   |some k=>some (false,[k])
   |none=>none
def nilAns (op:BinOp)(n:Nat)(k:SV→Prop):Prop:=
 match op with
 | .eql=>∀b:Bool,(b=true→n=0)→k (.d (.bool b))
 | .neq=>∀b:Bool,(b=false→n=0)→k (.d (.bool b))
 |_=>False
def nilCmpE (T:Tab)(s:St)(op:BinOp)(t:TypeId)(x:SV)(k:SV→Prop):Prop:=
 match T t,x with
 |some ⟨.slice _,_,_,_,_⟩,.d (.ro _ n _)=>nilAns op n k
 | some ⟨.slice _,_,_,_,_⟩,.buf d=>match s.res d with
   |some (.buf _ _ n _)=>nilAns op n k
   |_=>False
 | some ⟨.slice _,_,_,_,_⟩,.d .nilsl=>match op with
   | .eql=>k (.d (.bool true))
   | .neq=>k (.d (.bool false))
   |_=>False
 |_,_=>False
theorem run_equalInNil {P:Program}{t e:TypeId}(w:World)(d:Nat)(a:Option Addr)(n c n' c':Nat)(h:P.underlying t=some (.slice e)):(Op.equalIn (d+1) t (.slice a n c) (.slice none n' c')).run P w= .ok a.isNone w:=by
 cases a<;>simp[Op.equalIn,run_underlying h]
theorem run_eqlNil {P:Program}{t e:TypeId}(w:World)(a:Option Addr)(n c n' c':Nat)(h:P.underlying t=some (.slice e)):(binOp .eql t (.slice a n c) (.slice none n' c')).run P w= .ok (.bool a.isNone) w:=by
 simp only[binOp];simp[Op.equal,Op.maxDepth,run_equalInNil w 9999 a n c n' c' h]
theorem run_neqNil {P:Program}{t e:TypeId}(w:World)(a:Option Addr)(n c n' c':Nat)(h:P.underlying t=some (.slice e)):(binOp .neq t (.slice a n c) (.slice none n' c')).run P w= .ok (.bool (!a.isNone)) w:=by
 simp only[binOp];simp[Op.equal,Op.maxDepth,run_equalInNil w 9999 a n c n' c' h]
theorem gives_nilCmp {P:Program}{T:Tab}{G:Hp}{β:Env}{w:World}{s:St}(hT:TabOk P T)(hrs:∀d r,s.res d=some r→ResOk G β w d r){op:BinOp}{t:TypeId}{x y:Operand}{X:SV}{u v:Value}(hx:SV.Den G β X u)(hy:SV.Den G β (.d .nilsl) v){k:SV→Prop}
 (h:nilCmpE T s op t X k):Gives P G β w (do eqGuard op t x y u v;binOp op t u v) k:=by
 cases hy with|d _ _ hy=>cases hy with|nilsl=>
 unfold nilCmpE at h;split at h
 · rename_i e _ _ _ _ kk n g ht;have hu:=(hT.get ht).1;simp only at hu
   cases hx with|d _ _ hx=>
   obtain⟨a,m,c,rfl,hz⟩:∃a m c,u= .slice a m c∧(a.isNone=true→n=0):=by
    cases hx with
    |ronil=>exact⟨_,_,_,rfl,fun _=>rfl⟩
    |ro _ _ _ a cap=>exact⟨_,_,_,rfl,fun h=>by cases h⟩
   unfold nilAns at h;split at h
   · exact⟨_,_,by rw[eqGuard_at_slice];simp[run_eqlNil w a m c 0 0 hu]<;>rfl,.d _ _ (.bool _),h _ hz⟩
   · exact⟨_,_,by rw[eqGuard_at_slice];simp[run_neqNil w a m c 0 0 hu]<;>rfl,.d _ _ (.bool _),h _ (fun e=>hz (by simpa using e))⟩
   · exact h.elim
 · rename_i e _ _ _ _ d ht;have hu:=(hT.get ht).1;simp only at hu;split at h
   · rename_i e' kk n g hr;obtain⟨v',xs,hv,hown,_⟩:=hrs _ _ hr
     cases hx with|buf _ _ hb _=>
     rw[hb]at hv;cases hv
     obtain⟨a,m,c,rfl,hz⟩:∃a m c,u= .slice a m c∧(a.isNone=true→n=0):=by
      rcases hown.2 with⟨rfl,rfl⟩|⟨g',cap,cur,rfl,_⟩
      · exact⟨_,_,_,rfl,fun _=>rfl⟩
      · exact⟨_,_,_,rfl,fun h=>by cases h⟩
     unfold nilAns at h;split at h
     · exact⟨_,_,by rw[eqGuard_at_slice];simp[run_eqlNil w a m c 0 0 hu]<;>rfl,.d _ _ (.bool _),h _ hz⟩
     · exact⟨_,_,by rw[eqGuard_at_slice];simp[run_neqNil w a m c 0 0 hu]<;>rfl,.d _ _ (.bool _),h _ (fun e=>hz (by simpa using e))⟩
     · exact h.elim
   · exact h.elim
 · rename_i e _ _ _ _ ht;have hu:=(hT.get ht).1;simp only at hu
   cases hx with|d _ _ hx=>cases hx with|nilsl=>
   split at h
   · exact⟨_,_,by rw[eqGuard_at_slice];simp[run_eqlNil w none 0 0 0 0 hu]<;>rfl,.d _ _ (.bool _),h⟩
   · exact⟨_,_,by rw[eqGuard_at_slice];simp[run_neqNil w none 0 0 0 0 hu]<;>rfl,.d _ _ (.bool _),h⟩
   · exact h.elim
 · exact h.elim
def stepF (P:Program)(T:Tab)(C:List Nat)(o:Oper)(s:St)(k:Upd→Prop):Prop:=
 match o.op with
 | .alloc ty=>match o.dst with
   |some d=>br (s.used d) (allocN T (some d) (d+100000) s ty k) (stepU P T C o s [] k)
   |none=>stepU P T C o s [] k
 | .box ty x=>match s.res 999999 with
   |some (.bunch e kk l)=>br (Nat.beq ty e) (boxE o.dst s ty (s.ev x) fun u=>putC e kk l k u) (stepU P T C o s [] k)
   |_=>stepU P T C o s [] k
 | .load ty x=>match s.ev x with
   | .d (.opq (.pointer (some ⟨b,off,none⟩)))=>loadB T s ty b off fun v=>k ⟨o.dst,v,[],[]⟩
   |_=>stepU P T C o s [] k
 | .store ty x y=>match s.ev x with
   | .d (.opq (.pointer (some ⟨b,off,none⟩)))=>storeB T o.dst s ty b off (s.ev y) k
   |_=>stepU P T C o s [] k
 | .slice ty x lo hi mx=>match s.ev x with
   | .buf d=>SliceX T o s ty d (lo.map s.ev) (hi.map s.ev) mx k
   | .sub d kk lo0 n=>match mx with
     |none=>subE T o.dst s ty (.sub d kk lo0 n) (lo.map s.ev) (hi.map s.ev) k
     |some _=>False
   |_=>stepU P T C o s [] k
 | .buildSlice ty n ps=>match ps.toList with
   | [p] =>match s.ev p.2 with
     | .buf d=>match s.res d with
       |some (.buf _ kk m g)=>buildSliceE T o.dst (s.app ⟨none,.any,[(d,some (.fro kk m g))],[]⟩) (isMut C o.dst) ty n [(p.1,(s.app ⟨none,.any,[(d,some (.fro kk m g))],[]⟩).ev p.2)] fun u=>k ⟨u.dst,u.v,u.rs++ [(d,some (.fro kk m g))],u.us⟩
       |_=>False
     | .agg l=>match s.res 999999 with
       | some (.bunch e kk bl)=>match bufs1 l with
         | some d=>match s.res d with
           |some (.buf e' kk' m g)=>br (Nat.beq e' e&&Nat.beq kk' kk) (∀v:Value,buildSliceE T o.dst (s.app ⟨none,.any,[(999999,some (.bunch e kk ((v,m,g)::bl))),(d,none)],[]⟩) (isMut C o.dst) ty n [(p.1,opz d v (.agg l))] fun u=>k ⟨u.dst,u.v,u.rs++ [(999999,some (.bunch e kk ((v,m,g)::bl))),(d,none)],u.us⟩) False
           |_=>False
         |none=>stepU P T C o s [] k
       |_=>stepU P T C o s [] k
     |_=>stepU P T C o s [] k
   |_=>stepU P T C o s [] k
 | .makeMap ty r=>match r,T ty with
   | none,some ⟨.map kt _,_,_,_,_⟩=>match kkOf T kt with
     |some (ag,ks)=>makeMapE T o.dst s ty ag ks k
     |none=>False
   |_,_=>False
 | .lookup ty m x ok=>lookF T o.dst s ty (s.ev m) (s.ev x) ok k
 | .binOp op ty x y _=>match s.ev y with
   | .d .nilsl=>nilCmpE T s op ty (s.ev x) fun v=>k ⟨o.dst,v,[],[]⟩
   |_=>stepU P T C o s [] k
 | .mapUpdate ty m key x=>mapUpdU T o.dst s [] ty (s.ev m) (s.ev key) (s.ev x) k
 | .insert ty m key x=>mapUpdateE T o.dst s ty (s.ev m) (s.ev key) (s.ev x) k
 | .convert src ty x=>bytesE T o.dst s src ty (s.ev x) k (stepU P T C o s [] k)
 | .range ty m=>rangeE T o.dst s ty (s.ev m) k
 | .next it isS=>nextE T o.dst s (s.ev it) isS k
 | .entry it=>entryE T o.dst s (s.ev it) fun v=>k ⟨o.dst,v,[],[]⟩
 | .mapEntry ty m key=>mapEntryE T o.dst s ty (s.ev m) (s.ev key) k
 | .entryStore ty m st x=>entryStoreE T o.dst s (s.ev m) (s.ev st) (s.ev x) k
 | .call c=>match c.callee with
   | .builtin .len=>match c.args.toList,c.argTypes.toList with
     | [x],[ty]=>match s.ev x with
       | .mp d=>match T ty with
         |some ⟨.map _ _,_,_,_,_⟩=>lenMapE s (.mp d) fun v=>k ⟨o.dst,v,[],[]⟩
         |_=>False
       |_=>stepU P T C o s [] k
     |_,_=>False
   | .builtin .clear=>match c.args.toList,c.argTypes.toList with
     | [x],[ty]=>clearE T o.dst s ty (s.ev x) k
     |_,_=>False
   | .builtin .delete=>match c.args.toList,c.argTypes.toList with
     | [x,y],[ty,_]=>deleteE T o.dst s ty (s.ev x) (s.ev y) k
     |_,_=>False
   | .builtin .append=>match c.args.toList,c.argTypes.toList with
     | [x,y],[ty,ty2]=>match s.ev y with
       | .buf d=>br (Nat.beq ty2 ty) (appendG T o.dst s [] ty (s.ev x) (ownSrc s (.buf d)) k) False
       | .sub d kk lo n=>br (Nat.beq ty2 ty) (appendG T o.dst s [] ty (s.ev x) (ownSrc s (.sub d kk lo n)) k) False
       | .d (.str bs)=>appendS T o.dst s ty ty2 (s.ev x) bs k
       |_=>stepU P T C o s [] k
     |_,_=>False
   |_=>stepU P T C o s [] k
 |_=>stepU P T C o s [] k
theorem stepF_sound {P:Program}{T:Tab}{A:Amb}{G:Hp}{β:Env}{s:St}{a:Act}{w:World}(hT:TabOk P T){C:List Nat}(h0:a.defers= [])(h:MG A G β s a.tmps w){o:Oper}(hN:∀d,o.dst=some d→d<A.N){k:Upd→Prop}
 (hk:stepF P T C o s k){Q:Exit→Act→World→Prop}:o.wp P a w (fun a' w' =>∃u,k u∧Mod A (s.app u) a' w') Q:=by
 unfold stepF at hk;split at hk
 · rename_i ty ho;split at hk
   · rename_i d hd
     cases hu:s.used d with
     |true=>rw[hu]at hk;exact wp_allocN hT ho h0 h hN (by rw[hd];exact hk)
     |false=>rw[hu]at hk;exact stepU_sound hT h0 h hN hk
   · exact stepU_sound hT h0 h hN hk
 · rename_i ty x ho;split at hk
   · rename_i e kk l hq
     cases hte:Nat.beq ty e with
     |false=>rw[hte]at hk;exact stepU_sound hT h0 h hN hk
     | true=>
       rw[hte]at hk;refine Oper.wp_mono (fun a' w' hu=> ?_) (wp_box ho h0 h hN (k:=fun u=>putC e kk l k u) hk);obtain⟨u,h1,h2⟩:=hu;exact putC_sound hq h1 h2
   · exact stepU_sound hT h0 h hN hk
 · rename_i ty x ho;split at hk
   · rename_i b off hx;have hxv:=h.ev x;rw[hx]at hxv;generalize hv:a.eval x=xv at hxv
     cases hxv with|d _ _ q=>cases q with|opq _ _=>
     obtain⟨v,y,h1,h2,h3⟩:=gives_loadB hT h hk;refine wp_value (v:=v) (by simp[execOp,ho,hv,h1]) ⟨_,h3,MG.fin (s:=s) (rs:= []) (us:= []) (h0:=h0) h hN h2⟩
   · exact stepU_sound hT h0 h hN hk
 · rename_i ty x y ho;split at hk
   · rename_i b off hx;exact wp_storeB hT ho h0 h hN hx hk
   · exact stepU_sound hT h0 h hN hk
 · rename_i ty x lo hi mx ho;split at hk
   · rename_i d hd
     cases hk with
     | freeze e kk n g hr hk=>
       obtain⟨G',hle,hm⟩:=h.freeze hr;obtain⟨v,y,h1,h2,h3⟩:=evP_sound hT hm hk
       exact wp_value h1 ⟨_,h3,MG.fin (s:=s) (rs:= [(_,some (.fro kk n g))]) (us:= []) (h0:=h0) hm hN h2⟩
     |first hm hk=>subst hm;exact wp_prefix hT ho h0 h hN hd hk
     |look hm hk=>subst hm;rw[←hd]at hk;exact wp_sub hT ho h0 h hN hk
   · rename_i d kk lo0 n hd;split at hk
     · rw[←hd]at hk;exact wp_sub hT ho h0 h hN hk
     · exact hk.elim
   · exact stepU_sound hT h0 h hN hk
 · rename_i ty n ps ho;split at hk
   · rename_i p hp;split at hk
     · rename_i d hd;split at hk
       · rename_i e kk m g hr;obtain⟨G',hle,hm⟩:=h.freeze hr;refine Oper.wp_mono (fun a' w' hu=> ?_) (wp_buildSlice hT ho h0 hm hN (mt:=isMut C o.dst) (k:=fun u=>k ⟨u.dst,u.v,u.rs++ [(d,some (.fro kk m g))],u.us⟩) (by rw[hp];exact hk));obtain⟨u,h1,h2⟩:=hu;refine⟨_,h1,?_⟩
         have:(s.app ⟨u.dst,u.v,u.rs++ [(d,some (.fro kk m g))],u.us⟩)=((s.app ⟨none,.any,[(d,some (.fro kk m g))],[]⟩).app u):=by
          simp only[St.app,putT];congr 1
          · funext x
            simp only[putR_apply,lookR_append]
         rw[this];exact h2
       · exact hk.elim
     · rename_i l hl;split at hk
       · rename_i e kk bl hq;split at hk
         · rename_i d hd;split at hk
           · rename_i e' kk' m g hr;obtain⟨hb,hk⟩:=br_elim hk;simp only[Bool.and_eq_true]at hb;obtain rfl:e' =e:=Nat.eq_of_beq_eq_true hb.1;obtain rfl:kk' =kk:=Nat.eq_of_beq_eq_true hb.2;obtain⟨v,hv,hm⟩:=h.bunchPut hr hq;refine Oper.wp_mono (fun a' w' hu=> ?_) (wp_buildSlice' hT ho h0 hm hN (mt:=isMut C o.dst) (lv:=fun y=>opz d v (s.ev y)) (k:=fun u=>k ⟨u.dst,u.v,u.rs++ [(999999,some (.bunch e' kk' ((v,m,g)::bl))),(d,none)],u.us⟩) (fun y _=>opz_den hv (h.ev y.2)) (by rw[hp];simp only[List.map_cons,List.map_nil,hl];exact hk v));obtain⟨u,h1,h2⟩:=hu;refine⟨_,h1,?_⟩
             have:(s.app ⟨u.dst,u.v,u.rs++ [(999999,some (.bunch e' kk' ((v,m,g)::bl))),(d,none)],u.us⟩)=((s.app ⟨none,.any,[(999999,some (.bunch e' kk' ((v,m,g)::bl))),(d,none)],[]⟩).app u):=by
              simp only[St.app,putT];congr 1
              · funext x
                simp only[putR_apply,lookR_append]
             rw[this];exact h2
           · exact hk.elim
         · exact stepU_sound hT h0 h hN hk
       · exact stepU_sound hT h0 h hN hk
     · exact stepU_sound hT h0 h hN hk
   · exact stepU_sound hT h0 h hN hk
 · rename_i ty r ho;split at hk
   · split at hk
     · exact wp_makeMap ho h0 h hN hk
     · exact hk.elim
   · exact hk.elim
 · rename_i ty m x ok ho;exact wp_lookF hT ho h0 h hN hk
 · rename_i op ty x y yt ho;split at hk
   · rename_i hy;have hy':=h.ev y;rw[hy]at hy';obtain⟨v,z,h1,h2,h3⟩:=gives_nilCmp (x:=x) (y:=y) hT h.rs (h.ev x) hy' hk;exact wp_value (by simp only[execOp,ho];rw[Sem.run_bind,h1];rfl) ⟨_,h3,MG.fin (s:=s) (rs:= []) (us:= []) (h0:=h0) h hN h2⟩
   · exact stepU_sound hT h0 h hN hk
 · rename_i ty m key x ho;exact wp_mapUpdU hT ho h0 h hN hk
 · rename_i ty m key x ho;exact wp_mapUpdate hT (.inr ho) h0 h hN hk
 · rename_i src ty x ho;exact wp_bytes hT ho h0 h hN hk (fun hk=>stepU_sound hT h0 h hN hk)
 · rename_i ty m ho;exact wp_range hT ho h0 h hN hk
 · rename_i it isS ho;exact wp_next hT ho h0 h hN hk
 · rename_i it ho;obtain⟨v,y,h1,h2,h3⟩:=gives_entry (P:=P) h hk;exact wp_value (by simp[execOp,ho,h1]) ⟨_,h3,MG.fin (s:=s) (rs:= []) (us:= []) (h0:=h0) h hN h2⟩
 · rename_i ty m key ho;exact wp_mapEntry hT ho h0 h hN hk
 · rename_i ty m st x ho;exact wp_entryStore ho h0 h hN hk
 · rename_i c ho;split at hk
   · rename_i hc;split at hk
     · rename_i x ty ha hty;split at hk
       · rename_i d hx;split at hk
         · rename_i kt vt _ _ _ _ hty2;have ha:c.args=#[x]:=by apply Array.ext';simpa using ha
           have hty:c.argTypes=#[ty]:=by apply Array.ext';simpa using hty
           rw[←hx]at hk;obtain⟨v,y,h1,h2,h3⟩:=gives_lenMap (rt:=o.type) hT h (hT.get hty2).1 hk;exact wp_value (by simp[execOp,ho,resolve,hc,ha,hty,invoke,builtin,h1]) ⟨_,h3,MG.fin (s:=s) (rs:= []) (us:= []) (h0:=h0) h hN h2⟩
         · exact hk.elim
       · exact stepU_sound hT h0 h hN hk
     · exact hk.elim
   · rename_i hc;split at hk
     · rename_i x ty ha hty;exact wp_clear hT ho hc (by apply Array.ext';simpa using ha) (by apply Array.ext';simpa using hty) h0 h hN hk
     · exact hk.elim
   · rename_i hc;split at hk
     · rename_i x y ty ty2 ha hty;exact wp_delete hT ho hc (by apply Array.ext';simpa using ha) (by apply Array.ext';simpa using hty) h0 h hN hk
     · exact hk.elim
   · rename_i hc;split at hk
     · rename_i x y ty ty2 ha hty;split at hk
       · rename_i d hy;obtain⟨h2,hk⟩:=br_elim hk;rw[←hy]at hk;exact wp_appOwn hT ho hc (by apply Array.ext';simpa using ha) (by apply Array.ext';simpa using hty) (Nat.eq_of_beq_eq_true h2) h0 h hN hk
       · rename_i d kk lo n hy;obtain⟨h2,hk⟩:=br_elim hk;rw[←hy]at hk;exact wp_appOwn hT ho hc (by apply Array.ext';simpa using ha) (by apply Array.ext';simpa using hty) (Nat.eq_of_beq_eq_true h2) h0 h hN hk
       · rename_i bs hy;exact wp_appendS hT ho hc (by apply Array.ext';simpa using ha) (by apply Array.ext';simpa using hty) hy h0 h hN hk
       · exact stepU_sound hT h0 h hN hk
     · exact hk.elim
   · exact stepU_sound hT h0 h hN hk
 · exact stepU_sound hT h0 h hN hk
def opsx (P:Program)(T:Tab)(C:List Nat)(ops:List Oper):List Oper→(St→Prop)→St→Prop
 | [],k,s=>k s
 |o::r,k,s=>guardE s ops o.guard (fun s=>stepF P T C o s fun u=>forceU u fun u=>opsx P T C ops r k (s.app u)) (fun s=>forceO o.dst fun dst=>opsx P T C ops r k (s.app ⟨dst,.undef,[],[]⟩))
def opOk (N:Nat)(o:Oper):Bool:=match o.dst with|some d=>Nat.blt d N|none=>true
def codeOk (N:Nat):Code→Bool
 | .region _ ops _=>ops.toList.all (opOk N)
 | .seq a b=>codeOk N a&&codeOk N b
 | .cond _ a b=>codeOk N a&&codeOk N b
 | .block _ c=>codeOk N c
 | .loop c=>codeOk N c
 | .rangeFunc _ _ a b=>codeOk N a&&codeOk N b
 | .scope c=>codeOk N c
 |_=>true
theorem gsem_sound {A:Amb}{G:Hp}{β:Env}{s:St}{a:Act}{w:World}(h:MG A G β s a.tmps w){ops:Array Oper}{o:Oper}{b:Bool}(hk:gsem s ops.toList o.guard=some b):
 Region.wanted o (yielded ops a.tmps)=b:=by
 unfold gsem at hk;unfold Region.wanted;split at hk
 · rename_i hg;rw[hg];cases hk;rfl
 · rename_i j want hg;rw[hg];split at hk
   · rename_i oj r hj
     have hoj:ops[j]? =some oj:=by
      have:(ops.toList.drop j)[0]? =some oj:=by rw[hj];rfl
      rw[List.getElem?_drop,Nat.add_zero]at this;simpa using this
     split at hk
     · rename_i tt ht;have htd:=h.tm tt
       have hy:yielded ops a.tmps j=match a.tmps[tt]? with|some (.bool b)=>some b|_=>none:=by
        unfold yielded;simp only[hoj,Option.bind_some,ht];split
        · rename_i hb;rw[hb]
        · rename_i hb;split
          · rename_i b' hb';exact absurd hb' (hb b')
          · rfl
       split at hk
       · rename_i b hb;rw[hb]at htd
         have hv:a.tmps[tt]? =some (.bool b):=by
          rw[Array.getD_eq_getD_getElem?]at htd
          cases hq:a.tmps[tt]? with
          | none=>
            rw[hq]at htd;simp only[Option.getD_none]at htd
            cases htd with|d _ _ hd=>cases hd
          | some v=>
            rw[hq]at htd;simp only[Option.getD_some]at htd;cases htd with|d _ _ hd=>cases hd with|bool _=>rfl
         simp only[hy,hv];cases hk;cases b<;>cases want<;>rfl
       · rename_i hb;rw[hb]at htd;simp only[hy];rw[Array.getD_eq_getD_getElem?]at htd;cases hk
         cases hq:a.tmps[tt]? with
         |none=>rfl
         | some v=>
           rw[hq]at htd;simp only[Option.getD_some]at htd;cases htd;rfl
       · cases hk
     · rename_i ht;cases hk;simp[yielded,hoj,ht]
   · rename_i hj;cases hk
     have:ops[j]? =none:=by
      have:ops.toList.length≤j:=List.drop_eq_nil_iff.1 hj;simpa using this
     simp[yielded,this]
theorem opsx_sound {P:Program}{T:Tab}(hT:TabOk P T){C:List Nat}{A:Amb}{ops:Array Oper}{k:St→Prop}{Q:Exit→Act→World→Prop}(hQ:∀s a w,k s→Mod A s a w→Q .normal a w):
 ∀ (l:List Oper) {s:St} {a:Act} {w:World},(∀o ∈ l,opOk A.N o=true)→opsx P T C ops.toList l k s→Mod A s a w→wpList P ops Q l a w:=by
 intro l
 induction l with
 |nil=>intro s a w _ h hm;exact hQ _ _ _ h hm
 | cons o r ih=>
   intro s a w hN h hm
   have hN1:∀d,o.dst=some d→d<A.N:=by
    intro d hd;have:=hN o List.mem_cons_self;unfold opOk at this;rw[hd]at this;simpa [Nat.blt_eq]using this
   have hNr:∀o ∈ r,opOk A.N o=true:=fun o ho=>hN o (List.mem_cons_of_mem _ ho)
   obtain⟨h0,G,β,hg⟩:=hm;unfold opsx at h;unfold wpList;rcases guardE_gsem h with⟨h1,h2⟩|⟨h1,h2⟩
   · have h1:=gsem_sound hg h1;rw[if_pos h1];refine .inl (Oper.wp_mono (fun a' w' hu=> ?_) (stepF_sound hT h0 hg hN1 h2));obtain⟨u,hu1,hu2⟩:=hu;rw[forceU_eq]at hu1;exact ih hNr hu1 hu2
   · have h1:=gsem_sound hg h1;rw[if_neg (by simp[h1])];rw[forceO_eq]at h2;exact ih hNr h2 (MG.fin (s:=s) (rs:= []) (us:= []) (h0:=h0) hg hN1 .undef)
def Lift (A:Amb)(Q:Exit→St→Prop):Exit→Act→World→Prop:=fun e a w=>∃s,Q e s∧Mod A s a w
def WP (P:Program)(c:Code)(Q:Exit→St→Prop)(s:St):Prop:=
 ∀ (A:Amb) (a:Act) (w:World),codeOk A.N c=true→Mod A s a w→c.wp P (Lift A Q) a w
structure LoopX (P:Program)(c:Code)(Q:Exit→St→Prop)(s:St):Prop where
 wp:WP P (.loop c) Q s
def regQ (k:St→Prop)(e:Exit)(s:St):Prop:=match e with| .normal=>k s|_=>False
structure RegX (P:Program)(id:Nat)(ops:Array Oper)(k:St→Prop)(s:St):Prop where
 wp:WP P (.region id ops true) (regQ k) s
structure Entails (s s':St):Prop where
 imp:∀ (A:Amb) (a:Act) (w:World),Mod A s a w→Mod A s' a w
def thenx (k:St→Prop)(Q:Exit→St→Prop)(e:Exit)(s:St):Prop:=
 match e with
 | .normal=>k s
 |e=>Q e s
def blockx (id:Nat)(Q:Exit→St→Prop)(e:Exit)(s:St):Prop:=
 match e with
 | .exit i=>bif Nat.beq i id then Q .normal s else Q (.exit i) s
 |e=>Q e s
def wpx (P:Program)(T:Tab)(C:List Nat):Code→(Exit→St→Prop)→St→Prop
 | .skip,Q,s=>Q .normal s
 | .region id ops draw,Q,s=>match draw with
   |false=>opsx P T C ops.toList ops.toList (Q .normal) s
   |true=>RegX P id ops (Q .normal) s
 | .seq a b,Q,s=>wpx P T C a (thenx (wpx P T C b Q) Q) s
 | .cond c a b,Q,s=>match s.ev c with
   | .d (.bool t)=>br t (wpx P T C a Q s) (wpx P T C b Q s)
   |_=>False
 | .block id c,Q,s=>wpx P T C c (blockx id Q) s
 | .loop c,Q,s=>LoopX P c Q s
 | .exit id,Q,s=>Q (.exit id) s
 | .ret,Q,s=>Q .ret s
 |_,_,_=>False
theorem wpx_sound {P:Program}{T:Tab}(hT:TabOk P T){C:List Nat}:∀ (c:Code) (Q:Exit→St→Prop) (s:St),wpx P T C c Q s→WP P c Q s:=by
 intro c
 induction c with
 |skip=>intro Q s h A a w _ hm;exact wp_skip ⟨s,h,hm⟩
 | region id ops draw=>
   intro Q s h A a w hN hm
   cases draw with
   | false=>
     refine wp_region_list (opsx_sound hT (k:=Q .normal) (fun s a w hk hm=>⟨s,hk,hm⟩) ops.toList (List.all_eq_true.1 hN) h hm)
   | true=>
     refine wp_mono (h.wp A a w hN hm) ?_;rintro e a' w' ⟨s',hq,hm'⟩
     cases e<;>first|exact hq.elim|exact⟨s',hq,hm'⟩
 | seq x y ihx ihy=>
   intro Q s h A a w hN hm;simp only[codeOk,Bool.and_eq_true]at hN;refine wp_seq (wp_mono (ihx _ s h A a w hN.1 hm) ?_);rintro e a' w' ⟨s',hq,hm'⟩
   cases e with
   |normal=>exact ihy _ s' hq A a' w' hN.2 hm'
   |_=>exact⟨s',hq,hm'⟩
 | cond c x y ihx ihy=>
   intro Q s h A a w hN hm;simp only[codeOk,Bool.and_eq_true]at hN;unfold wpx at h;split at h
   · rename_i t ht;have hd:=hm.2;obtain⟨G,β,hg⟩:=hd;have hc:=hg.ev c;rw[ht]at hc;generalize hcv:a.eval c=cv at hc
     cases hc with|d _ _ hc=>cases hc with|bool _=>
     unfold br at h;split at h
     · exact wp_cond_true hcv (ihx _ s h A a w hN.1 hm)
     · exact wp_cond_false hcv (ihy _ s h A a w hN.2 hm)
   · exact h.elim
 | block id c ih=>
   intro Q s h A a w hN hm;refine wp_block (wp_mono (ih _ s h A a w hN hm) ?_);rintro e a' w' ⟨s',hq,hm'⟩
   cases e with
   | exit i=>
     simp only[Exit.inBlock];simp only[blockx]at hq
     by_cases hi:i=id
     · subst hi;simp only[if_true];exact⟨s',by simpa using hq,hm'⟩
     · rw[nbeq_ne hi]at hq;rw[if_neg hi]
       exact⟨s',hq,hm'⟩
   |_=>exact⟨s',hq,hm'⟩
 |loop c ih=>intro Q s h A a w hN hm;exact h.wp A a w hN hm
 |exit id=>intro Q s h A a w _ hm;exact wp_exit ⟨s,h,hm⟩
 |ret=>intro Q s h A a w _ hm;exact wp_ret ⟨s,h,hm⟩
 |_=>intro Q s h;exact h.elim
theorem LoopX.rule {P:Program}{T:Tab}(hT:TabOk P T){C:List Nat}{c:Code}{Q:Exit→St→Prop}{s:St}{ι:Type}(pre:ι→Prop)(σ:ι→St)(μ:ι→Nat)(i0:ι)(h0:pre i0)(he:Entails s (σ i0))
 (hround:∀i,pre i→wpx P T C c (thenx (fun s' =>∃j,pre j∧μ j<μ i∧Entails s' (σ j)) Q) (σ i)):LoopX P c Q s:=by
 refine⟨fun A a w hN hm=> ?_⟩;refine wp_loop_ghost (fun n a w=>∃i,pre i∧μ i=n∧Mod A (σ i) a w) (μ i0) ⟨i0,h0,rfl,he.imp A a w hm⟩ ?_;rintro n a w ⟨i,hi,rfl,hmi⟩;refine wp_mono (wpx_sound hT c _ (σ i) (hround i hi) A a w hN hmi) ?_;rintro e a' w' ⟨s',hq,hm'⟩
 cases e with
 | normal=>
   obtain⟨j,hj,hlt,hen⟩:=hq
   exact⟨μ j,hlt,j,hj,rfl,hen.imp A a' w' hm'⟩
 |_=>exact⟨s',hq,hm'⟩
theorem exitTo_length {id:Nat}:∀ {k k':List Item},exitTo id k=some k'→k'.length<k.length:=by
 intro k
 induction k with
 |nil=>intro k' h;cases h
 | cons x k ih=>
   intro k' h
   cases x<;>simp only[exitTo]at h<;>first
    |(have:=ih h;simp;omega)
    | (split at h
       · cases h;simp
       · have:=ih h;simp;omega)
theorem Steps.past {P:Program}{m m1 m':Machine}(h:Steps P m m')(hs:step P m= .next m1)(hne:m≠m'):Steps P m1 m':=by
 obtain⟨n,hn⟩:=h
 cases n with
 |zero=>simp[runN]at hn;exact absurd hn hne
 | succ n=>
   simp only[runN,hs]at hn;exact⟨n,hn⟩
theorem lone_todo {b:Frame}{a a':Act}{k k':List Item}{cs:List Frame}{w w':World}(h:lone (b.at a k) cs w=lone (b.at a' k') cs w'):k=k':=by
 simp only[lone,Machine.mk.injEq]at h;have:=h.2.1;simp[Frame.at]at this;exact this.2.1
theorem lone_mode {b:Frame}{a a':Act}{k k':List Item}{cs:List Frame}{w w':World}{md:FrameMode}(h:lone (b.at a k) cs w=lone {b.at a' k' with mode:=md} cs w'):md= .run:=by
 simp only[lone,Machine.mk.injEq]at h;have:=h.2.1;simp[Frame.at]at this;exact this.2.2.2.symm
theorem LoopX.unroll {P:Program}{T:Tab}(hT:TabOk P T){C:List Nat}{c:Code}{Q:Exit→St→Prop}{s:St}(hg:∀l s,¬Q (.goto l) s)(hu:∀s,¬Q .outgrown s)
 (h:wpx P T C c (thenx (fun s' =>LoopX P c Q s') Q) s):LoopX P c Q s:=by
 refine⟨fun A a w hN hm b k cs=> ?_⟩;obtain⟨e,a₁,w₁,hq,harr⟩:=wpx_sound hT c _ s h A a w hN hm b (.inLoop c::k) cs;obtain⟨s',hq,hm'⟩:=hq
 cases e with
 | normal=>
   obtain⟨e₂,a₂,w₂,hq₂,harr₂⟩:=hq.wp A a₁ w₁ hN hm' b k cs;have h1:Steps P (lone (b.at a (.code (.loop c)::k)) cs w) (lone (b.at a₁ (.code c:: .inLoop c::k)) cs w₁):=.head step_loop (Steps.trans harr (.one step_inLoop));have hst:step P (lone (b.at a₁ (.code (.loop c)::k)) cs w₁)= .next (lone (b.at a₁ (.code c:: .inLoop c::k)) cs w₁):=step_loop;refine⟨e₂,a₂,w₂,hq₂,?_⟩
   cases e₂ with
   |normal=>exact h1.trans (Steps.past harr₂ hst (fun e=>by have:=congrArg List.length (lone_todo e);simp at this))
   | exit id=>
     intro k' hk
     exact h1.trans (Steps.past (harr₂ k' hk) hst (fun e=>by
      have h2:=congrArg List.length (lone_todo e);have:=exitTo_length hk
      simp at h2;omega))
   |goto l=>obtain⟨s2,hq2,_⟩:=hq₂;exact absurd hq2 (hg l s2)
   | ret=>
     obtain⟨todo,hs⟩:=harr₂
     exact⟨todo,h1.trans (Steps.past hs hst (fun e=>by cases lone_mode e))⟩
   | panic ch=>
     obtain⟨todo,hs⟩:=harr₂
     exact⟨todo,h1.trans (Steps.past hs hst (fun e=>by cases lone_mode e))⟩
   |outgrown=>obtain⟨s2,hq2,_⟩:=hq₂;exact absurd hq2 (hu s2)
 |exit id=>exact⟨_,a₁,w₁,⟨s',hq,hm'⟩,.of_steps (.one step_loop) (.pass (x:=.inLoop c) rfl (fun _ _=>.inl (by simp)) harr)⟩
 |goto l=>exact⟨_,a₁,w₁,⟨s',hq,hm'⟩,.of_steps (.one step_loop) (.pass (x:=.inLoop c) rfl (fun _ _=>.inl (by simp)) harr)⟩
 |ret=>exact⟨_,a₁,w₁,⟨s',hq,hm'⟩,.of_steps (.one step_loop) (.pass (x:=.inLoop c) rfl (fun _ _=>.inl (by simp)) harr)⟩
 |panic ch=>exact⟨_,a₁,w₁,⟨s',hq,hm'⟩,.of_steps (.one step_loop) (.pass (x:=.inLoop c) rfl (fun _ _=>.inl (by simp)) harr)⟩
 |outgrown=>exact⟨_,a₁,w₁,⟨s',hq,hm'⟩,.of_steps (.one step_loop) (.pass (x:=.inLoop c) rfl (fun _ _=>.inl (by simp)) harr)⟩
def nthS:List SV→Nat→SV
 | [],_=>.undef
 |x::_,0=>x
 |_::l,n+1=>nthS l n
theorem nthS_get:∀ (l:List SV) (i:Nat),nthS l i=(l[i]?).getD .undef:=by
 intro l
 induction l with
 |nil=>intro i;simp[nthS]
 |cons x l ih=>intro i;cases i<;>simp[nthS,ih]
def initSt (args:List SV)(rin:List (Nat×Res)):St:=⟨nthS args,lookL rin,fun d=>(lookL rin d).isSome⟩
def outOk (s:St):List (Nat×Res)→Prop
 | []=>True
 |(d,r)::l=>(match s.res d with|some r0=>Res.le r0 r|none=>False)∧outOk s l
theorem outOk_get {s:St}:∀ {l:List (Nat×Res)} {d:Nat} {r:Res},outOk s l→lookL l d=some r→∃r0,s.res d=some r0∧Res.le r0 r:=by
 intro l
 induction l with
 |nil=>intro d r _ h;cases h
 | cons p l ih=>
   obtain⟨e,r'⟩:=p;intro d r ho h;obtain⟨h1,h2⟩:=ho;simp only[lookL]at h
   by_cases he:d=e
   · subst he;simp at h;subst h;split at h1
     · rename_i r0 hr;exact⟨r0,hr,h1⟩
     · exact h1.elim
   · rw[nbeq_ne he]at h;exact ih h2 h
def resL (T:Tab)(s:St):List ResultVar→(List SV→Prop)→Prop
 | [],k=>k []
 | .tmp t::r,k=>resL T s r fun l=>k (s.look t::l)
 | .cell a t::r,k=>loadE T s t (s.look a) fun x=>resL T s r fun l=>k (x::l)
def resE (T:Tab)(rs:List ResultVar)(s:St)(k:SV→Prop):Prop:=
 resL T s rs fun l=>match l with
  | [x]=>k x
  |l=>k (.tup l)
inductive RetX (T:Tab) (rs:List ResultVar) (post:SV→List (Nat×Res)→Prop):St→Prop
 |ret (s:St) (h:resE T rs s fun x=>∃rout,post x rout∧outOk s rout):RetX T rs post s
 |weak (s:St) (h:resE T rs s fun x=>∃y rout,SV.le x y∧post y rout∧outOk s rout):RetX T rs post s
 |freeze (s:St) (d e kk n:Nat) (g:Nat→List DV) (hd:s.res d=some (.buf e kk n g)) (h:RetX T rs post (s.app ⟨none,.any,[(d,some (.fro kk n g))],[]⟩)):RetX T rs post s
 |ent (s s':St) (he:Entails s s') (h:RetX T rs post s'):RetX T rs post s
def RetQ (T:Tab)(rs:List ResultVar)(post:SV→List (Nat×Res)→Prop)(e:Exit)(s:St):Prop:=
 match e with
 | .ret=>RetX T rs post s
 | .normal=>RetX T rs post s
 |_=>False
def resF (tmps:Array Value):ResultVar→Sem Value
 | .tmp t=>pure (tmps.getD t Go.undef)
 | .cell b t=>do loadVar t (←asAddr (tmps.getD b Go.undef))
theorem results_eq (fn:Func)(tmps:Array Value):results fn tmps=(do let vs←fn.results.mapM (resF tmps);pure (if h:vs.size=1 then vs[0]else .tuple vs)):=by
 unfold results;congr 1
theorem resL_sound {P:Program}{T:Tab}(hT:TabOk P T){A:Amb}{G:Hp}{β:Env}{s:St}{a:Act}{w:World}(h:MG A G β s a.tmps w):∀ (rs:List ResultVar) (k:List SV→Prop),resL T s rs k→
 ∃ vs l,((rs.mapM (resF a.tmps):Sem (List Value))).run P w= .ok vs w∧vs.length=l.length∧
  (∀ (i:Nat) x v,l[i]? =some x→vs[i]? =some v→SV.Den G β x v)∧k l:=by
 intro rs
 induction rs with
 |nil=>intro k hk;exact⟨[],[],rfl,rfl,by simp,hk⟩
 | cons r rs ih=>
   intro k hk
   cases r with
   | tmp t=>
     obtain⟨vs,l,h1,h2,h3,h4⟩:=ih _ hk;refine⟨a.tmps.getD t Go.undef::vs,s.look t::l,?_,by simp[h2],fun i x v hx hv=> ?_,h4⟩
     · rw[List.mapM_cons,Sem.run_bind];simp only[resF,Sem.run_pure,Result.andThen_ok,Sem.run_bind];rw[h1];rfl
     · cases i with
       | zero=>
         have hx:some (s.look t)=some x:=hx;have hv:some (a.tmps.getD t Go.undef)=some v:=hv
         cases hx;cases hv;exact h.ev (.tmp t)
       |succ i=>exact h3 i x v (by simpa using hx) (by simpa using hv)
   | cell b t=>
     have hb:=h.ev (.tmp b);obtain⟨v0,x0,g1,g2,g3⟩:=gives_load hT h hb hk;obtain⟨vs,l,h1,h2,h3,h4⟩:=ih _ g3;refine⟨v0::vs,x0::l,?_,by simp[h2],fun i x v hx hv=> ?_,h4⟩
     · rw [List.mapM_cons,Sem.run_bind]
       have e:(resF a.tmps (.cell b t)).run P w= .ok v0 w:=by
        show(do loadVar t (←asAddr (a.tmps.getD b Go.undef)):Sem Value).run P w=_;have e1:a.eval (.tmp b)=a.tmps.getD b Go.undef:=rfl;rw[e1]at g1;generalize hq:a.tmps.getD b Go.undef=q at g1 ⊢;unfold Instr.loadAt at g1
        cases q with
        | pointer p=>cases p with
          |none=>simp[Instr.sureAddr]at g1
          |some p=>simpa [Instr.sureAddr,asAddr]using g1
        |_=>simp[Instr.sureAddr]at g1
       rw[e];simp only[Result.andThen_ok,Sem.run_bind];rw[h1];rfl
     · cases i with
       |zero=>simp at hx hv;subst hx;subst hv;exact g2
       |succ i=>exact h3 i x v (by simpa using hx) (by simpa using hv)
theorem resE_sound {P:Program}{T:Tab}(hT:TabOk P T){A:Amb}{G:Hp}{β:Env}{s:St}{a:Act}{w:World}(h:MG A G β s a.tmps w){fn:Func}{k:SV→Prop}(hk:resE T fn.results.toList s k):
 ∃v x,(results fn a.tmps).run P w= .ok v w∧SV.Den G β x v∧k x:=by
 obtain⟨vs,l,h1,h2,h3,h4⟩:=resL_sound hT h _ _ hk
 have hrun:(results fn a.tmps).run P w= .ok (if h:vs.length=1 then vs[0]else .tuple vs.toArray) w:=by
  rw[results_eq,Array.mapM_eq_mapM_toList];simp only[Sem.run_bind,Sem.run_map];rw[h1];simp only[Result.andThen_ok,Sem.run_pure,List.size_toArray,List.getElem_toArray]
 rcases l with _|⟨x,_|⟨y,l⟩⟩
 · rcases vs with _|⟨v,vs⟩
   · exact⟨_,_,hrun,.tup [] [] rfl (by simp),h4⟩
   · simp at h2
 · rcases vs with _|⟨v,_|⟨u,vs⟩⟩
   · simp at h2
   · exact⟨_,_,hrun,h3 0 x v rfl rfl,h4⟩
   · simp at h2
 · rcases vs with _|⟨v,_|⟨u,vs⟩⟩
   · simp at h2
   · simp at h2
   · exact⟨_,_,hrun,.tup _ (v::u::vs) h2 h3,h4⟩
def rinOk:List (Nat×Res)→Bool
 | []=>true
 |(d,_)::l=>Nat.ble 1000000 d&&rinOk l
theorem rinOk_get:∀ {l:List (Nat×Res)} {d:Nat} {r:Res},rinOk l=true→lookL l d=some r→Nat.ble 1000000 d=true:=by
 intro l
 induction l with
 |nil=>intro d r _ h;cases h
 | cons p l ih=>
   obtain⟨e,r'⟩:=p;intro d r ho h;simp only[rinOk,Bool.and_eq_true]at ho;simp only[lookL]at h
   by_cases he:d=e
   · subst he;exact ho.1
   · rw[nbeq_ne he]at h;exact ih ho.2 h
theorem spec_of {P:Program}{T:Tab}(hT:TabOk P T){C:List Nat}{f:FuncId}{fn:Func}{body:Code}{args:List SV}{rin:List (Nat×Res)}{post:SV→List (Nat×Res)→Prop}
 (hf:P.funcs[f]? =some fn)(hb:fn.body=some body)(henter:∀args w,(callFunc f args).run P w= .ok (.enter f args) w)(hok:codeOk fn.ntmps body=true)(hn:Nat.ble args.length fn.ntmps=true)(hrin:rinOk rin=true)
 (h:wpx P T C body (RetQ T fn.results.toList post) (initSt args rin)):FSpec P f args rin post:=by
 refine⟨henter,fun G β w vs hpre hvl hvd=> ?_⟩;have hn:args.length≤fn.ntmps:=Nat.le_of_ble_eq_true hn
 let A:Amb:=⟨w,Tin w β (lookL rin),G,fn.ntmps,β,fun d v e=>by obtain⟨r,hr⟩:=hpre.sc d v e;exact rinOk_get hrin hr⟩
 have hm :MG A G β (initSt args rin) (vs.toArray++Array.replicate (fn.ntmps - vs.toArray.size) Go.undef) w:=by
  refine⟨by simp[A];omega,Hp.le_refl G,Env.le_refl β,hpre.gw,fun b o e=>.inl e,Keep.refl w _,fun i=> ?_,hpre.rs,hpre.dj,fun d r v b h1 h2 h3 h4=>⟨hpre.og d r v b h1 h2 h3 h4,.inl ⟨d,r,v,h1,h2,h3,h4⟩⟩,fun d v hv=> ?_⟩
  · simp only[initSt,nthS_get];rcases Nat.lt_or_ge i args.length with q|q
    · have hx:args[i]? =some args[i]:=List.getElem?_eq_getElem q;have hv:vs[i]? =some (vs[i]'(by omega)):=List.getElem?_eq_getElem (by omega);rw[hx];simp only[Option.getD_some,Array.getD_eq_getD_getElem?];rw[Array.getElem?_append_left (by simp;omega)];simp only[List.getElem?_toArray,hv,Option.getD_some];exact hvd i _ _ hx hv
    · rw[List.getElem?_eq_none q];simp only[Option.getD_none,Array.getD_eq_getD_getElem?];rw[Array.getElem?_append_right (by simp;omega)]
      have:((Array.replicate (fn.ntmps - vs.toArray.size) Go.undef)[i - vs.toArray.size]?).getD Go.undef=Go.undef:=by
       rw[Array.getElem?_replicate];split<;>rfl
      rw[this];exact .undef
  · obtain⟨r,hr⟩:=hpre.sc d v hv;simp[initSt,hr]
 refine calls_of_wp hf hb (wp_mono (wpx_sound hT body _ _ h A ⟨_,[]⟩ w hok ⟨rfl,G,β,hm⟩) ?_);rintro e a' w' ⟨s',hq,h0,hmm⟩
 have key:∀s',RetX T fn.results.toList post s'→(∃G β,MG A G β s' a'.tmps w')→∃v,(results fn a'.tmps).run P w' = .ok v w'∧∃v' x rout G' β',Ending.returned v= .returned v'∧post x rout∧Out G β w (lookL rin) G' β' w' (lookL rout)∧SV.Den G' β' x v':=by
  intro s' hr
  induction hr with
  | ret s hres=>
    rintro⟨G',β',hg⟩;obtain⟨v,x,r1,r2,rout,r3,r4⟩:=resE_sound hT hg hres;refine⟨v,r1,v,x,rout,G',β',rfl,r3,⟨hg.g0,hg.e0,hg.gw,hg.gn,hg.keep,fun d r hd=> ?_,fun d d' r r' v v' b e1 e2 o1 o2 f1 f2 b1 b2=> ?_,fun d r v b e1 o1 f1 b1=> ?_⟩,r2⟩
    · obtain⟨r0,q1,q2⟩:=outOk_get r4 hd;exact q2.2 _ _ _ _ (hg.rs d r0 q1)
    · obtain⟨r0,q1,q2⟩:=outOk_get r4 e1;obtain⟨r0',q1',q2'⟩:=outOk_get r4 e2;exact hg.dj d d' r0 r0' v v' b q1 q1' (q2.own'.trans o1) (q2'.own'.trans o2) f1 f2 (b1.to q2.isR'.symm) (b2.to q2'.isR'.symm)
    · obtain⟨r0,q1,q2⟩:=outOk_get r4 e1
      exact hg.og d r0 v b q1 (q2.own'.trans o1) f1 (b1.to q2.isR'.symm)
  | weak s hres=>
    rintro⟨G',β',hg⟩;obtain⟨v,x,r1,r2,y,rout,r5,r3,r4⟩:=resE_sound hT hg hres;refine⟨v,r1,v,y,rout,G',β',rfl,r3,⟨hg.g0,hg.e0,hg.gw,hg.gn,hg.keep,fun d r hd=> ?_,fun d d' r r' v v' b e1 e2 o1 o2 f1 f2 b1 b2=> ?_,fun d r v b e1 o1 f1 b1=> ?_⟩,r5 _ _ _ r2⟩
    · obtain⟨r0,q1,q2⟩:=outOk_get r4 hd;exact q2.2 _ _ _ _ (hg.rs d r0 q1)
    · obtain⟨r0,q1,q2⟩:=outOk_get r4 e1;obtain⟨r0',q1',q2'⟩:=outOk_get r4 e2;exact hg.dj d d' r0 r0' v v' b q1 q1' (q2.own'.trans o1) (q2'.own'.trans o2) f1 f2 (b1.to q2.isR'.symm) (b2.to q2'.isR'.symm)
    · obtain⟨r0,q1,q2⟩:=outOk_get r4 e1
      exact hg.og d r0 v b q1 (q2.own'.trans o1) f1 (b1.to q2.isR'.symm)
  | freeze s d e kk n g hd _ ih=>
    rintro⟨G',β',hg⟩;obtain⟨G2,_,hg2⟩:=hg.freeze hd
    exact ih ⟨G2,β',hg2⟩
  | ent s s' he _ ih=>
    rintro⟨G',β',hg⟩;exact ih (he.imp _ _ _ ⟨h0,G',β',hg⟩).2
 cases e with
 |normal=>obtain⟨v,k1,k2⟩:=key _ hq hmm;exact⟨h0,v,k1,k2⟩
 |ret=>obtain⟨v,k1,k2⟩:=key _ hq hmm;exact⟨h0,v,k1,k2⟩
 |_=>exact hq.elim
end Go.Eng
namespace Go.Eng
open Go
def Single (F:(SV→Prop)→Prop):Prop:=∀k,F k→∃v,k v∧∀k',k' v→F k'
theorem single_k (v:SV):Single fun k=>k v:=fun _ h=>⟨v,h,fun _ h' =>h'⟩
theorem br_single {b:Bool}{F G:(SV→Prop)→Prop}(hF:Single F)(hG:Single G):Single fun k=>br b (F k) (G k):=by
 intro k h;cases b
 · exact hG k h
 · exact hF k h
theorem false_single:Single fun _=>False:=fun _ h=>h.elim
theorem and_single {c:Prop}{F:(SV→Prop)→Prop}(hF:Single F):Single fun k=>c∧F k:=by
 rintro k ⟨h1,h2⟩;obtain⟨v,h3,h4⟩:=hF k h2;exact⟨v,h3,fun k' h' =>⟨h1,h4 k' h'⟩⟩
theorem arR_single (ka:IntKind)(n:Int):Single (arR ka n):=by
 intro k h;cases ka<;>simp only[arR]at h ⊢<;>first|exact⟨_,h,fun _ h' =>h'⟩|exact⟨_,h.2,fun _ h' =>⟨h.1,h'⟩⟩
theorem binI_single (op:BinOp)(ka:IntKind)(a b:Int):Single (binI op ka a b):=by
 intro k h
 cases op<;>simp only[binI]at h ⊢<;>first
  |exact h.elim
  |exact⟨_,h,fun _ h' =>h'⟩
  |exact arR_single ka _ k h
  |exact⟨_,h.2,fun _ h' =>⟨h.1,h'⟩⟩
  |(obtain⟨v,h3,h4⟩:=arR_single ka _ k h.2;exact⟨v,h3,fun k' h' =>⟨h.1,h4 k' h'⟩⟩)
theorem binS_single (op:BinOp)(a b:List UInt8):Single (binS op a b):=by
 intro k h
 cases op<;>simp only[binS]at h ⊢<;>first
  |exact h.elim
  |exact⟨_,h,fun _ h' =>h'⟩
  |exact⟨_,h.2,fun _ h' =>⟨h.1,h'⟩⟩
theorem binE_single (T:Tab)(op:BinOp)(t:TypeId)(x y:SV):Single (binE T op t x y):=by
 intro k h;unfold binE at h ⊢;split at h
 · exact br_single (binI_single _ _ _ _) false_single k h
 · exact binS_single _ _ _ k h
 · split at h
   · exact⟨_,h,fun _ h' =>h'⟩
   · exact⟨_,h,fun _ h' =>h'⟩
   · exact h.elim
 · split at h
   · rename_i ok _
     cases ok with
     |false=>exact h.elim
     | true=>
       simp only[br]at h ⊢;split at h
       · exact⟨_,h,fun _ h' =>h'⟩
       · exact⟨_,h,fun _ h' =>h'⟩
       · exact h.elim
   · exact h.elim
 · exact h.elim
theorem pickL_single (s:St)(agg:Bool)(size:Nat)(l:List SV):Single (pickL s agg size l):=by
 intro k h;unfold pickL at h ⊢;split at h
 · exact br_single (single_k _) false_single k h
 · split at h
   · exact⟨_,h,fun _ h' =>h'⟩
   · exact h.elim
theorem loadE_single (T:Tab)(s:St)(ty:TypeId)(x:SV):Single (loadE T s ty x):=by
 intro k h;unfold loadE at h ⊢;split at h
 · exact h.elim
 · split at h
   · split at h
     · exact pickL_single _ _ _ _ k h
     · exact h.elim
   · exact pickL_single _ _ _ _ k h
   · split at h
     · exact br_single (and_single (pickL_single _ _ _ _)) false_single k h
     · exact h.elim
   · exact h.elim
theorem fieldAddrE_single (T:Tab)(ty:TypeId)(x:SV)(f:Nat):Single (fieldAddrE T ty x f):=by
 intro k h;unfold fieldAddrE at h ⊢;split at h
 · exact h.elim
 · rename_i off ti hf
   cases hz:Nat.beq ti.size 0 with
   |true=>rw[hz]at h;exact h.elim
   | false=>
     rw[hz]at h;try rw[hz]
     simp only[br]at h ⊢;split at h<;>first|exact h.elim|exact⟨_,h,fun _ h' =>h'⟩
theorem fieldE_single (T:Tab)(s:St)(ty:TypeId)(x:SV)(f:Nat):Single (fieldE T s ty x f):=by
 intro k h;unfold fieldE at h ⊢;split at h
 · exact h.elim
 · split at h
   · exact pickL_single _ _ _ _ k h
   · exact h.elim
theorem indexAddrE_single (T:Tab)(s:St)(ty:TypeId)(x i:SV):Single (indexAddrE T s ty x i):=by
 intro k h;unfold indexAddrE at h ⊢;split at h
 · split at h
   · split at h
     · exact br_single (and_single (single_k _)) false_single k h
     · split at h
       · exact br_single (and_single (single_k _)) false_single k h
       · exact br_single (and_single (single_k _)) false_single k h
       · exact h.elim
     · exact br_single (and_single (single_k _)) false_single k h
     · exact h.elim
   · exact h.elim
 · split at h
   · split at h
     · exact and_single (single_k _) k h
     · exact and_single (single_k _) k h
     · exact h.elim
   · exact h.elim
 · exact h.elim
theorem indexE_single (T:Tab)(ty:TypeId)(x i:SV):Single (indexE T ty x i):=by
 intro k h;unfold indexE at h ⊢;split at h
 · split at h
   · exact and_single (single_k _) k h
   · exact h.elim
 · split at h
   · split at h
     · exact br_single (and_single (single_k _)) false_single k h
     · exact h.elim
   · exact h.elim
 · exact h.elim
theorem bndE_single {x:Option SV}{d:Int}{F:Int→(SV→Prop)→Prop}(hF:∀j,Single (F j)):Single fun k=>bndE x d fun j=>F j k:=by
 intro k h;unfold bndE at h ⊢;split at h
 · exact hF _ k h
 · exact hF _ k h
 · exact h.elim
theorem sliceE_single (T:Tab)(ty:TypeId)(x:SV)(lo hi mx:Option SV):Single (sliceE T ty x lo hi mx):=by
 intro k h;unfold sliceE at h ⊢;split at h
 · split at h
   · rename_i l;exact bndE_single (F:=fun h k=>bndE lo 0 fun j=>(0≤j∧j≤h∧h≤l.length)∧k (.d (.str ((l.drop j.toNat).take (h - j).toNat)))) (fun h=>bndE_single (F:=fun j k=>(0≤j∧j≤h∧h≤l.length)∧k (.d (.str ((l.drop j.toNat).take (h - j).toNat)))) (fun j=>and_single (single_k _))) k h
   · exact h.elim
 · split at h
   · split at h
     · rename_i kk n get;exact br_single (bndE_single (F:=fun h k=>bndE lo 0 fun j=>(0≤j∧j≤h∧h≤n)∧k (.d (.ro kk (h - j).toNat fun i=>get (j.toNat+i)))) (fun h=>bndE_single (F:=fun j k=>(0≤j∧j≤h∧h≤n)∧k (.d (.ro kk (h - j).toNat fun i=>get (j.toNat+i)))) (fun j=>and_single (single_k _)))) false_single k h
     · exact bndE_single (F:=fun h k=>bndE lo 0 fun j=>(j=0∧h=0)∧k (.d .nilsl)) (fun h=>bndE_single (F:=fun j k=>(j=0∧h=0)∧k (.d .nilsl)) (fun j=>and_single (single_k _))) k h
     · exact h.elim
   · exact h.elim
 · exact h.elim
theorem lenE_single (T:Tab)(s:St)(ty:TypeId)(x:SV):Single (lenE T s ty x):=by
 intro k h;unfold lenE at h ⊢;split at h
 · split at h
   · exact⟨_,h,fun _ h' =>h'⟩
   · exact h.elim
 · split at h
   · exact⟨_,h,fun _ h' =>h'⟩
   · exact⟨_,h,fun _ h' =>h'⟩
   · split at h
     · exact⟨_,h,fun _ h' =>h'⟩
     · exact h.elim
   · exact⟨_,h,fun _ h' =>h'⟩
   · exact h.elim
 · split at h
   · split at h
     · exact⟨_,h,fun _ h' =>h'⟩
     · exact h.elim
   · exact h.elim
 · exact h.elim
theorem unE_single (op:UnOp)(x:SV):Single (unE op x):=by
 intro k h;unfold unE at h ⊢;split at h
 · exact⟨_,h,fun _ h' =>h'⟩
 · exact arR_single _ _ k h
 · exact h.elim
theorem convE_single (T:Tab)(a b:TypeId)(x:SV):Single (convE T a b x):=by
 intro k h;unfold convE at h ⊢;split at h
 · split at h
   · exact arR_single _ _ k h
   · exact h.elim
 · split at h
   · exact⟨_,h,fun _ h' =>h'⟩
   · exact h.elim
 · split at h
   · exact⟨_,h,fun _ h' =>h'⟩
   · exact h.elim
 · exact h.elim
theorem extractE_single (s:St)(x:SV)(i:Nat):Single (extractE s x i):=by
 intro k h;unfold extractE at h ⊢;split at h
 · split at h
   · exact⟨_,h,fun _ h' =>h'⟩
   · exact h.elim
 · exact h.elim
theorem mmE_single (mx:Bool)(x y:SV):Single (mmE mx x y):=by
 intro k h;unfold mmE at h ⊢;split at h
 · exact br_single (single_k _) false_single k h
 · exact h.elim
theorem mm4E_single (mx:Bool)(x y z u:SV):Single (mm4E mx x y z u):=by
 intro k h;unfold mm4E at h ⊢;split at h
 · exact⟨_,h,fun _ h' =>h'⟩
 · exact h.elim
theorem buildE_single (T:Tab)(ty:TypeId)(ps:List (Nat×SV)):Single (buildE T ty ps):=by
 intro k h;unfold buildE at h ⊢;split at h
 · rename_i fs _ _ z _ _
   cases ht:typesIn T fs.toList with
   |false=>rw[ht]at h;exact h.elim
   | true=>
     rw[ht]at h;try rw[ht]
     simp only[br]at h ⊢;split at h
     · split at h
       · exact⟨_,h,fun _ h' =>h'⟩
       · exact h.elim
     · exact h.elim
 · split at h
   · split at h
     · exact⟨_,h,fun _ h' =>h'⟩
     · exact h.elim
   · exact h.elim
 · exact h.elim
theorem nilE_single (x:SV):Single (nilE x):=by
 intro k h;unfold nilE at h ⊢;split at h
 · exact⟨_,h,fun _ h' =>h'⟩
 · exact⟨_,h,fun _ h' =>h'⟩
 · exact⟨_,h,fun _ h' =>h'⟩
 · exact⟨_,h,fun _ h' =>h'⟩
 · exact⟨_,h,fun _ h' =>h'⟩
 · exact h.elim
theorem ifcE_single (T:Tab)(ty:TypeId)(x:SV):Single (ifcE T ty x):=by
 have hX:Single (ifcX ty x):=by
  intro k h;unfold ifcX at h ⊢;split at h
  · exact⟨_,h,fun _ h' =>h'⟩
  · exact h.elim
 intro k h;unfold ifcE at h ⊢;split at h
 · exact br_single false_single hX k h
 · exact h.elim
theorem assertE_single (T:Tab)(x:SV)(ty:TypeId)(ok:Bool):Single (assertE T x ty ok):=by
 have hY:∀y,Single (assY y ok):=by
  intro y k h;unfold assY at h ⊢;split at h
  · exact⟨_,h,fun _ h' =>h'⟩
  · exact⟨_,h,fun _ h' =>h'⟩
 have hZ:∀z,Single (assZ z ok):=by
  intro z k h;unfold assZ at h ⊢;split at h
  · exact⟨_,h,fun _ h' =>h'⟩
  · exact h.elim
 have hX:∀z,Single (assX z ty ok x):=by
  intro z k h;unfold assX at h ⊢;split at h
  · exact br_single (hY _) (hZ _) k h
  · exact h.elim
 intro k h;unfold assertE at h ⊢;split at h
 · exact br_single false_single (hX _) k h
 · exact h.elim
theorem nilIE_single (T:Tab)(op:BinOp)(t:TypeId)(x:SV):Single (nilIE T op t x):=by
 intro k h;unfold nilIE at h ⊢;split at h
 · split at h
   · split at h<;>first|exact⟨_,h,fun _ h' =>h'⟩|exact h.elim
   · split at h<;>first|exact⟨_,h,fun _ h' =>h'⟩|exact h.elim
   · exact h.elim
 · exact h.elim
theorem evP_single (T:Tab)(o:Oper)(s:St):Single (evP T o s):=by
 intro k h;unfold evP at h ⊢;split at h
 · exact⟨_,h,fun _ h' =>h'⟩
 · exact⟨_,h,fun _ h' =>h'⟩
 · split at h
   · exact br_single (single_k _) (single_k _) k h
   · exact h.elim
 · exact buildE_single _ _ _ k h
 · exact loadE_single _ _ _ _ k h
 · exact nilE_single _ k h
 · split at h
   · exact nilIE_single _ _ _ _ k h
   · exact binE_single _ _ _ _ _ k h
 · exact ifcE_single _ _ _ k h
 · exact assertE_single _ _ _ _ k h
 · exact unE_single _ _ k h
 · exact convE_single _ _ _ _ k h
 · split at h
   · exact⟨_,h,fun _ h' =>h'⟩
   · exact h.elim
 · exact sliceE_single _ _ _ _ _ _ k h
 · exact fieldAddrE_single _ _ _ _ k h
 · exact fieldE_single _ _ _ _ _ k h
 · exact indexAddrE_single _ _ _ _ _ k h
 · exact indexE_single _ _ _ _ k h
 · exact extractE_single _ _ _ k h
 · split at h
   · exact lenE_single _ _ _ _ k h
   · exact mmE_single _ _ _ k h
   · exact mmE_single _ _ _ k h
   · exact mm4E_single _ _ _ _ _ k h
   · exact mm4E_single _ _ _ _ _ k h
   · exact h.elim
 · exact h.elim
end Go.Eng
namespace Go.Eng
open Go
def quietO (C:List Nat)(o:Oper):Bool:=
 match o.op with
 | .store .. =>false
 | .slice .. => !isMut C o.dst
 | .call c=>match c.callee with
   | .builtin .len=>true
   | .builtin .max=>true
   | .builtin .min=>true
   |_=>false
 | .lookup .. => !isMut C o.dst
 | .mapUpdate .. =>false
 | .mapEntry .. =>false
 | .entryStore .. =>false
 |_=>true
def isCallV (o:Oper):Bool:=
 match o.op with
 | .call c=>match c.callee with
   | .value _=>true
   |_=>false
 |_=>false
def FpQ (o:Oper)(s:St)(u:Upd):Prop:=
 u.dst=o.dst∧((u.rs= []∧u.us= [])∨∃d r,o.dst=some d∧u.rs= [(d,some r)]∧u.us= [d])
theorem newCellsE_single {dst:Option Nat}{s:St}{ty:TypeId}{l:Option (List SV)}{k:Upd→Prop}(h:newCellsE dst s ty l k):
 ∃u,k u∧(u.dst=dst∧∃d r,dst=some d∧u.rs= [(d,some r)]∧u.us= [d])∧∀k',k' u→newCellsE dst s ty l k':=by
 unfold newCellsE at h ⊢;split at h
 · rename_i d l
   cases hu:s.used d with
   |true=>rw[hu]at h;exact h.elim
   |false=>rw[hu]at h;exact⟨_,h,⟨rfl,d,_,rfl,rfl,rfl⟩,fun k' h' =>h'⟩
 · exact h.elim
theorem bndE_one {x:Option SV}{d:Int}{F:Int→Prop}(h:bndE x d F):∃i,F i∧∀F':Int→Prop,F' i→bndE x d F':=by
 unfold bndE at h ⊢;split at h
 · exact⟨_,h,fun F' h' =>h'⟩
 · exact⟨_,h,fun F' h' =>h'⟩
 · exact h.elim
theorem cutB_one {lo hi:Option SV}{n:Nat}{F:Int→Int→Prop}(h:cutB lo hi n F):∃j k,F j k∧∀F':Int→Int→Prop,F' j k→cutB lo hi n F':=by
 unfold cutB at h ⊢;obtain⟨k,h,h1⟩:=bndE_one h;obtain⟨j,h,h2⟩:=bndE_one h;exact⟨j,k,h,fun F' h' =>h1 _ (h2 _ h')⟩
theorem subE_single {T:Tab}{dst:Option Nat}{s:St}{ty:TypeId}{x:SV}{lo hi:Option SV}{k:Upd→Prop}(h:subE T dst s ty x lo hi k):
 ∃u,k u∧(u.dst=dst∧u.rs= []∧u.us= [])∧∀k':Upd→Prop,k' u→subE T dst s ty x lo hi k':=by
 unfold subE at h ⊢;split at h
 · split at h
   · obtain⟨h0,h⟩:=br_elim h;obtain⟨j,m,h,h1⟩:=cutB_one h;exact⟨_,h.2,⟨rfl,rfl,rfl⟩,fun k' h' =>br_true h0 (h1 _ ⟨h.1,h'⟩)⟩
   · exact h.elim
 · obtain⟨h0,h⟩:=br_elim h;obtain⟨j,m,h,h1⟩:=cutB_one h;exact⟨_,h.2,⟨rfl,rfl,rfl⟩,fun k' h' =>br_true h0 (h1 _ ⟨h.1,h'⟩)⟩
 · exact h.elim
theorem rowSV_single (va:Bool)(row:List DV):Single (rowSV va row):=by
 intro k h;unfold rowSV at h ⊢;split at h<;>first|exact⟨_,h,fun _ h' =>h'⟩|exact h.elim
theorem lookupE_single (T:Tab)(s:St)(ty:TypeId)(m x:SV)(ok:Bool):Single (lookupE T s ty m x ok):=by
 intro k h;unfold lookupE mapOfL at h ⊢;split at h
 · split at h
   · split at h
     · obtain⟨q1,h⟩:=br_elim h;split at h
       · obtain⟨q2,h3,h⟩:=br_elim h;obtain⟨v,h4,h5⟩:=rowSV_single _ _ _ h
         cases ok with
         |true=>exact⟨_,h4,fun k' h' =>br_true q1 (br_true q2 ⟨h3,h5 _ h'⟩)⟩
         |false=>exact⟨_,h4,fun k' h' =>br_true q1 (br_true q2 ⟨h3,h5 _ h'⟩)⟩
       · exact h.elim
     · obtain⟨q1,h⟩:=br_elim h;split at h
       · obtain⟨q2,h3,h⟩:=br_elim h;obtain⟨v,h4,h5⟩:=rowSV_single _ _ _ h
         cases ok with
         |true=>exact⟨_,h4,fun k' h' =>br_true q1 (br_true q2 ⟨h3,h5 _ h'⟩)⟩
         |false=>exact⟨_,h4,fun k' h' =>br_true q1 (br_true q2 ⟨h3,h5 _ h'⟩)⟩
       · exact h.elim
     · exact h.elim
   · exact h.elim
 · exact h.elim
theorem stepU_single {P:Program}{T:Tab}{C:List Nat}{o:Oper}{s:St}{av:List Nat}{k:Upd→Prop}(hq:quietO C o=true)(h:stepU P T C o s av k):
 ∃u,k u∧FpQ o s u∧∀av' k',k' u→stepU P T C o s av' k':=by
 have pure:evP T o s (fun v=>k ⟨o.dst,v,[],[]⟩)→∃u,k u∧FpQ o s u∧∀ (k':Upd→Prop),k' u→evP T o s (fun v=>k' ⟨o.dst,v,[],[]⟩):=by
  intro h;obtain⟨v,h1,h2⟩:=evP_single T o s _ h;exact⟨_,h1,⟨rfl,.inl ⟨rfl,rfl⟩⟩,fun k' h' =>h2 _ h'⟩
 unfold stepU at h ⊢;split at h
 · unfold allocE at h ⊢;split at h
   · obtain⟨u,h1,⟨h2,h3⟩,h4⟩:=newCellsE_single h;exact⟨u,h1,⟨h2,.inr h3⟩,fun _ k' h' =>h4 k' h'⟩
   · exact h.elim
 · obtain⟨u,h1,⟨h2,h3⟩,h4⟩:=newCellsE_single h;exact⟨u,h1,⟨h2,.inr h3⟩,fun _ k' h' =>h4 k' h'⟩
 · rename_i ty n ps ho;unfold buildSliceE at h ⊢;simp only[forceRows_eq]at h ⊢;split at h
   · split at h
     · rename_i sz by' z zq hte;generalize hbb:(Nat.beq z.cells.size sz&&Nat.ble 1 sz&&Nat.beq (ps.toList.map fun p=>(p.1,s.ev p.2)).length n&&Nat.ble (n*sz) 16777216)=bb at h ⊢
       cases bb with
       |false=>exact h.elim
       | true=>
         simp only[br]at h ⊢;split at h
         · rename_i rows hrows
           cases hm:isMut C o.dst with
           | false=>
             rw[hm]at h
             exact⟨_,h,⟨rfl,.inl ⟨rfl,rfl⟩⟩,fun _ k' h' =>h'⟩
           | true=>
             rw[hm]at h
             cases hd:o.dst with
             |none=>rw[hd]at h;exact h.elim
             | some d=>
               rw[hd]at h;simp only at h ⊢
               cases hu:s.used d with
               |true=>rw[hu]at h;exact h.elim
               | false=>
                 rw[hu]at h;exact⟨_,h,⟨hd.symm,.inr ⟨d,_,hd,rfl,rfl⟩⟩,fun _ k' h' =>h'⟩
         · exact h.elim
     · exact h.elim
   · exact h.elim
 · unfold makeSliceE at h ⊢;split at h
   · rename_i d ht hd;split at h
     · rename_i te hte;split at h
       · rename_i zr kl n kc m hzr hl hc;generalize hbb:(Nat.beq zr.length te.size&&Nat.ble 1 te.size&& !s.used d)=bb at h ⊢
         cases bb with
         |false=>exact h.elim
         | true=>
           simp only[br]at h ⊢;exact⟨_,h.2,⟨hd.symm,.inr ⟨d,_,hd,rfl,rfl⟩⟩,fun _ k' h' =>⟨h.1,h'⟩⟩
       · exact h.elim
     · exact h.elim
   · exact h.elim
 · rename_i ho;simp[quietO,ho]at hq
 · rename_i c ho;split at h
   · rename_i hc;simp[quietO,ho,hc]at hq
   · rename_i hc;simp[quietO,ho,hc]at hq
   · rename_i hc;simp[quietO,ho,hc]at hq
   · obtain⟨u,h1,h2,h3⟩:=pure h;exact⟨u,h1,h2,fun _ k' h' =>h3 k' h'⟩
 · rename_i ho;simp only[quietO,ho,Bool.not_eq_true']at hq;split at h
   · split at h
     · rw[hq]at h;simp only[br]at h;obtain⟨u,h1,h2,h3⟩:=subE_single h;refine⟨u,h1,⟨h2.1,.inl h2.2⟩,fun _ k' h' => ?_⟩;rw[hq];simp only[br];exact h3 k' h'
     · exact h.elim
   · obtain⟨u,h1,h2,h3⟩:=pure h;exact⟨u,h1,h2,fun _ k' h' =>h3 k' h'⟩
 · rename_i ho;simp only[quietO,ho,Bool.not_eq_true']at hq;rw[hq]at h;simp only[br]at h;obtain⟨v,h1,h2⟩:=lookupE_single _ _ _ _ _ _ _ h;refine⟨_,h1,⟨rfl,.inl ⟨rfl,rfl⟩⟩,fun _ k' h' => ?_⟩;rw[hq];simp only[br];exact h2 _ h'
 · rename_i ho;simp[quietO,ho]at hq
 · rename_i ho;simp[quietO,ho]at hq
 · rename_i ho;simp[quietO,ho]at hq
 · obtain⟨u,h1,h2,h3⟩:=pure h;exact⟨u,h1,h2,fun _ k' h' =>h3 k' h'⟩
end Go.Eng
namespace Go.Eng
open Go
def bufs:List SV→List Nat
 | []=> []
 | .buf d::l=>d::bufs l
 |_::l=>bufs l
theorem bufs_mem:∀ {l:List SV} {d:Nat},SV.buf d ∈ l→d ∈ bufs l:=by
 intro l
 induction l with
 |nil=>intro d h;cases h
 | cons x l ih=>
   intro d h;rcases List.mem_cons.1 h with q|q
   · subst q;simp[bufs]
   · cases x<;>simp[bufs,ih q]
def nm1 (s:St)(x:SV):List Nat:=
 match x with
 | .ptr d off=>d::(match s.res d with|some (.cells _ l)=>bufs ((l.drop off).take 1)|_=> [])
 | .buf d=> [d]
 | .bel d _ _ _=> [d]
 | .mp d=> [d]
 | .sub d _ _ _=> [d]
 | .agg l=>bufs l
 | .tup l=>bufs l
 | .fn _ caps=>bufs caps
 |_=> []
def slotsIn:List Operand→List Nat
 | []=> []
 | .tmp t::l=>t::slotsIn l
 |_::l=>slotsIn l
theorem slotsIn_mem:∀ {l:List Operand} {t:Nat},Operand.tmp t ∈ l→t ∈ slotsIn l:=by
 intro l
 induction l with
 |nil=>intro t h;cases h
 | cons x l ih=>
   intro t h;rcases List.mem_cons.1 h with q|q
   · subst q;simp[slotsIn]
   · cases x<;>simp[slotsIn,ih q]
def slotsOf (o:Oper):List Nat:=slotsIn o.op.operands.toList
def nmAll (s:St):List Nat→List Nat
 | []=> []
 |t::l=>nm1 s (s.tmps t)++nmAll s l
theorem nmAll_mem {s:St}:∀ {l:List Nat} {t n:Nat},t ∈ l→n ∈ nm1 s (s.tmps t)→n ∈ nmAll s l:=by
 intro l
 induction l with
 |nil=>intro t n h;cases h
 | cons x l ih=>
   intro t n h hn;simp only[nmAll,List.mem_append];rcases List.mem_cons.1 h with q|q
   · subst q;exact .inl hn
   · exact .inr (ih q hn)
def isMv (o:Oper):Bool:=match o.op with| .move _=>true| .assign _=>true|_=>false
def isApp (o:Oper):Bool:=
 match o.op with
 | .call c=>match c.callee with
   | .builtin .append=>true
   |_=>false
 |_=>false
def reads (o:Oper)(s:St):List Nat:=bif isMv o then []else bif isApp o then 999999::nmAll s (slotsOf o)else nmAll s (slotsOf o)
theorem reads_nm {o:Oper}{s:St}(hm:isMv o=false){n:Nat}(h:n ∈ nmAll s (slotsOf o)):n ∈ reads o s:=by
 unfold reads;rw[hm]
 cases isApp o with
 |false=>exact h
 |true=>exact List.mem_cons_of_mem _ h
structure Alike (o:Oper)(s s':St):Prop where
 tm:∀t ∈ slotsOf o,s'.tmps t=s.tmps t
 rs:∀n ∈ reads o s,s'.res n=s.res n
structure AlikeG (o:Oper)(s s':St):Prop where
 tm:∀t ∈ slotsOf o,s'.tmps t=s.tmps t
 rs:∀n ∈ nmAll s (slotsOf o),s'.res n=s.res n
section
variable {P:Program} {T:Tab} {C:List Nat} {o:Oper} {s s':St}
theorem Alike.full (h:Alike o s s')(hm:isMv o=false):AlikeG o s s':=⟨h.tm,fun n hn=>h.rs n (reads_nm hm hn)⟩
theorem raw_alike (h:∀t ∈ slotsOf o,s'.tmps t=s.tmps t){x:Operand}(hx:x ∈ o.op.operands.toList):s'.raw x=s.raw x:=by
 cases x<;>try rfl
 exact h _ (slotsIn_mem hx)
theorem norm_alike {y:SV}(h:∀d,y= .buf d→s'.res d=s.res d):s'.norm y=s.norm y:=by
 unfold St.norm;cases y<;>try rfl
 dsimp only
 rw[h _ rfl]
theorem ev_alike (h:AlikeG o s s'){x:Operand}(hx:x ∈ o.op.operands.toList):s'.ev x=s.ev x:=by
 cases x<;>try rfl
 rename_i t;have ht:=slotsIn_mem hx;simp only[St.ev,St.look];rw[h.tm t ht];refine norm_alike (fun d hd=>h.rs d (nmAll_mem ht ?_));rw[hd];simp[nm1]
theorem nm_ev (h:AlikeG o s s'){x:Operand}(hx:x ∈ o.op.operands.toList):∀n ∈ nm1 s (s.ev x),s'.res n=s.res n:=by
 intro n hn
 cases x with
 | tmp t=>
   have ht:=slotsIn_mem hx;simp only[St.ev,St.look]at hn;refine h.rs n (nmAll_mem ht ?_);generalize s.tmps t=y at hn;unfold St.norm at hn;cases y<;>try exact hn
   rename_i d;simp only at hn;split at hn
   · simp[nm1]at hn
   · exact hn
 | const v=>
   simp only[St.ev]at hn;unfold cst at hn;split at hn
   · rename_i cs
     cases hc:cs.toList.all (·.oneCell')with
     |false=>rw[hc]at hn;simp[nm1]at hn
     | true=>
       rw[hc]at hn;simp only[cond_true,nm1]at hn;exfalso
       have:∀l:List Value,bufs (l.map fun c=>SV.d (cstD c))= []:=by
        intro l;induction l with
        |nil=>rfl
        |cons c l ih=>simpa [bufs]using ih
       rw[this]at hn;cases hn
   · simp[nm1]at hn
   · simp[nm1]at hn
 |func f=>simp[St.ev,nm1,bufs]at hn
 |global g=>simp[St.ev,nm1]at hn
theorem pickL_alike {agg:Bool}{size:Nat}{l:List SV}{k:SV→Prop}(h:∀d,SV.buf d ∈ l.take 1→s'.res d=s.res d)(hk:pickL s agg size l k):pickL s' agg size l k:=by
 unfold pickL at hk ⊢;split at hk
 · exact hk
 · split at hk
   · rename_i y r;rw[norm_alike (s:=s) (s':=s') (fun d hd=>h d (by rw[hd];simp))];exact hk
   · exact hk.elim
theorem loadE_alike {ty:TypeId}{x:SV}{k:SV→Prop}(h:∀n ∈ nm1 s x,s'.res n=s.res n)(hk:loadE T s ty x k):loadE T s' ty x k:=by
 unfold loadE at hk ⊢;split at hk
 · exact hk.elim
 · split at hk
   · rename_i d off;have hd:=h d (by simp[nm1]);simp only[hd];split at hk
     · rename_i e l hr;refine pickL_alike (s:=s) (fun n hn=>h n ?_) hk;simp only[nm1,hr,List.mem_cons];exact .inr (bufs_mem hn)
     · exact hk.elim
   · refine pickL_alike (s:=s) (fun n hn=> ?_) hk;have hn:=List.mem_of_mem_take hn;rw[List.mem_map]at hn;obtain⟨q,_,hq⟩:=hn;cases hq
   · rename_i d kk i off;have hd:=h d (by simp[nm1]);simp only[hd];split at hk
     · obtain⟨h1,h2,h3⟩:=br_elim hk;refine br_true h1 ⟨h2,pickL_alike (s:=s) (fun n hn=> ?_) h3⟩;have hn:=List.mem_of_mem_take hn;rw[List.mem_map]at hn;obtain⟨q,_,hq⟩:=hn;cases hq
     · exact hk.elim
   · exact hk.elim
theorem fieldE_alike {ty:TypeId}{x:SV}{f:Nat}{k:SV→Prop}(h:∀n ∈ nm1 s x,s'.res n=s.res n)(hk:fieldE T s ty x f k):fieldE T s' ty x f k:=by
 unfold fieldE at hk ⊢;split at hk
 · exact hk.elim
 · split at hk
   · rename_i l;exact pickL_alike (s:=s) (fun n hn=>h n (by simp only[nm1];exact bufs_mem (List.mem_of_mem_drop (List.mem_of_mem_take hn)))) hk
   · exact hk.elim
theorem extractE_alike {x:SV}{i:Nat}{k:SV→Prop}(h:∀n ∈ nm1 s x,s'.res n=s.res n)(hk:extractE s x i k):extractE s' x i k:=by
 unfold extractE at hk ⊢;split at hk
 · rename_i l;split at hk
   · rename_i y r hr;rw[norm_alike (s:=s) (s':=s') (fun d hd=>h d ?_)]
     · exact hk
     · simp only[nm1];refine bufs_mem (List.mem_of_mem_drop (i:=i) ?_);rw[hr,hd];exact List.mem_cons_self
   · exact hk.elim
 · exact hk.elim
theorem indexAddrE_alike {ty:TypeId}{x i:SV}{k:SV→Prop}(h:∀n ∈ nm1 s x,s'.res n=s.res n)(hk:indexAddrE T s ty x i k):indexAddrE T s' ty x i k:=by
 unfold indexAddrE at hk ⊢;split at hk
 · split at hk
   · split at hk
     · exact hk
     · rename_i d _ j;simp only[h d (by simp[nm1])];exact hk
     · exact hk
     · exact hk.elim
   · exact hk.elim
 · exact hk
 · exact hk.elim
theorem lenE_alike {ty:TypeId}{x:SV}{k:SV→Prop}(h:∀n ∈ nm1 s x,s'.res n=s.res n)(hk:lenE T s ty x k):lenE T s' ty x k:=by
 unfold lenE at hk ⊢;split at hk
 · exact hk
 · split at hk
   · exact hk
   · exact hk
   · rename_i d;simp only[h d (by simp[nm1])];exact hk
   · exact hk
   · exact hk.elim
 · split at hk
   · rename_i d;simp only[h d (by simp[nm1])];exact hk
   · exact hk.elim
 · exact hk.elim
theorem lookupE_alike {ty:TypeId}{m x:SV}{ok:Bool}{k:SV→Prop}(h:∀n ∈ nm1 s m,s'.res n=s.res n)(hk:lookupE T s ty m x ok k):lookupE T s' ty m x ok k:=by
 unfold lookupE mapOfL at hk ⊢;split at hk
 · split at hk
   · rename_i te d hte;rw[h d (by simp[nm1])];exact hk
   · exact hk.elim
 · exact hk.elim
theorem map_ev_alike (h:AlikeG o s s'){l:List Operand}(hl:∀x ∈ l,x ∈ o.op.operands.toList):l.map s'.ev=l.map s.ev:=
 List.map_congr_left fun x hx=>ev_alike h (hl x hx)
theorem mapP_ev_alike (h:AlikeG o s s'){l:List (Nat×Operand)}(hl:∀p ∈ l,p.2 ∈ o.op.operands.toList):(l.map fun p=>(p.1,s'.ev p.2))=l.map fun p=>(p.1,s.ev p.2):=
 List.map_congr_left fun p hp=>by rw[ev_alike h (hl p hp)]
theorem opt_ev_alike (h:AlikeG o s s'){x:Option Operand}(hx:∀y,x=some y→y ∈ o.op.operands.toList):x.map s'.ev=x.map s.ev:=by
 cases x with
 |none=>rfl
 |some y=>simp[ev_alike h (hx y rfl)]
theorem evP_alike (h:Alike o s s'){k:SV→Prop}(hk:evP T o s k):evP T o s' k:=by
 have htm:=h.tm
 cases hm:isMv o with
 | true=>
   unfold isMv at hm;unfold evP at hk ⊢;split at hm
   · rename_i x ho;rw[ho]at hk ⊢
     dsimp only at hk ⊢
     rw[raw_alike htm (by simp[ho,Op.operands])];exact hk
   · rename_i x ho;rw[ho]at hk ⊢
     dsimp only at hk ⊢
     rw[raw_alike htm (by simp[ho,Op.operands])];exact hk
   · cases hm
 |false=>
 have h:=h.full hm;have ev:=@ev_alike o s s' h;have nm:=@nm_ev o s s' h;unfold evP at hk ⊢;split at hk
 · rename_i x ho;rw[raw_alike htm (by simp[ho,Op.operands])];exact hk
 · rename_i x ho;rw[raw_alike htm (by simp[ho,Op.operands])];exact hk
 · rename_i c x y ho;rw[ev (x:=c) (by simp[ho,Op.operands]),ev (x:=x) (by simp[ho,Op.operands]),ev (x:=y) (by simp[ho,Op.operands])];exact hk
 · rename_i ty ps ho;rw[mapP_ev_alike h (fun p hp=>by rw[ho];simp only[Op.operands];simpa using⟨p.1,by simpa using hp⟩)];exact hk
 · rename_i ty x ho;rw[ev (by simp[ho,Op.operands])];exact loadE_alike (nm (by simp[ho,Op.operands])) hk
 · rename_i x ho;rw[ev (by simp[ho,Op.operands])];exact hk
 · rename_i op ty x y yt ho;split at hk
   · rw[ev (x:=x) (by simp[ho,Op.operands])];exact hk
   · rename_i hny;rw[ev (x:=x) (by simp[ho,Op.operands]),ev (x:=y) (by simp[ho,Op.operands])];exact hk
 · rename_i ty x ho;rw[ev (by simp[ho,Op.operands])];exact hk
 · rename_i x xt ty ok ho;rw[ev (by simp[ho,Op.operands])];exact hk
 · rename_i op ty x ho;rw[ev (by simp[ho,Op.operands])];exact hk
 · rename_i src dst x ho;rw[ev (by simp[ho,Op.operands])];exact hk
 · rename_i fn first caps ho;rw[map_ev_alike h (fun x hx=>by rw[ho];simp only[Op.operands,Array.toList_append,List.mem_append];exact .inr hx)];exact hk
 · rename_i ty x lo hi mx ho;rw[ev (by simp[ho,Op.operands]),opt_ev_alike h (x:=lo) (fun y hy=>by simp[ho,Op.operands,hy]),opt_ev_alike h (x:=hi) (fun y hy=>by simp[ho,Op.operands,hy]),opt_ev_alike h (x:=mx) (fun y hy=>by simp[ho,Op.operands,hy])];exact hk
 · rename_i ty x f ho;rw[ev (by simp[ho,Op.operands])];exact hk
 · rename_i ty x f ho;rw[ev (by simp[ho,Op.operands])];exact fieldE_alike (nm (by simp[ho,Op.operands])) hk
 · rename_i ty x i ho;rw[ev (x:=x) (by simp[ho,Op.operands]),ev (x:=i) (by simp[ho,Op.operands])];exact indexAddrE_alike (nm (by simp[ho,Op.operands])) hk
 · rename_i ty x i ho;rw[ev (x:=x) (by simp[ho,Op.operands]),ev (x:=i) (by simp[ho,Op.operands])];exact hk
 · rename_i x i ho;rw[ev (by simp[ho,Op.operands])];exact extractE_alike (nm (by simp[ho,Op.operands])) hk
 · rename_i c ho;split at hk
   · rename_i x ty hc ha hty;have hx:x ∈ o.op.operands.toList:=by simp[ho,Op.operands,Call.operands,hc,ha]
     rw[ev hx];exact lenE_alike (nm hx) hk
   · rename_i x y hc ha;have hx:x ∈ o.op.operands.toList:=by simp[ho,Op.operands,Call.operands,hc,ha]
     have hy:y ∈ o.op.operands.toList:=by simp[ho,Op.operands,Call.operands,hc,ha]
     rw[ev hx,ev hy];exact hk
   · rename_i x y hc ha;have hx:x ∈ o.op.operands.toList:=by simp[ho,Op.operands,Call.operands,hc,ha]
     have hy:y ∈ o.op.operands.toList:=by simp[ho,Op.operands,Call.operands,hc,ha]
     rw[ev hx,ev hy];exact hk
   · rename_i x y z u hc ha;have hx:x ∈ o.op.operands.toList:=by simp[ho,Op.operands,Call.operands,hc,ha]
     have hy:y ∈ o.op.operands.toList:=by simp[ho,Op.operands,Call.operands,hc,ha]
     have hz:z ∈ o.op.operands.toList:=by simp[ho,Op.operands,Call.operands,hc,ha]
     have hu:u ∈ o.op.operands.toList:=by simp[ho,Op.operands,Call.operands,hc,ha]
     rw[ev hx,ev hy,ev hz,ev hu];exact hk
   · rename_i x y z u hc ha;have hx:x ∈ o.op.operands.toList:=by simp[ho,Op.operands,Call.operands,hc,ha]
     have hy:y ∈ o.op.operands.toList:=by simp[ho,Op.operands,Call.operands,hc,ha]
     have hz:z ∈ o.op.operands.toList:=by simp[ho,Op.operands,Call.operands,hc,ha]
     have hu:u ∈ o.op.operands.toList:=by simp[ho,Op.operands,Call.operands,hc,ha]
     rw[ev hx,ev hy,ev hz,ev hu];exact hk
   · exact hk.elim
 · exact hk.elim
theorem CallX.alike {f:FuncId}{dst:Option Nat}{args:List SV}{av:List Nat}{k:Upd→Prop}(h:CallX P f dst args s av k):∀ {s':St} {av':List Nat} {k':Upd→Prop},
 (∀c,mem av c=false→s'.res c=s.res c∧s'.used c=s.used c)→(∀c,mem av (c+1099511627776)=false→s'.res c=s.res c)→(∀d,SV.buf d ∈ args→s'.res d=s.res d)→(∀n,mem av' n=true→mem av n=true)→
 (∀u,k u→u.dst=dst→(∀n,mem av n=true→(∀x,lookR u.rs n x=x)∧mem u.us n=false)→k' u)→CallX P f dst args s' av' k':=by
 have hf:∀ {av av':List Nat} {c:Nat},(∀n,mem av' n=true→mem av n=true)→mem av c=false→mem av' c=false:=by
  intro av av' c h hc
  cases hq:mem av' c with
  |false=>rfl
  |true=>rw[h c hq]at hc;cases hc
 induction h with
 | call args s av k ρ sargs rin post hs hok hlen ha hr hro hav hk=>
   intro s' av' k' h1 hb1 h2 h3 h4;refine .call args s' av' k' ρ sargs rin post hs hok hlen ha (fun d r hd=> ?_) (fun d c hc hl=> ?_) (fun d c hc=>hf h3 (hav d c hc)) (fun x rout hp=> ?_)
   · obtain⟨c,r0,q1,q2,q3⟩:=hr d r hd;exact⟨c,r0,q1,by rw[(h1 c (hav d c q1)).1];exact q2,q3⟩
   · rw[(h1 c (hav d c hc)).2];exact hro d c hc hl
   · obtain⟨q1,q2,q3⟩:=hk x rout hp;refine⟨q1,q2,h4 _ q3 rfl (fun n hn=> ?_)⟩;have hno:∀d,(d,n) ∉ ρ:=fun d hd=>by rw[hav d n (okR_mem hok hd)]at hn;cases hn
     refine⟨fun x=>lookR_outs_not hno,?_⟩
     cases hq:mem (ρ.map (·.2)) n with
     |false=>rfl
     | true=>
       rw[mem_iff,List.mem_map]at hq;obtain⟨p,hp,rfl⟩:=hq
       exact absurd hp (hno p.1)
 | peek args s av k ρ sargs rin y hs hok hlen ha hr hra hav hy hrk hk=>
   intro s' av' k' h1 hb1 h2 h3 h4
   exact .peek args s' av' k' ρ sargs rin y hs hok hlen ha (fun d r hd=>by
    obtain⟨c,q1,q2⟩:=hr d r hd
    exact⟨c,q1,by rw[hb1 c (hav d c q1)];exact q2⟩) hra (fun d c hc=>hf h3 (hav d c hc)) hy hrk (h4 _ hk rfl (fun n hn=>⟨fun x=>rfl,rfl⟩))
 | freeze args s av k d e kk n g hd hav h0 ih=>
   intro s' av' k' h1 hb1 h2 h3 h4;have hd':s'.res d=some (.buf e kk n g):=by rw[(h1 d hav).1];exact hd
   have hsame:∀c,s'.res c=s.res c→(s'.app ⟨none,.any,[(d,some (.fro kk n g))],[]⟩).res c=(s.app ⟨none,.any,[(d,some (.fro kk n g))],[]⟩).res c:=by
    intro c hc;simp only[St.app,putR_apply,lookR,hc]
   refine .freeze args s' av' k' d e kk n g hd' (hf h3 hav) ?_;refine ih (fun c hc=>⟨hsame c (h1 c hc).1,(h1 c hc).2⟩) (fun c hc=>hsame c (hb1 c hc)) (fun c hc=> ?_) h3 (fun u hu hud hun=> ?_)
   · rw[List.mem_map]at hc;obtain⟨x,hx,hxe⟩:=hc;exact hsame c (h2 c (frz_buf hxe ▸ hx))
   · refine h4 _ hu hud (fun m hm=>⟨fun x=> ?_,(hun m hm).2⟩);have hmd:m≠d:=fun q=>by subst q;rw[hav]at hm;cases hm
     rw[lookR_append,(hun m hm).1];simp only[lookR]
     rw[nbeq_ne hmd];rfl
 | freezeF args s av k q d e kk n X g hq hd hav hav2 h0 ih=>
   intro s' av' k' h1 hb1 h2 h3 h4;have hd':s'.res d=some (.buf e kk n g):=by rw[(h1 d hav).1];exact hd
   have hsame:∀c,s'.res c=s.res c→(s'.app ⟨none,.any,[(d,some (.fro kk n g))],[]⟩).res c=(s.app ⟨none,.any,[(d,some (.fro kk n g))],[]⟩).res c:=by
    intro c hc;simp only[St.app,putR_apply,lookR,hc]
   have hq':s'.res q=some (.inX X):=by rw[(h1 q hav2).1];exact hq
   refine .freezeF args s' av' k' q d e kk n X g hq' hd' (hf h3 hav) (hf h3 hav2) ?_;refine ih (fun c hc=>⟨hsame c (h1 c hc).1,(h1 c hc).2⟩) (fun c hc=>hsame c (hb1 c hc)) (fun c hc=> ?_) h3 (fun u hu hud hun=> ?_)
   · rw[List.mem_map]at hc;obtain⟨x,hx,hxe⟩:=hc;exact hsame c (h2 c (frzF_buf hxe ▸ hx))
   · refine h4 _ hu hud (fun m hm=>⟨fun x=> ?_,(hun m hm).2⟩);have hmd:m≠d:=fun q=>by subst q;rw[hav]at hm;cases hm
     rw[lookR_append,(hun m hm).1];simp only[lookR];rw[nbeq_ne hmd];rfl
end
end Go.Eng
namespace Go.Eng
open Go
def allocO (o:Oper):Bool:=
 match o.op with
 | .alloc _=>true
 | .box .. =>true
 | .buildSlice .. =>true
 | .makeSlice .. =>true
 |_=>false
section
variable {P:Program} {T:Tab} {C:List Nat} {o:Oper} {s s':St}
theorem newCellsE_alike {dst:Option Nat}{ty:TypeId}{l:Option (List SV)}{k:Upd→Prop}(hu:∀d,dst=some d→s'.used d=s.used d)(h:newCellsE dst s ty l k):newCellsE dst s' ty l k:=by
 unfold newCellsE at h ⊢;split at h
 · rename_i d l;rw[hu d rfl];exact h
 · exact h.elim
theorem quiet_alike (h:Alike o s s')(hu:allocO o=true→∀d,o.dst=some d→s'.used d=s.used d)(hq:quietO C o=true){av av':List Nat}{k:Upd→Prop}(hk:stepU P T C o s av k):stepU P T C o s' av' k:=by
 unfold stepU at hk ⊢;split at hk
 · rename_i ty ho;have hf:=h.full (by simp[isMv,ho]);have hu:=hu (by simp[allocO,ho]);unfold allocE at hk ⊢;split at hk
   · exact newCellsE_alike hu hk
   · exact hk.elim
 · rename_i ty x ho;have hf:=h.full (by simp[isMv,ho]);have hu:=hu (by simp[allocO,ho]);unfold boxE at hk ⊢;rw[ev_alike hf (by simp[ho,Op.operands])];exact newCellsE_alike hu hk
 · rename_i ty n ps ho;have hf:=h.full (by simp[isMv,ho]);have hu:=hu (by simp[allocO,ho]);rw[mapP_ev_alike hf (fun p hp=>by rw[ho];simp only[Op.operands];simpa using⟨p.1,by simpa using hp⟩)];unfold buildSliceE at hk ⊢;simp only[forceRows_eq]at hk ⊢;split at hk
   · split at hk
     · rename_i sz by' z zq hte;generalize (Nat.beq z.cells.size sz&&Nat.ble 1 sz&&Nat.beq (ps.toList.map fun p=>(p.1,s.ev p.2)).length n&&Nat.ble (n*sz) 16777216)=bb at hk ⊢
       cases bb with
       |false=>exact hk
       | true=>
         simp only[br]at hk ⊢;split at hk
         · rename_i rows hrows
           cases hm:isMut C o.dst with
           |false=>rw[hm]at hk;exact hk
           | true=>
             rw[hm]at hk
             cases hd:o.dst with
             |none=>rw[hd]at hk;exact hk.elim
             |some d=>rw[hd]at hk;simp only at hk ⊢;rw[hu d hd];exact hk
         · exact hk.elim
     · exact hk.elim
   · exact hk.elim
 · rename_i ty l c ho;have hf:=h.full (by simp[isMv,ho]);have hu:=hu (by simp[allocO,ho]);rw[ev_alike hf (x:=l) (by simp[ho,Op.operands]),ev_alike hf (x:=c) (by simp[ho,Op.operands])];unfold makeSliceE at hk ⊢;split at hk
   · rename_i d ht hd;split at hk
     · split at hk
       · rw[hu d hd];exact hk
       · exact hk.elim
     · exact hk.elim
   · exact hk.elim
 · rename_i ho;simp[quietO,ho]at hq
 · rename_i c ho;have hf:=h.full (by simp[isMv,ho]);split at hk
   · rename_i hc;simp[quietO,ho,hc]at hq
   · rename_i hc;simp[quietO,ho,hc]at hq
   · rename_i hc;simp[quietO,ho,hc]at hq
   · exact evP_alike h hk
 · rename_i ty x lo hi mx ho;have hf:=h.full (by simp[isMv,ho]);have hx:x ∈ o.op.operands.toList:=by simp[ho,Op.operands]
   rw[ev_alike hf hx];simp only[quietO,ho,Bool.not_eq_true']at hq;have hlo:∀y,lo=some y→y ∈ o.op.operands.toList:=fun y hy=>by subst hy;simp[ho,Op.operands]
   have hhi:∀y,hi=some y→y ∈ o.op.operands.toList:=fun y hy=>by subst hy;simp[ho,Op.operands]
   have hnm:=nm_ev hf hx;split at hk
   · rename_i d hd;rw[hd]at hnm;have hr:=hnm d (by simp[nm1]);split at hk
     · rw[opt_ev_alike hf hlo,opt_ev_alike hf hhi];rw[hq]at hk ⊢;simp only[br]at hk ⊢;unfold subE at hk ⊢;simp only[hr];exact hk
     · exact hk.elim
   · exact evP_alike h hk
 · rename_i ty m x ok ho;have hf:=h.full (by simp[isMv,ho]);have hm:m ∈ o.op.operands.toList:=by simp[ho,Op.operands]
   simp only[quietO,ho,Bool.not_eq_true']at hq;rw[hq]at hk ⊢;simp only[br]at hk ⊢;rw[ev_alike hf hm,ev_alike hf (x:=x) (by simp[ho,Op.operands])];exact lookupE_alike (nm_ev hf hm) hk
 · rename_i ho;simp[quietO,ho]at hq
 · rename_i ho;simp[quietO,ho]at hq
 · rename_i ho;simp[quietO,ho]at hq
 · exact evP_alike h hk
def FpE (o:Oper)(av:List Nat)(u:Upd):Prop:=u.dst=o.dst∧∀n,mem av n=true→(∀x,lookR u.rs n x=x)∧mem u.us n=false
def SoftR:Res→Res→Prop
 | .map ag va ks zr _ val,.mapB ag' va' ks' zr' _ val' _ _=>ag=ag'∧va=va'∧ks=ks'∧zr=zr'∧val=val'
 |_,_=>False
def FpS (o:Oper)(s:St)(av:List Nat)(u:Upd):Prop:=u.dst=o.dst∧∃d r r',s.res d=some r∧SoftR r r'∧u.rs= [(d,some r')]∧u.us= []∧mem av (d+1099511627776)=false∧mem av (d+2199023255552)=false
theorem notmem_mono {av av':List Nat}{c:Nat}(h:∀n,mem av' n=true→mem av n=true)(hc:mem av c=false):mem av' c=false:=by
 cases hq:mem av' c with
 |false=>rfl
 |true=>rw[h c hq]at hc;cases hc
theorem ne_of_mem {av:List Nat}{c n:Nat}(hc:mem av c=false)(hn:mem av n=true):n≠c:=fun q=>by subst q;rw[hc]at hn;cases hn
theorem cutB_mono {lo hi:Option SV}{n:Nat}{F F':Int→Int→Prop}(hF:∀j h,F j h→F' j h)(h:cutB lo hi n F):cutB lo hi n F':=by
 have bm:∀ {x:Option SV} {d:Int} {K K':Int→Prop},(∀i,K i→K' i)→bndE x d K→bndE x d K':=by
  intro x d K K' hK hb;unfold bndE at hb ⊢;split at hb<;>first|exact hK _ hb|exact hb.elim
 exact bm (fun k hk=>bm (fun j hj=>hF j k hj) hk) h
theorem effect_alike (h:Alike o s s')(hu:∀d,o.dst=some d→s'.used d=s.used d){av av':List Nat}(hq:quietO C o=false)
 (hc:isCallV o=true→∀c,mem av c=false→s'.res c=s.res c∧s'.used c=s.used c)(hc2:isCallV o=true→∀c,mem av (c+1099511627776)=false→s'.res c=s.res c)(hav:∀n,mem av' n=true→mem av n=true)
 {k k':Upd→Prop}(hkk0:∀u,k u→FpE o av u∨FpS o s' av u→k' u)(hk:stepU P T C o s av k):stepU P T C o s' av' k':=by
 have hkk:∀u,k u→FpE o av u→k' u:=fun u a b=>hkk0 u a (.inl b)
 unfold stepU at hk ⊢;split at hk
 · rename_i ho;simp[quietO,ho]at hq
 · rename_i ho;simp[quietO,ho]at hq
 · rename_i ho;simp[quietO,ho]at hq
 · rename_i ho;simp[quietO,ho]at hq
 · rename_i ty p x ho;have hf:=h.full (by simp[isMv,ho]);have hp:p ∈ o.op.operands.toList:=by simp[ho,Op.operands]
   have hx:x ∈ o.op.operands.toList:=by simp[ho,Op.operands]
   have hnm:=nm_ev hf hp;rw[ev_alike hf hp,ev_alike hf hx];unfold storeE at hk ⊢;split at hk
   · rename_i ti cs ht hfl;obtain⟨h1,hk⟩:=br_elim hk;refine br_true h1 ?_;split at hk
     · rename_i d off hpe;rw[hpe]at hnm;have hd:=hnm d (by simp[nm1]);obtain⟨h2,hk⟩:=br_false_elim hk;refine br_false (notmem_mono hav h2) ?_;rw[hd];split at hk
       · rename_i e l hr;obtain⟨h3,hk⟩:=br_elim hk;refine br_true h3 (hkk _ hk ⟨rfl,fun n hn=>⟨fun y=> ?_,rfl⟩⟩);simp only[lookR];rw[nbeq_ne (ne_of_mem h2 hn)];rfl
       · exact hk.elim
     · rename_i d kk i off hpe;rw[hpe]at hnm;have hd:=hnm d (by simp[nm1]);obtain⟨h2,hk⟩:=br_false_elim hk;refine br_false (notmem_mono hav h2) ?_;rw[hd];split at hk
       · rename_i e kk' n get ds hr hds;obtain⟨h3,h4,hk⟩:=br_elim hk;refine br_true h3 ⟨h4,hkk _ hk ⟨rfl,fun n hn=>⟨fun y=> ?_,rfl⟩⟩⟩;simp only[lookR];rw[nbeq_ne (ne_of_mem h2 hn)];rfl
       · rename_i n get m hr hds;obtain⟨h3,h4,hk⟩:=br_elim hk;refine br_true h3 ⟨h4,hkk _ hk ⟨rfl,fun n hn=>⟨fun y=> ?_,rfl⟩⟩⟩;simp only[lookR];rw[nbeq_ne (ne_of_mem h2 hn)];rfl
       · exact hk.elim
     · exact hk.elim
   · exact hk.elim
 · rename_i c ho;have hf:=h.full (by simp[isMv,ho]);split at hk
   · rename_i f hcc;have hfo:f ∈ o.op.operands.toList:=by simp[ho,Op.operands,Call.operands,hcc]
     have hargs:∀x ∈ c.args.toList,x ∈ o.op.operands.toList:=fun x hx=>by
      rw[ho];simp only[Op.operands,Call.operands,hcc,Array.toList_append,List.mem_append];exact .inr hx
     rw[ev_alike hf hfo,map_ev_alike hf hargs];have hnm:=nm_ev hf hfo;unfold callV at hk ⊢;split at hk
     · rename_i g caps hfe;rw[hfe]at hnm;refine CallX.alike hk (hc (by simp[isCallV,ho,hcc])) (hc2 (by simp[isCallV,ho,hcc])) (fun d hd=> ?_) hav (fun u hu1 hu2 hu3=>hkk u hu1 ⟨hu2,hu3⟩);rcases List.mem_append.1 hd with q|q
       · rw[List.mem_map]at q;obtain⟨x,hx,hxe⟩:=q;exact nm_ev hf (hargs x hx) d (by rw[hxe];simp[nm1])
       · exact hnm d (by simp only[nm1];exact bufs_mem q)
     · exact hk.elim
   · rename_i hcc;split at hk
     · rename_i x y ty ty2 ha hty;have hx:x ∈ o.op.operands.toList:=by simp[ho,Op.operands,Call.operands,hcc,ha]
       have hy:y ∈ o.op.operands.toList:=by simp[ho,Op.operands,Call.operands,hcc,ha]
       obtain⟨h1,hk⟩:=br_elim hk;refine br_true h1 ?_;rw[ev_alike hf hx,ev_alike hf hy];have hnm:=nm_ev hf hx;have hbn:s'.res 999999=s.res 999999:=h.rs 999999 (by simp[reads,isMv,isApp,ho,hcc])
       have all:∀ {k k':Upd→Prop},(∀u,k u→FpE o av u→k' u)→appendE0 T o.dst s av ty (s.ev x) (s.ev y) k→appendE0 T o.dst s' av' ty (s.ev x) (s.ev y) k':=by
        intro k k' hkk hk;unfold appendE0 at hk ⊢;split at hk
        · rename_i e _ _ _ _ d ht hd;split at hk
          · rename_i de sz by' z zq hte;obtain⟨hb,hk⟩:=br_elim hk;simp only[Bool.and_eq_true,Bool.not_eq_true']at hb;obtain⟨⟨⟨⟨b1,b2⟩,b3⟩,b4⟩,b5⟩:=hb;refine br_true (by simp only[Bool.and_eq_true,Bool.not_eq_true'];exact⟨⟨⟨⟨b1,b2⟩,b3⟩,(hu d hd).trans b4⟩,notmem_mono hav b5⟩) ?_
            have src:∀ {F F':Nat→(Nat→List DV)→Prop},(∀m hh,F m hh→F' m hh)→appSrc sz (s.ev y) F→appSrc sz (s.ev y) F':=by
             intro F F' hF hs;unfold appSrc at hs ⊢;split at hs
             · exact hF _ _ hs
             · obtain⟨q1,q2⟩:=br_elim hs;exact br_true q1 (hF _ _ q2)
             · exact hs.elim
            unfold appBase at hk ⊢;split at hk
            · rename_i hxe;refine src (fun m hh hq=>⟨hq.1,hkk _ hq.2 ⟨hd.symm,fun n hn=>⟨fun y=> ?_,?_⟩⟩⟩) hk
              · simp only[lookR];rw[nbeq_ne (ne_of_mem b5 hn)];rfl
              · simp only[mem];rw[nbeq_ne (ne_of_mem b5 hn)];rfl
            · rename_i d' hxe;rw[hxe]at hnm;have hd':=hnm d' (by simp[nm1]);rw[hd'];split at hk
              · rename_i e' kk n g hr;obtain⟨hq,hk⟩:=br_elim hk;simp only[Bool.and_eq_true,Bool.not_eq_true']at hq;refine br_true (by simp only[Bool.and_eq_true,Bool.not_eq_true'];exact⟨hq.1,notmem_mono hav hq.2⟩) ?_;refine src (fun m hh hq' =>⟨hq'.1,hkk _ hq'.2 ⟨hd.symm,fun n hn=>⟨fun y=> ?_,?_⟩⟩⟩) hk
                · simp only[lookR];rw[nbeq_ne (ne_of_mem b5 hn),nbeq_ne (ne_of_mem hq.2 hn)];rfl
                · simp only[mem];rw[nbeq_ne (ne_of_mem b5 hn)];rfl
              · exact hk.elim
            · rename_i v hxe;rw[hbn];split at hk
              · rename_i e' kk l hr;obtain⟨hq,l1,n,g,l2,hl,hk⟩:=br_elim hk;simp only[Bool.and_eq_true,Bool.not_eq_true']at hq;refine br_true (by simp only[Bool.and_eq_true,Bool.not_eq_true'];exact⟨hq.1,notmem_mono hav hq.2⟩) ⟨l1,n,g,l2,hl,?_⟩;refine src (fun m hh hq' =>⟨hq'.1,hkk _ hq'.2 ⟨hd.symm,fun n hn=>⟨fun y=> ?_,?_⟩⟩⟩) hk
                · simp only[lookR];rw[nbeq_ne (ne_of_mem b5 hn),nbeq_ne (ne_of_mem hq.2 hn)];rfl
                · simp only[mem];rw[nbeq_ne (ne_of_mem b5 hn)];rfl
              · exact hk.elim
            · exact hk.elim
          · exact hk.elim
        · exact hk.elim
       unfold appendE at hk ⊢;split at hk
       · rename_i v hxv;rw[hxv]at all;refine all (fun u hu hf=> ?_) hk;unfold putK at hu ⊢;split at hu
         · rename_i d d1 d2 e sz m g q e' kk l us;obtain⟨hb,hu⟩:=br_elim hu;refine br_true hb (fun v' =>hkk _ (hu v') ?_);simp only[Bool.and_eq_true,Bool.not_eq_true']at hb;obtain⟨⟨⟨⟨⟨b1,b2⟩,b3⟩,b4⟩,b5⟩,b6⟩:=hb;obtain rfl:=Nat.eq_of_beq_eq_true b2;obtain rfl:=Nat.eq_of_beq_eq_true b3;refine⟨hf.1,fun n hn=>⟨fun y=> ?_,(hf.2 n hn).2⟩⟩;have e1:¬n=d2:=fun c=>by have:=(hf.2 n hn).1 none;subst c;simp[lookR]at this
           have e2:¬n=999999:=fun c=>by have:=(hf.2 n hn).1 none;simp only[lookR]at this;rw[nbeq_ne e1]at this;subst c;simp at this
           simp only[lookR];rw[nbeq_ne e2,nbeq_ne e1];rfl
         · exact hu.elim
       · exact all hkk hk
     · exact hk.elim
   · rename_i hcc;split at hk
     · rename_i x y ty ty2 ha hty;have hx:x ∈ o.op.operands.toList:=by simp[ho,Op.operands,Call.operands,hcc,ha]
       have hy:y ∈ o.op.operands.toList:=by simp[ho,Op.operands,Call.operands,hcc,ha]
       have hnm:=nm_ev hf hx;rw[ev_alike hf hx,ev_alike hf hy];unfold mapDelU at hk ⊢;split at hk
       · rename_i d hme;rw[hme]at hnm;have hrd:=hnm d (by simp[nm1]);obtain⟨h1,hk⟩:=br_false_elim hk;refine br_false (notmem_mono hav h1) ?_;unfold deleteE mapOf at hk ⊢;split at hk
         · split at hk
           · rename_i te d' hte he1;cases he1;rw[hrd];split at hk
             · obtain⟨hb,hk⟩:=br_elim hk;refine br_true hb ?_;split at hk
               · obtain⟨hb2,hk⟩:=br_elim hk;refine br_true hb2 (hkk _ hk ⟨rfl,fun n' hn' =>⟨fun y=> ?_,rfl⟩⟩);simp only[lookR];rw[nbeq_ne (ne_of_mem h1 hn')];rfl
               · exact hk.elim
             · exact hk.elim
           · exact hk.elim
         · exact hk.elim
       · exact hk.elim
     · exact hk.elim
   · rename_i h1 h2 h3;exfalso
     unfold evP at hk;simp only[ho]at hk;split at hk
     · rename_i hcc _ _;simp[quietO,ho,hcc]at hq
     · rename_i hcc _;simp[quietO,ho,hcc]at hq
     · rename_i hcc _;simp[quietO,ho,hcc]at hq
     · rename_i hcc _;simp[quietO,ho,hcc]at hq
     · rename_i hcc _;simp[quietO,ho,hcc]at hq
     · exact hk
 · rename_i ty x lo hi mx ho;have hf:=h.full (by simp[isMv,ho]);have hx:x ∈ o.op.operands.toList:=by simp[ho,Op.operands]
   have hlo:∀y,lo=some y→y ∈ o.op.operands.toList:=fun y hy=>by subst hy;simp[ho,Op.operands]
   have hhi:∀y,hi=some y→y ∈ o.op.operands.toList:=fun y hy=>by subst hy;simp[ho,Op.operands]
   have hnm:=nm_ev hf hx;rw[ev_alike hf hx];split at hk
   · rename_i d hd;rw[hd]at hnm;have hr:=hnm d (by simp[nm1]);split at hk
     · rw [opt_ev_alike hf hlo,opt_ev_alike hf hhi];have hmut:isMut C o.dst=true:=by simpa [quietO,ho]using hq
       rw[hmut]at hk ⊢;simp only[br]at hk ⊢;obtain⟨h1,hk⟩:=br_elim hk;simp only[Bool.not_eq_true',Bool.or_eq_false_iff]at h1;refine br_true ?_ ?_
       · simp only[Bool.not_eq_true',Bool.or_eq_false_iff];refine⟨notmem_mono hav h1.1,?_⟩
         cases hd':o.dst with
         |none=>rfl
         |some d' =>rw[hd']at h1;exact notmem_mono hav h1.2
       · unfold prefixE at hk ⊢;rw[hr];split at hk
         · rename_i e kk n g d' hres hdst;obtain⟨hq',hk⟩:=br_elim hk;rw[hu d' hdst];rw[hdst]at h1;refine br_true hq' (cutB_mono (fun j hh hj=>⟨hj.1,hkk _ hj.2 ⟨hdst.symm,fun n hn=>⟨fun y=> ?_,?_⟩⟩⟩) hk)
           · simp only[lookR];rw[nbeq_ne (ne_of_mem h1.2 hn),nbeq_ne (ne_of_mem h1.1 hn)];rfl
           · simp only[mem];rw[nbeq_ne (ne_of_mem h1.2 hn)];rfl
         · exact hk.elim
     · exact hk.elim
   · obtain⟨v,h1,h2⟩:=evP_single T o s _ hk;exact evP_alike h (h2 _ (hkk _ h1 ⟨rfl,fun n hn=>⟨fun _=>rfl,rfl⟩⟩))
 · rename_i ty m x ok ho;have hf:=h.full (by simp[isMv,ho]);have hm:m ∈ o.op.operands.toList:=by simp[ho,Op.operands]
   have hmut:isMut C o.dst=true:=by simpa [quietO,ho]using hq
   have hnm:=nm_ev hf hm;rw[ev_alike hf hm,ev_alike hf (x:=x) (by simp[ho,Op.operands])];rw[hmut]at hk ⊢;simp only[br]at hk ⊢
   cases ok with
   |true=>exact hk
   | false =>
     simp only at hk ⊢;unfold takeE at hk ⊢;split at hk
     · rename_i kt vt _ _ _ _ n hty hdst;split at hk
       · rename_i te d hte hme;rw[hme]at hnm;rw[hnm d (by simp[nm1])];split at hk
         · split at hk
           · obtain⟨hb,hk⟩:=br_elim hk;simp only[Bool.and_eq_true,Bool.not_eq_true',Bool.or_eq_false_iff]at hb;obtain⟨b1,b2,b3,b4,b5,b6,b7⟩:=hb;refine br_true ?_ (hkk _ hk ⟨hdst.symm,fun n' hn' =>⟨fun y=> ?_,?_⟩⟩)
             · simp only[Bool.and_eq_true,Bool.not_eq_true',Bool.or_eq_false_iff];exact⟨b1,b2,b3,b4,(hu n hdst).trans b5,notmem_mono hav b6,notmem_mono hav b7⟩
             · simp only[lookR];rw[nbeq_ne (ne_of_mem b7 hn'),nbeq_ne (ne_of_mem b6 hn')];rfl
             · simp only[mem];rw[nbeq_ne (ne_of_mem b7 hn')];rfl
           · exact hk.elim
         · exact hk.elim
       · exact hk.elim
     · exact hk.elim
 · rename_i ty m key x ho;have hf:=h.full (by simp[isMv,ho]);have hm:m ∈ o.op.operands.toList:=by simp[ho,Op.operands]
   have hx:x ∈ o.op.operands.toList:=by simp[ho,Op.operands]
   have hnm:=nm_ev hf hm;have hnx:=nm_ev hf hx;rw[ev_alike hf hm,ev_alike hf (x:=key) (by simp[ho,Op.operands]),ev_alike hf hx];unfold mapUpdU at hk ⊢;split at hk
   · rename_i d hme;rw[hme]at hnm;have hrd:=hnm d (by simp[nm1]);obtain⟨h1,hk⟩:=br_false_elim hk;refine br_false (notmem_mono hav h1) ?_;rw[hrd];split at hk
     · unfold backE at hk ⊢;split at hk
       · split at hk
         · rename_i d' n he1 he2;cases he1;rw[he2]at hnx;rw[hrd,hnx n (by simp[nm1])];split at hk
           · split at hk
             · obtain⟨hb,hkh,hk⟩:=br_elim hk;simp only[Bool.and_eq_true,Bool.not_eq_true',Bool.or_eq_false_iff]at hb;obtain⟨b1,b2,b3,b4,b5,b6,b7⟩:=hb;refine br_true ?_ ⟨hkh,hkk _ hk ⟨rfl,fun n' hn' =>⟨fun y=> ?_,rfl⟩⟩⟩
               · simp only[Bool.and_eq_true,Bool.not_eq_true',Bool.or_eq_false_iff];exact⟨b1,b2,b3,b4,b5,notmem_mono hav b6,notmem_mono hav b7⟩
               · simp only[lookR];rw[nbeq_ne (ne_of_mem b7 hn'),nbeq_ne (ne_of_mem b6 hn')];rfl
             · exact hk.elim
           · exact hk.elim
         · exact hk.elim
       · exact hk.elim
     · unfold mapUpdateE mapOf at hk ⊢;split at hk
       · split at hk
         · rename_i te d' hte he1;cases he1;rw[hrd];split at hk
           · obtain⟨hb,hk⟩:=br_elim hk;refine br_true hb ?_;split at hk
             · obtain⟨hb2,hk⟩:=br_elim hk;refine br_true hb2 (hkk _ hk ⟨rfl,fun n' hn' =>⟨fun y=> ?_,rfl⟩⟩);simp only[lookR];rw[nbeq_ne (ne_of_mem h1 hn')];rfl
             · exact hk.elim
           · exact hk.elim
         · exact hk.elim
       · exact hk.elim
   · exact hk.elim
 · rename_i ty m key ho;have hf:=h.full (by simp[isMv,ho]);have hm:m ∈ o.op.operands.toList:=by simp[ho,Op.operands]
   have hnm:=nm_ev hf hm;rw[ev_alike hf hm,ev_alike hf (x:=key) (by simp[ho,Op.operands])];unfold mapEntU at hk ⊢;split at hk
   · rename_i d hme;rw[hme]at hnm;have hrd:=hnm d (by simp[nm1]);obtain⟨h1,hk⟩:=br_false_elim hk;rw[Bool.or_eq_false_iff]at h1;refine br_false (by rw[Bool.or_eq_false_iff];exact⟨notmem_mono hav h1.1,notmem_mono hav h1.2⟩) ?_;unfold mapEntryE mapOf at hk ⊢;split at hk
     · split at hk
       · rename_i te d' hte he1;cases he1;rw[hrd];split at hk
         · rename_i ag va ks zr has val hres;obtain⟨hb,hk⟩:=br_elim hk;refine br_true hb ?_;split at hk
           · obtain⟨hb2,hz,hk⟩:=br_elim hk;refine br_true hb2 ⟨hz,fun clock kb b hKB hkb=> ?_⟩;obtain⟨v,hv1,hv2⟩:=rowSV_single _ _ _ (hk clock kb b hKB hkb);exact hv2 _ (hkk0 _ hv1 (.inr (by refine⟨rfl,d,_,_,hrd.trans hres,?_,rfl,rfl,h1.1,h1.2⟩;exact⟨rfl,rfl,rfl,rfl,rfl⟩)))
           · exact hk.elim
         · exact hk.elim
       · exact hk.elim
     · exact hk.elim
   · exact hk.elim
 · rename_i ty m st x ho;have hf:=h.full (by simp[isMv,ho]);have hm:m ∈ o.op.operands.toList:=by simp[ho,Op.operands]
   have hnm:=nm_ev hf hm;rw[ev_alike hf hm,ev_alike hf (x:=st) (by simp[ho,Op.operands]),ev_alike hf (x:=x) (by simp[ho,Op.operands])];unfold entStU at hk ⊢;split at hk
   · rename_i d hme;rw[hme]at hnm;have hrd:=hnm d (by simp[nm1]);obtain⟨h1,hk⟩:=br_false_elim hk;refine br_false (notmem_mono hav h1) ?_;unfold entryStoreE at hk ⊢;split at hk
     · rename_i d' n he1 he2;cases he1;rw[hrd];split at hk
       · split at hk
         · obtain⟨hb,ky,b,hkb,hk⟩:=br_elim hk;refine br_true hb ⟨ky,b,hkb,hkk _ hk ⟨rfl,fun n' hn' =>⟨fun y=> ?_,rfl⟩⟩⟩;simp only[lookR];rw[nbeq_ne (ne_of_mem h1 hn')];rfl
         · exact hk.elim
       · exact hk.elim
     · exact hk.elim
   · exact hk.elim
 · rename_i n1 n2 n3 n4 n5 n6 n7 n8 n9 n10 n11;exfalso;unfold quietO at hq;split at hq
   · rename_i ho;exact n5 _ _ _ ho
   · rename_i ho;exact n7 _ _ _ _ _ ho
   · rename_i ho;exact n6 _ ho
   · rename_i ho;exact n8 _ _ _ _ ho
   · rename_i ho;exact n9 _ _ _ _ ho
   · rename_i ho;exact n10 _ _ _ ho
   · rename_i ho;exact n11 _ _ _ _ ho
   · cases hq
end
end Go.Eng
namespace Go.Eng
open Go
abbrev Ent:=Nat×List Nat×List Nat
def readsOf (un:List Nat):List Ent→List Nat
 | []=> []
 |(i,r,_)::l=>bif mem un i then r++readsOf un l else readsOf un l
def newsOf (un:List Nat):List Ent→List Nat
 | []=> []
 |(i,_,w)::l=>bif mem un i then w++newsOf un l else newsOf un l
def avoid (un:List Nat)(rd:List Ent):List Nat:=(readsOf un rd++newsOf un rd)++(newsOf un rd).map (· +1099511627776)
theorem avoid_sub {un:List Nat}{rd rd':List Ent}(hr:∀n,n ∈ readsOf un rd'→n ∈ readsOf un rd)(hn:∀n,n ∈ newsOf un rd'→n ∈ newsOf un rd){n:Nat}(h:n ∈ avoid un rd'):n ∈ avoid un rd:=by
 unfold avoid at h ⊢;rcases List.mem_append.1 h with q|q
 · rcases List.mem_append.1 q with q|q
   · exact List.mem_append_left _ (List.mem_append_left _ (hr n q))
   · exact List.mem_append_left _ (List.mem_append_right _ (hn n q))
 · obtain⟨m,hm,e⟩:=List.mem_map.1 q;exact List.mem_append_right _ (List.mem_map.2 ⟨m,hn m hm,e⟩)
def disjN (l m:List Nat):Bool:=l.all fun n=> !mem m n
theorem disjN_spec {l m:List Nat}(h:disjN l m=true){n:Nat}(hn:n ∈ l):mem m n=false:=by
 have:=List.all_eq_true.1 h n hn;simpa using this
theorem disjN_mk {l m:List Nat}(h:∀n ∈ l,mem m n=false):disjN l m=true:=by
 refine List.all_eq_true.2 (fun n hn=> ?_);rw[h n hn];rfl
theorem readsOf_mem {un:List Nat}{rd:List Ent}{n:Nat}:n ∈ readsOf un rd↔∃e ∈ rd,mem un e.1=true∧n ∈ e.2.1:=by
 induction rd with
 |nil=>simp[readsOf]
 | cons e l ih=>
   obtain⟨i,r,w⟩:=e;simp only[readsOf]
   cases h:mem un i with
   |false=>simp[ih,h]
   |true=>simp[ih,h]
theorem newsOf_mem {un:List Nat}{rd:List Ent}{n:Nat}:n ∈ newsOf un rd↔∃e ∈ rd,mem un e.1=true∧n ∈ e.2.2:=by
 induction rd with
 |nil=>simp[newsOf]
 | cons e l ih=>
   obtain⟨i,r,w⟩:=e;simp only[newsOf]
   cases h:mem un i with
   |false=>simp[ih,h]
   |true=>simp[ih,h]
def softO (o:Oper):Bool:=match o.op with| .lookup _ _ _ false=>true|_=>false
def readsX (o:Oper)(s:St):List Nat:=bif softO o then reads o s else reads o s++(reads o s).map (· +2199023255552)
def SameS (s:St)(rx:List Nat)(u:Upd)(n:Nat):Prop:=(∀y,lookR u.rs n y=y)∨(∃r r',s.res n=some r∧SoftR r r'∧(∀y,lookR u.rs n y=some r')∧n+2199023255552 ∉ rx)
def newsE (o:Oper)(u:Upd):List Nat:=
 bif allocO o then(match o.dst with|some d=> [d]|none=> [])else u.us
section
variable (P:Program) (T:Tab) (C:List Nat) (ops:List Oper)
def opD (i:Nat)(un:List Nat)(rd:List Ent)(s:St)(K:List Ent→St→Prop):Prop:=
 match ops.drop i with
 | o ::_=>guardE s ops o.guard
    (fun s=>br (disjN (reads o s) (newsOf un rd)) (stepU P T C o s (avoid un rd) fun u=>forceU u fun u=>br (!quietO C o||disjN (newsE o u) (readsOf un rd)) (forceN (readsX o s) fun rl=>forceN (newsE o u) fun nl=>K ((i,rl,nl)::rd) (s.app u)) False) False)
    (fun s=>forceO o.dst fun dst=>K ((i,[],[])::rd) (s.app ⟨dst,.undef,[],[]⟩))
 | []=>False
def opsD:List (Nat×List Nat)→List Ent→(St→Prop)→St→Prop
 | [],_,k,s=>k s
 |(i,un)::L,rd,k,s=>opD P T C ops i un rd s fun rd s=>opsD L rd k s
def opS (i:Nat)(un:List Nat)(rd:List Ent)(s:St)(K:List Ent→St→Prop):Prop:=
 ∃ o,ops[i]? =some o∧
  ((gsem s ops o.guard=some true∧disjN (reads o s) (newsOf un rd)=true∧
     stepU P T C o s (avoid un rd) fun u=>(quietO C o=true→disjN (newsE o u) (readsOf un rd)=true)∧K ((i,readsX o s,newsE o u)::rd) (s.app u))∨
   (gsem s ops o.guard=some false∧K ((i,[],[])::rd) (s.app ⟨o.dst,.undef,[],[]⟩)))
def opsS:List (Nat×List Nat)→List Ent→(St→Prop)→St→Prop
 | [],_,k,s=>k s
 |(i,un)::L,rd,k,s=>opS P T C ops i un rd s fun rd s=>opsS L rd k s
end
section
variable {P:Program} {T:Tab} {C:List Nat} {ops:List Oper}
theorem Alike.refl (o:Oper)(s:St):Alike o s s:=⟨fun _ _=>rfl,fun _ _=>rfl⟩
theorem stepU_mono {o:Oper}{s:St}{av:List Nat}{k k':Upd→Prop}(h:stepU P T C o s av k)(hk:∀u,k u→k' u):stepU P T C o s av k':=by
 cases hq:quietO C o with
 | true=>
   obtain⟨u,h1,_,h3⟩:=stepU_single hq h
   exact h3 av k' (hk u h1)
 |false=>exact effect_alike (Alike.refl o s) (fun _ _=>rfl) hq (fun _ _ _=>⟨rfl,rfl⟩) (fun _ _ _=>rfl) (fun _ h=>h) (fun u h1 _=>hk u h1) h
theorem stepU_av {o:Oper}{s:St}{av av':List Nat}{k:Upd→Prop}(h:stepU P T C o s av k)(hav:∀n,mem av' n=true→mem av n=true):stepU P T C o s av' k:=by
 cases hq:quietO C o with
 | true=>
   obtain⟨u,h1,_,h3⟩:=stepU_single hq h
   exact h3 av' k h1
 |false=>exact effect_alike (Alike.refl o s) (fun _ _=>rfl) hq (fun _ _ _=>⟨rfl,rfl⟩) (fun _ _ _=>rfl) hav (fun u h1 _=>h1) h
theorem opD_S {i:Nat}{un:List Nat}{rd:List Ent}{s:St}{K K':List Ent→St→Prop}(hK:∀rd s,K rd s→K' rd s)(h:opD P T C ops i un rd s K):opS P T C ops i un rd s K':=by
 unfold opD at h;split at h
 · rename_i o r hd
   have ho:ops[i]? =some o:=by
    have:(ops.drop i)[0]? =some o:=by rw[hd];rfl
    rwa [List.getElem?_drop,Nat.add_zero]at this
   refine⟨o,ho,?_⟩;rcases guardE_gsem h with⟨h1,h2⟩|⟨h1,h2⟩
   · obtain⟨h3,h4⟩:=br_elim h2;refine .inl ⟨h1,h3,stepU_mono h4 (fun u hu=> ?_)⟩;rw[forceU_eq]at hu;obtain⟨h5,h6⟩:=br_elim hu;rw[forceN_eq,forceN_eq]at h6;refine⟨fun hq=> ?_,hK _ _ h6⟩;rw[hq]at h5;simpa using h5
   · rw[forceO_eq]at h2;exact .inr ⟨h1,hK _ _ h2⟩
 · exact h.elim
theorem opsD_S:∀ {L:List (Nat×List Nat)} {rd:List Ent} {k:St→Prop} {s:St},opsD P T C ops L rd k s→opsS P T C ops L rd k s:=by
 intro L
 induction L with
 |nil=>intro rd k s h;exact h
 |cons p L ih=>obtain⟨i,un⟩:=p;intro rd k s h;exact opD_S (fun rd s h=>ih h) h
theorem opS_mono {i:Nat}{un:List Nat}{rd:List Ent}{s:St}{K K':List Ent→St→Prop}(hK:∀rd s,K rd s→K' rd s)(h:opS P T C ops i un rd s K):opS P T C ops i un rd s K':=by
 obtain⟨o,ho,h⟩:=h;refine⟨o,ho,?_⟩;rcases h with⟨h1,h2,h3⟩|⟨h1,h2⟩
 · exact .inl ⟨h1,h2,stepU_mono h3 (fun u hu=>⟨hu.1,hK _ _ hu.2⟩)⟩
 · exact .inr ⟨h1,hK _ _ h2⟩
theorem opS_rd {i:Nat}{un:List Nat}{rd rd':List Ent}{s:St}{K K':List Ent→St→Prop}(hrd:∀e ∈ rd',e ∈ rd)(hK:∀e s,K (e::rd) s→K' (e::rd') s)(h:opS P T C ops i un rd s K):
 opS P T C ops i un rd' s K':=by
 have hr:∀n,n ∈ readsOf un rd'→n ∈ readsOf un rd:=fun n hn=>by
  rw[readsOf_mem]at hn ⊢;obtain⟨e,he,h⟩:=hn;exact⟨e,hrd e he,h⟩
 have hn:∀n,n ∈ newsOf un rd'→n ∈ newsOf un rd:=fun n hn=>by
  rw[newsOf_mem]at hn ⊢;obtain⟨e,he,h⟩:=hn;exact⟨e,hrd e he,h⟩
 have mr:∀ {l l':List Nat},(∀n,n ∈ l'→n ∈ l)→∀ {m},disjN m l=true→disjN m l' =true:=fun hl m hm=>disjN_mk fun n hn=>by
  have:=disjN_spec hm hn;refine notmem_mono (fun c hc=> ?_) this;rw[mem_iff]at hc ⊢;exact hl c hc
 obtain⟨o,ho,h⟩:=h;refine⟨o,ho,?_⟩;rcases h with⟨h1,h2,h3⟩|⟨h1,h2⟩
 · refine .inl ⟨h1,mr hn h2,stepU_mono (stepU_av h3 (fun n hn' => ?_)) (fun u hu=>⟨fun hq=>mr hr (hu.1 hq),hK _ _ hu.2⟩)⟩;rw[mem_iff]at hn' ⊢;exact avoid_sub hr hn hn'
 · exact .inr ⟨h1,hK _ _ h2⟩
theorem opsS_rd:∀ {L:List (Nat×List Nat)} {rd rd':List Ent} {k:St→Prop} {s:St},(∀e ∈ rd',e ∈ rd)→opsS P T C ops L rd k s→opsS P T C ops L rd' k s:=by
 intro L
 induction L with
 |nil=>intro rd rd' k s _ h;exact h
 | cons p L ih=>
   obtain⟨i,un⟩:=p;intro rd rd' k s hrd h;refine opS_rd hrd (fun e s h=>ih (fun e' he' => ?_) h) h;rcases List.mem_cons.1 he' with q|q
   · rw[q];exact List.mem_cons_self
   · exact List.mem_cons_of_mem _ (hrd e' q)
def gslot (ops:List Oper)(o:Oper):Option Nat:=
 match o.guard with
 |none=>none
 | some (j,_)=>match ops.drop j with
   |oj::_=>oj.dst
   | []=>none
theorem gsem_congr {s s':St}{o:Oper}(h:∀t,gslot ops o=some t→s'.tmps t=s.tmps t):gsem s' ops o.guard=gsem s ops o.guard:=by
 unfold gslot at h;unfold gsem;split
 · rfl
 · rename_i j want hg;rw[hg]at h;split
   · rename_i oj r hj;simp only[hj]at h;split
     · rename_i t ht;rw[h t ht]
     · rfl
   · rfl
theorem nm1_alike {s s':St}{x:SV}(h:∀n ∈ nm1 s x,s'.res n=s.res n):nm1 s' x=nm1 s x:=by
 cases x<;>try rfl
 rename_i d off;have:=h d (by simp[nm1]);simp only[nm1,this]
theorem nmAll_alike {s s':St}:∀ {l:List Nat},(∀t ∈ l,s'.tmps t=s.tmps t)→(∀n ∈ nmAll s l,s'.res n=s.res n)→nmAll s' l=nmAll s l:=by
 intro l
 induction l with
 |nil=>intro _ _;rfl
 | cons t l ih=>
   intro h1 h2;simp only[nmAll]
   rw[h1 t List.mem_cons_self,nm1_alike (fun n hn=>h2 n (by simp only[nmAll];exact List.mem_append_left _ hn)),
    ih (fun t ht=>h1 t (List.mem_cons_of_mem _ ht)) (fun n hn=>h2 n (by simp only[nmAll];exact List.mem_append_right _ hn))]
theorem reads_alike {o:Oper}{s s':St}(h:Alike o s s'):reads o s' =reads o s:=by
 unfold reads
 cases hm:isMv o with
 |true=>rfl
 |false=>rw[nmAll_alike h.tm (h.full hm).rs]
structure Apart (ops:List Oper)(x y:Oper):Prop where
 xy:∀d,x.dst=some d→d ∉ slotsOf y∧gslot ops y≠some d∧y.dst≠some d
 yx:∀d,y.dst=some d→d ∉ slotsOf x∧gslot ops x≠some d
def apartB (ops:List Oper)(x y:Oper):Bool:=
 (match x.dst with|some d=> !mem (slotsOf y) d&&(match gslot ops y with|some t=> !Nat.beq t d|none=>true)&&(match y.dst with|some t=> !Nat.beq t d|none=>true)|none=>true)&&
 (match y.dst with|some d=> !mem (slotsOf x) d&&(match gslot ops x with|some t=> !Nat.beq t d|none=>true)|none=>true)
theorem apartB_spec {x y:Oper}(h:apartB ops x y=true):Apart ops x y:=by
 unfold apartB at h;rw[Bool.and_eq_true]at h;obtain⟨h1,h2⟩:=h
 have hm:∀ {l:List Nat} {d:Nat},(!mem l d)=true→d ∉ l:=fun hq hd=>by
  rw[←mem_iff]at hd;rw[hd]at hq;cases hq
 have ho:∀ {x:Option Nat} {d:Nat},(match x with|some t=> !Nat.beq t d|none=>true)=true→x≠some d:=fun hq e=>by
  subst e;simp at hq
 constructor
 · intro d hd;rw[hd]at h1;simp only[Bool.and_eq_true]at h1;exact⟨hm h1.1.1,ho h1.1.2,ho h1.2⟩
 · intro d hd;rw[hd]at h2;simp only[Bool.and_eq_true]at h2;exact⟨hm h2.1,ho h2.2⟩
theorem app_tmps {s:St}{u:Upd}{t:Nat}(h:u.dst≠some t):(s.app u).tmps t=s.tmps t:=by
 simp only[St.app,putT_apply,if_neg h]
theorem opS_move {x i:Nat}{ox oi:Oper}{uni rx nx:List Nat}{rd:List Ent}{s:St}{ux:Upd}{Ki Ki':List Ent→St→Prop}(hi:ops[i]? =some oi)
 (hap:Apart ops ox oi)(hdx:ux.dst=ox.dst)(hfx:∀n,n ∉ nx→(∀y,lookR ux.rs n y=y)∧mem ux.us n=false)(hnx:∀n ∈ nx,ox.dst=some n)(hun:mem uni x=true)
 (h:opS P T C ops i uni ((x,rx,nx)::rd) (s.app ux) Ki)
 (hin:∀ (ei:Ent) ui,ei.1=i→Ki (ei::(x,rx,nx)::rd) ((s.app ux).app ui)→ui.dst=oi.dst→(∀n ∈ rx,SameS s rx ui n)→(∀n ∈ nx,(∀y,lookR ui.rs n y=y)∧mem ui.us n=false)→Ki' (ei::rd) (s.app ui)):
 opS P T C ops i uni rd s Ki':=by
 obtain⟨o,ho,h⟩:=h;rw[hi]at ho;cases ho
 have hg:gsem (s.app ux) ops oi.guard=gsem s ops oi.guard:=gsem_congr fun t ht=>app_tmps (by
  rw[hdx];intro e;exact(hap.xy t e).2.1 ht)
 refine⟨oi,hi,?_⟩;rw[hg]at h;rcases h with⟨h1,h2,h3⟩|⟨h1,h2⟩
 · have hnews:∀n,mem (newsOf uni ((x,rx,nx)::rd)) n=false→n ∉ nx:=fun n hn hx=>by
    have:n ∈ newsOf uni ((x,rx,nx)::rd):=newsOf_mem.2 ⟨_,List.mem_cons_self,hun,hx⟩;rw[←mem_iff]at this;rw[hn]at this;cases this
   have hal:Alike oi (s.app ux) s:=by
    refine⟨fun t ht=>(app_tmps ?_).symm,fun n hn=> ?_⟩
    · rw[hdx];intro e;exact(hap.xy t e).1 ht
    · have:=hnews n (disjN_spec h2 hn);simp only[St.app,putR_apply];exact((hfx n this).1 _).symm
   have hu:∀d,oi.dst=some d→s.used d=(s.app ux).used d:=by
    intro d hd;have:d ∉ nx:=fun hx=>(hap.xy d (hnx d hx)).2.2 hd
    simp only[St.app,putU_apply,(hfx d this).2,Bool.false_or]
   have hsub:∀ {l l':List Nat},(∀n,n ∈ l'→n ∈ l)→∀ {m},disjN m l=true→disjN m l' =true:=fun hl m hm=>disjN_mk fun n hn=>by
    refine notmem_mono (fun c hc=> ?_) (disjN_spec hm hn);rw[mem_iff]at hc ⊢;exact hl c hc
   have hr:∀n,n ∈ readsOf uni rd→n ∈ readsOf uni ((x,rx,nx)::rd):=fun n hn=>by
    rw[readsOf_mem]at hn ⊢;obtain⟨e,he,h⟩:=hn;exact⟨e,List.mem_cons_of_mem _ he,h⟩
   have hn:∀n,n ∈ newsOf uni rd→n ∈ newsOf uni ((x,rx,nx)::rd):=fun n hn=>by
    rw[newsOf_mem]at hn ⊢;obtain⟨e,he,h⟩:=hn;exact⟨e,List.mem_cons_of_mem _ he,h⟩
   have hre:=reads_alike hal;have hreX:readsX oi s=readsX oi (s.app ux):=by unfold readsX;rw[hre]
   have hrx:∀n ∈ rx,n ∈ readsOf uni ((x,rx,nx)::rd):=fun n hn=>readsOf_mem.2 ⟨_,List.mem_cons_self,hun,hn⟩
   have hnx':∀n ∈ nx,n ∈ newsOf uni ((x,rx,nx)::rd):=fun n hn=>newsOf_mem.2 ⟨_,List.mem_cons_self,hun,hn⟩
   refine .inl ⟨h1,?_,?_⟩
   · rw[hre];exact hsub hn h2
   · cases hq:quietO C oi with
     | true=>
       have h4:=quiet_alike (av':=avoid uni rd) hal (fun _=>hu) hq h3;obtain⟨ui,⟨k1,k2⟩,⟨k3,k4⟩,k5⟩:=stepU_single hq h4;refine k5 _ _ ⟨fun _=>hsub hr (k1 hq),?_⟩
       have hd:∀n,n ∈ ui.us→n ∈ newsE oi ui:=by
        intro n hn;unfold newsE
        cases ha:allocO oi with
        |false=>exact hn
        | true=>
          rcases k4 with⟨_,q⟩|⟨d,r,q1,q2,q3⟩
          · rw[q]at hn;cases hn
          · rw[q3]at hn;rw[q1];exact hn
       rw[hreX];refine hin _ ui rfl k2 k3 (fun n hn=>.inl fun y=> ?_) (fun n hn=> ?_)
       · rcases k4 with⟨q,_⟩|⟨d,r,q1,q2,q3⟩
         · rw[q];rfl
         · rw[q2]
           have hdn:n≠d:=fun e=>by
            have h6:=disjN_spec (k1 hq) (hd d (by rw[q3];exact List.mem_cons_self));have h7:=(mem_iff _ _).2 (hrx n hn);rw[e,h6]at h7;cases h7
           simp only[lookR];rw[nbeq_ne hdn];rfl
       · rcases k4 with⟨q,q'⟩|⟨d,r,q1,q2,q3⟩
         · rw[q,q'];exact⟨fun _=>rfl,rfl⟩
         · rw[q2,q3];have hdn:n≠d:=fun e=>by subst e;exact(hap.xy n (hnx n hn)).2.2 q1
           exact⟨fun y=>by simp only[lookR];rw[nbeq_ne hdn];rfl,by simp only[mem];rw[nbeq_ne hdn];rfl⟩
     | false =>
       refine effect_alike hal hu hq (fun _ c hc=> ?_) (fun _ c hc=> ?_) (fun n hn' => ?_) (fun ui hui hfp=> ?_) h3
       rotate_left
       · have:c ∉ nx:=fun hx=>by
          have h6:=(mem_iff (avoid uni ((x,rx,nx)::rd)) (c+1099511627776)).2 (List.mem_append_right _ (List.mem_map.2 ⟨c,hnx' c hx,rfl⟩));rw[hc]at h6;cases h6
         simp only[St.app,putR_apply];exact((hfx c this).1 _).symm
       rotate_right
       · have:c ∉ nx:=fun hx=>by
          have h6:=(mem_iff (avoid uni ((x,rx,nx)::rd)) c).2 (List.mem_append_left _ (List.mem_append_right _ (hnx' c hx)));rw[hc]at h6;cases h6
         simp only[St.app,putR_apply,putU_apply,(hfx c this).2,Bool.false_or];exact⟨((hfx c this).1 _).symm,by first|rfl|trivial⟩
       · rw[mem_iff]at hn' ⊢;exact avoid_sub hr hn hn'
       · refine⟨fun hq' =>(by cases hq'),?_⟩;rw[hreX];have ar:∀n ∈ rx,mem (avoid uni ((x,rx,nx)::rd)) n=true:=fun n hn=>by rw[mem_iff];exact List.mem_append_left _ (List.mem_append_left _ (hrx n hn))
         have an:∀n ∈ nx,mem (avoid uni ((x,rx,nx)::rd)) n=true:=fun n hn=>by rw[mem_iff];exact List.mem_append_left _ (List.mem_append_right _ (hnx' n hn))
         have an2:∀n ∈ nx,mem (avoid uni ((x,rx,nx)::rd)) (n+1099511627776)=true:=fun n hn=>by rw[mem_iff];exact List.mem_append_right _ (List.mem_map.2 ⟨n,hnx' n hn,rfl⟩)
         rcases hfp with hfp|⟨f1,d,r,r',f2,f3,f4,f5,f6,f7⟩
         · exact hin _ ui rfl hui.2 hfp.1 (fun n hn=>.inl (hfp.2 n (ar n hn)).1) (fun n hn=>hfp.2 n (an n hn))
         · refine hin _ ui rfl hui.2 f1 (fun n hn=> ?_) (fun n hn=> ?_)
           · by_cases hnd:n=d
             · subst hnd;refine .inr ⟨r,r',f2,f3,fun y=>by rw[f4];simp[lookR],fun hx=> ?_⟩;have:=ar _ hx;rw[f7]at this;cases this
             · exact .inl fun y=>by rw[f4];simp only[lookR];rw[nbeq_ne hnd];rfl
           · have hnd:n≠d:=fun e=>by
              have:=an2 n hn;rw[e,f6]at this;cases this
             exact⟨fun y=>by rw[f4];simp only[lookR];rw[nbeq_ne hnd];rfl,by rw[f5];rfl⟩
 · refine .inr ⟨h1,hin _ _ rfl h2 rfl (fun _ _=>.inl fun _=>rfl) (fun _ _=>⟨fun _=>rfl,rfl⟩)⟩
theorem nmAll_soft {s s':St}:∀ {l:List Nat},(∀t ∈ l,s'.tmps t=s.tmps t)→(∀n ∈ nmAll s l,s'.res n=s.res n∨∃r r',s.res n=some r∧SoftR r r'∧s'.res n=some r')→nmAll s' l=nmAll s l:=by
 intro l
 induction l with
 |nil=>intro _ _;rfl
 | cons t l ih=>
   intro h1 h2;simp only[nmAll];rw[h1 t List.mem_cons_self,ih (fun t ht=>h1 t (List.mem_cons_of_mem _ ht)) (fun n hn=>h2 n (by simp only[nmAll];exact List.mem_append_right _ hn))];congr 1
   have h3:∀n ∈ nm1 s (s.tmps t),s'.res n=s.res n∨∃r r',s.res n=some r∧SoftR r r'∧s'.res n=some r':=fun n hn=>h2 n (by simp only[nmAll];exact List.mem_append_left _ hn)
   generalize s.tmps t=x at h3;cases x<;>try rfl
   rename_i d off;rcases h3 d (by simp[nm1])with q|⟨r,r',q1,q2,q3⟩
   · simp only[nm1,q]
   · simp only[nm1,q1,q3];cases r<;>cases r'<;>first|rfl|exact q2.elim
theorem norm_soft {s s':St}{y:SV}(h:∀d,y= .buf d→s'.res d=s.res d∨∃r r',s.res d=some r∧SoftR r r'∧s'.res d=some r'):s'.norm y=s.norm y:=by
 unfold St.norm;cases y<;>try rfl
 rename_i d
 dsimp only
 rcases h _ rfl with q|⟨r,r',q1,q2,q3⟩
 · rw[q]
 · rw[q1,q3];cases r<;>cases r'<;>first|rfl|exact q2.elim
theorem soft_alike {o:Oper}{s s':St}(hso:softO o=true)(hq:quietO C o=true)(htm:∀t ∈ slotsOf o,s'.tmps t=s.tmps t)
 (hrs:∀n ∈ reads o s,s'.res n=s.res n∨∃r r',s.res n=some r∧SoftR r r'∧s'.res n=some r'){av av':List Nat}{k:Upd→Prop}(hk:stepU P T C o s av k):reads o s' =reads o s∧stepU P T C o s' av' k:=by
 unfold softO at hso;split at hso
 · rename_i ty m x ho;have hmv:isMv o=false:=by simp[isMv,ho]
   have hap:isApp o=false:=by simp[isApp,ho]
   have hrd:reads o s=nmAll s (slotsOf o):=by unfold reads;rw[hmv,hap];rfl
   have hrd':reads o s' =nmAll s' (slotsOf o):=by unfold reads;rw[hmv,hap];rfl
   rw[hrd]at hrs;refine⟨by rw[hrd,hrd'];exact nmAll_soft htm hrs,?_⟩
   have hev:∀y,y ∈ o.op.operands.toList→s'.ev y=s.ev y:=by
    intro y hy;cases y<;>try rfl
    rename_i t;have ht:=slotsIn_mem hy;simp only[St.ev,St.look];rw[htm t ht];exact norm_soft fun d hd=>hrs d (nmAll_mem ht (by rw[hd];simp[nm1]))
   have hm:m ∈ o.op.operands.toList:=by simp[ho,Op.operands]
   have hx:x ∈ o.op.operands.toList:=by simp[ho,Op.operands]
   have hmu:isMut C o.dst=false:=by simpa [quietO,ho]using hq
   unfold stepU at hk ⊢;rw[ho]at hk ⊢;simp only[hmu,br]at hk ⊢;rw[hev m hm,hev x hx];unfold lookupE mapOfL at hk ⊢;split at hk
   · split at hk
     · rename_i te d hte hme
       have hdm:s'.res d=s.res d∨∃r r',s.res d=some r∧SoftR r r'∧s'.res d=some r':=by
        cases m with
        | tmp t=>
          refine hrs d (nmAll_mem (slotsIn_mem hm) ?_);simp only[St.ev,St.look]at hme;generalize s.tmps t=y at hme;unfold St.norm at hme;cases y<;>simp at hme
          · split at hme<;>cases hme
          · subst hme;simp[nm1]
        | const v=>
          simp only[St.ev]at hme;unfold cst at hme;split at hme
          · rename_i cs
            cases hc:cs.toList.all (·.oneCell')with
            |false=>rw[hc]at hme;cases hme
            |true=>rw[hc]at hme;cases hme
          · cases hme
          · cases hme
        |func f=>cases hme
        |global g=>cases hme
       rcases hdm with q|⟨r,r',q1,q2,q3⟩
       · rw[q];exact hk
       · rw[q1]at hk;rw[q3];cases r<;>cases r'<;>first|exact q2.elim|skip
         obtain⟨rfl,rfl,rfl,rfl,rfl⟩:=q2;exact hk
     · exact hk.elim
   · exact hk.elim
 · cases hso
theorem app_comm {s:St}{u v:Upd}(hd:∀d,u.dst=some d→v.dst≠some d)(hr:∀n y,lookR u.rs n (lookR v.rs n y)=lookR v.rs n (lookR u.rs n y)):(s.app u).app v=(s.app v).app u:=by
 simp only[St.app,St.mk.injEq];refine⟨?_,?_,?_⟩
 · funext i
   simp only[putT_apply]
   by_cases h1:v.dst=some i
   · by_cases h2:u.dst=some i
     · exact absurd h1 (hd i h2)
     · simp[h1,h2]
   · simp[h1]
 · funext n
   simp only[putR_apply];exact(hr n _).symm
 · funext n
   simp only[putU_apply];cases mem v.us n<;>cases mem u.us n<;>rfl
theorem swap {x i:Nat}{ox oi:Oper}{unx uni:List Nat}{rd:List Ent}{s:St}{K:List Ent→St→Prop}(hx:ops[x]? =some ox)(hi:ops[i]? =some oi)(hqx:quietO C ox=true)
 (hap:Apart ops ox oi)(hun:mem uni x=true)(hnu:mem unx i=false)(hK:∀rd rd' s,(∀e ∈ rd',e ∈ rd)→K rd s→K rd' s)
 (h:opS P T C ops x unx rd s fun rd s=>opS P T C ops i uni rd s K):opS P T C ops i uni rd s fun rd s=>opS P T C ops x unx rd s K:=by
 obtain⟨o,ho,h⟩:=h;rw[hx]at ho;cases ho
 have hnewsi:∀ei:Ent,ei.1=i→newsOf unx (ei::rd)=newsOf unx rd∧readsOf unx (ei::rd)=readsOf unx rd:=fun ei he=>by
  obtain⟨j,r,w⟩:=ei;simp only at he;subst he;simp only[newsOf,readsOf,hnu,cond_false,and_self]
 have hgx:∀ui:Upd,ui.dst=oi.dst→gsem (s.app ui) ops ox.guard=gsem s ops ox.guard:=fun ui hui=>gsem_congr fun t ht=>app_tmps (by
  rw[hui];intro e;exact(hap.yx t e).2 ht)
 rcases h with⟨h1,h2,h3⟩|⟨h1,h2⟩
 · obtain⟨ux,⟨k1,k2⟩,⟨k3,k4⟩,k5⟩:=stepU_single hqx h3
   have hus:∀n,n ∉ newsE ox ux→(∀y,lookR ux.rs n y=y)∧mem ux.us n=false:=by
    intro n hn;rcases k4 with⟨q,q'⟩|⟨d,r,q1,q2,q3⟩
    · rw[q,q'];exact⟨fun _=>rfl,rfl⟩
    · have hdn:n≠d:=fun e=>by
       subst e;apply hn
       unfold newsE
       cases ha:allocO ox with
       |true=>rw[q1];exact List.mem_cons_self
       |false=>rw[q3];exact List.mem_cons_self
      rw[q2,q3];exact⟨fun y=>by simp only[lookR];rw[nbeq_ne hdn];rfl,by simp only[mem];rw[nbeq_ne hdn];rfl⟩
   have hnx:∀n ∈ newsE ox ux,ox.dst=some n:=by
    intro n hn;unfold newsE at hn
    cases ha:allocO ox with
    | true=>
      rw[ha]at hn
      cases hd:ox.dst with
      |none=>rw[hd]at hn;cases hn
      |some d=>rw[hd]at hn;simp at hn;rw[hn]
    | false=>
      rw[ha]at hn;rcases k4 with⟨q,q'⟩|⟨d,r,q1,q2,q3⟩
      · simp only[cond_false,q']at hn;cases hn
      · simp only[cond_false,q3,List.mem_singleton]at hn;rw[hn];exact q1
   refine opS_move (x:=x) (ox:=ox) (nx:=newsE ox ux) (rx:=readsX ox s) hi hap k3 hus hnx hun k2 (fun ei ui hei hk hud hr hn=> ?_);have htm:∀t ∈ slotsOf ox,(s.app ui).tmps t=s.tmps t:=fun t ht=>app_tmps (by rw[hud];intro e;exact(hap.yx t e).1 ht)
   have hstep:stepU P T C ox s [] (fun u=>u=ux):=k5 [] (fun u=>u=ux) rfl
   have key:reads ox (s.app ui)=reads ox s∧stepU P T C ox (s.app ui) (avoid unx (ei::rd)) (fun u=>u=ux):=by
    cases hso:softO ox with
    | true=>
      refine soft_alike hso hqx htm (fun n hn' => ?_) hstep;have hn2:n ∈ readsX ox s:=by unfold readsX;rw[hso];exact hn'
      simp only[St.app,putR_apply];rcases hr n hn2 with q|⟨r,r',q1,q2,q3,_⟩
      · exact .inl (q _)
      · exact .inr ⟨r,r',q1,q2,q3 _⟩
    | false=>
      have hal:Alike ox s (s.app ui):=by
       refine⟨htm,fun n hn' => ?_⟩;have hn2:n ∈ readsX ox s:=by unfold readsX;rw[hso];exact List.mem_append_left _ hn'
       simp only[St.app,putR_apply];rcases hr n hn2 with q|⟨r,r',_,_,_,q4⟩
       · exact q _
       · exact absurd (by unfold readsX;rw[hso];exact List.mem_append_right _ (List.mem_map.2 ⟨n,hn',rfl⟩)) q4
      exact⟨reads_alike hal,quiet_alike (av':=avoid unx (ei::rd)) hal (fun ha d hd=>by
       simp only[St.app,putU_apply];have:d ∈ newsE ox ux:=by unfold newsE;rw[ha,hd];exact List.mem_cons_self
       rw[(hn d this).2];rfl) hqx hstep⟩
   obtain⟨hre,hstep2⟩:=key;have hreX:readsX ox (s.app ui)=readsX ox s:=by unfold readsX;rw[hre]
   obtain⟨e1,e2⟩:=hnewsi ei hei;refine⟨ox,hx,.inl ⟨by rw[hgx ui hud];exact h1,by rw[hre,e1];exact h2,?_⟩⟩;refine stepU_mono hstep2 (fun u hu=> ?_);subst hu;refine⟨fun hq=>by rw[e2];exact k1 hq,?_⟩;rw[hreX]
   have hcomm:(s.app u).app ui=(s.app ui).app u:=app_comm (fun d hd=>by rw[hud];exact(hap.xy d (by rw[←k3];exact hd)).2.2) (fun n y=>by
    by_cases hnn:n ∈ newsE ox u
    · rw[(hn n hnn).1,(hn n hnn).1]
    · rw[(hus n hnn).1,(hus n hnn).1])
   rw[←hcomm];refine hK _ _ _ (fun e he=> ?_) hk;simp only[List.mem_cons]at he ⊢;rcases he with q|q|q
   · exact .inr (.inl q)
   · exact .inl q
   · exact .inr (.inr q)
 · refine opS_move (x:=x) (ox:=ox) (nx:= []) (rx:= []) (ux:=⟨ox.dst,.undef,[],[]⟩) hi hap rfl (fun n _=>⟨fun _=>rfl,rfl⟩) (fun n hn=>by cases hn) hun h2 (fun ei ui hei hk hud hr hn=> ?_);refine⟨ox,hx,.inr ⟨by rw[hgx ui hud];exact h1,?_⟩⟩;have hcomm:(s.app ⟨ox.dst,.undef,[],[]⟩).app ui=(s.app ui).app ⟨ox.dst,.undef,[],[]⟩:=app_comm (fun d hd=>by rw[hud];exact(hap.xy d hd).2.2) (fun n y=>rfl);rw[←hcomm];refine hK _ _ _ (fun e he=> ?_) hk;simp only[List.mem_cons]at he ⊢;rcases he with q|q|q
   · exact .inr (.inl q)
   · exact .inl q
   · exact .inr (.inr q)
end
end Go.Eng
namespace Go.Eng
open Go
def edgesL:List Edge→List Nat
 | []=> []
 |e::l=>bif Region.binds .any e then e.on::edgesL l else edgesL l
def edgesOf (o:Oper):List Nat:=edgesL o.after.toList
theorem edgesL_mem {n:Nat}:∀ {l:List Edge},n ∈ edgesL l↔∃e ∈ l,Region.binds .any e=true∧e.on=n:=by
 intro l
 induction l with
 |nil=>simp[edgesL]
 | cons e l ih=>
   simp only[edgesL]
   cases h:Region.binds .any e with
   |false=>simp[ih,h]
   | true=>
     simp only[cond_true,List.mem_cons,ih];constructor
     · rintro(q|⟨e',h1,h2⟩)
       · exact⟨e,.inl rfl,h,q.symm⟩
       · exact⟨e',.inr h1,h2⟩
     · rintro⟨e',h1|h1,h2⟩
       · subst h1;exact .inl h2.2.symm
       · exact .inr ⟨e',h1,h2⟩
inductive Anc (ops:List Oper):Nat→Nat→Prop
 |edge {i e:Nat} {o:Oper} (ho:ops[i]? =some o) (he:e ∈ edgesOf o):Anc ops i e
 |step {i e p:Nat} {o:Oper} (ho:ops[i]? =some o) (he:e ∈ edgesOf o) (h:Anc ops e p):Anc ops i p
def lookA:List (Nat×List Nat)→Nat→List Nat
 | [],_=> []
 |(j,l)::r,d=>bif Nat.beq d j then l else lookA r d
def fsts:List (Nat×List Nat)→List Nat
 | []=> []
 |(j,_)::r=>j::fsts r
def ancOf (acc:List (Nat×List Nat)):List Nat→List Nat
 | []=> []
 |e::l=>e::(lookA acc e++ancOf acc l)
def unOk (C:List Nat)(ops:List Oper)(o:Oper)(pre:List Nat)(x:Nat):Bool:=
 mem pre x&&(match ops.drop x with|ox::_=>quietO C ox&&apartB ops ox o| []=>false)
def regGo (C:List Nat)(ops:List Oper):List (Nat×List Nat)→List (Nat×List Nat)→Bool
 | [],_=>true
 | (i,un)::L,acc=>match ops.drop i with
   | o::_=>
     let anc:=ancOf acc (edgesOf o)
     !mem (fsts acc) i&&(edgesOf o).all (fun e=>mem (fsts acc) e)&&(fsts acc).all (fun p=>mem anc p||mem un p)&&un.all (fun x=>unOk C ops o (fsts acc) x)&&regGo C ops L ((i,anc)::acc)
   | []=>false
def regOk (C:List Nat)(ops:List Oper)(L:List (Nat×List Nat)):Bool:=
 regGo C ops L []&&(List.range ops.length).all (fun i=>mem (fsts L) i)
theorem fsts_mem {L:List (Nat×List Nat)}{i:Nat}:i ∈ fsts L↔∃un,(i,un) ∈ L:=by
 induction L with
 |nil=>simp[fsts]
 | cons p L ih=>
   obtain⟨j,u⟩:=p;simp only[fsts,List.mem_cons,ih,Prod.mk.injEq];constructor
   · rintro(q|⟨un,h⟩)
     · exact⟨u,.inl ⟨q,rfl⟩⟩
     · exact⟨un,.inr h⟩
   · rintro⟨un,⟨q,_⟩|h⟩
     · exact .inl q
     · exact .inr ⟨un,h⟩
theorem lookA_mem {acc:List (Nat×List Nat)}{d p:Nat}(h:p ∈ lookA acc d):∃l,(d,l) ∈ acc∧p ∈ l:=by
 induction acc with
 |nil=>cases h
 | cons q r ih=>
   obtain⟨j,l⟩:=q;simp only[lookA]at h
   by_cases hj:d=j
   · subst hj;simp at h;exact⟨l,List.mem_cons_self,h⟩
   · rw[nbeq_ne hj]at h;obtain⟨l',h1,h2⟩:=ih h;exact⟨l',List.mem_cons_of_mem _ h1,h2⟩
theorem ancOf_mem {acc:List (Nat×List Nat)}{p:Nat}:∀ {l:List Nat},p ∈ ancOf acc l→p ∈ l∨∃e ∈ l,p ∈ lookA acc e:=by
 intro l
 induction l with
 |nil=>intro h;cases h
 | cons e l ih=>
   intro h;simp only[ancOf,List.mem_cons,List.mem_append]at h;rcases h with q|q|q
   · exact .inl (by rw[q];exact List.mem_cons_self)
   · exact .inr ⟨e,List.mem_cons_self,q⟩
   · rcases ih q with q|⟨e',h1,h2⟩
     · exact .inl (List.mem_cons_of_mem _ q)
     · exact .inr ⟨e',List.mem_cons_of_mem _ h1,h2⟩
structure RowOk (C:List Nat)(ops:List Oper)(pre:List Nat)(i:Nat)(un:List Nat)(o:Oper):Prop where
 ho:ops[i]? =some o
 new:i ∉ pre
 edges:∀e ∈ edgesOf o,e ∈ pre
 split:∀p ∈ pre,Anc ops i p∨p ∈ un
 un:∀x ∈ un,x ∈ pre∧∃ox,ops[x]? =some ox∧quietO C ox=true∧Apart ops ox o
theorem drop_get {α:Type}{l:List α}{i:Nat}{x:α}{r:List α}(h:l.drop i=x::r):l[i]? =some x:=by
 have:(l.drop i)[0]? =some x:=by rw[h];rfl
 rwa [List.getElem?_drop,Nat.add_zero]at this
theorem regGo_rows {C:List Nat}{ops:List Oper}:∀ {L acc:List (Nat×List Nat)},(∀j l,(j,l) ∈ acc→∀p ∈ l,Anc ops j p)→regGo C ops L acc=true→
 ∀ (X Y:List (Nat×List Nat)) (i:Nat) (un:List Nat),L=X++(i,un)::Y→∃o,RowOk C ops (fsts X++fsts acc) i un o:=by
 intro L
 induction L with
 |nil=>intro acc _ _ X Y i un h;cases X<;>cases h
 | cons p L ih=>
   obtain⟨i0,un0⟩:=p;intro acc hacc h X Y i un hL;unfold regGo at h;split at h
   · rename_i o r hd;simp only[Bool.and_eq_true]at h;obtain⟨⟨⟨⟨h1,h2⟩,h3⟩,h4⟩,h5⟩:=h;have ho:=drop_get hd
     have hanc:∀p ∈ ancOf acc (edgesOf o),Anc ops i0 p:=by
      intro p hp;rcases ancOf_mem hp with q|⟨e,q1,q2⟩
      · exact .edge ho q
      · obtain⟨l,r1,r2⟩:=lookA_mem q2;exact .step ho q1 (hacc e l r1 p r2)
     have hn:i0 ∉ fsts acc:=fun hq=>by
      rw[←mem_iff]at hq;rw[hq]at h1;cases h1
     cases X with
     | nil=>
       simp only[List.nil_append,List.cons.injEq,Prod.mk.injEq]at hL;obtain⟨⟨rfl,rfl⟩,rfl⟩:=hL;refine⟨o,ho,by simpa [fsts]using hn,fun e he=> ?_,fun p hp=> ?_,fun x hx=> ?_⟩
       · have:=List.all_eq_true.1 h2 e he;rw[mem_iff]at this;simpa [fsts]using this
       · have hp':p ∈ fsts acc:=by simpa [fsts]using hp
         have:=List.all_eq_true.1 h3 p hp';rw[Bool.or_eq_true,mem_iff,mem_iff]at this;rcases this with q|q
         · exact .inl (hanc p q)
         · exact .inr q
       · have:=List.all_eq_true.1 h4 x hx;unfold unOk at this;rw[Bool.and_eq_true,mem_iff]at this;obtain⟨q1,q2⟩:=this;refine⟨by simpa [fsts]using q1,?_⟩;split at q2
         · rename_i ox r' hd';rw[Bool.and_eq_true]at q2;exact⟨ox,drop_get hd',q2.1,apartB_spec q2.2⟩
         · cases q2
     | cons q X=>
       simp only[List.cons_append,List.cons.injEq]at hL;obtain⟨rfl,hL⟩:=hL
       obtain⟨o',ho'⟩:=ih (acc:=(i0,ancOf acc (edgesOf o))::acc) (fun j l hj=>by
        rcases List.mem_cons.1 hj with q|q
        · cases q;exact hanc
        · exact hacc j l q) h5 X Y i un hL
       have hmem:∀p,p ∈ fsts X++fsts ((i0,ancOf acc (edgesOf o))::acc)↔p ∈ fsts ((i0,un0)::X)++fsts acc:=fun p=>by
        simp only[fsts,List.mem_append,List.mem_cons];constructor
        · rintro(q|q|q)
          · exact .inl (.inr q)
          · exact .inl (.inl q)
          · exact .inr q
        · rintro((q|q)|q)
          · exact .inr (.inl q)
          · exact .inl q
          · exact .inr (.inr q)
       exact⟨o',ho'.ho,fun hq=>ho'.new ((hmem _).2 hq),fun e he=>(hmem _).1 (ho'.edges e he),fun p hp=>ho'.split p ((hmem _).2 hp),fun x hx=>⟨(hmem _).1 (ho'.un x hx).1,(ho'.un x hx).2⟩⟩
   · cases h
section
variable {P:Program} {T:Tab} {C:List Nat} {ops:List Oper}
theorem moveAll {i:Nat}{uni:List Nat}{oi:Oper}(hi:ops[i]? =some oi):∀ {X Y:List (Nat×List Nat)} {rd:List Ent} {s:St} {k:St→Prop},
 (∀x unx,(x,unx) ∈ X→(∃ox,ops[x]? =some ox∧quietO C ox=true∧Apart ops ox oi)∧mem uni x=true∧mem unx i=false)→opsS P T C ops (X++(i,uni)::Y) rd k s→
 opsS P T C ops ((i,uni)::(X++Y)) rd k s:=by
 intro X
 induction X with
 |nil=>intro Y rd s k _ h;exact h
 | cons p X ih=>
   obtain⟨x,unx⟩:=p;intro Y rd s k hX h;obtain⟨⟨ox,hx,hq,hap⟩,hm,hn⟩:=hX x unx List.mem_cons_self
   have h1:opS P T C ops x unx rd s (fun rd s=>opS P T C ops i uni rd s fun rd s=>opsS P T C ops (X++Y) rd k s):=
    opS_mono (fun rd s h=>ih (fun x unx hx=>hX x unx (List.mem_cons_of_mem _ hx)) h) h
   exact swap hx hi hq hap hm hn (fun rd rd' s hr h=>opsS_rd hr h) h1
theorem getD_set {l:Array Bool}{i j:Nat}(h:i<l.size):(l.setIfInBounds i true).getD j true=if i=j then true else l.getD j true:=by
 simp only[Array.getD_eq_getD_getElem?]
 by_cases e:i=j
 · subst e;simp[h]
 · rw[Array.getElem?_setIfInBounds_ne e,if_neg e]
theorem any_sound (hT:TabOk P T){A:Amb}{opsA:Array Oper}{L:List (Nat×List Nat)}{k:St→Prop}{Q:Exit→Act→World→Prop}(hQ:∀s a w,k s→Mod A s a w→Q .normal a w)
 (hN:∀o ∈ opsA.toList,opOk A.N o=true)(hrows:∀ (X Y:List (Nat×List Nat)) (i:Nat) (un:List Nat),L=X++(i,un)::Y→∃o,RowOk C opsA.toList (fsts X) i un o)
 (hall:∀i,i<opsA.size→i ∈ fsts L):
 ∀ (fuel:Nat) (listed:Array Bool) (rd:List Ent) (s:St) (a:Act) (w:World),listed.size=opsA.size→
  (∀i o,listed.getD i true=true→opsA[i]? =some o→∀e ∈ edgesOf o,listed.getD e true=true)→
  (L.filter fun p=> !listed.getD p.1 true).length≤fuel→opsS P T C opsA.toList (L.filter fun p=> !listed.getD p.1 true) rd k s→Mod A s a w→wpAny P .any opsA Q fuel listed a w:=by
 intro fuel
 have hready:∀ (listed:Array Bool) i,i ∈ Region.ready .any opsA listed↔∃o,opsA[i]? =some o∧listed.getD i true=false∧∀e ∈ edgesOf o,listed.getD e false=true:=by
  intro listed i;unfold Region.ready;rw[List.mem_filter,List.mem_range];constructor
  · rintro⟨h1,h2⟩;have ho:opsA[i]? =some opsA[i]:=Array.getElem?_eq_getElem h1;refine⟨opsA[i],ho,?_,fun e he=> ?_⟩
    · cases hl:listed.getD i true with
      |false=>rfl
      |true=>rw[hl]at h2;simp at h2
    · rw[ho]at h2;simp only[Option.map_some,Option.getD_some,Bool.and_eq_true]at h2;obtain⟨e',h3,h4,h5⟩:=edgesL_mem.1 he;have:=Array.all_eq_true'.1 h2.2 e' (by simpa using h3);rw[h4]at this;rw[←h5];simpa using this
  · rintro⟨o,ho,h1,h2⟩;refine⟨(Array.getElem?_eq_some_iff.1 ho).1,?_⟩;rw[h1,ho];simp only[Bool.not_false,Option.map_some,Option.getD_some,Bool.true_and];rw[Array.all_eq_true'];intro e he
    cases hb:Region.binds .any e with
    |false=>rfl
    | true=>
      have:=h2 e.on (edgesL_mem.2 ⟨e,by simpa using he,hb,rfl⟩);simp[this]
 have hempty:∀ (listed:Array Bool),listed.size=opsA.size→Region.ready .any opsA listed= []→(L.filter fun p=> !listed.getD p.1 true)= []:=by
  intro listed hsz hr
  cases hf:(L.filter fun p=> !listed.getD p.1 true)with
  |nil=>rfl
  | cons p R=>
    exfalso;obtain⟨i,un⟩:=p
    obtain⟨X,Y,hXY,hX,hp⟩:∃X Y,L=X++(i,un)::Y∧(∀q ∈ X,listed.getD q.1 true=true)∧listed.getD i true=false:=by
     clear hrows hall
     induction L with
     |nil=>cases hf
     | cons q L ih=>
       rw[List.filter_cons]at hf
       cases hq:listed.getD q.1 true with
       | true=>
         rw[hq]at hf;obtain⟨X,Y,h1,h2,h3⟩:=ih hf;refine⟨q::X,Y,by rw[h1];rfl,fun q' hq' => ?_,h3⟩;rcases List.mem_cons.1 hq' with e|e
         · rw[e];exact hq
         · exact h2 q' e
       | false=>
         rw[hq]at hf;simp only[Bool.not_false,if_true,List.cons.injEq]at hf;obtain⟨rfl,_⟩:=hf;exact⟨[],L,rfl,by simp,hq⟩
    obtain⟨o,ho⟩:=hrows X Y i un hXY
    have:i ∈ Region.ready .any opsA listed:=by
     rw[hready];refine⟨o,by simpa using ho.ho,hp,fun e he=> ?_⟩;obtain⟨u,hu⟩:=fsts_mem.1 (ho.edges e he);have h1:=hX _ hu;simp only[Array.getD_eq_getD_getElem?]at h1 ⊢
     cases hq:listed[e]? with
     |some b=>rw[hq]at h1;simpa using h1
     | none=>
       exfalso
       have hlt:e<opsA.size:=by
        obtain⟨X1,Y1,hX1⟩:=List.append_of_mem hu;obtain⟨o1,ho1⟩:=hrows X1 (Y1++(i,un)::Y) e u (by rw[hXY,hX1];simp);have:=ho1.ho;exact(Array.getElem?_eq_some_iff.1 (by simpa using this)).1
       rw[Array.getElem?_eq_none_iff]at hq;omega
    rw[hr]at this;cases this
 have hdone:∀ (listed:Array Bool),(L.filter fun p=> !listed.getD p.1 true)= []→Region.ready .any opsA listed= []:=by
  intro listed hf;rw[List.eq_nil_iff_forall_not_mem];intro i hi;obtain⟨o,ho,h1,_⟩:=(hready listed i).1 hi;obtain⟨un,hu⟩:=fsts_mem.1 (hall i (Array.getElem?_eq_some_iff.1 ho).1);have:(i,un) ∈ L.filter fun p=> !listed.getD p.1 true:=List.mem_filter.2 ⟨hu,by simp only[h1,Bool.not_false]⟩
  rw[hf]at this;cases this
 induction fuel with
 | zero=>
   intro listed rd s a w hsz hcl hlen hops hm;have hf:=List.eq_nil_of_length_eq_zero (Nat.le_zero.1 hlen);refine⟨hdone listed hf,?_⟩;rw[hf]at hops
   exact hQ s a w hops hm
 | succ fuel ih=>
   intro listed rd s a w hsz hcl hlen hops hm;refine⟨fun hr=> ?_,fun i hi=> ?_⟩
   · rw[hempty listed hsz hr]at hops;exact hQ s a w hops hm
   obtain⟨o,ho,hil,hie⟩:=(hready listed i).1 hi;have hilt:i<opsA.size:=(Array.getElem?_eq_some_iff.1 ho).1;obtain⟨un,hu⟩:=fsts_mem.1 (hall i hilt);obtain⟨X,Y,hXY⟩:=List.append_of_mem hu;obtain⟨o',hrow⟩:=hrows X Y i un hXY;have hoo:o' =o:=by have:=hrow.ho;simp only[Array.getElem?_toList,ho]at this;exact(Option.some.inj this).symm
   subst hoo
   have hgt:∀e,listed.getD e false=true→listed.getD e true=true:=by
    intro e he;simp only[Array.getD_eq_getD_getElem?]at he ⊢
    cases hq:listed[e]? with
    |none=>rfl
    |some b=>rw[hq]at he;simpa using he
   have hanc:∀j p,Anc opsA.toList j p→(∀o,opsA[j]? =some o→∀e ∈ edgesOf o,listed.getD e true=true)→listed.getD p true=true:=by
    intro j p hA
    induction hA with
    |edge ho he=>intro h;exact h _ (by simpa using ho) _ he
    | step ho he _ ih=>
      intro h;have h1:=h _ (by simpa using ho) _ he;exact ih (fun o2 ho2 e2 he2=>hcl _ _ h1 ho2 e2 he2)
   let f:Nat×List Nat→Bool:=fun p=> !listed.getD p.1 true
   have hsplit:L.filter f=X.filter f++(i,un)::Y.filter f:=by
    rw[hXY,List.filter_append,List.filter_cons];have:f (i,un)=true:=by simp only[f,hil,Bool.not_false]
    rw[if_pos this]
   have hX:∀x unx,(x,unx) ∈ X.filter f→(∃ox,opsA.toList[x]? =some ox∧quietO C ox=true∧Apart opsA.toList ox o')∧mem un x=true∧mem unx i=false:=by
    intro x unx hx;obtain⟨hx1,hx2⟩:=List.mem_filter.1 hx;have hxl:listed.getD x true=false:=by simpa [f]using hx2
    have hxf:x ∈ fsts X:=fsts_mem.2 ⟨unx,hx1⟩
    have hxu:x ∈ un:=by
     rcases hrow.split x hxf with q|q
     · have:=hanc i x q (fun o2 ho2 e he=>hgt e (hie e (by rw[ho]at ho2;cases ho2;exact he)));rw[hxl]at this;cases this
     · exact q
    refine⟨(hrow.un x hxu).2,(mem_iff _ _).2 hxu,?_⟩;obtain⟨X1,Y1,hX1⟩:=List.append_of_mem hx1;obtain⟨ox,hox⟩:=hrows X1 (Y1++(i,un)::Y) x unx (by rw[hXY,hX1];simp)
    cases hq:mem unx i with
    |false=>rfl
    | true=>
      exfalso;have h1:=(hox.un i ((mem_iff _ _).1 hq)).1;obtain⟨u1,hu1⟩:=fsts_mem.1 h1;exact hrow.new (fsts_mem.2 ⟨u1,by rw[hX1];exact List.mem_append_left _ hu1⟩)
   have hmv:=moveAll hrow.ho hX (by have h9:=hops;rw[show(L.filter fun p=> !listed.getD p.1 true)=L.filter f from rfl,hsplit]at h9;exact h9)
   have hrest:(L.filter fun p=> !(listed.setIfInBounds i true).getD p.1 true)=X.filter f++Y.filter f:=by
    have hne:∀ (Z:List (Nat×List Nat)),(∀q ∈ Z,q.1≠i)→(Z.filter fun p=> !(listed.setIfInBounds i true).getD p.1 true)=Z.filter f:=by
     intro Z hZ;refine List.filter_congr (fun q hq=> ?_);rw[getD_set (by rw[hsz];exact hilt),if_neg (fun e=>hZ q hq e.symm)]
    rw[hXY,List.filter_append,List.filter_cons];have hi1:(!(listed.setIfInBounds i true).getD i true)=false:=by rw[getD_set (by rw[hsz];exact hilt)];simp
    simp only[hi1,Bool.false_eq_true,if_false];rw[hne X (fun q hq e=>hrow.new (fsts_mem.2 ⟨q.2,by rw[←e];exact hq⟩)),hne Y (fun q hq e=> ?_)];obtain⟨Y1,Y2,hY⟩:=List.append_of_mem hq;obtain⟨j,u⟩:=q;simp only at e;subst e;obtain⟨oq,hoq⟩:=hrows (X++(j,un)::Y1) Y2 j u (by rw[hXY,hY];simp);exact hoq.new (fsts_mem.2 ⟨un,List.mem_append_right _ List.mem_cons_self⟩)
   have hlen':(L.filter fun p=> !(listed.setIfInBounds i true).getD p.1 true).length≤fuel:=by
    rw[hrest];have h9:=hlen;rw[show(L.filter fun p=> !listed.getD p.1 true)=L.filter f from rfl,hsplit]at h9;simp only[List.length_append,List.length_cons]at h9 ⊢;omega
   have hcl':∀j o,(listed.setIfInBounds i true).getD j true=true→opsA[j]? =some o→∀e ∈ edgesOf o,(listed.setIfInBounds i true).getD e true=true:=by
    intro j oj hj hoj e he;rw[getD_set (by rw[hsz];exact hilt)]at hj ⊢;split
    · rfl
    · by_cases hij:i=j
      · subst hij;rw[ho]at hoj;cases hoj;exact hgt e (hie e he)
      · rw[if_neg hij]at hj;exact hcl j oj hj hoj e he
   have hnext:∀ (rd:List Ent) s a w,opsS P T C opsA.toList (X.filter f++Y.filter f) rd k s→Mod A s a w→wpAny P .any opsA Q fuel (listed.setIfInBounds i true) a w:=by
    intro rd s a w h1 h2;exact ih (listed.setIfInBounds i true) rd s a w (by simpa using hsz) hcl' hlen' (by rw[hrest];exact h1) h2
   obtain⟨o2,ho2,hcase⟩:=hmv;have ho2':opsA[i]? =some o2:=by simpa using ho2
   have hN1:∀d,o2.dst=some d→d<A.N:=by
    intro d hd;have:=hN o2 (List.mem_of_getElem? ho2);unfold opOk at this;rw[hd]at this;simpa [Nat.blt_eq]using this
   obtain⟨h0,G,β,hg⟩:=hm;unfold wpOp;rw[ho2'];simp only;rcases hcase with⟨h1,h2,h3⟩|⟨h1,h2⟩
   · rw[if_pos (gsem_sound hg h1)];refine .inl (Oper.wp_mono (fun a' w' hu=> ?_) (stepU_sound hT h0 hg hN1 h3));obtain⟨u,hu1,hu2⟩:=hu;exact hnext _ _ _ _ hu1.2 hu2
   · rw[if_neg (by rw[gsem_sound hg h1];simp)];exact hnext _ _ _ _ h2 (MG.fin (s:=s) (rs:= []) (us:= []) (h0:=h0) hg hN1 .undef)
theorem RegX.rule (hT:TabOk P T)(hm:P.follows .mixedOrders=true)(C:List Nat){id:Nat}{opsA:Array Oper}{k:St→Prop}{s:St}(L:List (Nat×List Nat))(hok:regOk C opsA.toList L=true)
 (h:opsD P T C opsA.toList L [] k s):RegX P id opsA k s:=by
 refine⟨fun A a w hN hmod=> ?_⟩;unfold regOk at hok;rw[Bool.and_eq_true]at hok;have hrows:=regGo_rows (acc:= []) (fun _ _ hj=>by cases hj) hok.1
 have hall:∀i,i<opsA.size→i ∈ fsts L:=fun i hi=>by
  have:=List.all_eq_true.1 hok.2 i (by simpa using hi);rwa [mem_iff]at this
 have hfilter:∀Z:List (Nat×List Nat),(∀p ∈ Z,p.1<opsA.size)→(Z.filter fun p=> !(Array.replicate opsA.size false).getD p.1 true)=Z:=by
  intro Z hZ;rw[List.filter_eq_self];intro p hp;have:=hZ p hp;simp[Array.getD_eq_getD_getElem?,Array.getElem?_replicate,this]
 have hlt:∀p ∈ L,p.1<opsA.size:=by
  intro p hp;obtain⟨X,Y,hXY⟩:=List.append_of_mem hp;obtain⟨o,ho⟩:=hrows X Y p.1 p.2 hXY;exact(Array.getElem?_eq_some_iff.1 (by simpa using ho.ho)).1
 have hnodup:L.length≤opsA.size:=by
  have key:∀ (Z W:List (Nat×List Nat)),L=Z++W→(fsts Z).Nodup:=by
   have key':∀ (n:Nat) (Z W:List (Nat×List Nat)),Z.length=n→L=Z++W→(fsts Z).Nodup:=by
    intro n
    induction n with
    |zero=>
     intro Z W hn _;have:Z= []:=List.eq_nil_of_length_eq_zero hn
     subst this;simp[fsts]
    |succ n ih=>
     intro Z0 W hn hW;have hne:Z0≠ []:=by intro e;subst e;simp at hn
     obtain⟨Z,p,rfl⟩:∃Z p,Z0=Z++ [p]:=⟨Z0.dropLast,Z0.getLast hne,(List.dropLast_concat_getLast hne).symm⟩;have h1:=ih Z (p::W) (by simpa using hn) (by rw[hW];simp);obtain⟨o,ho⟩:=hrows Z W p.1 p.2 (by rw[hW];simp)
     have hf:fsts (Z++ [p])=fsts Z++ [p.1]:=by
      clear hW h1 ho ih hn hne
      induction Z with
      |nil=>rfl
      |cons q Z ih=>simp[fsts,ih]
     rw[hf,List.nodup_append];refine⟨h1,by simp,fun a ha b hb=> ?_⟩;simp at hb;subst hb;intro e;subst e;exact ho.new (by simpa [fsts]using ha)
   exact fun Z W h=>key' Z.length Z W rfl h
  have hnd:=key L [] (by simp)
  have hlen:(fsts L).length=L.length:=by
   clear hrows hall hlt hnd key hok h hfilter
   induction L with
   |nil=>rfl
   |cons p L ih=>simp[fsts,ih]
  have hsub:∀x ∈ fsts L,x ∈ List.range opsA.size:=fun x hx=>by
   obtain⟨un,hu⟩:=fsts_mem.1 hx;exact List.mem_range.2 (hlt _ hu)
  have:=List.Nodup.length_le_of_subset hnd hsub;rw[hlen]at this;simpa using this
 refine wp_region_any hm ?_;obtain⟨h0,G,β,hg⟩:=hmod
 refine any_sound (P:=P) (T:=T) (C:=C) hT (k:=k) (Q:=Lift A (regQ k)) (fun s a w hk hm=>⟨s,hk,hm⟩) (List.all_eq_true.1 hN) (fun X Y i un hXY=>by simpa [fsts]using hrows X Y i un hXY) hall
  opsA.size (Array.replicate opsA.size false) [] s a _ (by simp) (fun i o hi ho=> ?_) (by rw[hfilter L hlt];exact hnodup) (by rw[hfilter L hlt];exact opsD_S h) ⟨h0,G,β,hg.drew⟩
 have hlt':=(Array.getElem?_eq_some_iff.1 ho).1;simp[Array.getD_eq_getD_getElem?,Array.getElem?_replicate,hlt']at hi
end
end Go.Eng
namespace Go.Eng
open Go
def lookT:List (Nat×SV)→Nat→SV
 | [],_=>.any
 |(e,x)::l,i=>bif Nat.beq i e then x else lookT l i
def mkSt (ts:List (Nat×SV))(rs:List (Nat×Res)):St:=⟨lookT ts,lookL rs,fun d=>(lookL rs d).isSome||Nat.ble 1000000 d⟩
def okE (ρ:List (Nat×Nat)):Bool:=okR ρ&&ρ.all fun p=>Nat.beq p.1 p.2|| !Nat.ble 1000000 p.1
def entT (s:St)(ρ:List (Nat×Nat)):List (Nat×SV)→Prop
 | []=>True
 |(i,y)::l=>SV.le (s.tmps i) (y.ren ρ)∧entT s ρ l
def resIn (s:St)(ρ:List (Nat×Nat)):List (Nat×Res)→Prop
 | []=>True
 |(d,r)::l=>(match lookN ρ d with|some c=>(match s.res c with|some r0=>Res.le r0 (r.ren ρ)|none=>False)|none=>False)∧resIn s ρ l
theorem resIn_get {s:St}{ρ:List (Nat×Nat)}:∀ {l:List (Nat×Res)} {d:Nat} {r:Res},resIn s ρ l→lookL l d=some r→∃c r0,lookN ρ d=some c∧s.res c=some r0∧Res.le r0 (r.ren ρ):=by
 intro l
 induction l with
 |nil=>intro d r _ h;cases h
 | cons p l ih=>
   obtain⟨e,r'⟩:=p;intro d r ho h;obtain⟨h1,h2⟩:=ho;simp only[lookL]at h
   by_cases he:d=e
   · subst he;simp at h;subst h;split at h1
     · rename_i c hc;split at h1
       · rename_i r0 hr;exact⟨c,r0,hc,hr,h1⟩
       · exact h1.elim
     · exact h1.elim
   · rw[nbeq_ne he]at h;exact ih h2 h
theorem entT_get {s:St}{ρ:List (Nat×Nat)}:∀ {l:List (Nat×SV)} {i:Nat},entT s ρ l→SV.le (s.tmps i) ((lookT l i).ren ρ):=by
 intro l
 induction l with
 |nil=>intro i _;exact fun G β v _=>.any v
 | cons p l ih=>
   obtain⟨e,y⟩:=p;intro i ho;obtain⟨h1,h2⟩:=ho;simp only[lookT]
   by_cases he:i=e
   · subst he;simpa using h1
   · rw[nbeq_ne he];exact ih h2
theorem okE_get {ρ:List (Nat×Nat)}(h:okE ρ=true){d c:Nat}(hd:lookN ρ d=some c)(hb:Nat.ble 1000000 d=true):c=d:=by
 unfold okE at h;rw[Bool.and_eq_true]at h;have:=List.all_eq_true.1 h.2 _ (lookN_mem hd);rw[Bool.or_eq_true]at this;rcases this with q|q
 · exact(Nat.eq_of_beq_eq_true q).symm
 · simp[hb]at q
theorem Entails.trans {a b c:St}(h:Entails a b)(k:Entails b c):Entails a c:=⟨fun A x w m=>k.imp A x w (h.imp A x w m)⟩
theorem Entails.refl (a:St):Entails a a:=⟨fun _ _ _ m=>m⟩
theorem Entails.mk' {s:St}{ts:List (Nat×SV)}{rs:List (Nat×Res)}(ρ:List (Nat×Nat))(hρ:okE ρ=true)(hdom:(ρ.all fun p=>(lookL rs p.1).isSome)=true)(ht:entT s ρ ts)(hr:resIn s ρ rs):
 Entails s (mkSt ts rs):=by
 refine⟨fun A a w=> ?_⟩;rintro⟨h0,G,β,h⟩
 have hok:okR ρ=true:=by
  have:=hρ;unfold okE at this;rw[Bool.and_eq_true]at this;exact this.1
 let β':Env:=fun d' =>match lookN ρ d' with|some d=>β d|none=>bif Nat.ble 1000000 d' then β d' else none
 have hle:Env.le (fun d=>(lookN ρ d).bind β) β':=by
  intro d v hv;simp only[β']
  cases hl:lookN ρ d with
  |none=>simp[hl]at hv
  |some c=>simpa [hl]using hv
 have hin:∀ {d c:Nat},lookN ρ d=some c→β' d=β c:=fun{d c} hd=>by simp only[β',hd]
 refine⟨h0,G,β',h.sz,h.g0,fun d v hv=> ?_,h.gw,h.gn,h.keep,fun i=> ?_,fun d r hd=> ?_,fun d d' r r' v v' b e1 e2 o1 o2 f1 f2 b1 b2=> ?_,fun d r v b e1 o1 f1 b1=> ?_,fun d v hv=> ?_⟩
 · have hb:=A.hE d v hv;have hv':=h.e0 d v hv;simp only[β']
   cases hl:lookN ρ d with
   |none=>simp[hb,hv']
   |some c=>have:=okE_get hρ hl hb;subst this;exact hv'
 · exact((entT_get (i:=i) ht G β _ (h.tm i)).unren _ rfl).mono (Hp.le_refl G) hle
 · obtain⟨c,r0,hc,hs0,hl⟩:=resIn_get hr hd;exact((hl.2 _ _ _ _ (h.rs c r0 hs0)).unren hc).keep (Hp.le_refl G) hle (fun _ _ _ _ _=>rfl)
 · obtain⟨c,r0,hc,hs0,hl⟩:=resIn_get hr e1;obtain⟨c',r0',hc',hs0',hl'⟩:=resIn_get hr e2;rw[hin hc]at f1;rw[hin hc']at f2;have:=h.dj c c' r0 r0' v v' b hs0 hs0' (by rw[hl.own',Res.ren_own];exact o1) (by rw[hl'.own',Res.ren_own];exact o2) f1 f2 (b1.to (by rw[hl.isR',Res.ren_isR])) (b2.to (by rw[hl'.isR',Res.ren_isR]));subst this;exact okR_inj hok (lookN_mem hc) (lookN_mem hc')
 · obtain⟨c,r0,hc,hs0,hl⟩:=resIn_get hr e1;rw[hin hc]at f1;exact h.og c r0 v b hs0 (by rw[hl.own',Res.ren_own];exact o1) f1 (b1.to (by rw[hl.isR',Res.ren_isR]))
 · simp only[mkSt,Bool.or_eq_true]
   cases hl:lookN ρ d with
   |some c=>exact .inl (List.all_eq_true.1 hdom _ (lookN_mem hl))
   | none=>
     simp only[β',hl]at hv
     cases hb:Nat.ble 1000000 d with
     |true=>exact .inr rfl
     |false=>rw[hb]at hv;cases hv
theorem Entails.nil {s:St}(i d e k:Nat)(g:Nat→List DV)(hi:s.tmps i= .d .nilsl)(hd:s.used d=false)(hk:0<k):Entails s (s.app ⟨some i,.buf d,[(d,some (.buf e k 0 g))],[d]⟩):=by
 refine⟨fun A a w=> ?_⟩;rintro⟨h0,G,β,h⟩;refine⟨h0,G,β.set d (.slice none 0 0),?_⟩;have hn:=h.name (r:=.buf e k 0 g) (v:=.slice none 0 0) hd rfl (fun b hb=>by cases hb) ⟨_,[],by simp[Env.set],World.ownsRow_nil w 0 e k,hk,fun i hi=>by omega,fun i j x hi=>by omega⟩;refine⟨hn.sz,hn.g0,hn.e0,hn.gw,hn.gn,hn.keep,fun j=> ?_,hn.rs,hn.dj,hn.og,hn.sc⟩;simp only[St.app,putT_apply]
 by_cases e:i=j
 · subst e;simp only[if_true];have ht:=h.tm i;rw[hi]at ht;generalize a.tmps.getD i Go.undef=v at ht;cases ht with|d _ _ hv=>cases hv;exact .buf _ _ (by simp[Env.set]) rfl
 · rw[if_neg (by simp[e])];exact hn.tm j
theorem Res.le_buf {e k n m:Nat}{g h:Nat→List DV}(hn:n=m)(hg:∀i,i<n→g i=h i):Res.le (.buf e k n g) (.buf e k m h):=by
 subst hn;refine⟨rfl,fun G β w d=> ?_⟩;rintro⟨v,xs,h1,h2,h3,h4,h5⟩;exact⟨v,xs,h1,h2,h3,fun i hi=>by rw[←hg i hi];exact h4 i hi,fun i j x hi hx=>h5 i j x hi (by rw[hg i hi];exact hx)⟩
theorem DV.ro_ext {G:Hp}{k n m:Nat}{g h:Nat→List DV}(hn:n=m)(hg:∀i,i<n→g i=h i){v:Value}(hv:DV.Den G (.ro k n g) v):DV.Den G (.ro k m h) v:=by
 subst hn
 cases hv with
 |ronil=>exact .ronil k h
 | ro _ _ _ a cap vals hs hcap hmax hl hc hd=>
   exact .ro k n h a cap vals hs hcap hmax (fun i hi=>by rw[←hg i hi];exact hl i hi) (fun i j x hi hx=>hc i j x hi (by rw[hg i hi];exact hx)) (fun i j x hi hx=>hd i j x hi (by rw[hg i hi];exact hx))
theorem SV.le_ro {k n m:Nat}{g h:Nat→List DV}(hn:n=m)(hg:∀i,i<n→g i=h i):SV.le (.d (.ro k n g)) (.d (.ro k m h)):=by
 intro G β v hv;cases hv with|d _ _ hv=>exact .d _ _ (DV.ro_ext hn hg hv)
theorem SV.le_nil {k:Nat}{g:Nat→List DV}:SV.le (.d .nilsl) (.d (.ro k 0 g)):=by
 intro G β v hv;cases hv with|d _ _ hv=>cases hv;exact .d _ _ (.ronil k g)
theorem Res.le_map {ag va:Bool}{ks:List KK}{zr:List DV}{has has':List DV→Bool}{val val':List DV→List DV}(h:∀key,wk ks key=true→has key=has' key∧val key=val' key):
 Res.le (.map ag va ks zr has val) (.map ag va ks zr has' val'):=by
 refine⟨rfl,fun G β w d=> ?_⟩;rintro⟨r,es,clock,l,h1,h2,h3,h4,h5,h6⟩;refine⟨r,es,clock,l,h1,h2,h3,h4,h5,fun key hk=> ?_⟩;have:=h6 key hk;rw[(h key hk).1,(h key hk).2]at this;exact this
theorem Res.le_mapB {ag va:Bool}{ks:List KK}{zr:List DV}{has has':List DV→Bool}{val val':List DV→List DV}{clock:Nat}{kb:List (List DV×Nat)}(h:∀key,wk ks key=true→has key=has' key∧val key=val' key):
 Res.le (.mapB ag va ks zr has val clock kb) (.map ag va ks zr has' val'):=by
 refine⟨rfl,fun G β w d=> ?_⟩;rintro⟨r,es,l,h1,h2,h3,h4,h5,_,h6⟩;refine⟨r,es,clock,l,h1,h2,h3,h4,h5,fun key hk=> ?_⟩;have:=h6 key hk;rw[(h key hk).1,(h key hk).2]at this;exact this
theorem SV.le_int {k:IntKind}{n m:Int}(h:n=m):SV.le (.d (.int k n)) (.d (.int k m)):=by subst h;exact SV.le_refl _
theorem SV.le_bool {n m:Bool}(h:n=m):SV.le (.d (.bool n)) (.d (.bool m)):=by subst h;exact SV.le_refl _
theorem SV.le_any (x:SV):SV.le x .any:=fun _ _ v _=>.any v
theorem Res.le_cells {e:TypeId}{l l':List SV}(hl:l.length=l'.length)(h:∀ (i:Nat) x y,l[i]? =some x→l'[i]? =some y→SV.le x y):Res.le (.cells e l) (.cells e l'):=by
 refine⟨rfl,fun G β w d=> ?_⟩;rintro⟨b,vs,h1,h2,h3,h4⟩;refine⟨b,vs,h1,h2,h3.trans hl,fun i y v hy hv=> ?_⟩;have hi:i<l.length:=by rw[hl];exact(List.getElem?_eq_some_iff.1 hy).1
 exact h i _ y (List.getElem?_eq_getElem hi) hy G β v (h4 i _ v (List.getElem?_eq_getElem hi) hv)
def rowF {α:Type}(f:α→List DV)(d:α)(l:List α):Nat→List DV:=fun i=>f (l.getD i d)
theorem rowF_lt {α:Type}{f:α→List DV}{d:α}{l:List α}{i:Nat}(h:i<l.length):rowF f d l i=f l[i]:=by simp[rowF,List.getD_eq_getElem?_getD,h]
abbrev seqD {α:Type}(k:Nat)(f:α→List DV)(d:α)(l:List α):DV:=.ro k l.length (rowF f d l)
abbrev seqB {α:Type}(e k:Nat)(f:α→List DV)(d:α)(l:List α):Res:=.buf e k l.length (rowF f d l)
theorem rows_lit {α:Type}{f:α→List DV}{d:α}{l:List α}{rows:List (List DV)}(h:rows=l.map f):∀i,i<l.length→rows.getD i []=rowF f d l i:=by
 intro i hi;subst h;rw[rowF_lt hi,List.getD_eq_getElem?_getD];simp[hi]
theorem SV.le_lit {α:Type}{k:Nat}{f:α→List DV}{d:α}{l:List α}{rows:List (List DV)}{n:Nat}(hn:n=l.length)(h:rows=l.map f):SV.le (.d (.ro k n fun i=>rows.getD i [])) (.d (seqD k f d l)):=
 SV.le_ro hn (fun i hi=>rows_lit h i (hn ▸ hi))
theorem Res.le_lit {α:Type}{e k:Nat}{f:α→List DV}{d:α}{l:List α}{rows:List (List DV)}{n:Nat}(hn:n=l.length)(h:rows=l.map f):Res.le (.buf e k n fun i=>rows.getD i []) (seqB e k f d l):=
 Res.le_buf hn (fun i hi=>rows_lit h i (hn ▸ hi))
theorem SV.le_nilS {α:Type}{k:Nat}{f:α→List DV}{d:α}:SV.le (.d .nilsl) (.d (seqD k f d [])):=SV.le_nil
theorem rows_snocF {α:Type}{f:α→List DV}{d:α}{l:List α}{x:α}{h:Nat→List DV}(hx:h 0=f x):∀i,i<l.length+1→appGet l.length (rowF f d l) h i=rowF f d (l++ [x]) i:=by
 intro i hi;rcases Nat.lt_or_ge i l.length with q|q
 · rw[appGet_lt q,rowF_lt q,rowF_lt (by simp;omega)];simp[q]
 · have:i=l.length:=by omega
   subst this;rw[appGet_ge (Nat.le_refl _),rowF_lt (by simp)];simp[hx]
theorem Res.le_snocF {α:Type}{f:α→List DV}{d:α}{l:List α}{x:α}{e k:Nat}{h:Nat→List DV}(hx:h 0=f x):
 Res.le (.buf e k (l.length+1) (appGet l.length (rowF f d l) h)) (seqB e k f d (l++ [x])):=Res.le_buf (by simp) (rows_snocF hx)
theorem rows_putF {α:Type}{f:α→List DV}{d:α}{l:List α}{x:α}{j off:Nat}{ds:List DV}(hj:∀y,l[j]? =some y→setAtD (f y) off ds=f x):
 ∀i,i<l.length→(bif Nat.beq i j then setAtD (rowF f d l i) off ds else rowF f d l i)=rowF f d (l.set j x) i:=by
 intro i hi
 by_cases e:i=j
 · subst e;simp only[Nat.beq_refl,cond_true];rw[rowF_lt hi,rowF_lt (by simpa using hi),hj _ (List.getElem?_eq_getElem hi)];simp
 · rw[nbeq_ne e,cond_false,rowF_lt hi,rowF_lt (by simpa using hi)];simp[List.getElem_set,Ne.symm e]
theorem rows_putG {α:Type}{f:α→List DV}{d:α}{l:List α}{x:α}{j off:Nat}{ds:List DV}{get:Nat→List DV}(hg:∀i,i<l.length→get i=rowF f d l i)(hj:∀y,l[j]? =some y→setAtD (f y) off ds=f x):
 ∀i,i<l.length→(bif Nat.beq i j then setAtD (get i) off ds else get i)=rowF f d (l.set j x) i:=by
 intro i hi;rw[hg i hi];exact rows_putF hj i hi
theorem Res.le_putF {α:Type}{f:α→List DV}{d:α}{l:List α}{x:α}{e k j off:Nat}{ds:List DV}(hj:∀y,l[j]? =some y→setAtD (f y) off ds=f x):
 Res.le (.buf e k l.length fun i=>bif Nat.beq i j then setAtD (rowF f d l i) off ds else rowF f d l i) (seqB e k f d (l.set j x)):=Res.le_buf (by simp) (rows_putF hj)
theorem SV.le_putF {α:Type}{f:α→List DV}{d:α}{l:List α}{x:α}{k j off:Nat}{ds:List DV}(hj:∀y,l[j]? =some y→setAtD (f y) off ds=f x):
 SV.le (.d (.ro k l.length fun i=>bif Nat.beq i j then setAtD (rowF f d l i) off ds else rowF f d l i)) (.d (seqD k f d (l.set j x))):=SV.le_ro (by simp) (rows_putF hj)
def iF:Int→List DV:=fun x=> [.int .i64 x]
def sF:List UInt8→List DV:=fun x=> [.str x]
abbrev ints (l:List Int):DV:=seqD 1 iF 0 l
abbrev strs (l:List (List UInt8)):DV:=seqD 1 sF [] l
theorem getD_mem {α:Type}{l:List α}{i:Nat}{x:α}(h:i<l.length):l.getD i x ∈ l:=by rw[List.getD_eq_getElem?_getD];simp[h]
def argsLe (ρ:List (Nat×Nat)):List SV→List SV→Prop
 | [],[]=>True
 |x::l,y::m=>SV.le x (y.ren ρ)∧argsLe ρ l m
 |_,_=>False
theorem argsLe_get {ρ:List (Nat×Nat)}:∀ {l m:List SV},argsLe ρ l m→l.length=m.length∧∀ (i:Nat) x y,l[i]? =some x→m[i]? =some y→SV.le x (y.ren ρ):=by
 intro l
 induction l with
 | nil=>
   intro m h
   cases m with
   |nil=>exact⟨rfl,by simp⟩
   |cons y m=>exact h.elim
 | cons x l ih=>
   intro m h
   cases m with
   |nil=>exact h.elim
   | cons y m=>
     obtain⟨h1,h2⟩:=h;obtain⟨i1,i2⟩:=ih h2;refine⟨by simp[i1],fun i a b ha hb=> ?_⟩
     cases i with
     |zero=>simp at ha hb;subst ha;subst hb;exact h1
     |succ i=>exact i2 i a b (by simpa using ha) (by simpa using hb)
def freshN (s:St)(rin:List (Nat×Res)):List (Nat×Nat)→Bool
 | []=>true
 |(d,c)::l=>((lookL rin d).isSome|| !s.used c)&&freshN s rin l
theorem freshN_get {s:St}{rin:List (Nat×Res)}:∀ {l:List (Nat×Nat)} {d c:Nat},freshN s rin l=true→(d,c) ∈ l→lookL rin d=none→s.used c=false:=by
 intro l
 induction l with
 |nil=>intro d c _ h;cases h
 | cons p l ih=>
   obtain⟨e,f⟩:=p;intro d c h hd hn;simp only[freshN,Bool.and_eq_true]at h;rcases List.mem_cons.1 hd with q|q
   · cases q;rw[hn]at h;simpa using h.1
   · exact ih h.2 q hn
def outN (ρ:List (Nat×Nat)):List (Nat×Res)→Bool
 | []=>true
 |(d,r)::l=>(lookN ρ d).isSome&&r.okN ρ&&outN ρ l
theorem outN_get {ρ:List (Nat×Nat)}:∀ {l:List (Nat×Res)} {d:Nat} {r:Res},outN ρ l=true→lookL l d=some r→(lookN ρ d).isSome=true∧r.okN ρ=true:=by
 intro l
 induction l with
 |nil=>intro d r _ h;cases h
 | cons p l ih=>
   obtain⟨e,r'⟩:=p;intro d r ho h;simp only[outN,Bool.and_eq_true]at ho;simp only[lookL]at h
   by_cases he:d=e
   · subst he;simp at h;subst h;exact ho.1
   · rw[nbeq_ne he]at h;exact ih ho.2 h
theorem CallX.of {P:Program}{f:FuncId}{dst:Option Nat}{args:List SV}{s:St}{av:List Nat}{k:Upd→Prop}{sargs:List SV}{rin:List (Nat×Res)}{post:SV→List (Nat×Res)→Prop}
 (hs:FSpec P f sargs rin post)(ρ:List (Nat×Nat))(hok:okR ρ=true)(ha:argsLe ρ args sargs)(hr:resIn s ρ rin)(hro:freshN s rin ρ=true)(hav:(ρ.all fun p=> !mem av p.2)=true)
 (hk:∀x rout,post x rout→(SV.okN ρ x&&outN ρ rout)=true∧k ⟨dst,x.ren ρ,outs ρ rout,ρ.map (·.2)⟩):CallX P f dst args s av k:=by
 obtain⟨ha1,ha2⟩:=argsLe_get ha;refine .call args s av k ρ sargs rin post hs hok ha1 ha2 (fun d r h=>resIn_get hr h) (fun d c h hn=>freshN_get hro (lookN_mem h) hn) (fun d c h=> ?_) (fun x rout hp=> ?_)
 · have:=List.all_eq_true.1 hav _ (lookN_mem h);simpa using this
 · obtain⟨h1,h2⟩:=hk x rout hp;rw[Bool.and_eq_true]at h1;exact⟨h1.1,fun d r hd=>outN_get h1.2 hd,h2⟩
theorem FSpec.mono {P:Program}{f:FuncId}{args:List SV}{rin:List (Nat×Res)}{post post':SV→List (Nat×Res)→Prop}(h:FSpec P f args rin post)(hp:∀x r,post x r→post' x r):FSpec P f args rin post':=
 ⟨h.enter,fun G β w vs h1 h2 h3=>(h.calls G β w vs h1 h2 h3).mono (by
   rintro e w' ⟨v,x,rout,G',β',h1,h2,h3,h4⟩
   exact⟨v,x,rout,G',β',h1,hp _ _ h2,h3,h4⟩)⟩
theorem FSpec.args {P:Program}{f:FuncId}{l m:List SV}{rin:List (Nat×Res)}{post:SV→List (Nat×Res)→Prop}(h:FSpec P f m rin post)(hl:l.length=m.length)(hle:∀ (i:Nat) x y,l[i]? =some x→m[i]? =some y→SV.le x y):FSpec P f l rin post:=
 ⟨h.enter,fun G β w vs h1 h2 h3=>h.calls G β w vs h1 (h2.trans hl) (fun i y v hy hv=>by
   have hi:i<l.length:=by rw[hl];exact(List.getElem?_eq_some_iff.1 hy).1
   exact hle i _ y (List.getElem?_eq_getElem hi) hy G β v (h3 i _ v (List.getElem?_eq_getElem hi) hv))⟩
def argsLe0:List SV→List SV→Prop
 | [],[]=>True
 |x::l,y::m=>SV.le x y∧argsLe0 l m
 |_,_=>False
theorem argsLe0_get:∀ {l m:List SV},argsLe0 l m→l.length=m.length∧∀ (i:Nat) x y,l[i]? =some x→m[i]? =some y→SV.le x y:=by
 intro l
 induction l with
 | nil=>
   intro m h
   cases m with
   |nil=>exact⟨rfl,by simp⟩
   |cons y m=>exact h.elim
 | cons x l ih=>
   intro m h
   cases m with
   |nil=>exact h.elim
   | cons y m=>
     obtain⟨h1,h2⟩:=h;obtain⟨i1,i2⟩:=ih h2;refine⟨by simp[i1],fun i a b ha hb=> ?_⟩
     cases i with
     |zero=>simp at ha hb;subst ha;subst hb;exact h1
     |succ i=>exact i2 i a b (by simpa using ha) (by simpa using hb)
theorem FSpec.le {P:Program}{f:FuncId}{l m:List SV}{rin:List (Nat×Res)}{post:SV→List (Nat×Res)→Prop}(h:FSpec P f m rin post)(hle:argsLe0 l m):FSpec P f l rin post:=
 h.args (argsLe0_get hle).1 (argsLe0_get hle).2
theorem CallX.pure {P:Program}{f:FuncId}{dst:Option Nat}{args:List SV}{s:St}{av:List Nat}{k:Upd→Prop}{sargs:List SV}{y:SV}
 (hs:FSpec P f sargs [] fun x r=>x=y∧r= [])(ha:argsLe [] args sargs)(hy:SV.okN [] y=true)(hk:k ⟨dst,y.ren [],[],[]⟩):CallX P f dst args s av k:=
 CallX.of hs [] rfl ha trivial rfl rfl (by rintro x r ⟨rfl,rfl⟩;exact⟨by simp[hy,outN],hk⟩)
theorem brs:(∀ (p:Prop) [Decidable p],(decide p=true)=p)∧(∀ (p:Prop) [Decidable p],(decide p=false)=¬p)∧(∀b:Bool,((!b)=true)=(b=false))∧(∀b:Bool,((!b)=false)=(b=true))∧
 (∀a b:Bool,((a&&b)=true)=(a=true∧b=true))∧(∀a b:Bool,((a||b)=true)=(a=true∨b=true))∧(∀ (α:Type) [BEq α] [LawfulBEq α] (a b:α),((a==b)=true)=(a=b))∧
 (∀ (α:Type) [BEq α] [LawfulBEq α] (a b:α),((a==b)=false)=¬(a=b))∧(∀a b:Prop,(¬(a∧b))=(a→¬b))∧(∀a b:Int,(¬(a≤b))=(b<a))∧(∀a b:Int,(¬(a<b))=(b≤a))∧(∀n:Nat,((n:Int)).toNat=n)∧
 (∀ (α:Type) (a b:α),(a≠b)=¬(a=b))∧(∀ (α:Type) (a:α),(a=a)=True)∧((¬True)=False)∧((¬False)=True):=by
 refine⟨fun p _=>by simp,fun p _=>by simp,fun b=>by simp,fun b=>by simp,fun a b=>by simp,fun a b=>by simp,fun α _ _ a b=>by simp,fun α _ _ a b=>by simp,fun a b=>by simp,fun a b=>by simp,fun a b=>by simp,fun n=>by simp,fun α a b=>rfl,fun α a=>by simp,by simp,by simp⟩
theorem szA {p q r:Prop}{k:Nat}{n m:Int}(hk:Nat.ble k 1024=true)(h:p∧q∧0≤n∧((1024:Nat):Int)*n≤m∧r):p∧q∧(k:Int)*n≤m∧r:=
 ⟨h.1,h.2.1,Int.le_trans (Int.mul_le_mul_of_nonneg_right (Int.ofNat_le.2 (Nat.le_of_ble_eq_true hk)) h.2.2.1) h.2.2.2.1,h.2.2.2.2⟩
theorem szB {a k m:Nat}(hk:Nat.ble k 1024=true)(h:a*1024≤m):a*k≤m:=Nat.le_trans (Nat.mul_le_mul_left _ (Nat.le_of_ble_eq_true hk)) h
theorem lr {x:SV}:SV.le x x:=SV.le_refl x
theorem rr {x:Res}:Res.le x x:=Res.le_refl x
theorem lns:(∀n:Int,inI64 n=(-9223372036854775808≤n∧n≤9223372036854775807))∧(∀ (α:Type) (a:α) (l:List α),(a::l).length=l.length+1)∧(∀ (α:Type) (l m:List α),(l++m).length=l.length+m.length)∧(∀α:Type,([]:List α).length=0)∧(∀ (α:Type) (l:List α) (i:Nat) (a:α),(l.set i a).length=l.length):=
 ⟨fun n=>by unfold inI64;rfl,fun _ _ _=>rfl,fun _ _ _=>List.length_append,fun _=>rfl,fun _ _ _ _=>List.length_set⟩
def resEq (s:St)(ρ:List (Nat×Nat)):List (Nat×Res)→Prop
 | []=>True
 |(d,r)::l=>(∃c,lookN ρ d=some c∧s.res c=some (r.ren ρ))∧resEq s ρ l
theorem resEq_get {s:St}{ρ:List (Nat×Nat)}:∀ {l:List (Nat×Res)},resEq s ρ l→∀ {d r},lookL l d=some r→∃c,lookN ρ d=some c∧s.res c=some (r.ren ρ):=by
 intro l
 induction l with
 |nil=>intro _ d r h;cases h
 | cons p l ih=>
   obtain⟨e,q⟩:=p;intro h d r hl;simp only[lookL]at hl
   by_cases he:d=e
   · subst he;simp at hl;subst hl;exact h.1
   · rw[nbeq_ne he]at hl;exact ih h.2 hl
theorem CallX.look {P:Program}{f:FuncId}{dst:Option Nat}{args:List SV}{s:St}{av:List Nat}{k:Upd→Prop}{sargs:List SV}{rin:List (Nat×Res)}{y:SV}
 (hs:FSpec P f sargs rin fun x r=>x=y∧r=rin)(ρ:List (Nat×Nat))(hok:okR ρ=true)(ha:argsLe ρ args sargs)(hr:resEq s ρ rin)(hra:(ρ.all fun p=>(lookL rin p.1).isSome)=true)(hav:(ρ.all fun p=> !mem av (p.2+1099511627776))=true)
 (hy:(SV.okN ρ y&&outN ρ rin)=true)(hk:k ⟨dst,y.ren ρ,[],[]⟩):CallX P f dst args s av k:=by
 obtain⟨ha1,ha2⟩:=argsLe_get ha;rw[Bool.and_eq_true]at hy;refine .peek args s av k ρ sargs rin y hs hok ha1 ha2 (fun d r h=>resEq_get hr h) (fun d c h=> ?_) (fun d c h=> ?_) hy.1 (fun d r hd=>(outN_get hy.2 hd).2) hk
 · have:=List.all_eq_true.1 hra _ (lookN_mem h);exact Option.isSome_iff_exists.1 this
 · have:=List.all_eq_true.1 hav _ (lookN_mem h);simpa using this
end Go.Eng
namespace Go.Eng
open Go Go.RowKit
theorem FSpec.ofBelow {P:Program}{f:FuncId}{args:List SV}{y:SV}(henter:∀args w,(callFunc f args).run P w= .ok (.enter f args) w)
 (h:∀ (G:Hp) (β:Env) (w:World) (vs:List Value),(∀b o,G b=some o→w.heap[b]? =some o)→vs.length=args.length→(∀ (i:Nat) x v,args[i]? =some x→vs[i]? =some v→SV.Den G β x v)→
   ∃u,(∀G β,SV.Den G β y u)∧Calls P f vs.toArray w fun e w' =>e= .returned u∧Below w.heap.size w w'):FSpec P f args [] (fun x r=>x=y∧r= []):=by
 refine⟨henter,fun G β w vs hpre hl hd=> ?_⟩;obtain⟨u,hu,hc⟩:=h G β w vs hpre.gw hl hd;refine hc.mono ?_;rintro e w' ⟨rfl,hb⟩;refine⟨u,y,[],G,β,rfl,⟨rfl,rfl⟩,⟨Hp.le_refl G,Env.le_refl β,fun b o hg=> ?_,fun b o hg=>.inl hg,⟨hb.os,hb.tape,hb.output,hb.size,fun b hlt _=>hb.block b hlt⟩,fun d r hd=>(by cases hd),fun d d' r r' v v' b hd=>(by cases hd),fun d r v b hd=>(by cases hd)⟩,hu G β⟩;have:=hpre.gw b o hg;have hlt:b<w.heap.size:=(Array.getElem?_eq_some_iff.1 this).1;rw[hb.block b hlt];exact this
theorem cons_eq {a b:SV}{l m:List SV}(h:a=b)(k:l=m):a::l=b::m:=by rw[h,k]
mutual
theorem ren_nil:∀x:SV,SV.okN [] x=true→SV.ren [] x=x
 | .any,_=>rfl
 | .bad,_=>rfl
 | .undef,_=>rfl
 | .d _,_=>rfl
 | .agg l,h=>by simp only[SV.ren];rw[renL_nil l h]
 | .tup l,h=>by simp only[SV.ren];rw[renL_nil l h]
 | .ptr _ _,h=>by simp[SV.okN,lookN]at h
 | .buf _,h=>by simp[SV.okN,lookN]at h
 | .bel _ _ _ _,h=>by simp[SV.okN,lookN]at h
 | .mp _,h=>by simp[SV.okN,lookN]at h
 | .fn f caps,h=>by simp only[SV.ren];rw[renL_nil caps h]
 | .sub _ _ _ _,h=>by simp[SV.okN,lookN]at h
theorem renL_nil:∀l:List SV,SV.okNL [] l=true→SV.renL [] l=l
 | [],_=>rfl
 | x::l,h=>by
   simp only[SV.okNL,Bool.and_eq_true]at h;simp only[SV.renL];rw[ren_nil x h.1,renL_nil l h.2]
end
theorem argsLe_nil:∀ {l:List SV},SV.okNL [] l=true→argsLe [] l l:=by
 intro l
 induction l with
 |nil=>intro _;trivial
 | cons x l ih=>
   intro h;simp only[SV.okNL,Bool.and_eq_true]at h;exact⟨by rw[ren_nil x h.1];exact SV.le_refl _,ih h.2⟩
theorem SV.le_tup {l m:List SV}(h:argsLe0 l m):SV.le (.tup l) (.tup m):=by
 obtain⟨h1,h2⟩:=argsLe0_get h;intro G β v hv
 cases hv with|tup _ vs hl hd=>
 refine .tup _ _ (hl.trans h1) (fun i y v hy hv=> ?_);have hi:i<l.length:=by rw[h1];exact(List.getElem?_eq_some_iff.1 hy).1
 exact h2 i _ y (List.getElem?_eq_getElem hi) hy G β v (hd i _ v (List.getElem?_eq_getElem hi) hv)
theorem SV.le_snocF {α:Type}{f:α→List DV}{d:α}{l:List α}{x:α}{k:Nat}{h:Nat→List DV}(hx:h 0=f x):
 SV.le (.d (.ro k (l.length+1) (appGet l.length (rowF f d l) h))) (.d (seqD k f d (l++ [x]))):=SV.le_ro (by simp) (rows_snocF hx)
theorem CallX.exact {P:Program}{f:FuncId}{dst:Option Nat}{args:List SV}{s:St}{av:List Nat}{k:Upd→Prop}{y:SV}
 (hs:FSpec P f args [] fun x r=>x=y∧r= [])(hargs:SV.okNL [] args=true)(hy:SV.okN [] y=true)(hk:k ⟨dst,y,[],[]⟩):CallX P f dst args s av k:=by
 refine CallX.pure hs (argsLe_nil hargs) hy ?_;rw[ren_nil y hy];exact hk
end Go.Eng
namespace Go.Eng
open Go Go.RowKit
end Go.Eng
namespace Go.Eng
open Go
theorem SV.Den.closed {G:Hp}{β βc:Env}{x:SV}{v:Value}(ok:SV.okN [] x=true)(h:SV.Den G β x v):SV.Den G βc x v:=by
 have:=h.reren (ρ:= []) (βc:=βc) (fun d c e=>by cases e) ok;rwa [ren_nil x ok]at this
def froArgs (d k n:Nat)(g:Nat→List DV):List SV→List SV→Prop
 | [],[]=>True
 |x::l,y::m=>((x= .buf d∧y= .d (.ro k n g))∨(x=y∧SV.okN [] y=true))∧froArgs d k n g l m
 |_,_=>False
theorem froArgs_get {d k n:Nat}{g:Nat→List DV}:∀ {l m:List SV},froArgs d k n g l m→l.length=m.length∧∀ (i:Nat) x y,l[i]? =some x→m[i]? =some y→(x= .buf d∧y= .d (.ro k n g))∨(x=y∧SV.okN [] y=true):=by
 intro l
 induction l with
 | nil=>
   intro m h
   cases m with
   |nil=>exact⟨rfl,by simp⟩
   |cons y m=>exact h.elim
 | cons x l ih=>
   intro m h
   cases m with
   |nil=>exact h.elim
   | cons y m=>
     obtain⟨h1,h2⟩:=h;obtain⟨i1,i2⟩:=ih h2;refine⟨by simp[i1],fun i a b ha hb=> ?_⟩
     cases i with
     |zero=>simp at ha hb;subst ha;subst hb;exact h1
     |succ i=>exact i2 i a b (by simpa using ha) (by simpa using hb)
theorem FSpec.fro {P:Program}{f:FuncId}{args args':List SV}{y:SV}(d e k n:Nat)(g:Nat→List DV)(hs:FSpec P f args [] fun x r=>x=y∧r= [])(hy:SV.okN [] y=true)(ha:froArgs d k n g args' args):
 FSpec P f args' [(d,.buf e k n g)] (fun x r=>x=y∧r= [(d,.fro k n g)]):=by
 obtain⟨hlen,ha⟩:=froArgs_get ha;refine⟨hs.enter,fun G β w vs hpre hl hd=> ?_⟩
 let R:=lookL [(d,Res.buf e k n g)]
 have hRd:R d=some (.buf e k n g):=by simp[R,lookL]
 let A:Amb:=⟨w,Tin w β R,G,0,fun _=>none,fun _ _ h=>by cases h⟩
 have hm:MG A G β ⟨fun _=>.any,R,fun _=>true⟩ #[] w:=⟨rfl,Hp.le_refl G,(fun _ _ h=>by cases h),hpre.gw,(fun b o e=>.inl e),Keep.refl w _,(fun i=>.any _),hpre.rs,hpre.dj,
  fun d r v b h1 h2 h3 h4=>⟨hpre.og d r v b h1 h2 h3 h4,.inl ⟨d,r,v,h1,h2,h3,h4⟩⟩,fun _ _ _=>rfl⟩
 obtain⟨G',hle,hm'⟩:=hm.freeze hRd;obtain⟨vd,hvd,hro⟩:=hm'.rs d (.fro k n g) (by simp[St.app,putR,lookR]);have hpre':Pre G' (fun _=>none) w (lookL []):=⟨hm'.gw,(fun _ _ h=>by cases h),(fun _ _ _ _ _ _ _ h=>by cases h),(fun _ _ _ _ h=>by cases h),(fun _ _ h=>by cases h)⟩
 have hargs:∀ (i:Nat) x v,args[i]? =some x→vs[i]? =some v→SV.Den G' (fun _=>none) x v:=by
  intro i y' v hy' hv;have hi:i<args'.length:=by rw[hlen];exact(List.getElem?_eq_some_iff.1 hy').1
  have hx:=hd i _ v (List.getElem?_eq_getElem hi) hv;rcases ha i _ y' (List.getElem?_eq_getElem hi) hy' with⟨q1,q2⟩|⟨q1,q2⟩
  · rw[q1]at hx;rw[q2]
    cases hx with|buf _ _ hb _=>
    rw[hvd]at hb;cases hb;exact .d _ _ hro
  · rw[q1]at hx;exact(hx.closed q2).mono hle (Env.le_refl _)
 refine(hs.calls G' (fun _=>none) w vs hpre' (hl.trans hlen) hargs).mono ?_;rintro e' w' ⟨v,x,rout,G2,β2,rfl,⟨rfl,rfl⟩,ho,hv⟩;have hT:∀b,¬Tin w (fun _=>none) (lookL []) b:=by rintro b ⟨d,r,v,h,_⟩;cases h
 have hrow:∀c r,lookL [(d,Res.fro k n g)] c=some r→c=d∧r=Res.fro k n g:=by
  intro c r hr;simp only[lookL]at hr
  cases hq:Nat.beq c d with
  |false=>rw[hq]at hr;cases hr
  |true=>rw[hq]at hr;cases hr;exact⟨Nat.eq_of_beq_eq_true hq,rfl⟩
 refine⟨v,x,[(d,.fro k n g)],G2,β,rfl,⟨rfl,rfl⟩,⟨Hp.le_trans hle ho.gle,Env.le_refl β,ho.gw,fun b o hb=> ?_,⟨ho.keep.os,ho.keep.tape,ho.keep.output,ho.keep.size,fun b hb _=>ho.keep.block b hb (hT b)⟩,fun c r hr=> ?_,fun c c' r r' _ _ _ h1 _ o1 _ _ _ _ _=> ?_,fun c r _ _ h1 o1 _ _=> ?_⟩,hv.closed hy⟩
 · rcases ho.gn b o hb with q|q|q
   · exact hm'.gn b o q
   · exact absurd q (hT b)
   · exact .inr (.inr q)
 · obtain⟨rfl,rfl⟩:=hrow c r hr;exact⟨vd,hvd,hro.mono ho.gle⟩
 · obtain⟨rfl,rfl⟩:=hrow c r h1;cases o1
 · obtain⟨rfl,rfl⟩:=hrow c r h1;cases o1
end Go.Eng
namespace Go.Eng
open Go
mutual
def namesV:SV→List Nat
 | .any=> []
 | .bad=> []
 | .undef=> []
 | .d _=> []
 | .agg l=>namesL l
 | .tup l=>namesL l
 | .ptr q _=> [q]
 | .buf q=> [q]
 | .bel q _ _ _=> [q]
 | .mp q=> [q]
 | .fn _ caps=>namesL caps
 | .sub q _ _ _=> [q]
def namesL:List SV→List Nat
 | []=> []
 |x::l=>namesV x++namesL l
end
def namesR:Option Res→List Nat
 |some (.cells _ l)=>namesL l
 |some (.iter m _ _)=> [m]
 |_=> []
def addN:List Nat→List Nat→List Nat
 | [],l=>l
 |d::m,l=>bif mem l d then addN m l else addN m (d::l)
def reachN (s:St):Nat→List Nat→List Nat
 |0,l=>l
 |n+1,l=>reachN s n (addN (l.flatMap fun d=>namesR (s.res d)) l)
def keepL (s:St)(ts:List Nat):List (Nat×SV):=ts.map fun i=>(i,s.tmps i)
def keepR (s:St):List Nat→List (Nat×Res)
 | []=> []
 | d::l=>match s.res d with
   |some r=>(d,r)::keepR s l
   |none=>keepR s l
def idN (ds:List Nat):List (Nat×Nat):=ds.map fun d=>(d,d)
def hasR (s:St)(ds:List Nat):Bool:=ds.all fun d=>(s.res d).isSome
def tmOk (s:St)(ρ:List (Nat×Nat))(ts:List Nat):Bool:=ts.all fun i=>(s.tmps i).okN ρ
def rsOk (s:St)(ρ:List (Nat×Nat))(ds:List Nat):Bool:=ds.all fun d=>match s.res d with|some r=>r.okN ρ|none=>true
theorem lookN_id:∀ {ds:List Nat} {d c:Nat},lookN (idN ds) d=some c→c=d:=by
 intro ds
 induction ds with
 |nil=>intro d c h;cases h
 | cons e l ih=>
   intro d c h;simp only[idN,List.map_cons,lookN]at h
   by_cases q:d=e
   · subst q;simp at h;exact h.symm
   · rw[nbeq_ne q]at h;exact ih h
theorem lookN_in:∀ {ds:List Nat} {d:Nat},d ∈ ds→lookN (idN ds) d=some d:=by
 intro ds
 induction ds with
 |nil=>intro d h;cases h
 | cons e l ih=>
   intro d h;simp only[idN,List.map_cons,lookN]
   by_cases q:d=e
   · subst q;simp
   · rw[nbeq_ne q];rcases List.mem_cons.1 h with p|p
     · exact absurd p q
     · exact ih p
mutual
theorem ren_id {ρ:List (Nat×Nat)}(hρ:∀d c,lookN ρ d=some c→c=d):∀x:SV,SV.okN ρ x=true→SV.ren ρ x=x
 | .any,_=>rfl
 | .bad,_=>rfl
 | .undef,_=>rfl
 | .d _,_=>rfl
 | .agg l,h=>by simp only[SV.ren];rw[renL_id hρ l h]
 | .tup l,h=>by simp only[SV.ren];rw[renL_id hρ l h]
 | .ptr q o,h=>by
   simp only[SV.okN]at h;obtain⟨c,hc⟩:=Option.isSome_iff_exists.1 h
   simp only[SV.ren,hc];rw[hρ _ _ hc]
 | .buf q,h=>by
   simp only[SV.okN]at h;obtain⟨c,hc⟩:=Option.isSome_iff_exists.1 h
   simp only[SV.ren,hc];rw[hρ _ _ hc]
 | .bel q k i o,h=>by
   simp only[SV.okN]at h;obtain⟨c,hc⟩:=Option.isSome_iff_exists.1 h
   simp only[SV.ren,hc];rw[hρ _ _ hc]
 | .mp q,h=>by
   simp only[SV.okN]at h;obtain⟨c,hc⟩:=Option.isSome_iff_exists.1 h
   simp only[SV.ren,hc];rw[hρ _ _ hc]
 | .fn f caps,h=>by simp only[SV.ren];rw[renL_id hρ caps h]
 | .sub q k lo n,h=>by
   simp only[SV.okN]at h;obtain⟨c,hc⟩:=Option.isSome_iff_exists.1 h;simp only[SV.ren,hc];rw[hρ _ _ hc]
theorem renL_id {ρ:List (Nat×Nat)}(hρ:∀d c,lookN ρ d=some c→c=d):∀l:List SV,SV.okNL ρ l=true→SV.renL ρ l=l
 | [],_=>rfl
 | x::l,h=>by
   simp only[SV.okNL,Bool.and_eq_true]at h;simp only[SV.renL];rw[ren_id hρ x h.1,renL_id hρ l h.2]
end
theorem resRen_id {ρ:List (Nat×Nat)}(hρ:∀d c,lookN ρ d=some c→c=d)(r:Res)(h:r.okN ρ=true):r.ren ρ=r:=by
 cases r<;>simp only[Res.ren]
 · simp only[Res.okN]at h;rw[renL_id hρ _ h]
 · simp only[Res.okN]at h;obtain⟨c,hc⟩:=Option.isSome_iff_exists.1 h;simp only[hc];rw[hρ _ _ hc]
theorem keepR_look {s:St}:∀ {ds:List Nat} {d:Nat},d ∈ ds→(s.res d).isSome=true→(lookL (keepR s ds) d).isSome=true:=by
 intro ds
 induction ds with
 |nil=>intro d h;cases h
 | cons e l ih=>
   intro d h hs;simp only[keepR]
   by_cases q:d=e
   · subst q;obtain⟨r,hr⟩:=Option.isSome_iff_exists.1 hs;rw[hr];simp[lookL]
   · have hd:d ∈ l:=by rcases List.mem_cons.1 h with p|p;exact absurd p q;exact p
     split
     · simp only[lookL];rw[nbeq_ne q];exact ih hd hs
     · exact ih hd hs
theorem Entails.keep {s:St}(ts ds:List Nat)(h1:okE (idN ds)=true)(h2:hasR s ds=true)(h3:tmOk s (idN ds) ts=true)(h4:rsOk s (idN ds) ds=true):Entails s (mkSt (keepL s ts) (keepR s ds)):=by
 have hρ:∀d c,lookN (idN ds) d=some c→c=d:=fun d c h=>lookN_id h
 refine Entails.mk' (idN ds) h1 ?_ ?_ ?_
 · simp only[idN,List.all_map];refine List.all_eq_true.2 (fun d hd=> ?_);exact keepR_look hd (List.all_eq_true.1 h2 d hd)
 · clear h1 h2 h4
   induction ts with
   |nil=>trivial
   | cons i l ih=>
     simp only[tmOk,List.all_cons,Bool.and_eq_true]at h3;exact⟨by rw[ren_id hρ _ h3.1];exact SV.le_refl _,ih h3.2⟩
 · have go:∀l:List Nat,(∀d ∈ l,d ∈ ds)→resIn s (idN ds) (keepR s l):=by
    intro l
    induction l with
    |nil=>intro _;trivial
    | cons d l ih=>
      intro hl;simp only[keepR];have hd:=hl d List.mem_cons_self;have h4d:=List.all_eq_true.1 h4 d hd;split
      · rename_i r hr;rw[hr]at h4d;refine⟨?_,ih fun e he=>hl e (List.mem_cons_of_mem _ he)⟩;rw[lookN_in hd];simp only[hr];rw[resRen_id hρ r h4d];exact Res.le_refl _
      · exact ih fun e he=>hl e (List.mem_cons_of_mem _ he)
   exact go ds fun _ h=>h
def forceT:List (Nat×SV)→(List (Nat×SV)→Prop)→Prop
 | [],k=>k []
 |(i,x)::l,k=>forceV x fun x=>forceT l fun l=>k ((i,x)::l)
theorem forceT_eq:∀ (l:List (Nat×SV)) (k:List (Nat×SV)→Prop),forceT l k=k l
 | [],k=>rfl
 |(i,x)::l,k=>by simp only[forceT,forceV_eq,forceT_eq l]
def forceRl:List (Nat×Res)→(List (Nat×Res)→Prop)→Prop
 | [],k=>k []
 |(d,r)::l,k=>forceR r fun r=>forceRl l fun l=>k ((d,r)::l)
theorem forceRl_eq:∀ (l:List (Nat×Res)) (k:List (Nat×Res)→Prop),forceRl l k=k l
 | [],k=>rfl
 |(d,r)::l,k=>by simp only[forceRl,forceR_eq,forceRl_eq l]
theorem LoopX.ent {P:Program}{c:Code}{Q:Exit→St→Prop}{s s':St}(he:Entails s s')(h:LoopX P c Q s'):LoopX P c Q s:=⟨fun A a w hN hm=>h.wp A a w hN (he.imp A a w hm)⟩
def keepOk (s:St)(ts ds:List Nat):Bool:=okE (idN ds)&&hasR s ds&&tmOk s (idN ds) ts&&rsOk s (idN ds) ds
def firstId:Code→Nat
 | .region id _ _=>2*id
 | .block id _=>2*id+1
 | .seq a _=>firstId a
 |_=>0
theorem LoopX.run {P:Program}{T:Tab}(hT:TabOk P T){C:List Nat}{c:Code}{Q:Exit→St→Prop}{s:St}(n:Nat)(_:firstId c=n)(ts ex:List Nat)(hg:∀l s,¬Q (.goto l) s)(hu:∀s,¬Q .outgrown s)
 (h:br (keepOk s ts (reachN s 4 (addN (namesL (ts.map s.tmps)) ex))) (forceT (keepL s ts) fun tl=>forceRl (keepR s (reachN s 4 (addN (namesL (ts.map s.tmps)) ex))) fun rl=>
   wpx P T C c (thenx (fun s' =>LoopX P c Q s') Q) (mkSt tl rl)) False):LoopX P c Q s:=by
 obtain⟨h0,h⟩:=br_elim h;rw[forceT_eq,forceRl_eq]at h;simp only[keepOk,Bool.and_eq_true]at h0;exact LoopX.ent (Entails.keep ts _ h0.1.1.1 h0.1.1.2 h0.1.2 h0.2) (LoopX.unroll hT hg hu h)
theorem LoopX.freeze {P:Program}{c:Code}{Q:Exit→St→Prop}{s:St}(d e kk n:Nat)(g:Nat→List DV)(hd:s.res d=some (.buf e kk n g))(h:LoopX P c Q (s.app ⟨none,.any,[(d,some (.fro kk n g))],[]⟩)):LoopX P c Q s:=by
 refine⟨fun A a w hN=> ?_⟩;rintro⟨h0,G,β,hm⟩;obtain⟨G',_,hm'⟩:=hm.freeze hd;exact h.wp A a w hN ⟨h0,G',β,hm'⟩
end Go.Eng
namespace Go.Eng
open Go
theorem Entails.nilCell {s:St}(c d e k j:Nat){ce:TypeId}{l:List SV}(g:Nat→List DV)(hc:s.res c=some (.cells ce l))(hj:l[j]? =some (.d .nilsl))(hd:s.used d=false)(hk:0<k)(hcd:Nat.beq c d=false):
 Entails s (s.app ⟨none,.any,[(c,some (.cells ce (l.set j (.buf d)))),(d,some (.buf e k 0 g))],[d]⟩):=by
 refine⟨fun A a w=> ?_⟩;rintro⟨h0,G,β,h⟩;refine⟨h0,G,β.set d (.slice none 0 0),?_⟩;have hn:=h.name (r:=.buf e k 0 g) (v:=.slice none 0 0) hd rfl (fun b hb=>by cases hb) ⟨_,[],by simp[Env.set],World.ownsRow_nil w 0 e k,hk,fun i hi=>by omega,fun i j x hi=>by omega⟩
 have hc1:(s.app ⟨none,.any,[(d,some (.buf e k 0 g))],[d]⟩).res c=some (.cells ce l):=by
  simp only[St.app,putR_apply,lookR];rw[hcd];exact hc
 have hr2:∀x,(s.app ⟨none,.any,[(c,some (.cells ce (l.set j (.buf d)))),(d,some (.buf e k 0 g))],[d]⟩).res x=if x=c then some (.cells ce (l.set j (.buf d)))else(s.app ⟨none,.any,[(d,some (.buf e k 0 g))],[d]⟩).res x:=by
  intro x;simp only[St.app,putR_apply,lookR]
  by_cases e:x=c
  · subst e;simp
  · rw[nbeq_ne e];simp[e]
 have own:∀x r,(s.app ⟨none,.any,[(c,some (.cells ce (l.set j (.buf d)))),(d,some (.buf e k 0 g))],[d]⟩).res x=some r→∃r1,(s.app ⟨none,.any,[(d,some (.buf e k 0 g))],[d]⟩).res x=some r1∧r1.own=r.own∧r1.isR=r.isR:=by
  intro x r hx;rw[hr2]at hx;split at hx
  · rename_i q;subst q;cases hx;exact⟨_,hc1,rfl,rfl⟩
  · exact⟨r,hx,rfl,rfl⟩
 refine⟨hn.sz,hn.g0,hn.e0,hn.gw,hn.gn,hn.keep,hn.tm,fun x r hx=> ?_,fun x x' r1 r2 v1 v2 b h1 h2 o1 o2 e1 e2 b1 b2=> ?_,fun x r v b hx ho hv hb=> ?_,hn.sc⟩
 · rw [hr2]at hx;split at hx
   · rename_i q;subst q;cases hx;obtain⟨b,vs,q1,q2,q3,q4⟩:=hn.rs _ _ hc1;refine⟨b,vs,q1,q2,by rw[List.length_set];exact q3,fun i y v hy hv=> ?_⟩;rw[List.getElem?_set]at hy;split at hy
     · rename_i hij;subst hij;split at hy
       · cases hy;have:=q4 _ _ _ hj hv;cases this with|d _ _ hv' =>cases hv';exact .buf _ _ (by simp[Env.set]) rfl
       · cases hy
     · exact q4 i y v hy hv
   · exact hn.rs x r hx
 · obtain⟨s1,p1,p2,p5⟩:=own _ _ h1;obtain⟨s2,p3,p4,p6⟩:=own _ _ h2;exact hn.dj x x' s1 s2 v1 v2 b p1 p3 (p2.trans o1) (p4.trans o2) e1 e2 (b1.to p5.symm) (b2.to p6.symm)
 · obtain⟨s1,p1,p2,p5⟩:=own _ _ hx;exact hn.og x s1 v b p1 (p2.trans ho) hv (hb.to p5.symm)
end Go.Eng
namespace Go.Eng
open Go
theorem FSpec.nilCell {P:Program}{f:FuncId}{args:List SV}{c d e k j:Nat}{ce:TypeId}{l:List SV}{g:Nat→List DV}{rest:List (Nat×Res)}{post:SV→List (Nat×Res)→Prop}
 (h:FSpec P f args ((c,.cells ce (l.set j (.buf d)))::(d,.buf e k 0 g)::rest) post)(hk:0<k)(hcd:Nat.beq d c=false)(hj:l[j]? =some (.d .nilsl))(hr:lookL rest d=none):
 FSpec P f args ((c,.cells ce l)::rest) post:=by
 refine⟨h.enter,fun G β w vs hpre hl hd=> ?_⟩;have hne:d≠c:=fun q=>by rw[q]at hcd;simp at hcd
 have hnd:lookL ((c,Res.cells ce l)::rest) d=none:=by
  simp only[lookL];rw[hcd];exact hr
 have hβ:β d=none:=by
  cases hq:β d with
  |none=>rfl
  |some v=>obtain⟨r,h1⟩:=hpre.sc _ _ hq;rw[hnd]at h1;cases h1
 have hle:β.le (β.set d (.slice none 0 0)):=Env.le_set hβ;have hs:(β.set d (.slice none 0 0)) d=some (.slice none 0 0):=by simp[Env.set]
 have ho:∀x,x≠d→(β.set d (.slice none 0 0)) x=β x:=fun x q=>by simp[Env.set,q]
 have look:∀x r,lookL ((c,Res.cells ce (l.set j (.buf d)))::(d,.buf e k 0 g)::rest) x=some r→(x=d∧r= .buf e k 0 g)∨(x≠d∧∃r0,lookL ((c,Res.cells ce l)::rest) x=some r0∧(r0.own=r.own∧r0.isR=r.isR)∧(r0=r∨(x=c∧r0= .cells ce l∧r= .cells ce (l.set j (.buf d))))):=by
  intro x r hx;simp only[lookL]at hx
  by_cases q:x=c
  · subst q;simp at hx;refine .inr ⟨Ne.symm hne,.cells ce l,by simp[lookL],by rw[←hx];exact⟨rfl,rfl⟩,.inr ⟨rfl,rfl,hx.symm⟩⟩
  · rw[nbeq_ne q]at hx
    by_cases q2:x=d
    · subst q2;simp at hx;exact .inl ⟨rfl,hx.symm⟩
    · rw[nbeq_ne q2]at hx;refine .inr ⟨q2,r,?_,⟨rfl,rfl⟩,.inl rfl⟩;simp only[lookL];rw[nbeq_ne q];exact hx
 have back:∀x r,lookL ((c,Res.cells ce l)::rest) x=some r→∃r0,lookL ((c,Res.cells ce (l.set j (.buf d)))::(d,.buf e k 0 g)::rest) x=some r0∧(r0.own=r.own∧r0.isR=r.isR):=by
  intro x r hx;simp only[lookL]at hx
  by_cases q:x=c
  · subst q;simp at hx;exact⟨.cells ce (l.set j (.buf d)),by simp[lookL],by rw[←hx];exact⟨rfl,rfl⟩⟩
  · rw[nbeq_ne q]at hx;have q2:x≠d:=fun q2=>by subst q2;rw[hr]at hx;cases hx
    refine⟨r,?_,rfl,rfl⟩;simp only[lookL];rw[nbeq_ne q,nbeq_ne q2];exact hx
 have hT:∀b,Tin w (β.set d (.slice none 0 0)) (lookL ((c,Res.cells ce (l.set j (.buf d)))::(d,.buf e k 0 g)::rest)) b↔Tin w β (lookL ((c,Res.cells ce l)::rest)) b:=by
  intro b;constructor
  · rintro⟨x,r,v,h1,h2,h3,h4⟩;rcases look x r h1 with⟨rfl,rfl⟩|⟨q,r0,q1,⟨q2,q5⟩,_⟩
    · rw[hs]at h3;cases h3;cases h4.plain rfl
    · exact⟨x,r0,v,q1,q2.trans h2,by rw[←ho x q];exact h3,h4.to q5.symm⟩
  · rintro⟨x,r,v,h1,h2,h3,h4⟩;obtain⟨r0,q1,q2,q5⟩:=back x r h1;exact⟨x,r0,v,q1,q2.trans h2,hle _ _ h3,h4.to q5.symm⟩
 have hpre':Pre G (β.set d (.slice none 0 0)) w (lookL ((c,Res.cells ce (l.set j (.buf d)))::(d,.buf e k 0 g)::rest)):=by
  refine⟨hpre.gw,fun x r hx=> ?_,fun x x' r r' v v' b h1 h2 o1 o2 e1 e2 b1 b2=> ?_,fun x r v b hx hx2 hv hb=> ?_,fun x v hx=> ?_⟩
  · rcases look x r hx with⟨rfl,rfl⟩|⟨q,r0,q1,q2,q3⟩
    · exact⟨.slice none 0 0,[],hs,World.ownsRow_nil w 0 e k,hk,fun i hi=>by omega,fun i j x hi=>by omega⟩
    · have hok:=hpre.rs x r0 q1;rcases q3 with rfl|⟨rfl,rfl,rfl⟩
      · cases r0 with
        | cells e' l' =>
          obtain⟨b,vs,k1,k2,k3,k4⟩:=hok
          exact⟨b,vs,hle _ _ k1,k2,k3,fun i x v hx hv=>(k4 i x v hx hv).mono (Hp.le_refl G) hle⟩
        | buf e' k' n' g' =>
          obtain⟨v,xs,k1,k2⟩:=hok
          exact⟨v,xs,hle _ _ k1,k2⟩
        | fro k' n' g' =>
          obtain⟨v,k1,k2⟩:=hok
          exact⟨v,hle _ _ k1,k2⟩
        | byb n' g' =>
          obtain⟨b,cap,cs,e,k1,k2⟩:=hok
          exact⟨b,cap,cs,e,hle _ _ k1,k2⟩
        | map ag va ks zr has val=>
          obtain⟨r,es,clock,l,k1,k2⟩:=hok
          exact⟨r,es,clock,l,hle _ _ k1,k2⟩
        | mapB ag va ks zr has val clock kb=>
          obtain⟨r,es,l,k1,k2⟩:=hok
          exact⟨r,es,l,hle _ _ k1,k2⟩
        | iter m since seen=>
          obtain⟨q,r,k1,k2,k3⟩:=hok
          exact⟨q,r,hle _ _ k1,hle _ _ k2,k3⟩
        | mapR kk e' k' has len get hole=>
          obtain⟨r,es,clock,l,k1,k2⟩:=hok
          exact⟨r,es,clock,l,hle _ _ k1,k2⟩
        | bunch e' k' l' =>
          obtain⟨⟨v,k1,k1b⟩,k2⟩:=hok
          exact⟨⟨v,hle _ _ k1,k1b⟩,k2⟩
        | inX X=>
          obtain⟨⟨v,k1⟩,k2⟩:=hok
          exact⟨⟨v,hle _ _ k1⟩,k2⟩
        | know Q=>
          obtain⟨⟨v,k1⟩,k2⟩:=hok
          exact⟨⟨v,hle _ _ k1⟩,k2⟩
        |no=>exact hok.elim
      · obtain⟨b,vs,k1,k2,k3,k4⟩:=hok;refine⟨b,vs,hle _ _ k1,k2,by rw[List.length_set];exact k3,fun i y v hy hv=> ?_⟩;rw[List.getElem?_set]at hy;split at hy
        · rename_i hij;subst hij;split at hy
          · cases hy;have:=k4 _ _ _ hj hv;cases this with|d _ _ hv' =>cases hv';exact .buf _ _ hs rfl
          · cases hy
        · exact(k4 i y v hy hv).mono (Hp.le_refl G) hle
  · rcases look x r h1 with⟨rfl,rfl⟩|⟨q,r0,q1,⟨q2,q5⟩,_⟩
    · rw[hs]at e1;cases e1;cases b1.plain rfl
    · rcases look x' r' h2 with⟨rfl,rfl⟩|⟨p,s0,p1,⟨p2,p5⟩,_⟩
      · rw[hs]at e2;cases e2;cases b2.plain rfl
      · exact hpre.dj x x' r0 s0 v v' b q1 p1 (q2.trans o1) (p2.trans o2) (by rw[←ho x q];exact e1) (by rw[←ho x' p];exact e2) (b1.to q5.symm) (b2.to p5.symm)
  · rcases look x r hx with⟨rfl,rfl⟩|⟨q,r0,q1,⟨q2,q5⟩,_⟩
    · rw[hs]at hv;cases hv;cases hb.plain rfl
    · exact hpre.og x r0 v b q1 (q2.trans hx2) (by rw[←ho x q];exact hv) (hb.to q5.symm)
  · by_cases q:x=d
    · subst q;refine⟨.buf e k 0 g,?_⟩;simp only[lookL];rw[hcd];simp
    · rw[ho x q]at hx;obtain⟨r,h1⟩:=hpre.sc x v hx;obtain⟨r0,q1,_⟩:=back x r h1;exact⟨r0,q1⟩
 refine(h.calls G _ w vs hpre' hl (fun i x v hx hv=>(hd i x v hx hv).mono (Hp.le_refl G) hle)).mono ?_;rintro e' w' ⟨v,x,rout,G',β',h1,h2,h3,h4⟩;refine⟨v,x,rout,G',β',h1,h2,⟨h3.gle,fun x v hx=>h3.ele _ _ (hle _ _ hx),h3.gw,fun b o hb=> ?_,⟨h3.keep.os,h3.keep.tape,h3.keep.output,h3.keep.size,fun b hb hT' =>h3.keep.block b hb (fun q=>hT' ((hT b).1 q))⟩,h3.rs,h3.dj,fun x r v b q1 q2 q3 q4=> ?_⟩,h4⟩
 · rcases h3.gn b o hb with q|q|q
   · exact .inl q
   · exact .inr (.inl ((hT b).1 q))
   · exact .inr (.inr q)
 · obtain⟨p1,p2⟩:=h3.og x r v b q1 q2 q3 q4;refine⟨p1,?_⟩;rcases p2 with p2|p2
   · exact .inl ((hT b).1 p2)
   · exact .inr p2
theorem Entails.froCell {s:St}(c d kk n j:Nat){ce:TypeId}{l:List SV}(g:Nat→List DV)(hc:s.res c=some (.cells ce l))(hj:l[j]? =some (.buf d))(hd:s.res d=some (.fro kk n g)):
 Entails s (s.app ⟨none,.any,[(c,some (.cells ce (l.set j (.d (.ro kk n g)))))],[]⟩):=by
 refine⟨fun A a w=> ?_⟩;rintro⟨h0,G,β,h⟩;refine⟨h0,G,β,?_⟩;obtain⟨v,hv,hro⟩:=h.rs _ _ hd
 have hr2:∀x,(s.app ⟨none,.any,[(c,some (.cells ce (l.set j (.d (.ro kk n g)))))],[]⟩).res x=if x=c then some (.cells ce (l.set j (.d (.ro kk n g))))else s.res x:=by
  intro x;simp only[St.app,putR_apply,lookR]
  by_cases e:x=c
  · subst e;simp
  · rw[nbeq_ne e];simp[e]
 have own:∀x r,(s.app ⟨none,.any,[(c,some (.cells ce (l.set j (.d (.ro kk n g)))))],[]⟩).res x=some r→∃r1,s.res x=some r1∧r1.own=r.own∧r1.isR=r.isR:=by
  intro x r hx;rw[hr2]at hx;split at hx
  · rename_i q;subst q;cases hx;exact⟨_,hc,rfl,rfl⟩
  · exact⟨r,hx,rfl,rfl⟩
 refine⟨h.sz,h.g0,h.e0,h.gw,h.gn,h.keep,h.tm,fun x r hx=> ?_,fun x x' r1 r2 v1 v2 b h1 h2 o1 o2 e1 e2 b1 b2=> ?_,fun x r v b hx ho hv hb=> ?_,h.sc⟩
 · rw [hr2]at hx;split at hx
   · rename_i q;subst q;cases hx;obtain⟨b9,vs9,p1,p2,p3,p4⟩:=h.rs _ _ hc;refine⟨b9,vs9,p1,p2,by rw[List.length_set];exact p3,fun i y v' hy hv' => ?_⟩;rw[List.getElem?_set]at hy;split at hy
     · rename_i hij;subst hij;split at hy
       · cases hy;have:=p4 _ _ _ hj hv'
         cases this with|buf _ _ hb2 _=>
         rw[hv]at hb2;cases hb2;exact .d _ _ hro
       · cases hy
     · exact p4 i y v' hy hv'
   · exact h.rs x r hx
 · obtain⟨s1,p1,p2,p5⟩:=own _ _ h1;obtain⟨s2,p3,p4,p6⟩:=own _ _ h2;exact h.dj x x' s1 s2 v1 v2 b p1 p3 (p2.trans o1) (p4.trans o2) e1 e2 (b1.to p5.symm) (b2.to p6.symm)
 · obtain⟨s1,p1,p2,p5⟩:=own _ _ hx;exact h.og x s1 v b p1 (p2.trans ho) hv (hb.to p5.symm)
theorem Entails.froSub {s:St}(i d kk lo n N:Nat)(g:Nat→List DV)(hi:s.tmps i= .sub d kk lo n)(hd:s.res d=some (.fro kk N g)):
 Entails s (s.app ⟨some i,.d (.ro kk n fun j=>g (lo+j)),[],[]⟩):=by
 refine⟨fun A a w=> ?_⟩;rintro⟨h0,G,β,h⟩;refine⟨h0,G,β,h.sz,h.g0,h.e0,h.gw,h.gn,h.keep,fun j=> ?_,h.rs,h.dj,h.og,h.sc⟩;simp only[St.app,putT_apply]
 by_cases e:i=j
 · subst e;simp only[if_true];have ht:=h.tm i;rw[hi]at ht;generalize a.tmps.getD i Go.undef=v at ht;obtain⟨u,hu,hro⟩:=h.rs _ _ hd
   cases ht with|sub _ _ _ _ b N' cap hb hn=>
   rw[hb]at hu;cases hu;exact .d _ _ (hro.look hn)
 · rw[if_neg (by simp[e])];exact h.tm j
theorem FSpec.up {P:Program}{f:FuncId}{args:List SV}{rin R:List (Nat×Res)}{y y':SV}(h:FSpec P f args rin fun x r=>x=y∧r=R)(hle:SV.le y y'):FSpec P f args rin fun x r=>x=y'∧r=R:=
 ⟨h.enter,fun G β w vs h1 h2 h3=>(h.calls G β w vs h1 h2 h3).mono (by
   rintro e w' ⟨v,x,rout,G',β',h1,⟨rfl,rfl⟩,h3,h4⟩
   exact⟨v,y',_,G',β',h1,⟨rfl,rfl⟩,h3,hle _ _ _ h4⟩)⟩
end Go.Eng
namespace Go.Eng
open Go
theorem sAx {p q:Prop}(k:q)(h:p:=by(try dsimp only);first|omega|(refine szA rfl ?_;omega)|(refine szB rfl ?_;omega)|(unfold inI64;omega)|exact rfl|(simp only[List.toList_toArray,List.length_cons,List.length_nil];omega)|(simp only[lns]at*;omega)|decide|(unfold inI64;decide)):p∧q:=⟨h,k⟩
theorem rAx {P:Program}{T:Tab}(hT:TabOk P T)(id:Nat)(L:List (Nat×List Nat)){opsA:Array Oper}{k:St→Prop}{s:St}(h:opsD P T [] opsA.toList L [] k s)(hm:P.follows .mixedOrders=true:=by exact rfl)(hok:regOk [] opsA.toList L=true:=by decide+kernel):RegX P id opsA k s:=
 RegX.rule hT hm [] L hok h
theorem eAx {s:St}{ts:List (Nat×SV)}{rs:List (Nat×Res)}(ρ:List (Nat×Nat))(ht:entT s ρ ts:=by repeat' (first|exact True.intro|exact lr|exact rr|exact SV.le_int (by omega)|exact SV.le_any _|refine And.intro ?_ ?_))(hr:resIn s ρ rs:=by repeat' (first|exact True.intro|exact lr|exact rr|exact SV.le_int (by omega)|exact SV.le_any _|refine And.intro ?_ ?_))(hρ:okE ρ=true:=by exact rfl)(hdom:(ρ.all fun p=>(lookL rs p.1).isSome)=true:=by exact rfl):Entails s (mkSt ts rs):=
 Entails.mk' ρ hρ hdom ht hr
theorem oAx {P:Program}{f:FuncId}{dst:Option Nat}{args:List SV}{s:St}{av:List Nat}{k:Upd→Prop}{sargs:List SV}{rin:List (Nat×Res)}{post:SV→List (Nat×Res)→Prop}(hs:FSpec P f sargs rin post)(ρ:List (Nat×Nat))(hk:∀x rout,post x rout→(SV.okN ρ x&&outN ρ rout)=true∧k ⟨dst,x.ren ρ,outs ρ rout,ρ.map (·.2)⟩)(hok:okR ρ=true:=by exact rfl)(ha:argsLe ρ args sargs:=by first|exact trivial|exact⟨lr,trivial⟩|exact⟨lr,lr,trivial⟩|exact⟨lr,lr,lr,trivial⟩|exact⟨lr,lr,lr,lr,trivial⟩|exact⟨lr,lr,lr,lr,lr,trivial⟩|exact⟨lr,lr,lr,lr,lr,lr,trivial⟩|exact⟨lr,lr,lr,lr,lr,lr,lr,trivial⟩)(hr:resIn s ρ rin:=by first|exact trivial|exact⟨rr,trivial⟩|exact⟨rr,rr,trivial⟩|exact⟨rr,rr,rr,trivial⟩|exact⟨rr,rr,rr,rr,trivial⟩|exact⟨rr,rr,rr,rr,rr,trivial⟩|exact⟨rr,rr,rr,rr,rr,rr,trivial⟩|exact⟨rr,rr,rr,rr,rr,rr,rr,trivial⟩|exact⟨rr,rr,rr,rr,rr,rr,rr,rr,trivial⟩|exact⟨rr,rr,rr,rr,rr,rr,rr,rr,rr,trivial⟩|exact⟨rr,rr,rr,rr,rr,rr,rr,rr,rr,rr,trivial⟩|exact⟨rr,rr,rr,rr,rr,rr,rr,rr,rr,rr,rr,trivial⟩|exact⟨rr,rr,rr,rr,rr,rr,rr,rr,rr,rr,rr,rr,trivial⟩)(hro:freshN s rin ρ=true:=by exact rfl)(hav:(ρ.all fun p=> !mem av p.2)=true:=by exact rfl):CallX P f dst args s av k:=
 CallX.of hs ρ hok ha hr hro hav hk
theorem oLx {P:Program}{f:FuncId}{dst:Option Nat}{args:List SV}{s:St}{av:List Nat}{k:Upd→Prop}{sargs:List SV}{rin:List (Nat×Res)}{post:SV→List (Nat×Res)→Prop}(hs:FSpec P f sargs rin post)(ρ:List (Nat×Nat))(hk:∀x rout,post x rout→(SV.okN ρ x&&outN ρ rout)=true∧k ⟨dst,x.ren ρ,outs ρ rout,ρ.map (·.2)⟩)(hok:okR ρ=true:=by exact rfl)(ha:argsLe ρ args sargs:=by exact⟨lr,SV.le_lit rfl rfl,trivial⟩)(hr:resIn s ρ rin:=by exact⟨rr,trivial⟩)(hro:freshN s rin ρ=true:=by exact rfl)(hav:(ρ.all fun p=> !mem av p.2)=true:=by exact rfl):CallX P f dst args s av k:=
 CallX.of hs ρ hok ha hr hro hav hk
theorem tnc (i:Nat):(i:Int).toNat=i:=Int.toNat_natCast i
theorem tn0:Int.toNat 0=0:=rfl
theorem tn1:Int.toNat 1=1:=rfl
theorem tn2:Int.toNat 2=2:=rfl
theorem tn3:Int.toNat 3=3:=rfl
theorem oEx {P:Program}{f:FuncId}{dst:Option Nat}{args:List SV}{s:St}{av:List Nat}{k:Upd→Prop}{sargs:List SV}{rin:List (Nat×Res)}{Y:SV}{R:List (Nat×Res)}(hs:FSpec P f sargs rin fun x r=>x=Y∧r=R)(ρ:List (Nat×Nat))(hk:k ⟨dst,Y.ren ρ,outs ρ R,ρ.map (·.2)⟩)(hy:(SV.okN ρ Y&&outN ρ R)=true:=by exact rfl)(hok:okR ρ=true:=by exact rfl)(ha:argsLe ρ args sargs:=by first|exact trivial|exact⟨lr,trivial⟩|exact⟨lr,lr,trivial⟩|exact⟨lr,lr,lr,trivial⟩|exact⟨lr,lr,lr,lr,trivial⟩|exact⟨lr,lr,lr,lr,lr,trivial⟩|exact⟨lr,lr,lr,lr,lr,lr,trivial⟩|exact⟨lr,lr,lr,lr,lr,lr,lr,trivial⟩)(hr:resIn s ρ rin:=by first|exact trivial|exact⟨rr,trivial⟩|exact⟨rr,rr,trivial⟩|exact⟨rr,rr,rr,trivial⟩|exact⟨rr,rr,rr,rr,trivial⟩|exact⟨rr,rr,rr,rr,rr,trivial⟩|exact⟨rr,rr,rr,rr,rr,rr,trivial⟩|exact⟨rr,rr,rr,rr,rr,rr,rr,trivial⟩|exact⟨rr,rr,rr,rr,rr,rr,rr,rr,trivial⟩|exact⟨rr,rr,rr,rr,rr,rr,rr,rr,rr,trivial⟩|exact⟨rr,rr,rr,rr,rr,rr,rr,rr,rr,rr,trivial⟩|exact⟨rr,rr,rr,rr,rr,rr,rr,rr,rr,rr,rr,trivial⟩|exact⟨rr,rr,rr,rr,rr,rr,rr,rr,rr,rr,rr,rr,trivial⟩)(hro:freshN s rin ρ=true:=by exact rfl)(hav:(ρ.all fun p=> !mem av p.2)=true:=by exact rfl):CallX P f dst args s av k:=
 CallX.of hs ρ hok ha hr hro hav fun x r h=>by obtain⟨rfl,rfl⟩:=h;exact⟨hy,hk⟩
theorem szx {p:Prop}(h:p:=by first|decide|assumption):p:=h
theorem spAx {P:Program}{T:Tab}(hT:TabOk P T){f:FuncId}{fn:Func}{body:Code}{args:List SV}{rin:List (Nat×Res)}{post:SV→List (Nat×Res)→Prop}(hf:P.funcs[f]? =some fn)(henter:∀args w,(callFunc f args).run P w= .ok (.enter f args) w)(h:wpx P T [] body (RetQ T fn.results.toList post) (initSt args rin))(hb:fn.body=some body:=by exact rfl)(hok:codeOk fn.ntmps body=true:=by exact rfl)(hn:Nat.ble args.length fn.ntmps=true:=by exact rfl)(hrin:rinOk rin=true:=by exact rfl):FSpec P f args rin post:=
 spec_of hT hf hb henter hok hn hrin h
theorem pAx {P:Program}{f:FuncId}{dst:Option Nat}{args:List SV}{s:St}{av:List Nat}{k:Upd→Prop}{sargs:List SV}{y:SV}(hs:FSpec P f sargs [] fun x r=>x=y∧r= [])(hk:k ⟨dst,y.ren [],[],[]⟩)(ha:argsLe [] args sargs:=by first|exact trivial|exact⟨lr,trivial⟩|exact⟨lr,lr,trivial⟩|exact⟨lr,lr,lr,trivial⟩|exact⟨lr,lr,lr,lr,trivial⟩|exact⟨lr,lr,lr,lr,lr,trivial⟩|exact⟨lr,lr,lr,lr,lr,lr,trivial⟩|exact⟨lr,lr,lr,lr,lr,lr,lr,trivial⟩)(hy:SV.okN [] y=true:=by exact rfl):CallX P f dst args s av k:=
 CallX.pure hs ha hy hk
abbrev OL:=List (Nat×List Nat)
abbrev rg (n:Nat):List Nat:=List.range n
abbrev TL:=List (Nat×OL)
def tlk:TL→Nat→OL
 | [],_=> []
 |(i,l)::t,n=>bif Nat.beq i n then l else tlk t n
theorem tAx {P:Program}{T:Tab}(hT:TabOk P T)(tb:TL){id:Nat}{opsA:Array Oper}{k:St→Prop}{s:St}(h:opsD P T [] opsA.toList (tlk tb id) [] k s)(hm:P.follows .mixedOrders=true:=by exact rfl)(hok:regOk [] opsA.toList (tlk tb id)=true:=by decide+kernel):RegX P id opsA k s:=
 RegX.rule hT hm [] (tlk tb id) hok h
abbrev rq0:List (Nat×Nat):= [(1000001,1000001),(1000002,1000002),(1000003,1000003),(1000004,1000004)]
abbrev rq1:List (Nat×Nat):= [(1000001,1000001),(1000002,1000002),(1000003,1000003),(1000004,1000004),(1000005,1000005),(1000006,1000006),(1000007,1000007),(1000008,1000008),(1000010,1000010),(1000011,1000011)]
abbrev rq2:List (Nat×Nat):= [(1000001,1000001),(1000002,1000002),(1000003,1000003),(1000004,1000004),(1000005,1000005),(1000006,1000006),(1000007,1000007),(1000008,1000008),(1000010,1000010),(1000011,1000011),(50,60)]
abbrev rq3:List (Nat×Nat):= [(1000001,1000001),(1000002,1000002),(1000003,1000003),(1000004,1000004),(50,1000005),(1000006,1000006),(1000007,1000007),(1000008,1000008),(1000010,1000010),(1000011,1000011)]
abbrev rq4:List (Nat×Nat):= [(1000001,1000001),(1000002,1000002),(1000003,1000003),(1000004,1000004),(50,60),(1000006,1000006),(1000007,1000007),(1000008,1000008),(1000010,1000010),(1000011,1000011)]
abbrev rq5:List (Nat×Nat):= [(10,10),(1000001,1000001),(1000002,1000002),(1000003,1000003),(1000004,1000004),(1000005,1000005),(1000006,1000006),(1000007,1000007),(1000008,1000008),(1000010,1000010),(1000011,1000011)]
abbrev rq6:List (Nat×Nat):= [(10,10),(1000001,1000001),(1000002,1000002),(1000003,1000003),(1000004,1000004),(60,1000005),(1000006,1000006),(1000007,1000007),(1000008,1000008),(1000010,1000010),(1000011,1000011)]
abbrev rq7:List (Nat×Nat):= [(1000001,1000001),(1000002,1000002),(1000003,1000003),(1000004,1000004),(1000005,60),(1000006,1000006),(1000007,1000007),(1000008,1000008),(1000010,1000010),(1000011,1000011),(50,61)]
abbrev rq8:List (Nat×Nat):= [(10,10),(1000001,1000001),(1000002,1000002),(1000003,1000003),(1000004,1000004),(60,61),(1000006,1000006),(1000007,1000007),(1000008,1000008),(1000010,1000010),(1000011,1000011)]
abbrev rq9:List (Nat×Nat):= [(1000009,1000009),(1000001,1000001),(1000002,1000002),(1000003,1000003),(1000004,1000004),(50,1000005),(1000006,1000006),(1000007,1000007),(1000008,1000008),(1000010,1000010),(1000011,1000011)]
abbrev rq10:List (Nat×Nat):= [(1000009,1000009),(1000001,1000001),(1000002,1000002),(1000003,1000003),(1000004,1000004),(50,60),(1000006,1000006),(1000007,1000007),(1000008,1000008),(1000010,1000010),(1000011,1000011)]
abbrev rq11:List (Nat×Nat):= [(1000009,1000009),(22,22),(14,14),(15,15),(16,16),(50,50),(17,17),(18,18),(19,19),(20,20),(51,51)]
abbrev rq12:List (Nat×Nat):= [(3,3),(5,5),(19,19),(20,20),(999999,999999)]
end Go.Eng
