/- TopHousesTell is proved: for every input the law returns true, and its argument reads afterwards as it read before. Conditions: those of the given row alone. -/
import Derived.Test.YtkokpbpililcdaaGreatDoorThEngOne
import Derived.Test.YtkokpbpililcdaaGreatDoorThEngMap
import Derived.Deep.LoopGhost
import Derived.Below
set_option linter.unusedVariables false
set_option linter.unusedSimpArgs false
namespace Go.Eng
open Go
def aH:List (Nat×Nat)→Nat→Option Nat
 | [],_=>none
 |(e,c)::l,d=>bif Nat.beq d e then some c else aH l d
def aC:List (Nat×aY)→Nat→Option aY
 | [],_=>none
 |(e,r)::l,d=>bif Nat.beq d e then some r else aC l d
def A5:List (Nat×Nat)→Bool
 | []=>true
 |(d,c)::l=> !(l.any fun p=>Nat.beq p.1 d||Nat.beq p.2 c)&&A5 l
theorem cQ {ρ:List (Nat×Nat)}{d c:Nat}(h:aH ρ d=some c):(d,c) ∈ ρ:=by
 induction ρ with
 |nil=>cases h
 | cons p l ih=>
   obtain⟨e,c'⟩:=p;simp only[aH]at h
   by_cases he:d=e
   · subst he;simp at h;subst h;exact List.mem_cons_self
   · rw[ax he]at h;exact List.mem_cons_of_mem _ (ih h)
theorem rO {ρ:List (Nat×Nat)}(ok:A5 ρ=true){d c:Nat}(h:(d,c) ∈ ρ):aH ρ d=some c:=by
 induction ρ with
 |nil=>cases h
 | cons p l ih=>
   obtain⟨e,c'⟩:=p;simp only[A5,Bool.and_eq_true,Bool.not_eq_true']at ok;simp only[aH];rcases List.mem_cons.1 h with q|q
   · cases q;simp
   · by_cases he:d=e
     · subst he;have:=List.any_eq_false.1 ok.1 _ q;simp at this
     · rw[ax he];exact ih ok.2 q
theorem r6 {ρ:List (Nat×Nat)}(ok:A5 ρ=true){d d' c:Nat}(h:(d,c) ∈ ρ)(h':(d',c) ∈ ρ):d=d':=by
 induction ρ with
 |nil=>cases h
 | cons p l ih=>
   obtain⟨e,c'⟩:=p;simp only[A5,Bool.and_eq_true,Bool.not_eq_true']at ok;rcases List.mem_cons.1 h with q|q
   · cases q;rcases List.mem_cons.1 h' with q'|q'
     · cases q';rfl
     · have:=List.any_eq_false.1 ok.1 _ q';simp at this
   · rcases List.mem_cons.1 h' with q'|q'
     · cases q';have:=List.any_eq_false.1 ok.1 _ q;simp at this
     · exact ih ok.2 q q'
mutual
def SV.ren (ρ:List (Nat×Nat)):SV→SV
 | .any=>.any
 | .bad=>.bad
 | .undef=>.undef
 | .d x=>.d x
 | .agg l=>.agg (eG ρ l)
 | .tup l=>.tup (eG ρ l)
 | .ptr q off=>match aH ρ q with|some c=>.ptr c off|none=>.bad
 | .buf q=>match aH ρ q with|some c=>.buf c|none=>.bad
 | .bel q k i off=>match aH ρ q with|some c=>.bel c k i off|none=>.bad
 | .mp q=>match aH ρ q with|some c=>.mp c|none=>.bad
 | .fn f caps=>.fn f (eG ρ caps)
 | .sub q k lo n=>match aH ρ q with|some c=>.sub c k lo n|none=>.bad
def eG (ρ:List (Nat×Nat)):List SV→List SV
 | []=> []
 |x::l=>SV.ren ρ x::eG ρ l
end
mutual
def SV.okN (ρ:List (Nat×Nat)):SV→Bool
 | .agg l=>c8 ρ l
 | .tup l=>c8 ρ l
 | .ptr q _=>(aH ρ q).isSome
 | .buf q=>(aH ρ q).isSome
 | .bel q _ _ _=>(aH ρ q).isSome
 | .mp q=>(aH ρ q).isSome
 | .fn _ caps=>c8 ρ caps
 | .sub q _ _ _=>(aH ρ q).isSome
 |_=>true
def c8 (ρ:List (Nat×Nat)):List SV→Bool
 | []=>true
 |x::l=>SV.okN ρ x&&c8 ρ l
end
theorem ie (ρ:List (Nat×Nat)):∀ (l:List SV) (i:Nat),(eG ρ l)[i]? =(l[i]?).map (SV.ren ρ):=by
 intro l
 induction l with
 |nil=>intro i;simp[eG]
 |cons x l ih=>intro i;cases i<;>simp[eG,ih]
theorem ec (ρ:List (Nat×Nat)):∀l:List SV,(eG ρ l).length=l.length:=by
 intro l
 induction l with
 |nil=>rfl
 |cons x l ih=>simp[eG,ih]
theorem pn {ρ:List (Nat×Nat)}:∀ {l:List SV} {i:Nat} {x:SV},c8 ρ l=true→l[i]? =some x→SV.okN ρ x=true:=by
 intro l
 induction l with
 |nil=>intro i x _ h;simp at h
 | cons y l ih=>
   intro i x h hx;simp only[c8,Bool.and_eq_true]at h
   cases i with
   |zero=>simp at hx;subst hx;exact h.1
   |succ i=>exact ih h.2 (by simpa using hx)
theorem am.unren {ρ:List (Nat×Nat)}{G:Hp}{βc:eZ}{y:SV}{v:Value}(h:am G βc y v):∀x:SV,y=x.ren ρ→am G (fun d=>(aH ρ d).bind βc) x v:=by
 induction h with
 |any v=>intro x hx;cases x<;>simp[SV.ren]at hx<;>first|exact .any v|(split at hx<;>cases hx)
 |undef=>intro x hx;cases x<;>simp[SV.ren]at hx<;>first|exact .undef|(split at hx<;>cases hx)
 |d z v hz=>intro x hx;cases x<;>simp[SV.ren]at hx<;>first|(subst hx;exact .d _ _ hz)|(split at hx<;>cases hx)
 | agg l vs hl _ ih=>
   intro x hx;cases x<;>simp[SV.ren]at hx<;>first|(split at hx<;>cases hx)|skip
   subst hx;rename_i l';refine .agg _ _ (by rw[hl,ec]) (fun i z v hz hv=> ?_)
   exact ih i _ v (by rw[ie,hz];rfl) hv z rfl
 | tup l vs hl _ ih=>
   intro x hx;cases x<;>simp[SV.ren]at hx<;>first|(split at hx<;>cases hx)|skip
   subst hx;refine .tup _ _ (by rw[hl,ec]) (fun i z v hz hv=> ?_)
   exact ih i _ v (by rw[ie,hz];rfl) hv z rfl
 | ptr d off b hb=>
   intro x hx;cases x<;>simp[SV.ren]at hx
   all_goals (split at hx<;>simp at hx)
   rename_i hd;obtain⟨rfl,rfl⟩:=hx
   exact .ptr _ _ _ (by simp[hd,hb])
 | buf d v hb h1=>
   intro x hx;cases x<;>simp[SV.ren]at hx
   all_goals (split at hx<;>simp at hx)
   rename_i hd;subst hx
   exact .buf _ _ (by simp[hd,hb]) h1
 | bel d k i off b n cap hb=>
   intro x hx;cases x<;>simp[SV.ren]at hx
   all_goals (split at hx<;>simp at hx)
   rename_i hd;obtain⟨rfl,rfl,rfl,rfl⟩:=hx
   exact .bel _ _ _ _ b n cap (by simp[hd,hb])
 | mp d v hb h1=>
   intro x hx;cases x<;>simp[SV.ren]at hx
   all_goals (split at hx<;>simp at hx)
   rename_i hd;subst hx
   exact .mp _ _ (by simp[hd,hb]) h1
 | fn f caps vs hl _ ih=>
   intro x hx;cases x<;>simp[SV.ren]at hx<;>first|(split at hx<;>cases hx)|skip
   obtain⟨rfl,rfl⟩:=hx;refine .fn _ _ _ (by rw[hl,ec]) (fun i z v hz hv=> ?_)
   exact ih i _ v (by rw[ie,hz];rfl) hv z rfl
 | sub d k lo n b N cap hb hn=>
   intro x hx;cases x<;>simp[SV.ren]at hx
   all_goals (split at hx<;>simp at hx)
   rename_i hd;obtain⟨rfl,rfl,rfl,rfl⟩:=hx;exact .sub _ _ _ _ b N cap (by simp[hd,hb]) hn
theorem am.reren {ρ:List (Nat×Nat)}{G:Hp}{β βc:eZ}(hβ:∀d c,aH ρ d=some c→βc c=β d){x:SV}{v:Value}(h:am G β x v):x.okN ρ=true→am G βc (x.ren ρ) v:=by
 induction h with
 |any v=>intro _;exact .any v
 |undef=>intro _;exact .undef
 |d z v hz=>intro _;exact .d _ _ hz
 | agg l vs hl _ ih=>
   intro ok;refine .agg _ _ (by rw[hl,ec]) (fun i z v hz hv=> ?_);rw[ie]at hz
   cases hx:l[i]? with
   |none=>rw[hx]at hz;cases hz
   |some x=>rw[hx]at hz;cases hz;exact ih i x v hx hv (pn ok hx)
 | tup l vs hl _ ih=>
   intro ok;refine .tup _ _ (by rw[hl,ec]) (fun i z v hz hv=> ?_);rw[ie]at hz
   cases hx:l[i]? with
   |none=>rw[hx]at hz;cases hz
   |some x=>rw[hx]at hz;cases hz;exact ih i x v hx hv (pn ok hx)
 | ptr d off b hb=>
   intro ok;simp only[SV.okN]at ok;obtain⟨c,hc⟩:=Option.isSome_iff_exists.1 ok;simp only[SV.ren,hc]
   exact .ptr _ _ _ ((hβ _ _ hc).trans hb)
 | buf d v hb h1=>
   intro ok;simp only[SV.okN]at ok;obtain⟨c,hc⟩:=Option.isSome_iff_exists.1 ok;simp only[SV.ren,hc]
   exact .buf _ _ ((hβ _ _ hc).trans hb) h1
 | bel d k i off b n cap hb=>
   intro ok;simp only[SV.okN]at ok;obtain⟨c,hc⟩:=Option.isSome_iff_exists.1 ok;simp only[SV.ren,hc]
   exact .bel _ _ _ _ _ _ _ ((hβ _ _ hc).trans hb)
 | mp d v hb h1=>
   intro ok;simp only[SV.okN]at ok;obtain⟨c,hc⟩:=Option.isSome_iff_exists.1 ok;simp only[SV.ren,hc]
   exact .mp _ _ ((hβ _ _ hc).trans hb) h1
 | fn f caps vs hl _ ih=>
   intro ok;refine .fn _ _ _ (by rw[hl,ec]) (fun i z v hz hv=> ?_);rw[ie]at hz
   cases hx:caps[i]? with
   |none=>rw[hx]at hz;cases hz
   |some x=>rw[hx]at hz;cases hz;exact ih i x v hx hv (pn ok hx)
 | sub d k lo n b N cap hb hn=>
   intro ok;simp only[SV.okN]at ok;obtain⟨c,hc⟩:=Option.isSome_iff_exists.1 ok;simp only[SV.ren,hc];exact .sub _ _ _ _ _ _ _ ((hβ _ _ hc).trans hb) hn
def aY.ren (ρ:List (Nat×Nat)):aY→aY
 | .cells e l=>.cells e (eG ρ l)
 | .buf e k n g=>.buf e k n g
 | .fro k n g=>.fro k n g
 | .byb n g=>.byb n g
 | .map ag va ks zr has val=>.map ag va ks zr has val
 | .mapB ag va ks zr has val clock kb=>.mapB ag va ks zr has val clock kb
 | .iter m since seen=>match aH ρ m with|some c=>.iter c since seen|none=>.no
 | .mapR kk e k has len get hole=>.mapR kk e k has len get hole
 | .bunch e k l=>.bunch e k l
 | .inX X=>.inX X
 | .know Q=>.know Q
 | .no=>.no
def aY.okN (ρ:List (Nat×Nat)):aY→Bool
 | .cells _ l=>c8 ρ l
 | .iter m _ _=>(aH ρ m).isSome
 |_=>true
theorem cZ (ρ:List (Nat×Nat))(r:aY):(r.ren ρ).own=r.own:=by
 cases r<;>first
  |rfl
  |(simp only[aY.ren];split<;>rfl)
theorem cA (ρ:List (Nat×Nat))(r:aY):(r.ren ρ).isR=r.isR:=by
 cases r<;>first
  |rfl
  |(simp only[aY.ren];split<;>rfl)
theorem dS.unren {ρ:List (Nat×Nat)}{G:Hp}{βc:eZ}{w:World}{d c:Nat}(hd:aH ρ d=some c){r:aY}(h:dS G βc w c (r.ren ρ)):
 dS G (fun d=>(aH ρ d).bind βc) w d r:=by
 cases r with
 | cells e l=>
   obtain⟨b,vs,h1,h2,h3,h4⟩:=h;refine⟨b,vs,by simp[hd,h1],h2,by rw[h3,ec],fun i x v hx hv=> ?_⟩
   exact(h4 i _ v (by rw[ie,hx];rfl) hv).unren x rfl
 | buf e k n g=>
   obtain⟨v,xs,h1,h2⟩:=h
   exact⟨v,xs,by simp[hd,h1],h2⟩
 | fro k n g=>
   obtain⟨v,h1,h2⟩:=h
   exact⟨v,by simp[hd,h1],h2⟩
 | byb n g=>
   obtain⟨b,cap,cs,e,h1,h2⟩:=h
   exact⟨b,cap,cs,e,by simp[hd,h1],h2⟩
 | map ag va ks zr has val=>
   obtain⟨r,es,clock,l,h1,h2⟩:=h
   exact⟨r,es,clock,l,by simp[hd,h1],h2⟩
 | mapB ag va ks zr has val clock kb=>
   obtain⟨r,es,l,h1,h2⟩:=h
   exact⟨r,es,l,by simp[hd,h1],h2⟩
 | iter m since seen=>
   simp only[aY.ren]at h;split at h
   · rename_i c' hc;obtain⟨q,r,h1,h2,h3⟩:=h;exact⟨q,r,by simp[hd,h1],by simp[hc,h2],h3⟩
   · exact h.elim
 | mapR kk e k has len get hole=>
   obtain⟨r,es,clock,l,h1,h2⟩:=h
   exact⟨r,es,clock,l,by simp[hd,h1],h2⟩
 | bunch e k l=>
   obtain⟨⟨v,h1,h1b⟩,h2⟩:=h
   exact⟨⟨v,by simp[hd,h1],h1b⟩,h2⟩
 | inX X=>
   obtain⟨⟨v,h1⟩,h2⟩:=h
   exact⟨⟨v,by simp[hd,h1]⟩,h2⟩
 | know Q=>
   obtain⟨⟨v,h1⟩,h2⟩:=h
   exact⟨⟨v,by simp[hd,h1]⟩,h2⟩
 |no=>exact h.elim
theorem dS.reren {ρ:List (Nat×Nat)}{G:Hp}{β βc:eZ}{w:World}(hβ:∀d c,aH ρ d=some c→βc c=β d){d c:Nat}(hd:aH ρ d=some c){r:aY}(ok:r.okN ρ=true)
 (h:dS G β w d r):dS G βc w c (r.ren ρ):=by
 cases r with
 | cells e l=>
   obtain⟨b,vs,h1,h2,h3,h4⟩:=h;refine⟨b,vs,(hβ _ _ hd).trans h1,h2,by rw[h3,ec],fun i x v hx hv=> ?_⟩;rw[ie]at hx
   cases hy:l[i]? with
   |none=>rw[hy]at hx;cases hx
   |some y=>rw[hy]at hx;cases hx;exact(h4 i y v hy hv).reren hβ (pn ok hy)
 | buf e k n g=>
   obtain⟨v,xs,h1,h2⟩:=h
   exact⟨v,xs,(hβ _ _ hd).trans h1,h2⟩
 | fro k n g=>
   obtain⟨v,h1,h2⟩:=h
   exact⟨v,(hβ _ _ hd).trans h1,h2⟩
 | byb n g=>
   obtain⟨b,cap,cs,e,h1,h2⟩:=h
   exact⟨b,cap,cs,e,(hβ _ _ hd).trans h1,h2⟩
 | map ag va ks zr has val=>
   obtain⟨r,es,clock,l,h1,h2⟩:=h
   exact⟨r,es,clock,l,(hβ _ _ hd).trans h1,h2⟩
 | mapB ag va ks zr has val clock kb=>
   obtain⟨r,es,l,h1,h2⟩:=h
   exact⟨r,es,l,(hβ _ _ hd).trans h1,h2⟩
 | iter m since seen=>
   obtain⟨q,r,h1,h2,h3⟩:=h;simp only[aY.okN]at ok;obtain⟨c',hc⟩:=Option.isSome_iff_exists.1 ok;simp only[aY.ren,hc]
   exact⟨q,r,(hβ _ _ hd).trans h1,(hβ _ _ hc).trans h2,h3⟩
 | mapR kk e k has len get hole=>
   obtain⟨r,es,clock,l,h1,h2⟩:=h
   exact⟨r,es,clock,l,(hβ _ _ hd).trans h1,h2⟩
 | bunch e k l=>
   obtain⟨⟨v,h1,h1b⟩,h2⟩:=h
   exact⟨⟨v,(hβ _ _ hd).trans h1,h1b⟩,h2⟩
 | inX X=>
   obtain⟨⟨v,h1⟩,h2⟩:=h
   exact⟨⟨v,(hβ _ _ hd).trans h1⟩,h2⟩
 | know Q=>
   obtain⟨⟨v,h1⟩,h2⟩:=h
   exact⟨⟨v,(hβ _ _ hd).trans h1⟩,h2⟩
 |no=>exact h.elim
structure Mw (G:Hp)(β:eZ)(w:World)(R:Nat→Option aY):Prop where
 gw:∀b o,G b=some o→w.heap[b]? =some o
 rs:∀d r,R d=some r→dS G β w d r
 dj:∀d d' r r' v v' b,R d=some r→R d' =some r'→r.own=true→r'.own=true→β d=some v→β d' =some v'→cI w r v b→cI w r' v' b→d=d'
 og:∀d r v b,R d=some r→r.own=true→β d=some v→cI w r v b→G b=none
 sc:∀d v,β d=some v→∃r,R d=some r
def Ez (w:World)(β:eZ)(R:Nat→Option aY):Nat→Prop:=fun b=>∃d r v,R d=some r∧r.own=true∧β d=some v∧cI w r v b
structure O3 (G:Hp)(β:eZ)(w:World)(R:Nat→Option aY)(G':Hp)(β':eZ)(w':World)(R':Nat→Option aY):Prop where
 gle:G.le G'
 ele:β.le β'
 gw:∀b o,G' b=some o→w'.heap[b]? =some o
 gn:∀b o,G' b=some o→G b=some o∨Ez w β R b∨w.heap.size≤b
 keep:KO w w' (Ez w β R)
 rs:∀d r,R' d=some r→dS G' β' w' d r
 dj:∀d d' r r' v v' b,R' d=some r→R' d' =some r'→r.own=true→r'.own=true→β' d=some v→β' d' =some v'→cI w' r v b→cI w' r' v' b→d=d'
 og:∀d r v b,R' d=some r→r.own=true→β' d=some v→cI w' r v b→G' b=none∧(Ez w β R b∨w.heap.size≤b)
structure ai (P:Program)(f:FuncId)(args:List SV)(rin:List (Nat×aY))(post:SV→List (Nat×aY)→Prop):Prop where
 enter:∀args w,(callFunc f args).run P w= .ok (.enter f args) w
 calls:∀ (G:Hp) (β:eZ) (w:World) (vs:List Value),Mw G β w (aC rin)→vs.length=args.length→
  (∀ (i:Nat) x v,args[i]? =some x→vs[i]? =some v→am G β x v)→
  Calls P f vs.toArray w fun e w' =>∃v x rout G' β',e= .returned v∧post x rout∧O3 G β w (aC rin) G' β' w' (aC rout)∧am G' β' x v
def SV.le (x y:SV):Prop:=∀G β v,am G β x v→am G β y v
theorem SV.le_refl (x:SV):x.le x:=fun _ _ _ h=>h
def aY.le (r r':aY):Prop:=(r.own,r.isR)=(r'.own,r'.isR)∧∀G β w d,dS G β w d r→dS G β w d r'
theorem aY.le.own' {r r':aY}(h:aY.le r r'):r.own=r'.own:=congrArg Prod.fst h.1
theorem aY.le.isR' {r r':aY}(h:aY.le r r'):r.isR=r'.isR:=congrArg Prod.snd h.1
theorem aY.le_refl (r:aY):r.le r:=⟨rfl,fun _ _ _ _ h=>h⟩
def tz (ρ:List (Nat×Nat))(rout:List (Nat×aY)):List (Nat×Option aY):=ρ.map fun p=>(p.2,(aC rout p.1).map (aY.ren ρ))
theorem lV {ρ0:List (Nat×Nat)}{rout:List (Nat×aY)}:∀ {ρ:List (Nat×Nat)},A5 ρ=true→∀ {d c:Nat} {x:Option aY},(d,c) ∈ ρ→
 aQ (ρ.map fun p=>(p.2,(aC rout p.1).map (aY.ren ρ0))) c x=(aC rout d).map (aY.ren ρ0):=by
 intro ρ
 induction ρ with
 |nil=>intro _ d c x h;cases h
 | cons p l ih=>
   intro ok d c x h;obtain⟨e,c'⟩:=p;have ok':=ok;simp only[A5,Bool.and_eq_true,Bool.not_eq_true']at ok';simp only[List.map_cons,aQ]
   by_cases hc:c=c'
   · subst hc;have:d=e:=r6 ok h List.mem_cons_self;subst this;simp
   · rw[ax hc];rcases List.mem_cons.1 h with q|q
     · cases q;exact absurd rfl hc
     · exact ih ok'.2 q
theorem iZ {ρ0:List (Nat×Nat)}{rout:List (Nat×aY)}:∀ {ρ:List (Nat×Nat)} {c:Nat} {x:Option aY},(∀d,(d,c) ∉ ρ)→
 aQ (ρ.map fun p=>(p.2,(aC rout p.1).map (aY.ren ρ0))) c x=x:=by
 intro ρ
 induction ρ with
 |nil=>intro c x _;rfl
 | cons p l ih=>
   intro c x h;obtain⟨e,c'⟩:=p;simp only[List.map_cons,aQ];have hc:c≠c':=fun q=>h e (by rw[q];exact List.mem_cons_self)
   rw[ax hc];exact ih (fun d hd=>h d (List.mem_cons_of_mem _ hd))
theorem aJ.look {G:Hp}{kk N:Nat}{g:Nat→List DV}{b cap N' lo n:Nat}(h:aJ G (.ro kk N g) (.slice (some ⟨b,0,none⟩) N' cap))(hn:lo+n≤N'∧N'≤cap):
 aJ G (.ro kk n fun j=>g (lo+j)) (.slice (some ⟨b,lo*kk,none⟩) n (cap - lo)):=by
 cases h with|ro _ _ _ _ _ vals hs hcap hmax hl hc hdn=>
 refine .ro kk n _ ⟨b,lo*kk,none⟩ (cap - lo) (fun i j=>vals (lo+i) j) rfl (by omega) (by omega) (fun i hi=>hl _ (by omega)) (fun i j x hi hx=> ?_) (fun i j x hi hx=>hdn _ j x (by omega) hx);have:=hc (lo+i) j x (by omega) hx
 have e:(⟨b,lo*kk,none⟩:Addr).add (i*kk+j)=(⟨b,0,none⟩:Addr).add ((lo+i)*kk+j):=by
  simp[Addr.add,Nat.add_mul,Nat.add_assoc];split
  · rename_i h;obtain⟨h1,h2⟩:=h;split
    · simp
    · simp[h1,h2]
  · rename_i h;rw[if_neg (fun q=>h q.2)]
 rw[e];exact this
def Am (d kk n:Nat)(g:Nat→List DV):SV→SV
 | .buf c=>bif Nat.beq c d then .d (.ro kk n g)else .buf c
 | .sub c k' lo m=>bif Nat.beq c d&&Nat.beq k' kk then .d (.ro kk m fun j=>g (lo+j))else .sub c k' lo m
 |x=>x
def HB (d kk n:Nat)(g:Nat→List DV):SV→SV
 | .agg l=>.agg (l.map (Am d kk n g))
 |x=>Am d kk n g x
theorem yZ {G:Hp}{β:eZ}{d kk n:Nat}{g:Nat→List DV}(hd:∃v,β d=some v∧aJ G (.ro kk n g) v){x:SV}{v:Value}(hx:am G β x v):am G β (Am d kk n g x) v:=by
 unfold Am;split
 · rename_i c
   cases hb:Nat.beq c d with
   |false=>exact hx
   | true=>
     have:=Nat.eq_of_beq_eq_true hb;subst this;obtain⟨u,hu,h⟩:=hd
     cases hx with|buf _ _ hv _=>
     rw[hu]at hv;cases hv;exact .d _ _ h
 · rename_i c k' lo m
   cases hb:Nat.beq c d&&Nat.beq k' kk with
   |false=>exact hx
   | true=>
     rw[Bool.and_eq_true]at hb;have h1:=Nat.eq_of_beq_eq_true hb.1;have h2:=Nat.eq_of_beq_eq_true hb.2;subst h1 h2;obtain⟨u,hu,h⟩:=hd
     cases hx with|sub _ _ _ _ b N cap hv hn=>
     rw[hu]at hv;cases hv;exact .d _ _ (h.look hn)
 · exact hx
theorem Db {G:Hp}{β:eZ}{d kk n:Nat}{g:Nat→List DV}(hd:∃v,β d=some v∧aJ G (.ro kk n g) v){x:SV}{v:Value}(hx:am G β x v):am G β (HB d kk n g x) v:=by
 unfold HB;split
 · rename_i l
   cases hx with|agg _ vs hl h=>
   refine .agg _ vs (by simpa using hl) (fun i x v hx hv=> ?_);rw[List.getElem?_map]at hx
   cases hy:l[i]? with
   |none=>rw[hy]at hx;cases hx
   |some y=>rw[hy]at hx;cases hx;exact yZ hd (h i y v hy hv)
 · exact yZ hd hx
theorem JA {d kk n:Nat}{g:Nat→List DV}{x:SV}{c:Nat}(h:HB d kk n g x= .buf c):x= .buf c:=by
 cases x with
 |agg l=>simp[HB]at h
 | buf c' =>
   simp only[HB,Am]at h
   cases hb:Nat.beq c' d with
   |false=>rw[hb]at h;exact h
   |true=>rw[hb]at h;cases h
 | sub c' k' lo m=>
   simp only[HB,Am]at h
   cases hb:Nat.beq c' d&&Nat.beq k' kk with
   |false=>rw[hb]at h;exact h
   |true=>rw[hb]at h;cases h
 |_=>simp[HB,Am]at h
def vj (d:Nat)(e:TypeId)(kk n:Nat)(X:Nat→Prop)(g:Nat→List DV):SV→SV
 | .buf c=>bif Nat.beq c d then .d (.frs e kk n X g)else .buf c
 |x=>x
def Ar (d:Nat)(e:TypeId)(kk n:Nat)(X:Nat→Prop)(g:Nat→List DV):SV→SV
 | .agg l=>.agg (l.map (vj d e kk n X g))
 |x=>vj d e kk n X g x
theorem wg {G:Hp}{β:eZ}{d:Nat}{e:TypeId}{kk n:Nat}{X:Nat→Prop}{g:Nat→List DV}(hd:∃v,β d=some v∧aJ G (.frs e kk n X g) v){x:SV}{v:Value}(hx:am G β x v):am G β (vj d e kk n X g x) v:=by
 unfold vj;split
 · rename_i c
   cases hb:Nat.beq c d with
   |false=>exact hx
   | true=>
     have:=Nat.eq_of_beq_eq_true hb;subst this;obtain⟨u,hu,h⟩:=hd
     cases hx with|buf _ _ hv _=>
     rw[hu]at hv;cases hv;exact .d _ _ h
 · exact hx
theorem Ga {G:Hp}{β:eZ}{d:Nat}{e:TypeId}{kk n:Nat}{X:Nat→Prop}{g:Nat→List DV}(hd:∃v,β d=some v∧aJ G (.frs e kk n X g) v){x:SV}{v:Value}(hx:am G β x v):am G β (Ar d e kk n X g x) v:=by
 unfold Ar;split
 · rename_i l
   cases hx with|agg _ vs hl h=>
   refine .agg _ vs (by simpa using hl) (fun i x v hx hv=> ?_);rw[List.getElem?_map]at hx
   cases hy:l[i]? with
   |none=>rw[hy]at hx;cases hx
   |some y=>rw[hy]at hx;cases hx;exact wg hd (h i y v hy hv)
 · exact wg hd hx
theorem Gc {d:Nat}{e:TypeId}{kk n:Nat}{X:Nat→Prop}{g:Nat→List DV}{x:SV}{c:Nat}(h:Ar d e kk n X g x= .buf c):x= .buf c:=by
 cases x with
 |agg l=>simp[Ar]at h
 | buf c' =>
   simp only[Ar,vj]at h
   cases hb:Nat.beq c' d with
   |false=>rw[hb]at h;exact h
   |true=>rw[hb]at h;cases h
 |_=>simp[Ar,vj]at h
inductive dQ (P:Program) (f:FuncId) (dst:Option Nat):List SV→St→List Nat→(cK→Prop)→Prop
 |call (args:List SV) (s:St) (av:List Nat) (k:cK→Prop) (ρ:List (Nat×Nat)) (sargs:List SV) (rin:List (Nat×aY)) (post:SV→List (Nat×aY)→Prop)
  (hs:ai P f sargs rin post) (hok:A5 ρ=true) (hlen:args.length=sargs.length)
  (ha:∀ (i:Nat) x y,args[i]? =some x→sargs[i]? =some y→SV.le x (y.ren ρ))
  (hr:∀d r,aC rin d=some r→∃c r0,aH ρ d=some c∧s.res c=some r0∧aY.le r0 (r.ren ρ))
  (hro:∀d c,aH ρ d=some c→aC rin d=none→s.used c=false)
  (hav:∀d c,aH ρ d=some c→mem av c=false)
  (hk:∀x rout,post x rout→x.okN ρ=true∧(∀d r,aC rout d=some r→(aH ρ d).isSome=true∧r.okN ρ=true)∧k ⟨dst,x.ren ρ,tz ρ rout,ρ.map (·.2)⟩):
  dQ P f dst args s av k
 |freeze (args:List SV) (s:St) (av:List Nat) (k:cK→Prop) (d e kk n:Nat) (g:Nat→List DV) (hd:s.res d=some (.buf e kk n g)) (hav:mem av d=false)
  (h:dQ P f dst (args.map (HB d kk n g)) (s.app ⟨none,.any,[(d,some (.fro kk n g))],[]⟩) av (fun u=>k ⟨u.dst,u.v,u.rs++ [(d,some (.fro kk n g))],u.us⟩)):
  dQ P f dst args s av k
 |freezeF (args:List SV) (s:St) (av:List Nat) (k:cK→Prop) (q d:Nat) (e:TypeId) (kk n:Nat) (X:Nat→Prop) (g:Nat→List DV) (hq:s.res q=some (.inX X)) (hd:s.res d=some (.buf e kk n g)) (hav:mem av d=false) (hav2:mem av q=false)
  (h:dQ P f dst (args.map (Ar d e kk n X g)) (s.app ⟨none,.any,[(d,some (.fro kk n g))],[]⟩) av (fun u=>k ⟨u.dst,u.v,u.rs++ [(d,some (.fro kk n g))],u.us⟩)):
  dQ P f dst args s av k
 |peek (args:List SV) (s:St) (av:List Nat) (k:cK→Prop) (ρ:List (Nat×Nat)) (sargs:List SV) (rin:List (Nat×aY)) (y:SV)
  (hs:ai P f sargs rin fun x r=>x=y∧r=rin) (hok:A5 ρ=true) (hlen:args.length=sargs.length)
  (ha:∀ (i:Nat) x z,args[i]? =some x→sargs[i]? =some z→SV.le x (z.ren ρ))
  (hr:∀d r,aC rin d=some r→∃c,aH ρ d=some c∧s.res c=some (r.ren ρ))
  (hra:∀d c,aH ρ d=some c→∃r,aC rin d=some r)
  (hav:∀d c,aH ρ d=some c→mem av (c+1099511627776)=false)
  (hy:y.okN ρ=true) (hrk:∀d r,aC rin d=some r→r.okN ρ=true) (hk:k ⟨dst,y.ren ρ,[],[]⟩):
  dQ P f dst args s av k
theorem fa (l l':List (Nat×Option aY))(d:Nat)(x:Option aY):aQ (l++l') d x=aQ l d (aQ l' d x):=by
 induction l with
 |nil=>rfl
 | cons p l ih=>
   obtain⟨e,r⟩:=p;simp only[List.cons_append,aQ,ih]
theorem dS.named {G:Hp}{β:eZ}{w:World}{d:Nat}:∀ {r:aY},dS G β w d r→∃v,β d=some v
 | .cells ..,⟨_,_,h,_⟩=>⟨_,h⟩
 | .buf ..,⟨_,_,h,_⟩=>⟨_,h⟩
 | .fro ..,⟨_,h,_⟩=>⟨_,h⟩
 | .byb ..,⟨_,_,_,_,h,_⟩=>⟨_,h⟩
 | .map ..,⟨_,_,_,_,h,_⟩=>⟨_,h⟩
 | .mapB ..,⟨_,_,_,h,_⟩=>⟨_,h⟩
 | .iter ..,⟨_,_,h,_⟩=>⟨_,h⟩
 | .mapR ..,⟨_,_,_,_,h,_⟩=>⟨_,h⟩
 | .bunch ..,⟨⟨_,h,_⟩,_⟩=>⟨_,h⟩
 | .inX _,⟨⟨_,h⟩,_⟩=>⟨_,h⟩
 | .know _,⟨⟨_,h⟩,_⟩=>⟨_,h⟩
 | .no,h=>h.elim
theorem jT {P :Program}{f:FuncId}{dst:Option Nat}{args:List SV}{s:St}{k:cK→Prop}{ρ:List (Nat×Nat)}{sargs:List SV}{rin:List (Nat×aY)}{post:SV→List (Nat×aY)→Prop}
 (hs:ai P f sargs rin post)(hok:A5 ρ=true)(hlen:args.length=sargs.length)
 (ha:∀ (i:Nat) x y,args[i]? =some x→sargs[i]? =some y→SV.le x (y.ren ρ))
 (hr:∀d r,aC rin d=some r→∃c r0,aH ρ d=some c∧s.res c=some r0∧aY.le r0 (r.ren ρ))
 (hro:∀d c,aH ρ d=some c→aC rin d=none→s.used c=false)
 (hk:∀x rout,post x rout→x.okN ρ=true∧(∀d r,aC rout d=some r→(aH ρ d).isSome=true∧r.okN ρ=true)∧k ⟨dst,x.ren ρ,tz ρ rout,ρ.map (·.2)⟩)
 {A:nG}{G:Hp}{β:eZ}{t:Array Value}{w:World}{vs:List Value}(h:MG A G β s t w)(hvl:vs.length=args.length)(hvd:∀ (i:Nat) x v,args[i]? =some x→vs[i]? =some v→am G β x v):
 (∀args w,(callFunc f args).run P w= .ok (.enter f args) w)∧
 Calls P f vs.toArray w fun e w' =>∃v u G' β',e= .returned v∧k u∧u.dst=dst∧MG A G' β' (s.app ⟨none,.any,u.rs,u.us⟩) t w'∧am G' β' u.v v:=by
 refine⟨hs.enter,?_⟩
 have hpre:Mw G (fun d=>(aH ρ d).bind β) w (aC rin):=by
  refine⟨h.gw,fun d r hd=> ?_,fun d d' r r' v v' b e1 e2 o1 o2 f1 f2 b1 b2=> ?_,fun d r v b e1 o1 f1 b1=> ?_,fun d v hv=> ?_⟩
  · obtain⟨c,r0,hc,nM,hle⟩:=hr d r hd;exact(hle.2 _ _ _ _ (h.rs c r0 nM)).unren hc
  · obtain⟨c,r0,hc,nM,hle⟩:=hr d r e1;obtain⟨c',r0',hc',hs0',hle'⟩:=hr d' r' e2;simp only[hc,Option.bind_some]at f1;simp only[hc',Option.bind_some]at f2;have:=h.dj c c' r0 r0' v v' b nM hs0' (by rw[hle.own',cZ];exact o1) (by rw[hle'.own',cZ];exact o2) f1 f2 (b1.to (by rw[hle.isR',cA])) (b2.to (by rw[hle'.isR',cA]));subst this;exact r6 hok (cQ hc) (cQ hc')
  · obtain⟨c,r0,hc,nM,hle⟩:=hr d r e1;simp only[hc,Option.bind_some]at f1;exact(h.og c r0 v b nM (by rw[hle.own',cZ];exact o1) f1 (b1.to (by rw[hle.isR',cA]))).1
  · cases hc:aH ρ d with
    |none=>simp[hc]at hv
    | some c=>
      simp only[hc,Option.bind_some]at hv
      cases hl:aC rin d with
      |some r=>exact⟨r,rfl⟩
      |none=>have:=hro d c hc hl;rw[h.sc c v hv]at this;cases this
 have hcall:=hs.calls G (fun d=>(aH ρ d).bind β) w vs hpre (hvl.trans hlen) (fun i y v hy hv=>by
  have hi:i<args.length:=by rw[hlen];exact(List.getElem?_eq_some_iff.1 hy).1
  have hx:args[i]? =some args[i]:=List.getElem?_eq_getElem hi
  exact(ha i _ y hx hy G β v (hvd i _ v hx hv)).unren y rfl)
 refine hcall.mono ?_;rintro e w' ⟨v,x,rout,G',β',he,hpost,ho,hden⟩;obtain⟨k1,k2,k3⟩:=hk x rout hpost
 have hdec:∀c,Decidable (∃d,aH ρ d=some c):=fun _=>Classical.propDecidable _
 let βc:eZ:=fun c=>if hc:∃d,aH ρ d=some c then β' (Classical.choose hc)else β c
 have hβ:∀d c,aH ρ d=some c→βc c=β' d:=by
  intro d c hd;have hc:∃d,aH ρ d=some c:=⟨d,hd⟩;have:Classical.choose hc=d:=r6 hok (cQ (Classical.choose_spec hc)) (cQ hd);simp only[βc,hc,dif_pos,this]
 have hβn:∀c,(¬ ∃d,aH ρ d=some c)→βc c=β c:=fun c hc=>by simp only[βc,hc,dif_neg,not_false_iff]
 have hle:β.le βc:=by
  intro c u hu
  by_cases hc:∃d,aH ρ d=some c
  · obtain⟨d,hd⟩:=hc;rw[hβ d c hd];exact ho.ele d u (by simp[hd,hu])
  · rw[hβn c hc];exact hu
 have hT:∀b,Ez w (fun d=>(aH ρ d).bind β) (aC rin) b→(∃d c r0 v,aH ρ d=some c∧s.res c=some r0∧r0.own=true∧β c=some v∧cI w r0 v b):=by
  rintro b ⟨d,r,v,e1,o1,f1,b1⟩;obtain⟨c,r0,hc,nM,hle⟩:=hr d r e1;simp only[hc,Option.bind_some]at f1;exact⟨d,c,r0,v,hc,nM,by rw[hle.own',cZ];exact o1,f1,b1.to (by rw[hle.isR',cA])⟩
 have hTA:∀b,Ez w (fun d=>(aH ρ d).bind β) (aC rin) b→A.T b∨A.w0.heap.size≤b:=by
  intro b hb;obtain⟨d,c,r0,v,_,nM,o1,f1,b1⟩:=hT b hb;exact(h.og c r0 v b nM o1 f1 b1).2
 have hout:∀c r u b,(¬ ∃d,aH ρ d=some c)→s.res c=some r→r.own=true→β c=some u→cI w r u b→¬Ez w (fun d=>(aH ρ d).bind β) (aC rin) b:=by
  intro c r u b hc hr0 ho0 hu hb hT';obtain⟨d,c',r0,v,hd,nM,o1,f1,b1⟩:=hT b hT';have:=h.dj c c' r r0 u v b hr0 nM ho0 o1 hu f1 hb b1;subst this;exact hc ⟨d,hd⟩
 have hback:∀c r v b,(¬ ∃d,aH ρ d=some c)→s.res c=some r→r.own=true→β c=some v→cI w' r v b→cI w r v b:=fun c r v b hcd hc ho' hv hb=>
  (h.rs c r hc).blks ho' (fun u b hu hb=>ho.keep.block b ((h.rs c r hc).lt ho' hu hb) (hout c r u b hcd hc ho' hu hb)) hv hb
 have hres:∀c,(s.app ⟨none,.any,tz ρ rout,ρ.map (·.2)⟩).res c=aQ (tz ρ rout) c (s.res c):=fun c=>by simp only[St.app,aD]
 have hin:∀d c,aH ρ d=some c→(s.app ⟨none,.any,tz ρ rout,ρ.map (·.2)⟩).res c=(aC rout d).map (aY.ren ρ):=fun d c hd=>by
  rw[hres];exact lV hok (cQ hd)
 have hno:∀c,(¬ ∃d,aH ρ d=some c)→(s.app ⟨none,.any,tz ρ rout,ρ.map (·.2)⟩).res c=s.res c:=fun c hc=>by
  rw[hres];exact iZ (fun d hd=>hc ⟨d,rO hok hd⟩)
 have hmg:MG A G' βc (s.app ⟨none,.any,tz ρ rout,ρ.map (·.2)⟩) t w':=by
  refine⟨h.sz,fun b o e=>ho.gle _ _ (h.g0 b o e),fun d v e=>hle _ _ (h.e0 d v e),ho.gw,fun b o hg=> ?_,⟨ho.keep.os.trans h.keep.os,ho.keep.tape.trans h.keep.tape,ho.keep.output.trans h.keep.output,Nat.le_trans h.keep.size ho.keep.size,fun b hlt hTb=> ?_⟩,
   fun i=>(h.tm i).mono ho.gle hle,fun c r hc=> ?_,fun c c' r r' v v' b e1 e2 o1 o2 f1 f2 b1 b2=> ?_,fun c r v b e1 o1 f1 b1=> ?_,fun c v hv=> ?_⟩
  · rcases ho.gn b o hg with q|q|q
    · exact h.gn _ _ q
    · exact .inr (hTA b q)
    · exact .inr (.inr (Nat.le_trans h.keep.size q))
  · rw[ho.keep.block b (Nat.lt_of_lt_of_le hlt h.keep.size) (fun q=>by rcases hTA b q with q|q;exact hTb q;omega)];exact h.keep.block b hlt hTb
  · by_cases hcd:∃d,aH ρ d=some c
    · obtain⟨d,hd⟩:=hcd;rw[hin d c hd]at hc
      cases hl:aC rout d with
      |none=>rw[hl]at hc;cases hc
      |some r' =>rw[hl]at hc;cases hc;exact(ho.rs d r' hl).reren hβ hd (k2 d r' hl).2
    · rw[hno c hcd]at hc;refine(h.rs c r hc).keep ho.gle hle (fun ho' u b hu hb=> ?_);exact ho.keep.block b ((h.rs c r hc).lt ho' hu hb) (hout c r u b hcd hc ho' hu hb)
  · by_cases hcd:∃d,aH ρ d=some c
    · obtain⟨d,hd⟩:=hcd;rw[hin d c hd]at e1;rw[hβ d c hd]at f1
      cases hl:aC rout d with
      |none=>rw[hl]at e1;cases e1
      | some r1=>
        rw[hl]at e1;cases e1;rw[cZ]at o1
        by_cases hcd':∃d,aH ρ d=some c'
        · obtain⟨d',hd'⟩:=hcd';rw[hin d' c' hd']at e2;rw[hβ d' c' hd']at f2
          cases hl':aC rout d' with
          |none=>rw[hl']at e2;cases e2
          | some r2=>
            rw[hl']at e2;cases e2;rw[cZ]at o2;have:=ho.dj d d' r1 r2 v v' b hl hl' o1 o2 f1 f2 (b1.to (cA _ _)) (b2.to (cA _ _));subst this;rw[hd]at hd';cases hd';rfl
        · rw[hno c' hcd']at e2;rw[hβn c' hcd']at f2;have b2:=hback c' r' v' b hcd' e2 o2 f2 b2;rcases(ho.og d r1 v b hl o1 f1 (b1.to (cA _ _))).2 with q|q
          · exact absurd q (hout c' r' v' b hcd' e2 o2 f2 b2)
          · have:=(h.rs c' r' e2).lt o2 f2 b2;omega
    · rw [hno c hcd]at e1;rw[hβn c hcd]at f1
      by_cases hcd':∃d,aH ρ d=some c'
      · obtain⟨d',hd'⟩:=hcd';rw[hin d' c' hd']at e2;rw[hβ d' c' hd']at f2
        cases hl':aC rout d' with
        |none=>rw[hl']at e2;cases e2
        | some r2=>
          rw[hl']at e2;cases e2;rw[cZ]at o2;have b1:=hback c r v b hcd e1 o1 f1 b1;rcases(ho.og d' r2 v' b hl' o2 f2 (b2.to (cA _ _))).2 with q|q
          · exact absurd q (hout c r v b hcd e1 o1 f1 b1)
          · have:=(h.rs c r e1).lt o1 f1 b1;omega
      · rw[hno c' hcd']at e2;rw[hβn c' hcd']at f2;exact h.dj c c' r r' v v' b e1 e2 o1 o2 f1 f2 (hback c r v b hcd e1 o1 f1 b1) (hback c' r' v' b hcd' e2 o2 f2 b2)
  · by_cases hcd:∃d,aH ρ d=some c
    · obtain⟨d,hd⟩:=hcd;rw[hin d c hd]at e1;rw[hβ d c hd]at f1
      cases hl:aC rout d with
      |none=>rw[hl]at e1;cases e1
      | some r1=>
        rw[hl]at e1;cases e1;rw[cZ]at o1;obtain⟨q1,q2⟩:=ho.og d r1 v b hl o1 f1 (b1.to (cA _ _));refine⟨q1,?_⟩;rcases q2 with q2|q2
        · exact hTA b q2
        · exact .inr (Nat.le_trans h.keep.size q2)
    · rw[hno c hcd]at e1;rw[hβn c hcd]at f1;have b1:=hback c r v b hcd e1 o1 f1 b1;obtain⟨q1,q2⟩:=h.og c r v b e1 o1 f1 b1;refine⟨?_,q2⟩
      cases hg:G' b with
      |none=>rfl
      | some o=>
        rcases ho.gn b o hg with q|q|q
        · rw[q1]at q;cases q
        · exact absurd q (hout c r v b hcd e1 o1 f1 b1)
        · have:=(h.rs c r e1).lt o1 f1 b1;omega
  · simp only[St.app,dN,Bool.or_eq_true,mem_iff]
    by_cases hcd:∃d,aH ρ d=some c
    · obtain⟨d,hd⟩:=hcd;exact .inl (List.mem_map.2 ⟨(d,c),cQ hd,rfl⟩)
    · rw[hβn c hcd]at hv;exact .inr (h.sc c v hv)
 exact⟨v,_,G',βc,he,k3,rfl,hmg,hden.reren hβ k1⟩
theorem dQ.sound {P:Program}{f:FuncId}{dst:Option Nat}{args:List SV}{s:St}{av:List Nat}{k:cK→Prop}(hx:dQ P f dst args s av k):
 ∀ {A:nG} {G:Hp} {β:eZ} {t:Array Value} {w:World} {vs:List Value},MG A G β s t w→vs.length=args.length→(∀ (i:Nat) x v,args[i]? =some x→vs[i]? =some v→am G β x v)→
 (∀args w,(callFunc f args).run P w= .ok (.enter f args) w)∧
 Calls P f vs.toArray w fun e w' =>∃v u G' β',e= .returned v∧k u∧u.dst=dst∧MG A G' β' (s.app ⟨none,.any,u.rs,u.us⟩) t w'∧am G' β' u.v v:=by
 induction hx with
 | call args s av k ρ sargs rin post hs hok hlen ha hr hro hav hk=>
   intro A G β t w vs h hvl hvd
   exact jT hs hok hlen ha hr hro hk h hvl hvd
 | peek args s av k ρ sargs rin y hs hok hlen ha hr hra hav hy hrk hk=>
   intro A G β t w vs h hvl hvd
   have hr':∀d r,aC rin d=some r→∃c r0,aH ρ d=some c∧s.res c=some r0∧aY.le r0 (r.ren ρ):=fun d r hd=>by
    obtain⟨c,h1,h2⟩:=hr d r hd;exact⟨c,_,h1,h2,aY.le_refl _⟩
   have hro':∀d c,aH ρ d=some c→aC rin d=none→s.used c=false:=fun d c hd hl=>by
    obtain⟨r,h1⟩:=hra d c hd;rw[hl]at h1;cases h1
   obtain⟨e1,e2⟩:=jT (dst:=dst) (k:=fun u=>u=⟨dst,y.ren ρ,tz ρ rin,ρ.map (·.2)⟩) hs hok hlen ha hr' hro' (by
    rintro x rout ⟨rfl,rfl⟩
    exact⟨hy,fun d r hd=>⟨by obtain⟨c,h1,_⟩:=hr d r hd;rw[h1];rfl,hrk d r hd⟩,rfl⟩) h hvl hvd
   refine⟨e1,e2.mono ?_⟩;rintro e w' ⟨v,u,G',β',h1,rfl,h3,h4,h5⟩;refine⟨v,⟨dst,y.ren ρ,[],[]⟩,G',β',h1,hk,rfl,?_,h5⟩
   have hst:s.app ⟨none,.any,tz ρ rin,ρ.map (·.2)⟩=s.app ⟨none,.any,[],[]⟩:=by
    simp only[St.app,St.mk.injEq];refine⟨trivial,?_,?_⟩
    · funext c
      simp only[aD]
      by_cases hcd:∃d,aH ρ d=some c
      · obtain⟨d,hd⟩:=hcd;obtain⟨r,hl⟩:=hra d c hd;obtain⟨c',hc',hs'⟩:=hr d r hl;rw[hd]at hc';cases hc';exact(lV hok (cQ hd)).trans (by rw[hl,hs'];rfl)
      · exact iZ (fun d hd=>hcd ⟨d,rO hok hd⟩)
    · funext c
      simp only[dN]
      cases hq:mem (ρ.map (·.2)) c with
      |false=>rfl
      | true=>
        rw[mem_iff,List.mem_map]at hq;obtain⟨p,hp,rfl⟩:=hq;have hd:=rO hok (d:=p.1) (c:=p.2) hp;obtain⟨r,hl⟩:=hra p.1 p.2 hd;obtain⟨c',hc',hs'⟩:=hr p.1 r hl;rw[hd]at hc';cases hc';obtain⟨v0,hv0⟩:=dS.named (h.rs _ _ hs');rw[h.sc _ _ hv0];rfl
   rw[←hst];exact h4
 | freeze args s av k d e kk n g hd hav h0 ih=>
   intro A G β t w vs h hvl hvd;obtain⟨G',hle,hm⟩:=h.freeze hd
   have hi:=ih hm (vs:=vs) (by simpa using hvl) (fun i x v hx hv=>by
    rw[List.getElem?_map]at hx
    cases hy:args[i]? with
    |none=>rw[hy]at hx;cases hx
    |some y=>rw[hy]at hx;cases hx;exact Db (hm.rs d (.fro kk n g) (by simp[St.app,aD,aQ])) ((hvd i y v hy hv).mono hle (eZ.le_refl β)))
   refine⟨hi.1,hi.2.mono ?_⟩;rintro e' w' ⟨v,u,G2,β2,h1,h2,h3,h4,h5⟩;refine⟨v,_,G2,β2,h1,h2,h3,?_,h5⟩
   have:(s.app ⟨none,.any,u.rs++ [(d,some (.fro kk n g))],u.us⟩)=((s.app ⟨none,.any,[(d,some (.fro kk n g))],[]⟩).app ⟨none,.any,u.rs,u.us⟩):=by
    simp only[St.app,uR];congr 1
    · funext x
      simp only[aD,fa]
   rw[this]
   exact h4
 | freezeF args s av k q d e kk n X g hq hd hav hav2 h0 ih=>
   intro A G β t w vs h hvl hvd;obtain⟨G',hle,hm,hfr⟩:=h.freezeF hq hd
   have hi:=ih hm (vs:=vs) (by simpa using hvl) (fun i x v hx hv=>by
    rw[List.getElem?_map]at hx
    cases hy:args[i]? with
    |none=>rw[hy]at hx;cases hx
    |some y=>rw[hy]at hx;cases hx;exact Ga hfr ((hvd i y v hy hv).mono hle (eZ.le_refl β)))
   refine⟨hi.1,hi.2.mono ?_⟩;rintro e' w' ⟨v,u,G2,β2,h1,h2,h3,h4,h5⟩;refine⟨v,_,G2,β2,h1,h2,h3,?_,h5⟩
   have:(s.app ⟨none,.any,u.rs++ [(d,some (.fro kk n g))],u.us⟩)=((s.app ⟨none,.any,[(d,some (.fro kk n g))],[]⟩).app ⟨none,.any,u.rs,u.us⟩):=by
    simp only[St.app,uR];congr 1
    · funext x
      simp only[aD,fa]
   rw[this];exact h4
end Go.Eng
namespace Go.Eng
open Go
def iz (C:List Nat)(dst:Option Nat):Bool:=
 match dst with
 |some d=>mem C d
 |none=>false
def Ha (P:Program)(dst:Option Nat)(f:SV)(args:List SV)(s:St)(av:List Nat)(k:cK→Prop):Prop:=
 match f with
 | .fn g caps=>dQ P g dst (args++caps) s av k
 |_=>False
def memO (av:List Nat)(d:Option Nat):Bool:=match d with|some d=>mem av d|none=>false
def pO (T:ca)(dst:Option Nat)(s:St)(av:List Nat)(ty:TypeId)(m key x:SV)(k:cK→Prop):Prop:=
 match m with
 | .mp d=>br (mem av d) False (match s.res d with
   |some (.mapR ..)=>Da T dst s av ty (.mp d) key x k
   |_=>i7 T dst s ty (.mp d) key x k)
 |_=>False
def wZ (T:ca)(dst:Option Nat)(s:St)(av:List Nat)(ty:TypeId)(m key:SV)(k:cK→Prop):Prop:=
 match m with
 | .mp d=>br (mem av d) False (pE T dst s ty (.mp d) key k)
 |_=>False
def wC (T:ca)(dst:Option Nat)(s:St)(av:List Nat)(ty:TypeId)(m key:SV)(k:cK→Prop):Prop:=
 match m with
 | .mp d=>br (mem av (d+1099511627776)||mem av (d+2199023255552)) False (jW T dst s ty (.mp d) key k)
 |_=>False
def AU (T:ca)(dst:Option Nat)(s:St)(av:List Nat)(m st x:SV)(k:cK→Prop):Prop:=
 match m with
 | .mp d=>br (mem av d) False (il T dst s (.mp d) st x k)
 |_=>False
def FI (T:ca)(dst:Option Nat)(s:St)(ty:TypeId)(m x:SV)(ok:Bool)(k:cK→Prop):Prop:=
 match m with
 | .mp d=>match s.res d with
   |some (.mapR ..)=>br ok False (wa T dst s [] ty (.mp d) x k)
   |_=>gh T s ty (.mp d) x ok fun v=>k ⟨dst,v,[],[]⟩
 |_=>False
def cV (P:Program)(T:ca)(C:List Nat)(o:Oper)(s:St)(av:List Nat)(k:cK→Prop):Prop:=
 match o.op with
 | .alloc ty=>s5 T o.dst s ty k
 | .box ty x=>Mn o.dst s ty (s.ev x) k
 | .buildSlice ty n ps=>ed T o.dst s (iz C o.dst) ty n (ps.toList.map fun p=>(p.1,s.ev p.2)) k
 | .makeSlice ty l c=>iV T o.dst s ty (s.ev l) (s.ev c) k
 | .store ty p x=>wN T o.dst s av ty (s.ev p) (s.ev x) k
 | .call c=>match c.callee with
   | .value f=>Ha P o.dst (s.ev f) (c.args.toList.map s.ev) s av k
   | .builtin .append=>match c.args.toList,c.argTypes.toList with
     | [x,y],[ty,ty2]=>br (Nat.beq ty2 ty) (rX T o.dst s av ty (s.ev x) (s.ev y) k) False
     |_,_=>False
   | .builtin .delete=>match c.args.toList,c.argTypes.toList with
     | [x,y],[ty,_]=>wZ T o.dst s av ty (s.ev x) (s.ev y) k
     |_,_=>False
   |_=>Ab T o s fun v=>k ⟨o.dst,v,[],[]⟩
 | .slice ty x lo hi mx=>match s.ev x with
   | .buf d=>match mx with
     |none=>br (iz C o.dst) (br (!(mem av d||memO av o.dst)) (pP T o.dst s ty d (lo.map s.ev) (hi.map s.ev) k) False) (wU T o.dst s ty (.buf d) (lo.map s.ev) (hi.map s.ev) k)
     |some _=>False
   |_=>Ab T o s fun v=>k ⟨o.dst,v,[],[]⟩
 | .lookup ty m x ok=>br (iz C o.dst) (br ok False (wa T o.dst s av ty (s.ev m) (s.ev x) k)) (gh T s ty (s.ev m) (s.ev x) ok fun v=>k ⟨o.dst,v,[],[]⟩)
 | .mapUpdate ty m key x=>pO T o.dst s av ty (s.ev m) (s.ev key) (s.ev x) k
 | .mapEntry ty m key=>wC T o.dst s av ty (s.ev m) (s.ev key) k
 | .entryStore ty m st x=>AU T o.dst s av (s.ev m) (s.ev st) (s.ev x) k
 |_=>Ab T o s fun v=>k ⟨o.dst,v,[],[]⟩
theorem bS {b:Bool}{x:Prop}(h:br b False x):b=false∧x:=by
 cases b
 · exact⟨rfl,h⟩
 · exact h.elim
section
variable {P:Program} {T:ca} {A:nG} {G:Hp} {β:eZ} {s:St} {a:Act} {w:World} {t:Array Value}
theorem HM (h:MG A G β s a.tmps w)(l:List Operand):∀ (i:Nat) x v,(l.map s.ev)[i]? =some x→(l.map a.eval)[i]? =some v→am G β x v:=by
 intro i x v hx hv;rw[List.getElem?_map]at hx hv
 cases hl:l[i]? with
 |none=>rw[hl]at hx;cases hx
 |some y=>rw[hl]at hx hv;cases hx;cases hv;exact h.ev y
theorem ss (hT:aR P T){o:Oper}{ty:TypeId}{m key x:Operand}(ho:o.op= .mapUpdate ty m key x)(h0:a.defers= [])(h:MG A G β s a.tmps w)(hN:∀d,o.dst=some d→d<A.N){av:List Nat}
 {k:cK→Prop}(hk:pO T o.dst s av ty (s.ev m) (s.ev key) (s.ev x) k){Q:Exit→Act→World→Prop}:o.wp P a w (fun a' w' =>∃u,k u∧iI A (s.app u) a' w') Q:=by
 unfold pO at hk;split at hk
 · rename_i d hm;obtain⟨_,hk⟩:=bS hk;split at hk
   · rw[←hm]at hk;exact Jp hT ho h0 h hN hk
   · rw[←hm]at hk;exact pr hT (.inl ho) h0 h hN hk
 · exact hk.elim
theorem zR (hT:aR P T){o:Oper}{ty:TypeId}{m x:Operand}{ok:Bool}(ho:o.op= .lookup ty m x ok)(h0:a.defers= [])(h:MG A G β s a.tmps w)(hN:∀d,o.dst=some d→d<A.N)
 {k:cK→Prop}(hk:gh T s ty (s.ev m) (s.ev x) ok fun v=>k ⟨o.dst,v,[],[]⟩){Q:Exit→Act→World→Prop}:o.wp P a w (fun a' w' =>∃u,k u∧iI A (s.app u) a' w') Q:=by
 obtain⟨v,y,h1,h2,h3⟩:=wO hT h (h.ev m) (h.ev x) hk;exact bi (by simp[execOp,ho,h1]) ⟨_,h3,MG.fin (s:=s) (rs:= []) (us:= []) (h0:=h0) h hN h2⟩
theorem xY (hT:aR P T){o:Oper}{ty:TypeId}{m x:Operand}{ok:Bool}(ho:o.op= .lookup ty m x ok)(h0:a.defers= [])(h:MG A G β s a.tmps w)(hN:∀d,o.dst=some d→d<A.N){av:List Nat}
 {k:cK→Prop}(hk:br ok False (wa T o.dst s av ty (s.ev m) (s.ev x) k)){Q:Exit→Act→World→Prop}:o.wp P a w (fun a' w' =>∃u,k u∧iI A (s.app u) a' w') Q:=by
 obtain⟨rfl,hk⟩:=bS hk;exact Jk hT ho h0 h hN hk
theorem Gx (hT:aR P T){o:Oper}{ty:TypeId}{m x:Operand}{ok:Bool}(ho:o.op= .lookup ty m x ok)(h0:a.defers= [])(h:MG A G β s a.tmps w)(hN:∀d,o.dst=some d→d<A.N)
 {k:cK→Prop}(hk:FI T o.dst s ty (s.ev m) (s.ev x) ok k){Q:Exit→Act→World→Prop}:o.wp P a w (fun a' w' =>∃u,k u∧iI A (s.app u) a' w') Q:=by
 unfold FI at hk;split at hk
 · rename_i d hm;split at hk
   · rw[←hm]at hk;exact xY hT ho h0 h hN hk
   · rw[←hm]at hk;exact zR hT ho h0 h hN hk
 · exact hk.elim
theorem bQ (hT:aR P T){C:List Nat}(h0:a.defers= [])(h:MG A G β s a.tmps w){o:Oper}(hN:∀d,o.dst=some d→d<A.N){av:List Nat}{k:cK→Prop}
 (hk:cV P T C o s av k){Q:Exit→Act→World→Prop}:o.wp P a w (fun a' w' =>∃u,k u∧iI A (s.app u) a' w') Q:=by
 have pure:Ab T o s (fun v=>k ⟨o.dst,v,[],[]⟩)→o.wp P a w (fun a' w' =>∃u,k u∧iI A (s.app u) a' w') Q:=by
  intro hk;obtain⟨v,x,h1,h2,h3⟩:=uW hT h hk;exact bi h1 ⟨_,h3,MG.fin (s:=s) (rs:= []) (us:= []) (h0:=h0) h hN h2⟩
 unfold cV at hk;split at hk
 · rename_i ty ho;exact GN hT ho h0 h hN hk
 · rename_i ty x ho;exact La ho h0 h hN hk
 · rename_i ty n ps ho;exact nI hT ho h0 h hN hk
 · rename_i ty l c ho;exact wV hT ho h0 h hN hk
 · rename_i ty p x ho;exact FN hT ho h0 h hN hk
 · rename_i c ho;split at hk
   · rename_i f hc;unfold Ha at hk;split at hk
     · rename_i g caps hf;have hfd:=h.ev f;rw[hf]at hfd;generalize hfv:a.eval f=fv at hfd
       cases hfd with|fn _ _ vs hl hd=>
       obtain⟨c1,c2⟩:=hk.sound h (vs:=c.args.toList.map a.eval++vs) (by simp[hl]) (fun i x v hx hv=>by
        have hlen:(c.args.toList.map s.ev).length=(c.args.toList.map a.eval).length:=by simp
        rcases Nat.lt_or_ge i (c.args.toList.map s.ev).length with q|q
        · rw[List.getElem?_append_left q]at hx;rw[List.getElem?_append_left (by rw[←hlen];exact q)]at hv;exact HM h _ i x v hx hv
        · rw[List.getElem?_append_right q]at hx;rw[List.getElem?_append_right (by rw[←hlen];exact q),←hlen]at hv
          exact hd _ x v hx hv)
       have hrun:(execOp a.eval o).run P w= .ok (.enter g (c.args.toList.map a.eval++vs).toArray) w:=by
        have:(c.args.map a.eval++vs.toArray)=(c.args.toList.map a.eval++vs).toArray:=by apply Array.ext';simp
        simp only[execOp,ho,resolve,hc,hfv,Deferred.ofValue,Sem.run_bind,Sem.run_pure,Result.andThen_ok,invoke];rw[show(#[]++c.args.map a.eval++vs.toArray)=(c.args.toList.map a.eval++vs).toArray by rw[←this];simp];exact c1 _ _
       unfold Oper.wp;rw[hrun,Oper.upon_enter];refine c2.mono ?_;rintro e w' ⟨v,u,G',β',rfl,k1,k2,k3,k4⟩;refine⟨u,k1,?_⟩;obtain⟨ud,uv,urs,uus⟩:=u;simp only at k2;subst k2;exact k3.fin (h0:=h0) hN k4
     · exact hk.elim
   · rename_i hc;split at hk
     · rename_i x y ty ty2 ha hty;obtain⟨h2,hk⟩:=aB hk;exact Eg hT ho hc (by apply Array.ext';simpa using ha) (by apply Array.ext';simpa using hty) (Nat.eq_of_beq_eq_true h2) h0 h hN hk
     · exact hk.elim
   · rename_i hc;split at hk
     · rename_i x y ty ty2 ha hty;unfold wZ at hk;split at hk
       · rename_i d hm;obtain⟨_,hk⟩:=bS hk;rw[←hm]at hk;exact vD hT ho hc (by apply Array.ext';simpa using ha) (by apply Array.ext';simpa using hty) h0 h hN hk
       · exact hk.elim
     · exact hk.elim
   · exact pure hk
 · rename_i ty x lo hi mx ho;split at hk
   · rename_i d hd;split at hk
     · cases hm:iz C o.dst with
       |true=>rw[hm]at hk;exact vI hT ho h0 h hN hd (aB hk).2
       |false=>rw[hm]at hk;exact Bs hT ho h0 h hN (by rw[hd];exact hk)
     · exact hk.elim
   · exact pure hk
 · rename_i ty m x ok ho
   cases hm:iz C o.dst with
   |true=>rw[hm]at hk;exact xY hT ho h0 h hN hk
   |false=>rw[hm]at hk;exact zR hT ho h0 h hN hk
 · rename_i ty m key x ho;exact ss hT ho h0 h hN hk
 · rename_i ty m key ho;unfold wC at hk;split at hk
   · rename_i d hm;obtain⟨_,hk⟩:=bS hk;rw[←hm]at hk;exact rc hT ho h0 h hN hk
   · exact hk.elim
 · rename_i ty m st x ho;unfold AU at hk;split at hk
   · rename_i d hm;obtain⟨_,hk⟩:=bS hk;rw[←hm]at hk;exact nE ho h0 h hN hk
   · exact hk.elim
 · exact pure hk
end
mutual
def nS:SV→(SV→Prop)→Prop
 | .any,k=>k .any
 | .bad,k=>k .bad
 | .undef,k=>k .undef
 | .d x,k=>w9 x fun x=>k (.d x)
 | .agg l,k=>qm l fun l=>k (.agg l)
 | .tup l,k=>qm l fun l=>k (.tup l)
 | .ptr q o,k=>k (.ptr q o)
 | .buf q,k=>k (.buf q)
 | .bel q kk i o,k=>k (.bel q kk i o)
 | .mp q,k=>k (.mp q)
 | .fn f caps,k=>qm caps fun l=>k (.fn f l)
 | .sub q kk lo n,k=>k (.sub q kk lo n)
def qm:List SV→(List SV→Prop)→Prop
 | [],k=>k []
 |x::l,k=>nS x fun x=>qm l fun l=>k (x::l)
end
mutual
theorem vR:∀ (x:SV) (k:SV→Prop),nS x k=k x
 | .any,k=>rfl
 | .bad,k=>rfl
 | .undef,k=>rfl
 | .d x,k=>by simp only[nS,vF]
 | .agg l,k=>by simp only[nS,nc l]
 | .tup l,k=>by simp only[nS,nc l]
 | .ptr q o,k=>rfl
 | .buf q,k=>rfl
 | .bel q kk i o,k=>rfl
 | .mp q,k=>rfl
 | .fn f caps,k=>by simp only[nS,nc caps]
 | .sub q kk lo n,k=>rfl
theorem nc:∀ (l:List SV) (k:List SV→Prop),qm l k=k l
 | [],k=>rfl
 |x::l,k=>by simp only[qm,vR x,nc l]
end
mutual
def pJ:SV→(SV→Prop)→Prop
 | .any,k=>k .any
 | .bad,k=>k .bad
 | .undef,k=>k .undef
 | .d x,k=>k (.d x)
 | .agg l,k=>li l fun l=>k (.agg l)
 | .tup l,k=>li l fun l=>k (.tup l)
 | .ptr q o,k=>k (.ptr q o)
 | .buf q,k=>k (.buf q)
 | .bel q kk i o,k=>k (.bel q kk i o)
 | .mp q,k=>k (.mp q)
 | .fn f caps,k=>li caps fun l=>k (.fn f l)
 | .sub q kk lo n,k=>k (.sub q kk lo n)
def li:List SV→(List SV→Prop)→Prop
 | [],k=>k []
 |x::l,k=>pJ x fun x=>li l fun l=>k (x::l)
end
mutual
theorem Bg:∀ (x:SV) (k:SV→Prop),pJ x k=k x
 | .any,k=>rfl
 | .bad,k=>rfl
 | .undef,k=>rfl
 | .d x,k=>rfl
 | .agg l,k=>by simp only[pJ,iS l]
 | .tup l,k=>by simp only[pJ,iS l]
 | .ptr q o,k=>rfl
 | .buf q,k=>rfl
 | .bel q kk i o,k=>rfl
 | .mp q,k=>rfl
 | .fn f caps,k=>by simp only[pJ,iS caps]
 | .sub q kk lo n,k=>rfl
theorem iS:∀ (l:List SV) (k:List SV→Prop),li l k=k l
 | [],k=>rfl
 |x::l,k=>by simp only[li,Bg x,iS l]
end
def Ai (r:aY)(k:aY→Prop):Prop:=
 match r with
 | .cells e l=>li l fun l=>k (.cells e l)
 | .buf e kk n g=>k (.buf e kk n g)
 | .fro kk n g=>k (.fro kk n g)
 | .byb n g=>k (.byb n g)
 | .map ag va ks zr has val=>k (.map ag va ks zr has val)
 | .mapB ag va ks zr has val clock kb=>k (.mapB ag va ks zr has val clock kb)
 | .iter m since seen=>k (.iter m since seen)
 | .mapR kk e kz has len get hole=>k (.mapR kk e kz has len get hole)
 | .bunch e kk l=>k (.bunch e kk l)
 | .inX X=>k (.inX X)
 | .know Q=>k (.know Q)
 | .no=>k .no
theorem DL (r:aY)(k:aY→Prop):Ai r k=k r:=by cases r<;>simp only[Ai,iS]
def nq:List (Nat×Option aY)→(List (Nat×Option aY)→Prop)→Prop
 | [],k=>k []
 |(d,none)::l,k=>nq l fun l=>k ((d,none)::l)
 |(d,some r)::l,k=>Ai r fun r=>nq l fun l=>k ((d,some r)::l)
theorem ol:∀ (l:List (Nat×Option aY)) (k:List (Nat×Option aY)→Prop),nq l k=k l
 | [],k=>rfl
 |(d,none)::l,k=>by simp only[nq,ol l]
 |(d,some r)::l,k=>by simp only[nq,DL,ol l]
def qE:List Nat→(List Nat→Prop)→Prop
 | [],k=>k []
 |d::l,k=>qE l fun l=>k (d::l)
theorem nd:∀ (l:List Nat) (k:List Nat→Prop),qE l k=k l
 | [],k=>rfl
 |d::l,k=>by simp only[qE,nd l]
def xo (x:Option Nat)(k:Option Nat→Prop):Prop:=match x with|some d=>k (some d)|none=>k none
theorem pY (x:Option Nat)(k:Option Nat→Prop):xo x k=k x:=by cases x<;>rfl
def w8 (u:cK)(k:cK→Prop):Prop:=
 match u with
 |⟨dst,v,rs,us⟩=>xo dst fun dst=>nS v fun v=>nq rs fun rs=>qE us fun us=>k ⟨dst,v,rs,us⟩
theorem vC (u:cK)(k:cK→Prop):w8 u k=k u:=by
 cases u;simp only[w8,pY,vR,ol,nd]
def wr (s : St)(ops:List Oper)(g:Option (Nat×Bool))(yes no:St→Prop):Prop:=
 match g with
 |none=>yes s
 | some (j,want)=>match ops.drop j with
   | oj :: _=>match oj.dst with
     | some t=>match s.tmps t with
       | .d (.bool b)=>br b (match want with|true=>yes (s.app ⟨some t,.d (.bool true),[],[]⟩)|false=>no (s.app ⟨some t,.d (.bool true),[],[]⟩))
          (match want with|true=>no (s.app ⟨some t,.d (.bool false),[],[]⟩)|false=>yes (s.app ⟨some t,.d (.bool false),[],[]⟩))
       | .undef=>no s
       |_=>False
     |none=>no s
   | []=>no s
def o8 (s:St)(ops:List Oper)(g:Option (Nat×Bool)):Option Bool:=
 match g with
 |none=>some true
 | some (j,want)=>match ops.drop j with
   | oj::_=>match oj.dst with
     | some t=>match s.tmps t with
       | .d (.bool b)=>some (b==want)
       | .undef=>some false
       |_=>none
     |none=>some false
   | []=>some false
theorem y4 {s:St}{t:Nat}{x:SV}(h:s.tmps t=x):s.app ⟨some t,x,[],[]⟩=s:=by
 obtain⟨tm,rs,us⟩:=s;simp only[St.app,JI,AG,St.mk.injEq,and_true];funext i
 rw[fH];split
 · rename_i e;cases e;exact h.symm
 · rfl
theorem qO {s:St}{ops:List Oper}{g:Option (Nat×Bool)}{yes no:St→Prop}(h:wr s ops g yes no):(o8 s ops g=some true∧yes s)∨(o8 s ops g=some false∧no s):=by
 unfold wr at h;unfold o8;split at h
 · exact .inl ⟨rfl,h⟩
 · rename_i j want;split at h
   · rename_i oj r hj;try rw[hj]
     try dsimp only
     split at h
     · rename_i t ht;try rw[ht]
       try dsimp only
       split at h
       · rename_i b hb;try rw[hb]
         unfold br at h;cases b
         · rw[y4 hb]at h;cases want
           · exact .inl ⟨rfl,h⟩
           · exact .inr ⟨rfl,h⟩
         · rw[y4 hb]at h;cases want
           · exact .inr ⟨rfl,h⟩
           · exact .inl ⟨rfl,h⟩
       · rename_i hb;try rw[hb]
         exact .inr ⟨rfl,h⟩
       · exact h.elim
     · rename_i ht;try rw[ht]
       exact .inr ⟨rfl,h⟩
   · rename_i hj;try rw[hj]
     exact .inr ⟨rfl,h⟩
inductive sT (T:ca) (o:Oper) (s:St) (ty:TypeId) (d:Nat) (lo hi:Option SV) (mx:Option Operand) (k:cK→Prop):Prop
 |freeze (e kk n:Nat) (g:Nat→List DV) (hd:s.res d=some (.buf e kk n g)) (h:Ab T o (s.app ⟨none,.any,[(d,some (.fro kk n g))],[]⟩) fun v=>k ⟨o.dst,v,[(d,some (.fro kk n g))],[]⟩):sT T o s ty d lo hi mx k
 |first(hm:mx=none) (h:pP T o.dst s ty d lo hi k):sT T o s ty d lo hi mx k
 |look (hm:mx=none) (h:wU T o.dst s ty (.buf d) lo hi k):sT T o s ty d lo hi mx k
def PC (T:ca)(t:TypeId):Option KK:=
 match T t with
 |some ⟨.int k,_,_,_,_⟩=>some (.int k)
 |some ⟨.string,_,_,_,_⟩=>some .str
 |some ⟨.bool,_,_,_,_⟩=>some .bool
 |_=>none
def QS (T:ca):List Field→Option (List KK)
 | []=>some []
 | f::r=>match PC T f.type,QS T r with
   |some k,some l=>some (k::l)
   |_,_=>none
def Qr (T:ca)(kt:TypeId):Option (Bool×List KK):=
 match T kt with
 | some ⟨.struct fs,_,_,_,_⟩=>match QS T fs.toList with
   |some l=>some (true,l)
   |none=>none
 | some ⟨.array n e,_,_,_,_⟩=>match PC T e with
   |some k=>some (true,List.replicate n k)
   |none=>none
 | _=>match PC T kt with
   |some k=>some (false,[k])
   |none=>none
def wM (op:BinOp)(n:Nat)(k:SV→Prop):Prop:=
 match op with
 | .eql=>∀b:Bool,(b=true→n=0)→k (.d (.bool b))
 | .neq=>∀b:Bool,(b=false→n=0)→k (.d (.bool b))
 |_=>False
def xE (T:ca)(s:St)(op:BinOp)(t:TypeId)(x:SV)(k:SV→Prop):Prop:=
 match T t,x with
 |some ⟨.slice _,_,_,_,_⟩,.d (.ro _ n _)=>wM op n k
 | some ⟨.slice _,_,_,_,_⟩,.buf d=>match s.res d with
   |some (.buf _ _ n _)=>wM op n k
   |_=>False
 | some ⟨.slice _,_,_,_,_⟩,.d .nilsl=>match op with
   | .eql=>k (.d (.bool true))
   | .neq=>k (.d (.bool false))
   |_=>False
 |_,_=>False
theorem mf {P:Program}{t e:TypeId}(w:World)(d:Nat)(a:Option Addr)(n c n' c':Nat)(h:P.underlying t=some (.slice e)):(Op.equalIn (d+1) t (.slice a n c) (.slice none n' c')).run P w= .ok a.isNone w:=by
 cases a<;>simp[Op.equalIn,run_underlying h]
theorem oI {P:Program}{t e:TypeId}(w:World)(a:Option Addr)(n c n' c':Nat)(h:P.underlying t=some (.slice e)):(binOp .eql t (.slice a n c) (.slice none n' c')).run P w= .ok (.bool a.isNone) w:=by
 simp only[binOp];simp[Op.equal,Op.maxDepth,mf w 9999 a n c n' c' h]
theorem nO {P:Program}{t e:TypeId}(w:World)(a:Option Addr)(n c n' c':Nat)(h:P.underlying t=some (.slice e)):(binOp .neq t (.slice a n c) (.slice none n' c')).run P w= .ok (.bool (!a.isNone)) w:=by
 simp only[binOp];simp[Op.equal,Op.maxDepth,mf w 9999 a n c n' c' h]
theorem xp {P:Program}{T:ca}{G:Hp}{β:eZ}{w:World}{s:St}(hT:aR P T)(Ek:∀d r,s.res d=some r→dS G β w d r){op:BinOp}{t:TypeId}{x y:Operand}{X:SV}{u v:Value}(hx:am G β X u)(hy:am G β (.d .nilsl) v){k:SV→Prop}
 (h:xE T s op t X k):d9 P G β w (do eqGuard op t x y u v;binOp op t u v) k:=by
 cases hy with|d _ _ hy=>cases hy with|nilsl=>
 unfold xE at h;split at h
 · rename_i e _ _ _ _ kk n g ht;have hu:=(hT.get ht).1;simp only at hu
   cases hx with|d _ _ hx=>
   obtain⟨a,m,c,rfl,hz⟩:∃a m c,u= .slice a m c∧(a.isNone=true→n=0):=by
    cases hx with
    |ronil=>exact⟨_,_,_,rfl,fun _=>rfl⟩
    |ro _ _ _ a cap=>exact⟨_,_,_,rfl,fun h=>by cases h⟩
   unfold wM at h;split at h
   · exact⟨_,_,by rw[eqGuard_at_slice];simp[oI w a m c 0 0 hu]<;>rfl,.d _ _ (.bool _),h _ hz⟩
   · exact⟨_,_,by rw[eqGuard_at_slice];simp[nO w a m c 0 0 hu]<;>rfl,.d _ _ (.bool _),h _ (fun e=>hz (by simpa using e))⟩
   · exact h.elim
 · rename_i e _ _ _ _ d ht;have hu:=(hT.get ht).1;simp only at hu;split at h
   · rename_i e' kk n g hr;obtain⟨v',xs,hv,hown,_⟩:=Ek _ _ hr
     cases hx with|buf _ _ hb _=>
     rw[hb]at hv;cases hv
     obtain⟨a,m,c,rfl,hz⟩:∃a m c,u= .slice a m c∧(a.isNone=true→n=0):=by
      rcases hown.2 with⟨rfl,rfl⟩|⟨g',cap,cur,rfl,_⟩
      · exact⟨_,_,_,rfl,fun _=>rfl⟩
      · exact⟨_,_,_,rfl,fun h=>by cases h⟩
     unfold wM at h;split at h
     · exact⟨_,_,by rw[eqGuard_at_slice];simp[oI w a m c 0 0 hu]<;>rfl,.d _ _ (.bool _),h _ hz⟩
     · exact⟨_,_,by rw[eqGuard_at_slice];simp[nO w a m c 0 0 hu]<;>rfl,.d _ _ (.bool _),h _ (fun e=>hz (by simpa using e))⟩
     · exact h.elim
   · exact h.elim
 · rename_i e _ _ _ _ ht;have hu:=(hT.get ht).1;simp only at hu
   cases hx with|d _ _ hx=>cases hx with|nilsl=>
   split at h
   · exact⟨_,_,by rw[eqGuard_at_slice];simp[oI w none 0 0 0 0 hu]<;>rfl,.d _ _ (.bool _),h⟩
   · exact⟨_,_,by rw[eqGuard_at_slice];simp[nO w none 0 0 0 0 hu]<;>rfl,.d _ _ (.bool _),h⟩
   · exact h.elim
 · exact h.elim
def Gd (P : Program)(T:ca)(C:List Nat)(o:Oper)(s:St)(k:cK→Prop):Prop:=
 match o.op with
 | .alloc ty=>match o.dst with
   |some d=>br (s.used d) (Bc T (some d) (d+100000) s ty k) (cV P T C o s [] k)
   |none=>cV P T C o s [] k
 | .slice ty x lo hi mx=>match s.ev x with
   | .buf d=>sT T o s ty d (lo.map s.ev) (hi.map s.ev) mx k
   | .sub d kk lo0 n=>match mx with
     |none=>wU T o.dst s ty (.sub d kk lo0 n) (lo.map s.ev) (hi.map s.ev) k
     |some _=>False
   |_=>cV P T C o s [] k
 | .buildSlice ty n ps=>match ps.toList with
   | [p] =>match s.ev p.2 with
     | .buf d=>match s.res d with
       |some (.buf _ kk m g)=>ed T o.dst (s.app ⟨none,.any,[(d,some (.fro kk m g))],[]⟩) (iz C o.dst) ty n [(p.1,(s.app ⟨none,.any,[(d,some (.fro kk m g))],[]⟩).ev p.2)] fun u=>k ⟨u.dst,u.v,u.rs++ [(d,some (.fro kk m g))],u.us⟩
       |_=>False
     | .agg l=>match s.res 999999 with
       | some (.bunch e kk bl)=>match Kd l with
         | some d=>match s.res d with
           |some (.buf e' kk' m g)=>br (Nat.beq e' e&&Nat.beq kk' kk) (∀v:Value,ed T o.dst (s.app ⟨none,.any,[(999999,some (.bunch e kk ((v,m,g)::bl))),(d,none)],[]⟩) (iz C o.dst) ty n [(p.1,Ou d v (.agg l))] fun u=>k ⟨u.dst,u.v,u.rs++ [(999999,some (.bunch e kk ((v,m,g)::bl))),(d,none)],u.us⟩) False
           |_=>False
         |none=>cV P T C o s [] k
       |_=>cV P T C o s [] k
     |_=>cV P T C o s [] k
   |_=>cV P T C o s [] k
 | .makeMap ty r=>match r,T ty with
   | none,some ⟨.map kt _,_,_,_,_⟩=>match Qr T kt with
     |some (ag,ks)=>sC T o.dst s ty ag ks k
     |none=>False
   |_,_=>False
 | .lookup ty m x ok=>FI T o.dst s ty (s.ev m) (s.ev x) ok k
 | .binOp op ty x y _=>match s.ev y with
   | .d .nilsl=>xE T s op ty (s.ev x) fun v=>k ⟨o.dst,v,[],[]⟩
   |_=>cV P T C o s [] k
 | .mapUpdate ty m key x=>pO T o.dst s [] ty (s.ev m) (s.ev key) (s.ev x) k
 | .insert ty m key x=>i7 T o.dst s ty (s.ev m) (s.ev key) (s.ev x) k
 | .convert src ty x=>B3 T o.dst s src ty (s.ev x) k (cV P T C o s [] k)
 | .range ty m=>A8 T o.dst s ty (s.ev m) k
 | .next it isS=>Hl T o.dst s (s.ev it) isS k
 | .entry it=>BW T o.dst s (s.ev it) fun v=>k ⟨o.dst,v,[],[]⟩
 | .mapEntry ty m key=>jW T o.dst s ty (s.ev m) (s.ev key) k
 | .entryStore ty m st x=>il T o.dst s (s.ev m) (s.ev st) (s.ev x) k
 | .call c=>match c.callee with
   | .builtin .len=>match c.args.toList,c.argTypes.toList with
     | [x],[ty]=>match s.ev x with
       | .mp d=>match T ty with
         |some ⟨.map _ _,_,_,_,_⟩=>wW s (.mp d) fun v=>k ⟨o.dst,v,[],[]⟩
         |_=>False
       |_=>cV P T C o s [] k
     |_,_=>False
   | .builtin .clear=>match c.args.toList,c.argTypes.toList with
     | [x],[ty]=>AH T o.dst s ty (s.ev x) k
     |_,_=>False
   | .builtin .delete=>match c.args.toList,c.argTypes.toList with
     | [x,y],[ty,_]=>pE T o.dst s ty (s.ev x) (s.ev y) k
     |_,_=>False
   | .builtin .append=>match c.args.toList,c.argTypes.toList with
     | [x,y],[ty,ty2]=>match s.ev y with
       | .buf d=>br (Nat.beq ty2 ty) (ly T o.dst s [] ty (s.ev x) (tj s (.buf d)) k) False
       | .sub d kk lo n=>br (Nat.beq ty2 ty) (ly T o.dst s [] ty (s.ev x) (tj s (.sub d kk lo n)) k) False
       | .d (.str bs)=>CD T o.dst s ty ty2 (s.ev x) bs k
       |_=>cV P T C o s [] k
     |_,_=>False
   |_=>cV P T C o s [] k
 |_=>cV P T C o s [] k
theorem zm {P : Program}{T:ca}{A:nG}{G:Hp}{β:eZ}{s:St}{a:Act}{w:World}(hT:aR P T){C:List Nat}(h0:a.defers= [])(h:MG A G β s a.tmps w){o:Oper}(hN:∀d,o.dst=some d→d<A.N){k:cK→Prop}
 (hk:Gd P T C o s k){Q:Exit→Act→World→Prop}:o.wp P a w (fun a' w' =>∃u,k u∧iI A (s.app u) a' w') Q:=by
 unfold Gd at hk;split at hk
 · rename_i ty ho;split at hk
   · rename_i d hd
     cases hu:s.used d with
     |true=>rw[hu]at hk;exact DF hT ho h0 h hN (by rw[hd];exact hk)
     |false=>rw[hu]at hk;exact bQ hT h0 h hN hk
   · exact bQ hT h0 h hN hk
 · rename_i ty x lo hi mx ho;split at hk
   · rename_i d hd
     cases hk with
     | freeze e kk n g hr hk=>
       obtain⟨G',hle,hm⟩:=h.freeze hr;obtain⟨v,y,h1,h2,h3⟩:=uW hT hm hk
       exact bi h1 ⟨_,h3,MG.fin (s:=s) (rs:= [(_,some (.fro kk n g))]) (us:= []) (h0:=h0) hm hN h2⟩
     |first hm hk=>subst hm;exact vI hT ho h0 h hN hd hk
     |look hm hk=>subst hm;rw[←hd]at hk;exact Bs hT ho h0 h hN hk
   · rename_i d kk lo0 n hd;split at hk
     · rw[←hd]at hk;exact Bs hT ho h0 h hN hk
     · exact hk.elim
   · exact bQ hT h0 h hN hk
 · rename_i ty n ps ho;split at hk
   · rename_i p hp;split at hk
     · rename_i d hd;split at hk
       · rename_i e kk m g hr;obtain⟨G',hle,hm⟩:=h.freeze hr;refine Oper.wp_mono (fun a' w' hu=> ?_) (nI hT ho h0 hm hN (mt:=iz C o.dst) (k:=fun u=>k ⟨u.dst,u.v,u.rs++ [(d,some (.fro kk m g))],u.us⟩) (by rw[hp];exact hk));obtain⟨u,h1,h2⟩:=hu;refine⟨_,h1,?_⟩
         have:(s.app ⟨u.dst,u.v,u.rs++ [(d,some (.fro kk m g))],u.us⟩)=((s.app ⟨none,.any,[(d,some (.fro kk m g))],[]⟩).app u):=by
          simp only[St.app,uR];congr 1
          · funext x
            simp only[aD,fa]
         rw[this];exact h2
       · exact hk.elim
     · rename_i l hl;split at hk
       · rename_i e kk bl hq;split at hk
         · rename_i d hd;split at hk
           · rename_i e' kk' m g hr;obtain⟨hb,hk⟩:=aB hk;simp only[Bool.and_eq_true]at hb;obtain rfl:e' =e:=Nat.eq_of_beq_eq_true hb.1;obtain rfl:kk' =kk:=Nat.eq_of_beq_eq_true hb.2;obtain⟨v,hv,hm⟩:=h.bunchPut hr hq;refine Oper.wp_mono (fun a' w' hu=> ?_) (mc hT ho h0 hm hN (mt:=iz C o.dst) (lv:=fun y=>Ou d v (s.ev y)) (k:=fun u=>k ⟨u.dst,u.v,u.rs++ [(999999,some (.bunch e' kk' ((v,m,g)::bl))),(d,none)],u.us⟩) (fun y _=>Is hv (h.ev y.2)) (by rw[hp];simp only[List.map_cons,List.map_nil,hl];exact hk v));obtain⟨u,h1,h2⟩:=hu;refine⟨_,h1,?_⟩
             have:(s.app ⟨u.dst,u.v,u.rs++ [(999999,some (.bunch e' kk' ((v,m,g)::bl))),(d,none)],u.us⟩)=((s.app ⟨none,.any,[(999999,some (.bunch e' kk' ((v,m,g)::bl))),(d,none)],[]⟩).app u):=by
              simp only[St.app,uR];congr 1
              · funext x
                simp only[aD,fa]
             rw[this];exact h2
           · exact hk.elim
         · exact bQ hT h0 h hN hk
       · exact bQ hT h0 h hN hk
     · exact bQ hT h0 h hN hk
   · exact bQ hT h0 h hN hk
 · rename_i ty r ho;split at hk
   · split at hk
     · exact AQ ho h0 h hN hk
     · exact hk.elim
   · exact hk.elim
 · rename_i ty m x ok ho;exact Gx hT ho h0 h hN hk
 · rename_i op ty x y yt ho;split at hk
   · rename_i hy;have hy':=h.ev y;rw[hy]at hy';obtain⟨v,z,h1,h2,h3⟩:=xp (x:=x) (y:=y) hT h.rs (h.ev x) hy' hk;exact bi (by simp only[execOp,ho];rw[Sem.run_bind,h1];rfl) ⟨_,h3,MG.fin (s:=s) (rs:= []) (us:= []) (h0:=h0) h hN h2⟩
   · exact bQ hT h0 h hN hk
 · rename_i ty m key x ho;exact ss hT ho h0 h hN hk
 · rename_i ty m key x ho;exact pr hT (.inr ho) h0 h hN hk
 · rename_i src ty x ho;exact Hf hT ho h0 h hN hk (fun hk=>bQ hT h0 h hN hk)
 · rename_i ty m ho;exact Gj hT ho h0 h hN hk
 · rename_i it isS ho;exact Jv hT ho h0 h hN hk
 · rename_i it ho;obtain⟨v,y,h1,h2,h3⟩:=zZ (P:=P) h hk;exact bi (by simp[execOp,ho,h1]) ⟨_,h3,MG.fin (s:=s) (rs:= []) (us:= []) (h0:=h0) h hN h2⟩
 · rename_i ty m key ho;exact rc hT ho h0 h hN hk
 · rename_i ty m st x ho;exact nE ho h0 h hN hk
 · rename_i c ho;split at hk
   · rename_i hc;split at hk
     · rename_i x ty ha hty;split at hk
       · rename_i d hx;split at hk
         · rename_i kt vt _ _ _ _ hty2;have ha:c.args=#[x]:=by apply Array.ext';simpa using ha
           have hty:c.argTypes=#[ty]:=by apply Array.ext';simpa using hty
           rw[←hx]at hk;obtain⟨v,y,h1,h2,h3⟩:=xn (rt:=o.type) hT h (hT.get hty2).1 hk;exact bi (by simp[execOp,ho,resolve,hc,ha,hty,invoke,builtin,h1]) ⟨_,h3,MG.fin (s:=s) (rs:= []) (us:= []) (h0:=h0) h hN h2⟩
         · exact hk.elim
       · exact bQ hT h0 h hN hk
     · exact hk.elim
   · rename_i hc;split at hk
     · rename_i x ty ha hty;exact Gb hT ho hc (by apply Array.ext';simpa using ha) (by apply Array.ext';simpa using hty) h0 h hN hk
     · exact hk.elim
   · rename_i hc;split at hk
     · rename_i x y ty ty2 ha hty;exact vD hT ho hc (by apply Array.ext';simpa using ha) (by apply Array.ext';simpa using hty) h0 h hN hk
     · exact hk.elim
   · rename_i hc;split at hk
     · rename_i x y ty ty2 ha hty;split at hk
       · rename_i d hy;obtain⟨h2,hk⟩:=aB hk;rw[←hy]at hk;exact vr hT ho hc (by apply Array.ext';simpa using ha) (by apply Array.ext';simpa using hty) (Nat.eq_of_beq_eq_true h2) h0 h hN hk
       · rename_i d kk lo n hy;obtain⟨h2,hk⟩:=aB hk;rw[←hy]at hk;exact vr hT ho hc (by apply Array.ext';simpa using ha) (by apply Array.ext';simpa using hty) (Nat.eq_of_beq_eq_true h2) h0 h hN hk
       · rename_i bs hy;exact AE hT ho hc (by apply Array.ext';simpa using ha) (by apply Array.ext';simpa using hty) hy h0 h hN hk
       · exact bQ hT h0 h hN hk
     · exact hk.elim
   · exact bQ hT h0 h hN hk
 · exact bQ hT h0 h hN hk
def GZ (P:Program)(T:ca)(C:List Nat)(ops:List Oper):List Oper→(St→Prop)→St→Prop
 | [],k,s=>k s
 |o::r,k,s=>wr s ops o.guard (fun s=>Gd P T C o s fun u=>w8 u fun u=>GZ P T C ops r k (s.app u)) (fun s=>xo o.dst fun dst=>GZ P T C ops r k (s.app ⟨dst,.undef,[],[]⟩))
def EI (N:Nat)(o:Oper):Bool:=match o.dst with|some d=>Nat.blt d N|none=>true
def gH (N:Nat):Code→Bool
 | .region _ ops _=>ops.toList.all (EI N)
 | .seq a b=>gH N a&&gH N b
 | .cond _ a b=>gH N a&&gH N b
 | .block _ c=>gH N c
 | .loop c=>gH N c
 | .rangeFunc _ _ a b=>gH N a&&gH N b
 | .scope c=>gH N c
 |_=>true
theorem kP {A :nG}{G:Hp}{β:eZ}{s:St}{a:Act}{w:World}(h:MG A G β s a.tmps w){ops:Array Oper}{o:Oper}{b:Bool}(hk:o8 s ops.toList o.guard=some b):
 Region.wanted o (yielded ops a.tmps)=b:=by
 unfold o8 at hk;unfold Region.wanted;split at hk
 · rename_i hg;rw[hg];cases hk;rfl
 · rename_i j want hg;rw[hg];split at hk
   · rename_i oj r hj
     have hoj:ops[j]? =some oj:=by
      have:(ops.toList.drop j)[0]? =some oj:=by rw[hj];rfl
      rw[List.getElem?_drop,Nat.add_zero]at this;simpa using this
     split at hk
     · rename_i tt ht;have htd:=h.tm tt
       have hy:yielded ops a.tmps j=match a.tmps[tt]? with|some (.bool b)=>some b|_=>none:=by
        unfold yielded;simp only[hoj,Option.bind_some,ht];split
        · rename_i hb;rw[hb]
        · rename_i hb;split
          · rename_i b' hb';exact absurd hb' (hb b')
          · rfl
       split at hk
       · rename_i b hb;rw[hb]at htd
         have hv:a.tmps[tt]? =some (.bool b):=by
          rw[Array.getD_eq_getD_getElem?]at htd
          cases hq:a.tmps[tt]? with
          | none=>
            rw[hq]at htd;simp only[Option.getD_none]at htd
            cases htd with|d _ _ hd=>cases hd
          | some v=>
            rw[hq]at htd;simp only[Option.getD_some]at htd;cases htd with|d _ _ hd=>cases hd with|bool _=>rfl
         simp only[hy,hv];cases hk;cases b<;>cases want<;>rfl
       · rename_i hb;rw[hb]at htd;simp only[hy];rw[Array.getD_eq_getD_getElem?]at htd;cases hk
         cases hq:a.tmps[tt]? with
         |none=>rfl
         | some v=>
           rw[hq]at htd;simp only[Option.getD_some]at htd;cases htd;rfl
       · cases hk
     · rename_i ht;cases hk;simp[yielded,hoj,ht]
   · rename_i hj;cases hk
     have:ops[j]? =none:=by
      have:ops.toList.length≤j:=List.drop_eq_nil_iff.1 hj;simpa using this
     simp[yielded,this]
theorem B6 {P:Program}{T:ca}(hT:aR P T){C:List Nat}{A:nG}{ops:Array Oper}{k:St→Prop}{Q:Exit→Act→World→Prop}(hQ:∀s a w,k s→iI A s a w→Q .normal a w):
 ∀ (l:List Oper) {s:St} {a:Act} {w:World},(∀o ∈ l,EI A.N o=true)→GZ P T C ops.toList l k s→iI A s a w→wpList P ops Q l a w:=by
 intro l
 induction l with
 |nil=>intro s a w _ h hm;exact hQ _ _ _ h hm
 | cons o r ih=>
   intro s a w hN h hm
   have hN1:∀d,o.dst=some d→d<A.N:=by
    intro d hd;have:=hN o List.mem_cons_self;unfold EI at this;rw[hd]at this;simpa [Nat.blt_eq]using this
   have hNr:∀o ∈ r,EI A.N o=true:=fun o ho=>hN o (List.mem_cons_of_mem _ ho)
   obtain⟨h0,G,β,hg⟩:=hm;unfold GZ at h;unfold wpList;rcases qO h with⟨h1,h2⟩|⟨h1,h2⟩
   · have h1:=kP hg h1;rw[if_pos h1];refine .inl (Oper.wp_mono (fun a' w' hu=> ?_) (zm hT h0 hg hN1 h2));obtain⟨u,hu1,hu2⟩:=hu;rw[vC]at hu1;exact ih hNr hu1 hu2
   · have h1:=kP hg h1;rw[if_neg (by simp[h1])];rw[pY]at h2;exact ih hNr h2 (MG.fin (s:=s) (rs:= []) (us:= []) (h0:=h0) hg hN1 .undef)
def M1 (A:nG)(Q:Exit→St→Prop):Exit→Act→World→Prop:=fun e a w=>∃s,Q e s∧iI A s a w
def WP (P:Program)(c:Code)(Q:Exit→St→Prop)(s:St):Prop:=
 ∀ (A:nG) (a:Act) (w:World),gH A.N c=true→iI A s a w→c.wp P (M1 A Q) a w
structure CO (P:Program)(c:Code)(Q:Exit→St→Prop)(s:St):Prop where
 wp:WP P (.loop c) Q s
def Od (k:St→Prop)(e:Exit)(s:St):Prop:=match e with| .normal=>k s|_=>False
structure xd (P:Program)(id:Nat)(ops:Array Oper)(k:St→Prop)(s:St):Prop where
 wp:WP P (.region id ops true) (Od k) s
structure dc (s s':St):Prop where
 imp:∀ (A:nG) (a:Act) (w:World),iI A s a w→iI A s' a w
def Fg (k:St→Prop)(Q:Exit→St→Prop)(e:Exit)(s:St):Prop:=
 match e with
 | .normal=>k s
 |e=>Q e s
def Fp (id:Nat)(Q:Exit→St→Prop)(e:Exit)(s:St):Prop:=
 match e with
 | .exit i=>bif Nat.beq i id then Q .normal s else Q (.exit i) s
 |e=>Q e s
def Hz (P:Program)(T:ca)(C:List Nat):Code→(Exit→St→Prop)→St→Prop
 | .skip,Q,s=>Q .normal s
 | .region id ops draw,Q,s=>match draw with
   |false=>GZ P T C ops.toList ops.toList (Q .normal) s
   |true=>xd P id ops (Q .normal) s
 | .seq a b,Q,s=>Hz P T C a (Fg (Hz P T C b Q) Q) s
 | .cond c a b,Q,s=>match s.ev c with
   | .d (.bool t)=>br t (Hz P T C a Q s) (Hz P T C b Q s)
   |_=>False
 | .block id c,Q,s=>Hz P T C c (Fp id Q) s
 | .loop c,Q,s=>CO P c Q s
 | .exit id,Q,s=>Q (.exit id) s
 | .ret,Q,s=>Q .ret s
 |_,_,_=>False
theorem qr {P:Program}{T:ca}(hT:aR P T){C:List Nat}:∀ (c:Code) (Q:Exit→St→Prop) (s:St),Hz P T C c Q s→WP P c Q s:=by
 intro c
 induction c with
 |skip=>intro Q s h A a w _ hm;exact wp_skip ⟨s,h,hm⟩
 | region id ops draw=>
   intro Q s h A a w hN hm
   cases draw with
   | false=>
     refine wp_region_list (B6 hT (k:=Q .normal) (fun s a w hk hm=>⟨s,hk,hm⟩) ops.toList (List.all_eq_true.1 hN) h hm)
   | true=>
     refine wp_mono (h.wp A a w hN hm) ?_;rintro e a' w' ⟨s',hq,hm'⟩
     cases e<;>first|exact hq.elim|exact⟨s',hq,hm'⟩
 | seq x y ihx ihy=>
   intro Q s h A a w hN hm;simp only[gH,Bool.and_eq_true]at hN;refine wp_seq (wp_mono (ihx _ s h A a w hN.1 hm) ?_);rintro e a' w' ⟨s',hq,hm'⟩
   cases e with
   |normal=>exact ihy _ s' hq A a' w' hN.2 hm'
   |_=>exact⟨s',hq,hm'⟩
 | cond c x y ihx ihy=>
   intro Q s h A a w hN hm;simp only[gH,Bool.and_eq_true]at hN;unfold Hz at h;split at h
   · rename_i t ht;have hd:=hm.2;obtain⟨G,β,hg⟩:=hd;have hc:=hg.ev c;rw[ht]at hc;generalize hcv:a.eval c=cv at hc
     cases hc with|d _ _ hc=>cases hc with|bool _=>
     unfold br at h;split at h
     · exact wp_cond_true hcv (ihx _ s h A a w hN.1 hm)
     · exact wp_cond_false hcv (ihy _ s h A a w hN.2 hm)
   · exact h.elim
 | block id c ih=>
   intro Q s h A a w hN hm;refine wp_block (wp_mono (ih _ s h A a w hN hm) ?_);rintro e a' w' ⟨s',hq,hm'⟩
   cases e with
   | exit i=>
     simp only[Exit.inBlock];simp only[Fp]at hq
     by_cases hi:i=id
     · subst hi;simp only[if_true];exact⟨s',by simpa using hq,hm'⟩
     · rw[ax hi]at hq;rw[if_neg hi]
       exact⟨s',hq,hm'⟩
   |_=>exact⟨s',hq,hm'⟩
 |loop c ih=>intro Q s h A a w hN hm;exact h.wp A a w hN hm
 |exit id=>intro Q s h A a w _ hm;exact wp_exit ⟨s,h,hm⟩
 |ret=>intro Q s h A a w _ hm;exact wp_ret ⟨s,h,hm⟩
 |_=>intro Q s h;exact h.elim
theorem ah {P:Program}{T:ca}(hT:aR P T){C:List Nat}{c:Code}{Q:Exit→St→Prop}{s:St}{ι:Type}(pre:ι→Prop)(σ:ι→St)(μ:ι→Nat)(i0:ι)(h0:pre i0)(he:dc s (σ i0))
 (hround:∀i,pre i→Hz P T C c (Fg (fun s' =>∃j,pre j∧μ j<μ i∧dc s' (σ j)) Q) (σ i)):CO P c Q s:=by
 refine⟨fun A a w hN hm=> ?_⟩;refine wp_loop_ghost (fun n a w=>∃i,pre i∧μ i=n∧iI A (σ i) a w) (μ i0) ⟨i0,h0,rfl,he.imp A a w hm⟩ ?_;rintro n a w ⟨i,hi,rfl,hmi⟩;refine wp_mono (qr hT c _ (σ i) (hround i hi) A a w hN hmi) ?_;rintro e a' w' ⟨s',hq,hm'⟩
 cases e with
 | normal=>
   obtain⟨j,hj,hlt,hen⟩:=hq
   exact⟨μ j,hlt,j,hj,rfl,hen.imp A a' w' hm'⟩
 |_=>exact⟨s',hq,hm'⟩
theorem uI {id:Nat}:∀ {k k':List Item},exitTo id k=some k'→k'.length<k.length:=by
 intro k
 induction k with
 |nil=>intro k' h;cases h
 | cons x k ih=>
   intro k' h
   cases x<;>simp only[exitTo]at h<;>first
    |(have:=ih h;simp;omega)
    | (split at h
       · cases h;simp
       · have:=ih h;simp;omega)
theorem Steps.past {P:Program}{m m1 m':Machine}(h:Steps P m m')(hs:step P m= .next m1)(hne:m≠m'):Steps P m1 m':=by
 obtain⟨n,hn⟩:=h
 cases n with
 |zero=>simp[runN]at hn;exact absurd hn hne
 | succ n=>
   simp only[runN,hs]at hn;exact⟨n,hn⟩
theorem vd {b:Frame}{a a':Act}{k k':List Item}{cs:List Frame}{w w':World}(h:lone (b.at a k) cs w=lone (b.at a' k') cs w'):k=k':=by
 simp only[lone,Machine.mk.injEq]at h;have:=h.2.1;simp[Frame.at]at this;exact this.2.1
theorem vb {b:Frame}{a a':Act}{k k':List Item}{cs:List Frame}{w w':World}{md:FrameMode}(h:lone (b.at a k) cs w=lone {b.at a' k' with mode:=md} cs w'):md= .run:=by
 simp only[lone,Machine.mk.injEq]at h;have:=h.2.1;simp[Frame.at]at this;exact this.2.2.2.symm
theorem bU {P:Program}{T:ca}(hT:aR P T){C:List Nat}{c:Code}{Q:Exit→St→Prop}{s:St}(hg:∀l s,¬Q (.goto l) s)(hu:∀s,¬Q .outgrown s)
 (h:Hz P T C c (Fg (fun s' =>CO P c Q s') Q) s):CO P c Q s:=by
 refine⟨fun A a w hN hm b k cs=> ?_⟩;obtain⟨e,a₁,w₁,hq,harr⟩:=qr hT c _ s h A a w hN hm b (.inLoop c::k) cs;obtain⟨s',hq,hm'⟩:=hq
 cases e with
 | normal=>
   obtain⟨e₂,a₂,w₂,hq₂,harr₂⟩:=hq.wp A a₁ w₁ hN hm' b k cs;have h1:Steps P (lone (b.at a (.code (.loop c)::k)) cs w) (lone (b.at a₁ (.code c:: .inLoop c::k)) cs w₁):=.head step_loop (Steps.trans harr (.one step_inLoop));have hst:step P (lone (b.at a₁ (.code (.loop c)::k)) cs w₁)= .next (lone (b.at a₁ (.code c:: .inLoop c::k)) cs w₁):=step_loop;refine⟨e₂,a₂,w₂,hq₂,?_⟩
   cases e₂ with
   |normal=>exact h1.trans (Steps.past harr₂ hst (fun e=>by have:=congrArg List.length (vd e);simp at this))
   | exit id=>
     intro k' hk
     exact h1.trans (Steps.past (harr₂ k' hk) hst (fun e=>by
      have h2:=congrArg List.length (vd e);have:=uI hk
      simp at h2;omega))
   |goto l=>obtain⟨s2,hq2,_⟩:=hq₂;exact absurd hq2 (hg l s2)
   | ret=>
     obtain⟨todo,hs⟩:=harr₂
     exact⟨todo,h1.trans (Steps.past hs hst (fun e=>by cases vb e))⟩
   | panic ch=>
     obtain⟨todo,hs⟩:=harr₂
     exact⟨todo,h1.trans (Steps.past hs hst (fun e=>by cases vb e))⟩
   |outgrown=>obtain⟨s2,hq2,_⟩:=hq₂;exact absurd hq2 (hu s2)
 |exit id=>exact⟨_,a₁,w₁,⟨s',hq,hm'⟩,.of_steps (.one step_loop) (.pass (x:=.inLoop c) rfl (fun _ _=>.inl (by simp)) harr)⟩
 |goto l=>exact⟨_,a₁,w₁,⟨s',hq,hm'⟩,.of_steps (.one step_loop) (.pass (x:=.inLoop c) rfl (fun _ _=>.inl (by simp)) harr)⟩
 |ret=>exact⟨_,a₁,w₁,⟨s',hq,hm'⟩,.of_steps (.one step_loop) (.pass (x:=.inLoop c) rfl (fun _ _=>.inl (by simp)) harr)⟩
 |panic ch=>exact⟨_,a₁,w₁,⟨s',hq,hm'⟩,.of_steps (.one step_loop) (.pass (x:=.inLoop c) rfl (fun _ _=>.inl (by simp)) harr)⟩
 |outgrown=>exact⟨_,a₁,w₁,⟨s',hq,hm'⟩,.of_steps (.one step_loop) (.pass (x:=.inLoop c) rfl (fun _ _=>.inl (by simp)) harr)⟩
def G6:List SV→Nat→SV
 | [],_=>.undef
 |x::_,0=>x
 |_::l,n+1=>G6 l n
theorem Hn:∀ (l:List SV) (i:Nat),G6 l i=(l[i]?).getD .undef:=by
 intro l
 induction l with
 |nil=>intro i;simp[G6]
 |cons x l ih=>intro i;cases i<;>simp[G6,ih]
def w4 (args:List SV)(rin:List (Nat×aY)):St:=⟨G6 args,aC rin,fun d=>(aC rin d).isSome⟩
def Do (s:St):List (Nat×aY)→Prop
 | []=>True
 |(d,r)::l=>(match s.res d with|some r0=>aY.le r0 r|none=>False)∧Do s l
theorem fK {s:St}:∀ {l:List (Nat×aY)} {d:Nat} {r:aY},Do s l→aC l d=some r→∃r0,s.res d=some r0∧aY.le r0 r:=by
 intro l
 induction l with
 |nil=>intro d r _ h;cases h
 | cons p l ih=>
   obtain⟨e,r'⟩:=p;intro d r ho h;obtain⟨h1,h2⟩:=ho;simp only[aC]at h
   by_cases he:d=e
   · subst he;simp at h;subst h;split at h1
     · rename_i r0 hr;exact⟨r0,hr,h1⟩
     · exact h1.elim
   · rw[ax he]at h;exact ih h2 h
def I5 (T:ca)(s:St):List ResultVar→(List SV→Prop)→Prop
 | [],k=>k []
 | .tmp t::r,k=>I5 T s r fun l=>k (s.look t::l)
 | .cell a t::r,k=>pK T s t (s.look a) fun x=>I5 T s r fun l=>k (x::l)
def Kq (T:ca)(rs:List ResultVar)(s:St)(k:SV→Prop):Prop:=
 I5 T s rs fun l=>match l with
  | [x]=>k x
  |l=>k (.tup l)
inductive wT (T:ca) (rs:List ResultVar) (post:SV→List (Nat×aY)→Prop):St→Prop
 |ret (s:St) (h:Kq T rs s fun x=>∃rout,post x rout∧Do s rout):wT T rs post s
 |weak (s:St) (h:Kq T rs s fun x=>∃y rout,SV.le x y∧post y rout∧Do s rout):wT T rs post s
 |freeze (s:St) (d e kk n:Nat) (g:Nat→List DV) (hd:s.res d=some (.buf e kk n g)) (h:wT T rs post (s.app ⟨none,.any,[(d,some (.fro kk n g))],[]⟩)):wT T rs post s
 |ent (s s':St) (he:dc s s') (h:wT T rs post s'):wT T rs post s
def Pe (T:ca)(rs:List ResultVar)(post:SV→List (Nat×aY)→Prop)(e:Exit)(s:St):Prop:=
 match e with
 | .ret=>wT T rs post s
 | .normal=>wT T rs post s
 |_=>False
def Jy (tmps:Array Value):ResultVar→Sem Value
 | .tmp t=>pure (tmps.getD t Go.undef)
 | .cell b t=>do loadVar t (←asAddr (tmps.getD b Go.undef))
theorem BJ (fn:Func)(tmps:Array Value):results fn tmps=(do let vs←fn.results.mapM (Jy tmps);pure (if h:vs.size=1 then vs[0]else .tuple vs)):=by
 unfold results;congr 1
theorem A6 {P:Program}{T:ca}(hT:aR P T){A:nG}{G:Hp}{β:eZ}{s:St}{a:Act}{w:World}(h:MG A G β s a.tmps w):∀ (rs:List ResultVar) (k:List SV→Prop),I5 T s rs k→
 ∃ vs l,((rs.mapM (Jy a.tmps):Sem (List Value))).run P w= .ok vs w∧vs.length=l.length∧
  (∀ (i:Nat) x v,l[i]? =some x→vs[i]? =some v→am G β x v)∧k l:=by
 intro rs
 induction rs with
 |nil=>intro k hk;exact⟨[],[],rfl,rfl,by simp,hk⟩
 | cons r rs ih=>
   intro k hk
   cases r with
   | tmp t=>
     obtain⟨vs,l,h1,h2,h3,h4⟩:=ih _ hk;refine⟨a.tmps.getD t Go.undef::vs,s.look t::l,?_,by simp[h2],fun i x v hx hv=> ?_,h4⟩
     · rw[List.mapM_cons,Sem.run_bind];simp only[Jy,Sem.run_pure,Result.andThen_ok,Sem.run_bind];rw[h1];rfl
     · cases i with
       | zero=>
         have hx:some (s.look t)=some x:=hx;have hv:some (a.tmps.getD t Go.undef)=some v:=hv
         cases hx;cases hv;exact h.ev (.tmp t)
       |succ i=>exact h3 i x v (by simpa using hx) (by simpa using hv)
   | cell b t=>
     have hb:=h.ev (.tmp b);obtain⟨v0,x0,g1,g2,g3⟩:=tW hT h hb hk;obtain⟨vs,l,h1,h2,h3,h4⟩:=ih _ g3;refine⟨v0::vs,x0::l,?_,by simp[h2],fun i x v hx hv=> ?_,h4⟩
     · rw [List.mapM_cons,Sem.run_bind]
       have e:(Jy a.tmps (.cell b t)).run P w= .ok v0 w:=by
        show(do loadVar t (←asAddr (a.tmps.getD b Go.undef)):Sem Value).run P w=_;have e1:a.eval (.tmp b)=a.tmps.getD b Go.undef:=rfl;rw[e1]at g1;generalize hq:a.tmps.getD b Go.undef=q at g1 ⊢;unfold Instr.loadAt at g1
        cases q with
        | pointer p=>cases p with
          |none=>simp[Instr.sureAddr]at g1
          |some p=>simpa [Instr.sureAddr,asAddr]using g1
        |_=>simp[Instr.sureAddr]at g1
       rw[e];simp only[Result.andThen_ok,Sem.run_bind];rw[h1];rfl
     · cases i with
       |zero=>simp at hx hv;subst hx;subst hv;exact g2
       |succ i=>exact h3 i x v (by simpa using hx) (by simpa using hv)
theorem sP {P:Program}{T:ca}(hT:aR P T){A:nG}{G:Hp}{β:eZ}{s:St}{a:Act}{w:World}(h:MG A G β s a.tmps w){fn:Func}{k:SV→Prop}(hk:Kq T fn.results.toList s k):
 ∃v x,(results fn a.tmps).run P w= .ok v w∧am G β x v∧k x:=by
 obtain⟨vs,l,h1,h2,h3,h4⟩:=A6 hT h _ _ hk
 have hrun:(results fn a.tmps).run P w= .ok (if h:vs.length=1 then vs[0]else .tuple vs.toArray) w:=by
  rw[BJ,Array.mapM_eq_mapM_toList];simp only[Sem.run_bind,Sem.run_map];rw[h1];simp only[Result.andThen_ok,Sem.run_pure,List.size_toArray,List.getElem_toArray]
 rcases l with _|⟨x,_|⟨y,l⟩⟩
 · rcases vs with _|⟨v,vs⟩
   · exact⟨_,_,hrun,.tup [] [] rfl (by simp),h4⟩
   · simp at h2
 · rcases vs with _|⟨v,_|⟨u,vs⟩⟩
   · simp at h2
   · exact⟨_,_,hrun,h3 0 x v rfl rfl,h4⟩
   · simp at h2
 · rcases vs with _|⟨v,_|⟨u,vs⟩⟩
   · simp at h2
   · simp at h2
   · exact⟨_,_,hrun,.tup _ (v::u::vs) h2 h3,h4⟩
def CK:List (Nat×aY)→Bool
 | []=>true
 |(d,_)::l=>Nat.ble 1000000 d&&CK l
theorem Du:∀ {l:List (Nat×aY)} {d:Nat} {r:aY},CK l=true→aC l d=some r→Nat.ble 1000000 d=true:=by
 intro l
 induction l with
 |nil=>intro d r _ h;cases h
 | cons p l ih=>
   obtain⟨e,r'⟩:=p;intro d r ho h;simp only[CK,Bool.and_eq_true]at ho;simp only[aC]at h
   by_cases he:d=e
   · subst he;exact ho.1
   · rw[ax he]at h;exact ih ho.2 h
theorem ae {P:Program}{T:ca}(hT:aR P T){C:List Nat}{f:FuncId}{fn:Func}{body:Code}{args:List SV}{rin:List (Nat×aY)}{post:SV→List (Nat×aY)→Prop}
 (hf:P.funcs[f]? =some fn)(hb:fn.body=some body)(henter:∀args w,(callFunc f args).run P w= .ok (.enter f args) w)(hok:gH fn.ntmps body=true)(hn:Nat.ble args.length fn.ntmps=true)(hrin:CK rin=true)
 (h:Hz P T C body (Pe T fn.results.toList post) (w4 args rin)):ai P f args rin post:=by
 refine⟨henter,fun G β w vs hpre hvl hvd=> ?_⟩;have hn:args.length≤fn.ntmps:=Nat.le_of_ble_eq_true hn
 let A:nG:=⟨w,Ez w β (aC rin),G,fn.ntmps,β,fun d v e=>by obtain⟨r,hr⟩:=hpre.sc d v e;exact Du hrin hr⟩
 have hm :MG A G β (w4 args rin) (vs.toArray++Array.replicate (fn.ntmps - vs.toArray.size) Go.undef) w:=by
  refine⟨by simp[A];omega,Hp.le_refl G,eZ.le_refl β,hpre.gw,fun b o e=>.inl e,KO.refl w _,fun i=> ?_,hpre.rs,hpre.dj,fun d r v b h1 h2 h3 h4=>⟨hpre.og d r v b h1 h2 h3 h4,.inl ⟨d,r,v,h1,h2,h3,h4⟩⟩,fun d v hv=> ?_⟩
  · simp only[w4,Hn];rcases Nat.lt_or_ge i args.length with q|q
    · have hx:args[i]? =some args[i]:=List.getElem?_eq_getElem q;have hv:vs[i]? =some (vs[i]'(by omega)):=List.getElem?_eq_getElem (by omega);rw[hx];simp only[Option.getD_some,Array.getD_eq_getD_getElem?];rw[Array.getElem?_append_left (by simp;omega)];simp only[List.getElem?_toArray,hv,Option.getD_some];exact hvd i _ _ hx hv
    · rw[List.getElem?_eq_none q];simp only[Option.getD_none,Array.getD_eq_getD_getElem?];rw[Array.getElem?_append_right (by simp;omega)]
      have:((Array.replicate (fn.ntmps - vs.toArray.size) Go.undef)[i - vs.toArray.size]?).getD Go.undef=Go.undef:=by
       rw[Array.getElem?_replicate];split<;>rfl
      rw[this];exact .undef
  · obtain⟨r,hr⟩:=hpre.sc d v hv;simp[w4,hr]
 refine calls_of_wp hf hb (wp_mono (qr hT body _ _ h A ⟨_,[]⟩ w hok ⟨rfl,G,β,hm⟩) ?_);rintro e a' w' ⟨s',hq,h0,hmm⟩
 have key:∀s',wT T fn.results.toList post s'→(∃G β,MG A G β s' a'.tmps w')→∃v,(results fn a'.tmps).run P w' = .ok v w'∧∃v' x rout G' β',Ending.returned v= .returned v'∧post x rout∧O3 G β w (aC rin) G' β' w' (aC rout)∧am G' β' x v':=by
  intro s' hr
  induction hr with
  | ret s hres=>
    rintro⟨G',β',hg⟩;obtain⟨v,x,r1,r2,rout,r3,r4⟩:=sP hT hg hres;refine⟨v,r1,v,x,rout,G',β',rfl,r3,⟨hg.g0,hg.e0,hg.gw,hg.gn,hg.keep,fun d r hd=> ?_,fun d d' r r' v v' b e1 e2 o1 o2 f1 f2 b1 b2=> ?_,fun d r v b e1 o1 f1 b1=> ?_⟩,r2⟩
    · obtain⟨r0,q1,q2⟩:=fK r4 hd;exact q2.2 _ _ _ _ (hg.rs d r0 q1)
    · obtain⟨r0,q1,q2⟩:=fK r4 e1;obtain⟨r0',q1',q2'⟩:=fK r4 e2;exact hg.dj d d' r0 r0' v v' b q1 q1' (q2.own'.trans o1) (q2'.own'.trans o2) f1 f2 (b1.to q2.isR'.symm) (b2.to q2'.isR'.symm)
    · obtain⟨r0,q1,q2⟩:=fK r4 e1
      exact hg.og d r0 v b q1 (q2.own'.trans o1) f1 (b1.to q2.isR'.symm)
  | weak s hres=>
    rintro⟨G',β',hg⟩;obtain⟨v,x,r1,r2,y,rout,r5,r3,r4⟩:=sP hT hg hres;refine⟨v,r1,v,y,rout,G',β',rfl,r3,⟨hg.g0,hg.e0,hg.gw,hg.gn,hg.keep,fun d r hd=> ?_,fun d d' r r' v v' b e1 e2 o1 o2 f1 f2 b1 b2=> ?_,fun d r v b e1 o1 f1 b1=> ?_⟩,r5 _ _ _ r2⟩
    · obtain⟨r0,q1,q2⟩:=fK r4 hd;exact q2.2 _ _ _ _ (hg.rs d r0 q1)
    · obtain⟨r0,q1,q2⟩:=fK r4 e1;obtain⟨r0',q1',q2'⟩:=fK r4 e2;exact hg.dj d d' r0 r0' v v' b q1 q1' (q2.own'.trans o1) (q2'.own'.trans o2) f1 f2 (b1.to q2.isR'.symm) (b2.to q2'.isR'.symm)
    · obtain⟨r0,q1,q2⟩:=fK r4 e1
      exact hg.og d r0 v b q1 (q2.own'.trans o1) f1 (b1.to q2.isR'.symm)
  | freeze s d e kk n g hd _ ih=>
    rintro⟨G',β',hg⟩;obtain⟨G2,_,hg2⟩:=hg.freeze hd
    exact ih ⟨G2,β',hg2⟩
  | ent s s' he _ ih=>
    rintro⟨G',β',hg⟩;exact ih (he.imp _ _ _ ⟨h0,G',β',hg⟩).2
 cases e with
 |normal=>obtain⟨v,k1,k2⟩:=key _ hq hmm;exact⟨h0,v,k1,k2⟩
 |ret=>obtain⟨v,k1,k2⟩:=key _ hq hmm;exact⟨h0,v,k1,k2⟩
 |_=>exact hq.elim
end Go.Eng
namespace Go.Eng
open Go
def bA (F:(SV→Prop)→Prop):Prop:=∀k,F k→∃v,k v∧∀k',k' v→F k'
theorem dD (v:SV):bA fun k=>k v:=fun _ h=>⟨v,h,fun _ h' =>h'⟩
theorem db {b:Bool}{F G:(SV→Prop)→Prop}(hF:bA F)(hG:bA G):bA fun k=>br b (F k) (G k):=by
 intro k h;cases b
 · exact hG k h
 · exact hF k h
theorem bW:bA fun _=>False:=fun _ h=>h.elim
theorem dh {c:Prop}{F:(SV→Prop)→Prop}(hF:bA F):bA fun k=>c∧F k:=by
 rintro k ⟨h1,h2⟩;obtain⟨v,h3,h4⟩:=hF k h2;exact⟨v,h3,fun k' h' =>⟨h1,h4 k' h'⟩⟩
theorem lx (ka:IntKind)(n:Int):bA (HD ka n):=by
 intro k h;cases ka<;>simp only[HD]at h ⊢<;>first|exact⟨_,h,fun _ h' =>h'⟩|exact⟨_,h.2,fun _ h' =>⟨h.1,h'⟩⟩
theorem yc (op:BinOp)(ka:IntKind)(a b:Int):bA (FV op ka a b):=by
 intro k h
 cases op<;>simp only[FV]at h ⊢<;>first
  |exact h.elim
  |exact⟨_,h,fun _ h' =>h'⟩
  |exact lx ka _ k h
  |exact⟨_,h.2,fun _ h' =>⟨h.1,h'⟩⟩
  |(obtain⟨v,h3,h4⟩:=lx ka _ k h.2;exact⟨v,h3,fun k' h' =>⟨h.1,h4 k' h'⟩⟩)
theorem y6 (op:BinOp)(a b:List UInt8):bA (GX op a b):=by
 intro k h
 cases op<;>simp only[GX]at h ⊢<;>first
  |exact h.elim
  |exact⟨_,h,fun _ h' =>h'⟩
  |exact⟨_,h.2,fun _ h' =>⟨h.1,h'⟩⟩
theorem zB (T:ca)(op:BinOp)(t:TypeId)(x y:SV):bA (Gr T op t x y):=by
 intro k h;unfold Gr at h ⊢;split at h
 · exact db (yc _ _ _ _) bW k h
 · exact y6 _ _ _ k h
 · split at h
   · exact⟨_,h,fun _ h' =>h'⟩
   · exact⟨_,h,fun _ h' =>h'⟩
   · exact h.elim
 · split at h
   · rename_i ok _
     cases ok with
     |false=>exact h.elim
     | true=>
       simp only[br]at h ⊢;split at h
       · exact⟨_,h,fun _ h' =>h'⟩
       · exact⟨_,h,fun _ h' =>h'⟩
       · exact h.elim
   · exact h.elim
 · exact h.elim
theorem iB (s:St)(agg:Bool)(size:Nat)(l:List SV):bA (lG s agg size l):=by
 intro k h;unfold lG at h ⊢;split at h
 · exact db (dD _) bW k h
 · split at h
   · exact⟨_,h,fun _ h' =>h'⟩
   · exact h.elim
theorem wA (T:ca)(s:St)(ty:TypeId)(x:SV):bA (pK T s ty x):=by
 intro k h;unfold pK at h ⊢;split at h
 · exact h.elim
 · split at h
   · split at h
     · exact iB _ _ _ _ k h
     · exact h.elim
   · exact iB _ _ _ _ k h
   · split at h
     · exact db (dh (iB _ _ _ _)) bW k h
     · exact h.elim
   · exact h.elim
theorem o0 (T:ca)(ty:TypeId)(x:SV)(f:Nat):bA (iW T ty x f):=by
 intro k h;unfold iW at h ⊢;split at h
 · exact h.elim
 · rename_i off ti hf
   cases hz:Nat.beq ti.size 0 with
   |true=>rw[hz]at h;exact h.elim
   | false=>
     rw[hz]at h;try rw[hz]
     simp only[br]at h ⊢;cases x<;>first|exact h.elim|exact⟨_,h,fun _ h' =>h'⟩|skip
     rename_i y;cases y<;>first|exact h.elim|exact⟨_,h,fun _ h' =>h'⟩
theorem uy (T:ca)(s:St)(ty:TypeId)(x:SV)(f:Nat):bA (mb T s ty x f):=by
 intro k h;unfold mb at h ⊢;split at h
 · exact h.elim
 · split at h
   · exact iB _ _ _ _ k h
   · exact h.elim
theorem oS (T:ca)(s:St)(ty:TypeId)(x i:SV):bA (eN T s ty x i):=by
 intro k h;unfold eN at h ⊢;split at h
 · split at h
   · split at h
     · exact db (dh (dD _)) bW k h
     · split at h
       · exact db (dh (dD _)) bW k h
       · exact db (dh (dD _)) bW k h
       · exact h.elim
     · exact db (dh (dD _)) bW k h
     · exact h.elim
   · exact h.elim
 · split at h
   · split at h
     · exact dh (dD _) k h
     · exact dh (dD _) k h
     · exact h.elim
   · exact h.elim
 · exact h.elim
theorem ut (T:ca)(ty:TypeId)(x i:SV):bA (sW T ty x i):=by
 intro k h;unfold sW at h ⊢;split at h
 · split at h
   · exact dh (dD _) k h
   · exact h.elim
 · split at h
   · split at h
     · exact db (dh (dD _)) bW k h
     · exact h.elim
   · exact h.elim
 · exact h.elim
theorem fS {x:Option SV}{d:Int}{F:Int→(SV→Prop)→Prop}(hF:∀j,bA (F j)):bA fun k=>iK x d fun j=>F j k:=by
 intro k h;unfold iK at h ⊢;split at h
 · exact hF _ k h
 · exact hF _ k h
 · exact h.elim
theorem uP (T:ca)(ty:TypeId)(x:SV)(lo hi mx:Option SV):bA (sf T ty x lo hi mx):=by
 intro k h;unfold sf at h ⊢;split at h
 · split at h
   · rename_i l;exact fS (F:=fun h k=>iK lo 0 fun j=>(0≤j∧j≤h∧h≤l.length)∧k (.d (.str ((l.drop j.toNat).take (h - j).toNat)))) (fun h=>fS (F:=fun j k=>(0≤j∧j≤h∧h≤l.length)∧k (.d (.str ((l.drop j.toNat).take (h - j).toNat)))) (fun j=>dh (dD _))) k h
   · exact h.elim
 · split at h
   · split at h
     · rename_i kk n get;exact db (fS (F:=fun h k=>iK lo 0 fun j=>(0≤j∧j≤h∧h≤n)∧k (.d (.ro kk (h - j).toNat fun i=>get (j.toNat+i)))) (fun h=>fS (F:=fun j k=>(0≤j∧j≤h∧h≤n)∧k (.d (.ro kk (h - j).toNat fun i=>get (j.toNat+i)))) (fun j=>dh (dD _)))) bW k h
     · exact fS (F:=fun h k=>iK lo 0 fun j=>(j=0∧h=0)∧k (.d .nilsl)) (fun h=>fS (F:=fun j k=>(j=0∧h=0)∧k (.d .nilsl)) (fun j=>dh (dD _))) k h
     · exact h.elim
   · exact h.elim
 · exact h.elim
theorem zi (T:ca)(s:St)(ty:TypeId)(x:SV):bA (zL T s ty x):=by
 intro k h;unfold zL at h ⊢;split at h
 · split at h
   · exact⟨_,h,fun _ h' =>h'⟩
   · exact h.elim
 · split at h
   · exact⟨_,h,fun _ h' =>h'⟩
   · exact⟨_,h,fun _ h' =>h'⟩
   · split at h
     · exact⟨_,h,fun _ h' =>h'⟩
     · exact h.elim
   · exact⟨_,h,fun _ h' =>h'⟩
   · exact h.elim
 · split at h
   · split at h
     · exact⟨_,h,fun _ h' =>h'⟩
     · exact h.elim
   · exact h.elim
 · exact h.elim
theorem AN (op:UnOp)(x:SV):bA (NC op x):=by
 intro k h;unfold NC at h ⊢;split at h
 · exact⟨_,h,fun _ h' =>h'⟩
 · exact lx _ _ k h
 · exact h.elim
theorem w7 (T:ca)(a b:TypeId)(x:SV):bA (x4 T a b x):=by
 intro k h;unfold x4 at h ⊢;split at h
 · split at h
   · exact lx _ _ k h
   · exact h.elim
 · split at h
   · exact⟨_,h,fun _ h' =>h'⟩
   · exact h.elim
 · split at h
   · exact⟨_,h,fun _ h' =>h'⟩
   · exact h.elim
 · exact h.elim
theorem rL (s:St)(x:SV)(i:Nat):bA (gW s x i):=by
 intro k h;unfold gW at h ⊢;split at h
 · split at h
   · exact⟨_,h,fun _ h' =>h'⟩
   · exact h.elim
 · exact h.elim
theorem ua (mx:Bool)(x y:SV):bA (My mx x y):=by
 intro k h;unfold My at h ⊢;split at h
 · exact db (dD _) bW k h
 · exact h.elim
theorem qL (mx:Bool)(x y z u:SV):bA (Ec mx x y z u):=by
 intro k h;unfold Ec at h ⊢;split at h
 · exact⟨_,h,fun _ h' =>h'⟩
 · exact h.elim
theorem um (T:ca)(ty:TypeId)(ps:List (Nat×SV)):bA (tF T ty ps):=by
 intro k h;unfold tF at h ⊢;split at h
 · rename_i fs _ _ z _ _
   cases ht:jG T fs.toList with
   |false=>rw[ht]at h;exact h.elim
   | true=>
     rw[ht]at h;try rw[ht]
     simp only[br]at h ⊢;split at h
     · split at h
       · exact⟨_,h,fun _ h' =>h'⟩
       · exact h.elim
     · exact h.elim
 · split at h
   · split at h
     · exact⟨_,h,fun _ h' =>h'⟩
     · exact h.elim
   · exact h.elim
 · exact h.elim
theorem yV (x:SV):bA (Jo x):=by
 intro k h;unfold Jo at h ⊢;split at h
 · exact⟨_,h,fun _ h' =>h'⟩
 · exact⟨_,h,fun _ h' =>h'⟩
 · exact⟨_,h,fun _ h' =>h'⟩
 · exact⟨_,h,fun _ h' =>h'⟩
 · exact h.elim
theorem zH (T:ca)(ty:TypeId)(x:SV):bA (Hq T ty x):=by
 have hX:bA (IR ty x):=by
  intro k h;unfold IR at h ⊢;split at h
  · exact⟨_,h,fun _ h' =>h'⟩
  · exact h.elim
 intro k h;unfold Hq at h ⊢;split at h
 · exact db bW hX k h
 · exact h.elim
theorem tn (T:ca)(x:SV)(ty:TypeId)(ok:Bool):bA (pc T x ty ok):=by
 have hY:∀y,bA (Im y ok):=by
  intro y k h;unfold Im at h ⊢;split at h
  · exact⟨_,h,fun _ h' =>h'⟩
  · exact⟨_,h,fun _ h' =>h'⟩
 have hZ:∀z,bA (I0 z ok):=by
  intro z k h;unfold I0 at h ⊢;split at h
  · exact⟨_,h,fun _ h' =>h'⟩
  · exact h.elim
 have hX:∀z,bA (Jw z ty ok x):=by
  intro z k h;unfold Jw at h ⊢;split at h
  · exact db (hY _) (hZ _) k h
  · exact h.elim
 intro k h;unfold pc at h ⊢;split at h
 · exact db bW (hX _) k h
 · exact h.elim
theorem xJ (T:ca)(op:BinOp)(t:TypeId)(x:SV):bA (yD T op t x):=by
 intro k h;unfold yD at h ⊢;split at h
 · split at h
   · split at h<;>first|exact⟨_,h,fun _ h' =>h'⟩|exact h.elim
   · split at h<;>first|exact⟨_,h,fun _ h' =>h'⟩|exact h.elim
   · exact h.elim
 · exact h.elim
theorem sj (T:ca)(o:Oper)(s:St):bA (Ab T o s):=by
 intro k h;unfold Ab at h ⊢;split at h
 · exact⟨_,h,fun _ h' =>h'⟩
 · exact⟨_,h,fun _ h' =>h'⟩
 · split at h
   · exact db (dD _) (dD _) k h
   · exact h.elim
 · exact um _ _ _ k h
 · exact wA _ _ _ _ k h
 · exact yV _ k h
 · split at h
   · exact xJ _ _ _ _ k h
   · exact zB _ _ _ _ _ k h
 · exact zH _ _ _ k h
 · exact tn _ _ _ _ k h
 · exact AN _ _ k h
 · exact w7 _ _ _ _ k h
 · split at h
   · exact⟨_,h,fun _ h' =>h'⟩
   · exact h.elim
 · exact uP _ _ _ _ _ _ k h
 · exact o0 _ _ _ _ k h
 · exact uy _ _ _ _ _ k h
 · exact oS _ _ _ _ _ k h
 · exact ut _ _ _ _ k h
 · exact rL _ _ _ k h
 · split at h
   · exact zi _ _ _ _ k h
   · exact ua _ _ _ k h
   · exact ua _ _ _ k h
   · exact qL _ _ _ _ _ k h
   · exact qL _ _ _ _ _ k h
   · exact h.elim
 · exact h.elim
end Go.Eng
namespace Go.Eng
open Go
def aZ (C:List Nat)(o:Oper):Bool:=
 match o.op with
 | .store .. =>false
 | .slice .. => !iz C o.dst
 | .call c=>match c.callee with
   | .builtin .len=>true
   | .builtin .max=>true
   | .builtin .min=>true
   |_=>false
 | .lookup .. => !iz C o.dst
 | .mapUpdate .. =>false
 | .mapEntry .. =>false
 | .entryStore .. =>false
 |_=>true
def r7 (o:Oper):Bool:=
 match o.op with
 | .call c=>match c.callee with
   | .value _=>true
   |_=>false
 |_=>false
def QO (o:Oper)(s:St)(u:cK):Prop:=
 u.dst=o.dst∧((u.rs= []∧u.us= [])∨∃d r,o.dst=some d∧u.rs= [(d,some r)]∧u.us= [d])
theorem j7 {dst:Option Nat}{s:St}{ty:TypeId}{l:Option (List SV)}{k:cK→Prop}(h:dU dst s ty l k):
 ∃u,k u∧(u.dst=dst∧∃d r,dst=some d∧u.rs= [(d,some r)]∧u.us= [d])∧∀k',k' u→dU dst s ty l k':=by
 unfold dU at h ⊢;split at h
 · rename_i d l
   cases hu:s.used d with
   |true=>rw[hu]at h;exact h.elim
   |false=>rw[hu]at h;exact⟨_,h,⟨rfl,d,_,rfl,rfl,rfl⟩,fun k' h' =>h'⟩
 · exact h.elim
theorem zK {x:Option SV}{d:Int}{F:Int→Prop}(h:iK x d F):∃i,F i∧∀F':Int→Prop,F' i→iK x d F':=by
 unfold iK at h ⊢;split at h
 · exact⟨_,h,fun F' h' =>h'⟩
 · exact⟨_,h,fun F' h' =>h'⟩
 · exact h.elim
theorem y3 {lo hi:Option SV}{n:Nat}{F:Int→Int→Prop}(h:qq lo hi n F):∃j k,F j k∧∀F':Int→Int→Prop,F' j k→qq lo hi n F':=by
 unfold qq at h ⊢;obtain⟨k,h,h1⟩:=zK h;obtain⟨j,h,h2⟩:=zK h;exact⟨j,k,h,fun F' h' =>h1 _ (h2 _ h')⟩
theorem yH {T:ca}{dst:Option Nat}{s:St}{ty:TypeId}{x:SV}{lo hi:Option SV}{k:cK→Prop}(h:wU T dst s ty x lo hi k):
 ∃u,k u∧(u.dst=dst∧u.rs= []∧u.us= [])∧∀k':cK→Prop,k' u→wU T dst s ty x lo hi k':=by
 unfold wU at h ⊢;split at h
 · split at h
   · obtain⟨h0,h⟩:=aB h;obtain⟨j,m,h,h1⟩:=y3 h;exact⟨_,h.2,⟨rfl,rfl,rfl⟩,fun k' h' =>bt h0 (h1 _ ⟨h.1,h'⟩)⟩
   · exact h.elim
 · obtain⟨h0,h⟩:=aB h;obtain⟨j,m,h,h1⟩:=y3 h;exact⟨_,h.2,⟨rfl,rfl,rfl⟩,fun k' h' =>bt h0 (h1 _ ⟨h.1,h'⟩)⟩
 · exact h.elim
theorem ld (va:Bool)(row:List DV):bA (mC va row):=by
 intro k h;unfold mC at h ⊢;split at h<;>first|exact⟨_,h,fun _ h' =>h'⟩|exact h.elim
theorem tU (T:ca)(s:St)(ty:TypeId)(m x:SV)(ok:Bool):bA (gh T s ty m x ok):=by
 intro k h;unfold gh tK at h ⊢;split at h
 · split at h
   · split at h
     · obtain⟨q1,h⟩:=aB h;split at h
       · obtain⟨q2,h3,h⟩:=aB h;obtain⟨v,h4,h5⟩:=ld _ _ _ h
         cases ok with
         |true=>exact⟨_,h4,fun k' h' =>bt q1 (bt q2 ⟨h3,h5 _ h'⟩)⟩
         |false=>exact⟨_,h4,fun k' h' =>bt q1 (bt q2 ⟨h3,h5 _ h'⟩)⟩
       · exact h.elim
     · obtain⟨q1,h⟩:=aB h;split at h
       · obtain⟨q2,h3,h⟩:=aB h;obtain⟨v,h4,h5⟩:=ld _ _ _ h
         cases ok with
         |true=>exact⟨_,h4,fun k' h' =>bt q1 (bt q2 ⟨h3,h5 _ h'⟩)⟩
         |false=>exact⟨_,h4,fun k' h' =>bt q1 (bt q2 ⟨h3,h5 _ h'⟩)⟩
       · exact h.elim
     · exact h.elim
   · exact h.elim
 · exact h.elim
theorem iC {P : Program}{T:ca}{C:List Nat}{o:Oper}{s:St}{av:List Nat}{k:cK→Prop}(hq:aZ C o=true)(h:cV P T C o s av k):
 ∃u,k u∧QO o s u∧∀av' k',k' u→cV P T C o s av' k':=by
 have pure:Ab T o s (fun v=>k ⟨o.dst,v,[],[]⟩)→∃u,k u∧QO o s u∧∀ (k':cK→Prop),k' u→Ab T o s (fun v=>k' ⟨o.dst,v,[],[]⟩):=by
  intro h;obtain⟨v,h1,h2⟩:=sj T o s _ h;exact⟨_,h1,⟨rfl,.inl ⟨rfl,rfl⟩⟩,fun k' h' =>h2 _ h'⟩
 unfold cV at h ⊢;split at h
 · unfold s5 at h ⊢;split at h
   · obtain⟨u,h1,⟨h2,h3⟩,h4⟩:=j7 h;exact⟨u,h1,⟨h2,.inr h3⟩,fun _ k' h' =>h4 k' h'⟩
   · exact h.elim
 · obtain⟨u,h1,⟨h2,h3⟩,h4⟩:=j7 h;exact⟨u,h1,⟨h2,.inr h3⟩,fun _ k' h' =>h4 k' h'⟩
 · rename_i ty n ps ho;unfold ed at h ⊢;simp only[iM]at h ⊢;split at h
   · split at h
     · rename_i sz by' z zq hte;generalize hbb:(Nat.beq z.cells.size sz&&Nat.ble 1 sz&&Nat.beq (ps.toList.map fun p=>(p.1,s.ev p.2)).length n&&Nat.ble (n*sz) 16777216)=bb at h ⊢
       cases bb with
       |false=>exact h.elim
       | true=>
         simp only[br]at h ⊢;split at h
         · rename_i rows hrows
           cases hm:iz C o.dst with
           | false=>
             rw[hm]at h
             exact⟨_,h,⟨rfl,.inl ⟨rfl,rfl⟩⟩,fun _ k' h' =>h'⟩
           | true=>
             rw[hm]at h
             cases hd:o.dst with
             |none=>rw[hd]at h;exact h.elim
             | some d=>
               rw[hd]at h;simp only at h ⊢
               cases hu:s.used d with
               |true=>rw[hu]at h;exact h.elim
               | false=>
                 rw[hu]at h;exact⟨_,h,⟨hd.symm,.inr ⟨d,_,hd,rfl,rfl⟩⟩,fun _ k' h' =>h'⟩
         · exact h.elim
     · exact h.elim
   · exact h.elim
 · unfold iV at h ⊢;split at h
   · rename_i d ht hd;split at h
     · rename_i te hte;split at h
       · rename_i zr kl n kc m hzr hl hc;generalize hbb:(Nat.beq zr.length te.size&&Nat.ble 1 te.size&& !s.used d)=bb at h ⊢
         cases bb with
         |false=>exact h.elim
         | true=>
           simp only[br]at h ⊢;exact⟨_,h.2,⟨hd.symm,.inr ⟨d,_,hd,rfl,rfl⟩⟩,fun _ k' h' =>⟨h.1,h'⟩⟩
       · exact h.elim
     · exact h.elim
   · exact h.elim
 · rename_i ho;simp[aZ,ho]at hq
 · rename_i c ho;split at h
   · rename_i hc;simp[aZ,ho,hc]at hq
   · rename_i hc;simp[aZ,ho,hc]at hq
   · rename_i hc;simp[aZ,ho,hc]at hq
   · obtain⟨u,h1,h2,h3⟩:=pure h;exact⟨u,h1,h2,fun _ k' h' =>h3 k' h'⟩
 · rename_i ho;simp only[aZ,ho,Bool.not_eq_true']at hq;split at h
   · split at h
     · rw[hq]at h;simp only[br]at h;obtain⟨u,h1,h2,h3⟩:=yH h;refine⟨u,h1,⟨h2.1,.inl h2.2⟩,fun _ k' h' => ?_⟩;rw[hq];simp only[br];exact h3 k' h'
     · exact h.elim
   · obtain⟨u,h1,h2,h3⟩:=pure h;exact⟨u,h1,h2,fun _ k' h' =>h3 k' h'⟩
 · rename_i ho;simp only[aZ,ho,Bool.not_eq_true']at hq;rw[hq]at h;simp only[br]at h;obtain⟨v,h1,h2⟩:=tU _ _ _ _ _ _ _ h;refine⟨_,h1,⟨rfl,.inl ⟨rfl,rfl⟩⟩,fun _ k' h' => ?_⟩;rw[hq];simp only[br];exact h2 _ h'
 · rename_i ho;simp[aZ,ho]at hq
 · rename_i ho;simp[aZ,ho]at hq
 · rename_i ho;simp[aZ,ho]at hq
 · obtain⟨u,h1,h2,h3⟩:=pure h;exact⟨u,h1,h2,fun _ k' h' =>h3 k' h'⟩
end Go.Eng
namespace Go.Eng
open Go
def rn:List SV→List Nat
 | []=> []
 | .buf d::l=>d::rn l
 |_::l=>rn l
theorem pg:∀ {l:List SV} {d:Nat},SV.buf d ∈ l→d ∈ rn l:=by
 intro l
 induction l with
 |nil=>intro d h;cases h
 | cons x l ih=>
   intro d h;rcases List.mem_cons.1 h with q|q
   · subst q;simp[rn]
   · cases x<;>simp[rn,ih q]
def iA (s:St)(x:SV):List Nat:=
 match x with
 | .ptr d off=>d::(match s.res d with|some (.cells _ l)=>rn ((l.drop off).take 1)|_=> [])
 | .buf d=> [d]
 | .bel d _ _ _=> [d]
 | .mp d=> [d]
 | .sub d _ _ _=> [d]
 | .agg l=>rn l
 | .tup l=>rn l
 | .fn _ caps=>rn caps
 |_=> []
def mX:List Operand→List Nat
 | []=> []
 | .tmp t::l=>t::mX l
 |_::l=>mX l
theorem g9:∀ {l:List Operand} {t:Nat},Operand.tmp t ∈ l→t ∈ mX l:=by
 intro l
 induction l with
 |nil=>intro t h;cases h
 | cons x l ih=>
   intro t h;rcases List.mem_cons.1 h with q|q
   · subst q;simp[mX]
   · cases x<;>simp[mX,ih q]
def eo (o:Oper):List Nat:=mX o.op.operands.toList
def fk (s:St):List Nat→List Nat
 | []=> []
 |t::l=>iA s (s.tmps t)++fk s l
theorem mZ {s:St}:∀ {l:List Nat} {t n:Nat},t ∈ l→n ∈ iA s (s.tmps t)→n ∈ fk s l:=by
 intro l
 induction l with
 |nil=>intro t n h;cases h
 | cons x l ih=>
   intro t n h hn;simp only[fk,List.mem_append];rcases List.mem_cons.1 h with q|q
   · subst q;exact .inl hn
   · exact .inr (ih q hn)
def iT (o:Oper):Bool:=match o.op with| .move _=>true| .assign _=>true|_=>false
def yC (o:Oper):Bool:=
 match o.op with
 | .call c=>match c.callee with
   | .builtin .append=>true
   |_=>false
 |_=>false
def reads (o:Oper)(s:St):List Nat:=bif iT o then []else bif yC o then 999999::fk s (eo o)else fk s (eo o)
theorem GD {o:Oper}{s:St}(hm:iT o=false){n:Nat}(h:n ∈ fk s (eo o)):n ∈ reads o s:=by
 unfold reads;rw[hm]
 cases yC o with
 |false=>exact h
 |true=>exact List.mem_cons_of_mem _ h
structure rj (o:Oper)(s s':St):Prop where
 tm:∀t ∈ eo o,s'.tmps t=s.tmps t
 rs:∀n ∈ reads o s,s'.res n=s.res n
structure qg (o:Oper)(s s':St):Prop where
 tm:∀t ∈ eo o,s'.tmps t=s.tmps t
 rs:∀n ∈ fk s (eo o),s'.res n=s.res n
section
variable {P:Program} {T:ca} {C:List Nat} {o:Oper} {s s':St}
theorem rj.full (h:rj o s s')(hm:iT o=false):qg o s s':=⟨h.tm,fun n hn=>h.rs n (GD hm hn)⟩
theorem m6 (h:∀t ∈ eo o,s'.tmps t=s.tmps t){x:Operand}(hx:x ∈ o.op.operands.toList):s'.raw x=s.raw x:=by
 cases x<;>try rfl
 exact h _ (g9 hx)
theorem oJ {y:SV}(h:∀d,y= .buf d→s'.res d=s.res d):s'.norm y=s.norm y:=by
 unfold St.norm;cases y<;>try rfl
 dsimp only
 rw[h _ rfl]
theorem bg (h:qg o s s'){x:Operand}(hx:x ∈ o.op.operands.toList):s'.ev x=s.ev x:=by
 cases x<;>try rfl
 rename_i t;have ht:=g9 hx;simp only[St.ev,St.look];rw[h.tm t ht];refine oJ (fun d hd=>h.rs d (mZ ht ?_));rw[hd];simp[iA]
theorem jA (h:qg o s s'){x:Operand}(hx:x ∈ o.op.operands.toList):∀n ∈ iA s (s.ev x),s'.res n=s.res n:=by
 intro n hn
 cases x with
 | tmp t=>
   have ht:=g9 hx;simp only[St.ev,St.look]at hn;refine h.rs n (mZ ht ?_);generalize s.tmps t=y at hn;unfold St.norm at hn;cases y<;>try exact hn
   rename_i d;simp only at hn;split at hn
   · simp[iA]at hn
   · exact hn
 | const v=>
   simp only[St.ev]at hn;unfold Mu at hn;split at hn
   · rename_i cs
     cases hc:cs.toList.all (·.oneCell')with
     |false=>rw[hc]at hn;simp[iA]at hn
     | true=>
       rw[hc]at hn;simp only[cond_true,iA]at hn;exfalso
       have:∀l:List Value,rn (l.map fun c=>SV.d (wL c))= []:=by
        intro l;induction l with
        |nil=>rfl
        |cons c l ih=>simpa [rn]using ih
       rw[this]at hn;cases hn
   · simp[iA]at hn
   · simp[iA]at hn
 |func f=>simp[St.ev,iA,rn]at hn
 |global g=>simp[St.ev,iA]at hn
theorem js {agg:Bool}{size:Nat}{l:List SV}{k:SV→Prop}(h:∀d,SV.buf d ∈ l.take 1→s'.res d=s.res d)(hk:lG s agg size l k):lG s' agg size l k:=by
 unfold lG at hk ⊢;split at hk
 · exact hk
 · split at hk
   · rename_i y r;rw[oJ (s:=s) (s':=s') (fun d hd=>h d (by rw[hd];simp))];exact hk
   · exact hk.elim
theorem yW {ty:TypeId}{x:SV}{k:SV→Prop}(h:∀n ∈ iA s x,s'.res n=s.res n)(hk:pK T s ty x k):pK T s' ty x k:=by
 unfold pK at hk ⊢;split at hk
 · exact hk.elim
 · split at hk
   · rename_i d off;have hd:=h d (by simp[iA]);simp only[hd];split at hk
     · rename_i e l hr;refine js (s:=s) (fun n hn=>h n ?_) hk;simp only[iA,hr,List.mem_cons];exact .inr (pg hn)
     · exact hk.elim
   · refine js (s:=s) (fun n hn=> ?_) hk;have hn:=List.mem_of_mem_take hn;rw[List.mem_map]at hn;obtain⟨q,_,hq⟩:=hn;cases hq
   · rename_i d kk i off;have hd:=h d (by simp[iA]);simp only[hd];split at hk
     · obtain⟨h1,h2,h3⟩:=aB hk;refine bt h1 ⟨h2,js (s:=s) (fun n hn=> ?_) h3⟩;have hn:=List.mem_of_mem_take hn;rw[List.mem_map]at hn;obtain⟨q,_,hq⟩:=hn;cases hq
     · exact hk.elim
   · exact hk.elim
theorem wF {ty:TypeId}{x:SV}{f:Nat}{k:SV→Prop}(h:∀n ∈ iA s x,s'.res n=s.res n)(hk:mb T s ty x f k):mb T s' ty x f k:=by
 unfold mb at hk ⊢;split at hk
 · exact hk.elim
 · split at hk
   · rename_i l;exact js (s:=s) (fun n hn=>h n (by simp only[iA];exact pg (List.mem_of_mem_drop (List.mem_of_mem_take hn)))) hk
   · exact hk.elim
theorem t7 {x:SV}{i:Nat}{k:SV→Prop}(h:∀n ∈ iA s x,s'.res n=s.res n)(hk:gW s x i k):gW s' x i k:=by
 unfold gW at hk ⊢;split at hk
 · rename_i l;split at hk
   · rename_i y r hr;rw[oJ (s:=s) (s':=s') (fun d hd=>h d ?_)]
     · exact hk
     · simp only[iA];refine pg (List.mem_of_mem_drop (i:=i) ?_);rw[hr,hd];exact List.mem_cons_self
   · exact hk.elim
 · exact hk.elim
theorem p8 {ty:TypeId}{x i:SV}{k:SV→Prop}(h:∀n ∈ iA s x,s'.res n=s.res n)(hk:eN T s ty x i k):eN T s' ty x i k:=by
 unfold eN at hk ⊢;split at hk
 · split at hk
   · split at hk
     · exact hk
     · rename_i d _ j;simp only[h d (by simp[iA])];exact hk
     · exact hk
     · exact hk.elim
   · exact hk.elim
 · exact hk
 · exact hk.elim
theorem Ah {ty:TypeId}{x:SV}{k:SV→Prop}(h:∀n ∈ iA s x,s'.res n=s.res n)(hk:zL T s ty x k):zL T s' ty x k:=by
 unfold zL at hk ⊢;split at hk
 · exact hk
 · split at hk
   · exact hk
   · exact hk
   · rename_i d;simp only[h d (by simp[iA])];exact hk
   · exact hk
   · exact hk.elim
 · split at hk
   · rename_i d;simp only[h d (by simp[iA])];exact hk
   · exact hk.elim
 · exact hk.elim
theorem uu {ty:TypeId}{m x:SV}{ok:Bool}{k:SV→Prop}(h:∀n ∈ iA s m,s'.res n=s.res n)(hk:gh T s ty m x ok k):gh T s' ty m x ok k:=by
 unfold gh tK at hk ⊢;split at hk
 · split at hk
   · rename_i te d hte;rw[h d (by simp[iA])];exact hk
   · exact hk.elim
 · exact hk.elim
theorem oR (h:qg o s s'){l:List Operand}(hl:∀x ∈ l,x ∈ o.op.operands.toList):l.map s'.ev=l.map s.ev:=
 List.map_congr_left fun x hx=>bg h (hl x hx)
theorem nN (h:qg o s s'){l:List (Nat×Operand)}(hl:∀p ∈ l,p.2 ∈ o.op.operands.toList):(l.map fun p=>(p.1,s'.ev p.2))=l.map fun p=>(p.1,s.ev p.2):=
 List.map_congr_left fun p hp=>by rw[bg h (hl p hp)]
theorem ef (h:qg o s s'){x:Option Operand}(hx:∀y,x=some y→y ∈ o.op.operands.toList):x.map s'.ev=x.map s.ev:=by
 cases x with
 |none=>rfl
 |some y=>simp[bg h (hx y rfl)]
theorem nb (h:rj o s s'){k:SV→Prop}(hk:Ab T o s k):Ab T o s' k:=by
 have htm:=h.tm
 cases hm:iT o with
 | true=>
   unfold iT at hm;unfold Ab at hk ⊢;split at hm
   · rename_i x ho;rw[ho]at hk ⊢
     dsimp only at hk ⊢
     rw[m6 htm (by simp[ho,Op.operands])];exact hk
   · rename_i x ho;rw[ho]at hk ⊢
     dsimp only at hk ⊢
     rw[m6 htm (by simp[ho,Op.operands])];exact hk
   · cases hm
 |false=>
 have h:=h.full hm;have ev:=@bg o s s' h;have nm:=@jA o s s' h;unfold Ab at hk ⊢;split at hk
 · rename_i x ho;rw[m6 htm (by simp[ho,Op.operands])];exact hk
 · rename_i x ho;rw[m6 htm (by simp[ho,Op.operands])];exact hk
 · rename_i c x y ho;rw[ev (x:=c) (by simp[ho,Op.operands]),ev (x:=x) (by simp[ho,Op.operands]),ev (x:=y) (by simp[ho,Op.operands])];exact hk
 · rename_i ty ps ho;rw[nN h (fun p hp=>by rw[ho];simp only[Op.operands];simpa using⟨p.1,by simpa using hp⟩)];exact hk
 · rename_i ty x ho;rw[ev (by simp[ho,Op.operands])];exact yW (nm (by simp[ho,Op.operands])) hk
 · rename_i x ho;rw[ev (by simp[ho,Op.operands])];exact hk
 · rename_i op ty x y yt ho;split at hk
   · rw[ev (x:=x) (by simp[ho,Op.operands])];exact hk
   · rename_i hny;rw[ev (x:=x) (by simp[ho,Op.operands]),ev (x:=y) (by simp[ho,Op.operands])];exact hk
 · rename_i ty x ho;rw[ev (by simp[ho,Op.operands])];exact hk
 · rename_i x xt ty ok ho;rw[ev (by simp[ho,Op.operands])];exact hk
 · rename_i op ty x ho;rw[ev (by simp[ho,Op.operands])];exact hk
 · rename_i src dst x ho;rw[ev (by simp[ho,Op.operands])];exact hk
 · rename_i fn first caps ho;rw[oR h (fun x hx=>by rw[ho];simp only[Op.operands,Array.toList_append,List.mem_append];exact .inr hx)];exact hk
 · rename_i ty x lo hi mx ho;rw[ev (by simp[ho,Op.operands]),ef h (x:=lo) (fun y hy=>by simp[ho,Op.operands,hy]),ef h (x:=hi) (fun y hy=>by simp[ho,Op.operands,hy]),ef h (x:=mx) (fun y hy=>by simp[ho,Op.operands,hy])];exact hk
 · rename_i ty x f ho;rw[ev (by simp[ho,Op.operands])];exact hk
 · rename_i ty x f ho;rw[ev (by simp[ho,Op.operands])];exact wF (nm (by simp[ho,Op.operands])) hk
 · rename_i ty x i ho;rw[ev (x:=x) (by simp[ho,Op.operands]),ev (x:=i) (by simp[ho,Op.operands])];exact p8 (nm (by simp[ho,Op.operands])) hk
 · rename_i ty x i ho;rw[ev (x:=x) (by simp[ho,Op.operands]),ev (x:=i) (by simp[ho,Op.operands])];exact hk
 · rename_i x i ho;rw[ev (by simp[ho,Op.operands])];exact t7 (nm (by simp[ho,Op.operands])) hk
 · rename_i c ho;split at hk
   · rename_i x ty hc ha hty;have hx:x ∈ o.op.operands.toList:=by simp[ho,Op.operands,Call.operands,hc,ha]
     rw[ev hx];exact Ah (nm hx) hk
   · rename_i x y hc ha;have hx:x ∈ o.op.operands.toList:=by simp[ho,Op.operands,Call.operands,hc,ha]
     have hy:y ∈ o.op.operands.toList:=by simp[ho,Op.operands,Call.operands,hc,ha]
     rw[ev hx,ev hy];exact hk
   · rename_i x y hc ha;have hx:x ∈ o.op.operands.toList:=by simp[ho,Op.operands,Call.operands,hc,ha]
     have hy:y ∈ o.op.operands.toList:=by simp[ho,Op.operands,Call.operands,hc,ha]
     rw[ev hx,ev hy];exact hk
   · rename_i x y z u hc ha;have hx:x ∈ o.op.operands.toList:=by simp[ho,Op.operands,Call.operands,hc,ha]
     have hy:y ∈ o.op.operands.toList:=by simp[ho,Op.operands,Call.operands,hc,ha]
     have hz:z ∈ o.op.operands.toList:=by simp[ho,Op.operands,Call.operands,hc,ha]
     have hu:u ∈ o.op.operands.toList:=by simp[ho,Op.operands,Call.operands,hc,ha]
     rw[ev hx,ev hy,ev hz,ev hu];exact hk
   · rename_i x y z u hc ha;have hx:x ∈ o.op.operands.toList:=by simp[ho,Op.operands,Call.operands,hc,ha]
     have hy:y ∈ o.op.operands.toList:=by simp[ho,Op.operands,Call.operands,hc,ha]
     have hz:z ∈ o.op.operands.toList:=by simp[ho,Op.operands,Call.operands,hc,ha]
     have hu:u ∈ o.op.operands.toList:=by simp[ho,Op.operands,Call.operands,hc,ha]
     rw[ev hx,ev hy,ev hz,ev hu];exact hk
   · exact hk.elim
 · exact hk.elim
theorem ya {f:FuncId}{dst:Option Nat}{args:List SV}{av:List Nat}{k:cK→Prop}(h:dQ P f dst args s av k):∀ {s':St} {av':List Nat} {k':cK→Prop},
 (∀c,mem av c=false→s'.res c=s.res c∧s'.used c=s.used c)→(∀c,mem av (c+1099511627776)=false→s'.res c=s.res c)→(∀d,SV.buf d ∈ args→s'.res d=s.res d)→(∀n,mem av' n=true→mem av n=true)→
 (∀u,k u→u.dst=dst→(∀n,mem av n=true→(∀x,aQ u.rs n x=x)∧mem u.us n=false)→k' u)→dQ P f dst args s' av' k':=by
 have hf:∀ {av av':List Nat} {c:Nat},(∀n,mem av' n=true→mem av n=true)→mem av c=false→mem av' c=false:=by
  intro av av' c h hc
  cases hq:mem av' c with
  |false=>rfl
  |true=>rw[h c hq]at hc;cases hc
 induction h with
 | call args s av k ρ sargs rin post hs hok hlen ha hr hro hav hk=>
   intro s' av' k' h1 hb1 h2 h3 h4;refine .call args s' av' k' ρ sargs rin post hs hok hlen ha (fun d r hd=> ?_) (fun d c hc hl=> ?_) (fun d c hc=>hf h3 (hav d c hc)) (fun x rout hp=> ?_)
   · obtain⟨c,r0,q1,q2,q3⟩:=hr d r hd;exact⟨c,r0,q1,by rw[(h1 c (hav d c q1)).1];exact q2,q3⟩
   · rw[(h1 c (hav d c hc)).2];exact hro d c hc hl
   · obtain⟨q1,q2,q3⟩:=hk x rout hp;refine⟨q1,q2,h4 _ q3 rfl (fun n hn=> ?_)⟩;have hno:∀d,(d,n) ∉ ρ:=fun d hd=>by rw[hav d n (rO hok hd)]at hn;cases hn
     refine⟨fun x=>iZ hno,?_⟩
     cases hq:mem (ρ.map (·.2)) n with
     |false=>rfl
     | true=>
       rw[mem_iff,List.mem_map]at hq;obtain⟨p,hp,rfl⟩:=hq
       exact absurd hp (hno p.1)
 | peek args s av k ρ sargs rin y hs hok hlen ha hr hra hav hy hrk hk=>
   intro s' av' k' h1 hb1 h2 h3 h4
   exact .peek args s' av' k' ρ sargs rin y hs hok hlen ha (fun d r hd=>by
    obtain⟨c,q1,q2⟩:=hr d r hd
    exact⟨c,q1,by rw[hb1 c (hav d c q1)];exact q2⟩) hra (fun d c hc=>hf h3 (hav d c hc)) hy hrk (h4 _ hk rfl (fun n hn=>⟨fun x=>rfl,rfl⟩))
 | freeze args s av k d e kk n g hd hav h0 ih=>
   intro s' av' k' h1 hb1 h2 h3 h4;have hd':s'.res d=some (.buf e kk n g):=by rw[(h1 d hav).1];exact hd
   have hsame:∀c,s'.res c=s.res c→(s'.app ⟨none,.any,[(d,some (.fro kk n g))],[]⟩).res c=(s.app ⟨none,.any,[(d,some (.fro kk n g))],[]⟩).res c:=by
    intro c hc;simp only[St.app,aD,aQ,hc]
   refine .freeze args s' av' k' d e kk n g hd' (hf h3 hav) ?_;refine ih (fun c hc=>⟨hsame c (h1 c hc).1,(h1 c hc).2⟩) (fun c hc=>hsame c (hb1 c hc)) (fun c hc=> ?_) h3 (fun u hu hud hun=> ?_)
   · rw[List.mem_map]at hc;obtain⟨x,hx,hxe⟩:=hc;exact hsame c (h2 c (JA hxe ▸ hx))
   · refine h4 _ hu hud (fun m hm=>⟨fun x=> ?_,(hun m hm).2⟩);have hmd:m≠d:=fun q=>by subst q;rw[hav]at hm;cases hm
     rw[fa,(hun m hm).1];simp only[aQ]
     rw[ax hmd];rfl
 | freezeF args s av k q d e kk n X g hq hd hav hav2 h0 ih=>
   intro s' av' k' h1 hb1 h2 h3 h4;have hd':s'.res d=some (.buf e kk n g):=by rw[(h1 d hav).1];exact hd
   have hsame:∀c,s'.res c=s.res c→(s'.app ⟨none,.any,[(d,some (.fro kk n g))],[]⟩).res c=(s.app ⟨none,.any,[(d,some (.fro kk n g))],[]⟩).res c:=by
    intro c hc;simp only[St.app,aD,aQ,hc]
   have hq':s'.res q=some (.inX X):=by rw[(h1 q hav2).1];exact hq
   refine .freezeF args s' av' k' q d e kk n X g hq' hd' (hf h3 hav) (hf h3 hav2) ?_;refine ih (fun c hc=>⟨hsame c (h1 c hc).1,(h1 c hc).2⟩) (fun c hc=>hsame c (hb1 c hc)) (fun c hc=> ?_) h3 (fun u hu hud hun=> ?_)
   · rw[List.mem_map]at hc;obtain⟨x,hx,hxe⟩:=hc;exact hsame c (h2 c (Gc hxe ▸ hx))
   · refine h4 _ hu hud (fun m hm=>⟨fun x=> ?_,(hun m hm).2⟩);have hmd:m≠d:=fun q=>by subst q;rw[hav]at hm;cases hm
     rw[fa,(hun m hm).1];simp only[aQ];rw[ax hmd];rfl
end
end Go.Eng
namespace Go.Eng
open Go
def kY (o:Oper):Bool:=
 match o.op with
 | .alloc _=>true
 | .box .. =>true
 | .buildSlice .. =>true
 | .makeSlice .. =>true
 |_=>false
section
variable {P:Program} {T:ca} {C:List Nat} {o:Oper} {s s':St}
theorem lF {dst:Option Nat}{ty:TypeId}{l:Option (List SV)}{k:cK→Prop}(hu:∀d,dst=some d→s'.used d=s.used d)(h:dU dst s ty l k):dU dst s' ty l k:=by
 unfold dU at h ⊢;split at h
 · rename_i d l;rw[hu d rfl];exact h
 · exact h.elim
theorem re (h :rj o s s')(hu:kY o=true→∀d,o.dst=some d→s'.used d=s.used d)(hq:aZ C o=true){av av':List Nat}{k:cK→Prop}(hk:cV P T C o s av k):cV P T C o s' av' k:=by
 unfold cV at hk ⊢;split at hk
 · rename_i ty ho;have hf:=h.full (by simp[iT,ho]);have hu:=hu (by simp[kY,ho]);unfold s5 at hk ⊢;split at hk
   · exact lF hu hk
   · exact hk.elim
 · rename_i ty x ho;have hf:=h.full (by simp[iT,ho]);have hu:=hu (by simp[kY,ho]);unfold Mn at hk ⊢;rw[bg hf (by simp[ho,Op.operands])];exact lF hu hk
 · rename_i ty n ps ho;have hf:=h.full (by simp[iT,ho]);have hu:=hu (by simp[kY,ho]);rw[nN hf (fun p hp=>by rw[ho];simp only[Op.operands];simpa using⟨p.1,by simpa using hp⟩)];unfold ed at hk ⊢;simp only[iM]at hk ⊢;split at hk
   · split at hk
     · rename_i sz by' z zq hte;generalize (Nat.beq z.cells.size sz&&Nat.ble 1 sz&&Nat.beq (ps.toList.map fun p=>(p.1,s.ev p.2)).length n&&Nat.ble (n*sz) 16777216)=bb at hk ⊢
       cases bb with
       |false=>exact hk
       | true=>
         simp only[br]at hk ⊢;split at hk
         · rename_i rows hrows
           cases hm:iz C o.dst with
           |false=>rw[hm]at hk;exact hk
           | true=>
             rw[hm]at hk
             cases hd:o.dst with
             |none=>rw[hd]at hk;exact hk.elim
             |some d=>rw[hd]at hk;simp only at hk ⊢;rw[hu d hd];exact hk
         · exact hk.elim
     · exact hk.elim
   · exact hk.elim
 · rename_i ty l c ho;have hf:=h.full (by simp[iT,ho]);have hu:=hu (by simp[kY,ho]);rw[bg hf (x:=l) (by simp[ho,Op.operands]),bg hf (x:=c) (by simp[ho,Op.operands])];unfold iV at hk ⊢;split at hk
   · rename_i d ht hd;split at hk
     · split at hk
       · rw[hu d hd];exact hk
       · exact hk.elim
     · exact hk.elim
   · exact hk.elim
 · rename_i ho;simp[aZ,ho]at hq
 · rename_i c ho;have hf:=h.full (by simp[iT,ho]);split at hk
   · rename_i hc;simp[aZ,ho,hc]at hq
   · rename_i hc;simp[aZ,ho,hc]at hq
   · rename_i hc;simp[aZ,ho,hc]at hq
   · exact nb h hk
 · rename_i ty x lo hi mx ho;have hf:=h.full (by simp[iT,ho]);have hx:x ∈ o.op.operands.toList:=by simp[ho,Op.operands]
   rw[bg hf hx];simp only[aZ,ho,Bool.not_eq_true']at hq;have hlo:∀y,lo=some y→y ∈ o.op.operands.toList:=fun y hy=>by subst hy;simp[ho,Op.operands]
   have hhi:∀y,hi=some y→y ∈ o.op.operands.toList:=fun y hy=>by subst hy;simp[ho,Op.operands]
   have hnm:=jA hf hx;split at hk
   · rename_i d hd;rw[hd]at hnm;have hr:=hnm d (by simp[iA]);split at hk
     · rw[ef hf hlo,ef hf hhi];rw[hq]at hk ⊢;simp only[br]at hk ⊢;unfold wU at hk ⊢;simp only[hr];exact hk
     · exact hk.elim
   · exact nb h hk
 · rename_i ty m x ok ho;have hf:=h.full (by simp[iT,ho]);have hm:m ∈ o.op.operands.toList:=by simp[ho,Op.operands]
   simp only[aZ,ho,Bool.not_eq_true']at hq;rw[hq]at hk ⊢;simp only[br]at hk ⊢;rw[bg hf hm,bg hf (x:=x) (by simp[ho,Op.operands])];exact uu (jA hf hm) hk
 · rename_i ho;simp[aZ,ho]at hq
 · rename_i ho;simp[aZ,ho]at hq
 · rename_i ho;simp[aZ,ho]at hq
 · exact nb h hk
def PF (o:Oper)(av:List Nat)(u:cK):Prop:=u.dst=o.dst∧∀n,mem av n=true→(∀x,aQ u.rs n x=x)∧mem u.us n=false
def tM:aY→aY→Prop
 | .map ag va ks zr _ val,.mapB ag' va' ks' zr' _ val' _ _=>ag=ag'∧va=va'∧ks=ks'∧zr=zr'∧val=val'
 |_,_=>False
def Rb (o:Oper)(s:St)(av:List Nat)(u:cK):Prop:=u.dst=o.dst∧∃d r r',s.res d=some r∧tM r r'∧u.rs= [(d,some r')]∧u.us= []∧mem av (d+1099511627776)=false∧mem av (d+2199023255552)=false
theorem bh {av av':List Nat}{c:Nat}(h:∀n,mem av' n=true→mem av n=true)(hc:mem av c=false):mem av' c=false:=by
 cases hq:mem av' c with
 |false=>rfl
 |true=>rw[h c hq]at hc;cases hc
theorem bx {av:List Nat}{c n:Nat}(hc:mem av c=false)(hn:mem av n=true):n≠c:=fun q=>by subst q;rw[hc]at hn;cases hn
theorem DH {lo hi:Option SV}{n:Nat}{F F':Int→Int→Prop}(hF:∀j h,F j h→F' j h)(h:qq lo hi n F):qq lo hi n F':=by
 have bm:∀ {x:Option SV} {d:Int} {K K':Int→Prop},(∀i,K i→K' i)→iK x d K→iK x d K':=by
  intro x d K K' hK hb;unfold iK at hb ⊢;split at hb<;>first|exact hK _ hb|exact hb.elim
 exact bm (fun k hk=>bm (fun j hj=>hF j k hj) hk) h
theorem lw (h : rj o s s')(hu:∀d,o.dst=some d→s'.used d=s.used d){av av':List Nat}(hq:aZ C o=false)
 (hc:r7 o=true→∀c,mem av c=false→s'.res c=s.res c∧s'.used c=s.used c)(hc2:r7 o=true→∀c,mem av (c+1099511627776)=false→s'.res c=s.res c)(hav:∀n,mem av' n=true→mem av n=true)
 {k k':cK→Prop}(hkk0:∀u,k u→PF o av u∨Rb o s' av u→k' u)(hk:cV P T C o s av k):cV P T C o s' av' k':=by
 have hkk:∀u,k u→PF o av u→k' u:=fun u a b=>hkk0 u a (.inl b)
 unfold cV at hk ⊢;split at hk
 · rename_i ho;simp[aZ,ho]at hq
 · rename_i ho;simp[aZ,ho]at hq
 · rename_i ho;simp[aZ,ho]at hq
 · rename_i ho;simp[aZ,ho]at hq
 · rename_i ty p x ho;have hf:=h.full (by simp[iT,ho]);have hp:p ∈ o.op.operands.toList:=by simp[ho,Op.operands]
   have hx:x ∈ o.op.operands.toList:=by simp[ho,Op.operands]
   have hnm:=jA hf hp;rw[bg hf hp,bg hf hx];unfold wN at hk ⊢;split at hk
   · rename_i ti cs ht hfl;obtain⟨h1,hk⟩:=aB hk;refine bt h1 ?_;split at hk
     · rename_i d off hpe;rw[hpe]at hnm;have hd:=hnm d (by simp[iA]);obtain⟨h2,hk⟩:=bS hk;refine j8 (bh hav h2) ?_;rw[hd];split at hk
       · rename_i e l hr;obtain⟨h3,hk⟩:=aB hk;refine bt h3 (hkk _ hk ⟨rfl,fun n hn=>⟨fun y=> ?_,rfl⟩⟩);simp only[aQ];rw[ax (bx h2 hn)];rfl
       · exact hk.elim
     · rename_i d kk i off hpe;rw[hpe]at hnm;have hd:=hnm d (by simp[iA]);obtain⟨h2,hk⟩:=bS hk;refine j8 (bh hav h2) ?_;rw[hd];split at hk
       · rename_i e kk' n get ds hr hds;obtain⟨h3,h4,hk⟩:=aB hk;refine bt h3 ⟨h4,hkk _ hk ⟨rfl,fun n hn=>⟨fun y=> ?_,rfl⟩⟩⟩;simp only[aQ];rw[ax (bx h2 hn)];rfl
       · rename_i n get m hr hds;obtain⟨h3,h4,hk⟩:=aB hk;refine bt h3 ⟨h4,hkk _ hk ⟨rfl,fun n hn=>⟨fun y=> ?_,rfl⟩⟩⟩;simp only[aQ];rw[ax (bx h2 hn)];rfl
       · exact hk.elim
     · exact hk.elim
   · exact hk.elim
 · rename_i c ho;have hf:=h.full (by simp[iT,ho]);split at hk
   · rename_i f hcc;have hfo:f ∈ o.op.operands.toList:=by simp[ho,Op.operands,Call.operands,hcc]
     have hargs:∀x ∈ c.args.toList,x ∈ o.op.operands.toList:=fun x hx=>by
      rw[ho];simp only[Op.operands,Call.operands,hcc,Array.toList_append,List.mem_append];exact .inr hx
     rw[bg hf hfo,oR hf hargs];have hnm:=jA hf hfo;unfold Ha at hk ⊢;split at hk
     · rename_i g caps hfe;rw[hfe]at hnm;refine ya hk (hc (by simp[r7,ho,hcc])) (hc2 (by simp[r7,ho,hcc])) (fun d hd=> ?_) hav (fun u hu1 hu2 hu3=>hkk u hu1 ⟨hu2,hu3⟩);rcases List.mem_append.1 hd with q|q
       · rw[List.mem_map]at q;obtain⟨x,hx,hxe⟩:=q;exact jA hf (hargs x hx) d (by rw[hxe];simp[iA])
       · exact hnm d (by simp only[iA];exact pg q)
     · exact hk.elim
   · rename_i hcc;split at hk
     · rename_i x y ty ty2 ha hty;have hx:x ∈ o.op.operands.toList:=by simp[ho,Op.operands,Call.operands,hcc,ha]
       have hy:y ∈ o.op.operands.toList:=by simp[ho,Op.operands,Call.operands,hcc,ha]
       obtain⟨h1,hk⟩:=aB hk;refine bt h1 ?_;rw[bg hf hx,bg hf hy];have hnm:=jA hf hx;have hbn:s'.res 999999=s.res 999999:=h.rs 999999 (by simp[reads,iT,yC,ho,hcc])
       have all:∀ {k k':cK→Prop},(∀u,k u→PF o av u→k' u)→lW T o.dst s av ty (s.ev x) (s.ev y) k→lW T o.dst s' av' ty (s.ev x) (s.ev y) k':=by
        intro k k' hkk hk;unfold lW at hk ⊢;split at hk
        · rename_i e _ _ _ _ d ht hd;split at hk
          · rename_i de sz by' z zq hte;obtain⟨hb,hk⟩:=aB hk;simp only[Bool.and_eq_true,Bool.not_eq_true']at hb;obtain⟨⟨⟨⟨b1,b2⟩,b3⟩,b4⟩,b5⟩:=hb;refine bt (by simp only[Bool.and_eq_true,Bool.not_eq_true'];exact⟨⟨⟨⟨b1,b2⟩,b3⟩,(hu d hd).trans b4⟩,bh hav b5⟩) ?_
            have src:∀ {F F':Nat→(Nat→List DV)→Prop},(∀m hh,F m hh→F' m hh)→ma sz (s.ev y) F→ma sz (s.ev y) F':=by
             intro F F' hF hs;unfold ma at hs ⊢;split at hs
             · exact hF _ _ hs
             · obtain⟨q1,q2⟩:=aB hs;exact bt q1 (hF _ _ q2)
             · exact hs.elim
            unfold rP at hk ⊢;split at hk
            · rename_i hxe;refine src (fun m hh hq=>⟨hq.1,hkk _ hq.2 ⟨hd.symm,fun n hn=>⟨fun y=> ?_,?_⟩⟩⟩) hk
              · simp only[aQ];rw[ax (bx b5 hn)];rfl
              · simp only[mem];rw[ax (bx b5 hn)];rfl
            · rename_i d' hxe;rw[hxe]at hnm;have hd':=hnm d' (by simp[iA]);rw[hd'];split at hk
              · rename_i e' kk n g hr;obtain⟨hq,hk⟩:=aB hk;simp only[Bool.and_eq_true,Bool.not_eq_true']at hq;refine bt (by simp only[Bool.and_eq_true,Bool.not_eq_true'];exact⟨hq.1,bh hav hq.2⟩) ?_;refine src (fun m hh hq' =>⟨hq'.1,hkk _ hq'.2 ⟨hd.symm,fun n hn=>⟨fun y=> ?_,?_⟩⟩⟩) hk
                · simp only[aQ];rw[ax (bx b5 hn),ax (bx hq.2 hn)];rfl
                · simp only[mem];rw[ax (bx b5 hn)];rfl
              · exact hk.elim
            · rename_i v hxe;rw[hbn];split at hk
              · rename_i e' kk l hr;obtain⟨hq,l1,n,g,l2,hl,hk⟩:=aB hk;simp only[Bool.and_eq_true,Bool.not_eq_true']at hq;refine bt (by simp only[Bool.and_eq_true,Bool.not_eq_true'];exact⟨hq.1,bh hav hq.2⟩) ⟨l1,n,g,l2,hl,?_⟩;refine src (fun m hh hq' =>⟨hq'.1,hkk _ hq'.2 ⟨hd.symm,fun n hn=>⟨fun y=> ?_,?_⟩⟩⟩) hk
                · simp only[aQ];rw[ax (bx b5 hn),ax (bx hq.2 hn)];rfl
                · simp only[mem];rw[ax (bx b5 hn)];rfl
              · exact hk.elim
            · exact hk.elim
          · exact hk.elim
        · exact hk.elim
       unfold rX at hk ⊢;split at hk
       · rename_i v hxv;rw[hxv]at all;refine all (fun u hu hf=> ?_) hk;unfold JB at hu ⊢;split at hu
         · rename_i d d1 d2 e sz m g q e' kk l us;obtain⟨hb,hu⟩:=aB hu;refine bt hb (fun v' =>hkk _ (hu v') ?_);simp only[Bool.and_eq_true,Bool.not_eq_true']at hb;obtain⟨⟨⟨⟨⟨b1,b2⟩,b3⟩,b4⟩,b5⟩,b6⟩:=hb;obtain rfl:=Nat.eq_of_beq_eq_true b2;obtain rfl:=Nat.eq_of_beq_eq_true b3;refine⟨hf.1,fun n hn=>⟨fun y=> ?_,(hf.2 n hn).2⟩⟩;have e1:¬n=d2:=fun c=>by have:=(hf.2 n hn).1 none;subst c;simp[aQ]at this
           have e2:¬n=999999:=fun c=>by have:=(hf.2 n hn).1 none;simp only[aQ]at this;rw[ax e1]at this;subst c;simp at this
           simp only[aQ];rw[ax e2,ax e1];rfl
         · exact hu.elim
       · exact all hkk hk
     · exact hk.elim
   · rename_i hcc;split at hk
     · rename_i x y ty ty2 ha hty;have hx:x ∈ o.op.operands.toList:=by simp[ho,Op.operands,Call.operands,hcc,ha]
       have hy:y ∈ o.op.operands.toList:=by simp[ho,Op.operands,Call.operands,hcc,ha]
       have hnm:=jA hf hx;rw[bg hf hx,bg hf hy];unfold wZ at hk ⊢;split at hk
       · rename_i d hme;rw[hme]at hnm;have hrd:=hnm d (by simp[iA]);obtain⟨h1,hk⟩:=bS hk;refine j8 (bh hav h1) ?_;unfold pE pF at hk ⊢;split at hk
         · split at hk
           · rename_i te d' hte he1;cases he1;rw[hrd];split at hk
             · obtain⟨hb,hk⟩:=aB hk;refine bt hb ?_;split at hk
               · obtain⟨hb2,hk⟩:=aB hk;refine bt hb2 (hkk _ hk ⟨rfl,fun n' hn' =>⟨fun y=> ?_,rfl⟩⟩);simp only[aQ];rw[ax (bx h1 hn')];rfl
               · exact hk.elim
             · exact hk.elim
           · exact hk.elim
         · exact hk.elim
       · exact hk.elim
     · exact hk.elim
   · rename_i h1 h2 h3;exfalso
     unfold Ab at hk;simp only[ho]at hk;split at hk
     · rename_i hcc _ _;simp[aZ,ho,hcc]at hq
     · rename_i hcc _;simp[aZ,ho,hcc]at hq
     · rename_i hcc _;simp[aZ,ho,hcc]at hq
     · rename_i hcc _;simp[aZ,ho,hcc]at hq
     · rename_i hcc _;simp[aZ,ho,hcc]at hq
     · exact hk
 · rename_i ty x lo hi mx ho;have hf:=h.full (by simp[iT,ho]);have hx:x ∈ o.op.operands.toList:=by simp[ho,Op.operands]
   have hlo:∀y,lo=some y→y ∈ o.op.operands.toList:=fun y hy=>by subst hy;simp[ho,Op.operands]
   have hhi:∀y,hi=some y→y ∈ o.op.operands.toList:=fun y hy=>by subst hy;simp[ho,Op.operands]
   have hnm:=jA hf hx;rw[bg hf hx];split at hk
   · rename_i d hd;rw[hd]at hnm;have hr:=hnm d (by simp[iA]);split at hk
     · rw [ef hf hlo,ef hf hhi];have hmut:iz C o.dst=true:=by simpa [aZ,ho]using hq
       rw[hmut]at hk ⊢;simp only[br]at hk ⊢;obtain⟨h1,hk⟩:=aB hk;simp only[Bool.not_eq_true',Bool.or_eq_false_iff]at h1;refine bt ?_ ?_
       · simp only[Bool.not_eq_true',Bool.or_eq_false_iff];refine⟨bh hav h1.1,?_⟩
         cases hd':o.dst with
         |none=>rfl
         |some d' =>rw[hd']at h1;exact bh hav h1.2
       · unfold pP at hk ⊢;rw[hr];split at hk
         · rename_i e kk n g d' hres hdst;obtain⟨hq',hk⟩:=aB hk;rw[hu d' hdst];rw[hdst]at h1;refine bt hq' (DH (fun j hh hj=>⟨hj.1,hkk _ hj.2 ⟨hdst.symm,fun n hn=>⟨fun y=> ?_,?_⟩⟩⟩) hk)
           · simp only[aQ];rw[ax (bx h1.2 hn),ax (bx h1.1 hn)];rfl
           · simp only[mem];rw[ax (bx h1.2 hn)];rfl
         · exact hk.elim
     · exact hk.elim
   · obtain⟨v,h1,h2⟩:=sj T o s _ hk;exact nb h (h2 _ (hkk _ h1 ⟨rfl,fun n hn=>⟨fun _=>rfl,rfl⟩⟩))
 · rename_i ty m x ok ho;have hf:=h.full (by simp[iT,ho]);have hm:m ∈ o.op.operands.toList:=by simp[ho,Op.operands]
   have hmut:iz C o.dst=true:=by simpa [aZ,ho]using hq
   have hnm:=jA hf hm;rw[bg hf hm,bg hf (x:=x) (by simp[ho,Op.operands])];rw[hmut]at hk ⊢;simp only[br]at hk ⊢
   cases ok with
   |true=>exact hk
   | false =>
     simp only at hk ⊢;unfold wa at hk ⊢;split at hk
     · rename_i kt vt _ _ _ _ n hty hdst;split at hk
       · rename_i te d hte hme;rw[hme]at hnm;rw[hnm d (by simp[iA])];split at hk
         · split at hk
           · obtain⟨hb,hk⟩:=aB hk;simp only[Bool.and_eq_true,Bool.not_eq_true',Bool.or_eq_false_iff]at hb;obtain⟨b1,b2,b3,b4,b5,b6,b7⟩:=hb;refine bt ?_ (hkk _ hk ⟨hdst.symm,fun n' hn' =>⟨fun y=> ?_,?_⟩⟩)
             · simp only[Bool.and_eq_true,Bool.not_eq_true',Bool.or_eq_false_iff];exact⟨b1,b2,b3,b4,(hu n hdst).trans b5,bh hav b6,bh hav b7⟩
             · simp only[aQ];rw[ax (bx b7 hn'),ax (bx b6 hn')];rfl
             · simp only[mem];rw[ax (bx b7 hn')];rfl
           · exact hk.elim
         · exact hk.elim
       · exact hk.elim
     · exact hk.elim
 · rename_i ty m key x ho;have hf:=h.full (by simp[iT,ho]);have hm:m ∈ o.op.operands.toList:=by simp[ho,Op.operands]
   have hx:x ∈ o.op.operands.toList:=by simp[ho,Op.operands]
   have hnm:=jA hf hm;have hnx:=jA hf hx;rw[bg hf hm,bg hf (x:=key) (by simp[ho,Op.operands]),bg hf hx];unfold pO at hk ⊢;split at hk
   · rename_i d hme;rw[hme]at hnm;have hrd:=hnm d (by simp[iA]);obtain⟨h1,hk⟩:=bS hk;refine j8 (bh hav h1) ?_;rw[hrd];split at hk
     · unfold Da at hk ⊢;split at hk
       · split at hk
         · rename_i d' n he1 he2;cases he1;rw[he2]at hnx;rw[hrd,hnx n (by simp[iA])];split at hk
           · split at hk
             · obtain⟨hb,hkh,hk⟩:=aB hk;simp only[Bool.and_eq_true,Bool.not_eq_true',Bool.or_eq_false_iff]at hb;obtain⟨b1,b2,b3,b4,b5,b6,b7⟩:=hb;refine bt ?_ ⟨hkh,hkk _ hk ⟨rfl,fun n' hn' =>⟨fun y=> ?_,rfl⟩⟩⟩
               · simp only[Bool.and_eq_true,Bool.not_eq_true',Bool.or_eq_false_iff];exact⟨b1,b2,b3,b4,b5,bh hav b6,bh hav b7⟩
               · simp only[aQ];rw[ax (bx b7 hn'),ax (bx b6 hn')];rfl
             · exact hk.elim
           · exact hk.elim
         · exact hk.elim
       · exact hk.elim
     · unfold i7 pF at hk ⊢;split at hk
       · split at hk
         · rename_i te d' hte he1;cases he1;rw[hrd];split at hk
           · obtain⟨hb,hk⟩:=aB hk;refine bt hb ?_;split at hk
             · obtain⟨hb2,hk⟩:=aB hk;refine bt hb2 (hkk _ hk ⟨rfl,fun n' hn' =>⟨fun y=> ?_,rfl⟩⟩);simp only[aQ];rw[ax (bx h1 hn')];rfl
             · exact hk.elim
           · exact hk.elim
         · exact hk.elim
       · exact hk.elim
   · exact hk.elim
 · rename_i ty m key ho;have hf:=h.full (by simp[iT,ho]);have hm:m ∈ o.op.operands.toList:=by simp[ho,Op.operands]
   have hnm:=jA hf hm;rw[bg hf hm,bg hf (x:=key) (by simp[ho,Op.operands])];unfold wC at hk ⊢;split at hk
   · rename_i d hme;rw[hme]at hnm;have hrd:=hnm d (by simp[iA]);obtain⟨h1,hk⟩:=bS hk;rw[Bool.or_eq_false_iff]at h1;refine j8 (by rw[Bool.or_eq_false_iff];exact⟨bh hav h1.1,bh hav h1.2⟩) ?_;unfold jW pF at hk ⊢;split at hk
     · split at hk
       · rename_i te d' hte he1;cases he1;rw[hrd];split at hk
         · rename_i ag va ks zr has val hres;obtain⟨hb,hk⟩:=aB hk;refine bt hb ?_;split at hk
           · obtain⟨hb2,hz,hk⟩:=aB hk;refine bt hb2 ⟨hz,fun clock kb b hKB hkb=> ?_⟩;obtain⟨v,hv1,hv2⟩:=ld _ _ _ (hk clock kb b hKB hkb);exact hv2 _ (hkk0 _ hv1 (.inr (by refine⟨rfl,d,_,_,hrd.trans hres,?_,rfl,rfl,h1.1,h1.2⟩;exact⟨rfl,rfl,rfl,rfl,rfl⟩)))
           · exact hk.elim
         · exact hk.elim
       · exact hk.elim
     · exact hk.elim
   · exact hk.elim
 · rename_i ty m st x ho;have hf:=h.full (by simp[iT,ho]);have hm:m ∈ o.op.operands.toList:=by simp[ho,Op.operands]
   have hnm:=jA hf hm;rw[bg hf hm,bg hf (x:=st) (by simp[ho,Op.operands]),bg hf (x:=x) (by simp[ho,Op.operands])];unfold AU at hk ⊢;split at hk
   · rename_i d hme;rw[hme]at hnm;have hrd:=hnm d (by simp[iA]);obtain⟨h1,hk⟩:=bS hk;refine j8 (bh hav h1) ?_;unfold il at hk ⊢;split at hk
     · rename_i d' n he1 he2;cases he1;rw[hrd];split at hk
       · split at hk
         · obtain⟨hb,ky,b,hkb,hk⟩:=aB hk;refine bt hb ⟨ky,b,hkb,hkk _ hk ⟨rfl,fun n' hn' =>⟨fun y=> ?_,rfl⟩⟩⟩;simp only[aQ];rw[ax (bx h1 hn')];rfl
         · exact hk.elim
       · exact hk.elim
     · exact hk.elim
   · exact hk.elim
 · rename_i n1 n2 n3 n4 n5 n6 n7 n8 n9 n10 n11;exfalso;unfold aZ at hq;split at hq
   · rename_i ho;exact n5 _ _ _ ho
   · rename_i ho;exact n7 _ _ _ _ _ ho
   · rename_i ho;exact n6 _ ho
   · rename_i ho;exact n8 _ _ _ _ ho
   · rename_i ho;exact n9 _ _ _ _ ho
   · rename_i ho;exact n10 _ _ _ ho
   · rename_i ho;exact n11 _ _ _ _ ho
   · cases hq
end
end Go.Eng
namespace Go.Eng
open Go
abbrev bv:=Nat×List Nat×List Nat
def dG (un:List Nat):List bv→List Nat
 | []=> []
 |(i,r,_)::l=>bif mem un i then r++dG un l else dG un l
def dL (un:List Nat):List bv→List Nat
 | []=> []
 |(i,_,w)::l=>bif mem un i then w++dL un l else dL un l
def j0 (un:List Nat)(rd:List bv):List Nat:=(dG un rd++dL un rd)++(dL un rd).map (· +1099511627776)
theorem vy {un:List Nat}{rd rd':List bv}(hr:∀n,n ∈ dG un rd'→n ∈ dG un rd)(hn:∀n,n ∈ dL un rd'→n ∈ dL un rd){n:Nat}(h:n ∈ j0 un rd'):n ∈ j0 un rd:=by
 unfold j0 at h ⊢;rcases List.mem_append.1 h with q|q
 · rcases List.mem_append.1 q with q|q
   · exact List.mem_append_left _ (List.mem_append_left _ (hr n q))
   · exact List.mem_append_left _ (List.mem_append_right _ (hn n q))
 · obtain⟨m,hm,e⟩:=List.mem_map.1 q;exact List.mem_append_right _ (List.mem_map.2 ⟨m,hn m hm,e⟩)
def disjN (l m:List Nat):Bool:=l.all fun n=> !mem m n
theorem lA {l m:List Nat}(h:disjN l m=true){n:Nat}(hn:n ∈ l):mem m n=false:=by
 have:=List.all_eq_true.1 h n hn;simpa using this
theorem zF {l m:List Nat}(h:∀n ∈ l,mem m n=false):disjN l m=true:=by
 refine List.all_eq_true.2 (fun n hn=> ?_);rw[h n hn];rfl
theorem mG {un:List Nat}{rd:List bv}{n:Nat}:n ∈ dG un rd↔∃e ∈ rd,mem un e.1=true∧n ∈ e.2.1:=by
 induction rd with
 |nil=>simp[dG]
 | cons e l ih=>
   obtain⟨i,r,w⟩:=e;simp only[dG]
   cases h:mem un i with
   |false=>simp[ih,h]
   |true=>simp[ih,h]
theorem lz {un:List Nat}{rd:List bv}{n:Nat}:n ∈ dL un rd↔∃e ∈ rd,mem un e.1=true∧n ∈ e.2.2:=by
 induction rd with
 |nil=>simp[dL]
 | cons e l ih=>
   obtain⟨i,r,w⟩:=e;simp only[dL]
   cases h:mem un i with
   |false=>simp[ih,h]
   |true=>simp[ih,h]
def Cl (o:Oper):Bool:=match o.op with| .lookup _ _ _ false=>true|_=>false
def f9 (o:Oper)(s:St):List Nat:=bif Cl o then reads o s else reads o s++(reads o s).map (· +2199023255552)
def NA (s:St)(rx:List Nat)(u:cK)(n:Nat):Prop:=(∀y,aQ u.rs n y=y)∨(∃r r',s.res n=some r∧tM r r'∧(∀y,aQ u.rs n y=some r')∧n+2199023255552 ∉ rx)
def jy (o:Oper)(u:cK):List Nat:=
 bif kY o then(match o.dst with|some d=> [d]|none=> [])else u.us
section
variable (P:Program) (T:ca) (C:List Nat) (ops:List Oper)
def PO (i:Nat)(un:List Nat)(rd:List bv)(s:St)(K:List bv→St→Prop):Prop:=
 match ops.drop i with
 | o ::_=>wr s ops o.guard
    (fun s=>br (disjN (reads o s) (dL un rd)) (cV P T C o s (j0 un rd) fun u=>w8 u fun u=>br (!aZ C o||disjN (jy o u) (dG un rd)) (qE (f9 o s) fun rl=>qE (jy o u) fun nl=>K ((i,rl,nl)::rd) (s.app u)) False) False)
    (fun s=>xo o.dst fun dst=>K ((i,[],[])::rd) (s.app ⟨dst,.undef,[],[]⟩))
 | []=>False
def JJ:List (Nat×List Nat)→List bv→(St→Prop)→St→Prop
 | [],_,k,s=>k s
 |(i,un)::L,rd,k,s=>PO P T C ops i un rd s fun rd s=>JJ L rd k s
def Cp (i:Nat)(un:List Nat)(rd:List bv)(s:St)(K:List bv→St→Prop):Prop:=
 ∃ o,ops[i]? =some o∧
  ((o8 s ops o.guard=some true∧disjN (reads o s) (dL un rd)=true∧
     cV P T C o s (j0 un rd) fun u=>(aZ C o=true→disjN (jy o u) (dG un rd)=true)∧K ((i,f9 o s,jy o u)::rd) (s.app u))∨
   (o8 s ops o.guard=some false∧K ((i,[],[])::rd) (s.app ⟨o.dst,.undef,[],[]⟩)))
def wX:List (Nat×List Nat)→List bv→(St→Prop)→St→Prop
 | [],_,k,s=>k s
 |(i,un)::L,rd,k,s=>Cp P T C ops i un rd s fun rd s=>wX L rd k s
end
section
variable {P:Program} {T:ca} {C:List Nat} {ops:List Oper}
theorem rj.refl (o:Oper)(s:St):rj o s s:=⟨fun _ _=>rfl,fun _ _=>rfl⟩
theorem kG {o:Oper}{s:St}{av:List Nat}{k k':cK→Prop}(h:cV P T C o s av k)(hk:∀u,k u→k' u):cV P T C o s av k':=by
 cases hq:aZ C o with
 | true=>
   obtain⟨u,h1,_,h3⟩:=iC hq h
   exact h3 av k' (hk u h1)
 |false=>exact lw (rj.refl o s) (fun _ _=>rfl) hq (fun _ _ _=>⟨rfl,rfl⟩) (fun _ _ _=>rfl) (fun _ h=>h) (fun u h1 _=>hk u h1) h
theorem Gh {o:Oper}{s:St}{av av':List Nat}{k:cK→Prop}(h:cV P T C o s av k)(hav:∀n,mem av' n=true→mem av n=true):cV P T C o s av' k:=by
 cases hq:aZ C o with
 | true=>
   obtain⟨u,h1,_,h3⟩:=iC hq h
   exact h3 av' k h1
 |false=>exact lw (rj.refl o s) (fun _ _=>rfl) hq (fun _ _ _=>⟨rfl,rfl⟩) (fun _ _ _=>rfl) hav (fun u h1 _=>h1) h
theorem NV {i:Nat}{un:List Nat}{rd:List bv}{s:St}{K K':List bv→St→Prop}(hK:∀rd s,K rd s→K' rd s)(h:PO P T C ops i un rd s K):Cp P T C ops i un rd s K':=by
 unfold PO at h;split at h
 · rename_i o r hd
   have ho:ops[i]? =some o:=by
    have:(ops.drop i)[0]? =some o:=by rw[hd];rfl
    rwa [List.getElem?_drop,Nat.add_zero]at this
   refine⟨o,ho,?_⟩;rcases qO h with⟨h1,h2⟩|⟨h1,h2⟩
   · obtain⟨h3,h4⟩:=aB h2;refine .inl ⟨h1,h3,kG h4 (fun u hu=> ?_)⟩;rw[vC]at hu;obtain⟨h5,h6⟩:=aB hu;rw[nd,nd]at h6;refine⟨fun hq=> ?_,hK _ _ h6⟩;rw[hq]at h5;simpa using h5
   · rw[pY]at h2;exact .inr ⟨h1,hK _ _ h2⟩
 · exact h.elim
theorem Lo:∀ {L:List (Nat×List Nat)} {rd:List bv} {k:St→Prop} {s:St},JJ P T C ops L rd k s→wX P T C ops L rd k s:=by
 intro L
 induction L with
 |nil=>intro rd k s h;exact h
 |cons p L ih=>obtain⟨i,un⟩:=p;intro rd k s h;exact NV (fun rd s h=>ih h) h
theorem Fh {i:Nat}{un:List Nat}{rd:List bv}{s:St}{K K':List bv→St→Prop}(hK:∀rd s,K rd s→K' rd s)(h:Cp P T C ops i un rd s K):Cp P T C ops i un rd s K':=by
 obtain⟨o,ho,h⟩:=h;refine⟨o,ho,?_⟩;rcases h with⟨h1,h2,h3⟩|⟨h1,h2⟩
 · exact .inl ⟨h1,h2,kG h3 (fun u hu=>⟨hu.1,hK _ _ hu.2⟩)⟩
 · exact .inr ⟨h1,hK _ _ h2⟩
theorem K2 {i:Nat}{un:List Nat}{rd rd':List bv}{s:St}{K K':List bv→St→Prop}(hrd:∀e ∈ rd',e ∈ rd)(hK:∀e s,K (e::rd) s→K' (e::rd') s)(h:Cp P T C ops i un rd s K):
 Cp P T C ops i un rd' s K':=by
 have hr:∀n,n ∈ dG un rd'→n ∈ dG un rd:=fun n hn=>by
  rw[mG]at hn ⊢;obtain⟨e,he,h⟩:=hn;exact⟨e,hrd e he,h⟩
 have hn:∀n,n ∈ dL un rd'→n ∈ dL un rd:=fun n hn=>by
  rw[lz]at hn ⊢;obtain⟨e,he,h⟩:=hn;exact⟨e,hrd e he,h⟩
 have mr:∀ {l l':List Nat},(∀n,n ∈ l'→n ∈ l)→∀ {m},disjN m l=true→disjN m l' =true:=fun hl m hm=>zF fun n hn=>by
  have:=lA hm hn;refine bh (fun c hc=> ?_) this;rw[mem_iff]at hc ⊢;exact hl c hc
 obtain⟨o,ho,h⟩:=h;refine⟨o,ho,?_⟩;rcases h with⟨h1,h2,h3⟩|⟨h1,h2⟩
 · refine .inl ⟨h1,mr hn h2,kG (Gh h3 (fun n hn' => ?_)) (fun u hu=>⟨fun hq=>mr hr (hu.1 hq),hK _ _ hu.2⟩)⟩;rw[mem_iff]at hn' ⊢;exact vy hr hn hn'
 · exact .inr ⟨h1,hK _ _ h2⟩
theorem IJ:∀ {L:List (Nat×List Nat)} {rd rd':List bv} {k:St→Prop} {s:St},(∀e ∈ rd',e ∈ rd)→wX P T C ops L rd k s→wX P T C ops L rd' k s:=by
 intro L
 induction L with
 |nil=>intro rd rd' k s _ h;exact h
 | cons p L ih=>
   obtain⟨i,un⟩:=p;intro rd rd' k s hrd h;refine K2 hrd (fun e s h=>ih (fun e' he' => ?_) h) h;rcases List.mem_cons.1 he' with q|q
   · rw[q];exact List.mem_cons_self
   · exact List.mem_cons_of_mem _ (hrd e' q)
def vP (ops:List Oper)(o:Oper):Option Nat:=
 match o.guard with
 |none=>none
 | some (j,_)=>match ops.drop j with
   |oj::_=>oj.dst
   | []=>none
theorem uc {s s':St}{o:Oper}(h:∀t,vP ops o=some t→s'.tmps t=s.tmps t):o8 s' ops o.guard=o8 s ops o.guard:=by
 unfold vP at h;unfold o8;split
 · rfl
 · rename_i j want hg;rw[hg]at h;split
   · rename_i oj r hj;simp only[hj]at h;split
     · rename_i t ht;rw[h t ht]
     · rfl
   · rfl
theorem Ev {s s':St}{x:SV}(h:∀n ∈ iA s x,s'.res n=s.res n):iA s' x=iA s x:=by
 cases x<;>try rfl
 rename_i d off;have:=h d (by simp[iA]);simp only[iA,this]
theorem zU {s s':St}:∀ {l:List Nat},(∀t ∈ l,s'.tmps t=s.tmps t)→(∀n ∈ fk s l,s'.res n=s.res n)→fk s' l=fk s l:=by
 intro l
 induction l with
 |nil=>intro _ _;rfl
 | cons t l ih=>
   intro h1 h2;simp only[fk]
   rw[h1 t List.mem_cons_self,Ev (fun n hn=>h2 n (by simp only[fk];exact List.mem_append_left _ hn)),
    ih (fun t ht=>h1 t (List.mem_cons_of_mem _ ht)) (fun n hn=>h2 n (by simp only[fk];exact List.mem_append_right _ hn))]
theorem qW {o:Oper}{s s':St}(h:rj o s s'):reads o s' =reads o s:=by
 unfold reads
 cases hm:iT o with
 |true=>rfl
 |false=>rw[zU h.tm (h.full hm).rs]
structure vO (ops:List Oper)(x y:Oper):Prop where
 xy:∀d,x.dst=some d→d ∉ eo y∧vP ops y≠some d∧y.dst≠some d
 yx:∀d,y.dst=some d→d ∉ eo x∧vP ops x≠some d
def Bv (ops:List Oper)(x y:Oper):Bool:=
 (match x.dst with|some d=> !mem (eo y) d&&(match vP ops y with|some t=> !Nat.beq t d|none=>true)&&(match y.dst with|some t=> !Nat.beq t d|none=>true)|none=>true)&&
 (match y.dst with|some d=> !mem (eo x) d&&(match vP ops x with|some t=> !Nat.beq t d|none=>true)|none=>true)
theorem za {x y:Oper}(h:Bv ops x y=true):vO ops x y:=by
 unfold Bv at h;rw[Bool.and_eq_true]at h;obtain⟨h1,h2⟩:=h
 have hm:∀ {l:List Nat} {d:Nat},(!mem l d)=true→d ∉ l:=fun hq hd=>by
  rw[←mem_iff]at hd;rw[hd]at hq;cases hq
 have ho:∀ {x:Option Nat} {d:Nat},(match x with|some t=> !Nat.beq t d|none=>true)=true→x≠some d:=fun hq e=>by
  subst e;simp at hq
 constructor
 · intro d hd;rw[hd]at h1;simp only[Bool.and_eq_true]at h1;exact⟨hm h1.1.1,ho h1.1.2,ho h1.2⟩
 · intro d hd;rw[hd]at h2;simp only[Bool.and_eq_true]at h2;exact⟨hm h2.1,ho h2.2⟩
theorem oW {s:St}{u:cK}{t:Nat}(h:u.dst≠some t):(s.app u).tmps t=s.tmps t:=by
 simp only[St.app,fH,if_neg h]
theorem yJ {x i :Nat}{ox oi:Oper}{uni rx nx:List Nat}{rd:List bv}{s:St}{ux:cK}{Ki Ki':List bv→St→Prop}(hi:ops[i]? =some oi)
 (hap:vO ops ox oi)(hdx:ux.dst=ox.dst)(hfx:∀n,n ∉ nx→(∀y,aQ ux.rs n y=y)∧mem ux.us n=false)(hnx:∀n ∈ nx,ox.dst=some n)(hun:mem uni x=true)
 (h:Cp P T C ops i uni ((x,rx,nx)::rd) (s.app ux) Ki)
 (hin:∀ (ei:bv) ui,ei.1=i→Ki (ei::(x,rx,nx)::rd) ((s.app ux).app ui)→ui.dst=oi.dst→(∀n ∈ rx,NA s rx ui n)→(∀n ∈ nx,(∀y,aQ ui.rs n y=y)∧mem ui.us n=false)→Ki' (ei::rd) (s.app ui)):
 Cp P T C ops i uni rd s Ki':=by
 obtain⟨o,ho,h⟩:=h;rw[hi]at ho;cases ho
 have hg:o8 (s.app ux) ops oi.guard=o8 s ops oi.guard:=uc fun t ht=>oW (by
  rw[hdx];intro e;exact(hap.xy t e).2.1 ht)
 refine⟨oi,hi,?_⟩;rw[hg]at h;rcases h with⟨h1,h2,h3⟩|⟨h1,h2⟩
 · have hnews:∀n,mem (dL uni ((x,rx,nx)::rd)) n=false→n ∉ nx:=fun n hn hx=>by
    have:n ∈ dL uni ((x,rx,nx)::rd):=lz.2 ⟨_,List.mem_cons_self,hun,hx⟩;rw[←mem_iff]at this;rw[hn]at this;cases this
   have hal:rj oi (s.app ux) s:=by
    refine⟨fun t ht=>(oW ?_).symm,fun n hn=> ?_⟩
    · rw[hdx];intro e;exact(hap.xy t e).1 ht
    · have:=hnews n (lA h2 hn);simp only[St.app,aD];exact((hfx n this).1 _).symm
   have hu:∀d,oi.dst=some d→s.used d=(s.app ux).used d:=by
    intro d hd;have:d ∉ nx:=fun hx=>(hap.xy d (hnx d hx)).2.2 hd
    simp only[St.app,dN,(hfx d this).2,Bool.false_or]
   have hsub:∀ {l l':List Nat},(∀n,n ∈ l'→n ∈ l)→∀ {m},disjN m l=true→disjN m l' =true:=fun hl m hm=>zF fun n hn=>by
    refine bh (fun c hc=> ?_) (lA hm hn);rw[mem_iff]at hc ⊢;exact hl c hc
   have hr:∀n,n ∈ dG uni rd→n ∈ dG uni ((x,rx,nx)::rd):=fun n hn=>by
    rw[mG]at hn ⊢;obtain⟨e,he,h⟩:=hn;exact⟨e,List.mem_cons_of_mem _ he,h⟩
   have hn:∀n,n ∈ dL uni rd→n ∈ dL uni ((x,rx,nx)::rd):=fun n hn=>by
    rw[lz]at hn ⊢;obtain⟨e,he,h⟩:=hn;exact⟨e,List.mem_cons_of_mem _ he,h⟩
   have hre:=qW hal;have hreX:f9 oi s=f9 oi (s.app ux):=by unfold f9;rw[hre]
   have hrx:∀n ∈ rx,n ∈ dG uni ((x,rx,nx)::rd):=fun n hn=>mG.2 ⟨_,List.mem_cons_self,hun,hn⟩
   have hnx':∀n ∈ nx,n ∈ dL uni ((x,rx,nx)::rd):=fun n hn=>lz.2 ⟨_,List.mem_cons_self,hun,hn⟩
   refine .inl ⟨h1,?_,?_⟩
   · rw[hre];exact hsub hn h2
   · cases hq:aZ C oi with
     | true=>
       have h4:=re (av':=j0 uni rd) hal (fun _=>hu) hq h3;obtain⟨ui,⟨k1,k2⟩,⟨k3,k4⟩,k5⟩:=iC hq h4;refine k5 _ _ ⟨fun _=>hsub hr (k1 hq),?_⟩
       have hd:∀n,n ∈ ui.us→n ∈ jy oi ui:=by
        intro n hn;unfold jy
        cases ha:kY oi with
        |false=>exact hn
        | true=>
          rcases k4 with⟨_,q⟩|⟨d,r,q1,q2,q3⟩
          · rw[q]at hn;cases hn
          · rw[q3]at hn;rw[q1];exact hn
       rw[hreX];refine hin _ ui rfl k2 k3 (fun n hn=>.inl fun y=> ?_) (fun n hn=> ?_)
       · rcases k4 with⟨q,_⟩|⟨d,r,q1,q2,q3⟩
         · rw[q];rfl
         · rw[q2]
           have hdn:n≠d:=fun e=>by
            have h6:=lA (k1 hq) (hd d (by rw[q3];exact List.mem_cons_self));have h7:=(mem_iff _ _).2 (hrx n hn);rw[e,h6]at h7;cases h7
           simp only[aQ];rw[ax hdn];rfl
       · rcases k4 with⟨q,q'⟩|⟨d,r,q1,q2,q3⟩
         · rw[q,q'];exact⟨fun _=>rfl,rfl⟩
         · rw[q2,q3];have hdn:n≠d:=fun e=>by subst e;exact(hap.xy n (hnx n hn)).2.2 q1
           exact⟨fun y=>by simp only[aQ];rw[ax hdn];rfl,by simp only[mem];rw[ax hdn];rfl⟩
     | false =>
       refine lw hal hu hq (fun _ c hc=> ?_) (fun _ c hc=> ?_) (fun n hn' => ?_) (fun ui hui hfp=> ?_) h3
       rotate_left
       · have:c ∉ nx:=fun hx=>by
          have h6:=(mem_iff (j0 uni ((x,rx,nx)::rd)) (c+1099511627776)).2 (List.mem_append_right _ (List.mem_map.2 ⟨c,hnx' c hx,rfl⟩));rw[hc]at h6;cases h6
         simp only[St.app,aD];exact((hfx c this).1 _).symm
       rotate_right
       · have:c ∉ nx:=fun hx=>by
          have h6:=(mem_iff (j0 uni ((x,rx,nx)::rd)) c).2 (List.mem_append_left _ (List.mem_append_right _ (hnx' c hx)));rw[hc]at h6;cases h6
         simp only[St.app,aD,dN,(hfx c this).2,Bool.false_or];exact⟨((hfx c this).1 _).symm,by first|rfl|trivial⟩
       · rw[mem_iff]at hn' ⊢;exact vy hr hn hn'
       · refine⟨fun hq' =>(by cases hq'),?_⟩;rw[hreX];have ar:∀n ∈ rx,mem (j0 uni ((x,rx,nx)::rd)) n=true:=fun n hn=>by rw[mem_iff];exact List.mem_append_left _ (List.mem_append_left _ (hrx n hn))
         have an:∀n ∈ nx,mem (j0 uni ((x,rx,nx)::rd)) n=true:=fun n hn=>by rw[mem_iff];exact List.mem_append_left _ (List.mem_append_right _ (hnx' n hn))
         have an2:∀n ∈ nx,mem (j0 uni ((x,rx,nx)::rd)) (n+1099511627776)=true:=fun n hn=>by rw[mem_iff];exact List.mem_append_right _ (List.mem_map.2 ⟨n,hnx' n hn,rfl⟩)
         rcases hfp with hfp|⟨f1,d,r,r',f2,f3,f4,f5,f6,f7⟩
         · exact hin _ ui rfl hui.2 hfp.1 (fun n hn=>.inl (hfp.2 n (ar n hn)).1) (fun n hn=>hfp.2 n (an n hn))
         · refine hin _ ui rfl hui.2 f1 (fun n hn=> ?_) (fun n hn=> ?_)
           · by_cases hnd:n=d
             · subst hnd;refine .inr ⟨r,r',f2,f3,fun y=>by rw[f4];simp[aQ],fun hx=> ?_⟩;have:=ar _ hx;rw[f7]at this;cases this
             · exact .inl fun y=>by rw[f4];simp only[aQ];rw[ax hnd];rfl
           · have hnd:n≠d:=fun e=>by
              have:=an2 n hn;rw[e,f6]at this;cases this
             exact⟨fun y=>by rw[f4];simp only[aQ];rw[ax hnd];rfl,by rw[f5];rfl⟩
 · refine .inr ⟨h1,hin _ _ rfl h2 rfl (fun _ _=>.inl fun _=>rfl) (fun _ _=>⟨fun _=>rfl,rfl⟩)⟩
theorem Br {s s':St}:∀ {l:List Nat},(∀t ∈ l,s'.tmps t=s.tmps t)→(∀n ∈ fk s l,s'.res n=s.res n∨∃r r',s.res n=some r∧tM r r'∧s'.res n=some r')→fk s' l=fk s l:=by
 intro l
 induction l with
 |nil=>intro _ _;rfl
 | cons t l ih=>
   intro h1 h2;simp only[fk];rw[h1 t List.mem_cons_self,ih (fun t ht=>h1 t (List.mem_cons_of_mem _ ht)) (fun n hn=>h2 n (by simp only[fk];exact List.mem_append_right _ hn))];congr 1
   have h3:∀n ∈ iA s (s.tmps t),s'.res n=s.res n∨∃r r',s.res n=some r∧tM r r'∧s'.res n=some r':=fun n hn=>h2 n (by simp only[fk];exact List.mem_append_left _ hn)
   generalize s.tmps t=x at h3;cases x<;>try rfl
   rename_i d off;rcases h3 d (by simp[iA])with q|⟨r,r',q1,q2,q3⟩
   · simp only[iA,q]
   · simp only[iA,q1,q3];cases r<;>cases r'<;>first|rfl|exact q2.elim
theorem EG {s s':St}{y:SV}(h:∀d,y= .buf d→s'.res d=s.res d∨∃r r',s.res d=some r∧tM r r'∧s'.res d=some r'):s'.norm y=s.norm y:=by
 unfold St.norm;cases y<;>try rfl
 rename_i d
 dsimp only
 rcases h _ rfl with q|⟨r,r',q1,q2,q3⟩
 · rw[q]
 · rw[q1,q3];cases r<;>cases r'<;>first|rfl|exact q2.elim
theorem Cb {o :Oper}{s s':St}(hso:Cl o=true)(hq:aZ C o=true)(htm:∀t ∈ eo o,s'.tmps t=s.tmps t)
 (Ek:∀n ∈ reads o s,s'.res n=s.res n∨∃r r',s.res n=some r∧tM r r'∧s'.res n=some r'){av av':List Nat}{k:cK→Prop}(hk:cV P T C o s av k):reads o s' =reads o s∧cV P T C o s' av' k:=by
 unfold Cl at hso;split at hso
 · rename_i ty m x ho;have hmv:iT o=false:=by simp[iT,ho]
   have hap:yC o=false:=by simp[yC,ho]
   have hrd:reads o s=fk s (eo o):=by unfold reads;rw[hmv,hap];rfl
   have hrd':reads o s' =fk s' (eo o):=by unfold reads;rw[hmv,hap];rfl
   rw[hrd]at Ek;refine⟨by rw[hrd,hrd'];exact Br htm Ek,?_⟩
   have hev:∀y,y ∈ o.op.operands.toList→s'.ev y=s.ev y:=by
    intro y hy;cases y<;>try rfl
    rename_i t;have ht:=g9 hy;simp only[St.ev,St.look];rw[htm t ht];exact EG fun d hd=>Ek d (mZ ht (by rw[hd];simp[iA]))
   have hm:m ∈ o.op.operands.toList:=by simp[ho,Op.operands]
   have hx:x ∈ o.op.operands.toList:=by simp[ho,Op.operands]
   have hmu:iz C o.dst=false:=by simpa [aZ,ho]using hq
   unfold cV at hk ⊢;rw[ho]at hk ⊢;simp only[hmu,br]at hk ⊢;rw[hev m hm,hev x hx];unfold gh tK at hk ⊢;split at hk
   · split at hk
     · rename_i te d hte hme
       have hdm:s'.res d=s.res d∨∃r r',s.res d=some r∧tM r r'∧s'.res d=some r':=by
        cases m with
        | tmp t=>
          refine Ek d (mZ (g9 hm) ?_);simp only[St.ev,St.look]at hme;generalize s.tmps t=y at hme;unfold St.norm at hme;cases y<;>simp at hme
          · split at hme<;>cases hme
          · subst hme;simp[iA]
        | const v=>
          simp only[St.ev]at hme;unfold Mu at hme;split at hme
          · rename_i cs
            cases hc:cs.toList.all (·.oneCell')with
            |false=>rw[hc]at hme;cases hme
            |true=>rw[hc]at hme;cases hme
          · cases hme
          · cases hme
        |func f=>cases hme
        |global g=>cases hme
       rcases hdm with q|⟨r,r',q1,q2,q3⟩
       · rw[q];exact hk
       · rw[q1]at hk;rw[q3];cases r<;>cases r'<;>first|exact q2.elim|skip
         obtain⟨rfl,rfl,rfl,rfl,rfl⟩:=q2;exact hk
     · exact hk.elim
   · exact hk.elim
 · cases hso
theorem z7 {s:St}{u v:cK}(hd:∀d,u.dst=some d→v.dst≠some d)(hr:∀n y,aQ u.rs n (aQ v.rs n y)=aQ v.rs n (aQ u.rs n y)):(s.app u).app v=(s.app v).app u:=by
 simp only[St.app,St.mk.injEq];refine⟨?_,?_,?_⟩
 · funext i
   simp only[fH]
   by_cases h1:v.dst=some i
   · by_cases h2:u.dst=some i
     · exact absurd h1 (hd i h2)
     · simp[h1,h2]
   · simp[h1]
 · funext n
   simp only[aD];exact(hr n _).symm
 · funext n
   simp only[dN];cases mem v.us n<;>cases mem u.us n<;>rfl
theorem swap {x i:Nat}{ox oi:Oper}{unx uni:List Nat}{rd:List bv}{s:St}{K:List bv→St→Prop}(hx:ops[x]? =some ox)(hi:ops[i]? =some oi)(hqx:aZ C ox=true)
 (hap:vO ops ox oi)(hun:mem uni x=true)(hnu:mem unx i=false)(hK:∀rd rd' s,(∀e ∈ rd',e ∈ rd)→K rd s→K rd' s)
 (h:Cp P T C ops x unx rd s fun rd s=>Cp P T C ops i uni rd s K):Cp P T C ops i uni rd s fun rd s=>Cp P T C ops x unx rd s K:=by
 obtain⟨o,ho,h⟩:=h;rw[hx]at ho;cases ho
 have hnewsi:∀ei:bv,ei.1=i→dL unx (ei::rd)=dL unx rd∧dG unx (ei::rd)=dG unx rd:=fun ei he=>by
  obtain⟨j,r,w⟩:=ei;simp only at he;subst he;simp only[dL,dG,hnu,cond_false,and_self]
 have hgx:∀ui:cK,ui.dst=oi.dst→o8 (s.app ui) ops ox.guard=o8 s ops ox.guard:=fun ui hui=>uc fun t ht=>oW (by
  rw[hui];intro e;exact(hap.yx t e).2 ht)
 rcases h with⟨h1,h2,h3⟩|⟨h1,h2⟩
 · obtain⟨ux,⟨k1,k2⟩,⟨k3,k4⟩,k5⟩:=iC hqx h3
   have hus:∀n,n ∉ jy ox ux→(∀y,aQ ux.rs n y=y)∧mem ux.us n=false:=by
    intro n hn;rcases k4 with⟨q,q'⟩|⟨d,r,q1,q2,q3⟩
    · rw[q,q'];exact⟨fun _=>rfl,rfl⟩
    · have hdn:n≠d:=fun e=>by
       subst e;apply hn
       unfold jy
       cases ha:kY ox with
       |true=>rw[q1];exact List.mem_cons_self
       |false=>rw[q3];exact List.mem_cons_self
      rw[q2,q3];exact⟨fun y=>by simp only[aQ];rw[ax hdn];rfl,by simp only[mem];rw[ax hdn];rfl⟩
   have hnx:∀n ∈ jy ox ux,ox.dst=some n:=by
    intro n hn;unfold jy at hn
    cases ha:kY ox with
    | true=>
      rw[ha]at hn
      cases hd:ox.dst with
      |none=>rw[hd]at hn;cases hn
      |some d=>rw[hd]at hn;simp at hn;rw[hn]
    | false=>
      rw[ha]at hn;rcases k4 with⟨q,q'⟩|⟨d,r,q1,q2,q3⟩
      · simp only[cond_false,q']at hn;cases hn
      · simp only[cond_false,q3,List.mem_singleton]at hn;rw[hn];exact q1
   refine yJ (x:=x) (ox:=ox) (nx:=jy ox ux) (rx:=f9 ox s) hi hap k3 hus hnx hun k2 (fun ei ui hei hk hud hr hn=> ?_);have htm:∀t ∈ eo ox,(s.app ui).tmps t=s.tmps t:=fun t ht=>oW (by rw[hud];intro e;exact(hap.yx t e).1 ht)
   have Cz:cV P T C ox s [] (fun u=>u=ux):=k5 [] (fun u=>u=ux) rfl
   have key:reads ox (s.app ui)=reads ox s∧cV P T C ox (s.app ui) (j0 unx (ei::rd)) (fun u=>u=ux):=by
    cases hso:Cl ox with
    | true=>
      refine Cb hso hqx htm (fun n hn' => ?_) Cz;have hn2:n ∈ f9 ox s:=by unfold f9;rw[hso];exact hn'
      simp only[St.app,aD];rcases hr n hn2 with q|⟨r,r',q1,q2,q3,_⟩
      · exact .inl (q _)
      · exact .inr ⟨r,r',q1,q2,q3 _⟩
    | false=>
      have hal:rj ox s (s.app ui):=by
       refine⟨htm,fun n hn' => ?_⟩;have hn2:n ∈ f9 ox s:=by unfold f9;rw[hso];exact List.mem_append_left _ hn'
       simp only[St.app,aD];rcases hr n hn2 with q|⟨r,r',_,_,_,q4⟩
       · exact q _
       · exact absurd (by unfold f9;rw[hso];exact List.mem_append_right _ (List.mem_map.2 ⟨n,hn',rfl⟩)) q4
      exact⟨qW hal,re (av':=j0 unx (ei::rd)) hal (fun ha d hd=>by
       simp only[St.app,dN];have:d ∈ jy ox ux:=by unfold jy;rw[ha,hd];exact List.mem_cons_self
       rw[(hn d this).2];rfl) hqx Cz⟩
   obtain⟨hre,hstep2⟩:=key;have hreX:f9 ox (s.app ui)=f9 ox s:=by unfold f9;rw[hre]
   obtain⟨e1,e2⟩:=hnewsi ei hei;refine⟨ox,hx,.inl ⟨by rw[hgx ui hud];exact h1,by rw[hre,e1];exact h2,?_⟩⟩;refine kG hstep2 (fun u hu=> ?_);subst hu;refine⟨fun hq=>by rw[e2];exact k1 hq,?_⟩;rw[hreX]
   have hcomm:(s.app u).app ui=(s.app ui).app u:=z7 (fun d hd=>by rw[hud];exact(hap.xy d (by rw[←k3];exact hd)).2.2) (fun n y=>by
    by_cases hnn:n ∈ jy ox u
    · rw[(hn n hnn).1,(hn n hnn).1]
    · rw[(hus n hnn).1,(hus n hnn).1])
   rw[←hcomm];refine hK _ _ _ (fun e he=> ?_) hk;simp only[List.mem_cons]at he ⊢;rcases he with q|q|q
   · exact .inr (.inl q)
   · exact .inl q
   · exact .inr (.inr q)
 · refine yJ (x:=x) (ox:=ox) (nx:= []) (rx:= []) (ux:=⟨ox.dst,.undef,[],[]⟩) hi hap rfl (fun n _=>⟨fun _=>rfl,rfl⟩) (fun n hn=>by cases hn) hun h2 (fun ei ui hei hk hud hr hn=> ?_);refine⟨ox,hx,.inr ⟨by rw[hgx ui hud];exact h1,?_⟩⟩;have hcomm:(s.app ⟨ox.dst,.undef,[],[]⟩).app ui=(s.app ui).app ⟨ox.dst,.undef,[],[]⟩:=z7 (fun d hd=>by rw[hud];exact(hap.xy d hd).2.2) (fun n y=>rfl);rw[←hcomm];refine hK _ _ _ (fun e he=> ?_) hk;simp only[List.mem_cons]at he ⊢;rcases he with q|q|q
   · exact .inr (.inl q)
   · exact .inl q
   · exact .inr (.inr q)
end
end Go.Eng
namespace Go.Eng
open Go
def qH:List Edge→List Nat
 | []=> []
 |e::l=>bif Region.binds .any e then e.on::qH l else qH l
def fp (o:Oper):List Nat:=qH o.after.toList
theorem s6 {n:Nat}:∀ {l:List Edge},n ∈ qH l↔∃e ∈ l,Region.binds .any e=true∧e.on=n:=by
 intro l
 induction l with
 |nil=>simp[qH]
 | cons e l ih=>
   simp only[qH]
   cases h:Region.binds .any e with
   |false=>simp[ih,h]
   | true=>
     simp only[cond_true,List.mem_cons,ih];constructor
     · rintro(q|⟨e',h1,h2⟩)
       · exact⟨e,.inl rfl,h,q.symm⟩
       · exact⟨e',.inr h1,h2⟩
     · rintro⟨e',h1|h1,h2⟩
       · subst h1;exact .inl h2.2.symm
       · exact .inr ⟨e',h1,h2⟩
inductive Mk (ops:List Oper):Nat→Nat→Prop
 |edge {i e:Nat} {o:Oper} (ho:ops[i]? =some o) (he:e ∈ fp o):Mk ops i e
 |step {i e p:Nat} {o:Oper} (ho:ops[i]? =some o) (he:e ∈ fp o) (h:Mk ops e p):Mk ops i p
def zf:List (Nat×List Nat)→Nat→List Nat
 | [],_=> []
 |(j,l)::r,d=>bif Nat.beq d j then l else zf r d
def eD:List (Nat×List Nat)→List Nat
 | []=> []
 |(j,_)::r=>j::eD r
def sn (acc:List (Nat×List Nat)):List Nat→List Nat
 | []=> []
 |e::l=>e::(zf acc e++sn acc l)
def NL (C:List Nat)(ops:List Oper)(o:Oper)(pre:List Nat)(x:Nat):Bool:=
 mem pre x&&(match ops.drop x with|ox::_=>aZ C ox&&Bv ops ox o| []=>false)
def CH (C:List Nat)(ops:List Oper):List (Nat×List Nat)→List (Nat×List Nat)→Bool
 | [],_=>true
 | (i,un)::L,acc=>match ops.drop i with
   | o::_=>
     let anc:=sn acc (fp o)
     !mem (eD acc) i&&(fp o).all (fun e=>mem (eD acc) e)&&(eD acc).all (fun p=>mem anc p||mem un p)&&un.all (fun x=>NL C ops o (eD acc) x)&&CH C ops L ((i,anc)::acc)
   | []=>false
def GO (C:List Nat)(ops:List Oper)(L:List (Nat×List Nat)):Bool:=
 CH C ops L []&&(List.range ops.length).all (fun i=>mem (eD L) i)
theorem gc {L:List (Nat×List Nat)}{i:Nat}:i ∈ eD L↔∃un,(i,un) ∈ L:=by
 induction L with
 |nil=>simp[eD]
 | cons p L ih=>
   obtain⟨j,u⟩:=p;simp only[eD,List.mem_cons,ih,Prod.mk.injEq];constructor
   · rintro(q|⟨un,h⟩)
     · exact⟨u,.inl ⟨q,rfl⟩⟩
     · exact⟨un,.inr h⟩
   · rintro⟨un,⟨q,_⟩|h⟩
     · exact .inl q
     · exact .inr ⟨un,h⟩
theorem Dz {acc:List (Nat×List Nat)}{d p:Nat}(h:p ∈ zf acc d):∃l,(d,l) ∈ acc∧p ∈ l:=by
 induction acc with
 |nil=>cases h
 | cons q r ih=>
   obtain⟨j,l⟩:=q;simp only[zf]at h
   by_cases hj:d=j
   · subst hj;simp at h;exact⟨l,List.mem_cons_self,h⟩
   · rw[ax hj]at h;obtain⟨l',h1,h2⟩:=ih h;exact⟨l',List.mem_cons_of_mem _ h1,h2⟩
theorem Dt {acc:List (Nat×List Nat)}{p:Nat}:∀ {l:List Nat},p ∈ sn acc l→p ∈ l∨∃e ∈ l,p ∈ zf acc e:=by
 intro l
 induction l with
 |nil=>intro h;cases h
 | cons e l ih=>
   intro h;simp only[sn,List.mem_cons,List.mem_append]at h;rcases h with q|q|q
   · exact .inl (by rw[q];exact List.mem_cons_self)
   · exact .inr ⟨e,List.mem_cons_self,q⟩
   · rcases ih q with q|⟨e',h1,h2⟩
     · exact .inl (List.mem_cons_of_mem _ q)
     · exact .inr ⟨e',List.mem_cons_of_mem _ h1,h2⟩
structure Kg (C:List Nat)(ops:List Oper)(pre:List Nat)(i:Nat)(un:List Nat)(o:Oper):Prop where
 ho:ops[i]? =some o
 new:i ∉ pre
 edges:∀e ∈ fp o,e ∈ pre
 split:∀p ∈ pre,Mk ops i p∨p ∈ un
 un:∀x ∈ un,x ∈ pre∧∃ox,ops[x]? =some ox∧aZ C ox=true∧vO ops ox o
theorem yy {α:Type}{l:List α}{i:Nat}{x:α}{r:List α}(h:l.drop i=x::r):l[i]? =some x:=by
 have:(l.drop i)[0]? =some x:=by rw[h];rfl
 rwa [List.getElem?_drop,Nat.add_zero]at this
theorem AZ {C:List Nat}{ops:List Oper}:∀ {L acc:List (Nat×List Nat)},(∀j l,(j,l) ∈ acc→∀p ∈ l,Mk ops j p)→CH C ops L acc=true→
 ∀ (X Y:List (Nat×List Nat)) (i:Nat) (un:List Nat),L=X++(i,un)::Y→∃o,Kg C ops (eD X++eD acc) i un o:=by
 intro L
 induction L with
 |nil=>intro acc _ _ X Y i un h;cases X<;>cases h
 | cons p L ih=>
   obtain⟨i0,un0⟩:=p;intro acc hacc h X Y i un hL;unfold CH at h;split at h
   · rename_i o r hd;simp only[Bool.and_eq_true]at h;obtain⟨⟨⟨⟨h1,h2⟩,h3⟩,h4⟩,h5⟩:=h;have ho:=yy hd
     have hanc:∀p ∈ sn acc (fp o),Mk ops i0 p:=by
      intro p hp;rcases Dt hp with q|⟨e,q1,q2⟩
      · exact .edge ho q
      · obtain⟨l,r1,r2⟩:=Dz q2;exact .step ho q1 (hacc e l r1 p r2)
     have hn:i0 ∉ eD acc:=fun hq=>by
      rw[←mem_iff]at hq;rw[hq]at h1;cases h1
     cases X with
     | nil=>
       simp only[List.nil_append,List.cons.injEq,Prod.mk.injEq]at hL;obtain⟨⟨rfl,rfl⟩,rfl⟩:=hL;refine⟨o,ho,by simpa [eD]using hn,fun e he=> ?_,fun p hp=> ?_,fun x hx=> ?_⟩
       · have:=List.all_eq_true.1 h2 e he;rw[mem_iff]at this;simpa [eD]using this
       · have hp':p ∈ eD acc:=by simpa [eD]using hp
         have:=List.all_eq_true.1 h3 p hp';rw[Bool.or_eq_true,mem_iff,mem_iff]at this;rcases this with q|q
         · exact .inl (hanc p q)
         · exact .inr q
       · have:=List.all_eq_true.1 h4 x hx;unfold NL at this;rw[Bool.and_eq_true,mem_iff]at this;obtain⟨q1,q2⟩:=this;refine⟨by simpa [eD]using q1,?_⟩;split at q2
         · rename_i ox r' hd';rw[Bool.and_eq_true]at q2;exact⟨ox,yy hd',q2.1,za q2.2⟩
         · cases q2
     | cons q X=>
       simp only[List.cons_append,List.cons.injEq]at hL;obtain⟨rfl,hL⟩:=hL
       obtain⟨o',ho'⟩:=ih (acc:=(i0,sn acc (fp o))::acc) (fun j l hj=>by
        rcases List.mem_cons.1 hj with q|q
        · cases q;exact hanc
        · exact hacc j l q) h5 X Y i un hL
       have hmem:∀p,p ∈ eD X++eD ((i0,sn acc (fp o))::acc)↔p ∈ eD ((i0,un0)::X)++eD acc:=fun p=>by
        simp only[eD,List.mem_append,List.mem_cons];constructor
        · rintro(q|q|q)
          · exact .inl (.inr q)
          · exact .inl (.inl q)
          · exact .inr q
        · rintro((q|q)|q)
          · exact .inr (.inl q)
          · exact .inl q
          · exact .inr (.inr q)
       exact⟨o',ho'.ho,fun hq=>ho'.new ((hmem _).2 hq),fun e he=>(hmem _).1 (ho'.edges e he),fun p hp=>ho'.split p ((hmem _).2 hp),fun x hx=>⟨(hmem _).1 (ho'.un x hx).1,(ho'.un x hx).2⟩⟩
   · cases h
section
variable {P:Program} {T:ca} {C:List Nat} {ops:List Oper}
theorem H5 {i:Nat}{uni:List Nat}{oi:Oper}(hi:ops[i]? =some oi):∀ {X Y:List (Nat×List Nat)} {rd:List bv} {s:St} {k:St→Prop},
 (∀x unx,(x,unx) ∈ X→(∃ox,ops[x]? =some ox∧aZ C ox=true∧vO ops ox oi)∧mem uni x=true∧mem unx i=false)→wX P T C ops (X++(i,uni)::Y) rd k s→
 wX P T C ops ((i,uni)::(X++Y)) rd k s:=by
 intro X
 induction X with
 |nil=>intro Y rd s k _ h;exact h
 | cons p X ih=>
   obtain⟨x,unx⟩:=p;intro Y rd s k hX h;obtain⟨⟨ox,hx,hq,hap⟩,hm,hn⟩:=hX x unx List.mem_cons_self
   have h1:Cp P T C ops x unx rd s (fun rd s=>Cp P T C ops i uni rd s fun rd s=>wX P T C ops (X++Y) rd k s):=
    Fh (fun rd s h=>ih (fun x unx hx=>hX x unx (List.mem_cons_of_mem _ hx)) h) h
   exact swap hx hi hq hap hm hn (fun rd rd' s hr h=>IJ hr h) h1
theorem fj {l:Array Bool}{i j:Nat}(h:i<l.size):(l.setIfInBounds i true).getD j true=if i=j then true else l.getD j true:=by
 simp only[Array.getD_eq_getD_getElem?]
 by_cases e:i=j
 · subst e;simp[h]
 · rw[Array.getElem?_setIfInBounds_ne e,if_neg e]
theorem DN (hT:aR P T){A:nG}{opsA:Array Oper}{L:List (Nat×List Nat)}{k:St→Prop}{Q:Exit→Act→World→Prop}(hQ:∀s a w,k s→iI A s a w→Q .normal a w)
 (hN:∀o ∈ opsA.toList,EI A.N o=true)(hrows:∀ (X Y:List (Nat×List Nat)) (i:Nat) (un:List Nat),L=X++(i,un)::Y→∃o,Kg C opsA.toList (eD X) i un o)
 (eJ:∀i,i<opsA.size→i ∈ eD L):
 ∀ (fuel:Nat) (listed:Array Bool) (rd:List bv) (s:St) (a:Act) (w:World),listed.size=opsA.size→
  (∀i o,listed.getD i true=true→opsA[i]? =some o→∀e ∈ fp o,listed.getD e true=true)→
  (L.filter fun p=> !listed.getD p.1 true).length≤fuel→wX P T C opsA.toList (L.filter fun p=> !listed.getD p.1 true) rd k s→iI A s a w→wpAny P .any opsA Q fuel listed a w:=by
 intro fuel
 have hready:∀ (listed:Array Bool) i,i ∈ Region.ready .any opsA listed↔∃o,opsA[i]? =some o∧listed.getD i true=false∧∀e ∈ fp o,listed.getD e false=true:=by
  intro listed i;unfold Region.ready;rw[List.mem_filter,List.mem_range];constructor
  · rintro⟨h1,h2⟩;have ho:opsA[i]? =some opsA[i]:=Array.getElem?_eq_getElem h1;refine⟨opsA[i],ho,?_,fun e he=> ?_⟩
    · cases hl:listed.getD i true with
      |false=>rfl
      |true=>rw[hl]at h2;simp at h2
    · rw[ho]at h2;simp only[Option.map_some,Option.getD_some,Bool.and_eq_true]at h2;obtain⟨e',h3,h4,h5⟩:=s6.1 he;have:=Array.all_eq_true'.1 h2.2 e' (by simpa using h3);rw[h4]at this;rw[←h5];simpa using this
  · rintro⟨o,ho,h1,h2⟩;refine⟨(Array.getElem?_eq_some_iff.1 ho).1,?_⟩;rw[h1,ho];simp only[Bool.not_false,Option.map_some,Option.getD_some,Bool.true_and];rw[Array.all_eq_true'];intro e he
    cases hb:Region.binds .any e with
    |false=>rfl
    | true=>
      have:=h2 e.on (s6.2 ⟨e,by simpa using he,hb,rfl⟩);simp[this]
 have hempty:∀ (listed:Array Bool),listed.size=opsA.size→Region.ready .any opsA listed= []→(L.filter fun p=> !listed.getD p.1 true)= []:=by
  intro listed hsz hr
  cases hf:(L.filter fun p=> !listed.getD p.1 true)with
  |nil=>rfl
  | cons p R=>
    exfalso;obtain⟨i,un⟩:=p
    obtain⟨X,Y,hXY,hX,hp⟩:∃X Y,L=X++(i,un)::Y∧(∀q ∈ X,listed.getD q.1 true=true)∧listed.getD i true=false:=by
     clear hrows eJ
     induction L with
     |nil=>cases hf
     | cons q L ih=>
       rw[List.filter_cons]at hf
       cases hq:listed.getD q.1 true with
       | true=>
         rw[hq]at hf;obtain⟨X,Y,h1,h2,h3⟩:=ih hf;refine⟨q::X,Y,by rw[h1];rfl,fun q' hq' => ?_,h3⟩;rcases List.mem_cons.1 hq' with e|e
         · rw[e];exact hq
         · exact h2 q' e
       | false=>
         rw[hq]at hf;simp only[Bool.not_false,if_true,List.cons.injEq]at hf;obtain⟨rfl,_⟩:=hf;exact⟨[],L,rfl,by simp,hq⟩
    obtain⟨o,ho⟩:=hrows X Y i un hXY
    have:i ∈ Region.ready .any opsA listed:=by
     rw[hready];refine⟨o,by simpa using ho.ho,hp,fun e he=> ?_⟩;obtain⟨u,hu⟩:=gc.1 (ho.edges e he);have h1:=hX _ hu;simp only[Array.getD_eq_getD_getElem?]at h1 ⊢
     cases hq:listed[e]? with
     |some b=>rw[hq]at h1;simpa using h1
     | none=>
       exfalso
       have hlt:e<opsA.size:=by
        obtain⟨X1,Y1,hX1⟩:=List.append_of_mem hu;obtain⟨o1,ho1⟩:=hrows X1 (Y1++(i,un)::Y) e u (by rw[hXY,hX1];simp);have:=ho1.ho;exact(Array.getElem?_eq_some_iff.1 (by simpa using this)).1
       rw[Array.getElem?_eq_none_iff]at hq;omega
    rw[hr]at this;cases this
 have hdone:∀ (listed:Array Bool),(L.filter fun p=> !listed.getD p.1 true)= []→Region.ready .any opsA listed= []:=by
  intro listed hf;rw[List.eq_nil_iff_forall_not_mem];intro i hi;obtain⟨o,ho,h1,_⟩:=(hready listed i).1 hi;obtain⟨un,hu⟩:=gc.1 (eJ i (Array.getElem?_eq_some_iff.1 ho).1);have:(i,un) ∈ L.filter fun p=> !listed.getD p.1 true:=List.mem_filter.2 ⟨hu,by simp only[h1,Bool.not_false]⟩
  rw[hf]at this;cases this
 induction fuel with
 | zero=>
   intro listed rd s a w hsz hcl hlen hops hm;have hf:=List.eq_nil_of_length_eq_zero (Nat.le_zero.1 hlen);refine⟨hdone listed hf,?_⟩;rw[hf]at hops
   exact hQ s a w hops hm
 | succ fuel ih=>
   intro listed rd s a w hsz hcl hlen hops hm;refine⟨fun hr=> ?_,fun i hi=> ?_⟩
   · rw[hempty listed hsz hr]at hops;exact hQ s a w hops hm
   obtain⟨o,ho,hil,hie⟩:=(hready listed i).1 hi;have hilt:i<opsA.size:=(Array.getElem?_eq_some_iff.1 ho).1;obtain⟨un,hu⟩:=gc.1 (eJ i hilt);obtain⟨X,Y,hXY⟩:=List.append_of_mem hu;obtain⟨o',hrow⟩:=hrows X Y i un hXY;have hoo:o' =o:=by have:=hrow.ho;simp only[Array.getElem?_toList,ho]at this;exact(Option.some.inj this).symm
   subst hoo
   have hgt:∀e,listed.getD e false=true→listed.getD e true=true:=by
    intro e he;simp only[Array.getD_eq_getD_getElem?]at he ⊢
    cases hq:listed[e]? with
    |none=>rfl
    |some b=>rw[hq]at he;simpa using he
   have hanc:∀j p,Mk opsA.toList j p→(∀o,opsA[j]? =some o→∀e ∈ fp o,listed.getD e true=true)→listed.getD p true=true:=by
    intro j p hA
    induction hA with
    |edge ho he=>intro h;exact h _ (by simpa using ho) _ he
    | step ho he _ ih=>
      intro h;have h1:=h _ (by simpa using ho) _ he;exact ih (fun o2 ho2 e2 he2=>hcl _ _ h1 ho2 e2 he2)
   let f:Nat×List Nat→Bool:=fun p=> !listed.getD p.1 true
   have hsplit:L.filter f=X.filter f++(i,un)::Y.filter f:=by
    rw[hXY,List.filter_append,List.filter_cons];have:f (i,un)=true:=by simp only[f,hil,Bool.not_false]
    rw[if_pos this]
   have hX:∀x unx,(x,unx) ∈ X.filter f→(∃ox,opsA.toList[x]? =some ox∧aZ C ox=true∧vO opsA.toList ox o')∧mem un x=true∧mem unx i=false:=by
    intro x unx hx;obtain⟨hx1,hx2⟩:=List.mem_filter.1 hx;have hxl:listed.getD x true=false:=by simpa [f]using hx2
    have hxf:x ∈ eD X:=gc.2 ⟨unx,hx1⟩
    have hxu:x ∈ un:=by
     rcases hrow.split x hxf with q|q
     · have:=hanc i x q (fun o2 ho2 e he=>hgt e (hie e (by rw[ho]at ho2;cases ho2;exact he)));rw[hxl]at this;cases this
     · exact q
    refine⟨(hrow.un x hxu).2,(mem_iff _ _).2 hxu,?_⟩;obtain⟨X1,Y1,hX1⟩:=List.append_of_mem hx1;obtain⟨ox,hox⟩:=hrows X1 (Y1++(i,un)::Y) x unx (by rw[hXY,hX1];simp)
    cases hq:mem unx i with
    |false=>rfl
    | true=>
      exfalso;have h1:=(hox.un i ((mem_iff _ _).1 hq)).1;obtain⟨u1,hu1⟩:=gc.1 h1;exact hrow.new (gc.2 ⟨u1,by rw[hX1];exact List.mem_append_left _ hu1⟩)
   have hmv:=H5 hrow.ho hX (by have h9:=hops;rw[show(L.filter fun p=> !listed.getD p.1 true)=L.filter f from rfl,hsplit]at h9;exact h9)
   have hrest:(L.filter fun p=> !(listed.setIfInBounds i true).getD p.1 true)=X.filter f++Y.filter f:=by
    have hne:∀ (Z:List (Nat×List Nat)),(∀q ∈ Z,q.1≠i)→(Z.filter fun p=> !(listed.setIfInBounds i true).getD p.1 true)=Z.filter f:=by
     intro Z hZ;refine List.filter_congr (fun q hq=> ?_);rw[fj (by rw[hsz];exact hilt),if_neg (fun e=>hZ q hq e.symm)]
    rw[hXY,List.filter_append,List.filter_cons];have hi1:(!(listed.setIfInBounds i true).getD i true)=false:=by rw[fj (by rw[hsz];exact hilt)];simp
    simp only[hi1,Bool.false_eq_true,if_false];rw[hne X (fun q hq e=>hrow.new (gc.2 ⟨q.2,by rw[←e];exact hq⟩)),hne Y (fun q hq e=> ?_)];obtain⟨Y1,Y2,hY⟩:=List.append_of_mem hq;obtain⟨j,u⟩:=q;simp only at e;subst e;obtain⟨oq,hoq⟩:=hrows (X++(j,un)::Y1) Y2 j u (by rw[hXY,hY];simp);exact hoq.new (gc.2 ⟨un,List.mem_append_right _ List.mem_cons_self⟩)
   have hlen':(L.filter fun p=> !(listed.setIfInBounds i true).getD p.1 true).length≤fuel:=by
    rw[hrest];have h9:=hlen;rw[show(L.filter fun p=> !listed.getD p.1 true)=L.filter f from rfl,hsplit]at h9;simp only[List.length_append,List.length_cons]at h9 ⊢;omega
   have hcl':∀j o,(listed.setIfInBounds i true).getD j true=true→opsA[j]? =some o→∀e ∈ fp o,(listed.setIfInBounds i true).getD e true=true:=by
    intro j oj hj hoj e he;rw[fj (by rw[hsz];exact hilt)]at hj ⊢;split
    · rfl
    · by_cases hij:i=j
      · subst hij;rw[ho]at hoj;cases hoj;exact hgt e (hie e he)
      · rw[if_neg hij]at hj;exact hcl j oj hj hoj e he
   have hnext:∀ (rd:List bv) s a w,wX P T C opsA.toList (X.filter f++Y.filter f) rd k s→iI A s a w→wpAny P .any opsA Q fuel (listed.setIfInBounds i true) a w:=by
    intro rd s a w h1 h2;exact ih (listed.setIfInBounds i true) rd s a w (by simpa using hsz) hcl' hlen' (by rw[hrest];exact h1) h2
   obtain⟨o2,ho2,hcase⟩:=hmv;have ho2':opsA[i]? =some o2:=by simpa using ho2
   have hN1:∀d,o2.dst=some d→d<A.N:=by
    intro d hd;have:=hN o2 (List.mem_of_getElem? ho2);unfold EI at this;rw[hd]at this;simpa [Nat.blt_eq]using this
   obtain⟨h0,G,β,hg⟩:=hm;unfold wpOp;rw[ho2'];simp only;rcases hcase with⟨h1,h2,h3⟩|⟨h1,h2⟩
   · rw[if_pos (kP hg h1)];refine .inl (Oper.wp_mono (fun a' w' hu=> ?_) (bQ hT h0 hg hN1 h3));obtain⟨u,hu1,hu2⟩:=hu;exact hnext _ _ _ _ hu1.2 hu2
   · rw[if_neg (by rw[kP hg h1];simp)];exact hnext _ _ _ _ h2 (MG.fin (s:=s) (rs:= []) (us:= []) (h0:=h0) hg hN1 .undef)
theorem bR (hT:aR P T)(hm:P.follows .mixedOrders=true)(C:List Nat){id:Nat}{opsA:Array Oper}{k:St→Prop}{s:St}(L:List (Nat×List Nat))(hok:GO C opsA.toList L=true)
 (h:JJ P T C opsA.toList L [] k s):xd P id opsA k s:=by
 refine⟨fun A a w hN hmod=> ?_⟩;unfold GO at hok;rw[Bool.and_eq_true]at hok;have hrows:=AZ (acc:= []) (fun _ _ hj=>by cases hj) hok.1
 have eJ:∀i,i<opsA.size→i ∈ eD L:=fun i hi=>by
  have:=List.all_eq_true.1 hok.2 i (by simpa using hi);rwa [mem_iff]at this
 have hfilter:∀Z:List (Nat×List Nat),(∀p ∈ Z,p.1<opsA.size)→(Z.filter fun p=> !(Array.replicate opsA.size false).getD p.1 true)=Z:=by
  intro Z hZ;rw[List.filter_eq_self];intro p hp;have:=hZ p hp;simp[Array.getD_eq_getD_getElem?,Array.getElem?_replicate,this]
 have hlt:∀p ∈ L,p.1<opsA.size:=by
  intro p hp;obtain⟨X,Y,hXY⟩:=List.append_of_mem hp;obtain⟨o,ho⟩:=hrows X Y p.1 p.2 hXY;exact(Array.getElem?_eq_some_iff.1 (by simpa using ho.ho)).1
 have hnodup:L.length≤opsA.size:=by
  have key:∀ (Z W:List (Nat×List Nat)),L=Z++W→(eD Z).Nodup:=by
   have key':∀ (n:Nat) (Z W:List (Nat×List Nat)),Z.length=n→L=Z++W→(eD Z).Nodup:=by
    intro n
    induction n with
    |zero=>
     intro Z W hn _;have:Z= []:=List.eq_nil_of_length_eq_zero hn
     subst this;simp[eD]
    |succ n ih=>
     intro Z0 W hn hW;have hne:Z0≠ []:=by intro e;subst e;simp at hn
     obtain⟨Z,p,rfl⟩:∃Z p,Z0=Z++ [p]:=⟨Z0.dropLast,Z0.getLast hne,(List.dropLast_concat_getLast hne).symm⟩;have h1:=ih Z (p::W) (by simpa using hn) (by rw[hW];simp);obtain⟨o,ho⟩:=hrows Z W p.1 p.2 (by rw[hW];simp)
     have hf:eD (Z++ [p])=eD Z++ [p.1]:=by
      clear hW h1 ho ih hn hne
      induction Z with
      |nil=>rfl
      |cons q Z ih=>simp[eD,ih]
     rw[hf,List.nodup_append];refine⟨h1,by simp,fun a ha b hb=> ?_⟩;simp at hb;subst hb;intro e;subst e;exact ho.new (by simpa [eD]using ha)
   exact fun Z W h=>key' Z.length Z W rfl h
  have hnd:=key L [] (by simp)
  have hlen:(eD L).length=L.length:=by
   clear hrows eJ hlt hnd key hok h hfilter
   induction L with
   |nil=>rfl
   |cons p L ih=>simp[eD,ih]
  have hsub:∀x ∈ eD L,x ∈ List.range opsA.size:=fun x hx=>by
   obtain⟨un,hu⟩:=gc.1 hx;exact List.mem_range.2 (hlt _ hu)
  have:=List.Nodup.length_le_of_subset hnd hsub;rw[hlen]at this;simpa using this
 refine wp_region_any hm ?_;obtain⟨h0,G,β,hg⟩:=hmod
 refine DN (P:=P) (T:=T) (C:=C) hT (k:=k) (Q:=M1 A (Od k)) (fun s a w hk hm=>⟨s,hk,hm⟩) (List.all_eq_true.1 hN) (fun X Y i un hXY=>by simpa [eD]using hrows X Y i un hXY) eJ
  opsA.size (Array.replicate opsA.size false) [] s a _ (by simp) (fun i o hi ho=> ?_) (by rw[hfilter L hlt];exact hnodup) (by rw[hfilter L hlt];exact Lo h) ⟨h0,G,β,hg.drew⟩
 have hlt':=(Array.getElem?_eq_some_iff.1 ho).1;simp[Array.getD_eq_getD_getElem?,Array.getElem?_replicate,hlt']at hi
end
end Go.Eng
namespace Go.Eng
open Go
def Dc:List (Nat×SV)→Nat→SV
 | [],_=>.any
 |(e,x)::l,i=>bif Nat.beq i e then x else Dc l i
def aI (ts:List (Nat×SV))(rs:List (Nat×aY)):St:=⟨Dc ts,aC rs,fun d=>(aC rs d).isSome||Nat.ble 1000000 d⟩
def Mx (ρ:List (Nat×Nat)):Bool:=A5 ρ&&ρ.all fun p=>Nat.beq p.1 p.2|| !Nat.ble 1000000 p.1
def Ij (s:St)(ρ:List (Nat×Nat)):List (Nat×SV)→Prop
 | []=>True
 |(i,y)::l=>SV.le (s.tmps i) (y.ren ρ)∧Ij s ρ l
def tX (s:St)(ρ:List (Nat×Nat)):List (Nat×aY)→Prop
 | []=>True
 |(d,r)::l=>(match aH ρ d with|some c=>(match s.res c with|some r0=>aY.le r0 (r.ren ρ)|none=>False)|none=>False)∧tX s ρ l
theorem ko {s:St}{ρ:List (Nat×Nat)}:∀ {l:List (Nat×aY)} {d:Nat} {r:aY},tX s ρ l→aC l d=some r→∃c r0,aH ρ d=some c∧s.res c=some r0∧aY.le r0 (r.ren ρ):=by
 intro l
 induction l with
 |nil=>intro d r _ h;cases h
 | cons p l ih=>
   obtain⟨e,r'⟩:=p;intro d r ho h;obtain⟨h1,h2⟩:=ho;simp only[aC]at h
   by_cases he:d=e
   · subst he;simp at h;subst h;split at h1
     · rename_i c hc;split at h1
       · rename_i r0 hr;exact⟨c,r0,hc,hr,h1⟩
       · exact h1.elim
     · exact h1.elim
   · rw[ax he]at h;exact ih h2 h
theorem Hi {s:St}{ρ:List (Nat×Nat)}:∀ {l:List (Nat×SV)} {i:Nat},Ij s ρ l→SV.le (s.tmps i) ((Dc l i).ren ρ):=by
 intro l
 induction l with
 |nil=>intro i _;exact fun G β v _=>.any v
 | cons p l ih=>
   obtain⟨e,y⟩:=p;intro i ho;obtain⟨h1,h2⟩:=ho;simp only[Dc]
   by_cases he:i=e
   · subst he;simpa using h1
   · rw[ax he];exact ih h2
theorem JD {ρ:List (Nat×Nat)}(h:Mx ρ=true){d c:Nat}(hd:aH ρ d=some c)(hb:Nat.ble 1000000 d=true):c=d:=by
 unfold Mx at h;rw[Bool.and_eq_true]at h;have:=List.all_eq_true.1 h.2 _ (cQ hd);rw[Bool.or_eq_true]at this;rcases this with q|q
 · exact(Nat.eq_of_beq_eq_true q).symm
 · simp[hb]at q
theorem dc.trans {a b c:St}(h:dc a b)(k:dc b c):dc a c:=⟨fun A x w m=>k.imp A x w (h.imp A x w m)⟩
theorem af {s:St}{ts:List (Nat×SV)}{rs:List (Nat×aY)}(ρ:List (Nat×Nat))(hρ:Mx ρ=true)(hdom:(ρ.all fun p=>(aC rs p.1).isSome)=true)(ht:Ij s ρ ts)(hr:tX s ρ rs):
 dc s (aI ts rs):=by
 refine⟨fun A a w=> ?_⟩;rintro⟨h0,G,β,h⟩
 have hok:A5 ρ=true:=by
  have:=hρ;unfold Mx at this;rw[Bool.and_eq_true]at this;exact this.1
 let β':eZ:=fun d' =>match aH ρ d' with|some d=>β d|none=>bif Nat.ble 1000000 d' then β d' else none
 have hle:eZ.le (fun d=>(aH ρ d).bind β) β':=by
  intro d v hv;simp only[β']
  cases hl:aH ρ d with
  |none=>simp[hl]at hv
  |some c=>simpa [hl]using hv
 have hin:∀ {d c:Nat},aH ρ d=some c→β' d=β c:=fun{d c} hd=>by simp only[β',hd]
 refine⟨h0,G,β',h.sz,h.g0,fun d v hv=> ?_,h.gw,h.gn,h.keep,fun i=> ?_,fun d r hd=> ?_,fun d d' r r' v v' b e1 e2 o1 o2 f1 f2 b1 b2=> ?_,fun d r v b e1 o1 f1 b1=> ?_,fun d v hv=> ?_⟩
 · have hb:=A.hE d v hv;have hv':=h.e0 d v hv;simp only[β']
   cases hl:aH ρ d with
   |none=>simp[hb,hv']
   |some c=>have:=JD hρ hl hb;subst this;exact hv'
 · exact((Hi (i:=i) ht G β _ (h.tm i)).unren _ rfl).mono (Hp.le_refl G) hle
 · obtain⟨c,r0,hc,nM,hl⟩:=ko hr hd;exact((hl.2 _ _ _ _ (h.rs c r0 nM)).unren hc).keep (Hp.le_refl G) hle (fun _ _ _ _ _=>rfl)
 · obtain⟨c,r0,hc,nM,hl⟩:=ko hr e1;obtain⟨c',r0',hc',hs0',hl'⟩:=ko hr e2;rw[hin hc]at f1;rw[hin hc']at f2;have:=h.dj c c' r0 r0' v v' b nM hs0' (by rw[hl.own',cZ];exact o1) (by rw[hl'.own',cZ];exact o2) f1 f2 (b1.to (by rw[hl.isR',cA])) (b2.to (by rw[hl'.isR',cA]));subst this;exact r6 hok (cQ hc) (cQ hc')
 · obtain⟨c,r0,hc,nM,hl⟩:=ko hr e1;rw[hin hc]at f1;exact h.og c r0 v b nM (by rw[hl.own',cZ];exact o1) f1 (b1.to (by rw[hl.isR',cA]))
 · simp only[aI,Bool.or_eq_true]
   cases hl:aH ρ d with
   |some c=>exact .inl (List.all_eq_true.1 hdom _ (cQ hl))
   | none=>
     simp only[β',hl]at hv
     cases hb:Nat.ble 1000000 d with
     |true=>exact .inr rfl
     |false=>rw[hb]at hv;cases hv
theorem dc.nil {s:St}(i d e k:Nat)(g:Nat→List DV)(hi:s.tmps i= .d .nilsl)(hd:s.used d=false)(hk:0<k):dc s (s.app ⟨some i,.buf d,[(d,some (.buf e k 0 g))],[d]⟩):=by
 refine⟨fun A a w=> ?_⟩;rintro⟨h0,G,β,h⟩;refine⟨h0,G,β.set d (.slice none 0 0),?_⟩;have hn:=h.name (r:=.buf e k 0 g) (v:=.slice none 0 0) hd rfl (fun b hb=>by cases hb) ⟨_,[],by simp[eZ.set],World.ownsRow_nil w 0 e k,hk,fun i hi=>by omega,fun i j x hi=>by omega⟩;refine⟨hn.sz,hn.g0,hn.e0,hn.gw,hn.gn,hn.keep,fun j=> ?_,hn.rs,hn.dj,hn.og,hn.sc⟩;simp only[St.app,fH]
 by_cases e:i=j
 · subst e;simp only[if_true];have ht:=h.tm i;rw[hi]at ht;generalize a.tmps.getD i Go.undef=v at ht;cases ht with|d _ _ hv=>cases hv;exact .buf _ _ (by simp[eZ.set]) rfl
 · rw[if_neg (by simp[e])];exact hn.tm j
theorem ek {e k n m:Nat}{g h:Nat→List DV}(hn:n=m)(hg:∀i,i<n→g i=h i):aY.le (.buf e k n g) (.buf e k m h):=by
 subst hn;refine⟨rfl,fun G β w d=> ?_⟩;rintro⟨v,xs,h1,h2,h3,h4,h5⟩;exact⟨v,xs,h1,h2,h3,fun i hi=>by rw[←hg i hi];exact h4 i hi,fun i j x hi hx=>h5 i j x hi (by rw[hg i hi];exact hx)⟩
theorem vo {G:Hp}{k n m:Nat}{g h:Nat→List DV}(hn:n=m)(hg:∀i,i<n→g i=h i){v:Value}(hv:aJ G (.ro k n g) v):aJ G (.ro k m h) v:=by
 subst hn
 cases hv with
 |ronil=>exact .ronil k h
 | ro _ _ _ a cap vals hs hcap hmax hl hc hd=>
   exact .ro k n h a cap vals hs hcap hmax (fun i hi=>by rw[←hg i hi];exact hl i hi) (fun i j x hi hx=>hc i j x hi (by rw[hg i hi];exact hx)) (fun i j x hi hx=>hd i j x hi (by rw[hg i hi];exact hx))
theorem bZ {k n m:Nat}{g h:Nat→List DV}(hn:n=m)(hg:∀i,i<n→g i=h i):SV.le (.d (.ro k n g)) (.d (.ro k m h)):=by
 intro G β v hv;cases hv with|d _ _ hv=>exact .d _ _ (vo hn hg hv)
theorem D7 {k:Nat}{g:Nat→List DV}:SV.le (.d .nilsl) (.d (.ro k 0 g)):=by
 intro G β v hv;cases hv with|d _ _ hv=>cases hv;exact .d _ _ (.ronil k g)
theorem bC {ag va:Bool}{ks:List KK}{zr:List DV}{has has':List DV→Bool}{val val':List DV→List DV}(h:∀key,wk ks key=true→has key=has' key∧val key=val' key):
 aY.le (.map ag va ks zr has val) (.map ag va ks zr has' val'):=by
 refine⟨rfl,fun G β w d=> ?_⟩;rintro⟨r,es,clock,l,h1,h2,h3,h4,h5,h6⟩;refine⟨r,es,clock,l,h1,h2,h3,h4,h5,fun key hk=> ?_⟩;have:=h6 key hk;rw[(h key hk).1,(h key hk).2]at this;exact this
theorem fP {ag va:Bool}{ks:List KK}{zr:List DV}{has has':List DV→Bool}{val val':List DV→List DV}{clock:Nat}{kb:List (List DV×Nat)}(h:∀key,wk ks key=true→has key=has' key∧val key=val' key):
 aY.le (.mapB ag va ks zr has val clock kb) (.map ag va ks zr has' val'):=by
 refine⟨rfl,fun G β w d=> ?_⟩;rintro⟨r,es,l,h1,h2,h3,h4,h5,_,h6⟩;refine⟨r,es,clock,l,h1,h2,h3,h4,h5,fun key hk=> ?_⟩;have:=h6 key hk;rw[(h key hk).1,(h key hk).2]at this;exact this
theorem ap {k:IntKind}{n m:Int}(h:n=m):SV.le (.d (.int k n)) (.d (.int k m)):=by subst h;exact SV.le_refl _
theorem a7 (x:SV):SV.le x .any:=fun _ _ v _=>.any v
theorem pM {e:TypeId}{l l':List SV}(hl:l.length=l'.length)(h:∀ (i:Nat) x y,l[i]? =some x→l'[i]? =some y→SV.le x y):aY.le (.cells e l) (.cells e l'):=by
 refine⟨rfl,fun G β w d=> ?_⟩;rintro⟨b,vs,h1,h2,h3,h4⟩;refine⟨b,vs,h1,h2,h3.trans hl,fun i y v hy hv=> ?_⟩;have hi:i<l.length:=by rw[hl];exact(List.getElem?_eq_some_iff.1 hy).1
 exact h i _ y (List.getElem?_eq_getElem hi) hy G β v (h4 i _ v (List.getElem?_eq_getElem hi) hv)
def aW {α:Type}(f:α→List DV)(d:α)(l:List α):Nat→List DV:=fun i=>f (l.getD i d)
theorem jn {α:Type}{f:α→List DV}{d:α}{l:List α}{i:Nat}(h:i<l.length):aW f d l i=f l[i]:=by simp[aW,List.getD_eq_getElem?_getD,h]
abbrev dC {α:Type}(k:Nat)(f:α→List DV)(d:α)(l:List α):DV:=.ro k l.length (aW f d l)
abbrev aL {α:Type}(e k:Nat)(f:α→List DV)(d:α)(l:List α):aY:=.buf e k l.length (aW f d l)
theorem zj {α:Type}{f:α→List DV}{d:α}{l:List α}{rows:List (List DV)}(h:rows=l.map f):∀i,i<l.length→rows.getD i []=aW f d l i:=by
 intro i hi;subst h;rw[jn hi,List.getD_eq_getElem?_getD];simp[hi]
theorem aj {α:Type}{k:Nat}{f:α→List DV}{d:α}{l:List α}{rows:List (List DV)}{n:Nat}(hn:n=l.length)(h:rows=l.map f):SV.le (.d (.ro k n fun i=>rows.getD i [])) (.d (dC k f d l)):=
 bZ hn (fun i hi=>zj h i (hn ▸ hi))
theorem Bf {α:Type}{e k:Nat}{f:α→List DV}{d:α}{l:List α}{rows:List (List DV)}{n:Nat}(hn:n=l.length)(h:rows=l.map f):aY.le (.buf e k n fun i=>rows.getD i []) (aL e k f d l):=
 ek hn (fun i hi=>zj h i (hn ▸ hi))
theorem aO {α:Type}{k:Nat}{f:α→List DV}{d:α}:SV.le (.d .nilsl) (.d (dC k f d [])):=D7
theorem kX {α:Type}{f:α→List DV}{d:α}{l:List α}{x:α}{h:Nat→List DV}(hx:h 0=f x):∀i,i<l.length+1→eS l.length (aW f d l) h i=aW f d (l++ [x]) i:=by
 intro i hi;rcases Nat.lt_or_ge i l.length with q|q
 · rw[iO q,jn q,jn (by simp;omega)];simp[q]
 · have:i=l.length:=by omega
   subst this;rw[fQ (Nat.le_refl _),jn (by simp)];simp[hx]
theorem aG {α:Type}{f:α→List DV}{d:α}{l:List α}{x:α}{e k:Nat}{h:Nat→List DV}(hx:h 0=f x):
 aY.le (.buf e k (l.length+1) (eS l.length (aW f d l) h)) (aL e k f d (l++ [x])):=ek (by simp) (kX hx)
theorem m7 {α:Type}{f:α→List DV}{d:α}{l:List α}{x:α}{j off:Nat}{ds:List DV}(hj:∀y,l[j]? =some y→cm (f y) off ds=f x):
 ∀i,i<l.length→(bif Nat.beq i j then cm (aW f d l i) off ds else aW f d l i)=aW f d (l.set j x) i:=by
 intro i hi
 by_cases e:i=j
 · subst e;simp only[Nat.beq_refl,cond_true];rw[jn hi,jn (by simpa using hi),hj _ (List.getElem?_eq_getElem hi)];simp
 · rw[ax e,cond_false,jn hi,jn (by simpa using hi)];simp[List.getElem_set,Ne.symm e]
theorem qp {α:Type}{f:α→List DV}{d:α}{l:List α}{x:α}{j off:Nat}{ds:List DV}{get:Nat→List DV}(hg:∀i,i<l.length→get i=aW f d l i)(hj:∀y,l[j]? =some y→cm (f y) off ds=f x):
 ∀i,i<l.length→(bif Nat.beq i j then cm (get i) off ds else get i)=aW f d (l.set j x) i:=by
 intro i hi;rw[hg i hi];exact m7 hj i hi
theorem qM {α:Type}{f:α→List DV}{d:α}{l:List α}{x:α}{e k j off:Nat}{ds:List DV}(hj:∀y,l[j]? =some y→cm (f y) off ds=f x):
 aY.le (.buf e k l.length fun i=>bif Nat.beq i j then cm (aW f d l i) off ds else aW f d l i) (aL e k f d (l.set j x)):=ek (by simp) (m7 hj)
theorem tf {α:Type}{f:α→List DV}{d:α}{l:List α}{x:α}{k j off:Nat}{ds:List DV}(hj:∀y,l[j]? =some y→cm (f y) off ds=f x):
 SV.le (.d (.ro k l.length fun i=>bif Nat.beq i j then cm (aW f d l i) off ds else aW f d l i)) (.d (dC k f d (l.set j x))):=bZ (by simp) (m7 hj)
def iF:Int→List DV:=fun x=> [.int .i64 x]
def sF:List UInt8→List DV:=fun x=> [.str x]
abbrev gr (l:List Int):DV:=dC 1 iF 0 l
abbrev eE (l:List (List UInt8)):DV:=dC 1 sF [] l
theorem ao {α:Type}{l:List α}{i:Nat}{x:α}(h:i<l.length):l.getD i x ∈ l:=by rw[List.getD_eq_getElem?_getD];simp[h]
def kM (ρ:List (Nat×Nat)):List SV→List SV→Prop
 | [],[]=>True
 |x::l,y::m=>SV.le x (y.ren ρ)∧kM ρ l m
 |_,_=>False
theorem ue {ρ:List (Nat×Nat)}:∀ {l m:List SV},kM ρ l m→l.length=m.length∧∀ (i:Nat) x y,l[i]? =some x→m[i]? =some y→SV.le x (y.ren ρ):=by
 intro l
 induction l with
 | nil=>
   intro m h
   cases m with
   |nil=>exact⟨rfl,by simp⟩
   |cons y m=>exact h.elim
 | cons x l ih=>
   intro m h
   cases m with
   |nil=>exact h.elim
   | cons y m=>
     obtain⟨h1,h2⟩:=h;obtain⟨i1,i2⟩:=ih h2;refine⟨by simp[i1],fun i a b ha hb=> ?_⟩
     cases i with
     |zero=>simp at ha hb;subst ha;subst hb;exact h1
     |succ i=>exact i2 i a b (by simpa using ha) (by simpa using hb)
def sO (s:St)(rin:List (Nat×aY)):List (Nat×Nat)→Bool
 | []=>true
 |(d,c)::l=>((aC rin d).isSome|| !s.used c)&&sO s rin l
theorem Bz {s:St}{rin:List (Nat×aY)}:∀ {l:List (Nat×Nat)} {d c:Nat},sO s rin l=true→(d,c) ∈ l→aC rin d=none→s.used c=false:=by
 intro l
 induction l with
 |nil=>intro d c _ h;cases h
 | cons p l ih=>
   obtain⟨e,f⟩:=p;intro d c h hd hn;simp only[sO,Bool.and_eq_true]at h;rcases List.mem_cons.1 hd with q|q
   · cases q;rw[hn]at h;simpa using h.1
   · exact ih h.2 q hn
def zz (ρ:List (Nat×Nat)):List (Nat×aY)→Bool
 | []=>true
 |(d,r)::l=>(aH ρ d).isSome&&r.okN ρ&&zz ρ l
theorem x8 {ρ:List (Nat×Nat)}:∀ {l:List (Nat×aY)} {d:Nat} {r:aY},zz ρ l=true→aC l d=some r→(aH ρ d).isSome=true∧r.okN ρ=true:=by
 intro l
 induction l with
 |nil=>intro d r _ h;cases h
 | cons p l ih=>
   obtain⟨e,r'⟩:=p;intro d r ho h;simp only[zz,Bool.and_eq_true]at ho;simp only[aC]at h
   by_cases he:d=e
   · subst he;simp at h;subst h;exact ho.1
   · rw[ax he]at h;exact ih ho.2 h
theorem dQ.of {P:Program}{f:FuncId}{dst:Option Nat}{args:List SV}{s:St}{av:List Nat}{k:cK→Prop}{sargs:List SV}{rin:List (Nat×aY)}{post:SV→List (Nat×aY)→Prop}
 (hs:ai P f sargs rin post)(ρ:List (Nat×Nat))(hok:A5 ρ=true)(ha:kM ρ args sargs)(hr:tX s ρ rin)(hro:sO s rin ρ=true)(hav:(ρ.all fun p=> !mem av p.2)=true)
 (hk:∀x rout,post x rout→(SV.okN ρ x&&zz ρ rout)=true∧k ⟨dst,x.ren ρ,tz ρ rout,ρ.map (·.2)⟩):dQ P f dst args s av k:=by
 obtain⟨ha1,ha2⟩:=ue ha;refine .call args s av k ρ sargs rin post hs hok ha1 ha2 (fun d r h=>ko hr h) (fun d c h hn=>Bz hro (cQ h) hn) (fun d c h=> ?_) (fun x rout hp=> ?_)
 · have:=List.all_eq_true.1 hav _ (cQ h);simpa using this
 · obtain⟨h1,h2⟩:=hk x rout hp;rw[Bool.and_eq_true]at h1;exact⟨h1.1,fun d r hd=>x8 h1.2 hd,h2⟩
theorem ai.mono {P:Program}{f:FuncId}{args:List SV}{rin:List (Nat×aY)}{post post':SV→List (Nat×aY)→Prop}(h:ai P f args rin post)(hp:∀x r,post x r→post' x r):ai P f args rin post':=
 ⟨h.enter,fun G β w vs h1 h2 h3=>(h.calls G β w vs h1 h2 h3).mono (by
   rintro e w' ⟨v,x,rout,G',β',h1,h2,h3,h4⟩
   exact⟨v,x,rout,G',β',h1,hp _ _ h2,h3,h4⟩)⟩
theorem ai.args {P:Program}{f:FuncId}{l m:List SV}{rin:List (Nat×aY)}{post:SV→List (Nat×aY)→Prop}(h:ai P f m rin post)(hl:l.length=m.length)(hle:∀ (i:Nat) x y,l[i]? =some x→m[i]? =some y→SV.le x y):ai P f l rin post:=
 ⟨h.enter,fun G β w vs h1 h2 h3=>h.calls G β w vs h1 (h2.trans hl) (fun i y v hy hv=>by
   have hi:i<l.length:=by rw[hl];exact(List.getElem?_eq_some_iff.1 hy).1
   exact hle i _ y (List.getElem?_eq_getElem hi) hy G β v (h3 i _ v (List.getElem?_eq_getElem hi) hv))⟩
def oZ:List SV→List SV→Prop
 | [],[]=>True
 |x::l,y::m=>SV.le x y∧oZ l m
 |_,_=>False
theorem jm:∀ {l m:List SV},oZ l m→l.length=m.length∧∀ (i:Nat) x y,l[i]? =some x→m[i]? =some y→SV.le x y:=by
 intro l
 induction l with
 | nil=>
   intro m h
   cases m with
   |nil=>exact⟨rfl,by simp⟩
   |cons y m=>exact h.elim
 | cons x l ih=>
   intro m h
   cases m with
   |nil=>exact h.elim
   | cons y m=>
     obtain⟨h1,h2⟩:=h;obtain⟨i1,i2⟩:=ih h2;refine⟨by simp[i1],fun i a b ha hb=> ?_⟩
     cases i with
     |zero=>simp at ha hb;subst ha;subst hb;exact h1
     |succ i=>exact i2 i a b (by simpa using ha) (by simpa using hb)
theorem ai.le {P:Program}{f:FuncId}{l m:List SV}{rin:List (Nat×aY)}{post:SV→List (Nat×aY)→Prop}(h:ai P f m rin post)(hle:oZ l m):ai P f l rin post:=
 h.args (jm hle).1 (jm hle).2
theorem aw {P:Program}{f:FuncId}{dst:Option Nat}{args:List SV}{s:St}{av:List Nat}{k:cK→Prop}{sargs:List SV}{y:SV}
 (hs:ai P f sargs [] fun x r=>x=y∧r= [])(ha:kM [] args sargs)(hy:SV.okN [] y=true)(hk:k ⟨dst,y.ren [],[],[]⟩):dQ P f dst args s av k:=
 dQ.of hs [] rfl ha trivial rfl rfl (by rintro x r ⟨rfl,rfl⟩;exact⟨by simp[hy,zz],hk⟩)
theorem az:(∀ (p:Prop) [Decidable p],(decide p=true)=p)∧(∀ (p:Prop) [Decidable p],(decide p=false)=¬p)∧(∀b:Bool,((!b)=true)=(b=false))∧(∀b:Bool,((!b)=false)=(b=true))∧
 (∀a b:Bool,((a&&b)=true)=(a=true∧b=true))∧(∀a b:Bool,((a||b)=true)=(a=true∨b=true))∧(∀ (α:Type) [BEq α] [LawfulBEq α] (a b:α),((a==b)=true)=(a=b))∧
 (∀ (α:Type) [BEq α] [LawfulBEq α] (a b:α),((a==b)=false)=¬(a=b))∧(∀a b:Prop,(¬(a∧b))=(a→¬b))∧(∀a b:Int,(¬(a≤b))=(b<a))∧(∀a b:Int,(¬(a<b))=(b≤a))∧(∀n:Nat,((n:Int)).toNat=n)∧
 (∀ (α:Type) (a b:α),(a≠b)=¬(a=b))∧(∀ (α:Type) (a:α),(a=a)=True)∧((¬True)=False)∧((¬False)=True):=by
 refine⟨fun p _=>by simp,fun p _=>by simp,fun b=>by simp,fun b=>by simp,fun a b=>by simp,fun a b=>by simp,fun α _ _ a b=>by simp,fun α _ _ a b=>by simp,fun a b=>by simp,fun a b=>by simp,fun a b=>by simp,fun n=>by simp,fun α a b=>rfl,fun α a=>by simp,by simp,by simp⟩
theorem Og {p q r:Prop}{k:Nat}{n m:Int}(hk:Nat.ble k 1024=true)(h:p∧q∧0≤n∧((1024:Nat):Int)*n≤m∧r):p∧q∧(k:Int)*n≤m∧r:=
 ⟨h.1,h.2.1,Int.le_trans (Int.mul_le_mul_of_nonneg_right (Int.ofNat_le.2 (Nat.le_of_ble_eq_true hk)) h.2.2.1) h.2.2.2.1,h.2.2.2.2⟩
theorem Oq {a k m:Nat}(hk:Nat.ble k 1024=true)(h:a*1024≤m):a*k≤m:=Nat.le_trans (Nat.mul_le_mul_left _ (Nat.le_of_ble_eq_true hk)) h
theorem lr {x:SV}:SV.le x x:=SV.le_refl x
theorem rr {x:aY}:aY.le x x:=aY.le_refl x
theorem Oo:(∀n:Int,aS n=(-9223372036854775808≤n∧n≤9223372036854775807))∧(∀ (α:Type) (a:α) (l:List α),(a::l).length=l.length+1)∧(∀ (α:Type) (l m:List α),(l++m).length=l.length+m.length)∧(∀α:Type,([]:List α).length=0)∧(∀ (α:Type) (l:List α) (i:Nat) (a:α),(l.set i a).length=l.length):=
 ⟨fun n=>by unfold aS;rfl,fun _ _ _=>rfl,fun _ _ _=>List.length_append,fun _=>rfl,fun _ _ _ _=>List.length_set⟩
def Gq (s:St)(ρ:List (Nat×Nat)):List (Nat×aY)→Prop
 | []=>True
 |(d,r)::l=>(∃c,aH ρ d=some c∧s.res c=some (r.ren ρ))∧Gq s ρ l
theorem Er {s:St}{ρ:List (Nat×Nat)}:∀ {l:List (Nat×aY)},Gq s ρ l→∀ {d r},aC l d=some r→∃c,aH ρ d=some c∧s.res c=some (r.ren ρ):=by
 intro l
 induction l with
 |nil=>intro _ d r h;cases h
 | cons p l ih=>
   obtain⟨e,q⟩:=p;intro h d r hl;simp only[aC]at hl
   by_cases he:d=e
   · subst he;simp at hl;subst hl;exact h.1
   · rw[ax he]at hl;exact ih h.2 hl
theorem dQ.look {P:Program}{f:FuncId}{dst:Option Nat}{args:List SV}{s:St}{av:List Nat}{k:cK→Prop}{sargs:List SV}{rin:List (Nat×aY)}{y:SV}
 (hs:ai P f sargs rin fun x r=>x=y∧r=rin)(ρ:List (Nat×Nat))(hok:A5 ρ=true)(ha:kM ρ args sargs)(hr:Gq s ρ rin)(hra:(ρ.all fun p=>(aC rin p.1).isSome)=true)(hav:(ρ.all fun p=> !mem av (p.2+1099511627776))=true)
 (hy:(SV.okN ρ y&&zz ρ rin)=true)(hk:k ⟨dst,y.ren ρ,[],[]⟩):dQ P f dst args s av k:=by
 obtain⟨ha1,ha2⟩:=ue ha;rw[Bool.and_eq_true]at hy;refine .peek args s av k ρ sargs rin y hs hok ha1 ha2 (fun d r h=>Er hr h) (fun d c h=> ?_) (fun d c h=> ?_) hy.1 (fun d r hd=>(x8 hy.2 hd).2) hk
 · have:=List.all_eq_true.1 hra _ (cQ h);exact Option.isSome_iff_exists.1 this
 · have:=List.all_eq_true.1 hav _ (cQ h);simpa using this
end Go.Eng
namespace Go.Eng
open Go Go.RowKit
theorem gV {P:Program}{f:FuncId}{args:List SV}{y:SV}(henter:∀args w,(callFunc f args).run P w= .ok (.enter f args) w)
 (h:∀ (G:Hp) (β:eZ) (w:World) (vs:List Value),(∀b o,G b=some o→w.heap[b]? =some o)→vs.length=args.length→(∀ (i:Nat) x v,args[i]? =some x→vs[i]? =some v→am G β x v)→
   ∃u,(∀G β,am G β y u)∧Calls P f vs.toArray w fun e w' =>e= .returned u∧Below w.heap.size w w'):ai P f args [] (fun x r=>x=y∧r= []):=by
 refine⟨henter,fun G β w vs hpre hl hd=> ?_⟩;obtain⟨u,hu,hc⟩:=h G β w vs hpre.gw hl hd;refine hc.mono ?_;rintro e w' ⟨rfl,hb⟩;refine⟨u,y,[],G,β,rfl,⟨rfl,rfl⟩,⟨Hp.le_refl G,eZ.le_refl β,fun b o hg=> ?_,fun b o hg=>.inl hg,⟨hb.os,hb.tape,hb.output,hb.size,fun b hlt _=>hb.block b hlt⟩,fun d r hd=>(by cases hd),fun d d' r r' v v' b hd=>(by cases hd),fun d r v b hd=>(by cases hd)⟩,hu G β⟩;have:=hpre.gw b o hg;have hlt:b<w.heap.size:=(Array.getElem?_eq_some_iff.1 this).1;rw[hb.block b hlt];exact this
theorem aN {a b:SV}{l m:List SV}(h:a=b)(k:l=m):a::l=b::m:=by rw[h,k]
mutual
theorem wx:∀x:SV,SV.okN [] x=true→SV.ren [] x=x
 | .any,_=>rfl
 | .bad,_=>rfl
 | .undef,_=>rfl
 | .d _,_=>rfl
 | .agg l,h=>by simp only[SV.ren];rw[pG l h]
 | .tup l,h=>by simp only[SV.ren];rw[pG l h]
 | .ptr _ _,h=>by simp[SV.okN,aH]at h
 | .buf _,h=>by simp[SV.okN,aH]at h
 | .bel _ _ _ _,h=>by simp[SV.okN,aH]at h
 | .mp _,h=>by simp[SV.okN,aH]at h
 | .fn f caps,h=>by simp only[SV.ren];rw[pG caps h]
 | .sub _ _ _ _,h=>by simp[SV.okN,aH]at h
theorem pG:∀l:List SV,c8 [] l=true→eG [] l=l
 | [],_=>rfl
 | x::l,h=>by
   simp only[c8,Bool.and_eq_true]at h;simp only[eG];rw[wx x h.1,pG l h.2]
end
theorem Az:∀ {l:List SV},c8 [] l=true→kM [] l l:=by
 intro l
 induction l with
 |nil=>intro _;trivial
 | cons x l ih=>
   intro h;simp only[c8,Bool.and_eq_true]at h;exact⟨by rw[wx x h.1];exact SV.le_refl _,ih h.2⟩
theorem bK {l m:List SV}(h:oZ l m):SV.le (.tup l) (.tup m):=by
 obtain⟨h1,h2⟩:=jm h;intro G β v hv
 cases hv with|tup _ vs hl hd=>
 refine .tup _ _ (hl.trans h1) (fun i y v hy hv=> ?_);have hi:i<l.length:=by rw[h1];exact(List.getElem?_eq_some_iff.1 hy).1
 exact h2 i _ y (List.getElem?_eq_getElem hi) hy G β v (hd i _ v (List.getElem?_eq_getElem hi) hv)
theorem ac {P:Program}{f:FuncId}{dst:Option Nat}{args:List SV}{s:St}{av:List Nat}{k:cK→Prop}{y:SV}
 (hs:ai P f args [] fun x r=>x=y∧r= [])(hargs:c8 [] args=true)(hy:SV.okN [] y=true)(hk:k ⟨dst,y,[],[]⟩):dQ P f dst args s av k:=by
 refine aw hs (Az hargs) hy ?_;rw[wx y hy];exact hk
end Go.Eng
namespace Go.Eng
open Go Go.RowKit
end Go.Eng
namespace Go.Eng
open Go
end Go.Eng
namespace Go.Eng
open Go
def NG (s:St)(ts:List Nat):List (Nat×SV):=ts.map fun i=>(i,s.tmps i)
def tH (s:St):List Nat→List (Nat×aY)
 | []=> []
 | d::l=>match s.res d with
   |some r=>(d,r)::tH s l
   |none=>tH s l
def Fw (ds:List Nat):List (Nat×Nat):=ds.map fun d=>(d,d)
def OD (s:St)(ds:List Nat):Bool:=ds.all fun d=>(s.res d).isSome
def Nq (s:St)(ρ:List (Nat×Nat))(ts:List Nat):Bool:=ts.all fun i=>(s.tmps i).okN ρ
def OE (s:St)(ρ:List (Nat×Nat))(ds:List Nat):Bool:=ds.all fun d=>match s.res d with|some r=>r.okN ρ|none=>true
theorem E9:∀ {ds:List Nat} {d c:Nat},aH (Fw ds) d=some c→c=d:=by
 intro ds
 induction ds with
 |nil=>intro d c h;cases h
 | cons e l ih=>
   intro d c h;simp only[Fw,List.map_cons,aH]at h
   by_cases q:d=e
   · subst q;simp at h;exact h.symm
   · rw[ax q]at h;exact ih h
theorem GW:∀ {ds:List Nat} {d:Nat},d ∈ ds→aH (Fw ds) d=some d:=by
 intro ds
 induction ds with
 |nil=>intro d h;cases h
 | cons e l ih=>
   intro d h;simp only[Fw,List.map_cons,aH]
   by_cases q:d=e
   · subst q;simp
   · rw[ax q];rcases List.mem_cons.1 h with p|p
     · exact absurd p q
     · exact ih p
mutual
theorem BR {ρ:List (Nat×Nat)}(hρ:∀d c,aH ρ d=some c→c=d):∀x:SV,SV.okN ρ x=true→SV.ren ρ x=x
 | .any,_=>rfl
 | .bad,_=>rfl
 | .undef,_=>rfl
 | .d _,_=>rfl
 | .agg l,h=>by simp only[SV.ren];rw[pq hρ l h]
 | .tup l,h=>by simp only[SV.ren];rw[pq hρ l h]
 | .ptr q o,h=>by
   simp only[SV.okN]at h;obtain⟨c,hc⟩:=Option.isSome_iff_exists.1 h
   simp only[SV.ren,hc];rw[hρ _ _ hc]
 | .buf q,h=>by
   simp only[SV.okN]at h;obtain⟨c,hc⟩:=Option.isSome_iff_exists.1 h
   simp only[SV.ren,hc];rw[hρ _ _ hc]
 | .bel q k i o,h=>by
   simp only[SV.okN]at h;obtain⟨c,hc⟩:=Option.isSome_iff_exists.1 h
   simp only[SV.ren,hc];rw[hρ _ _ hc]
 | .mp q,h=>by
   simp only[SV.okN]at h;obtain⟨c,hc⟩:=Option.isSome_iff_exists.1 h
   simp only[SV.ren,hc];rw[hρ _ _ hc]
 | .fn f caps,h=>by simp only[SV.ren];rw[pq hρ caps h]
 | .sub q k lo n,h=>by
   simp only[SV.okN]at h;obtain⟨c,hc⟩:=Option.isSome_iff_exists.1 h;simp only[SV.ren,hc];rw[hρ _ _ hc]
theorem pq {ρ:List (Nat×Nat)}(hρ:∀d c,aH ρ d=some c→c=d):∀l:List SV,c8 ρ l=true→eG ρ l=l
 | [],_=>rfl
 | x::l,h=>by
   simp only[c8,Bool.and_eq_true]at h;simp only[eG];rw[BR hρ x h.1,pq hρ l h.2]
end
theorem Ep {ρ:List (Nat×Nat)}(hρ:∀d c,aH ρ d=some c→c=d)(r:aY)(h:r.okN ρ=true):r.ren ρ=r:=by
 cases r<;>simp only[aY.ren]
 · simp only[aY.okN]at h;rw[pq hρ _ h]
 · simp only[aY.okN]at h;obtain⟨c,hc⟩:=Option.isSome_iff_exists.1 h;simp only[hc];rw[hρ _ _ hc]
theorem Ao {s:St}:∀ {ds:List Nat} {d:Nat},d ∈ ds→(s.res d).isSome=true→(aC (tH s ds) d).isSome=true:=by
 intro ds
 induction ds with
 |nil=>intro d h;cases h
 | cons e l ih=>
   intro d h hs;simp only[tH]
   by_cases q:d=e
   · subst q;obtain⟨r,hr⟩:=Option.isSome_iff_exists.1 hs;rw[hr];simp[aC]
   · have hd:d ∈ l:=by rcases List.mem_cons.1 h with p|p;exact absurd p q;exact p
     split
     · simp only[aC];rw[ax q];exact ih hd hs
     · exact ih hd hs
theorem dc.keep {s:St}(ts ds:List Nat)(h1:Mx (Fw ds)=true)(h2:OD s ds=true)(h3:Nq s (Fw ds) ts=true)(h4:OE s (Fw ds) ds=true):dc s (aI (NG s ts) (tH s ds)):=by
 have hρ:∀d c,aH (Fw ds) d=some c→c=d:=fun d c h=>E9 h
 refine af (Fw ds) h1 ?_ ?_ ?_
 · simp only[Fw,List.all_map];refine List.all_eq_true.2 (fun d hd=> ?_);exact Ao hd (List.all_eq_true.1 h2 d hd)
 · clear h1 h2 h4
   induction ts with
   |nil=>trivial
   | cons i l ih=>
     simp only[Nq,List.all_cons,Bool.and_eq_true]at h3;exact⟨by rw[BR hρ _ h3.1];exact SV.le_refl _,ih h3.2⟩
 · have go:∀l:List Nat,(∀d ∈ l,d ∈ ds)→tX s (Fw ds) (tH s l):=by
    intro l
    induction l with
    |nil=>intro _;trivial
    | cons d l ih=>
      intro hl;simp only[tH];have hd:=hl d List.mem_cons_self;have h4d:=List.all_eq_true.1 h4 d hd;split
      · rename_i r hr;rw[hr]at h4d;refine⟨?_,ih fun e he=>hl e (List.mem_cons_of_mem _ he)⟩;rw[GW hd];simp only[hr];rw[Ep hρ r h4d];exact aY.le_refl _
      · exact ih fun e he=>hl e (List.mem_cons_of_mem _ he)
   exact go ds fun _ h=>h
end Go.Eng
namespace Go.Eng
open Go
theorem dg {s:St}(c d e k j:Nat){ce:TypeId}{l:List SV}(g:Nat→List DV)(hc:s.res c=some (.cells ce l))(hj:l[j]? =some (.d .nilsl))(hd:s.used d=false)(hk:0<k)(hcd:Nat.beq c d=false):
 dc s (s.app ⟨none,.any,[(c,some (.cells ce (l.set j (.buf d)))),(d,some (.buf e k 0 g))],[d]⟩):=by
 refine⟨fun A a w=> ?_⟩;rintro⟨h0,G,β,h⟩;refine⟨h0,G,β.set d (.slice none 0 0),?_⟩;have hn:=h.name (r:=.buf e k 0 g) (v:=.slice none 0 0) hd rfl (fun b hb=>by cases hb) ⟨_,[],by simp[eZ.set],World.ownsRow_nil w 0 e k,hk,fun i hi=>by omega,fun i j x hi=>by omega⟩
 have hc1:(s.app ⟨none,.any,[(d,some (.buf e k 0 g))],[d]⟩).res c=some (.cells ce l):=by
  simp only[St.app,aD,aQ];rw[hcd];exact hc
 have hr2:∀x,(s.app ⟨none,.any,[(c,some (.cells ce (l.set j (.buf d)))),(d,some (.buf e k 0 g))],[d]⟩).res x=if x=c then some (.cells ce (l.set j (.buf d)))else(s.app ⟨none,.any,[(d,some (.buf e k 0 g))],[d]⟩).res x:=by
  intro x;simp only[St.app,aD,aQ]
  by_cases e:x=c
  · subst e;simp
  · rw[ax e];simp[e]
 have own:∀x r,(s.app ⟨none,.any,[(c,some (.cells ce (l.set j (.buf d)))),(d,some (.buf e k 0 g))],[d]⟩).res x=some r→∃r1,(s.app ⟨none,.any,[(d,some (.buf e k 0 g))],[d]⟩).res x=some r1∧r1.own=r.own∧r1.isR=r.isR:=by
  intro x r hx;rw[hr2]at hx;split at hx
  · rename_i q;subst q;cases hx;exact⟨_,hc1,rfl,rfl⟩
  · exact⟨r,hx,rfl,rfl⟩
 refine⟨hn.sz,hn.g0,hn.e0,hn.gw,hn.gn,hn.keep,hn.tm,fun x r hx=> ?_,fun x x' r1 r2 v1 v2 b h1 h2 o1 o2 e1 e2 b1 b2=> ?_,fun x r v b hx ho hv hb=> ?_,hn.sc⟩
 · rw [hr2]at hx;split at hx
   · rename_i q;subst q;cases hx;obtain⟨b,vs,q1,q2,q3,q4⟩:=hn.rs _ _ hc1;refine⟨b,vs,q1,q2,by rw[List.length_set];exact q3,fun i y v hy hv=> ?_⟩;rw[List.getElem?_set]at hy;split at hy
     · rename_i hij;subst hij;split at hy
       · cases hy;have:=q4 _ _ _ hj hv;cases this with|d _ _ hv' =>cases hv';exact .buf _ _ (by simp[eZ.set]) rfl
       · cases hy
     · exact q4 i y v hy hv
   · exact hn.rs x r hx
 · obtain⟨s1,p1,p2,p5⟩:=own _ _ h1;obtain⟨s2,p3,p4,p6⟩:=own _ _ h2;exact hn.dj x x' s1 s2 v1 v2 b p1 p3 (p2.trans o1) (p4.trans o2) e1 e2 (b1.to p5.symm) (b2.to p6.symm)
 · obtain⟨s1,p1,p2,p5⟩:=own _ _ hx;exact hn.og x s1 v b p1 (p2.trans ho) hv (hb.to p5.symm)
end Go.Eng
namespace Go.Eng
open Go
theorem ey {P:Program}{f:FuncId}{args:List SV}{c d e k j:Nat}{ce:TypeId}{l:List SV}{g:Nat→List DV}{rest:List (Nat×aY)}{post:SV→List (Nat×aY)→Prop}
 (h:ai P f args ((c,.cells ce (l.set j (.buf d)))::(d,.buf e k 0 g)::rest) post)(hk:0<k)(hcd:Nat.beq d c=false)(hj:l[j]? =some (.d .nilsl))(hr:aC rest d=none):
 ai P f args ((c,.cells ce l)::rest) post:=by
 refine⟨h.enter,fun G β w vs hpre hl hd=> ?_⟩;have hne:d≠c:=fun q=>by rw[q]at hcd;simp at hcd
 have hnd:aC ((c,aY.cells ce l)::rest) d=none:=by
  simp only[aC];rw[hcd];exact hr
 have hβ:β d=none:=by
  cases hq:β d with
  |none=>rfl
  |some v=>obtain⟨r,h1⟩:=hpre.sc _ _ hq;rw[hnd]at h1;cases h1
 have hle:β.le (β.set d (.slice none 0 0)):=fu hβ;have hs:(β.set d (.slice none 0 0)) d=some (.slice none 0 0):=by simp[eZ.set]
 have ho:∀x,x≠d→(β.set d (.slice none 0 0)) x=β x:=fun x q=>by simp[eZ.set,q]
 have look:∀x r,aC ((c,aY.cells ce (l.set j (.buf d)))::(d,.buf e k 0 g)::rest) x=some r→(x=d∧r= .buf e k 0 g)∨(x≠d∧∃r0,aC ((c,aY.cells ce l)::rest) x=some r0∧(r0.own=r.own∧r0.isR=r.isR)∧(r0=r∨(x=c∧r0= .cells ce l∧r= .cells ce (l.set j (.buf d))))):=by
  intro x r hx;simp only[aC]at hx
  by_cases q:x=c
  · subst q;simp at hx;refine .inr ⟨Ne.symm hne,.cells ce l,by simp[aC],by rw[←hx];exact⟨rfl,rfl⟩,.inr ⟨rfl,rfl,hx.symm⟩⟩
  · rw[ax q]at hx
    by_cases q2:x=d
    · subst q2;simp at hx;exact .inl ⟨rfl,hx.symm⟩
    · rw[ax q2]at hx;refine .inr ⟨q2,r,?_,⟨rfl,rfl⟩,.inl rfl⟩;simp only[aC];rw[ax q];exact hx
 have back:∀x r,aC ((c,aY.cells ce l)::rest) x=some r→∃r0,aC ((c,aY.cells ce (l.set j (.buf d)))::(d,.buf e k 0 g)::rest) x=some r0∧(r0.own=r.own∧r0.isR=r.isR):=by
  intro x r hx;simp only[aC]at hx
  by_cases q:x=c
  · subst q;simp at hx;exact⟨.cells ce (l.set j (.buf d)),by simp[aC],by rw[←hx];exact⟨rfl,rfl⟩⟩
  · rw[ax q]at hx;have q2:x≠d:=fun q2=>by subst q2;rw[hr]at hx;cases hx
    refine⟨r,?_,rfl,rfl⟩;simp only[aC];rw[ax q,ax q2];exact hx
 have hT:∀b,Ez w (β.set d (.slice none 0 0)) (aC ((c,aY.cells ce (l.set j (.buf d)))::(d,.buf e k 0 g)::rest)) b↔Ez w β (aC ((c,aY.cells ce l)::rest)) b:=by
  intro b;constructor
  · rintro⟨x,r,v,h1,h2,h3,h4⟩;rcases look x r h1 with⟨rfl,rfl⟩|⟨q,r0,q1,⟨q2,q5⟩,_⟩
    · rw[hs]at h3;cases h3;cases h4.plain rfl
    · exact⟨x,r0,v,q1,q2.trans h2,by rw[←ho x q];exact h3,h4.to q5.symm⟩
  · rintro⟨x,r,v,h1,h2,h3,h4⟩;obtain⟨r0,q1,q2,q5⟩:=back x r h1;exact⟨x,r0,v,q1,q2.trans h2,hle _ _ h3,h4.to q5.symm⟩
 have hpre':Mw G (β.set d (.slice none 0 0)) w (aC ((c,aY.cells ce (l.set j (.buf d)))::(d,.buf e k 0 g)::rest)):=by
  refine⟨hpre.gw,fun x r hx=> ?_,fun x x' r r' v v' b h1 h2 o1 o2 e1 e2 b1 b2=> ?_,fun x r v b hx hx2 hv hb=> ?_,fun x v hx=> ?_⟩
  · rcases look x r hx with⟨rfl,rfl⟩|⟨q,r0,q1,q2,q3⟩
    · exact⟨.slice none 0 0,[],hs,World.ownsRow_nil w 0 e k,hk,fun i hi=>by omega,fun i j x hi=>by omega⟩
    · have hok:=hpre.rs x r0 q1;rcases q3 with rfl|⟨rfl,rfl,rfl⟩
      · cases r0 with
        | cells e' l' =>
          obtain⟨b,vs,k1,k2,k3,k4⟩:=hok
          exact⟨b,vs,hle _ _ k1,k2,k3,fun i x v hx hv=>(k4 i x v hx hv).mono (Hp.le_refl G) hle⟩
        | buf e' k' n' g' =>
          obtain⟨v,xs,k1,k2⟩:=hok
          exact⟨v,xs,hle _ _ k1,k2⟩
        | fro k' n' g' =>
          obtain⟨v,k1,k2⟩:=hok
          exact⟨v,hle _ _ k1,k2⟩
        | byb n' g' =>
          obtain⟨b,cap,cs,e,k1,k2⟩:=hok
          exact⟨b,cap,cs,e,hle _ _ k1,k2⟩
        | map ag va ks zr has val=>
          obtain⟨r,es,clock,l,k1,k2⟩:=hok
          exact⟨r,es,clock,l,hle _ _ k1,k2⟩
        | mapB ag va ks zr has val clock kb=>
          obtain⟨r,es,l,k1,k2⟩:=hok
          exact⟨r,es,l,hle _ _ k1,k2⟩
        | iter m since seen=>
          obtain⟨q,r,k1,k2,k3⟩:=hok
          exact⟨q,r,hle _ _ k1,hle _ _ k2,k3⟩
        | mapR kk e' k' has len get hole=>
          obtain⟨r,es,clock,l,k1,k2⟩:=hok
          exact⟨r,es,clock,l,hle _ _ k1,k2⟩
        | bunch e' k' l' =>
          obtain⟨⟨v,k1,k1b⟩,k2⟩:=hok
          exact⟨⟨v,hle _ _ k1,k1b⟩,k2⟩
        | inX X=>
          obtain⟨⟨v,k1⟩,k2⟩:=hok
          exact⟨⟨v,hle _ _ k1⟩,k2⟩
        | know Q=>
          obtain⟨⟨v,k1⟩,k2⟩:=hok
          exact⟨⟨v,hle _ _ k1⟩,k2⟩
        |no=>exact hok.elim
      · obtain⟨b,vs,k1,k2,k3,k4⟩:=hok;refine⟨b,vs,hle _ _ k1,k2,by rw[List.length_set];exact k3,fun i y v hy hv=> ?_⟩;rw[List.getElem?_set]at hy;split at hy
        · rename_i hij;subst hij;split at hy
          · cases hy;have:=k4 _ _ _ hj hv;cases this with|d _ _ hv' =>cases hv';exact .buf _ _ hs rfl
          · cases hy
        · exact(k4 i y v hy hv).mono (Hp.le_refl G) hle
  · rcases look x r h1 with⟨rfl,rfl⟩|⟨q,r0,q1,⟨q2,q5⟩,_⟩
    · rw[hs]at e1;cases e1;cases b1.plain rfl
    · rcases look x' r' h2 with⟨rfl,rfl⟩|⟨p,s0,p1,⟨p2,p5⟩,_⟩
      · rw[hs]at e2;cases e2;cases b2.plain rfl
      · exact hpre.dj x x' r0 s0 v v' b q1 p1 (q2.trans o1) (p2.trans o2) (by rw[←ho x q];exact e1) (by rw[←ho x' p];exact e2) (b1.to q5.symm) (b2.to p5.symm)
  · rcases look x r hx with⟨rfl,rfl⟩|⟨q,r0,q1,⟨q2,q5⟩,_⟩
    · rw[hs]at hv;cases hv;cases hb.plain rfl
    · exact hpre.og x r0 v b q1 (q2.trans hx2) (by rw[←ho x q];exact hv) (hb.to q5.symm)
  · by_cases q:x=d
    · subst q;refine⟨.buf e k 0 g,?_⟩;simp only[aC];rw[hcd];simp
    · rw[ho x q]at hx;obtain⟨r,h1⟩:=hpre.sc x v hx;obtain⟨r0,q1,_⟩:=back x r h1;exact⟨r0,q1⟩
 refine(h.calls G _ w vs hpre' hl (fun i x v hx hv=>(hd i x v hx hv).mono (Hp.le_refl G) hle)).mono ?_;rintro e' w' ⟨v,x,rout,G',β',h1,h2,h3,h4⟩;refine⟨v,x,rout,G',β',h1,h2,⟨h3.gle,fun x v hx=>h3.ele _ _ (hle _ _ hx),h3.gw,fun b o hb=> ?_,⟨h3.keep.os,h3.keep.tape,h3.keep.output,h3.keep.size,fun b hb hT' =>h3.keep.block b hb (fun q=>hT' ((hT b).1 q))⟩,h3.rs,h3.dj,fun x r v b q1 q2 q3 q4=> ?_⟩,h4⟩
 · rcases h3.gn b o hb with q|q|q
   · exact .inl q
   · exact .inr (.inl ((hT b).1 q))
   · exact .inr (.inr q)
 · obtain⟨p1,p2⟩:=h3.og x r v b q1 q2 q3 q4;refine⟨p1,?_⟩;rcases p2 with p2|p2
   · exact .inl ((hT b).1 p2)
   · exact .inr p2
theorem cy {s:St}(c d kk n j:Nat){ce:TypeId}{l:List SV}(g:Nat→List DV)(hc:s.res c=some (.cells ce l))(hj:l[j]? =some (.buf d))(hd:s.res d=some (.fro kk n g)):
 dc s (s.app ⟨none,.any,[(c,some (.cells ce (l.set j (.d (.ro kk n g)))))],[]⟩):=by
 refine⟨fun A a w=> ?_⟩;rintro⟨h0,G,β,h⟩;refine⟨h0,G,β,?_⟩;obtain⟨v,hv,hro⟩:=h.rs _ _ hd
 have hr2:∀x,(s.app ⟨none,.any,[(c,some (.cells ce (l.set j (.d (.ro kk n g)))))],[]⟩).res x=if x=c then some (.cells ce (l.set j (.d (.ro kk n g))))else s.res x:=by
  intro x;simp only[St.app,aD,aQ]
  by_cases e:x=c
  · subst e;simp
  · rw[ax e];simp[e]
 have own:∀x r,(s.app ⟨none,.any,[(c,some (.cells ce (l.set j (.d (.ro kk n g)))))],[]⟩).res x=some r→∃r1,s.res x=some r1∧r1.own=r.own∧r1.isR=r.isR:=by
  intro x r hx;rw[hr2]at hx;split at hx
  · rename_i q;subst q;cases hx;exact⟨_,hc,rfl,rfl⟩
  · exact⟨r,hx,rfl,rfl⟩
 refine⟨h.sz,h.g0,h.e0,h.gw,h.gn,h.keep,h.tm,fun x r hx=> ?_,fun x x' r1 r2 v1 v2 b h1 h2 o1 o2 e1 e2 b1 b2=> ?_,fun x r v b hx ho hv hb=> ?_,h.sc⟩
 · rw [hr2]at hx;split at hx
   · rename_i q;subst q;cases hx;obtain⟨b9,vs9,p1,p2,p3,p4⟩:=h.rs _ _ hc;refine⟨b9,vs9,p1,p2,by rw[List.length_set];exact p3,fun i y v' hy hv' => ?_⟩;rw[List.getElem?_set]at hy;split at hy
     · rename_i hij;subst hij;split at hy
       · cases hy;have:=p4 _ _ _ hj hv'
         cases this with|buf _ _ hb2 _=>
         rw[hv]at hb2;cases hb2;exact .d _ _ hro
       · cases hy
     · exact p4 i y v' hy hv'
   · exact h.rs x r hx
 · obtain⟨s1,p1,p2,p5⟩:=own _ _ h1;obtain⟨s2,p3,p4,p6⟩:=own _ _ h2;exact h.dj x x' s1 s2 v1 v2 b p1 p3 (p2.trans o1) (p4.trans o2) e1 e2 (b1.to p5.symm) (b2.to p6.symm)
 · obtain⟨s1,p1,p2,p5⟩:=own _ _ hx;exact h.og x s1 v b p1 (p2.trans ho) hv (hb.to p5.symm)
end Go.Eng
namespace Go.Eng
open Go
theorem aA {p q:Prop}(k:q)(h:p:=by(try dsimp only);first|omega|(refine Og rfl ?_;omega)|(refine Oq rfl ?_;omega)|(unfold aS;omega)|exact rfl|(simp only[List.toList_toArray,List.length_cons,List.length_nil];omega)|(simp only[Oo]at*;omega)|decide|(unfold aS;decide)):p∧q:=⟨h,k⟩
theorem aq {P:Program}{T:ca}(hT:aR P T)(id:Nat)(L:List (Nat×List Nat)){opsA:Array Oper}{k:St→Prop}{s:St}(h:JJ P T [] opsA.toList L [] k s)(hm:P.follows .mixedOrders=true:=by exact rfl)(hok:GO [] opsA.toList L=true:=by decide+kernel):xd P id opsA k s:=
 bR hT hm [] L hok h
theorem be {s:St}{ts:List (Nat×SV)}{rs:List (Nat×aY)}(ρ:List (Nat×Nat))(ht:Ij s ρ ts:=by repeat' (first|exact True.intro|exact lr|exact rr|exact ap (by omega)|exact a7 _|refine And.intro ?_ ?_))(hr:tX s ρ rs:=by repeat' (first|exact True.intro|exact lr|exact rr|exact ap (by omega)|exact a7 _|refine And.intro ?_ ?_))(hρ:Mx ρ=true:=by exact rfl)(hdom:(ρ.all fun p=>(aC rs p.1).isSome)=true:=by exact rfl):dc s (aI ts rs):=
 af ρ hρ hdom ht hr
theorem cd {P:Program}{f:FuncId}{dst:Option Nat}{args:List SV}{s:St}{av:List Nat}{k:cK→Prop}{sargs:List SV}{rin:List (Nat×aY)}{post:SV→List (Nat×aY)→Prop}(hs:ai P f sargs rin post)(ρ:List (Nat×Nat))(hk:∀x rout,post x rout→(SV.okN ρ x&&zz ρ rout)=true∧k ⟨dst,x.ren ρ,tz ρ rout,ρ.map (·.2)⟩)(hok:A5 ρ=true:=by exact rfl)(ha:kM ρ args sargs:=by first|exact trivial|exact⟨lr,trivial⟩|exact⟨lr,lr,trivial⟩|exact⟨lr,lr,lr,trivial⟩|exact⟨lr,lr,lr,lr,trivial⟩|exact⟨lr,lr,lr,lr,lr,trivial⟩|exact⟨lr,lr,lr,lr,lr,lr,trivial⟩|exact⟨lr,lr,lr,lr,lr,lr,lr,trivial⟩)(hr:tX s ρ rin:=by first|exact trivial|exact⟨rr,trivial⟩|exact⟨rr,rr,trivial⟩|exact⟨rr,rr,rr,trivial⟩|exact⟨rr,rr,rr,rr,trivial⟩|exact⟨rr,rr,rr,rr,rr,trivial⟩|exact⟨rr,rr,rr,rr,rr,rr,trivial⟩|exact⟨rr,rr,rr,rr,rr,rr,rr,trivial⟩|exact⟨rr,rr,rr,rr,rr,rr,rr,rr,trivial⟩|exact⟨rr,rr,rr,rr,rr,rr,rr,rr,rr,trivial⟩|exact⟨rr,rr,rr,rr,rr,rr,rr,rr,rr,rr,trivial⟩|exact⟨rr,rr,rr,rr,rr,rr,rr,rr,rr,rr,rr,trivial⟩|exact⟨rr,rr,rr,rr,rr,rr,rr,rr,rr,rr,rr,rr,trivial⟩)(hro:sO s rin ρ=true:=by exact rfl)(hav:(ρ.all fun p=> !mem av p.2)=true:=by exact rfl):dQ P f dst args s av k:=
 dQ.of hs ρ hok ha hr hro hav hk
theorem qJ {P:Program}{f:FuncId}{dst:Option Nat}{args:List SV}{s:St}{av:List Nat}{k:cK→Prop}{sargs:List SV}{y:SV}(hs:ai P f sargs [] fun x r=>x=y∧r= [])(hk:k ⟨dst,y.ren [],[],[]⟩)(ha:kM [] args sargs:=by first|exact trivial|exact⟨lr,trivial⟩|exact⟨lr,lr,trivial⟩|exact⟨lr,lr,lr,trivial⟩|exact⟨lr,lr,lr,lr,trivial⟩|exact⟨lr,lr,lr,lr,lr,trivial⟩|exact⟨lr,lr,lr,lr,lr,lr,trivial⟩|exact⟨lr,lr,lr,lr,lr,lr,lr,trivial⟩)(hy:SV.okN [] y=true:=by exact rfl):dQ P f dst args s av k:=
 aw hs ha hy hk
abbrev OL:=List (Nat×List Nat)
abbrev rg (n:Nat):List Nat:=List.range n
abbrev Oj:List (Nat×Nat):= [(1000001,1000001),(1000002,1000002)]
abbrev JX:List (Nat×Nat):= [(1000001,5),(1000002,40),(14,41)]
abbrev MF:List (Nat×Nat):= [(1000009,1000009),(1000005,1000005),(46,1000003)]
abbrev MY:List (Nat×Nat):= [(1000009,1000009),(1,1),(5,5),(40,41)]
abbrev MI:List (Nat×Nat):= [(1000001,1000001),(1000002,1000002),(1000003,1000003),(1000004,1000004),(1000005,1000005),(1000006,1000006),(1000007,1000007),(1000008,1000008),(1000010,1000010),(1000011,1000011)]
abbrev Ib:List (Nat×Nat):= [(1000001,1000001),(1000002,1000002),(1000003,1000003),(1000004,1000004),(1000005,1000005),(1000006,1000006),(1000007,1000007),(1000008,1000008),(1000010,1000010),(1000011,1000011),(50,60)]
abbrev ul:List (Nat×Nat):= [(1000001,1000001),(1000002,1000002),(1000003,1000003),(1000004,1000004),(50,1000005),(1000006,1000006),(1000007,1000007),(1000008,1000008),(1000010,1000010),(1000011,1000011)]
abbrev MH:List (Nat×Nat):= [(1000001,1000001),(1000002,1000002),(1000003,1000003),(1000004,1000004),(50,60),(1000006,1000006),(1000007,1000007),(1000008,1000008),(1000010,1000010),(1000011,1000011)]
abbrev MC:List (Nat×Nat):= [(10,10),(1000001,1000001),(1000002,1000002),(1000003,1000003),(1000004,1000004),(1000005,1000005),(1000006,1000006),(1000007,1000007),(1000008,1000008),(1000010,1000010),(1000011,1000011)]
abbrev P8:List (Nat×Nat):= [(10,10),(1000001,1000001),(1000002,1000002),(1000003,1000003),(1000004,1000004),(60,1000005),(1000006,1000006),(1000007,1000007),(1000008,1000008),(1000010,1000010),(1000011,1000011)]
abbrev KA:List (Nat×Nat):= [(1000001,1000001),(1000002,1000002),(1000003,1000003),(1000004,1000004),(1000005,60),(1000006,1000006),(1000007,1000007),(1000008,1000008),(1000010,1000010),(1000011,1000011),(50,61)]
abbrev KI:List (Nat×Nat):= [(10,10),(1000001,1000001),(1000002,1000002),(1000003,1000003),(1000004,1000004),(60,61),(1000006,1000006),(1000007,1000007),(1000008,1000008),(1000010,1000010),(1000011,1000011)]
abbrev Kn:List (Nat×Nat):= [(1000009,1000009),(1000001,1000001),(1000002,1000002),(1000003,1000003),(1000004,1000004),(50,1000005),(1000006,1000006),(1000007,1000007),(1000008,1000008),(1000010,1000010),(1000011,1000011)]
abbrev EN:List (Nat×Nat):= [(1000009,1000009),(1000001,1000001),(1000002,1000002),(1000003,1000003),(1000004,1000004),(50,60),(1000006,1000006),(1000007,1000007),(1000008,1000008),(1000010,1000010),(1000011,1000011)]
abbrev FP:List (Nat×Nat):= [(1000001,1000001),(1000002,1000002),(1000008,1000008),(1000010,1000010),(11,11),(16,16)]
end Go.Eng
