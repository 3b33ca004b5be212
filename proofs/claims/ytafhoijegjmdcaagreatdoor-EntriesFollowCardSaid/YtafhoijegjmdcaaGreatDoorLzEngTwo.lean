/- EntriesFollow is proved: for every input the law returns true, and its argument reads afterwards as it read before. Conditions: those of the given row alone. -/
import Derived.Test.YtafhoijegjmdcaaGreatDoorLzEngOne
import Derived.Test.YtafhoijegjmdcaaGreatDoorLzEngMap
import Derived.Deep.LoopGhost
import Derived.Below
set_option linter.unusedVariables false
set_option linter.unusedSimpArgs false
namespace Go.Eng
open Go
def aH:List (Nat×Nat)→Nat→Option Nat
 | [],_=>none
 |(e,c)::l,d=>bif Nat.beq d e then some c else aH l d
def aC:List (Nat×bh)→Nat→Option bh
 | [],_=>none
 |(e,r)::l,d=>bif Nat.beq d e then some r else aC l d
def xp:List (Nat×Nat)→Bool
 | []=>true
 |(d,c)::l=> !(l.any fun p=>Nat.beq p.1 d||Nat.beq p.2 c)&&xp l
theorem cW {ρ:List (Nat×Nat)}{d c:Nat}(h:aH ρ d=some c):(d,c) ∈ ρ:=by
 induction ρ with
 |nil=>cases h
 | cons p l ih=>
   obtain⟨e,c'⟩:=p;simp only[aH]at h
   by_cases he:d=e
   · subst he;simp at h;subst h;exact List.mem_cons_self
   · rw[aw he]at h;exact List.mem_cons_of_mem _ (ih h)
theorem qo {ρ:List (Nat×Nat)}(ok:xp ρ=true){d c:Nat}(h:(d,c) ∈ ρ):aH ρ d=some c:=by
 induction ρ with
 |nil=>cases h
 | cons p l ih=>
   obtain⟨e,c'⟩:=p;simp only[xp,Bool.and_eq_true,Bool.not_eq_true']at ok;simp only[aH];rcases List.mem_cons.1 h with q|q
   · cases q;simp
   · by_cases he:d=e
     · subst he;have:=List.any_eq_false.1 ok.1 _ q;simp at this
     · rw[aw he];exact ih ok.2 q
theorem qh {ρ:List (Nat×Nat)}(ok:xp ρ=true){d d' c:Nat}(h:(d,c) ∈ ρ)(h':(d',c) ∈ ρ):d=d':=by
 induction ρ with
 |nil=>cases h
 | cons p l ih=>
   obtain⟨e,c'⟩:=p;simp only[xp,Bool.and_eq_true,Bool.not_eq_true']at ok;rcases List.mem_cons.1 h with q|q
   · cases q;rcases List.mem_cons.1 h' with q'|q'
     · cases q';rfl
     · have:=List.any_eq_false.1 ok.1 _ q';simp at this
   · rcases List.mem_cons.1 h' with q'|q'
     · cases q';have:=List.any_eq_false.1 ok.1 _ q;simp at this
     · exact ih ok.2 q q'
mutual
def SV.ren (ρ:List (Nat×Nat)):SV→SV
 | .any=>.any
 | .bad=>.bad
 | .undef=>.undef
 | .d x=>.d x
 | .agg l=>.agg (ew ρ l)
 | .tup l=>.tup (ew ρ l)
 | .ptr q off=>match aH ρ q with|some c=>.ptr c off|none=>.bad
 | .buf q=>match aH ρ q with|some c=>.buf c|none=>.bad
 | .bel q k i off=>match aH ρ q with|some c=>.bel c k i off|none=>.bad
 | .mp q=>match aH ρ q with|some c=>.mp c|none=>.bad
 | .fn f caps=>.fn f (ew ρ caps)
 | .sub q k lo n=>match aH ρ q with|some c=>.sub c k lo n|none=>.bad
def ew (ρ:List (Nat×Nat)):List SV→List SV
 | []=> []
 |x::l=>SV.ren ρ x::ew ρ l
end
mutual
def SV.okN (ρ:List (Nat×Nat)):SV→Bool
 | .agg l=>dl ρ l
 | .tup l=>dl ρ l
 | .ptr q _=>(aH ρ q).isSome
 | .buf q=>(aH ρ q).isSome
 | .bel q _ _ _=>(aH ρ q).isSome
 | .mp q=>(aH ρ q).isSome
 | .fn _ caps=>dl ρ caps
 | .sub q _ _ _=>(aH ρ q).isSome
 |_=>true
def dl (ρ:List (Nat×Nat)):List SV→Bool
 | []=>true
 |x::l=>SV.okN ρ x&&dl ρ l
end
theorem gH (ρ:List (Nat×Nat)):∀ (l:List SV) (i:Nat),(ew ρ l)[i]? =(l[i]?).map (SV.ren ρ):=by
 intro l
 induction l with
 |nil=>intro i;simp[ew]
 |cons x l ih=>intro i;cases i<;>simp[ew,ih]
theorem dZ (ρ:List (Nat×Nat)):∀l:List SV,(ew ρ l).length=l.length:=by
 intro l
 induction l with
 |nil=>rfl
 |cons x l ih=>simp[ew,ih]
theorem nN {ρ:List (Nat×Nat)}:∀ {l:List SV} {i:Nat} {x:SV},dl ρ l=true→l[i]? =some x→SV.okN ρ x=true:=by
 intro l
 induction l with
 |nil=>intro i x _ h;simp at h
 | cons y l ih=>
   intro i x h hx;simp only[dl,Bool.and_eq_true]at h
   cases i with
   |zero=>simp at hx;subst hx;exact h.1
   |succ i=>exact ih h.2 (by simpa using hx)
theorem ak.unren {ρ:List (Nat×Nat)}{G:Hp}{βc:eP}{y:SV}{v:Value}(h:ak G βc y v):∀x:SV,y=x.ren ρ→ak G (fun d=>(aH ρ d).bind βc) x v:=by
 induction h with
 |any v=>intro x hx;cases x<;>simp[SV.ren]at hx<;>first|exact .any v|(split at hx<;>cases hx)
 |undef=>intro x hx;cases x<;>simp[SV.ren]at hx<;>first|exact .undef|(split at hx<;>cases hx)
 |d z v hz=>intro x hx;cases x<;>simp[SV.ren]at hx<;>first|(subst hx;exact .d _ _ hz)|(split at hx<;>cases hx)
 | agg l vs hl _ ih=>
   intro x hx;cases x<;>simp[SV.ren]at hx<;>first|(split at hx<;>cases hx)|skip
   subst hx;rename_i l';refine .agg _ _ (by rw[hl,dZ]) (fun i z v hz hv=> ?_)
   exact ih i _ v (by rw[gH,hz];rfl) hv z rfl
 | tup l vs hl _ ih=>
   intro x hx;cases x<;>simp[SV.ren]at hx<;>first|(split at hx<;>cases hx)|skip
   subst hx;refine .tup _ _ (by rw[hl,dZ]) (fun i z v hz hv=> ?_)
   exact ih i _ v (by rw[gH,hz];rfl) hv z rfl
 | ptr d off b hb=>
   intro x hx;cases x<;>simp[SV.ren]at hx
   all_goals (split at hx<;>simp at hx)
   rename_i hd;obtain⟨rfl,rfl⟩:=hx
   exact .ptr _ _ _ (by simp[hd,hb])
 | buf d v hb h1=>
   intro x hx;cases x<;>simp[SV.ren]at hx
   all_goals (split at hx<;>simp at hx)
   rename_i hd;subst hx
   exact .buf _ _ (by simp[hd,hb]) h1
 | bel d k i off b n cap hb=>
   intro x hx;cases x<;>simp[SV.ren]at hx
   all_goals (split at hx<;>simp at hx)
   rename_i hd;obtain⟨rfl,rfl,rfl,rfl⟩:=hx
   exact .bel _ _ _ _ b n cap (by simp[hd,hb])
 | mp d v hb h1=>
   intro x hx;cases x<;>simp[SV.ren]at hx
   all_goals (split at hx<;>simp at hx)
   rename_i hd;subst hx
   exact .mp _ _ (by simp[hd,hb]) h1
 | fn f caps vs hl _ ih=>
   intro x hx;cases x<;>simp[SV.ren]at hx<;>first|(split at hx<;>cases hx)|skip
   obtain⟨rfl,rfl⟩:=hx;refine .fn _ _ _ (by rw[hl,dZ]) (fun i z v hz hv=> ?_)
   exact ih i _ v (by rw[gH,hz];rfl) hv z rfl
 | sub d k lo n b N cap hb hn=>
   intro x hx;cases x<;>simp[SV.ren]at hx
   all_goals (split at hx<;>simp at hx)
   rename_i hd;obtain⟨rfl,rfl,rfl,rfl⟩:=hx;exact .sub _ _ _ _ b N cap (by simp[hd,hb]) hn
theorem ak.reren {ρ:List (Nat×Nat)}{G:Hp}{β βc:eP}(hβ:∀d c,aH ρ d=some c→βc c=β d){x:SV}{v:Value}(h:ak G β x v):x.okN ρ=true→ak G βc (x.ren ρ) v:=by
 induction h with
 |any v=>intro _;exact .any v
 |undef=>intro _;exact .undef
 |d z v hz=>intro _;exact .d _ _ hz
 | agg l vs hl _ ih=>
   intro ok;refine .agg _ _ (by rw[hl,dZ]) (fun i z v hz hv=> ?_);rw[gH]at hz
   cases hx:l[i]? with
   |none=>rw[hx]at hz;cases hz
   |some x=>rw[hx]at hz;cases hz;exact ih i x v hx hv (nN ok hx)
 | tup l vs hl _ ih=>
   intro ok;refine .tup _ _ (by rw[hl,dZ]) (fun i z v hz hv=> ?_);rw[gH]at hz
   cases hx:l[i]? with
   |none=>rw[hx]at hz;cases hz
   |some x=>rw[hx]at hz;cases hz;exact ih i x v hx hv (nN ok hx)
 | ptr d off b hb=>
   intro ok;simp only[SV.okN]at ok;obtain⟨c,hc⟩:=Option.isSome_iff_exists.1 ok;simp only[SV.ren,hc]
   exact .ptr _ _ _ ((hβ _ _ hc).trans hb)
 | buf d v hb h1=>
   intro ok;simp only[SV.okN]at ok;obtain⟨c,hc⟩:=Option.isSome_iff_exists.1 ok;simp only[SV.ren,hc]
   exact .buf _ _ ((hβ _ _ hc).trans hb) h1
 | bel d k i off b n cap hb=>
   intro ok;simp only[SV.okN]at ok;obtain⟨c,hc⟩:=Option.isSome_iff_exists.1 ok;simp only[SV.ren,hc]
   exact .bel _ _ _ _ _ _ _ ((hβ _ _ hc).trans hb)
 | mp d v hb h1=>
   intro ok;simp only[SV.okN]at ok;obtain⟨c,hc⟩:=Option.isSome_iff_exists.1 ok;simp only[SV.ren,hc]
   exact .mp _ _ ((hβ _ _ hc).trans hb) h1
 | fn f caps vs hl _ ih=>
   intro ok;refine .fn _ _ _ (by rw[hl,dZ]) (fun i z v hz hv=> ?_);rw[gH]at hz
   cases hx:caps[i]? with
   |none=>rw[hx]at hz;cases hz
   |some x=>rw[hx]at hz;cases hz;exact ih i x v hx hv (nN ok hx)
 | sub d k lo n b N cap hb hn=>
   intro ok;simp only[SV.okN]at ok;obtain⟨c,hc⟩:=Option.isSome_iff_exists.1 ok;simp only[SV.ren,hc];exact .sub _ _ _ _ _ _ _ ((hβ _ _ hc).trans hb) hn
def bh.ren (ρ:List (Nat×Nat)):bh→bh
 | .cells e l=>.cells e (ew ρ l)
 | .buf e k n g=>.buf e k n g
 | .fro k n g=>.fro k n g
 | .byb n g=>.byb n g
 | .map ag va ks zr has val=>.map ag va ks zr has val
 | .mapB ag va ks zr has val clock kb=>.mapB ag va ks zr has val clock kb
 | .iter m since seen=>match aH ρ m with|some c=>.iter c since seen|none=>.no
 | .mapR kk e k has len get hole=>.mapR kk e k has len get hole
 | .bunch e k l=>.bunch e k l
 | .inX X=>.inX X
 | .know Q=>.know Q
 | .no=>.no
def bh.okN (ρ:List (Nat×Nat)):bh→Bool
 | .cells _ l=>dl ρ l
 | .iter m _ _=>(aH ρ m).isSome
 |_=>true
theorem db (ρ:List (Nat×Nat))(r:bh):(r.ren ρ).own=r.own:=by
 cases r<;>first
  |rfl
  |(simp only[bh.ren];split<;>rfl)
theorem cI (ρ:List (Nat×Nat))(r:bh):(r.ren ρ).isR=r.isR:=by
 cases r<;>first
  |rfl
  |(simp only[bh.ren];split<;>rfl)
theorem dJ.unren {ρ:List (Nat×Nat)}{G:Hp}{βc:eP}{w:World}{d c:Nat}(hd:aH ρ d=some c){r:bh}(h:dJ G βc w c (r.ren ρ)):
 dJ G (fun d=>(aH ρ d).bind βc) w d r:=by
 cases r with
 | cells e l=>
   obtain⟨b,vs,h1,h2,h3,h4⟩:=h;refine⟨b,vs,by simp[hd,h1],h2,by rw[h3,dZ],fun i x v hx hv=> ?_⟩
   exact(h4 i _ v (by rw[gH,hx];rfl) hv).unren x rfl
 | buf e k n g=>
   obtain⟨v,xs,h1,h2⟩:=h
   exact⟨v,xs,by simp[hd,h1],h2⟩
 | fro k n g=>
   obtain⟨v,h1,h2⟩:=h
   exact⟨v,by simp[hd,h1],h2⟩
 | byb n g=>
   obtain⟨b,cap,cs,e,h1,h2⟩:=h
   exact⟨b,cap,cs,e,by simp[hd,h1],h2⟩
 | map ag va ks zr has val=>
   obtain⟨r,es,clock,l,h1,h2⟩:=h
   exact⟨r,es,clock,l,by simp[hd,h1],h2⟩
 | mapB ag va ks zr has val clock kb=>
   obtain⟨r,es,l,h1,h2⟩:=h
   exact⟨r,es,l,by simp[hd,h1],h2⟩
 | iter m since seen=>
   simp only[bh.ren]at h;split at h
   · rename_i c' hc;obtain⟨q,r,h1,h2,h3⟩:=h;exact⟨q,r,by simp[hd,h1],by simp[hc,h2],h3⟩
   · exact h.elim
 | mapR kk e k has len get hole=>
   obtain⟨r,es,clock,l,h1,h2⟩:=h
   exact⟨r,es,clock,l,by simp[hd,h1],h2⟩
 | bunch e k l=>
   obtain⟨⟨v,h1,h1b⟩,h2⟩:=h
   exact⟨⟨v,by simp[hd,h1],h1b⟩,h2⟩
 | inX X=>
   obtain⟨⟨v,h1⟩,h2⟩:=h
   exact⟨⟨v,by simp[hd,h1]⟩,h2⟩
 | know Q=>
   obtain⟨⟨v,h1⟩,h2⟩:=h
   exact⟨⟨v,by simp[hd,h1]⟩,h2⟩
 |no=>exact h.elim
theorem dJ.reren {ρ:List (Nat×Nat)}{G:Hp}{β βc:eP}{w:World}(hβ:∀d c,aH ρ d=some c→βc c=β d){d c:Nat}(hd:aH ρ d=some c){r:bh}(ok:r.okN ρ=true)
 (h:dJ G β w d r):dJ G βc w c (r.ren ρ):=by
 cases r with
 | cells e l=>
   obtain⟨b,vs,h1,h2,h3,h4⟩:=h;refine⟨b,vs,(hβ _ _ hd).trans h1,h2,by rw[h3,dZ],fun i x v hx hv=> ?_⟩;rw[gH]at hx
   cases hy:l[i]? with
   |none=>rw[hy]at hx;cases hx
   |some y=>rw[hy]at hx;cases hx;exact(h4 i y v hy hv).reren hβ (nN ok hy)
 | buf e k n g=>
   obtain⟨v,xs,h1,h2⟩:=h
   exact⟨v,xs,(hβ _ _ hd).trans h1,h2⟩
 | fro k n g=>
   obtain⟨v,h1,h2⟩:=h
   exact⟨v,(hβ _ _ hd).trans h1,h2⟩
 | byb n g=>
   obtain⟨b,cap,cs,e,h1,h2⟩:=h
   exact⟨b,cap,cs,e,(hβ _ _ hd).trans h1,h2⟩
 | map ag va ks zr has val=>
   obtain⟨r,es,clock,l,h1,h2⟩:=h
   exact⟨r,es,clock,l,(hβ _ _ hd).trans h1,h2⟩
 | mapB ag va ks zr has val clock kb=>
   obtain⟨r,es,l,h1,h2⟩:=h
   exact⟨r,es,l,(hβ _ _ hd).trans h1,h2⟩
 | iter m since seen=>
   obtain⟨q,r,h1,h2,h3⟩:=h;simp only[bh.okN]at ok;obtain⟨c',hc⟩:=Option.isSome_iff_exists.1 ok;simp only[bh.ren,hc]
   exact⟨q,r,(hβ _ _ hd).trans h1,(hβ _ _ hc).trans h2,h3⟩
 | mapR kk e k has len get hole=>
   obtain⟨r,es,clock,l,h1,h2⟩:=h
   exact⟨r,es,clock,l,(hβ _ _ hd).trans h1,h2⟩
 | bunch e k l=>
   obtain⟨⟨v,h1,h1b⟩,h2⟩:=h
   exact⟨⟨v,(hβ _ _ hd).trans h1,h1b⟩,h2⟩
 | inX X=>
   obtain⟨⟨v,h1⟩,h2⟩:=h
   exact⟨⟨v,(hβ _ _ hd).trans h1⟩,h2⟩
 | know Q=>
   obtain⟨⟨v,h1⟩,h2⟩:=h
   exact⟨⟨v,(hβ _ _ hd).trans h1⟩,h2⟩
 |no=>exact h.elim
structure LD (G:Hp)(β:eP)(w:World)(R:Nat→Option bh):Prop where
 gw:∀b o,G b=some o→w.heap[b]? =some o
 rs:∀d r,R d=some r→dJ G β w d r
 dj:∀d d' r r' v v' b,R d=some r→R d' =some r'→r.own=true→r'.own=true→β d=some v→β d' =some v'→dz w r v b→dz w r' v' b→d=d'
 og:∀d r v b,R d=some r→r.own=true→β d=some v→dz w r v b→G b=none
 sc:∀d v,β d=some v→∃r,R d=some r
def B5 (w:World)(β:eP)(R:Nat→Option bh):Nat→Prop:=fun b=>∃d r v,R d=some r∧r.own=true∧β d=some v∧dz w r v b
structure OH (G:Hp)(β:eP)(w:World)(R:Nat→Option bh)(G':Hp)(β':eP)(w':World)(R':Nat→Option bh):Prop where
 gle:G.le G'
 ele:β.le β'
 gw:∀b o,G' b=some o→w'.heap[b]? =some o
 gn:∀b o,G' b=some o→G b=some o∨B5 w β R b∨w.heap.size≤b
 keep:Js w w' (B5 w β R)
 rs:∀d r,R' d=some r→dJ G' β' w' d r
 dj:∀d d' r r' v v' b,R' d=some r→R' d' =some r'→r.own=true→r'.own=true→β' d=some v→β' d' =some v'→dz w' r v b→dz w' r' v' b→d=d'
 og:∀d r v b,R' d=some r→r.own=true→β' d=some v→dz w' r v b→G' b=none∧(B5 w β R b∨w.heap.size≤b)
structure ae (P:Program)(f:FuncId)(args:List SV)(rin:List (Nat×bh))(post:SV→List (Nat×bh)→Prop):Prop where
 enter:∀args w,(callFunc f args).run P w= .ok (.enter f args) w
 calls:∀ (G:Hp) (β:eP) (w:World) (vs:List Value),LD G β w (aC rin)→vs.length=args.length→
  (∀ (i:Nat) x v,args[i]? =some x→vs[i]? =some v→ak G β x v)→
  Calls P f vs.toArray w fun e w' =>∃v x rout G' β',e= .returned v∧post x rout∧OH G β w (aC rin) G' β' w' (aC rout)∧ak G' β' x v
def SV.le (x y:SV):Prop:=∀G β v,ak G β x v→ak G β y v
theorem SV.le_refl (x:SV):x.le x:=fun _ _ _ h=>h
def bh.le (r r':bh):Prop:=(r.own,r.isR)=(r'.own,r'.isR)∧∀G β w d,dJ G β w d r→dJ G β w d r'
theorem bh.le.own' {r r':bh}(h:bh.le r r'):r.own=r'.own:=congrArg Prod.fst h.1
theorem bh.le.isR' {r r':bh}(h:bh.le r r'):r.isR=r'.isR:=congrArg Prod.snd h.1
theorem bh.le_refl (r:bh):r.le r:=⟨rfl,fun _ _ _ _ h=>h⟩
def oT (ρ:List (Nat×Nat))(rout:List (Nat×bh)):List (Nat×Option bh):=ρ.map fun p=>(p.2,(aC rout p.1).map (bh.ren ρ))
theorem lh {ρ0:List (Nat×Nat)}{rout:List (Nat×bh)}:∀ {ρ:List (Nat×Nat)},xp ρ=true→∀ {d c:Nat} {x:Option bh},(d,c) ∈ ρ→
 aW (ρ.map fun p=>(p.2,(aC rout p.1).map (bh.ren ρ0))) c x=(aC rout d).map (bh.ren ρ0):=by
 intro ρ
 induction ρ with
 |nil=>intro _ d c x h;cases h
 | cons p l ih=>
   intro ok d c x h;obtain⟨e,c'⟩:=p;have ok':=ok;simp only[xp,Bool.and_eq_true,Bool.not_eq_true']at ok';simp only[List.map_cons,aW]
   by_cases hc:c=c'
   · subst hc;have:d=e:=qh ok h List.mem_cons_self;subst this;simp
   · rw[aw hc];rcases List.mem_cons.1 h with q|q
     · cases q;exact absurd rfl hc
     · exact ih ok'.2 q
theorem iI {ρ0:List (Nat×Nat)}{rout:List (Nat×bh)}:∀ {ρ:List (Nat×Nat)} {c:Nat} {x:Option bh},(∀d,(d,c) ∉ ρ)→
 aW (ρ.map fun p=>(p.2,(aC rout p.1).map (bh.ren ρ0))) c x=x:=by
 intro ρ
 induction ρ with
 |nil=>intro c x _;rfl
 | cons p l ih=>
   intro c x h;obtain⟨e,c'⟩:=p;simp only[List.map_cons,aW];have hc:c≠c':=fun q=>h e (by rw[q];exact List.mem_cons_self)
   rw[aw hc];exact ih (fun d hd=>h d (List.mem_cons_of_mem _ hd))
theorem aG.look {G:Hp}{kk N:Nat}{g:Nat→List DV}{b cap N' lo n:Nat}(h:aG G (.ro kk N g) (.slice (some ⟨b,0,none⟩) N' cap))(hn:lo+n≤N'∧N'≤cap):
 aG G (.ro kk n fun j=>g (lo+j)) (.slice (some ⟨b,lo*kk,none⟩) n (cap - lo)):=by
 cases h with|ro _ _ _ _ _ vals hs hcap hmax hl hc hdn=>
 refine .ro kk n _ ⟨b,lo*kk,none⟩ (cap - lo) (fun i j=>vals (lo+i) j) rfl (by omega) (by omega) (fun i hi=>hl _ (by omega)) (fun i j x hi hx=> ?_) (fun i j x hi hx=>hdn _ j x (by omega) hx);have:=hc (lo+i) j x (by omega) hx
 have e:(⟨b,lo*kk,none⟩:Addr).add (i*kk+j)=(⟨b,0,none⟩:Addr).add ((lo+i)*kk+j):=by
  simp[Addr.add,Nat.add_mul,Nat.add_assoc];split
  · rename_i h;obtain⟨h1,h2⟩:=h;split
    · simp
    · simp[h1,h2]
  · rename_i h;rw[if_neg (fun q=>h q.2)]
 rw[e];exact this
def yk (d kk n:Nat)(g:Nat→List DV):SV→SV
 | .buf c=>bif Nat.beq c d then .d (.ro kk n g)else .buf c
 | .sub c k' lo m=>bif Nat.beq c d&&Nat.beq k' kk then .d (.ro kk m fun j=>g (lo+j))else .sub c k' lo m
 |x=>x
def E1 (d kk n:Nat)(g:Nat→List DV):SV→SV
 | .agg l=>.agg (l.map (yk d kk n g))
 |x=>yk d kk n g x
theorem wm {G:Hp}{β:eP}{d kk n:Nat}{g:Nat→List DV}(hd:∃v,β d=some v∧aG G (.ro kk n g) v){x:SV}{v:Value}(hx:ak G β x v):ak G β (yk d kk n g x) v:=by
 unfold yk;split
 · rename_i c
   cases hb:Nat.beq c d with
   |false=>exact hx
   | true=>
     have:=Nat.eq_of_beq_eq_true hb;subst this;obtain⟨u,hu,h⟩:=hd
     cases hx with|buf _ _ hv _=>
     rw[hu]at hv;cases hv;exact .d _ _ h
 · rename_i c k' lo m
   cases hb:Nat.beq c d&&Nat.beq k' kk with
   |false=>exact hx
   | true=>
     rw[Bool.and_eq_true]at hb;have h1:=Nat.eq_of_beq_eq_true hb.1;have h2:=Nat.eq_of_beq_eq_true hb.2;subst h1 h2;obtain⟨u,hu,h⟩:=hd
     cases hx with|sub _ _ _ _ b N cap hv hn=>
     rw[hu]at hv;cases hv;exact .d _ _ (h.look hn)
 · exact hx
theorem zG {G:Hp}{β:eP}{d kk n:Nat}{g:Nat→List DV}(hd:∃v,β d=some v∧aG G (.ro kk n g) v){x:SV}{v:Value}(hx:ak G β x v):ak G β (E1 d kk n g x) v:=by
 unfold E1;split
 · rename_i l
   cases hx with|agg _ vs hl h=>
   refine .agg _ vs (by simpa using hl) (fun i x v hx hv=> ?_);rw[List.getElem?_map]at hx
   cases hy:l[i]? with
   |none=>rw[hy]at hx;cases hx
   |some y=>rw[hy]at hx;cases hx;exact wm hd (h i y v hy hv)
 · exact wm hd hx
theorem FU {d kk n:Nat}{g:Nat→List DV}{x:SV}{c:Nat}(h:E1 d kk n g x= .buf c):x= .buf c:=by
 cases x with
 |agg l=>simp[E1]at h
 | buf c' =>
   simp only[E1,yk]at h
   cases hb:Nat.beq c' d with
   |false=>rw[hb]at h;exact h
   |true=>rw[hb]at h;cases h
 | sub c' k' lo m=>
   simp only[E1,yk]at h
   cases hb:Nat.beq c' d&&Nat.beq k' kk with
   |false=>rw[hb]at h;exact h
   |true=>rw[hb]at h;cases h
 |_=>simp[E1,yk]at h
def tL (d:Nat)(e:TypeId)(kk n:Nat)(X:Nat→Prop)(g:Nat→List DV):SV→SV
 | .buf c=>bif Nat.beq c d then .d (.frs e kk n X g)else .buf c
 |x=>x
def x2 (d:Nat)(e:TypeId)(kk n:Nat)(X:Nat→Prop)(g:Nat→List DV):SV→SV
 | .agg l=>.agg (l.map (tL d e kk n X g))
 |x=>tL d e kk n X g x
theorem tw {G:Hp}{β:eP}{d:Nat}{e:TypeId}{kk n:Nat}{X:Nat→Prop}{g:Nat→List DV}(hd:∃v,β d=some v∧aG G (.frs e kk n X g) v){x:SV}{v:Value}(hx:ak G β x v):ak G β (tL d e kk n X g x) v:=by
 unfold tL;split
 · rename_i c
   cases hb:Nat.beq c d with
   |false=>exact hx
   | true=>
     have:=Nat.eq_of_beq_eq_true hb;subst this;obtain⟨u,hu,h⟩:=hd
     cases hx with|buf _ _ hv _=>
     rw[hu]at hv;cases hv;exact .d _ _ h
 · exact hx
theorem Du {G:Hp}{β:eP}{d:Nat}{e:TypeId}{kk n:Nat}{X:Nat→Prop}{g:Nat→List DV}(hd:∃v,β d=some v∧aG G (.frs e kk n X g) v){x:SV}{v:Value}(hx:ak G β x v):ak G β (x2 d e kk n X g x) v:=by
 unfold x2;split
 · rename_i l
   cases hx with|agg _ vs hl h=>
   refine .agg _ vs (by simpa using hl) (fun i x v hx hv=> ?_);rw[List.getElem?_map]at hx
   cases hy:l[i]? with
   |none=>rw[hy]at hx;cases hx
   |some y=>rw[hy]at hx;cases hx;exact tw hd (h i y v hy hv)
 · exact tw hd hx
theorem D9 {d:Nat}{e:TypeId}{kk n:Nat}{X:Nat→Prop}{g:Nat→List DV}{x:SV}{c:Nat}(h:x2 d e kk n X g x= .buf c):x= .buf c:=by
 cases x with
 |agg l=>simp[x2]at h
 | buf c' =>
   simp only[x2,tL]at h
   cases hb:Nat.beq c' d with
   |false=>rw[hb]at h;exact h
   |true=>rw[hb]at h;cases h
 |_=>simp[x2,tL]at h
inductive dP (P:Program) (f:FuncId) (dst:Option Nat):List SV→St→List Nat→(cM→Prop)→Prop
 |call (args:List SV) (s:St) (av:List Nat) (k:cM→Prop) (ρ:List (Nat×Nat)) (sargs:List SV) (rin:List (Nat×bh)) (post:SV→List (Nat×bh)→Prop)
  (hs:ae P f sargs rin post) (hok:xp ρ=true) (hlen:args.length=sargs.length)
  (ha:∀ (i:Nat) x y,args[i]? =some x→sargs[i]? =some y→SV.le x (y.ren ρ))
  (hr:∀d r,aC rin d=some r→∃c r0,aH ρ d=some c∧s.res c=some r0∧bh.le r0 (r.ren ρ))
  (hro:∀d c,aH ρ d=some c→aC rin d=none→s.used c=false)
  (hav:∀d c,aH ρ d=some c→mem av c=false)
  (hk:∀x rout,post x rout→x.okN ρ=true∧(∀d r,aC rout d=some r→(aH ρ d).isSome=true∧r.okN ρ=true)∧k ⟨dst,x.ren ρ,oT ρ rout,ρ.map (·.2)⟩):
  dP P f dst args s av k
 |freeze (args:List SV) (s:St) (av:List Nat) (k:cM→Prop) (d e kk n:Nat) (g:Nat→List DV) (hd:s.res d=some (.buf e kk n g)) (hav:mem av d=false)
  (h:dP P f dst (args.map (E1 d kk n g)) (s.app ⟨none,.any,[(d,some (.fro kk n g))],[]⟩) av (fun u=>k ⟨u.dst,u.v,u.rs++ [(d,some (.fro kk n g))],u.us⟩)):
  dP P f dst args s av k
 |freezeF (args:List SV) (s:St) (av:List Nat) (k:cM→Prop) (q d:Nat) (e:TypeId) (kk n:Nat) (X:Nat→Prop) (g:Nat→List DV) (hq:s.res q=some (.inX X)) (hd:s.res d=some (.buf e kk n g)) (hav:mem av d=false) (hav2:mem av q=false)
  (h:dP P f dst (args.map (x2 d e kk n X g)) (s.app ⟨none,.any,[(d,some (.fro kk n g))],[]⟩) av (fun u=>k ⟨u.dst,u.v,u.rs++ [(d,some (.fro kk n g))],u.us⟩)):
  dP P f dst args s av k
 |peek (args:List SV) (s:St) (av:List Nat) (k:cM→Prop) (ρ:List (Nat×Nat)) (sargs:List SV) (rin:List (Nat×bh)) (y:SV)
  (hs:ae P f sargs rin fun x r=>x=y∧r=rin) (hok:xp ρ=true) (hlen:args.length=sargs.length)
  (ha:∀ (i:Nat) x z,args[i]? =some x→sargs[i]? =some z→SV.le x (z.ren ρ))
  (hr:∀d r,aC rin d=some r→∃c,aH ρ d=some c∧s.res c=some (r.ren ρ))
  (hra:∀d c,aH ρ d=some c→∃r,aC rin d=some r)
  (hav:∀d c,aH ρ d=some c→mem av (c+1099511627776)=false)
  (hy:y.okN ρ=true) (hrk:∀d r,aC rin d=some r→r.okN ρ=true) (hk:k ⟨dst,y.ren ρ,[],[]⟩):
  dP P f dst args s av k
theorem eW (l l':List (Nat×Option bh))(d:Nat)(x:Option bh):aW (l++l') d x=aW l d (aW l' d x):=by
 induction l with
 |nil=>rfl
 | cons p l ih=>
   obtain⟨e,r⟩:=p;simp only[List.cons_append,aW,ih]
theorem dJ.named {G:Hp}{β:eP}{w:World}{d:Nat}:∀ {r:bh},dJ G β w d r→∃v,β d=some v
 | .cells ..,⟨_,_,h,_⟩=>⟨_,h⟩
 | .buf ..,⟨_,_,h,_⟩=>⟨_,h⟩
 | .fro ..,⟨_,h,_⟩=>⟨_,h⟩
 | .byb ..,⟨_,_,_,_,h,_⟩=>⟨_,h⟩
 | .map ..,⟨_,_,_,_,h,_⟩=>⟨_,h⟩
 | .mapB ..,⟨_,_,_,h,_⟩=>⟨_,h⟩
 | .iter ..,⟨_,_,h,_⟩=>⟨_,h⟩
 | .mapR ..,⟨_,_,_,_,h,_⟩=>⟨_,h⟩
 | .bunch ..,⟨⟨_,h,_⟩,_⟩=>⟨_,h⟩
 | .inX _,⟨⟨_,h⟩,_⟩=>⟨_,h⟩
 | .know _,⟨⟨_,h⟩,_⟩=>⟨_,h⟩
 | .no,h=>h.elim
theorem jr {P :Program}{f:FuncId}{dst:Option Nat}{args:List SV}{s:St}{k:cM→Prop}{ρ:List (Nat×Nat)}{sargs:List SV}{rin:List (Nat×bh)}{post:SV→List (Nat×bh)→Prop}
 (hs:ae P f sargs rin post)(hok:xp ρ=true)(hlen:args.length=sargs.length)
 (ha:∀ (i:Nat) x y,args[i]? =some x→sargs[i]? =some y→SV.le x (y.ren ρ))
 (hr:∀d r,aC rin d=some r→∃c r0,aH ρ d=some c∧s.res c=some r0∧bh.le r0 (r.ren ρ))
 (hro:∀d c,aH ρ d=some c→aC rin d=none→s.used c=false)
 (hk:∀x rout,post x rout→x.okN ρ=true∧(∀d r,aC rout d=some r→(aH ρ d).isSome=true∧r.okN ρ=true)∧k ⟨dst,x.ren ρ,oT ρ rout,ρ.map (·.2)⟩)
 {A:mA}{G:Hp}{β:eP}{t:Array Value}{w:World}{vs:List Value}(h:MG A G β s t w)(hvl:vs.length=args.length)(hvd:∀ (i:Nat) x v,args[i]? =some x→vs[i]? =some v→ak G β x v):
 (∀args w,(callFunc f args).run P w= .ok (.enter f args) w)∧
 Calls P f vs.toArray w fun e w' =>∃v u G' β',e= .returned v∧k u∧u.dst=dst∧MG A G' β' (s.app ⟨none,.any,u.rs,u.us⟩) t w'∧ak G' β' u.v v:=by
 refine⟨hs.enter,?_⟩
 have hpre:LD G (fun d=>(aH ρ d).bind β) w (aC rin):=by
  refine⟨h.gw,fun d r hd=> ?_,fun d d' r r' v v' b e1 e2 o1 o2 f1 f2 b1 b2=> ?_,fun d r v b e1 o1 f1 b1=> ?_,fun d v hv=> ?_⟩
  · obtain⟨c,r0,hc,kT,hle⟩:=hr d r hd;exact(hle.2 _ _ _ _ (h.rs c r0 kT)).unren hc
  · obtain⟨c,r0,hc,kT,hle⟩:=hr d r e1;obtain⟨c',r0',hc',hs0',hle'⟩:=hr d' r' e2;simp only[hc,Option.bind_some]at f1;simp only[hc',Option.bind_some]at f2;have:=h.dj c c' r0 r0' v v' b kT hs0' (by rw[hle.own',db];exact o1) (by rw[hle'.own',db];exact o2) f1 f2 (b1.to (by rw[hle.isR',cI])) (b2.to (by rw[hle'.isR',cI]));subst this;exact qh hok (cW hc) (cW hc')
  · obtain⟨c,r0,hc,kT,hle⟩:=hr d r e1;simp only[hc,Option.bind_some]at f1;exact(h.og c r0 v b kT (by rw[hle.own',db];exact o1) f1 (b1.to (by rw[hle.isR',cI]))).1
  · cases hc:aH ρ d with
    |none=>simp[hc]at hv
    | some c=>
      simp only[hc,Option.bind_some]at hv
      cases hl:aC rin d with
      |some r=>exact⟨r,rfl⟩
      |none=>have:=hro d c hc hl;rw[h.sc c v hv]at this;cases this
 have hcall:=hs.calls G (fun d=>(aH ρ d).bind β) w vs hpre (hvl.trans hlen) (fun i y v hy hv=>by
  have hi:i<args.length:=by rw[hlen];exact(List.getElem?_eq_some_iff.1 hy).1
  have hx:args[i]? =some args[i]:=List.getElem?_eq_getElem hi
  exact(ha i _ y hx hy G β v (hvd i _ v hx hv)).unren y rfl)
 refine hcall.mono ?_;rintro e w' ⟨v,x,rout,G',β',he,hpost,ho,hden⟩;obtain⟨k1,k2,k3⟩:=hk x rout hpost
 have hdec:∀c,Decidable (∃d,aH ρ d=some c):=fun _=>Classical.propDecidable _
 let βc:eP:=fun c=>if hc:∃d,aH ρ d=some c then β' (Classical.choose hc)else β c
 have hβ:∀d c,aH ρ d=some c→βc c=β' d:=by
  intro d c hd;have hc:∃d,aH ρ d=some c:=⟨d,hd⟩;have:Classical.choose hc=d:=qh hok (cW (Classical.choose_spec hc)) (cW hd);simp only[βc,hc,dif_pos,this]
 have hβn:∀c,(¬ ∃d,aH ρ d=some c)→βc c=β c:=fun c hc=>by simp only[βc,hc,dif_neg,not_false_iff]
 have hle:β.le βc:=by
  intro c u hu
  by_cases hc:∃d,aH ρ d=some c
  · obtain⟨d,hd⟩:=hc;rw[hβ d c hd];exact ho.ele d u (by simp[hd,hu])
  · rw[hβn c hc];exact hu
 have hT:∀b,B5 w (fun d=>(aH ρ d).bind β) (aC rin) b→(∃d c r0 v,aH ρ d=some c∧s.res c=some r0∧r0.own=true∧β c=some v∧dz w r0 v b):=by
  rintro b ⟨d,r,v,e1,o1,f1,b1⟩;obtain⟨c,r0,hc,kT,hle⟩:=hr d r e1;simp only[hc,Option.bind_some]at f1;exact⟨d,c,r0,v,hc,kT,by rw[hle.own',db];exact o1,f1,b1.to (by rw[hle.isR',cI])⟩
 have hTA:∀b,B5 w (fun d=>(aH ρ d).bind β) (aC rin) b→A.T b∨A.w0.heap.size≤b:=by
  intro b hb;obtain⟨d,c,r0,v,_,kT,o1,f1,b1⟩:=hT b hb;exact(h.og c r0 v b kT o1 f1 b1).2
 have hout:∀c r u b,(¬ ∃d,aH ρ d=some c)→s.res c=some r→r.own=true→β c=some u→dz w r u b→¬B5 w (fun d=>(aH ρ d).bind β) (aC rin) b:=by
  intro c r u b hc hr0 ho0 hu hb hT';obtain⟨d,c',r0,v,hd,kT,o1,f1,b1⟩:=hT b hT';have:=h.dj c c' r r0 u v b hr0 kT ho0 o1 hu f1 hb b1;subst this;exact hc ⟨d,hd⟩
 have hback:∀c r v b,(¬ ∃d,aH ρ d=some c)→s.res c=some r→r.own=true→β c=some v→dz w' r v b→dz w r v b:=fun c r v b hcd hc ho' hv hb=>
  (h.rs c r hc).blks ho' (fun u b hu hb=>ho.keep.block b ((h.rs c r hc).lt ho' hu hb) (hout c r u b hcd hc ho' hu hb)) hv hb
 have hres:∀c,(s.app ⟨none,.any,oT ρ rout,ρ.map (·.2)⟩).res c=aW (oT ρ rout) c (s.res c):=fun c=>by simp only[St.app,aA]
 have hin:∀d c,aH ρ d=some c→(s.app ⟨none,.any,oT ρ rout,ρ.map (·.2)⟩).res c=(aC rout d).map (bh.ren ρ):=fun d c hd=>by
  rw[hres];exact lh hok (cW hd)
 have hno:∀c,(¬ ∃d,aH ρ d=some c)→(s.app ⟨none,.any,oT ρ rout,ρ.map (·.2)⟩).res c=s.res c:=fun c hc=>by
  rw[hres];exact iI (fun d hd=>hc ⟨d,qo hok hd⟩)
 have hmg:MG A G' βc (s.app ⟨none,.any,oT ρ rout,ρ.map (·.2)⟩) t w':=by
  refine⟨h.sz,fun b o e=>ho.gle _ _ (h.g0 b o e),fun d v e=>hle _ _ (h.e0 d v e),ho.gw,fun b o hg=> ?_,⟨ho.keep.os.trans h.keep.os,ho.keep.tape.trans h.keep.tape,ho.keep.output.trans h.keep.output,Nat.le_trans h.keep.size ho.keep.size,fun b hlt hTb=> ?_⟩,
   fun i=>(h.tm i).mono ho.gle hle,fun c r hc=> ?_,fun c c' r r' v v' b e1 e2 o1 o2 f1 f2 b1 b2=> ?_,fun c r v b e1 o1 f1 b1=> ?_,fun c v hv=> ?_⟩
  · rcases ho.gn b o hg with q|q|q
    · exact h.gn _ _ q
    · exact .inr (hTA b q)
    · exact .inr (.inr (Nat.le_trans h.keep.size q))
  · rw[ho.keep.block b (Nat.lt_of_lt_of_le hlt h.keep.size) (fun q=>by rcases hTA b q with q|q;exact hTb q;omega)];exact h.keep.block b hlt hTb
  · by_cases hcd:∃d,aH ρ d=some c
    · obtain⟨d,hd⟩:=hcd;rw[hin d c hd]at hc
      cases hl:aC rout d with
      |none=>rw[hl]at hc;cases hc
      |some r' =>rw[hl]at hc;cases hc;exact(ho.rs d r' hl).reren hβ hd (k2 d r' hl).2
    · rw[hno c hcd]at hc;refine(h.rs c r hc).keep ho.gle hle (fun ho' u b hu hb=> ?_);exact ho.keep.block b ((h.rs c r hc).lt ho' hu hb) (hout c r u b hcd hc ho' hu hb)
  · by_cases hcd:∃d,aH ρ d=some c
    · obtain⟨d,hd⟩:=hcd;rw[hin d c hd]at e1;rw[hβ d c hd]at f1
      cases hl:aC rout d with
      |none=>rw[hl]at e1;cases e1
      | some r1=>
        rw[hl]at e1;cases e1;rw[db]at o1
        by_cases hcd':∃d,aH ρ d=some c'
        · obtain⟨d',hd'⟩:=hcd';rw[hin d' c' hd']at e2;rw[hβ d' c' hd']at f2
          cases hl':aC rout d' with
          |none=>rw[hl']at e2;cases e2
          | some r2=>
            rw[hl']at e2;cases e2;rw[db]at o2;have:=ho.dj d d' r1 r2 v v' b hl hl' o1 o2 f1 f2 (b1.to (cI _ _)) (b2.to (cI _ _));subst this;rw[hd]at hd';cases hd';rfl
        · rw[hno c' hcd']at e2;rw[hβn c' hcd']at f2;have b2:=hback c' r' v' b hcd' e2 o2 f2 b2;rcases(ho.og d r1 v b hl o1 f1 (b1.to (cI _ _))).2 with q|q
          · exact absurd q (hout c' r' v' b hcd' e2 o2 f2 b2)
          · have:=(h.rs c' r' e2).lt o2 f2 b2;omega
    · rw [hno c hcd]at e1;rw[hβn c hcd]at f1
      by_cases hcd':∃d,aH ρ d=some c'
      · obtain⟨d',hd'⟩:=hcd';rw[hin d' c' hd']at e2;rw[hβ d' c' hd']at f2
        cases hl':aC rout d' with
        |none=>rw[hl']at e2;cases e2
        | some r2=>
          rw[hl']at e2;cases e2;rw[db]at o2;have b1:=hback c r v b hcd e1 o1 f1 b1;rcases(ho.og d' r2 v' b hl' o2 f2 (b2.to (cI _ _))).2 with q|q
          · exact absurd q (hout c r v b hcd e1 o1 f1 b1)
          · have:=(h.rs c r e1).lt o1 f1 b1;omega
      · rw[hno c' hcd']at e2;rw[hβn c' hcd']at f2;exact h.dj c c' r r' v v' b e1 e2 o1 o2 f1 f2 (hback c r v b hcd e1 o1 f1 b1) (hback c' r' v' b hcd' e2 o2 f2 b2)
  · by_cases hcd:∃d,aH ρ d=some c
    · obtain⟨d,hd⟩:=hcd;rw[hin d c hd]at e1;rw[hβ d c hd]at f1
      cases hl:aC rout d with
      |none=>rw[hl]at e1;cases e1
      | some r1=>
        rw[hl]at e1;cases e1;rw[db]at o1;obtain⟨q1,q2⟩:=ho.og d r1 v b hl o1 f1 (b1.to (cI _ _));refine⟨q1,?_⟩;rcases q2 with q2|q2
        · exact hTA b q2
        · exact .inr (Nat.le_trans h.keep.size q2)
    · rw[hno c hcd]at e1;rw[hβn c hcd]at f1;have b1:=hback c r v b hcd e1 o1 f1 b1;obtain⟨q1,q2⟩:=h.og c r v b e1 o1 f1 b1;refine⟨?_,q2⟩
      cases hg:G' b with
      |none=>rfl
      | some o=>
        rcases ho.gn b o hg with q|q|q
        · rw[q1]at q;cases q
        · exact absurd q (hout c r v b hcd e1 o1 f1 b1)
        · have:=(h.rs c r e1).lt o1 f1 b1;omega
  · simp only[St.app,d9,Bool.or_eq_true,mem_iff]
    by_cases hcd:∃d,aH ρ d=some c
    · obtain⟨d,hd⟩:=hcd;exact .inl (List.mem_map.2 ⟨(d,c),cW hd,rfl⟩)
    · rw[hβn c hcd]at hv;exact .inr (h.sc c v hv)
 exact⟨v,_,G',βc,he,k3,rfl,hmg,hden.reren hβ k1⟩
theorem dP.sound {P:Program}{f:FuncId}{dst:Option Nat}{args:List SV}{s:St}{av:List Nat}{k:cM→Prop}(hx:dP P f dst args s av k):
 ∀ {A:mA} {G:Hp} {β:eP} {t:Array Value} {w:World} {vs:List Value},MG A G β s t w→vs.length=args.length→(∀ (i:Nat) x v,args[i]? =some x→vs[i]? =some v→ak G β x v)→
 (∀args w,(callFunc f args).run P w= .ok (.enter f args) w)∧
 Calls P f vs.toArray w fun e w' =>∃v u G' β',e= .returned v∧k u∧u.dst=dst∧MG A G' β' (s.app ⟨none,.any,u.rs,u.us⟩) t w'∧ak G' β' u.v v:=by
 induction hx with
 | call args s av k ρ sargs rin post hs hok hlen ha hr hro hav hk=>
   intro A G β t w vs h hvl hvd
   exact jr hs hok hlen ha hr hro hk h hvl hvd
 | peek args s av k ρ sargs rin y hs hok hlen ha hr hra hav hy hrk hk=>
   intro A G β t w vs h hvl hvd
   have hr':∀d r,aC rin d=some r→∃c r0,aH ρ d=some c∧s.res c=some r0∧bh.le r0 (r.ren ρ):=fun d r hd=>by
    obtain⟨c,h1,h2⟩:=hr d r hd;exact⟨c,_,h1,h2,bh.le_refl _⟩
   have hro':∀d c,aH ρ d=some c→aC rin d=none→s.used c=false:=fun d c hd hl=>by
    obtain⟨r,h1⟩:=hra d c hd;rw[hl]at h1;cases h1
   obtain⟨e1,e2⟩:=jr (dst:=dst) (k:=fun u=>u=⟨dst,y.ren ρ,oT ρ rin,ρ.map (·.2)⟩) hs hok hlen ha hr' hro' (by
    rintro x rout ⟨rfl,rfl⟩
    exact⟨hy,fun d r hd=>⟨by obtain⟨c,h1,_⟩:=hr d r hd;rw[h1];rfl,hrk d r hd⟩,rfl⟩) h hvl hvd
   refine⟨e1,e2.mono ?_⟩;rintro e w' ⟨v,u,G',β',h1,rfl,h3,h4,h5⟩;refine⟨v,⟨dst,y.ren ρ,[],[]⟩,G',β',h1,hk,rfl,?_,h5⟩
   have hst:s.app ⟨none,.any,oT ρ rin,ρ.map (·.2)⟩=s.app ⟨none,.any,[],[]⟩:=by
    simp only[St.app,St.mk.injEq];refine⟨trivial,?_,?_⟩
    · funext c
      simp only[aA]
      by_cases hcd:∃d,aH ρ d=some c
      · obtain⟨d,hd⟩:=hcd;obtain⟨r,hl⟩:=hra d c hd;obtain⟨c',hc',hs'⟩:=hr d r hl;rw[hd]at hc';cases hc';exact(lh hok (cW hd)).trans (by rw[hl,hs'];rfl)
      · exact iI (fun d hd=>hcd ⟨d,qo hok hd⟩)
    · funext c
      simp only[d9]
      cases hq:mem (ρ.map (·.2)) c with
      |false=>rfl
      | true=>
        rw[mem_iff,List.mem_map]at hq;obtain⟨p,hp,rfl⟩:=hq;have hd:=qo hok (d:=p.1) (c:=p.2) hp;obtain⟨r,hl⟩:=hra p.1 p.2 hd;obtain⟨c',hc',hs'⟩:=hr p.1 r hl;rw[hd]at hc';cases hc';obtain⟨v0,hv0⟩:=dJ.named (h.rs _ _ hs');rw[h.sc _ _ hv0];rfl
   rw[←hst];exact h4
 | freeze args s av k d e kk n g hd hav h0 ih=>
   intro A G β t w vs h hvl hvd;obtain⟨G',hle,hm⟩:=h.freeze hd
   have hi:=ih hm (vs:=vs) (by simpa using hvl) (fun i x v hx hv=>by
    rw[List.getElem?_map]at hx
    cases hy:args[i]? with
    |none=>rw[hy]at hx;cases hx
    |some y=>rw[hy]at hx;cases hx;exact zG (hm.rs d (.fro kk n g) (by simp[St.app,aA,aW])) ((hvd i y v hy hv).mono hle (eP.le_refl β)))
   refine⟨hi.1,hi.2.mono ?_⟩;rintro e' w' ⟨v,u,G2,β2,h1,h2,h3,h4,h5⟩;refine⟨v,_,G2,β2,h1,h2,h3,?_,h5⟩
   have:(s.app ⟨none,.any,u.rs++ [(d,some (.fro kk n g))],u.us⟩)=((s.app ⟨none,.any,[(d,some (.fro kk n g))],[]⟩).app ⟨none,.any,u.rs,u.us⟩):=by
    simp only[St.app,sa];congr 1
    · funext x
      simp only[aA,eW]
   rw[this]
   exact h4
 | freezeF args s av k q d e kk n X g hq hd hav hav2 h0 ih=>
   intro A G β t w vs h hvl hvd;obtain⟨G',hle,hm,hfr⟩:=h.freezeF hq hd
   have hi:=ih hm (vs:=vs) (by simpa using hvl) (fun i x v hx hv=>by
    rw[List.getElem?_map]at hx
    cases hy:args[i]? with
    |none=>rw[hy]at hx;cases hx
    |some y=>rw[hy]at hx;cases hx;exact Du hfr ((hvd i y v hy hv).mono hle (eP.le_refl β)))
   refine⟨hi.1,hi.2.mono ?_⟩;rintro e' w' ⟨v,u,G2,β2,h1,h2,h3,h4,h5⟩;refine⟨v,_,G2,β2,h1,h2,h3,?_,h5⟩
   have:(s.app ⟨none,.any,u.rs++ [(d,some (.fro kk n g))],u.us⟩)=((s.app ⟨none,.any,[(d,some (.fro kk n g))],[]⟩).app ⟨none,.any,u.rs,u.us⟩):=by
    simp only[St.app,sa];congr 1
    · funext x
      simp only[aA,eW]
   rw[this];exact h4
end Go.Eng
namespace Go.Eng
open Go
def gS (C:List Nat)(dst:Option Nat):Bool:=
 match dst with
 |some d=>mem C d
 |none=>false
def Dp (P:Program)(dst:Option Nat)(f:SV)(args:List SV)(s:St)(av:List Nat)(k:cM→Prop):Prop:=
 match f with
 | .fn g caps=>dP P g dst (args++caps) s av k
 |_=>False
def memO (av:List Nat)(d:Option Nat):Bool:=match d with|some d=>mem av d|none=>false
def nX (T:ci)(dst:Option Nat)(s:St)(av:List Nat)(ty:TypeId)(m key x:SV)(k:cM→Prop):Prop:=
 match m with
 | .mp d=>br (mem av d) False (match s.res d with
   |some (.mapR ..)=>Hs T dst s av ty (.mp d) key x k
   |_=>iN T dst s ty (.mp d) key x k)
 |_=>False
def vr (T:ci)(dst:Option Nat)(s:St)(av:List Nat)(ty:TypeId)(m key:SV)(k:cM→Prop):Prop:=
 match m with
 | .mp d=>br (mem av d) False (nH T dst s ty (.mp d) key k)
 |_=>False
def vg (T:ci)(dst:Option Nat)(s:St)(av:List Nat)(ty:TypeId)(m key:SV)(k:cM→Prop):Prop:=
 match m with
 | .mp d=>br (mem av (d+1099511627776)||mem av (d+2199023255552)) False (jy T dst s ty (.mp d) key k)
 |_=>False
def yn (T:ci)(dst:Option Nat)(s:St)(av:List Nat)(m st x:SV)(k:cM→Prop):Prop:=
 match m with
 | .mp d=>br (mem av d) False (gB T dst s (.mp d) st x k)
 |_=>False
def Cg (T:ci)(dst:Option Nat)(s:St)(ty:TypeId)(m x:SV)(ok:Bool)(k:cM→Prop):Prop:=
 match m with
 | .mp d=>match s.res d with
   |some (.mapR ..)=>br ok False (Ap T dst s [] ty (.mp d) x k)
   |_=>fR T s ty (.mp d) x ok fun v=>k ⟨dst,v,[],[]⟩
 |_=>False
def dc (P:Program)(T:ci)(C:List Nat)(o:Oper)(s:St)(av:List Nat)(k:cM→Prop):Prop:=
 match o.op with
 | .alloc ty=>ry T o.dst s ty k
 | .box ty x=>HU o.dst s ty (s.ev x) k
 | .buildSlice ty n ps=>dX T o.dst s (gS C o.dst) ty n (ps.toList.map fun p=>(p.1,s.ev p.2)) k
 | .makeSlice ty l c=>ix T o.dst s ty (s.ev l) (s.ev c) k
 | .store ty p x=>ua T o.dst s av ty (s.ev p) (s.ev x) k
 | .call c=>match c.callee with
   | .value f=>Dp P o.dst (s.ev f) (c.args.toList.map s.ev) s av k
   | .builtin .append=>match c.args.toList,c.argTypes.toList with
     | [x,y],[ty,ty2]=>br (Nat.beq ty2 ty) (qm T o.dst s av ty (s.ev x) (s.ev y) k) False
     |_,_=>False
   | .builtin .delete=>match c.args.toList,c.argTypes.toList with
     | [x,y],[ty,_]=>vr T o.dst s av ty (s.ev x) (s.ev y) k
     |_,_=>False
   |_=>xT T o s fun v=>k ⟨o.dst,v,[],[]⟩
 | .slice ty x lo hi mx=>match s.ev x with
   | .buf d=>match mx with
     |none=>br (gS C o.dst) (br (!(mem av d||memO av o.dst)) (nJ T o.dst s ty d (lo.map s.ev) (hi.map s.ev) k) False) (vx T o.dst s ty (.buf d) (lo.map s.ev) (hi.map s.ev) k)
     |some _=>False
   |_=>xT T o s fun v=>k ⟨o.dst,v,[],[]⟩
 | .lookup ty m x ok=>br (gS C o.dst) (br ok False (Ap T o.dst s av ty (s.ev m) (s.ev x) k)) (fR T s ty (s.ev m) (s.ev x) ok fun v=>k ⟨o.dst,v,[],[]⟩)
 | .mapUpdate ty m key x=>nX T o.dst s av ty (s.ev m) (s.ev key) (s.ev x) k
 | .mapEntry ty m key=>vg T o.dst s av ty (s.ev m) (s.ev key) k
 | .entryStore ty m st x=>yn T o.dst s av (s.ev m) (s.ev st) (s.ev x) k
 |_=>xT T o s fun v=>k ⟨o.dst,v,[],[]⟩
theorem bY {b:Bool}{x:Prop}(h:br b False x):b=false∧x:=by
 cases b
 · exact⟨rfl,h⟩
 · exact h.elim
section
variable {P:Program} {T:ci} {A:mA} {G:Hp} {β:eP} {s:St} {a:Act} {w:World} {t:Array Value}
theorem FS (h:MG A G β s a.tmps w)(l:List Operand):∀ (i:Nat) x v,(l.map s.ev)[i]? =some x→(l.map a.eval)[i]? =some v→ak G β x v:=by
 intro i x v hx hv;rw[List.getElem?_map]at hx hv
 cases hl:l[i]? with
 |none=>rw[hl]at hx;cases hx
 |some y=>rw[hl]at hx hv;cases hx;cases hv;exact h.ev y
theorem rn (hT:aQ P T){o:Oper}{ty:TypeId}{m key x:Operand}(ho:o.op= .mapUpdate ty m key x)(h0:a.defers= [])(h:MG A G β s a.tmps w)(hN:∀d,o.dst=some d→d<A.N){av:List Nat}
 {k:cM→Prop}(hk:nX T o.dst s av ty (s.ev m) (s.ev key) (s.ev x) k){Q:Exit→Act→World→Prop}:o.wp P a w (fun a' w' =>∃u,k u∧ib A (s.app u) a' w') Q:=by
 unfold nX at hk;split at hk
 · rename_i d hm;obtain⟨_,hk⟩:=bY hk;split at hk
   · rw[←hm]at hk;exact GS hT ho h0 h hN hk
   · rw[←hm]at hk;exact nY hT (.inl ho) h0 h hN hk
 · exact hk.elim
theorem wc (hT:aQ P T){o:Oper}{ty:TypeId}{m x:Operand}{ok:Bool}(ho:o.op= .lookup ty m x ok)(h0:a.defers= [])(h:MG A G β s a.tmps w)(hN:∀d,o.dst=some d→d<A.N)
 {k:cM→Prop}(hk:fR T s ty (s.ev m) (s.ev x) ok fun v=>k ⟨o.dst,v,[],[]⟩){Q:Exit→Act→World→Prop}:o.wp P a w (fun a' w' =>∃u,k u∧ib A (s.app u) a' w') Q:=by
 obtain⟨v,y,h1,h2,h3⟩:=uh hT h (h.ev m) (h.ev x) hk;exact bw (by simp[execOp,ho,h1]) ⟨_,h3,MG.fin (s:=s) (rs:= []) (us:= []) (h0:=h0) h hN h2⟩
theorem vJ (hT:aQ P T){o:Oper}{ty:TypeId}{m x:Operand}{ok:Bool}(ho:o.op= .lookup ty m x ok)(h0:a.defers= [])(h:MG A G β s a.tmps w)(hN:∀d,o.dst=some d→d<A.N){av:List Nat}
 {k:cM→Prop}(hk:br ok False (Ap T o.dst s av ty (s.ev m) (s.ev x) k)){Q:Exit→Act→World→Prop}:o.wp P a w (fun a' w' =>∃u,k u∧ib A (s.app u) a' w') Q:=by
 obtain⟨rfl,hk⟩:=bY hk;exact GQ hT ho h0 h hN hk
theorem DB (hT:aQ P T){o:Oper}{ty:TypeId}{m x:Operand}{ok:Bool}(ho:o.op= .lookup ty m x ok)(h0:a.defers= [])(h:MG A G β s a.tmps w)(hN:∀d,o.dst=some d→d<A.N)
 {k:cM→Prop}(hk:Cg T o.dst s ty (s.ev m) (s.ev x) ok k){Q:Exit→Act→World→Prop}:o.wp P a w (fun a' w' =>∃u,k u∧ib A (s.app u) a' w') Q:=by
 unfold Cg at hk;split at hk
 · rename_i d hm;split at hk
   · rw[←hm]at hk;exact vJ hT ho h0 h hN hk
   · rw[←hm]at hk;exact wc hT ho h0 h hN hk
 · exact hk.elim
theorem bO (hT:aQ P T){C:List Nat}(h0:a.defers= [])(h:MG A G β s a.tmps w){o:Oper}(hN:∀d,o.dst=some d→d<A.N){av:List Nat}{k:cM→Prop}
 (hk:dc P T C o s av k){Q:Exit→Act→World→Prop}:o.wp P a w (fun a' w' =>∃u,k u∧ib A (s.app u) a' w') Q:=by
 have pure:xT T o s (fun v=>k ⟨o.dst,v,[],[]⟩)→o.wp P a w (fun a' w' =>∃u,k u∧ib A (s.app u) a' w') Q:=by
  intro hk;obtain⟨v,x,h1,h2,h3⟩:=tc hT h hk;exact bw h1 ⟨_,h3,MG.fin (s:=s) (rs:= []) (us:= []) (h0:=h0) h hN h2⟩
 unfold dc at hk;split at hk
 · rename_i ty ho;exact Eb hT ho h0 h hN hk
 · rename_i ty x ho;exact H2 ho h0 h hN hk
 · rename_i ty n ps ho;exact mB hT ho h0 h hN hk
 · rename_i ty l c ho;exact uQ hT ho h0 h hN hk
 · rename_i ty p x ho;exact DS hT ho h0 h hN hk
 · rename_i c ho;split at hk
   · rename_i f hc;unfold Dp at hk;split at hk
     · rename_i g caps hf;have hfd:=h.ev f;rw[hf]at hfd;generalize hfv:a.eval f=fv at hfd
       cases hfd with|fn _ _ vs hl hd=>
       obtain⟨c1,c2⟩:=hk.sound h (vs:=c.args.toList.map a.eval++vs) (by simp[hl]) (fun i x v hx hv=>by
        have hlen:(c.args.toList.map s.ev).length=(c.args.toList.map a.eval).length:=by simp
        rcases Nat.lt_or_ge i (c.args.toList.map s.ev).length with q|q
        · rw[List.getElem?_append_left q]at hx;rw[List.getElem?_append_left (by rw[←hlen];exact q)]at hv;exact FS h _ i x v hx hv
        · rw[List.getElem?_append_right q]at hx;rw[List.getElem?_append_right (by rw[←hlen];exact q),←hlen]at hv
          exact hd _ x v hx hv)
       have hrun:(execOp a.eval o).run P w= .ok (.enter g (c.args.toList.map a.eval++vs).toArray) w:=by
        have:(c.args.map a.eval++vs.toArray)=(c.args.toList.map a.eval++vs).toArray:=by apply Array.ext';simp
        simp only[execOp,ho,resolve,hc,hfv,Deferred.ofValue,Sem.run_bind,Sem.run_pure,Result.andThen_ok,invoke];rw[show(#[]++c.args.map a.eval++vs.toArray)=(c.args.toList.map a.eval++vs).toArray by rw[←this];simp];exact c1 _ _
       unfold Oper.wp;rw[hrun,Oper.upon_enter];refine c2.mono ?_;rintro e w' ⟨v,u,G',β',rfl,k1,k2,k3,k4⟩;refine⟨u,k1,?_⟩;obtain⟨ud,uv,urs,uus⟩:=u;simp only at k2;subst k2;exact k3.fin (h0:=h0) hN k4
     · exact hk.elim
   · rename_i hc;split at hk
     · rename_i x y ty ty2 ha hty;obtain⟨h2,hk⟩:=ax hk;exact A0 hT ho hc (by apply Array.ext';simpa using ha) (by apply Array.ext';simpa using hty) (Nat.eq_of_beq_eq_true h2) h0 h hN hk
     · exact hk.elim
   · rename_i hc;split at hk
     · rename_i x y ty ty2 ha hty;unfold vr at hk;split at hk
       · rename_i d hm;obtain⟨_,hk⟩:=bY hk;rw[←hm]at hk;exact sY hT ho hc (by apply Array.ext';simpa using ha) (by apply Array.ext';simpa using hty) h0 h hN hk
       · exact hk.elim
     · exact hk.elim
   · exact pure hk
 · rename_i ty x lo hi mx ho;split at hk
   · rename_i d hd;split at hk
     · cases hm:gS C o.dst with
       |true=>rw[hm]at hk;exact tV hT ho h0 h hN hd (ax hk).2
       |false=>rw[hm]at hk;exact yC hT ho h0 h hN (by rw[hd];exact hk)
     · exact hk.elim
   · exact pure hk
 · rename_i ty m x ok ho
   cases hm:gS C o.dst with
   |true=>rw[hm]at hk;exact vJ hT ho h0 h hN hk
   |false=>rw[hm]at hk;exact wc hT ho h0 h hN hk
 · rename_i ty m key x ho;exact rn hT ho h0 h hN hk
 · rename_i ty m key ho;unfold vg at hk;split at hk
   · rename_i d hm;obtain⟨_,hk⟩:=bY hk;rw[←hm]at hk;exact pw hT ho h0 h hN hk
   · exact hk.elim
 · rename_i ty m st x ho;unfold yn at hk;split at hk
   · rename_i d hm;obtain⟨_,hk⟩:=bY hk;rw[←hm]at hk;exact mC ho h0 h hN hk
   · exact hk.elim
 · exact pure hk
end
mutual
def mP:SV→(SV→Prop)→Prop
 | .any,k=>k .any
 | .bad,k=>k .bad
 | .undef,k=>k .undef
 | .d x,k=>uU x fun x=>k (.d x)
 | .agg l,k=>o8 l fun l=>k (.agg l)
 | .tup l,k=>o8 l fun l=>k (.tup l)
 | .ptr q o,k=>k (.ptr q o)
 | .buf q,k=>k (.buf q)
 | .bel q kk i o,k=>k (.bel q kk i o)
 | .mp q,k=>k (.mp q)
 | .fn f caps,k=>o8 caps fun l=>k (.fn f l)
 | .sub q kk lo n,k=>k (.sub q kk lo n)
def o8:List SV→(List SV→Prop)→Prop
 | [],k=>k []
 |x::l,k=>mP x fun x=>o8 l fun l=>k (x::l)
end
mutual
theorem tU:∀ (x:SV) (k:SV→Prop),mP x k=k x
 | .any,k=>rfl
 | .bad,k=>rfl
 | .undef,k=>rfl
 | .d x,k=>by simp only[mP,s8]
 | .agg l,k=>by simp only[mP,lK l]
 | .tup l,k=>by simp only[mP,lK l]
 | .ptr q o,k=>rfl
 | .buf q,k=>rfl
 | .bel q kk i o,k=>rfl
 | .mp q,k=>rfl
 | .fn f caps,k=>by simp only[mP,lK caps]
 | .sub q kk lo n,k=>rfl
theorem lK:∀ (l:List SV) (k:List SV→Prop),o8 l k=k l
 | [],k=>rfl
 |x::l,k=>by simp only[o8,tU x,lK l]
end
mutual
def nU:SV→(SV→Prop)→Prop
 | .any,k=>k .any
 | .bad,k=>k .bad
 | .undef,k=>k .undef
 | .d x,k=>k (.d x)
 | .agg l,k=>jX l fun l=>k (.agg l)
 | .tup l,k=>jX l fun l=>k (.tup l)
 | .ptr q o,k=>k (.ptr q o)
 | .buf q,k=>k (.buf q)
 | .bel q kk i o,k=>k (.bel q kk i o)
 | .mp q,k=>k (.mp q)
 | .fn f caps,k=>jX caps fun l=>k (.fn f l)
 | .sub q kk lo n,k=>k (.sub q kk lo n)
def jX:List SV→(List SV→Prop)→Prop
 | [],k=>k []
 |x::l,k=>nU x fun x=>jX l fun l=>k (x::l)
end
mutual
theorem zm:∀ (x:SV) (k:SV→Prop),nU x k=k x
 | .any,k=>rfl
 | .bad,k=>rfl
 | .undef,k=>rfl
 | .d x,k=>rfl
 | .agg l,k=>by simp only[nU,iB l]
 | .tup l,k=>by simp only[nU,iB l]
 | .ptr q o,k=>rfl
 | .buf q,k=>rfl
 | .bel q kk i o,k=>rfl
 | .mp q,k=>rfl
 | .fn f caps,k=>by simp only[nU,iB caps]
 | .sub q kk lo n,k=>rfl
theorem iB:∀ (l:List SV) (k:List SV→Prop),jX l k=k l
 | [],k=>rfl
 |x::l,k=>by simp only[jX,zm x,iB l]
end
def yy (r:bh)(k:bh→Prop):Prop:=
 match r with
 | .cells e l=>jX l fun l=>k (.cells e l)
 | .buf e kk n g=>k (.buf e kk n g)
 | .fro kk n g=>k (.fro kk n g)
 | .byb n g=>k (.byb n g)
 | .map ag va ks zr has val=>k (.map ag va ks zr has val)
 | .mapB ag va ks zr has val clock kb=>k (.mapB ag va ks zr has val clock kb)
 | .iter m since seen=>k (.iter m since seen)
 | .mapR kk e kz has len get hole=>k (.mapR kk e kz has len get hole)
 | .bunch e kk l=>k (.bunch e kk l)
 | .inX X=>k (.inX X)
 | .know Q=>k (.know Q)
 | .no=>k .no
theorem A4 (r:bh)(k:bh→Prop):yy r k=k r:=by cases r<;>simp only[yy,iB]
def mc:List (Nat×Option bh)→(List (Nat×Option bh)→Prop)→Prop
 | [],k=>k []
 |(d,none)::l,k=>mc l fun l=>k ((d,none)::l)
 |(d,some r)::l,k=>yy r fun r=>mc l fun l=>k ((d,some r)::l)
theorem mX:∀ (l:List (Nat×Option bh)) (k:List (Nat×Option bh)→Prop),mc l k=k l
 | [],k=>rfl
 |(d,none)::l,k=>by simp only[mc,mX l]
 |(d,some r)::l,k=>by simp only[mc,A4,mX l]
def oB:List Nat→(List Nat→Prop)→Prop
 | [],k=>k []
 |d::l,k=>oB l fun l=>k (d::l)
theorem lY:∀ (l:List Nat) (k:List Nat→Prop),oB l k=k l
 | [],k=>rfl
 |d::l,k=>by simp only[oB,lY l]
def vk (x:Option Nat)(k:Option Nat→Prop):Prop:=match x with|some d=>k (some d)|none=>k none
theorem o6 (x:Option Nat)(k:Option Nat→Prop):vk x k=k x:=by cases x<;>rfl
def uO (u:cM)(k:cM→Prop):Prop:=
 match u with
 |⟨dst,v,rs,us⟩=>vk dst fun dst=>mP v fun v=>mc rs fun rs=>oB us fun us=>k ⟨dst,v,rs,us⟩
theorem tD (u:cM)(k:cM→Prop):uO u k=k u:=by
 cases u;simp only[uO,o6,tU,mX,lY]
def t7 (s : St)(ops:List Oper)(g:Option (Nat×Bool))(yes no:St→Prop):Prop:=
 match g with
 |none=>yes s
 | some (j,want)=>match ops.drop j with
   | oj :: _=>match oj.dst with
     | some t=>match s.tmps t with
       | .d (.bool b)=>br b (match want with|true=>yes (s.app ⟨some t,.d (.bool true),[],[]⟩)|false=>no (s.app ⟨some t,.d (.bool true),[],[]⟩))
          (match want with|true=>no (s.app ⟨some t,.d (.bool false),[],[]⟩)|false=>yes (s.app ⟨some t,.d (.bool false),[],[]⟩))
       | .undef=>no s
       |_=>False
     |none=>no s
   | []=>no s
def nO (s:St)(ops:List Oper)(g:Option (Nat×Bool)):Option Bool:=
 match g with
 |none=>some true
 | some (j,want)=>match ops.drop j with
   | oj::_=>match oj.dst with
     | some t=>match s.tmps t with
       | .d (.bool b)=>some (b==want)
       | .undef=>some false
       |_=>none
     |none=>some false
   | []=>some false
theorem xN {s:St}{t:Nat}{x:SV}(h:s.tmps t=x):s.app ⟨some t,x,[],[]⟩=s:=by
 obtain⟨tm,rs,us⟩:=s;simp only[St.app,Gv,yJ,St.mk.injEq,and_true];funext i
 rw[fA];split
 · rename_i e;cases e;exact h.symm
 · rfl
theorem pB {s:St}{ops:List Oper}{g:Option (Nat×Bool)}{yes no:St→Prop}(h:t7 s ops g yes no):(nO s ops g=some true∧yes s)∨(nO s ops g=some false∧no s):=by
 unfold t7 at h;unfold nO;split at h
 · exact .inl ⟨rfl,h⟩
 · rename_i j want;split at h
   · rename_i oj r hj;try rw[hj]
     try dsimp only
     split at h
     · rename_i t ht;try rw[ht]
       try dsimp only
       split at h
       · rename_i b hb;try rw[hb]
         unfold br at h;cases b
         · rw[xN hb]at h;cases want
           · exact .inl ⟨rfl,h⟩
           · exact .inr ⟨rfl,h⟩
         · rw[xN hb]at h;cases want
           · exact .inr ⟨rfl,h⟩
           · exact .inl ⟨rfl,h⟩
       · rename_i hb;try rw[hb]
         exact .inr ⟨rfl,h⟩
       · exact h.elim
     · rename_i ht;try rw[ht]
       exact .inr ⟨rfl,h⟩
   · rename_i hj;try rw[hj]
     exact .inr ⟨rfl,h⟩
inductive jP (T:ci) (o:Oper) (s:St) (ty:TypeId) (d:Nat) (lo hi:Option SV) (mx:Option Operand) (k:cM→Prop):Prop
 |freeze (e kk n:Nat) (g:Nat→List DV) (hd:s.res d=some (.buf e kk n g)) (h:xT T o (s.app ⟨none,.any,[(d,some (.fro kk n g))],[]⟩) fun v=>k ⟨o.dst,v,[(d,some (.fro kk n g))],[]⟩):jP T o s ty d lo hi mx k
 |first(hm:mx=none) (h:nJ T o.dst s ty d lo hi k):jP T o s ty d lo hi mx k
 |look (hm:mx=none) (h:vx T o.dst s ty (.buf d) lo hi k):jP T o s ty d lo hi mx k
def Mo (T:ci)(t:TypeId):Option KK:=
 match T t with
 |some ⟨.int k,_,_,_,_⟩=>some (.int k)
 |some ⟨.string,_,_,_,_⟩=>some .str
 |some ⟨.bool,_,_,_,_⟩=>some .bool
 |_=>none
def Oo (T:ci):List Field→Option (List KK)
 | []=>some []
 | f::r=>match Mo T f.type,Oo T r with
   |some k,some l=>some (k::l)
   |_,_=>none
def Mi (T:ci)(kt:TypeId):Option (Bool×List KK):=
 match T kt with
 | some ⟨.struct fs,_,_,_,_⟩=>match Oo T fs.toList with
   |some l=>some (true,l)
   |none=>none
 | some ⟨.array n e,_,_,_,_⟩=>match Mo T e with
   |some k=>some (true,List.replicate n k)
   |none=>none
 | _=>match Mo T kt with
   |some k=>some (false,[k])
   |none=>none
def vd (op:BinOp)(n:Nat)(k:SV→Prop):Prop:=
 match op with
 | .eql=>∀b:Bool,(b=true→n=0)→k (.d (.bool b))
 | .neq=>∀b:Bool,(b=false→n=0)→k (.d (.bool b))
 |_=>False
def vj (T:ci)(s:St)(op:BinOp)(t:TypeId)(x:SV)(k:SV→Prop):Prop:=
 match T t,x with
 |some ⟨.slice _,_,_,_,_⟩,.d (.ro _ n _)=>vd op n k
 | some ⟨.slice _,_,_,_,_⟩,.buf d=>match s.res d with
   |some (.buf _ _ n _)=>vd op n k
   |_=>False
 | some ⟨.slice _,_,_,_,_⟩,.d .nilsl=>match op with
   | .eql=>k (.d (.bool true))
   | .neq=>k (.d (.bool false))
   |_=>False
 |_,_=>False
theorem lp {P:Program}{t e:TypeId}(w:World)(d:Nat)(a:Option Addr)(n c n' c':Nat)(h:P.underlying t=some (.slice e)):(Op.equalIn (d+1) t (.slice a n c) (.slice none n' c')).run P w= .ok a.isNone w:=by
 cases a<;>simp[Op.equalIn,run_underlying h]
theorem mH {P:Program}{t e:TypeId}(w:World)(a:Option Addr)(n c n' c':Nat)(h:P.underlying t=some (.slice e)):(binOp .eql t (.slice a n c) (.slice none n' c')).run P w= .ok (.bool a.isNone) w:=by
 simp only[binOp];simp[Op.equal,Op.maxDepth,lp w 9999 a n c n' c' h]
theorem mY {P:Program}{t e:TypeId}(w:World)(a:Option Addr)(n c n' c':Nat)(h:P.underlying t=some (.slice e)):(binOp .neq t (.slice a n c) (.slice none n' c')).run P w= .ok (.bool (!a.isNone)) w:=by
 simp only[binOp];simp[Op.equal,Op.maxDepth,lp w 9999 a n c n' c' h]
theorem ue {P:Program}{T:ci}{G:Hp}{β:eP}{w:World}{s:St}(hT:aQ P T)(vD:∀d r,s.res d=some r→dJ G β w d r){op:BinOp}{t:TypeId}{x y:Operand}{X:SV}{u v:Value}(hx:ak G β X u)(hy:ak G β (.d .nilsl) v){k:SV→Prop}
 (h:vj T s op t X k):dY P G β w (do eqGuard op t x y u v;binOp op t u v) k:=by
 cases hy with|d _ _ hy=>cases hy with|nilsl=>
 unfold vj at h;split at h
 · rename_i e _ _ _ _ kk n g ht;have hu:=(hT.get ht).1;simp only at hu
   cases hx with|d _ _ hx=>
   obtain⟨a,m,c,rfl,hz⟩:∃a m c,u= .slice a m c∧(a.isNone=true→n=0):=by
    cases hx with
    |ronil=>exact⟨_,_,_,rfl,fun _=>rfl⟩
    |ro _ _ _ a cap=>exact⟨_,_,_,rfl,fun h=>by cases h⟩
   unfold vd at h;split at h
   · exact⟨_,_,by rw[eqGuard_at_slice];simp[mH w a m c 0 0 hu]<;>rfl,.d _ _ (.bool _),h _ hz⟩
   · exact⟨_,_,by rw[eqGuard_at_slice];simp[mY w a m c 0 0 hu]<;>rfl,.d _ _ (.bool _),h _ (fun e=>hz (by simpa using e))⟩
   · exact h.elim
 · rename_i e _ _ _ _ d ht;have hu:=(hT.get ht).1;simp only at hu;split at h
   · rename_i e' kk n g hr;obtain⟨v',xs,hv,hown,_⟩:=vD _ _ hr
     cases hx with|buf _ _ hb _=>
     rw[hb]at hv;cases hv
     obtain⟨a,m,c,rfl,hz⟩:∃a m c,u= .slice a m c∧(a.isNone=true→n=0):=by
      rcases hown.2 with⟨rfl,rfl⟩|⟨g',cap,cur,rfl,_⟩
      · exact⟨_,_,_,rfl,fun _=>rfl⟩
      · exact⟨_,_,_,rfl,fun h=>by cases h⟩
     unfold vd at h;split at h
     · exact⟨_,_,by rw[eqGuard_at_slice];simp[mH w a m c 0 0 hu]<;>rfl,.d _ _ (.bool _),h _ hz⟩
     · exact⟨_,_,by rw[eqGuard_at_slice];simp[mY w a m c 0 0 hu]<;>rfl,.d _ _ (.bool _),h _ (fun e=>hz (by simpa using e))⟩
     · exact h.elim
   · exact h.elim
 · rename_i e _ _ _ _ ht;have hu:=(hT.get ht).1;simp only at hu
   cases hx with|d _ _ hx=>cases hx with|nilsl=>
   split at h
   · exact⟨_,_,by rw[eqGuard_at_slice];simp[mH w none 0 0 0 0 hu]<;>rfl,.d _ _ (.bool _),h⟩
   · exact⟨_,_,by rw[eqGuard_at_slice];simp[mY w none 0 0 0 0 hu]<;>rfl,.d _ _ (.bool _),h⟩
   · exact h.elim
 · exact h.elim
def Ct (P : Program)(T:ci)(C:List Nat)(o:Oper)(s:St)(k:cM→Prop):Prop:=
 match o.op with
 | .alloc ty=>match o.dst with
   |some d=>br (s.used d) (zu T (some d) (d+100000) s ty k) (dc P T C o s [] k)
   |none=>dc P T C o s [] k
 | .slice ty x lo hi mx=>match s.ev x with
   | .buf d=>jP T o s ty d (lo.map s.ev) (hi.map s.ev) mx k
   | .sub d kk lo0 n=>match mx with
     |none=>vx T o.dst s ty (.sub d kk lo0 n) (lo.map s.ev) (hi.map s.ev) k
     |some _=>False
   |_=>dc P T C o s [] k
 | .buildSlice ty n ps=>match ps.toList with
   | [p] =>match s.ev p.2 with
     | .buf d=>match s.res d with
       |some (.buf _ kk m g)=>dX T o.dst (s.app ⟨none,.any,[(d,some (.fro kk m g))],[]⟩) (gS C o.dst) ty n [(p.1,(s.app ⟨none,.any,[(d,some (.fro kk m g))],[]⟩).ev p.2)] fun u=>k ⟨u.dst,u.v,u.rs++ [(d,some (.fro kk m g))],u.us⟩
       |_=>False
     | .agg l=>match s.res 999999 with
       | some (.bunch e kk bl)=>match Hk l with
         | some d=>match s.res d with
           |some (.buf e' kk' m g)=>br (Nat.beq e' e&&Nat.beq kk' kk) (∀v:Value,dX T o.dst (s.app ⟨none,.any,[(999999,some (.bunch e kk ((v,m,g)::bl))),(d,none)],[]⟩) (gS C o.dst) ty n [(p.1,LM d v (.agg l))] fun u=>k ⟨u.dst,u.v,u.rs++ [(999999,some (.bunch e kk ((v,m,g)::bl))),(d,none)],u.us⟩) False
           |_=>False
         |none=>dc P T C o s [] k
       |_=>dc P T C o s [] k
     |_=>dc P T C o s [] k
   |_=>dc P T C o s [] k
 | .makeMap ty r=>match r,T ty with
   | none,some ⟨.map kt _,_,_,_,_⟩=>match Mi T kt with
     |some (ag,ks)=>qT T o.dst s ty ag ks k
     |none=>False
   |_,_=>False
 | .lookup ty m x ok=>Cg T o.dst s ty (s.ev m) (s.ev x) ok k
 | .binOp op ty x y _=>match s.ev y with
   | .d .nilsl=>vj T s op ty (s.ev x) fun v=>k ⟨o.dst,v,[],[]⟩
   |_=>dc P T C o s [] k
 | .mapUpdate ty m key x=>nX T o.dst s [] ty (s.ev m) (s.ev key) (s.ev x) k
 | .insert ty m key x=>iN T o.dst s ty (s.ev m) (s.ev key) (s.ev x) k
 | .convert src ty x=>yi T o.dst s src ty (s.ev x) k (dc P T C o s [] k)
 | .range ty m=>zt T o.dst s ty (s.ev m) k
 | .next it isS=>Cr T o.dst s (s.ev it) isS k
 | .entry it=>yu T o.dst s (s.ev it) fun v=>k ⟨o.dst,v,[],[]⟩
 | .mapEntry ty m key=>jy T o.dst s ty (s.ev m) (s.ev key) k
 | .entryStore ty m st x=>gB T o.dst s (s.ev m) (s.ev st) (s.ev x) k
 | .call c=>match c.callee with
   | .builtin .len=>match c.args.toList,c.argTypes.toList with
     | [x],[ty]=>match s.ev x with
       | .mp d=>match T ty with
         |some ⟨.map _ _,_,_,_,_⟩=>uI s (.mp d) fun v=>k ⟨o.dst,v,[],[]⟩
         |_=>False
       |_=>dc P T C o s [] k
     |_,_=>False
   | .builtin .clear=>match c.args.toList,c.argTypes.toList with
     | [x],[ty]=>zk T o.dst s ty (s.ev x) k
     |_,_=>False
   | .builtin .delete=>match c.args.toList,c.argTypes.toList with
     | [x,y],[ty,_]=>nH T o.dst s ty (s.ev x) (s.ev y) k
     |_,_=>False
   | .builtin .append=>match c.args.toList,c.argTypes.toList with
     | [x,y],[ty,ty2]=>match s.ev y with
       | .buf d=>br (Nat.beq ty2 ty) (kp T o.dst s [] ty (s.ev x) (rv s (.buf d)) k) False
       | .sub d kk lo n=>br (Nat.beq ty2 ty) (kp T o.dst s [] ty (s.ev x) (rv s (.sub d kk lo n)) k) False
       | .d (.str bs)=>zz T o.dst s ty ty2 (s.ev x) bs k
       |_=>dc P T C o s [] k
     |_,_=>False
   |_=>dc P T C o s [] k
 |_=>dc P T C o s [] k
theorem v8 {P : Program}{T:ci}{A:mA}{G:Hp}{β:eP}{s:St}{a:Act}{w:World}(hT:aQ P T){C:List Nat}(h0:a.defers= [])(h:MG A G β s a.tmps w){o:Oper}(hN:∀d,o.dst=some d→d<A.N){k:cM→Prop}
 (hk:Ct P T C o s k){Q:Exit→Act→World→Prop}:o.wp P a w (fun a' w' =>∃u,k u∧ib A (s.app u) a' w') Q:=by
 unfold Ct at hk;split at hk
 · rename_i ty ho;split at hk
   · rename_i d hd
     cases hu:s.used d with
     |true=>rw[hu]at hk;exact BK hT ho h0 h hN (by rw[hd];exact hk)
     |false=>rw[hu]at hk;exact bO hT h0 h hN hk
   · exact bO hT h0 h hN hk
 · rename_i ty x lo hi mx ho;split at hk
   · rename_i d hd
     cases hk with
     | freeze e kk n g hr hk=>
       obtain⟨G',hle,hm⟩:=h.freeze hr;obtain⟨v,y,h1,h2,h3⟩:=tc hT hm hk
       exact bw h1 ⟨_,h3,MG.fin (s:=s) (rs:= [(_,some (.fro kk n g))]) (us:= []) (h0:=h0) hm hN h2⟩
     |first hm hk=>subst hm;exact tV hT ho h0 h hN hd hk
     |look hm hk=>subst hm;rw[←hd]at hk;exact yC hT ho h0 h hN hk
   · rename_i d kk lo0 n hd;split at hk
     · rw[←hd]at hk;exact yC hT ho h0 h hN hk
     · exact hk.elim
   · exact bO hT h0 h hN hk
 · rename_i ty n ps ho;split at hk
   · rename_i p hp;split at hk
     · rename_i d hd;split at hk
       · rename_i e kk m g hr;obtain⟨G',hle,hm⟩:=h.freeze hr;refine Oper.wp_mono (fun a' w' hu=> ?_) (mB hT ho h0 hm hN (mt:=gS C o.dst) (k:=fun u=>k ⟨u.dst,u.v,u.rs++ [(d,some (.fro kk m g))],u.us⟩) (by rw[hp];exact hk));obtain⟨u,h1,h2⟩:=hu;refine⟨_,h1,?_⟩
         have:(s.app ⟨u.dst,u.v,u.rs++ [(d,some (.fro kk m g))],u.us⟩)=((s.app ⟨none,.any,[(d,some (.fro kk m g))],[]⟩).app u):=by
          simp only[St.app,sa];congr 1
          · funext x
            simp only[aA,eW]
         rw[this];exact h2
       · exact hk.elim
     · rename_i l hl;split at hk
       · rename_i e kk bl hq;split at hk
         · rename_i d hd;split at hk
           · rename_i e' kk' m g hr;obtain⟨hb,hk⟩:=ax hk;simp only[Bool.and_eq_true]at hb;obtain rfl:e' =e:=Nat.eq_of_beq_eq_true hb.1;obtain rfl:kk' =kk:=Nat.eq_of_beq_eq_true hb.2;obtain⟨v,hv,hm⟩:=h.bunchPut hr hq;refine Oper.wp_mono (fun a' w' hu=> ?_) (lj hT ho h0 hm hN (mt:=gS C o.dst) (lv:=fun y=>LM d v (s.ev y)) (k:=fun u=>k ⟨u.dst,u.v,u.rs++ [(999999,some (.bunch e' kk' ((v,m,g)::bl))),(d,none)],u.us⟩) (fun y _=>Fj hv (h.ev y.2)) (by rw[hp];simp only[List.map_cons,List.map_nil,hl];exact hk v));obtain⟨u,h1,h2⟩:=hu;refine⟨_,h1,?_⟩
             have:(s.app ⟨u.dst,u.v,u.rs++ [(999999,some (.bunch e' kk' ((v,m,g)::bl))),(d,none)],u.us⟩)=((s.app ⟨none,.any,[(999999,some (.bunch e' kk' ((v,m,g)::bl))),(d,none)],[]⟩).app u):=by
              simp only[St.app,sa];congr 1
              · funext x
                simp only[aA,eW]
             rw[this];exact h2
           · exact hk.elim
         · exact bO hT h0 h hN hk
       · exact bO hT h0 h hN hk
     · exact bO hT h0 h hN hk
   · exact bO hT h0 h hN hk
 · rename_i ty r ho;split at hk
   · split at hk
     · exact ze ho h0 h hN hk
     · exact hk.elim
   · exact hk.elim
 · rename_i ty m x ok ho;exact DB hT ho h0 h hN hk
 · rename_i op ty x y yt ho;split at hk
   · rename_i hy;have hy':=h.ev y;rw[hy]at hy';obtain⟨v,z,h1,h2,h3⟩:=ue (x:=x) (y:=y) hT h.rs (h.ev x) hy' hk;exact bw (by simp only[execOp,ho];rw[Sem.run_bind,h1];rfl) ⟨_,h3,MG.fin (s:=s) (rs:= []) (us:= []) (h0:=h0) h hN h2⟩
   · exact bO hT h0 h hN hk
 · rename_i ty m key x ho;exact rn hT ho h0 h hN hk
 · rename_i ty m key x ho;exact nY hT (.inr ho) h0 h hN hk
 · rename_i src ty x ho;exact C7 hT ho h0 h hN hk (fun hk=>bO hT h0 h hN hk)
 · rename_i ty m ho;exact DI hT ho h0 h hN hk
 · rename_i it isS ho;exact Fw hT ho h0 h hN hk
 · rename_i it ho;obtain⟨v,y,h1,h2,h3⟩:=wU (P:=P) h hk;exact bw (by simp[execOp,ho,h1]) ⟨_,h3,MG.fin (s:=s) (rs:= []) (us:= []) (h0:=h0) h hN h2⟩
 · rename_i ty m key ho;exact pw hT ho h0 h hN hk
 · rename_i ty m st x ho;exact mC ho h0 h hN hk
 · rename_i c ho;split at hk
   · rename_i hc;split at hk
     · rename_i x ty ha hty;split at hk
       · rename_i d hx;split at hk
         · rename_i kt vt _ _ _ _ hty2;have ha:c.args=#[x]:=by apply Array.ext';simpa using ha
           have hty:c.argTypes=#[ty]:=by apply Array.ext';simpa using hty
           rw[←hx]at hk;obtain⟨v,y,h1,h2,h3⟩:=vw (rt:=o.type) hT h (hT.get hty2).1 hk;exact bw (by simp[execOp,ho,resolve,hc,ha,hty,invoke,builtin,h1]) ⟨_,h3,MG.fin (s:=s) (rs:= []) (us:= []) (h0:=h0) h hN h2⟩
         · exact hk.elim
       · exact bO hT h0 h hN hk
     · exact hk.elim
   · rename_i hc;split at hk
     · rename_i x ty ha hty;exact Cn hT ho hc (by apply Array.ext';simpa using ha) (by apply Array.ext';simpa using hty) h0 h hN hk
     · exact hk.elim
   · rename_i hc;split at hk
     · rename_i x y ty ty2 ha hty;exact sY hT ho hc (by apply Array.ext';simpa using ha) (by apply Array.ext';simpa using hty) h0 h hN hk
     · exact hk.elim
   · rename_i hc;split at hk
     · rename_i x y ty ty2 ha hty;split at hk
       · rename_i d hy;obtain⟨h2,hk⟩:=ax hk;rw[←hy]at hk;exact td hT ho hc (by apply Array.ext';simpa using ha) (by apply Array.ext';simpa using hty) (Nat.eq_of_beq_eq_true h2) h0 h hN hk
       · rename_i d kk lo n hy;obtain⟨h2,hk⟩:=ax hk;rw[←hy]at hk;exact td hT ho hc (by apply Array.ext';simpa using ha) (by apply Array.ext';simpa using hty) (Nat.eq_of_beq_eq_true h2) h0 h hN hk
       · rename_i bs hy;exact xZ hT ho hc (by apply Array.ext';simpa using ha) (by apply Array.ext';simpa using hty) hy h0 h hN hk
       · exact bO hT h0 h hN hk
     · exact hk.elim
   · exact bO hT h0 h hN hk
 · exact bO hT h0 h hN hk
def EB (P:Program)(T:ci)(C:List Nat)(ops:List Oper):List Oper→(St→Prop)→St→Prop
 | [],k,s=>k s
 |o::r,k,s=>t7 s ops o.guard (fun s=>Ct P T C o s fun u=>uO u fun u=>EB P T C ops r k (s.app u)) (fun s=>vk o.dst fun dst=>EB P T C ops r k (s.app ⟨dst,.undef,[],[]⟩))
def BX (N:Nat)(o:Oper):Bool:=match o.dst with|some d=>Nat.blt d N|none=>true
def gc (N:Nat):Code→Bool
 | .region _ ops _=>ops.toList.all (BX N)
 | .seq a b=>gc N a&&gc N b
 | .cond _ a b=>gc N a&&gc N b
 | .block _ c=>gc N c
 | .loop c=>gc N c
 | .rangeFunc _ _ a b=>gc N a&&gc N b
 | .scope c=>gc N c
 |_=>true
theorem j4 {A :mA}{G:Hp}{β:eP}{s:St}{a:Act}{w:World}(h:MG A G β s a.tmps w){ops:Array Oper}{o:Oper}{b:Bool}(hk:nO s ops.toList o.guard=some b):
 Region.wanted o (yielded ops a.tmps)=b:=by
 unfold nO at hk;unfold Region.wanted;split at hk
 · rename_i hg;rw[hg];cases hk;rfl
 · rename_i j want hg;rw[hg];split at hk
   · rename_i oj r hj
     have hoj:ops[j]? =some oj:=by
      have:(ops.toList.drop j)[0]? =some oj:=by rw[hj];rfl
      rw[List.getElem?_drop,Nat.add_zero]at this;simpa using this
     split at hk
     · rename_i tt ht;have htd:=h.tm tt
       have hy:yielded ops a.tmps j=match a.tmps[tt]? with|some (.bool b)=>some b|_=>none:=by
        unfold yielded;simp only[hoj,Option.bind_some,ht];split
        · rename_i hb;rw[hb]
        · rename_i hb;split
          · rename_i b' hb';exact absurd hb' (hb b')
          · rfl
       split at hk
       · rename_i b hb;rw[hb]at htd
         have hv:a.tmps[tt]? =some (.bool b):=by
          rw[Array.getD_eq_getD_getElem?]at htd
          cases hq:a.tmps[tt]? with
          | none=>
            rw[hq]at htd;simp only[Option.getD_none]at htd
            cases htd with|d _ _ hd=>cases hd
          | some v=>
            rw[hq]at htd;simp only[Option.getD_some]at htd;cases htd with|d _ _ hd=>cases hd with|bool _=>rfl
         simp only[hy,hv];cases hk;cases b<;>cases want<;>rfl
       · rename_i hb;rw[hb]at htd;simp only[hy];rw[Array.getD_eq_getD_getElem?]at htd;cases hk
         cases hq:a.tmps[tt]? with
         |none=>rfl
         | some v=>
           rw[hq]at htd;simp only[Option.getD_some]at htd;cases htd;rfl
       · cases hk
     · rename_i ht;cases hk;simp[yielded,hoj,ht]
   · rename_i hj;cases hk
     have:ops[j]? =none:=by
      have:ops.toList.length≤j:=List.drop_eq_nil_iff.1 hj;simpa using this
     simp[yielded,this]
theorem x9 {P:Program}{T:ci}(hT:aQ P T){C:List Nat}{A:mA}{ops:Array Oper}{k:St→Prop}{Q:Exit→Act→World→Prop}(hQ:∀s a w,k s→ib A s a w→Q .normal a w):
 ∀ (l:List Oper) {s:St} {a:Act} {w:World},(∀o ∈ l,BX A.N o=true)→EB P T C ops.toList l k s→ib A s a w→wpList P ops Q l a w:=by
 intro l
 induction l with
 |nil=>intro s a w _ h hm;exact hQ _ _ _ h hm
 | cons o r ih=>
   intro s a w hN h hm
   have hN1:∀d,o.dst=some d→d<A.N:=by
    intro d hd;have:=hN o List.mem_cons_self;unfold BX at this;rw[hd]at this;simpa [Nat.blt_eq]using this
   have hNr:∀o ∈ r,BX A.N o=true:=fun o ho=>hN o (List.mem_cons_of_mem _ ho)
   obtain⟨h0,G,β,hg⟩:=hm;unfold EB at h;unfold wpList;rcases pB h with⟨h1,h2⟩|⟨h1,h2⟩
   · have h1:=j4 hg h1;rw[if_pos h1];refine .inl (Oper.wp_mono (fun a' w' hu=> ?_) (v8 hT h0 hg hN1 h2));obtain⟨u,hu1,hu2⟩:=hu;rw[tD]at hu1;exact ih hNr hu1 hu2
   · have h1:=j4 hg h1;rw[if_neg (by simp[h1])];rw[o6]at h2;exact ih hNr h2 (MG.fin (s:=s) (rs:= []) (us:= []) (h0:=h0) hg hN1 .undef)
def Kj (A:mA)(Q:Exit→St→Prop):Exit→Act→World→Prop:=fun e a w=>∃s,Q e s∧ib A s a w
def WP (P:Program)(c:Code)(Q:Exit→St→Prop)(s:St):Prop:=
 ∀ (A:mA) (a:Act) (w:World),gc A.N c=true→ib A s a w→c.wp P (Kj A Q) a w
structure mD (P:Program)(c:Code)(Q:Exit→St→Prop)(s:St):Prop where
 wp:WP P (.loop c) Q s
def K0 (k:St→Prop)(e:Exit)(s:St):Prop:=match e with| .normal=>k s|_=>False
structure sn (P:Program)(id:Nat)(ops:Array Oper)(k:St→Prop)(s:St):Prop where
 wp:WP P (.region id ops true) (K0 k) s
structure du (s s':St):Prop where
 imp:∀ (A:mA) (a:Act) (w:World),ib A s a w→ib A s' a w
def CT (k:St→Prop)(Q:Exit→St→Prop)(e:Exit)(s:St):Prop:=
 match e with
 | .normal=>k s
 |e=>Q e s
def Cm (id:Nat)(Q:Exit→St→Prop)(e:Exit)(s:St):Prop:=
 match e with
 | .exit i=>bif Nat.beq i id then Q .normal s else Q (.exit i) s
 |e=>Q e s
def Ck (P:Program)(T:ci)(C:List Nat):Code→(Exit→St→Prop)→St→Prop
 | .skip,Q,s=>Q .normal s
 | .region id ops draw,Q,s=>match draw with
   |false=>EB P T C ops.toList ops.toList (Q .normal) s
   |true=>sn P id ops (Q .normal) s
 | .seq a b,Q,s=>Ck P T C a (CT (Ck P T C b Q) Q) s
 | .cond c a b,Q,s=>match s.ev c with
   | .d (.bool t)=>br t (Ck P T C a Q s) (Ck P T C b Q s)
   |_=>False
 | .block id c,Q,s=>Ck P T C c (Cm id Q) s
 | .loop c,Q,s=>mD P c Q s
 | .exit id,Q,s=>Q (.exit id) s
 | .ret,Q,s=>Q .ret s
 |_,_,_=>False
theorem o7 {P:Program}{T:ci}(hT:aQ P T){C:List Nat}:∀ (c:Code) (Q:Exit→St→Prop) (s:St),Ck P T C c Q s→WP P c Q s:=by
 intro c
 induction c with
 |skip=>intro Q s h A a w _ hm;exact wp_skip ⟨s,h,hm⟩
 | region id ops draw=>
   intro Q s h A a w hN hm
   cases draw with
   | false=>
     refine wp_region_list (x9 hT (k:=Q .normal) (fun s a w hk hm=>⟨s,hk,hm⟩) ops.toList (List.all_eq_true.1 hN) h hm)
   | true=>
     refine wp_mono (h.wp A a w hN hm) ?_;rintro e a' w' ⟨s',hq,hm'⟩
     cases e<;>first|exact hq.elim|exact⟨s',hq,hm'⟩
 | seq x y ihx ihy=>
   intro Q s h A a w hN hm;simp only[gc,Bool.and_eq_true]at hN;refine wp_seq (wp_mono (ihx _ s h A a w hN.1 hm) ?_);rintro e a' w' ⟨s',hq,hm'⟩
   cases e with
   |normal=>exact ihy _ s' hq A a' w' hN.2 hm'
   |_=>exact⟨s',hq,hm'⟩
 | cond c x y ihx ihy=>
   intro Q s h A a w hN hm;simp only[gc,Bool.and_eq_true]at hN;unfold Ck at h;split at h
   · rename_i t ht;have hd:=hm.2;obtain⟨G,β,hg⟩:=hd;have hc:=hg.ev c;rw[ht]at hc;generalize hcv:a.eval c=cv at hc
     cases hc with|d _ _ hc=>cases hc with|bool _=>
     unfold br at h;split at h
     · exact wp_cond_true hcv (ihx _ s h A a w hN.1 hm)
     · exact wp_cond_false hcv (ihy _ s h A a w hN.2 hm)
   · exact h.elim
 | block id c ih=>
   intro Q s h A a w hN hm;refine wp_block (wp_mono (ih _ s h A a w hN hm) ?_);rintro e a' w' ⟨s',hq,hm'⟩
   cases e with
   | exit i=>
     simp only[Exit.inBlock];simp only[Cm]at hq
     by_cases hi:i=id
     · subst hi;simp only[if_true];exact⟨s',by simpa using hq,hm'⟩
     · rw[aw hi]at hq;rw[if_neg hi]
       exact⟨s',hq,hm'⟩
   |_=>exact⟨s',hq,hm'⟩
 |loop c ih=>intro Q s h A a w hN hm;exact h.wp A a w hN hm
 |exit id=>intro Q s h A a w _ hm;exact wp_exit ⟨s,h,hm⟩
 |ret=>intro Q s h A a w _ hm;exact wp_ret ⟨s,h,hm⟩
 |_=>intro Q s h;exact h.elim
theorem af {P:Program}{T:ci}(hT:aQ P T){C:List Nat}{c:Code}{Q:Exit→St→Prop}{s:St}{ι:Type}(pre:ι→Prop)(σ:ι→St)(μ:ι→Nat)(i0:ι)(h0:pre i0)(he:du s (σ i0))
 (hround:∀i,pre i→Ck P T C c (CT (fun s' =>∃j,pre j∧μ j<μ i∧du s' (σ j)) Q) (σ i)):mD P c Q s:=by
 refine⟨fun A a w hN hm=> ?_⟩;refine wp_loop_ghost (fun n a w=>∃i,pre i∧μ i=n∧ib A (σ i) a w) (μ i0) ⟨i0,h0,rfl,he.imp A a w hm⟩ ?_;rintro n a w ⟨i,hi,rfl,hmi⟩;refine wp_mono (o7 hT c _ (σ i) (hround i hi) A a w hN hmi) ?_;rintro e a' w' ⟨s',hq,hm'⟩
 cases e with
 | normal=>
   obtain⟨j,hj,hlt,hen⟩:=hq
   exact⟨μ j,hlt,j,hj,rfl,hen.imp A a' w' hm'⟩
 |_=>exact⟨s',hq,hm'⟩
theorem sC {id:Nat}:∀ {k k':List Item},exitTo id k=some k'→k'.length<k.length:=by
 intro k
 induction k with
 |nil=>intro k' h;cases h
 | cons x k ih=>
   intro k' h
   cases x<;>simp only[exitTo]at h<;>first
    |(have:=ih h;simp;omega)
    | (split at h
       · cases h;simp
       · have:=ih h;simp;omega)
theorem Steps.past {P:Program}{m m1 m':Machine}(h:Steps P m m')(hs:step P m= .next m1)(hne:m≠m'):Steps P m1 m':=by
 obtain⟨n,hn⟩:=h
 cases n with
 |zero=>simp[runN]at hn;exact absurd hn hne
 | succ n=>
   simp only[runN,hs]at hn;exact⟨n,hn⟩
theorem tA {b:Frame}{a a':Act}{k k':List Item}{cs:List Frame}{w w':World}(h:lone (b.at a k) cs w=lone (b.at a' k') cs w'):k=k':=by
 simp only[lone,Machine.mk.injEq]at h;have:=h.2.1;simp[Frame.at]at this;exact this.2.1
theorem tM {b:Frame}{a a':Act}{k k':List Item}{cs:List Frame}{w w':World}{md:FrameMode}(h:lone (b.at a k) cs w=lone {b.at a' k' with mode:=md} cs w'):md= .run:=by
 simp only[lone,Machine.mk.injEq]at h;have:=h.2.1;simp[Frame.at]at this;exact this.2.2.2.symm
theorem fX {P:Program}{T:ci}(hT:aQ P T){C:List Nat}{c:Code}{Q:Exit→St→Prop}{s:St}(hg:∀l s,¬Q (.goto l) s)(hu:∀s,¬Q .outgrown s)
 (h:Ck P T C c (CT (fun s' =>mD P c Q s') Q) s):mD P c Q s:=by
 refine⟨fun A a w hN hm b k cs=> ?_⟩;obtain⟨e,a₁,w₁,hq,harr⟩:=o7 hT c _ s h A a w hN hm b (.inLoop c::k) cs;obtain⟨s',hq,hm'⟩:=hq
 cases e with
 | normal=>
   obtain⟨e₂,a₂,w₂,hq₂,harr₂⟩:=hq.wp A a₁ w₁ hN hm' b k cs;have h1:Steps P (lone (b.at a (.code (.loop c)::k)) cs w) (lone (b.at a₁ (.code c:: .inLoop c::k)) cs w₁):=.head step_loop (Steps.trans harr (.one step_inLoop));have hst:step P (lone (b.at a₁ (.code (.loop c)::k)) cs w₁)= .next (lone (b.at a₁ (.code c:: .inLoop c::k)) cs w₁):=step_loop;refine⟨e₂,a₂,w₂,hq₂,?_⟩
   cases e₂ with
   |normal=>exact h1.trans (Steps.past harr₂ hst (fun e=>by have:=congrArg List.length (tA e);simp at this))
   | exit id=>
     intro k' hk
     exact h1.trans (Steps.past (harr₂ k' hk) hst (fun e=>by
      have h2:=congrArg List.length (tA e);have:=sC hk
      simp at h2;omega))
   |goto l=>obtain⟨s2,hq2,_⟩:=hq₂;exact absurd hq2 (hg l s2)
   | ret=>
     obtain⟨todo,hs⟩:=harr₂
     exact⟨todo,h1.trans (Steps.past hs hst (fun e=>by cases tM e))⟩
   | panic ch=>
     obtain⟨todo,hs⟩:=harr₂
     exact⟨todo,h1.trans (Steps.past hs hst (fun e=>by cases tM e))⟩
   |outgrown=>obtain⟨s2,hq2,_⟩:=hq₂;exact absurd hq2 (hu s2)
 |exit id=>exact⟨_,a₁,w₁,⟨s',hq,hm'⟩,.of_steps (.one step_loop) (.pass (x:=.inLoop c) rfl (fun _ _=>.inl (by simp)) harr)⟩
 |goto l=>exact⟨_,a₁,w₁,⟨s',hq,hm'⟩,.of_steps (.one step_loop) (.pass (x:=.inLoop c) rfl (fun _ _=>.inl (by simp)) harr)⟩
 |ret=>exact⟨_,a₁,w₁,⟨s',hq,hm'⟩,.of_steps (.one step_loop) (.pass (x:=.inLoop c) rfl (fun _ _=>.inl (by simp)) harr)⟩
 |panic ch=>exact⟨_,a₁,w₁,⟨s',hq,hm'⟩,.of_steps (.one step_loop) (.pass (x:=.inLoop c) rfl (fun _ _=>.inl (by simp)) harr)⟩
 |outgrown=>exact⟨_,a₁,w₁,⟨s',hq,hm'⟩,.of_steps (.one step_loop) (.pass (x:=.inLoop c) rfl (fun _ _=>.inl (by simp)) harr)⟩
def ER:List SV→Nat→SV
 | [],_=>.undef
 |x::_,0=>x
 |_::l,n+1=>ER l n
theorem Ce:∀ (l:List SV) (i:Nat),ER l i=(l[i]?).getD .undef:=by
 intro l
 induction l with
 |nil=>intro i;simp[ER]
 |cons x l ih=>intro i;cases i<;>simp[ER,ih]
def qS (args:List SV)(rin:List (Nat×bh)):St:=⟨ER args,aC rin,fun d=>(aC rin d).isSome⟩
def Ad (s:St):List (Nat×bh)→Prop
 | []=>True
 |(d,r)::l=>(match s.res d with|some r0=>bh.le r0 r|none=>False)∧Ad s l
theorem fM {s:St}:∀ {l:List (Nat×bh)} {d:Nat} {r:bh},Ad s l→aC l d=some r→∃r0,s.res d=some r0∧bh.le r0 r:=by
 intro l
 induction l with
 |nil=>intro d r _ h;cases h
 | cons p l ih=>
   obtain⟨e,r'⟩:=p;intro d r ho h;obtain⟨h1,h2⟩:=ho;simp only[aC]at h
   by_cases he:d=e
   · subst he;simp at h;subst h;split at h1
     · rename_i r0 hr;exact⟨r0,hr,h1⟩
     · exact h1.elim
   · rw[aw he]at h;exact ih h2 h
def Fh (T:ci)(s:St):List ResultVar→(List SV→Prop)→Prop
 | [],k=>k []
 | .tmp t::r,k=>Fh T s r fun l=>k (s.look t::l)
 | .cell a t::r,k=>om T s t (s.look a) fun x=>Fh T s r fun l=>k (x::l)
def HZ (T:ci)(rs:List ResultVar)(s:St)(k:SV→Prop):Prop:=
 Fh T s rs fun l=>match l with
  | [x]=>k x
  |l=>k (.tup l)
inductive uF (T:ci) (rs:List ResultVar) (post:SV→List (Nat×bh)→Prop):St→Prop
 |ret (s:St) (h:HZ T rs s fun x=>∃rout,post x rout∧Ad s rout):uF T rs post s
 |weak (s:St) (h:HZ T rs s fun x=>∃y rout,SV.le x y∧post y rout∧Ad s rout):uF T rs post s
 |freeze (s:St) (d e kk n:Nat) (g:Nat→List DV) (hd:s.res d=some (.buf e kk n g)) (h:uF T rs post (s.app ⟨none,.any,[(d,some (.fro kk n g))],[]⟩)):uF T rs post s
 |ent (s s':St) (he:du s s') (h:uF T rs post s'):uF T rs post s
def K5 (T:ci)(rs:List ResultVar)(post:SV→List (Nat×bh)→Prop)(e:Exit)(s:St):Prop:=
 match e with
 | .ret=>uF T rs post s
 | .normal=>uF T rs post s
 |_=>False
def G7 (tmps:Array Value):ResultVar→Sem Value
 | .tmp t=>pure (tmps.getD t Go.undef)
 | .cell b t=>do loadVar t (←asAddr (tmps.getD b Go.undef))
theorem zp (fn:Func)(tmps:Array Value):results fn tmps=(do let vs←fn.results.mapM (G7 tmps);pure (if h:vs.size=1 then vs[0]else .tuple vs)):=by
 unfold results;congr 1
theorem x7 {P:Program}{T:ci}(hT:aQ P T){A:mA}{G:Hp}{β:eP}{s:St}{a:Act}{w:World}(h:MG A G β s a.tmps w):∀ (rs:List ResultVar) (k:List SV→Prop),Fh T s rs k→
 ∃ vs l,((rs.mapM (G7 a.tmps):Sem (List Value))).run P w= .ok vs w∧vs.length=l.length∧
  (∀ (i:Nat) x v,l[i]? =some x→vs[i]? =some v→ak G β x v)∧k l:=by
 intro rs
 induction rs with
 |nil=>intro k hk;exact⟨[],[],rfl,rfl,by simp,hk⟩
 | cons r rs ih=>
   intro k hk
   cases r with
   | tmp t=>
     obtain⟨vs,l,h1,h2,h3,h4⟩:=ih _ hk;refine⟨a.tmps.getD t Go.undef::vs,s.look t::l,?_,by simp[h2],fun i x v hx hv=> ?_,h4⟩
     · rw[List.mapM_cons,Sem.run_bind];simp only[G7,Sem.run_pure,Result.andThen_ok,Sem.run_bind];rw[h1];rfl
     · cases i with
       | zero=>
         have hx:some (s.look t)=some x:=hx;have hv:some (a.tmps.getD t Go.undef)=some v:=hv
         cases hx;cases hv;exact h.ev (.tmp t)
       |succ i=>exact h3 i x v (by simpa using hx) (by simpa using hv)
   | cell b t=>
     have hb:=h.ev (.tmp b);obtain⟨v0,x0,g1,g2,g3⟩:=rX hT h hb hk;obtain⟨vs,l,h1,h2,h3,h4⟩:=ih _ g3;refine⟨v0::vs,x0::l,?_,by simp[h2],fun i x v hx hv=> ?_,h4⟩
     · rw [List.mapM_cons,Sem.run_bind]
       have e:(G7 a.tmps (.cell b t)).run P w= .ok v0 w:=by
        show(do loadVar t (←asAddr (a.tmps.getD b Go.undef)):Sem Value).run P w=_;have e1:a.eval (.tmp b)=a.tmps.getD b Go.undef:=rfl;rw[e1]at g1;generalize hq:a.tmps.getD b Go.undef=q at g1 ⊢;unfold Instr.loadAt at g1
        cases q with
        | pointer p=>cases p with
          |none=>simp[Instr.sureAddr]at g1
          |some p=>simpa [Instr.sureAddr,asAddr]using g1
        |_=>simp[Instr.sureAddr]at g1
       rw[e];simp only[Result.andThen_ok,Sem.run_bind];rw[h1];rfl
     · cases i with
       |zero=>simp at hx hv;subst hx;subst hv;exact g2
       |succ i=>exact h3 i x v (by simpa using hx) (by simpa using hv)
theorem q7 {P:Program}{T:ci}(hT:aQ P T){A:mA}{G:Hp}{β:eP}{s:St}{a:Act}{w:World}(h:MG A G β s a.tmps w){fn:Func}{k:SV→Prop}(hk:HZ T fn.results.toList s k):
 ∃v x,(results fn a.tmps).run P w= .ok v w∧ak G β x v∧k x:=by
 obtain⟨vs,l,h1,h2,h3,h4⟩:=x7 hT h _ _ hk
 have hrun:(results fn a.tmps).run P w= .ok (if h:vs.length=1 then vs[0]else .tuple vs.toArray) w:=by
  rw[zp,Array.mapM_eq_mapM_toList];simp only[Sem.run_bind,Sem.run_map];rw[h1];simp only[Result.andThen_ok,Sem.run_pure,List.size_toArray,List.getElem_toArray]
 rcases l with _|⟨x,_|⟨y,l⟩⟩
 · rcases vs with _|⟨v,vs⟩
   · exact⟨_,_,hrun,.tup [] [] rfl (by simp),h4⟩
   · simp at h2
 · rcases vs with _|⟨v,_|⟨u,vs⟩⟩
   · simp at h2
   · exact⟨_,_,hrun,h3 0 x v rfl rfl,h4⟩
   · simp at h2
 · rcases vs with _|⟨v,_|⟨u,vs⟩⟩
   · simp at h2
   · simp at h2
   · exact⟨_,_,hrun,.tup _ (v::u::vs) h2 h3,h4⟩
def xK:List (Nat×bh)→Bool
 | []=>true
 |(d,_)::l=>Nat.ble 1000000 d&&xK l
theorem AY:∀ {l:List (Nat×bh)} {d:Nat} {r:bh},xK l=true→aC l d=some r→Nat.ble 1000000 d=true:=by
 intro l
 induction l with
 |nil=>intro d r _ h;cases h
 | cons p l ih=>
   obtain⟨e,r'⟩:=p;intro d r ho h;simp only[xK,Bool.and_eq_true]at ho;simp only[aC]at h
   by_cases he:d=e
   · subst he;exact ho.1
   · rw[aw he]at h;exact ih ho.2 h
theorem g9 {P:Program}{T:ci}(hT:aQ P T){C:List Nat}{f:FuncId}{fn:Func}{body:Code}{args:List SV}{rin:List (Nat×bh)}{post:SV→List (Nat×bh)→Prop}
 (hf:P.funcs[f]? =some fn)(hb:fn.body=some body)(henter:∀args w,(callFunc f args).run P w= .ok (.enter f args) w)(hok:gc fn.ntmps body=true)(hn:Nat.ble args.length fn.ntmps=true)(hrin:xK rin=true)
 (h:Ck P T C body (K5 T fn.results.toList post) (qS args rin)):ae P f args rin post:=by
 refine⟨henter,fun G β w vs hpre hvl hvd=> ?_⟩;have hn:args.length≤fn.ntmps:=Nat.le_of_ble_eq_true hn
 let A:mA:=⟨w,B5 w β (aC rin),G,fn.ntmps,β,fun d v e=>by obtain⟨r,hr⟩:=hpre.sc d v e;exact AY hrin hr⟩
 have hm :MG A G β (qS args rin) (vs.toArray++Array.replicate (fn.ntmps - vs.toArray.size) Go.undef) w:=by
  refine⟨by simp[A];omega,Hp.le_refl G,eP.le_refl β,hpre.gw,fun b o e=>.inl e,Js.refl w _,fun i=> ?_,hpre.rs,hpre.dj,fun d r v b h1 h2 h3 h4=>⟨hpre.og d r v b h1 h2 h3 h4,.inl ⟨d,r,v,h1,h2,h3,h4⟩⟩,fun d v hv=> ?_⟩
  · simp only[qS,Ce];rcases Nat.lt_or_ge i args.length with q|q
    · have hx:args[i]? =some args[i]:=List.getElem?_eq_getElem q;have hv:vs[i]? =some (vs[i]'(by omega)):=List.getElem?_eq_getElem (by omega);rw[hx];simp only[Option.getD_some,Array.getD_eq_getD_getElem?];rw[Array.getElem?_append_left (by simp;omega)];simp only[List.getElem?_toArray,hv,Option.getD_some];exact hvd i _ _ hx hv
    · rw[List.getElem?_eq_none q];simp only[Option.getD_none,Array.getD_eq_getD_getElem?];rw[Array.getElem?_append_right (by simp;omega)]
      have:((Array.replicate (fn.ntmps - vs.toArray.size) Go.undef)[i - vs.toArray.size]?).getD Go.undef=Go.undef:=by
       rw[Array.getElem?_replicate];split<;>rfl
      rw[this];exact .undef
  · obtain⟨r,hr⟩:=hpre.sc d v hv;simp[qS,hr]
 refine calls_of_wp hf hb (wp_mono (o7 hT body _ _ h A ⟨_,[]⟩ w hok ⟨rfl,G,β,hm⟩) ?_);rintro e a' w' ⟨s',hq,h0,hmm⟩
 have key:∀s',uF T fn.results.toList post s'→(∃G β,MG A G β s' a'.tmps w')→∃v,(results fn a'.tmps).run P w' = .ok v w'∧∃v' x rout G' β',Ending.returned v= .returned v'∧post x rout∧OH G β w (aC rin) G' β' w' (aC rout)∧ak G' β' x v':=by
  intro s' hr
  induction hr with
  | ret s hres=>
    rintro⟨G',β',hg⟩;obtain⟨v,x,r1,r2,rout,r3,r4⟩:=q7 hT hg hres;refine⟨v,r1,v,x,rout,G',β',rfl,r3,⟨hg.g0,hg.e0,hg.gw,hg.gn,hg.keep,fun d r hd=> ?_,fun d d' r r' v v' b e1 e2 o1 o2 f1 f2 b1 b2=> ?_,fun d r v b e1 o1 f1 b1=> ?_⟩,r2⟩
    · obtain⟨r0,q1,q2⟩:=fM r4 hd;exact q2.2 _ _ _ _ (hg.rs d r0 q1)
    · obtain⟨r0,q1,q2⟩:=fM r4 e1;obtain⟨r0',q1',q2'⟩:=fM r4 e2;exact hg.dj d d' r0 r0' v v' b q1 q1' (q2.own'.trans o1) (q2'.own'.trans o2) f1 f2 (b1.to q2.isR'.symm) (b2.to q2'.isR'.symm)
    · obtain⟨r0,q1,q2⟩:=fM r4 e1
      exact hg.og d r0 v b q1 (q2.own'.trans o1) f1 (b1.to q2.isR'.symm)
  | weak s hres=>
    rintro⟨G',β',hg⟩;obtain⟨v,x,r1,r2,y,rout,r5,r3,r4⟩:=q7 hT hg hres;refine⟨v,r1,v,y,rout,G',β',rfl,r3,⟨hg.g0,hg.e0,hg.gw,hg.gn,hg.keep,fun d r hd=> ?_,fun d d' r r' v v' b e1 e2 o1 o2 f1 f2 b1 b2=> ?_,fun d r v b e1 o1 f1 b1=> ?_⟩,r5 _ _ _ r2⟩
    · obtain⟨r0,q1,q2⟩:=fM r4 hd;exact q2.2 _ _ _ _ (hg.rs d r0 q1)
    · obtain⟨r0,q1,q2⟩:=fM r4 e1;obtain⟨r0',q1',q2'⟩:=fM r4 e2;exact hg.dj d d' r0 r0' v v' b q1 q1' (q2.own'.trans o1) (q2'.own'.trans o2) f1 f2 (b1.to q2.isR'.symm) (b2.to q2'.isR'.symm)
    · obtain⟨r0,q1,q2⟩:=fM r4 e1
      exact hg.og d r0 v b q1 (q2.own'.trans o1) f1 (b1.to q2.isR'.symm)
  | freeze s d e kk n g hd _ ih=>
    rintro⟨G',β',hg⟩;obtain⟨G2,_,hg2⟩:=hg.freeze hd
    exact ih ⟨G2,β',hg2⟩
  | ent s s' he _ ih=>
    rintro⟨G',β',hg⟩;exact ih (he.imp _ _ _ ⟨h0,G',β',hg⟩).2
 cases e with
 |normal=>obtain⟨v,k1,k2⟩:=key _ hq hmm;exact⟨h0,v,k1,k2⟩
 |ret=>obtain⟨v,k1,k2⟩:=key _ hq hmm;exact⟨h0,v,k1,k2⟩
 |_=>exact hq.elim
end Go.Eng
namespace Go.Eng
open Go
def bx (F:(SV→Prop)→Prop):Prop:=∀k,F k→∃v,k v∧∀k',k' v→F k'
theorem dB (v:SV):bx fun k=>k v:=fun _ h=>⟨v,h,fun _ h' =>h'⟩
theorem di {b:Bool}{F G:(SV→Prop)→Prop}(hF:bx F)(hG:bx G):bx fun k=>br b (F k) (G k):=by
 intro k h;cases b
 · exact hG k h
 · exact hF k h
theorem ca:bx fun _=>False:=fun _ h=>h.elim
theorem dm {c:Prop}{F:(SV→Prop)→Prop}(hF:bx F):bx fun k=>c∧F k:=by
 rintro k ⟨h1,h2⟩;obtain⟨v,h3,h4⟩:=hF k h2;exact⟨v,h3,fun k' h' =>⟨h1,h4 k' h'⟩⟩
theorem ko (ka:IntKind)(n:Int):bx (E7 ka n):=by
 intro k h;cases ka<;>simp only[E7]at h ⊢<;>first|exact⟨_,h,fun _ h' =>h'⟩|exact⟨_,h.2,fun _ h' =>⟨h.1,h'⟩⟩
theorem wK (op:BinOp)(ka:IntKind)(a b:Int):bx (Ec op ka a b):=by
 intro k h
 cases op<;>simp only[Ec]at h ⊢<;>first
  |exact h.elim
  |exact⟨_,h,fun _ h' =>h'⟩
  |exact ko ka _ k h
  |exact⟨_,h.2,fun _ h' =>⟨h.1,h'⟩⟩
  |(obtain⟨v,h3,h4⟩:=ko ka _ k h.2;exact⟨v,h3,fun k' h' =>⟨h.1,h4 k' h'⟩⟩)
theorem xA (op:BinOp)(a b:List UInt8):bx (CH op a b):=by
 intro k h
 cases op<;>simp only[CH]at h ⊢<;>first
  |exact h.elim
  |exact⟨_,h,fun _ h' =>h'⟩
  |exact⟨_,h.2,fun _ h' =>⟨h.1,h'⟩⟩
theorem vH (T:ci)(op:BinOp)(t:TypeId)(x y:SV):bx (Et T op t x y):=by
 intro k h;unfold Et at h ⊢;split at h
 · exact di (wK _ _ _ _) ca k h
 · exact xA _ _ _ k h
 · split at h
   · exact⟨_,h,fun _ h' =>h'⟩
   · exact⟨_,h,fun _ h' =>h'⟩
   · exact h.elim
 · split at h
   · rename_i ok _
     cases ok with
     |false=>exact h.elim
     | true=>
       simp only[br]at h ⊢;split at h
       · exact⟨_,h,fun _ h' =>h'⟩
       · exact⟨_,h,fun _ h' =>h'⟩
       · exact h.elim
   · exact h.elim
 · exact h.elim
theorem ie (s:St)(agg:Bool)(size:Nat)(l:List SV):bx (kC s agg size l):=by
 intro k h;unfold kC at h ⊢;split at h
 · exact di (dB _) ca k h
 · split at h
   · exact⟨_,h,fun _ h' =>h'⟩
   · exact h.elim
theorem vn (T:ci)(s:St)(ty:TypeId)(x:SV):bx (om T s ty x):=by
 intro k h;unfold om at h ⊢;split at h
 · exact h.elim
 · split at h
   · split at h
     · exact ie _ _ _ _ k h
     · exact h.elim
   · exact ie _ _ _ _ k h
   · split at h
     · exact di (dm (ie _ _ _ _)) ca k h
     · exact h.elim
   · exact h.elim
theorem nW (T:ci)(ty:TypeId)(x:SV)(f:Nat):bx (iu T ty x f):=by
 intro k h;unfold iu at h ⊢;split at h
 · exact h.elim
 · rename_i off ti hf
   cases hz:Nat.beq ti.size 0 with
   |true=>rw[hz]at h;exact h.elim
   | false=>
     rw[hz]at h;try rw[hz]
     simp only[br]at h ⊢;cases x<;>first|exact h.elim|exact⟨_,h,fun _ h' =>h'⟩|skip
     rename_i y;cases y<;>first|exact h.elim|exact⟨_,h,fun _ h' =>h'⟩
theorem sg (T:ci)(s:St)(ty:TypeId)(x:SV)(f:Nat):bx (kW T s ty x f):=by
 intro k h;unfold kW at h ⊢;split at h
 · exact h.elim
 · split at h
   · exact ie _ _ _ _ k h
   · exact h.elim
theorem nz (T:ci)(s:St)(ty:TypeId)(x i:SV):bx (eF T s ty x i):=by
 intro k h;unfold eF at h ⊢;split at h
 · split at h
   · split at h
     · exact di (dm (dB _)) ca k h
     · split at h
       · exact di (dm (dB _)) ca k h
       · exact di (dm (dB _)) ca k h
       · exact h.elim
     · exact di (dm (dB _)) ca k h
     · exact h.elim
   · exact h.elim
 · split at h
   · split at h
     · exact dm (dB _) k h
     · exact dm (dB _) k h
     · exact h.elim
   · exact h.elim
 · exact h.elim
theorem sI (T:ci)(ty:TypeId)(x i:SV):bx (qM T ty x i):=by
 intro k h;unfold qM at h ⊢;split at h
 · split at h
   · exact dm (dB _) k h
   · exact h.elim
 · split at h
   · split at h
     · exact di (dm (dB _)) ca k h
     · exact h.elim
   · exact h.elim
 · exact h.elim
theorem fH {x:Option SV}{d:Int}{F:Int→(SV→Prop)→Prop}(hF:∀j,bx (F j)):bx fun k=>gY x d fun j=>F j k:=by
 intro k h;unfold gY at h ⊢;split at h
 · exact hF _ k h
 · exact hF _ k h
 · exact h.elim
theorem r9 (T:ci)(ty:TypeId)(x:SV)(lo hi mx:Option SV):bx (rk T ty x lo hi mx):=by
 intro k h;unfold rk at h ⊢;split at h
 · split at h
   · rename_i l;exact fH (F:=fun h k=>gY lo 0 fun j=>(0≤j∧j≤h∧h≤l.length)∧k (.d (.str ((l.drop j.toNat).take (h - j).toNat)))) (fun h=>fH (F:=fun j k=>(0≤j∧j≤h∧h≤l.length)∧k (.d (.str ((l.drop j.toNat).take (h - j).toNat)))) (fun j=>dm (dB _))) k h
   · exact h.elim
 · split at h
   · split at h
     · rename_i kk n get;exact di (fH (F:=fun h k=>gY lo 0 fun j=>(0≤j∧j≤h∧h≤n)∧k (.d (.ro kk (h - j).toNat fun i=>get (j.toNat+i)))) (fun h=>fH (F:=fun j k=>(0≤j∧j≤h∧h≤n)∧k (.d (.ro kk (h - j).toNat fun i=>get (j.toNat+i)))) (fun j=>dm (dB _)))) ca k h
     · exact fH (F:=fun h k=>gY lo 0 fun j=>(j=0∧h=0)∧k (.d .nilsl)) (fun h=>fH (F:=fun j k=>(j=0∧h=0)∧k (.d .nilsl)) (fun j=>dm (dB _))) k h
     · exact h.elim
   · exact h.elim
 · exact h.elim
theorem wE (T:ci)(s:St)(ty:TypeId)(x:SV):bx (wM T s ty x):=by
 intro k h;unfold wM at h ⊢;split at h
 · split at h
   · exact⟨_,h,fun _ h' =>h'⟩
   · exact h.elim
 · split at h
   · exact⟨_,h,fun _ h' =>h'⟩
   · exact⟨_,h,fun _ h' =>h'⟩
   · split at h
     · exact⟨_,h,fun _ h' =>h'⟩
     · exact h.elim
   · exact⟨_,h,fun _ h' =>h'⟩
   · exact h.elim
 · split at h
   · split at h
     · exact⟨_,h,fun _ h' =>h'⟩
     · exact h.elim
   · exact h.elim
 · exact h.elim
theorem yN (op:UnOp)(x:SV):bx (J4 op x):=by
 intro k h;unfold J4 at h ⊢;split at h
 · exact⟨_,h,fun _ h' =>h'⟩
 · exact ko _ _ k h
 · exact h.elim
theorem tW (T:ci)(a b:TypeId)(x:SV):bx (w8 T a b x):=by
 intro k h;unfold w8 at h ⊢;split at h
 · split at h
   · exact ko _ _ k h
   · exact h.elim
 · split at h
   · exact⟨_,h,fun _ h' =>h'⟩
   · exact h.elim
 · split at h
   · exact⟨_,h,fun _ h' =>h'⟩
   · exact h.elim
 · exact h.elim
theorem pM (s:St)(x:SV)(i:Nat):bx (gG s x i):=by
 intro k h;unfold gG at h ⊢;split at h
 · split at h
   · exact⟨_,h,fun _ h' =>h'⟩
   · exact h.elim
 · exact h.elim
theorem q9 (mx:Bool)(x y:SV):bx (JG mx x y):=by
 intro k h;unfold JG at h ⊢;split at h
 · exact di (dB _) ca k h
 · exact h.elim
theorem pA (mx:Bool)(x y z u:SV):bx (BU mx x y z u):=by
 intro k h;unfold BU at h ⊢;split at h
 · exact⟨_,h,fun _ h' =>h'⟩
 · exact h.elim
theorem sE (T:ci)(ty:TypeId)(ps:List (Nat×SV)):bx (qV T ty ps):=by
 intro k h;unfold qV at h ⊢;split at h
 · rename_i fs _ _ z _ _
   cases ht:je T fs.toList with
   |false=>rw[ht]at h;exact h.elim
   | true=>
     rw[ht]at h;try rw[ht]
     simp only[br]at h ⊢;split at h
     · split at h
       · exact⟨_,h,fun _ h' =>h'⟩
       · exact h.elim
     · exact h.elim
 · split at h
   · split at h
     · exact⟨_,h,fun _ h' =>h'⟩
     · exact h.elim
   · exact h.elim
 · exact h.elim
theorem w7 (x:SV):bx (F6 x):=by
 intro k h;unfold F6 at h ⊢;split at h
 · exact⟨_,h,fun _ h' =>h'⟩
 · exact⟨_,h,fun _ h' =>h'⟩
 · exact⟨_,h,fun _ h' =>h'⟩
 · exact⟨_,h,fun _ h' =>h'⟩
 · exact h.elim
theorem xx (T:ci)(ty:TypeId)(x:SV):bx (CA T ty x):=by
 have hX:bx (F9 ty x):=by
  intro k h;unfold F9 at h ⊢;split at h
  · exact⟨_,h,fun _ h' =>h'⟩
  · exact h.elim
 intro k h;unfold CA at h ⊢;split at h
 · exact di ca hX k h
 · exact h.elim
theorem rh (T:ci)(x:SV)(ty:TypeId)(ok:Bool):bx (nj T x ty ok):=by
 have hY:∀y,bx (FT y ok):=by
  intro y k h;unfold FT at h ⊢;split at h
  · exact⟨_,h,fun _ h' =>h'⟩
  · exact⟨_,h,fun _ h' =>h'⟩
 have hZ:∀z,bx (Fa z ok):=by
  intro z k h;unfold Fa at h ⊢;split at h
  · exact⟨_,h,fun _ h' =>h'⟩
  · exact h.elim
 have hX:∀z,bx (GP z ty ok x):=by
  intro z k h;unfold GP at h ⊢;split at h
  · exact di (hY _) (hZ _) k h
  · exact h.elim
 intro k h;unfold nj at h ⊢;split at h
 · exact di ca (hX _) k h
 · exact h.elim
theorem uy (T:ci)(op:BinOp)(t:TypeId)(x:SV):bx (wX T op t x):=by
 intro k h;unfold wX at h ⊢;split at h
 · split at h
   · split at h<;>first|exact⟨_,h,fun _ h' =>h'⟩|exact h.elim
   · split at h<;>first|exact⟨_,h,fun _ h' =>h'⟩|exact h.elim
   · exact h.elim
 · exact h.elim
theorem qR (T:ci)(o:Oper)(s:St):bx (xT T o s):=by
 intro k h;unfold xT at h ⊢;split at h
 · exact⟨_,h,fun _ h' =>h'⟩
 · exact⟨_,h,fun _ h' =>h'⟩
 · split at h
   · exact di (dB _) (dB _) k h
   · exact h.elim
 · exact sE _ _ _ k h
 · exact vn _ _ _ _ k h
 · exact w7 _ k h
 · split at h
   · exact uy _ _ _ _ k h
   · exact vH _ _ _ _ _ k h
 · exact xx _ _ _ k h
 · exact rh _ _ _ _ k h
 · exact yN _ _ k h
 · exact tW _ _ _ _ k h
 · split at h
   · exact⟨_,h,fun _ h' =>h'⟩
   · exact h.elim
 · exact r9 _ _ _ _ _ _ k h
 · exact nW _ _ _ _ k h
 · exact sg _ _ _ _ _ k h
 · exact nz _ _ _ _ _ k h
 · exact sI _ _ _ _ k h
 · exact pM _ _ _ k h
 · split at h
   · exact wE _ _ _ _ k h
   · exact q9 _ _ _ k h
   · exact q9 _ _ _ k h
   · exact pA _ _ _ _ _ k h
   · exact pA _ _ _ _ _ k h
   · exact h.elim
 · exact h.elim
end Go.Eng
namespace Go.Eng
open Go
def bi (C:List Nat)(o:Oper):Bool:=
 match o.op with
 | .store .. =>false
 | .slice .. => !gS C o.dst
 | .call c=>match c.callee with
   | .builtin .len=>true
   | .builtin .max=>true
   | .builtin .min=>true
   |_=>false
 | .lookup .. => !gS C o.dst
 | .mapUpdate .. =>false
 | .mapEntry .. =>false
 | .entryStore .. =>false
 |_=>true
def p9 (o:Oper):Bool:=
 match o.op with
 | .call c=>match c.callee with
   | .value _=>true
   |_=>false
 |_=>false
def OC (o:Oper)(s:St)(u:cM):Prop:=
 u.dst=o.dst∧((u.rs= []∧u.us= [])∨∃d r,o.dst=some d∧u.rs= [(d,some r)]∧u.us= [d])
theorem jD {dst:Option Nat}{s:St}{ty:TypeId}{l:Option (List SV)}{k:cM→Prop}(h:dN dst s ty l k):
 ∃u,k u∧(u.dst=dst∧∃d r,dst=some d∧u.rs= [(d,some r)]∧u.us= [d])∧∀k',k' u→dN dst s ty l k':=by
 unfold dN at h ⊢;split at h
 · rename_i d l
   cases hu:s.used d with
   |true=>rw[hu]at h;exact h.elim
   |false=>rw[hu]at h;exact⟨_,h,⟨rfl,d,_,rfl,rfl,rfl⟩,fun k' h' =>h'⟩
 · exact h.elim
theorem wo {x:Option SV}{d:Int}{F:Int→Prop}(h:gY x d F):∃i,F i∧∀F':Int→Prop,F' i→gY x d F':=by
 unfold gY at h ⊢;split at h
 · exact⟨_,h,fun F' h' =>h'⟩
 · exact⟨_,h,fun F' h' =>h'⟩
 · exact h.elim
theorem v6 {lo hi:Option SV}{n:Nat}{F:Int→Int→Prop}(h:sj lo hi n F):∃j k,F j k∧∀F':Int→Int→Prop,F' j k→sj lo hi n F':=by
 unfold sj at h ⊢;obtain⟨k,h,h1⟩:=wo h;obtain⟨j,h,h2⟩:=wo h;exact⟨j,k,h,fun F' h' =>h1 _ (h2 _ h')⟩
theorem xI {T:ci}{dst:Option Nat}{s:St}{ty:TypeId}{x:SV}{lo hi:Option SV}{k:cM→Prop}(h:vx T dst s ty x lo hi k):
 ∃u,k u∧(u.dst=dst∧u.rs= []∧u.us= [])∧∀k':cM→Prop,k' u→vx T dst s ty x lo hi k':=by
 unfold vx at h ⊢;split at h
 · split at h
   · obtain⟨h0,h⟩:=ax h;obtain⟨j,m,h,h1⟩:=v6 h;exact⟨_,h.2,⟨rfl,rfl,rfl⟩,fun k' h' =>bz h0 (h1 _ ⟨h.1,h'⟩)⟩
   · exact h.elim
 · obtain⟨h0,h⟩:=ax h;obtain⟨j,m,h,h1⟩:=v6 h;exact⟨_,h.2,⟨rfl,rfl,rfl⟩,fun k' h' =>bz h0 (h1 _ ⟨h.1,h'⟩)⟩
 · exact h.elim
theorem jR (va:Bool)(row:List DV):bx (lq va row):=by
 intro k h;unfold lq at h ⊢;split at h<;>first|exact⟨_,h,fun _ h' =>h'⟩|exact h.elim
theorem rC (T:ci)(s:St)(ty:TypeId)(m x:SV)(ok:Bool):bx (fR T s ty m x ok):=by
 intro k h;unfold fR qD at h ⊢;split at h
 · split at h
   · split at h
     · obtain⟨q1,h⟩:=ax h;split at h
       · obtain⟨q2,h3,h⟩:=ax h;obtain⟨v,h4,h5⟩:=jR _ _ _ h
         cases ok with
         |true=>exact⟨_,h4,fun k' h' =>bz q1 (bz q2 ⟨h3,h5 _ h'⟩)⟩
         |false=>exact⟨_,h4,fun k' h' =>bz q1 (bz q2 ⟨h3,h5 _ h'⟩)⟩
       · exact h.elim
     · obtain⟨q1,h⟩:=ax h;split at h
       · obtain⟨q2,h3,h⟩:=ax h;obtain⟨v,h4,h5⟩:=jR _ _ _ h
         cases ok with
         |true=>exact⟨_,h4,fun k' h' =>bz q1 (bz q2 ⟨h3,h5 _ h'⟩)⟩
         |false=>exact⟨_,h4,fun k' h' =>bz q1 (bz q2 ⟨h3,h5 _ h'⟩)⟩
       · exact h.elim
     · exact h.elim
   · exact h.elim
 · exact h.elim
theorem gZ {P : Program}{T:ci}{C:List Nat}{o:Oper}{s:St}{av:List Nat}{k:cM→Prop}(hq:bi C o=true)(h:dc P T C o s av k):
 ∃u,k u∧OC o s u∧∀av' k',k' u→dc P T C o s av' k':=by
 have pure:xT T o s (fun v=>k ⟨o.dst,v,[],[]⟩)→∃u,k u∧OC o s u∧∀ (k':cM→Prop),k' u→xT T o s (fun v=>k' ⟨o.dst,v,[],[]⟩):=by
  intro h;obtain⟨v,h1,h2⟩:=qR T o s _ h;exact⟨_,h1,⟨rfl,.inl ⟨rfl,rfl⟩⟩,fun k' h' =>h2 _ h'⟩
 unfold dc at h ⊢;split at h
 · unfold ry at h ⊢;split at h
   · obtain⟨u,h1,⟨h2,h3⟩,h4⟩:=jD h;exact⟨u,h1,⟨h2,.inr h3⟩,fun _ k' h' =>h4 k' h'⟩
   · exact h.elim
 · obtain⟨u,h1,⟨h2,h3⟩,h4⟩:=jD h;exact⟨u,h1,⟨h2,.inr h3⟩,fun _ k' h' =>h4 k' h'⟩
 · rename_i ty n ps ho;unfold dX at h ⊢;simp only[gX]at h ⊢;split at h
   · split at h
     · rename_i sz by' z zq hte;generalize hbb:(Nat.beq z.cells.size sz&&Nat.ble 1 sz&&Nat.beq (ps.toList.map fun p=>(p.1,s.ev p.2)).length n&&Nat.ble (n*sz) 16777216)=bb at h ⊢
       cases bb with
       |false=>exact h.elim
       | true=>
         simp only[br]at h ⊢;split at h
         · rename_i rows hrows
           cases hm:gS C o.dst with
           | false=>
             rw[hm]at h
             exact⟨_,h,⟨rfl,.inl ⟨rfl,rfl⟩⟩,fun _ k' h' =>h'⟩
           | true=>
             rw[hm]at h
             cases hd:o.dst with
             |none=>rw[hd]at h;exact h.elim
             | some d=>
               rw[hd]at h;simp only at h ⊢
               cases hu:s.used d with
               |true=>rw[hu]at h;exact h.elim
               | false=>
                 rw[hu]at h;exact⟨_,h,⟨hd.symm,.inr ⟨d,_,hd,rfl,rfl⟩⟩,fun _ k' h' =>h'⟩
         · exact h.elim
     · exact h.elim
   · exact h.elim
 · unfold ix at h ⊢;split at h
   · rename_i d ht hd;split at h
     · rename_i te hte;split at h
       · rename_i zr kl n kc m hzr hl hc;generalize hbb:(Nat.beq zr.length te.size&&Nat.ble 1 te.size&& !s.used d)=bb at h ⊢
         cases bb with
         |false=>exact h.elim
         | true=>
           simp only[br]at h ⊢;exact⟨_,h.2,⟨hd.symm,.inr ⟨d,_,hd,rfl,rfl⟩⟩,fun _ k' h' =>⟨h.1,h'⟩⟩
       · exact h.elim
     · exact h.elim
   · exact h.elim
 · rename_i ho;simp[bi,ho]at hq
 · rename_i c ho;split at h
   · rename_i hc;simp[bi,ho,hc]at hq
   · rename_i hc;simp[bi,ho,hc]at hq
   · rename_i hc;simp[bi,ho,hc]at hq
   · obtain⟨u,h1,h2,h3⟩:=pure h;exact⟨u,h1,h2,fun _ k' h' =>h3 k' h'⟩
 · rename_i ho;simp only[bi,ho,Bool.not_eq_true']at hq;split at h
   · split at h
     · rw[hq]at h;simp only[br]at h;obtain⟨u,h1,h2,h3⟩:=xI h;refine⟨u,h1,⟨h2.1,.inl h2.2⟩,fun _ k' h' => ?_⟩;rw[hq];simp only[br];exact h3 k' h'
     · exact h.elim
   · obtain⟨u,h1,h2,h3⟩:=pure h;exact⟨u,h1,h2,fun _ k' h' =>h3 k' h'⟩
 · rename_i ho;simp only[bi,ho,Bool.not_eq_true']at hq;rw[hq]at h;simp only[br]at h;obtain⟨v,h1,h2⟩:=rC _ _ _ _ _ _ _ h;refine⟨_,h1,⟨rfl,.inl ⟨rfl,rfl⟩⟩,fun _ k' h' => ?_⟩;rw[hq];simp only[br];exact h2 _ h'
 · rename_i ho;simp[bi,ho]at hq
 · rename_i ho;simp[bi,ho]at hq
 · rename_i ho;simp[bi,ho]at hq
 · obtain⟨u,h1,h2,h3⟩:=pure h;exact⟨u,h1,h2,fun _ k' h' =>h3 k' h'⟩
end Go.Eng
namespace Go.Eng
open Go
def pO:List SV→List Nat
 | []=> []
 | .buf d::l=>d::pO l
 |_::l=>pO l
theorem nK:∀ {l:List SV} {d:Nat},SV.buf d ∈ l→d ∈ pO l:=by
 intro l
 induction l with
 |nil=>intro d h;cases h
 | cons x l ih=>
   intro d h;rcases List.mem_cons.1 h with q|q
   · subst q;simp[pO]
   · cases x<;>simp[pO,ih q]
def ii (s:St)(x:SV):List Nat:=
 match x with
 | .ptr d off=>d::(match s.res d with|some (.cells _ l)=>pO ((l.drop off).take 1)|_=> [])
 | .buf d=> [d]
 | .bel d _ _ _=> [d]
 | .mp d=> [d]
 | .sub d _ _ _=> [d]
 | .agg l=>pO l
 | .tup l=>pO l
 | .fn _ caps=>pO caps
 |_=> []
def ma:List Operand→List Nat
 | []=> []
 | .tmp t::l=>t::ma l
 |_::l=>ma l
theorem gC:∀ {l:List Operand} {t:Nat},Operand.tmp t ∈ l→t ∈ ma l:=by
 intro l
 induction l with
 |nil=>intro t h;cases h
 | cons x l ih=>
   intro t h;rcases List.mem_cons.1 h with q|q
   · subst q;simp[ma]
   · cases x<;>simp[ma,ih q]
def ed (o:Oper):List Nat:=ma o.op.operands.toList
def fk (s:St):List Nat→List Nat
 | []=> []
 |t::l=>ii s (s.tmps t)++fk s l
theorem lN {s:St}:∀ {l:List Nat} {t n:Nat},t ∈ l→n ∈ ii s (s.tmps t)→n ∈ fk s l:=by
 intro l
 induction l with
 |nil=>intro t n h;cases h
 | cons x l ih=>
   intro t n h hn;simp only[fk,List.mem_append];rcases List.mem_cons.1 h with q|q
   · subst q;exact .inl hn
   · exact .inr (ih q hn)
def iG (o:Oper):Bool:=match o.op with| .move _=>true| .assign _=>true|_=>false
def xk (o:Oper):Bool:=
 match o.op with
 | .call c=>match c.callee with
   | .builtin .append=>true
   |_=>false
 |_=>false
def reads (o:Oper)(s:St):List Nat:=bif iG o then []else bif xk o then 999999::fk s (ed o)else fk s (ed o)
theorem CG {o:Oper}{s:St}(hm:iG o=false){n:Nat}(h:n ∈ fk s (ed o)):n ∈ reads o s:=by
 unfold reads;rw[hm]
 cases xk o with
 |false=>exact h
 |true=>exact List.mem_cons_of_mem _ h
structure pD (o:Oper)(s s':St):Prop where
 tm:∀t ∈ ed o,s'.tmps t=s.tmps t
 rs:∀n ∈ reads o s,s'.res n=s.res n
structure oF (o:Oper)(s s':St):Prop where
 tm:∀t ∈ ed o,s'.tmps t=s.tmps t
 rs:∀n ∈ fk s (ed o),s'.res n=s.res n
section
variable {P:Program} {T:ci} {C:List Nat} {o:Oper} {s s':St}
theorem pD.full (h:pD o s s')(hm:iG o=false):oF o s s':=⟨h.tm,fun n hn=>h.rs n (CG hm hn)⟩
theorem lR (h:∀t ∈ ed o,s'.tmps t=s.tmps t){x:Operand}(hx:x ∈ o.op.operands.toList):s'.raw x=s.raw x:=by
 cases x<;>try rfl
 exact h _ (gC hx)
theorem mS {y:SV}(h:∀d,y= .buf d→s'.res d=s.res d):s'.norm y=s.norm y:=by
 unfold St.norm;cases y<;>try rfl
 dsimp only
 rw[h _ rfl]
theorem bp (h:oF o s s'){x:Operand}(hx:x ∈ o.op.operands.toList):s'.ev x=s.ev x:=by
 cases x<;>try rfl
 rename_i t;have ht:=gC hx;simp only[St.ev,St.look];rw[h.tm t ht];refine mS (fun d hd=>h.rs d (lN ht ?_));rw[hd];simp[ii]
theorem jf (h:oF o s s'){x:Operand}(hx:x ∈ o.op.operands.toList):∀n ∈ ii s (s.ev x),s'.res n=s.res n:=by
 intro n hn
 cases x with
 | tmp t=>
   have ht:=gC hx;simp only[St.ev,St.look]at hn;refine h.rs n (lN ht ?_);generalize s.tmps t=y at hn;unfold St.norm at hn;cases y<;>try exact hn
   rename_i d;simp only at hn;split at hn
   · simp[ii]at hn
   · exact hn
 | const v=>
   simp only[St.ev]at hn;unfold HJ at hn;split at hn
   · rename_i cs
     cases hc:cs.toList.all (·.oneCell')with
     |false=>rw[hc]at hn;simp[ii]at hn
     | true=>
       rw[hc]at hn;simp only[cond_true,ii]at hn;exfalso
       have:∀l:List Value,pO (l.map fun c=>SV.d (vf c))= []:=by
        intro l;induction l with
        |nil=>rfl
        |cons c l ih=>simpa [pO]using ih
       rw[this]at hn;cases hn
   · simp[ii]at hn
   · simp[ii]at hn
 |func f=>simp[St.ev,ii,pO]at hn
 |global g=>simp[St.ev,ii]at hn
theorem jj {agg:Bool}{size:Nat}{l:List SV}{k:SV→Prop}(h:∀d,SV.buf d ∈ l.take 1→s'.res d=s.res d)(hk:kC s agg size l k):kC s' agg size l k:=by
 unfold kC at hk ⊢;split at hk
 · exact hk
 · split at hk
   · rename_i y r;rw[mS (s:=s) (s':=s') (fun d hd=>h d (by rw[hd];simp))];exact hk
   · exact hk.elim
theorem wV {ty:TypeId}{x:SV}{k:SV→Prop}(h:∀n ∈ ii s x,s'.res n=s.res n)(hk:om T s ty x k):om T s' ty x k:=by
 unfold om at hk ⊢;split at hk
 · exact hk.elim
 · split at hk
   · rename_i d off;have hd:=h d (by simp[ii]);simp only[hd];split at hk
     · rename_i e l hr;refine jj (s:=s) (fun n hn=>h n ?_) hk;simp only[ii,hr,List.mem_cons];exact .inr (nK hn)
     · exact hk.elim
   · refine jj (s:=s) (fun n hn=> ?_) hk;have hn:=List.mem_of_mem_take hn;rw[List.mem_map]at hn;obtain⟨q,_,hq⟩:=hn;cases hq
   · rename_i d kk i off;have hd:=h d (by simp[ii]);simp only[hd];split at hk
     · obtain⟨h1,h2,h3⟩:=ax hk;refine bz h1 ⟨h2,jj (s:=s) (fun n hn=> ?_) h3⟩;have hn:=List.mem_of_mem_take hn;rw[List.mem_map]at hn;obtain⟨q,_,hq⟩:=hn;cases hq
     · exact hk.elim
   · exact hk.elim
theorem uJ {ty:TypeId}{x:SV}{f:Nat}{k:SV→Prop}(h:∀n ∈ ii s x,s'.res n=s.res n)(hk:kW T s ty x f k):kW T s' ty x f k:=by
 unfold kW at hk ⊢;split at hk
 · exact hk.elim
 · split at hk
   · rename_i l;exact jj (s:=s) (fun n hn=>h n (by simp only[ii];exact nK (List.mem_of_mem_drop (List.mem_of_mem_take hn)))) hk
   · exact hk.elim
theorem rj {x:SV}{i:Nat}{k:SV→Prop}(h:∀n ∈ ii s x,s'.res n=s.res n)(hk:gG s x i k):gG s' x i k:=by
 unfold gG at hk ⊢;split at hk
 · rename_i l;split at hk
   · rename_i y r hr;rw[mS (s:=s) (s':=s') (fun d hd=>h d ?_)]
     · exact hk
     · simp only[ii];refine nK (List.mem_of_mem_drop (i:=i) ?_);rw[hr,hd];exact List.mem_cons_self
   · exact hk.elim
 · exact hk.elim
theorem oY {ty:TypeId}{x i:SV}{k:SV→Prop}(h:∀n ∈ ii s x,s'.res n=s.res n)(hk:eF T s ty x i k):eF T s' ty x i k:=by
 unfold eF at hk ⊢;split at hk
 · split at hk
   · split at hk
     · exact hk
     · rename_i d _ j;simp only[h d (by simp[ii])];exact hk
     · exact hk
     · exact hk.elim
   · exact hk.elim
 · exact hk
 · exact hk.elim
theorem y0 {ty:TypeId}{x:SV}{k:SV→Prop}(h:∀n ∈ ii s x,s'.res n=s.res n)(hk:wM T s ty x k):wM T s' ty x k:=by
 unfold wM at hk ⊢;split at hk
 · exact hk
 · split at hk
   · exact hk
   · exact hk
   · rename_i d;simp only[h d (by simp[ii])];exact hk
   · exact hk
   · exact hk.elim
 · split at hk
   · rename_i d;simp only[h d (by simp[ii])];exact hk
   · exact hk.elim
 · exact hk.elim
theorem sA {ty:TypeId}{m x:SV}{ok:Bool}{k:SV→Prop}(h:∀n ∈ ii s m,s'.res n=s.res n)(hk:fR T s ty m x ok k):fR T s' ty m x ok k:=by
 unfold fR qD at hk ⊢;split at hk
 · split at hk
   · rename_i te d hte;rw[h d (by simp[ii])];exact hk
   · exact hk.elim
 · exact hk.elim
theorem od (h:oF o s s'){l:List Operand}(hl:∀x ∈ l,x ∈ o.op.operands.toList):l.map s'.ev=l.map s.ev:=
 List.map_congr_left fun x hx=>bp h (hl x hx)
theorem mn (h:oF o s s'){l:List (Nat×Operand)}(hl:∀p ∈ l,p.2 ∈ o.op.operands.toList):(l.map fun p=>(p.1,s'.ev p.2))=l.map fun p=>(p.1,s.ev p.2):=
 List.map_congr_left fun p hp=>by rw[bp h (hl p hp)]
theorem ee (h:oF o s s'){x:Option Operand}(hx:∀y,x=some y→y ∈ o.op.operands.toList):x.map s'.ev=x.map s.ev:=by
 cases x with
 |none=>rfl
 |some y=>simp[bp h (hx y rfl)]
theorem lJ (h:pD o s s'){k:SV→Prop}(hk:xT T o s k):xT T o s' k:=by
 have htm:=h.tm
 cases hm:iG o with
 | true=>
   unfold iG at hm;unfold xT at hk ⊢;split at hm
   · rename_i x ho;rw[ho]at hk ⊢
     dsimp only at hk ⊢
     rw[lR htm (by simp[ho,Op.operands])];exact hk
   · rename_i x ho;rw[ho]at hk ⊢
     dsimp only at hk ⊢
     rw[lR htm (by simp[ho,Op.operands])];exact hk
   · cases hm
 |false=>
 have h:=h.full hm;have ev:=@bp o s s' h;have nm:=@jf o s s' h;unfold xT at hk ⊢;split at hk
 · rename_i x ho;rw[lR htm (by simp[ho,Op.operands])];exact hk
 · rename_i x ho;rw[lR htm (by simp[ho,Op.operands])];exact hk
 · rename_i c x y ho;rw[ev (x:=c) (by simp[ho,Op.operands]),ev (x:=x) (by simp[ho,Op.operands]),ev (x:=y) (by simp[ho,Op.operands])];exact hk
 · rename_i ty ps ho;rw[mn h (fun p hp=>by rw[ho];simp only[Op.operands];simpa using⟨p.1,by simpa using hp⟩)];exact hk
 · rename_i ty x ho;rw[ev (by simp[ho,Op.operands])];exact wV (nm (by simp[ho,Op.operands])) hk
 · rename_i x ho;rw[ev (by simp[ho,Op.operands])];exact hk
 · rename_i op ty x y yt ho;split at hk
   · rw[ev (x:=x) (by simp[ho,Op.operands])];exact hk
   · rename_i hny;rw[ev (x:=x) (by simp[ho,Op.operands]),ev (x:=y) (by simp[ho,Op.operands])];exact hk
 · rename_i ty x ho;rw[ev (by simp[ho,Op.operands])];exact hk
 · rename_i x xt ty ok ho;rw[ev (by simp[ho,Op.operands])];exact hk
 · rename_i op ty x ho;rw[ev (by simp[ho,Op.operands])];exact hk
 · rename_i src dst x ho;rw[ev (by simp[ho,Op.operands])];exact hk
 · rename_i fn first caps ho;rw[od h (fun x hx=>by rw[ho];simp only[Op.operands,Array.toList_append,List.mem_append];exact .inr hx)];exact hk
 · rename_i ty x lo hi mx ho;rw[ev (by simp[ho,Op.operands]),ee h (x:=lo) (fun y hy=>by simp[ho,Op.operands,hy]),ee h (x:=hi) (fun y hy=>by simp[ho,Op.operands,hy]),ee h (x:=mx) (fun y hy=>by simp[ho,Op.operands,hy])];exact hk
 · rename_i ty x f ho;rw[ev (by simp[ho,Op.operands])];exact hk
 · rename_i ty x f ho;rw[ev (by simp[ho,Op.operands])];exact uJ (nm (by simp[ho,Op.operands])) hk
 · rename_i ty x i ho;rw[ev (x:=x) (by simp[ho,Op.operands]),ev (x:=i) (by simp[ho,Op.operands])];exact oY (nm (by simp[ho,Op.operands])) hk
 · rename_i ty x i ho;rw[ev (x:=x) (by simp[ho,Op.operands]),ev (x:=i) (by simp[ho,Op.operands])];exact hk
 · rename_i x i ho;rw[ev (by simp[ho,Op.operands])];exact rj (nm (by simp[ho,Op.operands])) hk
 · rename_i c ho;split at hk
   · rename_i x ty hc ha hty;have hx:x ∈ o.op.operands.toList:=by simp[ho,Op.operands,Call.operands,hc,ha]
     rw[ev hx];exact y0 (nm hx) hk
   · rename_i x y hc ha;have hx:x ∈ o.op.operands.toList:=by simp[ho,Op.operands,Call.operands,hc,ha]
     have hy:y ∈ o.op.operands.toList:=by simp[ho,Op.operands,Call.operands,hc,ha]
     rw[ev hx,ev hy];exact hk
   · rename_i x y hc ha;have hx:x ∈ o.op.operands.toList:=by simp[ho,Op.operands,Call.operands,hc,ha]
     have hy:y ∈ o.op.operands.toList:=by simp[ho,Op.operands,Call.operands,hc,ha]
     rw[ev hx,ev hy];exact hk
   · rename_i x y z u hc ha;have hx:x ∈ o.op.operands.toList:=by simp[ho,Op.operands,Call.operands,hc,ha]
     have hy:y ∈ o.op.operands.toList:=by simp[ho,Op.operands,Call.operands,hc,ha]
     have hz:z ∈ o.op.operands.toList:=by simp[ho,Op.operands,Call.operands,hc,ha]
     have hu:u ∈ o.op.operands.toList:=by simp[ho,Op.operands,Call.operands,hc,ha]
     rw[ev hx,ev hy,ev hz,ev hu];exact hk
   · rename_i x y z u hc ha;have hx:x ∈ o.op.operands.toList:=by simp[ho,Op.operands,Call.operands,hc,ha]
     have hy:y ∈ o.op.operands.toList:=by simp[ho,Op.operands,Call.operands,hc,ha]
     have hz:z ∈ o.op.operands.toList:=by simp[ho,Op.operands,Call.operands,hc,ha]
     have hu:u ∈ o.op.operands.toList:=by simp[ho,Op.operands,Call.operands,hc,ha]
     rw[ev hx,ev hy,ev hz,ev hu];exact hk
   · exact hk.elim
 · exact hk.elim
theorem vG {f:FuncId}{dst:Option Nat}{args:List SV}{av:List Nat}{k:cM→Prop}(h:dP P f dst args s av k):∀ {s':St} {av':List Nat} {k':cM→Prop},
 (∀c,mem av c=false→s'.res c=s.res c∧s'.used c=s.used c)→(∀c,mem av (c+1099511627776)=false→s'.res c=s.res c)→(∀d,SV.buf d ∈ args→s'.res d=s.res d)→(∀n,mem av' n=true→mem av n=true)→
 (∀u,k u→u.dst=dst→(∀n,mem av n=true→(∀x,aW u.rs n x=x)∧mem u.us n=false)→k' u)→dP P f dst args s' av' k':=by
 have hf:∀ {av av':List Nat} {c:Nat},(∀n,mem av' n=true→mem av n=true)→mem av c=false→mem av' c=false:=by
  intro av av' c h hc
  cases hq:mem av' c with
  |false=>rfl
  |true=>rw[h c hq]at hc;cases hc
 induction h with
 | call args s av k ρ sargs rin post hs hok hlen ha hr hro hav hk=>
   intro s' av' k' h1 hb1 h2 h3 h4;refine .call args s' av' k' ρ sargs rin post hs hok hlen ha (fun d r hd=> ?_) (fun d c hc hl=> ?_) (fun d c hc=>hf h3 (hav d c hc)) (fun x rout hp=> ?_)
   · obtain⟨c,r0,q1,q2,q3⟩:=hr d r hd;exact⟨c,r0,q1,by rw[(h1 c (hav d c q1)).1];exact q2,q3⟩
   · rw[(h1 c (hav d c hc)).2];exact hro d c hc hl
   · obtain⟨q1,q2,q3⟩:=hk x rout hp;refine⟨q1,q2,h4 _ q3 rfl (fun n hn=> ?_)⟩;have hno:∀d,(d,n) ∉ ρ:=fun d hd=>by rw[hav d n (qo hok hd)]at hn;cases hn
     refine⟨fun x=>iI hno,?_⟩
     cases hq:mem (ρ.map (·.2)) n with
     |false=>rfl
     | true=>
       rw[mem_iff,List.mem_map]at hq;obtain⟨p,hp,rfl⟩:=hq
       exact absurd hp (hno p.1)
 | peek args s av k ρ sargs rin y hs hok hlen ha hr hra hav hy hrk hk=>
   intro s' av' k' h1 hb1 h2 h3 h4
   exact .peek args s' av' k' ρ sargs rin y hs hok hlen ha (fun d r hd=>by
    obtain⟨c,q1,q2⟩:=hr d r hd
    exact⟨c,q1,by rw[hb1 c (hav d c q1)];exact q2⟩) hra (fun d c hc=>hf h3 (hav d c hc)) hy hrk (h4 _ hk rfl (fun n hn=>⟨fun x=>rfl,rfl⟩))
 | freeze args s av k d e kk n g hd hav h0 ih=>
   intro s' av' k' h1 hb1 h2 h3 h4;have hd':s'.res d=some (.buf e kk n g):=by rw[(h1 d hav).1];exact hd
   have hsame:∀c,s'.res c=s.res c→(s'.app ⟨none,.any,[(d,some (.fro kk n g))],[]⟩).res c=(s.app ⟨none,.any,[(d,some (.fro kk n g))],[]⟩).res c:=by
    intro c hc;simp only[St.app,aA,aW,hc]
   refine .freeze args s' av' k' d e kk n g hd' (hf h3 hav) ?_;refine ih (fun c hc=>⟨hsame c (h1 c hc).1,(h1 c hc).2⟩) (fun c hc=>hsame c (hb1 c hc)) (fun c hc=> ?_) h3 (fun u hu hud hun=> ?_)
   · rw[List.mem_map]at hc;obtain⟨x,hx,hxe⟩:=hc;exact hsame c (h2 c (FU hxe ▸ hx))
   · refine h4 _ hu hud (fun m hm=>⟨fun x=> ?_,(hun m hm).2⟩);have hmd:m≠d:=fun q=>by subst q;rw[hav]at hm;cases hm
     rw[eW,(hun m hm).1];simp only[aW]
     rw[aw hmd];rfl
 | freezeF args s av k q d e kk n X g hq hd hav hav2 h0 ih=>
   intro s' av' k' h1 hb1 h2 h3 h4;have hd':s'.res d=some (.buf e kk n g):=by rw[(h1 d hav).1];exact hd
   have hsame:∀c,s'.res c=s.res c→(s'.app ⟨none,.any,[(d,some (.fro kk n g))],[]⟩).res c=(s.app ⟨none,.any,[(d,some (.fro kk n g))],[]⟩).res c:=by
    intro c hc;simp only[St.app,aA,aW,hc]
   have hq':s'.res q=some (.inX X):=by rw[(h1 q hav2).1];exact hq
   refine .freezeF args s' av' k' q d e kk n X g hq' hd' (hf h3 hav) (hf h3 hav2) ?_;refine ih (fun c hc=>⟨hsame c (h1 c hc).1,(h1 c hc).2⟩) (fun c hc=>hsame c (hb1 c hc)) (fun c hc=> ?_) h3 (fun u hu hud hun=> ?_)
   · rw[List.mem_map]at hc;obtain⟨x,hx,hxe⟩:=hc;exact hsame c (h2 c (D9 hxe ▸ hx))
   · refine h4 _ hu hud (fun m hm=>⟨fun x=> ?_,(hun m hm).2⟩);have hmd:m≠d:=fun q=>by subst q;rw[hav]at hm;cases hm
     rw[eW,(hun m hm).1];simp only[aW];rw[aw hmd];rfl
end
end Go.Eng
namespace Go.Eng
open Go
def j7 (o:Oper):Bool:=
 match o.op with
 | .alloc _=>true
 | .box .. =>true
 | .buildSlice .. =>true
 | .makeSlice .. =>true
 |_=>false
section
variable {P:Program} {T:ci} {C:List Nat} {o:Oper} {s s':St}
theorem kJ {dst:Option Nat}{ty:TypeId}{l:Option (List SV)}{k:cM→Prop}(hu:∀d,dst=some d→s'.used d=s.used d)(h:dN dst s ty l k):dN dst s' ty l k:=by
 unfold dN at h ⊢;split at h
 · rename_i d l;rw[hu d rfl];exact h
 · exact h.elim
theorem pr (h :pD o s s')(hu:j7 o=true→∀d,o.dst=some d→s'.used d=s.used d)(hq:bi C o=true){av av':List Nat}{k:cM→Prop}(hk:dc P T C o s av k):dc P T C o s' av' k:=by
 unfold dc at hk ⊢;split at hk
 · rename_i ty ho;have hf:=h.full (by simp[iG,ho]);have hu:=hu (by simp[j7,ho]);unfold ry at hk ⊢;split at hk
   · exact kJ hu hk
   · exact hk.elim
 · rename_i ty x ho;have hf:=h.full (by simp[iG,ho]);have hu:=hu (by simp[j7,ho]);unfold HU at hk ⊢;rw[bp hf (by simp[ho,Op.operands])];exact kJ hu hk
 · rename_i ty n ps ho;have hf:=h.full (by simp[iG,ho]);have hu:=hu (by simp[j7,ho]);rw[mn hf (fun p hp=>by rw[ho];simp only[Op.operands];simpa using⟨p.1,by simpa using hp⟩)];unfold dX at hk ⊢;simp only[gX]at hk ⊢;split at hk
   · split at hk
     · rename_i sz by' z zq hte;generalize (Nat.beq z.cells.size sz&&Nat.ble 1 sz&&Nat.beq (ps.toList.map fun p=>(p.1,s.ev p.2)).length n&&Nat.ble (n*sz) 16777216)=bb at hk ⊢
       cases bb with
       |false=>exact hk
       | true=>
         simp only[br]at hk ⊢;split at hk
         · rename_i rows hrows
           cases hm:gS C o.dst with
           |false=>rw[hm]at hk;exact hk
           | true=>
             rw[hm]at hk
             cases hd:o.dst with
             |none=>rw[hd]at hk;exact hk.elim
             |some d=>rw[hd]at hk;simp only at hk ⊢;rw[hu d hd];exact hk
         · exact hk.elim
     · exact hk.elim
   · exact hk.elim
 · rename_i ty l c ho;have hf:=h.full (by simp[iG,ho]);have hu:=hu (by simp[j7,ho]);rw[bp hf (x:=l) (by simp[ho,Op.operands]),bp hf (x:=c) (by simp[ho,Op.operands])];unfold ix at hk ⊢;split at hk
   · rename_i d ht hd;split at hk
     · split at hk
       · rw[hu d hd];exact hk
       · exact hk.elim
     · exact hk.elim
   · exact hk.elim
 · rename_i ho;simp[bi,ho]at hq
 · rename_i c ho;have hf:=h.full (by simp[iG,ho]);split at hk
   · rename_i hc;simp[bi,ho,hc]at hq
   · rename_i hc;simp[bi,ho,hc]at hq
   · rename_i hc;simp[bi,ho,hc]at hq
   · exact lJ h hk
 · rename_i ty x lo hi mx ho;have hf:=h.full (by simp[iG,ho]);have hx:x ∈ o.op.operands.toList:=by simp[ho,Op.operands]
   rw[bp hf hx];simp only[bi,ho,Bool.not_eq_true']at hq;have hlo:∀y,lo=some y→y ∈ o.op.operands.toList:=fun y hy=>by subst hy;simp[ho,Op.operands]
   have hhi:∀y,hi=some y→y ∈ o.op.operands.toList:=fun y hy=>by subst hy;simp[ho,Op.operands]
   have hnm:=jf hf hx;split at hk
   · rename_i d hd;rw[hd]at hnm;have hr:=hnm d (by simp[ii]);split at hk
     · rw[ee hf hlo,ee hf hhi];rw[hq]at hk ⊢;simp only[br]at hk ⊢;unfold vx at hk ⊢;simp only[hr];exact hk
     · exact hk.elim
   · exact lJ h hk
 · rename_i ty m x ok ho;have hf:=h.full (by simp[iG,ho]);have hm:m ∈ o.op.operands.toList:=by simp[ho,Op.operands]
   simp only[bi,ho,Bool.not_eq_true']at hq;rw[hq]at hk ⊢;simp only[br]at hk ⊢;rw[bp hf hm,bp hf (x:=x) (by simp[ho,Op.operands])];exact sA (jf hf hm) hk
 · rename_i ho;simp[bi,ho]at hq
 · rename_i ho;simp[bi,ho]at hq
 · rename_i ho;simp[bi,ho]at hq
 · exact lJ h hk
def MM (o:Oper)(av:List Nat)(u:cM):Prop:=u.dst=o.dst∧∀n,mem av n=true→(∀x,aW u.rs n x=x)∧mem u.us n=false
def rz:bh→bh→Prop
 | .map ag va ks zr _ val,.mapB ag' va' ks' zr' _ val' _ _=>ag=ag'∧va=va'∧ks=ks'∧zr=zr'∧val=val'
 |_,_=>False
def O2 (o:Oper)(s:St)(av:List Nat)(u:cM):Prop:=u.dst=o.dst∧∃d r r',s.res d=some r∧rz r r'∧u.rs= [(d,some r')]∧u.us= []∧mem av (d+1099511627776)=false∧mem av (d+2199023255552)=false
theorem bK {av av':List Nat}{c:Nat}(h:∀n,mem av' n=true→mem av n=true)(hc:mem av c=false):mem av' c=false:=by
 cases hq:mem av' c with
 |false=>rfl
 |true=>rw[h c hq]at hc;cases hc
theorem cp {av:List Nat}{c n:Nat}(hc:mem av c=false)(hn:mem av n=true):n≠c:=fun q=>by subst q;rw[hc]at hn;cases hn
theorem BQ {lo hi:Option SV}{n:Nat}{F F':Int→Int→Prop}(hF:∀j h,F j h→F' j h)(h:sj lo hi n F):sj lo hi n F':=by
 have bm:∀ {x:Option SV} {d:Int} {K K':Int→Prop},(∀i,K i→K' i)→gY x d K→gY x d K':=by
  intro x d K K' hK hb;unfold gY at hb ⊢;split at hb<;>first|exact hK _ hb|exact hb.elim
 exact bm (fun k hk=>bm (fun j hj=>hF j k hj) hk) h
theorem jT (h : pD o s s')(hu:∀d,o.dst=some d→s'.used d=s.used d){av av':List Nat}(hq:bi C o=false)
 (hc:p9 o=true→∀c,mem av c=false→s'.res c=s.res c∧s'.used c=s.used c)(hc2:p9 o=true→∀c,mem av (c+1099511627776)=false→s'.res c=s.res c)(hav:∀n,mem av' n=true→mem av n=true)
 {k k':cM→Prop}(hkk0:∀u,k u→MM o av u∨O2 o s' av u→k' u)(hk:dc P T C o s av k):dc P T C o s' av' k':=by
 have hkk:∀u,k u→MM o av u→k' u:=fun u a b=>hkk0 u a (.inl b)
 unfold dc at hk ⊢;split at hk
 · rename_i ho;simp[bi,ho]at hq
 · rename_i ho;simp[bi,ho]at hq
 · rename_i ho;simp[bi,ho]at hq
 · rename_i ho;simp[bi,ho]at hq
 · rename_i ty p x ho;have hf:=h.full (by simp[iG,ho]);have hp:p ∈ o.op.operands.toList:=by simp[ho,Op.operands]
   have hx:x ∈ o.op.operands.toList:=by simp[ho,Op.operands]
   have hnm:=jf hf hp;rw[bp hf hp,bp hf hx];unfold ua at hk ⊢;split at hk
   · rename_i ti cs ht hfl;obtain⟨h1,hk⟩:=ax hk;refine bz h1 ?_;split at hk
     · rename_i d off hpe;rw[hpe]at hnm;have hd:=hnm d (by simp[ii]);obtain⟨h2,hk⟩:=bY hk;refine jx (bK hav h2) ?_;rw[hd];split at hk
       · rename_i e l hr;obtain⟨h3,hk⟩:=ax hk;refine bz h3 (hkk _ hk ⟨rfl,fun n hn=>⟨fun y=> ?_,rfl⟩⟩);simp only[aW];rw[aw (cp h2 hn)];rfl
       · exact hk.elim
     · rename_i d kk i off hpe;rw[hpe]at hnm;have hd:=hnm d (by simp[ii]);obtain⟨h2,hk⟩:=bY hk;refine jx (bK hav h2) ?_;rw[hd];split at hk
       · rename_i e kk' n get ds hr hds;obtain⟨h3,h4,hk⟩:=ax hk;refine bz h3 ⟨h4,hkk _ hk ⟨rfl,fun n hn=>⟨fun y=> ?_,rfl⟩⟩⟩;simp only[aW];rw[aw (cp h2 hn)];rfl
       · rename_i n get m hr hds;obtain⟨h3,h4,hk⟩:=ax hk;refine bz h3 ⟨h4,hkk _ hk ⟨rfl,fun n hn=>⟨fun y=> ?_,rfl⟩⟩⟩;simp only[aW];rw[aw (cp h2 hn)];rfl
       · exact hk.elim
     · exact hk.elim
   · exact hk.elim
 · rename_i c ho;have hf:=h.full (by simp[iG,ho]);split at hk
   · rename_i f hcc;have hfo:f ∈ o.op.operands.toList:=by simp[ho,Op.operands,Call.operands,hcc]
     have hargs:∀x ∈ c.args.toList,x ∈ o.op.operands.toList:=fun x hx=>by
      rw[ho];simp only[Op.operands,Call.operands,hcc,Array.toList_append,List.mem_append];exact .inr hx
     rw[bp hf hfo,od hf hargs];have hnm:=jf hf hfo;unfold Dp at hk ⊢;split at hk
     · rename_i g caps hfe;rw[hfe]at hnm;refine vG hk (hc (by simp[p9,ho,hcc])) (hc2 (by simp[p9,ho,hcc])) (fun d hd=> ?_) hav (fun u hu1 hu2 hu3=>hkk u hu1 ⟨hu2,hu3⟩);rcases List.mem_append.1 hd with q|q
       · rw[List.mem_map]at q;obtain⟨x,hx,hxe⟩:=q;exact jf hf (hargs x hx) d (by rw[hxe];simp[ii])
       · exact hnm d (by simp only[ii];exact nK q)
     · exact hk.elim
   · rename_i hcc;split at hk
     · rename_i x y ty ty2 ha hty;have hx:x ∈ o.op.operands.toList:=by simp[ho,Op.operands,Call.operands,hcc,ha]
       have hy:y ∈ o.op.operands.toList:=by simp[ho,Op.operands,Call.operands,hcc,ha]
       obtain⟨h1,hk⟩:=ax hk;refine bz h1 ?_;rw[bp hf hx,bp hf hy];have hnm:=jf hf hx;have hbn:s'.res 999999=s.res 999999:=h.rs 999999 (by simp[reads,iG,xk,ho,hcc])
       have all:∀ {k k':cM→Prop},(∀u,k u→MM o av u→k' u)→lG T o.dst s av ty (s.ev x) (s.ev y) k→lG T o.dst s' av' ty (s.ev x) (s.ev y) k':=by
        intro k k' hkk hk;unfold lG at hk ⊢;split at hk
        · rename_i e _ _ _ _ d ht hd;split at hk
          · rename_i de sz by' z zq hte;obtain⟨hb,hk⟩:=ax hk;simp only[Bool.and_eq_true,Bool.not_eq_true']at hb;obtain⟨⟨⟨⟨b1,b2⟩,b3⟩,b4⟩,b5⟩:=hb;refine bz (by simp only[Bool.and_eq_true,Bool.not_eq_true'];exact⟨⟨⟨⟨b1,b2⟩,b3⟩,(hu d hd).trans b4⟩,bK hav b5⟩) ?_
            have src:∀ {F F':Nat→(Nat→List DV)→Prop},(∀m hh,F m hh→F' m hh)→ld sz (s.ev y) F→ld sz (s.ev y) F':=by
             intro F F' hF hs;unfold ld at hs ⊢;split at hs
             · exact hF _ _ hs
             · obtain⟨q1,q2⟩:=ax hs;exact bz q1 (hF _ _ q2)
             · exact hs.elim
            unfold qf at hk ⊢;split at hk
            · rename_i hxe;refine src (fun m hh hq=>⟨hq.1,hkk _ hq.2 ⟨hd.symm,fun n hn=>⟨fun y=> ?_,?_⟩⟩⟩) hk
              · simp only[aW];rw[aw (cp b5 hn)];rfl
              · simp only[mem];rw[aw (cp b5 hn)];rfl
            · rename_i d' hxe;rw[hxe]at hnm;have hd':=hnm d' (by simp[ii]);rw[hd'];split at hk
              · rename_i e' kk n g hr;obtain⟨hq,hk⟩:=ax hk;simp only[Bool.and_eq_true,Bool.not_eq_true']at hq;refine bz (by simp only[Bool.and_eq_true,Bool.not_eq_true'];exact⟨hq.1,bK hav hq.2⟩) ?_;refine src (fun m hh hq' =>⟨hq'.1,hkk _ hq'.2 ⟨hd.symm,fun n hn=>⟨fun y=> ?_,?_⟩⟩⟩) hk
                · simp only[aW];rw[aw (cp b5 hn),aw (cp hq.2 hn)];rfl
                · simp only[mem];rw[aw (cp b5 hn)];rfl
              · exact hk.elim
            · rename_i v hxe;rw[hbn];split at hk
              · rename_i e' kk l hr;obtain⟨hq,l1,n,g,l2,hl,hk⟩:=ax hk;simp only[Bool.and_eq_true,Bool.not_eq_true']at hq;refine bz (by simp only[Bool.and_eq_true,Bool.not_eq_true'];exact⟨hq.1,bK hav hq.2⟩) ⟨l1,n,g,l2,hl,?_⟩;refine src (fun m hh hq' =>⟨hq'.1,hkk _ hq'.2 ⟨hd.symm,fun n hn=>⟨fun y=> ?_,?_⟩⟩⟩) hk
                · simp only[aW];rw[aw (cp b5 hn),aw (cp hq.2 hn)];rfl
                · simp only[mem];rw[aw (cp b5 hn)];rfl
              · exact hk.elim
            · exact hk.elim
          · exact hk.elim
        · exact hk.elim
       unfold qm at hk ⊢;split at hk
       · rename_i v hxv;rw[hxv]at all;refine all (fun u hu hf=> ?_) hk;unfold FF at hu ⊢;split at hu
         · rename_i d d1 d2 e sz m g q e' kk l us;obtain⟨hb,hu⟩:=ax hu;refine bz hb (fun v' =>hkk _ (hu v') ?_);simp only[Bool.and_eq_true,Bool.not_eq_true']at hb;obtain⟨⟨⟨⟨⟨b1,b2⟩,b3⟩,b4⟩,b5⟩,b6⟩:=hb;obtain rfl:=Nat.eq_of_beq_eq_true b2;obtain rfl:=Nat.eq_of_beq_eq_true b3;refine⟨hf.1,fun n hn=>⟨fun y=> ?_,(hf.2 n hn).2⟩⟩;have e1:¬n=d2:=fun c=>by have:=(hf.2 n hn).1 none;subst c;simp[aW]at this
           have e2:¬n=999999:=fun c=>by have:=(hf.2 n hn).1 none;simp only[aW]at this;rw[aw e1]at this;subst c;simp at this
           simp only[aW];rw[aw e2,aw e1];rfl
         · exact hu.elim
       · exact all hkk hk
     · exact hk.elim
   · rename_i hcc;split at hk
     · rename_i x y ty ty2 ha hty;have hx:x ∈ o.op.operands.toList:=by simp[ho,Op.operands,Call.operands,hcc,ha]
       have hy:y ∈ o.op.operands.toList:=by simp[ho,Op.operands,Call.operands,hcc,ha]
       have hnm:=jf hf hx;rw[bp hf hx,bp hf hy];unfold vr at hk ⊢;split at hk
       · rename_i d hme;rw[hme]at hnm;have hrd:=hnm d (by simp[ii]);obtain⟨h1,hk⟩:=bY hk;refine jx (bK hav h1) ?_;unfold nH nA at hk ⊢;split at hk
         · split at hk
           · rename_i te d' hte he1;cases he1;rw[hrd];split at hk
             · obtain⟨hb,hk⟩:=ax hk;refine bz hb ?_;split at hk
               · obtain⟨hb2,hk⟩:=ax hk;refine bz hb2 (hkk _ hk ⟨rfl,fun n' hn' =>⟨fun y=> ?_,rfl⟩⟩);simp only[aW];rw[aw (cp h1 hn')];rfl
               · exact hk.elim
             · exact hk.elim
           · exact hk.elim
         · exact hk.elim
       · exact hk.elim
     · exact hk.elim
   · rename_i h1 h2 h3;exfalso
     unfold xT at hk;simp only[ho]at hk;split at hk
     · rename_i hcc _ _;simp[bi,ho,hcc]at hq
     · rename_i hcc _;simp[bi,ho,hcc]at hq
     · rename_i hcc _;simp[bi,ho,hcc]at hq
     · rename_i hcc _;simp[bi,ho,hcc]at hq
     · rename_i hcc _;simp[bi,ho,hcc]at hq
     · exact hk
 · rename_i ty x lo hi mx ho;have hf:=h.full (by simp[iG,ho]);have hx:x ∈ o.op.operands.toList:=by simp[ho,Op.operands]
   have hlo:∀y,lo=some y→y ∈ o.op.operands.toList:=fun y hy=>by subst hy;simp[ho,Op.operands]
   have hhi:∀y,hi=some y→y ∈ o.op.operands.toList:=fun y hy=>by subst hy;simp[ho,Op.operands]
   have hnm:=jf hf hx;rw[bp hf hx];split at hk
   · rename_i d hd;rw[hd]at hnm;have hr:=hnm d (by simp[ii]);split at hk
     · rw [ee hf hlo,ee hf hhi];have hmut:gS C o.dst=true:=by simpa [bi,ho]using hq
       rw[hmut]at hk ⊢;simp only[br]at hk ⊢;obtain⟨h1,hk⟩:=ax hk;simp only[Bool.not_eq_true',Bool.or_eq_false_iff]at h1;refine bz ?_ ?_
       · simp only[Bool.not_eq_true',Bool.or_eq_false_iff];refine⟨bK hav h1.1,?_⟩
         cases hd':o.dst with
         |none=>rfl
         |some d' =>rw[hd']at h1;exact bK hav h1.2
       · unfold nJ at hk ⊢;rw[hr];split at hk
         · rename_i e kk n g d' hres hdst;obtain⟨hq',hk⟩:=ax hk;rw[hu d' hdst];rw[hdst]at h1;refine bz hq' (BQ (fun j hh hj=>⟨hj.1,hkk _ hj.2 ⟨hdst.symm,fun n hn=>⟨fun y=> ?_,?_⟩⟩⟩) hk)
           · simp only[aW];rw[aw (cp h1.2 hn),aw (cp h1.1 hn)];rfl
           · simp only[mem];rw[aw (cp h1.2 hn)];rfl
         · exact hk.elim
     · exact hk.elim
   · obtain⟨v,h1,h2⟩:=qR T o s _ hk;exact lJ h (h2 _ (hkk _ h1 ⟨rfl,fun n hn=>⟨fun _=>rfl,rfl⟩⟩))
 · rename_i ty m x ok ho;have hf:=h.full (by simp[iG,ho]);have hm:m ∈ o.op.operands.toList:=by simp[ho,Op.operands]
   have hmut:gS C o.dst=true:=by simpa [bi,ho]using hq
   have hnm:=jf hf hm;rw[bp hf hm,bp hf (x:=x) (by simp[ho,Op.operands])];rw[hmut]at hk ⊢;simp only[br]at hk ⊢
   cases ok with
   |true=>exact hk
   | false=>
     exact absurd rfl hk
 · rename_i ty m key x ho;have hf:=h.full (by simp[iG,ho]);have hm:m ∈ o.op.operands.toList:=by simp[ho,Op.operands]
   have hx:x ∈ o.op.operands.toList:=by simp[ho,Op.operands]
   have hnm:=jf hf hm;have hnx:=jf hf hx;rw[bp hf hm,bp hf (x:=key) (by simp[ho,Op.operands]),bp hf hx];unfold nX at hk ⊢;split at hk
   · rename_i d hme;rw[hme]at hnm;have hrd:=hnm d (by simp[ii]);obtain⟨h1,hk⟩:=bY hk;refine jx (bK hav h1) ?_;rw[hrd];split at hk
     · exact absurd rfl hk
     · unfold iN nA at hk ⊢;split at hk
       · split at hk
         · rename_i te d' hte he1;cases he1;rw[hrd];split at hk
           · obtain⟨hb,hk⟩:=ax hk;refine bz hb ?_;split at hk
             · obtain⟨hb2,hk⟩:=ax hk;refine bz hb2 (hkk _ hk ⟨rfl,fun n' hn' =>⟨fun y=> ?_,rfl⟩⟩);simp only[aW];rw[aw (cp h1 hn')];rfl
             · exact hk.elim
           · exact hk.elim
         · exact hk.elim
       · exact hk.elim
   · exact hk.elim
 · rename_i ty m key ho;have hf:=h.full (by simp[iG,ho]);have hm:m ∈ o.op.operands.toList:=by simp[ho,Op.operands]
   have hnm:=jf hf hm;rw[bp hf hm,bp hf (x:=key) (by simp[ho,Op.operands])];unfold vg at hk ⊢;split at hk
   · rename_i d hme;rw[hme]at hnm;have hrd:=hnm d (by simp[ii]);obtain⟨h1,hk⟩:=bY hk;rw[Bool.or_eq_false_iff]at h1;refine jx (by rw[Bool.or_eq_false_iff];exact⟨bK hav h1.1,bK hav h1.2⟩) ?_;unfold jy nA at hk ⊢;split at hk
     · split at hk
       · rename_i te d' hte he1;cases he1;rw[hrd];split at hk
         · rename_i ag va ks zr has val hres;obtain⟨hb,hk⟩:=ax hk;refine bz hb ?_;split at hk
           · obtain⟨hb2,hz,hk⟩:=ax hk;refine bz hb2 ⟨hz,fun clock kb b hKB hkb=> ?_⟩;obtain⟨v,hv1,hv2⟩:=jR _ _ _ (hk clock kb b hKB hkb);exact hv2 _ (hkk0 _ hv1 (.inr (by refine⟨rfl,d,_,_,hrd.trans hres,?_,rfl,rfl,h1.1,h1.2⟩;exact⟨rfl,rfl,rfl,rfl,rfl⟩)))
           · exact hk.elim
         · exact hk.elim
       · exact hk.elim
     · exact hk.elim
   · exact hk.elim
 · rename_i ty m st x ho;have hf:=h.full (by simp[iG,ho]);have hm:m ∈ o.op.operands.toList:=by simp[ho,Op.operands]
   have hnm:=jf hf hm;rw[bp hf hm,bp hf (x:=st) (by simp[ho,Op.operands]),bp hf (x:=x) (by simp[ho,Op.operands])];unfold yn at hk ⊢;split at hk
   · rename_i d hme;rw[hme]at hnm;have hrd:=hnm d (by simp[ii]);obtain⟨h1,hk⟩:=bY hk;refine jx (bK hav h1) ?_;unfold gB at hk ⊢;split at hk
     · rename_i d' n he1 he2;cases he1;rw[hrd];split at hk
       · split at hk
         · obtain⟨hb,ky,b,hkb,hk⟩:=ax hk;refine bz hb ⟨ky,b,hkb,hkk _ hk ⟨rfl,fun n' hn' =>⟨fun y=> ?_,rfl⟩⟩⟩;simp only[aW];rw[aw (cp h1 hn')];rfl
         · exact hk.elim
       · exact hk.elim
     · exact hk.elim
   · exact hk.elim
 · rename_i n1 n2 n3 n4 n5 n6 n7 n8 n9 n10 n11;exfalso;unfold bi at hq;split at hq
   · rename_i ho;exact n5 _ _ _ ho
   · rename_i ho;exact n7 _ _ _ _ _ ho
   · rename_i ho;exact n6 _ ho
   · rename_i ho;exact n8 _ _ _ _ ho
   · rename_i ho;exact n9 _ _ _ _ ho
   · rename_i ho;exact n10 _ _ _ ho
   · rename_i ho;exact n11 _ _ _ _ ho
   · cases hq
end
end Go.Eng
namespace Go.Eng
open Go
abbrev aZ:=Nat×List Nat×List Nat
def dC (un:List Nat):List aZ→List Nat
 | []=> []
 |(i,r,_)::l=>bif mem un i then r++dC un l else dC un l
def dH (un:List Nat):List aZ→List Nat
 | []=> []
 |(i,_,w)::l=>bif mem un i then w++dH un l else dH un l
def jO (un:List Nat)(rd:List aZ):List Nat:=(dC un rd++dH un rd)++(dH un rd).map (· +1099511627776)
theorem s9 {un:List Nat}{rd rd':List aZ}(hr:∀n,n ∈ dC un rd'→n ∈ dC un rd)(hn:∀n,n ∈ dH un rd'→n ∈ dH un rd){n:Nat}(h:n ∈ jO un rd'):n ∈ jO un rd:=by
 unfold jO at h ⊢;rcases List.mem_append.1 h with q|q
 · rcases List.mem_append.1 q with q|q
   · exact List.mem_append_left _ (List.mem_append_left _ (hr n q))
   · exact List.mem_append_left _ (List.mem_append_right _ (hn n q))
 · obtain⟨m,hm,e⟩:=List.mem_map.1 q;exact List.mem_append_right _ (List.mem_map.2 ⟨m,hn m hm,e⟩)
def disjN (l m:List Nat):Bool:=l.all fun n=> !mem m n
theorem jW {l m:List Nat}(h:disjN l m=true){n:Nat}(hn:n ∈ l):mem m n=false:=by
 have:=List.all_eq_true.1 h n hn;simpa using this
theorem wz {l m:List Nat}(h:∀n ∈ l,mem m n=false):disjN l m=true:=by
 refine List.all_eq_true.2 (fun n hn=> ?_);rw[h n hn];rfl
theorem li {un:List Nat}{rd:List aZ}{n:Nat}:n ∈ dC un rd↔∃e ∈ rd,mem un e.1=true∧n ∈ e.2.1:=by
 induction rd with
 |nil=>simp[dC]
 | cons e l ih=>
   obtain⟨i,r,w⟩:=e;simp only[dC]
   cases h:mem un i with
   |false=>simp[ih,h]
   |true=>simp[ih,h]
theorem j6 {un:List Nat}{rd:List aZ}{n:Nat}:n ∈ dH un rd↔∃e ∈ rd,mem un e.1=true∧n ∈ e.2.2:=by
 induction rd with
 |nil=>simp[dH]
 | cons e l ih=>
   obtain⟨i,r,w⟩:=e;simp only[dH]
   cases h:mem un i with
   |false=>simp[ih,h]
   |true=>simp[ih,h]
def Aq (o:Oper):Bool:=match o.op with| .lookup _ _ _ false=>true|_=>false
def fQ (o:Oper)(s:St):List Nat:=bif Aq o then reads o s else reads o s++(reads o s).map (· +2199023255552)
def Ko (s:St)(rx:List Nat)(u:cM)(n:Nat):Prop:=(∀y,aW u.rs n y=y)∨(∃r r',s.res n=some r∧rz r r'∧(∀y,aW u.rs n y=some r')∧n+2199023255552 ∉ rx)
def iZ (o:Oper)(u:cM):List Nat:=
 bif j7 o then(match o.dst with|some d=> [d]|none=> [])else u.us
section
variable (P:Program) (T:ci) (C:List Nat) (ops:List Oper)
def Nl (i:Nat)(un:List Nat)(rd:List aZ)(s:St)(K:List aZ→St→Prop):Prop:=
 match ops.drop i with
 | o ::_=>t7 s ops o.guard
    (fun s=>br (disjN (reads o s) (dH un rd)) (dc P T C o s (jO un rd) fun u=>uO u fun u=>br (!bi C o||disjN (iZ o u) (dC un rd)) (oB (fQ o s) fun rl=>oB (iZ o u) fun nl=>K ((i,rl,nl)::rd) (s.app u)) False) False)
    (fun s=>vk o.dst fun dst=>K ((i,[],[])::rd) (s.app ⟨dst,.undef,[],[]⟩))
 | []=>False
def Ch:List (Nat×List Nat)→List aZ→(St→Prop)→St→Prop
 | [],_,k,s=>k s
 |(i,un)::L,rd,k,s=>Nl P T C ops i un rd s fun rd s=>Ch L rd k s
def z6 (i:Nat)(un:List Nat)(rd:List aZ)(s:St)(K:List aZ→St→Prop):Prop:=
 ∃ o,ops[i]? =some o∧
  ((nO s ops o.guard=some true∧disjN (reads o s) (dH un rd)=true∧
     dc P T C o s (jO un rd) fun u=>(bi C o=true→disjN (iZ o u) (dC un rd)=true)∧K ((i,fQ o s,iZ o u)::rd) (s.app u))∨
   (nO s ops o.guard=some false∧K ((i,[],[])::rd) (s.app ⟨o.dst,.undef,[],[]⟩)))
def uB:List (Nat×List Nat)→List aZ→(St→Prop)→St→Prop
 | [],_,k,s=>k s
 |(i,un)::L,rd,k,s=>z6 P T C ops i un rd s fun rd s=>uB L rd k s
end
section
variable {P:Program} {T:ci} {C:List Nat} {ops:List Oper}
theorem pD.refl (o:Oper)(s:St):pD o s s:=⟨fun _ _=>rfl,fun _ _=>rfl⟩
theorem jS {o:Oper}{s:St}{av:List Nat}{k k':cM→Prop}(h:dc P T C o s av k)(hk:∀u,k u→k' u):dc P T C o s av k':=by
 cases hq:bi C o with
 | true=>
   obtain⟨u,h1,_,h3⟩:=gZ hq h
   exact h3 av k' (hk u h1)
 |false=>exact jT (pD.refl o s) (fun _ _=>rfl) hq (fun _ _ _=>⟨rfl,rfl⟩) (fun _ _ _=>rfl) (fun _ h=>h) (fun u h1 _=>hk u h1) h
theorem CO {o:Oper}{s:St}{av av':List Nat}{k:cM→Prop}(h:dc P T C o s av k)(hav:∀n,mem av' n=true→mem av n=true):dc P T C o s av' k:=by
 cases hq:bi C o with
 | true=>
   obtain⟨u,h1,_,h3⟩:=gZ hq h
   exact h3 av' k h1
 |false=>exact jT (pD.refl o s) (fun _ _=>rfl) hq (fun _ _ _=>⟨rfl,rfl⟩) (fun _ _ _=>rfl) hav (fun u h1 _=>h1) h
theorem Lq {i:Nat}{un:List Nat}{rd:List aZ}{s:St}{K K':List aZ→St→Prop}(hK:∀rd s,K rd s→K' rd s)(h:Nl P T C ops i un rd s K):z6 P T C ops i un rd s K':=by
 unfold Nl at h;split at h
 · rename_i o r hd
   have ho:ops[i]? =some o:=by
    have:(ops.drop i)[0]? =some o:=by rw[hd];rfl
    rwa [List.getElem?_drop,Nat.add_zero]at this
   refine⟨o,ho,?_⟩;rcases pB h with⟨h1,h2⟩|⟨h1,h2⟩
   · obtain⟨h3,h4⟩:=ax h2;refine .inl ⟨h1,h3,jS h4 (fun u hu=> ?_)⟩;rw[tD]at hu;obtain⟨h5,h6⟩:=ax hu;rw[lY,lY]at h6;refine⟨fun hq=> ?_,hK _ _ h6⟩;rw[hq]at h5;simpa using h5
   · rw[o6]at h2;exact .inr ⟨h1,hK _ _ h2⟩
 · exact h.elim
theorem I4:∀ {L:List (Nat×List Nat)} {rd:List aZ} {k:St→Prop} {s:St},Ch P T C ops L rd k s→uB P T C ops L rd k s:=by
 intro L
 induction L with
 |nil=>intro rd k s h;exact h
 |cons p L ih=>obtain⟨i,un⟩:=p;intro rd k s h;exact Lq (fun rd s h=>ih h) h
theorem Dt {i:Nat}{un:List Nat}{rd:List aZ}{s:St}{K K':List aZ→St→Prop}(hK:∀rd s,K rd s→K' rd s)(h:z6 P T C ops i un rd s K):z6 P T C ops i un rd s K':=by
 obtain⟨o,ho,h⟩:=h;refine⟨o,ho,?_⟩;rcases h with⟨h1,h2,h3⟩|⟨h1,h2⟩
 · exact .inl ⟨h1,h2,jS h3 (fun u hu=>⟨hu.1,hK _ _ hu.2⟩)⟩
 · exact .inr ⟨h1,hK _ _ h2⟩
theorem Iw {i:Nat}{un:List Nat}{rd rd':List aZ}{s:St}{K K':List aZ→St→Prop}(hrd:∀e ∈ rd',e ∈ rd)(hK:∀e s,K (e::rd) s→K' (e::rd') s)(h:z6 P T C ops i un rd s K):
 z6 P T C ops i un rd' s K':=by
 have hr:∀n,n ∈ dC un rd'→n ∈ dC un rd:=fun n hn=>by
  rw[li]at hn ⊢;obtain⟨e,he,h⟩:=hn;exact⟨e,hrd e he,h⟩
 have hn:∀n,n ∈ dH un rd'→n ∈ dH un rd:=fun n hn=>by
  rw[j6]at hn ⊢;obtain⟨e,he,h⟩:=hn;exact⟨e,hrd e he,h⟩
 have mr:∀ {l l':List Nat},(∀n,n ∈ l'→n ∈ l)→∀ {m},disjN m l=true→disjN m l' =true:=fun hl m hm=>wz fun n hn=>by
  have:=jW hm hn;refine bK (fun c hc=> ?_) this;rw[mem_iff]at hc ⊢;exact hl c hc
 obtain⟨o,ho,h⟩:=h;refine⟨o,ho,?_⟩;rcases h with⟨h1,h2,h3⟩|⟨h1,h2⟩
 · refine .inl ⟨h1,mr hn h2,jS (CO h3 (fun n hn' => ?_)) (fun u hu=>⟨fun hq=>mr hr (hu.1 hq),hK _ _ hu.2⟩)⟩;rw[mem_iff]at hn' ⊢;exact s9 hr hn hn'
 · exact .inr ⟨h1,hK _ _ h2⟩
theorem Gk:∀ {L:List (Nat×List Nat)} {rd rd':List aZ} {k:St→Prop} {s:St},(∀e ∈ rd',e ∈ rd)→uB P T C ops L rd k s→uB P T C ops L rd' k s:=by
 intro L
 induction L with
 |nil=>intro rd rd' k s _ h;exact h
 | cons p L ih=>
   obtain⟨i,un⟩:=p;intro rd rd' k s hrd h;refine Iw hrd (fun e s h=>ih (fun e' he' => ?_) h) h;rcases List.mem_cons.1 he' with q|q
   · rw[q];exact List.mem_cons_self
   · exact List.mem_cons_of_mem _ (hrd e' q)
def tP (ops:List Oper)(o:Oper):Option Nat:=
 match o.guard with
 |none=>none
 | some (j,_)=>match ops.drop j with
   |oj::_=>oj.dst
   | []=>none
theorem qW {s s':St}{o:Oper}(h:∀t,tP ops o=some t→s'.tmps t=s.tmps t):nO s' ops o.guard=nO s ops o.guard:=by
 unfold tP at h;unfold nO;split
 · rfl
 · rename_i j want hg;rw[hg]at h;split
   · rename_i oj r hj;simp only[hj]at h;split
     · rename_i t ht;rw[h t ht]
     · rfl
   · rfl
theorem BS {s s':St}{x:SV}(h:∀n ∈ ii s x,s'.res n=s.res n):ii s' x=ii s x:=by
 cases x<;>try rfl
 rename_i d off;have:=h d (by simp[ii]);simp only[ii,this]
theorem xG {s s':St}:∀ {l:List Nat},(∀t ∈ l,s'.tmps t=s.tmps t)→(∀n ∈ fk s l,s'.res n=s.res n)→fk s' l=fk s l:=by
 intro l
 induction l with
 |nil=>intro _ _;rfl
 | cons t l ih=>
   intro h1 h2;simp only[fk]
   rw[h1 t List.mem_cons_self,BS (fun n hn=>h2 n (by simp only[fk];exact List.mem_append_left _ hn)),
    ih (fun t ht=>h1 t (List.mem_cons_of_mem _ ht)) (fun n hn=>h2 n (by simp only[fk];exact List.mem_append_right _ hn))]
theorem pq {o:Oper}{s s':St}(h:pD o s s'):reads o s' =reads o s:=by
 unfold reads
 cases hm:iG o with
 |true=>rfl
 |false=>rw[xG h.tm (h.full hm).rs]
structure sW (ops:List Oper)(x y:Oper):Prop where
 xy:∀d,x.dst=some d→d ∉ ed y∧tP ops y≠some d∧y.dst≠some d
 yx:∀d,y.dst=some d→d ∉ ed x∧tP ops x≠some d
def yO (ops:List Oper)(x y:Oper):Bool:=
 (match x.dst with|some d=> !mem (ed y) d&&(match tP ops y with|some t=> !Nat.beq t d|none=>true)&&(match y.dst with|some t=> !Nat.beq t d|none=>true)|none=>true)&&
 (match y.dst with|some d=> !mem (ed x) d&&(match tP ops x with|some t=> !Nat.beq t d|none=>true)|none=>true)
theorem wZ {x y:Oper}(h:yO ops x y=true):sW ops x y:=by
 unfold yO at h;rw[Bool.and_eq_true]at h;obtain⟨h1,h2⟩:=h
 have hm:∀ {l:List Nat} {d:Nat},(!mem l d)=true→d ∉ l:=fun hq hd=>by
  rw[←mem_iff]at hd;rw[hd]at hq;cases hq
 have ho:∀ {x:Option Nat} {d:Nat},(match x with|some t=> !Nat.beq t d|none=>true)=true→x≠some d:=fun hq e=>by
  subst e;simp at hq
 constructor
 · intro d hd;rw[hd]at h1;simp only[Bool.and_eq_true]at h1;exact⟨hm h1.1.1,ho h1.1.2,ho h1.2⟩
 · intro d hd;rw[hd]at h2;simp only[Bool.and_eq_true]at h2;exact⟨hm h2.1,ho h2.2⟩
theorem nh {s:St}{u:cM}{t:Nat}(h:u.dst≠some t):(s.app u).tmps t=s.tmps t:=by
 simp only[St.app,fA,if_neg h]
theorem xe {x i :Nat}{ox oi:Oper}{uni rx nx:List Nat}{rd:List aZ}{s:St}{ux:cM}{Ki Ki':List aZ→St→Prop}(hi:ops[i]? =some oi)
 (hap:sW ops ox oi)(hdx:ux.dst=ox.dst)(hfx:∀n,n ∉ nx→(∀y,aW ux.rs n y=y)∧mem ux.us n=false)(hnx:∀n ∈ nx,ox.dst=some n)(hun:mem uni x=true)
 (h:z6 P T C ops i uni ((x,rx,nx)::rd) (s.app ux) Ki)
 (hin:∀ (ei:aZ) ui,ei.1=i→Ki (ei::(x,rx,nx)::rd) ((s.app ux).app ui)→ui.dst=oi.dst→(∀n ∈ rx,Ko s rx ui n)→(∀n ∈ nx,(∀y,aW ui.rs n y=y)∧mem ui.us n=false)→Ki' (ei::rd) (s.app ui)):
 z6 P T C ops i uni rd s Ki':=by
 obtain⟨o,ho,h⟩:=h;rw[hi]at ho;cases ho
 have hg:nO (s.app ux) ops oi.guard=nO s ops oi.guard:=qW fun t ht=>nh (by
  rw[hdx];intro e;exact(hap.xy t e).2.1 ht)
 refine⟨oi,hi,?_⟩;rw[hg]at h;rcases h with⟨h1,h2,h3⟩|⟨h1,h2⟩
 · have hnews:∀n,mem (dH uni ((x,rx,nx)::rd)) n=false→n ∉ nx:=fun n hn hx=>by
    have:n ∈ dH uni ((x,rx,nx)::rd):=j6.2 ⟨_,List.mem_cons_self,hun,hx⟩;rw[←mem_iff]at this;rw[hn]at this;cases this
   have hal:pD oi (s.app ux) s:=by
    refine⟨fun t ht=>(nh ?_).symm,fun n hn=> ?_⟩
    · rw[hdx];intro e;exact(hap.xy t e).1 ht
    · have:=hnews n (jW h2 hn);simp only[St.app,aA];exact((hfx n this).1 _).symm
   have hu:∀d,oi.dst=some d→s.used d=(s.app ux).used d:=by
    intro d hd;have:d ∉ nx:=fun hx=>(hap.xy d (hnx d hx)).2.2 hd
    simp only[St.app,d9,(hfx d this).2,Bool.false_or]
   have hsub:∀ {l l':List Nat},(∀n,n ∈ l'→n ∈ l)→∀ {m},disjN m l=true→disjN m l' =true:=fun hl m hm=>wz fun n hn=>by
    refine bK (fun c hc=> ?_) (jW hm hn);rw[mem_iff]at hc ⊢;exact hl c hc
   have hr:∀n,n ∈ dC uni rd→n ∈ dC uni ((x,rx,nx)::rd):=fun n hn=>by
    rw[li]at hn ⊢;obtain⟨e,he,h⟩:=hn;exact⟨e,List.mem_cons_of_mem _ he,h⟩
   have hn:∀n,n ∈ dH uni rd→n ∈ dH uni ((x,rx,nx)::rd):=fun n hn=>by
    rw[j6]at hn ⊢;obtain⟨e,he,h⟩:=hn;exact⟨e,List.mem_cons_of_mem _ he,h⟩
   have hre:=pq hal;have hreX:fQ oi s=fQ oi (s.app ux):=by unfold fQ;rw[hre]
   have hrx:∀n ∈ rx,n ∈ dC uni ((x,rx,nx)::rd):=fun n hn=>li.2 ⟨_,List.mem_cons_self,hun,hn⟩
   have hnx':∀n ∈ nx,n ∈ dH uni ((x,rx,nx)::rd):=fun n hn=>j6.2 ⟨_,List.mem_cons_self,hun,hn⟩
   refine .inl ⟨h1,?_,?_⟩
   · rw[hre];exact hsub hn h2
   · cases hq:bi C oi with
     | true=>
       have h4:=pr (av':=jO uni rd) hal (fun _=>hu) hq h3;obtain⟨ui,⟨k1,k2⟩,⟨k3,k4⟩,k5⟩:=gZ hq h4;refine k5 _ _ ⟨fun _=>hsub hr (k1 hq),?_⟩
       have hd:∀n,n ∈ ui.us→n ∈ iZ oi ui:=by
        intro n hn;unfold iZ
        cases ha:j7 oi with
        |false=>exact hn
        | true=>
          rcases k4 with⟨_,q⟩|⟨d,r,q1,q2,q3⟩
          · rw[q]at hn;cases hn
          · rw[q3]at hn;rw[q1];exact hn
       rw[hreX];refine hin _ ui rfl k2 k3 (fun n hn=>.inl fun y=> ?_) (fun n hn=> ?_)
       · rcases k4 with⟨q,_⟩|⟨d,r,q1,q2,q3⟩
         · rw[q];rfl
         · rw[q2]
           have hdn:n≠d:=fun e=>by
            have h6:=jW (k1 hq) (hd d (by rw[q3];exact List.mem_cons_self));have h7:=(mem_iff _ _).2 (hrx n hn);rw[e,h6]at h7;cases h7
           simp only[aW];rw[aw hdn];rfl
       · rcases k4 with⟨q,q'⟩|⟨d,r,q1,q2,q3⟩
         · rw[q,q'];exact⟨fun _=>rfl,rfl⟩
         · rw[q2,q3];have hdn:n≠d:=fun e=>by subst e;exact(hap.xy n (hnx n hn)).2.2 q1
           exact⟨fun y=>by simp only[aW];rw[aw hdn];rfl,by simp only[mem];rw[aw hdn];rfl⟩
     | false =>
       refine jT hal hu hq (fun _ c hc=> ?_) (fun _ c hc=> ?_) (fun n hn' => ?_) (fun ui hui hfp=> ?_) h3
       rotate_left
       · have:c ∉ nx:=fun hx=>by
          have h6:=(mem_iff (jO uni ((x,rx,nx)::rd)) (c+1099511627776)).2 (List.mem_append_right _ (List.mem_map.2 ⟨c,hnx' c hx,rfl⟩));rw[hc]at h6;cases h6
         simp only[St.app,aA];exact((hfx c this).1 _).symm
       rotate_right
       · have:c ∉ nx:=fun hx=>by
          have h6:=(mem_iff (jO uni ((x,rx,nx)::rd)) c).2 (List.mem_append_left _ (List.mem_append_right _ (hnx' c hx)));rw[hc]at h6;cases h6
         simp only[St.app,aA,d9,(hfx c this).2,Bool.false_or];exact⟨((hfx c this).1 _).symm,by first|rfl|trivial⟩
       · rw[mem_iff]at hn' ⊢;exact s9 hr hn hn'
       · refine⟨fun hq' =>(by cases hq'),?_⟩;rw[hreX];have ar:∀n ∈ rx,mem (jO uni ((x,rx,nx)::rd)) n=true:=fun n hn=>by rw[mem_iff];exact List.mem_append_left _ (List.mem_append_left _ (hrx n hn))
         have an:∀n ∈ nx,mem (jO uni ((x,rx,nx)::rd)) n=true:=fun n hn=>by rw[mem_iff];exact List.mem_append_left _ (List.mem_append_right _ (hnx' n hn))
         have an2:∀n ∈ nx,mem (jO uni ((x,rx,nx)::rd)) (n+1099511627776)=true:=fun n hn=>by rw[mem_iff];exact List.mem_append_right _ (List.mem_map.2 ⟨n,hnx' n hn,rfl⟩)
         rcases hfp with hfp|⟨f1,d,r,r',f2,f3,f4,f5,f6,f7⟩
         · exact hin _ ui rfl hui.2 hfp.1 (fun n hn=>.inl (hfp.2 n (ar n hn)).1) (fun n hn=>hfp.2 n (an n hn))
         · refine hin _ ui rfl hui.2 f1 (fun n hn=> ?_) (fun n hn=> ?_)
           · by_cases hnd:n=d
             · subst hnd;refine .inr ⟨r,r',f2,f3,fun y=>by rw[f4];simp[aW],fun hx=> ?_⟩;have:=ar _ hx;rw[f7]at this;cases this
             · exact .inl fun y=>by rw[f4];simp only[aW];rw[aw hnd];rfl
           · have hnd:n≠d:=fun e=>by
              have:=an2 n hn;rw[e,f6]at this;cases this
             exact⟨fun y=>by rw[f4];simp only[aW];rw[aw hnd];rfl,by rw[f5];rfl⟩
 · refine .inr ⟨h1,hin _ _ rfl h2 rfl (fun _ _=>.inl fun _=>rfl) (fun _ _=>⟨fun _=>rfl,rfl⟩)⟩
theorem yT {s s':St}:∀ {l:List Nat},(∀t ∈ l,s'.tmps t=s.tmps t)→(∀n ∈ fk s l,s'.res n=s.res n∨∃r r',s.res n=some r∧rz r r'∧s'.res n=some r')→fk s' l=fk s l:=by
 intro l
 induction l with
 |nil=>intro _ _;rfl
 | cons t l ih=>
   intro h1 h2;simp only[fk];rw[h1 t List.mem_cons_self,ih (fun t ht=>h1 t (List.mem_cons_of_mem _ ht)) (fun n hn=>h2 n (by simp only[fk];exact List.mem_append_right _ hn))];congr 1
   have h3:∀n ∈ ii s (s.tmps t),s'.res n=s.res n∨∃r r',s.res n=some r∧rz r r'∧s'.res n=some r':=fun n hn=>h2 n (by simp only[fk];exact List.mem_append_left _ hn)
   generalize s.tmps t=x at h3;cases x<;>try rfl
   rename_i d off;rcases h3 d (by simp[ii])with q|⟨r,r',q1,q2,q3⟩
   · simp only[ii,q]
   · simp only[ii,q1,q3];cases r<;>cases r'<;>first|rfl|exact q2.elim
theorem Be {s s':St}{y:SV}(h:∀d,y= .buf d→s'.res d=s.res d∨∃r r',s.res d=some r∧rz r r'∧s'.res d=some r'):s'.norm y=s.norm y:=by
 unfold St.norm;cases y<;>try rfl
 rename_i d
 dsimp only
 rcases h _ rfl with q|⟨r,r',q1,q2,q3⟩
 · rw[q]
 · rw[q1,q3];cases r<;>cases r'<;>first|rfl|exact q2.elim
theorem y8 {o :Oper}{s s':St}(hso:Aq o=true)(hq:bi C o=true)(htm:∀t ∈ ed o,s'.tmps t=s.tmps t)
 (vD:∀n ∈ reads o s,s'.res n=s.res n∨∃r r',s.res n=some r∧rz r r'∧s'.res n=some r'){av av':List Nat}{k:cM→Prop}(hk:dc P T C o s av k):reads o s' =reads o s∧dc P T C o s' av' k:=by
 unfold Aq at hso;split at hso
 · rename_i ty m x ho;have hmv:iG o=false:=by simp[iG,ho]
   have hap:xk o=false:=by simp[xk,ho]
   have hrd:reads o s=fk s (ed o):=by unfold reads;rw[hmv,hap];rfl
   have hrd':reads o s' =fk s' (ed o):=by unfold reads;rw[hmv,hap];rfl
   rw[hrd]at vD;refine⟨by rw[hrd,hrd'];exact yT htm vD,?_⟩
   have hev:∀y,y ∈ o.op.operands.toList→s'.ev y=s.ev y:=by
    intro y hy;cases y<;>try rfl
    rename_i t;have ht:=gC hy;simp only[St.ev,St.look];rw[htm t ht];exact Be fun d hd=>vD d (lN ht (by rw[hd];simp[ii]))
   have hm:m ∈ o.op.operands.toList:=by simp[ho,Op.operands]
   have hx:x ∈ o.op.operands.toList:=by simp[ho,Op.operands]
   have hmu:gS C o.dst=false:=by simpa [bi,ho]using hq
   unfold dc at hk ⊢;rw[ho]at hk ⊢;simp only[hmu,br]at hk ⊢;rw[hev m hm,hev x hx];unfold fR qD at hk ⊢;split at hk
   · split at hk
     · rename_i te d hte hme
       have hdm:s'.res d=s.res d∨∃r r',s.res d=some r∧rz r r'∧s'.res d=some r':=by
        cases m with
        | tmp t=>
          refine vD d (lN (gC hm) ?_);simp only[St.ev,St.look]at hme;generalize s.tmps t=y at hme;unfold St.norm at hme;cases y<;>simp at hme
          · split at hme<;>cases hme
          · subst hme;simp[ii]
        | const v=>
          simp only[St.ev]at hme;unfold HJ at hme;split at hme
          · rename_i cs
            cases hc:cs.toList.all (·.oneCell')with
            |false=>rw[hc]at hme;cases hme
            |true=>rw[hc]at hme;cases hme
          · cases hme
          · cases hme
        |func f=>cases hme
        |global g=>cases hme
       rcases hdm with q|⟨r,r',q1,q2,q3⟩
       · rw[q];exact hk
       · rw[q1]at hk;rw[q3];cases r<;>cases r'<;>first|exact q2.elim|skip
         obtain⟨rfl,rfl,rfl,rfl,rfl⟩:=q2;exact hk
     · exact hk.elim
   · exact hk.elim
 · cases hso
theorem wg {s:St}{u v:cM}(hd:∀d,u.dst=some d→v.dst≠some d)(hr:∀n y,aW u.rs n (aW v.rs n y)=aW v.rs n (aW u.rs n y)):(s.app u).app v=(s.app v).app u:=by
 simp only[St.app,St.mk.injEq];refine⟨?_,?_,?_⟩
 · funext i
   simp only[fA]
   by_cases h1:v.dst=some i
   · by_cases h2:u.dst=some i
     · exact absurd h1 (hd i h2)
     · simp[h1,h2]
   · simp[h1]
 · funext n
   simp only[aA];exact(hr n _).symm
 · funext n
   simp only[d9];cases mem v.us n<;>cases mem u.us n<;>rfl
theorem swap {x i:Nat}{ox oi:Oper}{unx uni:List Nat}{rd:List aZ}{s:St}{K:List aZ→St→Prop}(hx:ops[x]? =some ox)(hi:ops[i]? =some oi)(hqx:bi C ox=true)
 (hap:sW ops ox oi)(hun:mem uni x=true)(hnu:mem unx i=false)(hK:∀rd rd' s,(∀e ∈ rd',e ∈ rd)→K rd s→K rd' s)
 (h:z6 P T C ops x unx rd s fun rd s=>z6 P T C ops i uni rd s K):z6 P T C ops i uni rd s fun rd s=>z6 P T C ops x unx rd s K:=by
 obtain⟨o,ho,h⟩:=h;rw[hx]at ho;cases ho
 have hnewsi:∀ei:aZ,ei.1=i→dH unx (ei::rd)=dH unx rd∧dC unx (ei::rd)=dC unx rd:=fun ei he=>by
  obtain⟨j,r,w⟩:=ei;simp only at he;subst he;simp only[dH,dC,hnu,cond_false,and_self]
 have hgx:∀ui:cM,ui.dst=oi.dst→nO (s.app ui) ops ox.guard=nO s ops ox.guard:=fun ui hui=>qW fun t ht=>nh (by
  rw[hui];intro e;exact(hap.yx t e).2 ht)
 rcases h with⟨h1,h2,h3⟩|⟨h1,h2⟩
 · obtain⟨ux,⟨k1,k2⟩,⟨k3,k4⟩,k5⟩:=gZ hqx h3
   have hus:∀n,n ∉ iZ ox ux→(∀y,aW ux.rs n y=y)∧mem ux.us n=false:=by
    intro n hn;rcases k4 with⟨q,q'⟩|⟨d,r,q1,q2,q3⟩
    · rw[q,q'];exact⟨fun _=>rfl,rfl⟩
    · have hdn:n≠d:=fun e=>by
       subst e;apply hn
       unfold iZ
       cases ha:j7 ox with
       |true=>rw[q1];exact List.mem_cons_self
       |false=>rw[q3];exact List.mem_cons_self
      rw[q2,q3];exact⟨fun y=>by simp only[aW];rw[aw hdn];rfl,by simp only[mem];rw[aw hdn];rfl⟩
   have hnx:∀n ∈ iZ ox ux,ox.dst=some n:=by
    intro n hn;unfold iZ at hn
    cases ha:j7 ox with
    | true=>
      rw[ha]at hn
      cases hd:ox.dst with
      |none=>rw[hd]at hn;cases hn
      |some d=>rw[hd]at hn;simp at hn;rw[hn]
    | false=>
      rw[ha]at hn;rcases k4 with⟨q,q'⟩|⟨d,r,q1,q2,q3⟩
      · simp only[cond_false,q']at hn;cases hn
      · simp only[cond_false,q3,List.mem_singleton]at hn;rw[hn];exact q1
   refine xe (x:=x) (ox:=ox) (nx:=iZ ox ux) (rx:=fQ ox s) hi hap k3 hus hnx hun k2 (fun ei ui hei hk hud hr hn=> ?_);have htm:∀t ∈ ed ox,(s.app ui).tmps t=s.tmps t:=fun t ht=>nh (by rw[hud];intro e;exact(hap.yx t e).1 ht)
   have zZ:dc P T C ox s [] (fun u=>u=ux):=k5 [] (fun u=>u=ux) rfl
   have key:reads ox (s.app ui)=reads ox s∧dc P T C ox (s.app ui) (jO unx (ei::rd)) (fun u=>u=ux):=by
    cases hso:Aq ox with
    | true=>
      refine y8 hso hqx htm (fun n hn' => ?_) zZ;have hn2:n ∈ fQ ox s:=by unfold fQ;rw[hso];exact hn'
      simp only[St.app,aA];rcases hr n hn2 with q|⟨r,r',q1,q2,q3,_⟩
      · exact .inl (q _)
      · exact .inr ⟨r,r',q1,q2,q3 _⟩
    | false=>
      have hal:pD ox s (s.app ui):=by
       refine⟨htm,fun n hn' => ?_⟩;have hn2:n ∈ fQ ox s:=by unfold fQ;rw[hso];exact List.mem_append_left _ hn'
       simp only[St.app,aA];rcases hr n hn2 with q|⟨r,r',_,_,_,q4⟩
       · exact q _
       · exact absurd (by unfold fQ;rw[hso];exact List.mem_append_right _ (List.mem_map.2 ⟨n,hn',rfl⟩)) q4
      exact⟨pq hal,pr (av':=jO unx (ei::rd)) hal (fun ha d hd=>by
       simp only[St.app,d9];have:d ∈ iZ ox ux:=by unfold iZ;rw[ha,hd];exact List.mem_cons_self
       rw[(hn d this).2];rfl) hqx zZ⟩
   obtain⟨hre,hstep2⟩:=key;have hreX:fQ ox (s.app ui)=fQ ox s:=by unfold fQ;rw[hre]
   obtain⟨e1,e2⟩:=hnewsi ei hei;refine⟨ox,hx,.inl ⟨by rw[hgx ui hud];exact h1,by rw[hre,e1];exact h2,?_⟩⟩;refine jS hstep2 (fun u hu=> ?_);subst hu;refine⟨fun hq=>by rw[e2];exact k1 hq,?_⟩;rw[hreX]
   have hcomm:(s.app u).app ui=(s.app ui).app u:=wg (fun d hd=>by rw[hud];exact(hap.xy d (by rw[←k3];exact hd)).2.2) (fun n y=>by
    by_cases hnn:n ∈ iZ ox u
    · rw[(hn n hnn).1,(hn n hnn).1]
    · rw[(hus n hnn).1,(hus n hnn).1])
   rw[←hcomm];refine hK _ _ _ (fun e he=> ?_) hk;simp only[List.mem_cons]at he ⊢;rcases he with q|q|q
   · exact .inr (.inl q)
   · exact .inl q
   · exact .inr (.inr q)
 · refine xe (x:=x) (ox:=ox) (nx:= []) (rx:= []) (ux:=⟨ox.dst,.undef,[],[]⟩) hi hap rfl (fun n _=>⟨fun _=>rfl,rfl⟩) (fun n hn=>by cases hn) hun h2 (fun ei ui hei hk hud hr hn=> ?_);refine⟨ox,hx,.inr ⟨by rw[hgx ui hud];exact h1,?_⟩⟩;have hcomm:(s.app ⟨ox.dst,.undef,[],[]⟩).app ui=(s.app ui).app ⟨ox.dst,.undef,[],[]⟩:=wg (fun d hd=>by rw[hud];exact(hap.xy d hd).2.2) (fun n y=>rfl);rw[←hcomm];refine hK _ _ _ (fun e he=> ?_) hk;simp only[List.mem_cons]at he ⊢;rcases he with q|q|q
   · exact .inr (.inl q)
   · exact .inl q
   · exact .inr (.inr q)
end
end Go.Eng
namespace Go.Eng
open Go
def oL:List Edge→List Nat
 | []=> []
 |e::l=>bif Region.binds .any e then e.on::oL l else oL l
def ft (o:Oper):List Nat:=oL o.after.toList
theorem rF {n:Nat}:∀ {l:List Edge},n ∈ oL l↔∃e ∈ l,Region.binds .any e=true∧e.on=n:=by
 intro l
 induction l with
 |nil=>simp[oL]
 | cons e l ih=>
   simp only[oL]
   cases h:Region.binds .any e with
   |false=>simp[ih,h]
   | true=>
     simp only[cond_true,List.mem_cons,ih];constructor
     · rintro(q|⟨e',h1,h2⟩)
       · exact⟨e,.inl rfl,h,q.symm⟩
       · exact⟨e',.inr h1,h2⟩
     · rintro⟨e',h1|h1,h2⟩
       · subst h1;exact .inl h2.2.symm
       · exact .inr ⟨e',h1,h2⟩
inductive Jn (ops:List Oper):Nat→Nat→Prop
 |edge {i e:Nat} {o:Oper} (ho:ops[i]? =some o) (he:e ∈ ft o):Jn ops i e
 |step {i e p:Nat} {o:Oper} (ho:ops[i]? =some o) (he:e ∈ ft o) (h:Jn ops e p):Jn ops i p
def wh:List (Nat×List Nat)→Nat→List Nat
 | [],_=> []
 |(j,l)::r,d=>bif Nat.beq d j then l else wh r d
def eo:List (Nat×List Nat)→List Nat
 | []=> []
 |(j,_)::r=>j::eo r
def qQ (acc:List (Nat×List Nat)):List Nat→List Nat
 | []=> []
 |e::l=>e::(wh acc e++qQ acc l)
def J0 (C:List Nat)(ops:List Oper)(o:Oper)(pre:List Nat)(x:Nat):Bool:=
 mem pre x&&(match ops.drop x with|ox::_=>bi C ox&&yO ops ox o| []=>false)
def zC (C:List Nat)(ops:List Oper):List (Nat×List Nat)→List (Nat×List Nat)→Bool
 | [],_=>true
 | (i,un)::L,acc=>match ops.drop i with
   | o::_=>
     let anc:=qQ acc (ft o)
     !mem (eo acc) i&&(ft o).all (fun e=>mem (eo acc) e)&&(eo acc).all (fun p=>mem anc p||mem un p)&&un.all (fun x=>J0 C ops o (eo acc) x)&&zC C ops L ((i,anc)::acc)
   | []=>false
def zL (C:List Nat)(ops:List Oper)(L:List (Nat×List Nat)):Bool:=
 zC C ops L []&&(List.range ops.length).all (fun i=>mem (eo L) i)
theorem fW {L:List (Nat×List Nat)}{i:Nat}:i ∈ eo L↔∃un,(i,un) ∈ L:=by
 induction L with
 |nil=>simp[eo]
 | cons p L ih=>
   obtain⟨j,u⟩:=p;simp only[eo,List.mem_cons,ih,Prod.mk.injEq];constructor
   · rintro(q|⟨un,h⟩)
     · exact⟨u,.inl ⟨q,rfl⟩⟩
     · exact⟨un,.inr h⟩
   · rintro⟨un,⟨q,_⟩|h⟩
     · exact .inl q
     · exact .inr ⟨un,h⟩
theorem A9 {acc:List (Nat×List Nat)}{d p:Nat}(h:p ∈ wh acc d):∃l,(d,l) ∈ acc∧p ∈ l:=by
 induction acc with
 |nil=>cases h
 | cons q r ih=>
   obtain⟨j,l⟩:=q;simp only[wh]at h
   by_cases hj:d=j
   · subst hj;simp at h;exact⟨l,List.mem_cons_self,h⟩
   · rw[aw hj]at h;obtain⟨l',h1,h2⟩:=ih h;exact⟨l',List.mem_cons_of_mem _ h1,h2⟩
theorem A6 {acc:List (Nat×List Nat)}{p:Nat}:∀ {l:List Nat},p ∈ qQ acc l→p ∈ l∨∃e ∈ l,p ∈ wh acc e:=by
 intro l
 induction l with
 |nil=>intro h;cases h
 | cons e l ih=>
   intro h;simp only[qQ,List.mem_cons,List.mem_append]at h;rcases h with q|q|q
   · exact .inl (by rw[q];exact List.mem_cons_self)
   · exact .inr ⟨e,List.mem_cons_self,q⟩
   · rcases ih q with q|⟨e',h1,h2⟩
     · exact .inl (List.mem_cons_of_mem _ q)
     · exact .inr ⟨e',List.mem_cons_of_mem _ h1,h2⟩
structure Hw (C:List Nat)(ops:List Oper)(pre:List Nat)(i:Nat)(un:List Nat)(o:Oper):Prop where
 ho:ops[i]? =some o
 new:i ∉ pre
 edges:∀e ∈ ft o,e ∈ pre
 split:∀p ∈ pre,Jn ops i p∨p ∈ un
 un:∀x ∈ un,x ∈ pre∧∃ox,ops[x]? =some ox∧bi C ox=true∧sW ops ox o
theorem vL {α:Type}{l:List α}{i:Nat}{x:α}{r:List α}(h:l.drop i=x::r):l[i]? =some x:=by
 have:(l.drop i)[0]? =some x:=by rw[h];rfl
 rwa [List.getElem?_drop,Nat.add_zero]at this
theorem yU {C:List Nat}{ops:List Oper}:∀ {L acc:List (Nat×List Nat)},(∀j l,(j,l) ∈ acc→∀p ∈ l,Jn ops j p)→zC C ops L acc=true→
 ∀ (X Y:List (Nat×List Nat)) (i:Nat) (un:List Nat),L=X++(i,un)::Y→∃o,Hw C ops (eo X++eo acc) i un o:=by
 intro L
 induction L with
 |nil=>intro acc _ _ X Y i un h;cases X<;>cases h
 | cons p L ih=>
   obtain⟨i0,un0⟩:=p;intro acc hacc h X Y i un hL;unfold zC at h;split at h
   · rename_i o r hd;simp only[Bool.and_eq_true]at h;obtain⟨⟨⟨⟨h1,h2⟩,h3⟩,h4⟩,h5⟩:=h;have ho:=vL hd
     have hanc:∀p ∈ qQ acc (ft o),Jn ops i0 p:=by
      intro p hp;rcases A6 hp with q|⟨e,q1,q2⟩
      · exact .edge ho q
      · obtain⟨l,r1,r2⟩:=A9 q2;exact .step ho q1 (hacc e l r1 p r2)
     have hn:i0 ∉ eo acc:=fun hq=>by
      rw[←mem_iff]at hq;rw[hq]at h1;cases h1
     cases X with
     | nil=>
       simp only[List.nil_append,List.cons.injEq,Prod.mk.injEq]at hL;obtain⟨⟨rfl,rfl⟩,rfl⟩:=hL;refine⟨o,ho,by simpa [eo]using hn,fun e he=> ?_,fun p hp=> ?_,fun x hx=> ?_⟩
       · have:=List.all_eq_true.1 h2 e he;rw[mem_iff]at this;simpa [eo]using this
       · have hp':p ∈ eo acc:=by simpa [eo]using hp
         have:=List.all_eq_true.1 h3 p hp';rw[Bool.or_eq_true,mem_iff,mem_iff]at this;rcases this with q|q
         · exact .inl (hanc p q)
         · exact .inr q
       · have:=List.all_eq_true.1 h4 x hx;unfold J0 at this;rw[Bool.and_eq_true,mem_iff]at this;obtain⟨q1,q2⟩:=this;refine⟨by simpa [eo]using q1,?_⟩;split at q2
         · rename_i ox r' hd';rw[Bool.and_eq_true]at q2;exact⟨ox,vL hd',q2.1,wZ q2.2⟩
         · cases q2
     | cons q X=>
       simp only[List.cons_append,List.cons.injEq]at hL;obtain⟨rfl,hL⟩:=hL
       obtain⟨o',ho'⟩:=ih (acc:=(i0,qQ acc (ft o))::acc) (fun j l hj=>by
        rcases List.mem_cons.1 hj with q|q
        · cases q;exact hanc
        · exact hacc j l q) h5 X Y i un hL
       have hmem:∀p,p ∈ eo X++eo ((i0,qQ acc (ft o))::acc)↔p ∈ eo ((i0,un0)::X)++eo acc:=fun p=>by
        simp only[eo,List.mem_append,List.mem_cons];constructor
        · rintro(q|q|q)
          · exact .inl (.inr q)
          · exact .inl (.inl q)
          · exact .inr q
        · rintro((q|q)|q)
          · exact .inr (.inl q)
          · exact .inl q
          · exact .inr (.inr q)
       exact⟨o',ho'.ho,fun hq=>ho'.new ((hmem _).2 hq),fun e he=>(hmem _).1 (ho'.edges e he),fun p hp=>ho'.split p ((hmem _).2 hp),fun x hx=>⟨(hmem _).1 (ho'.un x hx).1,(ho'.un x hx).2⟩⟩
   · cases h
section
variable {P:Program} {T:ci} {C:List Nat} {ops:List Oper}
theorem FL {i:Nat}{uni:List Nat}{oi:Oper}(hi:ops[i]? =some oi):∀ {X Y:List (Nat×List Nat)} {rd:List aZ} {s:St} {k:St→Prop},
 (∀x unx,(x,unx) ∈ X→(∃ox,ops[x]? =some ox∧bi C ox=true∧sW ops ox oi)∧mem uni x=true∧mem unx i=false)→uB P T C ops (X++(i,uni)::Y) rd k s→
 uB P T C ops ((i,uni)::(X++Y)) rd k s:=by
 intro X
 induction X with
 |nil=>intro Y rd s k _ h;exact h
 | cons p X ih=>
   obtain⟨x,unx⟩:=p;intro Y rd s k hX h;obtain⟨⟨ox,hx,hq,hap⟩,hm,hn⟩:=hX x unx List.mem_cons_self
   have h1:z6 P T C ops x unx rd s (fun rd s=>z6 P T C ops i uni rd s fun rd s=>uB P T C ops (X++Y) rd k s):=
    Dt (fun rd s h=>ih (fun x unx hx=>hX x unx (List.mem_cons_of_mem _ hx)) h) h
   exact swap hx hi hq hap hm hn (fun rd rd' s hr h=>Gk hr h) h1
theorem rb {l:Array Bool}{i j:Nat}(h:i<l.size):(l.setIfInBounds i true).getD j true=if i=j then true else l.getD j true:=by
 simp only[Array.getD_eq_getD_getElem?]
 by_cases e:i=j
 · subst e;simp[h]
 · rw[Array.getElem?_setIfInBounds_ne e,if_neg e]
theorem Bp (hT:aQ P T){A:mA}{opsA:Array Oper}{L:List (Nat×List Nat)}{k:St→Prop}{Q:Exit→Act→World→Prop}(hQ:∀s a w,k s→ib A s a w→Q .normal a w)
 (hN:∀o ∈ opsA.toList,BX A.N o=true)(hrows:∀ (X Y:List (Nat×List Nat)) (i:Nat) (un:List Nat),L=X++(i,un)::Y→∃o,Hw C opsA.toList (eo X) i un o)
 (eM:∀i,i<opsA.size→i ∈ eo L):
 ∀ (fuel:Nat) (listed:Array Bool) (rd:List aZ) (s:St) (a:Act) (w:World),listed.size=opsA.size→
  (∀i o,listed.getD i true=true→opsA[i]? =some o→∀e ∈ ft o,listed.getD e true=true)→
  (L.filter fun p=> !listed.getD p.1 true).length≤fuel→uB P T C opsA.toList (L.filter fun p=> !listed.getD p.1 true) rd k s→ib A s a w→wpAny P .any opsA Q fuel listed a w:=by
 intro fuel
 have hready:∀ (listed:Array Bool) i,i ∈ Region.ready .any opsA listed↔∃o,opsA[i]? =some o∧listed.getD i true=false∧∀e ∈ ft o,listed.getD e false=true:=by
  intro listed i;unfold Region.ready;rw[List.mem_filter,List.mem_range];constructor
  · rintro⟨h1,h2⟩;have ho:opsA[i]? =some opsA[i]:=Array.getElem?_eq_getElem h1;refine⟨opsA[i],ho,?_,fun e he=> ?_⟩
    · cases hl:listed.getD i true with
      |false=>rfl
      |true=>rw[hl]at h2;simp at h2
    · rw[ho]at h2;simp only[Option.map_some,Option.getD_some,Bool.and_eq_true]at h2;obtain⟨e',h3,h4,h5⟩:=rF.1 he;have:=Array.all_eq_true'.1 h2.2 e' (by simpa using h3);rw[h4]at this;rw[←h5];simpa using this
  · rintro⟨o,ho,h1,h2⟩;refine⟨(Array.getElem?_eq_some_iff.1 ho).1,?_⟩;rw[h1,ho];simp only[Bool.not_false,Option.map_some,Option.getD_some,Bool.true_and];rw[Array.all_eq_true'];intro e he
    cases hb:Region.binds .any e with
    |false=>rfl
    | true=>
      have:=h2 e.on (rF.2 ⟨e,by simpa using he,hb,rfl⟩);simp[this]
 have hempty:∀ (listed:Array Bool),listed.size=opsA.size→Region.ready .any opsA listed= []→(L.filter fun p=> !listed.getD p.1 true)= []:=by
  intro listed hsz hr
  cases hf:(L.filter fun p=> !listed.getD p.1 true)with
  |nil=>rfl
  | cons p R=>
    exfalso;obtain⟨i,un⟩:=p
    obtain⟨X,Y,hXY,hX,hp⟩:∃X Y,L=X++(i,un)::Y∧(∀q ∈ X,listed.getD q.1 true=true)∧listed.getD i true=false:=by
     clear hrows eM
     induction L with
     |nil=>cases hf
     | cons q L ih=>
       rw[List.filter_cons]at hf
       cases hq:listed.getD q.1 true with
       | true=>
         rw[hq]at hf;obtain⟨X,Y,h1,h2,h3⟩:=ih hf;refine⟨q::X,Y,by rw[h1];rfl,fun q' hq' => ?_,h3⟩;rcases List.mem_cons.1 hq' with e|e
         · rw[e];exact hq
         · exact h2 q' e
       | false=>
         rw[hq]at hf;simp only[Bool.not_false,if_true,List.cons.injEq]at hf;obtain⟨rfl,_⟩:=hf;exact⟨[],L,rfl,by simp,hq⟩
    obtain⟨o,ho⟩:=hrows X Y i un hXY
    have:i ∈ Region.ready .any opsA listed:=by
     rw[hready];refine⟨o,by simpa using ho.ho,hp,fun e he=> ?_⟩;obtain⟨u,hu⟩:=fW.1 (ho.edges e he);have h1:=hX _ hu;simp only[Array.getD_eq_getD_getElem?]at h1 ⊢
     cases hq:listed[e]? with
     |some b=>rw[hq]at h1;simpa using h1
     | none=>
       exfalso
       have hlt:e<opsA.size:=by
        obtain⟨X1,Y1,hX1⟩:=List.append_of_mem hu;obtain⟨o1,ho1⟩:=hrows X1 (Y1++(i,un)::Y) e u (by rw[hXY,hX1];simp);have:=ho1.ho;exact(Array.getElem?_eq_some_iff.1 (by simpa using this)).1
       rw[Array.getElem?_eq_none_iff]at hq;omega
    rw[hr]at this;cases this
 have hdone:∀ (listed:Array Bool),(L.filter fun p=> !listed.getD p.1 true)= []→Region.ready .any opsA listed= []:=by
  intro listed hf;rw[List.eq_nil_iff_forall_not_mem];intro i hi;obtain⟨o,ho,h1,_⟩:=(hready listed i).1 hi;obtain⟨un,hu⟩:=fW.1 (eM i (Array.getElem?_eq_some_iff.1 ho).1);have:(i,un) ∈ L.filter fun p=> !listed.getD p.1 true:=List.mem_filter.2 ⟨hu,by simp only[h1,Bool.not_false]⟩
  rw[hf]at this;cases this
 induction fuel with
 | zero=>
   intro listed rd s a w hsz hcl hlen hops hm;have hf:=List.eq_nil_of_length_eq_zero (Nat.le_zero.1 hlen);refine⟨hdone listed hf,?_⟩;rw[hf]at hops
   exact hQ s a w hops hm
 | succ fuel ih=>
   intro listed rd s a w hsz hcl hlen hops hm;refine⟨fun hr=> ?_,fun i hi=> ?_⟩
   · rw[hempty listed hsz hr]at hops;exact hQ s a w hops hm
   obtain⟨o,ho,hil,hie⟩:=(hready listed i).1 hi;have hilt:i<opsA.size:=(Array.getElem?_eq_some_iff.1 ho).1;obtain⟨un,hu⟩:=fW.1 (eM i hilt);obtain⟨X,Y,hXY⟩:=List.append_of_mem hu;obtain⟨o',hrow⟩:=hrows X Y i un hXY;have hoo:o' =o:=by have:=hrow.ho;simp only[Array.getElem?_toList,ho]at this;exact(Option.some.inj this).symm
   subst hoo
   have hgt:∀e,listed.getD e false=true→listed.getD e true=true:=by
    intro e he;simp only[Array.getD_eq_getD_getElem?]at he ⊢
    cases hq:listed[e]? with
    |none=>rfl
    |some b=>rw[hq]at he;simpa using he
   have hanc:∀j p,Jn opsA.toList j p→(∀o,opsA[j]? =some o→∀e ∈ ft o,listed.getD e true=true)→listed.getD p true=true:=by
    intro j p hA
    induction hA with
    |edge ho he=>intro h;exact h _ (by simpa using ho) _ he
    | step ho he _ ih=>
      intro h;have h1:=h _ (by simpa using ho) _ he;exact ih (fun o2 ho2 e2 he2=>hcl _ _ h1 ho2 e2 he2)
   let f:Nat×List Nat→Bool:=fun p=> !listed.getD p.1 true
   have hsplit:L.filter f=X.filter f++(i,un)::Y.filter f:=by
    rw[hXY,List.filter_append,List.filter_cons];have:f (i,un)=true:=by simp only[f,hil,Bool.not_false]
    rw[if_pos this]
   have hX:∀x unx,(x,unx) ∈ X.filter f→(∃ox,opsA.toList[x]? =some ox∧bi C ox=true∧sW opsA.toList ox o')∧mem un x=true∧mem unx i=false:=by
    intro x unx hx;obtain⟨hx1,hx2⟩:=List.mem_filter.1 hx;have hxl:listed.getD x true=false:=by simpa [f]using hx2
    have hxf:x ∈ eo X:=fW.2 ⟨unx,hx1⟩
    have hxu:x ∈ un:=by
     rcases hrow.split x hxf with q|q
     · have:=hanc i x q (fun o2 ho2 e he=>hgt e (hie e (by rw[ho]at ho2;cases ho2;exact he)));rw[hxl]at this;cases this
     · exact q
    refine⟨(hrow.un x hxu).2,(mem_iff _ _).2 hxu,?_⟩;obtain⟨X1,Y1,hX1⟩:=List.append_of_mem hx1;obtain⟨ox,hox⟩:=hrows X1 (Y1++(i,un)::Y) x unx (by rw[hXY,hX1];simp)
    cases hq:mem unx i with
    |false=>rfl
    | true=>
      exfalso;have h1:=(hox.un i ((mem_iff _ _).1 hq)).1;obtain⟨u1,hu1⟩:=fW.1 h1;exact hrow.new (fW.2 ⟨u1,by rw[hX1];exact List.mem_append_left _ hu1⟩)
   have hmv:=FL hrow.ho hX (by have h9:=hops;rw[show(L.filter fun p=> !listed.getD p.1 true)=L.filter f from rfl,hsplit]at h9;exact h9)
   have hrest:(L.filter fun p=> !(listed.setIfInBounds i true).getD p.1 true)=X.filter f++Y.filter f:=by
    have hne:∀ (Z:List (Nat×List Nat)),(∀q ∈ Z,q.1≠i)→(Z.filter fun p=> !(listed.setIfInBounds i true).getD p.1 true)=Z.filter f:=by
     intro Z hZ;refine List.filter_congr (fun q hq=> ?_);rw[rb (by rw[hsz];exact hilt),if_neg (fun e=>hZ q hq e.symm)]
    rw[hXY,List.filter_append,List.filter_cons];have hi1:(!(listed.setIfInBounds i true).getD i true)=false:=by rw[rb (by rw[hsz];exact hilt)];simp
    simp only[hi1,Bool.false_eq_true,if_false];rw[hne X (fun q hq e=>hrow.new (fW.2 ⟨q.2,by rw[←e];exact hq⟩)),hne Y (fun q hq e=> ?_)];obtain⟨Y1,Y2,hY⟩:=List.append_of_mem hq;obtain⟨j,u⟩:=q;simp only at e;subst e;obtain⟨oq,hoq⟩:=hrows (X++(j,un)::Y1) Y2 j u (by rw[hXY,hY];simp);exact hoq.new (fW.2 ⟨un,List.mem_append_right _ List.mem_cons_self⟩)
   have hlen':(L.filter fun p=> !(listed.setIfInBounds i true).getD p.1 true).length≤fuel:=by
    rw[hrest];have h9:=hlen;rw[show(L.filter fun p=> !listed.getD p.1 true)=L.filter f from rfl,hsplit]at h9;simp only[List.length_append,List.length_cons]at h9 ⊢;omega
   have hcl':∀j o,(listed.setIfInBounds i true).getD j true=true→opsA[j]? =some o→∀e ∈ ft o,(listed.setIfInBounds i true).getD e true=true:=by
    intro j oj hj hoj e he;rw[rb (by rw[hsz];exact hilt)]at hj ⊢;split
    · rfl
    · by_cases hij:i=j
      · subst hij;rw[ho]at hoj;cases hoj;exact hgt e (hie e he)
      · rw[if_neg hij]at hj;exact hcl j oj hj hoj e he
   have hnext:∀ (rd:List aZ) s a w,uB P T C opsA.toList (X.filter f++Y.filter f) rd k s→ib A s a w→wpAny P .any opsA Q fuel (listed.setIfInBounds i true) a w:=by
    intro rd s a w h1 h2;exact ih (listed.setIfInBounds i true) rd s a w (by simpa using hsz) hcl' hlen' (by rw[hrest];exact h1) h2
   obtain⟨o2,ho2,hcase⟩:=hmv;have ho2':opsA[i]? =some o2:=by simpa using ho2
   have hN1:∀d,o2.dst=some d→d<A.N:=by
    intro d hd;have:=hN o2 (List.mem_of_getElem? ho2);unfold BX at this;rw[hd]at this;simpa [Nat.blt_eq]using this
   obtain⟨h0,G,β,hg⟩:=hm;unfold wpOp;rw[ho2'];simp only;rcases hcase with⟨h1,h2,h3⟩|⟨h1,h2⟩
   · rw[if_pos (j4 hg h1)];refine .inl (Oper.wp_mono (fun a' w' hu=> ?_) (bO hT h0 hg hN1 h3));obtain⟨u,hu1,hu2⟩:=hu;exact hnext _ _ _ _ hu1.2 hu2
   · rw[if_neg (by rw[j4 hg h1];simp)];exact hnext _ _ _ _ h2 (MG.fin (s:=s) (rs:= []) (us:= []) (h0:=h0) hg hN1 .undef)
theorem bG (hT:aQ P T)(hm:P.follows .mixedOrders=true)(C:List Nat){id:Nat}{opsA:Array Oper}{k:St→Prop}{s:St}(L:List (Nat×List Nat))(hok:zL C opsA.toList L=true)
 (h:Ch P T C opsA.toList L [] k s):sn P id opsA k s:=by
 refine⟨fun A a w hN hmod=> ?_⟩;unfold zL at hok;rw[Bool.and_eq_true]at hok;have hrows:=yU (acc:= []) (fun _ _ hj=>by cases hj) hok.1
 have eM:∀i,i<opsA.size→i ∈ eo L:=fun i hi=>by
  have:=List.all_eq_true.1 hok.2 i (by simpa using hi);rwa [mem_iff]at this
 have hfilter:∀Z:List (Nat×List Nat),(∀p ∈ Z,p.1<opsA.size)→(Z.filter fun p=> !(Array.replicate opsA.size false).getD p.1 true)=Z:=by
  intro Z hZ;rw[List.filter_eq_self];intro p hp;have:=hZ p hp;simp[Array.getD_eq_getD_getElem?,Array.getElem?_replicate,this]
 have hlt:∀p ∈ L,p.1<opsA.size:=by
  intro p hp;obtain⟨X,Y,hXY⟩:=List.append_of_mem hp;obtain⟨o,ho⟩:=hrows X Y p.1 p.2 hXY;exact(Array.getElem?_eq_some_iff.1 (by simpa using ho.ho)).1
 have hnodup:L.length≤opsA.size:=by
  have key:∀ (Z W:List (Nat×List Nat)),L=Z++W→(eo Z).Nodup:=by
   have key':∀ (n:Nat) (Z W:List (Nat×List Nat)),Z.length=n→L=Z++W→(eo Z).Nodup:=by
    intro n
    induction n with
    |zero=>
     intro Z W hn _;have:Z= []:=List.eq_nil_of_length_eq_zero hn
     subst this;simp[eo]
    |succ n ih=>
     intro Z0 W hn hW;have hne:Z0≠ []:=by intro e;subst e;simp at hn
     obtain⟨Z,p,rfl⟩:∃Z p,Z0=Z++ [p]:=⟨Z0.dropLast,Z0.getLast hne,(List.dropLast_concat_getLast hne).symm⟩;have h1:=ih Z (p::W) (by simpa using hn) (by rw[hW];simp);obtain⟨o,ho⟩:=hrows Z W p.1 p.2 (by rw[hW];simp)
     have hf:eo (Z++ [p])=eo Z++ [p.1]:=by
      clear hW h1 ho ih hn hne
      induction Z with
      |nil=>rfl
      |cons q Z ih=>simp[eo,ih]
     rw[hf,List.nodup_append];refine⟨h1,by simp,fun a ha b hb=> ?_⟩;simp at hb;subst hb;intro e;subst e;exact ho.new (by simpa [eo]using ha)
   exact fun Z W h=>key' Z.length Z W rfl h
  have hnd:=key L [] (by simp)
  have hlen:(eo L).length=L.length:=by
   clear hrows eM hlt hnd key hok h hfilter
   induction L with
   |nil=>rfl
   |cons p L ih=>simp[eo,ih]
  have hsub:∀x ∈ eo L,x ∈ List.range opsA.size:=fun x hx=>by
   obtain⟨un,hu⟩:=fW.1 hx;exact List.mem_range.2 (hlt _ hu)
  have:=List.Nodup.length_le_of_subset hnd hsub;rw[hlen]at this;simpa using this
 refine wp_region_any hm ?_;obtain⟨h0,G,β,hg⟩:=hmod
 refine Bp (P:=P) (T:=T) (C:=C) hT (k:=k) (Q:=Kj A (K0 k)) (fun s a w hk hm=>⟨s,hk,hm⟩) (List.all_eq_true.1 hN) (fun X Y i un hXY=>by simpa [eo]using hrows X Y i un hXY) eM
  opsA.size (Array.replicate opsA.size false) [] s a _ (by simp) (fun i o hi ho=> ?_) (by rw[hfilter L hlt];exact hnodup) (by rw[hfilter L hlt];exact I4 h) ⟨h0,G,β,hg.drew⟩
 have hlt':=(Array.getElem?_eq_some_iff.1 ho).1;simp[Array.getD_eq_getD_getElem?,Array.getElem?_replicate,hlt']at hi
end
end Go.Eng
namespace Go.Eng
open Go
def Af:List (Nat×SV)→Nat→SV
 | [],_=>.any
 |(e,x)::l,i=>bif Nat.beq i e then x else Af l i
def aJ (ts:List (Nat×SV))(rs:List (Nat×bh)):St:=⟨Af ts,aC rs,fun d=>(aC rs d).isSome||Nat.ble 1000000 d⟩
def JK (ρ:List (Nat×Nat)):Bool:=xp ρ&&ρ.all fun p=>Nat.beq p.1 p.2|| !Nat.ble 1000000 p.1
def G3 (s:St)(ρ:List (Nat×Nat)):List (Nat×SV)→Prop
 | []=>True
 |(i,y)::l=>SV.le (s.tmps i) (y.ren ρ)∧G3 s ρ l
def nB (s:St)(ρ:List (Nat×Nat)):List (Nat×bh)→Prop
 | []=>True
 |(d,r)::l=>(match aH ρ d with|some c=>(match s.res c with|some r0=>bh.le r0 (r.ren ρ)|none=>False)|none=>False)∧nB s ρ l
theorem jE {s:St}{ρ:List (Nat×Nat)}:∀ {l:List (Nat×bh)} {d:Nat} {r:bh},nB s ρ l→aC l d=some r→∃c r0,aH ρ d=some c∧s.res c=some r0∧bh.le r0 (r.ren ρ):=by
 intro l
 induction l with
 |nil=>intro d r _ h;cases h
 | cons p l ih=>
   obtain⟨e,r'⟩:=p;intro d r ho h;obtain⟨h1,h2⟩:=ho;simp only[aC]at h
   by_cases he:d=e
   · subst he;simp at h;subst h;split at h1
     · rename_i c hc;split at h1
       · rename_i r0 hr;exact⟨c,r0,hc,hr,h1⟩
       · exact h1.elim
     · exact h1.elim
   · rw[aw he]at h;exact ih h2 h
theorem Es {s:St}{ρ:List (Nat×Nat)}:∀ {l:List (Nat×SV)} {i:Nat},G3 s ρ l→SV.le (s.tmps i) ((Af l i).ren ρ):=by
 intro l
 induction l with
 |nil=>intro i _;exact fun G β v _=>.any v
 | cons p l ih=>
   obtain⟨e,y⟩:=p;intro i ho;obtain⟨h1,h2⟩:=ho;simp only[Af]
   by_cases he:i=e
   · subst he;simpa using h1
   · rw[aw he];exact ih h2
theorem GJ {ρ:List (Nat×Nat)}(h:JK ρ=true){d c:Nat}(hd:aH ρ d=some c)(hb:Nat.ble 1000000 d=true):c=d:=by
 unfold JK at h;rw[Bool.and_eq_true]at h;have:=List.all_eq_true.1 h.2 _ (cW hd);rw[Bool.or_eq_true]at this;rcases this with q|q
 · exact(Nat.eq_of_beq_eq_true q).symm
 · simp[hb]at q
theorem du.trans {a b c:St}(h:du a b)(k:du b c):du a c:=⟨fun A x w m=>k.imp A x w (h.imp A x w m)⟩
theorem ac {s:St}{ts:List (Nat×SV)}{rs:List (Nat×bh)}(ρ:List (Nat×Nat))(hρ:JK ρ=true)(hdom:(ρ.all fun p=>(aC rs p.1).isSome)=true)(ht:G3 s ρ ts)(hr:nB s ρ rs):
 du s (aJ ts rs):=by
 refine⟨fun A a w=> ?_⟩;rintro⟨h0,G,β,h⟩
 have hok:xp ρ=true:=by
  have:=hρ;unfold JK at this;rw[Bool.and_eq_true]at this;exact this.1
 let β':eP:=fun d' =>match aH ρ d' with|some d=>β d|none=>bif Nat.ble 1000000 d' then β d' else none
 have hle:eP.le (fun d=>(aH ρ d).bind β) β':=by
  intro d v hv;simp only[β']
  cases hl:aH ρ d with
  |none=>simp[hl]at hv
  |some c=>simpa [hl]using hv
 have hin:∀ {d c:Nat},aH ρ d=some c→β' d=β c:=fun{d c} hd=>by simp only[β',hd]
 refine⟨h0,G,β',h.sz,h.g0,fun d v hv=> ?_,h.gw,h.gn,h.keep,fun i=> ?_,fun d r hd=> ?_,fun d d' r r' v v' b e1 e2 o1 o2 f1 f2 b1 b2=> ?_,fun d r v b e1 o1 f1 b1=> ?_,fun d v hv=> ?_⟩
 · have hb:=A.hE d v hv;have hv':=h.e0 d v hv;simp only[β']
   cases hl:aH ρ d with
   |none=>simp[hb,hv']
   |some c=>have:=GJ hρ hl hb;subst this;exact hv'
 · exact((Es (i:=i) ht G β _ (h.tm i)).unren _ rfl).mono (Hp.le_refl G) hle
 · obtain⟨c,r0,hc,kT,hl⟩:=jE hr hd;exact((hl.2 _ _ _ _ (h.rs c r0 kT)).unren hc).keep (Hp.le_refl G) hle (fun _ _ _ _ _=>rfl)
 · obtain⟨c,r0,hc,kT,hl⟩:=jE hr e1;obtain⟨c',r0',hc',hs0',hl'⟩:=jE hr e2;rw[hin hc]at f1;rw[hin hc']at f2;have:=h.dj c c' r0 r0' v v' b kT hs0' (by rw[hl.own',db];exact o1) (by rw[hl'.own',db];exact o2) f1 f2 (b1.to (by rw[hl.isR',cI])) (b2.to (by rw[hl'.isR',cI]));subst this;exact qh hok (cW hc) (cW hc')
 · obtain⟨c,r0,hc,kT,hl⟩:=jE hr e1;rw[hin hc]at f1;exact h.og c r0 v b kT (by rw[hl.own',db];exact o1) f1 (b1.to (by rw[hl.isR',cI]))
 · simp only[aJ,Bool.or_eq_true]
   cases hl:aH ρ d with
   |some c=>exact .inl (List.all_eq_true.1 hdom _ (cW hl))
   | none=>
     simp only[β',hl]at hv
     cases hb:Nat.ble 1000000 d with
     |true=>exact .inr rfl
     |false=>rw[hb]at hv;cases hv
theorem du.nil {s:St}(i d e k:Nat)(g:Nat→List DV)(hi:s.tmps i= .d .nilsl)(hd:s.used d=false)(hk:0<k):du s (s.app ⟨some i,.buf d,[(d,some (.buf e k 0 g))],[d]⟩):=by
 refine⟨fun A a w=> ?_⟩;rintro⟨h0,G,β,h⟩;refine⟨h0,G,β.set d (.slice none 0 0),?_⟩;have hn:=h.name (r:=.buf e k 0 g) (v:=.slice none 0 0) hd rfl (fun b hb=>by cases hb) ⟨_,[],by simp[eP.set],World.ownsRow_nil w 0 e k,hk,fun i hi=>by omega,fun i j x hi=>by omega⟩;refine⟨hn.sz,hn.g0,hn.e0,hn.gw,hn.gn,hn.keep,fun j=> ?_,hn.rs,hn.dj,hn.og,hn.sc⟩;simp only[St.app,fA]
 by_cases e:i=j
 · subst e;simp only[if_true];have ht:=h.tm i;rw[hi]at ht;generalize a.tmps.getD i Go.undef=v at ht;cases ht with|d _ _ hv=>cases hv;exact .buf _ _ (by simp[eP.set]) rfl
 · rw[if_neg (by simp[e])];exact hn.tm j
theorem cY {e k n m:Nat}{g h:Nat→List DV}(hn:n=m)(hg:∀i,i<n→g i=h i):bh.le (.buf e k n g) (.buf e k m h):=by
 subst hn;refine⟨rfl,fun G β w d=> ?_⟩;rintro⟨v,xs,h1,h2,h3,h4,h5⟩;exact⟨v,xs,h1,h2,h3,fun i hi=>by rw[←hg i hi];exact h4 i hi,fun i j x hi hx=>h5 i j x hi (by rw[hg i hi];exact hx)⟩
theorem s6 {G:Hp}{k n m:Nat}{g h:Nat→List DV}(hn:n=m)(hg:∀i,i<n→g i=h i){v:Value}(hv:aG G (.ro k n g) v):aG G (.ro k m h) v:=by
 subst hn
 cases hv with
 |ronil=>exact .ronil k h
 | ro _ _ _ a cap vals hs hcap hmax hl hc hd=>
   exact .ro k n h a cap vals hs hcap hmax (fun i hi=>by rw[←hg i hi];exact hl i hi) (fun i j x hi hx=>hc i j x hi (by rw[hg i hi];exact hx)) (fun i j x hi hx=>hd i j x hi (by rw[hg i hi];exact hx))
theorem cO {k n m:Nat}{g h:Nat→List DV}(hn:n=m)(hg:∀i,i<n→g i=h i):SV.le (.d (.ro k n g)) (.d (.ro k m h)):=by
 intro G β v hv;cases hv with|d _ _ hv=>exact .d _ _ (s6 hn hg hv)
theorem AV {k:Nat}{g:Nat→List DV}:SV.le (.d .nilsl) (.d (.ro k 0 g)):=by
 intro G β v hv;cases hv with|d _ _ hv=>cases hv;exact .d _ _ (.ronil k g)
theorem bn {ag va:Bool}{ks:List KK}{zr:List DV}{has has':List DV→Bool}{val val':List DV→List DV}(h:∀key,wk ks key=true→has key=has' key∧val key=val' key):
 bh.le (.map ag va ks zr has val) (.map ag va ks zr has' val'):=by
 refine⟨rfl,fun G β w d=> ?_⟩;rintro⟨r,es,clock,l,h1,h2,h3,h4,h5,h6⟩;refine⟨r,es,clock,l,h1,h2,h3,h4,h5,fun key hk=> ?_⟩;have:=h6 key hk;rw[(h key hk).1,(h key hk).2]at this;exact this
theorem fI {ag va:Bool}{ks:List KK}{zr:List DV}{has has':List DV→Bool}{val val':List DV→List DV}{clock:Nat}{kb:List (List DV×Nat)}(h:∀key,wk ks key=true→has key=has' key∧val key=val' key):
 bh.le (.mapB ag va ks zr has val clock kb) (.map ag va ks zr has' val'):=by
 refine⟨rfl,fun G β w d=> ?_⟩;rintro⟨r,es,l,h1,h2,h3,h4,h5,_,h6⟩;refine⟨r,es,clock,l,h1,h2,h3,h4,h5,fun key hk=> ?_⟩;have:=h6 key hk;rw[(h key hk).1,(h key hk).2]at this;exact this
theorem au {k:IntKind}{n m:Int}(h:n=m):SV.le (.d (.int k n)) (.d (.int k m)):=by subst h;exact SV.le_refl _
theorem nQ {e:TypeId}{l l':List SV}(hl:l.length=l'.length)(h:∀ (i:Nat) x y,l[i]? =some x→l'[i]? =some y→SV.le x y):bh.le (.cells e l) (.cells e l'):=by
 refine⟨rfl,fun G β w d=> ?_⟩;rintro⟨b,vs,h1,h2,h3,h4⟩;refine⟨b,vs,h1,h2,h3.trans hl,fun i y v hy hv=> ?_⟩;have hi:i<l.length:=by rw[hl];exact(List.getElem?_eq_some_iff.1 hy).1
 exact h i _ y (List.getElem?_eq_getElem hi) hy G β v (h4 i _ v (List.getElem?_eq_getElem hi) hv)
def aR {α:Type}(f:α→List DV)(d:α)(l:List α):Nat→List DV:=fun i=>f (l.getD i d)
theorem ja {α:Type}{f:α→List DV}{d:α}{l:List α}{i:Nat}(h:i<l.length):aR f d l i=f l[i]:=by simp[aR,List.getD_eq_getElem?_getD,h]
abbrev d6 {α:Type}(k:Nat)(f:α→List DV)(d:α)(l:List α):DV:=.ro k l.length (aR f d l)
abbrev aD {α:Type}(e k:Nat)(f:α→List DV)(d:α)(l:List α):bh:=.buf e k l.length (aR f d l)
theorem wF {α:Type}{f:α→List DV}{d:α}{l:List α}{rows:List (List DV)}(h:rows=l.map f):∀i,i<l.length→rows.getD i []=aR f d l i:=by
 intro i hi;subst h;rw[ja hi,List.getD_eq_getElem?_getD];simp[hi]
theorem ai {α:Type}{k:Nat}{f:α→List DV}{d:α}{l:List α}{rows:List (List DV)}{n:Nat}(hn:n=l.length)(h:rows=l.map f):SV.le (.d (.ro k n fun i=>rows.getD i [])) (.d (d6 k f d l)):=
 cO hn (fun i hi=>wF h i (hn ▸ hi))
theorem jU {α:Type}{e k:Nat}{f:α→List DV}{d:α}{l:List α}{rows:List (List DV)}{n:Nat}(hn:n=l.length)(h:rows=l.map f):bh.le (.buf e k n fun i=>rows.getD i []) (aD e k f d l):=
 cY hn (fun i hi=>wF h i (hn ▸ hi))
theorem aI {α:Type}{k:Nat}{f:α→List DV}{d:α}:SV.le (.d .nilsl) (.d (d6 k f d [])):=AV
theorem iJ {α:Type}{f:α→List DV}{d:α}{l:List α}{x:α}{h:Nat→List DV}(hx:h 0=f x):∀i,i<l.length+1→eK l.length (aR f d l) h i=aR f d (l++ [x]) i:=by
 intro i hi;rcases Nat.lt_or_ge i l.length with q|q
 · rw[eU q,ja q,ja (by simp;omega)];simp[q]
 · have:i=l.length:=by omega
   subst this;rw[dR (Nat.le_refl _),ja (by simp)];simp[hx]
theorem aB {α:Type}{f:α→List DV}{d:α}{l:List α}{x:α}{e k:Nat}{h:Nat→List DV}(hx:h 0=f x):
 bh.le (.buf e k (l.length+1) (eK l.length (aR f d l) h)) (aD e k f d (l++ [x])):=cY (by simp) (iJ hx)
theorem jL {α:Type}{f:α→List DV}{d:α}{l:List α}{x:α}{j off:Nat}{ds:List DV}(hj:∀y,l[j]? =some y→bA (f y) off ds=f x):
 ∀i,i<l.length→(bif Nat.beq i j then bA (aR f d l i) off ds else aR f d l i)=aR f d (l.set j x) i:=by
 intro i hi
 by_cases e:i=j
 · subst e;simp only[Nat.beq_refl,cond_true];rw[ja hi,ja (by simpa using hi),hj _ (List.getElem?_eq_getElem hi)];simp
 · rw[aw e,cond_false,ja hi,ja (by simpa using hi)];simp[List.getElem_set,Ne.symm e]
theorem oV {α:Type}{f:α→List DV}{d:α}{l:List α}{x:α}{j off:Nat}{ds:List DV}{get:Nat→List DV}(hg:∀i,i<l.length→get i=aR f d l i)(hj:∀y,l[j]? =some y→bA (f y) off ds=f x):
 ∀i,i<l.length→(bif Nat.beq i j then bA (get i) off ds else get i)=aR f d (l.set j x) i:=by
 intro i hi;rw[hg i hi];exact jL hj i hi
theorem jg {α:Type}{f:α→List DV}{d:α}{l:List α}{x:α}{e k j off:Nat}{ds:List DV}(hj:∀y,l[j]? =some y→bA (f y) off ds=f x):
 bh.le (.buf e k l.length fun i=>bif Nat.beq i j then bA (aR f d l i) off ds else aR f d l i) (aD e k f d (l.set j x)):=cY (by simp) (jL hj)
theorem qO {α:Type}{f:α→List DV}{d:α}{l:List α}{x:α}{k j off:Nat}{ds:List DV}(hj:∀y,l[j]? =some y→bA (f y) off ds=f x):
 SV.le (.d (.ro k l.length fun i=>bif Nat.beq i j then bA (aR f d l i) off ds else aR f d l i)) (.d (d6 k f d (l.set j x))):=cO (by simp) (jL hj)
def iF:Int→List DV:=fun x=> [.int .i64 x]
def sF:List UInt8→List DV:=fun x=> [.str x]
abbrev cz (l:List Int):DV:=d6 1 iF 0 l
abbrev bU (l:List (List UInt8)):DV:=d6 1 sF [] l
theorem al {α:Type}{l:List α}{i:Nat}{x:α}(h:i<l.length):l.getD i x ∈ l:=by rw[List.getD_eq_getElem?_getD];simp[h]
def iA (ρ:List (Nat×Nat)):List SV→List SV→Prop
 | [],[]=>True
 |x::l,y::m=>SV.le x (y.ren ρ)∧iA ρ l m
 |_,_=>False
theorem rZ {ρ:List (Nat×Nat)}:∀ {l m:List SV},iA ρ l m→l.length=m.length∧∀ (i:Nat) x y,l[i]? =some x→m[i]? =some y→SV.le x (y.ren ρ):=by
 intro l
 induction l with
 | nil=>
   intro m h
   cases m with
   |nil=>exact⟨rfl,by simp⟩
   |cons y m=>exact h.elim
 | cons x l ih=>
   intro m h
   cases m with
   |nil=>exact h.elim
   | cons y m=>
     obtain⟨h1,h2⟩:=h;obtain⟨i1,i2⟩:=ih h2;refine⟨by simp[i1],fun i a b ha hb=> ?_⟩
     cases i with
     |zero=>simp at ha hb;subst ha;subst hb;exact h1
     |succ i=>exact i2 i a b (by simpa using ha) (by simpa using hb)
def mU (s:St)(rin:List (Nat×bh)):List (Nat×Nat)→Bool
 | []=>true
 |(d,c)::l=>((aC rin d).isSome|| !s.used c)&&mU s rin l
theorem yb {s:St}{rin:List (Nat×bh)}:∀ {l:List (Nat×Nat)} {d c:Nat},mU s rin l=true→(d,c) ∈ l→aC rin d=none→s.used c=false:=by
 intro l
 induction l with
 |nil=>intro d c _ h;cases h
 | cons p l ih=>
   obtain⟨e,f⟩:=p;intro d c h hd hn;simp only[mU,Bool.and_eq_true]at h;rcases List.mem_cons.1 hd with q|q
   · cases q;rw[hn]at h;simpa using h.1
   · exact ih h.2 q hn
def sD (ρ:List (Nat×Nat)):List (Nat×bh)→Bool
 | []=>true
 |(d,r)::l=>(aH ρ d).isSome&&r.okN ρ&&sD ρ l
theorem vW {ρ:List (Nat×Nat)}:∀ {l:List (Nat×bh)} {d:Nat} {r:bh},sD ρ l=true→aC l d=some r→(aH ρ d).isSome=true∧r.okN ρ=true:=by
 intro l
 induction l with
 |nil=>intro d r _ h;cases h
 | cons p l ih=>
   obtain⟨e,r'⟩:=p;intro d r ho h;simp only[sD,Bool.and_eq_true]at ho;simp only[aC]at h
   by_cases he:d=e
   · subst he;simp at h;subst h;exact ho.1
   · rw[aw he]at h;exact ih ho.2 h
theorem dP.of {P:Program}{f:FuncId}{dst:Option Nat}{args:List SV}{s:St}{av:List Nat}{k:cM→Prop}{sargs:List SV}{rin:List (Nat×bh)}{post:SV→List (Nat×bh)→Prop}
 (hs:ae P f sargs rin post)(ρ:List (Nat×Nat))(hok:xp ρ=true)(ha:iA ρ args sargs)(hr:nB s ρ rin)(hro:mU s rin ρ=true)(hav:(ρ.all fun p=> !mem av p.2)=true)
 (hk:∀x rout,post x rout→(SV.okN ρ x&&sD ρ rout)=true∧k ⟨dst,x.ren ρ,oT ρ rout,ρ.map (·.2)⟩):dP P f dst args s av k:=by
 obtain⟨ha1,ha2⟩:=rZ ha;refine .call args s av k ρ sargs rin post hs hok ha1 ha2 (fun d r h=>jE hr h) (fun d c h hn=>yb hro (cW h) hn) (fun d c h=> ?_) (fun x rout hp=> ?_)
 · have:=List.all_eq_true.1 hav _ (cW h);simpa using this
 · obtain⟨h1,h2⟩:=hk x rout hp;rw[Bool.and_eq_true]at h1;exact⟨h1.1,fun d r hd=>vW h1.2 hd,h2⟩
theorem ae.mono {P:Program}{f:FuncId}{args:List SV}{rin:List (Nat×bh)}{post post':SV→List (Nat×bh)→Prop}(h:ae P f args rin post)(hp:∀x r,post x r→post' x r):ae P f args rin post':=
 ⟨h.enter,fun G β w vs h1 h2 h3=>(h.calls G β w vs h1 h2 h3).mono (by
   rintro e w' ⟨v,x,rout,G',β',h1,h2,h3,h4⟩
   exact⟨v,x,rout,G',β',h1,hp _ _ h2,h3,h4⟩)⟩
theorem ae.args {P:Program}{f:FuncId}{l m:List SV}{rin:List (Nat×bh)}{post:SV→List (Nat×bh)→Prop}(h:ae P f m rin post)(hl:l.length=m.length)(hle:∀ (i:Nat) x y,l[i]? =some x→m[i]? =some y→SV.le x y):ae P f l rin post:=
 ⟨h.enter,fun G β w vs h1 h2 h3=>h.calls G β w vs h1 (h2.trans hl) (fun i y v hy hv=>by
   have hi:i<l.length:=by rw[hl];exact(List.getElem?_eq_some_iff.1 hy).1
   exact hle i _ y (List.getElem?_eq_getElem hi) hy G β v (h3 i _ v (List.getElem?_eq_getElem hi) hv))⟩
def nM:List SV→List SV→Prop
 | [],[]=>True
 |x::l,y::m=>SV.le x y∧nM l m
 |_,_=>False
theorem i6:∀ {l m:List SV},nM l m→l.length=m.length∧∀ (i:Nat) x y,l[i]? =some x→m[i]? =some y→SV.le x y:=by
 intro l
 induction l with
 | nil=>
   intro m h
   cases m with
   |nil=>exact⟨rfl,by simp⟩
   |cons y m=>exact h.elim
 | cons x l ih=>
   intro m h
   cases m with
   |nil=>exact h.elim
   | cons y m=>
     obtain⟨h1,h2⟩:=h;obtain⟨i1,i2⟩:=ih h2;refine⟨by simp[i1],fun i a b ha hb=> ?_⟩
     cases i with
     |zero=>simp at ha hb;subst ha;subst hb;exact h1
     |succ i=>exact i2 i a b (by simpa using ha) (by simpa using hb)
theorem ae.le {P:Program}{f:FuncId}{l m:List SV}{rin:List (Nat×bh)}{post:SV→List (Nat×bh)→Prop}(h:ae P f m rin post)(hle:nM l m):ae P f l rin post:=
 h.args (i6 hle).1 (i6 hle).2
theorem ap {P:Program}{f:FuncId}{dst:Option Nat}{args:List SV}{s:St}{av:List Nat}{k:cM→Prop}{sargs:List SV}{y:SV}
 (hs:ae P f sargs [] fun x r=>x=y∧r= [])(ha:iA [] args sargs)(hy:SV.okN [] y=true)(hk:k ⟨dst,y.ren [],[],[]⟩):dP P f dst args s av k:=
 dP.of hs [] rfl ha trivial rfl rfl (by rintro x r ⟨rfl,rfl⟩;exact⟨by simp[hy,sD],hk⟩)
theorem am:(∀ (p:Prop) [Decidable p],(decide p=true)=p)∧(∀ (p:Prop) [Decidable p],(decide p=false)=¬p)∧(∀b:Bool,((!b)=true)=(b=false))∧(∀b:Bool,((!b)=false)=(b=true))∧
 (∀a b:Bool,((a&&b)=true)=(a=true∧b=true))∧(∀a b:Bool,((a||b)=true)=(a=true∨b=true))∧(∀ (α:Type) [BEq α] [LawfulBEq α] (a b:α),((a==b)=true)=(a=b))∧
 (∀ (α:Type) [BEq α] [LawfulBEq α] (a b:α),((a==b)=false)=¬(a=b))∧(∀a b:Prop,(¬(a∧b))=(a→¬b))∧(∀a b:Int,(¬(a≤b))=(b<a))∧(∀a b:Int,(¬(a<b))=(b≤a))∧(∀n:Nat,((n:Int)).toNat=n)∧
 (∀ (α:Type) (a b:α),(a≠b)=¬(a=b))∧(∀ (α:Type) (a:α),(a=a)=True)∧((¬True)=False)∧((¬False)=True):=by
 refine⟨fun p _=>by simp,fun p _=>by simp,fun b=>by simp,fun b=>by simp,fun a b=>by simp,fun a b=>by simp,fun α _ _ a b=>by simp,fun α _ _ a b=>by simp,fun a b=>by simp,fun a b=>by simp,fun a b=>by simp,fun n=>by simp,fun α a b=>rfl,fun α a=>by simp,by simp,by simp⟩
theorem LG {p q r:Prop}{k:Nat}{n m:Int}(hk:Nat.ble k 1024=true)(h:p∧q∧0≤n∧((1024:Nat):Int)*n≤m∧r):p∧q∧(k:Int)*n≤m∧r:=
 ⟨h.1,h.2.1,Int.le_trans (Int.mul_le_mul_of_nonneg_right (Int.ofNat_le.2 (Nat.le_of_ble_eq_true hk)) h.2.2.1) h.2.2.2.1,h.2.2.2.2⟩
theorem Ls {a k m:Nat}(hk:Nat.ble k 1024=true)(h:a*1024≤m):a*k≤m:=Nat.le_trans (Nat.mul_le_mul_left _ (Nat.le_of_ble_eq_true hk)) h
theorem lr {x:SV}:SV.le x x:=SV.le_refl x
theorem rr {x:bh}:bh.le x x:=bh.le_refl x
theorem LN:(∀n:Int,bC n=(-9223372036854775808≤n∧n≤9223372036854775807))∧(∀ (α:Type) (a:α) (l:List α),(a::l).length=l.length+1)∧(∀ (α:Type) (l m:List α),(l++m).length=l.length+m.length)∧(∀α:Type,([]:List α).length=0)∧(∀ (α:Type) (l:List α) (i:Nat) (a:α),(l.set i a).length=l.length):=
 ⟨fun n=>by unfold bC;rfl,fun _ _ _=>rfl,fun _ _ _=>List.length_append,fun _=>rfl,fun _ _ _ _=>List.length_set⟩
def Cw (s:St)(ρ:List (Nat×Nat)):List (Nat×bh)→Prop
 | []=>True
 |(d,r)::l=>(∃c,aH ρ d=some c∧s.res c=some (r.ren ρ))∧Cw s ρ l
theorem BA {s:St}{ρ:List (Nat×Nat)}:∀ {l:List (Nat×bh)},Cw s ρ l→∀ {d r},aC l d=some r→∃c,aH ρ d=some c∧s.res c=some (r.ren ρ):=by
 intro l
 induction l with
 |nil=>intro _ d r h;cases h
 | cons p l ih=>
   obtain⟨e,q⟩:=p;intro h d r hl;simp only[aC]at hl
   by_cases he:d=e
   · subst he;simp at hl;subst hl;exact h.1
   · rw[aw he]at hl;exact ih h.2 hl
theorem dP.look {P:Program}{f:FuncId}{dst:Option Nat}{args:List SV}{s:St}{av:List Nat}{k:cM→Prop}{sargs:List SV}{rin:List (Nat×bh)}{y:SV}
 (hs:ae P f sargs rin fun x r=>x=y∧r=rin)(ρ:List (Nat×Nat))(hok:xp ρ=true)(ha:iA ρ args sargs)(hr:Cw s ρ rin)(hra:(ρ.all fun p=>(aC rin p.1).isSome)=true)(hav:(ρ.all fun p=> !mem av (p.2+1099511627776))=true)
 (hy:(SV.okN ρ y&&sD ρ rin)=true)(hk:k ⟨dst,y.ren ρ,[],[]⟩):dP P f dst args s av k:=by
 obtain⟨ha1,ha2⟩:=rZ ha;rw[Bool.and_eq_true]at hy;refine .peek args s av k ρ sargs rin y hs hok ha1 ha2 (fun d r h=>BA hr h) (fun d c h=> ?_) (fun d c h=> ?_) hy.1 (fun d r hd=>(vW hy.2 hd).2) hk
 · have:=List.all_eq_true.1 hra _ (cW h);exact Option.isSome_iff_exists.1 this
 · have:=List.all_eq_true.1 hav _ (cW h);simpa using this
end Go.Eng
namespace Go.Eng
open Go Go.RowKit
theorem gz {P:Program}{f:FuncId}{args:List SV}{y:SV}(henter:∀args w,(callFunc f args).run P w= .ok (.enter f args) w)
 (h:∀ (G:Hp) (β:eP) (w:World) (vs:List Value),(∀b o,G b=some o→w.heap[b]? =some o)→vs.length=args.length→(∀ (i:Nat) x v,args[i]? =some x→vs[i]? =some v→ak G β x v)→
   ∃u,(∀G β,ak G β y u)∧Calls P f vs.toArray w fun e w' =>e= .returned u∧Below w.heap.size w w'):ae P f args [] (fun x r=>x=y∧r= []):=by
 refine⟨henter,fun G β w vs hpre hl hd=> ?_⟩;obtain⟨u,hu,hc⟩:=h G β w vs hpre.gw hl hd;refine hc.mono ?_;rintro e w' ⟨rfl,hb⟩;refine⟨u,y,[],G,β,rfl,⟨rfl,rfl⟩,⟨Hp.le_refl G,eP.le_refl β,fun b o hg=> ?_,fun b o hg=>.inl hg,⟨hb.os,hb.tape,hb.output,hb.size,fun b hlt _=>hb.block b hlt⟩,fun d r hd=>(by cases hd),fun d d' r r' v v' b hd=>(by cases hd),fun d r v b hd=>(by cases hd)⟩,hu G β⟩;have:=hpre.gw b o hg;have hlt:b<w.heap.size:=(Array.getElem?_eq_some_iff.1 this).1;rw[hb.block b hlt];exact this
theorem dt {a b:SV}{l m:List SV}(h:a=b)(k:l=m):a::l=b::m:=by rw[h,k]
mutual
theorem ql:∀x:SV,SV.okN [] x=true→SV.ren [] x=x
 | .any,_=>rfl
 | .bad,_=>rfl
 | .undef,_=>rfl
 | .d _,_=>rfl
 | .agg l,h=>by simp only[SV.ren];rw[nV l h]
 | .tup l,h=>by simp only[SV.ren];rw[nV l h]
 | .ptr _ _,h=>by simp[SV.okN,aH]at h
 | .buf _,h=>by simp[SV.okN,aH]at h
 | .bel _ _ _ _,h=>by simp[SV.okN,aH]at h
 | .mp _,h=>by simp[SV.okN,aH]at h
 | .fn f caps,h=>by simp only[SV.ren];rw[nV caps h]
 | .sub _ _ _ _,h=>by simp[SV.okN,aH]at h
theorem nV:∀l:List SV,dl [] l=true→ew [] l=l
 | [],_=>rfl
 | x::l,h=>by
   simp only[dl,Bool.and_eq_true]at h;simp only[ew];rw[ql x h.1,nV l h.2]
end
theorem ye:∀ {l:List SV},dl [] l=true→iA [] l l:=by
 intro l
 induction l with
 |nil=>intro _;trivial
 | cons x l ih=>
   intro h;simp only[dl,Bool.and_eq_true]at h;exact⟨by rw[ql x h.1];exact SV.le_refl _,ih h.2⟩
theorem aU {l m:List SV}(h:nM l m):SV.le (.tup l) (.tup m):=by
 obtain⟨h1,h2⟩:=i6 h;intro G β v hv
 cases hv with|tup _ vs hl hd=>
 refine .tup _ _ (hl.trans h1) (fun i y v hy hv=> ?_);have hi:i<l.length:=by rw[h1];exact(List.getElem?_eq_some_iff.1 hy).1
 exact h2 i _ y (List.getElem?_eq_getElem hi) hy G β v (hd i _ v (List.getElem?_eq_getElem hi) hv)
theorem lm {α:Type}{f:α→List DV}{d:α}{l:List α}{x:α}{k:Nat}{h:Nat→List DV}(hx:h 0=f x):
 SV.le (.d (.ro k (l.length+1) (eK l.length (aR f d l) h))) (.d (d6 k f d (l++ [x]))):=cO (by simp) (iJ hx)
theorem ab {P:Program}{f:FuncId}{dst:Option Nat}{args:List SV}{s:St}{av:List Nat}{k:cM→Prop}{y:SV}
 (hs:ae P f args [] fun x r=>x=y∧r= [])(hargs:dl [] args=true)(hy:SV.okN [] y=true)(hk:k ⟨dst,y,[],[]⟩):dP P f dst args s av k:=by
 refine ap hs (ye hargs) hy ?_;rw[ql y hy];exact hk
end Go.Eng
namespace Go.Eng
open Go Go.RowKit
theorem xr {P:Program}{f:FuncId}{args:List SV}{e k:Nat}(hk:0<k)(henter:∀args w,(callFunc f args).run P w= .ok (.enter f args) w)
 (h:∀ (G:Hp) (β:eP) (w:World) (vs:List Value),(∀b o,G b=some o→w.heap[b]? =some o)→vs.length=args.length→(∀ (i:Nat) x v,args[i]? =some x→vs[i]? =some v→ak G β x v)→
   Calls P f vs.toArray w fun e' w' =>Below w.heap.size w w'∧∃v,e' = .returned v∧(v= .slice none 0 0∨∃g cap cur,v= .slice (some ⟨g,0,none⟩) 0 cap∧w.heap.size≤g∧w'.heap[g]? =some (.cells cur e (0,0))∧cap≤maxLen∧cur.size=cap*k)):
 ae P f args [] (fun y r=>y= .buf 1000001∧r= [(1000001,.buf e k 0 fun _=> [])]):=by
 refine⟨henter,fun G β w vs hpre hl hd=> ?_⟩
 have hβ:β 1000001=none:=by
  cases hq:β 1000001 with
  |none=>rfl
  |some v=>obtain⟨r,hr⟩:=hpre.sc _ _ hq;cases hr
 refine(h G β w vs hpre.gw hl hd).mono ?_;rintro e' w' ⟨hb,v,rfl,hv⟩;have hset:(β.set 1000001 v) 1000001=some v:=by simp[eP.set]
 have hown:w'.ownsRow 0 e k v 0 []:=by
  refine⟨by simp,?_⟩;rcases hv with rfl|⟨g,cap,cur,rfl,_,h2,h3,h4⟩
  · exact .inl ⟨rfl,rfl⟩
  · exact .inr ⟨g,cap,cur,rfl,Nat.zero_le _,h2,Nat.zero_le _,h3,h4,by simp⟩
 have hrow:∀d r,aC [(1000001,bh.buf e k 0 fun _=> [])] d=some r→d=1000001∧r=bh.buf e k 0 fun _=> []:=by
  intro d r hr;simp only[aC]at hr
  cases hq:Nat.beq d 1000001 with
  |false=>rw[show(d.beq 1000001)=false from hq]at hr;cases hr
  |true=>rw[show(d.beq 1000001)=true from hq]at hr;cases hr;exact⟨Nat.eq_of_beq_eq_true hq,rfl⟩
 refine⟨v,.buf 1000001,[(1000001,.buf e k 0 fun _=> [])],G,β.set 1000001 v,rfl,⟨rfl,rfl⟩,⟨Hp.le_refl G,gv hβ,fun b o hg=> ?_,fun b o hg=>.inl hg,⟨hb.os,hb.tape,hb.output,hb.size,fun b hlt _=>hb.block b hlt⟩,fun d r hr=> ?_,fun d d' r r' _ _ _ h1 h2 _ _ _ _ _ _=> ?_,fun d r u b hr _ hu hbk=> ?_⟩,?_⟩
 · have:=hpre.gw b o hg;have hlt:b<w.heap.size:=(Array.getElem?_eq_some_iff.1 this).1;rw[hb.block b hlt];exact this
 · obtain⟨rfl,rfl⟩:=hrow d r hr;exact⟨v,[],hset,hown,hk,fun i hi=>by omega,fun i j x hi=>by omega⟩
 · rw[(hrow d r h1).1,(hrow d' r' h2).1]
 · obtain⟨rfl,rfl⟩:=hrow d r hr;rw[hset]at hu;cases hu;have hbk:=hbk.plain rfl;rcases hv with rfl|⟨g,cap,cur,rfl,hg,h2,h3,h4⟩
   · cases hbk
   · have:b=g:=by simpa [gR]using hbk.symm
     subst this;refine⟨?_,.inr hg⟩
     cases hq:G b with
     |none=>rfl
     | some o=>
       have:=hpre.gw b o hq;have hlt:b<w.heap.size:=(Array.getElem?_eq_some_iff.1 this).1;omega
 · refine .buf _ _ hset ?_;rcases hv with rfl|⟨g,cap,cur,rfl,_,_,_,_⟩<;>rfl
end Go.Eng
namespace Go.Eng
open Go
theorem EY {G:Hp}{β βc:eP}{x:SV}{v:Value}(ok:SV.okN [] x=true)(h:ak G β x v):ak G βc x v:=by
 have:=h.reren (ρ:= []) (βc:=βc) (fun d c e=>by cases e) ok;rwa [ql x ok]at this
end Go.Eng
namespace Go.Eng
open Go
def JP (s:St)(ts:List Nat):List (Nat×SV):=ts.map fun i=>(i,s.tmps i)
def qC (s:St):List Nat→List (Nat×bh)
 | []=> []
 | d::l=>match s.res d with
   |some r=>(d,r)::qC s l
   |none=>qC s l
def Eo (ds:List Nat):List (Nat×Nat):=ds.map fun d=>(d,d)
def Mu (s:St)(ds:List Nat):Bool:=ds.all fun d=>(s.res d).isSome
def Ku (s:St)(ρ:List (Nat×Nat))(ts:List Nat):Bool:=ts.all fun i=>(s.tmps i).okN ρ
def LZ (s:St)(ρ:List (Nat×Nat))(ds:List Nat):Bool:=ds.all fun d=>match s.res d with|some r=>r.okN ρ|none=>true
theorem DQ:∀ {ds:List Nat} {d c:Nat},aH (Eo ds) d=some c→c=d:=by
 intro ds
 induction ds with
 |nil=>intro d c h;cases h
 | cons e l ih=>
   intro d c h;simp only[Eo,List.map_cons,aH]at h
   by_cases q:d=e
   · subst q;simp at h;exact h.symm
   · rw[aw q]at h;exact ih h
theorem DK:∀ {ds:List Nat} {d:Nat},d ∈ ds→aH (Eo ds) d=some d:=by
 intro ds
 induction ds with
 |nil=>intro d h;cases h
 | cons e l ih=>
   intro d h;simp only[Eo,List.map_cons,aH]
   by_cases q:d=e
   · subst q;simp
   · rw[aw q];rcases List.mem_cons.1 h with p|p
     · exact absurd p q
     · exact ih p
mutual
theorem y3 {ρ:List (Nat×Nat)}(hρ:∀d c,aH ρ d=some c→c=d):∀x:SV,SV.okN ρ x=true→SV.ren ρ x=x
 | .any,_=>rfl
 | .bad,_=>rfl
 | .undef,_=>rfl
 | .d _,_=>rfl
 | .agg l,h=>by simp only[SV.ren];rw[nd hρ l h]
 | .tup l,h=>by simp only[SV.ren];rw[nd hρ l h]
 | .ptr q o,h=>by
   simp only[SV.okN]at h;obtain⟨c,hc⟩:=Option.isSome_iff_exists.1 h
   simp only[SV.ren,hc];rw[hρ _ _ hc]
 | .buf q,h=>by
   simp only[SV.okN]at h;obtain⟨c,hc⟩:=Option.isSome_iff_exists.1 h
   simp only[SV.ren,hc];rw[hρ _ _ hc]
 | .bel q k i o,h=>by
   simp only[SV.okN]at h;obtain⟨c,hc⟩:=Option.isSome_iff_exists.1 h
   simp only[SV.ren,hc];rw[hρ _ _ hc]
 | .mp q,h=>by
   simp only[SV.okN]at h;obtain⟨c,hc⟩:=Option.isSome_iff_exists.1 h
   simp only[SV.ren,hc];rw[hρ _ _ hc]
 | .fn f caps,h=>by simp only[SV.ren];rw[nd hρ caps h]
 | .sub q k lo n,h=>by
   simp only[SV.okN]at h;obtain⟨c,hc⟩:=Option.isSome_iff_exists.1 h;simp only[SV.ren,hc];rw[hρ _ _ hc]
theorem nd {ρ:List (Nat×Nat)}(hρ:∀d c,aH ρ d=some c→c=d):∀l:List SV,dl ρ l=true→ew ρ l=l
 | [],_=>rfl
 | x::l,h=>by
   simp only[dl,Bool.and_eq_true]at h;simp only[ew];rw[y3 hρ x h.1,nd hρ l h.2]
end
theorem Bw {ρ:List (Nat×Nat)}(hρ:∀d c,aH ρ d=some c→c=d)(r:bh)(h:r.okN ρ=true):r.ren ρ=r:=by
 cases r<;>simp only[bh.ren]
 · simp only[bh.okN]at h;rw[nd hρ _ h]
 · simp only[bh.okN]at h;obtain⟨c,hc⟩:=Option.isSome_iff_exists.1 h;simp only[hc];rw[hρ _ _ hc]
theorem yf {s:St}:∀ {ds:List Nat} {d:Nat},d ∈ ds→(s.res d).isSome=true→(aC (qC s ds) d).isSome=true:=by
 intro ds
 induction ds with
 |nil=>intro d h;cases h
 | cons e l ih=>
   intro d h hs;simp only[qC]
   by_cases q:d=e
   · subst q;obtain⟨r,hr⟩:=Option.isSome_iff_exists.1 hs;rw[hr];simp[aC]
   · have hd:d ∈ l:=by rcases List.mem_cons.1 h with p|p;exact absurd p q;exact p
     split
     · simp only[aC];rw[aw q];exact ih hd hs
     · exact ih hd hs
theorem du.keep {s:St}(ts ds:List Nat)(h1:JK (Eo ds)=true)(h2:Mu s ds=true)(h3:Ku s (Eo ds) ts=true)(h4:LZ s (Eo ds) ds=true):du s (aJ (JP s ts) (qC s ds)):=by
 have hρ:∀d c,aH (Eo ds) d=some c→c=d:=fun d c h=>DQ h
 refine ac (Eo ds) h1 ?_ ?_ ?_
 · simp only[Eo,List.all_map];refine List.all_eq_true.2 (fun d hd=> ?_);exact yf hd (List.all_eq_true.1 h2 d hd)
 · clear h1 h2 h4
   induction ts with
   |nil=>trivial
   | cons i l ih=>
     simp only[Ku,List.all_cons,Bool.and_eq_true]at h3;exact⟨by rw[y3 hρ _ h3.1];exact SV.le_refl _,ih h3.2⟩
 · have go:∀l:List Nat,(∀d ∈ l,d ∈ ds)→nB s (Eo ds) (qC s l):=by
    intro l
    induction l with
    |nil=>intro _;trivial
    | cons d l ih=>
      intro hl;simp only[qC];have hd:=hl d List.mem_cons_self;have h4d:=List.all_eq_true.1 h4 d hd;split
      · rename_i r hr;rw[hr]at h4d;refine⟨?_,ih fun e he=>hl e (List.mem_cons_of_mem _ he)⟩;rw[DK hd];simp only[hr];rw[Bw hρ r h4d];exact bh.le_refl _
      · exact ih fun e he=>hl e (List.mem_cons_of_mem _ he)
   exact go ds fun _ h=>h
theorem mD.ent {P:Program}{c:Code}{Q:Exit→St→Prop}{s s':St}(he:du s s')(h:mD P c Q s'):mD P c Q s:=⟨fun A a w hN hm=>h.wp A a w hN (he.imp A a w hm)⟩
theorem mD.freeze {P:Program}{c:Code}{Q:Exit→St→Prop}{s:St}(d e kk n:Nat)(g:Nat→List DV)(hd:s.res d=some (.buf e kk n g))(h:mD P c Q (s.app ⟨none,.any,[(d,some (.fro kk n g))],[]⟩)):mD P c Q s:=by
 refine⟨fun A a w hN=> ?_⟩;rintro⟨h0,G,β,hm⟩;obtain⟨G',_,hm'⟩:=hm.freeze hd;exact h.wp A a w hN ⟨h0,G',β,hm'⟩
end Go.Eng
namespace Go.Eng
open Go
theorem bF {s:St}(c d e k j:Nat){ce:TypeId}{l:List SV}(g:Nat→List DV)(hc:s.res c=some (.cells ce l))(hj:l[j]? =some (.d .nilsl))(hd:s.used d=false)(hk:0<k)(hcd:Nat.beq c d=false):
 du s (s.app ⟨none,.any,[(c,some (.cells ce (l.set j (.buf d)))),(d,some (.buf e k 0 g))],[d]⟩):=by
 refine⟨fun A a w=> ?_⟩;rintro⟨h0,G,β,h⟩;refine⟨h0,G,β.set d (.slice none 0 0),?_⟩;have hn:=h.name (r:=.buf e k 0 g) (v:=.slice none 0 0) hd rfl (fun b hb=>by cases hb) ⟨_,[],by simp[eP.set],World.ownsRow_nil w 0 e k,hk,fun i hi=>by omega,fun i j x hi=>by omega⟩
 have hc1:(s.app ⟨none,.any,[(d,some (.buf e k 0 g))],[d]⟩).res c=some (.cells ce l):=by
  simp only[St.app,aA,aW];rw[hcd];exact hc
 have hr2:∀x,(s.app ⟨none,.any,[(c,some (.cells ce (l.set j (.buf d)))),(d,some (.buf e k 0 g))],[d]⟩).res x=if x=c then some (.cells ce (l.set j (.buf d)))else(s.app ⟨none,.any,[(d,some (.buf e k 0 g))],[d]⟩).res x:=by
  intro x;simp only[St.app,aA,aW]
  by_cases e:x=c
  · subst e;simp
  · rw[aw e];simp[e]
 have own:∀x r,(s.app ⟨none,.any,[(c,some (.cells ce (l.set j (.buf d)))),(d,some (.buf e k 0 g))],[d]⟩).res x=some r→∃r1,(s.app ⟨none,.any,[(d,some (.buf e k 0 g))],[d]⟩).res x=some r1∧r1.own=r.own∧r1.isR=r.isR:=by
  intro x r hx;rw[hr2]at hx;split at hx
  · rename_i q;subst q;cases hx;exact⟨_,hc1,rfl,rfl⟩
  · exact⟨r,hx,rfl,rfl⟩
 refine⟨hn.sz,hn.g0,hn.e0,hn.gw,hn.gn,hn.keep,hn.tm,fun x r hx=> ?_,fun x x' r1 r2 v1 v2 b h1 h2 o1 o2 e1 e2 b1 b2=> ?_,fun x r v b hx ho hv hb=> ?_,hn.sc⟩
 · rw [hr2]at hx;split at hx
   · rename_i q;subst q;cases hx;obtain⟨b,vs,q1,q2,q3,q4⟩:=hn.rs _ _ hc1;refine⟨b,vs,q1,q2,by rw[List.length_set];exact q3,fun i y v hy hv=> ?_⟩;rw[List.getElem?_set]at hy;split at hy
     · rename_i hij;subst hij;split at hy
       · cases hy;have:=q4 _ _ _ hj hv;cases this with|d _ _ hv' =>cases hv';exact .buf _ _ (by simp[eP.set]) rfl
       · cases hy
     · exact q4 i y v hy hv
   · exact hn.rs x r hx
 · obtain⟨s1,p1,p2,p5⟩:=own _ _ h1;obtain⟨s2,p3,p4,p6⟩:=own _ _ h2;exact hn.dj x x' s1 s2 v1 v2 b p1 p3 (p2.trans o1) (p4.trans o2) e1 e2 (b1.to p5.symm) (b2.to p6.symm)
 · obtain⟨s1,p1,p2,p5⟩:=own _ _ hx;exact hn.og x s1 v b p1 (p2.trans ho) hv (hb.to p5.symm)
end Go.Eng
namespace Go.Eng
open Go
theorem aF {s:St}(c d kk n j:Nat){ce:TypeId}{l:List SV}(g:Nat→List DV)(hc:s.res c=some (.cells ce l))(hj:l[j]? =some (.buf d))(hd:s.res d=some (.fro kk n g)):
 du s (s.app ⟨none,.any,[(c,some (.cells ce (l.set j (.d (.ro kk n g)))))],[]⟩):=by
 refine⟨fun A a w=> ?_⟩;rintro⟨h0,G,β,h⟩;refine⟨h0,G,β,?_⟩;obtain⟨v,hv,hro⟩:=h.rs _ _ hd
 have hr2:∀x,(s.app ⟨none,.any,[(c,some (.cells ce (l.set j (.d (.ro kk n g)))))],[]⟩).res x=if x=c then some (.cells ce (l.set j (.d (.ro kk n g))))else s.res x:=by
  intro x;simp only[St.app,aA,aW]
  by_cases e:x=c
  · subst e;simp
  · rw[aw e];simp[e]
 have own:∀x r,(s.app ⟨none,.any,[(c,some (.cells ce (l.set j (.d (.ro kk n g)))))],[]⟩).res x=some r→∃r1,s.res x=some r1∧r1.own=r.own∧r1.isR=r.isR:=by
  intro x r hx;rw[hr2]at hx;split at hx
  · rename_i q;subst q;cases hx;exact⟨_,hc,rfl,rfl⟩
  · exact⟨r,hx,rfl,rfl⟩
 refine⟨h.sz,h.g0,h.e0,h.gw,h.gn,h.keep,h.tm,fun x r hx=> ?_,fun x x' r1 r2 v1 v2 b h1 h2 o1 o2 e1 e2 b1 b2=> ?_,fun x r v b hx ho hv hb=> ?_,h.sc⟩
 · rw [hr2]at hx;split at hx
   · rename_i q;subst q;cases hx;obtain⟨b9,vs9,p1,p2,p3,p4⟩:=h.rs _ _ hc;refine⟨b9,vs9,p1,p2,by rw[List.length_set];exact p3,fun i y v' hy hv' => ?_⟩;rw[List.getElem?_set]at hy;split at hy
     · rename_i hij;subst hij;split at hy
       · cases hy;have:=p4 _ _ _ hj hv'
         cases this with|buf _ _ hb2 _=>
         rw[hv]at hb2;cases hb2;exact .d _ _ hro
       · cases hy
     · exact p4 i y v' hy hv'
   · exact h.rs x r hx
 · obtain⟨s1,p1,p2,p5⟩:=own _ _ h1;obtain⟨s2,p3,p4,p6⟩:=own _ _ h2;exact h.dj x x' s1 s2 v1 v2 b p1 p3 (p2.trans o1) (p4.trans o2) e1 e2 (b1.to p5.symm) (b2.to p6.symm)
 · obtain⟨s1,p1,p2,p5⟩:=own _ _ hx;exact h.og x s1 v b p1 (p2.trans ho) hv (hb.to p5.symm)
end Go.Eng
namespace Go.Eng
open Go
theorem ao {p q:Prop}(k:q)(h:p:=by(try dsimp only);first|omega|(refine LG rfl ?_;omega)|(refine Ls rfl ?_;omega)|(unfold bC;omega)|exact rfl|(simp only[List.toList_toArray,List.length_cons,List.length_nil];omega)|(simp only[LN]at*;omega)|decide|(unfold bC;decide)):p∧q:=⟨h,k⟩
theorem Jh {P:Program}{T:ci}(hT:aQ P T)(id:Nat)(L:List (Nat×List Nat)){opsA:Array Oper}{k:St→Prop}{s:St}(h:Ch P T [] opsA.toList L [] k s)(hm:P.follows .mixedOrders=true:=by exact rfl)(hok:zL [] opsA.toList L=true:=by decide+kernel):sn P id opsA k s:=
 bG hT hm [] L hok h
theorem a7 {s:St}{ts:List (Nat×SV)}{rs:List (Nat×bh)}(ρ:List (Nat×Nat))(ht:G3 s ρ ts:=by repeat' (first|exact True.intro|exact lr|exact rr|exact au (by omega)|exact SV.le_any _|refine And.intro ?_ ?_))(hr:nB s ρ rs:=by repeat' (first|exact True.intro|exact lr|exact rr|exact au (by omega)|exact SV.le_any _|refine And.intro ?_ ?_))(hρ:JK ρ=true:=by exact rfl)(hdom:(ρ.all fun p=>(aC rs p.1).isSome)=true:=by exact rfl):du s (aJ ts rs):=
 ac ρ hρ hdom ht hr
theorem dp {P:Program}{f:FuncId}{dst:Option Nat}{args:List SV}{s:St}{av:List Nat}{k:cM→Prop}{sargs:List SV}{rin:List (Nat×bh)}{post:SV→List (Nat×bh)→Prop}(hs:ae P f sargs rin post)(ρ:List (Nat×Nat))(hk:∀x rout,post x rout→(SV.okN ρ x&&sD ρ rout)=true∧k ⟨dst,x.ren ρ,oT ρ rout,ρ.map (·.2)⟩)(hok:xp ρ=true:=by exact rfl)(ha:iA ρ args sargs:=by first|exact trivial|exact⟨lr,trivial⟩|exact⟨lr,lr,trivial⟩|exact⟨lr,lr,lr,trivial⟩|exact⟨lr,lr,lr,lr,trivial⟩|exact⟨lr,lr,lr,lr,lr,trivial⟩|exact⟨lr,lr,lr,lr,lr,lr,trivial⟩|exact⟨lr,lr,lr,lr,lr,lr,lr,trivial⟩)(hr:nB s ρ rin:=by first|exact trivial|exact⟨rr,trivial⟩|exact⟨rr,rr,trivial⟩|exact⟨rr,rr,rr,trivial⟩|exact⟨rr,rr,rr,rr,trivial⟩|exact⟨rr,rr,rr,rr,rr,trivial⟩|exact⟨rr,rr,rr,rr,rr,rr,trivial⟩|exact⟨rr,rr,rr,rr,rr,rr,rr,trivial⟩|exact⟨rr,rr,rr,rr,rr,rr,rr,rr,trivial⟩|exact⟨rr,rr,rr,rr,rr,rr,rr,rr,rr,trivial⟩|exact⟨rr,rr,rr,rr,rr,rr,rr,rr,rr,rr,trivial⟩|exact⟨rr,rr,rr,rr,rr,rr,rr,rr,rr,rr,rr,trivial⟩|exact⟨rr,rr,rr,rr,rr,rr,rr,rr,rr,rr,rr,rr,trivial⟩)(hro:mU s rin ρ=true:=by exact rfl)(hav:(ρ.all fun p=> !mem av p.2)=true:=by exact rfl):dP P f dst args s av k:=
 dP.of hs ρ hok ha hr hro hav hk
theorem kN {P:Program}{f:FuncId}{dst:Option Nat}{args:List SV}{s:St}{av:List Nat}{k:cM→Prop}{sargs:List SV}{rin:List (Nat×bh)}{post:SV→List (Nat×bh)→Prop}(hs:ae P f sargs rin post)(ρ:List (Nat×Nat))(hk:∀x rout,post x rout→(SV.okN ρ x&&sD ρ rout)=true∧k ⟨dst,x.ren ρ,oT ρ rout,ρ.map (·.2)⟩)(hok:xp ρ=true:=by exact rfl)(ha:iA ρ args sargs:=by exact⟨lr,ai rfl rfl,trivial⟩)(hr:nB s ρ rin:=by exact⟨rr,trivial⟩)(hro:mU s rin ρ=true:=by exact rfl)(hav:(ρ.all fun p=> !mem av p.2)=true:=by exact rfl):dP P f dst args s av k:=
 dP.of hs ρ hok ha hr hro hav hk
theorem ek (i:Nat):(i:Int).toNat=i:=Int.toNat_natCast i
theorem JJ:Int.toNat 0=0:=rfl
theorem JE:Int.toNat 1=1:=rfl
theorem JH:Int.toNat 2=2:=rfl
theorem JL:Int.toNat 3=3:=rfl
theorem bP {P:Program}{f:FuncId}{dst:Option Nat}{args:List SV}{s:St}{av:List Nat}{k:cM→Prop}{sargs:List SV}{rin:List (Nat×bh)}{Y:SV}{R:List (Nat×bh)}(hs:ae P f sargs rin fun x r=>x=Y∧r=R)(ρ:List (Nat×Nat))(hk:k ⟨dst,Y.ren ρ,oT ρ R,ρ.map (·.2)⟩)(hy:(SV.okN ρ Y&&sD ρ R)=true:=by exact rfl)(hok:xp ρ=true:=by exact rfl)(ha:iA ρ args sargs:=by first|exact trivial|exact⟨lr,trivial⟩|exact⟨lr,lr,trivial⟩|exact⟨lr,lr,lr,trivial⟩|exact⟨lr,lr,lr,lr,trivial⟩|exact⟨lr,lr,lr,lr,lr,trivial⟩|exact⟨lr,lr,lr,lr,lr,lr,trivial⟩|exact⟨lr,lr,lr,lr,lr,lr,lr,trivial⟩)(hr:nB s ρ rin:=by first|exact trivial|exact⟨rr,trivial⟩|exact⟨rr,rr,trivial⟩|exact⟨rr,rr,rr,trivial⟩|exact⟨rr,rr,rr,rr,trivial⟩|exact⟨rr,rr,rr,rr,rr,trivial⟩|exact⟨rr,rr,rr,rr,rr,rr,trivial⟩|exact⟨rr,rr,rr,rr,rr,rr,rr,trivial⟩|exact⟨rr,rr,rr,rr,rr,rr,rr,rr,trivial⟩|exact⟨rr,rr,rr,rr,rr,rr,rr,rr,rr,trivial⟩|exact⟨rr,rr,rr,rr,rr,rr,rr,rr,rr,rr,trivial⟩|exact⟨rr,rr,rr,rr,rr,rr,rr,rr,rr,rr,rr,trivial⟩|exact⟨rr,rr,rr,rr,rr,rr,rr,rr,rr,rr,rr,rr,trivial⟩)(hro:mU s rin ρ=true:=by exact rfl)(hav:(ρ.all fun p=> !mem av p.2)=true:=by exact rfl):dP P f dst args s av k:=
 dP.of hs ρ hok ha hr hro hav fun x r h=>by obtain⟨rfl,rfl⟩:=h;exact⟨hy,hk⟩
theorem Ph {p:Prop}(h:p:=by first|decide|assumption):p:=h
theorem aj {P:Program}{T:ci}(hT:aQ P T){f:FuncId}{fn:Func}{body:Code}{args:List SV}{rin:List (Nat×bh)}{post:SV→List (Nat×bh)→Prop}(hf:P.funcs[f]? =some fn)(henter:∀args w,(callFunc f args).run P w= .ok (.enter f args) w)(h:Ck P T [] body (K5 T fn.results.toList post) (qS args rin))(hb:fn.body=some body:=by exact rfl)(hok:gc fn.ntmps body=true:=by exact rfl)(hn:Nat.ble args.length fn.ntmps=true:=by exact rfl)(hrin:xK rin=true:=by exact rfl):ae P f args rin post:=
 g9 hT hf hb henter hok hn hrin h
theorem Fc {P:Program}{f:FuncId}{dst:Option Nat}{args:List SV}{s:St}{av:List Nat}{k:cM→Prop}{sargs:List SV}{y:SV}(hs:ae P f sargs [] fun x r=>x=y∧r= [])(hk:k ⟨dst,y.ren [],[],[]⟩)(ha:iA [] args sargs:=by first|exact trivial|exact⟨lr,trivial⟩|exact⟨lr,lr,trivial⟩|exact⟨lr,lr,lr,trivial⟩|exact⟨lr,lr,lr,lr,trivial⟩|exact⟨lr,lr,lr,lr,lr,trivial⟩|exact⟨lr,lr,lr,lr,lr,lr,trivial⟩|exact⟨lr,lr,lr,lr,lr,lr,lr,trivial⟩)(hy:SV.okN [] y=true:=by exact rfl):dP P f dst args s av k:=
 ap hs ha hy hk
abbrev OL:=List (Nat×List Nat)
abbrev rg (n:Nat):List Nat:=List.range n
abbrev TL:=List (Nat×OL)
def Lu:TL→Nat→OL
 | [],_=> []
 |(i,l)::t,n=>bif Nat.beq i n then l else Lu t n
theorem bg {P:Program}{T:ci}(hT:aQ P T)(tb:TL){id:Nat}{opsA:Array Oper}{k:St→Prop}{s:St}(h:Ch P T [] opsA.toList (Lu tb id) [] k s)(hm:P.follows .mixedOrders=true:=by exact rfl)(hok:zL [] opsA.toList (Lu tb id)=true:=by decide+kernel):sn P id opsA k s:=
 bG hT hm [] (Lu tb id) hok h
abbrev LU:List (Nat×Nat):= [(1000001,1000001),(1000002,1000002),(1000003,1000003),(1000004,1000004),(1000005,1000005),(1000006,1000006),(1000007,1000007),(1000008,1000008),(1000010,1000010),(1000011,1000011)]
abbrev Hj:List (Nat×Nat):= [(1000001,1000001),(1000002,1000002),(1000003,1000003),(1000004,1000004),(1000005,1000005),(1000006,1000006),(1000007,1000007),(1000008,1000008),(1000010,1000010),(1000011,1000011),(50,60)]
abbrev EX:List (Nat×Nat):= [(1000001,1000001),(1000002,1000002),(1000003,1000003),(1000004,1000004),(50,1000005),(1000006,1000006),(1000007,1000007),(1000008,1000008),(1000010,1000010),(1000011,1000011)]
abbrev Mn:List (Nat×Nat):= [(1000001,1000001),(1000002,1000002),(1000003,1000003),(1000004,1000004),(50,60),(1000006,1000006),(1000007,1000007),(1000008,1000008),(1000010,1000010),(1000011,1000011)]
abbrev Nj:List (Nat×Nat):= [(1000009,1000009),(1000001,1000001),(1000002,1000002),(1000003,1000003),(1000004,1000004),(50,1000005),(1000006,1000006),(1000007,1000007),(1000008,1000008),(1000010,1000010),(1000011,1000011)]
abbrev JD:List (Nat×Nat):= [(1000009,1000009),(1000001,1000001),(1000002,1000002),(1000003,1000003),(1000004,1000004),(50,60),(1000006,1000006),(1000007,1000007),(1000008,1000008),(1000010,1000010),(1000011,1000011)]
abbrev J1:List (Nat×Nat):= [(1000009,1000009),(22,22),(14,14),(15,15),(16,16),(50,50),(17,17),(18,18),(19,19),(20,20),(51,51)]
abbrev LF:List (Nat×Nat):= [(1000007,1000007),(3,3),(9,9)]
abbrev LA:List (Nat×Nat):= [(1000007,1000007),(3,17),(9,9)]
abbrev LH:List (Nat×Nat):= [(1000007,1000007),(3,3),(5,5)]
abbrev E8:List (Nat×Nat):= [(1000007,1000007),(3,3),(5,31)]
abbrev wu:List (Nat×Nat):= [(1000001,1000001),(50,1000005),(1000006,1000006),(1000007,1000007),(1000008,1000008)]
abbrev uN:List (Nat×Nat):= [(1000001,1000001),(1000005,1000005),(1000006,1000006),(1000007,1000007),(1000008,1000008),(50,130)]
abbrev B0:List (Nat×Nat):= [(1000001,1000001),(50,130),(1000006,1000006),(1000007,1000007),(1000008,1000008)]
abbrev A8:List (Nat×Nat):= [(1000009,1000009),(1000001,1000001),(50,130),(1000006,1000006),(1000007,1000007),(1000008,1000008)]
abbrev Dq:List (Nat×Nat):= [(1000009,1000009),(1000001,1000001),(50,1000005),(1000006,1000006),(1000007,1000007),(1000008,1000008)]
abbrev mE:List (Nat×Nat):= [(1000000,1000000),(3,3),(6,6)]
abbrev Iq:List (Nat×Nat):= [(1000000,1000000),(2,2),(3,3),(10,10),(20,20)]
abbrev H7:List (Nat×Nat):= [(1000000,1000000),(2,2),(3,3),(10,10),(20,20),(30,30)]
end Go.Eng
