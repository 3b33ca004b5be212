/- EntriesFollow is proved: for every input the law returns true, and its argument reads afterwards as it read before. Conditions: those of the given row alone. -/
import Derived.Test.YtafhoijegjmdcaaGreatDoorLzEngOne
import Derived.MapKept
import Derived.Carry
import Derived.ChangeKeysEq
import Derived.Maps.RangeRun
import Derived.Laws.IdiomStrings
set_option linter.unusedVariables false
set_option linter.unusedSimpArgs false
namespace Go.Eng
open Go Go.MapKept
theorem Ep {a b:IntKind}(h:E4 a b=true):E4 a a=true:=by cases a<;>cases b<;>first|rfl|cases h
theorem qn (s t:List UInt8):(ByteArray.mk s.toArray==ByteArray.mk t.toArray)=(s==t):=by
 rw[beq_toListBytes,ByteArray.toList_eq,ByteArray.toList_eq]
theorem AO {k:KK}{x y:DV}(hx:gK k x=true)(hy:gK k y=true)(h:dn x y=true):x=y:=by
 cases k<;>cases x<;>simp[gK]at hx<;>cases y<;>simp[gK]at hy<;>simp[dn]at h
 · rw[←fV hx,←fV hy,h]
 · rw[h]
 · rw[h]
theorem ck:∀ {ks:List KK} {xs ys:List DV},wk ks xs=true→wk ks ys=true→az xs ys=true→xs=ys:=by
 intro ks
 induction ks with
 |nil=>intro xs ys hx hy _;cases xs<;>cases ys<;>simp[wk]at hx hy;rfl
 | cons k ks ih=>
   intro xs ys hx hy h
   cases xs with
   |nil=>simp[wk]at hx
   | cons x xs=>
     cases ys with
     |nil=>simp[wk]at hy
     | cons y ys=>
       simp only[wk,Bool.and_eq_true]at hx hy;simp only[az,Bool.and_eq_true]at h;rw[AO hx.1 hy.1 h.1,ih hx.2 hy.2 h.2]
theorem vS {k:KK}{x:DV}(hx:gK k x=true):dn x x=true:=by
 cases k<;>cases x<;>simp[gK]at hx<;>simp[dn]
theorem cd:∀ {ks:List KK} {xs:List DV},wk ks xs=true→az xs xs=true:=by
 intro ks
 induction ks with
 |nil=>intro xs hx;cases xs<;>simp[wk]at hx;rfl
 | cons k ks ih=>
   intro xs hx
   cases xs with
   |nil=>simp[wk]at hx
   | cons x xs=>
     simp only[wk,Bool.and_eq_true]at hx;simp only[az,vS hx.1,ih hx.2,Bool.and_self]
theorem Ge {G:Hp}{k:KK}{x:DV}(hx:gK k x=true):aG G x (cb x)∧(cb x).oneCell' =true:=by
 cases k<;>cases x<;>simp[gK]at hx
 · exact⟨.int _ _,rfl⟩
 · exact⟨.str _,rfl⟩
 · exact⟨.bool _,rfl⟩
theorem qz:∀ {ks:List KK} {xs:List DV},wk ks xs=true→xs.length=ks.length∧∀ (i:Nat) k x,ks[i]? =some k→xs[i]? =some x→gK k x=true:=by
 intro ks
 induction ks with
 |nil=>intro xs hx;cases xs<;>simp[wk]at hx;simp
 | cons k ks ih=>
   intro xs hx
   cases xs with
   |nil=>simp[wk]at hx
   | cons x xs=>
     simp only[wk,Bool.and_eq_true]at hx;obtain⟨h1,h2⟩:=ih hx.2;refine⟨by simp[h1],fun i k' x' hk hx' => ?_⟩
     cases i with
     |zero=>simp at hk hx';subst hk;subst hx';exact hx.1
     |succ i=>exact h2 i k' x' (by simpa using hk) (by simpa using hx')
theorem tu {G:Hp}{x:DV}{v:Value}{k:KK}(hx:gK k x=true)(hd:aG G x v):v=cb x:=by
 cases k<;>cases x<;>simp[gK]at hx<;>cases hd<;>rfl
theorem x4 {G:Hp}{ks:List KK}{xs:List DV}{vs:List Value}(hx:wk ks xs=true)(hl:vs.length=xs.length)(hd:∀ (i:Nat) x v,xs[i]? =some x→vs[i]? =some v→aG G x v):vs=xs.map cb:=by
 obtain⟨h1,h2⟩:=qz hx;refine List.ext_getElem (by simp[hl]) (fun i hi hi' => ?_);rw[List.getElem_map];have hik:i<ks.length:=by rw[←h1,←hl];exact hi
 have hix:i<xs.length:=by rw[←hl];exact hi
 exact tu (h2 i _ _ (List.getElem?_eq_getElem hik) (List.getElem?_eq_getElem hix)) (hd i _ _ (List.getElem?_eq_getElem hix) (List.getElem?_eq_getElem hi))
def AN (T:ci)(t:TypeId)(k:KK):Bool:=
 match T t,k with
 |some ⟨.int a,_,_,_,_⟩,.int b=>E4 a b
 |some ⟨.string,_,_,_,_⟩,.str=>true
 |some ⟨.bool,_,_,_,_⟩,.bool=>true
 |_,_=>false
def Fn (T:ci):Nat→List Field→List KK→Bool
 |_,[],[]=>true
 |i,f::r,k::ks=>Nat.beq f.offset i&&AN T f.type k&&Fn T (i+1) r ks
 |_,_,_=>false
def Ci (T:ci)(n:Nat)(e:TypeId)(ks:List KK):Bool:=
 match T e with
 |some te=>Nat.beq te.size 1&&Nat.beq ks.length n&&ks.all (AN T e)
 |none=>false
def ot (T:ci)(kt:TypeId)(ag:Bool)(ks:List KK):Bool:=
 match ag,ks with
 |false,[k]=>AN T kt k
 | true,ks=>match T kt with
   |some ⟨.struct fs,_,_,_,ok⟩=>ok&&Fn T 0 fs.toList ks
   |some ⟨.array n e,_,_,_,_⟩=>Ci T n e ks
   |_=>false
 |_,_=>false
section
variable {P:Program} {T:ci} {A:mA} {G:Hp} {β:eP} {s:St} {a:Act} {w:World} {t:Array Value}
theorem Ah {n:Nat}{t:TypeId}{k:KK}{x y:DV}{r r':List SV}(h:AN T t k=true)(hx:gK k x=true)(hy:gK k y=true):sQ T (n+1) t (.d x::r) (.d y::r')=some (dn x y):=by
 unfold AN at h;split at h
 · rename_i q1 q2 q3 q4 q5 q6 ht;cases x<;>simp[gK]at hx
   cases y<;>simp[gK]at hy
   rename_i k1 _ k2 _;have:E4 k1 k2=true:=by rw[←fV hx,←fV hy];exact Ep hx
   simp[sQ,ht,this,dn]
 · rename_i q1 q2 q3 q4 ht;cases x<;>simp[gK]at hx
   cases y<;>simp[gK]at hy
   simp[sQ,ht,dn]
 · rename_i q1 q2 q3 q4 ht;cases x<;>simp[gK]at hx
   cases y<;>simp[gK]at hy
   simp[sQ,ht,dn]
 · cases h
theorem Fp {n:Nat}:∀ {fs:List Field} {ks:List KK} {i:Nat} {K K':List DV},Fn T i fs ks=true→wk ks (K.drop i)=true→wk ks (K'.drop i)=true→
 Hq (sQ T (n+1)) fs (K.map .d) (K'.map .d)=some (az (K.drop i) (K'.drop i)):=by
 intro fs
 induction fs with
 | nil =>
   intro ks i K K' h h1 h2
   cases ks with
   | nil=>
     cases hk:K.drop i with
     | nil=>cases hk':K'.drop i with
       |nil=>rfl
       |cons y ys=>rw[hk']at h2;simp[wk]at h2
     |cons y ys=>rw[hk]at h1;simp[wk]at h1
   |cons k ks=>simp[Fn]at h
 | cons f fs ih=>
   intro ks i K K' h h1 h2
   cases ks with
   |nil=>simp[Fn]at h
   | cons k ks=>
     simp only[Fn,Bool.and_eq_true]at h;have ho:f.offset=i:=Nat.eq_of_beq_eq_true h.1.1
     cases hk:K.drop i with
     |nil=>rw[hk]at h1;simp[wk]at h1
     | cons x xs=>
       cases hk':K'.drop i with
       |nil=>rw[hk']at h2;simp[wk]at h2
       | cons y ys=>
         rw[hk]at h1;rw[hk']at h2;simp only[wk,Bool.and_eq_true]at h1 h2;have e1:K.drop (i+1)=xs:=by rw[←List.drop_drop,hk];rfl
         have e2:K'.drop (i+1)=ys:=by rw[←List.drop_drop,hk'];rfl
         have:=ih (ks:=ks) (i:=i+1) (K:=K) (K':=K') h.2 (by rw[e1];exact h1.2) (by rw[e2];exact h2.2);rw[e1,e2]at this;simp only[Hq,ho,←List.map_drop,hk,hk',List.map_cons,Ah h.1.2 h1.1 h2.1,this,az]
def pg (key:List DV):List (List DV×Value)→Nat→Option (Nat×Value)
 | [],_=>none
 |p::r,i=>if az key p.1=true then some (i,p.2)else pg key r (i+1)
theorem lA {key:List DV}:∀ {l:List (List DV×Value)} {i:Nat},(pg key l i).map (·.2)=(l.find? fun p=>az key p.1).map (·.2):=by
 intro l
 induction l with
 |nil=>intro i;rfl
 | cons p l ih=>
   intro i;simp only[pg,List.find?_cons]
   cases az key p.1 with
   |true=>rfl
   |false=>simpa using ih
theorem l7 (key:List DV)(ks:List KK)(h:wk ks key=true):p8 G β (key.map .d) (key.map cb):=by
 obtain⟨h1,h2⟩:=qz h;refine⟨by simp,fun i x v hx hv=> ?_⟩;rw[List.getElem?_map]at hx hv
 cases hk:key[i]? with
 |none=>rw[hk]at hx;cases hx
 | some z=>
   rw[hk]at hx hv;cases hx;cases hv;have hi:i<ks.length:=by rw[←h1];exact(List.getElem?_eq_some_iff.1 hk).1
   exact .d _ _ (Ge (h2 i _ z (List.getElem?_eq_getElem hi) hk)).1
theorem i7 (hT:aQ P T){kt:TypeId}{k:KK}(h:AN T kt k=true):∃d,P.underlying kt=some d∧(∀x,gK k x=true→IsKey d (cb x))∧∀x y,gK k x=true→gK k y=true→Instr.sameNow d (cb x) (cb y)=some (dn x y):=by
 unfold AN at h;split at h
 · rename_i ka _ _ _ _ _ kb ht;refine⟨_,(hT.get ht).1,fun x hx=> ?_,fun x y hx hy=> ?_⟩
   · cases x<;>simp[gK]at hx
     rw[←fV hx];exact(fV h).symm
   · cases x<;>simp[gK]at hx
     cases y<;>simp[gK]at hy
     have:=fV hx;have:=fV hy;subst_vars;simp[Instr.sameNow,cb,dn,qn]
 · rename_i ht;refine⟨_,(hT.get ht).1,fun x hx=> ?_,fun x y hx hy=> ?_⟩
   · cases x<;>simp[gK]at hx;trivial
   · cases x<;>simp[gK]at hx
     cases y<;>simp[gK]at hy
     simp[Instr.sameNow,cb,dn,qn]
 · rename_i ht;refine⟨_,(hT.get ht).1,fun x hx=> ?_,fun x y hx hy=> ?_⟩
   · cases x<;>simp[gK]at hx;trivial
   · cases x<;>simp[gK]at hx
     cases y<;>simp[gK]at hy
     simp[Instr.sameNow,cb,dn,qn]
 · cases h
theorem iO {k:KK}{key:List DV}(h:wk [k] key=true):∃x,key= [x]∧gK k x=true:=by
 cases key with
 |nil=>simp[wk]at h
 | cons x xs=>cases xs with
   |nil=>exact⟨x,rfl,by simpa [wk]using h⟩
   |cons y ys=>simp[wk]at h
theorem kZ (hT:aQ P T){t:TypeId}{k:KK}{v:Value}{r:List Value}(h:AN T t k=true):o5 T t (v::r) v:=by
 unfold AN at h;split at h
 · rename_i hti;exact⟨_,hti,.inl ⟨rfl,r,rfl⟩⟩
 · rename_i hti;exact⟨_,hti,.inl ⟨rfl,r,rfl⟩⟩
 · rename_i hti;exact⟨_,hti,.inl ⟨rfl,r,rfl⟩⟩
 · cases h
theorem sS (hT:aQ P T){n:Nat}{e:TypeId}{ks:List KK}(h:Ci T n e ks=true):P.cellsOf e=1∧(∃inf,P.info? e=some inf∧inf.size=1)∧ks.length=n∧∀k ∈ ks,AN T e k=true:=by
 unfold Ci at h;split at h
 · rename_i te hte;rw[Bool.and_eq_true,Bool.and_eq_true,List.all_eq_true]at h;obtain⟨_,inf,hi,hsz,_,_⟩:=hT.get hte;have h1:inf.size=1:=by rw[hsz];exact Nat.eq_of_beq_eq_true h.1.1
   refine⟨?_,⟨inf,hi,h1⟩,Nat.eq_of_beq_eq_true h.1.2,h.2⟩;have q1:=run_sizeOf (default:World) hi;have q2:=aO hi (default:World);have q3:=q1.symm.trans q2;injection q3 with q4 _
   exact q4.trans h1
 · cases h
theorem xg (hT:aQ P T){e:TypeId}{d:Nat}(hd:1≤d):∀ {ks:List KK} {i:Nat} {K K':List DV},(∀k ∈ ks,AN T e k=true)→wk ks (K.drop i)=true→wk ks (K'.drop i)=true→
 (Op.eqItems d e 1 (K.map cb).toArray (K'.map cb).toArray (List.range' i ks.length)).run P w= .ok (az (K.drop i) (K'.drop i)) w:=by
 intro ks
 induction ks with
 | nil=>
   intro i K K' _ h1 h2
   cases hk:K.drop i with
   |cons x xs=>rw[hk]at h1;simp[wk]at h1
   | nil=>cases hk':K'.drop i with
     |nil=>rfl
     |cons y ys=>rw[hk']at h2;simp[wk]at h2
 | cons k ks ih=>
   intro i K K' h h1 h2
   cases hk:K.drop i with
   |nil=>rw[hk]at h1;simp[wk]at h1
   | cons x xs=>
     cases hk':K'.drop i with
     |nil=>rw[hk']at h2;simp[wk]at h2
     | cons y ys=>
       rw[hk]at h1;rw[hk']at h2;simp only[wk,Bool.and_eq_true]at h1 h2;have e1:K.drop (i+1)=xs:=by rw[←List.drop_drop,hk];rfl
       have e2:K'.drop (i+1)=ys:=by rw[←List.drop_drop,hk'];rfl
       have hs:=h k List.mem_cons_self;have p1:(part e (K.map cb).toArray (i*1)).run P w= .ok (cb x) w:=jA hT (by rw[Nat.mul_one,←List.map_drop,hk];exact kZ hT hs);have p2:(part e (K'.map cb).toArray (i*1)).run P w= .ok (cb y) w:=jA hT (by rw[Nat.mul_one,←List.map_drop,hk'];exact kZ hT hs)
       obtain⟨v,u,hv,hu,hr⟩:=o9 (P:=P) (w:=w) (G:=fun _=>none) (β:=fun _=>none) hT 1 d hd e _ _ _ (Ah (n:=0) (r:= []) (r':= []) hs h1.1 h2.1) [cb x] [cb y]
        (by simpa using l7 [x] [k] (by simp[wk,h1.1])) (by simpa using l7 [y] [k] (by simp[wk,h2.1]))
       have ev:v=cb x:=by
        obtain⟨ti,hti,q|q⟩:=hv
        · obtain⟨_,r,hr⟩:=q;cases hr;rfl
        · obtain⟨ti',ht',q'⟩:=kZ (v:=cb x) (r:= []) hT hs;rcases q' with⟨qa,_⟩|⟨_,qb⟩
          · rw[hti]at ht';cases ht';rw[q.1]at qa;cases qa
          · exact absurd qb (by cases x<;>simp[cb])
       have eu:u=cb y:=by
        obtain⟨ti,hti,q|q⟩:=hu
        · obtain⟨_,r,hr⟩:=q;cases hr;rfl
        · obtain⟨ti',ht',q'⟩:=kZ (v:=cb y) (r:= []) hT hs;rcases q' with⟨qa,_⟩|⟨_,qb⟩
          · rw[hti]at ht';cases ht';rw[q.1]at qa;cases qa
          · exact absurd qb (by cases y<;>simp[cb])
       subst ev;subst eu;rw[List.length_cons,List.range'_succ];simp only[Op.eqItems,Sem.run_bind,p1,p2,hr,Result.andThen_ok,az];have hrec:=ih (i:=i+1) (K:=K) (K':=K') (fun k hk=>h k (List.mem_cons_of_mem _ hk)) (by rw[e1];exact h1.2) (by rw[e2];exact h2.2);rw[e1,e2]at hrec
       cases dn x y with
       |false=>simp
       |true=>simpa using hrec
theorem pz {kt:TypeId}{desc:TypeDesc}(hu:P.underlying kt=some desc){ks:List KK}{key:List DV}(hsn:∀v,Instr.sameNow desc (bZ true key) v=none)
 (heq:∀key',wk ks key' =true→(Op.equal kt (bZ true key) (bZ true key')).run P w= .ok (az key key') w)(l:List (List DV×Value))(es:List MapEntry)
 (hl:es.map (fun e=>(e.key,e.val))=l.map (fun p=>(bZ true p.1,p.2)))(hw:∀p ∈ l,wk ks p.1=true):(Instr.findKey kt (bZ true key) es).run P w= .ok (pg key l 0) w:=by
 have ask:∀ (l:List (List DV×Value)) (es:List MapEntry) (i:Nat),es.map (fun e=>(e.key,e.val))=l.map (fun p=>(bZ true p.1,p.2))→(∀p ∈ l,wk ks p.1=true)→(Instr.findAsking kt (bZ true key) es i).run P w= .ok (pg key l i) w:=by
  intro l
  induction l with
  | nil=>intro es i h _;cases es with
    |nil=>rfl
    |cons e es=>simp at h
  | cons p l ih=>
    intro es i h hw
    cases es with
    |nil=>simp at h
    | cons e es=>
      simp only[List.map_cons,List.cons.injEq,Prod.mk.injEq]at h;obtain⟨⟨h1,h2⟩,h3⟩:=h;unfold Instr.findAsking;rw[Sem.run_bind,h1,heq _ (hw p List.mem_cons_self)];simp only[Result.andThen_ok,pg]
      cases az key p.1 with
      |true=>simp[h2]
      |false=>simpa using ih es (i+1) h3 (fun q hq=>hw q (List.mem_cons_of_mem _ hq))
 cases es with
 | nil=>
   cases l with
   |nil=>exact run_findKey hu rfl
   |cons p l=>simp at hl
 | cons e es=>
   unfold Instr.findKey;rw[Sem.run_bind,run_underlying hu];simp only[Result.andThen_ok];have:Instr.findNow desc (bZ true key) (e::es) 0=none:=by simp[Instr.findNow,hsn]
   rw[this];exact ask l (e::es) 0 hl hw
theorem f9 (hT:aQ P T){kt:TypeId}{ag:Bool}{ks:List KK}(hk:ot T kt ag ks=true){key:List DV}(hkey:wk ks key=true)(l:List (List DV×Value))(es:List MapEntry)
 (hl:es.map (fun e=>(e.key,e.val))=l.map (fun p=>(bZ ag p.1,p.2)))(hw:∀p ∈ l,wk ks p.1=true):(Instr.findKey kt (bZ ag key) es).run P w= .ok (pg key l 0) w:=by
 unfold ot at hk;split at hk
 · rename_i k;obtain⟨d,hd,_,hsame⟩:=i7 hT hk;refine run_findKey hd ?_;obtain⟨x,rfl,hx⟩:=iO hkey
   have:∀ (l:List (List DV×Value)) (es:List MapEntry) (i:Nat),es.map (fun e=>(e.key,e.val))=l.map (fun p=>(bZ false p.1,p.2))→(∀p ∈ l,wk [k] p.1=true)→Instr.findNow d (bZ false [x]) es i=some (pg [x] l i):=by
    intro l
    induction l with
    | nil=>intro es i h _;cases es with
      |nil=>rfl
      |cons e es=>simp at h
    | cons p l ih=>
      intro es i h hw
      cases es with
      |nil=>simp at h
      | cons e es=>
        simp only[List.map_cons,List.cons.injEq,Prod.mk.injEq]at h;obtain⟨⟨h1,h2⟩,h3⟩:=h;obtain⟨y,hy1,hy2⟩:=iO (hw p List.mem_cons_self);have hs:Instr.sameNow d (bZ false [x]) e.key=some (dn x y):=by rw[h1,hy1];exact hsame x y hx hy2
        simp only[Instr.findNow,hs,pg,hy1,az,Bool.and_true]
        cases dn x y with
        |true=>simp[h2]
        |false=>simpa using ih es (i+1) h3 (fun q hq=>hw q (List.mem_cons_of_mem _ hq))
   exact this l es 0 hl hw
 · split at hk
   · rename_i fs sz by' z ok ht;rw[Bool.and_eq_true]at hk;obtain⟨hu,_⟩:=hT.get ht;simp only at hu;have hfit:=hT.eqok ht hk.1;unfold kY at hfit;rw[Bool.and_eq_true,Bool.and_eq_true]at hfit;have hfo:P.fieldsOf kt=fs:=by unfold Program.fieldsOf;rw[hu]
     rw[hfo]at hfit;have hst:P.stoodInHeld kt=false:=by simpa using hfit.1.1
     have heq:∀key',wk ks key' =true→(Op.equal kt (bZ true key) (bZ true key')).run P w= .ok (az key key') w:=fun key' hk' =>by
      unfold Op.equal bZ;rw[show Op.maxDepth=9999+1 from rfl,run_equalIn_struct w 9999 kt _ _ (by rw[hfo];exact hu) hst,hfo];have:=Fp (n:=19) (K:=key) (K':=key') hk.2 (by simpa using hkey) (by simpa using hk');simp only[List.drop_zero]at this;exact oZ (G:=fun _=>none) (β:=fun _=>none) hT (o9 hT 20 9999 (by omega)) fs.toList hfit.2 this (l7 key ks hkey) (l7 key' ks hk')
     exact pz hu (fun v=>by simp[Instr.sameNow]) heq l es hl hw
   · rename_i n e sz by' z ok ht;obtain⟨hu,_⟩:=hT.get ht;simp only at hu;obtain⟨q1,⟨inf,q2,_⟩,q3,q4⟩:=sS hT hk;refine pz hu (fun v=>by simp[Instr.sameNow]) (fun key' hk' => ?_) l es hl hw;unfold Op.equal bZ;rw[show Op.maxDepth=9999+1 from rfl,run_equalIn_array w 9999 _ _ hu q2,q1,List.range_eq_range',←q3];have:=xg (w:=w) (d:=9999) hT (by omega) (ks:=ks) (i:=0) (K:=key) (K':=key') q4 (by simpa using hkey) (by simpa using hk');simpa using this
   · cases hk
 · cases hk
theorem fc (hT:aQ P T){kt:TypeId}{ag:Bool}{ks:List KK}(hk:ot T kt ag ks=true){key:List DV}(hkey:wk ks key=true)(em:Bool):(Instr.checkKey em 10000 kt (bZ ag key)).run P w= .ok () w:=by
 unfold ot at hk;split at hk
 · rename_i k;obtain⟨d,hd,h1,_⟩:=i7 hT hk;obtain⟨x,rfl,hx⟩:=iO hkey;exact run_checkKey hd (h1 x hx) em 9999
 · split at hk
   · rename_i fs sz by' z ok ht;rw[Bool.and_eq_true]at hk;obtain⟨hu,_⟩:=hT.get ht;simp only at hu
     have key' :∀ (fs:List Field) (ks:List KK) (i:Nat),Fn T i fs ks=true→wk ks (key.drop i)=true→
      (forIn fs PUnit.unit (fun f _=>if f.name≠ "_" then(do let c←part f.type (key.map cb).toArray f.offset;Instr.checkKey em 9999 f.type c;pure (ForInStep.yield PUnit.unit))else pure (ForInStep.yield PUnit.unit)):Sem PUnit).run P w= .ok PUnit.unit w:=by
      intro fs
      induction fs with
      |nil=>intro ks i _ _;rfl
      | cons f fs ih=>
        intro ks i h h1
        cases ks with
        |nil=>simp[Fn]at h
        | cons k ks=>
          simp only[Fn,Bool.and_eq_true]at h;have ho:f.offset=i:=Nat.eq_of_beq_eq_true h.1.1
          cases hkd:key.drop i with
          |nil=>rw[hkd]at h1;simp[wk]at h1
          | cons x xs=>
            rw[hkd]at h1;simp only[wk,Bool.and_eq_true]at h1;have e1:key.drop (i+1)=xs:=by rw[←List.drop_drop,hkd];rfl
            obtain⟨d,hd,hk1,hsm⟩:=i7 hT h.1.2
            have hpart:(part f.type (key.map cb).toArray f.offset).run P w= .ok (cb x) w:=by
             refine jA hT ?_;have hs:=h.1.2;clear hk1 hd hsm;unfold AN at hs;split at hs
             · rename_i hti;exact⟨_,hti,.inl ⟨rfl,xs.map cb,by rw[ho,←List.map_drop,hkd];rfl⟩⟩
             · rename_i hti;exact⟨_,hti,.inl ⟨rfl,xs.map cb,by rw[ho,←List.map_drop,hkd];rfl⟩⟩
             · rename_i hti;exact⟨_,hti,.inl ⟨rfl,xs.map cb,by rw[ho,←List.map_drop,hkd];rfl⟩⟩
             · cases hs
            have hc:=run_checkKey (P:=P) (w:=w) hd (hk1 x h1.1) em 9998;have hr:=ih ks (i+1) h.2 (by rw[e1];exact h1.2);rw[List.forIn_cons]
            by_cases hn:f.name= "_"
            · simp only[hn,ne_eq,not_true_eq_false,if_false,Sem.run_bind,Sem.run_pure,Result.andThen_ok];exact hr
            · simp only[ne_eq,hn,not_false_eq_true,if_true,Sem.run_bind,hpart,hc,Sem.run_pure,Result.andThen_ok];exact hr
     unfold Instr.checkKey;rw[Sem.run_bind,run_underlying hu];simp only[Result.andThen_ok,bZ];rw[←Array.forIn_toList];have:=key' fs.toList ks 0 hk.2 (by simpa using hkey);rw[Sem.run_bind,this];rfl
   · rename_i n e sz by' z ok ht;obtain⟨hu,_⟩:=hT.get ht;simp only at hu;obtain⟨q1,⟨inf,q2,q2'⟩,q3,q4⟩:=sS hT hk
     have each:∀ (ks:List KK) (i:Nat),(∀k ∈ ks,AN T e k=true)→wk ks (key.drop i)=true→
      (forIn (List.range' i ks.length) PUnit.unit (fun j _=>do Instr.checkKey em 9999 e (←part e (key.map cb).toArray (j*(←sizeOf e)));pure (ForInStep.yield PUnit.unit)):Sem PUnit).run P w= .ok PUnit.unit w:=by
      intro ks
      induction ks with
      |nil=>intro i _ _;rfl
      | cons k ks ih=>
        intro i h h1
        cases hkd:key.drop i with
        |nil=>rw[hkd]at h1;simp[wk]at h1
        | cons x xs=>
          rw[hkd]at h1;simp only[wk,Bool.and_eq_true]at h1;have e1:key.drop (i+1)=xs:=by rw[←List.drop_drop,hkd];rfl
          have hs:=h k List.mem_cons_self;obtain⟨dd,hd,hk1,_⟩:=i7 hT hs;have hpart:(part e (key.map cb).toArray (i*1)).run P w= .ok (cb x) w:=jA hT (by rw[Nat.mul_one,←List.map_drop,hkd];exact kZ hT hs);have hc:=run_checkKey (P:=P) (w:=w) hd (hk1 x h1.1) em 9998;have hr:=ih (i+1) (fun k hk=>h k (List.mem_cons_of_mem _ hk)) (by rw[e1];exact h1.2);rw[List.length_cons,List.range'_succ,List.forIn_cons];simp only[Sem.run_bind,aO q2,q2',hpart,hc,Sem.run_pure,Result.andThen_ok];exact hr
     unfold Instr.checkKey;rw[Sem.run_bind,run_underlying hu];simp only[Result.andThen_ok,bZ];simp only[Std.Legacy.Range.forIn_eq_forIn_range',Std.Legacy.Range.size,Nat.sub_zero,Nat.add_one_sub_one,Nat.div_one];have:=each ks 0 q4 (by simpa using hkey);rw[q3]at this;rw[Sem.run_bind,this];rfl
   · cases hk
 · cases hk
def si (x:SV):Option (List DV):=
 match flat x with
 |some l=>HC l
 |none=>none
def lq (va:Bool)(row:List DV)(k:SV→Prop):Prop:=
 match va,row with
 |true,row=>k (.agg (row.map .d))
 |false,x::_=>k (.d x)
 |false,[]=>False
theorem jM {va:Bool}{row:List DV}{v:Value}(h:iz G va row v){k:SV→Prop}(hk:lq va row k):∃x,ak G β x v∧k x:=by
 cases va with
 | true=>
   obtain⟨vs,rfl,h1,h2⟩:=h;refine⟨_,.agg (row.map .d) vs (by simpa using h1) (fun i x u hx hu=> ?_),hk⟩;rw[List.getElem?_map]at hx
   cases hr:row[i]? with
   |none=>rw[hr]at hx;cases hx
   |some z=>rw[hr]at hx;cases hx;exact .d _ _ (h2 i z u hr hu)
 | false=>
   obtain⟨x,rfl,h2⟩:=h;exact⟨_,.d _ _ h2,hk⟩
def iw:SV→Bool
 | .agg _=>true
 |_=>false
theorem rq {x:SV}{key:List DV}{ks:List KK}{v:Value}(hd:ak G β x v)(hr:si x=some key)(hkey:wk ks key=true):
 v=bZ (iw x) key:=by
 unfold si at hr;split at hr
 · rename_i l hf;have hl:=iY l key hr;unfold flat at hf;split at hf
   · rename_i l'
     cases hc:l'.all (·.cellish)with
     |false=>rw[hc]at hf;cases hf
     | true=>
       rw[hc]at hf;cases hf
       cases hd with|agg _ vs hlen hden=>
       subst hl
       have:=x4 (G:=G) hkey (vs:=vs) (by simpa using hlen) (fun i x v hx hv=>by
        have:=hden i (.d x) v (by rw[List.getElem?_map,hx];rfl) hv
        cases this with|d _ _ h=>exact h)
       rw[this];rfl
   · rename_i hna
     cases hc:x.cellish with
     |false=>rw[hc]at hf;cases hf
     | true=>
       rw[hc]at hf;cases hf
       cases key with
       |nil=>simp at hl
       | cons z zs=>
         cases zs with
         |cons y ys=>simp at hl
         | nil=>
           simp at hl;subst hl
           cases hd with|d _ _ h=>
           obtain⟨h1,h2⟩:=qz hkey;have hk0:ks[0]? =some (ks[0]'(by rw[←h1];simp)):=List.getElem?_eq_getElem _;exact tu (h2 0 _ z hk0 rfl) h
 · cases hr
def pb (va:Bool):Option Value→Bool
 |some (.agg _)=>va
 |some v=> !va&&v.oneCell'
 |none=>false
def nA (T:ci)(s:St)(ty:TypeId)(m:SV)(F:TI→Nat→Bool→Bool→List KK→List DV→(List DV→Bool)→(List DV→List DV)→Prop):Prop:=
 match T ty with
 | some ⟨.map kt vt,_,_,_,_⟩=>match T vt,m with
   | some te,.mp d=>match s.res d with
     |some (.map ag va ks zr has val)=>br (ot T kt ag ks&&((va==ni te.desc)&&pb va te.zero)) (F te d ag va ks zr has val) False
     |_=>False
   |_,_=>False
 |_=>False
def qD (T:ci)(s:St)(ty:TypeId)(m:SV)(F:TI→Bool→Bool→List KK→List DV→(List DV→Bool)→(List DV→List DV)→Prop):Prop:=
 match T ty with
 | some ⟨.map kt vt,_,_,_,_⟩=>match T vt,m with
   | some te,.mp d=>match s.res d with
     |some (.map ag va ks zr has val)=>br (ot T kt ag ks&&((va==ni te.desc)&&pb va te.zero)) (F te ag va ks zr has val) False
     |some (.mapB ag va ks zr has val _ _)=>br (ot T kt ag ks&&((va==ni te.desc)&&pb va te.zero)) (F te ag va ks zr has val) False
     |_=>False
   |_,_=>False
 |_=>False
def fR (T:ci)(s:St)(ty:TypeId)(m x:SV)(ok:Bool)(k:SV→Prop):Prop:=
 qD T s ty m fun te ag va ks zr has val=>match si x with
  | some key=>br (wk ks key&&(iw x==ag)) (bt te.zero=some zr∧lq va (val key) fun v=>match ok with
    |true=>k (.tup [v,.d (.bool (has key))])
    |false=>k v) False
  |none=>False
def Ex (va:Bool)(v:Value):Prop:=
 match va with
 |true=>∃cs,v= .agg cs
 |false=>v.oneCell' =true
theorem qB {z:Option Value}{zr:List DV}{va:Bool}(h:bt z=some zr)(hv:∀v,z=some v→Ex va v):∃v,z=some v∧iz G va zr v:=by
 unfold bt at h;split at h
 · rename_i l hl;obtain⟨v,rfl,z1,z2,z3,_⟩:=fC (G:=G) (β:=fun _=>none) hl;have hdl:=iY l zr h;refine⟨v,rfl,?_⟩;have hv:=hv v rfl
   cases va with
   | true=>
     obtain⟨cs,rfl⟩:=hv;refine⟨cs.toList,by simp,?_,fun i x u hx hu=> ?_⟩
     · subst hdl;simpa [Value.cells]using z1
     · have:=z2 i (.d x) u (by subst hdl;rw[List.getElem?_map,hx];rfl) (by simpa [Value.cells]using hu)
       cases this with|d _ _ h=>exact h
   | false=>
     have hc:v.cells=#[v]:=by cases v<;>first|rfl|cases hv
     rw[hc]at z1 z2;subst hdl
     cases zr with
     |nil=>simp at z1
     | cons x xs=>
       cases xs with
       |cons y ys=>simp at z1
       | nil=>
         refine⟨x,rfl,?_⟩;have:=z2 0 (.d x) v rfl rfl;cases this with|d _ _ h=>exact h
 · cases h
theorem mT {va:Bool}{z:Option Value}(h:pb va z=true):∀v,z=some v→Ex va v:=by
 intro v hv;subst hv
 cases va with
 |true=>cases v<;>simp[pb]at h;exact⟨_,rfl⟩
 |false=>cases v<;>first|rfl|simp[pb,Value.oneCell']at h
theorem uh (hT:aQ P T)(h:MG A G β s t w){ty:TypeId}{X I:SV}{m i:Value}{ok:Bool}(hx:ak G β X m)(hi:ak G β I i){k:SV→Prop}(hk:fR T s ty X I ok k):
 dY P G β w (Instr.lookup ty m i ok) k:=by
 unfold fR qD at hk;split at hk
 · rename_i kt vt sz by' z zq hty;have hu:=(hT.get hty).1;simp only at hu;split at hk
   · rename_i te d hte;obtain⟨_,inf,hinf,_,_,hz⟩:=hT.get hte;split at hk
     · rename_i ag va ks zr has val hres;obtain⟨hq,hk⟩:=ax hk;rw[Bool.and_eq_true,Bool.and_eq_true]at hq;obtain⟨r,es,clock,l,hb,hh,hl,hw,hI,hf⟩:=h.rs _ _ hres
       cases hx with|mp _ _ hm _=>
       rw[hb]at hm;cases hm;split at hk
       · rename_i key hrow;obtain⟨hq2,hzr,hk⟩:=ax hk;rw[Bool.and_eq_true]at hq2;have hkv:=rq hi hrow hq2.1;have hag:iw I=ag:=by simpa using hq2.2
         rw[hag]at hkv;subst hkv;have hfk:=f9 (w:=w) hT hq.1 hq2.1 l es.toList hl hw;have hck:=fc (w:=w) hT hq.1 hq2.1 es.isEmpty;have hfd:=hf key hq2.1;have hrel:=lA (key:=key) (l:=l) (i:=0);have hget:(getObj r).run P w= .ok (.map es clock) w:=by simp[getObj,Sem.run,hh]
         have key2:∃v b,iz G va (val key) v∧has key=b∧(Instr.lookup ty (.map (some r)) (bZ ag key) ok).run P w= .ok (if ok then Value.tuple #[v,.bool b]else v) w:=by
          cases hfn:pg key l 0 with
          | none=>
            rw[hfn]at hrel hfk
            cases hfi:l.find? (fun p=>az key p.1)with
            |some p=>rw[hfi]at hrel;cases hrel
            | none=>
              rw[hfi]at hfd;obtain⟨zv,hzv,hzd⟩:=qB (G:=G) hzr (mT hq.2.2);refine⟨zv,false,by rw[hfd.2];exact hzd,hfd.1,?_⟩
              simp[Instr.lookup,run_underlying hu,hget,hck,hfk,bW hinf (hz.trans hzv)]
          | some q=>
            obtain⟨j,v⟩:=q;rw[hfn]at hrel hfk
            cases hfi:l.find? (fun p=>az key p.1)with
            |none=>rw[hfi]at hrel;cases hrel
            | some p=>
              rw[hfi]at hrel hfd;simp only[Option.map_some,Option.some.injEq]at hrel;refine⟨v,true,by rw[hrel];exact hfd.2,hfd.1,?_⟩;simp[Instr.lookup,run_underlying hu,hget,hck,hfk]
         obtain⟨v,b,hv1,hv2,hv3⟩:=key2;obtain⟨x,hx1,hx2⟩:=jM (β:=β) hv1 hk;have hrun:=hv3
         cases ok with
         |false=>exact⟨v,x,by simpa using hrun,hx1,hx2⟩
         | true=>
           refine⟨.tuple #[v,.bool b],_,by simpa using hrun,?_,hx2⟩;refine .tup [x,.d (.bool (has key))] [v,.bool b] rfl (fun i y u hy hu=> ?_)
           match i with
           |0=>simp at hy hu;subst hy;subst hu;exact hx1
           |1=>simp at hy hu;subst hy;subst hu;rw[hv2];exact .d _ _ (.bool _)
           |i+2=>simp at hy
       · exact hk.elim
     · rename_i ag va ks zr has val clock kb hres;obtain⟨hq,hk⟩:=ax hk;rw[Bool.and_eq_true,Bool.and_eq_true]at hq;obtain⟨r,es,l,hb,hh,hl,hw,hI,_,hf⟩:=h.rs _ _ hres
       cases hx with|mp _ _ hm _=>
       rw[hb]at hm;cases hm;split at hk
       · rename_i key hrow;obtain⟨hq2,hzr,hk⟩:=ax hk;rw[Bool.and_eq_true]at hq2;have hkv:=rq hi hrow hq2.1;have hag:iw I=ag:=by simpa using hq2.2
         rw[hag]at hkv;subst hkv;have hfk:=f9 (w:=w) hT hq.1 hq2.1 l es.toList hl hw;have hck:=fc (w:=w) hT hq.1 hq2.1 es.isEmpty;have hfd:=hf key hq2.1;have hrel:=lA (key:=key) (l:=l) (i:=0);have hget:(getObj r).run P w= .ok (.map es clock) w:=by simp[getObj,Sem.run,hh]
         have key2:∃v b,iz G va (val key) v∧has key=b∧(Instr.lookup ty (.map (some r)) (bZ ag key) ok).run P w= .ok (if ok then Value.tuple #[v,.bool b]else v) w:=by
          cases hfn:pg key l 0 with
          | none=>
            rw[hfn]at hrel hfk
            cases hfi:l.find? (fun p=>az key p.1)with
            |some p=>rw[hfi]at hrel;cases hrel
            | none=>
              rw[hfi]at hfd;obtain⟨zv,hzv,hzd⟩:=qB (G:=G) hzr (mT hq.2.2);refine⟨zv,false,by rw[hfd.2];exact hzd,hfd.1,?_⟩
              simp[Instr.lookup,run_underlying hu,hget,hck,hfk,bW hinf (hz.trans hzv)]
          | some q=>
            obtain⟨j,v⟩:=q;rw[hfn]at hrel hfk
            cases hfi:l.find? (fun p=>az key p.1)with
            |none=>rw[hfi]at hrel;cases hrel
            | some p=>
              rw[hfi]at hrel hfd;simp only[Option.map_some,Option.some.injEq]at hrel;refine⟨v,true,by rw[hrel];exact hfd.2,hfd.1,?_⟩;simp[Instr.lookup,run_underlying hu,hget,hck,hfk]
         obtain⟨v,b,hv1,hv2,hv3⟩:=key2;obtain⟨x,hx1,hx2⟩:=jM (β:=β) hv1 hk;have hrun:=hv3
         cases ok with
         |false=>exact⟨v,x,by simpa using hrun,hx1,hx2⟩
         | true=>
           refine⟨.tuple #[v,.bool b],_,by simpa using hrun,?_,hx2⟩;refine .tup [x,.d (.bool (has key))] [v,.bool b] rfl (fun i y u hy hu=> ?_)
           match i with
           |0=>simp at hy hu;subst hy;subst hu;exact hx1
           |1=>simp at hy hu;subst hy;subst hu;rw[hv2];exact .d _ _ (.bool _)
           |i+2=>simp at hy
       · exact hk.elim
     · exact hk.elim
   · exact hk.elim
 · exact hk.elim
theorem oo {ky:List DV}:∀ {l:List (List DV×Value)} {o i:Nat} {u:Value},pg ky l o=some (i,u)→o≤i∧∃p,l[i - o]? =some p∧az ky p.1=true:=by
 intro l
 induction l with
 |nil=>intro o i u h;cases h
 | cons p l ih=>
   intro o i u h;simp only[pg]at h;split at h
   · rename_i hq;cases h;exact⟨Nat.le_refl _,p,by simp,hq⟩
   · obtain⟨h1,q,h2,h3⟩:=ih h;refine⟨by omega,q,?_,h3⟩;rw[show i - o=(i - (o+1))+1 by omega];simpa using h2
theorem xM {ks:List KK}{ky:List DV}{v:Value}(hky:wk ks ky=true):∀ {l:List (List DV×Value)} {o i:Nat} {u:Value},(∀p ∈ l,wk ks p.1=true)→pg ky l o=some (i,u)→
 ∀q,wk ks q=true→(l.modify (i - o) fun _=>(ky,v)).find? (fun p=>az q p.1)=if az q ky=true then some (ky,v)else l.find? (fun p=>az q p.1):=by
 intro l
 induction l with
 |nil=>intro o i u _ h;cases h
 | cons p l ih=>
   intro o i u hw h q hq;have hp:=hw p List.mem_cons_self;simp only[pg]at h;split at h
   · rename_i hk;cases h;have:=ck hky hp hk;simp only[Nat.sub_self,List.modify_zero_cons,List.find?_cons,←this];cases az q ky<;>simp
   · rename_i hk;have h1:=(oo h).1;rw[show i - o=(i - (o+1))+1 by omega,List.modify_succ_cons,List.find?_cons,List.find?_cons,ih (fun p hp=>hw p (List.mem_cons_of_mem _ hp)) h q hq]
     cases hqp:az q p.1 with
     |false=>rfl
     | true=>
       simp only;rw[if_neg];intro hqk;have e1:=ck hq hp hqp;have e2:=ck hq hky hqk;exact hk (by rw[←e2,e1];exact cd hp)
theorem xP {ks:List KK}{ky:List DV}{v:Value}(hky:wk ks ky=true):∀ {l:List (List DV×Value)} {o:Nat},(∀p ∈ l,wk ks p.1=true)→pg ky l o=none→
 ∀q,wk ks q=true→(l++ [(ky,v)]).find? (fun p=>az q p.1)=if az q ky=true then some (ky,v)else l.find? (fun p=>az q p.1):=by
 intro l
 induction l with
 |nil=>intro o _ _ q hq;simp only[List.nil_append,List.find?_cons,List.find?_nil];cases az q ky<;>simp
 | cons p l ih=>
   intro o hw h q hq;have hp:=hw p List.mem_cons_self;simp only[pg]at h;split at h
   · cases h
   · rename_i hk;rw[List.cons_append,List.find?_cons,List.find?_cons,ih (fun p hp=>hw p (List.mem_cons_of_mem _ hp)) h q hq]
     cases hqp:az q p.1 with
     |false=>rfl
     | true=>
       simp only;rw[if_neg];intro hqk;have e1:=ck hq hp hqp;have e2:=ck hq hky hqk;exact hk (by rw[←e2,e1];exact cd hp)
theorem mq {k:KK}{x:DV}(n:Nat)(hx:gK k x=true):Instr.sameBits (n+1) (cb x) (cb x)=true:=by
 cases k<;>cases x<;>simp[gK]at hx<;>simp[Instr.sameBits,cb,qn]
theorem nr {ag:Bool}{ks:List KK}{ky:List DV}(hag:ag=false→∃k,ks= [k])(hky:wk ks ky=true):Instr.sameBits 10000 (bZ ag ky) (bZ ag ky)=true:=by
 cases ag with
 | false=>
   obtain⟨k,rfl⟩:=hag rfl;obtain⟨x,rfl,hx⟩:=iO hky
   exact mq 9999 hx
 | true=>
   simp only[bZ];show Instr.sameBits (9999+1) _ _=true;simp only[Instr.sameBits,beq_self_eq_true,Bool.true_and];obtain⟨h1,h2⟩:=qz hky;rw[List.all_eq_true];intro p hp;simp only[List.zip_eq_zipWith,List.zipWith_self]at hp;rw[List.mem_map]at hp;obtain⟨x,hx,rfl⟩:=hp;simp only[List.mem_map]at hx;obtain⟨z,hz,rfl⟩:=hx;obtain⟨i,hi,rfl⟩:=List.getElem_of_mem hz;have hik:i<ks.length:=by rw[←h1];exact hi
   exact mq 9998 (h2 i _ _ (List.getElem?_eq_getElem hik) (List.getElem?_eq_getElem hi))
theorem DZ {x:SV}{row:List DV}{v:Value}(hd:ak G β x v)(hr:si x=some row):iz G (iw x) row v:=by
 unfold si at hr;split at hr
 · rename_i l hf;have hl:=iY l row hr;unfold flat at hf;split at hf
   · rename_i l'
     cases hc:l'.all (·.cellish)with
     |false=>rw[hc]at hf;cases hf
     | true=>
       rw[hc]at hf;cases hf
       cases hd with|agg _ vs hlen hden=>
       refine⟨vs,rfl,by subst hl;simpa using hlen,fun i x u hx hu=> ?_⟩;subst hl;have:=hden i (.d x) u (by rw[List.getElem?_map,hx];rfl) hu;cases this with|d _ _ h=>exact h
   · rename_i hna
     cases hc:x.cellish with
     |false=>rw[hc]at hf;cases hf
     | true=>
       rw[hc]at hf;cases hf
       cases row with
       |nil=>simp at hl
       | cons z zs=>
         cases zs with
         |cons y ys=>simp at hl
         | nil=>
           simp at hl;subst hl;cases hd with|d _ _ h=>exact⟨z,rfl,h⟩
 · cases hr
theorem ws {ky:List DV}:∀ {l:List (List DV×Value)} {o:Nat},pg ky l o=none→∀p ∈ l,az ky p.1=false:=by
 intro l
 induction l with
 |nil=>intro o _ p hp;cases hp
 | cons q l ih=>
   intro o h p hp;simp only[pg]at h;split at h
   · cases h
   · rename_i hq;rcases List.mem_cons.1 hp with e|e
     · subst e;simpa using hq
     · exact ih h p e
theorem mi.snoc {bs:List Nat}{clock:Nat}{l:List (List DV×Value)}{ks:List KK}{ky:List DV}(h:mi bs clock (l.map (·.1)))(hw:∀p ∈ l,wk ks p.1=true)(hk:wk ks ky=true)(hf:pg ky l 0=none):
 mi (bs++ [clock]) (clock+1) (l.map (·.1)++ [ky]):=by
 obtain⟨h1,h2,h3⟩:=h;refine⟨List.pairwise_append.2 ⟨h1,by simp,fun a ha b hb=>by simp at hb;subst hb;exact h2 a ha⟩,fun b hb=> ?_,List.pairwise_append.2 ⟨h3,by simp,fun a ha b hb=> ?_⟩⟩
 · rcases List.mem_append.1 hb with q|q
   · have:=h2 b q;omega
   · simp at q;omega
 · simp at hb;subst hb;obtain⟨p,hp,rfl⟩:=List.mem_map.1 ha;rw[←Bool.not_eq_true];intro q;have e:=ck (hw p hp) hk q;have:=ws hf p hp;rw[e,cd hk]at this;cases this
theorem lk {es:Array MapEntry}{i:Nat}{f:MapEntry→MapEntry}(h:∀e,(f e).born=e.born):(es.modify i f).toList.map (·.born)=es.toList.map (·.born):=by
 apply List.ext_getElem?
 intro j;rw[List.getElem?_map,List.getElem?_map,Array.toList_modify,List.getElem?_modify]
 cases es.toList[j]? with
 |none=>simp
 | some e=>
   simp only[Option.map_some];split
   · simp[h]
   · rfl
theorem rA {l:List (List DV×Value)}{i:Nat}{p:List DV×Value}{ky:List DV}{v:Value}(hp:l[i]? =some p)(hk:p.1=ky):(l.modify i fun _=>(ky,v)).map (·.1)=l.map (·.1):=by
 apply List.ext_getElem?
 intro j;rw[List.getElem?_map,List.getElem?_map,List.getElem?_modify]
 by_cases hij:i=j
 · subst hij;rw[hp];simp[hk]
 · simp[hij]
def iN (T:ci)(dst:Option Nat)(s:St)(ty:TypeId)(m key x:SV)(k:cM→Prop):Prop:=
 nA T s ty m fun _ d ag va ks zr has val=>match si key,si x with
  |some ky,some row=>br (wk ks ky&&((iw key==ag)&&(iw x==va))) (k ⟨dst,.undef,[(d,some (.map ag va ks zr (fun q=>az q ky||has q) (fun q=>bif az q ky then row else val q)))],[]⟩) False
  |_,_=>False
theorem nT {kt:TypeId}{ag:Bool}{ks:List KK}(h:ot T kt ag ks=true)(hag:ag=false):∃k,ks= [k]:=by
 subst hag;unfold ot at h;split at h
 · exact⟨_,rfl⟩
 · rename_i e;cases e
 · cases h
theorem nY (hT:aQ P T){o:Oper}{ty:TypeId}{m key x:Operand}(ho:o.op= .mapUpdate ty m key x∨o.op= .insert ty m key x)(h0:a.defers= [])(h:MG A G β s a.tmps w)(hN:∀d,o.dst=some d→d<A.N)
 {k:cM→Prop}(hk:iN T o.dst s ty (s.ev m) (s.ev key) (s.ev x) k){Q:Exit→Act→World→Prop}:o.wp P a w (fun a' w' =>∃u,k u∧ib A (s.app u) a' w') Q:=by
 unfold iN nA at hk;split at hk
 · rename_i kt vt sz by' z zq hty;have hu:=(hT.get hty).1;simp only at hu;split at hk
   · rename_i te d hte hme;split at hk
     · rename_i ag va ks zr has val hres;obtain⟨hq,hk⟩:=ax hk;rw[Bool.and_eq_true,Bool.and_eq_true]at hq;obtain⟨r,es,clock,l,hb,hh,hl,hw,hI,hf⟩:=h.rs _ _ hres;have hx:=h.ev m;rw[hme]at hx;generalize hmv:a.eval m=mv at hx
       cases hx with|mp _ _ hm _=>
       rw[hb]at hm;cases hm;split at hk
       · rename_i ky row hky hrow;obtain⟨hq2,hk⟩:=ax hk;rw[Bool.and_eq_true,Bool.and_eq_true]at hq2;have hkv:=rq (h.ev key) hky hq2.1;rw[show iw (s.ev key)=ag by simpa using hq2.2.1]at hkv;have hrv:=DZ (h.ev x) hrow;rw[show iw (s.ev x)=va by simpa using hq2.2.2]at hrv;have hget:(getObj r).run P w= .ok (.map es clock) w:=by simp[getObj,Sem.run,hh]
         have hset:∀ob,(setObj r ob).run P w= .ok () {w with heap:=w.heap.setIfInBounds r ob}:=fun ob=>by simp[setObj,Sem.run,hh]
         have hck:=fc (w:=w) hT hq.1 hq2.1 false;have hfk:=f9 (w:=w) hT hq.1 hq2.1 l es.toList hl hw;have hlt:r<w.heap.size:=(Array.getElem?_eq_some_iff.1 hh).1
         have key2:∃ (es':Array MapEntry) (clock':Nat) (l':List (List DV×Value)),(Instr.mapUpdate ty (.map (some r)) (bZ ag ky) (a.eval x)).run P w= .ok () {w with heap:=w.heap.setIfInBounds r (.map es' clock')}∧
          es'.toList.map (fun e=>(e.key,e.val))=l'.map (fun p=>(bZ ag p.1,p.2))∧(∀p ∈ l',wk ks p.1=true)∧mi (es'.toList.map (·.born)) clock' (l'.map (·.1))∧
          ∀q,wk ks q=true→l'.find? (fun p=>az q p.1)=if az q ky=true then some (ky,a.eval x)else l.find? (fun p=>az q p.1):=by
          cases hfn:pg ky l 0 with
          | none=>
            rw[hfn]at hfk;refine⟨es.push {key:=bZ ag ky,val:=a.eval x,born:=clock},clock+1,l++ [(ky,a.eval x)],?_,?_,?_,?_,xP hq2.1 hw hfn⟩
            · simp[Instr.mapUpdate,run_underlying hu,hget,hck,hfk,hset]
            · simp[hl]
            · intro p hp;rcases List.mem_append.1 hp with q|q
              · exact hw p q
              · simp at q;subst q;exact hq2.1
            · have:=hI.snoc hw hq2.1 hfn
              simpa using this
          | some q=>
            obtain⟨i,u⟩:=q;rw[hfn]at hfk;obtain⟨_,p,hp1,hp2⟩:=oo hfn;rw[Nat.sub_zero]at hp1;have hpm:p ∈ l:=List.mem_of_getElem? hp1;have hpk:p.1=ky:=(ck hq2.1 (hw p hpm) hp2).symm
            have hei:∃e,es[i]? =some e∧e.key=bZ ag ky:=by
             have:(es.toList.map (fun e=>(e.key,e.val)))[i]? =some (bZ ag p.1,p.2):=by rw[hl,List.getElem?_map,hp1];rfl
             rw[List.getElem?_map,Array.getElem?_toList]at this
             cases he:es[i]? with
             |none=>rw[he]at this;cases this
             |some e=>rw[he]at this;simp at this;exact⟨e,rfl,by rw[this.1,hpk]⟩
            obtain⟨e,he1,he2⟩:=hei;have hsb:=nr (nT hq.1) hq2.1;refine⟨es.modify i fun e=>{e with key:=bZ ag ky,val:=a.eval x},clock,l.modify i fun _=>(ky,a.eval x),?_,?_,?_,?_,?_⟩
            · simp[Instr.mapUpdate,run_underlying hu,hget,hck,hfk,hset,he1,he2,Instr.keyThatStays,hsb]
            · apply List.ext_getElem?
              intro j;have hj:(es.toList.map (fun e=>(e.key,e.val)))[j]? =(l.map (fun p=>(bZ ag p.1,p.2)))[j]? :=by rw[hl]
              rw[List.getElem?_map,List.getElem?_map]at hj;rw[List.getElem?_map,List.getElem?_map,Array.toList_modify,List.getElem?_modify,List.getElem?_modify]
              by_cases hij:i=j
              · subst hij;rw[hp1]at hj ⊢;rw[Array.getElem?_toList,he1];simp
              · simp only[hij,if_false];simpa using hj
            · intro p' hp';obtain⟨j,hj,rfl⟩:=List.getElem_of_mem hp';rw[List.getElem_modify];split
              · exact hq2.1
              · exact hw _ (List.getElem_mem _)
            · have e1:(es.modify i fun e=>{e with key:=bZ ag ky,val:=a.eval x}).toList.map (·.born)=es.toList.map (·.born):=lk (fun _=>rfl);have e2:(l.modify i fun _=>(ky,a.eval x)).map (·.1)=l.map (·.1):=rA hp1 hpk;rw[e1,e2];exact hI
            · have:=xM (v:=a.eval x) hq2.1 hw hfn;rwa [Nat.sub_zero]at this
         obtain⟨es',clock',l',hrun,hl',hw',hI',hf'⟩:=key2
         have hchg:=h.change (d:=d) (r:=.map ag va ks zr has val) (r':=.map ag va ks zr (fun q=>az q ky||has q) (fun q=>bif az q ky then row else val q)) (v:=.map (some r)) (w':={w with heap:=w.heap.setIfInBounds r (.map es' clock')})
          hres rfl rfl hb rfl rfl rfl (by simp) (fun b hb' =>by
           have:b≠r:=fun e=>hb' (by rw[e];rfl)
           simp[Array.getElem?_setIfInBounds_ne (Ne.symm this)])
          ⟨r, es',clock',l',hb,by simp[hlt],hl',hw',hI',fun q hqk=>by
            rw[hf' q hqk]
            by_cases hqq:az q ky=true
            · rw[if_pos hqq];exact⟨by simp only[hqq,Bool.true_or],by simp only[hqq,cond_true];exact hrv⟩
            · rw[if_neg hqq];have hqf:az q ky=false:=by simpa using hqq
              have:=hf q hqk;simp only[hqf,Bool.false_or,cond_false]
              exact this⟩
         refine la (w':={w with heap:=w.heap.setIfInBounds r (.map es' clock')}) ?_ ⟨_,hk,hchg.fin (h0:=h0) hN .undef⟩;rcases ho with ho|ho
         · simp only[execOp,ho,hmv,hkv,Sem.run_bind,hrun];rfl
         · simp only[execOp,ho,hmv,hkv,Sem.run_bind,hrun];rfl
       · exact hk.elim
     · exact hk.elim
   · exact hk.elim
 · exact hk.elim
def qT (T:ci)(dst:Option Nat)(s:St)(ty:TypeId)(ag:Bool)(ks:List KK)(k:cM→Prop):Prop:=
 match T ty,dst with
 | some ⟨.map kt vt,_,_,_,_⟩,some d=>match T vt with
   | some te=>match bt te.zero with
     |some zr=>br (s.used d) False (k ⟨some d,.mp d,[(d,some (.map ag (ni te.desc) ks zr (fun _=>false) (fun _=>zr)))],[d]⟩)
     |none=>False
   |none=>False
 |_,_=>False
theorem ze {o:Oper}{ty:TypeId}{ag:Bool}{ks:List KK}(ho:o.op= .makeMap ty none)(h0:a.defers= [])(h:MG A G β s a.tmps w)(hN:∀d,o.dst=some d→d<A.N)
 {k:cM→Prop}(hk:qT T o.dst s ty ag ks k){Q:Exit→Act→World→Prop}:o.wp P a w (fun a' w' =>∃u,k u∧ib A (s.app u) a' w') Q:=by
 unfold qT at hk;split at hk
 · rename_i kt vt sz by' z zq d hty hd;split at hk
   · rename_i te hte;split at hk
     · rename_i zr hzr;unfold br at hk;split at hk
       · exact hk.elim
       rename_i hu;have hset:(β.set d (.map (some w.heap.size))) d=some (.map (some w.heap.size)):=by simp[eP.set]
       have hm:=h.allocR hu (o:=.map #[] 0) (r:=.map ag (ni te.desc) ks zr (fun _=>false) (fun _=>zr)) (v:=.map (some w.heap.size)) rfl rfl
        ⟨w.heap.size,#[],0,[],hset,by simpa using heap_alloc_new w (.map #[] 0),by simp,by simp,by simp[mi],fun q _=>by simp⟩
       have hrun:(execOp a.eval o).run P w= .ok (.value (.map (some w.heap.size))) (w.alloc (.map #[] 0)):=by
        simp only[execOp,ho,Option.map_none,Sem.run_bind,show(Instr.makeMap ty none).run P w= .ok (.map (some w.heap.size)) (w.alloc (.map #[] 0))from rfl,Result.andThen_ok];rfl
       refine bw hrun ⟨_,hk,?_⟩;rw[hd]at hN ⊢;exact hm.fin (h0:=h0) hN (.mp _ _ hset rfl)
     · exact hk.elim
   · exact hk.elim
 · exact hk.elim
end
end Go.Eng
namespace Go.Eng
open Go
structure KB (ks:List KK)(has:List DV→Bool)(clock:Nat)(kb:List (List DV×Nat)):Prop where
 kw:∀p ∈ kb,wk ks p.1=true
 kh:∀key,wk ks key=true→(has key=true↔∃b,(key,b) ∈ kb)
 ki:(kb.map (·.2)).Pairwise (· < ·)
 kl:∀p ∈ kb,p.2<clock
 kd:(kb.map (·.1)).Pairwise (fun p q=>az p q=false)
theorem mW {ag:Bool}{es:Array MapEntry}{l:List (List DV×Value)}(hl:es.toList.map (fun e=>(e.key,e.val))=l.map (fun p=>(bZ ag p.1,p.2))):es.toList.length=l.length:=by
 have:=congrArg List.length hl;simpa using this
theorem vY {G:Hp}{ag va:Bool}{ks:List KK}{zr:List DV}{has:List DV→Bool}{val:List DV→List DV}{es:Array MapEntry}{clock:Nat}{l:List (List DV×Value)}
 (hl:es.toList.map (fun e=>(e.key,e.val))=l.map (fun p=>(bZ ag p.1,p.2)))(hw:∀p ∈ l,wk ks p.1=true)(hI:mi (es.toList.map (·.born)) clock (l.map (·.1)))(hf:yF G va ks zr has val l):
 KB ks has clock ((l.map (·.1)).zip (es.toList.map (·.born))):=by
 have hlen:=mW hl;have hf1:((l.map (·.1)).zip (es.toList.map (·.born))).map (·.1)=l.map (·.1):=List.map_fst_zip (by simp[hlen]);have hf2:((l.map (·.1)).zip (es.toList.map (·.born))).map (·.2)=es.toList.map (·.born):=List.map_snd_zip (by simp[hlen]);refine⟨fun p hp=> ?_,fun key hk=> ?_,by rw[hf2];exact hI.1,fun p hp=> ?_,by rw[hf1];exact hI.2.2⟩
 · have:p.1 ∈ l.map (·.1):=by rw[←hf1];exact List.mem_map_of_mem hp
   obtain⟨q,hq,e⟩:=List.mem_map.1 this;rw[←e];exact hw q hq
 · have h1:=hf key hk
   have h2:(∃b,(key,b) ∈ (l.map (·.1)).zip (es.toList.map (·.born)))↔key ∈ l.map (·.1):=by
    constructor
    · rintro⟨b,hb⟩;rw[←hf1];exact List.mem_map.2 ⟨_,hb,rfl⟩
    · intro h;rw[←hf1]at h;obtain⟨⟨k',b⟩,hp,rfl⟩:=List.mem_map.1 h;exact⟨b,hp⟩
   rw[h2];split at h1
   · rename_i p hp;have hm:=List.mem_of_find?_eq_some hp;have hq:=List.find?_some hp;have e:=ck hk (hw p hm) hq;rw[h1.1];simp only[true_iff];rw[e];exact List.mem_map_of_mem hm
   · rename_i hp;rw[h1.1];constructor
     · intro h;cases h
     · intro h;obtain⟨q,hq,e⟩:=List.mem_map.1 h;have:=List.find?_eq_none.1 hp q hq;rw[e,cd hk]at this;exact absurd rfl this
 · have:p.2 ∈ es.toList.map (·.born):=by rw[←hf2];exact List.mem_map_of_mem hp
   exact hI.2.1 _ this
theorem vP {G:Hp}{ag va:Bool}{ks:List KK}{zr:List DV}{has:List DV→Bool}{val:List DV→List DV}{es:Array MapEntry}{clock:Nat}{l:List (List DV×Value)}
 (hl:es.toList.map (fun e=>(e.key,e.val))=l.map (fun p=>(bZ ag p.1,p.2)))(hw:∀p ∈ l,wk ks p.1=true)(hI:mi (es.toList.map (·.born)) clock (l.map (·.1)))(hf:yF G va ks zr has val l){e:MapEntry}(he:e ∈ es.toList):
 ∃key,(key,e.born) ∈ (l.map (·.1)).zip (es.toList.map (·.born))∧wk ks key=true∧e.key=bZ ag key∧iz G va (val key) e.val:=by
 have hlen:=mW hl;obtain⟨i,hi,rfl⟩:=List.getElem_of_mem he;have hil:i<l.length:=by rw[←hlen];exact hi
 have h1:(es.toList[i].key,es.toList[i].val)=(bZ ag l[i].1,l[i].2):=by
  have h0:(es.toList.map (fun e=>(e.key,e.val)))[i]? =(l.map (fun p=>(bZ ag p.1,p.2)))[i]? :=by rw[hl]
  rw[List.getElem?_map,List.getElem?_map,List.getElem?_eq_getElem hi,List.getElem?_eq_getElem hil]at h0;simpa using h0
 simp only[Prod.mk.injEq]at h1;have hwk:=hw _ (List.getElem_mem hil);refine⟨l[i].1,?_,hwk,h1.1,?_⟩
 · rw[List.mem_iff_getElem];refine⟨i,by simp[hlen,hil],by simp⟩
 · have h2:=hf _ hwk
   have hfi:l.find? (fun p=>az l[i].1 p.1)=some l[i]:=by
    rw[List.find?_eq_some_iff_getElem];refine⟨cd hwk,i,hil,rfl,fun j hj=> ?_⟩;have:=(List.pairwise_iff_getElem.1 hI.2.2) j i (by simp;omega) (by simpa using hil) hj;simp only[List.getElem_map]at this;simp only[Bool.not_eq_true',←Bool.not_eq_true];intro q;have e:=ck hwk (hw _ (List.getElem_mem (by omega))) q;rw[←e,cd hwk]at this;cases this
   rw[hfi]at h2;rw[h1.2];exact h2.2
section
variable {P:Program} {T:ci} {A:mA} {G:Hp} {β:eP} {s:St} {a:Act} {w:World}
def HL (ag:Bool)(ks:List KK):Bool:=
 match ag,ks with
 |true,_=>true
 |false,[_]=>true
 |_,_=>false
theorem wN {ag:Bool}{ks:List KK}(h:HL ag ks=true):ag=false→∃k,ks= [k]:=by
 intro e;subst e
 match ks,h with
 | [k],_=>exact⟨k,rfl⟩
def wR (ag:Bool)(key:List DV)(k:SV→Prop):Prop:=
 match ag,key with
 |true,key=>k (.agg (key.map .d))
 |false,x::_=>k (.d x)
 |false,[]=>False
theorem tE {kk:KK}{x:DV}(h:gK kk x=true):aG G x (cb x):=by
 cases kk<;>cases x<;>simp[gK]at h
 · exact .int _ _
 · exact .str _
 · exact .bool _
theorem tv {ag:Bool}{ks:List KK}{key:List DV}(h:wk ks key=true)(hag:ag=false→∃k,ks= [k]){k:SV→Prop}(hk:wR ag key k):∃x,ak G β x (bZ ag key)∧k x:=by
 cases ag with
 | true=>
   refine⟨_,.agg (key.map .d) (key.map cb) (by simp) (fun i x u hx hu=> ?_),hk⟩;rw[List.getElem?_map]at hx hu
   cases hr:key[i]? with
   |none=>rw[hr]at hx;cases hx
   | some z=>
     rw[hr]at hx hu;cases hx;cases hu;obtain⟨h1,h2⟩:=qz h;have hi:i<ks.length:=by rw[←h1];exact(List.getElem?_eq_some_iff.1 hr).1
     exact .d _ _ (tE (h2 i _ z (List.getElem?_eq_getElem hi) hr))
 | false=>
   obtain⟨k1,rfl⟩:=hag rfl;obtain⟨x,rfl,hx⟩:=iO h;exact⟨_,.d _ _ (tE hx),hk⟩
def zt (T:ci)(dst:Option Nat)(s:St)(ty:TypeId)(m:SV)(k:cM→Prop):Prop:=
 match T ty with
 | some ⟨.map kt vt,_,_,_,_⟩=>match m,dst with
   | .mp d,some q=>match s.res d with
     |some (.map ag va ks zr has val)=>br (s.used q||Nat.beq q d) False (∀clock kb,KB ks has clock kb→k ⟨some q,.ptr q 0,[(q,some (.iter d clock [])),(d,some (.mapB ag va ks zr has val clock kb))],[q]⟩)
     |_=>False
   |_,_=>False
 |_=>False
theorem DI (hT:aQ P T){o:Oper}{ty:TypeId}{m:Operand}(ho:o.op= .range ty m)(h0:a.defers= [])(h:MG A G β s a.tmps w)(hN:∀d,o.dst=some d→d<A.N)
 {k:cM→Prop}(hk:zt T o.dst s ty (s.ev m) k){Q:Exit→Act→World→Prop}:o.wp P a w (fun a' w' =>∃u,k u∧ib A (s.app u) a' w') Q:=by
 unfold zt at hk;split at hk
 · rename_i kt vt sz by' z zq hty;have hu:=(hT.get hty).1;simp only at hu;split at hk
   · rename_i d q hme hdst;split at hk
     · rename_i ag va ks zr has val hres;unfold br at hk;split at hk
       · exact hk.elim
       rename_i hused
       have hused:s.used q=false∧¬q=d:=by
        rw[Bool.or_eq_false_iff]at hused;refine⟨hused.1,fun e=>by subst e;simp at hused⟩
       obtain⟨r,es,clock,l,hb,hh,hl,hw,hI,hf⟩:=h.rs _ _ hres;have hx:=h.ev m;rw[hme]at hx;generalize hmv:a.eval m=mv at hx
       cases hx with|mp _ _ hm _=>
       rw[hb]at hm;cases hm;have hkb:=vY hl hw hI hf;have hk:=hk clock _ hkb;have hset:∀x,(β.set q (.pointer (some ⟨w.heap.size,0,none⟩))) x=if x=q then some (.pointer (some ⟨w.heap.size,0,none⟩))else β x:=fun x=>by simp[eP.set]
       have h1:=h.change (d:=d) (r':=.mapB ag va ks zr has val clock ((l.map (·.1)).zip (es.toList.map (·.born)))) (v:=.map (some r)) (w':=w) hres rfl rfl hb rfl rfl rfl rfl (fun _ _=>rfl) ⟨r,es,l,hb,hh,hl,hw,hI,rfl,hf⟩;have hus:(s.app ⟨none,.any,[(d,some (.mapB ag va ks zr has val clock ((l.map (·.1)).zip (es.toList.map (·.born)))))],[]⟩).used q=false:=by simpa [St.app,yJ]using hused.1
       have hdq:(β.set q (.pointer (some ⟨w.heap.size,0,none⟩))) d=some (.map (some r)):=by
        rw[hset,if_neg (fun e=>hused.2 e.symm)];exact hb
       have h2:=h1.allocR hus (o:=.mapIter (some r) clock #[] clock) (r:=.iter d clock []) (v:=.pointer (some ⟨w.heap.size,0,none⟩)) rfl rfl
        ⟨w.heap.size,r,by rw[hset,if_pos rfl],hdq,by simpa using heap_alloc_new w (.mapIter (some r) clock #[] clock)⟩
       have hrun:(execOp a.eval o).run P w= .ok (.value (.pointer (some ⟨w.heap.size,0,none⟩))) (w.alloc (.mapIter (some r) clock #[] clock)):=by
        simp only[execOp,ho,hmv,Sem.run_bind,run_range_map w ty kt vt r es clock hu hh,Result.andThen_ok];rfl
       refine bw hrun ⟨_,hk,?_⟩
       have hst:((s.app ⟨none,.any,[(d,some (.mapB ag va ks zr has val clock ((l.map (·.1)).zip (es.toList.map (·.born)))))],[]⟩).app ⟨none,.any,[(q,some (.iter d clock []))],[q]⟩)=s.app ⟨none,.any,[(q,some (.iter d clock [])),(d,some (.mapB ag va ks zr has val clock ((l.map (·.1)).zip (es.toList.map (·.born)))))],[q]⟩:=by
        simp only[St.app,sa,Gv,yJ];rw[St.mk.injEq];refine⟨rfl,?_,rfl⟩;funext x
        simp only[aW]
       rw[hst]at h2;rw[hdst]at hN ⊢;exact h2.fin (h0:=h0) hN (.ptr _ _ _ (by rw[hset,if_pos rfl]))
     · exact hk.elim
   · exact hk.elim
 · exact hk.elim
def Cr (T :ci)(dst:Option Nat)(s:St)(it:SV)(isS:Bool)(k:cM→Prop):Prop:=
 match it,isS with
 | .ptr q 0,false=>match s.res q with
   | some (.iter m since seen)=>match s.res m with
     |some (.mapB ag va ks zr has val clock kb)=>br (HL ag ks) (since=clock∧
      (∀key b,(key,b) ∈ kb→¬b ∈ seen→wR ag key fun x=>lq va (val key) fun v=>k ⟨dst,.tup [.d (.bool true),x,v],[(q,some (.iter m since (b::seen)))],[]⟩)∧
      ((∀p ∈ kb,p.2 ∈ seen)→k ⟨dst,.tup [.d (.bool false)],[],[]⟩)) False
     |_=>False
   |_=>False
 |_,_=>False
theorem Fw (hT:aQ P T){o:Oper}{it:Operand}{isS:Bool}(ho:o.op= .next it isS)(h0:a.defers= [])(h:MG A G β s a.tmps w)(hN:∀d,o.dst=some d→d<A.N)
 {k:cM→Prop}(hk:Cr T o.dst s (s.ev it) isS k){Q:Exit→Act→World→Prop}:o.wp P a w (fun a' w' =>∃u,k u∧ib A (s.app u) a' w') Q:=by
 unfold Cr at hk;split at hk
 · rename_i q hit;split at hk
   · rename_i m since seen hrq;split at hk
     · rename_i ag va ks zr has val clock kb hrm;obtain⟨hag,rfl,hy,hn⟩:=ax hk;have hag:=wN hag;obtain⟨qb,r,hbq,hbm,hhq⟩:=h.rs _ _ hrq;obtain⟨r',es,l,hb,hh,hl,hw,hI,hkb,hf⟩:=h.rs _ _ hrm;rw[hb]at hbm;cases hbm;have hx:=h.ev it;rw[hit]at hx;generalize hiv:a.eval it=iv at hx
       cases hx with|ptr _ _ b hp=>
       rw[hbq]at hp;cases hp;rcases run_next_at (P:=P) w o.type qb r since since seen.reverse.toArray es since hhq hh (fun x hx=>hI.2.1 _ (List.mem_map_of_mem hx)) (Nat.le_refl _)with⟨hz,hrun⟩|⟨e,he,w1,hw1,hrun⟩
       · have eM:∀p ∈ kb,p.2 ∈ seen:=by
          intro p hp;rw[hkb]at hp;have h2:p.2 ∈ es.toList.map (·.born):=(List.of_mem_zip (a:=p.1) (b:=p.2) hp).2;obtain⟨e,he,hee⟩:=List.mem_map.1 h2;have:=all_seen es seen.reverse.toArray hz e he;rw[←hee];simpa using this
         refine bw (v:=.tuple #[.bool false]) (w':=w) (by simp only[execOp,ho,hiv,Sem.run_bind,hrun,Result.andThen_ok];rfl) ⟨_,hn eM,?_⟩
         exact MG.fin (s:=s) (rs:= []) (us:= []) (h0:=h0) h hN (.tup _ [.bool false] rfl (fun i x v hx hv=>by
          match i with
          |0=>simp at hx hv;subst hx;subst hv;exact .d _ _ (.bool _)
          |i+1=>simp at hx))
       · obtain⟨hem,hes⟩:=mem_left he;obtain⟨key,hkk,hwk,hke,hrow⟩:=vP hl hw hI hf hem
         have hns:¬e.born ∈ seen:=by
          intro q;have:seen.reverse.toArray.contains e.born=true:=by simpa using q
          rw[this]at hes;cases hes
         have hy:=hy key e.born (by rw[hkb];exact hkk) hns;obtain⟨x,hx1,hx2⟩:=tv (G:=G) (β:=β) hwk hag hy;obtain⟨y,hy1,hy2⟩:=jM (β:=β) hrow hx2;have hhq1:w1.heap[qb]? =some (.mapIter (some r) since seen.reverse.toArray since):=by rcases hw1 with rfl|rfl<;>exact hhq
         have hm1:MG A G β s a.tmps w1:=by rcases hw1 with rfl|rfl;exact h;exact h.drew
         have hlt:qb<w1.heap.size:=(Array.getElem?_eq_some_iff.1 hhq1).1
         have hchg:=hm1.change (d:=q) (r':=.iter m since (e.born::seen)) (v:=.pointer (some ⟨qb,0,none⟩)) (w':=ChangeMaps.setBlock w1 qb (.mapIter (some r) since (seen.reverse.toArray.push e.born) since))
          hrq rfl rfl hbq rfl rfl rfl (by simp[ChangeMaps.setBlock]) (fun b hb' =>by
           have:b≠qb:=fun e=>hb' (by rw[e];rfl)
           simp[ChangeMaps.setBlock,Array.getElem?_setIfInBounds_ne (Ne.symm this)])
          ⟨qb,r,hbq,hb,by simp[ChangeMaps.setBlock,hlt]⟩
         refine bw (v:=.tuple #[.bool true,e.key,e.val]) (by simp only[execOp,ho,hiv,Sem.run_bind,hrun,Result.andThen_ok];rfl) ⟨_,hy2,?_⟩;refine hchg.fin (h0:=h0) hN (.tup _ [.bool true,e.key,e.val] rfl (fun i z v hz hv=> ?_))
         match i with
         |0=>simp at hz hv;subst hz;subst hv;exact .d _ _ (.bool _)
         |1=>simp at hz hv;subst hz;subst hv;rw[hke];exact hx1
         |2=>simp at hz hv;subst hz;subst hv;exact hy1
         |i+3=>simp at hz
     · exact hk.elim
   · exact hk.elim
 · exact hk.elim
def yu (T:ci)(dst:Option Nat)(s:St)(it:SV)(k:SV→Prop):Prop:=
 match it with
 | .ptr q 0=>match s.res q with
   | some (.iter m since (b::seen))=>match s.res m with
     |some (.mapB ag va ks zr has val clock kb)=>br (HL ag ks) (since=clock∧∃key,(key,b) ∈ kb∧wR ag key fun x=>lq va (val key) fun v=>k (.tup [x,v])) False
     |_=>False
   |_=>False
 |_=>False
theorem wU (h:MG A G β s a.tmps w){it:Operand}{dst:Option Nat}{k:SV→Prop}(hk:yu T dst s (s.ev it) k):dY P G β w (Instr.entry (a.eval it)) k:=by
 unfold yu at hk;split at hk
 · rename_i q hit;split at hk
   · rename_i m since b seen hrq;split at hk
     · rename_i ag va ks zr has val clock kb hrm;obtain⟨hag,rfl,key,hkk,hk⟩:=ax hk;have hag:=wN hag;obtain⟨qb,r,hbq,hbm,hhq⟩:=h.rs _ _ hrq;obtain⟨r',es,l,hb,hh,hl,hw,hI,hkb,hf⟩:=h.rs _ _ hrm;rw[hb]at hbm;cases hbm;have hx:=h.ev it;rw[hit]at hx;generalize hiv:a.eval it=iv at hx
       cases hx with|ptr _ _ b' hp=>
       rw[hbq]at hp;cases hp;have hlen:=mW hl;rw[hkb,List.mem_iff_getElem]at hkk;obtain⟨i,hi,he⟩:=hkk;have hi1:i<es.toList.length:=by simp at hi;simp;omega
       have hil:i<l.length:=by omega
       simp only[List.getElem_zip,List.getElem_map,Prod.mk.injEq]at he;have hem:es.toList[i] ∈ es.toList:=List.getElem_mem hi1;obtain⟨key',hk1,hwk,hke,hrow⟩:=vP hl hw hI hf hem
       have h1:(es.toList[i].key,es.toList[i].val)=(bZ ag l[i].1,l[i].2):=by
        have h0:(es.toList.map (fun e=>(e.key,e.val)))[i]? =(l.map (fun p=>(bZ ag p.1,p.2)))[i]? :=by rw[hl]
        rw[List.getElem?_map,List.getElem?_map,List.getElem?_eq_getElem hi1,List.getElem?_eq_getElem hil]at h0;simpa using h0
       have hkk':key' =key:=by
        rw[List.mem_iff_getElem]at hk1;obtain⟨j,hj,hje⟩:=hk1;simp only[List.getElem_zip,List.getElem_map,Prod.mk.injEq]at hje;have hj1:j<es.toList.length:=by simp at hj;simp;omega
        have hij:i=j:=by
         rcases Nat.lt_trichotomy i j with q|q|q
         · have:=(List.pairwise_iff_getElem.1 hI.1) i j (by simpa using hi1) (by simpa using hj1) q;simp only[List.getElem_map]at this;omega
         · exact q
         · have:=(List.pairwise_iff_getElem.1 hI.1) j i (by simpa using hj1) (by simpa using hi1) q;simp only[List.getElem_map]at this;omega
        subst hij;rw[←hje.1,←he.1]
       subst hkk';obtain⟨x,hx1,hx2⟩:=tv (G:=G) (β:=β) hwk hag hk;obtain⟨y,hy1,hy2⟩:=jM (β:=β) hrow hx2;have hnd:(es.toList.map (·.born)).Nodup:=hI.1.imp (fun h=>Nat.ne_of_lt h);have hhq':w.heap[qb]? =some (.mapIter (some r) since (seen.reverse.toArray.push es.toList[i].born) since):=by rw[hhq,he.2];simp
       refine⟨_,_,run_entry_at w qb r since seen.reverse.toArray es since es.toList[i] hhq' hh hem hnd,.tup _ [es.toList[i].key,es.toList[i].val] rfl (fun j z v hz hv=> ?_),hy2⟩
       match j with
       |0=>simp at hz hv;subst hz;subst hv;rw[←Array.getElem_toList,hke];exact hx1
       |1=>simp at hz hv;subst hz;subst hv;rw[←Array.getElem_toList];exact hy1
       |j+2=>simp at hz
     · exact hk.elim
   · exact hk.elim
 · exact hk.elim
def jy (T:ci)(dst:Option Nat)(s:St)(ty:TypeId)(m key:SV)(k:cM→Prop):Prop:=
 nA T s ty m fun te d ag va ks zr has val=>match si key with
  |some ky=>br (wk ks ky&&(iw key==ag)) (bt te.zero=some zr∧∀clock kb b,KB ks (fun q=>az q ky||has q) clock kb→(ky,b) ∈ kb→
   lq va (val ky) fun v=>k ⟨dst,.tup [v,.d (.int .i64 (b:Nat))],[(d,some (.mapB ag va ks zr (fun q=>az q ky||has q) val clock kb))],[]⟩) False
  |none=>False
theorem pw (hT:aQ P T){o:Oper}{ty:TypeId}{m key:Operand}(ho:o.op= .mapEntry ty m key)(h0:a.defers= [])(h:MG A G β s a.tmps w)(hN:∀d,o.dst=some d→d<A.N)
 {k:cM→Prop}(hk:jy T o.dst s ty (s.ev m) (s.ev key) k){Q:Exit→Act→World→Prop}:o.wp P a w (fun a' w' =>∃u,k u∧ib A (s.app u) a' w') Q:=by
 unfold jy nA at hk;split at hk
 · rename_i kt vt sz by' z zq hty;have hu:=(hT.get hty).1;simp only at hu;split at hk
   · rename_i te d hte hme;obtain⟨_,inf,hinf,_,_,hz⟩:=hT.get hte;split at hk
     · rename_i ag va ks zr has val hres;obtain⟨hq,hk⟩:=ax hk;rw[Bool.and_eq_true,Bool.and_eq_true]at hq;obtain⟨r,es,clock,l,hb,hh,hl,hw,hI,hf⟩:=h.rs _ _ hres;have hx:=h.ev m;rw[hme]at hx;generalize hmv:a.eval m=mv at hx
       cases hx with|mp _ _ hm _=>
       rw[hb]at hm;cases hm;split at hk
       · rename_i ky hky;obtain⟨hq2,hzr,hk⟩:=ax hk;rw[Bool.and_eq_true]at hq2;have hkv:=rq (h.ev key) hky hq2.1;rw[show iw (s.ev key)=ag by simpa using hq2.2]at hkv;have hget:(getObj r).run P w= .ok (.map es clock) w:=by simp[getObj,Sem.run,hh]
         have hset:∀ob,(setObj r ob).run P w= .ok () {w with heap:=w.heap.setIfInBounds r ob}:=fun ob=>by simp[setObj,Sem.run,hh]
         have hck:=fc (w:=w) hT hq.1 hq2.1 false;have hfk:=f9 (w:=w) hT hq.1 hq2.1 l es.toList hl hw;have hlt:r<w.heap.size:=(Array.getElem?_eq_some_iff.1 hh).1;have hlen:=mW hl
         have key2:∃ (es':Array MapEntry) (clock':Nat) (l':List (List DV×Value)) (v:Value) (b:Nat),(Instr.mapEntry ty (.map (some r)) (bZ ag ky)).run P w= .ok (.tuple #[v,.int .i64 (b:Nat)]) {w with heap:=w.heap.setIfInBounds r (.map es' clock')}∧
          es'.toList.map (fun e=>(e.key,e.val))=l'.map (fun p=>(bZ ag p.1,p.2))∧(∀p ∈ l',wk ks p.1=true)∧mi (es'.toList.map (·.born)) clock' (l'.map (·.1))∧
          yF G va ks zr (fun q=>az q ky||has q) val l'∧(ky,b) ∈ (l'.map (·.1)).zip (es'.toList.map (·.born))∧iz G va (val ky) v:=by
          cases hfn:pg ky l 0 with
          | none=>
            rw[hfn]at hfk;obtain⟨zv,hzv,hzd⟩:=qB (G:=G) hzr (mT hq.2.2);have hrel:=lA (key:=ky) (l:=l) (i:=0);rw[hfn]at hrel
            have hval:val ky=zr:=by
             have:=hf ky hq2.1
             cases hfi:l.find? (fun p=>az ky p.1)with
             |some p=>rw[hfi]at hrel;cases hrel
             |none=>rw[hfi]at this;exact this.2
            refine⟨es.push {key:=bZ ag ky,val:=zv,born:=clock},clock+1,l++ [(ky,zv)],zv,clock,?_,?_,?_,?_,fun q hqk=> ?_,?_,by rw[hval];exact hzd⟩
            · simp[Instr.mapEntry,run_underlying hu,hget,hck,hfk,hset,bW hinf (hz.trans hzv),goInt]
            · simp[hl]
            · intro p hp;rcases List.mem_append.1 hp with q|q
              · exact hw p q
              · simp at q;subst q;exact hq2.1
            · have:=hI.snoc hw hq2.1 hfn;simpa using this
            · rw[xP hq2.1 hw hfn q hqk]
              by_cases hqq:az q ky=true
              · rw[if_pos hqq];have e:=ck hqk hq2.1 hqq;subst e;exact⟨by simp only[hqq,Bool.true_or],by simp only[hval];exact hzd⟩
              · rw[if_neg hqq];have hqf:az q ky=false:=by simpa using hqq
                simp only[hqf,Bool.false_or];exact hf q hqk
            · rw[List.mem_iff_getElem];refine⟨l.length,by simp[←hlen],?_⟩;simp only[List.getElem_zip,Prod.mk.injEq];constructor
              · rw[List.getElem_map,List.getElem_append_right (by omega)];simp
              · rw[List.getElem_map];have:(es.push {key:=bZ ag ky,val:=zv,born:=clock}).toList=es.toList++ [{key:=bZ ag ky,val:=zv,born:=clock}]:=by simp
                simp only[this]
                rw[List.getElem_append_right (by omega)];simp
          | some q=>
            obtain⟨i,u⟩:=q;rw[hfn]at hfk;have hrel:=lA (key:=ky) (l:=l) (i:=0);rw[hfn]at hrel;obtain⟨_,p,hp1,hp2⟩:=oo hfn;rw[Nat.sub_zero]at hp1;have hpm:p ∈ l:=List.mem_of_getElem? hp1;have hpk:p.1=ky:=(ck hq2.1 (hw p hpm) hp2).symm
            have hei:∃e,es[i]? =some e∧e.key=bZ ag ky:=by
             have:(es.toList.map (fun e=>(e.key,e.val)))[i]? =some (bZ ag p.1,p.2):=by rw[hl,List.getElem?_map,hp1];rfl
             rw[List.getElem?_map,Array.getElem?_toList]at this
             cases he:es[i]? with
             |none=>rw[he]at this;cases this
             |some e=>rw[he]at this;simp at this;exact⟨e,rfl,by rw[this.1,hpk]⟩
            obtain⟨e,he1,he2⟩:=hei;have hsb:=nr (nT hq.1) hq2.1
            have hhas:has ky=true∧iz G va (val ky) u:=by
             have:=hf ky hq2.1
             cases hfi:l.find? (fun p=>az ky p.1)with
             |none=>rw[hfi]at hrel;cases hrel
             | some p' =>
               rw[hfi]at this hrel;simp only[Option.map_some,Option.some.injEq]at hrel;rw[hrel];exact this
            have e1:(es.modify i fun e=>{e with key:=bZ ag ky}).toList.map (·.born)=es.toList.map (·.born):=lk (fun _=>rfl);refine⟨es.modify i fun e=>{e with key:=bZ ag ky},clock,l,u,e.born,?_,?_,hw,by rw[e1];exact hI,fun q hqk=> ?_,?_,hhas.2⟩
            · simp[Instr.mapEntry,run_underlying hu,hget,hck,hfk,hset,he1,he2,Instr.keyThatStays,hsb,goInt]
            · rw[←hl];apply List.ext_getElem?
              intro j;rw[List.getElem?_map,List.getElem?_map,Array.toList_modify,List.getElem?_modify]
              by_cases hij:i=j
              · subst hij;rw[Array.getElem?_toList,he1];simp[he2]
              · simp[hij]
            · have:=hf q hqk
              by_cases hqq:az q ky=true
              · have e:=ck hqk hq2.1 hqq;subst e;simp only[hqq,Bool.true_or];split at this
                · first|exact⟨rfl,this.2⟩|exact⟨trivial,this.2⟩
                · rw[hhas.1]at this;cases this.1
              · have hqf:az q ky=false:=by simpa using hqq
                simp only[hqf,Bool.false_or];exact this
            · rw[e1,List.mem_iff_getElem];have hil:i<l.length:=(List.getElem?_eq_some_iff.1 hp1).1;refine⟨i,by simp[hlen,hil],?_⟩;simp only[List.getElem_zip,List.getElem_map,Prod.mk.injEq];have g1:l[i]=p:=by rw[List.getElem?_eq_getElem hil]at hp1;exact Option.some.inj hp1
              have hie:i<es.size:=(Array.getElem?_eq_some_iff.1 he1).1
              have g2:es.toList[i]'(by simpa using hie)=e:=by
               rw[Array.getElem?_eq_getElem hie]at he1;simpa using Option.some.inj he1
              rw[g1,g2];exact⟨hpk,rfl⟩
         obtain⟨es',clock',l',v,b,hrun,hl',hw',hI',hf',hkb,hv⟩:=key2;have hk:=hk clock' _ b (vY hl' hw' hI' hf') hkb;obtain⟨x,hx1,hx2⟩:=jM (β:=β) hv hk
         have hchg:=h.change (d:=d) (r':=.mapB ag va ks zr (fun q=>az q ky||has q) val clock' ((l'.map (·.1)).zip (es'.toList.map (·.born)))) (v:=.map (some r)) (w':={w with heap:=w.heap.setIfInBounds r (.map es' clock')})
          hres rfl rfl hb rfl rfl rfl (by simp) (fun b hb' =>by
           have:b≠r:=fun e=>hb' (by rw[e];rfl)
           simp[Array.getElem?_setIfInBounds_ne (Ne.symm this)])
          ⟨r,es',l',hb,by simp[hlt],hl',hw',hI',rfl,hf'⟩
         refine bw (v:=.tuple #[v,.int .i64 (b:Nat)]) (w':={w with heap:=w.heap.setIfInBounds r (.map es' clock')}) (by simp only[execOp,ho,hmv,hkv,Sem.run_bind,hrun];rfl) ⟨_,hx2,?_⟩;refine hchg.fin (h0:=h0) hN (.tup _ [v,.int .i64 (b:Nat)] rfl (fun i z u hz hu=> ?_))
         match i with
         |0=>simp at hz hu;subst hz;subst hu;exact hx1
         |1=>simp at hz hu;subst hz;subst hu;exact .d _ _ (.int _ _)
         |i+2=>simp at hz
       · exact hk.elim
     · exact hk.elim
   · exact hk.elim
 · exact hk.elim
def gB (T:ci)(dst:Option Nat)(s:St)(m st x:SV)(k:cM→Prop):Prop:=
 match m,st with
 | .mp d,.d (.int .i64 n)=>match s.res d with
   | some (.mapB ag va ks zr has val clock kb)=>match si x with
     |some row=>br (iw x==va) (∃ky b,((ky,b) ∈ kb∧n=(b:Nat))∧k ⟨dst,.undef,[(d,some (.map ag va ks zr has (fun q=>bif az q ky then row else val q)))],[]⟩) False
     |none=>False
   |_=>False
 |_,_=>False
theorem mC {o :Oper}{ty:TypeId}{m st x:Operand}(ho:o.op= .entryStore ty m st x)(h0:a.defers= [])(h:MG A G β s a.tmps w)(hN:∀d,o.dst=some d→d<A.N)
 {k:cM→Prop}(hk:gB T o.dst s (s.ev m) (s.ev st) (s.ev x) k){Q:Exit→Act→World→Prop}:o.wp P a w (fun a' w' =>∃u,k u∧ib A (s.app u) a' w') Q:=by
 unfold gB at hk;split at hk
 · rename_i d n hme hse;split at hk
   · rename_i ag va ks zr has val clock kb hres;split at hk
     · rename_i row hrow;obtain⟨hq,ky,b,⟨hkk,rfl⟩,hk2⟩:=ax hk;obtain⟨r,es,l,hb,hh,hl,hw,hI,hkb,hf⟩:=h.rs _ _ hres;have hx:=h.ev m;rw[hme]at hx;generalize hmv:a.eval m=mv at hx
       cases hx with|mp _ _ hm _=>
       rw[hb]at hm;cases hm;have hs:=h.ev st;rw[hse]at hs;generalize hsv:a.eval st=sv at hs
       cases hs with|d _ _ hs=>cases hs with|int=>
       have hrv:=DZ (h.ev x) hrow;rw[show iw (s.ev x)=va by simpa using hq]at hrv;have hget:(getObj r).run P w= .ok (.map es clock) w:=by simp[getObj,Sem.run,hh]
       have hset:∀ob,(setObj r ob).run P w= .ok () {w with heap:=w.heap.setIfInBounds r ob}:=fun ob=>by simp[setObj,Sem.run,hh]
       have hlt:r<w.heap.size:=(Array.getElem?_eq_some_iff.1 hh).1;have hlen:=mW hl;rw[hkb,List.mem_iff_getElem]at hkk;obtain⟨i,hi,he⟩:=hkk;have hi1:i<es.toList.length:=by simp at hi;simp;omega
       have hil:i<l.length:=by omega
       simp only[List.getElem_zip,List.getElem_map,Prod.mk.injEq]at he
       have hfi:es.findIdx? (fun e=>(e.born:Int)==(b:Int))=some i:=by
        rw[Array.findIdx?_eq_some_iff_getElem];refine⟨by simpa using hi1,by rw[←Array.getElem_toList (h:=by simpa using hi1),he.2];simp,fun j hj=> ?_⟩;have:=(List.pairwise_iff_getElem.1 hI.1) j i (by simp at hi1 ⊢;omega) (by simpa using hi1) hj;simp only[List.getElem_map,Array.getElem_toList]at this he;simp only[beq_iff_eq,Int.ofNat_inj];omega
       have hwk:wk ks ky=true:=by rw[←he.1];exact hw _ (List.getElem_mem hil)
       have hfn:∃u,pg ky l 0=some (i,u):=by
        cases hq:pg ky l 0 with
        | none=>
          have:=ws hq l[i] (List.getElem_mem hil);rw[he.1,cd hwk]at this
          cases this
        | some p=>
          obtain⟨j,u⟩:=p;obtain⟨_,p,hp1,hp2⟩:=oo hq;rw[Nat.sub_zero]at hp1;have hjl:j<l.length:=(List.getElem?_eq_some_iff.1 hp1).1;have hpe:l[j]=p:=by rw[List.getElem?_eq_getElem hjl]at hp1;exact Option.some.inj hp1
          have hpk:l[j].1=ky:=by rw[hpe];exact(ck hwk (hw p (List.mem_of_getElem? hp1)) hp2).symm
          have:i=j:=by
           rcases Nat.lt_trichotomy i j with q|q|q
           · have:=(List.pairwise_iff_getElem.1 hI.2.2) i j (by simpa using hil) (by simpa using hjl) q;simp only[List.getElem_map]at this;rw[hpk,he.1,cd hwk]at this;cases this
           · exact q
           · have:=(List.pairwise_iff_getElem.1 hI.2.2) j i (by simpa using hjl) (by simpa using hil) q;simp only[List.getElem_map]at this;rw[hpk,he.1,cd hwk]at this;cases this
          subst this;exact⟨u,rfl⟩
       obtain⟨u,hfn⟩:=hfn;have e1:(es.modify i fun e=>{e with val:=a.eval x}).toList.map (·.born)=es.toList.map (·.born):=lk (fun _=>rfl);have e2:(l.modify i fun _=>(ky,a.eval x)).map (·.1)=l.map (·.1):=rA (List.getElem?_eq_getElem hil) he.1
       have hrun:(Instr.entryStore ty (.map (some r)) (.int .i64 (b:Nat)) (a.eval x)).run P w= .ok () {w with heap:=w.heap.setIfInBounds r (.map (es.modify i fun e=>{e with val:=a.eval x}) clock)}:=by
        simp[Instr.entryStore,hget,hset,asInt,asIntOf,hfi]
       have hchg:=h.change (d:=d) (r':=.map ag va ks zr has (fun q=>bif az q ky then row else val q)) (v:=.map (some r)) (w':={w with heap:=w.heap.setIfInBounds r (.map (es.modify i fun e=>{e with val:=a.eval x}) clock)})
        hres rfl rfl hb rfl rfl rfl (by simp) (fun b hb' =>by
         have:b≠r:=fun e=>hb' (by rw[e];rfl)
         simp[Array.getElem?_setIfInBounds_ne (Ne.symm this)])
        ⟨r, _,clock,l.modify i fun _=>(ky,a.eval x),hb,by simp[hlt];rfl,by
          apply List.ext_getElem?
          intro j;have hj:(es.toList.map (fun e=>(e.key,e.val)))[j]? =(l.map (fun p=>(bZ ag p.1,p.2)))[j]? :=by rw[hl]
          rw[List.getElem?_map,List.getElem?_map]at hj;rw[List.getElem?_map,List.getElem?_map,Array.toList_modify,List.getElem?_modify,List.getElem?_modify]
          by_cases hij:i=j
          · subst hij;rw[List.getElem?_eq_getElem hi1,List.getElem?_eq_getElem hil]at hj ⊢;simp at hj;simp[hj.1,he.1]
          · simp only[hij,if_false]
            simpa using hj,by
          intro p hp;obtain⟨j,hj,rfl⟩:=List.getElem_of_mem hp;rw[List.getElem_modify];split
          · exact hwk
          · exact hw _ (List.getElem_mem _),by rw[e1,e2];exact hI,fun q hqk=>by
          have h1:=xM (v:=a.eval x) hwk hw hfn q hqk;rw[Nat.sub_zero]at h1;rw[h1];have h2:=hf q hqk
          by_cases hqq:az q ky=true
          · rw[if_pos hqq];have e:=ck hqk hwk hqq;refine⟨?_,by simp only[hqq,cond_true];exact hrv⟩;rw[e];have h3:=(vY hl hw hI hf).kh ky hwk;refine h3.2 ⟨b,?_⟩;rw[List.mem_iff_getElem];exact⟨i,hi,by simp only[List.getElem_zip,List.getElem_map,Prod.mk.injEq];exact he⟩
          · rw[if_neg hqq];have hqf:az q ky=false:=by simpa using hqq
            simp only[hqf,cond_false]
            exact h2⟩
       exact la (w':=_) (by simp only[execOp,ho,hmv,hsv,Sem.run_bind,hrun];rfl) ⟨_,hk2,hchg.fin (h0:=h0) hN .undef⟩
     · exact hk.elim
   · exact hk.elim
 · exact hk.elim
def uI (s:St)(m:SV)(k:SV→Prop):Prop:=
 match m with
 | .mp d=>match s.res d with
   |some (.map ag va ks zr has val)=>∀clock kb,KB ks has clock kb→k (.d (.int .i64 (kb.length:Nat)))
   |some (.mapB ag va ks zr has val clock kb)=>k (.d (.int .i64 (kb.length:Nat)))
   |_=>False
 |_=>False
theorem vw (hT:aQ P T)(h:MG A G β s a.tmps w){m:Operand}{ty:TypeId}{kt vt:TypeId}(hu:P.underlying ty=some (.map kt vt)){rt:TypeId}{k:SV→Prop}(hk:uI s (s.ev m) k):dY P G β w (Builtin.len_ #[ty] rt #[a.eval m]) k:=by
 unfold uI at hk;split at hk
 · rename_i d hme;have hx:=h.ev m;rw[hme]at hx;generalize hmv:a.eval m=mv at hx
   cases hx with|mp _ _ hm _=>
   split at hk
   · rename_i ag va ks zr has val hres;obtain⟨r,es,clock,l,hb,hh,hl,hw,hI,hf⟩:=h.rs _ _ hres;rw[hb]at hm;cases hm;have hget:(getObj r).run P w= .ok (.map es clock) w:=by simp[getObj,Sem.run,hh]
     have hlen:=mW hl;refine⟨_,_,by simp[Builtin.len_,run_underlying hu,hget];rfl,?_,hk clock _ (vY hl hw hI hf)⟩;have:((l.map (·.1)).zip (es.toList.map (·.born))).length=es.size:=by simp[←hlen]
     rw[this];exact .d _ _ (.int _ _)
   · rename_i ag va ks zr has val clock kb hres;obtain⟨r,es,l,hb,hh,hl,hw,hI,hkb,hf⟩:=h.rs _ _ hres;rw[hb]at hm;cases hm;have hget:(getObj r).run P w= .ok (.map es clock) w:=by simp[getObj,Sem.run,hh]
     have hlen:=mW hl;refine⟨_,_,by simp[Builtin.len_,run_underlying hu,hget];rfl,?_,hk⟩;have:kb.length=es.size:=by rw[hkb];simp[←hlen]
     rw[this];exact .d _ _ (.int _ _)
   · exact hk.elim
 · exact hk.elim
end
end Go.Eng
namespace Go.Eng
open Go
section
variable {P:Program} {T:ci} {A:mA} {G:Hp} {β:eP} {s:St} {a:Act} {w:World}
def Am (T:ci)(t:TypeId):Bool:=
 match T t with
 | some ⟨.slice e,_,_,_,_⟩=>match T e with
   |some ⟨.int .u8,_,_,_,_⟩=>true
   |_=>false
 |_=>false
theorem tg (hT:aQ P T){t:TypeId}(h:Am T t=true):∃e,P.underlying t=some (.slice e)∧P.underlying e=some (.int .u8):=by
 unfold Am at h;split at h
 · rename_i e _ _ _ _ ht;split at h
   · rename_i he;exact⟨e,(hT.get ht).1,(hT.get he).1⟩
   · cases h
 · cases h
def zA (T:ci)(t:TypeId):Bool:=
 match T t with
 |some ⟨.string,_,_,_,_⟩=>true
 |_=>false
theorem tH (hT:aQ P T){t:TypeId}(h:zA T t=true):P.underlying t=some .string:=by
 unfold zA at h;split at h
 · rename_i ht;exact(hT.get ht).1
 · cases h
def ph (b:UInt8):List DV:= [.int .u8 (b.toNat:Int)]
def nR (n:Nat)(get:Nat→List DV)(bs:List UInt8):Prop:=n=bs.length∧∀i,i<bs.length→get i=ph (bs.getD i 0)
def yi (T:ci)(dst:Option Nat)(s:St)(src ty:TypeId)(x:SV)(k:cM→Prop)(els:Prop):Prop:=
 br (Am T src&&zA T ty)
  (match x with
  | .d .nilsl=>k ⟨dst,.d (.str []),[],[]⟩
  | .d (.ro 1 n g)=>∃bs,nR n g bs∧k ⟨dst,.d (.str bs),[],[]⟩
  | .buf d=>match s.res d with
    |some (.buf _ 1 n g)=>∃bs,nR n g bs∧k ⟨dst,.d (.str bs),[],[]⟩
    |some (.fro 1 n g)=>∃bs,nR n g bs∧k ⟨dst,.d (.str bs),[],[]⟩
    |some (.byb n g)=>∃bs,nR n g bs∧k ⟨dst,.d (.str bs),[],[]⟩
    |_=>False
  |_=>False)
  (br (zA T src&&Am T ty)
    (match x with
    | .d (.str bs)=>bs.length≤1099511627776∧(k ⟨dst,.d (.ro 1 bs.length fun i=>ph (bs.getD i 0)),[],[]⟩∨(match dst with
      |some d=>br (s.used d) False (k ⟨some d,.buf d,[(d,some (.byb bs.length fun i=>ph (bs.getD i 0)))],[d]⟩)
      |none=>False))
    |_=>False)
    els)
theorem sU {n:Nat}{g:Nat→List DV}{bs:List UInt8}(hb:nR n g bs){v:Value}(hd:aG G (.ro 1 n g) v)(hw:∀b o,G b=some o→w.heap[b]? =some o){src dst e:TypeId}
 (h1:P.underlying src=some (.slice e))(h2:P.underlying e=some (.int .u8))(h3:P.underlying dst=some .string):(convert src dst v).run P w= .ok (.string ⟨bs.toArray⟩) w:=by
 obtain⟨rfl,hg⟩:=hb;generalize hn:bs.length=n at hd
 cases hd with
 | ronil=>
   have:bs= []:=List.eq_nil_of_length_eq_zero hn;subst this;rw[run_convert_bytes_string w src dst e _ 0 0 h1 h2 h3]
   simp[Conv.bytesToString,ByteArray.empty,ByteArray.emptyWithCapacity]<;>rfl
 | ro _ _ _ a cap vals hs hcap hmax hl hc hd=>
   rw[←hn];refine run_convert_bytes_back w src dst e a cap bs h1 h2 h3 (fun j hj=> ?_);have hgj:=hg j hj;have h0:(g j)[0]? =some (.int .u8 ((bs.getD j 0).toNat:Int)):=by rw[hgj];rfl
   obtain⟨c,e',fr,q1,q2,q3⟩:=hc j 0 _ (by omega) h0;have q4:=hd j 0 _ (by omega) h0;generalize hval:vals j 0=u at q3 q4
   cases q4 with|int=>
   have hadd:a.add (j*1+0)=a.add j:=by simp
   rw[hadd]at q1 q2 q3;unfold World.cell?;rw[hw _ _ q1];try simp only
   rw[q2];try simp only
   rw[q3];simp[List.getD_eq_getElem?_getD,List.getElem?_eq_getElem hj]
theorem C7 (hT:aQ P T){o:Oper}{src ty:TypeId}{x:Operand}(ho:o.op= .convert src ty x)(h0:a.defers= [])(h:MG A G β s a.tmps w)(hN:∀d,o.dst=some d→d<A.N)
 {k:cM→Prop}{els:Prop}{Q:Exit→Act→World→Prop}(hk:yi T o.dst s src ty (s.ev x) k els)(hels:els→o.wp P a w (fun a' w' =>∃u,k u∧ib A (s.app u) a' w') Q):
 o.wp P a w (fun a' w' =>∃u,k u∧ib A (s.app u) a' w') Q:=by
 have hx:=h.ev x;unfold yi br at hk;split at hk
 · rename_i hq;rw[Bool.and_eq_true]at hq;obtain⟨e,h1,h2⟩:=tg hT hq.1;have h3:=tH hT hq.2
   have key:∀bs:List UInt8,(convert src ty (a.eval x)).run P w= .ok (.string ⟨bs.toArray⟩) w→k ⟨o.dst,.d (.str bs),[],[]⟩→o.wp P a w (fun a' w' =>∃u,k u∧ib A (s.app u) a' w') Q:=by
    intro bs hr hk;exact bw (by simp only[execOp,ho,Sem.run_bind,hr];rfl) ⟨_,hk,MG.fin (s:=s) (rs:= []) (us:= []) (h0:=h0) h hN (.d _ _ (.str bs))⟩
   split at hk
   · rename_i hxe;rw[hxe]at hx;generalize hv:a.eval x=v at hx key
     cases hx with|d _ _ hx=>cases hx with|nilsl=>
     refine key [] ?_ hk;rw[run_convert_bytes_string w src ty e _ 0 0 h1 h2 h3];simp[Conv.bytesToString,ByteArray.empty,ByteArray.emptyWithCapacity]<;>rfl
   · rename_i n g hxe;obtain⟨bs,hb,hk⟩:=hk;rw[hxe]at hx;generalize hv:a.eval x=v at hx key
     cases hx with|d _ _ hx=>
     exact key bs (sU hb hx h.gw h1 h2 h3) hk
   · rename_i d hxe;rw[hxe]at hx;generalize hv:a.eval x=v at hx key
     cases hx with|buf _ _ hbd _=>
     split at hk
     · rename_i e' n g hr;obtain⟨bs,⟨rfl,hg⟩,hk⟩:=hk;obtain⟨v',xs,hv',hown,_,_,hgd⟩:=h.rs _ _ hr;rw[hbd]at hv';cases hv';refine key bs ?_ hk;rcases hown.2 with⟨rfl,hz⟩|⟨gb,cap,cur,rfl,_,hh,hnc,_,hcz,htake⟩
       · have:bs= []:=List.eq_nil_of_length_eq_zero hz;subst this;rw[run_convert_bytes_string w src ty e _ 0 0 h1 h2 h3];simp[Conv.bytesToString,ByteArray.empty,ByteArray.emptyWithCapacity]<;>rfl
       · refine run_convert_bytes_back w src ty e _ cap bs h1 h2 h3 (fun j hj=> ?_);have h00:(g j)[0]? =some (.int .u8 ((bs.getD j 0).toNat:Int)):=by rw[hg j hj];rfl
         obtain⟨u,hu,hud⟩:=hgd j 0 _ hj h00
         cases hud with|int=>
         have hadd:(⟨gb,0,none⟩:Addr).add j=⟨gb,j,none⟩:=by unfold Addr.add;split<;>simp_all
         have hcj:cur[j]? =some (.int .u8 ((bs.getD j 0).toNat:Int)):=by
          rw[←htake,List.getElem?_take_of_lt (by omega)]at hu;simpa using hu
         rw[hadd];unfold World.cell?;rw[hh];simp only;rw[hcj];simp[List.getD_eq_getElem?_getD,List.getElem?_eq_getElem hj]
     · rename_i n g hr;obtain⟨bs,hb,hk⟩:=hk;obtain⟨v',hv',hd⟩:=h.rs _ _ hr;rw[hbd]at hv';cases hv';exact key bs (sU hb hd h.gw h1 h2 h3) hk
     · rename_i n g hr;obtain⟨bs,⟨rfl,hg⟩,hk⟩:=hk;obtain⟨b,cap,cs,e',hv',hh,hnc,hcm,hns,hgd⟩:=h.rs _ _ hr;rw[hbd]at hv';cases hv';refine key bs ?_ hk;refine run_convert_bytes_back w src ty e _ cap bs h1 h2 h3 (fun j hj=> ?_);obtain⟨m,q1,q2⟩:=hgd j hj;rw[hg j hj]at q1;have hm:m=((bs.getD j 0).toNat:Int):=by simpa [ph]using q1.symm
       subst hm;have hadd:(⟨b,0,none⟩:Addr).add j=⟨b,j,none⟩:=by unfold Addr.add;split<;>simp_all
       rw[hadd];unfold World.cell?;rw[hh];simp only;rw[q2];simp[List.getD_eq_getElem?_getD,List.getElem?_eq_getElem hj]
     · exact hk.elim
   · exact hk.elim
 · split at hk
   · rename_i hq;rw[Bool.and_eq_true]at hq;obtain⟨e,h1,h2⟩:=tg hT hq.2;have h3:=tH hT hq.1;split at hk
     · rename_i bs hxe;obtain⟨hlen,hk⟩:=hk;rw[hxe]at hx;generalize hv:a.eval x=v at hx
       cases hx with|d _ _ hx=>cases hx with|str=>
       have hrun:=run_bytes_of_string (P:=P) w src ty e ⟨bs.toArray⟩ h3 h1 h2;have hsz:(⟨bs.toArray⟩:ByteArray).size=bs.length:=by simp[ByteArray.size]
       rw[hsz]at hrun;have hge:=grownCap_ge w bs.length 0 e;have hmx:=grownCap_le_maxLen w bs.length 0 e (by unfold maxLen;omega);generalize grownCap w bs.length 0 e=cap at hrun hge hmx;rcases hk with hk|hk
       · have hm:=h.drew.allocG (.cells (bytesRow ⟨bs.toArray⟩ cap) e ((bytesRow ⟨bs.toArray⟩ cap).size,(bytesRow ⟨bs.toArray⟩ cap).size+1));refine bw (by simp only[execOp,ho,hv,Sem.run_bind,hrun];rfl) ⟨_,hk,?_⟩;refine MG.fin (s:=s) (rs:= []) (us:= []) (h0:=h0) hm hN (.d _ _ ?_);refine .ro 1 bs.length _ _ cap (fun i _=>.int .u8 ((bs.getD i 0).toNat:Int)) rfl hge hmx (fun i _=>rfl) (fun i j z hi hz=> ?_) (fun i j z hi hz=> ?_)
         · have hj:j=0:=by
            have:=(List.getElem?_eq_some_iff.1 hz).1;simp[ph]at this;omega
           subst hj;have hadd:(⟨w.heap.size,0,none⟩:Addr).add (i*1+0)=⟨w.heap.size,i,none⟩:=by unfold Addr.add;split<;>simp_all
           rw[hadd];refine⟨bytesRow ⟨bs.toArray⟩ cap,e,((bytesRow ⟨bs.toArray⟩ cap).size,(bytesRow ⟨bs.toArray⟩ cap).size+1),?_,rfl,?_⟩
           · show(if _=_ then _ else _)=_;exact if_pos rfl
           · simp[bytesRow,Array.getElem?_append,hi,List.getD_eq_getElem?_getD]
         · have hj:j=0:=by
            have:=(List.getElem?_eq_some_iff.1 hz).1;simp[ph]at this;omega
           subst hj;simp[ph]at hz;subst hz;exact .int _ _
       · split at hk
         · rename_i d hd;split at hk
           · exact hk.elim
           rename_i hu;have hset:(β.set d (.slice (some ⟨w.drew.heap.size,0,none⟩) bs.length cap)) d=some (.slice (some ⟨w.drew.heap.size,0,none⟩) bs.length cap):=by simp[eP.set]
           have hsz2:bs.length≤(bytesRow ⟨bs.toArray⟩ cap).size:=by simp[bytesRow,ByteArray.size]
           have hm:=h.drew.allocR hu (o:=.cells (bytesRow ⟨bs.toArray⟩ cap) e ((bytesRow ⟨bs.toArray⟩ cap).size,(bytesRow ⟨bs.toArray⟩ cap).size+1)) (r:=.byb bs.length fun i=>ph (bs.getD i 0)) (v:=.slice (some ⟨w.drew.heap.size,0,none⟩) bs.length cap) rfl rfl
            ⟨w.drew.heap.size,cap,bytesRow ⟨bs.toArray⟩ cap,e,hset,heap_alloc_new w.drew _,hge,hmx,hsz2,fun i hi=>⟨((bs.getD i 0).toNat:Int),rfl,by simp[bytesRow,Array.getElem?_append,hi,List.getD_eq_getElem?_getD]⟩⟩
           refine bw (by simp only[execOp,ho,hv,Sem.run_bind,hrun];rfl) ⟨_,hk,?_⟩;rw[hd]at hN ⊢;exact hm.fin (h0:=h0) hN (.buf _ _ hset rfl)
         · exact hk.elim
     · exact hk.elim
   · exact hels hk
end
end Go.Eng
namespace Go.Eng
open Go Go.MapKept
section
variable {P:Program} {T:ci} {A:mA} {G:Hp} {β:eP} {s:St} {a:Act} {w:World} {t:Array Value}
theorem tY {ks:List KK}{bs:List Nat}{c:Nat}{l:List (List DV×Value)}(hI:mi bs c (l.map (·.1)))(hw:∀p ∈ l,wk ks p.1=true){i j:Nat}{p q:List DV×Value}(hp:l[i]? =some p)(hq:l[j]? =some q)(h:p.1=q.1):i=j:=by
 have key:∀ (a b:Nat) (p q:List DV×Value),l[a]? =some p→l[b]? =some q→a<b→az p.1 q.1=false:=fun a b p q ha hb hab=>by
  obtain⟨ha,ea⟩:=List.getElem?_eq_some_iff.1 ha;obtain⟨hb,eb⟩:=List.getElem?_eq_some_iff.1 hb;have:=List.pairwise_iff_getElem.1 hI.2.2 a b (by simpa using ha) (by simpa using hb) hab;rw[List.getElem_map,List.getElem_map,ea,eb]at this;exact this
 have hself:az p.1 q.1=true:=by rw[←h];exact cd (hw p (List.mem_of_getElem? hp))
 rcases Nat.lt_trichotomy i j with h1|h1|h1
 · rw[key i j p q hp hq h1]at hself;cases hself
 · exact h1
 · have:=key j i q p hq hp h1;rw[←h,cd (hw p (List.mem_of_getElem? hp))]at this;cases this
theorem AP {ks:List KK}{bs:List Nat}{c:Nat}{l:List (List DV×Value)}(hI:mi bs c (l.map (·.1)))(hw:∀p ∈ l,wk ks p.1=true){p:List DV×Value}(hp:p ∈ l):l.find? (fun q=>az p.1 q.1)=some p:=by
 cases hf:l.find? (fun q=>az p.1 q.1)with
 | none=>
   have:=List.find?_eq_none.1 hf p hp
   rw[cd (hw p hp)]at this;simp at this
 | some q=>
   have hq:=List.mem_of_find?_eq_some hf;have hk:az p.1 q.1=true:=by simpa using List.find?_some hf
   have he:=ck (hw p hp) (hw q hq) hk;obtain⟨i,hi,rfl⟩:=List.getElem_of_mem hp;obtain⟨j,hj,rfl⟩:=List.getElem_of_mem hq;have:i=j:=tY hI hw (List.getElem?_eq_getElem hi) (List.getElem?_eq_getElem hj) he;subst this;rfl
def Ap (T:ci)(dst:Option Nat)(s:St)(av:List Nat)(ty:TypeId)(m x:SV)(k:cM→Prop):Prop:=av≠av
theorem GQ (hT:aQ P T){o:Oper}{ty:TypeId}{m x:Operand}(ho:o.op= .lookup ty m x false)(h0:a.defers= [])(h:MG A G β s a.tmps w)(hN:∀d,o.dst=some d→d<A.N){av:List Nat}
 {k:cM→Prop}(hk:Ap T o.dst s av ty (s.ev m) (s.ev x) k){Q:Exit→Act→World→Prop}:o.wp P a w (fun a' w' =>∃u,k u∧ib A (s.app u) a' w') Q:=absurd rfl hk
def Hs (T:ci)(dst:Option Nat)(s:St)(av:List Nat)(ty:TypeId)(m key x:SV)(k:cM→Prop):Prop:=av≠av
theorem GS (hT:aQ P T){o:Oper}{ty:TypeId}{m key x:Operand}(ho:o.op= .mapUpdate ty m key x)(h0:a.defers= [])(h:MG A G β s a.tmps w)(hN:∀d,o.dst=some d→d<A.N){av:List Nat}
 {k:cM→Prop}(hk:Hs T o.dst s av ty (s.ev m) (s.ev key) (s.ev x) k){Q:Exit→Act→World→Prop}:o.wp P a w (fun a' w' =>∃u,k u∧ib A (s.app u) a' w') Q:=absurd rfl hk
def nH (T:ci)(dst:Option Nat)(s:St)(ty:TypeId)(m key:SV)(k:cM→Prop):Prop:=
 nA T s ty m fun _ d ag va ks zr has val=>match si key with
  |some ky=>br (wk ks ky&&(iw key==ag)) (k ⟨dst,.tup [],[(d,some (.map ag va ks zr (fun q=> !az q ky&&has q) (fun q=>bif az q ky then zr else val q)))],[]⟩) False
  |none=>False
theorem so {ky:List DV}{l:List (List DV×Value)}(h:pg ky l 0=none):l.find? (fun p=>az ky p.1)=none:=by
 have:=lA (key:=ky) (l:=l) (i:=0);rw[h]at this
 cases hf:l.find? (fun p=>az ky p.1)with
 |none=>rfl
 |some p=>rw[hf]at this;cases this
theorem yI {ks:List KK}{ky:List DV}{bs:List Nat}{c:Nat}{l:List (List DV×Value)}(hI:mi bs c (l.map (·.1)))(hw:∀p ∈ l,wk ks p.1=true){i:Nat}{p:List DV×Value}(hp:l[i]? =some p)(hpk:p.1=ky)(q:List DV)(hq:wk ks q=true):
 (l.eraseIdx i).find? (fun p=>az q p.1)=if az q ky=true then none else l.find? (fun p=>az q p.1):=by
 have hpm:=List.mem_of_getElem? hp;have hky:wk ks ky=true:=by rw[←hpk];exact hw p hpm
 have hsub:List.Sublist (l.eraseIdx i) l:=List.eraseIdx_sublist l i
 by_cases hk:az q ky=true
 · rw[if_pos hk,List.find?_eq_none];intro z hz hzk;have hzm:=hsub.subset hz;have e1:=ck hq hky hk;have e2:=ck hq (hw z hzm) (by simpa using hzk);obtain⟨j,hj⟩:=List.mem_iff_getElem?.1 hz;rw[List.getElem?_eraseIdx]at hj;split at hj
   · have:=tY hI hw hp hj (by rw[hpk,←e1,e2]);omega
   · have:=tY hI hw hp hj (by rw[hpk,←e1,e2]);omega
 · rw [if_neg hk]
   cases hf:l.find? (fun p=>az q p.1)with
   | none=>
     rw[List.find?_eq_none]at hf ⊢
     exact fun z hz=>hf z (hsub.subset hz)
   | some z=>
     have hzm:=List.mem_of_find?_eq_some hf;have hzk:=ck hq (hw z hzm) (by simpa using List.find?_some hf)
     have hz2:z ∈ l.eraseIdx i:=by
      obtain⟨j,hj⟩:=List.mem_iff_getElem?.1 hzm
      have hji:j≠i:=fun e=>by
       subst e;rw[hp]at hj;cases hj;exact hk (by rw[hzk,hpk];exact cd hky)
      rw[List.mem_iff_getElem?];rcases Nat.lt_or_ge j i with h1|h1
      · exact⟨j,by rw[List.getElem?_eraseIdx,if_pos h1];exact hj⟩
      · exact⟨j - 1,by rw[List.getElem?_eraseIdx,if_neg (by omega),show j - 1+1=j by omega];exact hj⟩
     have hI':mi [] 0 ((l.eraseIdx i).map (·.1)):=⟨by simp,by simp,(hI.2.2).sublist (hsub.map _)⟩;have:=AP hI' (fun p hp=>hw p (hsub.subset hp)) hz2;rw[hzk];exact this
theorem lZ {α γ:Type}(f:α→γ):∀ (l:List α) (i:Nat),(l.eraseIdx i).map f=(l.map f).eraseIdx i:=by
 intro l
 induction l with
 |nil=>intro i;rfl
 | cons x l ih=>intro i;cases i with
   |zero=>rfl
   |succ i=>simp[ih]
theorem sY (hT:aQ P T){o:Oper}{c:Call}{m key:Operand}{ty ty2:TypeId}(ho:o.op= .call c)(hc:c.callee= .builtin .delete)(ha:c.args=#[m,key])(hty:c.argTypes=#[ty,ty2])(h0:a.defers= [])(h:MG A G β s a.tmps w)(hN:∀d,o.dst=some d→d<A.N)
 {k:cM→Prop}(hk:nH T o.dst s ty (s.ev m) (s.ev key) k){Q:Exit→Act→World→Prop}:o.wp P a w (fun a' w' =>∃u,k u∧ib A (s.app u) a' w') Q:=by
 unfold nH nA at hk;split at hk
 · rename_i kt vt sz by' z zq hT1;have hu:=(hT.get hT1).1;simp only at hu;split at hk
   · rename_i te d hte hme;split at hk
     · rename_i ag va ks zr has val hres;obtain⟨hq,hk⟩:=ax hk;rw[Bool.and_eq_true,Bool.and_eq_true]at hq;obtain⟨r,es,clock,l,hb,hh,hl,hw,hI,hf⟩:=h.rs _ _ hres;have hx:=h.ev m;rw[hme]at hx;generalize hmv:a.eval m=mv at hx
       cases hx with|mp _ _ hm _=>
       rw[hb]at hm;cases hm;split at hk
       · rename_i ky hky;obtain⟨hq2,hk⟩:=ax hk;rw[Bool.and_eq_true]at hq2;have hkv:=rq (h.ev key) hky hq2.1;rw[show iw (s.ev key)=ag by simpa using hq2.2]at hkv;have hget:(getObj r).run P w= .ok (.map es clock) w:=by simp[getObj,Sem.run,hh]
         have hset:∀ob,(setObj r ob).run P w= .ok () {w with heap:=w.heap.setIfInBounds r ob}:=fun ob=>by simp[setObj,Sem.run,hh]
         have hck:=fc (w:=w) hT hq.1 hq2.1 es.isEmpty;have hfk:=f9 (w:=w) hT hq.1 hq2.1 l es.toList hl hw;have hlt:r<w.heap.size:=(Array.getElem?_eq_some_iff.1 hh).1
         have key2:∃ (es':Array MapEntry) (l':List (List DV×Value)),(Builtin.delete_ #[ty,ty2] o.type #[.map (some r),bZ ag ky]).run P w= .ok (.tuple #[]) {w with heap:=w.heap.setIfInBounds r (.map es' clock)}∧
          es'.toList.map (fun e=>(e.key,e.val))=l'.map (fun p=>(bZ ag p.1,p.2))∧(∀p ∈ l',wk ks p.1=true)∧mi (es'.toList.map (·.born)) clock (l'.map (·.1))∧
          ∀q,wk ks q=true→l'.find? (fun p=>az q p.1)=if az q ky=true then none else l.find? (fun p=>az q p.1):=by
          cases hfn:pg ky l 0 with
          | none=>
            rw[hfn]at hfk;refine⟨es,l,?_,hl,hw,hI,fun q hq' => ?_⟩
            · simp[Builtin.delete_,run_underlying hu,hget,hck,hfk,hset]
            · split
              · rename_i hk';rw[ck hq' hq2.1 hk'];exact so hfn
              · rfl
          | some q=>
            obtain⟨i,u⟩:=q;rw[hfn]at hfk;obtain⟨_,p,hp1,hp2⟩:=oo hfn;rw[Nat.sub_zero]at hp1;have hpm:p ∈ l:=List.mem_of_getElem? hp1;have hpk:p.1=ky:=(ck hq2.1 (hw p hpm) hp2).symm
            have hlen:es.size=l.length:=by
             have:=congrArg List.length hl;simpa using this
            have hil:i<l.length:=(List.getElem?_eq_some_iff.1 hp1).1;have hes:(es.eraseIdxIfInBounds i).toList=es.toList.eraseIdx i:=by simp[Array.eraseIdxIfInBounds,hlen,hil]
            refine⟨es.eraseIdxIfInBounds i,l.eraseIdx i,?_,?_,fun p hp=>hw p ((List.eraseIdx_sublist l i).subset hp),?_,fun q hq' =>yI hI hw hp1 hpk q hq'⟩
            · simp[Builtin.delete_,run_underlying hu,hget,hck,hfk,hset]
            · rw[hes,lZ,hl,lZ]
            · rw[hes,lZ];refine⟨hI.1.sublist (List.eraseIdx_sublist _ _),fun b hb=>hI.2.1 b ((List.eraseIdx_sublist _ _).subset hb),?_⟩;have:(l.eraseIdx i).map (·.1)=(l.map (·.1)).eraseIdx i:=lZ _ _ _;rw[this];exact hI.2.2.sublist (List.eraseIdx_sublist _ _)
         obtain⟨es',l',hrun,hl',hw',hI',hf'⟩:=key2
         have hchg:=h.change (d:=d) (r:=.map ag va ks zr has val) (r':=.map ag va ks zr (fun q=> !az q ky&&has q) (fun q=>bif az q ky then zr else val q)) (v:=.map (some r)) (w':={w with heap:=w.heap.setIfInBounds r (.map es' clock)})
          hres rfl rfl hb rfl rfl rfl (by simp) (fun b hb' =>by
           have:b≠r:=fun e=>hb' (by rw[e];rfl)
           simp[Array.getElem?_setIfInBounds_ne (Ne.symm this)])
          ⟨r, es',clock,l',hb,by simp[hlt],hl',hw',hI',fun q hqk=>by
            rw[hf' q hqk]
            by_cases hqq:az q ky=true
            · rw[if_pos hqq];exact⟨by simp only[hqq,Bool.not_true,Bool.false_and],by simp only[hqq,cond_true]⟩
            · rw[if_neg hqq];have hqf:az q ky=false:=by simpa using hqq
              have:=hf q hqk;simp only[hqf,Bool.not_false,Bool.true_and,cond_false]
              exact this⟩
         have hexec:(execOp a.eval o).run P w= .ok (.value (.tuple #[])) {w with heap:=w.heap.setIfInBounds r (.map es' clock)}:=by
          simp[execOp,ho,resolve,hc,ha,hty,invoke,builtin,hmv,hkv,hrun]
         exact bw hexec ⟨_,hk,hchg.fin (h0:=h0) hN (.tup [] [] rfl (fun i x v hx=>by simp at hx))⟩
       · exact hk.elim
     · exact hk.elim
   · exact hk.elim
 · exact hk.elim
end
end Go.Eng
namespace Go.Eng
open Go
section
variable {P:Program} {T:ci} {A:mA} {G:Hp} {β:eP} {s:St} {a:Act} {w:World} {t:Array Value}
theorem MG.writeRow (h:MG A G β s t w){d e k n off:Nat}{get get':Nat→List DV}(hr:s.res d=some (.buf e k n get)){b cap:Nat}(hb:β d=some (.slice (some ⟨b,0,none⟩) n cap)){vals:List Value}
 (hle:off+vals.length≤n*k)(hl:∀i,i<n→(get' i).length=k)
 (hd:∀i j x,i<n→(get' i)[j]? =some x→if off≤i*k+j∧i*k+j<off+vals.length then ∃u,vals[i*k+j - off]? =some u∧aG G x u else(get i)[j]? =some x):
 ∃ cur,w.heap[b]? =some (.cells cur e (0,0))∧off+vals.length≤cur.size∧
  MG A G β (s.app ⟨none,.any,[(d,some (.buf e k n get'))],[]⟩) t (w.setRow b (cur.toList.take off++vals++cur.toList.drop (off+vals.length)).toArray):=by
 obtain⟨v,xs,hv,hown,hk0,hgl,hgd⟩:=h.rs _ _ hr;rw[hb]at hv;cases hv;have hxl:=hown.1;rcases hown.2 with⟨e1,_⟩|⟨g,cap',cur,e1,hbase,hh,hnc,hcm,hcz,htake⟩
 · cases e1
 cases e1;have hncap:n*k≤cap*k:=Nat.mul_le_mul_right _ hnc;refine⟨cur,hh,by omega,?_⟩;refine h.change (w':=w.setRow b (cur.toList.take off++vals++cur.toList.drop (off+vals.length)).toArray) hr rfl rfl hb rfl rfl rfl (by simp) (fun b2 hb2=>setRow_other w b b2 _ (fun q=>hb2 (by rw[q];rfl))) ?_;refine⟨_,xs.take off++vals++xs.drop (off+vals.length),hb,⟨by simp;omega,.inr ⟨b,cap,_,rfl,hbase,setRow_heap w b cur _ e _ hh,hnc,hcm,by simp;omega,?_⟩⟩,hk0,hl,?_⟩
 · apply List.ext_getElem?
   intro m;have q1:=bj xs vals off m (by omega);rw[q1];have q2:=bj cur.toList vals off m (by simp;omega)
   by_cases hm:m<n*k
   · rw[List.getElem?_take_of_lt hm,q2];split
     · rfl
     · rw[←htake,List.getElem?_take_of_lt hm]
   · rw[List.getElem?_take_eq_none (by omega),if_neg (by omega),List.getElem?_eq_none (by omega)]
 · intro i j x hi hx;have:=hd i j x hi hx;rw[bj xs vals off _ (by omega)];split at this
   · rename_i hq;rw[if_pos hq];exact this
   · rename_i hq;rw[if_neg hq];exact hgd i j x hi this
def sj (lo hi:Option SV)(n:Nat)(F:Int→Int→Prop):Prop:=gY hi n fun h=>gY lo 0 fun j=>F j h
theorem qY {lo hi:Option SV}{lov hiv:Option Value}(hlo:(lo=none∧lov=none)∨∃X v,lo=some X∧lov=some v∧ak G β X v)(hhi:(hi=none∧hiv=none)∨∃X v,hi=some X∧hiv=some v∧ak G β X v)
 {n:Nat}{F:Int→Int→Prop}(h:sj lo hi n F):
 ∃j k,((hiv=none∧k=(n:Int))∨∃kk,hiv=some (.int kk k))∧((lov=none∧j=(0:Int))∨∃kk,lov=some (.int kk j))∧F j k:=by
 unfold sj at h;rcases g7 hhi h with⟨h1,h⟩|⟨kk,k,h1,h⟩
 · rcases g7 hlo h with⟨h2,h⟩|⟨kj,j,h2,h⟩
   · exact⟨_,_,.inl ⟨h1,rfl⟩,.inl ⟨h2,rfl⟩,h⟩
   · exact⟨_,_,.inl ⟨h1,rfl⟩,.inr ⟨_,h2⟩,h⟩
 · rcases g7 hlo h with⟨h2,h⟩|⟨kj,j,h2,h⟩
   · exact⟨_,_,.inr ⟨_,h1⟩,.inl ⟨h2,rfl⟩,h⟩
   · exact⟨_,_,.inr ⟨_,h1⟩,.inr ⟨_,h2⟩,h⟩
def oD (T:ci)(ty:TypeId)(kk:Nat):Bool:=
 match T ty with
 | some ⟨.slice e,_,_,_,_⟩=>match T e with
   |some te=>Nat.beq kk te.size
   |none=>false
 |_=>false
theorem rI (hT:aQ P T){ty:TypeId}{kk:Nat}(h:oD T ty kk=true):∃e inf,P.underlying ty=some (.slice e)∧P.info? e=some inf∧inf.size=kk:=by
 unfold oD at h;split at h
 · rename_i e _ _ _ _ ht;have hu:=(hT.get ht).1;split at h
   · rename_i te hte;obtain⟨_,inf,hi,hsz,_,_⟩:=hT.get hte;exact⟨e,inf,hu,hi,by rw[hsz];exact(Nat.eq_of_beq_eq_true h).symm⟩
   · cases h
 · cases h
theorem uR (hT:aQ P T){ty:TypeId}{kk b lo0 n cap:Nat}(hs:oD T ty kk=true){lov hiv:Option Value}{j h:Int}
 (hh:(hiv=none∧h=(n:Int))∨∃kk,hiv=some (.int kk h))(hj:(lov=none∧j=(0:Int))∨∃kk,lov=some (.int kk j))(h0:0≤j)(h1:j≤h)(h2:h≤n)(h3:n≤cap):
 (Instr.sliceAt ty (.slice (some ⟨b,lo0,none⟩) n cap) lov hiv none).run P w= .ok (if cap=j.toNat then .slice (some ⟨b,lo0,none⟩) 0 0 else .slice (some ⟨b,lo0+j.toNat*kk,none⟩) (h - j).toNat (cap - j.toNat)) w:=by
 obtain⟨e,inf,hu,hi,hsz⟩:=rI hT hs;have hb:=gm (P:=P) (sl:=true) (len:=n) (cap:=cap) w hh hj h0 h1 h2 h3
 by_cases hm:cap=j.toNat
 · have e2:h.toNat - j.toNat=0:=by omega
   have e3:cap - j.toNat=0:=by omega
   rw[if_pos hm];subst hm;simp[Instr.sliceAt,Instr.slice,run_underlying hu,hb,aO hi,hsz];omega
 · have e2:h.toNat - j.toNat=(h - j).toNat:=by omega
   rw[if_neg hm];simp[Instr.sliceAt,Instr.slice,run_underlying hu,hb,aO hi,hsz,hm,e2,Addr.add_lit]
def nJ (T:ci)(dst:Option Nat)(s:St)(ty:TypeId)(d:Nat)(lo hi:Option SV)(k:cM→Prop):Prop:=
 match s.res d,dst with
 |some (.buf e kk n g),some d' =>br (oD T ty kk&&(!s.used d'&& !Nat.beq d' d)) (sj lo hi n fun j h=>(j=0∧0≤h∧h≤n)∧k ⟨some d',.buf d',[(d',some (.buf e kk h.toNat g)),(d,none)],[d']⟩) False
 |_,_=>False
def vx (T:ci)(dst:Option Nat)(s:St)(ty:TypeId)(x:SV)(lo hi:Option SV)(k:cM→Prop):Prop:=
 match x with
 | .buf d=>match s.res d with
   |some (.buf _ kk n _)=>br (oD T ty kk) (sj lo hi n fun j h=>(0≤j∧j<n∧j≤h∧h≤n)∧k ⟨dst,.sub d kk j.toNat (h - j).toNat,[],[]⟩) False
   |_=>False
 | .sub d kk lo0 n=>br (oD T ty kk) (sj lo hi n fun j h=>(0≤j∧j<n∧j≤h∧h≤n)∧k ⟨dst,.sub d kk (lo0+j.toNat) (h - j).toNat,[],[]⟩) False
 |_=>False
theorem tV (hT:aQ P T){o:Oper}{ty:TypeId}{x:Operand}{lo hi:Option Operand}(ho:o.op= .slice ty x lo hi none)(h0:a.defers= [])(h:MG A G β s a.tmps w)(hN:∀d,o.dst=some d→d<A.N)
 {d:Nat}(hx:s.ev x= .buf d){k:cM→Prop}(hk:nJ T o.dst s ty d (lo.map s.ev) (hi.map s.ev) k){Q:Exit→Act→World→Prop}:o.wp P a w (fun a' w' =>∃u,k u∧ib A (s.app u) a' w') Q:=by
 unfold nJ at hk;split at hk
 · rename_i e kk n g d' hres hdst;obtain⟨hq,hk⟩:=ax hk;simp only[Bool.and_eq_true,Bool.not_eq_true']at hq;obtain⟨q1,q2,q3⟩:=hq;have hdd:d'≠d:=fun e=>by rw[e]at q3;simp at q3
   obtain⟨j,hh,c1,c2,⟨rfl,c3,c4⟩,hk⟩:=qY (ji h lo) (ji h hi) hk;obtain⟨v,xs,hv,hown,hk0,hgl,hgd⟩:=h.rs _ _ hres;have hxv:=h.ev x;rw[hx]at hxv;generalize hvx:a.eval x=xv at hxv
   cases hxv with|buf _ _ hb _=>
   rw[hb]at hv;cases hv;have wY:=h.drop d;have hfree:(s.app ⟨none,.any,[(d,none)],[]⟩).used d' =false:=by simpa [St.app,yJ]using q2
   have key:∀v',(∃xs',w.ownsRow 0 e kk v' hh.toNat xs'∧∀i j x,i<hh.toNat→(g i)[j]? =some x→∃u,xs'[i*kk+j]? =some u∧aG G x u)→(gR v' =none∨gR v' =gR v)→v'.oneCell' =true→
    (execOp a.eval o).run P w= .ok (.value v') w→o.wp P a w (fun a' w' =>∃u,k u∧ib A (s.app u) a' w') Q:=by
    intro v' ⟨xs',hown',hden'⟩ hblk hone hrun;refine bw hrun ⟨_,hk,?_⟩;have hn:=wY.name (d:=d') hfree (r:=.buf e kk hh.toNat g) (v:=v') rfl (fun b hbv=> ?_) ⟨v',xs',by simp[eP.set],hown',hk0,fun i hi=>hgl i (by omega),hden'⟩
    · have:(s.app ⟨none,.any,[(d',some (.buf e kk hh.toNat g)),(d,none)],[d']⟩)=((s.app ⟨none,.any,[(d,none)],[]⟩).app ⟨none,.any,[(d',some (.buf e kk hh.toNat g))],[d']⟩):=rfl;rw[hdst]at hN ⊢;have hn':MG A G (β.set d' v') (s.app ⟨none,.any,[(d',some (.buf e kk hh.toNat g)),(d,none)],[d']⟩) a.tmps w:=by rw[this];exact hn
      exact hn'.fin (h0:=h0) hN (.buf _ _ (by simp[eP.set]) hone)
    · rcases hblk with hbn|hbe
      · rw[hbn]at hbv;cases hbv
      · rw[hbe]at hbv;obtain⟨g1,g2⟩:=h.og d _ v b hres rfl hb (.of hbv);refine⟨g1,g2,fun d2 r2 v2 hr2 ho2 hv2 hb2=> ?_⟩
        have hr2':s.res d2=some r2∧d2≠d:=by
         simp only[St.app,aA,aW]at hr2
         by_cases e:d2=d
         · subst e;simp at hr2
         · rw[aw e]at hr2;exact⟨by simpa using hr2,e⟩
        exact hr2'.2 (h.dj d2 d r2 _ v2 v b hr2'.1 hres ho2 rfl hv2 hb hb2 (.of hbv))
   rcases hown.2 with⟨rfl,rfl⟩|⟨gb,cap,cur,rfl,hbase,hhp,hnc,hcm,hcz,htake⟩
   · have e1:hh=0:=by omega
     subst e1;have hb':=gm (P:=P) (sl:=true) (len:=0) (cap:=0) w c1 c2 (by omega) (by omega) (by omega) (Nat.le_refl _);obtain⟨e',inf,hu,hi',hsz⟩:=rI hT q1;refine key (.slice none 0 0) ⟨[],World.ownsRow_nil w 0 e kk,fun i j x hi=>by omega⟩ (.inl rfl) rfl ?_;simp[execOp,ho,hvx,Instr.sliceAt,Instr.slice,run_underlying hu,hb',aO hi',hsz]
   · have hrc:=uR (w:=w) (b:=gb) (lo0:=0) hT q1 c1 c2 (by omega) (by omega) c4 hnc
     by_cases hc0:cap=0
     · subst hc0;have e1:n=0:=by omega
       have e2:hh.toNat=0:=by omega
       refine key (.slice (some ⟨gb,0,none⟩) 0 0) ⟨[],⟨by simp[e2],.inr ⟨gb,0,cur,by rw[e2],hbase,hhp,by omega,by omega,by rw[hcz],by simp[e2]⟩⟩,fun i j x hi=>by omega⟩ (.inr rfl) rfl ?_;simp only[execOp,ho,hvx,Option.map_none,Sem.run_bind,hrc];rfl
     · refine key (.slice (some ⟨gb,0,none⟩) hh.toNat cap) ⟨xs.take (hh.toNat*kk),⟨?_,.inr ⟨gb,cap,cur,rfl,hbase,hhp,by omega,hcm,hcz,?_⟩⟩,fun i j x hi hx=> ?_⟩ (.inr rfl) rfl ?_
       · rw[List.length_take,hown.1];exact Nat.min_eq_left (Nat.mul_le_mul_right _ (by omega))
       · rw[←htake,List.take_take,Nat.min_eq_left (Nat.mul_le_mul_right _ (by omega))]
       · obtain⟨u,hu,hd⟩:=hgd i j x (by omega) hx
         have hjk:j<kk:=by
          have:=(List.getElem?_eq_some_iff.1 hx).1;rw[hgl i (by omega)]at this;exact this
         have:i*kk+j<hh.toNat*kk:=by
          calc i*kk+j<i*kk+kk:=by omega
           _=(i+1)*kk:=by rw[Nat.add_mul,Nat.one_mul]
           _≤hh.toNat*kk:=Nat.mul_le_mul_right _ hi
         exact⟨u,by rw[List.getElem?_take_of_lt this];exact hu,hd⟩
       · have:¬ (cap=(0:Int).toNat):=by simpa using hc0
         simp only[execOp,ho,hvx,Option.map_none,Sem.run_bind,hrc];rw[if_neg this];simp
 · exact hk.elim
theorem yC (hT:aQ P T){o:Oper}{ty:TypeId}{x:Operand}{lo hi:Option Operand}(ho:o.op= .slice ty x lo hi none)(h0:a.defers= [])(h:MG A G β s a.tmps w)(hN:∀d,o.dst=some d→d<A.N)
 {k:cM→Prop}(hk:vx T o.dst s ty (s.ev x) (lo.map s.ev) (hi.map s.ev) k){Q:Exit→Act→World→Prop}:o.wp P a w (fun a' w' =>∃u,k u∧ib A (s.app u) a' w') Q:=by
 unfold vx at hk;have hxv:=h.ev x;generalize hvx:a.eval x=xv at hxv;split at hk
 · rename_i d hxe;rw[hxe]at hxv
   cases hxv with|buf _ _ hb _=>
   split at hk
   · rename_i e kk n g hres;obtain⟨q1,hk⟩:=ax hk;obtain⟨j,hh,c1,c2,⟨c3,c4,c5,c6⟩,hk⟩:=qY (ji h lo) (ji h hi) hk;obtain⟨v,xs,hv,hown,hk0,hgl,hgd⟩:=h.rs _ _ hres;rw[hb]at hv;cases hv;rcases hown.2 with⟨rfl,rfl⟩|⟨gb,cap,cur,rfl,hbase,hhp,hnc,hcm,hcz,htake⟩
     · omega
     · have hrc:=uR (w:=w) (b:=gb) (lo0:=0) hT q1 c1 c2 c3 c5 c6 hnc;rw[if_neg (by omega)]at hrc
       have hrun:(execOp a.eval o).run P w= .ok (.value (.slice (some ⟨gb,0+j.toNat*kk,none⟩) (hh - j).toNat (cap - j.toNat))) w:=by
        simp only[execOp,ho,hvx,Option.map_none,Sem.run_bind,hrc];rfl
       refine bw hrun ⟨_,hk,MG.fin (s:=s) (rs:= []) (us:= []) (h0:=h0) h hN ?_⟩;rw[Nat.zero_add];exact .sub d kk j.toNat (hh - j).toNat gb n cap hb (by omega)
   · exact hk.elim
 · rename_i d kk lo0 n hxe;rw[hxe]at hxv
   cases hxv with|sub _ _ _ _ b N cap hb hn=>
   obtain⟨q1,hk⟩:=ax hk;obtain⟨j,hh,c1,c2,⟨c3,c4,c5,c6⟩,hk⟩:=qY (ji h lo) (ji h hi) hk;have hcap:=hn.2;have hrc:=uR (w:=w) (b:=b) (lo0:=lo0*kk) (n:=n) (cap:=cap - lo0) hT q1 c1 c2 c3 c5 c6 (by omega);rw[if_neg (by omega)]at hrc
   have hrun:(execOp a.eval o).run P w= .ok (.value (.slice (some ⟨b,lo0*kk+j.toNat*kk,none⟩) (hh - j).toNat (cap - lo0 - j.toNat))) w:=by
    simp only[execOp,ho,hvx,Option.map_none,Sem.run_bind,hrc];rfl
   refine bw hrun ⟨_,hk,MG.fin (s:=s) (rs:= []) (us:= []) (h0:=h0) h hN ?_⟩;rw[←Nat.add_mul,Nat.sub_sub];exact .sub d kk (lo0+j.toNat) (hh - j).toNat b N cap hb (by omega)
 · exact hk.elim
def zk (T:ci)(dst:Option Nat)(s:St)(ty:TypeId)(x:SV)(k:cM→Prop):Prop:=
 match x with
 | .sub d kk lo n=>match s.res d,T ty with
   | some (.buf e kk' N g),some ⟨.slice el,_,_,_,_⟩=>match T el with
     | some te=>match bt te.zero with
       |some zr=>br (Nat.beq kk kk'&&Nat.beq zr.length kk) ((lo+n≤N)∧k ⟨dst,.tup [],[(d,some (.buf e kk' N fun i=>bif Nat.ble lo i&&Nat.blt i (lo+n)then zr else g i))],[]⟩) False
       |none=>False
     |none=>False
   |_,_=>False
 |_=>False
theorem Cn (hT : aQ P T){o:Oper}{c:Call}{x:Operand}{ty:TypeId}(ho:o.op= .call c)(hc:c.callee= .builtin .clear)(ha:c.args=#[x])(hty:c.argTypes=#[ty])(h0:a.defers= [])(h:MG A G β s a.tmps w)(hN:∀d,o.dst=some d→d<A.N)
 {k:cM→Prop}(hk:zk T o.dst s ty (s.ev x) k){Q:Exit→Act→World→Prop}:o.wp P a w (fun a' w' =>∃u,k u∧ib A (s.app u) a' w') Q:=by
 unfold zk at hk;have hxv:=h.ev x;generalize hvx:a.eval x=xv at hxv;split at hk
 · rename_i d kk lo n hxe;rw[hxe]at hxv
   cases hxv with|sub _ _ _ _ b N' cap hb hn=>
   split at hk
   · rename_i e kk' N g el _ _ _ _ hres hT1;have hu:=(hT.get hT1).1;simp only at hu;split at hk
     · rename_i te hte;obtain⟨_,inf,hi,hsz,_,hz⟩:=hT.get hte;split at hk
       · rename_i zr hzr;obtain⟨hq,hle,hk⟩:=ax hk;rw[Bool.and_eq_true]at hq;obtain rfl:kk=kk':=Nat.eq_of_beq_eq_true hq.1;have hzl:zr.length=kk:=Nat.eq_of_beq_eq_true hq.2
         obtain⟨zv,hzv,zl,zd,z1⟩:∃zv,te.zero=some zv∧zv.cells.size=zr.length∧(∀ (i:Nat) y u,zr[i]? =some y→zv.cells[i]? =some u→aG G y u)∧∀u ∈ zv.cells.toList,u.oneCell' =true:=by
          unfold bt at hzr;split at hzr
          · rename_i l hl;obtain⟨v,hv,z1,z2,z3,_⟩:=fC (G:=G) (β:=fun _=>none) hl;have hdl:=iY l zr hzr;subst hdl;refine⟨v,hv,by simpa using z1,fun i y u hy hu=> ?_,z3⟩;have:=z2 i (.d y) u (by rw[List.getElem?_map,hy];rfl) hu;cases this with|d _ _ h=>exact h
          · cases hzr
         have hres0:=hres;obtain⟨v,xs,hv,hown,hk0,hgl,hgd⟩:=h.rs _ _ hres;rw[hb]at hv;cases hv
         have hN':N=N':=by
          rcases hown.2 with⟨e1,_⟩|⟨g',cap',cur,e1,_⟩
          · cases e1
          · cases e1;rfl
         subst hN';have hzc:(Builtin.zeroCells zv.cells n).toList.length=n*kk:=by simp[Builtin.zeroCells,zl,hzl]
         have hzg:∀m,m<n*kk→(Builtin.zeroCells zv.cells n).toList[m]? =zv.cells[m%kk]? :=fun m hm=>by
          have hlt:m%kk<zv.cells.size:=by rw[zl,hzl];exact Nat.mod_lt _ hk0
          have e:zv.cells[m%kk]? =some (zv.cells[m%kk]!):=by simp[hlt]
          rw[e];simp[Builtin.zeroCells,zl,hzl,hm]
         have hone:∀u ∈ (Builtin.zeroCells zv.cells n).toList,u.oneCell' =true:=fun u hu=>by
          obtain⟨m,hm,rfl⟩:=List.getElem_of_mem hu;have:=hzg m (by rw[←hzc];exact hm);rw[List.getElem?_eq_getElem hm]at this;exact z1 _ (Array.mem_toList_iff.2 (Array.mem_of_getElem? this.symm))
         have hln:(lo+n)*kk≤N*kk:=Nat.mul_le_mul_right _ hle;rw[Nat.add_mul]at hln
         have hwr:=h.writeRow (get':=fun i=>bif Nat.ble lo i&&Nat.blt i (lo+n)then zr else g i) hres0 hb (off:=lo*kk) (vals:=(Builtin.zeroCells zv.cells n).toList) (by rw[hzc];omega)
          (fun i hi=>by
            show(bif Nat.ble lo i&&Nat.blt i (lo+n)then zr else g i).length=kk
            cases (Nat.ble lo i&&Nat.blt i (lo+n))with
            |true=>exact hzl
            |false=>exact hgl i hi)
          (fun i j y hi hy=>by
            replace hy:(bif Nat.ble lo i&&Nat.blt i (lo+n)then zr else g i)[j]? =some y:=hy
            rw[hzc]
            have hjk:j<kk:=by
             have h1:=(List.getElem?_eq_some_iff.1 hy).1
             cases hbb:(Nat.ble lo i&&Nat.blt i (lo+n))with
             |true=>rw[hbb]at h1;simp only[cond_true]at h1;omega
             |false=>rw[hbb]at h1;simp only[cond_false]at h1;rw[hgl i hi]at h1;exact h1
            by_cases hin:lo≤i∧i<lo+n
            · have hbb:(Nat.ble lo i&&Nat.blt i (lo+n))=true:=by
               rw[Bool.and_eq_true];exact⟨Nat.ble_eq_true_of_le hin.1,Nat.ble_eq_true_of_le hin.2⟩
              rw[hbb]at hy;simp only[cond_true]at hy
              have e1:i*kk+j=lo*kk+((i - lo)*kk+j):=by
               rw[←Nat.add_assoc,←Nat.add_mul];congr 2;omega
              have e2:(i - lo)*kk+j<n*kk:=by
               calc (i - lo)*kk+j<(i - lo)*kk+kk:=by omega
                _=(i - lo+1)*kk:=by rw[Nat.add_mul,Nat.one_mul]
                _≤n*kk:=Nat.mul_le_mul_right _ (by omega)
              rw[if_pos (by omega),e1,Nat.add_sub_cancel_left,hzg _ e2];have e3:((i - lo)*kk+j)%kk=j:=by rw[Nat.mul_comm,Nat.mul_add_mod,Nat.mod_eq_of_lt hjk]
              rw[e3];have hlt:j<zv.cells.size:=by rw[zl,hzl];exact hjk
              exact⟨_,Array.getElem?_eq_getElem hlt,zd j y _ hy (Array.getElem?_eq_getElem hlt)⟩
            · have hbb:(Nat.ble lo i&&Nat.blt i (lo+n))=false:=by
               cases hq:(Nat.ble lo i&&Nat.blt i (lo+n))with
               |false=>rfl
               | true=>
                 rw[Bool.and_eq_true]at hq;exact absurd ⟨Nat.le_of_ble_eq_true hq.1,Nat.le_of_ble_eq_true hq.2⟩ hin
              rw[hbb]at hy;simp only[cond_false]at hy;rw[if_neg]
              · exact hy
              · rintro⟨h1,h2⟩;apply hin
                constructor
                · refine Nat.not_lt.1 fun hlt=> ?_
                  have:(i+1)*kk≤lo*kk:=Nat.mul_le_mul_right _ hlt;rw[Nat.add_mul,Nat.one_mul]at this;omega
                · refine Nat.not_le.1 fun hge=> ?_
                  have:(lo+n)*kk≤i*kk:=Nat.mul_le_mul_right _ hge;rw[Nat.add_mul]at this
                  omega)
         obtain⟨cur,hh,hcs,hm⟩:=hwr
         by_cases hn0:n=0
         · subst hn0
           have hw0:w.setRow b (cur.toList.take (lo*kk)++(Builtin.zeroCells zv.cells 0).toList++cur.toList.drop (lo*kk+(Builtin.zeroCells zv.cells 0).toList.length)).toArray=w:=by
            have:(Builtin.zeroCells zv.cells 0).toList= []:=by simp[Builtin.zeroCells]
            rw[this];simp only[List.append_nil,List.length_nil,Nat.add_zero,List.take_append_drop,Array.toArray_toList];exact setRow_self w b cur e (0,0) hh
           rw[hw0]at hm;refine bw (w':=w) (v:=.tuple #[]) ?_ ⟨_,hk,hm.fin (h0:=h0) hN (.tup [] [] rfl (by simp))⟩;simp[execOp,ho,resolve,hc,ha,hty,invoke,builtin,Builtin.clear_,run_underlying hu,hvx]
         · have hst:=run_storeCells_at P b (lo*kk) e (Builtin.zeroCells zv.cells n).toList 0 cur w hh (by omega) hone;simp only[Nat.add_zero]at hst;refine bw (v:=.tuple #[]) ?_ ⟨_,hk,hm.fin (h0:=h0) hN (.tup [] [] rfl (by simp))⟩;obtain⟨m,rfl⟩:∃m,n=m+1:=⟨n - 1,by omega⟩;simp[execOp,ho,resolve,hc,ha,hty,invoke,builtin,Builtin.clear_,run_underlying hu,hvx,bW hi (hz.trans hzv),hst]
       · exact hk.elim
     · exact hk.elim
   · exact hk.elim
 · exact hk.elim
end
end Go.Eng
