/- TopDamagePaid is proved: for every input the law returns true, and its argument reads afterwards as it read before. Conditions: those of the given row alone. -/
import Derived.Test.YtghhghijalcdfaaGreatDoorAdEngOne
import Derived.MapKept
import Derived.Carry
import Derived.ChangeKeysEq
import Derived.Maps.RangeRun
import Derived.Laws.IdiomStrings
set_option linter.unusedVariables false
set_option linter.unusedSimpArgs false
namespace Go.Eng
open Go Go.MapKept
theorem kEq_self {a b:IntKind}(h:kEq a b=true):kEq a a=true:=by cases a<;>cases b<;>first|rfl|cases h
theorem str_beq (s t:List UInt8):(ByteArray.mk s.toArray==ByteArray.mk t.toArray)=(s==t):=by
 rw[beq_toListBytes,ByteArray.toList_eq,ByteArray.toList_eq]
theorem keyEq1_eq {k:KK}{x y:DV}(hx:wk1 k x=true)(hy:wk1 k y=true)(h:keyEq1 x y=true):x=y:=by
 cases k<;>cases x<;>simp[wk1]at hx<;>cases y<;>simp[wk1]at hy<;>simp[keyEq1]at h
 · rw[←kEq_eq hx,←kEq_eq hy,h]
 · rw[h]
 · rw[h]
theorem keyEq_eq:∀ {ks:List KK} {xs ys:List DV},wk ks xs=true→wk ks ys=true→keyEq xs ys=true→xs=ys:=by
 intro ks
 induction ks with
 |nil=>intro xs ys hx hy _;cases xs<;>cases ys<;>simp[wk]at hx hy;rfl
 | cons k ks ih=>
   intro xs ys hx hy h
   cases xs with
   |nil=>simp[wk]at hx
   | cons x xs=>
     cases ys with
     |nil=>simp[wk]at hy
     | cons y ys=>
       simp only[wk,Bool.and_eq_true]at hx hy;simp only[keyEq,Bool.and_eq_true]at h;rw[keyEq1_eq hx.1 hy.1 h.1,ih hx.2 hy.2 h.2]
theorem keyEq1_refl {k:KK}{x:DV}(hx:wk1 k x=true):keyEq1 x x=true:=by
 cases k<;>cases x<;>simp[wk1]at hx<;>simp[keyEq1]
theorem keyEq_refl:∀ {ks:List KK} {xs:List DV},wk ks xs=true→keyEq xs xs=true:=by
 intro ks
 induction ks with
 |nil=>intro xs hx;cases xs<;>simp[wk]at hx;rfl
 | cons k ks ih=>
   intro xs hx
   cases xs with
   |nil=>simp[wk]at hx
   | cons x xs=>
     simp only[wk,Bool.and_eq_true]at hx;simp only[keyEq,keyEq1_refl hx.1,ih hx.2,Bool.and_self]
theorem wk1_den {G:Hp}{k:KK}{x:DV}(hx:wk1 k x=true):DV.Den G x (cellV x)∧(cellV x).oneCell' =true:=by
 cases k<;>cases x<;>simp[wk1]at hx
 · exact⟨.int _ _,rfl⟩
 · exact⟨.str _,rfl⟩
 · exact⟨.bool _,rfl⟩
theorem wk_get:∀ {ks:List KK} {xs:List DV},wk ks xs=true→xs.length=ks.length∧∀ (i:Nat) k x,ks[i]? =some k→xs[i]? =some x→wk1 k x=true:=by
 intro ks
 induction ks with
 |nil=>intro xs hx;cases xs<;>simp[wk]at hx;simp
 | cons k ks ih=>
   intro xs hx
   cases xs with
   |nil=>simp[wk]at hx
   | cons x xs=>
     simp only[wk,Bool.and_eq_true]at hx;obtain⟨h1,h2⟩:=ih hx.2;refine⟨by simp[h1],fun i k' x' hk hx' => ?_⟩
     cases i with
     |zero=>simp at hk hx';subst hk;subst hx';exact hx.1
     |succ i=>exact h2 i k' x' (by simpa using hk) (by simpa using hx')
theorem key_value {G:Hp}{x:DV}{v:Value}{k:KK}(hx:wk1 k x=true)(hd:DV.Den G x v):v=cellV x:=by
 cases k<;>cases x<;>simp[wk1]at hx<;>cases hd<;>rfl
theorem key_values {G:Hp}{ks:List KK}{xs:List DV}{vs:List Value}(hx:wk ks xs=true)(hl:vs.length=xs.length)(hd:∀ (i:Nat) x v,xs[i]? =some x→vs[i]? =some v→DV.Den G x v):vs=xs.map cellV:=by
 obtain⟨h1,h2⟩:=wk_get hx;refine List.ext_getElem (by simp[hl]) (fun i hi hi' => ?_);rw[List.getElem_map];have hik:i<ks.length:=by rw[←h1,←hl];exact hi
 have hix:i<xs.length:=by rw[←hl];exact hi
 exact key_value (h2 i _ _ (List.getElem?_eq_getElem hik) (List.getElem?_eq_getElem hix)) (hd i _ _ (List.getElem?_eq_getElem hix) (List.getElem?_eq_getElem hi))
def sKK (T:Tab)(t:TypeId)(k:KK):Bool:=
 match T t,k with
 |some ⟨.int a,_,_,_,_⟩,.int b=>kEq a b
 |some ⟨.string,_,_,_,_⟩,.str=>true
 |some ⟨.bool,_,_,_,_⟩,.bool=>true
 |_,_=>false
def fkk (T:Tab):Nat→List Field→List KK→Bool
 |_,[],[]=>true
 |i,f::r,k::ks=>Nat.beq f.offset i&&sKK T f.type k&&fkk T (i+1) r ks
 |_,_,_=>false
def arrOk (T:Tab)(n:Nat)(e:TypeId)(ks:List KK):Bool:=
 match T e with
 |some te=>Nat.beq te.size 1&&Nat.beq ks.length n&&ks.all (sKK T e)
 |none=>false
def keyOk (T:Tab)(kt:TypeId)(ag:Bool)(ks:List KK):Bool:=
 match ag,ks with
 |false,[k]=>sKK T kt k
 | true,ks=>match T kt with
   |some ⟨.struct fs,_,_,_,ok⟩=>ok&&fkk T 0 fs.toList ks
   |some ⟨.array n e,_,_,_,_⟩=>arrOk T n e ks
   |_=>false
 |_,_=>false
section
variable {P:Program} {T:Tab} {A:Amb} {G:Hp} {β:Env} {s:St} {a:Act} {w:World} {t:Array Value}
theorem eqE_key {n:Nat}{t:TypeId}{k:KK}{x y:DV}{r r':List SV}(h:sKK T t k=true)(hx:wk1 k x=true)(hy:wk1 k y=true):eqE T (n+1) t (.d x::r) (.d y::r')=some (keyEq1 x y):=by
 unfold sKK at h;split at h
 · rename_i q1 q2 q3 q4 q5 q6 ht;cases x<;>simp[wk1]at hx
   cases y<;>simp[wk1]at hy
   rename_i k1 _ k2 _;have:kEq k1 k2=true:=by rw[←kEq_eq hx,←kEq_eq hy];exact kEq_self hx
   simp[eqE,ht,this,keyEq1]
 · rename_i q1 q2 q3 q4 ht;cases x<;>simp[wk1]at hx
   cases y<;>simp[wk1]at hy
   simp[eqE,ht,keyEq1]
 · rename_i q1 q2 q3 q4 ht;cases x<;>simp[wk1]at hx
   cases y<;>simp[wk1]at hy
   simp[eqE,ht,keyEq1]
 · cases h
theorem eqF_key {n:Nat}:∀ {fs:List Field} {ks:List KK} {i:Nat} {K K':List DV},fkk T i fs ks=true→wk ks (K.drop i)=true→wk ks (K'.drop i)=true→
 eqF (eqE T (n+1)) fs (K.map .d) (K'.map .d)=some (keyEq (K.drop i) (K'.drop i)):=by
 intro fs
 induction fs with
 | nil =>
   intro ks i K K' h h1 h2
   cases ks with
   | nil=>
     cases hk:K.drop i with
     | nil=>cases hk':K'.drop i with
       |nil=>rfl
       |cons y ys=>rw[hk']at h2;simp[wk]at h2
     |cons y ys=>rw[hk]at h1;simp[wk]at h1
   |cons k ks=>simp[fkk]at h
 | cons f fs ih=>
   intro ks i K K' h h1 h2
   cases ks with
   |nil=>simp[fkk]at h
   | cons k ks=>
     simp only[fkk,Bool.and_eq_true]at h;have ho:f.offset=i:=Nat.eq_of_beq_eq_true h.1.1
     cases hk:K.drop i with
     |nil=>rw[hk]at h1;simp[wk]at h1
     | cons x xs=>
       cases hk':K'.drop i with
       |nil=>rw[hk']at h2;simp[wk]at h2
       | cons y ys=>
         rw[hk]at h1;rw[hk']at h2;simp only[wk,Bool.and_eq_true]at h1 h2;have e1:K.drop (i+1)=xs:=by rw[←List.drop_drop,hk];rfl
         have e2:K'.drop (i+1)=ys:=by rw[←List.drop_drop,hk'];rfl
         have:=ih (ks:=ks) (i:=i+1) (K:=K) (K':=K') h.2 (by rw[e1];exact h1.2) (by rw[e2];exact h2.2);rw[e1,e2]at this;simp only[eqF,ho,←List.map_drop,hk,hk',List.map_cons,eqE_key h.1.2 h1.1 h2.1,this,keyEq]
def fnd (key:List DV):List (List DV×Value)→Nat→Option (Nat×Value)
 | [],_=>none
 |p::r,i=>if keyEq key p.1=true then some (i,p.2)else fnd key r (i+1)
theorem fnd_find {key:List DV}:∀ {l:List (List DV×Value)} {i:Nat},(fnd key l i).map (·.2)=(l.find? fun p=>keyEq key p.1).map (·.2):=by
 intro l
 induction l with
 |nil=>intro i;rfl
 | cons p l ih=>
   intro i;simp only[fnd,List.find?_cons]
   cases keyEq key p.1 with
   |true=>rfl
   |false=>simpa using ih
theorem den_cells (key:List DV)(ks:List KK)(h:wk ks key=true):DenL G β (key.map .d) (key.map cellV):=by
 obtain⟨h1,h2⟩:=wk_get h;refine⟨by simp,fun i x v hx hv=> ?_⟩;rw[List.getElem?_map]at hx hv
 cases hk:key[i]? with
 |none=>rw[hk]at hx;cases hx
 | some z=>
   rw[hk]at hx hv;cases hx;cases hv;have hi:i<ks.length:=by rw[←h1];exact(List.getElem?_eq_some_iff.1 hk).1
   exact .d _ _ (wk1_den (h2 i _ z (List.getElem?_eq_getElem hi) hk)).1
theorem scalar_desc (hT:TabOk P T){kt:TypeId}{k:KK}(h:sKK T kt k=true):∃d,P.underlying kt=some d∧(∀x,wk1 k x=true→IsKey d (cellV x))∧∀x y,wk1 k x=true→wk1 k y=true→Instr.sameNow d (cellV x) (cellV y)=some (keyEq1 x y):=by
 unfold sKK at h;split at h
 · rename_i ka _ _ _ _ _ kb ht;refine⟨_,(hT.get ht).1,fun x hx=> ?_,fun x y hx hy=> ?_⟩
   · cases x<;>simp[wk1]at hx
     rw[←kEq_eq hx];exact(kEq_eq h).symm
   · cases x<;>simp[wk1]at hx
     cases y<;>simp[wk1]at hy
     have:=kEq_eq hx;have:=kEq_eq hy;subst_vars;simp[Instr.sameNow,cellV,keyEq1,str_beq]
 · rename_i ht;refine⟨_,(hT.get ht).1,fun x hx=> ?_,fun x y hx hy=> ?_⟩
   · cases x<;>simp[wk1]at hx;trivial
   · cases x<;>simp[wk1]at hx
     cases y<;>simp[wk1]at hy
     simp[Instr.sameNow,cellV,keyEq1,str_beq]
 · rename_i ht;refine⟨_,(hT.get ht).1,fun x hx=> ?_,fun x y hx hy=> ?_⟩
   · cases x<;>simp[wk1]at hx;trivial
   · cases x<;>simp[wk1]at hx
     cases y<;>simp[wk1]at hy
     simp[Instr.sameNow,cellV,keyEq1,str_beq]
 · cases h
theorem single_key {k:KK}{key:List DV}(h:wk [k] key=true):∃x,key= [x]∧wk1 k x=true:=by
 cases key with
 |nil=>simp[wk]at h
 | cons x xs=>cases xs with
   |nil=>exact⟨x,rfl,by simpa [wk]using h⟩
   |cons y ys=>simp[wk]at h
theorem sKK_part (hT:TabOk P T){t:TypeId}{k:KK}{v:Value}{r:List Value}(h:sKK T t k=true):PartOf T t (v::r) v:=by
 unfold sKK at h;split at h
 · rename_i hti;exact⟨_,hti,.inl ⟨rfl,r,rfl⟩⟩
 · rename_i hti;exact⟨_,hti,.inl ⟨rfl,r,rfl⟩⟩
 · rename_i hti;exact⟨_,hti,.inl ⟨rfl,r,rfl⟩⟩
 · cases h
theorem arrOk_get (hT:TabOk P T){n:Nat}{e:TypeId}{ks:List KK}(h:arrOk T n e ks=true):P.cellsOf e=1∧(∃inf,P.info? e=some inf∧inf.size=1)∧ks.length=n∧∀k ∈ ks,sKK T e k=true:=by
 unfold arrOk at h;split at h
 · rename_i te hte;rw[Bool.and_eq_true,Bool.and_eq_true,List.all_eq_true]at h;obtain⟨_,inf,hi,hsz,_,_⟩:=hT.get hte;have h1:inf.size=1:=by rw[hsz];exact Nat.eq_of_beq_eq_true h.1.1
   refine⟨?_,⟨inf,hi,h1⟩,Nat.eq_of_beq_eq_true h.1.2,h.2⟩;have q1:=run_sizeOf (default:World) hi;have q2:=run_sizeOf' hi (default:World);have q3:=q1.symm.trans q2;injection q3 with q4 _
   exact q4.trans h1
 · cases h
theorem eqItems_key (hT:TabOk P T){e:TypeId}{d:Nat}(hd:1≤d):∀ {ks:List KK} {i:Nat} {K K':List DV},(∀k ∈ ks,sKK T e k=true)→wk ks (K.drop i)=true→wk ks (K'.drop i)=true→
 (Op.eqItems d e 1 (K.map cellV).toArray (K'.map cellV).toArray (List.range' i ks.length)).run P w= .ok (keyEq (K.drop i) (K'.drop i)) w:=by
 intro ks
 induction ks with
 | nil=>
   intro i K K' _ h1 h2
   cases hk:K.drop i with
   |cons x xs=>rw[hk]at h1;simp[wk]at h1
   | nil=>cases hk':K'.drop i with
     |nil=>rfl
     |cons y ys=>rw[hk']at h2;simp[wk]at h2
 | cons k ks ih=>
   intro i K K' h h1 h2
   cases hk:K.drop i with
   |nil=>rw[hk]at h1;simp[wk]at h1
   | cons x xs=>
     cases hk':K'.drop i with
     |nil=>rw[hk']at h2;simp[wk]at h2
     | cons y ys=>
       rw[hk]at h1;rw[hk']at h2;simp only[wk,Bool.and_eq_true]at h1 h2;have e1:K.drop (i+1)=xs:=by rw[←List.drop_drop,hk];rfl
       have e2:K'.drop (i+1)=ys:=by rw[←List.drop_drop,hk'];rfl
       have hs:=h k List.mem_cons_self;have p1:(part e (K.map cellV).toArray (i*1)).run P w= .ok (cellV x) w:=part_run hT (by rw[Nat.mul_one,←List.map_drop,hk];exact sKK_part hT hs);have p2:(part e (K'.map cellV).toArray (i*1)).run P w= .ok (cellV y) w:=part_run hT (by rw[Nat.mul_one,←List.map_drop,hk'];exact sKK_part hT hs)
       obtain⟨v,u,hv,hu,hr⟩:=eqE_sound (P:=P) (w:=w) (G:=fun _=>none) (β:=fun _=>none) hT 1 d hd e _ _ _ (eqE_key (n:=0) (r:= []) (r':= []) hs h1.1 h2.1) [cellV x] [cellV y]
        (by simpa using den_cells [x] [k] (by simp[wk,h1.1])) (by simpa using den_cells [y] [k] (by simp[wk,h2.1]))
       have ev:v=cellV x:=by
        obtain⟨ti,hti,q|q⟩:=hv
        · obtain⟨_,r,hr⟩:=q;cases hr;rfl
        · obtain⟨ti',ht',q'⟩:=sKK_part (v:=cellV x) (r:= []) hT hs;rcases q' with⟨qa,_⟩|⟨_,qb⟩
          · rw[hti]at ht';cases ht';rw[q.1]at qa;cases qa
          · exact absurd qb (by cases x<;>simp[cellV])
       have eu:u=cellV y:=by
        obtain⟨ti,hti,q|q⟩:=hu
        · obtain⟨_,r,hr⟩:=q;cases hr;rfl
        · obtain⟨ti',ht',q'⟩:=sKK_part (v:=cellV y) (r:= []) hT hs;rcases q' with⟨qa,_⟩|⟨_,qb⟩
          · rw[hti]at ht';cases ht';rw[q.1]at qa;cases qa
          · exact absurd qb (by cases y<;>simp[cellV])
       subst ev;subst eu;rw[List.length_cons,List.range'_succ];simp only[Op.eqItems,Sem.run_bind,p1,p2,hr,Result.andThen_ok,keyEq];have hrec:=ih (i:=i+1) (K:=K) (K':=K') (fun k hk=>h k (List.mem_cons_of_mem _ hk)) (by rw[e1];exact h1.2) (by rw[e2];exact h2.2);rw[e1,e2]at hrec
       cases keyEq1 x y with
       |false=>simp
       |true=>simpa using hrec
theorem find_asking {kt:TypeId}{desc:TypeDesc}(hu:P.underlying kt=some desc){ks:List KK}{key:List DV}(hsn:∀v,Instr.sameNow desc (keyV true key) v=none)
 (heq:∀key',wk ks key' =true→(Op.equal kt (keyV true key) (keyV true key')).run P w= .ok (keyEq key key') w)(l:List (List DV×Value))(es:List MapEntry)
 (hl:es.map (fun e=>(e.key,e.val))=l.map (fun p=>(keyV true p.1,p.2)))(hw:∀p ∈ l,wk ks p.1=true):(Instr.findKey kt (keyV true key) es).run P w= .ok (fnd key l 0) w:=by
 have ask:∀ (l:List (List DV×Value)) (es:List MapEntry) (i:Nat),es.map (fun e=>(e.key,e.val))=l.map (fun p=>(keyV true p.1,p.2))→(∀p ∈ l,wk ks p.1=true)→(Instr.findAsking kt (keyV true key) es i).run P w= .ok (fnd key l i) w:=by
  intro l
  induction l with
  | nil=>intro es i h _;cases es with
    |nil=>rfl
    |cons e es=>simp at h
  | cons p l ih=>
    intro es i h hw
    cases es with
    |nil=>simp at h
    | cons e es=>
      simp only[List.map_cons,List.cons.injEq,Prod.mk.injEq]at h;obtain⟨⟨h1,h2⟩,h3⟩:=h;unfold Instr.findAsking;rw[Sem.run_bind,h1,heq _ (hw p List.mem_cons_self)];simp only[Result.andThen_ok,fnd]
      cases keyEq key p.1 with
      |true=>simp[h2]
      |false=>simpa using ih es (i+1) h3 (fun q hq=>hw q (List.mem_cons_of_mem _ hq))
 cases es with
 | nil=>
   cases l with
   |nil=>exact run_findKey hu rfl
   |cons p l=>simp at hl
 | cons e es=>
   unfold Instr.findKey;rw[Sem.run_bind,run_underlying hu];simp only[Result.andThen_ok];have:Instr.findNow desc (keyV true key) (e::es) 0=none:=by simp[Instr.findNow,hsn]
   rw[this];exact ask l (e::es) 0 hl hw
theorem run_findKey' (hT:TabOk P T){kt:TypeId}{ag:Bool}{ks:List KK}(hk:keyOk T kt ag ks=true){key:List DV}(hkey:wk ks key=true)(l:List (List DV×Value))(es:List MapEntry)
 (hl:es.map (fun e=>(e.key,e.val))=l.map (fun p=>(keyV ag p.1,p.2)))(hw:∀p ∈ l,wk ks p.1=true):(Instr.findKey kt (keyV ag key) es).run P w= .ok (fnd key l 0) w:=by
 unfold keyOk at hk;split at hk
 · rename_i k;obtain⟨d,hd,_,hsame⟩:=scalar_desc hT hk;refine run_findKey hd ?_;obtain⟨x,rfl,hx⟩:=single_key hkey
   have:∀ (l:List (List DV×Value)) (es:List MapEntry) (i:Nat),es.map (fun e=>(e.key,e.val))=l.map (fun p=>(keyV false p.1,p.2))→(∀p ∈ l,wk [k] p.1=true)→Instr.findNow d (keyV false [x]) es i=some (fnd [x] l i):=by
    intro l
    induction l with
    | nil=>intro es i h _;cases es with
      |nil=>rfl
      |cons e es=>simp at h
    | cons p l ih=>
      intro es i h hw
      cases es with
      |nil=>simp at h
      | cons e es=>
        simp only[List.map_cons,List.cons.injEq,Prod.mk.injEq]at h;obtain⟨⟨h1,h2⟩,h3⟩:=h;obtain⟨y,hy1,hy2⟩:=single_key (hw p List.mem_cons_self);have hs:Instr.sameNow d (keyV false [x]) e.key=some (keyEq1 x y):=by rw[h1,hy1];exact hsame x y hx hy2
        simp only[Instr.findNow,hs,fnd,hy1,keyEq,Bool.and_true]
        cases keyEq1 x y with
        |true=>simp[h2]
        |false=>simpa using ih es (i+1) h3 (fun q hq=>hw q (List.mem_cons_of_mem _ hq))
   exact this l es 0 hl hw
 · split at hk
   · rename_i fs sz by' z ok ht;rw[Bool.and_eq_true]at hk;obtain⟨hu,_⟩:=hT.get ht;simp only at hu;have hfit:=hT.eqok ht hk.1;unfold eqFits at hfit;rw[Bool.and_eq_true,Bool.and_eq_true]at hfit;have hfo:P.fieldsOf kt=fs:=by unfold Program.fieldsOf;rw[hu]
     rw[hfo]at hfit;have hst:P.stoodInHeld kt=false:=by simpa using hfit.1.1
     have heq:∀key',wk ks key' =true→(Op.equal kt (keyV true key) (keyV true key')).run P w= .ok (keyEq key key') w:=fun key' hk' =>by
      unfold Op.equal keyV;rw[show Op.maxDepth=9999+1 from rfl,run_equalIn_struct w 9999 kt _ _ (by rw[hfo];exact hu) hst,hfo];have:=eqF_key (n:=19) (K:=key) (K':=key') hk.2 (by simpa using hkey) (by simpa using hk');simp only[List.drop_zero]at this;exact eqF_sound (G:=fun _=>none) (β:=fun _=>none) hT (eqE_sound hT 20 9999 (by omega)) fs.toList hfit.2 this (den_cells key ks hkey) (den_cells key' ks hk')
     exact find_asking hu (fun v=>by simp[Instr.sameNow]) heq l es hl hw
   · rename_i n e sz by' z ok ht;obtain⟨hu,_⟩:=hT.get ht;simp only at hu;obtain⟨q1,⟨inf,q2,_⟩,q3,q4⟩:=arrOk_get hT hk;refine find_asking hu (fun v=>by simp[Instr.sameNow]) (fun key' hk' => ?_) l es hl hw;unfold Op.equal keyV;rw[show Op.maxDepth=9999+1 from rfl,run_equalIn_array w 9999 _ _ hu q2,q1,List.range_eq_range',←q3];have:=eqItems_key (w:=w) (d:=9999) hT (by omega) (ks:=ks) (i:=0) (K:=key) (K':=key') q4 (by simpa using hkey) (by simpa using hk');simpa using this
   · cases hk
 · cases hk
theorem run_checkKey' (hT:TabOk P T){kt:TypeId}{ag:Bool}{ks:List KK}(hk:keyOk T kt ag ks=true){key:List DV}(hkey:wk ks key=true)(em:Bool):(Instr.checkKey em 10000 kt (keyV ag key)).run P w= .ok () w:=by
 unfold keyOk at hk;split at hk
 · rename_i k;obtain⟨d,hd,h1,_⟩:=scalar_desc hT hk;obtain⟨x,rfl,hx⟩:=single_key hkey;exact run_checkKey hd (h1 x hx) em 9999
 · split at hk
   · rename_i fs sz by' z ok ht;rw[Bool.and_eq_true]at hk;obtain⟨hu,_⟩:=hT.get ht;simp only at hu
     have key' :∀ (fs:List Field) (ks:List KK) (i:Nat),fkk T i fs ks=true→wk ks (key.drop i)=true→
      (forIn fs PUnit.unit (fun f _=>if f.name≠ "_" then(do let c←part f.type (key.map cellV).toArray f.offset;Instr.checkKey em 9999 f.type c;pure (ForInStep.yield PUnit.unit))else pure (ForInStep.yield PUnit.unit)):Sem PUnit).run P w= .ok PUnit.unit w:=by
      intro fs
      induction fs with
      |nil=>intro ks i _ _;rfl
      | cons f fs ih=>
        intro ks i h h1
        cases ks with
        |nil=>simp[fkk]at h
        | cons k ks=>
          simp only[fkk,Bool.and_eq_true]at h;have ho:f.offset=i:=Nat.eq_of_beq_eq_true h.1.1
          cases hkd:key.drop i with
          |nil=>rw[hkd]at h1;simp[wk]at h1
          | cons x xs=>
            rw[hkd]at h1;simp only[wk,Bool.and_eq_true]at h1;have e1:key.drop (i+1)=xs:=by rw[←List.drop_drop,hkd];rfl
            obtain⟨d,hd,hk1,hsm⟩:=scalar_desc hT h.1.2
            have hpart:(part f.type (key.map cellV).toArray f.offset).run P w= .ok (cellV x) w:=by
             refine part_run hT ?_;have hs:=h.1.2;clear hk1 hd hsm;unfold sKK at hs;split at hs
             · rename_i hti;exact⟨_,hti,.inl ⟨rfl,xs.map cellV,by rw[ho,←List.map_drop,hkd];rfl⟩⟩
             · rename_i hti;exact⟨_,hti,.inl ⟨rfl,xs.map cellV,by rw[ho,←List.map_drop,hkd];rfl⟩⟩
             · rename_i hti;exact⟨_,hti,.inl ⟨rfl,xs.map cellV,by rw[ho,←List.map_drop,hkd];rfl⟩⟩
             · cases hs
            have hc:=run_checkKey (P:=P) (w:=w) hd (hk1 x h1.1) em 9998;have hr:=ih ks (i+1) h.2 (by rw[e1];exact h1.2);rw[List.forIn_cons]
            by_cases hn:f.name= "_"
            · simp only[hn,ne_eq,not_true_eq_false,if_false,Sem.run_bind,Sem.run_pure,Result.andThen_ok];exact hr
            · simp only[ne_eq,hn,not_false_eq_true,if_true,Sem.run_bind,hpart,hc,Sem.run_pure,Result.andThen_ok];exact hr
     unfold Instr.checkKey;rw[Sem.run_bind,run_underlying hu];simp only[Result.andThen_ok,keyV];rw[←Array.forIn_toList];have:=key' fs.toList ks 0 hk.2 (by simpa using hkey);rw[Sem.run_bind,this];rfl
   · rename_i n e sz by' z ok ht;obtain⟨hu,_⟩:=hT.get ht;simp only at hu;obtain⟨q1,⟨inf,q2,q2'⟩,q3,q4⟩:=arrOk_get hT hk
     have each:∀ (ks:List KK) (i:Nat),(∀k ∈ ks,sKK T e k=true)→wk ks (key.drop i)=true→
      (forIn (List.range' i ks.length) PUnit.unit (fun j _=>do Instr.checkKey em 9999 e (←part e (key.map cellV).toArray (j*(←sizeOf e)));pure (ForInStep.yield PUnit.unit)):Sem PUnit).run P w= .ok PUnit.unit w:=by
      intro ks
      induction ks with
      |nil=>intro i _ _;rfl
      | cons k ks ih=>
        intro i h h1
        cases hkd:key.drop i with
        |nil=>rw[hkd]at h1;simp[wk]at h1
        | cons x xs=>
          rw[hkd]at h1;simp only[wk,Bool.and_eq_true]at h1;have e1:key.drop (i+1)=xs:=by rw[←List.drop_drop,hkd];rfl
          have hs:=h k List.mem_cons_self;obtain⟨dd,hd,hk1,_⟩:=scalar_desc hT hs;have hpart:(part e (key.map cellV).toArray (i*1)).run P w= .ok (cellV x) w:=part_run hT (by rw[Nat.mul_one,←List.map_drop,hkd];exact sKK_part hT hs);have hc:=run_checkKey (P:=P) (w:=w) hd (hk1 x h1.1) em 9998;have hr:=ih (i+1) (fun k hk=>h k (List.mem_cons_of_mem _ hk)) (by rw[e1];exact h1.2);rw[List.length_cons,List.range'_succ,List.forIn_cons];simp only[Sem.run_bind,run_sizeOf' q2,q2',hpart,hc,Sem.run_pure,Result.andThen_ok];exact hr
     unfold Instr.checkKey;rw[Sem.run_bind,run_underlying hu];simp only[Result.andThen_ok,keyV];simp only[Std.Legacy.Range.forIn_eq_forIn_range',Std.Legacy.Range.size,Nat.sub_zero,Nat.add_one_sub_one,Nat.div_one];have:=each ks 0 q4 (by simpa using hkey);rw[q3]at this;rw[Sem.run_bind,this];rfl
   · cases hk
 · cases hk
def rowD (x:SV):Option (List DV):=
 match flat x with
 |some l=>dvs l
 |none=>none
def rowSV (va:Bool)(row:List DV)(k:SV→Prop):Prop:=
 match va,row with
 |true,row=>k (.agg (row.map .d))
 |false,x::_=>k (.d x)
 |false,[]=>False
theorem rowSV_den {va:Bool}{row:List DV}{v:Value}(h:RowDen G va row v){k:SV→Prop}(hk:rowSV va row k):∃x,SV.Den G β x v∧k x:=by
 cases va with
 | true=>
   obtain⟨vs,rfl,h1,h2⟩:=h;refine⟨_,.agg (row.map .d) vs (by simpa using h1) (fun i x u hx hu=> ?_),hk⟩;rw[List.getElem?_map]at hx
   cases hr:row[i]? with
   |none=>rw[hr]at hx;cases hx
   |some z=>rw[hr]at hx;cases hx;exact .d _ _ (h2 i z u hr hu)
 | false=>
   obtain⟨x,rfl,h2⟩:=h;exact⟨_,.d _ _ h2,hk⟩
def aggSV:SV→Bool
 | .agg _=>true
 |_=>false
theorem key_of {x:SV}{key:List DV}{ks:List KK}{v:Value}(hd:SV.Den G β x v)(hr:rowD x=some key)(hkey:wk ks key=true):
 v=keyV (aggSV x) key:=by
 unfold rowD at hr;split at hr
 · rename_i l hf;have hl:=dvs_get l key hr;unfold flat at hf;split at hf
   · rename_i l'
     cases hc:l'.all (·.cellish)with
     |false=>rw[hc]at hf;cases hf
     | true=>
       rw[hc]at hf;cases hf
       cases hd with|agg _ vs hlen hden=>
       subst hl
       have:=key_values (G:=G) hkey (vs:=vs) (by simpa using hlen) (fun i x v hx hv=>by
        have:=hden i (.d x) v (by rw[List.getElem?_map,hx];rfl) hv
        cases this with|d _ _ h=>exact h)
       rw[this];rfl
   · rename_i hna
     cases hc:x.cellish with
     |false=>rw[hc]at hf;cases hf
     | true=>
       rw[hc]at hf;cases hf
       cases key with
       |nil=>simp at hl
       | cons z zs=>
         cases zs with
         |cons y ys=>simp at hl
         | nil=>
           simp at hl;subst hl
           cases hd with|d _ _ h=>
           obtain⟨h1,h2⟩:=wk_get hkey;have hk0:ks[0]? =some (ks[0]'(by rw[←h1];simp)):=List.getElem?_eq_getElem _;exact key_value (h2 0 _ z hk0 rfl) h
 · cases hr
def zshape (va:Bool):Option Value→Bool
 |some (.agg _)=>va
 |some v=> !va&&v.oneCell'
 |none=>false
def mapOf (T:Tab)(s:St)(ty:TypeId)(m:SV)(F:TI→Nat→Bool→Bool→List KK→List DV→(List DV→Bool)→(List DV→List DV)→Prop):Prop:=
 match T ty with
 | some ⟨.map kt vt,_,_,_,_⟩=>match T vt,m with
   | some te,.mp d=>match s.res d with
     |some (.map ag va ks zr has val)=>br (keyOk T kt ag ks&&((va==aggD te.desc)&&zshape va te.zero)) (F te d ag va ks zr has val) False
     |_=>False
   |_,_=>False
 |_=>False
def mapOfL (T:Tab)(s:St)(ty:TypeId)(m:SV)(F:TI→Bool→Bool→List KK→List DV→(List DV→Bool)→(List DV→List DV)→Prop):Prop:=
 match T ty with
 | some ⟨.map kt vt,_,_,_,_⟩=>match T vt,m with
   | some te,.mp d=>match s.res d with
     |some (.map ag va ks zr has val)=>br (keyOk T kt ag ks&&((va==aggD te.desc)&&zshape va te.zero)) (F te ag va ks zr has val) False
     |some (.mapB ag va ks zr has val _ _)=>br (keyOk T kt ag ks&&((va==aggD te.desc)&&zshape va te.zero)) (F te ag va ks zr has val) False
     |_=>False
   |_,_=>False
 |_=>False
def lookupE (T:Tab)(s:St)(ty:TypeId)(m x:SV)(ok:Bool)(k:SV→Prop):Prop:=
 mapOfL T s ty m fun te ag va ks zr has val=>match rowD x with
  | some key=>br (wk ks key&&(aggSV x==ag)) (zrow te.zero=some zr∧rowSV va (val key) fun v=>match ok with
    |true=>k (.tup [v,.d (.bool (has key))])
    |false=>k v) False
  |none=>False
def ZShape (va:Bool)(v:Value):Prop:=
 match va with
 |true=>∃cs,v= .agg cs
 |false=>v.oneCell' =true
theorem zrow_den {z:Option Value}{zr:List DV}{va:Bool}(h:zrow z=some zr)(hv:∀v,z=some v→ZShape va v):∃v,z=some v∧RowDen G va zr v:=by
 unfold zrow at h;split at h
 · rename_i l hl;obtain⟨v,rfl,z1,z2,z3,_⟩:=zcells_den (G:=G) (β:=fun _=>none) hl;have hdl:=dvs_get l zr h;refine⟨v,rfl,?_⟩;have hv:=hv v rfl
   cases va with
   | true=>
     obtain⟨cs,rfl⟩:=hv;refine⟨cs.toList,by simp,?_,fun i x u hx hu=> ?_⟩
     · subst hdl;simpa [Value.cells]using z1
     · have:=z2 i (.d x) u (by subst hdl;rw[List.getElem?_map,hx];rfl) (by simpa [Value.cells]using hu)
       cases this with|d _ _ h=>exact h
   | false=>
     have hc:v.cells=#[v]:=by cases v<;>first|rfl|cases hv
     rw[hc]at z1 z2;subst hdl
     cases zr with
     |nil=>simp at z1
     | cons x xs=>
       cases xs with
       |cons y ys=>simp at z1
       | nil=>
         refine⟨x,rfl,?_⟩;have:=z2 0 (.d x) v rfl rfl;cases this with|d _ _ h=>exact h
 · cases h
theorem zshape_get {va:Bool}{z:Option Value}(h:zshape va z=true):∀v,z=some v→ZShape va v:=by
 intro v hv;subst hv
 cases va with
 |true=>cases v<;>simp[zshape]at h;exact⟨_,rfl⟩
 |false=>cases v<;>first|rfl|simp[zshape,Value.oneCell']at h
theorem gives_lookup (hT:TabOk P T)(h:MG A G β s t w){ty:TypeId}{X I:SV}{m i:Value}{ok:Bool}(hx:SV.Den G β X m)(hi:SV.Den G β I i){k:SV→Prop}(hk:lookupE T s ty X I ok k):
 Gives P G β w (Instr.lookup ty m i ok) k:=by
 unfold lookupE mapOfL at hk;split at hk
 · rename_i kt vt sz by' z zq hty;have hu:=(hT.get hty).1;simp only at hu;split at hk
   · rename_i te d hte;obtain⟨_,inf,hinf,_,_,hz⟩:=hT.get hte;split at hk
     · rename_i ag va ks zr has val hres;obtain⟨hq,hk⟩:=br_elim hk;rw[Bool.and_eq_true,Bool.and_eq_true]at hq;obtain⟨r,es,clock,l,hb,hh,hl,hw,hI,hf⟩:=h.rs _ _ hres
       cases hx with|mp _ _ hm _=>
       rw[hb]at hm;cases hm;split at hk
       · rename_i key hrow;obtain⟨hq2,hzr,hk⟩:=br_elim hk;rw[Bool.and_eq_true]at hq2;have hkv:=key_of hi hrow hq2.1;have hag:aggSV I=ag:=by simpa using hq2.2
         rw[hag]at hkv;subst hkv;have hfk:=run_findKey' (w:=w) hT hq.1 hq2.1 l es.toList hl hw;have hck:=run_checkKey' (w:=w) hT hq.1 hq2.1 es.isEmpty;have hfd:=hf key hq2.1;have hrel:=fnd_find (key:=key) (l:=l) (i:=0);have hget:(getObj r).run P w= .ok (.map es clock) w:=by simp[getObj,Sem.run,hh]
         have key2:∃v b,RowDen G va (val key) v∧has key=b∧(Instr.lookup ty (.map (some r)) (keyV ag key) ok).run P w= .ok (if ok then Value.tuple #[v,.bool b]else v) w:=by
          cases hfn:fnd key l 0 with
          | none=>
            rw[hfn]at hrel hfk
            cases hfi:l.find? (fun p=>keyEq key p.1)with
            |some p=>rw[hfi]at hrel;cases hrel
            | none=>
              rw[hfi]at hfd;obtain⟨zv,hzv,hzd⟩:=zrow_den (G:=G) hzr (zshape_get hq.2.2);refine⟨zv,false,by rw[hfd.2];exact hzd,hfd.1,?_⟩
              simp[Instr.lookup,run_underlying hu,hget,hck,hfk,run_zeroValue' hinf (hz.trans hzv)]
          | some q=>
            obtain⟨j,v⟩:=q;rw[hfn]at hrel hfk
            cases hfi:l.find? (fun p=>keyEq key p.1)with
            |none=>rw[hfi]at hrel;cases hrel
            | some p=>
              rw[hfi]at hrel hfd;simp only[Option.map_some,Option.some.injEq]at hrel;refine⟨v,true,by rw[hrel];exact hfd.2,hfd.1,?_⟩;simp[Instr.lookup,run_underlying hu,hget,hck,hfk]
         obtain⟨v,b,hv1,hv2,hv3⟩:=key2;obtain⟨x,hx1,hx2⟩:=rowSV_den (β:=β) hv1 hk;have hrun:=hv3
         cases ok with
         |false=>exact⟨v,x,by simpa using hrun,hx1,hx2⟩
         | true=>
           refine⟨.tuple #[v,.bool b],_,by simpa using hrun,?_,hx2⟩;refine .tup [x,.d (.bool (has key))] [v,.bool b] rfl (fun i y u hy hu=> ?_)
           match i with
           |0=>simp at hy hu;subst hy;subst hu;exact hx1
           |1=>simp at hy hu;subst hy;subst hu;rw[hv2];exact .d _ _ (.bool _)
           |i+2=>simp at hy
       · exact hk.elim
     · rename_i ag va ks zr has val clock kb hres;obtain⟨hq,hk⟩:=br_elim hk;rw[Bool.and_eq_true,Bool.and_eq_true]at hq;obtain⟨r,es,l,hb,hh,hl,hw,hI,_,hf⟩:=h.rs _ _ hres
       cases hx with|mp _ _ hm _=>
       rw[hb]at hm;cases hm;split at hk
       · rename_i key hrow;obtain⟨hq2,hzr,hk⟩:=br_elim hk;rw[Bool.and_eq_true]at hq2;have hkv:=key_of hi hrow hq2.1;have hag:aggSV I=ag:=by simpa using hq2.2
         rw[hag]at hkv;subst hkv;have hfk:=run_findKey' (w:=w) hT hq.1 hq2.1 l es.toList hl hw;have hck:=run_checkKey' (w:=w) hT hq.1 hq2.1 es.isEmpty;have hfd:=hf key hq2.1;have hrel:=fnd_find (key:=key) (l:=l) (i:=0);have hget:(getObj r).run P w= .ok (.map es clock) w:=by simp[getObj,Sem.run,hh]
         have key2:∃v b,RowDen G va (val key) v∧has key=b∧(Instr.lookup ty (.map (some r)) (keyV ag key) ok).run P w= .ok (if ok then Value.tuple #[v,.bool b]else v) w:=by
          cases hfn:fnd key l 0 with
          | none=>
            rw[hfn]at hrel hfk
            cases hfi:l.find? (fun p=>keyEq key p.1)with
            |some p=>rw[hfi]at hrel;cases hrel
            | none=>
              rw[hfi]at hfd;obtain⟨zv,hzv,hzd⟩:=zrow_den (G:=G) hzr (zshape_get hq.2.2);refine⟨zv,false,by rw[hfd.2];exact hzd,hfd.1,?_⟩
              simp[Instr.lookup,run_underlying hu,hget,hck,hfk,run_zeroValue' hinf (hz.trans hzv)]
          | some q=>
            obtain⟨j,v⟩:=q;rw[hfn]at hrel hfk
            cases hfi:l.find? (fun p=>keyEq key p.1)with
            |none=>rw[hfi]at hrel;cases hrel
            | some p=>
              rw[hfi]at hrel hfd;simp only[Option.map_some,Option.some.injEq]at hrel;refine⟨v,true,by rw[hrel];exact hfd.2,hfd.1,?_⟩;simp[Instr.lookup,run_underlying hu,hget,hck,hfk]
         obtain⟨v,b,hv1,hv2,hv3⟩:=key2;obtain⟨x,hx1,hx2⟩:=rowSV_den (β:=β) hv1 hk;have hrun:=hv3
         cases ok with
         |false=>exact⟨v,x,by simpa using hrun,hx1,hx2⟩
         | true=>
           refine⟨.tuple #[v,.bool b],_,by simpa using hrun,?_,hx2⟩;refine .tup [x,.d (.bool (has key))] [v,.bool b] rfl (fun i y u hy hu=> ?_)
           match i with
           |0=>simp at hy hu;subst hy;subst hu;exact hx1
           |1=>simp at hy hu;subst hy;subst hu;rw[hv2];exact .d _ _ (.bool _)
           |i+2=>simp at hy
       · exact hk.elim
     · exact hk.elim
   · exact hk.elim
 · exact hk.elim
theorem fnd_get {ky:List DV}:∀ {l:List (List DV×Value)} {o i:Nat} {u:Value},fnd ky l o=some (i,u)→o≤i∧∃p,l[i - o]? =some p∧keyEq ky p.1=true:=by
 intro l
 induction l with
 |nil=>intro o i u h;cases h
 | cons p l ih=>
   intro o i u h;simp only[fnd]at h;split at h
   · rename_i hq;cases h;exact⟨Nat.le_refl _,p,by simp,hq⟩
   · obtain⟨h1,q,h2,h3⟩:=ih h;refine⟨by omega,q,?_,h3⟩;rw[show i - o=(i - (o+1))+1 by omega];simpa using h2
theorem upd_find {ks:List KK}{ky:List DV}{v:Value}(hky:wk ks ky=true):∀ {l:List (List DV×Value)} {o i:Nat} {u:Value},(∀p ∈ l,wk ks p.1=true)→fnd ky l o=some (i,u)→
 ∀q,wk ks q=true→(l.modify (i - o) fun _=>(ky,v)).find? (fun p=>keyEq q p.1)=if keyEq q ky=true then some (ky,v)else l.find? (fun p=>keyEq q p.1):=by
 intro l
 induction l with
 |nil=>intro o i u _ h;cases h
 | cons p l ih=>
   intro o i u hw h q hq;have hp:=hw p List.mem_cons_self;simp only[fnd]at h;split at h
   · rename_i hk;cases h;have:=keyEq_eq hky hp hk;simp only[Nat.sub_self,List.modify_zero_cons,List.find?_cons,←this];cases keyEq q ky<;>simp
   · rename_i hk;have h1:=(fnd_get h).1;rw[show i - o=(i - (o+1))+1 by omega,List.modify_succ_cons,List.find?_cons,List.find?_cons,ih (fun p hp=>hw p (List.mem_cons_of_mem _ hp)) h q hq]
     cases hqp:keyEq q p.1 with
     |false=>rfl
     | true=>
       simp only;rw[if_neg];intro hqk;have e1:=keyEq_eq hq hp hqp;have e2:=keyEq_eq hq hky hqk;exact hk (by rw[←e2,e1];exact keyEq_refl hp)
theorem new_find {ks:List KK}{ky:List DV}{v:Value}(hky:wk ks ky=true):∀ {l:List (List DV×Value)} {o:Nat},(∀p ∈ l,wk ks p.1=true)→fnd ky l o=none→
 ∀q,wk ks q=true→(l++ [(ky,v)]).find? (fun p=>keyEq q p.1)=if keyEq q ky=true then some (ky,v)else l.find? (fun p=>keyEq q p.1):=by
 intro l
 induction l with
 |nil=>intro o _ _ q hq;simp only[List.nil_append,List.find?_cons,List.find?_nil];cases keyEq q ky<;>simp
 | cons p l ih=>
   intro o hw h q hq;have hp:=hw p List.mem_cons_self;simp only[fnd]at h;split at h
   · cases h
   · rename_i hk;rw[List.cons_append,List.find?_cons,List.find?_cons,ih (fun p hp=>hw p (List.mem_cons_of_mem _ hp)) h q hq]
     cases hqp:keyEq q p.1 with
     |false=>rfl
     | true=>
       simp only;rw[if_neg];intro hqk;have e1:=keyEq_eq hq hp hqp;have e2:=keyEq_eq hq hky hqk;exact hk (by rw[←e2,e1];exact keyEq_refl hp)
theorem sameBits_cell {k:KK}{x:DV}(n:Nat)(hx:wk1 k x=true):Instr.sameBits (n+1) (cellV x) (cellV x)=true:=by
 cases k<;>cases x<;>simp[wk1]at hx<;>simp[Instr.sameBits,cellV,str_beq]
theorem sameBits_key {ag:Bool}{ks:List KK}{ky:List DV}(hag:ag=false→∃k,ks= [k])(hky:wk ks ky=true):Instr.sameBits 10000 (keyV ag ky) (keyV ag ky)=true:=by
 cases ag with
 | false=>
   obtain⟨k,rfl⟩:=hag rfl;obtain⟨x,rfl,hx⟩:=single_key hky
   exact sameBits_cell 9999 hx
 | true=>
   simp only[keyV];show Instr.sameBits (9999+1) _ _=true;simp only[Instr.sameBits,beq_self_eq_true,Bool.true_and];obtain⟨h1,h2⟩:=wk_get hky;rw[List.all_eq_true];intro p hp;simp only[List.zip_eq_zipWith,List.zipWith_self]at hp;rw[List.mem_map]at hp;obtain⟨x,hx,rfl⟩:=hp;simp only[List.mem_map]at hx;obtain⟨z,hz,rfl⟩:=hx;obtain⟨i,hi,rfl⟩:=List.getElem_of_mem hz;have hik:i<ks.length:=by rw[←h1];exact hi
   exact sameBits_cell 9998 (h2 i _ _ (List.getElem?_eq_getElem hik) (List.getElem?_eq_getElem hi))
theorem row_of {x:SV}{row:List DV}{v:Value}(hd:SV.Den G β x v)(hr:rowD x=some row):RowDen G (aggSV x) row v:=by
 unfold rowD at hr;split at hr
 · rename_i l hf;have hl:=dvs_get l row hr;unfold flat at hf;split at hf
   · rename_i l'
     cases hc:l'.all (·.cellish)with
     |false=>rw[hc]at hf;cases hf
     | true=>
       rw[hc]at hf;cases hf
       cases hd with|agg _ vs hlen hden=>
       refine⟨vs,rfl,by subst hl;simpa using hlen,fun i x u hx hu=> ?_⟩;subst hl;have:=hden i (.d x) u (by rw[List.getElem?_map,hx];rfl) hu;cases this with|d _ _ h=>exact h
   · rename_i hna
     cases hc:x.cellish with
     |false=>rw[hc]at hf;cases hf
     | true=>
       rw[hc]at hf;cases hf
       cases row with
       |nil=>simp at hl
       | cons z zs=>
         cases zs with
         |cons y ys=>simp at hl
         | nil=>
           simp at hl;subst hl;cases hd with|d _ _ h=>exact⟨z,rfl,h⟩
 · cases hr
theorem fnd_none {ky:List DV}:∀ {l:List (List DV×Value)} {o:Nat},fnd ky l o=none→∀p ∈ l,keyEq ky p.1=false:=by
 intro l
 induction l with
 |nil=>intro o _ p hp;cases hp
 | cons q l ih=>
   intro o h p hp;simp only[fnd]at h;split at h
   · cases h
   · rename_i hq;rcases List.mem_cons.1 hp with e|e
     · subst e;simpa using hq
     · exact ih h p e
theorem MapI.snoc {bs:List Nat}{clock:Nat}{l:List (List DV×Value)}{ks:List KK}{ky:List DV}(h:MapI bs clock (l.map (·.1)))(hw:∀p ∈ l,wk ks p.1=true)(hk:wk ks ky=true)(hf:fnd ky l 0=none):
 MapI (bs++ [clock]) (clock+1) (l.map (·.1)++ [ky]):=by
 obtain⟨h1,h2,h3⟩:=h;refine⟨List.pairwise_append.2 ⟨h1,by simp,fun a ha b hb=>by simp at hb;subst hb;exact h2 a ha⟩,fun b hb=> ?_,List.pairwise_append.2 ⟨h3,by simp,fun a ha b hb=> ?_⟩⟩
 · rcases List.mem_append.1 hb with q|q
   · have:=h2 b q;omega
   · simp at q;omega
 · simp at hb;subst hb;obtain⟨p,hp,rfl⟩:=List.mem_map.1 ha;rw[←Bool.not_eq_true];intro q;have e:=keyEq_eq (hw p hp) hk q;have:=fnd_none hf p hp;rw[e,keyEq_refl hk]at this;cases this
theorem born_modify {es:Array MapEntry}{i:Nat}{f:MapEntry→MapEntry}(h:∀e,(f e).born=e.born):(es.modify i f).toList.map (·.born)=es.toList.map (·.born):=by
 apply List.ext_getElem?
 intro j;rw[List.getElem?_map,List.getElem?_map,Array.toList_modify,List.getElem?_modify]
 cases es.toList[j]? with
 |none=>simp
 | some e=>
   simp only[Option.map_some];split
   · simp[h]
   · rfl
theorem key_modify {l:List (List DV×Value)}{i:Nat}{p:List DV×Value}{ky:List DV}{v:Value}(hp:l[i]? =some p)(hk:p.1=ky):(l.modify i fun _=>(ky,v)).map (·.1)=l.map (·.1):=by
 apply List.ext_getElem?
 intro j;rw[List.getElem?_map,List.getElem?_map,List.getElem?_modify]
 by_cases hij:i=j
 · subst hij;rw[hp];simp[hk]
 · simp[hij]
def mapUpdateE (T:Tab)(dst:Option Nat)(s:St)(ty:TypeId)(m key x:SV)(k:Upd→Prop):Prop:=
 mapOf T s ty m fun _ d ag va ks zr has val=>match rowD key,rowD x with
  |some ky,some row=>br (wk ks ky&&((aggSV key==ag)&&(aggSV x==va))) (k ⟨dst,.undef,[(d,some (.map ag va ks zr (fun q=>keyEq q ky||has q) (fun q=>bif keyEq q ky then row else val q)))],[]⟩) False
  |_,_=>False
theorem keyOk_single {kt:TypeId}{ag:Bool}{ks:List KK}(h:keyOk T kt ag ks=true)(hag:ag=false):∃k,ks= [k]:=by
 subst hag;unfold keyOk at h;split at h
 · exact⟨_,rfl⟩
 · rename_i e;cases e
 · cases h
theorem wp_mapUpdate (hT:TabOk P T){o:Oper}{ty:TypeId}{m key x:Operand}(ho:o.op= .mapUpdate ty m key x∨o.op= .insert ty m key x)(h0:a.defers= [])(h:MG A G β s a.tmps w)(hN:∀d,o.dst=some d→d<A.N)
 {k:Upd→Prop}(hk:mapUpdateE T o.dst s ty (s.ev m) (s.ev key) (s.ev x) k){Q:Exit→Act→World→Prop}:o.wp P a w (fun a' w' =>∃u,k u∧Mod A (s.app u) a' w') Q:=by
 unfold mapUpdateE mapOf at hk;split at hk
 · rename_i kt vt sz by' z zq hty;have hu:=(hT.get hty).1;simp only at hu;split at hk
   · rename_i te d hte hme;split at hk
     · rename_i ag va ks zr has val hres;obtain⟨hq,hk⟩:=br_elim hk;rw[Bool.and_eq_true,Bool.and_eq_true]at hq;obtain⟨r,es,clock,l,hb,hh,hl,hw,hI,hf⟩:=h.rs _ _ hres;have hx:=h.ev m;rw[hme]at hx;generalize hmv:a.eval m=mv at hx
       cases hx with|mp _ _ hm _=>
       rw[hb]at hm;cases hm;split at hk
       · rename_i ky row hky hrow;obtain⟨hq2,hk⟩:=br_elim hk;rw[Bool.and_eq_true,Bool.and_eq_true]at hq2;have hkv:=key_of (h.ev key) hky hq2.1;rw[show aggSV (s.ev key)=ag by simpa using hq2.2.1]at hkv;have hrv:=row_of (h.ev x) hrow;rw[show aggSV (s.ev x)=va by simpa using hq2.2.2]at hrv;have hget:(getObj r).run P w= .ok (.map es clock) w:=by simp[getObj,Sem.run,hh]
         have hset:∀ob,(setObj r ob).run P w= .ok () {w with heap:=w.heap.setIfInBounds r ob}:=fun ob=>by simp[setObj,Sem.run,hh]
         have hck:=run_checkKey' (w:=w) hT hq.1 hq2.1 false;have hfk:=run_findKey' (w:=w) hT hq.1 hq2.1 l es.toList hl hw;have hlt:r<w.heap.size:=(Array.getElem?_eq_some_iff.1 hh).1
         have key2:∃ (es':Array MapEntry) (clock':Nat) (l':List (List DV×Value)),(Instr.mapUpdate ty (.map (some r)) (keyV ag ky) (a.eval x)).run P w= .ok () {w with heap:=w.heap.setIfInBounds r (.map es' clock')}∧
          es'.toList.map (fun e=>(e.key,e.val))=l'.map (fun p=>(keyV ag p.1,p.2))∧(∀p ∈ l',wk ks p.1=true)∧MapI (es'.toList.map (·.born)) clock' (l'.map (·.1))∧
          ∀q,wk ks q=true→l'.find? (fun p=>keyEq q p.1)=if keyEq q ky=true then some (ky,a.eval x)else l.find? (fun p=>keyEq q p.1):=by
          cases hfn:fnd ky l 0 with
          | none=>
            rw[hfn]at hfk;refine⟨es.push {key:=keyV ag ky,val:=a.eval x,born:=clock},clock+1,l++ [(ky,a.eval x)],?_,?_,?_,?_,new_find hq2.1 hw hfn⟩
            · simp[Instr.mapUpdate,run_underlying hu,hget,hck,hfk,hset]
            · simp[hl]
            · intro p hp;rcases List.mem_append.1 hp with q|q
              · exact hw p q
              · simp at q;subst q;exact hq2.1
            · have:=hI.snoc hw hq2.1 hfn
              simpa using this
          | some q=>
            obtain⟨i,u⟩:=q;rw[hfn]at hfk;obtain⟨_,p,hp1,hp2⟩:=fnd_get hfn;rw[Nat.sub_zero]at hp1;have hpm:p ∈ l:=List.mem_of_getElem? hp1;have hpk:p.1=ky:=(keyEq_eq hq2.1 (hw p hpm) hp2).symm
            have hei:∃e,es[i]? =some e∧e.key=keyV ag ky:=by
             have:(es.toList.map (fun e=>(e.key,e.val)))[i]? =some (keyV ag p.1,p.2):=by rw[hl,List.getElem?_map,hp1];rfl
             rw[List.getElem?_map,Array.getElem?_toList]at this
             cases he:es[i]? with
             |none=>rw[he]at this;cases this
             |some e=>rw[he]at this;simp at this;exact⟨e,rfl,by rw[this.1,hpk]⟩
            obtain⟨e,he1,he2⟩:=hei;have hsb:=sameBits_key (keyOk_single hq.1) hq2.1;refine⟨es.modify i fun e=>{e with key:=keyV ag ky,val:=a.eval x},clock,l.modify i fun _=>(ky,a.eval x),?_,?_,?_,?_,?_⟩
            · simp[Instr.mapUpdate,run_underlying hu,hget,hck,hfk,hset,he1,he2,Instr.keyThatStays,hsb]
            · apply List.ext_getElem?
              intro j;have hj:(es.toList.map (fun e=>(e.key,e.val)))[j]? =(l.map (fun p=>(keyV ag p.1,p.2)))[j]? :=by rw[hl]
              rw[List.getElem?_map,List.getElem?_map]at hj;rw[List.getElem?_map,List.getElem?_map,Array.toList_modify,List.getElem?_modify,List.getElem?_modify]
              by_cases hij:i=j
              · subst hij;rw[hp1]at hj ⊢;rw[Array.getElem?_toList,he1];simp
              · simp only[hij,if_false];simpa using hj
            · intro p' hp';obtain⟨j,hj,rfl⟩:=List.getElem_of_mem hp';rw[List.getElem_modify];split
              · exact hq2.1
              · exact hw _ (List.getElem_mem _)
            · have e1:(es.modify i fun e=>{e with key:=keyV ag ky,val:=a.eval x}).toList.map (·.born)=es.toList.map (·.born):=born_modify (fun _=>rfl);have e2:(l.modify i fun _=>(ky,a.eval x)).map (·.1)=l.map (·.1):=key_modify hp1 hpk;rw[e1,e2];exact hI
            · have:=upd_find (v:=a.eval x) hq2.1 hw hfn;rwa [Nat.sub_zero]at this
         obtain⟨es',clock',l',hrun,hl',hw',hI',hf'⟩:=key2
         have hchg:=h.change (d:=d) (r:=.map ag va ks zr has val) (r':=.map ag va ks zr (fun q=>keyEq q ky||has q) (fun q=>bif keyEq q ky then row else val q)) (v:=.map (some r)) (w':={w with heap:=w.heap.setIfInBounds r (.map es' clock')})
          hres rfl rfl hb rfl rfl rfl (by simp) (fun b hb' =>by
           have:b≠r:=fun e=>hb' (by rw[e];rfl)
           simp[Array.getElem?_setIfInBounds_ne (Ne.symm this)])
          ⟨r, es',clock',l',hb,by simp[hlt],hl',hw',hI',fun q hqk=>by
            rw[hf' q hqk]
            by_cases hqq:keyEq q ky=true
            · rw[if_pos hqq];exact⟨by simp only[hqq,Bool.true_or],by simp only[hqq,cond_true];exact hrv⟩
            · rw[if_neg hqq];have hqf:keyEq q ky=false:=by simpa using hqq
              have:=hf q hqk;simp only[hqf,Bool.false_or,cond_false]
              exact this⟩
         refine wp_skip' (w':={w with heap:=w.heap.setIfInBounds r (.map es' clock')}) ?_ ⟨_,hk,hchg.fin (h0:=h0) hN .undef⟩;rcases ho with ho|ho
         · simp only[execOp,ho,hmv,hkv,Sem.run_bind,hrun];rfl
         · simp only[execOp,ho,hmv,hkv,Sem.run_bind,hrun];rfl
       · exact hk.elim
     · exact hk.elim
   · exact hk.elim
 · exact hk.elim
def makeMapE (T:Tab)(dst:Option Nat)(s:St)(ty:TypeId)(ag:Bool)(ks:List KK)(k:Upd→Prop):Prop:=
 match T ty,dst with
 | some ⟨.map kt vt,_,_,_,_⟩,some d=>match T vt with
   | some te=>match zrow te.zero with
     |some zr=>br (s.used d) False (k ⟨some d,.mp d,[(d,some (.map ag (aggD te.desc) ks zr (fun _=>false) (fun _=>zr)))],[d]⟩)
     |none=>False
   |none=>False
 |_,_=>False
theorem wp_makeMap {o:Oper}{ty:TypeId}{ag:Bool}{ks:List KK}(ho:o.op= .makeMap ty none)(h0:a.defers= [])(h:MG A G β s a.tmps w)(hN:∀d,o.dst=some d→d<A.N)
 {k:Upd→Prop}(hk:makeMapE T o.dst s ty ag ks k){Q:Exit→Act→World→Prop}:o.wp P a w (fun a' w' =>∃u,k u∧Mod A (s.app u) a' w') Q:=by
 unfold makeMapE at hk;split at hk
 · rename_i kt vt sz by' z zq d hty hd;split at hk
   · rename_i te hte;split at hk
     · rename_i zr hzr;unfold br at hk;split at hk
       · exact hk.elim
       rename_i hu;have hset:(β.set d (.map (some w.heap.size))) d=some (.map (some w.heap.size)):=by simp[Env.set]
       have hm:=h.allocR hu (o:=.map #[] 0) (r:=.map ag (aggD te.desc) ks zr (fun _=>false) (fun _=>zr)) (v:=.map (some w.heap.size)) rfl rfl
        ⟨w.heap.size,#[],0,[],hset,by simpa using heap_alloc_new w (.map #[] 0),by simp,by simp,by simp[MapI],fun q _=>by simp⟩
       have hrun:(execOp a.eval o).run P w= .ok (.value (.map (some w.heap.size))) (w.alloc (.map #[] 0)):=by
        simp only[execOp,ho,Option.map_none,Sem.run_bind,show(Instr.makeMap ty none).run P w= .ok (.map (some w.heap.size)) (w.alloc (.map #[] 0))from rfl,Result.andThen_ok];rfl
       refine wp_value hrun ⟨_,hk,?_⟩;rw[hd]at hN ⊢;exact hm.fin (h0:=h0) hN (.mp _ _ hset rfl)
     · exact hk.elim
   · exact hk.elim
 · exact hk.elim
end
end Go.Eng
namespace Go.Eng
open Go
structure KB (ks:List KK)(has:List DV→Bool)(clock:Nat)(kb:List (List DV×Nat)):Prop where
 kw:∀p ∈ kb,wk ks p.1=true
 kh:∀key,wk ks key=true→(has key=true↔∃b,(key,b) ∈ kb)
 ki:(kb.map (·.2)).Pairwise (· < ·)
 kl:∀p ∈ kb,p.2<clock
 kd:(kb.map (·.1)).Pairwise (fun p q=>keyEq p q=false)
theorem kb_len {ag:Bool}{es:Array MapEntry}{l:List (List DV×Value)}(hl:es.toList.map (fun e=>(e.key,e.val))=l.map (fun p=>(keyV ag p.1,p.2))):es.toList.length=l.length:=by
 have:=congrArg List.length hl;simpa using this
theorem kb_of {G:Hp}{ag va:Bool}{ks:List KK}{zr:List DV}{has:List DV→Bool}{val:List DV→List DV}{es:Array MapEntry}{clock:Nat}{l:List (List DV×Value)}
 (hl:es.toList.map (fun e=>(e.key,e.val))=l.map (fun p=>(keyV ag p.1,p.2)))(hw:∀p ∈ l,wk ks p.1=true)(hI:MapI (es.toList.map (·.born)) clock (l.map (·.1)))(hf:MapV G va ks zr has val l):
 KB ks has clock ((l.map (·.1)).zip (es.toList.map (·.born))):=by
 have hlen:=kb_len hl;have hf1:((l.map (·.1)).zip (es.toList.map (·.born))).map (·.1)=l.map (·.1):=List.map_fst_zip (by simp[hlen]);have hf2:((l.map (·.1)).zip (es.toList.map (·.born))).map (·.2)=es.toList.map (·.born):=List.map_snd_zip (by simp[hlen]);refine⟨fun p hp=> ?_,fun key hk=> ?_,by rw[hf2];exact hI.1,fun p hp=> ?_,by rw[hf1];exact hI.2.2⟩
 · have:p.1 ∈ l.map (·.1):=by rw[←hf1];exact List.mem_map_of_mem hp
   obtain⟨q,hq,e⟩:=List.mem_map.1 this;rw[←e];exact hw q hq
 · have h1:=hf key hk
   have h2:(∃b,(key,b) ∈ (l.map (·.1)).zip (es.toList.map (·.born)))↔key ∈ l.map (·.1):=by
    constructor
    · rintro⟨b,hb⟩;rw[←hf1];exact List.mem_map.2 ⟨_,hb,rfl⟩
    · intro h;rw[←hf1]at h;obtain⟨⟨k',b⟩,hp,rfl⟩:=List.mem_map.1 h;exact⟨b,hp⟩
   rw[h2];split at h1
   · rename_i p hp;have hm:=List.mem_of_find?_eq_some hp;have hq:=List.find?_some hp;have e:=keyEq_eq hk (hw p hm) hq;rw[h1.1];simp only[true_iff];rw[e];exact List.mem_map_of_mem hm
   · rename_i hp;rw[h1.1];constructor
     · intro h;cases h
     · intro h;obtain⟨q,hq,e⟩:=List.mem_map.1 h;have:=List.find?_eq_none.1 hp q hq;rw[e,keyEq_refl hk]at this;exact absurd rfl this
 · have:p.2 ∈ es.toList.map (·.born):=by rw[←hf2];exact List.mem_map_of_mem hp
   exact hI.2.1 _ this
theorem kb_entry {G:Hp}{ag va:Bool}{ks:List KK}{zr:List DV}{has:List DV→Bool}{val:List DV→List DV}{es:Array MapEntry}{clock:Nat}{l:List (List DV×Value)}
 (hl:es.toList.map (fun e=>(e.key,e.val))=l.map (fun p=>(keyV ag p.1,p.2)))(hw:∀p ∈ l,wk ks p.1=true)(hI:MapI (es.toList.map (·.born)) clock (l.map (·.1)))(hf:MapV G va ks zr has val l){e:MapEntry}(he:e ∈ es.toList):
 ∃key,(key,e.born) ∈ (l.map (·.1)).zip (es.toList.map (·.born))∧wk ks key=true∧e.key=keyV ag key∧RowDen G va (val key) e.val:=by
 have hlen:=kb_len hl;obtain⟨i,hi,rfl⟩:=List.getElem_of_mem he;have hil:i<l.length:=by rw[←hlen];exact hi
 have h1:(es.toList[i].key,es.toList[i].val)=(keyV ag l[i].1,l[i].2):=by
  have h0:(es.toList.map (fun e=>(e.key,e.val)))[i]? =(l.map (fun p=>(keyV ag p.1,p.2)))[i]? :=by rw[hl]
  rw[List.getElem?_map,List.getElem?_map,List.getElem?_eq_getElem hi,List.getElem?_eq_getElem hil]at h0;simpa using h0
 simp only[Prod.mk.injEq]at h1;have hwk:=hw _ (List.getElem_mem hil);refine⟨l[i].1,?_,hwk,h1.1,?_⟩
 · rw[List.mem_iff_getElem];refine⟨i,by simp[hlen,hil],by simp⟩
 · have h2:=hf _ hwk
   have hfi:l.find? (fun p=>keyEq l[i].1 p.1)=some l[i]:=by
    rw[List.find?_eq_some_iff_getElem];refine⟨keyEq_refl hwk,i,hil,rfl,fun j hj=> ?_⟩;have:=(List.pairwise_iff_getElem.1 hI.2.2) j i (by simp;omega) (by simpa using hil) hj;simp only[List.getElem_map]at this;simp only[Bool.not_eq_true',←Bool.not_eq_true];intro q;have e:=keyEq_eq hwk (hw _ (List.getElem_mem (by omega))) q;rw[←e,keyEq_refl hwk]at this;cases this
   rw[hfi]at h2;rw[h1.2];exact h2.2
section
variable {P:Program} {T:Tab} {A:Amb} {G:Hp} {β:Env} {s:St} {a:Act} {w:World}
def agOk (ag:Bool)(ks:List KK):Bool:=
 match ag,ks with
 |true,_=>true
 |false,[_]=>true
 |_,_=>false
theorem agOk_get {ag:Bool}{ks:List KK}(h:agOk ag ks=true):ag=false→∃k,ks= [k]:=by
 intro e;subst e
 match ks,h with
 | [k],_=>exact⟨k,rfl⟩
def keySV (ag:Bool)(key:List DV)(k:SV→Prop):Prop:=
 match ag,key with
 |true,key=>k (.agg (key.map .d))
 |false,x::_=>k (.d x)
 |false,[]=>False
theorem cellV_den {kk:KK}{x:DV}(h:wk1 kk x=true):DV.Den G x (cellV x):=by
 cases kk<;>cases x<;>simp[wk1]at h
 · exact .int _ _
 · exact .str _
 · exact .bool _
theorem keySV_den {ag:Bool}{ks:List KK}{key:List DV}(h:wk ks key=true)(hag:ag=false→∃k,ks= [k]){k:SV→Prop}(hk:keySV ag key k):∃x,SV.Den G β x (keyV ag key)∧k x:=by
 cases ag with
 | true=>
   refine⟨_,.agg (key.map .d) (key.map cellV) (by simp) (fun i x u hx hu=> ?_),hk⟩;rw[List.getElem?_map]at hx hu
   cases hr:key[i]? with
   |none=>rw[hr]at hx;cases hx
   | some z=>
     rw[hr]at hx hu;cases hx;cases hu;obtain⟨h1,h2⟩:=wk_get h;have hi:i<ks.length:=by rw[←h1];exact(List.getElem?_eq_some_iff.1 hr).1
     exact .d _ _ (cellV_den (h2 i _ z (List.getElem?_eq_getElem hi) hr))
 | false=>
   obtain⟨k1,rfl⟩:=hag rfl;obtain⟨x,rfl,hx⟩:=single_key h;exact⟨_,.d _ _ (cellV_den hx),hk⟩
def rangeE (T:Tab)(dst:Option Nat)(s:St)(ty:TypeId)(m:SV)(k:Upd→Prop):Prop:=
 match T ty with
 | some ⟨.map kt vt,_,_,_,_⟩=>match m,dst with
   | .mp d,some q=>match s.res d with
     |some (.map ag va ks zr has val)=>br (s.used q||Nat.beq q d) False (∀clock kb,KB ks has clock kb→k ⟨some q,.ptr q 0,[(q,some (.iter d clock [])),(d,some (.mapB ag va ks zr has val clock kb))],[q]⟩)
     |_=>False
   |_,_=>False
 |_=>False
theorem wp_range (hT:TabOk P T){o:Oper}{ty:TypeId}{m:Operand}(ho:o.op= .range ty m)(h0:a.defers= [])(h:MG A G β s a.tmps w)(hN:∀d,o.dst=some d→d<A.N)
 {k:Upd→Prop}(hk:rangeE T o.dst s ty (s.ev m) k){Q:Exit→Act→World→Prop}:o.wp P a w (fun a' w' =>∃u,k u∧Mod A (s.app u) a' w') Q:=by
 unfold rangeE at hk;split at hk
 · rename_i kt vt sz by' z zq hty;have hu:=(hT.get hty).1;simp only at hu;split at hk
   · rename_i d q hme hdst;split at hk
     · rename_i ag va ks zr has val hres;unfold br at hk;split at hk
       · exact hk.elim
       rename_i hused
       have hused:s.used q=false∧¬q=d:=by
        rw[Bool.or_eq_false_iff]at hused;refine⟨hused.1,fun e=>by subst e;simp at hused⟩
       obtain⟨r,es,clock,l,hb,hh,hl,hw,hI,hf⟩:=h.rs _ _ hres;have hx:=h.ev m;rw[hme]at hx;generalize hmv:a.eval m=mv at hx
       cases hx with|mp _ _ hm _=>
       rw[hb]at hm;cases hm;have hkb:=kb_of hl hw hI hf;have hk:=hk clock _ hkb;have hset:∀x,(β.set q (.pointer (some ⟨w.heap.size,0,none⟩))) x=if x=q then some (.pointer (some ⟨w.heap.size,0,none⟩))else β x:=fun x=>by simp[Env.set]
       have h1:=h.change (d:=d) (r':=.mapB ag va ks zr has val clock ((l.map (·.1)).zip (es.toList.map (·.born)))) (v:=.map (some r)) (w':=w) hres rfl rfl hb rfl rfl rfl rfl (fun _ _=>rfl) ⟨r,es,l,hb,hh,hl,hw,hI,rfl,hf⟩;have hus:(s.app ⟨none,.any,[(d,some (.mapB ag va ks zr has val clock ((l.map (·.1)).zip (es.toList.map (·.born)))))],[]⟩).used q=false:=by simpa [St.app,putU]using hused.1
       have hdq:(β.set q (.pointer (some ⟨w.heap.size,0,none⟩))) d=some (.map (some r)):=by
        rw[hset,if_neg (fun e=>hused.2 e.symm)];exact hb
       have h2:=h1.allocR hus (o:=.mapIter (some r) clock #[] clock) (r:=.iter d clock []) (v:=.pointer (some ⟨w.heap.size,0,none⟩)) rfl rfl
        ⟨w.heap.size,r,by rw[hset,if_pos rfl],hdq,by simpa using heap_alloc_new w (.mapIter (some r) clock #[] clock)⟩
       have hrun:(execOp a.eval o).run P w= .ok (.value (.pointer (some ⟨w.heap.size,0,none⟩))) (w.alloc (.mapIter (some r) clock #[] clock)):=by
        simp only[execOp,ho,hmv,Sem.run_bind,run_range_map w ty kt vt r es clock hu hh,Result.andThen_ok];rfl
       refine wp_value hrun ⟨_,hk,?_⟩
       have hst:((s.app ⟨none,.any,[(d,some (.mapB ag va ks zr has val clock ((l.map (·.1)).zip (es.toList.map (·.born)))))],[]⟩).app ⟨none,.any,[(q,some (.iter d clock []))],[q]⟩)=s.app ⟨none,.any,[(q,some (.iter d clock [])),(d,some (.mapB ag va ks zr has val clock ((l.map (·.1)).zip (es.toList.map (·.born)))))],[q]⟩:=by
        simp only[St.app,putT,putR,putU];rw[St.mk.injEq];refine⟨rfl,?_,rfl⟩;funext x
        simp only[lookR]
       rw[hst]at h2;rw[hdst]at hN ⊢;exact h2.fin (h0:=h0) hN (.ptr _ _ _ (by rw[hset,if_pos rfl]))
     · exact hk.elim
   · exact hk.elim
 · exact hk.elim
def nextE (T:Tab)(dst:Option Nat)(s:St)(it:SV)(isS:Bool)(k:Upd→Prop):Prop:=
 match it,isS with
 | .ptr q 0,false=>match s.res q with
   | some (.iter m since seen)=>match s.res m with
     |some (.mapB ag va ks zr has val clock kb)=>br (agOk ag ks) (since=clock∧
      (∀key b,(key,b) ∈ kb→¬b ∈ seen→keySV ag key fun x=>rowSV va (val key) fun v=>k ⟨dst,.tup [.d (.bool true),x,v],[(q,some (.iter m since (b::seen)))],[]⟩)∧
      ((∀p ∈ kb,p.2 ∈ seen)→k ⟨dst,.tup [.d (.bool false)],[],[]⟩)) False
     |_=>False
   |_=>False
 |_,_=>False
theorem wp_next (hT:TabOk P T){o:Oper}{it:Operand}{isS:Bool}(ho:o.op= .next it isS)(h0:a.defers= [])(h:MG A G β s a.tmps w)(hN:∀d,o.dst=some d→d<A.N)
 {k:Upd→Prop}(hk:nextE T o.dst s (s.ev it) isS k){Q:Exit→Act→World→Prop}:o.wp P a w (fun a' w' =>∃u,k u∧Mod A (s.app u) a' w') Q:=by
 unfold nextE at hk;split at hk
 · rename_i q hit;split at hk
   · rename_i m since seen hrq;split at hk
     · rename_i ag va ks zr has val clock kb hrm;obtain⟨hag,rfl,hy,hn⟩:=br_elim hk;have hag:=agOk_get hag;obtain⟨qb,r,hbq,hbm,hhq⟩:=h.rs _ _ hrq;obtain⟨r',es,l,hb,hh,hl,hw,hI,hkb,hf⟩:=h.rs _ _ hrm;rw[hb]at hbm;cases hbm;have hx:=h.ev it;rw[hit]at hx;generalize hiv:a.eval it=iv at hx
       cases hx with|ptr _ _ b hp=>
       rw[hbq]at hp;cases hp;rcases run_next_at (P:=P) w o.type qb r since since seen.reverse.toArray es since hhq hh (fun x hx=>hI.2.1 _ (List.mem_map_of_mem hx)) (Nat.le_refl _)with⟨hz,hrun⟩|⟨e,he,w1,hw1,hrun⟩
       · have hall:∀p ∈ kb,p.2 ∈ seen:=by
          intro p hp;rw[hkb]at hp;have h2:p.2 ∈ es.toList.map (·.born):=(List.of_mem_zip (a:=p.1) (b:=p.2) hp).2;obtain⟨e,he,hee⟩:=List.mem_map.1 h2;have:=all_seen es seen.reverse.toArray hz e he;rw[←hee];simpa using this
         refine wp_value (v:=.tuple #[.bool false]) (w':=w) (by simp only[execOp,ho,hiv,Sem.run_bind,hrun,Result.andThen_ok];rfl) ⟨_,hn hall,?_⟩
         exact MG.fin (s:=s) (rs:= []) (us:= []) (h0:=h0) h hN (.tup _ [.bool false] rfl (fun i x v hx hv=>by
          match i with
          |0=>simp at hx hv;subst hx;subst hv;exact .d _ _ (.bool _)
          |i+1=>simp at hx))
       · obtain⟨hem,hes⟩:=mem_left he;obtain⟨key,hkk,hwk,hke,hrow⟩:=kb_entry hl hw hI hf hem
         have hns:¬e.born ∈ seen:=by
          intro q;have:seen.reverse.toArray.contains e.born=true:=by simpa using q
          rw[this]at hes;cases hes
         have hy:=hy key e.born (by rw[hkb];exact hkk) hns;obtain⟨x,hx1,hx2⟩:=keySV_den (G:=G) (β:=β) hwk hag hy;obtain⟨y,hy1,hy2⟩:=rowSV_den (β:=β) hrow hx2;have hhq1:w1.heap[qb]? =some (.mapIter (some r) since seen.reverse.toArray since):=by rcases hw1 with rfl|rfl<;>exact hhq
         have hm1:MG A G β s a.tmps w1:=by rcases hw1 with rfl|rfl;exact h;exact h.drew
         have hlt:qb<w1.heap.size:=(Array.getElem?_eq_some_iff.1 hhq1).1
         have hchg:=hm1.change (d:=q) (r':=.iter m since (e.born::seen)) (v:=.pointer (some ⟨qb,0,none⟩)) (w':=ChangeMaps.setBlock w1 qb (.mapIter (some r) since (seen.reverse.toArray.push e.born) since))
          hrq rfl rfl hbq rfl rfl rfl (by simp[ChangeMaps.setBlock]) (fun b hb' =>by
           have:b≠qb:=fun e=>hb' (by rw[e];rfl)
           simp[ChangeMaps.setBlock,Array.getElem?_setIfInBounds_ne (Ne.symm this)])
          ⟨qb,r,hbq,hb,by simp[ChangeMaps.setBlock,hlt]⟩
         refine wp_value (v:=.tuple #[.bool true,e.key,e.val]) (by simp only[execOp,ho,hiv,Sem.run_bind,hrun,Result.andThen_ok];rfl) ⟨_,hy2,?_⟩;refine hchg.fin (h0:=h0) hN (.tup _ [.bool true,e.key,e.val] rfl (fun i z v hz hv=> ?_))
         match i with
         |0=>simp at hz hv;subst hz;subst hv;exact .d _ _ (.bool _)
         |1=>simp at hz hv;subst hz;subst hv;rw[hke];exact hx1
         |2=>simp at hz hv;subst hz;subst hv;exact hy1
         |i+3=>simp at hz
     · exact hk.elim
   · exact hk.elim
 · exact hk.elim
def entryE (T:Tab)(dst:Option Nat)(s:St)(it:SV)(k:SV→Prop):Prop:=
 match it with
 | .ptr q 0=>match s.res q with
   | some (.iter m since (b::seen))=>match s.res m with
     |some (.mapB ag va ks zr has val clock kb)=>br (agOk ag ks) (since=clock∧∃key,(key,b) ∈ kb∧keySV ag key fun x=>rowSV va (val key) fun v=>k (.tup [x,v])) False
     |_=>False
   |_=>False
 |_=>False
theorem gives_entry (h:MG A G β s a.tmps w){it:Operand}{dst:Option Nat}{k:SV→Prop}(hk:entryE T dst s (s.ev it) k):Gives P G β w (Instr.entry (a.eval it)) k:=by
 unfold entryE at hk;split at hk
 · rename_i q hit;split at hk
   · rename_i m since b seen hrq;split at hk
     · rename_i ag va ks zr has val clock kb hrm;obtain⟨hag,rfl,key,hkk,hk⟩:=br_elim hk;have hag:=agOk_get hag;obtain⟨qb,r,hbq,hbm,hhq⟩:=h.rs _ _ hrq;obtain⟨r',es,l,hb,hh,hl,hw,hI,hkb,hf⟩:=h.rs _ _ hrm;rw[hb]at hbm;cases hbm;have hx:=h.ev it;rw[hit]at hx;generalize hiv:a.eval it=iv at hx
       cases hx with|ptr _ _ b' hp=>
       rw[hbq]at hp;cases hp;have hlen:=kb_len hl;rw[hkb,List.mem_iff_getElem]at hkk;obtain⟨i,hi,he⟩:=hkk;have hi1:i<es.toList.length:=by simp at hi;simp;omega
       have hil:i<l.length:=by omega
       simp only[List.getElem_zip,List.getElem_map,Prod.mk.injEq]at he;have hem:es.toList[i] ∈ es.toList:=List.getElem_mem hi1;obtain⟨key',hk1,hwk,hke,hrow⟩:=kb_entry hl hw hI hf hem
       have h1:(es.toList[i].key,es.toList[i].val)=(keyV ag l[i].1,l[i].2):=by
        have h0:(es.toList.map (fun e=>(e.key,e.val)))[i]? =(l.map (fun p=>(keyV ag p.1,p.2)))[i]? :=by rw[hl]
        rw[List.getElem?_map,List.getElem?_map,List.getElem?_eq_getElem hi1,List.getElem?_eq_getElem hil]at h0;simpa using h0
       have hkk':key' =key:=by
        rw[List.mem_iff_getElem]at hk1;obtain⟨j,hj,hje⟩:=hk1;simp only[List.getElem_zip,List.getElem_map,Prod.mk.injEq]at hje;have hj1:j<es.toList.length:=by simp at hj;simp;omega
        have hij:i=j:=by
         rcases Nat.lt_trichotomy i j with q|q|q
         · have:=(List.pairwise_iff_getElem.1 hI.1) i j (by simpa using hi1) (by simpa using hj1) q;simp only[List.getElem_map]at this;omega
         · exact q
         · have:=(List.pairwise_iff_getElem.1 hI.1) j i (by simpa using hj1) (by simpa using hi1) q;simp only[List.getElem_map]at this;omega
        subst hij;rw[←hje.1,←he.1]
       subst hkk';obtain⟨x,hx1,hx2⟩:=keySV_den (G:=G) (β:=β) hwk hag hk;obtain⟨y,hy1,hy2⟩:=rowSV_den (β:=β) hrow hx2;have hnd:(es.toList.map (·.born)).Nodup:=hI.1.imp (fun h=>Nat.ne_of_lt h);have hhq':w.heap[qb]? =some (.mapIter (some r) since (seen.reverse.toArray.push es.toList[i].born) since):=by rw[hhq,he.2];simp
       refine⟨_,_,run_entry_at w qb r since seen.reverse.toArray es since es.toList[i] hhq' hh hem hnd,.tup _ [es.toList[i].key,es.toList[i].val] rfl (fun j z v hz hv=> ?_),hy2⟩
       match j with
       |0=>simp at hz hv;subst hz;subst hv;rw[←Array.getElem_toList,hke];exact hx1
       |1=>simp at hz hv;subst hz;subst hv;rw[←Array.getElem_toList];exact hy1
       |j+2=>simp at hz
     · exact hk.elim
   · exact hk.elim
 · exact hk.elim
def mapEntryE (T:Tab)(dst:Option Nat)(s:St)(ty:TypeId)(m key:SV)(k:Upd→Prop):Prop:=
 mapOf T s ty m fun te d ag va ks zr has val=>match rowD key with
  |some ky=>br (wk ks ky&&(aggSV key==ag)) (zrow te.zero=some zr∧∀clock kb b,KB ks (fun q=>keyEq q ky||has q) clock kb→(ky,b) ∈ kb→
   rowSV va (val ky) fun v=>k ⟨dst,.tup [v,.d (.int .i64 (b:Nat))],[(d,some (.mapB ag va ks zr (fun q=>keyEq q ky||has q) val clock kb))],[]⟩) False
  |none=>False
theorem wp_mapEntry (hT:TabOk P T){o:Oper}{ty:TypeId}{m key:Operand}(ho:o.op= .mapEntry ty m key)(h0:a.defers= [])(h:MG A G β s a.tmps w)(hN:∀d,o.dst=some d→d<A.N)
 {k:Upd→Prop}(hk:mapEntryE T o.dst s ty (s.ev m) (s.ev key) k){Q:Exit→Act→World→Prop}:o.wp P a w (fun a' w' =>∃u,k u∧Mod A (s.app u) a' w') Q:=by
 unfold mapEntryE mapOf at hk;split at hk
 · rename_i kt vt sz by' z zq hty;have hu:=(hT.get hty).1;simp only at hu;split at hk
   · rename_i te d hte hme;obtain⟨_,inf,hinf,_,_,hz⟩:=hT.get hte;split at hk
     · rename_i ag va ks zr has val hres;obtain⟨hq,hk⟩:=br_elim hk;rw[Bool.and_eq_true,Bool.and_eq_true]at hq;obtain⟨r,es,clock,l,hb,hh,hl,hw,hI,hf⟩:=h.rs _ _ hres;have hx:=h.ev m;rw[hme]at hx;generalize hmv:a.eval m=mv at hx
       cases hx with|mp _ _ hm _=>
       rw[hb]at hm;cases hm;split at hk
       · rename_i ky hky;obtain⟨hq2,hzr,hk⟩:=br_elim hk;rw[Bool.and_eq_true]at hq2;have hkv:=key_of (h.ev key) hky hq2.1;rw[show aggSV (s.ev key)=ag by simpa using hq2.2]at hkv;have hget:(getObj r).run P w= .ok (.map es clock) w:=by simp[getObj,Sem.run,hh]
         have hset:∀ob,(setObj r ob).run P w= .ok () {w with heap:=w.heap.setIfInBounds r ob}:=fun ob=>by simp[setObj,Sem.run,hh]
         have hck:=run_checkKey' (w:=w) hT hq.1 hq2.1 false;have hfk:=run_findKey' (w:=w) hT hq.1 hq2.1 l es.toList hl hw;have hlt:r<w.heap.size:=(Array.getElem?_eq_some_iff.1 hh).1;have hlen:=kb_len hl
         have key2:∃ (es':Array MapEntry) (clock':Nat) (l':List (List DV×Value)) (v:Value) (b:Nat),(Instr.mapEntry ty (.map (some r)) (keyV ag ky)).run P w= .ok (.tuple #[v,.int .i64 (b:Nat)]) {w with heap:=w.heap.setIfInBounds r (.map es' clock')}∧
          es'.toList.map (fun e=>(e.key,e.val))=l'.map (fun p=>(keyV ag p.1,p.2))∧(∀p ∈ l',wk ks p.1=true)∧MapI (es'.toList.map (·.born)) clock' (l'.map (·.1))∧
          MapV G va ks zr (fun q=>keyEq q ky||has q) val l'∧(ky,b) ∈ (l'.map (·.1)).zip (es'.toList.map (·.born))∧RowDen G va (val ky) v:=by
          cases hfn:fnd ky l 0 with
          | none=>
            rw[hfn]at hfk;obtain⟨zv,hzv,hzd⟩:=zrow_den (G:=G) hzr (zshape_get hq.2.2);have hrel:=fnd_find (key:=ky) (l:=l) (i:=0);rw[hfn]at hrel
            have hval:val ky=zr:=by
             have:=hf ky hq2.1
             cases hfi:l.find? (fun p=>keyEq ky p.1)with
             |some p=>rw[hfi]at hrel;cases hrel
             |none=>rw[hfi]at this;exact this.2
            refine⟨es.push {key:=keyV ag ky,val:=zv,born:=clock},clock+1,l++ [(ky,zv)],zv,clock,?_,?_,?_,?_,fun q hqk=> ?_,?_,by rw[hval];exact hzd⟩
            · simp[Instr.mapEntry,run_underlying hu,hget,hck,hfk,hset,run_zeroValue' hinf (hz.trans hzv),goInt]
            · simp[hl]
            · intro p hp;rcases List.mem_append.1 hp with q|q
              · exact hw p q
              · simp at q;subst q;exact hq2.1
            · have:=hI.snoc hw hq2.1 hfn;simpa using this
            · rw[new_find hq2.1 hw hfn q hqk]
              by_cases hqq:keyEq q ky=true
              · rw[if_pos hqq];have e:=keyEq_eq hqk hq2.1 hqq;subst e;exact⟨by simp only[hqq,Bool.true_or],by simp only[hval];exact hzd⟩
              · rw[if_neg hqq];have hqf:keyEq q ky=false:=by simpa using hqq
                simp only[hqf,Bool.false_or];exact hf q hqk
            · rw[List.mem_iff_getElem];refine⟨l.length,by simp[←hlen],?_⟩;simp only[List.getElem_zip,Prod.mk.injEq];constructor
              · rw[List.getElem_map,List.getElem_append_right (by omega)];simp
              · rw[List.getElem_map];have:(es.push {key:=keyV ag ky,val:=zv,born:=clock}).toList=es.toList++ [{key:=keyV ag ky,val:=zv,born:=clock}]:=by simp
                simp only[this]
                rw[List.getElem_append_right (by omega)];simp
          | some q=>
            obtain⟨i,u⟩:=q;rw[hfn]at hfk;have hrel:=fnd_find (key:=ky) (l:=l) (i:=0);rw[hfn]at hrel;obtain⟨_,p,hp1,hp2⟩:=fnd_get hfn;rw[Nat.sub_zero]at hp1;have hpm:p ∈ l:=List.mem_of_getElem? hp1;have hpk:p.1=ky:=(keyEq_eq hq2.1 (hw p hpm) hp2).symm
            have hei:∃e,es[i]? =some e∧e.key=keyV ag ky:=by
             have:(es.toList.map (fun e=>(e.key,e.val)))[i]? =some (keyV ag p.1,p.2):=by rw[hl,List.getElem?_map,hp1];rfl
             rw[List.getElem?_map,Array.getElem?_toList]at this
             cases he:es[i]? with
             |none=>rw[he]at this;cases this
             |some e=>rw[he]at this;simp at this;exact⟨e,rfl,by rw[this.1,hpk]⟩
            obtain⟨e,he1,he2⟩:=hei;have hsb:=sameBits_key (keyOk_single hq.1) hq2.1
            have hhas:has ky=true∧RowDen G va (val ky) u:=by
             have:=hf ky hq2.1
             cases hfi:l.find? (fun p=>keyEq ky p.1)with
             |none=>rw[hfi]at hrel;cases hrel
             | some p' =>
               rw[hfi]at this hrel;simp only[Option.map_some,Option.some.injEq]at hrel;rw[hrel];exact this
            have e1:(es.modify i fun e=>{e with key:=keyV ag ky}).toList.map (·.born)=es.toList.map (·.born):=born_modify (fun _=>rfl);refine⟨es.modify i fun e=>{e with key:=keyV ag ky},clock,l,u,e.born,?_,?_,hw,by rw[e1];exact hI,fun q hqk=> ?_,?_,hhas.2⟩
            · simp[Instr.mapEntry,run_underlying hu,hget,hck,hfk,hset,he1,he2,Instr.keyThatStays,hsb,goInt]
            · rw[←hl];apply List.ext_getElem?
              intro j;rw[List.getElem?_map,List.getElem?_map,Array.toList_modify,List.getElem?_modify]
              by_cases hij:i=j
              · subst hij;rw[Array.getElem?_toList,he1];simp[he2]
              · simp[hij]
            · have:=hf q hqk
              by_cases hqq:keyEq q ky=true
              · have e:=keyEq_eq hqk hq2.1 hqq;subst e;simp only[hqq,Bool.true_or];split at this
                · first|exact⟨rfl,this.2⟩|exact⟨trivial,this.2⟩
                · rw[hhas.1]at this;cases this.1
              · have hqf:keyEq q ky=false:=by simpa using hqq
                simp only[hqf,Bool.false_or];exact this
            · rw[e1,List.mem_iff_getElem];have hil:i<l.length:=(List.getElem?_eq_some_iff.1 hp1).1;refine⟨i,by simp[hlen,hil],?_⟩;simp only[List.getElem_zip,List.getElem_map,Prod.mk.injEq];have g1:l[i]=p:=by rw[List.getElem?_eq_getElem hil]at hp1;exact Option.some.inj hp1
              have hie:i<es.size:=(Array.getElem?_eq_some_iff.1 he1).1
              have g2:es.toList[i]'(by simpa using hie)=e:=by
               rw[Array.getElem?_eq_getElem hie]at he1;simpa using Option.some.inj he1
              rw[g1,g2];exact⟨hpk,rfl⟩
         obtain⟨es',clock',l',v,b,hrun,hl',hw',hI',hf',hkb,hv⟩:=key2;have hk:=hk clock' _ b (kb_of hl' hw' hI' hf') hkb;obtain⟨x,hx1,hx2⟩:=rowSV_den (β:=β) hv hk
         have hchg:=h.change (d:=d) (r':=.mapB ag va ks zr (fun q=>keyEq q ky||has q) val clock' ((l'.map (·.1)).zip (es'.toList.map (·.born)))) (v:=.map (some r)) (w':={w with heap:=w.heap.setIfInBounds r (.map es' clock')})
          hres rfl rfl hb rfl rfl rfl (by simp) (fun b hb' =>by
           have:b≠r:=fun e=>hb' (by rw[e];rfl)
           simp[Array.getElem?_setIfInBounds_ne (Ne.symm this)])
          ⟨r,es',l',hb,by simp[hlt],hl',hw',hI',rfl,hf'⟩
         refine wp_value (v:=.tuple #[v,.int .i64 (b:Nat)]) (w':={w with heap:=w.heap.setIfInBounds r (.map es' clock')}) (by simp only[execOp,ho,hmv,hkv,Sem.run_bind,hrun];rfl) ⟨_,hx2,?_⟩;refine hchg.fin (h0:=h0) hN (.tup _ [v,.int .i64 (b:Nat)] rfl (fun i z u hz hu=> ?_))
         match i with
         |0=>simp at hz hu;subst hz;subst hu;exact hx1
         |1=>simp at hz hu;subst hz;subst hu;exact .d _ _ (.int _ _)
         |i+2=>simp at hz
       · exact hk.elim
     · exact hk.elim
   · exact hk.elim
 · exact hk.elim
def entryStoreE (T:Tab)(dst:Option Nat)(s:St)(m st x:SV)(k:Upd→Prop):Prop:=
 match m,st with
 | .mp d,.d (.int .i64 n)=>match s.res d with
   | some (.mapB ag va ks zr has val clock kb)=>match rowD x with
     |some row=>br (aggSV x==va) (∃ky b,((ky,b) ∈ kb∧n=(b:Nat))∧k ⟨dst,.undef,[(d,some (.map ag va ks zr has (fun q=>bif keyEq q ky then row else val q)))],[]⟩) False
     |none=>False
   |_=>False
 |_,_=>False
theorem wp_entryStore {o:Oper}{ty:TypeId}{m st x:Operand}(ho:o.op= .entryStore ty m st x)(h0:a.defers= [])(h:MG A G β s a.tmps w)(hN:∀d,o.dst=some d→d<A.N)
 {k:Upd→Prop}(hk:entryStoreE T o.dst s (s.ev m) (s.ev st) (s.ev x) k){Q:Exit→Act→World→Prop}:o.wp P a w (fun a' w' =>∃u,k u∧Mod A (s.app u) a' w') Q:=by
 unfold entryStoreE at hk;split at hk
 · rename_i d n hme hse;split at hk
   · rename_i ag va ks zr has val clock kb hres;split at hk
     · rename_i row hrow;obtain⟨hq,ky,b,⟨hkk,rfl⟩,hk2⟩:=br_elim hk;obtain⟨r,es,l,hb,hh,hl,hw,hI,hkb,hf⟩:=h.rs _ _ hres;have hx:=h.ev m;rw[hme]at hx;generalize hmv:a.eval m=mv at hx
       cases hx with|mp _ _ hm _=>
       rw[hb]at hm;cases hm;have hs:=h.ev st;rw[hse]at hs;generalize hsv:a.eval st=sv at hs
       cases hs with|d _ _ hs=>cases hs with|int=>
       have hrv:=row_of (h.ev x) hrow;rw[show aggSV (s.ev x)=va by simpa using hq]at hrv;have hget:(getObj r).run P w= .ok (.map es clock) w:=by simp[getObj,Sem.run,hh]
       have hset:∀ob,(setObj r ob).run P w= .ok () {w with heap:=w.heap.setIfInBounds r ob}:=fun ob=>by simp[setObj,Sem.run,hh]
       have hlt:r<w.heap.size:=(Array.getElem?_eq_some_iff.1 hh).1;have hlen:=kb_len hl;rw[hkb,List.mem_iff_getElem]at hkk;obtain⟨i,hi,he⟩:=hkk;have hi1:i<es.toList.length:=by simp at hi;simp;omega
       have hil:i<l.length:=by omega
       simp only[List.getElem_zip,List.getElem_map,Prod.mk.injEq]at he
       have hfi:es.findIdx? (fun e=>(e.born:Int)==(b:Int))=some i:=by
        rw[Array.findIdx?_eq_some_iff_getElem];refine⟨by simpa using hi1,by rw[←Array.getElem_toList (h:=by simpa using hi1),he.2];simp,fun j hj=> ?_⟩;have:=(List.pairwise_iff_getElem.1 hI.1) j i (by simp at hi1 ⊢;omega) (by simpa using hi1) hj;simp only[List.getElem_map,Array.getElem_toList]at this he;simp only[beq_iff_eq,Int.ofNat_inj];omega
       have hwk:wk ks ky=true:=by rw[←he.1];exact hw _ (List.getElem_mem hil)
       have hfn:∃u,fnd ky l 0=some (i,u):=by
        cases hq:fnd ky l 0 with
        | none=>
          have:=fnd_none hq l[i] (List.getElem_mem hil);rw[he.1,keyEq_refl hwk]at this
          cases this
        | some p=>
          obtain⟨j,u⟩:=p;obtain⟨_,p,hp1,hp2⟩:=fnd_get hq;rw[Nat.sub_zero]at hp1;have hjl:j<l.length:=(List.getElem?_eq_some_iff.1 hp1).1;have hpe:l[j]=p:=by rw[List.getElem?_eq_getElem hjl]at hp1;exact Option.some.inj hp1
          have hpk:l[j].1=ky:=by rw[hpe];exact(keyEq_eq hwk (hw p (List.mem_of_getElem? hp1)) hp2).symm
          have:i=j:=by
           rcases Nat.lt_trichotomy i j with q|q|q
           · have:=(List.pairwise_iff_getElem.1 hI.2.2) i j (by simpa using hil) (by simpa using hjl) q;simp only[List.getElem_map]at this;rw[hpk,he.1,keyEq_refl hwk]at this;cases this
           · exact q
           · have:=(List.pairwise_iff_getElem.1 hI.2.2) j i (by simpa using hjl) (by simpa using hil) q;simp only[List.getElem_map]at this;rw[hpk,he.1,keyEq_refl hwk]at this;cases this
          subst this;exact⟨u,rfl⟩
       obtain⟨u,hfn⟩:=hfn;have e1:(es.modify i fun e=>{e with val:=a.eval x}).toList.map (·.born)=es.toList.map (·.born):=born_modify (fun _=>rfl);have e2:(l.modify i fun _=>(ky,a.eval x)).map (·.1)=l.map (·.1):=key_modify (List.getElem?_eq_getElem hil) he.1
       have hrun:(Instr.entryStore ty (.map (some r)) (.int .i64 (b:Nat)) (a.eval x)).run P w= .ok () {w with heap:=w.heap.setIfInBounds r (.map (es.modify i fun e=>{e with val:=a.eval x}) clock)}:=by
        simp[Instr.entryStore,hget,hset,asInt,asIntOf,hfi]
       have hchg:=h.change (d:=d) (r':=.map ag va ks zr has (fun q=>bif keyEq q ky then row else val q)) (v:=.map (some r)) (w':={w with heap:=w.heap.setIfInBounds r (.map (es.modify i fun e=>{e with val:=a.eval x}) clock)})
        hres rfl rfl hb rfl rfl rfl (by simp) (fun b hb' =>by
         have:b≠r:=fun e=>hb' (by rw[e];rfl)
         simp[Array.getElem?_setIfInBounds_ne (Ne.symm this)])
        ⟨r, _,clock,l.modify i fun _=>(ky,a.eval x),hb,by simp[hlt];rfl,by
          apply List.ext_getElem?
          intro j;have hj:(es.toList.map (fun e=>(e.key,e.val)))[j]? =(l.map (fun p=>(keyV ag p.1,p.2)))[j]? :=by rw[hl]
          rw[List.getElem?_map,List.getElem?_map]at hj;rw[List.getElem?_map,List.getElem?_map,Array.toList_modify,List.getElem?_modify,List.getElem?_modify]
          by_cases hij:i=j
          · subst hij;rw[List.getElem?_eq_getElem hi1,List.getElem?_eq_getElem hil]at hj ⊢;simp at hj;simp[hj.1,he.1]
          · simp only[hij,if_false]
            simpa using hj,by
          intro p hp;obtain⟨j,hj,rfl⟩:=List.getElem_of_mem hp;rw[List.getElem_modify];split
          · exact hwk
          · exact hw _ (List.getElem_mem _),by rw[e1,e2];exact hI,fun q hqk=>by
          have h1:=upd_find (v:=a.eval x) hwk hw hfn q hqk;rw[Nat.sub_zero]at h1;rw[h1];have h2:=hf q hqk
          by_cases hqq:keyEq q ky=true
          · rw[if_pos hqq];have e:=keyEq_eq hqk hwk hqq;refine⟨?_,by simp only[hqq,cond_true];exact hrv⟩;rw[e];have h3:=(kb_of hl hw hI hf).kh ky hwk;refine h3.2 ⟨b,?_⟩;rw[List.mem_iff_getElem];exact⟨i,hi,by simp only[List.getElem_zip,List.getElem_map,Prod.mk.injEq];exact he⟩
          · rw[if_neg hqq];have hqf:keyEq q ky=false:=by simpa using hqq
            simp only[hqf,cond_false]
            exact h2⟩
       exact wp_skip' (w':=_) (by simp only[execOp,ho,hmv,hsv,Sem.run_bind,hrun];rfl) ⟨_,hk2,hchg.fin (h0:=h0) hN .undef⟩
     · exact hk.elim
   · exact hk.elim
 · exact hk.elim
def lenMapE (s:St)(m:SV)(k:SV→Prop):Prop:=
 match m with
 | .mp d=>match s.res d with
   |some (.map ag va ks zr has val)=>∀clock kb,KB ks has clock kb→k (.d (.int .i64 (kb.length:Nat)))
   |some (.mapB ag va ks zr has val clock kb)=>k (.d (.int .i64 (kb.length:Nat)))
   |_=>False
 |_=>False
theorem gives_lenMap (hT:TabOk P T)(h:MG A G β s a.tmps w){m:Operand}{ty:TypeId}{kt vt:TypeId}(hu:P.underlying ty=some (.map kt vt)){rt:TypeId}{k:SV→Prop}(hk:lenMapE s (s.ev m) k):Gives P G β w (Builtin.len_ #[ty] rt #[a.eval m]) k:=by
 unfold lenMapE at hk;split at hk
 · rename_i d hme;have hx:=h.ev m;rw[hme]at hx;generalize hmv:a.eval m=mv at hx
   cases hx with|mp _ _ hm _=>
   split at hk
   · rename_i ag va ks zr has val hres;obtain⟨r,es,clock,l,hb,hh,hl,hw,hI,hf⟩:=h.rs _ _ hres;rw[hb]at hm;cases hm;have hget:(getObj r).run P w= .ok (.map es clock) w:=by simp[getObj,Sem.run,hh]
     have hlen:=kb_len hl;refine⟨_,_,by simp[Builtin.len_,run_underlying hu,hget];rfl,?_,hk clock _ (kb_of hl hw hI hf)⟩;have:((l.map (·.1)).zip (es.toList.map (·.born))).length=es.size:=by simp[←hlen]
     rw[this];exact .d _ _ (.int _ _)
   · rename_i ag va ks zr has val clock kb hres;obtain⟨r,es,l,hb,hh,hl,hw,hI,hkb,hf⟩:=h.rs _ _ hres;rw[hb]at hm;cases hm;have hget:(getObj r).run P w= .ok (.map es clock) w:=by simp[getObj,Sem.run,hh]
     have hlen:=kb_len hl;refine⟨_,_,by simp[Builtin.len_,run_underlying hu,hget];rfl,?_,hk⟩;have:kb.length=es.size:=by rw[hkb];simp[←hlen]
     rw[this];exact .d _ _ (.int _ _)
   · exact hk.elim
 · exact hk.elim
end
end Go.Eng
namespace Go.Eng
open Go
section
variable {P:Program} {T:Tab} {A:Amb} {G:Hp} {β:Env} {s:St} {a:Act} {w:World}
def isU8s (T:Tab)(t:TypeId):Bool:=
 match T t with
 | some ⟨.slice e,_,_,_,_⟩=>match T e with
   |some ⟨.int .u8,_,_,_,_⟩=>true
   |_=>false
 |_=>false
theorem isU8s_get (hT:TabOk P T){t:TypeId}(h:isU8s T t=true):∃e,P.underlying t=some (.slice e)∧P.underlying e=some (.int .u8):=by
 unfold isU8s at h;split at h
 · rename_i e _ _ _ _ ht;split at h
   · rename_i he;exact⟨e,(hT.get ht).1,(hT.get he).1⟩
   · cases h
 · cases h
def isStr (T:Tab)(t:TypeId):Bool:=
 match T t with
 |some ⟨.string,_,_,_,_⟩=>true
 |_=>false
theorem isStr_get (hT:TabOk P T){t:TypeId}(h:isStr T t=true):P.underlying t=some .string:=by
 unfold isStr at h;split at h
 · rename_i ht;exact(hT.get ht).1
 · cases h
def byteD (b:UInt8):List DV:= [.int .u8 (b.toNat:Int)]
def bytesOf (n:Nat)(get:Nat→List DV)(bs:List UInt8):Prop:=n=bs.length∧∀i,i<bs.length→get i=byteD (bs.getD i 0)
def bytesE (T:Tab)(dst:Option Nat)(s:St)(src ty:TypeId)(x:SV)(k:Upd→Prop)(els:Prop):Prop:=
 br (isU8s T src&&isStr T ty)
  (match x with
  | .d .nilsl=>k ⟨dst,.d (.str []),[],[]⟩
  | .d (.ro 1 n g)=>∃bs,bytesOf n g bs∧k ⟨dst,.d (.str bs),[],[]⟩
  | .buf d=>match s.res d with
    |some (.buf _ 1 n g)=>∃bs,bytesOf n g bs∧k ⟨dst,.d (.str bs),[],[]⟩
    |some (.fro 1 n g)=>∃bs,bytesOf n g bs∧k ⟨dst,.d (.str bs),[],[]⟩
    |some (.byb n g)=>∃bs,bytesOf n g bs∧k ⟨dst,.d (.str bs),[],[]⟩
    |_=>False
  |_=>False)
  (br (isStr T src&&isU8s T ty)
    (match x with
    | .d (.str bs)=>bs.length≤1099511627776∧(k ⟨dst,.d (.ro 1 bs.length fun i=>byteD (bs.getD i 0)),[],[]⟩∨(match dst with
      |some d=>br (s.used d) False (k ⟨some d,.buf d,[(d,some (.byb bs.length fun i=>byteD (bs.getD i 0)))],[d]⟩)
      |none=>False))
    |_=>False)
    els)
theorem bytes_den {n:Nat}{g:Nat→List DV}{bs:List UInt8}(hb:bytesOf n g bs){v:Value}(hd:DV.Den G (.ro 1 n g) v)(hw:∀b o,G b=some o→w.heap[b]? =some o){src dst e:TypeId}
 (h1:P.underlying src=some (.slice e))(h2:P.underlying e=some (.int .u8))(h3:P.underlying dst=some .string):(convert src dst v).run P w= .ok (.string ⟨bs.toArray⟩) w:=by
 obtain⟨rfl,hg⟩:=hb;generalize hn:bs.length=n at hd
 cases hd with
 | ronil=>
   have:bs= []:=List.eq_nil_of_length_eq_zero hn;subst this;rw[run_convert_bytes_string w src dst e _ 0 0 h1 h2 h3]
   simp[Conv.bytesToString,ByteArray.empty,ByteArray.emptyWithCapacity]<;>rfl
 | ro _ _ _ a cap vals hs hcap hmax hl hc hd=>
   rw[←hn];refine run_convert_bytes_back w src dst e a cap bs h1 h2 h3 (fun j hj=> ?_);have hgj:=hg j hj;have h0:(g j)[0]? =some (.int .u8 ((bs.getD j 0).toNat:Int)):=by rw[hgj];rfl
   obtain⟨c,e',fr,q1,q2,q3⟩:=hc j 0 _ (by omega) h0;have q4:=hd j 0 _ (by omega) h0;generalize hval:vals j 0=u at q3 q4
   cases q4 with|int=>
   have hadd:a.add (j*1+0)=a.add j:=by simp
   rw[hadd]at q1 q2 q3;unfold World.cell?;rw[hw _ _ q1];try simp only
   rw[q2];try simp only
   rw[q3];simp[List.getD_eq_getElem?_getD,List.getElem?_eq_getElem hj]
theorem wp_bytes (hT:TabOk P T){o:Oper}{src ty:TypeId}{x:Operand}(ho:o.op= .convert src ty x)(h0:a.defers= [])(h:MG A G β s a.tmps w)(hN:∀d,o.dst=some d→d<A.N)
 {k:Upd→Prop}{els:Prop}{Q:Exit→Act→World→Prop}(hk:bytesE T o.dst s src ty (s.ev x) k els)(hels:els→o.wp P a w (fun a' w' =>∃u,k u∧Mod A (s.app u) a' w') Q):
 o.wp P a w (fun a' w' =>∃u,k u∧Mod A (s.app u) a' w') Q:=by
 have hx:=h.ev x;unfold bytesE br at hk;split at hk
 · rename_i hq;rw[Bool.and_eq_true]at hq;obtain⟨e,h1,h2⟩:=isU8s_get hT hq.1;have h3:=isStr_get hT hq.2
   have key:∀bs:List UInt8,(convert src ty (a.eval x)).run P w= .ok (.string ⟨bs.toArray⟩) w→k ⟨o.dst,.d (.str bs),[],[]⟩→o.wp P a w (fun a' w' =>∃u,k u∧Mod A (s.app u) a' w') Q:=by
    intro bs hr hk;exact wp_value (by simp only[execOp,ho,Sem.run_bind,hr];rfl) ⟨_,hk,MG.fin (s:=s) (rs:= []) (us:= []) (h0:=h0) h hN (.d _ _ (.str bs))⟩
   split at hk
   · rename_i hxe;rw[hxe]at hx;generalize hv:a.eval x=v at hx key
     cases hx with|d _ _ hx=>cases hx with|nilsl=>
     refine key [] ?_ hk;rw[run_convert_bytes_string w src ty e _ 0 0 h1 h2 h3];simp[Conv.bytesToString,ByteArray.empty,ByteArray.emptyWithCapacity]<;>rfl
   · rename_i n g hxe;obtain⟨bs,hb,hk⟩:=hk;rw[hxe]at hx;generalize hv:a.eval x=v at hx key
     cases hx with|d _ _ hx=>
     exact key bs (bytes_den hb hx h.gw h1 h2 h3) hk
   · rename_i d hxe;rw[hxe]at hx;generalize hv:a.eval x=v at hx key
     cases hx with|buf _ _ hbd _=>
     split at hk
     · rename_i e' n g hr;obtain⟨bs,⟨rfl,hg⟩,hk⟩:=hk;obtain⟨v',xs,hv',hown,_,_,hgd⟩:=h.rs _ _ hr;rw[hbd]at hv';cases hv';refine key bs ?_ hk;rcases hown.2 with⟨rfl,hz⟩|⟨gb,cap,cur,rfl,_,hh,hnc,_,hcz,htake⟩
       · have:bs= []:=List.eq_nil_of_length_eq_zero hz;subst this;rw[run_convert_bytes_string w src ty e _ 0 0 h1 h2 h3];simp[Conv.bytesToString,ByteArray.empty,ByteArray.emptyWithCapacity]<;>rfl
       · refine run_convert_bytes_back w src ty e _ cap bs h1 h2 h3 (fun j hj=> ?_);have h00:(g j)[0]? =some (.int .u8 ((bs.getD j 0).toNat:Int)):=by rw[hg j hj];rfl
         obtain⟨u,hu,hud⟩:=hgd j 0 _ hj h00
         cases hud with|int=>
         have hadd:(⟨gb,0,none⟩:Addr).add j=⟨gb,j,none⟩:=by unfold Addr.add;split<;>simp_all
         have hcj:cur[j]? =some (.int .u8 ((bs.getD j 0).toNat:Int)):=by
          rw[←htake,List.getElem?_take_of_lt (by omega)]at hu;simpa using hu
         rw[hadd];unfold World.cell?;rw[hh];simp only;rw[hcj];simp[List.getD_eq_getElem?_getD,List.getElem?_eq_getElem hj]
     · rename_i n g hr;obtain⟨bs,hb,hk⟩:=hk;obtain⟨v',hv',hd⟩:=h.rs _ _ hr;rw[hbd]at hv';cases hv';exact key bs (bytes_den hb hd h.gw h1 h2 h3) hk
     · rename_i n g hr;obtain⟨bs,⟨rfl,hg⟩,hk⟩:=hk;obtain⟨b,cap,cs,e',hv',hh,hnc,hcm,hns,hgd⟩:=h.rs _ _ hr;rw[hbd]at hv';cases hv';refine key bs ?_ hk;refine run_convert_bytes_back w src ty e _ cap bs h1 h2 h3 (fun j hj=> ?_);obtain⟨m,q1,q2⟩:=hgd j hj;rw[hg j hj]at q1;have hm:m=((bs.getD j 0).toNat:Int):=by simpa [byteD]using q1.symm
       subst hm;have hadd:(⟨b,0,none⟩:Addr).add j=⟨b,j,none⟩:=by unfold Addr.add;split<;>simp_all
       rw[hadd];unfold World.cell?;rw[hh];simp only;rw[q2];simp[List.getD_eq_getElem?_getD,List.getElem?_eq_getElem hj]
     · exact hk.elim
   · exact hk.elim
 · split at hk
   · rename_i hq;rw[Bool.and_eq_true]at hq;obtain⟨e,h1,h2⟩:=isU8s_get hT hq.2;have h3:=isStr_get hT hq.1;split at hk
     · rename_i bs hxe;obtain⟨hlen,hk⟩:=hk;rw[hxe]at hx;generalize hv:a.eval x=v at hx
       cases hx with|d _ _ hx=>cases hx with|str=>
       have hrun:=run_bytes_of_string (P:=P) w src ty e ⟨bs.toArray⟩ h3 h1 h2;have hsz:(⟨bs.toArray⟩:ByteArray).size=bs.length:=by simp[ByteArray.size]
       rw[hsz]at hrun;have hge:=grownCap_ge w bs.length 0 e;have hmx:=grownCap_le_maxLen w bs.length 0 e (by unfold maxLen;omega);generalize grownCap w bs.length 0 e=cap at hrun hge hmx;rcases hk with hk|hk
       · have hm:=h.drew.allocG (.cells (bytesRow ⟨bs.toArray⟩ cap) e ((bytesRow ⟨bs.toArray⟩ cap).size,(bytesRow ⟨bs.toArray⟩ cap).size+1));refine wp_value (by simp only[execOp,ho,hv,Sem.run_bind,hrun];rfl) ⟨_,hk,?_⟩;refine MG.fin (s:=s) (rs:= []) (us:= []) (h0:=h0) hm hN (.d _ _ ?_);refine .ro 1 bs.length _ _ cap (fun i _=>.int .u8 ((bs.getD i 0).toNat:Int)) rfl hge hmx (fun i _=>rfl) (fun i j z hi hz=> ?_) (fun i j z hi hz=> ?_)
         · have hj:j=0:=by
            have:=(List.getElem?_eq_some_iff.1 hz).1;simp[byteD]at this;omega
           subst hj;have hadd:(⟨w.heap.size,0,none⟩:Addr).add (i*1+0)=⟨w.heap.size,i,none⟩:=by unfold Addr.add;split<;>simp_all
           rw[hadd];refine⟨bytesRow ⟨bs.toArray⟩ cap,e,((bytesRow ⟨bs.toArray⟩ cap).size,(bytesRow ⟨bs.toArray⟩ cap).size+1),?_,rfl,?_⟩
           · show(if _=_ then _ else _)=_;exact if_pos rfl
           · simp[bytesRow,Array.getElem?_append,hi,List.getD_eq_getElem?_getD]
         · have hj:j=0:=by
            have:=(List.getElem?_eq_some_iff.1 hz).1;simp[byteD]at this;omega
           subst hj;simp[byteD]at hz;subst hz;exact .int _ _
       · split at hk
         · rename_i d hd;split at hk
           · exact hk.elim
           rename_i hu;have hset:(β.set d (.slice (some ⟨w.drew.heap.size,0,none⟩) bs.length cap)) d=some (.slice (some ⟨w.drew.heap.size,0,none⟩) bs.length cap):=by simp[Env.set]
           have hsz2:bs.length≤(bytesRow ⟨bs.toArray⟩ cap).size:=by simp[bytesRow,ByteArray.size]
           have hm:=h.drew.allocR hu (o:=.cells (bytesRow ⟨bs.toArray⟩ cap) e ((bytesRow ⟨bs.toArray⟩ cap).size,(bytesRow ⟨bs.toArray⟩ cap).size+1)) (r:=.byb bs.length fun i=>byteD (bs.getD i 0)) (v:=.slice (some ⟨w.drew.heap.size,0,none⟩) bs.length cap) rfl rfl
            ⟨w.drew.heap.size,cap,bytesRow ⟨bs.toArray⟩ cap,e,hset,heap_alloc_new w.drew _,hge,hmx,hsz2,fun i hi=>⟨((bs.getD i 0).toNat:Int),rfl,by simp[bytesRow,Array.getElem?_append,hi,List.getD_eq_getElem?_getD]⟩⟩
           refine wp_value (by simp only[execOp,ho,hv,Sem.run_bind,hrun];rfl) ⟨_,hk,?_⟩;rw[hd]at hN ⊢;exact hm.fin (h0:=h0) hN (.buf _ _ hset rfl)
         · exact hk.elim
     · exact hk.elim
   · exact hels hk
end
end Go.Eng
namespace Go.Eng
open Go Go.MapKept
section
variable {P:Program} {T:Tab} {A:Amb} {G:Hp} {β:Env} {s:St} {a:Act} {w:World} {t:Array Value}
theorem run_mapPut (hT:TabOk P T){kt vt ty:TypeId}(hu:P.underlying ty=some (.map kt vt)){ag:Bool}{ks:List KK}(hq:keyOk T kt ag ks=true){ky:List DV}(hky:wk ks ky=true){r:Nat}{es:Array MapEntry}{clock:Nat}{l:List (List DV×Value)}
 (hh:w.heap[r]? =some (.map es clock))(hl:es.toList.map (fun e=>(e.key,e.val))=l.map (fun p=>(keyV ag p.1,p.2)))(hw:∀p ∈ l,wk ks p.1=true)(hI:MapI (es.toList.map (·.born)) clock (l.map (·.1)))(x:Value):
 ∃ (es':Array MapEntry) (clock':Nat) (l':List (List DV×Value)),(Instr.mapUpdate ty (.map (some r)) (keyV ag ky) x).run P w= .ok () {w with heap:=w.heap.setIfInBounds r (.map es' clock')}∧
  es'.toList.map (fun e=>(e.key,e.val))=l'.map (fun p=>(keyV ag p.1,p.2))∧(∀p ∈ l',wk ks p.1=true)∧MapI (es'.toList.map (·.born)) clock' (l'.map (·.1))∧
  ∀q,wk ks q=true→l'.find? (fun p=>keyEq q p.1)=if keyEq q ky=true then some (ky,x)else l.find? (fun p=>keyEq q p.1):=by
 have hget:(getObj r).run P w= .ok (.map es clock) w:=by simp[getObj,Sem.run,hh]
 have hset:∀ob,(setObj r ob).run P w= .ok () {w with heap:=w.heap.setIfInBounds r ob}:=fun ob=>by simp[setObj,Sem.run,hh]
 have hck:=run_checkKey' (w:=w) hT hq hky false;have hfk:=run_findKey' (w:=w) hT hq hky l es.toList hl hw
 cases hfn:fnd ky l 0 with
 | none=>
   rw[hfn]at hfk;refine⟨es.push {key:=keyV ag ky,val:=x,born:=clock},clock+1,l++ [(ky,x)],?_,?_,?_,?_,new_find hky hw hfn⟩
   · simp[Instr.mapUpdate,run_underlying hu,hget,hck,hfk,hset]
   · simp[hl]
   · intro p hp;rcases List.mem_append.1 hp with q|q
     · exact hw p q
     · simp at q;subst q;exact hky
   · have:=hI.snoc hw hky hfn
     simpa using this
 | some q=>
   obtain⟨i,u⟩:=q;rw[hfn]at hfk;obtain⟨_,p,hp1,hp2⟩:=fnd_get hfn;rw[Nat.sub_zero]at hp1;have hpm:p ∈ l:=List.mem_of_getElem? hp1;have hpk:p.1=ky:=(keyEq_eq hky (hw p hpm) hp2).symm
   have hei:∃e,es[i]? =some e∧e.key=keyV ag ky:=by
    have:(es.toList.map (fun e=>(e.key,e.val)))[i]? =some (keyV ag p.1,p.2):=by rw[hl,List.getElem?_map,hp1];rfl
    rw[List.getElem?_map,Array.getElem?_toList]at this
    cases he:es[i]? with
    |none=>rw[he]at this;cases this
    |some e=>rw[he]at this;simp at this;exact⟨e,rfl,by rw[this.1,hpk]⟩
   obtain⟨e,he1,he2⟩:=hei;have hsb:=sameBits_key (keyOk_single hq) hky;refine⟨es.modify i fun e=>{e with key:=keyV ag ky,val:=x},clock,l.modify i fun _=>(ky,x),?_,?_,?_,?_,?_⟩
   · simp[Instr.mapUpdate,run_underlying hu,hget,hck,hfk,hset,he1,he2,Instr.keyThatStays,hsb]
   · apply List.ext_getElem?
     intro j;have hj:(es.toList.map (fun e=>(e.key,e.val)))[j]? =(l.map (fun p=>(keyV ag p.1,p.2)))[j]? :=by rw[hl]
     rw[List.getElem?_map,List.getElem?_map]at hj;rw[List.getElem?_map,List.getElem?_map,Array.toList_modify,List.getElem?_modify,List.getElem?_modify]
     by_cases hij:i=j
     · subst hij;rw[hp1]at hj ⊢;rw[Array.getElem?_toList,he1];simp
     · simp only[hij,if_false];simpa using hj
   · intro p' hp';obtain⟨j,hj,rfl⟩:=List.getElem_of_mem hp';rw[List.getElem_modify];split
     · exact hky
     · exact hw _ (List.getElem_mem _)
   · have e1:(es.modify i fun e=>{e with key:=keyV ag ky,val:=x}).toList.map (·.born)=es.toList.map (·.born):=born_modify (fun _=>rfl);have e2:(l.modify i fun _=>(ky,x)).map (·.1)=l.map (·.1):=key_modify hp1 hpk;rw[e1,e2];exact hI
   · have:=upd_find (v:=x) hky hw hfn;rwa [Nat.sub_zero]at this
theorem idx_key {ks:List KK}{bs:List Nat}{c:Nat}{l:List (List DV×Value)}(hI:MapI bs c (l.map (·.1)))(hw:∀p ∈ l,wk ks p.1=true){i j:Nat}{p q:List DV×Value}(hp:l[i]? =some p)(hq:l[j]? =some q)(h:p.1=q.1):i=j:=by
 have key:∀ (a b:Nat) (p q:List DV×Value),l[a]? =some p→l[b]? =some q→a<b→keyEq p.1 q.1=false:=fun a b p q ha hb hab=>by
  obtain⟨ha,ea⟩:=List.getElem?_eq_some_iff.1 ha;obtain⟨hb,eb⟩:=List.getElem?_eq_some_iff.1 hb;have:=List.pairwise_iff_getElem.1 hI.2.2 a b (by simpa using ha) (by simpa using hb) hab;rw[List.getElem_map,List.getElem_map,ea,eb]at this;exact this
 have hself:keyEq p.1 q.1=true:=by rw[←h];exact keyEq_refl (hw p (List.mem_of_getElem? hp))
 rcases Nat.lt_trichotomy i j with h1|h1|h1
 · rw[key i j p q hp hq h1]at hself;cases hself
 · exact h1
 · have:=key j i q p hq hp h1;rw[←h,keyEq_refl (hw p (List.mem_of_getElem? hp))]at this;cases this
theorem find_self {ks:List KK}{bs:List Nat}{c:Nat}{l:List (List DV×Value)}(hI:MapI bs c (l.map (·.1)))(hw:∀p ∈ l,wk ks p.1=true){p:List DV×Value}(hp:p ∈ l):l.find? (fun q=>keyEq p.1 q.1)=some p:=by
 cases hf:l.find? (fun q=>keyEq p.1 q.1)with
 | none=>
   have:=List.find?_eq_none.1 hf p hp
   rw[keyEq_refl (hw p hp)]at this;simp at this
 | some q=>
   have hq:=List.mem_of_find?_eq_some hf;have hk:keyEq p.1 q.1=true:=by simpa using List.find?_some hf
   have he:=keyEq_eq (hw p hp) (hw q hq) hk;obtain⟨i,hi,rfl⟩:=List.getElem_of_mem hp;obtain⟨j,hj,rfl⟩:=List.getElem_of_mem hq;have:i=j:=idx_key hI hw (List.getElem?_eq_getElem hi) (List.getElem?_eq_getElem hj) he;subst this;rfl
theorem MG.take (h:MG A G β s t w){d n:Nat}{kk:KK}{e k:Nat}{has:List DV→Bool}{len:List DV→Nat}{get:List DV→Nat→List DV}{key:List DV}(hd:s.res d=some (.mapR kk e k has len get none))(hn:s.used n=false)(hk:wk [kk] key=true)
 {r:Nat}{es:Array MapEntry}{clock:Nat}{l:List (List DV×Value)}(hb:β d=some (.map (some r)))(hh:w.heap[r]? =some (.map es clock))(hl:es.toList.map (fun e=>(e.key,e.val))=l.map (fun p=>(keyV false p.1,p.2)))
 (hw:∀p ∈ l,wk [kk] p.1=true)(hI:MapI (es.toList.map (·.born)) clock (l.map (·.1)))(hk0:0<k)(hR:RowsOk G w e k kk has len get none l)(hA:RowsApart r none l){v:Value}
 (hv:(∃p ∈ l,p.1=key∧v=p.2)∨(len key=0∧v= .slice none 0 0)):
 MG A G (β.set n v) (s.app ⟨none,.any,[(n,some (.buf e k (len key) (get key))),(d,some (.mapR kk e k has len get (some key)))],[n]⟩) t w:=by
 have hle:=Env.le_set (v:=v) (h.free hn);have hset:(β.set n v) n=some v:=by simp[Env.set]
 have hold:∀x,x≠n→(β.set n v) x=β x:=fun x hx=>by simp[Env.set,hx]
 have hnd:d≠n:=fun q=>by subst q;rw[h.free hn]at hb;cases hb
 have hres:∀x,(s.app ⟨none,.any,[(n,some (.buf e k (len key) (get key))),(d,some (.mapR kk e k has len get (some key)))],[n]⟩).res x=if x=n then some (.buf e k (len key) (get key))else if x=d then some (.mapR kk e k has len get (some key))else s.res x:=by
  intro x;simp only[St.app,putR_apply,lookR]
  by_cases e1:x=n
  · subst e1;simp
  · rw[nbeq_ne e1]
    by_cases e2:x=d
    · subst e2;simp[e1]
    · rw[nbeq_ne e2];simp[e1,e2]
 have hrow:RowIn G w e k v (len key) (get key):=by
  rcases hv with⟨p,hp,rfl,rfl⟩|⟨h0,rfl⟩
  · exact(hR.row hw hI hp).2 (by simp)
  · rw[h0];exact⟨[],World.ownsRow_nil w 0 e k,fun i hi=>by omega,fun i j x hi=>by omega⟩
 have nores:∀x r',x=n→s.res x=some r'→False:=fun x r' q hx=>by
  subst q;obtain⟨u,hu⟩:=(h.rs x r' hx).env;rw[h.free hn]at hu;cases hu
 have bd:∀b,Blks w (.mapR kk e k has len get (some key)) (.map (some r)) b→(b=r∨∃p ∈ l,key≠p.1∧blk p.2=some b)∧Blks w (.mapR kk e k has len get none) (.map (some r)) b:=by
  intro b hx;rcases hx with q|⟨hq,q1,q2⟩
  · cases q;exact⟨.inl rfl,.of rfl⟩
  · cases q1;obtain⟨p,hp,hne,hpb⟩:=(entry_blk hh hl hw (fun k' hk' =>by cases hk';exact hk)).1 q2;exact⟨.inr ⟨p,hp,fun q=>hne (by rw[q]),hpb⟩,.inr ⟨.hole none,rfl,(entry_blk hh hl hw (fun _ h=>by cases h)).2 ⟨p,hp,by simp,hpb⟩⟩⟩
 have bn:∀b,blk v=some b→∃p ∈ l,p.1=key∧blk p.2=some b:=by
  intro b hx;rcases hv with⟨p,hp,hpk,rfl⟩|⟨_,rfl⟩
  · exact⟨p,hp,hpk,hx⟩
  · cases hx
 have bn':∀b,blk v=some b→Blks w (.mapR kk e k has len get none) (.map (some r)) b:=fun b hx=>by
  obtain⟨p,hp,_,hpb⟩:=bn b hx;exact .inr ⟨.hole none,rfl,(entry_blk hh hl hw (fun _ h=>by cases h)).2 ⟨p,hp,by simp,hpb⟩⟩
 have apart:∀b,Blks w (.mapR kk e k has len get (some key)) (.map (some r)) b→blk v=some b→False:=by
  intro b h1 h2;obtain⟨p,hp,hpk,hpb⟩:=bn b h2;rcases(bd b h1).1 with rfl|⟨q,hq,hqk,hqb⟩
  · exact hA.2 p hp (by simp) hpb
  · obtain⟨i,hi,e1⟩:=List.getElem_of_mem hp;obtain⟨j,hj,e2⟩:=List.getElem_of_mem hq;have:=hA.1 i j p q b (by rw[List.getElem?_eq_getElem hi,e1]) (by rw[List.getElem?_eq_getElem hj,e2]) (by simp) (by simp) hpb hqb;subst this;rw[e1]at e2;exact hqk (by rw[←e2,hpk])
 refine⟨h.sz,h.g0,fun d v e=>hle _ _ (h.e0 d v e),h.gw,h.gn,h.keep,fun i=>(h.tm i).mono (Hp.le_refl G) hle,fun x r' hx=> ?_,fun x x' r1 r2 v1 v2 b h1 h2 o1 o2 e1 e2 b1 b2=> ?_,fun x r' v' b hx ho' hv' hbb=> ?_,fun x v' hx=> ?_⟩
 · rw [hres]at hx;split at hx
   · rename_i q;subst q;cases hx;obtain⟨xs,q1,q2,q3⟩:=hrow;exact⟨v,xs,hset,q1,hk0,q2,q3⟩
   · split at hx
     · rename_i q;subst q;cases hx;refine⟨r,es,clock,l,by rw[hold _ hnd];exact hb,hh,hl,hw,hI,hk0,fun key' hk' => ?_,⟨fun i j p q b e1 e2 _ _=>hA.1 i j p q b e1 e2 (by simp) (by simp),fun p hp _=>hA.2 p hp (by simp)⟩,fun p hp=>by cases hp;exact hk⟩;have h0:=hR key' hk'
       cases hf:l.find? (fun q=>keyEq key' q.1)with
       |none=>rw[hf]at h0;exact h0
       |some p=>rw[hf]at h0;exact⟨h0.1,fun _=>h0.2 (by simp)⟩
     · exact(h.rs x r' hx).keep (Hp.le_refl G) hle (fun _ _ _ _ _=>rfl)
 · rw [hres]at h1 h2;split at h1
   · rename_i q;subst q;cases h1;rw[hset]at e1;cases e1;have b1:=b1.plain rfl;split at h2
     · rename_i q;exact q.symm
     · rename_i hne;split at h2
       · rename_i q;subst q;cases h2;rw[hold _ hnd,hb]at e2;cases e2;exact(apart b b2 b1).elim
       · rename_i hne2;exact absurd (h.dj d x' _ r2 _ v2 b hd h2 rfl o2 hb (by rw[←hold _ hne];exact e2) (bn' b b1) b2) (Ne.symm hne2)
   · rename_i hne;split at h1
     · rename_i q;subst q;cases h1;rw[hold _ hnd,hb]at e1;cases e1;split at h2
       · rename_i q;subst q;cases h2;rw[hset]at e2;cases e2;exact(apart b b1 (b2.plain rfl)).elim
       · rename_i hne';split at h2
         · rename_i q;exact q.symm
         · exact h.dj x x' _ r2 _ v2 b hd h2 rfl o2 hb (by rw[←hold _ hne'];exact e2) (bd b b1).2 b2
     · rename_i hne1;rw[hold _ hne]at e1;split at h2
       · rename_i q;subst q;cases h2;rw[hset]at e2;cases e2;exact absurd (h.dj x d r1 _ v1 _ b h1 hd o1 rfl e1 hb b1 (bn' b (b2.plain rfl))) hne1
       · rename_i hne';rw[hold _ hne']at e2;split at h2
         · rename_i q;subst q;cases h2;rw[hb]at e2;cases e2;exact h.dj x x' r1 _ v1 _ b h1 hd o1 rfl e1 hb b1 (bd b b2).2
         · exact h.dj x x' r1 r2 v1 v2 b h1 h2 o1 o2 e1 e2 b1 b2
 · rw[hres]at hx;split at hx
   · rename_i q;subst q;cases hx;rw[hset]at hv';cases hv';exact h.og d _ _ b hd rfl hb (bn' b (hbb.plain rfl))
   · rename_i hne;rw[hold _ hne]at hv';split at hx
     · rename_i q;subst q;cases hx;rw[hb]at hv';cases hv';exact h.og x _ _ b hd rfl hb (bd b hbb).2
     · exact h.og x r' v' b hx ho' hv' hbb
 · simp only[St.app,putU_apply,Bool.or_eq_true,mem_iff,List.mem_singleton]
   by_cases q:x=n
   · exact .inl q
   · exact .inr (h.sc x v' (by rw[←hold _ q];exact hx))
theorem MG.back (h:MG A G β s t w){d n:Nat}{kk:KK}{e k m:Nat}{g:Nat→List DV}{has:List DV→Bool}{len:List DV→Nat}{get:List DV→Nat→List DV}{key:List DV}(hd:s.res d=some (.mapR kk e k has len get (some key)))(hn:s.res n=some (.buf e k m g))
 {r:Nat}{es es':Array MapEntry}{clock clock':Nat}{l l':List (List DV×Value)}{v:Value}(hb:β d=some (.map (some r)))(hbn:β n=some v)(hh:w.heap[r]? =some (.map es clock))(hl:es.toList.map (fun e=>(e.key,e.val))=l.map (fun p=>(keyV false p.1,p.2)))
 (hw:∀p ∈ l,wk [kk] p.1=true)(hk:wk [kk] key=true)(hk0:0<k)(hR:RowsOk G w e k kk has len get (some key) l)(hA:RowsApart r (some key) l)
 (hl':es'.toList.map (fun e=>(e.key,e.val))=l'.map (fun p=>(keyV false p.1,p.2)))(hw':∀p ∈ l',wk [kk] p.1=true)(hI':MapI (es'.toList.map (·.born)) clock' (l'.map (·.1)))
 (hf':∀q,wk [kk] q=true→l'.find? (fun p=>keyEq q p.1)=if keyEq q key=true then some (key,v)else l.find? (fun p=>keyEq q p.1)):
 MG A G β (s.app ⟨none,.any,[(n,none),(d,some (.mapR kk e k (fun q=>keyEq q key||has q) (fun q=>bif keyEq q key then m else len q) (fun q=>bif keyEq q key then g else get q) none))],[]⟩) t {w with heap:=w.heap.setIfInBounds r (.map es' clock')}:=by
 have hlt:r<w.heap.size:=(Array.getElem?_eq_some_iff.1 hh).1;have hnd:d≠n:=fun q=>by subst q;rw[hd]at hn;cases hn
 have hres:∀x,(s.app ⟨none,.any,[(n,none),(d,some (.mapR kk e k (fun q=>keyEq q key||has q) (fun q=>bif keyEq q key then m else len q) (fun q=>bif keyEq q key then g else get q) none))],[]⟩).res x=if x=n then none else if x=d then some (.mapR kk e k (fun q=>keyEq q key||has q) (fun q=>bif keyEq q key then m else len q) (fun q=>bif keyEq q key then g else get q) none)else s.res x:=by
  intro x;simp only[St.app,putR_apply,lookR]
  by_cases e1:x=n
  · subst e1;simp
  · rw[nbeq_ne e1]
    by_cases e2:x=d
    · subst e2;simp[e1]
    · rw[nbeq_ne e2];simp[e1,e2]
 have hsame:∀b,b≠r→(w.heap.setIfInBounds r (.map es' clock'))[b]? =w.heap[b]? :=fun b q=>by simp[Array.getElem?_setIfInBounds_ne (Ne.symm q)]
 have hnew:(w.heap.setIfInBounds r (.map es' clock'))[r]? =some (.map es' clock'):=by simp[hlt]
 have hrd:Blks w (.mapR kk e k has len get (some key)) (.map (some r)) r:=.of rfl
 have ent:∀p ∈ l',p=(key,v)∨(p ∈ l∧key≠p.1):=by
  intro p hp;have hfs:=find_self hI' hw' hp;rw[hf' p.1 (hw' p hp)]at hfs;split at hfs
  · cases hfs;exact .inl rfl
  · rename_i hq;refine .inr ⟨List.mem_of_find?_eq_some hfs,fun q=>hq ?_⟩;rw[←q];exact keyEq_refl hk
 obtain⟨v0,xs,hv0,hown,_,hgl,hgd⟩:=h.rs _ _ hn;rw[hbn]at hv0;cases hv0;have hrow:RowIn G w e k v m g:=⟨xs,hown,hgl,hgd⟩;have keepRow:∀ {v':Value} {n':Nat} {g':Nat→List DV},(blk v'≠some r)→RowIn G w e k v' n' g'→RowIn G {w with heap:=w.heap.setIfInBounds r (.map es' clock')} e k v' n' g':=fun hne hrw=>hrw.keep (Hp.le_refl G) (fun b hb' =>hsame b (fun q=>hne (by rw[←q];exact hb')))
 have hvr:blk v≠some r:=fun q=>hnd (h.dj d n _ _ _ _ r hd hn rfl rfl hb hbn hrd (.of q))
 have old:∀p ∈ l,key≠p.1→∀b,blk p.2=some b→Blks w (.mapR kk e k has len get (some key)) (.map (some r)) b:=fun p hp hne b hpb=>
  .inr ⟨.hole (some key),rfl,(entry_blk hh hl hw (fun k' hk' =>by cases hk';exact hk)).2 ⟨p,hp,fun q=>hne (by cases q;rfl),hpb⟩⟩
 have bd:∀b,Blks {w with heap:=w.heap.setIfInBounds r (.map es' clock')} (.mapR kk e k (fun q=>keyEq q key||has q) (fun q=>bif keyEq q key then m else len q) (fun q=>bif keyEq q key then g else get q) none) (.map (some r)) b→
  Blks w (.mapR kk e k has len get (some key)) (.map (some r)) b∨blk v=some b:=by
  intro b hx;rcases hx with q|⟨hq,q1,q2⟩
  · cases q;exact .inl (.of rfl)
  · cases q1;obtain⟨p,hp,_,hpb⟩:=(entry_blk (w:={w with heap:=w.heap.setIfInBounds r (.map es' clock')}) hnew hl' hw' (fun _ h=>by cases h)).1 q2;rcases ent p hp with rfl|⟨q3,q4⟩
    · exact .inr hpb
    · exact .inl (old p q3 q4 b hpb)
 have others:∀x r1,x≠d→s.res x=some r1→r1.own=true→∀v1 b,β x=some v1→Blks w r1 v1 b→(w.heap.setIfInBounds r (.map es' clock'))[b]? =w.heap[b]? :=fun x r1 hne hx o1 v1 b hv1 hb1=>hsame b (fun q=>by
  subst q;exact hne (h.dj x d r1 _ v1 _ b hx hd o1 rfl hv1 hb hb1 hrd))
 refine⟨h.sz,h.g0,h.e0,fun b o hg=> ?_,h.gn,⟨h.keep.os,h.keep.tape,h.keep.output,by simpa using h.keep.size,fun b hltb hTb=> ?_⟩,h.tm,fun x r1 hx=> ?_,fun x x' r1 r2 v1 v2 b e1 e2 o1 o2 f1 f2 b1 b2=> ?_,fun x r1 v1 b hx ho1 hv1 hb1=> ?_,h.sc⟩
 · rw[hsame b (fun q=>by subst q;rw[(h.og d _ _ b hd rfl hb hrd).1]at hg;cases hg)];exact h.gw _ _ hg
 · rw[hsame b (fun q=>by subst q;rcases(h.og d _ _ b hd rfl hb hrd).2 with q|q;exact hTb q;omega)];exact h.keep.block b hltb hTb
 · rw [hres] at hx;split at hx
   · cases hx
   · rename_i hne;split at hx
     · rename_i q;subst q;cases hx;refine⟨r,es',clock',l',hb,hnew,hl',hw',hI',hk0,fun key' hk' => ?_,⟨fun i j p q b e1 e2 _ _ c1 c2=> ?_,fun p hp _=> ?_⟩,fun p hp=>by cases hp⟩
       · rw [hf' key' hk']
         by_cases hq:keyEq key' key=true
         · rw[if_pos hq];refine⟨by simp[hq],fun _=> ?_⟩;simp only[hq,cond_true];exact keepRow hvr hrow
         · rw[if_neg hq];have hqf:keyEq key' key=false:=by simpa using hq
           have h0:=hR key' hk'
           cases hf:l.find? (fun q=>keyEq key' q.1)with
           |none=>rw[hf]at h0;simp only[hqf,Bool.false_or,cond_false];exact h0
           | some p=>
             rw[hf]at h0;simp only[hqf,Bool.false_or,cond_false];have hkne:key≠key':=fun q=>by rw[←q,keyEq_refl hk]at hqf;cases hqf
             refine⟨h0.1,fun _=>keepRow ?_ (h0.2 (fun q=>hkne (by cases q;rfl)))⟩;have hp:=List.mem_of_find?_eq_some hf;have he:=keyEq_eq hk' (hw p hp) (by simpa using List.find?_some hf);exact hA.2 p hp (fun q=>hkne (by rw[he];cases q;rfl))
       · refine idx_key hI' hw' e1 e2 ?_;rcases ent p (List.mem_of_getElem? e1)with rfl|⟨q3,q4⟩
         · rcases ent q (List.mem_of_getElem? e2)with rfl|⟨q5,q6⟩
           · rfl
           · exact absurd (h.dj x n _ _ _ _ b hd hn rfl rfl hb hbn (old q q5 q6 b c2) (.of c1)) hnd
         · rcases ent q (List.mem_of_getElem? e2)with rfl|⟨q5,q6⟩
           · exact absurd (h.dj x n _ _ _ _ b hd hn rfl rfl hb hbn (old p q3 q4 b c1) (.of c2)) hnd
           · obtain⟨i',hi',e3⟩:=List.getElem_of_mem q3;obtain⟨j',hj',e4⟩:=List.getElem_of_mem q5;have:=hA.1 i' j' p q b (by rw[List.getElem?_eq_getElem hi',e3]) (by rw[List.getElem?_eq_getElem hj',e4]) (fun q=>q4 (by cases q;rfl)) (fun q=>q6 (by cases q;rfl)) c1 c2;subst this;rw[←e3,←e4]
       · rcases ent p hp with rfl|⟨q3,q4⟩
         · exact hvr
         · exact hA.2 p q3 (fun q=>q4 (by cases q;rfl))
     · rename_i hne2;exact(h.rs x r1 hx).keep (Hp.le_refl G) (Env.le_refl β) (fun o1=>others x r1 hne2 hx o1)
 · rw [hres]at e1 e2;split at e1
   · cases e1
   · rename_i hn1;split at e2
     · cases e2
     · rename_i hn2;split at e1
       · rename_i q;subst q;cases e1;rw[hb]at f1;cases f1;split at e2
         · rename_i q;exact q.symm
         · rename_i hne2;have b2:=(h.rs x' r2 e2).blks o2 (others x' r2 hne2 e2 o2) f2 b2;rcases bd b b1 with c|c
           · exact h.dj x x' _ r2 _ v2 b hd e2 rfl o2 hb f2 c b2
           · exact absurd (h.dj n x' _ r2 _ v2 b hn e2 rfl o2 hbn f2 (.of c) b2) (Ne.symm hn2)
       · rename_i hne1;have b1:=(h.rs x r1 e1).blks o1 (others x r1 hne1 e1 o1) f1 b1;split at e2
         · rename_i q;subst q;cases e2;rw[hb]at f2;cases f2;rcases bd b b2 with c|c
           · exact h.dj x x' r1 _ v1 _ b e1 hd o1 rfl f1 hb b1 c
           · exact absurd (h.dj x n r1 _ v1 _ b e1 hn o1 rfl f1 hbn b1 (.of c)) hn1
         · rename_i hne2;exact h.dj x x' r1 r2 v1 v2 b e1 e2 o1 o2 f1 f2 b1 ((h.rs x' r2 e2).blks o2 (others x' r2 hne2 e2 o2) f2 b2)
 · rw [hres]at hx;split at hx
   · cases hx
   · split at hx
     · rename_i q;subst q;cases hx;rw[hb]at hv1;cases hv1;rcases bd b hb1 with c|c
       · exact h.og x _ _ b hd rfl hb c
       · exact h.og n _ _ b hn rfl hbn (.of c)
     · rename_i hne2;exact h.og x r1 v1 b hx ho1 hv1 ((h.rs x r1 hx).blks ho1 (others x r1 hne2 hx ho1) hv1 hb1)
def isNilSl:Option Value→Bool
 |some (.slice none 0 0)=>true
 |_=>false
theorem isNilSl_get {z:Option Value}(h:isNilSl z=true):z=some (.slice none 0 0):=by
 unfold isNilSl at h;split at h
 · rfl
 · cases h
def takeE (T:Tab)(dst:Option Nat)(s:St)(av:List Nat)(ty:TypeId)(m x:SV)(k:Upd→Prop):Prop:=
 match T ty,dst with
 | some ⟨.map kt vt,_,_,_,_⟩,some n=>match T vt,m with
   | some te,.mp d=>match s.res d with
     | some (.mapR kk e kz has len get none)=>match rowD x with
       |some key=>br (keyOk T kt false [kk]&&(isNilSl te.zero&&(wk [kk] key&&(!aggSV x&&(!s.used n&& !(mem av d||mem av n))))))
        (k ⟨some n,.buf n,[(n,some (.buf e kz (len key) (get key))),(d,some (.mapR kk e kz has len get (some key)))],[n]⟩) False
       |none=>False
     |_=>False
   |_,_=>False
 |_,_=>False
theorem wp_take (hT:TabOk P T){o:Oper}{ty:TypeId}{m x:Operand}(ho:o.op= .lookup ty m x false)(h0:a.defers= [])(h:MG A G β s a.tmps w)(hN:∀d,o.dst=some d→d<A.N){av:List Nat}
 {k:Upd→Prop}(hk:takeE T o.dst s av ty (s.ev m) (s.ev x) k){Q:Exit→Act→World→Prop}:o.wp P a w (fun a' w' =>∃u,k u∧Mod A (s.app u) a' w') Q:=by
 unfold takeE at hk;split at hk
 · rename_i kt vt sz by' z zq n hty hdst;have hu:=(hT.get hty).1;simp only at hu;split at hk
   · rename_i te d hte hme;obtain⟨_,inf,hinf,_,_,hz⟩:=hT.get hte;split at hk
     · rename_i kk e kz has len get hres;obtain⟨r,es,clock,l,hb,hh,hl,hw,hI,hk0,hR,hA,_⟩:=h.rs _ _ hres;have hx:=h.ev m;rw[hme]at hx;generalize hmv:a.eval m=mv at hx
       cases hx with|mp _ _ hm _=>
       rw[hb]at hm;cases hm;split at hk
       · rename_i key hrow;obtain⟨hq,hk⟩:=br_elim hk;simp only[Bool.and_eq_true,Bool.not_eq_true']at hq;obtain⟨q1,q2,q3,q4,q5,q6⟩:=hq;have hkv:=key_of (h.ev x) hrow q3;rw[q4]at hkv;have hfk:=run_findKey' (w:=w) hT q1 q3 l es.toList hl hw;have hck:=run_checkKey' (w:=w) hT q1 q3 es.isEmpty;have hrel:=fnd_find (key:=key) (l:=l) (i:=0);have hget:(getObj r).run P w= .ok (.map es clock) w:=by simp[getObj,Sem.run,hh]
         have key2:∃v,((∃p ∈ l,p.1=key∧v=p.2)∨(len key=0∧v= .slice none 0 0))∧v.oneCell' =true∧(Instr.lookup ty (.map (some r)) (keyV false key) false).run P w= .ok v w:=by
          have hfd:=hR key q3
          cases hfn:fnd key l 0 with
          | none=>
            rw[hfn]at hrel hfk
            cases hfi:l.find? (fun p=>keyEq key p.1)with
            |some p=>rw[hfi]at hrel;cases hrel
            | none=>
              rw[hfi]at hfd;refine⟨.slice none 0 0,.inr ⟨hfd.2,rfl⟩,rfl,?_⟩
              simp[Instr.lookup,run_underlying hu,hget,hck,hfk,run_zeroValue' hinf (hz.trans (isNilSl_get q2))]
          | some q=>
            obtain⟨j,v⟩:=q;rw[hfn]at hrel hfk
            cases hfi:l.find? (fun p=>keyEq key p.1)with
            |none=>rw[hfi]at hrel;cases hrel
            | some p=>
              rw[hfi]at hrel hfd;simp only[Option.map_some,Option.some.injEq]at hrel;have hp:=List.mem_of_find?_eq_some hfi;have he:=keyEq_eq q3 (hw p hp) (by simpa using List.find?_some hfi);refine⟨v,.inl ⟨p,hp,he.symm,hrel⟩,?_,?_⟩
              · obtain⟨xs,hown,_⟩:=hfd.2 (by simp);rw[hrel];rcases hown.2 with⟨e1,_⟩|⟨g',cap,cur,e1,_⟩<;>rw[e1]<;>rfl
              · simp[Instr.lookup,run_underlying hu,hget,hck,hfk]
         obtain⟨v,hv1,hv2,hv3⟩:=key2;have hm':=h.take hres q5 q3 hb hh hl hw hI hk0 hR hA hv1;have hset:(β.set n v) n=some v:=by simp[Env.set]
         refine wp_value (by simp only[execOp,ho,hmv,hkv,Sem.run_bind,hv3];rfl) ⟨_,hk,?_⟩;rw[hdst]at hN ⊢;exact MG.fin (h0:=h0) hm' hN (.buf _ _ hset hv2)
       · exact hk.elim
     · exact hk.elim
   · exact hk.elim
 · exact hk.elim
def backE (T:Tab)(dst:Option Nat)(s:St)(av:List Nat)(ty:TypeId)(m key x:SV)(k:Upd→Prop):Prop:=
 match T ty with
 | some ⟨.map kt vt,_,_,_,_⟩=>match m,x with
   | .mp d,.buf n=>match s.res d,s.res n with
     | some (.mapR kk e kz has len get (some kh)),some (.buf e2 k2 m g)=>match rowD key with
       |some ky=>br (keyOk T kt false [kk]&&(wk [kk] ky&&(!aggSV key&&(Nat.beq e2 e&&(Nat.beq k2 kz&& !(mem av d||mem av n))))))
        (ky=kh∧k ⟨dst,.undef,[(n,none),(d,some (.mapR kk e kz (fun q=>keyEq q kh||has q) (fun q=>bif keyEq q kh then m else len q) (fun q=>bif keyEq q kh then g else get q) none))],[]⟩) False
       |none=>False
     |_,_=>False
   |_,_=>False
 |_=>False
theorem wp_back (hT:TabOk P T){o:Oper}{ty:TypeId}{m key x:Operand}(ho:o.op= .mapUpdate ty m key x)(h0:a.defers= [])(h:MG A G β s a.tmps w)(hN:∀d,o.dst=some d→d<A.N){av:List Nat}
 {k:Upd→Prop}(hk:backE T o.dst s av ty (s.ev m) (s.ev key) (s.ev x) k){Q:Exit→Act→World→Prop}:o.wp P a w (fun a' w' =>∃u,k u∧Mod A (s.app u) a' w') Q:=by
 unfold backE at hk;split at hk
 · rename_i kt vt sz by' z zq hty;have hu:=(hT.get hty).1;simp only at hu;split at hk
   · rename_i d n hme hxe;split at hk
     · rename_i kk e kz has len get kh e2 k2 m' g hres hresn;split at hk
       · rename_i ky hky;obtain⟨hq,hkh,hk⟩:=br_elim hk;subst hkh;simp only[Bool.and_eq_true,Bool.not_eq_true']at hq;obtain⟨q1,q2,q3,q4,q5,q6⟩:=hq;obtain rfl:=Nat.eq_of_beq_eq_true q4;obtain rfl:=Nat.eq_of_beq_eq_true q5;obtain⟨r,es,clock,l,hb,hh,hl,hw,hI,hk0,hR,hA,_⟩:=h.rs _ _ hres;have hx:=h.ev m;rw[hme]at hx;generalize hmv:a.eval m=mv at hx
         cases hx with|mp _ _ hm _=>
         rw[hb]at hm;cases hm;have hxx:=h.ev x;rw[hxe]at hxx;generalize hxv:a.eval x=xv at hxx
         cases hxx with|buf _ _ hbn _=>
         have hkv:=key_of (h.ev key) hky q2;rw[q3]at hkv;obtain⟨es',clock',l',hrun,hl',hw',hI',hf'⟩:=run_mapPut (w:=w) hT hu q1 q2 hh hl hw hI xv;have hm':=h.back hres hresn hb hbn hh hl hw q2 hk0 hR hA hl' hw' hI' hf';refine wp_skip' (w':={w with heap:=w.heap.setIfInBounds r (.map es' clock')}) ?_ ⟨_,hk,hm'.fin (h0:=h0) hN .undef⟩;simp only[execOp,ho,hmv,hkv,hxv,Sem.run_bind,hrun];rfl
       · exact hk.elim
     · exact hk.elim
   · exact hk.elim
 · exact hk.elim
def deleteE (T:Tab)(dst:Option Nat)(s:St)(ty:TypeId)(m key:SV)(k:Upd→Prop):Prop:=
 mapOf T s ty m fun _ d ag va ks zr has val=>match rowD key with
  |some ky=>br (wk ks ky&&(aggSV key==ag)) (k ⟨dst,.tup [],[(d,some (.map ag va ks zr (fun q=> !keyEq q ky&&has q) (fun q=>bif keyEq q ky then zr else val q)))],[]⟩) False
  |none=>False
theorem fnd_none_find {ky:List DV}{l:List (List DV×Value)}(h:fnd ky l 0=none):l.find? (fun p=>keyEq ky p.1)=none:=by
 have:=fnd_find (key:=ky) (l:=l) (i:=0);rw[h]at this
 cases hf:l.find? (fun p=>keyEq ky p.1)with
 |none=>rfl
 |some p=>rw[hf]at this;cases this
theorem erase_find {ks:List KK}{ky:List DV}{bs:List Nat}{c:Nat}{l:List (List DV×Value)}(hI:MapI bs c (l.map (·.1)))(hw:∀p ∈ l,wk ks p.1=true){i:Nat}{p:List DV×Value}(hp:l[i]? =some p)(hpk:p.1=ky)(q:List DV)(hq:wk ks q=true):
 (l.eraseIdx i).find? (fun p=>keyEq q p.1)=if keyEq q ky=true then none else l.find? (fun p=>keyEq q p.1):=by
 have hpm:=List.mem_of_getElem? hp;have hky:wk ks ky=true:=by rw[←hpk];exact hw p hpm
 have hsub:List.Sublist (l.eraseIdx i) l:=List.eraseIdx_sublist l i
 by_cases hk:keyEq q ky=true
 · rw[if_pos hk,List.find?_eq_none];intro z hz hzk;have hzm:=hsub.subset hz;have e1:=keyEq_eq hq hky hk;have e2:=keyEq_eq hq (hw z hzm) (by simpa using hzk);obtain⟨j,hj⟩:=List.mem_iff_getElem?.1 hz;rw[List.getElem?_eraseIdx]at hj;split at hj
   · have:=idx_key hI hw hp hj (by rw[hpk,←e1,e2]);omega
   · have:=idx_key hI hw hp hj (by rw[hpk,←e1,e2]);omega
 · rw [if_neg hk]
   cases hf:l.find? (fun p=>keyEq q p.1)with
   | none=>
     rw[List.find?_eq_none]at hf ⊢
     exact fun z hz=>hf z (hsub.subset hz)
   | some z=>
     have hzm:=List.mem_of_find?_eq_some hf;have hzk:=keyEq_eq hq (hw z hzm) (by simpa using List.find?_some hf)
     have hz2:z ∈ l.eraseIdx i:=by
      obtain⟨j,hj⟩:=List.mem_iff_getElem?.1 hzm
      have hji:j≠i:=fun e=>by
       subst e;rw[hp]at hj;cases hj;exact hk (by rw[hzk,hpk];exact keyEq_refl hky)
      rw[List.mem_iff_getElem?];rcases Nat.lt_or_ge j i with h1|h1
      · exact⟨j,by rw[List.getElem?_eraseIdx,if_pos h1];exact hj⟩
      · exact⟨j - 1,by rw[List.getElem?_eraseIdx,if_neg (by omega),show j - 1+1=j by omega];exact hj⟩
     have hI':MapI [] 0 ((l.eraseIdx i).map (·.1)):=⟨by simp,by simp,(hI.2.2).sublist (hsub.map _)⟩;have:=find_self hI' (fun p hp=>hw p (hsub.subset hp)) hz2;rw[hzk];exact this
theorem map_erase {α γ:Type}(f:α→γ):∀ (l:List α) (i:Nat),(l.eraseIdx i).map f=(l.map f).eraseIdx i:=by
 intro l
 induction l with
 |nil=>intro i;rfl
 | cons x l ih=>intro i;cases i with
   |zero=>rfl
   |succ i=>simp[ih]
theorem wp_delete (hT:TabOk P T){o:Oper}{c:Call}{m key:Operand}{ty ty2:TypeId}(ho:o.op= .call c)(hc:c.callee= .builtin .delete)(ha:c.args=#[m,key])(hty:c.argTypes=#[ty,ty2])(h0:a.defers= [])(h:MG A G β s a.tmps w)(hN:∀d,o.dst=some d→d<A.N)
 {k:Upd→Prop}(hk:deleteE T o.dst s ty (s.ev m) (s.ev key) k){Q:Exit→Act→World→Prop}:o.wp P a w (fun a' w' =>∃u,k u∧Mod A (s.app u) a' w') Q:=by
 unfold deleteE mapOf at hk;split at hk
 · rename_i kt vt sz by' z zq hT1;have hu:=(hT.get hT1).1;simp only at hu;split at hk
   · rename_i te d hte hme;split at hk
     · rename_i ag va ks zr has val hres;obtain⟨hq,hk⟩:=br_elim hk;rw[Bool.and_eq_true,Bool.and_eq_true]at hq;obtain⟨r,es,clock,l,hb,hh,hl,hw,hI,hf⟩:=h.rs _ _ hres;have hx:=h.ev m;rw[hme]at hx;generalize hmv:a.eval m=mv at hx
       cases hx with|mp _ _ hm _=>
       rw[hb]at hm;cases hm;split at hk
       · rename_i ky hky;obtain⟨hq2,hk⟩:=br_elim hk;rw[Bool.and_eq_true]at hq2;have hkv:=key_of (h.ev key) hky hq2.1;rw[show aggSV (s.ev key)=ag by simpa using hq2.2]at hkv;have hget:(getObj r).run P w= .ok (.map es clock) w:=by simp[getObj,Sem.run,hh]
         have hset:∀ob,(setObj r ob).run P w= .ok () {w with heap:=w.heap.setIfInBounds r ob}:=fun ob=>by simp[setObj,Sem.run,hh]
         have hck:=run_checkKey' (w:=w) hT hq.1 hq2.1 es.isEmpty;have hfk:=run_findKey' (w:=w) hT hq.1 hq2.1 l es.toList hl hw;have hlt:r<w.heap.size:=(Array.getElem?_eq_some_iff.1 hh).1
         have key2:∃ (es':Array MapEntry) (l':List (List DV×Value)),(Builtin.delete_ #[ty,ty2] o.type #[.map (some r),keyV ag ky]).run P w= .ok (.tuple #[]) {w with heap:=w.heap.setIfInBounds r (.map es' clock)}∧
          es'.toList.map (fun e=>(e.key,e.val))=l'.map (fun p=>(keyV ag p.1,p.2))∧(∀p ∈ l',wk ks p.1=true)∧MapI (es'.toList.map (·.born)) clock (l'.map (·.1))∧
          ∀q,wk ks q=true→l'.find? (fun p=>keyEq q p.1)=if keyEq q ky=true then none else l.find? (fun p=>keyEq q p.1):=by
          cases hfn:fnd ky l 0 with
          | none=>
            rw[hfn]at hfk;refine⟨es,l,?_,hl,hw,hI,fun q hq' => ?_⟩
            · simp[Builtin.delete_,run_underlying hu,hget,hck,hfk,hset]
            · split
              · rename_i hk';rw[keyEq_eq hq' hq2.1 hk'];exact fnd_none_find hfn
              · rfl
          | some q=>
            obtain⟨i,u⟩:=q;rw[hfn]at hfk;obtain⟨_,p,hp1,hp2⟩:=fnd_get hfn;rw[Nat.sub_zero]at hp1;have hpm:p ∈ l:=List.mem_of_getElem? hp1;have hpk:p.1=ky:=(keyEq_eq hq2.1 (hw p hpm) hp2).symm
            have hlen:es.size=l.length:=by
             have:=congrArg List.length hl;simpa using this
            have hil:i<l.length:=(List.getElem?_eq_some_iff.1 hp1).1;have hes:(es.eraseIdxIfInBounds i).toList=es.toList.eraseIdx i:=by simp[Array.eraseIdxIfInBounds,hlen,hil]
            refine⟨es.eraseIdxIfInBounds i,l.eraseIdx i,?_,?_,fun p hp=>hw p ((List.eraseIdx_sublist l i).subset hp),?_,fun q hq' =>erase_find hI hw hp1 hpk q hq'⟩
            · simp[Builtin.delete_,run_underlying hu,hget,hck,hfk,hset]
            · rw[hes,map_erase,hl,map_erase]
            · rw[hes,map_erase];refine⟨hI.1.sublist (List.eraseIdx_sublist _ _),fun b hb=>hI.2.1 b ((List.eraseIdx_sublist _ _).subset hb),?_⟩;have:(l.eraseIdx i).map (·.1)=(l.map (·.1)).eraseIdx i:=map_erase _ _ _;rw[this];exact hI.2.2.sublist (List.eraseIdx_sublist _ _)
         obtain⟨es',l',hrun,hl',hw',hI',hf'⟩:=key2
         have hchg:=h.change (d:=d) (r:=.map ag va ks zr has val) (r':=.map ag va ks zr (fun q=> !keyEq q ky&&has q) (fun q=>bif keyEq q ky then zr else val q)) (v:=.map (some r)) (w':={w with heap:=w.heap.setIfInBounds r (.map es' clock)})
          hres rfl rfl hb rfl rfl rfl (by simp) (fun b hb' =>by
           have:b≠r:=fun e=>hb' (by rw[e];rfl)
           simp[Array.getElem?_setIfInBounds_ne (Ne.symm this)])
          ⟨r, es',clock,l',hb,by simp[hlt],hl',hw',hI',fun q hqk=>by
            rw[hf' q hqk]
            by_cases hqq:keyEq q ky=true
            · rw[if_pos hqq];exact⟨by simp only[hqq,Bool.not_true,Bool.false_and],by simp only[hqq,cond_true]⟩
            · rw[if_neg hqq];have hqf:keyEq q ky=false:=by simpa using hqq
              have:=hf q hqk;simp only[hqf,Bool.not_false,Bool.true_and,cond_false]
              exact this⟩
         have hexec:(execOp a.eval o).run P w= .ok (.value (.tuple #[])) {w with heap:=w.heap.setIfInBounds r (.map es' clock)}:=by
          simp[execOp,ho,resolve,hc,ha,hty,invoke,builtin,hmv,hkv,hrun]
         exact wp_value hexec ⟨_,hk,hchg.fin (h0:=h0) hN (.tup [] [] rfl (fun i x v hx=>by simp at hx))⟩
       · exact hk.elim
     · exact hk.elim
   · exact hk.elim
 · exact hk.elim
end
end Go.Eng
namespace Go.Eng
open Go
section
variable {P:Program} {T:Tab} {A:Amb} {G:Hp} {β:Env} {s:St} {a:Act} {w:World} {t:Array Value}
theorem MG.writeRow (h:MG A G β s t w){d e k n off:Nat}{get get':Nat→List DV}(hr:s.res d=some (.buf e k n get)){b cap:Nat}(hb:β d=some (.slice (some ⟨b,0,none⟩) n cap)){vals:List Value}
 (hle:off+vals.length≤n*k)(hl:∀i,i<n→(get' i).length=k)
 (hd:∀i j x,i<n→(get' i)[j]? =some x→if off≤i*k+j∧i*k+j<off+vals.length then ∃u,vals[i*k+j - off]? =some u∧DV.Den G x u else(get i)[j]? =some x):
 ∃ cur,w.heap[b]? =some (.cells cur e (0,0))∧off+vals.length≤cur.size∧
  MG A G β (s.app ⟨none,.any,[(d,some (.buf e k n get'))],[]⟩) t (w.setRow b (cur.toList.take off++vals++cur.toList.drop (off+vals.length)).toArray):=by
 obtain⟨v,xs,hv,hown,hk0,hgl,hgd⟩:=h.rs _ _ hr;rw[hb]at hv;cases hv;have hxl:=hown.1;rcases hown.2 with⟨e1,_⟩|⟨g,cap',cur,e1,hbase,hh,hnc,hcm,hcz,htake⟩
 · cases e1
 cases e1;have hncap:n*k≤cap*k:=Nat.mul_le_mul_right _ hnc;refine⟨cur,hh,by omega,?_⟩;refine h.change (w':=w.setRow b (cur.toList.take off++vals++cur.toList.drop (off+vals.length)).toArray) hr rfl rfl hb rfl rfl rfl (by simp) (fun b2 hb2=>setRow_other w b b2 _ (fun q=>hb2 (by rw[q];rfl))) ?_;refine⟨_,xs.take off++vals++xs.drop (off+vals.length),hb,⟨by simp;omega,.inr ⟨b,cap,_,rfl,hbase,setRow_heap w b cur _ e _ hh,hnc,hcm,by simp;omega,?_⟩⟩,hk0,hl,?_⟩
 · apply List.ext_getElem?
   intro m;have q1:=getElem?_setAt xs vals off m (by omega);rw[q1];have q2:=getElem?_setAt cur.toList vals off m (by simp;omega)
   by_cases hm:m<n*k
   · rw[List.getElem?_take_of_lt hm,q2];split
     · rfl
     · rw[←htake,List.getElem?_take_of_lt hm]
   · rw[List.getElem?_take_eq_none (by omega),if_neg (by omega),List.getElem?_eq_none (by omega)]
 · intro i j x hi hx;have:=hd i j x hi hx;rw[getElem?_setAt xs vals off _ (by omega)];split at this
   · rename_i hq;rw[if_pos hq];exact this
   · rename_i hq;rw[if_neg hq];exact hgd i j x hi this
def cutB (lo hi:Option SV)(n:Nat)(F:Int→Int→Prop):Prop:=bndE hi n fun h=>bndE lo 0 fun j=>F j h
theorem cutB_get {lo hi:Option SV}{lov hiv:Option Value}(hlo:(lo=none∧lov=none)∨∃X v,lo=some X∧lov=some v∧SV.Den G β X v)(hhi:(hi=none∧hiv=none)∨∃X v,hi=some X∧hiv=some v∧SV.Den G β X v)
 {n:Nat}{F:Int→Int→Prop}(h:cutB lo hi n F):
 ∃j k,((hiv=none∧k=(n:Int))∨∃kk,hiv=some (.int kk k))∧((lov=none∧j=(0:Int))∨∃kk,lov=some (.int kk j))∧F j k:=by
 unfold cutB at h;rcases bnd_get hhi h with⟨h1,h⟩|⟨kk,k,h1,h⟩
 · rcases bnd_get hlo h with⟨h2,h⟩|⟨kj,j,h2,h⟩
   · exact⟨_,_,.inl ⟨h1,rfl⟩,.inl ⟨h2,rfl⟩,h⟩
   · exact⟨_,_,.inl ⟨h1,rfl⟩,.inr ⟨_,h2⟩,h⟩
 · rcases bnd_get hlo h with⟨h2,h⟩|⟨kj,j,h2,h⟩
   · exact⟨_,_,.inr ⟨_,h1⟩,.inl ⟨h2,rfl⟩,h⟩
   · exact⟨_,_,.inr ⟨_,h1⟩,.inr ⟨_,h2⟩,h⟩
def sizeOk (T:Tab)(ty:TypeId)(kk:Nat):Bool:=
 match T ty with
 | some ⟨.slice e,_,_,_,_⟩=>match T e with
   |some te=>Nat.beq kk te.size
   |none=>false
 |_=>false
theorem sizeOk_get (hT:TabOk P T){ty:TypeId}{kk:Nat}(h:sizeOk T ty kk=true):∃e inf,P.underlying ty=some (.slice e)∧P.info? e=some inf∧inf.size=kk:=by
 unfold sizeOk at h;split at h
 · rename_i e _ _ _ _ ht;have hu:=(hT.get ht).1;split at h
   · rename_i te hte;obtain⟨_,inf,hi,hsz,_,_⟩:=hT.get hte;exact⟨e,inf,hu,hi,by rw[hsz];exact(Nat.eq_of_beq_eq_true h).symm⟩
   · cases h
 · cases h
theorem run_cut (hT:TabOk P T){ty:TypeId}{kk b lo0 n cap:Nat}(hs:sizeOk T ty kk=true){lov hiv:Option Value}{j h:Int}
 (hh:(hiv=none∧h=(n:Int))∨∃kk,hiv=some (.int kk h))(hj:(lov=none∧j=(0:Int))∨∃kk,lov=some (.int kk j))(h0:0≤j)(h1:j≤h)(h2:h≤n)(h3:n≤cap):
 (Instr.sliceAt ty (.slice (some ⟨b,lo0,none⟩) n cap) lov hiv none).run P w= .ok (if cap=j.toNat then .slice (some ⟨b,lo0,none⟩) 0 0 else .slice (some ⟨b,lo0+j.toNat*kk,none⟩) (h - j).toNat (cap - j.toNat)) w:=by
 obtain⟨e,inf,hu,hi,hsz⟩:=sizeOk_get hT hs;have hb:=run_bounds (P:=P) (sl:=true) (len:=n) (cap:=cap) w hh hj h0 h1 h2 h3
 by_cases hm:cap=j.toNat
 · have e2:h.toNat - j.toNat=0:=by omega
   have e3:cap - j.toNat=0:=by omega
   rw[if_pos hm];subst hm;simp[Instr.sliceAt,Instr.slice,run_underlying hu,hb,run_sizeOf' hi,hsz];omega
 · have e2:h.toNat - j.toNat=(h - j).toNat:=by omega
   rw[if_neg hm];simp[Instr.sliceAt,Instr.slice,run_underlying hu,hb,run_sizeOf' hi,hsz,hm,e2,Addr.add_lit]
def prefixE (T:Tab)(dst:Option Nat)(s:St)(ty:TypeId)(d:Nat)(lo hi:Option SV)(k:Upd→Prop):Prop:=
 match s.res d,dst with
 |some (.buf e kk n g),some d' =>br (sizeOk T ty kk&&(!s.used d'&& !Nat.beq d' d)) (cutB lo hi n fun j h=>(j=0∧0≤h∧h≤n)∧k ⟨some d',.buf d',[(d',some (.buf e kk h.toNat g)),(d,none)],[d']⟩) False
 |_,_=>False
def subE (T:Tab)(dst:Option Nat)(s:St)(ty:TypeId)(x:SV)(lo hi:Option SV)(k:Upd→Prop):Prop:=
 match x with
 | .buf d=>match s.res d with
   |some (.buf _ kk n _)=>br (sizeOk T ty kk) (cutB lo hi n fun j h=>(0≤j∧j<n∧j≤h∧h≤n)∧k ⟨dst,.sub d kk j.toNat (h - j).toNat,[],[]⟩) False
   |_=>False
 | .sub d kk lo0 n=>br (sizeOk T ty kk) (cutB lo hi n fun j h=>(0≤j∧j<n∧j≤h∧h≤n)∧k ⟨dst,.sub d kk (lo0+j.toNat) (h - j).toNat,[],[]⟩) False
 |_=>False
theorem wp_prefix (hT:TabOk P T){o:Oper}{ty:TypeId}{x:Operand}{lo hi:Option Operand}(ho:o.op= .slice ty x lo hi none)(h0:a.defers= [])(h:MG A G β s a.tmps w)(hN:∀d,o.dst=some d→d<A.N)
 {d:Nat}(hx:s.ev x= .buf d){k:Upd→Prop}(hk:prefixE T o.dst s ty d (lo.map s.ev) (hi.map s.ev) k){Q:Exit→Act→World→Prop}:o.wp P a w (fun a' w' =>∃u,k u∧Mod A (s.app u) a' w') Q:=by
 unfold prefixE at hk;split at hk
 · rename_i e kk n g d' hres hdst;obtain⟨hq,hk⟩:=br_elim hk;simp only[Bool.and_eq_true,Bool.not_eq_true']at hq;obtain⟨q1,q2,q3⟩:=hq;have hdd:d'≠d:=fun e=>by rw[e]at q3;simp at q3
   obtain⟨j,hh,c1,c2,⟨rfl,c3,c4⟩,hk⟩:=cutB_get (opt_den h lo) (opt_den h hi) hk;obtain⟨v,xs,hv,hown,hk0,hgl,hgd⟩:=h.rs _ _ hres;have hxv:=h.ev x;rw[hx]at hxv;generalize hvx:a.eval x=xv at hxv
   cases hxv with|buf _ _ hb _=>
   rw[hb]at hv;cases hv;have hdrop:=h.drop d;have hfree:(s.app ⟨none,.any,[(d,none)],[]⟩).used d' =false:=by simpa [St.app,putU]using q2
   have key:∀v',(∃xs',w.ownsRow 0 e kk v' hh.toNat xs'∧∀i j x,i<hh.toNat→(g i)[j]? =some x→∃u,xs'[i*kk+j]? =some u∧DV.Den G x u)→(blk v' =none∨blk v' =blk v)→v'.oneCell' =true→
    (execOp a.eval o).run P w= .ok (.value v') w→o.wp P a w (fun a' w' =>∃u,k u∧Mod A (s.app u) a' w') Q:=by
    intro v' ⟨xs',hown',hden'⟩ hblk hone hrun;refine wp_value hrun ⟨_,hk,?_⟩;have hn:=hdrop.name (d:=d') hfree (r:=.buf e kk hh.toNat g) (v:=v') rfl (fun b hbv=> ?_) ⟨v',xs',by simp[Env.set],hown',hk0,fun i hi=>hgl i (by omega),hden'⟩
    · have:(s.app ⟨none,.any,[(d',some (.buf e kk hh.toNat g)),(d,none)],[d']⟩)=((s.app ⟨none,.any,[(d,none)],[]⟩).app ⟨none,.any,[(d',some (.buf e kk hh.toNat g))],[d']⟩):=rfl;rw[hdst]at hN ⊢;have hn':MG A G (β.set d' v') (s.app ⟨none,.any,[(d',some (.buf e kk hh.toNat g)),(d,none)],[d']⟩) a.tmps w:=by rw[this];exact hn
      exact hn'.fin (h0:=h0) hN (.buf _ _ (by simp[Env.set]) hone)
    · rcases hblk with hbn|hbe
      · rw[hbn]at hbv;cases hbv
      · rw[hbe]at hbv;obtain⟨g1,g2⟩:=h.og d _ v b hres rfl hb (.of hbv);refine⟨g1,g2,fun d2 r2 v2 hr2 ho2 hv2 hb2=> ?_⟩
        have hr2':s.res d2=some r2∧d2≠d:=by
         simp only[St.app,putR_apply,lookR]at hr2
         by_cases e:d2=d
         · subst e;simp at hr2
         · rw[nbeq_ne e]at hr2;exact⟨by simpa using hr2,e⟩
        exact hr2'.2 (h.dj d2 d r2 _ v2 v b hr2'.1 hres ho2 rfl hv2 hb hb2 (.of hbv))
   rcases hown.2 with⟨rfl,rfl⟩|⟨gb,cap,cur,rfl,hbase,hhp,hnc,hcm,hcz,htake⟩
   · have e1:hh=0:=by omega
     subst e1;have hb':=run_bounds (P:=P) (sl:=true) (len:=0) (cap:=0) w c1 c2 (by omega) (by omega) (by omega) (Nat.le_refl _);obtain⟨e',inf,hu,hi',hsz⟩:=sizeOk_get hT q1;refine key (.slice none 0 0) ⟨[],World.ownsRow_nil w 0 e kk,fun i j x hi=>by omega⟩ (.inl rfl) rfl ?_;simp[execOp,ho,hvx,Instr.sliceAt,Instr.slice,run_underlying hu,hb',run_sizeOf' hi',hsz]
   · have hrc:=run_cut (w:=w) (b:=gb) (lo0:=0) hT q1 c1 c2 (by omega) (by omega) c4 hnc
     by_cases hc0:cap=0
     · subst hc0;have e1:n=0:=by omega
       have e2:hh.toNat=0:=by omega
       refine key (.slice (some ⟨gb,0,none⟩) 0 0) ⟨[],⟨by simp[e2],.inr ⟨gb,0,cur,by rw[e2],hbase,hhp,by omega,by omega,by rw[hcz],by simp[e2]⟩⟩,fun i j x hi=>by omega⟩ (.inr rfl) rfl ?_;simp only[execOp,ho,hvx,Option.map_none,Sem.run_bind,hrc];rfl
     · refine key (.slice (some ⟨gb,0,none⟩) hh.toNat cap) ⟨xs.take (hh.toNat*kk),⟨?_,.inr ⟨gb,cap,cur,rfl,hbase,hhp,by omega,hcm,hcz,?_⟩⟩,fun i j x hi hx=> ?_⟩ (.inr rfl) rfl ?_
       · rw[List.length_take,hown.1];exact Nat.min_eq_left (Nat.mul_le_mul_right _ (by omega))
       · rw[←htake,List.take_take,Nat.min_eq_left (Nat.mul_le_mul_right _ (by omega))]
       · obtain⟨u,hu,hd⟩:=hgd i j x (by omega) hx
         have hjk:j<kk:=by
          have:=(List.getElem?_eq_some_iff.1 hx).1;rw[hgl i (by omega)]at this;exact this
         have:i*kk+j<hh.toNat*kk:=by
          calc i*kk+j<i*kk+kk:=by omega
           _=(i+1)*kk:=by rw[Nat.add_mul,Nat.one_mul]
           _≤hh.toNat*kk:=Nat.mul_le_mul_right _ hi
         exact⟨u,by rw[List.getElem?_take_of_lt this];exact hu,hd⟩
       · have:¬ (cap=(0:Int).toNat):=by simpa using hc0
         simp only[execOp,ho,hvx,Option.map_none,Sem.run_bind,hrc];rw[if_neg this];simp
 · exact hk.elim
theorem wp_sub (hT:TabOk P T){o:Oper}{ty:TypeId}{x:Operand}{lo hi:Option Operand}(ho:o.op= .slice ty x lo hi none)(h0:a.defers= [])(h:MG A G β s a.tmps w)(hN:∀d,o.dst=some d→d<A.N)
 {k:Upd→Prop}(hk:subE T o.dst s ty (s.ev x) (lo.map s.ev) (hi.map s.ev) k){Q:Exit→Act→World→Prop}:o.wp P a w (fun a' w' =>∃u,k u∧Mod A (s.app u) a' w') Q:=by
 unfold subE at hk;have hxv:=h.ev x;generalize hvx:a.eval x=xv at hxv;split at hk
 · rename_i d hxe;rw[hxe]at hxv
   cases hxv with|buf _ _ hb _=>
   split at hk
   · rename_i e kk n g hres;obtain⟨q1,hk⟩:=br_elim hk;obtain⟨j,hh,c1,c2,⟨c3,c4,c5,c6⟩,hk⟩:=cutB_get (opt_den h lo) (opt_den h hi) hk;obtain⟨v,xs,hv,hown,hk0,hgl,hgd⟩:=h.rs _ _ hres;rw[hb]at hv;cases hv;rcases hown.2 with⟨rfl,rfl⟩|⟨gb,cap,cur,rfl,hbase,hhp,hnc,hcm,hcz,htake⟩
     · omega
     · have hrc:=run_cut (w:=w) (b:=gb) (lo0:=0) hT q1 c1 c2 c3 c5 c6 hnc;rw[if_neg (by omega)]at hrc
       have hrun:(execOp a.eval o).run P w= .ok (.value (.slice (some ⟨gb,0+j.toNat*kk,none⟩) (hh - j).toNat (cap - j.toNat))) w:=by
        simp only[execOp,ho,hvx,Option.map_none,Sem.run_bind,hrc];rfl
       refine wp_value hrun ⟨_,hk,MG.fin (s:=s) (rs:= []) (us:= []) (h0:=h0) h hN ?_⟩;rw[Nat.zero_add];exact .sub d kk j.toNat (hh - j).toNat gb n cap hb (by omega)
   · exact hk.elim
 · rename_i d kk lo0 n hxe;rw[hxe]at hxv
   cases hxv with|sub _ _ _ _ b N cap hb hn=>
   obtain⟨q1,hk⟩:=br_elim hk;obtain⟨j,hh,c1,c2,⟨c3,c4,c5,c6⟩,hk⟩:=cutB_get (opt_den h lo) (opt_den h hi) hk;have hcap:=hn.2;have hrc:=run_cut (w:=w) (b:=b) (lo0:=lo0*kk) (n:=n) (cap:=cap - lo0) hT q1 c1 c2 c3 c5 c6 (by omega);rw[if_neg (by omega)]at hrc
   have hrun:(execOp a.eval o).run P w= .ok (.value (.slice (some ⟨b,lo0*kk+j.toNat*kk,none⟩) (hh - j).toNat (cap - lo0 - j.toNat))) w:=by
    simp only[execOp,ho,hvx,Option.map_none,Sem.run_bind,hrc];rfl
   refine wp_value hrun ⟨_,hk,MG.fin (s:=s) (rs:= []) (us:= []) (h0:=h0) h hN ?_⟩;rw[←Nat.add_mul,Nat.sub_sub];exact .sub d kk (lo0+j.toNat) (hh - j).toNat b N cap hb (by omega)
 · exact hk.elim
def clearE (T:Tab)(dst:Option Nat)(s:St)(ty:TypeId)(x:SV)(k:Upd→Prop):Prop:=
 match x with
 | .sub d kk lo n=>match s.res d,T ty with
   | some (.buf e kk' N g),some ⟨.slice el,_,_,_,_⟩=>match T el with
     | some te=>match zrow te.zero with
       |some zr=>br (Nat.beq kk kk'&&Nat.beq zr.length kk) ((lo+n≤N)∧k ⟨dst,.tup [],[(d,some (.buf e kk' N fun i=>bif Nat.ble lo i&&Nat.blt i (lo+n)then zr else g i))],[]⟩) False
       |none=>False
     |none=>False
   |_,_=>False
 |_=>False
theorem wp_clear (hT:TabOk P T){o:Oper}{c:Call}{x:Operand}{ty:TypeId}(ho:o.op= .call c)(hc:c.callee= .builtin .clear)(ha:c.args=#[x])(hty:c.argTypes=#[ty])(h0:a.defers= [])(h:MG A G β s a.tmps w)(hN:∀d,o.dst=some d→d<A.N)
 {k:Upd→Prop}(hk:clearE T o.dst s ty (s.ev x) k){Q:Exit→Act→World→Prop}:o.wp P a w (fun a' w' =>∃u,k u∧Mod A (s.app u) a' w') Q:=by
 unfold clearE at hk;have hxv:=h.ev x;generalize hvx:a.eval x=xv at hxv;split at hk
 · rename_i d kk lo n hxe;rw[hxe]at hxv
   cases hxv with|sub _ _ _ _ b N' cap hb hn=>
   split at hk
   · rename_i e kk' N g el _ _ _ _ hres hT1;have hu:=(hT.get hT1).1;simp only at hu;split at hk
     · rename_i te hte;obtain⟨_,inf,hi,hsz,_,hz⟩:=hT.get hte;split at hk
       · rename_i zr hzr;obtain⟨hq,hle,hk⟩:=br_elim hk;rw[Bool.and_eq_true]at hq;obtain rfl:kk=kk':=Nat.eq_of_beq_eq_true hq.1;have hzl:zr.length=kk:=Nat.eq_of_beq_eq_true hq.2
         obtain⟨zv,hzv,zl,zd,z1⟩:∃zv,te.zero=some zv∧zv.cells.size=zr.length∧(∀ (i:Nat) y u,zr[i]? =some y→zv.cells[i]? =some u→DV.Den G y u)∧∀u ∈ zv.cells.toList,u.oneCell' =true:=by
          unfold zrow at hzr;split at hzr
          · rename_i l hl;obtain⟨v,hv,z1,z2,z3,_⟩:=zcells_den (G:=G) (β:=fun _=>none) hl;have hdl:=dvs_get l zr hzr;subst hdl;refine⟨v,hv,by simpa using z1,fun i y u hy hu=> ?_,z3⟩;have:=z2 i (.d y) u (by rw[List.getElem?_map,hy];rfl) hu;cases this with|d _ _ h=>exact h
          · cases hzr
         have hres0:=hres;obtain⟨v,xs,hv,hown,hk0,hgl,hgd⟩:=h.rs _ _ hres;rw[hb]at hv;cases hv
         have hN':N=N':=by
          rcases hown.2 with⟨e1,_⟩|⟨g',cap',cur,e1,_⟩
          · cases e1
          · cases e1;rfl
         subst hN';have hzc:(Builtin.zeroCells zv.cells n).toList.length=n*kk:=by simp[Builtin.zeroCells,zl,hzl]
         have hzg:∀m,m<n*kk→(Builtin.zeroCells zv.cells n).toList[m]? =zv.cells[m%kk]? :=fun m hm=>by
          have hlt:m%kk<zv.cells.size:=by rw[zl,hzl];exact Nat.mod_lt _ hk0
          have e:zv.cells[m%kk]? =some (zv.cells[m%kk]!):=by simp[hlt]
          rw[e];simp[Builtin.zeroCells,zl,hzl,hm]
         have hone:∀u ∈ (Builtin.zeroCells zv.cells n).toList,u.oneCell' =true:=fun u hu=>by
          obtain⟨m,hm,rfl⟩:=List.getElem_of_mem hu;have:=hzg m (by rw[←hzc];exact hm);rw[List.getElem?_eq_getElem hm]at this;exact z1 _ (Array.mem_toList_iff.2 (Array.mem_of_getElem? this.symm))
         have hln:(lo+n)*kk≤N*kk:=Nat.mul_le_mul_right _ hle;rw[Nat.add_mul]at hln
         have hwr:=h.writeRow (get':=fun i=>bif Nat.ble lo i&&Nat.blt i (lo+n)then zr else g i) hres0 hb (off:=lo*kk) (vals:=(Builtin.zeroCells zv.cells n).toList) (by rw[hzc];omega)
          (fun i hi=>by
            show(bif Nat.ble lo i&&Nat.blt i (lo+n)then zr else g i).length=kk
            cases (Nat.ble lo i&&Nat.blt i (lo+n))with
            |true=>exact hzl
            |false=>exact hgl i hi)
          (fun i j y hi hy=>by
            replace hy:(bif Nat.ble lo i&&Nat.blt i (lo+n)then zr else g i)[j]? =some y:=hy
            rw[hzc]
            have hjk:j<kk:=by
             have h1:=(List.getElem?_eq_some_iff.1 hy).1
             cases hbb:(Nat.ble lo i&&Nat.blt i (lo+n))with
             |true=>rw[hbb]at h1;simp only[cond_true]at h1;omega
             |false=>rw[hbb]at h1;simp only[cond_false]at h1;rw[hgl i hi]at h1;exact h1
            by_cases hin:lo≤i∧i<lo+n
            · have hbb:(Nat.ble lo i&&Nat.blt i (lo+n))=true:=by
               rw[Bool.and_eq_true];exact⟨Nat.ble_eq_true_of_le hin.1,Nat.ble_eq_true_of_le hin.2⟩
              rw[hbb]at hy;simp only[cond_true]at hy
              have e1:i*kk+j=lo*kk+((i - lo)*kk+j):=by
               rw[←Nat.add_assoc,←Nat.add_mul];congr 2;omega
              have e2:(i - lo)*kk+j<n*kk:=by
               calc (i - lo)*kk+j<(i - lo)*kk+kk:=by omega
                _=(i - lo+1)*kk:=by rw[Nat.add_mul,Nat.one_mul]
                _≤n*kk:=Nat.mul_le_mul_right _ (by omega)
              rw[if_pos (by omega),e1,Nat.add_sub_cancel_left,hzg _ e2];have e3:((i - lo)*kk+j)%kk=j:=by rw[Nat.mul_comm,Nat.mul_add_mod,Nat.mod_eq_of_lt hjk]
              rw[e3];have hlt:j<zv.cells.size:=by rw[zl,hzl];exact hjk
              exact⟨_,Array.getElem?_eq_getElem hlt,zd j y _ hy (Array.getElem?_eq_getElem hlt)⟩
            · have hbb:(Nat.ble lo i&&Nat.blt i (lo+n))=false:=by
               cases hq:(Nat.ble lo i&&Nat.blt i (lo+n))with
               |false=>rfl
               | true=>
                 rw[Bool.and_eq_true]at hq;exact absurd ⟨Nat.le_of_ble_eq_true hq.1,Nat.le_of_ble_eq_true hq.2⟩ hin
              rw[hbb]at hy;simp only[cond_false]at hy;rw[if_neg]
              · exact hy
              · rintro⟨h1,h2⟩;apply hin
                constructor
                · refine Nat.not_lt.1 fun hlt=> ?_
                  have:(i+1)*kk≤lo*kk:=Nat.mul_le_mul_right _ hlt;rw[Nat.add_mul,Nat.one_mul]at this;omega
                · refine Nat.not_le.1 fun hge=> ?_
                  have:(lo+n)*kk≤i*kk:=Nat.mul_le_mul_right _ hge;rw[Nat.add_mul]at this
                  omega)
         obtain⟨cur,hh,hcs,hm⟩:=hwr
         by_cases hn0:n=0
         · subst hn0
           have hw0:w.setRow b (cur.toList.take (lo*kk)++(Builtin.zeroCells zv.cells 0).toList++cur.toList.drop (lo*kk+(Builtin.zeroCells zv.cells 0).toList.length)).toArray=w:=by
            have:(Builtin.zeroCells zv.cells 0).toList= []:=by simp[Builtin.zeroCells]
            rw[this];simp only[List.append_nil,List.length_nil,Nat.add_zero,List.take_append_drop,Array.toArray_toList];exact setRow_self w b cur e (0,0) hh
           rw[hw0]at hm;refine wp_value (w':=w) (v:=.tuple #[]) ?_ ⟨_,hk,hm.fin (h0:=h0) hN (.tup [] [] rfl (by simp))⟩;simp[execOp,ho,resolve,hc,ha,hty,invoke,builtin,Builtin.clear_,run_underlying hu,hvx]
         · have hst:=run_storeCells_at P b (lo*kk) e (Builtin.zeroCells zv.cells n).toList 0 cur w hh (by omega) hone;simp only[Nat.add_zero]at hst;refine wp_value (v:=.tuple #[]) ?_ ⟨_,hk,hm.fin (h0:=h0) hN (.tup [] [] rfl (by simp))⟩;obtain⟨m,rfl⟩:∃m,n=m+1:=⟨n - 1,by omega⟩;simp[execOp,ho,resolve,hc,ha,hty,invoke,builtin,Builtin.clear_,run_underlying hu,hvx,run_zeroValue' hi (hz.trans hzv),hst]
       · exact hk.elim
     · exact hk.elim
   · exact hk.elim
 · exact hk.elim
end
end Go.Eng
