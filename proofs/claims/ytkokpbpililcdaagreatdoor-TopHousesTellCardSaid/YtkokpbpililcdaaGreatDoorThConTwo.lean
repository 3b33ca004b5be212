/- TopHousesTell is proved: for every input the law returns true, and its argument reads afterwards as it read before. Conditions: those of the given row alone. -/
import Derived.Test.YtkokpbpililcdaaGreatDoorThConOne
import Derived.Lib.ItoaNum
import Derived.Lib.AtoiAll
import Derived.Lib.Strings
import Derived.Shelf.Lays
import Derived.Shelf.LaysM
import Derived.Shelf.LaysC
import Derived.Shelf.Strings.Cut
import Derived.Shelf.Strings.OnBuilder
import Derived.Test.YtkokpbpililcdaaGreatDoorThEngTwo
set_option linter.unusedVariables false
set_option linter.unusedSimpArgs false
set_option maxRecDepth 20000
namespace Go.Proofs.YtkokpbpililcdaaGreatDoor
open Go Go.Eng
def gJ:OL:= [(0,[]),(1,[0]),(2,[]),(3,[]),(4,[]),(5,[4]),(6,[4,5]),(7,[4]),(8,[4]),(9,[4,5,6,7,8]),(10,[4,5,6,7,8,9]),(11,[4,5,6,7,8,9]),(12,[4,5,6,7,8]),(13,[4,5,6,7,8]),(14,[]),(15,[]),(16,[])]
def gC:OL:= [(0,[]),(1,[0]),(2,[0,1]),(3,[0,1,2]),(4,[0,1,2]),(5,rg 5),(6,rg 6),(7,rg 6),(8,rg 5),(9,rg 5),(10,rg 10),(11,rg 11),(12,rg 10),(13,rg 10),(14,[2,3,4]),(15,[2,3,4]),(16,[]),(17,[])]
def jv (l c:List bv):Prop:=c.length=l.length∧∀x ∈ c,x ∈ l
theorem vV {l c:List bv}{j:Nat}{x:bv}(h:jv l c)(hx:x ∈ l):jv l (c.set j x):=
 ⟨by rw[List.length_set];exact h.1,fun y hy=>by rcases List.mem_or_eq_of_mem_set hy with q|q;exact h.2 y q;subst q;exact hx⟩
theorem J1 (g:FuncId)(cmp:bv→bv→Int)(l:List bv)(hl:l.length≤2^40)
 (hcmp:∀p q,p ∈ l→q ∈ l→ai Tryz.prog g [.agg ((gL p).map .d),.agg ((gL q).map .d)] [] (fun y r=>y= .d (.int .i64 (cmp p q))∧r= [])):
 ai Tryz.prog 187 [.buf 1000001,.d (.int .i64 0),.d (.int .i64 l.length),.fn g []] [(1000001,aL 84 4 gL cW l)]
  (fun y r=>y= .tup []∧∃c,jv l c∧r= [(1000001,aL 84 4 gL cW c)]):=by
 refine ae hT (C:= []) Tryz.func187 rfl Tryz.call187 rfl rfl rfl ?_;conv=>whnf
 repeat' (first|((first|(refine aa ?_ ?_<;>intro hb<;>try simp only[az]at hb)|refine aq hT 4 gJ ?_|refine aq hT 6 gC ?_|omega|refine aA ?_|decide|assumption)<;>conv=>whnf))
 refine ah hT (C:= []) (ι:=Nat×List bv) (fun(i,c)=>1≤i∧(i≤l.length∨i=1)∧jv l c)
  (fun(i,c)=>aI [(0,.buf 1000001),(1,.d (.int .i64 0)),(2,.d (.int .i64 l.length)),(3,.fn g []),(8,.d (.int .i64 i))] [(1000001,aL 84 4 gL cW c)])
  (fun(i,_)=>l.length - i) (1,l) ⟨by simp,by simp,rfl,fun x h=>h⟩ (by exact be [(1000001,1000001)]) ?_
 rintro⟨i,c⟩ ⟨p1,p2,p3⟩;have hc0:=p3.1;conv=>whnf
 repeat' (first|((first|(refine aa ?_ ?_<;>intro hb<;>try simp only[az]at hb)|refine aq hT 4 gJ ?_|refine aq hT 6 gC ?_|omega|refine aA ?_|decide|assumption)<;>conv=>whnf))
 · refine ah hT (C:= []) (ι:=Nat×List bv) (fun(j,c)=>j≤i∧jv l c)
    (fun(j,c)=>aI [(0,.buf 1000001),(1,.d (.int .i64 0)),(2,.d (.int .i64 l.length)),(3,.fn g []),(8,.d (.int .i64 i)),(9,.d (.int .i64 j))] [(1000001,aL 84 4 gL cW c)])
    (fun(j,_)=>j) (i,c) ⟨Nat.le_refl _,p3⟩ (by exact be [(1000001,1000001)]) ?_
   rintro⟨j,b⟩ ⟨q1,q3⟩;have hb0:=q3.1;conv=>whnf
   repeat' (first|((first|(refine aa ?_ ?_<;>intro hb<;>try simp only[az]at hb)|refine aq hT 4 gJ ?_|refine aq hT 6 gC ?_|omega|refine aA ?_|decide|assumption)<;>conv=>whnf))
   · refine dQ.of (hcmp (b.getD (j:Int).toNat cW) (b.getD ((j:Int) - 1).toNat cW) (q3.2 _ (ao (by omega))) (q3.2 _ (ao (by omega)))) [] rfl ⟨lr,lr,trivial⟩ trivial rfl rfl ?_;rintro x rout ⟨rfl,rfl⟩;refine⟨rfl,?_⟩;conv=>whnf
     repeat' (first|((first|(refine aa ?_ ?_<;>intro hb<;>try simp only[az]at hb)|refine aq hT 4 gJ ?_|refine aq hT 6 gC ?_|omega|refine aA ?_|decide|assumption)<;>conv=>whnf))
     · refine⟨(j - 1,_),⟨by omega,vV (vV q3 (q3.2 _ (ao (i:=((j:Int) - 1).toNat) (x:=cW) (by omega)))) (q3.2 _ (ao (i:=(j:Int).toNat) (x:=cW) (by omega)))⟩,by show j - 1<j;omega,af [(1000001,1000001)] rfl rfl ⟨lr,lr,lr,lr,lr,ap (by omega),trivial⟩ ⟨fN (fun _=>rfl) (fun _=>rfl),trivial⟩⟩
     · exact⟨(i+1,b),⟨by omega,by omega,q3⟩,by show l.length - (i+1)<l.length - i;omega,(by exact be [(1000001,1000001)])⟩
   · exact⟨(i+1,b),⟨by omega,by omega,q3⟩,by show l.length - (i+1)<l.length - i;omega,(by exact be [(1000001,1000001)])⟩
 · refine .ret _ ?_;conv=>whnf
   exact⟨_,⟨rfl,c,p3,rfl⟩,rr,trivial⟩
theorem K5 (g:FuncId)(cmp:bv→bv→Int)(l:List bv)(hl:l.length<20)
 (hcmp:∀p q,p ∈ l→q ∈ l→ai Tryz.prog g [.agg ((gL p).map .d),.agg ((gL q).map .d)] [] (fun y r=>y= .d (.int .i64 (cmp p q))∧r= [])):
 ai Tryz.prog 145 [.buf 1000001,.d (.int .i64 l.length),.fn g []] [(1000001,aL 84 4 gL cW l)]
  (fun y r=>y= .tup []∧∃c,jv l c∧r= [(1000001,aL 84 4 gL cW c)]):=by
 refine ae hT (C:= []) Tryz.func145 rfl Tryz.call145 rfl rfl rfl ?_;conv=>whnf
 refine ah hT (C:= []) (ι:=Unit) (fun _=>True) (fun _=>aI [(0,.buf 1000001),(1,.d (.int .i64 l.length)),(2,.fn g []),(6,.d (.int .i64 20)),(7,.d (.int .i64 0)),(8,.d (.int .i64 20))] [(1000001,aL 84 4 gL cW l)]) (fun _=>0) () trivial (by exact be [(1000001,1000001)]) ?_;rintro⟨⟩ -;conv=>whnf
 repeat' (first|((first|(refine aa ?_ ?_<;>intro hb<;>try simp only[az]at hb)|omega|refine aA ?_|decide|assumption)<;>conv=>whnf))
 refine cd (J1 g cmp l (by omega) hcmp) [(1000001,1000001)] ?_;rintro x rout ⟨rfl,c,hc,rfl⟩;refine⟨rfl,?_⟩;conv=>whnf
 refine ah hT (C:= []) (ι:=Unit) (fun _=>True) (fun _=>aI [(0,.buf 1000001),(1,.d (.int .i64 l.length)),(2,.fn g []),(6,.d (.int .i64 20))] [(1000001,aL 84 4 gL cW c)]) (fun _=>0) () trivial (by exact be [(1000001,1000001)]) ?_;rintro⟨⟩ -;conv=>whnf
 repeat' (first|((first|(refine aa ?_ ?_<;>intro hb<;>try simp only[az]at hb)|omega|refine aA ?_|decide|assumption)<;>conv=>whnf))
 refine .ret _ ?_;conv=>whnf
 exact⟨_,⟨rfl,c,hc,rfl⟩,rr,trivial⟩
theorem xW {a b c:List bv}(h:jv a b)(k:jv b c):jv a c:=⟨k.1.trans h.1,fun x hx=>h.2 x (k.2 x hx)⟩
theorem Li (g:FuncId)(l:List bv):
 ai Tryz.prog 187 [.buf 1000001,.d (.int .i64 20),.d (.int .i64 20),.fn g []] [(1000001,aL 84 4 gL cW l)]
  (fun y r=>y= .tup []∧r= [(1000001,aL 84 4 gL cW l)]):=by
 refine ae hT (C:= []) Tryz.func187 rfl Tryz.call187 rfl rfl rfl ?_;conv=>whnf
 repeat' (first|((first|(refine aa ?_ ?_<;>intro hb<;>try simp only[az]at hb)|refine aq hT 4 gJ ?_|refine aq hT 6 gC ?_|omega|refine aA ?_|decide|assumption)<;>conv=>whnf))
 refine ah hT (C:= []) (ι:=Unit) (fun _=>True) (fun _=>aI [(0,.buf 1000001),(1,.d (.int .i64 20)),(2,.d (.int .i64 20)),(3,.fn g []),(8,.d (.int .i64 21))] [(1000001,aL 84 4 gL cW l)]) (fun _=>0) () trivial (by exact be [(1000001,1000001)]) ?_;rintro⟨⟩ -;conv=>whnf
 repeat' (first|((first|(refine aa ?_ ?_<;>intro hb<;>try simp only[az]at hb)|refine aq hT 4 gJ ?_|refine aq hT 6 gC ?_|omega|refine aA ?_|decide|assumption)<;>conv=>whnf))
 refine .ret _ ?_;conv=>whnf
 exact⟨_,⟨rfl,rfl⟩,rr,trivial⟩
theorem L0 (g:FuncId)(cmp:bv→bv→Int)(l:List bv)(hl:l.length=20)
 (hcmp:∀p q,p ∈ l→q ∈ l→ai Tryz.prog g [.agg ((gL p).map .d),.agg ((gL q).map .d)] [] (fun y r=>y= .d (.int .i64 (cmp p q))∧r= [])):
 ai Tryz.prog 145 [.buf 1000001,.d (.int .i64 l.length),.fn g []] [(1000001,aL 84 4 gL cW l)]
  (fun y r=>y= .tup []∧∃c,jv l c∧r= [(1000001,aL 84 4 gL cW c)]):=by
 have h20:(l.length:Int)=20:=by omega
 rw[h20];refine ae hT (C:= []) Tryz.func145 rfl Tryz.call145 rfl rfl rfl ?_;conv=>whnf
 refine ah hT (C:= []) (ι:=Bool×List bv) (fun(_,c)=>jv l c) (fun(b,c)=>aI [(0,.buf 1000001),(1,.d (.int .i64 20)),(2,.fn g []),(6,.d (.int .i64 20)),(7,.d (.int .i64 (bif b then 20 else 0))),(8,.d (.int .i64 (bif b then 40 else 20)))] [(1000001,aL 84 4 gL cW c)]) (fun(b,_)=>bif b then 0 else 1) (false,l) ⟨rfl,fun x h=>h⟩ (by exact be [(1000001,1000001)]) ?_;rintro⟨b,c⟩ hc;have hc:jv l c:=hc;cases b
 · have c1:=J1 g cmp c (by have:=hc.1;omega) (fun p q hp hq=>hcmp p q (hc.2 p hp) (hc.2 q hq));have h2:(c.length:Int)=20:=by have:=hc.1;omega
   rw[h2]at c1;conv=>whnf
   repeat' (first|((first|(refine aa ?_ ?_<;>intro hb<;>try simp only[az]at hb)|omega|refine aA ?_|decide|assumption)<;>conv=>whnf))
   refine cd c1 [(1000001,1000001)] ?_;rintro x rout ⟨rfl,d,hd,rfl⟩;refine⟨rfl,?_⟩;conv=>whnf
   repeat' (first|((first|(refine aa ?_ ?_<;>intro hb<;>try simp only[az]at hb)|omega|refine aA ?_|decide|assumption)<;>conv=>whnf))
   exact⟨(true,d),xW hc hd,by show(0:Nat)<1;omega,(by exact be [(1000001,1000001)])⟩
 · conv=>whnf
   repeat' (first|((first|(refine aa ?_ ?_<;>intro hb<;>try simp only[az]at hb)|omega|refine aA ?_|decide|assumption)<;>conv=>whnf))
   refine cd (Li g c) [(1000001,1000001)] ?_;rintro x rout ⟨rfl,rfl⟩;refine⟨rfl,?_⟩;conv=>whnf
   refine ah hT (C:= []) (ι:=Unit) (fun _=>True) (fun _=>aI [(0,.buf 1000001),(1,.d (.int .i64 20)),(2,.fn g []),(6,.d (.int .i64 20))] [(1000001,aL 84 4 gL cW c)]) (fun _=>0) () trivial (by exact be [(1000001,1000001)]) ?_;rintro⟨⟩ -;conv=>whnf
   repeat' (first|((first|(refine aa ?_ ?_<;>intro hb<;>try simp only[az]at hb)|omega|refine aA ?_|decide|assumption)<;>conv=>whnf))
   refine .ret _ ?_;conv=>whnf
   exact⟨_,⟨rfl,c,hc,rfl⟩,rr,trivial⟩
theorem Nj (g:FuncId)(cmp:bv→bv→Int)(l:List bv)(hl:l.length≤20)
 (hcmp:∀p q,p ∈ l→q ∈ l→ai Tryz.prog g [.agg ((gL p).map .d),.agg ((gL q).map .d)] [] (fun y r=>y= .d (.int .i64 (cmp p q))∧r= [])):
 ai Tryz.prog 145 [.buf 1000001,.d (.int .i64 l.length),.fn g []] [(1000001,aL 84 4 gL cW l)]
  (fun y r=>y= .tup []∧∃c,jv l c∧r= [(1000001,aL 84 4 gL cW c)]):=by
 rcases Nat.lt_or_ge l.length 20 with h|h
 · exact K5 g cmp l h hcmp
 · exact L0 g cmp l (by omega) hcmp
theorem Nu (g:FuncId)(cmp:bv→bv→Int)(l:List bv)(hl:l.length≤20)
 (hcmp:∀p q,p ∈ l→q ∈ l→ai Tryz.prog g [.agg ((gL p).map .d),.agg ((gL q).map .d)] [] (fun y r=>y= .d (.int .i64 (cmp p q))∧r= [])):
 ai Tryz.prog 82 [.buf 1000001,.fn g []] [(1000001,aL 84 4 gL cW l)]
  (fun y r=>y= .tup []∧∃c,jv l c∧r= [(1000001,aL 84 4 gL cW c)]):=by
 refine ae hT (C:= []) Tryz.func82 rfl Tryz.call82 rfl rfl rfl ?_;conv=>whnf
 repeat' (first|((first|(refine aa ?_ ?_<;>intro hb<;>try simp only[az]at hb)|omega|refine aA ?_|decide|assumption)<;>conv=>whnf))
 refine cd (Nj g cmp l hl hcmp) [(1000001,1000001)] ?_;rintro x rout ⟨rfl,c,hc,rfl⟩;refine⟨rfl,?_⟩;conv=>whnf
 refine .ret _ ?_;conv=>whnf
 exact⟨_,⟨rfl,c,hc,rfl⟩,rr,trivial⟩
def Dq:OL:= [(0,[]),(1,[]),(2,[]),(3,[]),(4,[3]),(5,[3]),(6,[]),(7,[]),(8,[3,4,5,6,7]),(9,[]),(10,[]),(11,[])]
theorem GG {p:Nat→Bool}{n k:Nat}(hk:k<n)(h:p k=true):0≤jP p n:=by
 have hb:=eP (p:=p) (n:=n);rcases Int.lt_or_le (jP p n) 0 with q|q
 · exfalso
   have hn :∀m,jP p m<0→∀j,j<m→p j=false:=by
    intro m
    induction m with
    |zero=>intro _ j hj;omega
    | succ m ih=>
      intro hm j hj;rw[jP]at hm;split at hm
      · rename_i hz
        by_cases hjm:j=m
        · subst hjm;split at hm
          · omega
          · rename_i hf;simpa using hf
        · exact ih (by omega) j (by omega)
      · rename_i hz;have:=(eP (p:=p) (n:=m)).1;omega
   rw[hn n q k hk]at h;cases h
 · exact q
theorem Gw {a b:bv}:a=b↔((a.tm=b.tm∧a.desk=b.desk)∧a.no=b.no)∧a.words=b.words:=by cases a;cases b;simp[and_assoc]
instance:DecidableEq bv:=fun _ _=>decidable_of_iff _ Gw.symm
def enHas (l:List bv):List DV→Bool
 | [.str a,.int .i64 b]=>l.any fun y=>y.desk==a&&decide (y.no=b)
 |_=>false
def zW (l:List bv)(x:bv):Bool:=enHas l [.str x.desk,.int .i64 x.no]
abbrev Q3 (l:List bv):aY:=.map true false [.str,.int .i64] [.bool false] (enHas l) (fun k=> [.bool (enHas l k)])
def ur (y x:bv):Bool:=y.desk==x.desk&&decide (y.no=x.no)
def lB (x:bv):aY:=.cells 84 ((gL x).map .d)
theorem O6 (y x:bv):ai Tryz.prog 86 [.agg ((gL y).map .d),.ptr 1000001 0] [(1000001,lB x)] (fun v r=>v= .d (.bool (ur y x))∧r= [(1000001,lB x)]):=by
 refine ae hT (C:= []) Tryz.func86 rfl Tryz.call86 rfl rfl rfl ?_;conv=>whnf
 repeat' (first|((first|(refine aa ?_ ?_<;>intro hb<;>try simp only[az]at hb)|omega|refine aA ?_|decide|assumption)<;>conv=>whnf))
 all_goals
  refine .ret _ ?_;conv=>whnf
  refine⟨[(1000001,lB x)],⟨?_,rfl⟩,rr,trivial⟩;conv=>lhs;whnf
  congr 2
  unfold ur
  first
   |(rw[hb];simp;done)
   | (have:(y.desk==x.desk)=false:=by simpa using hb
      rw[this];rfl)
   |simp_all
theorem NB (l:List bv)(hl:l.length≤2^40)(x:bv):ai Tryz.prog 151 [.d (jI l),.fn 86 [.ptr 1000001 0]] [(1000001,lB x)] (fun v r=>v= .d (.int .i64 (jP (fun i=>ur (l.getD i cW) x) l.length))∧r= [(1000001,lB x)]):=by
 refine ae hT (C:= []) Tryz.func151 rfl Tryz.call151 rfl rfl rfl ?_;conv=>whnf
 refine ah hT (C:= []) (ι:=Nat) (fun i=>i≤l.length∧∀j,j<i→ur (l.getD j cW) x=false) (fun i=>aI [(0,.d (jI l)),(1,.fn 86 [.ptr 1000001 0]),(7,.d (.int .i64 l.length)),(8,.d (.int .i64 i))] [(1000001,lB x)]) (fun i=>l.length - i) 0 ⟨by omega,by omega⟩ (by exact be [(1000001,1000001)]) ?_;rintro i ⟨p1,p2⟩;have e1:(i:Int).toNat=i:=Int.toNat_natCast i;conv=>whnf
 repeat' (first|((first|(refine cd (O6 (l.getD (i:Int).toNat cW) x) [(1000001,1000001)] ?_;rintro v rout ⟨rfl,rfl⟩;refine⟨rfl,?_⟩)|(refine aa ?_ ?_<;>intro hb<;>try simp only[az]at hb)|omega|refine aA ?_|decide|assumption)<;>conv=>whnf))
 · refine .ret _ ?_;conv=>whnf
   refine⟨[(1000001,lB x)],⟨?_,rfl⟩,rr,trivial⟩;conv=>lhs;whnf
   congr 2
   exact(gd (by omega) p2 (by simpa using hb)).symm
 · exact⟨i+1,⟨by omega,bw p2 (by simpa using hb)⟩,by omega,(by exact be [(1000001,1000001)])⟩
 · refine .ret _ ?_;conv=>whnf
   refine⟨[(1000001,lB x)],⟨?_,rfl⟩,rr,trivial⟩;conv=>lhs;whnf
   congr 2
   have:i=l.length:=by omega
   subst this;exact(ew p2).symm
theorem LO (l:List bv)(x:bv):decide (0≤jP (fun i=>ur (l.getD i cW) x) l.length)=zW l x:=by
 rw[Bool.eq_iff_iff,decide_eq_true_eq];show _↔(l.any fun y=>y.desk==x.desk&&decide (y.no=x.no))=true;rw[List.any_eq_true];constructor
 · intro h;have:=eP (p:=fun i=>ur (l.getD i cW) x) (n:=l.length);exact⟨_,ao (x:=cW) (by omega),this.2.2 h⟩
 · rintro⟨y,hy,he⟩;obtain⟨j,hj,rfl⟩:=a8 (d:=cW) hy;exact GG hj he
theorem Qp (l:List bv)(hl:l.length≤2^40)(x:bv):ai Tryz.prog 85 [.d (jI l),.fn 86 [.ptr 1000001 0]] [(1000001,lB x)] (fun v r=>v= .d (.bool (zW l x))∧r= [(1000001,lB x)]):=by
 refine ae hT (C:= []) Tryz.func85 rfl Tryz.call85 rfl rfl rfl ?_;conv=>whnf
 repeat' (first|((first|(refine cd (NB l hl x) [(1000001,1000001)] ?_;rintro v rout ⟨rfl,rfl⟩;refine⟨rfl,?_⟩)|(refine aa ?_ ?_<;>intro hb<;>try simp only[az]at hb)|omega|refine aA ?_|decide|assumption)<;>conv=>whnf))
 refine .ret _ ?_;conv=>whnf
 refine⟨[(1000001,lB x)],⟨?_,rfl⟩,rr,trivial⟩;conv=>lhs;whnf
 rw[←LO]
def lc (x:bv):Int:=if ¬ (0≤x.tm∧x.tm≤5761439)then 1 else if aE x.desk=false then 5 else if ¬ (1≤x.no∧x.no≤1000000)then 1 else if ¬ (1≤x.words.length∧x.words.length≤200)then 3 else if I7 x.words=false then 3 else 0
def qx (l:List bv)(i:Nat):Int:=if lc (l.getD i cW)≠0 then lc (l.getD i cW)else if 0<i∧0≤gl (l.getD (i - 1) cW) (l.getD i cW)then 7 else if zW (l.take i) (l.getD i cW)=true then 6 else 0
def dZ (l:List bv):Int:=if 1000<l.length then 2 else bf (qx l) l.length
def rM (x:bv):Prop:=(x.desk.length≤2^40∧x.words.length≤2^40)∧B8 x
def vG (l:List bv):Prop:=l.length≤2^40∧∀x ∈ l,rM x
theorem Pi (x:bv)(hk:rM x):ai Tryz.prog 84 [.agg ((gL x).map .d)] [] (fun v r=>v= .d (.int .i64 (lc x))∧r= []):=by
 have hw:=hk.1.2;refine ae hT (C:= []) Tryz.func84 rfl Tryz.call84 rfl rfl rfl ?_;conv=>whnf
 repeat' (first|(refine ac (PV _) rfl rfl ?_;rotate_right;conv=>whnf)|(refine ac (J4 _ hk.1.1) rfl rfl ?_;rotate_right;conv=>whnf)|(refine ac (Np _ _ _) rfl rfl ?_;rotate_right;conv=>whnf)|((first|(refine aa ?_ ?_<;>intro hb<;>try simp only[az]at hb)|omega|refine aA ?_|decide|assumption)<;>conv=>whnf))
 iterate 4
  · refine .ret _ ?_;conv=>whnf
    refine⟨[],⟨?_,rfl⟩,trivial⟩;conv=>lhs;whnf
    congr 2
    unfold lc;grind
 have hf:lc x=if I7 x.words=false then 3 else 0:=by unfold lc;grind
 rw[hf];refine ah hT (C:= []) (ι:=Nat) (fun i=>i≤x.words.length∧∀j,j<i→32≤(x.words.getD j 0).toNat∧(x.words.getD j 0).toNat≤126) (fun i=>aI [(1,.ptr 1 0),(27,.d (.int .i64 x.words.length)),(28,.d (.int .i64 i))] [(1,lB x)]) (fun i=>x.words.length - i) 0 ⟨by omega,by omega⟩ (by exact be [(1,1)]) ?_;rintro i ⟨p1,p2⟩;have e1:(i:Int).toNat=i:=Int.toNat_natCast i;have hby:(x.words.getD (i:Int).toNat 0).toNat<256:=UInt8.toNat_lt _;have hby2:(x.words.getD i 0).toNat<256:=UInt8.toNat_lt _;conv=>whnf
 repeat' (first|(refine ac (Np _ _ _) rfl rfl ?_;rotate_right;conv=>whnf)|((first|(refine aa ?_ ?_<;>intro hb<;>try simp only[az]at hb)|omega|refine aA ?_|decide|assumption)<;>conv=>whnf))
 · refine .ret _ ?_;conv=>whnf
   refine⟨[],⟨?_,rfl⟩,trivial⟩;conv=>lhs;whnf
   congr 2
   rw[w5 (i:=i) (by omega) (by omega)];rfl
 · exact⟨i+1,⟨by omega,bw p2 (by omega)⟩,by omega,(by exact be [(1,1)])⟩
 · refine .ret _ ?_;conv=>whnf
   refine⟨[],⟨?_,rfl⟩,trivial⟩;conv=>lhs;whnf
   congr 2
   have:i=x.words.length:=by omega
   subst this;rw[wJ.2 p2];rfl
theorem FW {l:List bv}{i:Nat}(h:i≤l.length):SV.le (.d (.ro 4 i fun j=>aW gL cW l (0+j))) (.d (jI (l.take i))):=
 bZ (by rw[List.length_take];omega) (fun j hj=>by
  simp only[Nat.zero_add,aW]
  rw[List.getD_eq_getElem?_getD,List.getD_eq_getElem?_getD,List.getElem?_take_of_lt hj])
theorem sQ {l:List bv}{i:Nat}{e:Int}(h0:¬ 1000<l.length)(h:i<l.length)(p:∀j,j<i→qx l j=0)(h1:e≠0)(h2:qx l i=e):dZ l=e:=by
 unfold dZ;rw[if_neg h0];exact aX h p h1 h2
theorem PY (l:List bv)(hk:vG l):ai Tryz.prog 31 [.d (jI l)] [] (fun x r=>x= .d (.int .i64 (dZ l))∧r= []):=by
 refine ae hT (C:= []) Tryz.func31 rfl Tryz.call31 rfl rfl rfl ?_;conv=>whnf
 refine aa (fun h0=> ?_) (fun h0=> ?_)
 · simp at h0;conv=>whnf
   refine .ret _ ?_;conv=>whnf
   refine⟨[],⟨?_,rfl⟩,trivial⟩;conv=>lhs;whnf
   unfold dZ;rw[if_pos (by omega)]
 simp at h0;conv=>whnf
 refine ah hT (C:= []) (ι:=Nat) (fun i=>i≤l.length∧∀j,j<i→qx l j=0) (fun i=>aI [(0,.d (jI l)),(9,.d (jI l)),(10,.d (.int .i64 l.length)),(11,.d (.int .i64 i))] []) (fun i=>l.length - i) 0 ⟨by omega,by omega⟩ (by exact be []) ?_;rintro i ⟨p1,p2⟩;have e1:(i:Int).toNat=i:=Int.toNat_natCast i;have hx:∀i,i<l.length→rM (l.getD i cW):=fun i hi=>hk.2 _ (ao hi)
 have hK:rM (l.getD (i:Int).toNat cW):=by
  rw[e1];rcases Nat.lt_or_ge i l.length with q|q
  · exact hx i q
  · rw[List.getD_eq_getElem?_getD,List.getElem?_eq_none q];simp[rM,B8,cW]
 have hK2:rM (l.getD ((i:Int) - 1).toNat cW):=by
  rcases Nat.lt_or_ge ((i:Int) - 1).toNat l.length with q|q
  · exact hx _ q
  · rw[List.getD_eq_getElem?_getD,List.getElem?_eq_none q];simp[rM,B8,cW]
 have hD:=Qp (l.take (i:Int).toNat) (by rw[List.length_take];have:=hk.1;omega) (l.getD (i:Int).toNat cW);conv=>whnf
 repeat' (first|(refine ac (Pi _ hK) rfl rfl ?_;rotate_right;conv=>whnf)|(refine ac (N2 (l.getD ((i:Int) - 1).toNat cW) (l.getD (i:Int).toNat cW) hK2.2 hK.2) rfl rfl ?_;rotate_right;conv=>whnf)|((first|(refine dQ.of hD [(1000001,4)] rfl ⟨FW (by omega),lr,trivial⟩ ⟨rr,trivial⟩ rfl rfl ?_;rintro v rout ⟨rfl,rfl⟩;refine⟨rfl,?_⟩)|(refine aa ?_ ?_<;>intro hb<;>try simp only[az]at hb)|refine aq hT 9 Dq ?_|omega|refine aA ?_|decide|assumption)<;>conv=>whnf))
 all_goals clear hD hK hK2 hx
 all_goals first
  |(refine⟨i+1,⟨by omega,aU p2 (by clear p2 hk;simp only[e1,aP]at*;unfold qx;grind)⟩,by omega,(by exact be [])⟩)
  | (refine .ret _ ?_
     conv=>whnf
     refine⟨[],⟨?_,rfl⟩,trivial⟩;conv=>lhs;whnf
     congr 2
     first
      |exact(sQ (by omega) (by omega) p2 hb (by clear p2 hk;simp only[e1,aP]at*;unfold qx;grind)).symm
      |exact(sQ (by omega) (by omega) p2 (by decide) (by clear p2 hk;simp only[e1,aP]at*;unfold qx;grind)).symm
      | (have:i=l.length:=by omega
         subst this
         unfold dZ;rw[if_neg (by omega),aF p2]))
def Al:OL:= [(0,[]),(1,[]),(2,[]),(3,[]),(4,[3]),(5,[3]),(6,[]),(7,[]),(8,[3,4,5,6,7]),(9,[]),(10,[]),(11,[]),(12,[])]
theorem CL {key:List DV}(h:wk [.str,.int .i64] key=true):∃a b,key= [.str a,.int .i64 b]:=by
 match key,h with
 | [.str a,.int k d],h=>
   have:IntKind.i64=k:=gm (by simpa [wk,iE]using h);subst this
   exact⟨a,d,rfl⟩
 | .str _:: .int _ _::_::_,h=>simp[wk]at h
theorem Mg {l:List bv}{i:Nat}{x:bv}(hi:i<l.length)(hx:x=l.getD i cW):
 aY.le (.map true false [.str,.int .i64] [.bool false] (fun q=>ay q [.str x.desk,.int .i64 x.no]||enHas (l.take i) q) (fun q=>bif ay q [.str x.desk,.int .i64 x.no]then [.bool true]else [.bool (enHas (l.take i) q)])) (Q3 (l.take (i+1))):=bC fun K hK=>by
 obtain⟨a,b,rfl⟩:=CL hK
 have e:l.take (i+1)=l.take i++ [x]:=by
  rw[hx,List.take_add_one];simp[List.getD_eq_getElem?_getD,hi]
 have h1:enHas (l.take (i+1)) [.str a,.int .i64 b]=(enHas (l.take i) [.str a,.int .i64 b]||(x.desk==a&&decide (x.no=b))):=by
  show(l.take (i+1)).any _=_;rw[e,List.any_append];simp[enHas]
 have h2:ay [.str a,.int .i64 b] [.str x.desk,.int .i64 x.no]=(x.desk==a&&decide (x.no=b)):=by
  rw[Bool.eq_iff_iff];simp[ay,df];grind
 rw[h1,h2];cases hq:(x.desk==a&&decide (x.no=b))<;>simp
theorem LN (l:List bv)(hk:vG l):ai Tryz.prog 55 [.d (jI l)] [] (fun x r=>x= .d (.int .i64 (dZ l))∧r= []):=by
 refine ae hT (C:= []) Tryz.func55 rfl Tryz.call55 rfl rfl rfl ?_;conv=>whnf
 refine aa (fun h0=> ?_) (fun h0=> ?_)
 · simp at h0;conv=>whnf
   refine .ret _ ?_;conv=>whnf
   refine⟨[],⟨?_,rfl⟩,trivial⟩;conv=>lhs;whnf
   unfold dZ;rw[if_pos (by omega)]
 simp at h0;conv=>whnf
 refine ah hT (C:= []) (ι:=Nat) (fun i=>i≤l.length∧∀j,j<i→qx l j=0) (fun i=>aI [(0,.d (jI l)),(3,.mp 3),(11,.d (jI l)),(12,.d (.int .i64 l.length)),(13,.d (.int .i64 i))] [(3,Q3 (l.take i))]) (fun i=>l.length - i) 0 ⟨by omega,by omega⟩ ?_ ?_
 · refine af [(3,10)] rfl rfl ⟨lr,lr,lr,lr,lr,trivial⟩ ⟨bC (fun key hk=> ?_),trivial⟩;obtain⟨a,b,rfl⟩:=CL hk;exact⟨rfl,rfl⟩
 rintro i ⟨p1,p2⟩;have e1:(i:Int).toNat=i:=Int.toNat_natCast i;have hx:∀i,i<l.length→rM (l.getD i cW):=fun i hi=>hk.2 _ (ao hi)
 have hK:rM (l.getD (i:Int).toNat cW):=by
  rw[e1];rcases Nat.lt_or_ge i l.length with q|q
  · exact hx i q
  · rw[List.getD_eq_getElem?_getD,List.getElem?_eq_none q];simp[rM,B8,cW]
 conv=>whnf
 repeat' (first|(refine ac (Lq _) rfl rfl ?_;rotate_right;conv=>whnf)|(refine ac (iR _ hK.1.1) rfl rfl ?_;rotate_right;conv=>whnf)|(refine ac (ix _ _ _) rfl rfl ?_;rotate_right;conv=>whnf)|(refine ac (Nt _ hK.1.2) rfl rfl ?_;rotate_right;conv=>whnf)|(refine ac (N8 (l.getD ((i:Int) - 1).toNat cW) (l.getD (i:Int).toNat cW)) rfl rfl ?_;rotate_right;conv=>whnf)|(refine And.intro (rfl:aK _=some [DV.bool false]) ?_;conv=>whnf)|(simp only[Nat.beq_refl,cond_true];conv=>whnf)|((first|(refine aa ?_ ?_<;>intro hb<;>try simp only[az]at hb)|refine aq hT 16 Al ?_|omega|refine aA ?_|decide|assumption)<;>conv=>whnf))
 all_goals have hwl:(l.getD i cW).words= []↔(l.getD i cW).words.length=0:=List.length_eq_zero_iff.symm
 all_goals clear hK hx
 all_goals first
  |(refine⟨i+1,⟨by omega,aU p2 (by clear p2 hk;simp only[e1,aP]at*;unfold qx lc zW;grind)⟩,by omega,af [(3,3)] rfl rfl ⟨lr,lr,lr,lr,lr,trivial⟩ ⟨Mg (x:=l.getD (i:Int).toNat cW) (by omega) (by rw[e1]),trivial⟩⟩)
  | (refine .ret _ ?_
     conv=>whnf
     refine⟨[],⟨?_,rfl⟩,trivial⟩;conv=>lhs;whnf
     congr 2
     first
      |exact(sQ (by omega) (by omega) p2 (by decide) (by clear p2 hk;simp only[e1,aP]at*;unfold qx lc zW;grind)).symm
      | (have:i=l.length:=by omega
         subst this
         unfold dZ;rw[if_neg (by omega),aF p2]))
theorem IC:∀ (k u:Nat),u<10 ^ (k+1)→(Lib.decDigits u).length≤k+1:=by
 intro k
 induction k with
 | zero=>
   intro u h
   rw[Lib.decDigits,dif_pos (by omega)];simp
 | succ k ih=>
   intro u h;rw[Lib.decDigits];split
   · simp
   · have:=ih (u/10) (by rw[Nat.pow_succ]at h;omega);simp;omega
theorem GH {n:Int}(h0: -2^60≤n)(h1:n≤2^60):(Lib.itoa n).length≤20:=by
 have key:∀u:Nat,u≤2^60→(Lib.decDigits u).length≤19:=fun u hu=>IC 18 u (by omega)
 unfold Lib.itoa;split
 · have:=key n.natAbs (by omega);simp;omega
 · have:=key n.toNat (by omega);omega
set_option maxHeartbeats 4000000 in
theorem Px (n :Nat)(L:Nat→Int)(hL:sJ n L)(a:Int)(h0:0≤a)(ha:a≤2^37)(at':Int)(hq1: -2^40≤at')(hq2:at'≤2^40):
 ai Tryz.prog 80 [.ptr 1000000 0,.d (.int .i64 at')] [(1000000,bp n L a),(1000009,KX)] (fun y r=>(∃t:List UInt8,t.length≤2^10∧y= .d (.str t))∧K0 n L a 20 r):=by
 have hI:∀k:Int,-2^60≤k→k≤2^60→(Lib.itoa k).length≤20:=fun k h1 h2=>GH h1 h2
 refine ae hT (C:= []) Tryz.func80 rfl Tryz.call80 rfl rfl rfl ?_;conv=>whnf
 repeat' (first|(refine dQ.of (tp n L hL _ ?_ ?_ [[118,49],[118,49],[118,50],[118,51],[110,111,110,101]] (by simp) (by simp)) [(1000000,1000000)] rfl ⟨lr,aj rfl rfl,trivial⟩ ⟨rr,trivial⟩ rfl rfl ?_;rotate_right;rintro x rout ⟨⟨u0,hu0,rfl⟩,⟨c,c1,c2,rfl⟩⟩;have hw0:=bO hu0 rfl;refine⟨rfl,?_⟩;conv=>whnf)|(refine dQ.of (tp n L hL _ ?_ ?_ [[115,49],[115,49],[115,49],[115,50],[115,57]] (by simp) (by simp)) [(1000000,1000000)] rfl ⟨lr,aj rfl rfl,trivial⟩ ⟨rr,trivial⟩ rfl rfl ?_;rotate_right;rintro x rout ⟨⟨u1,hu1,rfl⟩,⟨c,c1,c2,rfl⟩⟩;have hw1:=bO hu1 rfl;refine⟨rfl,?_⟩;conv=>whnf)|(refine dQ.of (tp n L hL _ ?_ ?_ [[104,49],[104,49],[104,50],[104,51],[65]] (by simp) (by simp)) [(1000000,1000000)] rfl ⟨lr,aj rfl rfl,trivial⟩ ⟨rr,trivial⟩ rfl rfl ?_;rotate_right;rintro x rout ⟨⟨u2,hu2,rfl⟩,⟨c,c1,c2,rfl⟩⟩;have hw2:=bO hu2 rfl;refine⟨rfl,?_⟩;conv=>whnf)|(refine dQ.of (tp n L hL _ ?_ ?_ [[115,104,111,112],[100,111,110,101],[99,111,109,101],[103,111,110,101]] (by simp) (by simp)) [(1000000,1000000)] rfl ⟨lr,aj rfl rfl,trivial⟩ ⟨rr,trivial⟩ rfl rfl ?_;rotate_right;rintro x rout ⟨⟨u3,hu3,rfl⟩,⟨c,c1,c2,rfl⟩⟩;have hw3:=bO hu3 rfl;refine⟨rfl,?_⟩;conv=>whnf)|(refine dQ.of (tp n L hL _ ?_ ?_ [[115,50],[115,49],[115,57]] (by simp) (by simp)) [(1000000,1000000)] rfl ⟨lr,aj rfl rfl,trivial⟩ ⟨rr,trivial⟩ rfl rfl ?_;rotate_right;rintro x rout ⟨⟨u4,hu4,rfl⟩,⟨c,c1,c2,rfl⟩⟩;have hw4:=bO hu4 rfl;refine⟨rfl,?_⟩;conv=>whnf)|(refine dQ.of (tp n L hL _ ?_ ?_ [[109,105,110,105],[109,105,100,105],[110,111,110,101]] (by simp) (by simp)) [(1000000,1000000)] rfl ⟨lr,aj rfl rfl,trivial⟩ ⟨rr,trivial⟩ rfl rfl ?_;rotate_right;rintro x rout ⟨⟨u5,hu5,rfl⟩,⟨c,c1,c2,rfl⟩⟩;have hw5:=bO hu5 rfl;refine⟨rfl,?_⟩;conv=>whnf)|(refine dQ.of (tp n L hL _ ?_ ?_ [[53,48],[49,48,48],[49,48,49]] (by simp) (by simp)) [(1000000,1000000)] rfl ⟨lr,aj rfl rfl,trivial⟩ ⟨rr,trivial⟩ rfl rfl ?_;rotate_right;rintro x rout ⟨⟨u6,hu6,rfl⟩,⟨c,c1,c2,rfl⟩⟩;have hw6:=bO hu6 rfl;refine⟨rfl,?_⟩;conv=>whnf)|(refine dQ.of (tp n L hL _ ?_ ?_ [[48],[49,48,48],[57,57,57,57,57,48]] (by simp) (by simp)) [(1000000,1000000)] rfl ⟨lr,aj rfl rfl,trivial⟩ ⟨rr,trivial⟩ rfl rfl ?_;rotate_right;rintro x rout ⟨⟨u7,hu7,rfl⟩,⟨c,c1,c2,rfl⟩⟩;have hw7:=bO hu7 rfl;refine⟨rfl,?_⟩;conv=>whnf)|(refine dQ.of (tp n L hL _ ?_ ?_ [[56],[52],[57]] (by simp) (by simp)) [(1000000,1000000)] rfl ⟨lr,aj rfl rfl,trivial⟩ ⟨rr,trivial⟩ rfl rfl ?_;rotate_right;rintro x rout ⟨⟨u8,hu8,rfl⟩,⟨c,c1,c2,rfl⟩⟩;have hw8:=bO hu8 rfl;refine⟨rfl,?_⟩;conv=>whnf)|(refine dQ.of (tp n L hL _ ?_ ?_ [[53],[51,48,48],[52,48,48]] (by simp) (by simp)) [(1000000,1000000)] rfl ⟨lr,aj rfl rfl,trivial⟩ ⟨rr,trivial⟩ rfl rfl ?_;rotate_right;rintro x rout ⟨⟨u9,hu9,rfl⟩,⟨c,c1,c2,rfl⟩⟩;have hw9:=bO hu9 rfl;refine⟨rfl,?_⟩;conv=>whnf)|(refine dQ.of (tp n L hL _ ?_ ?_ [[56],[50]] (by simp) (by simp)) [(1000000,1000000)] rfl ⟨lr,aj rfl rfl,trivial⟩ ⟨rr,trivial⟩ rfl rfl ?_;rotate_right;rintro x rout ⟨⟨u10,hu10,rfl⟩,⟨c,c1,c2,rfl⟩⟩;have hw10:=bO hu10 rfl;refine⟨rfl,?_⟩;conv=>whnf)|(refine dQ.of (kD n L hL _ ?_ ?_ [10,60,1440,2000,-5] (by simp) (by simp)) [(1000000,1000000)] rfl ⟨lr,aj rfl rfl,trivial⟩ ⟨rr,trivial⟩ rfl rfl ?_;rotate_right;rintro x rout ⟨⟨n1,hn1,rfl⟩,⟨c,c1,c2,rfl⟩⟩;have hm1:=E5 hn1 rfl;have hm1a:=hm1.1;have hm1b:=hm1.2;refine⟨rfl,?_⟩;conv=>whnf)|(refine dQ.of (kD n L hL _ ?_ ?_ [0,10,100] (by simp) (by simp)) [(1000000,1000000)] rfl ⟨lr,aj rfl rfl,trivial⟩ ⟨rr,trivial⟩ rfl rfl ?_;rotate_right;rintro x rout ⟨⟨n2,hn2,rfl⟩,⟨c,c1,c2,rfl⟩⟩;have hm2:=E5 hn2 rfl;have hm2a:=hm2.1;have hm2b:=hm2.2;refine⟨rfl,?_⟩;conv=>whnf)|(refine dQ.of (EQ n L hL _ ?_ ?_ _ ?_) [(1000000,1000000)] rfl ⟨lr,lr,trivial⟩ ⟨rr,trivial⟩ rfl rfl ?_;rotate_right;rintro x rout ⟨⟨j,hj1,hj2,hj3,rfl⟩,⟨c,c1,c2,rfl⟩⟩;refine⟨rfl,?_⟩;conv=>whnf)|((first|refine dm (Fo _ (by omega) (by omega)) rfl rfl rfl rfl ?_|(refine dQ.of (tp n L hL _ (by omega) (by omega) [_,_,_,_,_,_,_,_] (by simp) (by simp)) [(1000000,1000000)] rfl ⟨lr,aj rfl rfl,trivial⟩ ⟨rr,trivial⟩ rfl rfl ?_;rintro x rout ⟨⟨z,hz,rfl⟩,⟨c9,c91,c92,rfl⟩⟩;refine⟨rfl,?_⟩)|(refine And.intro (by simp only[List.length_append,List.toList_toArray,List.length_cons,List.length_nil];have i1:=hI (at'+n1) (by omega) (by omega);first|omega|(have i2:=hI (at'+n2) (by omega) (by omega);omega)) ?_)|(refine aa ?_ ?_<;>intro hb<;>try simp only[az]at hb)|omega|refine aA ?_|decide|assumption)<;>conv=>whnf))
 all_goals refine .ret _ ?_
 all_goals conv=>whnf
 all_goals refine⟨[(1000000,bp n L _),(1000009,KX)],⟨⟨_,?_,rfl⟩,⟨_,?_,?_,rfl⟩⟩,rr,rr,trivial⟩
 all_goals first
  |omega
  | (have i1:=hI (at'+n1) (by omega) (by omega)
     first
      | (simp only[List.length_append,List.toList_toArray,List.length_cons,List.length_nil]
         first
          |omega
          |(have i2:=hI (at'+n2) (by omega) (by omega);omega))
      | (simp only[List.mem_cons,List.not_mem_nil,or_false]at hz
         rcases hz with rfl|rfl|rfl|rfl|rfl|rfl|rfl|rfl<;>simp only[List.length_append,List.toList_toArray,List.length_cons,List.length_nil]<;>omega))
def vX:OL:= [(0,[]),(1,[0]),(2,[0,1]),(3,[0,1,2]),(4,[0,1]),(5,rg 5),(6,rg 6),(9,rg 7),(7,[0,1,2,3,4,9]),(8,[9]),(10,[])]
abbrev Ds (l:List bv):aY:=aL 84 4 gL cW l
def cf:List DV→List UInt8
 | [.str s]=>s
 |_=> []
abbrev QQ (g:List UInt8→Int):aY:=.map false false [.str] [.int .i64 0] (fun K=>decide (0<g (cf K))) (fun K=> [.int .i64 (g (cf K))])
def J9 (g:List UInt8→Int)(x:List UInt8):List UInt8→Int:=fun s=>if s=x then g x+1 else g s
theorem gg {K:List DV}(h:wk [.str] K=true):∃s,K= [.str s]:=by
 match K,h with
 | [.str s],_=>exact⟨s,rfl⟩
theorem LX {g:List UInt8→Int}{x:List UInt8}(h0:∀k,0≤g k):
 aY.le (.map false false [.str] [.int .i64 0] (fun q=>ay q [.str x]||decide (0<g (cf q))) (fun q=>bif ay q [.str x]then [.int .i64 (g x+1)]else [.int .i64 (g (cf q))])) (QQ (J9 g x)):=bC fun K hK=>by
 obtain⟨s,rfl⟩:=gg hK
 have e:ay [.str s] [.str x]=decide (s=x):=by
  rw[Bool.eq_iff_iff];simp[ay,df]
 rw[e];show(decide (s=x)||decide (0<g s))=decide (0<J9 g x s)∧(bif decide (s=x)then [DV.int .i64 (g x+1)]else [.int .i64 (g s)])= [.int .i64 (J9 g x s)];unfold J9
 by_cases q:s=x
 · subst q;have:=h0 s;simp;omega
 · simp[q]
theorem m8 (x:List UInt8):ay [.str x] [.str x]=true:=by simp[ay,df]
def Fu (x:bv):Prop:=(x.desk.length≤8∧x.words.length≤2^10)∧B8 x
theorem Ob {u:Int}(h:u ∈ ([0,1,5,10,100,500]:List Int)):0≤u∧u≤500:=by
 simp only[List.mem_cons,List.not_mem_nil,or_false]at h;omega
set_option maxHeartbeats 4000000 in
theorem Rg (n:Nat)(L:Nat→Int)(hL:sJ n L)(a:Int)(h0:0≤a)(ha:a≤2^36)(m:Int)(hm1:0≤m)(hm2:m≤20):
 ai Tryz.prog 30 [.ptr 1000000 0,.d (.int .i64 m)] [(1000000,bp n L a),(1000009,KX)] (fun y r=>∃l:List bv,∃b,dP Fu m.toNat l∧(a≤b∧b≤a+1000)∧y= .buf 5∧r= [(5,Ds l),(1000000,bp n L b),(1000009,KX)]):=by
 refine ae hT (C:= []) Tryz.func30 rfl Tryz.call30 rfl rfl rfl ?_;conv=>whnf
 refine ah hT (C:= []) (ι:=Int×List bv×Nat×Int×(List UInt8→Int)) (fun(b,l,k,t,g)=>(a≤b∧b≤a+50*k∧(k:Int)≤m)∧dP Fu k l∧(0≤t∧t≤2000*k)∧(∀s,0≤g s∧g s≤k))
  (fun(b,l,k,t,g)=>aI [(0,.ptr 1000000 0),(5,.buf 5),(6,.d (.int .i64 t)),(7,.mp 7),(11,.d (.int .i64 m)),(12,.d (.int .i64 k))] [(1000000,bp n L b),(1000009,KX),(5,Ds l),(7,QQ g)])
  (fun(_,_,k,_,_)=>30 - k) (a,[],0,0,fun _=>0) ⟨⟨by simp,by simp,by simpa using hm1⟩,⟨by simp,by simp⟩,⟨by simp,by simp⟩,by simp⟩ ?_ ?_
 · refine(dc.nil 5 5 84 4 (aW gL cW []) rfl rfl (by decide)).trans (af [(1000000,1000000),(1000009,1000009),(5,5),(7,10)] rfl rfl ⟨lr,lr,lr,lr,lr,lr,trivial⟩ ⟨rr,rr,rr,bC (fun key hk=> ?_),trivial⟩);obtain⟨s,rfl⟩:=gg hk;exact⟨rfl,rfl⟩
 rintro⟨b,l,k,t,g⟩ ⟨⟨p1,p2,p3⟩,q1,⟨q2,q3⟩,q4⟩;have p1:a≤b:=p1;have p2:b≤a+50*k:=p2;have p3:(k:Int)≤m:=p3;have q2:0≤t:=q2;have q3:t≤2000*k:=q3;have hl1:=q1.1;conv=>whnf
 repeat' (first|(refine dQ.of (kD n L hL _ ?_ ?_ [0,1,5,10,100,500] (by simp) (by simp)) [(1000000,1000000)] rfl ⟨lr,aj rfl rfl,trivial⟩ ⟨rr,trivial⟩ rfl rfl ?_;rotate_right;rintro x rout ⟨⟨u1,hu1,rfl⟩,⟨c,c1,c2,rfl⟩⟩;have hb1:=Ob hu1;have hb2:=hb1.1;have hb3:=hb1.2;refine⟨rfl,?_⟩;conv=>whnf)|(refine dQ.of (tp n L hL _ ?_ ?_ [[100,49],[100,49],[100,50],[100,51]] (by simp) (by simp)) [(1000000,1000000)] rfl ⟨lr,aj rfl rfl,trivial⟩ ⟨rr,trivial⟩ rfl rfl ?_;rotate_right;rintro x rout ⟨⟨u2,hu2,rfl⟩,⟨c,c1,c2,rfl⟩⟩;have hg2:=q4 u2;have hg3:0≤g (cf [DV.str u2]):=hg2.1;have hg4:g (cf [DV.str u2])≤k:=hg2.2;have hw2:=bO hu2 rfl;refine⟨rfl,?_⟩;conv=>whnf)|(refine dQ.of (tp n L hL _ ?_ ?_ [[],[65]] (by simp) (by simp)) [(1000000,1000000)] rfl ⟨lr,aj rfl rfl,trivial⟩ ⟨rr,trivial⟩ rfl rfl ?_;rotate_right;rintro x rout ⟨⟨u3,hu3,rfl⟩,⟨c,c1,c2,rfl⟩⟩;have hw3:=bO hu3 rfl;refine⟨rfl,?_⟩;conv=>whnf)|(refine dQ.of (tp n L hL _ ?_ ?_ [[],[97,10],[195]] (by simp) (by simp)) [(1000000,1000000)] rfl ⟨lr,aj rfl rfl,trivial⟩ ⟨rr,trivial⟩ rfl rfl ?_;rotate_right;rintro x rout ⟨⟨u4,hu4,rfl⟩,⟨c,c1,c2,rfl⟩⟩;have hw4:=bO hu4 rfl;refine⟨rfl,?_⟩;conv=>whnf)|(refine dQ.of (oA n L hL _ ?_ ?_ 0 1000 ?_ ?_ ?_) [(1000000,1000000)] rfl ⟨lr,lr,lr,trivial⟩ ⟨rr,trivial⟩ rfl rfl ?_;rotate_right;rintro x rout ⟨⟨u5,hk1,hk2,rfl⟩,⟨c,c1,c2,rfl⟩⟩;refine⟨rfl,?_⟩;conv=>whnf)|(refine dQ.of (oA n L hL _ ?_ ?_ 1 1000000 ?_ ?_ ?_) [(1000000,1000000)] rfl ⟨lr,lr,lr,trivial⟩ ⟨rr,trivial⟩ rfl rfl ?_;rotate_right;rintro x rout ⟨⟨u6,hk3,hk4,rfl⟩,⟨c,c1,c2,rfl⟩⟩;refine⟨rfl,?_⟩;conv=>whnf)|(refine dQ.of (Cf n L hL _ ?_ ?_ _ ?_) [(1000000,1000000)] rfl ⟨lr,lr,trivial⟩ ⟨rr,trivial⟩ rfl rfl ?_;rotate_right;rintro x rout ⟨⟨f,rfl⟩,⟨c,c1,c2,rfl⟩⟩;refine⟨rfl,?_⟩;conv=>whnf)|(refine dQ.of (EQ n L hL _ ?_ ?_ _ ?_) [(1000000,1000000)] rfl ⟨lr,lr,trivial⟩ ⟨rr,trivial⟩ rfl rfl ?_;rotate_right;rintro x rout ⟨⟨j,hj1,hj2,hj3,rfl⟩,⟨c,c1,c2,rfl⟩⟩;refine⟨rfl,?_⟩;conv=>whnf)|((first|(refine dQ.of (Px n L hL _ (by omega) (by omega) (t+u1) (by omega) (by omega)) [(1000000,1000000),(1000009,1000009)] rfl ⟨lr,lr,trivial⟩ ⟨rr,rr,trivial⟩ rfl rfl ?_;rintro x rout ⟨⟨w,hw,rfl⟩,⟨c5,c51,c52,rfl⟩⟩;refine⟨rfl,?_⟩)|refine And.intro (rfl:aK _=some [DV.int .i64 0]) ?_)<;>conv=>whnf)|(simp only[Nat.beq_refl,cond_true];conv=>whnf)|(rw[m8,cond_true];conv=>whnf)|((first|(refine aa ?_ ?_<;>intro hb<;>try simp only[az]at hb)|refine aq hT 9 vX ?_|omega|refine aA ?_|decide|assumption)<;>conv=>whnf))
 all_goals first
  | (refine⟨(_,_,k+1,_,J9 g u2),?_,?_,af [(1000000,1000000),(1000009,1000009),(5,62),(7,7)] rfl rfl ⟨lr,lr,lr,lr,lr,lr,trivial⟩ ⟨rr,rr,aG (x:=⟨_,_,_,_⟩) rfl,LX (fun s=>(q4 s).1),trivial⟩⟩
     · dsimp only
       refine⟨⟨by omega,by omega,by omega⟩,e6 q1 (Nat.le_refl _) ⟨⟨?_,?_⟩,⟨?_,?_⟩,?_,?_⟩,⟨by omega,by omega⟩,fun s=> ?_⟩
       · first
          |exact hw2
          |exact hw3
       · first
          |exact hw
          |exact Nat.le_trans hw4 (by omega)
       · (try dsimp only);omega
       · (try dsimp only);omega
       · (try dsimp only);omega
       · (try dsimp only);omega
       · have z1:=q4 s;have z2:=q4 u2;show 0≤J9 g u2 s∧J9 g u2 s≤((k+1:Nat):Int);unfold J9;split<;>omega
     · show 30 - (k+1)<30 - k;omega)
  |skip
 refine cd (Nu 83 gl l (by omega) (fun p q hp hq=>N2 p q (q1.2 p hp).2 (q1.2 q hq).2)) [(1000001,5)] ?_;rintro x rout ⟨rfl,e,he,rfl⟩;refine⟨rfl,?_⟩;have he1:=he.1;conv=>whnf
 repeat' (first|((first|(refine aa ?_ ?_<;>intro hb<;>try simp only[az]at hb)|refine aq hT 9 vX ?_|omega|refine aA ?_|decide|assumption)<;>conv=>whnf))
 refine .ret _ ?_;conv=>whnf
 exact⟨[(5,Ds e),(1000000,bp n L b),(1000009,KX)],⟨e,b,⟨by omega,fun p hp=>q1.2 p (he.2 p hp)⟩,⟨by omega,by omega⟩,rfl,rfl⟩,rr,rr,rr,trivial⟩
theorem xe {l:List bv}{k:Nat}(h:dP Fu k l)(hk:k≤2^20):vG l:=
 ⟨by have:=h.1;omega,fun x hx=>by
   obtain⟨⟨h1,h2⟩,h3⟩:=h.2 x hx
   exact⟨⟨by omega,by omega⟩,h3⟩⟩
def oD (s:List UInt8):Bool:=match Lib.atoiAll s with| .ok n=>Lib.itoa n==s|_=>false
def fd (s:List UInt8):Int:=match Lib.atoiAll s with| .ok n=>n| .range=>Lib.atoiSat s|_=>0
def dB (s:List UInt8):Bool:=oD s&&decide ((Lib.trimPrefix s [45]).length≤9)
def FL:List UInt8:= [48,49,50,51,52,53,54,55,56,57]
theorem wc (u:Nat)(h:u<10):FL.contains (UInt8.ofNat (48+u))=true:=by
 have:∀u,u<10→FL.contains (UInt8.ofNat (48+u))=true:=by decide
 exact this u h
theorem fI:∀ (n u:Nat),u<n→Lib.decDigits u≠ []∧∀b ∈ Lib.decDigits u,FL.contains b=true:=by
 intro n
 induction n with
 |zero=>intro u h;omega
 | succ n ih=>
   intro u hu;rw[Lib.decDigits];split
   · rename_i h;exact⟨by simp,fun b hb=>by rw[List.mem_singleton]at hb;subst hb;exact wc u h⟩
   · rename_i h;refine⟨by simp,fun b hb=> ?_⟩;rcases List.mem_append.1 hb with q|q
     · exact(ih (u/10) (by omega)).2 b q
     · rw[List.mem_singleton]at q;subst q;exact wc _ (Nat.mod_lt _ (by decide))
theorem v6 (n:Int):Lib.trimPrefix (Lib.itoa n) [45]=Lib.decDigits n.natAbs:=by
 unfold Lib.itoa;split
 · rename_i h;simp[Lib.trimPrefix,Lib.hasPrefix]
 · rename_i h;have hn:n.toNat=n.natAbs:=by omega
   rw[hn];obtain⟨h1,h2⟩:=fI (n.natAbs+1) n.natAbs (by omega)
   cases hd:Lib.decDigits n.natAbs with
   |nil=>exact absurd hd h1
   | cons b r=>
     have hb:=h2 b (by rw[hd];exact List.mem_cons_self);have hne:b≠45:=fun e=>by subst e;revert hb;decide
     have hne':¬ 45=b:=fun e=>hne e.symm
     simp[Lib.trimPrefix,Lib.hasPrefix,hne']
theorem LG:∀ (k u:Nat),(Lib.decDigits u).length≤k→u<10 ^ k:=by
 intro k
 induction k with
 | zero=>
   intro u h;have:=(fI (u+1) u (by omega)).1
   exact absurd (List.eq_nil_of_length_eq_zero (by omega)) this
 | succ k ih=>
   intro u h;rw[Lib.decDigits]at h;split at h
   · rename_i hu;have:1≤10 ^ k:=Nat.one_le_pow _ _ (by decide);rw[Nat.pow_succ];omega
   · have:=ih (u/10) (by simp at h;omega);rw[Nat.pow_succ];omega
theorem xz {s:List UInt8}(h:dB s=true): -10 ^ 9≤fd s∧fd s≤10 ^ 9:=by
 unfold dB oD at h;rw[Bool.and_eq_true]at h;unfold fd;split at h
 · rename_i n hn;have he:Lib.itoa n=s:=by simpa using h.1
   have h9:=of_decide_eq_true h.2;rw[←he,v6]at h9;have:=LG 9 _ h9;rw[hn];show -10 ^ 9≤n∧n≤10 ^ 9;omega
 · cases h.1
def gY {α:Type}(tk:List UInt8→α→Bool×α):Nat→Nat→List UInt8→α→(Nat×Bool)×α
 |0,at',_,a=>((at',false),a)
 | n +1,at',t,a=>if t= []then((0,true),a)else
    if(Lib.cut t [10]).2.2=false then((at',false),a)else
    if(tk (Lib.cut t [10]).1 a).1=false then((at',false),(tk (Lib.cut t [10]).1 a).2)else gY tk n (at'+1) (Lib.cut t [10]).2.1 (tk (Lib.cut t [10]).1 a).2
theorem Dg {t:List UInt8}(h:(Lib.cut t [10]).2.2=true):(Lib.cut t [10]).1.length+(Lib.cut t [10]).2.1.length+1=t.length:=by
 have hge:=Lib.index_ge t [10];unfold Lib.cut at h ⊢;split at h
 · rename_i h0;rw[if_pos h0];have hr:=Lib.index_room t [10] h0;simp only[List.length_take,List.length_drop,List.length_singleton]at hr ⊢;omega
 · cases h
theorem Hu (t:List UInt8):(Lib.cut t [10]).1.length≤t.length:=by
 unfold Lib.cut;split
 · simp;omega
 · simp
theorem IL {p:Nat→Bool}{n k:Nat}(hk:k<n)(h:p k=true):0≤jP p n:=by
 have hb:=eP (p:=p) (n:=n);rcases Int.lt_or_le (jP p n) 0 with q|q
 · exfalso
   have hn :∀m,jP p m<0→∀j,j<m→p j=false:=by
    intro m
    induction m with
    |zero=>intro _ j hj;omega
    | succ m ih=>
      intro hm j hj;rw[jP]at hm;split at hm
      · rename_i hz
        by_cases hjm:j=m
        · subst hjm;split at hm
          · omega
          · rename_i hf;simpa using hf
        · exact ih (by omega) j (by omega)
      · rename_i hz;have:=(eP (p:=p) (n:=m)).1;omega
   rw[hn n q k hk]at h;cases h
 · exact q
theorem Mf (l:List (List UInt8))(v:List UInt8):decide (0≤jP (fun i=>l.getD i []==v) l.length)=decide (v ∈ l):=by
 rw[decide_eq_decide];constructor
 · intro h;have:=eP (p:=fun i=>l.getD i []==v) (n:=l.length);rw[←eq_of_beq (this.2.2 h)];exact ao (by omega)
 · intro h;obtain⟨j,hj,rfl⟩:=a8 (d:= []) h;exact IL hj (by simp)
theorem Nh (l:List (List UInt8))(hl:l.length≤2^40)(v:List UInt8):ai Tryz.prog 121 [.d (eE l),.d (.str v)] [] (fun x r=>x= .d (.int .i64 (jP (fun i=>l.getD i []==v) l.length))∧r= []):=by
 refine ae hT (C:= []) Tryz.func121 rfl Tryz.call121 rfl rfl rfl ?_;conv=>whnf
 refine ah hT (C:= []) (ι:=Nat) (fun i=>i≤l.length∧∀j,j<i→(l.getD j []==v)=false) (fun i=>aI [(0,.d (eE l)),(1,.d (.str v)),(7,.d (.int .i64 l.length)),(8,.d (.int .i64 i))] []) (fun i=>l.length - i) 0 ⟨by simp,fun j hj=>absurd hj (Nat.not_lt_zero j)⟩ (by exact be []) ?_;rintro i ⟨p1,p2⟩;have e1:(i:Int).toNat=i:=Int.toNat_natCast i;conv=>whnf
 repeat' (first|((first|(refine aa ?_ ?_<;>intro hb<;>try simp only[az]at hb)|omega|refine aA ?_|decide|assumption)<;>conv=>whnf))
 · refine .ret _ ?_;conv=>whnf
   refine⟨[],⟨?_,rfl⟩,trivial⟩;conv=>lhs;whnf
   congr 2
   exact(gd (by omega) p2 (by rw[←hb];simp)).symm
 · exact⟨i+1,⟨by omega,bw p2 (beq_eq_false_iff_ne.2 fun q=>hb q.symm)⟩,by omega,(by exact be [])⟩
 · refine .ret _ ?_;conv=>whnf
   refine⟨[],⟨?_,rfl⟩,trivial⟩;conv=>lhs;whnf
   congr 2
   have:i=l.length:=by omega
   subst this;exact(ew p2).symm
theorem Lw (l:List (List UInt8))(hl:l.length≤2^40)(v:List UInt8):ai Tryz.prog 63 [.d (eE l),.d (.str v)] [] (fun x r=>x= .d (.bool (decide (v ∈ l)))∧r= []):=by
 refine ae hT (C:= []) Tryz.func63 rfl Tryz.call63 rfl rfl rfl ?_;conv=>whnf
 repeat' (first|(refine ac (Nh l hl v) rfl rfl ?_;rotate_right;conv=>whnf)|((first|(refine aa ?_ ?_<;>intro hb<;>try simp only[az]at hb)|omega|refine aA ?_|decide|assumption)<;>conv=>whnf))
 refine .ret _ ?_;conv=>whnf
 refine⟨[],⟨?_,rfl⟩,trivial⟩;conv=>lhs;whnf
 rw[←Mf]
theorem H6 {s:List UInt8}{v:Int}(h:Lib.atoiAll s= .ok v): -9223372036854775808≤v∧v≤9223372036854775807:=by
 unfold Lib.atoiAll at h;split at h
 · cases h
 · simp only at h;split at h
   · cases h
   · cases h
   · split at h
     · cases h
     · split at h
       · cases h
       · cases h;rename_i h1 h2;split
         · rename_i hq;simp[hq]at h2;omega
         · rename_i hq;simp[hq]at h1;omega
theorem JM (s:List UInt8)(hs:s.length≤2^40):ai Tryz.prog 122 [.d (.str s)] kx (fun x r=>x= .tup [.d (.int .i64 (fd s)),.d (.bool (dB s))]∧r=kx):=by
 refine ae hT (C:= []) Tryz.func122 rfl Tryz.call122 rfl rfl rfl ?_;conv=>whnf
 refine cd (M4 s hs) [(1000009,1000009)] ?_;rintro x rout ⟨hx,rfl⟩;unfold xQ at hx
 cases hA:Lib.atoiAll s with
 | ok v=>
   rw[hA]at hx;simp only at hx;subst hx;obtain⟨hv0,hv1⟩:=H6 hA;refine⟨rfl,?_⟩;conv=>whnf
   repeat' (first|(refine ac (LJ s [45]) rfl rfl ?_;rotate_right;conv=>whnf)|((first|refine dm (Fo v hv0 hv1) rfl rfl rfl rfl ?_|(refine aa ?_ ?_<;>intro hb<;>try simp only[az]at hb)|omega|refine aA ?_|decide|assumption)<;>conv=>whnf))
   · refine .ret _ ?_;conv=>whnf
     refine⟨kx,⟨congrArg SV.tup ?_,rfl⟩,rr,trivial⟩;repeat' (refine aN ?_ ?_)
     all_goals (conv=>lhs;whnf)
     all_goals try(with_reducible rfl)
     · unfold fd;rw[hA]
     · unfold dB oD;rw[hA];simp[hb];omega
   · refine .ret _ ?_;conv=>whnf
     refine⟨kx,⟨congrArg SV.tup ?_,rfl⟩,rr,trivial⟩;repeat' (refine aN ?_ ?_)
     all_goals (conv=>lhs;whnf)
     all_goals try(with_reducible rfl)
     · unfold fd;rw[hA]
     · unfold dB oD;rw[hA];simp[hb]
 | range=>
   rw[hA]at hx;simp only at hx;obtain⟨t,p,rfl⟩:=hx;refine⟨rfl,?_⟩;conv=>whnf
   repeat' (first|((first|(refine aa ?_ ?_<;>intro hb<;>try simp only[az]at hb)|omega|refine aA ?_|decide|assumption)<;>conv=>whnf))
   refine .ret _ ?_;conv=>whnf
   refine⟨kx,⟨congrArg SV.tup ?_,rfl⟩,rr,trivial⟩;repeat' (refine aN ?_ ?_)
   all_goals (conv=>lhs;whnf)
   all_goals try(with_reducible rfl)
   · unfold fd;rw[hA]
   · unfold dB oD;rw[hA];rfl
 | _=>
   rw[hA]at hx;simp only at hx;obtain⟨t,p,rfl⟩:=hx;refine⟨rfl,?_⟩;conv=>whnf
   repeat' (first|((first|(refine aa ?_ ?_<;>intro hb<;>try simp only[az]at hb)|omega|refine aA ?_|decide|assumption)<;>conv=>whnf))
   refine .ret _ ?_;conv=>whnf
   refine⟨kx,⟨congrArg SV.tup ?_,rfl⟩,rr,trivial⟩;repeat' (refine aN ?_ ?_)
   all_goals (conv=>lhs;whnf)
   all_goals try(with_reducible rfl)
   · unfold fd;rw[hA]
   · unfold dB oD;rw[hA];rfl
theorem tA (s p:List UInt8)(hp:p≠ []):(Lib.split s p).length≤s.length+1:=by
 have key:∀ (n:Nat) (s:List UInt8),s.length≤n→∀k,(Lib.splitK p 0 k s).length≤s.length+1:=by
  intro n
  induction n with
  | zero=>
    intro s hs k
    cases k with
    |zero=>simp[Lib.splitK]
    | succ k=>
      unfold Lib.splitK;split
      · simp
      · rename_i h;have:=Lib.drop_shorter hp h
        omega
  | succ n ih=>
    intro s hs k
    cases k with
    |zero=>simp[Lib.splitK]
    | succ k=>
      unfold Lib.splitK;split
      · simp
      · rename_i h;have h1:=Lib.drop_shorter hp h;have h2:=ih (s.drop ((Lib.index s p).toNat+p.length)) (by omega) k;simp only[List.length_cons];omega
 exact key s.length s (Nat.le_refl _) _
theorem sD {s p:List UInt8}{x:List UInt8}(h:x ∈ Lib.split s p):x.length≤s.length:=by
 have key:∀ (k:Nat) (s:List UInt8),∀x ∈ Lib.splitK p 0 k s,x.length≤s.length:=by
  intro k
  induction k with
  |zero=>intro s x hx;simp[Lib.splitK]at hx;subst hx;exact Nat.le_refl _
  | succ k ih=>
    intro s x hx;unfold Lib.splitK at hx;split at hx
    · simp at hx;subst hx;exact Nat.le_refl _
    · rcases List.mem_cons.1 hx with q|q
      · subst q;simp;omega
      · have:=ih _ x q;simp at this;omega
 exact key _ s x h
def gf (l:List (List UInt8)):Bool:= !decide ([] ∈ l)
theorem NX (s:List UInt8)(hs:s.length≤2^30):ai Tryz.prog 71 [.d (.str s)] kx (fun x r=>x= .tup [.d (eE (Lib.split s [32])),.d (.bool (gf (Lib.split s [32])))]∧r=kx):=by
 have hl:=tA s [32] (by decide);refine ae hT (C:= []) Tryz.func71 rfl Tryz.call71 rfl rfl rfl ?_;conv=>whnf
 repeat' (first|(refine dm (E1 s [32] (by omega) (by decide)) rfl rfl rfl rfl ?_;conv=>whnf)|(refine ac (Lw (Lib.split s [32]) (by omega) []) rfl rfl ?_;rotate_right;conv=>whnf)|((first|(refine aa ?_ ?_<;>intro hb<;>try simp only[az]at hb)|omega|refine aA ?_|decide|assumption)<;>conv=>whnf))
 refine .ret _ ?_;conv=>whnf
 refine⟨kx,⟨congrArg SV.tup ?_,rfl⟩,rr,trivial⟩;repeat' (refine aN ?_ ?_)
 all_goals (conv=>lhs;whnf)
 all_goals try(with_reducible rfl)
 all_goals rfl
theorem LW (l:List (List UInt8))(hl:l.length≤2^30)(hk:∀x ∈ l,x.length≤2^40):ai Tryz.prog 64 [.d (eE l)] kx (fun x r=>x= .tup [.d (bif l.all dB then gr (l.map fd)else .nilsl),.d (.bool (l.all dB))]∧r=kx):=by
 refine ae hT (C:= []) Tryz.func64 rfl Tryz.call64 rfl rfl rfl ?_;conv=>whnf
 refine ah hT (C:= []) (ι:=Nat) (fun i=>i≤l.length∧∀j,j<i→dB (l.getD j [])=true) (fun i=>aI [(4,.buf 4),(9,.d (eE l)),(10,.d (.int .i64 l.length)),(11,.d (.int .i64 i))] [(1000009,KX),(4,aL 3 1 iF 0 ((l.take i).map fd))]) (fun i=>l.length - i) 0 ⟨by simp,fun j hj=>absurd hj (Nat.not_lt_zero j)⟩ ?_ ?_
 · exact(dc.nil 4 4 3 1 (aW iF 0 []) rfl rfl (by decide)).trans (by exact be [(1000009,1000009),(4,4)])
 rintro i ⟨hi,hp⟩;have hln:((l.take i).map fd).length=i:=by simp;omega
 conv=>whnf
 refine aa (fun hb=> ?_) (fun hb=> ?_)
 · conv=>whnf
   have hlt:i<l.length:=by simpa using hb
   have hx:l.getD i [] ∈ l:=ao hlt;have hc:=JM (l.getD i []) (hk _ hx)
   cases hn:dB (l.getD i [])with
   | true=>
     rw[hn]at hc
     skip
     repeat' (first|((first|refine dm hc rfl rfl rfl rfl ?_|(refine aa ?_ ?_<;>intro hb<;>try simp only[az]at hb)|omega|refine aA ?_|decide|assumption)<;>conv=>whnf))
     have hsn:(l.take (i+1)).map fd=(l.take i).map fd++ [fd (l.getD i [])]:=by
      have:l.take (i+1)=l.take i++ [l.getD i []]:=by rw[List.take_add_one];simp[List.getD_eq_getElem?_getD,hlt]
      rw[this,List.map_append];rfl
     refine⟨i+1,⟨by omega,bw hp hn⟩,by omega,?_⟩;rw[hsn]
     exact(by(refine af [(1000009,1000009),(4,25)] rfl rfl ?_ ?_<;>repeat' (first|exact True.intro|exact lr|exact rr|(exact aG rfl)|exact ap (by omega)|exact a7 _|refine And.intro ?_ ?_));done)
   | false=>
     rw[hn]at hc
     have eJ:l.all dB=false:=by
      rw[Bool.eq_false_iff];intro h;have:=List.all_eq_true.1 h _ hx;rw[hn]at this;cases this
     repeat' (first|((first|refine dm hc rfl rfl rfl rfl ?_|(refine aa ?_ ?_<;>intro hb<;>try simp only[az]at hb)|omega|refine aA ?_|decide|assumption)<;>conv=>whnf))
     rw[eJ];refine .ret _ ?_;conv=>whnf
     refine⟨kx,⟨congrArg SV.tup ?_,rfl⟩,rr,trivial⟩;repeat' (refine aN ?_ ?_)
     all_goals (conv=>lhs;whnf)
     all_goals try(with_reducible rfl)
     all_goals rfl
 · conv=>whnf
   have hi2:i=l.length:=by simp at hb;omega
   subst hi2;rw[List.take_length]
   have eJ:l.all dB=true:=List.all_eq_true.2 fun x hx=>by
    obtain⟨j,hj,rfl⟩:=a8 (d:= []) hx;exact hp j hj
   rw[eJ];repeat' (first|((first|(refine aa ?_ ?_<;>intro hb<;>try simp only[az]at hb)|omega|refine aA ?_|decide|assumption)<;>conv=>whnf))
   refine .freeze _ 4 3 1 _ _ rfl ?_;refine .ret _ ?_;conv=>whnf
   refine⟨kx,⟨congrArg SV.tup ?_,rfl⟩,rr,trivial⟩;repeat' (refine aN ?_ ?_)
   all_goals (conv=>lhs;whnf)
   all_goals try(with_reducible rfl)
   all_goals rfl
end Go.Proofs.YtkokpbpililcdaaGreatDoor
namespace Go.Proofs
open Go.Shelf
def kB:Go.Shelf.Ren:=⟨fun|145=>119|220=>172|219=>220|217=>263|225=>264|224=>265|267=>266|266=>295|314=>296|n=>n,fun|9=>9|4=>4|59=>218|3=>3|5=>5|46=>246|146=>379|51=>307|n=>n,fun|1=>0|n=>n⟩
theorem xx:Go.Proofs.Lays.n145 Tryz.prog kB:={
 mixed:=by kernel_rfl
 f145:=Tryz.func119.trans (congrArg some (by kernel_rfl))
 f217:=Tryz.func263.trans (congrArg some (by kernel_rfl))
 f219:=Tryz.func220.trans (congrArg some (by kernel_rfl))
 f220:=Tryz.func172.trans (congrArg some (by kernel_rfl))
 f224:=Tryz.func265.trans (congrArg some (by kernel_rfl))
 f225:=Tryz.func264.trans (congrArg some (by kernel_rfl))
 f266:=Tryz.func295.trans (congrArg some (by kernel_rfl))
 f267:=Tryz.func266.trans (congrArg some (by kernel_rfl))
 f314:=Tryz.func296.trans (congrArg some (by kernel_rfl))
 t3:=Tryz.underlying3
 a3:=Tryz.isAgg3
 z3:=Tryz.sizeOf3
 v3:=Tryz.zeroValue3
 t4:=Tryz.underlying4
 a4:=Tryz.isAgg4
 z4:=Tryz.sizeOf4
 v4:=Tryz.zeroValue4
 t5:=Tryz.underlying5
 a5:=Tryz.isAgg5
 z5:=Tryz.sizeOf5
 v5:=Tryz.zeroValue5
 t9:=Tryz.underlying9
 a9:=Tryz.isAgg9
 z9:=Tryz.sizeOf9
 v9:=Tryz.zeroValue9
 t46:=Tryz.underlying246
 a46:=Tryz.isAgg246
 z46:=Tryz.sizeOf246
 v46:=Tryz.zeroValue246
 t51:=Tryz.underlying307
 a51:=Tryz.isAgg307
 z51:=Tryz.sizeOf307
 v51:=Tryz.zeroValue307
 t59:=Tryz.underlying218
 a59:=Tryz.isAgg218
 z59:=Tryz.sizeOf218
 v59:=Tryz.zeroValue218
 t146:=Tryz.underlying379
 a146:=Tryz.isAgg379
 z146:=Tryz.sizeOf379
 v146:=Tryz.zeroValue379
 g1:=by kernel_rfl}
def gA:Go.Shelf.Ren:=⟨fun|147=>62|221=>120|268=>173|138=>174|143=>175|195=>221|197=>222|218=>223|219=>220|260=>267|217=>263|225=>264|224=>265|267=>266|266=>295|314=>296|n=>n,fun|9=>9|3=>3|31=>68|4=>4|0=>0|105=>318|21=>21|5=>5|46=>246|119=>381|139=>384|138=>383|146=>379|51=>307|n=>n,fun|1=>0|3=>2|4=>3|n=>n⟩
theorem wI:Go.Proofs.Lays.n147 Tryz.prog gA:={
 mixed:=by kernel_rfl
 f138:=Tryz.func174.trans (congrArg some (by kernel_rfl))
 f143:=Tryz.func175.trans (congrArg some (by kernel_rfl))
 f147:=Tryz.func62.trans (congrArg some (by kernel_rfl))
 f195:=Tryz.func221.trans (congrArg some (by kernel_rfl))
 f197:=Tryz.func222.trans (congrArg some (by kernel_rfl))
 f217:=Tryz.func263.trans (congrArg some (by kernel_rfl))
 f218:=Tryz.func223.trans (congrArg some (by kernel_rfl))
 f219:=Tryz.func220.trans (congrArg some (by kernel_rfl))
 f221:=Tryz.func120.trans (congrArg some (by kernel_rfl))
 f224:=Tryz.func265.trans (congrArg some (by kernel_rfl))
 f225:=Tryz.func264.trans (congrArg some (by kernel_rfl))
 f260:=Tryz.func267.trans (congrArg some (by kernel_rfl))
 f266:=Tryz.func295.trans (congrArg some (by kernel_rfl))
 f267:=Tryz.func266.trans (congrArg some (by kernel_rfl))
 f268:=Tryz.func173.trans (congrArg some (by kernel_rfl))
 f314:=Tryz.func296.trans (congrArg some (by kernel_rfl))
 t0:=Tryz.underlying0
 a0:=Tryz.isAgg0
 z0:=Tryz.sizeOf0
 v0:=Tryz.zeroValue0
 t3:=Tryz.underlying3
 a3:=Tryz.isAgg3
 z3:=Tryz.sizeOf3
 v3:=Tryz.zeroValue3
 t4:=Tryz.underlying4
 a4:=Tryz.isAgg4
 z4:=Tryz.sizeOf4
 v4:=Tryz.zeroValue4
 t5:=Tryz.underlying5
 a5:=Tryz.isAgg5
 z5:=Tryz.sizeOf5
 v5:=Tryz.zeroValue5
 t9:=Tryz.underlying9
 a9:=Tryz.isAgg9
 z9:=Tryz.sizeOf9
 v9:=Tryz.zeroValue9
 t21:=Tryz.underlying21
 a21:=Tryz.isAgg21
 z21:=Tryz.sizeOf21
 v21:=Tryz.zeroValue21
 t31:=Tryz.underlying68
 a31:=Tryz.isAgg68
 z31:=Tryz.sizeOf68
 v31:=Tryz.zeroValue68
 t46:=Tryz.underlying246
 a46:=Tryz.isAgg246
 z46:=Tryz.sizeOf246
 v46:=Tryz.zeroValue246
 t51:=Tryz.underlying307
 a51:=Tryz.isAgg307
 z51:=Tryz.sizeOf307
 v51:=Tryz.zeroValue307
 t105:=Tryz.underlying318
 a105:=Tryz.isAgg318
 z105:=Tryz.sizeOf318
 v105:=Tryz.zeroValue318
 t119:=Tryz.underlying381
 a119:=Tryz.isAgg381
 z119:=Tryz.sizeOf381
 t138:=Tryz.underlying383
 a138:=Tryz.isAgg383
 z138:=Tryz.sizeOf383
 v138:=Tryz.zeroValue383
 t139:=Tryz.underlying384
 a139:=Tryz.isAgg384
 z139:=Tryz.sizeOf384
 v139:=Tryz.zeroValue384
 t146:=Tryz.underlying379
 a146:=Tryz.isAgg379
 z146:=Tryz.sizeOf379
 v146:=Tryz.zeroValue379
 g1:=by kernel_rfl
 g3:=by kernel_rfl
 g4:=by kernel_rfl}
def dz:Go.Shelf.Ren:=⟨fun|156=>118|165=>171|166=>56|169=>59|240=>116|241=>219|276=>169|277=>262|n=>n,fun|31=>68|9=>9|3=>3|4=>4|0=>0|20=>20|72=>144|76=>147|70=>141|37=>142|75=>146|127=>217|164=>268|5=>5|80=>151|n=>n,fun|n=>n⟩
theorem iL:Go.Proofs.Lays.n156 Tryz.prog dz:={
 mixed:=by kernel_rfl
 f156:=Tryz.func118.trans (congrArg some (by kernel_rfl))
 f165:=Tryz.func171.trans (congrArg some (by kernel_rfl))
 f166:=Tryz.func56.trans (congrArg some (by kernel_rfl))
 f169:=Tryz.func59.trans (congrArg some (by kernel_rfl))
 f240:=Tryz.func116.trans (congrArg some (by kernel_rfl))
 f241:=Tryz.func219.trans (congrArg some (by kernel_rfl))
 f276:=Tryz.func169.trans (congrArg some (by kernel_rfl))
 f277:=Tryz.func262.trans (congrArg some (by kernel_rfl))
 t0:=Tryz.underlying0
 a0:=Tryz.isAgg0
 z0:=Tryz.sizeOf0
 v0:=Tryz.zeroValue0
 t3:=Tryz.underlying3
 a3:=Tryz.isAgg3
 z3:=Tryz.sizeOf3
 v3:=Tryz.zeroValue3
 t4:=Tryz.underlying4
 a4:=Tryz.isAgg4
 z4:=Tryz.sizeOf4
 v4:=Tryz.zeroValue4
 t9:=Tryz.underlying9
 a9:=Tryz.isAgg9
 z9:=Tryz.sizeOf9
 v9:=Tryz.zeroValue9
 t20:=Tryz.underlying20
 a20:=Tryz.isAgg20
 z20:=Tryz.sizeOf20
 v20:=Tryz.zeroValue20
 t31:=Tryz.underlying68
 a31:=Tryz.isAgg68
 z31:=Tryz.sizeOf68
 v31:=Tryz.zeroValue68
 t37:=Tryz.underlying142
 a37:=Tryz.isAgg142
 z37:=Tryz.sizeOf142
 v37:=Tryz.zeroValue142
 t70:=Tryz.underlying141
 a70:=Tryz.isAgg141
 z70:=Tryz.sizeOf141
 v70:=Tryz.zeroValue141
 t72:=Tryz.underlying144
 a72:=Tryz.isAgg144
 z72:=Tryz.sizeOf144
 v72:=Tryz.zeroValue144
 t75:=Tryz.underlying146
 a75:=Tryz.isAgg146
 z75:=Tryz.sizeOf146
 v75:=Tryz.zeroValue146
 t76:=Tryz.underlying147
 a76:=Tryz.isAgg147
 z76:=Tryz.sizeOf147
 v76:=Tryz.zeroValue147
 t127:=Tryz.underlying217
 a127:=Tryz.isAgg217
 z127:=Tryz.sizeOf217
 v127:=Tryz.zeroValue217
 t164:=Tryz.underlying268
 a164:=Tryz.isAgg268
 z164:=Tryz.sizeOf268
 v164:=Tryz.zeroValue268}
def e7:Go.Shelf.Ren:=⟨fun|169=>59|n=>n,fun|70=>141|9=>9|0=>0|72=>144|37=>142|127=>217|3=>3|5=>5|n=>n,fun|n=>n⟩
theorem gj:Go.Proofs.Lays.n169 Tryz.prog e7:={
 mixed:=by kernel_rfl
 f169:=Tryz.func59.trans (congrArg some (by kernel_rfl))
 t0:=Tryz.underlying0
 a0:=Tryz.isAgg0
 z0:=Tryz.sizeOf0
 v0:=Tryz.zeroValue0
 t3:=Tryz.underlying3
 a3:=Tryz.isAgg3
 z3:=Tryz.sizeOf3
 v3:=Tryz.zeroValue3
 t9:=Tryz.underlying9
 a9:=Tryz.isAgg9
 z9:=Tryz.sizeOf9
 v9:=Tryz.zeroValue9
 t37:=Tryz.underlying142
 a37:=Tryz.isAgg142
 z37:=Tryz.sizeOf142
 v37:=Tryz.zeroValue142
 t70:=Tryz.underlying141
 a70:=Tryz.isAgg141
 z70:=Tryz.sizeOf141
 v70:=Tryz.zeroValue141
 t72:=Tryz.underlying144
 a72:=Tryz.isAgg144
 z72:=Tryz.sizeOf144
 v72:=Tryz.zeroValue144
 t127:=Tryz.underlying217
 a127:=Tryz.isAgg217
 z127:=Tryz.sizeOf217
 v127:=Tryz.zeroValue217}
end Go.Proofs
set_option maxRecDepth 20000
namespace Go.Proofs.YtkokpbpililcdaaGreatDoor
open Go Go.Eng Go.Shelf Go.RowKit
theorem LV (s p:List UInt8)(hl:s.length≤2^31):ai Tryz.prog 119 [.d (.str s),.d (.str p)] kx (fun x r=>x= .tup [.d (.str (Lib.cut s p).1),.d (.str (Lib.cut s p).2.1),.d (.bool (Lib.cut s p).2.2)]∧r=kx):=by
 refine pu Tryz.call119 (fun G β w vs hq hg hvl hd=> ?_)
 match vs,hvl with
 | [u,v],_=>
   have h0:=hd 0 _ u rfl rfl;have h1:=hd 1 _ v rfl rfl
   cases h0 with|d _ _ h0=>cases h0 with|str _=>
   cases h1 with|d _ _ h1=>cases h1 with|str _=>
   obtain⟨_,⟨m,c0⟩,_⟩:=hq w hg;refine⟨.tuple #[.string ⟨(Lib.cut s p).1.toArray⟩,.string ⟨(Lib.cut s p).2.1.toArray⟩,.bool (Lib.cut s p).2.2],fun _ _=>Hs (.d _ _ (.str _)) (.d _ _ (.str _)) (.d _ _ (.bool _)),?_⟩;have hcon:=Any.strings_Cut xx ⟨s.toArray⟩ ⟨p.toArray⟩ m w (by rw[HI];omega) c0;have e:kB.f 145=119:=rfl;rw[e]at hcon;refine hcon.mono ?_;rintro e' w' ⟨rfl,n,rfl⟩;exact⟨rfl,zE n⟩
abbrev fT (ct d:Nat):aY:=.cells ct [.buf d]
def GR {α:Type}(g ct e k:Nat)(F:α→List DV)(d:α)(tk:List UInt8→List α→Bool×List α):Prop:=
 (∀line l,(tk line l).2.length≤l.length+1)∧∀line l,line.length≤2^20→l.length≤2^21→
   ai Tryz.prog g [.d (.str line),.ptr 1000005 0] [(1000009,KX),(1000005,fT ct 1000003),(1000003,aL e k F d l)] (fun x r=>x= .d (.bool (tk line l).1)∧r= [(1000009,KX),(1000005,fT ct 46),(46,aL e k F d (tk line l).2)])
theorem N0 {α:Type}{g ct e k:Nat}{F:α→List DV}{d:α}{tk:List UInt8→List α→Bool×List α}(hg:GR g ct e k F d tk)(text:List UInt8)(ht:text.length≤2^20)(l0:List α)(hl0:l0.length≤2^20):
 ai Tryz.prog 60 [.d (.str text),.fn g [.ptr 1000005 0]] [(1000009,KX),(1000005,fT ct 1000003),(1000003,aL e k F d l0)] (fun x r=>x= .tup [.d (.int .i64 (gY tk (text.length+1) 0 text l0).1.1),.d (.bool (gY tk (text.length+1) 0 text l0).1.2)]∧
  r= [(1000009,KX),(1000005,fT ct 40),(40,aL e k F d (gY tk (text.length+1) 0 text l0).2)]):=by
 generalize hR:gY tk (text.length+1) 0 text l0=R;refine ae hT (C:= []) Tryz.func60 rfl Tryz.call60 rfl rfl rfl ?_;conv=>whnf
 refine ah hT (C:= []) (ι:=Nat×Nat×List UInt8×List α) (fun(n,a,t,l)=>(gY tk n a t l=R∧t.length<n)∧t.length+a≤text.length∧l.length≤l0.length+a)
  (fun(n,a,t,l)=>aI [(0,.d (.str t)),(1,.fn g [.ptr 1000005 0]),(6,.d (.int .i64 a))] [(1000009,KX),(1000005,fT ct 40),(40,aL e k F d l)])
  (fun(n,_,_,_)=>n) (text.length+1,0,text,l0) ⟨⟨hR,Nat.lt_succ_self _⟩,Nat.le_refl _,by simp⟩ (by exact be [(1000009,1000009),(1000005,1000005),(40,1000003)]) ?_
 rintro⟨n,a,t,l⟩ ⟨⟨h1,h2⟩,h3,h4⟩;obtain⟨m,rfl⟩:∃m,n=m+1:=⟨n - 1,by omega⟩;have hcl:=Hu t;have htl:(tk (Lib.cut t [10]).1 l).2.length≤l.length+1:=hg.1 _ _;have hc:=hg.2 (Lib.cut t [10]).1 l (by omega) (by omega);conv=>whnf
 repeat' (first|((first|refine dm (LV t [10] (by omega)) rfl rfl rfl rfl ?_|(refine cd hc [(1000009,1000009),(1000005,1000005),(1000003,40),(46,41)] ?_;rintro x rout ⟨rfl,rfl⟩;refine⟨rfl,?_⟩)|(refine aa ?_ ?_<;>intro hb<;>try simp only[az]at hb)|omega|refine aA ?_|decide|assumption)<;>conv=>whnf))
 · rename_i hb0;obtain rfl:R=((a,false),l):=by rw[←h1];simp[gY,hb0,hb]
   refine .ret _ ?_;conv=>whnf
   refine⟨[(1000009,KX),(1000005,fT ct 40),(40,aL e k F d l)],⟨congrArg SV.tup ?_,rfl⟩,rr,rr,rr,trivial⟩;repeat' (refine aN ?_ ?_)
   all_goals (conv=>lhs;whnf)
   all_goals rfl
 · rename_i hb0 hb1;obtain rfl:R=((a,false),(tk (Lib.cut t [10]).1 l).2):=by rw[←h1];simp[gY,hb0,hb1,hb]
   refine .ent _ (aI [(4,.d (.int .i64 a)),(5,.d (.bool false))] [(1000009,KX),(1000005,fT ct 40),(40,aL e k F d (tk (Lib.cut t [10]).1 l).2)]) (by exact be [(1000009,1000009),(1000005,1000005),(40,41)]) ?_;refine .ret _ ?_;conv=>whnf
   refine⟨[(1000009,KX),(1000005,fT ct 40),(40,aL e k F d (tk (Lib.cut t [10]).1 l).2)],⟨congrArg SV.tup ?_,rfl⟩,rr,rr,rr,trivial⟩;repeat' (refine aN ?_ ?_)
   all_goals (conv=>lhs;whnf)
   all_goals rfl
 · rename_i hb0 hb1;have hlen:=Dg hb1;refine⟨(m,a+1,(Lib.cut t [10]).2.1,(tk (Lib.cut t [10]).1 l).2),⟨⟨by rw[←h1];simp[gY,hb0,hb1,hb],by omega⟩,by omega,by omega⟩,Nat.lt_succ_self m,(by exact be [(1000009,1000009),(1000005,1000005),(40,41)])⟩
 · obtain rfl:R=((0,true),l):=by rw[←h1];simp[gY,hb]
   refine .ret _ ?_;conv=>whnf
   refine⟨[(1000009,KX),(1000005,fT ct 40),(40,aL e k F d l)],⟨congrArg SV.tup ?_,rfl⟩,rr,rr,rr,trivial⟩;repeat' (refine aN ?_ ?_)
   all_goals (conv=>lhs;whnf)
   all_goals rfl
end Go.Proofs.YtkokpbpililcdaaGreatDoor
set_option maxRecDepth 100000
namespace Go.Proofs
open Go.Shelf Go.RowKit
variable {P:Program} {ρ:Ren}
set_option maxHeartbeats 1000000 in
theorem DR (L:Lays.n169 P ρ)(X:Builder.Extra P ρ)(b g cap:Nat)(p:Value)(cur:Array Value)(l:List UInt8)(w:World)(h0:l≠ [])(hbk:w.heap[b]? =some (.cells #[p,.slice (some ⟨g,0,none⟩) l.length cap] (ρ.t 72) (0,0)))
 (hg:w.heap[g]? =some (.cells cur (ρ.t 5) (0,0)))(hnc:l.length≤cap)(hcm:cap≤maxLen)(hcs:cur.size=cap*1)(lD:∀j x,l[j]? =some x→w.drew.cell? ((⟨g,0,none⟩:Addr).add j)=some (.int .u8 x.toNat)):
 Calls P (ρ.f 169) #[.pointer (some ⟨b,0,none⟩)] w fun e w' =>e= .returned (.string ⟨l.toArray⟩)∧w.grownBy w' (some g):=by
 have hl0:l.length≠0:=by simpa using h0
 have c1:w.drew.cell? ⟨b,1,none⟩=some (.slice (some ⟨g,0,none⟩) l.length cap):=by
  have:w.drew.heap[b]? =some (.cells #[p,.slice (some ⟨g,0,none⟩) l.length cap] (ρ.t 72) (0,0)):=hbk;rw[Lib.cell_of_heap this];rfl
 have hSD:(Builtin.unsafeSliceData_ #[(ρ.t 37)] (ρ.t 127) #[.slice (some ⟨g,0,none⟩) l.length cap]).run P w.drew= .ok (.pointer (some ⟨g,0,none⟩)) w.drew:=
  Lib.run_unsafeSliceData_row _ _ _ _ _ _ (by omega)
 have hUS:(Builtin.unsafeString_ #[(ρ.t 127),(ρ.t 3)] (ρ.t 9) #[.pointer (some ⟨g,0,none⟩),.int .i64 l.length]).run P w.drew= .ok (.string ⟨l.toArray⟩) (w.drew.freeze ⟨g,0,none⟩ l.length):=
  Lib.run_unsafeString_row w.drew (ρ.t 127) (ρ.t 3) (ρ.t 9) (ρ.t 5) L.t127 X.cellsByte g cur.size (by have hg':w.drew.heap[g]? =some (.cells cur (ρ.t 5) (0,0)):=hg;simp[World.shape?,hg']) l h0 (by omega) (by unfold maxLen at hcm;omega) lD
 have hgr:w.grownBy (w.drew.freeze ⟨g,0,none⟩ l.length) (some g):=by
  unfold World.freeze;rw[if_neg hl0]
  exact⟨rfl,rfl,rfl,by show w.heap.size≤(Array.modify _ _ _).size;rw[Array.size_modify];exact Nat.le_refl _,fun k _ hk=>by
   simp only[Array.getElem?_modify]
   rw[if_neg (fun e=>hk (by rw[←e]))];rfl⟩
 clear lD hcs hcm hnc hg;have mixed:=L.mixed;have t72:=L.t72;have a72:=L.a72;have z72:=L.z72;have v72:=L.v72;have u72:=run_underlying L.t72;have t70:=L.t70;have a70:=L.a70;have z70:=L.z70;have v70:=L.v70;have u70:=run_underlying L.t70;have t37:=L.t37;have a37:=L.a37;have z37:=L.z37;have v37:=L.v37;have u37:=run_underlying L.t37;have t127:=L.t127;have a127:=L.a127;have z127:=L.z127;have v127:=L.v127;have u127:=run_underlying L.t127;have t3:=L.t3;have a3:=L.a3;have z3:=L.z3;have v3:=L.v3;have u3:=run_underlying L.t3;have t9:=L.t9;have a9:=L.a9;have z9:=L.z9;have v9:=L.v9;have u9:=run_underlying L.t9;have t5:=X.t5;have a5:=X.a5;have z5:=X.z5;have v5:=X.v5;have u5:=run_underlying X.t5
 go_enter L.f169,Body.n169_ntmps ρ
 go_wp2
 go_region_o
 all_goals (go_wp2;go_ret;exact⟨rfl,hgr⟩)
end Go.Proofs
namespace Go.Proofs.YtkokpbpililcdaaGreatDoor
open Go Go.Eng Go.Shelf Go.RowKit
theorem sM:Builder.Extra Tryz.prog dz:={sizeBuilder:=by kernel_rfl,liesBuilder:=by kernel_rfl,t5:=Tryz.underlying5,a5:=Tryz.isAgg5,z5:=Tryz.sizeOf5,v5:=Tryz.zeroValue5,infoByte:=by kernel_rfl,cellsByte:=by kernel_rfl,sizeByte:=by kernel_rfl,neB5:=by decide}
theorem sS:Builder.Extra Tryz.prog e7:={sizeBuilder:=by kernel_rfl,liesBuilder:=by kernel_rfl,t5:=Tryz.underlying5,a5:=Tryz.isAgg5,z5:=Tryz.sizeOf5,v5:=Tryz.zeroValue5,infoByte:=by kernel_rfl,cellsByte:=by kernel_rfl,sizeByte:=by kernel_rfl,neB5:=by decide}
theorem CJ:Lays.n240 Tryz.prog dz:={iL with}
theorem Ng (l:List (List UInt8))(sep:List UInt8)(hl:(Lib.join l sep).length≤2^40)(hn:l.length≤2^40):ai Tryz.prog 118 [.d (eE l),.d (.str sep)] [] (fun x r=>x= .d (.str (Lib.join l sep))∧r= []):=by
 refine gV Tryz.call118 (fun G β w vs hg hvl hd=> ?_)
 match vs,hvl with
 | [u, v], _=>
   have h0:=hd 0 _ u rfl rfl;have h1:=hd 1 _ v rfl rfl
   cases h1 with|d _ _ h1=>cases h1 with|str _=>
   refine⟨.string ⟨(Lib.join l sep).toArray⟩,fun _ _=>.d _ _ (.str _),?_⟩;have e:dz.f 156=118:=rfl
   match l,hl,hn,h0 with
   | [],_,_,h0=>
     cases h0 with|d _ _ h0=>
     obtain⟨a,c,rfl⟩:∃a c,u= .slice a 0 c:=by
      unfold eE dC at h0;generalize hz:([]:List (List UInt8)).length=z at h0;have hz:z=0:=hz.symm;subst hz
      cases h0 with
      |ronil=>exact⟨_,_,rfl⟩
      |ro _ _ _ a cap=>exact⟨_,_,rfl⟩
     have hcon:=Any.strings_Join_none iL sM a c ⟨sep.toArray⟩ w;rw[e]at hcon;refine hcon.mono ?_;rintro e' w' ⟨rfl,rfl⟩
     exact⟨by rw[Lib.join_nil],Below.refl _ _⟩
   | x ::r,hl,hn,h0=>
     cases h0 with|d _ _ h0=>
     unfold eE dC at h0;generalize hz:(x::r).length=z at h0
     cases h0 with
     |ronil=>simp at hz
     | ro _ _ _ a cap vals hs hcap hmax hl2 hc hd2=>
       obtain⟨bk,o,sp⟩:=a;simp only at hs;subst hs
       have lD:∀ (j:Nat) y,(x::r)[j]? =some y→w.cell? ⟨bk,o+j,none⟩=some (.string ⟨y.toArray⟩):=by
        intro j y hy;have hj:j<z:=by rw[←hz];exact(List.getElem?_eq_some_iff.1 hy).1
        have hx:(aW sF [] (x::r) j)[0]? =some (DV.str y):=by simp[aW,sF,List.getD_eq_getElem?_getD,hy]
        obtain⟨cs,e',fr,q1,q2,q3⟩:=hc j 0 _ hj hx;have q4:=hd2 j 0 _ hj hx;generalize vals j 0=vv at q3 q4
        cases q4 with|str=>
        rw[Eng.Addr.add_block]at q1;have:=hg _ _ q1;rw[Addr.add_lit]at q3;simp only[Nat.mul_one,Nat.add_zero]at q3;simp only at this;simp[World.cell?,this,q3]
       have hbk:bk<w.heap.size:=by
        have hx:(aW sF [] (x::r) 0)[0]? =some (DV.str x):=by simp[aW,sF]
        obtain⟨cs,e',fr,q1,_,_⟩:=hc 0 0 _ (by rw[←hz];simp) hx;rw[Eng.Addr.add_block]at q1;exact(Array.getElem?_eq_some_iff.1 (hg _ _ q1)).1
       cases r with
       | nil=>
         have hz:z=1:=hz.symm;subst hz;have hcon:=Any.strings_Join_one iL sM bk o cap ⟨x.toArray⟩ ⟨sep.toArray⟩ w (by simpa using lD 0 x rfl);rw[e]at hcon;refine hcon.mono ?_;rintro e' w' ⟨rfl,rfl⟩
         exact⟨by rw[Lib.join_one],Below.refl _ _⟩
       | cons y r=>
         have hmm:((x::y::r).map fun z:List UInt8=>(⟨z.toArray⟩:ByteArray)).map (·.data.toList)=x::y::r:=by rw[List.map_map];simp[Function.comp_def]
         have hln:((x::y::r).map fun z:List UInt8=>(⟨z.toArray⟩:ByteArray)).length=z:=by rw[List.length_map];exact hz
         have hcon:=Any.strings_Join_many iL sM bk o cap ((x::y::r).map fun z=>⟨z.toArray⟩) ⟨sep.toArray⟩ w (fun j q hq=>by
          rw[List.getElem?_map]at hq
          cases hy:(x::y::r)[j]? with
          |none=>rw[hy]at hq;cases hq
          |some t=>rw[hy]at hq;cases hq;exact lD j t hy) hbk (by simp) (by rw[List.length_map];omega) (by rw[hln];exact hcap) (by rw[hmm];simpa using Nat.le_trans hl (by decide))
         rw[e,hmm,hln]at hcon;exact hcon
theorem ai.same {f:FuncId}{args:List SV}{rin:List (Nat×aY)}{y:SV}(henter:∀args w,(callFunc f args).run Tryz.prog w= .ok (.enter f args) w)
 (h:∀ (G:Hp) (β:eZ) (w:World) (vs:List Value),Mw G β w (aC rin)→vs.length=args.length→(∀ (i:Nat) x v,args[i]? =some x→vs[i]? =some v→am G β x v)→
   ∃u,am G β y u∧Calls Tryz.prog f vs.toArray w fun e w' =>e= .returned u∧w' =w):ai Tryz.prog f args rin (fun x r=>x=y∧r=rin):=by
 refine⟨henter,fun G β w vs hpre hl hd=> ?_⟩;obtain⟨u,hu,hc⟩:=h G β w vs hpre hl hd;refine hc.mono ?_;rintro e w' ⟨rfl,rfl⟩;exact⟨u,y,_,G,β,rfl,⟨rfl,rfl⟩,⟨Hp.le_refl G,eZ.le_refl β,hpre.gw,fun b o e=>.inl e,KO.refl _ _,hpre.rs,hpre.dj,fun d r v b h1 h2 h3 h4=>⟨hpre.og d r v b h1 h2 h3 h4,.inl ⟨d,r,v,h1,h2,h3,h4⟩⟩⟩,hu⟩
def y9:aY:=.cells 144 [.d (.opq (.pointer none)),.d .nilsl]
def xR (d:Nat):aY:=.cells 144 [.ptr 1000001 0,.buf d]
theorem Mj (e k n:Nat)(g:Nat→List DV):ai Tryz.prog 116 [.ptr 1000001 0] [(1000001,xR 1000002),(1000002,.buf e k n g)] (fun x r=>x= .tup []∧r= [(1000001,xR 1000002),(1000002,.buf e k n g)]):=by
 refine ai.same Tryz.call116 (fun G β w vs hpre hvl hd=> ?_)
 match vs,hvl with
 | [u],_=>
   have h0:=hd 0 _ u rfl rfl
   cases h0 with|ptr _ _ b hb=>
   obtain⟨b',cs,hb',hh,hlen,hden⟩:=hpre.rs 1000001 (xR 1000002) (by simp[aC]);rw[hb]at hb';cases hb'
   match cs,hlen with
   | [c0,c1],_=>
     have q:=hden 0 _ c0 rfl rfl
     cases q with|ptr _ _ b2 hb2=>
     rw[hb]at hb2;cases hb2;have hcon:=Any.Builder_copyCheck_used CJ sM.toX72 b w (by simp[World.cell?,hh]);have e:dz.f 240=116:=rfl;rw[e]at hcon;exact⟨.tuple #[],.tup [] [] rfl (by simp),hcon⟩
theorem Ko:ai Tryz.prog 116 [.ptr 1000001 0] [(1000001,y9)] (fun x r=>x= .tup []∧r= [(1000001,.cells 144 [.ptr 1000001 0,.d .nilsl])]):=by
 refine⟨Tryz.call116,fun G β w vs hpre hvl hd=> ?_⟩
 match vs,hvl with
 | [u],_=>
   have h0:=hd 0 _ u rfl rfl
   cases h0 with|ptr _ _ b hb=>
   have hR:aC [((1000001:Nat),y9)] 1000001=some y9:=by simp[aC]
   have one:∀ {r0:aY} d r,aC [((1000001:Nat),r0)] d=some r→d=1000001∧r=r0:=by
    intro r0 d r hr;simp only[aC]at hr
    cases hq:Nat.beq d 1000001 with
    |false=>rw[hq]at hr;cases hr
    |true=>rw[hq]at hr;cases hr;exact⟨Nat.eq_of_beq_eq_true hq,rfl⟩
   obtain⟨b',cs,hb',hh,hlen,hden⟩:=hpre.rs 1000001 y9 hR;rw[hb]at hb';cases hb'
   match cs,hlen with
   | [c0,c1],_=>
     have q0:=hden 0 _ c0 rfl rfl;have q1:=hden 1 _ c1 rfl rfl
     cases q0 with|d _ _ q0=>cases q0 with|opq _ _=>
     cases q1 with|d _ _ q1=>cases q1 with|nilsl=>
     have hcon:=Any.Builder_copyCheck_fresh CJ sM.toX72 b w (by simp[World.cell?,hh]) (by simp[World.shape?,hh];rfl) (by simp[World.frozen?,hh]);have e:dz.f 240=116:=rfl;rw[e]at hcon;refine hcon.mono ?_;rintro e' w' ⟨rfl,rfl⟩;have hTin:Ez w β (aC [((1000001:Nat),y9)]) b:=⟨1000001,_,_,hR,rfl,hb,.of rfl⟩;have hGb:G b=none:=hpre.og _ _ _ b hR rfl hb (.of rfl);have hother:∀k,k≠b→(w.setCell ⟨b,0,none⟩ (.pointer (some ⟨b,0,none⟩))).heap[k]? =w.heap[k]? :=fun k hk=>Below.heap_setCell w ⟨b,0,none⟩ _ k hk
     have hnew:(w.setCell ⟨b,0,none⟩ (.pointer (some ⟨b,0,none⟩))).heap[b]? =some (.cells #[.pointer (some ⟨b,0,none⟩),.slice none 0 0] 144 (0,0)):=by
      simp[World.setCell,Array.getElem?_modify,hh]
     refine⟨_,.tup [],_,G,β,rfl,⟨rfl,rfl⟩,⟨Hp.le_refl G,eZ.le_refl β,fun k o hk=> ?_,fun k o hk=>.inl hk,⟨rfl,rfl,rfl,by simp[World.setCell],fun k _ hT=>hother k (fun q=>by subst q;exact hT hTin)⟩,fun d r hr=> ?_,fun d d' r r' _ _ _ e1 e2 _ _ _ _ _ _=> ?_,fun d r u k e1 _ hu hbk=> ?_⟩,.tup [] [] rfl (by simp)⟩
     · rw[hother k (fun q=>by subst q;rw[hGb]at hk;cases hk)];exact hpre.gw k o hk
     · obtain⟨rfl,rfl⟩:=one d r hr;refine⟨b,[.pointer (some ⟨b,0,none⟩),.slice none 0 0],hb,by simpa using hnew,rfl,fun i x v hx hv=> ?_⟩
       match i,hx,hv with
       |0,hx,hv=>simp at hx hv;subst hx;subst hv;exact .ptr _ _ _ hb
       |1,hx,hv=>simp at hx hv;subst hx;subst hv;exact .d _ _ .nilsl
     · rw[(one d r e1).1,(one d' r' e2).1]
     · obtain⟨rfl,rfl⟩:=one d r e1;rw[hb]at hu;cases hu;cases hbk.plain rfl;exact⟨hGb,.inl hTin⟩
end Go.Proofs.YtkokpbpililcdaaGreatDoor
set_option maxRecDepth 20000
namespace Go.Proofs.YtkokpbpililcdaaGreatDoor
open Go Go.Eng Go.Shelf Go.RowKit
def mj (bs:List UInt8):aY:=.buf 5 1 bs.length fun i=>qU (bs.getD i 0)
theorem D3 {bs s:List UInt8}:aY.le (.buf 5 1 (bs.length+s.length) (eS bs.length (fun i=>qU (bs.getD i 0)) fun i=>qU (s.getD i 0))) (mj (bs++s)):=by
 refine ek (by simp) (fun i hi=> ?_);rcases Nat.lt_or_ge i bs.length with q|q
 · rw[iO q];simp[List.getD_eq_getElem?_getD,List.getElem?_append_left q]
 · rw[fQ q];simp[List.getD_eq_getElem?_getD,List.getElem?_append_right q]
theorem En {s:List UInt8}:aY.le (.buf 5 1 (0+s.length) fun i=>qU (s.getD i 0)) (mj s):=ek (by simp) (fun i hi=>rfl)
theorem JR:ai Tryz.prog 59 [.ptr 1000001 0] [(1000001,y9)] (fun x r=>x= .d (.str [])∧r= []):=by
 refine⟨Tryz.call59,fun G β w vs hpre hvl hd=> ?_⟩
 match vs,hvl with
 | [u],_=>
   have h0:=hd 0 _ u rfl rfl
   cases h0 with|ptr _ _ b hb=>
   obtain⟨b',cs,hb',hh,hlen,hden⟩:=hpre.rs 1000001 y9 (by simp[aC]);rw[hb]at hb';cases hb'
   match cs,hlen with
   | [c0,c1],_=>
     have q0:=hden 0 _ c0 rfl rfl;have q1:=hden 1 _ c1 rfl rfl
     cases q0 with|d _ _ q0=>cases q0 with|opq _ _=>
     cases q1 with|d _ _ q1=>cases q1 with|nilsl=>
     have hcon:=Any.Builder_String_nil gj sS w.heap.size b (.pointer none) w (show w.heap[b]? =some (.cells #[.pointer none,.slice none 0 0] 144 (0,0))from by simpa using hh);have e:e7.f 169=59:=rfl;rw[e]at hcon;refine hcon.mono ?_;rintro e' w' ⟨rfl,hb2⟩;refine⟨_,.d (.str []),[],G,β,rfl,⟨rfl,rfl⟩,⟨Hp.le_refl G,eZ.le_refl β,fun k o hk=> ?_,fun k o hk=>.inl hk,⟨hb2.os,hb2.tape,hb2.output,hb2.size,fun k hk _=>hb2.block k hk⟩,fun d r hr=>(by cases hr),fun d d' r r' _ _ _ e1=>(by cases e1),fun d r u k e1=>(by cases e1)⟩,.d _ _ (.str [])⟩;have:=hpre.gw k o hk;rw[hb2.block k (Array.getElem?_eq_some_iff.1 this).1];exact this
theorem GM (bs:List UInt8)(A:SV):ai Tryz.prog 59 [.ptr 1000001 0] [(1000001,.cells 144 [A,.buf 1000002]),(1000002,mj bs)] (fun x r=>x= .d (.str bs)∧r= []):=by
 refine⟨Tryz.call59,fun G β w vs hpre hvl hd=> ?_⟩
 match vs,hvl with
 | [u],_=>
   have h0:=hd 0 _ u rfl rfl
   cases h0 with|ptr _ _ b hb=>
   obtain⟨b',cs,hb',hh,hlen,hden⟩:=hpre.rs 1000001 (.cells 144 [A,.buf 1000002]) (by simp[aC]);rw[hb]at hb';cases hb';have hR2:aC [((1000001:Nat),aY.cells 144 [A,.buf 1000002]),(1000002,mj bs)] 1000002=some (mj bs):=rfl;obtain⟨v,xs,hv,hown,_,_,hrow⟩:=hpre.rs 1000002 _ hR2
   match cs,hlen with
   | [c0,c1],_=>
     have q1:=hden 1 _ c1 rfl rfl
     cases q1 with|buf _ _ hb1 _=>
     rw[hv]at hb1;cases hb1;have hh:w.heap[b]? =some (.cells #[c0,v] 144 (0,0)):=by simpa using hh
     have e:e7.f 169=59:=rfl
     have fin:∀ (row:Option Nat),(∀k,row=some k→jq v=some k)→(Calls Tryz.prog 59 #[.pointer (some ⟨b,0,none⟩)] w fun e w' =>e= .returned (.string ⟨bs.toArray⟩)∧w.grownBy w' row)→
      Calls Tryz.prog 59 #[.pointer (some ⟨b,0,none⟩)] w fun e w' =>∃v' x rout G' β',e= .returned v'∧(x= .d (.str bs)∧rout= [])∧O3 G β w (aC [(1000001,.cells 144 [A,.buf 1000002]),(1000002,mj bs)]) G' β' w' (aC rout)∧am G' β' x v':=by
      intro row hrow' hc;refine hc.mono ?_;rintro e' w' ⟨rfl,hgb⟩;refine⟨_,.d (.str bs),[],G,β,rfl,⟨rfl,rfl⟩,⟨Hp.le_refl G,eZ.le_refl β,fun k o hk=> ?_,fun k o hk=>.inl hk,⟨hgb.os,hgb.tape,hgb.output,hgb.size,fun k hk hT=> ?_⟩,fun d r hr=>(by cases hr),fun d d' r r' _ _ _ e1=>(by cases e1),fun d r u k e1=>(by cases e1)⟩,.d _ _ (.str bs)⟩
      · have:=hpre.gw k o hk;rw[hgb.block k (Array.getElem?_eq_some_iff.1 this).1 (fun q=>by have:=hpre.og 1000002 _ v k hR2 rfl hv (.of (hrow' k q.symm));rw[hk]at this;cases this)];exact this
      · exact hgb.block k hk (fun q=>hT ⟨1000002,_,_,hR2,rfl,hv,.of (hrow' k q.symm)⟩)
     have fromB:(Calls Tryz.prog 59 #[.pointer (some ⟨b,0,none⟩)] w fun e w' =>e= .returned (.string ⟨bs.toArray⟩)∧Below w.heap.size w w')→Calls Tryz.prog 59 #[.pointer (some ⟨b,0,none⟩)] w fun e w' =>e= .returned (.string ⟨bs.toArray⟩)∧w.grownBy w' none:=
      fun hc=>hc.mono fun e w' ⟨h1,h2⟩=>⟨h1,⟨h2.os,h2.tape,h2.output,h2.size,fun k hk _=>h2.block k hk⟩⟩
     rcases hown.2 with⟨rfl,hz⟩|⟨g,cap,cur,rfl,hbg,hg,hnc,hcm,hcs,htake⟩
     · have:bs= []:=List.eq_nil_of_length_eq_zero hz;subst this;have hcon:=Any.Builder_String_nil gj sS w.heap.size b c0 w hh;rw[e]at hcon;exact fin none (by simp) (fromB hcon)
     · by_cases hb0:bs= []
       · subst hb0
         by_cases hc0:cap=0
         · subst hc0;have hcon:=Any.Builder_String_noroom gj sS w.heap.size b g c0 cur w (Nat.le_refl _) hh hg;rw[e]at hcon;exact fin none (by simp) (fromB hcon)
         · have hcon:=Any.Builder_String_room gj sS w.heap.size b g cap c0 w hc0 hh;rw[e]at hcon;exact fin none (by simp) (fromB hcon)
       · have hcells:=hown.cells (g:=g) rfl
         have hcon:=DR gj sS b g cap c0 cur bs w hb0 hh hg hnc hcm hcs (fun j x hx=>by
          have hj:j<bs.length:=(List.getElem?_eq_some_iff.1 hx).1;obtain⟨u,hu,hud⟩:=hrow j 0 (.int .u8 ((bs.getD j 0).toNat:Int)) hj rfl
          cases hud with|int=>
          rw[Nat.mul_one,Nat.add_zero]at hu;have:=hcells j _ hu;have hx':bs.getD j 0=x:=by simp[List.getD_eq_getElem?_getD,hx]
          rw[hx']at this
          exact this)
         rw[e]at hcon;exact fin (some g) (fun k hk=>by cases hk;rfl) hcon
theorem KD (s:List UInt8)(hs:s.length≤2^36):ai Tryz.prog 56 [.ptr 1000001 0,.d (.str s)] [(1000001,y9)] (fun x r=>x= .tup [.d (.int .i64 s.length),.d (.opq .nilIface)]∧r= [(1000001,xR 14),(14,mj s)]):=by
 refine ae hT (C:= []) Tryz.func56 rfl Tryz.call56 rfl rfl rfl ?_;conv=>whnf
 repeat' (first|((first|(refine cd Ko [(1000001,1000001)] ?_;rintro x rout ⟨rfl,rfl⟩;refine⟨rfl,?_⟩)|(refine aa ?_ ?_<;>intro hb<;>try simp only[az]at hb)|omega|refine aA ?_|decide|assumption)<;>conv=>whnf))
 refine .ret _ ?_;conv=>whnf
 refine⟨[(1000001,xR 14),(14,mj s)],⟨congrArg SV.tup ?_,rfl⟩,rr,En,trivial⟩;repeat' (refine aN ?_ ?_)
 all_goals (conv=>lhs;whnf)
theorem wt (bs s:List UInt8)(hs:bs.length+s.length≤2^36):ai Tryz.prog 56 [.ptr 1000001 0,.d (.str s)] [(1000001,xR 1000002),(1000002,mj bs)] (fun x r=>x= .tup [.d (.int .i64 s.length),.d (.opq .nilIface)]∧r= [(1000001,xR 14),(14,mj (bs++s))]):=by
 refine ae hT (C:= []) Tryz.func56 rfl Tryz.call56 rfl rfl rfl ?_;conv=>whnf
 repeat' (first|((first|(refine cd (Mj 5 1 bs.length fun i=>qU (bs.getD i 0)) Oj ?_;rintro x rout ⟨rfl,rfl⟩;refine⟨rfl,?_⟩)|(refine aa ?_ ?_<;>intro hb<;>try simp only[az]at hb)|omega|refine aA ?_|decide|assumption)<;>conv=>whnf))
 refine .ret _ ?_;conv=>whnf
 refine⟨[(1000001,xR 14),(14,mj (bs++s))],⟨congrArg SV.tup ?_,rfl⟩,rr,D3,trivial⟩;repeat' (refine aN ?_ ?_)
 all_goals (conv=>lhs;whnf)
abbrev jO:=Int ⊕ List UInt8
def CQ:jO→List DV
 | .inl n=> [.ifc 3 (.int .i64 n)]
 | .inr s=> [.ifc 9 (.str s)]
def bJ:jO→List UInt8
 | .inl n=>Lib.itoa n
 | .inr s=>s
def qZ:jO:=.inr []
def my (p:jO):Prop:=match p with| .inl n=> -9223372036854775808≤n∧n≤9223372036854775807| .inr _=>True
theorem tJ (l:List jO)(hl:l.length≤2^20)(hk:∀p ∈ l,my p)(hj:(Lib.join (l.map bJ) [32]).length≤2^40):ai Tryz.prog 57 [.d (dC 1 CQ qZ l)] kx (fun x r=>x= .d (.str (Lib.join (l.map bJ) [32]))∧r=kx):=by
 refine ae hT (C:= []) Tryz.func57 rfl Tryz.call57 rfl rfl rfl ?_;conv=>whnf
 refine ah hT (C:= []) (ι:=Nat) (fun i=>i≤l.length) (fun i=>aI [(3,.buf 3),(8,.d (dC 1 CQ qZ l)),(9,.d (.int .i64 l.length)),(10,.d (.int .i64 i))] [(1000009,KX),(3,aL 9 1 sF [] ((l.take i).map bJ))]) (fun i=>l.length - i) 0 (by simp) ?_ ?_
 · exact(dc.nil 3 3 9 1 (aW sF [] []) rfl rfl (by decide)).trans (by exact be [(1000009,1000009),(3,3)])
 intro i hi;conv=>whnf
 repeat' (first|((first|(refine aa ?_ ?_<;>intro hb<;>try simp only[az]at hb)|omega|refine aA ?_|decide|assumption)<;>conv=>whnf))
 · have hlt:i<l.length:=by simpa using hb
   have hln:((l.take i).map bJ).length=i:=by simp;omega
   have hsn:(l.take (i+1)).map bJ=(l.take i).map bJ++ [bJ (l.getD i qZ)]:=by
    have:l.take (i+1)=l.take i++ [l.getD i qZ]:=by rw[List.take_add_one];simp[List.getD_eq_getElem?_getD,hlt]
    rw[this,List.map_append];rfl
   have hpk:=hk _ (ao (x:=qZ) hlt);have hpf:aW CQ qZ l (i:Int).toNat=CQ (l.getD i qZ):=rfl
   cases hp:l.getD i qZ with
   | inl n=>
     rw[hp]at hpk hsn;rw[hpf,hp];conv=>whnf
     repeat' (first|((first|refine dm (Fo n hpk.1 hpk.2) rfl rfl rfl rfl ?_|(refine aa ?_ ?_<;>intro hb<;>try simp only[az]at hb)|omega|refine aA ?_|decide|assumption)<;>conv=>whnf))
     refine⟨i+1,by omega,by omega,?_⟩;rw[hsn]
     exact(by(refine af [(1000009,1000009),(3,22)] rfl rfl ?_ ?_<;>repeat' (first|exact True.intro|exact lr|exact rr|(exact aG rfl)|exact ap (by omega)|exact a7 _|refine And.intro ?_ ?_));done)
   | inr s=>
     rw[hp]at hsn;rw[hpf,hp];conv=>whnf
     repeat' (first|((first|(refine aa ?_ ?_<;>intro hb<;>try simp only[az]at hb)|omega|refine aA ?_|decide|assumption)<;>conv=>whnf))
     refine⟨i+1,by omega,by omega,?_⟩;rw[hsn];exact(by(refine af [(1000009,1000009),(3,29)] rfl rfl ?_ ?_<;>repeat' (first|exact True.intro|exact lr|exact rr|(exact aG rfl)|exact ap (by omega)|exact a7 _|refine And.intro ?_ ?_));done)
 · have hi2:i=l.length:=by omega
   subst hi2;rw[List.take_length];refine dQ.freeze _ _ _ _ 3 9 1 _ _ rfl rfl ?_;conv=>whnf
   repeat' (first|(refine ac (Ng (l.map bJ) [32] hj (by simp;omega)) rfl rfl ?_;rotate_right;conv=>whnf)|((first|(refine aa ?_ ?_<;>intro hb<;>try simp only[az]at hb)|omega|refine aA ?_|decide|assumption)<;>conv=>whnf))
   refine .ret _ ?_;conv=>whnf
   refine⟨kx,⟨?_,rfl⟩,rr,trivial⟩;conv=>lhs;whnf
theorem zk:∀ (k u:Nat),u<10 ^ (k+1)→(Lib.decDigits u).length≤k+1:=by
 intro k
 induction k with
 | zero=>
   intro u h
   rw[Lib.decDigits,dif_pos (by omega)];simp
 | succ k ih=>
   intro u h;rw[Lib.decDigits];split
   · simp
   · have:=ih (u/10) (by rw[Nat.pow_succ]at h;omega);simp;omega
theorem cp {n:Int}(h0: -2^60≤n)(h1:n≤2^60):(Lib.itoa n).length≤20:=by
 have key:∀u:Nat,u≤2^60→(Lib.decDigits u).length≤19:=fun u hu=>zk 18 u (by omega)
 unfold Lib.itoa;split
 · have:=key n.natAbs (by omega);simp;omega
 · have:=key n.toNat (by omega);omega
def Ey (ps:List jO):Prop:=ps.length≤8∧∀p ∈ ps,(bJ p).length≤2^10
theorem z6:∀ (l:List (List UInt8)) (sep:List UInt8) (N:Nat),(∀x ∈ l,x.length≤N)→(Lib.join l sep).length≤l.length*(N+sep.length):=by
 intro l sep N h
 cases l with
 |nil=>simp[Lib.join_nil]
 | cons x r=>
   rw[Lib.join_cons,List.length_append];have h1:=h x List.mem_cons_self
   have key:∀r:List (List UInt8),(∀z ∈ r,z.length≤N)→(Lib.joinTail sep r).length≤r.length*(N+sep.length):=by
    intro r
    induction r with
    |nil=>intro _;simp[Lib.joinTail]
    | cons y r ih=>
      intro hr;have h3:=hr y List.mem_cons_self;have h4:=ih (fun z hz=>hr z (List.mem_cons_of_mem _ hz));unfold Lib.joinTail at h4 ⊢;simp only[List.map_cons,List.flatten_cons,List.length_append,List.length_cons]at h4 ⊢;rw[Nat.add_mul,Nat.one_mul];omega
   have h2:=key r (fun z hz=>h z (List.mem_cons_of_mem _ hz));simp only[List.length_cons];rw[Nat.add_mul,Nat.one_mul];omega
theorem je {ps:List jO}(h:Ey ps):(Lib.join (ps.map bJ) [32]).length≤2^14:=by
 have:=z6 (ps.map bJ) [32] (2^10) (fun x hx=>by
  obtain⟨p,hp,rfl⟩:=List.mem_map.1 hx
  exact h.2 p hp)
 have h8:=h.1;simp only[List.length_map,List.length_singleton]at this;have h3:ps.length*(2 ^ 10+1)≤8*(2^10+1):=Nat.mul_le_mul_right _ h8;omega
def qB (ps:List jO):List UInt8:=Lib.join (ps.map bJ) [32]++ [10]
def bV {α:Type}(pf:α→List jO)(l:List α):List UInt8:=(l.map fun p=>qB (pf p)).flatten
theorem yu {α:Type}{pf:α→List jO}:∀ {l:List α},(∀p ∈ l,Ey (pf p))→(bV pf l).length≤l.length*2^15:=by
 intro l
 induction l with
 |nil=>intro _;simp[bV]
 | cons x r ih=>
   intro h;have h1:=je (h x List.mem_cons_self);have h2:=ih (fun p hp=>h p (List.mem_cons_of_mem _ hp));simp only[bV,List.map_cons,List.flatten_cons,List.length_append,List.length_cons,List.length_nil,qB]at h2 ⊢;rw[Nat.add_mul,Nat.one_mul];omega
theorem kA {α:Type}{pf:α→List jO}{l:List α}{d:α}{i:Nat}(hi:i<l.length):bV pf (l.take (i+1))=bV pf (l.take i)++qB (pf (l.getD i d)):=by
 have:l.take (i+1)=l.take i++ [l.getD i d]:=by rw[List.take_add_one];simp[List.getD_eq_getElem?_getD,hi]
 rw[this];simp[bV]
theorem NP {c:UInt8}{b:List UInt8}:∀ {a:List UInt8},c ∉ a→Lib.index (a++c::b) [c]=a.length
 | [],_=>by simp[Lib.index,List.isPrefixOf]
 | x::r,h=>by
   have h1:¬c=x:=fun e=>h (by simp[e])
   have h2:=NP (b:=b) (a:=r) (fun q=>h (List.mem_cons_of_mem _ q));rw[List.cons_append,Lib.index,h2];simp[List.isPrefixOf,h1]
theorem M8 {c:UInt8}:∀ {a:List UInt8},c ∉ a→Lib.index a [c]= -1
 | [],_=>by simp[Lib.index]
 | x::r,h=>by
   have h1:¬c=x:=fun e=>h (by simp[e])
   have h2:=M8 (a:=r) (fun q=>h (List.mem_cons_of_mem _ q));rw[Lib.index,h2];simp[List.isPrefixOf,h1]
theorem qq {a b:List UInt8}{c:UInt8}(h:c ∉ a):Lib.cut (a++c::b) [c]=(a,b,true):=by
 unfold Lib.cut;rw[NP h,if_pos (by omega)];simp
theorem gT (x y:List UInt8)(r:List (List UInt8))(sep:List UInt8):Lib.join (x::y::r) sep=x++sep++Lib.join (y::r) sep:=by
 rw[Lib.join_cons,Lib.join_cons];simp[Lib.joinTail]
theorem qP {c:UInt8}:∀ (ws:List (List UInt8)) (k:Nat),ws≠ []→(∀w ∈ ws,c ∉ w)→ws.length≤k+1→Lib.splitK [c] 0 k (Lib.join ws [c])=ws
 | [],_,h,_,_=>absurd rfl h
 | [x],k,_,h,_=>by
   rw[Lib.join_one]
   cases k with
   |zero=>rfl
   |succ k=>unfold Lib.splitK;rw[M8 (h x (by simp))];simp
 | x::y::r,k,_,h,hk=>by
   obtain⟨k,rfl⟩:∃m,k=m+1:=⟨k - 1,by simp at hk;omega⟩;rw[gT,List.append_assoc,List.singleton_append];unfold Lib.splitK;rw[NP (h x (by simp))];have ih:=qP (c:=c) (y::r) k (by simp) (fun w hw=>h w (List.mem_cons_of_mem _ hw)) (by simp at hk ⊢;omega);have e:(x++c::Lib.join (y::r) [c]).drop (x.length+1)=Lib.join (y::r) [c]:=by simp
   have q:¬ ((x.length:Int)== -1)=true:=by simp
   rw[if_neg q];simp only[Int.toNat_natCast,Nat.add_zero,List.length_singleton,e,ih,List.take_left]
theorem tg {c:UInt8}:∀ (ws:List (List UInt8)) (f:Nat),ws≠ []→(∀w ∈ ws,c ∉ w)→ws.length≤f→ws.length≤Lib.countFrom [c] f (Lib.join ws [c])+1
 | [],_,h,_,_=>absurd rfl h
 | [x],f,_,h,_=>by simp
 | x::y::r,f,_,h,hf=>by
   obtain⟨f,rfl⟩:∃m,f=m+1:=⟨f - 1,by simp at hf;omega⟩;rw[gT,List.append_assoc,List.singleton_append];unfold Lib.countFrom;rw[NP (h x (by simp))];have ih:=tg (c:=c) (y::r) f (by simp) (fun w hw=>h w (List.mem_cons_of_mem _ hw)) (by simp at hf ⊢;omega);have e:(x++c::Lib.join (y::r) [c]).drop (x.length+1)=Lib.join (y::r) [c]:=by simp
   have q:¬ ((x.length:Int)== -1)=true:=by simp
   rw[if_neg q];simp only[Int.toNat_natCast,List.length_singleton,e];simp only[List.length_cons]at ih ⊢;omega
theorem CW (c:UInt8):∀ (ws:List (List UInt8)),ws.length≤(Lib.join ws [c]).length+1
 | []=>by simp
 | [x]=>by simp
 | x::y::r=>by
   have:=CW c (y::r);rw[gT];simp only[List.length_append,List.length_cons,List.length_nil]at this ⊢;omega
theorem th {c:UInt8}{ws:List (List UInt8)}(h0:ws≠ [])(h:∀w ∈ ws,c ∉ w):Lib.split (Lib.join ws [c]) [c]=ws:=
 qP ws _ h0 h (tg ws _ h0 h (CW c ws))
theorem wn (d:Nat)(h:d<10):(UInt8.ofNat (48+d)).toNat=48+d:=by
 have:∀d,d<10→(UInt8.ofNat (48+d)).toNat=48+d:=by decide
 exact this d h
theorem Eo:∀ (n u:Nat),u≤n→u<10 ^ 12→∀r,Lib.parseUint10 0 (Lib.decDigits u++r)=Lib.parseUint10 u r:=by
 intro n
 induction n with
 | zero=>
   intro u hu h r;rw[Lib.decDigits,dif_pos (by omega),List.singleton_append,Lib.parseUint10,wn u (by omega)];rw[if_pos (by omega),if_neg (by omega),if_neg (by omega)]
   congr 1;omega
 | succ n ih=>
   intro u hu h r;rw[Lib.decDigits];split
   · rename_i h10;rw[List.singleton_append,Lib.parseUint10,wn u h10];rw[if_pos (by omega),if_neg (by omega),if_neg (by omega)];congr 1;omega
   · rename_i h10;have hm:u%10<10:=Nat.mod_lt _ (by decide);rw[List.append_assoc,ih (u/10) (by omega) (by omega),List.singleton_append,Lib.parseUint10,wn _ hm];rw[if_pos (by omega),if_neg (by omega),if_neg (by omega)];congr 1;omega
theorem Cx (u:Nat)(h:u<10 ^ 12):Lib.parseMag (Lib.decDigits u)= .ok u:=by
 unfold Lib.parseMag;rw[if_neg (fI (u+1) u (by omega)).1];have:=Eo u u (Nat.le_refl _) h [];rw[List.append_nil]at this;rw[this,Lib.parseUint10]
theorem DT (n:Int)(h0: -10 ^ 9<n)(h1:n<10 ^ 9):Lib.atoiAll (Lib.itoa n)= .ok n:=by
 unfold Lib.itoa;split
 · rename_i hn;unfold Lib.atoiAll;have e45:(45:UInt8).toNat=45:=rfl;simp only[e45];rw[if_pos (Or.inr trivial),Cx _ (by omega)];simp only;rw[if_neg (by simp),if_neg (by simp;omega)];simp;omega
 · rename_i hn;have hm:=Cx n.toNat (by omega);obtain⟨d1,d2⟩:=fI (n.toNat+1) n.toNat (by omega)
   cases hd:Lib.decDigits n.toNat with
   |nil=>exact absurd hd d1
   | cons b r=>
     rw[hd]at hm;have hb:=d2 b (by rw[hd];exact List.mem_cons_self)
     have hb2:b.toNat≠43∧b.toNat≠45:=by
      simp only[FL,List.contains_eq_mem,List.mem_cons,List.not_mem_nil,or_false,decide_eq_true_eq]at hb;rcases hb with rfl|rfl|rfl|rfl|rfl|rfl|rfl|rfl|rfl|rfl<;>decide
     unfold Lib.atoiAll;simp only;rw[if_neg (by omega),hm];simp only;rw[if_neg (by omega),if_neg (by omega),if_neg (by omega)];simp;omega
theorem gk {n:Int}(h0: -10 ^ 9<n)(h1:n<10 ^ 9):fd (Lib.itoa n)=n∧dB (Lib.itoa n)=true:=by
 have h:=DT n h0 h1;refine⟨by unfold fd;rw[h],?_⟩;unfold dB oD;rw[h,v6];have:=zk 8 n.natAbs (by omega);simp;omega
theorem CR {n:Int}{c:UInt8}(h:c ∈ Lib.itoa n):c=45∨FL.contains c=true:=by
 unfold Lib.itoa at h;split at h
 · rcases List.mem_cons.1 h with q|q
   · exact .inl q
   · exact .inr ((fI (n.natAbs+1) n.natAbs (by omega)).2 c q)
 · exact .inr ((fI (n.toNat+1) n.toNat (by omega)).2 c h)
theorem gU (n:Int):Lib.itoa n≠ []:=by
 unfold Lib.itoa;split
 · simp
 · exact(fI (n.toNat+1) n.toNat (by omega)).1
theorem xi (n:Int):(32:UInt8) ∉ Lib.itoa n:=fun h=>by
 rcases CR h with q|q
 · revert q;decide
 · revert q;decide
theorem xF (n:Int):(10:UInt8) ∉ Lib.itoa n:=fun h=>by
 rcases CR h with q|q
 · revert q;decide
 · revert q;decide
theorem rQ {c:UInt8}{sep:List UInt8}(hs:c ∉ sep):∀ {ws:List (List UInt8)},(∀w ∈ ws,c ∉ w)→c ∉ Lib.join ws sep
 | [],_=>by simp[Lib.join_nil]
 | [x],h=>by rw[Lib.join_one];exact h x (by simp)
 | x::y::r,h=>by
   have ih:=rQ hs (ws:=y::r) (fun w hw=>h w (List.mem_cons_of_mem _ hw));have hx:=h x (by simp);rw[gT];simp only[List.mem_append,not_or];exact⟨⟨hx,hs⟩,ih⟩
theorem sb {α:Type}{tk:List UInt8→List α→Bool×List α}{pf:α→List jO}{Q:α→Prop}
 (h1:∀p,Q p→(10:UInt8) ∉ Lib.join ((pf p).map bJ) [32])(h2:∀p l,Q p→tk (Lib.join ((pf p).map bJ) [32]) l=(true,l++ [p])):
 ∀ (m:List α) (n a:Nat) (l:List α),(∀p ∈ m,Q p)→m.length<n→gY tk n a (bV pf m) l=((0,true),l++m)
 | [],n,a,l,_,hn=>by
   obtain⟨n,rfl⟩:∃k,n=k+1:=⟨n - 1,by simp at hn;omega⟩
   simp[gY,bV]
 | p::m,n,a,l,hq,hn=>by
   obtain⟨n,rfl⟩:∃k,n=k+1:=⟨n - 1,by simp at hn;omega⟩;have hp:=hq p (by simp);have e:bV pf (p::m)=Lib.join ((pf p).map bJ) [32]++10::bV pf m:=by simp[bV,qB]
   have hc:=qq (b:=bV pf m) (h1 p hp);rw[e];unfold gY;rw[if_neg (by simp),hc];simp only;rw[if_neg (by simp),h2 p l hp];simp only;rw[if_neg (by simp),sb h1 h2 m n (a+1) (l++ [p]) (fun q hm=>hq q (List.mem_cons_of_mem _ hm)) (by simp at hn ⊢;omega)];simp
end Go.Proofs.YtkokpbpililcdaaGreatDoor
set_option maxRecDepth 20000
namespace Go.Proofs.YtkokpbpililcdaaGreatDoor
open Go Go.Eng Go.Shelf Go.RowKit
theorem Oh {α:Type}{pf:α→List jO}{l:List α}{N:Nat}(h:(bV pf l).length≤N)(i:Nat):(bV pf (l.take i)).length≤N:=by
 have e:bV pf l=bV pf (l.take i)++bV pf (l.drop i):=by
  unfold bV;rw[←List.flatten_append,←List.map_append,List.take_append_drop]
 rw[e,List.length_append]at h;omega
theorem FB (s:List UInt8)(h:s.length≤200000):ai Tryz.prog 58 [.d (.str s)] [] (fun x r=>x= .tup [.d (.str s),.d (.int .i64 0)]∧r= []):=by
 refine ae hT (C:= []) Tryz.func58 rfl Tryz.call58 rfl rfl rfl ?_;conv=>whnf
 repeat' (first|((first|(refine aa ?_ ?_<;>intro hb<;>try simp only[az]at hb)|omega|refine aA ?_|decide|assumption)<;>conv=>whnf))
 refine .ret _ ?_;conv=>whnf
 refine⟨[],⟨?_,rfl⟩,trivial⟩;conv=>lhs;whnf
 all_goals rfl
def fV (p:bv):List jO:= [.inl p.tm,.inr p.desk,.inl p.no,.inr p.words]
def Bl (p:bv):Prop:=(p.desk.length≤2^10∧p.words.length≤2^10)∧(-2^60≤p.tm∧p.tm≤2^60)∧(-2^60≤p.no∧p.no≤2^60)
theorem Cj {p:bv}(h:Bl p):Ey (fV p):=by
 obtain⟨⟨h1,h2⟩,⟨h3,h4⟩,h5,h6⟩:=h;refine⟨by simp[fV],fun q hq=> ?_⟩;simp only[fV,List.mem_cons,List.not_mem_nil,or_false]at hq;have e1:=cp h3 h4;have e2:=cp h5 h6;rcases hq with rfl|rfl|rfl|rfl<;>simp only[bJ]<;>omega
theorem I8 {p:bv}(h:Bl p):∀q ∈ fV p,my q:=by
 obtain⟨⟨h1,h2⟩,⟨h3,h4⟩,h5,h6⟩:=h;intro q hq;simp only[fV,List.mem_cons,List.not_mem_nil,or_false]at hq;rcases hq with rfl|rfl|rfl|rfl<;>simp only[my]<;>first|trivial|omega
theorem L7:Bl cW:=by simp[Bl,cW]
theorem Iy (p:bv):qB (fV p)=Lib.itoa p.tm++ [32]++p.desk++ [32]++Lib.itoa p.no++ [32]++p.words++ [10]:=by
 unfold qB fV;simp[bJ,Lib.join_cons,Lib.joinTail]
theorem Qu (l:List bv)(hk:vG l)(hl:l.length≤2^15∧∀p ∈ l,Bl p)(hsz:(bV fV l).length≤200000):ai Tryz.prog 17 [.d (dC 4 gL cW l)] kx (fun x r=>x= .tup [.d (.str (if dZ l=0 then bV fV l else [])),.d (.int .i64 (dZ l))]∧r=kx):=by
 have hq:∀i,Bl (l.getD i cW):=fun i=>by
  rcases Nat.lt_or_ge i l.length with q|q
  · exact hl.2 _ (ao q)
  · rw[List.getD_eq_getElem?_getD,List.getElem?_eq_none q];exact L7
 have hJ:=fun i=>je (Cj (hq i))
 have hC:=fun i=>tJ (fV (l.getD i cW)) (by simp[fV]) (I8 (hq i)) (by have:=hJ i;omega)
 have hT':=fun i=>yu (pf:=fV) (l:=l.take i) (fun p hp=>Cj (hl.2 p (List.mem_of_mem_take hp)))
 have hlen:=hl.1;refine ae hT (C:= []) Tryz.func17 rfl Tryz.call17 rfl rfl rfl ?_;conv=>whnf
 repeat' (first|(refine ac (LN l hk) rfl rfl ?_;rotate_right;conv=>whnf)|((first|(refine aa ?_ ?_<;>intro hb<;>try simp only[az]at hb)|omega|refine aA ?_|decide|assumption)<;>conv=>whnf))
 · refine .ret _ ?_;conv=>whnf
   refine⟨kx,⟨congrArg SV.tup ?_,rfl⟩,rr,trivial⟩;repeat' (refine aN ?_ ?_)
   all_goals (conv=>lhs;whnf)
   all_goals try(with_reducible rfl)
   · rw[if_neg hb]
 have h0:=hb;rw[h0,if_pos rfl];rcases Nat.eq_zero_or_pos l.length with h00|h00
 · refine bU hT (C:= []) (fun _ _ h=>h) (fun _ h=>h) ?_;conv=>whnf
   repeat' (first|(refine cd JR [(1000001,5)] ?_;rintro x rout ⟨rfl,rfl⟩;refine⟨rfl,?_⟩;conv=>whnf)|(refine ac (FB _ (by simp[Oh hsz])) rfl rfl ?_;rotate_right;conv=>whnf)|((first|(refine aa ?_ ?_<;>intro hb<;>try simp only[az]at hb)|omega|refine aA ?_|decide|assumption)<;>conv=>whnf))
   have:l= []:=List.eq_nil_of_length_eq_zero h00;subst this;refine .ret _ ?_;conv=>whnf
   refine⟨kx,⟨congrArg SV.tup ?_,rfl⟩,rr,trivial⟩;repeat' (refine aN ?_ ?_)
   all_goals (conv=>lhs;whnf)
   all_goals try(with_reducible rfl)
   all_goals rfl
 have hJ0:=hJ 0;refine bU hT (C:= []) (fun _ _ h=>h) (fun _ h=>h) ?_;conv=>whnf
 repeat' (first|((first|refine dQ.look (hC 0) [(1000009,1000009)] rfl ⟨aj rfl rfl,trivial⟩ ⟨⟨_,rfl,rfl⟩,trivial⟩ rfl rfl rfl ?_|(refine cd (KD (qB (fV (l.getD 0 cW))) (by unfold qB;have:=hJ 0;simp only[List.length_append,List.length_singleton];omega)) [(1000001,5),(14,40)] ?_;rintro x rout ⟨rfl,rfl⟩;refine⟨rfl,?_⟩)|(refine aa ?_ ?_<;>intro hb<;>try simp only[az]at hb)|omega|refine aA ?_|decide|assumption)<;>conv=>whnf))
 have he1:qB (fV (l.getD 0 cW))=bV fV (l.take 1):=by rw[kA (d:=cW) h00];simp[bV]
 refine ah hT (C:= []) (ι:=Nat) (fun i=>i≤l.length) (fun i=>aI [(5,.ptr 5 0),(13,.d (dC 4 gL cW l)),(14,.d (.int .i64 l.length)),(15,.d (.int .i64 i))] [(1000009,KX),(5,.cells 144 [.ptr 5 0,.buf 40]),(40,mj (bV fV (l.take i)))]) (fun i=>l.length - i) 1 h00 ?_ ?_
 · rw[←he1];exact(by exact be [(1000009,1000009),(5,5),(40,40)])
 intro i hi;have hJi:=hJ i;have hTi:=hT' i;have hTl:(l.take i).length=i:=by simp;omega
 rw[hTl]at hTi;conv=>whnf
 repeat' (first|((first|refine dQ.look (hC i) [(1000009,1000009)] rfl ⟨aj rfl rfl,trivial⟩ ⟨⟨_,rfl,rfl⟩,trivial⟩ rfl rfl rfl ?_|(refine cd (wt (bV fV (l.take i)) (qB (fV (l.getD i cW))) (by unfold qB;simp only[List.length_append,List.length_singleton];omega)) JX ?_;rintro x rout ⟨rfl,rfl⟩;refine⟨rfl,?_⟩)|(refine cd (GM (bV fV (l.take i)) (.ptr 1000001 0)) [(1000001,5),(1000002,40)] ?_;rintro x rout ⟨rfl,rfl⟩;refine⟨rfl,?_⟩))<;>conv=>whnf)|(refine ac (FB _ (by simp[Oh hsz])) rfl rfl ?_;rotate_right;conv=>whnf)|((first|(refine aa ?_ ?_<;>intro hb<;>try simp only[az]at hb)|omega|refine aA ?_|decide|assumption)<;>conv=>whnf))
 · have hlt:i<l.length:=by omega
   refine⟨i+1,by omega,by omega,?_⟩;rw[kA (d:=cW) hlt];exact(by exact be [(1000009,1000009),(5,5),(40,41)])
 · have:i=l.length:=by omega
   subst this;refine .ret _ ?_;conv=>whnf
   refine⟨kx,⟨congrArg SV.tup ?_,rfl⟩,rr,trivial⟩;repeat' (refine aN ?_ ?_)
   all_goals (conv=>lhs;whnf)
   all_goals try(with_reducible rfl)
   · rw[List.take_length]
end Go.Proofs.YtkokpbpililcdaaGreatDoor
set_option maxRecDepth 20000
namespace Go.Proofs.YtkokpbpililcdaaGreatDoor
open Go Go.Eng Go.Shelf Go.RowKit
theorem HW (s p:List UInt8)(k:Nat)(hl:s.length≤2^31)(hp:1≤p.length)(hk:1≤k)(hk2:k≤2^31):ai Tryz.prog 62 [.d (.str s),.d (.str p),.d (.int .i64 k)] kx (fun x r=>x= .d (eE (Lib.splitN s p k))∧r=kx):=by
 refine jH (post:=fun x=>x= .d (eE (Lib.splitN s p k))) Tryz.call62 (fun G β w vs hq hg hvl hd=> ?_)
 match vs,hvl with
 | [u,v,z],_=>
   have h0:=hd 0 _ u rfl rfl;have h1:=hd 1 _ v rfl rfl;have h2:=hd 2 _ z rfl rfl
   cases h0 with|d _ _ h0=>cases h0 with|str _=>
   cases h1 with|d _ _ h1=>cases h1 with|str _=>
   cases h2 with|d _ _ h2=>cases h2 with|int _ _=>
   obtain⟨_,⟨m,c0⟩,_⟩:=hq w hg;have hcon:=Any.strings_SplitN wI (by kernel_rfl) ⟨s.toArray⟩ ⟨p.toArray⟩ k m w (by rw[HI];omega) c0 (by rw[HI];exact hp) hk (by omega);have e:gA.f 147=62:=rfl;rw[e]at hcon;have hsz:(⟨s.toArray⟩:ByteArray).size=s.length:=HI s;rw[hsz]at hcon
   have hdat:(Lib.splitB ⟨p.toArray⟩ 0 (min k (s.length+1) - 1) ⟨s.toArray⟩).map (·.data.toList)=Lib.splitN s p k:=by
    rw[Lib.splitB_data];simp[Lib.splitN]
   have hlen:=Lib.splitB_length_le ⟨p.toArray⟩ 0 (min k (s.length+1) - 1) ⟨s.toArray⟩;generalize hLL:Lib.splitB ⟨p.toArray⟩ 0 (min k (s.length+1) - 1) ⟨s.toArray⟩=LL at hcon hdat hlen
   obtain⟨G',g1,g2,g3,g4⟩:=tL hg LL (min k (s.length+1)) (by omega) (by unfold maxLen;omega) (Lib.cellsOf LL (min k (s.length+1))) (gA.t 9) (fun i hi=>by
    unfold Lib.cellsOf;rw[List.getElem?_toArray,List.getElem?_append_left (by simpa using hi)]
    simp[List.getD_eq_getElem?_getD,hi])
   refine hcon.mono ?_;rintro e' w' ⟨rfl,rfl⟩;rw[hdat]at g4;exact⟨_,_,G',rfl,rfl,g1,g2,g3,g4,(Below.refl _ _).alloc (Nat.le_refl _) _⟩
theorem AF (k:Nat):∀ (s:List UInt8),(Lib.splitK [32] 0 k s).length≤k+1∧(Lib.splitK [32] 0 k s).length≤s.length+1:=by
 induction k with
 |zero=>intro s;simp[Lib.splitK]
 | succ k ih=>
   intro s;unfold Lib.splitK;split
   · simp
   · rename_i h;have h1:=Lib.drop_shorter (by decide) h;obtain⟨a,b⟩:=ih (s.drop ((Lib.index s [32]).toNat+ [32].length));exact⟨by rw[List.length_cons];omega,by rw[List.length_cons];omega⟩
def tG (line:List UInt8):Bool:=decide ((Lib.splitN line [32] 4).length=4)&&gf (Lib.splitN line [32] 4)
def sg:OL:= [(0,[]),(1,[]),(2,[]),(3,[0,1,2]),(4,[0,1,2]),(5,[0,1,2]),(6,[]),(7,[]),(8,[]),(9,[]),(10,[9]),(11,[10]),(12,[])]
def tP:OL:= [(0,[]),(1,[0]),(2,[0]),(3,[0]),(4,rg 4),(5,rg 4),(6,rg 4),(7,rg 7),(8,rg 7),(9,rg 7),(10,rg 10),(11,rg 10),(12,rg 10),(13,[0]),(14,[0]),(15,[]),(16,[])]
def g7 (line:List UInt8)(l:List bv):Bool×List bv:=
 bif tG line&& [(Lib.splitN line [32] 4).getD 0 [],(Lib.splitN line [32] 4).getD 2 []].all dB then
  (true,l++ [⟨fd ((Lib.splitN line [32] 4).getD 0 []),(Lib.splitN line [32] 4).getD 1 [],fd ((Lib.splitN line [32] 4).getD 2 []),(Lib.splitN line [32] 4).getD 3 []⟩])else(false,l)
theorem Bj {s:List UInt8}{k:Nat}{x:List UInt8}(h:x ∈ Lib.splitN s [32] k):x.length≤s.length:=by
 have key:∀ (k:Nat) (s:List UInt8),∀x ∈ Lib.splitK [32] 0 k s,x.length≤s.length:=by
  intro k
  induction k with
  |zero=>intro s x hx;simp[Lib.splitK]at hx;subst hx;exact Nat.le_refl _
  | succ k ih=>
    intro s x hx;unfold Lib.splitK at hx;split at hx
    · simp at hx;subst hx;exact Nat.le_refl _
    · rcases List.mem_cons.1 hx with q|q
      · subst q;simp;omega
      · have:=ih _ x q;simp at this;omega
 exact key _ s x h
theorem rf (line:List UInt8)(i:Nat):((Lib.splitN line [32] 4).getD i []).length≤line.length:=by
 rcases Nat.lt_or_ge i (Lib.splitN line [32] 4).length with q|q
 · exact Bj (ao (x:= []) q)
 · rw[List.getD_eq_getElem?_getD,List.getElem?_eq_none q];simp
theorem PI (line:List UInt8)(l:List bv)(h1:line.length≤2^20)(h2:l.length≤2^21):
 ai Tryz.prog 61 [.d (.str line),.ptr 1000005 0] [(1000009,KX),(1000005,fT 44 1000003),(1000003,Ds l)] (fun x r=>x= .d (.bool (g7 line l).1)∧r= [(1000009,KX),(1000005,fT 44 46),(46,Ds (g7 line l).2)]):=by
 have hg:=rf line;have hS:=HW line [32] 4 (by omega) (by decide) (by decide) (by decide)
 have hM:(Lib.splitN line [32] 4).length≤4:=by
  have:=(AF (min 4 (line.length+1) - 1) line).1;unfold Lib.splitN;omega
 have hC:=Lw (Lib.splitN line [32] 4) (by omega) [];have hN:=LW [(Lib.splitN line [32] 4).getD 0 [],(Lib.splitN line [32] 4).getD 2 []] (by simp) (by intro x hx;simp only[List.mem_cons,List.not_mem_nil,or_false]at hx;rcases hx with rfl|rfl<;>exact Nat.le_trans (hg _) (by omega));unfold g7 tG gf;generalize Lib.splitN line [32] 4=W at*
 cases hA: [W.getD 0 [],W.getD 2 []].all dB with
 | false=>
   rw[hA]at hN;rw[Bool.and_false,cond_false];refine ae hT (C:= []) Tryz.func61 rfl Tryz.call61 rfl rfl rfl ?_;conv=>whnf
   repeat' (first|(refine dm hS rfl rfl rfl rfl ?_;conv=>whnf)|(refine ac (hC) rfl rfl ?_;rotate_right;conv=>whnf)|((first|refine dQ.look hN [(1000009,1000009)] rfl ⟨aj rfl rfl,trivial⟩ ⟨⟨_,rfl,rfl⟩,trivial⟩ rfl rfl rfl ?_|(refine aa ?_ ?_<;>intro hb<;>try simp only[az]at hb)|refine aq hT 4 sg ?_|refine aq hT 6 tP ?_|omega|refine aA ?_|decide|assumption)<;>conv=>whnf))
   all_goals
    refine .ent _ (aI [(3,.d (.bool false))] [(1000009,KX),(1000005,fT 44 46),(46,Ds l)]) (by exact be MF) ?_;refine .ret _ ?_;conv=>whnf
    exact⟨[(1000009,KX),(1000005,fT 44 46),(46,Ds l)],⟨rfl,rfl⟩,rr,rr,rr,trivial⟩
 | true=>
   rw[hA]at hN;rw[Bool.and_true]
   replace hN:ai Tryz.prog 64 [.d (eE [W.getD 0 [],W.getD 2 []])] kx (fun x r=>x= .tup [.d (gr [fd (W.getD 0 []),fd (W.getD 2 [])]),.d (.bool true)]∧r=kx):=hN
   refine ae hT (C:= []) Tryz.func61 rfl Tryz.call61 rfl rfl rfl ?_;conv=>whnf
   repeat' (first|(refine dm hS rfl rfl rfl rfl ?_;conv=>whnf)|(refine ac (hC) rfl rfl ?_;rotate_right;conv=>whnf)|((first|refine dQ.look hN [(1000009,1000009)] rfl ⟨aj rfl rfl,trivial⟩ ⟨⟨_,rfl,rfl⟩,trivial⟩ rfl rfl rfl ?_|(refine aa ?_ ?_<;>intro hb<;>try simp only[az]at hb)|refine aq hT 4 sg ?_|refine aq hT 6 tP ?_|omega|refine aA ?_|decide|assumption)<;>conv=>whnf))
   · have hb':decide (W.length=4)=false:=by simp;omega
     rw[hb',Bool.false_and,cond_false];refine .ent _ (aI [(3,.d (.bool false))] [(1000009,KX),(1000005,fT 44 46),(46,Ds l)]) (by exact be MF) ?_;refine .ret _ ?_;conv=>whnf
     exact⟨[(1000009,KX),(1000005,fT 44 46),(46,Ds l)],⟨rfl,rfl⟩,rr,rr,rr,trivial⟩
   · have hb':decide (W.length=4)=true:=by simp;omega
     have hb2:decide ([] ∈ W)=true:=by simpa using hb
     rw[hb',hb2,Bool.true_and,Bool.not_true,cond_false];refine .ent _ (aI [(3,.d (.bool false))] [(1000009,KX),(1000005,fT 44 46),(46,Ds l)]) (by exact be MF) ?_;refine .ret _ ?_;conv=>whnf
     exact⟨[(1000009,KX),(1000005,fT 44 46),(46,Ds l)],⟨rfl,rfl⟩,rr,rr,rr,trivial⟩
   · have hb':decide (W.length=4)=true:=by simp;omega
     have hb2:decide ([] ∈ W)=false:=by simpa using hb
     rw[hb',hb2,Bool.true_and,Bool.not_false,cond_true];refine .ent _ (aI [(3,.d (.bool true))] [(1000009,KX),(1000005,fT 44 46),(46,Ds (l++ [⟨fd (W.getD 0 []),W.getD 1 [],fd (W.getD 2 []),W.getD 3 []⟩]))]) (by(refine af [(1000009,1000009),(1000005,1000005),(46,43)] rfl rfl ?_ ?_<;>repeat' (first|exact True.intro|exact lr|exact rr|(exact aG rfl)|exact ap (by omega)|exact a7 _|refine And.intro ?_ ?_));done) ?_;refine .ret _ ?_;conv=>whnf
     exact⟨[(1000009,KX),(1000005,fT 44 46),(46,Ds _)],⟨rfl,rfl⟩,rr,rr,rr,trivial⟩
theorem El {a b c:Nat}{x y z:aY}(h1:Nat.beq a c=false)(h2:Nat.beq b c=false):aC [(c,z),(a,x),(b,y)]=aC [(a,x),(b,y),(c,z)]:=by
 have e1:a≠c:=fun q=>by rw[q]at h1;simp at h1
 have e2:b≠c:=fun q=>by rw[q]at h2;simp at h2
 funext d
 by_cases q1:d=a
 · subst q1;simp[aC,ax e1]
 · by_cases q2:d=b
   · subst q2;simp[aC,ax e2,ax q1]
   · simp[aC,ax q1,ax q2]
theorem GS {P:Program}{f:FuncId}{args:List SV}{rin rin':List (Nat×aY)}{post:SV→List (Nat×aY)→Prop}(h:ai P f args rin post)(e:aC rin' =aC rin):ai P f args rin' post:=
 ⟨h.enter,fun G β w vs hp hl hd=>by
   have:=h.calls G β w vs (by rw[←e];exact hp) hl hd
   rw[e];exact this⟩
theorem Fl {α:Type}{f g ct e k:Nat}{F:α→List DV}{d:α}{text:List UInt8}{post:SV→List (Nat×aY)→Prop}(hk:0<k)
 (h:ai Tryz.prog f [.d (.str text),.fn g [.ptr 1000005 0]] [(1000009,KX),(1000005,fT ct 1000003),(1000003,aL e k F d [])] post):
 ai Tryz.prog f [.d (.str text),.fn g [.ptr 1000005 0]] [(1000005,.cells ct [.d .nilsl]),(1000009,KX)] post:=
 ey (c:=1000005) (d:=1000003) (e:=e) (k:=k) (j:=0) (ce:=ct) (l:= [.d .nilsl]) (g:=aW F d []) (rest:= [(1000009,KX)]) (GS h (El rfl rfl).symm) hk rfl rfl rfl
def rA {α:Type}(tk:List UInt8→List α→Bool×List α)(fe:List α→Int)(text:List UInt8):List α×Nat×Int:=
 bif decide (200000<text.length)then([],0,2)else
 bif (gY tk (text.length+1) 0 text []).1.2 then(bif decide (fe (gY tk (text.length+1) 0 text []).2=0)then((gY tk (text.length+1) 0 text []).2,0,0)else([],0,fe (gY tk (text.length+1) 0 text []).2))
 else([],(gY tk (text.length+1) 0 text []).1.1,9)
theorem yg {α:Type}{tk:List UInt8→List α→Bool×List α}{Q:α→Prop}{N:Nat}(hQ:∀line l,line.length≤N→(∀x ∈ l,Q x)→∀x ∈ (tk line l).2,Q x):∀ (n a:Nat) (t:List UInt8) (l:List α),t.length≤N→(∀x ∈ l,Q x)→∀x ∈ (gY tk n a t l).2,Q x:=by
 intro n
 induction n with
 |zero=>intro a t l _ h;exact h
 | succ n ih=>
   intro a t l ht h;have h1:=Hu t;have h2:=hQ (Lib.cut t [10]).1 l (by omega) h;unfold gY;split
   · exact h
   · split
     · exact h
     · split
       · exact h2
       · rename_i hc _;have:=Dg (by simpa using hc);exact ih _ _ _ (by omega) h2
theorem pb {α:Type}{tk:List UInt8→List α→Bool×List α}(hQ:∀line l,(tk line l).2.length≤l.length+1):∀ (n a:Nat) (t:List UInt8) (l:List α),(gY tk n a t l).2.length≤l.length+n:=by
 intro n
 induction n with
 |zero=>intro a t l;exact Nat.le_refl _
 | succ n ih=>
   intro a t l;have h2:=hQ (Lib.cut t [10]).1 l;unfold gY;split
   · simp only;omega
   · split
     · simp only;omega
     · split
       · simp only;omega
       · have:=ih (a+1) (Lib.cut t [10]).2.1 (tk (Lib.cut t [10]).1 l).2;omega
theorem ve (line:List UInt8)(l:List bv):(g7 line l).2.length≤l.length+1:=by
 unfold g7;generalize (tG line&& [(Lib.splitN line [32] 4).getD 0 [],(Lib.splitN line [32] 4).getD 2 []].all dB)=c;cases c<;>simp
theorem G9 (line:List UInt8)(l:List bv)(h1:line.length≤2^40)(h:∀p ∈ l,rM p):∀p ∈ (g7 line l).2,rM p:=by
 have hmem:=rf line;unfold g7
 cases hc:(tG line&& [(Lib.splitN line [32] 4).getD 0 [],(Lib.splitN line [32] 4).getD 2 []].all dB)with
 |false=>exact h
 | true=>
   rw[Bool.and_eq_true]at hc;have hn:dB ((Lib.splitN line [32] 4).getD 0 [])=true∧dB ((Lib.splitN line [32] 4).getD 2 [])=true:=by simpa using hc.2
   have b1:=xz hn.1;have b2:=xz hn.2;intro p hp;rcases List.mem_append.1 hp with q|q
   · exact h p q
   · rw[List.mem_singleton]at q;subst q;have m1:=hmem 1;have m3:=hmem 3;exact⟨⟨by show _≤_;dsimp only;omega,by dsimp only;omega⟩,⟨by dsimp only;omega,by dsimp only;omega⟩,by dsimp only;omega,by dsimp only;omega⟩
theorem Fc (text:List UInt8)(ht:text.length≤2^20):vG (gY g7 (text.length+1) 0 text []).2:=
 ⟨by have:=pb ve (text.length+1) 0 text [];simp only[List.length_nil]at this;omega,yg (N:=2^40) (fun line l h1 h=>G9 line l h1 h) _ _ _ _ (by omega) (by simp)⟩
theorem MZ:GR 61 44 84 4 gL cW g7:=⟨ve,PI⟩
theorem OM (text:List UInt8)(ht:text.length≤2^20):ai Tryz.prog 18 [.d (.str text)] kx (fun x r=>x= .tup [.d (dC 4 gL cW (rA g7 dZ text).1),.d (.int .i64 (rA g7 dZ text).2.1),.d (.int .i64 (rA g7 dZ text).2.2)]∧r=kx):=by
 have hL:=Fl (by decide) (N0 MZ text ht [] (by simp));have hlen:=pb (tk:=g7) (MZ).1 (text.length+1) 0 text [];have hok:=Fc text ht;unfold rA;generalize gY g7 (text.length+1) 0 text []=R at hL hlen hok ⊢;obtain⟨⟨ra,rb⟩,rl⟩:=R;refine ae hT (C:= []) Tryz.func18 rfl Tryz.call18 rfl rfl rfl ?_;conv=>whnf
 repeat' (first|((first|(refine cd hL [(1000005,5),(1000009,1000009),(40,41)] ?_;rintro x rout ⟨rfl,rfl⟩;refine⟨rfl,?_⟩)|(refine dQ.freeze _ _ _ _ 41 84 4 _ _ rfl rfl ?_;refine qJ (LN rl hok) ?_)|(refine aa ?_ ?_<;>intro hb<;>try simp only[az]at hb)|omega|refine aA ?_|decide|assumption)<;>conv=>whnf))
 · have q:decide (200000<text.length)=true:=by simp;omega
   rw[q,cond_true];refine .weak _ ?_;conv=>whnf
   exact⟨.tup [.d (dC 4 gL cW []),.d (.int .i64 0),.d (.int .i64 2)],kx,bK ⟨aO,lr,lr,trivial⟩,⟨rfl,rfl⟩,rr,trivial⟩
 · have q:decide (200000<text.length)=false:=by simp;omega
   simp only[q,hb,cond_false];refine .weak _ ?_;conv=>whnf
   exact⟨.tup [.d (dC 4 gL cW []),.d (.int .i64 ra),.d (.int .i64 9)],kx,bK ⟨aO,lr,lr,trivial⟩,⟨rfl,rfl⟩,rr,trivial⟩
 · rename_i hb0 hb1;have q:decide (200000<text.length)=false:=by simp;omega
   have q2:decide (dZ rl=0)=false:=by simp[hb]
   simp only[q,q2,hb1,cond_false,cond_true];refine .weak _ ?_;conv=>whnf
   exact⟨.tup [.d (dC 4 gL cW []),.d (.int .i64 0),.d (.int .i64 (dZ rl))],kx,bK ⟨aO,lr,lr,trivial⟩,⟨rfl,rfl⟩,rr,trivial⟩
 · rename_i hb0 hb1;have q:decide (200000<text.length)=false:=by simp;omega
   have q2:decide (dZ rl=0)=true:=by simp[hb]
   simp only[q,q2,hb1,cond_false,cond_true];refine .ret _ ?_;conv=>whnf
   refine⟨kx,⟨congrArg SV.tup ?_,rfl⟩,rr,trivial⟩;repeat' (refine aN ?_ ?_)
   all_goals (conv=>lhs;whnf)
   all_goals try(with_reducible rfl)
   all_goals rfl
end Go.Proofs.YtkokpbpililcdaaGreatDoor
