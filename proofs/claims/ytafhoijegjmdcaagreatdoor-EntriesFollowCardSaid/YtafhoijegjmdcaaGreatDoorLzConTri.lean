/- EntriesFollow is proved: for every input the law returns true, and its argument reads afterwards as it read before. Conditions: those of the given row alone. -/
import Derived.Test.YtafhoijegjmdcaaGreatDoorLzConTwo
import Derived.Test.YtafhoijegjmdcaaGreatDoorLzConOne
import Derived.Test.YtafhoijegjmdcaaGreatDoorLzEngTwo
import Derived.Test.YtafhoijegjmdcaaGreatDoorLzEngMap
import Derived.Lib.ItoaNum
import Derived.Lib.AtoiAll
import Derived.Lib.Strings
set_option linter.unusedVariables false
set_option linter.unusedSimpArgs false
set_option maxHeartbeats 16000000
set_option maxRecDepth 20000
namespace Go.Proofs.YtafhoijegjmdcaaGreatDoor
open Go Go.Eng
def jB:TL:= [(4,[(0,[]),(1,[0]),(2,[]),(3,[]),(4,[]),(5,[4]),(6,[4,5]),(7,[4]),(8,[4]),(9,[4,5,6,7,8]),(10,[4,5,6,7,8,9]),(11,[4,5,6,7,8,9]),(12,[4,5,6,7,8]),(13,[4,5,6,7,8]),(14,[]),(15,[]),(16,[])]),(6,[(0,[]),(1,[0]),(2,[0,1]),(3,[0,1,2]),(4,[0,1,2]),(5,rg 5),(6,rg 6),(7,rg 6),(8,rg 5),(9,rg 5),(10,rg 10),(11,rg 11),(12,rg 10),(13,rg 10),(14,[2,3,4]),(15,[2,3,4]),(16,[]),(17,[])])]
def jh (l c:List aZ):Prop:=c.length=l.length∧∀x ∈ c,x ∈ l
theorem sX {l c:List aZ}{j:Nat}{x:aZ}(h:jh l c)(hx:x ∈ l):jh l (c.set j x):=
 ⟨by rw[List.length_set];exact h.1,fun y hy=>by rcases List.mem_or_eq_of_mem_set hy with q|q;exact h.2 y q;subst q;exact hx⟩
theorem Hh (g:FuncId)(cmp:aZ→aZ→Int)(l:List aZ)(hl:l.length≤2^40)
 (hcmp:∀p q,p ∈ l→q ∈ l→ae Tryz.prog g [.agg ((en p).map .d),.agg ((en q).map .d)] [] (fun y r=>y= .d (.int .i64 (cmp p q))∧r= [])):
 ae Tryz.prog 110 [.buf 1000001,.d (.int .i64 0),.d (.int .i64 l.length),.fn g []] [(1000001,aD 96 4 en bH l)]
  (fun y r=>y= .tup []∧∃c,jh l c∧r= [(1000001,aD 96 4 en bH c)]):=by
 refine aj hT Tryz.func110 Tryz.call110 ?_;conv=>whnf
 repeat' ((first|refine aa ?_ ?_<;>intro hb<;>try simp only[am]at hb|refine bg hT jB ?_|omega|refine ao ?_|decide|assumption)<;>conv=>whnf)
 refine af hT (C:= []) (ι:=Nat×List aZ) (fun(i,c)=>1≤i∧(i≤l.length∨i=1)∧jh l c)
  (fun(i,c)=>aJ [(0,.buf 1000001),(1,.d (.int .i64 0)),(2,.d (.int .i64 l.length)),(3,.fn g []),(8,.d (.int .i64 i))] [(1000001,aD 96 4 en bH c)])
  (fun(i,_)=>l.length - i) (1,l) ⟨by simp,by simp,rfl,fun x h=>h⟩ (by exact a7 [(1000001,1000001)]) ?_
 rintro⟨i,c⟩ ⟨p1,p2,p3⟩;have hc0:=p3.1;conv=>whnf
 repeat' ((first|refine aa ?_ ?_<;>intro hb<;>try simp only[am]at hb|refine bg hT jB ?_|omega|refine ao ?_|decide|assumption)<;>conv=>whnf)
 · refine af hT (C:= []) (ι:=Nat×List aZ) (fun(j,c)=>j≤i∧jh l c)
    (fun(j,c)=>aJ [(0,.buf 1000001),(1,.d (.int .i64 0)),(2,.d (.int .i64 l.length)),(3,.fn g []),(8,.d (.int .i64 i)),(9,.d (.int .i64 j))] [(1000001,aD 96 4 en bH c)])
    (fun(j,_)=>j) (i,c) ⟨Nat.le_refl _,p3⟩ (by exact a7 [(1000001,1000001)]) ?_
   rintro⟨j,b⟩ ⟨q1,q3⟩;have hb0:=q3.1;conv=>whnf
   repeat' ((first|refine aa ?_ ?_<;>intro hb<;>try simp only[am]at hb|refine bg hT jB ?_|omega|refine ao ?_|decide|assumption)<;>conv=>whnf)
   · refine dP.of (hcmp (b.getD (j:Int).toNat bH) (b.getD ((j:Int) - 1).toNat bH) (q3.2 _ (al (by omega))) (q3.2 _ (al (by omega)))) [] rfl ⟨lr,lr,trivial⟩ trivial rfl rfl ?_;rintro x rout ⟨rfl,rfl⟩;refine⟨rfl,?_⟩;conv=>whnf
     repeat' ((first|refine aa ?_ ?_<;>intro hb<;>try simp only[am]at hb|refine bg hT jB ?_|omega|refine ao ?_|decide|assumption)<;>conv=>whnf)
     · refine⟨(j - 1,_),⟨by omega,sX (sX q3 (q3.2 _ (al (i:=((j:Int) - 1).toNat) (x:=bH) (by omega)))) (q3.2 _ (al (i:=(j:Int).toNat) (x:=bH) (by omega)))⟩,by show j - 1<j;omega,ac [(1000001,1000001)] rfl rfl ⟨lr,lr,lr,lr,lr,au (by omega),trivial⟩ ⟨eD (fun _=>rfl) (fun _=>rfl),trivial⟩⟩
     · exact⟨(i+1,b),⟨by omega,by omega,q3⟩,by show l.length - (i+1)<l.length - i;omega,(by exact a7 [(1000001,1000001)])⟩
   · exact⟨(i+1,b),⟨by omega,by omega,q3⟩,by show l.length - (i+1)<l.length - i;omega,(by exact a7 [(1000001,1000001)])⟩
 · refine .ret _ ?_;conv=>whnf
   exact⟨_,⟨rfl,c,p3,rfl⟩,rr,trivial⟩
theorem HX (g:FuncId)(cmp:aZ→aZ→Int)(l:List aZ)(hl:l.length<20)
 (hcmp:∀p q,p ∈ l→q ∈ l→ae Tryz.prog g [.agg ((en p).map .d),.agg ((en q).map .d)] [] (fun y r=>y= .d (.int .i64 (cmp p q))∧r= [])):
 ae Tryz.prog 63 [.buf 1000001,.d (.int .i64 l.length),.fn g []] [(1000001,aD 96 4 en bH l)]
  (fun y r=>y= .tup []∧∃c,jh l c∧r= [(1000001,aD 96 4 en bH c)]):=by
 refine aj hT Tryz.func63 Tryz.call63 ?_;conv=>whnf
 refine af hT (C:= []) (ι:=Unit) (fun _=>True) (fun _=>aJ [(0,.buf 1000001),(1,.d (.int .i64 l.length)),(2,.fn g []),(6,.d (.int .i64 20)),(7,.d (.int .i64 0)),(8,.d (.int .i64 20))] [(1000001,aD 96 4 en bH l)]) (fun _=>0) () trivial (by exact a7 [(1000001,1000001)]) ?_;rintro⟨⟩ -;conv=>whnf
 repeat' ((first|refine aa ?_ ?_<;>intro hb<;>try simp only[am]at hb|omega|refine ao ?_|decide|assumption)<;>conv=>whnf)
 refine dp (Hh g cmp l (by omega) hcmp) [(1000001,1000001)] ?_;rintro x rout ⟨rfl,c,hc,rfl⟩;refine⟨rfl,?_⟩;conv=>whnf
 refine af hT (C:= []) (ι:=Unit) (fun _=>True) (fun _=>aJ [(0,.buf 1000001),(1,.d (.int .i64 l.length)),(2,.fn g []),(6,.d (.int .i64 20))] [(1000001,aD 96 4 en bH c)]) (fun _=>0) () trivial (by exact a7 [(1000001,1000001)]) ?_;rintro⟨⟩ -;conv=>whnf
 repeat' ((first|refine aa ?_ ?_<;>intro hb<;>try simp only[am]at hb|omega|refine ao ?_|decide|assumption)<;>conv=>whnf)
 refine .ret _ ?_;conv=>whnf
 exact⟨_,⟨rfl,c,hc,rfl⟩,rr,trivial⟩
theorem xb {a b c:List aZ}(h:jh a b)(k:jh b c):jh a c:=⟨k.1.trans h.1,fun x hx=>h.2 x (k.2 x hx)⟩
theorem Jq (g:FuncId)(l:List aZ):
 ae Tryz.prog 110 [.buf 1000001,.d (.int .i64 20),.d (.int .i64 20),.fn g []] [(1000001,aD 96 4 en bH l)]
  (fun y r=>y= .tup []∧r= [(1000001,aD 96 4 en bH l)]):=by
 refine aj hT Tryz.func110 Tryz.call110 ?_;conv=>whnf
 repeat' ((first|refine aa ?_ ?_<;>intro hb<;>try simp only[am]at hb|refine bg hT jB ?_|omega|refine ao ?_|decide|assumption)<;>conv=>whnf)
 refine af hT (C:= []) (ι:=Unit) (fun _=>True) (fun _=>aJ [(0,.buf 1000001),(1,.d (.int .i64 20)),(2,.d (.int .i64 20)),(3,.fn g []),(8,.d (.int .i64 21))] [(1000001,aD 96 4 en bH l)]) (fun _=>0) () trivial (by exact a7 [(1000001,1000001)]) ?_;rintro⟨⟩ -;conv=>whnf
 repeat' ((first|refine aa ?_ ?_<;>intro hb<;>try simp only[am]at hb|refine bg hT jB ?_|omega|refine ao ?_|decide|assumption)<;>conv=>whnf)
 refine .ret _ ?_;conv=>whnf
 exact⟨_,⟨rfl,rfl⟩,rr,trivial⟩
theorem HY (g:FuncId)(cmp:aZ→aZ→Int)(l:List aZ)(hl:l.length=20)
 (hcmp:∀p q,p ∈ l→q ∈ l→ae Tryz.prog g [.agg ((en p).map .d),.agg ((en q).map .d)] [] (fun y r=>y= .d (.int .i64 (cmp p q))∧r= [])):
 ae Tryz.prog 63 [.buf 1000001,.d (.int .i64 l.length),.fn g []] [(1000001,aD 96 4 en bH l)]
  (fun y r=>y= .tup []∧∃c,jh l c∧r= [(1000001,aD 96 4 en bH c)]):=by
 have h20:(l.length:Int)=20:=by omega
 rw[h20];refine aj hT Tryz.func63 Tryz.call63 ?_;conv=>whnf
 refine af hT (C:= []) (ι:=Bool×List aZ) (fun(_,c)=>jh l c) (fun(b,c)=>aJ [(0,.buf 1000001),(1,.d (.int .i64 20)),(2,.fn g []),(6,.d (.int .i64 20)),(7,.d (.int .i64 (bif b then 20 else 0))),(8,.d (.int .i64 (bif b then 40 else 20)))] [(1000001,aD 96 4 en bH c)]) (fun(b,_)=>bif b then 0 else 1) (false,l) ⟨rfl,fun x h=>h⟩ (by exact a7 [(1000001,1000001)]) ?_;rintro⟨b,c⟩ hc;have hc:jh l c:=hc;cases b
 · have c1:=Hh g cmp c (by have:=hc.1;omega) (fun p q hp hq=>hcmp p q (hc.2 p hp) (hc.2 q hq));have h2:(c.length:Int)=20:=by have:=hc.1;omega
   rw[h2]at c1;conv=>whnf
   repeat' ((first|refine aa ?_ ?_<;>intro hb<;>try simp only[am]at hb|omega|refine ao ?_|decide|assumption)<;>conv=>whnf)
   refine dp c1 [(1000001,1000001)] ?_;rintro x rout ⟨rfl,d,hd,rfl⟩;refine⟨rfl,?_⟩;conv=>whnf
   repeat' ((first|refine aa ?_ ?_<;>intro hb<;>try simp only[am]at hb|omega|refine ao ?_|decide|assumption)<;>conv=>whnf)
   exact⟨(true,d),xb hc hd,by show(0:Nat)<1;omega,(by exact a7 [(1000001,1000001)])⟩
 · conv=>whnf
   repeat' ((first|refine aa ?_ ?_<;>intro hb<;>try simp only[am]at hb|omega|refine ao ?_|decide|assumption)<;>conv=>whnf)
   refine bP (Jq g c) [(1000001,1000001)] ?_;conv=>whnf
   refine af hT (C:= []) (ι:=Unit) (fun _=>True) (fun _=>aJ [(0,.buf 1000001),(1,.d (.int .i64 20)),(2,.fn g []),(6,.d (.int .i64 20))] [(1000001,aD 96 4 en bH c)]) (fun _=>0) () trivial (by exact a7 [(1000001,1000001)]) ?_;rintro⟨⟩ -;conv=>whnf
   repeat' ((first|refine aa ?_ ?_<;>intro hb<;>try simp only[am]at hb|omega|refine ao ?_|decide|assumption)<;>conv=>whnf)
   refine .ret _ ?_;conv=>whnf
   exact⟨_,⟨rfl,c,hc,rfl⟩,rr,trivial⟩
theorem K9 (g:FuncId)(cmp:aZ→aZ→Int)(l:List aZ)(hl:l.length≤20)
 (hcmp:∀p q,p ∈ l→q ∈ l→ae Tryz.prog g [.agg ((en p).map .d),.agg ((en q).map .d)] [] (fun y r=>y= .d (.int .i64 (cmp p q))∧r= [])):
 ae Tryz.prog 63 [.buf 1000001,.d (.int .i64 l.length),.fn g []] [(1000001,aD 96 4 en bH l)]
  (fun y r=>y= .tup []∧∃c,jh l c∧r= [(1000001,aD 96 4 en bH c)]):=by
 rcases Nat.lt_or_ge l.length 20 with h|h
 · exact HX g cmp l h hcmp
 · exact HY g cmp l (by omega) hcmp
theorem Kn (g:FuncId)(cmp:aZ→aZ→Int)(l:List aZ)(hl:l.length≤20)
 (hcmp:∀p q,p ∈ l→q ∈ l→ae Tryz.prog g [.agg ((en p).map .d),.agg ((en q).map .d)] [] (fun y r=>y= .d (.int .i64 (cmp p q))∧r= [])):
 ae Tryz.prog 32 [.buf 1000001,.fn g []] [(1000001,aD 96 4 en bH l)]
  (fun y r=>y= .tup []∧∃c,jh l c∧r= [(1000001,aD 96 4 en bH c)]):=by
 refine aj hT Tryz.func32 Tryz.call32 ?_;conv=>whnf
 repeat' ((first|refine aa ?_ ?_<;>intro hb<;>try simp only[am]at hb|omega|refine ao ?_|decide|assumption)<;>conv=>whnf)
 refine dp (K9 g cmp l hl hcmp) [(1000001,1000001)] ?_;rintro x rout ⟨rfl,c,hc,rfl⟩;refine⟨rfl,?_⟩;conv=>whnf
 refine .ret _ ?_;conv=>whnf
 exact⟨_,⟨rfl,c,hc,rfl⟩,rr,trivial⟩
def Fi:TL:= [(9,[(0,[]),(1,[]),(2,[]),(3,[]),(4,[3]),(5,[3]),(6,[]),(7,[]),(8,[3,4,5,6,7]),(9,[]),(10,[]),(11,[])])]
theorem DW {p:Nat→Bool}{n k:Nat}(hk:k<n)(h:p k=true):0≤gT p n:=by
 have hb:=eB (p:=p) (n:=n);rcases Int.lt_or_le (gT p n) 0 with q|q
 · exfalso
   have hn :∀m,gT p m<0→∀j,j<m→p j=false:=by
    intro m
    induction m with
    |zero=>intro _ j hj;omega
    | succ m ih=>
      intro hm j hj;rw[gT]at hm;split at hm
      · rename_i hz
        by_cases hjm:j=m
        · subst hjm;split at hm
          · omega
          · rename_i hf;simpa using hf
        · exact ih (by omega) j (by omega)
      · rename_i hz;have:=(eB (p:=p) (n:=m)).1;omega
   rw[hn n q k hk]at h;cases h
 · exact q
theorem DJ {a b:aZ}:a=b↔((a.tm=b.tm∧a.desk=b.desk)∧a.no=b.no)∧a.words=b.words:=by cases a;cases b;simp[and_assoc]
instance:DecidableEq aZ:=fun _ _=>decidable_of_iff _ DJ.symm
def enHas (l:List aZ):List DV→Bool
 | [.str a,.int .i64 b]=>l.any fun y=>y.desk==a&&decide (y.no=b)
 |_=>false
def oH (l:List aZ)(x:aZ):Bool:=enHas l [.str x.desk,.int .i64 x.no]
abbrev Lr (l:List aZ):bh:=.map true false [.str,.int .i64] [.bool false] (enHas l) (fun k=> [.bool (enHas l k)])
def sQ (y x:aZ):Bool:=y.desk==x.desk&&decide (y.no=x.no)
def kr (x:aZ):bh:=.cells 96 ((en x).map .d)
theorem MN (y x:aZ):ae Tryz.prog 42 [.agg ((en y).map .d),.ptr 1000001 0] [(1000001,kr x)] (fun v r=>v= .d (.bool (sQ y x))∧r= [(1000001,kr x)]):=by
 refine aj hT Tryz.func42 Tryz.call42 ?_;conv=>whnf
 repeat' ((first|refine aa ?_ ?_<;>intro hb<;>try simp only[am]at hb|omega|refine ao ?_|decide|assumption)<;>conv=>whnf)
 all_goals
  refine .ret _ ?_;conv=>whnf
  refine⟨[(1000001,kr x)],⟨?_,rfl⟩,rr,trivial⟩;conv=>lhs;whnf
  congr 2
  unfold sQ
  first
   |(rw[hb];simp;done)
   | (have:(y.desk==x.desk)=false:=by simpa using hb
      rw[this];rfl)
   |simp_all
theorem KQ (l:List aZ)(hl:l.length≤2^40)(x:aZ):ae Tryz.prog 88 [.d (fN l),.fn 42 [.ptr 1000001 0]] [(1000001,kr x)] (fun v r=>v= .d (.int .i64 (gT (fun i=>sQ (l.getD i bH) x) l.length))∧r= [(1000001,kr x)]):=by
 refine aj hT Tryz.func88 Tryz.call88 ?_;conv=>whnf
 refine af hT (C:= []) (ι:=Nat) (fun i=>i≤l.length∧∀j,j<i→sQ (l.getD j bH) x=false) (fun i=>aJ [(0,.d (fN l)),(1,.fn 42 [.ptr 1000001 0]),(7,.d (.int .i64 l.length)),(8,.d (.int .i64 i))] [(1000001,kr x)]) (fun i=>l.length - i) 0 ⟨by omega,by omega⟩ (by exact a7 [(1000001,1000001)]) ?_;rintro i ⟨p1,p2⟩;have e1:=ek i;conv=>whnf
 repeat' ((first|(refine bP (MN (l.getD (i:Int).toNat bH) x) [(1000001,1000001)] ?_)|refine aa ?_ ?_<;>intro hb<;>try simp only[am]at hb|omega|refine ao ?_|decide|assumption)<;>conv=>whnf)
 · refine .ret _ ?_;conv=>whnf
   refine⟨[(1000001,kr x)],⟨?_,rfl⟩,rr,trivial⟩;conv=>lhs;whnf
   congr 2
   exact(d5 (by omega) p2 (by simpa using hb)).symm
 · exact⟨i+1,⟨by omega,aV p2 (by simpa using hb)⟩,by omega,(by exact a7 [(1000001,1000001)])⟩
 · refine .ret _ ?_;conv=>whnf
   refine⟨[(1000001,kr x)],⟨?_,rfl⟩,rr,trivial⟩;conv=>lhs;whnf
   congr 2
   have:i=l.length:=by omega
   subst this;exact(dr p2).symm
theorem H8 (l:List aZ)(x:aZ):decide (0≤gT (fun i=>sQ (l.getD i bH) x) l.length)=oH l x:=by
 rw[Bool.eq_iff_iff,decide_eq_true_eq];show _↔(l.any fun y=>y.desk==x.desk&&decide (y.no=x.no))=true;rw[List.any_eq_true];constructor
 · intro h;have:=eB (p:=fun i=>sQ (l.getD i bH) x) (n:=l.length);exact⟨_,al (x:=bH) (by omega),this.2.2 h⟩
 · rintro⟨y,hy,he⟩;obtain⟨j,hj,rfl⟩:=bI (d:=bH) hy;exact DW hj he
theorem MP (l:List aZ)(hl:l.length≤2^40)(x:aZ):ae Tryz.prog 41 [.d (fN l),.fn 42 [.ptr 1000001 0]] [(1000001,kr x)] (fun v r=>v= .d (.bool (oH l x))∧r= [(1000001,kr x)]):=by
 refine aj hT Tryz.func41 Tryz.call41 ?_;conv=>whnf
 repeat' ((first|(refine bP (KQ l hl x) [(1000001,1000001)] ?_)|refine aa ?_ ?_<;>intro hb<;>try simp only[am]at hb|omega|refine ao ?_|decide|assumption)<;>conv=>whnf)
 refine .ret _ ?_;conv=>whnf
 refine⟨[(1000001,kr x)],⟨?_,rfl⟩,rr,trivial⟩;conv=>lhs;whnf
 rw[←H8]
def oA (x:aZ):Int:=if ¬ (0≤x.tm∧x.tm≤5761439)then 1 else if aN x.desk=false then 5 else if ¬ (1≤x.no∧x.no≤1000000)then 1 else if ¬ (1≤x.words.length∧x.words.length≤200)then 3 else if IJ x.words=false then 3 else 0
def pP (l:List aZ)(i:Nat):Int:=if oA (l.getD i bH)≠0 then oA (l.getD i bH)else if 0<i∧0≤fa (l.getD (i - 1) bH) (l.getD i bH)then 7 else if oH (l.take i) (l.getD i bH)=true then 6 else 0
def cx (l:List aZ):Int:=if 1000<l.length then 2 else a8 (pP l) l.length
def rQ (x:aZ):Prop:=(x.desk.length≤2^40∧x.words.length≤2^40)∧wJ x
def ku (l:List aZ):Prop:=l.length≤2^40∧∀x ∈ l,rQ x
theorem MV (x:aZ)(hk:rQ x):ae Tryz.prog 40 [.agg ((en x).map .d)] [] (fun v r=>v= .d (.int .i64 (oA x))∧r= []):=by
 have hw:=hk.1.2;refine aj hT Tryz.func40 Tryz.call40 ?_;conv=>whnf
 repeat' (first|(refine ab (Gd _) rfl rfl ?_;rotate_right;conv=>whnf)|(refine ab (vB _ hk.1.1) rfl rfl ?_;rotate_right;conv=>whnf)|(refine ab (HG _ _ _) rfl rfl ?_;rotate_right;conv=>whnf)|((first|refine aa ?_ ?_<;>intro hb<;>try simp only[am]at hb|omega|refine ao ?_|decide|assumption)<;>conv=>whnf))
 iterate 4
  · refine .ret _ ?_;conv=>whnf
    refine⟨[],⟨?_,rfl⟩,trivial⟩;conv=>lhs;whnf
    congr 2
    unfold oA;grind
 have hf:oA x=if IJ x.words=false then 3 else 0:=by unfold oA;grind
 rw[hf];refine af hT (C:= []) (ι:=Nat) (fun i=>i≤x.words.length∧∀j,j<i→32≤(x.words.getD j 0).toNat∧(x.words.getD j 0).toNat≤126) (fun i=>aJ [(1,.ptr 1 0),(27,.d (.int .i64 x.words.length)),(28,.d (.int .i64 i))] [(1,kr x)]) (fun i=>x.words.length - i) 0 ⟨by omega,by omega⟩ (by exact a7 [(1,1)]) ?_;rintro i ⟨p1,p2⟩;have e1:=ek i;have hby:(x.words.getD (i:Int).toNat 0).toNat<256:=UInt8.toNat_lt _;have hby2:(x.words.getD i 0).toNat<256:=UInt8.toNat_lt _;conv=>whnf
 repeat' (first|(refine ab (HG _ _ _) rfl rfl ?_;rotate_right;conv=>whnf)|((first|refine aa ?_ ?_<;>intro hb<;>try simp only[am]at hb|omega|refine ao ?_|decide|assumption)<;>conv=>whnf))
 · refine .ret _ ?_;conv=>whnf
   refine⟨[],⟨?_,rfl⟩,trivial⟩;conv=>lhs;whnf
   congr 2
   rw[tZ (i:=i) (by omega) (by omega)];rfl
 · exact⟨i+1,⟨by omega,aV p2 (by omega)⟩,by omega,(by exact a7 [(1,1)])⟩
 · refine .ret _ ?_;conv=>whnf
   refine⟨[],⟨?_,rfl⟩,trivial⟩;conv=>lhs;whnf
   congr 2
   have:i=x.words.length:=by omega
   subst this;rw[vv.2 p2];rfl
theorem Dw {l:List aZ}{i:Nat}(h:i≤l.length):SV.le (.d (.ro 4 i fun j=>aR en bH l (0+j))) (.d (fN (l.take i))):=
 cO (by rw[List.length_take];omega) (fun j hj=>by
  simp only[Nat.zero_add,aR]
  rw[List.getD_eq_getElem?_getD,List.getD_eq_getElem?_getD,List.getElem?_take_of_lt hj])
theorem qL {l:List aZ}{i:Nat}{e:Int}(h0:¬ 1000<l.length)(h:i<l.length)(p:∀j,j<i→pP l j=0)(h1:e≠0)(h2:pP l i=e):cx l=e:=by
 unfold cx;rw[if_neg h0];exact aP h p h1 h2
theorem La (l:List aZ)(hk:ku l):ae Tryz.prog 13 [.d (fN l)] [] (fun x r=>x= .d (.int .i64 (cx l))∧r= []):=by
 refine aj hT Tryz.func13 Tryz.call13 ?_;conv=>whnf
 refine aa (fun h0=> ?_) (fun h0=> ?_)
 · simp at h0;conv=>whnf
   refine .ret _ ?_;conv=>whnf
   refine⟨[],⟨?_,rfl⟩,trivial⟩;conv=>lhs;whnf
   unfold cx;rw[if_pos (by omega)]
 simp at h0;conv=>whnf
 refine af hT (C:= []) (ι:=Nat) (fun i=>i≤l.length∧∀j,j<i→pP l j=0) (fun i=>aJ [(0,.d (fN l)),(9,.d (fN l)),(10,.d (.int .i64 l.length)),(11,.d (.int .i64 i))] []) (fun i=>l.length - i) 0 ⟨by omega,by omega⟩ (by exact a7 []) ?_;rintro i ⟨p1,p2⟩;have e1:=ek i;have hx:∀i,i<l.length→rQ (l.getD i bH):=fun i hi=>hk.2 _ (al hi)
 have hK:rQ (l.getD (i:Int).toNat bH):=by
  rw[e1];rcases Nat.lt_or_ge i l.length with q|q
  · exact hx i q
  · rw[List.getD_eq_getElem?_getD,List.getElem?_eq_none q];simp[rQ,wJ,bH]
 have hK2:rQ (l.getD ((i:Int) - 1).toNat bH):=by
  rcases Nat.lt_or_ge ((i:Int) - 1).toNat l.length with q|q
  · exact hx _ q
  · rw[List.getD_eq_getElem?_getD,List.getElem?_eq_none q];simp[rQ,wJ,bH]
 have hD:=MP (l.take (i:Int).toNat) (by rw[List.length_take];have:=hk.1;omega) (l.getD (i:Int).toNat bH);conv=>whnf
 repeat' (first|(refine ab (MV _ hK) rfl rfl ?_;rotate_right;conv=>whnf)|(refine ab (JS (l.getD ((i:Int) - 1).toNat bH) (l.getD (i:Int).toNat bH) hK2.2 hK.2) rfl rfl ?_;rotate_right;conv=>whnf)|((first|(refine dP.of hD [(1000001,4)] rfl ⟨Dw (by omega),lr,trivial⟩ ⟨rr,trivial⟩ rfl rfl ?_;rintro v rout ⟨rfl,rfl⟩;refine⟨rfl,?_⟩)|refine aa ?_ ?_<;>intro hb<;>try simp only[am]at hb|refine bg hT Fi ?_|omega|refine ao ?_|decide|assumption)<;>conv=>whnf))
 all_goals clear hD hK hK2 hx
 all_goals first
  |(refine⟨i+1,⟨by omega,aL p2 (by clear p2 hk;simp only[e1,aE]at*;unfold pP;grind)⟩,by omega,(by exact a7 [])⟩)
  | (refine .ret _ ?_
     conv=>whnf
     refine⟨[],⟨?_,rfl⟩,trivial⟩;conv=>lhs;whnf
     congr 2
     first
      |exact(qL (by omega) (by omega) p2 hb (by clear p2 hk;simp only[e1,aE]at*;unfold pP;grind)).symm
      |exact(qL (by omega) (by omega) p2 (by decide) (by clear p2 hk;simp only[e1,aE]at*;unfold pP;grind)).symm
      | (have:i=l.length:=by omega
         subst this
         unfold cx;rw[if_neg (by omega),ay p2]))
def Ga:TL:= [(16,[(0,[]),(1,[]),(2,[]),(3,[]),(4,[3]),(5,[3]),(6,[]),(7,[]),(8,[3,4,5,6,7]),(9,[]),(10,[]),(11,[]),(12,[])])]
theorem tF {key:List DV}(h:wk [.str,.int .i64] key=true):∃a b,key= [.str a,.int .i64 b]:=by
 match key,h with
 | [.str a,.int k d],h=>
   have:IntKind.i64=k:=fV (by simpa [wk,gK]using h);subst this
   exact⟨a,d,rfl⟩
 | .str _:: .int _ _::_::_,h=>simp[wk]at h
theorem yL {l:List aZ}{i:Nat}{x:aZ}(hi:i<l.length)(hx:x=l.getD i bH):
 bh.le (.map true false [.str,.int .i64] [.bool false] (fun q=>az q [.str x.desk,.int .i64 x.no]||enHas (l.take i) q) (fun q=>bif az q [.str x.desk,.int .i64 x.no]then [.bool true]else [.bool (enHas (l.take i) q)])) (Lr (l.take (i+1))):=bn fun K hK=>by
 obtain⟨a,b,rfl⟩:=tF hK
 have e:l.take (i+1)=l.take i++ [x]:=by
  rw[hx,List.take_add_one];simp[List.getD_eq_getElem?_getD,hi]
 have h1:enHas (l.take (i+1)) [.str a,.int .i64 b]=(enHas (l.take i) [.str a,.int .i64 b]||(x.desk==a&&decide (x.no=b))):=by
  show(l.take (i+1)).any _=_;rw[e,List.any_append];simp[enHas]
 have h2:az [.str a,.int .i64 b] [.str x.desk,.int .i64 x.no]=(x.desk==a&&decide (x.no=b)):=by
  rw[Bool.eq_iff_iff];simp[az,dn];grind
 rw[h1,h2];cases hq:(x.desk==a&&decide (x.no=b))<;>simp
theorem Fm (l:List aZ)(hk:ku l):ae Tryz.prog 68 [.d (fN l)] [] (fun x r=>x= .d (.int .i64 (cx l))∧r= []):=by
 refine aj hT Tryz.func68 Tryz.call68 ?_;conv=>whnf
 refine aa (fun h0=> ?_) (fun h0=> ?_)
 · simp at h0;conv=>whnf
   refine .ret _ ?_;conv=>whnf
   refine⟨[],⟨?_,rfl⟩,trivial⟩;conv=>lhs;whnf
   unfold cx;rw[if_pos (by omega)]
 simp at h0;conv=>whnf
 refine af hT (C:= []) (ι:=Nat) (fun i=>i≤l.length∧∀j,j<i→pP l j=0) (fun i=>aJ [(0,.d (fN l)),(3,.mp 3),(11,.d (fN l)),(12,.d (.int .i64 l.length)),(13,.d (.int .i64 i))] [(3,Lr (l.take i))]) (fun i=>l.length - i) 0 ⟨by omega,by omega⟩ ?_ ?_
 · refine ac [(3,10)] rfl rfl ⟨lr,lr,lr,lr,lr,trivial⟩ ⟨bn (fun key hk=> ?_),trivial⟩;obtain⟨a,b,rfl⟩:=tF hk;exact⟨rfl,rfl⟩
 rintro i ⟨p1,p2⟩;have e1:=ek i;have hx:∀i,i<l.length→rQ (l.getD i bH):=fun i hi=>hk.2 _ (al hi)
 have hK:rQ (l.getD (i:Int).toNat bH):=by
  rw[e1];rcases Nat.lt_or_ge i l.length with q|q
  · exact hx i q
  · rw[List.getD_eq_getElem?_getD,List.getElem?_eq_none q];simp[rQ,wJ,bH]
 conv=>whnf
 repeat' (first|(refine ab (Ib _) rfl rfl ?_;rotate_right;conv=>whnf)|(refine ab (kV _ hK.1.1) rfl rfl ?_;rotate_right;conv=>whnf)|(refine ab (jY _ _ _) rfl rfl ?_;rotate_right;conv=>whnf)|(refine ab (JQ _ hK.1.2) rfl rfl ?_;rotate_right;conv=>whnf)|(refine ab (Hu (l.getD ((i:Int) - 1).toNat bH) (l.getD (i:Int).toNat bH)) rfl rfl ?_;rotate_right;conv=>whnf)|(refine And.intro (rfl:bt _=some [DV.bool false]) ?_;conv=>whnf)|(simp only[Nat.beq_refl,cond_true];conv=>whnf)|((first|refine aa ?_ ?_<;>intro hb<;>try simp only[am]at hb|refine bg hT Ga ?_|omega|refine ao ?_|decide|assumption)<;>conv=>whnf))
 all_goals have hwl:(l.getD i bH).words= []↔(l.getD i bH).words.length=0:=List.length_eq_zero_iff.symm
 all_goals clear hK hx
 all_goals first
  |(refine⟨i+1,⟨by omega,aL p2 (by clear p2 hk;simp only[e1,aE]at*;unfold pP oA oH;grind)⟩,by omega,ac [(3,3)] rfl rfl ⟨lr,lr,lr,lr,lr,trivial⟩ ⟨yL (x:=l.getD (i:Int).toNat bH) (by omega) (by rw[e1]),trivial⟩⟩)
  | (refine .ret _ ?_
     conv=>whnf
     refine⟨[],⟨?_,rfl⟩,trivial⟩;conv=>lhs;whnf
     congr 2
     first
      |exact(qL (by omega) (by omega) p2 (by decide) (by clear p2 hk;simp only[e1,aE]at*;unfold pP oA oH;grind)).symm
      | (have:i=l.length:=by omega
         subst this
         unfold cx;rw[if_neg (by omega),ay p2]))
theorem Ft:∀ (k u:Nat),u<10 ^ (k+1)→(Lib.decDigits u).length≤k+1:=by
 intro k
 induction k with
 | zero=>
   intro u h
   rw[Lib.decDigits,dif_pos (by omega)];simp
 | succ k ih=>
   intro u h;rw[Lib.decDigits];split
   · simp
   · have:=ih (u/10) (by rw[Nat.pow_succ]at h;omega);simp;omega
theorem Cd {n:Int}(h0: -2^60≤n)(h1:n≤2^60):(Lib.itoa n).length≤20:=by
 have key:∀u:Nat,u≤2^60→(Lib.decDigits u).length≤19:=fun u hu=>Ft 18 u (by omega)
 unfold Lib.itoa;split
 · have:=key n.natAbs (by omega);simp;omega
 · have:=key n.toNat (by omega);omega
theorem NB (n :Nat)(L:Nat→Int)(hL:oW n L)(a:Int)(h0:0≤a)(ha:a≤2^37)(at':Int)(hq1: -2^40≤at')(hq2:at'≤2^40):
 ae Tryz.prog 30 [.ptr 1000000 0,.d (.int .i64 at')] [(1000000,bd n L a),(1000009,KX)] (fun y r=>(∃t:List UInt8,t.length≤2^10∧y= .d (.str t))∧Ik n L a 20 r):=by
 have hI:∀k:Int,-2^60≤k→k≤2^60→(Lib.itoa k).length≤20:=fun k h1 h2=>Cd h1 h2
 refine aj hT Tryz.func30 Tryz.call30 ?_;conv=>whnf
 repeat' (first|(refine dP.of (mI n L hL _ ?_ ?_ [[118,49],[118,49],[118,50],[118,51],[110,111,110,101]] (by simp) (by simp)) [(1000000,1000000)] rfl ⟨lr,ai rfl rfl,trivial⟩ ⟨rr,trivial⟩ rfl rfl ?_;rotate_right;rintro x rout ⟨⟨u0,hu0,rfl⟩,⟨c,c1,c2,rfl⟩⟩;have hw0:=bu hu0 rfl;refine⟨rfl,?_⟩;conv=>whnf)|(refine dP.of (mI n L hL _ ?_ ?_ [[115,49],[115,49],[115,49],[115,50],[115,57]] (by simp) (by simp)) [(1000000,1000000)] rfl ⟨lr,ai rfl rfl,trivial⟩ ⟨rr,trivial⟩ rfl rfl ?_;rotate_right;rintro x rout ⟨⟨u1,hu1,rfl⟩,⟨c,c1,c2,rfl⟩⟩;have hw1:=bu hu1 rfl;refine⟨rfl,?_⟩;conv=>whnf)|(refine dP.of (mI n L hL _ ?_ ?_ [[104,49],[104,49],[104,50],[104,51],[65]] (by simp) (by simp)) [(1000000,1000000)] rfl ⟨lr,ai rfl rfl,trivial⟩ ⟨rr,trivial⟩ rfl rfl ?_;rotate_right;rintro x rout ⟨⟨u2,hu2,rfl⟩,⟨c,c1,c2,rfl⟩⟩;have hw2:=bu hu2 rfl;refine⟨rfl,?_⟩;conv=>whnf)|(refine dP.of (mI n L hL _ ?_ ?_ [[115,104,111,112],[100,111,110,101],[99,111,109,101],[103,111,110,101]] (by simp) (by simp)) [(1000000,1000000)] rfl ⟨lr,ai rfl rfl,trivial⟩ ⟨rr,trivial⟩ rfl rfl ?_;rotate_right;rintro x rout ⟨⟨u3,hu3,rfl⟩,⟨c,c1,c2,rfl⟩⟩;have hw3:=bu hu3 rfl;refine⟨rfl,?_⟩;conv=>whnf)|(refine dP.of (mI n L hL _ ?_ ?_ [[115,50],[115,49],[115,57]] (by simp) (by simp)) [(1000000,1000000)] rfl ⟨lr,ai rfl rfl,trivial⟩ ⟨rr,trivial⟩ rfl rfl ?_;rotate_right;rintro x rout ⟨⟨u4,hu4,rfl⟩,⟨c,c1,c2,rfl⟩⟩;have hw4:=bu hu4 rfl;refine⟨rfl,?_⟩;conv=>whnf)|(refine dP.of (mI n L hL _ ?_ ?_ [[109,105,110,105],[109,105,100,105],[110,111,110,101]] (by simp) (by simp)) [(1000000,1000000)] rfl ⟨lr,ai rfl rfl,trivial⟩ ⟨rr,trivial⟩ rfl rfl ?_;rotate_right;rintro x rout ⟨⟨u5,hu5,rfl⟩,⟨c,c1,c2,rfl⟩⟩;have hw5:=bu hu5 rfl;refine⟨rfl,?_⟩;conv=>whnf)|(refine dP.of (mI n L hL _ ?_ ?_ [[53,48],[49,48,48],[49,48,49]] (by simp) (by simp)) [(1000000,1000000)] rfl ⟨lr,ai rfl rfl,trivial⟩ ⟨rr,trivial⟩ rfl rfl ?_;rotate_right;rintro x rout ⟨⟨u6,hu6,rfl⟩,⟨c,c1,c2,rfl⟩⟩;have hw6:=bu hu6 rfl;refine⟨rfl,?_⟩;conv=>whnf)|(refine dP.of (mI n L hL _ ?_ ?_ [[48],[49,48,48],[57,57,57,57,57,48]] (by simp) (by simp)) [(1000000,1000000)] rfl ⟨lr,ai rfl rfl,trivial⟩ ⟨rr,trivial⟩ rfl rfl ?_;rotate_right;rintro x rout ⟨⟨u7,hu7,rfl⟩,⟨c,c1,c2,rfl⟩⟩;have hw7:=bu hu7 rfl;refine⟨rfl,?_⟩;conv=>whnf)|(refine dP.of (mI n L hL _ ?_ ?_ [[56],[52],[57]] (by simp) (by simp)) [(1000000,1000000)] rfl ⟨lr,ai rfl rfl,trivial⟩ ⟨rr,trivial⟩ rfl rfl ?_;rotate_right;rintro x rout ⟨⟨u8,hu8,rfl⟩,⟨c,c1,c2,rfl⟩⟩;have hw8:=bu hu8 rfl;refine⟨rfl,?_⟩;conv=>whnf)|(refine dP.of (mI n L hL _ ?_ ?_ [[53],[51,48,48],[52,48,48]] (by simp) (by simp)) [(1000000,1000000)] rfl ⟨lr,ai rfl rfl,trivial⟩ ⟨rr,trivial⟩ rfl rfl ?_;rotate_right;rintro x rout ⟨⟨u9,hu9,rfl⟩,⟨c,c1,c2,rfl⟩⟩;have hw9:=bu hu9 rfl;refine⟨rfl,?_⟩;conv=>whnf)|(refine dP.of (mI n L hL _ ?_ ?_ [[56],[50]] (by simp) (by simp)) [(1000000,1000000)] rfl ⟨lr,ai rfl rfl,trivial⟩ ⟨rr,trivial⟩ rfl rfl ?_;rotate_right;rintro x rout ⟨⟨u10,hu10,rfl⟩,⟨c,c1,c2,rfl⟩⟩;have hw10:=bu hu10 rfl;refine⟨rfl,?_⟩;conv=>whnf)|(refine dP.of (jF n L hL _ ?_ ?_ [10,60,1440,2000,-5] (by simp) (by simp)) [(1000000,1000000)] rfl ⟨lr,ai rfl rfl,trivial⟩ ⟨rr,trivial⟩ rfl rfl ?_;rotate_right;rintro x rout ⟨⟨n1,hn1,rfl⟩,⟨c,c1,c2,rfl⟩⟩;have hm1:=CI hn1 rfl;have hm1a:=hm1.1;have hm1b:=hm1.2;refine⟨rfl,?_⟩;conv=>whnf)|(refine dP.of (jF n L hL _ ?_ ?_ [0,10,100] (by simp) (by simp)) [(1000000,1000000)] rfl ⟨lr,ai rfl rfl,trivial⟩ ⟨rr,trivial⟩ rfl rfl ?_;rotate_right;rintro x rout ⟨⟨n2,hn2,rfl⟩,⟨c,c1,c2,rfl⟩⟩;have hm2:=CI hn2 rfl;have hm2a:=hm2.1;have hm2b:=hm2.2;refine⟨rfl,?_⟩;conv=>whnf)|(refine dp (wA n L hL _ ?_ ?_ _ ?_) [(1000000,1000000)] ?_;rotate_right;rintro x rout ⟨⟨j,hj1,hj2,hj3,rfl⟩,⟨c,c1,c2,rfl⟩⟩;refine⟨rfl,?_⟩;conv=>whnf)|((first|refine cy (EK _ (by omega) (by omega)) rfl rfl rfl rfl ?_|(refine dP.of (mI n L hL _ (by omega) (by omega) [_,_,_,_,_,_,_,_] (by simp) (by simp)) [(1000000,1000000)] rfl ⟨lr,ai rfl rfl,trivial⟩ ⟨rr,trivial⟩ rfl rfl ?_;rintro x rout ⟨⟨z,hz,rfl⟩,⟨c9,c91,c92,rfl⟩⟩;refine⟨rfl,?_⟩)|(refine And.intro (by simp only[List.length_append,List.toList_toArray,List.length_cons,List.length_nil];have i1:=hI (at'+n1) (by omega) (by omega);first|omega|(have i2:=hI (at'+n2) (by omega) (by omega);omega)) ?_)|refine aa ?_ ?_<;>intro hb<;>try simp only[am]at hb|omega|refine ao ?_|decide|assumption)<;>conv=>whnf))
 all_goals refine .ret _ ?_
 all_goals conv=>whnf
 all_goals refine⟨[(1000000,bd n L _),(1000009,KX)],⟨⟨_,?_,rfl⟩,⟨_,?_,?_,rfl⟩⟩,rr,rr,trivial⟩
 all_goals first
  |omega
  | (have i1:=hI (at'+n1) (by omega) (by omega)
     first
      | (simp only[List.length_append,List.toList_toArray,List.length_cons,List.length_nil]
         first
          |omega
          |(have i2:=hI (at'+n2) (by omega) (by omega);omega))
      | (simp only[List.mem_cons,List.not_mem_nil,or_false]at hz
         rcases hz with rfl|rfl|rfl|rfl|rfl|rfl|rfl|rfl<;>simp only[List.length_append,List.toList_toArray,List.length_cons,List.length_nil]<;>omega))
def Dm:TL:= [(9,[(0,[]),(1,[0]),(2,[0,1]),(3,[0,1,2]),(4,[0,1]),(5,rg 5),(6,rg 6),(9,rg 7),(7,[0,1,2,3,4,9]),(8,[9]),(10,[])])]
abbrev M5 (l:List aZ):bh:=aD 96 4 en bH l
def cf:List DV→List UInt8
 | [.str s]=>s
 |_=> []
abbrev Ov (g:List UInt8→Int):bh:=.map false false [.str] [.int .i64 0] (fun K=>decide (0<g (cf K))) (fun K=> [.int .i64 (g (cf K))])
def He (g:List UInt8→Int)(x:List UInt8):List UInt8→Int:=fun s=>if s=x then g x+1 else g s
theorem dL {K:List DV}(h:wk [.str] K=true):∃s,K= [.str s]:=by
 match K,h with
 | [.str s],_=>exact⟨s,rfl⟩
theorem Ig {g:List UInt8→Int}{x:List UInt8}(h0:∀k,0≤g k):
 bh.le (.map false false [.str] [.int .i64 0] (fun q=>az q [.str x]||decide (0<g (cf q))) (fun q=>bif az q [.str x]then [.int .i64 (g x+1)]else [.int .i64 (g (cf q))])) (Ov (He g x)):=bn fun K hK=>by
 obtain⟨s,rfl⟩:=dL hK
 have e:az [.str s] [.str x]=decide (s=x):=by
  rw[Bool.eq_iff_iff];simp[az,dn]
 rw[e];show(decide (s=x)||decide (0<g s))=decide (0<He g x s)∧(bif decide (s=x)then [DV.int .i64 (g x+1)]else [.int .i64 (g s)])= [.int .i64 (He g x s)];unfold He
 by_cases q:s=x
 · subst q;have:=h0 s;simp;omega
 · simp[q]
theorem lS (x:List UInt8):az [.str x] [.str x]=true:=by simp[az,dn]
def Iu (x:aZ):Prop:=(x.desk.length≤8∧x.words.length≤2^10)∧wJ x
theorem KA {u:Int}(h:u ∈ ([0,1,5,10,100,500]:List Int)):0≤u∧u≤500:=by
 simp only[List.mem_cons,List.not_mem_nil,or_false]at h;omega
theorem OK (n:Nat)(L:Nat→Int)(hL:oW n L)(a:Int)(h0:0≤a)(ha:a≤2^36)(m:Int)(hm1:0≤m)(hm2:m≤20):
 ae Tryz.prog 5 [.ptr 1000000 0,.d (.int .i64 m)] [(1000000,bd n L a),(1000009,KX)] (fun y r=>∃l:List aZ,∃b,dA Iu m.toNat l∧(a≤b∧b≤a+1000)∧y= .buf 5∧r= [(5,M5 l),(1000000,bd n L b),(1000009,KX)]):=by
 refine aj hT Tryz.func5 Tryz.call5 ?_;conv=>whnf
 refine af hT (C:= []) (ι:=Int×List aZ×Nat×Int×(List UInt8→Int)) (fun(b,l,k,t,g)=>(a≤b∧b≤a+50*k∧(k:Int)≤m)∧dA Iu k l∧(0≤t∧t≤2000*k)∧(∀s,0≤g s∧g s≤k))
  (fun(b,l,k,t,g)=>aJ [(0,.ptr 1000000 0),(5,.buf 5),(6,.d (.int .i64 t)),(7,.mp 7),(11,.d (.int .i64 m)),(12,.d (.int .i64 k))] [(1000000,bd n L b),(1000009,KX),(5,M5 l),(7,Ov g)])
  (fun(_,_,k,_,_)=>30 - k) (a,[],0,0,fun _=>0) ⟨⟨by simp,by simp,by simpa using hm1⟩,⟨by simp,by simp⟩,⟨by simp,by simp⟩,by simp⟩ ?_ ?_
 · refine(du.nil 5 5 96 4 (aR en bH []) rfl rfl (by decide)).trans (ac [(1000000,1000000),(1000009,1000009),(5,5),(7,10)] rfl rfl ⟨lr,lr,lr,lr,lr,lr,trivial⟩ ⟨rr,rr,rr,bn (fun key hk=> ?_),trivial⟩);obtain⟨s,rfl⟩:=dL hk;exact⟨rfl,rfl⟩
 rintro⟨b,l,k,t,g⟩ ⟨⟨p1,p2,p3⟩,q1,⟨q2,q3⟩,q4⟩;have p1:a≤b:=p1;have p2:b≤a+50*k:=p2;have p3:(k:Int)≤m:=p3;have q2:0≤t:=q2;have q3:t≤2000*k:=q3;have hl1:=q1.1;conv=>whnf
 repeat' (first|(refine dP.of (jF n L hL _ ?_ ?_ [0,1,5,10,100,500] (by simp) (by simp)) [(1000000,1000000)] rfl ⟨lr,ai rfl rfl,trivial⟩ ⟨rr,trivial⟩ rfl rfl ?_;rotate_right;rintro x rout ⟨⟨u1,hu1,rfl⟩,⟨c,c1,c2,rfl⟩⟩;have hb1:=KA hu1;have hb2:=hb1.1;have hb3:=hb1.2;refine⟨rfl,?_⟩;conv=>whnf)|(refine dP.of (mI n L hL _ ?_ ?_ [[100,49],[100,49],[100,50],[100,51]] (by simp) (by simp)) [(1000000,1000000)] rfl ⟨lr,ai rfl rfl,trivial⟩ ⟨rr,trivial⟩ rfl rfl ?_;rotate_right;rintro x rout ⟨⟨u2,hu2,rfl⟩,⟨c,c1,c2,rfl⟩⟩;have hg2:=q4 u2;have hg3:0≤g (cf [DV.str u2]):=hg2.1;have hg4:g (cf [DV.str u2])≤k:=hg2.2;have hw2:=bu hu2 rfl;refine⟨rfl,?_⟩;conv=>whnf)|(refine dP.of (mI n L hL _ ?_ ?_ [[],[65]] (by simp) (by simp)) [(1000000,1000000)] rfl ⟨lr,ai rfl rfl,trivial⟩ ⟨rr,trivial⟩ rfl rfl ?_;rotate_right;rintro x rout ⟨⟨u3,hu3,rfl⟩,⟨c,c1,c2,rfl⟩⟩;have hw3:=bu hu3 rfl;refine⟨rfl,?_⟩;conv=>whnf)|(refine dP.of (mI n L hL _ ?_ ?_ [[],[97,10],[195]] (by simp) (by simp)) [(1000000,1000000)] rfl ⟨lr,ai rfl rfl,trivial⟩ ⟨rr,trivial⟩ rfl rfl ?_;rotate_right;rintro x rout ⟨⟨u4,hu4,rfl⟩,⟨c,c1,c2,rfl⟩⟩;have hw4:=bu hu4 rfl;refine⟨rfl,?_⟩;conv=>whnf)|(refine dp (mh n L hL _ ?_ ?_ 0 1000 ?_ ?_ ?_) [(1000000,1000000)] ?_;rotate_right;rintro x rout ⟨⟨u5,hk1,hk2,rfl⟩,⟨c,c1,c2,rfl⟩⟩;refine⟨rfl,?_⟩;conv=>whnf)|(refine dp (mh n L hL _ ?_ ?_ 1 1000000 ?_ ?_ ?_) [(1000000,1000000)] ?_;rotate_right;rintro x rout ⟨⟨u6,hk3,hk4,rfl⟩,⟨c,c1,c2,rfl⟩⟩;refine⟨rfl,?_⟩;conv=>whnf)|(refine dp (pn n L hL _ ?_ ?_ _ ?_) [(1000000,1000000)] ?_;rotate_right;rintro x rout ⟨⟨f,rfl⟩,⟨c,c1,c2,rfl⟩⟩;refine⟨rfl,?_⟩;conv=>whnf)|(refine dp (wA n L hL _ ?_ ?_ _ ?_) [(1000000,1000000)] ?_;rotate_right;rintro x rout ⟨⟨j,hj1,hj2,hj3,rfl⟩,⟨c,c1,c2,rfl⟩⟩;refine⟨rfl,?_⟩;conv=>whnf)|((first|(refine dP.of (NB n L hL _ (by omega) (by omega) (t+u1) (by omega) (by omega)) [(1000000,1000000),(1000009,1000009)] rfl ⟨lr,lr,trivial⟩ ⟨rr,rr,trivial⟩ rfl rfl ?_;rintro x rout ⟨⟨w,hw,rfl⟩,⟨c5,c51,c52,rfl⟩⟩;refine⟨rfl,?_⟩)|refine And.intro (rfl:bt _=some [DV.int .i64 0]) ?_)<;>conv=>whnf)|(simp only[Nat.beq_refl,cond_true];conv=>whnf)|(rw[lS,cond_true];conv=>whnf)|((first|refine aa ?_ ?_<;>intro hb<;>try simp only[am]at hb|refine bg hT Dm ?_|omega|refine ao ?_|decide|assumption)<;>conv=>whnf))
 all_goals first
  | (refine⟨(_,_,k+1,_,He g u2),?_,?_,ac [(1000000,1000000),(1000009,1000009),(5,62),(7,7)] rfl rfl ⟨lr,lr,lr,lr,lr,lr,trivial⟩ ⟨rr,rr,aB (x:=⟨_,_,_,_⟩) rfl,Ig (fun s=>(q4 s).1),trivial⟩⟩
     · dsimp only
       refine⟨⟨by omega,by omega,by omega⟩,dk q1 (Nat.le_refl _) ⟨⟨?_,?_⟩,⟨?_,?_⟩,?_,?_⟩,⟨by omega,by omega⟩,fun s=> ?_⟩
       · first
          |exact hw2
          |exact hw3
       · first
          |exact hw
          |exact Nat.le_trans hw4 (by omega)
       · (try dsimp only);omega
       · (try dsimp only);omega
       · (try dsimp only);omega
       · (try dsimp only);omega
       · have z1:=q4 s;have z2:=q4 u2;show 0≤He g u2 s∧He g u2 s≤((k+1:Nat):Int);unfold He;split<;>omega
     · show 30 - (k+1)<30 - k;omega)
  |skip
 refine dp (Kn 33 fa l (by omega) (fun p q hp hq=>JS p q (q1.2 p hp).2 (q1.2 q hq).2)) [(1000001,5)] ?_;rintro x rout ⟨rfl,e,he,rfl⟩;refine⟨rfl,?_⟩;have he1:=he.1;conv=>whnf
 repeat' ((first|refine aa ?_ ?_<;>intro hb<;>try simp only[am]at hb|refine bg hT Dm ?_|omega|refine ao ?_|decide|assumption)<;>conv=>whnf)
 refine .ret _ ?_;conv=>whnf
 exact⟨[(5,M5 e),(1000000,bd n L b),(1000009,KX)],⟨e,b,⟨by omega,fun p hp=>q1.2 p (he.2 p hp)⟩,⟨by omega,by omega⟩,rfl,rfl⟩,rr,rr,rr,trivial⟩
theorem Fl {l:List aZ}{k:Nat}(h:dA Iu k l)(hk:k≤2^20):ku l:=
 ⟨by have:=h.1;omega,fun x hx=>by
   obtain⟨⟨h1,h2⟩,h3⟩:=h.2 x hx
   exact⟨⟨by omega,by omega⟩,h3⟩⟩
end Go.Proofs.YtafhoijegjmdcaaGreatDoor
namespace Go.Eng
open Go
variable {A:mA} {G:Hp} {β:eP} {s:St} {t:Array Value} {w:World}
theorem sn.ent {P:Program}{id:Nat}{ops:Array Oper}{k:St→Prop}{s s':St}(he:du s s')(h:sn P id ops k s'):sn P id ops k s:=
 ⟨fun A a w hN hm=>h.wp A a w hN (he.imp A a w hm)⟩
theorem MG.counted (h:MG A G β s t w){d:Nat}{ag va:Bool}{ks:List KK}{zr:List DV}{has:List DV→Bool}{val:List DV→List DV}(hd:s.res d=some (.map ag va ks zr has val)):
 ∃clock kb,KB ks has clock kb∧MG A G β (s.app ⟨none,.any,[(d,some (.mapB ag va ks zr has val clock kb))],[]⟩) t w:=by
 obtain⟨r,es,clock,l,hb,hh,hl,hw,hI,hf⟩:=h.rs _ _ hd;exact⟨clock,_,vY hl hw hI hf,h.change (d:=d) (r':=.mapB ag va ks zr has val clock ((l.map (·.1)).zip (es.toList.map (·.born)))) (v:=.map (some r)) (w':=w) hd rfl rfl hb rfl rfl rfl rfl (fun _ _=>rfl) ⟨r,es,l,hb,hh,hl,hw,hI,rfl,hf⟩⟩
theorem wO {P:Program}{id:Nat}{ops:Array Oper}{k:St→Prop}{s:St}(d:Nat){ag va:Bool}{ks:List KK}{zr:List DV}{has:List DV→Bool}{val:List DV→List DV}(hd:s.res d=some (.map ag va ks zr has val))
 (h:∀clock kb,KB ks has clock kb→sn P id ops k (s.app ⟨none,.any,[(d,some (.mapB ag va ks zr has val clock kb))],[]⟩)):sn P id ops k s:=by
 refine⟨fun A a w hN=> ?_⟩;rintro⟨h0,G,β,hm⟩;obtain⟨clock,kb,hk,hm'⟩:=hm.counted hd;exact(h clock kb hk).wp A a w hN ⟨h0,G,β,hm'⟩
theorem du.unc {s:St}(d:Nat){ag va:Bool}{ks:List KK}{zr:List DV}{has:List DV→Bool}{val:List DV→List DV}{clock:Nat}{kb:List (List DV×Nat)}(hd:s.res d=some (.mapB ag va ks zr has val clock kb)):
 du s (s.app ⟨none,.any,[(d,some (.map ag va ks zr has val))],[]⟩):=by
 refine⟨fun A a w=> ?_⟩;rintro⟨h0,G,β,h⟩;obtain⟨r,es,l,hb,hh,hl,hw,hI,hkb,hf⟩:=h.rs _ _ hd;exact⟨h0,G,β,h.change (d:=d) (r':=.map ag va ks zr has val) (v:=.map (some r)) (w':=w) hd rfl rfl hb rfl rfl rfl rfl (fun _ _=>rfl) ⟨r,es,clock,l,hb,hh,hl,hw,hI,hf⟩⟩
theorem sn.unc {P:Program}{id:Nat}{ops:Array Oper}{k:St→Prop}{s:St}(d:Nat){ag va:Bool}{ks:List KK}{zr:List DV}{has:List DV→Bool}{val:List DV→List DV}{clock:Nat}{kb:List (List DV×Nat)}(hd:s.res d=some (.mapB ag va ks zr has val clock kb))
 (h:sn P id ops k (s.app ⟨none,.any,[(d,some (.map ag va ks zr has val))],[]⟩)):sn P id ops k s:=.ent (.unc d hd) h
theorem jw {α:Type}:∀ (l L:List α),l.Nodup→(∀x ∈ l,x ∈ L)→l.length≤L.length:=by
 intro l
 induction l with
 |nil=>intro L _ _;simp
 | cons x l ih=>
   intro L hn hL;obtain⟨A,B,rfl⟩:=List.append_of_mem (hL x (by simp));rw[List.nodup_cons]at hn
   have:=ih (A++B) hn.2 (fun y hy=>by
    have h1:=hL y (by simp[hy]);rw[List.mem_append,List.mem_cons]at h1;rcases h1 with q|q|q
    · exact List.mem_append_left _ q
    · subst q;exact absurd hy hn.1
    · exact List.mem_append_right _ q)
   simp at this ⊢;omega
theorem KB.le {ks:List KK}{has:List DV→Bool}{clock:Nat}{kb:List (List DV×Nat)}(h:KB ks has clock kb):∀ (L:List (List DV)),(∀key,wk ks key=true→has key=true→key ∈ L)→kb.length≤L.length:=by
 intro L hL
 have hs:∀x ∈ kb.map (·.1),x ∈ L:=fun x hx=>by
  obtain⟨p,hp,rfl⟩:=List.mem_map.1 hx;exact hL _ (h.kw p hp) ((h.kh _ (h.kw p hp)).2 ⟨p.2,hp⟩)
 have hn:(kb.map (·.1)).Nodup:=by
  have hw:∀x ∈ kb.map (·.1),wk ks x=true:=fun x hx=>by
   obtain⟨p,hp,rfl⟩:=List.mem_map.1 hx;exact h.kw p hp
  refine List.Pairwise.imp_of_mem (fun{a b} ha _ hab=> ?_) h.kd;rintro rfl;rw[cd (hw a ha)]at hab;cases hab
 have:=jw _ _ hn hs;simpa using this
theorem kH {s:St}(c d j:Nat){ce:TypeId}{l:List SV}{k n:Nat}{g:Nat→List DV}(hc:s.res c=some (.cells ce l))(hj:l[j]? =some (.buf d))(hd:s.res d=some (.fro k n g)):
 du s (s.app ⟨none,.any,[(c,some (.cells ce (l.set j (.d (.ro k n g)))))],[]⟩):=by
 refine⟨fun A a w=> ?_⟩;rintro⟨h0,G,β,h⟩;obtain⟨b,vs,hb,hh,hl,hv⟩:=h.rs _ _ hc;obtain⟨v,hv1,hv2⟩:=h.rs _ _ hd;refine⟨h0,G,β,h.change (d:=c) (r':=.cells ce (l.set j (.d (.ro k n g)))) (v:=.pointer (some ⟨b,0,none⟩)) (w':=w) hc rfl rfl hb rfl rfl rfl rfl (fun _ _=>rfl) ⟨b,vs,hb,hh,by simpa using hl,fun i x u hx hu=> ?_⟩⟩
 by_cases q:i=j
 · subst q;have hlt:i<l.length:=(List.getElem?_eq_some_iff.1 hj).1;rw[List.getElem?_set_self hlt]at hx;cases hx;have:=hv i _ u hj hu
   cases this with|buf _ _ hb2 _=>
   rw[hv1]at hb2;cases hb2;exact .d _ _ hv2
 · rw[List.getElem?_set_ne (fun e=>q e.symm)]at hx;exact hv i x u hx hu
end Go.Eng
set_option maxRecDepth 20000
namespace Go.Proofs.YtafhoijegjmdcaaGreatDoor
open Go Go.Eng
def Dx:TL:= [(3,[(0,[]),(1,[]),(2,[0,1]),(3,[]),(4,[])]),(6,[(0,[]),(1,[]),(2,[]),(3,[0,1,2]),(4,[])]),(10,[(0,[]),(1,[]),(2,[]),(3,[0,1,2]),(4,[])]),(16,[(0,[]),(1,[]),(2,[0,1]),(3,[0,1,2]),(4,[2]),(5,[])])]
def CZ:TL:= [(1,[(0,[]),(1,[]),(2,[]),(3,[]),(4,rg 4),(5,rg 4),(6,[]),(7,rg 7),(12,rg 8),(8,[12]),(9,[12]),(10,[12]),(11,[12,10]),(13,[11]),(14,[])]),(2,[(0,[]),(1,[]),(2,[]),(3,[]),(4,rg 4),(5,rg 4),(6,rg 6),(7,rg 6),(8,rg 4),(9,[]),(11,rg 10),(12,rg 10),(10,[11,12]),(13,[]),(14,[]),(15,[]),(16,[])])]
def DA:TL:= [(1,[(0,[]),(1,[]),(2,[]),(3,[]),(4,rg 4),(5,rg 4),(6,rg 6),(7,rg 6),(8,rg 6),(9,rg 6),(10,rg 10),(11,rg 10),(12,rg 6),(13,rg 13),(14,rg 6),(15,rg 6),(16,rg 6),(17,[0,1,2,3,4,5,16]),(18,[17])]),(2,[(0,[]),(1,[]),(2,[]),(3,[]),(4,rg 4),(5,rg 4),(6,rg 6),(7,rg 6),(8,rg 4),(9,[])]),(3,[(0,[]),(1,[0]),(2,[0]),(3,[0]),(4,[0]),(5,rg 5),(6,rg 5),(7,[0]),(8,[]),(9,[]),(10,[])])]
structure Mp (α:Type) where
 has:List UInt8→Bool
 val:List UInt8→α
def Mp.put {α:Type}(m:Mp α)(x:List UInt8)(v:α):Mp α:=⟨fun s=>decide (s=x)||m.has s,fun s=>if s=x then v else m.val s⟩
def Mp.del {α:Type}(m:Mp α)(x:List UInt8)(z:α):Mp α:=⟨fun s=> !decide (s=x)&&m.has s,fun s=>if s=x then z else m.val s⟩
def Mp.nil {α:Type}(z:α):Mp α:=⟨fun _=>false,fun _=>z⟩
abbrev dM {α:Type}(va:Bool)(z:List DV)(f:α→List DV)(m:Mp α):bh:=.map false va [.str] z (fun K=>m.has (cf K)) (fun K=>f (m.val (cf K)))
theorem qy (s x:List UInt8):az [.str s] [.str x]=decide (s=x):=by
 rw[Bool.eq_iff_iff];simp[az,dn]
theorem eQ {α:Type}{va:Bool}{z:List DV}{f:α→List DV}{m:Mp α}{x:List UInt8}{v:α}:
 bh.le (.map false va [.str] z (fun q=>az q [.str x]||m.has (cf q)) (fun q=>bif az q [.str x]then f v else f (m.val (cf q)))) (dM va z f (m.put x v)):=bn fun K hK=>by
 obtain⟨s,rfl⟩:=dL hK;rw[qy];refine⟨rfl,?_⟩;show(bif decide (s=x)then f v else f (m.val s))=f (if s=x then v else m.val s)
 by_cases q:s=x<;>simp[q]
theorem qu {α:Type}{va:Bool}{z:α}{f:α→List DV}{m:Mp α}{x:List UInt8}:
 bh.le (.map false va [.str] (f z) (fun q=> !az q [.str x]&&m.has (cf q)) (fun q=>bif az q [.str x]then f z else f (m.val (cf q)))) (dM va (f z) f (m.del x z)):=bn fun K hK=>by
 obtain⟨s,rfl⟩:=dL hK;rw[qy];refine⟨rfl,?_⟩;show(bif decide (s=x)then f z else f (m.val s))=f (if s=x then z else m.val s)
 by_cases q:s=x<;>simp[q]
structure oR where
 key:List UInt8
 cls:List UInt8
 frm:Int
 to:Int
 made:Int
 pct:Int
def ez:oR→List DV:=fun b=> [.str b.key,.str b.cls,.int .i64 b.frm,.int .i64 b.to,.int .i64 b.made,.int .i64 b.pct]
def fG:oR:=⟨[],[],0,0,0,0⟩
abbrev pF (l:List oR):DV:=d6 6 ez fG l
structure aS where
 tm:Int
 veh:List UInt8
 st:List UInt8
 kind:Int
 to:List UInt8
def eV:aS→List DV:=fun x=> [.int .i64 x.tm,.str x.veh,.str x.st,.int .i64 x.kind,.str x.to]
def cj:aS:=⟨0,[],[],0,[]⟩
abbrev ic (l:List aS):DV:=d6 5 eV cj l
abbrev nC (l:List aS):bh:=aD 72 5 eV cj l
structure gh where
 k:Int
 st:List UInt8
 sin:Int
def jC:gh→List DV:=fun s=> [.int .i64 s.k,.str s.st,.int .i64 s.sin]
def ep:gh:=⟨0,[],0⟩
structure sk where
 ent:Int
 why:Int
def LK:sk→List DV:=fun r=> [.int .i64 r.ent,.int .i64 r.why]
def Lv:sk:=⟨0,0⟩
abbrev y5 (l:List sk):DV:=d6 2 LK Lv l
abbrev Ic (l:List sk):bh:=aD 69 2 LK Lv l
def dF (s:gh)(x:aS):Bool:=
 if x.kind=1 then decide (s.k=0)else if x.kind=2 then decide (s.k=1)&&decide (s.st=x.st)else if x.kind=3 then decide (s.k=2)
 else if x.kind=4 then decide (s.k=1)&&decide (s.st=x.st)else if x.kind=5 then decide (s.k=3)&&decide (s.st=x.st)
 else if x.kind=6 then decide (s.k=1)&&decide (s.st=x.st)else if x.kind=7 then decide (s.k=4)&&decide (s.st=x.st)
 else if x.kind=8 then decide (s.k=1)&&decide (s.st=x.st)else false
def gp (s:gh)(x:aS):gh:=
 if dF s x then(if x.kind=2 then⟨2,[],x.tm⟩else if x.kind=4 then⟨3,x.st,x.tm⟩else if x.kind=6 then⟨4,x.to,x.tm⟩else if x.kind=8 then⟨5,[],x.tm⟩else⟨1,x.st,x.tm⟩)else s
def OS:Option cq→DV
 |some h=>legs h.legs
 |none=>.nilsl
def cQ (o:Option cq):List DV:= [.str (o.elim [] (·.key)),.str (o.elim [] (·.drv)),.int .i64 (o.elim 0 (·.frm)),.int .i64 (o.elim 0 (·.to)),OS o]
theorem cm {va:Bool}{row row':List DV}{k:SV→Prop}(h:row=row')(hk:lq va row' k):lq va row k:=by rw[h];exact hk
structure da where
 sts:Mp gh
 log:List aS
 ats:List UInt8→Int→Bool
 bks:Mp oR
 his:Mp (Option cq)
 paid:Mp Int
 ref:List sk
def vR:List UInt8→List DV:=fun s=> [.str s]
def xU:Int→List DV:=fun n=> [.int .i64 n]
def Ht:Bool→List DV:=fun b=> [.bool b]
def atH (a:List UInt8→Int→Bool):List DV→Bool
 | [.str v,.int .i64 t]=>a v t
 |_=>false
abbrev GK (a:List UInt8→Int→Bool):bh:=.map true false [.str,.int .i64] [.bool false] (atH a) (fun K=> [.bool (atH a K)])
def zV (a:List UInt8→Int→Bool)(v:List UInt8)(t:Int):List UInt8→Int→Bool:=fun w u=>(decide (w=v)&&decide (u=t))||a w u
theorem F5 {a:List UInt8→Int→Bool}{v:List UInt8}{t:Int}:
 bh.le (.map true false [.str,.int .i64] [.bool false] (fun q=>az q [.str v,.int .i64 t]||atH a q) (fun q=>bif az q [.str v,.int .i64 t]then [.bool true]else [.bool (atH a q)])) (GK (zV a v t)):=bn fun K hK=>by
 obtain⟨s,n,rfl⟩:=tF hK
 have e:az [.str s,.int .i64 n] [.str v,.int .i64 t]=(decide (s=v)&&decide (n=t)):=by
  rw[Bool.eq_iff_iff];simp[az,dn]
 rw[e];refine⟨rfl,?_⟩;show(bif decide (s=v)&&decide (n=t)then [DV.bool true]else [.bool (a s n)])= [.bool ((decide (s=v)&&decide (n=t))||a s n)];cases (decide (s=v)&&decide (n=t))<;>rfl
abbrev oU (h:df):List SV:=Kp h.flt++EN h.tar++(yw h.dea).map .d
abbrev Jj (h:df):bh:=.cells 107 (oU h++ [.mp 1000002,.mp 1000003,.mp 1000004,.buf 1000005,.mp 1000006,.mp 1000007,.mp 1000008,.mp 1000010,.buf 1000011])
abbrev jk (h:df)(vm:Mp (List UInt8))(sm:Mp Bool)(s:da):List (Nat×bh):=
 [(1000001,Jj h),(1000002,dM false [.str []] vR vm),(1000003,dM false [.bool false] Ht sm),(1000004,dM true (jC ep) jC s.sts),(1000005,nC s.log),(1000006,GK s.ats),(1000007,dM true (ez fG) ez s.bks),(1000008,dM true (cQ none) cQ s.his),(1000010,dM false [.int .i64 0] xU s.paid),(1000011,Ic s.ref)]
theorem Il (s:gh)(x:aS):ae Tryz.prog 279 [.agg ((jC s).map .d),.agg ((eV x).map .d)] [] (fun y r=>y= .tup [.agg ((jC (gp s x)).map .d),.d (.bool (dF s x))]∧r= []):=by
 refine aj hT Tryz.func279 Tryz.call279 ?_;conv=>whnf
 repeat' ((first|refine aa ?_ ?_<;>intro hb<;>try simp only[am]at hb|refine bg hT Dx ?_|omega|refine ao ?_|decide|assumption)<;>conv=>whnf)
 all_goals
  refine .ret _ ?_;conv=>whnf
  refine⟨[],⟨congrArg SV.tup ?_,rfl⟩,trivial⟩;repeat' (refine dt ?_ ?_)
  all_goals (conv=>lhs;whnf)
  all_goals try(with_reducible rfl)
 all_goals first
  |rfl
  |(simp[gp,dF,jC, *];done)
  |(simp[gp,dF,jC, *];rfl)
abbrev Hy (h:df):bh:=.cells 107 (oU h++ [.mp 1000002,.mp 1000003,.mp 1000004,.buf 50,.mp 1000006,.mp 1000007,.mp 1000008,.mp 1000010,.buf 1000011])
abbrev dT (h:df)(vm:Mp (List UInt8))(sm:Mp Bool)(s:da):List (Nat×bh):=
 [(1000001,Hy h),(1000002,dM false [.str []] vR vm),(1000003,dM false [.bool false] Ht sm),(1000004,dM true (jC ep) jC s.sts),(50,nC s.log),(1000006,GK s.ats),(1000007,dM true (ez fG) ez s.bks),(1000008,dM true (cQ none) cQ s.his),(1000010,dM false [.int .i64 0] xU s.paid),(1000011,Ic s.ref)]
def dV (s:da)(x:aS):Int:=ah [if s.ats x.veh x.tm then 6 else 0,if(!dF (s.sts.val x.veh) x)then 11 else 0]
def fy (s:da)(x:aS):da:={s with sts:=s.sts.put x.veh (gp (s.sts.val x.veh) x),ats:=zV s.ats x.veh x.tm,log:=s.log++ [x]}
theorem Lk (h:df)(vm:Mp (List UInt8))(sm:Mp Bool)(s:da)(x:aS):ae Tryz.prog 231 [.ptr 1000001 0,.agg ((eV x).map .d)] (jk h vm sm s) (fun y r=>y= .d (.int .i64 (dV s x))∧r=jk h vm sm s):=by
 refine aj hT Tryz.func231 Tryz.call231 ?_;conv=>whnf
 repeat' (first|(refine ap (Il _ x) ⟨lr,lr,trivial⟩ rfl ?_;conv=>whnf)|(refine ab (j9 _ _) rfl rfl ?_;rotate_right;conv=>whnf)|((first|refine And.intro (rfl:bt _=some (jC ep)) ?_|refine And.intro (rfl:bt _=some [DV.bool false]) ?_|refine ap (kM [_,_] (by simp)) ⟨ai (by rfl) (by rfl),trivial⟩ rfl ?_|refine aa ?_ ?_<;>intro hb<;>try simp only[am]at hb|refine bg hT CZ ?_|omega|refine ao ?_|decide|assumption)<;>conv=>whnf))
 refine .ret _ ?_;conv=>whnf
 exact⟨jk h vm sm s,⟨rfl,rfl⟩,rr,rr,rr,rr,rr,rr,rr,rr,rr,rr,trivial⟩
theorem IF (h:df)(vm:Mp (List UInt8))(sm:Mp Bool)(s:da)(x:aS)(hl:s.log.length≤2^20):ae Tryz.prog 232 [.ptr 1000001 0,.agg ((eV x).map .d)] (jk h vm sm s) (fun y r=>y= .tup []∧r=dT h vm sm (fy s x)):=by
 refine aj hT Tryz.func232 Tryz.call232 ?_;conv=>whnf
 repeat' ((first|refine ap (Il _ x) ⟨lr,lr,trivial⟩ rfl ?_|refine And.intro (rfl:bt _=some (jC ep)) ?_|refine And.intro (rfl:bt _=some [DV.bool false]) ?_|refine aa ?_ ?_<;>intro hb<;>try simp only[am]at hb|refine bg hT DA ?_|omega|refine ao ?_|decide|assumption)<;>conv=>whnf)
 refine .ent _ _ (ac (ts:= []) (rs:=dT h vm sm (fy s x)) [(1000001,1000001),(1000002,1000002),(1000003,1000003),(1000004,1000004),(50,38),(1000006,1000006),(1000007,1000007),(1000008,1000008),(1000010,1000010),(1000011,1000011)] rfl rfl trivial ⟨rr,rr,rr,eQ,aB (x:=x) rfl,F5,rr,rr,rr,rr,trivial⟩) ?_;refine .ret _ ?_;conv=>whnf
 exact⟨_,⟨rfl,rfl⟩,rr,rr,rr,rr,rr,rr,rr,rr,rr,rr,trivial⟩
def f8 (s:List UInt8):Bool:=match Lib.atoiAll s with| .ok n=>Lib.itoa n==s|_=>false
def aq (s:List UInt8):Int:=match Lib.atoiAll s with| .ok n=>n| .range=>Lib.atoiSat s|_=>0
def fK (s:List UInt8):Bool:=f8 s&&decide ((Lib.trimPrefix s [45]).length≤9)
def BG:List UInt8:= [48,49,50,51,52,53,54,55,56,57]
theorem tG (u:Nat)(h:u<10):BG.contains (UInt8.ofNat (48+u))=true:=by
 have:∀u,u<10→BG.contains (UInt8.ofNat (48+u))=true:=by decide
 exact this u h
theorem m8:∀ (n u:Nat),u<n→Lib.decDigits u≠ []∧∀b ∈ Lib.decDigits u,BG.contains b=true:=by
 intro n
 induction n with
 |zero=>intro u h;omega
 | succ n ih=>
   intro u hu;rw[Lib.decDigits];split
   · rename_i h;exact⟨by simp,fun b hb=>by rw[List.mem_singleton]at hb;subst hb;exact tG u h⟩
   · rename_i h;refine⟨by simp,fun b hb=> ?_⟩;rcases List.mem_append.1 hb with q|q
     · exact(ih (u/10) (by omega)).2 b q
     · rw[List.mem_singleton]at q;subst q;exact tG _ (Nat.mod_lt _ (by decide))
theorem sT (n:Int):Lib.trimPrefix (Lib.itoa n) [45]=Lib.decDigits n.natAbs:=by
 unfold Lib.itoa;split
 · rename_i h;simp[Lib.trimPrefix,Lib.hasPrefix]
 · rename_i h;have hn:n.toNat=n.natAbs:=by omega
   rw[hn];obtain⟨h1,h2⟩:=m8 (n.natAbs+1) n.natAbs (by omega)
   cases hd:Lib.decDigits n.natAbs with
   |nil=>exact absurd hd h1
   | cons b r=>
     have hb:=h2 b (by rw[hd];exact List.mem_cons_self);have hne:b≠45:=fun e=>by subst e;revert hb;decide
     have hne':¬ 45=b:=fun e=>hne e.symm
     simp[Lib.trimPrefix,Lib.hasPrefix,hne']
theorem sG {s:List UInt8}(h:f8 s=true):Lib.trimPrefix s [45]≠ []∧jb (Lib.trimPrefix s [45]) BG=true:=by
 unfold f8 at h;split at h
 · rename_i n hn;have he:Lib.itoa n=s:=by simpa using h
   rw[←he,sT];obtain⟨h1,h2⟩:=m8 (n.natAbs+1) n.natAbs (by omega);exact⟨h1,List.all_eq_true.2 h2⟩
 · cases h
def fU (s:List UInt8):Bool:=((Lib.trimPrefix s [45]== [])||decide (9<(Lib.trimPrefix s [45]).length))|| !jb (Lib.trimPrefix s [45]) BG
theorem lz (s:List UInt8):(if fU s=true then false else f8 s)=fK s:=by
 unfold fK fU
 cases h:f8 s with
 |false=>simp
 | true=>
   obtain⟨h1,h2⟩:=sG h;have h3:(Lib.trimPrefix s [45]== [])=false:=by simpa using h1
   rw[h2,h3];simp
   by_cases h9:9<(Lib.trimPrefix s [45]).length
   · simp[h9]
   · simp[h9];omega
theorem IQ:∀ (k u:Nat),(Lib.decDigits u).length≤k→u<10 ^ k:=by
 intro k
 induction k with
 | zero=>
   intro u h;have:=(m8 (u+1) u (by omega)).1
   exact absurd (List.eq_nil_of_length_eq_zero (by omega)) this
 | succ k ih=>
   intro u h;rw[Lib.decDigits]at h;split at h
   · rename_i hu;have:1≤10 ^ k:=Nat.one_le_pow _ _ (by decide);rw[Nat.pow_succ];omega
   · have:=ih (u/10) (by simp at h;omega);rw[Nat.pow_succ];omega
theorem z7 {s:List UInt8}(h:fK s=true): -10 ^ 9≤aq s∧aq s≤10 ^ 9:=by
 unfold fK f8 at h;rw[Bool.and_eq_true]at h;unfold aq;split at h
 · rename_i n hn;have he:Lib.itoa n=s:=by simpa using h.1
   have h9:=of_decide_eq_true h.2;rw[←he,sT]at h9;have:=IQ 9 _ h9;rw[hn];show -10 ^ 9≤n∧n≤10 ^ 9;omega
 · cases h.1
theorem Fx {p:Nat→Bool}{n k:Nat}(hk:k<n)(h:p k=true):0≤gT p n:=by
 have hb:=eB (p:=p) (n:=n);rcases Int.lt_or_le (gT p n) 0 with q|q
 · exfalso
   have hn :∀m,gT p m<0→∀j,j<m→p j=false:=by
    intro m
    induction m with
    |zero=>intro _ j hj;omega
    | succ m ih=>
      intro hm j hj;rw[gT]at hm;split at hm
      · rename_i hz
        by_cases hjm:j=m
        · subst hjm;split at hm
          · omega
          · rename_i hf;simpa using hf
        · exact ih (by omega) j (by omega)
      · rename_i hz;have:=(eB (p:=p) (n:=m)).1;omega
   rw[hn n q k hk]at h;cases h
 · exact q
theorem IE (l:List (List UInt8))(v:List UInt8):decide (0≤gT (fun i=>l.getD i []==v) l.length)=decide (v ∈ l):=by
 rw[decide_eq_decide];constructor
 · intro h;have:=eB (p:=fun i=>l.getD i []==v) (n:=l.length);rw[←eq_of_beq (this.2.2 h)];exact al (by omega)
 · intro h;obtain⟨j,hj,rfl⟩:=bI (d:= []) h;exact Fx hj (by simp)
theorem KR (l:List (List UInt8))(hl:l.length≤2^40)(v:List UInt8):ae Tryz.prog 96 [.d (bU l),.d (.str v)] [] (fun x r=>x= .d (.int .i64 (gT (fun i=>l.getD i []==v) l.length))∧r= []):=by
 refine aj hT Tryz.func96 Tryz.call96 ?_;conv=>whnf
 refine af hT (C:= []) (ι:=Nat) (fun i=>i≤l.length∧∀j,j<i→(l.getD j []==v)=false) (fun i=>aJ [(0,.d (bU l)),(1,.d (.str v)),(7,.d (.int .i64 l.length)),(8,.d (.int .i64 i))] []) (fun i=>l.length - i) 0 ⟨by simp,fun j hj=>absurd hj (Nat.not_lt_zero j)⟩ (by exact a7 []) ?_;rintro i ⟨p1,p2⟩;have e1:=ek i;conv=>whnf
 repeat' ((first|refine aa ?_ ?_<;>intro hb<;>try simp only[am]at hb|omega|refine ao ?_|decide|assumption)<;>conv=>whnf)
 · refine .ret _ ?_;conv=>whnf
   refine⟨[],⟨?_,rfl⟩,trivial⟩;conv=>lhs;whnf
   congr 2
   exact(d5 (by omega) p2 (by rw[←hb];simp)).symm
 · exact⟨i+1,⟨by omega,aV p2 (beq_eq_false_iff_ne.2 fun q=>hb q.symm)⟩,by omega,(by exact a7 [])⟩
 · refine .ret _ ?_;conv=>whnf
   refine⟨[],⟨?_,rfl⟩,trivial⟩;conv=>lhs;whnf
   congr 2
   have:i=l.length:=by omega
   subst this;exact(dr p2).symm
theorem KW (l:List (List UInt8))(hl:l.length≤2^40)(v:List UInt8):ae Tryz.prog 127 [.d (bU l),.d (.str v)] [] (fun x r=>x= .d (.bool (decide (v ∈ l)))∧r= []):=by
 refine aj hT Tryz.func127 Tryz.call127 ?_;conv=>whnf
 repeat' (first|(refine ab (KR l hl v) rfl rfl ?_;rotate_right;conv=>whnf)|((first|refine aa ?_ ?_<;>intro hb<;>try simp only[am]at hb|omega|refine ao ?_|decide|assumption)<;>conv=>whnf))
 refine .ret _ ?_;conv=>whnf
 refine⟨[],⟨?_,rfl⟩,trivial⟩;conv=>lhs;whnf
 rw[←IE]
theorem zE {s:List UInt8}{v:Int}(h:Lib.atoiAll s= .ok v): -9223372036854775808≤v∧v≤9223372036854775807:=by
 unfold Lib.atoiAll at h;split at h
 · cases h
 · simp only at h;split at h
   · cases h
   · cases h
   · split at h
     · cases h
     · split at h
       · cases h
       · cases h;rename_i h1 h2;split
         · rename_i hq;simp[hq]at h2;omega
         · rename_i hq;simp[hq]at h1;omega
theorem Kc (s:List UInt8)(hs:s.length≤2^40):ae Tryz.prog 230 [.d (.str s)] kx (fun x r=>x= .tup [.d (.int .i64 (aq s)),.d (.bool (fK s))]∧r=kx):=by
 refine aj hT Tryz.func230 Tryz.call230 ?_;conv=>whnf
 refine dp (Hv s hs) [(1000009,1000009)] ?_;rintro x rout ⟨hx,rfl⟩;unfold tJ at hx
 cases hA:Lib.atoiAll s with
 | ok v=>
   rw[hA]at hx;simp only at hx;subst hx;obtain⟨hv0,hv1⟩:=zE hA;refine⟨rfl,?_⟩;conv=>whnf
   repeat' (first|(refine ab (DU s [45]) rfl rfl ?_;rotate_right;conv=>whnf)|((first|refine cy (EK v hv0 hv1) rfl rfl rfl rfl ?_|refine aa ?_ ?_<;>intro hb<;>try simp only[am]at hb|omega|refine ao ?_|decide|assumption)<;>conv=>whnf))
   · refine .ret _ ?_;conv=>whnf
     refine⟨kx,⟨congrArg SV.tup ?_,rfl⟩,rr,trivial⟩;repeat' (refine dt ?_ ?_)
     all_goals (conv=>lhs;whnf)
     all_goals try(with_reducible rfl)
     · unfold aq;rw[hA]
     · unfold fK f8;rw[hA];simp[hb];omega
   · refine .ret _ ?_;conv=>whnf
     refine⟨kx,⟨congrArg SV.tup ?_,rfl⟩,rr,trivial⟩;repeat' (refine dt ?_ ?_)
     all_goals (conv=>lhs;whnf)
     all_goals try(with_reducible rfl)
     · unfold aq;rw[hA]
     · unfold fK f8;rw[hA];simp[hb]
 | range=>
   rw[hA]at hx;simp only at hx;obtain⟨t,p,rfl⟩:=hx;refine⟨rfl,?_⟩;conv=>whnf
   repeat' ((first|refine aa ?_ ?_<;>intro hb<;>try simp only[am]at hb|omega|refine ao ?_|decide|assumption)<;>conv=>whnf)
   refine .ret _ ?_;conv=>whnf
   refine⟨kx,⟨congrArg SV.tup ?_,rfl⟩,rr,trivial⟩;repeat' (refine dt ?_ ?_)
   all_goals (conv=>lhs;whnf)
   all_goals try(with_reducible rfl)
   · unfold aq;rw[hA]
   · unfold fK f8;rw[hA];rfl
 | _=>
   rw[hA]at hx;simp only at hx;obtain⟨t,p,rfl⟩:=hx;refine⟨rfl,?_⟩;conv=>whnf
   repeat' ((first|refine aa ?_ ?_<;>intro hb<;>try simp only[am]at hb|omega|refine ao ?_|decide|assumption)<;>conv=>whnf)
   refine .ret _ ?_;conv=>whnf
   refine⟨kx,⟨congrArg SV.tup ?_,rfl⟩,rr,trivial⟩;repeat' (refine dt ?_ ?_)
   all_goals (conv=>lhs;whnf)
   all_goals try(with_reducible rfl)
   · unfold aq;rw[hA]
   · unfold fK f8;rw[hA];rfl
theorem lX (s p:List UInt8)(hp:p≠ []):(Lib.split s p).length≤s.length+1:=by
 have key:∀ (n:Nat) (s:List UInt8),s.length≤n→∀k,(Lib.splitK p 0 k s).length≤s.length+1:=by
  intro n
  induction n with
  | zero=>
    intro s hs k
    cases k with
    |zero=>simp[Lib.splitK]
    | succ k=>
      unfold Lib.splitK;split
      · simp
      · rename_i h;have:=Lib.drop_shorter hp h
        omega
  | succ n ih=>
    intro s hs k
    cases k with
    |zero=>simp[Lib.splitK]
    | succ k=>
      unfold Lib.splitK;split
      · simp
      · rename_i h;have h1:=Lib.drop_shorter hp h;have h2:=ih (s.drop ((Lib.index s p).toNat+p.length)) (by omega) k;simp only[List.length_cons];omega
 exact key s.length s (Nat.le_refl _) _
theorem lT {s p:List UInt8}{x:List UInt8}(h:x ∈ Lib.split s p):x.length≤s.length:=by
 have key:∀ (k:Nat) (s:List UInt8),∀x ∈ Lib.splitK p 0 k s,x.length≤s.length:=by
  intro k
  induction k with
  |zero=>intro s x hx;simp[Lib.splitK]at hx;subst hx;exact Nat.le_refl _
  | succ k ih=>
    intro s x hx;unfold Lib.splitK at hx;split at hx
    · simp at hx;subst hx;exact Nat.le_refl _
    · rcases List.mem_cons.1 hx with q|q
      · subst q;simp;omega
      · have:=ih _ x q;simp at this;omega
 exact key _ s x h
def gl (l:List (List UInt8)):Bool:= !decide ([] ∈ l)
theorem s4 {sep:List UInt8}{save:Nat}:∀ {k:Nat} {s:List UInt8},Lib.splitK sep save k s≠ []
 |0,s=>by simp[Lib.splitK]
 |k+1,s=>by unfold Lib.splitK;split<;>simp
theorem Ih (s:List UInt8)(hs:s.length≤2^30):ae Tryz.prog 229 [.d (.str s)] kx (fun x r=>x= .tup [.d (bU (Lib.split s [32])),.d (.bool (gl (Lib.split s [32])))]∧r=kx):=by
 have hl:=lX s [32] (by decide);refine aj hT Tryz.func229 Tryz.call229 ?_;conv=>whnf
 repeat' (first|(refine cy (DF s [32] (by omega) (by decide)) rfl rfl rfl rfl ?_;conv=>whnf)|(refine ab (KW (Lib.split s [32]) (by omega) []) rfl rfl ?_;rotate_right;conv=>whnf)|((first|refine aa ?_ ?_<;>intro hb<;>try simp only[am]at hb|omega|refine ao ?_|decide|assumption)<;>conv=>whnf))
 refine .ret _ ?_;conv=>whnf
 refine⟨kx,⟨congrArg SV.tup ?_,rfl⟩,rr,trivial⟩;repeat' (refine dt ?_ ?_)
 all_goals (conv=>lhs;whnf)
 all_goals try(with_reducible rfl)
 all_goals rfl
structure ik where
 word:List UInt8
 texts:List (List UInt8)
 nums:List Int
def yZ (t:ik):List DV:= [.str t.word,bU t.texts,cz t.nums]
def Jd:ik:=⟨[],[],[]⟩
def pH (f:List UInt8)(w:List (List UInt8)):Nat→List (List UInt8)
 |0=> []
 |i+1=>if f.getD i 0=119 then pH f w i++ [w.getD i []]else pH f w i
def pK (f:List UInt8)(w:List (List UInt8)):Nat→List Int
 |0=> []
 |i+1=>if f.getD i 0=119 then pK f w i else pK f w i++ [aq (w.getD i [])]
theorem zB (f:List UInt8)(w:List (List UInt8)):∀i,(pH f w i).length≤i
 |0=>by simp[pH]
 | i+1=>by
   have:=zB f w i;unfold pH;split
   · rw[List.length_append,List.length_singleton];omega
   · omega
theorem Ae (f:List UInt8)(w:List (List UInt8)):∀i,(pK f w i).length≤i
 |0=>by simp[pK]
 | i+1=>by
   have:=Ae f w i;unfold pK;split
   · omega
   · rw[List.length_append,List.length_singleton];omega
def mm (f:List UInt8)(w:List (List UInt8)):Bool:=decide (∀j,j<w.length→(f.getD j 0=119∨fK (w.getD j [])=true))
def cG (w:List (List UInt8)):List UInt8:=w.getD 0 []
def cJ (fm:Mp (List UInt8))(s:List UInt8):Bool:=
 gl (Lib.split s [32])&&(fm.has (cG (Lib.split s [32]))&&(decide ((Lib.split s [32]).length=1+(fm.val (cG (Lib.split s [32]))).length)&&mm (fm.val (cG (Lib.split s [32]))) ((Lib.split s [32]).drop 1)))
def cP (fm:Mp (List UInt8))(s:List UInt8):ik:=
 ⟨cG (Lib.split s [32]),pH (fm.val (cG (Lib.split s [32]))) ((Lib.split s [32]).drop 1) ((Lib.split s [32]).drop 1).length,pK (fm.val (cG (Lib.split s [32]))) ((Lib.split s [32]).drop 1) ((Lib.split s [32]).drop 1).length⟩
theorem rY (fm:Mp (List UInt8))(hf:∀k,(fm.val k).length≤2^20)(s:List UInt8)(hs:s.length≤2^20):
 ae Tryz.prog 173 [.d (.str s),.mp 1000001] [(1000001,dM false [.str []] vR fm),(1000009,KX)] (fun y r=>y= .tup [.agg ((yZ (if cJ fm s then cP fm s else Jd)).map .d),.d (.bool (cJ fm s))]∧r= [(1000001,dM false [.str []] vR fm),(1000009,KX)]):=by
 obtain⟨W,hW⟩:∃W,W=Lib.split s [32]:=⟨_,rfl⟩;have c1:=Ih s (by omega);have hl:=lX s [32] (by decide);have hn:Lib.split s [32]≠ []:=s4;have hmem:∀x ∈ Lib.split s [32],x.length≤s.length:=fun x hx=>lT hx
 have hn1:1≤W.length:=by rw[hW];exact List.length_pos_iff.2 hn
 unfold cJ cP;rw[←hW]at c1 hl hmem ⊢;refine aj hT Tryz.func173 Tryz.call173 ?_;conv=>whnf
 have hfw:=hf (cG W);repeat' ((first|refine cy c1 rfl rfl rfl rfl ?_|refine And.intro (rfl:bt _=some [.str []]) ?_|(refine And.intro (by have:=hf (cf [DV.str (W.getD (Int.toNat 0) [])]);unfold bC;omega) ?_)|refine aa ?_ ?_<;>intro hb<;>try simp only[am]at hb|omega|refine ao ?_|decide|assumption)<;>conv=>whnf)
 all_goals first
  | (have hE:(gl W&&(fm.has (cG W)&&(decide (W.length=1+(fm.val (cG W)).length)&&mm (fm.val (cG W)) (W.drop 1))))=false:=by
      first
       |(rw[show gl W=false from hb];rfl)
       |(rw[show fm.has (cG W)=false from hb];simp)
       | (have q:¬ (W.length:Int)=1+((fm.val (cG W)).length:Nat):=hb
          rw[show decide (W.length=1+(fm.val (cG W)).length)=false from decide_eq_false (by omega)];simp)
     rw[hE];refine .weak _ ?_;conv=>whnf
     exact⟨.tup [.agg ((yZ Jd).map .d),.d (.bool false)],_,aU ⟨be ⟨lr,aI,aI,trivial⟩,lr,trivial⟩,⟨rfl,rfl⟩,rr,rr,trivial⟩)
  |skip
 trace_state
 · obtain ⟨f,hfe⟩:∃f,f=fm.val (cG W):=⟨_,rfl⟩;rw[←hfe]at hfw;obtain⟨W1,hW1⟩:∃W1,W1=W.drop 1:=⟨_,rfl⟩;have hl1:W1.length=W.length - 1:=by rw[hW1,List.length_drop]
   have hlf:W1.length=f.length:=by
    have:(W.length:Int)=1+((fm.val (cG W)).length:Nat):=hb;rw[←hfe]at this;omega
   have hm1:∀j,(W1.getD j []).length≤2^40:=fun j=>by
    by_cases hj:j<W1.length
    · have h1:W1.getD j [] ∈ W:=by
       have h2:W1.getD j [] ∈ W1:=by rw[List.getD_eq_getElem?_getD,List.getElem?_eq_getElem hj];exact List.getElem_mem hj
       rw[hW1]at h2 ⊢;exact List.mem_of_mem_drop h2
      have:=hmem _ h1;omega
    · rw[List.getD_eq_getElem?_getD,List.getElem?_eq_none (by omega)];simp
   refine af hT (C:= []) (ι:=Nat) (fun i=>i≤W1.length∧∀j,j<i→(f.getD j 0=119∨fK (W1.getD j [])=true))
    (fun i=>aJ [(4,.ptr 4 0),(8,.d (.str f)),(10,.ptr 10 0),(48,.d (bU W1)),(49,.d (.int .i64 W1.length)),(50,.d (.int .i64 i))] [(1000001,dM false [.str []] vR fm),(1000009,KX),(4,.cells 248 [.d (.str []),.d .nilsl,.d .nilsl]),(10,.cells 248 [.d (.str (cG W)),.buf 20,.buf 21]),(20,aD 9 1 sF [] (pH f W1 i)),(21,aD 3 1 iF 0 (pK f W1 i))])
    (fun i=>W1.length - i) 0 ⟨by omega,fun j hj=>by omega⟩ ?_ ?_
   · subst hW1 hfe;refine du.trans (bF 10 20 9 1 1 (aR sF [] []) rfl rfl rfl (by decide) rfl) ?_;refine du.trans (bF 10 21 3 1 2 (aR iF 0 []) rfl rfl rfl (by decide) rfl) ?_;refine(ac [(1000001,1000001),(1000009,1000009),(4,4),(10,10),(20,20),(21,21)] rfl rfl ⟨lr,lr,lr,rH (by rw[List.length_drop];omega),au (by rw[List.length_drop];omega),lr,trivial⟩ ⟨rr,rr,rr,rr,rr,rr,trivial⟩)
   rintro i ⟨p1,p2⟩;have e1:=ek i;have htl:=zB f W1 i;have hnl:=Ae f W1 i;conv=>whnf
   repeat' ((first|refine cy (Kc (W1.getD (i:Int).toNat []) (hm1 _)) rfl rfl rfl rfl ?_|(refine And.intro (by show(_+1)*16≤_;omega) ?_)|(refine And.intro (by show(_+1)*8≤_;omega) ?_)|refine aa ?_ ?_<;>intro hb<;>try simp only[am]at hb|omega|refine ao ?_|decide|assumption)<;>conv=>whnf)
   all_goals first
    | (have hc:f.getD i 0=119:=UInt8.toNat_inj.1 (by have:((f.getD i 0).toNat:Int)=119:=hb;show _=119;omega)
       have hT2:pH f W1 (i+1)=pH f W1 i++ [W1.getD i []]:=by rw[pH,if_pos hc]
       have hN2:pK f W1 (i+1)=pK f W1 i:=by rw[pK,if_pos hc]
       refine⟨i+1,⟨by omega,fun j hj=> ?_⟩,by omega,ac [(1000001,1000001),(1000009,1000009),(4,4),(10,10),(20,63),(21,21)] rfl rfl ⟨lr,lr,lr,lr,lr,lr,trivial⟩ ⟨rr,rr,rr,rr,(by show bh.le _ (aD 9 1 sF [] (pH f W1 (i+1)));rw[hT2];exact aB (x:=W1.getD i []) rfl),(by show bh.le _ (aD 3 1 iF 0 (pK f W1 (i+1)));rw[hN2];exact rr),trivial⟩⟩
       by_cases q:j<i
       · exact p2 j q
       · exact .inl (by rw[show j=i by omega];exact hc))
    | (have hb0:¬ ((f.getD i 0).toNat:Int)=119:=by assumption
       have hc:¬f.getD i 0=119:=fun q=>hb0 (by rw[q];rfl)
       have hk:fK (W1.getD i [])=true:=hb;have hT2:pH f W1 (i+1)=pH f W1 i:=by rw[pH,if_neg hc]
       have hN2:pK f W1 (i+1)=pK f W1 i++ [aq (W1.getD i [])]:=by rw[pK,if_neg hc]
       refine⟨i+1,⟨by omega,fun j hj=> ?_⟩,by omega,ac [(1000001,1000001),(1000009,1000009),(4,4),(10,10),(20,20),(21,77)] rfl rfl ⟨lr,lr,lr,lr,lr,lr,trivial⟩ ⟨rr,rr,rr,rr,(by show bh.le _ (aD 9 1 sF [] (pH f W1 (i+1)));rw[hT2];exact rr),(by show bh.le _ (aD 3 1 iF 0 (pK f W1 (i+1)));rw[hN2];exact aB (x:=aq (W1.getD i [])) rfl),trivial⟩⟩
       by_cases q:j<i
       · exact p2 j q
       · exact .inr (by rw[show j=i by omega];exact hk))
    | (have hb0:¬ ((f.getD i 0).toNat:Int)=119:=by assumption
       have hc:¬f.getD i 0=119:=fun q=>hb0 (by rw[q];rfl)
       have hk:fK (W1.getD i [])=false:=hb
       have hE:(gl W&&(fm.has (cG W)&&(decide (W.length=1+(fm.val (cG W)).length)&&mm (fm.val (cG W)) (W.drop 1))))=false:=by
        rw[←hfe,←hW1,show mm f W1=false from decide_eq_false (fun q=>by
         rcases q i (by omega)with r|r
         · exact hc r
         · rw[hk]at r;cases r)]
        simp
       rw[hE];refine .weak _ ?_;conv=>whnf
       exact⟨.tup [.agg ((yZ Jd).map .d),.d (.bool false)],_,aU ⟨be ⟨lr,aI,aI,trivial⟩,lr,trivial⟩,⟨rfl,rfl⟩,rr,rr,trivial⟩)
    | (have hE:(gl W&&(fm.has (cG W)&&(decide (W.length=1+(fm.val (cG W)).length)&&mm (fm.val (cG W)) (W.drop 1))))=true:=by
        have h1:gl W=true:=by assumption
        have h2:fm.has (cG W)=true:=by assumption
        rw[h1,h2,←hfe,←hW1,show mm f W1=true from decide_eq_true (fun j hj=>p2 j (by omega)),show decide (W.length=1+f.length)=true from decide_eq_true (by omega)];rfl
       rw[hE,if_pos rfl,←hfe,←hW1];have hi:i=W1.length:=by omega
       subst hi;refine .freeze _ 20 9 1 _ _ rfl ?_;refine .freeze _ 21 3 1 _ _ rfl ?_;refine .ent _ _ (kH 4 20 1 rfl rfl rfl) ?_;refine .ent _ _ (kH 4 21 2 rfl rfl rfl) ?_;refine .ret _ ?_;conv=>whnf
       exact⟨_,⟨rfl,rfl⟩,rr,rr,trivial⟩)
def formsM:Mp (List UInt8):=((((((((((((((Mp.nil []).put [101,110,116,101,114] [119,119]).put [115,104,111,112] [119,119]).put [100,111,110,101] [119,119]).put [99,111,109,101] [119,119]).put [103,111,110,101] [119,119]).put [108,101,97,118,101] [119,119,119]).put [98,111,111,107] [119,119,110,110,110]).put [99,97,110,99,101,108] [119]).put [115,116,97,114,116] [119,119,110,119,119,110,110]).put [115,119,97,112] [119,119,110,110,119,110,110]).put [101,120,116,101,110,100] [119,110]).put [99,108,111,115,101] [119,119,110,110]).put [112,97,121] [119,110])
def aM:Mp Int:=(((((((Mp.nil 0).put [101,110,116,101,114] 1).put [115,104,111,112] 4).put [100,111,110,101] 5).put [99,111,109,101] 7).put [103,111,110,101] 8).put [108,101,97,118,101] 6)
theorem GO (s k v b:List UInt8):(bif decide (s=k)then [DV.str v]else [DV.str b])= [DV.str (if s=k then v else b)]:=by by_cases h:s=k<;>simp[h]
theorem Fs (s k:List UInt8)(v b:Int):(bif decide (s=k)then [DV.int .i64 v]else [DV.int .i64 b])= [DV.int .i64 (if s=k then v else b)]:=by by_cases h:s=k<;>simp[h]
theorem EQ (v:ByteArray):vf (.string v)= .str v.data.toList:=rfl
theorem HN (v:Int):vf (.int .i64 v)= .int .i64 v:=rfl
theorem lc:ae Tryz.prog 174 [] [] (fun y r=>y= .mp 1∧r= [(1,dM false [.str []] vR formsM)]):=by
 refine aj hT Tryz.func174 Tryz.call174 ?_;conv=>whnf
 repeat' ((first|refine aa ?_ ?_<;>intro hb<;>try simp only[am]at hb|omega|refine ao ?_|decide|assumption)<;>conv=>whnf)
 refine .ret _ ?_;conv=>whnf
 refine⟨_,⟨rfl,rfl⟩,bn (fun K hK=> ?_),trivial⟩;obtain⟨s,rfl⟩:=dL hK;simp only[EQ,qy,GO];exact⟨rfl,rfl⟩
theorem mV:ae Tryz.prog 175 [] [] (fun y r=>y= .mp 1∧r= [(1,dM false [.int .i64 0] xU aM)]):=by
 refine aj hT Tryz.func175 Tryz.call175 ?_;conv=>whnf
 repeat' ((first|refine aa ?_ ?_<;>intro hb<;>try simp only[am]at hb|omega|refine ao ?_|decide|assumption)<;>conv=>whnf)
 refine .ret _ ?_;conv=>whnf
 refine⟨_,⟨rfl,rfl⟩,bn (fun K hK=> ?_),trivial⟩;obtain⟨s,rfl⟩:=dL hK;simp only[EQ,HN,qy,Fs];exact⟨rfl,rfl⟩
abbrev xD (l:List na):bh:=aD 178 9 Ly cr l
def fx (h:cq):Bool:=decide ((h.legs.getD ((h.legs.length:Int) - 1).toNat cr).inn.tm= -1)
def po (h:cq):Int:=if aT h≠0 then aT h else if fx h then 0 else 11
def ng (h:cq)(ri:ij)(v:List UInt8)(ro:ij):cq:=⟨h.key,h.drv,h.frm,h.to,ct h.legs ri++ [⟨v,ro,r8⟩]⟩
def q8 (h:cq)(ri:ij):cq:=⟨h.key,h.drv,h.frm,h.to,ct h.legs ri⟩
def sO (h:cq)(to:Int):cq:=⟨h.key,h.drv,h.frm,to,h.legs⟩
def nb (h h':cq):Int:=if po h≠0 then po h else aT h'
def xW (h h':cq):cq:=if nb h h' =0 then h' else fq
def sd (h:cq):Prop:=h.key.length≤2^40∧h.drv.length≤2^40∧h.legs.length≤2^19∧∀x ∈ h.legs,IW x
theorem sd.k {h:cq}(q:sd h):IL h:=⟨q.1,q.2.1,by have:=q.2.2.1;omega,q.2.2.2⟩
theorem qk {l:List na}{r:ij}(h:∀x ∈ l,IW x)(hr:r.st.length≤2^40):∀x ∈ ct l r,IW x:=fun x hx=>by
 unfold ct at hx
 by_cases hi:((l.length:Int) - 1).toNat<l.length
 · rcases List.mem_or_eq_of_mem_set hx with q|q
   · exact h x q
   · have h1:l.getD ((l.length:Int) - 1).toNat cr ∈ l:=by
      rw[List.getD_eq_getElem?_getD,List.getElem?_eq_getElem hi];exact List.getElem_mem hi
     subst q;exact⟨(h _ h1).1,(h _ h1).2.1,hr⟩
 · rw[List.set_eq_of_length_le (by omega)]at hx;exact h x hx
theorem pS {α:Type}{f:α→List DV}{d x y:α}{l:List α}{k j off:Nat}{ds:List DV}{h:Nat→List DV}(hj:∀z,l[j]? =some z→bA (f z) off ds=f x)(hx:h 0=f y):
 SV.le (.d (.ro k (l.length+1) (eK l.length (fun i=>bif Nat.beq i j then bA (aR f d l i) off ds else aR f d l i) h))) (.d (d6 k f d (l.set j x++ [y]))):=by
 refine cO (by simp) (fun i hi=> ?_);have h1:=jL (f:=f) (d:=d) (l:=l) (x:=x) (j:=j) (off:=off) (ds:=ds) hj;rcases Nat.lt_or_ge i l.length with q|q
 · rw[eU q,h1 i q];simp only[aR];rw[pu (by simpa using q)]
 · have:i=l.length:=by omega
   subst this;rw[dR (Nat.le_refl _),Nat.sub_self,hx];simp only[aR];congr 1
   rw[List.getD_eq_getElem?_getD,List.getElem?_append_right (by simp)];simp
theorem Ay (h:cq)(hk:IL h):ae Tryz.prog 281 [.agg ((dS h).map .d)] [] (fun y r=>y= .tup [.agg ((dS (if aT h=0 then h else fq)).map .d),.d (.int .i64 (aT h))]∧r= []):=by
 have h183:=z210 h hk
 by_cases q:aT h=0
 · rw[if_pos q];rw[q]at h183 ⊢;refine aj hT Tryz.func281 Tryz.call281 ?_;conv=>whnf
   repeat' (first|(refine ab (h183) rfl rfl ?_;rotate_right;conv=>whnf)|((first|refine aa ?_ ?_<;>intro hb<;>try simp only[am]at hb|omega|refine ao ?_|decide|assumption)<;>conv=>whnf))
   refine .ret _ ?_;conv=>whnf
   exact⟨[],⟨rfl,rfl⟩,trivial⟩
 · rw[if_neg q];generalize aT h=E at h183 q;refine aj hT Tryz.func281 Tryz.call281 ?_;conv=>whnf
   repeat' (first|(refine ab (h183) rfl rfl ?_;rotate_right;conv=>whnf)|((first|refine aa ?_ ?_<;>intro hb<;>try simp only[am]at hb|omega|refine ao ?_|decide|assumption)<;>conv=>whnf))
   all_goals first
    |(exfalso;omega)
    | (refine .weak _ ?_
       conv=>whnf
       exact⟨.tup [.agg ((dS fq).map .d),.d (.int .i64 E)],[],aU ⟨be ⟨lr,lr,lr,lr,aI,trivial⟩,lr,trivial⟩,⟨rfl,rfl⟩,trivial⟩)
theorem HA (h:cq)(hl:h.legs.length≤2^40)(h1:1≤h.legs.length):ae Tryz.prog 309 [.agg ((dS h).map .d)] [] (fun y r=>y= .d (.bool (fx h))∧r= []):=by
 refine aj hT Tryz.func309 Tryz.call309 ?_;conv=>whnf
 repeat' ((first|refine aa ?_ ?_<;>intro hb<;>try simp only[am]at hb|omega|refine ao ?_|decide|assumption)<;>conv=>whnf)
 refine .ret _ ?_;conv=>whnf
 refine⟨[],⟨?_,rfl⟩,trivial⟩;conv=>lhs;whnf
 rfl
theorem FI (l:List na)(h1:1≤l.length)(hl:l.length≤2^20):ae Tryz.prog 269 [.d (legs l)] [] (fun y r=>y= .buf 7∧r= [(7,xD l)]):=by
 refine g9 hT (C:= [5]) Tryz.func269 rfl Tryz.call269 rfl rfl rfl ?_;conv=>whnf
 rintro b hbn;conv=>whnf
 repeat' ((first|refine aa ?_ ?_<;>intro hb<;>try simp only[am]at hb|omega|refine ao ?_|decide|assumption)<;>conv=>whnf)
 · exfalso;have:=hbn (by assumption);omega
 · refine .ret _ ?_;conv=>whnf
   refine⟨_,⟨rfl,rfl⟩,cY (by simp) (fun i hi=> ?_),trivial⟩;rw[dR (by omega)];rfl
theorem jq {h:cq}(q:aT h=0):1≤h.legs.length:=by
 unfold aT at q;grind
theorem H6 (h:cq)(hk:sd h)(hE:po h≠0):ae Tryz.prog 282 [.agg ((dS h).map .d)] [] (fun y r=>y= .tup [.agg ((dS fq).map .d),.d (.int .i64 (po h))]∧r= []):=by
 have c1:=z210 h hk.k
 by_cases q:aT h=0
 · have c2:=HA h (by have:=hk.2.2.1;omega) (jq q)
   have e1:fx h=false:=by
    cases e:fx h with
    |false=>rfl
    |true=>exfalso;apply hE;unfold po;rw[if_neg (fun c=>c q),e,if_pos rfl]
   have e2:po h=11:=by unfold po;rw[if_neg (fun c=>c q),e1];rfl
   rw[e2];rw[q]at c1;rw[e1]at c2;refine aj hT Tryz.func282 Tryz.call282 ?_;conv=>whnf
   repeat' (first|(refine ab (c1) rfl rfl ?_;rotate_right;conv=>whnf)|(refine ab (c2) rfl rfl ?_;rotate_right;conv=>whnf)|((first|refine aa ?_ ?_<;>intro hb<;>try simp only[am]at hb|omega|refine ao ?_|decide|assumption)<;>conv=>whnf))
   all_goals
    refine .weak _ ?_;conv=>whnf
    exact⟨.tup [.agg ((dS fq).map .d),.d (.int .i64 11)],[],aU ⟨be ⟨lr,lr,lr,lr,aI,trivial⟩,lr,trivial⟩,⟨rfl,rfl⟩,trivial⟩
 · have e2:po h=aT h:=by unfold po;rw[if_pos q]
   rw[e2];generalize aT h=E at c1 q;refine aj hT Tryz.func282 Tryz.call282 ?_;conv=>whnf
   repeat' (first|(refine ab (c1) rfl rfl ?_;rotate_right;conv=>whnf)|((first|refine aa ?_ ?_<;>intro hb<;>try simp only[am]at hb|omega|refine ao ?_|decide|assumption)<;>conv=>whnf))
   all_goals first
    |(exfalso;omega)
    | (refine .weak _ ?_
       conv=>whnf
       exact⟨.tup [.agg ((dS fq).map .d),.d (.int .i64 E)],[],aU ⟨be ⟨lr,lr,lr,lr,aI,trivial⟩,lr,trivial⟩,⟨rfl,rfl⟩,trivial⟩)
abbrev OW (h:cq)(d:Nat):SV:=.agg [.d (.str h.key),.d (.str h.drv),.d (.int .i64 h.frm),.d (.int .i64 h.to),.buf d]
theorem ju {h:cq}(hE:po h=0):aT h=0∧fx h=true:=by
 unfold po at hE;split at hE
 · rename_i c;exact absurd hE c
 · rename_i c;split at hE
   · rename_i d;exact⟨by simpa using c,d⟩
   · exact absurd hE (by decide)
theorem Jo (h:cq)(hk:sd h)(hE:po h=0):ae Tryz.prog 282 [.agg ((dS h).map .d)] [] (fun y r=>y= .tup [OW h 7,.d (.int .i64 0)]∧r= [(7,xD h.legs)]):=by
 obtain⟨q,e1⟩:=ju hE;have c1:=z210 h hk.k;have hl:=hk.2.2.1;have c2:=HA h (by omega) (jq q);rw[q]at c1;rw[e1]at c2;refine aj hT Tryz.func282 Tryz.call282 ?_;conv=>whnf
 repeat' (first|(refine ab (c1) rfl rfl ?_;rotate_right;conv=>whnf)|(refine ab (c2) rfl rfl ?_;rotate_right;conv=>whnf)|((first|(refine bP (FI h.legs (jq q) (by omega)) [(7,7)] ?_)|refine aa ?_ ?_<;>intro hb<;>try simp only[am]at hb|omega|refine ao ?_|decide|assumption)<;>conv=>whnf))
 refine .ret _ ?_;conv=>whnf
 exact⟨_,⟨rfl,rfl⟩,rr,trivial⟩
theorem N7 (h:cq)(hk:sd h)(to:Int):ae Tryz.prog 235 [.agg ((dS h).map .d),.d (.int .i64 to)] [] (fun y r=>y= .tup [.agg ((dS (xW h (sO h to))).map .d),.d (.int .i64 (nb h (sO h to)))]∧r= []):=by
 have hH:sd (sO h to):=hk;generalize hHe:sO h to=H at hH ⊢
 by_cases q:po h≠0
 · have c1:=H6 h hk q;have e1:nb h H=po h:=by unfold nb;rw[if_pos q]
   have e2:xW h H=fq:=by unfold xW;rw[e1,if_neg q]
   rw[e1,e2];generalize po h=E at c1 q;refine aj hT Tryz.func235 Tryz.call235 ?_;conv=>whnf
   repeat' (first|(refine ab (c1) rfl rfl ?_;rotate_right;conv=>whnf)|((first|refine aa ?_ ?_<;>intro hb<;>try simp only[am]at hb|omega|refine ao ?_|decide|assumption)<;>conv=>whnf))
   all_goals first
    |(exfalso;omega)
    | (refine .weak _ ?_
       conv=>whnf
       exact⟨.tup [.agg ((dS fq).map .d),.d (.int .i64 E)],[],aU ⟨be ⟨lr,lr,lr,lr,aI,trivial⟩,lr,trivial⟩,⟨rfl,rfl⟩,trivial⟩)
 · have q:po h=0:=by omega
   have e1:nb h H=aT H:=by unfold nb;rw[if_neg (fun c=>c q)]
   have e2:xW h H=if aT H=0 then H else fq:=by unfold xW;rw[e1]
   rw[e1,e2];have c1:=Jo h hk q;have c2:=Ay H hH.k;generalize aT H=E at c2;generalize hR:(if E=0 then H else fq)=R at c2;have hl:=hk.2.2.1;have hn:=jq (ju q).1;subst hHe;refine aj hT Tryz.func235 Tryz.call235 ?_;conv=>whnf
   repeat' ((first|(refine bP c1 [(7,40)] ?_)|(refine dP.freeze _ _ _ _ 40 178 9 _ _ rfl rfl ?_;refine ap c2 ⟨be ⟨lr,lr,lr,lr,lr,trivial⟩,trivial⟩ rfl ?_)|refine aa ?_ ?_<;>intro hb<;>try simp only[am]at hb|omega|refine ao ?_|decide|assumption)<;>conv=>whnf)
   all_goals first
    |(exfalso;omega)
    | (refine .ret _ ?_
       conv=>whnf
       exact⟨[],⟨rfl,rfl⟩,trivial⟩)
theorem Ol (h:cq)(hk:sd h)(ri:ij)(hr:ri.st.length≤2^40):ae Tryz.prog 236 [.agg ((dS h).map .d),.agg ((EZ ri).map .d)] [] (fun y r=>y= .tup [.agg ((dS (xW h (q8 h ri))).map .d),.d (.int .i64 (nb h (q8 h ri)))]∧r= []):=by
 have hH:sd (q8 h ri):=⟨hk.1,hk.2.1,by show(ct h.legs ri).length≤_;rw[cU];exact hk.2.2.1,qk hk.2.2.2 hr⟩;generalize hHe:q8 h ri=H at hH ⊢
 by_cases q:po h≠0
 · have c1:=H6 h hk q;have e1:nb h H=po h:=by unfold nb;rw[if_pos q]
   have e2:xW h H=fq:=by unfold xW;rw[e1,if_neg q]
   rw[e1,e2];generalize po h=E at c1 q;refine aj hT Tryz.func236 Tryz.call236 ?_;conv=>whnf
   repeat' (first|(refine ab (c1) rfl rfl ?_;rotate_right;conv=>whnf)|((first|refine aa ?_ ?_<;>intro hb<;>try simp only[am]at hb|omega|refine ao ?_|decide|assumption)<;>conv=>whnf))
   all_goals first
    |(exfalso;omega)
    | (refine .weak _ ?_
       conv=>whnf
       exact⟨.tup [.agg ((dS fq).map .d),.d (.int .i64 E)],[],aU ⟨be ⟨lr,lr,lr,lr,aI,trivial⟩,lr,trivial⟩,⟨rfl,rfl⟩,trivial⟩)
 · have q:po h=0:=by omega
   have e1:nb h H=aT H:=by unfold nb;rw[if_neg (fun c=>c q)]
   have e2:xW h H=if aT H=0 then H else fq:=by unfold xW;rw[e1]
   rw[e1,e2];have c1:=Jo h hk q;have c2:=Ay H hH.k;generalize aT H=E at c2;generalize hR:(if E=0 then H else fq)=R at c2;have hl:=hk.2.2.1;have hn:=jq (ju q).1;subst hHe;refine aj hT Tryz.func236 Tryz.call236 ?_;conv=>whnf
   repeat' ((first|(refine bP c1 [(7,40)] ?_)|(refine dP.freeze _ _ _ _ 40 178 9 _ _ rfl rfl ?_;refine ap c2 ⟨be ⟨lr,lr,lr,lr,qO lM,trivial⟩,trivial⟩ rfl ?_)|refine aa ?_ ?_<;>intro hb<;>try simp only[am]at hb|omega|refine ao ?_|decide|assumption)<;>conv=>whnf)
   all_goals first
    |(exfalso;omega)
    | (refine .ret _ ?_
       conv=>whnf
       exact⟨[],⟨rfl,rfl⟩,trivial⟩)
theorem Mw (h:cq)(hk:sd h)(hs:h.legs.length<2^19)(ri:ij)(hr:ri.st.length≤2^40)(v:List UInt8)(hv:v.length≤2^40)(ro:ij)(ho:ro.st.length≤2^40):
 ae Tryz.prog 237 [.agg ((dS h).map .d),.agg ((EZ ri).map .d),.d (.str v),.agg ((EZ ro).map .d)] [] (fun y r=>y= .tup [.agg ((dS (xW h (ng h ri v ro))).map .d),.d (.int .i64 (nb h (ng h ri v ro)))]∧r= []):=by
 have hH:sd (ng h ri v ro):=⟨hk.1,hk.2.1,by show(ct h.legs ri++ [_]).length≤_;rw[List.length_append,cU,List.length_singleton];omega,fun x hx=>by
  rcases List.mem_append.1 hx with q|q
  · exact qk hk.2.2.2 hr x q
  · rw[List.mem_singleton]at q;subst q;exact⟨hv,ho,by simp[r8]⟩⟩
 generalize hHe:ng h ri v ro=H at hH ⊢
 by_cases q:po h≠0
 · have c1:=H6 h hk q;have e1:nb h H=po h:=by unfold nb;rw[if_pos q]
   have e2:xW h H=fq:=by unfold xW;rw[e1,if_neg q]
   rw[e1,e2];generalize po h=E at c1 q;refine aj hT Tryz.func237 Tryz.call237 ?_;conv=>whnf
   repeat' (first|(refine ab (c1) rfl rfl ?_;rotate_right;conv=>whnf)|((first|refine aa ?_ ?_<;>intro hb<;>try simp only[am]at hb|omega|refine ao ?_|decide|assumption)<;>conv=>whnf))
   all_goals first
    |(exfalso;omega)
    | (refine .weak _ ?_
       conv=>whnf
       exact⟨.tup [.agg ((dS fq).map .d),.d (.int .i64 E)],[],aU ⟨be ⟨lr,lr,lr,lr,aI,trivial⟩,lr,trivial⟩,⟨rfl,rfl⟩,trivial⟩)
 · have q:po h=0:=by omega
   have e1:nb h H=aT H:=by unfold nb;rw[if_neg (fun c=>c q)]
   have e2:xW h H=if aT H=0 then H else fq:=by unfold xW;rw[e1]
   rw[e1,e2];have c1:=Jo h hk q;have c2:=Ay H hH.k;generalize aT H=E at c2;generalize hR:(if E=0 then H else fq)=R at c2;have hl:=hk.2.2.1;have hn:=jq (ju q).1;subst hHe;refine aj hT Tryz.func237 Tryz.call237 ?_;conv=>whnf
   repeat' ((first|(refine bP c1 [(7,50)] ?_)|(refine dP.freeze _ _ _ _ 36 178 9 _ _ rfl rfl ?_;refine ap c2 ⟨be ⟨lr,lr,lr,lr,pS lM rfl,trivial⟩,trivial⟩ rfl ?_)|refine aa ?_ ?_<;>intro hb<;>try simp only[am]at hb|omega|refine ao ?_|decide|assumption)<;>conv=>whnf)
   all_goals first
    |(exfalso;omega)
    | (refine .ret _ ?_
       conv=>whnf
       exact⟨[],⟨rfl,rfl⟩,trivial⟩)
theorem JC (key drv:List UInt8)(a b:Int)(v:List UInt8)(o:ij)(h1:key.length≤2^40)(h2:drv.length≤2^40)(h3:v.length≤2^40)(h4:o.st.length≤2^40):
 ae Tryz.prog 234 [.d (.str key),.d (.str drv),.agg [.d (.int .i64 a),.d (.int .i64 b)],.d (.str v),.agg ((EZ o).map .d)] [] (fun y r=>y= .tup [.agg ((dS (if aT (dG key drv a b v o)=0 then dG key drv a b v o else fq)).map .d),.d (.int .i64 (aT (dG key drv a b v o)))]∧r= []):=by
 have h265:=Ay (dG key drv a b v o) ⟨h1,h2,by simp[dG],fun x hx=>by simp[dG]at hx;subst hx;exact⟨h3,h4,by simp[r8]⟩⟩;generalize aT (dG key drv a b v o)=E at h265 ⊢;generalize hH:(if E=0 then dG key drv a b v o else fq)=H at h265 ⊢;refine aj hT Tryz.func234 Tryz.call234 ?_;conv=>whnf
 repeat' ((first|refine ap h265 ⟨be ⟨lr,lr,lr,lr,ai rfl rfl,trivial⟩,trivial⟩ rfl ?_|refine aa ?_ ?_<;>intro hb<;>try simp only[am]at hb|omega|refine ao ?_|decide|assumption)<;>conv=>whnf)
 refine .ret _ ?_;conv=>whnf
 exact⟨[],⟨rfl,rfl⟩,trivial⟩
def Ed:TL:= [(1,[(0,[]),(1,[]),(2,[]),(3,[]),(4,rg 4),(5,rg 4),(6,[]),(7,[]),(8,[]),(9,[8]),(10,[9]),(11,[])]),(3,[(0,[]),(1,[]),(2,[]),(3,[]),(4,[]),(5,[]),(6,[]),(7,[3,4,5,6]),(8,[3,4,5,6]),(9,[]),(10,[]),(11,[]),(12,[]),(13,[]),(14,[]),(15,[]),(16,[]),(17,[]),(18,[]),(19,[15,16,17,18]),(20,[15,16,17,18]),(21,[]),(22,[]),(23,[]),(24,[]),(26,rg 25),(35,[0,1,2,3,4,5,6,7,8,9,10,11,12,13,14,15,16,17,18,19,20,21,22,23,24,26]),(36,[0,1,2,3,4,5,6,7,8,9,10,11,12,13,14,15,16,17,18,19,20,21,22,23,24,26,35]),(25,[26,35,36]),(27,[35,36]),(28,[35,36]),(29,[35,36]),(30,[35,36,28,29]),(31,[35,36,28,29]),(32,[35,36]),(33,[35,36]),(34,[35,36]),(37,[]),(38,[]),(39,[]),(40,[])])]
def kU (vm:Mp (List UInt8))(sm:Mp Bool)(s:da)(x:aS):Int:=
 ah [if(!vm.has x.veh||(!sm.val x.st||(decide (x.kind=6)&& !sm.val x.to)))then 8 else 0,if(decide (x.kind=6)&&decide (x.to=x.st))then 14 else 0,dV s x]
def kg (vm:Mp (List UInt8))(sm:Mp Bool)(s:da)(x:aS):da:=if kU vm sm s x=0 then fy s x else s
theorem NZ (h:df)(vm:Mp (List UInt8))(sm:Mp Bool)(s:da)(x:aS)(hl:s.log.length≤2^20):
 ae Tryz.prog 176 [.ptr 1000001 0,.agg ((eV x).map .d)] (jk h vm sm s) (fun y r=>y= .d (.int .i64 (kU vm sm s x))∧r=dT h vm sm (kg vm sm s x)):=by
 have c1:=Lk h vm sm s x;have c2:=IF h vm sm s x hl;generalize hC:dV s x=C at c1;refine aj hT Tryz.func176 Tryz.call176 ?_;conv=>whnf
 repeat' (first|((first|(refine bP (c1) LU ?_)|(refine bP (c2) Hj ?_))<;>conv=>whnf)|(refine ab (j9 _ _) rfl rfl ?_;rotate_right;conv=>whnf)|((first|refine And.intro (rfl:bt _=some (jC ep)) ?_|refine And.intro (rfl:bt _=some [.bool false]) ?_|refine And.intro (rfl:bt _=some (vR [])) ?_|refine And.intro (rfl:bt _=some [.str []]) ?_|refine And.intro (rfl:bt _=some (ez fG)) ?_|refine And.intro (rfl:bt _=some (cQ none)) ?_|refine And.intro (rfl:bt _=some [.int .i64 0]) ?_|refine ap (kM [_,_,_] (by simp)) ⟨ai (by rfl) (by rfl),trivial⟩ rfl ?_|refine aa ?_ ?_<;>intro hb<;>try simp only[am]at hb|refine bg hT Ed ?_|omega|refine ao ?_|decide|assumption)<;>conv=>whnf))
 all_goals first
  | (have hS:kg vm sm s x=s:=by
      clear c1 c2;simp only[cf]at*;unfold kg kU;rw[hC]
      first
       |(simp_all [ah];done)
       |(simp_all [ah];grind)
       |grind [ah]
     rw[hS];refine .ent _ _ (ac (ts:= [(4,.d (.int .i64 (kU vm sm s x)))]) (rs:=dT h vm sm (s)) EX rfl rfl ⟨au (by clear c1 c2;simp only[cf]at*;unfold kU;rw[hC];first|(simp_all [ah];done)|(simp_all [ah];grind)|grind [ah]),trivial⟩ ⟨rr,rr,rr,rr,rr,rr,rr,rr,rr,rr,trivial⟩) ?_;refine .ret _ ?_;conv=>whnf
     exact⟨_,⟨rfl,rfl⟩,rr,rr,rr,rr,rr,rr,rr,rr,rr,rr,trivial⟩)
  | (have hS:kg vm sm s x=fy s x:=by
      clear c1 c2;simp only[cf]at*;unfold kg kU;rw[hC]
      first
       |(simp_all [ah];done)
       |(simp_all [ah];grind)
       |grind [ah]
     rw[hS];refine .ent _ _ (ac (ts:= [(4,.d (.int .i64 (kU vm sm s x)))]) (rs:=dT h vm sm (fy s x)) Mn rfl rfl ⟨au (by clear c1 c2;simp only[cf]at*;unfold kU;rw[hC];first|(simp_all [ah];done)|(simp_all [ah];grind)|grind [ah]),trivial⟩ ⟨rr,rr,rr,rr,rr,rr,rr,rr,rr,rr,trivial⟩) ?_;refine .ret _ ?_;conv=>whnf
     exact⟨_,⟨rfl,rfl⟩,rr,rr,rr,rr,rr,rr,rr,rr,rr,rr,trivial⟩)
def CL:TL:= [(2,[(0,[]),(1,[]),(3,[0,1]),(7,[0,1,3]),(8,[0,1,3]),(9,[0,1,3]),(10,[0,1,3]),(11,[0,1,3,7,8,9,10]),(12,[0,1,3]),(13,[0,1,3,7,8,9,10,11,12]),(14,[0,1,3]),(15,[0,1,3]),(2,[3,7,8,9,10,11,12,13,14,15]),(4,[7,8,9,10,11,12,13,14,15]),(5,[7,8,9,10,11,12,13,14,15]),(6,[7,8,9,10,11,12,13,14,15]),(16,[]),(17,[]),(18,[]),(19,[])])]
def mj (s:da)(key:List UInt8)(c:Int):Int:=ah [if !s.his.has key then 8 else 0,if !decide (0≤c∧c≤1000000000)then 1 else 0,if 1000000000<s.paid.val key+c then 2 else 0]
def ml (s:da)(key:List UInt8)(c:Int):da:=if mj s key c=0 then{s with paid:=s.paid.put key (s.paid.val key+c)}else s
theorem LY (h:df)(vm:Mp (List UInt8))(sm:Mp Bool)(s:da)(key:List UInt8)(c:Int)(hc: -2^40≤c∧c≤2^40)(hp: -2^40≤s.paid.val key∧s.paid.val key≤2^40):
 ae Tryz.prog 179 [.ptr 1000001 0,.d (.str key),.d (.int .i64 c)] (jk h vm sm s) (fun y r=>y= .d (.int .i64 (mj s key c))∧r=dT h vm sm (ml s key c)):=by
 obtain⟨hc1,hc2⟩:=hc;obtain⟨hp1,hp2⟩:=hp;rcases hv:s.his.val key with _|g
 all_goals
  refine aj hT Tryz.func179 Tryz.call179 ?_;conv=>whnf
  repeat' (first|(refine ab (jY _ _ _) rfl rfl ?_;rotate_right;conv=>whnf)|(refine And.intro (by show bC (s.paid.val key+c);unfold bC;omega) ?_;conv=>whnf)|(refine ab (j9 _ _) rfl rfl ?_;rotate_right;conv=>whnf)|((first|(refine And.intro (rfl:bt _=some (cQ none)) ?_;refine cm (row':=cQ none) (congrArg cQ hv) ?_)|(refine And.intro (rfl:bt _=some (cQ none)) ?_;refine cm (row':=dS g) (congrArg cQ hv) ?_)|refine And.intro (rfl:bt _=some (jC ep)) ?_|refine And.intro (rfl:bt _=some [.bool false]) ?_|refine And.intro (rfl:bt _=some (vR [])) ?_|refine And.intro (rfl:bt _=some [.str []]) ?_|refine And.intro (rfl:bt _=some (ez fG)) ?_|refine And.intro (rfl:bt _=some (cQ none)) ?_|refine And.intro (rfl:bt _=some [.int .i64 0]) ?_|refine ap (kM [_,_,_] (by simp)) ⟨ai (by rfl) (by rfl),trivial⟩ rfl ?_|refine aa ?_ ?_<;>intro hb<;>try simp only[am]at hb|refine bg hT CL ?_|omega|refine ao ?_|decide|assumption)<;>conv=>whnf))
  all_goals first
   | (have hS:ml s key c=(s):=by
       unfold ml mj
       (try simp only[cf]at*);first|(simp_all [ah];done)|(simp_all [ah];grind)|grind [ah]
      rw[hS];refine .ent _ _ (ac (ts:= [(6,.d (.int .i64 (mj s key c)))]) (rs:=dT h vm sm (s)) EX rfl rfl ⟨au (by unfold mj;(try simp only[cf]at*);first|(simp_all [ah];done)|(simp_all [ah];grind)|grind [ah]),trivial⟩ ⟨rr,rr,rr,rr,rr,rr,rr,rr,rr,rr,trivial⟩) ?_;refine .ret _ ?_;conv=>whnf
      exact⟨_,⟨rfl,rfl⟩,rr,rr,rr,rr,rr,rr,rr,rr,rr,rr,trivial⟩)
   | (have hS:ml s key c=({s with paid:=s.paid.put key (s.paid.val key+c)}):=by
       unfold ml mj
       (try simp only[cf]at*);first|(simp_all [ah];done)|(simp_all [ah];grind)|grind [ah]
      rw[hS];refine .ent _ _ (ac (ts:= [(6,.d (.int .i64 (mj s key c)))]) (rs:=dT h vm sm ({s with paid:=s.paid.put key (s.paid.val key+c)})) EX rfl rfl ⟨au (by unfold mj;(try simp only[cf]at*);first|(simp_all [ah];done)|(simp_all [ah];grind)|grind [ah]),trivial⟩ ⟨rr,rr,rr,rr,rr,rr,rr,rr,eQ,rr,trivial⟩) ?_;refine .ret _ ?_;conv=>whnf
      exact⟨_,⟨rfl,rfl⟩,rr,rr,rr,rr,rr,rr,rr,rr,rr,rr,trivial⟩)
def vV:TL:= [(8,[(0,[]),(1,[]),(2,[]),(3,[]),(4,[]),(5,[3,4]),(6,[3,4,5]),(7,[3,4,5]),(8,[3,4]),(9,[3,4]),(10,[3,4]),(11,[]),(12,[]),(13,[])])]
theorem Oj (x:gd)(key:List UInt8):ae Tryz.prog 323 [.agg ((ub x).map .d),.ptr 1000001 0] [(1000001,jp key)] (fun y r=>y= .d (.bool (x.key==key))∧r= [(1000001,jp key)]):=by
 refine aj hT Tryz.func323 Tryz.call323 ?_;conv=>whnf
 refine .ret _ ?_;conv=>whnf
 exact⟨[(1000001,jp key)],⟨rfl,rfl⟩,rr,trivial⟩
theorem HQ (l:List gd)(hl:l.length≤2^40)(key:List UInt8):ae Tryz.prog 130 [.d (dI l),.fn 323 [.ptr 1000001 0]] [(1000001,jp key)] (fun x r=>x= .d (.int .i64 (fD l key))∧r= [(1000001,jp key)]):=by
 refine aj hT Tryz.func130 Tryz.call130 ?_;conv=>whnf
 refine af hT (C:= []) (ι:=Nat) (fun i=>i≤l.length∧∀j,j<i→((l.getD j cD).key==key)=false) (fun i=>aJ [(0,.d (dI l)),(1,.fn 323 [.ptr 1000001 0]),(7,.d (.int .i64 l.length)),(8,.d (.int .i64 i))] [(1000001,jp key)]) (fun i=>l.length - i) 0 ⟨by omega,by omega⟩ (by exact a7 [(1000001,1000001)]) ?_;rintro i ⟨p1,p2⟩;have e1:=ek i;conv=>whnf
 repeat' ((first|(refine bP (Oj (l.getD (i:Int).toNat cD) key) [(1000001,1000001)] ?_)|refine aa ?_ ?_<;>intro hb<;>try simp only[am]at hb|omega|refine ao ?_|decide|assumption)<;>conv=>whnf)
 · refine .ret _ ?_;conv=>whnf
   refine⟨[(1000001,jp key)],⟨?_,rfl⟩,rr,trivial⟩;conv=>lhs;whnf
   congr 2
   exact(d5 (by omega) p2 (by simpa using hb)).symm
 · exact⟨i+1,⟨by omega,aV p2 (by simpa using hb)⟩,by omega,(by exact a7 [(1000001,1000001)])⟩
 · refine .ret _ ?_;conv=>whnf
   refine⟨[(1000001,jp key)],⟨?_,rfl⟩,rr,trivial⟩;conv=>lhs;whnf
   congr 2
   have:i=l.length:=by omega
   subst this;exact(dr p2).symm
def kX (l:List gd)(key:List UInt8):Bool:=decide (0≤fD l key)
theorem K7 (l:List gd)(hl:l.length≤2^40)(key:List UInt8):ae Tryz.prog 322 [.d (dI l),.fn 323 [.ptr 1000001 0]] [(1000001,jp key)] (fun x r=>x= .d (.bool (kX l key))∧r= [(1000001,jp key)]):=by
 refine aj hT Tryz.func322 Tryz.call322 ?_;conv=>whnf
 repeat' ((first|(refine bP (HQ l hl key) [(1000001,1000001)] ?_)|refine aa ?_ ?_<;>intro hb<;>try simp only[am]at hb|omega|refine ao ?_|decide|assumption)<;>conv=>whnf)
 refine .ret _ ?_;conv=>whnf
 exact⟨_,⟨rfl,rfl⟩,rr,trivial⟩
theorem BH (l:List gd)(hl:l.length≤2^40)(key:List UInt8):ae Tryz.prog 307 [.d (dI l),.d (.str key)] [] (fun x r=>x= .d (.bool (kX l key))∧r= []):=by
 refine aj hT Tryz.func307 Tryz.call307 ?_;conv=>whnf
 repeat' ((first|(refine bP (K7 l hl key) [(1000001,3)] ?_)|refine aa ?_ ?_<;>intro hb<;>try simp only[am]at hb|omega|refine ao ?_|decide|assumption)<;>conv=>whnf)
 refine .ret _ ?_;conv=>whnf
 refine⟨[],⟨?_,rfl⟩,trivial⟩;conv=>lhs;whnf
def mf (b:oR):Int:=
 if aN b.key=false∨aN b.cls=false then 5 else if b.frm<0∨b.to≤b.frm∨5761439<b.to then 1
 else if ¬ (0≤b.made∧b.made≤b.frm)∨¬ (0≤b.pct∧b.pct≤100)then 1 else 0
theorem G4 (b:oR)(h1:b.key.length≤2^40)(h2:b.cls.length≤2^40):ae Tryz.prog 306 [.d (pF [b])] [] (fun x r=>x= .d (.int .i64 (mf b))∧r= []):=by
 have c1:=kV b.key h1;have c2:=kV b.cls h2;refine aj hT Tryz.func306 Tryz.call306 ?_;conv=>whnf
 refine af hT (C:= []) (ι:=Nat) (fun i=>i=0∨(i=1∧mf b=0)) (fun i=>aJ [(0,.d (pF [b])),(8,.d (pF [b])),(9,.d (.int .i64 1)),(10,.d (.int .i64 i))] []) (fun i=>1 - i) 0 (.inl rfl) (by exact a7 []) ?_;rintro i (rfl|⟨rfl,hz⟩)
 · conv =>whnf
   repeat' (first|(refine ab (c1) rfl rfl ?_;rotate_right;conv=>whnf)|(refine ab (c2) rfl rfl ?_;rotate_right;conv=>whnf)|(refine ab (jY _ _ _) rfl rfl ?_;rotate_right;conv=>whnf)|((first|refine aa ?_ ?_<;>intro hb<;>try simp only[am]at hb|refine bg hT vV ?_|omega|refine ao ?_|decide|assumption)<;>conv=>whnf))
   all_goals first
    | (refine .ret _ ?_
       conv=>whnf
       refine⟨[],⟨?_,rfl⟩,trivial⟩;conv=>lhs;whnf
       congr 2
       clear c1 c2
       (try simp only[List.getD_cons_zero]at*)
       unfold mf
       grind)
    | (refine⟨1,.inr ⟨rfl,?_⟩,by omega,(by exact a7 [])⟩
       clear c1 c2
       (try simp only[List.getD_cons_zero]at*)
       unfold mf
       grind)
 · rw[hz];conv=>whnf
   repeat' ((first|refine aa ?_ ?_<;>intro hb<;>try simp only[am]at hb|refine bg hT vV ?_|omega|refine ao ?_|decide|assumption)<;>conv=>whnf)
   refine .ret _ ?_;conv=>whnf
   refine⟨[],⟨?_,rfl⟩,trivial⟩;conv=>lhs;whnf
def tB (l:List gd)(b:oR):Int:=if mf b≠0 then mf b else if kX l b.cls then 0 else 8
theorem DP (l:List gd)(hl:l.length≤2^40)(b:oR)(h1:b.key.length≤2^40)(h2:b.cls.length≤2^40):ae Tryz.prog 280 [.d (dI l),.d (pF [b])] [] (fun x r=>x= .d (.int .i64 (tB l b))∧r= []):=by
 have c1:=G4 b h1 h2;have c2:=BH l hl b.cls;have hD:tB l b=if mf b≠0 then mf b else if kX l b.cls then 0 else 8:=rfl;generalize mf b=F at c1 hD;generalize kX l b.cls=H at c2 hD;refine aj hT Tryz.func280 Tryz.call280 ?_;conv=>whnf
 repeat' (first|(refine ab (c1) rfl rfl ?_;rotate_right;conv=>whnf)|((first|refine aa ?_ ?_<;>intro hb<;>try simp only[am]at hb|omega|refine ao ?_|decide|assumption)<;>conv=>whnf))
 · rw[if_pos hb]at hD;rw[hD];refine .ret _ ?_;conv=>whnf
   refine⟨[],⟨?_,rfl⟩,trivial⟩;conv=>lhs;whnf
 rw[if_neg (fun c=>c hb)]at hD;refine af hT (C:= []) (ι:=Nat) (fun i=>i=0∨(i=1∧H=true)) (fun i=>aJ [(0,.d (dI l)),(13,.d (pF [b])),(14,.d (.int .i64 1)),(15,.d (.int .i64 i))] []) (fun i=>1 - i) 0 (.inl rfl) (by exact a7 []) ?_;rintro i (rfl|⟨rfl,hz⟩)
 · conv =>whnf
   repeat' ((first|refine Fc c2 ?_|refine aa ?_ ?_<;>intro hb<;>try simp only[am]at hb|omega|refine ao ?_|decide|assumption)<;>conv=>whnf)
   all_goals first
    | (refine⟨1,.inr ⟨rfl,?_⟩,by omega,(by exact a7 [])⟩
       first|exact hb|simpa using hb)
    | (rw[show H=false from by first|exact hb|simpa using hb]at hD
       rw[hD];refine .ret _ ?_;conv=>whnf
       refine⟨[],⟨?_,rfl⟩,trivial⟩;conv=>lhs;whnf
       all_goals rfl)
 · rw[hz]at hD;rw[hD];conv=>whnf
   repeat' ((first|refine aa ?_ ?_<;>intro hb<;>try simp only[am]at hb|omega|refine ao ?_|decide|assumption)<;>conv=>whnf)
   refine .ret _ ?_;conv=>whnf
   refine⟨[],⟨?_,rfl⟩,trivial⟩;conv=>lhs;whnf
   rfl
def C9 (l:List gd)(b:oR):Int:=ah [dD l,tB l b]
theorem Gg (l:List gd)(hk:kD l)(b:oR)(h1:b.key.length≤2^40)(h2:b.cls.length≤2^40):ae Tryz.prog 233 [.d (dI l),.d (pF [b])] [] (fun x r=>x= .d (.int .i64 (C9 l b))∧r= []):=by
 have c1:=z175 l hk;have c2:=DP l (by have:=hk.1;omega) b h1 h2;have hE:C9 l b=ah [dD l,tB l b]:=rfl;generalize dD l=A at c1 hE;generalize tB l b=B at c2 hE;rw[hE];refine aj hT Tryz.func233 Tryz.call233 ?_;conv=>whnf
 repeat' (first|(refine ab (c1) rfl rfl ?_;rotate_right;conv=>whnf)|(refine ab (c2) rfl rfl ?_;rotate_right;conv=>whnf)|((first|refine ap (kM [_,_] (by simp)) ⟨ai (by rfl) (by rfl),trivial⟩ rfl ?_|refine aa ?_ ?_<;>intro hb<;>try simp only[am]at hb|omega|refine ao ?_|decide|assumption)<;>conv=>whnf))
 refine .ret _ ?_;conv=>whnf
 refine⟨[],⟨?_,rfl⟩,trivial⟩;conv=>lhs;whnf
def D7:TL:= [(1,[(0,[]),(1,[]),(2,[]),(3,[]),(4,rg 4),(5,rg 4),(6,[]),(7,[]),(8,[]),(9,[8]),(10,rg 10),(11,[9]),(12,[])]),(2,[(0,[]),(1,[]),(2,[]),(3,[]),(4,rg 4),(5,rg 4),(6,[]),(7,[]),(8,[]),(9,[8]),(10,rg 10),(11,[9]),(12,[])]),(3,[(0,[]),(1,[]),(2,[]),(3,[]),(4,[]),(5,[]),(6,rg 6),(7,rg 6),(9,rg 8),(14,[0,1,2,3,4,5,6,7,9]),(15,[0,1,2,3,4,5,6,7,9]),(16,[0,1,2,3,4,5,6,7,9]),(17,[0,1,2,3,4,5,6,7,9]),(8,[9,14,15,16,17]),(10,[14,15,16,17]),(11,[14,15,16,17]),(12,[14,15,16,17]),(13,[14,15,16,17]),(18,[]),(19,[]),(20,[]),(21,[]),(22,[]),(23,[])]),(6,[(0,[]),(1,[]),(2,[]),(3,[]),(4,rg 4),(5,rg 4),(6,rg 6),(7,[])])]
def gQ (h:df)(s:da)(b:oR):Int:=ah [C9 h.flt.cls b,if(s.bks.has b.key||s.his.has b.key)then 6 else 0,0]
def gF (h:df)(s:da)(b:oR):da:=if gQ h s b=0 then{s with bks:=s.bks.put b.key b}else s
def Gq (m:List UInt8→Bool):Prop:=∃L:List (List UInt8),L.length<500∧∀k,m k=true→k ∈ L
theorem Gq.kb {m:List UInt8→Bool}(h:Gq m){clock:Nat}{kb:List (List DV×Nat)}(hk:KB [.str] (fun K=>m (cf K)) clock kb):kb.length<500:=by
 obtain⟨L,h1,h2⟩:=h
 have:=hk.le (L.map fun x=> [.str x]) (fun key hw hh=>by
  obtain⟨s,rfl⟩:=dL hw
  exact List.mem_map.2 ⟨s,h2 s hh,rfl⟩)
 rw[List.length_map]at this;omega
theorem KL (h:df)(hc:kD h.flt.cls)(vm:Mp (List UInt8))(sm:Mp Bool)(s:da)(b:oR)(h1:b.key.length≤2^40)(h2:b.cls.length≤2^40)(hf:Gq s.bks.has):
 ae Tryz.prog 177 [.ptr 1000001 0,.agg ((ez b).map .d)] (jk h vm sm s) (fun y r=>y= .d (.int .i64 (gQ h s b))∧r=dT h vm sm (gF h s b)):=by
 have c1:=Gg h.flt.cls hc b h1 h2;generalize hC:C9 h.flt.cls b=C at c1;have hcn:∀clock kb,KB [.str] (fun K=>s.bks.has (cf K)) clock kb→kb.length<500:=fun clock kb hk=>hf.kb hk
 rcases hv:s.his.val b.key with _|g
 all_goals
  refine aj hT Tryz.func177 Tryz.call177 ?_;conv=>whnf
  repeat' (first|((first|(refine wO (id:=3) 1000007 rfl ?_;intro clock kb hKB;have hk5:=hcn clock kb hKB;have hk6:¬ (500:Int)≤(kb.length:Int):=(by omega))|refine sn.unc (id:=6) 1000007 rfl ?_)<;>conv=>whnf)|(refine ab (j9 _ _) rfl rfl ?_;rotate_right;conv=>whnf)|((first|(refine And.intro (rfl:bt _=some (cQ none)) ?_;refine cm (row':=cQ none) (congrArg cQ hv) ?_)|(refine And.intro (rfl:bt _=some (cQ none)) ?_;refine cm (row':=dS g) (congrArg cQ hv) ?_)|refine And.intro (rfl:bt _=some (jC ep)) ?_|refine And.intro (rfl:bt _=some [.bool false]) ?_|refine And.intro (rfl:bt _=some (vR [])) ?_|refine And.intro (rfl:bt _=some [.str []]) ?_|refine And.intro (rfl:bt _=some (ez fG)) ?_|refine And.intro (rfl:bt _=some (cQ none)) ?_|refine And.intro (rfl:bt _=some [.int .i64 0]) ?_|refine ap c1 ⟨lr,ai rfl rfl,trivial⟩ rfl ?_|refine ap (kM [_,_,_] (by simp)) ⟨ai (by rfl) (by rfl),trivial⟩ rfl ?_|refine aa ?_ ?_<;>intro hb<;>try simp only[am]at hb|refine bg hT D7 ?_|omega|refine ao ?_|decide|assumption)<;>conv=>whnf))
  all_goals first
   | (have hS:gF h s b=(s):=by
       clear c1 hcn hKB hf;unfold gF gQ;rw[hC]
       (try simp only[cf]at*);first|(simp_all [ah];done)|(simp_all [ah];grind)|grind [ah]
      rw[hS];refine .ent _ _ (ac (ts:= [(4,.d (.int .i64 (gQ h s b)))]) (rs:=dT h vm sm (s)) EX rfl rfl ⟨au (by clear c1 hcn hKB hf;unfold gQ;rw[hC];(try simp only[cf]at*);first|(simp_all [ah];done)|(simp_all [ah];grind)|grind [ah]),trivial⟩ ⟨rr,rr,rr,rr,rr,rr,fI fun _ _=>⟨rfl,rfl⟩,rr,rr,rr,trivial⟩) ?_;refine .ret _ ?_;conv=>whnf
      exact⟨_,⟨rfl,rfl⟩,rr,rr,rr,rr,rr,rr,rr,rr,rr,rr,trivial⟩)
   | (have hS:gF h s b=({s with bks:=s.bks.put b.key b}):=by
       clear c1 hcn hKB hf;unfold gF gQ;rw[hC]
       (try simp only[cf]at*);first|(simp_all [ah];done)|(simp_all [ah];grind)|grind [ah]
      rw[hS];refine .ent _ _ (ac (ts:= [(4,.d (.int .i64 (gQ h s b)))]) (rs:=dT h vm sm ({s with bks:=s.bks.put b.key b})) EX rfl rfl ⟨au (by clear c1 hcn hKB hf;unfold gQ;rw[hC];(try simp only[cf]at*);first|(simp_all [ah];done)|(simp_all [ah];grind)|grind [ah]),trivial⟩ ⟨rr,rr,rr,rr,rr,rr,eQ,rr,rr,rr,trivial⟩) ?_;refine .ret _ ?_;conv=>whnf
      exact⟨_,⟨rfl,rfl⟩,rr,rr,rr,rr,rr,rr,rr,rr,rr,rr,trivial⟩)
def En:TL:= [(1,[(0,[]),(1,[]),(2,[]),(3,[]),(4,rg 4),(5,rg 4),(6,[]),(7,rg 7),(12,rg 8),(8,[12]),(9,[12]),(10,[12]),(11,[12,10]),(13,[11]),(14,[])]),(2,[(0,[]),(1,[]),(2,[]),(3,[]),(4,rg 4),(5,rg 4),(6,rg 6),(7,rg 6),(8,rg 4),(9,[]),(11,rg 10),(12,rg 10),(10,[11,12]),(13,[]),(14,[]),(15,[]),(16,[])])]
def xO:TL:= [(1,[(0,[]),(1,[]),(2,[]),(3,[]),(4,rg 4),(5,rg 4),(6,rg 4),(7,rg 4),(8,rg 8),(9,rg 8),(10,rg 8),(11,rg 8),(12,rg 12),(13,rg 12),(14,rg 12),(15,rg 12),(16,[4,5,6,7,8,9,10,11,12,13,14,15]),(17,[8,9,10,11,12,13,14,15]),(18,[12,13,14,15]),(19,[])]),(2,[(0,[]),(1,[0]),(2,[0,1]),(3,[0,1,2]),(4,[0,1,2]),(5,[0,1,2]),(6,[0,1,2]),(7,[0,1]),(8,rg 8),(9,rg 9),(10,rg 10),(11,rg 11),(12,rg 11),(13,rg 11),(14,rg 11),(15,rg 15),(16,rg 15),(17,rg 15),(18,rg 15),(19,rg 9),(24,rg 20),(20,[24]),(21,[24]),(22,[24]),(23,[24,22]),(25,[23]),(26,[])]),(8,[(0,[]),(2,[0]),(3,[0]),(14,[0,2,3]),(15,[0,2,3,14]),(17,[0,2,3,14,15]),(18,[0,2,3,14,15]),(19,[0,2,3,14,15]),(20,[0,2,3,14,15]),(1,[2,3,14,15,17,18,19,20]),(4,[14,15,17,18,19,20]),(5,[14,15,17,18,19,20]),(6,[14,15,17,18,19,20]),(7,[14,15,17,18,19,20]),(8,[14,15,17,18,19,20]),(9,[14,15,17,18,19,20,5,6,7,8]),(10,[14,15,17,18,19,20]),(11,[14,15,17,18,19,20]),(12,[14,15,17,18,19,20]),(13,[14,15,17,18,19,20]),(16,[17,18,19,20]),(21,[]),(22,[]),(23,[]),(24,[]),(25,[]),(26,[])]),(12,[(0,[]),(1,[]),(2,[]),(3,[]),(4,rg 4),(5,rg 5),(6,[])])]
abbrev CX (h:df)(vm:Mp (List UInt8))(sm:Mp Bool)(s:da)(clock:Nat)(kb:List (List DV×Nat)):List (Nat×bh):=
 [(1000001,Jj h),(1000002,dM false [.str []] vR vm),(1000003,dM false [.bool false] Ht sm),(1000004,dM true (jC ep) jC s.sts),(1000005,nC s.log),(1000006,GK s.ats),(1000007,dM true (ez fG) ez s.bks),(1000008,.mapB false true [.str] (cQ none) (fun K=>s.his.has (cf K)) (fun K=>cQ (s.his.val (cf K))) clock kb),(1000010,dM false [.int .i64 0] xU s.paid),(1000011,Ic s.ref)]
theorem KH (h:df)(vm:Mp (List UInt8))(sm:Mp Bool)(s:da)(x:aS)(clock:Nat)(kb:List (List DV×Nat)):ae Tryz.prog 231 [.ptr 1000001 0,.agg ((eV x).map .d)] (CX h vm sm s clock kb) (fun y r=>y= .d (.int .i64 (dV s x))∧r=CX h vm sm s clock kb):=by
 refine aj hT Tryz.func231 Tryz.call231 ?_;conv=>whnf
 repeat' (first|(refine ap (Il _ x) ⟨lr,lr,trivial⟩ rfl ?_;conv=>whnf)|(refine ab (j9 _ _) rfl rfl ?_;rotate_right;conv=>whnf)|((first|refine And.intro (rfl:bt _=some (jC ep)) ?_|refine And.intro (rfl:bt _=some [DV.bool false]) ?_|refine ap (kM [_,_] (by simp)) ⟨ai (by rfl) (by rfl),trivial⟩ rfl ?_|refine aa ?_ ?_<;>intro hb<;>try simp only[am]at hb|refine bg hT En ?_|omega|refine ao ?_|decide|assumption)<;>conv=>whnf))
 refine .ret _ ?_;conv=>whnf
 exact⟨CX h vm sm s clock kb,⟨rfl,rfl⟩,rr,rr,rr,rr,rr,rr,rr,rr,rr,rr,trivial⟩
def fw (at0:Int)(t:ik):cq:=dG (t.texts.getD 0 []) (t.texts.getD 1 []) at0 (t.nums.getD 0 0) (t.texts.getD 2 []) ⟨at0,t.texts.getD 3 [],t.nums.getD 1 0,t.nums.getD 2 0⟩
def ia (at0:Int)(t:ik):aS:=⟨at0,t.texts.getD 2 [],t.texts.getD 3 [],2,[]⟩
def vC (vm:Mp (List UInt8))(sm:Mp Bool)(s:da)(at0:Int)(t:ik):Int:=
 if aT (fw at0 t)≠0 then aT (fw at0 t)else ah [if s.his.has (t.texts.getD 0 [])then 6 else 0,if(!vm.has (t.texts.getD 2 [])|| !sm.val (t.texts.getD 3 []))then 8 else 0,dV s (ia at0 t),0]
def r7 (vm:Mp (List UInt8))(sm:Mp Bool)(s:da)(at0:Int)(t:ik):da:=if vC vm sm s at0 t=0 then{fy s (ia at0 t)with his:=s.his.put (t.texts.getD 0 []) (some (fw at0 t)),bks:=s.bks.del (t.texts.getD 0 []) fG}else s
theorem OP (h:df)(vm:Mp (List UInt8))(sm:Mp Bool)(s:da)(hl:s.log.length≤2^20)(at0:Int)(t:ik)(h1:4≤t.texts.length)(h2:3≤t.nums.length)(h3:∀j,(t.texts.getD j []).length≤2^40)(hf:Gq s.his.has):
 ae Tryz.prog 178 [.ptr 1000001 0,.d (.int .i64 at0),.agg ((yZ t).map .d)] (jk h vm sm s) (fun y r=>y= .d (.int .i64 (vC vm sm s at0 t))∧r=dT h vm sm (r7 vm sm s at0 t)):=by
 have c1:=JC (t.texts.getD 0 []) (t.texts.getD 1 []) at0 (t.nums.getD 0 0) (t.texts.getD 2 []) ⟨at0,t.texts.getD 3 [],t.nums.getD 1 0,t.nums.getD 2 0⟩ (h3 0) (h3 1) (h3 2) (h3 3);have c2:=KH h vm sm s (ia at0 t);have c3:=IF h vm sm s (ia at0 t) hl
 change ae _ _ _ _ (fun y r=>y= .tup [.agg ((dS (if aT (fw at0 t)=0 then fw at0 t else fq)).map .d),.d (.int .i64 (aT (fw at0 t)))]∧r= [])at c1
 have hE:vC vm sm s at0 t=if aT (fw at0 t)≠0 then aT (fw at0 t)else ah [if s.his.has (t.texts.getD 0 [])then 6 else 0,if(!vm.has (t.texts.getD 2 [])|| !sm.val (t.texts.getD 3 []))then 8 else 0,dV s (ia at0 t),0]:=rfl;generalize dV s (ia at0 t)=C at c2 hE;have hcn:∀clock kb,KB [.str] (fun K=>s.his.has (cf K)) clock kb→kb.length<500:=fun clock kb hk=>hf.kb hk
 by_cases q:aT (fw at0 t)=0
 · rw [if_pos q,q]at c1;rw[if_neg (fun c=>c q)]at hE;rcases hv:s.his.val (t.texts.getD 0 [])with _|g
   all_goals
    refine aj hT Tryz.func178 Tryz.call178 ?_;conv=>whnf
    repeat' (first|(refine wO (id:=8) 1000008 rfl ?_;intro clock kb hKB;have hk5:=hcn clock kb hKB;have hk6:¬ (500:Int)≤(kb.length:Int):=(by omega);conv=>whnf)|(refine ab (c1) rfl rfl ?_;rotate_right;conv=>whnf)|((first|refine dP.look (c2 clock kb) LU rfl ⟨lr,lr,trivial⟩ ⟨⟨_,rfl,rfl⟩,⟨_,rfl,rfl⟩,⟨_,rfl,rfl⟩,⟨_,rfl,rfl⟩,⟨_,rfl,rfl⟩,⟨_,rfl,rfl⟩,⟨_,rfl,rfl⟩,⟨_,rfl,rfl⟩,⟨_,rfl,rfl⟩,⟨_,rfl,rfl⟩,trivial⟩ rfl rfl rfl ?_|(refine dP.of (c3) Hj rfl ⟨lr,lr,trivial⟩ ⟨rr,rr,rr,rr,rr,rr,rr,fI fun _ _=>⟨rfl,rfl⟩,rr,rr,trivial⟩ rfl rfl ?_;rintro y rout ⟨rfl,rfl⟩;refine⟨rfl,?_⟩))<;>conv=>whnf)|(refine ab (j9 _ _) rfl rfl ?_;rotate_right;conv=>whnf)|((first|(refine And.intro (rfl:bt _=some (cQ none)) ?_;refine cm (row':=cQ none) (congrArg cQ hv) ?_)|(refine And.intro (rfl:bt _=some (cQ none)) ?_;refine cm (row':=dS g) (congrArg cQ hv) ?_)|refine And.intro (rfl:bt _=some (jC ep)) ?_|refine And.intro (rfl:bt _=some [.bool false]) ?_|refine And.intro (rfl:bt _=some (vR [])) ?_|refine And.intro (rfl:bt _=some [.str []]) ?_|refine And.intro (rfl:bt _=some (ez fG)) ?_|refine And.intro (rfl:bt _=some (cQ none)) ?_|refine And.intro (rfl:bt _=some [.int .i64 0]) ?_|refine ap (kM [_,_,_,_] (by simp)) ⟨ai (by rfl) (by rfl),trivial⟩ rfl ?_|refine aa ?_ ?_<;>intro hb<;>try simp only[am]at hb|refine bg hT xO ?_|omega|refine ao ?_|decide|assumption)<;>conv=>whnf))
    all_goals first
     | (have hS:r7 vm sm s at0 t=(s):=by
         (try clear hKB);clear c1 c2 c3 hcn hf h3;(try clear hv)
         unfold r7;rw[hE]
         (try simp only[cf,JJ,JE,JH,JL]at*);first|(simp_all [ah];done)|(simp_all [ah];grind)|grind [ah]
        rw[hS];refine .ent _ _ (ac (ts:= [(6,.d (.int .i64 (vC vm sm s at0 t)))]) (rs:=dT h vm sm (s)) EX rfl rfl ⟨au (by(try clear hKB);clear c1 c2 c3 hcn hf h3;(try clear hv);first|(rw[hE];done)|(rw[hE];(try simp only[cf,JJ,JE,JH,JL]at*);first|(simp_all [ah];done)|(simp_all [ah];grind)|grind [ah])),trivial⟩ ⟨rr,rr,rr,rr,rr,rr,rr,fI fun _ _=>⟨rfl,rfl⟩,rr,rr,trivial⟩) ?_;refine .ret _ ?_;conv=>whnf
        exact⟨_,⟨rfl,rfl⟩,rr,rr,rr,rr,rr,rr,rr,rr,rr,rr,trivial⟩)
     | (have hS:r7 vm sm s at0 t=({fy s (ia at0 t)with his:=s.his.put (t.texts.getD 0 []) (some (fw at0 t)),bks:=s.bks.del (t.texts.getD 0 []) fG}):=by
         (try clear hKB);clear c1 c2 c3 hcn hf h3;(try clear hv)
         unfold r7;rw[hE]
         (try simp only[cf,JJ,JE,JH,JL]at*);first|(simp_all [ah];done)|(simp_all [ah];grind)|grind [ah]
        rw[hS];refine .ent _ _ (ac (ts:= [(6,.d (.int .i64 (vC vm sm s at0 t)))]) (rs:=dT h vm sm ({fy s (ia at0 t)with his:=s.his.put (t.texts.getD 0 []) (some (fw at0 t)),bks:=s.bks.del (t.texts.getD 0 []) fG})) Mn rfl rfl ⟨au (by(try clear hKB);clear c1 c2 c3 hcn hf h3;(try clear hv);first|(rw[hE];done)|(rw[hE];(try simp only[cf,JJ,JE,JH,JL]at*);first|(simp_all [ah];done)|(simp_all [ah];grind)|grind [ah])),trivial⟩ ⟨rr,rr,rr,rr,rr,rr,qu,eQ (v:=some (fw at0 t)),rr,rr,trivial⟩) ?_;refine .ret _ ?_;conv=>whnf
        exact⟨_,⟨rfl,rfl⟩,rr,rr,rr,rr,rr,rr,rr,rr,rr,rr,trivial⟩)
 · rw[if_neg q]at c1;rw[if_pos q]at hE;generalize aT (fw at0 t)=X at c1 hE q;refine aj hT Tryz.func178 Tryz.call178 ?_;conv=>whnf
   repeat' (first|(refine ab (c1) rfl rfl ?_;rotate_right;conv=>whnf)|((first|refine aa ?_ ?_<;>intro hb<;>try simp only[am]at hb|refine bg hT xO ?_|omega|refine ao ?_|decide|assumption)<;>conv=>whnf))
   all_goals first
    |(exfalso;omega)
    | (have hS:r7 vm sm s at0 t=(s):=by
        (try clear hKB);clear c1 c2 c3 hcn hf h3;(try clear hv)
        unfold r7;rw[hE]
        (try simp only[cf,JJ,JE,JH,JL]at*);first|(simp_all [ah];done)|(simp_all [ah];grind)|grind [ah]
       rw[hS];refine .ent _ _ (ac (ts:= [(6,.d (.int .i64 (vC vm sm s at0 t)))]) (rs:=dT h vm sm (s)) EX rfl rfl ⟨au (by(try clear hKB);clear c1 c2 c3 hcn hf h3;(try clear hv);first|(rw[hE];done)|(rw[hE];(try simp only[cf,JJ,JE,JH,JL]at*);first|(simp_all [ah];done)|(simp_all [ah];grind)|grind [ah])),trivial⟩ ⟨rr,rr,rr,rr,rr,rr,rr,rr,rr,rr,trivial⟩) ?_;refine .ret _ ?_;conv=>whnf
       exact⟨_,⟨rfl,rfl⟩,rr,rr,rr,rr,rr,rr,rr,rr,rr,rr,trivial⟩)
end Go.Proofs.YtafhoijegjmdcaaGreatDoor
