/- EntriesFollow is proved: for every input the law returns true, and its argument reads afterwards as it read before. Conditions: those of the given row alone. -/
import Derived.Test.YtafhoijegjmdcaaGreatDoorLzConTri
import Derived.Test.YtafhoijegjmdcaaGreatDoorLzConTwo
import Derived.Test.YtafhoijegjmdcaaGreatDoorLzConOne
set_option linter.unusedVariables false
set_option linter.unusedSimpArgs false
set_option maxHeartbeats 16000000
set_option maxRecDepth 20000
namespace Go.Proofs.YtafhoijegjmdcaaGreatDoor
open Go Go.Eng
def rG:TL:= [(19,[(0,[]),(1,[0]),(2,[0]),(3,[0]),(4,[0]),(5,[]),(6,[]),(7,[]),(8,[7]),(9,[8]),(10,[])]),(22,[(0,[]),(1,[0]),(2,[0,1]),(3,[0,1,2]),(4,[0,1,2]),(5,[0,1,2]),(6,[0,1,2]),(7,rg 7),(8,rg 7),(9,rg 7),(10,rg 7),(11,[0]),(12,[]),(13,[]),(14,[]),(15,[14]),(16,[15]),(17,[])]),(11,[(0,[]),(1,[]),(2,[]),(3,[]),(4,rg 4),(5,rg 4),(6,rg 4),(7,rg 4),(8,[4,5,6,7]),(9,[])]),(12,[(0,[]),(1,[0]),(2,[0,1]),(3,[0,1]),(4,[0,1]),(5,[0,1]),(6,rg 6),(7,rg 6),(8,rg 6),(9,rg 6),(10,[]),(11,rg 11),(12,[])]),(13,[(0,[]),(1,[0]),(2,[0,1]),(3,[0,1]),(4,[0,1]),(5,[0,1]),(6,rg 6),(7,rg 6),(8,rg 6),(9,rg 6),(10,[]),(11,rg 11),(12,[])]),(40,[(0,[]),(1,[]),(2,[]),(3,[]),(4,rg 4),(5,rg 5),(6,[])])]
def eJ (g:cq):List UInt8:=(g.legs.getD ((g.legs.length:Int) - 1).toNat cr).veh
def jI (at0:Int)(t:ik):ij:=⟨at0,(t.texts.getD 1 []),(t.nums.getD 0 0),(t.nums.getD 1 0)⟩
def ln (at0:Int)(t:ik):ij:=⟨at0,(t.texts.getD 1 []),(t.nums.getD 2 0),(t.nums.getD 3 0)⟩
def aY (g:cq)(at0:Int)(t:ik):cq:=if t.word= [101,120,116,101,110,100]then sO g (t.nums.getD 0 0)else if t.word= [99,108,111,115,101]then q8 g (jI at0 t)else ng g (jI at0 t) (t.texts.getD 2 []) (ln at0 t)
def dW (g:cq)(at0:Int)(t:ik):List aS:=if t.word= [101,120,116,101,110,100]then []else if t.word= [99,108,111,115,101]then [⟨at0,eJ g,(t.texts.getD 1 []),3,[]⟩]else [⟨at0,eJ g,(t.texts.getD 1 []),3,[]⟩,⟨at0,(t.texts.getD 2 []),(t.texts.getD 1 []),2,[]⟩]
def lD (vm:Mp (List UInt8))(sm:Mp Bool)(t:ik):Bool:=if t.word= [101,120,116,101,110,100]then true else if t.word= [99,108,111,115,101]then sm.val (t.texts.getD 1 [])else(sm.val (t.texts.getD 1 [])&&vm.has (t.texts.getD 2 []))
def j5 (s:da)(l:List aS):Int:=a8 (fun i=>dV s (l.getD i cj)) l.length
def e7 (s:da)(l:List aS):da:=l.foldl fy s
def FZ (vm:Mp (List UInt8))(sm:Mp Bool)(s:da)(g:cq)(at0:Int)(t:ik):Int:=
 if ah [nb g (aY g at0 t),if(!lD vm sm t)then 8 else 0]≠0 then ah [nb g (aY g at0 t),if(!lD vm sm t)then 8 else 0]else j5 s (dW g at0 t)
def t8 (vm:Mp (List UInt8))(sm:Mp Bool)(s:da)(at0:Int)(t:ik):Int:=if s.his.has (t.texts.getD 0 [])then FZ vm sm s ((s.his.val (t.texts.getD 0 [])).getD fq) at0 t else 8
def sB (vm:Mp (List UInt8))(sm:Mp Bool)(s:da)(at0:Int)(t:ik):da:=
 if t8 vm sm s at0 t=0 then{e7 s (dW ((s.his.val (t.texts.getD 0 [])).getD fq) at0 t)with his:=(e7 s (dW ((s.his.val (t.texts.getD 0 [])).getD fq) at0 t)).his.put (t.texts.getD 0 []) (some (aY ((s.his.val (t.texts.getD 0 [])).getD fq) at0 t))}else s
theorem Ca (s:da)(l:List aS):(e7 s l).his=s.his:=by
 unfold e7
 induction l generalizing s with
 |nil=>rfl
 |cons x l ih=>rw[List.foldl_cons,ih];rfl
theorem Ej (s:da)(l:List aS):(e7 s l).log=s.log++l:=by
 unfold e7
 induction l generalizing s with
 |nil=>simp
 |cons x l ih=>rw[List.foldl_cons,ih];simp[fy]
theorem Bm (s:da)(l:List aS)(i:Nat)(hi:i<l.length):e7 s (l.take (i+1))=fy (e7 s (l.take i)) (l.getD i cj):=by
 unfold e7;rw[List.take_add_one,List.getElem?_eq_getElem hi,Option.toList_some,List.foldl_append,List.getD_eq_getElem?_getD,List.getElem?_eq_getElem hi];rfl
abbrev I7 (h:df):bh:=.cells 107 (oU h++ [.mp 1000002,.mp 1000003,.mp 1000004,.buf 60,.mp 1000006,.mp 1000007,.mp 1000008,.mp 1000010,.buf 1000011])
theorem Pa {a b:Int}(h:ah [a,b]=0):a=0:=by
 by_cases q:a=0
 · exact q
 · simp[ah,q]at h
theorem GD (h:df)(vm:Mp (List UInt8))(sm:Mp Bool)(s:da)(hl:s.log.length≤2^19)(at0:Int)(t:ik)(h1:1≤t.texts.length)(hx:t.word= [101,120,116,101,110,100]→1≤t.nums.length)(hc:t.word= [99,108,111,115,101]→2≤t.texts.length∧2≤t.nums.length)
 (hs:t.word≠ [101,120,116,101,110,100]→t.word≠ [99,108,111,115,101]→3≤t.texts.length∧4≤t.nums.length)(h3:∀j,(t.texts.getD j []).length≤2^40)(g:cq)(hh:s.his.has (t.texts.getD 0 [])=true)(hv:s.his.val (t.texts.getD 0 [])=some g)(hg:sd g)(hg1:1≤g.legs.length)(hg2:g.legs.length<2^19):
 ae Tryz.prog 180 [.ptr 1000001 0,.d (.int .i64 at0),.agg ((yZ t).map .d)] (jk h vm sm s) (fun y r=>y= .d (.int .i64 (t8 vm sm s at0 t))∧r=dT h vm sm (sB vm sm s at0 t)):=by
 have cX:=N7 g hg (t.nums.getD 0 0);have cC:=Ol g hg (jI at0 t) (h3 1);have cE:=Mw g hg hg2 (jI at0 t) (h3 1) (t.texts.getD 2 []) (h3 2) (ln at0 t) (h3 1);obtain⟨N,hN⟩:∃N,aY g at0 t=N:=⟨_,rfl⟩;obtain⟨EV,hEv⟩:∃EV,dW g at0 t=EV:=⟨_,rfl⟩;obtain⟨K,hK⟩:∃K,lD vm sm t=K:=⟨_,rfl⟩
 have hE:t8 vm sm s at0 t=if ah [nb g N,if(!K)=true then 8 else 0]≠0 then ah [nb g N,if(!K)=true then 8 else 0]else j5 s EV:=by
  unfold t8 FZ;rw[if_pos hh,hv,←hN,←hEv,←hK];rfl
 have hS:sB vm sm s at0 t=if t8 vm sm s at0 t=0 then{e7 s EV with his:=(e7 s EV).his.put (t.texts.getD 0 []) (some N)}else s:=by
  unfold sB;rw[hv,←hN,←hEv];rfl
 have hM:nb g N=0→xW g N=N:=fun q=>if_pos q
 have hw:(t.word= [101,120,116,101,110,100]∧sO g (t.nums.getD 0 0)=N∧ []=EV∧true=K∧1≤t.nums.length)∨(t.word= [99,108,111,115,101]∧q8 g (jI at0 t)=N∧ [⟨at0,eJ g,(t.texts.getD 1 []),3,[]⟩]=EV∧sm.val (t.texts.getD 1 [])=K∧2≤t.texts.length∧2≤t.nums.length)∨
  ((t.word≠ [101,120,116,101,110,100]∧t.word≠ [99,108,111,115,101])∧ng g (jI at0 t) (t.texts.getD 2 []) (ln at0 t)=N∧ [⟨at0,eJ g,(t.texts.getD 1 []),3,[]⟩,⟨at0,(t.texts.getD 2 []),(t.texts.getD 1 []),2,[]⟩]=EV∧(sm.val (t.texts.getD 1 [])&&vm.has (t.texts.getD 2 []))=K∧3≤t.texts.length∧4≤t.nums.length):=by
  subst hN hEv hK;unfold aY dW lD
  by_cases w1:t.word= [101,120,116,101,110,100]
  · exact .inl ⟨w1,by rw[if_pos w1],by rw[if_pos w1],by rw[if_pos w1],hx w1⟩
  by_cases w2:t.word= [99,108,111,115,101]
  · exact .inr (.inl ⟨w2,by rw[if_neg w1,if_pos w2],by rw[if_neg w1,if_pos w2],by rw[if_neg w1,if_pos w2],hc w2⟩)
  · exact .inr (.inr ⟨⟨w1,w2⟩,by rw[if_neg w1,if_neg w2],by rw[if_neg w1,if_neg w2],by rw[if_neg w1,if_neg w2],hs w1 w2⟩)
 generalize sB vm sm s at0 t=RS at hS ⊢;generalize t8 vm sm s at0 t=RE at hE hS ⊢;clear hN hEv hK hx hc hs
 have hEl:EV.length≤2:=by
  rcases hw with⟨_,_,q,_⟩|⟨_,_,q,_⟩|⟨_,_,q,_⟩<;>subst q<;>simp
 rcases hw with⟨w,a1,a2,a3,b1⟩|⟨w,a1,a2,a3,b1,b2⟩|⟨⟨w,w2⟩,a1,a2,a3,b1,b2⟩
 all_goals
  first
   |rw[a1]at cX
   |rw[a1]at cC
   |rw[a1]at cE
  refine aj hT Tryz.func180 Tryz.call180 ?_;conv=>whnf
  repeat' (first|((first|refine Fc cX ?_|refine Fc cC ?_|refine Fc cE ?_)<;>conv=>whnf)|(refine ab (j9 _ _) rfl rfl ?_;rotate_right;conv=>whnf)|((first|(refine And.intro (rfl:bt _=some (cQ none)) ?_;refine cm (row':=dS g) (congrArg cQ hv) ?_)|refine And.intro (rfl:bt _=some (jC ep)) ?_|refine And.intro (rfl:bt _=some [.bool false]) ?_|refine And.intro (rfl:bt _=some (vR [])) ?_|refine And.intro (rfl:bt _=some [.str []]) ?_|refine And.intro (rfl:bt _=some (ez fG)) ?_|refine And.intro (rfl:bt _=some (cQ none)) ?_|refine And.intro (rfl:bt _=some [.int .i64 0]) ?_|refine ap (kM [_,_] (by simp)) ⟨ai (by rfl) (by rfl),trivial⟩ rfl ?_|refine aa ?_ ?_<;>intro hb<;>try simp only[am]at hb|refine bg hT rG ?_|omega|refine ao ?_|decide|assumption)<;>conv=>whnf))
  all_goals try(exfalso;contradiction)
  all_goals try(exfalso;have q:t.word= [101,120,116,101,110,100]:=(by assumption);rw[w]at q;exact absurd q (by decide))
  all_goals (try simp only[cf,show Int.toNat 0=0 from rfl,show Int.toNat 1=1 from rfl,show Int.toNat 2=2 from rfl]at*)
  all_goals first
   | (exfalso;have q:s.his.has (t.texts.getD 0 [])=false:=by assumption
      rw[hh]at q;cases q)
   | (have z:ah [nb g N,if(!K)=true then 8 else 0]≠0:=by
       clear cX cC cE hS hE hM;subst a3;simp_all
      rw[if_pos z]at hE;rw[hE,if_neg z]at hS;rw[hS,hE];refine .ent _ _ (ac (ts:= [(6,.d (.int .i64 (ah [nb g N,if(!K)=true then 8 else 0])))]) (rs:=dT h vm sm s) EX rfl rfl ⟨au (by clear cX cC cE;subst a3;first|rfl|(simp[*];done)|(rw[show sm.val (t.texts.getD 1 [])=true by assumption];simp;done)|(rw[show sm.val (t.texts.getD 1 [])=false by assumption];simp;done)),trivial⟩ ⟨rr,rr,rr,rr,rr,rr,rr,rr,rr,rr,trivial⟩) ?_;refine .ret _ ?_;conv=>whnf
      exact⟨_,⟨rfl,rfl⟩,rr,rr,rr,rr,rr,rr,rr,rr,rr,rr,trivial⟩)
   |skip
  all_goals
   have z:¬ah [nb g N,if(!K)=true then 8 else 0]≠0:=by
    clear cX cC cE hS hE hM;subst a3;simp_all
   have hm:nb g N=0:=Pa (Classical.not_not.1 z);rw[if_neg z]at hE
   refine af hT (C:= []) (ι:=Nat) (fun i=>i≤EV.length∧∀j,j<i→dV s (EV.getD j cj)=0)
    (fun i=>aJ [(0,.ptr 1000001 0),(7,.d (.str (t.texts.getD 0 []))),(10,.ptr 10 0),(12,.d (ic EV)),(172,.d (ic EV)),(173,.d (.int .i64 EV.length)),(174,.d (.int .i64 i))] ((10,.cells 112 ((dS N).map .d))::jk h vm sm s))
    (fun i=>EV.length - i) 0 ⟨by omega,fun j hj=>by omega⟩ ?_ ?_
   · rw[hM hm];subst a2;refine ac [(10,10),(1000001,1000001),(1000002,1000002),(1000003,1000003),(1000004,1000004),(1000005,1000005),(1000006,1000006),(1000007,1000007),(1000008,1000008),(1000010,1000010),(1000011,1000011)] rfl rfl ⟨lr,lr,lr,?_,?_,?_,lr,trivial⟩ ⟨rr,rr,rr,rr,rr,rr,rr,rr,rr,rr,rr,trivial⟩;all_goals first|exact aI|exact ai (by rfl) (by rfl)|exact lr
   rintro i ⟨p1,p2⟩;have e1:=ek i;conv=>whnf
   repeat' ((first|(refine bP (Lk h vm sm s (EV.getD (i:Int).toNat cj)) LU ?_)|(refine And.intro (by unfold bC;omega) ?_)|refine aa ?_ ?_<;>intro hb<;>try simp only[am]at hb|refine bg hT rG ?_|omega|refine ao ?_|decide|assumption)<;>conv=>whnf)
   all_goals first
    |(exact⟨i+1,⟨by omega,aL p2 (by first|assumption|simpa using hb)⟩,by omega,ac [(10,10),(1000001,1000001),(1000002,1000002),(1000003,1000003),(1000004,1000004),(1000005,1000005),(1000006,1000006),(1000007,1000007),(1000008,1000008),(1000010,1000010),(1000011,1000011)] rfl rfl ⟨lr,lr,lr,lr,lr,lr,lr,trivial⟩ ⟨rr,rr,rr,rr,rr,rr,rr,rr,rr,rr,rr,trivial⟩⟩)
    | (have hE1:RE=dV s (EV.getD i cj):=hE.trans (aP (f:=fun i=>dV s (EV.getD i cj)) (by omega) p2 hb rfl)
       rw[if_neg (by rw[hE1];exact hb)]at hS;rw[hE1,hS];refine .ent _ _ (ac (ts:= [(6,.d (.int .i64 (dV s (EV.getD i cj))))]) (rs:=dT h vm sm s) EX rfl rfl ⟨lr,trivial⟩ ⟨rr,rr,rr,rr,rr,rr,rr,rr,rr,rr,trivial⟩) ?_;refine .ret _ ?_;conv=>whnf
       exact⟨_,⟨rfl,rfl⟩,rr,rr,rr,rr,rr,rr,rr,rr,rr,rr,trivial⟩)
    |skip
   rw[show j5 s EV=0 from ay fun j hj=>p2 j (by omega)]at hE;rw[if_pos hE]at hS;rw[hE,hS]
   refine af hT (C:= []) (ι:=Nat) (fun i=>i≤EV.length)
    (fun i=>aJ [(0,.ptr 1000001 0),(7,.d (.str (t.texts.getD 0 []))),(10,.ptr 10 0),(185,.d (ic EV)),(186,.d (.int .i64 EV.length)),(187,.d (.int .i64 i))] ((10,.cells 112 ((dS N).map .d)):: [(1000001,I7 h),(1000002,dM false [.str []] vR vm),(1000003,dM false [.bool false] Ht sm),(1000004,dM true (jC ep) jC (e7 s (EV.take i)).sts),(60,nC (e7 s (EV.take i)).log),(1000006,GK (e7 s (EV.take i)).ats),(1000007,dM true (ez fG) ez (e7 s (EV.take i)).bks),(1000008,dM true (cQ none) cQ (e7 s (EV.take i)).his),(1000010,dM false [.int .i64 0] xU (e7 s (EV.take i)).paid),(1000011,Ic (e7 s (EV.take i)).ref)]))
    (fun i=>EV.length - i) 0 (by omega) ?_ ?_
   · exact ac [(10,10),(1000001,1000001),(1000002,1000002),(1000003,1000003),(1000004,1000004),(60,1000005),(1000006,1000006),(1000007,1000007),(1000008,1000008),(1000010,1000010),(1000011,1000011)] rfl rfl ⟨lr,lr,lr,lr,lr,lr,trivial⟩ ⟨rr,rr,rr,rr,rr,rr,rr,rr,rr,rr,rr,trivial⟩
   clear p1 p2 e1;rintro i p1;have e1:=ek i;conv=>whnf
   repeat' ((first|(refine bP (IF h vm sm (e7 s (EV.take i)) (EV.getD (i:Int).toNat cj) (by rw[Ej,List.length_append,List.length_take];omega)) [(1000001,1000001),(1000002,1000002),(1000003,1000003),(1000004,1000004),(1000005,60),(1000006,1000006),(1000007,1000007),(1000008,1000008),(1000010,1000010),(1000011,1000011),(50,61)] ?_)|(refine And.intro (by unfold bC;omega) ?_)|refine aa ?_ ?_<;>intro hb<;>try simp only[am]at hb|refine bg hT rG ?_|omega|refine ao ?_|decide|assumption)<;>conv=>whnf)
   all_goals first
    | (refine⟨i+1,by omega,by omega,?_⟩
       have hT:=Bm s EV i (by omega)
       dsimp only
       rw[hT]
       exact ac [(10,10),(1000001,1000001),(1000002,1000002),(1000003,1000003),(1000004,1000004),(60,61),(1000006,1000006),(1000007,1000007),(1000008,1000008),(1000010,1000010),(1000011,1000011)] rfl rfl ⟨lr,lr,lr,lr,lr,lr,trivial⟩ ⟨rr,rr,rr,rr,rr,rr,rr,rr,rr,rr,rr,trivial⟩)
    | (rw[show EV.take i=EV from List.take_of_length_le (by omega)]
       refine .ent _ _ (ac (ts:= [(6,.d (.int .i64 0))]) (rs:=dT h vm sm ({e7 s EV with his:=(e7 s EV).his.put (t.texts.getD 0 []) (some N)})) Mn rfl rfl ⟨lr,trivial⟩ ⟨rr,rr,rr,rr,rr,rr,rr,eQ (v:=some N),rr,rr,trivial⟩) ?_;refine .ret _ ?_;conv=>whnf
       exact⟨_,⟨rfl,rfl⟩,rr,rr,rr,rr,rr,rr,rr,rr,rr,rr,trivial⟩)
def rW:TL:= [(1,[(0,[]),(1,[]),(7,[0,1]),(2,[0,1,7]),(3,[7]),(4,[7]),(5,[7]),(6,[7,5]),(8,[6]),(9,[])]),(4,[(1,[]),(2,[]),(0,[1,2]),(3,[]),(4,[]),(5,[]),(6,[5]),(7,[6]),(8,[])]),(6,[(0,[]),(1,[]),(2,[0,1]),(3,[0,1]),(4,[0,1]),(5,[0,1]),(6,rg 6),(7,rg 6),(8,rg 6),(9,rg 6),(10,rg 10),(11,[]),(12,rg 12),(13,[])]),(12,[(0,[]),(1,[0]),(2,[0]),(3,[0]),(4,[0]),(5,rg 5),(6,rg 5),(7,rg 5),(8,rg 5),(9,rg 9),(10,rg 9),(11,rg 9),(12,rg 9),(13,rg 13),(14,rg 13),(15,rg 13),(16,rg 13),(17,rg 9),(18,rg 18),(19,rg 18),(20,rg 20),(21,rg 20),(22,rg 20),(23,rg 20),(24,[0]),(25,[]),(26,[])]),(14,[(0,[]),(1,[]),(2,[]),(3,[]),(4,rg 4),(5,rg 4),(6,rg 4),(7,rg 4),(8,[]),(9,[]),(10,[]),(11,[10]),(12,rg 12),(13,[11]),(14,[])]),(17,[(0,[]),(1,[]),(2,[]),(3,[]),(4,rg 4),(5,rg 4),(6,rg 4),(7,rg 4),(8,[])]),(22,[(0,[]),(1,[0]),(2,[0]),(3,[0]),(4,[0]),(5,rg 5),(6,rg 5),(7,rg 5),(8,rg 5),(9,[]),(10,[])])]
structure pm (s:da):Prop where
 log:s.log.length≤2^18
 paid:∀k,-2^40≤s.paid.val k∧s.paid.val k≤2^40
 fb:Gq s.bks.has
 fh:Gq s.his.has
 non:∀k,s.his.has k=false→s.his.val k=none
 his:∀k,s.his.has k=true→∃g,s.his.val k=some g∧sd g∧1≤g.legs.length∧g.legs.length<2^19
theorem DE (h:df)(vm:Mp (List UInt8))(sm:Mp Bool)(s:da)(x:aZ)(hx:x.words.length≤2^20)(hf:∀k,(formsM.val k).length≤2^20)(ht:cJ formsM x.words=false):
 ae Tryz.prog 121 [.ptr 1000001 0,.agg ((en x).map .d)] ((1000009,KX)::jk h vm sm s) (fun y r=>y= .d (.int .i64 9)∧r=(1000009,KX)::dT h vm sm s):=by
 have c1:=rY formsM hf x.words hx;rw[ht]at c1;refine aj hT Tryz.func121 Tryz.call121 ?_;conv=>whnf
 repeat' ((first|(refine bP lc [(1,20)] ?_)|(refine bP c1 [(1000001,20),(1000009,1000009)] ?_)|refine aa ?_ ?_<;>intro hb<;>try simp only[am]at hb|refine bg hT rW ?_|omega|refine ao ?_|decide|assumption)<;>conv=>whnf)
 refine .ent _ _ (ac (ts:= [(4,.d (.int .i64 9))]) (rs:=(1000009,KX)::dT h vm sm s) Nj rfl rfl ⟨lr,trivial⟩ ⟨rr,rr,rr,rr,rr,rr,rr,rr,rr,rr,rr,trivial⟩) ?_;refine .ret _ ?_;conv=>whnf
 exact⟨_,⟨rfl,rfl⟩,rr,rr,rr,rr,rr,rr,rr,rr,rr,rr,rr,trivial⟩
structure yX (t:ik):Prop where
 tx:∀j,(t.texts.getD j []).length≤2^20
 nm:∀j,-10^9≤t.nums.getD j 0∧t.nums.getD j 0≤10^9
 ev:aM.has t.word=true→2≤t.texts.length
 lv:aM.has t.word=true→aM.val t.word=6→3≤t.texts.length
 bk:t.word= [98,111,111,107]→2≤t.texts.length∧3≤t.nums.length
 cn:t.word= [99,97,110,99,101,108]→1≤t.texts.length
 st:t.word= [115,116,97,114,116]→4≤t.texts.length∧3≤t.nums.length
 py:t.word= [112,97,121]→1≤t.texts.length∧1≤t.nums.length
 ch:aM.has t.word=false→t.word≠ [98,111,111,107]→t.word≠ [99,97,110,99,101,108]→t.word≠ [115,116,97,114,116]→t.word≠ [112,97,121]→1≤t.texts.length∧(t.word= [101,120,116,101,110,100]→1≤t.nums.length)∧(t.word= [99,108,111,115,101]→2≤t.texts.length∧2≤t.nums.length)∧(t.word≠ [101,120,116,101,110,100]→t.word≠ [99,108,111,115,101]→3≤t.texts.length∧4≤t.nums.length)
def eZ (tm:Int)(t:ik):aS:=⟨tm,t.texts.getD 0 [],t.texts.getD 1 [],aM.val t.word,if aM.val t.word=6 then t.texts.getD 2 []else []⟩
theorem Ds (h:df)(vm:Mp (List UInt8))(sm:Mp Bool)(s:da)(hs:pm s)(x:aZ)(hx:x.words.length≤2^20)(hf:∀k,(formsM.val k).length≤2^20)(ht:cJ formsM x.words=true)(t:ik)(hte:cP formsM x.words=t)(hk:yX t)(hk1:aM.has t.word=true):
 ae Tryz.prog 121 [.ptr 1000001 0,.agg ((en x).map .d)] ((1000009,KX)::jk h vm sm s) (fun y r=>y= .d (.int .i64 (kU vm sm s (eZ x.tm t)))∧r=(1000009,KX)::dT h vm sm (kg vm sm s (eZ x.tm t))):=by
 have c1:=rY formsM hf x.words hx;rw[ht,if_pos rfl,hte]at c1;have h2:=hk.ev hk1;have h3:=hk.lv hk1;have c2:=NZ h vm sm s (eZ x.tm t) (by have:=hs.log;omega);have hEv:eZ x.tm t=⟨x.tm,t.texts.getD 0 [],t.texts.getD 1 [],aM.val t.word,if aM.val t.word=6 then t.texts.getD 2 []else []⟩:=rfl;generalize eZ x.tm t=V at c2 hEv ⊢
 by_cases k6:aM.val t.word=6
 · rw[if_pos k6]at hEv;have h4:=h3 k6;subst hEv;refine aj hT Tryz.func121 Tryz.call121 ?_;conv=>whnf
   repeat' ((first|(refine bP lc [(1,20)] ?_)|(refine bP mV [(1,30)] ?_)|(refine bP c1 [(1000001,20),(1000009,1000009)] ?_)|(refine bP (c2) Hj ?_)|refine And.intro (rfl:bt _=some [DV.int .i64 0]) ?_|refine aa ?_ ?_<;>intro hb<;>try simp only[am]at hb|refine bg hT rW ?_|omega|refine ao ?_|decide|assumption)<;>conv=>whnf)
   all_goals first
    | (exfalso;have q:aM.has t.word=false:=by assumption
       rw[hk1]at q;cases q)
    | (exfalso;have q:¬aM.val t.word=6:=by assumption
       exact q k6)
    | (exfalso;have q:aM.val t.word=6:=by assumption
       exact k6 q)
    | (refine .ent _ _ (ac (ts:= [(4,.d (.int .i64 (kU vm sm s ⟨x.tm,t.texts.getD 0 [],t.texts.getD 1 [],aM.val t.word,t.texts.getD 2 []⟩)))]) (rs:=(1000009,KX)::dT h vm sm (kg vm sm s ⟨x.tm,t.texts.getD 0 [],t.texts.getD 1 [],aM.val t.word,t.texts.getD 2 []⟩)) JD rfl rfl ⟨lr,trivial⟩ ⟨rr,rr,rr,rr,rr,rr,rr,rr,rr,rr,rr,trivial⟩) ?_
       refine .ret _ ?_;conv=>whnf
       exact⟨_,⟨rfl,rfl⟩,rr,rr,rr,rr,rr,rr,rr,rr,rr,rr,rr,trivial⟩)
 · rw[if_neg k6]at hEv;subst hEv;refine aj hT Tryz.func121 Tryz.call121 ?_;conv=>whnf
   repeat' ((first|(refine bP lc [(1,20)] ?_)|(refine bP mV [(1,30)] ?_)|(refine bP c1 [(1000001,20),(1000009,1000009)] ?_)|(refine bP (c2) Hj ?_)|refine And.intro (rfl:bt _=some [DV.int .i64 0]) ?_|refine aa ?_ ?_<;>intro hb<;>try simp only[am]at hb|refine bg hT rW ?_|omega|refine ao ?_|decide|assumption)<;>conv=>whnf)
   all_goals first
    | (exfalso;have q:aM.has t.word=false:=by assumption
       rw[hk1]at q;cases q)
    | (exfalso;have q:¬aM.val t.word=6:=by assumption
       exact q k6)
    | (exfalso;have q:aM.val t.word=6:=by assumption
       exact k6 q)
    | (refine .ent _ _ (ac (ts:= [(4,.d (.int .i64 (kU vm sm s ⟨x.tm,t.texts.getD 0 [],t.texts.getD 1 [],aM.val t.word,[]⟩)))]) (rs:=(1000009,KX)::dT h vm sm (kg vm sm s ⟨x.tm,t.texts.getD 0 [],t.texts.getD 1 [],aM.val t.word,[]⟩)) JD rfl rfl ⟨lr,trivial⟩ ⟨rr,rr,rr,rr,rr,rr,rr,rr,rr,rr,rr,trivial⟩) ?_
       refine .ret _ ?_;conv=>whnf
       exact⟨_,⟨rfl,rfl⟩,rr,rr,rr,rr,rr,rr,rr,rr,rr,rr,rr,trivial⟩)
def nF:TL:= [(1,[(0,[]),(1,[]),(7,[0,1]),(2,[0,1,7]),(3,[7]),(4,[7]),(5,[7]),(6,[7,5]),(8,[6]),(9,[])]),(4,[(1,[]),(2,[]),(0,[1,2]),(3,[]),(4,[]),(5,[]),(6,[5]),(7,[6]),(8,[])]),(6,[(0,[]),(1,[]),(2,[0,1]),(3,[0,1]),(4,[0,1]),(5,[0,1]),(6,rg 6),(7,rg 6),(8,rg 6),(9,rg 6),(10,rg 10),(11,[]),(12,rg 12),(13,[])]),(12,[(0,[]),(1,[0]),(2,[0]),(3,[0]),(4,[0]),(5,rg 5),(6,rg 5),(7,rg 5),(8,rg 5),(9,rg 9),(10,rg 9),(11,rg 9),(12,rg 9),(13,rg 13),(14,rg 13),(15,rg 13),(16,rg 13),(17,rg 9),(18,rg 18),(19,rg 18),(20,rg 20),(21,rg 20),(22,rg 20),(23,rg 20),(24,[0]),(25,[]),(26,[])]),(14,[(0,[]),(1,[]),(2,[]),(3,[]),(4,rg 4),(5,rg 4),(6,rg 4),(7,rg 4),(8,[]),(9,[]),(10,[]),(11,[10]),(12,rg 12),(13,[11]),(14,[])]),(17,[(0,[]),(1,[]),(2,[]),(3,[]),(4,rg 4),(5,rg 4),(6,rg 4),(7,rg 4),(8,[])]),(22,[(0,[]),(1,[0]),(2,[0]),(3,[0]),(4,[0]),(5,rg 5),(6,rg 5),(7,rg 5),(8,rg 5),(9,[]),(10,[])])]
theorem D8 (h:df)(hco:kD h.flt.cls)(vm:Mp (List UInt8))(sm:Mp Bool)(s:da)(hs:pm s)(x:aZ)(hx:x.words.length≤2^20)(hf:∀k,(formsM.val k).length≤2^20)(ht:cJ formsM x.words=true)(t:ik)(hte:cP formsM x.words=t)(hk:yX t)(hk1:aM.has t.word=false)(hw:t.word= [98,111,111,107]):
 ae Tryz.prog 121 [.ptr 1000001 0,.agg ((en x).map .d)] ((1000009,KX)::jk h vm sm s) (fun y r=>y= .d (.int .i64 (gQ h s ⟨t.texts.getD 0 [],t.texts.getD 1 [],t.nums.getD 0 0,t.nums.getD 1 0,x.tm,t.nums.getD 2 0⟩))∧r=(1000009,KX)::dT h vm sm (gF h s ⟨t.texts.getD 0 [],t.texts.getD 1 [],t.nums.getD 0 0,t.nums.getD 1 0,x.tm,t.nums.getD 2 0⟩)):=by
 have c1:=rY formsM hf x.words hx;rw[ht,if_pos rfl,hte]at c1;obtain⟨l1,l2⟩:=hk.bk hw;have l3:=hk.tx;have c2:=KL h hco vm sm s ⟨t.texts.getD 0 [],t.texts.getD 1 [],t.nums.getD 0 0,t.nums.getD 1 0,x.tm,t.nums.getD 2 0⟩ (by have:=l3 0;show(t.texts.getD 0 []).length≤_;omega) (by have:=l3 1;show(t.texts.getD 1 []).length≤_;omega) hs.fb;refine aj hT Tryz.func121 Tryz.call121 ?_;conv=>whnf
 repeat' ((first|(refine bP lc [(1,20)] ?_)|(refine bP mV [(1,30)] ?_)|(refine bP c1 [(1000001,20),(1000009,1000009)] ?_)|refine And.intro (rfl:bt _=some [DV.int .i64 0]) ?_|(refine bP (c2) Hj ?_)|refine aa ?_ ?_<;>intro hb<;>try simp only[am]at hb|refine bg hT nF ?_|omega|refine ao ?_|decide|assumption)<;>conv=>whnf)
 all_goals try(exfalso;contradiction)
 all_goals try (exfalso;have q:aM.has t.word=true:=by assumption
                rw[hk1]at q;cases q)
 all_goals
  refine .ent _ _ (ac (ts:= [(4,.d (.int .i64 (gQ h s ⟨t.texts.getD 0 [],t.texts.getD 1 [],t.nums.getD 0 0,t.nums.getD 1 0,x.tm,t.nums.getD 2 0⟩)))]) (rs:=(1000009,KX)::dT h vm sm (gF h s ⟨t.texts.getD 0 [],t.texts.getD 1 [],t.nums.getD 0 0,t.nums.getD 1 0,x.tm,t.nums.getD 2 0⟩)) JD rfl rfl ⟨lr,trivial⟩ ⟨rr,rr,rr,rr,rr,rr,rr,rr,rr,rr,rr,trivial⟩) ?_;refine .ret _ ?_;conv=>whnf
  exact⟨_,⟨rfl,rfl⟩,rr,rr,rr,rr,rr,rr,rr,rr,rr,rr,rr,trivial⟩
theorem B9 (h:df)(hco:kD h.flt.cls)(vm:Mp (List UInt8))(sm:Mp Bool)(s:da)(hs:pm s)(x:aZ)(hx:x.words.length≤2^20)(hf:∀k,(formsM.val k).length≤2^20)(ht:cJ formsM x.words=true)(t:ik)(hte:cP formsM x.words=t)(hk:yX t)(hk1:aM.has t.word=false)(hw:t.word= [115,116,97,114,116])(hw1:¬t.word= [98,111,111,107])(hw2:¬t.word= [99,97,110,99,101,108]):
 ae Tryz.prog 121 [.ptr 1000001 0,.agg ((en x).map .d)] ((1000009,KX)::jk h vm sm s) (fun y r=>y= .d (.int .i64 (vC vm sm s x.tm t))∧r=(1000009,KX)::dT h vm sm (r7 vm sm s x.tm t)):=by
 have c1:=rY formsM hf x.words hx;rw[ht,if_pos rfl,hte]at c1;obtain⟨l1,l2⟩:=hk.st hw;have l3:=hk.tx;have c2:=OP h vm sm s (by have:=hs.log;omega) x.tm t l1 l2 (fun j=>by have:=l3 j;omega) hs.fh;refine aj hT Tryz.func121 Tryz.call121 ?_;conv=>whnf
 repeat' ((first|(refine bP lc [(1,20)] ?_)|(refine bP mV [(1,30)] ?_)|(refine bP c1 [(1000001,20),(1000009,1000009)] ?_)|refine And.intro (rfl:bt _=some [DV.int .i64 0]) ?_|(refine bP (c2) Hj ?_)|refine aa ?_ ?_<;>intro hb<;>try simp only[am]at hb|refine bg hT nF ?_|omega|refine ao ?_|decide|assumption)<;>conv=>whnf)
 all_goals try(exfalso;contradiction)
 all_goals try (exfalso;have q:aM.has t.word=true:=by assumption
                rw[hk1]at q;cases q)
 all_goals
  refine .ent _ _ (ac (ts:= [(4,.d (.int .i64 (vC vm sm s x.tm t)))]) (rs:=(1000009,KX)::dT h vm sm (r7 vm sm s x.tm t)) JD rfl rfl ⟨lr,trivial⟩ ⟨rr,rr,rr,rr,rr,rr,rr,rr,rr,rr,rr,trivial⟩) ?_;refine .ret _ ?_;conv=>whnf
  exact⟨_,⟨rfl,rfl⟩,rr,rr,rr,rr,rr,rr,rr,rr,rr,rr,rr,trivial⟩
theorem D3 (h:df)(hco:kD h.flt.cls)(vm:Mp (List UInt8))(sm:Mp Bool)(s:da)(hs:pm s)(x:aZ)(hx:x.words.length≤2^20)(hf:∀k,(formsM.val k).length≤2^20)(ht:cJ formsM x.words=true)(t:ik)(hte:cP formsM x.words=t)(hk:yX t)(hk1:aM.has t.word=false)(hw:t.word= [112,97,121])(hw1:¬t.word= [98,111,111,107])(hw2:¬t.word= [99,97,110,99,101,108])(hw3:¬t.word= [115,116,97,114,116]):
 ae Tryz.prog 121 [.ptr 1000001 0,.agg ((en x).map .d)] ((1000009,KX)::jk h vm sm s) (fun y r=>y= .d (.int .i64 (mj s (t.texts.getD 0 []) (t.nums.getD 0 0)))∧r=(1000009,KX)::dT h vm sm (ml s (t.texts.getD 0 []) (t.nums.getD 0 0))):=by
 have c1:=rY formsM hf x.words hx;rw[ht,if_pos rfl,hte]at c1;obtain⟨l1,l2⟩:=hk.py hw;have l3:=hk.nm 0;have c2:=LY h vm sm s (t.texts.getD 0 []) (t.nums.getD 0 0) (by omega) (hs.paid _);refine aj hT Tryz.func121 Tryz.call121 ?_;conv=>whnf
 repeat' ((first|(refine bP lc [(1,20)] ?_)|(refine bP mV [(1,30)] ?_)|(refine bP c1 [(1000001,20),(1000009,1000009)] ?_)|refine And.intro (rfl:bt _=some [DV.int .i64 0]) ?_|(refine bP (c2) Hj ?_)|refine aa ?_ ?_<;>intro hb<;>try simp only[am]at hb|refine bg hT nF ?_|omega|refine ao ?_|decide|assumption)<;>conv=>whnf)
 all_goals try(exfalso;contradiction)
 all_goals try (exfalso;have q:aM.has t.word=true:=by assumption
                rw[hk1]at q;cases q)
 all_goals
  refine .ent _ _ (ac (ts:= [(4,.d (.int .i64 (mj s (t.texts.getD 0 []) (t.nums.getD 0 0))))]) (rs:=(1000009,KX)::dT h vm sm (ml s (t.texts.getD 0 []) (t.nums.getD 0 0))) JD rfl rfl ⟨lr,trivial⟩ ⟨rr,rr,rr,rr,rr,rr,rr,rr,rr,rr,rr,trivial⟩) ?_;refine .ret _ ?_;conv=>whnf
  exact⟨_,⟨rfl,rfl⟩,rr,rr,rr,rr,rr,rr,rr,rr,rr,rr,rr,trivial⟩
theorem Db (h:df)(hco:kD h.flt.cls)(vm:Mp (List UInt8))(sm:Mp Bool)(s:da)(hs:pm s)(x:aZ)(hx:x.words.length≤2^20)(hf:∀k,(formsM.val k).length≤2^20)(ht:cJ formsM x.words=true)(t:ik)(hte:cP formsM x.words=t)(hk:yX t)(hk1:aM.has t.word=false)(hw:t.word= [99,97,110,99,101,108])(hw1:¬t.word= [98,111,111,107]):
 ae Tryz.prog 121 [.ptr 1000001 0,.agg ((en x).map .d)] ((1000009,KX)::jk h vm sm s) (fun y r=>y= .d (.int .i64 (if s.bks.has (t.texts.getD 0 [])then 0 else 8))∧r=(1000009,KX)::dT h vm sm (if s.bks.has (t.texts.getD 0 [])then{s with bks:=s.bks.del (t.texts.getD 0 []) fG}else s)):=by
 have c1:=rY formsM hf x.words hx;rw[ht,if_pos rfl,hte]at c1;have l1:=hk.cn hw;refine aj hT Tryz.func121 Tryz.call121 ?_;conv=>whnf
 repeat' ((first|(refine bP lc [(1,20)] ?_)|(refine bP mV [(1,30)] ?_)|(refine bP c1 [(1000001,20),(1000009,1000009)] ?_)|refine And.intro (rfl:bt _=some [DV.int .i64 0]) ?_|refine And.intro (rfl:bt _=some (ez fG)) ?_|refine aa ?_ ?_<;>intro hb<;>try simp only[am]at hb|refine bg hT nF ?_|omega|refine ao ?_|decide|assumption)<;>conv=>whnf)
 all_goals try(exfalso;contradiction)
 all_goals try (exfalso;have q:aM.has t.word=true:=by assumption
                rw[hk1]at q;cases q)
 all_goals first
  | (have q:s.bks.has (t.texts.getD 0 [])=false:=by first|exact hb|assumption
     have e1:(if s.bks.has (t.texts.getD 0 [])then(0:Int)else 8)=8:=by rw[q];rfl
     have e2:(if s.bks.has (t.texts.getD 0 [])then{s with bks:=s.bks.del (t.texts.getD 0 []) fG}else s:da)=s:=by rw[q];rfl
     rw[e1,e2];refine .ent _ _ (ac (ts:= [(4,.d (.int .i64 (8)))]) (rs:=(1000009,KX)::dT h vm sm (s)) Nj rfl rfl ⟨lr,trivial⟩ ⟨rr,rr,rr,rr,rr,rr,rr,rr,rr,rr,rr,trivial⟩) ?_;refine .ret _ ?_;conv=>whnf
     exact⟨_,⟨rfl,rfl⟩,rr,rr,rr,rr,rr,rr,rr,rr,rr,rr,rr,trivial⟩)
  | (have q:s.bks.has (t.texts.getD 0 [])=true:=by first|exact hb|assumption
     have e1:(if s.bks.has (t.texts.getD 0 [])then(0:Int)else 8)=0:=by rw[q];rfl
     have e2:(if s.bks.has (t.texts.getD 0 [])then{s with bks:=s.bks.del (t.texts.getD 0 []) fG}else s:da)={s with bks:=s.bks.del (t.texts.getD 0 []) fG}:=by rw[q];rfl
     rw[e1,e2];refine .ent _ _ (ac (ts:= [(4,.d (.int .i64 (0)))]) (rs:=(1000009,KX)::dT h vm sm ({s with bks:=s.bks.del (t.texts.getD 0 []) fG})) Nj rfl rfl ⟨lr,trivial⟩ ⟨rr,rr,rr,rr,rr,rr,rr,qu,rr,rr,rr,trivial⟩) ?_;refine .ret _ ?_;conv=>whnf
     exact⟨_,⟨rfl,rfl⟩,rr,rr,rr,rr,rr,rr,rr,rr,rr,rr,rr,trivial⟩)
def EH:TL:= [(1,[(0,[]),(1,[]),(7,[0,1]),(2,[0,1,7]),(3,[7]),(4,[7]),(5,[7]),(6,[7,5]),(8,[6]),(9,[])]),(4,[(1,[]),(2,[]),(0,[1,2]),(3,[]),(4,[]),(5,[]),(6,[5]),(7,[6]),(8,[])]),(6,[(0,[]),(1,[]),(2,[0,1]),(3,[0,1]),(4,[0,1]),(5,[0,1]),(6,rg 6),(7,rg 6),(8,rg 6),(9,rg 6),(10,rg 10),(11,[]),(12,rg 12),(13,[])]),(12,[(0,[]),(1,[0]),(2,[0]),(3,[0]),(4,[0]),(5,rg 5),(6,rg 5),(7,rg 5),(8,rg 5),(9,rg 9),(10,rg 9),(11,rg 9),(12,rg 9),(13,rg 13),(14,rg 13),(15,rg 13),(16,rg 13),(17,rg 9),(18,rg 18),(19,rg 18),(20,rg 20),(21,rg 20),(22,rg 20),(23,rg 20),(24,[0]),(25,[]),(26,[])]),(14,[(0,[]),(1,[]),(2,[]),(3,[]),(4,rg 4),(5,rg 4),(6,rg 4),(7,rg 4),(8,[]),(9,[]),(10,[]),(11,[10]),(12,rg 12),(13,[11]),(14,[])]),(17,[(0,[]),(1,[]),(2,[]),(3,[]),(4,rg 4),(5,rg 4),(6,rg 4),(7,rg 4),(8,[])]),(22,[(0,[]),(1,[0]),(2,[0]),(3,[0]),(4,[0]),(5,rg 5),(6,rg 5),(7,rg 5),(8,rg 5),(9,[]),(10,[])])]
theorem Cb (h:df)(vm:Mp (List UInt8))(sm:Mp Bool)(s:da)(at0:Int)(t:ik)(h1:1≤t.texts.length)(hh:s.his.has (t.texts.getD 0 [])=false)(hv:s.his.val (t.texts.getD 0 [])=none):
 ae Tryz.prog 180 [.ptr 1000001 0,.d (.int .i64 at0),.agg ((yZ t).map .d)] (jk h vm sm s) (fun y r=>y= .d (.int .i64 (t8 vm sm s at0 t))∧r=dT h vm sm (sB vm sm s at0 t)):=by
 have e1:t8 vm sm s at0 t=8:=by unfold t8;rw[hh];rfl
 have e2:sB vm sm s at0 t=s:=by unfold sB;rw[if_neg (by rw[e1];decide)]
 rw[e1,e2];refine aj hT Tryz.func180 Tryz.call180 ?_;conv=>whnf
 repeat' ((first|(refine And.intro (rfl:bt _=some (cQ none)) ?_;refine cm (row':=cQ none) (congrArg cQ hv) ?_)|refine aa ?_ ?_<;>intro hb<;>try simp only[am]at hb|refine Jh hT 19 oLOfI180_19 ?_|refine Jh hT 22 oLOfI180_22 ?_|refine Jh hT 11 oLOfI180_11 ?_|refine Jh hT 12 oLOfI180_12 ?_|refine Jh hT 13 oLOfI180_13 ?_|refine Jh hT 40 oLOfI180_40 ?_|omega|refine ao ?_|decide|assumption)<;>conv=>whnf)
 all_goals first
  | (exfalso;have q:s.his.has (t.texts.getD 0 [])=true:=hb
     rw[hh]at q;cases q)
  | (refine .ent _ _ (ac (ts:= [(6,.d (.int .i64 8))]) (rs:=dT h vm sm s) EX rfl rfl ⟨lr,trivial⟩ ⟨rr,rr,rr,rr,rr,rr,rr,rr,rr,rr,trivial⟩) ?_
     refine .ret _ ?_;conv=>whnf
     exact⟨_,⟨rfl,rfl⟩,rr,rr,rr,rr,rr,rr,rr,rr,rr,rr,trivial⟩)
theorem EG (h:df)(hco:kD h.flt.cls)(vm:Mp (List UInt8))(sm:Mp Bool)(s:da)(hs:pm s)(x:aZ)(hx:x.words.length≤2^20)(hf:∀k,(formsM.val k).length≤2^20)(ht:cJ formsM x.words=true)(t:ik)(hte:cP formsM x.words=t)(hk:yX t)(hk1:aM.has t.word=false)(hw:t.word≠ [98,111,111,107])(hw1:t.word≠ [99,97,110,99,101,108])(hw2:t.word≠ [115,116,97,114,116])(hw3:t.word≠ [112,97,121]):
 ae Tryz.prog 121 [.ptr 1000001 0,.agg ((en x).map .d)] ((1000009,KX)::jk h vm sm s) (fun y r=>y= .d (.int .i64 (t8 vm sm s x.tm t))∧r=(1000009,KX)::dT h vm sm (sB vm sm s x.tm t)):=by
 have c1:=rY formsM hf x.words hx;rw[ht,if_pos rfl,hte]at c1;obtain⟨l1,l2,l3,l4⟩:=hk.ch hk1 hw hw1 hw2 hw3;have l5:=hk.tx;have hlg:=hs.log
 have c2:ae Tryz.prog 180 [.ptr 1000001 0,.d (.int .i64 x.tm),.agg ((yZ t).map .d)] (jk h vm sm s) (fun y r=>y= .d (.int .i64 (t8 vm sm s x.tm t))∧r=dT h vm sm (sB vm sm s x.tm t)):=by
  cases hh:s.his.has (t.texts.getD 0 [])with
  |false=>exact Cb h vm sm s x.tm t l1 hh (hs.non _ hh)
  | true=>
    obtain⟨g,g1,g2,g3,g4⟩:=hs.his _ hh;exact GD h vm sm s (by omega) x.tm t l1 l2 l3 l4 (fun j=>by have:=l5 j;omega) g hh g1 g2 g3 g4
 refine aj hT Tryz.func121 Tryz.call121 ?_;conv=>whnf
 repeat' ((first|(refine bP lc [(1,20)] ?_)|(refine bP mV [(1,30)] ?_)|(refine bP c1 [(1000001,20),(1000009,1000009)] ?_)|refine And.intro (rfl:bt _=some [DV.int .i64 0]) ?_|(refine bP (c2) Hj ?_)|refine aa ?_ ?_<;>intro hb<;>try simp only[am]at hb|refine bg hT EH ?_|omega|refine ao ?_|decide|assumption)<;>conv=>whnf)
 all_goals try(exfalso;contradiction)
 all_goals try (exfalso;have q:aM.has t.word=true:=by assumption
                rw[hk1]at q;cases q)
 all_goals
  refine .ent _ _ (ac (ts:= [(4,.d (.int .i64 (t8 vm sm s x.tm t)))]) (rs:=(1000009,KX)::dT h vm sm (sB vm sm s x.tm t)) JD rfl rfl ⟨lr,trivial⟩ ⟨rr,rr,rr,rr,rr,rr,rr,rr,rr,rr,rr,trivial⟩) ?_;refine .ret _ ?_;conv=>whnf
  exact⟨_,⟨rfl,rfl⟩,rr,rr,rr,rr,rr,rr,rr,rr,rr,rr,rr,trivial⟩
def cT (f:List UInt8):Nat→Nat
 |0=>0
 |i+1=>if f.getD i 0=119 then cT f i+1 else cT f i
def cN (f:List UInt8):Nat→Nat
 |0=>0
 |i+1=>if f.getD i 0=119 then cN f i else cN f i+1
theorem Hr (f:List UInt8)(w:List (List UInt8)):∀i,(pH f w i).length=cT f i
 |0=>rfl
 | i+1=>by
   have:=Hr f w i;unfold pH cT;split
   · rw[List.length_append,List.length_singleton,this]
   · exact this
theorem HE (f:List UInt8)(w:List (List UInt8)):∀i,(pK f w i).length=cN f i
 |0=>rfl
 | i+1=>by
   have:=HE f w i;unfold pK cN;split
   · exact this
   · rw[List.length_append,List.length_singleton,this]
theorem uW (f:List UInt8)(w:List (List UInt8)){B:Nat}(h:∀j,(w.getD j []).length≤B):∀i,∀x ∈ pH f w i,x.length≤B
 |0=>fun x hx=>by cases hx
 | i +1=>fun x hx=>by
   unfold pH at hx;split at hx
   · rcases List.mem_append.1 hx with q|q
     · exact uW f w h i x q
     · rw[List.mem_singleton]at q;subst q;exact h i
   · exact uW f w h i x hx
theorem uP (f:List UInt8)(w:List (List UInt8)):∀i,(∀j,j<i→(f.getD j 0=119∨fK (w.getD j [])=true))→∀n ∈ pK f w i,-10^9≤n∧n≤10^9
 |0=>fun _ x hx=>by cases hx
 | i + 1=>fun h x hx=>by
   unfold pK at hx;split at hx
   · exact uP f w i (fun j hj=>h j (by omega)) x hx
   · rename_i hc;rcases List.mem_append.1 hx with q|q
     · exact uP f w i (fun j hj=>h j (by omega)) x q
     · rw[List.mem_singleton]at q;subst q;rcases h i (by omega)with r|r
       · exact absurd r hc
       · exact z7 r
def y2:List (List UInt8):= [[101,110,116,101,114],[115,104,111,112],[100,111,110,101],[99,111,109,101],[103,111,110,101],[108,101,97,118,101],[98,111,111,107],[99,97,110,99,101,108],[115,116,97,114,116],[115,119,97,112],[101,120,116,101,110,100],[99,108,111,115,101],[112,97,121]]
theorem zo {s:List UInt8}(h:formsM.has s=true):s ∈ y2:=by
 have h':(decide (s= [112,97,121])||formsM.has s)=true:=by rw[h];simp
 simp only[formsM,Mp.put,Mp.nil,Bool.or_eq_true,decide_eq_true_eq,Bool.false_eq_true,or_false]at h;unfold y2;simp only[List.mem_cons,List.not_mem_nil,or_false];grind
theorem GI {m:Mp (List UInt8)}{x v:List UInt8}{B:Nat}(h:∀k,(m.val k).length≤B)(hv:v.length≤B):∀k,((m.put x v).val k).length≤B:=fun k=>by
 show(if k=x then v else m.val k).length≤B;split
 · exact hv
 · exact h k
theorem fz:∀s:List UInt8,(formsM.val s).length≤2^20:=by
 unfold formsM
 repeat (refine GI ?_ (by simp))
 intro k;simp[Mp.nil]
def Hd (k:List UInt8):Bool:=
 let c:=cT (formsM.val k) (formsM.val k).length
 let n:=cN (formsM.val k) (formsM.val k).length
 (!aM.has k||decide (2≤c))&&(!(aM.has k&&decide (aM.val k=6))||decide (3≤c))&&(!decide (k= [98,111,111,107])||decide (2≤c∧3≤n))&&(!decide (k= [99,97,110,99,101,108])||decide (1≤c))&&(!decide (k= [115,116,97,114,116])||decide (4≤c∧3≤n))&&(!decide (k= [112,97,121])||decide (1≤c∧1≤n))
 &&(aM.has k||decide (k= [98,111,111,107])||decide (k= [99,97,110,99,101,108])||decide (k= [115,116,97,114,116])||decide (k= [112,97,121])||(decide (1≤c)&&(!decide (k= [101,120,116,101,110,100])||decide (1≤n))&&(!decide (k= [99,108,111,115,101])||decide (2≤c∧2≤n))&&(decide (k= [101,120,116,101,110,100])||decide (k= [99,108,111,115,101])||decide (3≤c∧4≤n))))
theorem Fb:y2.all Hd=true:=by decide+kernel
theorem rL {α:Type}{l:List α}{d:α}{P:α→Prop}(h:∀x ∈ l,P x)(hd:P d)(j:Nat):P (l.getD j d):=by
 by_cases q:j<l.length
 · rw[List.getD_eq_getElem?_getD,List.getElem?_eq_getElem q];exact h _ (List.getElem_mem q)
 · rw[List.getD_eq_getElem?_getD,List.getElem?_eq_none (by omega)];exact hd
theorem Fq {w:List UInt8}(hw:w.length≤2^20)(h:cJ formsM w=true):yX (cP formsM w):=by
 unfold cJ at h;simp only[Bool.and_eq_true,decide_eq_true_eq]at h;obtain⟨h1,h2,h3,h4⟩:=h;have hmem:∀x ∈ Lib.split w [32],x.length≤w.length:=fun x hx=>lT hx
 have hF:=List.all_eq_true.1 Fb _ (zo h2);have hN:=of_decide_eq_true h4;obtain⟨k,hk⟩:∃k,k=cG (Lib.split w [32]):=⟨_,rfl⟩;obtain⟨W1,hW1⟩:∃W1,W1=(Lib.split w [32]).drop 1:=⟨_,rfl⟩;have hl:W1.length=(formsM.val k).length:=by rw[hW1,List.length_drop,hk];omega
 have hb:∀j,(W1.getD j []).length≤2^20:=rL (l:=W1) (d:= []) (P:=fun(x:List UInt8)=>x.length≤2^20) (fun x hx=>by rw[hW1]at hx;have:=hmem x (List.mem_of_mem_drop hx);omega) (by simp);unfold cP;rw[←hk]at hF hN ⊢;rw[←hW1]at hN ⊢;rw[hl];rw[hl]at hN;have t1:(pH (formsM.val k) W1 (formsM.val k).length).length=cT (formsM.val k) (formsM.val k).length:=Hr _ _ _;have t2:(pK (formsM.val k) W1 (formsM.val k).length).length=cN (formsM.val k) (formsM.val k).length:=HE _ _ _;unfold Hd at hF;simp only at hF;rw[←t1,←t2]at hF;have m1:=uW (formsM.val k) W1 hb (formsM.val k).length;have m2:=uP (formsM.val k) W1 (formsM.val k).length (fun j hj=>hN j (by omega));generalize pH (formsM.val k) W1 (formsM.val k).length=X at hF m1 ⊢;generalize pK (formsM.val k) W1 (formsM.val k).length=Y at hF m2 ⊢;refine⟨rL m1 (by simp),rL m2 (by decide),?_,?_,?_,?_,?_,?_,?_⟩;all_goals (dsimp only;clear m1 m2 t1 t2 hN hb hmem h2 h3 h4;simp only[Bool.and_eq_true,Bool.or_eq_true,Bool.not_eq_true',decide_eq_true_eq,Bool.and_eq_false_iff,decide_eq_false_iff_not]at hF;grind)
def gJ (h:df)(vm:Mp (List UInt8))(sm:Mp Bool)(s:da)(x:aZ):Int:=
 if cJ formsM x.words=false then 9
 else if aM.has (cP formsM x.words).word=true then kU vm sm s (eZ x.tm (cP formsM x.words))
 else if(cP formsM x.words).word= [98,111,111,107]then gQ h s ⟨(cP formsM x.words).texts.getD 0 [],(cP formsM x.words).texts.getD 1 [],(cP formsM x.words).nums.getD 0 0,(cP formsM x.words).nums.getD 1 0,x.tm,(cP formsM x.words).nums.getD 2 0⟩
 else if(cP formsM x.words).word= [99,97,110,99,101,108]then(if s.bks.has ((cP formsM x.words).texts.getD 0 [])then 0 else 8)
 else if(cP formsM x.words).word= [115,116,97,114,116]then vC vm sm s x.tm (cP formsM x.words)
 else if(cP formsM x.words).word= [112,97,121]then mj s ((cP formsM x.words).texts.getD 0 []) ((cP formsM x.words).nums.getD 0 0)
 else t8 vm sm s x.tm (cP formsM x.words)
def iU (h:df)(vm:Mp (List UInt8))(sm:Mp Bool)(s:da)(x:aZ):da:=
 if cJ formsM x.words=false then s
 else if aM.has (cP formsM x.words).word=true then kg vm sm s (eZ x.tm (cP formsM x.words))
 else if(cP formsM x.words).word= [98,111,111,107]then gF h s ⟨(cP formsM x.words).texts.getD 0 [],(cP formsM x.words).texts.getD 1 [],(cP formsM x.words).nums.getD 0 0,(cP formsM x.words).nums.getD 1 0,x.tm,(cP formsM x.words).nums.getD 2 0⟩
 else if(cP formsM x.words).word= [99,97,110,99,101,108]then(if s.bks.has ((cP formsM x.words).texts.getD 0 [])then{s with bks:=s.bks.del ((cP formsM x.words).texts.getD 0 []) fG}else s)
 else if(cP formsM x.words).word= [115,116,97,114,116]then r7 vm sm s x.tm (cP formsM x.words)
 else if(cP formsM x.words).word= [112,97,121]then ml s ((cP formsM x.words).texts.getD 0 []) ((cP formsM x.words).nums.getD 0 0)
 else sB vm sm s x.tm (cP formsM x.words)
theorem GM (h:df)(hco:kD h.flt.cls)(vm:Mp (List UInt8))(sm:Mp Bool)(s:da)(hs:pm s)(x:aZ)(hx:x.words.length≤2^20):
 ae Tryz.prog 121 [.ptr 1000001 0,.agg ((en x).map .d)] ((1000009,KX)::jk h vm sm s) (fun y r=>y= .d (.int .i64 (gJ h vm sm s x))∧r=(1000009,KX)::dT h vm sm (iU h vm sm s x)):=by
 unfold gJ iU
 cases ht:cJ formsM x.words with
 |false=>rw[if_pos (show false=false from rfl),if_pos (show false=false from rfl)];exact DE h vm sm s x hx fz ht
 | true=>
   have hk:=Fq hx ht;rw[if_neg (show ¬ (true=false)by simp),if_neg (show ¬ (true=false)by simp)]
   by_cases q:aM.has (cP formsM x.words).word=true
   · rw[if_pos q,if_pos q];exact Ds h vm sm s hs x hx fz ht _ rfl hk q
   have q':aM.has (cP formsM x.words).word=false:=by simpa using q
   rw[if_neg q,if_neg q]
   by_cases q1:(cP formsM x.words).word= [98,111,111,107]
   · rw[if_pos q1,if_pos q1];exact D8 h hco vm sm s hs x hx fz ht _ rfl hk q' q1
   rw[if_neg q1,if_neg q1]
   by_cases q2:(cP formsM x.words).word= [99,97,110,99,101,108]
   · rw[if_pos q2,if_pos q2];exact Db h hco vm sm s hs x hx fz ht _ rfl hk q' q2 q1
   rw[if_neg q2,if_neg q2]
   by_cases q3:(cP formsM x.words).word= [115,116,97,114,116]
   · rw[if_pos q3,if_pos q3];exact B9 h hco vm sm s hs x hx fz ht _ rfl hk q' q3 q1 q2
   rw[if_neg q3,if_neg q3]
   by_cases q4:(cP formsM x.words).word= [112,97,121]
   · rw[if_pos q4,if_pos q4];exact D3 h hco vm sm s hs x hx fz ht _ rfl hk q' q4 q1 q2 q3
   rw[if_neg q4,if_neg q4];exact EG h hco vm sm s hs x hx fz ht _ rfl hk q' q1 q2 q3 q4
theorem lu {h:df}{vm:Mp (List UInt8)}{sm:Mp Bool}{s:da}{x:aZ}(e:gJ h vm sm s x≠0):iU h vm sm s x=s:=by
 unfold gJ at e;unfold iU;split
 · rfl
 rename_i c0;rw[if_neg c0]at e;split
 · rename_i c;rw[if_pos c]at e;unfold kg;rw[if_neg e]
 rename_i c1;rw[if_neg c1]at e;split
 · rename_i c;rw[if_pos c]at e;unfold gF;rw[if_neg e]
 rename_i c2;rw[if_neg c2]at e;split
 · rename_i c;rw[if_pos c]at e;split
   · rename_i d;rw[if_pos d]at e;exact absurd rfl e
   · rfl
 rename_i c3;rw[if_neg c3]at e;split
 · rename_i c;rw[if_pos c]at e;unfold r7;rw[if_neg e]
 rename_i c4;rw[if_neg c4]at e;split
 · rename_i c;rw[if_pos c]at e;unfold ml;rw[if_neg e]
 rename_i c5;rw[if_neg c5]at e;unfold sB;rw[if_neg e]
variable (h:df) (vm:Mp (List UInt8)) (sm:Mp Bool)
def pT (s:da)(l:List aZ):da:=l.foldl (iU h vm sm) s
def pJ:da→Nat→List aZ→List sk
 |_,_,[]=> []
 |s,i,x::l=>if gJ h vm sm s x=0 then pJ (iU h vm sm s x) (i+1) l else⟨i,gJ h vm sm s x⟩::pJ s (i+1) l
theorem Cz (s:da)(r:List sk)(l:List aS):e7 {s with ref:=r} l={e7 s l with ref:=r}:=by
 unfold e7
 induction l generalizing s with
 |nil=>rfl
 | cons x l ih=>
   rw[List.foldl_cons,List.foldl_cons];exact ih (fy s x)
theorem wb (s:da)(r:List sk)(x:aZ):gJ h vm sm {s with ref:=r} x=gJ h vm sm s x:=rfl
variable (h:df) (vm:Mp (List UInt8)) (sm:Mp Bool)
theorem EO (s:da)(r:List sk)(x:aS):kg vm sm {s with ref:=r} x={kg vm sm s x with ref:=r}:=by
 unfold kg;rw[show kU vm sm {s with ref:=r} x=kU vm sm s x from rfl];split<;>rfl
theorem AU (s:da)(r:List sk)(b:oR):gF h {s with ref:=r} b={gF h s b with ref:=r}:=by
 unfold gF;rw[show gQ h {s with ref:=r} b=gQ h s b from rfl];split<;>rfl
theorem Ey (s:da)(r:List sk)(k:List UInt8)(c:Int):ml {s with ref:=r} k c={ml s k c with ref:=r}:=by
 unfold ml;rw[show mj {s with ref:=r} k c=mj s k c from rfl];split<;>rfl
theorem F3 (s:da)(r:List sk)(a:Int)(t:ik):r7 vm sm {s with ref:=r} a t={r7 vm sm s a t with ref:=r}:=by
 unfold r7;rw[show vC vm sm {s with ref:=r} a t=vC vm sm s a t from rfl];split<;>rfl
theorem Fd (s:da)(r:List sk)(a:Int)(t:ik):sB vm sm {s with ref:=r} a t={sB vm sm s a t with ref:=r}:=by
 unfold sB;rw[show t8 vm sm {s with ref:=r} a t=t8 vm sm s a t from rfl];split
 · dsimp only
   rw[Cz]
 · rfl
theorem Em (s:da)(r:List sk)(x:aZ):iU h vm sm {s with ref:=r} x={iU h vm sm s x with ref:=r}:=by
 unfold iU;split
 · rfl
 split
 · exact EO vm sm s r _
 split
 · exact AU h s r _
 split
 · split<;>rfl
 split
 · exact F3 vm sm s r _ _
 split
 · exact Ey s r _ _
 exact Fd vm sm s r _ _
theorem bf:∀ {l:List Int},ah l=0→∀x ∈ l,x=0
 | [],_,_,hx=>by cases hx
 | y ::l,h,x,hx=>by
   unfold ah at h
   by_cases q:y=0
   · rw[if_pos q]at h;rcases List.mem_cons.1 hx with e|e
     · rw[e];exact q
     · exact bf h x e
   · rw[if_neg q]at h;exact absurd h q
theorem jV {s:List UInt8}(h:aN s=true):s.length≤40:=by
 unfold aN at h;simp only[Bool.and_eq_true,decide_eq_true_eq]at h;exact h.2
theorem wQ {r:ij}(h:iy r=0):r.st.length≤40:=by
 unfold iy at h;split at h
 · exact absurd h (by decide)
 split at h
 · exact absurd h (by decide)
 rename_i _ c;exact jV (by simpa using c)
theorem I9 {h:cq}{i:Nat}(e:iQ h i=0):IW (h.legs.getD i cr):=by
 unfold iQ at e;split at e
 · exact absurd e (by decide)
 rename_i c1;split at e
 · rename_i c;exact absurd e c
 rename_i c2;have k1:=jV (s:=(h.legs.getD i cr).veh) (by simpa using c1);have k2:=wQ (r:=(h.legs.getD i cr).out) (by simpa using c2)
 have k3:(h.legs.getD i cr).inn.st.length≤40:=by
  by_cases q:(h.legs.getD i cr).inn.tm= -1
  · by_cases r:(h.legs.getD i cr).inn.st= []
    · rw[r];simp
    · exfalso;rw[if_pos q,if_pos (fun c=>r c.1)]at e;grind
  · rw[if_neg q]at e;refine wQ ?_;grind
 exact⟨by omega,by omega,by omega⟩
theorem e6 {g:cq}(h:aT g=0):sd g∧1≤g.legs.length∧g.legs.length≤20∧(aN g.key=true∧aN g.drv=true)∧iS g.frm g.to=0∧∀i,i<g.legs.length→iQ g i=0:=by
 unfold aT at h;split at h
 · exact absurd h (by decide)
 rename_i c1;split at h
 · rename_i c;exact absurd h c
 rename_i c2;split at h
 · exact absurd h (by decide)
 rename_i c3;split at h
 · exact absurd h (by decide)
 rename_i c4;have hA:=fL h;have k1:aN g.key=true:=by cases e:aN g.key with|true=>rfl|false=>exact absurd (.inl e) c1
 have k2:aN g.drv=true:=by cases e:aN g.drv with|true=>rfl|false=>exact absurd (.inr e) c1
 refine⟨⟨by have:=jV k1;omega,by have:=jV k2;omega,by omega,fun x hx=> ?_⟩,by omega,by omega,⟨k1,k2⟩,by simpa using c2,hA⟩;obtain⟨i,hi,rfl⟩:=bI (d:=cr) hx;exact I9 (hA i hi)
theorem Dl {g g':cq}(h:nb g g' =0):aT g=0∧fx g=true∧aT g' =0:=by
 unfold nb at h
 by_cases q:po g=0
 · rw[if_neg (fun c=>c q)]at h;exact⟨(ju q).1,(ju q).2,h⟩
 · rw[if_pos q]at h;exact absurd h q
theorem BF {l:List na}(r:ij)(j:Nat):((ct l r).getD j cr).veh=(l.getD j cr).veh:=by
 unfold ct;rw[List.getD_eq_getElem?_getD,List.getElem?_set]
 by_cases q:((l.length:Int) - 1).toNat=j
 · subst q;rw[if_pos rfl]
   by_cases h:((l.length:Int) - 1).toNat<l.length
   · rw[if_pos h];rfl
   · rw[if_neg h,List.getD_eq_getElem?_getD,List.getElem?_eq_none (by omega)]
 · rw[if_neg q,List.getD_eq_getElem?_getD]
theorem DN {g:cq}{ri ro:ij}{v:List UInt8}(h1:1≤g.legs.length)(h:aT (ng g ri v ro)=0):v≠eJ g:=by
 obtain⟨_,_,_,_,_,hA⟩:=e6 h;have hl:(ng g ri v ro).legs.length=g.legs.length+1:=by show(ct g.legs ri++ [_]).length=_;rw[List.length_append,cU,List.length_singleton]
 have e:=hA g.legs.length (by omega)
 have g1:((ng g ri v ro).legs.getD g.legs.length cr).veh=v:=by
  show((ct g.legs ri++ [_]).getD _ _).veh=_;rw[List.getD_eq_getElem?_getD,List.getElem?_append_right (by rw[cU];omega),cU,Nat.sub_self];rfl
 have g2:((ng g ri v ro).legs.getD (g.legs.length - 1) cr).veh=eJ g:=by
  show((ct g.legs ri++ [_]).getD _ _).veh=_;rw[List.getD_eq_getElem?_getD,List.getElem?_append_left (by rw[cU];omega),←List.getD_eq_getElem?_getD,BF];unfold eJ;rw[show((g.legs.length:Int) - 1).toNat=g.legs.length - 1 by omega]
 intro hv;unfold iQ at e;rw[g1,g2]at e;have c:0<g.legs.length∧v=eJ g:=⟨by omega,hv⟩;grind
structure dQ (m n:Nat)(s:da):Prop where
 log:s.log.length≤m
 ats:∀v t,s.ats v t=true↔∃x ∈ s.log,x.veh=v∧x.tm=t
 apt:s.log.Pairwise fun a b=>¬ (a.veh=b.veh∧a.tm=b.tm)
 paid:∀k,0≤s.paid.val k∧s.paid.val k≤10^9
 fb:∃L:List (List UInt8),L.length≤n∧∀k,s.bks.has k=true→k ∈ L
 fh:∃L:List (List UInt8),L.length≤n∧∀k,s.his.has k=true→k ∈ L
 non:∀k,s.his.has k=false→s.his.val k=none
 his:∀k,s.his.has k=true→∃g,s.his.val k=some g∧aT g=0
theorem dQ.ok {m n:Nat}{s:da}(h:dQ m n s)(hm:m≤2^18)(hn:n<500):pm s where
 log:=by have:=h.log;omega
 paid k:=by have:=h.paid k;omega
 fb:=by obtain⟨L,h1,h2⟩:=h.fb;exact⟨L,by omega,h2⟩
 fh:=by obtain⟨L,h1,h2⟩:=h.fh;exact⟨L,by omega,h2⟩
 non:=h.non
 his k q:=by
  obtain⟨g,h1,h2⟩:=h.his k q;obtain⟨k1,k2,k3,_⟩:=e6 h2;exact⟨g,h1,k1,k2,by omega⟩
theorem dQ.up {m n m' n':Nat}{s:da}(h:dQ m n s)(hm:m≤m')(hn:n≤n'):dQ m' n' s where
 log:=by have:=h.log;omega
 ats:=h.ats
 apt:=h.apt
 paid:=h.paid
 fb:=by obtain⟨L,h1,h2⟩:=h.fb;exact⟨L,by omega,h2⟩
 fh:=by obtain⟨L,h1,h2⟩:=h.fh;exact⟨L,by omega,h2⟩
 non:=h.non
 his:=h.his
theorem dO {s:da}{x:aS}(h:dV s x=0):s.ats x.veh x.tm=false∧dF (s.sts.val x.veh) x=true:=by
 unfold dV at h;have h1:=bf h _ (List.mem_cons_self ..);have h2:=bf h _ (List.mem_cons_of_mem _ (List.mem_cons_self ..));constructor
 · cases q:s.ats x.veh x.tm with
   |false=>rfl
   |true=>rw[q,if_pos rfl]at h1;exact absurd h1 (by decide)
 · cases q:dF (s.sts.val x.veh) x with
   |true=>rfl
   |false=>rw[q]at h2;exact absurd h2 (by decide)
theorem dQ.say {m n:Nat}{s:da}(h:dQ m n s){x:aS}(hc:s.ats x.veh x.tm=false):dQ (m+1) n (fy s x) where
 log:=by show(s.log++ [x]).length≤_;rw[List.length_append,List.length_singleton];have:=h.log;omega
 ats v t:=by
  show zV s.ats x.veh x.tm v t=true↔∃y ∈ s.log++ [x],y.veh=v∧y.tm=t;unfold zV;rw[Bool.or_eq_true,h.ats v t];simp only[Bool.and_eq_true,decide_eq_true_eq,List.mem_append,List.mem_singleton];constructor
  · rintro(⟨h1,h2⟩|⟨y,h1,h2⟩)
    · exact⟨x,.inr rfl,h1.symm,h2.symm⟩
    · exact⟨y,.inl h1,h2⟩
  · rintro⟨y,h1|h1,h2⟩
    · exact .inr ⟨y,h1,h2⟩
    · subst h1;exact .inl ⟨h2.1.symm,h2.2.symm⟩
 apt:=by
  show(s.log++ [x]).Pairwise _;rw[List.pairwise_append];refine⟨h.apt,List.pairwise_singleton _ _,fun a ha b hb=> ?_⟩;rw[List.mem_singleton]at hb;subst hb;intro q;have:=(h.ats b.veh b.tm).2 ⟨a,ha,q⟩;rw[hc]at this;cases this
 paid:=h.paid
 fb:=h.fb
 fh:=h.fh
 non:=h.non
 his:=h.his
theorem JB {m n:Nat}{s:da}(h:dQ m n s)(vm:Mp (List UInt8))(sm:Mp Bool)(x:aS):dQ (m+1) n (kg vm sm s x):=by
 unfold kg;split
 · rename_i e;unfold kU at e;exact h.say (dO (bf e _ (by simp))).1
 · exact h.up (by omega) (Nat.le_refl _)
theorem qP {α:Type}{n:Nat}{m:Mp α}{k:List UInt8}{v:α}(h:∃L:List (List UInt8),L.length≤n∧∀k,m.has k=true→k ∈ L):∃L:List (List UInt8),L.length≤n+1∧∀j,(m.put k v).has j=true→j ∈ L:=by
 obtain⟨L,h1,h2⟩:=h;refine⟨k::L,by rw[List.length_cons];omega,fun j hj=> ?_⟩;have hj:(decide (j=k)||m.has j)=true:=hj;rw[Bool.or_eq_true,decide_eq_true_eq]at hj;rcases hj with e|e
 · rw[e];exact List.mem_cons_self ..
 · exact List.mem_cons_of_mem _ (h2 j e)
theorem xC {α:Type}{n:Nat}{m:Mp α}{k:List UInt8}{z:α}(h:∃L:List (List UInt8),L.length≤n∧∀k,m.has k=true→k ∈ L):∃L:List (List UInt8),L.length≤n∧∀j,(m.del k z).has j=true→j ∈ L:=by
 obtain⟨L,h1,h2⟩:=h;refine⟨L,h1,fun j hj=> ?_⟩;have hj:(!decide (j=k)&&m.has j)=true:=hj;rw[Bool.and_eq_true]at hj;exact h2 j hj.2
theorem gU {n n':Nat}{p:List UInt8→Bool}(h:∃L:List (List UInt8),L.length≤n∧∀k,p k=true→k ∈ L)(hn:n≤n'):∃L:List (List UInt8),L.length≤n'∧∀k,p k=true→k ∈ L:=by
 obtain⟨L,h1,h2⟩:=h;exact⟨L,by omega,h2⟩
theorem Au {m:Mp (Option cq)}{k:List UInt8}{g:cq}(h1:∀k,m.has k=false→m.val k=none)(h2:∀k,m.has k=true→∃g,m.val k=some g∧aT g=0)(hg:aT g=0):
 (∀j,(m.put k (some g)).has j=false→(m.put k (some g)).val j=none)∧∀j,(m.put k (some g)).has j=true→∃g',(m.put k (some g)).val j=some g'∧aT g' =0:=by
 refine⟨fun j hj=> ?_,fun j hj=> ?_⟩
 · have hj:(decide (j=k)||m.has j)=false:=hj;rw[Bool.or_eq_false_iff,decide_eq_false_iff_not]at hj;show(if j=k then some g else m.val j)=none;rw[if_neg hj.1];exact h1 j hj.2
 · have hj:(decide (j=k)||m.has j)=true:=hj;show ∃g',(if j=k then some g else m.val j)=some g'∧_
   by_cases q:j=k
   · rw[if_pos q];exact⟨g,rfl,hg⟩
   · rw[if_neg q];refine h2 j ?_;rw[Bool.or_eq_true,decide_eq_true_eq]at hj;rcases hj with e|e
     · exact absurd e q
     · exact e
theorem FJ {m n:Nat}{s:da}(h:dQ m n s)(hh:df)(b:oR):dQ m (n+1) (gF hh s b):=by
 unfold gF;split
 · exact⟨h.log,h.ats,h.apt,h.paid,qP h.fb,gU h.fh (by omega),h.non,h.his⟩
 · exact h.up (Nat.le_refl _) (by omega)
theorem HK {m n:Nat}{s:da}(h:dQ m n s)(k:List UInt8)(c:Int):dQ m n (ml s k c):=by
 unfold ml;split
 · rename_i e;unfold mj at e;have e2:=bf e _ (List.mem_cons_of_mem _ (List.mem_cons_self ..));have e3:=bf e _ (List.mem_cons_of_mem _ (List.mem_cons_of_mem _ (List.mem_cons_self ..)))
   have k1:0≤c∧c≤1000000000:=by
    by_cases q:0≤c∧c≤1000000000
    · exact q
    · rw[decide_eq_false q]at e2;exact absurd e2 (by decide)
   have k2:¬ 1000000000<s.paid.val k+c:=fun q=>by rw[if_pos q]at e3;exact absurd e3 (by decide)
   refine⟨h.log,h.ats,h.apt,fun j=> ?_,h.fb,h.fh,h.non,h.his⟩;show 0≤(if j=k then _ else s.paid.val j)∧(if j=k then _ else s.paid.val j)≤_;have:=h.paid j;have:=h.paid k
   by_cases q:j=k
   · rw[if_pos q];omega
   · rw[if_neg q];omega
 · exact h
theorem J5 {m n:Nat}{s:da}(h:dQ m n s)(vm:Mp (List UInt8))(sm:Mp Bool)(a:Int)(t:ik):dQ (m+1) (n+1) (r7 vm sm s a t):=by
 unfold r7;split
 · rename_i e;unfold vC at e
   by_cases q:aT (fw a t)=0
   · rw[if_neg (fun c=>c q)]at e;have k1:=(dO (bf e (dV s (ia a t)) (by simp))).1;have k2:=h.say k1;obtain⟨k3,k4⟩:=Au (k:=t.texts.getD 0 []) h.non h.his q;exact⟨k2.log,k2.ats,k2.apt,h.paid,gU (xC h.fb) (by omega),qP h.fh,k3,k4⟩
   · rw[if_pos q]at e;exact absurd e q
 · exact h.up (by omega) (by omega)
theorem qG {vm:Mp (List UInt8)}{sm:Mp Bool}{s:da}{g:cq}{a:Int}{t:ik}(h:FZ vm sm s g a t=0):(aT g=0∧fx g=true∧aT (aY g a t)=0)∧lD vm sm t=true∧∀i,i<(dW g a t).length→dV s ((dW g a t).getD i cj)=0:=by
 unfold FZ at h
 by_cases q:ah [nb g (aY g a t),if(!lD vm sm t)then 8 else 0]=0
 · rw[if_neg (fun c=>c q)]at h;have e2:=bf q _ (List.mem_cons_of_mem _ (List.mem_cons_self ..));refine⟨Dl (bf q _ (List.mem_cons_self ..)),?_,fL h⟩
   cases k:lD vm sm t with
   |true=>rfl
   |false=>rw[k]at e2;exact absurd e2 (by decide)
 · rw[if_pos q]at h;exact absurd h q
theorem H0 {m n:Nat}{s:da}(h:dQ m n s){vm:Mp (List UInt8)}{sm:Mp Bool}{g:cq}{a:Int}{t:ik}(e:FZ vm sm s g a t=0):dQ (m+2) n (e7 s (dW g a t)):=by
 obtain⟨⟨h1,h2,h3⟩,h4,h5⟩:=qG e;unfold dW at h5 ⊢
 by_cases w1:t.word= [101,120,116,101,110,100]
 · rw[if_pos w1];exact h.up (by omega) (Nat.le_refl _)
 rw[if_neg w1]at h5 ⊢
 by_cases w2:t.word= [99,108,111,115,101]
 · rw[if_pos w2]at h5 ⊢;exact(h.say (dO (h5 0 (by simp))).1).up (by omega) (Nat.le_refl _)
 rw[if_neg w2]at h5 ⊢;unfold aY at h3;rw[if_neg w1,if_neg w2]at h3;have hne:=DN (by have:=(e6 h1).2.1;omega) h3;have k1:=(dO (h5 0 (by simp))).1;have k2:=(dO (h5 1 (by simp))).1;refine(h.say k1).say (x:=⟨a,t.texts.getD 2 [],t.texts.getD 1 [],2,[]⟩) ?_;show((decide (t.texts.getD 2 []=eJ g)&&decide (a=a))||s.ats (t.texts.getD 2 []) a)=false;rw[decide_eq_false hne,Bool.false_and,Bool.false_or];exact k2
theorem KN {m n:Nat}{s:da}(h:dQ m n s)(vm:Mp (List UInt8))(sm:Mp Bool)(a:Int)(t:ik):dQ (m+2) (n+1) (sB vm sm s a t):=by
 unfold sB;split
 · rename_i e;unfold t8 at e
   by_cases q:s.his.has (t.texts.getD 0 [])=true
   · rw[if_pos q]at e;have k2:=H0 h e;obtain⟨⟨h1,h2,h3⟩,_⟩:=qG e;obtain⟨k3,k4⟩:=Au (k:=t.texts.getD 0 []) k2.non k2.his h3;exact⟨k2.log,k2.ats,k2.apt,k2.paid,gU k2.fb (by omega),qP k2.fh,k3,k4⟩
   · rw[if_neg q]at e;exact absurd e (by decide)
 · exact h.up (by omega) (by omega)
theorem yE {m n:Nat}{s:da}(k:dQ m n s)(h:df)(vm:Mp (List UInt8))(sm:Mp Bool)(x:aZ):dQ (m+2) (n+1) (iU h vm sm s x):=by
 unfold iU;split
 · exact k.up (by omega) (by omega)
 split
 · exact(JB k vm sm _).up (by omega) (by omega)
 split
 · exact(FJ k h _).up (by omega) (by omega)
 split
 · split
   · exact⟨by have:=k.log;show s.log.length≤_;omega,k.ats,k.apt,k.paid,gU (xC k.fb) (by omega),gU k.fh (by omega),k.non,k.his⟩
   · exact k.up (by omega) (by omega)
 split
 · exact(J5 k vm sm _ _).up (by omega) (by omega)
 split
 · exact(HK k _ _).up (by omega) (by omega)
 exact KN k vm sm _ _
theorem yj {h:df}{vm:Mp (List UInt8)}{sm:Mp Bool}:∀ (l:List aZ) {m n:Nat} {s:da},dQ m n s→dQ (m+2*l.length) (n+l.length) (pT h vm sm s l)
 | [],m,n,s,k=>k
 |x::l,m,n,s,k=>(yj l (yE k h vm sm x)).up (by rw[List.length_cons];omega) (by rw[List.length_cons];omega)
def jl:da:=⟨Mp.nil ep,[],fun _ _=>false,Mp.nil fG,Mp.nil none,Mp.nil 0,[]⟩
theorem rD:dQ 0 0 jl where
 log:=Nat.le_refl _
 ats v t:=⟨fun h=>(by cases h),fun⟨x,h,_⟩=>(by cases h)⟩
 apt:=List.Pairwise.nil
 paid k:=by show(0:Int)≤0∧(0:Int)≤_;omega
 fb:=⟨[],Nat.le_refl _,fun k h=>by cases h⟩
 fh:=⟨[],Nat.le_refl _,fun k h=>by cases h⟩
 non k h:=rfl
 his k h:=by cases h
variable (h:df) (vm:Mp (List UInt8)) (sm:Mp Bool)
theorem tI (l:List aZ)(x:aZ)(s:da):pT h vm sm s (l++ [x])=iU h vm sm (pT h vm sm s l) x:=by
 unfold pT;rw[List.foldl_append];rfl
theorem lP (x:aZ):∀ (l:List aZ) (s:da) (j:Nat),pJ h vm sm s j (l++ [x])=pJ h vm sm s j l++(if gJ h vm sm (pT h vm sm s l) x=0 then []else [⟨((j+l.length:Nat):Int),gJ h vm sm (pT h vm sm s l) x⟩])
 | [],s,j=>by
   show(if gJ h vm sm s x=0 then _ else _)= []++(if gJ h vm sm s x=0 then _ else _)
   by_cases e:gJ h vm sm s x=0
   · rw[if_pos e,if_pos e];rfl
   · rw[if_neg e,if_neg e];rfl
 | y::l,s,j=>by
   have e1:pT h vm sm s (y::l)=pT h vm sm (iU h vm sm s y) l:=rfl;have e3:j+(y::l).length=(j+1)+l.length:=by rw[List.length_cons];omega
   rw[List.cons_append,pJ,pJ,e1,e3]
   by_cases e:gJ h vm sm s y=0
   · rw[if_pos e,if_pos e];exact lP x l _ _
   · rw[if_neg e,if_neg e,lu e,lP x l s (j+1)];rfl
def ll (l:List aZ)(i:Nat):da:={pT h vm sm jl (l.take i)with ref:=pJ h vm sm jl 0 (l.take i)}
theorem Bj {l:List aZ}{i:Nat}(hi:i<l.length)(e:gJ h vm sm (ll h vm sm l i) (l.getD i bH)=0):ll h vm sm l (i+1)=iU h vm sm (ll h vm sm l i) (l.getD i bH):=by
 have hx:l.take (i+1)=l.take i++ [l.getD i bH]:=by
  rw[List.take_succ_eq_append_getElem hi,List.getD_eq_getElem?_getD,List.getElem?_eq_getElem hi];rfl
 unfold ll at e ⊢;rw[wb]at e;rw[Em,hx,tI,lP,if_pos e,List.append_nil]
theorem Ee {l:List aZ}{i:Nat}(hi:i<l.length)(e:gJ h vm sm (ll h vm sm l i) (l.getD i bH)≠0):ll h vm sm l (i+1)={ll h vm sm l i with ref:=(ll h vm sm l i).ref++ [⟨i,gJ h vm sm (ll h vm sm l i) (l.getD i bH)⟩]}:=by
 have hx:l.take (i+1)=l.take i++ [l.getD i bH]:=by
  rw[List.take_succ_eq_append_getElem hi,List.getD_eq_getElem?_getD,List.getElem?_eq_getElem hi];rfl
 unfold ll at e ⊢;rw[wb]at e ⊢;rw[hx,tI,lP,if_neg e,lu e,List.length_take,Nat.min_eq_left (by omega),Nat.zero_add]
theorem EF {m n:Nat}{s:da}(k:dQ m n s)(r:List sk):dQ m n {s with ref:=r}:=⟨k.log,k.ats,k.apt,k.paid,k.fb,k.fh,k.non,k.his⟩
theorem uf (l:List aZ)(i:Nat)(hi:i≤l.length):dQ (2*i) i (ll h vm sm l i):=by
 have:=yj (h:=h) (vm:=vm) (sm:=sm) (l.take i) rD;rw[List.length_take,Nat.min_eq_left hi]at this;exact EF (this.up (by omega) (by omega)) _
theorem rK:∀ (l:List aZ) (s:da) (j:Nat),(pJ h vm sm s j l).length≤l.length
 | [],s,j=>Nat.le_refl _
 | x::l,s,j=>by
   rw[pJ];split
   · have:=rK l (iU h vm sm s x) (j+1);rw[List.length_cons];omega
   · have:=rK l s (j+1);rw[List.length_cons,List.length_cons];omega
theorem wI (l:List aZ)(i:Nat):(ll h vm sm l i).ref.length≤l.length:=by
 have:=rK h vm sm (l.take i) jl 0;rw[List.length_take]at this;show(pJ h vm sm jl 0 (l.take i)).length≤_;omega
def b8 (l:List pV):Mp (List UInt8):=l.foldl (fun m v=>m.put v.key v.cls) (Mp.nil [])
def bV (l:List lB):Mp Bool:=l.foldl (fun m s=>m.put s.key true) (Mp.nil false)
theorem ED {l:List pV}{i:Nat}(hi:i<l.length):b8 (l.take (i+1))=(b8 (l.take i)).put (l.getD i dg).key (l.getD i dg).cls:=by
 unfold b8;rw[List.take_succ_eq_append_getElem hi,List.foldl_append,List.getD_eq_getElem?_getD,List.getElem?_eq_getElem hi];rfl
theorem DH {l:List lB}{i:Nat}(hi:i<l.length):bV (l.take (i+1))=(bV (l.take i)).put (l.getD i fZ).key true:=by
 unfold bV;rw[List.take_succ_eq_append_getElem hi,List.foldl_append,List.getD_eq_getElem?_getD,List.getElem?_eq_getElem hi];rfl
def cV (h:df)(l:List aZ):da:=ll h (b8 h.flt.veh) (bV h.flt.sta) l l.length
def ol:TL:= [(4,[(0,[]),(1,[0]),(2,[]),(3,[]),(4,[]),(5,[4]),(6,[4,5]),(7,[4]),(8,[4]),(9,[4,5,6,7,8]),(10,[4,5,6,7,8,9]),(11,[4,5,6,7,8,9]),(12,[4,5,6,7,8]),(13,[4,5,6,7,8]),(14,[]),(15,[]),(16,[])]),(6,[(0,[]),(1,[0]),(2,[0,1]),(3,[0,1,2]),(4,[0,1,2]),(5,rg 5),(6,rg 6),(7,rg 6),(8,rg 5),(9,rg 5),(10,rg 10),(11,rg 11),(12,rg 10),(13,rg 10),(14,[2,3,4]),(15,[2,3,4]),(16,[]),(17,[])])]
theorem zH {a b:aZ}:a=b↔a.tm=b.tm∧a.desk=b.desk∧a.no=b.no∧a.words=b.words:=by cases a;cases b;simp
theorem BJ {A B:List aZ}{x y:aZ}{D b:List aZ}{j:Nat}(hb:(y::A).reverse++ [x]++B++D=b)(hj:j=A.length+1):
 b.getD j bH=x∧b.getD (j - 1) bH=y∧(b.set j y).set (j - 1) x=A.reverse++ [x]++(y::B)++D:=by
 subst hj;refine⟨?_,?_,?_⟩
 · rw[←hb,show(y::A).reverse++ [x]++B++D=(y::A).reverse++x::(B++D)by simp];exact oe _ _ _ _ (by simp)
 · rw[←hb,show(y::A).reverse++ [x]++B++D=A.reverse++y::([x]++B++D)by simp];exact oe _ _ _ _ (by simp)
 · rw[←hb];have:=rN A.reverse (B++D) x y;simp only[List.length_reverse]at this;simp only[List.reverse_cons,List.append_assoc,List.singleton_append,List.cons_append,List.nil_append,Nat.add_sub_cancel]at this ⊢;exact this
theorem Im (g:FuncId)(cmp:aZ→aZ→Int)(l:List aZ)(hl:l.length≤2^40)
 (hcmp:∀p q,p ∈ l→q ∈ l→ae Tryz.prog g [.agg ((en p).map .d),.agg ((en q).map .d)] [] (fun y r=>y= .d (.int .i64 (cmp p q))∧r= [])):
 ae Tryz.prog 110 [.buf 1000001,.d (.int .i64 0),.d (.int .i64 l.length),.fn g []] [(1000001,aD 96 4 en bH l)]
  (fun y r=>y= .tup []∧r= [(1000001,aD 96 4 en bH (bc cmp l))]):=by
 refine aj hT Tryz.func110 Tryz.call110 ?_;conv=>whnf
 repeat' ((first|refine aa ?_ ?_<;>intro hb<;>try simp only[am]at hb|refine bg hT ol ?_|omega|refine ao ?_|decide|assumption)<;>conv=>whnf)
 refine af hT (C:= []) (ι:=Nat×List aZ) (fun(i,c)=>1≤i∧(i≤l.length∨i=1)∧c=(bv cmp (l.take i)).reverse++l.drop i)
  (fun(i,c)=>aJ [(0,.buf 1000001),(1,.d (.int .i64 0)),(2,.d (.int .i64 l.length)),(3,.fn g []),(8,.d (.int .i64 i))] [(1000001,aD 96 4 en bH c)])
  (fun(i,_)=>l.length - i) (1,l) ⟨by simp,by simp,by cases l with|nil=>rfl|cons x l=>simp[bv,fB]⟩ (by exact a7 [(1000001,1000001)]) ?_
 rintro⟨i,c⟩ ⟨p1,p2,p3⟩;conv=>whnf
 repeat' ((first|refine aa ?_ ?_<;>intro hb<;>try simp only[am]at hb|refine bg hT ol ?_|omega|refine ao ?_|decide|assumption)<;>conv=>whnf)
 · have hi:i<l.length:=by omega
   have hx:l[i] ∈ l:=List.getElem_mem hi;have hmem:∀y ∈ bv cmp (l.take i),y ∈ l:=fun y hy=>List.mem_of_mem_take ((jZ cmp _).1 hy)
   have hlr:(bv cmp (l.take i)).length=i:=by rw[fp,List.length_take];omega
   have hc:c=(bv cmp (l.take i)).reverse++ [l[i]]++ []++l.drop (i+1):=by rw[p3,List.drop_eq_getElem_cons hi];simp
   refine af hT (C:= []) (ι:=List aZ×List aZ×List aZ) (fun(A,B,b)=>fB cmp l[i] (bv cmp (l.take i))=B.reverse++fB cmp l[i] A∧A.length+B.length=i∧(∀y ∈ A,y ∈ l)∧A.reverse++ [l[i]]++B++l.drop (i+1)=b)
    (fun(A,B,b)=>aJ [(0,.buf 1000001),(1,.d (.int .i64 0)),(2,.d (.int .i64 l.length)),(3,.fn g []),(8,.d (.int .i64 i)),(9,.d (.int .i64 A.length))] [(1000001,aD 96 4 en bH b)])
    (fun(A,_,_)=>A.length) (bv cmp (l.take i),[],c) ⟨by simp,by simpa using hlr,hmem,hc.symm⟩ ?_ ?_
   · exact ac [(1000001,1000001)] rfl rfl ⟨lr,lr,lr,lr,lr,au (by omega),trivial⟩ ⟨rr,trivial⟩
   rintro⟨A,B,b⟩ ⟨q1,q2,q3,hbd⟩;have hlen:b.length=l.length:=by rw[←hbd];simp;omega
   have hfin:A= []∨(∃y A',A=y::A'∧0≤cmp l[i] y)→bv cmp (l.take (i+1))=B.reverse++l[i]::A∧b=(bv cmp (l.take (i+1))).reverse++l.drop (i+1):=fun h=>by
    have e:bv cmp (l.take (i+1))=B.reverse++l[i]::A:=by
     rw[dh hi,jc,q1];rcases h with rfl|⟨y,A',rfl,h⟩
     · rfl
     · rw[fB,if_neg (by omega)]
    exact⟨e,by rw[e,←hbd];simp⟩
   conv=>whnf
   repeat' ((first|refine aa ?_ ?_<;>intro hb<;>try simp only[am]at hb|refine bg hT ol ?_|omega|refine ao ?_|decide|assumption)<;>conv=>whnf)
   · cases A with
     |nil=>simp at hb
     |cons y A=>
     obtain⟨g1,g2,g3⟩:=BJ (j:=(((y::A).length:Int)).toNat) hbd (by simp);have ej:((((y::A).length:Int)) - 1).toNat=(((y::A).length:Int)).toNat - 1:=by omega
     refine dP.of (hcmp l[i] y hx (q3 y (by simp))) [] rfl ⟨by rw[←g1];exact lr,by rw[←g2,←ej];exact lr,trivial⟩ trivial rfl rfl ?_;rintro x rout ⟨rfl,rfl⟩;refine⟨rfl,?_⟩;conv=>whnf
     repeat' ((first|refine aa ?_ ?_<;>intro hb<;>try simp only[am]at hb|refine bg hT ol ?_|omega|refine ao ?_|decide|assumption)<;>conv=>whnf)
     · refine⟨(A,y::B,_),⟨by rw[q1];simp[fB,hb],by simp only[List.length_cons]at q2 ⊢;omega,fun z hz=>q3 z (by simp[hz]),?_⟩,by show A.length<(y::A).length;simp,ac [(1000001,1000001)] rfl rfl ⟨lr,lr,lr,lr,lr,au (by simp only[List.length_cons];omega),trivial⟩ ⟨eD (x:=b.getD ((((y::A).length:Int)) - 1).toNat bH) (y:=b.getD (((y::A).length:Int)).toNat bH) (fun _=>rfl) (fun _=>rfl),trivial⟩⟩;rw[←g3,ej,g1,g2]
     · obtain⟨_,h2⟩:=hfin (.inr ⟨y,A,rfl,hb⟩);exact⟨(i+1,b),⟨by omega,by omega,h2⟩,by show l.length - (i+1)<l.length - i;omega,(by exact a7 [(1000001,1000001)])⟩
   · have hA:A= []:=List.length_eq_zero_iff.1 (by omega);obtain⟨_,h2⟩:=hfin (.inl hA);exact⟨(i+1,b),⟨by omega,by omega,h2⟩,by show l.length - (i+1)<l.length - i;omega,(by exact a7 [(1000001,1000001)])⟩
 · refine .ret _ ?_;conv=>whnf
   have e1:c=bc cmp l:=by
    rw[p3,List.take_of_length_le (by omega),List.drop_eq_nil_iff.2 (by omega),List.append_nil];rfl
   subst e1;exact⟨_,⟨rfl,rfl⟩,rr,trivial⟩
theorem Jb (g:FuncId)(cmp:aZ→aZ→Int)(l:List aZ)(hl:l.length<20)
 (hcmp:∀p q,p ∈ l→q ∈ l→ae Tryz.prog g [.agg ((en p).map .d),.agg ((en q).map .d)] [] (fun y r=>y= .d (.int .i64 (cmp p q))∧r= [])):
 ae Tryz.prog 63 [.buf 1000001,.d (.int .i64 l.length),.fn g []] [(1000001,aD 96 4 en bH l)]
  (fun y r=>y= .tup []∧r= [(1000001,aD 96 4 en bH (bc cmp l))]):=by
 refine aj hT Tryz.func63 Tryz.call63 ?_;conv=>whnf
 refine af hT (C:= []) (ι:=Unit) (fun _=>True) (fun _=>aJ [(0,.buf 1000001),(1,.d (.int .i64 l.length)),(2,.fn g []),(6,.d (.int .i64 20)),(7,.d (.int .i64 0)),(8,.d (.int .i64 20))] [(1000001,aD 96 4 en bH l)]) (fun _=>0) () trivial (by exact a7 [(1000001,1000001)]) ?_;rintro⟨⟩ -;conv=>whnf
 repeat' ((first|refine aa ?_ ?_<;>intro hb<;>try simp only[am]at hb|omega|refine ao ?_|decide|assumption)<;>conv=>whnf)
 refine bP (Im g cmp l (by omega) hcmp) [(1000001,1000001)] ?_;conv=>whnf
 refine af hT (C:= []) (ι:=Unit) (fun _=>True) (fun _=>aJ [(0,.buf 1000001),(1,.d (.int .i64 l.length)),(2,.fn g []),(6,.d (.int .i64 20))] [(1000001,aD 96 4 en bH (bc cmp l))]) (fun _=>0) () trivial (by exact a7 [(1000001,1000001)]) ?_;rintro⟨⟩ -;conv=>whnf
 repeat' ((first|refine aa ?_ ?_<;>intro hb<;>try simp only[am]at hb|omega|refine ao ?_|decide|assumption)<;>conv=>whnf)
 refine .ret _ ?_;conv=>whnf
 exact⟨_,⟨rfl,rfl⟩,rr,trivial⟩
theorem I3 (g:FuncId)(cmp:aZ→aZ→Int)(l:List aZ)(hl:l.length<20)
 (hcmp:∀p q,p ∈ l→q ∈ l→ae Tryz.prog g [.agg ((en p).map .d),.agg ((en q).map .d)] [] (fun y r=>y= .d (.int .i64 (cmp p q))∧r= [])):
 ae Tryz.prog 32 [.buf 1000001,.fn g []] [(1000001,aD 96 4 en bH l)]
  (fun y r=>y= .tup []∧r= [(1000001,aD 96 4 en bH (bc cmp l))]):=by
 refine aj hT Tryz.func32 Tryz.call32 ?_;conv=>whnf
 repeat' ((first|refine aa ?_ ?_<;>intro hb<;>try simp only[am]at hb|omega|refine ao ?_|decide|assumption)<;>conv=>whnf)
 refine bP (Jb g cmp l hl hcmp) [(1000001,1000001)] ?_;conv=>whnf
 refine .ret _ ?_;conv=>whnf
 exact⟨_,⟨rfl,rfl⟩,rr,trivial⟩
def mZ (l:List aZ):Nat→List aZ
 |0=> []
 |i+1=>mZ l i++if 0<i∧l.getD i bH=l.getD (i - 1) bH then []else [l.getD i bH]
theorem Dj (l:List aZ):∀i,(mZ l i).length≤i:=by
 intro i
 induction i with
 |zero=>simp[mZ]
 |succ i ih=>rw[mZ,List.length_append];split<;>simp<;>omega
def kq (a b:aZ):Int:=ah [fa a b,dq a.words b.words]
def bB (a b:List aZ):List aZ:=mZ (bc kq (a++b)) (bc kq (a++b)).length
def xV (l:List aZ)(i:Nat):Int:=if oH (l.take i) (l.getD i bH)=true then 13 else 0
def y7 (a b:List aZ):Int:=if ah [cx a,cx b]≠0 then ah [cx a,cx b]else if a8 (xV (bB a b)) (bB a b).length≠0 then 13 else if 1000<(bB a b).length then 2 else 0
theorem A5 (a b:List aZ):(bB a b).length≤a.length+b.length:=by
 have h1:(bB a b).length≤(bc kq (a++b)).length:=Dj (bc kq (a++b)) (bc kq (a++b)).length;have h:(bc kq (a++b)).length=(a++b).length:=by unfold bc;rw[List.length_reverse,fp]
 rw[h,List.length_append]at h1;exact h1
structure iV {α:Type}(f:α→α→Int):Prop where
 sw:∀a b,f a b= - f b a
 tr:∀a b c,f a b<0→f b c<0→f a c<0
 co:∀a b,f a b=0→∀c,f a c=f b c
theorem iV.co' {α:Type}{f:α→α→Int}(h:iV f){a b:α}(e:f a b=0)(c:α):f c a=f c b:=by
 rw[h.sw c a,h.sw c b,h.co a b e c]
theorem iV.int {α:Type}(k:α→Int):iV fun a b=>bJ (k a) (k b) where
 sw a b:=GY _ _
 tr a b c h1 h2:=by rw[qx]at*;omega
 co a b e c:=by rw[dw.1 e]
theorem iV.str {α:Type}(k:α→List UInt8):iV fun a b=>dq (k a) (k b) where
 sw a b:=F7 _ _
 tr a b c h1 h2:=yp h1 h2
 co a b e c:=by rw[mb.1 e]
def tX {α:Type}(f g:α→α→Int):α→α→Int:=fun a b=>if f a b=0 then g a b else f a b
theorem iV.seq {α:Type}{f g:α→α→Int}(hf:iV f)(hg:iV g):iV (tX f g) where
 sw a b:=by
  have h1:=hf.sw a b;have h2:=hg.sw a b;unfold tX
  by_cases e:f a b=0
  · rw[if_pos e,if_pos (by omega)];exact h2
  · rw[if_neg e,if_neg (by omega)];exact h1
 tr a b c h1 h2:=by
  unfold tX at*
  by_cases e1:f a b=0
  · rw[if_pos e1]at h1;have k:=hf.co a b e1 c
    by_cases e2:f b c=0
    · rw[if_pos e2]at h2;rw[if_pos (by omega)];exact hg.tr a b c h1 h2
    · rw[if_neg e2]at h2;rw[if_neg (by omega)];omega
  · rw[if_neg e1]at h1
    by_cases e2:f b c=0
    · have k:=hf.co' e2 a;rw[if_neg (by omega)];omega
    · rw[if_neg e2]at h2;have:=hf.tr a b c h1 h2;rw[if_neg (by omega)];exact this
 co a b e c:=by
  unfold tX at*
  by_cases e1:f a b=0
  · rw[if_pos e1]at e;rw[hf.co a b e1 c,hg.co a b e c]
  · rw[if_neg e1]at e;exact absurd e e1
theorem iV.le_tr {α:Type}{f:α→α→Int}(h:iV f){a b c:α}(h1:f a b≤0)(h2:f b c≤0):f a c≤0:=by
 by_cases e1:f a b=0
 · rw[h.co a b e1 c];exact h2
 · by_cases e2:f b c=0
   · rw[←h.co' e2 a];exact h1
   · have:=h.tr a b c (by omega) (by omega);omega
theorem qq {α:Type}{R:α→α→Prop}{l:List α}(d:α):l.Pairwise R↔∀i j,i<j→j<l.length→R (l.getD i d) (l.getD j d):=by
 rw[List.pairwise_iff_getElem];constructor
 · intro h i j hij hj;rw[List.getD_eq_getElem?_getD,List.getD_eq_getElem?_getD,List.getElem?_eq_getElem (by omega),List.getElem?_eq_getElem hj];exact h i j _ hj hij
 · intro h i j hi hj hij;have:=h i j hij hj;rw[List.getD_eq_getElem?_getD,List.getD_eq_getElem?_getD,List.getElem?_eq_getElem hi,List.getElem?_eq_getElem hj]at this;exact this
theorem y9:fa=tX (fun a b=>bJ a.tm b.tm) (tX (fun a b=>dq a.desk b.desk) (fun a b=>bJ a.no b.no)):=by
 funext a b
 unfold fa tX;simp only[ah];grind
theorem ya:iV fa:=by
 rw[y9];exact(iV.int (fun a:aZ=>a.tm)).seq ((iV.str (fun a:aZ=>a.desk)).seq (iV.int (fun a:aZ=>a.no)))
structure zO (l:List aZ):Prop where
 len:l.length≤1000
 frm:∀x ∈ l,oA x=0
 ord:l.Pairwise fun a b=>fa a b<0
 dup:l.Pairwise fun a b=>sQ a b=false
theorem tT {l:List aZ}{i:Nat}:pP l i=0↔oA (l.getD i bH)=0∧(0<i→fa (l.getD (i - 1) bH) (l.getD i bH)<0)∧oH (l.take i) (l.getD i bH)=false:=by
 unfold pP
 by_cases h1:oA (l.getD i bH)=0
 · rw[if_neg (fun c=>c h1)]
   by_cases h2:0<i∧0≤fa (l.getD (i - 1) bH) (l.getD i bH)
   · rw[if_pos h2];exact⟨fun h=>absurd h (by decide),fun h=>by have:=h.2.1 h2.1;omega⟩
   · rw[if_neg h2]
     cases h3:oH (l.take i) (l.getD i bH)with
     |true=>exact⟨fun h=>absurd h (by decide),fun h=>by cases h.2.2⟩
     |false=>exact⟨fun _=>⟨h1,fun q=>by omega,rfl⟩,fun _=>rfl⟩
 · rw[if_pos h1];exact⟨fun h=>absurd h h1,fun h=>absurd h.1 h1⟩
theorem w5 {l:List aZ}{x:aZ}:oH l x=false↔∀y ∈ l,sQ y x=false:=by
 show(l.any fun y=>y.desk==x.desk&&decide (y.no=x.no))=false↔_;rw[List.any_eq_false];refine⟨fun h y hy=> ?_,fun h y hy=> ?_⟩
 · have:=h y hy;unfold sQ;simpa using this
 · have:=h y hy;unfold sQ at this;rw[this];simp
theorem Eu {l:List aZ}:cx l=0↔zO l:=by
 constructor
 · intro h;unfold cx at h
   by_cases hl:1000<l.length
   · rw[if_pos hl]at h;exact absurd h (by decide)
   rw[if_neg hl]at h;have hA:=fun i hi=>tT.1 (fL h i hi)
   refine⟨by omega,fun x hx=> ?_,(qq bH).2 fun i j=> ?_,(qq bH).2 fun i j hij hj=> ?_⟩
   · obtain⟨i,hi,rfl⟩:=bI (d:=bH) hx;exact(hA i hi).1
   · induction j with
     |zero=>intro hij;omega
     | succ j ih=>
       intro hij hj;have h1:=(hA (j+1) hj).2.1 (by omega);rw[Nat.add_sub_cancel]at h1
       by_cases q:i=j
       · rw[q];exact h1
       · exact ya.tr _ _ _ (ih (by omega) (by omega)) h1
   · have h1:=w5.1 (hA j hj).2.2;refine h1 _ ?_
     have:l.getD i bH=(l.take j).getD i bH:=by
      rw[List.getD_eq_getElem?_getD,List.getD_eq_getElem?_getD,List.getElem?_take_of_lt hij]
     rw[this];exact al (by rw[List.length_take];omega)
 · intro h;unfold cx;rw[if_neg (by have:=h.len;omega)];refine ay fun i hi=>tT.2 ⟨h.frm _ (al hi),fun q=>(qq bH).1 h.ord (i - 1) i (by omega) hi,w5.2 fun y hy=> ?_⟩
   obtain⟨j,hj,rfl⟩:=bI (d:=bH) hy;rw[List.length_take]at hj
   have:(l.take i).getD j bH=l.getD j bH:=by
    rw[List.getD_eq_getElem?_getD,List.getD_eq_getElem?_getD,List.getElem?_take_of_lt (by omega)]
   rw[this];exact(qq bH).1 h.dup j i (by omega) hi
section
variable (h:df) (vm:Mp (List UInt8)) (sm:Mp Bool)
end
variable {α:Type}
theorem uj (U V W:List α)(x y d:α):(U++x::(V++y::W)).getD U.length d=x∧(U++x::(V++y::W)).getD (U.length+1+V.length) d=y∧((U++x::(V++y::W)).set U.length y).set (U.length+1+V.length) x=U++y::(V++x::W):=by
 refine⟨?_,?_,?_⟩
 · rw[List.getD_eq_getElem?_getD,List.getElem?_append_right (by omega),Nat.sub_self];rfl
 · rw[List.getD_eq_getElem?_getD,List.getElem?_append_right (by omega),show U.length+1+V.length - U.length=V.length+1 by omega,List.getElem?_cons_succ,List.getElem?_append_right (by omega),Nat.sub_self];rfl
 · rw[List.set_append_right _ _ (by omega),Nat.sub_self,List.set_cons_zero,List.set_append_right _ _ (by omega),show U.length+1+V.length - U.length=V.length+1 by omega,List.set_cons_succ,List.set_append_right _ _ (by omega),Nat.sub_self,List.set_cons_zero]
abbrev kP (f:α→α→Int)(l:List α):Prop:=l.Pairwise fun a b=>f a b≤0
theorem zS {f:α→α→Int}(hf:iV f){Y:List α}(hY:kP f Y){i j:Nat}(hj:j<Y.length)(hij:i≤j)(d:α):i=j∨f (Y.getD i d) (Y.getD j d)≤0:=by
 rcases Nat.lt_or_ge i j with q|q
 · right;rw[List.getD_eq_getElem?_getD,List.getD_eq_getElem?_getD,List.getElem?_eq_getElem (by omega),List.getElem?_eq_getElem hj];exact List.pairwise_iff_getElem.1 hY i j (by omega) hj q
 · left;omega
theorem wi {Y:List α}{t:Nat}{y:α}(h:y ∈ Y.take t)(d:α):∃i,i<t∧i<Y.length∧Y.getD i d=y:=by
 obtain⟨i,hi,e⟩:=List.getElem_of_mem h;rw[List.length_take]at hi;rw[List.getElem_take]at e;exact⟨i,by omega,by omega,by rw[List.getD_eq_getElem?_getD,List.getElem?_eq_getElem (by omega)];exact e⟩
theorem wC {Y:List α}{t:Nat}{y:α}(h:y ∈ Y.drop t)(d:α):∃i,t≤i∧i<Y.length∧Y.getD i d=y:=by
 obtain⟨i,hi,e⟩:=List.getElem_of_mem h;rw[List.length_drop]at hi;rw[List.getElem_drop]at e;exact⟨t+i,by omega,by omega,by rw[List.getD_eq_getElem?_getD,List.getElem?_eq_getElem (by omega)];exact e⟩
theorem oJ {f:α→α→Int}(hf:iV f){Y:List α}(hY:kP f Y){x d:α}{t:Nat}(ht:t≤Y.length)(h:t=0∨f (Y.getD (t - 1) d) x≤0):∀y ∈ Y.take t,f y x≤0:=fun y hy=>by
 obtain⟨i,h1,h2,rfl⟩:=wi hy d;rcases h with h|h
 · omega
 rcases zS hf hY (i:=i) (j:=t - 1) (by omega) (by omega) d with e|e
 · rw[e];exact h
 · exact hf.le_tr e h
theorem oQ {f:α→α→Int}(hf:iV f){Y:List α}(hY:kP f Y){x d:α}{t:Nat}(h:t=Y.length∨f x (Y.getD t d)≤0):∀y ∈ Y.drop t,f x y≤0:=fun y hy=>by
 obtain⟨i,h1,h2,rfl⟩:=wC hy d;rcases h with h|h
 · omega
 rcases zS hf hY (i:=t) (j:=i) (by omega) (by omega) d with e|e
 · rw[←e];exact h
 · exact hf.le_tr h e
theorem AF {f:α→α→Int}{Y1 Y2:List α}{x:α}(hY:kP f (Y1++Y2))(h1:∀y ∈ Y1,f y x≤0)(h2:∀y ∈ Y2,f x y≤0):kP f (Y1++x::Y2):=by
 rw[kP,List.pairwise_append]at hY ⊢;refine⟨hY.1,List.pairwise_cons.2 ⟨h2,hY.2.1⟩,fun a ha b hb=> ?_⟩;rcases List.mem_cons.1 hb with e|hb
 · rw[e];exact h1 a ha
 · exact hY.2.2 a ha b hb
theorem Cu {f:α→α→Int}{Z1 Z2 X1 Y1 X2 Y2:List α}(p1:Z1.Perm (X1++Y1))(s1:kP f Z1)(p2:Z2.Perm (X2++Y2))(s2:kP f Z2)(hX:kP f (X1++X2))(hY:kP f (Y1++Y2))
 (h1:∀x ∈ X1,∀y ∈ Y2,f x y≤0)(h2:∀y ∈ Y1,∀x ∈ X2,f y x≤0):(Z1++Z2).Perm ((X1++X2)++(Y1++Y2))∧kP f (Z1++Z2):=by
 constructor
 · refine(p1.append p2).trans ?_;rw[List.append_assoc,List.append_assoc];exact List.Perm.append_left X1 (List.perm_append_comm_assoc _ _ _)
 · rw[kP,List.pairwise_append]at hX hY ⊢;refine⟨s1,s2,fun a ha b hb=> ?_⟩;rcases List.mem_append.1 (p1.mem_iff.1 ha)with q|q<;>rcases List.mem_append.1 (p2.mem_iff.1 hb)with r|r
   · exact hX.2.2 a q b r
   · exact h1 a q b r
   · exact h2 a q b r
   · exact hY.2.2 a q b r
theorem th {f:α→α→Int}(hf:iV f){X Y:List α}(hX:kP f X)(hY:kP f Y){d:α}{s e:Nat}(hs:s≤X.length)(h:s=0∨e=Y.length∨f (X.getD (s - 1) d) (Y.getD e d)≤0):
 ∀x ∈ X.take s,∀y ∈ Y.drop e,f x y≤0:=fun x hx y hy=>by
 rcases h with h|h|h
 · subst h;rw[List.take_zero]at hx;cases hx
 · subst h;rw[List.drop_length]at hy;cases hy
 · exact hf.le_tr (oJ hf hX hs (.inr h) x hx) (oQ hf hY (d:=d) (t:=e) (.inr (by have:=hf.sw (Y.getD e d) (Y.getD e d);omega)) y hy)
theorem jN {P X S:List α}{i:Nat}(h1:P.length≤i)(h2:i<P.length+X.length)(d:α):(P++(X++S)).getD i d=X.getD (i - P.length) d:=by
 rw[List.getD_eq_getElem?_getD,List.getElem?_append_right h1,List.getElem?_append_left (by omega),List.getD_eq_getElem?_getD]
theorem jK {f:α→α→Int}(hf:iV f)(l:List α):kP f (bc f l):=
 re f (fun a b=>f a b≤0) (fun _ _ _ h1 h2=>hf.le_tr h1 h2) l (List.pairwise_of_forall fun x y=>⟨fun q=>by omega,fun q=>by have:=hf.sw x y;omega⟩)
theorem nv {f:α→α→Int}(hf:iV f){l c:List α}(hz:∀a ∈ l,∀b ∈ l,f a b=0→a=b)(hp:c.Perm l)(hs:kP f c):c=bc f l:=
 List.Perm.eq_of_pairwise (le:=fun a b=>f a b≤0) (fun x y hx hy q1 q2=>hz x (hp.mem_iff.1 hx) y ((aK f l).mem_iff.1 hy) (by have:=hf.sw x y;omega)) hs (jK hf l) (hp.trans (aK f l).symm)
theorem oE (X:List α)(s:Nat)(hs:s≤X.length):X.take s++X.drop s=X∧(X.take s).length=s∧(X.drop s).length=X.length - s:=by
 refine⟨List.take_append_drop s X,by rw[List.length_take];omega,List.length_drop ..⟩
def xH:TL:= [(3,[(0,[]),(1,[0]),(2,[0,1]),(3,[0]),(4,rg 4),(5,rg 5),(6,rg 6),(7,rg 5),(8,rg 8),(9,rg 9),(10,rg 10),(11,rg 9),(12,rg 8),(13,rg 8),(14,rg 14),(15,rg 15),(16,rg 16),(17,rg 15),(18,rg 14),(19,rg 14),(20,[4,5,6,7]),(21,[4,5,6,7]),(22,[]),(23,[])])]
theorem yd (g:FuncId)(P A M B S c:List aS)(a b n:Nat)(ha:P.length=a)(hb0:a+A.length+M.length=b)(hn:A.length=n)(hAB:B.length=n)(hc:c=P++(A++(M++(B++S))))(hl:c.length≤2^20):
 ae Tryz.prog 310 [.buf 1000001,.d (.int .i64 a),.d (.int .i64 b),.d (.int .i64 n),.fn g []] [(1000001,aD 72 5 eV cj c)]
  (fun y r=>y= .tup []∧r= [(1000001,aD 72 5 eV cj (P++(B++(M++(A++S)))))]):=by
 have hl0:=hl;rw[hc]at hl0;simp only[List.length_append]at hl0;refine aj hT Tryz.func310 Tryz.call310 ?_;conv=>whnf
 refine af hT (C:= []) (ι:=Nat×List aS×List aS×List aS×List aS×List aS) (fun(i,A1,A2,B1,B2,c)=>A1++A2=A∧B1++B2=B∧A1.length=i∧B1.length=i∧c=P++(B1++(A2++(M++(A1++(B2++S))))))
  (fun(i,_,_,_,_,c)=>aJ [(0,.buf 1000001),(1,.d (.int .i64 a)),(2,.d (.int .i64 b)),(3,.d (.int .i64 n)),(10,.d (.int .i64 i))] [(1000001,aD 72 5 eV cj c)])
  (fun(i,_,_,_,_,_)=>n - i) (0,[],A,[],B,c) ⟨rfl,rfl,rfl,rfl,hc⟩ (by exact a7 [(1000001,1000001)]) ?_
 rintro⟨i,A1,A2,B1,B2,d⟩ ⟨p1,p2,p3,p4,p5⟩;have l1:A1.length+A2.length=A.length:=by rw[←p1,List.length_append]
 have l2:B1.length+B2.length=B.length:=by rw[←p2,List.length_append]
 cases A2 with
 | nil=>
   have hb9:B2= []:=List.length_eq_zero_iff.1 (by simp only[List.length_nil]at l1;omega);subst hb9;rw[List.append_nil]at p1 p2;subst p1 p2;simp only[List.length_nil]at l1 l2;conv=>whnf
   repeat' ((first|refine aa ?_ ?_<;>intro hb<;>try simp only[am]at hb|refine bg hT xH ?_|omega|refine ao ?_|decide|assumption)<;>conv=>whnf)
   all_goals first
    |(exfalso;omega)
    | (refine .ret _ ?_
       conv=>whnf
       exact⟨_,⟨rfl,rfl⟩,by rw[p5];exact rr,trivial⟩)
 |cons x A2=>
 cases B2 with
 |nil=>exfalso;simp only[List.length_nil,List.length_cons]at l1 l2;omega
 |cons y B2=>
 simp only[List.length_cons]at l1 l2;have hc':d=(P++B1)++x::((A2++(M++A1))++y::(B2++S)):=by rw[p5];simp
 have hlc:d.length=P.length+A.length+M.length+B.length+S.length:=by rw[hc'];simp only[List.length_append,List.length_cons];omega
 have i1:((a:Int)+(i:Int)).toNat=(P++B1).length:=by rw[List.length_append];omega
 have i2:((b:Int)+(i:Int)).toNat=(P++B1).length+1+(A2++(M++A1)).length:=by simp only[List.length_append];omega
 obtain⟨g1,g2,g3⟩:=uj (P++B1) (A2++(M++A1)) (B2++S) x y cj;rw[←hc',←i1]at g1;rw[←hc',←i2]at g2;rw[←hc',←i2,←i1]at g3;conv=>whnf
 repeat' ((first|refine aa ?_ ?_<;>intro hb<;>try simp only[am]at hb|refine bg hT xH ?_|omega|refine ao ?_|decide|assumption)<;>conv=>whnf)
 all_goals first
  |(exfalso;omega)
  |(refine⟨(i+1,A1++ [x],A2,B1++ [y],B2,(d.set ((a:Int)+(i:Int)).toNat (d.getD ((b:Int)+(i:Int)).toNat cj)).set ((b:Int)+(i:Int)).toNat (d.getD ((a:Int)+(i:Int)).toNat cj)),⟨by rw[←p1];simp,by rw[←p2];simp,by simp only[List.length_append,List.length_cons,List.length_nil];omega,by simp only[List.length_append,List.length_cons,List.length_nil];omega,by rw[g1,g2,g3];simp⟩,by show n - (i+1)<n - i;omega,ac [(1000001,1000001)] rfl rfl ⟨lr,lr,lr,lr,au (by omega),trivial⟩ ⟨eD (fun _=>rfl) (fun _=>rfl),trivial⟩⟩)
theorem Jc (g:FuncId)(P X Y S c:List aS)(a m b:Nat)(ha:P.length=a)(hm:a+X.length=m)(hb0:m+Y.length=b)(hc:c=P++(X++(Y++S)))(hX:1≤X.length)(hY:1≤Y.length)(hl:c.length≤2^20):
 ae Tryz.prog 283 [.buf 1000001,.d (.int .i64 a),.d (.int .i64 m),.d (.int .i64 b),.fn g []] [(1000001,aD 72 5 eV cj c)]
  (fun y r=>y= .tup []∧r= [(1000001,aD 72 5 eV cj (P++(Y++(X++S))))]):=by
 have hl0:=hl;rw[hc]at hl0;simp only[List.length_append]at hl0;refine aj hT Tryz.func283 Tryz.call283 ?_;conv=>whnf
 repeat' ((first|refine aa ?_ ?_<;>intro hb<;>try simp only[am]at hb|omega|refine ao ?_|decide|assumption)<;>conv=>whnf)
 refine af hT (C:= []) (ι:=Nat×Nat×List aS×List aS×List aS×List aS×List aS) (fun(i,j,A,X',Y',B,c)=>A++(Y'++(X'++B))=P++(Y++(X++S))∧A.length+i=m∧X'.length=i∧Y'.length=j∧1≤i∧1≤j∧c=A++(X'++(Y'++B)))
  (fun(i,j,_,_,_,_,c)=>aJ [(0,.buf 1000001),(2,.d (.int .i64 m)),(4,.fn g []),(10,.d (.int .i64 i)),(11,.d (.int .i64 j))] [(1000001,aD 72 5 eV cj c)])
  (fun(i,j,_,_,_,_,_)=>i+j) (X.length,Y.length,P,X,Y,S,c) ⟨rfl,by show P.length+X.length=m;omega,rfl,rfl,hX,hY,hc⟩ (by exact a7 [(1000001,1000001)]) ?_
 rintro⟨i,j,A,X',Y',B,d⟩ ⟨p1,p2,p3,p4,p5,p6,p7⟩
 have q1:A.length+X'.length+Y'.length+B.length=P.length+X.length+Y.length+S.length:=by
  have:=congrArg List.length p1;simp only[List.length_append]at this;omega
 have hld:d.length≤2^20:=by rw[p7];simp only[List.length_append];omega
 have e1:((m:Int) - (i:Int))=((A.length:Nat):Int):=by omega
 rcases Nat.lt_trichotomy i j with q|q|q
 · obtain⟨k1,k2,k3⟩:=oE Y' (j - i) (by omega);generalize List.take (j - i) Y' =U at k1 k2;generalize List.drop (j - i) Y' =V at k1 k3;subst k1;simp only[List.length_append]at p4 q1;have c1:=yd g A X' U V B d A.length (A.length+i+U.length) i rfl (by omega) p3 (by omega) (by rw[p7];simp) hld;conv=>whnf
   repeat' ((first|(refine dP.of c1 [(1000001,1000001)] rfl ⟨lr,au (by omega),au (by omega),lr,lr,trivial⟩ ⟨rr,trivial⟩ rfl rfl ?_;rintro y rout ⟨rfl,rfl⟩;refine⟨rfl,?_⟩)|refine aa ?_ ?_<;>intro hb<;>try simp only[am]at hb|omega|refine ao ?_|decide|assumption)<;>conv=>whnf)
   all_goals first
    |(exfalso;omega)
    |exact⟨(i,j - i,A,V,U,X'++B,A++(V++(U++(X'++B)))),⟨by rw[←p1];simp,p2,by omega,by omega,by omega,by omega,by simp⟩,by show i+(j - i)<i+j;omega,(by exact a7 [(1000001,1000001)])⟩
 · have c1:=yd g A X' [] Y' B d A.length m i rfl (by show A.length+X'.length+0=m;omega) p3 (by omega) (by rw[p7];simp) hld;conv=>whnf
   repeat' ((first|(refine dP.of c1 [(1000001,1000001)] rfl ⟨lr,au (by omega),lr,lr,lr,trivial⟩ ⟨rr,trivial⟩ rfl rfl ?_;rintro y rout ⟨rfl,rfl⟩;refine⟨rfl,?_⟩)|refine aa ?_ ?_<;>intro hb<;>try simp only[am]at hb|omega|refine ao ?_|decide|assumption)<;>conv=>whnf)
   all_goals first
    |(exfalso;omega)
    | (rw[←p1]
       refine .ret _ ?_;conv=>whnf
       exact⟨_,⟨rfl,rfl⟩,rr,trivial⟩)
 · obtain⟨k1,k2,k3⟩:=oE X' j (by omega);generalize List.take j X' =U at k1 k2;generalize List.drop j X' =V at k1 k3;subst k1;simp only[List.length_append]at p3 q1;have c1:=yd g A U V Y' B d A.length m j rfl (by omega) (by omega) p4 (by rw[p7];simp) hld;conv=>whnf
   repeat' ((first|(refine dP.of c1 [(1000001,1000001)] rfl ⟨lr,au (by omega),lr,lr,lr,trivial⟩ ⟨rr,trivial⟩ rfl rfl ?_;rintro y rout ⟨rfl,rfl⟩;refine⟨rfl,?_⟩)|refine aa ?_ ?_<;>intro hb<;>try simp only[am]at hb|omega|refine ao ?_|decide|assumption)<;>conv=>whnf)
   all_goals first
    |(exfalso;omega)
    |exact⟨(i - j,j,A++Y',V,U,B,A++(Y'++(V++(U++B)))),⟨by rw[←p1];simp,by simp only[List.length_append];omega,by omega,by omega,by omega,by omega,by simp⟩,by show i - j+j<i+j;omega,(by exact a7 [(1000001,1000001)])⟩
def fj:TL:= [(5,[(0,[]),(1,[0]),(2,[0,1]),(3,[0]),(4,[0]),(5,rg 5),(6,rg 6),(7,rg 5),(8,rg 5),(9,[]),(10,[])]),(11,[(0,[]),(1,[0]),(2,[0,1]),(3,[0,1,2]),(4,[0,1,2]),(5,rg 5),(6,rg 6),(7,rg 6),(8,rg 5),(9,rg 5),(10,rg 10),(11,rg 11),(12,rg 10),(13,rg 10),(14,[2,3,4]),(15,[2,3,4]),(16,[]),(17,[])]),(17,[(0,[]),(1,[0]),(2,[0,1]),(3,[0]),(4,[0]),(5,rg 5),(6,rg 6),(7,rg 5),(8,rg 5),(9,[]),(10,[]),(11,[])]),(23,[(0,[]),(1,[0]),(2,[0,1]),(3,[0,1,2]),(4,[0,1,2]),(5,rg 5),(6,rg 6),(7,rg 6),(8,rg 5),(9,rg 5),(10,rg 10),(11,rg 11),(12,rg 10),(13,rg 10),(14,[2,3,4]),(15,[2,3,4]),(16,[]),(17,[])])]
abbrev xf (g:FuncId)(f:aS→aS→Int)(P X Y S c:List aS)(a m b:Nat):Prop:=
 ae Tryz.prog 239 [.buf 1000001,.d (.int .i64 a),.d (.int .i64 m),.d (.int .i64 b),.fn g []] [(1000001,aD 72 5 eV cj c)]
  (fun y r=>y= .tup []∧∃Z,Z.Perm (X++Y)∧kP f Z∧r= [(1000001,aD 72 5 eV cj (P++(Z++S)))])
theorem Fv (g:FuncId)(f:aS→aS→Int)(hf:iV f)(P Y S c:List aS)(x:aS)(a m b:Nat)(ha:P.length=a)(hm:a+1=m)(hb0:m+Y.length=b)(hc:c=P++([x]++(Y++S)))(hY:kP f Y)(hl:c.length≤2^20)
 (hcmp:∀p q,p ∈ [x]++Y→q ∈ [x]++Y→ae Tryz.prog g [.agg ((eV p).map .d),.agg ((eV q).map .d)] [] (fun y r=>y= .d (.int .i64 (f p q))∧r= [])):xf g f P [x] Y S c a m b:=by
 have hl0:=hl;rw[hc]at hl0;simp only[List.length_append,List.length_singleton]at hl0;have hlc:c.length=P.length+(1+Y.length)+S.length:=by rw[hc];simp only[List.length_append,List.length_singleton];omega
 have gx:c.getD (a:Int).toNat cj=x:=by rw[hc,jN (by omega) (by simp only[List.length_singleton];omega),show(a:Int).toNat - P.length=0 by omega];rfl
 have gy:∀k,m≤k→k<b→c.getD k cj=Y.getD (k - m) cj:=fun k h1 h2=>by
  rw[hc,←List.append_assoc,jN (by simp only[List.length_append,List.length_singleton];omega) (by simp only[List.length_append,List.length_singleton];omega)];congr 1
  simp only[List.length_append,List.length_singleton];omega
 refine aj hT Tryz.func239 Tryz.call239 ?_;conv=>whnf
 repeat' ((first|refine aa ?_ ?_<;>intro hb<;>try simp only[am]at hb|refine bg hT fj ?_|omega|refine ao ?_|decide|assumption)<;>conv=>whnf)
 all_goals try(exfalso;omega)
 refine af hT (C:= []) (ι:=Nat×Nat) (fun(i,j)=>m≤i∧i≤j∧j≤b∧(i - m=0∨f (Y.getD (i - m - 1) cj) x≤0)∧(j - m=Y.length∨f x (Y.getD (j - m) cj)≤0))
  (fun(i,j)=>aJ [(0,.buf 1000001),(1,.d (.int .i64 a)),(4,.fn g []),(10,.d (.int .i64 i)),(11,.d (.int .i64 j))] [(1000001,aD 72 5 eV cj c)])
  (fun(i,j)=>j - i) (m,b) ⟨Nat.le_refl _,by show m≤b;omega,Nat.le_refl _,.inl (by show m - m=0;omega),.inl (by show b - m=_;omega)⟩ (by exact a7 [(1000001,1000001)]) ?_
 rintro⟨i,j⟩ ⟨p1,p2,p3,p4,p5⟩;try dsimp only at p1 p2 p3 p4 p5
 rcases Nat.lt_or_ge i j with q|q
 · obtain⟨M,hM⟩:∃M,M=(i+j)/2:=⟨_,rfl⟩;have hh:=xF i j (by omega) p2;rw[←hM]at hh;have gM:c.getD (M:Int).toNat cj=Y.getD (M - m) cj:=by rw[Int.toNat_natCast];exact gy M (by omega) (by omega)
   have mM:Y.getD (M - m) cj ∈ [x]++Y:=List.mem_append_right _ (al (by omega));conv=>whnf
   repeat' (first|(refine⟨rfl,?_⟩;conv=>whnf)|(rw[hh];conv=>whnf)|((first|(refine dP.of (hcmp (Y.getD (M - m) cj) x mM (by simp)) [] rfl ⟨by rw[←gM];exact lr,by rw[←gx];exact lr,trivial⟩ trivial rfl rfl ?_;rintro y rout ⟨rfl,rfl⟩;refine⟨rfl,?_⟩)|refine aa ?_ ?_<;>intro hb<;>try simp only[am]at hb|refine bg hT fj ?_|omega|refine ao ?_|decide|assumption)<;>conv=>whnf))
   all_goals try(exfalso;omega)
   · exact⟨(M+1,j),⟨by show m≤M+1;omega,by show M+1≤j;omega,p3,.inr (by show f (Y.getD (M+1 - m - 1) _) _≤0;rw[show M+1 - m - 1=M - m by omega];omega),p5⟩,by show j - (M+1)<j - i;omega,(by exact a7 [(1000001,1000001)])⟩
   · exact⟨(i,M),⟨p1,by show i≤M;omega,by show M≤b;omega,p4,.inr (by show f _ (Y.getD (M - m) _)≤0;rw[hf.sw];omega)⟩,by show M - i<j - i;omega,(by exact a7 [(1000001,1000001)])⟩
 · have hij:i=j:=by omega
   subst hij;obtain⟨k1,k2,k3⟩:=oE Y (i - m) (by omega);have s1:=oJ hf hY (x:=x) (d:=cj) (t:=i - m) (by omega) p4;have s2:=oQ hf hY (x:=x) (d:=cj) (t:=i - m) p5;generalize List.take (i - m) Y=Y1 at k1 k2 s1;generalize List.drop (i - m) Y=Y2 at k1 k3 s2;subst k1;have sZ:=AF hY s1 s2;conv=>whnf
   repeat' ((first|refine aa ?_ ?_<;>intro hb<;>try simp only[am]at hb|refine bg hT fj ?_|omega|refine ao ?_|decide|assumption)<;>conv=>whnf)
   all_goals try(exfalso;omega)
   refine af hT (C:= []) (ι:=Nat×List aS×List aS×List aS) (fun(k,A,B,c)=>A++B=Y1∧A.length+a=k∧c=P++(A++(x::(B++(Y2++S)))))
    (fun(k,_,_,c)=>aJ [(0,.buf 1000001),(10,.d (.int .i64 i)),(13,.d (.int .i64 k))] [(1000001,aD 72 5 eV cj c)])
    (fun(_,_,B,_)=>B.length) (a,[],Y1,c) ⟨rfl,by simp,by rw[hc];simp⟩ (by exact a7 [(1000001,1000001)]) ?_
   rintro⟨k,A,B,d⟩ ⟨r1,r2,r3⟩;have r4:A.length+B.length=Y1.length:=by rw[←r1,List.length_append]
   have hld:d.length=c.length:=by rw[r3,hc,←r1];simp only[List.length_append,List.length_cons,List.length_nil];omega
   cases B with
   | nil=>
     rw[List.append_nil]at r1;simp only[List.length_nil]at r4;conv=>whnf
     repeat' ((first|refine aa ?_ ?_<;>intro hb<;>try simp only[am]at hb|refine bg hT fj ?_|omega|refine ao ?_|decide|assumption)<;>conv=>whnf)
     all_goals try(exfalso;omega)
     refine .ret _ ?_;conv=>whnf
     exact⟨_,⟨rfl,Y1++x::Y2,List.perm_middle,sZ,rfl⟩,by rw[r3,r1];simp only[List.append_assoc,List.cons_append,List.nil_append];exact rr,trivial⟩
   | cons y B=>
     simp only[List.length_cons]at r4;obtain⟨g1,g2,g3⟩:=uj (P++A) [] (B++(Y2++S)) x y cj;have hc':d=(P++A)++x::([]++y::(B++(Y2++S))):=by rw[r3];simp
     have i1:(k:Int).toNat=(P++A).length:=by rw[List.length_append];omega
     have i2:((k:Int)+1).toNat=(P++A).length+1+([]:List aS).length:=by simp only[List.length_append,List.length_nil];omega
     rw[←hc',←i1]at g1;rw[←hc',←i2]at g2;rw[←hc',←i2,←i1]at g3;conv=>whnf
     repeat' ((first|refine aa ?_ ?_<;>intro hb<;>try simp only[am]at hb|refine bg hT fj ?_|omega|refine ao ?_|decide|assumption)<;>conv=>whnf)
     all_goals try(exfalso;omega)
     refine⟨(k+1,A++ [y],B,(d.set (k:Int).toNat (d.getD ((k:Int)+1).toNat cj)).set ((k:Int)+1).toNat (d.getD (k:Int).toNat cj)),⟨by rw[←r1];simp,by simp only[List.length_append,List.length_singleton];omega,by rw[g1,g2,g3];simp⟩,by show B.length<(y::B).length;simp,ac [(1000001,1000001)] rfl rfl ⟨lr,lr,au (by omega),trivial⟩ ⟨eD (fun _=>rfl) (fun _=>rfl),trivial⟩⟩
theorem Fk (g:FuncId)(f:aS→aS→Int)(hf:iV f)(P X S c:List aS)(x:aS)(a m b:Nat)(ha:P.length=a)(hm:a+X.length=m)(hX2:2≤X.length)(hb0:m+1=b)(hc:c=P++(X++([x]++S)))(hX:kP f X)(hl:c.length≤2^20)
 (hcmp:∀p q,p ∈ X++ [x]→q ∈ X++ [x]→ae Tryz.prog g [.agg ((eV p).map .d),.agg ((eV q).map .d)] [] (fun y r=>y= .d (.int .i64 (f p q))∧r= [])):xf g f P X [x] S c a m b:=by
 have hl0:=hl;rw[hc]at hl0;simp only[List.length_append,List.length_singleton]at hl0;have hlc:c.length=P.length+(X.length+1)+S.length:=by rw[hc];simp only[List.length_append,List.length_singleton];omega
 have gx:c.getD (m:Int).toNat cj=x:=by rw[hc,←List.append_assoc,jN (by simp only[List.length_append];omega) (by simp only[List.length_append,List.length_singleton];omega),show(m:Int).toNat - (P++X).length=0 by simp only[List.length_append];omega];rfl
 have gy:∀k,a≤k→k<m→c.getD k cj=X.getD (k - a) cj:=fun k h1 h2=>by
  rw[hc,jN (by omega) (by omega),ha]
 refine aj hT Tryz.func239 Tryz.call239 ?_;conv=>whnf
 repeat' ((first|refine aa ?_ ?_<;>intro hb<;>try simp only[am]at hb|refine bg hT fj ?_|omega|refine ao ?_|decide|assumption)<;>conv=>whnf)
 all_goals try(exfalso;omega)
 refine af hT (C:= []) (ι:=Nat×Nat) (fun(i,j)=>a≤i∧i≤j∧j≤m∧(i - a=0∨f (X.getD (i - a - 1) cj) x≤0)∧(j - a=X.length∨f x (X.getD (j - a) cj)≤0))
  (fun(i,j)=>aJ [(0,.buf 1000001),(2,.d (.int .i64 m)),(4,.fn g []),(14,.d (.int .i64 i)),(15,.d (.int .i64 j))] [(1000001,aD 72 5 eV cj c)])
  (fun(i,j)=>j - i) (a,m) ⟨Nat.le_refl _,by show a≤m;omega,Nat.le_refl _,.inl (by show a - a=0;omega),.inl (by show m - a=_;omega)⟩ (by exact a7 [(1000001,1000001)]) ?_
 rintro⟨i,j⟩ ⟨p1,p2,p3,p4,p5⟩;try dsimp only at p1 p2 p3 p4 p5
 rcases Nat.lt_or_ge i j with q|q
 · obtain⟨M,hM⟩:∃M,M=(i+j)/2:=⟨_,rfl⟩;have hh:=xF i j (by omega) p2;rw[←hM]at hh;have gM:c.getD (M:Int).toNat cj=X.getD (M - a) cj:=by rw[Int.toNat_natCast];exact gy M (by omega) (by omega)
   have mM:X.getD (M - a) cj ∈ X++ [x]:=List.mem_append_left _ (al (by omega));conv=>whnf
   repeat' (first|(refine⟨rfl,?_⟩;conv=>whnf)|(rw[hh];conv=>whnf)|((first|(refine dP.of (hcmp x (X.getD (M - a) cj) (by simp) mM) [] rfl ⟨by rw[←gx];exact lr,by rw[←gM];exact lr,trivial⟩ trivial rfl rfl ?_;rintro y rout ⟨rfl,rfl⟩;refine⟨rfl,?_⟩)|refine aa ?_ ?_<;>intro hb<;>try simp only[am]at hb|refine bg hT fj ?_|omega|refine ao ?_|decide|assumption)<;>conv=>whnf))
   all_goals try(exfalso;omega)
   · exact⟨(M+1,j),⟨by show a≤M+1;omega,by show M+1≤j;omega,p3,.inr (by show f (X.getD (M+1 - a - 1) _) _≤0;rw[show M+1 - a - 1=M - a by omega,hf.sw];omega),p5⟩,by show j - (M+1)<j - i;omega,(by exact a7 [(1000001,1000001)])⟩
   · exact⟨(i,M),⟨p1,by show i≤M;omega,by show M≤m;omega,p4,.inr (by show f _ (X.getD (M - a) _)≤0;omega)⟩,by show M - i<j - i;omega,(by exact a7 [(1000001,1000001)])⟩
 · have hij:i=j:=by omega
   subst hij;obtain⟨k1,k2,k3⟩:=oE X (i - a) (by omega);have s1:=oJ hf hX (x:=x) (d:=cj) (t:=i - a) (by omega) p4;have s2:=oQ hf hX (x:=x) (d:=cj) (t:=i - a) p5;generalize List.take (i - a) X=Y1 at k1 k2 s1;generalize List.drop (i - a) X=Y2 at k1 k3 s2;subst k1;have sZ:=AF hX s1 s2;simp only[List.length_append]at hm hl0 k3;conv=>whnf
   repeat' ((first|refine aa ?_ ?_<;>intro hb<;>try simp only[am]at hb|refine bg hT fj ?_|omega|refine ao ?_|decide|assumption)<;>conv=>whnf)
   all_goals try(exfalso;omega)
   refine af hT (C:= []) (ι:=Nat×List aS×List aS×List aS) (fun(k,A,B,c)=>A.reverse++B=Y2∧A.length+i=k∧c=P++(Y1++(A.reverse++(x::(B++S)))))
    (fun(k,_,_,c)=>aJ [(0,.buf 1000001),(14,.d (.int .i64 i)),(17,.d (.int .i64 k))] [(1000001,aD 72 5 eV cj c)])
    (fun(_,A,_,_)=>A.length) (m,Y2.reverse,[],c) ⟨by simp,by show Y2.reverse.length+i=m;rw[List.length_reverse];omega,by rw[hc];simp⟩ (by exact a7 [(1000001,1000001)]) ?_
   rintro⟨k,A,B,d⟩ ⟨r1,r2,r3⟩;have r4:A.length+B.length=Y2.length:=by rw[←r1,List.length_append,List.length_reverse]
   have hld:d.length=c.length:=by rw[r3,hc,←r1];simp only[List.length_append,List.length_cons,List.length_nil,List.length_reverse];omega
   cases A with
   | nil=>
     rw[List.reverse_nil,List.nil_append]at r1;simp only[List.length_nil]at r4 r2;conv=>whnf
     repeat' ((first|refine aa ?_ ?_<;>intro hb<;>try simp only[am]at hb|refine bg hT fj ?_|omega|refine ao ?_|decide|assumption)<;>conv=>whnf)
     all_goals try(exfalso;omega)
     refine .ret _ ?_;conv=>whnf
     exact⟨_,⟨rfl,Y1++x::Y2,by rw[List.append_assoc];exact List.Perm.append_left Y1 (List.perm_append_singleton x Y2).symm,sZ,rfl⟩,by rw[r3,r1];simp only[List.append_assoc,List.cons_append,List.nil_append,List.reverse_nil];exact rr,trivial⟩
   | cons y A=>
     simp only[List.length_cons]at r4 r2;obtain⟨g1,g2,g3⟩:=uj (P++(Y1++A.reverse)) [] (B++S) y x cj;have hc':d=(P++(Y1++A.reverse))++y::([]++x::(B++S)):=by rw[r3];simp
     have i1:((k:Int) - 1).toNat=(P++(Y1++A.reverse)).length:=by simp only[List.length_append,List.length_reverse];omega
     have i2:(k:Int).toNat=(P++(Y1++A.reverse)).length+1+([]:List aS).length:=by simp only[List.length_append,List.length_nil,List.length_reverse];omega
     rw[←hc',←i1]at g1;rw[←hc',←i2]at g2;rw[←hc',←i2,←i1]at g3;conv=>whnf
     repeat' ((first|refine aa ?_ ?_<;>intro hb<;>try simp only[am]at hb|refine bg hT fj ?_|omega|refine ao ?_|decide|assumption)<;>conv=>whnf)
     all_goals try(exfalso;omega)
     refine⟨(k - 1,A,y::B,(d.set (k:Int).toNat (d.getD ((k:Int) - 1).toNat cj)).set ((k:Int) - 1).toNat (d.getD (k:Int).toNat cj)),⟨by rw[←r1];simp,by omega,?_⟩,by show A.length<(y::A).length;simp,ac [(1000001,1000001)] rfl rfl ⟨lr,lr,au (by omega),trivial⟩ ⟨eD (fun _=>rfl) (fun _=>rfl),trivial⟩⟩;rw[List.set_comm _ _ (by omega),g1,g2,g3];simp
def lI:List (Nat×List Nat):= [(0,[]),(1,[0]),(2,[0,1]),(3,[0,1,2]),(4,[0,1]),(5,[0]),(6,[0]),(7,[0,1,2,3,4,5,6]),(8,[0,1,2,3,4,5,6,7]),(9,[0,1,2,3,4,5,6]),(10,[0,1,2,3,4,5,6]),(11,[]),(12,[]),(13,[])]
theorem GG (g:FuncId)(f:aS→aS→Int)(hf:iV f)(P X Y S c:List aS)(a m b:Nat)(ha:P.length=a)(hm:a+X.length=m)(hb0:m+Y.length=b)(hc:c=P++(X++(Y++S)))(hX2:2≤X.length)(hY2:2≤Y.length)(hX:kP f X)(hY:kP f Y)(hl:c.length≤2^20)
 (hcmp:∀p q,p ∈ X++Y→q ∈ X++Y→ae Tryz.prog g [.agg ((eV p).map .d),.agg ((eV q).map .d)] [] (fun y r=>y= .d (.int .i64 (f p q))∧r= []))
 (ih:∀ (P X' Y' S c:List aS) (a m b:Nat),P.length=a→a+X'.length=m→m+Y'.length=b→c=P++(X'++(Y'++S))→1≤X'.length→1≤Y'.length→X'.length+Y'.length<X.length+Y.length→kP f X'→kP f Y'→c.length≤2^20→(∀p ∈ X'++Y',p ∈ X++Y)→xf g f P X' Y' S c a m b):xf g f P X Y S c a m b:=by
 have hl0:=hl
 rw[hc]at hl0
 simp only[List.length_append]at hl0
 have hlc:c.length=P.length+(X.length+Y.length)+S.length:=by rw[hc];simp only[List.length_append];omega
 have gx:∀k,a≤k→k<m→c.getD k cj=X.getD (k - a) cj:=fun k h1 h2=>by
  rw[hc,jN (by omega) (by omega),ha]
 have gy:∀k,m≤k→k<b→c.getD k cj=Y.getD (k - m) cj:=fun k h1 h2=>by
  rw[hc,←List.append_assoc,jN (by simp only[List.length_append];omega) (by simp only[List.length_append];omega)]
  congr 1
  simp only[List.length_append];omega
 obtain⟨Md,hMd⟩:∃Md,Md=(a+b)/2:=⟨_,rfl⟩
 have hh0:=xF a b (by omega) (by omega)
 rw[←hMd]at hh0
 obtain⟨s0,r0,h01,h02⟩:∃s0 r0:Nat,(Md<m→s0=Md+m - b∧r0=Md)∧(m≤Md→s0=a∧r0=m):=by
  by_cases q:Md<m
  · exact⟨Md+m - b,Md,fun _=>⟨rfl,rfl⟩,fun h=>by omega⟩
  · exact⟨a,m,fun h=>by omega,fun _=>⟨rfl,rfl⟩⟩
 have h03:s0≤r0∧a≤s0∧r0≤m∧r0≤Md:=by
  rcases Nat.lt_or_ge Md m with q|q
  · have:=h01 q;omega
  · have:=h02 q;omega
 obtain⟨h03,h04,h05,h06⟩:=h03
 refine g9 hT (C:= []) Tryz.func239 rfl Tryz.call239 rfl rfl rfl ?_
 conv=>whnf
 repeat' (first|(refine⟨rfl,?_⟩;conv=>whnf)|(rw[hh0];conv=>whnf)|(refine aa ?_ ?_<;>intro hb<;>(try simp only[am]at hb)<;>conv=>whnf)|(refine bG (id:=5) hT rfl [] oLStD239_5 (by decide+kernel) ?_;conv=>whnf)|(refine bG (id:=11) hT rfl [] oLStD239_11 (by decide+kernel) ?_;conv=>whnf)|(refine bG (id:=17) hT rfl [] oLStD239_17 (by decide+kernel) ?_;conv=>whnf)|(refine bG (id:=23) hT rfl [] oLStD239_23 (by decide+kernel) ?_;conv=>whnf)|(refine bG (id:=35) hT rfl [] lI (by decide+kernel) ?_;conv=>whnf)|omega|(refine And.intro ?_ ?_;((try dsimp only);first|omega|(refine LG rfl ?_;omega)|(refine Ls rfl ?_;omega)|(unfold bC;omega)|exact rfl|(simp only[List.toList_toArray,List.length_cons,List.length_nil];omega)|(simp only[LN]at*;omega)|decide|(unfold bC;decide));conv=>whnf)|decide|assumption)
 all_goals try(exfalso;omega)
 all_goals
  refine af hT (C:= []) (ι:=Nat×Nat) (fun(s,r)=>s0≤s∧s≤r∧r≤r0∧(s=s0∨f (X.getD (s - a - 1) cj) (Y.getD (Md - s) cj)≤0)∧(r=r0∨f (Y.getD (Md - r - 1) cj) (X.getD (r - a) cj)≤0))
   (fun(s,r)=>aJ [(0,.buf 1000001),(1,.d (.int .i64 a)),(2,.d (.int .i64 m)),(3,.d (.int .i64 b)),(4,.fn g []),(18,.d (.int .i64 Md)),(19,.d (.int .i64 ((Md+m:Nat):Int))),(20,.d (.int .i64 s)),(21,.d (.int .i64 r)),(22,.d (.int .i64 ((Md+m - 1:Nat):Int)))] [(1000001,aD 72 5 eV cj c)])
   (fun(s,r)=>r - s) (s0,r0) ⟨Nat.le_refl _,h03,Nat.le_refl _,.inl rfl,.inl rfl⟩ (by(refine ac [(1000001,1000001)] rfl rfl ?_ ?_<;>repeat' (first|exact True.intro|exact lr|exact rr|exact au (by omega)|exact SV.le_any _|refine And.intro ?_ ?_));done) ?_
  rintro⟨s,r⟩ ⟨p1,p2,p3,p4,p5⟩
  try dsimp only at p1 p2 p3 p4 p5
  rcases Nat.lt_or_ge s r with q|q
  · obtain⟨C,hC⟩:∃C,C=(s+r)/2:=⟨_,rfl⟩
    have hh:=xF s r (by omega) p2
    rw[←hC]at hh
    have hCb:s≤C∧C<r:=by omega
    have gM:c.getD (C:Int).toNat cj=X.getD (C - a) cj:=by rw[Int.toNat_natCast];exact gx C (by omega) (by omega)
    have gN:c.getD (((Md+m - 1:Nat):Int) - (C:Int)).toNat cj=Y.getD (Md - C - 1) cj:=by
     rw[show(((Md+m - 1:Nat):Int) - (C:Int)).toNat=Md+m - 1 - C by omega,gy _ (by omega) (by rcases Nat.lt_or_ge Md m with t|t;(have:=h01 t;omega);(have:=h02 t;omega))]
     congr 1;omega
    have mM:X.getD (C - a) cj ∈ X++Y:=List.mem_append_left _ (al (by omega))
    have mN:Y.getD (Md - C - 1) cj ∈ X++Y:=List.mem_append_right _ (al (by rcases Nat.lt_or_ge Md m with t|t;(have:=h01 t;omega);(have:=h02 t;omega)))
    have hbd:Md+m - 1 - C<b:=by rcases Nat.lt_or_ge Md m with t|t;(have:=h01 t;omega);(have:=h02 t;omega)
    conv=>whnf
    repeat' (first|(refine⟨rfl,?_⟩;conv=>whnf)|(rw[hh];conv=>whnf)|(refine dP.of (hcmp (Y.getD (Md - C - 1) cj) (X.getD (C - a) cj) mN mM) [] rfl ⟨by rw[←gN];exact lr,by rw[←gM];exact lr,trivial⟩ trivial rfl rfl ?_;rintro y rout ⟨rfl,rfl⟩;refine⟨rfl,?_⟩;conv=>whnf)|(refine aa ?_ ?_<;>intro hb<;>(try simp only[am]at hb)<;>conv=>whnf)|(refine bG (id:=5) hT rfl [] oLStD239_5 (by decide+kernel) ?_;conv=>whnf)|(refine bG (id:=11) hT rfl [] oLStD239_11 (by decide+kernel) ?_;conv=>whnf)|(refine bG (id:=17) hT rfl [] oLStD239_17 (by decide+kernel) ?_;conv=>whnf)|(refine bG (id:=23) hT rfl [] oLStD239_23 (by decide+kernel) ?_;conv=>whnf)|(refine bG (id:=35) hT rfl [] lI (by decide+kernel) ?_;conv=>whnf)|omega|(refine And.intro ?_ ?_;((try dsimp only);first|omega|(refine LG rfl ?_;omega)|(refine Ls rfl ?_;omega)|(unfold bC;omega)|exact rfl|(simp only[List.toList_toArray,List.length_cons,List.length_nil];omega)|(simp only[LN]at*;omega)|decide|(unfold bC;decide));conv=>whnf)|decide|assumption)
    all_goals try(exfalso;omega)
    · exact⟨(C+1,r),⟨by show s0≤C+1;omega,by show C+1≤r;omega,p3,.inr (by show f (X.getD (C+1 - a - 1) _) (Y.getD (Md - (C+1)) _)≤0;rw[show C+1 - a - 1=C - a by omega,show Md - (C+1)=Md - C - 1 by omega,hf.sw];omega),p5⟩,by show r - (C+1)<r - s;omega,(by(refine ac [(1000001,1000001)] rfl rfl ?_ ?_<;>repeat' (first|exact True.intro|exact lr|exact rr|exact au (by omega)|exact SV.le_any _|refine And.intro ?_ ?_));done)⟩
    · exact⟨(s,C),⟨p1,by show s≤C;omega,by show C≤r0;omega,p4,.inr (by show f (Y.getD (Md - C - 1) _) (X.getD (C - a) _)≤0;omega)⟩,by show C - s<r - s;omega,(by(refine ac [(1000001,1000001)] rfl rfl ?_ ?_<;>repeat' (first|exact True.intro|exact lr|exact rr|exact au (by omega)|exact SV.le_any _|refine And.intro ?_ ?_));done)⟩
  · have hij:s=r:=by omega
    subst hij
    have hsY:Md - s≤Y.length:=by rcases Nat.lt_or_ge Md m with t|t;(have:=h01 t;omega);(have:=h02 t;omega)
    have cr1:=th hf hX hY (d:=cj) (s:=s - a) (e:=Md - s) (by omega) (by
     rcases p4 with t|t
     · rcases Nat.lt_or_ge Md m with u|u
       · have:=h01 u;exact .inr (.inl (by omega))
       · have:=h02 u;exact .inl (by omega)
     · exact .inr (.inr t))
    have cr2:=th hf hY hX (d:=cj) (s:=Md - s) (e:=s - a) hsY (by
     rcases p5 with t|t
     · rcases Nat.lt_or_ge Md m with u|u
       · have:=h01 u;exact .inl (by omega)
       · have:=h02 u;exact .inr (.inl (by omega))
     · exact .inr (.inr t))
    obtain⟨k1,k2,k3⟩:=oE X (s - a) (by omega)
    obtain⟨k4,k5,k6⟩:=oE Y (Md - s) hsY
    generalize List.take (s - a) X=X1 at k1 k2 cr1
    generalize List.drop (s - a) X=X2 at k1 k3 cr2
    generalize List.take (Md - s) Y=Y1 at k4 k5 cr2
    generalize List.drop (Md - s) Y=Y2 at k4 k6 cr1
    clear gx gy p4 p5
    have hX':=hX
    have hY':=hY
    rw[←k1]at hX'
    rw[←k4]at hY'
    have J:=fun{Z1 Z2:List aS} (p1:Z1.Perm (X1++Y1)) (s1:kP f Z1) (p2:Z2.Perm (X2++Y2)) (s2:kP f Z2)=>Cu p1 s1 p2 s2 hX' hY' cr1 cr2
    rw[k1,k4]at J
    have uX:=List.pairwise_append.1 hX'
    have uY:=List.pairwise_append.1 hY'
    have sL:X1.length=0∨Y1.length=0→kP f (X1++Y1):=fun h=>by
     rcases h with h|h
     · rw[List.length_eq_zero_iff.1 h];exact uY.1
     · rw[List.length_eq_zero_iff.1 h,List.append_nil];exact uX.1
    have sR:X2.length=0∨Y2.length=0→kP f (X2++Y2):=fun h=>by
     rcases h with h|h
     · rw[List.length_eq_zero_iff.1 h];exact uY.2.1
     · rw[List.length_eq_zero_iff.1 h,List.append_nil];exact uX.2.1
    have eC:X2.length=0∨Y1.length=0→c=P++(X1++(Y1++(X2++(Y2++S)))):=fun h=>by
     rw[hc,←k1,←k4]
     rcases h with h|h<;>rw[List.length_eq_zero_iff.1 h]<;>simp
    have eR:c=(P++X1)++(X2++(Y1++(Y2++S))):=by rw[hc,←k1,←k4];simp
    have hlc2:P.length+X1.length+X2.length+Y1.length+Y2.length+S.length≤2^20:=by omega
    have mL:∀p ∈ X1++Y1,p ∈ X++Y:=fun p hp=>by
     rw[←k1,←k4];rcases List.mem_append.1 hp with t|t<;>simp[t]
    have mR:∀p ∈ X2++Y2,p ∈ X++Y:=fun p hp=>by
     rw[←k1,←k4];rcases List.mem_append.1 hp with t|t<;>simp[t]
    conv=>whnf
    repeat' (first|(refine dP.of (Jc g (P++X1) X2 Y1 (Y2++S) c s m (Md+m - s) (by rw[List.length_append];omega) (by omega) (by omega) eR (by omega) (by omega) hl) [(1000001,1000001)] rfl ⟨lr,lr,lr,au (by omega),lr,trivial⟩ ⟨rr,trivial⟩ rfl rfl ?_;rintro y rout ⟨rfl,rfl⟩;refine⟨rfl,?_⟩;conv=>whnf)|(refine dP.of (ih P X1 Y1 (X2++(Y2++S)) ((P++X1)++(Y1++(X2++(Y2++S)))) a s Md ha (by omega) (by omega) (by simp) (by omega) (by omega) (by omega) uX.1 uY.1 (by simp only[List.length_append];omega) mL) [(1000001,1000001)] rfl ⟨lr,lr,lr,lr,lr,trivial⟩ ⟨rr,trivial⟩ rfl rfl ?_;rintro y rout ⟨rfl,Z1,z1,z2,rfl⟩;refine⟨rfl,?_⟩;conv=>whnf)|(refine dP.of (ih P X1 Y1 (X2++(Y2++S)) c a s Md ha (by omega) (by omega) (eC (by omega)) (by omega) (by omega) (by omega) uX.1 uY.1 hl mL) [(1000001,1000001)] rfl ⟨lr,lr,lr,lr,lr,trivial⟩ ⟨rr,trivial⟩ rfl rfl ?_;rintro y rout ⟨rfl,Z1,z1,z2,rfl⟩;refine⟨rfl,?_⟩;conv=>whnf)|(refine dP.of (ih (P++Z1) X2 Y2 S (P++(Z1++(X2++(Y2++S)))) Md (Md+m - s) b (by rw[List.length_append,z1.length_eq,List.length_append];omega) (by omega) (by omega) (by simp) (by omega) (by omega) (by omega) uX.2.1 uY.2.1 (by have:=z1.length_eq;simp only[List.length_append]at this ⊢;omega) mR) [(1000001,1000001)] rfl ⟨lr,lr,au (by omega),lr,lr,trivial⟩ ⟨rr,trivial⟩ rfl rfl ?_;rintro y rout ⟨rfl,Z2,z3,z4,rfl⟩;refine⟨rfl,?_⟩;conv=>whnf)|(refine dP.of (ih (P++(X1++Y1)) X2 Y2 S ((P++X1)++(Y1++(X2++(Y2++S)))) Md (Md+m - s) b (by simp only[List.length_append];omega) (by omega) (by omega) (by simp) (by omega) (by omega) (by omega) uX.2.1 uY.2.1 (by simp only[List.length_append];omega) mR) [(1000001,1000001)] rfl ⟨lr,lr,au (by omega),lr,lr,trivial⟩ ⟨rr,trivial⟩ rfl rfl ?_;rintro y rout ⟨rfl,Z2,z3,z4,rfl⟩;refine⟨rfl,?_⟩;conv=>whnf)|(refine dP.of (ih (P++(X1++Y1)) X2 Y2 S c Md (Md+m - s) b (by simp only[List.length_append];omega) (by omega) (by omega) (by rw[eC (by omega)];simp) (by omega) (by omega) (by omega) uX.2.1 uY.2.1 hl mR) [(1000001,1000001)] rfl ⟨lr,lr,au (by omega),lr,lr,trivial⟩ ⟨rr,trivial⟩ rfl rfl ?_;rintro y rout ⟨rfl,Z2,z3,z4,rfl⟩;refine⟨rfl,?_⟩;conv=>whnf)|(refine aa ?_ ?_<;>intro hb<;>(try simp only[am]at hb)<;>conv=>whnf)|(refine bG (id:=5) hT rfl [] oLStD239_5 (by decide+kernel) ?_;conv=>whnf)|(refine bG (id:=11) hT rfl [] oLStD239_11 (by decide+kernel) ?_;conv=>whnf)|(refine bG (id:=17) hT rfl [] oLStD239_17 (by decide+kernel) ?_;conv=>whnf)|(refine bG (id:=23) hT rfl [] oLStD239_23 (by decide+kernel) ?_;conv=>whnf)|(refine bG (id:=35) hT rfl [] lI (by decide+kernel) ?_;conv=>whnf)|omega|(refine And.intro ?_ ?_;((try dsimp only);first|omega|(refine LG rfl ?_;omega)|(refine Ls rfl ?_;omega)|(unfold bC;omega)|exact rfl|(simp only[List.toList_toArray,List.length_cons,List.length_nil];omega)|(simp only[LN]at*;omega)|decide|(unfold bC;decide));conv=>whnf)|decide|assumption)
    all_goals try(exfalso;omega)
    all_goals
     refine .ret _ ?_
     conv=>whnf
     first
      |exact⟨_,⟨rfl,Z1++Z2,(J z1 z2 z3 z4).1,(J z1 z2 z3 z4).2,rfl⟩,by simp only[List.append_assoc];exact rr,trivial⟩
      |exact⟨_,⟨rfl,Z1++(X2++Y2),(J z1 z2 (List.Perm.refl _) (sR (by omega))).1,(J z1 z2 (List.Perm.refl _) (sR (by omega))).2,rfl⟩,by simp only[List.append_assoc];exact rr,trivial⟩
      |exact⟨_,⟨rfl,(X1++Y1)++Z2,(J (List.Perm.refl _) (sL (by omega)) z3 z4).1,(J (List.Perm.refl _) (sL (by omega)) z3 z4).2,rfl⟩,by simp only[List.append_assoc];exact rr,trivial⟩
      |exact⟨_,⟨rfl,(X1++Y1)++(X2++Y2),(J (List.Perm.refl _) (sL (by omega)) (List.Perm.refl _) (sR (by omega))).1,(J (List.Perm.refl _) (sL (by omega)) (List.Perm.refl _) (sR (by omega))).2,rfl⟩,by simp only[List.append_assoc];exact rr,trivial⟩
      |exact⟨_,⟨rfl,(X1++Y1)++(X2++Y2),(J (List.Perm.refl _) (sL (by omega)) (List.Perm.refl _) (sR (by omega))).1,(J (List.Perm.refl _) (sL (by omega)) (List.Perm.refl _) (sR (by omega))).2,rfl⟩,by rw[eC (by omega)];simp only[List.append_assoc];exact rr,trivial⟩
theorem yQ (g:FuncId)(f:aS→aS→Int)(hf:iV f):∀ (n:Nat) (P X Y S c:List aS) (a m b:Nat),X.length+Y.length≤n→P.length=a→a+X.length=m→m+Y.length=b→c=P++(X++(Y++S))→1≤X.length→1≤Y.length→kP f X→kP f Y→c.length≤2^20→
 (∀p q,p ∈ X++Y→q ∈ X++Y→ae Tryz.prog g [.agg ((eV p).map .d),.agg ((eV q).map .d)] [] (fun y r=>y= .d (.int .i64 (f p q))∧r= []))→xf g f P X Y S c a m b
 |0=>fun P X Y S c a m b h0 _ _ _ _ hX1 _ _ _ _ _=>by omega
 | n +1=>fun P X Y S c a m b h0 ha hm hb0 hc hX1 hY1 hX hY hl hcmp=>by
   by_cases q:X.length=1
   · obtain⟨x,rfl⟩:=List.length_eq_one_iff.1 q
     exact Fv g f hf P Y S c x a m b ha hm hb0 hc hY hl hcmp
   by_cases r:Y.length=1
   · obtain⟨x,rfl⟩:=List.length_eq_one_iff.1 r
     exact Fk g f hf P X S c x a m b ha hm (by omega) hb0 hc hX hl hcmp
   exact GG g f hf P X Y S c a m b ha hm hb0 hc (by omega) (by omega) hX hY hl hcmp fun P X' Y' S c a m b k1 k2 k3 k4 k5 k6 k7 k8 k9 k10 k11=>
    yQ g f hf n P X' Y' S c a m b (by omega) k1 k2 k3 k4 k5 k6 k8 k9 k10 fun p q hp hq=>hcmp p q (k11 p hp) (k11 q hq)
end Go.Proofs.YtafhoijegjmdcaaGreatDoor
