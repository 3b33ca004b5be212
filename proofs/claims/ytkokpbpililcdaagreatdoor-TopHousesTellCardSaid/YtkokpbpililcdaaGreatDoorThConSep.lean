/- TopHousesTell is proved: for every input the law returns true, and its argument reads afterwards as it read before. Conditions: those of the given row alone. -/
import Derived.Test.YtkokpbpililcdaaGreatDoorThConQua
import Derived.Test.YtkokpbpililcdaaGreatDoorThConSex
import Derived.Test.YtkokpbpililcdaaGreatDoorThConTwo
import Derived.Test.YtkokpbpililcdaaGreatDoorThConOne
import Derived.Test.YtkokpbpililcdaaGreatDoorThConTri
set_option linter.unusedVariables false
set_option linter.unusedSimpArgs false
set_option maxRecDepth 20000
namespace Go.Proofs.YtkokpbpililcdaaGreatDoor
open Go Go.Eng
def As:OL:= [(0,[]),(1,[]),(2,[]),(3,[]),(4,rg 4),(5,rg 4),(6,[]),(7,rg 7),(12,rg 8),(8,[12]),(9,[12]),(10,[12]),(11,[12,10]),(13,[11]),(14,[])]
def AC:OL:= [(0,[]),(1,[]),(2,[]),(3,[]),(4,rg 4),(5,rg 4),(6,rg 6),(7,rg 6),(8,rg 4),(9,[]),(11,rg 10),(12,rg 10),(10,[11,12]),(13,[]),(14,[]),(15,[]),(16,[])]
def oG:OL:= [(0,[]),(1,[]),(2,[]),(3,[]),(4,rg 4),(5,rg 4),(6,rg 4),(7,rg 4),(8,rg 8),(9,rg 8),(10,rg 8),(11,rg 8),(12,rg 12),(13,rg 12),(14,rg 12),(15,rg 12),(16,[4,5,6,7,8,9,10,11,12,13,14,15]),(17,[8,9,10,11,12,13,14,15]),(18,[12,13,14,15]),(19,[])]
def nZ:OL:= [(0,[]),(1,[0]),(2,[0,1]),(3,[0,1,2]),(4,[0,1,2]),(5,[0,1,2]),(6,[0,1,2]),(7,[0,1]),(8,rg 8),(9,rg 9),(10,rg 10),(11,rg 11),(12,rg 11),(13,rg 11),(14,rg 11),(15,rg 15),(16,rg 15),(17,rg 15),(18,rg 15),(19,rg 9),(24,rg 20),(20,[24]),(21,[24]),(22,[24]),(23,[24,22]),(25,[23]),(26,[])]
def nP:OL:= [(0,[]),(2,[0]),(3,[0]),(14,[0,2,3]),(15,[0,2,3,14]),(17,[0,2,3,14,15]),(18,[0,2,3,14,15]),(19,[0,2,3,14,15]),(20,[0,2,3,14,15]),(1,[2,3,14,15,17,18,19,20]),(4,[14,15,17,18,19,20]),(5,[14,15,17,18,19,20]),(6,[14,15,17,18,19,20]),(7,[14,15,17,18,19,20]),(8,[14,15,17,18,19,20]),(9,[14,15,17,18,19,20,5,6,7,8]),(10,[14,15,17,18,19,20]),(11,[14,15,17,18,19,20]),(12,[14,15,17,18,19,20]),(13,[14,15,17,18,19,20]),(16,[17,18,19,20]),(21,[]),(22,[]),(23,[]),(24,[]),(25,[]),(26,[])]
def mE:OL:= [(0,[]),(1,[]),(2,[]),(3,[]),(4,rg 4),(5,rg 5),(6,[])]
abbrev FM (h:eH)(vm:Mp (List UInt8))(sm:Mp Bool)(s:dw)(clock:Nat)(kb:List (List DV×Nat)):List (Nat×aY):=
 [(1000001,Mb h),(1000002,eY false [.str []] pT vm),(1000003,eY false [.bool false] HH sm),(1000004,eY true (kE oM) kE s.sts),(1000005,HE s.log),(1000006,GB s.ats),(1000007,eY true (lS lO) lS s.bks),(1000008,.mapB false true [.str] (eK none) (fun K=>s.his.has (cf K)) (fun K=>eK (s.his.val (cf K))) clock kb),(1000010,eY false [.int .i64 0] ED s.paid),(1000011,JN s.ref)]
set_option maxHeartbeats 2000000 in
theorem NO (h:eH)(vm:Mp (List UInt8))(sm:Mp Bool)(s:dw)(x:cJ)(clock:Nat)(kb:List (List DV×Nat)):ai Tryz.prog 240 [.ptr 1000001 0,.agg ((iy x).map .d)] (FM h vm sm s clock kb) (fun y r=>y= .d (.int .i64 (g8 s x))∧r=FM h vm sm s clock kb):=by
 refine ae hT (C:= []) Tryz.func240 rfl Tryz.call240 rfl rfl rfl ?_;conv=>whnf
 repeat' (first|(refine aw (LZ _ x) ⟨lr,lr,trivial⟩ rfl ?_;conv=>whnf)|(refine ac (fC _ _) rfl rfl ?_;rotate_right;conv=>whnf)|((first|refine And.intro (rfl:aK _=some (kE oM)) ?_|refine And.intro (rfl:aK _=some [DV.bool false]) ?_|refine aw (gp [_,_] (by simp)) ⟨aj (by rfl) (by rfl),trivial⟩ rfl ?_|(refine aa ?_ ?_<;>intro hb<;>try simp only[az]at hb)|refine aq hT 1 As ?_|refine aq hT 2 AC ?_|omega|refine aA ?_|decide|assumption)<;>conv=>whnf))
 refine .ret _ ?_;conv=>whnf
 exact⟨FM h vm sm s clock kb,⟨rfl,rfl⟩,rr,rr,rr,rr,rr,rr,rr,rr,rr,rr,trivial⟩
def kH (at0:Int)(t:lU):di:=lb (t.texts.getD 0 []) (t.texts.getD 1 []) at0 (t.nums.getD 0 0) (t.texts.getD 2 []) ⟨at0,t.texts.getD 3 [],t.nums.getD 1 0,t.nums.getD 2 0⟩
def mq (at0:Int)(t:lU):cJ:=⟨at0,t.texts.getD 2 [],t.texts.getD 3 [],2,[]⟩
def Ay (vm:Mp (List UInt8))(sm:Mp Bool)(s:dw)(at0:Int)(t:lU):Int:=
 if bN (kH at0 t)≠0 then bN (kH at0 t)else al [if s.his.has (t.texts.getD 0 [])then 6 else 0,if(!vm.has (t.texts.getD 2 [])|| !sm.val (t.texts.getD 3 []))then 8 else 0,g8 s (mq at0 t),0]
def s8 (vm:Mp (List UInt8))(sm:Mp Bool)(s:dw)(at0:Int)(t:lU):dw:=if Ay vm sm s at0 t=0 then{gD s (mq at0 t)with his:=s.his.put (t.texts.getD 0 []) (some (kH at0 t)),bks:=s.bks.del (t.texts.getD 0 []) lO}else s
set_option maxHeartbeats 4000000 in
theorem Q7 (h:eH)(vm:Mp (List UInt8))(sm:Mp Bool)(s:dw)(hl:s.log.length≤2^20)(at0:Int)(t:lU)(h1:4≤t.texts.length)(h2:3≤t.nums.length)(h3:∀j,(t.texts.getD j []).length≤2^40)(hf:NE s.his.has):
 ai Tryz.prog 196 [.ptr 1000001 0,.d (.int .i64 at0),.agg ((Bh t).map .d)] (jf h vm sm s) (fun y r=>y= .d (.int .i64 (Ay vm sm s at0 t))∧r=cL h vm sm (s8 vm sm s at0 t)):=by
 have c1:=LR (t.texts.getD 0 []) (t.texts.getD 1 []) at0 (t.nums.getD 0 0) (t.texts.getD 2 []) ⟨at0,t.texts.getD 3 [],t.nums.getD 1 0,t.nums.getD 2 0⟩ (h3 0) (h3 1) (h3 2) (h3 3);have c2:=NO h vm sm s (mq at0 t);have c3:=GL h vm sm s (mq at0 t) hl
 change ai _ _ _ _ (fun y r=>y= .tup [.agg ((ji (if bN (kH at0 t)=0 then kH at0 t else iq)).map .d),.d (.int .i64 (bN (kH at0 t)))]∧r= [])at c1
 have hE:Ay vm sm s at0 t=if bN (kH at0 t)≠0 then bN (kH at0 t)else al [if s.his.has (t.texts.getD 0 [])then 6 else 0,if(!vm.has (t.texts.getD 2 [])|| !sm.val (t.texts.getD 3 []))then 8 else 0,g8 s (mq at0 t),0]:=rfl;generalize g8 s (mq at0 t)=C at c2 hE;have hcn:∀clock kb,KB [.str] (fun K=>s.his.has (cf K)) clock kb→kb.length<500:=fun clock kb hk=>hf.kb hk
 by_cases q:bN (kH at0 t)=0
 · rw [if_pos q,q]at c1;rw[if_neg (fun c=>c q)]at hE;rcases hv:s.his.val (t.texts.getD 0 [])with _|g
   · skip
     refine ae hT (C:= []) Tryz.func196 rfl Tryz.call196 rfl rfl rfl ?_;conv=>whnf
     repeat' (first|(refine oP (id:=8) 1000008 rfl ?_;intro clock kb hKB;have hk5:=hcn clock kb hKB;have hk6:¬ (500:Int)≤(kb.length:Int):=(by omega);conv=>whnf)|(refine ac (c1) rfl rfl ?_;rotate_right;conv=>whnf)|((first|refine dQ.look (c2 clock kb) MI rfl ⟨lr,lr,trivial⟩ ⟨⟨_,rfl,rfl⟩,⟨_,rfl,rfl⟩,⟨_,rfl,rfl⟩,⟨_,rfl,rfl⟩,⟨_,rfl,rfl⟩,⟨_,rfl,rfl⟩,⟨_,rfl,rfl⟩,⟨_,rfl,rfl⟩,⟨_,rfl,rfl⟩,⟨_,rfl,rfl⟩,trivial⟩ rfl rfl rfl ?_|(refine dQ.of (c3) Ib rfl ⟨lr,lr,trivial⟩ ⟨rr,rr,rr,rr,rr,rr,rr,fP fun _ _=>⟨rfl,rfl⟩,rr,rr,trivial⟩ rfl rfl ?_;rintro y rout ⟨rfl,rfl⟩;refine⟨rfl,?_⟩))<;>conv=>whnf)|(refine ac (fC _ _) rfl rfl ?_;rotate_right;conv=>whnf)|((first|(refine And.intro (rfl:aK _=some (eK none)) ?_;refine dW (row':=eK none) (congrArg eK hv) ?_)|refine And.intro (rfl:aK _=some (kE oM)) ?_|refine And.intro (rfl:aK _=some [.bool false]) ?_|refine And.intro (rfl:aK _=some (pT [])) ?_|refine And.intro (rfl:aK _=some [.str []]) ?_|refine And.intro (rfl:aK _=some (lS lO)) ?_|refine And.intro (rfl:aK _=some (eK none)) ?_|refine And.intro (rfl:aK _=some [.int .i64 0]) ?_|refine aw (gp [_,_,_,_] (by simp)) ⟨aj (by rfl) (by rfl),trivial⟩ rfl ?_|(refine aa ?_ ?_<;>intro hb<;>try simp only[az]at hb)|refine aq hT 1 oG ?_|refine aq hT 2 nZ ?_|refine aq hT 8 nP ?_|refine aq hT 12 mE ?_|omega|refine aA ?_|decide|assumption)<;>conv=>whnf))
     all_goals first
      | (have hS:s8 vm sm s at0 t=(s):=by
          (try clear hKB);clear c1 c2 c3 hcn hf h3;(try clear hv)
          unfold s8;rw[hE]
          (try simp only[cf,show Int.toNat 0=0 from rfl,show Int.toNat 1=1 from rfl,show Int.toNat 2=2 from rfl,show Int.toNat 3=3 from rfl]at*);first|(simp_all [al];done)|(simp_all [al];grind)|grind [al]
         rw[hS];refine .ent _ _ (af (ts:= [(6,.d (.int .i64 (Ay vm sm s at0 t)))]) (rs:=cL h vm sm (s)) ul rfl rfl ⟨ap (by(try clear hKB);clear c1 c2 c3 hcn hf h3;(try clear hv);first|(rw[hE];done)|(rw[hE];(try simp only[cf,show Int.toNat 0=0 from rfl,show Int.toNat 1=1 from rfl,show Int.toNat 2=2 from rfl,show Int.toNat 3=3 from rfl]at*);first|(simp_all [al];done)|(simp_all [al];grind)|grind [al])),trivial⟩ ⟨rr,rr,rr,rr,rr,rr,rr,fP fun _ _=>⟨rfl,rfl⟩,rr,rr,trivial⟩) ?_;refine .ret _ ?_;conv=>whnf
         exact⟨_,⟨rfl,rfl⟩,rr,rr,rr,rr,rr,rr,rr,rr,rr,rr,trivial⟩)
      | (have hS:s8 vm sm s at0 t=({gD s (mq at0 t)with his:=s.his.put (t.texts.getD 0 []) (some (kH at0 t)),bks:=s.bks.del (t.texts.getD 0 []) lO}):=by
          (try clear hKB);clear c1 c2 c3 hcn hf h3;(try clear hv)
          unfold s8;rw[hE]
          (try simp only[cf,show Int.toNat 0=0 from rfl,show Int.toNat 1=1 from rfl,show Int.toNat 2=2 from rfl,show Int.toNat 3=3 from rfl]at*);first|(simp_all [al];done)|(simp_all [al];grind)|grind [al]
         rw[hS];refine .ent _ _ (af (ts:= [(6,.d (.int .i64 (Ay vm sm s at0 t)))]) (rs:=cL h vm sm ({gD s (mq at0 t)with his:=s.his.put (t.texts.getD 0 []) (some (kH at0 t)),bks:=s.bks.del (t.texts.getD 0 []) lO})) MH rfl rfl ⟨ap (by(try clear hKB);clear c1 c2 c3 hcn hf h3;(try clear hv);first|(rw[hE];done)|(rw[hE];(try simp only[cf,show Int.toNat 0=0 from rfl,show Int.toNat 1=1 from rfl,show Int.toNat 2=2 from rfl,show Int.toNat 3=3 from rfl]at*);first|(simp_all [al];done)|(simp_all [al];grind)|grind [al])),trivial⟩ ⟨rr,rr,rr,rr,rr,rr,wP,fq (v:=some (kH at0 t)),rr,rr,trivial⟩) ?_;refine .ret _ ?_;conv=>whnf
         exact⟨_,⟨rfl,rfl⟩,rr,rr,rr,rr,rr,rr,rr,rr,rr,rr,trivial⟩)
   · skip
     refine ae hT (C:= []) Tryz.func196 rfl Tryz.call196 rfl rfl rfl ?_;conv=>whnf
     repeat' (first|(refine oP (id:=8) 1000008 rfl ?_;intro clock kb hKB;have hk5:=hcn clock kb hKB;have hk6:¬ (500:Int)≤(kb.length:Int):=(by omega);conv=>whnf)|(refine ac (c1) rfl rfl ?_;rotate_right;conv=>whnf)|((first|refine dQ.look (c2 clock kb) MI rfl ⟨lr,lr,trivial⟩ ⟨⟨_,rfl,rfl⟩,⟨_,rfl,rfl⟩,⟨_,rfl,rfl⟩,⟨_,rfl,rfl⟩,⟨_,rfl,rfl⟩,⟨_,rfl,rfl⟩,⟨_,rfl,rfl⟩,⟨_,rfl,rfl⟩,⟨_,rfl,rfl⟩,⟨_,rfl,rfl⟩,trivial⟩ rfl rfl rfl ?_|(refine dQ.of (c3) Ib rfl ⟨lr,lr,trivial⟩ ⟨rr,rr,rr,rr,rr,rr,rr,fP fun _ _=>⟨rfl,rfl⟩,rr,rr,trivial⟩ rfl rfl ?_;rintro y rout ⟨rfl,rfl⟩;refine⟨rfl,?_⟩))<;>conv=>whnf)|(refine ac (fC _ _) rfl rfl ?_;rotate_right;conv=>whnf)|((first|(refine And.intro (rfl:aK _=some (eK none)) ?_;refine dW (row':=ji g) (congrArg eK hv) ?_)|refine And.intro (rfl:aK _=some (kE oM)) ?_|refine And.intro (rfl:aK _=some [.bool false]) ?_|refine And.intro (rfl:aK _=some (pT [])) ?_|refine And.intro (rfl:aK _=some [.str []]) ?_|refine And.intro (rfl:aK _=some (lS lO)) ?_|refine And.intro (rfl:aK _=some (eK none)) ?_|refine And.intro (rfl:aK _=some [.int .i64 0]) ?_|refine aw (gp [_,_,_,_] (by simp)) ⟨aj (by rfl) (by rfl),trivial⟩ rfl ?_|(refine aa ?_ ?_<;>intro hb<;>try simp only[az]at hb)|refine aq hT 1 oG ?_|refine aq hT 2 nZ ?_|refine aq hT 8 nP ?_|refine aq hT 12 mE ?_|omega|refine aA ?_|decide|assumption)<;>conv=>whnf))
     all_goals first
      | (have hS:s8 vm sm s at0 t=(s):=by
          (try clear hKB);clear c1 c2 c3 hcn hf h3;(try clear hv)
          unfold s8;rw[hE]
          (try simp only[cf,show Int.toNat 0=0 from rfl,show Int.toNat 1=1 from rfl,show Int.toNat 2=2 from rfl,show Int.toNat 3=3 from rfl]at*);first|(simp_all [al];done)|(simp_all [al];grind)|grind [al]
         rw[hS];refine .ent _ _ (af (ts:= [(6,.d (.int .i64 (Ay vm sm s at0 t)))]) (rs:=cL h vm sm (s)) ul rfl rfl ⟨ap (by(try clear hKB);clear c1 c2 c3 hcn hf h3;(try clear hv);first|(rw[hE];done)|(rw[hE];(try simp only[cf,show Int.toNat 0=0 from rfl,show Int.toNat 1=1 from rfl,show Int.toNat 2=2 from rfl,show Int.toNat 3=3 from rfl]at*);first|(simp_all [al];done)|(simp_all [al];grind)|grind [al])),trivial⟩ ⟨rr,rr,rr,rr,rr,rr,rr,fP fun _ _=>⟨rfl,rfl⟩,rr,rr,trivial⟩) ?_;refine .ret _ ?_;conv=>whnf
         exact⟨_,⟨rfl,rfl⟩,rr,rr,rr,rr,rr,rr,rr,rr,rr,rr,trivial⟩)
      | (have hS:s8 vm sm s at0 t=({gD s (mq at0 t)with his:=s.his.put (t.texts.getD 0 []) (some (kH at0 t)),bks:=s.bks.del (t.texts.getD 0 []) lO}):=by
          (try clear hKB);clear c1 c2 c3 hcn hf h3;(try clear hv)
          unfold s8;rw[hE]
          (try simp only[cf,show Int.toNat 0=0 from rfl,show Int.toNat 1=1 from rfl,show Int.toNat 2=2 from rfl,show Int.toNat 3=3 from rfl]at*);first|(simp_all [al];done)|(simp_all [al];grind)|grind [al]
         rw[hS];refine .ent _ _ (af (ts:= [(6,.d (.int .i64 (Ay vm sm s at0 t)))]) (rs:=cL h vm sm ({gD s (mq at0 t)with his:=s.his.put (t.texts.getD 0 []) (some (kH at0 t)),bks:=s.bks.del (t.texts.getD 0 []) lO})) MH rfl rfl ⟨ap (by(try clear hKB);clear c1 c2 c3 hcn hf h3;(try clear hv);first|(rw[hE];done)|(rw[hE];(try simp only[cf,show Int.toNat 0=0 from rfl,show Int.toNat 1=1 from rfl,show Int.toNat 2=2 from rfl,show Int.toNat 3=3 from rfl]at*);first|(simp_all [al];done)|(simp_all [al];grind)|grind [al])),trivial⟩ ⟨rr,rr,rr,rr,rr,rr,wP,fq (v:=some (kH at0 t)),rr,rr,trivial⟩) ?_;refine .ret _ ?_;conv=>whnf
         exact⟨_,⟨rfl,rfl⟩,rr,rr,rr,rr,rr,rr,rr,rr,rr,rr,trivial⟩)
 · rw[if_neg q]at c1;rw[if_pos q]at hE;generalize bN (kH at0 t)=X at c1 hE q;refine ae hT (C:= []) Tryz.func196 rfl Tryz.call196 rfl rfl rfl ?_;conv=>whnf
   repeat' (first|(refine ac (c1) rfl rfl ?_;rotate_right;conv=>whnf)|((first|(refine aa ?_ ?_<;>intro hb<;>try simp only[az]at hb)|refine aq hT 1 oG ?_|refine aq hT 2 nZ ?_|refine aq hT 8 nP ?_|refine aq hT 12 mE ?_|omega|refine aA ?_|decide|assumption)<;>conv=>whnf))
   all_goals first
    |(exfalso;omega)
    | (have hS:s8 vm sm s at0 t=(s):=by
        (try clear hKB);clear c1 c2 c3 hcn hf h3;(try clear hv)
        unfold s8;rw[hE]
        (try simp only[cf,show Int.toNat 0=0 from rfl,show Int.toNat 1=1 from rfl,show Int.toNat 2=2 from rfl,show Int.toNat 3=3 from rfl]at*);first|(simp_all [al];done)|(simp_all [al];grind)|grind [al]
       rw[hS];refine .ent _ _ (af (ts:= [(6,.d (.int .i64 (Ay vm sm s at0 t)))]) (rs:=cL h vm sm (s)) ul rfl rfl ⟨ap (by(try clear hKB);clear c1 c2 c3 hcn hf h3;(try clear hv);first|(rw[hE];done)|(rw[hE];(try simp only[cf,show Int.toNat 0=0 from rfl,show Int.toNat 1=1 from rfl,show Int.toNat 2=2 from rfl,show Int.toNat 3=3 from rfl]at*);first|(simp_all [al];done)|(simp_all [al];grind)|grind [al])),trivial⟩ ⟨rr,rr,rr,rr,rr,rr,rr,rr,rr,rr,trivial⟩) ?_;refine .ret _ ?_;conv=>whnf
       exact⟨_,⟨rfl,rfl⟩,rr,rr,rr,rr,rr,rr,rr,rr,rr,rr,trivial⟩)
def cD:OL:= [(0,[]),(1,[0]),(2,[0]),(3,[0]),(4,[0]),(5,[]),(6,[]),(7,[]),(8,[7]),(9,[8]),(10,[])]
def cH:OL:= [(0,[]),(1,[0]),(2,[0,1]),(3,[0,1,2]),(4,[0,1,2]),(5,[0,1,2]),(6,[0,1,2]),(7,rg 7),(8,rg 7),(9,rg 7),(10,rg 7),(11,[0]),(12,[]),(13,[]),(14,[]),(15,[14]),(16,[15]),(17,[])]
def cB:OL:= [(0,[]),(1,[]),(2,[]),(3,[]),(4,rg 4),(5,rg 4),(6,rg 4),(7,rg 4),(8,[4,5,6,7]),(9,[])]
def cz:OL:= [(0,[]),(1,[0]),(2,[0,1]),(3,[0,1]),(4,[0,1]),(5,[0,1]),(6,rg 6),(7,rg 6),(8,rg 6),(9,rg 6),(10,[]),(11,rg 11),(12,[])]
def cx:OL:= [(0,[]),(1,[0]),(2,[0,1]),(3,[0,1]),(4,[0,1]),(5,[0,1]),(6,rg 6),(7,rg 6),(8,rg 6),(9,rg 6),(10,[]),(11,rg 11),(12,[])]
def cG:OL:= [(0,[]),(1,[]),(2,[]),(3,[]),(4,rg 4),(5,rg 5),(6,[])]
def gq (g:di):List UInt8:=(g.legs.getD ((g.legs.length:Int) - 1).toNat dY).veh
def fW (at0:Int)(t:lU):oN:=⟨at0,(t.texts.getD 1 []),(t.nums.getD 0 0),(t.nums.getD 1 0)⟩
def ik (at0:Int)(t:lU):oN:=⟨at0,(t.texts.getD 1 []),(t.nums.getD 2 0),(t.nums.getD 3 0)⟩
def bo (g:di)(at0:Int)(t:lU):di:=if t.word= [101,120,116,101,110,100]then Aa g (t.nums.getD 0 0)else if t.word= [99,108,111,115,101]then Ad g (fW at0 t)else vM g (fW at0 t) (t.texts.getD 2 []) (ik at0 t)
def c7 (g:di)(at0:Int)(t:lU):List cJ:=if t.word= [101,120,116,101,110,100]then []else if t.word= [99,108,111,115,101]then [⟨at0,gq g,(t.texts.getD 1 []),3,[]⟩]else [⟨at0,gq g,(t.texts.getD 1 []),3,[]⟩,⟨at0,(t.texts.getD 2 []),(t.texts.getD 1 []),2,[]⟩]
def e8 (vm:Mp (List UInt8))(sm:Mp Bool)(t:lU):Bool:=if t.word= [101,120,116,101,110,100]then true else if t.word= [99,108,111,115,101]then sm.val (t.texts.getD 1 [])else(sm.val (t.texts.getD 1 [])&&vm.has (t.texts.getD 2 []))
def ny (s:dw)(l:List cJ):Int:=bf (fun i=>g8 s (l.getD i dn)) l.length
def cY (s:dw)(l:List cJ):dw:=l.foldl gD s
def D5 (vm:Mp (List UInt8))(sm:Mp Bool)(s:dw)(g:di)(at0:Int)(t:lU):Int:=
 if al [iu g (bo g at0 t),if(!e8 vm sm t)then 8 else 0]≠0 then al [iu g (bo g at0 t),if(!e8 vm sm t)then 8 else 0]else ny s (c7 g at0 t)
def lM (vm:Mp (List UInt8))(sm:Mp Bool)(s:dw)(at0:Int)(t:lU):Int:=if s.his.has (t.texts.getD 0 [])then D5 vm sm s ((s.his.val (t.texts.getD 0 [])).getD iq) at0 t else 8
def jU (vm:Mp (List UInt8))(sm:Mp Bool)(s:dw)(at0:Int)(t:lU):dw:=
 if lM vm sm s at0 t=0 then{cY s (c7 ((s.his.val (t.texts.getD 0 [])).getD iq) at0 t)with his:=(cY s (c7 ((s.his.val (t.texts.getD 0 [])).getD iq) at0 t)).his.put (t.texts.getD 0 []) (some (bo ((s.his.val (t.texts.getD 0 [])).getD iq) at0 t))}else s
theorem tO (s:dw)(l:List cJ):(cY s l).log=s.log++l:=by
 unfold cY
 induction l generalizing s with
 |nil=>simp
 |cons x l ih=>rw[List.foldl_cons,ih];simp[gD]
theorem qt (s:dw)(l:List cJ)(i:Nat)(hi:i<l.length):cY s (l.take (i+1))=gD (cY s (l.take i)) (l.getD i dn):=by
 unfold cY;rw[List.take_add_one,List.getElem?_eq_getElem hi,Option.toList_some,List.foldl_append,List.getD_eq_getElem?_getD,List.getElem?_eq_getElem hi];rfl
abbrev BN (h:eH):aY:=.cells 120 (Be h++ [.mp 1000002,.mp 1000003,.mp 1000004,.buf 60,.mp 1000006,.mp 1000007,.mp 1000008,.mp 1000010,.buf 1000011])
set_option maxHeartbeats 8000000 in
theorem Jg (h:eH)(vm:Mp (List UInt8))(sm:Mp Bool)(s:dw)(hl:s.log.length≤2^19)(at0:Int)(t:lU)(h1:1≤t.texts.length)(hx:t.word= [101,120,116,101,110,100]→1≤t.nums.length)(hc:t.word= [99,108,111,115,101]→2≤t.texts.length∧2≤t.nums.length)
 (hs:t.word≠ [101,120,116,101,110,100]→t.word≠ [99,108,111,115,101]→3≤t.texts.length∧4≤t.nums.length)(h3:∀j,(t.texts.getD j []).length≤2^40)(g:di)(hh:s.his.has (t.texts.getD 0 [])=true)(hv:s.his.val (t.texts.getD 0 [])=some g)(hg:CI g)(hg1:1≤g.legs.length)(hg2:g.legs.length<2^19):
 ai Tryz.prog 198 [.ptr 1000001 0,.d (.int .i64 at0),.agg ((Bh t).map .d)] (jf h vm sm s) (fun y r=>y= .d (.int .i64 (lM vm sm s at0 t))∧r=cL h vm sm (jU vm sm s at0 t)):=by
 have cX:=Pn g hg (t.nums.getD 0 0);have cC:=PM g hg (fW at0 t) (h3 1);have cE:=Pr g hg hg2 (fW at0 t) (h3 1) (t.texts.getD 2 []) (h3 2) (ik at0 t) (h3 1)
 by_cases w1:t.word= [101,120,116,101,110,100]
 · skip
   have hN:bo g at0 t=Aa g (t.nums.getD 0 0):=by unfold bo;rw[if_pos w1]
   have hEv:c7 g at0 t= []:=by unfold c7;rw[if_pos w1]
   have hKn:e8 vm sm t=true:=by unfold e8;rw[if_pos w1]
   have hx1:=hx w1
   by_cases hm:iu g (Aa g (t.nums.getD 0 0))=0
   · have hH:uK g (Aa g (t.nums.getD 0 0))=Aa g (t.nums.getD 0 0):=if_pos hm;rw[hH,hm]at cX;obtain⟨N,hNe⟩:∃N,N=Aa g (t.nums.getD 0 0):=⟨_,rfl⟩;rw[←hNe]at cX;obtain⟨EV,hEVe⟩:∃EV,EV=([]:List cJ):=⟨_,rfl⟩;have hEl:EV.length≤2:=by rw[hEVe];simp
     have hG0:e8 vm sm t=true→lM vm sm s at0 t=ny s EV:=fun kk=>by
      unfold lM D5;rw[if_pos hh,hv];show(if al [iu g (bo g at0 t),if(!e8 vm sm t)=true then 8 else 0]≠0 then al [iu g (bo g at0 t),if(!e8 vm sm t)=true then 8 else 0]else ny s (c7 g at0 t))=_;rw[hN,hm,kk,hEv,←hEVe];rw[if_neg (by simp[al])]
     refine ae hT (C:= []) Tryz.func198 rfl Tryz.call198 rfl rfl rfl ?_;conv=>whnf
     repeat' (first|((first|refine qJ cX ?_|refine qJ cC ?_|refine qJ cE ?_)<;>conv=>whnf)|(refine ac (fC _ _) rfl rfl ?_;rotate_right;conv=>whnf)|((first|(refine And.intro (rfl:aK _=some (eK none)) ?_;refine dW (row':=ji g) (congrArg eK hv) ?_)|refine And.intro (rfl:aK _=some (kE oM)) ?_|refine And.intro (rfl:aK _=some [.bool false]) ?_|refine And.intro (rfl:aK _=some (pT [])) ?_|refine And.intro (rfl:aK _=some [.str []]) ?_|refine And.intro (rfl:aK _=some (lS lO)) ?_|refine And.intro (rfl:aK _=some (eK none)) ?_|refine And.intro (rfl:aK _=some [.int .i64 0]) ?_|refine aw (gp [_,_] (by simp)) ⟨aj (by rfl) (by rfl),trivial⟩ rfl ?_|(refine aa ?_ ?_<;>intro hb<;>try simp only[az]at hb)|refine aq hT 19 cD ?_|refine aq hT 22 cH ?_|refine aq hT 11 cB ?_|refine aq hT 12 cz ?_|refine aq hT 13 cx ?_|refine aq hT 40 cG ?_|omega|refine aA ?_|decide|assumption)<;>conv=>whnf))
     all_goals try(exfalso;contradiction)
     all_goals first
      |(exfalso;have q:s.his.has (t.texts.getD 0 [])=false:=hb;rw[hh]at q;cases q)
      |(exfalso;clear cX cC cE;apply hb;simp[al];done)
      | (have hkf:(true)=false:=by
          clear cX cC cE
          cases kq:(true)with
          |false=>rfl
          | true=>
            exfalso;trivial
         have hE1:lM vm sm s at0 t=8:=by
          unfold lM D5;rw[if_pos hh,hv];show(if al [iu g (bo g at0 t),if(!e8 vm sm t)=true then 8 else 0]≠0 then al [iu g (bo g at0 t),if(!e8 vm sm t)=true then 8 else 0]else ny s (c7 g at0 t))=_;rw[hN,hm,hKn,hkf];simp[al]
         have hS1:jU vm sm s at0 t=s:=by unfold jU;rw[if_neg (by rw[hE1];decide)]
         rw[hE1,hS1];refine .ent _ _ (af (ts:= [(6,.d (.int .i64 8))]) (rs:=cL h vm sm s) ul rfl rfl ⟨ap (by clear cX cC cE;rfl),trivial⟩ ⟨rr,rr,rr,rr,rr,rr,rr,rr,rr,rr,trivial⟩) ?_;refine .ret _ ?_;conv=>whnf
         exact⟨_,⟨rfl,rfl⟩,rr,rr,rr,rr,rr,rr,rr,rr,rr,rr,trivial⟩)
      |skip
     have hG:=hG0 (hKn.trans rfl)
     refine ah hT (C:= []) (ι:=Nat) (fun i=>i≤EV.length∧∀j,j<i→g8 s (EV.getD j dn)=0)
      (fun i=>aI [(0,.ptr 1000001 0),(7,.d (.str (t.texts.getD 0 []))),(10,.ptr 10 0),(12,.d (xh EV)),(172,.d (xh EV)),(173,.d (.int .i64 EV.length)),(174,.d (.int .i64 i))] ((10,.cells 55 ((ji N).map .d))::jf h vm sm s))
      (fun i=>EV.length - i) 0 ⟨by omega,fun j hj=>by omega⟩ ?_ ?_
     · refine af MC rfl rfl ⟨lr,lr,lr,(by subst hEVe;exact aO),(by subst hEVe;exact aO),(by subst hEVe;exact lr),lr,trivial⟩ ⟨rr,rr,rr,rr,rr,rr,rr,rr,rr,rr,rr,trivial⟩
     rintro i ⟨p1,p2⟩;have e1:(i:Int).toNat=i:=Int.toNat_natCast i;conv=>whnf
     repeat' (first|((first|(refine cd (IA h vm sm s (EV.getD (i:Int).toNat dn)) MI ?_;rintro y rout ⟨rfl,rfl⟩;refine⟨rfl,?_⟩)|(refine And.intro (by unfold aS;omega) ?_)|(refine aa ?_ ?_<;>intro hb<;>try simp only[az]at hb)|refine aq hT 19 cD ?_|refine aq hT 22 cH ?_|refine aq hT 11 cB ?_|refine aq hT 12 cz ?_|refine aq hT 13 cx ?_|refine aq hT 40 cG ?_|omega|refine aA ?_|decide|assumption)<;>conv=>whnf))
     all_goals first
      |(exact⟨i+1,⟨by omega,aU p2 (by first|exact hb|simpa using hb)⟩,by omega,af MC rfl rfl ⟨lr,lr,lr,lr,lr,lr,lr,trivial⟩ ⟨rr,rr,rr,rr,rr,rr,rr,rr,rr,rr,rr,trivial⟩⟩)
      | (have hE1:lM vm sm s at0 t=g8 s (EV.getD i dn):=hG.trans (aX (f:=fun i=>g8 s (EV.getD i dn)) (by omega) p2 hb rfl)
         have hS1:jU vm sm s at0 t=s:=by unfold jU;rw[if_neg (by rw[hE1];exact hb)]
         rw[hE1,hS1];refine .ent _ _ (af (ts:= [(6,.d (.int .i64 (g8 s (EV.getD i dn))))]) (rs:=cL h vm sm s) ul rfl rfl ⟨lr,trivial⟩ ⟨rr,rr,rr,rr,rr,rr,rr,rr,rr,rr,trivial⟩) ?_;refine .ret _ ?_;conv=>whnf
         exact⟨_,⟨rfl,rfl⟩,rr,rr,rr,rr,rr,rr,rr,rr,rr,rr,trivial⟩)
      |skip
     have hz:ny s EV=0:=aF fun j hj=>p2 j (by omega)
     have hE0:lM vm sm s at0 t=0:=hG.trans hz
     have hS0:jU vm sm s at0 t={cY s EV with his:=(cY s EV).his.put (t.texts.getD 0 []) (some N)}:=by
      unfold jU;rw[if_pos hE0,hv];show({cY s (c7 g at0 t)with his:=(cY s (c7 g at0 t)).his.put (t.texts.getD 0 []) (some (bo g at0 t))}:dw)=_;rw[hEv,hN,←hEVe,←hNe]
     rw[hE0,hS0]
     refine ah hT (C:= []) (ι:=Nat) (fun i=>i≤EV.length)
      (fun i=>aI [(0,.ptr 1000001 0),(7,.d (.str (t.texts.getD 0 []))),(10,.ptr 10 0),(185,.d (xh EV)),(186,.d (.int .i64 EV.length)),(187,.d (.int .i64 i))] ((10,.cells 55 ((ji N).map .d)):: [(1000001,BN h),(1000002,eY false [.str []] pT vm),(1000003,eY false [.bool false] HH sm),(1000004,eY true (kE oM) kE (cY s (EV.take i)).sts),(60,HE (cY s (EV.take i)).log),(1000006,GB (cY s (EV.take i)).ats),(1000007,eY true (lS lO) lS (cY s (EV.take i)).bks),(1000008,eY true (eK none) eK (cY s (EV.take i)).his),(1000010,eY false [.int .i64 0] ED (cY s (EV.take i)).paid),(1000011,JN (cY s (EV.take i)).ref)]))
      (fun i=>EV.length - i) 0 (by omega) ?_ ?_
     · refine af P8 rfl rfl ⟨lr,lr,lr,lr,lr,lr,trivial⟩ ⟨rr,rr,rr,rr,rr,rr,rr,rr,rr,rr,rr,trivial⟩
     clear p1 p2 e1;rintro i p1;have e1:(i:Int).toNat=i:=Int.toNat_natCast i;conv=>whnf
     repeat' (first|((first|(refine cd (GL h vm sm (cY s (EV.take i)) (EV.getD (i:Int).toNat dn) (by rw[tO,List.length_append,List.length_take];omega)) KA ?_;rintro y rout ⟨rfl,rfl⟩;refine⟨rfl,?_⟩)|(refine And.intro (by unfold aS;omega) ?_)|(refine aa ?_ ?_<;>intro hb<;>try simp only[az]at hb)|refine aq hT 19 cD ?_|refine aq hT 22 cH ?_|refine aq hT 11 cB ?_|refine aq hT 12 cz ?_|refine aq hT 13 cx ?_|refine aq hT 40 cG ?_|omega|refine aA ?_|decide|assumption)<;>conv=>whnf))
     all_goals first
      | (refine⟨i+1,by omega,by omega,?_⟩
         have hT:=qt s EV i (by omega)
         dsimp only
         rw[hT]
         exact af KI rfl rfl ⟨lr,lr,lr,lr,lr,lr,trivial⟩ ⟨rr,rr,rr,rr,rr,rr,rr,rr,rr,rr,rr,trivial⟩)
      | (have hi:EV.take i=EV:=List.take_of_length_le (by omega)
         rw[hi];refine .ent _ _ (af (ts:= [(6,.d (.int .i64 0))]) (rs:=cL h vm sm ({cY s EV with his:=(cY s EV).his.put (t.texts.getD 0 []) (some N)})) MH rfl rfl ⟨lr,trivial⟩ ⟨rr,rr,rr,rr,rr,rr,rr,fq (v:=some N),rr,rr,trivial⟩) ?_;refine .ret _ ?_;conv=>whnf
         exact⟨_,⟨rfl,rfl⟩,rr,rr,rr,rr,rr,rr,rr,rr,rr,rr,trivial⟩)
   · have hH:uK g (Aa g (t.nums.getD 0 0))=iq:=if_neg hm
     have hE1:lM vm sm s at0 t=iu g (Aa g (t.nums.getD 0 0)):=by
      unfold lM D5;rw[if_pos hh,hv];show(if al [iu g (bo g at0 t),if(!e8 vm sm t)=true then 8 else 0]≠0 then al [iu g (bo g at0 t),if(!e8 vm sm t)=true then 8 else 0]else ny s (c7 g at0 t))=_;rw[hN];generalize iu g (Aa g (t.nums.getD 0 0))=X at hm ⊢;simp[al,hm]
     have hS1:jU vm sm s at0 t=s:=by unfold jU;rw[if_neg (by rw[hE1];exact hm)]
     rw[hE1,hS1];rw[hH]at cX;clear hE1 hS1 hH hN;generalize iu g (Aa g (t.nums.getD 0 0))=X at cX hm;refine ae hT (C:= []) Tryz.func198 rfl Tryz.call198 rfl rfl rfl ?_;conv=>whnf
     repeat' (first|((first|refine qJ cX ?_|refine qJ cC ?_|refine qJ cE ?_)<;>conv=>whnf)|(refine ac (fC _ _) rfl rfl ?_;rotate_right;conv=>whnf)|((first|(refine And.intro (rfl:aK _=some (eK none)) ?_;refine dW (row':=ji g) (congrArg eK hv) ?_)|refine And.intro (rfl:aK _=some (kE oM)) ?_|refine And.intro (rfl:aK _=some [.bool false]) ?_|refine And.intro (rfl:aK _=some (pT [])) ?_|refine And.intro (rfl:aK _=some [.str []]) ?_|refine And.intro (rfl:aK _=some (lS lO)) ?_|refine And.intro (rfl:aK _=some (eK none)) ?_|refine And.intro (rfl:aK _=some [.int .i64 0]) ?_|refine aw (gp [_,_] (by simp)) ⟨aj (by rfl) (by rfl),trivial⟩ rfl ?_|(refine aa ?_ ?_<;>intro hb<;>try simp only[az]at hb)|refine aq hT 19 cD ?_|refine aq hT 22 cH ?_|refine aq hT 11 cB ?_|refine aq hT 12 cz ?_|refine aq hT 13 cx ?_|refine aq hT 40 cG ?_|omega|refine aA ?_|decide|assumption)<;>conv=>whnf))
     all_goals try(exfalso;contradiction)
     all_goals first
      |(exfalso;have q:s.his.has (t.texts.getD 0 [])=false:=hb;rw[hh]at q;cases q)
      |(exfalso;clear cX cC cE;simp[al,hm]at hb;done)
      | (refine .ent _ _ (af (ts:= [(6,.d (.int .i64 X))]) (rs:=cL h vm sm s) ul rfl rfl ⟨ap (by simp[al,hm]),trivial⟩ ⟨rr,rr,rr,rr,rr,rr,rr,rr,rr,rr,trivial⟩) ?_
         refine .ret _ ?_;conv=>whnf
         exact⟨_,⟨rfl,rfl⟩,rr,rr,rr,rr,rr,rr,rr,rr,rr,rr,trivial⟩)
 by_cases w2:t.word= [99,108,111,115,101]
 · skip
   have hN:bo g at0 t=Ad g (fW at0 t):=by unfold bo;rw[if_neg w1,if_pos w2]
   have hEv:c7 g at0 t= [⟨at0,gq g,(t.texts.getD 1 []),3,[]⟩]:=by unfold c7;rw[if_neg w1,if_pos w2]
   have hKn:e8 vm sm t=sm.val (t.texts.getD 1 []):=by unfold e8;rw[if_neg w1,if_pos w2]
   obtain⟨hc1,hc2⟩:=hc w2
   by_cases hm:iu g (Ad g (fW at0 t))=0
   · have hH:uK g (Ad g (fW at0 t))=Ad g (fW at0 t):=if_pos hm;rw[hH,hm]at cC;obtain⟨N,hNe⟩:∃N,N=Ad g (fW at0 t):=⟨_,rfl⟩;rw[←hNe]at cC;obtain⟨EV,hEVe⟩:∃EV,EV=([⟨at0,gq g,(t.texts.getD 1 []),3,[]⟩]:List cJ):=⟨_,rfl⟩;have hEl:EV.length≤2:=by rw[hEVe];simp
     have hG0:e8 vm sm t=true→lM vm sm s at0 t=ny s EV:=fun kk=>by
      unfold lM D5;rw[if_pos hh,hv];show(if al [iu g (bo g at0 t),if(!e8 vm sm t)=true then 8 else 0]≠0 then al [iu g (bo g at0 t),if(!e8 vm sm t)=true then 8 else 0]else ny s (c7 g at0 t))=_;rw[hN,hm,kk,hEv,←hEVe];rw[if_neg (by simp[al])]
     refine ae hT (C:= []) Tryz.func198 rfl Tryz.call198 rfl rfl rfl ?_;conv=>whnf
     repeat' (first|((first|refine qJ cX ?_|refine qJ cC ?_|refine qJ cE ?_)<;>conv=>whnf)|(refine ac (fC _ _) rfl rfl ?_;rotate_right;conv=>whnf)|((first|(refine And.intro (rfl:aK _=some (eK none)) ?_;refine dW (row':=ji g) (congrArg eK hv) ?_)|refine And.intro (rfl:aK _=some (kE oM)) ?_|refine And.intro (rfl:aK _=some [.bool false]) ?_|refine And.intro (rfl:aK _=some (pT [])) ?_|refine And.intro (rfl:aK _=some [.str []]) ?_|refine And.intro (rfl:aK _=some (lS lO)) ?_|refine And.intro (rfl:aK _=some (eK none)) ?_|refine And.intro (rfl:aK _=some [.int .i64 0]) ?_|refine aw (gp [_,_] (by simp)) ⟨aj (by rfl) (by rfl),trivial⟩ rfl ?_|(refine aa ?_ ?_<;>intro hb<;>try simp only[az]at hb)|refine aq hT 19 cD ?_|refine aq hT 22 cH ?_|refine aq hT 11 cB ?_|refine aq hT 12 cz ?_|refine aq hT 13 cx ?_|refine aq hT 40 cG ?_|omega|refine aA ?_|decide|assumption)<;>conv=>whnf))
     all_goals try(exfalso;contradiction)
     all_goals first
      |(exfalso;have q:s.his.has (t.texts.getD 0 [])=false:=hb;rw[hh]at q;cases q)
      |(exfalso;clear cX cC cE;apply hb;simp[al];done)
      | (have hkf:(sm.val (t.texts.getD 1 []))=false:=by
          clear cX cC cE
          cases kq:(sm.val (t.texts.getD 1 []))with
          |false=>rfl
          | true=>
            exfalso;exact hb (by show al [0,if sm.val (t.texts.getD 1 [])=false then 8 else 0]=0;rw[kq];rfl)
         have hE1:lM vm sm s at0 t=8:=by
          unfold lM D5;rw[if_pos hh,hv];show(if al [iu g (bo g at0 t),if(!e8 vm sm t)=true then 8 else 0]≠0 then al [iu g (bo g at0 t),if(!e8 vm sm t)=true then 8 else 0]else ny s (c7 g at0 t))=_;rw[hN,hm,hKn,hkf];simp[al]
         have hS1:jU vm sm s at0 t=s:=by unfold jU;rw[if_neg (by rw[hE1];decide)]
         rw[hE1,hS1];refine .ent _ _ (af (ts:= [(6,.d (.int .i64 8))]) (rs:=cL h vm sm s) ul rfl rfl ⟨ap (by clear cX cC cE;show al [0,if(!sm.val (t.texts.getD 1 []))=true then 8 else 0]=8;rw[hkf];rfl),trivial⟩ ⟨rr,rr,rr,rr,rr,rr,rr,rr,rr,rr,trivial⟩) ?_;refine .ret _ ?_;conv=>whnf
         exact⟨_,⟨rfl,rfl⟩,rr,rr,rr,rr,rr,rr,rr,rr,rr,rr,trivial⟩)
      |skip
     have hG:=hG0 (hKn.trans (by cases kq:sm.val (t.texts.getD 1 [])with|true=>rfl|false=>exact absurd (show al [0,if sm.val (t.texts.getD 1 [])=false then 8 else 0]=0 from hb) (by rw[kq];decide)))
     refine ah hT (C:= []) (ι:=Nat) (fun i=>i≤EV.length∧∀j,j<i→g8 s (EV.getD j dn)=0)
      (fun i=>aI [(0,.ptr 1000001 0),(7,.d (.str (t.texts.getD 0 []))),(10,.ptr 10 0),(12,.d (xh EV)),(172,.d (xh EV)),(173,.d (.int .i64 EV.length)),(174,.d (.int .i64 i))] ((10,.cells 55 ((ji N).map .d))::jf h vm sm s))
      (fun i=>EV.length - i) 0 ⟨by omega,fun j hj=>by omega⟩ ?_ ?_
     · refine af MC rfl rfl ⟨lr,lr,lr,(by subst hEVe;exact aj rfl rfl),(by subst hEVe;exact aj rfl rfl),(by subst hEVe;exact lr),lr,trivial⟩ ⟨rr,rr,rr,rr,rr,rr,rr,rr,rr,rr,rr,trivial⟩
     rintro i ⟨p1,p2⟩;have e1:(i:Int).toNat=i:=Int.toNat_natCast i;conv=>whnf
     repeat' (first|((first|(refine cd (IA h vm sm s (EV.getD (i:Int).toNat dn)) MI ?_;rintro y rout ⟨rfl,rfl⟩;refine⟨rfl,?_⟩)|(refine And.intro (by unfold aS;omega) ?_)|(refine aa ?_ ?_<;>intro hb<;>try simp only[az]at hb)|refine aq hT 19 cD ?_|refine aq hT 22 cH ?_|refine aq hT 11 cB ?_|refine aq hT 12 cz ?_|refine aq hT 13 cx ?_|refine aq hT 40 cG ?_|omega|refine aA ?_|decide|assumption)<;>conv=>whnf))
     all_goals first
      |(exact⟨i+1,⟨by omega,aU p2 (by first|exact hb|simpa using hb)⟩,by omega,af MC rfl rfl ⟨lr,lr,lr,lr,lr,lr,lr,trivial⟩ ⟨rr,rr,rr,rr,rr,rr,rr,rr,rr,rr,rr,trivial⟩⟩)
      | (have hE1:lM vm sm s at0 t=g8 s (EV.getD i dn):=hG.trans (aX (f:=fun i=>g8 s (EV.getD i dn)) (by omega) p2 hb rfl)
         have hS1:jU vm sm s at0 t=s:=by unfold jU;rw[if_neg (by rw[hE1];exact hb)]
         rw[hE1,hS1];refine .ent _ _ (af (ts:= [(6,.d (.int .i64 (g8 s (EV.getD i dn))))]) (rs:=cL h vm sm s) ul rfl rfl ⟨lr,trivial⟩ ⟨rr,rr,rr,rr,rr,rr,rr,rr,rr,rr,trivial⟩) ?_;refine .ret _ ?_;conv=>whnf
         exact⟨_,⟨rfl,rfl⟩,rr,rr,rr,rr,rr,rr,rr,rr,rr,rr,trivial⟩)
      |skip
     have hz:ny s EV=0:=aF fun j hj=>p2 j (by omega)
     have hE0:lM vm sm s at0 t=0:=hG.trans hz
     have hS0:jU vm sm s at0 t={cY s EV with his:=(cY s EV).his.put (t.texts.getD 0 []) (some N)}:=by
      unfold jU;rw[if_pos hE0,hv];show({cY s (c7 g at0 t)with his:=(cY s (c7 g at0 t)).his.put (t.texts.getD 0 []) (some (bo g at0 t))}:dw)=_;rw[hEv,hN,←hEVe,←hNe]
     rw[hE0,hS0]
     refine ah hT (C:= []) (ι:=Nat) (fun i=>i≤EV.length)
      (fun i=>aI [(0,.ptr 1000001 0),(7,.d (.str (t.texts.getD 0 []))),(10,.ptr 10 0),(185,.d (xh EV)),(186,.d (.int .i64 EV.length)),(187,.d (.int .i64 i))] ((10,.cells 55 ((ji N).map .d)):: [(1000001,BN h),(1000002,eY false [.str []] pT vm),(1000003,eY false [.bool false] HH sm),(1000004,eY true (kE oM) kE (cY s (EV.take i)).sts),(60,HE (cY s (EV.take i)).log),(1000006,GB (cY s (EV.take i)).ats),(1000007,eY true (lS lO) lS (cY s (EV.take i)).bks),(1000008,eY true (eK none) eK (cY s (EV.take i)).his),(1000010,eY false [.int .i64 0] ED (cY s (EV.take i)).paid),(1000011,JN (cY s (EV.take i)).ref)]))
      (fun i=>EV.length - i) 0 (by omega) ?_ ?_
     · refine af P8 rfl rfl ⟨lr,lr,lr,lr,lr,lr,trivial⟩ ⟨rr,rr,rr,rr,rr,rr,rr,rr,rr,rr,rr,trivial⟩
     clear p1 p2 e1;rintro i p1;have e1:(i:Int).toNat=i:=Int.toNat_natCast i;conv=>whnf
     repeat' (first|((first|(refine cd (GL h vm sm (cY s (EV.take i)) (EV.getD (i:Int).toNat dn) (by rw[tO,List.length_append,List.length_take];omega)) KA ?_;rintro y rout ⟨rfl,rfl⟩;refine⟨rfl,?_⟩)|(refine And.intro (by unfold aS;omega) ?_)|(refine aa ?_ ?_<;>intro hb<;>try simp only[az]at hb)|refine aq hT 19 cD ?_|refine aq hT 22 cH ?_|refine aq hT 11 cB ?_|refine aq hT 12 cz ?_|refine aq hT 13 cx ?_|refine aq hT 40 cG ?_|omega|refine aA ?_|decide|assumption)<;>conv=>whnf))
     all_goals first
      | (refine⟨i+1,by omega,by omega,?_⟩
         have hT:=qt s EV i (by omega)
         dsimp only
         rw[hT]
         exact af KI rfl rfl ⟨lr,lr,lr,lr,lr,lr,trivial⟩ ⟨rr,rr,rr,rr,rr,rr,rr,rr,rr,rr,rr,trivial⟩)
      | (have hi:EV.take i=EV:=List.take_of_length_le (by omega)
         rw[hi];refine .ent _ _ (af (ts:= [(6,.d (.int .i64 0))]) (rs:=cL h vm sm ({cY s EV with his:=(cY s EV).his.put (t.texts.getD 0 []) (some N)})) MH rfl rfl ⟨lr,trivial⟩ ⟨rr,rr,rr,rr,rr,rr,rr,fq (v:=some N),rr,rr,trivial⟩) ?_;refine .ret _ ?_;conv=>whnf
         exact⟨_,⟨rfl,rfl⟩,rr,rr,rr,rr,rr,rr,rr,rr,rr,rr,trivial⟩)
   · have hH:uK g (Ad g (fW at0 t))=iq:=if_neg hm
     have hE1:lM vm sm s at0 t=iu g (Ad g (fW at0 t)):=by
      unfold lM D5;rw[if_pos hh,hv];show(if al [iu g (bo g at0 t),if(!e8 vm sm t)=true then 8 else 0]≠0 then al [iu g (bo g at0 t),if(!e8 vm sm t)=true then 8 else 0]else ny s (c7 g at0 t))=_;rw[hN];generalize iu g (Ad g (fW at0 t))=X at hm ⊢;simp[al,hm]
     have hS1:jU vm sm s at0 t=s:=by unfold jU;rw[if_neg (by rw[hE1];exact hm)]
     rw[hE1,hS1];rw[hH]at cC;clear hE1 hS1 hH hN;generalize iu g (Ad g (fW at0 t))=X at cC hm;refine ae hT (C:= []) Tryz.func198 rfl Tryz.call198 rfl rfl rfl ?_;conv=>whnf
     repeat' (first|((first|refine qJ cX ?_|refine qJ cC ?_|refine qJ cE ?_)<;>conv=>whnf)|(refine ac (fC _ _) rfl rfl ?_;rotate_right;conv=>whnf)|((first|(refine And.intro (rfl:aK _=some (eK none)) ?_;refine dW (row':=ji g) (congrArg eK hv) ?_)|refine And.intro (rfl:aK _=some (kE oM)) ?_|refine And.intro (rfl:aK _=some [.bool false]) ?_|refine And.intro (rfl:aK _=some (pT [])) ?_|refine And.intro (rfl:aK _=some [.str []]) ?_|refine And.intro (rfl:aK _=some (lS lO)) ?_|refine And.intro (rfl:aK _=some (eK none)) ?_|refine And.intro (rfl:aK _=some [.int .i64 0]) ?_|refine aw (gp [_,_] (by simp)) ⟨aj (by rfl) (by rfl),trivial⟩ rfl ?_|(refine aa ?_ ?_<;>intro hb<;>try simp only[az]at hb)|refine aq hT 19 cD ?_|refine aq hT 22 cH ?_|refine aq hT 11 cB ?_|refine aq hT 12 cz ?_|refine aq hT 13 cx ?_|refine aq hT 40 cG ?_|omega|refine aA ?_|decide|assumption)<;>conv=>whnf))
     all_goals try(exfalso;contradiction)
     all_goals first
      |(exfalso;have q:s.his.has (t.texts.getD 0 [])=false:=hb;rw[hh]at q;cases q)
      |(exfalso;clear cX cC cE;simp[al,hm]at hb;done)
      | (refine .ent _ _ (af (ts:= [(6,.d (.int .i64 X))]) (rs:=cL h vm sm s) ul rfl rfl ⟨ap (by simp[al,hm]),trivial⟩ ⟨rr,rr,rr,rr,rr,rr,rr,rr,rr,rr,trivial⟩) ?_
         refine .ret _ ?_;conv=>whnf
         exact⟨_,⟨rfl,rfl⟩,rr,rr,rr,rr,rr,rr,rr,rr,rr,rr,trivial⟩)
 · skip
   have hN:bo g at0 t=vM g (fW at0 t) (t.texts.getD 2 []) (ik at0 t):=by unfold bo;rw[if_neg w1,if_neg w2]
   have hEv:c7 g at0 t= [⟨at0,gq g,(t.texts.getD 1 []),3,[]⟩,⟨at0,(t.texts.getD 2 []),(t.texts.getD 1 []),2,[]⟩]:=by unfold c7;rw[if_neg w1,if_neg w2]
   have hKn:e8 vm sm t=(sm.val (t.texts.getD 1 [])&&vm.has (t.texts.getD 2 [])):=by unfold e8;rw[if_neg w1,if_neg w2]
   obtain⟨hs1,hs2⟩:=hs w1 w2
   by_cases hm:iu g (vM g (fW at0 t) (t.texts.getD 2 []) (ik at0 t))=0
   · have hH:uK g (vM g (fW at0 t) (t.texts.getD 2 []) (ik at0 t))=vM g (fW at0 t) (t.texts.getD 2 []) (ik at0 t):=if_pos hm;rw[hH,hm]at cE;obtain⟨N,hNe⟩:∃N,N=vM g (fW at0 t) (t.texts.getD 2 []) (ik at0 t):=⟨_,rfl⟩;rw[←hNe]at cE;obtain⟨EV,hEVe⟩:∃EV,EV=([⟨at0,gq g,(t.texts.getD 1 []),3,[]⟩,⟨at0,(t.texts.getD 2 []),(t.texts.getD 1 []),2,[]⟩]:List cJ):=⟨_,rfl⟩;have hEl:EV.length≤2:=by rw[hEVe];simp
     have hG0:e8 vm sm t=true→lM vm sm s at0 t=ny s EV:=fun kk=>by
      unfold lM D5;rw[if_pos hh,hv];show(if al [iu g (bo g at0 t),if(!e8 vm sm t)=true then 8 else 0]≠0 then al [iu g (bo g at0 t),if(!e8 vm sm t)=true then 8 else 0]else ny s (c7 g at0 t))=_;rw[hN,hm,kk,hEv,←hEVe];rw[if_neg (by simp[al])]
     refine ae hT (C:= []) Tryz.func198 rfl Tryz.call198 rfl rfl rfl ?_;conv=>whnf
     repeat' (first|((first|refine qJ cX ?_|refine qJ cC ?_|refine qJ cE ?_)<;>conv=>whnf)|(refine ac (fC _ _) rfl rfl ?_;rotate_right;conv=>whnf)|((first|(refine And.intro (rfl:aK _=some (eK none)) ?_;refine dW (row':=ji g) (congrArg eK hv) ?_)|refine And.intro (rfl:aK _=some (kE oM)) ?_|refine And.intro (rfl:aK _=some [.bool false]) ?_|refine And.intro (rfl:aK _=some (pT [])) ?_|refine And.intro (rfl:aK _=some [.str []]) ?_|refine And.intro (rfl:aK _=some (lS lO)) ?_|refine And.intro (rfl:aK _=some (eK none)) ?_|refine And.intro (rfl:aK _=some [.int .i64 0]) ?_|refine aw (gp [_,_] (by simp)) ⟨aj (by rfl) (by rfl),trivial⟩ rfl ?_|(refine aa ?_ ?_<;>intro hb<;>try simp only[az]at hb)|refine aq hT 19 cD ?_|refine aq hT 22 cH ?_|refine aq hT 11 cB ?_|refine aq hT 12 cz ?_|refine aq hT 13 cx ?_|refine aq hT 40 cG ?_|omega|refine aA ?_|decide|assumption)<;>conv=>whnf))
     all_goals try(exfalso;contradiction)
     all_goals first
      |(exfalso;have q:s.his.has (t.texts.getD 0 [])=false:=hb;rw[hh]at q;cases q)
      |(exfalso;clear cX cC cE;apply hb;simp[al];done)
      | (have hkf:((sm.val (t.texts.getD 1 [])&&vm.has (t.texts.getD 2 [])))=false:=by
          clear cX cC cE
          cases kq:((sm.val (t.texts.getD 1 [])&&vm.has (t.texts.getD 2 [])))with
          |false=>rfl
          | true=>
            exfalso
            (clear hc hs hx h3 hm hH;(try simp only[cf,show Int.toNat 1=1 from rfl,show Int.toNat 2=2 from rfl]at*);first|(simp_all [al];done)|grind [al])
         have hE1:lM vm sm s at0 t=8:=by
          unfold lM D5;rw[if_pos hh,hv];show(if al [iu g (bo g at0 t),if(!e8 vm sm t)=true then 8 else 0]≠0 then al [iu g (bo g at0 t),if(!e8 vm sm t)=true then 8 else 0]else ny s (c7 g at0 t))=_;rw[hN,hm,hKn,hkf];simp[al]
         have hS1:jU vm sm s at0 t=s:=by unfold jU;rw[if_neg (by rw[hE1];decide)]
         rw[hE1,hS1];refine .ent _ _ (af (ts:= [(6,.d (.int .i64 8))]) (rs:=cL h vm sm s) ul rfl rfl ⟨ap (by clear cX cC cE;clear hc hs hx h3 hm hH;(try simp only[cf,show Int.toNat 1=1 from rfl,show Int.toNat 2=2 from rfl]at*);first|(simp_all [al];done)|grind [al]),trivial⟩ ⟨rr,rr,rr,rr,rr,rr,rr,rr,rr,rr,trivial⟩) ?_;refine .ret _ ?_;conv=>whnf
         exact⟨_,⟨rfl,rfl⟩,rr,rr,rr,rr,rr,rr,rr,rr,rr,rr,trivial⟩)
      |skip
     have hG:=hG0 (hKn.trans (by clear hc hs hx h3 hm hH hG0 cX cC cE;(try simp only[cf,show Int.toNat 1=1 from rfl,show Int.toNat 2=2 from rfl]at*);first|(simp_all [al];done)|grind [al]))
     refine ah hT (C:= []) (ι:=Nat) (fun i=>i≤EV.length∧∀j,j<i→g8 s (EV.getD j dn)=0)
      (fun i=>aI [(0,.ptr 1000001 0),(7,.d (.str (t.texts.getD 0 []))),(10,.ptr 10 0),(12,.d (xh EV)),(172,.d (xh EV)),(173,.d (.int .i64 EV.length)),(174,.d (.int .i64 i))] ((10,.cells 55 ((ji N).map .d))::jf h vm sm s))
      (fun i=>EV.length - i) 0 ⟨by omega,fun j hj=>by omega⟩ ?_ ?_
     · refine af MC rfl rfl ⟨lr,lr,lr,(by subst hEVe;exact aj rfl rfl),(by subst hEVe;exact aj rfl rfl),(by subst hEVe;exact lr),lr,trivial⟩ ⟨rr,rr,rr,rr,rr,rr,rr,rr,rr,rr,rr,trivial⟩
     rintro i ⟨p1,p2⟩;have e1:(i:Int).toNat=i:=Int.toNat_natCast i;conv=>whnf
     repeat' (first|((first|(refine cd (IA h vm sm s (EV.getD (i:Int).toNat dn)) MI ?_;rintro y rout ⟨rfl,rfl⟩;refine⟨rfl,?_⟩)|(refine And.intro (by unfold aS;omega) ?_)|(refine aa ?_ ?_<;>intro hb<;>try simp only[az]at hb)|refine aq hT 19 cD ?_|refine aq hT 22 cH ?_|refine aq hT 11 cB ?_|refine aq hT 12 cz ?_|refine aq hT 13 cx ?_|refine aq hT 40 cG ?_|omega|refine aA ?_|decide|assumption)<;>conv=>whnf))
     all_goals first
      |(exact⟨i+1,⟨by omega,aU p2 (by first|exact hb|simpa using hb)⟩,by omega,af MC rfl rfl ⟨lr,lr,lr,lr,lr,lr,lr,trivial⟩ ⟨rr,rr,rr,rr,rr,rr,rr,rr,rr,rr,rr,trivial⟩⟩)
      | (have hE1:lM vm sm s at0 t=g8 s (EV.getD i dn):=hG.trans (aX (f:=fun i=>g8 s (EV.getD i dn)) (by omega) p2 hb rfl)
         have hS1:jU vm sm s at0 t=s:=by unfold jU;rw[if_neg (by rw[hE1];exact hb)]
         rw[hE1,hS1];refine .ent _ _ (af (ts:= [(6,.d (.int .i64 (g8 s (EV.getD i dn))))]) (rs:=cL h vm sm s) ul rfl rfl ⟨lr,trivial⟩ ⟨rr,rr,rr,rr,rr,rr,rr,rr,rr,rr,trivial⟩) ?_;refine .ret _ ?_;conv=>whnf
         exact⟨_,⟨rfl,rfl⟩,rr,rr,rr,rr,rr,rr,rr,rr,rr,rr,trivial⟩)
      |skip
     have hz:ny s EV=0:=aF fun j hj=>p2 j (by omega)
     have hE0:lM vm sm s at0 t=0:=hG.trans hz
     have hS0:jU vm sm s at0 t={cY s EV with his:=(cY s EV).his.put (t.texts.getD 0 []) (some N)}:=by
      unfold jU;rw[if_pos hE0,hv];show({cY s (c7 g at0 t)with his:=(cY s (c7 g at0 t)).his.put (t.texts.getD 0 []) (some (bo g at0 t))}:dw)=_;rw[hEv,hN,←hEVe,←hNe]
     rw[hE0,hS0]
     refine ah hT (C:= []) (ι:=Nat) (fun i=>i≤EV.length)
      (fun i=>aI [(0,.ptr 1000001 0),(7,.d (.str (t.texts.getD 0 []))),(10,.ptr 10 0),(185,.d (xh EV)),(186,.d (.int .i64 EV.length)),(187,.d (.int .i64 i))] ((10,.cells 55 ((ji N).map .d)):: [(1000001,BN h),(1000002,eY false [.str []] pT vm),(1000003,eY false [.bool false] HH sm),(1000004,eY true (kE oM) kE (cY s (EV.take i)).sts),(60,HE (cY s (EV.take i)).log),(1000006,GB (cY s (EV.take i)).ats),(1000007,eY true (lS lO) lS (cY s (EV.take i)).bks),(1000008,eY true (eK none) eK (cY s (EV.take i)).his),(1000010,eY false [.int .i64 0] ED (cY s (EV.take i)).paid),(1000011,JN (cY s (EV.take i)).ref)]))
      (fun i=>EV.length - i) 0 (by omega) ?_ ?_
     · refine af P8 rfl rfl ⟨lr,lr,lr,lr,lr,lr,trivial⟩ ⟨rr,rr,rr,rr,rr,rr,rr,rr,rr,rr,rr,trivial⟩
     clear p1 p2 e1;rintro i p1;have e1:(i:Int).toNat=i:=Int.toNat_natCast i;conv=>whnf
     repeat' (first|((first|(refine cd (GL h vm sm (cY s (EV.take i)) (EV.getD (i:Int).toNat dn) (by rw[tO,List.length_append,List.length_take];omega)) KA ?_;rintro y rout ⟨rfl,rfl⟩;refine⟨rfl,?_⟩)|(refine And.intro (by unfold aS;omega) ?_)|(refine aa ?_ ?_<;>intro hb<;>try simp only[az]at hb)|refine aq hT 19 cD ?_|refine aq hT 22 cH ?_|refine aq hT 11 cB ?_|refine aq hT 12 cz ?_|refine aq hT 13 cx ?_|refine aq hT 40 cG ?_|omega|refine aA ?_|decide|assumption)<;>conv=>whnf))
     all_goals first
      | (refine⟨i+1,by omega,by omega,?_⟩
         have hT:=qt s EV i (by omega)
         dsimp only
         rw[hT]
         exact af KI rfl rfl ⟨lr,lr,lr,lr,lr,lr,trivial⟩ ⟨rr,rr,rr,rr,rr,rr,rr,rr,rr,rr,rr,trivial⟩)
      | (have hi:EV.take i=EV:=List.take_of_length_le (by omega)
         rw[hi];refine .ent _ _ (af (ts:= [(6,.d (.int .i64 0))]) (rs:=cL h vm sm ({cY s EV with his:=(cY s EV).his.put (t.texts.getD 0 []) (some N)})) MH rfl rfl ⟨lr,trivial⟩ ⟨rr,rr,rr,rr,rr,rr,rr,fq (v:=some N),rr,rr,trivial⟩) ?_;refine .ret _ ?_;conv=>whnf
         exact⟨_,⟨rfl,rfl⟩,rr,rr,rr,rr,rr,rr,rr,rr,rr,rr,trivial⟩)
   · have hH:uK g (vM g (fW at0 t) (t.texts.getD 2 []) (ik at0 t))=iq:=if_neg hm
     have hE1:lM vm sm s at0 t=iu g (vM g (fW at0 t) (t.texts.getD 2 []) (ik at0 t)):=by
      unfold lM D5;rw[if_pos hh,hv];show(if al [iu g (bo g at0 t),if(!e8 vm sm t)=true then 8 else 0]≠0 then al [iu g (bo g at0 t),if(!e8 vm sm t)=true then 8 else 0]else ny s (c7 g at0 t))=_;rw[hN];generalize iu g (vM g (fW at0 t) (t.texts.getD 2 []) (ik at0 t))=X at hm ⊢;simp[al,hm]
     have hS1:jU vm sm s at0 t=s:=by unfold jU;rw[if_neg (by rw[hE1];exact hm)]
     rw[hE1,hS1];rw[hH]at cE;clear hE1 hS1 hH hN;generalize iu g (vM g (fW at0 t) (t.texts.getD 2 []) (ik at0 t))=X at cE hm;refine ae hT (C:= []) Tryz.func198 rfl Tryz.call198 rfl rfl rfl ?_;conv=>whnf
     repeat' (first|((first|refine qJ cX ?_|refine qJ cC ?_|refine qJ cE ?_)<;>conv=>whnf)|(refine ac (fC _ _) rfl rfl ?_;rotate_right;conv=>whnf)|((first|(refine And.intro (rfl:aK _=some (eK none)) ?_;refine dW (row':=ji g) (congrArg eK hv) ?_)|refine And.intro (rfl:aK _=some (kE oM)) ?_|refine And.intro (rfl:aK _=some [.bool false]) ?_|refine And.intro (rfl:aK _=some (pT [])) ?_|refine And.intro (rfl:aK _=some [.str []]) ?_|refine And.intro (rfl:aK _=some (lS lO)) ?_|refine And.intro (rfl:aK _=some (eK none)) ?_|refine And.intro (rfl:aK _=some [.int .i64 0]) ?_|refine aw (gp [_,_] (by simp)) ⟨aj (by rfl) (by rfl),trivial⟩ rfl ?_|(refine aa ?_ ?_<;>intro hb<;>try simp only[az]at hb)|refine aq hT 19 cD ?_|refine aq hT 22 cH ?_|refine aq hT 11 cB ?_|refine aq hT 12 cz ?_|refine aq hT 13 cx ?_|refine aq hT 40 cG ?_|omega|refine aA ?_|decide|assumption)<;>conv=>whnf))
     all_goals try(exfalso;contradiction)
     all_goals first
      |(exfalso;have q:s.his.has (t.texts.getD 0 [])=false:=hb;rw[hh]at q;cases q)
      |(exfalso;clear cX cC cE;simp[al,hm]at hb;done)
      | (refine .ent _ _ (af (ts:= [(6,.d (.int .i64 X))]) (rs:=cL h vm sm s) ul rfl rfl ⟨ap (by simp[al,hm]),trivial⟩ ⟨rr,rr,rr,rr,rr,rr,rr,rr,rr,rr,trivial⟩) ?_
         refine .ret _ ?_;conv=>whnf
         exact⟨_,⟨rfl,rfl⟩,rr,rr,rr,rr,rr,rr,rr,rr,rr,rr,trivial⟩)
def ov:OL:= [(0,[]),(1,[]),(7,[0,1]),(2,[0,1,7]),(3,[7]),(4,[7]),(5,[7]),(6,[7,5]),(8,[6]),(9,[])]
def ou:OL:= [(1,[]),(2,[]),(0,[1,2]),(3,[]),(4,[]),(5,[]),(6,[5]),(7,[6]),(8,[])]
def om:OL:= [(0,[]),(1,[]),(2,[0,1]),(3,[0,1]),(4,[0,1]),(5,[0,1]),(6,rg 6),(7,rg 6),(8,rg 6),(9,rg 6),(10,rg 10),(11,[]),(12,rg 12),(13,[])]
def mg:OL:= [(0,[]),(1,[0]),(2,[0]),(3,[0]),(4,[0]),(5,rg 5),(6,rg 5),(7,rg 5),(8,rg 5),(9,rg 9),(10,rg 9),(11,rg 9),(12,rg 9),(13,rg 13),(14,rg 13),(15,rg 13),(16,rg 13),(17,rg 9),(18,rg 18),(19,rg 18),(20,rg 20),(21,rg 20),(22,rg 20),(23,rg 20),(24,[0]),(25,[]),(26,[])]
def mD:OL:= [(0,[]),(1,[]),(2,[]),(3,[]),(4,rg 4),(5,rg 4),(6,rg 4),(7,rg 4),(8,[]),(9,[]),(10,[]),(11,[10]),(12,rg 12),(13,[11]),(14,[])]
def ml:OL:= [(0,[]),(1,[]),(2,[]),(3,[]),(4,rg 4),(5,rg 4),(6,rg 4),(7,rg 4),(8,[])]
def lZ:OL:= [(0,[]),(1,[0]),(2,[0]),(3,[0]),(4,[0]),(5,rg 5),(6,rg 5),(7,rg 5),(8,rg 5),(9,[]),(10,[])]
structure qK (s:dw):Prop where
 log:s.log.length≤2^18
 paid:∀k,-2^40≤s.paid.val k∧s.paid.val k≤2^40
 fb:NE s.bks.has
 fh:NE s.his.has
 non:∀k,s.his.has k=false→s.his.val k=none
 his:∀k,s.his.has k=true→∃g,s.his.val k=some g∧CI g∧1≤g.legs.length∧g.legs.length<2^19
theorem Ho (h:eH)(vm:Mp (List UInt8))(sm:Mp Bool)(s:dw)(x:bv)(hx:x.words.length≤2^20)(hf:∀k,(formsM.val k).length≤2^20)(ht:jh formsM x.words=false):
 ai Tryz.prog 152 [.ptr 1000001 0,.agg ((gL x).map .d)] ((1000009,KX)::jf h vm sm s) (fun y r=>y= .d (.int .i64 9)∧r=(1000009,KX)::cL h vm sm s):=by
 have c1:=uf formsM hf x.words hx;rw[ht]at c1;refine ae hT (C:= []) Tryz.func152 rfl Tryz.call152 rfl rfl rfl ?_;conv=>whnf
 repeat' (first|((first|(refine cd mo [(1,20)] ?_;rintro y rout ⟨rfl,rfl⟩;refine⟨rfl,?_⟩)|(refine cd c1 [(1000001,20),(1000009,1000009)] ?_;rintro y rout ⟨rfl,rfl⟩;refine⟨rfl,?_⟩)|(refine aa ?_ ?_<;>intro hb<;>try simp only[az]at hb)|refine aq hT 1 ov ?_|refine aq hT 4 ou ?_|refine aq hT 6 om ?_|refine aq hT 12 mg ?_|refine aq hT 14 mD ?_|refine aq hT 17 ml ?_|refine aq hT 22 lZ ?_|omega|refine aA ?_|decide|assumption)<;>conv=>whnf))
 refine .ent _ _ (af (ts:= [(4,.d (.int .i64 9))]) (rs:=(1000009,KX)::cL h vm sm s) Kn rfl rfl ⟨lr,trivial⟩ ⟨rr,rr,rr,rr,rr,rr,rr,rr,rr,rr,rr,trivial⟩) ?_;refine .ret _ ?_;conv=>whnf
 exact⟨_,⟨rfl,rfl⟩,rr,rr,rr,rr,rr,rr,rr,rr,rr,rr,rr,trivial⟩
structure Ae (t:lU):Prop where
 tx:∀j,(t.texts.getD j []).length≤2^20
 nm:∀j,-10^9≤t.nums.getD j 0∧t.nums.getD j 0≤10^9
 ev:aT.has t.word=true→2≤t.texts.length
 lv:aT.has t.word=true→aT.val t.word=6→3≤t.texts.length
 bk:t.word= [98,111,111,107]→2≤t.texts.length∧3≤t.nums.length
 cn:t.word= [99,97,110,99,101,108]→1≤t.texts.length
 st:t.word= [115,116,97,114,116]→4≤t.texts.length∧3≤t.nums.length
 py:t.word= [112,97,121]→1≤t.texts.length∧1≤t.nums.length
 ch:aT.has t.word=false→t.word≠ [98,111,111,107]→t.word≠ [99,97,110,99,101,108]→t.word≠ [115,116,97,114,116]→t.word≠ [112,97,121]→1≤t.texts.length∧(t.word= [101,120,116,101,110,100]→1≤t.nums.length)∧(t.word= [99,108,111,115,101]→2≤t.texts.length∧2≤t.nums.length)∧(t.word≠ [101,120,116,101,110,100]→t.word≠ [99,108,111,115,101]→3≤t.texts.length∧4≤t.nums.length)
def gu (tm:Int)(t:lU):cJ:=⟨tm,t.texts.getD 0 [],t.texts.getD 1 [],aT.val t.word,if aT.val t.word=6 then t.texts.getD 2 []else []⟩
set_option maxHeartbeats 4000000 in
theorem FA (h:eH)(vm:Mp (List UInt8))(sm:Mp Bool)(s:dw)(hs:qK s)(x:bv)(hx:x.words.length≤2^20)(hf:∀k,(formsM.val k).length≤2^20)(ht:jh formsM x.words=true)(t:lU)(hte:dq formsM x.words=t)(hk:Ae t)(hk1:aT.has t.word=true):
 ai Tryz.prog 152 [.ptr 1000001 0,.agg ((gL x).map .d)] ((1000009,KX)::jf h vm sm s) (fun y r=>y= .d (.int .i64 (nt vm sm s (gu x.tm t)))∧r=(1000009,KX)::cL h vm sm (lP vm sm s (gu x.tm t))):=by
 have c1:=uf formsM hf x.words hx;rw[ht,if_pos rfl,hte]at c1;have h2:=hk.ev hk1;have h3:=hk.lv hk1;have c2:=O5 h vm sm s (gu x.tm t) (by have:=hs.log;omega);have hEv:gu x.tm t=⟨x.tm,t.texts.getD 0 [],t.texts.getD 1 [],aT.val t.word,if aT.val t.word=6 then t.texts.getD 2 []else []⟩:=rfl;generalize gu x.tm t=V at c2 hEv ⊢
 by_cases k6:aT.val t.word=6
 · rw[if_pos k6]at hEv;have h4:=h3 k6;subst hEv;refine ae hT (C:= []) Tryz.func152 rfl Tryz.call152 rfl rfl rfl ?_;conv=>whnf
   repeat' (first|((first|(refine cd mo [(1,20)] ?_;rintro y rout ⟨rfl,rfl⟩;refine⟨rfl,?_⟩)|(refine cd oh [(1,30)] ?_;rintro y rout ⟨rfl,rfl⟩;refine⟨rfl,?_⟩)|(refine cd c1 [(1000001,20),(1000009,1000009)] ?_;rintro y rout ⟨rfl,rfl⟩;refine⟨rfl,?_⟩)|(refine cd (c2) Ib ?_;rintro y rout ⟨rfl,rfl⟩;refine⟨rfl,?_⟩)|refine And.intro (rfl:aK _=some [DV.int .i64 0]) ?_|(refine aa ?_ ?_<;>intro hb<;>try simp only[az]at hb)|refine aq hT 1 ov ?_|refine aq hT 4 ou ?_|refine aq hT 6 om ?_|refine aq hT 12 mg ?_|refine aq hT 14 mD ?_|refine aq hT 17 ml ?_|refine aq hT 22 lZ ?_|omega|refine aA ?_|decide|assumption)<;>conv=>whnf))
   all_goals first
    | (exfalso;have q:aT.has t.word=false:=by assumption
       rw[hk1]at q;cases q)
    | (exfalso;have q:¬aT.val t.word=6:=by assumption
       exact q k6)
    | (exfalso;have q:aT.val t.word=6:=by assumption
       exact k6 q)
    | (refine .ent _ _ (af (ts:= [(4,.d (.int .i64 (nt vm sm s ⟨x.tm,t.texts.getD 0 [],t.texts.getD 1 [],aT.val t.word,t.texts.getD 2 []⟩)))]) (rs:=(1000009,KX)::cL h vm sm (lP vm sm s ⟨x.tm,t.texts.getD 0 [],t.texts.getD 1 [],aT.val t.word,t.texts.getD 2 []⟩)) EN rfl rfl ⟨lr,trivial⟩ ⟨rr,rr,rr,rr,rr,rr,rr,rr,rr,rr,rr,trivial⟩) ?_
       refine .ret _ ?_;conv=>whnf
       exact⟨_,⟨rfl,rfl⟩,rr,rr,rr,rr,rr,rr,rr,rr,rr,rr,rr,trivial⟩)
 · rw[if_neg k6]at hEv;subst hEv;refine ae hT (C:= []) Tryz.func152 rfl Tryz.call152 rfl rfl rfl ?_;conv=>whnf
   repeat' (first|((first|(refine cd mo [(1,20)] ?_;rintro y rout ⟨rfl,rfl⟩;refine⟨rfl,?_⟩)|(refine cd oh [(1,30)] ?_;rintro y rout ⟨rfl,rfl⟩;refine⟨rfl,?_⟩)|(refine cd c1 [(1000001,20),(1000009,1000009)] ?_;rintro y rout ⟨rfl,rfl⟩;refine⟨rfl,?_⟩)|(refine cd (c2) Ib ?_;rintro y rout ⟨rfl,rfl⟩;refine⟨rfl,?_⟩)|refine And.intro (rfl:aK _=some [DV.int .i64 0]) ?_|(refine aa ?_ ?_<;>intro hb<;>try simp only[az]at hb)|refine aq hT 1 ov ?_|refine aq hT 4 ou ?_|refine aq hT 6 om ?_|refine aq hT 12 mg ?_|refine aq hT 14 mD ?_|refine aq hT 17 ml ?_|refine aq hT 22 lZ ?_|omega|refine aA ?_|decide|assumption)<;>conv=>whnf))
   all_goals first
    | (exfalso;have q:aT.has t.word=false:=by assumption
       rw[hk1]at q;cases q)
    | (exfalso;have q:¬aT.val t.word=6:=by assumption
       exact q k6)
    | (exfalso;have q:aT.val t.word=6:=by assumption
       exact k6 q)
    | (refine .ent _ _ (af (ts:= [(4,.d (.int .i64 (nt vm sm s ⟨x.tm,t.texts.getD 0 [],t.texts.getD 1 [],aT.val t.word,[]⟩)))]) (rs:=(1000009,KX)::cL h vm sm (lP vm sm s ⟨x.tm,t.texts.getD 0 [],t.texts.getD 1 [],aT.val t.word,[]⟩)) EN rfl rfl ⟨lr,trivial⟩ ⟨rr,rr,rr,rr,rr,rr,rr,rr,rr,rr,rr,trivial⟩) ?_
       refine .ret _ ?_;conv=>whnf
       exact⟨_,⟨rfl,rfl⟩,rr,rr,rr,rr,rr,rr,rr,rr,rr,rr,rr,trivial⟩)
def lj:OL:= [(0,[]),(1,[]),(7,[0,1]),(2,[0,1,7]),(3,[7]),(4,[7]),(5,[7]),(6,[7,5]),(8,[6]),(9,[])]
def lu:OL:= [(1,[]),(2,[]),(0,[1,2]),(3,[]),(4,[]),(5,[]),(6,[5]),(7,[6]),(8,[])]
def kT:OL:= [(0,[]),(1,[]),(2,[0,1]),(3,[0,1]),(4,[0,1]),(5,[0,1]),(6,rg 6),(7,rg 6),(8,rg 6),(9,rg 6),(10,rg 10),(11,[]),(12,rg 12),(13,[])]
def jt:OL:= [(0,[]),(1,[0]),(2,[0]),(3,[0]),(4,[0]),(5,rg 5),(6,rg 5),(7,rg 5),(8,rg 5),(9,rg 9),(10,rg 9),(11,rg 9),(12,rg 9),(13,rg 13),(14,rg 13),(15,rg 13),(16,rg 13),(17,rg 9),(18,rg 18),(19,rg 18),(20,rg 20),(21,rg 20),(22,rg 20),(23,rg 20),(24,[0]),(25,[]),(26,[])]
def jl:OL:= [(0,[]),(1,[]),(2,[]),(3,[]),(4,rg 4),(5,rg 4),(6,rg 4),(7,rg 4),(8,[]),(9,[]),(10,[]),(11,[10]),(12,rg 12),(13,[11]),(14,[])]
def jw:OL:= [(0,[]),(1,[]),(2,[]),(3,[]),(4,rg 4),(5,rg 4),(6,rg 4),(7,rg 4),(8,[])]
def jx:OL:= [(0,[]),(1,[0]),(2,[0]),(3,[0]),(4,[0]),(5,rg 5),(6,rg 5),(7,rg 5),(8,rg 5),(9,[]),(10,[])]
set_option maxHeartbeats 4000000 in
theorem Fx (h:eH)(hco:l8 h.flt.cls)(vm:Mp (List UInt8))(sm:Mp Bool)(s:dw)(hs:qK s)(x:bv)(hx:x.words.length≤2^20)(hf:∀k,(formsM.val k).length≤2^20)(ht:jh formsM x.words=true)(t:lU)(hte:dq formsM x.words=t)(hk:Ae t)(hk1:aT.has t.word=false)(hw:t.word= [98,111,111,107]):
 ai Tryz.prog 152 [.ptr 1000001 0,.agg ((gL x).map .d)] ((1000009,KX)::jf h vm sm s) (fun y r=>y= .d (.int .i64 (ga h s ⟨t.texts.getD 0 [],t.texts.getD 1 [],t.nums.getD 0 0,t.nums.getD 1 0,x.tm,t.nums.getD 2 0⟩))∧r=(1000009,KX)::cL h vm sm (gi h s ⟨t.texts.getD 0 [],t.texts.getD 1 [],t.nums.getD 0 0,t.nums.getD 1 0,x.tm,t.nums.getD 2 0⟩)):=by
 have c1:=uf formsM hf x.words hx;rw[ht,if_pos rfl,hte]at c1;obtain⟨l1,l2⟩:=hk.bk hw;have l3:=hk.tx;have c2:=NU h hco vm sm s ⟨t.texts.getD 0 [],t.texts.getD 1 [],t.nums.getD 0 0,t.nums.getD 1 0,x.tm,t.nums.getD 2 0⟩ (by have:=l3 0;show(t.texts.getD 0 []).length≤_;omega) (by have:=l3 1;show(t.texts.getD 1 []).length≤_;omega) hs.fb;refine ae hT (C:= []) Tryz.func152 rfl Tryz.call152 rfl rfl rfl ?_;conv=>whnf
 repeat' (first|((first|(refine cd mo [(1,20)] ?_;rintro y rout ⟨rfl,rfl⟩;refine⟨rfl,?_⟩)|(refine cd oh [(1,30)] ?_;rintro y rout ⟨rfl,rfl⟩;refine⟨rfl,?_⟩)|(refine cd c1 [(1000001,20),(1000009,1000009)] ?_;rintro y rout ⟨rfl,rfl⟩;refine⟨rfl,?_⟩)|refine And.intro (rfl:aK _=some [DV.int .i64 0]) ?_|(refine cd (c2) Ib ?_;rintro y rout ⟨rfl,rfl⟩;refine⟨rfl,?_⟩)|(refine aa ?_ ?_<;>intro hb<;>try simp only[az]at hb)|refine aq hT 1 lj ?_|refine aq hT 4 lu ?_|refine aq hT 6 kT ?_|refine aq hT 12 jt ?_|refine aq hT 14 jl ?_|refine aq hT 17 jw ?_|refine aq hT 22 jx ?_|omega|refine aA ?_|decide|assumption)<;>conv=>whnf))
 all_goals try(exfalso;contradiction)
 all_goals try (exfalso;have q:aT.has t.word=true:=by assumption
                rw[hk1]at q;cases q)
 all_goals
  refine .ent _ _ (af (ts:= [(4,.d (.int .i64 (ga h s ⟨t.texts.getD 0 [],t.texts.getD 1 [],t.nums.getD 0 0,t.nums.getD 1 0,x.tm,t.nums.getD 2 0⟩)))]) (rs:=(1000009,KX)::cL h vm sm (gi h s ⟨t.texts.getD 0 [],t.texts.getD 1 [],t.nums.getD 0 0,t.nums.getD 1 0,x.tm,t.nums.getD 2 0⟩)) EN rfl rfl ⟨lr,trivial⟩ ⟨rr,rr,rr,rr,rr,rr,rr,rr,rr,rr,rr,trivial⟩) ?_;refine .ret _ ?_;conv=>whnf
  exact⟨_,⟨rfl,rfl⟩,rr,rr,rr,rr,rr,rr,rr,rr,rr,rr,rr,trivial⟩
set_option maxHeartbeats 4000000 in
theorem F9 (h:eH)(hco:l8 h.flt.cls)(vm:Mp (List UInt8))(sm:Mp Bool)(s:dw)(hs:qK s)(x:bv)(hx:x.words.length≤2^20)(hf:∀k,(formsM.val k).length≤2^20)(ht:jh formsM x.words=true)(t:lU)(hte:dq formsM x.words=t)(hk:Ae t)(hk1:aT.has t.word=false)(hw:t.word= [115,116,97,114,116])(hw1:¬t.word= [98,111,111,107])(hw2:¬t.word= [99,97,110,99,101,108]):
 ai Tryz.prog 152 [.ptr 1000001 0,.agg ((gL x).map .d)] ((1000009,KX)::jf h vm sm s) (fun y r=>y= .d (.int .i64 (Ay vm sm s x.tm t))∧r=(1000009,KX)::cL h vm sm (s8 vm sm s x.tm t)):=by
 have c1:=uf formsM hf x.words hx;rw[ht,if_pos rfl,hte]at c1;obtain⟨l1,l2⟩:=hk.st hw;have l3:=hk.tx;have c2:=Q7 h vm sm s (by have:=hs.log;omega) x.tm t l1 l2 (fun j=>by have:=l3 j;omega) hs.fh;refine ae hT (C:= []) Tryz.func152 rfl Tryz.call152 rfl rfl rfl ?_;conv=>whnf
 repeat' (first|((first|(refine cd mo [(1,20)] ?_;rintro y rout ⟨rfl,rfl⟩;refine⟨rfl,?_⟩)|(refine cd oh [(1,30)] ?_;rintro y rout ⟨rfl,rfl⟩;refine⟨rfl,?_⟩)|(refine cd c1 [(1000001,20),(1000009,1000009)] ?_;rintro y rout ⟨rfl,rfl⟩;refine⟨rfl,?_⟩)|refine And.intro (rfl:aK _=some [DV.int .i64 0]) ?_|(refine cd (c2) Ib ?_;rintro y rout ⟨rfl,rfl⟩;refine⟨rfl,?_⟩)|(refine aa ?_ ?_<;>intro hb<;>try simp only[az]at hb)|refine aq hT 1 lj ?_|refine aq hT 4 lu ?_|refine aq hT 6 kT ?_|refine aq hT 12 jt ?_|refine aq hT 14 jl ?_|refine aq hT 17 jw ?_|refine aq hT 22 jx ?_|omega|refine aA ?_|decide|assumption)<;>conv=>whnf))
 all_goals try(exfalso;contradiction)
 all_goals try (exfalso;have q:aT.has t.word=true:=by assumption
                rw[hk1]at q;cases q)
 all_goals
  refine .ent _ _ (af (ts:= [(4,.d (.int .i64 (Ay vm sm s x.tm t)))]) (rs:=(1000009,KX)::cL h vm sm (s8 vm sm s x.tm t)) EN rfl rfl ⟨lr,trivial⟩ ⟨rr,rr,rr,rr,rr,rr,rr,rr,rr,rr,rr,trivial⟩) ?_;refine .ret _ ?_;conv=>whnf
  exact⟨_,⟨rfl,rfl⟩,rr,rr,rr,rr,rr,rr,rr,rr,rr,rr,rr,trivial⟩
set_option maxHeartbeats 4000000 in
theorem FU (h:eH)(hco:l8 h.flt.cls)(vm:Mp (List UInt8))(sm:Mp Bool)(s:dw)(hs:qK s)(x:bv)(hx:x.words.length≤2^20)(hf:∀k,(formsM.val k).length≤2^20)(ht:jh formsM x.words=true)(t:lU)(hte:dq formsM x.words=t)(hk:Ae t)(hk1:aT.has t.word=false)(hw:t.word= [112,97,121])(hw1:¬t.word= [98,111,111,107])(hw2:¬t.word= [99,97,110,99,101,108])(hw3:¬t.word= [115,116,97,114,116]):
 ai Tryz.prog 152 [.ptr 1000001 0,.agg ((gL x).map .d)] ((1000009,KX)::jf h vm sm s) (fun y r=>y= .d (.int .i64 (kf s (t.texts.getD 0 []) (t.nums.getD 0 0)))∧r=(1000009,KX)::cL h vm sm (kU s (t.texts.getD 0 []) (t.nums.getD 0 0))):=by
 have c1:=uf formsM hf x.words hx;rw[ht,if_pos rfl,hte]at c1;obtain⟨l1,l2⟩:=hk.py hw;have l3:=hk.nm 0;have c2:=Qx h vm sm s (t.texts.getD 0 []) (t.nums.getD 0 0) (by omega) (hs.paid _);refine ae hT (C:= []) Tryz.func152 rfl Tryz.call152 rfl rfl rfl ?_;conv=>whnf
 repeat' (first|((first|(refine cd mo [(1,20)] ?_;rintro y rout ⟨rfl,rfl⟩;refine⟨rfl,?_⟩)|(refine cd oh [(1,30)] ?_;rintro y rout ⟨rfl,rfl⟩;refine⟨rfl,?_⟩)|(refine cd c1 [(1000001,20),(1000009,1000009)] ?_;rintro y rout ⟨rfl,rfl⟩;refine⟨rfl,?_⟩)|refine And.intro (rfl:aK _=some [DV.int .i64 0]) ?_|(refine cd (c2) Ib ?_;rintro y rout ⟨rfl,rfl⟩;refine⟨rfl,?_⟩)|(refine aa ?_ ?_<;>intro hb<;>try simp only[az]at hb)|refine aq hT 1 lj ?_|refine aq hT 4 lu ?_|refine aq hT 6 kT ?_|refine aq hT 12 jt ?_|refine aq hT 14 jl ?_|refine aq hT 17 jw ?_|refine aq hT 22 jx ?_|omega|refine aA ?_|decide|assumption)<;>conv=>whnf))
 all_goals try(exfalso;contradiction)
 all_goals try (exfalso;have q:aT.has t.word=true:=by assumption
                rw[hk1]at q;cases q)
 all_goals
  refine .ent _ _ (af (ts:= [(4,.d (.int .i64 (kf s (t.texts.getD 0 []) (t.nums.getD 0 0))))]) (rs:=(1000009,KX)::cL h vm sm (kU s (t.texts.getD 0 []) (t.nums.getD 0 0))) EN rfl rfl ⟨lr,trivial⟩ ⟨rr,rr,rr,rr,rr,rr,rr,rr,rr,rr,rr,trivial⟩) ?_;refine .ret _ ?_;conv=>whnf
  exact⟨_,⟨rfl,rfl⟩,rr,rr,rr,rr,rr,rr,rr,rr,rr,rr,rr,trivial⟩
set_option maxHeartbeats 4000000 in
theorem FT (h:eH)(hco:l8 h.flt.cls)(vm:Mp (List UInt8))(sm:Mp Bool)(s:dw)(hs:qK s)(x:bv)(hx:x.words.length≤2^20)(hf:∀k,(formsM.val k).length≤2^20)(ht:jh formsM x.words=true)(t:lU)(hte:dq formsM x.words=t)(hk:Ae t)(hk1:aT.has t.word=false)(hw:t.word= [99,97,110,99,101,108])(hw1:¬t.word= [98,111,111,107]):
 ai Tryz.prog 152 [.ptr 1000001 0,.agg ((gL x).map .d)] ((1000009,KX)::jf h vm sm s) (fun y r=>y= .d (.int .i64 (if s.bks.has (t.texts.getD 0 [])then 0 else 8))∧r=(1000009,KX)::cL h vm sm (if s.bks.has (t.texts.getD 0 [])then{s with bks:=s.bks.del (t.texts.getD 0 []) lO}else s)):=by
 have c1:=uf formsM hf x.words hx;rw[ht,if_pos rfl,hte]at c1;have l1:=hk.cn hw;refine ae hT (C:= []) Tryz.func152 rfl Tryz.call152 rfl rfl rfl ?_;conv=>whnf
 repeat' (first|((first|(refine cd mo [(1,20)] ?_;rintro y rout ⟨rfl,rfl⟩;refine⟨rfl,?_⟩)|(refine cd oh [(1,30)] ?_;rintro y rout ⟨rfl,rfl⟩;refine⟨rfl,?_⟩)|(refine cd c1 [(1000001,20),(1000009,1000009)] ?_;rintro y rout ⟨rfl,rfl⟩;refine⟨rfl,?_⟩)|refine And.intro (rfl:aK _=some [DV.int .i64 0]) ?_|refine And.intro (rfl:aK _=some (lS lO)) ?_|(refine aa ?_ ?_<;>intro hb<;>try simp only[az]at hb)|refine aq hT 1 lj ?_|refine aq hT 4 lu ?_|refine aq hT 6 kT ?_|refine aq hT 12 jt ?_|refine aq hT 14 jl ?_|refine aq hT 17 jw ?_|refine aq hT 22 jx ?_|omega|refine aA ?_|decide|assumption)<;>conv=>whnf))
 all_goals try(exfalso;contradiction)
 all_goals try (exfalso;have q:aT.has t.word=true:=by assumption
                rw[hk1]at q;cases q)
 all_goals first
  | (have q:s.bks.has (t.texts.getD 0 [])=false:=by first|exact hb|assumption
     have e1:(if s.bks.has (t.texts.getD 0 [])then(0:Int)else 8)=8:=by rw[q];rfl
     have e2:(if s.bks.has (t.texts.getD 0 [])then{s with bks:=s.bks.del (t.texts.getD 0 []) lO}else s:dw)=s:=by rw[q];rfl
     rw[e1,e2];refine .ent _ _ (af (ts:= [(4,.d (.int .i64 (8)))]) (rs:=(1000009,KX)::cL h vm sm (s)) Kn rfl rfl ⟨lr,trivial⟩ ⟨rr,rr,rr,rr,rr,rr,rr,rr,rr,rr,rr,trivial⟩) ?_;refine .ret _ ?_;conv=>whnf
     exact⟨_,⟨rfl,rfl⟩,rr,rr,rr,rr,rr,rr,rr,rr,rr,rr,rr,trivial⟩)
  | (have q:s.bks.has (t.texts.getD 0 [])=true:=by first|exact hb|assumption
     have e1:(if s.bks.has (t.texts.getD 0 [])then(0:Int)else 8)=0:=by rw[q];rfl
     have e2:(if s.bks.has (t.texts.getD 0 [])then{s with bks:=s.bks.del (t.texts.getD 0 []) lO}else s:dw)={s with bks:=s.bks.del (t.texts.getD 0 []) lO}:=by rw[q];rfl
     rw[e1,e2];refine .ent _ _ (af (ts:= [(4,.d (.int .i64 (0)))]) (rs:=(1000009,KX)::cL h vm sm ({s with bks:=s.bks.del (t.texts.getD 0 []) lO})) Kn rfl rfl ⟨lr,trivial⟩ ⟨rr,rr,rr,rr,rr,rr,rr,wP,rr,rr,rr,trivial⟩) ?_;refine .ret _ ?_;conv=>whnf
     exact⟨_,⟨rfl,rfl⟩,rr,rr,rr,rr,rr,rr,rr,rr,rr,rr,rr,trivial⟩)
def AL:OL:= [(0,[]),(1,[]),(7,[0,1]),(2,[0,1,7]),(3,[7]),(4,[7]),(5,[7]),(6,[7,5]),(8,[6]),(9,[])]
def BP:OL:= [(1,[]),(2,[]),(0,[1,2]),(3,[]),(4,[]),(5,[]),(6,[5]),(7,[6]),(8,[])]
def Aq:OL:= [(0,[]),(1,[]),(2,[0,1]),(3,[0,1]),(4,[0,1]),(5,[0,1]),(6,rg 6),(7,rg 6),(8,rg 6),(9,rg 6),(10,rg 10),(11,[]),(12,rg 12),(13,[])]
def zN:OL:= [(0,[]),(1,[0]),(2,[0]),(3,[0]),(4,[0]),(5,rg 5),(6,rg 5),(7,rg 5),(8,rg 5),(9,rg 9),(10,rg 9),(11,rg 9),(12,rg 9),(13,rg 13),(14,rg 13),(15,rg 13),(16,rg 13),(17,rg 9),(18,rg 18),(19,rg 18),(20,rg 20),(21,rg 20),(22,rg 20),(23,rg 20),(24,[0]),(25,[]),(26,[])]
def zo:OL:= [(0,[]),(1,[]),(2,[]),(3,[]),(4,rg 4),(5,rg 4),(6,rg 4),(7,rg 4),(8,[]),(9,[]),(10,[]),(11,[10]),(12,rg 12),(13,[11]),(14,[])]
def x5:OL:= [(0,[]),(1,[]),(2,[]),(3,[]),(4,rg 4),(5,rg 4),(6,rg 4),(7,rg 4),(8,[])]
def zO:OL:= [(0,[]),(1,[0]),(2,[0]),(3,[0]),(4,[0]),(5,rg 5),(6,rg 5),(7,rg 5),(8,rg 5),(9,[]),(10,[])]
set_option maxHeartbeats 2000000 in
theorem Hw (h:eH)(vm:Mp (List UInt8))(sm:Mp Bool)(s:dw)(at0:Int)(t:lU)(h1:1≤t.texts.length)(hh:s.his.has (t.texts.getD 0 [])=false)(hv:s.his.val (t.texts.getD 0 [])=none):
 ai Tryz.prog 198 [.ptr 1000001 0,.d (.int .i64 at0),.agg ((Bh t).map .d)] (jf h vm sm s) (fun y r=>y= .d (.int .i64 (lM vm sm s at0 t))∧r=cL h vm sm (jU vm sm s at0 t)):=by
 have e1:lM vm sm s at0 t=8:=by unfold lM;rw[hh];rfl
 have e2:jU vm sm s at0 t=s:=by unfold jU;rw[if_neg (by rw[e1];decide)]
 rw[e1,e2];refine ae hT (C:= []) Tryz.func198 rfl Tryz.call198 rfl rfl rfl ?_;conv=>whnf
 repeat' (first|((first|(refine And.intro (rfl:aK _=some (eK none)) ?_;refine dW (row':=eK none) (congrArg eK hv) ?_)|(refine aa ?_ ?_<;>intro hb<;>try simp only[az]at hb)|refine aq hT 19 oJOfI198_19 ?_|refine aq hT 22 oJOfI198_22 ?_|refine aq hT 11 oJOfI198_11 ?_|refine aq hT 12 oJOfI198_12 ?_|refine aq hT 13 oJOfI198_13 ?_|refine aq hT 40 oJOfI198_40 ?_|omega|refine aA ?_|decide|assumption)<;>conv=>whnf))
 all_goals first
  | (exfalso;have q:s.his.has (t.texts.getD 0 [])=true:=hb
     rw[hh]at q;cases q)
  | (refine .ent _ _ (af (ts:= [(6,.d (.int .i64 8))]) (rs:=cL h vm sm s) ul rfl rfl ⟨lr,trivial⟩ ⟨rr,rr,rr,rr,rr,rr,rr,rr,rr,rr,trivial⟩) ?_
     refine .ret _ ?_;conv=>whnf
     exact⟨_,⟨rfl,rfl⟩,rr,rr,rr,rr,rr,rr,rr,rr,rr,rr,trivial⟩)
set_option maxHeartbeats 4000000 in
theorem E2 (h:eH)(hco:l8 h.flt.cls)(vm:Mp (List UInt8))(sm:Mp Bool)(s:dw)(hs:qK s)(x:bv)(hx:x.words.length≤2^20)(hf:∀k,(formsM.val k).length≤2^20)(ht:jh formsM x.words=true)(t:lU)(hte:dq formsM x.words=t)(hk:Ae t)(hk1:aT.has t.word=false)(hw:t.word≠ [98,111,111,107])(hw1:t.word≠ [99,97,110,99,101,108])(hw2:t.word≠ [115,116,97,114,116])(hw3:t.word≠ [112,97,121]):
 ai Tryz.prog 152 [.ptr 1000001 0,.agg ((gL x).map .d)] ((1000009,KX)::jf h vm sm s) (fun y r=>y= .d (.int .i64 (lM vm sm s x.tm t))∧r=(1000009,KX)::cL h vm sm (jU vm sm s x.tm t)):=by
 have c1:=uf formsM hf x.words hx;rw[ht,if_pos rfl,hte]at c1;obtain⟨l1,l2,l3,l4⟩:=hk.ch hk1 hw hw1 hw2 hw3;have l5:=hk.tx;have hlg:=hs.log
 have c2:ai Tryz.prog 198 [.ptr 1000001 0,.d (.int .i64 x.tm),.agg ((Bh t).map .d)] (jf h vm sm s) (fun y r=>y= .d (.int .i64 (lM vm sm s x.tm t))∧r=cL h vm sm (jU vm sm s x.tm t)):=by
  cases hh:s.his.has (t.texts.getD 0 [])with
  |false=>exact Hw h vm sm s x.tm t l1 hh (hs.non _ hh)
  | true=>
    obtain⟨g,g1,g2,g3,g4⟩:=hs.his _ hh;exact Jg h vm sm s (by omega) x.tm t l1 l2 l3 l4 (fun j=>by have:=l5 j;omega) g hh g1 g2 g3 g4
 refine ae hT (C:= []) Tryz.func152 rfl Tryz.call152 rfl rfl rfl ?_;conv=>whnf
 repeat' (first|((first|(refine cd mo [(1,20)] ?_;rintro y rout ⟨rfl,rfl⟩;refine⟨rfl,?_⟩)|(refine cd oh [(1,30)] ?_;rintro y rout ⟨rfl,rfl⟩;refine⟨rfl,?_⟩)|(refine cd c1 [(1000001,20),(1000009,1000009)] ?_;rintro y rout ⟨rfl,rfl⟩;refine⟨rfl,?_⟩)|refine And.intro (rfl:aK _=some [DV.int .i64 0]) ?_|(refine cd (c2) Ib ?_;rintro y rout ⟨rfl,rfl⟩;refine⟨rfl,?_⟩)|(refine aa ?_ ?_<;>intro hb<;>try simp only[az]at hb)|refine aq hT 1 AL ?_|refine aq hT 4 BP ?_|refine aq hT 6 Aq ?_|refine aq hT 12 zN ?_|refine aq hT 14 zo ?_|refine aq hT 17 x5 ?_|refine aq hT 22 zO ?_|omega|refine aA ?_|decide|assumption)<;>conv=>whnf))
 all_goals try(exfalso;contradiction)
 all_goals try (exfalso;have q:aT.has t.word=true:=by assumption
                rw[hk1]at q;cases q)
 all_goals
  refine .ent _ _ (af (ts:= [(4,.d (.int .i64 (lM vm sm s x.tm t)))]) (rs:=(1000009,KX)::cL h vm sm (jU vm sm s x.tm t)) EN rfl rfl ⟨lr,trivial⟩ ⟨rr,rr,rr,rr,rr,rr,rr,rr,rr,rr,rr,trivial⟩) ?_;refine .ret _ ?_;conv=>whnf
  exact⟨_,⟨rfl,rfl⟩,rr,rr,rr,rr,rr,rr,rr,rr,rr,rr,rr,trivial⟩
def cT (f:List UInt8):Nat→Nat
 |0=>0
 |i+1=>if f.getD i 0=119 then cT f i+1 else cT f i
def cN (f:List UInt8):Nat→Nat
 |0=>0
 |i+1=>if f.getD i 0=119 then cN f i else cN f i+1
theorem J0 (f:List UInt8)(w:List (List UInt8)):∀i,(uH f w i).length=cT f i
 |0=>rfl
 | i+1=>by
   have:=J0 f w i;unfold uH cT;split
   · rw[List.length_append,List.length_singleton,this]
   · exact this
theorem J6 (f:List UInt8)(w:List (List UInt8)):∀i,(uF f w i).length=cN f i
 |0=>rfl
 | i+1=>by
   have:=J6 f w i;unfold uF cN;split
   · exact this
   · rw[List.length_append,List.length_singleton,this]
theorem xG (f:List UInt8)(w:List (List UInt8)){B:Nat}(h:∀j,(w.getD j []).length≤B):∀i,∀x ∈ uH f w i,x.length≤B
 |0=>fun x hx=>by cases hx
 | i +1=>fun x hx=>by
   unfold uH at hx;split at hx
   · rcases List.mem_append.1 hx with q|q
     · exact xG f w h i x q
     · rw[List.mem_singleton]at q;subst q;exact h i
   · exact xG f w h i x hx
theorem ww (f:List UInt8)(w:List (List UInt8)):∀i,(∀j,j<i→(f.getD j 0=119∨dB (w.getD j [])=true))→∀n ∈ uF f w i,-10^9≤n∧n≤10^9
 |0=>fun _ x hx=>by cases hx
 | i + 1=>fun h x hx=>by
   unfold uF at hx;split at hx
   · exact ww f w i (fun j hj=>h j (by omega)) x hx
   · rename_i hc;rcases List.mem_append.1 hx with q|q
     · exact ww f w i (fun j hj=>h j (by omega)) x q
     · rw[List.mem_singleton]at q;subst q;rcases h i (by omega)with r|r
       · exact absurd r hc
       · exact xz r
def BG:List (List UInt8):= [[101,110,116,101,114],[115,104,111,112],[100,111,110,101],[99,111,109,101],[103,111,110,101],[108,101,97,118,101],[98,111,111,107],[99,97,110,99,101,108],[115,116,97,114,116],[115,119,97,112],[101,120,116,101,110,100],[99,108,111,115,101],[112,97,121]]
theorem BC {s:List UInt8}(h:formsM.has s=true):s ∈ BG:=by
 have h':(decide (s= [112,97,121])||formsM.has s)=true:=by rw[h];simp
 simp only[formsM,Mp.put,Mp.nil,Bool.or_eq_true,decide_eq_true_eq,Bool.false_eq_true,or_false]at h;unfold BG;simp only[List.mem_cons,List.not_mem_nil,or_false];grind
theorem Iw {m:Mp (List UInt8)}{x v:List UInt8}{B:Nat}(h:∀k,(m.val k).length≤B)(hv:v.length≤B):∀k,((m.put x v).val k).length≤B:=fun k=>by
 show(if k=x then v else m.val k).length≤B;split
 · exact hv
 · exact h k
theorem fw:∀s:List UInt8,(formsM.val s).length≤2^20:=by
 unfold formsM
 repeat (refine Iw ?_ (by simp))
 intro k;simp[Mp.nil]
def J3 (k:List UInt8):Bool:=
 let c:=cT (formsM.val k) (formsM.val k).length
 let n:=cN (formsM.val k) (formsM.val k).length
 (!aT.has k||decide (2≤c))&&(!(aT.has k&&decide (aT.val k=6))||decide (3≤c))&&(!decide (k= [98,111,111,107])||decide (2≤c∧3≤n))&&(!decide (k= [99,97,110,99,101,108])||decide (1≤c))&&(!decide (k= [115,116,97,114,116])||decide (4≤c∧3≤n))&&(!decide (k= [112,97,121])||decide (1≤c∧1≤n))
 &&(aT.has k||decide (k= [98,111,111,107])||decide (k= [99,97,110,99,101,108])||decide (k= [115,116,97,114,116])||decide (k= [112,97,121])||(decide (1≤c)&&(!decide (k= [101,120,116,101,110,100])||decide (1≤n))&&(!decide (k= [99,108,111,115,101])||decide (2≤c∧2≤n))&&(decide (k= [101,120,116,101,110,100])||decide (k= [99,108,111,115,101])||decide (3≤c∧4≤n))))
theorem HX:BG.all J3=true:=by decide+kernel
theorem tR {α:Type}{l:List α}{d:α}{P:α→Prop}(h:∀x ∈ l,P x)(hd:P d)(j:Nat):P (l.getD j d):=by
 by_cases q:j<l.length
 · rw[List.getD_eq_getElem?_getD,List.getElem?_eq_getElem q];exact h _ (List.getElem_mem q)
 · rw[List.getD_eq_getElem?_getD,List.getElem?_eq_none (by omega)];exact hd
theorem IX {w:List UInt8}(hw:w.length≤2^20)(h:jh formsM w=true):Ae (dq formsM w):=by
 unfold jh at h;simp only[Bool.and_eq_true,decide_eq_true_eq]at h;obtain⟨h1,h2,h3,h4⟩:=h;have hmem:∀x ∈ Lib.split w [32],x.length≤w.length:=fun x hx=>vQ hx
 have hF:=List.all_eq_true.1 HX _ (BC h2);have hN:=of_decide_eq_true h4;obtain⟨k,hk⟩:∃k,k=iD (Lib.split w [32]):=⟨_,rfl⟩;obtain⟨W1,hW1⟩:∃W1,W1=(Lib.split w [32]).drop 1:=⟨_,rfl⟩;have hl:W1.length=(formsM.val k).length:=by rw[hW1,List.length_drop,hk];omega
 have hb:∀j,(W1.getD j []).length≤2^20:=tR (l:=W1) (d:= []) (P:=fun(x:List UInt8)=>x.length≤2^20) (fun x hx=>by rw[hW1]at hx;have:=hmem x (List.mem_of_mem_drop hx);omega) (by simp);unfold dq;rw[←hk]at hF hN ⊢;rw[←hW1]at hN ⊢;rw[hl];rw[hl]at hN;have t1:(uH (formsM.val k) W1 (formsM.val k).length).length=cT (formsM.val k) (formsM.val k).length:=J0 _ _ _;have t2:(uF (formsM.val k) W1 (formsM.val k).length).length=cN (formsM.val k) (formsM.val k).length:=J6 _ _ _;unfold J3 at hF;simp only at hF;rw[←t1,←t2]at hF;have m1:=xG (formsM.val k) W1 hb (formsM.val k).length;have m2:=ww (formsM.val k) W1 (formsM.val k).length (fun j hj=>hN j (by omega));generalize uH (formsM.val k) W1 (formsM.val k).length=X at hF m1 ⊢;generalize uF (formsM.val k) W1 (formsM.val k).length=Y at hF m2 ⊢;refine⟨tR m1 (by simp),tR m2 (by decide),?_,?_,?_,?_,?_,?_,?_⟩;all_goals (dsimp only;clear m1 m2 t1 t2 hN hb hmem h2 h3 h4;simp only[Bool.and_eq_true,Bool.or_eq_true,Bool.not_eq_true',decide_eq_true_eq,Bool.and_eq_false_iff,decide_eq_false_iff_not]at hF;grind)
def kW (h:eH)(vm:Mp (List UInt8))(sm:Mp Bool)(s:dw)(x:bv):Int:=
 if jh formsM x.words=false then 9
 else if aT.has (dq formsM x.words).word=true then nt vm sm s (gu x.tm (dq formsM x.words))
 else if(dq formsM x.words).word= [98,111,111,107]then ga h s ⟨(dq formsM x.words).texts.getD 0 [],(dq formsM x.words).texts.getD 1 [],(dq formsM x.words).nums.getD 0 0,(dq formsM x.words).nums.getD 1 0,x.tm,(dq formsM x.words).nums.getD 2 0⟩
 else if(dq formsM x.words).word= [99,97,110,99,101,108]then(if s.bks.has ((dq formsM x.words).texts.getD 0 [])then 0 else 8)
 else if(dq formsM x.words).word= [115,116,97,114,116]then Ay vm sm s x.tm (dq formsM x.words)
 else if(dq formsM x.words).word= [112,97,121]then kf s ((dq formsM x.words).texts.getD 0 []) ((dq formsM x.words).nums.getD 0 0)
 else lM vm sm s x.tm (dq formsM x.words)
def kN (h:eH)(vm:Mp (List UInt8))(sm:Mp Bool)(s:dw)(x:bv):dw:=
 if jh formsM x.words=false then s
 else if aT.has (dq formsM x.words).word=true then lP vm sm s (gu x.tm (dq formsM x.words))
 else if(dq formsM x.words).word= [98,111,111,107]then gi h s ⟨(dq formsM x.words).texts.getD 0 [],(dq formsM x.words).texts.getD 1 [],(dq formsM x.words).nums.getD 0 0,(dq formsM x.words).nums.getD 1 0,x.tm,(dq formsM x.words).nums.getD 2 0⟩
 else if(dq formsM x.words).word= [99,97,110,99,101,108]then(if s.bks.has ((dq formsM x.words).texts.getD 0 [])then{s with bks:=s.bks.del ((dq formsM x.words).texts.getD 0 []) lO}else s)
 else if(dq formsM x.words).word= [115,116,97,114,116]then s8 vm sm s x.tm (dq formsM x.words)
 else if(dq formsM x.words).word= [112,97,121]then kU s ((dq formsM x.words).texts.getD 0 []) ((dq formsM x.words).nums.getD 0 0)
 else jU vm sm s x.tm (dq formsM x.words)
theorem II (h:eH)(hco:l8 h.flt.cls)(vm:Mp (List UInt8))(sm:Mp Bool)(s:dw)(hs:qK s)(x:bv)(hx:x.words.length≤2^20):
 ai Tryz.prog 152 [.ptr 1000001 0,.agg ((gL x).map .d)] ((1000009,KX)::jf h vm sm s) (fun y r=>y= .d (.int .i64 (kW h vm sm s x))∧r=(1000009,KX)::cL h vm sm (kN h vm sm s x)):=by
 unfold kW kN
 cases ht:jh formsM x.words with
 |false=>rw[if_pos (show false=false from rfl),if_pos (show false=false from rfl)];exact Ho h vm sm s x hx fw ht
 | true=>
   have hk:=IX hx ht;rw[if_neg (show ¬ (true=false)by simp),if_neg (show ¬ (true=false)by simp)]
   by_cases q:aT.has (dq formsM x.words).word=true
   · rw[if_pos q,if_pos q];exact FA h vm sm s hs x hx fw ht _ rfl hk q
   have q':aT.has (dq formsM x.words).word=false:=by simpa using q
   rw[if_neg q,if_neg q]
   by_cases q1:(dq formsM x.words).word= [98,111,111,107]
   · rw[if_pos q1,if_pos q1];exact Fx h hco vm sm s hs x hx fw ht _ rfl hk q' q1
   rw[if_neg q1,if_neg q1]
   by_cases q2:(dq formsM x.words).word= [99,97,110,99,101,108]
   · rw[if_pos q2,if_pos q2];exact FT h hco vm sm s hs x hx fw ht _ rfl hk q' q2 q1
   rw[if_neg q2,if_neg q2]
   by_cases q3:(dq formsM x.words).word= [115,116,97,114,116]
   · rw[if_pos q3,if_pos q3];exact F9 h hco vm sm s hs x hx fw ht _ rfl hk q' q3 q1 q2
   rw[if_neg q3,if_neg q3]
   by_cases q4:(dq formsM x.words).word= [112,97,121]
   · rw[if_pos q4,if_pos q4];exact FU h hco vm sm s hs x hx fw ht _ rfl hk q' q4 q1 q2 q3
   rw[if_neg q4,if_neg q4];exact E2 h hco vm sm s hs x hx fw ht _ rfl hk q' q1 q2 q3 q4
theorem tQ {h:eH}{vm:Mp (List UInt8)}{sm:Mp Bool}{s:dw}{x:bv}(e:kW h vm sm s x≠0):kN h vm sm s x=s:=by
 unfold kW at e;unfold kN;split
 · rfl
 rename_i c0;rw[if_neg c0]at e;split
 · rename_i c;rw[if_pos c]at e;unfold lP;rw[if_neg e]
 rename_i c1;rw[if_neg c1]at e;split
 · rename_i c;rw[if_pos c]at e;unfold gi;rw[if_neg e]
 rename_i c2;rw[if_neg c2]at e;split
 · rename_i c;rw[if_pos c]at e;split
   · rename_i d;rw[if_pos d]at e;exact absurd rfl e
   · rfl
 rename_i c3;rw[if_neg c3]at e;split
 · rename_i c;rw[if_pos c]at e;unfold s8;rw[if_neg e]
 rename_i c4;rw[if_neg c4]at e;split
 · rename_i c;rw[if_pos c]at e;unfold kU;rw[if_neg e]
 rename_i c5;rw[if_neg c5]at e;unfold jU;rw[if_neg e]
variable (h:eH) (vm:Mp (List UInt8)) (sm:Mp Bool)
def rJ (s:dw)(l:List bv):dw:=l.foldl (kN h vm sm) s
def uS:dw→Nat→List bv→List B7
 |_,_,[]=> []
 |s,i,x::l=>if kW h vm sm s x=0 then uS (kN h vm sm s x) (i+1) l else⟨i,kW h vm sm s x⟩::uS s (i+1) l
theorem G4 (s:dw)(r:List B7)(l:List cJ):cY {s with ref:=r} l={cY s l with ref:=r}:=by
 unfold cY
 induction l generalizing s with
 |nil=>rfl
 | cons x l ih=>
   rw[List.foldl_cons,List.foldl_cons];exact ih (gD s x)
theorem yR (s:dw)(r:List B7)(x:bv):kW h vm sm {s with ref:=r} x=kW h vm sm s x:=rfl
variable (h:eH) (vm:Mp (List UInt8)) (sm:Mp Bool)
theorem F5 (s:dw)(r:List B7)(x:cJ):lP vm sm {s with ref:=r} x={lP vm sm s x with ref:=r}:=by
 unfold lP;rw[show nt vm sm {s with ref:=r} x=nt vm sm s x from rfl];split<;>rfl
theorem Eh (s:dw)(r:List B7)(b:Ca):gi h {s with ref:=r} b={gi h s b with ref:=r}:=by
 unfold gi;rw[show ga h {s with ref:=r} b=ga h s b from rfl];split<;>rfl
theorem Gi (s:dw)(r:List B7)(k:List UInt8)(c:Int):kU {s with ref:=r} k c={kU s k c with ref:=r}:=by
 unfold kU;rw[show kf {s with ref:=r} k c=kf s k c from rfl];split<;>rfl
theorem IY (s:dw)(r:List B7)(a:Int)(t:lU):s8 vm sm {s with ref:=r} a t={s8 vm sm s a t with ref:=r}:=by
 unfold s8;rw[show Ay vm sm {s with ref:=r} a t=Ay vm sm s a t from rfl];split<;>rfl
theorem I3 (s:dw)(r:List B7)(a:Int)(t:lU):jU vm sm {s with ref:=r} a t={jU vm sm s a t with ref:=r}:=by
 unfold jU;rw[show lM vm sm {s with ref:=r} a t=lM vm sm s a t from rfl];split
 · dsimp only
   rw[G4]
 · rfl
theorem Gu (s:dw)(r:List B7)(x:bv):kN h vm sm {s with ref:=r} x={kN h vm sm s x with ref:=r}:=by
 unfold kN;split
 · rfl
 split
 · exact F5 vm sm s r _
 split
 · exact Eh h s r _
 split
 · split<;>rfl
 split
 · exact IY vm sm s r _ _
 split
 · exact Gi s r _ _
 exact I3 vm sm s r _ _
theorem bj:∀ {l:List Int},al l=0→∀x ∈ l,x=0
 | [],_,_,hx=>by cases hx
 | y ::l,h,x,hx=>by
   unfold al at h
   by_cases q:y=0
   · rw[if_pos q]at h;rcases List.mem_cons.1 hx with e|e
     · rw[e];exact q
     · exact bj h x e
   · rw[if_neg q]at h;exact absurd h q
theorem kZ {s:List UInt8}(h:aE s=true):s.length≤40:=by
 unfold aE at h;simp only[Bool.and_eq_true,decide_eq_true_eq]at h;exact h.2
theorem zG {r:oN}(h:pI r=0):r.st.length≤40:=by
 unfold pI at h;split at h
 · exact absurd h (by decide)
 split at h
 · exact absurd h (by decide)
 rename_i _ c;exact kZ (by simpa using c)
theorem Ld {h:di}{i:Nat}(e:oV h i=0):MB (h.legs.getD i dY):=by
 unfold oV at e;split at e
 · exact absurd e (by decide)
 rename_i c1;split at e
 · rename_i c;exact absurd e c
 rename_i c2;have k1:=kZ (s:=(h.legs.getD i dY).veh) (by simpa using c1);have k2:=zG (r:=(h.legs.getD i dY).out) (by simpa using c2)
 have k3:(h.legs.getD i dY).inn.st.length≤40:=by
  by_cases q:(h.legs.getD i dY).inn.tm= -1
  · by_cases r:(h.legs.getD i dY).inn.st= []
    · rw[r];simp
    · exfalso;rw[if_pos q,if_pos (fun c=>r c.1)]at e;grind
  · rw[if_neg q]at e;refine zG ?_;grind
 exact⟨by omega,by omega,by omega⟩
theorem lm {g:di}(h:bN g=0):CI g∧1≤g.legs.length∧g.legs.length≤20∧(aE g.key=true∧aE g.drv=true)∧gX g.frm g.to=0∧∀i,i<g.legs.length→oV g i=0:=by
 unfold bN at h;split at h
 · exact absurd h (by decide)
 rename_i c1;split at h
 · rename_i c;exact absurd h c
 rename_i c2;split at h
 · exact absurd h (by decide)
 rename_i c3;split at h
 · exact absurd h (by decide)
 rename_i c4;have hA:=bG h;have k1:aE g.key=true:=by cases e:aE g.key with|true=>rfl|false=>exact absurd (.inl e) c1
 have k2:aE g.drv=true:=by cases e:aE g.drv with|true=>rfl|false=>exact absurd (.inr e) c1
 refine⟨⟨by have:=kZ k1;omega,by have:=kZ k2;omega,by omega,fun x hx=> ?_⟩,by omega,by omega,⟨k1,k2⟩,by simpa using c2,hA⟩;obtain⟨i,hi,rfl⟩:=a8 (d:=dY) hx;exact Ld (hA i hi)
theorem E6 {g g':di}(h:iu g g' =0):bN g=0∧xc g=true∧bN g' =0:=by
 unfold iu at h
 by_cases q:ru g=0
 · rw[if_neg (fun c=>c q)]at h;exact⟨(ku q).1,(ku q).2,h⟩
 · rw[if_pos q]at h;exact absurd h q
theorem EH {l:List rS}(r:oN)(j:Nat):((eW l r).getD j dY).veh=(l.getD j dY).veh:=by
 unfold eW;rw[List.getD_eq_getElem?_getD,List.getElem?_set]
 by_cases q:((l.length:Int) - 1).toNat=j
 · subst q;rw[if_pos rfl]
   by_cases h:((l.length:Int) - 1).toNat<l.length
   · rw[if_pos h];rfl
   · rw[if_neg h,List.getD_eq_getElem?_getD,List.getElem?_eq_none (by omega)]
 · rw[if_neg q,List.getD_eq_getElem?_getD]
theorem F6 {g:di}{ri ro:oN}{v:List UInt8}(h1:1≤g.legs.length)(h:bN (vM g ri v ro)=0):v≠gq g:=by
 obtain⟨_,_,_,_,_,hA⟩:=lm h;have hl:(vM g ri v ro).legs.length=g.legs.length+1:=by show(eW g.legs ri++ [_]).length=_;rw[List.length_append,gO,List.length_singleton]
 have e:=hA g.legs.length (by omega)
 have g1:((vM g ri v ro).legs.getD g.legs.length dY).veh=v:=by
  show((eW g.legs ri++ [_]).getD _ _).veh=_;rw[List.getD_eq_getElem?_getD,List.getElem?_append_right (by rw[gO];omega),gO,Nat.sub_self];rfl
 have g2:((vM g ri v ro).legs.getD (g.legs.length - 1) dY).veh=gq g:=by
  show((eW g.legs ri++ [_]).getD _ _).veh=_;rw[List.getD_eq_getElem?_getD,List.getElem?_append_left (by rw[gO];omega),←List.getD_eq_getElem?_getD,EH];unfold gq;rw[show((g.legs.length:Int) - 1).toNat=g.legs.length - 1 by omega]
 intro hv;unfold oV at e;rw[g1,g2]at e;have c:0<g.legs.length∧v=gq g:=⟨by omega,hv⟩;grind
structure fU (m n:Nat)(s:dw):Prop where
 log:s.log.length≤m
 ats:∀v t,s.ats v t=true↔∃x ∈ s.log,x.veh=v∧x.tm=t
 apt:s.log.Pairwise fun a b=>¬ (a.veh=b.veh∧a.tm=b.tm)
 paid:∀k,0≤s.paid.val k∧s.paid.val k≤10^9
 fb:∃L:List (List UInt8),L.length≤n∧∀k,s.bks.has k=true→k ∈ L
 fh:∃L:List (List UInt8),L.length≤n∧∀k,s.his.has k=true→k ∈ L
 non:∀k,s.his.has k=false→s.his.val k=none
 his:∀k,s.his.has k=true→∃g,s.his.val k=some g∧bN g=0
theorem fU.ok {m n:Nat}{s:dw}(h:fU m n s)(hm:m≤2^18)(hn:n<500):qK s where
 log:=by have:=h.log;omega
 paid k:=by have:=h.paid k;omega
 fb:=by obtain⟨L,h1,h2⟩:=h.fb;exact⟨L,by omega,h2⟩
 fh:=by obtain⟨L,h1,h2⟩:=h.fh;exact⟨L,by omega,h2⟩
 non:=h.non
 his k q:=by
  obtain⟨g,h1,h2⟩:=h.his k q;obtain⟨k1,k2,k3,_⟩:=lm h2;exact⟨g,h1,k1,k2,by omega⟩
theorem fU.up {m n m' n':Nat}{s:dw}(h:fU m n s)(hm:m≤m')(hn:n≤n'):fU m' n' s where
 log:=by have:=h.log;omega
 ats:=h.ats
 apt:=h.apt
 paid:=h.paid
 fb:=by obtain⟨L,h1,h2⟩:=h.fb;exact⟨L,by omega,h2⟩
 fh:=by obtain⟨L,h1,h2⟩:=h.fh;exact⟨L,by omega,h2⟩
 non:=h.non
 his:=h.his
theorem eA {s:dw}{x:cJ}(h:g8 s x=0):s.ats x.veh x.tm=false∧gv (s.sts.val x.veh) x=true:=by
 unfold g8 at h;have h1:=bj h _ (List.mem_cons_self ..);have h2:=bj h _ (List.mem_cons_of_mem _ (List.mem_cons_self ..));constructor
 · cases q:s.ats x.veh x.tm with
   |false=>rfl
   |true=>rw[q,if_pos rfl]at h1;exact absurd h1 (by decide)
 · cases q:gv (s.sts.val x.veh) x with
   |true=>rfl
   |false=>rw[q]at h2;exact absurd h2 (by decide)
theorem fU.say {m n:Nat}{s:dw}(h:fU m n s){x:cJ}(hc:s.ats x.veh x.tm=false):fU (m+1) n (gD s x) where
 log:=by show(s.log++ [x]).length≤_;rw[List.length_append,List.length_singleton];have:=h.log;omega
 ats v t:=by
  show CT s.ats x.veh x.tm v t=true↔∃y ∈ s.log++ [x],y.veh=v∧y.tm=t;unfold CT;rw[Bool.or_eq_true,h.ats v t];simp only[Bool.and_eq_true,decide_eq_true_eq,List.mem_append,List.mem_singleton];constructor
  · rintro(⟨h1,h2⟩|⟨y,h1,h2⟩)
    · exact⟨x,.inr rfl,h1.symm,h2.symm⟩
    · exact⟨y,.inl h1,h2⟩
  · rintro⟨y,h1|h1,h2⟩
    · exact .inr ⟨y,h1,h2⟩
    · subst h1;exact .inl ⟨h2.1.symm,h2.2.symm⟩
 apt:=by
  show(s.log++ [x]).Pairwise _;rw[List.pairwise_append];refine⟨h.apt,List.pairwise_singleton _ _,fun a ha b hb=> ?_⟩;rw[List.mem_singleton]at hb;subst hb;intro q;have:=(h.ats b.veh b.tm).2 ⟨a,ha,q⟩;rw[hc]at this;cases this
 paid:=h.paid
 fb:=h.fb
 fh:=h.fh
 non:=h.non
 his:=h.his
theorem Lj {m n:Nat}{s:dw}(h:fU m n s)(vm:Mp (List UInt8))(sm:Mp Bool)(x:cJ):fU (m+1) n (lP vm sm s x):=by
 unfold lP;split
 · rename_i e;unfold nt at e;exact h.say (eA (bj e _ (by simp))).1
 · exact h.up (by omega) (Nat.le_refl _)
theorem sK {α:Type}{n:Nat}{m:Mp α}{k:List UInt8}{v:α}(h:∃L:List (List UInt8),L.length≤n∧∀k,m.has k=true→k ∈ L):∃L:List (List UInt8),L.length≤n+1∧∀j,(m.put k v).has j=true→j ∈ L:=by
 obtain⟨L,h1,h2⟩:=h;refine⟨k::L,by rw[List.length_cons];omega,fun j hj=> ?_⟩;have hj:(decide (j=k)||m.has j)=true:=hj;rw[Bool.or_eq_true,decide_eq_true_eq]at hj;rcases hj with e|e
 · rw[e];exact List.mem_cons_self ..
 · exact List.mem_cons_of_mem _ (h2 j e)
theorem y7 {α:Type}{n:Nat}{m:Mp α}{k:List UInt8}{z:α}(h:∃L:List (List UInt8),L.length≤n∧∀k,m.has k=true→k ∈ L):∃L:List (List UInt8),L.length≤n∧∀j,(m.del k z).has j=true→j ∈ L:=by
 obtain⟨L,h1,h2⟩:=h;refine⟨L,h1,fun j hj=> ?_⟩;have hj:(!decide (j=k)&&m.has j)=true:=hj;rw[Bool.and_eq_true]at hj;exact h2 j hj.2
theorem nk {n n':Nat}{p:List UInt8→Bool}(h:∃L:List (List UInt8),L.length≤n∧∀k,p k=true→k ∈ L)(hn:n≤n'):∃L:List (List UInt8),L.length≤n'∧∀k,p k=true→k ∈ L:=by
 obtain⟨L,h1,h2⟩:=h;exact⟨L,by omega,h2⟩
theorem Co {m:Mp (Option di)}{k:List UInt8}{g:di}(h1:∀k,m.has k=false→m.val k=none)(h2:∀k,m.has k=true→∃g,m.val k=some g∧bN g=0)(hg:bN g=0):
 (∀j,(m.put k (some g)).has j=false→(m.put k (some g)).val j=none)∧∀j,(m.put k (some g)).has j=true→∃g',(m.put k (some g)).val j=some g'∧bN g' =0:=by
 refine⟨fun j hj=> ?_,fun j hj=> ?_⟩
 · have hj:(decide (j=k)||m.has j)=false:=hj;rw[Bool.or_eq_false_iff,decide_eq_false_iff_not]at hj;show(if j=k then some g else m.val j)=none;rw[if_neg hj.1];exact h1 j hj.2
 · have hj:(decide (j=k)||m.has j)=true:=hj;show ∃g',(if j=k then some g else m.val j)=some g'∧_
   by_cases q:j=k
   · rw[if_pos q];exact⟨g,rfl,hg⟩
   · rw[if_neg q];refine h2 j ?_;rw[Bool.or_eq_true,decide_eq_true_eq]at hj;rcases hj with e|e
     · exact absurd e q
     · exact e
theorem HP {m n:Nat}{s:dw}(h:fU m n s)(hh:eH)(b:Ca):fU m (n+1) (gi hh s b):=by
 unfold gi;split
 · exact⟨h.log,h.ats,h.apt,h.paid,sK h.fb,nk h.fh (by omega),h.non,h.his⟩
 · exact h.up (Nat.le_refl _) (by omega)
theorem Lx {m n:Nat}{s:dw}(h:fU m n s)(k:List UInt8)(c:Int):fU m n (kU s k c):=by
 unfold kU;split
 · rename_i e;unfold kf at e;have e2:=bj e _ (List.mem_cons_of_mem _ (List.mem_cons_self ..));have e3:=bj e _ (List.mem_cons_of_mem _ (List.mem_cons_of_mem _ (List.mem_cons_self ..)))
   have k1:0≤c∧c≤1000000000:=by
    by_cases q:0≤c∧c≤1000000000
    · exact q
    · rw[decide_eq_false q]at e2;exact absurd e2 (by decide)
   have k2:¬ 1000000000<s.paid.val k+c:=fun q=>by rw[if_pos q]at e3;exact absurd e3 (by decide)
   refine⟨h.log,h.ats,h.apt,fun j=> ?_,h.fb,h.fh,h.non,h.his⟩;show 0≤(if j=k then _ else s.paid.val j)∧(if j=k then _ else s.paid.val j)≤_;have:=h.paid j;have:=h.paid k
   by_cases q:j=k
   · rw[if_pos q];omega
   · rw[if_neg q];omega
 · exact h
theorem MN {m n:Nat}{s:dw}(h:fU m n s)(vm:Mp (List UInt8))(sm:Mp Bool)(a:Int)(t:lU):fU (m+1) (n+1) (s8 vm sm s a t):=by
 unfold s8;split
 · rename_i e;unfold Ay at e
   by_cases q:bN (kH a t)=0
   · rw[if_neg (fun c=>c q)]at e;have k1:=(eA (bj e (g8 s (mq a t)) (by simp))).1;have k2:=h.say k1;obtain⟨k3,k4⟩:=Co (k:=t.texts.getD 0 []) h.non h.his q;exact⟨k2.log,k2.ats,k2.apt,h.paid,nk (y7 h.fb) (by omega),sK h.fh,k3,k4⟩
   · rw[if_pos q]at e;exact absurd e q
 · exact h.up (by omega) (by omega)
theorem sB {vm:Mp (List UInt8)}{sm:Mp Bool}{s:dw}{g:di}{a:Int}{t:lU}(h:D5 vm sm s g a t=0):(bN g=0∧xc g=true∧bN (bo g a t)=0)∧e8 vm sm t=true∧∀i,i<(c7 g a t).length→g8 s ((c7 g a t).getD i dn)=0:=by
 unfold D5 at h
 by_cases q:al [iu g (bo g a t),if(!e8 vm sm t)then 8 else 0]=0
 · rw[if_neg (fun c=>c q)]at h;have e2:=bj q _ (List.mem_cons_of_mem _ (List.mem_cons_self ..));refine⟨E6 (bj q _ (List.mem_cons_self ..)),?_,bG h⟩
   cases k:e8 vm sm t with
   |true=>rfl
   |false=>rw[k]at e2;exact absurd e2 (by decide)
 · rw[if_pos q]at h;exact absurd h q
theorem Mc {m n:Nat}{s:dw}(h:fU m n s){vm:Mp (List UInt8)}{sm:Mp Bool}{g:di}{a:Int}{t:lU}(e:D5 vm sm s g a t=0):fU (m+2) n (cY s (c7 g a t)):=by
 obtain⟨⟨h1,h2,h3⟩,h4,h5⟩:=sB e;unfold c7 at h5 ⊢
 by_cases w1:t.word= [101,120,116,101,110,100]
 · rw[if_pos w1];exact h.up (by omega) (Nat.le_refl _)
 rw[if_neg w1]at h5 ⊢
 by_cases w2:t.word= [99,108,111,115,101]
 · rw[if_pos w2]at h5 ⊢;exact(h.say (eA (h5 0 (by simp))).1).up (by omega) (Nat.le_refl _)
 rw[if_neg w2]at h5 ⊢;unfold bo at h3;rw[if_neg w1,if_neg w2]at h3;have hne:=F6 (by have:=(lm h1).2.1;omega) h3;have k1:=(eA (h5 0 (by simp))).1;have k2:=(eA (h5 1 (by simp))).1;refine(h.say k1).say (x:=⟨a,t.texts.getD 2 [],t.texts.getD 1 [],2,[]⟩) ?_;show((decide (t.texts.getD 2 []=gq g)&&decide (a=a))||s.ats (t.texts.getD 2 []) a)=false;rw[decide_eq_false hne,Bool.false_and,Bool.false_or];exact k2
theorem N3 {m n:Nat}{s:dw}(h:fU m n s)(vm:Mp (List UInt8))(sm:Mp Bool)(a:Int)(t:lU):fU (m+2) (n+1) (jU vm sm s a t):=by
 unfold jU;split
 · rename_i e;unfold lM at e
   by_cases q:s.his.has (t.texts.getD 0 [])=true
   · rw[if_pos q]at e;have k2:=Mc h e;obtain⟨⟨h1,h2,h3⟩,_⟩:=sB e;obtain⟨k3,k4⟩:=Co (k:=t.texts.getD 0 []) k2.non k2.his h3;exact⟨k2.log,k2.ats,k2.apt,k2.paid,nk k2.fb (by omega),sK k2.fh,k3,k4⟩
   · rw[if_neg q]at e;exact absurd e (by decide)
 · exact h.up (by omega) (by omega)
theorem F7 {m n:Nat}{s:dw}(k:fU m n s)(h:eH)(vm:Mp (List UInt8))(sm:Mp Bool)(x:bv):fU (m+2) (n+1) (kN h vm sm s x):=by
 unfold kN;split
 · exact k.up (by omega) (by omega)
 split
 · exact(Lj k vm sm _).up (by omega) (by omega)
 split
 · exact(HP k h _).up (by omega) (by omega)
 split
 · split
   · exact⟨by have:=k.log;show s.log.length≤_;omega,k.ats,k.apt,k.paid,nk (y7 k.fb) (by omega),nk k.fh (by omega),k.non,k.his⟩
   · exact k.up (by omega) (by omega)
 split
 · exact(MN k vm sm _ _).up (by omega) (by omega)
 split
 · exact(Lx k _ _).up (by omega) (by omega)
 exact N3 k vm sm _ _
theorem Gl {h:eH}{vm:Mp (List UInt8)}{sm:Mp Bool}:∀ (l:List bv) {m n:Nat} {s:dw},fU m n s→fU (m+2*l.length) (n+l.length) (rJ h vm sm s l)
 | [],m,n,s,k=>k
 |x::l,m,n,s,k=>(Gl l (F7 k h vm sm x)).up (by rw[List.length_cons];omega) (by rw[List.length_cons];omega)
def kC:dw:=⟨Mp.nil oM,[],fun _ _=>false,Mp.nil lO,Mp.nil none,Mp.nil 0,[]⟩
theorem Hv:fU 0 0 kC where
 log:=Nat.le_refl _
 ats v t:=⟨fun h=>(by cases h),fun⟨x,h,_⟩=>(by cases h)⟩
 apt:=List.Pairwise.nil
 paid k:=by show(0:Int)≤0∧(0:Int)≤_;omega
 fb:=⟨[],Nat.le_refl _,fun k h=>by cases h⟩
 fh:=⟨[],Nat.le_refl _,fun k h=>by cases h⟩
 non k h:=rfl
 his k h:=by cases h
variable (h:eH) (vm:Mp (List UInt8)) (sm:Mp Bool)
theorem vA (l:List bv)(x:bv)(s:dw):rJ h vm sm s (l++ [x])=kN h vm sm (rJ h vm sm s l) x:=by
 unfold rJ;rw[List.foldl_append];rfl
theorem ni (x:bv):∀ (l:List bv) (s:dw) (j:Nat),uS h vm sm s j (l++ [x])=uS h vm sm s j l++(if kW h vm sm (rJ h vm sm s l) x=0 then []else [⟨((j+l.length:Nat):Int),kW h vm sm (rJ h vm sm s l) x⟩])
 | [],s,j=>by
   show(if kW h vm sm s x=0 then _ else _)= []++(if kW h vm sm s x=0 then _ else _)
   by_cases e:kW h vm sm s x=0
   · rw[if_pos e,if_pos e];rfl
   · rw[if_neg e,if_neg e];rfl
 | y::l,s,j=>by
   have e1:rJ h vm sm s (y::l)=rJ h vm sm (kN h vm sm s y) l:=rfl;have e3:j+(y::l).length=(j+1)+l.length:=by rw[List.length_cons];omega
   rw[List.cons_append,uS,uS,e1,e3]
   by_cases e:kW h vm sm s y=0
   · rw[if_pos e,if_pos e];exact ni x l _ _
   · rw[if_neg e,if_neg e,tQ e,ni x l s (j+1)];rfl
def mh (l:List bv)(i:Nat):dw:={rJ h vm sm kC (l.take i)with ref:=uS h vm sm kC 0 (l.take i)}
theorem EB {l:List bv}{i:Nat}(hi:i<l.length)(e:kW h vm sm (mh h vm sm l i) (l.getD i cW)=0):mh h vm sm l (i+1)=kN h vm sm (mh h vm sm l i) (l.getD i cW):=by
 have hx:l.take (i+1)=l.take i++ [l.getD i cW]:=by
  rw[List.take_succ_eq_append_getElem hi,List.getD_eq_getElem?_getD,List.getElem?_eq_getElem hi];rfl
 unfold mh at e ⊢;rw[yR]at e;rw[Gu,hx,vA,ni,if_pos e,List.append_nil]
theorem GF {l:List bv}{i:Nat}(hi:i<l.length)(e:kW h vm sm (mh h vm sm l i) (l.getD i cW)≠0):mh h vm sm l (i+1)={mh h vm sm l i with ref:=(mh h vm sm l i).ref++ [⟨i,kW h vm sm (mh h vm sm l i) (l.getD i cW)⟩]}:=by
 have hx:l.take (i+1)=l.take i++ [l.getD i cW]:=by
  rw[List.take_succ_eq_append_getElem hi,List.getD_eq_getElem?_getD,List.getElem?_eq_getElem hi];rfl
 unfold mh at e ⊢;rw[yR]at e ⊢;rw[hx,vA,ni,if_neg e,tQ e,List.length_take,Nat.min_eq_left (by omega),Nat.zero_add]
theorem GY {m n:Nat}{s:dw}(k:fU m n s)(r:List B7):fU m n {s with ref:=r}:=⟨k.log,k.ats,k.apt,k.paid,k.fb,k.fh,k.non,k.his⟩
theorem xD (l:List bv)(i:Nat)(hi:i≤l.length):fU (2*i) i (mh h vm sm l i):=by
 have:=Gl (h:=h) (vm:=vm) (sm:=sm) (l.take i) Hv;rw[List.length_take,Nat.min_eq_left hi]at this;exact GY (this.up (by omega) (by omega)) _
theorem tS:∀ (l:List bv) (s:dw) (j:Nat),(uS h vm sm s j l).length≤l.length
 | [],s,j=>Nat.le_refl _
 | x::l,s,j=>by
   rw[uS];split
   · have:=tS l (kN h vm sm s x) (j+1);rw[List.length_cons];omega
   · have:=tS l s (j+1);rw[List.length_cons,List.length_cons];omega
theorem FE (l:List bv)(i:Nat):(mh h vm sm l i).ref.length≤l.length:=by
 have:=tS h vm sm (l.take i) kC 0;rw[List.length_take]at this;show(uS h vm sm kC 0 (l.take i)).length≤_;omega
def lp (l:List mF):Mp (List UInt8):=l.foldl (fun m v=>m.put v.key v.cls) (Mp.nil [])
def pD (l:List wR):Mp Bool:=l.foldl (fun m s=>m.put s.key true) (Mp.nil false)
theorem yK {l:List mF}{i:Nat}(hi:i<l.length):lp (l.take (i+1))=(lp (l.take i)).put (l.getD i bD).key (l.getD i bD).cls:=by
 unfold lp;rw[List.take_succ_eq_append_getElem hi,List.foldl_append,List.getD_eq_getElem?_getD,List.getElem?_eq_getElem hi];rfl
theorem FQ {l:List wR}{i:Nat}(hi:i<l.length):pD (l.take (i+1))=(pD (l.take i)).put (l.getD i o9).key true:=by
 unfold pD;rw[List.take_succ_eq_append_getElem hi,List.foldl_append,List.getD_eq_getElem?_getD,List.getElem?_eq_getElem hi];rfl
def cq (h:eH)(l:List bv):dw:=mh h (lp h.flt.veh) (pD h.flt.sta) l l.length
structure jj {α:Type}(f:α→α→Int):Prop where
 sw:∀a b,f a b= - f b a
 tr:∀a b c,f a b<0→f b c<0→f a c<0
 co:∀a b,f a b=0→∀c,f a c=f b c
theorem jj.co' {α:Type}{f:α→α→Int}(h:jj f){a b:α}(e:f a b=0)(c:α):f c a=f c b:=by
 rw[h.sw c a,h.sw c b,h.co a b e c]
theorem jj.int {α:Type}(k:α→Int):jj fun a b=>eO (k a) (k b) where
 sw a b:=Ip _ _
 tr a b c h1 h2:=by rw[Ci]at*;omega
 co a b e c:=by rw[iP.1 e]
theorem jj.str {α:Type}(k:α→List UInt8):jj fun a b=>dJ (k a) (k b) where
 sw a b:=IG _ _
 tr a b c h1 h2:=BM h1 h2
 co a b e c:=by rw[kg.1 e]
def xl {α:Type}(f g:α→α→Int):α→α→Int:=fun a b=>if f a b=0 then g a b else f a b
theorem jj.seq {α:Type}{f g:α→α→Int}(hf:jj f)(hg:jj g):jj (xl f g) where
 sw a b:=by
  have h1:=hf.sw a b;have h2:=hg.sw a b;unfold xl
  by_cases e:f a b=0
  · rw[if_pos e,if_pos (by omega)];exact h2
  · rw[if_neg e,if_neg (by omega)];exact h1
 tr a b c h1 h2:=by
  unfold xl at*
  by_cases e1:f a b=0
  · rw[if_pos e1]at h1;have k:=hf.co a b e1 c
    by_cases e2:f b c=0
    · rw[if_pos e2]at h2;rw[if_pos (by omega)];exact hg.tr a b c h1 h2
    · rw[if_neg e2]at h2;rw[if_neg (by omega)];omega
  · rw[if_neg e1]at h1
    by_cases e2:f b c=0
    · have k:=hf.co' e2 a;rw[if_neg (by omega)];omega
    · rw[if_neg e2]at h2;have:=hf.tr a b c h1 h2;rw[if_neg (by omega)];exact this
 co a b e c:=by
  unfold xl at*
  by_cases e1:f a b=0
  · rw[if_pos e1]at e;rw[hf.co a b e1 c,hg.co a b e c]
  · rw[if_neg e1]at e;exact absurd e e1
theorem jj.le_tr {α:Type}{f:α→α→Int}(h:jj f){a b c:α}(h1:f a b≤0)(h2:f b c≤0):f a c≤0:=by
 by_cases e1:f a b=0
 · rw[h.co a b e1 c];exact h2
 · by_cases e2:f b c=0
   · rw[←h.co' e2 a];exact h1
   · have:=h.tr a b c (by omega) (by omega);omega
variable {α:Type}
theorem wB (U V W:List α)(x y d:α):(U++x::(V++y::W)).getD U.length d=x∧(U++x::(V++y::W)).getD (U.length+1+V.length) d=y∧((U++x::(V++y::W)).set U.length y).set (U.length+1+V.length) x=U++y::(V++x::W):=by
 refine⟨?_,?_,?_⟩
 · rw[List.getD_eq_getElem?_getD,List.getElem?_append_right (by omega),Nat.sub_self];rfl
 · rw[List.getD_eq_getElem?_getD,List.getElem?_append_right (by omega),show U.length+1+V.length - U.length=V.length+1 by omega,List.getElem?_cons_succ,List.getElem?_append_right (by omega),Nat.sub_self];rfl
 · rw[List.set_append_right _ _ (by omega),Nat.sub_self,List.set_cons_zero,List.set_append_right _ _ (by omega),show U.length+1+V.length - U.length=V.length+1 by omega,List.set_cons_succ,List.set_append_right _ _ (by omega),Nat.sub_self,List.set_cons_zero]
abbrev l6 (f:α→α→Int)(l:List α):Prop:=l.Pairwise fun a b=>f a b≤0
theorem Di {f:α→α→Int}(hf:jj f){Y:List α}(hY:l6 f Y){i j:Nat}(hj:j<Y.length)(hij:i≤j)(d:α):i=j∨f (Y.getD i d) (Y.getD j d)≤0:=by
 rcases Nat.lt_or_ge i j with q|q
 · right;rw[List.getD_eq_getElem?_getD,List.getD_eq_getElem?_getD,List.getElem?_eq_getElem (by omega),List.getElem?_eq_getElem hj];exact List.pairwise_iff_getElem.1 hY i j (by omega) hj q
 · left;omega
theorem xS {Y:List α}{t:Nat}{y:α}(h:y ∈ Y.take t)(d:α):∃i,i<t∧i<Y.length∧Y.getD i d=y:=by
 obtain⟨i,hi,e⟩:=List.getElem_of_mem h;rw[List.length_take]at hi;rw[List.getElem_take]at e;exact⟨i,by omega,by omega,by rw[List.getD_eq_getElem?_getD,List.getElem?_eq_getElem (by omega)];exact e⟩
theorem zV {Y:List α}{t:Nat}{y:α}(h:y ∈ Y.drop t)(d:α):∃i,t≤i∧i<Y.length∧Y.getD i d=y:=by
 obtain⟨i,hi,e⟩:=List.getElem_of_mem h;rw[List.length_drop]at hi;rw[List.getElem_drop]at e;exact⟨t+i,by omega,by omega,by rw[List.getD_eq_getElem?_getD,List.getElem?_eq_getElem (by omega)];exact e⟩
theorem pW {f:α→α→Int}(hf:jj f){Y:List α}(hY:l6 f Y){x d:α}{t:Nat}(ht:t≤Y.length)(h:t=0∨f (Y.getD (t - 1) d) x≤0):∀y ∈ Y.take t,f y x≤0:=fun y hy=>by
 obtain⟨i,h1,h2,rfl⟩:=xS hy d;rcases h with h|h
 · omega
 rcases Di hf hY (i:=i) (j:=t - 1) (by omega) (by omega) d with e|e
 · rw[e];exact h
 · exact hf.le_tr e h
theorem qd {f:α→α→Int}(hf:jj f){Y:List α}(hY:l6 f Y){x d:α}{t:Nat}(h:t=Y.length∨f x (Y.getD t d)≤0):∀y ∈ Y.drop t,f x y≤0:=fun y hy=>by
 obtain⟨i,h1,h2,rfl⟩:=zV hy d;rcases h with h|h
 · omega
 rcases Di hf hY (i:=t) (j:=i) (by omega) (by omega) d with e|e
 · rw[←e];exact h
 · exact hf.le_tr h e
theorem Cg {f:α→α→Int}{Y1 Y2:List α}{x:α}(hY:l6 f (Y1++Y2))(h1:∀y ∈ Y1,f y x≤0)(h2:∀y ∈ Y2,f x y≤0):l6 f (Y1++x::Y2):=by
 rw[l6,List.pairwise_append]at hY ⊢;refine⟨hY.1,List.pairwise_cons.2 ⟨h2,hY.2.1⟩,fun a ha b hb=> ?_⟩;rcases List.mem_cons.1 hb with e|hb
 · rw[e];exact h1 a ha
 · exact hY.2.2 a ha b hb
theorem F8 {f:α→α→Int}{Z1 Z2 X1 Y1 X2 Y2:List α}(p1:Z1.Perm (X1++Y1))(s1:l6 f Z1)(p2:Z2.Perm (X2++Y2))(s2:l6 f Z2)(hX:l6 f (X1++X2))(hY:l6 f (Y1++Y2))
 (h1:∀x ∈ X1,∀y ∈ Y2,f x y≤0)(h2:∀y ∈ Y1,∀x ∈ X2,f y x≤0):(Z1++Z2).Perm ((X1++X2)++(Y1++Y2))∧l6 f (Z1++Z2):=by
 constructor
 · refine(p1.append p2).trans ?_;rw[List.append_assoc,List.append_assoc];exact List.Perm.append_left X1 (List.perm_append_comm_assoc _ _ _)
 · rw[l6,List.pairwise_append]at hX hY ⊢;refine⟨s1,s2,fun a ha b hb=> ?_⟩;rcases List.mem_append.1 (p1.mem_iff.1 ha)with q|q<;>rcases List.mem_append.1 (p2.mem_iff.1 hb)with r|r
   · exact hX.2.2 a q b r
   · exact h1 a q b r
   · exact h2 a q b r
   · exact hY.2.2 a q b r
theorem vp {f:α→α→Int}(hf:jj f){X Y:List α}(hX:l6 f X)(hY:l6 f Y){d:α}{s e:Nat}(hs:s≤X.length)(h:s=0∨e=Y.length∨f (X.getD (s - 1) d) (Y.getD e d)≤0):
 ∀x ∈ X.take s,∀y ∈ Y.drop e,f x y≤0:=fun x hx y hy=>by
 rcases h with h|h|h
 · subst h;rw[List.take_zero]at hx;cases hx
 · subst h;rw[List.drop_length]at hy;cases hy
 · exact hf.le_tr (pW hf hX hs (.inr h) x hx) (qd hf hY (d:=d) (t:=e) (.inr (by have:=hf.sw (Y.getD e d) (Y.getD e d);omega)) y hy)
theorem j4 {P X S:List α}{i:Nat}(h1:P.length≤i)(h2:i<P.length+X.length)(d:α):(P++(X++S)).getD i d=X.getD (i - P.length) d:=by
 rw[List.getD_eq_getElem?_getD,List.getElem?_append_right h1,List.getElem?_append_left (by omega),List.getD_eq_getElem?_getD]
theorem m0 {f:α→α→Int}(hf:jj f)(l:List α):l6 f (eI f l):=
 sa f (fun a b=>f a b≤0) (fun _ _ _ h1 h2=>hf.le_tr h1 h2) l (List.pairwise_of_forall fun x y=>⟨fun q=>by omega,fun q=>by have:=hf.sw x y;omega⟩)
theorem yo {f:α→α→Int}(hf:jj f){l c:List α}(hz:∀a ∈ l,∀b ∈ l,f a b=0→a=b)(hp:c.Perm l)(hs:l6 f c):c=eI f l:=
 List.Perm.eq_of_pairwise (le:=fun a b=>f a b≤0) (fun x y hx hy q1 q2=>hz x (hp.mem_iff.1 hx) y ((eh f l).mem_iff.1 hy) (by have:=hf.sw x y;omega)) hs (m0 hf l) (hp.trans (eh f l).symm)
theorem qo (X:List α)(s:Nat)(hs:s≤X.length):X.take s++X.drop s=X∧(X.take s).length=s∧(X.drop s).length=X.length - s:=by
 refine⟨List.take_append_drop s X,by rw[List.length_take];omega,List.length_drop ..⟩
def sA:OL:= [(0,[]),(1,[0]),(2,[0,1]),(3,[0]),(4,rg 4),(5,rg 5),(6,rg 6),(7,rg 5),(8,rg 8),(9,rg 9),(10,rg 10),(11,rg 9),(12,rg 8),(13,rg 8),(14,rg 14),(15,rg 15),(16,rg 16),(17,rg 15),(18,rg 14),(19,rg 14),(20,[4,5,6,7]),(21,[4,5,6,7]),(22,[]),(23,[])]
theorem A7 (g:FuncId)(P A M B S c:List cJ)(a b n:Nat)(ha:P.length=a)(hb0:a+A.length+M.length=b)(hn:A.length=n)(hAB:B.length=n)(hc:c=P++(A++(M++(B++S))))(hl:c.length≤2^20):
 ai Tryz.prog 307 [.buf 1000001,.d (.int .i64 a),.d (.int .i64 b),.d (.int .i64 n),.fn g []] [(1000001,aL 242 5 iy dn c)]
  (fun y r=>y= .tup []∧r= [(1000001,aL 242 5 iy dn (P++(B++(M++(A++S)))))]):=by
 have hl0:=hl;rw[hc]at hl0;simp only[List.length_append]at hl0;refine ae hT (C:= []) Tryz.func307 rfl Tryz.call307 rfl rfl rfl ?_;conv=>whnf
 refine ah hT (C:= []) (ι:=Nat×List cJ×List cJ×List cJ×List cJ×List cJ) (fun(i,A1,A2,B1,B2,c)=>A1++A2=A∧B1++B2=B∧A1.length=i∧B1.length=i∧c=P++(B1++(A2++(M++(A1++(B2++S))))))
  (fun(i,_,_,_,_,c)=>aI [(0,.buf 1000001),(1,.d (.int .i64 a)),(2,.d (.int .i64 b)),(3,.d (.int .i64 n)),(10,.d (.int .i64 i))] [(1000001,aL 242 5 iy dn c)])
  (fun(i,_,_,_,_,_)=>n - i) (0,[],A,[],B,c) ⟨rfl,rfl,rfl,rfl,hc⟩ (by exact be [(1000001,1000001)]) ?_
 rintro⟨i,A1,A2,B1,B2,d⟩ ⟨p1,p2,p3,p4,p5⟩;have l1:A1.length+A2.length=A.length:=by rw[←p1,List.length_append]
 have l2:B1.length+B2.length=B.length:=by rw[←p2,List.length_append]
 cases A2 with
 | nil=>
   have hb9:B2= []:=List.length_eq_zero_iff.1 (by simp only[List.length_nil]at l1;omega);subst hb9;rw[List.append_nil]at p1 p2;subst p1 p2;simp only[List.length_nil]at l1 l2;conv=>whnf
   repeat' (first|((first|(refine aa ?_ ?_<;>intro hb<;>try simp only[az]at hb)|refine aq hT 3 sA ?_|omega|refine aA ?_|decide|assumption)<;>conv=>whnf))
   all_goals first
    |(exfalso;omega)
    | (refine .ret _ ?_
       conv=>whnf
       exact⟨_,⟨rfl,rfl⟩,by rw[p5];exact rr,trivial⟩)
 |cons x A2=>
 cases B2 with
 |nil=>exfalso;simp only[List.length_nil,List.length_cons]at l1 l2;omega
 |cons y B2=>
 simp only[List.length_cons]at l1 l2;have hc':d=(P++B1)++x::((A2++(M++A1))++y::(B2++S)):=by rw[p5];simp
 have hlc:d.length=P.length+A.length+M.length+B.length+S.length:=by rw[hc'];simp only[List.length_append,List.length_cons];omega
 have i1:((a:Int)+(i:Int)).toNat=(P++B1).length:=by rw[List.length_append];omega
 have i2:((b:Int)+(i:Int)).toNat=(P++B1).length+1+(A2++(M++A1)).length:=by simp only[List.length_append];omega
 obtain⟨g1,g2,g3⟩:=wB (P++B1) (A2++(M++A1)) (B2++S) x y dn;rw[←hc',←i1]at g1;rw[←hc',←i2]at g2;rw[←hc',←i2,←i1]at g3;conv=>whnf
 repeat' (first|((first|(refine aa ?_ ?_<;>intro hb<;>try simp only[az]at hb)|refine aq hT 3 sA ?_|omega|refine aA ?_|decide|assumption)<;>conv=>whnf))
 all_goals first
  |(exfalso;omega)
  |(refine⟨(i+1,A1++ [x],A2,B1++ [y],B2,(d.set ((a:Int)+(i:Int)).toNat (d.getD ((b:Int)+(i:Int)).toNat dn)).set ((b:Int)+(i:Int)).toNat (d.getD ((a:Int)+(i:Int)).toNat dn)),⟨by rw[←p1];simp,by rw[←p2];simp,by simp only[List.length_append,List.length_cons,List.length_nil];omega,by simp only[List.length_append,List.length_cons,List.length_nil];omega,by rw[g1,g2,g3];simp⟩,by show n - (i+1)<n - i;omega,af [(1000001,1000001)] rfl rfl ⟨lr,lr,lr,lr,ap (by omega),trivial⟩ ⟨fN (fun _=>rfl) (fun _=>rfl),trivial⟩⟩)
theorem KN (g:FuncId)(P X Y S c:List cJ)(a m b:Nat)(ha:P.length=a)(hm:a+X.length=m)(hb0:m+Y.length=b)(hc:c=P++(X++(Y++S)))(hX:1≤X.length)(hY:1≤Y.length)(hl:c.length≤2^20):
 ai Tryz.prog 289 [.buf 1000001,.d (.int .i64 a),.d (.int .i64 m),.d (.int .i64 b),.fn g []] [(1000001,aL 242 5 iy dn c)]
  (fun y r=>y= .tup []∧r= [(1000001,aL 242 5 iy dn (P++(Y++(X++S))))]):=by
 have hl0:=hl;rw[hc]at hl0;simp only[List.length_append]at hl0;refine ae hT (C:= []) Tryz.func289 rfl Tryz.call289 rfl rfl rfl ?_;conv=>whnf
 repeat' (first|((first|(refine aa ?_ ?_<;>intro hb<;>try simp only[az]at hb)|omega|refine aA ?_|decide|assumption)<;>conv=>whnf))
 refine ah hT (C:= []) (ι:=Nat×Nat×List cJ×List cJ×List cJ×List cJ×List cJ) (fun(i,j,A,X',Y',B,c)=>A++(Y'++(X'++B))=P++(Y++(X++S))∧A.length+i=m∧X'.length=i∧Y'.length=j∧1≤i∧1≤j∧c=A++(X'++(Y'++B)))
  (fun(i,j,_,_,_,_,c)=>aI [(0,.buf 1000001),(2,.d (.int .i64 m)),(4,.fn g []),(10,.d (.int .i64 i)),(11,.d (.int .i64 j))] [(1000001,aL 242 5 iy dn c)])
  (fun(i,j,_,_,_,_,_)=>i+j) (X.length,Y.length,P,X,Y,S,c) ⟨rfl,by show P.length+X.length=m;omega,rfl,rfl,hX,hY,hc⟩ (by exact be [(1000001,1000001)]) ?_
 rintro⟨i,j,A,X',Y',B,d⟩ ⟨p1,p2,p3,p4,p5,p6,p7⟩
 have q1:A.length+X'.length+Y'.length+B.length=P.length+X.length+Y.length+S.length:=by
  have:=congrArg List.length p1;simp only[List.length_append]at this;omega
 have hld:d.length≤2^20:=by rw[p7];simp only[List.length_append];omega
 have e1:((m:Int) - (i:Int))=((A.length:Nat):Int):=by omega
 rcases Nat.lt_trichotomy i j with q|q|q
 · obtain⟨k1,k2,k3⟩:=qo Y' (j - i) (by omega);generalize List.take (j - i) Y' =U at k1 k2;generalize List.drop (j - i) Y' =V at k1 k3;subst k1;simp only[List.length_append]at p4 q1;have c1:=A7 g A X' U V B d A.length (A.length+i+U.length) i rfl (by omega) p3 (by omega) (by rw[p7];simp) hld;conv=>whnf
   repeat' (first|((first|(refine dQ.of c1 [(1000001,1000001)] rfl ⟨lr,ap (by omega),ap (by omega),lr,lr,trivial⟩ ⟨rr,trivial⟩ rfl rfl ?_;rintro y rout ⟨rfl,rfl⟩;refine⟨rfl,?_⟩)|(refine aa ?_ ?_<;>intro hb<;>try simp only[az]at hb)|omega|refine aA ?_|decide|assumption)<;>conv=>whnf))
   all_goals first
    |(exfalso;omega)
    |exact⟨(i,j - i,A,V,U,X'++B,A++(V++(U++(X'++B)))),⟨by rw[←p1];simp,p2,by omega,by omega,by omega,by omega,by simp⟩,by show i+(j - i)<i+j;omega,(by exact be [(1000001,1000001)])⟩
 · have c1:=A7 g A X' [] Y' B d A.length m i rfl (by show A.length+X'.length+0=m;omega) p3 (by omega) (by rw[p7];simp) hld;conv=>whnf
   repeat' (first|((first|(refine dQ.of c1 [(1000001,1000001)] rfl ⟨lr,ap (by omega),lr,lr,lr,trivial⟩ ⟨rr,trivial⟩ rfl rfl ?_;rintro y rout ⟨rfl,rfl⟩;refine⟨rfl,?_⟩)|(refine aa ?_ ?_<;>intro hb<;>try simp only[az]at hb)|omega|refine aA ?_|decide|assumption)<;>conv=>whnf))
   all_goals first
    |(exfalso;omega)
    | (rw[←p1]
       refine .ret _ ?_;conv=>whnf
       exact⟨_,⟨rfl,rfl⟩,rr,trivial⟩)
 · obtain⟨k1,k2,k3⟩:=qo X' j (by omega);generalize List.take j X' =U at k1 k2;generalize List.drop j X' =V at k1 k3;subst k1;simp only[List.length_append]at p3 q1;have c1:=A7 g A U V Y' B d A.length m j rfl (by omega) (by omega) p4 (by rw[p7];simp) hld;conv=>whnf
   repeat' (first|((first|(refine dQ.of c1 [(1000001,1000001)] rfl ⟨lr,ap (by omega),lr,lr,lr,trivial⟩ ⟨rr,trivial⟩ rfl rfl ?_;rintro y rout ⟨rfl,rfl⟩;refine⟨rfl,?_⟩)|(refine aa ?_ ?_<;>intro hb<;>try simp only[az]at hb)|omega|refine aA ?_|decide|assumption)<;>conv=>whnf))
   all_goals first
    |(exfalso;omega)
    |exact⟨(i - j,j,A++Y',V,U,B,A++(Y'++(V++(U++B)))),⟨by rw[←p1];simp,by simp only[List.length_append];omega,by omega,by omega,by omega,by omega,by simp⟩,by show i - j+j<i+j;omega,(by exact be [(1000001,1000001)])⟩
end Go.Proofs.YtkokpbpililcdaaGreatDoor
