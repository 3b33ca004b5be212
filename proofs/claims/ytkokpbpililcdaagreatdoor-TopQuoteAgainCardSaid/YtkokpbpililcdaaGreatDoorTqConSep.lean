/- TopQuoteAgain is proved: for every input the law returns true, and its argument reads afterwards as it read before. Conditions: those of the given row alone. -/
import Derived.Test.YtkokpbpililcdaaGreatDoorTqConQui
import Derived.Test.YtkokpbpililcdaaGreatDoorTqConSex
import Derived.Test.YtkokpbpililcdaaGreatDoorTqConOne
import Derived.Test.YtkokpbpililcdaaGreatDoorTqConTwo
set_option linter.unusedVariables false
set_option linter.unusedSimpArgs false
set_option maxRecDepth 20000
namespace Go.Proofs.YtkokpbpililcdaaGreatDoor
open Go Go.Eng
def oJOfH152_1:OL:= [(0,[]),(1,[]),(7,[0,1]),(2,[0,1,7]),(3,[7]),(4,[7]),(5,[7]),(6,[7,5]),(8,[6]),(9,[])]
def oJOfH152_4:OL:= [(1,[]),(2,[]),(0,[1,2]),(3,[]),(4,[]),(5,[]),(6,[5]),(7,[6]),(8,[])]
def oJOfH152_6:OL:= [(0,[]),(1,[]),(2,[0,1]),(3,[0,1]),(4,[0,1]),(5,[0,1]),(6,rg 6),(7,rg 6),(8,rg 6),(9,rg 6),(10,rg 10),(11,[]),(12,rg 12),(13,[])]
def oJOfH152_12:OL:= [(0,[]),(1,[0]),(2,[0]),(3,[0]),(4,[0]),(5,rg 5),(6,rg 5),(7,rg 5),(8,rg 5),(9,rg 9),(10,rg 9),(11,rg 9),(12,rg 9),(13,rg 13),(14,rg 13),(15,rg 13),(16,rg 13),(17,rg 9),(18,rg 18),(19,rg 18),(20,rg 20),(21,rg 20),(22,rg 20),(23,rg 20),(24,[0]),(25,[]),(26,[])]
def oJOfH152_14:OL:= [(0,[]),(1,[]),(2,[]),(3,[]),(4,rg 4),(5,rg 4),(6,rg 4),(7,rg 4),(8,[]),(9,[]),(10,[]),(11,[10]),(12,rg 12),(13,[11]),(14,[])]
def oJOfH152_17:OL:= [(0,[]),(1,[]),(2,[]),(3,[]),(4,rg 4),(5,rg 4),(6,rg 4),(7,rg 4),(8,[])]
def oJOfH152_22:OL:= [(0,[]),(1,[0]),(2,[0]),(3,[0]),(4,[0]),(5,rg 5),(6,rg 5),(7,rg 5),(8,rg 5),(9,[]),(10,[])]
set_option maxHeartbeats 4000000 in
theorem wFollowB (h:Hou)(hco:clsOk h.flt.cls)(vm:Mp (List UInt8))(sm:Mp Bool)(s:Off)(hs:offOk s)(x:Ent)(hx:x.words.length≤2^20)(hf:∀k,(formsM.val k).length≤2^20)(ht:telOk formsM x.words=true)(t:Tol)(hte:telT formsM x.words=t)(hk:tolL t)(hk1:kindsM.has t.word=false)(hw:t.word= [98,111,111,107]):
 FSpec Tryz.prog 152 [.ptr 1000001 0,.agg ((enF x).map .d)] ((1000009,KX)::offR h vm sm s) (fun y r=>y= .d (.int .i64 (bookE h s ⟨t.texts.getD 0 [],t.texts.getD 1 [],t.nums.getD 0 0,t.nums.getD 1 0,x.tm,t.nums.getD 2 0⟩))∧r=(1000009,KX)::offO h vm sm (bookS h s ⟨t.texts.getD 0 [],t.texts.getD 1 [],t.nums.getD 0 0,t.nums.getD 1 0,x.tm,t.nums.getD 2 0⟩)):=by
 have c1:=wTell formsM hf x.words hx;rw[ht,if_pos rfl,hte]at c1;obtain⟨l1,l2⟩:=hk.bk hw;have l3:=hk.tx;have c2:=wBook h hco vm sm s ⟨t.texts.getD 0 [],t.texts.getD 1 [],t.nums.getD 0 0,t.nums.getD 1 0,x.tm,t.nums.getD 2 0⟩ (by have:=l3 0;show(t.texts.getD 0 []).length≤_;omega) (by have:=l3 1;show(t.texts.getD 1 []).length≤_;omega) hs.fb;refine spec_of hT (C:= []) Tryz.func152 rfl Tryz.call152 rfl rfl rfl ?_;conv=>whnf
 repeat' (first|((first|(refine oAx wForms [(1,20)] ?_;rintro y rout ⟨rfl,rfl⟩;refine⟨rfl,?_⟩)|(refine oAx wKinds [(1,30)] ?_;rintro y rout ⟨rfl,rfl⟩;refine⟨rfl,?_⟩)|(refine oAx c1 [(1000001,20),(1000009,1000009)] ?_;rintro y rout ⟨rfl,rfl⟩;refine⟨rfl,?_⟩)|refine And.intro (rfl:zrow _=some [DV.int .i64 0]) ?_|(refine oAx (c2) rq1 ?_;rintro y rout ⟨rfl,rfl⟩;refine⟨rfl,?_⟩)|(refine br_intro ?_ ?_<;>intro hb<;>try simp only[brs]at hb)|refine rAx hT 1 oJOfH152_1 ?_|refine rAx hT 4 oJOfH152_4 ?_|refine rAx hT 6 oJOfH152_6 ?_|refine rAx hT 12 oJOfH152_12 ?_|refine rAx hT 14 oJOfH152_14 ?_|refine rAx hT 17 oJOfH152_17 ?_|refine rAx hT 22 oJOfH152_22 ?_|omega|refine sAx ?_|decide|assumption)<;>conv=>whnf))
 all_goals try(exfalso;contradiction)
 all_goals try (exfalso;have q:kindsM.has t.word=true:=by assumption
                rw[hk1]at q;cases q)
 all_goals
  refine .ent _ _ (Entails.mk' (ts:= [(4,.d (.int .i64 (bookE h s ⟨t.texts.getD 0 [],t.texts.getD 1 [],t.nums.getD 0 0,t.nums.getD 1 0,x.tm,t.nums.getD 2 0⟩)))]) (rs:=(1000009,KX)::offO h vm sm (bookS h s ⟨t.texts.getD 0 [],t.texts.getD 1 [],t.nums.getD 0 0,t.nums.getD 1 0,x.tm,t.nums.getD 2 0⟩)) rq9 rfl rfl ⟨lr,trivial⟩ ⟨rr,rr,rr,rr,rr,rr,rr,rr,rr,rr,rr,trivial⟩) ?_;refine .ret _ ?_;conv=>whnf
  exact⟨_,⟨rfl,rfl⟩,rr,rr,rr,rr,rr,rr,rr,rr,rr,rr,rr,trivial⟩
set_option maxHeartbeats 4000000 in
theorem wFollowS (h:Hou)(hco:clsOk h.flt.cls)(vm:Mp (List UInt8))(sm:Mp Bool)(s:Off)(hs:offOk s)(x:Ent)(hx:x.words.length≤2^20)(hf:∀k,(formsM.val k).length≤2^20)(ht:telOk formsM x.words=true)(t:Tol)(hte:telT formsM x.words=t)(hk:tolL t)(hk1:kindsM.has t.word=false)(hw:t.word= [115,116,97,114,116])(hw1:¬t.word= [98,111,111,107])(hw2:¬t.word= [99,97,110,99,101,108]):
 FSpec Tryz.prog 152 [.ptr 1000001 0,.agg ((enF x).map .d)] ((1000009,KX)::offR h vm sm s) (fun y r=>y= .d (.int .i64 (stE vm sm s x.tm t))∧r=(1000009,KX)::offO h vm sm (stS vm sm s x.tm t)):=by
 have c1:=wTell formsM hf x.words hx;rw[ht,if_pos rfl,hte]at c1;obtain⟨l1,l2⟩:=hk.st hw;have l3:=hk.tx;have c2:=wSt h vm sm s (by have:=hs.log;omega) x.tm t l1 l2 (fun j=>by have:=l3 j;omega) hs.fh;refine spec_of hT (C:= []) Tryz.func152 rfl Tryz.call152 rfl rfl rfl ?_;conv=>whnf
 repeat' (first|((first|(refine oAx wForms [(1,20)] ?_;rintro y rout ⟨rfl,rfl⟩;refine⟨rfl,?_⟩)|(refine oAx wKinds [(1,30)] ?_;rintro y rout ⟨rfl,rfl⟩;refine⟨rfl,?_⟩)|(refine oAx c1 [(1000001,20),(1000009,1000009)] ?_;rintro y rout ⟨rfl,rfl⟩;refine⟨rfl,?_⟩)|refine And.intro (rfl:zrow _=some [DV.int .i64 0]) ?_|(refine oAx (c2) rq1 ?_;rintro y rout ⟨rfl,rfl⟩;refine⟨rfl,?_⟩)|(refine br_intro ?_ ?_<;>intro hb<;>try simp only[brs]at hb)|refine rAx hT 1 oJOfH152_1 ?_|refine rAx hT 4 oJOfH152_4 ?_|refine rAx hT 6 oJOfH152_6 ?_|refine rAx hT 12 oJOfH152_12 ?_|refine rAx hT 14 oJOfH152_14 ?_|refine rAx hT 17 oJOfH152_17 ?_|refine rAx hT 22 oJOfH152_22 ?_|omega|refine sAx ?_|decide|assumption)<;>conv=>whnf))
 all_goals try(exfalso;contradiction)
 all_goals try (exfalso;have q:kindsM.has t.word=true:=by assumption
                rw[hk1]at q;cases q)
 all_goals
  refine .ent _ _ (Entails.mk' (ts:= [(4,.d (.int .i64 (stE vm sm s x.tm t)))]) (rs:=(1000009,KX)::offO h vm sm (stS vm sm s x.tm t)) rq9 rfl rfl ⟨lr,trivial⟩ ⟨rr,rr,rr,rr,rr,rr,rr,rr,rr,rr,rr,trivial⟩) ?_;refine .ret _ ?_;conv=>whnf
  exact⟨_,⟨rfl,rfl⟩,rr,rr,rr,rr,rr,rr,rr,rr,rr,rr,rr,trivial⟩
set_option maxHeartbeats 4000000 in
theorem wFollowP (h:Hou)(hco:clsOk h.flt.cls)(vm:Mp (List UInt8))(sm:Mp Bool)(s:Off)(hs:offOk s)(x:Ent)(hx:x.words.length≤2^20)(hf:∀k,(formsM.val k).length≤2^20)(ht:telOk formsM x.words=true)(t:Tol)(hte:telT formsM x.words=t)(hk:tolL t)(hk1:kindsM.has t.word=false)(hw:t.word= [112,97,121])(hw1:¬t.word= [98,111,111,107])(hw2:¬t.word= [99,97,110,99,101,108])(hw3:¬t.word= [115,116,97,114,116]):
 FSpec Tryz.prog 152 [.ptr 1000001 0,.agg ((enF x).map .d)] ((1000009,KX)::offR h vm sm s) (fun y r=>y= .d (.int .i64 (payE s (t.texts.getD 0 []) (t.nums.getD 0 0)))∧r=(1000009,KX)::offO h vm sm (payS s (t.texts.getD 0 []) (t.nums.getD 0 0))):=by
 have c1:=wTell formsM hf x.words hx;rw[ht,if_pos rfl,hte]at c1;obtain⟨l1,l2⟩:=hk.py hw;have l3:=hk.nm 0;have c2:=wPay h vm sm s (t.texts.getD 0 []) (t.nums.getD 0 0) (by omega) (hs.paid _);refine spec_of hT (C:= []) Tryz.func152 rfl Tryz.call152 rfl rfl rfl ?_;conv=>whnf
 repeat' (first|((first|(refine oAx wForms [(1,20)] ?_;rintro y rout ⟨rfl,rfl⟩;refine⟨rfl,?_⟩)|(refine oAx wKinds [(1,30)] ?_;rintro y rout ⟨rfl,rfl⟩;refine⟨rfl,?_⟩)|(refine oAx c1 [(1000001,20),(1000009,1000009)] ?_;rintro y rout ⟨rfl,rfl⟩;refine⟨rfl,?_⟩)|refine And.intro (rfl:zrow _=some [DV.int .i64 0]) ?_|(refine oAx (c2) rq1 ?_;rintro y rout ⟨rfl,rfl⟩;refine⟨rfl,?_⟩)|(refine br_intro ?_ ?_<;>intro hb<;>try simp only[brs]at hb)|refine rAx hT 1 oJOfH152_1 ?_|refine rAx hT 4 oJOfH152_4 ?_|refine rAx hT 6 oJOfH152_6 ?_|refine rAx hT 12 oJOfH152_12 ?_|refine rAx hT 14 oJOfH152_14 ?_|refine rAx hT 17 oJOfH152_17 ?_|refine rAx hT 22 oJOfH152_22 ?_|omega|refine sAx ?_|decide|assumption)<;>conv=>whnf))
 all_goals try(exfalso;contradiction)
 all_goals try (exfalso;have q:kindsM.has t.word=true:=by assumption
                rw[hk1]at q;cases q)
 all_goals
  refine .ent _ _ (Entails.mk' (ts:= [(4,.d (.int .i64 (payE s (t.texts.getD 0 []) (t.nums.getD 0 0))))]) (rs:=(1000009,KX)::offO h vm sm (payS s (t.texts.getD 0 []) (t.nums.getD 0 0))) rq9 rfl rfl ⟨lr,trivial⟩ ⟨rr,rr,rr,rr,rr,rr,rr,rr,rr,rr,rr,trivial⟩) ?_;refine .ret _ ?_;conv=>whnf
  exact⟨_,⟨rfl,rfl⟩,rr,rr,rr,rr,rr,rr,rr,rr,rr,rr,rr,trivial⟩
set_option maxHeartbeats 4000000 in
theorem wFollowC (h:Hou)(hco:clsOk h.flt.cls)(vm:Mp (List UInt8))(sm:Mp Bool)(s:Off)(hs:offOk s)(x:Ent)(hx:x.words.length≤2^20)(hf:∀k,(formsM.val k).length≤2^20)(ht:telOk formsM x.words=true)(t:Tol)(hte:telT formsM x.words=t)(hk:tolL t)(hk1:kindsM.has t.word=false)(hw:t.word= [99,97,110,99,101,108])(hw1:¬t.word= [98,111,111,107]):
 FSpec Tryz.prog 152 [.ptr 1000001 0,.agg ((enF x).map .d)] ((1000009,KX)::offR h vm sm s) (fun y r=>y= .d (.int .i64 (if s.bks.has (t.texts.getD 0 [])then 0 else 8))∧r=(1000009,KX)::offO h vm sm (if s.bks.has (t.texts.getD 0 [])then{s with bks:=s.bks.del (t.texts.getD 0 []) bk0}else s)):=by
 have c1:=wTell formsM hf x.words hx;rw[ht,if_pos rfl,hte]at c1;have l1:=hk.cn hw;refine spec_of hT (C:= []) Tryz.func152 rfl Tryz.call152 rfl rfl rfl ?_;conv=>whnf
 repeat' (first|((first|(refine oAx wForms [(1,20)] ?_;rintro y rout ⟨rfl,rfl⟩;refine⟨rfl,?_⟩)|(refine oAx wKinds [(1,30)] ?_;rintro y rout ⟨rfl,rfl⟩;refine⟨rfl,?_⟩)|(refine oAx c1 [(1000001,20),(1000009,1000009)] ?_;rintro y rout ⟨rfl,rfl⟩;refine⟨rfl,?_⟩)|refine And.intro (rfl:zrow _=some [DV.int .i64 0]) ?_|refine And.intro (rfl:zrow _=some (bkF bk0)) ?_|(refine br_intro ?_ ?_<;>intro hb<;>try simp only[brs]at hb)|refine rAx hT 1 oJOfH152_1 ?_|refine rAx hT 4 oJOfH152_4 ?_|refine rAx hT 6 oJOfH152_6 ?_|refine rAx hT 12 oJOfH152_12 ?_|refine rAx hT 14 oJOfH152_14 ?_|refine rAx hT 17 oJOfH152_17 ?_|refine rAx hT 22 oJOfH152_22 ?_|omega|refine sAx ?_|decide|assumption)<;>conv=>whnf))
 all_goals try(exfalso;contradiction)
 all_goals try (exfalso;have q:kindsM.has t.word=true:=by assumption
                rw[hk1]at q;cases q)
 all_goals first
  | (have q:s.bks.has (t.texts.getD 0 [])=false:=by first|exact hb|assumption
     have e1:(if s.bks.has (t.texts.getD 0 [])then(0:Int)else 8)=8:=by rw[q];rfl
     have e2:(if s.bks.has (t.texts.getD 0 [])then{s with bks:=s.bks.del (t.texts.getD 0 []) bk0}else s:Off)=s:=by rw[q];rfl
     rw[e1,e2];refine .ent _ _ (Entails.mk' (ts:= [(4,.d (.int .i64 (8)))]) (rs:=(1000009,KX)::offO h vm sm (s)) rq8 rfl rfl ⟨lr,trivial⟩ ⟨rr,rr,rr,rr,rr,rr,rr,rr,rr,rr,rr,trivial⟩) ?_;refine .ret _ ?_;conv=>whnf
     exact⟨_,⟨rfl,rfl⟩,rr,rr,rr,rr,rr,rr,rr,rr,rr,rr,rr,trivial⟩)
  | (have q:s.bks.has (t.texts.getD 0 [])=true:=by first|exact hb|assumption
     have e1:(if s.bks.has (t.texts.getD 0 [])then(0:Int)else 8)=0:=by rw[q];rfl
     have e2:(if s.bks.has (t.texts.getD 0 [])then{s with bks:=s.bks.del (t.texts.getD 0 []) bk0}else s:Off)={s with bks:=s.bks.del (t.texts.getD 0 []) bk0}:=by rw[q];rfl
     rw[e1,e2];refine .ent _ _ (Entails.mk' (ts:= [(4,.d (.int .i64 (0)))]) (rs:=(1000009,KX)::offO h vm sm ({s with bks:=s.bks.del (t.texts.getD 0 []) bk0})) rq8 rfl rfl ⟨lr,trivial⟩ ⟨rr,rr,rr,rr,rr,rr,rr,mpS_del,rr,rr,rr,trivial⟩) ?_;refine .ret _ ?_;conv=>whnf
     exact⟨_,⟨rfl,rfl⟩,rr,rr,rr,rr,rr,rr,rr,rr,rr,rr,rr,trivial⟩)
def oJOfI198_19:OL:= [(0,[]),(1,[0]),(2,[0]),(3,[0]),(4,[0]),(5,[]),(6,[]),(7,[]),(8,[7]),(9,[8]),(10,[])]
def oJOfI198_22:OL:= [(0,[]),(1,[0]),(2,[0,1]),(3,[0,1,2]),(4,[0,1,2]),(5,[0,1,2]),(6,[0,1,2]),(7,rg 7),(8,rg 7),(9,rg 7),(10,rg 7),(11,[0]),(12,[]),(13,[]),(14,[]),(15,[14]),(16,[15]),(17,[])]
def oJOfI198_11:OL:= [(0,[]),(1,[]),(2,[]),(3,[]),(4,rg 4),(5,rg 4),(6,rg 4),(7,rg 4),(8,[4,5,6,7]),(9,[])]
def oJOfI198_12:OL:= [(0,[]),(1,[0]),(2,[0,1]),(3,[0,1]),(4,[0,1]),(5,[0,1]),(6,rg 6),(7,rg 6),(8,rg 6),(9,rg 6),(10,[]),(11,rg 11),(12,[])]
def oJOfI198_13:OL:= [(0,[]),(1,[0]),(2,[0,1]),(3,[0,1]),(4,[0,1]),(5,[0,1]),(6,rg 6),(7,rg 6),(8,rg 6),(9,rg 6),(10,[]),(11,rg 11),(12,[])]
def oJOfI198_40:OL:= [(0,[]),(1,[]),(2,[]),(3,[]),(4,rg 4),(5,rg 5),(6,[])]
def oJOfI152_1:OL:= [(0,[]),(1,[]),(7,[0,1]),(2,[0,1,7]),(3,[7]),(4,[7]),(5,[7]),(6,[7,5]),(8,[6]),(9,[])]
def oJOfI152_4:OL:= [(1,[]),(2,[]),(0,[1,2]),(3,[]),(4,[]),(5,[]),(6,[5]),(7,[6]),(8,[])]
def oJOfI152_6:OL:= [(0,[]),(1,[]),(2,[0,1]),(3,[0,1]),(4,[0,1]),(5,[0,1]),(6,rg 6),(7,rg 6),(8,rg 6),(9,rg 6),(10,rg 10),(11,[]),(12,rg 12),(13,[])]
def oJOfI152_12:OL:= [(0,[]),(1,[0]),(2,[0]),(3,[0]),(4,[0]),(5,rg 5),(6,rg 5),(7,rg 5),(8,rg 5),(9,rg 9),(10,rg 9),(11,rg 9),(12,rg 9),(13,rg 13),(14,rg 13),(15,rg 13),(16,rg 13),(17,rg 9),(18,rg 18),(19,rg 18),(20,rg 20),(21,rg 20),(22,rg 20),(23,rg 20),(24,[0]),(25,[]),(26,[])]
def oJOfI152_14:OL:= [(0,[]),(1,[]),(2,[]),(3,[]),(4,rg 4),(5,rg 4),(6,rg 4),(7,rg 4),(8,[]),(9,[]),(10,[]),(11,[10]),(12,rg 12),(13,[11]),(14,[])]
def oJOfI152_17:OL:= [(0,[]),(1,[]),(2,[]),(3,[]),(4,rg 4),(5,rg 4),(6,rg 4),(7,rg 4),(8,[])]
def oJOfI152_22:OL:= [(0,[]),(1,[0]),(2,[0]),(3,[0]),(4,[0]),(5,rg 5),(6,rg 5),(7,rg 5),(8,rg 5),(9,[]),(10,[])]
set_option maxHeartbeats 2000000 in
theorem wChange0 (h:Hou)(vm:Mp (List UInt8))(sm:Mp Bool)(s:Off)(at0:Int)(t:Tol)(h1:1≤t.texts.length)(hh:s.his.has (t.texts.getD 0 [])=false)(hv:s.his.val (t.texts.getD 0 [])=none):
 FSpec Tryz.prog 198 [.ptr 1000001 0,.d (.int .i64 at0),.agg ((tolF t).map .d)] (offR h vm sm s) (fun y r=>y= .d (.int .i64 (chE vm sm s at0 t))∧r=offO h vm sm (chS vm sm s at0 t)):=by
 have e1:chE vm sm s at0 t=8:=by unfold chE;rw[hh];rfl
 have e2:chS vm sm s at0 t=s:=by unfold chS;rw[if_neg (by rw[e1];decide)]
 rw[e1,e2];refine spec_of hT (C:= []) Tryz.func198 rfl Tryz.call198 rfl rfl rfl ?_;conv=>whnf
 repeat' (first|((first|(refine And.intro (rfl:zrow _=some (hiO none)) ?_;refine rowSV_eq (row':=hiO none) (congrArg hiO hv) ?_)|(refine br_intro ?_ ?_<;>intro hb<;>try simp only[brs]at hb)|refine rAx hT 19 oJOfI198_19 ?_|refine rAx hT 22 oJOfI198_22 ?_|refine rAx hT 11 oJOfI198_11 ?_|refine rAx hT 12 oJOfI198_12 ?_|refine rAx hT 13 oJOfI198_13 ?_|refine rAx hT 40 oJOfI198_40 ?_|omega|refine sAx ?_|decide|assumption)<;>conv=>whnf))
 all_goals first
  | (exfalso;have q:s.his.has (t.texts.getD 0 [])=true:=hb
     rw[hh]at q;cases q)
  | (refine .ent _ _ (Entails.mk' (ts:= [(6,.d (.int .i64 8))]) (rs:=offO h vm sm s) rq2 rfl rfl ⟨lr,trivial⟩ ⟨rr,rr,rr,rr,rr,rr,rr,rr,rr,rr,trivial⟩) ?_
     refine .ret _ ?_;conv=>whnf
     exact⟨_,⟨rfl,rfl⟩,rr,rr,rr,rr,rr,rr,rr,rr,rr,rr,trivial⟩)
set_option maxHeartbeats 4000000 in
theorem wFollowX (h:Hou)(hco:clsOk h.flt.cls)(vm:Mp (List UInt8))(sm:Mp Bool)(s:Off)(hs:offOk s)(x:Ent)(hx:x.words.length≤2^20)(hf:∀k,(formsM.val k).length≤2^20)(ht:telOk formsM x.words=true)(t:Tol)(hte:telT formsM x.words=t)(hk:tolL t)(hk1:kindsM.has t.word=false)(hw:t.word≠ [98,111,111,107])(hw1:t.word≠ [99,97,110,99,101,108])(hw2:t.word≠ [115,116,97,114,116])(hw3:t.word≠ [112,97,121]):
 FSpec Tryz.prog 152 [.ptr 1000001 0,.agg ((enF x).map .d)] ((1000009,KX)::offR h vm sm s) (fun y r=>y= .d (.int .i64 (chE vm sm s x.tm t))∧r=(1000009,KX)::offO h vm sm (chS vm sm s x.tm t)):=by
 have c1:=wTell formsM hf x.words hx;rw[ht,if_pos rfl,hte]at c1;obtain⟨l1,l2,l3,l4⟩:=hk.ch hk1 hw hw1 hw2 hw3;have l5:=hk.tx;have hlg:=hs.log
 have c2:FSpec Tryz.prog 198 [.ptr 1000001 0,.d (.int .i64 x.tm),.agg ((tolF t).map .d)] (offR h vm sm s) (fun y r=>y= .d (.int .i64 (chE vm sm s x.tm t))∧r=offO h vm sm (chS vm sm s x.tm t)):=by
  cases hh:s.his.has (t.texts.getD 0 [])with
  |false=>exact wChange0 h vm sm s x.tm t l1 hh (hs.non _ hh)
  | true=>
    obtain⟨g,g1,g2,g3,g4⟩:=hs.his _ hh;exact wChange h vm sm s (by omega) x.tm t l1 l2 l3 l4 (fun j=>by have:=l5 j;omega) g hh g1 g2 g3 g4
 refine spec_of hT (C:= []) Tryz.func152 rfl Tryz.call152 rfl rfl rfl ?_;conv=>whnf
 repeat' (first|((first|(refine oAx wForms [(1,20)] ?_;rintro y rout ⟨rfl,rfl⟩;refine⟨rfl,?_⟩)|(refine oAx wKinds [(1,30)] ?_;rintro y rout ⟨rfl,rfl⟩;refine⟨rfl,?_⟩)|(refine oAx c1 [(1000001,20),(1000009,1000009)] ?_;rintro y rout ⟨rfl,rfl⟩;refine⟨rfl,?_⟩)|refine And.intro (rfl:zrow _=some [DV.int .i64 0]) ?_|(refine oAx (c2) rq1 ?_;rintro y rout ⟨rfl,rfl⟩;refine⟨rfl,?_⟩)|(refine br_intro ?_ ?_<;>intro hb<;>try simp only[brs]at hb)|refine rAx hT 1 oJOfI152_1 ?_|refine rAx hT 4 oJOfI152_4 ?_|refine rAx hT 6 oJOfI152_6 ?_|refine rAx hT 12 oJOfI152_12 ?_|refine rAx hT 14 oJOfI152_14 ?_|refine rAx hT 17 oJOfI152_17 ?_|refine rAx hT 22 oJOfI152_22 ?_|omega|refine sAx ?_|decide|assumption)<;>conv=>whnf))
 all_goals try(exfalso;contradiction)
 all_goals try (exfalso;have q:kindsM.has t.word=true:=by assumption
                rw[hk1]at q;cases q)
 all_goals
  refine .ent _ _ (Entails.mk' (ts:= [(4,.d (.int .i64 (chE vm sm s x.tm t)))]) (rs:=(1000009,KX)::offO h vm sm (chS vm sm s x.tm t)) rq9 rfl rfl ⟨lr,trivial⟩ ⟨rr,rr,rr,rr,rr,rr,rr,rr,rr,rr,rr,trivial⟩) ?_;refine .ret _ ?_;conv=>whnf
  exact⟨_,⟨rfl,rfl⟩,rr,rr,rr,rr,rr,rr,rr,rr,rr,rr,rr,trivial⟩
def cT (f:List UInt8):Nat→Nat
 |0=>0
 |i+1=>if f.getD i 0=119 then cT f i+1 else cT f i
def cN (f:List UInt8):Nat→Nat
 |0=>0
 |i+1=>if f.getD i 0=119 then cN f i else cN f i+1
theorem txF_c (f:List UInt8)(w:List (List UInt8)):∀i,(txF f w i).length=cT f i
 |0=>rfl
 | i+1=>by
   have:=txF_c f w i;unfold txF cT;split
   · rw[List.length_append,List.length_singleton,this]
   · exact this
theorem nmF_c (f:List UInt8)(w:List (List UInt8)):∀i,(nmF f w i).length=cN f i
 |0=>rfl
 | i+1=>by
   have:=nmF_c f w i;unfold nmF cN;split
   · exact this
   · rw[List.length_append,List.length_singleton,this]
theorem txF_mem (f:List UInt8)(w:List (List UInt8)){B:Nat}(h:∀j,(w.getD j []).length≤B):∀i,∀x ∈ txF f w i,x.length≤B
 |0=>fun x hx=>by cases hx
 | i +1=>fun x hx=>by
   unfold txF at hx;split at hx
   · rcases List.mem_append.1 hx with q|q
     · exact txF_mem f w h i x q
     · rw[List.mem_singleton]at q;subst q;exact h i
   · exact txF_mem f w h i x hx
theorem nmF_mem (f:List UInt8)(w:List (List UInt8)):∀i,(∀j,j<i→(f.getD j 0=119∨numOk (w.getD j [])=true))→∀n ∈ nmF f w i,-10^9≤n∧n≤10^9
 |0=>fun _ x hx=>by cases hx
 | i + 1=>fun h x hx=>by
   unfold nmF at hx;split at hx
   · exact nmF_mem f w i (fun j hj=>h j (by omega)) x hx
   · rename_i hc;rcases List.mem_append.1 hx with q|q
     · exact nmF_mem f w i (fun j hj=>h j (by omega)) x q
     · rw[List.mem_singleton]at q;subst q;rcases h i (by omega)with r|r
       · exact absurd r hc
       · exact numN_bd r
def wordsF:List (List UInt8):= [[101,110,116,101,114],[115,104,111,112],[100,111,110,101],[99,111,109,101],[103,111,110,101],[108,101,97,118,101],[98,111,111,107],[99,97,110,99,101,108],[115,116,97,114,116],[115,119,97,112],[101,120,116,101,110,100],[99,108,111,115,101],[112,97,121]]
theorem formsM_mem {s:List UInt8}(h:formsM.has s=true):s ∈ wordsF:=by
 have h':(decide (s= [112,97,121])||formsM.has s)=true:=by rw[h];simp
 simp only[formsM,Mp.put,Mp.nil,Bool.or_eq_true,decide_eq_true_eq,Bool.false_eq_true,or_false]at h;unfold wordsF;simp only[List.mem_cons,List.not_mem_nil,or_false];grind
theorem put_len {m:Mp (List UInt8)}{x v:List UInt8}{B:Nat}(h:∀k,(m.val k).length≤B)(hv:v.length≤B):∀k,((m.put x v).val k).length≤B:=fun k=>by
 show(if k=x then v else m.val k).length≤B;split
 · exact hv
 · exact h k
theorem formsM_len:∀s:List UInt8,(formsM.val s).length≤2^20:=by
 unfold formsM
 repeat (refine put_len ?_ (by simp))
 intro k;simp[Mp.nil]
def frmOk (k:List UInt8):Bool:=
 let c:=cT (formsM.val k) (formsM.val k).length
 let n:=cN (formsM.val k) (formsM.val k).length
 (!kindsM.has k||decide (2≤c))&&(!(kindsM.has k&&decide (kindsM.val k=6))||decide (3≤c))&&(!decide (k= [98,111,111,107])||decide (2≤c∧3≤n))&&(!decide (k= [99,97,110,99,101,108])||decide (1≤c))&&(!decide (k= [115,116,97,114,116])||decide (4≤c∧3≤n))&&(!decide (k= [112,97,121])||decide (1≤c∧1≤n))
 &&(kindsM.has k||decide (k= [98,111,111,107])||decide (k= [99,97,110,99,101,108])||decide (k= [115,116,97,114,116])||decide (k= [112,97,121])||(decide (1≤c)&&(!decide (k= [101,120,116,101,110,100])||decide (1≤n))&&(!decide (k= [99,108,111,115,101])||decide (2≤c∧2≤n))&&(decide (k= [101,120,116,101,110,100])||decide (k= [99,108,111,115,101])||decide (3≤c∧4≤n))))
theorem frm_all:wordsF.all frmOk=true:=by decide+kernel
theorem getD_all {α:Type}{l:List α}{d:α}{P:α→Prop}(h:∀x ∈ l,P x)(hd:P d)(j:Nat):P (l.getD j d):=by
 by_cases q:j<l.length
 · rw[List.getD_eq_getElem?_getD,List.getElem?_eq_getElem q];exact h _ (List.getElem_mem q)
 · rw[List.getD_eq_getElem?_getD,List.getElem?_eq_none (by omega)];exact hd
theorem telT_ok {w:List UInt8}(hw:w.length≤2^20)(h:telOk formsM w=true):tolL (telT formsM w):=by
 unfold telOk at h;simp only[Bool.and_eq_true,decide_eq_true_eq]at h;obtain⟨h1,h2,h3,h4⟩:=h;have hmem:∀x ∈ Lib.split w [32],x.length≤w.length:=fun x hx=>split_mem hx
 have hF:=List.all_eq_true.1 frm_all _ (formsM_mem h2);have hN:=of_decide_eq_true h4;obtain⟨k,hk⟩:∃k,k=telW (Lib.split w [32]):=⟨_,rfl⟩;obtain⟨W1,hW1⟩:∃W1,W1=(Lib.split w [32]).drop 1:=⟨_,rfl⟩;have hl:W1.length=(formsM.val k).length:=by rw[hW1,List.length_drop,hk];omega
 have hb:∀j,(W1.getD j []).length≤2^20:=getD_all (l:=W1) (d:= []) (P:=fun(x:List UInt8)=>x.length≤2^20) (fun x hx=>by rw[hW1]at hx;have:=hmem x (List.mem_of_mem_drop hx);omega) (by simp);unfold telT;rw[←hk]at hF hN ⊢;rw[←hW1]at hN ⊢;rw[hl];rw[hl]at hN;have t1:(txF (formsM.val k) W1 (formsM.val k).length).length=cT (formsM.val k) (formsM.val k).length:=txF_c _ _ _;have t2:(nmF (formsM.val k) W1 (formsM.val k).length).length=cN (formsM.val k) (formsM.val k).length:=nmF_c _ _ _;unfold frmOk at hF;simp only at hF;rw[←t1,←t2]at hF;have m1:=txF_mem (formsM.val k) W1 hb (formsM.val k).length;have m2:=nmF_mem (formsM.val k) W1 (formsM.val k).length (fun j hj=>hN j (by omega));generalize txF (formsM.val k) W1 (formsM.val k).length=X at hF m1 ⊢;generalize nmF (formsM.val k) W1 (formsM.val k).length=Y at hF m2 ⊢;refine⟨getD_all m1 (by simp),getD_all m2 (by decide),?_,?_,?_,?_,?_,?_,?_⟩;all_goals (dsimp only;clear m1 m2 t1 t2 hN hb hmem h2 h3 h4;simp only[Bool.and_eq_true,Bool.or_eq_true,Bool.not_eq_true',decide_eq_true_eq,Bool.and_eq_false_iff,decide_eq_false_iff_not]at hF;grind)
def folE (h:Hou)(vm:Mp (List UInt8))(sm:Mp Bool)(s:Off)(x:Ent):Int:=
 if telOk formsM x.words=false then 9
 else if kindsM.has (telT formsM x.words).word=true then evtE vm sm s (evOf x.tm (telT formsM x.words))
 else if(telT formsM x.words).word= [98,111,111,107]then bookE h s ⟨(telT formsM x.words).texts.getD 0 [],(telT formsM x.words).texts.getD 1 [],(telT formsM x.words).nums.getD 0 0,(telT formsM x.words).nums.getD 1 0,x.tm,(telT formsM x.words).nums.getD 2 0⟩
 else if(telT formsM x.words).word= [99,97,110,99,101,108]then(if s.bks.has ((telT formsM x.words).texts.getD 0 [])then 0 else 8)
 else if(telT formsM x.words).word= [115,116,97,114,116]then stE vm sm s x.tm (telT formsM x.words)
 else if(telT formsM x.words).word= [112,97,121]then payE s ((telT formsM x.words).texts.getD 0 []) ((telT formsM x.words).nums.getD 0 0)
 else chE vm sm s x.tm (telT formsM x.words)
def folO (h:Hou)(vm:Mp (List UInt8))(sm:Mp Bool)(s:Off)(x:Ent):Off:=
 if telOk formsM x.words=false then s
 else if kindsM.has (telT formsM x.words).word=true then evtS vm sm s (evOf x.tm (telT formsM x.words))
 else if(telT formsM x.words).word= [98,111,111,107]then bookS h s ⟨(telT formsM x.words).texts.getD 0 [],(telT formsM x.words).texts.getD 1 [],(telT formsM x.words).nums.getD 0 0,(telT formsM x.words).nums.getD 1 0,x.tm,(telT formsM x.words).nums.getD 2 0⟩
 else if(telT formsM x.words).word= [99,97,110,99,101,108]then(if s.bks.has ((telT formsM x.words).texts.getD 0 [])then{s with bks:=s.bks.del ((telT formsM x.words).texts.getD 0 []) bk0}else s)
 else if(telT formsM x.words).word= [115,116,97,114,116]then stS vm sm s x.tm (telT formsM x.words)
 else if(telT formsM x.words).word= [112,97,121]then payS s ((telT formsM x.words).texts.getD 0 []) ((telT formsM x.words).nums.getD 0 0)
 else chS vm sm s x.tm (telT formsM x.words)
theorem wFollow (h:Hou)(hco:clsOk h.flt.cls)(vm:Mp (List UInt8))(sm:Mp Bool)(s:Off)(hs:offOk s)(x:Ent)(hx:x.words.length≤2^20):
 FSpec Tryz.prog 152 [.ptr 1000001 0,.agg ((enF x).map .d)] ((1000009,KX)::offR h vm sm s) (fun y r=>y= .d (.int .i64 (folE h vm sm s x))∧r=(1000009,KX)::offO h vm sm (folO h vm sm s x)):=by
 unfold folE folO
 cases ht:telOk formsM x.words with
 |false=>rw[if_pos (show false=false from rfl),if_pos (show false=false from rfl)];exact wFollow0 h vm sm s x hx formsM_len ht
 | true=>
   have hk:=telT_ok hx ht;rw[if_neg (show ¬ (true=false)by simp),if_neg (show ¬ (true=false)by simp)]
   by_cases q:kindsM.has (telT formsM x.words).word=true
   · rw[if_pos q,if_pos q];exact wFollowE h vm sm s hs x hx formsM_len ht _ rfl hk q
   have q':kindsM.has (telT formsM x.words).word=false:=by simpa using q
   rw[if_neg q,if_neg q]
   by_cases q1:(telT formsM x.words).word= [98,111,111,107]
   · rw[if_pos q1,if_pos q1];exact wFollowB h hco vm sm s hs x hx formsM_len ht _ rfl hk q' q1
   rw[if_neg q1,if_neg q1]
   by_cases q2:(telT formsM x.words).word= [99,97,110,99,101,108]
   · rw[if_pos q2,if_pos q2];exact wFollowC h hco vm sm s hs x hx formsM_len ht _ rfl hk q' q2 q1
   rw[if_neg q2,if_neg q2]
   by_cases q3:(telT formsM x.words).word= [115,116,97,114,116]
   · rw[if_pos q3,if_pos q3];exact wFollowS h hco vm sm s hs x hx formsM_len ht _ rfl hk q' q3 q1 q2
   rw[if_neg q3,if_neg q3]
   by_cases q4:(telT formsM x.words).word= [112,97,121]
   · rw[if_pos q4,if_pos q4];exact wFollowP h hco vm sm s hs x hx formsM_len ht _ rfl hk q' q4 q1 q2 q3
   rw[if_neg q4,if_neg q4];exact wFollowX h hco vm sm s hs x hx formsM_len ht _ rfl hk q' q1 q2 q3 q4
theorem fol_same {h:Hou}{vm:Mp (List UInt8)}{sm:Mp Bool}{s:Off}{x:Ent}(e:folE h vm sm s x≠0):folO h vm sm s x=s:=by
 unfold folE at e;unfold folO;split
 · rfl
 rename_i c0;rw[if_neg c0]at e;split
 · rename_i c;rw[if_pos c]at e;unfold evtS;rw[if_neg e]
 rename_i c1;rw[if_neg c1]at e;split
 · rename_i c;rw[if_pos c]at e;unfold bookS;rw[if_neg e]
 rename_i c2;rw[if_neg c2]at e;split
 · rename_i c;rw[if_pos c]at e;split
   · rename_i d;rw[if_pos d]at e;exact absurd rfl e
   · rfl
 rename_i c3;rw[if_neg c3]at e;split
 · rename_i c;rw[if_pos c]at e;unfold stS;rw[if_neg e]
 rename_i c4;rw[if_neg c4]at e;split
 · rename_i c;rw[if_pos c]at e;unfold payS;rw[if_neg e]
 rename_i c5;rw[if_neg c5]at e;unfold chS;rw[if_neg e]
variable (h:Hou) (vm:Mp (List UInt8)) (sm:Mp Bool)
def runC (s:Off)(l:List Ent):Off:=l.foldl (folO h vm sm) s
def refC:Off→Nat→List Ent→List Rfs
 |_,_,[]=> []
 |s,i,x::l=>if folE h vm sm s x=0 then refC (folO h vm sm s x) (i+1) l else⟨i,folE h vm sm s x⟩::refC s (i+1) l
theorem sayL_ref (s:Off)(r:List Rfs)(l:List Evn):sayL {s with ref:=r} l={sayL s l with ref:=r}:=by
 unfold sayL
 induction l generalizing s with
 |nil=>rfl
 | cons x l ih=>
   rw[List.foldl_cons,List.foldl_cons];exact ih (sayS s x)
theorem folE_ref (s:Off)(r:List Rfs)(x:Ent):folE h vm sm {s with ref:=r} x=folE h vm sm s x:=rfl
variable (h:Hou) (vm:Mp (List UInt8)) (sm:Mp Bool)
theorem evtS_ref (s:Off)(r:List Rfs)(x:Evn):evtS vm sm {s with ref:=r} x={evtS vm sm s x with ref:=r}:=by
 unfold evtS;rw[show evtE vm sm {s with ref:=r} x=evtE vm sm s x from rfl];split<;>rfl
theorem bookS_ref (s:Off)(r:List Rfs)(b:Bok):bookS h {s with ref:=r} b={bookS h s b with ref:=r}:=by
 unfold bookS;rw[show bookE h {s with ref:=r} b=bookE h s b from rfl];split<;>rfl
theorem payS_ref (s:Off)(r:List Rfs)(k:List UInt8)(c:Int):payS {s with ref:=r} k c={payS s k c with ref:=r}:=by
 unfold payS;rw[show payE {s with ref:=r} k c=payE s k c from rfl];split<;>rfl
theorem stS_ref (s:Off)(r:List Rfs)(a:Int)(t:Tol):stS vm sm {s with ref:=r} a t={stS vm sm s a t with ref:=r}:=by
 unfold stS;rw[show stE vm sm {s with ref:=r} a t=stE vm sm s a t from rfl];split<;>rfl
theorem chS_ref (s:Off)(r:List Rfs)(a:Int)(t:Tol):chS vm sm {s with ref:=r} a t={chS vm sm s a t with ref:=r}:=by
 unfold chS;rw[show chE vm sm {s with ref:=r} a t=chE vm sm s a t from rfl];split
 · dsimp only
   rw[sayL_ref]
 · rfl
theorem folO_ref (s:Off)(r:List Rfs)(x:Ent):folO h vm sm {s with ref:=r} x={folO h vm sm s x with ref:=r}:=by
 unfold folO;split
 · rfl
 split
 · exact evtS_ref vm sm s r _
 split
 · exact bookS_ref h s r _
 split
 · split<;>rfl
 split
 · exact stS_ref vm sm s r _ _
 split
 · exact payS_ref s r _ _
 exact chS_ref vm sm s r _ _
theorem firstE_mem:∀ {l:List Int},firstE l=0→∀x ∈ l,x=0
 | [],_,_,hx=>by cases hx
 | y ::l,h,x,hx=>by
   unfold firstE at h
   by_cases q:y=0
   · rw[if_pos q]at h;rcases List.mem_cons.1 hx with e|e
     · rw[e];exact q
     · exact firstE_mem h x e
   · rw[if_neg q]at h;exact absurd h q
theorem isKeyB_len {s:List UInt8}(h:isKeyB s=true):s.length≤40:=by
 unfold isKeyB at h;simp only[Bool.and_eq_true,decide_eq_true_eq]at h;exact h.2
theorem rdgE_len {r:Rdg}(h:rdgE r=0):r.st.length≤40:=by
 unfold rdgE at h;split at h
 · exact absurd h (by decide)
 split at h
 · exact absurd h (by decide)
 rename_i _ c;exact isKeyB_len (by simpa using c)
theorem legE_K {h:Hir}{i:Nat}(e:legE h i=0):lgK (h.legs.getD i lg0):=by
 unfold legE at e;split at e
 · exact absurd e (by decide)
 rename_i c1;split at e
 · rename_i c;exact absurd e c
 rename_i c2;have k1:=isKeyB_len (s:=(h.legs.getD i lg0).veh) (by simpa using c1);have k2:=rdgE_len (r:=(h.legs.getD i lg0).out) (by simpa using c2)
 have k3:(h.legs.getD i lg0).inn.st.length≤40:=by
  by_cases q:(h.legs.getD i lg0).inn.tm= -1
  · by_cases r:(h.legs.getD i lg0).inn.st= []
    · rw[r];simp
    · exfalso;rw[if_pos q,if_pos (fun c=>r c.1)]at e;grind
  · rw[if_neg q]at e;refine rdgE_len ?_;grind
 exact⟨by omega,by omega,by omega⟩
theorem hirE_K {g:Hir}(h:hirE g=0):hiL g∧1≤g.legs.length∧g.legs.length≤20∧(isKeyB g.key=true∧isKeyB g.drv=true)∧timE g.frm g.to=0∧∀i,i<g.legs.length→legE g i=0:=by
 unfold hirE at h;split at h
 · exact absurd h (by decide)
 rename_i c1;split at h
 · rename_i c;exact absurd h c
 rename_i c2;split at h
 · exact absurd h (by decide)
 rename_i c3;split at h
 · exact absurd h (by decide)
 rename_i c4;have hA:=firstAt_all h;have k1:isKeyB g.key=true:=by cases e:isKeyB g.key with|true=>rfl|false=>exact absurd (.inl e) c1
 have k2:isKeyB g.drv=true:=by cases e:isKeyB g.drv with|true=>rfl|false=>exact absurd (.inr e) c1
 refine⟨⟨by have:=isKeyB_len k1;omega,by have:=isKeyB_len k2;omega,by omega,fun x hx=> ?_⟩,by omega,by omega,⟨k1,k2⟩,by simpa using c2,hA⟩;obtain⟨i,hi,rfl⟩:=mem_getD (d:=lg0) hx;exact legE_K (hA i hi)
theorem mdE_zero {g g':Hir}(h:mdE g g' =0):hirE g=0∧opnH g=true∧hirE g' =0:=by
 unfold mdE at h
 by_cases q:goE g=0
 · rw[if_neg (fun c=>c q)]at h;exact⟨(goE_zero q).1,(goE_zero q).2,h⟩
 · rw[if_pos q]at h;exact absurd h q
theorem setIn_veh {l:List Leg}(r:Rdg)(j:Nat):((setIn l r).getD j lg0).veh=(l.getD j lg0).veh:=by
 unfold setIn;rw[List.getD_eq_getElem?_getD,List.getElem?_set]
 by_cases q:((l.length:Int) - 1).toNat=j
 · subst q;rw[if_pos rfl]
   by_cases h:((l.length:Int) - 1).toNat<l.length
   · rw[if_pos h];rfl
   · rw[if_neg h,List.getD_eq_getElem?_getD,List.getElem?_eq_none (by omega)]
 · rw[if_neg q,List.getD_eq_getElem?_getD]
theorem exH_ne {g:Hir}{ri ro:Rdg}{v:List UInt8}(h1:1≤g.legs.length)(h:hirE (exH g ri v ro)=0):v≠oldV g:=by
 obtain⟨_,_,_,_,_,hA⟩:=hirE_K h;have hl:(exH g ri v ro).legs.length=g.legs.length+1:=by show(setIn g.legs ri++ [_]).length=_;rw[List.length_append,setIn_len,List.length_singleton]
 have e:=hA g.legs.length (by omega)
 have g1:((exH g ri v ro).legs.getD g.legs.length lg0).veh=v:=by
  show((setIn g.legs ri++ [_]).getD _ _).veh=_;rw[List.getD_eq_getElem?_getD,List.getElem?_append_right (by rw[setIn_len];omega),setIn_len,Nat.sub_self];rfl
 have g2:((exH g ri v ro).legs.getD (g.legs.length - 1) lg0).veh=oldV g:=by
  show((setIn g.legs ri++ [_]).getD _ _).veh=_;rw[List.getD_eq_getElem?_getD,List.getElem?_append_left (by rw[setIn_len];omega),←List.getD_eq_getElem?_getD,setIn_veh];unfold oldV;rw[show((g.legs.length:Int) - 1).toNat=g.legs.length - 1 by omega]
 intro hv;unfold legE at e;rw[g1,g2]at e;have c:0<g.legs.length∧v=oldV g:=⟨by omega,hv⟩;grind
structure offI (m n:Nat)(s:Off):Prop where
 log:s.log.length≤m
 ats:∀v t,s.ats v t=true↔∃x ∈ s.log,x.veh=v∧x.tm=t
 apt:s.log.Pairwise fun a b=>¬ (a.veh=b.veh∧a.tm=b.tm)
 paid:∀k,0≤s.paid.val k∧s.paid.val k≤10^9
 fb:∃L:List (List UInt8),L.length≤n∧∀k,s.bks.has k=true→k ∈ L
 fh:∃L:List (List UInt8),L.length≤n∧∀k,s.his.has k=true→k ∈ L
 non:∀k,s.his.has k=false→s.his.val k=none
 his:∀k,s.his.has k=true→∃g,s.his.val k=some g∧hirE g=0
theorem offI.ok {m n:Nat}{s:Off}(h:offI m n s)(hm:m≤2^18)(hn:n<500):offOk s where
 log:=by have:=h.log;omega
 paid k:=by have:=h.paid k;omega
 fb:=by obtain⟨L,h1,h2⟩:=h.fb;exact⟨L,by omega,h2⟩
 fh:=by obtain⟨L,h1,h2⟩:=h.fh;exact⟨L,by omega,h2⟩
 non:=h.non
 his k q:=by
  obtain⟨g,h1,h2⟩:=h.his k q;obtain⟨k1,k2,k3,_⟩:=hirE_K h2;exact⟨g,h1,k1,k2,by omega⟩
theorem offI.up {m n m' n':Nat}{s:Off}(h:offI m n s)(hm:m≤m')(hn:n≤n'):offI m' n' s where
 log:=by have:=h.log;omega
 ats:=h.ats
 apt:=h.apt
 paid:=h.paid
 fb:=by obtain⟨L,h1,h2⟩:=h.fb;exact⟨L,by omega,h2⟩
 fh:=by obtain⟨L,h1,h2⟩:=h.fh;exact⟨L,by omega,h2⟩
 non:=h.non
 his:=h.his
theorem canE_zero {s:Off}{x:Evn}(h:canE s x=0):s.ats x.veh x.tm=false∧folOk (s.sts.val x.veh) x=true:=by
 unfold canE at h;have h1:=firstE_mem h _ (List.mem_cons_self ..);have h2:=firstE_mem h _ (List.mem_cons_of_mem _ (List.mem_cons_self ..));constructor
 · cases q:s.ats x.veh x.tm with
   |false=>rfl
   |true=>rw[q,if_pos rfl]at h1;exact absurd h1 (by decide)
 · cases q:folOk (s.sts.val x.veh) x with
   |true=>rfl
   |false=>rw[q]at h2;exact absurd h2 (by decide)
theorem offI.say {m n:Nat}{s:Off}(h:offI m n s){x:Evn}(hc:s.ats x.veh x.tm=false):offI (m+1) n (sayS s x) where
 log:=by show(s.log++ [x]).length≤_;rw[List.length_append,List.length_singleton];have:=h.log;omega
 ats v t:=by
  show atPut s.ats x.veh x.tm v t=true↔∃y ∈ s.log++ [x],y.veh=v∧y.tm=t;unfold atPut;rw[Bool.or_eq_true,h.ats v t];simp only[Bool.and_eq_true,decide_eq_true_eq,List.mem_append,List.mem_singleton];constructor
  · rintro(⟨h1,h2⟩|⟨y,h1,h2⟩)
    · exact⟨x,.inr rfl,h1.symm,h2.symm⟩
    · exact⟨y,.inl h1,h2⟩
  · rintro⟨y,h1|h1,h2⟩
    · exact .inr ⟨y,h1,h2⟩
    · subst h1;exact .inl ⟨h2.1.symm,h2.2.symm⟩
 apt:=by
  show(s.log++ [x]).Pairwise _;rw[List.pairwise_append];refine⟨h.apt,List.pairwise_singleton _ _,fun a ha b hb=> ?_⟩;rw[List.mem_singleton]at hb;subst hb;intro q;have:=(h.ats b.veh b.tm).2 ⟨a,ha,q⟩;rw[hc]at this;cases this
 paid:=h.paid
 fb:=h.fb
 fh:=h.fh
 non:=h.non
 his:=h.his
theorem evtS_I {m n:Nat}{s:Off}(h:offI m n s)(vm:Mp (List UInt8))(sm:Mp Bool)(x:Evn):offI (m+1) n (evtS vm sm s x):=by
 unfold evtS;split
 · rename_i e;unfold evtE at e;exact h.say (canE_zero (firstE_mem e _ (by simp))).1
 · exact h.up (by omega) (Nat.le_refl _)
theorem put_keys {α:Type}{n:Nat}{m:Mp α}{k:List UInt8}{v:α}(h:∃L:List (List UInt8),L.length≤n∧∀k,m.has k=true→k ∈ L):∃L:List (List UInt8),L.length≤n+1∧∀j,(m.put k v).has j=true→j ∈ L:=by
 obtain⟨L,h1,h2⟩:=h;refine⟨k::L,by rw[List.length_cons];omega,fun j hj=> ?_⟩;have hj:(decide (j=k)||m.has j)=true:=hj;rw[Bool.or_eq_true,decide_eq_true_eq]at hj;rcases hj with e|e
 · rw[e];exact List.mem_cons_self ..
 · exact List.mem_cons_of_mem _ (h2 j e)
theorem del_keys {α:Type}{n:Nat}{m:Mp α}{k:List UInt8}{z:α}(h:∃L:List (List UInt8),L.length≤n∧∀k,m.has k=true→k ∈ L):∃L:List (List UInt8),L.length≤n∧∀j,(m.del k z).has j=true→j ∈ L:=by
 obtain⟨L,h1,h2⟩:=h;refine⟨L,h1,fun j hj=> ?_⟩;have hj:(!decide (j=k)&&m.has j)=true:=hj;rw[Bool.and_eq_true]at hj;exact h2 j hj.2
theorem up_keys {n n':Nat}{p:List UInt8→Bool}(h:∃L:List (List UInt8),L.length≤n∧∀k,p k=true→k ∈ L)(hn:n≤n'):∃L:List (List UInt8),L.length≤n'∧∀k,p k=true→k ∈ L:=by
 obtain⟨L,h1,h2⟩:=h;exact⟨L,by omega,h2⟩
theorem put_his {m:Mp (Option Hir)}{k:List UInt8}{g:Hir}(h1:∀k,m.has k=false→m.val k=none)(h2:∀k,m.has k=true→∃g,m.val k=some g∧hirE g=0)(hg:hirE g=0):
 (∀j,(m.put k (some g)).has j=false→(m.put k (some g)).val j=none)∧∀j,(m.put k (some g)).has j=true→∃g',(m.put k (some g)).val j=some g'∧hirE g' =0:=by
 refine⟨fun j hj=> ?_,fun j hj=> ?_⟩
 · have hj:(decide (j=k)||m.has j)=false:=hj;rw[Bool.or_eq_false_iff,decide_eq_false_iff_not]at hj;show(if j=k then some g else m.val j)=none;rw[if_neg hj.1];exact h1 j hj.2
 · have hj:(decide (j=k)||m.has j)=true:=hj;show ∃g',(if j=k then some g else m.val j)=some g'∧_
   by_cases q:j=k
   · rw[if_pos q];exact⟨g,rfl,hg⟩
   · rw[if_neg q];refine h2 j ?_;rw[Bool.or_eq_true,decide_eq_true_eq]at hj;rcases hj with e|e
     · exact absurd e q
     · exact e
theorem bookS_I {m n:Nat}{s:Off}(h:offI m n s)(hh:Hou)(b:Bok):offI m (n+1) (bookS hh s b):=by
 unfold bookS;split
 · exact⟨h.log,h.ats,h.apt,h.paid,put_keys h.fb,up_keys h.fh (by omega),h.non,h.his⟩
 · exact h.up (Nat.le_refl _) (by omega)
theorem payS_I {m n:Nat}{s:Off}(h:offI m n s)(k:List UInt8)(c:Int):offI m n (payS s k c):=by
 unfold payS;split
 · rename_i e;unfold payE at e;have e2:=firstE_mem e _ (List.mem_cons_of_mem _ (List.mem_cons_self ..));have e3:=firstE_mem e _ (List.mem_cons_of_mem _ (List.mem_cons_of_mem _ (List.mem_cons_self ..)))
   have k1:0≤c∧c≤1000000000:=by
    by_cases q:0≤c∧c≤1000000000
    · exact q
    · rw[decide_eq_false q]at e2;exact absurd e2 (by decide)
   have k2:¬ 1000000000<s.paid.val k+c:=fun q=>by rw[if_pos q]at e3;exact absurd e3 (by decide)
   refine⟨h.log,h.ats,h.apt,fun j=> ?_,h.fb,h.fh,h.non,h.his⟩;show 0≤(if j=k then _ else s.paid.val j)∧(if j=k then _ else s.paid.val j)≤_;have:=h.paid j;have:=h.paid k
   by_cases q:j=k
   · rw[if_pos q];omega
   · rw[if_neg q];omega
 · exact h
theorem stS_I {m n:Nat}{s:Off}(h:offI m n s)(vm:Mp (List UInt8))(sm:Mp Bool)(a:Int)(t:Tol):offI (m+1) (n+1) (stS vm sm s a t):=by
 unfold stS;split
 · rename_i e;unfold stE at e
   by_cases q:hirE (stHi a t)=0
   · rw[if_neg (fun c=>c q)]at e;have k1:=(canE_zero (firstE_mem e (canE s (stEv a t)) (by simp))).1;have k2:=h.say k1;obtain⟨k3,k4⟩:=put_his (k:=t.texts.getD 0 []) h.non h.his q;exact⟨k2.log,k2.ats,k2.apt,h.paid,up_keys (del_keys h.fb) (by omega),put_keys h.fh,k3,k4⟩
   · rw[if_pos q]at e;exact absurd e q
 · exact h.up (by omega) (by omega)
theorem chG_zero {vm:Mp (List UInt8)}{sm:Mp Bool}{s:Off}{g:Hir}{a:Int}{t:Tol}(h:chG vm sm s g a t=0):(hirE g=0∧opnH g=true∧hirE (chNext g a t)=0)∧chKn vm sm t=true∧∀i,i<(chEvs g a t).length→canE s ((chEvs g a t).getD i ev0)=0:=by
 unfold chG at h
 by_cases q:firstE [mdE g (chNext g a t),if(!chKn vm sm t)then 8 else 0]=0
 · rw[if_neg (fun c=>c q)]at h;have e2:=firstE_mem q _ (List.mem_cons_of_mem _ (List.mem_cons_self ..));refine⟨mdE_zero (firstE_mem q _ (List.mem_cons_self ..)),?_,firstAt_all h⟩
   cases k:chKn vm sm t with
   |true=>rfl
   |false=>rw[k]at e2;exact absurd e2 (by decide)
 · rw[if_pos q]at h;exact absurd h q
theorem sayL_I {m n:Nat}{s:Off}(h:offI m n s){vm:Mp (List UInt8)}{sm:Mp Bool}{g:Hir}{a:Int}{t:Tol}(e:chG vm sm s g a t=0):offI (m+2) n (sayL s (chEvs g a t)):=by
 obtain⟨⟨h1,h2,h3⟩,h4,h5⟩:=chG_zero e;unfold chEvs at h5 ⊢
 by_cases w1:t.word= [101,120,116,101,110,100]
 · rw[if_pos w1];exact h.up (by omega) (Nat.le_refl _)
 rw[if_neg w1]at h5 ⊢
 by_cases w2:t.word= [99,108,111,115,101]
 · rw[if_pos w2]at h5 ⊢;exact(h.say (canE_zero (h5 0 (by simp))).1).up (by omega) (Nat.le_refl _)
 rw[if_neg w2]at h5 ⊢;unfold chNext at h3;rw[if_neg w1,if_neg w2]at h3;have hne:=exH_ne (by have:=(hirE_K h1).2.1;omega) h3;have k1:=(canE_zero (h5 0 (by simp))).1;have k2:=(canE_zero (h5 1 (by simp))).1;refine(h.say k1).say (x:=⟨a,t.texts.getD 2 [],t.texts.getD 1 [],2,[]⟩) ?_;show((decide (t.texts.getD 2 []=oldV g)&&decide (a=a))||s.ats (t.texts.getD 2 []) a)=false;rw[decide_eq_false hne,Bool.false_and,Bool.false_or];exact k2
theorem chS_I {m n:Nat}{s:Off}(h:offI m n s)(vm:Mp (List UInt8))(sm:Mp Bool)(a:Int)(t:Tol):offI (m+2) (n+1) (chS vm sm s a t):=by
 unfold chS;split
 · rename_i e;unfold chE at e
   by_cases q:s.his.has (t.texts.getD 0 [])=true
   · rw[if_pos q]at e;have k2:=sayL_I h e;obtain⟨⟨h1,h2,h3⟩,_⟩:=chG_zero e;obtain⟨k3,k4⟩:=put_his (k:=t.texts.getD 0 []) k2.non k2.his h3;exact⟨k2.log,k2.ats,k2.apt,k2.paid,up_keys k2.fb (by omega),put_keys k2.fh,k3,k4⟩
   · rw[if_neg q]at e;exact absurd e (by decide)
 · exact h.up (by omega) (by omega)
theorem folO_I {m n:Nat}{s:Off}(k:offI m n s)(h:Hou)(vm:Mp (List UInt8))(sm:Mp Bool)(x:Ent):offI (m+2) (n+1) (folO h vm sm s x):=by
 unfold folO;split
 · exact k.up (by omega) (by omega)
 split
 · exact(evtS_I k vm sm _).up (by omega) (by omega)
 split
 · exact(bookS_I k h _).up (by omega) (by omega)
 split
 · split
   · exact⟨by have:=k.log;show s.log.length≤_;omega,k.ats,k.apt,k.paid,up_keys (del_keys k.fb) (by omega),up_keys k.fh (by omega),k.non,k.his⟩
   · exact k.up (by omega) (by omega)
 split
 · exact(stS_I k vm sm _ _).up (by omega) (by omega)
 split
 · exact(payS_I k _ _).up (by omega) (by omega)
 exact chS_I k vm sm _ _
theorem runC_I {h:Hou}{vm:Mp (List UInt8)}{sm:Mp Bool}:∀ (l:List Ent) {m n:Nat} {s:Off},offI m n s→offI (m+2*l.length) (n+l.length) (runC h vm sm s l)
 | [],m,n,s,k=>k
 |x::l,m,n,s,k=>(runC_I l (folO_I k h vm sm x)).up (by rw[List.length_cons];omega) (by rw[List.length_cons];omega)
def off0:Off:=⟨Mp.nil ss0,[],fun _ _=>false,Mp.nil bk0,Mp.nil none,Mp.nil 0,[]⟩
theorem off0_I:offI 0 0 off0 where
 log:=Nat.le_refl _
 ats v t:=⟨fun h=>(by cases h),fun⟨x,h,_⟩=>(by cases h)⟩
 apt:=List.Pairwise.nil
 paid k:=by show(0:Int)≤0∧(0:Int)≤_;omega
 fb:=⟨[],Nat.le_refl _,fun k h=>by cases h⟩
 fh:=⟨[],Nat.le_refl _,fun k h=>by cases h⟩
 non k h:=rfl
 his k h:=by cases h
variable (h:Hou) (vm:Mp (List UInt8)) (sm:Mp Bool)
theorem runC_snoc (l:List Ent)(x:Ent)(s:Off):runC h vm sm s (l++ [x])=folO h vm sm (runC h vm sm s l) x:=by
 unfold runC;rw[List.foldl_append];rfl
theorem refC_snoc (x:Ent):∀ (l:List Ent) (s:Off) (j:Nat),refC h vm sm s j (l++ [x])=refC h vm sm s j l++(if folE h vm sm (runC h vm sm s l) x=0 then []else [⟨((j+l.length:Nat):Int),folE h vm sm (runC h vm sm s l) x⟩])
 | [],s,j=>by
   show(if folE h vm sm s x=0 then _ else _)= []++(if folE h vm sm s x=0 then _ else _)
   by_cases e:folE h vm sm s x=0
   · rw[if_pos e,if_pos e];rfl
   · rw[if_neg e,if_neg e];rfl
 | y::l,s,j=>by
   have e1:runC h vm sm s (y::l)=runC h vm sm (folO h vm sm s y) l:=rfl;have e3:j+(y::l).length=(j+1)+l.length:=by rw[List.length_cons];omega
   rw[List.cons_append,refC,refC,e1,e3]
   by_cases e:folE h vm sm s y=0
   · rw[if_pos e,if_pos e];exact refC_snoc x l _ _
   · rw[if_neg e,if_neg e,fol_same e,refC_snoc x l s (j+1)];rfl
def offN (l:List Ent)(i:Nat):Off:={runC h vm sm off0 (l.take i)with ref:=refC h vm sm off0 0 (l.take i)}
theorem offN_good {l:List Ent}{i:Nat}(hi:i<l.length)(e:folE h vm sm (offN h vm sm l i) (l.getD i en0)=0):offN h vm sm l (i+1)=folO h vm sm (offN h vm sm l i) (l.getD i en0):=by
 have hx:l.take (i+1)=l.take i++ [l.getD i en0]:=by
  rw[List.take_succ_eq_append_getElem hi,List.getD_eq_getElem?_getD,List.getElem?_eq_getElem hi];rfl
 unfold offN at e ⊢;rw[folE_ref]at e;rw[folO_ref,hx,runC_snoc,refC_snoc,if_pos e,List.append_nil]
theorem offN_bad {l:List Ent}{i:Nat}(hi:i<l.length)(e:folE h vm sm (offN h vm sm l i) (l.getD i en0)≠0):offN h vm sm l (i+1)={offN h vm sm l i with ref:=(offN h vm sm l i).ref++ [⟨i,folE h vm sm (offN h vm sm l i) (l.getD i en0)⟩]}:=by
 have hx:l.take (i+1)=l.take i++ [l.getD i en0]:=by
  rw[List.take_succ_eq_append_getElem hi,List.getD_eq_getElem?_getD,List.getElem?_eq_getElem hi];rfl
 unfold offN at e ⊢;rw[folE_ref]at e ⊢;rw[hx,runC_snoc,refC_snoc,if_neg e,fol_same e,List.length_take,Nat.min_eq_left (by omega),Nat.zero_add]
theorem offI_ref {m n:Nat}{s:Off}(k:offI m n s)(r:List Rfs):offI m n {s with ref:=r}:=⟨k.log,k.ats,k.apt,k.paid,k.fb,k.fh,k.non,k.his⟩
theorem offN_I (l:List Ent)(i:Nat)(hi:i≤l.length):offI (2*i) i (offN h vm sm l i):=by
 have:=runC_I (h:=h) (vm:=vm) (sm:=sm) (l.take i) off0_I;rw[List.length_take,Nat.min_eq_left hi]at this;exact offI_ref (this.up (by omega) (by omega)) _
theorem refC_len:∀ (l:List Ent) (s:Off) (j:Nat),(refC h vm sm s j l).length≤l.length
 | [],s,j=>Nat.le_refl _
 | x::l,s,j=>by
   rw[refC];split
   · have:=refC_len l (folO h vm sm s x) (j+1);rw[List.length_cons];omega
   · have:=refC_len l s (j+1);rw[List.length_cons,List.length_cons];omega
theorem offN_ref (l:List Ent)(i:Nat):(offN h vm sm l i).ref.length≤l.length:=by
 have:=refC_len h vm sm (l.take i) off0 0;rw[List.length_take]at this;show(refC h vm sm off0 0 (l.take i)).length≤_;omega
def vmO (l:List Veh):Mp (List UInt8):=l.foldl (fun m v=>m.put v.key v.cls) (Mp.nil [])
def smO (l:List Sta):Mp Bool:=l.foldl (fun m s=>m.put s.key true) (Mp.nil false)
theorem vmO_succ {l:List Veh}{i:Nat}(hi:i<l.length):vmO (l.take (i+1))=(vmO (l.take i)).put (l.getD i veh0).key (l.getD i veh0).cls:=by
 unfold vmO;rw[List.take_succ_eq_append_getElem hi,List.foldl_append,List.getD_eq_getElem?_getD,List.getElem?_eq_getElem hi];rfl
theorem smO_succ {l:List Sta}{i:Nat}(hi:i<l.length):smO (l.take (i+1))=(smO (l.take i)).put (l.getD i sta0).key true:=by
 unfold smO;rw[List.take_succ_eq_append_getElem hi,List.foldl_append,List.getD_eq_getElem?_getD,List.getElem?_eq_getElem hi];rfl
def offZ (h:Hou)(l:List Ent):Off:=offN h (vmO h.flt.veh) (smO h.flt.sta) l l.length
structure TOrd {α:Type}(f:α→α→Int):Prop where
 sw:∀a b,f a b= - f b a
 tr:∀a b c,f a b<0→f b c<0→f a c<0
 co:∀a b,f a b=0→∀c,f a c=f b c
theorem TOrd.co' {α:Type}{f:α→α→Int}(h:TOrd f){a b:α}(e:f a b=0)(c:α):f c a=f c b:=by
 rw[h.sw c a,h.sw c b,h.co a b e c]
theorem TOrd.int {α:Type}(k:α→Int):TOrd fun a b=>cmpI (k a) (k b) where
 sw a b:=cmpI_sw _ _
 tr a b c h1 h2:=by rw[cmpI_lt]at*;omega
 co a b e c:=by rw[cmpI_zero.1 e]
theorem TOrd.str {α:Type}(k:α→List UInt8):TOrd fun a b=>cmpS (k a) (k b) where
 sw a b:=cmpS_sw _ _
 tr a b c h1 h2:=cmpS_trans h1 h2
 co a b e c:=by rw[cmpS_zero.1 e]
def seq2 {α:Type}(f g:α→α→Int):α→α→Int:=fun a b=>if f a b=0 then g a b else f a b
theorem TOrd.seq {α:Type}{f g:α→α→Int}(hf:TOrd f)(hg:TOrd g):TOrd (seq2 f g) where
 sw a b:=by
  have h1:=hf.sw a b;have h2:=hg.sw a b;unfold seq2
  by_cases e:f a b=0
  · rw[if_pos e,if_pos (by omega)];exact h2
  · rw[if_neg e,if_neg (by omega)];exact h1
 tr a b c h1 h2:=by
  unfold seq2 at*
  by_cases e1:f a b=0
  · rw[if_pos e1]at h1;have k:=hf.co a b e1 c
    by_cases e2:f b c=0
    · rw[if_pos e2]at h2;rw[if_pos (by omega)];exact hg.tr a b c h1 h2
    · rw[if_neg e2]at h2;rw[if_neg (by omega)];omega
  · rw[if_neg e1]at h1
    by_cases e2:f b c=0
    · have k:=hf.co' e2 a;rw[if_neg (by omega)];omega
    · rw[if_neg e2]at h2;have:=hf.tr a b c h1 h2;rw[if_neg (by omega)];exact this
 co a b e c:=by
  unfold seq2 at*
  by_cases e1:f a b=0
  · rw[if_pos e1]at e;rw[hf.co a b e1 c,hg.co a b e c]
  · rw[if_neg e1]at e;exact absurd e e1
theorem TOrd.le_tr {α:Type}{f:α→α→Int}(h:TOrd f){a b c:α}(h1:f a b≤0)(h2:f b c≤0):f a c≤0:=by
 by_cases e1:f a b=0
 · rw[h.co a b e1 c];exact h2
 · by_cases e2:f b c=0
   · rw[←h.co' e2 a];exact h1
   · have:=h.tr a b c (by omega) (by omega);omega
variable {α:Type}
theorem swp_at (U V W:List α)(x y d:α):(U++x::(V++y::W)).getD U.length d=x∧(U++x::(V++y::W)).getD (U.length+1+V.length) d=y∧((U++x::(V++y::W)).set U.length y).set (U.length+1+V.length) x=U++y::(V++x::W):=by
 refine⟨?_,?_,?_⟩
 · rw[List.getD_eq_getElem?_getD,List.getElem?_append_right (by omega),Nat.sub_self];rfl
 · rw[List.getD_eq_getElem?_getD,List.getElem?_append_right (by omega),show U.length+1+V.length - U.length=V.length+1 by omega,List.getElem?_cons_succ,List.getElem?_append_right (by omega),Nat.sub_self];rfl
 · rw[List.set_append_right _ _ (by omega),Nat.sub_self,List.set_cons_zero,List.set_append_right _ _ (by omega),show U.length+1+V.length - U.length=V.length+1 by omega,List.set_cons_succ,List.set_append_right _ _ (by omega),Nat.sub_self,List.set_cons_zero]
abbrev Srt (f:α→α→Int)(l:List α):Prop:=l.Pairwise fun a b=>f a b≤0
theorem srt_idx {f:α→α→Int}(hf:TOrd f){Y:List α}(hY:Srt f Y){i j:Nat}(hj:j<Y.length)(hij:i≤j)(d:α):i=j∨f (Y.getD i d) (Y.getD j d)≤0:=by
 rcases Nat.lt_or_ge i j with q|q
 · right;rw[List.getD_eq_getElem?_getD,List.getD_eq_getElem?_getD,List.getElem?_eq_getElem (by omega),List.getElem?_eq_getElem hj];exact List.pairwise_iff_getElem.1 hY i j (by omega) hj q
 · left;omega
theorem mem_take_ix {Y:List α}{t:Nat}{y:α}(h:y ∈ Y.take t)(d:α):∃i,i<t∧i<Y.length∧Y.getD i d=y:=by
 obtain⟨i,hi,e⟩:=List.getElem_of_mem h;rw[List.length_take]at hi;rw[List.getElem_take]at e;exact⟨i,by omega,by omega,by rw[List.getD_eq_getElem?_getD,List.getElem?_eq_getElem (by omega)];exact e⟩
theorem mem_drop_ix {Y:List α}{t:Nat}{y:α}(h:y ∈ Y.drop t)(d:α):∃i,t≤i∧i<Y.length∧Y.getD i d=y:=by
 obtain⟨i,hi,e⟩:=List.getElem_of_mem h;rw[List.length_drop]at hi;rw[List.getElem_drop]at e;exact⟨t+i,by omega,by omega,by rw[List.getD_eq_getElem?_getD,List.getElem?_eq_getElem (by omega)];exact e⟩
theorem srt_below {f:α→α→Int}(hf:TOrd f){Y:List α}(hY:Srt f Y){x d:α}{t:Nat}(ht:t≤Y.length)(h:t=0∨f (Y.getD (t - 1) d) x≤0):∀y ∈ Y.take t,f y x≤0:=fun y hy=>by
 obtain⟨i,h1,h2,rfl⟩:=mem_take_ix hy d;rcases h with h|h
 · omega
 rcases srt_idx hf hY (i:=i) (j:=t - 1) (by omega) (by omega) d with e|e
 · rw[e];exact h
 · exact hf.le_tr e h
theorem srt_above {f:α→α→Int}(hf:TOrd f){Y:List α}(hY:Srt f Y){x d:α}{t:Nat}(h:t=Y.length∨f x (Y.getD t d)≤0):∀y ∈ Y.drop t,f x y≤0:=fun y hy=>by
 obtain⟨i,h1,h2,rfl⟩:=mem_drop_ix hy d;rcases h with h|h
 · omega
 rcases srt_idx hf hY (i:=t) (j:=i) (by omega) (by omega) d with e|e
 · rw[←e];exact h
 · exact hf.le_tr h e
theorem srt_ins {f:α→α→Int}{Y1 Y2:List α}{x:α}(hY:Srt f (Y1++Y2))(h1:∀y ∈ Y1,f y x≤0)(h2:∀y ∈ Y2,f x y≤0):Srt f (Y1++x::Y2):=by
 rw[Srt,List.pairwise_append]at hY ⊢;refine⟨hY.1,List.pairwise_cons.2 ⟨h2,hY.2.1⟩,fun a ha b hb=> ?_⟩;rcases List.mem_cons.1 hb with e|hb
 · rw[e];exact h1 a ha
 · exact hY.2.2 a ha b hb
theorem srt_join {f:α→α→Int}{Z1 Z2 X1 Y1 X2 Y2:List α}(p1:Z1.Perm (X1++Y1))(s1:Srt f Z1)(p2:Z2.Perm (X2++Y2))(s2:Srt f Z2)(hX:Srt f (X1++X2))(hY:Srt f (Y1++Y2))
 (h1:∀x ∈ X1,∀y ∈ Y2,f x y≤0)(h2:∀y ∈ Y1,∀x ∈ X2,f y x≤0):(Z1++Z2).Perm ((X1++X2)++(Y1++Y2))∧Srt f (Z1++Z2):=by
 constructor
 · refine(p1.append p2).trans ?_;rw[List.append_assoc,List.append_assoc];exact List.Perm.append_left X1 (List.perm_append_comm_assoc _ _ _)
 · rw[Srt,List.pairwise_append]at hX hY ⊢;refine⟨s1,s2,fun a ha b hb=> ?_⟩;rcases List.mem_append.1 (p1.mem_iff.1 ha)with q|q<;>rcases List.mem_append.1 (p2.mem_iff.1 hb)with r|r
   · exact hX.2.2 a q b r
   · exact h1 a q b r
   · exact h2 a q b r
   · exact hY.2.2 a q b r
theorem srt_cross {f:α→α→Int}(hf:TOrd f){X Y:List α}(hX:Srt f X)(hY:Srt f Y){d:α}{s e:Nat}(hs:s≤X.length)(h:s=0∨e=Y.length∨f (X.getD (s - 1) d) (Y.getD e d)≤0):
 ∀x ∈ X.take s,∀y ∈ Y.drop e,f x y≤0:=fun x hx y hy=>by
 rcases h with h|h|h
 · subst h;rw[List.take_zero]at hx;cases hx
 · subst h;rw[List.drop_length]at hy;cases hy
 · exact hf.le_tr (srt_below hf hX hs (.inr h) x hx) (srt_above hf hY (d:=d) (t:=e) (.inr (by have:=hf.sw (Y.getD e d) (Y.getD e d);omega)) y hy)
theorem getD_win {P X S:List α}{i:Nat}(h1:P.length≤i)(h2:i<P.length+X.length)(d:α):(P++(X++S)).getD i d=X.getD (i - P.length) d:=by
 rw[List.getD_eq_getElem?_getD,List.getElem?_append_right h1,List.getElem?_append_left (by omega),List.getD_eq_getElem?_getD]
theorem isort_srt {f:α→α→Int}(hf:TOrd f)(l:List α):Srt f (isort f l):=
 isort_pairwise f (fun a b=>f a b≤0) (fun _ _ _ h1 h2=>hf.le_tr h1 h2) l (List.pairwise_of_forall fun x y=>⟨fun q=>by omega,fun q=>by have:=hf.sw x y;omega⟩)
theorem sort_one {f:α→α→Int}(hf:TOrd f){l c:List α}(hz:∀a ∈ l,∀b ∈ l,f a b=0→a=b)(hp:c.Perm l)(hs:Srt f c):c=isort f l:=
 List.Perm.eq_of_pairwise (le:=fun a b=>f a b≤0) (fun x y hx hy q1 q2=>hz x (hp.mem_iff.1 hx) y ((isort_perm f l).mem_iff.1 hy) (by have:=hf.sw x y;omega)) hs (isort_srt hf l) (hp.trans (isort_perm f l).symm)
theorem cut_at (X:List α)(s:Nat)(hs:s≤X.length):X.take s++X.drop s=X∧(X.take s).length=s∧(X.drop s).length=X.length - s:=by
 refine⟨List.take_append_drop s X,by rw[List.length_take];omega,List.length_drop ..⟩
def oJStB307_3:OL:= [(0,[]),(1,[0]),(2,[0,1]),(3,[0]),(4,rg 4),(5,rg 5),(6,rg 6),(7,rg 5),(8,rg 8),(9,rg 9),(10,rg 10),(11,rg 9),(12,rg 8),(13,rg 8),(14,rg 14),(15,rg 15),(16,rg 16),(17,rg 15),(18,rg 14),(19,rg 14),(20,[4,5,6,7]),(21,[4,5,6,7]),(22,[]),(23,[])]
theorem wSwpEv (g:FuncId)(P A M B S c:List Evn)(a b n:Nat)(ha:P.length=a)(hb0:a+A.length+M.length=b)(hn:A.length=n)(hAB:B.length=n)(hc:c=P++(A++(M++(B++S))))(hl:c.length≤2^20):
 FSpec Tryz.prog 307 [.buf 1000001,.d (.int .i64 a),.d (.int .i64 b),.d (.int .i64 n),.fn g []] [(1000001,seqB 242 5 evF ev0 c)]
  (fun y r=>y= .tup []∧r= [(1000001,seqB 242 5 evF ev0 (P++(B++(M++(A++S)))))]):=by
 have hl0:=hl;rw[hc]at hl0;simp only[List.length_append]at hl0;refine spec_of hT (C:= []) Tryz.func307 rfl Tryz.call307 rfl rfl rfl ?_;conv=>whnf
 refine LoopX.rule hT (C:= []) (ι:=Nat×List Evn×List Evn×List Evn×List Evn×List Evn) (fun(i,A1,A2,B1,B2,c)=>A1++A2=A∧B1++B2=B∧A1.length=i∧B1.length=i∧c=P++(B1++(A2++(M++(A1++(B2++S))))))
  (fun(i,_,_,_,_,c)=>mkSt [(0,.buf 1000001),(1,.d (.int .i64 a)),(2,.d (.int .i64 b)),(3,.d (.int .i64 n)),(10,.d (.int .i64 i))] [(1000001,seqB 242 5 evF ev0 c)])
  (fun(i,_,_,_,_,_)=>n - i) (0,[],A,[],B,c) ⟨rfl,rfl,rfl,rfl,hc⟩ (by exact eAx [(1000001,1000001)]) ?_
 rintro⟨i,A1,A2,B1,B2,d⟩ ⟨p1,p2,p3,p4,p5⟩;have l1:A1.length+A2.length=A.length:=by rw[←p1,List.length_append]
 have l2:B1.length+B2.length=B.length:=by rw[←p2,List.length_append]
 cases A2 with
 | nil=>
   have hb9:B2= []:=List.length_eq_zero_iff.1 (by simp only[List.length_nil]at l1;omega);subst hb9;rw[List.append_nil]at p1 p2;subst p1 p2;simp only[List.length_nil]at l1 l2;conv=>whnf
   repeat' (first|((first|(refine br_intro ?_ ?_<;>intro hb<;>try simp only[brs]at hb)|refine rAx hT 3 oJStB307_3 ?_|omega|refine sAx ?_|decide|assumption)<;>conv=>whnf))
   all_goals first
    |(exfalso;omega)
    | (refine .ret _ ?_
       conv=>whnf
       exact⟨_,⟨rfl,rfl⟩,by rw[p5];exact rr,trivial⟩)
 |cons x A2=>
 cases B2 with
 |nil=>exfalso;simp only[List.length_nil,List.length_cons]at l1 l2;omega
 |cons y B2=>
 simp only[List.length_cons]at l1 l2;have hc':d=(P++B1)++x::((A2++(M++A1))++y::(B2++S)):=by rw[p5];simp
 have hlc:d.length=P.length+A.length+M.length+B.length+S.length:=by rw[hc'];simp only[List.length_append,List.length_cons];omega
 have i1:((a:Int)+(i:Int)).toNat=(P++B1).length:=by rw[List.length_append];omega
 have i2:((b:Int)+(i:Int)).toNat=(P++B1).length+1+(A2++(M++A1)).length:=by simp only[List.length_append];omega
 obtain⟨g1,g2,g3⟩:=swp_at (P++B1) (A2++(M++A1)) (B2++S) x y ev0;rw[←hc',←i1]at g1;rw[←hc',←i2]at g2;rw[←hc',←i2,←i1]at g3;conv=>whnf
 repeat' (first|((first|(refine br_intro ?_ ?_<;>intro hb<;>try simp only[brs]at hb)|refine rAx hT 3 oJStB307_3 ?_|omega|refine sAx ?_|decide|assumption)<;>conv=>whnf))
 all_goals first
  |(exfalso;omega)
  |(refine⟨(i+1,A1++ [x],A2,B1++ [y],B2,(d.set ((a:Int)+(i:Int)).toNat (d.getD ((b:Int)+(i:Int)).toNat ev0)).set ((b:Int)+(i:Int)).toNat (d.getD ((a:Int)+(i:Int)).toNat ev0)),⟨by rw[←p1];simp,by rw[←p2];simp,by simp only[List.length_append,List.length_cons,List.length_nil];omega,by simp only[List.length_append,List.length_cons,List.length_nil];omega,by rw[g1,g2,g3];simp⟩,by show n - (i+1)<n - i;omega,Entails.mk' [(1000001,1000001)] rfl rfl ⟨lr,lr,lr,lr,SV.le_int (by omega),trivial⟩ ⟨Res.le_put2 (fun _=>rfl) (fun _=>rfl),trivial⟩⟩)
theorem wRotEv (g:FuncId)(P X Y S c:List Evn)(a m b:Nat)(ha:P.length=a)(hm:a+X.length=m)(hb0:m+Y.length=b)(hc:c=P++(X++(Y++S)))(hX:1≤X.length)(hY:1≤Y.length)(hl:c.length≤2^20):
 FSpec Tryz.prog 289 [.buf 1000001,.d (.int .i64 a),.d (.int .i64 m),.d (.int .i64 b),.fn g []] [(1000001,seqB 242 5 evF ev0 c)]
  (fun y r=>y= .tup []∧r= [(1000001,seqB 242 5 evF ev0 (P++(Y++(X++S))))]):=by
 have hl0:=hl;rw[hc]at hl0;simp only[List.length_append]at hl0;refine spec_of hT (C:= []) Tryz.func289 rfl Tryz.call289 rfl rfl rfl ?_;conv=>whnf
 repeat' (first|((first|(refine br_intro ?_ ?_<;>intro hb<;>try simp only[brs]at hb)|omega|refine sAx ?_|decide|assumption)<;>conv=>whnf))
 refine LoopX.rule hT (C:= []) (ι:=Nat×Nat×List Evn×List Evn×List Evn×List Evn×List Evn) (fun(i,j,A,X',Y',B,c)=>A++(Y'++(X'++B))=P++(Y++(X++S))∧A.length+i=m∧X'.length=i∧Y'.length=j∧1≤i∧1≤j∧c=A++(X'++(Y'++B)))
  (fun(i,j,_,_,_,_,c)=>mkSt [(0,.buf 1000001),(2,.d (.int .i64 m)),(4,.fn g []),(10,.d (.int .i64 i)),(11,.d (.int .i64 j))] [(1000001,seqB 242 5 evF ev0 c)])
  (fun(i,j,_,_,_,_,_)=>i+j) (X.length,Y.length,P,X,Y,S,c) ⟨rfl,by show P.length+X.length=m;omega,rfl,rfl,hX,hY,hc⟩ (by exact eAx [(1000001,1000001)]) ?_
 rintro⟨i,j,A,X',Y',B,d⟩ ⟨p1,p2,p3,p4,p5,p6,p7⟩
 have q1:A.length+X'.length+Y'.length+B.length=P.length+X.length+Y.length+S.length:=by
  have:=congrArg List.length p1;simp only[List.length_append]at this;omega
 have hld:d.length≤2^20:=by rw[p7];simp only[List.length_append];omega
 have e1:((m:Int) - (i:Int))=((A.length:Nat):Int):=by omega
 rcases Nat.lt_trichotomy i j with q|q|q
 · obtain⟨k1,k2,k3⟩:=cut_at Y' (j - i) (by omega);generalize List.take (j - i) Y' =U at k1 k2;generalize List.drop (j - i) Y' =V at k1 k3;subst k1;simp only[List.length_append]at p4 q1;have c1:=wSwpEv g A X' U V B d A.length (A.length+i+U.length) i rfl (by omega) p3 (by omega) (by rw[p7];simp) hld;conv=>whnf
   repeat' (first|((first|(refine CallX.of c1 [(1000001,1000001)] rfl ⟨lr,SV.le_int (by omega),SV.le_int (by omega),lr,lr,trivial⟩ ⟨rr,trivial⟩ rfl rfl ?_;rintro y rout ⟨rfl,rfl⟩;refine⟨rfl,?_⟩)|(refine br_intro ?_ ?_<;>intro hb<;>try simp only[brs]at hb)|omega|refine sAx ?_|decide|assumption)<;>conv=>whnf))
   all_goals first
    |(exfalso;omega)
    |exact⟨(i,j - i,A,V,U,X'++B,A++(V++(U++(X'++B)))),⟨by rw[←p1];simp,p2,by omega,by omega,by omega,by omega,by simp⟩,by show i+(j - i)<i+j;omega,(by exact eAx [(1000001,1000001)])⟩
 · have c1:=wSwpEv g A X' [] Y' B d A.length m i rfl (by show A.length+X'.length+0=m;omega) p3 (by omega) (by rw[p7];simp) hld;conv=>whnf
   repeat' (first|((first|(refine CallX.of c1 [(1000001,1000001)] rfl ⟨lr,SV.le_int (by omega),lr,lr,lr,trivial⟩ ⟨rr,trivial⟩ rfl rfl ?_;rintro y rout ⟨rfl,rfl⟩;refine⟨rfl,?_⟩)|(refine br_intro ?_ ?_<;>intro hb<;>try simp only[brs]at hb)|omega|refine sAx ?_|decide|assumption)<;>conv=>whnf))
   all_goals first
    |(exfalso;omega)
    | (rw[←p1]
       refine .ret _ ?_;conv=>whnf
       exact⟨_,⟨rfl,rfl⟩,rr,trivial⟩)
 · obtain⟨k1,k2,k3⟩:=cut_at X' j (by omega);generalize List.take j X' =U at k1 k2;generalize List.drop j X' =V at k1 k3;subst k1;simp only[List.length_append]at p3 q1;have c1:=wSwpEv g A U V Y' B d A.length m j rfl (by omega) (by omega) p4 (by rw[p7];simp) hld;conv=>whnf
   repeat' (first|((first|(refine CallX.of c1 [(1000001,1000001)] rfl ⟨lr,SV.le_int (by omega),lr,lr,lr,trivial⟩ ⟨rr,trivial⟩ rfl rfl ?_;rintro y rout ⟨rfl,rfl⟩;refine⟨rfl,?_⟩)|(refine br_intro ?_ ?_<;>intro hb<;>try simp only[brs]at hb)|omega|refine sAx ?_|decide|assumption)<;>conv=>whnf))
   all_goals first
    |(exfalso;omega)
    |exact⟨(i - j,j,A++Y',V,U,B,A++(Y'++(V++(U++B)))),⟨by rw[←p1];simp,by simp only[List.length_append];omega,by omega,by omega,by omega,by omega,by simp⟩,by show i - j+j<i+j;omega,(by exact eAx [(1000001,1000001)])⟩
def oJStC248_5:OL:= [(0,[]),(1,[0]),(2,[0,1]),(3,[0]),(4,[0]),(5,rg 5),(6,rg 6),(7,rg 5),(8,rg 5),(9,[]),(10,[])]
def oJStC248_11:OL:= [(0,[]),(1,[0]),(2,[0,1]),(3,[0,1,2]),(4,[0,1,2]),(5,rg 5),(6,rg 6),(7,rg 6),(8,rg 5),(9,rg 5),(10,rg 10),(11,rg 11),(12,rg 10),(13,rg 10),(14,[2,3,4]),(15,[2,3,4]),(16,[]),(17,[])]
def oJStC248_17:OL:= [(0,[]),(1,[0]),(2,[0,1]),(3,[0]),(4,[0]),(5,rg 5),(6,rg 6),(7,rg 5),(8,rg 5),(9,[]),(10,[]),(11,[])]
def oJStC248_23:OL:= [(0,[]),(1,[0]),(2,[0,1]),(3,[0,1,2]),(4,[0,1,2]),(5,rg 5),(6,rg 6),(7,rg 6),(8,rg 5),(9,rg 5),(10,rg 10),(11,rg 11),(12,rg 10),(13,rg 10),(14,[2,3,4]),(15,[2,3,4]),(16,[]),(17,[])]
def oJStC248_35:OL:= [(0,[]),(1,[0]),(2,[0,1]),(3,[0,1,2]),(4,[0,1]),(5,[0]),(6,[0]),(7,rg 7),(8,rg 8),(9,rg 7),(10,rg 7),(11,[]),(12,[]),(13,[])]
abbrev SymEv (g:FuncId)(f:Evn→Evn→Int)(P X Y S c:List Evn)(a m b:Nat):Prop:=
 FSpec Tryz.prog 248 [.buf 1000001,.d (.int .i64 a),.d (.int .i64 m),.d (.int .i64 b),.fn g []] [(1000001,seqB 242 5 evF ev0 c)]
  (fun y r=>y= .tup []∧∃Z,Z.Perm (X++Y)∧Srt f Z∧r= [(1000001,seqB 242 5 evF ev0 (P++(Z++S)))])
theorem wSymAEv (g:FuncId)(f:Evn→Evn→Int)(hf:TOrd f)(P Y S c:List Evn)(x:Evn)(a m b:Nat)(ha:P.length=a)(hm:a+1=m)(hb0:m+Y.length=b)(hc:c=P++([x]++(Y++S)))(hY:Srt f Y)(hl:c.length≤2^20)
 (hcmp:∀p q,p ∈ [x]++Y→q ∈ [x]++Y→FSpec Tryz.prog g [.agg ((evF p).map .d),.agg ((evF q).map .d)] [] (fun y r=>y= .d (.int .i64 (f p q))∧r= [])):SymEv g f P [x] Y S c a m b:=by
 have hl0:=hl;rw[hc]at hl0;simp only[List.length_append,List.length_singleton]at hl0;have hlc:c.length=P.length+(1+Y.length)+S.length:=by rw[hc];simp only[List.length_append,List.length_singleton];omega
 have gx:c.getD (a:Int).toNat ev0=x:=by rw[hc,getD_win (by omega) (by simp only[List.length_singleton];omega),show(a:Int).toNat - P.length=0 by omega];rfl
 have gy:∀k,m≤k→k<b→c.getD k ev0=Y.getD (k - m) ev0:=fun k h1 h2=>by
  rw[hc,←List.append_assoc,getD_win (by simp only[List.length_append,List.length_singleton];omega) (by simp only[List.length_append,List.length_singleton];omega)];congr 1
  simp only[List.length_append,List.length_singleton];omega
 refine spec_of hT (C:= []) Tryz.func248 rfl Tryz.call248 rfl rfl rfl ?_;conv=>whnf
 repeat' (first|((first|(refine br_intro ?_ ?_<;>intro hb<;>try simp only[brs]at hb)|refine rAx hT 5 oJStC248_5 ?_|refine rAx hT 11 oJStC248_11 ?_|refine rAx hT 17 oJStC248_17 ?_|refine rAx hT 23 oJStC248_23 ?_|refine rAx hT 35 oJStC248_35 ?_|omega|refine sAx ?_|decide|assumption)<;>conv=>whnf))
 all_goals try(exfalso;omega)
 refine LoopX.rule hT (C:= []) (ι:=Nat×Nat) (fun(i,j)=>m≤i∧i≤j∧j≤b∧(i - m=0∨f (Y.getD (i - m - 1) ev0) x≤0)∧(j - m=Y.length∨f x (Y.getD (j - m) ev0)≤0))
  (fun(i,j)=>mkSt [(0,.buf 1000001),(1,.d (.int .i64 a)),(4,.fn g []),(10,.d (.int .i64 i)),(11,.d (.int .i64 j))] [(1000001,seqB 242 5 evF ev0 c)])
  (fun(i,j)=>j - i) (m,b) ⟨Nat.le_refl _,by show m≤b;omega,Nat.le_refl _,.inl (by show m - m=0;omega),.inl (by show b - m=_;omega)⟩ (by exact eAx [(1000001,1000001)]) ?_
 rintro⟨i,j⟩ ⟨p1,p2,p3,p4,p5⟩;try dsimp only at p1 p2 p3 p4 p5
 rcases Nat.lt_or_ge i j with q|q
 · obtain⟨M,hM⟩:∃M,M=(i+j)/2:=⟨_,rfl⟩;have hh:=half2 i j (by omega) p2;rw[←hM]at hh;have gM:c.getD (M:Int).toNat ev0=Y.getD (M - m) ev0:=by rw[Int.toNat_natCast];exact gy M (by omega) (by omega)
   have mM:Y.getD (M - m) ev0 ∈ [x]++Y:=List.mem_append_right _ (getD_mem (by omega));conv=>whnf
   repeat' (first|(refine⟨rfl,?_⟩;conv=>whnf)|(rw[hh];conv=>whnf)|((first|(refine CallX.of (hcmp (Y.getD (M - m) ev0) x mM (by simp)) [] rfl ⟨by rw[←gM];exact lr,by rw[←gx];exact lr,trivial⟩ trivial rfl rfl ?_;rintro y rout ⟨rfl,rfl⟩;refine⟨rfl,?_⟩)|(refine br_intro ?_ ?_<;>intro hb<;>try simp only[brs]at hb)|refine rAx hT 5 oJStC248_5 ?_|refine rAx hT 11 oJStC248_11 ?_|refine rAx hT 17 oJStC248_17 ?_|refine rAx hT 23 oJStC248_23 ?_|refine rAx hT 35 oJStC248_35 ?_|omega|refine sAx ?_|decide|assumption)<;>conv=>whnf))
   all_goals try(exfalso;omega)
   · exact⟨(M+1,j),⟨by show m≤M+1;omega,by show M+1≤j;omega,p3,.inr (by show f (Y.getD (M+1 - m - 1) _) _≤0;rw[show M+1 - m - 1=M - m by omega];omega),p5⟩,by show j - (M+1)<j - i;omega,(by exact eAx [(1000001,1000001)])⟩
   · exact⟨(i,M),⟨p1,by show i≤M;omega,by show M≤b;omega,p4,.inr (by show f _ (Y.getD (M - m) _)≤0;rw[hf.sw];omega)⟩,by show M - i<j - i;omega,(by exact eAx [(1000001,1000001)])⟩
 · have hij:i=j:=by omega
   subst hij;obtain⟨k1,k2,k3⟩:=cut_at Y (i - m) (by omega);have s1:=srt_below hf hY (x:=x) (d:=ev0) (t:=i - m) (by omega) p4;have s2:=srt_above hf hY (x:=x) (d:=ev0) (t:=i - m) p5;generalize List.take (i - m) Y=Y1 at k1 k2 s1;generalize List.drop (i - m) Y=Y2 at k1 k3 s2;subst k1;have sZ:=srt_ins hY s1 s2;conv=>whnf
   repeat' (first|((first|(refine br_intro ?_ ?_<;>intro hb<;>try simp only[brs]at hb)|refine rAx hT 5 oJStC248_5 ?_|refine rAx hT 11 oJStC248_11 ?_|refine rAx hT 17 oJStC248_17 ?_|refine rAx hT 23 oJStC248_23 ?_|refine rAx hT 35 oJStC248_35 ?_|omega|refine sAx ?_|decide|assumption)<;>conv=>whnf))
   all_goals try(exfalso;omega)
   refine LoopX.rule hT (C:= []) (ι:=Nat×List Evn×List Evn×List Evn) (fun(k,A,B,c)=>A++B=Y1∧A.length+a=k∧c=P++(A++(x::(B++(Y2++S)))))
    (fun(k,_,_,c)=>mkSt [(0,.buf 1000001),(10,.d (.int .i64 i)),(13,.d (.int .i64 k))] [(1000001,seqB 242 5 evF ev0 c)])
    (fun(_,_,B,_)=>B.length) (a,[],Y1,c) ⟨rfl,by simp,by rw[hc];simp⟩ (by exact eAx [(1000001,1000001)]) ?_
   rintro⟨k,A,B,d⟩ ⟨r1,r2,r3⟩;have r4:A.length+B.length=Y1.length:=by rw[←r1,List.length_append]
   have hld:d.length=c.length:=by rw[r3,hc,←r1];simp only[List.length_append,List.length_cons,List.length_nil];omega
   cases B with
   | nil=>
     rw[List.append_nil]at r1;simp only[List.length_nil]at r4;conv=>whnf
     repeat' (first|((first|(refine br_intro ?_ ?_<;>intro hb<;>try simp only[brs]at hb)|refine rAx hT 5 oJStC248_5 ?_|refine rAx hT 11 oJStC248_11 ?_|refine rAx hT 17 oJStC248_17 ?_|refine rAx hT 23 oJStC248_23 ?_|refine rAx hT 35 oJStC248_35 ?_|omega|refine sAx ?_|decide|assumption)<;>conv=>whnf))
     all_goals try(exfalso;omega)
     refine .ret _ ?_;conv=>whnf
     exact⟨_,⟨rfl,Y1++x::Y2,List.perm_middle,sZ,rfl⟩,by rw[r3,r1];simp only[List.append_assoc,List.cons_append,List.nil_append];exact rr,trivial⟩
   | cons y B=>
     simp only[List.length_cons]at r4;obtain⟨g1,g2,g3⟩:=swp_at (P++A) [] (B++(Y2++S)) x y ev0;have hc':d=(P++A)++x::([]++y::(B++(Y2++S))):=by rw[r3];simp
     have i1:(k:Int).toNat=(P++A).length:=by rw[List.length_append];omega
     have i2:((k:Int)+1).toNat=(P++A).length+1+([]:List Evn).length:=by simp only[List.length_append,List.length_nil];omega
     rw[←hc',←i1]at g1;rw[←hc',←i2]at g2;rw[←hc',←i2,←i1]at g3;conv=>whnf
     repeat' (first|((first|(refine br_intro ?_ ?_<;>intro hb<;>try simp only[brs]at hb)|refine rAx hT 5 oJStC248_5 ?_|refine rAx hT 11 oJStC248_11 ?_|refine rAx hT 17 oJStC248_17 ?_|refine rAx hT 23 oJStC248_23 ?_|refine rAx hT 35 oJStC248_35 ?_|omega|refine sAx ?_|decide|assumption)<;>conv=>whnf))
     all_goals try(exfalso;omega)
     refine⟨(k+1,A++ [y],B,(d.set (k:Int).toNat (d.getD ((k:Int)+1).toNat ev0)).set ((k:Int)+1).toNat (d.getD (k:Int).toNat ev0)),⟨by rw[←r1];simp,by simp only[List.length_append,List.length_singleton];omega,by rw[g1,g2,g3];simp⟩,by show B.length<(y::B).length;simp,Entails.mk' [(1000001,1000001)] rfl rfl ⟨lr,lr,SV.le_int (by omega),trivial⟩ ⟨Res.le_put2 (fun _=>rfl) (fun _=>rfl),trivial⟩⟩
theorem wSymBEv (g:FuncId)(f:Evn→Evn→Int)(hf:TOrd f)(P X S c:List Evn)(x:Evn)(a m b:Nat)(ha:P.length=a)(hm:a+X.length=m)(hX2:2≤X.length)(hb0:m+1=b)(hc:c=P++(X++([x]++S)))(hX:Srt f X)(hl:c.length≤2^20)
 (hcmp:∀p q,p ∈ X++ [x]→q ∈ X++ [x]→FSpec Tryz.prog g [.agg ((evF p).map .d),.agg ((evF q).map .d)] [] (fun y r=>y= .d (.int .i64 (f p q))∧r= [])):SymEv g f P X [x] S c a m b:=by
 have hl0:=hl;rw[hc]at hl0;simp only[List.length_append,List.length_singleton]at hl0;have hlc:c.length=P.length+(X.length+1)+S.length:=by rw[hc];simp only[List.length_append,List.length_singleton];omega
 have gx:c.getD (m:Int).toNat ev0=x:=by rw[hc,←List.append_assoc,getD_win (by simp only[List.length_append];omega) (by simp only[List.length_append,List.length_singleton];omega),show(m:Int).toNat - (P++X).length=0 by simp only[List.length_append];omega];rfl
 have gy:∀k,a≤k→k<m→c.getD k ev0=X.getD (k - a) ev0:=fun k h1 h2=>by
  rw[hc,getD_win (by omega) (by omega),ha]
 refine spec_of hT (C:= []) Tryz.func248 rfl Tryz.call248 rfl rfl rfl ?_;conv=>whnf
 repeat' (first|((first|(refine br_intro ?_ ?_<;>intro hb<;>try simp only[brs]at hb)|refine rAx hT 5 oJStC248_5 ?_|refine rAx hT 11 oJStC248_11 ?_|refine rAx hT 17 oJStC248_17 ?_|refine rAx hT 23 oJStC248_23 ?_|refine rAx hT 35 oJStC248_35 ?_|omega|refine sAx ?_|decide|assumption)<;>conv=>whnf))
 all_goals try(exfalso;omega)
 refine LoopX.rule hT (C:= []) (ι:=Nat×Nat) (fun(i,j)=>a≤i∧i≤j∧j≤m∧(i - a=0∨f (X.getD (i - a - 1) ev0) x≤0)∧(j - a=X.length∨f x (X.getD (j - a) ev0)≤0))
  (fun(i,j)=>mkSt [(0,.buf 1000001),(2,.d (.int .i64 m)),(4,.fn g []),(14,.d (.int .i64 i)),(15,.d (.int .i64 j))] [(1000001,seqB 242 5 evF ev0 c)])
  (fun(i,j)=>j - i) (a,m) ⟨Nat.le_refl _,by show a≤m;omega,Nat.le_refl _,.inl (by show a - a=0;omega),.inl (by show m - a=_;omega)⟩ (by exact eAx [(1000001,1000001)]) ?_
 rintro⟨i,j⟩ ⟨p1,p2,p3,p4,p5⟩;try dsimp only at p1 p2 p3 p4 p5
 rcases Nat.lt_or_ge i j with q|q
 · obtain⟨M,hM⟩:∃M,M=(i+j)/2:=⟨_,rfl⟩;have hh:=half2 i j (by omega) p2;rw[←hM]at hh;have gM:c.getD (M:Int).toNat ev0=X.getD (M - a) ev0:=by rw[Int.toNat_natCast];exact gy M (by omega) (by omega)
   have mM:X.getD (M - a) ev0 ∈ X++ [x]:=List.mem_append_left _ (getD_mem (by omega));conv=>whnf
   repeat' (first|(refine⟨rfl,?_⟩;conv=>whnf)|(rw[hh];conv=>whnf)|((first|(refine CallX.of (hcmp x (X.getD (M - a) ev0) (by simp) mM) [] rfl ⟨by rw[←gx];exact lr,by rw[←gM];exact lr,trivial⟩ trivial rfl rfl ?_;rintro y rout ⟨rfl,rfl⟩;refine⟨rfl,?_⟩)|(refine br_intro ?_ ?_<;>intro hb<;>try simp only[brs]at hb)|refine rAx hT 5 oJStC248_5 ?_|refine rAx hT 11 oJStC248_11 ?_|refine rAx hT 17 oJStC248_17 ?_|refine rAx hT 23 oJStC248_23 ?_|refine rAx hT 35 oJStC248_35 ?_|omega|refine sAx ?_|decide|assumption)<;>conv=>whnf))
   all_goals try(exfalso;omega)
   · exact⟨(M+1,j),⟨by show a≤M+1;omega,by show M+1≤j;omega,p3,.inr (by show f (X.getD (M+1 - a - 1) _) _≤0;rw[show M+1 - a - 1=M - a by omega,hf.sw];omega),p5⟩,by show j - (M+1)<j - i;omega,(by exact eAx [(1000001,1000001)])⟩
   · exact⟨(i,M),⟨p1,by show i≤M;omega,by show M≤m;omega,p4,.inr (by show f _ (X.getD (M - a) _)≤0;omega)⟩,by show M - i<j - i;omega,(by exact eAx [(1000001,1000001)])⟩
 · have hij:i=j:=by omega
   subst hij;obtain⟨k1,k2,k3⟩:=cut_at X (i - a) (by omega);have s1:=srt_below hf hX (x:=x) (d:=ev0) (t:=i - a) (by omega) p4;have s2:=srt_above hf hX (x:=x) (d:=ev0) (t:=i - a) p5;generalize List.take (i - a) X=Y1 at k1 k2 s1;generalize List.drop (i - a) X=Y2 at k1 k3 s2;subst k1;have sZ:=srt_ins hX s1 s2;simp only[List.length_append]at hm hl0 k3;conv=>whnf
   repeat' (first|((first|(refine br_intro ?_ ?_<;>intro hb<;>try simp only[brs]at hb)|refine rAx hT 5 oJStC248_5 ?_|refine rAx hT 11 oJStC248_11 ?_|refine rAx hT 17 oJStC248_17 ?_|refine rAx hT 23 oJStC248_23 ?_|refine rAx hT 35 oJStC248_35 ?_|omega|refine sAx ?_|decide|assumption)<;>conv=>whnf))
   all_goals try(exfalso;omega)
   refine LoopX.rule hT (C:= []) (ι:=Nat×List Evn×List Evn×List Evn) (fun(k,A,B,c)=>A.reverse++B=Y2∧A.length+i=k∧c=P++(Y1++(A.reverse++(x::(B++S)))))
    (fun(k,_,_,c)=>mkSt [(0,.buf 1000001),(14,.d (.int .i64 i)),(17,.d (.int .i64 k))] [(1000001,seqB 242 5 evF ev0 c)])
    (fun(_,A,_,_)=>A.length) (m,Y2.reverse,[],c) ⟨by simp,by show Y2.reverse.length+i=m;rw[List.length_reverse];omega,by rw[hc];simp⟩ (by exact eAx [(1000001,1000001)]) ?_
   rintro⟨k,A,B,d⟩ ⟨r1,r2,r3⟩;have r4:A.length+B.length=Y2.length:=by rw[←r1,List.length_append,List.length_reverse]
   have hld:d.length=c.length:=by rw[r3,hc,←r1];simp only[List.length_append,List.length_cons,List.length_nil,List.length_reverse];omega
   cases A with
   | nil=>
     rw[List.reverse_nil,List.nil_append]at r1;simp only[List.length_nil]at r4 r2;conv=>whnf
     repeat' (first|((first|(refine br_intro ?_ ?_<;>intro hb<;>try simp only[brs]at hb)|refine rAx hT 5 oJStC248_5 ?_|refine rAx hT 11 oJStC248_11 ?_|refine rAx hT 17 oJStC248_17 ?_|refine rAx hT 23 oJStC248_23 ?_|refine rAx hT 35 oJStC248_35 ?_|omega|refine sAx ?_|decide|assumption)<;>conv=>whnf))
     all_goals try(exfalso;omega)
     refine .ret _ ?_;conv=>whnf
     exact⟨_,⟨rfl,Y1++x::Y2,by rw[List.append_assoc];exact List.Perm.append_left Y1 (List.perm_append_singleton x Y2).symm,sZ,rfl⟩,by rw[r3,r1];simp only[List.append_assoc,List.cons_append,List.nil_append,List.reverse_nil];exact rr,trivial⟩
   | cons y A=>
     simp only[List.length_cons]at r4 r2;obtain⟨g1,g2,g3⟩:=swp_at (P++(Y1++A.reverse)) [] (B++S) y x ev0;have hc':d=(P++(Y1++A.reverse))++y::([]++x::(B++S)):=by rw[r3];simp
     have i1:((k:Int) - 1).toNat=(P++(Y1++A.reverse)).length:=by simp only[List.length_append,List.length_reverse];omega
     have i2:(k:Int).toNat=(P++(Y1++A.reverse)).length+1+([]:List Evn).length:=by simp only[List.length_append,List.length_nil,List.length_reverse];omega
     rw[←hc',←i1]at g1;rw[←hc',←i2]at g2;rw[←hc',←i2,←i1]at g3;conv=>whnf
     repeat' (first|((first|(refine br_intro ?_ ?_<;>intro hb<;>try simp only[brs]at hb)|refine rAx hT 5 oJStC248_5 ?_|refine rAx hT 11 oJStC248_11 ?_|refine rAx hT 17 oJStC248_17 ?_|refine rAx hT 23 oJStC248_23 ?_|refine rAx hT 35 oJStC248_35 ?_|omega|refine sAx ?_|decide|assumption)<;>conv=>whnf))
     all_goals try(exfalso;omega)
     refine⟨(k - 1,A,y::B,(d.set (k:Int).toNat (d.getD ((k:Int) - 1).toNat ev0)).set ((k:Int) - 1).toNat (d.getD (k:Int).toNat ev0)),⟨by rw[←r1];simp,by omega,?_⟩,by show A.length<(y::A).length;simp,Entails.mk' [(1000001,1000001)] rfl rfl ⟨lr,lr,SV.le_int (by omega),trivial⟩ ⟨Res.le_put2 (fun _=>rfl) (fun _=>rfl),trivial⟩⟩;rw[List.set_comm _ _ (by omega),g1,g2,g3];simp
def oJStD248_5:List (Nat×List Nat):= [(0,[]),(1,[0]),(2,[0,1]),(3,[0]),(4,[0]),(5,[0,1,2,3,4]),(6,[0,1,2,3,4,5]),(7,[0,1,2,3,4]),(8,[0,1,2,3,4]),(9,[]),(10,[])]
def oJStD248_11:List (Nat×List Nat):= [(0,[]),(1,[0]),(2,[0,1]),(3,[0,1,2]),(4,[0,1,2]),(5,[0,1,2,3,4]),(6,[0,1,2,3,4,5]),(7,[0,1,2,3,4,5]),(8,[0,1,2,3,4]),(9,[0,1,2,3,4]),(10,[0,1,2,3,4,5,6,7,8,9]),(11,[0,1,2,3,4,5,6,7,8,9,10]),(12,[0,1,2,3,4,5,6,7,8,9]),(13,[0,1,2,3,4,5,6,7,8,9]),(14,[2,3,4]),(15,[2,3,4]),(16,[]),(17,[])]
def oJStD248_17:List (Nat×List Nat):= [(0,[]),(1,[0]),(2,[0,1]),(3,[0]),(4,[0]),(5,[0,1,2,3,4]),(6,[0,1,2,3,4,5]),(7,[0,1,2,3,4]),(8,[0,1,2,3,4]),(9,[]),(10,[]),(11,[])]
def oJStD248_23:List (Nat×List Nat):= [(0,[]),(1,[0]),(2,[0,1]),(3,[0,1,2]),(4,[0,1,2]),(5,[0,1,2,3,4]),(6,[0,1,2,3,4,5]),(7,[0,1,2,3,4,5]),(8,[0,1,2,3,4]),(9,[0,1,2,3,4]),(10,[0,1,2,3,4,5,6,7,8,9]),(11,[0,1,2,3,4,5,6,7,8,9,10]),(12,[0,1,2,3,4,5,6,7,8,9]),(13,[0,1,2,3,4,5,6,7,8,9]),(14,[2,3,4]),(15,[2,3,4]),(16,[]),(17,[])]
def oJStD248_35:List (Nat×List Nat):= [(0,[]),(1,[0]),(2,[0,1]),(3,[0,1,2]),(4,[0,1]),(5,[0]),(6,[0]),(7,[0,1,2,3,4,5,6]),(8,[0,1,2,3,4,5,6,7]),(9,[0,1,2,3,4,5,6]),(10,[0,1,2,3,4,5,6]),(11,[]),(12,[]),(13,[])]
set_option maxHeartbeats 4000000 in
theorem wSymCEv (g:FuncId)(f:Evn→Evn→Int)(hf:TOrd f)(P X Y S c:List Evn)(a m b:Nat)(ha:P.length=a)(hm:a+X.length=m)(hb0:m+Y.length=b)(hc:c=P++(X++(Y++S)))(hX2:2≤X.length)(hY2:2≤Y.length)(hX:Srt f X)(hY:Srt f Y)(hl:c.length≤2^20)
 (hcmp:∀p q,p ∈ X++Y→q ∈ X++Y→FSpec Tryz.prog g [.agg ((evF p).map .d),.agg ((evF q).map .d)] [] (fun y r=>y= .d (.int .i64 (f p q))∧r= []))
 (ih:∀ (P X' Y' S c:List Evn) (a m b:Nat),P.length=a→a+X'.length=m→m+Y'.length=b→c=P++(X'++(Y'++S))→1≤X'.length→1≤Y'.length→X'.length+Y'.length<X.length+Y.length→Srt f X'→Srt f Y'→c.length≤2^20→(∀p ∈ X'++Y',p ∈ X++Y)→SymEv g f P X' Y' S c a m b):SymEv g f P X Y S c a m b:=by
 have hl0:=hl
 rw[hc]at hl0
 simp only[List.length_append]at hl0
 have hlc:c.length=P.length+(X.length+Y.length)+S.length:=by rw[hc];simp only[List.length_append];omega
 have gx:∀k,a≤k→k<m→c.getD k ev0=X.getD (k - a) ev0:=fun k h1 h2=>by
  rw[hc,getD_win (by omega) (by omega),ha]
 have gy:∀k,m≤k→k<b→c.getD k ev0=Y.getD (k - m) ev0:=fun k h1 h2=>by
  rw[hc,←List.append_assoc,getD_win (by simp only[List.length_append];omega) (by simp only[List.length_append];omega)]
  congr 1
  simp only[List.length_append];omega
 obtain⟨Md,hMd⟩:∃Md,Md=(a+b)/2:=⟨_,rfl⟩
 have hh0:=half2 a b (by omega) (by omega)
 rw[←hMd]at hh0
 obtain⟨s0,r0,h01,h02⟩:∃s0 r0:Nat,(Md<m→s0=Md+m - b∧r0=Md)∧(m≤Md→s0=a∧r0=m):=by
  by_cases q:Md<m
  · exact⟨Md+m - b,Md,fun _=>⟨rfl,rfl⟩,fun h=>by omega⟩
  · exact⟨a,m,fun h=>by omega,fun _=>⟨rfl,rfl⟩⟩
 have h03:s0≤r0∧a≤s0∧r0≤m∧r0≤Md:=by
  rcases Nat.lt_or_ge Md m with q|q
  · have:=h01 q;omega
  · have:=h02 q;omega
 obtain⟨h03,h04,h05,h06⟩:=h03
 refine spec_of hT (C:= []) Tryz.func248 rfl Tryz.call248 rfl rfl rfl ?_
 conv=>whnf
 repeat' (first|(refine⟨rfl,?_⟩;conv=>whnf)|(rw[hh0];conv=>whnf)|(refine br_intro ?_ ?_<;>intro hb<;>(try simp only[brs]at hb)<;>conv=>whnf)|(refine RegX.rule (id:=5) hT rfl [] oJStD248_5 (by decide+kernel) ?_;conv=>whnf)|(refine RegX.rule (id:=11) hT rfl [] oJStD248_11 (by decide+kernel) ?_;conv=>whnf)|(refine RegX.rule (id:=17) hT rfl [] oJStD248_17 (by decide+kernel) ?_;conv=>whnf)|(refine RegX.rule (id:=23) hT rfl [] oJStD248_23 (by decide+kernel) ?_;conv=>whnf)|(refine RegX.rule (id:=35) hT rfl [] oJStD248_35 (by decide+kernel) ?_;conv=>whnf)|omega|(refine And.intro ?_ ?_;((try dsimp only);first|omega|(refine szA rfl ?_;omega)|(refine szB rfl ?_;omega)|(unfold inI64;omega)|exact rfl|(simp only[List.toList_toArray,List.length_cons,List.length_nil];omega)|(simp only[lns]at*;omega)|decide|(unfold inI64;decide));conv=>whnf)|decide|assumption)
 all_goals try(exfalso;omega)
 all_goals
  refine LoopX.rule hT (C:= []) (ι:=Nat×Nat) (fun(s,r)=>s0≤s∧s≤r∧r≤r0∧(s=s0∨f (X.getD (s - a - 1) ev0) (Y.getD (Md - s) ev0)≤0)∧(r=r0∨f (Y.getD (Md - r - 1) ev0) (X.getD (r - a) ev0)≤0))
   (fun(s,r)=>mkSt [(0,.buf 1000001),(1,.d (.int .i64 a)),(2,.d (.int .i64 m)),(3,.d (.int .i64 b)),(4,.fn g []),(18,.d (.int .i64 Md)),(19,.d (.int .i64 ((Md+m:Nat):Int))),(20,.d (.int .i64 s)),(21,.d (.int .i64 r)),(22,.d (.int .i64 ((Md+m - 1:Nat):Int)))] [(1000001,seqB 242 5 evF ev0 c)])
   (fun(s,r)=>r - s) (s0,r0) ⟨Nat.le_refl _,h03,Nat.le_refl _,.inl rfl,.inl rfl⟩ (by(refine Entails.mk' [(1000001,1000001)] rfl rfl ?_ ?_<;>repeat' (first|exact True.intro|exact lr|exact rr|exact SV.le_int (by omega)|exact SV.le_any _|refine And.intro ?_ ?_));done) ?_
  rintro⟨s,r⟩ ⟨p1,p2,p3,p4,p5⟩
  try dsimp only at p1 p2 p3 p4 p5
  rcases Nat.lt_or_ge s r with q|q
  · obtain⟨C,hC⟩:∃C,C=(s+r)/2:=⟨_,rfl⟩
    have hh:=half2 s r (by omega) p2
    rw[←hC]at hh
    have hCb:s≤C∧C<r:=by omega
    have gM:c.getD (C:Int).toNat ev0=X.getD (C - a) ev0:=by rw[Int.toNat_natCast];exact gx C (by omega) (by omega)
    have gN:c.getD (((Md+m - 1:Nat):Int) - (C:Int)).toNat ev0=Y.getD (Md - C - 1) ev0:=by
     rw[show(((Md+m - 1:Nat):Int) - (C:Int)).toNat=Md+m - 1 - C by omega,gy _ (by omega) (by rcases Nat.lt_or_ge Md m with t|t;(have:=h01 t;omega);(have:=h02 t;omega))]
     congr 1;omega
    have mM:X.getD (C - a) ev0 ∈ X++Y:=List.mem_append_left _ (getD_mem (by omega))
    have mN:Y.getD (Md - C - 1) ev0 ∈ X++Y:=List.mem_append_right _ (getD_mem (by rcases Nat.lt_or_ge Md m with t|t;(have:=h01 t;omega);(have:=h02 t;omega)))
    have hbd:Md+m - 1 - C<b:=by rcases Nat.lt_or_ge Md m with t|t;(have:=h01 t;omega);(have:=h02 t;omega)
    conv=>whnf
    repeat' (first|(refine⟨rfl,?_⟩;conv=>whnf)|(rw[hh];conv=>whnf)|(refine CallX.of (hcmp (Y.getD (Md - C - 1) ev0) (X.getD (C - a) ev0) mN mM) [] rfl ⟨by rw[←gN];exact lr,by rw[←gM];exact lr,trivial⟩ trivial rfl rfl ?_;rintro y rout ⟨rfl,rfl⟩;refine⟨rfl,?_⟩;conv=>whnf)|(refine br_intro ?_ ?_<;>intro hb<;>(try simp only[brs]at hb)<;>conv=>whnf)|(refine RegX.rule (id:=5) hT rfl [] oJStD248_5 (by decide+kernel) ?_;conv=>whnf)|(refine RegX.rule (id:=11) hT rfl [] oJStD248_11 (by decide+kernel) ?_;conv=>whnf)|(refine RegX.rule (id:=17) hT rfl [] oJStD248_17 (by decide+kernel) ?_;conv=>whnf)|(refine RegX.rule (id:=23) hT rfl [] oJStD248_23 (by decide+kernel) ?_;conv=>whnf)|(refine RegX.rule (id:=35) hT rfl [] oJStD248_35 (by decide+kernel) ?_;conv=>whnf)|omega|(refine And.intro ?_ ?_;((try dsimp only);first|omega|(refine szA rfl ?_;omega)|(refine szB rfl ?_;omega)|(unfold inI64;omega)|exact rfl|(simp only[List.toList_toArray,List.length_cons,List.length_nil];omega)|(simp only[lns]at*;omega)|decide|(unfold inI64;decide));conv=>whnf)|decide|assumption)
    all_goals try(exfalso;omega)
    · exact⟨(C+1,r),⟨by show s0≤C+1;omega,by show C+1≤r;omega,p3,.inr (by show f (X.getD (C+1 - a - 1) _) (Y.getD (Md - (C+1)) _)≤0;rw[show C+1 - a - 1=C - a by omega,show Md - (C+1)=Md - C - 1 by omega,hf.sw];omega),p5⟩,by show r - (C+1)<r - s;omega,(by(refine Entails.mk' [(1000001,1000001)] rfl rfl ?_ ?_<;>repeat' (first|exact True.intro|exact lr|exact rr|exact SV.le_int (by omega)|exact SV.le_any _|refine And.intro ?_ ?_));done)⟩
    · exact⟨(s,C),⟨p1,by show s≤C;omega,by show C≤r0;omega,p4,.inr (by show f (Y.getD (Md - C - 1) _) (X.getD (C - a) _)≤0;omega)⟩,by show C - s<r - s;omega,(by(refine Entails.mk' [(1000001,1000001)] rfl rfl ?_ ?_<;>repeat' (first|exact True.intro|exact lr|exact rr|exact SV.le_int (by omega)|exact SV.le_any _|refine And.intro ?_ ?_));done)⟩
  · have hij:s=r:=by omega
    subst hij
    have hsY:Md - s≤Y.length:=by rcases Nat.lt_or_ge Md m with t|t;(have:=h01 t;omega);(have:=h02 t;omega)
    have cr1:=srt_cross hf hX hY (d:=ev0) (s:=s - a) (e:=Md - s) (by omega) (by
     rcases p4 with t|t
     · rcases Nat.lt_or_ge Md m with u|u
       · have:=h01 u;exact .inr (.inl (by omega))
       · have:=h02 u;exact .inl (by omega)
     · exact .inr (.inr t))
    have cr2:=srt_cross hf hY hX (d:=ev0) (s:=Md - s) (e:=s - a) hsY (by
     rcases p5 with t|t
     · rcases Nat.lt_or_ge Md m with u|u
       · have:=h01 u;exact .inl (by omega)
       · have:=h02 u;exact .inr (.inl (by omega))
     · exact .inr (.inr t))
    obtain⟨k1,k2,k3⟩:=cut_at X (s - a) (by omega)
    obtain⟨k4,k5,k6⟩:=cut_at Y (Md - s) hsY
    generalize List.take (s - a) X=X1 at k1 k2 cr1
    generalize List.drop (s - a) X=X2 at k1 k3 cr2
    generalize List.take (Md - s) Y=Y1 at k4 k5 cr2
    generalize List.drop (Md - s) Y=Y2 at k4 k6 cr1
    clear gx gy p4 p5
    have hX':=hX
    have hY':=hY
    rw[←k1]at hX'
    rw[←k4]at hY'
    have J:=fun{Z1 Z2:List Evn} (p1:Z1.Perm (X1++Y1)) (s1:Srt f Z1) (p2:Z2.Perm (X2++Y2)) (s2:Srt f Z2)=>srt_join p1 s1 p2 s2 hX' hY' cr1 cr2
    rw[k1,k4]at J
    have uX:=List.pairwise_append.1 hX'
    have uY:=List.pairwise_append.1 hY'
    have sL:X1.length=0∨Y1.length=0→Srt f (X1++Y1):=fun h=>by
     rcases h with h|h
     · rw[List.length_eq_zero_iff.1 h];exact uY.1
     · rw[List.length_eq_zero_iff.1 h,List.append_nil];exact uX.1
    have sR:X2.length=0∨Y2.length=0→Srt f (X2++Y2):=fun h=>by
     rcases h with h|h
     · rw[List.length_eq_zero_iff.1 h];exact uY.2.1
     · rw[List.length_eq_zero_iff.1 h,List.append_nil];exact uX.2.1
    have eC:X2.length=0∨Y1.length=0→c=P++(X1++(Y1++(X2++(Y2++S)))):=fun h=>by
     rw[hc,←k1,←k4]
     rcases h with h|h<;>rw[List.length_eq_zero_iff.1 h]<;>simp
    have eR:c=(P++X1)++(X2++(Y1++(Y2++S))):=by rw[hc,←k1,←k4];simp
    have hlc2:P.length+X1.length+X2.length+Y1.length+Y2.length+S.length≤2^20:=by omega
    have mL:∀p ∈ X1++Y1,p ∈ X++Y:=fun p hp=>by
     rw[←k1,←k4];rcases List.mem_append.1 hp with t|t<;>simp[t]
    have mR:∀p ∈ X2++Y2,p ∈ X++Y:=fun p hp=>by
     rw[←k1,←k4];rcases List.mem_append.1 hp with t|t<;>simp[t]
    conv=>whnf
    repeat' (first|(refine CallX.of (wRotEv g (P++X1) X2 Y1 (Y2++S) c s m (Md+m - s) (by rw[List.length_append];omega) (by omega) (by omega) eR (by omega) (by omega) hl) [(1000001,1000001)] rfl ⟨lr,lr,lr,SV.le_int (by omega),lr,trivial⟩ ⟨rr,trivial⟩ rfl rfl ?_;rintro y rout ⟨rfl,rfl⟩;refine⟨rfl,?_⟩;conv=>whnf)|(refine CallX.of (ih P X1 Y1 (X2++(Y2++S)) ((P++X1)++(Y1++(X2++(Y2++S)))) a s Md ha (by omega) (by omega) (by simp) (by omega) (by omega) (by omega) uX.1 uY.1 (by simp only[List.length_append];omega) mL) [(1000001,1000001)] rfl ⟨lr,lr,lr,lr,lr,trivial⟩ ⟨rr,trivial⟩ rfl rfl ?_;rintro y rout ⟨rfl,Z1,z1,z2,rfl⟩;refine⟨rfl,?_⟩;conv=>whnf)|(refine CallX.of (ih P X1 Y1 (X2++(Y2++S)) c a s Md ha (by omega) (by omega) (eC (by omega)) (by omega) (by omega) (by omega) uX.1 uY.1 hl mL) [(1000001,1000001)] rfl ⟨lr,lr,lr,lr,lr,trivial⟩ ⟨rr,trivial⟩ rfl rfl ?_;rintro y rout ⟨rfl,Z1,z1,z2,rfl⟩;refine⟨rfl,?_⟩;conv=>whnf)|(refine CallX.of (ih (P++Z1) X2 Y2 S (P++(Z1++(X2++(Y2++S)))) Md (Md+m - s) b (by rw[List.length_append,z1.length_eq,List.length_append];omega) (by omega) (by omega) (by simp) (by omega) (by omega) (by omega) uX.2.1 uY.2.1 (by have:=z1.length_eq;simp only[List.length_append]at this ⊢;omega) mR) [(1000001,1000001)] rfl ⟨lr,lr,SV.le_int (by omega),lr,lr,trivial⟩ ⟨rr,trivial⟩ rfl rfl ?_;rintro y rout ⟨rfl,Z2,z3,z4,rfl⟩;refine⟨rfl,?_⟩;conv=>whnf)|(refine CallX.of (ih (P++(X1++Y1)) X2 Y2 S ((P++X1)++(Y1++(X2++(Y2++S)))) Md (Md+m - s) b (by simp only[List.length_append];omega) (by omega) (by omega) (by simp) (by omega) (by omega) (by omega) uX.2.1 uY.2.1 (by simp only[List.length_append];omega) mR) [(1000001,1000001)] rfl ⟨lr,lr,SV.le_int (by omega),lr,lr,trivial⟩ ⟨rr,trivial⟩ rfl rfl ?_;rintro y rout ⟨rfl,Z2,z3,z4,rfl⟩;refine⟨rfl,?_⟩;conv=>whnf)|(refine CallX.of (ih (P++(X1++Y1)) X2 Y2 S c Md (Md+m - s) b (by simp only[List.length_append];omega) (by omega) (by omega) (by rw[eC (by omega)];simp) (by omega) (by omega) (by omega) uX.2.1 uY.2.1 hl mR) [(1000001,1000001)] rfl ⟨lr,lr,SV.le_int (by omega),lr,lr,trivial⟩ ⟨rr,trivial⟩ rfl rfl ?_;rintro y rout ⟨rfl,Z2,z3,z4,rfl⟩;refine⟨rfl,?_⟩;conv=>whnf)|(refine br_intro ?_ ?_<;>intro hb<;>(try simp only[brs]at hb)<;>conv=>whnf)|(refine RegX.rule (id:=5) hT rfl [] oJStD248_5 (by decide+kernel) ?_;conv=>whnf)|(refine RegX.rule (id:=11) hT rfl [] oJStD248_11 (by decide+kernel) ?_;conv=>whnf)|(refine RegX.rule (id:=17) hT rfl [] oJStD248_17 (by decide+kernel) ?_;conv=>whnf)|(refine RegX.rule (id:=23) hT rfl [] oJStD248_23 (by decide+kernel) ?_;conv=>whnf)|(refine RegX.rule (id:=35) hT rfl [] oJStD248_35 (by decide+kernel) ?_;conv=>whnf)|omega|(refine And.intro ?_ ?_;((try dsimp only);first|omega|(refine szA rfl ?_;omega)|(refine szB rfl ?_;omega)|(unfold inI64;omega)|exact rfl|(simp only[List.toList_toArray,List.length_cons,List.length_nil];omega)|(simp only[lns]at*;omega)|decide|(unfold inI64;decide));conv=>whnf)|decide|assumption)
    all_goals try(exfalso;omega)
    all_goals
     refine .ret _ ?_
     conv=>whnf
     first
      |exact⟨_,⟨rfl,Z1++Z2,(J z1 z2 z3 z4).1,(J z1 z2 z3 z4).2,rfl⟩,by simp only[List.append_assoc];exact rr,trivial⟩
      |exact⟨_,⟨rfl,Z1++(X2++Y2),(J z1 z2 (List.Perm.refl _) (sR (by omega))).1,(J z1 z2 (List.Perm.refl _) (sR (by omega))).2,rfl⟩,by simp only[List.append_assoc];exact rr,trivial⟩
      |exact⟨_,⟨rfl,(X1++Y1)++Z2,(J (List.Perm.refl _) (sL (by omega)) z3 z4).1,(J (List.Perm.refl _) (sL (by omega)) z3 z4).2,rfl⟩,by simp only[List.append_assoc];exact rr,trivial⟩
      |exact⟨_,⟨rfl,(X1++Y1)++(X2++Y2),(J (List.Perm.refl _) (sL (by omega)) (List.Perm.refl _) (sR (by omega))).1,(J (List.Perm.refl _) (sL (by omega)) (List.Perm.refl _) (sR (by omega))).2,rfl⟩,by simp only[List.append_assoc];exact rr,trivial⟩
      |exact⟨_,⟨rfl,(X1++Y1)++(X2++Y2),(J (List.Perm.refl _) (sL (by omega)) (List.Perm.refl _) (sR (by omega))).1,(J (List.Perm.refl _) (sL (by omega)) (List.Perm.refl _) (sR (by omega))).2,rfl⟩,by rw[eC (by omega)];simp only[List.append_assoc];exact rr,trivial⟩
theorem wSymEv (g:FuncId)(f:Evn→Evn→Int)(hf:TOrd f):∀ (n:Nat) (P X Y S c:List Evn) (a m b:Nat),X.length+Y.length≤n→P.length=a→a+X.length=m→m+Y.length=b→c=P++(X++(Y++S))→1≤X.length→1≤Y.length→Srt f X→Srt f Y→c.length≤2^20→
 (∀p q,p ∈ X++Y→q ∈ X++Y→FSpec Tryz.prog g [.agg ((evF p).map .d),.agg ((evF q).map .d)] [] (fun y r=>y= .d (.int .i64 (f p q))∧r= []))→SymEv g f P X Y S c a m b
 |0=>fun P X Y S c a m b h0 _ _ _ _ hX1 _ _ _ _ _=>by omega
 | n +1=>fun P X Y S c a m b h0 ha hm hb0 hc hX1 hY1 hX hY hl hcmp=>by
   by_cases q:X.length=1
   · obtain⟨x,rfl⟩:=List.length_eq_one_iff.1 q
     exact wSymAEv g f hf P Y S c x a m b ha hm hb0 hc hY hl hcmp
   by_cases r:Y.length=1
   · obtain⟨x,rfl⟩:=List.length_eq_one_iff.1 r
     exact wSymBEv g f hf P X S c x a m b ha hm (by omega) hb0 hc hX hl hcmp
   exact wSymCEv g f hf P X Y S c a m b ha hm hb0 hc (by omega) (by omega) hX hY hl hcmp fun P X' Y' S c a m b k1 k2 k3 k4 k5 k6 k7 k8 k9 k10 k11=>
    wSymEv g f hf n P X' Y' S c a m b (by omega) k1 k2 k3 k4 k5 k6 k8 k9 k10 fun p q hp hq=>hcmp p q (k11 p hp) (k11 q hq)
end Go.Proofs.YtkokpbpililcdaaGreatDoor
