/- TopQuoteAgain is proved: for every input the law returns true, and its argument reads afterwards as it read before. Conditions: those of the given row alone. -/
import Derived.Test.YtkokpbpililcdaaGreatDoorTqConQui
import Derived.Test.YtkokpbpililcdaaGreatDoorTqConQua
import Derived.Test.YtkokpbpililcdaaGreatDoorTqConTwo
set_option linter.unusedVariables false
set_option linter.unusedSimpArgs false
set_option maxRecDepth 20000
namespace Go.Proofs.YtkokpbpililcdaaGreatDoor
open Go Go.Eng
theorem split_len (s p:List UInt8)(hp:p≠ []):(Lib.split s p).length≤s.length+1:=by
 have key:∀ (n:Nat) (s:List UInt8),s.length≤n→∀k,(Lib.splitK p 0 k s).length≤s.length+1:=by
  intro n
  induction n with
  | zero=>
    intro s hs k
    cases k with
    |zero=>simp[Lib.splitK]
    | succ k=>
      unfold Lib.splitK;split
      · simp
      · rename_i h;have:=Lib.drop_shorter hp h
        omega
  | succ n ih=>
    intro s hs k
    cases k with
    |zero=>simp[Lib.splitK]
    | succ k=>
      unfold Lib.splitK;split
      · simp
      · rename_i h;have h1:=Lib.drop_shorter hp h;have h2:=ih (s.drop ((Lib.index s p).toNat+p.length)) (by omega) k;simp only[List.length_cons];omega
 exact key s.length s (Nat.le_refl _) _
theorem split_mem {s p:List UInt8}{x:List UInt8}(h:x ∈ Lib.split s p):x.length≤s.length:=by
 have key:∀ (k:Nat) (s:List UInt8),∀x ∈ Lib.splitK p 0 k s,x.length≤s.length:=by
  intro k
  induction k with
  |zero=>intro s x hx;simp[Lib.splitK]at hx;subst hx;exact Nat.le_refl _
  | succ k ih=>
    intro s x hx;unfold Lib.splitK at hx;split at hx
    · simp at hx;subst hx;exact Nat.le_refl _
    · rcases List.mem_cons.1 hx with q|q
      · subst q;simp;omega
      · have:=ih _ x q;simp at this;omega
 exact key _ s x h
def wrdsOk (l:List (List UInt8)):Bool:= !decide ([] ∈ l)
theorem splitK_ne {sep:List UInt8}{save:Nat}:∀ {k:Nat} {s:List UInt8},Lib.splitK sep save k s≠ []
 |0,s=>by simp[Lib.splitK]
 |k+1,s=>by unfold Lib.splitK;split<;>simp
theorem wWords (s:List UInt8)(hs:s.length≤2^30):FSpec Tryz.prog 71 [.d (.str s)] kx (fun x r=>x= .tup [.d (strs (Lib.split s [32])),.d (.bool (wrdsOk (Lib.split s [32])))]∧r=kx):=by
 have hl:=split_len s [32] (by decide);refine spec_of hT (C:= []) Tryz.func71 rfl Tryz.call71 rfl rfl rfl ?_;conv=>whnf
 repeat' (first|(refine CallX.kn (zSplit s [32] (by omega) (by decide)) rfl rfl rfl rfl ?_;conv=>whnf)|(refine CallX.exact (lz78 (Lib.split s [32]) (by omega) []) rfl rfl ?_;rotate_right;conv=>whnf)|((first|(refine br_intro ?_ ?_<;>intro hb<;>try simp only[brs]at hb)|omega|refine sAx ?_|decide|assumption)<;>conv=>whnf))
 refine .ret _ ?_;conv=>whnf
 refine⟨kx,⟨congrArg SV.tup ?_,rfl⟩,rr,trivial⟩;repeat' (refine cons_eq ?_ ?_)
 all_goals (conv=>lhs;whnf)
 all_goals try(with_reducible rfl)
 all_goals rfl
structure Tol where
 word:List UInt8
 texts:List (List UInt8)
 nums:List Int
def tolF (t:Tol):List DV:= [.str t.word,strs t.texts,ints t.nums]
def tol0:Tol:=⟨[],[],[]⟩
def txF (f:List UInt8)(w:List (List UInt8)):Nat→List (List UInt8)
 |0=> []
 |i+1=>if f.getD i 0=119 then txF f w i++ [w.getD i []]else txF f w i
def nmF (f:List UInt8)(w:List (List UInt8)):Nat→List Int
 |0=> []
 |i+1=>if f.getD i 0=119 then nmF f w i else nmF f w i++ [numN (w.getD i [])]
theorem txF_len (f:List UInt8)(w:List (List UInt8)):∀i,(txF f w i).length≤i
 |0=>by simp[txF]
 | i+1=>by
   have:=txF_len f w i;unfold txF;split
   · rw[List.length_append,List.length_singleton];omega
   · omega
theorem nmF_len (f:List UInt8)(w:List (List UInt8)):∀i,(nmF f w i).length≤i
 |0=>by simp[nmF]
 | i+1=>by
   have:=nmF_len f w i;unfold nmF;split
   · omega
   · rw[List.length_append,List.length_singleton];omega
def telN (f:List UInt8)(w:List (List UInt8)):Bool:=decide (∀j,j<w.length→(f.getD j 0=119∨numOk (w.getD j [])=true))
def telW (w:List (List UInt8)):List UInt8:=w.getD 0 []
def telOk (fm:Mp (List UInt8))(s:List UInt8):Bool:=
 wrdsOk (Lib.split s [32])&&(fm.has (telW (Lib.split s [32]))&&(decide ((Lib.split s [32]).length=1+(fm.val (telW (Lib.split s [32]))).length)&&telN (fm.val (telW (Lib.split s [32]))) ((Lib.split s [32]).drop 1)))
def telT (fm:Mp (List UInt8))(s:List UInt8):Tol:=
 ⟨telW (Lib.split s [32]),txF (fm.val (telW (Lib.split s [32]))) ((Lib.split s [32]).drop 1) ((Lib.split s [32]).drop 1).length,nmF (fm.val (telW (Lib.split s [32]))) ((Lib.split s [32]).drop 1) ((Lib.split s [32]).drop 1).length⟩
set_option maxHeartbeats 4000000 in
theorem wTell (fm:Mp (List UInt8))(hf:∀k,(fm.val k).length≤2^20)(s:List UInt8)(hs:s.length≤2^20):
 FSpec Tryz.prog 191 [.d (.str s),.mp 1000001] [(1000001,mpS false [.str []] sF1 fm),(1000009,KX)] (fun y r=>y= .tup [.agg ((tolF (if telOk fm s then telT fm s else tol0)).map .d),.d (.bool (telOk fm s))]∧r= [(1000001,mpS false [.str []] sF1 fm),(1000009,KX)]):=by
 obtain⟨W,hW⟩:∃W,W=Lib.split s [32]:=⟨_,rfl⟩;have c1:=wWords s (by omega);have hl:=split_len s [32] (by decide);have hn:Lib.split s [32]≠ []:=splitK_ne;have hmem:∀x ∈ Lib.split s [32],x.length≤s.length:=fun x hx=>split_mem hx
 have hn1:1≤W.length:=by rw[hW];exact List.length_pos_iff.2 hn
 unfold telOk telT;rw[←hW]at c1 hl hmem ⊢;refine spec_of hT (C:= []) Tryz.func191 rfl Tryz.call191 rfl rfl rfl ?_;conv=>whnf
 have hfw:=hf (telW W);repeat' (first|((first|refine CallX.kn c1 rfl rfl rfl rfl ?_|refine And.intro (rfl:zrow _=some [.str []]) ?_|(refine And.intro (by have:=hf (keyE [DV.str (W.getD (Int.toNat 0) [])]);unfold inI64;omega) ?_)|(refine br_intro ?_ ?_<;>intro hb<;>try simp only[brs]at hb)|omega|refine sAx ?_|decide|assumption)<;>conv=>whnf))
 all_goals first
  | (have hE:(wrdsOk W&&(fm.has (telW W)&&(decide (W.length=1+(fm.val (telW W)).length)&&telN (fm.val (telW W)) (W.drop 1))))=false:=by
      first
       |(rw[show wrdsOk W=false from hb];rfl)
       |(rw[show fm.has (telW W)=false from hb];simp)
       | (have q:¬ (W.length:Int)=1+((fm.val (telW W)).length:Nat):=hb
          rw[show decide (W.length=1+(fm.val (telW W)).length)=false from decide_eq_false (by omega)];simp)
     rw[hE];refine .weak _ ?_;conv=>whnf
     exact⟨.tup [.agg ((tolF tol0).map .d),.d (.bool false)],_,SV.le_tup ⟨SV.le_agg ⟨lr,SV.le_nilS,SV.le_nilS,trivial⟩,lr,trivial⟩,⟨rfl,rfl⟩,rr,rr,trivial⟩)
  |skip
 trace_state
 · obtain ⟨f,hfe⟩:∃f,f=fm.val (telW W):=⟨_,rfl⟩;rw[←hfe]at hfw;obtain⟨W1,hW1⟩:∃W1,W1=W.drop 1:=⟨_,rfl⟩;have hl1:W1.length=W.length - 1:=by rw[hW1,List.length_drop]
   have hlf:W1.length=f.length:=by
    have:(W.length:Int)=1+((fm.val (telW W)).length:Nat):=hb;rw[←hfe]at this;omega
   have hm1:∀j,(W1.getD j []).length≤2^40:=fun j=>by
    by_cases hj:j<W1.length
    · have h1:W1.getD j [] ∈ W:=by
       have h2:W1.getD j [] ∈ W1:=by rw[List.getD_eq_getElem?_getD,List.getElem?_eq_getElem hj];exact List.getElem_mem hj
       rw[hW1]at h2 ⊢;exact List.mem_of_mem_drop h2
      have:=hmem _ h1;omega
    · rw[List.getD_eq_getElem?_getD,List.getElem?_eq_none (by omega)];simp
   refine LoopX.rule hT (C:= []) (ι:=Nat) (fun i=>i≤W1.length∧∀j,j<i→(f.getD j 0=119∨numOk (W1.getD j [])=true))
    (fun i=>mkSt [(4,.ptr 4 0),(8,.d (.str f)),(10,.ptr 10 0),(48,.d (strs W1)),(49,.d (.int .i64 W1.length)),(50,.d (.int .i64 i))] [(1000001,mpS false [.str []] sF1 fm),(1000009,KX),(4,.cells 286 [.d (.str []),.d .nilsl,.d .nilsl]),(10,.cells 286 [.d (.str (telW W)),.buf 20,.buf 21]),(20,seqB 9 1 sF [] (txF f W1 i)),(21,seqB 3 1 iF 0 (nmF f W1 i))])
    (fun i=>W1.length - i) 0 ⟨by omega,fun j hj=>by omega⟩ ?_ ?_
   · subst hW1 hfe;refine Entails.trans (Entails.nilCell 10 20 9 1 1 (rowF sF [] []) rfl rfl rfl (by decide) rfl) ?_;refine Entails.trans (Entails.nilCell 10 21 3 1 2 (rowF iF 0 []) rfl rfl rfl (by decide) rfl) ?_;refine(Entails.mk' [(1000001,1000001),(1000009,1000009),(4,4),(10,10),(20,20),(21,21)] rfl rfl ⟨lr,lr,lr,SV.le_drop (by rw[List.length_drop];omega),SV.le_int (by rw[List.length_drop];omega),lr,trivial⟩ ⟨rr,rr,rr,rr,rr,rr,trivial⟩)
   rintro i ⟨p1,p2⟩;have e1:(i:Int).toNat=i:=Int.toNat_natCast i;have htl:=txF_len f W1 i;have hnl:=nmF_len f W1 i;conv=>whnf
   repeat' (first|((first|refine CallX.kn (lz129 (W1.getD (i:Int).toNat []) (hm1 _)) rfl rfl rfl rfl ?_|(refine And.intro (by show(_+1)*16≤_;omega) ?_)|(refine And.intro (by show(_+1)*8≤_;omega) ?_)|(refine br_intro ?_ ?_<;>intro hb<;>try simp only[brs]at hb)|omega|refine sAx ?_|decide|assumption)<;>conv=>whnf))
   all_goals first
    | (have hc:f.getD i 0=119:=UInt8.toNat_inj.1 (by have:((f.getD i 0).toNat:Int)=119:=hb;show _=119;omega)
       have hT2:txF f W1 (i+1)=txF f W1 i++ [W1.getD i []]:=by rw[txF,if_pos hc]
       have hN2:nmF f W1 (i+1)=nmF f W1 i:=by rw[nmF,if_pos hc]
       refine⟨i+1,⟨by omega,fun j hj=> ?_⟩,by omega,Entails.mk' [(1000001,1000001),(1000009,1000009),(4,4),(10,10),(20,63),(21,21)] rfl rfl ⟨lr,lr,lr,lr,lr,lr,trivial⟩ ⟨rr,rr,rr,rr,(by show Res.le _ (seqB 9 1 sF [] (txF f W1 (i+1)));rw[hT2];exact Res.le_snocF (x:=W1.getD i []) rfl),(by show Res.le _ (seqB 3 1 iF 0 (nmF f W1 (i+1)));rw[hN2];exact rr),trivial⟩⟩
       by_cases q:j<i
       · exact p2 j q
       · exact .inl (by rw[show j=i by omega];exact hc))
    | (have hb0:¬ ((f.getD i 0).toNat:Int)=119:=by assumption
       have hc:¬f.getD i 0=119:=fun q=>hb0 (by rw[q];rfl)
       have hk:numOk (W1.getD i [])=true:=hb;have hT2:txF f W1 (i+1)=txF f W1 i:=by rw[txF,if_neg hc]
       have hN2:nmF f W1 (i+1)=nmF f W1 i++ [numN (W1.getD i [])]:=by rw[nmF,if_neg hc]
       refine⟨i+1,⟨by omega,fun j hj=> ?_⟩,by omega,Entails.mk' [(1000001,1000001),(1000009,1000009),(4,4),(10,10),(20,20),(21,77)] rfl rfl ⟨lr,lr,lr,lr,lr,lr,trivial⟩ ⟨rr,rr,rr,rr,(by show Res.le _ (seqB 9 1 sF [] (txF f W1 (i+1)));rw[hT2];exact rr),(by show Res.le _ (seqB 3 1 iF 0 (nmF f W1 (i+1)));rw[hN2];exact Res.le_snocF (x:=numN (W1.getD i [])) rfl),trivial⟩⟩
       by_cases q:j<i
       · exact p2 j q
       · exact .inr (by rw[show j=i by omega];exact hk))
    | (have hb0:¬ ((f.getD i 0).toNat:Int)=119:=by assumption
       have hc:¬f.getD i 0=119:=fun q=>hb0 (by rw[q];rfl)
       have hk:numOk (W1.getD i [])=false:=hb
       have hE:(wrdsOk W&&(fm.has (telW W)&&(decide (W.length=1+(fm.val (telW W)).length)&&telN (fm.val (telW W)) (W.drop 1))))=false:=by
        rw[←hfe,←hW1,show telN f W1=false from decide_eq_false (fun q=>by
         rcases q i (by omega)with r|r
         · exact hc r
         · rw[hk]at r;cases r)]
        simp
       rw[hE];refine .weak _ ?_;conv=>whnf
       exact⟨.tup [.agg ((tolF tol0).map .d),.d (.bool false)],_,SV.le_tup ⟨SV.le_agg ⟨lr,SV.le_nilS,SV.le_nilS,trivial⟩,lr,trivial⟩,⟨rfl,rfl⟩,rr,rr,trivial⟩)
    | (have hE:(wrdsOk W&&(fm.has (telW W)&&(decide (W.length=1+(fm.val (telW W)).length)&&telN (fm.val (telW W)) (W.drop 1))))=true:=by
        have h1:wrdsOk W=true:=by assumption
        have h2:fm.has (telW W)=true:=by assumption
        rw[h1,h2,←hfe,←hW1,show telN f W1=true from decide_eq_true (fun j hj=>p2 j (by omega)),show decide (W.length=1+f.length)=true from decide_eq_true (by omega)];rfl
       rw[hE,if_pos rfl,←hfe,←hW1];have hi:i=W1.length:=by omega
       subst hi;refine .freeze _ 20 9 1 _ _ rfl ?_;refine .freeze _ 21 3 1 _ _ rfl ?_;refine .ent _ _ (Entails.cellFro 4 20 1 rfl rfl rfl) ?_;refine .ent _ _ (Entails.cellFro 4 21 2 rfl rfl rfl) ?_;refine .ret _ ?_;conv=>whnf
       exact⟨_,⟨rfl,rfl⟩,rr,rr,trivial⟩)
def formsM:Mp (List UInt8):=((((((((((((((Mp.nil []).put [101,110,116,101,114] [119,119]).put [115,104,111,112] [119,119]).put [100,111,110,101] [119,119]).put [99,111,109,101] [119,119]).put [103,111,110,101] [119,119]).put [108,101,97,118,101] [119,119,119]).put [98,111,111,107] [119,119,110,110,110]).put [99,97,110,99,101,108] [119]).put [115,116,97,114,116] [119,119,110,119,119,110,110]).put [115,119,97,112] [119,119,110,110,119,110,110]).put [101,120,116,101,110,100] [119,110]).put [99,108,111,115,101] [119,119,110,110]).put [112,97,121] [119,110])
def kindsM:Mp Int:=(((((((Mp.nil 0).put [101,110,116,101,114] 1).put [115,104,111,112] 4).put [100,111,110,101] 5).put [99,111,109,101] 7).put [103,111,110,101] 8).put [108,101,97,118,101] 6)
theorem cond_sF (s k v b:List UInt8):(bif decide (s=k)then [DV.str v]else [DV.str b])= [DV.str (if s=k then v else b)]:=by by_cases h:s=k<;>simp[h]
theorem cond_iF (s k:List UInt8)(v b:Int):(bif decide (s=k)then [DV.int .i64 v]else [DV.int .i64 b])= [DV.int .i64 (if s=k then v else b)]:=by by_cases h:s=k<;>simp[h]
theorem cstD_s (v:ByteArray):cstD (.string v)= .str v.data.toList:=rfl
theorem cstD_i (v:Int):cstD (.int .i64 v)= .int .i64 v:=rfl
set_option maxHeartbeats 4000000 in
theorem wForms:FSpec Tryz.prog 192 [] [] (fun y r=>y= .mp 1∧r= [(1,mpS false [.str []] sF1 formsM)]):=by
 refine spec_of hT (C:= []) Tryz.func192 rfl Tryz.call192 rfl rfl rfl ?_;conv=>whnf
 repeat' (first|((first|(refine br_intro ?_ ?_<;>intro hb<;>try simp only[brs]at hb)|omega|refine sAx ?_|decide|assumption)<;>conv=>whnf))
 refine .ret _ ?_;conv=>whnf
 refine⟨_,⟨rfl,rfl⟩,Res.le_map (fun K hK=> ?_),trivial⟩;obtain⟨s,rfl⟩:=wk_str1 hK;simp only[cstD_s,keyEq_s,cond_sF];exact⟨rfl,rfl⟩
set_option maxHeartbeats 4000000 in
theorem wKinds:FSpec Tryz.prog 193 [] [] (fun y r=>y= .mp 1∧r= [(1,mpS false [.int .i64 0] iF1 kindsM)]):=by
 refine spec_of hT (C:= []) Tryz.func193 rfl Tryz.call193 rfl rfl rfl ?_;conv=>whnf
 repeat' (first|((first|(refine br_intro ?_ ?_<;>intro hb<;>try simp only[brs]at hb)|omega|refine sAx ?_|decide|assumption)<;>conv=>whnf))
 refine .ret _ ?_;conv=>whnf
 refine⟨_,⟨rfl,rfl⟩,Res.le_map (fun K hK=> ?_),trivial⟩;obtain⟨s,rfl⟩:=wk_str1 hK;simp only[cstD_s,cstD_i,keyEq_s,cond_iF];exact⟨rfl,rfl⟩
def oJOfB194_1:OL:= [(0,[]),(1,[]),(2,[]),(3,[]),(4,rg 4),(5,rg 4),(6,[]),(7,[]),(8,[]),(9,[8]),(10,[9]),(11,[])]
def oJOfB194_3:OL:= [(0,[]),(1,[]),(2,[]),(3,[]),(4,[]),(5,[]),(6,[]),(7,[3,4,5,6]),(8,[3,4,5,6]),(9,[]),(10,[]),(11,[]),(12,[]),(13,[]),(14,[]),(15,[]),(16,[]),(17,[]),(18,[]),(19,[15,16,17,18]),(20,[15,16,17,18]),(21,[]),(22,[]),(23,[]),(24,[]),(26,rg 25),(35,[0,1,2,3,4,5,6,7,8,9,10,11,12,13,14,15,16,17,18,19,20,21,22,23,24,26]),(36,[0,1,2,3,4,5,6,7,8,9,10,11,12,13,14,15,16,17,18,19,20,21,22,23,24,26,35]),(25,[26,35,36]),(27,[35,36]),(28,[35,36]),(29,[35,36]),(30,[35,36,28,29]),(31,[35,36,28,29]),(32,[35,36]),(33,[35,36]),(34,[35,36]),(37,[]),(38,[]),(39,[]),(40,[])]
def evtE (vm:Mp (List UInt8))(sm:Mp Bool)(s:Off)(x:Evn):Int:=
 firstE [if(!vm.has x.veh||(!sm.val x.st||(decide (x.kind=6)&& !sm.val x.to)))then 8 else 0,if(decide (x.kind=6)&&decide (x.to=x.st))then 14 else 0,canE s x]
def evtS (vm:Mp (List UInt8))(sm:Mp Bool)(s:Off)(x:Evn):Off:=if evtE vm sm s x=0 then sayS s x else s
set_option maxHeartbeats 4000000 in
theorem wEvt (h:Hou)(vm:Mp (List UInt8))(sm:Mp Bool)(s:Off)(x:Evn)(hl:s.log.length≤2^20):
 FSpec Tryz.prog 194 [.ptr 1000001 0,.agg ((evF x).map .d)] (offR h vm sm s) (fun y r=>y= .d (.int .i64 (evtE vm sm s x))∧r=offO h vm sm (evtS vm sm s x)):=by
 have c1:=wCan h vm sm s x;have c2:=wSay h vm sm s x hl;generalize hC:canE s x=C at c1;refine spec_of hT (C:= []) Tryz.func194 rfl Tryz.call194 rfl rfl rfl ?_;conv=>whnf
 repeat' (first|((first|(refine oAx (c1) rq0 ?_;rintro y rout ⟨rfl,rfl⟩;refine⟨rfl,?_⟩)|(refine oAx (c2) rq1 ?_;rintro y rout ⟨rfl,rfl⟩;refine⟨rfl,?_⟩))<;>conv=>whnf)|(refine CallX.exact (s107 _ _) rfl rfl ?_;rotate_right;conv=>whnf)|((first|refine And.intro (rfl:zrow _=some (ssF ss0)) ?_|refine And.intro (rfl:zrow _=some [.bool false]) ?_|refine And.intro (rfl:zrow _=some (sF1 [])) ?_|refine And.intro (rfl:zrow _=some [.str []]) ?_|refine And.intro (rfl:zrow _=some (bkF bk0)) ?_|refine And.intro (rfl:zrow _=some (hiO none)) ?_|refine And.intro (rfl:zrow _=some [.int .i64 0]) ?_|refine CallX.pure (s105 [_,_,_] (by simp)) ⟨SV.le_lit (by rfl) (by rfl),trivial⟩ rfl ?_|(refine br_intro ?_ ?_<;>intro hb<;>try simp only[brs]at hb)|refine rAx hT 1 oJOfB194_1 ?_|refine rAx hT 3 oJOfB194_3 ?_|omega|refine sAx ?_|decide|assumption)<;>conv=>whnf))
 all_goals first
  | (have hS:evtS vm sm s x=s:=by
      clear c1 c2;simp only[keyE]at*;unfold evtS evtE;rw[hC]
      first
       |(simp_all [firstE];done)
       |(simp_all [firstE];grind)
       |grind [firstE]
     rw[hS];refine .ent _ _ (Entails.mk' (ts:= [(4,.d (.int .i64 (evtE vm sm s x)))]) (rs:=offO h vm sm (s)) rq2 rfl rfl ⟨SV.le_int (by clear c1 c2;simp only[keyE]at*;unfold evtE;rw[hC];first|(simp_all [firstE];done)|(simp_all [firstE];grind)|grind [firstE]),trivial⟩ ⟨rr,rr,rr,rr,rr,rr,rr,rr,rr,rr,trivial⟩) ?_;refine .ret _ ?_;conv=>whnf
     exact⟨_,⟨rfl,rfl⟩,rr,rr,rr,rr,rr,rr,rr,rr,rr,rr,trivial⟩)
  | (have hS:evtS vm sm s x=sayS s x:=by
      clear c1 c2;simp only[keyE]at*;unfold evtS evtE;rw[hC]
      first
       |(simp_all [firstE];done)
       |(simp_all [firstE];grind)
       |grind [firstE]
     rw[hS];refine .ent _ _ (Entails.mk' (ts:= [(4,.d (.int .i64 (evtE vm sm s x)))]) (rs:=offO h vm sm (sayS s x)) rq3 rfl rfl ⟨SV.le_int (by clear c1 c2;simp only[keyE]at*;unfold evtE;rw[hC];first|(simp_all [firstE];done)|(simp_all [firstE];grind)|grind [firstE]),trivial⟩ ⟨rr,rr,rr,rr,rr,rr,rr,rr,rr,rr,trivial⟩) ?_;refine .ret _ ?_;conv=>whnf
     exact⟨_,⟨rfl,rfl⟩,rr,rr,rr,rr,rr,rr,rr,rr,rr,rr,trivial⟩)
def oJOfC197_2:OL:= [(0,[]),(1,[]),(3,[0,1]),(7,[0,1,3]),(8,[0,1,3]),(9,[0,1,3]),(10,[0,1,3]),(11,[0,1,3,7,8,9,10]),(12,[0,1,3]),(13,[0,1,3,7,8,9,10,11,12]),(14,[0,1,3]),(15,[0,1,3]),(2,[3,7,8,9,10,11,12,13,14,15]),(4,[7,8,9,10,11,12,13,14,15]),(5,[7,8,9,10,11,12,13,14,15]),(6,[7,8,9,10,11,12,13,14,15]),(16,[]),(17,[]),(18,[]),(19,[])]
def payE (s:Off)(key:List UInt8)(c:Int):Int:=firstE [if !s.his.has key then 8 else 0,if !decide (0≤c∧c≤1000000000)then 1 else 0,if 1000000000<s.paid.val key+c then 2 else 0]
def payS (s:Off)(key:List UInt8)(c:Int):Off:=if payE s key c=0 then{s with paid:=s.paid.put key (s.paid.val key+c)}else s
set_option maxHeartbeats 4000000 in
theorem wPay (h:Hou)(vm:Mp (List UInt8))(sm:Mp Bool)(s:Off)(key:List UInt8)(c:Int)(hc: -2^40≤c∧c≤2^40)(hp: -2^40≤s.paid.val key∧s.paid.val key≤2^40):
 FSpec Tryz.prog 197 [.ptr 1000001 0,.d (.str key),.d (.int .i64 c)] (offR h vm sm s) (fun y r=>y= .d (.int .i64 (payE s key c))∧r=offO h vm sm (payS s key c)):=by
 obtain⟨hc1,hc2⟩:=hc;obtain⟨hp1,hp2⟩:=hp;rcases hv:s.his.val key with _|g
 · skip
   refine spec_of hT (C:= []) Tryz.func197 rfl Tryz.call197 rfl rfl rfl ?_;conv=>whnf
   repeat' (first|(refine CallX.exact (s119 _ _ _) rfl rfl ?_;rotate_right;conv=>whnf)|(refine And.intro (by show inI64 (s.paid.val key+c);unfold inI64;omega) ?_;conv=>whnf)|(refine CallX.exact (s107 _ _) rfl rfl ?_;rotate_right;conv=>whnf)|((first|(refine And.intro (rfl:zrow _=some (hiO none)) ?_;refine rowSV_eq (row':=hiO none) (congrArg hiO hv) ?_)|refine And.intro (rfl:zrow _=some (ssF ss0)) ?_|refine And.intro (rfl:zrow _=some [.bool false]) ?_|refine And.intro (rfl:zrow _=some (sF1 [])) ?_|refine And.intro (rfl:zrow _=some [.str []]) ?_|refine And.intro (rfl:zrow _=some (bkF bk0)) ?_|refine And.intro (rfl:zrow _=some (hiO none)) ?_|refine And.intro (rfl:zrow _=some [.int .i64 0]) ?_|refine CallX.pure (s105 [_,_,_] (by simp)) ⟨SV.le_lit (by rfl) (by rfl),trivial⟩ rfl ?_|(refine br_intro ?_ ?_<;>intro hb<;>try simp only[brs]at hb)|refine rAx hT 2 oJOfC197_2 ?_|omega|refine sAx ?_|decide|assumption)<;>conv=>whnf))
   all_goals first
    | (have hS:payS s key c=(s):=by
        unfold payS payE
        (try simp only[keyE]at*);first|(simp_all [firstE];done)|(simp_all [firstE];grind)|grind [firstE]
       rw[hS];refine .ent _ _ (Entails.mk' (ts:= [(6,.d (.int .i64 (payE s key c)))]) (rs:=offO h vm sm (s)) rq2 rfl rfl ⟨SV.le_int (by unfold payE;(try simp only[keyE]at*);first|(simp_all [firstE];done)|(simp_all [firstE];grind)|grind [firstE]),trivial⟩ ⟨rr,rr,rr,rr,rr,rr,rr,rr,rr,rr,trivial⟩) ?_;refine .ret _ ?_;conv=>whnf
       exact⟨_,⟨rfl,rfl⟩,rr,rr,rr,rr,rr,rr,rr,rr,rr,rr,trivial⟩)
    | (have hS:payS s key c=({s with paid:=s.paid.put key (s.paid.val key+c)}):=by
        unfold payS payE
        (try simp only[keyE]at*);first|(simp_all [firstE];done)|(simp_all [firstE];grind)|grind [firstE]
       rw[hS];refine .ent _ _ (Entails.mk' (ts:= [(6,.d (.int .i64 (payE s key c)))]) (rs:=offO h vm sm ({s with paid:=s.paid.put key (s.paid.val key+c)})) rq2 rfl rfl ⟨SV.le_int (by unfold payE;(try simp only[keyE]at*);first|(simp_all [firstE];done)|(simp_all [firstE];grind)|grind [firstE]),trivial⟩ ⟨rr,rr,rr,rr,rr,rr,rr,rr,mpS_put,rr,trivial⟩) ?_;refine .ret _ ?_;conv=>whnf
       exact⟨_,⟨rfl,rfl⟩,rr,rr,rr,rr,rr,rr,rr,rr,rr,rr,trivial⟩)
 · skip
   refine spec_of hT (C:= []) Tryz.func197 rfl Tryz.call197 rfl rfl rfl ?_;conv=>whnf
   repeat' (first|(refine CallX.exact (s119 _ _ _) rfl rfl ?_;rotate_right;conv=>whnf)|(refine And.intro (by show inI64 (s.paid.val key+c);unfold inI64;omega) ?_;conv=>whnf)|(refine CallX.exact (s107 _ _) rfl rfl ?_;rotate_right;conv=>whnf)|((first|(refine And.intro (rfl:zrow _=some (hiO none)) ?_;refine rowSV_eq (row':=hiF g) (congrArg hiO hv) ?_)|refine And.intro (rfl:zrow _=some (ssF ss0)) ?_|refine And.intro (rfl:zrow _=some [.bool false]) ?_|refine And.intro (rfl:zrow _=some (sF1 [])) ?_|refine And.intro (rfl:zrow _=some [.str []]) ?_|refine And.intro (rfl:zrow _=some (bkF bk0)) ?_|refine And.intro (rfl:zrow _=some (hiO none)) ?_|refine And.intro (rfl:zrow _=some [.int .i64 0]) ?_|refine CallX.pure (s105 [_,_,_] (by simp)) ⟨SV.le_lit (by rfl) (by rfl),trivial⟩ rfl ?_|(refine br_intro ?_ ?_<;>intro hb<;>try simp only[brs]at hb)|refine rAx hT 2 oJOfC197_2 ?_|omega|refine sAx ?_|decide|assumption)<;>conv=>whnf))
   all_goals first
    | (have hS:payS s key c=(s):=by
        unfold payS payE
        (try simp only[keyE]at*);first|(simp_all [firstE];done)|(simp_all [firstE];grind)|grind [firstE]
       rw[hS];refine .ent _ _ (Entails.mk' (ts:= [(6,.d (.int .i64 (payE s key c)))]) (rs:=offO h vm sm (s)) rq2 rfl rfl ⟨SV.le_int (by unfold payE;(try simp only[keyE]at*);first|(simp_all [firstE];done)|(simp_all [firstE];grind)|grind [firstE]),trivial⟩ ⟨rr,rr,rr,rr,rr,rr,rr,rr,rr,rr,trivial⟩) ?_;refine .ret _ ?_;conv=>whnf
       exact⟨_,⟨rfl,rfl⟩,rr,rr,rr,rr,rr,rr,rr,rr,rr,rr,trivial⟩)
    | (have hS:payS s key c=({s with paid:=s.paid.put key (s.paid.val key+c)}):=by
        unfold payS payE
        (try simp only[keyE]at*);first|(simp_all [firstE];done)|(simp_all [firstE];grind)|grind [firstE]
       rw[hS];refine .ent _ _ (Entails.mk' (ts:= [(6,.d (.int .i64 (payE s key c)))]) (rs:=offO h vm sm ({s with paid:=s.paid.put key (s.paid.val key+c)})) rq2 rfl rfl ⟨SV.le_int (by unfold payE;(try simp only[keyE]at*);first|(simp_all [firstE];done)|(simp_all [firstE];grind)|grind [firstE]),trivial⟩ ⟨rr,rr,rr,rr,rr,rr,rr,rr,mpS_put,rr,trivial⟩) ?_;refine .ret _ ?_;conv=>whnf
       exact⟨_,⟨rfl,rfl⟩,rr,rr,rr,rr,rr,rr,rr,rr,rr,rr,trivial⟩)
def oJBkA304_8:OL:= [(0,[]),(1,[]),(2,[]),(3,[]),(4,[]),(5,[3,4]),(6,[3,4,5]),(7,[3,4,5]),(8,[3,4]),(9,[3,4]),(10,[3,4]),(11,[]),(12,[]),(13,[])]
theorem wKey (x:Cls)(key:List UInt8):FSpec Tryz.prog 315 [.agg ((clsF x).map .d),.ptr 1000001 0] [(1000001,kyC key)] (fun y r=>y= .d (.bool (x.key==key))∧r= [(1000001,kyC key)]):=by
 refine spec_of hT (C:= []) Tryz.func315 rfl Tryz.call315 rfl rfl rfl ?_;conv=>whnf
 refine .ret _ ?_;conv=>whnf
 exact⟨[(1000001,kyC key)],⟨rfl,rfl⟩,rr,trivial⟩
theorem wKeyIx (l:List Cls)(hl:l.length≤2^40)(key:List UInt8):FSpec Tryz.prog 179 [.d (clss l),.fn 315 [.ptr 1000001 0]] [(1000001,kyC key)] (fun x r=>x= .d (.int .i64 (clIx l key))∧r= [(1000001,kyC key)]):=by
 refine spec_of hT (C:= []) Tryz.func179 rfl Tryz.call179 rfl rfl rfl ?_;conv=>whnf
 refine LoopX.rule hT (C:= []) (ι:=Nat) (fun i=>i≤l.length∧∀j,j<i→((l.getD j cls0).key==key)=false) (fun i=>mkSt [(0,.d (clss l)),(1,.fn 315 [.ptr 1000001 0]),(7,.d (.int .i64 l.length)),(8,.d (.int .i64 i))] [(1000001,kyC key)]) (fun i=>l.length - i) 0 ⟨by omega,by omega⟩ (by exact eAx [(1000001,1000001)]) ?_;rintro i ⟨p1,p2⟩;have e1:(i:Int).toNat=i:=Int.toNat_natCast i;conv=>whnf
 repeat' (first|((first|(refine oAx (wKey (l.getD (i:Int).toNat cls0) key) [(1000001,1000001)] ?_;rintro x rout ⟨rfl,rfl⟩;refine⟨rfl,?_⟩)|(refine br_intro ?_ ?_<;>intro hb<;>try simp only[brs]at hb)|omega|refine sAx ?_|decide|assumption)<;>conv=>whnf))
 · refine .ret _ ?_;conv=>whnf
   refine⟨[(1000001,kyC key)],⟨?_,rfl⟩,rr,trivial⟩;conv=>lhs;whnf
   congr 2
   exact(ixF_hit (by omega) p2 (by simpa using hb)).symm
 · exact⟨i+1,⟨by omega,all_step p2 (by simpa using hb)⟩,by omega,(by exact eAx [(1000001,1000001)])⟩
 · refine .ret _ ?_;conv=>whnf
   refine⟨[(1000001,kyC key)],⟨?_,rfl⟩,rr,trivial⟩;conv=>lhs;whnf
   congr 2
   have:i=l.length:=by omega
   subst this;exact(ixF_none p2).symm
def clHas (l:List Cls)(key:List UInt8):Bool:=decide (0≤clIx l key)
theorem wHasC (l:List Cls)(hl:l.length≤2^40)(key:List UInt8):FSpec Tryz.prog 314 [.d (clss l),.fn 315 [.ptr 1000001 0]] [(1000001,kyC key)] (fun x r=>x= .d (.bool (clHas l key))∧r= [(1000001,kyC key)]):=by
 refine spec_of hT (C:= []) Tryz.func314 rfl Tryz.call314 rfl rfl rfl ?_;conv=>whnf
 repeat' (first|((first|(refine oAx (wKeyIx l hl key) [(1000001,1000001)] ?_;rintro x rout ⟨rfl,rfl⟩;refine⟨rfl,?_⟩)|(refine br_intro ?_ ?_<;>intro hb<;>try simp only[brs]at hb)|omega|refine sAx ?_|decide|assumption)<;>conv=>whnf))
 refine .ret _ ?_;conv=>whnf
 exact⟨_,⟨rfl,rfl⟩,rr,trivial⟩
theorem wHasClass (l:List Cls)(hl:l.length≤2^40)(key:List UInt8):FSpec Tryz.prog 305 [.d (clss l),.d (.str key)] [] (fun x r=>x= .d (.bool (clHas l key))∧r= []):=by
 refine spec_of hT (C:= []) Tryz.func305 rfl Tryz.call305 rfl rfl rfl ?_;conv=>whnf
 repeat' (first|((first|(refine oAx (wHasC l hl key) [(1000001,3)] ?_;rintro x rout ⟨rfl,rfl⟩;refine⟨rfl,?_⟩)|(refine br_intro ?_ ?_<;>intro hb<;>try simp only[brs]at hb)|omega|refine sAx ?_|decide|assumption)<;>conv=>whnf))
 refine .ret _ ?_;conv=>whnf
 refine⟨[],⟨?_,rfl⟩,trivial⟩;conv=>lhs;whnf
def forB (b:Bok):Int:=
 if isKeyB b.key=false∨isKeyB b.cls=false then 5 else if b.frm<0∨b.to≤b.frm∨5761439<b.to then 1
 else if ¬ (0≤b.made∧b.made≤b.frm)∨¬ (0≤b.pct∧b.pct≤100)then 1 else 0
set_option maxHeartbeats 2000000 in
theorem wFormed (b:Bok)(h1:b.key.length≤2^40)(h2:b.cls.length≤2^40):FSpec Tryz.prog 304 [.d (boks [b])] [] (fun x r=>x= .d (.int .i64 (forB b))∧r= []):=by
 have c1:=s108 b.key h1;have c2:=s108 b.cls h2;refine spec_of hT (C:= []) Tryz.func304 rfl Tryz.call304 rfl rfl rfl ?_;conv=>whnf
 refine LoopX.rule hT (C:= []) (ι:=Nat) (fun i=>i=0∨(i=1∧forB b=0)) (fun i=>mkSt [(0,.d (boks [b])),(8,.d (boks [b])),(9,.d (.int .i64 1)),(10,.d (.int .i64 i))] []) (fun i=>1 - i) 0 (.inl rfl) (by exact eAx []) ?_;rintro i (rfl|⟨rfl,hz⟩)
 · conv =>whnf
   repeat' (first|(refine CallX.exact (c1) rfl rfl ?_;rotate_right;conv=>whnf)|(refine CallX.exact (c2) rfl rfl ?_;rotate_right;conv=>whnf)|(refine CallX.exact (s119 _ _ _) rfl rfl ?_;rotate_right;conv=>whnf)|((first|(refine br_intro ?_ ?_<;>intro hb<;>try simp only[brs]at hb)|refine rAx hT 8 oJBkA304_8 ?_|omega|refine sAx ?_|decide|assumption)<;>conv=>whnf))
   all_goals first
    | (refine .ret _ ?_
       conv=>whnf
       refine⟨[],⟨?_,rfl⟩,trivial⟩;conv=>lhs;whnf
       congr 2
       clear c1 c2
       (try simp only[List.getD_cons_zero]at*)
       unfold forB
       grind)
    | (refine⟨1,.inr ⟨rfl,?_⟩,by omega,(by exact eAx [])⟩
       clear c1 c2
       (try simp only[List.getD_cons_zero]at*)
       unfold forB
       grind)
 · rw[hz];conv=>whnf
   repeat' (first|((first|(refine br_intro ?_ ?_<;>intro hb<;>try simp only[brs]at hb)|refine rAx hT 8 oJBkA304_8 ?_|omega|refine sAx ?_|decide|assumption)<;>conv=>whnf))
   refine .ret _ ?_;conv=>whnf
   refine⟨[],⟨?_,rfl⟩,trivial⟩;conv=>lhs;whnf
def clsdE (l:List Cls)(b:Bok):Int:=if forB b≠0 then forB b else if clHas l b.cls then 0 else 8
set_option maxHeartbeats 2000000 in
theorem wClassed (l:List Cls)(hl:l.length≤2^40)(b:Bok)(h1:b.key.length≤2^40)(h2:b.cls.length≤2^40):FSpec Tryz.prog 286 [.d (clss l),.d (boks [b])] [] (fun x r=>x= .d (.int .i64 (clsdE l b))∧r= []):=by
 have c1:=wFormed b h1 h2;have c2:=wHasClass l hl b.cls;have hD:clsdE l b=if forB b≠0 then forB b else if clHas l b.cls then 0 else 8:=rfl;generalize forB b=F at c1 hD;generalize clHas l b.cls=H at c2 hD;refine spec_of hT (C:= []) Tryz.func286 rfl Tryz.call286 rfl rfl rfl ?_;conv=>whnf
 repeat' (first|(refine CallX.exact (c1) rfl rfl ?_;rotate_right;conv=>whnf)|((first|(refine br_intro ?_ ?_<;>intro hb<;>try simp only[brs]at hb)|omega|refine sAx ?_|decide|assumption)<;>conv=>whnf))
 · rw[if_pos hb]at hD;rw[hD];refine .ret _ ?_;conv=>whnf
   refine⟨[],⟨?_,rfl⟩,trivial⟩;conv=>lhs;whnf
 rw[if_neg (fun c=>c hb)]at hD;refine LoopX.rule hT (C:= []) (ι:=Nat) (fun i=>i=0∨(i=1∧H=true)) (fun i=>mkSt [(0,.d (clss l)),(13,.d (boks [b])),(14,.d (.int .i64 1)),(15,.d (.int .i64 i))] []) (fun i=>1 - i) 0 (.inl rfl) (by exact eAx []) ?_;rintro i (rfl|⟨rfl,hz⟩)
 · conv =>whnf
   repeat' (first|((first|refine pAx c2 ?_|(refine br_intro ?_ ?_<;>intro hb<;>try simp only[brs]at hb)|omega|refine sAx ?_|decide|assumption)<;>conv=>whnf))
   all_goals first
    | (refine⟨1,.inr ⟨rfl,?_⟩,by omega,(by exact eAx [])⟩
       first|exact hb|simpa using hb)
    | (rw[show H=false from by first|exact hb|simpa using hb]at hD
       rw[hD];refine .ret _ ?_;conv=>whnf
       refine⟨[],⟨?_,rfl⟩,trivial⟩;conv=>lhs;whnf
       all_goals rfl)
 · rw[hz]at hD;rw[hD];conv=>whnf
   repeat' (first|((first|(refine br_intro ?_ ?_<;>intro hb<;>try simp only[brs]at hb)|omega|refine sAx ?_|decide|assumption)<;>conv=>whnf))
   refine .ret _ ?_;conv=>whnf
   refine⟨[],⟨?_,rfl⟩,trivial⟩;conv=>lhs;whnf
   rfl
def bokE (l:List Cls)(b:Bok):Int:=firstE [clssE l,clsdE l b]
theorem wBokChk (l:List Cls)(hk:clsOk l)(b:Bok)(h1:b.key.length≤2^40)(h2:b.cls.length≤2^40):FSpec Tryz.prog 242 [.d (clss l),.d (boks [b])] [] (fun x r=>x= .d (.int .i64 (bokE l b))∧r= []):=by
 have c1:=z175 l hk;have c2:=wClassed l (by have:=hk.1;omega) b h1 h2;have hE:bokE l b=firstE [clssE l,clsdE l b]:=rfl;generalize clssE l=A at c1 hE;generalize clsdE l b=B at c2 hE;rw[hE];refine spec_of hT (C:= []) Tryz.func242 rfl Tryz.call242 rfl rfl rfl ?_;conv=>whnf
 repeat' (first|(refine CallX.exact (c1) rfl rfl ?_;rotate_right;conv=>whnf)|(refine CallX.exact (c2) rfl rfl ?_;rotate_right;conv=>whnf)|((first|refine CallX.pure (s105 [_,_] (by simp)) ⟨SV.le_lit (by rfl) (by rfl),trivial⟩ rfl ?_|(refine br_intro ?_ ?_<;>intro hb<;>try simp only[brs]at hb)|omega|refine sAx ?_|decide|assumption)<;>conv=>whnf))
 refine .ret _ ?_;conv=>whnf
 refine⟨[],⟨?_,rfl⟩,trivial⟩;conv=>lhs;whnf
def oJOfD195_1:OL:= [(0,[]),(1,[]),(2,[]),(3,[]),(4,rg 4),(5,rg 4),(6,[]),(7,[]),(8,[]),(9,[8]),(10,rg 10),(11,[9]),(12,[])]
def oJOfD195_2:OL:= [(0,[]),(1,[]),(2,[]),(3,[]),(4,rg 4),(5,rg 4),(6,[]),(7,[]),(8,[]),(9,[8]),(10,rg 10),(11,[9]),(12,[])]
def oJOfD195_3:OL:= [(0,[]),(1,[]),(2,[]),(3,[]),(4,[]),(5,[]),(6,rg 6),(7,rg 6),(9,rg 8),(14,[0,1,2,3,4,5,6,7,9]),(15,[0,1,2,3,4,5,6,7,9]),(16,[0,1,2,3,4,5,6,7,9]),(17,[0,1,2,3,4,5,6,7,9]),(8,[9,14,15,16,17]),(10,[14,15,16,17]),(11,[14,15,16,17]),(12,[14,15,16,17]),(13,[14,15,16,17]),(18,[]),(19,[]),(20,[]),(21,[]),(22,[]),(23,[])]
def oJOfD195_6:OL:= [(0,[]),(1,[]),(2,[]),(3,[]),(4,rg 4),(5,rg 4),(6,rg 6),(7,[])]
def bookE (h:Hou)(s:Off)(b:Bok):Int:=firstE [bokE h.flt.cls b,if(s.bks.has b.key||s.his.has b.key)then 6 else 0,0]
def bookS (h:Hou)(s:Off)(b:Bok):Off:=if bookE h s b=0 then{s with bks:=s.bks.put b.key b}else s
def few (m:List UInt8→Bool):Prop:=∃L:List (List UInt8),L.length<500∧∀k,m k=true→k ∈ L
theorem few.kb {m:List UInt8→Bool}(h:few m){clock:Nat}{kb:List (List DV×Nat)}(hk:KB [.str] (fun K=>m (keyE K)) clock kb):kb.length<500:=by
 obtain⟨L,h1,h2⟩:=h
 have:=hk.le (L.map fun x=> [.str x]) (fun key hw hh=>by
  obtain⟨s,rfl⟩:=wk_str1 hw
  exact List.mem_map.2 ⟨s,h2 s hh,rfl⟩)
 rw[List.length_map]at this;omega
set_option maxHeartbeats 4000000 in
theorem wBook (h:Hou)(hc:clsOk h.flt.cls)(vm:Mp (List UInt8))(sm:Mp Bool)(s:Off)(b:Bok)(h1:b.key.length≤2^40)(h2:b.cls.length≤2^40)(hf:few s.bks.has):
 FSpec Tryz.prog 195 [.ptr 1000001 0,.agg ((bkF b).map .d)] (offR h vm sm s) (fun y r=>y= .d (.int .i64 (bookE h s b))∧r=offO h vm sm (bookS h s b)):=by
 have c1:=wBokChk h.flt.cls hc b h1 h2;generalize hC:bokE h.flt.cls b=C at c1;have hcn:∀clock kb,KB [.str] (fun K=>s.bks.has (keyE K)) clock kb→kb.length<500:=fun clock kb hk=>hf.kb hk
 rcases hv:s.his.val b.key with _|g
 · skip
   refine spec_of hT (C:= []) Tryz.func195 rfl Tryz.call195 rfl rfl rfl ?_;conv=>whnf
   repeat' (first|((first|(refine RegX.cnt (id:=3) 1000007 rfl ?_;intro clock kb hKB;have hk5:=hcn clock kb hKB;have hk6:¬ (500:Int)≤(kb.length:Int):=(by omega))|refine RegX.unc (id:=6) 1000007 rfl ?_)<;>conv=>whnf)|(refine CallX.exact (s107 _ _) rfl rfl ?_;rotate_right;conv=>whnf)|((first|(refine And.intro (rfl:zrow _=some (hiO none)) ?_;refine rowSV_eq (row':=hiO none) (congrArg hiO hv) ?_)|refine And.intro (rfl:zrow _=some (ssF ss0)) ?_|refine And.intro (rfl:zrow _=some [.bool false]) ?_|refine And.intro (rfl:zrow _=some (sF1 [])) ?_|refine And.intro (rfl:zrow _=some [.str []]) ?_|refine And.intro (rfl:zrow _=some (bkF bk0)) ?_|refine And.intro (rfl:zrow _=some (hiO none)) ?_|refine And.intro (rfl:zrow _=some [.int .i64 0]) ?_|refine CallX.pure c1 ⟨lr,SV.le_lit rfl rfl,trivial⟩ rfl ?_|refine CallX.pure (s105 [_,_,_] (by simp)) ⟨SV.le_lit (by rfl) (by rfl),trivial⟩ rfl ?_|(refine br_intro ?_ ?_<;>intro hb<;>try simp only[brs]at hb)|refine rAx hT 1 oJOfD195_1 ?_|refine rAx hT 2 oJOfD195_2 ?_|refine rAx hT 3 oJOfD195_3 ?_|refine rAx hT 6 oJOfD195_6 ?_|omega|refine sAx ?_|decide|assumption)<;>conv=>whnf))
   all_goals first
    | (have hS:bookS h s b=(s):=by
        clear c1 hcn hKB hf;unfold bookS bookE;rw[hC]
        (try simp only[keyE]at*);first|(simp_all [firstE];done)|(simp_all [firstE];grind)|grind [firstE]
       rw[hS];refine .ent _ _ (Entails.mk' (ts:= [(4,.d (.int .i64 (bookE h s b)))]) (rs:=offO h vm sm (s)) rq2 rfl rfl ⟨SV.le_int (by clear c1 hcn hKB hf;unfold bookE;rw[hC];(try simp only[keyE]at*);first|(simp_all [firstE];done)|(simp_all [firstE];grind)|grind [firstE]),trivial⟩ ⟨rr,rr,rr,rr,rr,rr,Res.le_mapB fun _ _=>⟨rfl,rfl⟩,rr,rr,rr,trivial⟩) ?_;refine .ret _ ?_;conv=>whnf
       exact⟨_,⟨rfl,rfl⟩,rr,rr,rr,rr,rr,rr,rr,rr,rr,rr,trivial⟩)
    | (have hS:bookS h s b=({s with bks:=s.bks.put b.key b}):=by
        clear c1 hcn hKB hf;unfold bookS bookE;rw[hC]
        (try simp only[keyE]at*);first|(simp_all [firstE];done)|(simp_all [firstE];grind)|grind [firstE]
       rw[hS];refine .ent _ _ (Entails.mk' (ts:= [(4,.d (.int .i64 (bookE h s b)))]) (rs:=offO h vm sm ({s with bks:=s.bks.put b.key b})) rq2 rfl rfl ⟨SV.le_int (by clear c1 hcn hKB hf;unfold bookE;rw[hC];(try simp only[keyE]at*);first|(simp_all [firstE];done)|(simp_all [firstE];grind)|grind [firstE]),trivial⟩ ⟨rr,rr,rr,rr,rr,rr,mpS_put,rr,rr,rr,trivial⟩) ?_;refine .ret _ ?_;conv=>whnf
       exact⟨_,⟨rfl,rfl⟩,rr,rr,rr,rr,rr,rr,rr,rr,rr,rr,trivial⟩)
 · skip
   refine spec_of hT (C:= []) Tryz.func195 rfl Tryz.call195 rfl rfl rfl ?_;conv=>whnf
   repeat' (first|((first|(refine RegX.cnt (id:=3) 1000007 rfl ?_;intro clock kb hKB;have hk5:=hcn clock kb hKB;have hk6:¬ (500:Int)≤(kb.length:Int):=(by omega))|refine RegX.unc (id:=6) 1000007 rfl ?_)<;>conv=>whnf)|(refine CallX.exact (s107 _ _) rfl rfl ?_;rotate_right;conv=>whnf)|((first|(refine And.intro (rfl:zrow _=some (hiO none)) ?_;refine rowSV_eq (row':=hiF g) (congrArg hiO hv) ?_)|refine And.intro (rfl:zrow _=some (ssF ss0)) ?_|refine And.intro (rfl:zrow _=some [.bool false]) ?_|refine And.intro (rfl:zrow _=some (sF1 [])) ?_|refine And.intro (rfl:zrow _=some [.str []]) ?_|refine And.intro (rfl:zrow _=some (bkF bk0)) ?_|refine And.intro (rfl:zrow _=some (hiO none)) ?_|refine And.intro (rfl:zrow _=some [.int .i64 0]) ?_|refine CallX.pure c1 ⟨lr,SV.le_lit rfl rfl,trivial⟩ rfl ?_|refine CallX.pure (s105 [_,_,_] (by simp)) ⟨SV.le_lit (by rfl) (by rfl),trivial⟩ rfl ?_|(refine br_intro ?_ ?_<;>intro hb<;>try simp only[brs]at hb)|refine rAx hT 1 oJOfD195_1 ?_|refine rAx hT 2 oJOfD195_2 ?_|refine rAx hT 3 oJOfD195_3 ?_|refine rAx hT 6 oJOfD195_6 ?_|omega|refine sAx ?_|decide|assumption)<;>conv=>whnf))
   all_goals first
    | (have hS:bookS h s b=(s):=by
        clear c1 hcn hKB hf;unfold bookS bookE;rw[hC]
        (try simp only[keyE]at*);first|(simp_all [firstE];done)|(simp_all [firstE];grind)|grind [firstE]
       rw[hS];refine .ent _ _ (Entails.mk' (ts:= [(4,.d (.int .i64 (bookE h s b)))]) (rs:=offO h vm sm (s)) rq2 rfl rfl ⟨SV.le_int (by clear c1 hcn hKB hf;unfold bookE;rw[hC];(try simp only[keyE]at*);first|(simp_all [firstE];done)|(simp_all [firstE];grind)|grind [firstE]),trivial⟩ ⟨rr,rr,rr,rr,rr,rr,Res.le_mapB fun _ _=>⟨rfl,rfl⟩,rr,rr,rr,trivial⟩) ?_;refine .ret _ ?_;conv=>whnf
       exact⟨_,⟨rfl,rfl⟩,rr,rr,rr,rr,rr,rr,rr,rr,rr,rr,trivial⟩)
    | (have hS:bookS h s b=({s with bks:=s.bks.put b.key b}):=by
        clear c1 hcn hKB hf;unfold bookS bookE;rw[hC]
        (try simp only[keyE]at*);first|(simp_all [firstE];done)|(simp_all [firstE];grind)|grind [firstE]
       rw[hS];refine .ent _ _ (Entails.mk' (ts:= [(4,.d (.int .i64 (bookE h s b)))]) (rs:=offO h vm sm ({s with bks:=s.bks.put b.key b})) rq2 rfl rfl ⟨SV.le_int (by clear c1 hcn hKB hf;unfold bookE;rw[hC];(try simp only[keyE]at*);first|(simp_all [firstE];done)|(simp_all [firstE];grind)|grind [firstE]),trivial⟩ ⟨rr,rr,rr,rr,rr,rr,mpS_put,rr,rr,rr,trivial⟩) ?_;refine .ret _ ?_;conv=>whnf
       exact⟨_,⟨rfl,rfl⟩,rr,rr,rr,rr,rr,rr,rr,rr,rr,rr,trivial⟩)
def oJOfE240_1:OL:= [(0,[]),(1,[]),(2,[]),(3,[]),(4,rg 4),(5,rg 4),(6,[]),(7,rg 7),(12,rg 8),(8,[12]),(9,[12]),(10,[12]),(11,[12,10]),(13,[11]),(14,[])]
def oJOfE240_2:OL:= [(0,[]),(1,[]),(2,[]),(3,[]),(4,rg 4),(5,rg 4),(6,rg 6),(7,rg 6),(8,rg 4),(9,[]),(11,rg 10),(12,rg 10),(10,[11,12]),(13,[]),(14,[]),(15,[]),(16,[])]
def oJOfE196_1:OL:= [(0,[]),(1,[]),(2,[]),(3,[]),(4,rg 4),(5,rg 4),(6,rg 4),(7,rg 4),(8,rg 8),(9,rg 8),(10,rg 8),(11,rg 8),(12,rg 12),(13,rg 12),(14,rg 12),(15,rg 12),(16,[4,5,6,7,8,9,10,11,12,13,14,15]),(17,[8,9,10,11,12,13,14,15]),(18,[12,13,14,15]),(19,[])]
def oJOfE196_2:OL:= [(0,[]),(1,[0]),(2,[0,1]),(3,[0,1,2]),(4,[0,1,2]),(5,[0,1,2]),(6,[0,1,2]),(7,[0,1]),(8,rg 8),(9,rg 9),(10,rg 10),(11,rg 11),(12,rg 11),(13,rg 11),(14,rg 11),(15,rg 15),(16,rg 15),(17,rg 15),(18,rg 15),(19,rg 9),(24,rg 20),(20,[24]),(21,[24]),(22,[24]),(23,[24,22]),(25,[23]),(26,[])]
def oJOfE196_8:OL:= [(0,[]),(2,[0]),(3,[0]),(14,[0,2,3]),(15,[0,2,3,14]),(17,[0,2,3,14,15]),(18,[0,2,3,14,15]),(19,[0,2,3,14,15]),(20,[0,2,3,14,15]),(1,[2,3,14,15,17,18,19,20]),(4,[14,15,17,18,19,20]),(5,[14,15,17,18,19,20]),(6,[14,15,17,18,19,20]),(7,[14,15,17,18,19,20]),(8,[14,15,17,18,19,20]),(9,[14,15,17,18,19,20,5,6,7,8]),(10,[14,15,17,18,19,20]),(11,[14,15,17,18,19,20]),(12,[14,15,17,18,19,20]),(13,[14,15,17,18,19,20]),(16,[17,18,19,20]),(21,[]),(22,[]),(23,[]),(24,[]),(25,[]),(26,[])]
def oJOfE196_12:OL:= [(0,[]),(1,[]),(2,[]),(3,[]),(4,rg 4),(5,rg 5),(6,[])]
abbrev offRB (h:Hou)(vm:Mp (List UInt8))(sm:Mp Bool)(s:Off)(clock:Nat)(kb:List (List DV×Nat)):List (Nat×Res):=
 [(1000001,offC h),(1000002,mpS false [.str []] sF1 vm),(1000003,mpS false [.bool false] bF1 sm),(1000004,mpS true (ssF ss0) ssF s.sts),(1000005,evB s.log),(1000006,atM s.ats),(1000007,mpS true (bkF bk0) bkF s.bks),(1000008,.mapB false true [.str] (hiO none) (fun K=>s.his.has (keyE K)) (fun K=>hiO (s.his.val (keyE K))) clock kb),(1000010,mpS false [.int .i64 0] iF1 s.paid),(1000011,rfB s.ref)]
set_option maxHeartbeats 2000000 in
theorem wCanB (h:Hou)(vm:Mp (List UInt8))(sm:Mp Bool)(s:Off)(x:Evn)(clock:Nat)(kb:List (List DV×Nat)):FSpec Tryz.prog 240 [.ptr 1000001 0,.agg ((evF x).map .d)] (offRB h vm sm s clock kb) (fun y r=>y= .d (.int .i64 (canE s x))∧r=offRB h vm sm s clock kb):=by
 refine spec_of hT (C:= []) Tryz.func240 rfl Tryz.call240 rfl rfl rfl ?_;conv=>whnf
 repeat' (first|(refine CallX.pure (wFol _ x) ⟨lr,lr,trivial⟩ rfl ?_;conv=>whnf)|(refine CallX.exact (s107 _ _) rfl rfl ?_;rotate_right;conv=>whnf)|((first|refine And.intro (rfl:zrow _=some (ssF ss0)) ?_|refine And.intro (rfl:zrow _=some [DV.bool false]) ?_|refine CallX.pure (s105 [_,_] (by simp)) ⟨SV.le_lit (by rfl) (by rfl),trivial⟩ rfl ?_|(refine br_intro ?_ ?_<;>intro hb<;>try simp only[brs]at hb)|refine rAx hT 1 oJOfE240_1 ?_|refine rAx hT 2 oJOfE240_2 ?_|omega|refine sAx ?_|decide|assumption)<;>conv=>whnf))
 refine .ret _ ?_;conv=>whnf
 exact⟨offRB h vm sm s clock kb,⟨rfl,rfl⟩,rr,rr,rr,rr,rr,rr,rr,rr,rr,rr,trivial⟩
def stHi (at0:Int)(t:Tol):Hir:=startH (t.texts.getD 0 []) (t.texts.getD 1 []) at0 (t.nums.getD 0 0) (t.texts.getD 2 []) ⟨at0,t.texts.getD 3 [],t.nums.getD 1 0,t.nums.getD 2 0⟩
def stEv (at0:Int)(t:Tol):Evn:=⟨at0,t.texts.getD 2 [],t.texts.getD 3 [],2,[]⟩
def stE (vm:Mp (List UInt8))(sm:Mp Bool)(s:Off)(at0:Int)(t:Tol):Int:=
 if hirE (stHi at0 t)≠0 then hirE (stHi at0 t)else firstE [if s.his.has (t.texts.getD 0 [])then 6 else 0,if(!vm.has (t.texts.getD 2 [])|| !sm.val (t.texts.getD 3 []))then 8 else 0,canE s (stEv at0 t),0]
def stS (vm:Mp (List UInt8))(sm:Mp Bool)(s:Off)(at0:Int)(t:Tol):Off:=if stE vm sm s at0 t=0 then{sayS s (stEv at0 t)with his:=s.his.put (t.texts.getD 0 []) (some (stHi at0 t)),bks:=s.bks.del (t.texts.getD 0 []) bk0}else s
set_option maxHeartbeats 4000000 in
theorem wSt (h:Hou)(vm:Mp (List UInt8))(sm:Mp Bool)(s:Off)(hl:s.log.length≤2^20)(at0:Int)(t:Tol)(h1:4≤t.texts.length)(h2:3≤t.nums.length)(h3:∀j,(t.texts.getD j []).length≤2^40)(hf:few s.his.has):
 FSpec Tryz.prog 196 [.ptr 1000001 0,.d (.int .i64 at0),.agg ((tolF t).map .d)] (offR h vm sm s) (fun y r=>y= .d (.int .i64 (stE vm sm s at0 t))∧r=offO h vm sm (stS vm sm s at0 t)):=by
 have c1:=wStart (t.texts.getD 0 []) (t.texts.getD 1 []) at0 (t.nums.getD 0 0) (t.texts.getD 2 []) ⟨at0,t.texts.getD 3 [],t.nums.getD 1 0,t.nums.getD 2 0⟩ (h3 0) (h3 1) (h3 2) (h3 3);have c2:=wCanB h vm sm s (stEv at0 t);have c3:=wSay h vm sm s (stEv at0 t) hl
 change FSpec _ _ _ _ (fun y r=>y= .tup [.agg ((hiF (if hirE (stHi at0 t)=0 then stHi at0 t else hi0)).map .d),.d (.int .i64 (hirE (stHi at0 t)))]∧r= [])at c1
 have hE:stE vm sm s at0 t=if hirE (stHi at0 t)≠0 then hirE (stHi at0 t)else firstE [if s.his.has (t.texts.getD 0 [])then 6 else 0,if(!vm.has (t.texts.getD 2 [])|| !sm.val (t.texts.getD 3 []))then 8 else 0,canE s (stEv at0 t),0]:=rfl;generalize canE s (stEv at0 t)=C at c2 hE;have hcn:∀clock kb,KB [.str] (fun K=>s.his.has (keyE K)) clock kb→kb.length<500:=fun clock kb hk=>hf.kb hk
 by_cases q:hirE (stHi at0 t)=0
 · rw [if_pos q,q]at c1;rw[if_neg (fun c=>c q)]at hE;rcases hv:s.his.val (t.texts.getD 0 [])with _|g
   · skip
     refine spec_of hT (C:= []) Tryz.func196 rfl Tryz.call196 rfl rfl rfl ?_;conv=>whnf
     repeat' (first|(refine RegX.cnt (id:=8) 1000008 rfl ?_;intro clock kb hKB;have hk5:=hcn clock kb hKB;have hk6:¬ (500:Int)≤(kb.length:Int):=(by omega);conv=>whnf)|(refine CallX.exact (c1) rfl rfl ?_;rotate_right;conv=>whnf)|((first|refine CallX.look (c2 clock kb) rq0 rfl ⟨lr,lr,trivial⟩ ⟨⟨_,rfl,rfl⟩,⟨_,rfl,rfl⟩,⟨_,rfl,rfl⟩,⟨_,rfl,rfl⟩,⟨_,rfl,rfl⟩,⟨_,rfl,rfl⟩,⟨_,rfl,rfl⟩,⟨_,rfl,rfl⟩,⟨_,rfl,rfl⟩,⟨_,rfl,rfl⟩,trivial⟩ rfl rfl rfl ?_|(refine CallX.of (c3) rq1 rfl ⟨lr,lr,trivial⟩ ⟨rr,rr,rr,rr,rr,rr,rr,Res.le_mapB fun _ _=>⟨rfl,rfl⟩,rr,rr,trivial⟩ rfl rfl ?_;rintro y rout ⟨rfl,rfl⟩;refine⟨rfl,?_⟩))<;>conv=>whnf)|(refine CallX.exact (s107 _ _) rfl rfl ?_;rotate_right;conv=>whnf)|((first|(refine And.intro (rfl:zrow _=some (hiO none)) ?_;refine rowSV_eq (row':=hiO none) (congrArg hiO hv) ?_)|refine And.intro (rfl:zrow _=some (ssF ss0)) ?_|refine And.intro (rfl:zrow _=some [.bool false]) ?_|refine And.intro (rfl:zrow _=some (sF1 [])) ?_|refine And.intro (rfl:zrow _=some [.str []]) ?_|refine And.intro (rfl:zrow _=some (bkF bk0)) ?_|refine And.intro (rfl:zrow _=some (hiO none)) ?_|refine And.intro (rfl:zrow _=some [.int .i64 0]) ?_|refine CallX.pure (s105 [_,_,_,_] (by simp)) ⟨SV.le_lit (by rfl) (by rfl),trivial⟩ rfl ?_|(refine br_intro ?_ ?_<;>intro hb<;>try simp only[brs]at hb)|refine rAx hT 1 oJOfE196_1 ?_|refine rAx hT 2 oJOfE196_2 ?_|refine rAx hT 8 oJOfE196_8 ?_|refine rAx hT 12 oJOfE196_12 ?_|omega|refine sAx ?_|decide|assumption)<;>conv=>whnf))
     all_goals first
      | (have hS:stS vm sm s at0 t=(s):=by
          (try clear hKB);clear c1 c2 c3 hcn hf h3;(try clear hv)
          unfold stS;rw[hE]
          (try simp only[keyE,show Int.toNat 0=0 from rfl,show Int.toNat 1=1 from rfl,show Int.toNat 2=2 from rfl,show Int.toNat 3=3 from rfl]at*);first|(simp_all [firstE];done)|(simp_all [firstE];grind)|grind [firstE]
         rw[hS];refine .ent _ _ (Entails.mk' (ts:= [(6,.d (.int .i64 (stE vm sm s at0 t)))]) (rs:=offO h vm sm (s)) rq2 rfl rfl ⟨SV.le_int (by(try clear hKB);clear c1 c2 c3 hcn hf h3;(try clear hv);first|(rw[hE];done)|(rw[hE];(try simp only[keyE,show Int.toNat 0=0 from rfl,show Int.toNat 1=1 from rfl,show Int.toNat 2=2 from rfl,show Int.toNat 3=3 from rfl]at*);first|(simp_all [firstE];done)|(simp_all [firstE];grind)|grind [firstE])),trivial⟩ ⟨rr,rr,rr,rr,rr,rr,rr,Res.le_mapB fun _ _=>⟨rfl,rfl⟩,rr,rr,trivial⟩) ?_;refine .ret _ ?_;conv=>whnf
         exact⟨_,⟨rfl,rfl⟩,rr,rr,rr,rr,rr,rr,rr,rr,rr,rr,trivial⟩)
      | (have hS:stS vm sm s at0 t=({sayS s (stEv at0 t)with his:=s.his.put (t.texts.getD 0 []) (some (stHi at0 t)),bks:=s.bks.del (t.texts.getD 0 []) bk0}):=by
          (try clear hKB);clear c1 c2 c3 hcn hf h3;(try clear hv)
          unfold stS;rw[hE]
          (try simp only[keyE,show Int.toNat 0=0 from rfl,show Int.toNat 1=1 from rfl,show Int.toNat 2=2 from rfl,show Int.toNat 3=3 from rfl]at*);first|(simp_all [firstE];done)|(simp_all [firstE];grind)|grind [firstE]
         rw[hS];refine .ent _ _ (Entails.mk' (ts:= [(6,.d (.int .i64 (stE vm sm s at0 t)))]) (rs:=offO h vm sm ({sayS s (stEv at0 t)with his:=s.his.put (t.texts.getD 0 []) (some (stHi at0 t)),bks:=s.bks.del (t.texts.getD 0 []) bk0})) rq3 rfl rfl ⟨SV.le_int (by(try clear hKB);clear c1 c2 c3 hcn hf h3;(try clear hv);first|(rw[hE];done)|(rw[hE];(try simp only[keyE,show Int.toNat 0=0 from rfl,show Int.toNat 1=1 from rfl,show Int.toNat 2=2 from rfl,show Int.toNat 3=3 from rfl]at*);first|(simp_all [firstE];done)|(simp_all [firstE];grind)|grind [firstE])),trivial⟩ ⟨rr,rr,rr,rr,rr,rr,mpS_del,mpS_put (v:=some (stHi at0 t)),rr,rr,trivial⟩) ?_;refine .ret _ ?_;conv=>whnf
         exact⟨_,⟨rfl,rfl⟩,rr,rr,rr,rr,rr,rr,rr,rr,rr,rr,trivial⟩)
   · skip
     refine spec_of hT (C:= []) Tryz.func196 rfl Tryz.call196 rfl rfl rfl ?_;conv=>whnf
     repeat' (first|(refine RegX.cnt (id:=8) 1000008 rfl ?_;intro clock kb hKB;have hk5:=hcn clock kb hKB;have hk6:¬ (500:Int)≤(kb.length:Int):=(by omega);conv=>whnf)|(refine CallX.exact (c1) rfl rfl ?_;rotate_right;conv=>whnf)|((first|refine CallX.look (c2 clock kb) rq0 rfl ⟨lr,lr,trivial⟩ ⟨⟨_,rfl,rfl⟩,⟨_,rfl,rfl⟩,⟨_,rfl,rfl⟩,⟨_,rfl,rfl⟩,⟨_,rfl,rfl⟩,⟨_,rfl,rfl⟩,⟨_,rfl,rfl⟩,⟨_,rfl,rfl⟩,⟨_,rfl,rfl⟩,⟨_,rfl,rfl⟩,trivial⟩ rfl rfl rfl ?_|(refine CallX.of (c3) rq1 rfl ⟨lr,lr,trivial⟩ ⟨rr,rr,rr,rr,rr,rr,rr,Res.le_mapB fun _ _=>⟨rfl,rfl⟩,rr,rr,trivial⟩ rfl rfl ?_;rintro y rout ⟨rfl,rfl⟩;refine⟨rfl,?_⟩))<;>conv=>whnf)|(refine CallX.exact (s107 _ _) rfl rfl ?_;rotate_right;conv=>whnf)|((first|(refine And.intro (rfl:zrow _=some (hiO none)) ?_;refine rowSV_eq (row':=hiF g) (congrArg hiO hv) ?_)|refine And.intro (rfl:zrow _=some (ssF ss0)) ?_|refine And.intro (rfl:zrow _=some [.bool false]) ?_|refine And.intro (rfl:zrow _=some (sF1 [])) ?_|refine And.intro (rfl:zrow _=some [.str []]) ?_|refine And.intro (rfl:zrow _=some (bkF bk0)) ?_|refine And.intro (rfl:zrow _=some (hiO none)) ?_|refine And.intro (rfl:zrow _=some [.int .i64 0]) ?_|refine CallX.pure (s105 [_,_,_,_] (by simp)) ⟨SV.le_lit (by rfl) (by rfl),trivial⟩ rfl ?_|(refine br_intro ?_ ?_<;>intro hb<;>try simp only[brs]at hb)|refine rAx hT 1 oJOfE196_1 ?_|refine rAx hT 2 oJOfE196_2 ?_|refine rAx hT 8 oJOfE196_8 ?_|refine rAx hT 12 oJOfE196_12 ?_|omega|refine sAx ?_|decide|assumption)<;>conv=>whnf))
     all_goals first
      | (have hS:stS vm sm s at0 t=(s):=by
          (try clear hKB);clear c1 c2 c3 hcn hf h3;(try clear hv)
          unfold stS;rw[hE]
          (try simp only[keyE,show Int.toNat 0=0 from rfl,show Int.toNat 1=1 from rfl,show Int.toNat 2=2 from rfl,show Int.toNat 3=3 from rfl]at*);first|(simp_all [firstE];done)|(simp_all [firstE];grind)|grind [firstE]
         rw[hS];refine .ent _ _ (Entails.mk' (ts:= [(6,.d (.int .i64 (stE vm sm s at0 t)))]) (rs:=offO h vm sm (s)) rq2 rfl rfl ⟨SV.le_int (by(try clear hKB);clear c1 c2 c3 hcn hf h3;(try clear hv);first|(rw[hE];done)|(rw[hE];(try simp only[keyE,show Int.toNat 0=0 from rfl,show Int.toNat 1=1 from rfl,show Int.toNat 2=2 from rfl,show Int.toNat 3=3 from rfl]at*);first|(simp_all [firstE];done)|(simp_all [firstE];grind)|grind [firstE])),trivial⟩ ⟨rr,rr,rr,rr,rr,rr,rr,Res.le_mapB fun _ _=>⟨rfl,rfl⟩,rr,rr,trivial⟩) ?_;refine .ret _ ?_;conv=>whnf
         exact⟨_,⟨rfl,rfl⟩,rr,rr,rr,rr,rr,rr,rr,rr,rr,rr,trivial⟩)
      | (have hS:stS vm sm s at0 t=({sayS s (stEv at0 t)with his:=s.his.put (t.texts.getD 0 []) (some (stHi at0 t)),bks:=s.bks.del (t.texts.getD 0 []) bk0}):=by
          (try clear hKB);clear c1 c2 c3 hcn hf h3;(try clear hv)
          unfold stS;rw[hE]
          (try simp only[keyE,show Int.toNat 0=0 from rfl,show Int.toNat 1=1 from rfl,show Int.toNat 2=2 from rfl,show Int.toNat 3=3 from rfl]at*);first|(simp_all [firstE];done)|(simp_all [firstE];grind)|grind [firstE]
         rw[hS];refine .ent _ _ (Entails.mk' (ts:= [(6,.d (.int .i64 (stE vm sm s at0 t)))]) (rs:=offO h vm sm ({sayS s (stEv at0 t)with his:=s.his.put (t.texts.getD 0 []) (some (stHi at0 t)),bks:=s.bks.del (t.texts.getD 0 []) bk0})) rq3 rfl rfl ⟨SV.le_int (by(try clear hKB);clear c1 c2 c3 hcn hf h3;(try clear hv);first|(rw[hE];done)|(rw[hE];(try simp only[keyE,show Int.toNat 0=0 from rfl,show Int.toNat 1=1 from rfl,show Int.toNat 2=2 from rfl,show Int.toNat 3=3 from rfl]at*);first|(simp_all [firstE];done)|(simp_all [firstE];grind)|grind [firstE])),trivial⟩ ⟨rr,rr,rr,rr,rr,rr,mpS_del,mpS_put (v:=some (stHi at0 t)),rr,rr,trivial⟩) ?_;refine .ret _ ?_;conv=>whnf
         exact⟨_,⟨rfl,rfl⟩,rr,rr,rr,rr,rr,rr,rr,rr,rr,rr,trivial⟩)
 · rw[if_neg q]at c1;rw[if_pos q]at hE;generalize hirE (stHi at0 t)=X at c1 hE q;refine spec_of hT (C:= []) Tryz.func196 rfl Tryz.call196 rfl rfl rfl ?_;conv=>whnf
   repeat' (first|(refine CallX.exact (c1) rfl rfl ?_;rotate_right;conv=>whnf)|((first|(refine br_intro ?_ ?_<;>intro hb<;>try simp only[brs]at hb)|refine rAx hT 1 oJOfE196_1 ?_|refine rAx hT 2 oJOfE196_2 ?_|refine rAx hT 8 oJOfE196_8 ?_|refine rAx hT 12 oJOfE196_12 ?_|omega|refine sAx ?_|decide|assumption)<;>conv=>whnf))
   all_goals first
    |(exfalso;omega)
    | (have hS:stS vm sm s at0 t=(s):=by
        (try clear hKB);clear c1 c2 c3 hcn hf h3;(try clear hv)
        unfold stS;rw[hE]
        (try simp only[keyE,show Int.toNat 0=0 from rfl,show Int.toNat 1=1 from rfl,show Int.toNat 2=2 from rfl,show Int.toNat 3=3 from rfl]at*);first|(simp_all [firstE];done)|(simp_all [firstE];grind)|grind [firstE]
       rw[hS];refine .ent _ _ (Entails.mk' (ts:= [(6,.d (.int .i64 (stE vm sm s at0 t)))]) (rs:=offO h vm sm (s)) rq2 rfl rfl ⟨SV.le_int (by(try clear hKB);clear c1 c2 c3 hcn hf h3;(try clear hv);first|(rw[hE];done)|(rw[hE];(try simp only[keyE,show Int.toNat 0=0 from rfl,show Int.toNat 1=1 from rfl,show Int.toNat 2=2 from rfl,show Int.toNat 3=3 from rfl]at*);first|(simp_all [firstE];done)|(simp_all [firstE];grind)|grind [firstE])),trivial⟩ ⟨rr,rr,rr,rr,rr,rr,rr,rr,rr,rr,trivial⟩) ?_;refine .ret _ ?_;conv=>whnf
       exact⟨_,⟨rfl,rfl⟩,rr,rr,rr,rr,rr,rr,rr,rr,rr,rr,trivial⟩)
def oJOfF198_19:OL:= [(0,[]),(1,[0]),(2,[0]),(3,[0]),(4,[0]),(5,[]),(6,[]),(7,[]),(8,[7]),(9,[8]),(10,[])]
def oJOfF198_22:OL:= [(0,[]),(1,[0]),(2,[0,1]),(3,[0,1,2]),(4,[0,1,2]),(5,[0,1,2]),(6,[0,1,2]),(7,rg 7),(8,rg 7),(9,rg 7),(10,rg 7),(11,[0]),(12,[]),(13,[]),(14,[]),(15,[14]),(16,[15]),(17,[])]
def oJOfF198_11:OL:= [(0,[]),(1,[]),(2,[]),(3,[]),(4,rg 4),(5,rg 4),(6,rg 4),(7,rg 4),(8,[4,5,6,7]),(9,[])]
def oJOfF198_12:OL:= [(0,[]),(1,[0]),(2,[0,1]),(3,[0,1]),(4,[0,1]),(5,[0,1]),(6,rg 6),(7,rg 6),(8,rg 6),(9,rg 6),(10,[]),(11,rg 11),(12,[])]
def oJOfF198_13:OL:= [(0,[]),(1,[0]),(2,[0,1]),(3,[0,1]),(4,[0,1]),(5,[0,1]),(6,rg 6),(7,rg 6),(8,rg 6),(9,rg 6),(10,[]),(11,rg 11),(12,[])]
def oJOfF198_40:OL:= [(0,[]),(1,[]),(2,[]),(3,[]),(4,rg 4),(5,rg 5),(6,[])]
def oldV (g:Hir):List UInt8:=(g.legs.getD ((g.legs.length:Int) - 1).toNat lg0).veh
def chIn (at0:Int)(t:Tol):Rdg:=⟨at0,(t.texts.getD 1 []),(t.nums.getD 0 0),(t.nums.getD 1 0)⟩
def chOut (at0:Int)(t:Tol):Rdg:=⟨at0,(t.texts.getD 1 []),(t.nums.getD 2 0),(t.nums.getD 3 0)⟩
def chNext (g:Hir)(at0:Int)(t:Tol):Hir:=if t.word= [101,120,116,101,110,100]then xtH g (t.nums.getD 0 0)else if t.word= [99,108,111,115,101]then clH g (chIn at0 t)else exH g (chIn at0 t) (t.texts.getD 2 []) (chOut at0 t)
def chEvs (g:Hir)(at0:Int)(t:Tol):List Evn:=if t.word= [101,120,116,101,110,100]then []else if t.word= [99,108,111,115,101]then [⟨at0,oldV g,(t.texts.getD 1 []),3,[]⟩]else [⟨at0,oldV g,(t.texts.getD 1 []),3,[]⟩,⟨at0,(t.texts.getD 2 []),(t.texts.getD 1 []),2,[]⟩]
def chKn (vm:Mp (List UInt8))(sm:Mp Bool)(t:Tol):Bool:=if t.word= [101,120,116,101,110,100]then true else if t.word= [99,108,111,115,101]then sm.val (t.texts.getD 1 [])else(sm.val (t.texts.getD 1 [])&&vm.has (t.texts.getD 2 []))
def canL (s:Off)(l:List Evn):Int:=firstAt (fun i=>canE s (l.getD i ev0)) l.length
def sayL (s:Off)(l:List Evn):Off:=l.foldl sayS s
def chG (vm:Mp (List UInt8))(sm:Mp Bool)(s:Off)(g:Hir)(at0:Int)(t:Tol):Int:=
 if firstE [mdE g (chNext g at0 t),if(!chKn vm sm t)then 8 else 0]≠0 then firstE [mdE g (chNext g at0 t),if(!chKn vm sm t)then 8 else 0]else canL s (chEvs g at0 t)
def chE (vm:Mp (List UInt8))(sm:Mp Bool)(s:Off)(at0:Int)(t:Tol):Int:=if s.his.has (t.texts.getD 0 [])then chG vm sm s ((s.his.val (t.texts.getD 0 [])).getD hi0) at0 t else 8
def chS (vm:Mp (List UInt8))(sm:Mp Bool)(s:Off)(at0:Int)(t:Tol):Off:=
 if chE vm sm s at0 t=0 then{sayL s (chEvs ((s.his.val (t.texts.getD 0 [])).getD hi0) at0 t)with his:=(sayL s (chEvs ((s.his.val (t.texts.getD 0 [])).getD hi0) at0 t)).his.put (t.texts.getD 0 []) (some (chNext ((s.his.val (t.texts.getD 0 [])).getD hi0) at0 t))}else s
theorem sayL_log (s:Off)(l:List Evn):(sayL s l).log=s.log++l:=by
 unfold sayL
 induction l generalizing s with
 |nil=>simp
 |cons x l ih=>rw[List.foldl_cons,ih];simp[sayS]
theorem sayL_take (s:Off)(l:List Evn)(i:Nat)(hi:i<l.length):sayL s (l.take (i+1))=sayS (sayL s (l.take i)) (l.getD i ev0):=by
 unfold sayL;rw[List.take_add_one,List.getElem?_eq_getElem hi,Option.toList_some,List.foldl_append,List.getD_eq_getElem?_getD,List.getElem?_eq_getElem hi];rfl
abbrev offC60 (h:Hou):Res:=.cells 120 (houC h++ [.mp 1000002,.mp 1000003,.mp 1000004,.buf 60,.mp 1000006,.mp 1000007,.mp 1000008,.mp 1000010,.buf 1000011])
set_option maxHeartbeats 8000000 in
theorem wChange (h:Hou)(vm:Mp (List UInt8))(sm:Mp Bool)(s:Off)(hl:s.log.length≤2^19)(at0:Int)(t:Tol)(h1:1≤t.texts.length)(hx:t.word= [101,120,116,101,110,100]→1≤t.nums.length)(hc:t.word= [99,108,111,115,101]→2≤t.texts.length∧2≤t.nums.length)
 (hs:t.word≠ [101,120,116,101,110,100]→t.word≠ [99,108,111,115,101]→3≤t.texts.length∧4≤t.nums.length)(h3:∀j,(t.texts.getD j []).length≤2^40)(g:Hir)(hh:s.his.has (t.texts.getD 0 [])=true)(hv:s.his.val (t.texts.getD 0 [])=some g)(hg:hiL g)(hg1:1≤g.legs.length)(hg2:g.legs.length<2^19):
 FSpec Tryz.prog 198 [.ptr 1000001 0,.d (.int .i64 at0),.agg ((tolF t).map .d)] (offR h vm sm s) (fun y r=>y= .d (.int .i64 (chE vm sm s at0 t))∧r=offO h vm sm (chS vm sm s at0 t)):=by
 have cX:=wExt g hg (t.nums.getD 0 0);have cC:=wCls g hg (chIn at0 t) (h3 1);have cE:=wExc g hg hg2 (chIn at0 t) (h3 1) (t.texts.getD 2 []) (h3 2) (chOut at0 t) (h3 1)
 by_cases w1:t.word= [101,120,116,101,110,100]
 · skip
   have hN:chNext g at0 t=xtH g (t.nums.getD 0 0):=by unfold chNext;rw[if_pos w1]
   have hEv:chEvs g at0 t= []:=by unfold chEvs;rw[if_pos w1]
   have hKn:chKn vm sm t=true:=by unfold chKn;rw[if_pos w1]
   have hx1:=hx w1
   by_cases hm:mdE g (xtH g (t.nums.getD 0 0))=0
   · have hH:mdH g (xtH g (t.nums.getD 0 0))=xtH g (t.nums.getD 0 0):=if_pos hm;rw[hH,hm]at cX;obtain⟨N,hNe⟩:∃N,N=xtH g (t.nums.getD 0 0):=⟨_,rfl⟩;rw[←hNe]at cX;obtain⟨EV,hEVe⟩:∃EV,EV=([]:List Evn):=⟨_,rfl⟩;have hEl:EV.length≤2:=by rw[hEVe];simp
     have hG0:chKn vm sm t=true→chE vm sm s at0 t=canL s EV:=fun kk=>by
      unfold chE chG;rw[if_pos hh,hv];show(if firstE [mdE g (chNext g at0 t),if(!chKn vm sm t)=true then 8 else 0]≠0 then firstE [mdE g (chNext g at0 t),if(!chKn vm sm t)=true then 8 else 0]else canL s (chEvs g at0 t))=_;rw[hN,hm,kk,hEv,←hEVe];rw[if_neg (by simp[firstE])]
     refine spec_of hT (C:= []) Tryz.func198 rfl Tryz.call198 rfl rfl rfl ?_;conv=>whnf
     repeat' (first|((first|refine pAx cX ?_|refine pAx cC ?_|refine pAx cE ?_)<;>conv=>whnf)|(refine CallX.exact (s107 _ _) rfl rfl ?_;rotate_right;conv=>whnf)|((first|(refine And.intro (rfl:zrow _=some (hiO none)) ?_;refine rowSV_eq (row':=hiF g) (congrArg hiO hv) ?_)|refine And.intro (rfl:zrow _=some (ssF ss0)) ?_|refine And.intro (rfl:zrow _=some [.bool false]) ?_|refine And.intro (rfl:zrow _=some (sF1 [])) ?_|refine And.intro (rfl:zrow _=some [.str []]) ?_|refine And.intro (rfl:zrow _=some (bkF bk0)) ?_|refine And.intro (rfl:zrow _=some (hiO none)) ?_|refine And.intro (rfl:zrow _=some [.int .i64 0]) ?_|refine CallX.pure (s105 [_,_] (by simp)) ⟨SV.le_lit (by rfl) (by rfl),trivial⟩ rfl ?_|(refine br_intro ?_ ?_<;>intro hb<;>try simp only[brs]at hb)|refine rAx hT 19 oJOfF198_19 ?_|refine rAx hT 22 oJOfF198_22 ?_|refine rAx hT 11 oJOfF198_11 ?_|refine rAx hT 12 oJOfF198_12 ?_|refine rAx hT 13 oJOfF198_13 ?_|refine rAx hT 40 oJOfF198_40 ?_|omega|refine sAx ?_|decide|assumption)<;>conv=>whnf))
     all_goals try(exfalso;contradiction)
     all_goals first
      |(exfalso;have q:s.his.has (t.texts.getD 0 [])=false:=hb;rw[hh]at q;cases q)
      |(exfalso;clear cX cC cE;apply hb;simp[firstE];done)
      | (have hkf:(true)=false:=by
          clear cX cC cE
          cases kq:(true)with
          |false=>rfl
          | true=>
            exfalso;trivial
         have hE1:chE vm sm s at0 t=8:=by
          unfold chE chG;rw[if_pos hh,hv];show(if firstE [mdE g (chNext g at0 t),if(!chKn vm sm t)=true then 8 else 0]≠0 then firstE [mdE g (chNext g at0 t),if(!chKn vm sm t)=true then 8 else 0]else canL s (chEvs g at0 t))=_;rw[hN,hm,hKn,hkf];simp[firstE]
         have hS1:chS vm sm s at0 t=s:=by unfold chS;rw[if_neg (by rw[hE1];decide)]
         rw[hE1,hS1];refine .ent _ _ (Entails.mk' (ts:= [(6,.d (.int .i64 8))]) (rs:=offO h vm sm s) rq2 rfl rfl ⟨SV.le_int (by clear cX cC cE;rfl),trivial⟩ ⟨rr,rr,rr,rr,rr,rr,rr,rr,rr,rr,trivial⟩) ?_;refine .ret _ ?_;conv=>whnf
         exact⟨_,⟨rfl,rfl⟩,rr,rr,rr,rr,rr,rr,rr,rr,rr,rr,trivial⟩)
      |skip
     have hG:=hG0 (hKn.trans rfl)
     refine LoopX.rule hT (C:= []) (ι:=Nat) (fun i=>i≤EV.length∧∀j,j<i→canE s (EV.getD j ev0)=0)
      (fun i=>mkSt [(0,.ptr 1000001 0),(7,.d (.str (t.texts.getD 0 []))),(10,.ptr 10 0),(12,.d (evns EV)),(172,.d (evns EV)),(173,.d (.int .i64 EV.length)),(174,.d (.int .i64 i))] ((10,.cells 55 ((hiF N).map .d))::offR h vm sm s))
      (fun i=>EV.length - i) 0 ⟨by omega,fun j hj=>by omega⟩ ?_ ?_
     · refine Entails.mk' rq4 rfl rfl ⟨lr,lr,lr,(by subst hEVe;exact SV.le_nilS),(by subst hEVe;exact SV.le_nilS),(by subst hEVe;exact lr),lr,trivial⟩ ⟨rr,rr,rr,rr,rr,rr,rr,rr,rr,rr,rr,trivial⟩
     rintro i ⟨p1,p2⟩;have e1:(i:Int).toNat=i:=Int.toNat_natCast i;conv=>whnf
     repeat' (first|((first|(refine oAx (wCan h vm sm s (EV.getD (i:Int).toNat ev0)) rq0 ?_;rintro y rout ⟨rfl,rfl⟩;refine⟨rfl,?_⟩)|(refine And.intro (by unfold inI64;omega) ?_)|(refine br_intro ?_ ?_<;>intro hb<;>try simp only[brs]at hb)|refine rAx hT 19 oJOfF198_19 ?_|refine rAx hT 22 oJOfF198_22 ?_|refine rAx hT 11 oJOfF198_11 ?_|refine rAx hT 12 oJOfF198_12 ?_|refine rAx hT 13 oJOfF198_13 ?_|refine rAx hT 40 oJOfF198_40 ?_|omega|refine sAx ?_|decide|assumption)<;>conv=>whnf))
     all_goals first
      |(exact⟨i+1,⟨by omega,first_step p2 (by first|exact hb|simpa using hb)⟩,by omega,Entails.mk' rq4 rfl rfl ⟨lr,lr,lr,lr,lr,lr,lr,trivial⟩ ⟨rr,rr,rr,rr,rr,rr,rr,rr,rr,rr,rr,trivial⟩⟩)
      | (have hE1:chE vm sm s at0 t=canE s (EV.getD i ev0):=hG.trans (firstAt_eq (f:=fun i=>canE s (EV.getD i ev0)) (by omega) p2 hb rfl)
         have hS1:chS vm sm s at0 t=s:=by unfold chS;rw[if_neg (by rw[hE1];exact hb)]
         rw[hE1,hS1];refine .ent _ _ (Entails.mk' (ts:= [(6,.d (.int .i64 (canE s (EV.getD i ev0))))]) (rs:=offO h vm sm s) rq2 rfl rfl ⟨lr,trivial⟩ ⟨rr,rr,rr,rr,rr,rr,rr,rr,rr,rr,trivial⟩) ?_;refine .ret _ ?_;conv=>whnf
         exact⟨_,⟨rfl,rfl⟩,rr,rr,rr,rr,rr,rr,rr,rr,rr,rr,trivial⟩)
      |skip
     have hz:canL s EV=0:=firstAt_zero fun j hj=>p2 j (by omega)
     have hE0:chE vm sm s at0 t=0:=hG.trans hz
     have hS0:chS vm sm s at0 t={sayL s EV with his:=(sayL s EV).his.put (t.texts.getD 0 []) (some N)}:=by
      unfold chS;rw[if_pos hE0,hv];show({sayL s (chEvs g at0 t)with his:=(sayL s (chEvs g at0 t)).his.put (t.texts.getD 0 []) (some (chNext g at0 t))}:Off)=_;rw[hEv,hN,←hEVe,←hNe]
     rw[hE0,hS0]
     refine LoopX.rule hT (C:= []) (ι:=Nat) (fun i=>i≤EV.length)
      (fun i=>mkSt [(0,.ptr 1000001 0),(7,.d (.str (t.texts.getD 0 []))),(10,.ptr 10 0),(185,.d (evns EV)),(186,.d (.int .i64 EV.length)),(187,.d (.int .i64 i))] ((10,.cells 55 ((hiF N).map .d)):: [(1000001,offC60 h),(1000002,mpS false [.str []] sF1 vm),(1000003,mpS false [.bool false] bF1 sm),(1000004,mpS true (ssF ss0) ssF (sayL s (EV.take i)).sts),(60,evB (sayL s (EV.take i)).log),(1000006,atM (sayL s (EV.take i)).ats),(1000007,mpS true (bkF bk0) bkF (sayL s (EV.take i)).bks),(1000008,mpS true (hiO none) hiO (sayL s (EV.take i)).his),(1000010,mpS false [.int .i64 0] iF1 (sayL s (EV.take i)).paid),(1000011,rfB (sayL s (EV.take i)).ref)]))
      (fun i=>EV.length - i) 0 (by omega) ?_ ?_
     · refine Entails.mk' rq5 rfl rfl ⟨lr,lr,lr,lr,lr,lr,trivial⟩ ⟨rr,rr,rr,rr,rr,rr,rr,rr,rr,rr,rr,trivial⟩
     clear p1 p2 e1;rintro i p1;have e1:(i:Int).toNat=i:=Int.toNat_natCast i;conv=>whnf
     repeat' (first|((first|(refine oAx (wSay h vm sm (sayL s (EV.take i)) (EV.getD (i:Int).toNat ev0) (by rw[sayL_log,List.length_append,List.length_take];omega)) rq6 ?_;rintro y rout ⟨rfl,rfl⟩;refine⟨rfl,?_⟩)|(refine And.intro (by unfold inI64;omega) ?_)|(refine br_intro ?_ ?_<;>intro hb<;>try simp only[brs]at hb)|refine rAx hT 19 oJOfF198_19 ?_|refine rAx hT 22 oJOfF198_22 ?_|refine rAx hT 11 oJOfF198_11 ?_|refine rAx hT 12 oJOfF198_12 ?_|refine rAx hT 13 oJOfF198_13 ?_|refine rAx hT 40 oJOfF198_40 ?_|omega|refine sAx ?_|decide|assumption)<;>conv=>whnf))
     all_goals first
      | (refine⟨i+1,by omega,by omega,?_⟩
         have hT:=sayL_take s EV i (by omega)
         dsimp only
         rw[hT]
         exact Entails.mk' rq7 rfl rfl ⟨lr,lr,lr,lr,lr,lr,trivial⟩ ⟨rr,rr,rr,rr,rr,rr,rr,rr,rr,rr,rr,trivial⟩)
      | (have hi:EV.take i=EV:=List.take_of_length_le (by omega)
         rw[hi];refine .ent _ _ (Entails.mk' (ts:= [(6,.d (.int .i64 0))]) (rs:=offO h vm sm ({sayL s EV with his:=(sayL s EV).his.put (t.texts.getD 0 []) (some N)})) rq3 rfl rfl ⟨lr,trivial⟩ ⟨rr,rr,rr,rr,rr,rr,rr,mpS_put (v:=some N),rr,rr,trivial⟩) ?_;refine .ret _ ?_;conv=>whnf
         exact⟨_,⟨rfl,rfl⟩,rr,rr,rr,rr,rr,rr,rr,rr,rr,rr,trivial⟩)
   · have hH:mdH g (xtH g (t.nums.getD 0 0))=hi0:=if_neg hm
     have hE1:chE vm sm s at0 t=mdE g (xtH g (t.nums.getD 0 0)):=by
      unfold chE chG;rw[if_pos hh,hv];show(if firstE [mdE g (chNext g at0 t),if(!chKn vm sm t)=true then 8 else 0]≠0 then firstE [mdE g (chNext g at0 t),if(!chKn vm sm t)=true then 8 else 0]else canL s (chEvs g at0 t))=_;rw[hN];generalize mdE g (xtH g (t.nums.getD 0 0))=X at hm ⊢;simp[firstE,hm]
     have hS1:chS vm sm s at0 t=s:=by unfold chS;rw[if_neg (by rw[hE1];exact hm)]
     rw[hE1,hS1];rw[hH]at cX;clear hE1 hS1 hH hN;generalize mdE g (xtH g (t.nums.getD 0 0))=X at cX hm;refine spec_of hT (C:= []) Tryz.func198 rfl Tryz.call198 rfl rfl rfl ?_;conv=>whnf
     repeat' (first|((first|refine pAx cX ?_|refine pAx cC ?_|refine pAx cE ?_)<;>conv=>whnf)|(refine CallX.exact (s107 _ _) rfl rfl ?_;rotate_right;conv=>whnf)|((first|(refine And.intro (rfl:zrow _=some (hiO none)) ?_;refine rowSV_eq (row':=hiF g) (congrArg hiO hv) ?_)|refine And.intro (rfl:zrow _=some (ssF ss0)) ?_|refine And.intro (rfl:zrow _=some [.bool false]) ?_|refine And.intro (rfl:zrow _=some (sF1 [])) ?_|refine And.intro (rfl:zrow _=some [.str []]) ?_|refine And.intro (rfl:zrow _=some (bkF bk0)) ?_|refine And.intro (rfl:zrow _=some (hiO none)) ?_|refine And.intro (rfl:zrow _=some [.int .i64 0]) ?_|refine CallX.pure (s105 [_,_] (by simp)) ⟨SV.le_lit (by rfl) (by rfl),trivial⟩ rfl ?_|(refine br_intro ?_ ?_<;>intro hb<;>try simp only[brs]at hb)|refine rAx hT 19 oJOfF198_19 ?_|refine rAx hT 22 oJOfF198_22 ?_|refine rAx hT 11 oJOfF198_11 ?_|refine rAx hT 12 oJOfF198_12 ?_|refine rAx hT 13 oJOfF198_13 ?_|refine rAx hT 40 oJOfF198_40 ?_|omega|refine sAx ?_|decide|assumption)<;>conv=>whnf))
     all_goals try(exfalso;contradiction)
     all_goals first
      |(exfalso;have q:s.his.has (t.texts.getD 0 [])=false:=hb;rw[hh]at q;cases q)
      |(exfalso;clear cX cC cE;simp[firstE,hm]at hb;done)
      | (refine .ent _ _ (Entails.mk' (ts:= [(6,.d (.int .i64 X))]) (rs:=offO h vm sm s) rq2 rfl rfl ⟨SV.le_int (by simp[firstE,hm]),trivial⟩ ⟨rr,rr,rr,rr,rr,rr,rr,rr,rr,rr,trivial⟩) ?_
         refine .ret _ ?_;conv=>whnf
         exact⟨_,⟨rfl,rfl⟩,rr,rr,rr,rr,rr,rr,rr,rr,rr,rr,trivial⟩)
 by_cases w2:t.word= [99,108,111,115,101]
 · skip
   have hN:chNext g at0 t=clH g (chIn at0 t):=by unfold chNext;rw[if_neg w1,if_pos w2]
   have hEv:chEvs g at0 t= [⟨at0,oldV g,(t.texts.getD 1 []),3,[]⟩]:=by unfold chEvs;rw[if_neg w1,if_pos w2]
   have hKn:chKn vm sm t=sm.val (t.texts.getD 1 []):=by unfold chKn;rw[if_neg w1,if_pos w2]
   obtain⟨hc1,hc2⟩:=hc w2
   by_cases hm:mdE g (clH g (chIn at0 t))=0
   · have hH:mdH g (clH g (chIn at0 t))=clH g (chIn at0 t):=if_pos hm;rw[hH,hm]at cC;obtain⟨N,hNe⟩:∃N,N=clH g (chIn at0 t):=⟨_,rfl⟩;rw[←hNe]at cC;obtain⟨EV,hEVe⟩:∃EV,EV=([⟨at0,oldV g,(t.texts.getD 1 []),3,[]⟩]:List Evn):=⟨_,rfl⟩;have hEl:EV.length≤2:=by rw[hEVe];simp
     have hG0:chKn vm sm t=true→chE vm sm s at0 t=canL s EV:=fun kk=>by
      unfold chE chG;rw[if_pos hh,hv];show(if firstE [mdE g (chNext g at0 t),if(!chKn vm sm t)=true then 8 else 0]≠0 then firstE [mdE g (chNext g at0 t),if(!chKn vm sm t)=true then 8 else 0]else canL s (chEvs g at0 t))=_;rw[hN,hm,kk,hEv,←hEVe];rw[if_neg (by simp[firstE])]
     refine spec_of hT (C:= []) Tryz.func198 rfl Tryz.call198 rfl rfl rfl ?_;conv=>whnf
     repeat' (first|((first|refine pAx cX ?_|refine pAx cC ?_|refine pAx cE ?_)<;>conv=>whnf)|(refine CallX.exact (s107 _ _) rfl rfl ?_;rotate_right;conv=>whnf)|((first|(refine And.intro (rfl:zrow _=some (hiO none)) ?_;refine rowSV_eq (row':=hiF g) (congrArg hiO hv) ?_)|refine And.intro (rfl:zrow _=some (ssF ss0)) ?_|refine And.intro (rfl:zrow _=some [.bool false]) ?_|refine And.intro (rfl:zrow _=some (sF1 [])) ?_|refine And.intro (rfl:zrow _=some [.str []]) ?_|refine And.intro (rfl:zrow _=some (bkF bk0)) ?_|refine And.intro (rfl:zrow _=some (hiO none)) ?_|refine And.intro (rfl:zrow _=some [.int .i64 0]) ?_|refine CallX.pure (s105 [_,_] (by simp)) ⟨SV.le_lit (by rfl) (by rfl),trivial⟩ rfl ?_|(refine br_intro ?_ ?_<;>intro hb<;>try simp only[brs]at hb)|refine rAx hT 19 oJOfF198_19 ?_|refine rAx hT 22 oJOfF198_22 ?_|refine rAx hT 11 oJOfF198_11 ?_|refine rAx hT 12 oJOfF198_12 ?_|refine rAx hT 13 oJOfF198_13 ?_|refine rAx hT 40 oJOfF198_40 ?_|omega|refine sAx ?_|decide|assumption)<;>conv=>whnf))
     all_goals try(exfalso;contradiction)
     all_goals first
      |(exfalso;have q:s.his.has (t.texts.getD 0 [])=false:=hb;rw[hh]at q;cases q)
      |(exfalso;clear cX cC cE;apply hb;simp[firstE];done)
      | (have hkf:(sm.val (t.texts.getD 1 []))=false:=by
          clear cX cC cE
          cases kq:(sm.val (t.texts.getD 1 []))with
          |false=>rfl
          | true=>
            exfalso;exact hb (by show firstE [0,if sm.val (t.texts.getD 1 [])=false then 8 else 0]=0;rw[kq];rfl)
         have hE1:chE vm sm s at0 t=8:=by
          unfold chE chG;rw[if_pos hh,hv];show(if firstE [mdE g (chNext g at0 t),if(!chKn vm sm t)=true then 8 else 0]≠0 then firstE [mdE g (chNext g at0 t),if(!chKn vm sm t)=true then 8 else 0]else canL s (chEvs g at0 t))=_;rw[hN,hm,hKn,hkf];simp[firstE]
         have hS1:chS vm sm s at0 t=s:=by unfold chS;rw[if_neg (by rw[hE1];decide)]
         rw[hE1,hS1];refine .ent _ _ (Entails.mk' (ts:= [(6,.d (.int .i64 8))]) (rs:=offO h vm sm s) rq2 rfl rfl ⟨SV.le_int (by clear cX cC cE;show firstE [0,if(!sm.val (t.texts.getD 1 []))=true then 8 else 0]=8;rw[hkf];rfl),trivial⟩ ⟨rr,rr,rr,rr,rr,rr,rr,rr,rr,rr,trivial⟩) ?_;refine .ret _ ?_;conv=>whnf
         exact⟨_,⟨rfl,rfl⟩,rr,rr,rr,rr,rr,rr,rr,rr,rr,rr,trivial⟩)
      |skip
     have hG:=hG0 (hKn.trans (by cases kq:sm.val (t.texts.getD 1 [])with|true=>rfl|false=>exact absurd (show firstE [0,if sm.val (t.texts.getD 1 [])=false then 8 else 0]=0 from hb) (by rw[kq];decide)))
     refine LoopX.rule hT (C:= []) (ι:=Nat) (fun i=>i≤EV.length∧∀j,j<i→canE s (EV.getD j ev0)=0)
      (fun i=>mkSt [(0,.ptr 1000001 0),(7,.d (.str (t.texts.getD 0 []))),(10,.ptr 10 0),(12,.d (evns EV)),(172,.d (evns EV)),(173,.d (.int .i64 EV.length)),(174,.d (.int .i64 i))] ((10,.cells 55 ((hiF N).map .d))::offR h vm sm s))
      (fun i=>EV.length - i) 0 ⟨by omega,fun j hj=>by omega⟩ ?_ ?_
     · refine Entails.mk' rq4 rfl rfl ⟨lr,lr,lr,(by subst hEVe;exact SV.le_lit rfl rfl),(by subst hEVe;exact SV.le_lit rfl rfl),(by subst hEVe;exact lr),lr,trivial⟩ ⟨rr,rr,rr,rr,rr,rr,rr,rr,rr,rr,rr,trivial⟩
     rintro i ⟨p1,p2⟩;have e1:(i:Int).toNat=i:=Int.toNat_natCast i;conv=>whnf
     repeat' (first|((first|(refine oAx (wCan h vm sm s (EV.getD (i:Int).toNat ev0)) rq0 ?_;rintro y rout ⟨rfl,rfl⟩;refine⟨rfl,?_⟩)|(refine And.intro (by unfold inI64;omega) ?_)|(refine br_intro ?_ ?_<;>intro hb<;>try simp only[brs]at hb)|refine rAx hT 19 oJOfF198_19 ?_|refine rAx hT 22 oJOfF198_22 ?_|refine rAx hT 11 oJOfF198_11 ?_|refine rAx hT 12 oJOfF198_12 ?_|refine rAx hT 13 oJOfF198_13 ?_|refine rAx hT 40 oJOfF198_40 ?_|omega|refine sAx ?_|decide|assumption)<;>conv=>whnf))
     all_goals first
      |(exact⟨i+1,⟨by omega,first_step p2 (by first|exact hb|simpa using hb)⟩,by omega,Entails.mk' rq4 rfl rfl ⟨lr,lr,lr,lr,lr,lr,lr,trivial⟩ ⟨rr,rr,rr,rr,rr,rr,rr,rr,rr,rr,rr,trivial⟩⟩)
      | (have hE1:chE vm sm s at0 t=canE s (EV.getD i ev0):=hG.trans (firstAt_eq (f:=fun i=>canE s (EV.getD i ev0)) (by omega) p2 hb rfl)
         have hS1:chS vm sm s at0 t=s:=by unfold chS;rw[if_neg (by rw[hE1];exact hb)]
         rw[hE1,hS1];refine .ent _ _ (Entails.mk' (ts:= [(6,.d (.int .i64 (canE s (EV.getD i ev0))))]) (rs:=offO h vm sm s) rq2 rfl rfl ⟨lr,trivial⟩ ⟨rr,rr,rr,rr,rr,rr,rr,rr,rr,rr,trivial⟩) ?_;refine .ret _ ?_;conv=>whnf
         exact⟨_,⟨rfl,rfl⟩,rr,rr,rr,rr,rr,rr,rr,rr,rr,rr,trivial⟩)
      |skip
     have hz:canL s EV=0:=firstAt_zero fun j hj=>p2 j (by omega)
     have hE0:chE vm sm s at0 t=0:=hG.trans hz
     have hS0:chS vm sm s at0 t={sayL s EV with his:=(sayL s EV).his.put (t.texts.getD 0 []) (some N)}:=by
      unfold chS;rw[if_pos hE0,hv];show({sayL s (chEvs g at0 t)with his:=(sayL s (chEvs g at0 t)).his.put (t.texts.getD 0 []) (some (chNext g at0 t))}:Off)=_;rw[hEv,hN,←hEVe,←hNe]
     rw[hE0,hS0]
     refine LoopX.rule hT (C:= []) (ι:=Nat) (fun i=>i≤EV.length)
      (fun i=>mkSt [(0,.ptr 1000001 0),(7,.d (.str (t.texts.getD 0 []))),(10,.ptr 10 0),(185,.d (evns EV)),(186,.d (.int .i64 EV.length)),(187,.d (.int .i64 i))] ((10,.cells 55 ((hiF N).map .d)):: [(1000001,offC60 h),(1000002,mpS false [.str []] sF1 vm),(1000003,mpS false [.bool false] bF1 sm),(1000004,mpS true (ssF ss0) ssF (sayL s (EV.take i)).sts),(60,evB (sayL s (EV.take i)).log),(1000006,atM (sayL s (EV.take i)).ats),(1000007,mpS true (bkF bk0) bkF (sayL s (EV.take i)).bks),(1000008,mpS true (hiO none) hiO (sayL s (EV.take i)).his),(1000010,mpS false [.int .i64 0] iF1 (sayL s (EV.take i)).paid),(1000011,rfB (sayL s (EV.take i)).ref)]))
      (fun i=>EV.length - i) 0 (by omega) ?_ ?_
     · refine Entails.mk' rq5 rfl rfl ⟨lr,lr,lr,lr,lr,lr,trivial⟩ ⟨rr,rr,rr,rr,rr,rr,rr,rr,rr,rr,rr,trivial⟩
     clear p1 p2 e1;rintro i p1;have e1:(i:Int).toNat=i:=Int.toNat_natCast i;conv=>whnf
     repeat' (first|((first|(refine oAx (wSay h vm sm (sayL s (EV.take i)) (EV.getD (i:Int).toNat ev0) (by rw[sayL_log,List.length_append,List.length_take];omega)) rq6 ?_;rintro y rout ⟨rfl,rfl⟩;refine⟨rfl,?_⟩)|(refine And.intro (by unfold inI64;omega) ?_)|(refine br_intro ?_ ?_<;>intro hb<;>try simp only[brs]at hb)|refine rAx hT 19 oJOfF198_19 ?_|refine rAx hT 22 oJOfF198_22 ?_|refine rAx hT 11 oJOfF198_11 ?_|refine rAx hT 12 oJOfF198_12 ?_|refine rAx hT 13 oJOfF198_13 ?_|refine rAx hT 40 oJOfF198_40 ?_|omega|refine sAx ?_|decide|assumption)<;>conv=>whnf))
     all_goals first
      | (refine⟨i+1,by omega,by omega,?_⟩
         have hT:=sayL_take s EV i (by omega)
         dsimp only
         rw[hT]
         exact Entails.mk' rq7 rfl rfl ⟨lr,lr,lr,lr,lr,lr,trivial⟩ ⟨rr,rr,rr,rr,rr,rr,rr,rr,rr,rr,rr,trivial⟩)
      | (have hi:EV.take i=EV:=List.take_of_length_le (by omega)
         rw[hi];refine .ent _ _ (Entails.mk' (ts:= [(6,.d (.int .i64 0))]) (rs:=offO h vm sm ({sayL s EV with his:=(sayL s EV).his.put (t.texts.getD 0 []) (some N)})) rq3 rfl rfl ⟨lr,trivial⟩ ⟨rr,rr,rr,rr,rr,rr,rr,mpS_put (v:=some N),rr,rr,trivial⟩) ?_;refine .ret _ ?_;conv=>whnf
         exact⟨_,⟨rfl,rfl⟩,rr,rr,rr,rr,rr,rr,rr,rr,rr,rr,trivial⟩)
   · have hH:mdH g (clH g (chIn at0 t))=hi0:=if_neg hm
     have hE1:chE vm sm s at0 t=mdE g (clH g (chIn at0 t)):=by
      unfold chE chG;rw[if_pos hh,hv];show(if firstE [mdE g (chNext g at0 t),if(!chKn vm sm t)=true then 8 else 0]≠0 then firstE [mdE g (chNext g at0 t),if(!chKn vm sm t)=true then 8 else 0]else canL s (chEvs g at0 t))=_;rw[hN];generalize mdE g (clH g (chIn at0 t))=X at hm ⊢;simp[firstE,hm]
     have hS1:chS vm sm s at0 t=s:=by unfold chS;rw[if_neg (by rw[hE1];exact hm)]
     rw[hE1,hS1];rw[hH]at cC;clear hE1 hS1 hH hN;generalize mdE g (clH g (chIn at0 t))=X at cC hm;refine spec_of hT (C:= []) Tryz.func198 rfl Tryz.call198 rfl rfl rfl ?_;conv=>whnf
     repeat' (first|((first|refine pAx cX ?_|refine pAx cC ?_|refine pAx cE ?_)<;>conv=>whnf)|(refine CallX.exact (s107 _ _) rfl rfl ?_;rotate_right;conv=>whnf)|((first|(refine And.intro (rfl:zrow _=some (hiO none)) ?_;refine rowSV_eq (row':=hiF g) (congrArg hiO hv) ?_)|refine And.intro (rfl:zrow _=some (ssF ss0)) ?_|refine And.intro (rfl:zrow _=some [.bool false]) ?_|refine And.intro (rfl:zrow _=some (sF1 [])) ?_|refine And.intro (rfl:zrow _=some [.str []]) ?_|refine And.intro (rfl:zrow _=some (bkF bk0)) ?_|refine And.intro (rfl:zrow _=some (hiO none)) ?_|refine And.intro (rfl:zrow _=some [.int .i64 0]) ?_|refine CallX.pure (s105 [_,_] (by simp)) ⟨SV.le_lit (by rfl) (by rfl),trivial⟩ rfl ?_|(refine br_intro ?_ ?_<;>intro hb<;>try simp only[brs]at hb)|refine rAx hT 19 oJOfF198_19 ?_|refine rAx hT 22 oJOfF198_22 ?_|refine rAx hT 11 oJOfF198_11 ?_|refine rAx hT 12 oJOfF198_12 ?_|refine rAx hT 13 oJOfF198_13 ?_|refine rAx hT 40 oJOfF198_40 ?_|omega|refine sAx ?_|decide|assumption)<;>conv=>whnf))
     all_goals try(exfalso;contradiction)
     all_goals first
      |(exfalso;have q:s.his.has (t.texts.getD 0 [])=false:=hb;rw[hh]at q;cases q)
      |(exfalso;clear cX cC cE;simp[firstE,hm]at hb;done)
      | (refine .ent _ _ (Entails.mk' (ts:= [(6,.d (.int .i64 X))]) (rs:=offO h vm sm s) rq2 rfl rfl ⟨SV.le_int (by simp[firstE,hm]),trivial⟩ ⟨rr,rr,rr,rr,rr,rr,rr,rr,rr,rr,trivial⟩) ?_
         refine .ret _ ?_;conv=>whnf
         exact⟨_,⟨rfl,rfl⟩,rr,rr,rr,rr,rr,rr,rr,rr,rr,rr,trivial⟩)
 · skip
   have hN:chNext g at0 t=exH g (chIn at0 t) (t.texts.getD 2 []) (chOut at0 t):=by unfold chNext;rw[if_neg w1,if_neg w2]
   have hEv:chEvs g at0 t= [⟨at0,oldV g,(t.texts.getD 1 []),3,[]⟩,⟨at0,(t.texts.getD 2 []),(t.texts.getD 1 []),2,[]⟩]:=by unfold chEvs;rw[if_neg w1,if_neg w2]
   have hKn:chKn vm sm t=(sm.val (t.texts.getD 1 [])&&vm.has (t.texts.getD 2 [])):=by unfold chKn;rw[if_neg w1,if_neg w2]
   obtain⟨hs1,hs2⟩:=hs w1 w2
   by_cases hm:mdE g (exH g (chIn at0 t) (t.texts.getD 2 []) (chOut at0 t))=0
   · have hH:mdH g (exH g (chIn at0 t) (t.texts.getD 2 []) (chOut at0 t))=exH g (chIn at0 t) (t.texts.getD 2 []) (chOut at0 t):=if_pos hm;rw[hH,hm]at cE;obtain⟨N,hNe⟩:∃N,N=exH g (chIn at0 t) (t.texts.getD 2 []) (chOut at0 t):=⟨_,rfl⟩;rw[←hNe]at cE;obtain⟨EV,hEVe⟩:∃EV,EV=([⟨at0,oldV g,(t.texts.getD 1 []),3,[]⟩,⟨at0,(t.texts.getD 2 []),(t.texts.getD 1 []),2,[]⟩]:List Evn):=⟨_,rfl⟩;have hEl:EV.length≤2:=by rw[hEVe];simp
     have hG0:chKn vm sm t=true→chE vm sm s at0 t=canL s EV:=fun kk=>by
      unfold chE chG;rw[if_pos hh,hv];show(if firstE [mdE g (chNext g at0 t),if(!chKn vm sm t)=true then 8 else 0]≠0 then firstE [mdE g (chNext g at0 t),if(!chKn vm sm t)=true then 8 else 0]else canL s (chEvs g at0 t))=_;rw[hN,hm,kk,hEv,←hEVe];rw[if_neg (by simp[firstE])]
     refine spec_of hT (C:= []) Tryz.func198 rfl Tryz.call198 rfl rfl rfl ?_;conv=>whnf
     repeat' (first|((first|refine pAx cX ?_|refine pAx cC ?_|refine pAx cE ?_)<;>conv=>whnf)|(refine CallX.exact (s107 _ _) rfl rfl ?_;rotate_right;conv=>whnf)|((first|(refine And.intro (rfl:zrow _=some (hiO none)) ?_;refine rowSV_eq (row':=hiF g) (congrArg hiO hv) ?_)|refine And.intro (rfl:zrow _=some (ssF ss0)) ?_|refine And.intro (rfl:zrow _=some [.bool false]) ?_|refine And.intro (rfl:zrow _=some (sF1 [])) ?_|refine And.intro (rfl:zrow _=some [.str []]) ?_|refine And.intro (rfl:zrow _=some (bkF bk0)) ?_|refine And.intro (rfl:zrow _=some (hiO none)) ?_|refine And.intro (rfl:zrow _=some [.int .i64 0]) ?_|refine CallX.pure (s105 [_,_] (by simp)) ⟨SV.le_lit (by rfl) (by rfl),trivial⟩ rfl ?_|(refine br_intro ?_ ?_<;>intro hb<;>try simp only[brs]at hb)|refine rAx hT 19 oJOfF198_19 ?_|refine rAx hT 22 oJOfF198_22 ?_|refine rAx hT 11 oJOfF198_11 ?_|refine rAx hT 12 oJOfF198_12 ?_|refine rAx hT 13 oJOfF198_13 ?_|refine rAx hT 40 oJOfF198_40 ?_|omega|refine sAx ?_|decide|assumption)<;>conv=>whnf))
     all_goals try(exfalso;contradiction)
     all_goals first
      |(exfalso;have q:s.his.has (t.texts.getD 0 [])=false:=hb;rw[hh]at q;cases q)
      |(exfalso;clear cX cC cE;apply hb;simp[firstE];done)
      | (have hkf:((sm.val (t.texts.getD 1 [])&&vm.has (t.texts.getD 2 [])))=false:=by
          clear cX cC cE
          cases kq:((sm.val (t.texts.getD 1 [])&&vm.has (t.texts.getD 2 [])))with
          |false=>rfl
          | true=>
            exfalso
            (clear hc hs hx h3 hm hH;(try simp only[keyE,show Int.toNat 1=1 from rfl,show Int.toNat 2=2 from rfl]at*);first|(simp_all [firstE];done)|grind [firstE])
         have hE1:chE vm sm s at0 t=8:=by
          unfold chE chG;rw[if_pos hh,hv];show(if firstE [mdE g (chNext g at0 t),if(!chKn vm sm t)=true then 8 else 0]≠0 then firstE [mdE g (chNext g at0 t),if(!chKn vm sm t)=true then 8 else 0]else canL s (chEvs g at0 t))=_;rw[hN,hm,hKn,hkf];simp[firstE]
         have hS1:chS vm sm s at0 t=s:=by unfold chS;rw[if_neg (by rw[hE1];decide)]
         rw[hE1,hS1];refine .ent _ _ (Entails.mk' (ts:= [(6,.d (.int .i64 8))]) (rs:=offO h vm sm s) rq2 rfl rfl ⟨SV.le_int (by clear cX cC cE;clear hc hs hx h3 hm hH;(try simp only[keyE,show Int.toNat 1=1 from rfl,show Int.toNat 2=2 from rfl]at*);first|(simp_all [firstE];done)|grind [firstE]),trivial⟩ ⟨rr,rr,rr,rr,rr,rr,rr,rr,rr,rr,trivial⟩) ?_;refine .ret _ ?_;conv=>whnf
         exact⟨_,⟨rfl,rfl⟩,rr,rr,rr,rr,rr,rr,rr,rr,rr,rr,trivial⟩)
      |skip
     have hG:=hG0 (hKn.trans (by clear hc hs hx h3 hm hH hG0 cX cC cE;(try simp only[keyE,show Int.toNat 1=1 from rfl,show Int.toNat 2=2 from rfl]at*);first|(simp_all [firstE];done)|grind [firstE]))
     refine LoopX.rule hT (C:= []) (ι:=Nat) (fun i=>i≤EV.length∧∀j,j<i→canE s (EV.getD j ev0)=0)
      (fun i=>mkSt [(0,.ptr 1000001 0),(7,.d (.str (t.texts.getD 0 []))),(10,.ptr 10 0),(12,.d (evns EV)),(172,.d (evns EV)),(173,.d (.int .i64 EV.length)),(174,.d (.int .i64 i))] ((10,.cells 55 ((hiF N).map .d))::offR h vm sm s))
      (fun i=>EV.length - i) 0 ⟨by omega,fun j hj=>by omega⟩ ?_ ?_
     · refine Entails.mk' rq4 rfl rfl ⟨lr,lr,lr,(by subst hEVe;exact SV.le_lit rfl rfl),(by subst hEVe;exact SV.le_lit rfl rfl),(by subst hEVe;exact lr),lr,trivial⟩ ⟨rr,rr,rr,rr,rr,rr,rr,rr,rr,rr,rr,trivial⟩
     rintro i ⟨p1,p2⟩;have e1:(i:Int).toNat=i:=Int.toNat_natCast i;conv=>whnf
     repeat' (first|((first|(refine oAx (wCan h vm sm s (EV.getD (i:Int).toNat ev0)) rq0 ?_;rintro y rout ⟨rfl,rfl⟩;refine⟨rfl,?_⟩)|(refine And.intro (by unfold inI64;omega) ?_)|(refine br_intro ?_ ?_<;>intro hb<;>try simp only[brs]at hb)|refine rAx hT 19 oJOfF198_19 ?_|refine rAx hT 22 oJOfF198_22 ?_|refine rAx hT 11 oJOfF198_11 ?_|refine rAx hT 12 oJOfF198_12 ?_|refine rAx hT 13 oJOfF198_13 ?_|refine rAx hT 40 oJOfF198_40 ?_|omega|refine sAx ?_|decide|assumption)<;>conv=>whnf))
     all_goals first
      |(exact⟨i+1,⟨by omega,first_step p2 (by first|exact hb|simpa using hb)⟩,by omega,Entails.mk' rq4 rfl rfl ⟨lr,lr,lr,lr,lr,lr,lr,trivial⟩ ⟨rr,rr,rr,rr,rr,rr,rr,rr,rr,rr,rr,trivial⟩⟩)
      | (have hE1:chE vm sm s at0 t=canE s (EV.getD i ev0):=hG.trans (firstAt_eq (f:=fun i=>canE s (EV.getD i ev0)) (by omega) p2 hb rfl)
         have hS1:chS vm sm s at0 t=s:=by unfold chS;rw[if_neg (by rw[hE1];exact hb)]
         rw[hE1,hS1];refine .ent _ _ (Entails.mk' (ts:= [(6,.d (.int .i64 (canE s (EV.getD i ev0))))]) (rs:=offO h vm sm s) rq2 rfl rfl ⟨lr,trivial⟩ ⟨rr,rr,rr,rr,rr,rr,rr,rr,rr,rr,trivial⟩) ?_;refine .ret _ ?_;conv=>whnf
         exact⟨_,⟨rfl,rfl⟩,rr,rr,rr,rr,rr,rr,rr,rr,rr,rr,trivial⟩)
      |skip
     have hz:canL s EV=0:=firstAt_zero fun j hj=>p2 j (by omega)
     have hE0:chE vm sm s at0 t=0:=hG.trans hz
     have hS0:chS vm sm s at0 t={sayL s EV with his:=(sayL s EV).his.put (t.texts.getD 0 []) (some N)}:=by
      unfold chS;rw[if_pos hE0,hv];show({sayL s (chEvs g at0 t)with his:=(sayL s (chEvs g at0 t)).his.put (t.texts.getD 0 []) (some (chNext g at0 t))}:Off)=_;rw[hEv,hN,←hEVe,←hNe]
     rw[hE0,hS0]
     refine LoopX.rule hT (C:= []) (ι:=Nat) (fun i=>i≤EV.length)
      (fun i=>mkSt [(0,.ptr 1000001 0),(7,.d (.str (t.texts.getD 0 []))),(10,.ptr 10 0),(185,.d (evns EV)),(186,.d (.int .i64 EV.length)),(187,.d (.int .i64 i))] ((10,.cells 55 ((hiF N).map .d)):: [(1000001,offC60 h),(1000002,mpS false [.str []] sF1 vm),(1000003,mpS false [.bool false] bF1 sm),(1000004,mpS true (ssF ss0) ssF (sayL s (EV.take i)).sts),(60,evB (sayL s (EV.take i)).log),(1000006,atM (sayL s (EV.take i)).ats),(1000007,mpS true (bkF bk0) bkF (sayL s (EV.take i)).bks),(1000008,mpS true (hiO none) hiO (sayL s (EV.take i)).his),(1000010,mpS false [.int .i64 0] iF1 (sayL s (EV.take i)).paid),(1000011,rfB (sayL s (EV.take i)).ref)]))
      (fun i=>EV.length - i) 0 (by omega) ?_ ?_
     · refine Entails.mk' rq5 rfl rfl ⟨lr,lr,lr,lr,lr,lr,trivial⟩ ⟨rr,rr,rr,rr,rr,rr,rr,rr,rr,rr,rr,trivial⟩
     clear p1 p2 e1;rintro i p1;have e1:(i:Int).toNat=i:=Int.toNat_natCast i;conv=>whnf
     repeat' (first|((first|(refine oAx (wSay h vm sm (sayL s (EV.take i)) (EV.getD (i:Int).toNat ev0) (by rw[sayL_log,List.length_append,List.length_take];omega)) rq6 ?_;rintro y rout ⟨rfl,rfl⟩;refine⟨rfl,?_⟩)|(refine And.intro (by unfold inI64;omega) ?_)|(refine br_intro ?_ ?_<;>intro hb<;>try simp only[brs]at hb)|refine rAx hT 19 oJOfF198_19 ?_|refine rAx hT 22 oJOfF198_22 ?_|refine rAx hT 11 oJOfF198_11 ?_|refine rAx hT 12 oJOfF198_12 ?_|refine rAx hT 13 oJOfF198_13 ?_|refine rAx hT 40 oJOfF198_40 ?_|omega|refine sAx ?_|decide|assumption)<;>conv=>whnf))
     all_goals first
      | (refine⟨i+1,by omega,by omega,?_⟩
         have hT:=sayL_take s EV i (by omega)
         dsimp only
         rw[hT]
         exact Entails.mk' rq7 rfl rfl ⟨lr,lr,lr,lr,lr,lr,trivial⟩ ⟨rr,rr,rr,rr,rr,rr,rr,rr,rr,rr,rr,trivial⟩)
      | (have hi:EV.take i=EV:=List.take_of_length_le (by omega)
         rw[hi];refine .ent _ _ (Entails.mk' (ts:= [(6,.d (.int .i64 0))]) (rs:=offO h vm sm ({sayL s EV with his:=(sayL s EV).his.put (t.texts.getD 0 []) (some N)})) rq3 rfl rfl ⟨lr,trivial⟩ ⟨rr,rr,rr,rr,rr,rr,rr,mpS_put (v:=some N),rr,rr,trivial⟩) ?_;refine .ret _ ?_;conv=>whnf
         exact⟨_,⟨rfl,rfl⟩,rr,rr,rr,rr,rr,rr,rr,rr,rr,rr,trivial⟩)
   · have hH:mdH g (exH g (chIn at0 t) (t.texts.getD 2 []) (chOut at0 t))=hi0:=if_neg hm
     have hE1:chE vm sm s at0 t=mdE g (exH g (chIn at0 t) (t.texts.getD 2 []) (chOut at0 t)):=by
      unfold chE chG;rw[if_pos hh,hv];show(if firstE [mdE g (chNext g at0 t),if(!chKn vm sm t)=true then 8 else 0]≠0 then firstE [mdE g (chNext g at0 t),if(!chKn vm sm t)=true then 8 else 0]else canL s (chEvs g at0 t))=_;rw[hN];generalize mdE g (exH g (chIn at0 t) (t.texts.getD 2 []) (chOut at0 t))=X at hm ⊢;simp[firstE,hm]
     have hS1:chS vm sm s at0 t=s:=by unfold chS;rw[if_neg (by rw[hE1];exact hm)]
     rw[hE1,hS1];rw[hH]at cE;clear hE1 hS1 hH hN;generalize mdE g (exH g (chIn at0 t) (t.texts.getD 2 []) (chOut at0 t))=X at cE hm;refine spec_of hT (C:= []) Tryz.func198 rfl Tryz.call198 rfl rfl rfl ?_;conv=>whnf
     repeat' (first|((first|refine pAx cX ?_|refine pAx cC ?_|refine pAx cE ?_)<;>conv=>whnf)|(refine CallX.exact (s107 _ _) rfl rfl ?_;rotate_right;conv=>whnf)|((first|(refine And.intro (rfl:zrow _=some (hiO none)) ?_;refine rowSV_eq (row':=hiF g) (congrArg hiO hv) ?_)|refine And.intro (rfl:zrow _=some (ssF ss0)) ?_|refine And.intro (rfl:zrow _=some [.bool false]) ?_|refine And.intro (rfl:zrow _=some (sF1 [])) ?_|refine And.intro (rfl:zrow _=some [.str []]) ?_|refine And.intro (rfl:zrow _=some (bkF bk0)) ?_|refine And.intro (rfl:zrow _=some (hiO none)) ?_|refine And.intro (rfl:zrow _=some [.int .i64 0]) ?_|refine CallX.pure (s105 [_,_] (by simp)) ⟨SV.le_lit (by rfl) (by rfl),trivial⟩ rfl ?_|(refine br_intro ?_ ?_<;>intro hb<;>try simp only[brs]at hb)|refine rAx hT 19 oJOfF198_19 ?_|refine rAx hT 22 oJOfF198_22 ?_|refine rAx hT 11 oJOfF198_11 ?_|refine rAx hT 12 oJOfF198_12 ?_|refine rAx hT 13 oJOfF198_13 ?_|refine rAx hT 40 oJOfF198_40 ?_|omega|refine sAx ?_|decide|assumption)<;>conv=>whnf))
     all_goals try(exfalso;contradiction)
     all_goals first
      |(exfalso;have q:s.his.has (t.texts.getD 0 [])=false:=hb;rw[hh]at q;cases q)
      |(exfalso;clear cX cC cE;simp[firstE,hm]at hb;done)
      | (refine .ent _ _ (Entails.mk' (ts:= [(6,.d (.int .i64 X))]) (rs:=offO h vm sm s) rq2 rfl rfl ⟨SV.le_int (by simp[firstE,hm]),trivial⟩ ⟨rr,rr,rr,rr,rr,rr,rr,rr,rr,rr,trivial⟩) ?_
         refine .ret _ ?_;conv=>whnf
         exact⟨_,⟨rfl,rfl⟩,rr,rr,rr,rr,rr,rr,rr,rr,rr,rr,trivial⟩)
def oJOfG152_1:OL:= [(0,[]),(1,[]),(7,[0,1]),(2,[0,1,7]),(3,[7]),(4,[7]),(5,[7]),(6,[7,5]),(8,[6]),(9,[])]
def oJOfG152_4:OL:= [(1,[]),(2,[]),(0,[1,2]),(3,[]),(4,[]),(5,[]),(6,[5]),(7,[6]),(8,[])]
def oJOfG152_6:OL:= [(0,[]),(1,[]),(2,[0,1]),(3,[0,1]),(4,[0,1]),(5,[0,1]),(6,rg 6),(7,rg 6),(8,rg 6),(9,rg 6),(10,rg 10),(11,[]),(12,rg 12),(13,[])]
def oJOfG152_12:OL:= [(0,[]),(1,[0]),(2,[0]),(3,[0]),(4,[0]),(5,rg 5),(6,rg 5),(7,rg 5),(8,rg 5),(9,rg 9),(10,rg 9),(11,rg 9),(12,rg 9),(13,rg 13),(14,rg 13),(15,rg 13),(16,rg 13),(17,rg 9),(18,rg 18),(19,rg 18),(20,rg 20),(21,rg 20),(22,rg 20),(23,rg 20),(24,[0]),(25,[]),(26,[])]
def oJOfG152_14:OL:= [(0,[]),(1,[]),(2,[]),(3,[]),(4,rg 4),(5,rg 4),(6,rg 4),(7,rg 4),(8,[]),(9,[]),(10,[]),(11,[10]),(12,rg 12),(13,[11]),(14,[])]
def oJOfG152_17:OL:= [(0,[]),(1,[]),(2,[]),(3,[]),(4,rg 4),(5,rg 4),(6,rg 4),(7,rg 4),(8,[])]
def oJOfG152_22:OL:= [(0,[]),(1,[0]),(2,[0]),(3,[0]),(4,[0]),(5,rg 5),(6,rg 5),(7,rg 5),(8,rg 5),(9,[]),(10,[])]
structure offOk (s:Off):Prop where
 log:s.log.length≤2^18
 paid:∀k,-2^40≤s.paid.val k∧s.paid.val k≤2^40
 fb:few s.bks.has
 fh:few s.his.has
 non:∀k,s.his.has k=false→s.his.val k=none
 his:∀k,s.his.has k=true→∃g,s.his.val k=some g∧hiL g∧1≤g.legs.length∧g.legs.length<2^19
theorem wFollow0 (h:Hou)(vm:Mp (List UInt8))(sm:Mp Bool)(s:Off)(x:Ent)(hx:x.words.length≤2^20)(hf:∀k,(formsM.val k).length≤2^20)(ht:telOk formsM x.words=false):
 FSpec Tryz.prog 152 [.ptr 1000001 0,.agg ((enF x).map .d)] ((1000009,KX)::offR h vm sm s) (fun y r=>y= .d (.int .i64 9)∧r=(1000009,KX)::offO h vm sm s):=by
 have c1:=wTell formsM hf x.words hx;rw[ht]at c1;refine spec_of hT (C:= []) Tryz.func152 rfl Tryz.call152 rfl rfl rfl ?_;conv=>whnf
 repeat' (first|((first|(refine oAx wForms [(1,20)] ?_;rintro y rout ⟨rfl,rfl⟩;refine⟨rfl,?_⟩)|(refine oAx c1 [(1000001,20),(1000009,1000009)] ?_;rintro y rout ⟨rfl,rfl⟩;refine⟨rfl,?_⟩)|(refine br_intro ?_ ?_<;>intro hb<;>try simp only[brs]at hb)|refine rAx hT 1 oJOfG152_1 ?_|refine rAx hT 4 oJOfG152_4 ?_|refine rAx hT 6 oJOfG152_6 ?_|refine rAx hT 12 oJOfG152_12 ?_|refine rAx hT 14 oJOfG152_14 ?_|refine rAx hT 17 oJOfG152_17 ?_|refine rAx hT 22 oJOfG152_22 ?_|omega|refine sAx ?_|decide|assumption)<;>conv=>whnf))
 refine .ent _ _ (Entails.mk' (ts:= [(4,.d (.int .i64 9))]) (rs:=(1000009,KX)::offO h vm sm s) rq8 rfl rfl ⟨lr,trivial⟩ ⟨rr,rr,rr,rr,rr,rr,rr,rr,rr,rr,rr,trivial⟩) ?_;refine .ret _ ?_;conv=>whnf
 exact⟨_,⟨rfl,rfl⟩,rr,rr,rr,rr,rr,rr,rr,rr,rr,rr,rr,trivial⟩
structure tolL (t:Tol):Prop where
 tx:∀j,(t.texts.getD j []).length≤2^20
 nm:∀j,-10^9≤t.nums.getD j 0∧t.nums.getD j 0≤10^9
 ev:kindsM.has t.word=true→2≤t.texts.length
 lv:kindsM.has t.word=true→kindsM.val t.word=6→3≤t.texts.length
 bk:t.word= [98,111,111,107]→2≤t.texts.length∧3≤t.nums.length
 cn:t.word= [99,97,110,99,101,108]→1≤t.texts.length
 st:t.word= [115,116,97,114,116]→4≤t.texts.length∧3≤t.nums.length
 py:t.word= [112,97,121]→1≤t.texts.length∧1≤t.nums.length
 ch:kindsM.has t.word=false→t.word≠ [98,111,111,107]→t.word≠ [99,97,110,99,101,108]→t.word≠ [115,116,97,114,116]→t.word≠ [112,97,121]→1≤t.texts.length∧(t.word= [101,120,116,101,110,100]→1≤t.nums.length)∧(t.word= [99,108,111,115,101]→2≤t.texts.length∧2≤t.nums.length)∧(t.word≠ [101,120,116,101,110,100]→t.word≠ [99,108,111,115,101]→3≤t.texts.length∧4≤t.nums.length)
def evOf (tm:Int)(t:Tol):Evn:=⟨tm,t.texts.getD 0 [],t.texts.getD 1 [],kindsM.val t.word,if kindsM.val t.word=6 then t.texts.getD 2 []else []⟩
set_option maxHeartbeats 4000000 in
theorem wFollowE (h:Hou)(vm:Mp (List UInt8))(sm:Mp Bool)(s:Off)(hs:offOk s)(x:Ent)(hx:x.words.length≤2^20)(hf:∀k,(formsM.val k).length≤2^20)(ht:telOk formsM x.words=true)(t:Tol)(hte:telT formsM x.words=t)(hk:tolL t)(hk1:kindsM.has t.word=true):
 FSpec Tryz.prog 152 [.ptr 1000001 0,.agg ((enF x).map .d)] ((1000009,KX)::offR h vm sm s) (fun y r=>y= .d (.int .i64 (evtE vm sm s (evOf x.tm t)))∧r=(1000009,KX)::offO h vm sm (evtS vm sm s (evOf x.tm t))):=by
 have c1:=wTell formsM hf x.words hx;rw[ht,if_pos rfl,hte]at c1;have h2:=hk.ev hk1;have h3:=hk.lv hk1;have c2:=wEvt h vm sm s (evOf x.tm t) (by have:=hs.log;omega);have hEv:evOf x.tm t=⟨x.tm,t.texts.getD 0 [],t.texts.getD 1 [],kindsM.val t.word,if kindsM.val t.word=6 then t.texts.getD 2 []else []⟩:=rfl;generalize evOf x.tm t=V at c2 hEv ⊢
 by_cases k6:kindsM.val t.word=6
 · rw[if_pos k6]at hEv;have h4:=h3 k6;subst hEv;refine spec_of hT (C:= []) Tryz.func152 rfl Tryz.call152 rfl rfl rfl ?_;conv=>whnf
   repeat' (first|((first|(refine oAx wForms [(1,20)] ?_;rintro y rout ⟨rfl,rfl⟩;refine⟨rfl,?_⟩)|(refine oAx wKinds [(1,30)] ?_;rintro y rout ⟨rfl,rfl⟩;refine⟨rfl,?_⟩)|(refine oAx c1 [(1000001,20),(1000009,1000009)] ?_;rintro y rout ⟨rfl,rfl⟩;refine⟨rfl,?_⟩)|(refine oAx (c2) rq1 ?_;rintro y rout ⟨rfl,rfl⟩;refine⟨rfl,?_⟩)|refine And.intro (rfl:zrow _=some [DV.int .i64 0]) ?_|(refine br_intro ?_ ?_<;>intro hb<;>try simp only[brs]at hb)|refine rAx hT 1 oJOfG152_1 ?_|refine rAx hT 4 oJOfG152_4 ?_|refine rAx hT 6 oJOfG152_6 ?_|refine rAx hT 12 oJOfG152_12 ?_|refine rAx hT 14 oJOfG152_14 ?_|refine rAx hT 17 oJOfG152_17 ?_|refine rAx hT 22 oJOfG152_22 ?_|omega|refine sAx ?_|decide|assumption)<;>conv=>whnf))
   all_goals first
    | (exfalso;have q:kindsM.has t.word=false:=by assumption
       rw[hk1]at q;cases q)
    | (exfalso;have q:¬kindsM.val t.word=6:=by assumption
       exact q k6)
    | (exfalso;have q:kindsM.val t.word=6:=by assumption
       exact k6 q)
    | (refine .ent _ _ (Entails.mk' (ts:= [(4,.d (.int .i64 (evtE vm sm s ⟨x.tm,t.texts.getD 0 [],t.texts.getD 1 [],kindsM.val t.word,t.texts.getD 2 []⟩)))]) (rs:=(1000009,KX)::offO h vm sm (evtS vm sm s ⟨x.tm,t.texts.getD 0 [],t.texts.getD 1 [],kindsM.val t.word,t.texts.getD 2 []⟩)) rq9 rfl rfl ⟨lr,trivial⟩ ⟨rr,rr,rr,rr,rr,rr,rr,rr,rr,rr,rr,trivial⟩) ?_
       refine .ret _ ?_;conv=>whnf
       exact⟨_,⟨rfl,rfl⟩,rr,rr,rr,rr,rr,rr,rr,rr,rr,rr,rr,trivial⟩)
 · rw[if_neg k6]at hEv;subst hEv;refine spec_of hT (C:= []) Tryz.func152 rfl Tryz.call152 rfl rfl rfl ?_;conv=>whnf
   repeat' (first|((first|(refine oAx wForms [(1,20)] ?_;rintro y rout ⟨rfl,rfl⟩;refine⟨rfl,?_⟩)|(refine oAx wKinds [(1,30)] ?_;rintro y rout ⟨rfl,rfl⟩;refine⟨rfl,?_⟩)|(refine oAx c1 [(1000001,20),(1000009,1000009)] ?_;rintro y rout ⟨rfl,rfl⟩;refine⟨rfl,?_⟩)|(refine oAx (c2) rq1 ?_;rintro y rout ⟨rfl,rfl⟩;refine⟨rfl,?_⟩)|refine And.intro (rfl:zrow _=some [DV.int .i64 0]) ?_|(refine br_intro ?_ ?_<;>intro hb<;>try simp only[brs]at hb)|refine rAx hT 1 oJOfG152_1 ?_|refine rAx hT 4 oJOfG152_4 ?_|refine rAx hT 6 oJOfG152_6 ?_|refine rAx hT 12 oJOfG152_12 ?_|refine rAx hT 14 oJOfG152_14 ?_|refine rAx hT 17 oJOfG152_17 ?_|refine rAx hT 22 oJOfG152_22 ?_|omega|refine sAx ?_|decide|assumption)<;>conv=>whnf))
   all_goals first
    | (exfalso;have q:kindsM.has t.word=false:=by assumption
       rw[hk1]at q;cases q)
    | (exfalso;have q:¬kindsM.val t.word=6:=by assumption
       exact q k6)
    | (exfalso;have q:kindsM.val t.word=6:=by assumption
       exact k6 q)
    | (refine .ent _ _ (Entails.mk' (ts:= [(4,.d (.int .i64 (evtE vm sm s ⟨x.tm,t.texts.getD 0 [],t.texts.getD 1 [],kindsM.val t.word,[]⟩)))]) (rs:=(1000009,KX)::offO h vm sm (evtS vm sm s ⟨x.tm,t.texts.getD 0 [],t.texts.getD 1 [],kindsM.val t.word,[]⟩)) rq9 rfl rfl ⟨lr,trivial⟩ ⟨rr,rr,rr,rr,rr,rr,rr,rr,rr,rr,rr,trivial⟩) ?_
       refine .ret _ ?_;conv=>whnf
       exact⟨_,⟨rfl,rfl⟩,rr,rr,rr,rr,rr,rr,rr,rr,rr,rr,rr,trivial⟩)
end Go.Proofs.YtkokpbpililcdaaGreatDoor
