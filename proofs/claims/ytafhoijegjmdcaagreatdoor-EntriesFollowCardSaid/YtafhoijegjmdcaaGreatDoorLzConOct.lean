/- EntriesFollow is proved: for every input the law returns true, and its argument reads afterwards as it read before. Conditions: those of the given row alone. -/
import Derived.Test.YtafhoijegjmdcaaGreatDoorLzConTri
import Derived.Test.YtafhoijegjmdcaaGreatDoorLzConSep
import Derived.Test.YtafhoijegjmdcaaGreatDoorLzConQui
import Derived.Shelf.Sort.Plain
import Derived.Shelf.Slices.In.SortNone
import Derived.Test.YtafhoijegjmdcaaGreatDoorLzConOne
import Derived.Test.YtafhoijegjmdcaaGreatDoorLzConSex
import Derived.Test.YtafhoijegjmdcaaGreatDoorLzConTwo
import Derived.Test.YtafhoijegjmdcaaGreatDoorLzConQua
set_option linter.unusedVariables false
set_option linter.unusedSimpArgs false
set_option maxHeartbeats 16000000
set_option maxRecDepth 20000
namespace Go.Proofs.YtafhoijegjmdcaaGreatDoor
open Go Go.Eng
def uC:TL:= [(13,[(0,[]),(1,[]),(2,[]),(3,[0,1,2]),(4,[0,1,2]),(5,rg 5),(6,[3,4,5]),(7,[5]),(8,[]),(9,[])])]
theorem N8 (s:List UInt8)(hs:s.length≤2^30):ae Tryz.prog 141 [.d (.str s)] kx (fun x r=>x= .tup [.d (bU (Lib.split s [32])),.d (.bool (gl (Lib.split s [32])))]∧r=kx):=by
 have hl:=lX s [32] (by decide);refine aj hT Tryz.func141 Tryz.call141 ?_;conv=>whnf
 repeat' (first|(refine cy (DF s [32] (by omega) (by decide)) rfl rfl rfl rfl ?_;conv=>whnf)|(refine ab (KW (Lib.split s [32]) (by omega) []) rfl rfl ?_;rotate_right;conv=>whnf)|((first|refine aa ?_ ?_<;>intro hb<;>try simp only[am]at hb|omega|refine ao ?_|decide|assumption)<;>conv=>whnf))
 refine .ret _ ?_;conv=>whnf
 refine⟨kx,⟨congrArg SV.tup ?_,rfl⟩,rr,trivial⟩;repeat' (refine dt ?_ ?_)
 all_goals (conv=>lhs;whnf)
 all_goals try(with_reducible rfl)
 all_goals rfl
def t6 (f:List UInt8):Nat→List Int
 |0=> []
 |i+1=>if f.getD i 0=119 then t6 f i else t6 f i++ [(i:Int)]
def vT (f:List UInt8):List Int:=t6 f f.length
theorem nk {f:List UInt8}{k:Int}:∀ {n:Nat},k ∈ t6 f n↔∃i:Nat,i<n∧k=i∧f.getD i 0≠119
 |0=>by simp[t6]
 | n + 1=>by
   have ih:=nk (f:=f) (k:=k) (n:=n);rw[t6];constructor
   · intro h;split at h
     · obtain⟨i,h1,h2⟩:=ih.1 h;exact⟨i,by omega,h2⟩
     · rename_i hc;rcases List.mem_append.1 h with q|q
       · obtain⟨i,h1,h2⟩:=ih.1 q;exact⟨i,by omega,h2⟩
       · exact⟨n,by omega,List.mem_singleton.1 q,hc⟩
   · rintro⟨i,h1,h2,h3⟩;split
     · rename_i hc;refine ih.2 ⟨i,?_,h2,h3⟩;rcases Nat.lt_or_ge i n with q|q
       · exact q
       · exact absurd (by rw[show i=n by omega];exact hc) h3
     · by_cases q:i<n
       · exact List.mem_append_left _ (ih.2 ⟨i,q,h2,h3⟩)
       · exact List.mem_append_right _ (List.mem_singleton.2 (by rw[h2,show i=n by omega]))
theorem wx (f:List UInt8):∀n,(t6 f n).length≤n
 |0=>by simp[t6]
 | n+1=>by
   rw[t6];have:=wx f n;split
   · omega
   · simp;omega
theorem Bu (w:List UInt8):(formsM.val w).length≤7:=by
 have put:∀ (m:Mp (List UInt8)) (k v:List UInt8),v.length≤7→(∀w,(m.val w).length≤7)→∀w,((m.put k v).val w).length≤7:=fun m k v hv hm w=>by
  show(if w=k then v else m.val w).length≤7;split
  · exact hv
  · exact hm w
 revert w
 unfold formsM
 repeat (refine put _ _ _ (by decide) ?_)
 intro w;show([]:List UInt8).length≤7;decide
theorem Nc (w:List UInt8):ae Tryz.prog 142 [.d (.str w)] [] (fun y r=>y= .tup [.d (.int .i64 (formsM.val w).length),.d (cz (vT (formsM.val w))),.d (.bool (formsM.has w))]∧r= []):=by
 refine aj hT Tryz.func142 Tryz.call142 ?_;conv=>whnf
 repeat' ((first|refine aa ?_ ?_<;>intro hb<;>try simp only[am]at hb|omega|refine ao ?_|decide|assumption)<;>conv=>whnf)
 all_goals try(exfalso;first|contradiction|(simp_all;done))
 all_goals first
  | (have h:w= [101,110,116,101,114]:=by assumption
     rw[show formsM.val w= [119,119]from by rw[h];rfl,show formsM.has w=true from by rw[h];rfl];refine .weak _ ?_;conv=>whnf
     exact⟨.tup [.d (.int .i64 2),.d (cz []),.d (.bool true)],[],aU ⟨lr,aI,lr,trivial⟩,⟨rfl,rfl⟩,trivial⟩)
  | (have h:w= [115,104,111,112]:=by assumption
     rw[show formsM.val w= [119,119]from by rw[h];rfl,show formsM.has w=true from by rw[h];rfl];refine .weak _ ?_;conv=>whnf
     exact⟨.tup [.d (.int .i64 2),.d (cz []),.d (.bool true)],[],aU ⟨lr,aI,lr,trivial⟩,⟨rfl,rfl⟩,trivial⟩)
  | (have h:w= [100,111,110,101]:=by assumption
     rw[show formsM.val w= [119,119]from by rw[h];rfl,show formsM.has w=true from by rw[h];rfl];refine .weak _ ?_;conv=>whnf
     exact⟨.tup [.d (.int .i64 2),.d (cz []),.d (.bool true)],[],aU ⟨lr,aI,lr,trivial⟩,⟨rfl,rfl⟩,trivial⟩)
  | (have h:w= [99,111,109,101]:=by assumption
     rw[show formsM.val w= [119,119]from by rw[h];rfl,show formsM.has w=true from by rw[h];rfl];refine .weak _ ?_;conv=>whnf
     exact⟨.tup [.d (.int .i64 2),.d (cz []),.d (.bool true)],[],aU ⟨lr,aI,lr,trivial⟩,⟨rfl,rfl⟩,trivial⟩)
  | (have h:w= [103,111,110,101]:=by assumption
     rw[show formsM.val w= [119,119]from by rw[h];rfl,show formsM.has w=true from by rw[h];rfl];refine .weak _ ?_;conv=>whnf
     exact⟨.tup [.d (.int .i64 2),.d (cz []),.d (.bool true)],[],aU ⟨lr,aI,lr,trivial⟩,⟨rfl,rfl⟩,trivial⟩)
  | (have h:w= [108,101,97,118,101]:=by assumption
     rw[show formsM.val w= [119,119,119]from by rw[h];rfl,show formsM.has w=true from by rw[h];rfl];refine .weak _ ?_;conv=>whnf
     exact⟨.tup [.d (.int .i64 3),.d (cz []),.d (.bool true)],[],aU ⟨lr,aI,lr,trivial⟩,⟨rfl,rfl⟩,trivial⟩)
  | (have h:w= [98,111,111,107]:=by assumption
     rw[show formsM.val w= [119,119,110,110,110]from by rw[h];rfl,show formsM.has w=true from by rw[h];rfl];refine .weak _ ?_;conv=>whnf
     exact⟨.tup [.d (.int .i64 5),.d (cz [2,3,4]),.d (.bool true)],[],aU ⟨lr,ai (by rfl) (by rfl),lr,trivial⟩,⟨rfl,rfl⟩,trivial⟩)
  | (have h:w= [99,97,110,99,101,108]:=by assumption
     rw[show formsM.val w= [119]from by rw[h];rfl,show formsM.has w=true from by rw[h];rfl];refine .weak _ ?_;conv=>whnf
     exact⟨.tup [.d (.int .i64 1),.d (cz []),.d (.bool true)],[],aU ⟨lr,aI,lr,trivial⟩,⟨rfl,rfl⟩,trivial⟩)
  | (have h:w= [115,116,97,114,116]:=by assumption
     rw[show formsM.val w= [119,119,110,119,119,110,110]from by rw[h];rfl,show formsM.has w=true from by rw[h];rfl];refine .weak _ ?_;conv=>whnf
     exact⟨.tup [.d (.int .i64 7),.d (cz [2,5,6]),.d (.bool true)],[],aU ⟨lr,ai (by rfl) (by rfl),lr,trivial⟩,⟨rfl,rfl⟩,trivial⟩)
  | (have h:w= [115,119,97,112]:=by assumption
     rw[show formsM.val w= [119,119,110,110,119,110,110]from by rw[h];rfl,show formsM.has w=true from by rw[h];rfl];refine .weak _ ?_;conv=>whnf
     exact⟨.tup [.d (.int .i64 7),.d (cz [2,3,5,6]),.d (.bool true)],[],aU ⟨lr,ai (by rfl) (by rfl),lr,trivial⟩,⟨rfl,rfl⟩,trivial⟩)
  | (have h:w= [101,120,116,101,110,100]:=by assumption
     rw[show formsM.val w= [119,110]from by rw[h];rfl,show formsM.has w=true from by rw[h];rfl];refine .weak _ ?_;conv=>whnf
     exact⟨.tup [.d (.int .i64 2),.d (cz [1]),.d (.bool true)],[],aU ⟨lr,ai (by rfl) (by rfl),lr,trivial⟩,⟨rfl,rfl⟩,trivial⟩)
  | (have h:w= [99,108,111,115,101]:=by assumption
     rw[show formsM.val w= [119,119,110,110]from by rw[h];rfl,show formsM.has w=true from by rw[h];rfl];refine .weak _ ?_;conv=>whnf
     exact⟨.tup [.d (.int .i64 4),.d (cz [2,3]),.d (.bool true)],[],aU ⟨lr,ai (by rfl) (by rfl),lr,trivial⟩,⟨rfl,rfl⟩,trivial⟩)
  | (have h:w= [112,97,121]:=by assumption
     rw[show formsM.val w= [119,110]from by rw[h];rfl,show formsM.has w=true from by rw[h];rfl];refine .weak _ ?_;conv=>whnf
     exact⟨.tup [.d (.int .i64 2),.d (cz [1]),.d (.bool true)],[],aU ⟨lr,ai (by rfl) (by rfl),lr,trivial⟩,⟨rfl,rfl⟩,trivial⟩)
  | (rw[show formsM.val w= []from by simp[formsM,Mp.put,Mp.nil, *],show formsM.has w=false from by simp[formsM,Mp.put,Mp.nil, *]]
     refine .weak _ ?_;conv=>whnf
     exact⟨.tup [.d (.int .i64 0),.d (cz []),.d (.bool false)],[],aU ⟨lr,aI,lr,trivial⟩,⟨rfl,rfl⟩,trivial⟩)
def mJ (n:Nat)(W:List (List UInt8))(l:List Int):List Int:=l.foldl (fun m k=>m.set k.toNat (aq (W.getD (k.toNat+1) []))) (List.replicate n 0)
theorem AK (n:Nat)(W:List (List UInt8))(l:List Int)(k:Int):mJ n W (l++ [k])=(mJ n W l).set k.toNat (aq (W.getD (k.toNat+1) [])):=by simp[mJ]
theorem Eg (n:Nat)(W:List (List UInt8))(l:List Int):(mJ n W l).length=n:=by
 have:∀ (l:List Int) (m:List Int),(l.foldl (fun m k=>m.set k.toNat (aq (W.getD (k.toNat+1) []))) m).length=m.length:=by
  intro l
  induction l with
  |nil=>intro m;rfl
  |cons k l ih=>intro m;rw[List.foldl_cons,ih,List.length_set]
 rw[mJ,this,List.length_replicate]
def IM (s:List UInt8):List Int:=mJ (formsM.val (cG (Lib.split s [32]))).length (Lib.split s [32]) (vT (formsM.val (cG (Lib.split s [32]))))
theorem wt {f:List UInt8}{W:List (List UInt8)}(hl:W.length=f.length+1):mm f (W.drop 1)=true↔∀k ∈ vT f,fK (W.getD (k.toNat+1) [])=true:=by
 unfold mm;rw[decide_eq_true_iff,List.length_drop];have e:∀j,(W.drop 1).getD j []=W.getD (j+1) []:=fun j=>by rw[List.getD_eq_getElem?_getD,List.getD_eq_getElem?_getD,List.getElem?_drop,Nat.add_comm]
 constructor
 · intro h k hk;obtain⟨i,h1,rfl,h3⟩:=nk.1 hk;rcases h i (by omega)with q|q
   · exact absurd q h3
   · rw[e]at q;exact q
 · intro h j hj
   by_cases q:f.getD j 0=119
   · exact .inl q
   · right;rw[e];exact h j (nk.2 ⟨j,by omega,rfl,q⟩)
theorem Bf {s:List UInt8}(h:fK s=true):fU s=false:=by
 cases q:fU s with
 |false=>rfl
 |true=>rw[←lz,if_pos q]at h;cases h
theorem Ou (s :List UInt8)(hs:s.length≤2^20):ae Tryz.prog 95 [.d (.str s)] kx (fun y r=>y= .tup [.d (.str (if cJ formsM s then cG (Lib.split s [32])else [])),.d (bU (if cJ formsM s then(Lib.split s [32]).drop 1 else [])),.d (cz (if cJ formsM s then IM s else [])),.d (.bool (cJ formsM s))]∧r=kx):=by
 obtain⟨W,hW⟩:∃W,W=Lib.split s [32]:=⟨_,rfl⟩;have c1:=N8 s (by omega);have hl:=lX s [32] (by decide);have hn:Lib.split s [32]≠ []:=s4;have hmem:∀x ∈ Lib.split s [32],x.length≤s.length:=fun x hx=>lT hx
 have hn1:1≤W.length:=by rw[hW];exact List.length_pos_iff.2 hn
 unfold cJ IM;rw[←hW]at c1 hl hmem ⊢;obtain⟨f,hfe⟩:∃f,f=formsM.val (cG W):=⟨_,rfl⟩;have hf7:=Bu (cG W);have c2:=Nc (cG W);rw[←hfe]at hf7 c2;have hpl:(vT f).length≤7:=by have:=wx f f.length;unfold vT;omega
 refine aj hT Tryz.func95 Tryz.call95 ?_;conv=>whnf
 repeat' (first|(refine cy c1 rfl rfl rfl rfl ?_;conv=>whnf)|(refine ab (c2) rfl rfl ?_;rotate_right;conv=>whnf)|((first|refine aa ?_ ?_<;>intro hb<;>try simp only[am]at hb|refine bg hT uC ?_|omega|refine ao ?_|decide|assumption)<;>conv=>whnf))
 all_goals first
  | (have hE:(gl W&&(formsM.has (cG W)&&(decide (W.length=1+(formsM.val (cG W)).length)&&mm (formsM.val (cG W)) (W.drop 1))))=false:=by
      first
       |(rw[show gl W=false from hb];rfl)
       |(rw[show formsM.has (cG W)=false from hb];simp)
       | (have q:¬ (W.length:Int)=(f.length:Nat)+1:=hb
          rw[←hfe,show decide (W.length=1+f.length)=false from decide_eq_false (by omega)];simp)
     rw[hE];refine .weak _ ?_;conv=>whnf
     exact⟨.tup [.d (.str []),.d (bU []),.d (cz []),.d (.bool false)],_,aU ⟨lr,aI,aI,lr,trivial⟩,⟨rfl,rfl⟩,rr,trivial⟩)
  |skip
 have hlW:W.length=f.length+1:=by
  have:(W.length:Int)=(f.length:Nat)+1:=hb;omega
 have hm1:∀j,(W.getD j []).length≤2^40:=fun j=>by
  by_cases hj:j<W.length
  · have h1:W.getD j [] ∈ W:=by rw[List.getD_eq_getElem?_getD,List.getElem?_eq_getElem hj];exact List.getElem_mem hj
    have:=hmem _ h1;omega
  · rw[List.getD_eq_getElem?_getD,List.getElem?_eq_none (by omega)];simp
 obtain⟨P,hP⟩:∃P,P=vT f:=⟨_,rfl⟩;have hP7:P.length≤7:=by rw[hP];exact hpl
 have hPm:∀k ∈ P,∃i:Nat,i<f.length∧k=i:=fun k hk=>by
  rw[hP]at hk;obtain⟨i,h1,h2,_⟩:=nk.1 hk;exact⟨i,h1,h2⟩
 refine af hT (C:= []) (ι:=Nat) (fun j=>j≤P.length∧∀k ∈ P.take j,fK (W.getD (k.toNat+1) [])=true)
  (fun j=>aJ [(6,.d (bU W)),(11,.buf 20),(42,.d (cz P)),(43,.d (.int .i64 P.length)),(44,.d (.int .i64 j))] [(1000009,KX),(20,aD 3 1 iF 0 (mJ f.length W (P.take j)))])
  (fun j=>P.length - j) 0 ⟨by omega,fun k hk=>by simp at hk⟩ ?_ ?_
 · subst hP;refine(ac [(1000009,1000009),(20,41)] rfl rfl ⟨lr,lr,lr,lr,lr,trivial⟩ ⟨rr,?_,trivial⟩);refine cY (by simp[mJ]) (fun i hi=> ?_);show _=iF ((List.replicate f.length (0:Int)).getD i 0);rw[yh];rfl
 rintro j ⟨p1,p2⟩;have e1:(j:Int).toNat=j:=Int.toNat_natCast j;have hcl:=Eg f.length W (P.take j);rcases Nat.lt_or_ge j P.length with hj|hj
 · obtain ⟨i,hi,hPi⟩:=hPm _ (al (x:=(0:Int)) hj);have hPi':P.getD (j:Int).toNat 0=(i:Int):=by rw[e1];exact hPi
   have ei:((i:Int)+1).toNat=i+1:=by omega
   have ei0:(i:Int).toNat=i:=Int.toNat_natCast i;conv=>whnf
   repeat' ((first|refine cy (Kf (W.getD _ []) (hm1 _)) rfl rfl rfl rfl ?_|(refine And.intro (by rw[hPi'];unfold bC;omega) ?_)|(refine And.intro (by unfold bC;omega) ?_)|refine aa ?_ ?_<;>intro hb<;>try simp only[am]at hb|refine bg hT uC ?_|omega|refine ao ?_|decide|assumption)<;>conv=>whnf)
   all_goals try(exfalso;omega)
   · have hE:(gl W&&(formsM.has (cG W)&&(decide (W.length=1+(formsM.val (cG W)).length)&&mm (formsM.val (cG W)) (W.drop 1))))=false:=by
      rw [←hfe,show mm f (W.drop 1)=false from by
       cases q:mm f (W.drop 1)with
       |false=>rfl
       | true=>
         have q1:=(wt hlW).1 q i (by rw[←hP,←hPi];exact al (x:=(0:Int)) hj);rw[hPi,ei]at hb
         rw[ei0,hb]at q1;cases q1]
      simp
     rw[hE];refine .weak _ ?_;conv=>whnf
     exact⟨.tup [.d (.str []),.d (bU []),.d (cz []),.d (.bool false)],_,aU ⟨lr,aI,aI,lr,trivial⟩,⟨rfl,rfl⟩,rr,trivial⟩
   · rw [hPi,ei]at hb;have hT:P.take (j+1)=P.take j++ [(i:Int)]:=by rw[dh hj,←hPi];simp[List.getD_eq_getElem?_getD,List.getElem?_eq_getElem hj]
     refine⟨j+1,⟨by omega,fun k hk=> ?_⟩,by omega,ac [(1000009,1000009),(20,20)] rfl rfl ⟨lr,lr,lr,lr,lr,trivial⟩ ⟨rr,?_,trivial⟩⟩
     · rw[hT]at hk;rcases List.mem_append.1 hk with q|q
       · exact p2 k q
       · rw[List.mem_singleton.1 q,ei0];exact hb
     · rw[hT,AK,ei0]
       have r1:bh.le (.buf 3 1 (mJ f.length W (P.take j)).length fun x=>bif Nat.beq x (P.getD (j:Int).toNat 0).toNat then bA (aR iF 0 (mJ f.length W (P.take j)) x) 0 [.int .i64 (bif fU (W.getD (P.getD (j:Int).toNat 0+1).toNat [])then 0 else aq (W.getD (P.getD (j:Int).toNat 0+1).toNat []))]else aR iF 0 (mJ f.length W (P.take j)) x) (aD 3 1 iF 0 ((mJ f.length W (P.take j)).set i (aq (W.getD (i+1) [])))):=by
        rw[hPi',ei,ei0,Bf hb];exact jg (fun _ _=>rfl)
       exact r1
 · conv=>whnf
   repeat' ((first|refine aa ?_ ?_<;>intro hb<;>try simp only[am]at hb|refine bg hT uC ?_|omega|refine ao ?_|decide|assumption)<;>conv=>whnf)
   all_goals try(exfalso;omega)
   have hj2:j=P.length:=by omega
   have hE:(gl W&&(formsM.has (cG W)&&(decide (W.length=1+(formsM.val (cG W)).length)&&mm (formsM.val (cG W)) (W.drop 1))))=true:=by
    have h1:gl W=true:=by assumption
    have h2:formsM.has (cG W)=true:=by assumption
    rw[hj2,List.take_length]at p2;rw[h1,h2,←hfe,(wt hlW).2 (by rw[←hP];exact p2),show decide (W.length=1+f.length)=true from decide_eq_true (by omega)];rfl
   rw[hE,if_pos rfl,if_pos rfl,if_pos rfl,←hfe,←hP];rw[hj2,List.take_length];refine .freeze _ 20 3 1 _ _ rfl (.weak _ ?_);conv=>whnf
   exact⟨.tup [.d (.str (cG W)),.d (bU (W.drop 1)),.d (cz (mJ f.length W P)),.d (.bool true)],_,aU ⟨lr,rH (by rw[List.length_drop];omega),lr,lr,trivial⟩,⟨rfl,rfl⟩,rr,trivial⟩
def vX:List (List UInt8):= [[],[101,110,116,101,114],[111,117,116],[98,97,99,107],[115,104,111,112],[100,111,110,101],[108,101,97,118,101],[99,111,109,101],[103,111,110,101]]
theorem OB:ae Tryz.prog 97 [] [] (fun y r=>y= .d (bU vX)∧r= []):=by
 refine aj hT Tryz.func97 Tryz.call97 ?_;conv=>whnf
 repeat' ((first|refine aa ?_ ?_<;>intro hb<;>try simp only[am]at hb|omega|refine ao ?_|decide|assumption)<;>conv=>whnf)
 refine .weak _ ?_;conv=>whnf
 exact⟨.d (bU vX),[],ai (by rfl) (by rfl),⟨rfl,rfl⟩,trivial⟩
theorem Oz (l:List (List UInt8))(hl:l.length≤2^40)(v:List UInt8):ae Tryz.prog 96 [.d (bU l),.d (.str v)] [] (fun x r=>x= .d (.int .i64 (gT (fun i=>decide (v=l.getD i [])) l.length))∧r= []):=by
 refine aj hT Tryz.func96 Tryz.call96 ?_;conv=>whnf
 repeat' ((first|refine aa ?_ ?_<;>intro hb<;>try simp only[am]at hb|omega|refine ao ?_|decide|assumption)<;>conv=>whnf)
 refine af hT (C:= []) (ι:=Nat) (fun i=>i≤l.length∧∀j,j<i→decide (v=l.getD j [])=false) (fun i=>aJ [(0,.d (bU l)),(1,.d (.str v)),(7,.d (.int .i64 l.length)),(8,.d (.int .i64 i))] []) (fun i=>l.length - i) 0 ⟨by simp,fun j hj=>by omega⟩ (by exact a7 []) ?_;rintro i ⟨p1,p2⟩;have e1:=ek i;conv=>whnf
 repeat' ((first|refine aa ?_ ?_<;>intro hb<;>try simp only[am]at hb|omega|refine ao ?_|decide|assumption)<;>conv=>whnf)
 · refine .ret _ ?_;conv=>whnf
   refine⟨[],⟨?_,rfl⟩,trivial⟩;conv=>lhs;whnf
   congr 2
   exact(d5 (by omega) p2 (decide_eq_true hb)).symm
 · exact⟨i+1,⟨by omega,aV p2 (decide_eq_false hb)⟩,by omega,(by exact a7 [])⟩
 · refine .ret _ ?_;conv=>whnf
   refine⟨[],⟨?_,rfl⟩,trivial⟩;conv=>lhs;whnf
   congr 2
   have:i=l.length:=by omega
   subst this;exact(dr p2).symm
theorem AJ {w:List UInt8}(h:formsM.has w=true):(w= [101,110,116,101,114]∨w= [115,104,111,112]∨w= [100,111,110,101]∨w= [99,111,109,101]∨w= [103,111,110,101])∨w= [108,101,97,118,101]∨w= [98,111,111,107]∨w= [99,97,110,99,101,108]∨w= [115,116,97,114,116]∨w= [115,119,97,112]∨w= [101,120,116,101,110,100]∨w= [99,108,111,115,101]∨w= [112,97,121]:=by
 simp only[formsM,Mp.put,Mp.nil,Bool.or_eq_true,decide_eq_true_eq,Bool.false_eq_true,or_false]at h;grind
theorem zF {s:List UInt8}(h:cJ formsM s=true):formsM.has (cG (Lib.split s [32]))=true∧(Lib.split s [32]).length=1+(formsM.val (cG (Lib.split s [32]))).length∧mm (formsM.val (cG (Lib.split s [32]))) ((Lib.split s [32]).drop 1)=true:=by
 unfold cJ at h;simp only[Bool.and_eq_true,decide_eq_true_eq]at h;exact⟨h.2.1,h.2.2.1,h.2.2.2⟩
theorem Bl {s:List UInt8}(h:cJ formsM s=true){w0:List UInt8}{f:List UInt8}(hw:cG (Lib.split s [32])=w0)(hf:formsM.val w0=f):∃l:List (List UInt8),Lib.split s [32]=w0::l∧l.length=f.length∧mm f l=true∧(∀j,(l.getD j []).length≤s.length):=by
 obtain⟨_,h2,h3⟩:=zF h;rw[hw,hf]at h2 h3;have hm:∀x ∈ Lib.split s [32],x.length≤s.length:=fun x hx=>lT hx
 generalize Lib.split s [32]=W at*
 cases W with
 |nil=>rw[List.length_nil]at h2;omega
 | cons a l=>
   have:a=w0:=hw;subst this;refine⟨l,rfl,by rw[List.length_cons]at h2;omega,h3,fun j=> ?_⟩
   by_cases hj:j<l.length
   · rw[List.getD_eq_getElem?_getD,List.getElem?_eq_getElem hj];exact hm _ (List.mem_cons_of_mem _ (List.getElem_mem hj))
   · rw[List.getD_eq_getElem?_getD,List.getElem?_eq_none (by omega)];simp
theorem Mg {s:List UInt8}(hs:s.length≤2^20)(h:cJ formsM s=true){w0:List UInt8}{f:List UInt8}{l:List (List UInt8)}(hW:Lib.split s [32]=w0::l)(hf:formsM.val w0=f):
 ae Tryz.prog 95 [.d (.str s)] kx (fun y r=>y= .tup [.d (.str w0),.d (bU l),.d (cz (mJ f.length (w0::l) (vT f))),.d (.bool true)]∧r=kx):=by
 have c:=Ou s hs;have hw:cG (w0::l)=w0:=rfl;unfold IM at c;rw[h,if_pos rfl,if_pos rfl,if_pos rfl,hW,hw,hf]at c;exact c
theorem Gu {s:List UInt8}{w0:List UInt8}{f:List UInt8}{l:List (List UInt8)}(hW:Lib.split s [32]=w0::l)(hf:formsM.val w0=f):cP formsM s=⟨w0,pH f l l.length,pK f l l.length⟩:=by
 have hw:cG (w0::l)=w0:=rfl;unfold cP;rw[hW,hw,hf];rfl
def gA:TL:= [(11,[(0,[]),(1,[]),(2,[0,1]),(3,[0,1]),(4,[0,1]),(5,rg 5),(6,rg 5),(7,rg 5),(9,rg 8),(12,[0,1,2,3,4,5,6,7,9]),(8,[0,1,2,3,4,5,6,7,9,12]),(10,[0,1,2,3,4,5,6,7,12]),(11,[12]),(13,[])]),(16,[(0,[]),(1,[0]),(2,[0]),(3,[0]),(4,rg 4),(5,rg 4),(6,rg 4),(7,rg 7),(8,rg 7),(9,rg 7),(10,rg 10),(11,rg 10),(12,rg 10),(13,rg 7),(14,rg 14),(15,rg 14),(16,rg 16),(17,rg 16),(18,rg 16),(19,[0]),(20,[]),(21,[])]),(18,[(0,[]),(1,[]),(2,[]),(3,[]),(4,rg 4),(5,rg 4),(6,rg 4),(7,[]),(8,[]),(9,[]),(10,[9]),(11,rg 11),(12,[10]),(13,[])]),(21,[(0,[]),(1,[]),(2,[]),(3,[]),(4,rg 4),(5,rg 4),(6,rg 4),(7,[])]),(26,[(0,[]),(1,[0]),(2,[0]),(3,[0]),(4,rg 4),(5,rg 4),(6,rg 4),(7,[]),(8,[])])]
structure JN (o:fJ):Prop where
 log:o.log.length≤2^18
 apt:me o.log
 fb:Gq o.bks.has
 fh:Gq o.his.has
 paid:∀k,-2^40≤o.paid.val k∧o.paid.val k≤2^40
 non:∀k,o.his.has k=false→o.his.val k=none
 his:∀k,o.his.has k=true→∃g,o.his.val k=some g∧aT g=0
structure LC (h:df):Prop where
 veh:h.flt.veh.length≤2^40
 sta:h.flt.sta.length≤2^40
 cls:h.flt.cls.length≤2^40
theorem K3 {h:df}{vm:Mp (List UInt8)}{sm:Mp Bool}{o:fJ}{x:aZ}(ht:cJ formsM x.words=true){t:ik}(hTe:cP formsM x.words=t):rE h vm sm o x=yH h vm sm o x t∧rS h vm sm o x=if yH h vm sm o x t=0 then Dz vm sm o x t else o:=by
 have e:rE h vm sm o x=yH h vm sm o x t:=by unfold rE;rw[if_neg (by rw[ht];decide),hTe]
 refine⟨e,?_⟩;unfold rS;rw[e,hTe]
abbrev O1 (x:aZ):SV:=.agg ((en x).map .d)
structure E6 (h:df)(o:fJ)(x:aZ):Prop where
 ho:LC h
 hr:JN o
 hx:x.words.length≤2^20
 hm: -2^60≤x.tm∧x.tm≤2^60∧x.tm≠-1
abbrev se (h:df)(o:fJ)(x:aZ):Prop:=ae Tryz.prog 45 [.ptr 1000001 0,O1 x] ((1000009,KX)::uz h o) (fun y r=>y= .d (.int .i64 (rE h (b8 h.flt.veh) (bV h.flt.sta) o x))∧r=(1000009,KX)::iP h (rS h (b8 h.flt.veh) (bV h.flt.sta) o x))
theorem ke {h:df}{o:fJ}{x:aZ}(hx:x.words.length≤2^20)(ht:cJ formsM x.words=true){w0 f:List UInt8}(hw:cG (Lib.split x.words [32])=w0)(hf:formsM.val w0=f):
 ∃ l:List (List UInt8),l.length=f.length∧mm f l=true∧(∀j,(l.getD j []).length≤x.words.length)∧ae Tryz.prog 95 [.d (.str x.words)] kx (fun y r=>y= .tup [.d (.str w0),.d (bU l),.d (cz (mJ f.length (w0::l) (vT f))),.d (.bool true)]∧r=kx)∧
  rE h (b8 h.flt.veh) (bV h.flt.sta) o x=yH h (b8 h.flt.veh) (bV h.flt.sta) o x ⟨w0,pH f l l.length,pK f l l.length⟩∧rS h (b8 h.flt.veh) (bV h.flt.sta) o x=if yH h (b8 h.flt.veh) (bV h.flt.sta) o x ⟨w0,pH f l l.length,pK f l l.length⟩=0 then Dz (b8 h.flt.veh) (bV h.flt.sta) o x ⟨w0,pH f l l.length,pK f l l.length⟩else o:=by
 obtain⟨l,hW,hl,hN,hL⟩:=Bl ht hw hf;obtain⟨eE,eS⟩:=K3 (h:=h) (vm:=b8 h.flt.veh) (sm:=bV h.flt.sta) (o:=o) ht (Gu hW hf);exact⟨l,hl,hN,hL,Mg hx ht hW hf,eE,eS⟩
theorem xm (vm:Mp (List UInt8))(sm:Mp Bool)(o:fJ)(x:aS):(if eY vm sm o.log x=0 then({o with log:=bc aX (o.log++ [x])}:fJ)else o)={o with log:=iK vm sm o.log x}:=by
 unfold iK;split<;>rfl
theorem FN {h:df}{o:fJ}{x:aZ}(k:E6 h o x)(ht:cJ formsM x.words=true){w0:List UInt8}(hw:cG (Lib.split x.words [32])=w0)(h5:w0= [101,110,116,101,114]∨w0= [115,104,111,112]∨w0= [100,111,110,101]∨w0= [99,111,109,101]∨w0= [103,111,110,101]):se h o x:=by
 obtain⟨ho,hr,hx,hm⟩:=k;obtain⟨l,hl,hN,hL,c1,eE,eS⟩:=ke (h:=h) (o:=o) hx ht hw (show formsM.val w0= [119,119]by rcases h5 with rfl|rfl|rfl|rfl|rfl<;>rfl)
 obtain⟨a,b,rfl⟩:∃a b,l= [a,b]:=by
  match l,hl with
  | [a,b],_=>exact⟨_,_,rfl⟩
 have c1:ae Tryz.prog 95 [.d (.str x.words)] kx (fun y r=>y= .tup [.d (.str w0),.d (bU [a,b]),.d (cz [0,0]),.d (.bool true)]∧r=kx):=c1;unfold se;have eE:rE h (b8 h.flt.veh) (bV h.flt.sta) o x=eY (b8 h.flt.veh) (bV h.flt.sta) o.log ⟨x.tm,a,b,aM.val w0,[]⟩:=eE.trans (by rcases h5 with rfl|rfl|rfl|rfl|rfl<;>rfl);have eS:rS h (b8 h.flt.veh) (bV h.flt.sta) o x={o with log:=iK (b8 h.flt.veh) (bV h.flt.sta) o.log ⟨x.tm,a,b,aM.val w0,[]⟩}:=eS.trans (by rcases h5 with rfl|rfl|rfl|rfl|rfl<;>exact xm _ _ _ _);rw[eS,eE];have c2:=NO h ho.veh ho.sta o ⟨x.tm,a,b,aM.val w0,[]⟩ (by have:=hr.log;omega) hr.apt;have c3:=Oz vX (by decide) w0;rw[show gT (fun i=>decide (w0=vX.getD i [])) vX.length=aM.val w0 by rcases h5 with rfl|rfl|rfl|rfl|rfl<;>decide]at c3;have hnl:w0≠ [108,101,97,118,101]:=by rcases h5 with rfl|rfl|rfl|rfl|rfl<;>decide
 have hnb:w0≠ [98,111,111,107]:=by rcases h5 with rfl|rfl|rfl|rfl|rfl<;>decide
 generalize aM.val w0=K at c2 c3 ⊢;generalize eY (b8 h.flt.veh) (bV h.flt.sta) o.log ⟨x.tm,a,b,K,[]⟩=E at c2 ⊢;generalize iK (b8 h.flt.veh) (bV h.flt.sta) o.log ⟨x.tm,a,b,K,[]⟩=L2 at c2 ⊢;clear eE eS ht hL hN hl;refine aj hT Tryz.func45 Tryz.call45 ?_;conv=>whnf
 repeat' (first|(refine cy c1 rfl rfl rfl rfl ?_;conv=>whnf)|(refine ab (OB) rfl rfl ?_;rotate_right;conv=>whnf)|(refine ab (c3) rfl rfl ?_;rotate_right;conv=>whnf)|((first|(refine bP c2 uN ?_)|refine aa ?_ ?_<;>intro hb<;>try simp only[am]at hb|refine bg hT gA ?_|omega|refine ao ?_|decide|assumption)<;>conv=>whnf))
 all_goals try(exfalso;first|exact hnl (by assumption)|(rcases h5 with q|q|q|q|q<;>first|exact absurd q (by assumption)|(subst q;simp_all;done)))
 all_goals
  refine .ent _ _ (ac (ts:= [(4,.d (.int .i64 E))]) (rs:=(1000009,KX)::iP h {o with log:=L2}) A8 rfl rfl ⟨lr,trivial⟩ ⟨rr,rr,rr,rr,rr,rr,trivial⟩) ?_;refine .ret _ ?_;conv=>whnf
  exact⟨_,⟨rfl,rfl⟩,rr,rr,rr,rr,rr,rr,trivial⟩
theorem CW {h:df}{o:fJ}{x:aZ}(k:E6 h o x)(ht:cJ formsM x.words=true)(hw:cG (Lib.split x.words [32])= [108,101,97,118,101]):se h o x:=by
 obtain⟨ho,hr,hx,hm⟩:=k;obtain⟨l,hl,hN,hL,c1,eE,eS⟩:=ke (h:=h) (o:=o) hx ht hw (show formsM.val [108,101,97,118,101]= [119,119,119]from rfl)
 obtain⟨a,b,c,rfl⟩:∃a b c,l= [a,b,c]:=by
  match l,hl with
  | [a,b,c],_=>exact⟨_,_,_,rfl⟩
 have c1:ae Tryz.prog 95 [.d (.str x.words)] kx (fun y r=>y= .tup [.d (.str [108,101,97,118,101]),.d (bU [a,b,c]),.d (cz [0,0,0]),.d (.bool true)]∧r=kx):=c1;unfold se;have eE:rE h (b8 h.flt.veh) (bV h.flt.sta) o x=eY (b8 h.flt.veh) (bV h.flt.sta) o.log ⟨x.tm,a,b,6,c⟩:=eE;have eS:rS h (b8 h.flt.veh) (bV h.flt.sta) o x={o with log:=iK (b8 h.flt.veh) (bV h.flt.sta) o.log ⟨x.tm,a,b,6,c⟩}:=eS.trans (xm _ _ _ _);rw[eS,eE];have c2:=NO h ho.veh ho.sta o ⟨x.tm,a,b,6,c⟩ (by have:=hr.log;omega) hr.apt;have c3:=Oz vX (by decide) [108,101,97,118,101];rw[show gT (fun i=>decide ([108,101,97,118,101]=vX.getD i [])) vX.length=6 from by decide]at c3;generalize eY (b8 h.flt.veh) (bV h.flt.sta) o.log ⟨x.tm,a,b,6,c⟩=E at c2 ⊢;generalize iK (b8 h.flt.veh) (bV h.flt.sta) o.log ⟨x.tm,a,b,6,c⟩=L2 at c2 ⊢;clear eE eS ht hL hN hl;refine aj hT Tryz.func45 Tryz.call45 ?_;conv=>whnf
 repeat' (first|(refine cy c1 rfl rfl rfl rfl ?_;conv=>whnf)|(refine ab (OB) rfl rfl ?_;rotate_right;conv=>whnf)|(refine ab (c3) rfl rfl ?_;rotate_right;conv=>whnf)|((first|(refine bP c2 uN ?_)|refine aa ?_ ?_<;>intro hb<;>try simp only[am]at hb|refine bg hT gA ?_|omega|refine ao ?_|decide|assumption)<;>conv=>whnf))
 refine .ent _ _ (ac (ts:= [(4,.d (.int .i64 E))]) (rs:=(1000009,KX)::iP h {o with log:=L2}) A8 rfl rfl ⟨lr,trivial⟩ ⟨rr,rr,rr,rr,rr,rr,trivial⟩) ?_;refine .ret _ ?_;conv=>whnf
 exact⟨_,⟨rfl,rfl⟩,rr,rr,rr,rr,rr,rr,trivial⟩
theorem GN {h:df}{o:fJ}{x:aZ}(k:E6 h o x)(ht:cJ formsM x.words=true)(hw:cG (Lib.split x.words [32])= [98,111,111,107]):se h o x:=by
 obtain⟨ho,hr,hx,hm⟩:=k;obtain⟨l,hl,hN,hL,c1,eE,eS⟩:=ke (h:=h) (o:=o) hx ht hw (show formsM.val [98,111,111,107]= [119,119,110,110,110]from rfl)
 obtain⟨a,b,c,d,e,rfl⟩:∃a b c d e,l= [a,b,c,d,e]:=by
  match l,hl with
  | [a,b,c,d,e],_=>exact⟨_,_,_,_,_,rfl⟩
 have c1:ae Tryz.prog 95 [.d (.str x.words)] kx (fun y r=>y= .tup [.d (.str [98,111,111,107]),.d (bU [a,b,c,d,e]),.d (cz [0,0,aq c,aq d,aq e]),.d (.bool true)]∧r=kx):=c1;unfold se;have eE:rE h (b8 h.flt.veh) (bV h.flt.sta) o x=ga h o ⟨a,b,aq c,aq d,x.tm,aq e⟩:=eE;have eS:rS h (b8 h.flt.veh) (bV h.flt.sta) o x=(if ga h o ⟨a,b,aq c,aq d,x.tm,aq e⟩=0 then{o with bks:=o.bks.put a ⟨a,b,aq c,aq d,x.tm,aq e⟩}else o):=eS;rw[eS,eE];have c2:=OO h ho.cls o ⟨a,b,aq c,aq d,x.tm,aq e⟩ (by have:=hL 0;show a.length≤_;simp at this;omega) (by have:=hL 1;show b.length≤_;simp at this;omega) hr.fb;generalize hO:(if ga h o ⟨a,b,aq c,aq d,x.tm,aq e⟩=0 then{o with bks:=o.bks.put a ⟨a,b,aq c,aq d,x.tm,aq e⟩}else o)=O at c2 ⊢;generalize ga h o ⟨a,b,aq c,aq d,x.tm,aq e⟩=E at c2 ⊢;clear hO eE eS ht hL hN hl;refine aj hT Tryz.func45 Tryz.call45 ?_;conv=>whnf
 repeat' ((first|refine cy c1 rfl rfl rfl rfl ?_|(refine bP c2 [(1000001,1000001),(1000005,1000005),(1000006,1000006),(1000007,1000007),(1000008,1000008)] ?_)|refine aa ?_ ?_<;>intro hb<;>try simp only[am]at hb|refine bg hT gA ?_|omega|refine ao ?_|decide|assumption)<;>conv=>whnf)
 refine .ent _ _ (ac (ts:= [(4,.d (.int .i64 E))]) (rs:=(1000009,KX)::iP h O) Dq rfl rfl ⟨lr,trivial⟩ ⟨rr,rr,rr,rr,rr,rr,trivial⟩) ?_;refine .ret _ ?_;conv=>whnf
 exact⟨_,⟨rfl,rfl⟩,rr,rr,rr,rr,rr,rr,trivial⟩
theorem HI {h:df}{o:fJ}{x:aZ}(k:E6 h o x)(ht:cJ formsM x.words=true)(hw:cG (Lib.split x.words [32])= [112,97,121]):se h o x:=by
 obtain⟨ho,hr,hx,hm⟩:=k;obtain⟨l,hl,hN,hL,c1,eE,eS⟩:=ke (h:=h) (o:=o) hx ht hw (show formsM.val [112,97,121]= [119,110]from rfl)
 obtain⟨a,b,rfl⟩:∃a b,l= [a,b]:=by
  match l,hl with
  | [a,b],_=>exact⟨_,_,rfl⟩
 have c1:ae Tryz.prog 95 [.d (.str x.words)] kx (fun y r=>y= .tup [.d (.str [112,97,121]),.d (bU [a,b]),.d (cz [0,aq b]),.d (.bool true)]∧r=kx):=c1;unfold se;have eE:rE h (b8 h.flt.veh) (bV h.flt.sta) o x=iX o a (aq b):=eE;have eS:rS h (b8 h.flt.veh) (bV h.flt.sta) o x=(if iX o a (aq b)=0 then{o with paid:=o.paid.put a (o.paid.val a+aq b)}else o):=eS;rw[eS,eE]
 have c2:=MW h o a (aq b) (by
  have hb2:=z7 (show fK b=true by
   rcases of_decide_eq_true hN 1 (by simp)with q|q
   · exact absurd q (by decide)
   · exact q)
  omega) (hr.paid a)
 generalize hO:(if iX o a (aq b)=0 then{o with paid:=o.paid.put a (o.paid.val a+aq b)}else o)=O at c2 ⊢;generalize iX o a (aq b)=E at c2 ⊢;clear hO eE eS ht hL hN hl;refine aj hT Tryz.func45 Tryz.call45 ?_;conv=>whnf
 repeat' ((first|refine cy c1 rfl rfl rfl rfl ?_|(refine bP c2 [(1000001,1000001),(1000005,1000005),(1000006,1000006),(1000007,1000007),(1000008,1000008)] ?_)|refine aa ?_ ?_<;>intro hb<;>try simp only[am]at hb|refine bg hT gA ?_|omega|refine ao ?_|decide|assumption)<;>conv=>whnf)
 refine .ent _ _ (ac (ts:= [(4,.d (.int .i64 E))]) (rs:=(1000009,KX)::iP h O) Dq rfl rfl ⟨lr,trivial⟩ ⟨rr,rr,rr,rr,rr,rr,trivial⟩) ?_;refine .ret _ ?_;conv=>whnf
 exact⟨_,⟨rfl,rfl⟩,rr,rr,rr,rr,rr,rr,trivial⟩
theorem BN {h:df}{o:fJ}{x:aZ}(k:E6 h o x)(ht:cJ formsM x.words=true)(hw:cG (Lib.split x.words [32])= [99,97,110,99,101,108]):se h o x:=by
 obtain⟨ho,hr,hx,hm⟩:=k;obtain⟨l,hl,hN,hL,c1,eE,eS⟩:=ke (h:=h) (o:=o) hx ht hw (show formsM.val [99,97,110,99,101,108]= [119]from rfl)
 obtain⟨a,rfl⟩:∃a,l= [a]:=by
  match l,hl with
  | [a],_=>exact⟨_,rfl⟩
 have c1:ae Tryz.prog 95 [.d (.str x.words)] kx (fun y r=>y= .tup [.d (.str [99,97,110,99,101,108]),.d (bU [a]),.d (cz [0]),.d (.bool true)]∧r=kx):=c1;unfold se;have eE:rE h (b8 h.flt.veh) (bV h.flt.sta) o x=if o.bks.has a=true then 0 else 8:=eE;have eS:rS h (b8 h.flt.veh) (bV h.flt.sta) o x=if(if o.bks.has a=true then(0:Int)else 8)=0 then{o with bks:=o.bks.del a fG}else o:=eS;rw[eS,eE];clear eE eS ht hL hN hl;refine aj hT Tryz.func45 Tryz.call45 ?_;conv=>whnf
 repeat' ((first|refine cy c1 rfl rfl rfl rfl ?_|refine And.intro (rfl:bt _=some (ez fG)) ?_|refine aa ?_ ?_<;>intro hb<;>try simp only[am]at hb|refine bg hT gA ?_|omega|refine ao ?_|decide|assumption)<;>conv=>whnf)
 all_goals (try simp only[cf]at*)
 all_goals first
  | (have hb:o.bks.has a=true:=by assumption
     rw[if_pos hb,if_pos (rfl:(0:Int)=0)];refine .ent _ _ (ac (ts:= [(4,.d (.int .i64 0))]) (rs:=(1000009,KX)::iP h {o with bks:=o.bks.del a fG}) Dq rfl rfl ⟨lr,trivial⟩ ⟨rr,rr,rr,qu,rr,rr,trivial⟩) ?_;refine .ret _ ?_;conv=>whnf
     exact⟨_,⟨rfl,rfl⟩,rr,rr,rr,rr,rr,rr,trivial⟩)
  | (have hb:o.bks.has a=false:=by assumption
     rw[if_neg (show ¬ (o.bks.has a=true)by rw[hb];decide),if_neg (show ¬ ((8:Int)=0)by decide)];refine .ent _ _ (ac (ts:= [(4,.d (.int .i64 8))]) (rs:=(1000009,KX)::iP h o) Dq rfl rfl ⟨lr,trivial⟩ ⟨rr,rr,rr,rr,rr,rr,trivial⟩) ?_;refine .ret _ ?_;conv=>whnf
     exact⟨_,⟨rfl,rfl⟩,rr,rr,rr,rr,rr,rr,trivial⟩)
theorem Do {h:df}{o:fJ}{x:aZ}(k:E6 h o x)(ht:cJ formsM x.words=true)(hw:cG (Lib.split x.words [32])= [115,116,97,114,116]):se h o x:=by
 obtain⟨ho,hr,hx,hm⟩:=k;obtain⟨l,hl,hN,hL,c1,eE,eS⟩:=ke (h:=h) (o:=o) hx ht hw (show formsM.val [115,116,97,114,116]= [119,119,110,119,119,110,110]from rfl)
 obtain⟨a,b,c,d,e,f,g,rfl⟩:∃a b c d e f g,l= [a,b,c,d,e,f,g]:=by
  match l,hl with
  | [a,b,c,d,e,f,g],_=>exact⟨_,_,_,_,_,_,_,rfl⟩
 have c1:ae Tryz.prog 95 [.d (.str x.words)] kx (fun y r=>y= .tup [.d (.str [115,116,97,114,116]),.d (bU [a,b,c,d,e,f,g]),.d (cz [0,0,aq c,0,0,aq f,aq g]),.d (.bool true)]∧r=kx):=c1;unfold se;have eE:rE h (b8 h.flt.veh) (bV h.flt.sta) o x=Hz (b8 h.flt.veh) (bV h.flt.sta) o (dU x.tm [a,b,c,d,e,f,g] [0,0,aq c,0,0,aq f,aq g]) e d:=eE;have eS:rS h (b8 h.flt.veh) (bV h.flt.sta) o x=JM (b8 h.flt.veh) (bV h.flt.sta) o (dU x.tm [a,b,c,d,e,f,g] [0,0,aq c,0,0,aq f,aq g]) e d:=eS;rw[eS,eE]
 have c2:ae Tryz.prog 100 [.ptr 1000001 0,.d (.int .i64 x.tm),.d (bU [a,b,c,d,e,f,g]),.d (cz [0,0,aq c,0,0,aq f,aq g])] (uz h o) (fun y r=>y= .d (.int .i64 (Hz (b8 h.flt.veh) (bV h.flt.sta) o (dU x.tm [a,b,c,d,e,f,g] [0,0,aq c,0,0,aq f,aq g]) e d))∧r=iP h (JM (b8 h.flt.veh) (bV h.flt.sta) o (dU x.tm [a,b,c,d,e,f,g] [0,0,aq c,0,0,aq f,aq g]) e d)):=
  Nd h ho.veh ho.sta o hr.log hr.apt x.tm ⟨hm.1,hm.2.1⟩ [a,b,c,d,e,f,g] [0,0,aq c,0,0,aq f,aq g] rfl rfl (fun j=>by have:=hL j;omega) hr.fh
 generalize JM (b8 h.flt.veh) (bV h.flt.sta) o (dU x.tm [a,b,c,d,e,f,g] [0,0,aq c,0,0,aq f,aq g]) e d=O at c2 ⊢;generalize Hz (b8 h.flt.veh) (bV h.flt.sta) o (dU x.tm [a,b,c,d,e,f,g] [0,0,aq c,0,0,aq f,aq g]) e d=E at c2 ⊢;clear eE eS ht hL hN hl;refine aj hT Tryz.func45 Tryz.call45 ?_;conv=>whnf
 repeat' ((first|refine cy c1 rfl rfl rfl rfl ?_|(refine bP c2 uN ?_)|refine aa ?_ ?_<;>intro hb<;>try simp only[am]at hb|refine bg hT gA ?_|omega|refine ao ?_|decide|assumption)<;>conv=>whnf)
 refine .ent _ _ (ac (ts:= [(4,.d (.int .i64 E))]) (rs:=(1000009,KX)::iP h O) A8 rfl rfl ⟨lr,trivial⟩ ⟨rr,rr,rr,rr,rr,rr,trivial⟩) ?_;refine .ret _ ?_;conv=>whnf
 exact⟨_,⟨rfl,rfl⟩,rr,rr,rr,rr,rr,rr,trivial⟩
theorem Gf {h:df}{o:fJ}{x:aZ}(k:E6 h o x)(ht:cJ formsM x.words=true)(hw:cG (Lib.split x.words [32])= [115,119,97,112]):se h o x:=by
 obtain⟨ho,hr,hx,hm⟩:=k;obtain⟨l,hl,hN,hL,c1,eE,eS⟩:=ke (h:=h) (o:=o) hx ht hw (show formsM.val [115,119,97,112]= [119,119,110,110,119,110,110]from rfl)
 obtain⟨a,b,c,d,e,f,g,rfl⟩:∃a b c d e f g,l= [a,b,c,d,e,f,g]:=by
  match l,hl with
  | [a,b,c,d,e,f,g],_=>exact⟨_,_,_,_,_,_,_,rfl⟩
 have c1:ae Tryz.prog 95 [.d (.str x.words)] kx (fun y r=>y= .tup [.d (.str [115,119,97,112]),.d (bU [a,b,c,d,e,f,g]),.d (cz [0,0,aq c,aq d,0,aq f,aq g]),.d (.bool true)]∧r=kx):=c1;unfold se
 have c2:ae Tryz.prog 102 [.ptr 1000001 0,.d (.int .i64 x.tm),.d (.str [115,119,97,112]),.d (bU [a,b,c,d,e,f,g]),.d (cz [0,0,aq c,aq d,0,aq f,aq g])] (uz h o) (fun y r=>y= .d (.int .i64 (rE h (b8 h.flt.veh) (bV h.flt.sta) o x))∧r=iP h (rS h (b8 h.flt.veh) (bV h.flt.sta) o x)):=by
  cases hh:o.his.has a with
  | false=>
    have e8:rE h (b8 h.flt.veh) (bV h.flt.sta) o x=8:=eE.trans (if_pos hh);rw[eS,←eE,e8]
    exact CU h o x.tm [115,119,97,112] [a,b,c,d,e,f,g] [0,0,aq c,aq d,0,aq f,aq g] (by simp) hh (hr.non _ hh)
  | true=>
    obtain⟨G,hvv,hg⟩:=hr.his _ hh;have eH:ov o ⟨[115,119,97,112],[a,b,e],[aq c,aq d,aq f,aq g]⟩=G:=by show(o.his.val a).getD fq=G;rw[hvv];rfl
    have e1:rE h (b8 h.flt.veh) (bV h.flt.sta) o x=Cc (b8 h.flt.veh) (bV h.flt.sta) o G (ng G ⟨x.tm,b,aq c,aq d⟩ e ⟨x.tm,b,aq f,aq g⟩) b e:=by
     refine eE.trans ((if_neg (show ¬ (o.his.has a=false)by rw[hh];decide)).trans ?_);show eG _ _ o.log (dK (ov o ⟨[115,119,97,112],[a,b,e],[aq c,aq d,aq f,aq g]⟩) (aY (ov o ⟨[115,119,97,112],[a,b,e],[aq c,aq d,aq f,aq g]⟩) x.tm ⟨[115,119,97,112],[a,b,e],[aq c,aq d,aq f,aq g]⟩)) (aY (ov o ⟨[115,119,97,112],[a,b,e],[aq c,aq d,aq f,aq g]⟩) x.tm ⟨[115,119,97,112],[a,b,e],[aq c,aq d,aq f,aq g]⟩) (cK (ov o ⟨[115,119,97,112],[a,b,e],[aq c,aq d,aq f,aq g]⟩)) _ _=_;rw[eH];rfl
    have e2:rS h (b8 h.flt.veh) (bV h.flt.sta) o x=Gh (b8 h.flt.veh) (bV h.flt.sta) o a G (ng G ⟨x.tm,b,aq c,aq d⟩ e ⟨x.tm,b,aq f,aq g⟩) b e:=by
     rw[eS,←eE,e1];show(if _=0 then fJ.mk (wl (b8 h.flt.veh) (bV h.flt.sta) o x.tm ⟨[115,119,97,112],[a,b,e],[aq c,aq d,aq f,aq g]⟩) o.bks (o.his.put a (some (aY (ov o ⟨[115,119,97,112],[a,b,e],[aq c,aq d,aq f,aq g]⟩) x.tm ⟨[115,119,97,112],[a,b,e],[aq c,aq d,aq f,aq g]⟩))) o.paid else o)=_;unfold wl;rw[eH];rfl
    rw[e1,e2];exact J3 h ho.veh ho.sta o hr.log hr.apt x.tm hm.2.2 [a,b,c,d,e,f,g] [0,0,aq c,aq d,0,aq f,aq g] rfl rfl (fun j=>by have:=hL j;omega) G hh hvv hg _ rfl
 generalize rS h (b8 h.flt.veh) (bV h.flt.sta) o x=O at c2 ⊢;generalize rE h (b8 h.flt.veh) (bV h.flt.sta) o x=E at c2 ⊢;clear eE eS ht hL hN hl;refine aj hT Tryz.func45 Tryz.call45 ?_;conv=>whnf
 repeat' ((first|refine cy c1 rfl rfl rfl rfl ?_|(refine bP c2 uN ?_)|refine aa ?_ ?_<;>intro hb<;>try simp only[am]at hb|refine bg hT gA ?_|omega|refine ao ?_|decide|assumption)<;>conv=>whnf)
 refine .ent _ _ (ac (ts:= [(4,.d (.int .i64 E))]) (rs:=(1000009,KX)::iP h O) A8 rfl rfl ⟨lr,trivial⟩ ⟨rr,rr,rr,rr,rr,rr,trivial⟩) ?_;refine .ret _ ?_;conv=>whnf
 exact⟨_,⟨rfl,rfl⟩,rr,rr,rr,rr,rr,rr,trivial⟩
theorem BM {h:df}{o:fJ}{x:aZ}(k:E6 h o x)(ht:cJ formsM x.words=true)(hw:cG (Lib.split x.words [32])= [101,120,116,101,110,100]):se h o x:=by
 obtain⟨ho,hr,hx,hm⟩:=k;obtain⟨l,hl,hN,hL,c1,eE,eS⟩:=ke (h:=h) (o:=o) hx ht hw (show formsM.val [101,120,116,101,110,100]= [119,110]from rfl)
 obtain⟨a,b,rfl⟩:∃a b,l= [a,b]:=by
  match l,hl with
  | [a,b],_=>exact⟨_,_,rfl⟩
 have c1:ae Tryz.prog 95 [.d (.str x.words)] kx (fun y r=>y= .tup [.d (.str [101,120,116,101,110,100]),.d (bU [a,b]),.d (cz [0,aq b]),.d (.bool true)]∧r=kx):=c1;unfold se
 have c2:ae Tryz.prog 102 [.ptr 1000001 0,.d (.int .i64 x.tm),.d (.str [101,120,116,101,110,100]),.d (bU [a,b]),.d (cz [0,aq b])] (uz h o) (fun y r=>y= .d (.int .i64 (rE h (b8 h.flt.veh) (bV h.flt.sta) o x))∧r=iP h (rS h (b8 h.flt.veh) (bV h.flt.sta) o x)):=by
  cases hh:o.his.has a with
  | false=>
    have e8:rE h (b8 h.flt.veh) (bV h.flt.sta) o x=8:=eE.trans (if_pos hh);rw[eS,←eE,e8]
    exact CU h o x.tm [101,120,116,101,110,100] [a,b] [0,aq b] (by simp) hh (hr.non _ hh)
  | true=>
    obtain⟨G,hvv,hg⟩:=hr.his _ hh;have eH:ov o ⟨[101,120,116,101,110,100],[a],[aq b]⟩=G:=by show(o.his.val a).getD fq=G;rw[hvv];rfl
    have e1:rE h (b8 h.flt.veh) (bV h.flt.sta) o x=Cc (b8 h.flt.veh) (bV h.flt.sta) o G (sO G (aq b)) [] []:=by
     refine eE.trans ((if_neg (show ¬ (o.his.has a=false)by rw[hh];decide)).trans ?_);show eG _ _ o.log (dK (ov o ⟨[101,120,116,101,110,100],[a],[aq b]⟩) (aY (ov o ⟨[101,120,116,101,110,100],[a],[aq b]⟩) x.tm ⟨[101,120,116,101,110,100],[a],[aq b]⟩)) (aY (ov o ⟨[101,120,116,101,110,100],[a],[aq b]⟩) x.tm ⟨[101,120,116,101,110,100],[a],[aq b]⟩) (cK (ov o ⟨[101,120,116,101,110,100],[a],[aq b]⟩)) _ _=_;rw[eH];rfl
    have e2:rS h (b8 h.flt.veh) (bV h.flt.sta) o x=Gh (b8 h.flt.veh) (bV h.flt.sta) o a G (sO G (aq b)) [] []:=by
     rw[eS,←eE,e1];show(if _=0 then fJ.mk (wl (b8 h.flt.veh) (bV h.flt.sta) o x.tm ⟨[101,120,116,101,110,100],[a],[aq b]⟩) o.bks (o.his.put a (some (aY (ov o ⟨[101,120,116,101,110,100],[a],[aq b]⟩) x.tm ⟨[101,120,116,101,110,100],[a],[aq b]⟩))) o.paid else o)=_;unfold wl;rw[eH];rfl
    rw[e1,e2];exact J9 h ho.veh ho.sta o hr.log hr.apt x.tm hm.2.2 [a,b] [0,aq b] rfl rfl (fun j=>by have:=hL j;omega) G hh hvv hg _ rfl
 generalize rS h (b8 h.flt.veh) (bV h.flt.sta) o x=O at c2 ⊢;generalize rE h (b8 h.flt.veh) (bV h.flt.sta) o x=E at c2 ⊢;clear eE eS ht hL hN hl;refine aj hT Tryz.func45 Tryz.call45 ?_;conv=>whnf
 repeat' ((first|refine cy c1 rfl rfl rfl rfl ?_|(refine bP c2 uN ?_)|refine aa ?_ ?_<;>intro hb<;>try simp only[am]at hb|refine bg hT gA ?_|omega|refine ao ?_|decide|assumption)<;>conv=>whnf)
 refine .ent _ _ (ac (ts:= [(4,.d (.int .i64 E))]) (rs:=(1000009,KX)::iP h O) A8 rfl rfl ⟨lr,trivial⟩ ⟨rr,rr,rr,rr,rr,rr,trivial⟩) ?_;refine .ret _ ?_;conv=>whnf
 exact⟨_,⟨rfl,rfl⟩,rr,rr,rr,rr,rr,rr,trivial⟩
theorem Cx {h:df}{o:fJ}{x:aZ}(k:E6 h o x)(ht:cJ formsM x.words=true)(hw:cG (Lib.split x.words [32])= [99,108,111,115,101]):se h o x:=by
 obtain⟨ho,hr,hx,hm⟩:=k;obtain⟨l,hl,hN,hL,c1,eE,eS⟩:=ke (h:=h) (o:=o) hx ht hw (show formsM.val [99,108,111,115,101]= [119,119,110,110]from rfl)
 obtain⟨a,b,c,d,rfl⟩:∃a b c d,l= [a,b,c,d]:=by
  match l,hl with
  | [a,b,c,d],_=>exact⟨_,_,_,_,rfl⟩
 have c1:ae Tryz.prog 95 [.d (.str x.words)] kx (fun y r=>y= .tup [.d (.str [99,108,111,115,101]),.d (bU [a,b,c,d]),.d (cz [0,0,aq c,aq d]),.d (.bool true)]∧r=kx):=c1;unfold se
 have c2:ae Tryz.prog 102 [.ptr 1000001 0,.d (.int .i64 x.tm),.d (.str [99,108,111,115,101]),.d (bU [a,b,c,d]),.d (cz [0,0,aq c,aq d])] (uz h o) (fun y r=>y= .d (.int .i64 (rE h (b8 h.flt.veh) (bV h.flt.sta) o x))∧r=iP h (rS h (b8 h.flt.veh) (bV h.flt.sta) o x)):=by
  cases hh:o.his.has a with
  | false=>
    have e8:rE h (b8 h.flt.veh) (bV h.flt.sta) o x=8:=eE.trans (if_pos hh);rw[eS,←eE,e8]
    exact CU h o x.tm [99,108,111,115,101] [a,b,c,d] [0,0,aq c,aq d] (by simp) hh (hr.non _ hh)
  | true=>
    obtain⟨G,hvv,hg⟩:=hr.his _ hh;have eH:ov o ⟨[99,108,111,115,101],[a,b],[aq c,aq d]⟩=G:=by show(o.his.val a).getD fq=G;rw[hvv];rfl
    have e1:rE h (b8 h.flt.veh) (bV h.flt.sta) o x=Cc (b8 h.flt.veh) (bV h.flt.sta) o G (q8 G ⟨x.tm,b,aq c,aq d⟩) b []:=by
     refine eE.trans ((if_neg (show ¬ (o.his.has a=false)by rw[hh];decide)).trans ?_);show eG _ _ o.log (dK (ov o ⟨[99,108,111,115,101],[a,b],[aq c,aq d]⟩) (aY (ov o ⟨[99,108,111,115,101],[a,b],[aq c,aq d]⟩) x.tm ⟨[99,108,111,115,101],[a,b],[aq c,aq d]⟩)) (aY (ov o ⟨[99,108,111,115,101],[a,b],[aq c,aq d]⟩) x.tm ⟨[99,108,111,115,101],[a,b],[aq c,aq d]⟩) (cK (ov o ⟨[99,108,111,115,101],[a,b],[aq c,aq d]⟩)) _ _=_;rw[eH];rfl
    have e2:rS h (b8 h.flt.veh) (bV h.flt.sta) o x=Gh (b8 h.flt.veh) (bV h.flt.sta) o a G (q8 G ⟨x.tm,b,aq c,aq d⟩) b []:=by
     rw[eS,←eE,e1];show(if _=0 then fJ.mk (wl (b8 h.flt.veh) (bV h.flt.sta) o x.tm ⟨[99,108,111,115,101],[a,b],[aq c,aq d]⟩) o.bks (o.his.put a (some (aY (ov o ⟨[99,108,111,115,101],[a,b],[aq c,aq d]⟩) x.tm ⟨[99,108,111,115,101],[a,b],[aq c,aq d]⟩))) o.paid else o)=_;unfold wl;rw[eH];rfl
    rw[e1,e2];exact Kz h ho.veh ho.sta o hr.log hr.apt x.tm hm.2.2 [a,b,c,d] [0,0,aq c,aq d] rfl rfl (fun j=>by have:=hL j;omega) G hh hvv hg _ rfl
 generalize rS h (b8 h.flt.veh) (bV h.flt.sta) o x=O at c2 ⊢;generalize rE h (b8 h.flt.veh) (bV h.flt.sta) o x=E at c2 ⊢;clear eE eS ht hL hN hl;refine aj hT Tryz.func45 Tryz.call45 ?_;conv=>whnf
 repeat' ((first|refine cy c1 rfl rfl rfl rfl ?_|(refine bP c2 uN ?_)|refine aa ?_ ?_<;>intro hb<;>try simp only[am]at hb|refine bg hT gA ?_|omega|refine ao ?_|decide|assumption)<;>conv=>whnf)
 refine .ent _ _ (ac (ts:= [(4,.d (.int .i64 E))]) (rs:=(1000009,KX)::iP h O) A8 rfl rfl ⟨lr,trivial⟩ ⟨rr,rr,rr,rr,rr,rr,trivial⟩) ?_;refine .ret _ ?_;conv=>whnf
 exact⟨_,⟨rfl,rfl⟩,rr,rr,rr,rr,rr,rr,trivial⟩
theorem OZ (h:df)(ho:LC h)(o:fJ)(hr:JN o)(x:aZ)(hx:x.words.length≤2^20)(hm: -2^60≤x.tm∧x.tm≤2^60∧x.tm≠-1):se h o x:=by
 have k:E6 h o x:=⟨ho,hr,hx,hm⟩
 cases ht:cJ formsM x.words with
 | true=>
   rcases AJ (zF ht).1 with q|q|q|q|q|q|q|q|q
   · exact FN k ht rfl q
   · exact CW k ht q
   · exact GN k ht q
   · exact BN k ht q
   · exact Do k ht q
   · exact Gf k ht q
   · exact BM k ht q
   · exact Cx k ht q
   · exact HI k ht q
 | false=>
   have c1:=Ou x.words hx;rw[ht]at c1;have eE:rE h (b8 h.flt.veh) (bV h.flt.sta) o x=9:=by unfold rE;rw[if_pos ht]
   have eS:rS h (b8 h.flt.veh) (bV h.flt.sta) o x=o:=by unfold rS;rw[eE,if_neg (show ¬ ((9:Int)=0)by decide)]
   unfold se;rw[eE,eS];have c1:ae Tryz.prog 95 [.d (.str x.words)] kx (fun y r=>y= .tup [.d (.str []),.d (bU []),.d (cz []),.d (.bool false)]∧r=kx):=c1;clear eE eS;refine aj hT Tryz.func45 Tryz.call45 ?_;conv=>whnf
   repeat' ((first|refine cy c1 rfl rfl rfl rfl ?_|refine aa ?_ ?_<;>intro hb<;>try simp only[am]at hb|refine bg hT gA ?_|omega|refine ao ?_|decide|assumption)<;>conv=>whnf)
   refine .ent _ _ (ac (ts:= [(4,.d (.int .i64 9))]) (rs:=(1000009,KX)::iP h o) Dq rfl rfl ⟨lr,trivial⟩ ⟨rr,rr,rr,rr,rr,rr,trivial⟩) ?_;refine .ret _ ?_;conv=>whnf
   exact⟨_,⟨rfl,rfl⟩,rr,rr,rr,rr,rr,rr,trivial⟩
open Classical in
theorem EC (m:Mp oR)(hf:∃L:List (List UInt8),L.length≤400∧∀k,m.has k=true→k ∈ L)(hrow:∀k,m.has k=true→ez (m.val k)=ez (hJ m k))(hsome:∀k,m.has k=true→True):
 ae Tryz.prog 35 [.mp 1000007] [(1000007,dM true (ez fG) ez m)] (fun y r=>y= .d (d6 6 ez fG ((ey m.has).map (hJ m)))∧r= []):=by
 refine aj hT Tryz.func35 Tryz.call35 ?_;conv=>whnf
 repeat' (first|(intro clock kb hkb;conv=>whnf)|((first|refine aa ?_ ?_<;>intro hb<;>try simp only[am]at hb|omega|refine ao ?_|decide|assumption)<;>conv=>whnf))
 have hkl:kb.length≤400:=by
  obtain⟨L,h1,h2⟩:=hf
  have:=hkb.le (L.map fun x=> [.str x]) (fun key hw hh=>by
   obtain⟨s,rfl⟩:=dL hw
   exact List.mem_map.2 ⟨s,h2 s hh,rfl⟩)
  rw[List.length_map]at this;omega
 refine af hT (C:= []) (ι:=List Nat×List (List UInt8)) (fun(seen,ks)=>ks.Nodup∧(∀k b',([DV.str k],b') ∈ kb→(b' ∈ seen↔k ∈ ks))∧∀k ∈ ks,m.has k=true)
  (fun(seen,ks)=>aJ [(0,.mp 1000007),(3,.buf 3),(9,.ptr 9 0)] [(1000007,.mapB false true [.str] (ez fG) (fun K=>m.has (cf K)) (fun K=>ez (m.val (cf K))) clock kb),(3,aD 9 1 gW [] ks),(9,.iter 1000007 clock seen)])
  (fun(seen,ks)=>(kb.filter fun p=> !seen.contains p.2).length) ([],[]) ⟨by simp,by simp,by simp⟩ ?_ ?_
 · exact(du.nil 3 3 9 1 (aR gW [] []) rfl rfl (by decide)).trans (ac LF rfl rfl ⟨lr,lr,lr,trivial⟩ ⟨rr,rr,rr,trivial⟩)
 rintro⟨seen,ks⟩ ⟨g1,g2,g3⟩;have g1:ks.Nodup:=g1;have g2:∀k b',([DV.str k],b') ∈ kb→(b' ∈ seen↔k ∈ ks):=g2;have g3:∀k ∈ ks,m.has k=true:=g3
 have hks:ks.length≤400:=by
  obtain⟨L,h1,h2⟩:=hf;have:=jw _ _ g1 (fun k hk=>h2 k (g3 k hk));omega
 conv=>whnf
 repeat' ((first|refine aa ?_ ?_<;>intro hb<;>try simp only[am]at hb|omega|refine ao ?_|decide|assumption)<;>conv=>whnf)
 refine⟨rfl,fun key b' hkb1 hseen=> ?_,fun eM=> ?_⟩
 · obtain⟨s,rfl⟩:=dL (hkb.kw _ hkb1);have kT:m.has s=true:=(hkb.kh _ (hkb.kw _ hkb1)).2 ⟨_,hkb1⟩;have hsn:s ∉ ks:=fun q=>hseen ((g2 s b' hkb1).2 q)
   skip
   skip
   conv=>whnf
   repeat' ((first|refine⟨rfl,_,hkb1,?_⟩|refine aa ?_ ?_<;>intro hb<;>try simp only[am]at hb|omega|refine ao ?_|decide|assumption)<;>conv=>whnf)
   refine⟨(b'::seen,ks++ [s]),⟨?_,fun k b2 hk2=> ?_,fun k hk=> ?_⟩,?_,?_⟩
   · rw[List.nodup_append];exact⟨g1,by simp,fun x hx y hy=>by simp at hy;subst hy;exact fun e=>hsn (by rw[←e];exact hx)⟩
   · have hst:=l9 hkb hk2 hkb1;simp only[List.mem_cons,List.mem_append,List.not_mem_nil,or_false];rw[g2 k b2 hk2];have:b2=b'↔k=s:=by rw[show(b2=b')=((([DV.str k],b2):List DV×Nat).2=(([DV.str s],b'):List DV×Nat).2)from rfl,hst];simp
     rw[this];exact or_comm
   · rcases List.mem_append.1 hk with q|q
     · exact g3 k q
     · simp at q;subst q;exact kT
   · show(kb.filter fun p=> !(b'::seen).contains p.2).length<(kb.filter fun p=> !seen.contains p.2).length
     have e:kb.filter (fun p=> !(b'::seen).contains p.2)=(kb.filter fun p=> !seen.contains p.2).filter fun p=> !(p.2==b'):=by
      rw[List.filter_filter];refine List.filter_congr fun p _=> ?_
      simp[List.contains_cons,Bool.and_comm];rfl
     rw[e];refine Nat.lt_of_le_of_ne (List.length_filter_le _ _) (fun q=> ?_);have:=(List.length_filter_eq_length_iff.1 q) ([.str s],b') (List.mem_filter.2 ⟨hkb1,by simpa using hseen⟩);simp at this
   · exact ac LA rfl rfl ⟨lr,lr,lr,trivial⟩ ⟨rr,aB (x:=s) rfl,rr,trivial⟩
 · have hiff:∀k,k ∈ ks↔m.has k=true:=fun k=>⟨g3 k,fun q=>by
    obtain⟨b',hb'⟩:=(hkb.kh [.str k] (by simp[wk,gK])).1 q
    exact(g2 k b' hb').1 (eM _ hb')⟩
   have hsrt:=ly g1 hiff;have cS:=uA ks (by omega);have hlS:(sortS ks).length=ks.length:=d7 ks;have hmS:∀k ∈ sortS ks,m.has k=true:=fun k hk=>g3 k ((d8 ks).mem_iff.1 hk)
   rw[←hsrt];generalize sortS ks=Q at cS hlS hmS;conv=>whnf
   repeat' ((first|(refine bP cS [(1000001,3)] ?_)|refine aa ?_ ?_<;>intro hb<;>try simp only[am]at hb|omega|refine ao ?_|decide|assumption)<;>conv=>whnf)
   refine af hT (C:= []) (ι:=Nat) (fun i=>i≤Q.length)
    (fun i=>aJ [(0,.mp 1000007),(5,.buf 5),(20,.buf 3),(21,.d (.int .i64 Q.length)),(22,.d (.int .i64 i))] [(1000007,.mapB false true [.str] (ez fG) (fun K=>m.has (cf K)) (fun K=>ez (m.val (cf K))) clock kb),(3,aD 9 1 gW [] Q),(5,aD 82 6 ez fG ((Q.take i).map (hJ m)))])
    (fun i=>Q.length - i) 0 (Nat.zero_le _) ?_ ?_
   · exact(du.nil 5 5 82 6 (aR ez fG []) rfl rfl (by decide)).trans (ac LH rfl rfl ⟨lr,lr,lr,lr,lr,trivial⟩ ⟨rr,rr,rr,trivial⟩)
   rintro i hi;have hi:i≤Q.length:=hi;have e1:=ek i;have hlm:((Q.take i).map (hJ m)).length=i:=by rw[List.length_map,List.length_take];omega
   rcases Nat.lt_or_ge i Q.length with hin|hin
   · obtain⟨s,hs⟩:∃s,s=Q.getD (i:Int).toNat []:=⟨_,rfl⟩;have kT:m.has s=true:=by rw[hs,e1];exact hmS _ (al hin)
     skip
     conv=>whnf
     repeat' ((first|refine aa ?_ ?_<;>intro hb<;>try simp only[am]at hb|omega|refine ao ?_|decide|assumption)<;>conv=>whnf)
     all_goals try(exfalso;omega)
     refine⟨i+1,by show i+1≤_;omega,by show Q.length - (i+1)<Q.length - i;omega,ac E8 rfl rfl ⟨lr,lr,lr,lr,au (by omega),trivial⟩ ⟨rr,rr,?_,trivial⟩⟩
     have et:(Q.take (i+1)).map (hJ m)=(Q.take i).map (hJ m)++ [hJ m s]:=by
      rw[List.take_succ_eq_append_getElem hin,List.map_append,hs,e1,List.getD_eq_getElem?_getD,List.getElem?_eq_getElem hin];rfl
     rw[et];exact aB (x:=hJ m s) (by have hh:=hrow s kT;rw[hs]at hh ⊢;exact hh)
   · have hiQ:i=Q.length:=by omega
     conv=>whnf
     repeat' ((first|refine aa ?_ ?_<;>intro hb<;>try simp only[am]at hb|omega|refine ao ?_|decide|assumption)<;>conv=>whnf)
     all_goals try(exfalso;omega)
     refine .freeze _ 5 82 6 _ _ rfl (.weak _ ?_);conv=>whnf
     refine⟨.d (d6 6 ez fG ((Q.take i).map (hJ m))),[],lr,⟨by rw[hiQ,List.take_length],rfl⟩,trivial⟩
open Classical in
theorem DD (m:Mp oR)(hf:∃L:List (List UInt8),L.length≤400∧∀k,m.has k=true→k ∈ L)(hrow:∀k,m.has k=true→ez (m.val k)=ez (hJ m k))(hsome:∀k,m.has k=true→True):
 ae Tryz.prog 46 [.mp 1000007] [(1000007,dM true (ez fG) ez m)] (fun y r=>y= .d (d6 6 ez fG ((ey m.has).map (hJ m)))∧r= [(1000007,dM true (ez fG) ez m)]):=by
 refine aj hT Tryz.func46 Tryz.call46 ?_;conv=>whnf
 repeat' (first|(intro clock kb hkb;conv=>whnf)|((first|refine aa ?_ ?_<;>intro hb<;>try simp only[am]at hb|omega|refine ao ?_|decide|assumption)<;>conv=>whnf))
 have hkl:kb.length≤400:=by
  obtain⟨L,h1,h2⟩:=hf
  have:=hkb.le (L.map fun x=> [.str x]) (fun key hw hh=>by
   obtain⟨s,rfl⟩:=dL hw
   exact List.mem_map.2 ⟨s,h2 s hh,rfl⟩)
  rw[List.length_map]at this;omega
 refine af hT (C:= []) (ι:=List Nat×List (List UInt8)) (fun(seen,ks)=>ks.Nodup∧(∀k b',([DV.str k],b') ∈ kb→(b' ∈ seen↔k ∈ ks))∧∀k ∈ ks,m.has k=true)
  (fun(seen,ks)=>aJ [(0,.mp 1000007),(3,.buf 3),(9,.ptr 9 0)] [(1000007,.mapB false true [.str] (ez fG) (fun K=>m.has (cf K)) (fun K=>ez (m.val (cf K))) clock kb),(3,aD 9 1 gW [] ks),(9,.iter 1000007 clock seen)])
  (fun(seen,ks)=>(kb.filter fun p=> !seen.contains p.2).length) ([],[]) ⟨by simp,by simp,by simp⟩ ?_ ?_
 · exact(du.nil 3 3 9 1 (aR gW [] []) rfl rfl (by decide)).trans (ac LF rfl rfl ⟨lr,lr,lr,trivial⟩ ⟨rr,rr,rr,trivial⟩)
 rintro⟨seen,ks⟩ ⟨g1,g2,g3⟩;have g1:ks.Nodup:=g1;have g2:∀k b',([DV.str k],b') ∈ kb→(b' ∈ seen↔k ∈ ks):=g2;have g3:∀k ∈ ks,m.has k=true:=g3
 have hks:ks.length≤400:=by
  obtain⟨L,h1,h2⟩:=hf;have:=jw _ _ g1 (fun k hk=>h2 k (g3 k hk));omega
 conv=>whnf
 repeat' ((first|refine aa ?_ ?_<;>intro hb<;>try simp only[am]at hb|omega|refine ao ?_|decide|assumption)<;>conv=>whnf)
 refine⟨rfl,fun key b' hkb1 hseen=> ?_,fun eM=> ?_⟩
 · obtain⟨s,rfl⟩:=dL (hkb.kw _ hkb1);have kT:m.has s=true:=(hkb.kh _ (hkb.kw _ hkb1)).2 ⟨_,hkb1⟩;have hsn:s ∉ ks:=fun q=>hseen ((g2 s b' hkb1).2 q)
   skip
   skip
   conv=>whnf
   repeat' ((first|refine⟨rfl,_,hkb1,?_⟩|refine aa ?_ ?_<;>intro hb<;>try simp only[am]at hb|omega|refine ao ?_|decide|assumption)<;>conv=>whnf)
   refine⟨(b'::seen,ks++ [s]),⟨?_,fun k b2 hk2=> ?_,fun k hk=> ?_⟩,?_,?_⟩
   · rw[List.nodup_append];exact⟨g1,by simp,fun x hx y hy=>by simp at hy;subst hy;exact fun e=>hsn (by rw[←e];exact hx)⟩
   · have hst:=l9 hkb hk2 hkb1;simp only[List.mem_cons,List.mem_append,List.not_mem_nil,or_false];rw[g2 k b2 hk2];have:b2=b'↔k=s:=by rw[show(b2=b')=((([DV.str k],b2):List DV×Nat).2=(([DV.str s],b'):List DV×Nat).2)from rfl,hst];simp
     rw[this];exact or_comm
   · rcases List.mem_append.1 hk with q|q
     · exact g3 k q
     · simp at q;subst q;exact kT
   · show(kb.filter fun p=> !(b'::seen).contains p.2).length<(kb.filter fun p=> !seen.contains p.2).length
     have e:kb.filter (fun p=> !(b'::seen).contains p.2)=(kb.filter fun p=> !seen.contains p.2).filter fun p=> !(p.2==b'):=by
      rw[List.filter_filter];refine List.filter_congr fun p _=> ?_
      simp[List.contains_cons,Bool.and_comm];rfl
     rw[e];refine Nat.lt_of_le_of_ne (List.length_filter_le _ _) (fun q=> ?_);have:=(List.length_filter_eq_length_iff.1 q) ([.str s],b') (List.mem_filter.2 ⟨hkb1,by simpa using hseen⟩);simp at this
   · exact ac LA rfl rfl ⟨lr,lr,lr,trivial⟩ ⟨rr,aB (x:=s) rfl,rr,trivial⟩
 · have hiff:∀k,k ∈ ks↔m.has k=true:=fun k=>⟨g3 k,fun q=>by
    obtain⟨b',hb'⟩:=(hkb.kh [.str k] (by simp[wk,gK])).1 q
    exact(g2 k b' hb').1 (eM _ hb')⟩
   have hsrt:=ly g1 hiff;have cS:=uA ks (by omega);have hlS:(sortS ks).length=ks.length:=d7 ks;have hmS:∀k ∈ sortS ks,m.has k=true:=fun k hk=>g3 k ((d8 ks).mem_iff.1 hk)
   rw[←hsrt];generalize sortS ks=Q at cS hlS hmS;conv=>whnf
   repeat' ((first|(refine bP cS [(1000001,3)] ?_)|refine aa ?_ ?_<;>intro hb<;>try simp only[am]at hb|omega|refine ao ?_|decide|assumption)<;>conv=>whnf)
   refine af hT (C:= []) (ι:=Nat) (fun i=>i≤Q.length)
    (fun i=>aJ [(0,.mp 1000007),(5,.buf 5),(20,.buf 3),(21,.d (.int .i64 Q.length)),(22,.d (.int .i64 i))] [(1000007,.mapB false true [.str] (ez fG) (fun K=>m.has (cf K)) (fun K=>ez (m.val (cf K))) clock kb),(3,aD 9 1 gW [] Q),(5,aD 82 6 ez fG ((Q.take i).map (hJ m)))])
    (fun i=>Q.length - i) 0 (Nat.zero_le _) ?_ ?_
   · exact(du.nil 5 5 82 6 (aR ez fG []) rfl rfl (by decide)).trans (ac LH rfl rfl ⟨lr,lr,lr,lr,lr,trivial⟩ ⟨rr,rr,rr,trivial⟩)
   rintro i hi;have hi:i≤Q.length:=hi;have e1:=ek i;have hlm:((Q.take i).map (hJ m)).length=i:=by rw[List.length_map,List.length_take];omega
   rcases Nat.lt_or_ge i Q.length with hin|hin
   · obtain⟨s,hs⟩:∃s,s=Q.getD (i:Int).toNat []:=⟨_,rfl⟩;have kT:m.has s=true:=by rw[hs,e1];exact hmS _ (al hin)
     skip
     conv=>whnf
     repeat' ((first|refine aa ?_ ?_<;>intro hb<;>try simp only[am]at hb|omega|refine ao ?_|decide|assumption)<;>conv=>whnf)
     all_goals try(exfalso;omega)
     refine⟨i+1,by show i+1≤_;omega,by show Q.length - (i+1)<Q.length - i;omega,ac E8 rfl rfl ⟨lr,lr,lr,lr,au (by omega),trivial⟩ ⟨rr,rr,?_,trivial⟩⟩
     have et:(Q.take (i+1)).map (hJ m)=(Q.take i).map (hJ m)++ [hJ m s]:=by
      rw[List.take_succ_eq_append_getElem hin,List.map_append,hs,e1,List.getD_eq_getElem?_getD,List.getElem?_eq_getElem hin];rfl
     rw[et];exact aB (x:=hJ m s) (by have hh:=hrow s kT;rw[hs]at hh ⊢;exact hh)
   · have hiQ:i=Q.length:=by omega
     conv=>whnf
     repeat' ((first|refine aa ?_ ?_<;>intro hb<;>try simp only[am]at hb|omega|refine ao ?_|decide|assumption)<;>conv=>whnf)
     all_goals try(exfalso;omega)
     refine .freeze _ 5 82 6 _ _ rfl (.weak _ ?_);conv=>whnf
     refine⟨.d (d6 6 ez fG ((Q.take i).map (hJ m))),[(1000007,dM true (ez fG) ez m)],lr,⟨by rw[hiQ,List.take_length],rfl⟩,fI fun _ _=>⟨rfl,rfl⟩,trivial⟩
open Classical in
theorem BR (m:Mp (Option cq))(hf:∃L:List (List UInt8),L.length≤400∧∀k,m.has k=true→k ∈ L)(hrow:∀k,m.has k=true→cQ (m.val k)=dS (fP m k))(hsome:∀k,m.has k=true→m.val k≠none):
 ae Tryz.prog 49 [.mp 1000007] [(1000007,dM true (cQ none) cQ m)] (fun y r=>y= .d (d6 5 dS fq ((ey m.has).map (fP m)))∧r= [(1000007,dM true (cQ none) cQ m)]):=by
 refine aj hT Tryz.func49 Tryz.call49 ?_;conv=>whnf
 repeat' (first|(intro clock kb hkb;conv=>whnf)|((first|refine aa ?_ ?_<;>intro hb<;>try simp only[am]at hb|omega|refine ao ?_|decide|assumption)<;>conv=>whnf))
 have hkl:kb.length≤400:=by
  obtain⟨L,h1,h2⟩:=hf
  have:=hkb.le (L.map fun x=> [.str x]) (fun key hw hh=>by
   obtain⟨s,rfl⟩:=dL hw
   exact List.mem_map.2 ⟨s,h2 s hh,rfl⟩)
  rw[List.length_map]at this;omega
 refine af hT (C:= []) (ι:=List Nat×List (List UInt8)) (fun(seen,ks)=>ks.Nodup∧(∀k b',([DV.str k],b') ∈ kb→(b' ∈ seen↔k ∈ ks))∧∀k ∈ ks,m.has k=true)
  (fun(seen,ks)=>aJ [(0,.mp 1000007),(3,.buf 3),(9,.ptr 9 0)] [(1000007,.mapB false true [.str] (cQ none) (fun K=>m.has (cf K)) (fun K=>cQ (m.val (cf K))) clock kb),(3,aD 9 1 gW [] ks),(9,.iter 1000007 clock seen)])
  (fun(seen,ks)=>(kb.filter fun p=> !seen.contains p.2).length) ([],[]) ⟨by simp,by simp,by simp⟩ ?_ ?_
 · exact(du.nil 3 3 9 1 (aR gW [] []) rfl rfl (by decide)).trans (ac LF rfl rfl ⟨lr,lr,lr,trivial⟩ ⟨rr,rr,rr,trivial⟩)
 rintro⟨seen,ks⟩ ⟨g1,g2,g3⟩;have g1:ks.Nodup:=g1;have g2:∀k b',([DV.str k],b') ∈ kb→(b' ∈ seen↔k ∈ ks):=g2;have g3:∀k ∈ ks,m.has k=true:=g3
 have hks:ks.length≤400:=by
  obtain⟨L,h1,h2⟩:=hf;have:=jw _ _ g1 (fun k hk=>h2 k (g3 k hk));omega
 conv=>whnf
 repeat' ((first|refine aa ?_ ?_<;>intro hb<;>try simp only[am]at hb|omega|refine ao ?_|decide|assumption)<;>conv=>whnf)
 refine⟨rfl,fun key b' hkb1 hseen=> ?_,fun eM=> ?_⟩
 · obtain⟨s,rfl⟩:=dL (hkb.kw _ hkb1);have kT:m.has s=true:=(hkb.kh _ (hkb.kw _ hkb1)).2 ⟨_,hkb1⟩;have hsn:s ∉ ks:=fun q=>hseen ((g2 s b' hkb1).2 q)
   obtain⟨g,hg⟩:∃g,m.val s=some g:=by cases hm:m.val s with|some g=>exact⟨g,rfl⟩|none=>exact absurd hm (hsome s kT)
   refine lV (row:=cQ (m.val s)) (row':=dS g) (congrArg cQ hg) ?_;conv=>whnf
   repeat' ((first|(refine⟨rfl,_,hkb1,?_⟩;refine lV (row:=cQ (m.val s)) (row':=dS g) (congrArg cQ hg) ?_)|refine aa ?_ ?_<;>intro hb<;>try simp only[am]at hb|omega|refine ao ?_|decide|assumption)<;>conv=>whnf)
   refine⟨(b'::seen,ks++ [s]),⟨?_,fun k b2 hk2=> ?_,fun k hk=> ?_⟩,?_,?_⟩
   · rw[List.nodup_append];exact⟨g1,by simp,fun x hx y hy=>by simp at hy;subst hy;exact fun e=>hsn (by rw[←e];exact hx)⟩
   · have hst:=l9 hkb hk2 hkb1;simp only[List.mem_cons,List.mem_append,List.not_mem_nil,or_false];rw[g2 k b2 hk2];have:b2=b'↔k=s:=by rw[show(b2=b')=((([DV.str k],b2):List DV×Nat).2=(([DV.str s],b'):List DV×Nat).2)from rfl,hst];simp
     rw[this];exact or_comm
   · rcases List.mem_append.1 hk with q|q
     · exact g3 k q
     · simp at q;subst q;exact kT
   · show(kb.filter fun p=> !(b'::seen).contains p.2).length<(kb.filter fun p=> !seen.contains p.2).length
     have e:kb.filter (fun p=> !(b'::seen).contains p.2)=(kb.filter fun p=> !seen.contains p.2).filter fun p=> !(p.2==b'):=by
      rw[List.filter_filter];refine List.filter_congr fun p _=> ?_
      simp[List.contains_cons,Bool.and_comm];rfl
     rw[e];refine Nat.lt_of_le_of_ne (List.length_filter_le _ _) (fun q=> ?_);have:=(List.length_filter_eq_length_iff.1 q) ([.str s],b') (List.mem_filter.2 ⟨hkb1,by simpa using hseen⟩);simp at this
   · exact ac LA rfl rfl ⟨lr,lr,lr,trivial⟩ ⟨rr,aB (x:=s) rfl,rr,trivial⟩
 · have hiff:∀k,k ∈ ks↔m.has k=true:=fun k=>⟨g3 k,fun q=>by
    obtain⟨b',hb'⟩:=(hkb.kh [.str k] (by simp[wk,gK])).1 q
    exact(g2 k b' hb').1 (eM _ hb')⟩
   have hsrt:=ly g1 hiff;have cS:=uA ks (by omega);have hlS:(sortS ks).length=ks.length:=d7 ks;have hmS:∀k ∈ sortS ks,m.has k=true:=fun k hk=>g3 k ((d8 ks).mem_iff.1 hk)
   rw[←hsrt];generalize sortS ks=Q at cS hlS hmS;conv=>whnf
   repeat' ((first|(refine bP cS [(1000001,3)] ?_)|refine aa ?_ ?_<;>intro hb<;>try simp only[am]at hb|omega|refine ao ?_|decide|assumption)<;>conv=>whnf)
   refine af hT (C:= []) (ι:=Nat) (fun i=>i≤Q.length)
    (fun i=>aJ [(0,.mp 1000007),(5,.buf 5),(20,.buf 3),(21,.d (.int .i64 Q.length)),(22,.d (.int .i64 i))] [(1000007,.mapB false true [.str] (cQ none) (fun K=>m.has (cf K)) (fun K=>cQ (m.val (cf K))) clock kb),(3,aD 9 1 gW [] Q),(5,aD 112 5 dS fq ((Q.take i).map (fP m)))])
    (fun i=>Q.length - i) 0 (Nat.zero_le _) ?_ ?_
   · exact(du.nil 5 5 112 5 (aR dS fq []) rfl rfl (by decide)).trans (ac LH rfl rfl ⟨lr,lr,lr,lr,lr,trivial⟩ ⟨rr,rr,rr,trivial⟩)
   rintro i hi;have hi:i≤Q.length:=hi;have e1:=ek i;have hlm:((Q.take i).map (fP m)).length=i:=by rw[List.length_map,List.length_take];omega
   rcases Nat.lt_or_ge i Q.length with hin|hin
   · obtain⟨s,hs⟩:∃s,s=Q.getD (i:Int).toNat []:=⟨_,rfl⟩;have kT:m.has s=true:=by rw[hs,e1];exact hmS _ (al hin)
     obtain⟨g,hg⟩:∃g,m.val s=some g:=by cases hm:m.val s with|some g=>exact⟨g,rfl⟩|none=>exact absurd hm (hsome s kT)
     conv=>whnf
     repeat' ((first|(refine And.intro (rfl:bt _=some (cQ none)) ?_;refine cm (row':=dS g) (congrArg cQ (show m.val (Q.getD (i:Int).toNat [])=some g by rw[←hs];exact hg)) ?_)|refine aa ?_ ?_<;>intro hb<;>try simp only[am]at hb|omega|refine ao ?_|decide|assumption)<;>conv=>whnf)
     all_goals try(exfalso;omega)
     refine⟨i+1,by show i+1≤_;omega,by show Q.length - (i+1)<Q.length - i;omega,ac E8 rfl rfl ⟨lr,lr,lr,lr,au (by omega),trivial⟩ ⟨rr,rr,?_,trivial⟩⟩
     have et:(Q.take (i+1)).map (fP m)=(Q.take i).map (fP m)++ [fP m s]:=by
      rw[List.take_succ_eq_append_getElem hin,List.map_append,hs,e1,List.getD_eq_getElem?_getD,List.getElem?_eq_getElem hin];rfl
     rw[et];exact aB (x:=fP m s) (by unfold fP;rw[hg];rfl)
   · have hiQ:i=Q.length:=by omega
     conv=>whnf
     repeat' ((first|refine aa ?_ ?_<;>intro hb<;>try simp only[am]at hb|omega|refine ao ?_|decide|assumption)<;>conv=>whnf)
     all_goals try(exfalso;omega)
     refine .freeze _ 5 112 5 _ _ rfl (.weak _ ?_);conv=>whnf
     refine⟨.d (d6 5 dS fq ((Q.take i).map (fP m))),[(1000007,dM true (cQ none) cQ m)],lr,⟨by rw[hiQ,List.take_length],rfl⟩,fI fun _ _=>⟨rfl,rfl⟩,trivial⟩
abbrev Lw (h:df)(o:fJ):List (Nat×bh):= [(1000001,.cells 77 (oU h++ [.d (ic o.log),.mp 1000006,.mp 1000007,.mp 1000008])),(1000006,dM true (ez fG) ez o.bks),(1000007,dM true (cQ none) cQ o.his),(1000008,dM false [.int .i64 0] xU o.paid)]
theorem Mh (h:df)(o:fJ)(hf:∃L:List (List UInt8),L.length≤400∧∀k,o.bks.has k=true→k ∈ L)(hrow:∀k,o.bks.has k=true→ez (o.bks.val k)=ez (hJ o.bks k)):
 ae Tryz.prog 19 [.ptr 1000001 0] (Lw h o) (fun y r=>y= .d (pF ((ey o.bks.has).map (hJ o.bks)))∧r=Lw h o):=by
 refine aj hT Tryz.func19 Tryz.call19 ?_;conv=>whnf
 repeat' ((first|(refine bP (DD o.bks hf hrow (fun _ _=>trivial)) [(1000007,1000006)] ?_)|refine aa ?_ ?_<;>intro hb<;>try simp only[am]at hb|omega|refine ao ?_|decide|assumption)<;>conv=>whnf)
 refine .ret _ ?_;conv=>whnf
 exact⟨_,⟨rfl,rfl⟩,rr,rr,rr,rr,trivial⟩
theorem NA (h:df)(o:fJ)(hf:∃L:List (List UInt8),L.length≤400∧∀k,o.his.has k=true→k ∈ L)(hrow:∀k,o.his.has k=true→cQ (o.his.val k)=dS (fP o.his k))(hs:∀k,o.his.has k=true→o.his.val k≠none):
 ae Tryz.prog 21 [.ptr 1000001 0] (Lw h o) (fun y r=>y= .d (uS ((ey o.his.has).map (fP o.his)))∧r=Lw h o):=by
 refine aj hT Tryz.func21 Tryz.call21 ?_;conv=>whnf
 repeat' ((first|(refine bP (BR o.his hf hrow hs) [(1000007,1000007)] ?_)|refine aa ?_ ?_<;>intro hb<;>try simp only[am]at hb|omega|refine ao ?_|decide|assumption)<;>conv=>whnf)
 refine .ret _ ?_;conv=>whnf
 exact⟨_,⟨rfl,rfl⟩,rr,rr,rr,rr,trivial⟩
theorem O7 (h:df)(ho:LC h)(l:List aZ)(hl:l.length≤2^20)(hx:∀x ∈ l,x.words.length≤2^20∧(-2^60≤x.tm∧x.tm≤2^60∧x.tm≠-1))(hR:∀i,i≤l.length→JN ((l.take i).foldl (rS h (b8 h.flt.veh) (bV h.flt.sta)) kQ)):
 ae Tryz.prog 15 [hou h,.d (fN l)] kx (fun y r=>y= .tup [.ptr 31 0,.d (y5 (sf h (b8 h.flt.veh) (bV h.flt.sta) kQ 0 l))]∧r=(1000009,KX):: [(31,.cells 77 (oU h++ [.d (ic (l.foldl (rS h (b8 h.flt.veh) (bV h.flt.sta)) kQ).log),.mp 33,.mp 34,.mp 35])),(33,dM true (ez fG) ez (l.foldl (rS h (b8 h.flt.veh) (bV h.flt.sta)) kQ).bks),(34,dM true (cQ none) cQ (l.foldl (rS h (b8 h.flt.veh) (bV h.flt.sta)) kQ).his),(35,dM false [.int .i64 0] xU (l.foldl (rS h (b8 h.flt.veh) (bV h.flt.sta)) kQ).paid)]):=by
 obtain⟨vm,hvm⟩:∃vm,b8 h.flt.veh=vm:=⟨_,rfl⟩;obtain⟨sm,hsm⟩:∃sm,bV h.flt.sta=sm:=⟨_,rfl⟩;have c4:=fun o (hr:JN o) x (hx:x.words.length≤2^20) (hm: -2^60≤x.tm∧x.tm≤2^60∧x.tm≠-1)=>OZ h ho o hr x hx hm
 unfold se at c4;rw[hvm,hsm]at c4 hR ⊢;obtain⟨O,hO⟩:∃O,l.foldl (rS h vm sm) kQ=O:=⟨_,rfl⟩;obtain⟨RF,hRF⟩:∃RF,sf h vm sm kQ 0 l=RF:=⟨_,rfl⟩;rw[hO,hRF];have e0:kQ.log= []:=rfl;refine aj hT Tryz.func15 Tryz.call15 ?_;conv=>whnf
 repeat' ((first|(refine bP (O3 h) [(8,31),(4,33),(5,34),(6,35)] ?_)|refine aa ?_ ?_<;>intro hb<;>try simp only[am]at hb|omega|refine ao ?_|decide|assumption)<;>conv=>whnf)
 refine af hT (C:= []) (ι:=Nat×fJ×List sk) (fun(i,o,acc)=>i≤l.length∧o=(l.take i).foldl (rS h vm sm) kQ∧RF=acc++sf h vm sm o i (l.drop i)∧acc.length≤i)
  (fun(i,o,acc)=>aJ [(6,.ptr 31 0),(7,.buf 20),(13,.d (fN l)),(14,.d (.int .i64 l.length)),(15,.d (.int .i64 i))] [(1000009,KX),(20,Ic acc),(31,.cells 77 (oU h++ [.buf 50,.mp 33,.mp 34,.mp 35])),(50,nC o.log),(33,dM true (ez fG) ez o.bks),(34,dM true (cQ none) cQ o.his),(35,dM false [.int .i64 0] xU o.paid)])
  (fun(i,_,_)=>l.length - i) (0,kQ,[]) ⟨Nat.zero_le _,rfl,hRF.symm,Nat.le_refl _⟩ ?_ ?_
 · refine(du.nil 7 20 69 2 (aR LK Lv []) rfl rfl (by decide)).trans ((bF 31 50 72 5 16 (aR eV cj []) rfl rfl rfl (by decide) rfl).trans ?_);exact ac [(1000009,1000009),(20,20),(31,31),(50,50),(33,33),(34,34),(35,35)] rfl rfl ⟨lr,lr,lr,lr,lr,trivial⟩ ⟨rr,rr,rr,rr,rr,rr,rr,trivial⟩
 rintro⟨i,o,acc⟩ ⟨p1,p2,p3,p4⟩;have p1:i≤l.length:=p1;have p2:o=(l.take i).foldl (rS h vm sm) kQ:=p2;have p3:RF=acc++sf h vm sm o i (l.drop i):=p3;have p4:acc.length≤i:=p4;have e1:=ek i;have hro:=hR i p1;rw[←p2]at hro;rcases Nat.lt_or_ge i l.length with hi|hi
 · have hxi:=hx _ (al (x:=bH) hi);have cX:=c4 o hro (l.getD (i:Int).toNat bH) (by rw[e1];exact hxi.1) (by rw[e1];exact hxi.2);have hg:l[i]=l.getD (i:Int).toNat bH:=by rw[e1,List.getD_eq_getElem?_getD,List.getElem?_eq_getElem hi];rfl
   have hd:l.drop i=l.getD (i:Int).toNat bH::l.drop (i+1):=by rw[List.drop_eq_getElem_cons hi,hg]
   have ht:(l.take (i+1)).foldl (rS h vm sm) kQ=rS h vm sm o (l.getD (i:Int).toNat bH):=by rw[dh hi,List.foldl_append,←p2,hg];rfl
   rw[hd,sf]at p3;generalize rS h vm sm o (l.getD (i:Int).toNat bH)=o2 at cX ht p3;generalize rE h vm sm o (l.getD (i:Int).toNat bH)=E at cX p3
   by_cases e:E=0
   · subst e;rw[if_pos rfl,List.nil_append]at p3;conv=>whnf
     repeat' ((first|(refine bP cX [(1000009,1000009),(1000001,31),(1000005,50),(1000006,33),(1000007,34),(1000008,35),(50,60)] ?_)|(refine And.intro (by unfold bC;omega) ?_)|refine aa ?_ ?_<;>intro hb<;>try simp only[am]at hb|omega|refine ao ?_|decide|assumption)<;>conv=>whnf)
     all_goals try(exfalso;omega)
     exact⟨(i+1,o2,acc),⟨by show i+1≤_;omega,ht.symm,p3,by show acc.length≤i+1;omega⟩,by show l.length - (i+1)<l.length - i;omega,ac [(1000009,1000009),(20,20),(31,31),(50,60),(33,33),(34,34),(35,35)] rfl rfl ⟨lr,lr,lr,lr,au (by omega),trivial⟩ ⟨rr,rr,rr,rr,rr,rr,rr,trivial⟩⟩
   · rw[if_neg e,←List.append_assoc]at p3;conv=>whnf
     repeat' ((first|(refine bP cX [(1000009,1000009),(1000001,31),(1000005,50),(1000006,33),(1000007,34),(1000008,35),(50,60)] ?_)|(refine And.intro (by unfold bC;omega) ?_)|(refine And.intro (by show(_+1)*16≤_;omega) ?_)|refine aa ?_ ?_<;>intro hb<;>try simp only[am]at hb|omega|refine ao ?_|decide|assumption)<;>conv=>whnf)
     all_goals try(exfalso;omega)
     refine⟨(i+1,o2,acc++ [(⟨(i:Int),E⟩:sk)]),⟨by show i+1≤_;omega,ht.symm,p3,by simp;omega⟩,by show l.length - (i+1)<l.length - i;omega,ac [(1000009,1000009),(20,30),(31,31),(50,60),(33,33),(34,34),(35,35)] rfl rfl ⟨lr,lr,lr,lr,au (by omega),trivial⟩ ⟨rr,?_,rr,rr,rr,rr,rr,trivial⟩⟩;exact aB (x:=(⟨(i:Int),E⟩:sk)) rfl
 · have hil:i=l.length:=by omega
   subst hil;rw[List.take_length,hO]at p2;subst p2;rw[List.drop_length,sf,List.append_nil]at p3;subst p3;conv=>whnf
   repeat' ((first|refine aa ?_ ?_<;>intro hb<;>try simp only[am]at hb|omega|refine ao ?_|decide|assumption)<;>conv=>whnf)
   all_goals try(exfalso;omega)
   refine .freeze _ 20 69 2 _ _ rfl ?_;refine .freeze _ 50 72 5 _ _ rfl ?_;refine .ent _ _ (aF 31 50 5 _ 16 _ rfl rfl rfl) ?_;refine .ret _ ?_;conv=>whnf
   exact⟨_,⟨rfl,rfl⟩,rr,rr,rr,rr,rr,trivial⟩
def Az:TL:= [(6,[(0,[]),(1,[0]),(2,[]),(3,[]),(4,rg 4),(5,rg 5),(6,rg 4),(7,rg 4),(8,[])])]
def wT:TL:= [(6,[(0,[]),(1,[0]),(2,[]),(3,[]),(4,rg 4),(5,rg 5),(6,rg 4),(7,rg 4),(8,[])])]
def yS:List Nat:= [69,176,178,80]
theorem BE:yS.all (kY Tryz.prog)=true:=by decide+kernel
noncomputable def TV:ci:=BC Tryz.prog (mem yS)
theorem Mv:aQ Tryz.prog TV:=⟨mem yS,fun _ _ h=>h,fun t ht=>List.all_eq_true.1 BE t ((mem_iff _ _).1 ht)⟩
theorem Pg (l:List sk)(hl:l.length≤2^40):ae Tryz.prog 16 [.d (y5 l),.d (y5 l)] [] (fun x r=>x= .d (.bool true)∧r= []):=by
 have hT:=Mv;refine aj hT Tryz.func16 Tryz.call16 ?_;conv=>whnf
 repeat' ((first|refine aa ?_ ?_<;>intro hb<;>try simp only[am]at hb|refine bg hT Az ?_|omega|refine ao ?_|decide|assumption)<;>conv=>whnf)
 all_goals try(exfalso;first|(simp at hb;done)|(exact hb rfl))
 refine af hT (C:= []) (ι:=Nat) (fun i=>i≤l.length) (fun i=>aJ [(0,.d (y5 l)),(1,.d (y5 l)),(12,.d (.int .i64 l.length)),(13,.d (.int .i64 i))] []) (fun i=>l.length - i) 0 (by simp) (by exact a7 []) ?_;intro i p1;have p1:i≤l.length:=p1;conv=>whnf
 repeat' ((first|refine aa ?_ ?_<;>intro hb<;>try simp only[am]at hb|refine bg hT Az ?_|omega|refine ao ?_|decide|assumption)<;>conv=>whnf)
 all_goals try(exfalso;simp at hb;done)
 · exact⟨i+1,by omega,by omega,(by exact a7 [])⟩
 · refine .ret _ ?_;conv=>whnf
   refine⟨[],⟨?_,rfl⟩,trivial⟩;conv=>lhs;whnf
theorem NR (l:List na)(hl:l.length≤2^40):ae Tryz.prog 103 [.d (legs l),.d (legs l)] [] (fun x r=>x= .d (.bool true)∧r= []):=by
 have hT:=Mv;refine aj hT Tryz.func103 Tryz.call103 ?_;conv=>whnf
 repeat' ((first|refine aa ?_ ?_<;>intro hb<;>try simp only[am]at hb|refine bg hT wT ?_|omega|refine ao ?_|decide|assumption)<;>conv=>whnf)
 all_goals try(exfalso;first|(simp at hb;done)|(exact hb rfl))
 refine af hT (C:= []) (ι:=Nat) (fun i=>i≤l.length) (fun i=>aJ [(0,.d (legs l)),(1,.d (legs l)),(12,.d (.int .i64 l.length)),(13,.d (.int .i64 i))] []) (fun i=>l.length - i) 0 (by simp) (by exact a7 []) ?_;intro i p1;have p1:i≤l.length:=p1;conv=>whnf
 repeat' ((first|refine aa ?_ ?_<;>intro hb<;>try simp only[am]at hb|refine bg hT wT ?_|omega|refine ao ?_|decide|assumption)<;>conv=>whnf)
 all_goals try(exfalso;simp at hb;done)
 · exact⟨i+1,by omega,by omega,(by exact a7 [])⟩
 · refine .ret _ ?_;conv=>whnf
   refine⟨[],⟨?_,rfl⟩,trivial⟩;conv=>lhs;whnf
theorem ON (g:cq)(hg:g.legs.length≤2^40):ae Tryz.prog 48 [.agg ((dS g).map .d),.agg ((dS g).map .d)] [] (fun x r=>x= .d (.bool true)∧r= []):=by
 have hT:=Mv;refine aj hT Tryz.func48 Tryz.call48 ?_;conv=>whnf
 repeat' (first|(refine ab (NR g.legs hg) rfl rfl ?_;rotate_right;conv=>whnf)|((first|refine aa ?_ ?_<;>intro hb<;>try simp only[am]at hb|omega|refine ao ?_|decide|assumption)<;>conv=>whnf))
 all_goals try(exfalso;simp at hb;done)
 refine .ret _ ?_;conv=>whnf
 refine⟨[],⟨?_,rfl⟩,trivial⟩;conv=>lhs;whnf
theorem OU (l:List cq)(hl:l.length≤2^40)(hk:∀g ∈ l,g.legs.length≤2^40):ae Tryz.prog 47 [.d (uS l),.d (uS l),.fn 48 []] [] (fun x r=>x= .d (.bool true)∧r= []):=by
 refine aj hT Tryz.func47 Tryz.call47 ?_;conv=>whnf
 repeat' ((first|refine aa ?_ ?_<;>intro hb<;>try simp only[am]at hb|omega|refine ao ?_|decide|assumption)<;>conv=>whnf)
 all_goals try(exfalso;first|(simp at hb;done)|(exact hb rfl))
 refine af hT (C:= []) (ι:=Nat) (fun i=>i≤l.length) (fun i=>aJ [(0,.d (uS l)),(1,.d (uS l)),(2,.fn 48 []),(15,.d (uS l)),(16,.d (.int .i64 l.length)),(17,.d (.int .i64 i))] []) (fun i=>l.length - i) 0 (by simp) (by exact a7 []) ?_;intro i p1;have p1:i≤l.length:=p1;have e1:=ek i;conv=>whnf
 repeat' ((first|refine ab (ON (l.getD (i:Int).toNat fq) (hk _ (al (by omega)))) rfl rfl ?_|refine aa ?_ ?_<;>intro hb<;>try simp only[am]at hb|omega|refine ao ?_|decide|assumption)<;>conv=>whnf)
 all_goals try(exfalso;simp at hb;done)
 · exact⟨i+1,by omega,by omega,(by exact a7 [])⟩
 · refine .ret _ ?_;conv=>whnf
   refine⟨[],⟨?_,rfl⟩,trivial⟩;conv=>lhs;whnf
theorem OX (l:List cq)(hl:l.length≤2^40)(hk:∀g ∈ l,g.legs.length≤2^40):ae Tryz.prog 20 [.d (uS l),.d (uS l)] [] (fun x r=>x= .d (.bool true)∧r= []):=by
 refine aj hT Tryz.func20 Tryz.call20 ?_;conv=>whnf
 repeat' (first|(refine ab (OU l hl hk) rfl rfl ?_;rotate_right;conv=>whnf)|((first|refine aa ?_ ?_<;>intro hb<;>try simp only[am]at hb|omega|refine ao ?_|decide|assumption)<;>conv=>whnf))
 refine .ret _ ?_;conv=>whnf
 refine⟨[],⟨?_,rfl⟩,trivial⟩;conv=>lhs;whnf
theorem F4 (h:df)(l:List aZ)(hk:oa h)(hl:ku l)(he:ah [gi h,cx l]≠0):
 ae Tryz.prog 34 [hou h,.d (fN l)] [(1000009,KX)] (fun y r=>y= .tup [.d (.opq (.pointer none)),.d (.int .i64 (ah [gi h,cx l]))]∧r= [(1000009,KX)]):=by
 have c1:=Li h hk;have c2:=Fm l hl;generalize gi h=A at c1 he ⊢;generalize cx l=B at c2 he ⊢;refine aj hT Tryz.func34 Tryz.call34 ?_;conv=>whnf
 repeat' (first|(refine Fc c1 ?_;conv=>whnf)|(refine ab (c2) rfl rfl ?_;rotate_right;conv=>whnf)|((first|refine ap (kM [_,_] (by simp)) ⟨ai (by rfl) (by rfl),trivial⟩ rfl ?_|refine aa ?_ ?_<;>intro hb<;>try simp only[am]at hb|omega|refine ao ?_|decide|assumption)<;>conv=>whnf))
 all_goals try(exfalso;contradiction)
 refine .ret _ ?_;conv=>whnf
 exact⟨_,⟨rfl,rfl⟩,rr,trivial⟩
theorem Nk (h:df)(l:List aZ)(hk:oa h)(hl:ku l)(he:ah [gi h,cx l]≠0):
 ae Tryz.prog 10 [hou h,.d (fN l)] [(1000009,KX)] (fun y r=>y= .tup [.d .nilsl,.d (.int .i64 (ah [gi h,cx l]))]∧r= [(1000009,KX)]):=by
 have c1:=F4 h l hk hl he;generalize ah [gi h,cx l]=E at c1 he ⊢;refine aj hT Tryz.func10 Tryz.call10 ?_;conv=>whnf
 repeat' ((first|(refine bP c1 [(1000009,1000009)] ?_)|refine aa ?_ ?_<;>intro hb<;>try simp only[am]at hb|omega|refine ao ?_|decide|assumption)<;>conv=>whnf)
 all_goals try(exfalso;contradiction)
 refine .ret _ ?_;conv=>whnf
 exact⟨_,⟨rfl,rfl⟩,rr,trivial⟩
theorem MC (h:df)(l:List aZ)(hk:oa h)(hl:ku l)(he:ah [gi h,cx l]≠0):
 ae Tryz.prog 7 [hou h,.d (fN l)] [(1000009,KX)] (fun y r=>y= .tup [.d .nilsl,.d (.int .i64 (ah [gi h,cx l]))]∧r= [(1000009,KX)]):=by
 have c1:=F4 h l hk hl he;generalize ah [gi h,cx l]=E at c1 he ⊢;refine aj hT Tryz.func7 Tryz.call7 ?_;conv=>whnf
 repeat' ((first|(refine bP c1 [(1000009,1000009)] ?_)|refine aa ?_ ?_<;>intro hb<;>try simp only[am]at hb|omega|refine ao ?_|decide|assumption)<;>conv=>whnf)
 all_goals try(exfalso;contradiction)
 refine .ret _ ?_;conv=>whnf
 exact⟨_,⟨rfl,rfl⟩,rr,trivial⟩
theorem L9 (h:df)(l:List aZ)(hk:oa h)(hl:ku l)(he:ah [gi h,cx l]≠0):
 ae Tryz.prog 8 [hou h,.d (fN l)] [(1000009,KX)] (fun y r=>y= .tup [.d .nilsl,.d (.int .i64 (ah [gi h,cx l]))]∧r= [(1000009,KX)]):=by
 have c1:=F4 h l hk hl he;generalize ah [gi h,cx l]=E at c1 he ⊢;refine aj hT Tryz.func8 Tryz.call8 ?_;conv=>whnf
 repeat' ((first|(refine bP c1 [(1000009,1000009)] ?_)|refine aa ?_ ?_<;>intro hb<;>try simp only[am]at hb|omega|refine ao ?_|decide|assumption)<;>conv=>whnf)
 all_goals try(exfalso;contradiction)
 refine .ret _ ?_;conv=>whnf
 exact⟨_,⟨rfl,rfl⟩,rr,trivial⟩
theorem Me (h:df)(l:List aZ)(hk:oa h)(hl:ku l)(he:ah [gi h,cx l]≠0):
 ae Tryz.prog 9 [hou h,.d (fN l)] [(1000009,KX)] (fun y r=>y= .tup [.d .nilsl,.d (.int .i64 (ah [gi h,cx l]))]∧r= [(1000009,KX)]):=by
 have c1:=F4 h l hk hl he;generalize ah [gi h,cx l]=E at c1 he ⊢;refine aj hT Tryz.func9 Tryz.call9 ?_;conv=>whnf
 repeat' ((first|(refine bP c1 [(1000009,1000009)] ?_)|refine aa ?_ ?_<;>intro hb<;>try simp only[am]at hb|omega|refine ao ?_|decide|assumption)<;>conv=>whnf)
 all_goals try(exfalso;contradiction)
 refine .ret _ ?_;conv=>whnf
 exact⟨_,⟨rfl,rfl⟩,rr,trivial⟩
theorem D6 (h:df)(l:List aZ)(k:A3 h l):
 ae Tryz.prog 7 [hou h,.d (fN l)] [(1000009,KX)] (fun y r=>y= .tup [.d (y5 ((cV h l).ref)),.d (.int .i64 0)]∧r= [(1000009,KX)]):=by
 have c1:=LJ h l k;generalize cV h l=Z at c1 ⊢;generalize bc aX Z.log=lg at c1 ⊢;generalize b8 h.flt.veh=vm at c1 ⊢;generalize bV h.flt.sta=sm at c1 ⊢;refine aj hT Tryz.func7 Tryz.call7 ?_;conv=>whnf
 repeat' ((first|(refine bP c1 J1 ?_)|refine aa ?_ ?_<;>intro hb<;>try simp only[am]at hb|omega|refine ao ?_|decide|assumption)<;>conv=>whnf)
 all_goals try(exfalso;contradiction)
 refine .freeze _ 51 69 2 _ _ rfl (.weak _ ?_);conv=>whnf
 exact⟨.tup [.d (y5 Z.ref),.d (.int .i64 0)],[(1000009,KX)],aU ⟨lr,lr,trivial⟩,⟨rfl,rfl⟩,rr,trivial⟩
theorem MR (h:df)(l:List aZ)(k:A3 h l):
 ae Tryz.prog 8 [hou h,.d (fN l)] [(1000009,KX)] (fun y r=>y= .tup [.d (ic (bc aX (cV h l).log)),.d (.int .i64 0)]∧r= [(1000009,KX)]):=by
 have c1:=LJ h l k;generalize cV h l=Z at c1 ⊢;generalize bc aX Z.log=lg at c1 ⊢;generalize b8 h.flt.veh=vm at c1 ⊢;generalize bV h.flt.sta=sm at c1 ⊢;refine aj hT Tryz.func8 Tryz.call8 ?_;conv=>whnf
 repeat' ((first|(refine bP c1 J1 ?_)|refine aa ?_ ?_<;>intro hb<;>try simp only[am]at hb|omega|refine ao ?_|decide|assumption)<;>conv=>whnf)
 all_goals try(exfalso;contradiction)
 refine .freeze _ 50 72 5 _ _ rfl (.weak _ ?_);conv=>whnf
 exact⟨.tup [.d (ic lg),.d (.int .i64 0)],[(1000009,KX)],aU ⟨lr,lr,trivial⟩,⟨rfl,rfl⟩,rr,trivial⟩
theorem BD (h:df)(l:List aZ)(k:A3 h l):
 ae Tryz.prog 9 [hou h,.d (fN l)] [(1000009,KX)] (fun y r=>y= .tup [.d (pF ((ey (cV h l).bks.has).map (hJ (cV h l).bks))),.d (.int .i64 0)]∧r= [(1000009,KX)]):=by
 have c1:=LJ h l k;have hZ:dQ (2*l.length) l.length (cV h l):=uf h _ _ l l.length (Nat.le_refl _);generalize cV h l=Z at c1 hZ ⊢;have c2:=EC Z.bks (gU hZ.fb k.len) (fun _ _=>rfl) (fun _ _=>trivial);generalize bc aX Z.log=lg at c1 ⊢;generalize b8 h.flt.veh=vm at c1 ⊢;generalize bV h.flt.sta=sm at c1 ⊢;generalize (ey Z.bks.has).map (hJ Z.bks)=R at c2 ⊢;refine aj hT Tryz.func9 Tryz.call9 ?_;conv=>whnf
 repeat' ((first|(refine bP c1 J1 ?_)|(refine bP c2 [(1000007,18)] ?_)|refine aa ?_ ?_<;>intro hb<;>try simp only[am]at hb|omega|refine ao ?_|decide|assumption)<;>conv=>whnf)
 all_goals try(exfalso;contradiction)
 refine .ret _ ?_;conv=>whnf
 exact⟨[(1000009,KX)],⟨rfl,rfl⟩,rr,trivial⟩
def Pe:List aZ→List DV:=fun l=> [fN l]
abbrev Ag (l:List (List aZ)):DV:=d6 1 Pe [] l
def eX (l:List (List aZ)):Nat:=(l.map List.length).sum
theorem m7 {l:List (List aZ)}{i:Nat}(h:i<l.length):eX (l.take (i+1))=eX (l.take i)+(l.getD i []).length:=by
 unfold eX;rw[io (d:= []) h];simp
theorem np {l:List (List aZ)}{i:Nat}:eX (l.take i)≤eX l:=by
 have h:=congrArg eX (List.take_append_drop i l);have h2:eX (l.take i++l.drop i)=eX (l.take i)+eX (l.drop i):=by unfold eX;rw[List.map_append,List.sum_append]
 omega
theorem Bc (l:List (List aZ)):l.flatten.length=eX l:=by
 unfold eX;rw[List.length_flatten]
theorem Ek (l:List (List aZ))(hl:l.length≤2^20)(hn:eX l≤2^20):
 ae Tryz.prog 89 [.d (Ag l)] [] (fun y r=>y= .buf 6∧r= [(6,aD 96 4 en bH l.flatten)]):=by
 refine aj hT Tryz.func89 Tryz.call89 ?_;conv=>whnf
 refine af hT (C:= []) (ι:=Nat) (fun i=>i≤l.length) (fun i=>aJ [(0,.d (Ag l)),(3,.d (.int .i64 (eX (l.take i)))),(9,.d (Ag l)),(10,.d (.int .i64 l.length)),(11,.d (.int .i64 i))] []) (fun i=>l.length - i) 0 (by omega) (by exact a7 []) ?_;rintro i p1;have e1:=ek i;have hls:eX (l.take i)≤eX l:=np;have hls2:i<l.length→eX (l.take i)+(l.getD (i:Int).toNat []).length≤eX l:=fun h=>by rw[e1,←m7 h];exact np
 conv=>whnf
 repeat' ((first|refine aa ?_ ?_<;>intro hb<;>try simp only[am]at hb|omega|refine ao ?_|decide|assumption)<;>conv=>whnf)
 · refine⟨i+1,by omega,by omega,ac [] rfl rfl ⟨lr,au ?_,lr,lr,lr,trivial⟩ trivial⟩;rw[m7 (by omega),e1];omega
 have hi:i=l.length:=by omega
 subst hi;rw[List.take_length]at*;refine bP (Ix (eX l) hn) [(1000001,24)] ?_;conv=>whnf
 repeat' ((first|refine aa ?_ ?_<;>intro hb<;>try simp only[am]at hb|omega|refine ao ?_|decide|assumption)<;>conv=>whnf)
 refine af hT (C:= []) (ι:=Nat) (fun i=>i≤l.length) (fun i=>aJ [(6,.buf 6),(25,.d (Ag l)),(26,.d (.int .i64 l.length)),(27,.d (.int .i64 i))] [(6,aD 96 4 en bH (l.take i).flatten)]) (fun i=>l.length - i) 0 (by omega) ?_ ?_
 · exact ac [(6,24)] rfl rfl ⟨lr,lr,lr,lr,trivial⟩ ⟨cY rfl (fun i hi=>absurd hi (by omega)),trivial⟩
 rintro i p1;have e1:=ek i;have hls:eX (l.take i)≤eX l:=np;have hf:=Bc (l.take i);have hls2:(i:Int)<l.length→(l.take i).flatten.length+(l.getD (i:Int).toNat []).length≤2^20:=fun h=>by rw[e1,hf,←m7 (by omega)];exact Nat.le_trans np hn
 conv=>whnf
 repeat' ((first|refine aa ?_ ?_<;>intro hb<;>try simp only[am]at hb|omega|refine ao ?_|decide|assumption)<;>conv=>whnf)
 · have e2:(l.take (i+1)).flatten=(l.take i).flatten++l.getD (i:Int).toNat []:=by rw[io (d:= []) (by omega),e1];simp
   refine⟨i+1,by omega,by omega,ac [(6,33)] rfl rfl ⟨lr,lr,lr,lr,trivial⟩ ⟨?_,trivial⟩⟩;rw[e2];exact vZ
 · have hi:i=l.length:=by omega
   subst hi;refine .ret _ ?_;conv=>whnf
   refine⟨_,⟨rfl,rfl⟩,?_,trivial⟩;rw[List.take_length];exact rr
def e1:aZ:=⟨1,[100],1,[120]⟩
abbrev Ln (l:List aZ):bh:=aD 96 4 en bH l
def Ea:TL:= [(1,[(0,[]),(1,[0]),(3,[0,1]),(4,[0,1]),(5,[0,1,3,4]),(6,[0,1,3,4]),(2,[3,4,5,6]),(7,[]),(8,[]),(9,[]),(10,[])])]
theorem JV (a b:aZ):ae Tryz.prog 90 [.agg ((en a).map .d),.agg ((en b).map .d)] [] (fun x r=>x= .d (.int .i64 (kq a b))∧r= []):=by
 refine aj hT Tryz.func90 Tryz.call90 ?_;conv=>whnf
 repeat' (first|(refine ab (Hu a b) rfl rfl ?_;rotate_right;conv=>whnf)|(refine ab (wP _ _) rfl rfl ?_;rotate_right;conv=>whnf)|((first|refine ap (BW [_,_] (by simp)) ⟨ai (by rfl) (by rfl),trivial⟩ rfl ?_|refine aa ?_ ?_<;>intro hb<;>try simp only[am]at hb|refine bg hT Ea ?_|omega|refine ao ?_|decide|assumption)<;>conv=>whnf))
 refine .ret _ ?_;conv=>whnf
 refine⟨[],⟨?_,rfl⟩,trivial⟩;conv=>lhs;whnf
 rfl
theorem Ni (a b:List aZ)(ha:ku a)(hb':ku b)(hn:a.length+b.length<20):
 ae Tryz.prog 43 [.d (fN a),.d (fN b)] [] (fun x r=>x= .tup [.d (if y7 a b=0 then fN (bB a b)else .nilsl),.d (.int .i64 (y7 a b))]∧r= []):=by
 have hml:=A5 a b;have hfl: [a,b].flatten=a++b:=by simp
 have h156:=Ek [a,b] (by simp) (by simp[eX];omega);rw[hfl]at h156;have h62:=I3 90 kq (a++b) (by rw[List.length_append];exact hn) (fun p q _ _=>JV p q);have hil:(bc kq (a++b)).length=a.length+b.length:=by unfold bc;rw[List.length_reverse,fp,List.length_append]
 have h160:=Kq (bc kq (a++b)) (by omega);rw[show mZ (bc kq (a++b)) (bc kq (a++b)).length=bB a b from rfl]at h160;refine aj hT Tryz.func43 Tryz.call43 ?_;conv=>whnf
 repeat' (first|(refine ab (Fm a ha) rfl rfl ?_;rotate_right;conv=>whnf)|(refine ab (Fm b hb') rfl rfl ?_;rotate_right;conv=>whnf)|((first|refine ap (kM [_,_] (by simp)) ⟨ai (by rfl) (by rfl),trivial⟩ rfl ?_|refine aa ?_ ?_<;>intro hb<;>try simp only[am]at hb|omega|refine ao ?_|decide|assumption)<;>conv=>whnf))
 · have hE:y7 a b=ah [cx a,cx b]:=by unfold y7;rw[if_pos hb]
   rw[hE,if_neg hb];refine .ret _ ?_;conv=>whnf
   refine⟨[],⟨congrArg SV.tup ?_,rfl⟩,trivial⟩;repeat' (refine dt ?_ ?_)
   all_goals (conv=>lhs;whnf)
   all_goals try(with_reducible rfl)
   all_goals rfl
 have hE:y7 a b=if a8 (xV (bB a b)) (bB a b).length≠0 then 13 else if 1000<(bB a b).length then 2 else 0:=by unfold y7;rw[if_neg (fun h=>h hb)]
 rw[hE];refine dP.of h156 [(6,24)] rfl ⟨ai (l:= [a,b]) rfl rfl,trivial⟩ trivial rfl rfl ?_;rintro x rout ⟨rfl,rfl⟩;refine⟨rfl,?_⟩;conv=>whnf
 repeat' ((first|refine aa ?_ ?_<;>intro hb<;>try simp only[am]at hb|omega|refine ao ?_|decide|assumption)<;>conv=>whnf)
 refine bP h62 [(1000001,24)] ?_;conv=>whnf
 repeat' ((first|refine aa ?_ ?_<;>intro hb<;>try simp only[am]at hb|omega|refine ao ?_|decide|assumption)<;>conv=>whnf)
 refine dp h160 [(1000001,24),(59,100)] ?_;rintro x rout ⟨d,hd,rfl,rfl⟩;rcases hd with rfl|rfl
 · refine⟨rfl,?_⟩;conv=>whnf
   repeat' ((first|refine aa ?_ ?_<;>intro hb<;>try simp only[am]at hb|omega|refine ao ?_|decide|assumption)<;>conv=>whnf)
   refine af hT (C:= []) (ι:=Nat) (fun i=>i≤(bB a b).length∧∀j,j<i→xV (bB a b) j=0) (fun i=>aJ [(7,.buf 7),(8,.mp 8),(30,.buf 7),(31,.d (.int .i64 (bB a b).length)),(32,.d (.int .i64 i))] [(7,Ln (bB a b)),(8,Lr ((bB a b).take i))]) (fun i=>(bB a b).length - i) 0 ⟨by omega,by omega⟩ ?_ ?_
   · refine ac [(7,24),(8,29)] rfl rfl ⟨lr,lr,lr,lr,lr,trivial⟩ ⟨rr,bn (fun key hk=> ?_),trivial⟩;obtain⟨z1,z2,rfl⟩:=tF hk;exact⟨rfl,rfl⟩
   rintro i ⟨p1,p2⟩;have e1:=ek i;conv=>whnf
   repeat' (first|(refine And.intro (rfl:bt _=some [DV.bool false]) ?_;conv=>whnf)|(simp only[Nat.beq_refl,cond_true];conv=>whnf)|((first|refine aa ?_ ?_<;>intro hb<;>try simp only[am]at hb|omega|refine ao ?_|decide|assumption)<;>conv=>whnf))
   · have hbd:oH ((bB a b).take i) ((bB a b).getD i bH)=true:=hb;have h13:xV (bB a b) i=13:=by unfold xV;rw[if_pos hbd]
     have hf:a8 (xV (bB a b)) (bB a b).length=13:=aP (by omega) p2 (by decide) h13;rw[hf];refine .ret _ ?_;conv=>whnf
     refine⟨[],⟨congrArg SV.tup ?_,rfl⟩,trivial⟩;repeat' (refine dt ?_ ?_)
     all_goals (conv=>lhs;whnf)
     all_goals try(with_reducible rfl)
     all_goals rfl
   · have hbd:oH ((bB a b).take i) ((bB a b).getD i bH)=false:=hb;exact⟨i+1,⟨by omega,aL p2 (by unfold xV;rw[if_neg (by rw[hbd];simp)])⟩,by omega,ac [(7,7),(8,8)] rfl rfl ⟨lr,lr,lr,lr,lr,trivial⟩ ⟨rr,yL (x:=(bB a b).getD (i:Int).toNat bH) (by omega) (by rw[e1]),trivial⟩⟩
   · have hf:a8 (xV (bB a b)) (bB a b).length=0:=ay (fun j hj=>p2 j (by omega));have hv:(if a8 (xV (bB a b)) (bB a b).length≠0 then(13:Int)else if 1000<(bB a b).length then 2 else 0)=0:=by rw[hf,if_neg (by simp),if_neg (by omega)]
     rw[hv,if_pos rfl];refine .freeze _ 7 96 4 _ _ rfl ?_;refine .ret _ ?_;conv=>whnf
     refine⟨[],⟨congrArg SV.tup ?_,rfl⟩,trivial⟩;repeat' (refine dt ?_ ?_)
     all_goals (conv=>lhs;whnf)
     all_goals try(with_reducible rfl)
 · refine⟨rfl,?_⟩;conv=>whnf
   repeat' ((first|refine aa ?_ ?_<;>intro hb<;>try simp only[am]at hb|omega|refine ao ?_|decide|assumption)<;>conv=>whnf)
   refine af hT (C:= []) (ι:=Nat) (fun i=>i≤(bB a b).length∧∀j,j<i→xV (bB a b) j=0) (fun i=>aJ [(7,.buf 7),(8,.mp 8),(30,.buf 7),(31,.d (.int .i64 (bB a b).length)),(32,.d (.int .i64 i))] [(7,Ln (bB a b)),(8,Lr ((bB a b).take i))]) (fun i=>(bB a b).length - i) 0 ⟨by omega,by omega⟩ ?_ ?_
   · refine ac [(7,100),(8,29)] rfl rfl ⟨lr,lr,lr,lr,lr,trivial⟩ ⟨rr,bn (fun key hk=> ?_),trivial⟩;obtain⟨z1,z2,rfl⟩:=tF hk;exact⟨rfl,rfl⟩
   rintro i ⟨p1,p2⟩;have e1:=ek i;conv=>whnf
   repeat' (first|(refine And.intro (rfl:bt _=some [DV.bool false]) ?_;conv=>whnf)|(simp only[Nat.beq_refl,cond_true];conv=>whnf)|((first|refine aa ?_ ?_<;>intro hb<;>try simp only[am]at hb|omega|refine ao ?_|decide|assumption)<;>conv=>whnf))
   · have hbd:oH ((bB a b).take i) ((bB a b).getD i bH)=true:=hb;have h13:xV (bB a b) i=13:=by unfold xV;rw[if_pos hbd]
     have hf:a8 (xV (bB a b)) (bB a b).length=13:=aP (by omega) p2 (by decide) h13;rw[hf];refine .ret _ ?_;conv=>whnf
     refine⟨[],⟨congrArg SV.tup ?_,rfl⟩,trivial⟩;repeat' (refine dt ?_ ?_)
     all_goals (conv=>lhs;whnf)
     all_goals try(with_reducible rfl)
     all_goals rfl
   · have hbd:oH ((bB a b).take i) ((bB a b).getD i bH)=false:=hb;exact⟨i+1,⟨by omega,aL p2 (by unfold xV;rw[if_neg (by rw[hbd];simp)])⟩,by omega,ac [(7,7),(8,8)] rfl rfl ⟨lr,lr,lr,lr,lr,trivial⟩ ⟨rr,yL (x:=(bB a b).getD (i:Int).toNat bH) (by omega) (by rw[e1]),trivial⟩⟩
   · have hf:a8 (xV (bB a b)) (bB a b).length=0:=ay (fun j hj=>p2 j (by omega));have hv:(if a8 (xV (bB a b)) (bB a b).length≠0 then(13:Int)else if 1000<(bB a b).length then 2 else 0)=0:=by rw[hf,if_neg (by simp),if_neg (by omega)]
     rw[hv,if_pos rfl];refine .freeze _ 7 96 4 _ _ rfl ?_;refine .ret _ ?_;conv=>whnf
     refine⟨[],⟨congrArg SV.tup ?_,rfl⟩,trivial⟩;repeat' (refine dt ?_ ?_)
     all_goals (conv=>lhs;whnf)
     all_goals try(with_reducible rfl)
theorem OG:ae Tryz.prog 14 [] [] (fun x r=>x= .d (.bool true)∧r= []):=by
 have hE:cx [⟨1,[100],1,[120]⟩]=0:=by decide
 have hm:y7 [⟨1,[100],1,[120]⟩] []=0:=by decide
 have h:=Ni [⟨1,[100],1,[120]⟩] [] ⟨by simp,by intro x hx;simp only[List.mem_cons,List.not_mem_nil,or_false]at hx;subst hx;simp[rQ,wJ]⟩ ⟨by simp,by simp⟩ (by simp);rw[if_pos hm,hm]at h;have hl:(bB [⟨1,[100],1,[120]⟩] [])= [⟨1,[100],1,[120]⟩]:=by decide
 rw[hl]at h;refine aj hT Tryz.func14 Tryz.call14 ?_;conv=>whnf
 repeat' ((first|refine ap h ⟨ai (by rfl) (by rfl),aI,trivial⟩ rfl ?_|refine aa ?_ ?_<;>intro hb<;>try simp only[am]at hb|omega|refine ao ?_|decide|assumption)<;>conv=>whnf)
 all_goals first
  | (refine .ret _ ?_
     conv=>whnf
     refine⟨[],⟨?_,rfl⟩,trivial⟩
     conv=>lhs;whnf;simp)
  | (refine .ret _ ?_
     conv=>whnf
     refine⟨[],⟨?_,rfl⟩,trivial⟩
     conv=>lhs;whnf;done)
def jH:TL:= [(24,[(0,[]),(1,[0]),(2,[0]),(4,[0,1,2]),(5,[0,1,2]),(3,[4,5]),(6,[])])]
theorem OR (l:List gd)(hk:kD l):ae Tryz.prog 72 [.d (dI l)] [] (fun x r=>x= .d (.int .i64 (dD l))∧r= []):=by
 have hlen:=hk.1;refine aj hT Tryz.func72 Tryz.call72 ?_;conv=>whnf
 refine aa (fun h0=> ?_) (fun h0=> ?_)
 · simp at h0;conv=>whnf
   refine .ret _ ?_;conv=>whnf
   refine⟨[],⟨?_,rfl⟩,trivial⟩;conv=>lhs;whnf
   unfold dD;rw[if_pos (by omega)]
 simp at h0;conv=>whnf
 refine af hT (C:= []) (ι:=Nat) (fun i=>i≤l.length∧∀j,j<i→nE l j=0) (fun i=>aJ [(0,.d (dI l)),(3,.d (.str (if i=0 then []else(l.getD (i - 1) cD).key))),(13,.d (dI l)),(14,.d (.int .i64 l.length)),(15,.d (.int .i64 i))] []) (fun i=>l.length - i) 0 ⟨by omega,by omega⟩ (by exact a7 []) ?_;rintro i ⟨p1,p2⟩;have hx:(i:Int)<l.length→(l.getD (i:Int).toNat cD).key.length≤2^40∧(l.getD (i:Int).toNat cD).up.length≤2^40:=fun hi=>hk.2 _ (al (by omega))
 have e1:=ek i
 have hbad:∀e:Int,i<l.length→e≠0→nE l i=e→dD l=e:=fun e h h1 h2=>by
  unfold dD;rw[if_neg (by omega),aP h p2 h1 h2,ah,if_neg h1]
 rcases Nat.lt_or_ge i l.length with hi|hi
 · conv =>whnf
   repeat' (first|(refine ab (vB _ (hx (by omega)).1) rfl rfl ?_;rotate_right;conv=>whnf)|(refine ab (vB _ (hx (by omega)).2) rfl rfl ?_;rotate_right;conv=>whnf)|((first|refine aa ?_ ?_<;>intro hb<;>try simp only[am]at hb|refine bg hT jH ?_|omega|refine ao ?_|decide|assumption)<;>conv=>whnf))
   all_goals try(exfalso;omega)
   all_goals first
    |(refine⟨i+1,⟨by omega,aL p2 (by clear p2 hbad hk hx;simp only[e1,aE]at*;unfold nE dv;grind)⟩,by omega,ac [] rfl rfl ⟨lr,(by rw[show(if i+1=0 then([]:List UInt8)else(l.getD (i+1 - 1) cD).key)=(l.getD (i:Int).toNat cD).key from by rw[if_neg (by omega),e1,Nat.add_sub_cancel]];exact lr),lr,lr,lr,trivial⟩ trivial⟩)
    | (refine .ret _ ?_
       conv=>whnf
       refine⟨[],⟨?_,rfl⟩,trivial⟩;conv=>lhs;whnf
       congr 2
       exact(hbad _ (by omega) (by decide) (by clear p2 hbad hk hx;simp only[e1,aE]at*;unfold nE dv;grind[gu,iH])).symm)
 have hil:i=l.length:=by omega
 subst hil;have P1:=ay p2;clear hbad hx p2;conv=>whnf
 repeat' ((first|refine aa ?_ ?_<;>intro hb<;>try simp only[am]at hb|refine bg hT jH ?_|omega|refine ao ?_|decide|assumption)<;>conv=>whnf)
 all_goals try(exfalso;omega)
 refine af hT (C:= []) (ι:=Nat) (fun i=>i≤l.length∧∀j,j<i→lx l j=0) (fun i=>aJ [(0,.d (dI l)),(42,.d (dI l)),(43,.d (.int .i64 l.length)),(44,.d (.int .i64 i))] []) (fun i=>l.length - i) 0 ⟨by omega,by omega⟩ (by exact a7 []) ?_;rintro i ⟨p1,p2⟩;have e1:=ek i
 have hbad:∀e:Int,i<l.length→e≠0→lx l i=e→dD l=e:=fun e h h1 h2=>by
  unfold dD;rw[if_neg (by omega),ah,if_pos P1,ah,aP h p2 h1 h2,if_neg h1]
 rcases Nat.lt_or_ge i l.length with hi|hi
 · conv =>whnf
   repeat' (first|(refine ab (Lb l (by omega) _) rfl rfl ?_;rotate_right;conv=>whnf)|((first|refine aa ?_ ?_<;>intro hb<;>try simp only[am]at hb|refine bg hT jH ?_|omega|refine ao ?_|decide|assumption)<;>conv=>whnf))
   all_goals try(exfalso;omega)
   all_goals first
    |(refine⟨i+1,⟨by omega,aL p2 (by clear p2 hbad hk;simp only[e1]at*;unfold lx;grind)⟩,by omega,(by exact a7 [])⟩)
    | (refine .ret _ ?_
       conv=>whnf
       refine⟨[],⟨?_,rfl⟩,trivial⟩;conv=>lhs;whnf
       congr 2
       exact(hbad _ (by omega) (by decide) (by clear p2 hbad hk;simp only[e1]at*;unfold lx;grind)).symm)
 have hil:i=l.length:=by omega
 subst hil;have P2:=ay p2
 have hu:tj l:=fun c hc hn=>by
  obtain⟨j,hj,rfl⟩:=bI (d:=cD) hc;have:=p2 j hj;unfold lx at this;rcases Int.lt_or_le (fD l (l.getD j cD).up) 0 with q|q
  · rw[if_pos ⟨hn,q⟩]at this;cases this
  · exact q
 clear hbad p2;conv=>whnf
 repeat' ((first|refine aa ?_ ?_<;>intro hb<;>try simp only[am]at hb|refine bg hT jH ?_|omega|refine ao ?_|decide|assumption)<;>conv=>whnf)
 all_goals try(exfalso;omega)
 refine af hT (C:= []) (ι:=Nat) (fun i=>i≤l.length∧∀j,j<i→nq l j=0) (fun i=>aJ [(0,.d (dI l)),(59,.d (dI l)),(60,.d (.int .i64 l.length)),(61,.d (.int .i64 i))] []) (fun i=>l.length - i) 0 ⟨by omega,by omega⟩ (by exact a7 []) ?_;rintro i ⟨p1,p2⟩;have e1:=ek i
 have hbad:∀e:Int,i<l.length→e≠0→nq l i=e→dD l=e:=fun e h h1 h2=>by
  unfold dD;rw[if_neg (by omega),ah,if_pos P1,ah,if_pos P2,ah,aP h p2 h1 h2,if_neg h1]
 rcases Nat.lt_or_ge i l.length with hi|hi
 · have hin:=vF (l:=l) (c:=l.getD (i:Int).toNat cD) (al (by omega));have hal:=Aw l (l.length+1) (l.getD (i:Int).toNat cD).key;have hlo:=z8 hu hin;conv=>whnf
   repeat' (first|(refine ab (M9 l hlen hu _ hin) rfl rfl ?_;rotate_right;conv=>whnf)|(refine ab (Kg _ (by omega) _) rfl rfl ?_;rotate_right;conv=>whnf)|((first|refine aa ?_ ?_<;>intro hb<;>try simp only[am]at hb|refine bg hT jH ?_|omega|refine ao ?_|decide|assumption)<;>conv=>whnf))
   all_goals try(exfalso;omega)
   all_goals first
    |(refine⟨i+1,⟨by omega,aL p2 (by clear p2 hbad hk;simp only[e1]at*;unfold nq;grind)⟩,by omega,(by exact a7 [])⟩)
    | (refine .ret _ ?_
       conv=>whnf
       refine⟨[],⟨?_,rfl⟩,trivial⟩;conv=>lhs;whnf
       congr 2
       exact(hbad _ (by omega) (by decide) (by clear p2 hbad hk;simp only[e1]at*;unfold nq;grind)).symm)
 have hil:i=l.length:=by omega
 subst hil;have P3:=ay p2;conv=>whnf
 repeat' ((first|refine aa ?_ ?_<;>intro hb<;>try simp only[am]at hb|refine bg hT jH ?_|omega|refine ao ?_|decide|assumption)<;>conv=>whnf)
 all_goals try(exfalso;omega)
 refine .ret _ ?_;conv=>whnf
 refine⟨[],⟨?_,rfl⟩,trivial⟩;conv=>lhs;whnf
 unfold dD;rw[if_neg (by omega),ah,if_pos P1,ah,if_pos P2,ah,if_pos P3];rfl
theorem OT (l : List lB)(hk:xY l):ae Tryz.prog 71 [.d (iT l)] [] (fun x r=>x= .d (.int .i64 (gj l))∧r= []):=by
 have hlen:=hk.1;refine aj hT Tryz.func71 Tryz.call71 ?_;conv=>whnf
 refine aa (fun h0=> ?_) (fun h0=> ?_)
 · simp at h0;conv=>whnf
   refine .ret _ ?_;conv=>whnf
   refine⟨[],⟨?_,rfl⟩,trivial⟩;conv=>lhs;whnf
   unfold gj;rw[if_pos (by omega)]
 simp at h0;conv=>whnf
 refine af hT (C:= []) (ι:=Nat) (fun i=>i≤l.length∧∀j,j<i→pI l j=0) (fun i=>aJ [(3,.d (.str (if i=0 then []else(l.getD (i - 1) fZ).key))),(11,.d (iT l)),(12,.d (.int .i64 l.length)),(13,.d (.int .i64 i))] []) (fun i=>l.length - i) 0 ⟨by omega,by omega⟩ (by exact a7 []) ?_;rintro i ⟨p1,p2⟩;have hx:(i:Int)<l.length→(l.getD (i:Int).toNat fZ).key.length≤2^40:=fun hi=>hk.2 _ (al (by omega))
 have e1:=ek i
 have hbad:∀e:Int,i<l.length→e≠0→pI l i=e→gj l=e:=fun e h h1 h2=>by
  unfold gj;rw[if_neg (by omega)];exact aP h p2 h1 h2
 rcases Nat.lt_or_ge i l.length with hi|hi
 · obtain ⟨s,hs⟩:∃s,s=l.getD (i:Int).toNat fZ:=⟨_,rfl⟩;conv=>whnf
   repeat' (first|(refine ab (vB _ (hx (by omega))) rfl rfl ?_;rotate_right;conv=>whnf)|((first|refine aa ?_ ?_<;>intro hb<;>try simp only[am]at hb|omega|refine ao ?_|decide|assumption)<;>conv=>whnf))
   all_goals try(exfalso;omega)
   all_goals first
    | (refine .ret _ ?_
       conv=>whnf
       refine⟨[],⟨?_,rfl⟩,trivial⟩;conv=>lhs;whnf
       congr 2
       exact(hbad _ (by omega) (by decide) (by clear p2 hbad hk hx;simp only[e1,aE]at*;unfold pI dv;grind [gu,iH])).symm)
    | (have hok:pI l i=if vD s=false then 1 else 0:=by
        clear p2 hbad hk hx;simp only[e1,aE]at*;subst hs;unfold pI dv;grind [gu,iH]
       refine af hT (C:= []) (ι:=Nat) (fun k=>k≤7∧∀j,j<k→uc s j=true) (fun k=>aJ [(3,.d (.str s.key)),(11,.d (iT l)),(12,.d (.int .i64 l.length)),(13,.d (.int .i64 i)),(30,.agg (((pG s).drop 1).map .d)),(31,.d (.int .i64 k))] []) (fun k=>7 - k) 0 ⟨by omega,by omega⟩ (by rw[hs];exact(by exact a7 [])) ?_;rintro k ⟨q1,q2⟩;have hkk:k=7∨k=0∨k=1∨k=2∨k=3∨k=4∨k=5∨k=6:=by omega
       rcases hkk with rfl|rfl|rfl|rfl|rfl|rfl|rfl|rfl
       · rw[zT q2]at hok;conv=>whnf
         repeat' ((first|refine aa ?_ ?_<;>intro hb<;>try simp only[am]at hb|omega|refine ao ?_|decide|assumption)<;>conv=>whnf)
         exact⟨i+1,⟨by omega,aL p2 (by rw[hok];rfl)⟩,by omega,ac [] rfl rfl ⟨(by rw[show(if i+1=0 then([]:List UInt8)else(l.getD (i+1 - 1) fZ).key)=s.key from by rw[if_neg (by omega),hs,e1,Nat.add_sub_cancel]];exact lr),lr,lr,lr,trivial⟩ trivial⟩
       · conv =>whnf
         repeat' (first|(refine ab (kf _ _ _) rfl rfl ?_;rotate_right;conv=>whnf)|((first|refine aa ?_ ?_<;>intro hb<;>try simp only[am]at hb|omega|refine ao ?_|decide|assumption)<;>conv=>whnf))
         all_goals first
          | (refine .ret _ ?_
             conv=>whnf
             refine⟨[],⟨?_,rfl⟩,trivial⟩;conv=>lhs;whnf
             congr 2
             exact(hbad _ (by omega) (by decide) (by rw[hok,fT (j:=0) (by omega) (by show decide ((0≤s.h 0∧s.h 0≤s.h 1)∧s.h 1≤1440)=false;rw[decide_eq_false_iff_not];omega)];rfl)).symm)
          |exact⟨1,⟨by omega,aV (p:=fun j=>uc s j=true) (i:=0) q2 (by show decide ((0≤s.h 0∧s.h 0≤s.h 1)∧s.h 1≤1440)=true;rw[decide_eq_true_eq];omega)⟩,by omega,(by exact a7 [])⟩
       · conv =>whnf
         repeat' (first|(refine ab (kf _ _ _) rfl rfl ?_;rotate_right;conv=>whnf)|((first|refine aa ?_ ?_<;>intro hb<;>try simp only[am]at hb|omega|refine ao ?_|decide|assumption)<;>conv=>whnf))
         all_goals first
          | (refine .ret _ ?_
             conv=>whnf
             refine⟨[],⟨?_,rfl⟩,trivial⟩;conv=>lhs;whnf
             congr 2
             exact(hbad _ (by omega) (by decide) (by rw[hok,fT (j:=1) (by omega) (by show decide ((0≤s.h 2∧s.h 2≤s.h 3)∧s.h 3≤1440)=false;rw[decide_eq_false_iff_not];omega)];rfl)).symm)
          |exact⟨2,⟨by omega,aV (p:=fun j=>uc s j=true) (i:=1) q2 (by show decide ((0≤s.h 2∧s.h 2≤s.h 3)∧s.h 3≤1440)=true;rw[decide_eq_true_eq];omega)⟩,by omega,(by exact a7 [])⟩
       · conv =>whnf
         repeat' (first|(refine ab (kf _ _ _) rfl rfl ?_;rotate_right;conv=>whnf)|((first|refine aa ?_ ?_<;>intro hb<;>try simp only[am]at hb|omega|refine ao ?_|decide|assumption)<;>conv=>whnf))
         all_goals first
          | (refine .ret _ ?_
             conv=>whnf
             refine⟨[],⟨?_,rfl⟩,trivial⟩;conv=>lhs;whnf
             congr 2
             exact(hbad _ (by omega) (by decide) (by rw[hok,fT (j:=2) (by omega) (by show decide ((0≤s.h 4∧s.h 4≤s.h 5)∧s.h 5≤1440)=false;rw[decide_eq_false_iff_not];omega)];rfl)).symm)
          |exact⟨3,⟨by omega,aV (p:=fun j=>uc s j=true) (i:=2) q2 (by show decide ((0≤s.h 4∧s.h 4≤s.h 5)∧s.h 5≤1440)=true;rw[decide_eq_true_eq];omega)⟩,by omega,(by exact a7 [])⟩
       · conv =>whnf
         repeat' (first|(refine ab (kf _ _ _) rfl rfl ?_;rotate_right;conv=>whnf)|((first|refine aa ?_ ?_<;>intro hb<;>try simp only[am]at hb|omega|refine ao ?_|decide|assumption)<;>conv=>whnf))
         all_goals first
          | (refine .ret _ ?_
             conv=>whnf
             refine⟨[],⟨?_,rfl⟩,trivial⟩;conv=>lhs;whnf
             congr 2
             exact(hbad _ (by omega) (by decide) (by rw[hok,fT (j:=3) (by omega) (by show decide ((0≤s.h 6∧s.h 6≤s.h 7)∧s.h 7≤1440)=false;rw[decide_eq_false_iff_not];omega)];rfl)).symm)
          |exact⟨4,⟨by omega,aV (p:=fun j=>uc s j=true) (i:=3) q2 (by show decide ((0≤s.h 6∧s.h 6≤s.h 7)∧s.h 7≤1440)=true;rw[decide_eq_true_eq];omega)⟩,by omega,(by exact a7 [])⟩
       · conv =>whnf
         repeat' (first|(refine ab (kf _ _ _) rfl rfl ?_;rotate_right;conv=>whnf)|((first|refine aa ?_ ?_<;>intro hb<;>try simp only[am]at hb|omega|refine ao ?_|decide|assumption)<;>conv=>whnf))
         all_goals first
          | (refine .ret _ ?_
             conv=>whnf
             refine⟨[],⟨?_,rfl⟩,trivial⟩;conv=>lhs;whnf
             congr 2
             exact(hbad _ (by omega) (by decide) (by rw[hok,fT (j:=4) (by omega) (by show decide ((0≤s.h 8∧s.h 8≤s.h 9)∧s.h 9≤1440)=false;rw[decide_eq_false_iff_not];omega)];rfl)).symm)
          |exact⟨5,⟨by omega,aV (p:=fun j=>uc s j=true) (i:=4) q2 (by show decide ((0≤s.h 8∧s.h 8≤s.h 9)∧s.h 9≤1440)=true;rw[decide_eq_true_eq];omega)⟩,by omega,(by exact a7 [])⟩
       · conv =>whnf
         repeat' (first|(refine ab (kf _ _ _) rfl rfl ?_;rotate_right;conv=>whnf)|((first|refine aa ?_ ?_<;>intro hb<;>try simp only[am]at hb|omega|refine ao ?_|decide|assumption)<;>conv=>whnf))
         all_goals first
          | (refine .ret _ ?_
             conv=>whnf
             refine⟨[],⟨?_,rfl⟩,trivial⟩;conv=>lhs;whnf
             congr 2
             exact(hbad _ (by omega) (by decide) (by rw[hok,fT (j:=5) (by omega) (by show decide ((0≤s.h 10∧s.h 10≤s.h 11)∧s.h 11≤1440)=false;rw[decide_eq_false_iff_not];omega)];rfl)).symm)
          |exact⟨6,⟨by omega,aV (p:=fun j=>uc s j=true) (i:=5) q2 (by show decide ((0≤s.h 10∧s.h 10≤s.h 11)∧s.h 11≤1440)=true;rw[decide_eq_true_eq];omega)⟩,by omega,(by exact a7 [])⟩
       · conv =>whnf
         repeat' (first|(refine ab (kf _ _ _) rfl rfl ?_;rotate_right;conv=>whnf)|((first|refine aa ?_ ?_<;>intro hb<;>try simp only[am]at hb|omega|refine ao ?_|decide|assumption)<;>conv=>whnf))
         all_goals first
          | (refine .ret _ ?_
             conv=>whnf
             refine⟨[],⟨?_,rfl⟩,trivial⟩;conv=>lhs;whnf
             congr 2
             exact(hbad _ (by omega) (by decide) (by rw[hok,fT (j:=6) (by omega) (by show decide ((0≤s.h 12∧s.h 12≤s.h 13)∧s.h 13≤1440)=false;rw[decide_eq_false_iff_not];omega)];rfl)).symm)
          |exact⟨7,⟨by omega,aV (p:=fun j=>uc s j=true) (i:=6) q2 (by show decide ((0≤s.h 12∧s.h 12≤s.h 13)∧s.h 13≤1440)=true;rw[decide_eq_true_eq];omega)⟩,by omega,(by exact a7 [])⟩)
 have hil:i=l.length:=by omega
 subst hil;conv=>whnf
 repeat' ((first|refine aa ?_ ?_<;>intro hb<;>try simp only[am]at hb|omega|refine ao ?_|decide|assumption)<;>conv=>whnf)
 all_goals try(exfalso;omega)
 refine .ret _ ?_;conv=>whnf
 refine⟨[],⟨?_,rfl⟩,trivial⟩;conv=>lhs;whnf
 congr 2
 unfold gj;rw[if_neg (by omega),ay p2]
def lF:TL:= [(33,[(0,[]),(1,[]),(2,[]),(3,[]),(4,[3]),(5,[3]),(6,[]),(7,[]),(8,[3,4,5,6,7]),(9,[]),(10,[]),(11,[]),(12,[])])]
theorem z21 (f:nc)(hk:qF f):ae Tryz.prog 37 [flt f] [] (fun x r=>x= .d (.int .i64 (iL f))∧r= []):=by
 have hlv:=hk.veh.1;have hlp:=hk.plt.1;refine aj hT Tryz.func37 Tryz.call37 ?_;conv=>whnf
 repeat' (first|(refine ab (OT f.sta hk.sta) rfl rfl ?_;rotate_right;conv=>whnf)|(refine ab (OR f.cls hk.cls) rfl rfl ?_;rotate_right;conv=>whnf)|((first|refine aa ?_ ?_<;>intro hb<;>try simp only[am]at hb|refine bg hT lF ?_|omega|refine ao ?_|decide|assumption)<;>conv=>whnf))
 · refine .ret _ ?_;conv=>whnf
   refine⟨[],⟨?_,rfl⟩,trivial⟩;conv=>lhs;whnf
   congr 2
   unfold iL kL;simp[ah,hb]
 · refine .ret _ ?_;conv=>whnf
   refine⟨[],⟨?_,rfl⟩,trivial⟩;conv=>lhs;whnf
   congr 2
   have h1:gj f.sta=0:=by assumption
   unfold iL kL;simp[ah,h1,hb]
 · refine .ret _ ?_;conv=>whnf
   refine⟨[],⟨?_,rfl⟩,trivial⟩;conv=>lhs;whnf
   congr 2
   have h1:gj f.sta=0:=by assumption
   have h2:dD f.cls=0:=by assumption
   unfold iL kL;simp[ah,h1,h2,show 500<f.veh.length by omega]
 have F0:kL f=0:=by
  have h1:gj f.sta=0:=by assumption
  have h2:dD f.cls=0:=by assumption
  unfold kL;simp[ah,h1,h2,show ¬ 500<f.veh.length by omega]
 refine af hT (C:= []) (ι:=Nat) (fun i=>i≤f.veh.length∧∀j,j<i→kG f j=0) (fun i=>aJ [(1,.ptr 1 0),(5,.d (.str (if i=0 then []else(f.veh.getD (i - 1) dg).key))),(28,.d (mg f.veh)),(29,.d (.int .i64 f.veh.length)),(30,.d (.int .i64 i))] [(1,CK f)]) (fun i=>f.veh.length - i) 0 ⟨by omega,by omega⟩ (by exact a7 [(1,1)]) ?_;rintro i ⟨p1,p2⟩;have hx:(i:Int)<f.veh.length→(f.veh.getD (i:Int).toNat dg).key.length≤2^40∧(f.veh.getD (i:Int).toNat dg).cls.length≤2^40:=fun hi=>hk.veh.2 _ (al (by omega))
 have e1:=ek i
 have hbad:∀e:Int,i<f.veh.length→e≠0→kG f i=e→iL f=e:=fun e h h1 h2=>by
  unfold iL;rw[if_neg (by omega),aP h p2 h1 h2,if_pos h1]
 rcases Nat.lt_or_ge i f.veh.length with hi|hi
 · conv =>whnf
   repeat' (first|(refine ab (vB _ (hx (by omega)).1) rfl rfl ?_;rotate_right;conv=>whnf)|(refine ab (Lb f.cls (Nat.le_trans hk.cls.1 (by decide)) _) rfl rfl ?_;rotate_right;conv=>whnf)|((first|refine aa ?_ ?_<;>intro hb<;>try simp only[am]at hb|refine bg hT lF ?_|omega|refine ao ?_|decide|assumption)<;>conv=>whnf))
   all_goals try(exfalso;omega)
   all_goals first
    |(refine⟨i+1,⟨by omega,aL p2 (by clear p2 hbad hk hx;simp only[e1]at*;unfold kG dv;grind [gu,iH])⟩,by omega,ac [(1,1)] rfl rfl ⟨lr,(by rw[show(if i+1=0 then([]:List UInt8)else(f.veh.getD (i+1 - 1) dg).key)=(f.veh.getD (i:Int).toNat dg).key from by rw[if_neg (by omega),e1,Nat.add_sub_cancel]];exact lr),lr,lr,lr,trivial⟩ ⟨rr,trivial⟩⟩)
    | (refine .ret _ ?_
       conv=>whnf
       refine⟨[],⟨?_,rfl⟩,trivial⟩;conv=>lhs;whnf
       congr 2
       exact(hbad _ (by omega) (by decide) (by clear p2 hbad hk hx;simp only[e1]at*;unfold kG dv;grind [gu,iH])).symm)
 have hil:i=f.veh.length:=by omega
 subst hil;have F1:=ay p2;clear hbad hx p2;conv=>whnf
 repeat' ((first|refine aa ?_ ?_<;>intro hb<;>try simp only[am]at hb|refine bg hT lF ?_|omega|refine ao ?_|decide|assumption)<;>conv=>whnf)
 all_goals try(exfalso;omega)
 · refine .ret _ ?_;conv=>whnf
   refine⟨[],⟨?_,rfl⟩,trivial⟩;conv=>lhs;whnf
   congr 2
   unfold iL;rw[if_neg (by omega),if_neg (by omega),if_pos (by omega)]
 refine af hT (C:= []) (ι:=Nat) (fun i=>i≤f.plt.length∧∀j,j<i→jJ f j=0) (fun i=>aJ [(1,.ptr 1 0),(59,.d (vl f.plt)),(60,.d (.int .i64 f.plt.length)),(61,.d (.int .i64 i))] [(1,CK f)]) (fun i=>f.plt.length - i) 0 ⟨by omega,by omega⟩ (by exact a7 [(1,1)]) ?_;rintro i ⟨p1,p2⟩;have hx:(i:Int)<f.plt.length→(-2^40≤(f.plt.getD (i:Int).toNat bD).frm∧(f.plt.getD (i:Int).toNat bD).frm≤2^40)∧(f.plt.getD (i:Int).toNat bD).veh.length≤2^40∧(f.plt.getD (i:Int).toNat bD).plt.length≤2^40:=fun hi=>hk.plt.2 _ (al (by omega))
 have e1:=ek i
 have hbad:∀e:Int,i<f.plt.length→e≠0→jJ f i=e→iL f=e:=fun e h h1 h2=>by
  unfold iL;rw[if_neg (by omega),if_neg (by omega),if_neg (by omega),aP h p2 h1 h2]
 rcases Nat.lt_or_ge i f.plt.length with hi|hi
 · conv =>whnf
   have hx2:=hx (by omega);have hpb:(i:Int)>0→(-2^40≤(f.plt.getD (0+((i:Int) - 1).toNat) bD).frm∧(f.plt.getD (0+((i:Int) - 1).toNat) bD).frm≤2^40):=fun h=>(hk.plt.2 _ (al (by omega))).1
   have hz:(0:Nat)+((i:Int) - 1).toNat=i - 1:=by omega
   repeat' (first|(refine ab (Gd _) rfl rfl ?_;rotate_right;conv=>whnf)|(refine ab (z85 f (by omega) _) rfl rfl ?_;rotate_right;conv=>whnf)|(refine ab (O5 _ hx2.2.2) rfl rfl ?_;rotate_right;conv=>whnf)|(refine ab (O4 (f.plt.getD (0+((i:Int) - 1).toNat) bD) (f.plt.getD (i:Int).toNat bD) (hpb (by omega)) hx2.1) rfl rfl ?_;rotate_right;conv=>whnf)|(refine dP.of (Pd (f.plt.take i) (by rw[List.length_take];omega) (f.plt.getD (i:Int).toNat bD)) [(1000001,9)] rfl ⟨cO (by rw[List.length_take];omega) (fun j hj=> ?_),lr,trivial⟩ ⟨rr,trivial⟩ rfl rfl ?_;rotate_right;rintro x rout ⟨rfl,rfl⟩;refine⟨rfl,?_⟩;conv=>whnf)|((first|refine aa ?_ ?_<;>intro hb<;>try simp only[am]at hb|refine bg hT lF ?_|omega|refine ao ?_|decide|assumption)<;>conv=>whnf))
   all_goals try(exfalso;omega)
   all_goals first
    | (simp only[aR]
       have hji:j<i:=by omega
       rw[show Int.toNat 0+j=j from Nat.zero_add j,List.getD_eq_getElem?_getD,List.getD_eq_getElem?_getD,List.getElem?_take_of_lt hji];done)
    |(refine⟨i+1,⟨by omega,aL p2 (by clear p2 hbad hk hx hx2 hpb;simp only[e1,hz]at*;unfold jJ;grind)⟩,by omega,(by exact a7 [(1,1)])⟩)
    | (refine .ret _ ?_
       conv=>whnf
       refine⟨[],⟨?_,rfl⟩,trivial⟩;conv=>lhs;whnf
       congr 2
       exact(hbad _ (by omega) (by decide) (by clear p2 hbad hk hx hx2 hpb;simp only[e1,hz]at*;unfold jJ;grind)).symm)
 have hil:i=f.plt.length:=by omega
 subst hil;have F2:=ay p2;clear hbad hx p2;conv=>whnf
 repeat' ((first|refine aa ?_ ?_<;>intro hb<;>try simp only[am]at hb|refine bg hT lF ?_|omega|refine ao ?_|decide|assumption)<;>conv=>whnf)
 all_goals try(exfalso;omega)
 refine .ret _ ?_;conv=>whnf
 refine⟨[],⟨?_,rfl⟩,trivial⟩;conv=>lhs;whnf
 congr 2
 unfold iL;rw[if_neg (by omega),if_neg (by omega),if_neg (by omega)];exact F2.symm
def xz:TL:= [(1,[(0,[]),(1,[]),(3,[0,1]),(4,[0,1]),(6,[0,1,3,4]),(7,[0,1,3,4]),(11,[0,1,3,4,6,7]),(2,[3,4,6,7,11]),(5,[6,7,11]),(8,[11]),(9,[11]),(10,[11])])]
theorem KE (h:df)(hk:oa h):ae Tryz.prog 12 [hou h] [] (fun x r=>x= .d (.int .i64 (gi h))∧r= []):=by
 have h1:=z21 h.flt hk.1;have h2:=OE h.tar hk.2;have h3:=On h.dea;unfold gi;generalize iL h.flt=r1 at h1 ⊢;generalize ET h.tar=r2 at h2 ⊢;generalize yD h.dea=r3 at h3 ⊢;refine aj hT Tryz.func12 Tryz.call12 ?_;conv=>whnf
 repeat' (first|(refine ab (h1) rfl rfl ?_;rotate_right;conv=>whnf)|(refine ab (h2) rfl rfl ?_;rotate_right;conv=>whnf)|(refine ab (h3) rfl rfl ?_;rotate_right;conv=>whnf)|((first|refine aa ?_ ?_<;>intro hb<;>try simp only[am]at hb|refine bg hT xz ?_|omega|refine ao ?_|decide|assumption)<;>conv=>whnf))
 obtain⟨R,hR⟩:∃R:List Int,R= [r1,r2,r3]:=⟨_,rfl⟩;have hRl:R.length=3:=by rw[hR];rfl
 rw[←hR];refine af hT (C:= []) (ι:=Nat) (fun i=>i≤3∧∀j,j<i→R.getD j 0=0) (fun i=>aJ [(14,.d (cz R)),(15,.d (.int .i64 3)),(16,.d (.int .i64 i))] []) (fun i=>3 - i) 0 ⟨by omega,by omega⟩ (by subst hR;exact(by(refine ac [] rfl rfl ?_ ?_<;>repeat' (first|exact True.intro|exact lr|exact rr|(exact ai rfl rfl)|exact au (by omega)|exact SV.le_any _|refine And.intro ?_ ?_));done)) ?_;rintro i ⟨p1,p2⟩;have e1:=ek i;conv=>whnf
 repeat' ((first|refine aa ?_ ?_<;>intro hb<;>try simp only[am]at hb|refine bg hT xz ?_|omega|refine ao ?_|decide|assumption)<;>conv=>whnf)
 · refine .ret _ ?_;conv=>whnf
   refine⟨[],⟨?_,rfl⟩,trivial⟩;conv=>lhs;whnf
   congr 2
   exact(m9 (by omega) p2 hb).symm
 · exact⟨i+1,⟨by omega,aV p2 hb⟩,by omega,(by exact a7 [])⟩
 · refine .ret _ ?_;conv=>whnf
   refine⟨[],⟨?_,rfl⟩,trivial⟩;conv=>lhs;whnf
   congr 2
   exact(lH (fun j hj=>p2 j (by omega))).symm
end Go.Proofs.YtafhoijegjmdcaaGreatDoor
