/- TopDamagePaid is proved: for every input the law returns true, and its argument reads afterwards as it read before. Conditions: those of the given row alone. -/
import Derived.Test.YtghhghijalcdfaaGreatDoorAdConQui
import Derived.Shelf.Sort.Plain
import Derived.Shelf.Slices.In.SortNone
import Derived.Test.YtghhghijalcdfaaGreatDoorAdConOne
import Derived.Test.YtghhghijalcdfaaGreatDoorAdConTri
import Derived.Test.YtghhghijalcdfaaGreatDoorAdEngTwo
import Derived.Test.YtghhghijalcdfaaGreatDoorAdConTwo
set_option linter.unusedVariables false
set_option linter.unusedSimpArgs false
set_option maxHeartbeats 16000000
set_option maxRecDepth 20000
namespace Go.Proofs.YtghhghijalcdfaaGreatDoor
open Go Go.Eng
theorem KB_stampQ {ks:List KK}{has:List DV→Bool}{clock:Nat}{kb:List (List DV×Nat)}(hk:KB ks has clock kb){p q:List DV×Nat}(hp:p ∈ kb)(hq:q ∈ kb):(p.2=q.2↔p.1=q.1):=by
 obtain⟨i,hi,rfl⟩:=List.getElem_of_mem hp;obtain⟨j,hj,rfl⟩:=List.getElem_of_mem hq
 have h1:∀i j (hi:i<kb.length) (hj:j<kb.length),i<j→kb[i].2<kb[j].2:=fun i j hi hj hij=>by
  have:=List.pairwise_iff_getElem.1 hk.ki i j (by simpa using hi) (by simpa using hj) hij;simpa using this
 have h2:∀i j (hi:i<kb.length) (hj:j<kb.length),i<j→kb[i].1≠kb[j].1:=fun i j hi hj hij e=>by
  have:=List.pairwise_iff_getElem.1 hk.kd i j (by simpa using hi) (by simpa using hj) hij;simp only[List.getElem_map]at this;rw[e]at this;rw[keyEq_refl (hk.kw _ (List.getElem_mem hj))]at this;cases this
 rcases Nat.lt_trichotomy i j with q|q|q
 · exact⟨fun e=>absurd e (Nat.ne_of_lt (h1 i j hi hj q)),fun e=>absurd e (h2 i j hi hj q)⟩
 · subst q;exact⟨fun _=>rfl,fun _=>rfl⟩
 · exact⟨fun e=>absurd e.symm (Nat.ne_of_lt (h1 j i hj hi q)),fun e=>absurd e.symm (h2 j i hj hi q)⟩
open Classical in
noncomputable def keysS (has:List UInt8→Bool):List (List UInt8):=
 if h:∃K:List (List UInt8),K.Nodup∧∀k,k ∈ K↔has k=true then sortS (Classical.choose h)else []
theorem keysS_eq {has:List UInt8→Bool}{K:List (List UInt8)}(h1:K.Nodup)(h2:∀k,k ∈ K↔has k=true):sortS K=keysS has:=by
 have h:∃K:List (List UInt8),K.Nodup∧∀k,k ∈ K↔has k=true:=⟨K,h1,h2⟩;unfold keysS;rw[dif_pos h];have hc:=Classical.choose_spec h;exact sortS_eq ((List.perm_ext_iff_of_nodup h1 hc.1).2 fun k=>by rw[h2 k,hc.2 k])
theorem keysS_len {has:List UInt8→Bool}{L:List (List UInt8)}(hL:∀k,has k=true→k ∈ L):(keysS has).length≤L.length:=by
 unfold keysS;split
 · rename_i h;have hc:=Classical.choose_spec h;rw[sortS_length];exact nodup_le _ _ hc.1 fun k hk=>hL k ((hc.2 k).1 hk)
 · simp
theorem wSortS (l:List (List UInt8))(hl:l.length<2^40):FSpec Tryz.prog 53 [.buf 1000001] [(1000001,seqB 9 1 sF1' [] l)] (fun y r=>y= .tup []∧r= [(1000001,seqB 9 1 sF1' [] (sortS l))]):=by
 have e:Tryz.lays190_ren.f 190=53:=rfl;refine FSpec.sortS Tryz.call53 l (fun w=> ?_) (fun blk cap w hH hb=> ?_)
 · have:=Any.slices_Sort_string_none Tryz.lays190 none 0 w;rw[e]at this;exact this
 · have:=Any.slices_Sort_string Tryz.lays190 blk 0 cap l w hH hb (by omega);rw[e]at this;exact this
def oAOfP52:TL:= [(5,[(0,[]),(1,[]),(2,[]),(3,[]),(4,rg 4),(5,rg 4),(6,rg 6),(7,rg 6),(8,[])]),(10,[(0,[]),(1,[]),(2,[]),(3,[]),(4,rg 4),(5,rg 4),(6,[])])]
abbrev offF (h:Hou)(vm:Mp (List UInt8))(sm:Mp Bool)(s:Off)(lg:List Evn):List (Nat×Res):=
 [(22,.cells 95 (houC h++ [.mp 14,.mp 15,.mp 16,.buf 50,.mp 17,.mp 18,.mp 19,.mp 20,.buf 51])),(14,mpS false [.str []] sF1 vm),(15,mpS false [.bool false] bF1 sm),(16,mpS true (ssF ss0) ssF s.sts),(50,evB lg),(17,atM s.ats),(18,mpS true (bkF bk0) bkF s.bks),(19,mpS true (hiO none) hiO s.his),(20,mpS false [.int .i64 0] iF1 s.paid),(51,rfB s.ref)]
theorem wOffice (h:Hou)(hco:clsOk h.flt.cls)(hv:h.flt.veh.length≤2^20)(hs:h.flt.sta.length≤2^20)(l:List Ent)(hl:l.length≤400)(hx:∀x ∈ l,x.words.length≤2^20):
 FSpec Tryz.prog 52 [.agg (houC h),.d (ents l)] [(1000009,KX)] (fun y r=>y= .ptr 22 0∧r=(1000009,KX)::offF h (vmO h.flt.veh) (smO h.flt.sta) (offZ h l) (isort evCmp (offZ h l).log)):=by
 have cF:=fun s hs x hx=>wFollow h hco (vmO h.flt.veh) (smO h.flt.sta) s hs x hx
 obtain⟨V,hV⟩:∃V,V=h.flt.veh:=⟨_,rfl⟩;obtain⟨W,hW⟩:∃W,W=h.flt.sta:=⟨_,rfl⟩;have hZ:=fun i=>offN_I h (vmO V) (smO W) l i
 have hG:=fun i hi e=>offN_good h (vmO V) (smO W) (l:=l) (i:=i) hi e
 have hB:=fun i hi e=>offN_bad h (vmO V) (smO W) (l:=l) (i:=i) hi e
 have hE:offZ h l=offN h (vmO V) (smO W) l l.length:=by rw[hV,hW];rfl
 rw[hE];obtain⟨kA1,nA1,gA1,kA3,nA3,gA3,kB0,nB0,gB0,kB1,nB1,gB1,kB2,nB2,gB2,kB3,nB3,gB3,kB4,nB4,gB4,C0,C1,C2,C3,C4,C5,C6,hH⟩:∃ (kA1 nA1:Nat) (gA1:Nat→List DV) (kA3 nA3:Nat) (gA3:Nat→List DV) (kB0 nB0:Nat) (gB0:Nat→List DV) (kB1 nB1:Nat) (gB1:Nat→List DV) (kB2 nB2:Nat) (gB2:Nat→List DV) (kB3 nB3:Nat) (gB3:Nat→List DV) (kB4 nB4:Nat) (gB4:Nat→List DV) (C0 C1 C2 C3 C4 C5 C6:Int),houC h= [.d (stas W),.d (.ro kA1 nA1 gA1),.d (vehs V),.d (.ro kA3 nA3 gA3),.d (.ro kB0 nB0 gB0),.d (.ro kB1 nB1 gB1),.d (.ro kB2 nB2 gB2),.d (.ro kB3 nB3 gB3),.d (.ro kB4 nB4 gB4),.d (.int .i64 C0),.d (.int .i64 C1),.d (.int .i64 C2),.d (.int .i64 C3),.d (.int .i64 C4),.d (.int .i64 C5),.d (.int .i64 C6)]:=⟨_,_,_,_,_,_,_,_,_,_,_,_,_,_,_,_,_,_,_,_,_,_,_,_,_,_,_,_,by rw[hV,hW];rfl⟩;unfold offF;unfold offR offC offO offCo at cF;rw[hH];rw[hH]at cF;rw[←hV]at hv;rw[←hW]at hs;rw[←hV,←hW]at cF ⊢;have hO0:offN h (vmO V) (smO W) l 0=off0:=rfl;have hR:=fun i=>offN_ref h (vmO V) (smO W) l i
 have hS:=fun s x (e:folE h (vmO V) (smO W) s x≠0)=>fol_same e
 generalize offN h (vmO V) (smO W) l=O at hZ hG hB hO0 hR ⊢;generalize folE h (vmO V) (smO W)=fE at cF hG hB hS;generalize folO h (vmO V) (smO W)=fO at cF hG hS;refine spAx hT Tryz.func52 Tryz.call52 ?_;conv=>whnf
 repeat' ((first|refine br_intro ?_ ?_<;>intro hb<;>try simp only[brs]at hb|refine tAx hT oAOfP52 ?_|omega|refine sAx ?_|decide|assumption)<;>conv=>whnf)
 refine LoopX.rule hT (C:= []) (ι:=Nat) (fun i=>i≤V.length) (fun i=>mkSt [(1,.d (ents l)),(2,.ptr 2 0),(5,.ptr 22 0),(25,.d (vehs V)),(26,.d (.int .i64 V.length)),(27,.d (.int .i64 i))] [(1000009,KX),(2,.cells 42 [.d (stas W),.d (.ro kA1 nA1 gA1),.d (vehs V),.d (.ro kA3 nA3 gA3),.d (.ro kB0 nB0 gB0),.d (.ro kB1 nB1 gB1),.d (.ro kB2 nB2 gB2),.d (.ro kB3 nB3 gB3),.d (.ro kB4 nB4 gB4),.d (.int .i64 C0),.d (.int .i64 C1),.d (.int .i64 C2),.d (.int .i64 C3),.d (.int .i64 C4),.d (.int .i64 C5),.d (.int .i64 C6)]),(22,.cells 95 [.d (stas W),.d (.ro kA1 nA1 gA1),.d (vehs V),.d (.ro kA3 nA3 gA3),.d (.ro kB0 nB0 gB0),.d (.ro kB1 nB1 gB1),.d (.ro kB2 nB2 gB2),.d (.ro kB3 nB3 gB3),.d (.ro kB4 nB4 gB4),.d (.int .i64 C0),.d (.int .i64 C1),.d (.int .i64 C2),.d (.int .i64 C3),.d (.int .i64 C4),.d (.int .i64 C5),.d (.int .i64 C6),.mp 14,.mp 15,.mp 16,.d .nilsl,.mp 17,.mp 18,.mp 19,.mp 20,.d .nilsl]),(14,mpS false [.str []] sF1 (vmO (V.take i))),(15,mpS false [.bool false] bF1 (smO [])),(16,mpS true (ssF ss0) ssF off0.sts),(17,atM off0.ats),(18,mpS true (bkF bk0) bkF off0.bks),(19,mpS true (hiO none) hiO off0.his),(20,mpS false [.int .i64 0] iF1 off0.paid)])
  (fun i=>V.length - i) 0 (Nat.zero_le _) ?_ ?_
 · exact Entails.mk' [(1000009,1000009),(2,2),(22,22),(14,14),(15,15),(16,16),(17,17),(18,18),(19,19),(20,20)] rfl rfl ⟨lr,lr,lr,lr,lr,lr,trivial⟩ ⟨rr,rr,rr,Res.le_map (fun _ _=>⟨rfl,rfl⟩),Res.le_map (fun _ _=>⟨rfl,rfl⟩),Res.le_map (fun _ _=>⟨rfl,rfl⟩),Res.le_map (fun K hK=>by obtain⟨s,n,rfl⟩:=wk_si hK;exact⟨rfl,rfl⟩),Res.le_map (fun _ _=>⟨rfl,rfl⟩),Res.le_map (fun _ _=>⟨rfl,rfl⟩),Res.le_map (fun _ _=>⟨rfl,rfl⟩),trivial⟩
 rintro i hi;have hi:i≤V.length:=hi;have e1:=tnc i;rcases Nat.lt_or_ge i V.length with hin|hin
 · conv=>whnf
   repeat' ((first|refine br_intro ?_ ?_<;>intro hb<;>try simp only[brs]at hb|refine tAx hT oAOfP52 ?_|omega|refine sAx ?_|decide|assumption)<;>conv=>whnf)
   all_goals try(exfalso;omega)
   refine⟨i+1,by show i+1≤_;omega,by show V.length - (i+1)<V.length - i;omega,Entails.mk' [(2,2),(1000009,1000009),(22,22),(14,14),(15,15),(16,16),(17,17),(18,18),(19,19),(20,20)] rfl rfl ⟨lr,lr,lr,lr,lr,SV.le_int (by omega),trivial⟩ ⟨rr,rr,rr,?_,rr,rr,rr,rr,rr,rr,trivial⟩⟩;rw[vmO_succ hin,←e1];exact mpS_put
 have hiV:i=V.length:=by omega
 rw[hiV,List.take_length];clear hin e1 hiV;conv=>whnf
 repeat' ((first|refine br_intro ?_ ?_<;>intro hb<;>try simp only[brs]at hb|refine tAx hT oAOfP52 ?_|omega|refine sAx ?_|decide|assumption)<;>conv=>whnf)
 all_goals try(exfalso;omega)
 refine LoopX.rule hT (C:= []) (ι:=Nat) (fun i=>i≤W.length) (fun i=>mkSt [(1,.d (ents l)),(5,.ptr 22 0),(42,.d (stas W)),(43,.d (.int .i64 W.length)),(44,.d (.int .i64 i))] [(1000009,KX),(22,.cells 95 [.d (stas W),.d (.ro kA1 nA1 gA1),.d (vehs V),.d (.ro kA3 nA3 gA3),.d (.ro kB0 nB0 gB0),.d (.ro kB1 nB1 gB1),.d (.ro kB2 nB2 gB2),.d (.ro kB3 nB3 gB3),.d (.ro kB4 nB4 gB4),.d (.int .i64 C0),.d (.int .i64 C1),.d (.int .i64 C2),.d (.int .i64 C3),.d (.int .i64 C4),.d (.int .i64 C5),.d (.int .i64 C6),.mp 14,.mp 15,.mp 16,.d .nilsl,.mp 17,.mp 18,.mp 19,.mp 20,.d .nilsl]),(14,mpS false [.str []] sF1 (vmO V)),(15,mpS false [.bool false] bF1 (smO (W.take i))),(16,mpS true (ssF ss0) ssF off0.sts),(17,atM off0.ats),(18,mpS true (bkF bk0) bkF off0.bks),(19,mpS true (hiO none) hiO off0.his),(20,mpS false [.int .i64 0] iF1 off0.paid)])
  (fun i=>W.length - i) 0 (Nat.zero_le _) ?_ ?_
 · exact Entails.mk' [(1000009,1000009),(22,22),(14,14),(15,15),(16,16),(17,17),(18,18),(19,19),(20,20)] rfl rfl ⟨lr,lr,lr,lr,lr,trivial⟩ ⟨rr,rr,rr,rr,rr,rr,rr,rr,rr,trivial⟩
 rintro i hi;have hi:i≤W.length:=hi;have e1:=tnc i;rcases Nat.lt_or_ge i W.length with hin|hin
 · conv=>whnf
   repeat' ((first|refine br_intro ?_ ?_<;>intro hb<;>try simp only[brs]at hb|refine tAx hT oAOfP52 ?_|omega|refine sAx ?_|decide|assumption)<;>conv=>whnf)
   all_goals try(exfalso;omega)
   refine⟨i+1,by show i+1≤_;omega,by show W.length - (i+1)<W.length - i;omega,Entails.mk' [(1000009,1000009),(22,22),(14,14),(15,15),(16,16),(17,17),(18,18),(19,19),(20,20)] rfl rfl ⟨lr,lr,lr,lr,SV.le_int (by omega),trivial⟩ ⟨rr,rr,rr,?_,rr,rr,rr,rr,rr,trivial⟩⟩;rw[smO_succ hin,←e1];exact mpS_put
 have hiW:i=W.length:=by omega
 rw[hiW,List.take_length];clear hin e1 hiW;conv=>whnf
 repeat' ((first|refine br_intro ?_ ?_<;>intro hb<;>try simp only[brs]at hb|refine tAx hT oAOfP52 ?_|omega|refine sAx ?_|decide|assumption)<;>conv=>whnf)
 all_goals try(exfalso;omega)
 refine LoopX.rule hT (C:= []) (ι:=Nat×Off) (fun(i,s)=>i≤l.length∧s=O i) (fun(i,s)=>mkSt [(5,.ptr 22 0),(55,.d (ents l)),(56,.d (.int .i64 l.length)),(57,.d (.int .i64 i))] [(1000009,KX),(22,.cells 95 [.d (stas W),.d (.ro kA1 nA1 gA1),.d (vehs V),.d (.ro kA3 nA3 gA3),.d (.ro kB0 nB0 gB0),.d (.ro kB1 nB1 gB1),.d (.ro kB2 nB2 gB2),.d (.ro kB3 nB3 gB3),.d (.ro kB4 nB4 gB4),.d (.int .i64 C0),.d (.int .i64 C1),.d (.int .i64 C2),.d (.int .i64 C3),.d (.int .i64 C4),.d (.int .i64 C5),.d (.int .i64 C6),.mp 14,.mp 15,.mp 16,.buf 50,.mp 17,.mp 18,.mp 19,.mp 20,.buf 51]),(14,mpS false [.str []] sF1 (vmO V)),(15,mpS false [.bool false] bF1 (smO W)),(16,mpS true (ssF ss0) ssF s.sts),(50,evB s.log),(17,atM s.ats),(18,mpS true (bkF bk0) bkF s.bks),(19,mpS true (hiO none) hiO s.his),(20,mpS false [.int .i64 0] iF1 s.paid),(51,rfB s.ref)])
  (fun(i,_)=>l.length - i) (0,off0) ⟨Nat.zero_le _,hO0.symm⟩ ?_ ?_
 · refine(Entails.nilCell 22 50 146 5 19 (rowF evF ev0 []) rfl rfl rfl (by decide) rfl).trans ((Entails.nilCell 22 51 173 2 24 (rowF rfF rf0 []) rfl rfl rfl (by decide) rfl).trans ?_);exact Entails.mk' [(50,50),(51,51),(1000009,1000009),(22,22),(14,14),(15,15),(16,16),(17,17),(18,18),(19,19),(20,20)] rfl rfl ⟨lr,lr,lr,lr,trivial⟩ ⟨rr,rr,rr,rr,rr,rr,rr,rr,rr,rr,rr,trivial⟩
 rintro⟨i,s⟩ ⟨hi,hsO⟩;have hi:i≤l.length:=hi;have hsO:s=O i:=hsO;have e1:=tnc i;have kI:=hZ i hi;have kR:=hR i;rw[←hsO]at kI kR;rcases Nat.lt_or_ge i l.length with hin|hin
 · have hxi:=hx _ (getD_mem (x:=en0) hin);have cX:=cF s (kI.ok (by omega) (by omega)) (l.getD (i:Int).toNat en0) (by rw[e1];exact hxi)
   by_cases e:fE s (l.getD (i:Int).toNat en0)=0
   · have hN:=hG i hin (by rw[←hsO,←e1];exact e);rw[←hsO]at hN;rw[e]at cX;conv=>whnf
     repeat' ((first|(refine oEx cX [(1000009,1000009),(1000001,22),(1000002,14),(1000003,15),(1000004,16),(1000005,50),(1000006,17),(1000007,18),(1000008,19),(1000010,20),(1000011,51),(50,60)] ?_)|refine br_intro ?_ ?_<;>intro hb<;>try simp only[brs]at hb|refine tAx hT oAOfP52 ?_|omega|refine sAx ?_|decide|assumption)<;>conv=>whnf)
     all_goals try(exfalso;omega)
     exact⟨(i+1,fO s (l.getD (i:Int).toNat en0)),⟨by show i+1≤_;omega,by show _=O (i+1);rw[hN,e1]⟩,by show l.length - (i+1)<l.length - i;omega,Entails.mk' [(50,60),(51,51),(1000009,1000009),(22,22),(14,14),(15,15),(16,16),(17,17),(18,18),(19,19),(20,20)] rfl rfl ⟨lr,lr,lr,SV.le_int (by omega),trivial⟩ ⟨rr,rr,rr,rr,rr,rr,rr,rr,rr,rr,rr,trivial⟩⟩
   · have hN:=hB i hin (by rw[←hsO,←e1];exact e);rw[←hsO]at hN;rw[hS _ _ e]at cX;conv=>whnf
     repeat' ((first|(refine oEx cX [(1000009,1000009),(1000001,22),(1000002,14),(1000003,15),(1000004,16),(1000005,50),(1000006,17),(1000007,18),(1000008,19),(1000010,20),(1000011,51),(50,60)] ?_)|refine br_intro ?_ ?_<;>intro hb<;>try simp only[brs]at hb|refine tAx hT oAOfP52 ?_|omega|refine sAx ?_|decide|assumption)<;>conv=>whnf)
     all_goals try(exfalso;omega)
     all_goals try(exfalso;exact e (by rw[e1];assumption))
     refine⟨(i+1,{s with ref:=s.ref++ [⟨i,fE s (l.getD (i:Int).toNat en0)⟩]}),⟨by show i+1≤_;omega,by show _=O (i+1);rw[hN,e1]⟩,by show l.length - (i+1)<l.length - i;omega,Entails.mk' [(50,60),(51,76),(1000009,1000009),(22,22),(14,14),(15,15),(16,16),(17,17),(18,18),(19,19),(20,20)] rfl rfl ⟨lr,lr,lr,SV.le_int (by omega),trivial⟩ ⟨rr,rr,rr,rr,rr,rr,rr,rr,rr,rr,?_,trivial⟩⟩;exact Res.le_snocF (x:=(⟨i,fE s (l.getD (i:Int).toNat en0)⟩:Rfs)) rfl
 · have hil:i=l.length:=by omega
   have c113:=wSortLog s.log (by have:=kI.log;omega) kI.apt;conv=>whnf
   repeat' ((first|(refine oEx c113 [(1000001,50)] ?_)|refine br_intro ?_ ?_<;>intro hb<;>try simp only[brs]at hb|refine tAx hT oAOfP52 ?_|omega|refine sAx ?_|decide|assumption)<;>conv=>whnf)
   all_goals try(exfalso;omega)
   refine .ret _ ?_;conv=>whnf
   rw[←hil,←hsO];exact⟨_,⟨rfl,rfl⟩,rr,rr,rr,rr,rr,rr,rr,rr,rr,rr,rr,trivial⟩
structure offH (h:Hou)(l:List Ent):Prop where
 hou:houOk h
 ent:entOk l
 len:l.length≤400
 wds:∀x ∈ l,x.words.length≤2^20
 hE:houE h=0
 lE:entsE l=0
theorem wMd (h:Hou)(l:List Ent)(k:offH h l):
 FSpec Tryz.prog 19 [hou h,.d (ents l)] [(1000009,KX)] (fun y r=>y= .tup [.ptr 22 0,.d (.int .i64 0)]∧r=(1000009,KX)::offF h (vmO h.flt.veh) (smO h.flt.sta) (offZ h l) (isort evCmp (offZ h l).log)):=by
 have c1:=y20h h k.hou;have c2:=lz64 l k.ent;have c3:=wOffice h k.hou.1.cls k.hou.1.veh.1 k.hou.1.sta.1 l k.len k.wds;rw[k.hE]at c1;rw[k.lE]at c2;generalize offZ h l=Z at c3 ⊢;generalize isort evCmp Z.log=lg at c3 ⊢;generalize vmO h.flt.veh=vm at c3 ⊢;generalize smO h.flt.sta=sm at c3 ⊢;refine spAx hT Tryz.func19 Tryz.call19 ?_;conv=>whnf
 repeat' (first|(refine pAx c1 ?_;conv=>whnf)|(refine CallX.exact (c2) rfl rfl ?_;rotate_right;conv=>whnf)|((first|refine CallX.pure (s105 [_,_] (by simp)) ⟨SV.le_lit (by rfl) (by rfl),trivial⟩ rfl ?_|(refine oEx c3 rq11 ?_)|refine br_intro ?_ ?_<;>intro hb<;>try simp only[brs]at hb|omega|refine sAx ?_|decide|assumption)<;>conv=>whnf))
 all_goals try(exfalso;contradiction)
 refine .ret _ ?_;conv=>whnf
 exact⟨_,⟨rfl,rfl⟩,rr,rr,rr,rr,rr,rr,rr,rr,rr,rr,rr,trivial⟩
def hirG (m:Mp (Option Hir))(k:List UInt8):Hir:=(m.val k).getD hi0
theorem keyRow_eq {va:Bool}{key row row':List DV}{k:SV→SV→Prop}(h:row=row')(hk:keySV false key fun x=>rowSV va row' (k x)):keySV false key fun x=>rowSV va row (k x):=by rw[h];exact hk
theorem wSortedH (m:Mp (Option Hir))(hf:∃L:List (List UInt8),L.length≤400∧∀k,m.has k=true→k ∈ L)(hrow:∀k,m.has k=true→hiO (m.val k)=hiF (hirG m k))(hsome:∀k,m.has k=true→m.val k≠none):
 FSpec Tryz.prog 20 [.mp 1000007] [(1000007,mpS true (hiO none) hiO m)] (fun y r=>y= .d (seqD 5 hiF hi0 ((keysS m.has).map (hirG m)))∧r= []):=by
 refine spAx hT Tryz.func20 Tryz.call20 ?_;conv=>whnf
 repeat' (first|(intro clock kb hkb;conv=>whnf)|((first|refine br_intro ?_ ?_<;>intro hb<;>try simp only[brs]at hb|omega|refine sAx ?_|decide|assumption)<;>conv=>whnf))
 have hkl:kb.length≤400:=by
  obtain⟨L,h1,h2⟩:=hf
  have:=hkb.le (L.map fun x=> [.str x]) (fun key hw hh=>by
   obtain⟨s,rfl⟩:=wk_str1 hw
   exact List.mem_map.2 ⟨s,h2 s hh,rfl⟩)
  rw[List.length_map]at this;omega
 refine LoopX.rule hT (C:= []) (ι:=List Nat×List (List UInt8)) (fun(seen,ks)=>ks.Nodup∧(∀k b',([DV.str k],b') ∈ kb→(b' ∈ seen↔k ∈ ks))∧∀k ∈ ks,m.has k=true)
  (fun(seen,ks)=>mkSt [(0,.mp 1000007),(3,.buf 3),(9,.ptr 9 0)] [(1000007,.mapB false true [.str] (hiO none) (fun K=>m.has (keyE K)) (fun K=>hiO (m.val (keyE K))) clock kb),(3,seqB 9 1 sF1' [] ks),(9,.iter 1000007 clock seen)])
  (fun(seen,ks)=>(kb.filter fun p=> !seen.contains p.2).length) ([],[]) ⟨by simp,by simp,by simp⟩ ?_ ?_
 · exact(Entails.nil 3 3 9 1 (rowF sF1' [] []) rfl rfl (by decide)).trans (Entails.mk' [(1000007,1000007),(3,3),(9,9)] rfl rfl ⟨lr,lr,lr,trivial⟩ ⟨rr,rr,rr,trivial⟩)
 rintro⟨seen,ks⟩ ⟨g1,g2,g3⟩;have g1:ks.Nodup:=g1;have g2:∀k b',([DV.str k],b') ∈ kb→(b' ∈ seen↔k ∈ ks):=g2;have g3:∀k ∈ ks,m.has k=true:=g3
 have hks:ks.length≤400:=by
  obtain⟨L,h1,h2⟩:=hf;have:=nodup_le _ _ g1 (fun k hk=>h2 k (g3 k hk));omega
 conv=>whnf
 repeat' ((first|refine br_intro ?_ ?_<;>intro hb<;>try simp only[brs]at hb|omega|refine sAx ?_|decide|assumption)<;>conv=>whnf)
 refine⟨rfl,fun key b' hkb1 hseen=> ?_,fun hall=> ?_⟩
 · obtain⟨s,rfl⟩:=wk_str1 (hkb.kw _ hkb1);have hs0:m.has s=true:=(hkb.kh _ (hkb.kw _ hkb1)).2 ⟨_,hkb1⟩;have hsn:s ∉ ks:=fun q=>hseen ((g2 s b' hkb1).2 q)
   obtain⟨g,hg⟩:∃g,m.val s=some g:=by cases hm:m.val s with|some g=>exact⟨g,rfl⟩|none=>exact absurd hm (hsome s hs0)
   refine keyRow_eq (row:=hiO (m.val s)) (row':=hiF g) (congrArg hiO hg) ?_;conv=>whnf
   repeat' ((first|(refine⟨rfl,_,hkb1,?_⟩;refine keyRow_eq (row:=hiO (m.val s)) (row':=hiF g) (congrArg hiO hg) ?_)|refine br_intro ?_ ?_<;>intro hb<;>try simp only[brs]at hb|omega|refine sAx ?_|decide|assumption)<;>conv=>whnf)
   refine⟨(b'::seen,ks++ [s]),⟨?_,fun k b2 hk2=> ?_,fun k hk=> ?_⟩,?_,?_⟩
   · rw[List.nodup_append];exact⟨g1,by simp,fun x hx y hy=>by simp at hy;subst hy;exact fun e=>hsn (by rw[←e];exact hx)⟩
   · have hst:=KB_stampQ hkb hk2 hkb1;simp only[List.mem_cons,List.mem_append,List.not_mem_nil,or_false];rw[g2 k b2 hk2];have:b2=b'↔k=s:=by rw[show(b2=b')=((([DV.str k],b2):List DV×Nat).2=(([DV.str s],b'):List DV×Nat).2)from rfl,hst];simp
     rw[this];exact or_comm
   · rcases List.mem_append.1 hk with q|q
     · exact g3 k q
     · simp at q;subst q;exact hs0
   · show(kb.filter fun p=> !(b'::seen).contains p.2).length<(kb.filter fun p=> !seen.contains p.2).length
     have e:kb.filter (fun p=> !(b'::seen).contains p.2)=(kb.filter fun p=> !seen.contains p.2).filter fun p=> !(p.2==b'):=by
      rw[List.filter_filter];refine List.filter_congr fun p _=> ?_
      simp[List.contains_cons,Bool.and_comm];rfl
     rw[e];refine Nat.lt_of_le_of_ne (List.length_filter_le _ _) (fun q=> ?_);have:=(List.length_filter_eq_length_iff.1 q) ([.str s],b') (List.mem_filter.2 ⟨hkb1,by simpa using hseen⟩);simp at this
   · exact Entails.mk' [(1000007,1000007),(3,17),(9,9)] rfl rfl ⟨lr,lr,lr,trivial⟩ ⟨rr,Res.le_snocF (x:=s) rfl,rr,trivial⟩
 · have hiff:∀k,k ∈ ks↔m.has k=true:=fun k=>⟨g3 k,fun q=>by
    obtain⟨b',hb'⟩:=(hkb.kh [.str k] (by simp[wk,wk1])).1 q
    exact(g2 k b' hb').1 (hall _ hb')⟩
   have hsrt:=keysS_eq g1 hiff;have cS:=wSortS ks (by omega);have hlS:(sortS ks).length=ks.length:=sortS_length ks;have hmS:∀k ∈ sortS ks,m.has k=true:=fun k hk=>g3 k ((sortS_perm ks).mem_iff.1 hk)
   rw[←hsrt];generalize sortS ks=Q at cS hlS hmS;conv=>whnf
   repeat' ((first|(refine oEx cS [(1000001,3)] ?_)|refine br_intro ?_ ?_<;>intro hb<;>try simp only[brs]at hb|omega|refine sAx ?_|decide|assumption)<;>conv=>whnf)
   refine LoopX.rule hT (C:= []) (ι:=Nat) (fun i=>i≤Q.length)
    (fun i=>mkSt [(0,.mp 1000007),(5,.buf 5),(20,.buf 3),(21,.d (.int .i64 Q.length)),(22,.d (.int .i64 i))] [(1000007,.mapB false true [.str] (hiO none) (fun K=>m.has (keyE K)) (fun K=>hiO (m.val (keyE K))) clock kb),(3,seqB 9 1 sF1' [] Q),(5,seqB 85 5 hiF hi0 ((Q.take i).map (hirG m)))])
    (fun i=>Q.length - i) 0 (Nat.zero_le _) ?_ ?_
   · exact(Entails.nil 5 5 85 5 (rowF hiF hi0 []) rfl rfl (by decide)).trans (Entails.mk' [(1000007,1000007),(3,3),(5,5)] rfl rfl ⟨lr,lr,lr,lr,lr,trivial⟩ ⟨rr,rr,rr,trivial⟩)
   rintro i hi;have hi:i≤Q.length:=hi;have e1:=tnc i;have hlm:((Q.take i).map (hirG m)).length=i:=by rw[List.length_map,List.length_take];omega
   rcases Nat.lt_or_ge i Q.length with hin|hin
   · obtain⟨s,hs⟩:∃s,s=Q.getD (i:Int).toNat []:=⟨_,rfl⟩;have hs0:m.has s=true:=by rw[hs,e1];exact hmS _ (getD_mem hin)
     obtain⟨g,hg⟩:∃g,m.val s=some g:=by cases hm:m.val s with|some g=>exact⟨g,rfl⟩|none=>exact absurd hm (hsome s hs0)
     conv=>whnf
     repeat' ((first|(refine And.intro (rfl:zrow _=some (hiO none)) ?_;refine rowSV_eq (row':=hiF g) (congrArg hiO (show m.val (Q.getD (i:Int).toNat [])=some g by rw[←hs];exact hg)) ?_)|refine br_intro ?_ ?_<;>intro hb<;>try simp only[brs]at hb|omega|refine sAx ?_|decide|assumption)<;>conv=>whnf)
     all_goals try(exfalso;omega)
     refine⟨i+1,by show i+1≤_;omega,by show Q.length - (i+1)<Q.length - i;omega,Entails.mk' [(1000007,1000007),(3,3),(5,31)] rfl rfl ⟨lr,lr,lr,lr,SV.le_int (by omega),trivial⟩ ⟨rr,rr,?_,trivial⟩⟩
     have et:(Q.take (i+1)).map (hirG m)=(Q.take i).map (hirG m)++ [hirG m s]:=by
      rw[List.take_succ_eq_append_getElem hin,List.map_append,hs,e1,List.getD_eq_getElem?_getD,List.getElem?_eq_getElem hin];rfl
     rw[et];exact Res.le_snocF (x:=hirG m s) (by unfold hirG;rw[hg];rfl)
   · have hiQ:i=Q.length:=by omega
     conv=>whnf
     repeat' ((first|refine br_intro ?_ ?_<;>intro hb<;>try simp only[brs]at hb|omega|refine sAx ?_|decide|assumption)<;>conv=>whnf)
     all_goals try(exfalso;omega)
     refine .freeze _ 5 85 5 _ _ rfl (.weak _ ?_);conv=>whnf
     refine⟨.d (seqD 5 hiF hi0 ((Q.take i).map (hirG m))),[],lr,⟨by rw[hiQ,List.take_length],rfl⟩,trivial⟩
theorem wHires (h:Hou)(l:List Ent)(k:offH h l):
 FSpec Tryz.prog 7 [hou h,.d (ents l)] [(1000009,KX)] (fun y r=>y= .tup [.d (hirs ((keysS (offZ h l).his.has).map (hirG (offZ h l).his))),.d (.int .i64 0)]∧r= [(1000009,KX)]):=by
 have c1:=wMd h l k;have hZ:offI (2*l.length) l.length (offZ h l):=offN_I h _ _ l l.length (Nat.le_refl _);generalize offZ h l=Z at c1 hZ ⊢
 have hso:∀k,Z.his.has k=true→Z.his.val k≠none:=fun k q=>by
  obtain⟨g,h1,_⟩:=hZ.his k q;rw[h1];exact fun e=>by cases e
 have c2:=wSortedH Z.his (up_keys hZ.fh k.len) (fun k q=>by
  obtain⟨g,h1,_⟩:=hZ.his k q
  unfold hirG;rw[h1];rfl) hso
 generalize isort evCmp Z.log=lg at c1 ⊢;generalize vmO h.flt.veh=vm at c1 ⊢;generalize smO h.flt.sta=sm at c1 ⊢;generalize (keysS Z.his.has).map (hirG Z.his)=R at c2 ⊢;refine spAx hT Tryz.func7 Tryz.call7 ?_;conv=>whnf
 repeat' ((first|(refine oEx c1 rq11 ?_)|(refine oEx c2 [(1000007,19)] ?_)|refine br_intro ?_ ?_<;>intro hb<;>try simp only[brs]at hb|omega|refine sAx ?_|decide|assumption)<;>conv=>whnf)
 all_goals try(exfalso;contradiction)
 refine .ret _ ?_;conv=>whnf
 exact⟨[(1000009,KX)],⟨rfl,rfl⟩,rr,trivial⟩
theorem keysS_spec {has:List UInt8→Bool}{L:List (List UInt8)}(hL:∀k,has k=true→k ∈ L):(keysS has).Nodup∧(keysS has).Pairwise (fun a b=>a≤b)∧∀k,k ∈ keysS has↔has k=true:=by
 have ex : ∀L:List (List UInt8),∃K:List (List UInt8),K.Nodup∧∀k,k ∈ K↔k ∈ L∧has k=true:=fun L=>by
  induction L with
  |nil=>exact⟨[],List.nodup_nil,fun k=>⟨fun h=>(by cases h),fun h=>(by cases h.1)⟩⟩
  | cons x L ih=>
    obtain⟨K,h1,h2⟩:=ih
    by_cases q:has x=true∧x ∉ K
    · refine⟨x::K,List.nodup_cons.2 ⟨q.2,h1⟩,fun k=> ?_⟩;rw[List.mem_cons,List.mem_cons,h2];constructor
      · rintro(e|e)
        · exact⟨.inl e,by rw[e];exact q.1⟩
        · exact⟨.inr e.1,e.2⟩
      · rintro⟨e|e,f⟩
        · exact .inl e
        · exact .inr ⟨e,f⟩
    · refine⟨K,h1,fun k=> ?_⟩;rw[h2,List.mem_cons];constructor
      · exact fun e=>⟨.inr e.1,e.2⟩
      · rintro⟨e|e,f⟩
        · rw[e]at f ⊢
          by_cases z:x ∈ K
          · exact⟨((h2 x).1 z).1,f⟩
          · exact absurd ⟨f,z⟩ q
        · exact⟨e,f⟩
 obtain⟨K,h1,h2⟩:=ex L
 have h3:∀k,k ∈ K↔has k=true:=fun k=>by
  rw[h2];exact⟨fun h=>h.2,fun h=>⟨hL k h,h⟩⟩
 rw[←keysS_eq h1 h3];exact⟨(sortS_perm K).nodup_iff.2 h1,sortS_sorted K,fun k=>by rw[(sortS_perm K).mem_iff];exact h3 k⟩
theorem smO_val {l:List Sta}{k:List UInt8}(h:(smO l).val k=true):∃s ∈ l,s.key=k:=by
 have key:∀ (l:List Sta) (m:Mp Bool),(l.foldl (fun m s=>m.put s.key true) m).val k=true→m.val k=true∨∃s ∈ l,s.key=k:=by
  intro l
  induction l with
  |nil=>intro m h;exact .inl h
  | cons v l ih=>
    intro m h;rcases ih _ h with q|⟨w,q1,q2⟩
    · have q:(if k=v.key then true else m.val k)=true:=q
      by_cases e:k=v.key
      · exact .inr ⟨v,by simp,e.symm⟩
      · rw[if_neg e]at q;exact .inl q
    · exact .inr ⟨w,by simp[q1],q2⟩
 rcases key l _ h with q|q
 · cases q
 · exact q
theorem fltE_sta {f:Flt}(h:fltE f=0):stasE f.sta=0:=by
 unfold fltE at h
 by_cases q:fltE0 f=0
 · exact firstE_mem q _ (List.mem_cons_self ..)
 · rw[if_pos q]at h;exact absurd h q
theorem houE_flt {h:Hou}(hE:houE h=0):fltE h.flt=0:=firstE_mem hE _ (List.mem_cons_self ..)
theorem smO_nil {h:Hou}(hE:houE h=0):(smO h.flt.sta).val []=false:=by
 cases q:(smO h.flt.sta).val []with
 |false=>rfl
 | true=>
   obtain⟨s,h1,h2⟩:=smO_val q;obtain⟨j,hj,rfl⟩:=mem_getD (d:=sta0) h1;have hS:=fltE_sta (houE_flt hE);unfold stasE at hS
   by_cases c:50<h.flt.sta.length
   · rw[if_pos c]at hS;exact absurd hS (by decide)
   rw[if_neg c]at hS;have:=firstAt_all hS j hj;unfold stnE at this;rw[h2,if_pos (by decide)]at this;exact absurd this (by decide)
noncomputable def hirZ (h:Hou)(l:List Ent):List Hir:=(keysS (offZ h l).his.has).map (hirG (offZ h l).his)
theorem hires_rightK {h:Hou}{l:List Ent}(k:offH h l):hiOk (hirZ h l)∧hirsE (hirZ h l)=0∧(hirZ h l).length≤l.length∧(∀g ∈ hirZ h l,g.legs.length≤2^20):=by
 obtain⟨t1,h1,hb,hc⟩:=offZ_BC h (smO_nil k.hE) (ents_iff.1 k.lE);have hI:offI (2*l.length) l.length (offZ h l):=offN_I h _ _ l l.length (Nat.le_refl _);obtain⟨L,hL1,hL2⟩:=hI.fh;obtain⟨n1,n2,n3⟩:=keysS_spec hL2
 have hlen:(hirZ h l).length≤l.length:=by
  unfold hirZ;rw[List.length_map];have:=keysS_len hL2;omega
 have hget:∀i,i<(hirZ h l).length→∃g,(hirZ h l).getD i hi0=g∧(offZ h l).his.val ((keysS (offZ h l).his.has).getD i [])=some g∧hirE g=0:=fun i hi=>by
  have hi':i<(keysS (offZ h l).his.has).length:=by unfold hirZ at hi;rwa [List.length_map]at hi
  obtain⟨g,e1,e2⟩:=hI.his _ ((n3 _).1 (getD_mem (x:= []) hi'));refine⟨g,?_,e1,e2⟩;unfold hirZ;rw[List.getD_eq_getElem?_getD,List.getElem?_map,List.getElem?_eq_getElem hi'];show hirG (offZ h l).his (keysS (offZ h l).his.has)[i]=g;rw[List.getD_eq_getElem?_getD,List.getElem?_eq_getElem hi']at e1;unfold hirG;rw[show(offZ h l).his.val (keysS (offZ h l).his.has)[i]=some g from e1];rfl
 have hE:∀g ∈ hirZ h l,hirE g=0:=fun g hg=>by
  obtain⟨i,hi,rfl⟩:=mem_getD (d:=hi0) hg;obtain⟨g',e1,_,e3⟩:=hget i hi;rw[e1];exact e3
 refine⟨⟨by have:=k.len;omega,fun g hg=>(hirE_K (hE g hg)).1.k⟩,?_,hlen,fun g hg=>by have:=(hirE_K (hE g hg)).2.2.1;omega⟩
 · unfold hirsE;rw[if_neg (by have:=k.len;omega)];refine firstAt_zero fun i hi=> ?_
   unfold hirsE1;obtain⟨g,e1,e2,e3⟩:=hget i hi;rw[e1,e3,if_neg (fun c=>c rfl)]
   by_cases q:0<i
   · obtain⟨g2,f1,f2,f3⟩:=hget (i - 1) (by omega);rw[f1,hc.key _ _ e2,hc.key _ _ f2];have hi':i<(keysS (offZ h l).his.has).length:=by unfold hirZ at hi;rwa [List.length_map]at hi
     have a1:((keysS (offZ h l).his.has).getD (i - 1) [])≤((keysS (offZ h l).his.has).getD i []):=(pw_getD []).1 n2 (i - 1) i (by omega) hi';have a2:((keysS (offZ h l).his.has).getD (i - 1) [])≠((keysS (offZ h l).his.has).getD i []):=(pw_getD []).1 n1 (i - 1) i (by omega) hi'
     have a3:strLe ((keysS (offZ h l).his.has).getD i []) ((keysS (offZ h l).his.has).getD (i - 1) [])=false:=by
      unfold strLe;rw[Go.Proofs.bytesLess_eq,decide_eq_false (fun c=>(List.not_lt.2 a1) c),Bool.false_or];exact beq_eq_false_iff_ne.2 fun e=>a2 e.symm
     rw[a3,if_neg (fun c=>by cases c.2)]
   · rw[if_neg (fun c=>q c.1)]
def oALcA109:TL:= [(1,[(0,[]),(1,[]),(2,[0,1]),(3,[0,1]),(5,rg 4),(6,rg 4),(7,[0,1,2,3,5,6]),(8,[0,1,2,3,5,6]),(4,[5,6,7,8]),(9,[]),(10,[]),(11,[]),(12,[])])]
def oALcA60:TL:= [(19,[(0,[]),(1,[]),(2,[]),(3,[]),(4,[3]),(5,[3]),(6,[]),(7,[]),(8,[3,4,5,6,7]),(9,[]),(10,[]),(11,[]),(12,[])])]
def stIx (l:List Sta)(key:List UInt8):Int:=ixF (fun i=>(l.getD i sta0).key==key) l.length
theorem wStKey (x:Sta)(key:List UInt8):FSpec Tryz.prog 154 [.agg ((staF x).map .d),.ptr 1000001 0] [(1000001,kyC key)] (fun y r=>y= .d (.bool (x.key==key))∧r= [(1000001,kyC key)]):=by
 refine spAx hT Tryz.func154 Tryz.call154 ?_;conv=>whnf
 refine .ret _ ?_;conv=>whnf
 exact⟨[(1000001,kyC key)],⟨rfl,rfl⟩,rr,trivial⟩
theorem wStIx (l:List Sta)(hl:l.length≤2^40)(key:List UInt8):FSpec Tryz.prog 179 [.d (stas l),.fn 154 [.ptr 1000001 0]] [(1000001,kyC key)] (fun x r=>x= .d (.int .i64 (stIx l key))∧r= [(1000001,kyC key)]):=by
 refine spAx hT Tryz.func179 Tryz.call179 ?_;conv=>whnf
 refine LoopX.rule hT (C:= []) (ι:=Nat) (fun i=>i≤l.length∧∀j,j<i→((l.getD j sta0).key==key)=false) (fun i=>mkSt [(0,.d (stas l)),(1,.fn 154 [.ptr 1000001 0]),(7,.d (.int .i64 l.length)),(8,.d (.int .i64 i))] [(1000001,kyC key)]) (fun i=>l.length - i) 0 ⟨by omega,by omega⟩ (by exact eAx [(1000001,1000001)]) ?_;rintro i ⟨p1,p2⟩;have e1:=tnc i;conv=>whnf
 repeat' ((first|(refine oEx (wStKey (l.getD (i:Int).toNat sta0) key) [(1000001,1000001)] ?_)|refine br_intro ?_ ?_<;>intro hb<;>try simp only[brs]at hb|omega|refine sAx ?_|decide|assumption)<;>conv=>whnf)
 · refine .ret _ ?_;conv=>whnf
   refine⟨[(1000001,kyC key)],⟨?_,rfl⟩,rr,trivial⟩;conv=>lhs;whnf
   congr 2
   exact(ixF_hit (by omega) p2 (by simpa using hb)).symm
 · exact⟨i+1,⟨by omega,all_step p2 (by simpa using hb)⟩,by omega,(by exact eAx [(1000001,1000001)])⟩
 · refine .ret _ ?_;conv=>whnf
   refine⟨[(1000001,kyC key)],⟨?_,rfl⟩,rr,trivial⟩;conv=>lhs;whnf
   congr 2
   have:i=l.length:=by omega
   subst this;exact(ixF_none p2).symm
def stHas (l:List Sta)(key:List UInt8):Bool:=decide (0≤stIx l key)
theorem wHasS (l:List Sta)(hl:l.length≤2^40)(key:List UInt8):FSpec Tryz.prog 153 [.d (stas l),.fn 154 [.ptr 1000001 0]] [(1000001,kyC key)] (fun x r=>x= .d (.bool (stHas l key))∧r= [(1000001,kyC key)]):=by
 refine spAx hT Tryz.func153 Tryz.call153 ?_;conv=>whnf
 repeat' ((first|(refine oEx (wStIx l hl key) [(1000001,1000001)] ?_)|refine br_intro ?_ ?_<;>intro hb<;>try simp only[brs]at hb|omega|refine sAx ?_|decide|assumption)<;>conv=>whnf)
 refine .ret _ ?_;conv=>whnf
 exact⟨_,⟨rfl,rfl⟩,rr,trivial⟩
theorem wHasSt (f:Flt)(hl:f.sta.length≤2^40)(key:List UInt8):FSpec Tryz.prog 108 [flt f,.d (.str key)] [] (fun x r=>x= .d (.bool (stHas f.sta key))∧r= []):=by
 refine spAx hT Tryz.func108 Tryz.call108 ?_;conv=>whnf
 repeat' ((first|(refine oEx (wHasS f.sta hl key) [(1000001,3)] ?_)|refine br_intro ?_ ?_<;>intro hb<;>try simp only[brs]at hb|omega|refine sAx ?_|decide|assumption)<;>conv=>whnf)
 refine .ret _ ?_;conv=>whnf
 refine⟨[],⟨?_,rfl⟩,trivial⟩;conv=>lhs;whnf
theorem wByTime (a b:Evn):FSpec Tryz.prog 109 [.agg ((evF a).map .d),.agg ((evF b).map .d)] [] (fun x r=>x= .d (.int .i64 (evCmp a b))∧r= []):=by
 refine spAx hT Tryz.func109 Tryz.call109 ?_;conv=>whnf
 repeat' (first|(refine CallX.exact (s184 _ _) rfl rfl ?_;rotate_right;conv=>whnf)|(refine CallX.exact (s183 _ _) rfl rfl ?_;rotate_right;conv=>whnf)|((first|refine CallX.pure (s182 [_,_] (by simp)) ⟨SV.le_lit (by rfl) (by rfl),trivial⟩ rfl ?_|refine br_intro ?_ ?_<;>intro hb<;>try simp only[brs]at hb|refine tAx hT oALcA109 ?_|omega|refine sAx ?_|decide|assumption)<;>conv=>whnf))
 refine .ret _ ?_;conv=>whnf
 refine⟨[],⟨?_,rfl⟩,trivial⟩;conv=>lhs;whnf
 rfl
structure evG (f:Flt)(x:Evn):Prop where
 tm:0≤x.tm∧x.tm≤5761439
 veh:0≤veIx f.veh x.veh
 st:stHas f.sta x.st=true
 kind:1≤x.kind∧x.kind≤8
 to:x.to≠ []→x.kind=6
 lv:x.kind=6→stHas f.sta x.to=true
 ne:x.to≠x.st
theorem wLotChk (f:Flt)(hk:fltOk f)(hs:vehS f.veh)(l:List Evn)(hl:l.length≤3000)(hg:∀i,i<l.length→evG f (l.getD i ev0))(ho:∀i,0<i→i<l.length→evCmp (l.getD (i - 1) ev0) (l.getD i ev0)<0):
 FSpec Tryz.prog 60 [flt f,.d (evns l)] [] (fun x r=>x= .d (.int .i64 0)∧r= []):=by
 have hsl:=hk.sta.1;have hvl:=hk.veh.1;refine spAx hT Tryz.func60 Tryz.call60 ?_;conv=>whnf
 repeat' ((first|refine br_intro ?_ ?_<;>intro hb<;>try simp only[brs]at hb|refine tAx hT oALcA60 ?_|omega|refine sAx ?_|decide|assumption)<;>conv=>whnf)
 all_goals try(exfalso;omega)
 refine LoopX.rule hT (C:= []) (ι:=Nat) (fun i=>i≤l.length) (fun i=>mkSt [(1,.d (evns l)),(2,.ptr 2 0),(11,.d (evns l)),(12,.d (.int .i64 l.length)),(13,.d (.int .i64 i))] [(2,fltC f)]) (fun i=>l.length - i) 0 (Nat.zero_le _) (by exact eAx [(2,2)]) ?_;rintro i hi;have hi:i≤l.length:=hi;have e1:=tnc i;rcases Nat.lt_or_ge i l.length with hin|hin
 · have g:=hg i hin;have o:=fun q=>ho i q hin
   obtain⟨x,hx⟩:∃x,x=l.getD (i:Int).toNat ev0:=⟨_,rfl⟩;have hx':l.getD i ev0=x:=by rw[hx,e1]
   rw[hx']at g o;have c1:=s154 x.tm;have c2:=z243 f hvl hs x.veh;have c3:=wHasSt f (by omega) x.st;have c4:=s119 x.kind 1 8;have c5:=wHasSt f (by omega) x.to;have c6:=wByTime (l.getD ((i:Int) - 1).toNat ev0) x;have e2:0<i→((i:Int) - 1).toNat=i - 1:=fun q=>by omega
   rw[decide_eq_true g.tm]at c1;rw[g.st]at c3;rw[decide_eq_true g.kind]at c4;have gv:=g.veh;have gt:=g.to;have gl:=g.lv;have gn:=g.ne;have o':0<(i:Int)→evCmp (l.getD ((i:Int) - 1).toNat ev0) x<0:=fun q=>by rw[e2 (by omega)];exact o (by omega)
   conv=>whnf
   repeat' (first|(rw[←hx];conv=>whnf)|(refine CallX.exact (c1) rfl rfl ?_;rotate_right;conv=>whnf)|(refine CallX.exact (c2) rfl rfl ?_;rotate_right;conv=>whnf)|(refine CallX.exact (c3) rfl rfl ?_;rotate_right;conv=>whnf)|(refine CallX.exact (c4) rfl rfl ?_;rotate_right;conv=>whnf)|(refine CallX.exact (c5) rfl rfl ?_;rotate_right;conv=>whnf)|(refine CallX.exact (c6) rfl rfl ?_;rotate_right;conv=>whnf)|((first|refine br_intro ?_ ?_<;>intro hb<;>try simp only[brs]at hb|refine tAx hT oALcA60 ?_|omega|refine sAx ?_|decide|assumption)<;>conv=>whnf))
   all_goals try(exfalso;omega)
   all_goals first
    |(exact⟨i+1,by show i+1≤_;omega,by show l.length - (i+1)<l.length - i;omega,(by exact eAx [(2,2)])⟩)
    |(exfalso;exact(show ¬x.kind=6 by assumption) (gt (by assumption)))
    | (exfalso;have q:stHas f.sta x.to=false:=by assumption
       rw[gl (by assumption)]at q;cases q)
    |(exfalso;exact gn (by assumption))
    | (exfalso;have q:=o' (by assumption)
       omega)
 · conv=>whnf
   repeat' ((first|refine br_intro ?_ ?_<;>intro hb<;>try simp only[brs]at hb|refine tAx hT oALcA60 ?_|omega|refine sAx ?_|decide|assumption)<;>conv=>whnf)
   all_goals try(exfalso;omega)
   refine .ret _ ?_;conv=>whnf
   refine⟨[],⟨?_,rfl⟩,trivial⟩;conv=>lhs;whnf
theorem hir_parts {h:Hir}(hE:hirE h=0):((isKeyB h.key=true∧isKeyB h.drv=true)∧timE h.frm h.to=0∧1≤h.legs.length∧h.legs.length≤20)∧∀i,i<h.legs.length→legE h i=0:=by
 unfold hirE at hE;split at hE
 · omega
 rename_i a;split at hE
 · omega
 rename_i b;split at hE
 · omega
 rename_i c;split at hE
 · omega
 rename_i d;refine⟨⟨⟨?_,?_⟩,Classical.not_not.1 b,by omega,by omega⟩,fun i hi=>firstAt_all hE i hi⟩
 · cases q:isKeyB h.key with
   |true=>rfl
   |false=>exact absurd (Or.inl q) a
 · cases q:isKeyB h.drv with
   |true=>rfl
   |false=>exact absurd (Or.inr q) a
def outE (x:Leg):Evn:=⟨x.out.tm,x.veh,x.out.st,2,[]⟩
def bckE (x:Leg):Evn:=⟨x.inn.tm,x.veh,x.inn.st,3,[]⟩
def legEv (x:Leg):List Evn:=outE x::if x.inn.tm= -1 then []else [bckE x]
def evsL (l:List Leg):List Evn:=l.flatMap legEv
theorem leg_ord {h:Hir}{i:Nat}(e:legE h i=0):(0<i→(h.legs.getD i lg0).out.tm=(h.legs.getD (i - 1) lg0).inn.tm∧(h.legs.getD i lg0).veh≠(h.legs.getD (i - 1) lg0).veh)∧((h.legs.getD i lg0).inn.tm≠-1→(h.legs.getD i lg0).out.tm<(h.legs.getD i lg0).inn.tm):=by
 unfold legE at e;generalize h.legs.getD i lg0=x at e ⊢;generalize h.legs.getD (i - 1) lg0=y at e ⊢
 by_cases c1:isKeyB x.veh=false
 · rw[if_pos c1]at e;exact absurd e (by decide)
 rw[if_neg c1]at e
 by_cases c2:rdgE x.out≠0
 · rw[if_pos c2]at e;exact absurd e c2
 rw[if_neg c2]at e
 by_cases c3:i=0∧x.out.tm≠h.frm
 · rw[if_pos c3]at e;exact absurd e (by decide)
 rw[if_neg c3]at e
 by_cases c4:0<i∧x.out.tm≠y.inn.tm
 · rw[if_pos c4]at e;exact absurd e (by decide)
 rw[if_neg c4]at e
 by_cases c5:0<i∧x.veh=y.veh
 · rw[if_pos c5]at e;exact absurd e (by decide)
 rw[if_neg c5]at e
 by_cases c6:0<i∧x.out.st≠y.inn.st
 · rw[if_pos c6]at e;exact absurd e (by decide)
 rw[if_neg c6]at e;refine⟨fun h0=>⟨Classical.not_not.1 fun q=>c4 ⟨h0,q⟩,fun q=>c5 ⟨h0,q⟩⟩,fun h1=> ?_⟩;rw[if_neg h1]at e
 by_cases c7:rdgE x.inn≠0
 · rw[if_pos c7]at e;exact absurd e c7
 rw[if_neg c7]at e
 by_cases c8:x.inn.tm≤x.out.tm
 · rw[if_pos c8]at e;exact absurd e (by decide)
 omega
theorem evsL_set {g:Hir}(h:hirE g=0)(ho:opnH g=true)(r:Rdg)(hr:r.tm≠-1):evsL (setIn g.legs r)=evsL g.legs++ [⟨r.tm,oldV g,r.st,3,[]⟩]:=by
 obtain⟨o1,o2,o3⟩:=last_open h ho;have hn:g.legs≠ []:=fun q=>by rw[q]at o1;cases o1
 have hl:0<g.legs.length:=List.length_pos_iff.2 hn;have e0:((g.legs.length:Int) - 1).toNat=g.legs.length - 1:=by omega
 have e1:g.legs=g.legs.take (g.legs.length - 1)++ [g.legs.getD (g.legs.length - 1) lg0]:=by
  have:=take_snocD (d:=lg0) (l:=g.legs) (i:=g.legs.length - 1) (by omega);rw[show g.legs.length - 1+1=g.legs.length by omega,List.take_length]at this;exact this
 have e2:setIn g.legs r=g.legs.take (g.legs.length - 1)++ [{g.legs.getD (g.legs.length - 1) lg0 with inn:=r}]:=by
  unfold setIn;rw[e0,List.set_eq_take_append_cons_drop,if_pos (by omega),List.drop_eq_nil_of_le (by omega)]
 rw[e2];conv=>rhs;rw[e1]
 unfold evsL;rw[List.flatMap_append,List.flatMap_append,List.append_assoc];congr 1
 have e3:legEv (g.legs.getD (g.legs.length - 1) lg0)= [outE (g.legs.getD (g.legs.length - 1) lg0)]:=by unfold legEv;rw[if_pos o2]
 have e4:legEv {g.legs.getD (g.legs.length - 1) lg0 with inn:=r}= [outE (g.legs.getD (g.legs.length - 1) lg0),⟨r.tm,oldV g,r.st,3,[]⟩]:=by
  unfold legEv;rw[if_neg hr];simp only[outE,bckE,o3]
 simp only[List.flatMap_cons,List.flatMap_nil,List.append_nil,e3,e4];rfl
def sumF {α:Type}(φ:α→Int):List α→Int
 | []=>0
 |x::l=>φ x+sumF φ l
theorem sumF_app {α:Type}(φ:α→Int):∀l m:List α,sumF φ (l++m)=sumF φ l+sumF φ m
 | [],m=>by simp[sumF]
 |x::l,m=>by rw[List.cons_append,sumF,sumF,sumF_app φ l m];omega
theorem sumF_congr {α:Type}{φ ψ:α→Int}:∀ {l:List α},(∀x ∈ l,φ x=ψ x)→sumF φ l=sumF ψ l
 | [],_=>rfl
 |x::l,h=>by rw[sumF,sumF,h x (by simp),sumF_congr (fun y hy=>h y (by simp[hy]))]
theorem sumF_perm {α:Type}(φ:α→Int){l m:List α}(h:l.Perm m):sumF φ l=sumF φ m:=by
 induction h with
 |nil=>rfl
 |cons x _ ih=>rw[sumF,sumF,ih]
 |swap x y l=>simp only[sumF];omega
 |trans _ _ h1 h2=>rw[h1,h2]
theorem sumF_at {α:Type}{φ ψ:α→Int}{k:α}:∀ {l:List α},l.Nodup→k ∈ l→(∀x ∈ l,x≠k→φ x=ψ x)→sumF φ l=sumF ψ l - ψ k+φ k
 | [],_,h,_=>by cases h
 | x::l,hn,h,hc=>by
   rw[List.nodup_cons]at hn;rcases List.mem_cons.1 h with q|q
   · subst q;rw[sumF,sumF,sumF_congr (φ:=φ) (ψ:=ψ) (fun y hy=>hc y (by simp[hy]) (fun e=>hn.1 (e ▸ hy)))];omega
   · rw[sumF,sumF,sumF_at hn.2 q (fun y hy=>hc y (by simp[hy])),hc x (by simp) (fun e=>hn.1 (e ▸ q))];omega
def isOB (x:Evn):Bool:=decide (x.kind=2)||decide (x.kind=3)
def obS (φ:Evn→Int)(l:List Evn):Int:=sumF φ (l.filter isOB)
def hisS (φ:Evn→Int)(m:Mp (Option Hir))(ks:List (List UInt8)):Int:=sumF (fun k=>sumF φ (evsL (hirG m k).legs)) ks
theorem obS_app (φ:Evn→Int)(l m:List Evn):obS φ (l++m)=obS φ l+obS φ m:=by
 unfold obS;rw[List.filter_append,sumF_app]
theorem obS_all (φ:Evn→Int){l:List Evn}(h:∀x ∈ l,isOB x=true):obS φ l=sumF φ l:=by
 unfold obS;rw[List.filter_eq_self.2 h]
theorem keysS_perm {p q:List UInt8→Bool}{L:List (List UInt8)}(hp:∀k,p k=true→k ∈ L){x:List UInt8}(hx:p x=false)(hq:∀k,q k=(decide (k=x)||p k)):(keysS q).Perm (x::keysS p):=by
 obtain⟨n1,_,n3⟩:=keysS_spec hp
 obtain⟨m1,_,m3⟩:=keysS_spec (has:=q) (L:=x::L) (fun k hk=>by
  rw[hq,Bool.or_eq_true,decide_eq_true_eq]at hk;rcases hk with r|r
  · rw[r];simp
  · simp[hp k r])
 refine(List.perm_ext_iff_of_nodup m1 (List.nodup_cons.2 ⟨fun r=>(by rw[n3,hx]at r;cases r),n1⟩)).2 (fun k=> ?_);rw[m3,List.mem_cons,n3,hq,Bool.or_eq_true,decide_eq_true_eq]
theorem hisS_new (φ:Evn→Int){m:Mp (Option Hir)}{L:List (List UInt8)}(hL:∀k,m.has k=true→k ∈ L){x:List UInt8}(hx:m.has x=false)(g:Hir):
 hisS φ (m.put x (some g)) (keysS (m.put x (some g)).has)=hisS φ m (keysS m.has)+sumF φ (evsL g.legs):=by
 obtain⟨n1,_,n3⟩:=keysS_spec hL;unfold hisS;rw[sumF_perm _ (keysS_perm (q:=(m.put x (some g)).has) hL hx (fun k=>rfl)),sumF]
 have e1:hirG (m.put x (some g)) x=g:=by
  unfold hirG;show(if x=x then some g else m.val x).getD hi0=g;rw[if_pos rfl];rfl
 rw[e1,sumF_congr (φ:=fun k=>sumF φ (evsL (hirG (m.put x (some g)) k).legs)) (ψ:=fun k=>sumF φ (evsL (hirG m k).legs)) (fun k hk=>by
  have:k≠x:=fun r=>by rw[r,n3,hx]at hk;cases hk
  unfold hirG;show sumF φ (evsL ((if k=x then some g else m.val k).getD hi0).legs)=_
  rw[if_neg this])]
 omega
theorem hisS_old (φ:Evn→Int){m:Mp (Option Hir)}{L:List (List UInt8)}(hL:∀k,m.has k=true→k ∈ L){x:List UInt8}(hx:m.has x=true){g0:Hir}(h0:m.val x=some g0)(g:Hir):
 hisS φ (m.put x (some g)) (keysS (m.put x (some g)).has)=hisS φ m (keysS m.has) - sumF φ (evsL g0.legs)+sumF φ (evsL g.legs):=by
 obtain⟨n1,_,n3⟩:=keysS_spec hL
 have eh:(m.put x (some g)).has=m.has:=by
  funext k
  show(decide (k=x)||m.has k)=m.has k
  by_cases r:k=x
  · rw[r,hx];simp
  · simp[r]
 rw[eh];unfold hisS
 rw[sumF_at (φ:=fun k=>sumF φ (evsL (hirG (m.put x (some g)) k).legs)) (ψ:=fun k=>sumF φ (evsL (hirG m k).legs)) n1 ((n3 x).2 hx) (fun k hk hne=>by
  unfold hirG;show sumF φ (evsL ((if k=x then some g else m.val k).getD hi0).legs)=_
  rw[if_neg hne])]
 have e1:hirG (m.put x (some g)) x=g:=by
  unfold hirG;show(if x=x then some g else m.val x).getD hi0=g;rw[if_pos rfl];rfl
 have e2:hirG m x=g0:=by unfold hirG;rw[h0];rfl
 rw[e1,e2]
def evI (s:Off):Prop:=∀φ:Evn→Int,obS φ s.log=hisS φ s.his (keysS s.his.has)
variable {vm:Mp (List UInt8)} {sm:Mp Bool} {m n:Nat} {now:Int} {s:Off}
theorem evI_same {s':Off}(h:evI s)(h1:s'.his=s.his){l:List Evn}(h2:s'.log=s.log++l)(h3:∀x ∈ l,isOB x=false):evI s':=fun φ=>by
 rw[h1,h2,obS_app,h φ]
 have:obS φ l=0:=by
  unfold obS;rw[List.filter_eq_nil_iff.2 (fun x hx=>by rw[h3 x hx];simp)];rfl
 omega
theorem kinds_ob {w:List UInt8}(h:kindsM.has w=true):kindsM.val w≠2∧kindsM.val w≠3:=by
 simp only[kindsM,Mp.put,Mp.nil,Bool.or_eq_true,decide_eq_true_eq,Bool.false_eq_true,or_false]at h ⊢
 (repeat' split)<;>first|(exact⟨by decide,by decide⟩)|(simp_all;done)
theorem start_evs (t:Tol):evsL (stHi now t).legs= [stEv now t]:=by
 simp[stHi,startH,evsL,legEv,rgN,outE,stEv]
theorem stS_evI (hI:offI m n s)(h:evI s)(t:Tol):evI (stS vm sm s now t):=by
 unfold stS;split
 · rename_i e;unfold stE at e
   by_cases q:hirE (stHi now t)=0
   · rw[if_neg (fun c=>c q)]at e;have e1:(if s.his.has (t.texts.getD 0 [])=true then(6:Int)else 0)=0:=firstE_mem e _ (by simp)
     have hk:s.his.has (t.texts.getD 0 [])=false:=by
      cases r:s.his.has (t.texts.getD 0 [])with
      |false=>rfl
      |true=>rw[if_pos r]at e1;exact absurd e1 (by decide)
     obtain⟨L,_,hL⟩:=hI.fh;intro φ;show obS φ (s.log++ [stEv now t])=hisS φ (s.his.put (t.texts.getD 0 []) (some (stHi now t))) (keysS (s.his.put (t.texts.getD 0 []) (some (stHi now t))).has);rw[hisS_new φ hL hk,obS_app,h φ,start_evs,obS_all φ (fun x hx=>by rw[List.mem_singleton.1 hx];rfl)]
   · rw[if_pos q]at e;exact absurd e q
 · exact h
theorem chS_evI (hI:offI m n s)(hn:0≤now)(h:evI s)(t:Tol):evI (chS vm sm s now t):=by
 unfold chS;split
 · rename_i e;unfold chE at e
   by_cases q:s.his.has (t.texts.getD 0 [])=true
   · rw [if_pos q]at e;obtain⟨g,hg,hE⟩:=hI.his _ q;have hgd:(s.his.val (t.texts.getD 0 [])).getD hi0=g:=by rw[hg];rfl
     rw[hgd]at e ⊢;obtain⟨⟨_,ho,hN⟩,hkn,hcan⟩:=chG_zero e;obtain⟨L,_,hL⟩:=hI.fh
     have hev:evsL (chNext g now t).legs=evsL g.legs++chEvs g now t:=by
      unfold chNext chEvs
      by_cases w1:t.word= [101,120,116,101,110,100]
      · rw[if_pos w1,if_pos w1,List.append_nil];rfl
      rw[if_neg w1,if_neg w1]
      by_cases w2:t.word= [99,108,111,115,101]
      · rw[if_pos w2,if_pos w2];exact evsL_set hE ho (chIn now t) (show now≠-1 by omega)
      · rw[if_neg w2,if_neg w2];have e1:=evsL_set hE ho (chIn now t) (show now≠-1 by omega)
        have e2:evsL (exH g (chIn now t) (t.texts.getD 2 []) (chOut now t)).legs=evsL (setIn g.legs (chIn now t))++evsL [⟨t.texts.getD 2 [],chOut now t,rgN⟩]:=by
         show evsL (setIn g.legs (chIn now t)++ [_])=_;unfold evsL;rw[List.flatMap_append]
        rw[e2,e1,List.append_assoc];rfl
     have hob:∀x ∈ chEvs g now t,isOB x=true:=fun x hx=>by
      unfold chEvs at hx
      by_cases w1:t.word= [101,120,116,101,110,100]
      · rw[if_pos w1]at hx;cases hx
      rw[if_neg w1]at hx
      by_cases w2:t.word= [99,108,111,115,101]
      · rw[if_pos w2]at hx;rw[List.mem_singleton.1 hx];rfl
      · rw[if_neg w2]at hx;simp only[List.mem_cons,List.not_mem_nil,or_false]at hx;rcases hx with rfl|rfl<;>rfl
     intro φ;show obS φ (sayL s (chEvs g now t)).log=hisS φ ((sayL s (chEvs g now t)).his.put (t.texts.getD 0 []) (some (chNext g now t))) (keysS ((sayL s (chEvs g now t)).his.put (t.texts.getD 0 []) (some (chNext g now t))).has);rw[sayL_his,sayL_log,hisS_old φ hL q hg,obS_app,h φ,hev,sumF_app,obS_all φ hob];omega
   · rw[if_neg q]at e;exact absurd e (by decide)
 · exact h
theorem folO_evI (h:Hou)(hI:offI m n s)(he:evI s){x:Ent}(hx:0≤x.tm):evI (folO h vm sm s x):=by
 unfold folO;split
 · exact he
 split
 · rename_i q;unfold evtS;split
   · refine evI_same (s':=sayS s (evOf x.tm (telT formsM x.words))) he rfl (l:= [evOf x.tm (telT formsM x.words)]) rfl (fun y hy=> ?_);rw[List.mem_singleton.1 hy];have hk:=kinds_val q;unfold isOB;have hk2:kindsM.val (telT formsM x.words).word≠2∧kindsM.val (telT formsM x.words).word≠3:=kinds_ob q;rw[decide_eq_false (show ¬ (evOf x.tm (telT formsM x.words)).kind=2 from hk2.1),decide_eq_false (show ¬ (evOf x.tm (telT formsM x.words)).kind=3 from hk2.2)];rfl
   · exact he
 split
 · unfold bookS;split
   · exact he
   · exact he
 split
 · split
   · exact he
   · exact he
 split
 · exact stS_evI hI he _
 split
 · unfold payS;split
   · exact he
   · exact he
 exact chS_evI hI hx he _
theorem runC_evI (h:Hou):∀ (l:List Ent) {m n:Nat} {s:Off},offI m n s→evI s→(∀x ∈ l,0≤x.tm)→evI (runC h vm sm s l)
 | [],m,n,s,_,he,_=>he
 |x::l,m,n,s,hI,he,hx=>runC_evI h l (folO_I hI h vm sm x) (folO_evI h hI he (hx x (by simp))) (fun y hy=>hx y (by simp[hy]))
def Fc (a b t:Int):Int:=max 0 (min t b - a)
def com (a b c d:Int):Int:=max 0 (min b d - max a c)
theorem com_F {a b c d:Int}(hab:a≤b)(hcd:c≤d):com a b c d=Fc a b d - Fc a b c:=by unfold com Fc;omega
def spN (a b k:Int)(p:Stt×Int)(x:Evn):Stt×Int:=(folS p.1 x,p.2+if p.1.k=k then com a b p.1.sin x.tm else 0)
def spE (a b k:Int)(p:Stt×Int):Int:=p.2+if p.1.k=k then com a b p.1.sin 5761440 else 0
def spK (a b k:Int)(l:List Evn):Int:=spE a b k (l.foldl (spN a b k) (ss0,0))
def phi (a b:Int)(x:Evn):Int:=if x.kind=2 then Fc a b 5761440 - Fc a b x.tm else if x.kind=3 then Fc a b x.tm - Fc a b 5761440 else 0
theorem fol_k {s:Stt}{x:Evn}(h:folOk s x=true):(x.kind=2→s.k≠2∧(folS s x).k=2∧(folS s x).sin=x.tm)∧(x.kind=3→s.k=2∧(folS s x).k≠2)∧(x.kind≠2→x.kind≠3→s.k≠2∧(folS s x).k≠2):=by
 unfold folS;rw[if_pos h];unfold folOk at h
 by_cases k1:x.kind=1<;>by_cases k2:x.kind=2<;>by_cases k3:x.kind=3<;>by_cases k4:x.kind=4<;>by_cases k5:x.kind=5<;>by_cases k6:x.kind=6<;>by_cases k7:x.kind=7<;>by_cases k8:x.kind=8<;>simp_all<;>omega
theorem sp_step {a b:Int}(hab:a≤b){p:Stt×Int}{x:Evn}(h:folOk p.1 x=true)(h1:p.1.sin≤x.tm)(h2:x.tm≤5761440):spE a b 2 (spN a b 2 p x)=spE a b 2 p+phi a b x:=by
 obtain⟨f1,f2,f3⟩:=fol_k h;unfold spE spN phi;have c1:=com_F (a:=a) (b:=b) (c:=p.1.sin) (d:=x.tm) hab h1;have c2:=com_F (a:=a) (b:=b) (c:=p.1.sin) (d:=5761440) hab (by omega);have c3:=com_F (a:=a) (b:=b) (c:=x.tm) (d:=5761440) hab h2
 by_cases k2:x.kind=2
 · obtain⟨g1,g2,g3⟩:=f1 k2;simp only[if_neg g1,if_pos g2,if_pos k2,g3];omega
 by_cases k3:x.kind=3
 · obtain⟨g1,g2⟩:=f2 k3;simp only[if_pos g1,if_neg g2,if_neg k2,if_pos k3];omega
 · obtain⟨g1,g2⟩:=f3 k2 k3;simp only[if_neg g1,if_neg g2,if_neg k2,if_neg k3,Int.add_zero]
theorem sp_all {a b:Int}(hab:a≤b):∀ (l:List Evn) (p:Stt×Int),chn p.1 l→(∀x ∈ l,p.1.sin≤x.tm∧x.tm≤5761440)→l.Pairwise (fun x y=>x.tm≤y.tm)→spE a b 2 (l.foldl (spN a b 2) p)=spE a b 2 p+sumF (phi a b) l
 | [],p,_,_,_=>by simp[sumF]
 | x ::l,p,hc,ht,hp=>by
   rw[List.pairwise_cons]at hp;have hx:=ht x (by simp)
   have hs:∀y ∈ l,(spN a b 2 p x).1.sin≤y.tm∧y.tm≤5761440:=fun y hy=>by
    have h1:=hp.1 y hy;have h2:=ht y (by simp[hy]);refine⟨?_,h2.2⟩;show(folS p.1 x).sin≤y.tm
    have:(folS p.1 x).sin≤x.tm:=by
     unfold folS;repeat' split
     all_goals first|exact Int.le_refl _|exact hx.1
    omega
   rw[List.foldl_cons,sp_all hab l _ hc.2 hs hp.2,sp_step hab hc.1 hx.1 hx.2,sumF];omega
theorem sumF_filter {α:Type}(φ:α→Int)(p:α→Bool):∀l:List α,sumF φ (l.filter p)=sumF (fun x=>if p x=true then φ x else 0) l
 | []=>rfl
 | x::l=>by
   rw[sumF]
   by_cases q:p x=true
   · rw[List.filter_cons_of_pos q,sumF,sumF_filter φ p l,if_pos q]
   · rw[List.filter_cons_of_neg q,sumF_filter φ p l,if_neg q];omega
def lgT (a b:Int)(x:Leg):Int:=com a b x.out.tm (if x.inn.tm= -1 then 5761440 else x.inn.tm)
def hirT (v:List UInt8)(a b:Int)(g:Hir):Int:=sumF (fun x=>if x.veh=v then lgT a b x else 0) g.legs
theorem leg_phi {a b:Int}(hab:a≤b){v:List UInt8}{x:Leg}(h0:x.out.tm≤5761440)(h1:x.inn.tm≠-1→x.out.tm≤x.inn.tm):sumF (fun e=>if e.veh=v then phi a b e else 0) (legEv x)=if x.veh=v then lgT a b x else 0:=by
 unfold legEv lgT
 by_cases q:x.inn.tm= -1
 · rw[if_pos q,if_pos q,sumF,sumF];have c:=com_F (a:=a) (b:=b) (c:=x.out.tm) (d:=5761440) hab h0
   by_cases r:x.veh=v
   · rw[if_pos (show(outE x).veh=v from r),if_pos r,c];unfold phi;rw[if_pos (show(outE x).kind=2 from rfl)];show Fc a b 5761440 - Fc a b x.out.tm+0=_;omega
   · rw[if_neg (show ¬ (outE x).veh=v from r),if_neg r];rfl
 · rw[if_neg q,if_neg q,sumF,sumF,sumF];have c:=com_F (a:=a) (b:=b) (c:=x.out.tm) (d:=x.inn.tm) hab (h1 q)
   by_cases r:x.veh=v
   · rw[if_pos (show(outE x).veh=v from r),if_pos (show(bckE x).veh=v from r),if_pos r,c];unfold phi;rw[if_pos (show(outE x).kind=2 from rfl),if_neg (show ¬ (bckE x).kind=2 by show ¬ (3:Int)=2;decide),if_pos (show(bckE x).kind=3 from rfl)];show Fc a b 5761440 - Fc a b x.out.tm+(Fc a b x.inn.tm - Fc a b 5761440+0)=_;omega
   · rw[if_neg (show ¬ (outE x).veh=v from r),if_neg (show ¬ (bckE x).veh=v from r),if_neg r];rfl
theorem legs_phi {a b:Int}(hab:a≤b){v:List UInt8}:∀l:List Leg,(∀x ∈ l,x.out.tm≤5761440∧(x.inn.tm≠-1→x.out.tm≤x.inn.tm))→sumF (fun e=>if e.veh=v then phi a b e else 0) (evsL l)=sumF (fun x=>if x.veh=v then lgT a b x else 0) l
 | [],_=>rfl
 | x::l,h=>by
   have e:evsL (x::l)=legEv x++evsL l:=by simp[evsL]
   obtain⟨h1,h2⟩:=h x (by simp);rw[e,sumF_app,leg_phi hab h1 h2,legs_phi hab l (fun y hy=>h y (by simp[hy])),sumF]
theorem spent_hires {vm:Mp (List UInt8)}{sm:Mp Bool}{m n:Nat}{now:Int}{s:Off}(hI:offI m n s)(hb:logB vm sm now s)(hn:now≤5761439)(he:evI s){a b:Int}(hab:a≤b)(v:List UInt8):
 spK a b 2 (byV v s.log)=sumF (fun k=>hirT v a b (hirG s.his k)) (keysS s.his.has):=by
 obtain⟨L,_,hL⟩:=hI.fh;obtain⟨_,_,n3⟩:=keysS_spec hL
 have h1:=sp_all hab (byV v s.log) (ss0,0) (hb.ok v) (fun x hx=>by
  have:=(hb.rt x (List.mem_filter.1 hx).1).tm
  exact⟨this.1,by omega⟩) (hb.inc.sublist List.filter_sublist)
 have h0:spE a b 2 (ss0,0)=0:=rfl;unfold spK;rw[h1,h0,Int.zero_add];have h2:=he (fun e=>if e.veh=v then phi a b e else 0)
 have h3:sumF (phi a b) (byV v s.log)=obS (fun e=>if e.veh=v then phi a b e else 0) s.log:=by
  unfold byV obS;rw[sumF_filter,sumF_filter];refine sumF_congr (fun x _=> ?_)
  by_cases q:x.veh=v
  · rw[if_pos (by simpa using q),if_pos q]
    by_cases r:isOB x=true
    · rw[if_pos r]
    · rw[if_neg r];have r:isOB x=false:=by simpa using r
      unfold isOB at r;rw[Bool.or_eq_false_iff,decide_eq_false_iff_not,decide_eq_false_iff_not]at r;unfold phi;rw[if_neg r.1,if_neg r.2]
  · rw[if_neg (by simpa using q),if_neg q];split<;>rfl
 rw[h3,h2];unfold hisS;refine sumF_congr (fun k hk=> ?_);obtain⟨g,e1,e2⟩:=hI.his k ((n3 k).1 hk);have eg:hirG s.his k=g:=by unfold hirG;rw[e1];rfl
 rw[eg];unfold hirT;refine legs_phi hab _ (fun x hx=> ?_);obtain⟨i,hi,rfl⟩:=mem_getD (d:=lg0) hx;obtain⟨_,p2⟩:=hir_parts e2;have ho:=(leg_ord (p2 i hi)).2;refine⟨?_,fun q=>by have:=ho q;omega⟩;have e:=p2 i hi;unfold legE at e;generalize g.legs.getD i lg0=x at e ⊢
 by_cases c1:isKeyB x.veh=false
 · rw[if_pos c1]at e;exact absurd e (by decide)
 rw[if_neg c1]at e
 by_cases c2:rdgE x.out≠0
 · rw[if_pos c2]at e;exact absurd e c2
 have c2:rdgE x.out=0:=by simpa using c2
 unfold rdgE at c2
 by_cases c:0≤x.out.tm∧x.out.tm≤5761439
 · omega
 · rw[if_pos c]at c2;exact absurd c2 (by decide)
theorem sum_setI:∀ (P:List Int) (k:Nat) (x:Int),k<P.length→(P.set k x).sum=P.sum - P.getD k 0+x
 | [],_,_,h=>absurd h (by simp)
 |p::P,0,x,_=>by simp;omega
 | p::P,k+1,x,h=>by
   have:=sum_setI P k x (by simpa using h);simp only[List.set_cons_succ,List.sum_cons,List.getD_cons_succ,this];omega
theorem incL_sum:∀ (js P:List Int),(∀j ∈ js,0≤j∧j.toNat<P.length)→(incL P js).sum=P.sum+js.length:=by
 intro js
 induction js with
 |nil=>intro P _;simp[incL]
 | cons j js ih=>
   intro P h;have hj:=h j (by simp);have e:incL P (j::js)=incL (P.set j.toNat (P.getD j.toNat 0+1)) js:=rfl;rw[e,ih _ (fun i hi=>by rw[List.length_set];exact h i (by simp[hi])),sum_setI P _ _ hj.2,List.length_cons]
   push_cast
   omega
theorem splitG_sum (c:Int)(w:List Int)(hl:0≤leftL c (partG c w) w.length∧leftL c (partG c w) w.length≤w.length):(splitG c w).sum=c:=by
 have hF:fillL (fun j=>(j:Int)) w.length w.length=(List.range w.length).map (fun j:Nat=>(j:Int)):=by
  unfold fillL;exact List.map_congr_left fun j hj=>by rw[if_pos (List.mem_range.1 hj)]
 have hperm:(orderG c w).Perm ((List.range w.length).map (fun j:Nat=>(j:Int))):=by rw[←hF];exact isort_perm _ _
 have hlen:(orderG c w).length=w.length:=by rw[hperm.length_eq];simp
 have hmem:∀j ∈ (orderG c w).take (leftL c (partG c w) w.length).toNat,0≤j∧j.toNat<(fillL (partG c w) w.length w.length).length:=fun j hj=>by
  have:=hperm.mem_iff.1 (List.mem_of_mem_take hj);simp only[List.mem_map,List.mem_range]at this;obtain⟨i,hi,rfl⟩:=this;rw[fillL_length];omega
 have hP:(fillL (partG c w) w.length w.length).sum=((List.range w.length).map (partG c w)).sum:=by
  unfold fillL;exact congrArg List.sum (List.map_congr_left fun j hj=>by rw[if_pos (List.mem_range.1 hj)])
 unfold splitG;rw[incL_sum _ _ hmem,hP,List.length_take,hlen];have e:leftL c (partG c w) w.length=c - ((List.range w.length).map (partG c w)).sum:=rfl;omega
abbrev Win:=Int×Int
def vwF:Win→List DV:=fun p=> [.int .i64 p.1,.int .i64 p.2]
def vw0:Win:=(0,0)
abbrev wins (l:List Win):DV:=seqD 2 vwF vw0 l
abbrev vwB (l:List Win):Res:=seqB 55 2 vwF vw0 l
abbrev vwC (x:Win):Res:=.cells 55 [.d (.int .i64 x.1),.d (.int .i64 x.2)]
def hitP (x y:Win):Bool:=decide (x.1<y.2)&&decide (y.1<x.2)
theorem hitP_comm (x y:Win):hitP x y=hitP y x:=by unfold hitP;rw[Bool.and_comm]
def wlen (l:List Win):Int:=(l.map fun x=>x.2 - x.1).sum
theorem wlen_app (l m:List Win):wlen (l++m)=wlen l+wlen m:=by unfold wlen;rw[List.map_append,List.sum_append]
theorem wlen_cons (x:Win)(l:List Win):wlen (x::l)=(x.2 - x.1)+wlen l:=by simp[wlen]
theorem wlen_filter (p:Win→Bool)(l:List Win):wlen l=wlen (l.filter p)+wlen (l.filter fun x=> !p x):=by
 induction l with
 |nil=>rfl
 | cons x l ih=>
   cases q:p x
   · rw[List.filter_cons_of_neg (by simp[q]),List.filter_cons_of_pos (by simp[q]),wlen_cons,wlen_cons];omega
   · rw[List.filter_cons_of_pos (by simp[q]),List.filter_cons_of_neg (by simp[q]),wlen_cons,wlen_cons];omega
def disjW (l:List Win):Prop:=l.Pairwise (fun x y=>hitP x y=false)
def inW (a b:Int)(l:List Win):Prop:=∀x ∈ l,a≤x.1∧x.1<x.2∧x.2≤b
theorem disj_sum:∀ (n:Nat) (l:List Win) (a b:Int),l.length≤n→disjW l→inW a b l→a≤b→wlen l≤b - a:=by
 intro n
 induction n with
 | zero=>
   intro l a b h _ _ hab;obtain rfl:=List.eq_nil_of_length_eq_zero (by omega:l.length=0)
   simp[wlen];omega
 | succ n ih=>
   intro l a b h hd hi hab
   cases l with
   |nil=>simp[wlen];omega
   | cons x r=>
     have hx:=hi x (by simp);unfold disjW at hd;rw[List.pairwise_cons]at hd;have hr:r.length≤n:=by simp at h;omega
     have f1:=List.length_filter_le (fun y:Win=>decide (y.2≤x.1)) r;have f2:=List.length_filter_le (fun y:Win=> !decide (y.2≤x.1)) r
     have k1:=ih (r.filter fun y=>decide (y.2≤x.1)) a x.1 (by omega) (hd.2.sublist List.filter_sublist) (fun y hy=>by
      rw[List.mem_filter]at hy;have:=hi y (by simp[hy.1]);have h2:y.2≤x.1:=by simpa using hy.2
      omega) (by omega)
     have k2:=ih (r.filter fun y=> !decide (y.2≤x.1)) x.2 b (by omega) (hd.2.sublist List.filter_sublist) (fun y hy=>by
      rw[List.mem_filter]at hy;have:=hi y (by simp[hy.1]);have h2:x.1<y.2:=by simpa using hy.2
      have h3:=hd.1 y hy.1;unfold hitP at h3;rw[decide_eq_true h2,Bool.true_and,decide_eq_false_iff_not]at h3
      omega) (by omega)
     have:=wlen_filter (fun y=>decide (y.2≤x.1)) r;rw[wlen_cons];omega
theorem disj_snoc {l:List Win}{x:Win}(h:disjW l)(hx:∀y ∈ l,hitP x y=false):disjW (l++ [x]):=by
 unfold disjW at*;rw[List.pairwise_append];exact⟨h,by simp,fun y hy z hz=>by simp at hz;subst hz;rw[hitP_comm];exact hx y hy⟩
def hitW (l:List Win)(x:Win):Bool:=decide (0≤ixF (fun i=>hitP x (l.getD i vw0)) l.length)
theorem hitW_no {l:List Win}{x:Win}(h:hitW l x=false):∀y ∈ l,hitP x y=false:=fun y hy=>by
 obtain⟨i,hi,rfl⟩:=mem_getD (d:=vw0) hy
 cases q:hitP x (l.getD i vw0)with
 |false=>rfl
 | true=>
   have:=ixF_pos (p:=fun i=>hitP x (l.getD i vw0)) hi q;unfold hitW at h;rw[decide_eq_true this]at h;cases h
theorem z127 (x y:Win):FSpec Tryz.prog 28 [.agg ((vwF y).map .d),.ptr 1000002 0] [(1000002,vwC x)] (fun z r=>z= .d (.bool (hitP x y))∧r= [(1000002,vwC x)]):=by
 refine spAx hT Tryz.func28 Tryz.call28 ?_;conv=>whnf
 repeat' ((first|refine br_intro ?_ ?_<;>intro hb<;>try simp only[brs]at hb|omega|refine sAx ?_|decide|assumption)<;>conv=>whnf)
 all_goals
  refine .ret _ ?_;conv=>whnf
  refine⟨_,⟨?_,rfl⟩,rr,trivial⟩
  (conv=>lhs;whnf)
  congr 2
  unfold hitP;grind
theorem z211 (x:Win)(l:List Win)(hl:l.length≤2^40):FSpec Tryz.prog 56 [.buf 1000001,.fn 28 [.ptr 1000002 0]] [(1000001,vwB l),(1000002,vwC x)] (fun y r=>y= .d (.int .i64 (ixF (fun i=>hitP x (l.getD i vw0)) l.length))∧r= [(1000001,vwB l),(1000002,vwC x)]):=by
 refine spAx hT Tryz.func56 Tryz.call56 ?_;conv=>whnf
 refine LoopX.rule hT (C:= []) (ι:=Nat) (fun i=>i≤l.length∧∀j,j<i→hitP x (l.getD j vw0)=false) (fun i=>mkSt [(0,.buf 1000001),(1,.fn 28 [.ptr 1000002 0]),(7,.d (.int .i64 l.length)),(8,.d (.int .i64 i))] [(1000001,vwB l),(1000002,vwC x)]) (fun i=>l.length - i) 0 ⟨by omega,by omega⟩ (by exact eAx [(1000001,1000001),(1000002,1000002)]) ?_;rintro i ⟨p1,p2⟩;have e1:=tnc i;conv=>whnf
 repeat' ((first|(refine oEx (z127 x (l.getD (i:Int).toNat vw0)) [(1000002,1000002)] ?_)|refine br_intro ?_ ?_<;>intro hb<;>try simp only[brs]at hb|omega|refine sAx ?_|decide|assumption)<;>conv=>whnf)
 · refine .ret _ ?_;conv=>whnf
   refine⟨_,⟨?_,rfl⟩,rr,rr,trivial⟩
   (conv=>lhs;whnf)
   congr 2
   exact(ixF_hit (by omega) p2 (by simpa using hb)).symm
 · exact⟨i+1,⟨by omega,all_step p2 (by simpa using hb)⟩,by omega,(by exact eAx [(1000001,1000001),(1000002,1000002)])⟩
 · refine .ret _ ?_;conv=>whnf
   refine⟨_,⟨?_,rfl⟩,rr,rr,trivial⟩
   (conv=>lhs;whnf)
   congr 2
   have:i=l.length:=by omega
   subst this;exact(ixF_none p2).symm
theorem z126 (x:Win)(l:List Win)(hl:l.length≤2^40):FSpec Tryz.prog 27 [.buf 1000001,.fn 28 [.ptr 1000002 0]] [(1000001,vwB l),(1000002,vwC x)] (fun y r=>y= .d (.bool (hitW l x))∧r= [(1000001,vwB l),(1000002,vwC x)]):=by
 refine spAx hT Tryz.func27 Tryz.call27 ?_;conv=>whnf
 repeat' ((first|(refine oEx (z211 x l hl) [(1000001,1000001),(1000002,1000002)] ?_)|refine br_intro ?_ ?_<;>intro hb<;>try simp only[brs]at hb|omega|refine sAx ?_|decide|assumption)<;>conv=>whnf)
 refine .ret _ ?_;conv=>whnf
 exact⟨_,⟨rfl,rfl⟩,rr,rr,trivial⟩
def hadX (a b:Int)(x:Leg):Win:=(max x.out.tm a,min (if x.inn.tm= -1 then 5761440 else x.inn.tm) b)
def hadN (v:List UInt8)(a b:Int)(l:List Leg):Nat→List Win
 |0=> []
 |k+1=>hadN v a b l k++(if(l.getD k lg0).veh=v∧(hadX a b (l.getD k lg0)).1<(hadX a b (l.getD k lg0)).2 then [hadX a b (l.getD k lg0)]else [])
theorem hadN_ok (v:List UInt8)(a b:Int)(l:List Leg):∀k,(hadN v a b l k).length≤k∧inW a b (hadN v a b l k):=by
 intro k
 induction k with
 |zero=>exact⟨Nat.le_refl _,fun x hx=>by cases hx⟩
 | succ k ih=>
   rw[hadN];split
   · rename_i h;refine⟨by simp;omega,fun x hx=> ?_⟩;rcases List.mem_append.1 hx with q|q
     · exact ih.2 x q
     · simp at q;subst q;refine⟨?_,h.2,?_⟩
       · show a≤max _ a;omega
       · show min _ b≤b;omega
   · rw[List.append_nil];exact⟨by omega,ih.2⟩
theorem z125 (h:Hir)(v:List UInt8)(a b:Int)(hl:h.legs.length≤1000):FSpec Tryz.prog 26 [.agg ((hiF h).map .d),.d (.str v),.agg [.d (.int .i64 a),.d (.int .i64 b)]] [] (fun y r=>y= .d (wins (hadN v a b h.legs h.legs.length))∧r= []):=by
 refine spAx hT Tryz.func26 Tryz.call26 ?_;conv=>whnf
 repeat' ((first|refine br_intro ?_ ?_<;>intro hb<;>try simp only[brs]at hb|omega|refine sAx ?_|decide|assumption)<;>conv=>whnf)
 refine LoopX.rule hT (C:= []) (ι:=Nat) (fun i=>i≤h.legs.length) (fun i=>mkSt [(1,.d (.str v)),(5,.ptr 5 0),(7,.buf 7),(13,.d (legs h.legs)),(14,.d (.int .i64 h.legs.length)),(15,.d (.int .i64 i))] [(5,vwC (a,b)),(7,vwB (hadN v a b h.legs i))]) (fun i=>h.legs.length - i) 0 (by omega) ?_ ?_
 · exact(Entails.nil 7 7 55 2 (rowF vwF vw0 []) rfl rfl (by decide)).trans (by exact eAx [(5,5),(7,7)])
 rintro i p1;have e1:=tnc i;have hle:=(hadN_ok v a b h.legs i).1;conv=>whnf
 repeat' ((first|refine br_intro ?_ ?_<;>intro hb<;>try simp only[brs]at hb|omega|refine sAx ?_|decide|assumption)<;>conv=>whnf)
 all_goals first
  | (have hs:hadN v a b h.legs (i+1)=hadN v a b h.legs i++ [hadX a b (h.legs.getD (i:Int).toNat lg0)]:=by
      rw[hadN,if_pos (by simp only[e1]at*;unfold hadX;grind),e1]
     refine⟨i+1,by omega,by omega,Entails.mk' [(5,5),(7,49)] rfl rfl ⟨lr,lr,lr,lr,lr,lr,trivial⟩ ⟨rr,?_,trivial⟩⟩;rw[hs]
     exact Res.le_snocF (by unfold hadX;simp only[e1];(first|rw[if_pos (by assumption)]|rw[if_neg (by assumption)])<;>rfl))
  | (have hs:hadN v a b h.legs (i+1)=hadN v a b h.legs i:=by
      rw[hadN,if_neg (by simp only[e1]at*;unfold hadX;grind),List.append_nil]
     refine⟨i+1,by omega,by omega,?_⟩;rw[hs]
     exact(by exact eAx [(5,5),(7,7)]))
  | (refine .freeze _ 7 55 2 _ _ rfl (.weak _ ?_)
     conv=>whnf
     have:i=h.legs.length:=by omega
     subst this
     exact⟨_,[],lr,⟨rfl,rfl⟩,trivial⟩)
def lastE (x:Leg):Int:=if x.inn.tm= -1 then 5761440 else x.inn.tm
def onL (v:List UInt8)(x:Leg)(t:Int):Bool:=decide (x.veh=v)&&(decide (x.out.tm≤t)&&decide (t<lastE x))
def occ (v:List UInt8)(h:Hir)(t:Int):Bool:=h.legs.any fun x=>onL v x t
def lgSeq (ls:List Leg):Prop:=(∀x ∈ ls,0≤x.out.tm∧x.out.tm<lastE x∧lastE x≤5761440)∧∀i j,i<j→j<ls.length→lastE (ls.getD i lg0)≤(ls.getD j lg0).out.tm
theorem rdgE_zero {r:Rdg}(h:rdgE r=0):0≤r.tm∧r.tm≤5761439:=by
 unfold rdgE at h;split at h
 · omega
 · omega
theorem legE_zero {h:Hir}{i:Nat}(he:legE h i=0):(0≤(h.legs.getD i lg0).out.tm∧(h.legs.getD i lg0).out.tm<lastE (h.legs.getD i lg0)∧lastE (h.legs.getD i lg0)≤5761440)∧(0<i→(h.legs.getD i lg0).out.tm=(h.legs.getD (i - 1) lg0).inn.tm)∧
 ((h.legs.getD i lg0).inn.tm= -1→(h.legs.length:Int) - 1≤i):=by
 unfold legE at he;split at he
 · omega
 split at he
 · omega
 rename_i h1 h2;have ho:=rdgE_zero (Classical.not_not.1 h2);split at he
 · omega
 split at he
 · omega
 rename_i h3 h4;split at he
 · omega
 split at he
 · omega
 split at he
 · rename_i h5;split at he
   · omega
   split at he
   · omega
   refine⟨⟨ho.1,?_,?_⟩,fun q=>Classical.byContradiction fun q2=>h4 ⟨q,q2⟩,fun _=>by omega⟩
   · unfold lastE;rw[if_pos h5];omega
   · unfold lastE;rw[if_pos h5];omega
 · rename_i h5;split at he
   · omega
   rename_i h6;have hi:=rdgE_zero (Classical.not_not.1 h6);split at he
   · omega
   refine⟨⟨ho.1,?_,?_⟩,fun q=>Classical.byContradiction fun q2=>h4 ⟨q,q2⟩,fun q=>absurd q h5⟩
   · unfold lastE;rw[if_neg h5];omega
   · unfold lastE;rw[if_neg h5];omega
theorem lgSeq_of {h:Hir}(he:hirE h=0):lgSeq h.legs:=by
 have hall:∀i,i<h.legs.length→legE h i=0:=by
  unfold hirE at he;split at he
  · omega
  split at he
  · omega
  split at he
  · omega
  split at he
  · omega
  exact firstAt_all he
 refine⟨fun x hx=> ?_,fun i j hij hj=> ?_⟩
 · obtain⟨i,hi,rfl⟩:=mem_getD (d:=lg0) hx;exact(legE_zero (hall i hi)).1
 · have next:∀k,k+1<h.legs.length→lastE (h.legs.getD k lg0)=(h.legs.getD (k+1) lg0).out.tm:=fun k hk=>by
    have h1:=(legE_zero (hall (k+1) hk)).2.1 (by omega);rw[Nat.add_sub_cancel]at h1
    have h2:(h.legs.getD k lg0).inn.tm≠-1:=fun q=>by
     have:=(legE_zero (hall k (by omega))).2.2 q;omega
    unfold lastE;rw[if_neg h2,h1]
   induction j with
   |zero=>omega
   | succ j ih=>
     rcases Nat.lt_or_ge i j with q|q
     · have h1:=ih q (by omega);have h2:=(legE_zero (hall j (by omega))).1;have h3:=next j hj;omega
     · have:i=j:=by omega
       subst this;rw[next i hj];exact Int.le_refl _
def hadH (v:List UInt8)(a b:Int)(h:Hir):List Win:=hadN v a b h.legs h.legs.length
def hadS (v:List UInt8)(a b:Int)(h:Hir):Int:=wlen (hadH v a b h)
theorem hadN_mem {v:List UInt8}{a b:Int}{ls:List Leg}{x:Win}:∀ {k},x ∈ hadN v a b ls k↔∃i,i<k∧(ls.getD i lg0).veh=v∧(hadX a b (ls.getD i lg0)).1<(hadX a b (ls.getD i lg0)).2∧x=hadX a b (ls.getD i lg0):=by
 intro k
 induction k with
 |zero=>simp[hadN]
 | succ k ih=>
   rw[hadN,List.mem_append,ih];constructor
   · rintro(⟨i,h1,h2⟩|h)
     · exact⟨i,by omega,h2⟩
     · split at h
       · rename_i hh;simp at h;exact⟨k,by omega,hh.1,hh.2,h⟩
       · cases h
   · rintro⟨i,h1,h2,h3,h4⟩;rcases Nat.lt_or_ge i k with q|q
     · exact .inl ⟨i,q,h2,h3,h4⟩
     · have:i=k:=by omega
       subst this;refine .inr ?_;rw[if_pos ⟨h2,h3⟩];simp[h4]
theorem hadH_of {v:List UInt8}{a b t:Int}{h:Hir}(h1:a≤t)(h2:t<b)(ho:occ v h t=true):∃x ∈ hadH v a b h,x.1≤t∧t<x.2:=by
 unfold occ at ho;rw[List.any_eq_true]at ho;obtain⟨x,hx,hxt⟩:=ho;obtain⟨i,hi,rfl⟩:=mem_getD (d:=lg0) hx;unfold onL at hxt;simp only[Bool.and_eq_true,decide_eq_true_eq]at hxt;have e:hadX a b (h.legs.getD i lg0)=(max (h.legs.getD i lg0).out.tm a,min (lastE (h.legs.getD i lg0)) b):=rfl;refine⟨hadX a b (h.legs.getD i lg0),hadN_mem.2 ⟨i,hi,hxt.1,?_,rfl⟩,?_⟩
 · rw[e];show max _ a<min _ b;omega
 · rw[e];constructor
   · show max _ a≤t;omega
   · show t<min _ b;omega
theorem hadH_to {v:List UInt8}{a b t:Int}{h:Hir}{x:Win}(hx:x ∈ hadH v a b h)(h1:x.1≤t)(h2:t<x.2):(a≤t∧t<b)∧occ v h t=true:=by
 obtain⟨i,hi,hv,_,rfl⟩:=hadN_mem.1 hx;have e:hadX a b (h.legs.getD i lg0)=(max (h.legs.getD i lg0).out.tm a,min (lastE (h.legs.getD i lg0)) b):=rfl;rw[e]at h1 h2;have h1:max (h.legs.getD i lg0).out.tm a≤t:=h1;have h2:t<min (lastE (h.legs.getD i lg0)) b:=h2;refine⟨by omega,?_⟩;unfold occ;rw[List.any_eq_true];refine⟨h.legs.getD i lg0,getD_mem hi,?_⟩;unfold onL;rw[decide_eq_true hv,decide_eq_true (by omega:(h.legs.getD i lg0).out.tm≤t),decide_eq_true (by omega:t<lastE (h.legs.getD i lg0))];rfl
theorem had_disj {v:List UInt8}{a b:Int}{ls:List Leg}(hs:lgSeq ls):∀k,k≤ls.length→disjW (hadN v a b ls k):=by
 intro k
 induction k with
 |zero=>intro _;exact List.Pairwise.nil
 | succ k ih=>
   intro hk;rw[hadN];split
   · rename_i hh;refine disj_snoc (ih (by omega)) (fun y hy=> ?_);obtain⟨i,hi,_,_,rfl⟩:=hadN_mem.1 hy;have:=hs.2 i k hi (by omega);have e1:hadX a b (ls.getD i lg0)=(max (ls.getD i lg0).out.tm a,min (lastE (ls.getD i lg0)) b):=rfl;have e2:hadX a b (ls.getD k lg0)=(max (ls.getD k lg0).out.tm a,min (lastE (ls.getD k lg0)) b):=rfl;unfold hitP;rw[e1,e2,decide_eq_false (show ¬ (max (ls.getD k lg0).out.tm a<min (lastE (ls.getD i lg0)) b)by omega),Bool.false_and]
   · rw[List.append_nil];exact ih (by omega)
theorem two_of {α:Type}{p:α→Bool}{d:α}:∀ {l:List α} {i j:Nat},i<j→j<l.length→p (l.getD i d)=true→p (l.getD j d)=true→2≤(l.filter p).length:=by
 intro l
 induction l with
 |nil=>intro i j _ h;simp at h
 | cons x l ih=>
   intro i j hij hj hi hjp
   cases j with
   |zero=>omega
   | succ j=>
     rw[List.getD_cons_succ]at hjp
     cases i with
     | zero=>
       rw[List.getD_cons_zero]at hi;rw[List.filter_cons_of_pos hi,List.length_cons];have:0<(l.filter p).length:=List.length_pos_of_mem (List.mem_filter.2 ⟨getD_mem (by simpa using hj),hjp⟩)
       omega
     | succ i=>
       rw[List.getD_cons_succ]at hi;have:=ih (by omega) (by simpa using hj) hi hjp
       have h2:(l.filter p).length≤((x::l).filter p).length:=by
        rw[List.filter_cons];split<;>simp
       omega
theorem two_to {α:Type}{p:α→Bool}{d:α}:∀ {l:List α},2≤(l.filter p).length→∃i j,i<j∧j<l.length∧p (l.getD i d)=true∧p (l.getD j d)=true:=by
 intro l
 induction l with
 |nil=>intro h;simp at h
 | cons x l ih=>
   intro h
   by_cases hx:p x=true
   · rw[List.filter_cons_of_pos hx,List.length_cons]at h;have:0<(l.filter p).length:=by omega
     obtain⟨y,hy⟩:=List.exists_mem_of_length_pos this;obtain⟨hy1,hy2⟩:=List.mem_filter.1 hy;obtain⟨j,hj,rfl⟩:=mem_getD (d:=d) hy1;exact⟨0,j+1,by omega,by simp;omega,by simpa using hx,by simpa using hy2⟩
   · rw[List.filter_cons_of_neg hx]at h;obtain⟨i,j,h1,h2,h3,h4⟩:=ih h;exact⟨i+1,j+1,by omega,by simp;omega,by simpa using h3,by simpa using h4⟩
def whoL (v:List UInt8)(l:List Hir)(t:Int):List (List UInt8):=(l.filter fun h=>occ v h t).map (·.key)
def clash (v:List UInt8)(a b:Int)(l:List Hir):Prop:=∃t,a≤t∧t<b∧2≤(whoL v l t).length
def hadA (v:List UInt8)(a b:Int)(l:List Hir)(i:Nat):List Win:=(l.take i).flatMap (hadH v a b)
theorem hadA_succ {v:List UInt8}{a b:Int}{l:List Hir}{i:Nat}(hi:i<l.length):hadA v a b l (i+1)=hadA v a b l i++hadH v a b (l.getD i hi0):=by
 unfold hadA;rw[take_snocD (d:=hi0) hi,List.flatMap_append];simp
theorem hadA_mem {v:List UInt8}{a b:Int}{l:List Hir}{i:Nat}(hi:i≤l.length){x:Win}:x ∈ hadA v a b l i↔∃j,j<i∧x ∈ hadH v a b (l.getD j hi0):=by
 unfold hadA;rw[List.mem_flatMap];constructor
 · rintro⟨h,hh,hx⟩;obtain⟨j,hj,rfl⟩:=mem_getD (d:=hi0) hh;have hj:j<i:=by simp at hj;omega
   refine⟨j,hj,?_⟩;have e:(l.take i).getD j hi0=l.getD j hi0:=by rw[List.getD_eq_getElem?_getD,List.getD_eq_getElem?_getD,List.getElem?_take_of_lt hj]
   rw[←e];exact hx
 · rintro⟨j,hj,hx⟩;refine⟨l.getD j hi0,?_,hx⟩;have e:(l.take i).getD j hi0=l.getD j hi0:=by rw[List.getD_eq_getElem?_getD,List.getD_eq_getElem?_getD,List.getElem?_take_of_lt hj]
   rw[←e];exact getD_mem (by simp;omega)
theorem hitW_yes {l:List Win}{x:Win}:hitW l x=true↔∃y ∈ l,hitP x y=true:=by
 constructor
 · intro h;refine Classical.byContradiction fun q=> ?_
   have hno:∀j,j<l.length→hitP x (l.getD j vw0)=false:=fun j hj=>by
    cases e:hitP x (l.getD j vw0)with
    |false=>rfl
    |true=>exact absurd ⟨_,getD_mem hj,e⟩ q
   unfold hitW at h;rw[ixF_none hno]at h;simp at h
 · rintro⟨y,hy,hh⟩
   cases q:hitW l x with
   |true=>rfl
   |false=>rw[hitW_no q y hy]at hh;cases hh
theorem meet_at {v:List UInt8}{a b:Int}{h k:Hir}{x y:Win}(hx:x ∈ hadH v a b h)(hy:y ∈ hadH v a b k)(hh:hitP x y=true):∃t,(a≤t∧t<b)∧occ v h t=true∧occ v k t=true:=by
 unfold hitP at hh;simp only[Bool.and_eq_true,decide_eq_true_eq]at hh;have h1:=(hadN_ok v a b h.legs h.legs.length).2 x hx;have h2:=(hadN_ok v a b k.legs k.legs.length).2 y hy;obtain⟨q1,q2⟩:=hadH_to (t:=max x.1 y.1) hx (by omega) (by omega);obtain⟨_,q4⟩:=hadH_to (t:=max x.1 y.1) hy (by omega) (by omega);exact⟨_,q1,q2,q4⟩
theorem clash_of {v:List UInt8}{a b:Int}{l:List Hir}{i:Nat}(hi:i<l.length)(hs:lgSeq (l.getD i hi0).legs){j:Nat}(hj:j<(hadH v a b (l.getD i hi0)).length)
 (h:hitW (hadA v a b l i++(hadH v a b (l.getD i hi0)).take j) ((hadH v a b (l.getD i hi0)).getD j vw0)=true):clash v a b l:=by
 obtain⟨y,hy,hh⟩:=hitW_yes.1 h;rcases List.mem_append.1 hy with q|q
 · obtain⟨i',hi',hy'⟩:=(hadA_mem (by omega)).1 q;obtain⟨t,ht,o1,o2⟩:=meet_at (getD_mem hj) hy' hh;refine⟨t,ht.1,ht.2,?_⟩;unfold whoL;rw[List.length_map];exact two_of (d:=hi0) hi' hi o2 o1
 · exfalso;have hd:=had_disj (v:=v) (a:=a) (b:=b) hs _ (Nat.le_refl _);obtain⟨m,hm,rfl⟩:=List.getElem_of_mem q;rw[List.getElem_take]at hh;have hmj:m<j:=by simp at hm;omega
   have:=List.pairwise_iff_getElem.1 hd m j (by show m<(hadH v a b (l.getD i hi0)).length;omega) hj hmj;have e2:(hadH v a b (l.getD i hi0)).getD j vw0=(hadH v a b (l.getD i hi0))[j]:=by rw[List.getD_eq_getElem?_getD (l:=hadH v a b (l.getD i hi0)),List.getElem?_eq_getElem hj];rfl
   rw[e2,hitP_comm]at hh;have e:hitP (hadH v a b (l.getD i hi0))[m] (hadH v a b (l.getD i hi0))[j]=false:=this;rw[e]at hh;cases hh
theorem no_clash {v:List UInt8}{a b:Int}{l:List Hir}(h:∀i,i<l.length→∀j,j<(hadH v a b (l.getD i hi0)).length→hitW (hadA v a b l i++(hadH v a b (l.getD i hi0)).take j) ((hadH v a b (l.getD i hi0)).getD j vw0)=false):¬clash v a b l:=by
 rintro⟨t,h1,h2,h3⟩;unfold whoL at h3;rw[List.length_map]at h3;obtain⟨i,k,hik,hk,o1,o2⟩:=two_to (d:=hi0) h3;obtain⟨x,hx,x1,x2⟩:=hadH_of h1 h2 o2;obtain⟨y,hy,y1,y2⟩:=hadH_of h1 h2 o1;obtain⟨j,hj,rfl⟩:=mem_getD (d:=vw0) hx;have:=h k hk j hj
 have hh:hitW (hadA v a b l k++(hadH v a b (l.getD k hi0)).take j) ((hadH v a b (l.getD k hi0)).getD j vw0)=true:=by
  rw[hitW_yes];refine⟨y,List.mem_append_left _ ((hadA_mem (by omega)).2 ⟨i,hik,hy⟩),?_⟩;unfold hitP;rw[decide_eq_true (by omega),decide_eq_true (by omega)];rfl
 rw[hh]at this;cases this
def prts (v:List UInt8)(a b:Int)(l:List Hir):List Pair:=(l.map fun h=>(h.key,hadS v a b h)).filter fun p=>decide (0<p.2)
theorem prts_take {v:List UInt8}{a b:Int}{l:List Hir}{i:Nat}(hi:i<l.length):prts v a b (l.take (i+1))=prts v a b (l.take i)++(if 0<hadS v a b (l.getD i hi0)then [((l.getD i hi0).key,hadS v a b (l.getD i hi0))]else []):=by
 unfold prts;rw[take_snocD (d:=hi0) hi,List.map_append,List.filter_append,List.map_singleton];congr 1
 split
 · rename_i h;rw[List.filter_cons_of_pos (by simpa using h)];rfl
 · rename_i h;rw[List.filter_cons_of_neg (by simpa using h)];rfl
theorem hadS_nonneg (v:List UInt8)(a b:Int)(h:Hir):0≤hadS v a b h:=by
 have hh:=(hadN_ok v a b h.legs h.legs.length).2;unfold hadS hadH wlen;refine sum_nonneg fun x hx=> ?_
 obtain⟨y,hy,rfl⟩:=List.mem_map.1 hx;have:=hh y hy;omega
theorem prts_sum {v:List UInt8}{a b:Int}:∀l:List Hir,((prts v a b l).map (·.2)).sum=(l.map (hadS v a b)).sum:=by
 intro l
 induction l with
 |nil=>rfl
 | cons h l ih=>
   unfold prts at*;simp only[List.map_cons,List.sum_cons,List.filter_cons];have:=hadS_nonneg v a b h;split
   · simp only[List.map_cons,List.sum_cons,ih]
   · rename_i q;have:hadS v a b h=0:=by simp at q;omega
     rw[ih,this];omega
theorem hadA_wlen {v:List UInt8}{a b:Int}:∀l:List Hir,wlen (l.flatMap (hadH v a b))=(l.map (hadS v a b)).sum:=by
 intro l
 induction l with
 |nil=>rfl
 |cons h l ih=>rw[List.flatMap_cons,wlen_app,ih,List.map_cons,List.sum_cons];rfl
def offi (v:List UInt8)(a b:Int)(l:List Hir):Int:=b - a - (l.map (hadS v a b)).sum
def wtsP (v:List UInt8)(a b:Int)(l:List Hir):List Pair:=if 0<offi v a b l then([],offi v a b l)::prts v a b l else prts v a b l
def mkS (c:Int)(ws:List Pair):List Pair:=List.zipWith (fun p x=>(p.1,x)) ws (splitG c (ws.map (·.2)))
open Classical in
noncomputable def blmE (v:List UInt8)(a b:Int)(l:List Hir)(c:Int):List Pair×Int:=
 if clash v a b l then([],13)else if ¬ (0≤c∧c≤1000000000)then([],1)else if a=b then([([],c)],0)else(mkS c (wtsP v a b l),0)
theorem hadN_T (v:List UInt8)(a b:Int)(l:List Leg):∀k,k≤l.length→wlen (hadN v a b l k)=sumF (fun x=>if x.veh=v then lgT a b x else 0) (l.take k)
 |0,_=>rfl
 | k +1,hk=>by
   have hi:k<l.length:=by omega
   have e:l.take (k+1)=l.take k++ [l.getD k lg0]:=take_snocD (d:=lg0) hi;rw[hadN,wlen_app,hadN_T v a b l k (by omega),e,sumF_app];congr 1
   rw[sumF,sumF];generalize l.getD k lg0=x;unfold lgT com hadX
   by_cases q:x.veh=v
   · rw[if_pos q]
     by_cases r:max x.out.tm a<min (if x.inn.tm= -1 then 5761440 else x.inn.tm) b
     · rw[if_pos ⟨q,r⟩];simp only[wlen,List.map_cons,List.map_nil,List.sum_cons,List.sum_nil];omega
     · rw[if_neg (fun c=>r c.2)];simp only[wlen,List.map_nil,List.sum_nil];omega
   · rw[if_neg (fun c=>q c.1),if_neg q];simp[wlen]
theorem hadS_T (v:List UInt8)(a b:Int)(g:Hir):hadS v a b g=hirT v a b g:=by
 unfold hadS hadH hirT;rw[hadN_T v a b g.legs _ (Nat.le_refl _),List.take_length]
theorem sum_sumF {α:Type}(φ:α→Int):∀l:List α,(l.map φ).sum=sumF φ l
 | []=>rfl
 |x::l=>by rw[List.map_cons,List.sum_cons,sum_sumF φ l,sumF]
theorem sumF_map {α β:Type}(φ:β→Int)(f:α→β):∀l:List α,sumF φ (l.map f)=sumF (fun x=>φ (f x)) l
 | []=>rfl
 |x::l=>by rw[List.map_cons,sumF,sumF,sumF_map φ f l]
variable {vm:Mp (List UInt8)} {sm:Mp Bool} {m n:Nat} {now:Int} {s:Off}
theorem no_clashL (hI:offI m n s)(hc:hirC vm now s)(v:List UInt8)(a b:Int):¬clash v a b ((keysS s.his.has).map (hirG s.his)):=by
 obtain⟨L,_,hL⟩:=hI.fh;obtain⟨n1,_,n3⟩:=keysS_spec hL;rintro⟨t,_,_,h2⟩;unfold whoL at h2;rw[List.length_map]at h2
 have hp:((keysS s.his.has).map (hirG s.his)).Pairwise fun g g' =>¬ (occ v g t=true∧occ v g' t=true):=by
  rw[List.pairwise_map];refine n1.imp_of_mem (fun{k1 k2} m1 m2 hne=> ?_);rintro⟨o1,o2⟩;obtain⟨g1,e1,_⟩:=hI.his k1 ((n3 k1).1 m1);obtain⟨g2,e2,_⟩:=hI.his k2 ((n3 k2).1 m2);have f1:hirG s.his k1=g1:=by unfold hirG;rw[e1];rfl
  have f2:hirG s.his k2=g2:=by unfold hirG;rw[e2];rfl
  rw[f1]at o1;rw[f2]at o2;unfold occ at o1 o2;rw[List.any_eq_true]at o1 o2;obtain⟨x,hx,ox⟩:=o1;obtain⟨y,hy,oy⟩:=o2;unfold onL at ox oy;simp only[Bool.and_eq_true,decide_eq_true_eq]at ox oy;have hd:=hc.dis k1 k2 g1 g2 hne e1 e2 x hx y hy (by rw[ox.1,oy.1]);have l1:lastTo x=lastE x:=rfl;have l2:lastTo y=lastE y:=rfl;rw[l1,l2]at hd;omega
 have hf:=hp.filter (fun h=>occ v h t);generalize hF:((keysS s.his.has).map (hirG s.his)).filter (fun h=>occ v h t)=F at h2 hf
 match F,h2,hf,hF with
 | x::y::l,_,hf,hF=>
   rw[List.pairwise_cons]at hf;have hx:x ∈ ((keysS s.his.has).map (hirG s.his)).filter (fun h=>occ v h t):=by rw[hF];simp
   have hy:y ∈ ((keysS s.his.has).map (hirG s.his)).filter (fun h=>occ v h t):=by rw[hF];simp
   exact hf.1 y (by simp) ⟨(List.mem_filter.1 hx).2,(List.mem_filter.1 hy).2⟩
theorem offi_log (hI:offI m n s)(hb:logB vm sm now s)(hn:now≤5761439)(he:evI s){a b:Int}(hab:a≤b)(v:List UInt8):
 offi v a b ((keysS s.his.has).map (hirG s.his))=b - a - spK a b 2 (byV v s.log):=by
 unfold offi;rw[sum_sumF,sumF_map,spent_hires hI hb hn he hab v];congr 1
 exact sumF_congr (fun k _=>hadS_T v a b _)
theorem com_nn (a b c d:Int):0≤com a b c d:=by unfold com;omega
theorem sumF_nn {α:Type}{φ:α→Int}:∀ {l:List α},(∀x ∈ l,0≤φ x)→0≤sumF φ l
 | [],_=>Int.le_refl _
 |x::l,h=>by rw[sumF];have:=h x (by simp);have:=sumF_nn (l:=l) (fun y hy=>h y (by simp[hy]));omega
theorem hadS_nn (v:List UInt8)(a b:Int)(g:Hir):0≤hadS v a b g:=by
 rw[hadS_T];unfold hirT;refine sumF_nn (fun x _=> ?_);split
 · exact com_nn _ _ _ _
 · exact Int.le_refl _
def paidF (S:List Pair):Int:=S.foldl (fun o p=>if p.1= []then p.2 else o) 0
theorem paidF_none:∀ (S:List Pair) (o:Int),(∀p ∈ S,p.1≠ [])→S.foldl (fun o p=>if p.1= []then p.2 else o) o=o
 | [],_,_=>rfl
 | p::S,o,h=>by
   rw[List.foldl_cons,if_neg (h p (by simp))];exact paidF_none S o (fun q hq=>h q (by simp[hq]))
theorem prts_sumL (v:List UInt8)(a b:Int):∀l:List Hir,((prts v a b l).map (·.2)).sum=(l.map (hadS v a b)).sum
 | []=>rfl
 | g::l=>by
   have ih:=prts_sumL v a b l;unfold prts at ih ⊢;rw[List.map_cons];have h0:=hadS_nn v a b g
   by_cases q:0<hadS v a b g
   · rw[List.filter_cons_of_pos (by simpa using q),List.map_cons,List.sum_cons,ih,List.map_cons,List.sum_cons]
   · rw[List.filter_cons_of_neg (by simpa using q),ih,List.map_cons,List.sum_cons];omega
theorem wtsP_sum {v:List UInt8}{a b:Int}{l:List Hir}(h0:0≤offi v a b l):((wtsP v a b l).map (·.2)).sum=b - a:=by
 have e:offi v a b l=b - a - (l.map (hadS v a b)).sum:=rfl;unfold wtsP;split
 · rw[List.map_cons,List.sum_cons,prts_sumL];show offi v a b l+_=_;omega
 · rw[prts_sumL];omega
theorem wtsP_nn (v:List UInt8)(a b:Int)(l:List Hir):∀x ∈ (wtsP v a b l).map (·.2),0≤x:=fun x hx=>by
 obtain⟨p,hp,rfl⟩:=List.mem_map.1 hx
 have hq:∀p ∈ prts v a b l,0≤p.2:=fun p hp=>by
  have:=(List.mem_filter.1 hp).2;have:=of_decide_eq_true this;omega
 unfold wtsP at hp;split at hp
 · rcases List.mem_cons.1 hp with r|r
   · rw[r];show 0≤offi v a b l;omega
   · exact hq p r
 · exact hq p hp
theorem zip_snd:∀ (ws:List Pair) (P:List Int),P.length=ws.length→(List.zipWith (fun p x=>(p.1,x)) ws P:List Pair).map (·.2)=P
 | [],[],_=>rfl
 | [],_::_,h=>by simp at h
 |_::_,[],h=>by simp at h
 | w::ws,x::P,h=>by
   rw[List.zipWith_cons_cons,List.map_cons,zip_snd ws P (by simpa using h)]
theorem zip_fst:∀ (ws:List Pair) (P:List Int),∀p ∈ (List.zipWith (fun p x=>(p.1,x)) ws P:List Pair),∃q ∈ ws,q.1=p.1
 | [],_,p,h=>by simp at h
 |_::_,[],p,h=>by simp at h
 | w::ws,x::P,p,h=>by
   rw[List.zipWith_cons_cons]at h;rcases List.mem_cons.1 h with r|r
   · exact⟨w,by simp,by rw[r]⟩
   · obtain⟨q,h1,h2⟩:=zip_fst ws P p r;exact⟨q,by simp[h1],h2⟩
theorem dmg {v:List UInt8}{a b c:Int}{l:List Hir}(hab:a<b)(hc:0≤c)(h0:0≤offi v a b l)(hk:∀g ∈ l,g.key≠ []):
 ((mkS c (wtsP v a b l)).map (·.2)).sum=c∧(paidF (mkS c (wtsP v a b l))=(c*offi v a b l).tdiv (b - a)∨paidF (mkS c (wtsP v a b l))=(c*offi v a b l).tdiv (b - a)+1):=by
 have hs:=wtsP_sum (v:=v) (a:=a) (b:=b) (l:=l) h0;have hl:=left_bound c ((wtsP v a b l).map (·.2)) hc (wtsP_nn v a b l) (by rw[hs];omega)
 have hlen:(splitG c ((wtsP v a b l).map (·.2))).length=(wtsP v a b l).length:=by
  rw[splitG_eq c _ hl,rngL_length,List.length_map]
 refine⟨?_,?_⟩
 · unfold mkS;rw[zip_snd _ _ hlen,splitG_sum c _ hl]
 · have hp:∀p ∈ prts v a b l,p.1≠ []:=fun p hp=>by
    obtain⟨h1,_⟩:=List.mem_filter.1 hp;obtain⟨g,hg,rfl⟩:=List.mem_map.1 h1;exact hk g hg
   by_cases q:0<offi v a b l
   · have ew:wtsP v a b l=([],offi v a b l)::prts v a b l:=if_pos q;unfold mkS;rw[splitG_eq c _ hl,hs.symm];rw[ew];generalize hP:prts v a b l=Q at hp
     have e1:rngL (splitE c ((([],offi v a b l)::Q:List Pair).map (·.2))) ((([],offi v a b l)::Q:List Pair).map (·.2)).length=splitE c ((([],offi v a b l)::Q:List Pair).map (·.2)) 0::(List.range Q.length).map (fun i=>splitE c ((([],offi v a b l)::Q:List Pair).map (·.2)) (i+1)):=by
      unfold rngL;rw[List.length_map,List.length_cons,List.range_succ_eq_map,List.map_cons,List.map_map];rfl
     rw[e1,List.zipWith_cons_cons];unfold paidF
     rw[List.foldl_cons,if_pos rfl,paidF_none _ _ (fun p h=>by
      obtain⟨r,h1,h2⟩:=zip_fst _ _ p h
      rw[←h2];exact hp r h1)]
     unfold splitE partG;show(c*offi v a b l).tdiv _+(if _ then 1 else 0)=_∨_;split
     · exact .inr rfl
     · exact .inl (by rw[Int.add_zero])
   · have ew:wtsP v a b l=prts v a b l:=if_neg q;have e0:offi v a b l=0:=by omega
     left;unfold mkS paidF
     rw[paidF_none _ _ (fun p h=>by
      obtain⟨r,h1,h2⟩:=zip_fst _ _ p h
      rw[←h2];rw[ew]at h1;exact hp r h1),e0,Int.mul_zero,Int.zero_tdiv]
variable {vm:Mp (List UInt8)} {sm:Mp Bool} {m n c:Nat} {now:Int} {s:Off}
def evC (c:Nat)(s:Off):Prop:=∀v,(byV v s.log).length≤c
theorem byV_len1 (v:List UInt8)(x:Evn):(byV v [x]).length≤1:=List.length_filter_le _ _
theorem evC_app {s':Off}(h:evC c s){l:List Evn}(h2:s'.log=s.log++l)(h3:∀v,(byV v l).length≤1):evC (c+1) s':=fun v=>by
 have h1:=h v;have h3:=h3 v;rw[h2];unfold byV at h1 h3 ⊢;rw[List.filter_append,List.length_append];omega
theorem evC_up (h:evC c s):evC (c+1) s:=fun v=>by have:=h v;omega
theorem chS_evC (hI:offI m n s)(h:evC c s)(t:Tol):evC (c+1) (chS vm sm s now t):=by
 unfold chS;split
 · rename_i e;unfold chE at e
   by_cases q:s.his.has (t.texts.getD 0 [])=true
   · rw [if_pos q]at e;obtain⟨g,hg,hE⟩:=hI.his _ q;have hgd:(s.his.val (t.texts.getD 0 [])).getD hi0=g:=by rw[hg];rfl
     rw[hgd]at e ⊢;obtain⟨⟨_,ho,hN⟩,hkn,hcan⟩:=chG_zero e;refine evC_app h (l:=chEvs g now t) (sayL_log s _) (fun v=> ?_);unfold chEvs;unfold chNext at hN
     by_cases w1:t.word= [101,120,116,101,110,100]
     · rw[if_pos w1];exact Nat.zero_le _
     rw[if_neg w1]at hN ⊢
     by_cases w2:t.word= [99,108,111,115,101]
     · rw[if_pos w2];exact byV_len1 v _
     rw[if_neg w2]at hN ⊢;obtain⟨o1,o2,o3⟩:=last_open hE ho
     have hl:0<g.legs.length:=by
      have:=(hir_parts hE).1.2.2.1;omega
     have hxl:(exH g (chIn now t) (t.texts.getD 2 []) (chOut now t)).legs.length=g.legs.length+1:=by
      show(setIn g.legs _++ [_]).length=_;unfold setIn;simp
     have ho:=(leg_ord ((hir_parts hN).2 g.legs.length (by omega))).1 hl;have e0:((g.legs.length:Int) - 1).toNat=g.legs.length - 1:=by omega
     have hne:t.texts.getD 2 []≠oldV g:=by
      have h2:=ho.2
      have e1:(exH g (chIn now t) (t.texts.getD 2 []) (chOut now t)).legs.getD g.legs.length lg0=⟨t.texts.getD 2 [],chOut now t,rgN⟩:=by
       show(setIn g.legs _++ [_]).getD _ _=_;have:(setIn g.legs (chIn now t)).length=g.legs.length:=by unfold setIn;simp
       rw[List.getD_eq_getElem?_getD,List.getElem?_append_right (by omega),this,Nat.sub_self];rfl
      have e2:((exH g (chIn now t) (t.texts.getD 2 []) (chOut now t)).legs.getD (g.legs.length - 1) lg0).veh=oldV g:=by
       show((setIn g.legs _++ [_]).getD _ _).veh=_;have:(setIn g.legs (chIn now t)).length=g.legs.length:=by unfold setIn;simp
       rw[List.getD_eq_getElem?_getD,List.getElem?_append_left (by omega)];unfold setIn oldV;rw[e0,List.getElem?_set_self (by omega)];rfl
      rw[e1,e2]at h2;exact h2
     unfold byV;rw[List.filter_cons]
     by_cases p:oldV g=v
     · rw[if_pos (by simpa using p),List.filter_cons,if_neg (by show ¬decide (t.texts.getD 2 []=v)=true;rw[decide_eq_true_eq];exact fun z=>hne (z.trans p.symm))];exact Nat.le_refl _
     · rw[if_neg (by simpa using p)];exact List.length_filter_le _ _
   · rw[if_neg q]at e;exact absurd e (by decide)
 · exact evC_up h
theorem folO_evC (h:Hou)(hI:offI m n s)(he:evC c s)(x:Ent):evC (c+1) (folO h vm sm s x):=by
 unfold folO;split
 · exact evC_up he
 split
 · unfold evtS;split
   · exact evC_app he (l:= [evOf x.tm (telT formsM x.words)]) rfl (fun v=>byV_len1 v _)
   · exact evC_up he
 split
 · unfold bookS;split<;>exact evC_up he
 split
 · split<;>exact evC_up he
 split
 · unfold stS;split
   · exact evC_app he (l:= [stEv x.tm (telT formsM x.words)]) rfl (fun v=>byV_len1 v _)
   · exact evC_up he
 split
 · unfold payS;split<;>exact evC_up he
 exact chS_evC hI he _
theorem runC_evC (h:Hou):∀ (l:List Ent) {m n c:Nat} {s:Off},offI m n s→evC c s→evC (c+l.length) (runC h vm sm s l)
 | [],m,n,c,s,_,he=>he
 | x::l,m,n,c,s,hI,he=>by
   have:=runC_evC h l (folO_I hI h vm sm x) (folO_evC h hI he x);rw[List.length_cons,show c+(l.length+1)=c+1+l.length by omega];exact this
def isOut (v:List UInt8)(x:Evn):Int:=if x.veh=v∧x.kind=2 then 1 else 0
theorem isOut_nn (v:List UInt8)(x:Evn):0≤isOut v x:=by unfold isOut;split<;>omega
theorem outs_le (v:List UInt8):∀ (l:List Evn) (s:Stt),chn s l→(∀x ∈ l,x.veh=v)→2*sumF (isOut v) l≤l.length+(if s.k=1 then 1 else 0)
 | [],s,_,_=>by simp only[sumF,List.length_nil];split<;>simp
 | x ::l,s,hc,hv=>by
   have ih:=outs_le v l (folS s x) hc.2 (fun y hy=>hv y (by simp[hy]));have hx:=hv x (by simp);rw[sumF,List.length_cons];unfold isOut
   by_cases q:x.kind=2
   · obtain⟨f1,_,_⟩:=fol_k hc.1;have hk:=(f1 q).2.1
     have h1:s.k=1:=by
      have:=hc.1;unfold folOk at this;simp[q]at this;exact this.1
     rw[if_neg (show ¬ (folS s x).k=1 by omega)]at ih;rw[if_pos ⟨hx,q⟩,if_pos h1];unfold isOut at ih;omega
   · rw[if_neg (fun z=>q z.2)];unfold isOut at ih;split at ih<;>split<;>omega
theorem legs_out (v:List UInt8):∀l:List Leg,0≤sumF (isOut v) (evsL l)∧((∃x ∈ l,x.veh=v)→1≤sumF (isOut v) (evsL l))
 | []=>⟨Int.le_refl _,fun⟨x,hx,_⟩=>by cases hx⟩
 | x ::l=>by
   obtain⟨i1,i2⟩:=legs_out v l;have e:evsL (x::l)=legEv x++evsL l:=by simp[evsL]
   have h1:(if x.veh=v then 1 else 0)≤sumF (isOut v) (legEv x):=by
    unfold legEv;rw[sumF];have h0:isOut v (outE x)=if x.veh=v then 1 else 0:=by unfold isOut outE;simp
    have h2:0≤sumF (isOut v) (if x.inn.tm= -1 then []else [bckE x]):=sumF_nn (fun y _=>isOut_nn v y);omega
   rw[e,sumF_app];refine⟨by split at h1<;>omega,fun⟨y,hy,hv⟩=> ?_⟩;rcases List.mem_cons.1 hy with q|q
   · subst q;rw[if_pos hv]at h1;omega
   · have:=i2 ⟨y,q,hv⟩;split at h1<;>omega
theorem prts_out (v:List UInt8)(a b:Int):∀l:List Hir,((prts v a b l).length:Int)≤sumF (fun g=>sumF (isOut v) (evsL g.legs)) l
 | []=>Int.le_refl _
 | g ::l=>by
   have ih:=prts_out v a b l;obtain⟨h1,h2⟩:=legs_out v g.legs
   have e:prts v a b (g::l)=(if 0<hadS v a b g then [(g.key,hadS v a b g)]else [])++prts v a b l:=by
    unfold prts;rw[List.map_cons,List.filter_cons]
    by_cases q:0<hadS v a b g
    · rw[if_pos (by simpa using q),if_pos q];rfl
    · rw[if_neg (by simpa using q),if_neg q];rfl
   rw[e,List.length_append,sumF]
   by_cases q:0<hadS v a b g
   · rw[if_pos q]
     have hx:∃x ∈ g.legs,x.veh=v:=by
      refine Classical.byContradiction fun c=> ?_
      rw[hadS_T]at q;unfold hirT at q;have:sumF (fun x=>if x.veh=v then lgT a b x else 0) g.legs=sumF (fun _=>0) g.legs:=sumF_congr (fun x hx=>if_neg (fun z=>c ⟨x,hx,z⟩));rw[this]at q;have z:∀l:List Leg,sumF (fun _=>(0:Int)) l=0:=fun l=>by induction l with|nil=>rfl|cons x l ih=>rw[sumF,ih];rfl
      rw[z]at q;omega
     have:=h2 hx;simp only[List.length_singleton];omega
   · rw[if_neg q];simp only[List.length_nil];omega
theorem prts_few (hI:offI m n s)(hb:logB vm sm now s)(he:evI s)(hc:evC c s)(v:List UInt8)(a b:Int):
 2*(prts v a b ((keysS s.his.has).map (hirG s.his))).length≤c:=by
 have h1:=prts_out v a b ((keysS s.his.has).map (hirG s.his));rw[sumF_map]at h1;have h2:=he (isOut v);unfold hisS at h2;rw[←h2]at h1
 have h3:obS (isOut v) s.log=sumF (isOut v) (byV v s.log):=by
  unfold obS byV;rw[sumF_filter,sumF_filter];refine sumF_congr (fun x _=> ?_);unfold isOut isOB
  by_cases q:x.veh=v<;>by_cases r:x.kind=2<;>simp[q,r]
 have h4:=outs_le v (byV v s.log) ss0 (hb.ok v) (fun x hx=>by simpa using(List.mem_filter.1 hx).2);rw[if_neg (by decide)]at h4;have h5:=hc v;omega
def oACoEm58_1:OL:= [(0,[]),(1,[0]),(2,[0,1]),(3,[0]),(4,[0]),(5,[]),(6,rg 6),(7,[]),(8,rg 8),(9,rg 9),(10,rg 10),(11,rg 9),(12,rg 9),(13,rg 8),(14,rg 14),(15,rg 8),(16,[]),(17,[])]
theorem s174 (c s:Int)(w:List Int)(hc:0≤c∧c≤1000000000)(hw:∀x ∈ w,0≤x∧x≤5761440)(hs:0<s)(hs2:s≤2^40)(p q:Nat)(hp:p<w.length)(hq:q<w.length):
 FSpec Tryz.prog 58 [.d (.int .i64 p),.d (.int .i64 q),.ptr 1000002 0,.ptr 1000003 0,.ptr 1000004 0] (cap3 (.d (.int .i64 c)) (.d (ints w)) (.d (.int .i64 s)) 3 22 3)
  (fun y r=>y= .d (.int .i64 ((c*w.getD q 0).tmod s - (c*w.getD p 0).tmod s))∧r=cap3 (.d (.int .i64 c)) (.d (ints w)) (.d (.int .i64 s)) 3 22 3):=by
 refine spAx hT Tryz.func58 Tryz.call58 ?_;conv=>whnf
 have bd:∀i:Nat,i<w.length→0≤c*w.getD (i:Int).toNat 0∧c*w.getD (i:Int).toNat 0≤1000000000*5761440:=fun i hi=>by
  rw[getD_toNat hi];have:=hw _ (List.getElem_mem hi);exact⟨Int.mul_nonneg hc.1 this.1,Int.mul_le_mul hc.2 this.2 this.1 (by omega)⟩
 have bp:=bd p hp;have bq:=bd q hq;have tp:=Int.tmod_nonneg s bp.1;have tq:=Int.tmod_nonneg s bq.1;have tp2:=Int.tmod_lt_of_pos (c*w.getD (p:Int).toNat 0) hs;have tq2:=Int.tmod_lt_of_pos (c*w.getD (q:Int).toNat 0) hs;refine RegX.rule hT rfl [] oACoEm58_1 (by decide+kernel) ?_;conv=>whnf
 repeat (refine And.intro (by(try unfold inI64);(try dsimp only);(try simp only[List.length_cons,List.length_append,List.length_singleton,List.length_nil]);omega) ?_;conv=>whnf)
 refine .ret _ ?_;conv=>whnf
 exact⟨_,⟨rfl,rfl⟩,rr,rr,rr,trivial⟩
def oACoFm30_7:OL:= [(0,[]),(1,[]),(2,[]),(3,[0,1,2]),(4,[0,1,2]),(5,[0,1,2]),(6,[3,4,5]),(7,[])]
theorem s120 (c:Int)(w:List Int)(hc:0≤c∧c≤1000000000)(hw:∀x ∈ w,0≤x∧x≤5761440)(hn:w.length<20)(hs:w.sum≠0)(hleft:0≤leftL c (partG c w) w.length∧leftL c (partG c w) w.length≤w.length):
 FSpec Tryz.prog 30 [.d (.int .i64 c),.d (ints w)] [] (fun y r=>y= .d (ints (splitG c w))∧r= []):=by
 have hs0:0≤w.sum:=sum_nonneg fun x hx=>(hw x hx).1
 have hs1:w.sum≤5761440*w.length:=sum_le fun x hx=>(hw x hx).2
 refine spAx hT Tryz.func30 Tryz.call30 ?_;conv=>whnf
 refine LoopX.rule hT (C:= []) (ι:=Nat) (fun i=>i≤w.length) (fun i=>mkSt [(2,.ptr 2 0),(3,.ptr 3 0),(5,.ptr 5 0),(15,.d (ints w)),(16,.d (.int .i64 w.length)),(17,.d (.int .i64 i))]
  [(2,.cells 3 [.d (.int .i64 c)]),(3,.cells 22 [.d (ints w)]),(5,.cells 3 [.d (.int .i64 (w.take i).sum)])]) (fun i=>w.length - i) 0 (by omega) ?_ ?_
 · exact Entails.mk' [(2,2),(3,3),(5,5)] rfl rfl ⟨lr,lr,lr,lr,lr,lr,trivial⟩ ⟨rr,rr,rr,trivial⟩
 intro i p1;conv=>whnf
 refine br_intro (fun h=> ?_) (fun h=> ?_)
 · simp only[decide_eq_true_eq]at h;have hi:i<w.length:=by omega
   have b1:=hw _ (List.getElem_mem hi);have b2:0≤(w.take i).sum:=sum_nonneg fun x hx=>(hw x (List.mem_of_mem_take hx)).1
   have b3:(w.take i).sum≤5761440*(w.take i).length:=sum_le fun x hx=>(hw x (List.mem_of_mem_take hx)).2
   have b4:(w.take i).length=i:=by simp;omega
   have b5:w.getD (i:Int).toNat 0=w[i]:=getD_toNat hi;conv=>whnf
   repeat (refine And.intro (by(try unfold inI64);(try dsimp only);(try simp only[List.length_cons,List.length_append,List.length_singleton,List.length_nil]);omega) ?_;conv=>whnf)
   refine⟨i+1,hi,by omega,?_⟩;refine Entails.mk' [(2,2),(3,3),(5,5)] rfl rfl ⟨lr,lr,lr,lr,lr,lr,trivial⟩ ⟨rr,rr,?_,trivial⟩;show Res.le (.cells 3 [.d (.int .i64 ((w.take i).sum+w.getD (i:Int).toNat 0))]) (.cells 3 [.d (.int .i64 (w.take (i+1)).sum)]);rw[b5,sum_take hi];exact rr
 simp only[decide_eq_false_iff_not]at h;have e1:i=w.length:=by omega
 subst e1;rw[List.take_length];conv=>whnf
 refine RegX.rule hT rfl [] oACoFm30_7 (by decide+kernel) ?_;conv=>whnf
 refine And.intro ⟨by omega,by omega,by show(8:Int)*w.length≤_;omega,by omega⟩ ?_;conv=>whnf
 refine And.intro ⟨by omega,by omega,by show(8:Int)*w.length≤_;omega,by omega⟩ ?_;conv=>whnf
 have hg0:∀j,j<w.length→0≤c*w.getD j 0∧c*w.getD j 0≤1000000000*5761440:=fun j hj=>by
  have:=hw _ (getD_mem (x:=(0:Int)) hj);exact⟨Int.mul_nonneg hc.1 this.1,Int.mul_le_mul hc.2 this.2 this.1 (by omega)⟩
 have hg1:∀j,j<w.length→0≤partG c w j∧partG c w j≤1000000000*5761440:=fun j hj=>by
  have:=hg0 j hj;exact⟨Int.tdiv_nonneg this.1 hs0,Int.le_trans (Int.tdiv_le_self _ this.1) this.2⟩
 have hl1:∀i,i≤w.length→c - 1000000000*5761440*i≤leftL c (partG c w) i∧leftL c (partG c w) i≤c:=fun i=>by
  induction i with
  |zero=>intro _;simp[leftL]
  |succ i ih=>intro hi;have:=ih (by omega);have:=hg1 i (by omega);rw[leftL_succ];omega
 refine LoopX.rule hT (C:= []) (ι:=Nat) (fun i=>i≤w.length) (fun i=>mkSt [(2,.ptr 2 0),(3,.ptr 3 0),(5,.ptr 5 0),(8,.buf 27),(9,.buf 30),(10,.d (.int .i64 (leftL c (partG c w) i))),(32,.d (ints w)),(33,.d (.int .i64 w.length)),(34,.d (.int .i64 i))]
  [(2,.cells 3 [.d (.int .i64 c)]),(3,.cells 22 [.d (ints w)]),(5,.cells 3 [.d (.int .i64 w.sum)]),(27,seqB 3 1 iF 0 (fillL (partG c w) w.length i)),(30,seqB 3 1 iF 0 (fillL (fun j=>(j:Int)) w.length i))]) (fun i=>w.length - i) 0 (by omega) ?_ ?_
 · exact Entails.mk' [(2,2),(3,3),(5,5),(27,27),(30,30)] rfl rfl ⟨lr,lr,lr,lr,lr,SV.le_int (by simp[leftL]),lr,lr,lr,trivial⟩
    ⟨rr,rr,rr,fillL_zero (by rfl) (fun _=>rfl),fillL_zero (by rfl) (fun _=>rfl),trivial⟩
 clear p1 h;intro i p1;conv=>whnf
 refine br_intro (fun h=> ?_) (fun h=> ?_)
 · simp only[decide_eq_true_eq]at h;have hi:i<w.length:=by omega
   have b0:=hg0 i hi;have b1:=hg1 i hi;have b2:=hl1 i p1;have e1:=tnc i;have l1:=fillL_length (partG c w) w.length i;have l2:=fillL_length (fun j=>(j:Int)) w.length i;conv=>whnf
   repeat (refine And.intro (by(try unfold inI64);(try dsimp only);(try simp only[e1,l1,l2,List.length_cons,List.length_append,List.length_singleton,List.length_nil]);omega) ?_;conv=>whnf)
   refine And.intro (by show inI64 (partG c w i);unfold inI64;omega) ?_;conv=>whnf
   repeat (refine And.intro (by(try unfold inI64);(try dsimp only);(try simp only[e1,l1,l2,List.length_cons,List.length_append,List.length_singleton,List.length_nil]);omega) ?_;conv=>whnf)
   simp only[e1,Nat.beq_refl,cond_true];conv=>whnf
   refine And.intro (by show inI64 (leftL c (partG c w) i - partG c w i);unfold inI64;omega) ?_;conv=>whnf
   refine And.intro (by unfold inI64;omega) ?_;conv=>whnf
   refine⟨i+1,hi,by omega,?_⟩
   have r1:Res.le (.buf 3 1 (fillL (partG c w) w.length i).length fun j=>bif Nat.beq j i then setAtD (rowF iF 0 (fillL (partG c w) w.length i) j) 0 [.int .i64 (partG c w i)]else rowF iF 0 (fillL (partG c w) w.length i) j) (seqB 3 1 iF 0 (fillL (partG c w) w.length (i+1))):=by
    rw[←fillL_set];exact Res.le_putF (fun _ _=>rfl)
   have r2:Res.le (.buf 3 1 (fillL (fun j=>(j:Int)) w.length i).length fun j=>bif Nat.beq j i then setAtD (rowF iF 0 (fillL (fun j=>(j:Int)) w.length i) j) 0 [.int .i64 (i:Int)]else rowF iF 0 (fillL (fun j=>(j:Int)) w.length i) j) (seqB 3 1 iF 0 (fillL (fun j=>(j:Int)) w.length (i+1))):=by
    rw[←fillL_set];exact Res.le_putF (fun _ _=>rfl)
   exact Entails.mk' [(2,2),(3,3),(5,5),(27,27),(30,30)] rfl rfl ⟨lr,lr,lr,lr,lr,SV.le_int (leftL_succ c (partG c w) i).symm,lr,lr,lr,trivial⟩
    ⟨rr,rr,rr,r1,r2,trivial⟩
 simp only[decide_eq_false_iff_not]at h;have e1:i=w.length:=by omega
 subst e1;conv=>whnf
 have hlen:(fillL (fun j=>(j:Int)) w.length w.length).length=w.length:=fillL_length _ _ _
 have hmemo:∀p,p ∈ fillL (fun j=>(j:Int)) w.length w.length→∃j:Nat,p=j∧j<w.length:=fun p hp=>by
  simp only[fillL,List.mem_map,List.mem_range]at hp;obtain⟨j,hj,rfl⟩:=hp;exact⟨j,by simp[hj],hj⟩
 refine CallX.of (s173 58 (.int .i64 c) (ints w) (.int .i64 w.sum) 3 22 3 (cmpG c w) (fillL (fun j=>(j:Int)) w.length w.length) (by omega) (fun p q hp hq=>by
  obtain⟨j,rfl,hj⟩:=hmemo p hp;obtain⟨k,rfl,hk⟩:=hmemo q hq
  exact s174 c w.sum w hc hw (by omega) (by omega) j k hj hk)) [(1000001,30),(1000002,2),(1000003,3),(1000004,5)] rfl ⟨lr,lr,trivial⟩ ⟨rr,rr,rr,rr,trivial⟩ rfl rfl ?_
 rintro x rout ⟨rfl,rfl⟩;refine⟨rfl,?_⟩;conv=>whnf
 have hol:(orderG c w).length=w.length:=by unfold orderG isort;rw[List.length_reverse,isortR_length,fillL_length]
 refine SliceX.freeze _ _ _ _ rfl ?_;conv=>whnf
 refine And.intro ⟨by omega,hleft.1,by show _≤((orderG c w).length:Int);rw[hol];exact hleft.2⟩ ?_;conv=>whnf
 obtain⟨idx,hidx⟩:∃idx,idx=(orderG c w).take (leftL c (partG c w) w.length).toNat:=⟨_,rfl⟩;have hil:idx.length=(leftL c (partG c w) w.length).toNat:=by rw[hidx,List.length_take,hol];omega
 have him:∀p ∈ idx,∃j:Nat,p=j∧j<w.length:=fun p hp=>by
  rw[hidx]at hp;have:=List.mem_of_mem_take hp;unfold orderG isort at this;rw[List.mem_reverse,isortR_mem]at this;exact hmemo p this
 refine LoopX.rule hT (C:= []) (ι:=Nat×List Int) (fun p=>p.1≤idx.length∧p.2=incL (fillL (partG c w) w.length w.length) (idx.take p.1)∧p.2.length=w.length∧(∀x ∈ p.2,0≤x∧x≤1000000000*5761440+p.1))
  (fun p=>mkSt [(8,.buf 27),(63,.d (ints idx)),(64,.d (.int .i64 idx.length)),(65,.d (.int .i64 p.1))] [(27,seqB 3 1 iF 0 p.2)]) (fun p=>idx.length - p.1) (0,fillL (partG c w) w.length w.length) ⟨by simp,by simp[incL],fillL_length _ _ _,?_⟩ ?_ ?_
 · intro x hx;simp only[fillL,List.mem_map,List.mem_range]at hx;obtain⟨j,hj,rfl⟩:=hx;have:=hg1 j hj;simp[hj];omega
 · refine Entails.mk' [(27,27)] rfl rfl ⟨lr,SV.le_ro ?_ (fun i hi=> ?_),SV.le_int ?_,lr,trivial⟩ ⟨rr,trivial⟩
   · rw[hil];omega
   · change rowF iF 0 (orderG c w) (Int.toNat 0+i)=_
     rw[rowF_lt (show Int.toNat 0+i<(orderG c w).length by simp only[Int.toNat_zero];omega),rowF_lt (show i<idx.length by omega)];subst hidx;simp[orderG]
   · rw[hil];omega
 rintro⟨i,P⟩ ⟨p1,p2,p3,p4⟩;simp only at p1 p2 p3 p4;conv=>whnf
 refine br_intro (fun h=> ?_) (fun h=> ?_)
 · simp only[decide_eq_true_eq]at h;have hi:i<idx.length:=by omega
   obtain⟨j,hj,hjw⟩:=him _ (List.getElem_mem hi);have e0:(i:Int).toNat=i:=Int.toNat_natCast i;have e1:idx.getD (i:Int).toNat 0=j:=by rw[getD_toNat hi,hj]
   have e2:(j:Int).toNat=j:=Int.toNat_natCast j;conv=>whnf
   repeat (refine And.intro (by(try unfold inI64);(try dsimp only);(try simp only[e1,e2,List.length_cons,List.length_append,List.length_singleton,List.length_nil]);omega) ?_;conv=>whnf)
   have hjP:j<P.length:=by omega
   have bP:=p4 _ (getD_mem (x:=(0:Int)) hjP);refine And.intro (by simp only[e1,e2];unfold inI64;omega) ?_;conv=>whnf
   repeat (refine And.intro (by(try unfold inI64);(try dsimp only);(try simp only[e1,e2,List.length_cons,List.length_append,List.length_singleton,List.length_nil]);omega) ?_;conv=>whnf)
   refine⟨(i+1,P.set j (P.getD j 0+1)),⟨hi,?_,by simp only[List.length_set];exact p3,?_⟩,by simp only;omega,?_⟩
   · simp only;rw[take_snoc hi,incL_snoc,←p2,hj,e2]
   · simp only;intro x hx;rcases List.mem_or_eq_of_mem_set hx with q|q
     · have:=p4 x q;omega
     · subst q;omega
   · have r1:Res.le (.buf 3 1 P.length fun k=>bif Nat.beq k (idx.getD (i:Int).toNat 0).toNat then setAtD (rowF iF 0 P k) 0 [.int .i64 (P.getD (idx.getD (i:Int).toNat 0).toNat 0+1)]else rowF iF 0 P k) (seqB 3 1 iF 0 (P.set j (P.getD j 0+1))):=by
      rw[e1,e2];exact Res.le_putF (fun _ _=>rfl)
     exact Entails.mk' [(27,27)] rfl rfl ⟨lr,lr,lr,lr,trivial⟩ ⟨r1,trivial⟩
 simp only[decide_eq_false_iff_not]at h;have e1:i=idx.length:=by omega
 subst e1;conv=>whnf
 rw[List.take_length,hidx]at p2;refine .freeze _ 27 3 1 _ _ rfl ?_;refine .ret _ ?_;conv=>whnf
 refine⟨[],⟨?_,rfl⟩,trivial⟩;conv=>lhs;whnf
 show SV.d (ints P)=SV.d (ints (splitG c w));rw[p2];rfl
theorem z123 (a b:Int):FSpec Tryz.prog 24 [.agg [.d (.int .i64 a),.d (.int .i64 b)]] [] (fun x o=>x= .d (.int .i64 (winE a b))∧o= []):=by
 refine spAx hT Tryz.func24 Tryz.call24 ?_;conv=>whnf
 repeat' (first|(refine CallX.exact (s119 _ _ _) rfl rfl ?_;rotate_right;conv=>whnf)|(refine CallX.exact (s107 _ _) rfl rfl ?_;rotate_right;conv=>whnf)|((first|refine br_intro ?_ ?_<;>intro hb<;>try simp only[brs]at hb|omega|refine sAx ?_|decide|assumption)<;>conv=>whnf))
 all_goals
  refine .ret _ ?_;conv=>whnf
  refine⟨[],⟨?_,rfl⟩,trivial⟩;conv=>lhs;whnf
  congr 2
  unfold winE;grind
end Go.Proofs.YtghhghijalcdfaaGreatDoor
