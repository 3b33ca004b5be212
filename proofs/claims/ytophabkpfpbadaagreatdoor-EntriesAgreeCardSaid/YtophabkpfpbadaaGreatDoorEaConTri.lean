/- EntriesAgree is proved: for every input the law returns true, and its argument reads afterwards as it read before. Conditions: those of the given row alone. -/
import Derived.Test.YtophabkpfpbadaaGreatDoorEaConTwo
import Derived.Shelf.Spec.SlicesGrow
import Derived.Test.YtophabkpfpbadaaGreatDoorEaConOne
import Derived.Test.YtophabkpfpbadaaGreatDoorEaEngTwo
import Derived.Shelf.Small.Strs
import Derived.Test.YtophabkpfpbadaaGreatDoorProg
set_option linter.unusedVariables false
set_option linter.unusedSimpArgs false
set_option maxRecDepth 20000
namespace Go.Proofs.YtophabkpfpbadaaGreatDoor
open Go Go.Eng
def oQFlG129_8:OL:= [(0,[]),(1,[]),(2,[]),(3,[]),(4,[]),(5,[3,4]),(6,[3,4,5]),(7,[3,4,5]),(8,[3,4]),(9,[3,4]),(10,[3,4]),(11,[]),(12,[]),(13,[])]
def okW (s:Sta)(k:Nat):Bool:=decide ((0≤s.h (2*k)∧s.h (2*k)≤s.h (2*k+1))∧s.h (2*k+1)≤1440)
def hrs (s:Sta):Bool:=(List.range 7).all (okW s)
theorem hrs_yes {s:Sta}(h:∀j,j<7→okW s j=true):hrs s=true:=by
 unfold hrs;rw[List.all_eq_true];intro j hj;exact h j (List.mem_range.1 hj)
theorem hrs_no {s:Sta}{j:Nat}(hj:j<7)(h:okW s j=false):hrs s=false:=by
 unfold hrs;rw[List.all_eq_false];exact⟨j,List.mem_range.2 hj,by simp[h]⟩
def stnE (l:List Sta)(i:Nat):Int:=
 if isKeyB (l.getD i sta0).key=false then 5 else if 0<i∧strLe (l.getD i sta0).key (l.getD (i - 1) sta0).key=true then 7 else if hrs (l.getD i sta0)=false then 1 else 0
def stasE (l:List Sta):Int:=if 50<l.length then 2 else firstAt (stnE l) l.length
def stasOk (l:List Sta):Prop:=l.length≤2^20∧∀c ∈ l,c.key.length≤2^40
set_option maxHeartbeats 4000000 in
theorem z174 (l :List Sta)(hk:stasOk l):FSpec Tryz.prog 129 [.d (stas l)] [] (fun x r=>x= .d (.int .i64 (stasE l))∧r= []):=by
 have hlen:=hk.1;refine spec_of hT (C:= []) Tryz.func129 rfl Tryz.call129 rfl rfl rfl ?_;conv=>whnf
 refine br_intro (fun h0=> ?_) (fun h0=> ?_)
 · simp at h0;conv=>whnf
   refine .ret _ ?_;conv=>whnf
   refine⟨[],⟨?_,rfl⟩,trivial⟩;conv=>lhs;whnf
   unfold stasE;rw[if_pos (by omega)]
 simp at h0;conv=>whnf
 refine LoopX.rule hT (C:= []) (ι:=Nat) (fun i=>i≤l.length∧∀j,j<i→stnE l j=0) (fun i=>mkSt [(0,.d (stas l)),(10,.d (stas l)),(11,.d (.int .i64 l.length)),(12,.d (.int .i64 i))] []) (fun i=>l.length - i) 0 ⟨by omega,by omega⟩ (by exact eAx []) ?_;rintro i ⟨p1,p2⟩;have hx:(i:Int)<l.length→(l.getD (i:Int).toNat sta0).key.length≤2^40:=fun hi=>hk.2 _ (getD_mem (by omega))
 have e1:(i:Int).toNat=i:=Int.toNat_natCast i
 have hbad:∀e:Int,i<l.length→e≠0→stnE l i=e→stasE l=e:=fun e h h1 h2=>by
  unfold stasE;rw[if_neg (by omega)];exact firstAt_eq h p2 h1 h2
 rcases Nat.lt_or_ge i l.length with hi|hi
 · obtain ⟨s,hs⟩:∃s,s=l.getD (i:Int).toNat sta0:=⟨_,rfl⟩;conv=>whnf
   repeat' (first|(refine CallX.exact (s108 _ (hx (by omega))) rfl rfl ?_;rotate_right;conv=>whnf)|((first|(refine br_intro ?_ ?_<;>intro hb<;>try simp only[brs]at hb)|refine rAx hT 8 oQFlG129_8 ?_|omega|refine sAx ?_|decide|assumption)<;>conv=>whnf))
   all_goals try(exfalso;omega)
   all_goals first
    | (refine .ret _ ?_
       conv=>whnf
       refine⟨[],⟨?_,rfl⟩,trivial⟩;conv=>lhs;whnf
       congr 2
       exact(hbad _ (by omega) (by decide) (by clear p2 hbad hk hx;simp only[e1,toNat_pred]at*;unfold stnE strLe;grind)).symm)
    | (have hok:stnE l i=if hrs s=false then 1 else 0:=by
        clear p2 hbad hk hx;simp only[e1,toNat_pred]at*;subst hs;unfold stnE strLe;grind
       refine LoopX.rule hT (C:= []) (ι:=Nat) (fun k=>k≤7∧∀j,j<k→okW s j=true) (fun k=>mkSt [(0,.d (stas l)),(10,.d (stas l)),(11,.d (.int .i64 l.length)),(12,.d (.int .i64 i)),(37,.agg (((staF s).drop 1).map .d)),(38,.d (.int .i64 k))] []) (fun k=>7 - k) 0 ⟨by omega,by omega⟩ (by rw[hs];exact(by exact eAx [])) ?_;rintro k ⟨q1,q2⟩;have hkk:k=7∨k=0∨k=1∨k=2∨k=3∨k=4∨k=5∨k=6:=by omega
       rcases hkk with rfl|rfl|rfl|rfl|rfl|rfl|rfl|rfl
       · rw[hrs_yes q2]at hok;conv=>whnf
         repeat' (first|((first|(refine br_intro ?_ ?_<;>intro hb<;>try simp only[brs]at hb)|refine rAx hT 8 oQFlG129_8 ?_|omega|refine sAx ?_|decide|assumption)<;>conv=>whnf))
         exact⟨i+1,⟨by omega,first_step p2 (by rw[hok];rfl)⟩,by omega,(by exact eAx [])⟩
       · conv =>whnf
         repeat' (first|(refine CallX.exact (s119 _ _ _) rfl rfl ?_;rotate_right;conv=>whnf)|((first|(refine br_intro ?_ ?_<;>intro hb<;>try simp only[brs]at hb)|refine rAx hT 8 oQFlG129_8 ?_|omega|refine sAx ?_|decide|assumption)<;>conv=>whnf))
         all_goals first
          | (refine .ret _ ?_
             conv=>whnf
             refine⟨[],⟨?_,rfl⟩,trivial⟩;conv=>lhs;whnf
             congr 2
             exact(hbad _ (by omega) (by decide) (by rw[hok,hrs_no (j:=0) (by omega) (by show decide ((0≤s.h 0∧s.h 0≤s.h 1)∧s.h 1≤1440)=false;rw[decide_eq_false_iff_not];omega)];rfl)).symm)
          |exact⟨1,⟨by omega,all_step (p:=fun j=>okW s j=true) (i:=0) q2 (by show decide ((0≤s.h 0∧s.h 0≤s.h 1)∧s.h 1≤1440)=true;rw[decide_eq_true_eq];omega)⟩,by omega,(by exact eAx [])⟩
       · conv =>whnf
         repeat' (first|(refine CallX.exact (s119 _ _ _) rfl rfl ?_;rotate_right;conv=>whnf)|((first|(refine br_intro ?_ ?_<;>intro hb<;>try simp only[brs]at hb)|refine rAx hT 8 oQFlG129_8 ?_|omega|refine sAx ?_|decide|assumption)<;>conv=>whnf))
         all_goals first
          | (refine .ret _ ?_
             conv=>whnf
             refine⟨[],⟨?_,rfl⟩,trivial⟩;conv=>lhs;whnf
             congr 2
             exact(hbad _ (by omega) (by decide) (by rw[hok,hrs_no (j:=1) (by omega) (by show decide ((0≤s.h 2∧s.h 2≤s.h 3)∧s.h 3≤1440)=false;rw[decide_eq_false_iff_not];omega)];rfl)).symm)
          |exact⟨2,⟨by omega,all_step (p:=fun j=>okW s j=true) (i:=1) q2 (by show decide ((0≤s.h 2∧s.h 2≤s.h 3)∧s.h 3≤1440)=true;rw[decide_eq_true_eq];omega)⟩,by omega,(by exact eAx [])⟩
       · conv =>whnf
         repeat' (first|(refine CallX.exact (s119 _ _ _) rfl rfl ?_;rotate_right;conv=>whnf)|((first|(refine br_intro ?_ ?_<;>intro hb<;>try simp only[brs]at hb)|refine rAx hT 8 oQFlG129_8 ?_|omega|refine sAx ?_|decide|assumption)<;>conv=>whnf))
         all_goals first
          | (refine .ret _ ?_
             conv=>whnf
             refine⟨[],⟨?_,rfl⟩,trivial⟩;conv=>lhs;whnf
             congr 2
             exact(hbad _ (by omega) (by decide) (by rw[hok,hrs_no (j:=2) (by omega) (by show decide ((0≤s.h 4∧s.h 4≤s.h 5)∧s.h 5≤1440)=false;rw[decide_eq_false_iff_not];omega)];rfl)).symm)
          |exact⟨3,⟨by omega,all_step (p:=fun j=>okW s j=true) (i:=2) q2 (by show decide ((0≤s.h 4∧s.h 4≤s.h 5)∧s.h 5≤1440)=true;rw[decide_eq_true_eq];omega)⟩,by omega,(by exact eAx [])⟩
       · conv =>whnf
         repeat' (first|(refine CallX.exact (s119 _ _ _) rfl rfl ?_;rotate_right;conv=>whnf)|((first|(refine br_intro ?_ ?_<;>intro hb<;>try simp only[brs]at hb)|refine rAx hT 8 oQFlG129_8 ?_|omega|refine sAx ?_|decide|assumption)<;>conv=>whnf))
         all_goals first
          | (refine .ret _ ?_
             conv=>whnf
             refine⟨[],⟨?_,rfl⟩,trivial⟩;conv=>lhs;whnf
             congr 2
             exact(hbad _ (by omega) (by decide) (by rw[hok,hrs_no (j:=3) (by omega) (by show decide ((0≤s.h 6∧s.h 6≤s.h 7)∧s.h 7≤1440)=false;rw[decide_eq_false_iff_not];omega)];rfl)).symm)
          |exact⟨4,⟨by omega,all_step (p:=fun j=>okW s j=true) (i:=3) q2 (by show decide ((0≤s.h 6∧s.h 6≤s.h 7)∧s.h 7≤1440)=true;rw[decide_eq_true_eq];omega)⟩,by omega,(by exact eAx [])⟩
       · conv =>whnf
         repeat' (first|(refine CallX.exact (s119 _ _ _) rfl rfl ?_;rotate_right;conv=>whnf)|((first|(refine br_intro ?_ ?_<;>intro hb<;>try simp only[brs]at hb)|refine rAx hT 8 oQFlG129_8 ?_|omega|refine sAx ?_|decide|assumption)<;>conv=>whnf))
         all_goals first
          | (refine .ret _ ?_
             conv=>whnf
             refine⟨[],⟨?_,rfl⟩,trivial⟩;conv=>lhs;whnf
             congr 2
             exact(hbad _ (by omega) (by decide) (by rw[hok,hrs_no (j:=4) (by omega) (by show decide ((0≤s.h 8∧s.h 8≤s.h 9)∧s.h 9≤1440)=false;rw[decide_eq_false_iff_not];omega)];rfl)).symm)
          |exact⟨5,⟨by omega,all_step (p:=fun j=>okW s j=true) (i:=4) q2 (by show decide ((0≤s.h 8∧s.h 8≤s.h 9)∧s.h 9≤1440)=true;rw[decide_eq_true_eq];omega)⟩,by omega,(by exact eAx [])⟩
       · conv =>whnf
         repeat' (first|(refine CallX.exact (s119 _ _ _) rfl rfl ?_;rotate_right;conv=>whnf)|((first|(refine br_intro ?_ ?_<;>intro hb<;>try simp only[brs]at hb)|refine rAx hT 8 oQFlG129_8 ?_|omega|refine sAx ?_|decide|assumption)<;>conv=>whnf))
         all_goals first
          | (refine .ret _ ?_
             conv=>whnf
             refine⟨[],⟨?_,rfl⟩,trivial⟩;conv=>lhs;whnf
             congr 2
             exact(hbad _ (by omega) (by decide) (by rw[hok,hrs_no (j:=5) (by omega) (by show decide ((0≤s.h 10∧s.h 10≤s.h 11)∧s.h 11≤1440)=false;rw[decide_eq_false_iff_not];omega)];rfl)).symm)
          |exact⟨6,⟨by omega,all_step (p:=fun j=>okW s j=true) (i:=5) q2 (by show decide ((0≤s.h 10∧s.h 10≤s.h 11)∧s.h 11≤1440)=true;rw[decide_eq_true_eq];omega)⟩,by omega,(by exact eAx [])⟩
       · conv =>whnf
         repeat' (first|(refine CallX.exact (s119 _ _ _) rfl rfl ?_;rotate_right;conv=>whnf)|((first|(refine br_intro ?_ ?_<;>intro hb<;>try simp only[brs]at hb)|refine rAx hT 8 oQFlG129_8 ?_|omega|refine sAx ?_|decide|assumption)<;>conv=>whnf))
         all_goals first
          | (refine .ret _ ?_
             conv=>whnf
             refine⟨[],⟨?_,rfl⟩,trivial⟩;conv=>lhs;whnf
             congr 2
             exact(hbad _ (by omega) (by decide) (by rw[hok,hrs_no (j:=6) (by omega) (by show decide ((0≤s.h 12∧s.h 12≤s.h 13)∧s.h 13≤1440)=false;rw[decide_eq_false_iff_not];omega)];rfl)).symm)
          |exact⟨7,⟨by omega,all_step (p:=fun j=>okW s j=true) (i:=6) q2 (by show decide ((0≤s.h 12∧s.h 12≤s.h 13)∧s.h 13≤1440)=true;rw[decide_eq_true_eq];omega)⟩,by omega,(by exact eAx [])⟩)
 have hil:i=l.length:=by omega
 subst hil;conv=>whnf
 repeat' (first|((first|(refine br_intro ?_ ?_<;>intro hb<;>try simp only[brs]at hb)|refine rAx hT 8 oQFlG129_8 ?_|omega|refine sAx ?_|decide|assumption)<;>conv=>whnf))
 all_goals try(exfalso;omega)
 refine .ret _ ?_;conv=>whnf
 refine⟨[],⟨?_,rfl⟩,trivial⟩;conv=>lhs;whnf
 congr 2
 unfold stasE;rw[if_neg (by omega),firstAt_zero p2]
def vehE1 (f:Flt)(i:Nat):Int:=
 if isKeyB (f.veh.getD i veh0).key=false then 5 else if 0<i∧strLe (f.veh.getD i veh0).key (f.veh.getD (i - 1) veh0).key=true then 7
 else if clIx f.cls (f.veh.getD i veh0).cls<0 then 8 else 0
def pltE1 (f:Flt)(i:Nat):Int:=
 if ¬ (0≤(f.plt.getD i plt0).frm∧(f.plt.getD i plt0).frm≤5761439)then 1 else if veIx f.veh (f.plt.getD i plt0).veh<0 then 8 else if isPlateB (f.plt.getD i plt0).plt=false then 3
 else if 0<i∧0≤pltCmp (f.plt.getD (i - 1) plt0) (f.plt.getD i plt0)then 7 else if((f.plt.take i).any (twP (f.plt.getD i plt0)))=true then 6 else 0
def fltE0 (f:Flt):Int:=firstE [stasE f.sta,clssE f.cls,if 500<f.veh.length then 2 else 0]
def fltE (f:Flt):Int:=if fltE0 f≠0 then fltE0 f else if firstAt (vehE1 f) f.veh.length≠0 then firstAt (vehE1 f) f.veh.length
 else if 1000<f.plt.length then 2 else firstAt (pltE1 f) f.plt.length
structure fltOk (f:Flt):Prop where
 sta:stasOk f.sta
 cls:clsOk f.cls
 veh:f.veh.length≤2^20∧∀v ∈ f.veh,v.key.length≤2^40∧v.cls.length≤2^40
 plt:f.plt.length≤2^20∧∀p ∈ f.plt,(-2^40≤p.frm∧p.frm≤2^40)∧p.veh.length≤2^40∧p.plt.length≤2^40
def fltC (f:Flt):Res:=.cells 31 [.d (stas f.sta),.d (clss f.cls),.d (vehs f.veh),.d (plts f.plt)]
theorem vehE_sorted {f:Flt}(h:firstAt (vehE1 f) f.veh.length=0):vehS f.veh:=by
 have h0:=firstAt_all h
 have step:∀j,j+1<f.veh.length→Op.bytesLess (f.veh.getD j veh0).key (f.veh.getD (j+1) veh0).key=true:=by
  intro j hj;have:=h0 (j+1) hj;unfold vehE1 strLe at this;simp only[Nat.add_sub_cancel]at this;have hl:=less_tri (f.veh.getD (j+1) veh0).key (f.veh.getD j veh0).key;grind
 intro i j hij hj
 induction j with
 |zero=>omega
 | succ j ih=>
   rcases Nat.lt_or_ge i j with q|q
   · exact less_trans (ih q (by omega)) (step j hj)
   · obtain rfl:i=j:=by omega
     exact step i hj
theorem z243 (f:Flt)(hl:f.veh.length≤2^20)(hs:vehS f.veh)(key:List UInt8):FSpec Tryz.prog 133 [flt f,.d (.str key)] [] (fun x r=>x= .d (.int .i64 (veIx f.veh key))∧r= []):=by
 refine spec_of hT (C:= []) Tryz.func133 rfl Tryz.call133 rfl rfl rfl ?_;conv=>whnf
 refine oAx (z286 f.veh hl hs key) [] ?_;rintro x rout ⟨⟨j,b,rfl,hj⟩,rfl⟩;refine⟨rfl,?_⟩;conv=>whnf
 repeat' (first|((first|(refine br_intro ?_ ?_<;>intro hb<;>try simp only[brs]at hb)|omega|refine sAx ?_|decide|assumption)<;>conv=>whnf))
 · refine .ret _ ?_;conv=>whnf
   refine⟨[],⟨?_,rfl⟩,trivial⟩;conv=>lhs;whnf
   congr 2
   rw[hj,if_neg (by simp[hb])]
 · refine .ret _ ?_;conv=>whnf
   refine⟨[],⟨?_,rfl⟩,trivial⟩;conv=>lhs;whnf
   congr 2
   rw[hj,if_pos hb]
def oQFlL132_14:OL:= [(0,[]),(1,[]),(2,[0,1]),(3,[0,1]),(5,rg 4),(6,rg 4),(7,[0,1,2,3,5,6]),(8,[0,1,2,3,5,6]),(10,[0,1,2,3,5,6,7,8]),(11,[0,1,2,3,5,6,7,8]),(12,[0,1,2,3,5,6,7,8,10,11]),(13,[0,1,2,3,5,6,7,8,10,11]),(4,[5,6,7,8,10,11,12,13]),(9,[10,11,12,13]),(14,[]),(15,[]),(16,[]),(17,[])]
def oQFlL132_17:OL:= [(0,[]),(1,[]),(2,[]),(3,[]),(4,[]),(5,[3,4]),(6,[]),(7,[]),(8,[]),(9,[3,4,5,6,7,8]),(10,[3,4,5,6,7,8]),(11,[]),(12,[])]
theorem pltCmp_frm {a b:Plt}(h:pltCmp a b<0):a.frm≤b.frm:=by
 unfold pltCmp at h;rw[firstE]at h;split at h
 · rename_i q;unfold cmpI at q;split at q<;>(try split at q)<;>omega
 · unfold cmpI at h;split at h<;>(try split at h)<;>omega
theorem pltE1_cmp {f:Flt}{j:Nat}(h:pltE1 f j=0)(hj:0<j):pltCmp (f.plt.getD (j - 1) plt0) (f.plt.getD j plt0)<0:=by
 unfold pltE1 at h;grind
theorem frm_mono {f:Flt}{i:Nat}(h:∀j,j≤i→0<j→pltCmp (f.plt.getD (j - 1) plt0) (f.plt.getD j plt0)<0):∀b a,a≤b→b≤i→(f.plt.getD a plt0).frm≤(f.plt.getD b plt0).frm:=by
 intro b
 induction b with
 | zero => intro a ha _;obtain rfl:a=0:=by omega
           exact Int.le_refl _
 | succ b ih=>
   intro a ha hb;rcases Nat.lt_or_ge a (b+1)with q|q
   · have h1:=ih a (by omega) (by omega);have h2:=pltCmp_frm (h (b+1) hb (by omega));rw[Nat.add_sub_cancel]at h2;omega
   · obtain rfl:a=b+1:=by omega
     exact Int.le_refl _
theorem getD_take {α:Type}{l:List α}{d:α}{i j:Nat}(h:j<i):(l.take i).getD j d=l.getD j d:=by
 rw[List.getD_eq_getElem?_getD,List.getElem?_take_of_lt h,←List.getD_eq_getElem?_getD]
theorem tw_none {f:Flt}{i m:Nat}(hi:i<f.plt.length)(hm:m≤i)(h1:∀j,m≤j→j<i→twP (f.plt.getD i plt0) (f.plt.getD j plt0)=false)
 (h2:∀j,j<m→(f.plt.getD j plt0).frm≠(f.plt.getD i plt0).frm):(f.plt.take i).any (twP (f.plt.getD i plt0))=false:=by
 rw[List.any_eq_false];intro x hx;obtain⟨j,hj,rfl⟩:=mem_getD (d:=plt0) hx;rw[List.length_take]at hj;rw[getD_take (by omega)];rcases Nat.lt_or_ge j m with q|q
 · unfold twP;simp only[decide_eq_false (h2 j q),Bool.false_and];simp
 · rw[h1 j q (by omega)];simp
theorem tw_some {f:Flt}{i k:Nat}(hi:i<f.plt.length)(hk:k<i)(h:twP (f.plt.getD i plt0) (f.plt.getD k plt0)=true):(f.plt.take i).any (twP (f.plt.getD i plt0))=true:=by
 rw[List.any_eq_true];refine⟨(f.plt.take i).getD k plt0,getD_mem (by rw[List.length_take];omega),?_⟩;rw[getD_take hk];exact h
def pltsE (f:Flt):Int:=if 1000<f.plt.length then 2 else firstAt (pltE1 f) f.plt.length
set_option maxHeartbeats 4000000 in
theorem z177 (f:Flt)(hk:fltOk f)(hs:vehS f.veh):FSpec Tryz.prog 132 [flt f] [] (fun x r=>x= .d (.int .i64 (pltsE f))∧r= []):=by
 have hlv:=hk.veh.1;have hlp:=hk.plt.1;refine spec_of hT (C:= []) Tryz.func132 rfl Tryz.call132 rfl rfl rfl ?_;conv=>whnf
 repeat' (first|((first|(refine br_intro ?_ ?_<;>intro hb<;>try simp only[brs]at hb)|refine rAx hT 14 oQFlL132_14 ?_|refine rAx hT 17 oQFlL132_17 ?_|omega|refine sAx ?_|decide|assumption)<;>conv=>whnf))
 · refine .ret _ ?_;conv=>whnf
   refine⟨[],⟨?_,rfl⟩,trivial⟩;conv=>lhs;whnf
   congr 2
   unfold pltsE;rw[if_pos (by omega)]
 refine LoopX.rule hT (C:= []) (ι:=Nat) (fun i=>i≤f.plt.length∧∀j,j<i→pltE1 f j=0) (fun i=>mkSt [(1,.ptr 1 0),(13,.d (plts f.plt)),(14,.d (.int .i64 f.plt.length)),(15,.d (.int .i64 i))] [(1,fltC f)]) (fun i=>f.plt.length - i) 0 ⟨by omega,by omega⟩ (by exact eAx [(1,1)]) ?_;rintro i ⟨p1,p2⟩;have hx:(i:Int)<f.plt.length→(-2^40≤(f.plt.getD (i:Int).toNat plt0).frm∧(f.plt.getD (i:Int).toNat plt0).frm≤2^40)∧(f.plt.getD (i:Int).toNat plt0).veh.length≤2^40∧(f.plt.getD (i:Int).toNat plt0).plt.length≤2^40:=fun hi=>hk.plt.2 _ (getD_mem (by omega))
 have e1:(i:Int).toNat=i:=Int.toNat_natCast i
 have hbad:∀e:Int,i<f.plt.length→e≠0→pltE1 f i=e→pltsE f=e:=fun e h h1 h2=>by
  unfold pltsE;rw[if_neg (by omega),firstAt_eq h p2 h1 h2]
 rcases Nat.lt_or_ge i f.plt.length with hi|hi
 · have hx2 :=hx (by omega);have hz:((i:Int) - 1).toNat=i - 1:=by omega
   conv=>whnf
   repeat' (first|(refine CallX.exact (s154 _) rfl rfl ?_;rotate_right;conv=>whnf)|(refine CallX.exact (z243 f (by omega) hs _) rfl rfl ?_;rotate_right;conv=>whnf)|(refine CallX.exact (s185 _ hx2.2.2) rfl rfl ?_;rotate_right;conv=>whnf)|(refine CallX.exact (s183 _ _) rfl rfl ?_;rotate_right;conv=>whnf)|(refine CallX.exact (s184 _ _) rfl rfl ?_;rotate_right;conv=>whnf)|((first|refine CallX.pure (s182 [cmpI (f.plt.getD ((i:Int) - 1).toNat plt0).frm (f.plt.getD (i:Int).toNat plt0).frm,cmpS (f.plt.getD ((i:Int) - 1).toNat plt0).veh (f.plt.getD (i:Int).toNat plt0).veh,cmpS (f.plt.getD ((i:Int) - 1).toNat plt0).plt (f.plt.getD (i:Int).toNat plt0).plt] (by simp)) ⟨SV.le_lit (by rfl) (by rfl),trivial⟩ rfl ?_|(refine br_intro ?_ ?_<;>intro hb<;>try simp only[brs]at hb)|refine rAx hT 14 oQFlL132_14 ?_|refine rAx hT 17 oQFlL132_17 ?_|omega|refine sAx ?_|decide|assumption)<;>conv=>whnf))
   all_goals first
    | (refine .ret _ ?_
       conv=>whnf
       refine⟨[],⟨?_,rfl⟩,trivial⟩;conv=>lhs;whnf
       congr 2
       exact(hbad _ (by omega) (by decide) (by clear p2 hbad hk hx hx2;simp only[e1,hz]at*;unfold pltE1;(try unfold pltCmp);grind)).symm)
    | (have hcmp:0<i→pltCmp (f.plt.getD (i - 1) plt0) (f.plt.getD i plt0)<0:=by
        intro _
        first
         |(exfalso;omega)
         |(clear p2 hbad hk hx hx2;simp only[e1,hz]at*;unfold pltCmp;assumption)
       have hall:∀j,j≤i→0<j→pltCmp (f.plt.getD (j - 1) plt0) (f.plt.getD j plt0)<0:=fun j h1 h2=>by
        rcases Nat.lt_or_ge j i with q|q
        · exact pltE1_cmp (p2 j q) h2
        · obtain rfl:j=i:=by omega
          exact hcmp h2
       have hz0:∀ (c:Bool),pltE1 f i=(if(f.plt.take i).any (twP (f.plt.getD i plt0))=true then 6 else 0):=by
        intro _;clear p2 hbad hk hx hx2;simp only[e1,hz]at*;unfold pltE1;grind
       have hz0:=hz0 true
       refine LoopX.rule hT (C:= []) (ι:=Nat) (fun m=>m≤i∧∀j,m≤j→j<i→(f.plt.getD j plt0).frm=(f.plt.getD i plt0).frm∧twP (f.plt.getD i plt0) (f.plt.getD j plt0)=false)
        (fun m=>mkSt [(1,.ptr 1 0),(4,.ptr 4 0),(6,.d (.int .i64 ((m:Int) - 1))),(13,.d (plts f.plt)),(14,.d (.int .i64 f.plt.length)),(15,.d (.int .i64 i))] [(1,fltC f),(4,pltC (f.plt.getD (i:Int).toNat plt0))]) (fun m=>m) i ⟨by omega,fun j h1 h2=>by omega⟩ (by exact eAx [(1,1),(4,4)]) ?_
       rintro m ⟨q1,q2⟩;have hm1:0<m→((m:Int) - 1).toNat=m - 1:=fun h=>by omega
       conv=>whnf
       repeat' (first|((first|(refine br_intro ?_ ?_<;>intro hb<;>try simp only[brs]at hb)|refine rAx hT 14 oQFlL132_14 ?_|refine rAx hT 17 oQFlL132_17 ?_|omega|refine sAx ?_|decide|assumption)<;>conv=>whnf))
       all_goals first
        | (refine .ret _ ?_
           conv=>whnf
           refine⟨[],⟨?_,rfl⟩,trivial⟩;conv=>lhs;whnf
           congr 2
           refine(hbad _ (by omega) (by decide) ?_).symm
           rw[hz0,if_pos (tw_some hi (k:=m - 1) (by omega) (by clear p2 hbad hk hx hx2 hall;simp only[e1,hm1 (by omega)]at*;unfold twP;grind))])
        |exact⟨m - 1,⟨by omega,fun j h1 h2=>by
         rcases Nat.lt_or_ge j m with r|r
         · obtain rfl:j=m - 1:=by omega
           clear p2 hbad hk hx hx2 hall;simp only[e1,hm1 (by omega)]at*;unfold twP;grind
         · exact q2 j r h2⟩,by show m - 1<m;omega,Entails.mk' [(1,1),(4,4)] rfl rfl ⟨lr,lr,SV.le_int (by omega),lr,lr,lr,trivial⟩ ⟨rr,rr,trivial⟩⟩
        |exact⟨i+1,⟨by omega,first_step p2 (by
         rw[hz0,tw_none hi q1 (fun j h1 h2=>(q2 j h1 h2).2) (fun j h1=>by
          have h2:=frm_mono hall i (m - 1) (by omega) (by omega);have h3:=frm_mono hall (m - 1) j (by omega) (by omega);clear p2 hbad hk hx hx2 hall;simp only[e1,hm1 (by omega)]at*
          omega)]
         rfl)⟩,by omega,(by exact eAx [(1,1)])⟩)
 have hil:i=f.plt.length:=by omega
 subst hil;have F2:=firstAt_zero p2;clear hbad hx p2;conv=>whnf
 repeat' (first|((first|(refine br_intro ?_ ?_<;>intro hb<;>try simp only[brs]at hb)|refine rAx hT 14 oQFlL132_14 ?_|refine rAx hT 17 oQFlL132_17 ?_|omega|refine sAx ?_|decide|assumption)<;>conv=>whnf))
 all_goals try(exfalso;omega)
 refine .ret _ ?_;conv=>whnf
 refine⟨[],⟨?_,rfl⟩,trivial⟩;conv=>lhs;whnf
 congr 2
 unfold pltsE;rw[if_neg (by omega)];exact F2.symm
def oQFlM87_1:OL:= [(0,[]),(1,[]),(3,[0,1]),(4,[0,1]),(6,[0,1,3,4]),(7,[0,1,3,4]),(8,[0,1,3,4]),(9,[0,1,3,4]),(2,[3,4,6,7,8,9]),(5,[6,7,8,9]),(10,[]),(11,[]),(12,[]),(13,[])]
def oQFlM87_9:OL:= [(0,[]),(1,[]),(2,[]),(3,[]),(4,[]),(5,[3,4]),(6,[3,4]),(7,[3,4,5,6]),(8,[3,4,5,6]),(9,[3,4]),(10,[3,4]),(11,[3,4]),(12,[]),(13,[]),(14,[])]
set_option maxHeartbeats 4000000 in
theorem z114 (f:Flt)(hk:fltOk f):FSpec Tryz.prog 87 [flt f] [] (fun x r=>x= .d (.int .i64 (fltE f))∧r= []):=by
 have hlv:=hk.veh.1;have hlp:=hk.plt.1
 have H:(if decide ((500:Int)<f.veh.length)=true then(2:Int)else 0)=if 500<f.veh.length then 2 else 0:=by
  simp only[decide_eq_true_eq];congr 1;rw[eq_iff_iff];omega
 have h3:=s105 [stasE f.sta,clssE f.cls,if decide ((500:Int)<f.veh.length)=true then 2 else 0] (by simp);rw[show firstE [stasE f.sta,clssE f.cls,if decide ((500:Int)<f.veh.length)=true then 2 else 0]=fltE0 f from by rw[H];rfl]at h3;refine spec_of hT (C:= []) Tryz.func87 rfl Tryz.call87 rfl rfl rfl ?_;conv=>whnf
 repeat' (first|(refine CallX.exact (z174 f.sta hk.sta) rfl rfl ?_;rotate_right;conv=>whnf)|(refine CallX.exact (z175 f.cls hk.cls) rfl rfl ?_;rotate_right;conv=>whnf)|(refine CallX.exact (s107 _ _) rfl rfl ?_;rotate_right;conv=>whnf)|((first|refine CallX.pure h3 ⟨SV.le_lit (by rfl) (by rfl),trivial⟩ rfl ?_|(refine br_intro ?_ ?_<;>intro hb<;>try simp only[brs]at hb)|refine rAx hT 1 oQFlM87_1 ?_|refine rAx hT 9 oQFlM87_9 ?_|omega|refine sAx ?_|decide|assumption)<;>conv=>whnf))
 · refine .ret _ ?_;conv=>whnf
   refine⟨[],⟨?_,rfl⟩,trivial⟩;conv=>lhs;whnf
   congr 2
   unfold fltE;rw[if_pos hb]
 have F0:fltE0 f=0:=hb;refine LoopX.rule hT (C:= []) (ι:=Nat) (fun i=>i≤f.veh.length∧∀j,j<i→vehE1 f j=0) (fun i=>mkSt [(1,.ptr 1 0),(23,.d (vehs f.veh)),(24,.d (.int .i64 f.veh.length)),(25,.d (.int .i64 i))] [(1,fltC f)]) (fun i=>f.veh.length - i) 0 ⟨by omega,by omega⟩ (by exact eAx [(1,1)]) ?_;rintro i ⟨p1,p2⟩;have hx:(i:Int)<f.veh.length→(f.veh.getD (i:Int).toNat veh0).key.length≤2^40∧(f.veh.getD (i:Int).toNat veh0).cls.length≤2^40:=fun hi=>hk.veh.2 _ (getD_mem (by omega))
 have e1:(i:Int).toNat=i:=Int.toNat_natCast i
 have hbad:∀e:Int,i<f.veh.length→e≠0→vehE1 f i=e→fltE f=e:=fun e h h1 h2=>by
  unfold fltE;rw[if_neg (by omega),firstAt_eq h p2 h1 h2,if_pos h1]
 rcases Nat.lt_or_ge i f.veh.length with hi|hi
 · conv =>whnf
   repeat' (first|(refine CallX.exact (s108 _ (hx (by omega)).1) rfl rfl ?_;rotate_right;conv=>whnf)|(refine CallX.exact (z176 f.cls (Nat.le_trans hk.cls.1 (by decide)) _) rfl rfl ?_;rotate_right;conv=>whnf)|((first|(refine br_intro ?_ ?_<;>intro hb<;>try simp only[brs]at hb)|refine rAx hT 1 oQFlM87_1 ?_|refine rAx hT 9 oQFlM87_9 ?_|omega|refine sAx ?_|decide|assumption)<;>conv=>whnf))
   all_goals try(exfalso;omega)
   all_goals first
    |(refine⟨i+1,⟨by omega,first_step p2 (by clear p2 hbad hk hx;simp only[e1,toNat_pred]at*;unfold vehE1 strLe;grind)⟩,by omega,(by exact eAx [(1,1)])⟩)
    | (refine .ret _ ?_
       conv=>whnf
       refine⟨[],⟨?_,rfl⟩,trivial⟩;conv=>lhs;whnf
       congr 2
       exact(hbad _ (by omega) (by decide) (by clear p2 hbad hk hx;simp only[e1,toNat_pred]at*;unfold vehE1 strLe;grind)).symm)
 have hil:i=f.veh.length:=by omega
 subst hil;have F1:=firstAt_zero p2;clear hbad hx p2;conv=>whnf
 repeat' (first|(refine CallX.exact (z177 f hk (vehE_sorted F1)) rfl rfl ?_;rotate_right;conv=>whnf)|((first|(refine br_intro ?_ ?_<;>intro hb<;>try simp only[brs]at hb)|refine rAx hT 1 oQFlM87_1 ?_|refine rAx hT 9 oQFlM87_9 ?_|omega|refine sAx ?_|decide|assumption)<;>conv=>whnf))
 all_goals try(exfalso;omega)
 refine .ret _ ?_;conv=>whnf
 refine⟨[],⟨?_,rfl⟩,trivial⟩;conv=>lhs;whnf
 congr 2
 unfold fltE pltsE;simp[F0,F1]
def oQTaA143_18:OL:= [(0,[]),(1,[]),(2,[0,1]),(3,[0,1]),(5,rg 4),(6,rg 4),(7,[0,1,2,3,5,6]),(8,[0,1,2,3,5,6]),(4,[5,6,7,8]),(9,[]),(10,[]),(11,[]),(12,[])]
def oQTaA97_6:OL:= [(0,[]),(1,[]),(2,[0,1]),(3,[0,1]),(4,rg 4),(5,rg 4),(6,rg 6),(7,rg 6),(8,[]),(9,rg 9),(10,rg 9),(11,rg 11),(12,rg 11),(13,rg 13),(14,rg 13),(15,rg 15),(16,rg 15),(17,rg 9),(18,[9,10,11,12,13,14,15,16,17]),(19,[])]
structure Rat where
 cls:List UInt8
 frm:Int
 to:Int
 hr:Int
 dy:Int
 we:Int
 wk:Int
def ratF (x:Rat):List DV:= [.str x.cls,.int .i64 x.frm,.int .i64 x.to,.int .i64 x.hr,.int .i64 x.dy,.int .i64 x.we,.int .i64 x.wk]
def rat0:Rat:=⟨[],0,0,0,0,0,0⟩
abbrev rats (l:List Rat):DV:=seqD 7 ratF rat0 l
def numO (n:Int):Prop:= -1≤n∧n≤1000000
instance (n:Int):Decidable (numO n):=by unfold numO;infer_instance
def nums (x:Rat):Prop:=numO x.hr∧numO x.dy∧numO x.we∧numO x.wk
instance (x:Rat):Decidable (nums x):=by unfold nums;infer_instance
theorem cmp2_ge (a b:List UInt8)(m n:Int):(0≤firstE [cmpS a b,cmpI m n])=(Op.bytesLess b a=true∨(a=b∧n≤m)):=by
 apply propext
 unfold firstE cmpS cmpI firstE firstE;have h1:=less_tri a b;have h2:=less_irr a;grind [less_trans]
theorem cmp2s_ge (a b c d:List UInt8):(0≤firstE [cmpS a b,cmpS c d])=(Op.bytesLess b a=true∨(a=b∧strLe d c=true)):=by
 apply propext
 unfold firstE cmpS firstE firstE strLe;have h1:=less_tri a b;have h2:=less_irr a;have h3:=less_tri c d;have h4:=less_irr c;grind [less_trans]
theorem cmp2_lt (a b:List UInt8)(m n:Int):(firstE [cmpS a b,cmpI m n]<0)=¬ (Op.bytesLess b a=true∨(a=b∧n≤m)):=by
 rw[←cmp2_ge];exact propext Int.not_le.symm
theorem cmp2s_lt (a b c d:List UInt8):(firstE [cmpS a b,cmpS c d]<0)=¬ (Op.bytesLess b a=true∨(a=b∧strLe d c=true)):=by
 rw[←cmp2s_ge];exact propext Int.not_le.symm
def ratE (l:List Rat)(i:Nat):Int:=
 let x:=l.getD i rat0
 let q:=l.getD (i - 1) rat0
 if isKeyB x.cls=false then 5 else if ¬ (0≤x.frm∧x.frm<x.to∧x.to≤4001∧nums x)then 1 else if 0<i∧(Op.bytesLess x.cls q.cls=true∨(q.cls=x.cls∧x.frm≤q.frm))then 7 else if 0<i∧q.cls=x.cls∧x.frm<q.to then 13 else 0
def ratsE (l:List Rat):Int:=if 200<l.length then 2 else firstAt (ratE l) l.length
def ratK (x:Rat):Prop:=x.cls.length≤2^40
def ratOk (l:List Rat):Prop:=l.length≤2^40∧∀x ∈ l,ratK x
theorem min4_lt (p q r t c:Int):(min (min (min p q) r) t<c)=(p<c∨q<c∨r<c∨t<c):=by apply propext;omega
theorem max4_gt (p q r t c:Int):(c<max (max (max p q) r) t)=(c<p∨c<q∨c<r∨c<t):=by apply propext;omega
set_option maxHeartbeats 4000000 in
theorem y149 (l:List Rat)(hk:ratOk l):FSpec Tryz.prog 143 [.d (rats l)] [] (fun x r=>x= .d (.int .i64 (ratsE l))∧r= []):=by
 refine spec_of hT (C:= []) Tryz.func143 rfl Tryz.call143 rfl rfl rfl ?_;conv=>whnf
 refine br_intro (fun h0=> ?_) (fun h0=> ?_)
 · simp at h0;conv=>whnf
   refine .ret _ ?_;conv=>whnf
   refine⟨[],⟨?_,rfl⟩,trivial⟩;conv=>lhs;whnf
   unfold ratsE;rw[if_pos (by omega)]
 simp at h0;conv=>whnf
 refine LoopX.rule hT (C:= []) (ι:=Nat) (fun i=>i≤l.length∧∀j,j<i→ratE l j=0) (fun i=>mkSt [(0,.d (rats l)),(11,.d (rats l)),(12,.d (.int .i64 l.length)),(13,.d (.int .i64 i))] []) (fun i=>l.length - i) 0 ⟨by omega,by omega⟩ (by exact eAx []) ?_;rintro i ⟨p1,p2⟩;have hx:(i:Int)<l.length→ratK (l.getD (i:Int).toNat rat0):=fun hi=>hk.2 _ (getD_mem (by omega))
 have e1:(i:Int).toNat=i:=Int.toNat_natCast i
 have hbad:∀e:Int,i<l.length→e≠0→ratE l i=e→ratsE l=e:=fun e h h1 h2=>by
  unfold ratsE;rw[if_neg (by omega)];exact firstAt_eq h p2 h1 h2
 conv=>whnf
 repeat' (first|(refine CallX.exact (s108 _ (hx (by omega))) rfl rfl ?_;rotate_right;conv=>whnf)|((first|(refine br_intro ?_ ?_<;>intro hb<;>try simp only[brs]at hb)|refine rAx hT 18 oQTaA143_18 ?_|omega|refine sAx ?_|decide|assumption)<;>conv=>whnf))
 · refine .ret _ ?_;conv=>whnf
   refine⟨[],⟨?_,rfl⟩,trivial⟩;conv=>lhs;whnf
   congr 2
   exact(hbad _ (by omega) (by decide) (by clear p2 hbad hk hx;simp only[e1]at*;unfold ratE;grind)).symm
 · refine .ret _ ?_;conv=>whnf
   refine⟨[],⟨?_,rfl⟩,trivial⟩;conv=>lhs;whnf
   congr 2
   exact(hbad _ (by omega) (by decide) (by clear p2 hbad hk hx;simp only[e1]at*;unfold ratE;grind)).symm
 · refine .ret _ ?_;conv=>whnf
   refine⟨[],⟨?_,rfl⟩,trivial⟩;conv=>lhs;whnf
   congr 2
   exact(hbad _ (by omega) (by decide) (by clear p2 hbad hk hx;simp only[e1]at*;unfold ratE;grind)).symm
 · refine .ret _ ?_;conv=>whnf
   refine⟨[],⟨?_,rfl⟩,trivial⟩;conv=>lhs;whnf
   congr 2
   exact(hbad _ (by omega) (by decide) (by clear p2 hbad hk hx;simp only[e1]at*;unfold ratE;grind)).symm
 · have hi:i<l.length:=by omega
   have hN:isKeyB (l.getD i rat0).cls=true∧0≤(l.getD i rat0).frm∧(l.getD i rat0).frm<(l.getD i rat0).to∧(l.getD i rat0).to≤4001:=by clear p2 hbad hk hx;simp only[e1]at*;grind
   have hR:ratE l i=if ¬nums (l.getD i rat0)then 1 else if 0<i∧(Op.bytesLess (l.getD i rat0).cls (l.getD (i - 1) rat0).cls=true∨((l.getD (i - 1) rat0).cls=(l.getD i rat0).cls∧(l.getD i rat0).frm≤(l.getD (i - 1) rat0).frm))then 7 else if 0<i∧(l.getD (i - 1) rat0).cls=(l.getD i rat0).cls∧(l.getD i rat0).frm<(l.getD (i - 1) rat0).to then 13 else 0:=by
    obtain⟨n1,n2,n3,n4⟩:=hN;unfold ratE;simp only;rw[if_neg (by rw[n1];simp)]
    by_cases hn:nums (l.getD i rat0)<;>simp only[hn,n2,n3,n4,and_true,and_false,true_and,not_true_eq_false,not_false_eq_true,if_true,if_false]
   obtain⟨X,hX⟩:∃X,X=l.getD (i:Int).toNat rat0:=⟨_,rfl⟩;have hX2:l.getD i rat0=X:=hX.symm;rw[hX2]at hN hR;refine LoopX.rule hT (C:= []) (ι:=Nat) (fun k=>k≤4∧∀j,j<k→numO (([X.hr,X.dy,X.we,X.wk]:List Int).getD j 0)) (fun k=>mkSt [(0,.d (rats l)),(3,.d (.int .i64 i)),(4,.ptr 4 0),(11,.d (rats l)),(12,.d (.int .i64 l.length)),(13,.d (.int .i64 i)),(47,.d (ints [X.hr,X.dy,X.we,X.wk])),(48,.d (.int .i64 4)),(49,.d (.int .i64 k))] [(4,.cells 210 ((ratF X).map .d))]) (fun k=>4 - k) 0 ⟨by omega,by omega⟩ (by subst hX;exact(by(refine Entails.mk' [(4,4)] rfl rfl ?_ ?_<;>repeat' (first|exact True.intro|exact lr|exact rr|(exact SV.le_lit rfl rfl)|exact SV.le_int (by omega)|exact SV.le_any _|refine And.intro ?_ ?_));done)) ?_;rintro k ⟨q1,q2⟩;have e2:(k:Int).toNat=k:=Int.toNat_natCast k;clear hx hk;conv=>whnf
   repeat' (first|(refine CallX.exact (s119 _ _ _) rfl rfl ?_;rotate_right;conv=>whnf)|(refine CallX.exact (s184 _ _) rfl rfl ?_;rotate_right;conv=>whnf)|(refine CallX.exact (s183 _ _) rfl rfl ?_;rotate_right;conv=>whnf)|((first|refine CallX.pure (s182 [_,_] (by simp)) ⟨SV.le_lit (by rfl) (by rfl),trivial⟩ rfl ?_|(refine br_intro ?_ ?_<;>intro hb<;>try simp only[brs]at hb)|refine rAx hT 18 oQTaA143_18 ?_|omega|refine sAx ?_|decide|assumption)<;>conv=>whnf))
   · refine .ret _ ?_;conv=>whnf
     refine⟨[],⟨?_,rfl⟩,trivial⟩;conv=>lhs;whnf
     congr 2
     refine(hbad _ hi (by decide) ?_).symm;rw[hR,if_pos];rintro⟨⟨n1,n2⟩,⟨n3,n4⟩,⟨n5,n6⟩,n7,n8⟩;have hk4:k=0∨k=1∨k=2∨k=3:=by omega
     rcases hk4 with rfl|rfl|rfl|rfl<;>(simp only[Int.toNat_natCast,List.getD_cons_zero,List.getD_cons_succ]at hb;omega)
   · exact⟨k+1,⟨by omega,all_step q2 hb⟩,by omega,(by exact eAx [(4,4)])⟩
   all_goals
    have hk4:k=4:=by omega
    subst hk4;have hn:nums X:=⟨q2 0 (by omega),q2 1 (by omega),q2 2 (by omega),q2 3 (by omega)⟩;rw[if_neg (fun h=>h hn)]at hR;clear q1 q2 e2 hN
    first
     |(refine⟨i+1,⟨by omega,first_step p2 (by rw[hR];clear p2 hbad hR hX hX2;simp only[e1,toNat_pred]at*;(try simp only[cmp2_ge,cmp2_lt]at*);grind)⟩,by omega,(by exact eAx [])⟩)
     | (refine .ret _ ?_
        conv=>whnf
        refine⟨[],⟨?_,rfl⟩,trivial⟩;conv=>lhs;whnf
        congr 2
        exact(hbad _ hi (by decide) (by rw[hR];clear p2 hbad hR hX hX2;simp only[e1,toNat_pred]at*;(try simp only[cmp2_ge,cmp2_lt]at*);grind)).symm)
 · refine .ret _ ?_;conv=>whnf
   refine⟨[],⟨?_,rfl⟩,trivial⟩;conv=>lhs;whnf
   congr 2
   have:i=l.length:=by omega
   subst this;unfold ratsE;rw[if_neg (by omega),firstAt_zero p2]
set_option maxHeartbeats 4000000 in
theorem y161 (l:List Rat)(hk:ratOk l):FSpec Tryz.prog 97 [.d (rats l)] [] (fun x r=>x= .d (.int .i64 (ratsE l))∧r= []):=by
 refine spec_of hT (C:= []) Tryz.func97 rfl Tryz.call97 rfl rfl rfl ?_;conv=>whnf
 refine br_intro (fun h0=> ?_) (fun h0=> ?_)
 · simp at h0;conv=>whnf
   refine .ret _ ?_;conv=>whnf
   refine⟨[],⟨?_,rfl⟩,trivial⟩;conv=>lhs;whnf
   unfold ratsE;rw[if_pos (by omega)]
 simp at h0;conv=>whnf
 refine LoopX.rule hT (C:= []) (ι:=Nat) (fun i=>i≤l.length∧∀j,j<i→ratE l j=0) (fun i=>mkSt [(0,.d (rats l)),(11,.d (rats l)),(12,.d (.int .i64 l.length)),(13,.d (.int .i64 i))] []) (fun i=>l.length - i) 0 ⟨by omega,by omega⟩ (by exact eAx []) ?_;rintro i ⟨p1,p2⟩;have hx:(i:Int)<l.length→ratK (l.getD (i:Int).toNat rat0):=fun hi=>hk.2 _ (getD_mem (by omega))
 have e1:(i:Int).toNat=i:=Int.toNat_natCast i
 have hbad:∀e:Int,i<l.length→e≠0→ratE l i=e→ratsE l=e:=fun e h h1 h2=>by
  unfold ratsE;rw[if_neg (by omega)];exact firstAt_eq h p2 h1 h2
 conv=>whnf
 repeat' (first|(refine CallX.exact (s21 _ (hx (by omega))) rfl rfl ?_;rotate_right;conv=>whnf)|((first|(refine br_intro ?_ ?_<;>intro hb<;>try simp only[brs]at hb)|refine rAx hT 6 oQTaA97_6 ?_|omega|refine sAx ?_|decide|assumption)<;>conv=>whnf))
 all_goals first
  |(refine⟨i+1,⟨by omega,first_step p2 (by clear p2 hbad hk hx;simp only[e1,toNat_pred]at*;unfold ratE nums numO;(try simp only[min4_lt,max4_gt]at*);grind)⟩,by omega,(by exact eAx [])⟩)
  | (refine .ret _ ?_
     conv=>whnf
     refine⟨[],⟨?_,rfl⟩,trivial⟩;conv=>lhs;whnf
     congr 2
     first
      |exact(hbad _ (by omega) (by decide) (by clear p2 hbad hk hx;simp only[e1,toNat_pred]at*;unfold ratE nums numO;(try simp only[min4_lt,max4_gt]at*);grind)).symm
      | (have:i=l.length:=by omega
         subst this
         unfold ratsE;rw[if_neg (by omega),firstAt_zero p2]))
def oQTaB144_8:OL:= [(0,[]),(1,[]),(2,[]),(3,[]),(4,[]),(5,[3,4]),(6,[3,4,5]),(7,[3,4,5]),(8,[3,4]),(9,[3,4]),(10,[3,4]),(11,[]),(12,[]),(13,[])]
def oQTaB145_10:OL:= [(0,[]),(1,[]),(2,[]),(3,[]),(4,[3]),(5,[3]),(6,[]),(7,[]),(8,[]),(9,[3,4,5,6,7,8]),(10,[3,4,5,6,7,8]),(12,[3,4,5,6,7,8,9,10]),(13,[3,4,5,6,7,8,9,10,12]),(14,[3,4,5,6,7,8,9,10,12]),(15,[3,4,5,6,7,8,9,10]),(16,[3,4,5,6,7,8,9,10]),(17,[3,4,5,6,7,8,9,10]),(18,[3,4,5,6,7,8,9,10,12,13,14,15,16,17]),(19,[3,4,5,6,7,8,9,10,12,13,14,15,16,17]),(11,[12,13,14,15,16,17,18,19]),(20,[]),(21,[]),(22,[]),(23,[]),(24,[]),(25,[])]
def oQTaB99_10:OL:= [(0,[]),(1,[]),(2,[]),(3,[]),(4,[]),(5,[3,4]),(6,[3,4,5]),(7,[3,4,5]),(8,[3,4]),(9,[3,4]),(10,[3,4]),(11,[]),(12,[]),(13,[]),(14,[]),(15,[13,14]),(16,[13,14,15]),(17,[13,14,15]),(18,[13,14]),(19,[13,14]),(20,[13,14]),(21,[]),(22,[]),(23,[]),(24,[]),(25,[23,24]),(26,[23,24,25]),(27,[23,24,25]),(28,[23,24]),(29,[23,24]),(30,[23,24]),(31,[]),(32,[]),(33,[]),(34,[]),(35,[])]
def oQTaB146_8:OL:= [(0,[]),(1,[]),(2,[]),(3,[]),(4,[]),(5,[3,4]),(6,[3,4,5]),(7,[3,4,5]),(8,[3,4]),(9,[3,4]),(10,[3,4]),(11,[]),(12,[]),(13,[])]
structure Ext where
 key:List UInt8
 once:Int
 dy:Int
 most:Int
def extF (x:Ext):List DV:= [.str x.key,.int .i64 x.once,.int .i64 x.dy,.int .i64 x.most]
def ext0:Ext:=⟨[],0,0,0⟩
abbrev exts (l:List Ext):DV:=seqD 4 extF ext0 l
def extE (l:List Ext)(i:Nat):Int:=
 let x:=l.getD i ext0
 if isKeyB x.key=false then 5 else if 0<i∧strLe x.key (l.getD (i - 1) ext0).key=true then 7 else if ¬ ((0≤x.once∧x.once≤1000000)∧(0≤x.dy∧x.dy≤1000000)∧(-1≤x.most∧x.most≤1000000))then 1 else 0
def extsE (l:List Ext):Int:=if 30<l.length then 2 else firstAt (extE l) l.length
def extK (x:Ext):Prop:=x.key.length≤2^40
def extOk (l:List Ext):Prop:=l.length≤2^40∧∀x ∈ l,extK x
set_option maxHeartbeats 2000000 in
theorem y150 (l:List Ext)(hk:extOk l):FSpec Tryz.prog 144 [.d (exts l)] [] (fun x r=>x= .d (.int .i64 (extsE l))∧r= []):=by
 refine spec_of hT (C:= []) Tryz.func144 rfl Tryz.call144 rfl rfl rfl ?_;conv=>whnf
 refine br_intro (fun h0=> ?_) (fun h0=> ?_)
 · simp at h0;conv=>whnf
   refine .ret _ ?_;conv=>whnf
   refine⟨[],⟨?_,rfl⟩,trivial⟩;conv=>lhs;whnf
   unfold extsE;rw[if_pos (by omega)]
 simp at h0;conv=>whnf
 refine LoopX.rule hT (C:= []) (ι:=Nat) (fun i=>i≤l.length∧∀j,j<i→extE l j=0) (fun i=>mkSt [(0,.d (exts l)),(8,.d (exts l)),(9,.d (.int .i64 l.length)),(10,.d (.int .i64 i))] []) (fun i=>l.length - i) 0 ⟨by omega,by omega⟩ (by exact eAx []) ?_;rintro i ⟨p1,p2⟩;have hx:(i:Int)<l.length→extK (l.getD (i:Int).toNat ext0):=fun hi=>hk.2 _ (getD_mem (by omega))
 have e1:(i:Int).toNat=i:=Int.toNat_natCast i
 have hbad:∀e:Int,i<l.length→e≠0→extE l i=e→extsE l=e:=fun e h h1 h2=>by
  unfold extsE;rw[if_neg (by omega)];exact firstAt_eq h p2 h1 h2
 conv=>whnf
 repeat' (first|(refine CallX.exact (s108 _ (hx (by omega))) rfl rfl ?_;rotate_right;conv=>whnf)|(refine CallX.exact (s119 _ _ _) rfl rfl ?_;rotate_right;conv=>whnf)|((first|(refine br_intro ?_ ?_<;>intro hb<;>try simp only[brs]at hb)|refine rAx hT 8 oQTaB144_8 ?_|omega|refine sAx ?_|decide|assumption)<;>conv=>whnf))
 all_goals first
  |(refine⟨i+1,⟨by omega,first_step p2 (by clear p2 hbad hk hx;simp only[e1,toNat_pred]at*;unfold extE strLe;grind)⟩,by omega,(by exact eAx [])⟩)
  | (refine .ret _ ?_
     conv=>whnf
     refine⟨[],⟨?_,rfl⟩,trivial⟩;conv=>lhs;whnf
     congr 2
     first
      |exact(hbad _ (by omega) (by decide) (by clear p2 hbad hk hx;simp only[e1,toNat_pred]at*;unfold extE strLe;grind)).symm
      | (have:i=l.length:=by omega
         subst this
         unfold extsE;rw[if_neg (by omega),firstAt_zero p2]))
set_option maxHeartbeats 2000000 in
theorem y162 (l:List Ext)(hk:extOk l):FSpec Tryz.prog 98 [.d (exts l)] [] (fun x r=>x= .d (.int .i64 (extsE l))∧r= []):=by
 refine spec_of hT (C:= []) Tryz.func98 rfl Tryz.call98 rfl rfl rfl ?_;conv=>whnf
 refine br_intro (fun h0=> ?_) (fun h0=> ?_)
 · simp at h0;conv=>whnf
   refine .ret _ ?_;conv=>whnf
   refine⟨[],⟨?_,rfl⟩,trivial⟩;conv=>lhs;whnf
   unfold extsE;rw[if_pos (by omega)]
 simp at h0;conv=>whnf
 refine LoopX.rule hT (C:= []) (ι:=Nat) (fun i=>i≤l.length∧∀j,j<i→extE l j=0) (fun i=>mkSt [(3,.d (.str (if i=0 then []else(l.getD (i - 1) ext0).key))),(9,.d (exts l)),(10,.d (.int .i64 l.length)),(11,.d (.int .i64 i))] []) (fun i=>l.length - i) 0 ⟨by omega,by omega⟩ (by exact eAx []) ?_;rintro i ⟨p1,p2⟩;have hx:(i:Int)<l.length→extK (l.getD (i:Int).toNat ext0):=fun hi=>hk.2 _ (getD_mem (by omega))
 have e1:(i:Int).toNat=i:=Int.toNat_natCast i
 have hbad:∀e:Int,i<l.length→e≠0→extE l i=e→extsE l=e:=fun e h h1 h2=>by
  unfold extsE;rw[if_neg (by omega)];exact firstAt_eq h p2 h1 h2
 conv=>whnf
 repeat' (first|(refine CallX.exact (s21 _ (hx (by omega))) rfl rfl ?_;rotate_right;conv=>whnf)|(refine CallX.exact (s110 _ _ _) rfl rfl ?_;rotate_right;conv=>whnf)|((first|(refine br_intro ?_ ?_<;>intro hb<;>try simp only[brs]at hb)|omega|refine sAx ?_|decide|assumption)<;>conv=>whnf))
 all_goals first
  |(refine⟨i+1,⟨by omega,first_step p2 (by clear p2 hbad hk hx;simp only[e1]at*;unfold extE strLe;grind)⟩,by omega,Entails.mk' [] rfl rfl ⟨(by rw[show(if i+1=0 then([]:List UInt8)else(l.getD (i+1 - 1) ext0).key)=(l.getD (i:Int).toNat ext0).key from by rw[if_neg (by omega),e1,Nat.add_sub_cancel]];exact lr),lr,lr,lr,trivial⟩ trivial⟩)
  | (refine .ret _ ?_
     conv=>whnf
     refine⟨[],⟨?_,rfl⟩,trivial⟩;conv=>lhs;whnf
     congr 2
     first
      |exact(hbad _ (by omega) (by decide) (by clear p2 hbad hk hx;simp only[e1]at*;unfold extE strLe;grind [isKey_nil,less_nil])).symm
      | (have:i=l.length:=by omega
         subst this
         unfold extsE;rw[if_neg (by omega),firstAt_zero p2]))
structure Fe where
 a:List UInt8
 b:List UInt8
 cents:Int
def feF (x:Fe):List DV:= [.str x.a,.str x.b,.int .i64 x.cents]
def fe0:Fe:=⟨[],[],0⟩
abbrev fes (l:List Fe):DV:=seqD 3 feF fe0 l
def feE (l:List Fe)(i:Nat):Int:=
 let x:=l.getD i fe0
 let q:=l.getD (i - 1) fe0
 if isKeyB x.a=false∨isKeyB x.b=false then 5 else if x.a=x.b then 14 else if 0<i∧(Op.bytesLess x.a q.a=true∨(q.a=x.a∧strLe x.b q.b=true))then 7 else if ¬ (0≤x.cents∧x.cents≤1000000)then 1 else 0
def fesE (l:List Fe):Int:=if 500<l.length then 2 else firstAt (feE l) l.length
def feK (x:Fe):Prop:=x.a.length≤2^40∧x.b.length≤2^40
def feOk (l:List Fe):Prop:=l.length≤2^40∧∀x ∈ l,feK x
set_option maxHeartbeats 2000000 in
theorem y151 (l:List Fe)(hk:feOk l):FSpec Tryz.prog 145 [.d (fes l)] [] (fun x r=>x= .d (.int .i64 (fesE l))∧r= []):=by
 refine spec_of hT (C:= []) Tryz.func145 rfl Tryz.call145 rfl rfl rfl ?_;conv=>whnf
 refine br_intro (fun h0=> ?_) (fun h0=> ?_)
 · simp at h0;conv=>whnf
   refine .ret _ ?_;conv=>whnf
   refine⟨[],⟨?_,rfl⟩,trivial⟩;conv=>lhs;whnf
   unfold fesE;rw[if_pos (by omega)]
 simp at h0;conv=>whnf
 refine LoopX.rule hT (C:= []) (ι:=Nat) (fun i=>i≤l.length∧∀j,j<i→feE l j=0) (fun i=>mkSt [(0,.d (fes l)),(8,.d (fes l)),(9,.d (.int .i64 l.length)),(10,.d (.int .i64 i))] []) (fun i=>l.length - i) 0 ⟨by omega,by omega⟩ (by exact eAx []) ?_;rintro i ⟨p1,p2⟩;have hx:(i:Int)<l.length→feK (l.getD (i:Int).toNat fe0):=fun hi=>hk.2 _ (getD_mem (by omega))
 have e1:(i:Int).toNat=i:=Int.toNat_natCast i
 have hbad:∀e:Int,i<l.length→e≠0→feE l i=e→fesE l=e:=fun e h h1 h2=>by
  unfold fesE;rw[if_neg (by omega)];exact firstAt_eq h p2 h1 h2
 conv=>whnf
 repeat' (first|(refine CallX.exact (s108 _ (hx (by omega)).1) rfl rfl ?_;rotate_right;conv=>whnf)|(refine CallX.exact (s108 _ (hx (by omega)).2) rfl rfl ?_;rotate_right;conv=>whnf)|(refine CallX.exact (s119 _ _ _) rfl rfl ?_;rotate_right;conv=>whnf)|(refine CallX.exact (s184 _ _) rfl rfl ?_;rotate_right;conv=>whnf)|((first|refine CallX.pure (s182 [_,_] (by simp)) ⟨SV.le_lit (by rfl) (by rfl),trivial⟩ rfl ?_|(refine br_intro ?_ ?_<;>intro hb<;>try simp only[brs]at hb)|refine rAx hT 10 oQTaB145_10 ?_|omega|refine sAx ?_|decide|assumption)<;>conv=>whnf))
 all_goals first
  |(refine⟨i+1,⟨by omega,first_step p2 (by clear p2 hbad hk hx;simp only[e1,toNat_pred]at*;unfold feE;(try simp only[cmp2s_ge,cmp2s_lt]at*);grind)⟩,by omega,(by exact eAx [])⟩)
  | (refine .ret _ ?_
     conv=>whnf
     refine⟨[],⟨?_,rfl⟩,trivial⟩;conv=>lhs;whnf
     congr 2
     first
      |exact(hbad _ (by omega) (by decide) (by clear p2 hbad hk hx;simp only[e1,toNat_pred]at*;unfold feE;(try simp only[cmp2s_ge,cmp2s_lt]at*);grind)).symm
      | (have:i=l.length:=by omega
         subst this
         unfold fesE;rw[if_neg (by omega),firstAt_zero p2]))
set_option maxHeartbeats 2000000 in
theorem y163 (l:List Fe)(hk:feOk l):FSpec Tryz.prog 99 [.d (fes l)] [] (fun x r=>x= .d (.int .i64 (fesE l))∧r= []):=by
 refine spec_of hT (C:= []) Tryz.func99 rfl Tryz.call99 rfl rfl rfl ?_;conv=>whnf
 refine br_intro (fun h0=> ?_) (fun h0=> ?_)
 · simp at h0;conv=>whnf
   refine .ret _ ?_;conv=>whnf
   refine⟨[],⟨?_,rfl⟩,trivial⟩;conv=>lhs;whnf
   unfold fesE;rw[if_pos (by omega)]
 simp at h0;conv=>whnf
 refine LoopX.rule hT (C:= []) (ι:=Nat) (fun i=>i≤l.length∧∀j,j<i→feE l j=0) (fun i=>mkSt [(0,.d (fes l)),(8,.d (fes l)),(9,.d (.int .i64 l.length)),(10,.d (.int .i64 i))] []) (fun i=>l.length - i) 0 ⟨by omega,by omega⟩ (by exact eAx []) ?_;rintro i ⟨p1,p2⟩;have hx:(i:Int)<l.length→feK (l.getD (i:Int).toNat fe0):=fun hi=>hk.2 _ (getD_mem (by omega))
 have e1:(i:Int).toNat=i:=Int.toNat_natCast i
 have hbad:∀e:Int,i<l.length→e≠0→feE l i=e→fesE l=e:=fun e h h1 h2=>by
  unfold fesE;rw[if_neg (by omega)];exact firstAt_eq h p2 h1 h2
 conv=>whnf
 repeat' (first|(refine CallX.exact (s21 _ (hx (by omega)).1) rfl rfl ?_;rotate_right;conv=>whnf)|(refine CallX.exact (s21 _ (hx (by omega)).2) rfl rfl ?_;rotate_right;conv=>whnf)|(refine CallX.exact (s110 _ _ _) rfl rfl ?_;rotate_right;conv=>whnf)|((first|(refine br_intro ?_ ?_<;>intro hb<;>try simp only[brs]at hb)|refine rAx hT 10 oQTaB99_10 ?_|omega|refine sAx ?_|decide|assumption)<;>conv=>whnf))
 all_goals first
  |(refine⟨i+1,⟨by omega,first_step p2 (by clear p2 hbad hk hx;simp only[e1,toNat_pred]at*;unfold feE strLe;grind)⟩,by omega,(by exact eAx [])⟩)
  | (refine .ret _ ?_
     conv=>whnf
     refine⟨[],⟨?_,rfl⟩,trivial⟩;conv=>lhs;whnf
     congr 2
     first
      |exact(hbad _ (by omega) (by decide) (by clear p2 hbad hk hx;simp only[e1,toNat_pred]at*;unfold feE strLe;grind)).symm
      | (have:i=l.length:=by omega
         subst this
         unfold fesE;rw[if_neg (by omega),firstAt_zero p2]))
structure Cod where
 key:List UInt8
 cls:List UInt8
 frm:Int
 to:Int
 days:Int
 per:Int
def codF (x:Cod):List DV:= [.str x.key,.str x.cls,.int .i64 x.frm,.int .i64 x.to,.int .i64 x.days,.int .i64 x.per]
def cod0:Cod:=⟨[],[],0,0,0,0⟩
abbrev cods (l:List Cod):DV:=seqD 6 codF cod0 l
def codE (l:List Cod)(i:Nat):Int:=
 let x:=l.getD i cod0
 if isKeyB x.key=false then 5 else if 0<i∧strLe x.key (l.getD (i - 1) cod0).key=true then 7 else if x.cls≠ []∧isKeyB x.cls=false then 5 else if ¬ ((0≤x.frm∧x.frm≤x.to)∧x.to≤4001∧(1≤x.days∧x.days≤120)∧(1≤x.per∧x.per≤1000))then 1 else 0
def codsE (l:List Cod):Int:=if 50<l.length then 2 else firstAt (codE l) l.length
def codK (x:Cod):Prop:=x.key.length≤2^40∧x.cls.length≤2^40
def codOk (l:List Cod):Prop:=l.length≤2^40∧∀x ∈ l,codK x
set_option maxHeartbeats 2000000 in
theorem y152 (l:List Cod)(hk:codOk l):FSpec Tryz.prog 146 [.d (cods l)] [] (fun x r=>x= .d (.int .i64 (codsE l))∧r= []):=by
 refine spec_of hT (C:= []) Tryz.func146 rfl Tryz.call146 rfl rfl rfl ?_;conv=>whnf
 refine br_intro (fun h0=> ?_) (fun h0=> ?_)
 · simp at h0;conv=>whnf
   refine .ret _ ?_;conv=>whnf
   refine⟨[],⟨?_,rfl⟩,trivial⟩;conv=>lhs;whnf
   unfold codsE;rw[if_pos (by omega)]
 simp at h0;conv=>whnf
 refine LoopX.rule hT (C:= []) (ι:=Nat) (fun i=>i≤l.length∧∀j,j<i→codE l j=0) (fun i=>mkSt [(0,.d (cods l)),(8,.d (cods l)),(9,.d (.int .i64 l.length)),(10,.d (.int .i64 i))] []) (fun i=>l.length - i) 0 ⟨by omega,by omega⟩ (by exact eAx []) ?_;rintro i ⟨p1,p2⟩;have hx:(i:Int)<l.length→codK (l.getD (i:Int).toNat cod0):=fun hi=>hk.2 _ (getD_mem (by omega))
 have e1:(i:Int).toNat=i:=Int.toNat_natCast i
 have hbad:∀e:Int,i<l.length→e≠0→codE l i=e→codsE l=e:=fun e h h1 h2=>by
  unfold codsE;rw[if_neg (by omega)];exact firstAt_eq h p2 h1 h2
 conv=>whnf
 repeat' (first|(refine CallX.exact (s108 _ (hx (by omega)).1) rfl rfl ?_;rotate_right;conv=>whnf)|(refine CallX.exact (s108 _ (hx (by omega)).2) rfl rfl ?_;rotate_right;conv=>whnf)|(refine CallX.exact (s119 _ _ _) rfl rfl ?_;rotate_right;conv=>whnf)|((first|(refine br_intro ?_ ?_<;>intro hb<;>try simp only[brs]at hb)|refine rAx hT 8 oQTaB146_8 ?_|omega|refine sAx ?_|decide|assumption)<;>conv=>whnf))
 all_goals first
  |(refine⟨i+1,⟨by omega,first_step p2 (by clear p2 hbad hk hx;simp only[e1,toNat_pred]at*;unfold codE strLe;grind)⟩,by omega,(by exact eAx [])⟩)
  | (refine .ret _ ?_
     conv=>whnf
     refine⟨[],⟨?_,rfl⟩,trivial⟩;conv=>lhs;whnf
     congr 2
     first
      |exact(hbad _ (by omega) (by decide) (by clear p2 hbad hk hx;simp only[e1,toNat_pred]at*;unfold codE strLe;grind)).symm
      | (have:i=l.length:=by omega
         subst this
         unfold codsE;rw[if_neg (by omega),firstAt_zero p2]))
set_option maxHeartbeats 2000000 in
theorem y164 (l:List Cod)(hk:codOk l):FSpec Tryz.prog 100 [.d (cods l)] [] (fun x r=>x= .d (.int .i64 (codsE l))∧r= []):=by
 refine spec_of hT (C:= []) Tryz.func100 rfl Tryz.call100 rfl rfl rfl ?_;conv=>whnf
 refine br_intro (fun h0=> ?_) (fun h0=> ?_)
 · simp at h0;conv=>whnf
   refine .ret _ ?_;conv=>whnf
   refine⟨[],⟨?_,rfl⟩,trivial⟩;conv=>lhs;whnf
   unfold codsE;rw[if_pos (by omega)]
 simp at h0;conv=>whnf
 refine LoopX.rule hT (C:= []) (ι:=Nat) (fun i=>i≤l.length∧∀j,j<i→codE l j=0) (fun i=>mkSt [(3,.d (.str (if i=0 then []else(l.getD (i - 1) cod0).key))),(9,.d (cods l)),(10,.d (.int .i64 l.length)),(11,.d (.int .i64 i))] []) (fun i=>l.length - i) 0 ⟨by omega,by omega⟩ (by exact eAx []) ?_;rintro i ⟨p1,p2⟩;have hx:(i:Int)<l.length→codK (l.getD (i:Int).toNat cod0):=fun hi=>hk.2 _ (getD_mem (by omega))
 have e1:(i:Int).toNat=i:=Int.toNat_natCast i
 have hbad:∀e:Int,i<l.length→e≠0→codE l i=e→codsE l=e:=fun e h h1 h2=>by
  unfold codsE;rw[if_neg (by omega)];exact firstAt_eq h p2 h1 h2
 conv=>whnf
 repeat' (first|(refine CallX.exact (s21 _ (hx (by omega)).1) rfl rfl ?_;rotate_right;conv=>whnf)|(refine CallX.exact (s21 _ (hx (by omega)).2) rfl rfl ?_;rotate_right;conv=>whnf)|(refine CallX.exact (s110 _ _ _) rfl rfl ?_;rotate_right;conv=>whnf)|((first|(refine br_intro ?_ ?_<;>intro hb<;>try simp only[brs]at hb)|omega|refine sAx ?_|decide|assumption)<;>conv=>whnf))
 all_goals first
  |(refine⟨i+1,⟨by omega,first_step p2 (by clear p2 hbad hk hx;simp only[e1]at*;unfold codE strLe;grind)⟩,by omega,Entails.mk' [] rfl rfl ⟨(by rw[show(if i+1=0 then([]:List UInt8)else(l.getD (i+1 - 1) cod0).key)=(l.getD (i:Int).toNat cod0).key from by rw[if_neg (by omega),e1,Nat.add_sub_cancel]];exact lr),lr,lr,lr,trivial⟩ trivial⟩)
  | (refine .ret _ ?_
     conv=>whnf
     refine⟨[],⟨?_,rfl⟩,trivial⟩;conv=>lhs;whnf
     congr 2
     first
      |exact(hbad _ (by omega) (by decide) (by clear p2 hbad hk hx;simp only[e1]at*;unfold codE strLe;grind [isKey_nil,less_nil])).symm
      | (have:i=l.length:=by omega
         subst this
         unfold codsE;rw[if_neg (by omega),firstAt_zero p2]))
structure Tax where
 key:List UInt8
 per:Int
 on:List Int
 over:Bool
def taxF (x:Tax):List DV:= [.str x.key,.int .i64 x.per,ints x.on,.bool x.over]
def tax0:Tax:=⟨[],0,[],false⟩
abbrev taxs (l:List Tax):DV:=seqD 4 taxF tax0 l
def taxC (x:Tax):Res:=.cells 254 ((taxF x).map .d)
def txOn (l:List Int)(k:Nat):Int:=if l.getD k 0=5∨¬ (1≤l.getD k 0∧l.getD k 0≤6)then 4 else if 0<k∧l.getD k 0≤l.getD (k - 1) 0 then 7 else 0
def txOns (l:List Int):Int:=firstAt (txOn l) l.length
def dupT (l:List Tax)(x:Tax):Bool:=decide (0≤ixF (fun i=>(l.getD i tax0).key==x.key) l.length)
def taxE (l:List Tax)(i:Nat):Int:=
 let x:=l.getD i tax0
 if isKeyB x.key=false then 5 else if dupT (l.take i) x=true then 6 else if ¬ (0≤x.per∧x.per≤1000)then 1 else txOns x.on
def taxsE (l:List Tax):Int:=if 10<l.length then 2 else firstAt (taxE l) l.length
def taxK (x:Tax):Prop:=x.key.length≤2^40∧x.on.length≤2^40
def taxOk (l:List Tax):Prop:=l.length≤2^40∧∀x ∈ l,taxK x
theorem y229 (y x:Tax):FSpec Tryz.prog 185 [.agg ((taxF y).map .d),.ptr 1000001 0] [(1000001,taxC x)] (fun v r=>v= .d (.bool (y.key==x.key))∧r= [(1000001,taxC x)]):=by
 refine spec_of hT (C:= []) Tryz.func185 rfl Tryz.call185 rfl rfl rfl ?_;conv=>whnf
 refine .ret _ ?_;conv=>whnf
 exact⟨[(1000001,taxC x)],⟨rfl,rfl⟩,rr,trivial⟩
theorem y309a (l:List Tax)(hl:l.length≤2^40)(x:Tax):FSpec Tryz.prog 181 [.d (taxs l),.fn 185 [.ptr 1000001 0]] [(1000001,taxC x)] (fun v r=>v= .d (.int .i64 (ixF (fun i=>(l.getD i tax0).key==x.key) l.length))∧r= [(1000001,taxC x)]):=by
 refine spec_of hT (C:= []) Tryz.func181 rfl Tryz.call181 rfl rfl rfl ?_;conv=>whnf
 refine LoopX.rule hT (C:= []) (ι:=Nat) (fun i=>i≤l.length∧∀j,j<i→((l.getD j tax0).key==x.key)=false) (fun i=>mkSt [(0,.d (taxs l)),(1,.fn 185 [.ptr 1000001 0]),(7,.d (.int .i64 l.length)),(8,.d (.int .i64 i))] [(1000001,taxC x)]) (fun i=>l.length - i) 0 ⟨by omega,by omega⟩ (by exact eAx [(1000001,1000001)]) ?_;rintro i ⟨p1,p2⟩;have e1:(i:Int).toNat=i:=Int.toNat_natCast i;conv=>whnf
 repeat' (first|((first|(refine oAx (y229 (l.getD (i:Int).toNat tax0) x) [(1000001,1000001)] ?_;rintro v rout ⟨rfl,rfl⟩;refine⟨rfl,?_⟩)|(refine br_intro ?_ ?_<;>intro hb<;>try simp only[brs]at hb)|omega|refine sAx ?_|decide|assumption)<;>conv=>whnf))
 · refine .ret _ ?_;conv=>whnf
   refine⟨[(1000001,taxC x)],⟨?_,rfl⟩,rr,trivial⟩;conv=>lhs;whnf
   congr 2
   exact(ixF_hit (by omega) p2 (by simpa using hb)).symm
 · exact⟨i+1,⟨by omega,all_step p2 (by simpa using hb)⟩,by omega,(by exact eAx [(1000001,1000001)])⟩
 · refine .ret _ ?_;conv=>whnf
   refine⟨[(1000001,taxC x)],⟨?_,rfl⟩,rr,trivial⟩;conv=>lhs;whnf
   congr 2
   have:i=l.length:=by omega
   subst this;exact(ixF_none p2).symm
theorem y309ac (l:List Tax)(hl:l.length≤2^40)(x:Tax):FSpec Tryz.prog 138 [.d (taxs l),.fn 185 [.ptr 1000001 0]] [(1000001,taxC x)] (fun v r=>v= .d (.bool (dupT l x))∧r= [(1000001,taxC x)]):=by
 refine spec_of hT (C:= []) Tryz.func138 rfl Tryz.call138 rfl rfl rfl ?_;conv=>whnf
 repeat' (first|((first|(refine oAx (y309a l hl x) [(1000001,1000001)] ?_;rintro v rout ⟨rfl,rfl⟩;refine⟨rfl,?_⟩)|(refine br_intro ?_ ?_<;>intro hb<;>try simp only[brs]at hb)|omega|refine sAx ?_|decide|assumption)<;>conv=>whnf))
 refine .ret _ ?_;conv=>whnf
 exact⟨[(1000001,taxC x)],⟨rfl,rfl⟩,rr,trivial⟩
theorem y235 (y x:Tax):FSpec Tryz.prog 139 [.agg ((taxF y).map .d),.ptr 1000001 0] [(1000001,taxC x)] (fun v r=>v= .d (.bool (y.key==x.key))∧r= [(1000001,taxC x)]):=by
 refine spec_of hT (C:= []) Tryz.func139 rfl Tryz.call139 rfl rfl rfl ?_;conv=>whnf
 refine .ret _ ?_;conv=>whnf
 exact⟨[(1000001,taxC x)],⟨rfl,rfl⟩,rr,trivial⟩
theorem y309b (l:List Tax)(hl:l.length≤2^40)(x:Tax):FSpec Tryz.prog 181 [.d (taxs l),.fn 139 [.ptr 1000001 0]] [(1000001,taxC x)] (fun v r=>v= .d (.int .i64 (ixF (fun i=>(l.getD i tax0).key==x.key) l.length))∧r= [(1000001,taxC x)]):=by
 refine spec_of hT (C:= []) Tryz.func181 rfl Tryz.call181 rfl rfl rfl ?_;conv=>whnf
 refine LoopX.rule hT (C:= []) (ι:=Nat) (fun i=>i≤l.length∧∀j,j<i→((l.getD j tax0).key==x.key)=false) (fun i=>mkSt [(0,.d (taxs l)),(1,.fn 139 [.ptr 1000001 0]),(7,.d (.int .i64 l.length)),(8,.d (.int .i64 i))] [(1000001,taxC x)]) (fun i=>l.length - i) 0 ⟨by omega,by omega⟩ (by exact eAx [(1000001,1000001)]) ?_;rintro i ⟨p1,p2⟩;have e1:(i:Int).toNat=i:=Int.toNat_natCast i;conv=>whnf
 repeat' (first|((first|(refine oAx (y235 (l.getD (i:Int).toNat tax0) x) [(1000001,1000001)] ?_;rintro v rout ⟨rfl,rfl⟩;refine⟨rfl,?_⟩)|(refine br_intro ?_ ?_<;>intro hb<;>try simp only[brs]at hb)|omega|refine sAx ?_|decide|assumption)<;>conv=>whnf))
 · refine .ret _ ?_;conv=>whnf
   refine⟨[(1000001,taxC x)],⟨?_,rfl⟩,rr,trivial⟩;conv=>lhs;whnf
   congr 2
   exact(ixF_hit (by omega) p2 (by simpa using hb)).symm
 · exact⟨i+1,⟨by omega,all_step p2 (by simpa using hb)⟩,by omega,(by exact eAx [(1000001,1000001)])⟩
 · refine .ret _ ?_;conv=>whnf
   refine⟨[(1000001,taxC x)],⟨?_,rfl⟩,rr,trivial⟩;conv=>lhs;whnf
   congr 2
   have:i=l.length:=by omega
   subst this;exact(ixF_none p2).symm
theorem y309bc (l:List Tax)(hl:l.length≤2^40)(x:Tax):FSpec Tryz.prog 138 [.d (taxs l),.fn 139 [.ptr 1000001 0]] [(1000001,taxC x)] (fun v r=>v= .d (.bool (dupT l x))∧r= [(1000001,taxC x)]):=by
 refine spec_of hT (C:= []) Tryz.func138 rfl Tryz.call138 rfl rfl rfl ?_;conv=>whnf
 repeat' (first|((first|(refine oAx (y309b l hl x) [(1000001,1000001)] ?_;rintro v rout ⟨rfl,rfl⟩;refine⟨rfl,?_⟩)|(refine br_intro ?_ ?_<;>intro hb<;>try simp only[brs]at hb)|omega|refine sAx ?_|decide|assumption)<;>conv=>whnf))
 refine .ret _ ?_;conv=>whnf
 exact⟨[(1000001,taxC x)],⟨rfl,rfl⟩,rr,trivial⟩
theorem le_takeT {l:List Tax}{i:Nat}(h:i≤l.length):SV.le (.d (.ro 4 i fun j=>rowF taxF tax0 l (0+j))) (.d (taxs (l.take i))):=
 SV.le_ro (by rw[List.length_take];omega) (fun j hj=>by
  simp only[Nat.zero_add,rowF]
  rw[List.getD_eq_getElem?_getD,List.getD_eq_getElem?_getD,List.getElem?_take_of_lt hj])
theorem taxE_hit {l:List Tax}{i:Nat}{e:Int}(h0:¬ 10<l.length)(h:i<l.length)(p:∀j,j<i→taxE l j=0)(h1:e≠0)(h2:taxE l i=e):taxsE l=e:=by
 unfold taxsE;rw[if_neg h0];exact firstAt_eq h p h1 h2
set_option maxHeartbeats 2000000 in
theorem y153 (l:List Tax)(hk:taxOk l):FSpec Tryz.prog 147 [.d (taxs l)] [] (fun x r=>x= .d (.int .i64 (taxsE l))∧r= []):=by
 refine spec_of hT (C:= []) Tryz.func147 rfl Tryz.call147 rfl rfl rfl ?_;conv=>whnf
 refine br_intro (fun h0=> ?_) (fun h0=> ?_)
 · simp at h0;conv=>whnf
   refine .ret _ ?_;conv=>whnf
   refine⟨[],⟨?_,rfl⟩,trivial⟩;conv=>lhs;whnf
   unfold taxsE;rw[if_pos (by omega)]
 simp at h0;conv=>whnf
 refine LoopX.rule hT (C:= []) (ι:=Nat) (fun i=>i≤l.length∧∀j,j<i→taxE l j=0) (fun i=>mkSt [(0,.d (taxs l)),(10,.d (taxs l)),(11,.d (.int .i64 l.length)),(12,.d (.int .i64 i))] []) (fun i=>l.length - i) 0 ⟨by omega,by omega⟩ (by exact eAx []) ?_;rintro i ⟨p1,p2⟩;have e1:(i:Int).toNat=i:=Int.toNat_natCast i;have hK:(i:Int)<l.length→taxK (l.getD (i:Int).toNat tax0):=fun hi=>hk.2 _ (getD_mem (by omega))
 have hD:=y309ac (l.take (i:Int).toNat) (by rw[List.length_take];have:=hk.1;omega) (l.getD (i:Int).toNat tax0);conv=>whnf
 repeat' (first|(refine CallX.exact (s108 _ (hK (by omega)).1) rfl rfl ?_;rotate_right;conv=>whnf)|(refine CallX.exact (s119 _ _ _) rfl rfl ?_;rotate_right;conv=>whnf)|((first|(refine CallX.of hD [(1000001,4)] rfl ⟨le_takeT (by omega),lr,trivial⟩ ⟨rr,trivial⟩ rfl rfl ?_;rintro v rout ⟨rfl,rfl⟩;refine⟨rfl,?_⟩)|(refine br_intro ?_ ?_<;>intro hb<;>try simp only[brs]at hb)|omega|refine sAx ?_|decide|assumption)<;>conv=>whnf))
 · refine .ret _ ?_;conv=>whnf
   refine⟨[],⟨?_,rfl⟩,trivial⟩;conv=>lhs;whnf
   congr 2
   exact(taxE_hit (by omega) (by omega) p2 (by decide) (by clear p2 hD hk hK;simp only[e1]at*;unfold taxE;grind)).symm
 · refine .ret _ ?_;conv=>whnf
   refine⟨[],⟨?_,rfl⟩,trivial⟩;conv=>lhs;whnf
   congr 2
   exact(taxE_hit (by omega) (by omega) p2 (by decide) (by clear p2 hD hk hK;simp only[e1]at*;unfold taxE;grind)).symm
 · refine .ret _ ?_;conv=>whnf
   refine⟨[],⟨?_,rfl⟩,trivial⟩;conv=>lhs;whnf
   congr 2
   exact(taxE_hit (by omega) (by omega) p2 (by decide) (by clear p2 hD hk hK;simp only[e1]at*;unfold taxE;grind)).symm
 · have hi:i<l.length:=by omega
   have hT1:taxE l i=txOns (l.getD (i:Int).toNat tax0).on:=by clear p2 hD hk hK;simp only[e1]at*;unfold taxE;grind
   obtain⟨X,hX⟩:∃X,X=l.getD (i:Int).toNat tax0:=⟨_,rfl⟩;have hXl:X.on.length≤2^40:=by rw[hX];exact(hK (by omega)).2
   rw[←hX]at hT1;refine LoopX.rule hT (C:= []) (ι:=Nat) (fun k=>k≤X.on.length∧∀j,j<k→txOn X.on j=0) (fun k=>mkSt [(0,.d (taxs l)),(4,.ptr 4 0),(10,.d (taxs l)),(11,.d (.int .i64 l.length)),(12,.d (.int .i64 i)),(34,.d (ints X.on)),(35,.d (.int .i64 X.on.length)),(36,.d (.int .i64 k))] [(4,taxC X)]) (fun k=>X.on.length - k) 0 ⟨by omega,by omega⟩ (by subst hX;exact(by exact eAx [(4,4)])) ?_;rintro k ⟨q1,q2⟩;have e2:(k:Int).toNat=k:=Int.toNat_natCast k;have hbad:∀e:Int,k<X.on.length→e≠0→txOn X.on k=e→taxsE l=e:=fun e h h1 h2=>taxE_hit (by omega) hi p2 h1 (by rw[hT1];exact firstAt_eq h q2 h1 h2)
   clear hD hK hk;conv=>whnf
   repeat' (first|(refine CallX.exact (s119 _ _ _) rfl rfl ?_;rotate_right;conv=>whnf)|((first|(refine br_intro ?_ ?_<;>intro hb<;>try simp only[brs]at hb)|omega|refine sAx ?_|decide|assumption)<;>conv=>whnf))
   all_goals first
    |(refine⟨k+1,⟨by omega,first_step q2 (by clear p2 q2 hbad hT1 hX;simp only[e2,toNat_pred]at*;unfold txOn;grind)⟩,by omega,(by exact eAx [(4,4)])⟩)
    | (refine .ret _ ?_
       conv=>whnf
       refine⟨[],⟨?_,rfl⟩,trivial⟩;conv=>lhs;whnf
       congr 2
       exact(hbad _ (by omega) (by decide) (by clear p2 q2 hbad hT1 hX;simp only[e2,toNat_pred]at*;unfold txOn;grind)).symm)
    | (refine⟨i+1,⟨by omega,first_step p2 ?_⟩,by omega,(by exact eAx [])⟩
       rw[hT1];have:k=X.on.length:=by omega
       subst this
       exact firstAt_zero q2)
 · refine .ret _ ?_;conv=>whnf
   refine⟨[],⟨?_,rfl⟩,trivial⟩;conv=>lhs;whnf
   congr 2
   have:i=l.length:=by omega
   subst this;unfold taxsE;rw[if_neg (by omega),firstAt_zero p2]
set_option maxHeartbeats 2000000 in
theorem y165 (l:List Tax)(hk:taxOk l):FSpec Tryz.prog 101 [.d (taxs l)] [] (fun x r=>x= .d (.int .i64 (taxsE l))∧r= []):=by
 refine spec_of hT (C:= []) Tryz.func101 rfl Tryz.call101 rfl rfl rfl ?_;conv=>whnf
 refine br_intro (fun h0=> ?_) (fun h0=> ?_)
 · simp at h0;conv=>whnf
   refine .ret _ ?_;conv=>whnf
   refine⟨[],⟨?_,rfl⟩,trivial⟩;conv=>lhs;whnf
   unfold taxsE;rw[if_pos (by omega)]
 simp at h0;conv=>whnf
 refine LoopX.rule hT (C:= []) (ι:=Nat) (fun i=>i≤l.length∧∀j,j<i→taxE l j=0) (fun i=>mkSt [(0,.d (taxs l)),(10,.d (taxs l)),(11,.d (.int .i64 l.length)),(12,.d (.int .i64 i))] []) (fun i=>l.length - i) 0 ⟨by omega,by omega⟩ (by exact eAx []) ?_;rintro i ⟨p1,p2⟩;have e1:(i:Int).toNat=i:=Int.toNat_natCast i;have hK:(i:Int)<l.length→taxK (l.getD (i:Int).toNat tax0):=fun hi=>hk.2 _ (getD_mem (by omega))
 have hD:=y309bc (l.take (i:Int).toNat) (by rw[List.length_take];have:=hk.1;omega) (l.getD (i:Int).toNat tax0);conv=>whnf
 repeat' (first|(refine CallX.exact (s21 _ (hK (by omega)).1) rfl rfl ?_;rotate_right;conv=>whnf)|(refine CallX.exact (s110 _ _ _) rfl rfl ?_;rotate_right;conv=>whnf)|((first|(refine CallX.of hD [(1000001,4)] rfl ⟨le_takeT (by omega),lr,trivial⟩ ⟨rr,trivial⟩ rfl rfl ?_;rintro v rout ⟨rfl,rfl⟩;refine⟨rfl,?_⟩)|(refine br_intro ?_ ?_<;>intro hb<;>try simp only[brs]at hb)|omega|refine sAx ?_|decide|assumption)<;>conv=>whnf))
 · refine .ret _ ?_;conv=>whnf
   refine⟨[],⟨?_,rfl⟩,trivial⟩;conv=>lhs;whnf
   congr 2
   exact(taxE_hit (by omega) (by omega) p2 (by decide) (by clear p2 hD hk hK;simp only[e1]at*;unfold taxE;grind)).symm
 · refine .ret _ ?_;conv=>whnf
   refine⟨[],⟨?_,rfl⟩,trivial⟩;conv=>lhs;whnf
   congr 2
   exact(taxE_hit (by omega) (by omega) p2 (by decide) (by clear p2 hD hk hK;simp only[e1]at*;unfold taxE;grind)).symm
 · refine .ret _ ?_;conv=>whnf
   refine⟨[],⟨?_,rfl⟩,trivial⟩;conv=>lhs;whnf
   congr 2
   exact(taxE_hit (by omega) (by omega) p2 (by decide) (by clear p2 hD hk hK;simp only[e1]at*;unfold taxE;grind)).symm
 · have hi:i<l.length:=by omega
   have hT1:taxE l i=txOns (l.getD (i:Int).toNat tax0).on:=by clear p2 hD hk hK;simp only[e1]at*;unfold taxE;grind
   obtain⟨X,hX⟩:∃X,X=l.getD (i:Int).toNat tax0:=⟨_,rfl⟩;have hXl:X.on.length≤2^40:=by rw[hX];exact(hK (by omega)).2
   rw[←hX]at hT1;refine LoopX.rule hT (C:= []) (ι:=Nat) (fun k=>k≤X.on.length∧∀j,j<k→txOn X.on j=0) (fun k=>mkSt [(0,.d (taxs l)),(4,.ptr 4 0),(10,.d (taxs l)),(11,.d (.int .i64 l.length)),(12,.d (.int .i64 i)),(34,.d (ints X.on)),(35,.d (.int .i64 X.on.length)),(36,.d (.int .i64 k))] [(4,taxC X)]) (fun k=>X.on.length - k) 0 ⟨by omega,by omega⟩ (by subst hX;exact(by exact eAx [(4,4)])) ?_;rintro k ⟨q1,q2⟩;have e2:(k:Int).toNat=k:=Int.toNat_natCast k;have hbad:∀e:Int,k<X.on.length→e≠0→txOn X.on k=e→taxsE l=e:=fun e h h1 h2=>taxE_hit (by omega) hi p2 h1 (by rw[hT1];exact firstAt_eq h q2 h1 h2)
   clear hD hK hk;conv=>whnf
   repeat' (first|(refine CallX.exact (s110 _ _ _) rfl rfl ?_;rotate_right;conv=>whnf)|((first|(refine br_intro ?_ ?_<;>intro hb<;>try simp only[brs]at hb)|omega|refine sAx ?_|decide|assumption)<;>conv=>whnf))
   all_goals first
    |(refine⟨k+1,⟨by omega,first_step q2 (by clear p2 q2 hbad hT1 hX;simp only[e2,toNat_pred]at*;unfold txOn;grind)⟩,by omega,(by exact eAx [(4,4)])⟩)
    | (refine .ret _ ?_
       conv=>whnf
       refine⟨[],⟨?_,rfl⟩,trivial⟩;conv=>lhs;whnf
       congr 2
       exact(hbad _ (by omega) (by decide) (by clear p2 q2 hbad hT1 hX;simp only[e2,toNat_pred]at*;unfold txOn;grind)).symm)
    | (refine⟨i+1,⟨by omega,first_step p2 ?_⟩,by omega,(by exact eAx [])⟩
       rw[hT1];have:k=X.on.length:=by omega
       subst this
       exact firstAt_zero q2)
 · refine .ret _ ?_;conv=>whnf
   refine⟨[],⟨?_,rfl⟩,trivial⟩;conv=>lhs;whnf
   congr 2
   have:i=l.length:=by omega
   subst this;unfold taxsE;rw[if_neg (by omega),firstAt_zero p2]
def oQTaD110_1:OL:= [(0,[]),(1,[]),(3,[0,1]),(4,[0,1]),(6,[0,1,3,4]),(7,[0,1,3,4]),(9,[0,1,3,4,6,7]),(10,[0,1,3,4,6,7]),(12,[0,1,3,4,6,7,9,10]),(13,[0,1,3,4,6,7,9,10]),(2,[3,4,6,7,9,10,12,13]),(5,[6,7,9,10,12,13]),(8,[9,10,12,13]),(11,[12,13]),(14,[]),(15,[]),(16,[]),(17,[])]
def oQTaD55_1:OL:= [(0,[]),(1,[]),(3,[0,1]),(4,[0,1]),(6,[0,1,3,4]),(7,[0,1,3,4]),(9,[0,1,3,4,6,7]),(10,[0,1,3,4,6,7]),(12,[0,1,3,4,6,7,9,10]),(13,[0,1,3,4,6,7,9,10]),(17,[0,1,3,4,6,7,9,10,12,13]),(2,[3,4,6,7,9,10,12,13,17]),(5,[6,7,9,10,12,13,17]),(8,[9,10,12,13,17]),(11,[12,13,17]),(14,[17]),(15,[17]),(16,[17])]
def oQTaD66_1:OL:= [(0,[]),(1,[]),(3,[0,1]),(4,[0,1]),(6,[0,1,3,4]),(7,[0,1,3,4]),(2,[3,4,6,7]),(5,[6,7]),(8,[]),(9,[]),(10,[]),(11,[])]
structure Tar where
 rat:List Rat
 ext:List Ext
 fe:List Fe
 cod:List Cod
 tax:List Tax
def tarL (t:Tar):List SV:= [.d (rats t.rat),.d (exts t.ext),.d (fes t.fe),.d (cods t.cod),.d (taxs t.tax)]
def tarOk (t:Tar):Prop:=ratOk t.rat∧extOk t.ext∧feOk t.fe∧codOk t.cod∧taxOk t.tax
def tarE (t:Tar):Int:=firstE [ratsE t.rat,extsE t.ext,fesE t.fe,codsE t.cod,taxsE t.tax]
structure Dea where
 free:Int
 km:Int
 eig:Int
 grc:Int
 hr:Int
 dy:Int
 dep:Int
def deaF (d:Dea):List DV:= [.int .i64 d.free,.int .i64 d.km,.int .i64 d.eig,.int .i64 d.grc,.int .i64 d.hr,.int .i64 d.dy,.int .i64 d.dep]
def deaE (d:Dea):Int:=if(0≤d.free∧d.free≤10000)∧(0≤d.km∧d.km≤100000)∧(0≤d.eig∧d.eig≤100000)∧(0≤d.grc∧d.grc≤1440)∧(0≤d.hr∧d.hr≤1000000)∧(0≤d.dy∧d.dy≤1000000)∧(0≤d.dep∧d.dep≤1000000)then 0 else 1
theorem firstE_hit:∀ {R:List Int} {i:Nat},i<R.length→(∀j,j<i→R.getD j 0=0)→R.getD i 0≠0→firstE R=R.getD i 0
 | [],i,h,_,_=>by simp at h
 |x::R,0,_,_,h=>by simp only[List.getD_cons_zero]at h ⊢;rw[firstE,if_neg h]
 | x::R,i+1,h,p,q=>by
   have h0:x=0:=p 0 (by omega);simp only[List.getD_cons_succ]at q ⊢;rw[firstE,if_pos h0];exact firstE_hit (by simpa using h) (fun j hj=>by have:=p (j+1) (by omega);simpa using this) q
theorem firstE_none:∀ {R:List Int},(∀j,j<R.length→R.getD j 0=0)→firstE R=0
 | [],_=>rfl
 | x::R,p=>by
   have h0:x=0:=p 0 (by simp);rw[firstE,if_pos h0];exact firstE_none (fun j hj=>by have:=p (j+1) (by simpa using hj);simpa using this)
theorem y81 (t:Tar)(hk:tarOk t):FSpec Tryz.prog 110 [.agg (tarL t)] [] (fun x r=>x= .d (.int .i64 (tarE t))∧r= []):=by
 refine spec_of hT (C:= []) Tryz.func110 rfl Tryz.call110 rfl rfl rfl ?_;conv=>whnf
 repeat' (first|(refine CallX.exact (y149 _ hk.1) rfl rfl ?_;rotate_right;conv=>whnf)|(refine CallX.exact (y150 _ hk.2.1) rfl rfl ?_;rotate_right;conv=>whnf)|(refine CallX.exact (y151 _ hk.2.2.1) rfl rfl ?_;rotate_right;conv=>whnf)|(refine CallX.exact (y152 _ hk.2.2.2.1) rfl rfl ?_;rotate_right;conv=>whnf)|(refine CallX.exact (y153 _ hk.2.2.2.2) rfl rfl ?_;rotate_right;conv=>whnf)|((first|refine CallX.pure (s105 [_,_,_,_,_] (by simp)) ⟨SV.le_lit (by rfl) (by rfl),trivial⟩ rfl ?_|(refine br_intro ?_ ?_<;>intro hb<;>try simp only[brs]at hb)|refine rAx hT 1 oQTaD110_1 ?_|omega|refine sAx ?_|decide|assumption)<;>conv=>whnf))
 refine .ret _ ?_;conv=>whnf
 refine⟨[],⟨?_,rfl⟩,trivial⟩;conv=>lhs;whnf
 rfl
theorem y84 (t:Tar)(hk:tarOk t):FSpec Tryz.prog 55 [.agg (tarL t)] [] (fun x r=>x= .d (.int .i64 (tarE t))∧r= []):=by
 have h1:=y161 _ hk.1;have h2:=y162 _ hk.2.1;have h3:=y163 _ hk.2.2.1;have h4:=y164 _ hk.2.2.2.1;have h5:=y165 _ hk.2.2.2.2;unfold tarE;generalize ratsE t.rat=r1 at h1 ⊢;generalize extsE t.ext=r2 at h2 ⊢;generalize fesE t.fe=r3 at h3 ⊢;generalize codsE t.cod=r4 at h4 ⊢;generalize taxsE t.tax=r5 at h5 ⊢;refine spec_of hT (C:= []) Tryz.func55 rfl Tryz.call55 rfl rfl rfl ?_;conv=>whnf
 repeat' (first|(refine CallX.exact (h1) rfl rfl ?_;rotate_right;conv=>whnf)|(refine CallX.exact (h2) rfl rfl ?_;rotate_right;conv=>whnf)|(refine CallX.exact (h3) rfl rfl ?_;rotate_right;conv=>whnf)|(refine CallX.exact (h4) rfl rfl ?_;rotate_right;conv=>whnf)|(refine CallX.exact (h5) rfl rfl ?_;rotate_right;conv=>whnf)|((first|(refine br_intro ?_ ?_<;>intro hb<;>try simp only[brs]at hb)|refine rAx hT 1 oQTaD55_1 ?_|omega|refine sAx ?_|decide|assumption)<;>conv=>whnf))
 obtain⟨R,hR⟩:∃R:List Int,R= [r1,r2,r3,r4,r5]:=⟨_,rfl⟩;have hRl:R.length=5:=by rw[hR];rfl
 rw[←hR];refine LoopX.rule hT (C:= []) (ι:=Nat) (fun i=>i≤5∧∀j,j<i→R.getD j 0=0) (fun i=>mkSt [(20,.d (ints R)),(21,.d (.int .i64 5)),(22,.d (.int .i64 i))] []) (fun i=>5 - i) 0 ⟨by omega,by omega⟩ (by subst hR;exact(by(refine Entails.mk' [] rfl rfl ?_ ?_<;>repeat' (first|exact True.intro|exact lr|exact rr|(exact SV.le_lit rfl rfl)|exact SV.le_int (by omega)|exact SV.le_any _|refine And.intro ?_ ?_));done)) ?_;rintro i ⟨p1,p2⟩;have e1:(i:Int).toNat=i:=Int.toNat_natCast i;conv=>whnf
 repeat' (first|((first|(refine br_intro ?_ ?_<;>intro hb<;>try simp only[brs]at hb)|refine rAx hT 1 oQTaD55_1 ?_|omega|refine sAx ?_|decide|assumption)<;>conv=>whnf))
 · refine .ret _ ?_;conv=>whnf
   refine⟨[],⟨?_,rfl⟩,trivial⟩;conv=>lhs;whnf
   congr 2
   exact(firstE_hit (by omega) p2 hb).symm
 · exact⟨i+1,⟨by omega,all_step p2 hb⟩,by omega,(by exact eAx [])⟩
 · refine .ret _ ?_;conv=>whnf
   refine⟨[],⟨?_,rfl⟩,trivial⟩;conv=>lhs;whnf
   congr 2
   exact(firstE_none (fun j hj=>p2 j (by omega))).symm
theorem y82 (d:Dea):FSpec Tryz.prog 111 [.agg ((deaF d).map .d)] [] (fun x r=>x= .d (.int .i64 (deaE d))∧r= []):=by
 refine spec_of hT (C:= []) Tryz.func111 rfl Tryz.call111 rfl rfl rfl ?_;conv=>whnf
 repeat' (first|(refine CallX.exact (s119 _ _ _) rfl rfl ?_;rotate_right;conv=>whnf)|(refine CallX.exact (s107 _ _) rfl rfl ?_;rotate_right;conv=>whnf)|((first|(refine br_intro ?_ ?_<;>intro hb<;>try simp only[brs]at hb)|omega|refine sAx ?_|decide|assumption)<;>conv=>whnf))
 all_goals
  refine .ret _ ?_;conv=>whnf
  refine⟨[],⟨?_,rfl⟩,trivial⟩;conv=>lhs;whnf
  congr 2
  unfold deaE;grind
theorem y85 (d:Dea):FSpec Tryz.prog 58 [.agg ((deaF d).map .d)] [] (fun x r=>x= .d (.int .i64 (deaE d))∧r= []):=by
 refine spec_of hT (C:= []) Tryz.func58 rfl Tryz.call58 rfl rfl rfl ?_;conv=>whnf
 repeat' (first|(refine CallX.exact (s110 _ _ _) rfl rfl ?_;rotate_right;conv=>whnf)|((first|(refine br_intro ?_ ?_<;>intro hb<;>try simp only[brs]at hb)|omega|refine sAx ?_|decide|assumption)<;>conv=>whnf))
 all_goals
  refine .ret _ ?_;conv=>whnf
  refine⟨[],⟨?_,rfl⟩,trivial⟩;conv=>lhs;whnf
  congr 2
  unfold deaE;grind
structure Hou where
 flt:Flt
 tar:Tar
 dea:Dea
def fltL (f:Flt):List SV:= [.d (stas f.sta),.d (clss f.cls),.d (vehs f.veh),.d (plts f.plt)]
def hou (h:Hou):SV:=.agg (fltL h.flt++tarL h.tar++(deaF h.dea).map .d)
def houOk (h:Hou):Prop:=fltOk h.flt∧tarOk h.tar
def houE (h:Hou):Int:=firstE [fltE h.flt,tarE h.tar,deaE h.dea]
theorem y20h (h:Hou)(hk:houOk h):FSpec Tryz.prog 66 [hou h] [] (fun x r=>x= .d (.int .i64 (houE h))∧r= []):=by
 refine spec_of hT (C:= []) Tryz.func66 rfl Tryz.call66 rfl rfl rfl ?_;conv=>whnf
 repeat' (first|(refine CallX.exact (z114 h.flt hk.1) rfl rfl ?_;rotate_right;conv=>whnf)|(refine CallX.exact (y81 h.tar hk.2) rfl rfl ?_;rotate_right;conv=>whnf)|(refine CallX.exact (y82 h.dea) rfl rfl ?_;rotate_right;conv=>whnf)|((first|refine CallX.pure (s105 [_,_,_] (by simp)) ⟨SV.le_lit (by rfl) (by rfl),trivial⟩ rfl ?_|(refine br_intro ?_ ?_<;>intro hb<;>try simp only[brs]at hb)|refine rAx hT 1 oQTaD66_1 ?_|omega|refine sAx ?_|decide|assumption)<;>conv=>whnf))
 refine .ret _ ?_;conv=>whnf
 refine⟨[],⟨?_,rfl⟩,trivial⟩;conv=>lhs;whnf
 rfl
end Go.Proofs.YtophabkpfpbadaaGreatDoor
namespace Go.Proofs
open Go.Shelf
def Tryz.laysGrowE_ren:Go.Shelf.Ren:=⟨fun|4=>83|n=>n,fun|22=>44|25=>52|3=>3|4=>4|9=>9|20=>20|0=>0|n=>n,fun|n=>n⟩
theorem Tryz.laysGrowE:Go.Proofs.Lays8.n4 Tryz.prog Tryz.laysGrowE_ren:={
 mixed:=by kernel_rfl
 f4:=⟨Tryz.f83.name,by decide,Tryz.func83.trans (congrArg some (by kernel_rfl))⟩
 t0:=Tryz.underlying0
 a0:=Tryz.isAgg0
 z0:=Tryz.sizeOf0
 v0:=Tryz.zeroValue0
 t3:=Tryz.underlying3
 a3:=Tryz.isAgg3
 z3:=Tryz.sizeOf3
 v3:=Tryz.zeroValue3
 t4:=Tryz.underlying4
 a4:=Tryz.isAgg4
 z4:=Tryz.sizeOf4
 v4:=Tryz.zeroValue4
 t9:=Tryz.underlying9
 a9:=Tryz.isAgg9
 z9:=Tryz.sizeOf9
 v9:=Tryz.zeroValue9
 t20:=Tryz.underlying20
 a20:=Tryz.isAgg20
 z20:=Tryz.sizeOf20
 v20:=Tryz.zeroValue20
 t22:=Tryz.underlying44
 a22:=Tryz.isAgg44
 z22:=Tryz.sizeOf44
 v22:=Tryz.zeroValue44}
end Go.Proofs
set_option maxRecDepth 20000
namespace Go.Proofs.YtophabkpfpbadaaGreatDoor
open Go Go.Eng Go.RowKit
structure Ent where
 tm:Int
 desk:List UInt8
 no:Int
 words:List UInt8
def enF:Ent→List DV:=fun x=> [.int .i64 x.tm,.str x.desk,.int .i64 x.no,.str x.words]
def en0:Ent:=⟨0,[],0,[]⟩
abbrev ents (l:List Ent):DV:=seqD 4 enF en0 l
theorem sGrowE (n:Nat)(hn:n≤2^20):FSpec Tryz.prog 83 [.d .nilsl,.d (.int .i64 n)] [] (fun y r=>y= .buf 1000001∧r= [(1000001,.buf 52 4 0 fun _=> [])]):=by
 refine FSpec.ofRow (by decide) Tryz.call83 (fun G β w vs _ hl hd=> ?_)
 match vs,hl with
 | [u,v],_=>
   have hu:=hd 0 _ _ rfl rfl;have hv:=hd 1 _ _ rfl rfl
   cases hu with|d _ _ hu=>cases hu with|nilsl=>
   cases hv with|d _ _ hv=>cases hv with|int _ _=>
   by_cases h0:n=0
   · subst h0;refine(Go.Proofs.Any8.slices_Grow_room Go.Proofs.Tryz.laysGrowE none 0 0 0 w (by decide) (by decide) (by decide) (by decide)).mono ?_;rintro e w' ⟨rfl,rfl⟩;exact⟨Below.refl _ _,_,rfl,.inl rfl⟩
   · obtain⟨_,inf,hi,hsz,hby,hz⟩:=hT.get (t:=52) (i:=(T 52).get rfl) rfl;have hg1:=grownCap_ge w (0+n) 0 52;have hg2:=grownCap_le_maxLen w (0+n) 0 52 (by simp only[maxLen];omega);refine(Go.Proofs.Any8.slices_Grow_grow Go.Proofs.Tryz.laysGrowE inf _ hi hz (by rw[hsz];decide) none 0 0 n [] w (Nat.le_refl _) (by omega) (by rw[hby];show(0+n)*48≤_;omega) (by omega) (by simp) (fun _=>rfl) (fun a h=>by cases h)).mono ?_;rintro e w' ⟨rfl,rfl⟩;refine⟨⟨rfl,rfl,rfl,?_,fun b hb=> ?_⟩,_,rfl,.inr ⟨_,_,_,rfl,Nat.le_refl _,Array.getElem?_push_size,hg2,?_⟩⟩
     · show w.heap.size≤(w.heap.push _).size;rw[Array.size_push];omega
     · show(w.heap.push _)[b]? =w.heap[b]?;rw[Array.getElem?_push];exact if_neg (by omega)
     · rw[Array.size_append,Array.size_append,size_zeroCells,size_zeroCells];show 0+(0+n - 0)*4+(grownCap w (0+n) 0 52 - (0+n))*4=grownCap w (0+n) 0 52*4;omega
def oQDRdB40_16:OL:= [(0,[]),(1,[]),(2,[]),(3,[]),(4,[3]),(5,[3]),(6,[]),(7,[]),(8,[3,4,5,6,7]),(9,[]),(10,[]),(11,[]),(12,[])]
def oQDRdB126_4:OL:= [(0,[]),(1,[0]),(2,[]),(3,[]),(4,[]),(5,[4]),(6,[4,5]),(7,[4]),(8,[4]),(9,[4,5,6,7,8]),(10,[4,5,6,7,8,9]),(11,[4,5,6,7,8,9]),(12,[4,5,6,7,8]),(13,[4,5,6,7,8]),(14,[]),(15,[]),(16,[])]
def oQDRdB126_6:OL:= [(0,[]),(1,[0]),(2,[0,1]),(3,[0,1,2]),(4,[0,1,2]),(5,rg 5),(6,rg 6),(7,rg 6),(8,rg 5),(9,rg 5),(10,rg 10),(11,rg 11),(12,rg 10),(13,rg 10),(14,[2,3,4]),(15,[2,3,4]),(16,[]),(17,[])]
def oQDRdB47_6:OL:= [(0,[]),(1,[0]),(2,[]),(3,[]),(4,rg 4),(5,rg 5),(6,rg 5),(7,rg 4),(8,rg 4),(9,[])]
def oQDRdB47_11:OL:= [(0,[]),(1,[0]),(2,[]),(3,[]),(4,rg 4),(5,rg 5),(6,rg 5),(7,rg 4),(8,rg 4),(9,[])]
def esF:List Ent→List DV:=fun l=> [ents l]
abbrev entss (l:List (List Ent)):DV:=seqD 1 esF [] l
def lensE (l:List (List Ent)):Nat:=(l.map List.length).sum
theorem lensE_take {l:List (List Ent)}{i:Nat}(h:i<l.length):lensE (l.take (i+1))=lensE (l.take i)+(l.getD i []).length:=by
 unfold lensE;rw[take_snocD (d:= []) h];simp
theorem lensE_le {l:List (List Ent)}{i:Nat}:lensE (l.take i)≤lensE l:=by
 have h:=congrArg lensE (List.take_append_drop i l);have h2:lensE (l.take i++l.drop i)=lensE (l.take i)+lensE (l.drop i):=by unfold lensE;rw[List.map_append,List.sum_append]
 omega
theorem flat_lenE (l:List (List Ent)):l.flatten.length=lensE l:=by
 unfold lensE;rw[List.length_flatten]
theorem sConcatE (l:List (List Ent))(hl:l.length≤2^20)(hn:lensE l≤2^20):
 FSpec Tryz.prog 41 [.d (entss l)] [] (fun y r=>y= .buf 6∧r= [(6,seqB 52 4 enF en0 l.flatten)]):=by
 refine spec_of hT (C:= []) Tryz.func41 rfl Tryz.call41 rfl rfl rfl ?_;conv=>whnf
 refine LoopX.rule hT (C:= []) (ι:=Nat) (fun i=>i≤l.length) (fun i=>mkSt [(0,.d (entss l)),(3,.d (.int .i64 (lensE (l.take i)))),(9,.d (entss l)),(10,.d (.int .i64 l.length)),(11,.d (.int .i64 i))] []) (fun i=>l.length - i) 0 (by omega) (by exact eAx []) ?_;rintro i p1;have e1:(i:Int).toNat=i:=Int.toNat_natCast i;have hls:lensE (l.take i)≤lensE l:=lensE_le;have hls2:i<l.length→lensE (l.take i)+(l.getD (i:Int).toNat []).length≤lensE l:=fun h=>by rw[e1,←lensE_take h];exact lensE_le
 conv=>whnf
 repeat' (first|((first|(refine br_intro ?_ ?_<;>intro hb<;>try simp only[brs]at hb)|omega|refine sAx ?_|decide|assumption)<;>conv=>whnf))
 · refine⟨i+1,by omega,by omega,Entails.mk' [] rfl rfl ⟨lr,SV.le_int ?_,lr,lr,lr,trivial⟩ trivial⟩;rw[lensE_take (by omega),e1];omega
 have hi:i=l.length:=by omega
 subst hi;rw[List.take_length]at*;refine oAx (sGrowE (lensE l) hn) [(1000001,24)] ?_;rintro x rout ⟨rfl,rfl⟩;refine⟨rfl,?_⟩;conv=>whnf
 repeat' (first|((first|(refine br_intro ?_ ?_<;>intro hb<;>try simp only[brs]at hb)|omega|refine sAx ?_|decide|assumption)<;>conv=>whnf))
 refine LoopX.rule hT (C:= []) (ι:=Nat) (fun i=>i≤l.length) (fun i=>mkSt [(6,.buf 6),(25,.d (entss l)),(26,.d (.int .i64 l.length)),(27,.d (.int .i64 i))] [(6,seqB 52 4 enF en0 (l.take i).flatten)]) (fun i=>l.length - i) 0 (by omega) ?_ ?_
 · exact Entails.mk' [(6,24)] rfl rfl ⟨lr,lr,lr,lr,trivial⟩ ⟨Res.le_buf rfl (fun i hi=>absurd hi (by omega)),trivial⟩
 rintro i p1;have e1:(i:Int).toNat=i:=Int.toNat_natCast i;have hls:lensE (l.take i)≤lensE l:=lensE_le;have hf:=flat_lenE (l.take i);have hls2:(i:Int)<l.length→(l.take i).flatten.length+(l.getD (i:Int).toNat []).length≤2^20:=fun h=>by rw[e1,hf,←lensE_take (by omega)];exact Nat.le_trans lensE_le hn
 conv=>whnf
 repeat' (first|((first|(refine br_intro ?_ ?_<;>intro hb<;>try simp only[brs]at hb)|omega|refine sAx ?_|decide|assumption)<;>conv=>whnf))
 · have e2:(l.take (i+1)).flatten=(l.take i).flatten++l.getD (i:Int).toNat []:=by rw[take_snocD (d:= []) (by omega),e1];simp
   refine⟨i+1,by omega,by omega,Entails.mk' [(6,33)] rfl rfl ⟨lr,lr,lr,lr,trivial⟩ ⟨?_,trivial⟩⟩;rw[e2];exact Res.le_appF
 · have hi:i=l.length:=by omega
   subst hi;refine .ret _ ?_;conv=>whnf
   refine⟨_,⟨rfl,rfl⟩,?_,trivial⟩;rw[List.take_length];exact rr
def e1:Ent:=⟨1,[100],1,[120]⟩
theorem sPrinted1:FSpec Tryz.prog 82 [.d (.str [120])] [] (fun x r=>x= .d (.bool true)∧r= []):=by
 refine spec_of hT (C:= []) Tryz.func82 rfl Tryz.call82 rfl rfl rfl ?_;conv=>whnf
 repeat' (first|((first|refine LoopX.run hT (C:= []) 4 rfl [0,5,6] [] (fun _ _ h=>h) (fun _ h=>h) ?_|(refine br_intro ?_ ?_<;>intro hb<;>try simp only[brs]at hb)|omega|refine sAx ?_|decide|assumption)<;>conv=>whnf))
 refine .ret _ ?_;conv=>whnf
 refine⟨[],⟨?_,rfl⟩,trivial⟩;conv=>lhs;whnf
set_option maxHeartbeats 4000000 in
theorem sDChk1:FSpec Tryz.prog 40 [.d (ents [e1])] [] (fun x r=>x= .d (.int .i64 0)∧r= []):=by
 have h108:=s108 [100] (by simp);rw[show isKeyB [100]=true from by decide]at h108;refine spec_of hT (C:= []) Tryz.func40 rfl Tryz.call40 rfl rfl rfl ?_;conv=>whnf
 repeat' (first|(refine LoopX.run hT (C:= []) 10 rfl [0,3,11,12,13] [] (fun _ _ h=>h) (fun _ h=>h) ?_;conv=>whnf)|(refine CallX.exact (s154 1) rfl rfl ?_;rotate_right;conv=>whnf)|(refine CallX.exact (h108) rfl rfl ?_;rotate_right;conv=>whnf)|(refine CallX.exact (s119 1 1 1000000) rfl rfl ?_;rotate_right;conv=>whnf)|(refine CallX.exact (sPrinted1) rfl rfl ?_;rotate_right;conv=>whnf)|((first|(refine br_intro ?_ ?_<;>intro hb<;>try simp only[brs]at hb)|refine rAx hT 16 oQDRdB40_16 ?_|omega|refine sAx ?_|decide|assumption)<;>conv=>whnf))
 refine .ret _ ?_;conv=>whnf
 refine⟨[],⟨?_,rfl⟩,trivial⟩;conv=>lhs;whnf
theorem sDChk0:FSpec Tryz.prog 40 [.d (ents [])] [] (fun x r=>x= .d (.int .i64 0)∧r= []):=by
 refine spec_of hT (C:= []) Tryz.func40 rfl Tryz.call40 rfl rfl rfl ?_;conv=>whnf
 repeat' (first|((first|refine LoopX.run hT (C:= []) 10 rfl [0,3,11,12,13] [] (fun _ _ h=>h) (fun _ h=>h) ?_|(refine br_intro ?_ ?_<;>intro hb<;>try simp only[brs]at hb)|refine rAx hT 16 oQDRdB40_16 ?_|omega|refine sAx ?_|decide|assumption)<;>conv=>whnf))
 refine .ret _ ?_;conv=>whnf
 refine⟨[],⟨?_,rfl⟩,trivial⟩;conv=>lhs;whnf
abbrev enB (l:List Ent):Res:=seqB 52 4 enF en0 l
theorem sIns1:FSpec Tryz.prog 126 [.buf 1000001,.d (.int .i64 0),.d (.int .i64 1),.fn 43 []] [(1000001,enB [e1])] (fun y r=>y= .tup []∧r= [(1000001,enB [e1])]):=by
 refine spec_of hT (C:= []) Tryz.func126 rfl Tryz.call126 rfl rfl rfl ?_;conv=>whnf
 repeat' (first|((first|refine LoopX.run hT (C:= []) 2 rfl [0,1,2,3,8] [1000001] (fun _ _ h=>h) (fun _ h=>h) ?_|refine LoopX.run hT (C:= []) 8 rfl [0,1,2,3,8,9] [1000001] (fun _ _ h=>h) (fun _ h=>h) ?_|(refine br_intro ?_ ?_<;>intro hb<;>try simp only[brs]at hb)|refine rAx hT 4 oQDRdB126_4 ?_|refine rAx hT 6 oQDRdB126_6 ?_|omega|refine sAx ?_|decide|assumption)<;>conv=>whnf))
 refine .ret _ ?_;conv=>whnf
 exact⟨_,⟨rfl,rfl⟩,rr,trivial⟩
theorem sStb1:FSpec Tryz.prog 84 [.buf 1000001,.d (.int .i64 1),.fn 43 []] [(1000001,enB [e1])] (fun y r=>y= .tup []∧r= [(1000001,enB [e1])]):=by
 refine spec_of hT (C:= []) Tryz.func84 rfl Tryz.call84 rfl rfl rfl ?_;conv=>whnf
 repeat' (first|((first|refine LoopX.run hT (C:= []) 4 rfl [0,1,2,6,7,8] [1000001] (fun _ _ h=>h) (fun _ h=>h) ?_|refine LoopX.run hT (C:= []) 14 rfl [0,1,2,6] [1000001] (fun _ _ h=>h) (fun _ h=>h) ?_|refine LoopX.run hT (C:= []) 18 rfl [0,1,2,6,7,8] [1000001] (fun _ _ h=>h) (fun _ h=>h) ?_|(refine oAx sIns1 [(1000001,1000001)] ?_;rintro x rout ⟨rfl,rfl⟩;refine⟨rfl,?_⟩)|(refine br_intro ?_ ?_<;>intro hb<;>try simp only[brs]at hb)|omega|refine sAx ?_|decide|assumption)<;>conv=>whnf))
 refine .ret _ ?_;conv=>whnf
 exact⟨_,⟨rfl,rfl⟩,rr,trivial⟩
theorem sSrt1:FSpec Tryz.prog 42 [.buf 1000001,.fn 43 []] [(1000001,enB [e1])] (fun y r=>y= .tup []∧r= [(1000001,enB [e1])]):=by
 refine spec_of hT (C:= []) Tryz.func42 rfl Tryz.call42 rfl rfl rfl ?_;conv=>whnf
 repeat' (first|((first|(refine oAx sStb1 [(1000001,1000001)] ?_;rintro x rout ⟨rfl,rfl⟩;refine⟨rfl,?_⟩)|(refine br_intro ?_ ?_<;>intro hb<;>try simp only[brs]at hb)|omega|refine sAx ?_|decide|assumption)<;>conv=>whnf))
 refine .ret _ ?_;conv=>whnf
 exact⟨_,⟨rfl,rfl⟩,rr,trivial⟩
theorem sCmp1:FSpec Tryz.prog 47 [.buf 1000001] [(1000001,enB [e1])] (fun y r=>y= .buf 1000001∧r= [(1000001,enB [e1])]):=by
 refine spec_of hT (C:= []) Tryz.func47 rfl Tryz.call47 rfl rfl rfl ?_;conv=>whnf
 repeat' (first|((first|(refine br_intro ?_ ?_<;>intro hb<;>try simp only[brs]at hb)|refine rAx hT 6 oQDRdB47_6 ?_|refine rAx hT 11 oQDRdB47_11 ?_|omega|refine sAx ?_|decide|assumption)<;>conv=>whnf))
 refine .ret _ ?_;conv=>whnf
 exact⟨_,⟨rfl,rfl⟩,rr,trivial⟩
set_option maxHeartbeats 4000000 in
theorem sMerge1:FSpec Tryz.prog 19 [.d (ents [e1]),.d (ents [])] [] (fun y r=>y= .tup [.d (ents [e1]),.d (.int .i64 0)]∧r= []):=by
 have h105:=s105 [0,0] (by simp);have hc:=sConcatE [[e1],[]] (by simp) (by decide);refine spec_of hT (C:= []) Tryz.func19 rfl Tryz.call19 rfl rfl rfl ?_;conv=>whnf
 repeat' (first|(refine CallX.exact (sDChk1) rfl rfl ?_;rotate_right;conv=>whnf)|(refine CallX.exact (sDChk0) rfl rfl ?_;rotate_right;conv=>whnf)|((first|refine CallX.pure h105 ⟨SV.le_lit (by rfl) (by rfl),trivial⟩ rfl ?_|(refine br_intro ?_ ?_<;>intro hb<;>try simp only[brs]at hb)|omega|refine sAx ?_|decide|assumption)<;>conv=>whnf))
 refine CallX.of hc [(6,24)] rfl ⟨SV.le_lit (by rfl) (by rfl),trivial⟩ trivial rfl rfl ?_;rintro x rout ⟨rfl,rfl⟩;refine⟨rfl,?_⟩;conv=>whnf
 repeat' (first|((first|(refine oAx sSrt1 [(1000001,24)] ?_;rintro x rout ⟨rfl,rfl⟩;refine⟨rfl,?_⟩)|(refine oAx sCmp1 [(1000001,24)] ?_;rintro x rout ⟨rfl,rfl⟩;refine⟨rfl,?_⟩)|refine LoopX.run hT (C:= []) 18 rfl [7,8,30,31,32] [24] (fun _ _ h=>h) (fun _ h=>h) ?_|(refine br_intro ?_ ?_<;>intro hb<;>try simp only[brs]at hb)|omega|refine sAx ?_|decide|assumption)<;>conv=>whnf))
 refine .freeze _ 24 52 4 _ _ rfl (.weak _ ?_);conv=>whnf
 exact⟨.tup [.d (ents [e1]),.d (.int .i64 0)],_,SV.le_tup ⟨lr,lr,trivial⟩,⟨rfl,rfl⟩,trivial⟩
theorem dueE_1:dueE ⟨0,0,1,0⟩ ⟨[110],[65,65],0,0,7⟩ 0=0:=by decide+kernel
theorem dueV_1:dueV ⟨0,0,1,0⟩ ⟨[110],[65,65],0,0,7⟩ 0=7:=by decide+kernel
theorem dueW_1:dueW ⟨0,0,1,0⟩ ⟨[110],[65,65],0,0,7⟩ 0= .tup [.d (.int .i64 7),.d (.int .i64 0)]:=by unfold dueW;rw[if_pos dueE_1,dueV_1]
set_option maxHeartbeats 4000000 in
theorem sReady:FSpec Tryz.prog 15 [] [] (fun x r=>x= .d (.bool true)∧r= []):=by
 have h35:=s35 3 [1,1] (by simp);rw[splitF_31,if_pos rfl,splitG_31]at h35;have hd:=sDue ⟨0,0,1,0⟩ ⟨[110],[65,65],0,0,7⟩ 0 ⟨by simp,by simp⟩;rw[dueW_1]at hd;refine spec_of hT (C:= []) Tryz.func15 rfl Tryz.call15 rfl rfl rfl ?_;conv=>whnf
 repeat' (first|(refine CallX.pure h35 ⟨lr,SV.le_lit (by rfl) (by rfl),trivial⟩ rfl ?_;conv=>whnf)|(refine CallX.exact (hd) rfl rfl ?_;rotate_right;conv=>whnf)|((first|refine CallX.pure s27t ⟨SV.le_lit rfl rfl,SV.le_lit rfl rfl,trivial⟩ rfl ?_|refine CallX.pure sMerge1 ⟨SV.le_lit rfl rfl,SV.le_nilS,trivial⟩ rfl ?_|(refine br_intro ?_ ?_<;>intro hb<;>try simp only[brs]at hb)|omega|refine sAx ?_|decide|assumption)<;>conv=>whnf))
 all_goals first
  |(exfalso;omega)
  | (refine .ret _ ?_
     conv=>whnf
     refine⟨[],⟨?_,rfl⟩,trivial⟩;conv=>lhs;whnf
     all_goals rfl)
def MovedK (n:Nat)(L:Nat→Int)(a:Int)(c:Int)(r:List (Nat×Res)):Prop:=∃b,a≤b∧b≤a+c∧r= [(1000000,strm n L b),(1000009,KX)]
end Go.Proofs.YtophabkpfpbadaaGreatDoor
namespace Go.Proofs
open Go.Shelf
def Tryz.lays106_ren:Go.Shelf.Ren:=⟨fun|106=>105|213=>141|265=>183|n=>n,fun|9=>9|3=>3|n=>n,fun|n=>n⟩
theorem Tryz.lays106:Go.Proofs.Lays.n106 Tryz.prog Tryz.lays106_ren:={
 mixed:=by kernel_rfl
 f106:=Tryz.func105.trans (congrArg some (by kernel_rfl))
 f213:=Tryz.func141.trans (congrArg some (by kernel_rfl))
 f265:=Tryz.func183.trans (congrArg some (by kernel_rfl))
 t3:=Tryz.underlying3
 a3:=Tryz.isAgg3
 z3:=Tryz.sizeOf3
 v3:=Tryz.zeroValue3
 t9:=Tryz.underlying9
 a9:=Tryz.isAgg9
 z9:=Tryz.sizeOf9
 v9:=Tryz.zeroValue9}
end Go.Proofs
set_option maxRecDepth 20000
namespace Go.Proofs.YtophabkpfpbadaaGreatDoor
open Go Go.Eng Go.RowKit
theorem cmpB_S:∀ (a b:List UInt8),Lib.compareBytes a b=cmpS a b:=by
 intro a
 induction a with
 |nil=>intro b;cases b<;>simp[Lib.compareBytes,cmpS,Op.bytesLess]
 | cons x a ih=>
   intro b
   cases b with
   |nil=>simp[Lib.compareBytes,cmpS,Op.bytesLess]
   | cons y b=>
     have:=ih b;unfold cmpS at this ⊢;simp only[Lib.compareBytes,Op.bytesLess];grind
theorem s190 (a b:List UInt8):FSpec Tryz.prog 105 [.d (.str a),.d (.str b)] [] (fun x r=>x= .d (.int .i64 (cmpS a b))∧r= []):=by
 refine FSpec.ofBelow Tryz.call105 (fun G β w vs _ hl hd=> ?_)
 match vs,hl with
 | [u,v],_=>
   have hu:=hd 0 _ _ rfl rfl;have hv:=hd 1 _ _ rfl rfl
   cases hu with|d _ _ hu=>cases hu with|str _=>
   cases hv with|d _ _ hv=>cases hv with|str _=>
   refine⟨.int .i64 (Lib.compareBytes a b),fun G β=> ?_,(Go.Proofs.Any.strings_Compare Go.Proofs.Tryz.lays106 ⟨a.toArray⟩ ⟨b.toArray⟩ w).mono ?_⟩
   · rw[←cmpB_S];exact .d _ _ (.int _ _)
   · rintro e w' ⟨he,rfl⟩;exact⟨he,Below.refl _ _⟩
end Go.Proofs.YtophabkpfpbadaaGreatDoor
namespace Go.Proofs
open Go.Shelf
end Go.Proofs
set_option maxRecDepth 20000
namespace Go.Proofs.YtophabkpfpbadaaGreatDoor
open Go Go.Eng Go.RowKit
end Go.Proofs.YtophabkpfpbadaaGreatDoor
set_option maxRecDepth 20000
namespace Go.Proofs.YtophabkpfpbadaaGreatDoor
open Go Go.Eng Go.RowKit
end Go.Proofs.YtophabkpfpbadaaGreatDoor
set_option maxRecDepth 20000
namespace Go.Proofs.YtophabkpfpbadaaGreatDoor
open Go Go.Eng Go.RowKit
def su (F:Nat→Int):Nat→Int
 |0=>0
 |n+1=>su F n+F n
theorem su_congr {F H:Nat→Int}:∀ {n:Nat},(∀k,k<n→F k=H k)→su F n=su H n
 |0,_=>rfl
 |n+1,h=>by rw[su,su,su_congr (fun k hk=>h k (by omega)),h n (by omega)]
theorem su_le {F H:Nat→Int}:∀ {n:Nat},(∀k,k<n→F k≤H k)→su F n≤su H n
 |0,_=>Int.le_refl _
 | n+1,h=>by
   have h1:=su_le (n:=n) (fun k hk=>h k (by omega));have h2:=h n (by omega);rw[su,su];omega
theorem su_sub (F H:Nat→Int):∀n,su (fun k=>F k - H k) n=su F n - su H n
 |0=>rfl
 |n+1=>by rw[su,su,su,su_sub F H n];omega
theorem su_zero {F:Nat→Int}{n:Nat}(h:∀k,k<n→F k=0):su F n=0:=by
 have:∀m,su (fun _=>0) m=0:=fun m=>by
  induction m with
  |zero=>rfl
  |succ m ih=>rw[su,ih];rfl
 rw[su_congr (H:=fun _=>0) h,this]
theorem su_nn {F:Nat→Int}{n:Nat}(h:∀k,k<n→0≤F k):0≤su F n:=by
 have:=su_le (F:=fun _=>0) (H:=F) (n:=n) h;rwa [su_zero (fun _ _=>rfl)]at this
theorem su_one {a n:Nat}{x:Int}(h:a<n):su (fun v=>if a=v then x else 0) n=x:=by
 induction n with
 |zero=>omega
 | succ n ih=>
   rw[su]
   by_cases q:a=n
   · subst q;rw[if_pos rfl,su_zero (fun k hk=>if_neg (by omega))];omega
   · rw[if_neg q,ih (by omega)];omega
structure Nw where
 K:Nat
 N:Nat
 fr:Nat→Nat
 to:Nat→Nat
 c:Nat→Int
structure Nw.Ok (G:Nw):Prop where
 fr:∀k,k<G.K→G.fr k<G.N
 to:∀k,k<G.K→G.to k<G.N
 c0:∀k,k<G.K→0≤G.c k
def Nw.net (G:Nw)(f:Nat→Int)(v:Nat):Int:=su (fun k=>(if G.fr k=v then f k else 0) - (if G.to k=v then f k else 0)) G.K
def Nw.cost (G:Nw)(f:Nat→Int):Int:=su (fun k=>f k*G.c k) G.K
theorem Nw.net_sub (G:Nw)(f g:Nat→Int)(v:Nat):G.net (fun k=>g k - f k) v=G.net g v - G.net f v:=by
 unfold Nw.net;rw[←su_sub];refine su_congr fun k _=> ?_
 by_cases a:G.fr k=v<;>by_cases b:G.to k=v<;>simp[a,b]<;>omega
def Nw.Fills (G:Nw)(have_ want:Nat→Int)(g:Nat→Int):Prop:=(∀k,k<G.K→0≤g k)∧∀v,v<G.N→- want v≤G.net g v∧G.net g v≤have_ v - want v
structure Nw.St (G:Nw)(have_ want f left lack:Nat→Int):Prop where
 f0:∀k,k<G.K→0≤f k
 left0:∀v,v<G.N→0≤left v∧left v≤have_ v
 lack0:∀v,v<G.N→0≤lack v∧lack v≤want v
 net:∀v,v<G.N→G.net f v=(have_ v - left v) - (want v - lack v)
structure Nw.Pot (G:Nw)(have_ f left p:Nat→Int):Prop where
 p0:∀v,v<G.N→0≤p v
 ar:∀k,k<G.K→p (G.to k)≤p (G.fr k)+G.c k
 tight:∀k,k<G.K→0<f k→p (G.fr k)+G.c k≤p (G.to k)
 left:∀v,v<G.N→0<left v→p v≤0
theorem Nw.cost_sub (G:Nw)(f g:Nat→Int):G.cost g - G.cost f=su (fun k=>(g k - f k)*G.c k) G.K:=by
 unfold Nw.cost;rw[←su_sub];exact su_congr fun k _=>by rw[Int.sub_mul]
def farD:Int:=1125899906842624
def upd {α:Type}(f:Nat→α)(a:Nat)(x:α):Nat→α:=fun v=>if v=a then x else f v
theorem upd_self {α:Type}{f:Nat→α}{a:Nat}{x:α}:upd f a x a=x:=if_pos rfl
theorem upd_ne {α:Type}{f:Nat→α}{a v:Nat}{x:α}(h:v≠a):upd f a x v=f v:=if_neg h
def Nw.hd (G:Nw)(e:Nat×Bool):Nat:=if e.2=true then G.fr e.1 else G.to e.1
def Nw.tl (G:Nw)(e:Nat×Bool):Nat:=if e.2=true then G.to e.1 else G.fr e.1
def Nw.cc (G:Nw)(e:Nat×Bool):Int:=if e.2=true then - G.c e.1 else G.c e.1
def Nw.Re (G:Nw)(f:Nat→Int)(e:Nat×Bool):Prop:=e.1<G.K∧(e.2=true→0<f e.1)
theorem Nw.hd_lt {G:Nw}(h:G.Ok){e:Nat×Bool}(he:e.1<G.K):G.hd e<G.N∧G.tl e<G.N:=by
 unfold Nw.hd Nw.tl;have:=h.fr _ he;have:=h.to _ he;cases e.2<;>simp<;>omega
inductive Nw.Ch (G:Nw) (b:Nat→Option (Nat×Bool)) (Q:Nat×Bool→Prop):Nat→Nat→Nat→Prop
 |root (v:Nat) (h:b v=none):Nw.Ch G b Q v 0 v
 |step (v n r:Nat) (e:Nat×Bool) (h:b v=some e) (hq:Q e) (hc:Nw.Ch G b Q (G.tl e) n r):Nw.Ch G b Q v (n+1) r
theorem Nw.Ch.uniq {G:Nw}{b:Nat→Option (Nat×Bool)}{Q Q':Nat×Bool→Prop}{v n r:Nat}(h:G.Ch b Q v n r):∀ {m s:Nat},G.Ch b Q' v m s→n=m∧r=s:=by
 induction h with
 | root v hv=>
   intro m s h2
   cases h2 with
   |root _ _=>exact⟨rfl,rfl⟩
   |step _ _ _ e he _ _=>rw[hv]at he;cases he
 | step v n r e he _ _ ih=>
   intro m s h2
   cases h2 with
   |root _ hv=>rw[hv]at he;cases he
   | step _ n' _ e' he' _ hc' =>
     rw[he]at he';cases he';obtain⟨rfl,rfl⟩:=ih hc';exact⟨rfl,rfl⟩
structure Nw.Wy (G:Nw)(f left p dist:Nat→Int)(b:Nat→Option (Nat×Bool)):Prop where
 d1:∀v,v<G.N→dist v≤farD∧(dist v<farD→p v≤dist v)
 src:∀v,v<G.N→0<left v→dist v=0∧b v=none
 root:∀v,v<G.N→b v=none→dist v<farD→0<left v
 st:∀v e,v<G.N→b v=some e→G.Re f e∧G.hd e=v∧dist (G.tl e)<farD∧dist (G.tl e)+G.cc e≤dist v∧dist v<farD
 rt:∀v,v<G.N→dist v<farD→∃n r,G.Ch b (fun _=>True) v n r
def Nw.Fin (G:Nw)(f dist:Nat→Int):Prop:=∀e,G.Re f e→dist (G.tl e)<farD→dist (G.hd e)≤dist (G.tl e)+G.cc e
theorem Nw.Wy.tight {G:Nw}{f left p dist:Nat→Int}{b:Nat→Option (Nat×Bool)}(hw:G.Wy f left p dist b)(hf:G.Fin f dist){v:Nat}{e:Nat×Bool}(hv:v<G.N)(he:b v=some e):dist v=dist (G.tl e)+G.cc e:=by
 obtain⟨s1,s2,s3,s4,s5⟩:=hw.st v e hv he;have:=hf e s1 s3;rw[s2]at this;omega
def Nw.cnt (G:Nw)(dist:Nat→Int):Int:=su (fun v=>if dist v<farD then 1 else 0) G.N
theorem Nw.net_upd (G:Nw)(g:Nat→Int){k:Nat}(hk:k<G.K)(x:Int)(v:Nat):G.net (upd g k x) v=G.net g v+(if G.fr k=v then x - g k else 0) - (if G.to k=v then x - g k else 0):=by
 have h:=G.net_sub g (upd g k x) v
 have e:G.net (fun i=>upd g k x i - g i) v=(if G.fr k=v then x - g k else 0) - (if G.to k=v then x - g k else 0):=by
  unfold Nw.net;rw[su_congr (H:=fun i=>if k=i then((if G.fr k=v then x - g k else 0) - (if G.to k=v then x - g k else 0))else 0) (fun i _=> ?_),su_one hk]
  by_cases q:i=k
  · rw[if_pos q.symm,q];simp only[upd_self]
  · rw[if_neg (show ¬k=i from fun z=>q z.symm)];simp[upd_ne q]
 omega
theorem ite_sw {a v:Nat}{x y:Int}(h:x=y):(if a=v then x else 0)=(if v=a then y else 0):=by
 subst h
 by_cases q:a=v
 · rw[if_pos q,if_pos q.symm]
 · rw[if_neg q,if_neg (fun z=>q z.symm)]
theorem Nw.cost_upd (G:Nw)(g:Nat→Int){k:Nat}(hk:k<G.K)(x:Int):G.cost (upd g k x)=G.cost g+(x - g k)*G.c k:=by
 have h:=G.cost_sub g (upd g k x)
 have e:su (fun i=>(upd g k x i - g i)*G.c i) G.K=(x - g k)*G.c k:=by
  rw[su_congr (H:=fun i=>if k=i then(x - g k)*G.c k else 0) (fun i _=> ?_),su_one hk]
  by_cases q:i=k
  · rw[if_pos q.symm,q,upd_self]
  · rw[if_neg (show ¬k=i from fun z=>q z.symm),upd_ne q];simp
 omega
structure Nw.Bot (G:Nw)(f dist:Nat→Int)(b:Nat→Option (Nat×Bool))(t:Nat)(lk:Int)(a:Nat)(m:Int):Prop where
 ch:∀m' n' r,m'≤m→G.Ch b (fun e=>e.2=true→m'≤f e.1) a n' r→∃n,G.Ch b (fun e=>e.2=true→m'≤f e.1) t n r
 aN:a<G.N
 dn:dist a<farD
 m1:1≤m∧m≤lk
theorem Nw.Bot.step {G:Nw}(hG:G.Ok){f left p dist:Nat→Int}{b:Nat→Option (Nat×Bool)}(hw:G.Wy f left p dist b){t a:Nat}{lk m:Int}(h:G.Bot f dist b t lk a m){e:Nat×Bool}(he:b a=some e):
 G.Bot f dist b t lk (G.tl e) (if e.2=true then min m (f e.1)else m):=by
 obtain⟨s1,s2,s3,s4,s5⟩:=hw.st a e h.aN he;have hm:=h.m1;have hq:=s1.2;refine⟨fun m' n' r hm' hc=> ?_,(Nw.hd_lt hG s1.1).2,s3,?_⟩
 · refine h.ch m' (n'+1) r ?_ (.step a n' r e he (fun w=> ?_) hc)
   · split at hm'<;>omega
   · rw[if_pos w]at hm';omega
 · cases w:e.2
   · simp;omega
   · have:=hq w;simp;omega
theorem Nw.Bot.done {G:Nw}{f dist:Nat→Int}{b:Nat→Option (Nat×Bool)}{t a:Nat}{lk m:Int}(h:G.Bot f dist b t lk a m)(ha:b a=none){m':Int}(hm:m'≤m):∃n,G.Ch b (fun e=>e.2=true→m'≤f e.1) t n a:=
 h.ch m' 0 a hm (.root a ha)
structure Nw.Aug (G:Nw)(f dist:Nat→Int)(b:Nat→Option (Nat×Bool))(t:Nat)(m:Int)(g:Nat→Int)(a n r:Nat):Prop where
 ch:G.Ch b (fun e=>e.2=true→m≤f e.1) a n r
 aN:a<G.N
 dn:dist a<farD
 fl:∀k,k<G.K→f k≤g k∨∃j s,G.Ch b (fun _=>True) (G.fr k) j s∧n<j∧f k≤g k+m∧m≤f k
 net:∀v,G.net g v=G.net f v - (if v=t then m else 0)+(if v=a then m else 0)
 cost:G.cost g=G.cost f+m*(dist t - dist a)
 pos:∀k,k<G.K→0<g k→0<f k∨(dist (G.fr k)<farD∧dist (G.to k)=dist (G.fr k)+G.c k)
theorem Nw.Ch.weak {G:Nw}{b:Nat→Option (Nat×Bool)}{Q:Nat×Bool→Prop}{v n r:Nat}(h:G.Ch b Q v n r):G.Ch b (fun _=>True) v n r:=by
 induction h with
 |root v hv=>exact .root v hv
 |step v n r e he _ _ ih=>exact .step v n r e he trivial ih
theorem Nw.Aug.step {G:Nw}(hG:G.Ok){f left p dist:Nat→Int}{b:Nat→Option (Nat×Bool)}(hw:G.Wy f left p dist b)(hf:G.Fin f dist){t a n r:Nat}{m:Int}(hm:0≤m){g:Nat→Int}(h:G.Aug f dist b t m g a n r){e:Nat×Bool}(he:b a=some e):
 ∃n',n=n'+1∧G.Aug f dist b t m (upd g e.1 (if e.2=true then g e.1 - m else g e.1+m)) (G.tl e) n' r:=by
 have hch:=h.ch
 cases hch with
 |root _ hv=>rw[hv]at he;cases he
 | step _ n' _ e' he' hq hc=>
   rw[he]at he';cases he';obtain⟨s1,s2,s3,s4,s5⟩:=hw.st a e h.aN he;have htg:=hw.tight hf h.aN he;have hch:=h.ch;refine⟨n',rfl,hc,(Nw.hd_lt hG s1.1).2,s3,fun k hk=> ?_,fun v=> ?_,?_,fun k hk hg=> ?_⟩
   · rcases h.fl k hk with w|⟨j,s,w1,w2,w3,w4⟩
     · by_cases q:k=e.1
       · rw[q,upd_self];rw[q]at w;cases z:e.2
         · left;simp;omega
         · right;have hz:G.hd e=G.fr e.1:=by unfold Nw.hd;rw[z];rfl
           rw[s2]at hz;refine⟨n'+1,r,?_,by omega,by simp;omega,hq z⟩;rw[←hz];exact hch.weak
       · rw[upd_ne q];exact .inl w
     · right;refine⟨j,s,w1,by omega,?_,w4⟩
       by_cases q:k=e.1
       · rw[q,upd_self];rw[q]at w1 w3;cases z:e.2
         · simp;omega
         · exfalso;have hz:G.hd e=G.fr e.1:=by unfold Nw.hd;rw[z];rfl
           rw[s2]at hz;rw[←hz]at w1;have:=hch.weak.uniq w1;omega
       · rw[upd_ne q];exact w3
   · rw[G.net_upd g s1.1,h.net v];have hhd:G.hd e=a:=s2;unfold Nw.hd at hhd;unfold Nw.tl;cases z:e.2<;>rw[z]at hhd<;>simp only[if_true,if_false,Bool.false_eq_true]at hhd ⊢
     · have c1:(if G.to e.1=v then g e.1+m - g e.1 else 0)=(if v=a then m else 0):=by rw[hhd];exact ite_sw (by omega)
       have c2:(if G.fr e.1=v then g e.1+m - g e.1 else 0)=(if v=G.fr e.1 then m else 0):=ite_sw (by omega);rw[c1,c2];omega
     · have c1:(if G.fr e.1=v then g e.1 - m - g e.1 else 0)=(if v=a then - m else 0):=by rw[hhd];exact ite_sw (by omega)
       have c2:(if G.to e.1=v then g e.1 - m - g e.1 else 0)=(if v=G.to e.1 then - m else 0):=ite_sw (by omega);rw[c1,c2]
       by_cases q:v=a<;>by_cases w:v=G.to e.1<;>simp only[q,w,if_true,if_false]<;>(try split)<;>omega
   · rw[G.cost_upd g s1.1,h.cost];have e1:(if e.2=true then g e.1 - m else g e.1+m) - g e.1=if e.2=true then - m else m:=by split<;>omega
     rw[e1,htg];unfold Nw.cc;cases z:e.2
     · simp only[if_false,Bool.false_eq_true];rw[show dist t - dist (G.tl e)=(dist t - (dist (G.tl e)+G.c e.1))+G.c e.1 by omega,Int.mul_add];omega
     · simp only[if_true];have e2:m*(dist t - dist (G.tl e))=m*(dist t - (dist (G.tl e)+ - G.c e.1)) - m*G.c e.1:=by rw[←Int.mul_sub];congr 1;omega
       rw[e2,Int.neg_mul];omega
   · by_cases q:k=e.1
     · rw[q,upd_self]at hg;rw[q];cases z:e.2
       · right;have hz:G.hd e=G.to e.1:=by unfold Nw.hd;rw[z];rfl
         have ht:G.tl e=G.fr e.1:=by unfold Nw.tl;rw[z];rfl
         have hcc:G.cc e=G.c e.1:=by unfold Nw.cc;rw[z];rfl
         rw[←hz,←ht,s2];rw[hcc]at htg;exact⟨s3,htg⟩
       · exact .inl (s1.2 z)
     · rw[upd_ne q]at hg;exact h.pos k hk hg
structure Nw.Op (G:Nw)(R:Nat×Bool→Prop)(p:Nat→Int):Prop where
 lt:∀e,R e→e.1<G.K
 le:∀e,R e→p (G.hd e)≤p (G.tl e)+G.cc e
structure Nw.Pw (G:Nw)(R:Nat×Bool→Prop)(p:Nat→Int)(P:Int)(dist:Nat→Int)(b:Nat→Option (Nat×Bool)):Prop where
 low:∀v,v<G.N→p v - P≤dist v∧dist v≤0
 root:∀v,v<G.N→b v=none→dist v=0
 st:∀v e,v<G.N→b v=some e→R e∧G.hd e=v∧dist (G.tl e)+G.cc e≤dist v
 rt:∀v,v<G.N→∃n r,G.Ch b (fun _=>True) v n r
def Nw.opn (G:Nw)(have_ f gone:Nat→Int)(e:Nat×Bool):Prop:=e.1<G.K+G.N∧(e.1<G.K→e.2=true→0<f e.1)∧(¬e.1<G.K→0<have_ (e.1 - G.K)∧(e.2=false→gone (e.1 - G.K)<have_ (e.1 - G.K))∧(e.2=true→0<gone (e.1 - G.K)))
structure Nw.Prc (G:Nw)(have_ f gone y:Nat→Int):Prop where
 ar:∀k,k<G.K→y (G.to k)≤y (G.fr k)+G.c k
 tight:∀k,k<G.K→0<f k→y (G.to k)=y (G.fr k)+G.c k
 lo:∀v,v<G.N→0<have_ v→gone v<have_ v→y v≤0
 hi:∀v,v<G.N→0<have_ v→0<gone v→0≤y v
end Go.Proofs.YtophabkpfpbadaaGreatDoor
