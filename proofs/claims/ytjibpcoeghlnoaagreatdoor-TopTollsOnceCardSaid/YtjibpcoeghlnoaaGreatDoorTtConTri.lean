/- TopTollsOnce is proved: for every input the law returns true, and its argument reads afterwards as it read before. Conditions: those of the given row alone. -/
import Derived.Test.YtjibpcoeghlnoaaGreatDoorTtConTwo
import Derived.Test.YtjibpcoeghlnoaaGreatDoorTtConOne
import Derived.Test.YtjibpcoeghlnoaaGreatDoorTtEngTwo
import Derived.Sort.OwnSortedInts
import Derived.Shelf.Sort.Plain
import Derived.Test.YtjibpcoeghlnoaaGreatDoorProg
set_option linter.unusedVariables false
set_option linter.unusedSimpArgs false
set_option maxRecDepth 20000
namespace Go.Proofs.YtjibpcoeghlnoaaGreatDoor
open Go Go.Eng
def oKFlG125_8:OL:= [(0,[]),(1,[]),(2,[]),(3,[]),(4,[]),(5,[3,4]),(6,[3,4,5]),(7,[3,4,5]),(8,[3,4]),(9,[3,4]),(10,[3,4]),(11,[]),(12,[]),(13,[])]
def okW (s:Sta)(k:Nat):Bool:=decide ((0≤s.h (2*k)∧s.h (2*k)≤s.h (2*k+1))∧s.h (2*k+1)≤1440)
def hrs (s:Sta):Bool:=(List.range 7).all (okW s)
theorem hrs_yes {s:Sta}(h:∀j,j<7→okW s j=true):hrs s=true:=by
 unfold hrs;rw[List.all_eq_true];intro j hj;exact h j (List.mem_range.1 hj)
theorem hrs_no {s:Sta}{j:Nat}(hj:j<7)(h:okW s j=false):hrs s=false:=by
 unfold hrs;rw[List.all_eq_false];exact⟨j,List.mem_range.2 hj,by simp[h]⟩
def stnE (l:List Sta)(i:Nat):Int:=
 if isKeyB (l.getD i sta0).key=false then 5 else if 0<i∧strLe (l.getD i sta0).key (l.getD (i - 1) sta0).key=true then 7 else if hrs (l.getD i sta0)=false then 1 else 0
def stasE (l:List Sta):Int:=if 50<l.length then 2 else firstAt (stnE l) l.length
def stasOk (l:List Sta):Prop:=l.length≤2^20∧∀c ∈ l,c.key.length≤2^40
set_option maxHeartbeats 4000000 in
theorem z174 (l :List Sta)(hk:stasOk l):FSpec Tryz.prog 125 [.d (stas l)] [] (fun x r=>x= .d (.int .i64 (stasE l))∧r= []):=by
 have hlen:=hk.1;refine spec_of hT (C:= []) Tryz.func125 rfl Tryz.call125 rfl rfl rfl ?_;conv=>whnf
 refine br_intro (fun h0=> ?_) (fun h0=> ?_)
 · simp at h0;conv=>whnf
   refine .ret _ ?_;conv=>whnf
   refine⟨[],⟨?_,rfl⟩,trivial⟩;conv=>lhs;whnf
   unfold stasE;rw[if_pos (by omega)]
 simp at h0;conv=>whnf
 refine LoopX.rule hT (C:= []) (ι:=Nat) (fun i=>i≤l.length∧∀j,j<i→stnE l j=0) (fun i=>mkSt [(0,.d (stas l)),(10,.d (stas l)),(11,.d (.int .i64 l.length)),(12,.d (.int .i64 i))] []) (fun i=>l.length - i) 0 ⟨by omega,by omega⟩ (by exact eAx []) ?_;rintro i ⟨p1,p2⟩;have hx:(i:Int)<l.length→(l.getD (i:Int).toNat sta0).key.length≤2^40:=fun hi=>hk.2 _ (getD_mem (by omega))
 have e1:(i:Int).toNat=i:=Int.toNat_natCast i
 have hbad:∀e:Int,i<l.length→e≠0→stnE l i=e→stasE l=e:=fun e h h1 h2=>by
  unfold stasE;rw[if_neg (by omega)];exact firstAt_eq h p2 h1 h2
 rcases Nat.lt_or_ge i l.length with hi|hi
 · obtain ⟨s,hs⟩:∃s,s=l.getD (i:Int).toNat sta0:=⟨_,rfl⟩;conv=>whnf
   repeat' (first|(refine CallX.exact (s108 _ (hx (by omega))) rfl rfl ?_;rotate_right;conv=>whnf)|((first|(refine br_intro ?_ ?_<;>intro hb<;>try simp only[brs]at hb)|refine rAx hT 8 oKFlG125_8 ?_|omega|refine sAx ?_|decide|assumption)<;>conv=>whnf))
   all_goals try(exfalso;omega)
   all_goals first
    | (refine .ret _ ?_
       conv=>whnf
       refine⟨[],⟨?_,rfl⟩,trivial⟩;conv=>lhs;whnf
       congr 2
       exact(hbad _ (by omega) (by decide) (by clear p2 hbad hk hx;simp only[e1,toNat_pred]at*;unfold stnE strLe;grind)).symm)
    | (have hok:stnE l i=if hrs s=false then 1 else 0:=by
        clear p2 hbad hk hx;simp only[e1,toNat_pred]at*;subst hs;unfold stnE strLe;grind
       refine LoopX.rule hT (C:= []) (ι:=Nat) (fun k=>k≤7∧∀j,j<k→okW s j=true) (fun k=>mkSt [(0,.d (stas l)),(10,.d (stas l)),(11,.d (.int .i64 l.length)),(12,.d (.int .i64 i)),(37,.agg (((staF s).drop 1).map .d)),(38,.d (.int .i64 k))] []) (fun k=>7 - k) 0 ⟨by omega,by omega⟩ (by rw[hs];exact(by exact eAx [])) ?_;rintro k ⟨q1,q2⟩;have hkk:k=7∨k=0∨k=1∨k=2∨k=3∨k=4∨k=5∨k=6:=by omega
       rcases hkk with rfl|rfl|rfl|rfl|rfl|rfl|rfl|rfl
       · rw[hrs_yes q2]at hok;conv=>whnf
         repeat' (first|((first|(refine br_intro ?_ ?_<;>intro hb<;>try simp only[brs]at hb)|refine rAx hT 8 oKFlG125_8 ?_|omega|refine sAx ?_|decide|assumption)<;>conv=>whnf))
         exact⟨i+1,⟨by omega,first_step p2 (by rw[hok];rfl)⟩,by omega,(by exact eAx [])⟩
       · conv =>whnf
         repeat' (first|(refine CallX.exact (s119 _ _ _) rfl rfl ?_;rotate_right;conv=>whnf)|((first|(refine br_intro ?_ ?_<;>intro hb<;>try simp only[brs]at hb)|refine rAx hT 8 oKFlG125_8 ?_|omega|refine sAx ?_|decide|assumption)<;>conv=>whnf))
         all_goals first
          | (refine .ret _ ?_
             conv=>whnf
             refine⟨[],⟨?_,rfl⟩,trivial⟩;conv=>lhs;whnf
             congr 2
             exact(hbad _ (by omega) (by decide) (by rw[hok,hrs_no (j:=0) (by omega) (by show decide ((0≤s.h 0∧s.h 0≤s.h 1)∧s.h 1≤1440)=false;rw[decide_eq_false_iff_not];omega)];rfl)).symm)
          |exact⟨1,⟨by omega,all_step (p:=fun j=>okW s j=true) (i:=0) q2 (by show decide ((0≤s.h 0∧s.h 0≤s.h 1)∧s.h 1≤1440)=true;rw[decide_eq_true_eq];omega)⟩,by omega,(by exact eAx [])⟩
       · conv =>whnf
         repeat' (first|(refine CallX.exact (s119 _ _ _) rfl rfl ?_;rotate_right;conv=>whnf)|((first|(refine br_intro ?_ ?_<;>intro hb<;>try simp only[brs]at hb)|refine rAx hT 8 oKFlG125_8 ?_|omega|refine sAx ?_|decide|assumption)<;>conv=>whnf))
         all_goals first
          | (refine .ret _ ?_
             conv=>whnf
             refine⟨[],⟨?_,rfl⟩,trivial⟩;conv=>lhs;whnf
             congr 2
             exact(hbad _ (by omega) (by decide) (by rw[hok,hrs_no (j:=1) (by omega) (by show decide ((0≤s.h 2∧s.h 2≤s.h 3)∧s.h 3≤1440)=false;rw[decide_eq_false_iff_not];omega)];rfl)).symm)
          |exact⟨2,⟨by omega,all_step (p:=fun j=>okW s j=true) (i:=1) q2 (by show decide ((0≤s.h 2∧s.h 2≤s.h 3)∧s.h 3≤1440)=true;rw[decide_eq_true_eq];omega)⟩,by omega,(by exact eAx [])⟩
       · conv =>whnf
         repeat' (first|(refine CallX.exact (s119 _ _ _) rfl rfl ?_;rotate_right;conv=>whnf)|((first|(refine br_intro ?_ ?_<;>intro hb<;>try simp only[brs]at hb)|refine rAx hT 8 oKFlG125_8 ?_|omega|refine sAx ?_|decide|assumption)<;>conv=>whnf))
         all_goals first
          | (refine .ret _ ?_
             conv=>whnf
             refine⟨[],⟨?_,rfl⟩,trivial⟩;conv=>lhs;whnf
             congr 2
             exact(hbad _ (by omega) (by decide) (by rw[hok,hrs_no (j:=2) (by omega) (by show decide ((0≤s.h 4∧s.h 4≤s.h 5)∧s.h 5≤1440)=false;rw[decide_eq_false_iff_not];omega)];rfl)).symm)
          |exact⟨3,⟨by omega,all_step (p:=fun j=>okW s j=true) (i:=2) q2 (by show decide ((0≤s.h 4∧s.h 4≤s.h 5)∧s.h 5≤1440)=true;rw[decide_eq_true_eq];omega)⟩,by omega,(by exact eAx [])⟩
       · conv =>whnf
         repeat' (first|(refine CallX.exact (s119 _ _ _) rfl rfl ?_;rotate_right;conv=>whnf)|((first|(refine br_intro ?_ ?_<;>intro hb<;>try simp only[brs]at hb)|refine rAx hT 8 oKFlG125_8 ?_|omega|refine sAx ?_|decide|assumption)<;>conv=>whnf))
         all_goals first
          | (refine .ret _ ?_
             conv=>whnf
             refine⟨[],⟨?_,rfl⟩,trivial⟩;conv=>lhs;whnf
             congr 2
             exact(hbad _ (by omega) (by decide) (by rw[hok,hrs_no (j:=3) (by omega) (by show decide ((0≤s.h 6∧s.h 6≤s.h 7)∧s.h 7≤1440)=false;rw[decide_eq_false_iff_not];omega)];rfl)).symm)
          |exact⟨4,⟨by omega,all_step (p:=fun j=>okW s j=true) (i:=3) q2 (by show decide ((0≤s.h 6∧s.h 6≤s.h 7)∧s.h 7≤1440)=true;rw[decide_eq_true_eq];omega)⟩,by omega,(by exact eAx [])⟩
       · conv =>whnf
         repeat' (first|(refine CallX.exact (s119 _ _ _) rfl rfl ?_;rotate_right;conv=>whnf)|((first|(refine br_intro ?_ ?_<;>intro hb<;>try simp only[brs]at hb)|refine rAx hT 8 oKFlG125_8 ?_|omega|refine sAx ?_|decide|assumption)<;>conv=>whnf))
         all_goals first
          | (refine .ret _ ?_
             conv=>whnf
             refine⟨[],⟨?_,rfl⟩,trivial⟩;conv=>lhs;whnf
             congr 2
             exact(hbad _ (by omega) (by decide) (by rw[hok,hrs_no (j:=4) (by omega) (by show decide ((0≤s.h 8∧s.h 8≤s.h 9)∧s.h 9≤1440)=false;rw[decide_eq_false_iff_not];omega)];rfl)).symm)
          |exact⟨5,⟨by omega,all_step (p:=fun j=>okW s j=true) (i:=4) q2 (by show decide ((0≤s.h 8∧s.h 8≤s.h 9)∧s.h 9≤1440)=true;rw[decide_eq_true_eq];omega)⟩,by omega,(by exact eAx [])⟩
       · conv =>whnf
         repeat' (first|(refine CallX.exact (s119 _ _ _) rfl rfl ?_;rotate_right;conv=>whnf)|((first|(refine br_intro ?_ ?_<;>intro hb<;>try simp only[brs]at hb)|refine rAx hT 8 oKFlG125_8 ?_|omega|refine sAx ?_|decide|assumption)<;>conv=>whnf))
         all_goals first
          | (refine .ret _ ?_
             conv=>whnf
             refine⟨[],⟨?_,rfl⟩,trivial⟩;conv=>lhs;whnf
             congr 2
             exact(hbad _ (by omega) (by decide) (by rw[hok,hrs_no (j:=5) (by omega) (by show decide ((0≤s.h 10∧s.h 10≤s.h 11)∧s.h 11≤1440)=false;rw[decide_eq_false_iff_not];omega)];rfl)).symm)
          |exact⟨6,⟨by omega,all_step (p:=fun j=>okW s j=true) (i:=5) q2 (by show decide ((0≤s.h 10∧s.h 10≤s.h 11)∧s.h 11≤1440)=true;rw[decide_eq_true_eq];omega)⟩,by omega,(by exact eAx [])⟩
       · conv =>whnf
         repeat' (first|(refine CallX.exact (s119 _ _ _) rfl rfl ?_;rotate_right;conv=>whnf)|((first|(refine br_intro ?_ ?_<;>intro hb<;>try simp only[brs]at hb)|refine rAx hT 8 oKFlG125_8 ?_|omega|refine sAx ?_|decide|assumption)<;>conv=>whnf))
         all_goals first
          | (refine .ret _ ?_
             conv=>whnf
             refine⟨[],⟨?_,rfl⟩,trivial⟩;conv=>lhs;whnf
             congr 2
             exact(hbad _ (by omega) (by decide) (by rw[hok,hrs_no (j:=6) (by omega) (by show decide ((0≤s.h 12∧s.h 12≤s.h 13)∧s.h 13≤1440)=false;rw[decide_eq_false_iff_not];omega)];rfl)).symm)
          |exact⟨7,⟨by omega,all_step (p:=fun j=>okW s j=true) (i:=6) q2 (by show decide ((0≤s.h 12∧s.h 12≤s.h 13)∧s.h 13≤1440)=true;rw[decide_eq_true_eq];omega)⟩,by omega,(by exact eAx [])⟩)
 have hil:i=l.length:=by omega
 subst hil;conv=>whnf
 repeat' (first|((first|(refine br_intro ?_ ?_<;>intro hb<;>try simp only[brs]at hb)|refine rAx hT 8 oKFlG125_8 ?_|omega|refine sAx ?_|decide|assumption)<;>conv=>whnf))
 all_goals try(exfalso;omega)
 refine .ret _ ?_;conv=>whnf
 refine⟨[],⟨?_,rfl⟩,trivial⟩;conv=>lhs;whnf
 congr 2
 unfold stasE;rw[if_neg (by omega),firstAt_zero p2]
def vehE1 (f:Flt)(i:Nat):Int:=
 if isKeyB (f.veh.getD i veh0).key=false then 5 else if 0<i∧strLe (f.veh.getD i veh0).key (f.veh.getD (i - 1) veh0).key=true then 7
 else if clIx f.cls (f.veh.getD i veh0).cls<0 then 8 else 0
def pltE1 (f:Flt)(i:Nat):Int:=
 if ¬ (0≤(f.plt.getD i plt0).frm∧(f.plt.getD i plt0).frm≤5761439)then 1 else if veIx f.veh (f.plt.getD i plt0).veh<0 then 8 else if isPlateB (f.plt.getD i plt0).plt=false then 3
 else if 0<i∧0≤pltCmp (f.plt.getD (i - 1) plt0) (f.plt.getD i plt0)then 7 else if((f.plt.take i).any (twP (f.plt.getD i plt0)))=true then 6 else 0
def fltE0 (f:Flt):Int:=firstE [stasE f.sta,clssE f.cls,if 500<f.veh.length then 2 else 0]
def fltE (f:Flt):Int:=if fltE0 f≠0 then fltE0 f else if firstAt (vehE1 f) f.veh.length≠0 then firstAt (vehE1 f) f.veh.length
 else if 1000<f.plt.length then 2 else firstAt (pltE1 f) f.plt.length
structure fltOk (f:Flt):Prop where
 sta:stasOk f.sta
 cls:clsOk f.cls
 veh:f.veh.length≤2^20∧∀v ∈ f.veh,v.key.length≤2^40∧v.cls.length≤2^40
 plt:f.plt.length≤2^20∧∀p ∈ f.plt,(-2^40≤p.frm∧p.frm≤2^40)∧p.veh.length≤2^40∧p.plt.length≤2^40
def fltC (f:Flt):Res:=.cells 31 [.d (stas f.sta),.d (clss f.cls),.d (vehs f.veh),.d (plts f.plt)]
theorem vehE_sorted {f:Flt}(h:firstAt (vehE1 f) f.veh.length=0):vehS f.veh:=by
 have h0:=firstAt_all h
 have step:∀j,j+1<f.veh.length→Op.bytesLess (f.veh.getD j veh0).key (f.veh.getD (j+1) veh0).key=true:=by
  intro j hj;have:=h0 (j+1) hj;unfold vehE1 strLe at this;simp only[Nat.add_sub_cancel]at this;have hl:=less_tri (f.veh.getD (j+1) veh0).key (f.veh.getD j veh0).key;grind
 intro i j hij hj
 induction j with
 |zero=>omega
 | succ j ih=>
   rcases Nat.lt_or_ge i j with q|q
   · exact less_trans (ih q (by omega)) (step j hj)
   · obtain rfl:i=j:=by omega
     exact step i hj
theorem z243 (f:Flt)(hl:f.veh.length≤2^20)(hs:vehS f.veh)(key:List UInt8):FSpec Tryz.prog 176 [flt f,.d (.str key)] [] (fun x r=>x= .d (.int .i64 (veIx f.veh key))∧r= []):=by
 refine spec_of hT (C:= []) Tryz.func176 rfl Tryz.call176 rfl rfl rfl ?_;conv=>whnf
 refine oAx (z286 f.veh hl hs key) [] ?_;rintro x rout ⟨⟨j,b,rfl,hj⟩,rfl⟩;refine⟨rfl,?_⟩;conv=>whnf
 repeat' (first|((first|(refine br_intro ?_ ?_<;>intro hb<;>try simp only[brs]at hb)|omega|refine sAx ?_|decide|assumption)<;>conv=>whnf))
 · refine .ret _ ?_;conv=>whnf
   refine⟨[],⟨?_,rfl⟩,trivial⟩;conv=>lhs;whnf
   congr 2
   rw[hj,if_neg (by simp[hb])]
 · refine .ret _ ?_;conv=>whnf
   refine⟨[],⟨?_,rfl⟩,trivial⟩;conv=>lhs;whnf
   congr 2
   rw[hj,if_pos hb]
def oKFlL128_14:OL:= [(0,[]),(1,[]),(2,[0,1]),(3,[0,1]),(5,rg 4),(6,rg 4),(7,[0,1,2,3,5,6]),(8,[0,1,2,3,5,6]),(10,[0,1,2,3,5,6,7,8]),(11,[0,1,2,3,5,6,7,8]),(12,[0,1,2,3,5,6,7,8,10,11]),(13,[0,1,2,3,5,6,7,8,10,11]),(4,[5,6,7,8,10,11,12,13]),(9,[10,11,12,13]),(14,[]),(15,[]),(16,[]),(17,[])]
def oKFlL128_17:OL:= [(0,[]),(1,[]),(2,[]),(3,[]),(4,[]),(5,[3,4]),(6,[]),(7,[]),(8,[]),(9,[3,4,5,6,7,8]),(10,[3,4,5,6,7,8]),(11,[]),(12,[])]
theorem pltCmp_frm {a b:Plt}(h:pltCmp a b<0):a.frm≤b.frm:=by
 unfold pltCmp at h;rw[firstE]at h;split at h
 · rename_i q;unfold cmpI at q;split at q<;>(try split at q)<;>omega
 · unfold cmpI at h;split at h<;>(try split at h)<;>omega
theorem pltE1_cmp {f:Flt}{j:Nat}(h:pltE1 f j=0)(hj:0<j):pltCmp (f.plt.getD (j - 1) plt0) (f.plt.getD j plt0)<0:=by
 unfold pltE1 at h;grind
theorem frm_mono {f:Flt}{i:Nat}(h:∀j,j≤i→0<j→pltCmp (f.plt.getD (j - 1) plt0) (f.plt.getD j plt0)<0):∀b a,a≤b→b≤i→(f.plt.getD a plt0).frm≤(f.plt.getD b plt0).frm:=by
 intro b
 induction b with
 | zero => intro a ha _;obtain rfl:a=0:=by omega
           exact Int.le_refl _
 | succ b ih=>
   intro a ha hb;rcases Nat.lt_or_ge a (b+1)with q|q
   · have h1:=ih a (by omega) (by omega);have h2:=pltCmp_frm (h (b+1) hb (by omega));rw[Nat.add_sub_cancel]at h2;omega
   · obtain rfl:a=b+1:=by omega
     exact Int.le_refl _
theorem getD_take {α:Type}{l:List α}{d:α}{i j:Nat}(h:j<i):(l.take i).getD j d=l.getD j d:=by
 rw[List.getD_eq_getElem?_getD,List.getElem?_take_of_lt h,←List.getD_eq_getElem?_getD]
theorem tw_none {f:Flt}{i m:Nat}(hi:i<f.plt.length)(hm:m≤i)(h1:∀j,m≤j→j<i→twP (f.plt.getD i plt0) (f.plt.getD j plt0)=false)
 (h2:∀j,j<m→(f.plt.getD j plt0).frm≠(f.plt.getD i plt0).frm):(f.plt.take i).any (twP (f.plt.getD i plt0))=false:=by
 rw[List.any_eq_false];intro x hx;obtain⟨j,hj,rfl⟩:=mem_getD (d:=plt0) hx;rw[List.length_take]at hj;rw[getD_take (by omega)];rcases Nat.lt_or_ge j m with q|q
 · unfold twP;simp only[decide_eq_false (h2 j q),Bool.false_and];simp
 · rw[h1 j q (by omega)];simp
theorem tw_some {f:Flt}{i k:Nat}(hi:i<f.plt.length)(hk:k<i)(h:twP (f.plt.getD i plt0) (f.plt.getD k plt0)=true):(f.plt.take i).any (twP (f.plt.getD i plt0))=true:=by
 rw[List.any_eq_true];refine⟨(f.plt.take i).getD k plt0,getD_mem (by rw[List.length_take];omega),?_⟩;rw[getD_take hk];exact h
def pltsE (f:Flt):Int:=if 1000<f.plt.length then 2 else firstAt (pltE1 f) f.plt.length
set_option maxHeartbeats 4000000 in
theorem z177 (f:Flt)(hk:fltOk f)(hs:vehS f.veh):FSpec Tryz.prog 128 [flt f] [] (fun x r=>x= .d (.int .i64 (pltsE f))∧r= []):=by
 have hlv:=hk.veh.1;have hlp:=hk.plt.1;refine spec_of hT (C:= []) Tryz.func128 rfl Tryz.call128 rfl rfl rfl ?_;conv=>whnf
 repeat' (first|((first|(refine br_intro ?_ ?_<;>intro hb<;>try simp only[brs]at hb)|refine rAx hT 14 oKFlL128_14 ?_|refine rAx hT 17 oKFlL128_17 ?_|omega|refine sAx ?_|decide|assumption)<;>conv=>whnf))
 · refine .ret _ ?_;conv=>whnf
   refine⟨[],⟨?_,rfl⟩,trivial⟩;conv=>lhs;whnf
   congr 2
   unfold pltsE;rw[if_pos (by omega)]
 refine LoopX.rule hT (C:= []) (ι:=Nat) (fun i=>i≤f.plt.length∧∀j,j<i→pltE1 f j=0) (fun i=>mkSt [(1,.ptr 1 0),(13,.d (plts f.plt)),(14,.d (.int .i64 f.plt.length)),(15,.d (.int .i64 i))] [(1,fltC f)]) (fun i=>f.plt.length - i) 0 ⟨by omega,by omega⟩ (by exact eAx [(1,1)]) ?_;rintro i ⟨p1,p2⟩;have hx:(i:Int)<f.plt.length→(-2^40≤(f.plt.getD (i:Int).toNat plt0).frm∧(f.plt.getD (i:Int).toNat plt0).frm≤2^40)∧(f.plt.getD (i:Int).toNat plt0).veh.length≤2^40∧(f.plt.getD (i:Int).toNat plt0).plt.length≤2^40:=fun hi=>hk.plt.2 _ (getD_mem (by omega))
 have e1:(i:Int).toNat=i:=Int.toNat_natCast i
 have hbad:∀e:Int,i<f.plt.length→e≠0→pltE1 f i=e→pltsE f=e:=fun e h h1 h2=>by
  unfold pltsE;rw[if_neg (by omega),firstAt_eq h p2 h1 h2]
 rcases Nat.lt_or_ge i f.plt.length with hi|hi
 · have hx2 :=hx (by omega);have hz:((i:Int) - 1).toNat=i - 1:=by omega
   conv=>whnf
   repeat' (first|(refine CallX.exact (s154 _) rfl rfl ?_;rotate_right;conv=>whnf)|(refine CallX.exact (z243 f (by omega) hs _) rfl rfl ?_;rotate_right;conv=>whnf)|(refine CallX.exact (s185 _ hx2.2.2) rfl rfl ?_;rotate_right;conv=>whnf)|(refine CallX.exact (s183 _ _) rfl rfl ?_;rotate_right;conv=>whnf)|(refine CallX.exact (s184 _ _) rfl rfl ?_;rotate_right;conv=>whnf)|((first|refine CallX.pure (s182 [cmpI (f.plt.getD ((i:Int) - 1).toNat plt0).frm (f.plt.getD (i:Int).toNat plt0).frm,cmpS (f.plt.getD ((i:Int) - 1).toNat plt0).veh (f.plt.getD (i:Int).toNat plt0).veh,cmpS (f.plt.getD ((i:Int) - 1).toNat plt0).plt (f.plt.getD (i:Int).toNat plt0).plt] (by simp)) ⟨SV.le_lit (by rfl) (by rfl),trivial⟩ rfl ?_|(refine br_intro ?_ ?_<;>intro hb<;>try simp only[brs]at hb)|refine rAx hT 14 oKFlL128_14 ?_|refine rAx hT 17 oKFlL128_17 ?_|omega|refine sAx ?_|decide|assumption)<;>conv=>whnf))
   all_goals first
    | (refine .ret _ ?_
       conv=>whnf
       refine⟨[],⟨?_,rfl⟩,trivial⟩;conv=>lhs;whnf
       congr 2
       exact(hbad _ (by omega) (by decide) (by clear p2 hbad hk hx hx2;simp only[e1,hz]at*;unfold pltE1;(try unfold pltCmp);grind)).symm)
    | (have hcmp:0<i→pltCmp (f.plt.getD (i - 1) plt0) (f.plt.getD i plt0)<0:=by
        intro _
        first
         |(exfalso;omega)
         |(clear p2 hbad hk hx hx2;simp only[e1,hz]at*;unfold pltCmp;assumption)
       have hall:∀j,j≤i→0<j→pltCmp (f.plt.getD (j - 1) plt0) (f.plt.getD j plt0)<0:=fun j h1 h2=>by
        rcases Nat.lt_or_ge j i with q|q
        · exact pltE1_cmp (p2 j q) h2
        · obtain rfl:j=i:=by omega
          exact hcmp h2
       have hz0:∀ (c:Bool),pltE1 f i=(if(f.plt.take i).any (twP (f.plt.getD i plt0))=true then 6 else 0):=by
        intro _;clear p2 hbad hk hx hx2;simp only[e1,hz]at*;unfold pltE1;grind
       have hz0:=hz0 true
       refine LoopX.rule hT (C:= []) (ι:=Nat) (fun m=>m≤i∧∀j,m≤j→j<i→(f.plt.getD j plt0).frm=(f.plt.getD i plt0).frm∧twP (f.plt.getD i plt0) (f.plt.getD j plt0)=false)
        (fun m=>mkSt [(1,.ptr 1 0),(4,.ptr 4 0),(6,.d (.int .i64 ((m:Int) - 1))),(13,.d (plts f.plt)),(14,.d (.int .i64 f.plt.length)),(15,.d (.int .i64 i))] [(1,fltC f),(4,pltC (f.plt.getD (i:Int).toNat plt0))]) (fun m=>m) i ⟨by omega,fun j h1 h2=>by omega⟩ (by exact eAx [(1,1),(4,4)]) ?_
       rintro m ⟨q1,q2⟩;have hm1:0<m→((m:Int) - 1).toNat=m - 1:=fun h=>by omega
       conv=>whnf
       repeat' (first|((first|(refine br_intro ?_ ?_<;>intro hb<;>try simp only[brs]at hb)|refine rAx hT 14 oKFlL128_14 ?_|refine rAx hT 17 oKFlL128_17 ?_|omega|refine sAx ?_|decide|assumption)<;>conv=>whnf))
       all_goals first
        | (refine .ret _ ?_
           conv=>whnf
           refine⟨[],⟨?_,rfl⟩,trivial⟩;conv=>lhs;whnf
           congr 2
           refine(hbad _ (by omega) (by decide) ?_).symm
           rw[hz0,if_pos (tw_some hi (k:=m - 1) (by omega) (by clear p2 hbad hk hx hx2 hall;simp only[e1,hm1 (by omega)]at*;unfold twP;grind))])
        |exact⟨m - 1,⟨by omega,fun j h1 h2=>by
         rcases Nat.lt_or_ge j m with r|r
         · obtain rfl:j=m - 1:=by omega
           clear p2 hbad hk hx hx2 hall;simp only[e1,hm1 (by omega)]at*;unfold twP;grind
         · exact q2 j r h2⟩,by show m - 1<m;omega,Entails.mk' [(1,1),(4,4)] rfl rfl ⟨lr,lr,SV.le_int (by omega),lr,lr,lr,trivial⟩ ⟨rr,rr,trivial⟩⟩
        |exact⟨i+1,⟨by omega,first_step p2 (by
         rw[hz0,tw_none hi q1 (fun j h1 h2=>(q2 j h1 h2).2) (fun j h1=>by
          have h2:=frm_mono hall i (m - 1) (by omega) (by omega);have h3:=frm_mono hall (m - 1) j (by omega) (by omega);clear p2 hbad hk hx hx2 hall;simp only[e1,hm1 (by omega)]at*
          omega)]
         rfl)⟩,by omega,(by exact eAx [(1,1)])⟩)
 have hil:i=f.plt.length:=by omega
 subst hil;have F2:=firstAt_zero p2;clear hbad hx p2;conv=>whnf
 repeat' (first|((first|(refine br_intro ?_ ?_<;>intro hb<;>try simp only[brs]at hb)|refine rAx hT 14 oKFlL128_14 ?_|refine rAx hT 17 oKFlL128_17 ?_|omega|refine sAx ?_|decide|assumption)<;>conv=>whnf))
 all_goals try(exfalso;omega)
 refine .ret _ ?_;conv=>whnf
 refine⟨[],⟨?_,rfl⟩,trivial⟩;conv=>lhs;whnf
 congr 2
 unfold pltsE;rw[if_neg (by omega)];exact F2.symm
def n3:List (List UInt8):= [[110,49],[110,50],[110,51]]
def oKToB129_3:OL:= [(0,[]),(1,[0]),(2,[0,1]),(3,[0,1,2]),(5,rg 4),(6,[0,1,2,3,5]),(7,[0,1,2,3,5,6]),(8,[0,1,2,3,5]),(9,[0,1,2,3,5,6,7,8]),(10,[0,1,2,3,5]),(11,rg 4),(12,rg 4),(4,[0,1,5,6,7,8,9,10,11,12]),(13,[0,1]),(14,[])]
theorem RowIn.ext {G:Hp}{w:World}{e k n m:Nat}{v:Value}{g h:Nat→List DV}(hn:n=m)(hg:∀i,i<n→g i=h i)(q:RowIn G w e k v n g):RowIn G w e k v m h:=by
 subst hn;obtain⟨xs,h1,h2,h3⟩:=q;exact⟨xs,h1,fun i hi=>by rw[←hg i hi];exact h2 i hi,fun i j x hi hx=>h3 i j x hi (by rw[hg i hi];exact hx)⟩
theorem Res.le_mapR {kk:KK}{e k:Nat}{has has':List DV→Bool}{len len':List DV→Nat}{get get':List DV→Nat→List DV}
 (h:∀key,wk [kk] key=true→has key=has' key∧len key=len' key∧∀i,i<len key→get key i=get' key i):Res.le (.mapR kk e k has len get none) (.mapR kk e k has' len' get' none):=by
 refine⟨rfl,fun G β w d=> ?_⟩;rintro⟨r,es,clock,l,h1,h2,h3,h4,h5,h6,h7,h8,h9⟩;refine⟨r,es,clock,l,h1,h2,h3,h4,h5,h6,fun key hk=> ?_,h8,h9⟩;have:=h7 key hk;obtain⟨a1,a2,a3⟩:=h key hk
 cases hf:l.find? (fun p=>keyEq key p.1)with
 | some p=>
   rw[hf]at this
   exact⟨a1 ▸ this.1,fun hh=>RowIn.ext a2 a3 (this.2 hh)⟩
 | none=>
   rw[hf]at this;exact⟨a1 ▸ this.1,a2 ▸ this.2⟩
def strK:List DV→List UInt8
 | [.str p]=>p
 |_=> []
theorem strK_wk {k:List DV}(h:wk [.str] k=true):k= [.str (strK k)]:=by
 cases k with
 |nil=>cases h
 | cons x k=>
   cases k with
   |cons y k=>simp[wk]at h
   |nil=>cases x<;>simp[wk,wk1]at h<;>rfl
theorem keyEq_str (k:List DV)(h:wk [.str] k=true)(p:List UInt8):keyEq k [.str p]=decide (strK k=p):=by
 have h1:=strK_wk h;generalize strK k=q at h1 ⊢;subst h1;simp only[keyEq,keyEq1,Bool.and_true];rw[Bool.eq_iff_iff];simp
def hldF:Hld→List DV:=fun h=> [.str h.veh,.int .i64 h.frm,.int .i64 h.til]
def hld0:Hld:=⟨[],0,0⟩
def mS (H:List UInt8→Bool)(V:List UInt8→List UInt8):Res:=.map false false [.str] [.str []] (fun k=>H (strK k)) (fun k=> [.str (V (strK k))])
def mI (H:List UInt8→Bool)(D:List UInt8→Int):Res:=.map false false [.str] [.int .i64 0] (fun k=>H (strK k)) (fun k=> [.int .i64 (D (strK k))])
def mO (o:List UInt8→List Hld):Res:=.mapR .str 225 3 (fun k=> !(o (strK k)).isEmpty) (fun k=>(o (strK k)).length) (fun k i=>rowF hldF hld0 (o (strK k)) i) none
def pH (L:List Plt)(p:List UInt8):Bool:=(findP L p).isSome
def pV (L:List Plt)(p:List UInt8):List UInt8:=match findP L p with|some e=>e.veh|none=> []
def qH (L:List Plt)(v:List UInt8):Bool:=(findV L v).isSome
def qV (L:List Plt)(v:List UInt8):List UInt8:=match findV L v with|some e=>e.plt|none=> []
theorem findP_filter (L:List Plt)(p q:List UInt8):findP (L.filter fun e=> !decide (e.plt=p)) q=if q=p then none else findP L q:=by
 unfold findP;rw[List.find?_filter]
 by_cases h:q=p
 · rw[if_pos h,List.find?_eq_none];intro e _;subst h;simp
 · rw[if_neg h];congr 1;funext e
   by_cases he:e.plt=q
   · simp[he,h]
   · simp[he]
theorem findV_some {L:List Plt}{v:List UInt8}{e:Plt}(h:findV L v=some e):e ∈ L∧e.veh=v:=
 ⟨List.mem_of_find?_eq_some h,by simpa using List.find?_some h⟩
theorem findV_filter {L:List Plt}(ha:L.Pairwise (fun p q=>clashP p q=false)){e:Plt}(he:e ∈ L)(v:List UInt8):findV (L.filter fun x=> !decide (x.plt=e.plt)) v=if v=e.veh then none else findV L v:=by
 have hc:(L.filter fun x=> !decide (x.plt=e.plt))=L.filter fun x=> !decide (x.veh=e.veh):=by
  refine List.filter_congr fun a hm=> ?_
  congr 1
  rw[decide_eq_decide];constructor
  · intro q;rw[apart_eq ha hm he (by unfold clashP;simp[q])]
  · intro q;rw[apart_eq ha hm he (by unfold clashP;simp[q])]
 rw[hc];unfold findV;rw[List.find?_filter]
 by_cases h:v=e.veh
 · rw[if_pos h,List.find?_eq_none];intro x _;subst h;simp
 · rw[if_neg h];congr 1;funext x
   by_cases hx:x.veh=v
   · simp[hx,h]
   · simp[hx]
theorem findP_snoc {L:List Plt}{x:Plt}(h:∀e ∈ L,e.plt≠x.plt)(q:List UInt8):findP (L++ [x]) q=if q=x.plt then some x else findP L q:=by
 unfold findP;rw[List.find?_append]
 by_cases hq:q=x.plt
 · rw[if_pos hq]
   have:L.find? (fun e=>decide (e.plt=q))=none:=by
    rw[List.find?_eq_none];intro e he;simp[hq,h e he]
   rw[this];simp[hq]
 · rw[if_neg hq]
   cases L.find? (fun e=>decide (e.plt=q))with
   |some y=>rfl
   |none=>simp[Ne.symm hq]
theorem findV_snoc {L:List Plt}{x:Plt}(h:∀e ∈ L,e.veh≠x.veh)(q:List UInt8):findV (L++ [x]) q=if q=x.veh then some x else findV L q:=by
 unfold findV;rw[List.find?_append]
 by_cases hq:q=x.veh
 · rw[if_pos hq]
   have:L.find? (fun e=>decide (e.veh=q))=none:=by
    rw[List.find?_eq_none];intro e he;simp[hq,h e he]
   rw[this];simp[hq]
 · rw[if_neg hq]
   cases L.find? (fun e=>decide (e.veh=q))with
   |some y=>rfl
   |none=>simp[Ne.symm hq]
def hR (s:HS)(H:List UInt8→Bool)(D:List UInt8→Int):List (Nat×Res):=
 [(1000005,.cells 103 [.mp 1000016]),(1000004,.cells 110 [.mp 1000015]),(1000003,.cells 124 [.mp 1000014]),(1000006,.cells 103 [.mp 1000017]),
   (1000016,mS (pH s.live) (pV s.live)),(1000015,mI H D),(1000014,mO s.out),(1000017,mS (qH s.live) (qV s.live))]
theorem le_delP (L:List Plt)(p:List UInt8):Res.le (.map false false [.str] [.str []] (fun q=> !keyEq q [.str p]&&pH L (strK q)) (fun q=>bif keyEq q [.str p]then [.str []]else [.str (pV L (strK q))]))
 (mS (pH (L.filter fun e=> !decide (e.plt=p))) (pV (L.filter fun e=> !decide (e.plt=p)))):=Res.le_map fun k hk=>by
 rw[keyEq_str k hk p];unfold pH pV;rw[findP_filter]
 by_cases h:strK k=p
 · simp[h]
 · simp[h]
theorem le_delQ {L:List Plt}(ha:L.Pairwise (fun p q=>clashP p q=false)){e:Plt}(he:e ∈ L):Res.le (.map false false [.str] [.str []] (fun q=> !keyEq q [.str e.veh]&&qH L (strK q)) (fun q=>bif keyEq q [.str e.veh]then [.str []]else [.str (qV L (strK q))]))
 (mS (qH (L.filter fun x=> !decide (x.plt=e.plt))) (qV (L.filter fun x=> !decide (x.plt=e.plt)))):=Res.le_map fun k hk=>by
 rw[keyEq_str k hk e.veh];unfold qH qV;rw[findV_filter ha he]
 by_cases h:strK k=e.veh
 · simp[h]
 · simp[h]
theorem le_back (o o':List UInt8→List Hld)(p:List UInt8)(x:Hld)(h:Nat→List DV)(hx:h 0=hldF x)(ho:∀q,o' q=if q=p then o q++ [x]else o q):
 Res.le (.mapR .str 225 3 (fun q=>keyEq q [.str p]|| !(o (strK q)).isEmpty) (fun q=>bif keyEq q [.str p]then(o p).length+1 else(o (strK q)).length)
  (fun q=>bif keyEq q [.str p]then appGet (o p).length (rowF hldF hld0 (o p)) h else fun i=>rowF hldF hld0 (o (strK q)) i) none) (mO o'):=Res.le_mapR fun k hk=>by
 rw[keyEq_str k hk p,ho]
 by_cases hq:strK k=p
 · rw[if_pos hq,hq];simp only[decide_true,cond_true,Bool.true_or];refine⟨by simp,by simp,fun i hi=> ?_⟩;exact rows_snocF hx i hi
 · rw[if_neg hq];simp[hq]
set_option maxHeartbeats 2000000 in
theorem z204 (s:HS)(H:List UInt8→Bool)(D:List UInt8→Int)(ha:s.live.Pairwise (fun p q=>clashP p q=false))(hD:∀e ∈ s.live,D e.plt=e.frm)(p:List UInt8)(t:Int)(hlen:(s.out p).length≤2^20):
 FSpec Tryz.prog 129 [.d (.str p),.d (.int .i64 t),.ptr 1000005 0,.ptr 1000004 0,.ptr 1000003 0,.ptr 1000006 0] (hR s H D) (fun y r=>y= .tup []∧r=hR (hdrop s p t) H D):=by
 have hl':(s.out (strK [.str p])).length≤2^20:=hlen
 cases hf:findP s.live p with
 | none=>
   have e1:hdrop s p t=s:=by unfold hdrop;rw[hf]
   have e2:pH s.live (strK [.str p])=false:=by show(findP s.live p).isSome=false;rw[hf];rfl
   rw[e1];refine spec_of hT (C:= []) Tryz.func129 rfl Tryz.call129 rfl rfl rfl ?_;conv=>whnf
   repeat' (first|((first|refine⟨rfl,?_⟩|(refine br_intro ?_ ?_<;>intro hb<;>try simp only[brs]at hb)|refine RegX.rule (id:=3) hT rfl [27] oKToB129_3 (by decide+kernel) ?_|omega|refine sAx ?_|decide|assumption)<;>conv=>whnf))
   all_goals try(have q:=‹pH s.live (strK [DV.str p])=true›;rw[e2]at q;cases q)
   refine .ret _ ?_;conv=>whnf
   exact⟨hR s H D,⟨rfl,rfl⟩,rr,rr,rr,rr,rr,rr,rr,rr,trivial⟩
 | some e=>
   obtain⟨he1,he2⟩:=findP_some hf;have e2:pH s.live (strK [.str p])=true:=by show(findP s.live p).isSome=true;rw[hf];rfl
   have e3:pV s.live (strK [.str p])=e.veh:=by show(match findP s.live p with|some e=>e.veh|none=> [])=e.veh;rw[hf]
   have e4:D (strK [.str p])=e.frm:=by show D p=e.frm;rw[←he2];exact hD e he1
   have e5:(hdrop s p t).live=s.live.filter fun e=> !decide (e.plt=p):=hdrop_live s p t
   have e6:∀q,(hdrop s p t).out q=if q=p∧e.frm<t then s.out q++ [⟨e.veh,e.frm,t⟩]else s.out q:=by intro q;unfold hdrop;rw[hf]
   have hdel:=le_delQ ha he1;rw[he2,←e5,←e3]at hdel;have hdelP:=le_delP s.live p;rw[←e5]at hdelP;refine spec_of hT (C:= []) Tryz.func129 rfl Tryz.call129 rfl rfl rfl ?_;conv=>whnf
   repeat' (first|((first|refine⟨rfl,?_⟩|(refine br_intro ?_ ?_<;>intro hb<;>try simp only[brs]at hb)|refine RegX.rule (id:=3) hT rfl [27] oKToB129_3 (by decide+kernel) ?_|omega|refine sAx ?_|decide|assumption)<;>conv=>whnf))
   all_goals try(have q:=‹pH s.live (strK [DV.str p])=false›;rw[e2]at q;cases q)
   · refine .weak _ ?_;conv=>whnf
     refine⟨.tup [],hR (hdrop s p t) H D,lr,⟨rfl,rfl⟩,rr,rr,rr,rr,hdelP,rr,?_,hdel,trivial⟩;have hft:e.frm<t:=by rw[←e4];exact hb
     exact le_back s.out _ p ⟨pV s.live (strK [.str p]),D (strK [.str p]),t⟩ _ rfl (fun q=>by
      rw[e6,e3,e4]
      by_cases hq:q=p
      · rw[if_pos ⟨hq,hft⟩,if_pos hq]
      · rw[if_neg (fun c=>hq c.1),if_neg hq])
   · refine .weak _ ?_;conv=>whnf
     have hft:¬e.frm<t:=by rw[←e4];omega
     have ho:(hdrop s p t).out=s.out:=by funext q;rw[e6,if_neg (fun c=>hft c.2)]
     refine⟨.tup [],hR (hdrop s p t) H D,lr,⟨rfl,rfl⟩,rr,rr,rr,rr,hdelP,rr,?_,hdel,trivial⟩;rw[show mO (hdrop s p t).out=mO s.out from by rw[ho]];exact rr
def oKToC83_13:OL:= [(0,[]),(1,[0]),(2,[0]),(3,[0,1,2]),(4,rg 4),(5,rg 4),(6,rg 6),(7,rg 7),(8,rg 7),(9,rg 9),(10,rg 9),(11,rg 11),(12,rg 11),(13,rg 13),(14,rg 13),(15,[3,4,5,6,7,8,11,12,13,14]),(16,[6,7,8,13,14]),(17,[])]
theorem srtP_take {l:List Plt}(h:srtP l)(i:Nat):srtP (l.take i):=List.Pairwise.sublist (List.take_sublist i l) h
theorem hall_take {l:List Plt}{i:Nat}(hi:i<l.length):hall (l.take (i+1))=hstep (hall (l.take i)) (l.getD i plt0):=by
 rw[take_snocD (d:=plt0) hi,hall_snoc]
theorem hdrop_len (s:HS)(p:List UInt8)(t:Int)(q:List UInt8):((hdrop s p t).out q).length+(hdrop s p t).live.length≤(s.out q).length+s.live.length:=by
 rw[hdrop_live];unfold hdrop
 cases hf:findP s.live p with
 |none=>simp only;have:=List.length_filter_le (fun e=> !decide (e.plt=p)) s.live;omega
 | some e=>
   obtain⟨h1,h2⟩:=findP_some hf
   have h3:(s.live.filter fun e=> !decide (e.plt=p)).length<s.live.length:=by
    have:=List.length_filter_lt_length_iff_exists.2 (⟨e,h1,by simp[h2]⟩:∃x ∈ s.live,¬ (!decide (x.plt=p))=true);exact this
   simp only;split
   · rw[List.length_append,List.length_singleton];omega
   · omega
theorem hmid_len (s:HS)(x:Plt)(q:List UInt8):((hmid s x).out q).length+(hmid s x).live.length≤(s.out q).length+s.live.length:=by
 unfold hmid
 cases findV s.live x.veh with
 |none=>exact Nat.le_refl _
 |some e=>exact hdrop_len s e.plt x.frm q
theorem hstep_len (s:HS)(x:Plt)(q:List UInt8):((hstep s x).out q).length+(hstep s x).live.length≤(s.out q).length+s.live.length+1:=by
 have h1:=hmid_len s x q;have h2:=hdrop_len (hmid s x) x.plt x.frm q;show((hdrop (hmid s x) x.plt x.frm).out q).length+((hdrop (hmid s x) x.plt x.frm).live++ [x]).length≤_;rw[List.length_append,List.length_singleton];omega
theorem hall_len (l:List Plt):∀q,((hall l).out q).length+(hall l).live.length≤l.length:=by
 refine snoc_ind (P:=fun l=>∀q,((hall l).out q).length+(hall l).live.length≤l.length) (fun q=>Nat.le_refl _) ?_ l;intro l x ih q;rw[hall_snoc,List.length_append,List.length_singleton];have:=hstep_len (hall l) x q;have:=ih q;omega
theorem hmid_apart {s:HS}(ha:s.live.Pairwise (fun p q=>clashP p q=false))(x:Plt):(hmid s x).live.Pairwise (fun p q=>clashP p q=false):=by
 rw[hmid_live ha];exact ha.filter _
theorem hdrop_apart {s:HS}(ha:s.live.Pairwise (fun p q=>clashP p q=false))(p:List UInt8)(t:Int):(hdrop s p t).live.Pairwise (fun p q=>clashP p q=false):=by
 rw[hdrop_live];exact ha.filter _
theorem hdrop_sub {s:HS}{p:List UInt8}{t:Int}{e:Plt}(h:e ∈ (hdrop s p t).live):e ∈ s.live∧e.plt≠p:=by
 rw[hdrop_live,List.mem_filter]at h;exact⟨h.1,by simpa using h.2⟩
theorem hmid_sub {s:HS}(ha:s.live.Pairwise (fun p q=>clashP p q=false)){x e:Plt}(h:e ∈ (hmid s x).live):e ∈ s.live∧e.veh≠x.veh:=by
 rw[hmid_live ha,List.mem_filter]at h;exact⟨h.1,by simpa using h.2⟩
def hN (s:HS)(H:List UInt8→Bool)(D:List UInt8→Int):List (Nat×Res):=
 [(5,.cells 103 [.mp 16]),(4,.cells 110 [.mp 15]),(3,.cells 124 [.mp 14]),(6,.cells 103 [.mp 17]),(16,mS (pH s.live) (pV s.live)),(15,mI H D),(14,mO s.out),(17,mS (qH s.live) (qV s.live))]
theorem le_updP {L:List Plt}{x:Plt}(h:∀e ∈ L,e.plt≠x.plt):Res.le (.map false false [.str] [.str []] (fun q=>keyEq q [.str x.plt]||pH L (strK q)) (fun q=>bif keyEq q [.str x.plt]then [.str x.veh]else [.str (pV L (strK q))]))
 (mS (pH (L++ [x])) (pV (L++ [x]))):=Res.le_map fun k hk=>by
 rw[keyEq_str k hk x.plt];unfold pH pV;rw[findP_snoc h]
 by_cases hq:strK k=x.plt
 · simp[hq]
 · simp[hq]
theorem le_updQ {L:List Plt}{x:Plt}(h:∀e ∈ L,e.veh≠x.veh):Res.le (.map false false [.str] [.str []] (fun q=>keyEq q [.str x.veh]||qH L (strK q)) (fun q=>bif keyEq q [.str x.veh]then [.str x.plt]else [.str (qV L (strK q))]))
 (mS (qH (L++ [x])) (qV (L++ [x]))):=Res.le_map fun k hk=>by
 rw[keyEq_str k hk x.veh];unfold qH qV;rw[findV_snoc h]
 by_cases hq:strK k=x.veh
 · simp[hq]
 · simp[hq]
theorem le_updD (H:List UInt8→Bool)(D:List UInt8→Int)(p:List UInt8)(t:Int):Res.le (.map false false [.str] [.int .i64 0] (fun q=>keyEq q [.str p]||H (strK q)) (fun q=>bif keyEq q [.str p]then [.int .i64 t]else [.int .i64 (D (strK q))]))
 (mI (fun q=>decide (q=p)||H q) (fun q=>if q=p then t else D q)):=Res.le_map fun k hk=>by
 rw[keyEq_str k hk p]
 by_cases hq:strK k=p
 · simp[hq]
 · simp[hq]
set_option maxHeartbeats 4000000 in
theorem z151 (f:Flt)(hl:f.plt.length≤1000)(hs:srtP f.plt):FSpec Tryz.prog 83 [flt f] [] (fun y r=>y= .mp 14∧r= [(14,mO (hend f.plt).out)]):=by
 refine spec_of hT (C:= []) Tryz.func83 rfl Tryz.call83 rfl rfl rfl ?_;conv=>whnf
 repeat' (first|((first|(refine br_intro ?_ ?_<;>intro hb<;>try simp only[brs]at hb)|refine rAx hT 13 oKToC83_13 ?_|omega|refine sAx ?_|decide|assumption)<;>conv=>whnf))
 refine LoopX.rule hT (C:= []) (ι:=Nat×(List UInt8→Bool)×(List UInt8→Int)) (fun(i,_,D)=>i≤f.plt.length∧∀e ∈ (hall (f.plt.take i)).live,D e.plt=e.frm)
  (fun(i,H,D)=>mkSt [(1,.ptr 1 0),(3,.ptr 3 0),(4,.ptr 4 0),(5,.ptr 5 0),(6,.ptr 6 0),(7,.fn 129 [.ptr 5 0,.ptr 4 0,.ptr 3 0,.ptr 6 0]),(20,.d (plts f.plt)),(21,.d (.int .i64 f.plt.length)),(22,.d (.int .i64 i))] ((1,fltC f)::hN (hall (f.plt.take i)) H D))
  (fun(i,_,_)=>f.plt.length - i) (0,(fun _=>false),fun _=>0) ⟨by simp,fun e he=>(List.not_mem_nil he).elim⟩ ?_ ?_
 · refine Entails.trans (Entails.toR 14 225 3 rfl (by decide)) ?_
   exact Entails.mk' rq0 rfl rfl ⟨lr,lr,lr,lr,lr,lr,lr,lr,lr,trivial⟩
    ⟨rr,rr,rr,rr,rr,Res.le_map (fun k hk=>⟨rfl,rfl⟩),Res.le_map (fun k hk=>⟨rfl,rfl⟩),Res.le_mapR (fun k hk=>⟨rfl,rfl,fun i hi=>absurd hi (Nat.not_lt_zero _)⟩),Res.le_map (fun k hk=>⟨rfl,rfl⟩),trivial⟩
 rintro⟨i,H,D⟩ ⟨p1,hD⟩;have p1:i≤f.plt.length:=p1;have hD:∀e ∈ (hall (f.plt.take i)).live,D e.plt=e.frm:=hD;have e1:(i:Int).toNat=i:=Int.toNat_natCast i;have hlive:=(hall_inv (f.plt.take i) (srtP_take hs i)).1;have ha:(hall (f.plt.take i)).live.Pairwise (fun p q=>clashP p q=false):=by rw[hlive];exact liv_apart _
 have hlen:∀q,((hall (f.plt.take i)).out q).length≤1000:=fun q=>by
  have:=hall_len (f.plt.take i) q;rw[List.length_take]at this;omega
 rcases Nat.lt_or_ge i f.plt.length with hi|hi
 · have hsn:=hall_take hi;obtain⟨S,hS⟩:∃S,S=hall (f.plt.take i):=⟨_,rfl⟩;rw[←hS]at ha hlen hD hsn;have ha1:=hmid_apart ha (f.plt.getD (i:Int).toNat plt0);have ha2:=hdrop_apart ha1 (f.plt.getD (i:Int).toNat plt0).plt (f.plt.getD (i:Int).toNat plt0).frm;have hD1:∀e ∈ (hmid S (f.plt.getD (i:Int).toNat plt0)).live,D e.plt=e.frm:=fun e he=>hD e (hmid_sub ha he).1
   have hlen1:∀q,((hmid S (f.plt.getD (i:Int).toNat plt0)).out q).length≤2^20:=fun q=>by
    have h1:=hall_len (f.plt.take i) q;have h2:=hmid_len S (f.plt.getD (i:Int).toNat plt0) q;rw[←hS,List.length_take]at h1;omega
   obtain⟨S2,hS2⟩:∃S2,S2=hdrop (hmid S (f.plt.getD (i:Int).toNat plt0)) (f.plt.getD (i:Int).toNat plt0).plt (f.plt.getD (i:Int).toNat plt0).frm:=⟨_,rfl⟩;have hP:∀e ∈ S2.live,e.plt≠(f.plt.getD (i:Int).toNat plt0).plt:=fun e he=>(hdrop_sub (by rw[hS2]at he;exact he)).2
   have hQ:∀e ∈ S2.live,e.veh≠(f.plt.getD (i:Int).toNat plt0).veh:=fun e he=>(hmid_sub ha (hdrop_sub (by rw[hS2]at he;exact he)).1).2
   have hst:hall (f.plt.take (i+1))=⟨S2.live++ [(f.plt.getD (i:Int).toNat plt0)],S2.out⟩:=by rw[hsn,hS2,e1];rfl
   have hD3:∀e ∈ (hall (f.plt.take (i+1))).live,(if e.plt=(f.plt.getD (i:Int).toNat plt0).plt then(f.plt.getD (i:Int).toNat plt0).frm else D e.plt)=e.frm:=fun e he=>by
    rw[hst]at he;rcases List.mem_append.1 he with q|q
    · rw[if_neg (hP e q)];exact hD1 e (hdrop_sub (by rw[hS2]at q;exact q)).1
    · rw[List.mem_singleton]at q;rw[q,if_pos rfl]
   cases hf:findV S.live (f.plt.getD (i:Int).toNat plt0).veh with
   | none=>
     have hm:hmid S (f.plt.getD (i:Int).toNat plt0)=S:=by unfold hmid;rw[hf]
     rw[hm]at hS2;have e2:qH S.live (strK [.str (f.plt.getD (i:Int).toNat plt0).veh])=false:=by show(findV S.live (f.plt.getD (i:Int).toNat plt0).veh).isSome=false;rw[hf];rfl
     show wpx _ _ _ _ _ (mkSt _ ((1,fltC f)::hN (hall (f.plt.take i)) H D));rw[←hS];conv=>whnf
     repeat' (first|((first|(refine CallX.of (z204 S H D ha hD (f.plt.getD (i:Int).toNat plt0).plt (f.plt.getD (i:Int).toNat plt0).frm (Nat.le_trans (hlen _) (by decide))) rq1 rfl ⟨lr,lr,lr,lr,lr,lr,trivial⟩ ⟨rr,rr,rr,rr,rr,rr,rr,rr,trivial⟩ rfl rfl ?_;rintro y rout ⟨rfl,rfl⟩;refine⟨rfl,?_⟩)|(refine br_intro ?_ ?_<;>intro hb<;>try simp only[brs]at hb)|refine rAx hT 13 oKToC83_13 ?_|omega|refine sAx ?_|decide|assumption)<;>conv=>whnf))
     all_goals try(have q:=‹qH S.live (strK [DV.str (f.plt.getD (i:Int).toNat plt0).veh])=true›;rw[e2]at q;cases q)
     all_goals try(exfalso;omega)
     rw[←hS2]
     exact⟨(i+1,(fun q=>decide (q=(f.plt.getD (i:Int).toNat plt0).plt)||H q),fun q=>if q=(f.plt.getD (i:Int).toNat plt0).plt then(f.plt.getD (i:Int).toNat plt0).frm else D q),⟨by omega,hD3⟩,by show f.plt.length - (i+1)<f.plt.length - i;omega,
      Entails.mk' rq0 rfl rfl ⟨lr,lr,lr,lr,lr,lr,lr,lr,lr,trivial⟩
       ⟨rr,rr,rr,rr,rr,(by rw[hst];exact le_updP hP),le_updD H D (f.plt.getD (i:Int).toNat plt0).plt (f.plt.getD (i:Int).toNat plt0).frm,(by rw[hst];exact rr),(by rw[hst];exact le_updQ hQ),trivial⟩⟩
   | some e=>
     obtain⟨he1,he2⟩:=findV_some hf;have hm:hmid S (f.plt.getD (i:Int).toNat plt0)=hdrop S e.plt (f.plt.getD (i:Int).toNat plt0).frm:=by unfold hmid;rw[hf]
     have e2:qH S.live (strK [.str (f.plt.getD (i:Int).toNat plt0).veh])=true:=by show(findV S.live (f.plt.getD (i:Int).toNat plt0).veh).isSome=true;rw[hf];rfl
     have e3:(qV S.live (strK [.str (f.plt.getD (i:Int).toNat plt0).veh]))=e.plt:=by show(match findV S.live (f.plt.getD (i:Int).toNat plt0).veh with|some e=>e.plt|none=> [])=e.plt;rw[hf]
     rw[←e3]at hm;rw[hm]at hS2 ha1 hD1 hlen1;show wpx _ _ _ _ _ (mkSt _ ((1,fltC f)::hN (hall (f.plt.take i)) H D));rw[←hS];conv=>whnf
     repeat' (first|((first|(refine CallX.of (z204 S H D ha hD (qV S.live (strK [.str (f.plt.getD (i:Int).toNat plt0).veh])) (f.plt.getD (i:Int).toNat plt0).frm (Nat.le_trans (hlen _) (by decide))) rq1 rfl ⟨lr,lr,lr,lr,lr,lr,trivial⟩ ⟨rr,rr,rr,rr,rr,rr,rr,rr,trivial⟩ rfl rfl ?_;rintro y rout ⟨rfl,rfl⟩;refine⟨rfl,?_⟩)|(refine CallX.of (z204 (hdrop S (qV S.live (strK [.str (f.plt.getD (i:Int).toNat plt0).veh])) (f.plt.getD (i:Int).toNat plt0).frm) H D ha1 hD1 (f.plt.getD (i:Int).toNat plt0).plt (f.plt.getD (i:Int).toNat plt0).frm (hlen1 _)) rq1 rfl ⟨lr,lr,lr,lr,lr,lr,trivial⟩ ⟨rr,rr,rr,rr,rr,rr,rr,rr,trivial⟩ rfl rfl ?_;rintro y rout ⟨rfl,rfl⟩;refine⟨rfl,?_⟩)|(refine br_intro ?_ ?_<;>intro hb<;>try simp only[brs]at hb)|refine rAx hT 13 oKToC83_13 ?_|omega|refine sAx ?_|decide|assumption)<;>conv=>whnf))
     all_goals try(have q:=‹qH S.live (strK [DV.str (f.plt.getD (i:Int).toNat plt0).veh])=false›;rw[e2]at q;cases q)
     all_goals try(exfalso;omega)
     rw[←hS2]
     exact⟨(i+1,(fun q=>decide (q=(f.plt.getD (i:Int).toNat plt0).plt)||H q),fun q=>if q=(f.plt.getD (i:Int).toNat plt0).plt then(f.plt.getD (i:Int).toNat plt0).frm else D q),⟨by omega,hD3⟩,by show f.plt.length - (i+1)<f.plt.length - i;omega,
      Entails.mk' rq0 rfl rfl ⟨lr,lr,lr,lr,lr,lr,lr,lr,lr,trivial⟩
       ⟨rr,rr,rr,rr,rr,(by rw[hst];exact le_updP hP),le_updD H D (f.plt.getD (i:Int).toNat plt0).plt (f.plt.getD (i:Int).toNat plt0).frm,(by rw[hst];exact rr),(by rw[hst];exact le_updQ hQ),trivial⟩⟩
 have hil:i=f.plt.length:=by omega
 subst hil;rw[List.take_length]at ha hD hlen hlive;show wpx _ _ _ _ _ (mkSt _ ((1,fltC f)::hN (hall (f.plt.take f.plt.length)) H D));rw[List.take_length];conv=>whnf
 repeat' (first|((first|(refine br_intro ?_ ?_<;>intro hb<;>try simp only[brs]at hb)|refine rAx hT 13 oKToC83_13 ?_|omega|refine sAx ?_|decide|assumption)<;>conv=>whnf))
 all_goals try(exfalso;omega)
 have hE:∀m,m<f.plt.length→(f.plt.take (m+1)).foldl (fun s x=>hdrop s x.plt 5761440) (hall f.plt)=hdrop ((f.plt.take m).foldl (fun s x=>hdrop s x.plt 5761440) (hall f.plt)) (f.plt.getD m plt0).plt 5761440:=fun m hm=>by
  rw[take_snocD (d:=plt0) hm,List.foldl_append];rfl
 refine LoopX.rule hT (C:= []) (ι:=Nat) (fun m=>m≤f.plt.length∧(((f.plt.take m).foldl (fun s x=>hdrop s x.plt 5761440) (hall f.plt)).live.Pairwise (fun p q=>clashP p q=false)∧(∀e ∈ ((f.plt.take m).foldl (fun s x=>hdrop s x.plt 5761440) (hall f.plt)).live,D e.plt=e.frm)∧∀q,(((f.plt.take m).foldl (fun s x=>hdrop s x.plt 5761440) (hall f.plt)).out q).length+((f.plt.take m).foldl (fun s x=>hdrop s x.plt 5761440) (hall f.plt)).live.length≤1000))
  (fun m=>mkSt [(3,.ptr 3 0),(7,.fn 129 [.ptr 5 0,.ptr 4 0,.ptr 3 0,.ptr 6 0]),(62,.d (plts f.plt)),(63,.d (.int .i64 f.plt.length)),(64,.d (.int .i64 m))] (hN ((f.plt.take m).foldl (fun s x=>hdrop s x.plt 5761440) (hall f.plt)) H D))
  (fun m=>f.plt.length - m) 0 ⟨by simp,ha,hD,fun q=>by have:=hall_len f.plt q;show((hall f.plt).out q).length+(hall f.plt).live.length≤1000;omega⟩ ?_ ?_
 · exact Entails.mk' [(3,3),(4,4),(5,5),(6,6),(14,14),(15,15),(16,16),(17,17)] rfl rfl ⟨lr,lr,lr,lr,lr,trivial⟩ ⟨rr,rr,rr,rr,rr,rr,rr,rr,trivial⟩
 rintro m ⟨q1,q2,q3,q4⟩;have e2:(m:Int).toNat=m:=Int.toNat_natCast m;obtain⟨S,hS⟩:∃S,S=(f.plt.take m).foldl (fun s x=>hdrop s x.plt 5761440) (hall f.plt):=⟨_,rfl⟩;rw[←hS]at q2 q3 q4;show wpx _ _ _ _ _ (mkSt _ (hN ((f.plt.take m).foldl (fun s x=>hdrop s x.plt 5761440) (hall f.plt)) H D));rw[←hS];rcases Nat.lt_or_ge m f.plt.length with hm|hm
 · have hE1:=hE m hm;rw[←hS]at hE1;conv=>whnf
   repeat' (first|((first|(refine oAx (z204 S H D q2 q3 (f.plt.getD (m:Int).toNat plt0).plt 5761440 (by have:=q4 (f.plt.getD (m:Int).toNat plt0).plt;omega)) rq1 ?_;rintro y rout ⟨rfl,rfl⟩;refine⟨rfl,?_⟩)|(refine br_intro ?_ ?_<;>intro hb<;>try simp only[brs]at hb)|refine rAx hT 13 oKToC83_13 ?_|omega|refine sAx ?_|decide|assumption)<;>conv=>whnf))
   all_goals try(exfalso;omega)
   refine⟨m+1,⟨by omega,by rw[hE1];exact hdrop_apart q2 _ _,by rw[hE1];exact fun e he=>q3 e (hdrop_sub he).1,by rw[hE1];exact fun q=>Nat.le_trans (hdrop_len S _ _ q) (q4 q)⟩,by omega,?_⟩;rw[hE1,e2];exact Entails.mk' [(3,3),(4,4),(5,5),(6,6),(14,14),(15,15),(16,16),(17,17)] rfl rfl ⟨lr,lr,lr,lr,lr,trivial⟩ ⟨rr,rr,rr,rr,rr,rr,rr,rr,trivial⟩
 · have hml:m=f.plt.length:=by omega
   rw[hml,List.take_length]at hS;conv=>whnf
   repeat' (first|((first|(refine br_intro ?_ ?_<;>intro hb<;>try simp only[brs]at hb)|refine rAx hT 13 oKToC83_13 ?_|omega|refine sAx ?_|decide|assumption)<;>conv=>whnf))
   all_goals try(exfalso;omega)
   refine .ret _ ?_;conv=>whnf
   exact⟨[(14,mO (hend f.plt).out)],⟨rfl,rfl⟩,by rw[hS];exact rr,trivial⟩
def mV (H:List UInt8→Bool)(v:List UInt8→DV):Res:=.map false false [.str] [.nilsl] (fun k=>H (strK k)) (fun k=> [v (strK k)])
def vF (l:List Hld):DV:=if l= []then .nilsl else seqD 3 hldF hld0 l
abbrev mF (o:List UInt8→List Hld):Res:=mV (fun p=> !(o p).isEmpty) (fun p=>vF (o p))
theorem vF_or (l:List Hld):(vF l= .nilsl∧l= [])∨vF l=seqD 3 hldF hld0 l:=by
 unfold vF
 by_cases h:l= []
 · rw[if_pos h];exact .inl ⟨rfl,h⟩
 · rw[if_neg h];exact .inr rfl
theorem le_froR (o:List UInt8→List Hld):Res.le (.map false false [.str] [.nilsl] (fun k=> !(o (strK k)).isEmpty) (fun q=>bif !(o (strK q)).isEmpty then [.ro 3 (o (strK q)).length (fun i=>rowF hldF hld0 (o (strK q)) i)]else [.nilsl])) (mF o):=
 Res.le_map fun k hk=>⟨rfl,by
  unfold vF
  cases h:o (strK k)with
  |nil=>simp[h]
  |cons x l=>simp[h]⟩
theorem z73 (f:Flt)(hl:f.plt.length≤1000)(hs:srtP f.plt)(h:List Hir):FSpec Tryz.prog 38 [flt f,.d (hirs h)] [] (fun y r=>y= .agg [.mp 6,.d (hirs h)]∧r= [(6,mF (hend f.plt).out)]):=by
 refine spec_of hT (C:= []) Tryz.func38 rfl Tryz.call38 rfl rfl rfl ?_;conv=>whnf
 refine oAx (z151 f hl hs) [(14,6)] ?_;rintro x rout ⟨rfl,rfl⟩;refine⟨rfl,?_⟩;conv=>whnf
 repeat' (first|((first|(refine br_intro ?_ ?_<;>intro hb<;>try simp only[brs]at hb)|omega|refine sAx ?_|decide|assumption)<;>conv=>whnf))
 refine .ent _ _ (Entails.froR 6 rfl) (.weak _ ?_);conv=>whnf
 exact⟨.agg [.mp 6,.d (hirs h)],[(6,mF (hend f.plt).out)],lr,⟨rfl,rfl⟩,le_froR _,trivial⟩
theorem find_none {α:Type}{l:List α}{d:α}{p:α→Bool}(h:∀j,j<l.length→p (l.getD j d)=false):l.find? p=none:=by
 rw[List.find?_eq_none];intro x hx;obtain⟨j,hj,rfl⟩:=mem_getD (d:=d) hx;rw[h j hj];simp
theorem find_hit {α:Type}{d:α}{p:α→Bool}:∀ {l:List α} {i:Nat},i<l.length→(∀j,j<i→p (l.getD j d)=false)→p (l.getD i d)=true→l.find? p=some (l.getD i d):=by
 intro l
 induction l with
 |nil=>intro i hi;simp at hi
 | cons x l ih=>
   intro i hi h ho
   cases i with
   | zero=>
     rw[List.getD_cons_zero]at ho ⊢
     rw[List.find?_cons_of_pos ho]
   | succ i=>
     have h0:=h 0 (by omega);rw[List.getD_cons_zero]at h0;rw[List.find?_cons_of_neg (by simp[h0])];rw[List.getD_cons_succ]at ho ⊢;exact ih (by simpa using hi) (fun j hj=>by have:=h (j+1) (by omega);rwa [List.getD_cons_succ]at this) ho
def lookV (o:List Hld)(t:Int):List UInt8:=(findH o t).getD []
theorem lookV_no {o:List Hld}{t:Int}(h:∀j,j<o.length→inH t (o.getD j hld0)=false):lookV o t= []:=by
 unfold lookV findH;rw[find_none h];rfl
theorem lookV_hit {o:List Hld}{t:Int}{i:Nat}(hi:i<o.length)(h:∀j,j<i→inH t (o.getD j hld0)=false)(q:inH t (o.getD i hld0)=true):lookV o t=(o.getD i hld0).veh:=by
 unfold lookV findH;rw[find_hit hi h q];rfl
theorem z116 (H:List UInt8→Bool)(v:List UInt8→DV)(o:List Hld)(h:List Hir)(p:List UInt8)(t:Int)(hl:o.length≤2^40)(hv:(v p= .nilsl∧o= [])∨v p=seqD 3 hldF hld0 o):
 FSpec Tryz.prog 84 [.agg [.mp 1000001,.d (hirs h)],.d (.str p),.d (.int .i64 t)] [(1000001,mV H v)] (fun y r=>y= .d (.str (lookV o t))∧r= [(1000001,mV H v)]):=by
 have hv':(v (strK [.str p])= .nilsl∧o= [])∨v (strK [.str p])=seqD 3 hldF hld0 o:=hv;refine spec_of hT (C:= []) Tryz.func84 rfl Tryz.call84 rfl rfl rfl ?_;conv=>whnf
 rcases hv' with⟨e,ho⟩|e
 · have hle:SV.le (.d .nilsl) (.d (seqD 3 hldF hld0 o)):=by rw[ho];exact SV.le_nilS
   repeat' (first|(rw[e];conv=>whnf)|((first|(refine br_intro ?_ ?_<;>intro hb<;>try simp only[brs]at hb)|omega|refine sAx ?_|decide|assumption)<;>conv=>whnf))
   refine LoopX.rule hT (C:= []) (ι:=Nat) (fun i=>i≤o.length∧∀j,j<i→inH t (o.getD j hld0)=false) (fun i=>mkSt [(2,.d (.int .i64 t)),(12,.d (seqD 3 hldF hld0 o)),(13,.d (.int .i64 o.length)),(14,.d (.int .i64 i))] [(1000001,mV H v)]) (fun i=>o.length - i) 0 ⟨by omega,by omega⟩ ?_ ?_
   · exact Entails.mk' [(1000001,1000001)] rfl rfl ⟨lr,hle,SV.le_int (by first|rfl|(rw[ho];rfl)),lr,trivial⟩ ⟨rr,trivial⟩
   rintro i ⟨p1,p2⟩;have e1:(i:Int).toNat=i:=Int.toNat_natCast i;rcases Nat.lt_or_ge i o.length with hi|hi
   · conv =>whnf
     repeat' (first|((first|(refine br_intro ?_ ?_<;>intro hb<;>try simp only[brs]at hb)|omega|refine sAx ?_|decide|assumption)<;>conv=>whnf))
     all_goals try(exfalso;omega)
     all_goals first
      |exact⟨i+1,⟨by omega,all_step p2 (by unfold inH;simp only[e1]at*;grind)⟩,by omega,(by exact eAx [(1000001,1000001)])⟩
      | (refine .ret _ ?_
         (conv=>whnf)
         refine⟨[(1000001,mV H v)],⟨?_,rfl⟩,rr,trivial⟩;conv=>lhs;whnf
         exact congrArg (fun z=>SV.d (.str z)) (lookV_hit (i:=i) (by omega) p2 (by unfold inH;simp only[e1]at*;grind)).symm)
   · conv=>whnf
     repeat' (first|((first|(refine br_intro ?_ ?_<;>intro hb<;>try simp only[brs]at hb)|omega|refine sAx ?_|decide|assumption)<;>conv=>whnf))
     all_goals try(exfalso;omega)
     refine .ret _ ?_
     (conv=>whnf)
     refine⟨[(1000001,mV H v)],⟨?_,rfl⟩,rr,trivial⟩;conv=>lhs;whnf
     rw[lookV_no (fun j hj=>p2 j (by omega))]
 · have ho:True:=trivial;have hle:SV.le (.d (seqD 3 hldF hld0 o)) (.d (seqD 3 hldF hld0 o)):=lr;repeat' (first|(rw[e];conv=>whnf)|((first|(refine br_intro ?_ ?_<;>intro hb<;>try simp only[brs]at hb)|omega|refine sAx ?_|decide|assumption)<;>conv=>whnf))
   refine LoopX.rule hT (C:= []) (ι:=Nat) (fun i=>i≤o.length∧∀j,j<i→inH t (o.getD j hld0)=false) (fun i=>mkSt [(2,.d (.int .i64 t)),(12,.d (seqD 3 hldF hld0 o)),(13,.d (.int .i64 o.length)),(14,.d (.int .i64 i))] [(1000001,mV H v)]) (fun i=>o.length - i) 0 ⟨by omega,by omega⟩ ?_ ?_
   · exact Entails.mk' [(1000001,1000001)] rfl rfl ⟨lr,hle,SV.le_int (by first|rfl|(rw[ho];rfl)),lr,trivial⟩ ⟨rr,trivial⟩
   rintro i ⟨p1,p2⟩;have e1:(i:Int).toNat=i:=Int.toNat_natCast i;rcases Nat.lt_or_ge i o.length with hi|hi
   · conv =>whnf
     repeat' (first|((first|(refine br_intro ?_ ?_<;>intro hb<;>try simp only[brs]at hb)|omega|refine sAx ?_|decide|assumption)<;>conv=>whnf))
     all_goals try(exfalso;omega)
     all_goals first
      |exact⟨i+1,⟨by omega,all_step p2 (by unfold inH;simp only[e1]at*;grind)⟩,by omega,(by exact eAx [(1000001,1000001)])⟩
      | (refine .ret _ ?_
         (conv=>whnf)
         refine⟨[(1000001,mV H v)],⟨?_,rfl⟩,rr,trivial⟩;conv=>lhs;whnf
         exact congrArg (fun z=>SV.d (.str z)) (lookV_hit (i:=i) (by omega) p2 (by unfold inH;simp only[e1]at*;grind)).symm)
   · conv=>whnf
     repeat' (first|((first|(refine br_intro ?_ ?_<;>intro hb<;>try simp only[brs]at hb)|omega|refine sAx ?_|decide|assumption)<;>conv=>whnf))
     all_goals try(exfalso;omega)
     refine .ret _ ?_
     (conv=>whnf)
     refine⟨[(1000001,mV H v)],⟨?_,rfl⟩,rr,trivial⟩;conv=>lhs;whnf
     rw[lookV_no (fun j hj=>p2 j (by omega))]
def icC (t:Int):Res:=.cells 3 [.d (.int .i64 t)]
theorem z181 (x:Leg):FSpec Tryz.prog 133 [.agg ((lgF x).map .d)] [] (fun y r=>y= .agg [.d (.int .i64 x.out.tm),.d (.int .i64 (lastE x))]∧r= []):=by
 refine spec_of hT (C:= []) Tryz.func133 rfl Tryz.call133 rfl rfl rfl ?_;conv=>whnf
 repeat' (first|((first|(refine br_intro ?_ ?_<;>intro hb<;>try simp only[brs]at hb)|omega|refine sAx ?_|decide|assumption)<;>conv=>whnf))
 all_goals
  refine .ret _ ?_;conv=>whnf
  refine⟨[],⟨?_,rfl⟩,trivial⟩;conv=>lhs;whnf
  unfold lastE
  first
   |(rw[if_pos hb];rfl)
   |(rw[if_neg hb];rfl)
theorem z207 (x:Leg)(v:List UInt8)(t:Int):FSpec Tryz.prog 132 [.agg ((lgF x).map .d),.ptr 1000001 0,.ptr 1000002 0] [(1000001,kyC v),(1000002,icC t)] (fun y r=>y= .d (.bool (onL v x t))∧r= [(1000001,kyC v),(1000002,icC t)]):=by
 refine spec_of hT (C:= []) Tryz.func132 rfl Tryz.call132 rfl rfl rfl ?_;conv=>whnf
 repeat' (first|(refine CallX.exact (z181 x) rfl rfl ?_;rotate_right;conv=>whnf)|((first|(refine br_intro ?_ ?_<;>intro hb<;>try simp only[brs]at hb)|omega|refine sAx ?_|decide|assumption)<;>conv=>whnf))
 all_goals
  refine .ret _ ?_;conv=>whnf
  refine⟨[(1000001,kyC v),(1000002,icC t)],⟨?_,rfl⟩,rr,rr,trivial⟩;conv=>lhs;whnf
  unfold onL;congr 2
  first|grind|simp_all
theorem z270 (l:List Leg)(hl:l.length≤2^40) (v:List UInt8)(t:Int):FSpec Tryz.prog 177 [.d (Go.Proofs.YtjibpcoeghlnoaaGreatDoor.legs l),.fn 132 [.ptr 1000001 0,.ptr 1000002 0]] [(1000001,kyC v),(1000002,icC t)] (fun x r=>x= .d (.int .i64 (ixF (fun i=>onL v (l.getD i lg0) t) l.length))∧r= [(1000001,kyC v),(1000002,icC t)]):=by
 refine spec_of hT (C:= []) Tryz.func177 rfl Tryz.call177 rfl rfl rfl ?_;conv=>whnf
 refine LoopX.rule hT (C:= []) (ι:=Nat) (fun i=>i≤l.length∧∀j,j<i→onL v (l.getD j lg0) t=false) (fun i=>mkSt [(0,.d (Go.Proofs.YtjibpcoeghlnoaaGreatDoor.legs l)),(1,.fn 132 [.ptr 1000001 0,.ptr 1000002 0]),(7,.d (.int .i64 l.length)),(8,.d (.int .i64 i))] [(1000001,kyC v),(1000002,icC t)]) (fun i=>l.length - i) 0 ⟨by omega,by omega⟩ (by exact eAx rq2) ?_;rintro i ⟨p1,p2⟩;have e1:(i:Int).toNat=i:=Int.toNat_natCast i;conv=>whnf
 repeat' (first|((first|(refine oAx (z207 (l.getD (i:Int).toNat lg0) v t) rq2 ?_;rintro x rout ⟨rfl,rfl⟩;refine⟨rfl,?_⟩)|(refine br_intro ?_ ?_<;>intro hb<;>try simp only[brs]at hb)|omega|refine sAx ?_|decide|assumption)<;>conv=>whnf))
 · refine .ret _ ?_;conv=>whnf
   refine⟨[(1000001,kyC v),(1000002,icC t)],⟨?_,rfl⟩,rr,rr,trivial⟩;conv=>lhs;whnf
   congr 2
   exact(ixF_hit (by omega) p2 (by simpa using hb)).symm
 · exact⟨i+1,⟨by omega,all_step p2 (by simpa using hb)⟩,by omega,(by exact eAx rq2)⟩
 · refine .ret _ ?_;conv=>whnf
   refine⟨[(1000001,kyC v),(1000002,icC t)],⟨?_,rfl⟩,rr,rr,trivial⟩;conv=>lhs;whnf
   congr 2
   have:i=l.length:=by omega
   subst this;exact(ixF_none p2).symm
theorem z206 (l:List Leg)(hl:l.length≤2^40)(v:List UInt8)(t:Int):FSpec Tryz.prog 131 [.d (Go.Proofs.YtjibpcoeghlnoaaGreatDoor.legs l),.fn 132 [.ptr 1000001 0,.ptr 1000002 0]] [(1000001,kyC v),(1000002,icC t)] (fun x r=>x= .d (.bool (l.any fun x=>onL v x t))∧r= [(1000001,kyC v),(1000002,icC t)]):=by
 refine spec_of hT (C:= []) Tryz.func131 rfl Tryz.call131 rfl rfl rfl ?_;conv=>whnf
 repeat' (first|((first|(refine oAx (z270 l hl v t) rq2 ?_;rintro x rout ⟨rfl,rfl⟩;refine⟨rfl,?_⟩)|(refine br_intro ?_ ?_<;>intro hb<;>try simp only[brs]at hb)|omega|refine sAx ?_|decide|assumption)<;>conv=>whnf))
 refine .ret _ ?_;conv=>whnf
 refine⟨[(1000001,kyC v),(1000002,icC t)],⟨?_,rfl⟩,rr,rr,trivial⟩;conv=>lhs;whnf
 rw[←ix_any l lg0 (fun x=>onL v x t)]
theorem z205 (h:Hir)(hh:h.legs.length≤2^40)(v:List UInt8)(t:Int):FSpec Tryz.prog 130 [.agg ((hiF h).map .d),.ptr 1000001 0,.ptr 1000002 0] [(1000001,kyC v),(1000002,icC t)] (fun y r=>y= .d (.bool (occ v h t))∧r= [(1000001,kyC v),(1000002,icC t)]):=by
 refine spec_of hT (C:= []) Tryz.func130 rfl Tryz.call130 rfl rfl rfl ?_;conv=>whnf
 repeat' (first|((first|(refine oAx (z206 h.legs hh v t) rq2 ?_;rintro x rout ⟨rfl,rfl⟩;refine⟨rfl,?_⟩)|(refine br_intro ?_ ?_<;>intro hb<;>try simp only[brs]at hb)|omega|refine sAx ?_|decide|assumption)<;>conv=>whnf))
 refine .ret _ ?_;conv=>whnf
 exact⟨[(1000001,kyC v),(1000002,icC t)],⟨rfl,rfl⟩,rr,rr,trivial⟩
theorem z90 (l:List Hir)(hl:l.length≤2^40)(hk:∀h ∈ l,h.legs.length≤2^40)(v:List UInt8)(t:Int):FSpec Tryz.prog 14 [.d (hirs l),.fn 130 [.ptr 1000001 0,.ptr 1000002 0]] [(1000001,kyC v),(1000002,icC t)] (fun x r=>x= .d (.int .i64 (ixF (fun i=>occ v (l.getD i hi0) t) l.length))∧r= [(1000001,kyC v),(1000002,icC t)]):=by
 refine spec_of hT (C:= []) Tryz.func14 rfl Tryz.call14 rfl rfl rfl ?_;conv=>whnf
 refine LoopX.rule hT (C:= []) (ι:=Nat) (fun i=>i≤l.length∧∀j,j<i→occ v (l.getD j hi0) t=false) (fun i=>mkSt [(0,.d (hirs l)),(1,.fn 130 [.ptr 1000001 0,.ptr 1000002 0]),(7,.d (.int .i64 l.length)),(8,.d (.int .i64 i))] [(1000001,kyC v),(1000002,icC t)]) (fun i=>l.length - i) 0 ⟨by omega,by omega⟩ (by exact eAx rq2) ?_;rintro i ⟨p1,p2⟩;have e1:(i:Int).toNat=i:=Int.toNat_natCast i;conv=>whnf
 repeat' (first|((first|(refine CallX.of (z205 (l.getD (i:Int).toNat hi0) (hk _ (getD_mem (by omega))) v t) rq2 rfl ⟨lr,lr,lr,trivial⟩ ⟨rr,rr,trivial⟩ rfl rfl ?_;rintro x rout ⟨rfl,rfl⟩;refine⟨rfl,?_⟩)|(refine br_intro ?_ ?_<;>intro hb<;>try simp only[brs]at hb)|omega|refine sAx ?_|decide|assumption)<;>conv=>whnf))
 · refine .ret _ ?_;conv=>whnf
   refine⟨[(1000001,kyC v),(1000002,icC t)],⟨?_,rfl⟩,rr,rr,trivial⟩;conv=>lhs;whnf
   congr 2
   exact(ixF_hit (by omega) p2 (by simpa using hb)).symm
 · exact⟨i+1,⟨by omega,all_step p2 (by simpa using hb)⟩,by omega,(by exact eAx rq2)⟩
 · refine .ret _ ?_;conv=>whnf
   refine⟨[(1000001,kyC v),(1000002,icC t)],⟨?_,rfl⟩,rr,rr,trivial⟩;conv=>lhs;whnf
   congr 2
   have:i=l.length:=by omega
   subst this;exact(ixF_none p2).symm
def hirIx (l:List Hir)(v:List UInt8)(t:Int):Int:=ixF (fun i=>occ v (l.getD i hi0) t) l.length
theorem z152 (H:List UInt8→Bool)(w:List UInt8→DV)(l:List Hir)(hl:l.length≤2^40)(hk:∀h ∈ l,h.legs.length≤2^40)(v:List UInt8)(t:Int):
 FSpec Tryz.prog 85 [.agg [.mp 1000001,.d (hirs l)],.d (.str v),.d (.int .i64 t)] [(1000001,mV H w)] (fun y r=>y= .d (.int .i64 (hirIx l v t))∧r= [(1000001,mV H w)]):=by
 refine spec_of hT (C:= []) Tryz.func85 rfl Tryz.call85 rfl rfl rfl ?_;conv=>whnf
 repeat' (first|((first|(refine oAx (z90 l hl hk v t) [(1000001,4),(1000002,5)] ?_;rintro x rout ⟨rfl,rfl⟩;refine⟨rfl,?_⟩)|(refine br_intro ?_ ?_<;>intro hb<;>try simp only[brs]at hb)|omega|refine sAx ?_|decide|assumption)<;>conv=>whnf))
 refine .ret _ ?_;conv=>whnf
 exact⟨[(1000001,mV H w)],⟨rfl,rfl⟩,rr,trivial⟩
def ownK (o:List Hld)(l:List Hir)(t:Int):Int:=if lookV o t= []then -1 else hirIx l (lookV o t) t
theorem z74 (H:List UInt8→Bool)(w:List UInt8→DV)(o:List Hld)(l:List Hir)(hl:l.length≤2^40)(hk:∀h ∈ l,h.legs.length≤2^40)(p:List UInt8)(t:Int)(ho:o.length≤2^40)(hv:(w p= .nilsl∧o= [])∨w p=seqD 3 hldF hld0 o):
 FSpec Tryz.prog 40 [.agg [.mp 1000001,.d (hirs l)],.d (.str p),.d (.int .i64 t)] [(1000001,mV H w)] (fun y r=>y= .tup [.d (.str (lookV o t)),.d (.int .i64 (ownK o l t))]∧r= [(1000001,mV H w)]):=by
 refine spec_of hT (C:= []) Tryz.func40 rfl Tryz.call40 rfl rfl rfl ?_;conv=>whnf
 repeat' (first|((first|(refine oAx (z116 H w o l p t ho hv) [(1000001,1000001)] ?_;rintro x rout ⟨rfl,rfl⟩;refine⟨rfl,?_⟩)|(refine oAx (z152 H w l hl hk (lookV o t) t) [(1000001,1000001)] ?_;rintro x rout ⟨rfl,rfl⟩;refine⟨rfl,?_⟩)|(refine br_intro ?_ ?_<;>intro hb<;>try simp only[brs]at hb)|omega|refine sAx ?_|decide|assumption)<;>conv=>whnf))
 · refine .ret _ ?_;conv=>whnf
   refine⟨[(1000001,mV H w)],⟨?_,rfl⟩,rr,trivial⟩;unfold ownK;rw[if_pos hb,hb];rfl
 · refine .ret _ ?_;conv=>whnf
   refine⟨[(1000001,mV H w)],⟨?_,rfl⟩,rr,trivial⟩;unfold ownK;rw[if_neg hb];rfl
theorem z113 (H:List UInt8→Bool)(w:List UInt8→DV)(l:List Hir)(n:Int)(hn:n<l.length):
 FSpec Tryz.prog 42 [.agg [.mp 1000001,.d (hirs l)],.d (.int .i64 n)] [(1000001,mV H w)] (fun y r=>y= .d (.str (if n<0 then []else(l.getD n.toNat hi0).key))∧r= [(1000001,mV H w)]):=by
 refine spec_of hT (C:= []) Tryz.func42 rfl Tryz.call42 rfl rfl rfl ?_;conv=>whnf
 repeat' (first|((first|(refine br_intro ?_ ?_<;>intro hb<;>try simp only[brs]at hb)|omega|refine sAx ?_|decide|assumption)<;>conv=>whnf))
 · refine .ret _ ?_;conv=>whnf
   refine⟨[(1000001,mV H w)],⟨?_,rfl⟩,rr,trivial⟩;rw[if_pos hb];rfl
 · refine .ret _ ?_;conv=>whnf
   refine⟨[(1000001,mV H w)],⟨?_,rfl⟩,rr,trivial⟩;rw[if_neg (by omega)];rfl
def oKFlM81_1:OL:= [(0,[]),(1,[]),(3,[0,1]),(4,[0,1]),(6,[0,1,3,4]),(7,[0,1,3,4]),(8,[0,1,3,4]),(9,[0,1,3,4]),(2,[3,4,6,7,8,9]),(5,[6,7,8,9]),(10,[]),(11,[]),(12,[]),(13,[])]
def oKFlM81_9:OL:= [(0,[]),(1,[]),(2,[]),(3,[]),(4,[]),(5,[3,4]),(6,[3,4]),(7,[3,4,5,6]),(8,[3,4,5,6]),(9,[3,4]),(10,[3,4]),(11,[3,4]),(12,[]),(13,[]),(14,[])]
set_option maxHeartbeats 4000000 in
theorem z114 (f:Flt)(hk:fltOk f):FSpec Tryz.prog 81 [flt f] [] (fun x r=>x= .d (.int .i64 (fltE f))∧r= []):=by
 have hlv:=hk.veh.1;have hlp:=hk.plt.1
 have H:(if decide ((500:Int)<f.veh.length)=true then(2:Int)else 0)=if 500<f.veh.length then 2 else 0:=by
  simp only[decide_eq_true_eq];congr 1;rw[eq_iff_iff];omega
 have h3:=s105 [stasE f.sta,clssE f.cls,if decide ((500:Int)<f.veh.length)=true then 2 else 0] (by simp);rw[show firstE [stasE f.sta,clssE f.cls,if decide ((500:Int)<f.veh.length)=true then 2 else 0]=fltE0 f from by rw[H];rfl]at h3;refine spec_of hT (C:= []) Tryz.func81 rfl Tryz.call81 rfl rfl rfl ?_;conv=>whnf
 repeat' (first|(refine CallX.exact (z174 f.sta hk.sta) rfl rfl ?_;rotate_right;conv=>whnf)|(refine CallX.exact (z175 f.cls hk.cls) rfl rfl ?_;rotate_right;conv=>whnf)|(refine CallX.exact (s107 _ _) rfl rfl ?_;rotate_right;conv=>whnf)|((first|refine CallX.pure h3 ⟨SV.le_lit (by rfl) (by rfl),trivial⟩ rfl ?_|(refine br_intro ?_ ?_<;>intro hb<;>try simp only[brs]at hb)|refine rAx hT 1 oKFlM81_1 ?_|refine rAx hT 9 oKFlM81_9 ?_|omega|refine sAx ?_|decide|assumption)<;>conv=>whnf))
 · refine .ret _ ?_;conv=>whnf
   refine⟨[],⟨?_,rfl⟩,trivial⟩;conv=>lhs;whnf
   congr 2
   unfold fltE;rw[if_pos hb]
 have F0:fltE0 f=0:=hb;refine LoopX.rule hT (C:= []) (ι:=Nat) (fun i=>i≤f.veh.length∧∀j,j<i→vehE1 f j=0) (fun i=>mkSt [(1,.ptr 1 0),(23,.d (vehs f.veh)),(24,.d (.int .i64 f.veh.length)),(25,.d (.int .i64 i))] [(1,fltC f)]) (fun i=>f.veh.length - i) 0 ⟨by omega,by omega⟩ (by exact eAx [(1,1)]) ?_;rintro i ⟨p1,p2⟩;have hx:(i:Int)<f.veh.length→(f.veh.getD (i:Int).toNat veh0).key.length≤2^40∧(f.veh.getD (i:Int).toNat veh0).cls.length≤2^40:=fun hi=>hk.veh.2 _ (getD_mem (by omega))
 have e1:(i:Int).toNat=i:=Int.toNat_natCast i
 have hbad:∀e:Int,i<f.veh.length→e≠0→vehE1 f i=e→fltE f=e:=fun e h h1 h2=>by
  unfold fltE;rw[if_neg (by omega),firstAt_eq h p2 h1 h2,if_pos h1]
 rcases Nat.lt_or_ge i f.veh.length with hi|hi
 · conv =>whnf
   repeat' (first|(refine CallX.exact (s108 _ (hx (by omega)).1) rfl rfl ?_;rotate_right;conv=>whnf)|(refine CallX.exact (z176 f.cls (Nat.le_trans hk.cls.1 (by decide)) _) rfl rfl ?_;rotate_right;conv=>whnf)|((first|(refine br_intro ?_ ?_<;>intro hb<;>try simp only[brs]at hb)|refine rAx hT 1 oKFlM81_1 ?_|refine rAx hT 9 oKFlM81_9 ?_|omega|refine sAx ?_|decide|assumption)<;>conv=>whnf))
   all_goals try(exfalso;omega)
   all_goals first
    |(refine⟨i+1,⟨by omega,first_step p2 (by clear p2 hbad hk hx;simp only[e1,toNat_pred]at*;unfold vehE1 strLe;grind)⟩,by omega,(by exact eAx [(1,1)])⟩)
    | (refine .ret _ ?_
       conv=>whnf
       refine⟨[],⟨?_,rfl⟩,trivial⟩;conv=>lhs;whnf
       congr 2
       exact(hbad _ (by omega) (by decide) (by clear p2 hbad hk hx;simp only[e1,toNat_pred]at*;unfold vehE1 strLe;grind)).symm)
 have hil:i=f.veh.length:=by omega
 subst hil;have F1:=firstAt_zero p2;clear hbad hx p2;conv=>whnf
 repeat' (first|(refine CallX.exact (z177 f hk (vehE_sorted F1)) rfl rfl ?_;rotate_right;conv=>whnf)|((first|(refine br_intro ?_ ?_<;>intro hb<;>try simp only[brs]at hb)|refine rAx hT 1 oKFlM81_1 ?_|refine rAx hT 9 oKFlM81_9 ?_|omega|refine sAx ?_|decide|assumption)<;>conv=>whnf))
 all_goals try(exfalso;omega)
 refine .ret _ ?_;conv=>whnf
 refine⟨[],⟨?_,rfl⟩,trivial⟩;conv=>lhs;whnf
 congr 2
 unfold fltE pltsE;simp[F0,F1]
def offE (f:Flt)(h:List Hir):Int:=firstE [fltE f,hirsE h]
structure fltK (f:Flt):Prop where
 sta:allK staK 4 f.sta
 cls:clsB f.cls
 veh:allK vehK 5 f.veh
 plt:allK pltK 6 f.plt
theorem fltK.ok {f:Flt}(h:fltK f):fltOk f:=
 ⟨⟨Nat.le_trans h.sta.1 (by decide),fun s hs=>Nat.le_trans (h.sta.2 s hs) (by decide)⟩,⟨Nat.le_trans h.cls.1 (by decide),fun s hs=>⟨Nat.le_trans (h.cls.2 s hs).1 (by decide),Nat.le_trans (h.cls.2 s hs).2 (by decide)⟩⟩,
   ⟨Nat.le_trans h.veh.1 (by decide),fun s hs=>⟨Nat.le_trans (h.veh.2 s hs).1 (by decide),Nat.le_trans (h.veh.2 s hs).2 (by decide)⟩⟩,⟨Nat.le_trans h.plt.1 (by decide),fun s hs=>⟨(h.plt.2 s hs).1,Nat.le_trans (h.plt.2 s hs).2.1 (by decide),Nat.le_trans (h.plt.2 s hs).2.2 (by decide)⟩⟩⟩
structure Nmd where
 ntc:List UInt8
 hire:List UInt8
 drv:List UInt8
 bby:Int
theorem hend_len (l:List Plt)(q:List UInt8):((hend l).out q).length≤l.length:=by
 have key:∀ (m:List Plt) (s:HS),((m.foldl (fun s x=>hdrop s x.plt 5761440) s).out q).length+(m.foldl (fun s x=>hdrop s x.plt 5761440) s).live.length≤(s.out q).length+s.live.length:=by
  intro m
  induction m with
  |nil=>intro s;exact Nat.le_refl _
  |cons x m ih=>intro s;exact Nat.le_trans (ih _) (hdrop_len s x.plt 5761440 q)
 have h1:=key l (hall l);have h2:=hall_len l q;show(((l.foldl (fun s x=>hdrop s x.plt 5761440) (hall l))).out q).length≤_;omega
theorem hirIx_bd (l:List Hir)(v:List UInt8)(t:Int): -1≤hirIx l v t∧hirIx l v t<l.length:=⟨ixF_bd.1,ixF_bd.2.1⟩
theorem ownK_bd (o:List Hld)(l:List Hir)(t:Int): -1≤ownK o l t∧ownK o l t<l.length:=by
 unfold ownK;split
 · constructor<;>omega
 · exact hirIx_bd _ _ _
theorem fltE_srt {f:Flt}(h:fltE f=0):srtP f.plt∧f.plt.length≤1000:=by
 unfold fltE at h
 have h0:firstAt (pltE1 f) f.plt.length=0∧f.plt.length≤1000:=by
  split at h
  · exact absurd h (by assumption)
  · split at h
    · exact absurd h (by assumption)
    · split at h
      · cases h
      · exact⟨h,by omega⟩
 have h1:=firstAt_all h0.1;refine⟨?_,h0.2⟩;unfold srtP;rw[List.pairwise_iff_getElem];intro i j hi hj hij;have:=frm_mono (f:=f) (i:=j) (fun k hk hk0=>pltE1_cmp (h1 k (by omega)) hk0) j i (by omega) (by omega);rw[List.getD_eq_getElem?_getD,List.getD_eq_getElem?_getD,List.getElem?_eq_getElem hi,List.getElem?_eq_getElem hj]at this;exact this
theorem nmd_eq {a b:Nmd}:a=b↔((a.ntc=b.ntc∧a.hire=b.hire)∧a.drv=b.drv)∧a.bby=b.bby:=by cases a;cases b;simp[and_assoc]
instance:DecidableEq Nmd:=fun _ _=>decidable_of_iff _ nmd_eq.symm
theorem ixF_first {p:Nat→Bool}:∀ {n:Nat} (j:Nat),j<n→(ixF p n= -1∨(j:Int)<ixF p n)→p j=false:=by
 intro n
 induction n with
 |zero=>intro j hj;omega
 | succ n ih=>
   intro j hj h;rw[ixF]at h
   by_cases q:ixF p n= -1
   · rw[if_pos q]at h;rcases Nat.lt_or_ge j n with r|r
     · exact ih j r (.inl q)
     · obtain rfl:j=n:=by omega
       cases hp:p j with
       |false=>rfl
       |true=>rw[if_pos hp]at h;omega
   · rw[if_neg q]at h;have hb:=(ixF_bd (p:=p) (n:=n)).2.1;exact ih j (by omega) (by omega)
end Go.Proofs.YtjibpcoeghlnoaaGreatDoor
namespace Go.Eng
open Go Go.Proofs Go.Sort Go.RowKit
end Go.Eng
namespace Go.Proofs
open Go.Shelf
end Go.Proofs
set_option maxRecDepth 20000
namespace Go.Proofs.YtjibpcoeghlnoaaGreatDoor
open Go Go.Eng
theorem less_tot:∀ {a b:List UInt8},Op.bytesLess a b=false→a≠b→Op.bytesLess b a=true:=by
 intro a
 induction a with
 | nil=>intro b h hn;cases b with
   |nil=>exact absurd rfl hn
   |cons y b=>simp[Op.bytesLess]at h
 | cons x a ih=>
   intro b h hn
   cases b with
   |nil=>rfl
   | cons y b=>
     simp only[Op.bytesLess]at h ⊢
     by_cases hxy:x=y
     · subst hxy;simp at h ⊢;exact ih h (fun q=>hn (by rw[q]))
     · rcases Nat.lt_or_gt_of_ne (fun q=>hxy (UInt8.toNat_inj.1 q))with q|q
       · have:x<y:=UInt8.lt_iff_toNat_lt.2 q;simp[this]at h
       · have:y<x:=UInt8.lt_iff_toNat_lt.2 q;simp[this]
section
variable {v:List UInt8} {a b:Int} {l:List Hir}
end
theorem key_sorted {l:List Hir}(h:hirsE l=0):(∀g ∈ l,g.key≠ [])∧l.Pairwise fun g h=>Op.bytesLess g.key h.key=true:=by
 have hq:=hirs_seq h;refine⟨fun g hg e=> ?_,?_⟩
 · have:=hq.1 g hg;unfold hirE at this;rw[if_pos (.inl (by rw[e];decide))]at this;cases this
 · have next:∀i,i+1<l.length→Op.bytesLess (l.getD i hi0).key (l.getD (i+1) hi0).key=true:=fun i hi=>by
    have:=hq.2 (i+1) (by omega) hi;rw[Nat.add_sub_cancel]at this;unfold strLe at this;rw[Bool.or_eq_false_iff]at this;exact less_tot this.1 (by simpa using this.2)
   have all:∀d i,i+d+1<l.length→Op.bytesLess (l.getD i hi0).key (l.getD (i+d+1) hi0).key=true:=by
    intro d
    induction d with
    |zero=>intro i hi;exact next i hi
    |succ d ih=>intro i hi;exact less_trans (ih i (by omega)) (next (i+d+1) hi)
   rw[List.pairwise_iff_getElem];intro i j hi hj hij;have:=all (j - i - 1) i (by omega);rw[show i+(j - i - 1)+1=j by omega,List.getD_eq_getElem?_getD,List.getD_eq_getElem?_getD,List.getElem?_eq_getElem hi,List.getElem?_eq_getElem hj]at this;exact this
section
variable {v:List UInt8} {a b:Int} {l:List Hir}
end
def wearV (l:List Plt)(p:List UInt8)(t:Int):List UInt8:=((findP (worn l t) p).map (·.veh)).getD []
def ownR (l:List Plt)(h:List Hir)(p:List UInt8)(t:Int):List UInt8:=if wearV l p t= []then []else(withK (wearV l p t) h t).1
def keyIx (h:List Hir)(k:List UInt8):Int:=ixF (fun i=>(h.getD i hi0).key==k) h.length
theorem fltE_plt {f:Flt}(h:fltE f=0):∀j,j<f.plt.length→pltE1 f j=0:=by
 unfold fltE at h
 have h0:firstAt (pltE1 f) f.plt.length=0:=by
  split at h
  · exact absurd h (by assumption)
  · split at h
    · exact absurd h (by assumption)
    · split at h
      · cases h
      · exact h
 exact firstAt_all h0
theorem fltE_mom {f:Flt}(h:fltE f=0):∀e ∈ f.plt,e.frm<5761440:=by
 intro e he;obtain⟨j,hj,rfl⟩:=mem_getD (d:=plt0) he;have:=fltE_plt h j hj;unfold pltE1 at this;grind
theorem fltE_apr {f:Flt}(h:fltE f=0):aprP f.plt:=by
 have h1:=fltE_plt h;unfold aprP;rw[List.pairwise_iff_getElem];intro i j hi hj hij he;have h2:=h1 j hj;unfold pltE1 at h2
 have h3:((f.plt.take j).any (twP (f.plt.getD j plt0)))=false:=by
  cases hq:((f.plt.take j).any (twP (f.plt.getD j plt0)))with
  |false=>rfl
  |true=>rw[hq]at h2;grind
 rw[List.any_eq_false]at h3;have h4:=h3 f.plt[i] (by rw[List.mem_take_iff_getElem];exact⟨i,by omega,rfl⟩);have e1:f.plt.getD j plt0=f.plt[j]:=by rw[List.getD_eq_getElem?_getD,List.getElem?_eq_getElem hj];rfl
 rw[e1]at h4;unfold twP at h4;unfold clashP;grind
theorem look_wear {f:Flt}(h:fltE f=0){t:Int}(ht:t<5761440)(p:List UInt8):lookV ((hend f.plt).out p) t=wearV f.plt p t:=by
 unfold lookV wearV;rw[hend_eq (fltE_srt h).1 (fltE_mom h) ht p,worn_liv (fltE_srt h).1 (fltE_apr h) t]
theorem hir_with (h:List Hir)(v:List UInt8)(t:Int):(withK v h t).1=if hirIx h v t<0 then []else(h.getD (hirIx h v t).toNat hi0).key:=by
 have hb:=ixF_bd (p:=fun i=>occ v (h.getD i hi0) t) (n:=h.length);have hf:=ixF_first (p:=fun i=>occ v (h.getD i hi0) t) (n:=h.length);unfold hirIx;split
 · rw[withK_no (fun j hj=>hf j hj (.inl (by omega)))]
 · rw[withK_yes (i:=(ixF (fun i=>occ v (h.getD i hi0) t) h.length).toNat) (by omega) (fun j hj=>hf j (by omega) (.inr (by omega))) (hb.2.2 (by omega))]
theorem key_ix {h:List Hir}(hh:hirsE h=0){i:Nat}(hi:i<h.length):keyIx h (h.getD i hi0).key=i:=by
 refine ixF_hit hi (fun j hj=> ?_) (by simp);have hp:=(key_sorted hh).2;rw[List.pairwise_iff_getElem]at hp;have:=hp j i (by omega) hi hj;rw[List.getD_eq_getElem?_getD,List.getD_eq_getElem?_getD,List.getElem?_eq_getElem hi,List.getElem?_eq_getElem (by omega:j<h.length)];simp only[Option.getD_some];rw[beq_eq_false_iff_ne];intro e;rw[e,less_irr]at this;cases this
theorem own_key {f:Flt}{h:List Hir}(E1:fltE f=0)(E2:hirsE h=0){t:Int}(ht:t<5761440)(p:List UInt8):
 (ownK ((hend f.plt).out p) h t<0∧ownR f.plt h p t= [])∨(0≤ownK ((hend f.plt).out p) h t∧ownR f.plt h p t=(h.getD (ownK ((hend f.plt).out p) h t).toNat hi0).key∧ownR f.plt h p t≠ []∧keyIx h (ownR f.plt h p t)=ownK ((hend f.plt).out p) h t):=by
 unfold ownK ownR;rw[look_wear E1 ht p,hir_with];have hb:=hirIx_bd h (wearV f.plt p t) t
 by_cases q:wearV f.plt p t= []
 · rw[if_pos q,if_pos q];exact .inl ⟨by decide,rfl⟩
 · rw[if_neg q,if_neg q]
   by_cases q2:hirIx h (wearV f.plt p t) t<0
   · rw[if_pos q2];exact .inl ⟨q2,rfl⟩
   · rw[if_neg q2];have hi:(hirIx h (wearV f.plt p t) t).toNat<h.length:=by omega
     refine .inr ⟨by omega,rfl,(key_sorted E2).1 _ (getD_mem hi),?_⟩;rw[key_ix E2 hi];omega
theorem tl57 (x:Leg):FSpec Tryz.prog 57 [.agg ((lgF x).map .d)] [] (fun y r=>y= .agg [.d (.int .i64 x.out.tm),.d (.int .i64 (lastE x))]∧r= []):=by
 refine spec_of hT (C:= []) Tryz.func57 rfl Tryz.call57 rfl rfl rfl ?_;conv=>whnf
 repeat' (first|((first|(refine br_intro ?_ ?_<;>intro hb<;>try simp only[brs]at hb)|omega|refine sAx ?_|decide|assumption)<;>conv=>whnf))
 all_goals
  refine .ret _ ?_;conv=>whnf
  refine⟨[],⟨?_,rfl⟩,trivial⟩;conv=>lhs;whnf
  unfold lastE
  first
   |(rw[if_pos hb];rfl)
   |(rw[if_neg hb];rfl)
set_option maxHeartbeats 4000000 in
theorem tl16 (l:List Hir)(hk:hiOk l)(E:hirsE l=0)(hs:∀h ∈ l,lgSeq h.legs)(v:List UInt8)(hv:isKeyB v=true)(hvl:v.length≤2^40)(t:Int)(ht:0≤t∧t≤5761439):
 FSpec Tryz.prog 16 [.d (hirs l),.d (.str v),.d (.int .i64 t)] [] (fun y r=>y= .tup [.d (.str (withK v l t).1),.d (.bool (withK v l t).2),.d (.int .i64 0)]∧r= []):=by
 have hl:l.length≤2^40:=hk.1;have hlk:∀h ∈ l,h.legs.length≤2^40:=fun h q=>(hk.2 h q).2.2.1
 have h3:=s105 [hirsE l,if(!isKeyB v)=true then 5 else 0,if 0≤t∧t≤5761439 then 0 else 1] (by simp);have h0:firstE [hirsE l,if(!isKeyB v)=true then 5 else 0,if 0≤t∧t≤5761439 then 0 else 1]=0:=by rw[E,hv,if_pos ht];rfl
 rw[h0]at h3;refine spec_of hT (C:= []) Tryz.func16 rfl Tryz.call16 rfl rfl rfl ?_;conv=>whnf
 repeat' (first|(refine CallX.exact (z124 l hk) rfl rfl ?_;rotate_right;conv=>whnf)|(refine CallX.exact (s108 v hvl) rfl rfl ?_;rotate_right;conv=>whnf)|(refine CallX.exact (s107 _ _) rfl rfl ?_;rotate_right;conv=>whnf)|(refine CallX.exact (z220 t) rfl rfl ?_;rotate_right;conv=>whnf)|((first|refine CallX.pure h3 ⟨SV.le_lit (by rfl) (by rfl),trivial⟩ rfl ?_|(refine br_intro ?_ ?_<;>intro hb<;>try simp only[brs]at hb)|omega|refine sAx ?_|decide|assumption)<;>conv=>whnf))
 all_goals try(exfalso;omega)
 refine LoopX.rule hT (C:= []) (ι:=Nat) (fun i=>i≤l.length∧∀j,j<i→occ v (l.getD j hi0) t=false) (fun i=>mkSt [(1,.d (.str v)),(2,.d (.int .i64 t)),(28,.d (hirs l)),(29,.d (.int .i64 l.length)),(30,.d (.int .i64 i))] []) (fun i=>l.length - i) 0 ⟨by omega,by omega⟩ (by exact eAx []) ?_;rintro i ⟨p1,p2⟩;have e1:(i:Int).toNat=i:=Int.toNat_natCast i
 by_cases hi:i<l.length
 · have hh : l.getD (i:Int).toNat hi0 ∈ l:=getD_mem (by omega);have hsq:=hs _ hh;have hlk:=hlk _ hh;conv=>whnf
   repeat' (first|((first|(refine br_intro ?_ ?_<;>intro hb<;>try simp only[brs]at hb)|omega|refine sAx ?_|decide|assumption)<;>conv=>whnf))
   · refine LoopX.rule hT (C:= []) (ι:=Nat) (fun k=>k≤(l.getD (i:Int).toNat hi0).legs.length∧occK v (l.getD (i:Int).toNat hi0).legs k t=false)
      (fun k=>mkSt [(1,.d (.str v)),(2,.d (.int .i64 t)),(11,.ptr 11 0),(28,.d (hirs l)),(29,.d (.int .i64 l.length)),(30,.d (.int .i64 i)),(35,.d (legs (l.getD (i:Int).toNat hi0).legs)),(36,.d (.int .i64 (l.getD (i:Int).toNat hi0).legs.length)),(37,.d (.int .i64 k))] [(11,hcell (l.getD (i:Int).toNat hi0))])
      (fun k=>(l.getD (i:Int).toNat hi0).legs.length - k) 0 ⟨by omega,by simp[occK]⟩ (by exact eAx [(11,11)]) ?_
     rintro k ⟨q1,q2⟩;have f1:(k:Int).toNat=k:=Int.toNat_natCast k
     by_cases hkk:k<(l.getD (i:Int).toNat hi0).legs.length
     all_goals have hkk':=hkk
     all_goals rw[e1]at hkk'
     · have hx:=hsq.1 _ (getD_mem (x:=lg0) (show(k:Int).toNat<(l.getD (i:Int).toNat hi0).legs.length by omega));have hon:onL v ((l.getD (i:Int).toNat hi0).legs.getD (k:Int).toNat lg0) t=(decide (((l.getD (i:Int).toNat hi0).legs.getD (k:Int).toNat lg0).veh=v)&&(decide (((l.getD (i:Int).toNat hi0).legs.getD (k:Int).toNat lg0).out.tm≤t)&&decide (t<lastE ((l.getD (i:Int).toNat hi0).legs.getD (k:Int).toNat lg0)))):=rfl;have hsu:=occK_succ (v:=v) hkk t;rw[q2,Bool.false_or,←f1]at hsu;conv=>whnf
       repeat' (first|(refine CallX.exact (tl57 ((l.getD (i:Int).toNat hi0).legs.getD (k:Int).toNat lg0)) rfl rfl ?_;rotate_right;conv=>whnf)|((first|(refine br_intro ?_ ?_<;>intro hb<;>try simp only[brs]at hb)|omega|refine sAx ?_|decide|assumption)<;>conv=>whnf))
       all_goals try(exfalso;omega)
       all_goals first
        | (have ho:onL v ((l.getD (i:Int).toNat hi0).legs.getD (k:Int).toNat lg0) t=true:=by
            rw[hon];simp only[e1,f1,Bool.and_eq_true,decide_eq_true_eq]at*;exact⟨by assumption,by omega,by omega⟩
           have hoc:occ v (l.getD i hi0) t=true:=by rw[←e1];exact occK_mono (by omega) ho
           refine .ret _ ?_;conv=>whnf
           refine⟨[],⟨congrArg SV.tup ?_,rfl⟩,trivial⟩;repeat' (refine cons_eq ?_ ?_)
           all_goals (conv=>lhs;whnf)
           all_goals try(with_reducible rfl)
           all_goals (rw[withK_yes hi p2 hoc];try rw[e1])
           done)
        | (have ho:onL v ((l.getD (i:Int).toNat hi0).legs.getD (k:Int).toNat lg0) t=false:=by
            rw[hon,←Bool.not_eq_true];simp only[e1,f1,Bool.and_eq_true,decide_eq_true_eq]at*;first|omega|exact fun q=>hb q.1
           rw[ho,f1]at hsu
           exact⟨k+1,⟨by omega,hsu⟩,by omega,(by exact eAx [(11,11)])⟩)
     · have hkl:k=(l.getD (i:Int).toNat hi0).legs.length:=by omega
       rw[hkl,occK_all,e1]at q2;conv=>whnf
       repeat' (first|(refine CallX.exact (tl57 ((l.getD (i:Int).toNat hi0).legs.getD (k:Int).toNat lg0)) rfl rfl ?_;rotate_right;conv=>whnf)|((first|(refine br_intro ?_ ?_<;>intro hb<;>try simp only[brs]at hb)|omega|refine sAx ?_|decide|assumption)<;>conv=>whnf))
       all_goals try(exfalso;omega)
       exact⟨i+1,⟨by omega,all_step p2 q2⟩,by omega,(by exact eAx [])⟩
 · conv=>whnf
   repeat' (first|((first|(refine br_intro ?_ ?_<;>intro hb<;>try simp only[brs]at hb)|omega|refine sAx ?_|decide|assumption)<;>conv=>whnf))
   refine .ret _ ?_;conv=>whnf
   refine⟨[],⟨congrArg SV.tup ?_,rfl⟩,trivial⟩;repeat' (refine cons_eq ?_ ?_)
   all_goals (conv=>lhs;whnf)
   all_goals try(with_reducible rfl)
   all_goals
    rw[withK_no (fun j hj=>p2 j (by omega))]
theorem s169 (l m:List (List UInt8))(hl:l.length≤2^40)(hm:m.length≤2^40):FSpec Tryz.prog 79 [.d (strs l),.d (strs m)] [] (fun x r=>x= .d (.int .i64 (cmpL l m))∧r= []):=by
 refine spec_of hT (C:= []) Tryz.func79 rfl Tryz.call79 rfl rfl rfl ?_;conv=>whnf
 refine LoopX.rule hT (C:= []) (ι:=Nat) (fun i=>i≤l.length∧i≤m.length∧cmpL l m=cmpL (l.drop i) (m.drop i)) (fun i=>mkSt [(0,.d (strs l)),(1,.d (strs m)),(9,.d (strs l)),(10,.d (.int .i64 l.length)),(11,.d (.int .i64 i))] []) (fun i=>l.length - i) 0 ⟨by omega,by omega,by simp⟩ (by exact eAx []) ?_;rintro i ⟨p1,p2,p3⟩;have hd:i<l.length→l.drop i=l.getD i []::l.drop (i+1):=fun hi=>by rw[List.drop_eq_getElem_cons hi,List.getD_eq_getElem?_getD,List.getElem?_eq_getElem hi];rfl
 have hd2:i<m.length→m.drop i=m.getD i []::m.drop (i+1):=fun hi=>by rw[List.drop_eq_getElem_cons hi,List.getD_eq_getElem?_getD,List.getElem?_eq_getElem hi];rfl
 have e1:(i:Int).toNat=i:=Int.toNat_natCast i;conv=>whnf
 repeat' (first|(refine CallX.exact (s184 _ _) rfl rfl ?_;rotate_right;conv=>whnf)|((first|(refine br_intro ?_ ?_<;>intro hb<;>try simp only[brs]at hb)|omega|refine sAx ?_|decide|assumption)<;>conv=>whnf))
 · refine .ret _ ?_;conv=>whnf
   refine⟨[],⟨?_,rfl⟩,trivial⟩;conv=>lhs;whnf
   congr 2
   rw[p3,hd (by omega),List.drop_eq_nil_iff.2 (by omega:m.length≤i)];rfl
 · refine .ret _ ?_;conv=>whnf
   refine⟨[],⟨?_,rfl⟩,trivial⟩;conv=>lhs;whnf
   congr 2
   rw[p3,hd (by omega),hd2 (by omega),cmpL,if_pos (by simpa using hb)];simp only[e1]
 · refine⟨i+1,⟨by omega,by omega,?_⟩,by omega,(by exact eAx [])⟩;rw[p3,hd (by omega),hd2 (by omega),cmpL,if_neg (by simpa using hb)]
 · refine .ret _ ?_;conv=>whnf
   refine⟨[],⟨?_,rfl⟩,trivial⟩;conv=>lhs;whnf
   congr 2
   have hm:i<m.length:=by omega
   rw[p3,hd2 hm,List.drop_eq_nil_iff.2 (by omega:l.length≤i)];rfl
 · refine .ret _ ?_;conv=>whnf
   refine⟨[],⟨?_,rfl⟩,trivial⟩;conv=>lhs;whnf
   congr 2
   rw[p3,List.drop_eq_nil_iff.2 (by omega:m.length≤i),List.drop_eq_nil_iff.2 (by omega:l.length≤i)];rfl
theorem s127 (a b:Pas)(ha: -2^40≤a.tm∧a.tm≤2^40)(hb: -2^40≤b.tm∧b.tm≤2^40):FSpec Tryz.prog 30 [.agg ((paF a).map .d),.agg ((paF b).map .d)] [] (fun x r=>x= .d (.int .i64 (pasCmp a b))∧r= []):=by
 refine spec_of hT (C:= []) Tryz.func30 rfl Tryz.call30 rfl rfl rfl ?_;conv=>whnf
 repeat' (first|(refine CallX.exact (s176 _) rfl rfl ?_;rotate_right;conv=>whnf)|((first|refine CallX.pure (s169 [_,_] [_,_] (by simp) (by simp)) ⟨SV.le_lit (by rfl) (by rfl),SV.le_lit (by rfl) (by rfl),trivial⟩ rfl ?_|(refine br_intro ?_ ?_<;>intro hb<;>try simp only[brs]at hb)|omega|refine sAx ?_|decide|assumption)<;>conv=>whnf))
 all_goals
  refine .ret _ ?_;conv=>whnf
  refine⟨[],⟨?_,rfl⟩,trivial⟩;conv=>lhs;whnf
  congr 2
  rw[order_eq];grind
def oKCpEm123_4:OL:= [(0,[]),(1,[0]),(2,[]),(3,[]),(4,[]),(5,[4]),(6,[4,5]),(7,[4]),(8,[4]),(9,[4,5,6,7,8]),(10,[4,5,6,7,8,9]),(11,[4,5,6,7,8,9]),(12,[4,5,6,7,8]),(13,[4,5,6,7,8]),(14,[]),(15,[]),(16,[])]
def oKCpEm123_6:OL:= [(0,[]),(1,[0]),(2,[0,1]),(3,[0,1,2]),(4,[0,1,2]),(5,rg 5),(6,rg 6),(7,rg 6),(8,rg 5),(9,rg 5),(10,rg 10),(11,rg 11),(12,rg 10),(13,rg 10),(14,[2,3,4]),(15,[2,3,4]),(16,[]),(17,[])]
def oKCpEm31_6:OL:= [(0,[]),(1,[0]),(2,[0,1]),(3,[0]),(4,[0]),(5,rg 5),(6,rg 6),(7,rg 6),(8,rg 5),(9,rg 5),(10,[])]
def oKCpEm31_11:OL:= [(0,[]),(1,[0]),(2,[0,1]),(3,[0]),(4,[0]),(5,rg 5),(6,rg 6),(7,rg 6),(8,rg 5),(9,rg 5),(10,[]),(11,[])]
theorem s208 (g:FuncId)(cmp:Pas→Pas→Int)(l:List Pas)(hl:l.length≤2^40)
 (hcmp:∀p q,p ∈ l→q ∈ l→FSpec Tryz.prog g [.agg ((paF p).map .d),.agg ((paF q).map .d)] [] (fun y r=>y= .d (.int .i64 (cmp p q))∧r= [])):
 FSpec Tryz.prog 123 [.buf 1000001,.d (.int .i64 0),.d (.int .i64 l.length),.fn g []] [(1000001,seqB 70 4 paF pa0 l)]
  (fun y r=>y= .tup []∧∃c,sameP l c∧r= [(1000001,seqB 70 4 paF pa0 c)]):=by
 refine spec_of hT (C:= []) Tryz.func123 rfl Tryz.call123 rfl rfl rfl ?_;conv=>whnf
 repeat' (first|((first|(refine br_intro ?_ ?_<;>intro hb<;>try simp only[brs]at hb)|refine rAx hT 4 oKCpEm123_4 ?_|refine rAx hT 6 oKCpEm123_6 ?_|omega|refine sAx ?_|decide|assumption)<;>conv=>whnf))
 refine LoopX.rule hT (C:= []) (ι:=Nat×List Pas) (fun(i,c)=>1≤i∧(i≤l.length∨i=1)∧sameP l c)
  (fun(i,c)=>mkSt [(0,.buf 1000001),(1,.d (.int .i64 0)),(2,.d (.int .i64 l.length)),(3,.fn g []),(8,.d (.int .i64 i))] [(1000001,seqB 70 4 paF pa0 c)])
  (fun(i,_)=>l.length - i) (1,l) ⟨by simp,by simp,rfl,fun x h=>h⟩ (by exact eAx [(1000001,1000001)]) ?_
 rintro⟨i,c⟩ ⟨p1,p2,p3⟩;have hc0:=p3.1;conv=>whnf
 repeat' (first|((first|(refine br_intro ?_ ?_<;>intro hb<;>try simp only[brs]at hb)|refine rAx hT 4 oKCpEm123_4 ?_|refine rAx hT 6 oKCpEm123_6 ?_|omega|refine sAx ?_|decide|assumption)<;>conv=>whnf))
 · refine LoopX.rule hT (C:= []) (ι:=Nat×List Pas) (fun(j,c)=>j≤i∧sameP l c)
    (fun(j,c)=>mkSt [(0,.buf 1000001),(1,.d (.int .i64 0)),(2,.d (.int .i64 l.length)),(3,.fn g []),(8,.d (.int .i64 i)),(9,.d (.int .i64 j))] [(1000001,seqB 70 4 paF pa0 c)])
    (fun(j,_)=>j) (i,c) ⟨Nat.le_refl _,p3⟩ (by exact eAx [(1000001,1000001)]) ?_
   rintro⟨j,b⟩ ⟨q1,q3⟩;have hb0:=q3.1;conv=>whnf
   repeat' (first|((first|(refine br_intro ?_ ?_<;>intro hb<;>try simp only[brs]at hb)|refine rAx hT 4 oKCpEm123_4 ?_|refine rAx hT 6 oKCpEm123_6 ?_|omega|refine sAx ?_|decide|assumption)<;>conv=>whnf))
   · refine CallX.of (hcmp (b.getD (j:Int).toNat pa0) (b.getD ((j:Int) - 1).toNat pa0) (q3.2 _ (getD_mem (by omega))) (q3.2 _ (getD_mem (by omega)))) [] rfl ⟨lr,lr,trivial⟩ trivial rfl rfl ?_;rintro x rout ⟨rfl,rfl⟩;refine⟨rfl,?_⟩;conv=>whnf
     repeat' (first|((first|(refine br_intro ?_ ?_<;>intro hb<;>try simp only[brs]at hb)|refine rAx hT 4 oKCpEm123_4 ?_|refine rAx hT 6 oKCpEm123_6 ?_|omega|refine sAx ?_|decide|assumption)<;>conv=>whnf))
     · refine⟨(j - 1,_),⟨by omega,sameP_set (sameP_set q3 (q3.2 _ (getD_mem (i:=((j:Int) - 1).toNat) (x:=pa0) (by omega)))) (q3.2 _ (getD_mem (i:=(j:Int).toNat) (x:=pa0) (by omega)))⟩,by show j - 1<j;omega,Entails.mk' [(1000001,1000001)] rfl rfl ⟨lr,lr,lr,lr,lr,SV.le_int (by omega),trivial⟩ ⟨Res.le_put2 (fun _=>rfl) (fun _=>rfl),trivial⟩⟩
     · exact⟨(i+1,b),⟨by omega,by omega,q3⟩,by show l.length - (i+1)<l.length - i;omega,(by exact eAx [(1000001,1000001)])⟩
   · exact⟨(i+1,b),⟨by omega,by omega,q3⟩,by show l.length - (i+1)<l.length - i;omega,(by exact eAx [(1000001,1000001)])⟩
 · refine .ret _ ?_;conv=>whnf
   exact⟨_,⟨rfl,c,p3,rfl⟩,rr,trivial⟩
theorem s175 (g:FuncId)(cmp:Pas→Pas→Int)(l:List Pas)(hl:l.length<20)
 (hcmp:∀p q,p ∈ l→q ∈ l→FSpec Tryz.prog g [.agg ((paF p).map .d),.agg ((paF q).map .d)] [] (fun y r=>y= .d (.int .i64 (cmp p q))∧r= [])):
 FSpec Tryz.prog 77 [.buf 1000001,.d (.int .i64 l.length),.fn g []] [(1000001,seqB 70 4 paF pa0 l)]
  (fun y r=>y= .tup []∧∃c,sameP l c∧r= [(1000001,seqB 70 4 paF pa0 c)]):=by
 refine spec_of hT (C:= []) Tryz.func77 rfl Tryz.call77 rfl rfl rfl ?_;conv=>whnf
 refine LoopX.rule hT (C:= []) (ι:=Unit) (fun _=>True) (fun _=>mkSt [(0,.buf 1000001),(1,.d (.int .i64 l.length)),(2,.fn g []),(6,.d (.int .i64 20)),(7,.d (.int .i64 0)),(8,.d (.int .i64 20))] [(1000001,seqB 70 4 paF pa0 l)]) (fun _=>0) () trivial (by exact eAx [(1000001,1000001)]) ?_;rintro⟨⟩ -;conv=>whnf
 repeat' (first|((first|(refine br_intro ?_ ?_<;>intro hb<;>try simp only[brs]at hb)|omega|refine sAx ?_|decide|assumption)<;>conv=>whnf))
 refine oAx (s208 g cmp l (by omega) hcmp) [(1000001,1000001)] ?_;rintro x rout ⟨rfl,c,hc,rfl⟩;refine⟨rfl,?_⟩;conv=>whnf
 refine LoopX.rule hT (C:= []) (ι:=Unit) (fun _=>True) (fun _=>mkSt [(0,.buf 1000001),(1,.d (.int .i64 l.length)),(2,.fn g []),(6,.d (.int .i64 20))] [(1000001,seqB 70 4 paF pa0 c)]) (fun _=>0) () trivial (by exact eAx [(1000001,1000001)]) ?_;rintro⟨⟩ -;conv=>whnf
 repeat' (first|((first|(refine br_intro ?_ ?_<;>intro hb<;>try simp only[brs]at hb)|omega|refine sAx ?_|decide|assumption)<;>conv=>whnf))
 refine .ret _ ?_;conv=>whnf
 exact⟨_,⟨rfl,c,hc,rfl⟩,rr,trivial⟩
theorem s126 (g:FuncId)(cmp:Pas→Pas→Int)(l:List Pas)(hl:l.length<20)
 (hcmp:∀p q,p ∈ l→q ∈ l→FSpec Tryz.prog g [.agg ((paF p).map .d),.agg ((paF q).map .d)] [] (fun y r=>y= .d (.int .i64 (cmp p q))∧r= [])):
 FSpec Tryz.prog 29 [.buf 1000001,.fn g []] [(1000001,seqB 70 4 paF pa0 l)]
  (fun y r=>y= .tup []∧∃c,sameP l c∧r= [(1000001,seqB 70 4 paF pa0 c)]):=by
 refine spec_of hT (C:= []) Tryz.func29 rfl Tryz.call29 rfl rfl rfl ?_;conv=>whnf
 repeat' (first|((first|(refine br_intro ?_ ?_<;>intro hb<;>try simp only[brs]at hb)|omega|refine sAx ?_|decide|assumption)<;>conv=>whnf))
 refine oAx (s175 g cmp l hl hcmp) [(1000001,1000001)] ?_;rintro x rout ⟨rfl,c,hc,rfl⟩;refine⟨rfl,?_⟩;conv=>whnf
 refine .ret _ ?_;conv=>whnf
 exact⟨_,⟨rfl,c,hc,rfl⟩,rr,trivial⟩
theorem s129 (a b:Pas)(ha: -2^40≤a.tm∧a.tm≤2^40)(hb: -2^40≤b.tm∧b.tm≤2^40):FSpec Tryz.prog 32 [.agg ((paF a).map .d),.agg ((paF b).map .d)] [] (fun x r=>x= .d (.bool (decide (pasCmp a b=0)))∧r= []):=by
 refine spec_of hT (C:= []) Tryz.func32 rfl Tryz.call32 rfl rfl rfl ?_;conv=>whnf
 repeat' (first|(refine CallX.exact (s127 a b ha hb) rfl rfl ?_;rotate_right;conv=>whnf)|((first|(refine br_intro ?_ ?_<;>intro hb<;>try simp only[brs]at hb)|omega|refine sAx ?_|decide|assumption)<;>conv=>whnf))
 refine .ret _ ?_;conv=>whnf
 refine⟨[],⟨?_,rfl⟩,trivial⟩;conv=>lhs;whnf
theorem s128 (g:FuncId)(eq:Pas→Pas→Bool)(l:List Pas)(hl:l.length≤2^20)
 (heq:∀p q,p ∈ l→q ∈ l→FSpec Tryz.prog g [.agg ((paF p).map .d),.agg ((paF q).map .d)] [] (fun y r=>y= .d (.bool (eq p q))∧r= [])):
 FSpec Tryz.prog 31 [.buf 1000001,.fn g []] [(1000001,seqB 70 4 paF pa0 l)]
  (fun y r=>∃c,subP l c∧∃d,(d=1000001∨d=64)∧y= .buf d∧r= [(d,seqB 70 4 paF pa0 c)]):=by
 refine spec_of hT (C:= []) Tryz.func31 rfl Tryz.call31 rfl rfl rfl ?_;conv=>whnf
 repeat' (first|((first|(refine br_intro ?_ ?_<;>intro hb<;>try simp only[brs]at hb)|refine rAx hT 6 oKCpEm31_6 ?_|refine rAx hT 11 oKCpEm31_11 ?_|omega|refine sAx ?_|decide|assumption)<;>conv=>whnf))
 · refine .ret _ ?_;conv=>whnf
   exact⟨_,⟨l,⟨Nat.le_refl _,fun x h=>h⟩,1000001,.inl rfl,rfl,rfl⟩,rr,trivial⟩
 refine LoopX.rule hT (C:= []) (ι:=Nat) (fun k=>1≤k∧k≤l.length) (fun k=>mkSt [(0,.buf 1000001),(1,.fn g []),(5,.d (.int .i64 k))] [(1000001,seqB 70 4 paF pa0 l)]) (fun k=>l.length - k) 1 ⟨by omega,by omega⟩ (by exact eAx [(1000001,1000001)]) ?_;rintro k ⟨p1,p2⟩;conv=>whnf
 repeat' (first|((first|(refine oAx (heq (l.getD (k:Int).toNat pa0) (l.getD ((k:Int) - 1).toNat pa0) (getD_mem (by omega)) (getD_mem (by omega))) [] ?_;rintro x rout ⟨rfl,rfl⟩;refine⟨rfl,?_⟩)|(refine br_intro ?_ ?_<;>intro hb<;>try simp only[brs]at hb)|refine rAx hT 6 oKCpEm31_6 ?_|refine rAx hT 11 oKCpEm31_11 ?_|omega|refine sAx ?_|decide|assumption)<;>conv=>whnf))
 · refine .look rfl ?_;conv=>whnf
   repeat' (first|((first|(refine br_intro ?_ ?_<;>intro hb<;>try simp only[brs]at hb)|refine rAx hT 6 oKCpEm31_6 ?_|refine rAx hT 11 oKCpEm31_11 ?_|omega|refine sAx ?_|decide|assumption)<;>conv=>whnf))
   have hsub:SV.le (SV.sub 1000001 4 (k:Int).toNat (((l.length:Nat):Int) - (k:Int)).toNat) (SV.sub 1000001 4 k (l.length - k)):=by
    rw[show(k:Int).toNat=k by omega,show(((l.length:Nat):Int) - (k:Int)).toNat=l.length - k by omega];exact lr
   refine LoopX.rule hT (C:= []) (ι:=Nat×Nat×List Pas) (fun(q,m,c)=>k≤q∧q<k+m∧1≤m∧k+m≤l.length∧sameP l c)
    (fun(q,m,c)=>mkSt [(0,.buf 1000001),(1,.fn g []),(5,.d (.int .i64 q)),(6,.sub 1000001 4 k (l.length - k)),(7,.d (.int .i64 m))] [(1000001,seqB 70 4 paF pa0 c)])
    (fun(_,m,_)=>l.length - m) (k,1,l) ⟨by omega,by omega,by omega,by omega,rfl,fun x h=>h⟩ (by(refine Entails.mk' [(1000001,1000001)] rfl rfl ?_ ?_<;>repeat' (first|exact True.intro|exact lr|exact rr|(exact hsub)|exact SV.le_int (by omega)|exact SV.le_any _|refine And.intro ?_ ?_));done) ?_
   rintro⟨q,m,c⟩ ⟨r1,r2,r3,r4,r5⟩;have hc0:=r5.1;conv=>whnf
   repeat' (first|((first|(refine CallX.of (heq (c.getD (k+(m:Int).toNat) pa0) (c.getD (k+((m:Int) - 1).toNat) pa0) (r5.2 _ (getD_mem (by omega))) (r5.2 _ (getD_mem (by omega)))) [] rfl ⟨lr,lr,trivial⟩ trivial rfl rfl ?_;rintro x rout ⟨rfl,rfl⟩;refine⟨rfl,?_⟩)|refine SliceX.first (lo:=none) rfl ?_|refine SliceX.look (lo:=some _) rfl ?_|(refine br_intro ?_ ?_<;>intro hb<;>try simp only[brs]at hb)|refine rAx hT 6 oKCpEm31_6 ?_|refine rAx hT 11 oKCpEm31_11 ?_|omega|refine sAx ?_|decide|assumption)<;>conv=>whnf))
   · have e1:∀z,z=k+(m:Int).toNat→z<l.length→c.getD z pa0 ∈ l:=fun z _ h=>r5.2 _ (getD_mem (by omega))
     refine⟨(q+1,m+1,_),⟨by omega,by omega,by omega,by omega,sameP_set r5 (e1 _ rfl (by omega))⟩,by show l.length - (m+1)<l.length - m;omega,Entails.mk' [(1000001,1000001)] rfl rfl ⟨lr,lr,SV.le_int (by omega),lr,SV.le_int (by omega),trivial⟩ ⟨Res.le_putF (fun _ _=>rfl),trivial⟩⟩
   · exact⟨(q,m+1,c),⟨by omega,by omega,by omega,by omega,r5⟩,by show l.length - (m+1)<l.length - m;omega,(by exact eAx [(1000001,1000001)])⟩
   · refine .ret _ ?_;conv=>whnf
     refine⟨_,⟨c.take q,⟨by rw[List.length_take];omega,fun x hx=>r5.2 x (List.mem_of_mem_take hx)⟩,64,.inr rfl,rfl,rfl⟩,Res.le_buf (by rw[List.length_take];omega) (fun i hi=> ?_),trivial⟩
     have hi:i<q:=by
      have:i<(q:Int).toNat:=hi;omega
     have h1:Nat.ble (q:Int).toNat i=false:=by
      rw[←Bool.not_eq_true,Nat.ble_eq];omega
     show(bif Nat.ble (q:Int).toNat i&&_ then _ else rowF paF pa0 c i)=_;rw[h1];simp only[Bool.false_and,cond_false,rowF];rw[List.getD_eq_getElem?_getD,List.getD_eq_getElem?_getD,List.getElem?_take_of_lt hi]
 · exact⟨k+1,⟨by omega,by omega⟩,by omega,(by exact eAx [(1000001,1000001)])⟩
 · refine .ret _ ?_;conv=>whnf
   exact⟨_,⟨l,⟨Nat.le_refl _,fun x h=>h⟩,1000001,.inl rfl,rfl,rfl⟩,rr,trivial⟩
end Go.Proofs.YtjibpcoeghlnoaaGreatDoor
