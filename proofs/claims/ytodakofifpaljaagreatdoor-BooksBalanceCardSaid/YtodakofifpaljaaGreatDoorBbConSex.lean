/- BooksBalance is proved: for every input the law returns true, and its argument reads afterwards as it read before. Conditions: those of the given row alone. -/
import Derived.Test.YtodakofifpaljaaGreatDoorBbConQui
import Derived.Test.YtodakofifpaljaaGreatDoorBbConTri
import Derived.Test.YtodakofifpaljaaGreatDoorBbConQua
import Derived.Test.YtodakofifpaljaaGreatDoorBbConOne
import Derived.Test.YtodakofifpaljaaGreatDoorBbConTwo
set_option linter.unusedVariables false
set_option linter.unusedSimpArgs false
set_option maxRecDepth 20000
namespace Go.Proofs.YtodakofifpaljaaGreatDoor
open Go Go.Eng
def cG:OL:= [(0,[]),(1,[0]),(2,[0]),(3,[0]),(4,[0]),(5,[]),(6,[]),(7,[]),(8,[7]),(9,[8]),(10,[])]
def cD:OL:= [(0,[]),(1,[0]),(2,[0,1]),(3,[0,1,2]),(4,[0,1,2]),(5,[0,1,2]),(6,[0,1,2]),(7,rg 7),(8,rg 7),(9,rg 7),(10,rg 7),(11,[0]),(12,[]),(13,[]),(14,[]),(15,[14]),(16,[15]),(17,[])]
def cA:OL:= [(0,[]),(1,[]),(2,[]),(3,[]),(4,rg 4),(5,rg 4),(6,rg 4),(7,rg 4),(8,[4,5,6,7]),(9,[])]
def cK:OL:= [(0,[]),(1,[0]),(2,[0,1]),(3,[0,1]),(4,[0,1]),(5,[0,1]),(6,rg 6),(7,rg 6),(8,rg 6),(9,rg 6),(10,[]),(11,rg 11),(12,[])]
def cz:OL:= [(0,[]),(1,[0]),(2,[0,1]),(3,[0,1]),(4,[0,1]),(5,[0,1]),(6,rg 6),(7,rg 6),(8,rg 6),(9,rg 6),(10,[]),(11,rg 11),(12,[])]
def cJ:OL:= [(0,[]),(1,[]),(2,[]),(3,[]),(4,rg 4),(5,rg 5),(6,[])]
def gA (g:cy):List UInt8:=(g.legs.getD ((g.legs.length:Int) - 1).toNat ew).veh
def f9 (at0:Int)(t:mh):oD:=⟨at0,(t.texts.getD 1 []),(t.nums.getD 0 0),(t.nums.getD 1 0)⟩
def g7 (at0:Int)(t:mh):oD:=⟨at0,(t.texts.getD 1 []),(t.nums.getD 2 0),(t.nums.getD 3 0)⟩
def bg (g:cy)(at0:Int)(t:mh):cy:=if t.word= [101,120,116,101,110,100]then zY g (t.nums.getD 0 0)else if t.word= [99,108,111,115,101]then zV g (f9 at0 t)else vA g (f9 at0 t) (t.texts.getD 2 []) (g7 at0 t)
def dh (g:cy)(at0:Int)(t:mh):List cO:=if t.word= [101,120,116,101,110,100]then []else if t.word= [99,108,111,115,101]then [⟨at0,gA g,(t.texts.getD 1 []),3,[]⟩]else [⟨at0,gA g,(t.texts.getD 1 []),3,[]⟩,⟨at0,(t.texts.getD 2 []),(t.texts.getD 1 []),2,[]⟩]
def fj (vm:Mp (List UInt8))(sm:Mp Bool)(t:mh):Bool:=if t.word= [101,120,116,101,110,100]then true else if t.word= [99,108,111,115,101]then sm.val (t.texts.getD 1 [])else(sm.val (t.texts.getD 1 [])&&vm.has (t.texts.getD 2 []))
def ng (s:dA)(l:List cO):Int:=aX (fun i=>g9 s (l.getD i dt)) l.length
def da (s:dA)(l:List cO):dA:=l.foldl gW s
def EJ (vm:Mp (List UInt8))(sm:Mp Bool)(s:dA)(g:cy)(at0:Int)(t:mh):Int:=
 if al [iw g (bg g at0 t),if(!fj vm sm t)then 8 else 0]≠0 then al [iw g (bg g at0 t),if(!fj vm sm t)then 8 else 0]else ng s (dh g at0 t)
def lN (vm:Mp (List UInt8))(sm:Mp Bool)(s:dA)(at0:Int)(t:mh):Int:=if s.his.has (t.texts.getD 0 [])then EJ vm sm s ((s.his.val (t.texts.getD 0 [])).getD fp) at0 t else 8
def jQ (vm:Mp (List UInt8))(sm:Mp Bool)(s:dA)(at0:Int)(t:mh):dA:=
 if lN vm sm s at0 t=0 then{da s (dh ((s.his.val (t.texts.getD 0 [])).getD fp) at0 t)with his:=(da s (dh ((s.his.val (t.texts.getD 0 [])).getD fp) at0 t)).his.put (t.texts.getD 0 []) (some (bg ((s.his.val (t.texts.getD 0 [])).getD fp) at0 t))}else s
theorem sj (s:dA)(l:List cO):(da s l).log=s.log++l:=by
 unfold da
 induction l generalizing s with
 |nil=>simp
 |cons x l ih=>rw[List.foldl_cons,ih];simp[gW]
theorem pS (s:dA)(l:List cO)(i:Nat)(hi:i<l.length):da s (l.take (i+1))=gW (da s (l.take i)) (l.getD i dt):=by
 unfold da;rw[List.take_add_one,List.getElem?_eq_getElem hi,Option.toList_some,List.foldl_append,List.getD_eq_getElem?_getD,List.getElem?_eq_getElem hi];rfl
abbrev AR (h:ed):aY:=.cells 101 (uN h++ [.mp 1000002,.mp 1000003,.mp 1000004,.buf 60,.mp 1000006,.mp 1000007,.mp 1000008,.mp 1000010,.buf 1000011])
set_option maxHeartbeats 8000000 in
theorem II (h:ed)(vm:Mp (List UInt8))(sm:Mp Bool)(s:dA)(hl:s.log.length≤2^19)(at0:Int)(t:mh)(h1:1≤t.texts.length)(hx:t.word= [101,120,116,101,110,100]→1≤t.nums.length)(hc:t.word= [99,108,111,115,101]→2≤t.texts.length∧2≤t.nums.length)
 (hs:t.word≠ [101,120,116,101,110,100]→t.word≠ [99,108,111,115,101]→3≤t.texts.length∧4≤t.nums.length)(h3:∀j,(t.texts.getD j []).length≤2^40)(g:cy)(hh:s.his.has (t.texts.getD 0 [])=true)(hv:s.his.val (t.texts.getD 0 [])=some g)(hg:Cy g)(hg1:1≤g.legs.length)(hg2:g.legs.length<2^19):
 ai Tryz.prog 152 [.ptr 1000001 0,.d (.int .i64 at0),.agg ((A7 t).map .d)] (iS h vm sm s) (fun y r=>y= .d (.int .i64 (lN vm sm s at0 t))∧r=cR h vm sm (jQ vm sm s at0 t)):=by
 have cX:=Qp g hg (t.nums.getD 0 0);have cC:=Py g hg (f9 at0 t) (h3 1);have cE:=Ok g hg hg2 (f9 at0 t) (h3 1) (t.texts.getD 2 []) (h3 2) (g7 at0 t) (h3 1)
 by_cases w1:t.word= [101,120,116,101,110,100]
 · skip
   have hN:bg g at0 t=zY g (t.nums.getD 0 0):=by unfold bg;rw[if_pos w1]
   have hEv:dh g at0 t= []:=by unfold dh;rw[if_pos w1]
   have hKn:fj vm sm t=true:=by unfold fj;rw[if_pos w1]
   have hx1:=hx w1
   by_cases hm:iw g (zY g (t.nums.getD 0 0))=0
   · have hH:uB g (zY g (t.nums.getD 0 0))=zY g (t.nums.getD 0 0):=if_pos hm;rw[hH,hm]at cX;obtain⟨N,hNe⟩:∃N,N=zY g (t.nums.getD 0 0):=⟨_,rfl⟩;rw[←hNe]at cX;obtain⟨EV,hEVe⟩:∃EV,EV=([]:List cO):=⟨_,rfl⟩;have hEl:EV.length≤2:=by rw[hEVe];simp
     have hG0:fj vm sm t=true→lN vm sm s at0 t=ng s EV:=fun kk=>by
      unfold lN EJ;rw[if_pos hh,hv];show(if al [iw g (bg g at0 t),if(!fj vm sm t)=true then 8 else 0]≠0 then al [iw g (bg g at0 t),if(!fj vm sm t)=true then 8 else 0]else ng s (dh g at0 t))=_;rw[hN,hm,kk,hEv,←hEVe];rw[if_neg (by simp[al])]
     refine af hT (C:= []) Tryz.func152 rfl Tryz.call152 rfl rfl rfl ?_;conv=>whnf
     repeat' (first|((first|refine rZ cX ?_|refine rZ cC ?_|refine rZ cE ?_)<;>conv=>whnf)|(refine ac (eK _ _) rfl rfl ?_;rotate_right;conv=>whnf)|((first|(refine And.intro (rfl:aK _=some (dO none)) ?_;refine dq (row':=gr g) (congrArg dO hv) ?_)|refine And.intro (rfl:aK _=some (kB oC)) ?_|refine And.intro (rfl:aK _=some [.bool false]) ?_|refine And.intro (rfl:aK _=some (pH [])) ?_|refine And.intro (rfl:aK _=some [.str []]) ?_|refine And.intro (rfl:aK _=some (lO lJ)) ?_|refine And.intro (rfl:aK _=some (dO none)) ?_|refine And.intro (rfl:aK _=some [.int .i64 0]) ?_|refine ao (fu [_,_] (by simp)) ⟨aj (by rfl) (by rfl),trivial⟩ rfl ?_|(refine aa ?_ ?_<;>intro hb<;>try simp only[az]at hb)|refine aw hT 19 cG ?_|refine aw hT 22 cD ?_|refine aw hT 11 cA ?_|refine aw hT 12 cK ?_|refine aw hT 13 cz ?_|refine aw hT 40 cJ ?_|omega|refine aA ?_|decide|assumption)<;>conv=>whnf))
     all_goals try(exfalso;contradiction)
     all_goals first
      |(exfalso;have q:s.his.has (t.texts.getD 0 [])=false:=hb;rw[hh]at q;cases q)
      |(exfalso;clear cX cC cE;apply hb;simp[al];done)
      | (have hkf:(true)=false:=by
          clear cX cC cE
          cases kq:(true)with
          |false=>rfl
          | true=>
            exfalso;trivial
         have hE1:lN vm sm s at0 t=8:=by
          unfold lN EJ;rw[if_pos hh,hv];show(if al [iw g (bg g at0 t),if(!fj vm sm t)=true then 8 else 0]≠0 then al [iw g (bg g at0 t),if(!fj vm sm t)=true then 8 else 0]else ng s (dh g at0 t))=_;rw[hN,hm,hKn,hkf];simp[al]
         have hS1:jQ vm sm s at0 t=s:=by unfold jQ;rw[if_neg (by rw[hE1];decide)]
         rw[hE1,hS1];refine .ent _ _ (ae (ts:= [(6,.d (.int .i64 8))]) (rs:=cR h vm sm s) ue rfl rfl ⟨am (by clear cX cC cE;rfl),trivial⟩ ⟨rr,rr,rr,rr,rr,rr,rr,rr,rr,rr,trivial⟩) ?_;refine .ret _ ?_;conv=>whnf
         exact⟨_,⟨rfl,rfl⟩,rr,rr,rr,rr,rr,rr,rr,rr,rr,rr,trivial⟩)
      |skip
     have hG:=hG0 (hKn.trans rfl)
     refine ah hT (C:= []) (ι:=Nat) (fun i=>i≤EV.length∧∀j,j<i→g9 s (EV.getD j dt)=0)
      (fun i=>aN [(0,.ptr 1000001 0),(7,.d (.str (t.texts.getD 0 []))),(10,.ptr 10 0),(12,.d (wP EV)),(172,.d (wP EV)),(173,.d (.int .i64 EV.length)),(174,.d (.int .i64 i))] ((10,.cells 60 ((gr N).map .d))::iS h vm sm s))
      (fun i=>EV.length - i) 0 ⟨by omega,fun j hj=>by omega⟩ ?_ ?_
     · refine ae Mb rfl rfl ⟨lr,lr,lr,(by subst hEVe;exact aW),(by subst hEVe;exact aW),(by subst hEVe;exact lr),lr,trivial⟩ ⟨rr,rr,rr,rr,rr,rr,rr,rr,rr,rr,rr,trivial⟩
     rintro i ⟨p1,p2⟩;have e1:(i:Int).toNat=i:=Int.toNat_natCast i;conv=>whnf
     repeat' (first|((first|(refine cj (HE h vm sm s (EV.getD (i:Int).toNat dt)) L4 ?_;rintro y rout ⟨rfl,rfl⟩;refine⟨rfl,?_⟩)|(refine And.intro (by unfold aF;omega) ?_)|(refine aa ?_ ?_<;>intro hb<;>try simp only[az]at hb)|refine aw hT 19 cG ?_|refine aw hT 22 cD ?_|refine aw hT 11 cA ?_|refine aw hT 12 cK ?_|refine aw hT 13 cz ?_|refine aw hT 40 cJ ?_|omega|refine aA ?_|decide|assumption)<;>conv=>whnf))
     all_goals first
      |(exact⟨i+1,⟨by omega,aQ p2 (by first|exact hb|simpa using hb)⟩,by omega,ae Mb rfl rfl ⟨lr,lr,lr,lr,lr,lr,lr,trivial⟩ ⟨rr,rr,rr,rr,rr,rr,rr,rr,rr,rr,rr,trivial⟩⟩)
      | (have hE1:lN vm sm s at0 t=g9 s (EV.getD i dt):=hG.trans (aT (f:=fun i=>g9 s (EV.getD i dt)) (by omega) p2 hb rfl)
         have hS1:jQ vm sm s at0 t=s:=by unfold jQ;rw[if_neg (by rw[hE1];exact hb)]
         rw[hE1,hS1];refine .ent _ _ (ae (ts:= [(6,.d (.int .i64 (g9 s (EV.getD i dt))))]) (rs:=cR h vm sm s) ue rfl rfl ⟨lr,trivial⟩ ⟨rr,rr,rr,rr,rr,rr,rr,rr,rr,rr,trivial⟩) ?_;refine .ret _ ?_;conv=>whnf
         exact⟨_,⟨rfl,rfl⟩,rr,rr,rr,rr,rr,rr,rr,rr,rr,rr,trivial⟩)
      |skip
     have hz:ng s EV=0:=aC fun j hj=>p2 j (by omega)
     have hE0:lN vm sm s at0 t=0:=hG.trans hz
     have hS0:jQ vm sm s at0 t={da s EV with his:=(da s EV).his.put (t.texts.getD 0 []) (some N)}:=by
      unfold jQ;rw[if_pos hE0,hv];show({da s (dh g at0 t)with his:=(da s (dh g at0 t)).his.put (t.texts.getD 0 []) (some (bg g at0 t))}:dA)=_;rw[hEv,hN,←hEVe,←hNe]
     rw[hE0,hS0]
     refine ah hT (C:= []) (ι:=Nat) (fun i=>i≤EV.length)
      (fun i=>aN [(0,.ptr 1000001 0),(7,.d (.str (t.texts.getD 0 []))),(10,.ptr 10 0),(185,.d (wP EV)),(186,.d (.int .i64 EV.length)),(187,.d (.int .i64 i))] ((10,.cells 60 ((gr N).map .d)):: [(1000001,AR h),(1000002,e8 false [.str []] pH vm),(1000003,e8 false [.bool false] Hj sm),(1000004,e8 true (kB oC) kB (da s (EV.take i)).sts),(60,Hi (da s (EV.take i)).log),(1000006,Ft (da s (EV.take i)).ats),(1000007,e8 true (lO lJ) lO (da s (EV.take i)).bks),(1000008,e8 true (dO none) dO (da s (EV.take i)).his),(1000010,e8 false [.int .i64 0] Er (da s (EV.take i)).paid),(1000011,Jt (da s (EV.take i)).ref)]))
      (fun i=>EV.length - i) 0 (by omega) ?_ ?_
     · refine ae P7 rfl rfl ⟨lr,lr,lr,lr,lr,lr,trivial⟩ ⟨rr,rr,rr,rr,rr,rr,rr,rr,rr,rr,rr,trivial⟩
     clear p1 p2 e1;rintro i p1;have e1:(i:Int).toNat=i:=Int.toNat_natCast i;conv=>whnf
     repeat' (first|((first|(refine cj (F3 h vm sm (da s (EV.take i)) (EV.getD (i:Int).toNat dt) (by rw[sj,List.length_append,List.length_take];omega)) Qb ?_;rintro y rout ⟨rfl,rfl⟩;refine⟨rfl,?_⟩)|(refine And.intro (by unfold aF;omega) ?_)|(refine aa ?_ ?_<;>intro hb<;>try simp only[az]at hb)|refine aw hT 19 cG ?_|refine aw hT 22 cD ?_|refine aw hT 11 cA ?_|refine aw hT 12 cK ?_|refine aw hT 13 cz ?_|refine aw hT 40 cJ ?_|omega|refine aA ?_|decide|assumption)<;>conv=>whnf))
     all_goals first
      | (refine⟨i+1,by omega,by omega,?_⟩
         have hT:=pS s EV i (by omega)
         dsimp only
         rw[hT]
         exact ae Oz rfl rfl ⟨lr,lr,lr,lr,lr,lr,trivial⟩ ⟨rr,rr,rr,rr,rr,rr,rr,rr,rr,rr,rr,trivial⟩)
      | (have hi:EV.take i=EV:=List.take_of_length_le (by omega)
         rw[hi];refine .ent _ _ (ae (ts:= [(6,.d (.int .i64 0))]) (rs:=cR h vm sm ({da s EV with his:=(da s EV).his.put (t.texts.getD 0 []) (some N)})) LZ rfl rfl ⟨lr,trivial⟩ ⟨rr,rr,rr,rr,rr,rr,rr,fK (v:=some N),rr,rr,trivial⟩) ?_;refine .ret _ ?_;conv=>whnf
         exact⟨_,⟨rfl,rfl⟩,rr,rr,rr,rr,rr,rr,rr,rr,rr,rr,trivial⟩)
   · have hH:uB g (zY g (t.nums.getD 0 0))=fp:=if_neg hm
     have hE1:lN vm sm s at0 t=iw g (zY g (t.nums.getD 0 0)):=by
      unfold lN EJ;rw[if_pos hh,hv];show(if al [iw g (bg g at0 t),if(!fj vm sm t)=true then 8 else 0]≠0 then al [iw g (bg g at0 t),if(!fj vm sm t)=true then 8 else 0]else ng s (dh g at0 t))=_;rw[hN];generalize iw g (zY g (t.nums.getD 0 0))=X at hm ⊢;simp[al,hm]
     have hS1:jQ vm sm s at0 t=s:=by unfold jQ;rw[if_neg (by rw[hE1];exact hm)]
     rw[hE1,hS1];rw[hH]at cX;clear hE1 hS1 hH hN;generalize iw g (zY g (t.nums.getD 0 0))=X at cX hm;refine af hT (C:= []) Tryz.func152 rfl Tryz.call152 rfl rfl rfl ?_;conv=>whnf
     repeat' (first|((first|refine rZ cX ?_|refine rZ cC ?_|refine rZ cE ?_)<;>conv=>whnf)|(refine ac (eK _ _) rfl rfl ?_;rotate_right;conv=>whnf)|((first|(refine And.intro (rfl:aK _=some (dO none)) ?_;refine dq (row':=gr g) (congrArg dO hv) ?_)|refine And.intro (rfl:aK _=some (kB oC)) ?_|refine And.intro (rfl:aK _=some [.bool false]) ?_|refine And.intro (rfl:aK _=some (pH [])) ?_|refine And.intro (rfl:aK _=some [.str []]) ?_|refine And.intro (rfl:aK _=some (lO lJ)) ?_|refine And.intro (rfl:aK _=some (dO none)) ?_|refine And.intro (rfl:aK _=some [.int .i64 0]) ?_|refine ao (fu [_,_] (by simp)) ⟨aj (by rfl) (by rfl),trivial⟩ rfl ?_|(refine aa ?_ ?_<;>intro hb<;>try simp only[az]at hb)|refine aw hT 19 cG ?_|refine aw hT 22 cD ?_|refine aw hT 11 cA ?_|refine aw hT 12 cK ?_|refine aw hT 13 cz ?_|refine aw hT 40 cJ ?_|omega|refine aA ?_|decide|assumption)<;>conv=>whnf))
     all_goals try(exfalso;contradiction)
     all_goals first
      |(exfalso;have q:s.his.has (t.texts.getD 0 [])=false:=hb;rw[hh]at q;cases q)
      |(exfalso;clear cX cC cE;simp[al,hm]at hb;done)
      | (refine .ent _ _ (ae (ts:= [(6,.d (.int .i64 X))]) (rs:=cR h vm sm s) ue rfl rfl ⟨am (by simp[al,hm]),trivial⟩ ⟨rr,rr,rr,rr,rr,rr,rr,rr,rr,rr,trivial⟩) ?_
         refine .ret _ ?_;conv=>whnf
         exact⟨_,⟨rfl,rfl⟩,rr,rr,rr,rr,rr,rr,rr,rr,rr,rr,trivial⟩)
 by_cases w2:t.word= [99,108,111,115,101]
 · skip
   have hN:bg g at0 t=zV g (f9 at0 t):=by unfold bg;rw[if_neg w1,if_pos w2]
   have hEv:dh g at0 t= [⟨at0,gA g,(t.texts.getD 1 []),3,[]⟩]:=by unfold dh;rw[if_neg w1,if_pos w2]
   have hKn:fj vm sm t=sm.val (t.texts.getD 1 []):=by unfold fj;rw[if_neg w1,if_pos w2]
   obtain⟨hc1,hc2⟩:=hc w2
   by_cases hm:iw g (zV g (f9 at0 t))=0
   · have hH:uB g (zV g (f9 at0 t))=zV g (f9 at0 t):=if_pos hm;rw[hH,hm]at cC;obtain⟨N,hNe⟩:∃N,N=zV g (f9 at0 t):=⟨_,rfl⟩;rw[←hNe]at cC;obtain⟨EV,hEVe⟩:∃EV,EV=([⟨at0,gA g,(t.texts.getD 1 []),3,[]⟩]:List cO):=⟨_,rfl⟩;have hEl:EV.length≤2:=by rw[hEVe];simp
     have hG0:fj vm sm t=true→lN vm sm s at0 t=ng s EV:=fun kk=>by
      unfold lN EJ;rw[if_pos hh,hv];show(if al [iw g (bg g at0 t),if(!fj vm sm t)=true then 8 else 0]≠0 then al [iw g (bg g at0 t),if(!fj vm sm t)=true then 8 else 0]else ng s (dh g at0 t))=_;rw[hN,hm,kk,hEv,←hEVe];rw[if_neg (by simp[al])]
     refine af hT (C:= []) Tryz.func152 rfl Tryz.call152 rfl rfl rfl ?_;conv=>whnf
     repeat' (first|((first|refine rZ cX ?_|refine rZ cC ?_|refine rZ cE ?_)<;>conv=>whnf)|(refine ac (eK _ _) rfl rfl ?_;rotate_right;conv=>whnf)|((first|(refine And.intro (rfl:aK _=some (dO none)) ?_;refine dq (row':=gr g) (congrArg dO hv) ?_)|refine And.intro (rfl:aK _=some (kB oC)) ?_|refine And.intro (rfl:aK _=some [.bool false]) ?_|refine And.intro (rfl:aK _=some (pH [])) ?_|refine And.intro (rfl:aK _=some [.str []]) ?_|refine And.intro (rfl:aK _=some (lO lJ)) ?_|refine And.intro (rfl:aK _=some (dO none)) ?_|refine And.intro (rfl:aK _=some [.int .i64 0]) ?_|refine ao (fu [_,_] (by simp)) ⟨aj (by rfl) (by rfl),trivial⟩ rfl ?_|(refine aa ?_ ?_<;>intro hb<;>try simp only[az]at hb)|refine aw hT 19 cG ?_|refine aw hT 22 cD ?_|refine aw hT 11 cA ?_|refine aw hT 12 cK ?_|refine aw hT 13 cz ?_|refine aw hT 40 cJ ?_|omega|refine aA ?_|decide|assumption)<;>conv=>whnf))
     all_goals try(exfalso;contradiction)
     all_goals first
      |(exfalso;have q:s.his.has (t.texts.getD 0 [])=false:=hb;rw[hh]at q;cases q)
      |(exfalso;clear cX cC cE;apply hb;simp[al];done)
      | (have hkf:(sm.val (t.texts.getD 1 []))=false:=by
          clear cX cC cE
          cases kq:(sm.val (t.texts.getD 1 []))with
          |false=>rfl
          | true=>
            exfalso;exact hb (by show al [0,if sm.val (t.texts.getD 1 [])=false then 8 else 0]=0;rw[kq];rfl)
         have hE1:lN vm sm s at0 t=8:=by
          unfold lN EJ;rw[if_pos hh,hv];show(if al [iw g (bg g at0 t),if(!fj vm sm t)=true then 8 else 0]≠0 then al [iw g (bg g at0 t),if(!fj vm sm t)=true then 8 else 0]else ng s (dh g at0 t))=_;rw[hN,hm,hKn,hkf];simp[al]
         have hS1:jQ vm sm s at0 t=s:=by unfold jQ;rw[if_neg (by rw[hE1];decide)]
         rw[hE1,hS1];refine .ent _ _ (ae (ts:= [(6,.d (.int .i64 8))]) (rs:=cR h vm sm s) ue rfl rfl ⟨am (by clear cX cC cE;show al [0,if(!sm.val (t.texts.getD 1 []))=true then 8 else 0]=8;rw[hkf];rfl),trivial⟩ ⟨rr,rr,rr,rr,rr,rr,rr,rr,rr,rr,trivial⟩) ?_;refine .ret _ ?_;conv=>whnf
         exact⟨_,⟨rfl,rfl⟩,rr,rr,rr,rr,rr,rr,rr,rr,rr,rr,trivial⟩)
      |skip
     have hG:=hG0 (hKn.trans (by cases kq:sm.val (t.texts.getD 1 [])with|true=>rfl|false=>exact absurd (show al [0,if sm.val (t.texts.getD 1 [])=false then 8 else 0]=0 from hb) (by rw[kq];decide)))
     refine ah hT (C:= []) (ι:=Nat) (fun i=>i≤EV.length∧∀j,j<i→g9 s (EV.getD j dt)=0)
      (fun i=>aN [(0,.ptr 1000001 0),(7,.d (.str (t.texts.getD 0 []))),(10,.ptr 10 0),(12,.d (wP EV)),(172,.d (wP EV)),(173,.d (.int .i64 EV.length)),(174,.d (.int .i64 i))] ((10,.cells 60 ((gr N).map .d))::iS h vm sm s))
      (fun i=>EV.length - i) 0 ⟨by omega,fun j hj=>by omega⟩ ?_ ?_
     · refine ae Mb rfl rfl ⟨lr,lr,lr,(by subst hEVe;exact aj rfl rfl),(by subst hEVe;exact aj rfl rfl),(by subst hEVe;exact lr),lr,trivial⟩ ⟨rr,rr,rr,rr,rr,rr,rr,rr,rr,rr,rr,trivial⟩
     rintro i ⟨p1,p2⟩;have e1:(i:Int).toNat=i:=Int.toNat_natCast i;conv=>whnf
     repeat' (first|((first|(refine cj (HE h vm sm s (EV.getD (i:Int).toNat dt)) L4 ?_;rintro y rout ⟨rfl,rfl⟩;refine⟨rfl,?_⟩)|(refine And.intro (by unfold aF;omega) ?_)|(refine aa ?_ ?_<;>intro hb<;>try simp only[az]at hb)|refine aw hT 19 cG ?_|refine aw hT 22 cD ?_|refine aw hT 11 cA ?_|refine aw hT 12 cK ?_|refine aw hT 13 cz ?_|refine aw hT 40 cJ ?_|omega|refine aA ?_|decide|assumption)<;>conv=>whnf))
     all_goals first
      |(exact⟨i+1,⟨by omega,aQ p2 (by first|exact hb|simpa using hb)⟩,by omega,ae Mb rfl rfl ⟨lr,lr,lr,lr,lr,lr,lr,trivial⟩ ⟨rr,rr,rr,rr,rr,rr,rr,rr,rr,rr,rr,trivial⟩⟩)
      | (have hE1:lN vm sm s at0 t=g9 s (EV.getD i dt):=hG.trans (aT (f:=fun i=>g9 s (EV.getD i dt)) (by omega) p2 hb rfl)
         have hS1:jQ vm sm s at0 t=s:=by unfold jQ;rw[if_neg (by rw[hE1];exact hb)]
         rw[hE1,hS1];refine .ent _ _ (ae (ts:= [(6,.d (.int .i64 (g9 s (EV.getD i dt))))]) (rs:=cR h vm sm s) ue rfl rfl ⟨lr,trivial⟩ ⟨rr,rr,rr,rr,rr,rr,rr,rr,rr,rr,trivial⟩) ?_;refine .ret _ ?_;conv=>whnf
         exact⟨_,⟨rfl,rfl⟩,rr,rr,rr,rr,rr,rr,rr,rr,rr,rr,trivial⟩)
      |skip
     have hz:ng s EV=0:=aC fun j hj=>p2 j (by omega)
     have hE0:lN vm sm s at0 t=0:=hG.trans hz
     have hS0:jQ vm sm s at0 t={da s EV with his:=(da s EV).his.put (t.texts.getD 0 []) (some N)}:=by
      unfold jQ;rw[if_pos hE0,hv];show({da s (dh g at0 t)with his:=(da s (dh g at0 t)).his.put (t.texts.getD 0 []) (some (bg g at0 t))}:dA)=_;rw[hEv,hN,←hEVe,←hNe]
     rw[hE0,hS0]
     refine ah hT (C:= []) (ι:=Nat) (fun i=>i≤EV.length)
      (fun i=>aN [(0,.ptr 1000001 0),(7,.d (.str (t.texts.getD 0 []))),(10,.ptr 10 0),(185,.d (wP EV)),(186,.d (.int .i64 EV.length)),(187,.d (.int .i64 i))] ((10,.cells 60 ((gr N).map .d)):: [(1000001,AR h),(1000002,e8 false [.str []] pH vm),(1000003,e8 false [.bool false] Hj sm),(1000004,e8 true (kB oC) kB (da s (EV.take i)).sts),(60,Hi (da s (EV.take i)).log),(1000006,Ft (da s (EV.take i)).ats),(1000007,e8 true (lO lJ) lO (da s (EV.take i)).bks),(1000008,e8 true (dO none) dO (da s (EV.take i)).his),(1000010,e8 false [.int .i64 0] Er (da s (EV.take i)).paid),(1000011,Jt (da s (EV.take i)).ref)]))
      (fun i=>EV.length - i) 0 (by omega) ?_ ?_
     · refine ae P7 rfl rfl ⟨lr,lr,lr,lr,lr,lr,trivial⟩ ⟨rr,rr,rr,rr,rr,rr,rr,rr,rr,rr,rr,trivial⟩
     clear p1 p2 e1;rintro i p1;have e1:(i:Int).toNat=i:=Int.toNat_natCast i;conv=>whnf
     repeat' (first|((first|(refine cj (F3 h vm sm (da s (EV.take i)) (EV.getD (i:Int).toNat dt) (by rw[sj,List.length_append,List.length_take];omega)) Qb ?_;rintro y rout ⟨rfl,rfl⟩;refine⟨rfl,?_⟩)|(refine And.intro (by unfold aF;omega) ?_)|(refine aa ?_ ?_<;>intro hb<;>try simp only[az]at hb)|refine aw hT 19 cG ?_|refine aw hT 22 cD ?_|refine aw hT 11 cA ?_|refine aw hT 12 cK ?_|refine aw hT 13 cz ?_|refine aw hT 40 cJ ?_|omega|refine aA ?_|decide|assumption)<;>conv=>whnf))
     all_goals first
      | (refine⟨i+1,by omega,by omega,?_⟩
         have hT:=pS s EV i (by omega)
         dsimp only
         rw[hT]
         exact ae Oz rfl rfl ⟨lr,lr,lr,lr,lr,lr,trivial⟩ ⟨rr,rr,rr,rr,rr,rr,rr,rr,rr,rr,rr,trivial⟩)
      | (have hi:EV.take i=EV:=List.take_of_length_le (by omega)
         rw[hi];refine .ent _ _ (ae (ts:= [(6,.d (.int .i64 0))]) (rs:=cR h vm sm ({da s EV with his:=(da s EV).his.put (t.texts.getD 0 []) (some N)})) LZ rfl rfl ⟨lr,trivial⟩ ⟨rr,rr,rr,rr,rr,rr,rr,fK (v:=some N),rr,rr,trivial⟩) ?_;refine .ret _ ?_;conv=>whnf
         exact⟨_,⟨rfl,rfl⟩,rr,rr,rr,rr,rr,rr,rr,rr,rr,rr,trivial⟩)
   · have hH:uB g (zV g (f9 at0 t))=fp:=if_neg hm
     have hE1:lN vm sm s at0 t=iw g (zV g (f9 at0 t)):=by
      unfold lN EJ;rw[if_pos hh,hv];show(if al [iw g (bg g at0 t),if(!fj vm sm t)=true then 8 else 0]≠0 then al [iw g (bg g at0 t),if(!fj vm sm t)=true then 8 else 0]else ng s (dh g at0 t))=_;rw[hN];generalize iw g (zV g (f9 at0 t))=X at hm ⊢;simp[al,hm]
     have hS1:jQ vm sm s at0 t=s:=by unfold jQ;rw[if_neg (by rw[hE1];exact hm)]
     rw[hE1,hS1];rw[hH]at cC;clear hE1 hS1 hH hN;generalize iw g (zV g (f9 at0 t))=X at cC hm;refine af hT (C:= []) Tryz.func152 rfl Tryz.call152 rfl rfl rfl ?_;conv=>whnf
     repeat' (first|((first|refine rZ cX ?_|refine rZ cC ?_|refine rZ cE ?_)<;>conv=>whnf)|(refine ac (eK _ _) rfl rfl ?_;rotate_right;conv=>whnf)|((first|(refine And.intro (rfl:aK _=some (dO none)) ?_;refine dq (row':=gr g) (congrArg dO hv) ?_)|refine And.intro (rfl:aK _=some (kB oC)) ?_|refine And.intro (rfl:aK _=some [.bool false]) ?_|refine And.intro (rfl:aK _=some (pH [])) ?_|refine And.intro (rfl:aK _=some [.str []]) ?_|refine And.intro (rfl:aK _=some (lO lJ)) ?_|refine And.intro (rfl:aK _=some (dO none)) ?_|refine And.intro (rfl:aK _=some [.int .i64 0]) ?_|refine ao (fu [_,_] (by simp)) ⟨aj (by rfl) (by rfl),trivial⟩ rfl ?_|(refine aa ?_ ?_<;>intro hb<;>try simp only[az]at hb)|refine aw hT 19 cG ?_|refine aw hT 22 cD ?_|refine aw hT 11 cA ?_|refine aw hT 12 cK ?_|refine aw hT 13 cz ?_|refine aw hT 40 cJ ?_|omega|refine aA ?_|decide|assumption)<;>conv=>whnf))
     all_goals try(exfalso;contradiction)
     all_goals first
      |(exfalso;have q:s.his.has (t.texts.getD 0 [])=false:=hb;rw[hh]at q;cases q)
      |(exfalso;clear cX cC cE;simp[al,hm]at hb;done)
      | (refine .ent _ _ (ae (ts:= [(6,.d (.int .i64 X))]) (rs:=cR h vm sm s) ue rfl rfl ⟨am (by simp[al,hm]),trivial⟩ ⟨rr,rr,rr,rr,rr,rr,rr,rr,rr,rr,trivial⟩) ?_
         refine .ret _ ?_;conv=>whnf
         exact⟨_,⟨rfl,rfl⟩,rr,rr,rr,rr,rr,rr,rr,rr,rr,rr,trivial⟩)
 · skip
   have hN:bg g at0 t=vA g (f9 at0 t) (t.texts.getD 2 []) (g7 at0 t):=by unfold bg;rw[if_neg w1,if_neg w2]
   have hEv:dh g at0 t= [⟨at0,gA g,(t.texts.getD 1 []),3,[]⟩,⟨at0,(t.texts.getD 2 []),(t.texts.getD 1 []),2,[]⟩]:=by unfold dh;rw[if_neg w1,if_neg w2]
   have hKn:fj vm sm t=(sm.val (t.texts.getD 1 [])&&vm.has (t.texts.getD 2 [])):=by unfold fj;rw[if_neg w1,if_neg w2]
   obtain⟨hs1,hs2⟩:=hs w1 w2
   by_cases hm:iw g (vA g (f9 at0 t) (t.texts.getD 2 []) (g7 at0 t))=0
   · have hH:uB g (vA g (f9 at0 t) (t.texts.getD 2 []) (g7 at0 t))=vA g (f9 at0 t) (t.texts.getD 2 []) (g7 at0 t):=if_pos hm;rw[hH,hm]at cE;obtain⟨N,hNe⟩:∃N,N=vA g (f9 at0 t) (t.texts.getD 2 []) (g7 at0 t):=⟨_,rfl⟩;rw[←hNe]at cE;obtain⟨EV,hEVe⟩:∃EV,EV=([⟨at0,gA g,(t.texts.getD 1 []),3,[]⟩,⟨at0,(t.texts.getD 2 []),(t.texts.getD 1 []),2,[]⟩]:List cO):=⟨_,rfl⟩;have hEl:EV.length≤2:=by rw[hEVe];simp
     have hG0:fj vm sm t=true→lN vm sm s at0 t=ng s EV:=fun kk=>by
      unfold lN EJ;rw[if_pos hh,hv];show(if al [iw g (bg g at0 t),if(!fj vm sm t)=true then 8 else 0]≠0 then al [iw g (bg g at0 t),if(!fj vm sm t)=true then 8 else 0]else ng s (dh g at0 t))=_;rw[hN,hm,kk,hEv,←hEVe];rw[if_neg (by simp[al])]
     refine af hT (C:= []) Tryz.func152 rfl Tryz.call152 rfl rfl rfl ?_;conv=>whnf
     repeat' (first|((first|refine rZ cX ?_|refine rZ cC ?_|refine rZ cE ?_)<;>conv=>whnf)|(refine ac (eK _ _) rfl rfl ?_;rotate_right;conv=>whnf)|((first|(refine And.intro (rfl:aK _=some (dO none)) ?_;refine dq (row':=gr g) (congrArg dO hv) ?_)|refine And.intro (rfl:aK _=some (kB oC)) ?_|refine And.intro (rfl:aK _=some [.bool false]) ?_|refine And.intro (rfl:aK _=some (pH [])) ?_|refine And.intro (rfl:aK _=some [.str []]) ?_|refine And.intro (rfl:aK _=some (lO lJ)) ?_|refine And.intro (rfl:aK _=some (dO none)) ?_|refine And.intro (rfl:aK _=some [.int .i64 0]) ?_|refine ao (fu [_,_] (by simp)) ⟨aj (by rfl) (by rfl),trivial⟩ rfl ?_|(refine aa ?_ ?_<;>intro hb<;>try simp only[az]at hb)|refine aw hT 19 cG ?_|refine aw hT 22 cD ?_|refine aw hT 11 cA ?_|refine aw hT 12 cK ?_|refine aw hT 13 cz ?_|refine aw hT 40 cJ ?_|omega|refine aA ?_|decide|assumption)<;>conv=>whnf))
     all_goals try(exfalso;contradiction)
     all_goals first
      |(exfalso;have q:s.his.has (t.texts.getD 0 [])=false:=hb;rw[hh]at q;cases q)
      |(exfalso;clear cX cC cE;apply hb;simp[al];done)
      | (have hkf:((sm.val (t.texts.getD 1 [])&&vm.has (t.texts.getD 2 [])))=false:=by
          clear cX cC cE
          cases kq:((sm.val (t.texts.getD 1 [])&&vm.has (t.texts.getD 2 [])))with
          |false=>rfl
          | true=>
            exfalso
            (clear hc hs hx h3 hm hH;(try simp only[bW,show Int.toNat 1=1 from rfl,show Int.toNat 2=2 from rfl]at*);first|(simp_all [al];done)|grind [al])
         have hE1:lN vm sm s at0 t=8:=by
          unfold lN EJ;rw[if_pos hh,hv];show(if al [iw g (bg g at0 t),if(!fj vm sm t)=true then 8 else 0]≠0 then al [iw g (bg g at0 t),if(!fj vm sm t)=true then 8 else 0]else ng s (dh g at0 t))=_;rw[hN,hm,hKn,hkf];simp[al]
         have hS1:jQ vm sm s at0 t=s:=by unfold jQ;rw[if_neg (by rw[hE1];decide)]
         rw[hE1,hS1];refine .ent _ _ (ae (ts:= [(6,.d (.int .i64 8))]) (rs:=cR h vm sm s) ue rfl rfl ⟨am (by clear cX cC cE;clear hc hs hx h3 hm hH;(try simp only[bW,show Int.toNat 1=1 from rfl,show Int.toNat 2=2 from rfl]at*);first|(simp_all [al];done)|grind [al]),trivial⟩ ⟨rr,rr,rr,rr,rr,rr,rr,rr,rr,rr,trivial⟩) ?_;refine .ret _ ?_;conv=>whnf
         exact⟨_,⟨rfl,rfl⟩,rr,rr,rr,rr,rr,rr,rr,rr,rr,rr,trivial⟩)
      |skip
     have hG:=hG0 (hKn.trans (by clear hc hs hx h3 hm hH hG0 cX cC cE;(try simp only[bW,show Int.toNat 1=1 from rfl,show Int.toNat 2=2 from rfl]at*);first|(simp_all [al];done)|grind [al]))
     refine ah hT (C:= []) (ι:=Nat) (fun i=>i≤EV.length∧∀j,j<i→g9 s (EV.getD j dt)=0)
      (fun i=>aN [(0,.ptr 1000001 0),(7,.d (.str (t.texts.getD 0 []))),(10,.ptr 10 0),(12,.d (wP EV)),(172,.d (wP EV)),(173,.d (.int .i64 EV.length)),(174,.d (.int .i64 i))] ((10,.cells 60 ((gr N).map .d))::iS h vm sm s))
      (fun i=>EV.length - i) 0 ⟨by omega,fun j hj=>by omega⟩ ?_ ?_
     · refine ae Mb rfl rfl ⟨lr,lr,lr,(by subst hEVe;exact aj rfl rfl),(by subst hEVe;exact aj rfl rfl),(by subst hEVe;exact lr),lr,trivial⟩ ⟨rr,rr,rr,rr,rr,rr,rr,rr,rr,rr,rr,trivial⟩
     rintro i ⟨p1,p2⟩;have e1:(i:Int).toNat=i:=Int.toNat_natCast i;conv=>whnf
     repeat' (first|((first|(refine cj (HE h vm sm s (EV.getD (i:Int).toNat dt)) L4 ?_;rintro y rout ⟨rfl,rfl⟩;refine⟨rfl,?_⟩)|(refine And.intro (by unfold aF;omega) ?_)|(refine aa ?_ ?_<;>intro hb<;>try simp only[az]at hb)|refine aw hT 19 cG ?_|refine aw hT 22 cD ?_|refine aw hT 11 cA ?_|refine aw hT 12 cK ?_|refine aw hT 13 cz ?_|refine aw hT 40 cJ ?_|omega|refine aA ?_|decide|assumption)<;>conv=>whnf))
     all_goals first
      |(exact⟨i+1,⟨by omega,aQ p2 (by first|exact hb|simpa using hb)⟩,by omega,ae Mb rfl rfl ⟨lr,lr,lr,lr,lr,lr,lr,trivial⟩ ⟨rr,rr,rr,rr,rr,rr,rr,rr,rr,rr,rr,trivial⟩⟩)
      | (have hE1:lN vm sm s at0 t=g9 s (EV.getD i dt):=hG.trans (aT (f:=fun i=>g9 s (EV.getD i dt)) (by omega) p2 hb rfl)
         have hS1:jQ vm sm s at0 t=s:=by unfold jQ;rw[if_neg (by rw[hE1];exact hb)]
         rw[hE1,hS1];refine .ent _ _ (ae (ts:= [(6,.d (.int .i64 (g9 s (EV.getD i dt))))]) (rs:=cR h vm sm s) ue rfl rfl ⟨lr,trivial⟩ ⟨rr,rr,rr,rr,rr,rr,rr,rr,rr,rr,trivial⟩) ?_;refine .ret _ ?_;conv=>whnf
         exact⟨_,⟨rfl,rfl⟩,rr,rr,rr,rr,rr,rr,rr,rr,rr,rr,trivial⟩)
      |skip
     have hz:ng s EV=0:=aC fun j hj=>p2 j (by omega)
     have hE0:lN vm sm s at0 t=0:=hG.trans hz
     have hS0:jQ vm sm s at0 t={da s EV with his:=(da s EV).his.put (t.texts.getD 0 []) (some N)}:=by
      unfold jQ;rw[if_pos hE0,hv];show({da s (dh g at0 t)with his:=(da s (dh g at0 t)).his.put (t.texts.getD 0 []) (some (bg g at0 t))}:dA)=_;rw[hEv,hN,←hEVe,←hNe]
     rw[hE0,hS0]
     refine ah hT (C:= []) (ι:=Nat) (fun i=>i≤EV.length)
      (fun i=>aN [(0,.ptr 1000001 0),(7,.d (.str (t.texts.getD 0 []))),(10,.ptr 10 0),(185,.d (wP EV)),(186,.d (.int .i64 EV.length)),(187,.d (.int .i64 i))] ((10,.cells 60 ((gr N).map .d)):: [(1000001,AR h),(1000002,e8 false [.str []] pH vm),(1000003,e8 false [.bool false] Hj sm),(1000004,e8 true (kB oC) kB (da s (EV.take i)).sts),(60,Hi (da s (EV.take i)).log),(1000006,Ft (da s (EV.take i)).ats),(1000007,e8 true (lO lJ) lO (da s (EV.take i)).bks),(1000008,e8 true (dO none) dO (da s (EV.take i)).his),(1000010,e8 false [.int .i64 0] Er (da s (EV.take i)).paid),(1000011,Jt (da s (EV.take i)).ref)]))
      (fun i=>EV.length - i) 0 (by omega) ?_ ?_
     · refine ae P7 rfl rfl ⟨lr,lr,lr,lr,lr,lr,trivial⟩ ⟨rr,rr,rr,rr,rr,rr,rr,rr,rr,rr,rr,trivial⟩
     clear p1 p2 e1;rintro i p1;have e1:(i:Int).toNat=i:=Int.toNat_natCast i;conv=>whnf
     repeat' (first|((first|(refine cj (F3 h vm sm (da s (EV.take i)) (EV.getD (i:Int).toNat dt) (by rw[sj,List.length_append,List.length_take];omega)) Qb ?_;rintro y rout ⟨rfl,rfl⟩;refine⟨rfl,?_⟩)|(refine And.intro (by unfold aF;omega) ?_)|(refine aa ?_ ?_<;>intro hb<;>try simp only[az]at hb)|refine aw hT 19 cG ?_|refine aw hT 22 cD ?_|refine aw hT 11 cA ?_|refine aw hT 12 cK ?_|refine aw hT 13 cz ?_|refine aw hT 40 cJ ?_|omega|refine aA ?_|decide|assumption)<;>conv=>whnf))
     all_goals first
      | (refine⟨i+1,by omega,by omega,?_⟩
         have hT:=pS s EV i (by omega)
         dsimp only
         rw[hT]
         exact ae Oz rfl rfl ⟨lr,lr,lr,lr,lr,lr,trivial⟩ ⟨rr,rr,rr,rr,rr,rr,rr,rr,rr,rr,rr,trivial⟩)
      | (have hi:EV.take i=EV:=List.take_of_length_le (by omega)
         rw[hi];refine .ent _ _ (ae (ts:= [(6,.d (.int .i64 0))]) (rs:=cR h vm sm ({da s EV with his:=(da s EV).his.put (t.texts.getD 0 []) (some N)})) LZ rfl rfl ⟨lr,trivial⟩ ⟨rr,rr,rr,rr,rr,rr,rr,fK (v:=some N),rr,rr,trivial⟩) ?_;refine .ret _ ?_;conv=>whnf
         exact⟨_,⟨rfl,rfl⟩,rr,rr,rr,rr,rr,rr,rr,rr,rr,rr,trivial⟩)
   · have hH:uB g (vA g (f9 at0 t) (t.texts.getD 2 []) (g7 at0 t))=fp:=if_neg hm
     have hE1:lN vm sm s at0 t=iw g (vA g (f9 at0 t) (t.texts.getD 2 []) (g7 at0 t)):=by
      unfold lN EJ;rw[if_pos hh,hv];show(if al [iw g (bg g at0 t),if(!fj vm sm t)=true then 8 else 0]≠0 then al [iw g (bg g at0 t),if(!fj vm sm t)=true then 8 else 0]else ng s (dh g at0 t))=_;rw[hN];generalize iw g (vA g (f9 at0 t) (t.texts.getD 2 []) (g7 at0 t))=X at hm ⊢;simp[al,hm]
     have hS1:jQ vm sm s at0 t=s:=by unfold jQ;rw[if_neg (by rw[hE1];exact hm)]
     rw[hE1,hS1];rw[hH]at cE;clear hE1 hS1 hH hN;generalize iw g (vA g (f9 at0 t) (t.texts.getD 2 []) (g7 at0 t))=X at cE hm;refine af hT (C:= []) Tryz.func152 rfl Tryz.call152 rfl rfl rfl ?_;conv=>whnf
     repeat' (first|((first|refine rZ cX ?_|refine rZ cC ?_|refine rZ cE ?_)<;>conv=>whnf)|(refine ac (eK _ _) rfl rfl ?_;rotate_right;conv=>whnf)|((first|(refine And.intro (rfl:aK _=some (dO none)) ?_;refine dq (row':=gr g) (congrArg dO hv) ?_)|refine And.intro (rfl:aK _=some (kB oC)) ?_|refine And.intro (rfl:aK _=some [.bool false]) ?_|refine And.intro (rfl:aK _=some (pH [])) ?_|refine And.intro (rfl:aK _=some [.str []]) ?_|refine And.intro (rfl:aK _=some (lO lJ)) ?_|refine And.intro (rfl:aK _=some (dO none)) ?_|refine And.intro (rfl:aK _=some [.int .i64 0]) ?_|refine ao (fu [_,_] (by simp)) ⟨aj (by rfl) (by rfl),trivial⟩ rfl ?_|(refine aa ?_ ?_<;>intro hb<;>try simp only[az]at hb)|refine aw hT 19 cG ?_|refine aw hT 22 cD ?_|refine aw hT 11 cA ?_|refine aw hT 12 cK ?_|refine aw hT 13 cz ?_|refine aw hT 40 cJ ?_|omega|refine aA ?_|decide|assumption)<;>conv=>whnf))
     all_goals try(exfalso;contradiction)
     all_goals first
      |(exfalso;have q:s.his.has (t.texts.getD 0 [])=false:=hb;rw[hh]at q;cases q)
      |(exfalso;clear cX cC cE;simp[al,hm]at hb;done)
      | (refine .ent _ _ (ae (ts:= [(6,.d (.int .i64 X))]) (rs:=cR h vm sm s) ue rfl rfl ⟨am (by simp[al,hm]),trivial⟩ ⟨rr,rr,rr,rr,rr,rr,rr,rr,rr,rr,trivial⟩) ?_
         refine .ret _ ?_;conv=>whnf
         exact⟨_,⟨rfl,rfl⟩,rr,rr,rr,rr,rr,rr,rr,rr,rr,rr,trivial⟩)
def om:OL:= [(0,[]),(1,[]),(7,[0,1]),(2,[0,1,7]),(3,[7]),(4,[7]),(5,[7]),(6,[7,5]),(8,[6]),(9,[])]
def oy:OL:= [(1,[]),(2,[]),(0,[1,2]),(3,[]),(4,[]),(5,[]),(6,[5]),(7,[6]),(8,[])]
def nC:OL:= [(0,[]),(1,[]),(2,[0,1]),(3,[0,1]),(4,[0,1]),(5,[0,1]),(6,rg 6),(7,rg 6),(8,rg 6),(9,rg 6),(10,rg 10),(11,[]),(12,rg 12),(13,[])]
def mo:OL:= [(0,[]),(1,[0]),(2,[0]),(3,[0]),(4,[0]),(5,rg 5),(6,rg 5),(7,rg 5),(8,rg 5),(9,rg 9),(10,rg 9),(11,rg 9),(12,rg 9),(13,rg 13),(14,rg 13),(15,rg 13),(16,rg 13),(17,rg 9),(18,rg 18),(19,rg 18),(20,rg 20),(21,rg 20),(22,rg 20),(23,rg 20),(24,[0]),(25,[]),(26,[])]
def mc:OL:= [(0,[]),(1,[]),(2,[]),(3,[]),(4,rg 4),(5,rg 4),(6,rg 4),(7,rg 4),(8,[]),(9,[]),(10,[]),(11,[10]),(12,rg 12),(13,[11]),(14,[])]
def mu:OL:= [(0,[]),(1,[]),(2,[]),(3,[]),(4,rg 4),(5,rg 4),(6,rg 4),(7,rg 4),(8,[])]
def l7:OL:= [(0,[]),(1,[0]),(2,[0]),(3,[0]),(4,[0]),(5,rg 5),(6,rg 5),(7,rg 5),(8,rg 5),(9,[]),(10,[])]
structure qU (s:dA):Prop where
 log:s.log.length≤2^18
 paid:∀k,-2^40≤s.paid.val k∧s.paid.val k≤2^40
 fb:MA s.bks.has
 fh:MA s.his.has
 non:∀k,s.his.has k=false→s.his.val k=none
 his:∀k,s.his.has k=true→∃g,s.his.val k=some g∧Cy g∧1≤g.legs.length∧g.legs.length<2^19
theorem Fq (h:ed)(vm:Mp (List UInt8))(sm:Mp Bool)(s:dA)(x:bx)(hx:x.words.length≤2^20)(hf:∀k,(formsM.val k).length≤2^20)(ht:je formsM x.words=false):
 ai Tryz.prog 101 [.ptr 1000001 0,.agg ((iu x).map .d)] ((1000009,KX)::iS h vm sm s) (fun y r=>y= .d (.int .i64 9)∧r=(1000009,KX)::cR h vm sm s):=by
 have c1:=tn formsM hf x.words hx;rw[ht]at c1;refine af hT (C:= []) Tryz.func101 rfl Tryz.call101 rfl rfl rfl ?_;conv=>whnf
 repeat' (first|((first|(refine cj lY [(1,20)] ?_;rintro y rout ⟨rfl,rfl⟩;refine⟨rfl,?_⟩)|(refine cj c1 [(1000001,20),(1000009,1000009)] ?_;rintro y rout ⟨rfl,rfl⟩;refine⟨rfl,?_⟩)|(refine aa ?_ ?_<;>intro hb<;>try simp only[az]at hb)|refine aw hT 1 om ?_|refine aw hT 4 oy ?_|refine aw hT 6 nC ?_|refine aw hT 12 mo ?_|refine aw hT 14 mc ?_|refine aw hT 17 mu ?_|refine aw hT 22 l7 ?_|omega|refine aA ?_|decide|assumption)<;>conv=>whnf))
 refine .ent _ _ (ae (ts:= [(4,.d (.int .i64 9))]) (rs:=(1000009,KX)::cR h vm sm s) Ov rfl rfl ⟨lr,trivial⟩ ⟨rr,rr,rr,rr,rr,rr,rr,rr,rr,rr,rr,trivial⟩) ?_;refine .ret _ ?_;conv=>whnf
 exact⟨_,⟨rfl,rfl⟩,rr,rr,rr,rr,rr,rr,rr,rr,rr,rr,rr,trivial⟩
structure BC (t:mh):Prop where
 tx:∀j,(t.texts.getD j []).length≤2^20
 nm:∀j,-10^9≤t.nums.getD j 0∧t.nums.getD j 0≤10^9
 ev:aU.has t.word=true→2≤t.texts.length
 lv:aU.has t.word=true→aU.val t.word=6→3≤t.texts.length
 bk:t.word= [98,111,111,107]→2≤t.texts.length∧3≤t.nums.length
 cn:t.word= [99,97,110,99,101,108]→1≤t.texts.length
 st:t.word= [115,116,97,114,116]→4≤t.texts.length∧3≤t.nums.length
 py:t.word= [112,97,121]→1≤t.texts.length∧1≤t.nums.length
 ch:aU.has t.word=false→t.word≠ [98,111,111,107]→t.word≠ [99,97,110,99,101,108]→t.word≠ [115,116,97,114,116]→t.word≠ [112,97,121]→1≤t.texts.length∧(t.word= [101,120,116,101,110,100]→1≤t.nums.length)∧(t.word= [99,108,111,115,101]→2≤t.texts.length∧2≤t.nums.length)∧(t.word≠ [101,120,116,101,110,100]→t.word≠ [99,108,111,115,101]→3≤t.texts.length∧4≤t.nums.length)
def gD (tm:Int)(t:mh):cO:=⟨tm,t.texts.getD 0 [],t.texts.getD 1 [],aU.val t.word,if aU.val t.word=6 then t.texts.getD 2 []else []⟩
set_option maxHeartbeats 4000000 in
theorem Gy (h:ed)(vm:Mp (List UInt8))(sm:Mp Bool)(s:dA)(hs:qU s)(x:bx)(hx:x.words.length≤2^20)(hf:∀k,(formsM.val k).length≤2^20)(ht:je formsM x.words=true)(t:mh)(hte:dw formsM x.words=t)(hk:BC t)(hk1:aU.has t.word=true):
 ai Tryz.prog 101 [.ptr 1000001 0,.agg ((iu x).map .d)] ((1000009,KX)::iS h vm sm s) (fun y r=>y= .d (.int .i64 (nf vm sm s (gD x.tm t)))∧r=(1000009,KX)::cR h vm sm (lL vm sm s (gD x.tm t))):=by
 have c1:=tn formsM hf x.words hx;rw[ht,if_pos rfl,hte]at c1;have h2:=hk.ev hk1;have h3:=hk.lv hk1;have c2:=Pq h vm sm s (gD x.tm t) (by have:=hs.log;omega);have hEv:gD x.tm t=⟨x.tm,t.texts.getD 0 [],t.texts.getD 1 [],aU.val t.word,if aU.val t.word=6 then t.texts.getD 2 []else []⟩:=rfl;generalize gD x.tm t=V at c2 hEv ⊢
 by_cases k6:aU.val t.word=6
 · rw[if_pos k6]at hEv;have h4:=h3 k6;subst hEv;refine af hT (C:= []) Tryz.func101 rfl Tryz.call101 rfl rfl rfl ?_;conv=>whnf
   repeat' (first|((first|(refine cj lY [(1,20)] ?_;rintro y rout ⟨rfl,rfl⟩;refine⟨rfl,?_⟩)|(refine cj nV [(1,30)] ?_;rintro y rout ⟨rfl,rfl⟩;refine⟨rfl,?_⟩)|(refine cj c1 [(1000001,20),(1000009,1000009)] ?_;rintro y rout ⟨rfl,rfl⟩;refine⟨rfl,?_⟩)|(refine cj (c2) Ir ?_;rintro y rout ⟨rfl,rfl⟩;refine⟨rfl,?_⟩)|refine And.intro (rfl:aK _=some [DV.int .i64 0]) ?_|(refine aa ?_ ?_<;>intro hb<;>try simp only[az]at hb)|refine aw hT 1 om ?_|refine aw hT 4 oy ?_|refine aw hT 6 nC ?_|refine aw hT 12 mo ?_|refine aw hT 14 mc ?_|refine aw hT 17 mu ?_|refine aw hT 22 l7 ?_|omega|refine aA ?_|decide|assumption)<;>conv=>whnf))
   all_goals first
    | (exfalso;have q:aU.has t.word=false:=by assumption
       rw[hk1]at q;cases q)
    | (exfalso;have q:¬aU.val t.word=6:=by assumption
       exact q k6)
    | (exfalso;have q:aU.val t.word=6:=by assumption
       exact k6 q)
    | (refine .ent _ _ (ae (ts:= [(4,.d (.int .i64 (nf vm sm s ⟨x.tm,t.texts.getD 0 [],t.texts.getD 1 [],aU.val t.word,t.texts.getD 2 []⟩)))]) (rs:=(1000009,KX)::cR h vm sm (lL vm sm s ⟨x.tm,t.texts.getD 0 [],t.texts.getD 1 [],aU.val t.word,t.texts.getD 2 []⟩)) LX rfl rfl ⟨lr,trivial⟩ ⟨rr,rr,rr,rr,rr,rr,rr,rr,rr,rr,rr,trivial⟩) ?_
       refine .ret _ ?_;conv=>whnf
       exact⟨_,⟨rfl,rfl⟩,rr,rr,rr,rr,rr,rr,rr,rr,rr,rr,rr,trivial⟩)
 · rw[if_neg k6]at hEv;subst hEv;refine af hT (C:= []) Tryz.func101 rfl Tryz.call101 rfl rfl rfl ?_;conv=>whnf
   repeat' (first|((first|(refine cj lY [(1,20)] ?_;rintro y rout ⟨rfl,rfl⟩;refine⟨rfl,?_⟩)|(refine cj nV [(1,30)] ?_;rintro y rout ⟨rfl,rfl⟩;refine⟨rfl,?_⟩)|(refine cj c1 [(1000001,20),(1000009,1000009)] ?_;rintro y rout ⟨rfl,rfl⟩;refine⟨rfl,?_⟩)|(refine cj (c2) Ir ?_;rintro y rout ⟨rfl,rfl⟩;refine⟨rfl,?_⟩)|refine And.intro (rfl:aK _=some [DV.int .i64 0]) ?_|(refine aa ?_ ?_<;>intro hb<;>try simp only[az]at hb)|refine aw hT 1 om ?_|refine aw hT 4 oy ?_|refine aw hT 6 nC ?_|refine aw hT 12 mo ?_|refine aw hT 14 mc ?_|refine aw hT 17 mu ?_|refine aw hT 22 l7 ?_|omega|refine aA ?_|decide|assumption)<;>conv=>whnf))
   all_goals first
    | (exfalso;have q:aU.has t.word=false:=by assumption
       rw[hk1]at q;cases q)
    | (exfalso;have q:¬aU.val t.word=6:=by assumption
       exact q k6)
    | (exfalso;have q:aU.val t.word=6:=by assumption
       exact k6 q)
    | (refine .ent _ _ (ae (ts:= [(4,.d (.int .i64 (nf vm sm s ⟨x.tm,t.texts.getD 0 [],t.texts.getD 1 [],aU.val t.word,[]⟩)))]) (rs:=(1000009,KX)::cR h vm sm (lL vm sm s ⟨x.tm,t.texts.getD 0 [],t.texts.getD 1 [],aU.val t.word,[]⟩)) LX rfl rfl ⟨lr,trivial⟩ ⟨rr,rr,rr,rr,rr,rr,rr,rr,rr,rr,rr,trivial⟩) ?_
       refine .ret _ ?_;conv=>whnf
       exact⟨_,⟨rfl,rfl⟩,rr,rr,rr,rr,rr,rr,rr,rr,rr,rr,rr,trivial⟩)
def kS:OL:= [(0,[]),(1,[]),(7,[0,1]),(2,[0,1,7]),(3,[7]),(4,[7]),(5,[7]),(6,[7,5]),(8,[6]),(9,[])]
def kE:OL:= [(1,[]),(2,[]),(0,[1,2]),(3,[]),(4,[]),(5,[]),(6,[5]),(7,[6]),(8,[])]
def kH:OL:= [(0,[]),(1,[]),(2,[0,1]),(3,[0,1]),(4,[0,1]),(5,[0,1]),(6,rg 6),(7,rg 6),(8,rg 6),(9,rg 6),(10,rg 10),(11,[]),(12,rg 12),(13,[])]
def jC:OL:= [(0,[]),(1,[0]),(2,[0]),(3,[0]),(4,[0]),(5,rg 5),(6,rg 5),(7,rg 5),(8,rg 5),(9,rg 9),(10,rg 9),(11,rg 9),(12,rg 9),(13,rg 13),(14,rg 13),(15,rg 13),(16,rg 13),(17,rg 9),(18,rg 18),(19,rg 18),(20,rg 20),(21,rg 20),(22,rg 20),(23,rg 20),(24,[0]),(25,[]),(26,[])]
def jy:OL:= [(0,[]),(1,[]),(2,[]),(3,[]),(4,rg 4),(5,rg 4),(6,rg 4),(7,rg 4),(8,[]),(9,[]),(10,[]),(11,[10]),(12,rg 12),(13,[11]),(14,[])]
def jo:OL:= [(0,[]),(1,[]),(2,[]),(3,[]),(4,rg 4),(5,rg 4),(6,rg 4),(7,rg 4),(8,[])]
def jp:OL:= [(0,[]),(1,[0]),(2,[0]),(3,[0]),(4,[0]),(5,rg 5),(6,rg 5),(7,rg 5),(8,rg 5),(9,[]),(10,[])]
set_option maxHeartbeats 4000000 in
theorem GP (h:ed)(hco:lT h.flt.cls)(vm:Mp (List UInt8))(sm:Mp Bool)(s:dA)(hs:qU s)(x:bx)(hx:x.words.length≤2^20)(hf:∀k,(formsM.val k).length≤2^20)(ht:je formsM x.words=true)(t:mh)(hte:dw formsM x.words=t)(hk:BC t)(hk1:aU.has t.word=false)(hw:t.word= [98,111,111,107]):
 ai Tryz.prog 101 [.ptr 1000001 0,.agg ((iu x).map .d)] ((1000009,KX)::iS h vm sm s) (fun y r=>y= .d (.int .i64 (gz h s ⟨t.texts.getD 0 [],t.texts.getD 1 [],t.nums.getD 0 0,t.nums.getD 1 0,x.tm,t.nums.getD 2 0⟩))∧r=(1000009,KX)::cR h vm sm (gf h s ⟨t.texts.getD 0 [],t.texts.getD 1 [],t.nums.getD 0 0,t.nums.getD 1 0,x.tm,t.nums.getD 2 0⟩)):=by
 have c1:=tn formsM hf x.words hx;rw[ht,if_pos rfl,hte]at c1;obtain⟨l1,l2⟩:=hk.bk hw;have l3:=hk.tx;have c2:=M3 h hco vm sm s ⟨t.texts.getD 0 [],t.texts.getD 1 [],t.nums.getD 0 0,t.nums.getD 1 0,x.tm,t.nums.getD 2 0⟩ (by have:=l3 0;show(t.texts.getD 0 []).length≤_;omega) (by have:=l3 1;show(t.texts.getD 1 []).length≤_;omega) hs.fb;refine af hT (C:= []) Tryz.func101 rfl Tryz.call101 rfl rfl rfl ?_;conv=>whnf
 repeat' (first|((first|(refine cj lY [(1,20)] ?_;rintro y rout ⟨rfl,rfl⟩;refine⟨rfl,?_⟩)|(refine cj nV [(1,30)] ?_;rintro y rout ⟨rfl,rfl⟩;refine⟨rfl,?_⟩)|(refine cj c1 [(1000001,20),(1000009,1000009)] ?_;rintro y rout ⟨rfl,rfl⟩;refine⟨rfl,?_⟩)|refine And.intro (rfl:aK _=some [DV.int .i64 0]) ?_|(refine cj (c2) Ir ?_;rintro y rout ⟨rfl,rfl⟩;refine⟨rfl,?_⟩)|(refine aa ?_ ?_<;>intro hb<;>try simp only[az]at hb)|refine aw hT 1 kS ?_|refine aw hT 4 kE ?_|refine aw hT 6 kH ?_|refine aw hT 12 jC ?_|refine aw hT 14 jy ?_|refine aw hT 17 jo ?_|refine aw hT 22 jp ?_|omega|refine aA ?_|decide|assumption)<;>conv=>whnf))
 all_goals try(exfalso;contradiction)
 all_goals try (exfalso;have q:aU.has t.word=true:=by assumption
                rw[hk1]at q;cases q)
 all_goals
  refine .ent _ _ (ae (ts:= [(4,.d (.int .i64 (gz h s ⟨t.texts.getD 0 [],t.texts.getD 1 [],t.nums.getD 0 0,t.nums.getD 1 0,x.tm,t.nums.getD 2 0⟩)))]) (rs:=(1000009,KX)::cR h vm sm (gf h s ⟨t.texts.getD 0 [],t.texts.getD 1 [],t.nums.getD 0 0,t.nums.getD 1 0,x.tm,t.nums.getD 2 0⟩)) LX rfl rfl ⟨lr,trivial⟩ ⟨rr,rr,rr,rr,rr,rr,rr,rr,rr,rr,rr,trivial⟩) ?_;refine .ret _ ?_;conv=>whnf
  exact⟨_,⟨rfl,rfl⟩,rr,rr,rr,rr,rr,rr,rr,rr,rr,rr,rr,trivial⟩
set_option maxHeartbeats 4000000 in
theorem EY (h:ed)(hco:lT h.flt.cls)(vm:Mp (List UInt8))(sm:Mp Bool)(s:dA)(hs:qU s)(x:bx)(hx:x.words.length≤2^20)(hf:∀k,(formsM.val k).length≤2^20)(ht:je formsM x.words=true)(t:mh)(hte:dw formsM x.words=t)(hk:BC t)(hk1:aU.has t.word=false)(hw:t.word= [115,116,97,114,116])(hw1:¬t.word= [98,111,111,107])(hw2:¬t.word= [99,97,110,99,101,108]):
 ai Tryz.prog 101 [.ptr 1000001 0,.agg ((iu x).map .d)] ((1000009,KX)::iS h vm sm s) (fun y r=>y= .d (.int .i64 (Bu vm sm s x.tm t))∧r=(1000009,KX)::cR h vm sm (r7 vm sm s x.tm t)):=by
 have c1:=tn formsM hf x.words hx;rw[ht,if_pos rfl,hte]at c1;obtain⟨l1,l2⟩:=hk.st hw;have l3:=hk.tx;have c2:=Q6 h vm sm s (by have:=hs.log;omega) x.tm t l1 l2 (fun j=>by have:=l3 j;omega) hs.fh;refine af hT (C:= []) Tryz.func101 rfl Tryz.call101 rfl rfl rfl ?_;conv=>whnf
 repeat' (first|((first|(refine cj lY [(1,20)] ?_;rintro y rout ⟨rfl,rfl⟩;refine⟨rfl,?_⟩)|(refine cj nV [(1,30)] ?_;rintro y rout ⟨rfl,rfl⟩;refine⟨rfl,?_⟩)|(refine cj c1 [(1000001,20),(1000009,1000009)] ?_;rintro y rout ⟨rfl,rfl⟩;refine⟨rfl,?_⟩)|refine And.intro (rfl:aK _=some [DV.int .i64 0]) ?_|(refine cj (c2) Ir ?_;rintro y rout ⟨rfl,rfl⟩;refine⟨rfl,?_⟩)|(refine aa ?_ ?_<;>intro hb<;>try simp only[az]at hb)|refine aw hT 1 kS ?_|refine aw hT 4 kE ?_|refine aw hT 6 kH ?_|refine aw hT 12 jC ?_|refine aw hT 14 jy ?_|refine aw hT 17 jo ?_|refine aw hT 22 jp ?_|omega|refine aA ?_|decide|assumption)<;>conv=>whnf))
 all_goals try(exfalso;contradiction)
 all_goals try (exfalso;have q:aU.has t.word=true:=by assumption
                rw[hk1]at q;cases q)
 all_goals
  refine .ent _ _ (ae (ts:= [(4,.d (.int .i64 (Bu vm sm s x.tm t)))]) (rs:=(1000009,KX)::cR h vm sm (r7 vm sm s x.tm t)) LX rfl rfl ⟨lr,trivial⟩ ⟨rr,rr,rr,rr,rr,rr,rr,rr,rr,rr,rr,trivial⟩) ?_;refine .ret _ ?_;conv=>whnf
  exact⟨_,⟨rfl,rfl⟩,rr,rr,rr,rr,rr,rr,rr,rr,rr,rr,rr,trivial⟩
set_option maxHeartbeats 4000000 in
theorem GU (h:ed)(hco:lT h.flt.cls)(vm:Mp (List UInt8))(sm:Mp Bool)(s:dA)(hs:qU s)(x:bx)(hx:x.words.length≤2^20)(hf:∀k,(formsM.val k).length≤2^20)(ht:je formsM x.words=true)(t:mh)(hte:dw formsM x.words=t)(hk:BC t)(hk1:aU.has t.word=false)(hw:t.word= [112,97,121])(hw1:¬t.word= [98,111,111,107])(hw2:¬t.word= [99,97,110,99,101,108])(hw3:¬t.word= [115,116,97,114,116]):
 ai Tryz.prog 101 [.ptr 1000001 0,.agg ((iu x).map .d)] ((1000009,KX)::iS h vm sm s) (fun y r=>y= .d (.int .i64 (j8 s (t.texts.getD 0 []) (t.nums.getD 0 0)))∧r=(1000009,KX)::cR h vm sm (li s (t.texts.getD 0 []) (t.nums.getD 0 0))):=by
 have c1:=tn formsM hf x.words hx;rw[ht,if_pos rfl,hte]at c1;obtain⟨l1,l2⟩:=hk.py hw;have l3:=hk.nm 0;have c2:=Ox h vm sm s (t.texts.getD 0 []) (t.nums.getD 0 0) (by omega) (hs.paid _);refine af hT (C:= []) Tryz.func101 rfl Tryz.call101 rfl rfl rfl ?_;conv=>whnf
 repeat' (first|((first|(refine cj lY [(1,20)] ?_;rintro y rout ⟨rfl,rfl⟩;refine⟨rfl,?_⟩)|(refine cj nV [(1,30)] ?_;rintro y rout ⟨rfl,rfl⟩;refine⟨rfl,?_⟩)|(refine cj c1 [(1000001,20),(1000009,1000009)] ?_;rintro y rout ⟨rfl,rfl⟩;refine⟨rfl,?_⟩)|refine And.intro (rfl:aK _=some [DV.int .i64 0]) ?_|(refine cj (c2) Ir ?_;rintro y rout ⟨rfl,rfl⟩;refine⟨rfl,?_⟩)|(refine aa ?_ ?_<;>intro hb<;>try simp only[az]at hb)|refine aw hT 1 kS ?_|refine aw hT 4 kE ?_|refine aw hT 6 kH ?_|refine aw hT 12 jC ?_|refine aw hT 14 jy ?_|refine aw hT 17 jo ?_|refine aw hT 22 jp ?_|omega|refine aA ?_|decide|assumption)<;>conv=>whnf))
 all_goals try(exfalso;contradiction)
 all_goals try (exfalso;have q:aU.has t.word=true:=by assumption
                rw[hk1]at q;cases q)
 all_goals
  refine .ent _ _ (ae (ts:= [(4,.d (.int .i64 (j8 s (t.texts.getD 0 []) (t.nums.getD 0 0))))]) (rs:=(1000009,KX)::cR h vm sm (li s (t.texts.getD 0 []) (t.nums.getD 0 0))) LX rfl rfl ⟨lr,trivial⟩ ⟨rr,rr,rr,rr,rr,rr,rr,rr,rr,rr,rr,trivial⟩) ?_;refine .ret _ ?_;conv=>whnf
  exact⟨_,⟨rfl,rfl⟩,rr,rr,rr,rr,rr,rr,rr,rr,rr,rr,rr,trivial⟩
set_option maxHeartbeats 4000000 in
theorem FT (h:ed)(hco:lT h.flt.cls)(vm:Mp (List UInt8))(sm:Mp Bool)(s:dA)(hs:qU s)(x:bx)(hx:x.words.length≤2^20)(hf:∀k,(formsM.val k).length≤2^20)(ht:je formsM x.words=true)(t:mh)(hte:dw formsM x.words=t)(hk:BC t)(hk1:aU.has t.word=false)(hw:t.word= [99,97,110,99,101,108])(hw1:¬t.word= [98,111,111,107]):
 ai Tryz.prog 101 [.ptr 1000001 0,.agg ((iu x).map .d)] ((1000009,KX)::iS h vm sm s) (fun y r=>y= .d (.int .i64 (if s.bks.has (t.texts.getD 0 [])then 0 else 8))∧r=(1000009,KX)::cR h vm sm (if s.bks.has (t.texts.getD 0 [])then{s with bks:=s.bks.del (t.texts.getD 0 []) lJ}else s)):=by
 have c1:=tn formsM hf x.words hx;rw[ht,if_pos rfl,hte]at c1;have l1:=hk.cn hw;refine af hT (C:= []) Tryz.func101 rfl Tryz.call101 rfl rfl rfl ?_;conv=>whnf
 repeat' (first|((first|(refine cj lY [(1,20)] ?_;rintro y rout ⟨rfl,rfl⟩;refine⟨rfl,?_⟩)|(refine cj nV [(1,30)] ?_;rintro y rout ⟨rfl,rfl⟩;refine⟨rfl,?_⟩)|(refine cj c1 [(1000001,20),(1000009,1000009)] ?_;rintro y rout ⟨rfl,rfl⟩;refine⟨rfl,?_⟩)|refine And.intro (rfl:aK _=some [DV.int .i64 0]) ?_|refine And.intro (rfl:aK _=some (lO lJ)) ?_|(refine aa ?_ ?_<;>intro hb<;>try simp only[az]at hb)|refine aw hT 1 kS ?_|refine aw hT 4 kE ?_|refine aw hT 6 kH ?_|refine aw hT 12 jC ?_|refine aw hT 14 jy ?_|refine aw hT 17 jo ?_|refine aw hT 22 jp ?_|omega|refine aA ?_|decide|assumption)<;>conv=>whnf))
 all_goals try(exfalso;contradiction)
 all_goals try (exfalso;have q:aU.has t.word=true:=by assumption
                rw[hk1]at q;cases q)
 all_goals first
  | (have q:s.bks.has (t.texts.getD 0 [])=false:=by first|exact hb|assumption
     have e1:(if s.bks.has (t.texts.getD 0 [])then(0:Int)else 8)=8:=by rw[q];rfl
     have e2:(if s.bks.has (t.texts.getD 0 [])then{s with bks:=s.bks.del (t.texts.getD 0 []) lJ}else s:dA)=s:=by rw[q];rfl
     rw[e1,e2];refine .ent _ _ (ae (ts:= [(4,.d (.int .i64 (8)))]) (rs:=(1000009,KX)::cR h vm sm (s)) Ov rfl rfl ⟨lr,trivial⟩ ⟨rr,rr,rr,rr,rr,rr,rr,rr,rr,rr,rr,trivial⟩) ?_;refine .ret _ ?_;conv=>whnf
     exact⟨_,⟨rfl,rfl⟩,rr,rr,rr,rr,rr,rr,rr,rr,rr,rr,rr,trivial⟩)
  | (have q:s.bks.has (t.texts.getD 0 [])=true:=by first|exact hb|assumption
     have e1:(if s.bks.has (t.texts.getD 0 [])then(0:Int)else 8)=0:=by rw[q];rfl
     have e2:(if s.bks.has (t.texts.getD 0 [])then{s with bks:=s.bks.del (t.texts.getD 0 []) lJ}else s:dA)={s with bks:=s.bks.del (t.texts.getD 0 []) lJ}:=by rw[q];rfl
     rw[e1,e2];refine .ent _ _ (ae (ts:= [(4,.d (.int .i64 (0)))]) (rs:=(1000009,KX)::cR h vm sm ({s with bks:=s.bks.del (t.texts.getD 0 []) lJ})) Ov rfl rfl ⟨lr,trivial⟩ ⟨rr,rr,rr,rr,rr,rr,rr,wy,rr,rr,rr,trivial⟩) ?_;refine .ret _ ?_;conv=>whnf
     exact⟨_,⟨rfl,rfl⟩,rr,rr,rr,rr,rr,rr,rr,rr,rr,rr,rr,trivial⟩)
def AF:OL:= [(0,[]),(1,[]),(7,[0,1]),(2,[0,1,7]),(3,[7]),(4,[7]),(5,[7]),(6,[7,5]),(8,[6]),(9,[])]
def Az:OL:= [(1,[]),(2,[]),(0,[1,2]),(3,[]),(4,[]),(5,[]),(6,[5]),(7,[6]),(8,[])]
def A9:OL:= [(0,[]),(1,[]),(2,[0,1]),(3,[0,1]),(4,[0,1]),(5,[0,1]),(6,rg 6),(7,rg 6),(8,rg 6),(9,rg 6),(10,rg 10),(11,[]),(12,rg 12),(13,[])]
def zP:OL:= [(0,[]),(1,[0]),(2,[0]),(3,[0]),(4,[0]),(5,rg 5),(6,rg 5),(7,rg 5),(8,rg 5),(9,rg 9),(10,rg 9),(11,rg 9),(12,rg 9),(13,rg 13),(14,rg 13),(15,rg 13),(16,rg 13),(17,rg 9),(18,rg 18),(19,rg 18),(20,rg 20),(21,rg 20),(22,rg 20),(23,rg 20),(24,[0]),(25,[]),(26,[])]
def yd:OL:= [(0,[]),(1,[]),(2,[]),(3,[]),(4,rg 4),(5,rg 4),(6,rg 4),(7,rg 4),(8,[]),(9,[]),(10,[]),(11,[10]),(12,rg 12),(13,[11]),(14,[])]
def yY:OL:= [(0,[]),(1,[]),(2,[]),(3,[]),(4,rg 4),(5,rg 4),(6,rg 4),(7,rg 4),(8,[])]
def zG:OL:= [(0,[]),(1,[0]),(2,[0]),(3,[0]),(4,[0]),(5,rg 5),(6,rg 5),(7,rg 5),(8,rg 5),(9,[]),(10,[])]
set_option maxHeartbeats 2000000 in
theorem G9 (h:ed)(vm:Mp (List UInt8))(sm:Mp Bool)(s:dA)(at0:Int)(t:mh)(h1:1≤t.texts.length)(hh:s.his.has (t.texts.getD 0 [])=false)(hv:s.his.val (t.texts.getD 0 [])=none):
 ai Tryz.prog 152 [.ptr 1000001 0,.d (.int .i64 at0),.agg ((A7 t).map .d)] (iS h vm sm s) (fun y r=>y= .d (.int .i64 (lN vm sm s at0 t))∧r=cR h vm sm (jQ vm sm s at0 t)):=by
 have e1:lN vm sm s at0 t=8:=by unfold lN;rw[hh];rfl
 have e2:jQ vm sm s at0 t=s:=by unfold jQ;rw[if_neg (by rw[e1];decide)]
 rw[e1,e2];refine af hT (C:= []) Tryz.func152 rfl Tryz.call152 rfl rfl rfl ?_;conv=>whnf
 repeat' (first|((first|(refine And.intro (rfl:aK _=some (dO none)) ?_;refine dq (row':=dO none) (congrArg dO hv) ?_)|(refine aa ?_ ?_<;>intro hb<;>try simp only[az]at hb)|refine aw hT 19 oBOfI152_19 ?_|refine aw hT 22 oBOfI152_22 ?_|refine aw hT 11 oBOfI152_11 ?_|refine aw hT 12 oBOfI152_12 ?_|refine aw hT 13 oBOfI152_13 ?_|refine aw hT 40 oBOfI152_40 ?_|omega|refine aA ?_|decide|assumption)<;>conv=>whnf))
 all_goals first
  | (exfalso;have q:s.his.has (t.texts.getD 0 [])=true:=hb
     rw[hh]at q;cases q)
  | (refine .ent _ _ (ae (ts:= [(6,.d (.int .i64 8))]) (rs:=cR h vm sm s) ue rfl rfl ⟨lr,trivial⟩ ⟨rr,rr,rr,rr,rr,rr,rr,rr,rr,rr,trivial⟩) ?_
     refine .ret _ ?_;conv=>whnf
     exact⟨_,⟨rfl,rfl⟩,rr,rr,rr,rr,rr,rr,rr,rr,rr,rr,trivial⟩)
set_option maxHeartbeats 4000000 in
theorem Fn (h:ed)(hco:lT h.flt.cls)(vm:Mp (List UInt8))(sm:Mp Bool)(s:dA)(hs:qU s)(x:bx)(hx:x.words.length≤2^20)(hf:∀k,(formsM.val k).length≤2^20)(ht:je formsM x.words=true)(t:mh)(hte:dw formsM x.words=t)(hk:BC t)(hk1:aU.has t.word=false)(hw:t.word≠ [98,111,111,107])(hw1:t.word≠ [99,97,110,99,101,108])(hw2:t.word≠ [115,116,97,114,116])(hw3:t.word≠ [112,97,121]):
 ai Tryz.prog 101 [.ptr 1000001 0,.agg ((iu x).map .d)] ((1000009,KX)::iS h vm sm s) (fun y r=>y= .d (.int .i64 (lN vm sm s x.tm t))∧r=(1000009,KX)::cR h vm sm (jQ vm sm s x.tm t)):=by
 have c1:=tn formsM hf x.words hx;rw[ht,if_pos rfl,hte]at c1;obtain⟨l1,l2,l3,l4⟩:=hk.ch hk1 hw hw1 hw2 hw3;have l5:=hk.tx;have hlg:=hs.log
 have c2:ai Tryz.prog 152 [.ptr 1000001 0,.d (.int .i64 x.tm),.agg ((A7 t).map .d)] (iS h vm sm s) (fun y r=>y= .d (.int .i64 (lN vm sm s x.tm t))∧r=cR h vm sm (jQ vm sm s x.tm t)):=by
  cases hh:s.his.has (t.texts.getD 0 [])with
  |false=>exact G9 h vm sm s x.tm t l1 hh (hs.non _ hh)
  | true=>
    obtain⟨g,g1,g2,g3,g4⟩:=hs.his _ hh;exact II h vm sm s (by omega) x.tm t l1 l2 l3 l4 (fun j=>by have:=l5 j;omega) g hh g1 g2 g3 g4
 refine af hT (C:= []) Tryz.func101 rfl Tryz.call101 rfl rfl rfl ?_;conv=>whnf
 repeat' (first|((first|(refine cj lY [(1,20)] ?_;rintro y rout ⟨rfl,rfl⟩;refine⟨rfl,?_⟩)|(refine cj nV [(1,30)] ?_;rintro y rout ⟨rfl,rfl⟩;refine⟨rfl,?_⟩)|(refine cj c1 [(1000001,20),(1000009,1000009)] ?_;rintro y rout ⟨rfl,rfl⟩;refine⟨rfl,?_⟩)|refine And.intro (rfl:aK _=some [DV.int .i64 0]) ?_|(refine cj (c2) Ir ?_;rintro y rout ⟨rfl,rfl⟩;refine⟨rfl,?_⟩)|(refine aa ?_ ?_<;>intro hb<;>try simp only[az]at hb)|refine aw hT 1 AF ?_|refine aw hT 4 Az ?_|refine aw hT 6 A9 ?_|refine aw hT 12 zP ?_|refine aw hT 14 yd ?_|refine aw hT 17 yY ?_|refine aw hT 22 zG ?_|omega|refine aA ?_|decide|assumption)<;>conv=>whnf))
 all_goals try(exfalso;contradiction)
 all_goals try (exfalso;have q:aU.has t.word=true:=by assumption
                rw[hk1]at q;cases q)
 all_goals
  refine .ent _ _ (ae (ts:= [(4,.d (.int .i64 (lN vm sm s x.tm t)))]) (rs:=(1000009,KX)::cR h vm sm (jQ vm sm s x.tm t)) LX rfl rfl ⟨lr,trivial⟩ ⟨rr,rr,rr,rr,rr,rr,rr,rr,rr,rr,rr,trivial⟩) ?_;refine .ret _ ?_;conv=>whnf
  exact⟨_,⟨rfl,rfl⟩,rr,rr,rr,rr,rr,rr,rr,rr,rr,rr,rr,trivial⟩
def cT (f:List UInt8):Nat→Nat
 |0=>0
 |i+1=>if f.getD i 0=119 then cT f i+1 else cT f i
def cN (f:List UInt8):Nat→Nat
 |0=>0
 |i+1=>if f.getD i 0=119 then cN f i else cN f i+1
theorem JL (f:List UInt8)(w:List (List UInt8)):∀i,(ul f w i).length=cT f i
 |0=>rfl
 | i+1=>by
   have:=JL f w i;unfold ul cT;split
   · rw[List.length_append,List.length_singleton,this]
   · exact this
theorem JM (f:List UInt8)(w:List (List UInt8)):∀i,(uy f w i).length=cN f i
 |0=>rfl
 | i+1=>by
   have:=JM f w i;unfold uy cN;split
   · exact this
   · rw[List.length_append,List.length_singleton,this]
theorem xj (f:List UInt8)(w:List (List UInt8)){B:Nat}(h:∀j,(w.getD j []).length≤B):∀i,∀x ∈ ul f w i,x.length≤B
 |0=>fun x hx=>by cases hx
 | i +1=>fun x hx=>by
   unfold ul at hx;split at hx
   · rcases List.mem_append.1 hx with q|q
     · exact xj f w h i x q
     · rw[List.mem_singleton]at q;subst q;exact h i
   · exact xj f w h i x hx
theorem ww (f:List UInt8)(w:List (List UInt8)):∀i,(∀j,j<i→(f.getD j 0=119∨ly (w.getD j [])=true))→∀n ∈ uy f w i,-10^9≤n∧n≤10^9
 |0=>fun _ x hx=>by cases hx
 | i + 1=>fun h x hx=>by
   unfold uy at hx;split at hx
   · exact ww f w i (fun j hj=>h j (by omega)) x hx
   · rename_i hc;rcases List.mem_append.1 hx with q|q
     · exact ww f w i (fun j hj=>h j (by omega)) x q
     · rw[List.mem_singleton]at q;subst q;rcases h i (by omega)with r|r
       · exact absurd r hc
       · exact Je r
def Ap:List (List UInt8):= [[101,110,116,101,114],[115,104,111,112],[100,111,110,101],[99,111,109,101],[103,111,110,101],[108,101,97,118,101],[98,111,111,107],[99,97,110,99,101,108],[115,116,97,114,116],[115,119,97,112],[101,120,116,101,110,100],[99,108,111,115,101],[112,97,121]]
theorem Ax {s:List UInt8}(h:formsM.has s=true):s ∈ Ap:=by
 have h':(decide (s= [112,97,121])||formsM.has s)=true:=by rw[h];simp
 simp only[formsM,Mp.put,Mp.nil,Bool.or_eq_true,decide_eq_true_eq,Bool.false_eq_true,or_false]at h;unfold Ap;simp only[List.mem_cons,List.not_mem_nil,or_false];grind
theorem IU {m:Mp (List UInt8)}{x v:List UInt8}{B:Nat}(h:∀k,(m.val k).length≤B)(hv:v.length≤B):∀k,((m.put x v).val k).length≤B:=fun k=>by
 show(if k=x then v else m.val k).length≤B;split
 · exact hv
 · exact h k
theorem fL:∀s:List UInt8,(formsM.val s).length≤2^20:=by
 unfold formsM
 repeat (refine IU ?_ (by simp))
 intro k;simp[Mp.nil]
def JC (k:List UInt8):Bool:=
 let c:=cT (formsM.val k) (formsM.val k).length
 let n:=cN (formsM.val k) (formsM.val k).length
 (!aU.has k||decide (2≤c))&&(!(aU.has k&&decide (aU.val k=6))||decide (3≤c))&&(!decide (k= [98,111,111,107])||decide (2≤c∧3≤n))&&(!decide (k= [99,97,110,99,101,108])||decide (1≤c))&&(!decide (k= [115,116,97,114,116])||decide (4≤c∧3≤n))&&(!decide (k= [112,97,121])||decide (1≤c∧1≤n))
 &&(aU.has k||decide (k= [98,111,111,107])||decide (k= [99,97,110,99,101,108])||decide (k= [115,116,97,114,116])||decide (k= [112,97,121])||(decide (1≤c)&&(!decide (k= [101,120,116,101,110,100])||decide (1≤n))&&(!decide (k= [99,108,111,115,101])||decide (2≤c∧2≤n))&&(decide (k= [101,120,116,101,110,100])||decide (k= [99,108,111,115,101])||decide (3≤c∧4≤n))))
theorem Jd:Ap.all JC=true:=by decide+kernel
theorem s9 {α:Type}{l:List α}{d:α}{P:α→Prop}(h:∀x ∈ l,P x)(hd:P d)(j:Nat):P (l.getD j d):=by
 by_cases q:j<l.length
 · rw[List.getD_eq_getElem?_getD,List.getElem?_eq_getElem q];exact h _ (List.getElem_mem q)
 · rw[List.getD_eq_getElem?_getD,List.getElem?_eq_none (by omega)];exact hd
theorem I7 {w:List UInt8}(hw:w.length≤2^20)(h:je formsM w=true):BC (dw formsM w):=by
 unfold je at h;simp only[Bool.and_eq_true,decide_eq_true_eq]at h;obtain⟨h1,h2,h3,h4⟩:=h;have hmem:∀x ∈ Lib.split w [32],x.length≤w.length:=fun x hx=>vT hx
 have hF:=List.all_eq_true.1 Jd _ (Ax h2);have hN:=of_decide_eq_true h4;obtain⟨k,hk⟩:∃k,k=iH (Lib.split w [32]):=⟨_,rfl⟩;obtain⟨W1,hW1⟩:∃W1,W1=(Lib.split w [32]).drop 1:=⟨_,rfl⟩;have hl:W1.length=(formsM.val k).length:=by rw[hW1,List.length_drop,hk];omega
 have hb:∀j,(W1.getD j []).length≤2^20:=s9 (l:=W1) (d:= []) (P:=fun(x:List UInt8)=>x.length≤2^20) (fun x hx=>by rw[hW1]at hx;have:=hmem x (List.mem_of_mem_drop hx);omega) (by simp);unfold dw;rw[←hk]at hF hN ⊢;rw[←hW1]at hN ⊢;rw[hl];rw[hl]at hN;have t1:(ul (formsM.val k) W1 (formsM.val k).length).length=cT (formsM.val k) (formsM.val k).length:=JL _ _ _;have t2:(uy (formsM.val k) W1 (formsM.val k).length).length=cN (formsM.val k) (formsM.val k).length:=JM _ _ _;unfold JC at hF;simp only at hF;rw[←t1,←t2]at hF;have m1:=xj (formsM.val k) W1 hb (formsM.val k).length;have m2:=ww (formsM.val k) W1 (formsM.val k).length (fun j hj=>hN j (by omega));generalize ul (formsM.val k) W1 (formsM.val k).length=X at hF m1 ⊢;generalize uy (formsM.val k) W1 (formsM.val k).length=Y at hF m2 ⊢;refine⟨s9 m1 (by simp),s9 m2 (by decide),?_,?_,?_,?_,?_,?_,?_⟩;all_goals (dsimp only;clear m1 m2 t1 t2 hN hb hmem h2 h3 h4;simp only[Bool.and_eq_true,Bool.or_eq_true,Bool.not_eq_true',decide_eq_true_eq,Bool.and_eq_false_iff,decide_eq_false_iff_not]at hF;grind)
def kJ (h:ed)(vm:Mp (List UInt8))(sm:Mp Bool)(s:dA)(x:bx):Int:=
 if je formsM x.words=false then 9
 else if aU.has (dw formsM x.words).word=true then nf vm sm s (gD x.tm (dw formsM x.words))
 else if(dw formsM x.words).word= [98,111,111,107]then gz h s ⟨(dw formsM x.words).texts.getD 0 [],(dw formsM x.words).texts.getD 1 [],(dw formsM x.words).nums.getD 0 0,(dw formsM x.words).nums.getD 1 0,x.tm,(dw formsM x.words).nums.getD 2 0⟩
 else if(dw formsM x.words).word= [99,97,110,99,101,108]then(if s.bks.has ((dw formsM x.words).texts.getD 0 [])then 0 else 8)
 else if(dw formsM x.words).word= [115,116,97,114,116]then Bu vm sm s x.tm (dw formsM x.words)
 else if(dw formsM x.words).word= [112,97,121]then j8 s ((dw formsM x.words).texts.getD 0 []) ((dw formsM x.words).nums.getD 0 0)
 else lN vm sm s x.tm (dw formsM x.words)
def lm (h:ed)(vm:Mp (List UInt8))(sm:Mp Bool)(s:dA)(x:bx):dA:=
 if je formsM x.words=false then s
 else if aU.has (dw formsM x.words).word=true then lL vm sm s (gD x.tm (dw formsM x.words))
 else if(dw formsM x.words).word= [98,111,111,107]then gf h s ⟨(dw formsM x.words).texts.getD 0 [],(dw formsM x.words).texts.getD 1 [],(dw formsM x.words).nums.getD 0 0,(dw formsM x.words).nums.getD 1 0,x.tm,(dw formsM x.words).nums.getD 2 0⟩
 else if(dw formsM x.words).word= [99,97,110,99,101,108]then(if s.bks.has ((dw formsM x.words).texts.getD 0 [])then{s with bks:=s.bks.del ((dw formsM x.words).texts.getD 0 []) lJ}else s)
 else if(dw formsM x.words).word= [115,116,97,114,116]then r7 vm sm s x.tm (dw formsM x.words)
 else if(dw formsM x.words).word= [112,97,121]then li s ((dw formsM x.words).texts.getD 0 []) ((dw formsM x.words).nums.getD 0 0)
 else jQ vm sm s x.tm (dw formsM x.words)
theorem IR (h:ed)(hco:lT h.flt.cls)(vm:Mp (List UInt8))(sm:Mp Bool)(s:dA)(hs:qU s)(x:bx)(hx:x.words.length≤2^20):
 ai Tryz.prog 101 [.ptr 1000001 0,.agg ((iu x).map .d)] ((1000009,KX)::iS h vm sm s) (fun y r=>y= .d (.int .i64 (kJ h vm sm s x))∧r=(1000009,KX)::cR h vm sm (lm h vm sm s x)):=by
 unfold kJ lm
 cases ht:je formsM x.words with
 |false=>rw[if_pos (show false=false from rfl),if_pos (show false=false from rfl)];exact Fq h vm sm s x hx fL ht
 | true=>
   have hk:=I7 hx ht;rw[if_neg (show ¬ (true=false)by simp),if_neg (show ¬ (true=false)by simp)]
   by_cases q:aU.has (dw formsM x.words).word=true
   · rw[if_pos q,if_pos q];exact Gy h vm sm s hs x hx fL ht _ rfl hk q
   have q':aU.has (dw formsM x.words).word=false:=by simpa using q
   rw[if_neg q,if_neg q]
   by_cases q1:(dw formsM x.words).word= [98,111,111,107]
   · rw[if_pos q1,if_pos q1];exact GP h hco vm sm s hs x hx fL ht _ rfl hk q' q1
   rw[if_neg q1,if_neg q1]
   by_cases q2:(dw formsM x.words).word= [99,97,110,99,101,108]
   · rw[if_pos q2,if_pos q2];exact FT h hco vm sm s hs x hx fL ht _ rfl hk q' q2 q1
   rw[if_neg q2,if_neg q2]
   by_cases q3:(dw formsM x.words).word= [115,116,97,114,116]
   · rw[if_pos q3,if_pos q3];exact EY h hco vm sm s hs x hx fL ht _ rfl hk q' q3 q1 q2
   rw[if_neg q3,if_neg q3]
   by_cases q4:(dw formsM x.words).word= [112,97,121]
   · rw[if_pos q4,if_pos q4];exact GU h hco vm sm s hs x hx fL ht _ rfl hk q' q4 q1 q2 q3
   rw[if_neg q4,if_neg q4];exact Fn h hco vm sm s hs x hx fL ht _ rfl hk q' q1 q2 q3 q4
theorem tD {h:ed}{vm:Mp (List UInt8)}{sm:Mp Bool}{s:dA}{x:bx}(e:kJ h vm sm s x≠0):lm h vm sm s x=s:=by
 unfold kJ at e;unfold lm;split
 · rfl
 rename_i c0;rw[if_neg c0]at e;split
 · rename_i c;rw[if_pos c]at e;unfold lL;rw[if_neg e]
 rename_i c1;rw[if_neg c1]at e;split
 · rename_i c;rw[if_pos c]at e;unfold gf;rw[if_neg e]
 rename_i c2;rw[if_neg c2]at e;split
 · rename_i c;rw[if_pos c]at e;split
   · rename_i d;rw[if_pos d]at e;exact absurd rfl e
   · rfl
 rename_i c3;rw[if_neg c3]at e;split
 · rename_i c;rw[if_pos c]at e;unfold r7;rw[if_neg e]
 rename_i c4;rw[if_neg c4]at e;split
 · rename_i c;rw[if_pos c]at e;unfold li;rw[if_neg e]
 rename_i c5;rw[if_neg c5]at e;unfold jQ;rw[if_neg e]
variable (h:ed) (vm:Mp (List UInt8)) (sm:Mp Bool)
def rA (s:dA)(l:List bx):dA:=l.foldl (lm h vm sm) s
def uj:dA→Nat→List bx→List BI
 |_,_,[]=> []
 |s,i,x::l=>if kJ h vm sm s x=0 then uj (lm h vm sm s x) (i+1) l else⟨i,kJ h vm sm s x⟩::uj s (i+1) l
theorem Gr (s:dA)(r:List BI)(l:List cO):da {s with ref:=r} l={da s l with ref:=r}:=by
 unfold da
 induction l generalizing s with
 |nil=>rfl
 | cons x l ih=>
   rw[List.foldl_cons,List.foldl_cons];exact ih (gW s x)
theorem yW (s:dA)(r:List BI)(x:bx):kJ h vm sm {s with ref:=r} x=kJ h vm sm s x:=rfl
variable (h:ed) (vm:Mp (List UInt8)) (sm:Mp Bool)
theorem FS (s:dA)(r:List BI)(x:cO):lL vm sm {s with ref:=r} x={lL vm sm s x with ref:=r}:=by
 unfold lL;rw[show nf vm sm {s with ref:=r} x=nf vm sm s x from rfl];split<;>rfl
theorem Dz (s:dA)(r:List BI)(b:AU):gf h {s with ref:=r} b={gf h s b with ref:=r}:=by
 unfold gf;rw[show gz h {s with ref:=r} b=gz h s b from rfl];split<;>rfl
theorem E1 (s:dA)(r:List BI)(k:List UInt8)(c:Int):li {s with ref:=r} k c={li s k c with ref:=r}:=by
 unfold li;rw[show j8 {s with ref:=r} k c=j8 s k c from rfl];split<;>rfl
theorem Hn (s:dA)(r:List BI)(a:Int)(t:mh):r7 vm sm {s with ref:=r} a t={r7 vm sm s a t with ref:=r}:=by
 unfold r7;rw[show Bu vm sm {s with ref:=r} a t=Bu vm sm s a t from rfl];split<;>rfl
theorem Hw (s:dA)(r:List BI)(a:Int)(t:mh):jQ vm sm {s with ref:=r} a t={jQ vm sm s a t with ref:=r}:=by
 unfold jQ;rw[show lN vm sm {s with ref:=r} a t=lN vm sm s a t from rfl];split
 · dsimp only
   rw[Gr]
 · rfl
theorem FR (s:dA)(r:List BI)(x:bx):lm h vm sm {s with ref:=r} x={lm h vm sm s x with ref:=r}:=by
 unfold lm;split
 · rfl
 split
 · exact FS vm sm s r _
 split
 · exact Dz h s r _
 split
 · split<;>rfl
 split
 · exact Hn vm sm s r _ _
 split
 · exact E1 s r _ _
 exact Hw vm sm s r _ _
theorem bi:∀ {l:List Int},al l=0→∀x ∈ l,x=0
 | [],_,_,hx=>by cases hx
 | y ::l,h,x,hx=>by
   unfold al at h
   by_cases q:y=0
   · rw[if_pos q]at h;rcases List.mem_cons.1 hx with e|e
     · rw[e];exact q
     · exact bi h x e
   · rw[if_neg q]at h;exact absurd h q
theorem kD {s:List UInt8}(h:aG s=true):s.length≤40:=by
 unfold aG at h;simp only[Bool.and_eq_true,decide_eq_true_eq]at h;exact h.2
theorem zy {r:oD}(h:pz r=0):r.st.length≤40:=by
 unfold pz at h;split at h
 · exact absurd h (by decide)
 split at h
 · exact absurd h (by decide)
 rename_i _ c;exact kD (by simpa using c)
theorem Ls {h:cy}{i:Nat}(e:oM h i=0):L6 (h.legs.getD i ew):=by
 unfold oM at e;split at e
 · exact absurd e (by decide)
 rename_i c1;split at e
 · rename_i c;exact absurd e c
 rename_i c2;have k1:=kD (s:=(h.legs.getD i ew).veh) (by simpa using c1);have k2:=zy (r:=(h.legs.getD i ew).out) (by simpa using c2)
 have k3:(h.legs.getD i ew).inn.st.length≤40:=by
  by_cases q:(h.legs.getD i ew).inn.tm= -1
  · by_cases r:(h.legs.getD i ew).inn.st= []
    · rw[r];simp
    · exfalso;rw[if_pos q,if_pos (fun c=>r c.1)]at e;grind
  · rw[if_neg q]at e;refine zy ?_;grind
 exact⟨by omega,by omega,by omega⟩
theorem kV {g:cy}(h:bO g=0):Cy g∧1≤g.legs.length∧g.legs.length≤20∧(aG g.key=true∧aG g.drv=true)∧ic g.frm g.to=0∧∀i,i<g.legs.length→oM g i=0:=by
 unfold bO at h;split at h
 · exact absurd h (by decide)
 rename_i c1;split at h
 · rename_i c;exact absurd h c
 rename_i c2;split at h
 · exact absurd h (by decide)
 rename_i c3;split at h
 · exact absurd h (by decide)
 rename_i c4;have hA:=cg h;have k1:aG g.key=true:=by cases e:aG g.key with|true=>rfl|false=>exact absurd (.inl e) c1
 have k2:aG g.drv=true:=by cases e:aG g.drv with|true=>rfl|false=>exact absurd (.inr e) c1
 refine⟨⟨by have:=kD k1;omega,by have:=kD k2;omega,by omega,fun x hx=> ?_⟩,by omega,by omega,⟨k1,k2⟩,by simpa using c2,hA⟩;obtain⟨i,hi,rfl⟩:=bQ (d:=ew) hx;exact Ls (hA i hi)
theorem F5 {g g':cy}(h:iw g g' =0):bO g=0∧wV g=true∧bO g' =0:=by
 unfold iw at h
 by_cases q:rb g=0
 · rw[if_neg (fun c=>c q)]at h;exact⟨(kp q).1,(kp q).2,h⟩
 · rw[if_pos q]at h;exact absurd h q
theorem DQ {l:List rW}(r:oD)(j:Nat):((e9 l r).getD j ew).veh=(l.getD j ew).veh:=by
 unfold e9;rw[List.getD_eq_getElem?_getD,List.getElem?_set]
 by_cases q:((l.length:Int) - 1).toNat=j
 · subst q;rw[if_pos rfl]
   by_cases h:((l.length:Int) - 1).toNat<l.length
   · rw[if_pos h];rfl
   · rw[if_neg h,List.getD_eq_getElem?_getD,List.getElem?_eq_none (by omega)]
 · rw[if_neg q,List.getD_eq_getElem?_getD]
theorem GE {g:cy}{ri ro:oD}{v:List UInt8}(h1:1≤g.legs.length)(h:bO (vA g ri v ro)=0):v≠gA g:=by
 obtain⟨_,_,_,_,_,hA⟩:=kV h;have hl:(vA g ri v ro).legs.length=g.legs.length+1:=by show(e9 g.legs ri++ [_]).length=_;rw[List.length_append,gJ,List.length_singleton]
 have e:=hA g.legs.length (by omega)
 have g1:((vA g ri v ro).legs.getD g.legs.length ew).veh=v:=by
  show((e9 g.legs ri++ [_]).getD _ _).veh=_;rw[List.getD_eq_getElem?_getD,List.getElem?_append_right (by rw[gJ];omega),gJ,Nat.sub_self];rfl
 have g2:((vA g ri v ro).legs.getD (g.legs.length - 1) ew).veh=gA g:=by
  show((e9 g.legs ri++ [_]).getD _ _).veh=_;rw[List.getD_eq_getElem?_getD,List.getElem?_append_left (by rw[gJ];omega),←List.getD_eq_getElem?_getD,DQ];unfold gA;rw[show((g.legs.length:Int) - 1).toNat=g.legs.length - 1 by omega]
 intro hv;unfold oM at e;rw[g1,g2]at e;have c:0<g.legs.length∧v=gA g:=⟨by omega,hv⟩;grind
structure fq (m n:Nat)(s:dA):Prop where
 log:s.log.length≤m
 ats:∀v t,s.ats v t=true↔∃x ∈ s.log,x.veh=v∧x.tm=t
 apt:s.log.Pairwise fun a b=>¬ (a.veh=b.veh∧a.tm=b.tm)
 paid:∀k,0≤s.paid.val k∧s.paid.val k≤10^9
 fb:∃L:List (List UInt8),L.length≤n∧∀k,s.bks.has k=true→k ∈ L
 fh:∃L:List (List UInt8),L.length≤n∧∀k,s.his.has k=true→k ∈ L
 non:∀k,s.his.has k=false→s.his.val k=none
 his:∀k,s.his.has k=true→∃g,s.his.val k=some g∧bO g=0
theorem fq.ok {m n:Nat}{s:dA}(h:fq m n s)(hm:m≤2^18)(hn:n<500):qU s where
 log:=by have:=h.log;omega
 paid k:=by have:=h.paid k;omega
 fb:=by obtain⟨L,h1,h2⟩:=h.fb;exact⟨L,by omega,h2⟩
 fh:=by obtain⟨L,h1,h2⟩:=h.fh;exact⟨L,by omega,h2⟩
 non:=h.non
 his k q:=by
  obtain⟨g,h1,h2⟩:=h.his k q;obtain⟨k1,k2,k3,_⟩:=kV h2;exact⟨g,h1,k1,k2,by omega⟩
theorem fq.up {m n m' n':Nat}{s:dA}(h:fq m n s)(hm:m≤m')(hn:n≤n'):fq m' n' s where
 log:=by have:=h.log;omega
 ats:=h.ats
 apt:=h.apt
 paid:=h.paid
 fb:=by obtain⟨L,h1,h2⟩:=h.fb;exact⟨L,by omega,h2⟩
 fh:=by obtain⟨L,h1,h2⟩:=h.fh;exact⟨L,by omega,h2⟩
 non:=h.non
 his:=h.his
theorem eJ {s:dA}{x:cO}(h:g9 s x=0):s.ats x.veh x.tm=false∧gG (s.sts.val x.veh) x=true:=by
 unfold g9 at h;have h1:=bi h _ (List.mem_cons_self ..);have h2:=bi h _ (List.mem_cons_of_mem _ (List.mem_cons_self ..));constructor
 · cases q:s.ats x.veh x.tm with
   |false=>rfl
   |true=>rw[q,if_pos rfl]at h1;exact absurd h1 (by decide)
 · cases q:gG (s.sts.val x.veh) x with
   |true=>rfl
   |false=>rw[q]at h2;exact absurd h2 (by decide)
theorem fq.say {m n:Nat}{s:dA}(h:fq m n s){x:cO}(hc:s.ats x.veh x.tm=false):fq (m+1) n (gW s x) where
 log:=by show(s.log++ [x]).length≤_;rw[List.length_append,List.length_singleton];have:=h.log;omega
 ats v t:=by
  show Da s.ats x.veh x.tm v t=true↔∃y ∈ s.log++ [x],y.veh=v∧y.tm=t;unfold Da;rw[Bool.or_eq_true,h.ats v t];simp only[Bool.and_eq_true,decide_eq_true_eq,List.mem_append,List.mem_singleton];constructor
  · rintro(⟨h1,h2⟩|⟨y,h1,h2⟩)
    · exact⟨x,.inr rfl,h1.symm,h2.symm⟩
    · exact⟨y,.inl h1,h2⟩
  · rintro⟨y,h1|h1,h2⟩
    · exact .inr ⟨y,h1,h2⟩
    · subst h1;exact .inl ⟨h2.1.symm,h2.2.symm⟩
 apt:=by
  show(s.log++ [x]).Pairwise _;rw[List.pairwise_append];refine⟨h.apt,List.pairwise_singleton _ _,fun a ha b hb=> ?_⟩;rw[List.mem_singleton]at hb;subst hb;intro q;have:=(h.ats b.veh b.tm).2 ⟨a,ha,q⟩;rw[hc]at this;cases this
 paid:=h.paid
 fb:=h.fb
 fh:=h.fh
 non:=h.non
 his:=h.his
theorem Kg {m n:Nat}{s:dA}(h:fq m n s)(vm:Mp (List UInt8))(sm:Mp Bool)(x:cO):fq (m+1) n (lL vm sm s x):=by
 unfold lL;split
 · rename_i e;unfold nf at e;exact h.say (eJ (bi e _ (by simp))).1
 · exact h.up (by omega) (Nat.le_refl _)
theorem tY {α:Type}{n:Nat}{m:Mp α}{k:List UInt8}{v:α}(h:∃L:List (List UInt8),L.length≤n∧∀k,m.has k=true→k ∈ L):∃L:List (List UInt8),L.length≤n+1∧∀j,(m.put k v).has j=true→j ∈ L:=by
 obtain⟨L,h1,h2⟩:=h;refine⟨k::L,by rw[List.length_cons];omega,fun j hj=> ?_⟩;have hj:(decide (j=k)||m.has j)=true:=hj;rw[Bool.or_eq_true,decide_eq_true_eq]at hj;rcases hj with e|e
 · rw[e];exact List.mem_cons_self ..
 · exact List.mem_cons_of_mem _ (h2 j e)
theorem yy {α:Type}{n:Nat}{m:Mp α}{k:List UInt8}{z:α}(h:∃L:List (List UInt8),L.length≤n∧∀k,m.has k=true→k ∈ L):∃L:List (List UInt8),L.length≤n∧∀j,(m.del k z).has j=true→j ∈ L:=by
 obtain⟨L,h1,h2⟩:=h;refine⟨L,h1,fun j hj=> ?_⟩;have hj:(!decide (j=k)&&m.has j)=true:=hj;rw[Bool.and_eq_true]at hj;exact h2 j hj.2
theorem kO {n n':Nat}{p:List UInt8→Bool}(h:∃L:List (List UInt8),L.length≤n∧∀k,p k=true→k ∈ L)(hn:n≤n'):∃L:List (List UInt8),L.length≤n'∧∀k,p k=true→k ∈ L:=by
 obtain⟨L,h1,h2⟩:=h;exact⟨L,by omega,h2⟩
theorem Ch {m:Mp (Option cy)}{k:List UInt8}{g:cy}(h1:∀k,m.has k=false→m.val k=none)(h2:∀k,m.has k=true→∃g,m.val k=some g∧bO g=0)(hg:bO g=0):
 (∀j,(m.put k (some g)).has j=false→(m.put k (some g)).val j=none)∧∀j,(m.put k (some g)).has j=true→∃g',(m.put k (some g)).val j=some g'∧bO g' =0:=by
 refine⟨fun j hj=> ?_,fun j hj=> ?_⟩
 · have hj:(decide (j=k)||m.has j)=false:=hj;rw[Bool.or_eq_false_iff,decide_eq_false_iff_not]at hj;show(if j=k then some g else m.val j)=none;rw[if_neg hj.1];exact h1 j hj.2
 · have hj:(decide (j=k)||m.has j)=true:=hj;show ∃g',(if j=k then some g else m.val j)=some g'∧_
   by_cases q:j=k
   · rw[if_pos q];exact⟨g,rfl,hg⟩
   · rw[if_neg q];refine h2 j ?_;rw[Bool.or_eq_true,decide_eq_true_eq]at hj;rcases hj with e|e
     · exact absurd e q
     · exact e
theorem IV {m n:Nat}{s:dA}(h:fq m n s)(hh:ed)(b:AU):fq m (n+1) (gf hh s b):=by
 unfold gf;split
 · exact⟨h.log,h.ats,h.apt,h.paid,tY h.fb,kO h.fh (by omega),h.non,h.his⟩
 · exact h.up (Nat.le_refl _) (by omega)
theorem Li {m n:Nat}{s:dA}(h:fq m n s)(k:List UInt8)(c:Int):fq m n (li s k c):=by
 unfold li;split
 · rename_i e;unfold j8 at e;have e2:=bi e _ (List.mem_cons_of_mem _ (List.mem_cons_self ..));have e3:=bi e _ (List.mem_cons_of_mem _ (List.mem_cons_of_mem _ (List.mem_cons_self ..)))
   have k1:0≤c∧c≤1000000000:=by
    by_cases q:0≤c∧c≤1000000000
    · exact q
    · rw[decide_eq_false q]at e2;exact absurd e2 (by decide)
   have k2:¬ 1000000000<s.paid.val k+c:=fun q=>by rw[if_pos q]at e3;exact absurd e3 (by decide)
   refine⟨h.log,h.ats,h.apt,fun j=> ?_,h.fb,h.fh,h.non,h.his⟩;show 0≤(if j=k then _ else s.paid.val j)∧(if j=k then _ else s.paid.val j)≤_;have:=h.paid j;have:=h.paid k
   by_cases q:j=k
   · rw[if_pos q];omega
   · rw[if_neg q];omega
 · exact h
theorem Ny {m n:Nat}{s:dA}(h:fq m n s)(vm:Mp (List UInt8))(sm:Mp Bool)(a:Int)(t:mh):fq (m+1) (n+1) (r7 vm sm s a t):=by
 unfold r7;split
 · rename_i e;unfold Bu at e
   by_cases q:bO (kN a t)=0
   · rw[if_neg (fun c=>c q)]at e;have k1:=(eJ (bi e (g9 s (mb a t)) (by simp))).1;have k2:=h.say k1;obtain⟨k3,k4⟩:=Ch (k:=t.texts.getD 0 []) h.non h.his q;exact⟨k2.log,k2.ats,k2.apt,h.paid,kO (yy h.fb) (by omega),tY h.fh,k3,k4⟩
   · rw[if_pos q]at e;exact absurd e q
 · exact h.up (by omega) (by omega)
theorem r9 {vm:Mp (List UInt8)}{sm:Mp Bool}{s:dA}{g:cy}{a:Int}{t:mh}(h:EJ vm sm s g a t=0):(bO g=0∧wV g=true∧bO (bg g a t)=0)∧fj vm sm t=true∧∀i,i<(dh g a t).length→g9 s ((dh g a t).getD i dt)=0:=by
 unfold EJ at h
 by_cases q:al [iw g (bg g a t),if(!fj vm sm t)then 8 else 0]=0
 · rw[if_neg (fun c=>c q)]at h;have e2:=bi q _ (List.mem_cons_of_mem _ (List.mem_cons_self ..));refine⟨F5 (bi q _ (List.mem_cons_self ..)),?_,cg h⟩
   cases k:fj vm sm t with
   |true=>rfl
   |false=>rw[k]at e2;exact absurd e2 (by decide)
 · rw[if_pos q]at h;exact absurd h q
theorem Lh {m n:Nat}{s:dA}(h:fq m n s){vm:Mp (List UInt8)}{sm:Mp Bool}{g:cy}{a:Int}{t:mh}(e:EJ vm sm s g a t=0):fq (m+2) n (da s (dh g a t)):=by
 obtain⟨⟨h1,h2,h3⟩,h4,h5⟩:=r9 e;unfold dh at h5 ⊢
 by_cases w1:t.word= [101,120,116,101,110,100]
 · rw[if_pos w1];exact h.up (by omega) (Nat.le_refl _)
 rw[if_neg w1]at h5 ⊢
 by_cases w2:t.word= [99,108,111,115,101]
 · rw[if_pos w2]at h5 ⊢;exact(h.say (eJ (h5 0 (by simp))).1).up (by omega) (Nat.le_refl _)
 rw[if_neg w2]at h5 ⊢;unfold bg at h3;rw[if_neg w1,if_neg w2]at h3;have hne:=GE (by have:=(kV h1).2.1;omega) h3;have k1:=(eJ (h5 0 (by simp))).1;have k2:=(eJ (h5 1 (by simp))).1;refine(h.say k1).say (x:=⟨a,t.texts.getD 2 [],t.texts.getD 1 [],2,[]⟩) ?_;show((decide (t.texts.getD 2 []=gA g)&&decide (a=a))||s.ats (t.texts.getD 2 []) a)=false;rw[decide_eq_false hne,Bool.false_and,Bool.false_or];exact k2
theorem M0 {m n:Nat}{s:dA}(h:fq m n s)(vm:Mp (List UInt8))(sm:Mp Bool)(a:Int)(t:mh):fq (m+2) (n+1) (jQ vm sm s a t):=by
 unfold jQ;split
 · rename_i e;unfold lN at e
   by_cases q:s.his.has (t.texts.getD 0 [])=true
   · rw[if_pos q]at e;have k2:=Lh h e;obtain⟨⟨h1,h2,h3⟩,_⟩:=r9 e;obtain⟨k3,k4⟩:=Ch (k:=t.texts.getD 0 []) k2.non k2.his h3;exact⟨k2.log,k2.ats,k2.apt,k2.paid,kO k2.fb (by omega),tY k2.fh,k3,k4⟩
   · rw[if_neg q]at e;exact absurd e (by decide)
 · exact h.up (by omega) (by omega)
theorem Fs {m n:Nat}{s:dA}(k:fq m n s)(h:ed)(vm:Mp (List UInt8))(sm:Mp Bool)(x:bx):fq (m+2) (n+1) (lm h vm sm s x):=by
 unfold lm;split
 · exact k.up (by omega) (by omega)
 split
 · exact(Kg k vm sm _).up (by omega) (by omega)
 split
 · exact(IV k h _).up (by omega) (by omega)
 split
 · split
   · exact⟨by have:=k.log;show s.log.length≤_;omega,k.ats,k.apt,k.paid,kO (yy k.fb) (by omega),kO k.fh (by omega),k.non,k.his⟩
   · exact k.up (by omega) (by omega)
 split
 · exact(Ny k vm sm _ _).up (by omega) (by omega)
 split
 · exact(Li k _ _).up (by omega) (by omega)
 exact M0 k vm sm _ _
theorem Gh {h:ed}{vm:Mp (List UInt8)}{sm:Mp Bool}:∀ (l:List bx) {m n:Nat} {s:dA},fq m n s→fq (m+2*l.length) (n+l.length) (rA h vm sm s l)
 | [],m,n,s,k=>k
 |x::l,m,n,s,k=>(Gh l (Fs k h vm sm x)).up (by rw[List.length_cons];omega) (by rw[List.length_cons];omega)
def jU:dA:=⟨Mp.nil oC,[],fun _ _=>false,Mp.nil lJ,Mp.nil none,Mp.nil 0,[]⟩
theorem EZ:fq 0 0 jU where
 log:=Nat.le_refl _
 ats v t:=⟨fun h=>(by cases h),fun⟨x,h,_⟩=>(by cases h)⟩
 apt:=List.Pairwise.nil
 paid k:=by show(0:Int)≤0∧(0:Int)≤_;omega
 fb:=⟨[],Nat.le_refl _,fun k h=>by cases h⟩
 fh:=⟨[],Nat.le_refl _,fun k h=>by cases h⟩
 non k h:=rfl
 his k h:=by cases h
variable (h:ed) (vm:Mp (List UInt8)) (sm:Mp Bool)
theorem vl (l:List bx)(x:bx)(s:dA):rA h vm sm s (l++ [x])=lm h vm sm (rA h vm sm s l) x:=by
 unfold rA;rw[List.foldl_append];rfl
theorem mQ (x:bx):∀ (l:List bx) (s:dA) (j:Nat),uj h vm sm s j (l++ [x])=uj h vm sm s j l++(if kJ h vm sm (rA h vm sm s l) x=0 then []else [⟨((j+l.length:Nat):Int),kJ h vm sm (rA h vm sm s l) x⟩])
 | [],s,j=>by
   show(if kJ h vm sm s x=0 then _ else _)= []++(if kJ h vm sm s x=0 then _ else _)
   by_cases e:kJ h vm sm s x=0
   · rw[if_pos e,if_pos e];rfl
   · rw[if_neg e,if_neg e];rfl
 | y::l,s,j=>by
   have e1:rA h vm sm s (y::l)=rA h vm sm (lm h vm sm s y) l:=rfl;have e3:j+(y::l).length=(j+1)+l.length:=by rw[List.length_cons];omega
   rw[List.cons_append,uj,uj,e1,e3]
   by_cases e:kJ h vm sm s y=0
   · rw[if_pos e,if_pos e];exact mQ x l _ _
   · rw[if_neg e,if_neg e,tD e,mQ x l s (j+1)];rfl
def my (l:List bx)(i:Nat):dA:={rA h vm sm jU (l.take i)with ref:=uj h vm sm jU 0 (l.take i)}
theorem D7 {l:List bx}{i:Nat}(hi:i<l.length)(e:kJ h vm sm (my h vm sm l i) (l.getD i dQ)=0):my h vm sm l (i+1)=lm h vm sm (my h vm sm l i) (l.getD i dQ):=by
 have hx:l.take (i+1)=l.take i++ [l.getD i dQ]:=by
  rw[List.take_succ_eq_append_getElem hi,List.getD_eq_getElem?_getD,List.getElem?_eq_getElem hi];rfl
 unfold my at e ⊢;rw[yW]at e;rw[FR,hx,vl,mQ,if_pos e,List.append_nil]
theorem F6 {l:List bx}{i:Nat}(hi:i<l.length)(e:kJ h vm sm (my h vm sm l i) (l.getD i dQ)≠0):my h vm sm l (i+1)={my h vm sm l i with ref:=(my h vm sm l i).ref++ [⟨i,kJ h vm sm (my h vm sm l i) (l.getD i dQ)⟩]}:=by
 have hx:l.take (i+1)=l.take i++ [l.getD i dQ]:=by
  rw[List.take_succ_eq_append_getElem hi,List.getD_eq_getElem?_getD,List.getElem?_eq_getElem hi];rfl
 unfold my at e ⊢;rw[yW]at e ⊢;rw[hx,vl,mQ,if_neg e,tD e,List.length_take,Nat.min_eq_left (by omega),Nat.zero_add]
theorem Fg {m n:Nat}{s:dA}(k:fq m n s)(r:List BI):fq m n {s with ref:=r}:=⟨k.log,k.ats,k.apt,k.paid,k.fb,k.fh,k.non,k.his⟩
theorem ol (l:List bx)(i:Nat)(hi:i≤l.length):fq (2*i) i (my h vm sm l i):=by
 have:=Gh (h:=h) (vm:=vm) (sm:=sm) (l.take i) EZ;rw[List.length_take,Nat.min_eq_left hi]at this;exact Fg (this.up (by omega) (by omega)) _
theorem sC:∀ (l:List bx) (s:dA) (j:Nat),(uj h vm sm s j l).length≤l.length
 | [],s,j=>Nat.le_refl _
 | x::l,s,j=>by
   rw[uj];split
   · have:=sC l (lm h vm sm s x) (j+1);rw[List.length_cons];omega
   · have:=sC l s (j+1);rw[List.length_cons,List.length_cons];omega
theorem GS (l:List bx)(i:Nat):(my h vm sm l i).ref.length≤l.length:=by
 have:=sC h vm sm (l.take i) jU 0;rw[List.length_take]at this;show(uj h vm sm jU 0 (l.take i)).length≤_;omega
def fx (l:List uf):Mp (List UInt8):=l.foldl (fun m v=>m.put v.key v.cls) (Mp.nil [])
def nr (l:List xC):Mp Bool:=l.foldl (fun m s=>m.put s.key true) (Mp.nil false)
theorem yq {l:List uf}{i:Nat}(hi:i<l.length):fx (l.take (i+1))=(fx (l.take i)).put (l.getD i cp).key (l.getD i cp).cls:=by
 unfold fx;rw[List.take_succ_eq_append_getElem hi,List.foldl_append,List.getD_eq_getElem?_getD,List.getElem?_eq_getElem hi];rfl
theorem FL {l:List xC}{i:Nat}(hi:i<l.length):nr (l.take (i+1))=(nr (l.take i)).put (l.getD i wx).key true:=by
 unfold nr;rw[List.take_succ_eq_append_getElem hi,List.foldl_append,List.getD_eq_getElem?_getD,List.getElem?_eq_getElem hi];rfl
def aZ (h:ed)(l:List bx):dA:=my h (fx h.flt.veh) (nr h.flt.sta) l l.length
structure jj {α:Type}(f:α→α→Int):Prop where
 sw:∀a b,f a b= - f b a
 tr:∀a b c,f a b<0→f b c<0→f a c<0
 co:∀a b,f a b=0→∀c,f a c=f b c
theorem jj.co' {α:Type}{f:α→α→Int}(h:jj f){a b:α}(e:f a b=0)(c:α):f c a=f c b:=by
 rw[h.sw c a,h.sw c b,h.co a b e c]
theorem jj.int {α:Type}(k:α→Int):jj fun a b=>eU (k a) (k b) where
 sw a b:=HY _ _
 tr a b c h1 h2:=by rw[Di]at*;omega
 co a b e c:=by rw[iQ.1 e]
theorem jj.str {α:Type}(k:α→List UInt8):jj fun a b=>dM (k a) (k b) where
 sw a b:=IL _ _
 tr a b c h1 h2:=BV h1 h2
 co a b e c:=by rw[jX.1 e]
def wj {α:Type}(f g:α→α→Int):α→α→Int:=fun a b=>if f a b=0 then g a b else f a b
theorem jj.seq {α:Type}{f g:α→α→Int}(hf:jj f)(hg:jj g):jj (wj f g) where
 sw a b:=by
  have h1:=hf.sw a b;have h2:=hg.sw a b;unfold wj
  by_cases e:f a b=0
  · rw[if_pos e,if_pos (by omega)];exact h2
  · rw[if_neg e,if_neg (by omega)];exact h1
 tr a b c h1 h2:=by
  unfold wj at*
  by_cases e1:f a b=0
  · rw[if_pos e1]at h1;have k:=hf.co a b e1 c
    by_cases e2:f b c=0
    · rw[if_pos e2]at h2;rw[if_pos (by omega)];exact hg.tr a b c h1 h2
    · rw[if_neg e2]at h2;rw[if_neg (by omega)];omega
  · rw[if_neg e1]at h1
    by_cases e2:f b c=0
    · have k:=hf.co' e2 a;rw[if_neg (by omega)];omega
    · rw[if_neg e2]at h2;have:=hf.tr a b c h1 h2;rw[if_neg (by omega)];exact this
 co a b e c:=by
  unfold wj at*
  by_cases e1:f a b=0
  · rw[if_pos e1]at e;rw[hf.co a b e1 c,hg.co a b e c]
  · rw[if_neg e1]at e;exact absurd e e1
theorem jj.le_tr {α:Type}{f:α→α→Int}(h:jj f){a b c:α}(h1:f a b≤0)(h2:f b c≤0):f a c≤0:=by
 by_cases e1:f a b=0
 · rw[h.co a b e1 c];exact h2
 · by_cases e2:f b c=0
   · rw[←h.co' e2 a];exact h1
   · have:=h.tr a b c (by omega) (by omega);omega
variable {α:Type}
theorem w5 (U V W:List α)(x y d:α):(U++x::(V++y::W)).getD U.length d=x∧(U++x::(V++y::W)).getD (U.length+1+V.length) d=y∧((U++x::(V++y::W)).set U.length y).set (U.length+1+V.length) x=U++y::(V++x::W):=by
 refine⟨?_,?_,?_⟩
 · rw[List.getD_eq_getElem?_getD,List.getElem?_append_right (by omega),Nat.sub_self];rfl
 · rw[List.getD_eq_getElem?_getD,List.getElem?_append_right (by omega),show U.length+1+V.length - U.length=V.length+1 by omega,List.getElem?_cons_succ,List.getElem?_append_right (by omega),Nat.sub_self];rfl
 · rw[List.set_append_right _ _ (by omega),Nat.sub_self,List.set_cons_zero,List.set_append_right _ _ (by omega),show U.length+1+V.length - U.length=V.length+1 by omega,List.set_cons_succ,List.set_append_right _ _ (by omega),Nat.sub_self,List.set_cons_zero]
abbrev mn (f:α→α→Int)(l:List α):Prop:=l.Pairwise fun a b=>f a b≤0
theorem Cg {f:α→α→Int}(hf:jj f){Y:List α}(hY:mn f Y){i j:Nat}(hj:j<Y.length)(hij:i≤j)(d:α):i=j∨f (Y.getD i d) (Y.getD j d)≤0:=by
 rcases Nat.lt_or_ge i j with q|q
 · right;rw[List.getD_eq_getElem?_getD,List.getD_eq_getElem?_getD,List.getElem?_eq_getElem (by omega),List.getElem?_eq_getElem hj];exact List.pairwise_iff_getElem.1 hY i j (by omega) hj q
 · left;omega
theorem yU {Y:List α}{t:Nat}{y:α}(h:y ∈ Y.take t)(d:α):∃i,i<t∧i<Y.length∧Y.getD i d=y:=by
 obtain⟨i,hi,e⟩:=List.getElem_of_mem h;rw[List.length_take]at hi;rw[List.getElem_take]at e;exact⟨i,by omega,by omega,by rw[List.getD_eq_getElem?_getD,List.getElem?_eq_getElem (by omega)];exact e⟩
theorem zg {Y:List α}{t:Nat}{y:α}(h:y ∈ Y.drop t)(d:α):∃i,t≤i∧i<Y.length∧Y.getD i d=y:=by
 obtain⟨i,hi,e⟩:=List.getElem_of_mem h;rw[List.length_drop]at hi;rw[List.getElem_drop]at e;exact⟨t+i,by omega,by omega,by rw[List.getD_eq_getElem?_getD,List.getElem?_eq_getElem (by omega)];exact e⟩
theorem pT {f:α→α→Int}(hf:jj f){Y:List α}(hY:mn f Y){x d:α}{t:Nat}(ht:t≤Y.length)(h:t=0∨f (Y.getD (t - 1) d) x≤0):∀y ∈ Y.take t,f y x≤0:=fun y hy=>by
 obtain⟨i,h1,h2,rfl⟩:=yU hy d;rcases h with h|h
 · omega
 rcases Cg hf hY (i:=i) (j:=t - 1) (by omega) (by omega) d with e|e
 · rw[e];exact h
 · exact hf.le_tr e h
theorem qp {f:α→α→Int}(hf:jj f){Y:List α}(hY:mn f Y){x d:α}{t:Nat}(h:t=Y.length∨f x (Y.getD t d)≤0):∀y ∈ Y.drop t,f x y≤0:=fun y hy=>by
 obtain⟨i,h1,h2,rfl⟩:=zg hy d;rcases h with h|h
 · omega
 rcases Cg hf hY (i:=t) (j:=i) (by omega) (by omega) d with e|e
 · rw[←e];exact h
 · exact hf.le_tr h e
theorem CQ {f:α→α→Int}{Y1 Y2:List α}{x:α}(hY:mn f (Y1++Y2))(h1:∀y ∈ Y1,f y x≤0)(h2:∀y ∈ Y2,f x y≤0):mn f (Y1++x::Y2):=by
 rw[mn,List.pairwise_append]at hY ⊢;refine⟨hY.1,List.pairwise_cons.2 ⟨h2,hY.2.1⟩,fun a ha b hb=> ?_⟩;rcases List.mem_cons.1 hb with e|hb
 · rw[e];exact h1 a ha
 · exact hY.2.2 a ha b hb
theorem FH {f:α→α→Int}{Z1 Z2 X1 Y1 X2 Y2:List α}(p1:Z1.Perm (X1++Y1))(s1:mn f Z1)(p2:Z2.Perm (X2++Y2))(s2:mn f Z2)(hX:mn f (X1++X2))(hY:mn f (Y1++Y2))
 (h1:∀x ∈ X1,∀y ∈ Y2,f x y≤0)(h2:∀y ∈ Y1,∀x ∈ X2,f y x≤0):(Z1++Z2).Perm ((X1++X2)++(Y1++Y2))∧mn f (Z1++Z2):=by
 constructor
 · refine(p1.append p2).trans ?_;rw[List.append_assoc,List.append_assoc];exact List.Perm.append_left X1 (List.perm_append_comm_assoc _ _ _)
 · rw[mn,List.pairwise_append]at hX hY ⊢;refine⟨s1,s2,fun a ha b hb=> ?_⟩;rcases List.mem_append.1 (p1.mem_iff.1 ha)with q|q<;>rcases List.mem_append.1 (p2.mem_iff.1 hb)with r|r
   · exact hX.2.2 a q b r
   · exact h1 a q b r
   · exact h2 a q b r
   · exact hY.2.2 a q b r
theorem vu {f:α→α→Int}(hf:jj f){X Y:List α}(hX:mn f X)(hY:mn f Y){d:α}{s e:Nat}(hs:s≤X.length)(h:s=0∨e=Y.length∨f (X.getD (s - 1) d) (Y.getD e d)≤0):
 ∀x ∈ X.take s,∀y ∈ Y.drop e,f x y≤0:=fun x hx y hy=>by
 rcases h with h|h|h
 · subst h;rw[List.take_zero]at hx;cases hx
 · subst h;rw[List.drop_length]at hy;cases hy
 · exact hf.le_tr (pT hf hX hs (.inr h) x hx) (qp hf hY (d:=d) (t:=e) (.inr (by have:=hf.sw (Y.getD e d) (Y.getD e d);omega)) y hy)
theorem jM {P X S:List α}{i:Nat}(h1:P.length≤i)(h2:i<P.length+X.length)(d:α):(P++(X++S)).getD i d=X.getD (i - P.length) d:=by
 rw[List.getD_eq_getElem?_getD,List.getElem?_append_right h1,List.getElem?_append_left (by omega),List.getD_eq_getElem?_getD]
theorem jS {f:α→α→Int}(hf:jj f)(l:List α):mn f (di f l):=
 tK f (fun a b=>f a b≤0) (fun _ _ _ h1 h2=>hf.le_tr h1 h2) l (List.pairwise_of_forall fun x y=>⟨fun q=>by omega,fun q=>by have:=hf.sw x y;omega⟩)
theorem xV {f:α→α→Int}(hf:jj f){l c:List α}(hz:∀a ∈ l,∀b ∈ l,f a b=0→a=b)(hp:c.Perm l)(hs:mn f c):c=di f l:=
 List.Perm.eq_of_pairwise (le:=fun a b=>f a b≤0) (fun x y hx hy q1 q2=>hz x (hp.mem_iff.1 hx) y ((dH f l).mem_iff.1 hy) (by have:=hf.sw x y;omega)) hs (jS hf l) (hp.trans (dH f l).symm)
theorem ql (X:List α)(s:Nat)(hs:s≤X.length):X.take s++X.drop s=X∧(X.take s).length=s∧(X.drop s).length=X.length - s:=by
 refine⟨List.take_append_drop s X,by rw[List.length_take];omega,List.length_drop ..⟩
def s7:OL:= [(0,[]),(1,[0]),(2,[0,1]),(3,[0]),(4,rg 4),(5,rg 5),(6,rg 6),(7,rg 5),(8,rg 8),(9,rg 9),(10,rg 10),(11,rg 9),(12,rg 8),(13,rg 8),(14,rg 14),(15,rg 15),(16,rg 16),(17,rg 15),(18,rg 14),(19,rg 14),(20,[4,5,6,7]),(21,[4,5,6,7]),(22,[]),(23,[])]
theorem Ah (g:FuncId)(P A M B S c:List cO)(a b n:Nat)(ha:P.length=a)(hb0:a+A.length+M.length=b)(hn:A.length=n)(hAB:B.length=n)(hc:c=P++(A++(M++(B++S))))(hl:c.length≤2^20):
 ai Tryz.prog 275 [.buf 1000001,.d (.int .i64 a),.d (.int .i64 b),.d (.int .i64 n),.fn g []] [(1000001,aM 198 5 iB dt c)]
  (fun y r=>y= .tup []∧r= [(1000001,aM 198 5 iB dt (P++(B++(M++(A++S)))))]):=by
 have hl0:=hl;rw[hc]at hl0;simp only[List.length_append]at hl0;refine af hT (C:= []) Tryz.func275 rfl Tryz.call275 rfl rfl rfl ?_;conv=>whnf
 refine ah hT (C:= []) (ι:=Nat×List cO×List cO×List cO×List cO×List cO) (fun(i,A1,A2,B1,B2,c)=>A1++A2=A∧B1++B2=B∧A1.length=i∧B1.length=i∧c=P++(B1++(A2++(M++(A1++(B2++S))))))
  (fun(i,_,_,_,_,c)=>aN [(0,.buf 1000001),(1,.d (.int .i64 a)),(2,.d (.int .i64 b)),(3,.d (.int .i64 n)),(10,.d (.int .i64 i))] [(1000001,aM 198 5 iB dt c)])
  (fun(i,_,_,_,_,_)=>n - i) (0,[],A,[],B,c) ⟨rfl,rfl,rfl,rfl,hc⟩ (by exact bz [(1000001,1000001)]) ?_
 rintro⟨i,A1,A2,B1,B2,d⟩ ⟨p1,p2,p3,p4,p5⟩;have l1:A1.length+A2.length=A.length:=by rw[←p1,List.length_append]
 have l2:B1.length+B2.length=B.length:=by rw[←p2,List.length_append]
 cases A2 with
 | nil=>
   have hb9:B2= []:=List.length_eq_zero_iff.1 (by simp only[List.length_nil]at l1;omega);subst hb9;rw[List.append_nil]at p1 p2;subst p1 p2;simp only[List.length_nil]at l1 l2;conv=>whnf
   repeat' (first|((first|(refine aa ?_ ?_<;>intro hb<;>try simp only[az]at hb)|refine aw hT 3 s7 ?_|omega|refine aA ?_|decide|assumption)<;>conv=>whnf))
   all_goals first
    |(exfalso;omega)
    | (refine .ret _ ?_
       conv=>whnf
       exact⟨_,⟨rfl,rfl⟩,by rw[p5];exact rr,trivial⟩)
 |cons x A2=>
 cases B2 with
 |nil=>exfalso;simp only[List.length_nil,List.length_cons]at l1 l2;omega
 |cons y B2=>
 simp only[List.length_cons]at l1 l2;have hc':d=(P++B1)++x::((A2++(M++A1))++y::(B2++S)):=by rw[p5];simp
 have hlc:d.length=P.length+A.length+M.length+B.length+S.length:=by rw[hc'];simp only[List.length_append,List.length_cons];omega
 have i1:((a:Int)+(i:Int)).toNat=(P++B1).length:=by rw[List.length_append];omega
 have i2:((b:Int)+(i:Int)).toNat=(P++B1).length+1+(A2++(M++A1)).length:=by simp only[List.length_append];omega
 obtain⟨g1,g2,g3⟩:=w5 (P++B1) (A2++(M++A1)) (B2++S) x y dt;rw[←hc',←i1]at g1;rw[←hc',←i2]at g2;rw[←hc',←i2,←i1]at g3;conv=>whnf
 repeat' (first|((first|(refine aa ?_ ?_<;>intro hb<;>try simp only[az]at hb)|refine aw hT 3 s7 ?_|omega|refine aA ?_|decide|assumption)<;>conv=>whnf))
 all_goals first
  |(exfalso;omega)
  |(refine⟨(i+1,A1++ [x],A2,B1++ [y],B2,(d.set ((a:Int)+(i:Int)).toNat (d.getD ((b:Int)+(i:Int)).toNat dt)).set ((b:Int)+(i:Int)).toNat (d.getD ((a:Int)+(i:Int)).toNat dt)),⟨by rw[←p1];simp,by rw[←p2];simp,by simp only[List.length_append,List.length_cons,List.length_nil];omega,by simp only[List.length_append,List.length_cons,List.length_nil];omega,by rw[g1,g2,g3];simp⟩,by show n - (i+1)<n - i;omega,ae [(1000001,1000001)] rfl rfl ⟨lr,lr,lr,lr,am (by omega),trivial⟩ ⟨fU (fun _=>rfl) (fun _=>rfl),trivial⟩⟩)
theorem Lb (g:FuncId)(P X Y S c:List cO)(a m b:Nat)(ha:P.length=a)(hm:a+X.length=m)(hb0:m+Y.length=b)(hc:c=P++(X++(Y++S)))(hX:1≤X.length)(hY:1≤Y.length)(hl:c.length≤2^20):
 ai Tryz.prog 250 [.buf 1000001,.d (.int .i64 a),.d (.int .i64 m),.d (.int .i64 b),.fn g []] [(1000001,aM 198 5 iB dt c)]
  (fun y r=>y= .tup []∧r= [(1000001,aM 198 5 iB dt (P++(Y++(X++S))))]):=by
 have hl0:=hl;rw[hc]at hl0;simp only[List.length_append]at hl0;refine af hT (C:= []) Tryz.func250 rfl Tryz.call250 rfl rfl rfl ?_;conv=>whnf
 repeat' (first|((first|(refine aa ?_ ?_<;>intro hb<;>try simp only[az]at hb)|omega|refine aA ?_|decide|assumption)<;>conv=>whnf))
 refine ah hT (C:= []) (ι:=Nat×Nat×List cO×List cO×List cO×List cO×List cO) (fun(i,j,A,X',Y',B,c)=>A++(Y'++(X'++B))=P++(Y++(X++S))∧A.length+i=m∧X'.length=i∧Y'.length=j∧1≤i∧1≤j∧c=A++(X'++(Y'++B)))
  (fun(i,j,_,_,_,_,c)=>aN [(0,.buf 1000001),(2,.d (.int .i64 m)),(4,.fn g []),(10,.d (.int .i64 i)),(11,.d (.int .i64 j))] [(1000001,aM 198 5 iB dt c)])
  (fun(i,j,_,_,_,_,_)=>i+j) (X.length,Y.length,P,X,Y,S,c) ⟨rfl,by show P.length+X.length=m;omega,rfl,rfl,hX,hY,hc⟩ (by exact bz [(1000001,1000001)]) ?_
 rintro⟨i,j,A,X',Y',B,d⟩ ⟨p1,p2,p3,p4,p5,p6,p7⟩
 have q1:A.length+X'.length+Y'.length+B.length=P.length+X.length+Y.length+S.length:=by
  have:=congrArg List.length p1;simp only[List.length_append]at this;omega
 have hld:d.length≤2^20:=by rw[p7];simp only[List.length_append];omega
 have e1:((m:Int) - (i:Int))=((A.length:Nat):Int):=by omega
 rcases Nat.lt_trichotomy i j with q|q|q
 · obtain⟨k1,k2,k3⟩:=ql Y' (j - i) (by omega);generalize List.take (j - i) Y' =U at k1 k2;generalize List.drop (j - i) Y' =V at k1 k3;subst k1;simp only[List.length_append]at p4 q1;have c1:=Ah g A X' U V B d A.length (A.length+i+U.length) i rfl (by omega) p3 (by omega) (by rw[p7];simp) hld;conv=>whnf
   repeat' (first|((first|(refine fz.of c1 [(1000001,1000001)] rfl ⟨lr,am (by omega),am (by omega),lr,lr,trivial⟩ ⟨rr,trivial⟩ rfl rfl ?_;rintro y rout ⟨rfl,rfl⟩;refine⟨rfl,?_⟩)|(refine aa ?_ ?_<;>intro hb<;>try simp only[az]at hb)|omega|refine aA ?_|decide|assumption)<;>conv=>whnf))
   all_goals first
    |(exfalso;omega)
    |exact⟨(i,j - i,A,V,U,X'++B,A++(V++(U++(X'++B)))),⟨by rw[←p1];simp,p2,by omega,by omega,by omega,by omega,by simp⟩,by show i+(j - i)<i+j;omega,(by exact bz [(1000001,1000001)])⟩
 · have c1:=Ah g A X' [] Y' B d A.length m i rfl (by show A.length+X'.length+0=m;omega) p3 (by omega) (by rw[p7];simp) hld;conv=>whnf
   repeat' (first|((first|(refine fz.of c1 [(1000001,1000001)] rfl ⟨lr,am (by omega),lr,lr,lr,trivial⟩ ⟨rr,trivial⟩ rfl rfl ?_;rintro y rout ⟨rfl,rfl⟩;refine⟨rfl,?_⟩)|(refine aa ?_ ?_<;>intro hb<;>try simp only[az]at hb)|omega|refine aA ?_|decide|assumption)<;>conv=>whnf))
   all_goals first
    |(exfalso;omega)
    | (rw[←p1]
       refine .ret _ ?_;conv=>whnf
       exact⟨_,⟨rfl,rfl⟩,rr,trivial⟩)
 · obtain⟨k1,k2,k3⟩:=ql X' j (by omega);generalize List.take j X' =U at k1 k2;generalize List.drop j X' =V at k1 k3;subst k1;simp only[List.length_append]at p3 q1;have c1:=Ah g A U V Y' B d A.length m j rfl (by omega) (by omega) p4 (by rw[p7];simp) hld;conv=>whnf
   repeat' (first|((first|(refine fz.of c1 [(1000001,1000001)] rfl ⟨lr,am (by omega),lr,lr,lr,trivial⟩ ⟨rr,trivial⟩ rfl rfl ?_;rintro y rout ⟨rfl,rfl⟩;refine⟨rfl,?_⟩)|(refine aa ?_ ?_<;>intro hb<;>try simp only[az]at hb)|omega|refine aA ?_|decide|assumption)<;>conv=>whnf))
   all_goals first
    |(exfalso;omega)
    |exact⟨(i - j,j,A++Y',V,U,B,A++(Y'++(V++(U++B)))),⟨by rw[←p1];simp,by simp only[List.length_append];omega,by omega,by omega,by omega,by omega,by simp⟩,by show i - j+j<i+j;omega,(by exact bz [(1000001,1000001)])⟩
def dZ:OL:= [(0,[]),(1,[0]),(2,[0,1]),(3,[0]),(4,[0]),(5,rg 5),(6,rg 6),(7,rg 5),(8,rg 5),(9,[]),(10,[])]
def dB:OL:= [(0,[]),(1,[0]),(2,[0,1]),(3,[0,1,2]),(4,[0,1,2]),(5,rg 5),(6,rg 6),(7,rg 6),(8,rg 5),(9,rg 5),(10,rg 10),(11,rg 11),(12,rg 10),(13,rg 10),(14,[2,3,4]),(15,[2,3,4]),(16,[]),(17,[])]
def dx:OL:= [(0,[]),(1,[0]),(2,[0,1]),(3,[0]),(4,[0]),(5,rg 5),(6,rg 6),(7,rg 5),(8,rg 5),(9,[]),(10,[]),(11,[])]
def dz:OL:= [(0,[]),(1,[0]),(2,[0,1]),(3,[0,1,2]),(4,[0,1,2]),(5,rg 5),(6,rg 6),(7,rg 6),(8,rg 5),(9,rg 5),(10,rg 10),(11,rg 11),(12,rg 10),(13,rg 10),(14,[2,3,4]),(15,[2,3,4]),(16,[]),(17,[])]
abbrev yP (g:FuncId)(f:cO→cO→Int)(P X Y S c:List cO)(a m b:Nat):Prop:=
 ai Tryz.prog 207 [.buf 1000001,.d (.int .i64 a),.d (.int .i64 m),.d (.int .i64 b),.fn g []] [(1000001,aM 198 5 iB dt c)]
  (fun y r=>y= .tup []∧∃Z,Z.Perm (X++Y)∧mn f Z∧r= [(1000001,aM 198 5 iB dt (P++(Z++S)))])
theorem IH (g:FuncId)(f:cO→cO→Int)(hf:jj f)(P Y S c:List cO)(x:cO)(a m b:Nat)(ha:P.length=a)(hm:a+1=m)(hb0:m+Y.length=b)(hc:c=P++([x]++(Y++S)))(hY:mn f Y)(hl:c.length≤2^20)
 (hcmp:∀p q,p ∈ [x]++Y→q ∈ [x]++Y→ai Tryz.prog g [.agg ((iB p).map .d),.agg ((iB q).map .d)] [] (fun y r=>y= .d (.int .i64 (f p q))∧r= [])):yP g f P [x] Y S c a m b:=by
 have hl0:=hl;rw[hc]at hl0;simp only[List.length_append,List.length_singleton]at hl0;have hlc:c.length=P.length+(1+Y.length)+S.length:=by rw[hc];simp only[List.length_append,List.length_singleton];omega
 have gx:c.getD (a:Int).toNat dt=x:=by rw[hc,jM (by omega) (by simp only[List.length_singleton];omega),show(a:Int).toNat - P.length=0 by omega];rfl
 have gy:∀k,m≤k→k<b→c.getD k dt=Y.getD (k - m) dt:=fun k h1 h2=>by
  rw[hc,←List.append_assoc,jM (by simp only[List.length_append,List.length_singleton];omega) (by simp only[List.length_append,List.length_singleton];omega)];congr 1
  simp only[List.length_append,List.length_singleton];omega
 refine af hT (C:= []) Tryz.func207 rfl Tryz.call207 rfl rfl rfl ?_;conv=>whnf
 repeat' (first|((first|(refine aa ?_ ?_<;>intro hb<;>try simp only[az]at hb)|refine aw hT 5 dZ ?_|refine aw hT 11 dB ?_|refine aw hT 17 dx ?_|refine aw hT 23 dz ?_|refine aw hT 35 oBStC207_35 ?_|omega|refine aA ?_|decide|assumption)<;>conv=>whnf))
 all_goals try(exfalso;omega)
 refine ah hT (C:= []) (ι:=Nat×Nat) (fun(i,j)=>m≤i∧i≤j∧j≤b∧(i - m=0∨f (Y.getD (i - m - 1) dt) x≤0)∧(j - m=Y.length∨f x (Y.getD (j - m) dt)≤0))
  (fun(i,j)=>aN [(0,.buf 1000001),(1,.d (.int .i64 a)),(4,.fn g []),(10,.d (.int .i64 i)),(11,.d (.int .i64 j))] [(1000001,aM 198 5 iB dt c)])
  (fun(i,j)=>j - i) (m,b) ⟨Nat.le_refl _,by show m≤b;omega,Nat.le_refl _,.inl (by show m - m=0;omega),.inl (by show b - m=_;omega)⟩ (by exact bz [(1000001,1000001)]) ?_
 rintro⟨i,j⟩ ⟨p1,p2,p3,p4,p5⟩;try dsimp only at p1 p2 p3 p4 p5
 rcases Nat.lt_or_ge i j with q|q
 · obtain⟨M,hM⟩:∃M,M=(i+j)/2:=⟨_,rfl⟩;have hh:=zf i j (by omega) p2;rw[←hM]at hh;have gM:c.getD (M:Int).toNat dt=Y.getD (M - m) dt:=by rw[Int.toNat_natCast];exact gy M (by omega) (by omega)
   have mM:Y.getD (M - m) dt ∈ [x]++Y:=List.mem_append_right _ (aq (by omega));conv=>whnf
   repeat' (first|(refine⟨rfl,?_⟩;conv=>whnf)|(rw[hh];conv=>whnf)|((first|(refine fz.of (hcmp (Y.getD (M - m) dt) x mM (by simp)) [] rfl ⟨by rw[←gM];exact lr,by rw[←gx];exact lr,trivial⟩ trivial rfl rfl ?_;rintro y rout ⟨rfl,rfl⟩;refine⟨rfl,?_⟩)|(refine aa ?_ ?_<;>intro hb<;>try simp only[az]at hb)|refine aw hT 5 dZ ?_|refine aw hT 11 dB ?_|refine aw hT 17 dx ?_|refine aw hT 23 dz ?_|refine aw hT 35 oBStC207_35 ?_|omega|refine aA ?_|decide|assumption)<;>conv=>whnf))
   all_goals try(exfalso;omega)
   · exact⟨(M+1,j),⟨by show m≤M+1;omega,by show M+1≤j;omega,p3,.inr (by show f (Y.getD (M+1 - m - 1) _) _≤0;rw[show M+1 - m - 1=M - m by omega];omega),p5⟩,by show j - (M+1)<j - i;omega,(by exact bz [(1000001,1000001)])⟩
   · exact⟨(i,M),⟨p1,by show i≤M;omega,by show M≤b;omega,p4,.inr (by show f _ (Y.getD (M - m) _)≤0;rw[hf.sw];omega)⟩,by show M - i<j - i;omega,(by exact bz [(1000001,1000001)])⟩
 · have hij:i=j:=by omega
   subst hij;obtain⟨k1,k2,k3⟩:=ql Y (i - m) (by omega);have s1:=pT hf hY (x:=x) (d:=dt) (t:=i - m) (by omega) p4;have s2:=qp hf hY (x:=x) (d:=dt) (t:=i - m) p5;generalize List.take (i - m) Y=Y1 at k1 k2 s1;generalize List.drop (i - m) Y=Y2 at k1 k3 s2;subst k1;have sZ:=CQ hY s1 s2;conv=>whnf
   repeat' (first|((first|(refine aa ?_ ?_<;>intro hb<;>try simp only[az]at hb)|refine aw hT 5 dZ ?_|refine aw hT 11 dB ?_|refine aw hT 17 dx ?_|refine aw hT 23 dz ?_|refine aw hT 35 oBStC207_35 ?_|omega|refine aA ?_|decide|assumption)<;>conv=>whnf))
   all_goals try(exfalso;omega)
   refine ah hT (C:= []) (ι:=Nat×List cO×List cO×List cO) (fun(k,A,B,c)=>A++B=Y1∧A.length+a=k∧c=P++(A++(x::(B++(Y2++S)))))
    (fun(k,_,_,c)=>aN [(0,.buf 1000001),(10,.d (.int .i64 i)),(13,.d (.int .i64 k))] [(1000001,aM 198 5 iB dt c)])
    (fun(_,_,B,_)=>B.length) (a,[],Y1,c) ⟨rfl,by simp,by rw[hc];simp⟩ (by exact bz [(1000001,1000001)]) ?_
   rintro⟨k,A,B,d⟩ ⟨r1,r2,r3⟩;have r4:A.length+B.length=Y1.length:=by rw[←r1,List.length_append]
   have hld:d.length=c.length:=by rw[r3,hc,←r1];simp only[List.length_append,List.length_cons,List.length_nil];omega
   cases B with
   | nil=>
     rw[List.append_nil]at r1;simp only[List.length_nil]at r4;conv=>whnf
     repeat' (first|((first|(refine aa ?_ ?_<;>intro hb<;>try simp only[az]at hb)|refine aw hT 5 dZ ?_|refine aw hT 11 dB ?_|refine aw hT 17 dx ?_|refine aw hT 23 dz ?_|refine aw hT 35 oBStC207_35 ?_|omega|refine aA ?_|decide|assumption)<;>conv=>whnf))
     all_goals try(exfalso;omega)
     refine .ret _ ?_;conv=>whnf
     exact⟨_,⟨rfl,Y1++x::Y2,List.perm_middle,sZ,rfl⟩,by rw[r3,r1];simp only[List.append_assoc,List.cons_append,List.nil_append];exact rr,trivial⟩
   | cons y B=>
     simp only[List.length_cons]at r4;obtain⟨g1,g2,g3⟩:=w5 (P++A) [] (B++(Y2++S)) x y dt;have hc':d=(P++A)++x::([]++y::(B++(Y2++S))):=by rw[r3];simp
     have i1:(k:Int).toNat=(P++A).length:=by rw[List.length_append];omega
     have i2:((k:Int)+1).toNat=(P++A).length+1+([]:List cO).length:=by simp only[List.length_append,List.length_nil];omega
     rw[←hc',←i1]at g1;rw[←hc',←i2]at g2;rw[←hc',←i2,←i1]at g3;conv=>whnf
     repeat' (first|((first|(refine aa ?_ ?_<;>intro hb<;>try simp only[az]at hb)|refine aw hT 5 dZ ?_|refine aw hT 11 dB ?_|refine aw hT 17 dx ?_|refine aw hT 23 dz ?_|refine aw hT 35 oBStC207_35 ?_|omega|refine aA ?_|decide|assumption)<;>conv=>whnf))
     all_goals try(exfalso;omega)
     refine⟨(k+1,A++ [y],B,(d.set (k:Int).toNat (d.getD ((k:Int)+1).toNat dt)).set ((k:Int)+1).toNat (d.getD (k:Int).toNat dt)),⟨by rw[←r1];simp,by simp only[List.length_append,List.length_singleton];omega,by rw[g1,g2,g3];simp⟩,by show B.length<(y::B).length;simp,ae [(1000001,1000001)] rfl rfl ⟨lr,lr,am (by omega),trivial⟩ ⟨fU (fun _=>rfl) (fun _=>rfl),trivial⟩⟩
theorem H7 (g:FuncId)(f:cO→cO→Int)(hf:jj f)(P X S c:List cO)(x:cO)(a m b:Nat)(ha:P.length=a)(hm:a+X.length=m)(hX2:2≤X.length)(hb0:m+1=b)(hc:c=P++(X++([x]++S)))(hX:mn f X)(hl:c.length≤2^20)
 (hcmp:∀p q,p ∈ X++ [x]→q ∈ X++ [x]→ai Tryz.prog g [.agg ((iB p).map .d),.agg ((iB q).map .d)] [] (fun y r=>y= .d (.int .i64 (f p q))∧r= [])):yP g f P X [x] S c a m b:=by
 have hl0:=hl;rw[hc]at hl0;simp only[List.length_append,List.length_singleton]at hl0;have hlc:c.length=P.length+(X.length+1)+S.length:=by rw[hc];simp only[List.length_append,List.length_singleton];omega
 have gx:c.getD (m:Int).toNat dt=x:=by rw[hc,←List.append_assoc,jM (by simp only[List.length_append];omega) (by simp only[List.length_append,List.length_singleton];omega),show(m:Int).toNat - (P++X).length=0 by simp only[List.length_append];omega];rfl
 have gy:∀k,a≤k→k<m→c.getD k dt=X.getD (k - a) dt:=fun k h1 h2=>by
  rw[hc,jM (by omega) (by omega),ha]
 refine af hT (C:= []) Tryz.func207 rfl Tryz.call207 rfl rfl rfl ?_;conv=>whnf
 repeat' (first|((first|(refine aa ?_ ?_<;>intro hb<;>try simp only[az]at hb)|refine aw hT 5 dZ ?_|refine aw hT 11 dB ?_|refine aw hT 17 dx ?_|refine aw hT 23 dz ?_|refine aw hT 35 oBStC207_35 ?_|omega|refine aA ?_|decide|assumption)<;>conv=>whnf))
 all_goals try(exfalso;omega)
 refine ah hT (C:= []) (ι:=Nat×Nat) (fun(i,j)=>a≤i∧i≤j∧j≤m∧(i - a=0∨f (X.getD (i - a - 1) dt) x≤0)∧(j - a=X.length∨f x (X.getD (j - a) dt)≤0))
  (fun(i,j)=>aN [(0,.buf 1000001),(2,.d (.int .i64 m)),(4,.fn g []),(14,.d (.int .i64 i)),(15,.d (.int .i64 j))] [(1000001,aM 198 5 iB dt c)])
  (fun(i,j)=>j - i) (a,m) ⟨Nat.le_refl _,by show a≤m;omega,Nat.le_refl _,.inl (by show a - a=0;omega),.inl (by show m - a=_;omega)⟩ (by exact bz [(1000001,1000001)]) ?_
 rintro⟨i,j⟩ ⟨p1,p2,p3,p4,p5⟩;try dsimp only at p1 p2 p3 p4 p5
 rcases Nat.lt_or_ge i j with q|q
 · obtain⟨M,hM⟩:∃M,M=(i+j)/2:=⟨_,rfl⟩;have hh:=zf i j (by omega) p2;rw[←hM]at hh;have gM:c.getD (M:Int).toNat dt=X.getD (M - a) dt:=by rw[Int.toNat_natCast];exact gy M (by omega) (by omega)
   have mM:X.getD (M - a) dt ∈ X++ [x]:=List.mem_append_left _ (aq (by omega));conv=>whnf
   repeat' (first|(refine⟨rfl,?_⟩;conv=>whnf)|(rw[hh];conv=>whnf)|((first|(refine fz.of (hcmp x (X.getD (M - a) dt) (by simp) mM) [] rfl ⟨by rw[←gx];exact lr,by rw[←gM];exact lr,trivial⟩ trivial rfl rfl ?_;rintro y rout ⟨rfl,rfl⟩;refine⟨rfl,?_⟩)|(refine aa ?_ ?_<;>intro hb<;>try simp only[az]at hb)|refine aw hT 5 dZ ?_|refine aw hT 11 dB ?_|refine aw hT 17 dx ?_|refine aw hT 23 dz ?_|refine aw hT 35 oBStC207_35 ?_|omega|refine aA ?_|decide|assumption)<;>conv=>whnf))
   all_goals try(exfalso;omega)
   · exact⟨(M+1,j),⟨by show a≤M+1;omega,by show M+1≤j;omega,p3,.inr (by show f (X.getD (M+1 - a - 1) _) _≤0;rw[show M+1 - a - 1=M - a by omega,hf.sw];omega),p5⟩,by show j - (M+1)<j - i;omega,(by exact bz [(1000001,1000001)])⟩
   · exact⟨(i,M),⟨p1,by show i≤M;omega,by show M≤m;omega,p4,.inr (by show f _ (X.getD (M - a) _)≤0;omega)⟩,by show M - i<j - i;omega,(by exact bz [(1000001,1000001)])⟩
 · have hij:i=j:=by omega
   subst hij;obtain⟨k1,k2,k3⟩:=ql X (i - a) (by omega);have s1:=pT hf hX (x:=x) (d:=dt) (t:=i - a) (by omega) p4;have s2:=qp hf hX (x:=x) (d:=dt) (t:=i - a) p5;generalize List.take (i - a) X=Y1 at k1 k2 s1;generalize List.drop (i - a) X=Y2 at k1 k3 s2;subst k1;have sZ:=CQ hX s1 s2;simp only[List.length_append]at hm hl0 k3;conv=>whnf
   repeat' (first|((first|(refine aa ?_ ?_<;>intro hb<;>try simp only[az]at hb)|refine aw hT 5 dZ ?_|refine aw hT 11 dB ?_|refine aw hT 17 dx ?_|refine aw hT 23 dz ?_|refine aw hT 35 oBStC207_35 ?_|omega|refine aA ?_|decide|assumption)<;>conv=>whnf))
   all_goals try(exfalso;omega)
   refine ah hT (C:= []) (ι:=Nat×List cO×List cO×List cO) (fun(k,A,B,c)=>A.reverse++B=Y2∧A.length+i=k∧c=P++(Y1++(A.reverse++(x::(B++S)))))
    (fun(k,_,_,c)=>aN [(0,.buf 1000001),(14,.d (.int .i64 i)),(17,.d (.int .i64 k))] [(1000001,aM 198 5 iB dt c)])
    (fun(_,A,_,_)=>A.length) (m,Y2.reverse,[],c) ⟨by simp,by show Y2.reverse.length+i=m;rw[List.length_reverse];omega,by rw[hc];simp⟩ (by exact bz [(1000001,1000001)]) ?_
   rintro⟨k,A,B,d⟩ ⟨r1,r2,r3⟩;have r4:A.length+B.length=Y2.length:=by rw[←r1,List.length_append,List.length_reverse]
   have hld:d.length=c.length:=by rw[r3,hc,←r1];simp only[List.length_append,List.length_cons,List.length_nil,List.length_reverse];omega
   cases A with
   | nil=>
     rw[List.reverse_nil,List.nil_append]at r1;simp only[List.length_nil]at r4 r2;conv=>whnf
     repeat' (first|((first|(refine aa ?_ ?_<;>intro hb<;>try simp only[az]at hb)|refine aw hT 5 dZ ?_|refine aw hT 11 dB ?_|refine aw hT 17 dx ?_|refine aw hT 23 dz ?_|refine aw hT 35 oBStC207_35 ?_|omega|refine aA ?_|decide|assumption)<;>conv=>whnf))
     all_goals try(exfalso;omega)
     refine .ret _ ?_;conv=>whnf
     exact⟨_,⟨rfl,Y1++x::Y2,by rw[List.append_assoc];exact List.Perm.append_left Y1 (List.perm_append_singleton x Y2).symm,sZ,rfl⟩,by rw[r3,r1];simp only[List.append_assoc,List.cons_append,List.nil_append,List.reverse_nil];exact rr,trivial⟩
   | cons y A=>
     simp only[List.length_cons]at r4 r2;obtain⟨g1,g2,g3⟩:=w5 (P++(Y1++A.reverse)) [] (B++S) y x dt;have hc':d=(P++(Y1++A.reverse))++y::([]++x::(B++S)):=by rw[r3];simp
     have i1:((k:Int) - 1).toNat=(P++(Y1++A.reverse)).length:=by simp only[List.length_append,List.length_reverse];omega
     have i2:(k:Int).toNat=(P++(Y1++A.reverse)).length+1+([]:List cO).length:=by simp only[List.length_append,List.length_nil,List.length_reverse];omega
     rw[←hc',←i1]at g1;rw[←hc',←i2]at g2;rw[←hc',←i2,←i1]at g3;conv=>whnf
     repeat' (first|((first|(refine aa ?_ ?_<;>intro hb<;>try simp only[az]at hb)|refine aw hT 5 dZ ?_|refine aw hT 11 dB ?_|refine aw hT 17 dx ?_|refine aw hT 23 dz ?_|refine aw hT 35 oBStC207_35 ?_|omega|refine aA ?_|decide|assumption)<;>conv=>whnf))
     all_goals try(exfalso;omega)
     refine⟨(k - 1,A,y::B,(d.set (k:Int).toNat (d.getD ((k:Int) - 1).toNat dt)).set ((k:Int) - 1).toNat (d.getD (k:Int).toNat dt)),⟨by rw[←r1];simp,by omega,?_⟩,by show A.length<(y::A).length;simp,ae [(1000001,1000001)] rfl rfl ⟨lr,lr,am (by omega),trivial⟩ ⟨fU (fun _=>rfl) (fun _=>rfl),trivial⟩⟩;rw[List.set_comm _ _ (by omega),g1,g2,g3];simp
end Go.Proofs.YtodakofifpaljaaGreatDoor
