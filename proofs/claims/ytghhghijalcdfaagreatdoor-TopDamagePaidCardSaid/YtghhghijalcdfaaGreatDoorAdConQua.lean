/- TopDamagePaid is proved: for every input the law returns true, and its argument reads afterwards as it read before. Conditions: those of the given row alone. -/
import Derived.Test.YtghhghijalcdfaaGreatDoorAdConTwo
import Derived.Test.YtghhghijalcdfaaGreatDoorAdConTri
set_option linter.unusedVariables false
set_option linter.unusedSimpArgs false
set_option maxHeartbeats 16000000
set_option maxRecDepth 20000
namespace Go.Proofs.YtghhghijalcdfaaGreatDoor
open Go Go.Eng
abbrev lgBf (l:List Leg):Res:=seqB 137 9 lgF lg0 l
def opnH (h:Hir):Bool:=decide ((h.legs.getD ((h.legs.length:Int) - 1).toNat lg0).inn.tm= -1)
def goE (h:Hir):Int:=if hirE h≠0 then hirE h else if opnH h then 0 else 11
def exH (h:Hir)(ri:Rdg)(v:List UInt8)(ro:Rdg):Hir:=⟨h.key,h.drv,h.frm,h.to,setIn h.legs ri++ [⟨v,ro,rgN⟩]⟩
def clH (h:Hir)(ri:Rdg):Hir:=⟨h.key,h.drv,h.frm,h.to,setIn h.legs ri⟩
def xtH (h:Hir)(to:Int):Hir:=⟨h.key,h.drv,h.frm,to,h.legs⟩
def mdE (h h':Hir):Int:=if goE h≠0 then goE h else hirE h'
def mdH (h h':Hir):Hir:=if mdE h h' =0 then h' else hi0
def hiL (h:Hir):Prop:=h.key.length≤2^40∧h.drv.length≤2^40∧h.legs.length≤2^19∧∀x ∈ h.legs,lgK x
theorem hiL.k {h:Hir}(q:hiL h):hiK h:=⟨q.1,q.2.1,by have:=q.2.2.1;omega,q.2.2.2⟩
theorem setIn_K {l:List Leg}{r:Rdg}(h:∀x ∈ l,lgK x)(hr:r.st.length≤2^40):∀x ∈ setIn l r,lgK x:=fun x hx=>by
 unfold setIn at hx
 by_cases hi:((l.length:Int) - 1).toNat<l.length
 · rcases List.mem_or_eq_of_mem_set hx with q|q
   · exact h x q
   · have h1:l.getD ((l.length:Int) - 1).toNat lg0 ∈ l:=by
      rw[List.getD_eq_getElem?_getD,List.getElem?_eq_getElem hi];exact List.getElem_mem hi
     subst q;exact⟨(h _ h1).1,(h _ h1).2.1,hr⟩
 · rw[List.set_eq_of_length_le (by omega)]at hx;exact h x hx
theorem SV.le_put_snocF {α:Type}{f:α→List DV}{d x y:α}{l:List α}{k j off:Nat}{ds:List DV}{h:Nat→List DV}(hj:∀z,l[j]? =some z→setAtD (f z) off ds=f x)(hx:h 0=f y):
 SV.le (.d (.ro k (l.length+1) (appGet l.length (fun i=>bif Nat.beq i j then setAtD (rowF f d l i) off ds else rowF f d l i) h))) (.d (seqD k f d (l.set j x++ [y]))):=by
 refine SV.le_ro (by simp) (fun i hi=> ?_);have h1:=rows_putF (f:=f) (d:=d) (l:=l) (x:=x) (j:=j) (off:=off) (ds:=ds) hj;rcases Nat.lt_or_ge i l.length with q|q
 · rw[appGet_lt q,h1 i q];simp only[rowF];rw[getD_app_lt (by simpa using q)]
 · have:i=l.length:=by omega
   subst this;rw[appGet_ge (Nat.le_refl _),Nat.sub_self,hx];simp only[rowF];congr 1
   rw[List.getD_eq_getElem?_getD,List.getElem?_append_right (by simp)];simp
theorem wMade (h:Hir)(hk:hiK h):FSpec Tryz.prog 196 [.agg ((hiF h).map .d)] [] (fun y r=>y= .tup [.agg ((hiF (if hirE h=0 then h else hi0)).map .d),.d (.int .i64 (hirE h))]∧r= []):=by
 have h183:=z210 h hk
 by_cases q:hirE h=0
 · rw[if_pos q];rw[q]at h183 ⊢;refine spAx hT Tryz.func196 Tryz.call196 ?_;conv=>whnf
   repeat' (first|(refine CallX.exact (h183) rfl rfl ?_;rotate_right;conv=>whnf)|((first|refine br_intro ?_ ?_<;>intro hb<;>try simp only[brs]at hb|omega|refine sAx ?_|decide|assumption)<;>conv=>whnf))
   refine .ret _ ?_;conv=>whnf
   exact⟨[],⟨rfl,rfl⟩,trivial⟩
 · rw[if_neg q];generalize hirE h=E at h183 q;refine spAx hT Tryz.func196 Tryz.call196 ?_;conv=>whnf
   repeat' (first|(refine CallX.exact (h183) rfl rfl ?_;rotate_right;conv=>whnf)|((first|refine br_intro ?_ ?_<;>intro hb<;>try simp only[brs]at hb|omega|refine sAx ?_|decide|assumption)<;>conv=>whnf))
   all_goals first
    |(exfalso;omega)
    | (refine .weak _ ?_
       conv=>whnf
       exact⟨.tup [.agg ((hiF hi0).map .d),.d (.int .i64 E)],[],SV.le_tup ⟨SV.le_agg ⟨lr,lr,lr,lr,SV.le_nilS,trivial⟩,lr,trivial⟩,⟨rfl,rfl⟩,trivial⟩)
theorem wOpen (h:Hir)(hl:h.legs.length≤2^40)(h1:1≤h.legs.length):FSpec Tryz.prog 215 [.agg ((hiF h).map .d)] [] (fun y r=>y= .d (.bool (opnH h))∧r= []):=by
 refine spAx hT Tryz.func215 Tryz.call215 ?_;conv=>whnf
 repeat' ((first|refine br_intro ?_ ?_<;>intro hb<;>try simp only[brs]at hb|omega|refine sAx ?_|decide|assumption)<;>conv=>whnf)
 refine .ret _ ?_;conv=>whnf
 refine⟨[],⟨?_,rfl⟩,trivial⟩;conv=>lhs;whnf
 rfl
theorem wClL (l:List Leg)(h1:1≤l.length)(hl:l.length≤2^20):FSpec Tryz.prog 216 [.d (legs l)] [] (fun y r=>y= .buf 7∧r= [(7,lgBf l)]):=by
 refine spec_of hT (C:= [5]) Tryz.func216 rfl Tryz.call216 rfl rfl rfl ?_;conv=>whnf
 rintro b hbn;conv=>whnf
 repeat' ((first|refine br_intro ?_ ?_<;>intro hb<;>try simp only[brs]at hb|omega|refine sAx ?_|decide|assumption)<;>conv=>whnf)
 · exfalso;have:=hbn (by assumption);omega
 · refine .ret _ ?_;conv=>whnf
   refine⟨_,⟨rfl,rfl⟩,Res.le_buf (by simp) (fun i hi=> ?_),trivial⟩;rw[appGet_ge (by omega)];rfl
theorem hirE_len {h:Hir}(q:hirE h=0):1≤h.legs.length:=by
 unfold hirE at q;grind
theorem wGoE (h:Hir)(hk:hiL h)(hE:goE h≠0):FSpec Tryz.prog 197 [.agg ((hiF h).map .d)] [] (fun y r=>y= .tup [.agg ((hiF hi0).map .d),.d (.int .i64 (goE h))]∧r= []):=by
 have c1:=z210 h hk.k
 by_cases q:hirE h=0
 · have c2:=wOpen h (by have:=hk.2.2.1;omega) (hirE_len q)
   have e1:opnH h=false:=by
    cases e:opnH h with
    |false=>rfl
    |true=>exfalso;apply hE;unfold goE;rw[if_neg (fun c=>c q),e,if_pos rfl]
   have e2:goE h=11:=by unfold goE;rw[if_neg (fun c=>c q),e1];rfl
   rw[e2];rw[q]at c1;rw[e1]at c2;refine spAx hT Tryz.func197 Tryz.call197 ?_;conv=>whnf
   repeat' (first|(refine CallX.exact (c1) rfl rfl ?_;rotate_right;conv=>whnf)|(refine CallX.exact (c2) rfl rfl ?_;rotate_right;conv=>whnf)|((first|refine br_intro ?_ ?_<;>intro hb<;>try simp only[brs]at hb|omega|refine sAx ?_|decide|assumption)<;>conv=>whnf))
   all_goals
    refine .weak _ ?_;conv=>whnf
    exact⟨.tup [.agg ((hiF hi0).map .d),.d (.int .i64 11)],[],SV.le_tup ⟨SV.le_agg ⟨lr,lr,lr,lr,SV.le_nilS,trivial⟩,lr,trivial⟩,⟨rfl,rfl⟩,trivial⟩
 · have e2:goE h=hirE h:=by unfold goE;rw[if_pos q]
   rw[e2];generalize hirE h=E at c1 q;refine spAx hT Tryz.func197 Tryz.call197 ?_;conv=>whnf
   repeat' (first|(refine CallX.exact (c1) rfl rfl ?_;rotate_right;conv=>whnf)|((first|refine br_intro ?_ ?_<;>intro hb<;>try simp only[brs]at hb|omega|refine sAx ?_|decide|assumption)<;>conv=>whnf))
   all_goals first
    |(exfalso;omega)
    | (refine .weak _ ?_
       conv=>whnf
       exact⟨.tup [.agg ((hiF hi0).map .d),.d (.int .i64 E)],[],SV.le_tup ⟨SV.le_agg ⟨lr,lr,lr,lr,SV.le_nilS,trivial⟩,lr,trivial⟩,⟨rfl,rfl⟩,trivial⟩)
abbrev hAg (h:Hir)(d:Nat):SV:=.agg [.d (.str h.key),.d (.str h.drv),.d (.int .i64 h.frm),.d (.int .i64 h.to),.buf d]
theorem goE_zero {h:Hir}(hE:goE h=0):hirE h=0∧opnH h=true:=by
 unfold goE at hE;split at hE
 · rename_i c;exact absurd hE c
 · rename_i c;split at hE
   · rename_i d;exact⟨by simpa using c,d⟩
   · exact absurd hE (by decide)
theorem wGoK (h:Hir)(hk:hiL h)(hE:goE h=0):FSpec Tryz.prog 197 [.agg ((hiF h).map .d)] [] (fun y r=>y= .tup [hAg h 7,.d (.int .i64 0)]∧r= [(7,lgBf h.legs)]):=by
 obtain⟨q,e1⟩:=goE_zero hE;have c1:=z210 h hk.k;have hl:=hk.2.2.1;have c2:=wOpen h (by omega) (hirE_len q);rw[q]at c1;rw[e1]at c2;refine spAx hT Tryz.func197 Tryz.call197 ?_;conv=>whnf
 repeat' (first|(refine CallX.exact (c1) rfl rfl ?_;rotate_right;conv=>whnf)|(refine CallX.exact (c2) rfl rfl ?_;rotate_right;conv=>whnf)|((first|(refine oEx (wClL h.legs (hirE_len q) (by omega)) [(7,7)] ?_)|refine br_intro ?_ ?_<;>intro hb<;>try simp only[brs]at hb|omega|refine sAx ?_|decide|assumption)<;>conv=>whnf))
 refine .ret _ ?_;conv=>whnf
 exact⟨_,⟨rfl,rfl⟩,rr,trivial⟩
theorem wExt (h:Hir)(hk:hiL h)(to:Int):FSpec Tryz.prog 167 [.agg ((hiF h).map .d),.d (.int .i64 to)] [] (fun y r=>y= .tup [.agg ((hiF (mdH h (xtH h to))).map .d),.d (.int .i64 (mdE h (xtH h to)))]∧r= []):=by
 have hH:hiL (xtH h to):=hk;generalize hHe:xtH h to=H at hH ⊢
 by_cases q:goE h≠0
 · have c1:=wGoE h hk q;have e1:mdE h H=goE h:=by unfold mdE;rw[if_pos q]
   have e2:mdH h H=hi0:=by unfold mdH;rw[e1,if_neg q]
   rw[e1,e2];generalize goE h=E at c1 q;refine spAx hT Tryz.func167 Tryz.call167 ?_;conv=>whnf
   repeat' (first|(refine CallX.exact (c1) rfl rfl ?_;rotate_right;conv=>whnf)|((first|refine br_intro ?_ ?_<;>intro hb<;>try simp only[brs]at hb|omega|refine sAx ?_|decide|assumption)<;>conv=>whnf))
   all_goals first
    |(exfalso;omega)
    | (refine .weak _ ?_
       conv=>whnf
       exact⟨.tup [.agg ((hiF hi0).map .d),.d (.int .i64 E)],[],SV.le_tup ⟨SV.le_agg ⟨lr,lr,lr,lr,SV.le_nilS,trivial⟩,lr,trivial⟩,⟨rfl,rfl⟩,trivial⟩)
 · have q:goE h=0:=by omega
   have e1:mdE h H=hirE H:=by unfold mdE;rw[if_neg (fun c=>c q)]
   have e2:mdH h H=if hirE H=0 then H else hi0:=by unfold mdH;rw[e1]
   rw[e1,e2];have c1:=wGoK h hk q;have c2:=wMade H hH.k;generalize hirE H=E at c2;generalize hR:(if E=0 then H else hi0)=R at c2;have hl:=hk.2.2.1;have hn:=hirE_len (goE_zero q).1;subst hHe;refine spAx hT Tryz.func167 Tryz.call167 ?_;conv=>whnf
   repeat' ((first|(refine oEx c1 [(7,40)] ?_)|(refine CallX.freeze _ _ _ _ 40 137 9 _ _ rfl rfl ?_;refine CallX.pure c2 ⟨SV.le_agg ⟨lr,lr,lr,lr,lr,trivial⟩,trivial⟩ rfl ?_)|refine br_intro ?_ ?_<;>intro hb<;>try simp only[brs]at hb|omega|refine sAx ?_|decide|assumption)<;>conv=>whnf)
   all_goals first
    |(exfalso;omega)
    | (refine .ret _ ?_
       conv=>whnf
       exact⟨[],⟨rfl,rfl⟩,trivial⟩)
theorem wCls (h:Hir)(hk:hiL h)(ri:Rdg)(hr:ri.st.length≤2^40):FSpec Tryz.prog 168 [.agg ((hiF h).map .d),.agg ((rgF ri).map .d)] [] (fun y r=>y= .tup [.agg ((hiF (mdH h (clH h ri))).map .d),.d (.int .i64 (mdE h (clH h ri)))]∧r= []):=by
 have hH:hiL (clH h ri):=⟨hk.1,hk.2.1,by show(setIn h.legs ri).length≤_;rw[setIn_len];exact hk.2.2.1,setIn_K hk.2.2.2 hr⟩;generalize hHe:clH h ri=H at hH ⊢
 by_cases q:goE h≠0
 · have c1:=wGoE h hk q;have e1:mdE h H=goE h:=by unfold mdE;rw[if_pos q]
   have e2:mdH h H=hi0:=by unfold mdH;rw[e1,if_neg q]
   rw[e1,e2];generalize goE h=E at c1 q;refine spAx hT Tryz.func168 Tryz.call168 ?_;conv=>whnf
   repeat' (first|(refine CallX.exact (c1) rfl rfl ?_;rotate_right;conv=>whnf)|((first|refine br_intro ?_ ?_<;>intro hb<;>try simp only[brs]at hb|omega|refine sAx ?_|decide|assumption)<;>conv=>whnf))
   all_goals first
    |(exfalso;omega)
    | (refine .weak _ ?_
       conv=>whnf
       exact⟨.tup [.agg ((hiF hi0).map .d),.d (.int .i64 E)],[],SV.le_tup ⟨SV.le_agg ⟨lr,lr,lr,lr,SV.le_nilS,trivial⟩,lr,trivial⟩,⟨rfl,rfl⟩,trivial⟩)
 · have q:goE h=0:=by omega
   have e1:mdE h H=hirE H:=by unfold mdE;rw[if_neg (fun c=>c q)]
   have e2:mdH h H=if hirE H=0 then H else hi0:=by unfold mdH;rw[e1]
   rw[e1,e2];have c1:=wGoK h hk q;have c2:=wMade H hH.k;generalize hirE H=E at c2;generalize hR:(if E=0 then H else hi0)=R at c2;have hl:=hk.2.2.1;have hn:=hirE_len (goE_zero q).1;subst hHe;refine spAx hT Tryz.func168 Tryz.call168 ?_;conv=>whnf
   repeat' ((first|(refine oEx c1 [(7,40)] ?_)|(refine CallX.freeze _ _ _ _ 40 137 9 _ _ rfl rfl ?_;refine CallX.pure c2 ⟨SV.le_agg ⟨lr,lr,lr,lr,SV.le_putF setIn_put,trivial⟩,trivial⟩ rfl ?_)|refine br_intro ?_ ?_<;>intro hb<;>try simp only[brs]at hb|omega|refine sAx ?_|decide|assumption)<;>conv=>whnf)
   all_goals first
    |(exfalso;omega)
    | (refine .ret _ ?_
       conv=>whnf
       exact⟨[],⟨rfl,rfl⟩,trivial⟩)
theorem wExc (h:Hir)(hk:hiL h)(hs:h.legs.length<2^19)(ri:Rdg)(hr:ri.st.length≤2^40)(v:List UInt8)(hv:v.length≤2^40)(ro:Rdg)(ho:ro.st.length≤2^40):
 FSpec Tryz.prog 169 [.agg ((hiF h).map .d),.agg ((rgF ri).map .d),.d (.str v),.agg ((rgF ro).map .d)] [] (fun y r=>y= .tup [.agg ((hiF (mdH h (exH h ri v ro))).map .d),.d (.int .i64 (mdE h (exH h ri v ro)))]∧r= []):=by
 have hH:hiL (exH h ri v ro):=⟨hk.1,hk.2.1,by show(setIn h.legs ri++ [_]).length≤_;rw[List.length_append,setIn_len,List.length_singleton];omega,fun x hx=>by
  rcases List.mem_append.1 hx with q|q
  · exact setIn_K hk.2.2.2 hr x q
  · rw[List.mem_singleton]at q;subst q;exact⟨hv,ho,by simp[rgN]⟩⟩
 generalize hHe:exH h ri v ro=H at hH ⊢
 by_cases q:goE h≠0
 · have c1:=wGoE h hk q;have e1:mdE h H=goE h:=by unfold mdE;rw[if_pos q]
   have e2:mdH h H=hi0:=by unfold mdH;rw[e1,if_neg q]
   rw[e1,e2];generalize goE h=E at c1 q;refine spAx hT Tryz.func169 Tryz.call169 ?_;conv=>whnf
   repeat' (first|(refine CallX.exact (c1) rfl rfl ?_;rotate_right;conv=>whnf)|((first|refine br_intro ?_ ?_<;>intro hb<;>try simp only[brs]at hb|omega|refine sAx ?_|decide|assumption)<;>conv=>whnf))
   all_goals first
    |(exfalso;omega)
    | (refine .weak _ ?_
       conv=>whnf
       exact⟨.tup [.agg ((hiF hi0).map .d),.d (.int .i64 E)],[],SV.le_tup ⟨SV.le_agg ⟨lr,lr,lr,lr,SV.le_nilS,trivial⟩,lr,trivial⟩,⟨rfl,rfl⟩,trivial⟩)
 · have q:goE h=0:=by omega
   have e1:mdE h H=hirE H:=by unfold mdE;rw[if_neg (fun c=>c q)]
   have e2:mdH h H=if hirE H=0 then H else hi0:=by unfold mdH;rw[e1]
   rw[e1,e2];have c1:=wGoK h hk q;have c2:=wMade H hH.k;generalize hirE H=E at c2;generalize hR:(if E=0 then H else hi0)=R at c2;have hl:=hk.2.2.1;have hn:=hirE_len (goE_zero q).1;subst hHe;refine spAx hT Tryz.func169 Tryz.call169 ?_;conv=>whnf
   repeat' ((first|(refine oEx c1 [(7,50)] ?_)|(refine CallX.freeze _ _ _ _ 36 137 9 _ _ rfl rfl ?_;refine CallX.pure c2 ⟨SV.le_agg ⟨lr,lr,lr,lr,SV.le_put_snocF setIn_put rfl,trivial⟩,trivial⟩ rfl ?_)|refine br_intro ?_ ?_<;>intro hb<;>try simp only[brs]at hb|omega|refine sAx ?_|decide|assumption)<;>conv=>whnf)
   all_goals first
    |(exfalso;omega)
    | (refine .ret _ ?_
       conv=>whnf
       exact⟨[],⟨rfl,rfl⟩,trivial⟩)
theorem wStart (key drv:List UInt8)(a b:Int)(v:List UInt8)(o:Rdg)(h1:key.length≤2^40)(h2:drv.length≤2^40)(h3:v.length≤2^40)(h4:o.st.length≤2^40):
 FSpec Tryz.prog 166 [.d (.str key),.d (.str drv),.agg [.d (.int .i64 a),.d (.int .i64 b)],.d (.str v),.agg ((rgF o).map .d)] [] (fun y r=>y= .tup [.agg ((hiF (if hirE (startH key drv a b v o)=0 then startH key drv a b v o else hi0)).map .d),.d (.int .i64 (hirE (startH key drv a b v o)))]∧r= []):=by
 have h265:=wMade (startH key drv a b v o) ⟨h1,h2,by simp[startH],fun x hx=>by simp[startH]at hx;subst hx;exact⟨h3,h4,by simp[rgN]⟩⟩;generalize hirE (startH key drv a b v o)=E at h265 ⊢;generalize hH:(if E=0 then startH key drv a b v o else hi0)=H at h265 ⊢;refine spAx hT Tryz.func166 Tryz.call166 ?_;conv=>whnf
 repeat' ((first|refine CallX.pure h265 ⟨SV.le_agg ⟨lr,lr,lr,lr,SV.le_lit rfl rfl,trivial⟩,trivial⟩ rfl ?_|refine br_intro ?_ ?_<;>intro hb<;>try simp only[brs]at hb|omega|refine sAx ?_|decide|assumption)<;>conv=>whnf)
 refine .ret _ ?_;conv=>whnf
 exact⟨[],⟨rfl,rfl⟩,trivial⟩
def oAOfB126:TL:= [(1,[(0,[]),(1,[]),(2,[]),(3,[]),(4,rg 4),(5,rg 4),(6,[]),(7,[]),(8,[]),(9,[8]),(10,[9]),(11,[])]),(3,[(0,[]),(1,[]),(2,[]),(3,[]),(4,[]),(5,[]),(6,[]),(7,[3,4,5,6]),(8,[3,4,5,6]),(9,[]),(10,[]),(11,[]),(12,[]),(13,[]),(14,[]),(15,[]),(16,[]),(17,[]),(18,[]),(19,[15,16,17,18]),(20,[15,16,17,18]),(21,[]),(22,[]),(23,[]),(24,[]),(26,rg 25),(35,[0,1,2,3,4,5,6,7,8,9,10,11,12,13,14,15,16,17,18,19,20,21,22,23,24,26]),(36,[0,1,2,3,4,5,6,7,8,9,10,11,12,13,14,15,16,17,18,19,20,21,22,23,24,26,35]),(25,[26,35,36]),(27,[35,36]),(28,[35,36]),(29,[35,36]),(30,[35,36,28,29]),(31,[35,36,28,29]),(32,[35,36]),(33,[35,36]),(34,[35,36]),(37,[]),(38,[]),(39,[]),(40,[])])]
def evtE (vm:Mp (List UInt8))(sm:Mp Bool)(s:Off)(x:Evn):Int:=
 firstE [if(!vm.has x.veh||(!sm.val x.st||(decide (x.kind=6)&& !sm.val x.to)))then 8 else 0,if(decide (x.kind=6)&&decide (x.to=x.st))then 14 else 0,canE s x]
def evtS (vm:Mp (List UInt8))(sm:Mp Bool)(s:Off)(x:Evn):Off:=if evtE vm sm s x=0 then sayS s x else s
theorem wEvt (h:Hou)(vm:Mp (List UInt8))(sm:Mp Bool)(s:Off)(x:Evn)(hl:s.log.length≤2^20):
 FSpec Tryz.prog 126 [.ptr 1000001 0,.agg ((evF x).map .d)] (offR h vm sm s) (fun y r=>y= .d (.int .i64 (evtE vm sm s x))∧r=offO h vm sm (evtS vm sm s x)):=by
 have c1:=wCan h vm sm s x;have c2:=wSay h vm sm s x hl;generalize hC:canE s x=C at c1;refine spAx hT Tryz.func126 Tryz.call126 ?_;conv=>whnf
 repeat' (first|((first|(refine oEx (c1) rq1 ?_)|(refine oEx (c2) rq2 ?_))<;>conv=>whnf)|(refine CallX.exact (s107 _ _) rfl rfl ?_;rotate_right;conv=>whnf)|((first|refine And.intro (rfl:zrow _=some (ssF ss0)) ?_|refine And.intro (rfl:zrow _=some [.bool false]) ?_|refine And.intro (rfl:zrow _=some (sF1 [])) ?_|refine And.intro (rfl:zrow _=some [.str []]) ?_|refine And.intro (rfl:zrow _=some (bkF bk0)) ?_|refine And.intro (rfl:zrow _=some (hiO none)) ?_|refine And.intro (rfl:zrow _=some [.int .i64 0]) ?_|refine CallX.pure (s105 [_,_,_] (by simp)) ⟨SV.le_lit (by rfl) (by rfl),trivial⟩ rfl ?_|refine br_intro ?_ ?_<;>intro hb<;>try simp only[brs]at hb|refine tAx hT oAOfB126 ?_|omega|refine sAx ?_|decide|assumption)<;>conv=>whnf))
 all_goals first
  | (have hS:evtS vm sm s x=s:=by
      clear c1 c2;simp only[keyE]at*;unfold evtS evtE;rw[hC]
      first
       |(simp_all [firstE];done)
       |(simp_all [firstE];grind)
       |grind [firstE]
     rw[hS];refine .ent _ _ (Entails.mk' (ts:= [(4,.d (.int .i64 (evtE vm sm s x)))]) (rs:=offO h vm sm (s)) rq3 rfl rfl ⟨SV.le_int (by clear c1 c2;simp only[keyE]at*;unfold evtE;rw[hC];first|(simp_all [firstE];done)|(simp_all [firstE];grind)|grind [firstE]),trivial⟩ ⟨rr,rr,rr,rr,rr,rr,rr,rr,rr,rr,trivial⟩) ?_;refine .ret _ ?_;conv=>whnf
     exact⟨_,⟨rfl,rfl⟩,rr,rr,rr,rr,rr,rr,rr,rr,rr,rr,trivial⟩)
  | (have hS:evtS vm sm s x=sayS s x:=by
      clear c1 c2;simp only[keyE]at*;unfold evtS evtE;rw[hC]
      first
       |(simp_all [firstE];done)
       |(simp_all [firstE];grind)
       |grind [firstE]
     rw[hS];refine .ent _ _ (Entails.mk' (ts:= [(4,.d (.int .i64 (evtE vm sm s x)))]) (rs:=offO h vm sm (sayS s x)) rq4 rfl rfl ⟨SV.le_int (by clear c1 c2;simp only[keyE]at*;unfold evtE;rw[hC];first|(simp_all [firstE];done)|(simp_all [firstE];grind)|grind [firstE]),trivial⟩ ⟨rr,rr,rr,rr,rr,rr,rr,rr,rr,rr,trivial⟩) ?_;refine .ret _ ?_;conv=>whnf
     exact⟨_,⟨rfl,rfl⟩,rr,rr,rr,rr,rr,rr,rr,rr,rr,rr,trivial⟩)
def oAOfC129:TL:= [(2,[(0,[]),(1,[]),(3,[0,1]),(7,[0,1,3]),(8,[0,1,3]),(9,[0,1,3]),(10,[0,1,3]),(11,[0,1,3,7,8,9,10]),(12,[0,1,3]),(13,[0,1,3,7,8,9,10,11,12]),(14,[0,1,3]),(15,[0,1,3]),(2,[3,7,8,9,10,11,12,13,14,15]),(4,[7,8,9,10,11,12,13,14,15]),(5,[7,8,9,10,11,12,13,14,15]),(6,[7,8,9,10,11,12,13,14,15]),(16,[]),(17,[]),(18,[]),(19,[])])]
def payE (s:Off)(key:List UInt8)(c:Int):Int:=firstE [if !s.his.has key then 8 else 0,if !decide (0≤c∧c≤1000000000)then 1 else 0,if 1000000000<s.paid.val key+c then 2 else 0]
def payS (s:Off)(key:List UInt8)(c:Int):Off:=if payE s key c=0 then{s with paid:=s.paid.put key (s.paid.val key+c)}else s
theorem wPay (h:Hou)(vm:Mp (List UInt8))(sm:Mp Bool)(s:Off)(key:List UInt8)(c:Int)(hc: -2^40≤c∧c≤2^40)(hp: -2^40≤s.paid.val key∧s.paid.val key≤2^40):
 FSpec Tryz.prog 129 [.ptr 1000001 0,.d (.str key),.d (.int .i64 c)] (offR h vm sm s) (fun y r=>y= .d (.int .i64 (payE s key c))∧r=offO h vm sm (payS s key c)):=by
 obtain⟨hc1,hc2⟩:=hc;obtain⟨hp1,hp2⟩:=hp;rcases hv:s.his.val key with _|g
 · skip
   refine spAx hT Tryz.func129 Tryz.call129 ?_;conv=>whnf
   repeat' (first|(refine CallX.exact (s119 _ _ _) rfl rfl ?_;rotate_right;conv=>whnf)|(refine And.intro (by show inI64 (s.paid.val key+c);unfold inI64;omega) ?_;conv=>whnf)|(refine CallX.exact (s107 _ _) rfl rfl ?_;rotate_right;conv=>whnf)|((first|(refine And.intro (rfl:zrow _=some (hiO none)) ?_;refine rowSV_eq (row':=hiO none) (congrArg hiO hv) ?_)|refine And.intro (rfl:zrow _=some (ssF ss0)) ?_|refine And.intro (rfl:zrow _=some [.bool false]) ?_|refine And.intro (rfl:zrow _=some (sF1 [])) ?_|refine And.intro (rfl:zrow _=some [.str []]) ?_|refine And.intro (rfl:zrow _=some (bkF bk0)) ?_|refine And.intro (rfl:zrow _=some (hiO none)) ?_|refine And.intro (rfl:zrow _=some [.int .i64 0]) ?_|refine CallX.pure (s105 [_,_,_] (by simp)) ⟨SV.le_lit (by rfl) (by rfl),trivial⟩ rfl ?_|refine br_intro ?_ ?_<;>intro hb<;>try simp only[brs]at hb|refine tAx hT oAOfC129 ?_|omega|refine sAx ?_|decide|assumption)<;>conv=>whnf))
   all_goals first
    | (have hS:payS s key c=(s):=by
        unfold payS payE
        (try simp only[keyE]at*);first|(simp_all [firstE];done)|(simp_all [firstE];grind)|grind [firstE]
       rw[hS];refine .ent _ _ (Entails.mk' (ts:= [(6,.d (.int .i64 (payE s key c)))]) (rs:=offO h vm sm (s)) rq3 rfl rfl ⟨SV.le_int (by unfold payE;(try simp only[keyE]at*);first|(simp_all [firstE];done)|(simp_all [firstE];grind)|grind [firstE]),trivial⟩ ⟨rr,rr,rr,rr,rr,rr,rr,rr,rr,rr,trivial⟩) ?_;refine .ret _ ?_;conv=>whnf
       exact⟨_,⟨rfl,rfl⟩,rr,rr,rr,rr,rr,rr,rr,rr,rr,rr,trivial⟩)
    | (have hS:payS s key c=({s with paid:=s.paid.put key (s.paid.val key+c)}):=by
        unfold payS payE
        (try simp only[keyE]at*);first|(simp_all [firstE];done)|(simp_all [firstE];grind)|grind [firstE]
       rw[hS];refine .ent _ _ (Entails.mk' (ts:= [(6,.d (.int .i64 (payE s key c)))]) (rs:=offO h vm sm ({s with paid:=s.paid.put key (s.paid.val key+c)})) rq3 rfl rfl ⟨SV.le_int (by unfold payE;(try simp only[keyE]at*);first|(simp_all [firstE];done)|(simp_all [firstE];grind)|grind [firstE]),trivial⟩ ⟨rr,rr,rr,rr,rr,rr,rr,rr,mpS_put,rr,trivial⟩) ?_;refine .ret _ ?_;conv=>whnf
       exact⟨_,⟨rfl,rfl⟩,rr,rr,rr,rr,rr,rr,rr,rr,rr,rr,trivial⟩)
 · skip
   refine spAx hT Tryz.func129 Tryz.call129 ?_;conv=>whnf
   repeat' (first|(refine CallX.exact (s119 _ _ _) rfl rfl ?_;rotate_right;conv=>whnf)|(refine And.intro (by show inI64 (s.paid.val key+c);unfold inI64;omega) ?_;conv=>whnf)|(refine CallX.exact (s107 _ _) rfl rfl ?_;rotate_right;conv=>whnf)|((first|(refine And.intro (rfl:zrow _=some (hiO none)) ?_;refine rowSV_eq (row':=hiF g) (congrArg hiO hv) ?_)|refine And.intro (rfl:zrow _=some (ssF ss0)) ?_|refine And.intro (rfl:zrow _=some [.bool false]) ?_|refine And.intro (rfl:zrow _=some (sF1 [])) ?_|refine And.intro (rfl:zrow _=some [.str []]) ?_|refine And.intro (rfl:zrow _=some (bkF bk0)) ?_|refine And.intro (rfl:zrow _=some (hiO none)) ?_|refine And.intro (rfl:zrow _=some [.int .i64 0]) ?_|refine CallX.pure (s105 [_,_,_] (by simp)) ⟨SV.le_lit (by rfl) (by rfl),trivial⟩ rfl ?_|refine br_intro ?_ ?_<;>intro hb<;>try simp only[brs]at hb|refine tAx hT oAOfC129 ?_|omega|refine sAx ?_|decide|assumption)<;>conv=>whnf))
   all_goals first
    | (have hS:payS s key c=(s):=by
        unfold payS payE
        (try simp only[keyE]at*);first|(simp_all [firstE];done)|(simp_all [firstE];grind)|grind [firstE]
       rw[hS];refine .ent _ _ (Entails.mk' (ts:= [(6,.d (.int .i64 (payE s key c)))]) (rs:=offO h vm sm (s)) rq3 rfl rfl ⟨SV.le_int (by unfold payE;(try simp only[keyE]at*);first|(simp_all [firstE];done)|(simp_all [firstE];grind)|grind [firstE]),trivial⟩ ⟨rr,rr,rr,rr,rr,rr,rr,rr,rr,rr,trivial⟩) ?_;refine .ret _ ?_;conv=>whnf
       exact⟨_,⟨rfl,rfl⟩,rr,rr,rr,rr,rr,rr,rr,rr,rr,rr,trivial⟩)
    | (have hS:payS s key c=({s with paid:=s.paid.put key (s.paid.val key+c)}):=by
        unfold payS payE
        (try simp only[keyE]at*);first|(simp_all [firstE];done)|(simp_all [firstE];grind)|grind [firstE]
       rw[hS];refine .ent _ _ (Entails.mk' (ts:= [(6,.d (.int .i64 (payE s key c)))]) (rs:=offO h vm sm ({s with paid:=s.paid.put key (s.paid.val key+c)})) rq3 rfl rfl ⟨SV.le_int (by unfold payE;(try simp only[keyE]at*);first|(simp_all [firstE];done)|(simp_all [firstE];grind)|grind [firstE]),trivial⟩ ⟨rr,rr,rr,rr,rr,rr,rr,rr,mpS_put,rr,trivial⟩) ?_;refine .ret _ ?_;conv=>whnf
       exact⟨_,⟨rfl,rfl⟩,rr,rr,rr,rr,rr,rr,rr,rr,rr,rr,trivial⟩)
def oABkA213:TL:= [(8,[(0,[]),(1,[]),(2,[]),(3,[]),(4,[]),(5,[3,4]),(6,[3,4,5]),(7,[3,4,5]),(8,[3,4]),(9,[3,4]),(10,[3,4]),(11,[]),(12,[]),(13,[])])]
theorem wKey (x:Cls)(key:List UInt8):FSpec Tryz.prog 233 [.agg ((clsF x).map .d),.ptr 1000001 0] [(1000001,kyC key)] (fun y r=>y= .d (.bool (x.key==key))∧r= [(1000001,kyC key)]):=by
 refine spAx hT Tryz.func233 Tryz.call233 ?_;conv=>whnf
 refine .ret _ ?_;conv=>whnf
 exact⟨[(1000001,kyC key)],⟨rfl,rfl⟩,rr,trivial⟩
theorem wKeyIx (l:List Cls)(hl:l.length≤2^40)(key:List UInt8):FSpec Tryz.prog 150 [.d (clss l),.fn 233 [.ptr 1000001 0]] [(1000001,kyC key)] (fun x r=>x= .d (.int .i64 (clIx l key))∧r= [(1000001,kyC key)]):=by
 refine spAx hT Tryz.func150 Tryz.call150 ?_;conv=>whnf
 refine LoopX.rule hT (C:= []) (ι:=Nat) (fun i=>i≤l.length∧∀j,j<i→((l.getD j cls0).key==key)=false) (fun i=>mkSt [(0,.d (clss l)),(1,.fn 233 [.ptr 1000001 0]),(7,.d (.int .i64 l.length)),(8,.d (.int .i64 i))] [(1000001,kyC key)]) (fun i=>l.length - i) 0 ⟨by omega,by omega⟩ (by exact eAx [(1000001,1000001)]) ?_;rintro i ⟨p1,p2⟩;have e1:=tnc i;conv=>whnf
 repeat' ((first|(refine oEx (wKey (l.getD (i:Int).toNat cls0) key) [(1000001,1000001)] ?_)|refine br_intro ?_ ?_<;>intro hb<;>try simp only[brs]at hb|omega|refine sAx ?_|decide|assumption)<;>conv=>whnf)
 · refine .ret _ ?_;conv=>whnf
   refine⟨[(1000001,kyC key)],⟨?_,rfl⟩,rr,trivial⟩;conv=>lhs;whnf
   congr 2
   exact(ixF_hit (by omega) p2 (by simpa using hb)).symm
 · exact⟨i+1,⟨by omega,all_step p2 (by simpa using hb)⟩,by omega,(by exact eAx [(1000001,1000001)])⟩
 · refine .ret _ ?_;conv=>whnf
   refine⟨[(1000001,kyC key)],⟨?_,rfl⟩,rr,trivial⟩;conv=>lhs;whnf
   congr 2
   have:i=l.length:=by omega
   subst this;exact(ixF_none p2).symm
def clHas (l:List Cls)(key:List UInt8):Bool:=decide (0≤clIx l key)
theorem wHasC (l:List Cls)(hl:l.length≤2^40)(key:List UInt8):FSpec Tryz.prog 232 [.d (clss l),.fn 233 [.ptr 1000001 0]] [(1000001,kyC key)] (fun x r=>x= .d (.bool (clHas l key))∧r= [(1000001,kyC key)]):=by
 refine spAx hT Tryz.func232 Tryz.call232 ?_;conv=>whnf
 repeat' ((first|(refine oEx (wKeyIx l hl key) [(1000001,1000001)] ?_)|refine br_intro ?_ ?_<;>intro hb<;>try simp only[brs]at hb|omega|refine sAx ?_|decide|assumption)<;>conv=>whnf)
 refine .ret _ ?_;conv=>whnf
 exact⟨_,⟨rfl,rfl⟩,rr,trivial⟩
theorem wHasClass (l:List Cls)(hl:l.length≤2^40)(key:List UInt8):FSpec Tryz.prog 214 [.d (clss l),.d (.str key)] [] (fun x r=>x= .d (.bool (clHas l key))∧r= []):=by
 refine spAx hT Tryz.func214 Tryz.call214 ?_;conv=>whnf
 repeat' ((first|(refine oEx (wHasC l hl key) [(1000001,3)] ?_)|refine br_intro ?_ ?_<;>intro hb<;>try simp only[brs]at hb|omega|refine sAx ?_|decide|assumption)<;>conv=>whnf)
 refine .ret _ ?_;conv=>whnf
 refine⟨[],⟨?_,rfl⟩,trivial⟩;conv=>lhs;whnf
def forB (b:Bok):Int:=
 if isKeyB b.key=false∨isKeyB b.cls=false then 5 else if b.frm<0∨b.to≤b.frm∨5761439<b.to then 1
 else if ¬ (0≤b.made∧b.made≤b.frm)∨¬ (0≤b.pct∧b.pct≤100)then 1 else 0
theorem wFormed (b:Bok)(h1:b.key.length≤2^40)(h2:b.cls.length≤2^40):FSpec Tryz.prog 213 [.d (boks [b])] [] (fun x r=>x= .d (.int .i64 (forB b))∧r= []):=by
 have c1:=s108 b.key h1;have c2:=s108 b.cls h2;refine spAx hT Tryz.func213 Tryz.call213 ?_;conv=>whnf
 refine LoopX.rule hT (C:= []) (ι:=Nat) (fun i=>i=0∨(i=1∧forB b=0)) (fun i=>mkSt [(0,.d (boks [b])),(8,.d (boks [b])),(9,.d (.int .i64 1)),(10,.d (.int .i64 i))] []) (fun i=>1 - i) 0 (.inl rfl) (by exact eAx []) ?_;rintro i (rfl|⟨rfl,hz⟩)
 · conv =>whnf
   repeat' (first|(refine CallX.exact (c1) rfl rfl ?_;rotate_right;conv=>whnf)|(refine CallX.exact (c2) rfl rfl ?_;rotate_right;conv=>whnf)|(refine CallX.exact (s119 _ _ _) rfl rfl ?_;rotate_right;conv=>whnf)|((first|refine br_intro ?_ ?_<;>intro hb<;>try simp only[brs]at hb|refine tAx hT oABkA213 ?_|omega|refine sAx ?_|decide|assumption)<;>conv=>whnf))
   all_goals first
    | (refine .ret _ ?_
       conv=>whnf
       refine⟨[],⟨?_,rfl⟩,trivial⟩;conv=>lhs;whnf
       congr 2
       clear c1 c2
       (try simp only[List.getD_cons_zero]at*)
       unfold forB
       grind)
    | (refine⟨1,.inr ⟨rfl,?_⟩,by omega,(by exact eAx [])⟩
       clear c1 c2
       (try simp only[List.getD_cons_zero]at*)
       unfold forB
       grind)
 · rw[hz];conv=>whnf
   repeat' ((first|refine br_intro ?_ ?_<;>intro hb<;>try simp only[brs]at hb|refine tAx hT oABkA213 ?_|omega|refine sAx ?_|decide|assumption)<;>conv=>whnf)
   refine .ret _ ?_;conv=>whnf
   refine⟨[],⟨?_,rfl⟩,trivial⟩;conv=>lhs;whnf
def clsdE (l:List Cls)(b:Bok):Int:=if forB b≠0 then forB b else if clHas l b.cls then 0 else 8
theorem wClassed (l:List Cls)(hl:l.length≤2^40)(b:Bok)(h1:b.key.length≤2^40)(h2:b.cls.length≤2^40):FSpec Tryz.prog 195 [.d (clss l),.d (boks [b])] [] (fun x r=>x= .d (.int .i64 (clsdE l b))∧r= []):=by
 have c1:=wFormed b h1 h2;have c2:=wHasClass l hl b.cls;have hD:clsdE l b=if forB b≠0 then forB b else if clHas l b.cls then 0 else 8:=rfl;generalize forB b=F at c1 hD;generalize clHas l b.cls=H at c2 hD;refine spAx hT Tryz.func195 Tryz.call195 ?_;conv=>whnf
 repeat' (first|(refine CallX.exact (c1) rfl rfl ?_;rotate_right;conv=>whnf)|((first|refine br_intro ?_ ?_<;>intro hb<;>try simp only[brs]at hb|omega|refine sAx ?_|decide|assumption)<;>conv=>whnf))
 · rw[if_pos hb]at hD;rw[hD];refine .ret _ ?_;conv=>whnf
   refine⟨[],⟨?_,rfl⟩,trivial⟩;conv=>lhs;whnf
 rw[if_neg (fun c=>c hb)]at hD;refine LoopX.rule hT (C:= []) (ι:=Nat) (fun i=>i=0∨(i=1∧H=true)) (fun i=>mkSt [(0,.d (clss l)),(13,.d (boks [b])),(14,.d (.int .i64 1)),(15,.d (.int .i64 i))] []) (fun i=>1 - i) 0 (.inl rfl) (by exact eAx []) ?_;rintro i (rfl|⟨rfl,hz⟩)
 · conv =>whnf
   repeat' ((first|refine pAx c2 ?_|refine br_intro ?_ ?_<;>intro hb<;>try simp only[brs]at hb|omega|refine sAx ?_|decide|assumption)<;>conv=>whnf)
   all_goals first
    | (refine⟨1,.inr ⟨rfl,?_⟩,by omega,(by exact eAx [])⟩
       first|exact hb|simpa using hb)
    | (rw[show H=false from by first|exact hb|simpa using hb]at hD
       rw[hD];refine .ret _ ?_;conv=>whnf
       refine⟨[],⟨?_,rfl⟩,trivial⟩;conv=>lhs;whnf
       all_goals rfl)
 · rw[hz]at hD;rw[hD];conv=>whnf
   repeat' ((first|refine br_intro ?_ ?_<;>intro hb<;>try simp only[brs]at hb|omega|refine sAx ?_|decide|assumption)<;>conv=>whnf)
   refine .ret _ ?_;conv=>whnf
   refine⟨[],⟨?_,rfl⟩,trivial⟩;conv=>lhs;whnf
   rfl
def bokE (l:List Cls)(b:Bok):Int:=firstE [clssE l,clsdE l b]
theorem wBokChk (l:List Cls)(hk:clsOk l)(b:Bok)(h1:b.key.length≤2^40)(h2:b.cls.length≤2^40):FSpec Tryz.prog 165 [.d (clss l),.d (boks [b])] [] (fun x r=>x= .d (.int .i64 (bokE l b))∧r= []):=by
 have c1:=z175 l hk;have c2:=wClassed l (by have:=hk.1;omega) b h1 h2;have hE:bokE l b=firstE [clssE l,clsdE l b]:=rfl;generalize clssE l=A at c1 hE;generalize clsdE l b=B at c2 hE;rw[hE];refine spAx hT Tryz.func165 Tryz.call165 ?_;conv=>whnf
 repeat' (first|(refine CallX.exact (c1) rfl rfl ?_;rotate_right;conv=>whnf)|(refine CallX.exact (c2) rfl rfl ?_;rotate_right;conv=>whnf)|((first|refine CallX.pure (s105 [_,_] (by simp)) ⟨SV.le_lit (by rfl) (by rfl),trivial⟩ rfl ?_|refine br_intro ?_ ?_<;>intro hb<;>try simp only[brs]at hb|omega|refine sAx ?_|decide|assumption)<;>conv=>whnf))
 refine .ret _ ?_;conv=>whnf
 refine⟨[],⟨?_,rfl⟩,trivial⟩;conv=>lhs;whnf
def oAOfD127:TL:= [(1,[(0,[]),(1,[]),(2,[]),(3,[]),(4,rg 4),(5,rg 4),(6,[]),(7,[]),(8,[]),(9,[8]),(10,rg 10),(11,[9]),(12,[])]),(2,[(0,[]),(1,[]),(2,[]),(3,[]),(4,rg 4),(5,rg 4),(6,[]),(7,[]),(8,[]),(9,[8]),(10,rg 10),(11,[9]),(12,[])]),(3,[(0,[]),(1,[]),(2,[]),(3,[]),(4,[]),(5,[]),(6,rg 6),(7,rg 6),(9,rg 8),(14,[0,1,2,3,4,5,6,7,9]),(15,[0,1,2,3,4,5,6,7,9]),(16,[0,1,2,3,4,5,6,7,9]),(17,[0,1,2,3,4,5,6,7,9]),(8,[9,14,15,16,17]),(10,[14,15,16,17]),(11,[14,15,16,17]),(12,[14,15,16,17]),(13,[14,15,16,17]),(18,[]),(19,[]),(20,[]),(21,[]),(22,[]),(23,[])]),(6,[(0,[]),(1,[]),(2,[]),(3,[]),(4,rg 4),(5,rg 4),(6,rg 6),(7,[])])]
def bookE (h:Hou)(s:Off)(b:Bok):Int:=firstE [bokE h.flt.cls b,if(s.bks.has b.key||s.his.has b.key)then 6 else 0,0]
def bookS (h:Hou)(s:Off)(b:Bok):Off:=if bookE h s b=0 then{s with bks:=s.bks.put b.key b}else s
def few (m:List UInt8→Bool):Prop:=∃L:List (List UInt8),L.length<500∧∀k,m k=true→k ∈ L
theorem few.kb {m:List UInt8→Bool}(h:few m){clock:Nat}{kb:List (List DV×Nat)}(hk:KB [.str] (fun K=>m (keyE K)) clock kb):kb.length<500:=by
 obtain⟨L,h1,h2⟩:=h
 have:=hk.le (L.map fun x=> [.str x]) (fun key hw hh=>by
  obtain⟨s,rfl⟩:=wk_str1 hw
  exact List.mem_map.2 ⟨s,h2 s hh,rfl⟩)
 rw[List.length_map]at this;omega
theorem wBook (h:Hou)(hc:clsOk h.flt.cls)(vm:Mp (List UInt8))(sm:Mp Bool)(s:Off)(b:Bok)(h1:b.key.length≤2^40)(h2:b.cls.length≤2^40)(hf:few s.bks.has):
 FSpec Tryz.prog 127 [.ptr 1000001 0,.agg ((bkF b).map .d)] (offR h vm sm s) (fun y r=>y= .d (.int .i64 (bookE h s b))∧r=offO h vm sm (bookS h s b)):=by
 have c1:=wBokChk h.flt.cls hc b h1 h2;generalize hC:bokE h.flt.cls b=C at c1;have hcn:∀clock kb,KB [.str] (fun K=>s.bks.has (keyE K)) clock kb→kb.length<500:=fun clock kb hk=>hf.kb hk
 rcases hv:s.his.val b.key with _|g
 · skip
   refine spAx hT Tryz.func127 Tryz.call127 ?_;conv=>whnf
   repeat' (first|((first|(refine RegX.cnt (id:=3) 1000007 rfl ?_;intro clock kb hKB;have hk5:=hcn clock kb hKB;have hk6:¬ (500:Int)≤(kb.length:Int):=(by omega))|refine RegX.unc (id:=6) 1000007 rfl ?_)<;>conv=>whnf)|(refine CallX.exact (s107 _ _) rfl rfl ?_;rotate_right;conv=>whnf)|((first|(refine And.intro (rfl:zrow _=some (hiO none)) ?_;refine rowSV_eq (row':=hiO none) (congrArg hiO hv) ?_)|refine And.intro (rfl:zrow _=some (ssF ss0)) ?_|refine And.intro (rfl:zrow _=some [.bool false]) ?_|refine And.intro (rfl:zrow _=some (sF1 [])) ?_|refine And.intro (rfl:zrow _=some [.str []]) ?_|refine And.intro (rfl:zrow _=some (bkF bk0)) ?_|refine And.intro (rfl:zrow _=some (hiO none)) ?_|refine And.intro (rfl:zrow _=some [.int .i64 0]) ?_|refine CallX.pure c1 ⟨lr,SV.le_lit rfl rfl,trivial⟩ rfl ?_|refine CallX.pure (s105 [_,_,_] (by simp)) ⟨SV.le_lit (by rfl) (by rfl),trivial⟩ rfl ?_|refine br_intro ?_ ?_<;>intro hb<;>try simp only[brs]at hb|refine tAx hT oAOfD127 ?_|omega|refine sAx ?_|decide|assumption)<;>conv=>whnf))
   all_goals first
    | (have hS:bookS h s b=(s):=by
        clear c1 hcn hKB hf;unfold bookS bookE;rw[hC]
        (try simp only[keyE]at*);first|(simp_all [firstE];done)|(simp_all [firstE];grind)|grind [firstE]
       rw[hS];refine .ent _ _ (Entails.mk' (ts:= [(4,.d (.int .i64 (bookE h s b)))]) (rs:=offO h vm sm (s)) rq3 rfl rfl ⟨SV.le_int (by clear c1 hcn hKB hf;unfold bookE;rw[hC];(try simp only[keyE]at*);first|(simp_all [firstE];done)|(simp_all [firstE];grind)|grind [firstE]),trivial⟩ ⟨rr,rr,rr,rr,rr,rr,Res.le_mapB fun _ _=>⟨rfl,rfl⟩,rr,rr,rr,trivial⟩) ?_;refine .ret _ ?_;conv=>whnf
       exact⟨_,⟨rfl,rfl⟩,rr,rr,rr,rr,rr,rr,rr,rr,rr,rr,trivial⟩)
    | (have hS:bookS h s b=({s with bks:=s.bks.put b.key b}):=by
        clear c1 hcn hKB hf;unfold bookS bookE;rw[hC]
        (try simp only[keyE]at*);first|(simp_all [firstE];done)|(simp_all [firstE];grind)|grind [firstE]
       rw[hS];refine .ent _ _ (Entails.mk' (ts:= [(4,.d (.int .i64 (bookE h s b)))]) (rs:=offO h vm sm ({s with bks:=s.bks.put b.key b})) rq3 rfl rfl ⟨SV.le_int (by clear c1 hcn hKB hf;unfold bookE;rw[hC];(try simp only[keyE]at*);first|(simp_all [firstE];done)|(simp_all [firstE];grind)|grind [firstE]),trivial⟩ ⟨rr,rr,rr,rr,rr,rr,mpS_put,rr,rr,rr,trivial⟩) ?_;refine .ret _ ?_;conv=>whnf
       exact⟨_,⟨rfl,rfl⟩,rr,rr,rr,rr,rr,rr,rr,rr,rr,rr,trivial⟩)
 · skip
   refine spAx hT Tryz.func127 Tryz.call127 ?_;conv=>whnf
   repeat' (first|((first|(refine RegX.cnt (id:=3) 1000007 rfl ?_;intro clock kb hKB;have hk5:=hcn clock kb hKB;have hk6:¬ (500:Int)≤(kb.length:Int):=(by omega))|refine RegX.unc (id:=6) 1000007 rfl ?_)<;>conv=>whnf)|(refine CallX.exact (s107 _ _) rfl rfl ?_;rotate_right;conv=>whnf)|((first|(refine And.intro (rfl:zrow _=some (hiO none)) ?_;refine rowSV_eq (row':=hiF g) (congrArg hiO hv) ?_)|refine And.intro (rfl:zrow _=some (ssF ss0)) ?_|refine And.intro (rfl:zrow _=some [.bool false]) ?_|refine And.intro (rfl:zrow _=some (sF1 [])) ?_|refine And.intro (rfl:zrow _=some [.str []]) ?_|refine And.intro (rfl:zrow _=some (bkF bk0)) ?_|refine And.intro (rfl:zrow _=some (hiO none)) ?_|refine And.intro (rfl:zrow _=some [.int .i64 0]) ?_|refine CallX.pure c1 ⟨lr,SV.le_lit rfl rfl,trivial⟩ rfl ?_|refine CallX.pure (s105 [_,_,_] (by simp)) ⟨SV.le_lit (by rfl) (by rfl),trivial⟩ rfl ?_|refine br_intro ?_ ?_<;>intro hb<;>try simp only[brs]at hb|refine tAx hT oAOfD127 ?_|omega|refine sAx ?_|decide|assumption)<;>conv=>whnf))
   all_goals first
    | (have hS:bookS h s b=(s):=by
        clear c1 hcn hKB hf;unfold bookS bookE;rw[hC]
        (try simp only[keyE]at*);first|(simp_all [firstE];done)|(simp_all [firstE];grind)|grind [firstE]
       rw[hS];refine .ent _ _ (Entails.mk' (ts:= [(4,.d (.int .i64 (bookE h s b)))]) (rs:=offO h vm sm (s)) rq3 rfl rfl ⟨SV.le_int (by clear c1 hcn hKB hf;unfold bookE;rw[hC];(try simp only[keyE]at*);first|(simp_all [firstE];done)|(simp_all [firstE];grind)|grind [firstE]),trivial⟩ ⟨rr,rr,rr,rr,rr,rr,Res.le_mapB fun _ _=>⟨rfl,rfl⟩,rr,rr,rr,trivial⟩) ?_;refine .ret _ ?_;conv=>whnf
       exact⟨_,⟨rfl,rfl⟩,rr,rr,rr,rr,rr,rr,rr,rr,rr,rr,trivial⟩)
    | (have hS:bookS h s b=({s with bks:=s.bks.put b.key b}):=by
        clear c1 hcn hKB hf;unfold bookS bookE;rw[hC]
        (try simp only[keyE]at*);first|(simp_all [firstE];done)|(simp_all [firstE];grind)|grind [firstE]
       rw[hS];refine .ent _ _ (Entails.mk' (ts:= [(4,.d (.int .i64 (bookE h s b)))]) (rs:=offO h vm sm ({s with bks:=s.bks.put b.key b})) rq3 rfl rfl ⟨SV.le_int (by clear c1 hcn hKB hf;unfold bookE;rw[hC];(try simp only[keyE]at*);first|(simp_all [firstE];done)|(simp_all [firstE];grind)|grind [firstE]),trivial⟩ ⟨rr,rr,rr,rr,rr,rr,mpS_put,rr,rr,rr,trivial⟩) ?_;refine .ret _ ?_;conv=>whnf
       exact⟨_,⟨rfl,rfl⟩,rr,rr,rr,rr,rr,rr,rr,rr,rr,rr,trivial⟩)
def oAOfE163:TL:= [(1,[(0,[]),(1,[]),(2,[]),(3,[]),(4,rg 4),(5,rg 4),(6,[]),(7,rg 7),(12,rg 8),(8,[12]),(9,[12]),(10,[12]),(11,[12,10]),(13,[11]),(14,[])]),(2,[(0,[]),(1,[]),(2,[]),(3,[]),(4,rg 4),(5,rg 4),(6,rg 6),(7,rg 6),(8,rg 4),(9,[]),(11,rg 10),(12,rg 10),(10,[11,12]),(13,[]),(14,[]),(15,[]),(16,[])])]
def oAOfE128:TL:= [(1,[(0,[]),(1,[]),(2,[]),(3,[]),(4,rg 4),(5,rg 4),(6,rg 4),(7,rg 4),(8,rg 8),(9,rg 8),(10,rg 8),(11,rg 8),(12,rg 12),(13,rg 12),(14,rg 12),(15,rg 12),(16,[4,5,6,7,8,9,10,11,12,13,14,15]),(17,[8,9,10,11,12,13,14,15]),(18,[12,13,14,15]),(19,[])]),(2,[(0,[]),(1,[0]),(2,[0,1]),(3,[0,1,2]),(4,[0,1,2]),(5,[0,1,2]),(6,[0,1,2]),(7,[0,1]),(8,rg 8),(9,rg 9),(10,rg 10),(11,rg 11),(12,rg 11),(13,rg 11),(14,rg 11),(15,rg 15),(16,rg 15),(17,rg 15),(18,rg 15),(19,rg 9),(24,rg 20),(20,[24]),(21,[24]),(22,[24]),(23,[24,22]),(25,[23]),(26,[])]),(8,[(0,[]),(2,[0]),(3,[0]),(14,[0,2,3]),(15,[0,2,3,14]),(17,[0,2,3,14,15]),(18,[0,2,3,14,15]),(19,[0,2,3,14,15]),(20,[0,2,3,14,15]),(1,[2,3,14,15,17,18,19,20]),(4,[14,15,17,18,19,20]),(5,[14,15,17,18,19,20]),(6,[14,15,17,18,19,20]),(7,[14,15,17,18,19,20]),(8,[14,15,17,18,19,20]),(9,[14,15,17,18,19,20,5,6,7,8]),(10,[14,15,17,18,19,20]),(11,[14,15,17,18,19,20]),(12,[14,15,17,18,19,20]),(13,[14,15,17,18,19,20]),(16,[17,18,19,20]),(21,[]),(22,[]),(23,[]),(24,[]),(25,[]),(26,[])]),(12,[(0,[]),(1,[]),(2,[]),(3,[]),(4,rg 4),(5,rg 5),(6,[])])]
abbrev offRB (h:Hou)(vm:Mp (List UInt8))(sm:Mp Bool)(s:Off)(clock:Nat)(kb:List (List DV×Nat)):List (Nat×Res):=
 [(1000001,offC h),(1000002,mpS false [.str []] sF1 vm),(1000003,mpS false [.bool false] bF1 sm),(1000004,mpS true (ssF ss0) ssF s.sts),(1000005,evB s.log),(1000006,atM s.ats),(1000007,mpS true (bkF bk0) bkF s.bks),(1000008,.mapB false true [.str] (hiO none) (fun K=>s.his.has (keyE K)) (fun K=>hiO (s.his.val (keyE K))) clock kb),(1000010,mpS false [.int .i64 0] iF1 s.paid),(1000011,rfB s.ref)]
theorem wCanB (h:Hou)(vm:Mp (List UInt8))(sm:Mp Bool)(s:Off)(x:Evn)(clock:Nat)(kb:List (List DV×Nat)):FSpec Tryz.prog 163 [.ptr 1000001 0,.agg ((evF x).map .d)] (offRB h vm sm s clock kb) (fun y r=>y= .d (.int .i64 (canE s x))∧r=offRB h vm sm s clock kb):=by
 refine spAx hT Tryz.func163 Tryz.call163 ?_;conv=>whnf
 repeat' (first|(refine CallX.pure (wFol _ x) ⟨lr,lr,trivial⟩ rfl ?_;conv=>whnf)|(refine CallX.exact (s107 _ _) rfl rfl ?_;rotate_right;conv=>whnf)|((first|refine And.intro (rfl:zrow _=some (ssF ss0)) ?_|refine And.intro (rfl:zrow _=some [DV.bool false]) ?_|refine CallX.pure (s105 [_,_] (by simp)) ⟨SV.le_lit (by rfl) (by rfl),trivial⟩ rfl ?_|refine br_intro ?_ ?_<;>intro hb<;>try simp only[brs]at hb|refine tAx hT oAOfE163 ?_|omega|refine sAx ?_|decide|assumption)<;>conv=>whnf))
 refine .ret _ ?_;conv=>whnf
 exact⟨offRB h vm sm s clock kb,⟨rfl,rfl⟩,rr,rr,rr,rr,rr,rr,rr,rr,rr,rr,trivial⟩
def stHi (at0:Int)(t:Tol):Hir:=startH (t.texts.getD 0 []) (t.texts.getD 1 []) at0 (t.nums.getD 0 0) (t.texts.getD 2 []) ⟨at0,t.texts.getD 3 [],t.nums.getD 1 0,t.nums.getD 2 0⟩
def stEv (at0:Int)(t:Tol):Evn:=⟨at0,t.texts.getD 2 [],t.texts.getD 3 [],2,[]⟩
def stE (vm:Mp (List UInt8))(sm:Mp Bool)(s:Off)(at0:Int)(t:Tol):Int:=
 if hirE (stHi at0 t)≠0 then hirE (stHi at0 t)else firstE [if s.his.has (t.texts.getD 0 [])then 6 else 0,if(!vm.has (t.texts.getD 2 [])|| !sm.val (t.texts.getD 3 []))then 8 else 0,canE s (stEv at0 t),0]
def stS (vm:Mp (List UInt8))(sm:Mp Bool)(s:Off)(at0:Int)(t:Tol):Off:=if stE vm sm s at0 t=0 then{sayS s (stEv at0 t)with his:=s.his.put (t.texts.getD 0 []) (some (stHi at0 t)),bks:=s.bks.del (t.texts.getD 0 []) bk0}else s
theorem wSt (h:Hou)(vm:Mp (List UInt8))(sm:Mp Bool)(s:Off)(hl:s.log.length≤2^20)(at0:Int)(t:Tol)(h1:4≤t.texts.length)(h2:3≤t.nums.length)(h3:∀j,(t.texts.getD j []).length≤2^40)(hf:few s.his.has):
 FSpec Tryz.prog 128 [.ptr 1000001 0,.d (.int .i64 at0),.agg ((tolF t).map .d)] (offR h vm sm s) (fun y r=>y= .d (.int .i64 (stE vm sm s at0 t))∧r=offO h vm sm (stS vm sm s at0 t)):=by
 have c1:=wStart (t.texts.getD 0 []) (t.texts.getD 1 []) at0 (t.nums.getD 0 0) (t.texts.getD 2 []) ⟨at0,t.texts.getD 3 [],t.nums.getD 1 0,t.nums.getD 2 0⟩ (h3 0) (h3 1) (h3 2) (h3 3);have c2:=wCanB h vm sm s (stEv at0 t);have c3:=wSay h vm sm s (stEv at0 t) hl
 change FSpec _ _ _ _ (fun y r=>y= .tup [.agg ((hiF (if hirE (stHi at0 t)=0 then stHi at0 t else hi0)).map .d),.d (.int .i64 (hirE (stHi at0 t)))]∧r= [])at c1
 have hE:stE vm sm s at0 t=if hirE (stHi at0 t)≠0 then hirE (stHi at0 t)else firstE [if s.his.has (t.texts.getD 0 [])then 6 else 0,if(!vm.has (t.texts.getD 2 [])|| !sm.val (t.texts.getD 3 []))then 8 else 0,canE s (stEv at0 t),0]:=rfl;generalize canE s (stEv at0 t)=C at c2 hE;have hcn:∀clock kb,KB [.str] (fun K=>s.his.has (keyE K)) clock kb→kb.length<500:=fun clock kb hk=>hf.kb hk
 by_cases q:hirE (stHi at0 t)=0
 · rw [if_pos q,q]at c1;rw[if_neg (fun c=>c q)]at hE;rcases hv:s.his.val (t.texts.getD 0 [])with _|g
   · skip
     refine spAx hT Tryz.func128 Tryz.call128 ?_;conv=>whnf
     repeat' (first|(refine RegX.cnt (id:=8) 1000008 rfl ?_;intro clock kb hKB;have hk5:=hcn clock kb hKB;have hk6:¬ (500:Int)≤(kb.length:Int):=(by omega);conv=>whnf)|(refine CallX.exact (c1) rfl rfl ?_;rotate_right;conv=>whnf)|((first|refine CallX.look (c2 clock kb) rq1 rfl ⟨lr,lr,trivial⟩ ⟨⟨_,rfl,rfl⟩,⟨_,rfl,rfl⟩,⟨_,rfl,rfl⟩,⟨_,rfl,rfl⟩,⟨_,rfl,rfl⟩,⟨_,rfl,rfl⟩,⟨_,rfl,rfl⟩,⟨_,rfl,rfl⟩,⟨_,rfl,rfl⟩,⟨_,rfl,rfl⟩,trivial⟩ rfl rfl rfl ?_|(refine CallX.of (c3) rq2 rfl ⟨lr,lr,trivial⟩ ⟨rr,rr,rr,rr,rr,rr,rr,Res.le_mapB fun _ _=>⟨rfl,rfl⟩,rr,rr,trivial⟩ rfl rfl ?_;rintro y rout ⟨rfl,rfl⟩;refine⟨rfl,?_⟩))<;>conv=>whnf)|(refine CallX.exact (s107 _ _) rfl rfl ?_;rotate_right;conv=>whnf)|((first|(refine And.intro (rfl:zrow _=some (hiO none)) ?_;refine rowSV_eq (row':=hiO none) (congrArg hiO hv) ?_)|refine And.intro (rfl:zrow _=some (ssF ss0)) ?_|refine And.intro (rfl:zrow _=some [.bool false]) ?_|refine And.intro (rfl:zrow _=some (sF1 [])) ?_|refine And.intro (rfl:zrow _=some [.str []]) ?_|refine And.intro (rfl:zrow _=some (bkF bk0)) ?_|refine And.intro (rfl:zrow _=some (hiO none)) ?_|refine And.intro (rfl:zrow _=some [.int .i64 0]) ?_|refine CallX.pure (s105 [_,_,_,_] (by simp)) ⟨SV.le_lit (by rfl) (by rfl),trivial⟩ rfl ?_|refine br_intro ?_ ?_<;>intro hb<;>try simp only[brs]at hb|refine tAx hT oAOfE128 ?_|omega|refine sAx ?_|decide|assumption)<;>conv=>whnf))
     all_goals first
      | (have hS:stS vm sm s at0 t=(s):=by
          (try clear hKB);clear c1 c2 c3 hcn hf h3;(try clear hv)
          unfold stS;rw[hE]
          (try simp only[keyE,tn0,tn1,tn2,tn3]at*);first|(simp_all [firstE];done)|(simp_all [firstE];grind)|grind [firstE]
         rw[hS];refine .ent _ _ (Entails.mk' (ts:= [(6,.d (.int .i64 (stE vm sm s at0 t)))]) (rs:=offO h vm sm (s)) rq3 rfl rfl ⟨SV.le_int (by(try clear hKB);clear c1 c2 c3 hcn hf h3;(try clear hv);first|(rw[hE];done)|(rw[hE];(try simp only[keyE,tn0,tn1,tn2,tn3]at*);first|(simp_all [firstE];done)|(simp_all [firstE];grind)|grind [firstE])),trivial⟩ ⟨rr,rr,rr,rr,rr,rr,rr,Res.le_mapB fun _ _=>⟨rfl,rfl⟩,rr,rr,trivial⟩) ?_;refine .ret _ ?_;conv=>whnf
         exact⟨_,⟨rfl,rfl⟩,rr,rr,rr,rr,rr,rr,rr,rr,rr,rr,trivial⟩)
      | (have hS:stS vm sm s at0 t=({sayS s (stEv at0 t)with his:=s.his.put (t.texts.getD 0 []) (some (stHi at0 t)),bks:=s.bks.del (t.texts.getD 0 []) bk0}):=by
          (try clear hKB);clear c1 c2 c3 hcn hf h3;(try clear hv)
          unfold stS;rw[hE]
          (try simp only[keyE,tn0,tn1,tn2,tn3]at*);first|(simp_all [firstE];done)|(simp_all [firstE];grind)|grind [firstE]
         rw[hS];refine .ent _ _ (Entails.mk' (ts:= [(6,.d (.int .i64 (stE vm sm s at0 t)))]) (rs:=offO h vm sm ({sayS s (stEv at0 t)with his:=s.his.put (t.texts.getD 0 []) (some (stHi at0 t)),bks:=s.bks.del (t.texts.getD 0 []) bk0})) rq4 rfl rfl ⟨SV.le_int (by(try clear hKB);clear c1 c2 c3 hcn hf h3;(try clear hv);first|(rw[hE];done)|(rw[hE];(try simp only[keyE,tn0,tn1,tn2,tn3]at*);first|(simp_all [firstE];done)|(simp_all [firstE];grind)|grind [firstE])),trivial⟩ ⟨rr,rr,rr,rr,rr,rr,mpS_del,mpS_put (v:=some (stHi at0 t)),rr,rr,trivial⟩) ?_;refine .ret _ ?_;conv=>whnf
         exact⟨_,⟨rfl,rfl⟩,rr,rr,rr,rr,rr,rr,rr,rr,rr,rr,trivial⟩)
   · skip
     refine spAx hT Tryz.func128 Tryz.call128 ?_;conv=>whnf
     repeat' (first|(refine RegX.cnt (id:=8) 1000008 rfl ?_;intro clock kb hKB;have hk5:=hcn clock kb hKB;have hk6:¬ (500:Int)≤(kb.length:Int):=(by omega);conv=>whnf)|(refine CallX.exact (c1) rfl rfl ?_;rotate_right;conv=>whnf)|((first|refine CallX.look (c2 clock kb) rq1 rfl ⟨lr,lr,trivial⟩ ⟨⟨_,rfl,rfl⟩,⟨_,rfl,rfl⟩,⟨_,rfl,rfl⟩,⟨_,rfl,rfl⟩,⟨_,rfl,rfl⟩,⟨_,rfl,rfl⟩,⟨_,rfl,rfl⟩,⟨_,rfl,rfl⟩,⟨_,rfl,rfl⟩,⟨_,rfl,rfl⟩,trivial⟩ rfl rfl rfl ?_|(refine CallX.of (c3) rq2 rfl ⟨lr,lr,trivial⟩ ⟨rr,rr,rr,rr,rr,rr,rr,Res.le_mapB fun _ _=>⟨rfl,rfl⟩,rr,rr,trivial⟩ rfl rfl ?_;rintro y rout ⟨rfl,rfl⟩;refine⟨rfl,?_⟩))<;>conv=>whnf)|(refine CallX.exact (s107 _ _) rfl rfl ?_;rotate_right;conv=>whnf)|((first|(refine And.intro (rfl:zrow _=some (hiO none)) ?_;refine rowSV_eq (row':=hiF g) (congrArg hiO hv) ?_)|refine And.intro (rfl:zrow _=some (ssF ss0)) ?_|refine And.intro (rfl:zrow _=some [.bool false]) ?_|refine And.intro (rfl:zrow _=some (sF1 [])) ?_|refine And.intro (rfl:zrow _=some [.str []]) ?_|refine And.intro (rfl:zrow _=some (bkF bk0)) ?_|refine And.intro (rfl:zrow _=some (hiO none)) ?_|refine And.intro (rfl:zrow _=some [.int .i64 0]) ?_|refine CallX.pure (s105 [_,_,_,_] (by simp)) ⟨SV.le_lit (by rfl) (by rfl),trivial⟩ rfl ?_|refine br_intro ?_ ?_<;>intro hb<;>try simp only[brs]at hb|refine tAx hT oAOfE128 ?_|omega|refine sAx ?_|decide|assumption)<;>conv=>whnf))
     all_goals first
      | (have hS:stS vm sm s at0 t=(s):=by
          (try clear hKB);clear c1 c2 c3 hcn hf h3;(try clear hv)
          unfold stS;rw[hE]
          (try simp only[keyE,tn0,tn1,tn2,tn3]at*);first|(simp_all [firstE];done)|(simp_all [firstE];grind)|grind [firstE]
         rw[hS];refine .ent _ _ (Entails.mk' (ts:= [(6,.d (.int .i64 (stE vm sm s at0 t)))]) (rs:=offO h vm sm (s)) rq3 rfl rfl ⟨SV.le_int (by(try clear hKB);clear c1 c2 c3 hcn hf h3;(try clear hv);first|(rw[hE];done)|(rw[hE];(try simp only[keyE,tn0,tn1,tn2,tn3]at*);first|(simp_all [firstE];done)|(simp_all [firstE];grind)|grind [firstE])),trivial⟩ ⟨rr,rr,rr,rr,rr,rr,rr,Res.le_mapB fun _ _=>⟨rfl,rfl⟩,rr,rr,trivial⟩) ?_;refine .ret _ ?_;conv=>whnf
         exact⟨_,⟨rfl,rfl⟩,rr,rr,rr,rr,rr,rr,rr,rr,rr,rr,trivial⟩)
      | (have hS:stS vm sm s at0 t=({sayS s (stEv at0 t)with his:=s.his.put (t.texts.getD 0 []) (some (stHi at0 t)),bks:=s.bks.del (t.texts.getD 0 []) bk0}):=by
          (try clear hKB);clear c1 c2 c3 hcn hf h3;(try clear hv)
          unfold stS;rw[hE]
          (try simp only[keyE,tn0,tn1,tn2,tn3]at*);first|(simp_all [firstE];done)|(simp_all [firstE];grind)|grind [firstE]
         rw[hS];refine .ent _ _ (Entails.mk' (ts:= [(6,.d (.int .i64 (stE vm sm s at0 t)))]) (rs:=offO h vm sm ({sayS s (stEv at0 t)with his:=s.his.put (t.texts.getD 0 []) (some (stHi at0 t)),bks:=s.bks.del (t.texts.getD 0 []) bk0})) rq4 rfl rfl ⟨SV.le_int (by(try clear hKB);clear c1 c2 c3 hcn hf h3;(try clear hv);first|(rw[hE];done)|(rw[hE];(try simp only[keyE,tn0,tn1,tn2,tn3]at*);first|(simp_all [firstE];done)|(simp_all [firstE];grind)|grind [firstE])),trivial⟩ ⟨rr,rr,rr,rr,rr,rr,mpS_del,mpS_put (v:=some (stHi at0 t)),rr,rr,trivial⟩) ?_;refine .ret _ ?_;conv=>whnf
         exact⟨_,⟨rfl,rfl⟩,rr,rr,rr,rr,rr,rr,rr,rr,rr,rr,trivial⟩)
 · rw[if_neg q]at c1;rw[if_pos q]at hE;generalize hirE (stHi at0 t)=X at c1 hE q;refine spAx hT Tryz.func128 Tryz.call128 ?_;conv=>whnf
   repeat' (first|(refine CallX.exact (c1) rfl rfl ?_;rotate_right;conv=>whnf)|((first|refine br_intro ?_ ?_<;>intro hb<;>try simp only[brs]at hb|refine tAx hT oAOfE128 ?_|omega|refine sAx ?_|decide|assumption)<;>conv=>whnf))
   all_goals first
    |(exfalso;omega)
    | (have hS:stS vm sm s at0 t=(s):=by
        (try clear hKB);clear c1 c2 c3 hcn hf h3;(try clear hv)
        unfold stS;rw[hE]
        (try simp only[keyE,tn0,tn1,tn2,tn3]at*);first|(simp_all [firstE];done)|(simp_all [firstE];grind)|grind [firstE]
       rw[hS];refine .ent _ _ (Entails.mk' (ts:= [(6,.d (.int .i64 (stE vm sm s at0 t)))]) (rs:=offO h vm sm (s)) rq3 rfl rfl ⟨SV.le_int (by(try clear hKB);clear c1 c2 c3 hcn hf h3;(try clear hv);first|(rw[hE];done)|(rw[hE];(try simp only[keyE,tn0,tn1,tn2,tn3]at*);first|(simp_all [firstE];done)|(simp_all [firstE];grind)|grind [firstE])),trivial⟩ ⟨rr,rr,rr,rr,rr,rr,rr,rr,rr,rr,trivial⟩) ?_;refine .ret _ ?_;conv=>whnf
       exact⟨_,⟨rfl,rfl⟩,rr,rr,rr,rr,rr,rr,rr,rr,rr,rr,trivial⟩)
def oAOfF130:TL:= [(19,[(0,[]),(1,[0]),(2,[0]),(3,[0]),(4,[0]),(5,[]),(6,[]),(7,[]),(8,[7]),(9,[8]),(10,[])]),(22,[(0,[]),(1,[0]),(2,[0,1]),(3,[0,1,2]),(4,[0,1,2]),(5,[0,1,2]),(6,[0,1,2]),(7,rg 7),(8,rg 7),(9,rg 7),(10,rg 7),(11,[0]),(12,[]),(13,[]),(14,[]),(15,[14]),(16,[15]),(17,[])]),(11,[(0,[]),(1,[]),(2,[]),(3,[]),(4,rg 4),(5,rg 4),(6,rg 4),(7,rg 4),(8,[4,5,6,7]),(9,[])]),(12,[(0,[]),(1,[0]),(2,[0,1]),(3,[0,1]),(4,[0,1]),(5,[0,1]),(6,rg 6),(7,rg 6),(8,rg 6),(9,rg 6),(10,[]),(11,rg 11),(12,[])]),(13,[(0,[]),(1,[0]),(2,[0,1]),(3,[0,1]),(4,[0,1]),(5,[0,1]),(6,rg 6),(7,rg 6),(8,rg 6),(9,rg 6),(10,[]),(11,rg 11),(12,[])]),(40,[(0,[]),(1,[]),(2,[]),(3,[]),(4,rg 4),(5,rg 5),(6,[])])]
def oldV (g:Hir):List UInt8:=(g.legs.getD ((g.legs.length:Int) - 1).toNat lg0).veh
def chIn (at0:Int)(t:Tol):Rdg:=⟨at0,(t.texts.getD 1 []),(t.nums.getD 0 0),(t.nums.getD 1 0)⟩
def chOut (at0:Int)(t:Tol):Rdg:=⟨at0,(t.texts.getD 1 []),(t.nums.getD 2 0),(t.nums.getD 3 0)⟩
def chNext (g:Hir)(at0:Int)(t:Tol):Hir:=if t.word= [101,120,116,101,110,100]then xtH g (t.nums.getD 0 0)else if t.word= [99,108,111,115,101]then clH g (chIn at0 t)else exH g (chIn at0 t) (t.texts.getD 2 []) (chOut at0 t)
def chEvs (g:Hir)(at0:Int)(t:Tol):List Evn:=if t.word= [101,120,116,101,110,100]then []else if t.word= [99,108,111,115,101]then [⟨at0,oldV g,(t.texts.getD 1 []),3,[]⟩]else [⟨at0,oldV g,(t.texts.getD 1 []),3,[]⟩,⟨at0,(t.texts.getD 2 []),(t.texts.getD 1 []),2,[]⟩]
def chKn (vm:Mp (List UInt8))(sm:Mp Bool)(t:Tol):Bool:=if t.word= [101,120,116,101,110,100]then true else if t.word= [99,108,111,115,101]then sm.val (t.texts.getD 1 [])else(sm.val (t.texts.getD 1 [])&&vm.has (t.texts.getD 2 []))
def canL (s:Off)(l:List Evn):Int:=firstAt (fun i=>canE s (l.getD i ev0)) l.length
def sayL (s:Off)(l:List Evn):Off:=l.foldl sayS s
def chG (vm:Mp (List UInt8))(sm:Mp Bool)(s:Off)(g:Hir)(at0:Int)(t:Tol):Int:=
 if firstE [mdE g (chNext g at0 t),if(!chKn vm sm t)then 8 else 0]≠0 then firstE [mdE g (chNext g at0 t),if(!chKn vm sm t)then 8 else 0]else canL s (chEvs g at0 t)
def chE (vm:Mp (List UInt8))(sm:Mp Bool)(s:Off)(at0:Int)(t:Tol):Int:=if s.his.has (t.texts.getD 0 [])then chG vm sm s ((s.his.val (t.texts.getD 0 [])).getD hi0) at0 t else 8
def chS (vm:Mp (List UInt8))(sm:Mp Bool)(s:Off)(at0:Int)(t:Tol):Off:=
 if chE vm sm s at0 t=0 then{sayL s (chEvs ((s.his.val (t.texts.getD 0 [])).getD hi0) at0 t)with his:=(sayL s (chEvs ((s.his.val (t.texts.getD 0 [])).getD hi0) at0 t)).his.put (t.texts.getD 0 []) (some (chNext ((s.his.val (t.texts.getD 0 [])).getD hi0) at0 t))}else s
theorem sayL_his (s:Off)(l:List Evn):(sayL s l).his=s.his:=by
 unfold sayL
 induction l generalizing s with
 |nil=>rfl
 |cons x l ih=>rw[List.foldl_cons,ih];rfl
theorem sayL_log (s:Off)(l:List Evn):(sayL s l).log=s.log++l:=by
 unfold sayL
 induction l generalizing s with
 |nil=>simp
 |cons x l ih=>rw[List.foldl_cons,ih];simp[sayS]
theorem sayL_take (s:Off)(l:List Evn)(i:Nat)(hi:i<l.length):sayL s (l.take (i+1))=sayS (sayL s (l.take i)) (l.getD i ev0):=by
 unfold sayL;rw[List.take_add_one,List.getElem?_eq_getElem hi,Option.toList_some,List.foldl_append,List.getD_eq_getElem?_getD,List.getElem?_eq_getElem hi];rfl
abbrev offC60 (h:Hou):Res:=.cells 95 (houC h++ [.mp 1000002,.mp 1000003,.mp 1000004,.buf 60,.mp 1000006,.mp 1000007,.mp 1000008,.mp 1000010,.buf 1000011])
theorem wChange (h:Hou)(vm:Mp (List UInt8))(sm:Mp Bool)(s:Off)(hl:s.log.length≤2^19)(at0:Int)(t:Tol)(h1:1≤t.texts.length)(hx:t.word= [101,120,116,101,110,100]→1≤t.nums.length)(hc:t.word= [99,108,111,115,101]→2≤t.texts.length∧2≤t.nums.length)
 (hs:t.word≠ [101,120,116,101,110,100]→t.word≠ [99,108,111,115,101]→3≤t.texts.length∧4≤t.nums.length)(h3:∀j,(t.texts.getD j []).length≤2^40)(g:Hir)(hh:s.his.has (t.texts.getD 0 [])=true)(hv:s.his.val (t.texts.getD 0 [])=some g)(hg:hiL g)(hg1:1≤g.legs.length)(hg2:g.legs.length<2^19):
 FSpec Tryz.prog 130 [.ptr 1000001 0,.d (.int .i64 at0),.agg ((tolF t).map .d)] (offR h vm sm s) (fun y r=>y= .d (.int .i64 (chE vm sm s at0 t))∧r=offO h vm sm (chS vm sm s at0 t)):=by
 have cX:=wExt g hg (t.nums.getD 0 0);have cC:=wCls g hg (chIn at0 t) (h3 1);have cE:=wExc g hg hg2 (chIn at0 t) (h3 1) (t.texts.getD 2 []) (h3 2) (chOut at0 t) (h3 1)
 by_cases w1:t.word= [101,120,116,101,110,100]
 · skip
   have hN:chNext g at0 t=xtH g (t.nums.getD 0 0):=by unfold chNext;rw[if_pos w1]
   have hEv:chEvs g at0 t= []:=by unfold chEvs;rw[if_pos w1]
   have hKn:chKn vm sm t=true:=by unfold chKn;rw[if_pos w1]
   have hx1:=hx w1
   by_cases hm:mdE g (xtH g (t.nums.getD 0 0))=0
   · have hH:mdH g (xtH g (t.nums.getD 0 0))=xtH g (t.nums.getD 0 0):=if_pos hm;rw[hH,hm]at cX;obtain⟨N,hNe⟩:∃N,N=xtH g (t.nums.getD 0 0):=⟨_,rfl⟩;rw[←hNe]at cX;obtain⟨EV,hEVe⟩:∃EV,EV=([]:List Evn):=⟨_,rfl⟩;have hEl:EV.length≤2:=by rw[hEVe];simp
     have hG0:chKn vm sm t=true→chE vm sm s at0 t=canL s EV:=fun kk=>by
      unfold chE chG;rw[if_pos hh,hv];show(if firstE [mdE g (chNext g at0 t),if(!chKn vm sm t)=true then 8 else 0]≠0 then firstE [mdE g (chNext g at0 t),if(!chKn vm sm t)=true then 8 else 0]else canL s (chEvs g at0 t))=_;rw[hN,hm,kk,hEv,←hEVe];rw[if_neg (by simp[firstE])]
     refine spAx hT Tryz.func130 Tryz.call130 ?_;conv=>whnf
     repeat' (first|((first|refine pAx cX ?_|refine pAx cC ?_|refine pAx cE ?_)<;>conv=>whnf)|(refine CallX.exact (s107 _ _) rfl rfl ?_;rotate_right;conv=>whnf)|((first|(refine And.intro (rfl:zrow _=some (hiO none)) ?_;refine rowSV_eq (row':=hiF g) (congrArg hiO hv) ?_)|refine And.intro (rfl:zrow _=some (ssF ss0)) ?_|refine And.intro (rfl:zrow _=some [.bool false]) ?_|refine And.intro (rfl:zrow _=some (sF1 [])) ?_|refine And.intro (rfl:zrow _=some [.str []]) ?_|refine And.intro (rfl:zrow _=some (bkF bk0)) ?_|refine And.intro (rfl:zrow _=some (hiO none)) ?_|refine And.intro (rfl:zrow _=some [.int .i64 0]) ?_|refine CallX.pure (s105 [_,_] (by simp)) ⟨SV.le_lit (by rfl) (by rfl),trivial⟩ rfl ?_|refine br_intro ?_ ?_<;>intro hb<;>try simp only[brs]at hb|refine tAx hT oAOfF130 ?_|omega|refine sAx ?_|decide|assumption)<;>conv=>whnf))
     all_goals try(exfalso;contradiction)
     all_goals first
      |(exfalso;have q:s.his.has (t.texts.getD 0 [])=false:=hb;rw[hh]at q;cases q)
      |(exfalso;clear cX cC cE;apply hb;simp[firstE];done)
      | (have hkf:(true)=false:=by
          clear cX cC cE
          cases kq:(true)with
          |false=>rfl
          | true=>
            exfalso;trivial
         have hE1:chE vm sm s at0 t=8:=by
          unfold chE chG;rw[if_pos hh,hv];show(if firstE [mdE g (chNext g at0 t),if(!chKn vm sm t)=true then 8 else 0]≠0 then firstE [mdE g (chNext g at0 t),if(!chKn vm sm t)=true then 8 else 0]else canL s (chEvs g at0 t))=_;rw[hN,hm,hKn,hkf];simp[firstE]
         have hS1:chS vm sm s at0 t=s:=by unfold chS;rw[if_neg (by rw[hE1];decide)]
         rw[hE1,hS1];refine .ent _ _ (Entails.mk' (ts:= [(6,.d (.int .i64 8))]) (rs:=offO h vm sm s) rq3 rfl rfl ⟨SV.le_int (by clear cX cC cE;rfl),trivial⟩ ⟨rr,rr,rr,rr,rr,rr,rr,rr,rr,rr,trivial⟩) ?_;refine .ret _ ?_;conv=>whnf
         exact⟨_,⟨rfl,rfl⟩,rr,rr,rr,rr,rr,rr,rr,rr,rr,rr,trivial⟩)
      |skip
     have hG:=hG0 (hKn.trans rfl)
     refine LoopX.rule hT (C:= []) (ι:=Nat) (fun i=>i≤EV.length∧∀j,j<i→canE s (EV.getD j ev0)=0)
      (fun i=>mkSt [(0,.ptr 1000001 0),(7,.d (.str (t.texts.getD 0 []))),(10,.ptr 10 0),(12,.d (evns EV)),(172,.d (evns EV)),(173,.d (.int .i64 EV.length)),(174,.d (.int .i64 i))] ((10,.cells 85 ((hiF N).map .d))::offR h vm sm s))
      (fun i=>EV.length - i) 0 ⟨by omega,fun j hj=>by omega⟩ ?_ ?_
     · refine Entails.mk' rq5 rfl rfl ⟨lr,lr,lr,(by subst hEVe;exact SV.le_nilS),(by subst hEVe;exact SV.le_nilS),(by subst hEVe;exact lr),lr,trivial⟩ ⟨rr,rr,rr,rr,rr,rr,rr,rr,rr,rr,rr,trivial⟩
     rintro i ⟨p1,p2⟩;have e1:=tnc i;conv=>whnf
     repeat' ((first|(refine oEx (wCan h vm sm s (EV.getD (i:Int).toNat ev0)) rq1 ?_)|(refine And.intro (by unfold inI64;omega) ?_)|refine br_intro ?_ ?_<;>intro hb<;>try simp only[brs]at hb|refine tAx hT oAOfF130 ?_|omega|refine sAx ?_|decide|assumption)<;>conv=>whnf)
     all_goals first
      |(exact⟨i+1,⟨by omega,first_step p2 (by first|exact hb|simpa using hb)⟩,by omega,Entails.mk' rq5 rfl rfl ⟨lr,lr,lr,lr,lr,lr,lr,trivial⟩ ⟨rr,rr,rr,rr,rr,rr,rr,rr,rr,rr,rr,trivial⟩⟩)
      | (have hE1:chE vm sm s at0 t=canE s (EV.getD i ev0):=hG.trans (firstAt_eq (f:=fun i=>canE s (EV.getD i ev0)) (by omega) p2 hb rfl)
         have hS1:chS vm sm s at0 t=s:=by unfold chS;rw[if_neg (by rw[hE1];exact hb)]
         rw[hE1,hS1];refine .ent _ _ (Entails.mk' (ts:= [(6,.d (.int .i64 (canE s (EV.getD i ev0))))]) (rs:=offO h vm sm s) rq3 rfl rfl ⟨lr,trivial⟩ ⟨rr,rr,rr,rr,rr,rr,rr,rr,rr,rr,trivial⟩) ?_;refine .ret _ ?_;conv=>whnf
         exact⟨_,⟨rfl,rfl⟩,rr,rr,rr,rr,rr,rr,rr,rr,rr,rr,trivial⟩)
      |skip
     have hz:canL s EV=0:=firstAt_zero fun j hj=>p2 j (by omega)
     have hE0:chE vm sm s at0 t=0:=hG.trans hz
     have hS0:chS vm sm s at0 t={sayL s EV with his:=(sayL s EV).his.put (t.texts.getD 0 []) (some N)}:=by
      unfold chS;rw[if_pos hE0,hv];show({sayL s (chEvs g at0 t)with his:=(sayL s (chEvs g at0 t)).his.put (t.texts.getD 0 []) (some (chNext g at0 t))}:Off)=_;rw[hEv,hN,←hEVe,←hNe]
     rw[hE0,hS0]
     refine LoopX.rule hT (C:= []) (ι:=Nat) (fun i=>i≤EV.length)
      (fun i=>mkSt [(0,.ptr 1000001 0),(7,.d (.str (t.texts.getD 0 []))),(10,.ptr 10 0),(185,.d (evns EV)),(186,.d (.int .i64 EV.length)),(187,.d (.int .i64 i))] ((10,.cells 85 ((hiF N).map .d)):: [(1000001,offC60 h),(1000002,mpS false [.str []] sF1 vm),(1000003,mpS false [.bool false] bF1 sm),(1000004,mpS true (ssF ss0) ssF (sayL s (EV.take i)).sts),(60,evB (sayL s (EV.take i)).log),(1000006,atM (sayL s (EV.take i)).ats),(1000007,mpS true (bkF bk0) bkF (sayL s (EV.take i)).bks),(1000008,mpS true (hiO none) hiO (sayL s (EV.take i)).his),(1000010,mpS false [.int .i64 0] iF1 (sayL s (EV.take i)).paid),(1000011,rfB (sayL s (EV.take i)).ref)]))
      (fun i=>EV.length - i) 0 (by omega) ?_ ?_
     · refine Entails.mk' rq6 rfl rfl ⟨lr,lr,lr,lr,lr,lr,trivial⟩ ⟨rr,rr,rr,rr,rr,rr,rr,rr,rr,rr,rr,trivial⟩
     clear p1 p2 e1;rintro i p1;have e1:=tnc i;conv=>whnf
     repeat' ((first|(refine oEx (wSay h vm sm (sayL s (EV.take i)) (EV.getD (i:Int).toNat ev0) (by rw[sayL_log,List.length_append,List.length_take];omega)) rq7 ?_)|(refine And.intro (by unfold inI64;omega) ?_)|refine br_intro ?_ ?_<;>intro hb<;>try simp only[brs]at hb|refine tAx hT oAOfF130 ?_|omega|refine sAx ?_|decide|assumption)<;>conv=>whnf)
     all_goals first
      | (refine⟨i+1,by omega,by omega,?_⟩
         have hT:=sayL_take s EV i (by omega)
         dsimp only
         rw[hT]
         exact Entails.mk' rq8 rfl rfl ⟨lr,lr,lr,lr,lr,lr,trivial⟩ ⟨rr,rr,rr,rr,rr,rr,rr,rr,rr,rr,rr,trivial⟩)
      | (have hi:EV.take i=EV:=List.take_of_length_le (by omega)
         rw[hi];refine .ent _ _ (Entails.mk' (ts:= [(6,.d (.int .i64 0))]) (rs:=offO h vm sm ({sayL s EV with his:=(sayL s EV).his.put (t.texts.getD 0 []) (some N)})) rq4 rfl rfl ⟨lr,trivial⟩ ⟨rr,rr,rr,rr,rr,rr,rr,mpS_put (v:=some N),rr,rr,trivial⟩) ?_;refine .ret _ ?_;conv=>whnf
         exact⟨_,⟨rfl,rfl⟩,rr,rr,rr,rr,rr,rr,rr,rr,rr,rr,trivial⟩)
   · have hH:mdH g (xtH g (t.nums.getD 0 0))=hi0:=if_neg hm
     have hE1:chE vm sm s at0 t=mdE g (xtH g (t.nums.getD 0 0)):=by
      unfold chE chG;rw[if_pos hh,hv];show(if firstE [mdE g (chNext g at0 t),if(!chKn vm sm t)=true then 8 else 0]≠0 then firstE [mdE g (chNext g at0 t),if(!chKn vm sm t)=true then 8 else 0]else canL s (chEvs g at0 t))=_;rw[hN];generalize mdE g (xtH g (t.nums.getD 0 0))=X at hm ⊢;simp[firstE,hm]
     have hS1:chS vm sm s at0 t=s:=by unfold chS;rw[if_neg (by rw[hE1];exact hm)]
     rw[hE1,hS1];rw[hH]at cX;clear hE1 hS1 hH hN;generalize mdE g (xtH g (t.nums.getD 0 0))=X at cX hm;refine spAx hT Tryz.func130 Tryz.call130 ?_;conv=>whnf
     repeat' (first|((first|refine pAx cX ?_|refine pAx cC ?_|refine pAx cE ?_)<;>conv=>whnf)|(refine CallX.exact (s107 _ _) rfl rfl ?_;rotate_right;conv=>whnf)|((first|(refine And.intro (rfl:zrow _=some (hiO none)) ?_;refine rowSV_eq (row':=hiF g) (congrArg hiO hv) ?_)|refine And.intro (rfl:zrow _=some (ssF ss0)) ?_|refine And.intro (rfl:zrow _=some [.bool false]) ?_|refine And.intro (rfl:zrow _=some (sF1 [])) ?_|refine And.intro (rfl:zrow _=some [.str []]) ?_|refine And.intro (rfl:zrow _=some (bkF bk0)) ?_|refine And.intro (rfl:zrow _=some (hiO none)) ?_|refine And.intro (rfl:zrow _=some [.int .i64 0]) ?_|refine CallX.pure (s105 [_,_] (by simp)) ⟨SV.le_lit (by rfl) (by rfl),trivial⟩ rfl ?_|refine br_intro ?_ ?_<;>intro hb<;>try simp only[brs]at hb|refine tAx hT oAOfF130 ?_|omega|refine sAx ?_|decide|assumption)<;>conv=>whnf))
     all_goals try(exfalso;contradiction)
     all_goals first
      |(exfalso;have q:s.his.has (t.texts.getD 0 [])=false:=hb;rw[hh]at q;cases q)
      |(exfalso;clear cX cC cE;simp[firstE,hm]at hb;done)
      | (refine .ent _ _ (Entails.mk' (ts:= [(6,.d (.int .i64 X))]) (rs:=offO h vm sm s) rq3 rfl rfl ⟨SV.le_int (by simp[firstE,hm]),trivial⟩ ⟨rr,rr,rr,rr,rr,rr,rr,rr,rr,rr,trivial⟩) ?_
         refine .ret _ ?_;conv=>whnf
         exact⟨_,⟨rfl,rfl⟩,rr,rr,rr,rr,rr,rr,rr,rr,rr,rr,trivial⟩)
 by_cases w2:t.word= [99,108,111,115,101]
 · skip
   have hN:chNext g at0 t=clH g (chIn at0 t):=by unfold chNext;rw[if_neg w1,if_pos w2]
   have hEv:chEvs g at0 t= [⟨at0,oldV g,(t.texts.getD 1 []),3,[]⟩]:=by unfold chEvs;rw[if_neg w1,if_pos w2]
   have hKn:chKn vm sm t=sm.val (t.texts.getD 1 []):=by unfold chKn;rw[if_neg w1,if_pos w2]
   obtain⟨hc1,hc2⟩:=hc w2
   by_cases hm:mdE g (clH g (chIn at0 t))=0
   · have hH:mdH g (clH g (chIn at0 t))=clH g (chIn at0 t):=if_pos hm;rw[hH,hm]at cC;obtain⟨N,hNe⟩:∃N,N=clH g (chIn at0 t):=⟨_,rfl⟩;rw[←hNe]at cC;obtain⟨EV,hEVe⟩:∃EV,EV=([⟨at0,oldV g,(t.texts.getD 1 []),3,[]⟩]:List Evn):=⟨_,rfl⟩;have hEl:EV.length≤2:=by rw[hEVe];simp
     have hG0:chKn vm sm t=true→chE vm sm s at0 t=canL s EV:=fun kk=>by
      unfold chE chG;rw[if_pos hh,hv];show(if firstE [mdE g (chNext g at0 t),if(!chKn vm sm t)=true then 8 else 0]≠0 then firstE [mdE g (chNext g at0 t),if(!chKn vm sm t)=true then 8 else 0]else canL s (chEvs g at0 t))=_;rw[hN,hm,kk,hEv,←hEVe];rw[if_neg (by simp[firstE])]
     refine spAx hT Tryz.func130 Tryz.call130 ?_;conv=>whnf
     repeat' (first|((first|refine pAx cX ?_|refine pAx cC ?_|refine pAx cE ?_)<;>conv=>whnf)|(refine CallX.exact (s107 _ _) rfl rfl ?_;rotate_right;conv=>whnf)|((first|(refine And.intro (rfl:zrow _=some (hiO none)) ?_;refine rowSV_eq (row':=hiF g) (congrArg hiO hv) ?_)|refine And.intro (rfl:zrow _=some (ssF ss0)) ?_|refine And.intro (rfl:zrow _=some [.bool false]) ?_|refine And.intro (rfl:zrow _=some (sF1 [])) ?_|refine And.intro (rfl:zrow _=some [.str []]) ?_|refine And.intro (rfl:zrow _=some (bkF bk0)) ?_|refine And.intro (rfl:zrow _=some (hiO none)) ?_|refine And.intro (rfl:zrow _=some [.int .i64 0]) ?_|refine CallX.pure (s105 [_,_] (by simp)) ⟨SV.le_lit (by rfl) (by rfl),trivial⟩ rfl ?_|refine br_intro ?_ ?_<;>intro hb<;>try simp only[brs]at hb|refine tAx hT oAOfF130 ?_|omega|refine sAx ?_|decide|assumption)<;>conv=>whnf))
     all_goals try(exfalso;contradiction)
     all_goals first
      |(exfalso;have q:s.his.has (t.texts.getD 0 [])=false:=hb;rw[hh]at q;cases q)
      |(exfalso;clear cX cC cE;apply hb;simp[firstE];done)
      | (have hkf:(sm.val (t.texts.getD 1 []))=false:=by
          clear cX cC cE
          cases kq:(sm.val (t.texts.getD 1 []))with
          |false=>rfl
          | true=>
            exfalso;exact hb (by show firstE [0,if sm.val (t.texts.getD 1 [])=false then 8 else 0]=0;rw[kq];rfl)
         have hE1:chE vm sm s at0 t=8:=by
          unfold chE chG;rw[if_pos hh,hv];show(if firstE [mdE g (chNext g at0 t),if(!chKn vm sm t)=true then 8 else 0]≠0 then firstE [mdE g (chNext g at0 t),if(!chKn vm sm t)=true then 8 else 0]else canL s (chEvs g at0 t))=_;rw[hN,hm,hKn,hkf];simp[firstE]
         have hS1:chS vm sm s at0 t=s:=by unfold chS;rw[if_neg (by rw[hE1];decide)]
         rw[hE1,hS1];refine .ent _ _ (Entails.mk' (ts:= [(6,.d (.int .i64 8))]) (rs:=offO h vm sm s) rq3 rfl rfl ⟨SV.le_int (by clear cX cC cE;show firstE [0,if(!sm.val (t.texts.getD 1 []))=true then 8 else 0]=8;rw[hkf];rfl),trivial⟩ ⟨rr,rr,rr,rr,rr,rr,rr,rr,rr,rr,trivial⟩) ?_;refine .ret _ ?_;conv=>whnf
         exact⟨_,⟨rfl,rfl⟩,rr,rr,rr,rr,rr,rr,rr,rr,rr,rr,trivial⟩)
      |skip
     have hG:=hG0 (hKn.trans (by cases kq:sm.val (t.texts.getD 1 [])with|true=>rfl|false=>exact absurd (show firstE [0,if sm.val (t.texts.getD 1 [])=false then 8 else 0]=0 from hb) (by rw[kq];decide)))
     refine LoopX.rule hT (C:= []) (ι:=Nat) (fun i=>i≤EV.length∧∀j,j<i→canE s (EV.getD j ev0)=0)
      (fun i=>mkSt [(0,.ptr 1000001 0),(7,.d (.str (t.texts.getD 0 []))),(10,.ptr 10 0),(12,.d (evns EV)),(172,.d (evns EV)),(173,.d (.int .i64 EV.length)),(174,.d (.int .i64 i))] ((10,.cells 85 ((hiF N).map .d))::offR h vm sm s))
      (fun i=>EV.length - i) 0 ⟨by omega,fun j hj=>by omega⟩ ?_ ?_
     · refine Entails.mk' rq5 rfl rfl ⟨lr,lr,lr,(by subst hEVe;exact SV.le_lit rfl rfl),(by subst hEVe;exact SV.le_lit rfl rfl),(by subst hEVe;exact lr),lr,trivial⟩ ⟨rr,rr,rr,rr,rr,rr,rr,rr,rr,rr,rr,trivial⟩
     rintro i ⟨p1,p2⟩;have e1:=tnc i;conv=>whnf
     repeat' ((first|(refine oEx (wCan h vm sm s (EV.getD (i:Int).toNat ev0)) rq1 ?_)|(refine And.intro (by unfold inI64;omega) ?_)|refine br_intro ?_ ?_<;>intro hb<;>try simp only[brs]at hb|refine tAx hT oAOfF130 ?_|omega|refine sAx ?_|decide|assumption)<;>conv=>whnf)
     all_goals first
      |(exact⟨i+1,⟨by omega,first_step p2 (by first|exact hb|simpa using hb)⟩,by omega,Entails.mk' rq5 rfl rfl ⟨lr,lr,lr,lr,lr,lr,lr,trivial⟩ ⟨rr,rr,rr,rr,rr,rr,rr,rr,rr,rr,rr,trivial⟩⟩)
      | (have hE1:chE vm sm s at0 t=canE s (EV.getD i ev0):=hG.trans (firstAt_eq (f:=fun i=>canE s (EV.getD i ev0)) (by omega) p2 hb rfl)
         have hS1:chS vm sm s at0 t=s:=by unfold chS;rw[if_neg (by rw[hE1];exact hb)]
         rw[hE1,hS1];refine .ent _ _ (Entails.mk' (ts:= [(6,.d (.int .i64 (canE s (EV.getD i ev0))))]) (rs:=offO h vm sm s) rq3 rfl rfl ⟨lr,trivial⟩ ⟨rr,rr,rr,rr,rr,rr,rr,rr,rr,rr,trivial⟩) ?_;refine .ret _ ?_;conv=>whnf
         exact⟨_,⟨rfl,rfl⟩,rr,rr,rr,rr,rr,rr,rr,rr,rr,rr,trivial⟩)
      |skip
     have hz:canL s EV=0:=firstAt_zero fun j hj=>p2 j (by omega)
     have hE0:chE vm sm s at0 t=0:=hG.trans hz
     have hS0:chS vm sm s at0 t={sayL s EV with his:=(sayL s EV).his.put (t.texts.getD 0 []) (some N)}:=by
      unfold chS;rw[if_pos hE0,hv];show({sayL s (chEvs g at0 t)with his:=(sayL s (chEvs g at0 t)).his.put (t.texts.getD 0 []) (some (chNext g at0 t))}:Off)=_;rw[hEv,hN,←hEVe,←hNe]
     rw[hE0,hS0]
     refine LoopX.rule hT (C:= []) (ι:=Nat) (fun i=>i≤EV.length)
      (fun i=>mkSt [(0,.ptr 1000001 0),(7,.d (.str (t.texts.getD 0 []))),(10,.ptr 10 0),(185,.d (evns EV)),(186,.d (.int .i64 EV.length)),(187,.d (.int .i64 i))] ((10,.cells 85 ((hiF N).map .d)):: [(1000001,offC60 h),(1000002,mpS false [.str []] sF1 vm),(1000003,mpS false [.bool false] bF1 sm),(1000004,mpS true (ssF ss0) ssF (sayL s (EV.take i)).sts),(60,evB (sayL s (EV.take i)).log),(1000006,atM (sayL s (EV.take i)).ats),(1000007,mpS true (bkF bk0) bkF (sayL s (EV.take i)).bks),(1000008,mpS true (hiO none) hiO (sayL s (EV.take i)).his),(1000010,mpS false [.int .i64 0] iF1 (sayL s (EV.take i)).paid),(1000011,rfB (sayL s (EV.take i)).ref)]))
      (fun i=>EV.length - i) 0 (by omega) ?_ ?_
     · refine Entails.mk' rq6 rfl rfl ⟨lr,lr,lr,lr,lr,lr,trivial⟩ ⟨rr,rr,rr,rr,rr,rr,rr,rr,rr,rr,rr,trivial⟩
     clear p1 p2 e1;rintro i p1;have e1:=tnc i;conv=>whnf
     repeat' ((first|(refine oEx (wSay h vm sm (sayL s (EV.take i)) (EV.getD (i:Int).toNat ev0) (by rw[sayL_log,List.length_append,List.length_take];omega)) rq7 ?_)|(refine And.intro (by unfold inI64;omega) ?_)|refine br_intro ?_ ?_<;>intro hb<;>try simp only[brs]at hb|refine tAx hT oAOfF130 ?_|omega|refine sAx ?_|decide|assumption)<;>conv=>whnf)
     all_goals first
      | (refine⟨i+1,by omega,by omega,?_⟩
         have hT:=sayL_take s EV i (by omega)
         dsimp only
         rw[hT]
         exact Entails.mk' rq8 rfl rfl ⟨lr,lr,lr,lr,lr,lr,trivial⟩ ⟨rr,rr,rr,rr,rr,rr,rr,rr,rr,rr,rr,trivial⟩)
      | (have hi:EV.take i=EV:=List.take_of_length_le (by omega)
         rw[hi];refine .ent _ _ (Entails.mk' (ts:= [(6,.d (.int .i64 0))]) (rs:=offO h vm sm ({sayL s EV with his:=(sayL s EV).his.put (t.texts.getD 0 []) (some N)})) rq4 rfl rfl ⟨lr,trivial⟩ ⟨rr,rr,rr,rr,rr,rr,rr,mpS_put (v:=some N),rr,rr,trivial⟩) ?_;refine .ret _ ?_;conv=>whnf
         exact⟨_,⟨rfl,rfl⟩,rr,rr,rr,rr,rr,rr,rr,rr,rr,rr,trivial⟩)
   · have hH:mdH g (clH g (chIn at0 t))=hi0:=if_neg hm
     have hE1:chE vm sm s at0 t=mdE g (clH g (chIn at0 t)):=by
      unfold chE chG;rw[if_pos hh,hv];show(if firstE [mdE g (chNext g at0 t),if(!chKn vm sm t)=true then 8 else 0]≠0 then firstE [mdE g (chNext g at0 t),if(!chKn vm sm t)=true then 8 else 0]else canL s (chEvs g at0 t))=_;rw[hN];generalize mdE g (clH g (chIn at0 t))=X at hm ⊢;simp[firstE,hm]
     have hS1:chS vm sm s at0 t=s:=by unfold chS;rw[if_neg (by rw[hE1];exact hm)]
     rw[hE1,hS1];rw[hH]at cC;clear hE1 hS1 hH hN;generalize mdE g (clH g (chIn at0 t))=X at cC hm;refine spAx hT Tryz.func130 Tryz.call130 ?_;conv=>whnf
     repeat' (first|((first|refine pAx cX ?_|refine pAx cC ?_|refine pAx cE ?_)<;>conv=>whnf)|(refine CallX.exact (s107 _ _) rfl rfl ?_;rotate_right;conv=>whnf)|((first|(refine And.intro (rfl:zrow _=some (hiO none)) ?_;refine rowSV_eq (row':=hiF g) (congrArg hiO hv) ?_)|refine And.intro (rfl:zrow _=some (ssF ss0)) ?_|refine And.intro (rfl:zrow _=some [.bool false]) ?_|refine And.intro (rfl:zrow _=some (sF1 [])) ?_|refine And.intro (rfl:zrow _=some [.str []]) ?_|refine And.intro (rfl:zrow _=some (bkF bk0)) ?_|refine And.intro (rfl:zrow _=some (hiO none)) ?_|refine And.intro (rfl:zrow _=some [.int .i64 0]) ?_|refine CallX.pure (s105 [_,_] (by simp)) ⟨SV.le_lit (by rfl) (by rfl),trivial⟩ rfl ?_|refine br_intro ?_ ?_<;>intro hb<;>try simp only[brs]at hb|refine tAx hT oAOfF130 ?_|omega|refine sAx ?_|decide|assumption)<;>conv=>whnf))
     all_goals try(exfalso;contradiction)
     all_goals first
      |(exfalso;have q:s.his.has (t.texts.getD 0 [])=false:=hb;rw[hh]at q;cases q)
      |(exfalso;clear cX cC cE;simp[firstE,hm]at hb;done)
      | (refine .ent _ _ (Entails.mk' (ts:= [(6,.d (.int .i64 X))]) (rs:=offO h vm sm s) rq3 rfl rfl ⟨SV.le_int (by simp[firstE,hm]),trivial⟩ ⟨rr,rr,rr,rr,rr,rr,rr,rr,rr,rr,trivial⟩) ?_
         refine .ret _ ?_;conv=>whnf
         exact⟨_,⟨rfl,rfl⟩,rr,rr,rr,rr,rr,rr,rr,rr,rr,rr,trivial⟩)
 · skip
   have hN:chNext g at0 t=exH g (chIn at0 t) (t.texts.getD 2 []) (chOut at0 t):=by unfold chNext;rw[if_neg w1,if_neg w2]
   have hEv:chEvs g at0 t= [⟨at0,oldV g,(t.texts.getD 1 []),3,[]⟩,⟨at0,(t.texts.getD 2 []),(t.texts.getD 1 []),2,[]⟩]:=by unfold chEvs;rw[if_neg w1,if_neg w2]
   have hKn:chKn vm sm t=(sm.val (t.texts.getD 1 [])&&vm.has (t.texts.getD 2 [])):=by unfold chKn;rw[if_neg w1,if_neg w2]
   obtain⟨hs1,hs2⟩:=hs w1 w2
   by_cases hm:mdE g (exH g (chIn at0 t) (t.texts.getD 2 []) (chOut at0 t))=0
   · have hH:mdH g (exH g (chIn at0 t) (t.texts.getD 2 []) (chOut at0 t))=exH g (chIn at0 t) (t.texts.getD 2 []) (chOut at0 t):=if_pos hm;rw[hH,hm]at cE;obtain⟨N,hNe⟩:∃N,N=exH g (chIn at0 t) (t.texts.getD 2 []) (chOut at0 t):=⟨_,rfl⟩;rw[←hNe]at cE;obtain⟨EV,hEVe⟩:∃EV,EV=([⟨at0,oldV g,(t.texts.getD 1 []),3,[]⟩,⟨at0,(t.texts.getD 2 []),(t.texts.getD 1 []),2,[]⟩]:List Evn):=⟨_,rfl⟩;have hEl:EV.length≤2:=by rw[hEVe];simp
     have hG0:chKn vm sm t=true→chE vm sm s at0 t=canL s EV:=fun kk=>by
      unfold chE chG;rw[if_pos hh,hv];show(if firstE [mdE g (chNext g at0 t),if(!chKn vm sm t)=true then 8 else 0]≠0 then firstE [mdE g (chNext g at0 t),if(!chKn vm sm t)=true then 8 else 0]else canL s (chEvs g at0 t))=_;rw[hN,hm,kk,hEv,←hEVe];rw[if_neg (by simp[firstE])]
     refine spAx hT Tryz.func130 Tryz.call130 ?_;conv=>whnf
     repeat' (first|((first|refine pAx cX ?_|refine pAx cC ?_|refine pAx cE ?_)<;>conv=>whnf)|(refine CallX.exact (s107 _ _) rfl rfl ?_;rotate_right;conv=>whnf)|((first|(refine And.intro (rfl:zrow _=some (hiO none)) ?_;refine rowSV_eq (row':=hiF g) (congrArg hiO hv) ?_)|refine And.intro (rfl:zrow _=some (ssF ss0)) ?_|refine And.intro (rfl:zrow _=some [.bool false]) ?_|refine And.intro (rfl:zrow _=some (sF1 [])) ?_|refine And.intro (rfl:zrow _=some [.str []]) ?_|refine And.intro (rfl:zrow _=some (bkF bk0)) ?_|refine And.intro (rfl:zrow _=some (hiO none)) ?_|refine And.intro (rfl:zrow _=some [.int .i64 0]) ?_|refine CallX.pure (s105 [_,_] (by simp)) ⟨SV.le_lit (by rfl) (by rfl),trivial⟩ rfl ?_|refine br_intro ?_ ?_<;>intro hb<;>try simp only[brs]at hb|refine tAx hT oAOfF130 ?_|omega|refine sAx ?_|decide|assumption)<;>conv=>whnf))
     all_goals try(exfalso;contradiction)
     all_goals first
      |(exfalso;have q:s.his.has (t.texts.getD 0 [])=false:=hb;rw[hh]at q;cases q)
      |(exfalso;clear cX cC cE;apply hb;simp[firstE];done)
      | (have hkf:((sm.val (t.texts.getD 1 [])&&vm.has (t.texts.getD 2 [])))=false:=by
          clear cX cC cE
          cases kq:((sm.val (t.texts.getD 1 [])&&vm.has (t.texts.getD 2 [])))with
          |false=>rfl
          | true=>
            exfalso
            (clear hc hs hx h3 hm hH;(try simp only[keyE,show Int.toNat 1=1 from rfl,show Int.toNat 2=2 from rfl]at*);first|(simp_all [firstE];done)|grind [firstE])
         have hE1:chE vm sm s at0 t=8:=by
          unfold chE chG;rw[if_pos hh,hv];show(if firstE [mdE g (chNext g at0 t),if(!chKn vm sm t)=true then 8 else 0]≠0 then firstE [mdE g (chNext g at0 t),if(!chKn vm sm t)=true then 8 else 0]else canL s (chEvs g at0 t))=_;rw[hN,hm,hKn,hkf];simp[firstE]
         have hS1:chS vm sm s at0 t=s:=by unfold chS;rw[if_neg (by rw[hE1];decide)]
         rw[hE1,hS1];refine .ent _ _ (Entails.mk' (ts:= [(6,.d (.int .i64 8))]) (rs:=offO h vm sm s) rq3 rfl rfl ⟨SV.le_int (by clear cX cC cE;clear hc hs hx h3 hm hH;(try simp only[keyE,show Int.toNat 1=1 from rfl,show Int.toNat 2=2 from rfl]at*);first|(simp_all [firstE];done)|grind [firstE]),trivial⟩ ⟨rr,rr,rr,rr,rr,rr,rr,rr,rr,rr,trivial⟩) ?_;refine .ret _ ?_;conv=>whnf
         exact⟨_,⟨rfl,rfl⟩,rr,rr,rr,rr,rr,rr,rr,rr,rr,rr,trivial⟩)
      |skip
     have hG:=hG0 (hKn.trans (by clear hc hs hx h3 hm hH hG0 cX cC cE;(try simp only[keyE,show Int.toNat 1=1 from rfl,show Int.toNat 2=2 from rfl]at*);first|(simp_all [firstE];done)|grind [firstE]))
     refine LoopX.rule hT (C:= []) (ι:=Nat) (fun i=>i≤EV.length∧∀j,j<i→canE s (EV.getD j ev0)=0)
      (fun i=>mkSt [(0,.ptr 1000001 0),(7,.d (.str (t.texts.getD 0 []))),(10,.ptr 10 0),(12,.d (evns EV)),(172,.d (evns EV)),(173,.d (.int .i64 EV.length)),(174,.d (.int .i64 i))] ((10,.cells 85 ((hiF N).map .d))::offR h vm sm s))
      (fun i=>EV.length - i) 0 ⟨by omega,fun j hj=>by omega⟩ ?_ ?_
     · refine Entails.mk' rq5 rfl rfl ⟨lr,lr,lr,(by subst hEVe;exact SV.le_lit rfl rfl),(by subst hEVe;exact SV.le_lit rfl rfl),(by subst hEVe;exact lr),lr,trivial⟩ ⟨rr,rr,rr,rr,rr,rr,rr,rr,rr,rr,rr,trivial⟩
     rintro i ⟨p1,p2⟩;have e1:=tnc i;conv=>whnf
     repeat' ((first|(refine oEx (wCan h vm sm s (EV.getD (i:Int).toNat ev0)) rq1 ?_)|(refine And.intro (by unfold inI64;omega) ?_)|refine br_intro ?_ ?_<;>intro hb<;>try simp only[brs]at hb|refine tAx hT oAOfF130 ?_|omega|refine sAx ?_|decide|assumption)<;>conv=>whnf)
     all_goals first
      |(exact⟨i+1,⟨by omega,first_step p2 (by first|exact hb|simpa using hb)⟩,by omega,Entails.mk' rq5 rfl rfl ⟨lr,lr,lr,lr,lr,lr,lr,trivial⟩ ⟨rr,rr,rr,rr,rr,rr,rr,rr,rr,rr,rr,trivial⟩⟩)
      | (have hE1:chE vm sm s at0 t=canE s (EV.getD i ev0):=hG.trans (firstAt_eq (f:=fun i=>canE s (EV.getD i ev0)) (by omega) p2 hb rfl)
         have hS1:chS vm sm s at0 t=s:=by unfold chS;rw[if_neg (by rw[hE1];exact hb)]
         rw[hE1,hS1];refine .ent _ _ (Entails.mk' (ts:= [(6,.d (.int .i64 (canE s (EV.getD i ev0))))]) (rs:=offO h vm sm s) rq3 rfl rfl ⟨lr,trivial⟩ ⟨rr,rr,rr,rr,rr,rr,rr,rr,rr,rr,trivial⟩) ?_;refine .ret _ ?_;conv=>whnf
         exact⟨_,⟨rfl,rfl⟩,rr,rr,rr,rr,rr,rr,rr,rr,rr,rr,trivial⟩)
      |skip
     have hz:canL s EV=0:=firstAt_zero fun j hj=>p2 j (by omega)
     have hE0:chE vm sm s at0 t=0:=hG.trans hz
     have hS0:chS vm sm s at0 t={sayL s EV with his:=(sayL s EV).his.put (t.texts.getD 0 []) (some N)}:=by
      unfold chS;rw[if_pos hE0,hv];show({sayL s (chEvs g at0 t)with his:=(sayL s (chEvs g at0 t)).his.put (t.texts.getD 0 []) (some (chNext g at0 t))}:Off)=_;rw[hEv,hN,←hEVe,←hNe]
     rw[hE0,hS0]
     refine LoopX.rule hT (C:= []) (ι:=Nat) (fun i=>i≤EV.length)
      (fun i=>mkSt [(0,.ptr 1000001 0),(7,.d (.str (t.texts.getD 0 []))),(10,.ptr 10 0),(185,.d (evns EV)),(186,.d (.int .i64 EV.length)),(187,.d (.int .i64 i))] ((10,.cells 85 ((hiF N).map .d)):: [(1000001,offC60 h),(1000002,mpS false [.str []] sF1 vm),(1000003,mpS false [.bool false] bF1 sm),(1000004,mpS true (ssF ss0) ssF (sayL s (EV.take i)).sts),(60,evB (sayL s (EV.take i)).log),(1000006,atM (sayL s (EV.take i)).ats),(1000007,mpS true (bkF bk0) bkF (sayL s (EV.take i)).bks),(1000008,mpS true (hiO none) hiO (sayL s (EV.take i)).his),(1000010,mpS false [.int .i64 0] iF1 (sayL s (EV.take i)).paid),(1000011,rfB (sayL s (EV.take i)).ref)]))
      (fun i=>EV.length - i) 0 (by omega) ?_ ?_
     · refine Entails.mk' rq6 rfl rfl ⟨lr,lr,lr,lr,lr,lr,trivial⟩ ⟨rr,rr,rr,rr,rr,rr,rr,rr,rr,rr,rr,trivial⟩
     clear p1 p2 e1;rintro i p1;have e1:=tnc i;conv=>whnf
     repeat' ((first|(refine oEx (wSay h vm sm (sayL s (EV.take i)) (EV.getD (i:Int).toNat ev0) (by rw[sayL_log,List.length_append,List.length_take];omega)) rq7 ?_)|(refine And.intro (by unfold inI64;omega) ?_)|refine br_intro ?_ ?_<;>intro hb<;>try simp only[brs]at hb|refine tAx hT oAOfF130 ?_|omega|refine sAx ?_|decide|assumption)<;>conv=>whnf)
     all_goals first
      | (refine⟨i+1,by omega,by omega,?_⟩
         have hT:=sayL_take s EV i (by omega)
         dsimp only
         rw[hT]
         exact Entails.mk' rq8 rfl rfl ⟨lr,lr,lr,lr,lr,lr,trivial⟩ ⟨rr,rr,rr,rr,rr,rr,rr,rr,rr,rr,rr,trivial⟩)
      | (have hi:EV.take i=EV:=List.take_of_length_le (by omega)
         rw[hi];refine .ent _ _ (Entails.mk' (ts:= [(6,.d (.int .i64 0))]) (rs:=offO h vm sm ({sayL s EV with his:=(sayL s EV).his.put (t.texts.getD 0 []) (some N)})) rq4 rfl rfl ⟨lr,trivial⟩ ⟨rr,rr,rr,rr,rr,rr,rr,mpS_put (v:=some N),rr,rr,trivial⟩) ?_;refine .ret _ ?_;conv=>whnf
         exact⟨_,⟨rfl,rfl⟩,rr,rr,rr,rr,rr,rr,rr,rr,rr,rr,trivial⟩)
   · have hH:mdH g (exH g (chIn at0 t) (t.texts.getD 2 []) (chOut at0 t))=hi0:=if_neg hm
     have hE1:chE vm sm s at0 t=mdE g (exH g (chIn at0 t) (t.texts.getD 2 []) (chOut at0 t)):=by
      unfold chE chG;rw[if_pos hh,hv];show(if firstE [mdE g (chNext g at0 t),if(!chKn vm sm t)=true then 8 else 0]≠0 then firstE [mdE g (chNext g at0 t),if(!chKn vm sm t)=true then 8 else 0]else canL s (chEvs g at0 t))=_;rw[hN];generalize mdE g (exH g (chIn at0 t) (t.texts.getD 2 []) (chOut at0 t))=X at hm ⊢;simp[firstE,hm]
     have hS1:chS vm sm s at0 t=s:=by unfold chS;rw[if_neg (by rw[hE1];exact hm)]
     rw[hE1,hS1];rw[hH]at cE;clear hE1 hS1 hH hN;generalize mdE g (exH g (chIn at0 t) (t.texts.getD 2 []) (chOut at0 t))=X at cE hm;refine spAx hT Tryz.func130 Tryz.call130 ?_;conv=>whnf
     repeat' (first|((first|refine pAx cX ?_|refine pAx cC ?_|refine pAx cE ?_)<;>conv=>whnf)|(refine CallX.exact (s107 _ _) rfl rfl ?_;rotate_right;conv=>whnf)|((first|(refine And.intro (rfl:zrow _=some (hiO none)) ?_;refine rowSV_eq (row':=hiF g) (congrArg hiO hv) ?_)|refine And.intro (rfl:zrow _=some (ssF ss0)) ?_|refine And.intro (rfl:zrow _=some [.bool false]) ?_|refine And.intro (rfl:zrow _=some (sF1 [])) ?_|refine And.intro (rfl:zrow _=some [.str []]) ?_|refine And.intro (rfl:zrow _=some (bkF bk0)) ?_|refine And.intro (rfl:zrow _=some (hiO none)) ?_|refine And.intro (rfl:zrow _=some [.int .i64 0]) ?_|refine CallX.pure (s105 [_,_] (by simp)) ⟨SV.le_lit (by rfl) (by rfl),trivial⟩ rfl ?_|refine br_intro ?_ ?_<;>intro hb<;>try simp only[brs]at hb|refine tAx hT oAOfF130 ?_|omega|refine sAx ?_|decide|assumption)<;>conv=>whnf))
     all_goals try(exfalso;contradiction)
     all_goals first
      |(exfalso;have q:s.his.has (t.texts.getD 0 [])=false:=hb;rw[hh]at q;cases q)
      |(exfalso;clear cX cC cE;simp[firstE,hm]at hb;done)
      | (refine .ent _ _ (Entails.mk' (ts:= [(6,.d (.int .i64 X))]) (rs:=offO h vm sm s) rq3 rfl rfl ⟨SV.le_int (by simp[firstE,hm]),trivial⟩ ⟨rr,rr,rr,rr,rr,rr,rr,rr,rr,rr,trivial⟩) ?_
         refine .ret _ ?_;conv=>whnf
         exact⟨_,⟨rfl,rfl⟩,rr,rr,rr,rr,rr,rr,rr,rr,rr,rr,trivial⟩)
def oAOfG94:TL:= [(1,[(0,[]),(1,[]),(7,[0,1]),(2,[0,1,7]),(3,[7]),(4,[7]),(5,[7]),(6,[7,5]),(8,[6]),(9,[])]),(4,[(1,[]),(2,[]),(0,[1,2]),(3,[]),(4,[]),(5,[]),(6,[5]),(7,[6]),(8,[])]),(6,[(0,[]),(1,[]),(2,[0,1]),(3,[0,1]),(4,[0,1]),(5,[0,1]),(6,rg 6),(7,rg 6),(8,rg 6),(9,rg 6),(10,rg 10),(11,[]),(12,rg 12),(13,[])]),(12,[(0,[]),(1,[0]),(2,[0]),(3,[0]),(4,[0]),(5,rg 5),(6,rg 5),(7,rg 5),(8,rg 5),(9,rg 9),(10,rg 9),(11,rg 9),(12,rg 9),(13,rg 13),(14,rg 13),(15,rg 13),(16,rg 13),(17,rg 9),(18,rg 18),(19,rg 18),(20,rg 20),(21,rg 20),(22,rg 20),(23,rg 20),(24,[0]),(25,[]),(26,[])]),(14,[(0,[]),(1,[]),(2,[]),(3,[]),(4,rg 4),(5,rg 4),(6,rg 4),(7,rg 4),(8,[]),(9,[]),(10,[]),(11,[10]),(12,rg 12),(13,[11]),(14,[])]),(17,[(0,[]),(1,[]),(2,[]),(3,[]),(4,rg 4),(5,rg 4),(6,rg 4),(7,rg 4),(8,[])]),(22,[(0,[]),(1,[0]),(2,[0]),(3,[0]),(4,[0]),(5,rg 5),(6,rg 5),(7,rg 5),(8,rg 5),(9,[]),(10,[])])]
structure offOk (s:Off):Prop where
 log:s.log.length≤2^18
 paid:∀k,-2^40≤s.paid.val k∧s.paid.val k≤2^40
 fb:few s.bks.has
 fh:few s.his.has
 non:∀k,s.his.has k=false→s.his.val k=none
 his:∀k,s.his.has k=true→∃g,s.his.val k=some g∧hiL g∧1≤g.legs.length∧g.legs.length<2^19
theorem wFollow0 (h:Hou)(vm:Mp (List UInt8))(sm:Mp Bool)(s:Off)(x:Ent)(hx:x.words.length≤2^20)(hf:∀k,(formsM.val k).length≤2^20)(ht:telOk formsM x.words=false):
 FSpec Tryz.prog 94 [.ptr 1000001 0,.agg ((enF x).map .d)] ((1000009,KX)::offR h vm sm s) (fun y r=>y= .d (.int .i64 9)∧r=(1000009,KX)::offO h vm sm s):=by
 have c1:=wTell formsM hf x.words hx;rw[ht]at c1;refine spAx hT Tryz.func94 Tryz.call94 ?_;conv=>whnf
 repeat' ((first|(refine oEx wForms [(1,20)] ?_)|(refine oEx c1 [(1000001,20),(1000009,1000009)] ?_)|refine br_intro ?_ ?_<;>intro hb<;>try simp only[brs]at hb|refine tAx hT oAOfG94 ?_|omega|refine sAx ?_|decide|assumption)<;>conv=>whnf)
 refine .ent _ _ (Entails.mk' (ts:= [(4,.d (.int .i64 9))]) (rs:=(1000009,KX)::offO h vm sm s) rq9 rfl rfl ⟨lr,trivial⟩ ⟨rr,rr,rr,rr,rr,rr,rr,rr,rr,rr,rr,trivial⟩) ?_;refine .ret _ ?_;conv=>whnf
 exact⟨_,⟨rfl,rfl⟩,rr,rr,rr,rr,rr,rr,rr,rr,rr,rr,rr,trivial⟩
structure tolL (t:Tol):Prop where
 tx:∀j,(t.texts.getD j []).length≤2^20
 nm:∀j,-10^9≤t.nums.getD j 0∧t.nums.getD j 0≤10^9
 ev:kindsM.has t.word=true→2≤t.texts.length
 lv:kindsM.has t.word=true→kindsM.val t.word=6→3≤t.texts.length
 bk:t.word= [98,111,111,107]→2≤t.texts.length∧3≤t.nums.length
 cn:t.word= [99,97,110,99,101,108]→1≤t.texts.length
 st:t.word= [115,116,97,114,116]→4≤t.texts.length∧3≤t.nums.length
 py:t.word= [112,97,121]→1≤t.texts.length∧1≤t.nums.length
 ch:kindsM.has t.word=false→t.word≠ [98,111,111,107]→t.word≠ [99,97,110,99,101,108]→t.word≠ [115,116,97,114,116]→t.word≠ [112,97,121]→1≤t.texts.length∧(t.word= [101,120,116,101,110,100]→1≤t.nums.length)∧(t.word= [99,108,111,115,101]→2≤t.texts.length∧2≤t.nums.length)∧(t.word≠ [101,120,116,101,110,100]→t.word≠ [99,108,111,115,101]→3≤t.texts.length∧4≤t.nums.length)
def evOf (tm:Int)(t:Tol):Evn:=⟨tm,t.texts.getD 0 [],t.texts.getD 1 [],kindsM.val t.word,if kindsM.val t.word=6 then t.texts.getD 2 []else []⟩
theorem wFollowE (h:Hou)(vm:Mp (List UInt8))(sm:Mp Bool)(s:Off)(hs:offOk s)(x:Ent)(hx:x.words.length≤2^20)(hf:∀k,(formsM.val k).length≤2^20)(ht:telOk formsM x.words=true)(t:Tol)(hte:telT formsM x.words=t)(hk:tolL t)(hk1:kindsM.has t.word=true):
 FSpec Tryz.prog 94 [.ptr 1000001 0,.agg ((enF x).map .d)] ((1000009,KX)::offR h vm sm s) (fun y r=>y= .d (.int .i64 (evtE vm sm s (evOf x.tm t)))∧r=(1000009,KX)::offO h vm sm (evtS vm sm s (evOf x.tm t))):=by
 have c1:=wTell formsM hf x.words hx;rw[ht,if_pos rfl,hte]at c1;have h2:=hk.ev hk1;have h3:=hk.lv hk1;have c2:=wEvt h vm sm s (evOf x.tm t) (by have:=hs.log;omega);have hEv:evOf x.tm t=⟨x.tm,t.texts.getD 0 [],t.texts.getD 1 [],kindsM.val t.word,if kindsM.val t.word=6 then t.texts.getD 2 []else []⟩:=rfl;generalize evOf x.tm t=V at c2 hEv ⊢
 by_cases k6:kindsM.val t.word=6
 · rw[if_pos k6]at hEv;have h4:=h3 k6;subst hEv;refine spAx hT Tryz.func94 Tryz.call94 ?_;conv=>whnf
   repeat' ((first|(refine oEx wForms [(1,20)] ?_)|(refine oEx wKinds [(1,30)] ?_)|(refine oEx c1 [(1000001,20),(1000009,1000009)] ?_)|(refine oEx (c2) rq2 ?_)|refine And.intro (rfl:zrow _=some [DV.int .i64 0]) ?_|refine br_intro ?_ ?_<;>intro hb<;>try simp only[brs]at hb|refine tAx hT oAOfG94 ?_|omega|refine sAx ?_|decide|assumption)<;>conv=>whnf)
   all_goals first
    | (exfalso;have q:kindsM.has t.word=false:=by assumption
       rw[hk1]at q;cases q)
    | (exfalso;have q:¬kindsM.val t.word=6:=by assumption
       exact q k6)
    | (exfalso;have q:kindsM.val t.word=6:=by assumption
       exact k6 q)
    | (refine .ent _ _ (Entails.mk' (ts:= [(4,.d (.int .i64 (evtE vm sm s ⟨x.tm,t.texts.getD 0 [],t.texts.getD 1 [],kindsM.val t.word,t.texts.getD 2 []⟩)))]) (rs:=(1000009,KX)::offO h vm sm (evtS vm sm s ⟨x.tm,t.texts.getD 0 [],t.texts.getD 1 [],kindsM.val t.word,t.texts.getD 2 []⟩)) rq10 rfl rfl ⟨lr,trivial⟩ ⟨rr,rr,rr,rr,rr,rr,rr,rr,rr,rr,rr,trivial⟩) ?_
       refine .ret _ ?_;conv=>whnf
       exact⟨_,⟨rfl,rfl⟩,rr,rr,rr,rr,rr,rr,rr,rr,rr,rr,rr,trivial⟩)
 · rw[if_neg k6]at hEv;subst hEv;refine spAx hT Tryz.func94 Tryz.call94 ?_;conv=>whnf
   repeat' ((first|(refine oEx wForms [(1,20)] ?_)|(refine oEx wKinds [(1,30)] ?_)|(refine oEx c1 [(1000001,20),(1000009,1000009)] ?_)|(refine oEx (c2) rq2 ?_)|refine And.intro (rfl:zrow _=some [DV.int .i64 0]) ?_|refine br_intro ?_ ?_<;>intro hb<;>try simp only[brs]at hb|refine tAx hT oAOfG94 ?_|omega|refine sAx ?_|decide|assumption)<;>conv=>whnf)
   all_goals first
    | (exfalso;have q:kindsM.has t.word=false:=by assumption
       rw[hk1]at q;cases q)
    | (exfalso;have q:¬kindsM.val t.word=6:=by assumption
       exact q k6)
    | (exfalso;have q:kindsM.val t.word=6:=by assumption
       exact k6 q)
    | (refine .ent _ _ (Entails.mk' (ts:= [(4,.d (.int .i64 (evtE vm sm s ⟨x.tm,t.texts.getD 0 [],t.texts.getD 1 [],kindsM.val t.word,[]⟩)))]) (rs:=(1000009,KX)::offO h vm sm (evtS vm sm s ⟨x.tm,t.texts.getD 0 [],t.texts.getD 1 [],kindsM.val t.word,[]⟩)) rq10 rfl rfl ⟨lr,trivial⟩ ⟨rr,rr,rr,rr,rr,rr,rr,rr,rr,rr,rr,trivial⟩) ?_
       refine .ret _ ?_;conv=>whnf
       exact⟨_,⟨rfl,rfl⟩,rr,rr,rr,rr,rr,rr,rr,rr,rr,rr,rr,trivial⟩)
def oAOfH94:TL:= [(1,[(0,[]),(1,[]),(7,[0,1]),(2,[0,1,7]),(3,[7]),(4,[7]),(5,[7]),(6,[7,5]),(8,[6]),(9,[])]),(4,[(1,[]),(2,[]),(0,[1,2]),(3,[]),(4,[]),(5,[]),(6,[5]),(7,[6]),(8,[])]),(6,[(0,[]),(1,[]),(2,[0,1]),(3,[0,1]),(4,[0,1]),(5,[0,1]),(6,rg 6),(7,rg 6),(8,rg 6),(9,rg 6),(10,rg 10),(11,[]),(12,rg 12),(13,[])]),(12,[(0,[]),(1,[0]),(2,[0]),(3,[0]),(4,[0]),(5,rg 5),(6,rg 5),(7,rg 5),(8,rg 5),(9,rg 9),(10,rg 9),(11,rg 9),(12,rg 9),(13,rg 13),(14,rg 13),(15,rg 13),(16,rg 13),(17,rg 9),(18,rg 18),(19,rg 18),(20,rg 20),(21,rg 20),(22,rg 20),(23,rg 20),(24,[0]),(25,[]),(26,[])]),(14,[(0,[]),(1,[]),(2,[]),(3,[]),(4,rg 4),(5,rg 4),(6,rg 4),(7,rg 4),(8,[]),(9,[]),(10,[]),(11,[10]),(12,rg 12),(13,[11]),(14,[])]),(17,[(0,[]),(1,[]),(2,[]),(3,[]),(4,rg 4),(5,rg 4),(6,rg 4),(7,rg 4),(8,[])]),(22,[(0,[]),(1,[0]),(2,[0]),(3,[0]),(4,[0]),(5,rg 5),(6,rg 5),(7,rg 5),(8,rg 5),(9,[]),(10,[])])]
theorem wFollowB (h:Hou)(hco:clsOk h.flt.cls)(vm:Mp (List UInt8))(sm:Mp Bool)(s:Off)(hs:offOk s)(x:Ent)(hx:x.words.length≤2^20)(hf:∀k,(formsM.val k).length≤2^20)(ht:telOk formsM x.words=true)(t:Tol)(hte:telT formsM x.words=t)(hk:tolL t)(hk1:kindsM.has t.word=false)(hw:t.word= [98,111,111,107]):
 FSpec Tryz.prog 94 [.ptr 1000001 0,.agg ((enF x).map .d)] ((1000009,KX)::offR h vm sm s) (fun y r=>y= .d (.int .i64 (bookE h s ⟨t.texts.getD 0 [],t.texts.getD 1 [],t.nums.getD 0 0,t.nums.getD 1 0,x.tm,t.nums.getD 2 0⟩))∧r=(1000009,KX)::offO h vm sm (bookS h s ⟨t.texts.getD 0 [],t.texts.getD 1 [],t.nums.getD 0 0,t.nums.getD 1 0,x.tm,t.nums.getD 2 0⟩)):=by
 have c1:=wTell formsM hf x.words hx;rw[ht,if_pos rfl,hte]at c1;obtain⟨l1,l2⟩:=hk.bk hw;have l3:=hk.tx;have c2:=wBook h hco vm sm s ⟨t.texts.getD 0 [],t.texts.getD 1 [],t.nums.getD 0 0,t.nums.getD 1 0,x.tm,t.nums.getD 2 0⟩ (by have:=l3 0;show(t.texts.getD 0 []).length≤_;omega) (by have:=l3 1;show(t.texts.getD 1 []).length≤_;omega) hs.fb;refine spAx hT Tryz.func94 Tryz.call94 ?_;conv=>whnf
 repeat' ((first|(refine oEx wForms [(1,20)] ?_)|(refine oEx wKinds [(1,30)] ?_)|(refine oEx c1 [(1000001,20),(1000009,1000009)] ?_)|refine And.intro (rfl:zrow _=some [DV.int .i64 0]) ?_|(refine oEx (c2) rq2 ?_)|refine br_intro ?_ ?_<;>intro hb<;>try simp only[brs]at hb|refine tAx hT oAOfH94 ?_|omega|refine sAx ?_|decide|assumption)<;>conv=>whnf)
 all_goals try(exfalso;contradiction)
 all_goals try (exfalso;have q:kindsM.has t.word=true:=by assumption
                rw[hk1]at q;cases q)
 all_goals
  refine .ent _ _ (Entails.mk' (ts:= [(4,.d (.int .i64 (bookE h s ⟨t.texts.getD 0 [],t.texts.getD 1 [],t.nums.getD 0 0,t.nums.getD 1 0,x.tm,t.nums.getD 2 0⟩)))]) (rs:=(1000009,KX)::offO h vm sm (bookS h s ⟨t.texts.getD 0 [],t.texts.getD 1 [],t.nums.getD 0 0,t.nums.getD 1 0,x.tm,t.nums.getD 2 0⟩)) rq10 rfl rfl ⟨lr,trivial⟩ ⟨rr,rr,rr,rr,rr,rr,rr,rr,rr,rr,rr,trivial⟩) ?_;refine .ret _ ?_;conv=>whnf
  exact⟨_,⟨rfl,rfl⟩,rr,rr,rr,rr,rr,rr,rr,rr,rr,rr,rr,trivial⟩
theorem wFollowS (h:Hou)(hco:clsOk h.flt.cls)(vm:Mp (List UInt8))(sm:Mp Bool)(s:Off)(hs:offOk s)(x:Ent)(hx:x.words.length≤2^20)(hf:∀k,(formsM.val k).length≤2^20)(ht:telOk formsM x.words=true)(t:Tol)(hte:telT formsM x.words=t)(hk:tolL t)(hk1:kindsM.has t.word=false)(hw:t.word= [115,116,97,114,116])(hw1:¬t.word= [98,111,111,107])(hw2:¬t.word= [99,97,110,99,101,108]):
 FSpec Tryz.prog 94 [.ptr 1000001 0,.agg ((enF x).map .d)] ((1000009,KX)::offR h vm sm s) (fun y r=>y= .d (.int .i64 (stE vm sm s x.tm t))∧r=(1000009,KX)::offO h vm sm (stS vm sm s x.tm t)):=by
 have c1:=wTell formsM hf x.words hx;rw[ht,if_pos rfl,hte]at c1;obtain⟨l1,l2⟩:=hk.st hw;have l3:=hk.tx;have c2:=wSt h vm sm s (by have:=hs.log;omega) x.tm t l1 l2 (fun j=>by have:=l3 j;omega) hs.fh;refine spAx hT Tryz.func94 Tryz.call94 ?_;conv=>whnf
 repeat' ((first|(refine oEx wForms [(1,20)] ?_)|(refine oEx wKinds [(1,30)] ?_)|(refine oEx c1 [(1000001,20),(1000009,1000009)] ?_)|refine And.intro (rfl:zrow _=some [DV.int .i64 0]) ?_|(refine oEx (c2) rq2 ?_)|refine br_intro ?_ ?_<;>intro hb<;>try simp only[brs]at hb|refine tAx hT oAOfH94 ?_|omega|refine sAx ?_|decide|assumption)<;>conv=>whnf)
 all_goals try(exfalso;contradiction)
 all_goals try (exfalso;have q:kindsM.has t.word=true:=by assumption
                rw[hk1]at q;cases q)
 all_goals
  refine .ent _ _ (Entails.mk' (ts:= [(4,.d (.int .i64 (stE vm sm s x.tm t)))]) (rs:=(1000009,KX)::offO h vm sm (stS vm sm s x.tm t)) rq10 rfl rfl ⟨lr,trivial⟩ ⟨rr,rr,rr,rr,rr,rr,rr,rr,rr,rr,rr,trivial⟩) ?_;refine .ret _ ?_;conv=>whnf
  exact⟨_,⟨rfl,rfl⟩,rr,rr,rr,rr,rr,rr,rr,rr,rr,rr,rr,trivial⟩
theorem wFollowP (h:Hou)(hco:clsOk h.flt.cls)(vm:Mp (List UInt8))(sm:Mp Bool)(s:Off)(hs:offOk s)(x:Ent)(hx:x.words.length≤2^20)(hf:∀k,(formsM.val k).length≤2^20)(ht:telOk formsM x.words=true)(t:Tol)(hte:telT formsM x.words=t)(hk:tolL t)(hk1:kindsM.has t.word=false)(hw:t.word= [112,97,121])(hw1:¬t.word= [98,111,111,107])(hw2:¬t.word= [99,97,110,99,101,108])(hw3:¬t.word= [115,116,97,114,116]):
 FSpec Tryz.prog 94 [.ptr 1000001 0,.agg ((enF x).map .d)] ((1000009,KX)::offR h vm sm s) (fun y r=>y= .d (.int .i64 (payE s (t.texts.getD 0 []) (t.nums.getD 0 0)))∧r=(1000009,KX)::offO h vm sm (payS s (t.texts.getD 0 []) (t.nums.getD 0 0))):=by
 have c1:=wTell formsM hf x.words hx;rw[ht,if_pos rfl,hte]at c1;obtain⟨l1,l2⟩:=hk.py hw;have l3:=hk.nm 0;have c2:=wPay h vm sm s (t.texts.getD 0 []) (t.nums.getD 0 0) (by omega) (hs.paid _);refine spAx hT Tryz.func94 Tryz.call94 ?_;conv=>whnf
 repeat' ((first|(refine oEx wForms [(1,20)] ?_)|(refine oEx wKinds [(1,30)] ?_)|(refine oEx c1 [(1000001,20),(1000009,1000009)] ?_)|refine And.intro (rfl:zrow _=some [DV.int .i64 0]) ?_|(refine oEx (c2) rq2 ?_)|refine br_intro ?_ ?_<;>intro hb<;>try simp only[brs]at hb|refine tAx hT oAOfH94 ?_|omega|refine sAx ?_|decide|assumption)<;>conv=>whnf)
 all_goals try(exfalso;contradiction)
 all_goals try (exfalso;have q:kindsM.has t.word=true:=by assumption
                rw[hk1]at q;cases q)
 all_goals
  refine .ent _ _ (Entails.mk' (ts:= [(4,.d (.int .i64 (payE s (t.texts.getD 0 []) (t.nums.getD 0 0))))]) (rs:=(1000009,KX)::offO h vm sm (payS s (t.texts.getD 0 []) (t.nums.getD 0 0))) rq10 rfl rfl ⟨lr,trivial⟩ ⟨rr,rr,rr,rr,rr,rr,rr,rr,rr,rr,rr,trivial⟩) ?_;refine .ret _ ?_;conv=>whnf
  exact⟨_,⟨rfl,rfl⟩,rr,rr,rr,rr,rr,rr,rr,rr,rr,rr,rr,trivial⟩
theorem wFollowC (h:Hou)(hco:clsOk h.flt.cls)(vm:Mp (List UInt8))(sm:Mp Bool)(s:Off)(hs:offOk s)(x:Ent)(hx:x.words.length≤2^20)(hf:∀k,(formsM.val k).length≤2^20)(ht:telOk formsM x.words=true)(t:Tol)(hte:telT formsM x.words=t)(hk:tolL t)(hk1:kindsM.has t.word=false)(hw:t.word= [99,97,110,99,101,108])(hw1:¬t.word= [98,111,111,107]):
 FSpec Tryz.prog 94 [.ptr 1000001 0,.agg ((enF x).map .d)] ((1000009,KX)::offR h vm sm s) (fun y r=>y= .d (.int .i64 (if s.bks.has (t.texts.getD 0 [])then 0 else 8))∧r=(1000009,KX)::offO h vm sm (if s.bks.has (t.texts.getD 0 [])then{s with bks:=s.bks.del (t.texts.getD 0 []) bk0}else s)):=by
 have c1:=wTell formsM hf x.words hx;rw[ht,if_pos rfl,hte]at c1;have l1:=hk.cn hw;refine spAx hT Tryz.func94 Tryz.call94 ?_;conv=>whnf
 repeat' ((first|(refine oEx wForms [(1,20)] ?_)|(refine oEx wKinds [(1,30)] ?_)|(refine oEx c1 [(1000001,20),(1000009,1000009)] ?_)|refine And.intro (rfl:zrow _=some [DV.int .i64 0]) ?_|refine And.intro (rfl:zrow _=some (bkF bk0)) ?_|refine br_intro ?_ ?_<;>intro hb<;>try simp only[brs]at hb|refine tAx hT oAOfH94 ?_|omega|refine sAx ?_|decide|assumption)<;>conv=>whnf)
 all_goals try(exfalso;contradiction)
 all_goals try (exfalso;have q:kindsM.has t.word=true:=by assumption
                rw[hk1]at q;cases q)
 all_goals first
  | (have q:s.bks.has (t.texts.getD 0 [])=false:=by first|exact hb|assumption
     have e1:(if s.bks.has (t.texts.getD 0 [])then(0:Int)else 8)=8:=by rw[q];rfl
     have e2:(if s.bks.has (t.texts.getD 0 [])then{s with bks:=s.bks.del (t.texts.getD 0 []) bk0}else s:Off)=s:=by rw[q];rfl
     rw[e1,e2];refine .ent _ _ (Entails.mk' (ts:= [(4,.d (.int .i64 (8)))]) (rs:=(1000009,KX)::offO h vm sm (s)) rq9 rfl rfl ⟨lr,trivial⟩ ⟨rr,rr,rr,rr,rr,rr,rr,rr,rr,rr,rr,trivial⟩) ?_;refine .ret _ ?_;conv=>whnf
     exact⟨_,⟨rfl,rfl⟩,rr,rr,rr,rr,rr,rr,rr,rr,rr,rr,rr,trivial⟩)
  | (have q:s.bks.has (t.texts.getD 0 [])=true:=by first|exact hb|assumption
     have e1:(if s.bks.has (t.texts.getD 0 [])then(0:Int)else 8)=0:=by rw[q];rfl
     have e2:(if s.bks.has (t.texts.getD 0 [])then{s with bks:=s.bks.del (t.texts.getD 0 []) bk0}else s:Off)={s with bks:=s.bks.del (t.texts.getD 0 []) bk0}:=by rw[q];rfl
     rw[e1,e2];refine .ent _ _ (Entails.mk' (ts:= [(4,.d (.int .i64 (0)))]) (rs:=(1000009,KX)::offO h vm sm ({s with bks:=s.bks.del (t.texts.getD 0 []) bk0})) rq9 rfl rfl ⟨lr,trivial⟩ ⟨rr,rr,rr,rr,rr,rr,rr,mpS_del,rr,rr,rr,trivial⟩) ?_;refine .ret _ ?_;conv=>whnf
     exact⟨_,⟨rfl,rfl⟩,rr,rr,rr,rr,rr,rr,rr,rr,rr,rr,rr,trivial⟩)
def oAOfI130:TL:= [(19,[(0,[]),(1,[0]),(2,[0]),(3,[0]),(4,[0]),(5,[]),(6,[]),(7,[]),(8,[7]),(9,[8]),(10,[])]),(22,[(0,[]),(1,[0]),(2,[0,1]),(3,[0,1,2]),(4,[0,1,2]),(5,[0,1,2]),(6,[0,1,2]),(7,rg 7),(8,rg 7),(9,rg 7),(10,rg 7),(11,[0]),(12,[]),(13,[]),(14,[]),(15,[14]),(16,[15]),(17,[])]),(11,[(0,[]),(1,[]),(2,[]),(3,[]),(4,rg 4),(5,rg 4),(6,rg 4),(7,rg 4),(8,[4,5,6,7]),(9,[])]),(12,[(0,[]),(1,[0]),(2,[0,1]),(3,[0,1]),(4,[0,1]),(5,[0,1]),(6,rg 6),(7,rg 6),(8,rg 6),(9,rg 6),(10,[]),(11,rg 11),(12,[])]),(13,[(0,[]),(1,[0]),(2,[0,1]),(3,[0,1]),(4,[0,1]),(5,[0,1]),(6,rg 6),(7,rg 6),(8,rg 6),(9,rg 6),(10,[]),(11,rg 11),(12,[])]),(40,[(0,[]),(1,[]),(2,[]),(3,[]),(4,rg 4),(5,rg 5),(6,[])])]
def oAOfI94:TL:= [(1,[(0,[]),(1,[]),(7,[0,1]),(2,[0,1,7]),(3,[7]),(4,[7]),(5,[7]),(6,[7,5]),(8,[6]),(9,[])]),(4,[(1,[]),(2,[]),(0,[1,2]),(3,[]),(4,[]),(5,[]),(6,[5]),(7,[6]),(8,[])]),(6,[(0,[]),(1,[]),(2,[0,1]),(3,[0,1]),(4,[0,1]),(5,[0,1]),(6,rg 6),(7,rg 6),(8,rg 6),(9,rg 6),(10,rg 10),(11,[]),(12,rg 12),(13,[])]),(12,[(0,[]),(1,[0]),(2,[0]),(3,[0]),(4,[0]),(5,rg 5),(6,rg 5),(7,rg 5),(8,rg 5),(9,rg 9),(10,rg 9),(11,rg 9),(12,rg 9),(13,rg 13),(14,rg 13),(15,rg 13),(16,rg 13),(17,rg 9),(18,rg 18),(19,rg 18),(20,rg 20),(21,rg 20),(22,rg 20),(23,rg 20),(24,[0]),(25,[]),(26,[])]),(14,[(0,[]),(1,[]),(2,[]),(3,[]),(4,rg 4),(5,rg 4),(6,rg 4),(7,rg 4),(8,[]),(9,[]),(10,[]),(11,[10]),(12,rg 12),(13,[11]),(14,[])]),(17,[(0,[]),(1,[]),(2,[]),(3,[]),(4,rg 4),(5,rg 4),(6,rg 4),(7,rg 4),(8,[])]),(22,[(0,[]),(1,[0]),(2,[0]),(3,[0]),(4,[0]),(5,rg 5),(6,rg 5),(7,rg 5),(8,rg 5),(9,[]),(10,[])])]
theorem wChange0 (h:Hou)(vm:Mp (List UInt8))(sm:Mp Bool)(s:Off)(at0:Int)(t:Tol)(h1:1≤t.texts.length)(hh:s.his.has (t.texts.getD 0 [])=false)(hv:s.his.val (t.texts.getD 0 [])=none):
 FSpec Tryz.prog 130 [.ptr 1000001 0,.d (.int .i64 at0),.agg ((tolF t).map .d)] (offR h vm sm s) (fun y r=>y= .d (.int .i64 (chE vm sm s at0 t))∧r=offO h vm sm (chS vm sm s at0 t)):=by
 have e1:chE vm sm s at0 t=8:=by unfold chE;rw[hh];rfl
 have e2:chS vm sm s at0 t=s:=by unfold chS;rw[if_neg (by rw[e1];decide)]
 rw[e1,e2];refine spAx hT Tryz.func130 Tryz.call130 ?_;conv=>whnf
 repeat' ((first|(refine And.intro (rfl:zrow _=some (hiO none)) ?_;refine rowSV_eq (row':=hiO none) (congrArg hiO hv) ?_)|refine br_intro ?_ ?_<;>intro hb<;>try simp only[brs]at hb|refine tAx hT oAOfI130 ?_|omega|refine sAx ?_|decide|assumption)<;>conv=>whnf)
 all_goals first
  | (exfalso;have q:s.his.has (t.texts.getD 0 [])=true:=hb
     rw[hh]at q;cases q)
  | (refine .ent _ _ (Entails.mk' (ts:= [(6,.d (.int .i64 8))]) (rs:=offO h vm sm s) rq3 rfl rfl ⟨lr,trivial⟩ ⟨rr,rr,rr,rr,rr,rr,rr,rr,rr,rr,trivial⟩) ?_
     refine .ret _ ?_;conv=>whnf
     exact⟨_,⟨rfl,rfl⟩,rr,rr,rr,rr,rr,rr,rr,rr,rr,rr,trivial⟩)
theorem wFollowX (h:Hou)(hco:clsOk h.flt.cls)(vm:Mp (List UInt8))(sm:Mp Bool)(s:Off)(hs:offOk s)(x:Ent)(hx:x.words.length≤2^20)(hf:∀k,(formsM.val k).length≤2^20)(ht:telOk formsM x.words=true)(t:Tol)(hte:telT formsM x.words=t)(hk:tolL t)(hk1:kindsM.has t.word=false)(hw:t.word≠ [98,111,111,107])(hw1:t.word≠ [99,97,110,99,101,108])(hw2:t.word≠ [115,116,97,114,116])(hw3:t.word≠ [112,97,121]):
 FSpec Tryz.prog 94 [.ptr 1000001 0,.agg ((enF x).map .d)] ((1000009,KX)::offR h vm sm s) (fun y r=>y= .d (.int .i64 (chE vm sm s x.tm t))∧r=(1000009,KX)::offO h vm sm (chS vm sm s x.tm t)):=by
 have c1:=wTell formsM hf x.words hx;rw[ht,if_pos rfl,hte]at c1;obtain⟨l1,l2,l3,l4⟩:=hk.ch hk1 hw hw1 hw2 hw3;have l5:=hk.tx;have hlg:=hs.log
 have c2:FSpec Tryz.prog 130 [.ptr 1000001 0,.d (.int .i64 x.tm),.agg ((tolF t).map .d)] (offR h vm sm s) (fun y r=>y= .d (.int .i64 (chE vm sm s x.tm t))∧r=offO h vm sm (chS vm sm s x.tm t)):=by
  cases hh:s.his.has (t.texts.getD 0 [])with
  |false=>exact wChange0 h vm sm s x.tm t l1 hh (hs.non _ hh)
  | true=>
    obtain⟨g,g1,g2,g3,g4⟩:=hs.his _ hh;exact wChange h vm sm s (by omega) x.tm t l1 l2 l3 l4 (fun j=>by have:=l5 j;omega) g hh g1 g2 g3 g4
 refine spAx hT Tryz.func94 Tryz.call94 ?_;conv=>whnf
 repeat' ((first|(refine oEx wForms [(1,20)] ?_)|(refine oEx wKinds [(1,30)] ?_)|(refine oEx c1 [(1000001,20),(1000009,1000009)] ?_)|refine And.intro (rfl:zrow _=some [DV.int .i64 0]) ?_|(refine oEx (c2) rq2 ?_)|refine br_intro ?_ ?_<;>intro hb<;>try simp only[brs]at hb|refine tAx hT oAOfI94 ?_|omega|refine sAx ?_|decide|assumption)<;>conv=>whnf)
 all_goals try(exfalso;contradiction)
 all_goals try (exfalso;have q:kindsM.has t.word=true:=by assumption
                rw[hk1]at q;cases q)
 all_goals
  refine .ent _ _ (Entails.mk' (ts:= [(4,.d (.int .i64 (chE vm sm s x.tm t)))]) (rs:=(1000009,KX)::offO h vm sm (chS vm sm s x.tm t)) rq10 rfl rfl ⟨lr,trivial⟩ ⟨rr,rr,rr,rr,rr,rr,rr,rr,rr,rr,rr,trivial⟩) ?_;refine .ret _ ?_;conv=>whnf
  exact⟨_,⟨rfl,rfl⟩,rr,rr,rr,rr,rr,rr,rr,rr,rr,rr,rr,trivial⟩
def cT (f:List UInt8):Nat→Nat
 |0=>0
 |i+1=>if f.getD i 0=119 then cT f i+1 else cT f i
def cN (f:List UInt8):Nat→Nat
 |0=>0
 |i+1=>if f.getD i 0=119 then cN f i else cN f i+1
theorem txF_c (f:List UInt8)(w:List (List UInt8)):∀i,(txF f w i).length=cT f i
 |0=>rfl
 | i+1=>by
   have:=txF_c f w i;unfold txF cT;split
   · rw[List.length_append,List.length_singleton,this]
   · exact this
theorem nmF_c (f:List UInt8)(w:List (List UInt8)):∀i,(nmF f w i).length=cN f i
 |0=>rfl
 | i+1=>by
   have:=nmF_c f w i;unfold nmF cN;split
   · exact this
   · rw[List.length_append,List.length_singleton,this]
theorem txF_mem (f:List UInt8)(w:List (List UInt8)){B:Nat}(h:∀j,(w.getD j []).length≤B):∀i,∀x ∈ txF f w i,x.length≤B
 |0=>fun x hx=>by cases hx
 | i +1=>fun x hx=>by
   unfold txF at hx;split at hx
   · rcases List.mem_append.1 hx with q|q
     · exact txF_mem f w h i x q
     · rw[List.mem_singleton]at q;subst q;exact h i
   · exact txF_mem f w h i x hx
theorem nmF_mem (f:List UInt8)(w:List (List UInt8)):∀i,(∀j,j<i→(f.getD j 0=119∨numOk (w.getD j [])=true))→∀n ∈ nmF f w i,-10^9≤n∧n≤10^9
 |0=>fun _ x hx=>by cases hx
 | i + 1=>fun h x hx=>by
   unfold nmF at hx;split at hx
   · exact nmF_mem f w i (fun j hj=>h j (by omega)) x hx
   · rename_i hc;rcases List.mem_append.1 hx with q|q
     · exact nmF_mem f w i (fun j hj=>h j (by omega)) x q
     · rw[List.mem_singleton]at q;subst q;rcases h i (by omega)with r|r
       · exact absurd r hc
       · exact numN_bd r
def wordsF:List (List UInt8):= [[101,110,116,101,114],[115,104,111,112],[100,111,110,101],[99,111,109,101],[103,111,110,101],[108,101,97,118,101],[98,111,111,107],[99,97,110,99,101,108],[115,116,97,114,116],[115,119,97,112],[101,120,116,101,110,100],[99,108,111,115,101],[112,97,121]]
theorem formsM_mem {s:List UInt8}(h:formsM.has s=true):s ∈ wordsF:=by
 have h':(decide (s= [112,97,121])||formsM.has s)=true:=by rw[h];simp
 simp only[formsM,Mp.put,Mp.nil,Bool.or_eq_true,decide_eq_true_eq,Bool.false_eq_true,or_false]at h;unfold wordsF;simp only[List.mem_cons,List.not_mem_nil,or_false];grind
theorem put_len {m:Mp (List UInt8)}{x v:List UInt8}{B:Nat}(h:∀k,(m.val k).length≤B)(hv:v.length≤B):∀k,((m.put x v).val k).length≤B:=fun k=>by
 show(if k=x then v else m.val k).length≤B;split
 · exact hv
 · exact h k
theorem formsM_len:∀s:List UInt8,(formsM.val s).length≤2^20:=by
 unfold formsM
 repeat (refine put_len ?_ (by simp))
 intro k;simp[Mp.nil]
def frmOk (k:List UInt8):Bool:=
 let c:=cT (formsM.val k) (formsM.val k).length
 let n:=cN (formsM.val k) (formsM.val k).length
 (!kindsM.has k||decide (2≤c))&&(!(kindsM.has k&&decide (kindsM.val k=6))||decide (3≤c))&&(!decide (k= [98,111,111,107])||decide (2≤c∧3≤n))&&(!decide (k= [99,97,110,99,101,108])||decide (1≤c))&&(!decide (k= [115,116,97,114,116])||decide (4≤c∧3≤n))&&(!decide (k= [112,97,121])||decide (1≤c∧1≤n))
 &&(kindsM.has k||decide (k= [98,111,111,107])||decide (k= [99,97,110,99,101,108])||decide (k= [115,116,97,114,116])||decide (k= [112,97,121])||(decide (1≤c)&&(!decide (k= [101,120,116,101,110,100])||decide (1≤n))&&(!decide (k= [99,108,111,115,101])||decide (2≤c∧2≤n))&&(decide (k= [101,120,116,101,110,100])||decide (k= [99,108,111,115,101])||decide (3≤c∧4≤n))))
theorem frm_all:wordsF.all frmOk=true:=by decide+kernel
theorem getD_all {α:Type}{l:List α}{d:α}{P:α→Prop}(h:∀x ∈ l,P x)(hd:P d)(j:Nat):P (l.getD j d):=by
 by_cases q:j<l.length
 · rw[List.getD_eq_getElem?_getD,List.getElem?_eq_getElem q];exact h _ (List.getElem_mem q)
 · rw[List.getD_eq_getElem?_getD,List.getElem?_eq_none (by omega)];exact hd
theorem telT_ok {w:List UInt8}(hw:w.length≤2^20)(h:telOk formsM w=true):tolL (telT formsM w):=by
 unfold telOk at h;simp only[Bool.and_eq_true,decide_eq_true_eq]at h;obtain⟨h1,h2,h3,h4⟩:=h;have hmem:∀x ∈ Lib.split w [32],x.length≤w.length:=fun x hx=>split_mem hx
 have hF:=List.all_eq_true.1 frm_all _ (formsM_mem h2);have hN:=of_decide_eq_true h4;obtain⟨k,hk⟩:∃k,k=telW (Lib.split w [32]):=⟨_,rfl⟩;obtain⟨W1,hW1⟩:∃W1,W1=(Lib.split w [32]).drop 1:=⟨_,rfl⟩;have hl:W1.length=(formsM.val k).length:=by rw[hW1,List.length_drop,hk];omega
 have hb:∀j,(W1.getD j []).length≤2^20:=getD_all (l:=W1) (d:= []) (P:=fun(x:List UInt8)=>x.length≤2^20) (fun x hx=>by rw[hW1]at hx;have:=hmem x (List.mem_of_mem_drop hx);omega) (by simp);unfold telT;rw[←hk]at hF hN ⊢;rw[←hW1]at hN ⊢;rw[hl];rw[hl]at hN;have t1:(txF (formsM.val k) W1 (formsM.val k).length).length=cT (formsM.val k) (formsM.val k).length:=txF_c _ _ _;have t2:(nmF (formsM.val k) W1 (formsM.val k).length).length=cN (formsM.val k) (formsM.val k).length:=nmF_c _ _ _;unfold frmOk at hF;simp only at hF;rw[←t1,←t2]at hF;have m1:=txF_mem (formsM.val k) W1 hb (formsM.val k).length;have m2:=nmF_mem (formsM.val k) W1 (formsM.val k).length (fun j hj=>hN j (by omega));generalize txF (formsM.val k) W1 (formsM.val k).length=X at hF m1 ⊢;generalize nmF (formsM.val k) W1 (formsM.val k).length=Y at hF m2 ⊢;refine⟨getD_all m1 (by simp),getD_all m2 (by decide),?_,?_,?_,?_,?_,?_,?_⟩;all_goals (dsimp only;clear m1 m2 t1 t2 hN hb hmem h2 h3 h4;simp only[Bool.and_eq_true,Bool.or_eq_true,Bool.not_eq_true',decide_eq_true_eq,Bool.and_eq_false_iff,decide_eq_false_iff_not]at hF;grind)
def folE (h:Hou)(vm:Mp (List UInt8))(sm:Mp Bool)(s:Off)(x:Ent):Int:=
 if telOk formsM x.words=false then 9
 else if kindsM.has (telT formsM x.words).word=true then evtE vm sm s (evOf x.tm (telT formsM x.words))
 else if(telT formsM x.words).word= [98,111,111,107]then bookE h s ⟨(telT formsM x.words).texts.getD 0 [],(telT formsM x.words).texts.getD 1 [],(telT formsM x.words).nums.getD 0 0,(telT formsM x.words).nums.getD 1 0,x.tm,(telT formsM x.words).nums.getD 2 0⟩
 else if(telT formsM x.words).word= [99,97,110,99,101,108]then(if s.bks.has ((telT formsM x.words).texts.getD 0 [])then 0 else 8)
 else if(telT formsM x.words).word= [115,116,97,114,116]then stE vm sm s x.tm (telT formsM x.words)
 else if(telT formsM x.words).word= [112,97,121]then payE s ((telT formsM x.words).texts.getD 0 []) ((telT formsM x.words).nums.getD 0 0)
 else chE vm sm s x.tm (telT formsM x.words)
def folO (h:Hou)(vm:Mp (List UInt8))(sm:Mp Bool)(s:Off)(x:Ent):Off:=
 if telOk formsM x.words=false then s
 else if kindsM.has (telT formsM x.words).word=true then evtS vm sm s (evOf x.tm (telT formsM x.words))
 else if(telT formsM x.words).word= [98,111,111,107]then bookS h s ⟨(telT formsM x.words).texts.getD 0 [],(telT formsM x.words).texts.getD 1 [],(telT formsM x.words).nums.getD 0 0,(telT formsM x.words).nums.getD 1 0,x.tm,(telT formsM x.words).nums.getD 2 0⟩
 else if(telT formsM x.words).word= [99,97,110,99,101,108]then(if s.bks.has ((telT formsM x.words).texts.getD 0 [])then{s with bks:=s.bks.del ((telT formsM x.words).texts.getD 0 []) bk0}else s)
 else if(telT formsM x.words).word= [115,116,97,114,116]then stS vm sm s x.tm (telT formsM x.words)
 else if(telT formsM x.words).word= [112,97,121]then payS s ((telT formsM x.words).texts.getD 0 []) ((telT formsM x.words).nums.getD 0 0)
 else chS vm sm s x.tm (telT formsM x.words)
theorem wFollow (h:Hou)(hco:clsOk h.flt.cls)(vm:Mp (List UInt8))(sm:Mp Bool)(s:Off)(hs:offOk s)(x:Ent)(hx:x.words.length≤2^20):
 FSpec Tryz.prog 94 [.ptr 1000001 0,.agg ((enF x).map .d)] ((1000009,KX)::offR h vm sm s) (fun y r=>y= .d (.int .i64 (folE h vm sm s x))∧r=(1000009,KX)::offO h vm sm (folO h vm sm s x)):=by
 unfold folE folO
 cases ht:telOk formsM x.words with
 |false=>rw[if_pos (show false=false from rfl),if_pos (show false=false from rfl)];exact wFollow0 h vm sm s x hx formsM_len ht
 | true=>
   have hk:=telT_ok hx ht;rw[if_neg (show ¬ (true=false)by simp),if_neg (show ¬ (true=false)by simp)]
   by_cases q:kindsM.has (telT formsM x.words).word=true
   · rw[if_pos q,if_pos q];exact wFollowE h vm sm s hs x hx formsM_len ht _ rfl hk q
   have q':kindsM.has (telT formsM x.words).word=false:=by simpa using q
   rw[if_neg q,if_neg q]
   by_cases q1:(telT formsM x.words).word= [98,111,111,107]
   · rw[if_pos q1,if_pos q1];exact wFollowB h hco vm sm s hs x hx formsM_len ht _ rfl hk q' q1
   rw[if_neg q1,if_neg q1]
   by_cases q2:(telT formsM x.words).word= [99,97,110,99,101,108]
   · rw[if_pos q2,if_pos q2];exact wFollowC h hco vm sm s hs x hx formsM_len ht _ rfl hk q' q2 q1
   rw[if_neg q2,if_neg q2]
   by_cases q3:(telT formsM x.words).word= [115,116,97,114,116]
   · rw[if_pos q3,if_pos q3];exact wFollowS h hco vm sm s hs x hx formsM_len ht _ rfl hk q' q3 q1 q2
   rw[if_neg q3,if_neg q3]
   by_cases q4:(telT formsM x.words).word= [112,97,121]
   · rw[if_pos q4,if_pos q4];exact wFollowP h hco vm sm s hs x hx formsM_len ht _ rfl hk q' q4 q1 q2 q3
   rw[if_neg q4,if_neg q4];exact wFollowX h hco vm sm s hs x hx formsM_len ht _ rfl hk q' q1 q2 q3 q4
theorem fol_same {h:Hou}{vm:Mp (List UInt8)}{sm:Mp Bool}{s:Off}{x:Ent}(e:folE h vm sm s x≠0):folO h vm sm s x=s:=by
 unfold folE at e;unfold folO;split
 · rfl
 rename_i c0;rw[if_neg c0]at e;split
 · rename_i c;rw[if_pos c]at e;unfold evtS;rw[if_neg e]
 rename_i c1;rw[if_neg c1]at e;split
 · rename_i c;rw[if_pos c]at e;unfold bookS;rw[if_neg e]
 rename_i c2;rw[if_neg c2]at e;split
 · rename_i c;rw[if_pos c]at e;split
   · rename_i d;rw[if_pos d]at e;exact absurd rfl e
   · rfl
 rename_i c3;rw[if_neg c3]at e;split
 · rename_i c;rw[if_pos c]at e;unfold stS;rw[if_neg e]
 rename_i c4;rw[if_neg c4]at e;split
 · rename_i c;rw[if_pos c]at e;unfold payS;rw[if_neg e]
 rename_i c5;rw[if_neg c5]at e;unfold chS;rw[if_neg e]
variable (h:Hou) (vm:Mp (List UInt8)) (sm:Mp Bool)
def runC (s:Off)(l:List Ent):Off:=l.foldl (folO h vm sm) s
def refC:Off→Nat→List Ent→List Rfs
 |_,_,[]=> []
 |s,i,x::l=>if folE h vm sm s x=0 then refC (folO h vm sm s x) (i+1) l else⟨i,folE h vm sm s x⟩::refC s (i+1) l
theorem sayL_ref (s:Off)(r:List Rfs)(l:List Evn):sayL {s with ref:=r} l={sayL s l with ref:=r}:=by
 unfold sayL
 induction l generalizing s with
 |nil=>rfl
 | cons x l ih=>
   rw[List.foldl_cons,List.foldl_cons];exact ih (sayS s x)
theorem folE_ref (s:Off)(r:List Rfs)(x:Ent):folE h vm sm {s with ref:=r} x=folE h vm sm s x:=rfl
end Go.Proofs.YtghhghijalcdfaaGreatDoor
