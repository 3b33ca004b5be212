/- TopHousesTell is proved: for every input the law returns true, and its argument reads afterwards as it read before. Conditions: those of the given row alone. -/
import Derived.Test.YtkokpbpililcdaaGreatDoorThConTwo
import Derived.Test.YtkokpbpililcdaaGreatDoorThConOne
import Derived.Test.YtkokpbpililcdaaGreatDoorThEngTwo
set_option linter.unusedVariables false
set_option linter.unusedSimpArgs false
set_option maxRecDepth 20000
namespace Go.Proofs.YtkokpbpililcdaaGreatDoor
open Go Go.Eng
theorem mA {s:List UInt8}(h:aE s=true):(∀c ∈ s,45≤c.toNat)∧s≠ []∧s.length≤40:=by
 simp only[aE,Bool.and_eq_true,Bool.not_eq_true',decide_eq_true_eq,List.all_eq_true]at h;refine⟨fun c hc=> ?_,fun e=> ?_,h.2⟩
 · obtain⟨j,hj,rfl⟩:=a8 (d:=0) hc;have:=ql.1 (h.1.1 j (List.mem_range.2 hj));omega
 · rw[e]at h;simp at h
theorem xZ {s:List UInt8}{c:UInt8}{k:Nat}(h:∀x ∈ s,k≤x.toNat)(hc:c.toNat<k):c ∉ s:=fun hm=>by have:=h c hm;omega
theorem oX {c:UInt8}:∀ (ws:List (List UInt8)) (rest:List UInt8),(∀w ∈ ws,c ∉ w)→Lib.splitK [c] 0 ws.length (Lib.join (ws++ [rest]) [c])=ws++ [rest]
 | [],rest,_=>by simp[Lib.splitK,Lib.join_one]
 | x::r,rest,h=>by
   have ih:=oX r rest (fun w hw=>h w (List.mem_cons_of_mem _ hw));obtain⟨y,r',e⟩:∃y r',r++ [rest]=y::r':=List.exists_cons_of_ne_nil (by simp);rw[List.cons_append,e,gT,List.append_assoc,List.singleton_append,List.length_cons];rw[e]at ih;unfold Lib.splitK;rw[NP (h x (by simp))];have e2:(x++c::Lib.join (y::r') [c]).drop (x.length+1)=Lib.join (y::r') [c]:=by simp
   have q:¬ ((x.length:Int)== -1)=true:=by simp
   rw[if_neg q];simp only[Int.toNat_natCast,Nat.add_zero,List.length_singleton,e2,ih,List.take_left]
theorem Fd {α:Type}{pf:α→List jO}:∀ (l:List α),l.length≤(bV pf l).length
 | []=>by simp
 | x::r=>by
   have:=Fd (pf:=pf) r;simp only[bV,qB,List.map_cons,List.flatten_cons,List.length_append,List.length_cons,List.length_nil]at this ⊢;omega
theorem oy {α:Type}{pf:α→List jO}{B:Nat}:∀ (l:List α),(∀p ∈ l,(qB (pf p)).length≤B)→(bV pf l).length≤l.length*B
 | [],_=>by simp[bV]
 | x::r,h=>by
   have h1:=oy (pf:=pf) r (fun p hp=>h p (List.mem_cons_of_mem _ hp));have h2:=h x List.mem_cons_self;simp only[bV,List.map_cons,List.flatten_cons,List.length_append,List.length_cons]at h1 ⊢;rw[Nat.add_mul,Nat.one_mul];omega
theorem zS {α:Type}{tk:List UInt8→List α→Bool×List α}{fe:List α→Int}{pf:α→List jO}{l:List α}(hE:fe l=0)(hs:(bV pf l).length≤200000)
 (h1:∀p ∈ l,(10:UInt8) ∉ Lib.join ((pf p).map bJ) [32])(h2:∀p ∈ l,∀m,tk (Lib.join ((pf p).map bJ) [32]) m=(true,m++ [p])):rA tk fe (bV pf l)=(l,0,0):=by
 unfold rA;rw[sb (tk:=tk) (pf:=pf) (Q:=fun p=>p ∈ l) (fun p hp=>h1 p hp) (fun p m hp=>h2 p hp m) l ((bV pf l).length+1) 0 [] (fun p hp=>hp) (by have:=Fd (pf:=pf) l;omega)];rw[show decide (200000<(bV pf l).length)=false by simp;omega];simp[hE]
theorem rT {l:List bv}(h:dZ l=0){p:bv}(hp:p ∈ l):lc p=0:=by
 unfold dZ at h
 by_cases q:1000<l.length
 · rw[if_pos q]at h;exact absurd h (by decide)
 rw[if_neg q]at h;obtain⟨j,hj,rfl⟩:=a8 (d:=cW) hp;have:=bG h j hj;unfold qx at this
 by_cases c:lc (l.getD j cW)=0
 · exact c
 · rw[if_pos c]at this;exact absurd this c
theorem mP {p:bv}(h:lc p=0):(0≤p.tm∧p.tm≤5761439)∧aE p.desk=true∧(1≤p.no∧p.no≤1000000)∧(1≤p.words.length∧p.words.length≤200)∧I7 p.words=true:=by
 unfold lc at h
 by_cases c1:0≤p.tm∧p.tm≤5761439
 case neg=>rw[if_pos c1]at h;exact absurd h (by decide)
 rw[if_neg (fun q=>q c1)]at h
 by_cases c2:aE p.desk=false
 · rw[if_pos c2]at h;exact absurd h (by decide)
 rw[if_neg c2]at h
 by_cases c3:1≤p.no∧p.no≤1000000
 case neg=>rw[if_pos c3]at h;exact absurd h (by decide)
 rw[if_neg (fun q=>q c3)]at h
 by_cases c4:1≤p.words.length∧p.words.length≤200
 case neg=>rw[if_pos c4]at h;exact absurd h (by decide)
 rw[if_neg (fun q=>q c4)]at h
 by_cases c5:I7 p.words=false
 · rw[if_pos c5]at h;exact absurd h (by decide)
 exact⟨c1,by simpa using c2,c3,c4,by simpa using c5⟩
theorem LM {p:bv}(h:lc p=0)(l:List bv):g7 (Lib.join ((fV p).map bJ) [32]) l=(true,l++ [p]):=by
 obtain⟨h1,h2,h3,h4,h5⟩:=mP h;obtain⟨k1,k2,k3⟩:=mA h2;have e:(fV p).map bJ= [Lib.itoa p.tm,p.desk,Lib.itoa p.no]++ [p.words]:=rfl;have hw:p.words≠ []:=fun q=>by rw[q]at h4;simp at h4
 have i1:1≤(Lib.itoa p.tm).length:=List.length_pos_iff.2 (gU _);have i2:1≤(Lib.itoa p.no).length:=List.length_pos_iff.2 (gU _)
 have hs:Lib.splitN (Lib.join ((fV p).map bJ) [32]) [32] 4= [Lib.itoa p.tm,p.desk,Lib.itoa p.no,p.words]:=by
  rw[e]
  have hl:3≤(Lib.join ([Lib.itoa p.tm,p.desk,Lib.itoa p.no]++ [p.words]) [32]).length:=by
   simp only[List.cons_append,List.nil_append,gT,List.length_append,List.length_cons];omega
  unfold Lib.splitN;rw[show min 4 ((Lib.join ([Lib.itoa p.tm,p.desk,Lib.itoa p.no]++ [p.words]) [32]).length+1) - 1=3 by omega]
  exact oX [Lib.itoa p.tm,p.desk,Lib.itoa p.no] p.words (by
   intro w hw;simp only[List.mem_cons,List.not_mem_nil,or_false]at hw;rcases hw with rfl|rfl|rfl
   · exact xi _
   · exact xZ k1 (by decide)
   · exact xi _)
 have n1:=gk (n:=p.tm) (by omega) (by omega);have n2:=gk (n:=p.no) (by omega) (by omega);unfold g7 tG gf;rw[hs];simp only[List.length_cons,List.length_nil,List.getD_cons_zero,List.getD_cons_succ,List.all_cons,List.all_nil,n1.2,n2.2,n1.1,n2.1]
 have:decide (([]:List UInt8) ∈ [Lib.itoa p.tm,p.desk,Lib.itoa p.no,p.words])=false:=by
  simp only[decide_eq_false_iff_not,List.mem_cons,List.not_mem_nil,or_false,not_or];exact⟨fun q=>gU _ q.symm,fun q=>k2 q.symm,fun q=>gU _ q.symm,fun q=>hw q.symm⟩
 rw[this];rfl
theorem LS {p:bv}(h:lc p=0):(10:UInt8) ∉ Lib.join ((fV p).map bJ) [32]:=by
 obtain⟨h1,h2,h3,h4,h5⟩:=mP h;obtain⟨k1,k2,k3⟩:=mA h2;refine rQ (by decide) (fun w hw=> ?_);simp only[fV,List.map_cons,List.map_nil,List.mem_cons,List.not_mem_nil,or_false,bJ]at hw;rcases hw with rfl|rfl|rfl|rfl
 · exact xF _
 · exact xZ k1 (by decide)
 · exact xF _
 · refine xZ (k:=32) (fun x hx=> ?_) (by decide);have:=List.all_eq_true.1 h5 x hx;simp at this;exact this.1
theorem KJ {p:bv}(h:lc p=0):(qB (fV p)).length≤300:=by
 obtain⟨h1,h2,h3,h4,h5⟩:=mP h;obtain⟨k1,k2,k3⟩:=mA h2;have e1:=cp (n:=p.tm) (by omega) (by omega);have e2:=cp (n:=p.no) (by omega) (by omega);rw[Iy];simp only[List.length_append,List.length_cons,List.length_nil];omega
theorem EL {l:List bv}(hE:dZ l=0)(hl:l.length≤400):(bV fV l).length≤200000∧(∀p ∈ l,Bl p)∧rA g7 dZ (bV fV l)=(l,0,0):=by
 have h1:=oy (pf:=fV) l (fun p hp=>KJ (rT hE hp));have h2:l.length*300≤400*300:=Nat.mul_le_mul_right _ hl;refine⟨by omega,fun p hp=> ?_,zS hE (by omega) (fun p hp=>LS (rT hE hp)) (fun p hp m=>LM (rT hE hp) m)⟩;obtain⟨h1,h2,h3,h4,h5⟩:=mP (rT hE hp);obtain⟨k1,k2,k3⟩:=mA h2;exact⟨⟨by omega,by omega⟩,⟨by omega,by omega⟩,by omega,by omega⟩
structure zQ where
 frm:Int
 veh:List UInt8
 plt:List UInt8
deriving DecidableEq
structure Rn where
 veh:List UInt8
 frm:Int
 til:Int
def MS (L:List zQ)(p:List UInt8):Option zQ:=L.find? fun e=>decide (e.plt=p)
structure HS where
 live:List zQ
 out:List UInt8→List Rn
def yj (s:HS)(p:List UInt8)(t:Int):HS:=
 match MS s.live p with
 |none=>s
 |some e=>⟨s.live.filter fun e=> !decide (e.plt=p),fun q=>if q=p∧e.frm<t then s.out q++ [⟨e.veh,e.frm,t⟩]else s.out q⟩
def Oa (L:List zQ)(v:List UInt8):Option zQ:=L.find? fun e=>decide (e.veh=v)
def N1 (s:HS)(x:zQ):HS:=match Oa s.live x.veh with|none=>s|some e=>yj s e.plt x.frm
def Cz (s:HS)(x:zQ):HS:=⟨(yj (N1 s x) x.plt x.frm).live++ [x],(yj (N1 s x) x.plt x.frm).out⟩
def nM:HS:=⟨[],fun _=> []⟩
def eJ (l:List zQ):HS:=l.foldl Cz nM
def B5:OL:= [(0,[]),(1,[]),(3,[0,1]),(4,[0,1]),(8,[0,1,3,4]),(9,[0,1,3,4]),(2,[3,4,8,9]),(5,[8,9]),(6,[8,9]),(7,[8,9]),(10,[]),(11,[]),(12,[]),(13,[]),(14,[]),(15,[]),(16,[]),(17,[]),(18,[]),(19,[]),(20,[]),(21,[])]
def Bp:OL:= [(0,[]),(1,[]),(5,[0,1]),(6,[0,1]),(2,[5,6]),(3,[5,6]),(4,[5,6]),(7,[]),(8,[]),(9,[]),(10,[])]
def yO:OL:= [(0,[]),(1,[]),(2,[0,1]),(3,[]),(5,rg 4),(6,[0,1,2,3,5]),(7,[0,1,2,3,5]),(8,[0,1,2,3,5]),(9,[0,1,2,3,5]),(10,rg 4),(4,[5,6,7,8,9,10]),(11,[]),(12,[]),(13,[]),(14,[])]
def y0:OL:= [(0,[]),(1,[]),(3,[0,1]),(4,[0,1]),(5,[0,1]),(6,[0,1,3,4,5]),(7,[0,1,3,4,5]),(8,[0,1,3,4,5]),(9,[0,1]),(2,[3,4,5,6,7,8,9]),(10,[]),(11,[]),(12,[]),(13,[])]
def gI:OL:= [(0,[]),(1,[]),(11,[0,1]),(12,[0,1]),(2,[11,12]),(3,[11,12]),(4,[11,12]),(5,[11,12]),(6,[11,12]),(7,[11,12]),(8,[11,12]),(9,[11,12]),(10,[11,12]),(13,[]),(14,[]),(15,[]),(16,[])]
structure oN where
 tm:Int
 st:List UInt8
 meter:Int
 fuel:Int
def M3:oN→List DV:=fun r=> [.int .i64 r.tm,.str r.st,.int .i64 r.meter,.int .i64 r.fuel]
structure rS where
 veh:List UInt8
 out:oN
 inn:oN
def Ok:rS→List DV:=fun x=> [.str x.veh,.int .i64 x.out.tm,.str x.out.st,.int .i64 x.out.meter,.int .i64 x.out.fuel,.int .i64 x.inn.tm,.str x.inn.st,.int .i64 x.inn.meter,.int .i64 x.inn.fuel]
def QP:oN:=⟨0,[],0,0⟩
def dY:rS:=⟨[],QP,QP⟩
abbrev legs (l:List rS):DV:=dC 9 Ok dY l
structure di where
 key:List UInt8
 drv:List UInt8
 frm:Int
 to:Int
 legs:List rS
def ji:di→List DV:=fun h=> [.str h.key,.str h.drv,.int .i64 h.frm,.int .i64 h.to,Go.Proofs.YtkokpbpililcdaaGreatDoor.legs h.legs]
def iq:di:=⟨[],[],0,0,[]⟩
abbrev lD (h:di):aY:=.cells 55 [.d (.str h.key),.d (.str h.drv),.d (.int .i64 h.frm),.d (.int .i64 h.to),.d (Go.Proofs.YtkokpbpililcdaaGreatDoor.legs h.legs)]
def MB (x:rS):Prop:=x.veh.length≤2^40∧x.out.st.length≤2^40∧x.inn.st.length≤2^40
def JY (h:di):Prop:=h.key.length≤2^40∧h.drv.length≤2^40∧h.legs.length≤2^40∧∀x ∈ h.legs,MB x
def ON (l:List di):Prop:=l.length≤2^40∧∀h ∈ l,JY h
def pI (r:oN):Int:=if ¬ (0≤r.tm∧r.tm≤5761439)then 1 else if aE r.st=false then 5 else if ¬ ((0≤r.meter∧r.meter≤999999)∧(0≤r.fuel∧r.fuel≤8))then 1 else 0
def gX (a b:Int):Int:=if a<0∨b≤a∨5761439<b then 1 else if 172800<b - a then 2 else 0
def oV (h:di)(i:Nat):Int:=
 if aE (h.legs.getD i dY).veh=false then 5
 else if pI (h.legs.getD i dY).out≠0 then pI (h.legs.getD i dY).out
 else if i=0∧(h.legs.getD i dY).out.tm≠h.frm then 7
 else if 0<i∧(h.legs.getD i dY).out.tm≠(h.legs.getD (i - 1) dY).inn.tm then 7
 else if 0<i∧(h.legs.getD i dY).veh=(h.legs.getD (i - 1) dY).veh then 16
 else if 0<i∧(h.legs.getD i dY).out.st≠(h.legs.getD (i - 1) dY).inn.st then 8
 else if(h.legs.getD i dY).inn.tm= -1 then(if ¬ ((h.legs.getD i dY).inn.st= []∧(h.legs.getD i dY).inn.meter=0∧(h.legs.getD i dY).inn.fuel=0)then 3 else if(i:Int)<(h.legs.length:Int) - 1 then 11 else 0)
 else if pI (h.legs.getD i dY).inn≠0 then pI (h.legs.getD i dY).inn
 else if(h.legs.getD i dY).inn.tm≤(h.legs.getD i dY).out.tm then 7 else 0
def bN (h:di):Int:=
 if aE h.key=false∨aE h.drv=false then 5 else if gX h.frm h.to≠0 then gX h.frm h.to
 else if h.legs.length=0 then 3 else if 20<h.legs.length then 2 else bf (oV h) h.legs.length
def Gk (l:List di)(i:Nat):Int:=if bN (l.getD i iq)≠0 then bN (l.getD i iq)else if 0<i∧dI (l.getD i iq).key (l.getD (i - 1) iq).key=true then 7 else 0
def JP (l:List di):Int:=if 500<l.length then 2 else bf (Gk l) l.length
theorem Nd (n:Int):ai Tryz.prog 111 [.d (.int .i64 n)] [] (fun x o=>x= .d (.int .i64 (if 0≤n∧n≤5761439 then 0 else 1))∧o= []):=by
 refine ae hT (C:= []) Tryz.func111 rfl Tryz.call111 rfl rfl rfl ?_;conv=>whnf
 repeat' (first|(refine ac (Lq _) rfl rfl ?_;rotate_right;conv=>whnf)|(refine ac (fC _ _) rfl rfl ?_;rotate_right;conv=>whnf)|((first|(refine aa ?_ ?_<;>intro hb<;>try simp only[az]at hb)|omega|refine aA ?_|decide|assumption)<;>conv=>whnf))
 refine .ret _ ?_;conv=>whnf
 refine⟨[],⟨?_,rfl⟩,trivial⟩;conv=>lhs;whnf
 congr 2
 grind
theorem N5 (r:oN)(h:r.st.length≤2^40):ai Tryz.prog 168 [.agg ((M3 r).map .d)] [] (fun x o=>x= .d (.int .i64 (pI r))∧o= []):=by
 refine ae hT (C:= []) Tryz.func168 rfl Tryz.call168 rfl rfl rfl ?_;conv=>whnf
 repeat' (first|(refine ac (Nd _) rfl rfl ?_;rotate_right;conv=>whnf)|(refine ac (iR _ h) rfl rfl ?_;rotate_right;conv=>whnf)|(refine ac (ix _ _ _) rfl rfl ?_;rotate_right;conv=>whnf)|(refine ac (fC _ _) rfl rfl ?_;rotate_right;conv=>whnf)|((first|refine aw (gp [_,_,_] (by simp)) ⟨aj (by rfl) (by rfl),trivial⟩ rfl ?_|(refine aa ?_ ?_<;>intro hb<;>try simp only[az]at hb)|refine aq hT 1 B5 ?_|omega|refine aA ?_|decide|assumption)<;>conv=>whnf))
 all_goals
  refine .ret _ ?_;conv=>whnf
  refine⟨[],⟨?_,rfl⟩,trivial⟩;conv=>lhs;whnf
  congr 2
  unfold pI;simp only[al];grind
def da (a b:Int):Int:=(b - a+1440 - 1).tdiv 1440
theorem yw {a b:Int}(h:a<b):120<da a b↔172800<b - a:=by
 unfold da;rw[Int.tdiv_eq_ediv_of_nonneg (by omega)];omega
theorem K1 (a b:Int)(h:0≤a∧a<b∧b≤5761439):ai Tryz.prog 52 [.agg [.d (.int .i64 a),.d (.int .i64 b)]] [] (fun x o=>x= .d (.int .i64 (da a b))∧o= []):=by
 obtain⟨h1,h2,h3⟩:=h;have hd:aS ((b - a+1440 - 1).tdiv 1440):=by unfold aS;rw[Int.tdiv_eq_ediv_of_nonneg (by omega)];omega
 refine ae hT (C:= []) Tryz.func52 rfl Tryz.call52 rfl rfl rfl ?_;conv=>whnf
 repeat' (first|((first|refine And.intro hd ?_|(refine aa ?_ ?_<;>intro hb<;>try simp only[az]at hb)|omega|refine aA ?_|decide|assumption)<;>conv=>whnf))
 refine .ret _ ?_;conv=>whnf
 refine⟨[],⟨?_,rfl⟩,trivial⟩;conv=>lhs;whnf
 rfl
theorem Kp (a b:Int):ai Tryz.prog 107 [.agg [.d (.int .i64 a),.d (.int .i64 b)]] [] (fun x o=>x= .d (.int .i64 (gX a b))∧o= []):=by
 have hd:=yw (a:=a) (b:=b);refine ae hT (C:= []) Tryz.func107 rfl Tryz.call107 rfl rfl rfl ?_;conv=>whnf
 repeat' (first|(refine ac (K1 a b ⟨by omega,by omega,by omega⟩) rfl rfl ?_;rotate_right;conv=>whnf)|(refine ac (fC _ _) rfl rfl ?_;rotate_right;conv=>whnf)|((first|(refine aa ?_ ?_<;>intro hb<;>try simp only[az]at hb)|omega|refine aA ?_|decide|assumption)<;>conv=>whnf))
 all_goals
  refine .ret _ ?_;conv=>whnf
  refine⟨[],⟨?_,rfl⟩,trivial⟩;conv=>lhs;whnf
  congr 2
  unfold gX;grind
set_option maxHeartbeats 2000000 in
theorem Qs (h:di)(hk:JY h)(i:Nat)(hi:i<h.legs.length):ai Tryz.prog 108 [.agg ((ji h).map .d),.d (.int .i64 i)] [] (fun x o=>x= .d (.int .i64 (oV h i))∧o= []):=by
 have e1:(i:Int).toNat=i:=Int.toNat_natCast i;have hl:=hk.2.2.1;have hx:MB (h.legs.getD (i:Int).toNat dY):=hk.2.2.2 _ (ao (by omega));refine ae hT (C:= []) Tryz.func108 rfl Tryz.call108 rfl rfl rfl ?_;conv=>whnf
 repeat' (first|(refine ac (iR _ hx.1) rfl rfl ?_;rotate_right;conv=>whnf)|(refine ac (N5 (h.legs.getD (i:Int).toNat dY).out hx.2.1) rfl rfl ?_;rotate_right;conv=>whnf)|(refine ac (N5 (h.legs.getD (i:Int).toNat dY).inn hx.2.2) rfl rfl ?_;rotate_right;conv=>whnf)|(refine ac (fC _ _) rfl rfl ?_;rotate_right;conv=>whnf)|((first|refine aw (gp [_,_] (by simp)) ⟨aj (by rfl) (by rfl),trivial⟩ rfl ?_|(refine aa ?_ ?_<;>intro hb<;>try simp only[az]at hb)|refine aq hT 2 Bp ?_|refine aq hT 16 yO ?_|refine aq hT 17 y0 ?_|omega|refine aA ?_|decide|assumption)<;>conv=>whnf))
 all_goals
  refine .ret _ ?_;conv=>whnf
  refine⟨[],⟨?_,rfl⟩,trivial⟩;conv=>lhs;whnf
  congr 2
  clear hx hk;simp only[e1,aP,al]at*;unfold oV;grind
theorem zp {h:di}(q:aE h.key=false∨aE h.drv=false):bN h=5:=by unfold bN;rw[if_pos q]
theorem DX {h:di}(q1:aE h.key=true)(q2:aE h.drv=true)(q:gX h.frm h.to≠0):bN h=gX h.frm h.to:=by
 unfold bN;rw[if_neg (by rw[q1,q2];simp),if_pos q]
theorem EE {h:di}(q1:aE h.key=true)(q2:aE h.drv=true)(q:gX h.frm h.to=0):bN h=if h.legs.length=0 then 3 else if 20<h.legs.length then 2 else bf (oV h) h.legs.length:=by
 unfold bN;rw[if_neg (by rw[q1,q2];simp),if_neg (by omega)]
set_option maxHeartbeats 2000000 in
theorem z210 (h:di)(hk:JY h):ai Tryz.prog 46 [.agg ((ji h).map .d)] [] (fun x o=>x= .d (.int .i64 (bN h))∧o= []):=by
 have c1:=iR h.key hk.1;have c2:=iR h.drv hk.2.1;have c3:=Kp h.frm h.to;have hl:=hk.2.2.1;have c5:=gp [5,gX h.frm h.to] (by simp);rw[show al [5,gX h.frm h.to]=5 from rfl]at c5;have c6:=gp [0,gX h.frm h.to] (by simp);rw[show al [0,gX h.frm h.to]=gX h.frm h.to from by simp only[al];grind]at c6
 cases q1:aE h.key with
 | false=>
   rw[zp (.inl q1)];rw[q1]at c1;generalize gX h.frm h.to=E at c3 c5 c6;refine ae hT (C:= []) Tryz.func46 rfl Tryz.call46 rfl rfl rfl ?_;conv=>whnf
   repeat' (first|(refine ac (c1) rfl rfl ?_;rotate_right;conv=>whnf)|(refine ac (c3) rfl rfl ?_;rotate_right;conv=>whnf)|(refine ac (fC _ _) rfl rfl ?_;rotate_right;conv=>whnf)|((first|refine aw c5 ⟨aj (by rfl) (by rfl),trivial⟩ rfl ?_|(refine aa ?_ ?_<;>intro hb<;>try simp only[az]at hb)|refine aq hT 1 gI ?_|omega|refine aA ?_|decide|assumption)<;>conv=>whnf))
   refine .ret _ ?_;conv=>whnf
   refine⟨[],⟨?_,rfl⟩,trivial⟩
   conv=>lhs;whnf
 |true=>
 rw[q1]at c1
 cases q2:aE h.drv with
 | false=>
   rw[zp (.inr q2)];rw[q2]at c2;generalize gX h.frm h.to=E at c3 c5 c6;refine ae hT (C:= []) Tryz.func46 rfl Tryz.call46 rfl rfl rfl ?_;conv=>whnf
   repeat' (first|(refine ac (c1) rfl rfl ?_;rotate_right;conv=>whnf)|(refine ac (c2) rfl rfl ?_;rotate_right;conv=>whnf)|(refine ac (c3) rfl rfl ?_;rotate_right;conv=>whnf)|(refine ac (fC _ _) rfl rfl ?_;rotate_right;conv=>whnf)|((first|refine aw c5 ⟨aj (by rfl) (by rfl),trivial⟩ rfl ?_|(refine aa ?_ ?_<;>intro hb<;>try simp only[az]at hb)|refine aq hT 1 gI ?_|omega|refine aA ?_|decide|assumption)<;>conv=>whnf))
   refine .ret _ ?_;conv=>whnf
   refine⟨[],⟨?_,rfl⟩,trivial⟩
   conv=>lhs;whnf
 |true=>
 rw[q2]at c2
 by_cases q3:gX h.frm h.to=0
 · have hE:=EE q1 q2 q3;rw[hE];clear hE;rw[q3]at c3 c6
   by_cases q4:h.legs.length=0
   · rw[if_pos q4];refine ae hT (C:= []) Tryz.func46 rfl Tryz.call46 rfl rfl rfl ?_;conv=>whnf
     repeat' (first|(refine ac (c1) rfl rfl ?_;rotate_right;conv=>whnf)|(refine ac (c2) rfl rfl ?_;rotate_right;conv=>whnf)|(refine ac (c3) rfl rfl ?_;rotate_right;conv=>whnf)|(refine ac (fC _ _) rfl rfl ?_;rotate_right;conv=>whnf)|((first|refine aw c6 ⟨aj (by rfl) (by rfl),trivial⟩ rfl ?_|(refine aa ?_ ?_<;>intro hb<;>try simp only[az]at hb)|refine aq hT 1 gI ?_|omega|refine aA ?_|decide|assumption)<;>conv=>whnf))
     all_goals first
      |(exfalso;omega)
      | (refine .ret _ ?_
         conv=>whnf
         refine⟨[],⟨?_,rfl⟩,trivial⟩;conv=>lhs;whnf
         all_goals rfl)
   by_cases q5:20<h.legs.length
   · rw[if_neg q4,if_pos q5];refine ae hT (C:= []) Tryz.func46 rfl Tryz.call46 rfl rfl rfl ?_;conv=>whnf
     repeat' (first|(refine ac (c1) rfl rfl ?_;rotate_right;conv=>whnf)|(refine ac (c2) rfl rfl ?_;rotate_right;conv=>whnf)|(refine ac (c3) rfl rfl ?_;rotate_right;conv=>whnf)|(refine ac (fC _ _) rfl rfl ?_;rotate_right;conv=>whnf)|((first|refine aw c6 ⟨aj (by rfl) (by rfl),trivial⟩ rfl ?_|(refine aa ?_ ?_<;>intro hb<;>try simp only[az]at hb)|refine aq hT 1 gI ?_|omega|refine aA ?_|decide|assumption)<;>conv=>whnf))
     all_goals first
      |(exfalso;omega)
      | (refine .ret _ ?_
         conv=>whnf
         refine⟨[],⟨?_,rfl⟩,trivial⟩;conv=>lhs;whnf
         all_goals rfl)
   obtain⟨F,hfin⟩:∃F:Int,F=bf (oV h) h.legs.length:=⟨_,rfl⟩;rw[if_neg q4,if_neg q5,←hfin];refine ae hT (C:= []) Tryz.func46 rfl Tryz.call46 rfl rfl rfl ?_;conv=>whnf
   repeat' (first|(refine ac (c1) rfl rfl ?_;rotate_right;conv=>whnf)|(refine ac (c2) rfl rfl ?_;rotate_right;conv=>whnf)|(refine ac (c3) rfl rfl ?_;rotate_right;conv=>whnf)|(refine ac (fC _ _) rfl rfl ?_;rotate_right;conv=>whnf)|((first|refine aw c6 ⟨aj (by rfl) (by rfl),trivial⟩ rfl ?_|(refine aa ?_ ?_<;>intro hb<;>try simp only[az]at hb)|refine aq hT 1 gI ?_|omega|refine aA ?_|decide|assumption)<;>conv=>whnf))
   all_goals first
    |(exfalso;omega)
    |skip
   refine ah hT (C:= []) (ι:=Nat) (fun i=>i≤h.legs.length∧∀j,j<i→oV h j=0) (fun i=>aI [(1,.ptr 1 0),(37,.d (.int .i64 h.legs.length)),(38,.d (.int .i64 i))] [(1,lD h)]) (fun i=>h.legs.length - i) 0 ⟨by omega,by omega⟩ (by exact be [(1,1)]) ?_;rintro i ⟨p1,p2⟩;have e1:(i:Int).toNat=i:=Int.toNat_natCast i;conv=>whnf
   repeat' (first|((first|refine qJ (Qs h hk i (by omega)) ?_|(refine aa ?_ ?_<;>intro hb<;>try simp only[az]at hb)|refine aq hT 1 gI ?_|omega|refine aA ?_|decide|assumption)<;>conv=>whnf))
   · refine .ret _ ?_;conv=>whnf
     refine⟨[],⟨?_,rfl⟩,trivial⟩;conv=>lhs;whnf
     congr 2
     rw[hfin];exact(aX (by omega) p2 (by simpa using hb) rfl).symm
   · exact⟨i+1,⟨by omega,aU p2 (by simpa using hb)⟩,by omega,(by exact be [(1,1)])⟩
   · refine .ret _ ?_;conv=>whnf
     refine⟨[],⟨?_,rfl⟩,trivial⟩;conv=>lhs;whnf
     congr 2
     have:i=h.legs.length:=by omega
     subst this;rw[hfin,aF p2]
 · rw[DX q1 q2 q3];generalize gX h.frm h.to=E at c3 q3 c5 c6;refine ae hT (C:= []) Tryz.func46 rfl Tryz.call46 rfl rfl rfl ?_;conv=>whnf
   repeat' (first|(refine ac (c1) rfl rfl ?_;rotate_right;conv=>whnf)|(refine ac (c2) rfl rfl ?_;rotate_right;conv=>whnf)|(refine ac (c3) rfl rfl ?_;rotate_right;conv=>whnf)|(refine ac (fC _ _) rfl rfl ?_;rotate_right;conv=>whnf)|((first|refine aw c6 ⟨aj (by rfl) (by rfl),trivial⟩ rfl ?_|(refine aa ?_ ?_<;>intro hb<;>try simp only[az]at hb)|refine aq hT 1 gI ?_|omega|refine aA ?_|decide|assumption)<;>conv=>whnf))
   all_goals first
    |(exfalso;omega)
    | (refine .ret _ ?_
       conv=>whnf
       refine⟨[],⟨?_,rfl⟩,trivial⟩;conv=>lhs;whnf
       all_goals rfl)
def ET:oN:=⟨-1,[],0,0⟩
def eW (l:List rS)(r:oN):List rS:=l.set ((l.length:Int) - 1).toNat {l.getD ((l.length:Int) - 1).toNat dY with inn:=r}
theorem gO (l:List rS)(r:oN):(eW l r).length=l.length:=by simp[eW]
theorem uZ {l:List rS}{r:oN}:∀z,l[((l.length:Int) - 1).toNat]? =some z→cm (Ok z) 5 [.int .i64 r.tm,.str r.st,.int .i64 r.meter,.int .i64 r.fuel]=Ok {l.getD ((l.length:Int) - 1).toNat dY with inn:=r}:=fun z hz=>by
 rw[List.getD_eq_getElem?_getD,hz];rfl
def lb (key drv:List UInt8)(a b:Int)(v:List UInt8)(o:oN):di:=⟨key,drv,a,b,[⟨v,o,ET⟩]⟩
theorem On {l:List Int}{x:Int}(h:x ∈ l)(hl:(l.all fun y=>decide (0≤y)&&decide (y≤3000))=true):0≤x∧x≤3000:=by
 have:=List.all_eq_true.1 hl x h;simpa using this
structure fB where
 key:List UInt8
 up:List UInt8
structure mF where
 key:List UInt8
 cls:List UInt8
structure wR where
 key:List UInt8
 h:Nat→Int
def rq:fB→List DV:=fun c=> [.str c.key,.str c.up]
def bB:fB:=⟨[],[]⟩
abbrev gP (l:List fB):DV:=dC 2 rq bB l
def wy:mF→List DV:=fun c=> [.str c.key,.str c.cls]
def bD:mF:=⟨[],[]⟩
abbrev lY (l:List mF):DV:=dC 2 wy bD l
def BL:zQ→List DV:=fun p=> [.int .i64 p.frm,.str p.veh,.str p.plt]
def dp:zQ:=⟨0,[],[]⟩
abbrev wG (l:List zQ):DV:=dC 3 BL dp l
def sG:wR→List DV:=fun s=> [.str s.key,.int .i64 (s.h 0),.int .i64 (s.h 1),.int .i64 (s.h 2),.int .i64 (s.h 3),.int .i64 (s.h 4),.int .i64 (s.h 5),.int .i64 (s.h 6),.int .i64 (s.h 7),.int .i64 (s.h 8),.int .i64 (s.h 9),.int .i64 (s.h 10),.int .i64 (s.h 11),.int .i64 (s.h 12),.int .i64 (s.h 13)]
def o9:wR:=⟨[],fun _=>0⟩
abbrev jN (l:List wR):DV:=dC 15 sG o9 l
def BB (c:fB):Prop:=c.key.length≤8∧c.up.length≤8
def yi (c:mF):Prop:=c.key.length≤8∧c.cls.length≤8
def Pd (c:zQ):Prop:=(-2^40≤c.frm∧c.frm≤2^40)∧c.veh.length≤8∧c.plt.length≤16
def PD (c:wR):Prop:=c.key.length≤8
def nv:List fB:= [⟨[98,105,103],[]⟩,⟨[109,97,120,105],[]⟩,⟨[109,105,100,105],[]⟩,⟨[109,105,110,105],[]⟩]
def Nn (l:List fB):Prop:=l.length≤4∧∀x ∈ l,BB x
def xN (key:List UInt8):aY:=.cells 9 [.d (.str key)]
def fY (l:List fB)(key:List UInt8):Int:=jP (fun i=>(l.getD i bB).key==key) l.length
def rB (l:List mF)(key:List UInt8):Int:=jP (fun i=>(l.getD i bD).key==key) l.length
theorem OH (x:fB)(key:List UInt8):ai Tryz.prog 180 [.agg ((rq x).map .d),.ptr 1000001 0] [(1000001,xN key)] (fun y r=>y= .d (.bool (x.key==key))∧r= [(1000001,xN key)]):=by
 refine ae hT (C:= []) Tryz.func180 rfl Tryz.call180 rfl rfl rfl ?_;conv=>whnf
 refine .ret _ ?_;conv=>whnf
 exact⟨[(1000001,xN key)],⟨rfl,rfl⟩,rr,trivial⟩
theorem MK (l:List fB)(hl:l.length≤2^40)(key:List UInt8):ai Tryz.prog 179 [.d (gP l),.fn 180 [.ptr 1000001 0]] [(1000001,xN key)] (fun x r=>x= .d (.int .i64 (fY l key))∧r= [(1000001,xN key)]):=by
 refine ae hT (C:= []) Tryz.func179 rfl Tryz.call179 rfl rfl rfl ?_;conv=>whnf
 refine ah hT (C:= []) (ι:=Nat) (fun i=>i≤l.length∧∀j,j<i→((l.getD j bB).key==key)=false) (fun i=>aI [(0,.d (gP l)),(1,.fn 180 [.ptr 1000001 0]),(7,.d (.int .i64 l.length)),(8,.d (.int .i64 i))] [(1000001,xN key)]) (fun i=>l.length - i) 0 ⟨by omega,by omega⟩ (by exact be [(1000001,1000001)]) ?_;rintro i ⟨p1,p2⟩;have e1:(i:Int).toNat=i:=Int.toNat_natCast i;conv=>whnf
 repeat' (first|((first|(refine cd (OH (l.getD (i:Int).toNat bB) key) [(1000001,1000001)] ?_;rintro x rout ⟨rfl,rfl⟩;refine⟨rfl,?_⟩)|(refine aa ?_ ?_<;>intro hb<;>try simp only[az]at hb)|omega|refine aA ?_|decide|assumption)<;>conv=>whnf))
 · refine .ret _ ?_;conv=>whnf
   refine⟨[(1000001,xN key)],⟨?_,rfl⟩,rr,trivial⟩;conv=>lhs;whnf
   congr 2
   exact(gd (by omega) p2 (by simpa using hb)).symm
 · exact⟨i+1,⟨by omega,bw p2 (by simpa using hb)⟩,by omega,(by exact be [(1000001,1000001)])⟩
 · refine .ret _ ?_;conv=>whnf
   refine⟨[(1000001,xN key)],⟨?_,rfl⟩,rr,trivial⟩;conv=>lhs;whnf
   congr 2
   have:i=l.length:=by omega
   subst this;exact(ew p2).symm
theorem LK (l:List fB)(hl:l.length≤2^40)(key:List UInt8):ai Tryz.prog 125 [.d (gP l),.d (.str key)] [] (fun x r=>x= .d (.int .i64 (fY l key))∧r= []):=by
 refine ae hT (C:= []) Tryz.func125 rfl Tryz.call125 rfl rfl rfl ?_;conv=>whnf
 refine cd (MK l hl key) [(1000001,3)] ?_;rintro x rout ⟨rfl,rfl⟩;refine⟨rfl,?_⟩;conv=>whnf
 refine .ret _ ?_;conv=>whnf
 refine⟨[],⟨?_,rfl⟩,trivial⟩;conv=>lhs;whnf
structure lR where
 sta:List wR
 cls:List fB
 veh:List mF
 plt:List zQ
abbrev flt (f:lR):SV:=.agg [.d (jN f.sta),.d (gP f.cls),.d (lY f.veh),.d (wG f.plt)]
theorem wo (l:List fB)(key:List UInt8): -1≤fY l key∧fY l key<l.length:=⟨eP.1,eP.2.1⟩
theorem HZ {l:List fB}{key:List UInt8}(h:0≤fY l key):(l.getD (fY l key).toNat bB).key=key:=by
 have:=(eP (p:=fun i=>(l.getD i bB).key==key) (n:=l.length)).2.2 h;exact eq_of_beq this
def HC (l:List fB)(key:List UInt8):List UInt8:=(l.getD (fY l key).toNat bB).up
def xM (l:List fB):Nat→List UInt8→List (List UInt8)
 |0,_=> []
 |n+1,key=>if HC l key= []then []else HC l key::xM l n (HC l key)
theorem Il (l:List fB):∀ (n:Nat) (key:List UInt8),(xM l n key).length≤n:=by
 intro n
 induction n with
 |zero=>intro key;simp[xM]
 |succ n ih=>intro key;rw[xM];split;simp;simp;exact ih _
def CA (l:List fB):Prop:=(∀c ∈ l,c.up≠ []→0≤fY l c.up)
theorem PQ (l:List fB)(hl:l.length≤2^20)(hu:CA l)(key:List UInt8)(hk:0≤fY l key):
 ai Tryz.prog 178 [.d (gP l),.d (.str key)] [] (fun x r=>x= .d (eE (xM l l.length key))∧r= []):=by
 refine ae hT (C:= []) Tryz.func178 rfl Tryz.call178 rfl rfl rfl ?_;conv=>whnf
 refine ah hT (C:= []) (ι:=List (List UInt8)×List UInt8×Nat) (fun(o,k,i)=>i≤l.length∧o.length≤i∧0≤fY l k∧o++xM l (l.length - i) k=xM l l.length key)
  (fun(o,k,i)=>aI [(0,.d (gP l)),(1,.d (.str k)),(5,.buf 5),(7,.d (.int .i64 l.length)),(8,.d (.int .i64 i))] [(5,aL 9 1 sF [] o)])
  (fun(_,_,i)=>l.length - i) ([],key,0) ⟨by simp,by simp,hk,by simp⟩ ?_ ?_
 · exact(dc.nil 5 5 9 1 (aW sF [] []) rfl rfl (by decide)).trans (af [(5,5)] rfl rfl ⟨lr,lr,lr,lr,lr,trivial⟩ ⟨rr,trivial⟩)
 rintro⟨o,k,i⟩ ⟨p1,p2,p3,p4⟩;have p1:i≤l.length:=p1;have p2:o.length≤i:=p2;have p3:0≤fY l k:=p3;have p4:o++xM l (l.length - i) k=xM l l.length key:=p4;have hb1:=(wo l k).2;conv=>whnf
 repeat' (first|(refine ac (LK l (by omega) k) rfl rfl ?_;rotate_right;conv=>whnf)|((first|(refine aa ?_ ?_<;>intro hb<;>try simp only[az]at hb)|omega|refine aA ?_|decide|assumption)<;>conv=>whnf))
 · refine .freeze _ 5 9 1 _ _ rfl (.weak _ ?_);conv=>whnf
   refine⟨.d (eE o),[],lr,⟨?_,rfl⟩,trivial⟩;rw[←p4,show l.length - i=(l.length - i - 1)+1 by omega,xM,if_pos (show HC l k= []from hb),List.append_nil]
 · have hm:(l.getD (fY l k).toNat bB) ∈ l:=ao (by omega)
   refine⟨(o++ [HC l k],HC l k,i+1),⟨by omega,by simp;omega,hu _ hm hb,?_⟩,by show l.length - (i+1)<l.length - i;omega,
    af [(5,22)] rfl rfl ⟨lr,lr,lr,lr,lr,trivial⟩ ⟨aG rfl,trivial⟩⟩
   rw[←p4,show l.length - i=(l.length - (i+1))+1 by omega,xM,if_neg (show ¬HC l k= []from hb),List.append_assoc];rfl
 · refine .freeze _ 5 9 1 _ _ rfl (.weak _ ?_);conv=>whnf
   refine⟨.d (eE o),[],lr,⟨?_,rfl⟩,trivial⟩;rw[←p4,show l.length - i=0 by omega,xM,List.append_nil]
theorem Pf (l:List (List UInt8))(hl:l.length≤2^40)(v:List UInt8):ai Tryz.prog 121 [.d (eE l),.d (.str v)] [] (fun x r=>x= .d (.int .i64 (jP (fun i=>l.getD i []==v) l.length))∧r= []):=by
 refine ae hT (C:= []) Tryz.func121 rfl Tryz.call121 rfl rfl rfl ?_;conv=>whnf
 refine ah hT (C:= []) (ι:=Nat) (fun i=>i≤l.length∧∀j,j<i→(l.getD j []==v)=false) (fun i=>aI [(0,.d (eE l)),(1,.d (.str v)),(7,.d (.int .i64 l.length)),(8,.d (.int .i64 i))] []) (fun i=>l.length - i) 0 ⟨by omega,by omega⟩ (by exact be []) ?_;rintro i ⟨p1,p2⟩;have e1:(i:Int).toNat=i:=Int.toNat_natCast i;conv=>whnf
 repeat' (first|((first|(refine aa ?_ ?_<;>intro hb<;>try simp only[az]at hb)|omega|refine aA ?_|decide|assumption)<;>conv=>whnf))
 · refine .ret _ ?_;conv=>whnf
   refine⟨[],⟨?_,rfl⟩,trivial⟩;conv=>lhs;whnf
   congr 2
   exact(gd (by omega) p2 (by rw[←hb];simp)).symm
 · exact⟨i+1,⟨by omega,bw p2 (beq_eq_false_iff_ne.2 fun q=>hb q.symm)⟩,by omega,(by exact be [])⟩
 · refine .ret _ ?_;conv=>whnf
   refine⟨[],⟨?_,rfl⟩,trivial⟩;conv=>lhs;whnf
   congr 2
   have:i=l.length:=by omega
   subst this;exact(ew p2).symm
theorem I9 (l:List (List UInt8))(v:List UInt8):decide (0≤jP (fun i=>l.getD i []==v) l.length)=decide (v ∈ l):=by
 rw[decide_eq_decide];constructor
 · intro h;have:=eP (p:=fun i=>l.getD i []==v) (n:=l.length);rw[←eq_of_beq (this.2.2 h)];exact ao (by omega)
 · intro h;obtain⟨j,hj,rfl⟩:=a8 (d:= []) h;exact nj hj (by simp)
theorem Pb (l:List (List UInt8))(hl:l.length≤2^40)(v:List UInt8):ai Tryz.prog 63 [.d (eE l),.d (.str v)] [] (fun x r=>x= .d (.bool (decide (v ∈ l)))∧r= []):=by
 refine ae hT (C:= []) Tryz.func63 rfl Tryz.call63 rfl rfl rfl ?_;conv=>whnf
 repeat' (first|(refine ac (Pf l hl v) rfl rfl ?_;rotate_right;conv=>whnf)|((first|(refine aa ?_ ?_<;>intro hb<;>try simp only[az]at hb)|omega|refine aA ?_|decide|assumption)<;>conv=>whnf))
 refine .ret _ ?_;conv=>whnf
 refine⟨[],⟨?_,rfl⟩,trivial⟩;conv=>lhs;whnf
 rw[←I9]
def Aw (l:List fB):Nat→List UInt8→List UInt8
 |0,k=>k
 |n+1,k=>Aw l n (HC l k)
theorem wm (l:List fB):∀ (a b:Nat) (k:List UInt8),Aw l (a+b) k=Aw l b (Aw l a k):=by
 intro a
 induction a with
 |zero=>intro b k;rw[Nat.zero_add];rfl
 |succ a ih=>intro b k;rw[show a+1+b=(a+b)+1 by omega,Aw,ih,Aw]
theorem CV (l:List fB):∀ (n:Nat) (k v:List UInt8),v ∈ xM l n k↔∃j,j<n∧Aw l (j+1) k=v∧∀i,i≤j→Aw l (i+1) k≠ []:=by
 intro n
 induction n with
 |zero=>intro k v;simp[xM]
 | succ n ih=>
   intro k v;rw[xM]
   by_cases h:HC l k= []
   · rw[if_pos h];constructor
     · intro q;cases q
     · rintro⟨j,_,_,h3⟩;exact absurd h (h3 0 (by omega))
   · rw [if_neg h,List.mem_cons,ih];constructor
     · rintro(rfl|⟨j,h1,h2,h3⟩)
       · exact⟨0,by omega,rfl,fun i hi=>by
                     obtain rfl:i=0:=by omega
                     exact h⟩
       · refine⟨j+1,by omega,h2,fun i hi=> ?_⟩
         cases i with
         |zero=>exact h
         |succ i=>exact h3 i (by omega)
     · rintro⟨j,h1,h2,h3⟩
       cases j with
       |zero=>exact .inl h2.symm
       |succ j=>exact .inr ⟨j,by omega,h2,fun i hi=>h3 (i+1) (by omega)⟩
theorem Mr {α:Type}{l m:List α}(h:l.Nodup)(hs:∀x ∈ l,x ∈ m):l.length≤m.length:=by
 induction l generalizing m with
 |nil=>simp
 | cons x l ih=>
   rw[List.nodup_cons]at h;obtain⟨a,b,rfl⟩:=List.append_of_mem (hs x (by simp))
   have:=ih (m:=a++b) h.2 (fun y hy=>by
    have q:=hs y (by simp[hy]);simp only[List.mem_append,List.mem_cons]at q ⊢;rcases q with q|q|q
    · exact .inl q
    · subst q;exact absurd hy h.1
    · exact .inr q)
   simp at this ⊢;omega
theorem Gm {l:List fB}{k:List UInt8}(h:0≤fY l k):k ∈ l.map (·.key):=by
 rw[←HZ h];exact List.mem_map_of_mem (ao (by have:=(wo l k).2;omega))
theorem L8 {l:List fB}(hu:CA l){k:List UInt8}(hk:0≤fY l k):∀ (j:Nat),(∀i,i<j→Aw l (i+1) k≠ [])→0≤fY l (Aw l j k):=by
 intro j
 induction j with
 |zero=>intro _;exact hk
 | succ j ih=>
   intro h;have h1:=ih (fun i hi=>h i (by omega));have h2:=h j (by omega);have e:Aw l (j+1) k=HC l (Aw l j k):=by rw[wm];rfl
   rw[e]at h2 ⊢;exact hu _ (ao (by have:=(wo l (Aw l j k)).2;omega)) h2
theorem HV {l:List fB}(hu:CA l){k:List UInt8}(hk:0≤fY l k):k ∈ xM l (l.length+1) k↔k ∈ xM l l.length k:=by
 rw[CV,CV];constructor
 · rintro⟨j,h1,h2,h3⟩
   by_cases hj:j<l.length
   · exact⟨j,hj,h2,h3⟩
   · have hj:j=l.length:=by omega
     subst hj
     by_cases hex:∃j',j'<l.length∧Aw l (j'+1) k=k
     · obtain⟨j',q1,q2⟩:=hex;exact⟨j',q1,q2,fun i hi=>h3 i (by omega)⟩
     · exfalso
       have hnd:((List.range (l.length+1)).map fun j=>Aw l j k).Nodup:=by
        rw[List.nodup_iff_pairwise_ne,List.pairwise_map];refine List.Pairwise.imp_of_mem ?_ List.pairwise_lt_range;intro a b ha hb hab he;rw[List.mem_range]at ha hb;refine hex ⟨a+(l.length+1 - b) - 1,by omega,?_⟩;rw[show a+(l.length+1 - b) - 1+1=a+(l.length+1 - b)by omega,wm,he,←wm,show b+(l.length+1 - b)=l.length+1 by omega];exact h2
       have:=Mr (m:=l.map (·.key)) hnd (fun x hx=>by
        obtain⟨j,hj,rfl⟩:=List.mem_map.1 hx;rw[List.mem_range]at hj
        exact Gm (L8 hu hk j (fun i hi=>h3 i (by omega))))
       simp at this;omega
 · rintro⟨j,h1,h2,h3⟩;exact⟨j,by omega,h2,h3⟩
theorem Hh {l:List fB}{c:fB}(h:c ∈ l):0≤fY l c.key:=by
 obtain⟨j,hj,rfl⟩:=a8 (d:=bB) h;exact nj hj (by simp)
def vi (l:List fB)(i:Nat):Int:=
 if aE (l.getD i bB).key=false then 5 else if 0<i∧dI (l.getD i bB).key (l.getD (i - 1) bB).key=true then 7
 else if(l.getD i bB).up≠ []∧aE (l.getD i bB).up=false then 5 else 0
def vx (l:List fB)(i:Nat):Int:=if(l.getD i bB).up≠ []∧fY l (l.getD i bB).up<0 then 8 else 0
def ye (l:List fB)(i:Nat):Int:=if(l.getD i bB).key ∈ xM l l.length (l.getD i bB).key then 14 else 0
def gz (l:List fB):Int:=if 30<l.length then 2 else al [bf (vi l) l.length,bf (vx l) l.length,bf (ye l) l.length]
def l8 (l:List fB):Prop:=l.length≤2^20∧∀c ∈ l,c.key.length≤2^40∧c.up.length≤2^40
def k0 (a b:zQ):Int:=al [eO a.frm b.frm,dJ a.veh b.veh,dJ a.plt b.plt]
def Pm (p:zQ):aY:=.cells 163 ((BL p).map .d)
def HF (p o:zQ):Bool:=decide (o.frm=p.frm)&&(o.veh==p.veh||o.plt==p.plt)
def wj (l:List mF):Prop:=∀i j,i<j→j<l.length→Op.bytesLess (l.getD i bD).key (l.getD j bD).key=true
theorem N9 (v:mF)(key:List UInt8):ai Tryz.prog 228 [.agg ((wy v).map .d),.d (.str key)] [] (fun y r=>y= .d (.int .i64 (dJ v.key key))∧r= []):=by
 refine ae hT (C:= []) Tryz.func228 rfl Tryz.call228 rfl rfl rfl ?_;conv=>whnf
 repeat' (first|(refine ac (Ax _ _) rfl rfl ?_;rotate_right;conv=>whnf)|((first|(refine aa ?_ ?_<;>intro hb<;>try simp only[az]at hb)|omega|refine aA ?_|decide|assumption)<;>conv=>whnf))
 refine .ret _ ?_;conv=>whnf
 refine⟨[],⟨?_,rfl⟩,trivial⟩;conv=>lhs;whnf
theorem yd (a b:List UInt8):dJ a b<0↔Op.bytesLess a b=true:=by unfold dJ;grind
theorem sy (a b:List UInt8):dJ a b=0↔a=b:=by
 unfold dJ;grind [fZ,dX]
theorem yU (lo hi:Nat)(h:hi≤2^20)(hl:lo≤hi):IntKind.wrap .u64 ((lo:Int)+hi)/2=(((lo+hi)/2:Nat):Int):=by
 unfold IntKind.wrap;simp[IntKind.signed,IntKind.bits];omega
theorem Dl {l:List mF}(hs:wj l){key:List UInt8}{i j:Nat}(hij:i≤j)(hj:j<l.length)(h:Op.bytesLess (l.getD j bD).key key=true):Op.bytesLess (l.getD i bD).key key=true:=by
 rcases Nat.lt_or_ge i j with q|q
 · exact fx (hs i j q hj) h
 · obtain rfl:i=j:=by omega
   exact h
theorem Hy {l:List mF}(hs:wj l){i:Nat}(hi:i<l.length):rB l (l.getD i bD).key=i:=by
 refine gd hi (fun j hj=> ?_) (by simp);rw[beq_eq_false_iff_ne];intro e;have:=hs j i hj hi;rw[e,dX]at this;cases this
theorem CU {l:List mF}{key:List UInt8}(h:∀i,i<l.length→(l.getD i bD).key≠key):rB l key= -1:=
 ew fun j hj=>beq_eq_false_iff_ne.2 (h j hj)
theorem Pq (l:List mF)(hl:l.length≤2^20)(hs:wj l)(key:List UInt8):ai Tryz.prog 227 [.d (lY l),.d (.str key),.fn 228 []] []
 (fun y r=>(∃j:Nat,∃b:Bool,y= .tup [.d (.int .i64 j),.d (.bool b)]∧rB l key=if b=true then(j:Int)else -1)∧r= []):=by
 refine ae hT (C:= []) Tryz.func227 rfl Tryz.call227 rfl rfl rfl ?_;conv=>whnf
 refine ah hT (C:= []) (ι:=Nat×Nat) (fun(lo,hi)=>(lo≤hi∧hi≤l.length)∧(∀j,j<lo→Op.bytesLess (l.getD j bD).key key=true)∧∀j,hi≤j→j<l.length→Op.bytesLess (l.getD j bD).key key=false)
  (fun(lo,hi)=>aI [(0,.d (lY l)),(1,.d (.str key)),(2,.fn 228 []),(8,.d (.int .i64 l.length)),(9,.d (.int .i64 lo)),(10,.d (.int .i64 hi))] []) (fun(lo,hi)=>hi - lo) (0,l.length)
  ⟨⟨by simp,by simp⟩,fun j hj=>by omega,fun j h1 h2=>by omega⟩ (by exact be []) ?_
 rintro⟨lo,hi⟩ ⟨⟨p1,p2⟩,p3,p4⟩;have p1:lo≤hi:=p1;have p2:hi≤l.length:=p2;have p3:∀j,j<lo→Op.bytesLess (l.getD j bD).key key=true:=p3;have p4:∀j,hi≤j→j<l.length→Op.bytesLess (l.getD j bD).key key=false:=p4;have hh:=yU lo hi (by omega) p1;obtain⟨M,hM⟩:∃M,M=(lo+hi)/2:=⟨_,rfl⟩;rw[←hM]at hh;have e1:((M:Nat):Int).toNat=M:=Int.toNat_natCast M;have e2:((lo:Nat):Int).toNat=lo:=Int.toNat_natCast lo;conv=>whnf
 repeat' (first|(refine⟨rfl,?_⟩;conv=>whnf)|(rw[hh];conv=>whnf)|(refine ac (N9 (l.getD (M:Int).toNat bD) key) rfl rfl ?_;rotate_right;conv=>whnf)|(refine ac (N9 (l.getD (lo:Int).toNat bD) key) rfl rfl ?_;rotate_right;conv=>whnf)|((first|(refine aa ?_ ?_<;>intro hb<;>try simp only[az]at hb)|omega|refine aA ?_|decide|assumption)<;>conv=>whnf))
 · have hb1:=(yd _ _).1 hb;exact⟨(M+1,hi),⟨⟨by omega,p2⟩,fun j hj=>Dl hs (show j≤M by omega) (by omega) hb1,p4⟩,by show hi - (M+1)<hi - lo;omega,(by exact be [])⟩
 · have hb1:Op.bytesLess (l.getD M bD).key key=false:=by
    rw[←Bool.not_eq_true,←yd];omega
   refine⟨(lo,M),⟨⟨by omega,by omega⟩,p3,fun j h1 h2=> ?_⟩,by show M - lo<hi - lo;omega,(by exact be [])⟩;rw[←Bool.not_eq_true];intro q;rw[Dl hs h1 h2 q]at hb1;cases hb1
 · refine .ret _ ?_;conv=>whnf
   refine⟨[],⟨⟨lo,decide (dJ (l.getD lo bD).key key=0),rfl,?_⟩,rfl⟩,trivial⟩
   by_cases q:(l.getD lo bD).key=key
   · rw[if_pos (by rw[decide_eq_true_eq,sy];exact q),←q];exact Hy hs (by omega)
   · rw[if_neg (by rw[decide_eq_true_eq,sy];exact q)];have h0:=p4 lo (by omega) (by omega);have h1:=fZ _ _ h0 q;refine CU fun i hi2 e=> ?_
     rcases Nat.lt_trichotomy i lo with r|r|r
     · have:=p3 i r;rw[e,dX]at this;cases this
     · subst r;exact q e
     · have:=fx h1 (hs lo i r hi2);rw[e,dX]at this;cases this
 · refine .ret _ ?_;conv=>whnf
   refine⟨[],⟨⟨lo,false,rfl,?_⟩,rfl⟩,trivial⟩;rw[if_neg (by simp)];refine CU fun i hi2 e=> ?_
   have:=p3 i (by omega);rw[e,dX]at this;cases this
def gS:OL:= [(0,[]),(1,[]),(2,[]),(3,[]),(4,[]),(5,[3,4]),(6,[3,4,5]),(7,[3,4,5]),(8,[3,4]),(9,[3,4]),(10,[3,4]),(11,[]),(12,[]),(13,[])]
def fL:OL:= [(0,[]),(1,[0]),(2,[0]),(4,[0,1,2]),(5,[0,1,2]),(3,[4,5]),(6,[])]
set_option maxHeartbeats 2000000 in
theorem z175 (l:List fB)(hk:l8 l):ai Tryz.prog 124 [.d (gP l)] [] (fun x r=>x= .d (.int .i64 (gz l))∧r= []):=by
 have hlen:=hk.1;refine ae hT (C:= []) Tryz.func124 rfl Tryz.call124 rfl rfl rfl ?_;conv=>whnf
 refine aa (fun h0=> ?_) (fun h0=> ?_)
 · simp at h0;conv=>whnf
   refine .ret _ ?_;conv=>whnf
   refine⟨[],⟨?_,rfl⟩,trivial⟩;conv=>lhs;whnf
   unfold gz;rw[if_pos (by omega)]
 simp at h0;conv=>whnf
 refine ah hT (C:= []) (ι:=Nat) (fun i=>i≤l.length∧∀j,j<i→vi l j=0) (fun i=>aI [(0,.d (gP l)),(12,.d (gP l)),(13,.d (.int .i64 l.length)),(14,.d (.int .i64 i))] []) (fun i=>l.length - i) 0 ⟨by omega,by omega⟩ (by exact be []) ?_;rintro i ⟨p1,p2⟩;have hx:(i:Int)<l.length→(l.getD (i:Int).toNat bB).key.length≤2^40∧(l.getD (i:Int).toNat bB).up.length≤2^40:=fun hi=>hk.2 _ (ao (by omega))
 have e1:(i:Int).toNat=i:=Int.toNat_natCast i
 have hbad:∀e:Int,i<l.length→e≠0→vi l i=e→gz l=e:=fun e h h1 h2=>by
  unfold gz;rw[if_neg (by omega),aX h p2 h1 h2,al,if_neg h1]
 rcases Nat.lt_or_ge i l.length with hi|hi
 · conv =>whnf
   repeat' (first|(refine ac (iR _ (hx (by omega)).1) rfl rfl ?_;rotate_right;conv=>whnf)|(refine ac (iR _ (hx (by omega)).2) rfl rfl ?_;rotate_right;conv=>whnf)|((first|(refine aa ?_ ?_<;>intro hb<;>try simp only[az]at hb)|refine aq hT 8 gS ?_|refine aq hT 22 fL ?_|omega|refine aA ?_|decide|assumption)<;>conv=>whnf))
   all_goals try(exfalso;omega)
   all_goals first
    |(refine⟨i+1,⟨by omega,aU p2 (by clear p2 hbad hk hx;simp only[e1,aP]at*;unfold vi dI;grind)⟩,by omega,(by exact be [])⟩)
    | (refine .ret _ ?_
       conv=>whnf
       refine⟨[],⟨?_,rfl⟩,trivial⟩;conv=>lhs;whnf
       congr 2
       exact(hbad _ (by omega) (by decide) (by clear p2 hbad hk hx;simp only[e1,aP]at*;unfold vi dI;grind)).symm)
 have hil:i=l.length:=by omega
 subst hil;have P1:=aF p2;clear hbad hx p2;conv=>whnf
 repeat' (first|((first|(refine aa ?_ ?_<;>intro hb<;>try simp only[az]at hb)|refine aq hT 8 gS ?_|refine aq hT 22 fL ?_|omega|refine aA ?_|decide|assumption)<;>conv=>whnf))
 all_goals try(exfalso;omega)
 refine ah hT (C:= []) (ι:=Nat) (fun i=>i≤l.length∧∀j,j<i→vx l j=0) (fun i=>aI [(0,.d (gP l)),(49,.d (gP l)),(50,.d (.int .i64 l.length)),(51,.d (.int .i64 i))] []) (fun i=>l.length - i) 0 ⟨by omega,by omega⟩ (by exact be []) ?_;rintro i ⟨p1,p2⟩;have e1:(i:Int).toNat=i:=Int.toNat_natCast i
 have hbad:∀e:Int,i<l.length→e≠0→vx l i=e→gz l=e:=fun e h h1 h2=>by
  unfold gz;rw[if_neg (by omega),al,if_pos P1,al,aX h p2 h1 h2,if_neg h1]
 rcases Nat.lt_or_ge i l.length with hi|hi
 · conv =>whnf
   repeat' (first|(refine ac (LK l (by omega) _) rfl rfl ?_;rotate_right;conv=>whnf)|((first|(refine aa ?_ ?_<;>intro hb<;>try simp only[az]at hb)|refine aq hT 8 gS ?_|refine aq hT 22 fL ?_|omega|refine aA ?_|decide|assumption)<;>conv=>whnf))
   all_goals try(exfalso;omega)
   all_goals first
    |(refine⟨i+1,⟨by omega,aU p2 (by clear p2 hbad hk;simp only[e1]at*;unfold vx;grind)⟩,by omega,(by exact be [])⟩)
    | (refine .ret _ ?_
       conv=>whnf
       refine⟨[],⟨?_,rfl⟩,trivial⟩;conv=>lhs;whnf
       congr 2
       exact(hbad _ (by omega) (by decide) (by clear p2 hbad hk;simp only[e1]at*;unfold vx;grind)).symm)
 have hil:i=l.length:=by omega
 subst hil;have P2:=aF p2
 have hu:CA l:=fun c hc hn=>by
  obtain⟨j,hj,rfl⟩:=a8 (d:=bB) hc;have:=p2 j hj;unfold vx at this;rcases Int.lt_or_le (fY l (l.getD j bB).up) 0 with q|q
  · rw[if_pos ⟨hn,q⟩]at this;cases this
  · exact q
 clear hbad p2;conv=>whnf
 repeat' (first|((first|(refine aa ?_ ?_<;>intro hb<;>try simp only[az]at hb)|refine aq hT 8 gS ?_|refine aq hT 22 fL ?_|omega|refine aA ?_|decide|assumption)<;>conv=>whnf))
 all_goals try(exfalso;omega)
 refine ah hT (C:= []) (ι:=Nat) (fun i=>i≤l.length∧∀j,j<i→ye l j=0) (fun i=>aI [(0,.d (gP l)),(66,.d (gP l)),(67,.d (.int .i64 l.length)),(68,.d (.int .i64 i))] []) (fun i=>l.length - i) 0 ⟨by omega,by omega⟩ (by exact be []) ?_;rintro i ⟨p1,p2⟩;have e1:(i:Int).toNat=i:=Int.toNat_natCast i
 have hbad:∀e:Int,i<l.length→e≠0→ye l i=e→gz l=e:=fun e h h1 h2=>by
  unfold gz;rw[if_neg (by omega),al,if_pos P1,al,if_pos P2,al,aX h p2 h1 h2,if_neg h1]
 rcases Nat.lt_or_ge i l.length with hi|hi
 · have hin:=Hh (l:=l) (c:=l.getD (i:Int).toNat bB) (ao (by omega));have hal:=Il l l.length (l.getD (i:Int).toNat bB).key;have hlo:=HV hu hin;conv=>whnf
   repeat' (first|(refine ac (PQ l hlen hu _ hin) rfl rfl ?_;rotate_right;conv=>whnf)|(refine ac (Pb _ (by omega) _) rfl rfl ?_;rotate_right;conv=>whnf)|((first|(refine aa ?_ ?_<;>intro hb<;>try simp only[az]at hb)|refine aq hT 8 gS ?_|refine aq hT 22 fL ?_|omega|refine aA ?_|decide|assumption)<;>conv=>whnf))
   all_goals try(exfalso;omega)
   all_goals first
    |(refine⟨i+1,⟨by omega,aU p2 (by clear p2 hbad hk;simp only[e1]at*;unfold ye;grind)⟩,by omega,(by exact be [])⟩)
    | (refine .ret _ ?_
       conv=>whnf
       refine⟨[],⟨?_,rfl⟩,trivial⟩;conv=>lhs;whnf
       congr 2
       exact(hbad _ (by omega) (by decide) (by clear p2 hbad hk;simp only[e1]at*;unfold ye;grind)).symm)
 have hil:i=l.length:=by omega
 subst hil;have P3:=aF p2;conv=>whnf
 repeat' (first|((first|(refine aa ?_ ?_<;>intro hb<;>try simp only[az]at hb)|refine aq hT 8 gS ?_|refine aq hT 22 fL ?_|omega|refine aA ?_|decide|assumption)<;>conv=>whnf))
 all_goals try(exfalso;omega)
 refine .ret _ ?_;conv=>whnf
 refine⟨[],⟨?_,rfl⟩,trivial⟩;conv=>lhs;whnf
 unfold gz;rw[if_neg (by omega),al,if_pos P1,al,if_pos P2,al,if_pos P3];rfl
def dO:OL:= [(0,[]),(1,[]),(2,[]),(3,[]),(4,[]),(5,[3,4]),(6,[3,4,5]),(7,[3,4,5]),(8,[3,4]),(9,[3,4]),(10,[3,4]),(11,[]),(12,[]),(13,[])]
def GE (s:wR)(k:Nat):Bool:=decide ((0≤s.h (2*k)∧s.h (2*k)≤s.h (2*k+1))∧s.h (2*k+1)≤1440)
def Ek (s:wR):Bool:=(List.range 7).all (GE s)
theorem Ji {s:wR}(h:∀j,j<7→GE s j=true):Ek s=true:=by
 unfold Ek;rw[List.all_eq_true];intro j hj;exact h j (List.mem_range.1 hj)
theorem nU {s:wR}{j:Nat}(hj:j<7)(h:GE s j=false):Ek s=false:=by
 unfold Ek;rw[List.all_eq_false];exact⟨j,List.mem_range.2 hj,by simp[h]⟩
def Ap (l:List wR)(i:Nat):Int:=
 if aE (l.getD i o9).key=false then 5 else if 0<i∧dI (l.getD i o9).key (l.getD (i - 1) o9).key=true then 7 else if Ek (l.getD i o9)=false then 1 else 0
def lJ (l:List wR):Int:=if 50<l.length then 2 else bf (Ap l) l.length
def BO (l:List wR):Prop:=l.length≤2^20∧∀c ∈ l,c.key.length≤2^40
set_option maxHeartbeats 4000000 in
theorem N7 (l : List wR)(hk:BO l):ai Tryz.prog 123 [.d (jN l)] [] (fun x r=>x= .d (.int .i64 (lJ l))∧r= []):=by
 have hlen:=hk.1;refine ae hT (C:= []) Tryz.func123 rfl Tryz.call123 rfl rfl rfl ?_;conv=>whnf
 refine aa (fun h0=> ?_) (fun h0=> ?_)
 · simp at h0;conv=>whnf
   refine .ret _ ?_;conv=>whnf
   refine⟨[],⟨?_,rfl⟩,trivial⟩;conv=>lhs;whnf
   unfold lJ;rw[if_pos (by omega)]
 simp at h0;conv=>whnf
 refine ah hT (C:= []) (ι:=Nat) (fun i=>i≤l.length∧∀j,j<i→Ap l j=0) (fun i=>aI [(0,.d (jN l)),(10,.d (jN l)),(11,.d (.int .i64 l.length)),(12,.d (.int .i64 i))] []) (fun i=>l.length - i) 0 ⟨by omega,by omega⟩ (by exact be []) ?_;rintro i ⟨p1,p2⟩;have hx:(i:Int)<l.length→(l.getD (i:Int).toNat o9).key.length≤2^40:=fun hi=>hk.2 _ (ao (by omega))
 have e1:(i:Int).toNat=i:=Int.toNat_natCast i
 have hbad:∀e:Int,i<l.length→e≠0→Ap l i=e→lJ l=e:=fun e h h1 h2=>by
  unfold lJ;rw[if_neg (by omega)];exact aX h p2 h1 h2
 rcases Nat.lt_or_ge i l.length with hi|hi
 · obtain ⟨s,hs⟩:∃s,s=l.getD (i:Int).toNat o9:=⟨_,rfl⟩;conv=>whnf
   repeat' (first|(refine ac (iR _ (hx (by omega))) rfl rfl ?_;rotate_right;conv=>whnf)|((first|(refine aa ?_ ?_<;>intro hb<;>try simp only[az]at hb)|refine aq hT 8 dO ?_|omega|refine aA ?_|decide|assumption)<;>conv=>whnf))
   all_goals try(exfalso;omega)
   all_goals first
    | (refine .ret _ ?_
       conv=>whnf
       refine⟨[],⟨?_,rfl⟩,trivial⟩;conv=>lhs;whnf
       congr 2
       exact(hbad _ (by omega) (by decide) (by clear p2 hbad hk hx;simp only[e1,aP]at*;unfold Ap dI;grind)).symm)
    | (have hok:Ap l i=if Ek s=false then 1 else 0:=by
        clear p2 hbad hk hx;simp only[e1,aP]at*;subst hs;unfold Ap dI;grind
       refine ah hT (C:= []) (ι:=Nat) (fun k=>k≤7∧∀j,j<k→GE s j=true) (fun k=>aI [(0,.d (jN l)),(10,.d (jN l)),(11,.d (.int .i64 l.length)),(12,.d (.int .i64 i)),(37,.agg (((sG s).drop 1).map .d)),(38,.d (.int .i64 k))] []) (fun k=>7 - k) 0 ⟨by omega,by omega⟩ (by rw[hs];exact(by exact be [])) ?_;rintro k ⟨q1,q2⟩;have hkk:k=7∨k=0∨k=1∨k=2∨k=3∨k=4∨k=5∨k=6:=by omega
       rcases hkk with rfl|rfl|rfl|rfl|rfl|rfl|rfl|rfl
       · rw[Ji q2]at hok;conv=>whnf
         repeat' (first|((first|(refine aa ?_ ?_<;>intro hb<;>try simp only[az]at hb)|refine aq hT 8 dO ?_|omega|refine aA ?_|decide|assumption)<;>conv=>whnf))
         exact⟨i+1,⟨by omega,aU p2 (by rw[hok];rfl)⟩,by omega,(by exact be [])⟩
       · conv =>whnf
         repeat' (first|(refine ac (ix _ _ _) rfl rfl ?_;rotate_right;conv=>whnf)|((first|(refine aa ?_ ?_<;>intro hb<;>try simp only[az]at hb)|refine aq hT 8 dO ?_|omega|refine aA ?_|decide|assumption)<;>conv=>whnf))
         all_goals first
          | (refine .ret _ ?_
             conv=>whnf
             refine⟨[],⟨?_,rfl⟩,trivial⟩;conv=>lhs;whnf
             congr 2
             exact(hbad _ (by omega) (by decide) (by rw[hok,nU (j:=0) (by omega) (by show decide ((0≤s.h 0∧s.h 0≤s.h 1)∧s.h 1≤1440)=false;rw[decide_eq_false_iff_not];omega)];rfl)).symm)
          |exact⟨1,⟨by omega,bw (p:=fun j=>GE s j=true) (i:=0) q2 (by show decide ((0≤s.h 0∧s.h 0≤s.h 1)∧s.h 1≤1440)=true;rw[decide_eq_true_eq];omega)⟩,by omega,(by exact be [])⟩
       · conv =>whnf
         repeat' (first|(refine ac (ix _ _ _) rfl rfl ?_;rotate_right;conv=>whnf)|((first|(refine aa ?_ ?_<;>intro hb<;>try simp only[az]at hb)|refine aq hT 8 dO ?_|omega|refine aA ?_|decide|assumption)<;>conv=>whnf))
         all_goals first
          | (refine .ret _ ?_
             conv=>whnf
             refine⟨[],⟨?_,rfl⟩,trivial⟩;conv=>lhs;whnf
             congr 2
             exact(hbad _ (by omega) (by decide) (by rw[hok,nU (j:=1) (by omega) (by show decide ((0≤s.h 2∧s.h 2≤s.h 3)∧s.h 3≤1440)=false;rw[decide_eq_false_iff_not];omega)];rfl)).symm)
          |exact⟨2,⟨by omega,bw (p:=fun j=>GE s j=true) (i:=1) q2 (by show decide ((0≤s.h 2∧s.h 2≤s.h 3)∧s.h 3≤1440)=true;rw[decide_eq_true_eq];omega)⟩,by omega,(by exact be [])⟩
       · conv =>whnf
         repeat' (first|(refine ac (ix _ _ _) rfl rfl ?_;rotate_right;conv=>whnf)|((first|(refine aa ?_ ?_<;>intro hb<;>try simp only[az]at hb)|refine aq hT 8 dO ?_|omega|refine aA ?_|decide|assumption)<;>conv=>whnf))
         all_goals first
          | (refine .ret _ ?_
             conv=>whnf
             refine⟨[],⟨?_,rfl⟩,trivial⟩;conv=>lhs;whnf
             congr 2
             exact(hbad _ (by omega) (by decide) (by rw[hok,nU (j:=2) (by omega) (by show decide ((0≤s.h 4∧s.h 4≤s.h 5)∧s.h 5≤1440)=false;rw[decide_eq_false_iff_not];omega)];rfl)).symm)
          |exact⟨3,⟨by omega,bw (p:=fun j=>GE s j=true) (i:=2) q2 (by show decide ((0≤s.h 4∧s.h 4≤s.h 5)∧s.h 5≤1440)=true;rw[decide_eq_true_eq];omega)⟩,by omega,(by exact be [])⟩
       · conv =>whnf
         repeat' (first|(refine ac (ix _ _ _) rfl rfl ?_;rotate_right;conv=>whnf)|((first|(refine aa ?_ ?_<;>intro hb<;>try simp only[az]at hb)|refine aq hT 8 dO ?_|omega|refine aA ?_|decide|assumption)<;>conv=>whnf))
         all_goals first
          | (refine .ret _ ?_
             conv=>whnf
             refine⟨[],⟨?_,rfl⟩,trivial⟩;conv=>lhs;whnf
             congr 2
             exact(hbad _ (by omega) (by decide) (by rw[hok,nU (j:=3) (by omega) (by show decide ((0≤s.h 6∧s.h 6≤s.h 7)∧s.h 7≤1440)=false;rw[decide_eq_false_iff_not];omega)];rfl)).symm)
          |exact⟨4,⟨by omega,bw (p:=fun j=>GE s j=true) (i:=3) q2 (by show decide ((0≤s.h 6∧s.h 6≤s.h 7)∧s.h 7≤1440)=true;rw[decide_eq_true_eq];omega)⟩,by omega,(by exact be [])⟩
       · conv =>whnf
         repeat' (first|(refine ac (ix _ _ _) rfl rfl ?_;rotate_right;conv=>whnf)|((first|(refine aa ?_ ?_<;>intro hb<;>try simp only[az]at hb)|refine aq hT 8 dO ?_|omega|refine aA ?_|decide|assumption)<;>conv=>whnf))
         all_goals first
          | (refine .ret _ ?_
             conv=>whnf
             refine⟨[],⟨?_,rfl⟩,trivial⟩;conv=>lhs;whnf
             congr 2
             exact(hbad _ (by omega) (by decide) (by rw[hok,nU (j:=4) (by omega) (by show decide ((0≤s.h 8∧s.h 8≤s.h 9)∧s.h 9≤1440)=false;rw[decide_eq_false_iff_not];omega)];rfl)).symm)
          |exact⟨5,⟨by omega,bw (p:=fun j=>GE s j=true) (i:=4) q2 (by show decide ((0≤s.h 8∧s.h 8≤s.h 9)∧s.h 9≤1440)=true;rw[decide_eq_true_eq];omega)⟩,by omega,(by exact be [])⟩
       · conv =>whnf
         repeat' (first|(refine ac (ix _ _ _) rfl rfl ?_;rotate_right;conv=>whnf)|((first|(refine aa ?_ ?_<;>intro hb<;>try simp only[az]at hb)|refine aq hT 8 dO ?_|omega|refine aA ?_|decide|assumption)<;>conv=>whnf))
         all_goals first
          | (refine .ret _ ?_
             conv=>whnf
             refine⟨[],⟨?_,rfl⟩,trivial⟩;conv=>lhs;whnf
             congr 2
             exact(hbad _ (by omega) (by decide) (by rw[hok,nU (j:=5) (by omega) (by show decide ((0≤s.h 10∧s.h 10≤s.h 11)∧s.h 11≤1440)=false;rw[decide_eq_false_iff_not];omega)];rfl)).symm)
          |exact⟨6,⟨by omega,bw (p:=fun j=>GE s j=true) (i:=5) q2 (by show decide ((0≤s.h 10∧s.h 10≤s.h 11)∧s.h 11≤1440)=true;rw[decide_eq_true_eq];omega)⟩,by omega,(by exact be [])⟩
       · conv =>whnf
         repeat' (first|(refine ac (ix _ _ _) rfl rfl ?_;rotate_right;conv=>whnf)|((first|(refine aa ?_ ?_<;>intro hb<;>try simp only[az]at hb)|refine aq hT 8 dO ?_|omega|refine aA ?_|decide|assumption)<;>conv=>whnf))
         all_goals first
          | (refine .ret _ ?_
             conv=>whnf
             refine⟨[],⟨?_,rfl⟩,trivial⟩;conv=>lhs;whnf
             congr 2
             exact(hbad _ (by omega) (by decide) (by rw[hok,nU (j:=6) (by omega) (by show decide ((0≤s.h 12∧s.h 12≤s.h 13)∧s.h 13≤1440)=false;rw[decide_eq_false_iff_not];omega)];rfl)).symm)
          |exact⟨7,⟨by omega,bw (p:=fun j=>GE s j=true) (i:=6) q2 (by show decide ((0≤s.h 12∧s.h 12≤s.h 13)∧s.h 13≤1440)=true;rw[decide_eq_true_eq];omega)⟩,by omega,(by exact be [])⟩)
 have hil:i=l.length:=by omega
 subst hil;conv=>whnf
 repeat' (first|((first|(refine aa ?_ ?_<;>intro hb<;>try simp only[az]at hb)|refine aq hT 8 dO ?_|omega|refine aA ?_|decide|assumption)<;>conv=>whnf))
 all_goals try(exfalso;omega)
 refine .ret _ ?_;conv=>whnf
 refine⟨[],⟨?_,rfl⟩,trivial⟩;conv=>lhs;whnf
 congr 2
 unfold lJ;rw[if_neg (by omega),aF p2]
def jB (f:lR)(i:Nat):Int:=
 if aE (f.veh.getD i bD).key=false then 5 else if 0<i∧dI (f.veh.getD i bD).key (f.veh.getD (i - 1) bD).key=true then 7
 else if fY f.cls (f.veh.getD i bD).cls<0 then 8 else 0
def ph (f:lR)(i:Nat):Int:=
 if ¬ (0≤(f.plt.getD i dp).frm∧(f.plt.getD i dp).frm≤5761439)then 1 else if rB f.veh (f.plt.getD i dp).veh<0 then 8 else if mw (f.plt.getD i dp).plt=false then 3
 else if 0<i∧0≤k0 (f.plt.getD (i - 1) dp) (f.plt.getD i dp)then 7 else if((f.plt.take i).any (HF (f.plt.getD i dp)))=true then 6 else 0
def nJ (f:lR):Int:=al [lJ f.sta,gz f.cls,if 500<f.veh.length then 2 else 0]
def lN (f:lR):Int:=if nJ f≠0 then nJ f else if bf (jB f) f.veh.length≠0 then bf (jB f) f.veh.length
 else if 1000<f.plt.length then 2 else bf (ph f) f.plt.length
structure vn (f:lR):Prop where
 sta:BO f.sta
 cls:l8 f.cls
 veh:f.veh.length≤2^20∧∀v ∈ f.veh,v.key.length≤2^40∧v.cls.length≤2^40
 plt:f.plt.length≤2^20∧∀p ∈ f.plt,(-2^40≤p.frm∧p.frm≤2^40)∧p.veh.length≤2^40∧p.plt.length≤2^40
def Mq (f:lR):aY:=.cells 31 [.d (jN f.sta),.d (gP f.cls),.d (lY f.veh),.d (wG f.plt)]
theorem qT {f:lR}(h:bf (jB f) f.veh.length=0):wj f.veh:=by
 have h0:=bG h
 have step:∀j,j+1<f.veh.length→Op.bytesLess (f.veh.getD j bD).key (f.veh.getD (j+1) bD).key=true:=by
  intro j hj;have:=h0 (j+1) hj;unfold jB dI at this;simp only[Nat.add_sub_cancel]at this;have hl:=fZ (f.veh.getD (j+1) bD).key (f.veh.getD j bD).key;grind
 intro i j hij hj
 induction j with
 |zero=>omega
 | succ j ih=>
   rcases Nat.lt_or_ge i j with q|q
   · exact fx (ih q (by omega)) (step j hj)
   · obtain rfl:i=j:=by omega
     exact step i hj
theorem Qe (f:lR)(hl:f.veh.length≤2^20)(hs:wj f.veh)(key:List UInt8):ai Tryz.prog 181 [flt f,.d (.str key)] [] (fun x r=>x= .d (.int .i64 (rB f.veh key))∧r= []):=by
 refine ae hT (C:= []) Tryz.func181 rfl Tryz.call181 rfl rfl rfl ?_;conv=>whnf
 refine cd (Pq f.veh hl hs key) [] ?_;rintro x rout ⟨⟨j,b,rfl,hj⟩,rfl⟩;refine⟨rfl,?_⟩;conv=>whnf
 repeat' (first|((first|(refine aa ?_ ?_<;>intro hb<;>try simp only[az]at hb)|omega|refine aA ?_|decide|assumption)<;>conv=>whnf))
 · refine .ret _ ?_;conv=>whnf
   refine⟨[],⟨?_,rfl⟩,trivial⟩;conv=>lhs;whnf
   congr 2
   rw[hj,if_neg (by simp[hb])]
 · refine .ret _ ?_;conv=>whnf
   refine⟨[],⟨?_,rfl⟩,trivial⟩;conv=>lhs;whnf
   congr 2
   rw[hj,if_pos hb]
def jo:OL:= [(0,[]),(1,[]),(2,[0,1]),(3,[0,1]),(5,rg 4),(6,rg 4),(7,[0,1,2,3,5,6]),(8,[0,1,2,3,5,6]),(10,[0,1,2,3,5,6,7,8]),(11,[0,1,2,3,5,6,7,8]),(12,[0,1,2,3,5,6,7,8,10,11]),(13,[0,1,2,3,5,6,7,8,10,11]),(4,[5,6,7,8,10,11,12,13]),(9,[10,11,12,13]),(14,[]),(15,[]),(16,[]),(17,[])]
def jC:OL:= [(0,[]),(1,[]),(2,[]),(3,[]),(4,[]),(5,[3,4]),(6,[]),(7,[]),(8,[]),(9,[3,4,5,6,7,8]),(10,[3,4,5,6,7,8]),(11,[]),(12,[])]
theorem BK {a b:zQ}(h:k0 a b<0):a.frm≤b.frm:=by
 unfold k0 at h;rw[al]at h;split at h
 · rename_i q;unfold eO at q;split at q<;>(try split at q)<;>omega
 · unfold eO at h;split at h<;>(try split at h)<;>omega
theorem DK {f:lR}{j:Nat}(h:ph f j=0)(hj:0<j):k0 (f.plt.getD (j - 1) dp) (f.plt.getD j dp)<0:=by
 unfold ph at h;grind
theorem yQ {f:lR}{i:Nat}(h:∀j,j≤i→0<j→k0 (f.plt.getD (j - 1) dp) (f.plt.getD j dp)<0):∀b a,a≤b→b≤i→(f.plt.getD a dp).frm≤(f.plt.getD b dp).frm:=by
 intro b
 induction b with
 | zero => intro a ha _;obtain rfl:a=0:=by omega
           exact Int.le_refl _
 | succ b ih=>
   intro a ha hb;rcases Nat.lt_or_ge a (b+1)with q|q
   · have h1:=ih a (by omega) (by omega);have h2:=BK (h (b+1) hb (by omega));rw[Nat.add_sub_cancel]at h2;omega
   · obtain rfl:a=b+1:=by omega
     exact Int.le_refl _
theorem qC {α:Type}{l:List α}{d:α}{i j:Nat}(h:j<i):(l.take i).getD j d=l.getD j d:=by
 rw[List.getD_eq_getElem?_getD,List.getElem?_take_of_lt h,←List.getD_eq_getElem?_getD]
theorem I1 {f:lR}{i m:Nat}(hi:i<f.plt.length)(hm:m≤i)(h1:∀j,m≤j→j<i→HF (f.plt.getD i dp) (f.plt.getD j dp)=false)
 (h2:∀j,j<m→(f.plt.getD j dp).frm≠(f.plt.getD i dp).frm):(f.plt.take i).any (HF (f.plt.getD i dp))=false:=by
 rw[List.any_eq_false];intro x hx;obtain⟨j,hj,rfl⟩:=a8 (d:=dp) hx;rw[List.length_take]at hj;rw[qC (by omega)];rcases Nat.lt_or_ge j m with q|q
 · unfold HF;simp only[decide_eq_false (h2 j q),Bool.false_and];simp
 · rw[h1 j q (by omega)];simp
theorem HR {f:lR}{i k:Nat}(hi:i<f.plt.length)(hk:k<i)(h:HF (f.plt.getD i dp) (f.plt.getD k dp)=true):(f.plt.take i).any (HF (f.plt.getD i dp))=true:=by
 rw[List.any_eq_true];refine⟨(f.plt.take i).getD k dp,ao (by rw[List.length_take];omega),?_⟩;rw[qC hk];exact h
def vu (f:lR):Int:=if 1000<f.plt.length then 2 else bf (ph f) f.plt.length
set_option maxHeartbeats 4000000 in
theorem QF (f :lR)(hk:vn f)(hs:wj f.veh):ai Tryz.prog 126 [flt f] [] (fun x r=>x= .d (.int .i64 (vu f))∧r= []):=by
 have hlv:=hk.veh.1;have hlp:=hk.plt.1;refine ae hT (C:= []) Tryz.func126 rfl Tryz.call126 rfl rfl rfl ?_;conv=>whnf
 repeat' (first|((first|(refine aa ?_ ?_<;>intro hb<;>try simp only[az]at hb)|refine aq hT 14 jo ?_|refine aq hT 17 jC ?_|omega|refine aA ?_|decide|assumption)<;>conv=>whnf))
 · refine .ret _ ?_;conv=>whnf
   refine⟨[],⟨?_,rfl⟩,trivial⟩;conv=>lhs;whnf
   congr 2
   unfold vu;rw[if_pos (by omega)]
 refine ah hT (C:= []) (ι:=Nat) (fun i=>i≤f.plt.length∧∀j,j<i→ph f j=0) (fun i=>aI [(1,.ptr 1 0),(13,.d (wG f.plt)),(14,.d (.int .i64 f.plt.length)),(15,.d (.int .i64 i))] [(1,Mq f)]) (fun i=>f.plt.length - i) 0 ⟨by omega,by omega⟩ (by exact be [(1,1)]) ?_;rintro i ⟨p1,p2⟩;have hx:(i:Int)<f.plt.length→(-2^40≤(f.plt.getD (i:Int).toNat dp).frm∧(f.plt.getD (i:Int).toNat dp).frm≤2^40)∧(f.plt.getD (i:Int).toNat dp).veh.length≤2^40∧(f.plt.getD (i:Int).toNat dp).plt.length≤2^40:=fun hi=>hk.plt.2 _ (ao (by omega))
 have e1:(i:Int).toNat=i:=Int.toNat_natCast i
 have hbad:∀e:Int,i<f.plt.length→e≠0→ph f i=e→vu f=e:=fun e h h1 h2=>by
  unfold vu;rw[if_neg (by omega),aX h p2 h1 h2]
 rcases Nat.lt_or_ge i f.plt.length with hi|hi
 · have hx2 :=hx (by omega);have hz:((i:Int) - 1).toNat=i - 1:=by omega
   conv=>whnf
   repeat' (first|(refine ac (Lq _) rfl rfl ?_;rotate_right;conv=>whnf)|(refine ac (Qe f (by omega) hs _) rfl rfl ?_;rotate_right;conv=>whnf)|(refine ac (Qo _ hx2.2.2) rfl rfl ?_;rotate_right;conv=>whnf)|(refine ac (E7 _ _) rfl rfl ?_;rotate_right;conv=>whnf)|(refine ac (Ax _ _) rfl rfl ?_;rotate_right;conv=>whnf)|((first|refine aw (DW [eO (f.plt.getD ((i:Int) - 1).toNat dp).frm (f.plt.getD (i:Int).toNat dp).frm,dJ (f.plt.getD ((i:Int) - 1).toNat dp).veh (f.plt.getD (i:Int).toNat dp).veh,dJ (f.plt.getD ((i:Int) - 1).toNat dp).plt (f.plt.getD (i:Int).toNat dp).plt] (by simp)) ⟨aj (by rfl) (by rfl),trivial⟩ rfl ?_|(refine aa ?_ ?_<;>intro hb<;>try simp only[az]at hb)|refine aq hT 14 jo ?_|refine aq hT 17 jC ?_|omega|refine aA ?_|decide|assumption)<;>conv=>whnf))
   all_goals first
    | (refine .ret _ ?_
       conv=>whnf
       refine⟨[],⟨?_,rfl⟩,trivial⟩;conv=>lhs;whnf
       congr 2
       exact(hbad _ (by omega) (by decide) (by clear p2 hbad hk hx hx2;simp only[e1,hz]at*;unfold ph;(try unfold k0);grind)).symm)
    | (have hcmp:0<i→k0 (f.plt.getD (i - 1) dp) (f.plt.getD i dp)<0:=by
        intro _
        first
         |(exfalso;omega)
         |(clear p2 hbad hk hx hx2;simp only[e1,hz]at*;unfold k0;assumption)
       have eJ:∀j,j≤i→0<j→k0 (f.plt.getD (j - 1) dp) (f.plt.getD j dp)<0:=fun j h1 h2=>by
        rcases Nat.lt_or_ge j i with q|q
        · exact DK (p2 j q) h2
        · obtain rfl:j=i:=by omega
          exact hcmp h2
       have hz0:∀ (c:Bool),ph f i=(if(f.plt.take i).any (HF (f.plt.getD i dp))=true then 6 else 0):=by
        intro _;clear p2 hbad hk hx hx2;simp only[e1,hz]at*;unfold ph;grind
       have hz0:=hz0 true
       refine ah hT (C:= []) (ι:=Nat) (fun m=>m≤i∧∀j,m≤j→j<i→(f.plt.getD j dp).frm=(f.plt.getD i dp).frm∧HF (f.plt.getD i dp) (f.plt.getD j dp)=false)
        (fun m=>aI [(1,.ptr 1 0),(4,.ptr 4 0),(6,.d (.int .i64 ((m:Int) - 1))),(13,.d (wG f.plt)),(14,.d (.int .i64 f.plt.length)),(15,.d (.int .i64 i))] [(1,Mq f),(4,Pm (f.plt.getD (i:Int).toNat dp))]) (fun m=>m) i ⟨by omega,fun j h1 h2=>by omega⟩ (by exact be [(1,1),(4,4)]) ?_
       rintro m ⟨q1,q2⟩;have hm1:0<m→((m:Int) - 1).toNat=m - 1:=fun h=>by omega
       conv=>whnf
       repeat' (first|((first|(refine aa ?_ ?_<;>intro hb<;>try simp only[az]at hb)|refine aq hT 14 jo ?_|refine aq hT 17 jC ?_|omega|refine aA ?_|decide|assumption)<;>conv=>whnf))
       all_goals first
        | (refine .ret _ ?_
           conv=>whnf
           refine⟨[],⟨?_,rfl⟩,trivial⟩;conv=>lhs;whnf
           congr 2
           refine(hbad _ (by omega) (by decide) ?_).symm
           rw[hz0,if_pos (HR hi (k:=m - 1) (by omega) (by clear p2 hbad hk hx hx2 eJ;simp only[e1,hm1 (by omega)]at*;unfold HF;grind))])
        |exact⟨m - 1,⟨by omega,fun j h1 h2=>by
         rcases Nat.lt_or_ge j m with r|r
         · obtain rfl:j=m - 1:=by omega
           clear p2 hbad hk hx hx2 eJ;simp only[e1,hm1 (by omega)]at*;unfold HF;grind
         · exact q2 j r h2⟩,by show m - 1<m;omega,af [(1,1),(4,4)] rfl rfl ⟨lr,lr,ap (by omega),lr,lr,lr,trivial⟩ ⟨rr,rr,trivial⟩⟩
        |exact⟨i+1,⟨by omega,aU p2 (by
         rw[hz0,I1 hi q1 (fun j h1 h2=>(q2 j h1 h2).2) (fun j h1=>by
          have h2:=yQ eJ i (m - 1) (by omega) (by omega);have h3:=yQ eJ (m - 1) j (by omega) (by omega);clear p2 hbad hk hx hx2 eJ;simp only[e1,hm1 (by omega)]at*
          omega)]
         rfl)⟩,by omega,(by exact be [(1,1)])⟩)
 have hil:i=f.plt.length:=by omega
 subst hil;have F2:=aF p2;clear hbad hx p2;conv=>whnf
 repeat' (first|((first|(refine aa ?_ ?_<;>intro hb<;>try simp only[az]at hb)|refine aq hT 14 jo ?_|refine aq hT 17 jC ?_|omega|refine aA ?_|decide|assumption)<;>conv=>whnf))
 all_goals try(exfalso;omega)
 refine .ret _ ?_;conv=>whnf
 refine⟨[],⟨?_,rfl⟩,trivial⟩;conv=>lhs;whnf
 congr 2
 unfold vu;rw[if_neg (by omega)];exact F2.symm
def qw:OL:= [(0,[]),(1,[]),(3,[0,1]),(4,[0,1]),(6,[0,1,3,4]),(7,[0,1,3,4]),(8,[0,1,3,4]),(9,[0,1,3,4]),(2,[3,4,6,7,8,9]),(5,[6,7,8,9]),(10,[]),(11,[]),(12,[]),(13,[])]
def qI:OL:= [(0,[]),(1,[]),(2,[]),(3,[]),(4,[]),(5,[3,4]),(6,[3,4]),(7,[3,4,5,6]),(8,[3,4,5,6]),(9,[3,4]),(10,[3,4]),(11,[3,4]),(12,[]),(13,[]),(14,[])]
set_option maxHeartbeats 4000000 in
theorem Lc (f:lR)(hk:vn f):ai Tryz.prog 65 [flt f] [] (fun x r=>x= .d (.int .i64 (lN f))∧r= []):=by
 have hlv:=hk.veh.1;have hlp:=hk.plt.1
 have H:(if decide ((500:Int)<f.veh.length)=true then(2:Int)else 0)=if 500<f.veh.length then 2 else 0:=by
  simp only[decide_eq_true_eq];congr 1;rw[eq_iff_iff];omega
 have h3:=gp [lJ f.sta,gz f.cls,if decide ((500:Int)<f.veh.length)=true then 2 else 0] (by simp);rw[show al [lJ f.sta,gz f.cls,if decide ((500:Int)<f.veh.length)=true then 2 else 0]=nJ f from by rw[H];rfl]at h3;refine ae hT (C:= []) Tryz.func65 rfl Tryz.call65 rfl rfl rfl ?_;conv=>whnf
 repeat' (first|(refine ac (N7 f.sta hk.sta) rfl rfl ?_;rotate_right;conv=>whnf)|(refine ac (z175 f.cls hk.cls) rfl rfl ?_;rotate_right;conv=>whnf)|(refine ac (fC _ _) rfl rfl ?_;rotate_right;conv=>whnf)|((first|refine aw h3 ⟨aj (by rfl) (by rfl),trivial⟩ rfl ?_|(refine aa ?_ ?_<;>intro hb<;>try simp only[az]at hb)|refine aq hT 1 qw ?_|refine aq hT 9 qI ?_|omega|refine aA ?_|decide|assumption)<;>conv=>whnf))
 · refine .ret _ ?_;conv=>whnf
   refine⟨[],⟨?_,rfl⟩,trivial⟩;conv=>lhs;whnf
   congr 2
   unfold lN;rw[if_pos hb]
 have F0:nJ f=0:=hb;refine ah hT (C:= []) (ι:=Nat) (fun i=>i≤f.veh.length∧∀j,j<i→jB f j=0) (fun i=>aI [(1,.ptr 1 0),(23,.d (lY f.veh)),(24,.d (.int .i64 f.veh.length)),(25,.d (.int .i64 i))] [(1,Mq f)]) (fun i=>f.veh.length - i) 0 ⟨by omega,by omega⟩ (by exact be [(1,1)]) ?_;rintro i ⟨p1,p2⟩;have hx:(i:Int)<f.veh.length→(f.veh.getD (i:Int).toNat bD).key.length≤2^40∧(f.veh.getD (i:Int).toNat bD).cls.length≤2^40:=fun hi=>hk.veh.2 _ (ao (by omega))
 have e1:(i:Int).toNat=i:=Int.toNat_natCast i
 have hbad:∀e:Int,i<f.veh.length→e≠0→jB f i=e→lN f=e:=fun e h h1 h2=>by
  unfold lN;rw[if_neg (by omega),aX h p2 h1 h2,if_pos h1]
 rcases Nat.lt_or_ge i f.veh.length with hi|hi
 · conv =>whnf
   repeat' (first|(refine ac (iR _ (hx (by omega)).1) rfl rfl ?_;rotate_right;conv=>whnf)|(refine ac (LK f.cls (Nat.le_trans hk.cls.1 (by decide)) _) rfl rfl ?_;rotate_right;conv=>whnf)|((first|(refine aa ?_ ?_<;>intro hb<;>try simp only[az]at hb)|refine aq hT 1 qw ?_|refine aq hT 9 qI ?_|omega|refine aA ?_|decide|assumption)<;>conv=>whnf))
   all_goals try(exfalso;omega)
   all_goals first
    |(refine⟨i+1,⟨by omega,aU p2 (by clear p2 hbad hk hx;simp only[e1,aP]at*;unfold jB dI;grind)⟩,by omega,(by exact be [(1,1)])⟩)
    | (refine .ret _ ?_
       conv=>whnf
       refine⟨[],⟨?_,rfl⟩,trivial⟩;conv=>lhs;whnf
       congr 2
       exact(hbad _ (by omega) (by decide) (by clear p2 hbad hk hx;simp only[e1,aP]at*;unfold jB dI;grind)).symm)
 have hil:i=f.veh.length:=by omega
 subst hil;have F1:=aF p2;clear hbad hx p2;conv=>whnf
 repeat' (first|(refine ac (QF f hk (qT F1)) rfl rfl ?_;rotate_right;conv=>whnf)|((first|(refine aa ?_ ?_<;>intro hb<;>try simp only[az]at hb)|refine aq hT 1 qw ?_|refine aq hT 9 qI ?_|omega|refine aA ?_|decide|assumption)<;>conv=>whnf))
 all_goals try(exfalso;omega)
 refine .ret _ ?_;conv=>whnf
 refine⟨[],⟨?_,rfl⟩,trivial⟩;conv=>lhs;whnf
 congr 2
 unfold lN vu;simp[F0,F1]
def s9:OL:= [(0,[]),(1,[]),(2,[0,1]),(3,[0,1]),(5,rg 4),(6,rg 4),(7,[0,1,2,3,5,6]),(8,[0,1,2,3,5,6]),(4,[5,6,7,8]),(9,[]),(10,[]),(11,[]),(12,[])]
def AO:OL:= [(0,[]),(1,[]),(2,[0,1]),(3,[0,1]),(4,rg 4),(5,rg 4),(6,rg 6),(7,rg 6),(8,[]),(9,rg 9),(10,rg 9),(11,rg 11),(12,rg 11),(13,rg 13),(14,rg 13),(15,rg 15),(16,rg 15),(17,rg 9),(18,[9,10,11,12,13,14,15,16,17]),(19,[])]
structure fg where
 cls:List UInt8
 frm:Int
 to:Int
 hr:Int
 dy:Int
 we:Int
 wk:Int
def ft (x:fg):List DV:= [.str x.cls,.int .i64 x.frm,.int .i64 x.to,.int .i64 x.hr,.int .i64 x.dy,.int .i64 x.we,.int .i64 x.wk]
def aV:fg:=⟨[],0,0,0,0,0,0⟩
abbrev fG (l:List fg):DV:=dC 7 ft aV l
def rp (n:Int):Prop:= -1≤n∧n≤1000000
instance (n:Int):Decidable (rp n):=by unfold rp;infer_instance
def nums (x:fg):Prop:=rp x.hr∧rp x.dy∧rp x.we∧rp x.wk
instance (x:fg):Decidable (nums x):=by unfold nums;infer_instance
theorem wK (a b:List UInt8)(m n:Int):(0≤al [dJ a b,eO m n])=(Op.bytesLess b a=true∨(a=b∧n≤m)):=by
 apply propext
 unfold al dJ eO al al;have h1:=fZ a b;have h2:=dX a;grind [fx]
theorem tu (a b c d:List UInt8):(0≤al [dJ a b,dJ c d])=(Op.bytesLess b a=true∨(a=b∧dI d c=true)):=by
 apply propext
 unfold al dJ al al dI;have h1:=fZ a b;have h2:=dX a;have h3:=fZ c d;have h4:=dX c;grind [fx]
theorem Dh (a b:List UInt8)(m n:Int):(al [dJ a b,eO m n]<0)=¬ (Op.bytesLess b a=true∨(a=b∧n≤m)):=by
 rw[←wK];exact propext Int.not_le.symm
theorem xU (a b c d:List UInt8):(al [dJ a b,dJ c d]<0)=¬ (Op.bytesLess b a=true∨(a=b∧dI d c=true)):=by
 rw[←tu];exact propext Int.not_le.symm
def ll (l:List fg)(i:Nat):Int:=
 let x:=l.getD i aV
 let q:=l.getD (i - 1) aV
 if aE x.cls=false then 5 else if ¬ (0≤x.frm∧x.frm<x.to∧x.to≤4001∧nums x)then 1 else if 0<i∧(Op.bytesLess x.cls q.cls=true∨(q.cls=x.cls∧x.frm≤q.frm))then 7 else if 0<i∧q.cls=x.cls∧x.frm<q.to then 13 else 0
def cR (l:List fg):Int:=if 200<l.length then 2 else bf (ll l) l.length
def Gp (x:fg):Prop:=x.cls.length≤2^40
def sX (l:List fg):Prop:=l.length≤2^40∧∀x ∈ l,Gp x
theorem CX (p q r t c:Int):(min (min (min p q) r) t<c)=(p<c∨q<c∨r<c∨t<c):=by apply propext;omega
theorem CZ (p q r t c:Int):(c<max (max (max p q) r) t)=(c<p∨c<q∨c<r∨c<t):=by apply propext;omega
set_option maxHeartbeats 4000000 in
theorem H9 (l:List fg)(hk:sX l):ai Tryz.prog 69 [.d (fG l)] [] (fun x r=>x= .d (.int .i64 (cR l))∧r= []):=by
 refine ae hT (C:= []) Tryz.func69 rfl Tryz.call69 rfl rfl rfl ?_;conv=>whnf
 refine aa (fun h0=> ?_) (fun h0=> ?_)
 · simp at h0;conv=>whnf
   refine .ret _ ?_;conv=>whnf
   refine⟨[],⟨?_,rfl⟩,trivial⟩;conv=>lhs;whnf
   unfold cR;rw[if_pos (by omega)]
 simp at h0;conv=>whnf
 refine ah hT (C:= []) (ι:=Nat) (fun i=>i≤l.length∧∀j,j<i→ll l j=0) (fun i=>aI [(0,.d (fG l)),(11,.d (fG l)),(12,.d (.int .i64 l.length)),(13,.d (.int .i64 i))] []) (fun i=>l.length - i) 0 ⟨by omega,by omega⟩ (by exact be []) ?_;rintro i ⟨p1,p2⟩;have hx:(i:Int)<l.length→Gp (l.getD (i:Int).toNat aV):=fun hi=>hk.2 _ (ao (by omega))
 have e1:(i:Int).toNat=i:=Int.toNat_natCast i
 have hbad:∀e:Int,i<l.length→e≠0→ll l i=e→cR l=e:=fun e h h1 h2=>by
  unfold cR;rw[if_neg (by omega)];exact aX h p2 h1 h2
 conv=>whnf
 repeat' (first|(refine ac (iR _ (hx (by omega))) rfl rfl ?_;rotate_right;conv=>whnf)|((first|(refine aa ?_ ?_<;>intro hb<;>try simp only[az]at hb)|refine aq hT 18 s9 ?_|omega|refine aA ?_|decide|assumption)<;>conv=>whnf))
 · refine .ret _ ?_;conv=>whnf
   refine⟨[],⟨?_,rfl⟩,trivial⟩;conv=>lhs;whnf
   congr 2
   exact(hbad _ (by omega) (by decide) (by clear p2 hbad hk hx;simp only[e1]at*;unfold ll;grind)).symm
 · refine .ret _ ?_;conv=>whnf
   refine⟨[],⟨?_,rfl⟩,trivial⟩;conv=>lhs;whnf
   congr 2
   exact(hbad _ (by omega) (by decide) (by clear p2 hbad hk hx;simp only[e1]at*;unfold ll;grind)).symm
 · refine .ret _ ?_;conv=>whnf
   refine⟨[],⟨?_,rfl⟩,trivial⟩;conv=>lhs;whnf
   congr 2
   exact(hbad _ (by omega) (by decide) (by clear p2 hbad hk hx;simp only[e1]at*;unfold ll;grind)).symm
 · refine .ret _ ?_;conv=>whnf
   refine⟨[],⟨?_,rfl⟩,trivial⟩;conv=>lhs;whnf
   congr 2
   exact(hbad _ (by omega) (by decide) (by clear p2 hbad hk hx;simp only[e1]at*;unfold ll;grind)).symm
 · have hi:i<l.length:=by omega
   have hN:aE (l.getD i aV).cls=true∧0≤(l.getD i aV).frm∧(l.getD i aV).frm<(l.getD i aV).to∧(l.getD i aV).to≤4001:=by clear p2 hbad hk hx;simp only[e1]at*;grind
   have hR:ll l i=if ¬nums (l.getD i aV)then 1 else if 0<i∧(Op.bytesLess (l.getD i aV).cls (l.getD (i - 1) aV).cls=true∨((l.getD (i - 1) aV).cls=(l.getD i aV).cls∧(l.getD i aV).frm≤(l.getD (i - 1) aV).frm))then 7 else if 0<i∧(l.getD (i - 1) aV).cls=(l.getD i aV).cls∧(l.getD i aV).frm<(l.getD (i - 1) aV).to then 13 else 0:=by
    obtain⟨n1,n2,n3,n4⟩:=hN;unfold ll;simp only;rw[if_neg (by rw[n1];simp)]
    by_cases hn:nums (l.getD i aV)<;>simp only[hn,n2,n3,n4,and_true,and_false,true_and,not_true_eq_false,not_false_eq_true,if_true,if_false]
   obtain⟨X,hX⟩:∃X,X=l.getD (i:Int).toNat aV:=⟨_,rfl⟩;have hX2:l.getD i aV=X:=hX.symm;rw[hX2]at hN hR;refine ah hT (C:= []) (ι:=Nat) (fun k=>k≤4∧∀j,j<k→rp (([X.hr,X.dy,X.we,X.wk]:List Int).getD j 0)) (fun k=>aI [(0,.d (fG l)),(3,.d (.int .i64 i)),(4,.ptr 4 0),(11,.d (fG l)),(12,.d (.int .i64 l.length)),(13,.d (.int .i64 i)),(47,.d (gr [X.hr,X.dy,X.we,X.wk])),(48,.d (.int .i64 4)),(49,.d (.int .i64 k))] [(4,.cells 168 ((ft X).map .d))]) (fun k=>4 - k) 0 ⟨by omega,by omega⟩ (by subst hX;exact(by(refine af [(4,4)] rfl rfl ?_ ?_<;>repeat' (first|exact True.intro|exact lr|exact rr|(exact aj rfl rfl)|exact ap (by omega)|exact a7 _|refine And.intro ?_ ?_));done)) ?_;rintro k ⟨q1,q2⟩;have e2:(k:Int).toNat=k:=Int.toNat_natCast k;clear hx hk;conv=>whnf
   repeat' (first|(refine ac (ix _ _ _) rfl rfl ?_;rotate_right;conv=>whnf)|(refine ac (Ax _ _) rfl rfl ?_;rotate_right;conv=>whnf)|(refine ac (E7 _ _) rfl rfl ?_;rotate_right;conv=>whnf)|((first|refine aw (DW [_,_] (by simp)) ⟨aj (by rfl) (by rfl),trivial⟩ rfl ?_|(refine aa ?_ ?_<;>intro hb<;>try simp only[az]at hb)|refine aq hT 18 s9 ?_|omega|refine aA ?_|decide|assumption)<;>conv=>whnf))
   · refine .ret _ ?_;conv=>whnf
     refine⟨[],⟨?_,rfl⟩,trivial⟩;conv=>lhs;whnf
     congr 2
     refine(hbad _ hi (by decide) ?_).symm;rw[hR,if_pos];rintro⟨⟨n1,n2⟩,⟨n3,n4⟩,⟨n5,n6⟩,n7,n8⟩;have hk4:k=0∨k=1∨k=2∨k=3:=by omega
     rcases hk4 with rfl|rfl|rfl|rfl<;>(simp only[Int.toNat_natCast,List.getD_cons_zero,List.getD_cons_succ]at hb;omega)
   · exact⟨k+1,⟨by omega,bw q2 hb⟩,by omega,(by exact be [(4,4)])⟩
   all_goals
    have hk4:k=4:=by omega
    subst hk4;have hn:nums X:=⟨q2 0 (by omega),q2 1 (by omega),q2 2 (by omega),q2 3 (by omega)⟩;rw[if_neg (fun h=>h hn)]at hR;clear q1 q2 e2 hN
    first
     |(refine⟨i+1,⟨by omega,aU p2 (by rw[hR];clear p2 hbad hR hX hX2;simp only[e1,aP]at*;(try simp only[wK,Dh]at*);grind)⟩,by omega,(by exact be [])⟩)
     | (refine .ret _ ?_
        conv=>whnf
        refine⟨[],⟨?_,rfl⟩,trivial⟩;conv=>lhs;whnf
        congr 2
        exact(hbad _ hi (by decide) (by rw[hR];clear p2 hbad hR hX hX2;simp only[e1,aP]at*;(try simp only[wK,Dh]at*);grind)).symm)
 · refine .ret _ ?_;conv=>whnf
   refine⟨[],⟨?_,rfl⟩,trivial⟩;conv=>lhs;whnf
   congr 2
   have:i=l.length:=by omega
   subst this;unfold cR;rw[if_neg (by omega),aF p2]
set_option maxHeartbeats 4000000 in
theorem P6 (l:List fg)(hk:sX l):ai Tryz.prog 139 [.d (fG l)] [] (fun x r=>x= .d (.int .i64 (cR l))∧r= []):=by
 refine ae hT (C:= []) Tryz.func139 rfl Tryz.call139 rfl rfl rfl ?_;conv=>whnf
 refine aa (fun h0=> ?_) (fun h0=> ?_)
 · simp at h0;conv=>whnf
   refine .ret _ ?_;conv=>whnf
   refine⟨[],⟨?_,rfl⟩,trivial⟩;conv=>lhs;whnf
   unfold cR;rw[if_pos (by omega)]
 simp at h0;conv=>whnf
 refine ah hT (C:= []) (ι:=Nat) (fun i=>i≤l.length∧∀j,j<i→ll l j=0) (fun i=>aI [(0,.d (fG l)),(11,.d (fG l)),(12,.d (.int .i64 l.length)),(13,.d (.int .i64 i))] []) (fun i=>l.length - i) 0 ⟨by omega,by omega⟩ (by exact be []) ?_;rintro i ⟨p1,p2⟩;have hx:(i:Int)<l.length→Gp (l.getD (i:Int).toNat aV):=fun hi=>hk.2 _ (ao (by omega))
 have e1:(i:Int).toNat=i:=Int.toNat_natCast i
 have hbad:∀e:Int,i<l.length→e≠0→ll l i=e→cR l=e:=fun e h h1 h2=>by
  unfold cR;rw[if_neg (by omega)];exact aX h p2 h1 h2
 conv=>whnf
 repeat' (first|(refine ac (J4 _ (hx (by omega))) rfl rfl ?_;rotate_right;conv=>whnf)|((first|(refine aa ?_ ?_<;>intro hb<;>try simp only[az]at hb)|refine aq hT 6 AO ?_|omega|refine aA ?_|decide|assumption)<;>conv=>whnf))
 all_goals first
  |(refine⟨i+1,⟨by omega,aU p2 (by clear p2 hbad hk hx;simp only[e1,aP]at*;unfold ll nums rp;(try simp only[CX,CZ]at*);grind)⟩,by omega,(by exact be [])⟩)
  | (refine .ret _ ?_
     conv=>whnf
     refine⟨[],⟨?_,rfl⟩,trivial⟩;conv=>lhs;whnf
     congr 2
     first
      |exact(hbad _ (by omega) (by decide) (by clear p2 hbad hk hx;simp only[e1,aP]at*;unfold ll nums rp;(try simp only[CX,CZ]at*);grind)).symm
      | (have:i=l.length:=by omega
         subst this
         unfold cR;rw[if_neg (by omega),aF p2]))
def v7:OL:= [(0,[]),(1,[0]),(2,[0]),(3,[0]),(4,rg 4),(5,rg 4),(6,rg 4),(7,rg 7),(8,rg 7),(9,rg 7),(10,rg 10),(11,rg 10),(12,rg 10),(13,rg 13),(14,rg 13),(15,rg 13),(16,rg 16),(17,rg 16),(18,rg 16),(19,rg 19),(20,rg 19),(21,rg 19),(22,[0]),(23,[0]),(24,[]),(25,[])]
def fF (p:fg):List jO:= [.inr p.cls,.inl p.frm,.inl p.to,.inl p.hr,.inl p.dy,.inl p.we,.inl p.wk]
def L5 (n:Int):Prop:= -2^60≤n∧n≤2^60
def zT (p:fg):Prop:=p.cls.length≤2^10∧L5 p.frm∧L5 p.to∧L5 p.hr∧L5 p.dy∧L5 p.we∧L5 p.wk
theorem CB {p:fg}(h:zT p):Ey (fF p):=by
 obtain⟨h1,⟨a1,a2⟩,⟨b1,b2⟩,⟨c1,c2⟩,⟨d1,d2⟩,⟨e1,e2⟩,f1,f2⟩:=h;refine⟨by simp[fF],fun q hq=> ?_⟩;simp only[fF,List.mem_cons,List.not_mem_nil,or_false]at hq;have i1:=cp a1 a2;have i2:=cp b1 b2;have i3:=cp c1 c2;have i4:=cp d1 d2;have i5:=cp e1 e2;have i6:=cp f1 f2;rcases hq with rfl|rfl|rfl|rfl|rfl|rfl|rfl<;>simp only[bJ]<;>omega
theorem Jr {p:fg}(h:zT p):∀q ∈ fF p,my q:=by
 obtain⟨h1,⟨a1,a2⟩,⟨b1,b2⟩,⟨c1,c2⟩,⟨d1,d2⟩,⟨e1,e2⟩,f1,f2⟩:=h;intro q hq;simp only[fF,List.mem_cons,List.not_mem_nil,or_false]at hq;rcases hq with rfl|rfl|rfl|rfl|rfl|rfl|rfl<;>simp only[my]<;>first|trivial|omega
theorem Kv:zT aV:=by simp[zT,aV,L5]
set_option maxHeartbeats 2000000 in
theorem Ow (l:List fg)(hk:sX l)(hl:l.length≤2^15∧∀p ∈ l,zT p)(hsz:(bV fF l).length≤200000):ai Tryz.prog 22 [.d (dC 7 ft aV l)] kx (fun x r=>x= .tup [.d (.str (if cR l=0 then bV fF l else [])),.d (.int .i64 (cR l))]∧r=kx):=by
 have hq:∀i,zT (l.getD i aV):=fun i=>by
  rcases Nat.lt_or_ge i l.length with q|q
  · exact hl.2 _ (ao q)
  · rw[List.getD_eq_getElem?_getD,List.getElem?_eq_none q];exact Kv
 have hJ:=fun i=>je (CB (hq i))
 have hC:=fun i=>tJ (fF (l.getD i aV)) (by simp[fF]) (Jr (hq i)) (by have:=hJ i;omega)
 have hT':=fun i=>yu (pf:=fF) (l:=l.take i) (fun p hp=>CB (hl.2 p (List.mem_of_mem_take hp)))
 have hlen:=hl.1;refine ae hT (C:= []) Tryz.func22 rfl Tryz.call22 rfl rfl rfl ?_;conv=>whnf
 repeat' (first|(refine ac (H9 l hk) rfl rfl ?_;rotate_right;conv=>whnf)|((first|(refine aa ?_ ?_<;>intro hb<;>try simp only[az]at hb)|omega|refine aA ?_|decide|assumption)<;>conv=>whnf))
 · refine .ret _ ?_;conv=>whnf
   refine⟨kx,⟨congrArg SV.tup ?_,rfl⟩,rr,trivial⟩;repeat' (refine aN ?_ ?_)
   all_goals (conv=>lhs;whnf)
   all_goals try(with_reducible rfl)
   · rw[if_neg hb]
 have h0:=hb;rw[h0,if_pos rfl];rcases Nat.eq_zero_or_pos l.length with h00|h00
 · refine bU hT (C:= []) (fun _ _ h=>h) (fun _ h=>h) ?_;conv=>whnf
   repeat' (first|(refine cd JR [(1000001,5)] ?_;rintro x rout ⟨rfl,rfl⟩;refine⟨rfl,?_⟩;conv=>whnf)|(refine ac (FB _ (by simp[Oh hsz])) rfl rfl ?_;rotate_right;conv=>whnf)|((first|(refine aa ?_ ?_<;>intro hb<;>try simp only[az]at hb)|omega|refine aA ?_|decide|assumption)<;>conv=>whnf))
   have:l= []:=List.eq_nil_of_length_eq_zero h00;subst this;refine .ret _ ?_;conv=>whnf
   refine⟨kx,⟨congrArg SV.tup ?_,rfl⟩,rr,trivial⟩;repeat' (refine aN ?_ ?_)
   all_goals (conv=>lhs;whnf)
   all_goals try(with_reducible rfl)
   all_goals rfl
 have hJ0:=hJ 0;refine bU hT (C:= []) (fun _ _ h=>h) (fun _ h=>h) ?_;conv=>whnf
 repeat' (first|((first|refine dQ.look (hC 0) [(1000009,1000009)] rfl ⟨aj rfl rfl,trivial⟩ ⟨⟨_,rfl,rfl⟩,trivial⟩ rfl rfl rfl ?_|(refine cd (KD (qB (fF (l.getD 0 aV))) (by unfold qB;have:=hJ 0;simp only[List.length_append,List.length_singleton];omega)) [(1000001,5),(14,40)] ?_;rintro x rout ⟨rfl,rfl⟩;refine⟨rfl,?_⟩)|(refine aa ?_ ?_<;>intro hb<;>try simp only[az]at hb)|omega|refine aA ?_|decide|assumption)<;>conv=>whnf))
 have he1:qB (fF (l.getD 0 aV))=bV fF (l.take 1):=by rw[kA (d:=aV) h00];simp[bV]
 refine ah hT (C:= []) (ι:=Nat) (fun i=>i≤l.length) (fun i=>aI [(5,.ptr 5 0),(13,.d (dC 7 ft aV l)),(14,.d (.int .i64 l.length)),(15,.d (.int .i64 i))] [(1000009,KX),(5,.cells 144 [.ptr 5 0,.buf 40]),(40,mj (bV fF (l.take i)))]) (fun i=>l.length - i) 1 h00 ?_ ?_
 · rw[←he1];exact(by exact be [(1000009,1000009),(5,5),(40,40)])
 intro i hi;have hJi:=hJ i;have hTi:=hT' i;have hTl:(l.take i).length=i:=by simp;omega
 rw[hTl]at hTi;conv=>whnf
 repeat' (first|((first|refine dQ.look (hC i) [(1000009,1000009)] rfl ⟨aj rfl rfl,trivial⟩ ⟨⟨_,rfl,rfl⟩,trivial⟩ rfl rfl rfl ?_|(refine cd (wt (bV fF (l.take i)) (qB (fF (l.getD i aV))) (by unfold qB;simp only[List.length_append,List.length_singleton];omega)) JX ?_;rintro x rout ⟨rfl,rfl⟩;refine⟨rfl,?_⟩)|(refine cd (GM (bV fF (l.take i)) (.ptr 1000001 0)) [(1000001,5),(1000002,40)] ?_;rintro x rout ⟨rfl,rfl⟩;refine⟨rfl,?_⟩))<;>conv=>whnf)|(refine ac (FB _ (by simp[Oh hsz])) rfl rfl ?_;rotate_right;conv=>whnf)|((first|(refine aa ?_ ?_<;>intro hb<;>try simp only[az]at hb)|omega|refine aA ?_|decide|assumption)<;>conv=>whnf))
 · have hlt:i<l.length:=by omega
   refine⟨i+1,by omega,by omega,?_⟩;rw[kA (d:=aV) hlt];exact(by exact be [(1000009,1000009),(5,5),(40,41)])
 · have:i=l.length:=by omega
   subst this;refine .ret _ ?_;conv=>whnf
   refine⟨kx,⟨congrArg SV.tup ?_,rfl⟩,rr,trivial⟩;repeat' (refine aN ?_ ?_)
   all_goals (conv=>lhs;whnf)
   all_goals try(with_reducible rfl)
   · rw[List.take_length]
def ic (line:List UInt8)(l:List fg):Bool×List fg:=
 bif gf (Lib.split line [32])&&decide ((Lib.split line [32]).length=7)&&((Lib.split line [32]).drop 1).all dB then
  (true,l++ [⟨(Lib.split line [32]).getD 0 [],(((Lib.split line [32]).drop 1).map fd).getD 0 0,(((Lib.split line [32]).drop 1).map fd).getD 1 0,(((Lib.split line [32]).drop 1).map fd).getD 2 0,(((Lib.split line [32]).drop 1).map fd).getD 3 0,(((Lib.split line [32]).drop 1).map fd).getD 4 0,(((Lib.split line [32]).drop 1).map fd).getD 5 0⟩])else(false,l)
theorem Hx {W:List (List UInt8)}(i:Nat):(aW sF [] W (1+i):List DV)=aW sF [] (W.drop 1) i:=by
 unfold aW;rw[List.getD_eq_getElem?_getD,List.getD_eq_getElem?_getD,List.getElem?_drop]
set_option maxHeartbeats 4000000 in
theorem MO (line:List UInt8)(l:List fg)(h1:line.length≤2^20)(h2:l.length≤2^21):
 ai Tryz.prog 70 [.d (.str line),.ptr 1000005 0] [(1000009,KX),(1000005,fT 32 1000003),(1000003,aL 168 7 ft aV l)] (fun x r=>x= .d (.bool (ic line l).1)∧r= [(1000009,KX),(1000005,fT 32 46),(46,aL 168 7 ft aV (ic line l).2)]):=by
 have hsl:=tA line [32] (by decide)
 have hmem:∀x ∈ (Lib.split line [32]).drop 1,x.length≤2^40:=fun x hx=>by
  have:=sD (List.mem_of_mem_drop hx);omega
 have hN:=LW ((Lib.split line [32]).drop 1) (by rw[List.length_drop];omega) hmem;unfold ic;generalize hW:Lib.split line [32]=W at hsl hmem hN;have hWz:=NX line (by omega);rw[hW]at hWz;have hdr:=@Hx W;have hdl:(W.drop 1).length=W.length - 1:=List.length_drop
 cases hA:(W.drop 1).all dB with
 | false=>
   rw[hA]at hN;rw[Bool.and_false,cond_false];refine ae hT (C:= []) Tryz.func70 rfl Tryz.call70 rfl rfl rfl ?_;conv=>whnf
   repeat' (first|((first|refine dm hWz rfl rfl rfl rfl ?_|refine dQ.look hN [(1000009,1000009)] rfl ⟨bZ (by omega) (fun j _=>hdr j),trivial⟩ ⟨⟨_,rfl,rfl⟩,trivial⟩ rfl rfl rfl ?_|(refine aa ?_ ?_<;>intro hb<;>try simp only[az]at hb)|refine aq hT 6 v7 ?_|omega|refine aA ?_|decide|assumption)<;>conv=>whnf))
   all_goals
    refine .ent _ (aI [(3,.d (.bool false))] [(1000009,KX),(1000005,fT 32 46),(46,aL 168 7 ft aV l)]) (by exact be MF) ?_;refine .ret _ ?_;conv=>whnf
    exact⟨[(1000009,KX),(1000005,fT 32 46),(46,aL 168 7 ft aV l)],⟨rfl,rfl⟩,rr,rr,rr,trivial⟩
 | true=>
   rw[hA]at hN;rw[Bool.and_true];have hml:((W.drop 1).map fd).length=W.length - 1:=by rw[List.length_map,hdl]
   generalize (W.drop 1).map fd=N at hN hml ⊢
   replace hN:ai Tryz.prog 64 [.d (eE (W.drop 1))] kx (fun x r=>x= .tup [.d (gr N),.d (.bool true)]∧r=kx):=hN
   refine ae hT (C:= []) Tryz.func70 rfl Tryz.call70 rfl rfl rfl ?_;conv=>whnf
   repeat' (first|((first|refine dm hWz rfl rfl rfl rfl ?_|refine dQ.look hN [(1000009,1000009)] rfl ⟨bZ (by omega) (fun j _=>hdr j),trivial⟩ ⟨⟨_,rfl,rfl⟩,trivial⟩ rfl rfl rfl ?_|(refine aa ?_ ?_<;>intro hb<;>try simp only[az]at hb)|refine aq hT 6 v7 ?_|omega|refine aA ?_|decide|assumption)<;>conv=>whnf))
   · rw[hb,Bool.false_and,cond_false];refine .ent _ (aI [(3,.d (.bool false))] [(1000009,KX),(1000005,fT 32 46),(46,aL 168 7 ft aV l)]) (by exact be MF) ?_;refine .ret _ ?_;conv=>whnf
     exact⟨[(1000009,KX),(1000005,fT 32 46),(46,aL 168 7 ft aV l)],⟨rfl,rfl⟩,rr,rr,rr,trivial⟩
   · have hb':decide (W.length=7)=false:=by simp;omega
     rw[hb',Bool.and_false,cond_false];refine .ent _ (aI [(3,.d (.bool false))] [(1000009,KX),(1000005,fT 32 46),(46,aL 168 7 ft aV l)]) (by exact be MF) ?_;refine .ret _ ?_;conv=>whnf
     exact⟨[(1000009,KX),(1000005,fT 32 46),(46,aL 168 7 ft aV l)],⟨rfl,rfl⟩,rr,rr,rr,trivial⟩
   · rename_i hb0;have hb':decide (W.length=7)=true:=by simp;omega
     rw[hb',hb0,Bool.and_true,cond_true];refine .ent _ (aI [(3,.d (.bool true))] [(1000009,KX),(1000005,fT 32 46),(46,aL 168 7 ft aV (l++ [⟨W.getD 0 [],N.getD 0 0,N.getD 1 0,N.getD 2 0,N.getD 3 0,N.getD 4 0,N.getD 5 0⟩]))]) (by(refine af [(1000009,1000009),(1000005,1000005),(46,50)] rfl rfl ?_ ?_<;>repeat' (first|exact True.intro|exact lr|exact rr|(exact aG rfl)|exact ap (by omega)|exact a7 _|refine And.intro ?_ ?_));done) ?_;refine .ret _ ?_;conv=>whnf
     exact⟨[(1000009,KX),(1000005,fT 32 46),(46,aL 168 7 ft aV _)],⟨rfl,rfl⟩,rr,rr,rr,trivial⟩
theorem vE (line:List UInt8)(l:List fg):(ic line l).2.length≤l.length+1:=by
 unfold ic;generalize (gf (Lib.split line [32])&&decide ((Lib.split line [32]).length=7)&&((Lib.split line [32]).drop 1).all dB)=c;cases c<;>simp
theorem FC (line:List UInt8)(l:List fg)(h1:line.length≤2^40)(h:∀p ∈ l,Gp p):∀p ∈ (ic line l).2,Gp p:=by
 have hmem:((Lib.split line [32]).getD 0 []).length≤2^40:=by
  rcases Nat.lt_or_ge 0 (Lib.split line [32]).length with q|q
  · have:=sD (ao (x:= []) q);omega
  · rw[List.getD_eq_getElem?_getD,List.getElem?_eq_none q];simp
 unfold ic;generalize (gf (Lib.split line [32])&&decide ((Lib.split line [32]).length=7)&&((Lib.split line [32]).drop 1).all dB)=c
 cases c with
 |false=>exact h
 | true=>
   intro p hp;rcases List.mem_append.1 hp with q|q
   · exact h p q
   · simp at q;subst q;exact hmem
theorem Fa (text:List UInt8)(ht:text.length≤2^20):sX (gY ic (text.length+1) 0 text []).2:=
 ⟨by have:=pb vE (text.length+1) 0 text [];simp only[List.length_nil]at this;omega,yg (N:=2^40) (fun line l h1 h=>FC line l h1 h) _ _ _ _ (by omega) (by simp)⟩
theorem ML:GR 70 32 168 7 ft aV ic:=⟨vE,MO⟩
set_option maxHeartbeats 2000000 in
theorem OG (text:List UInt8)(ht:text.length≤2^20):ai Tryz.prog 23 [.d (.str text)] kx (fun x r=>x= .tup [.d (dC 7 ft aV (rA ic cR text).1),.d (.int .i64 (rA ic cR text).2.1),.d (.int .i64 (rA ic cR text).2.2)]∧r=kx):=by
 have hL:=Fl (by decide) (N0 ML text ht [] (by simp));have hlen:=pb (tk:=ic) (ML).1 (text.length+1) 0 text [];have hok:=Fa text ht;unfold rA;generalize gY ic (text.length+1) 0 text []=R at hL hlen hok ⊢;obtain⟨⟨ra,rb⟩,rl⟩:=R;refine ae hT (C:= []) Tryz.func23 rfl Tryz.call23 rfl rfl rfl ?_;conv=>whnf
 repeat' (first|((first|(refine cd hL [(1000005,5),(1000009,1000009),(40,41)] ?_;rintro x rout ⟨rfl,rfl⟩;refine⟨rfl,?_⟩)|(refine dQ.freeze _ _ _ _ 41 168 7 _ _ rfl rfl ?_;refine qJ (H9 rl hok) ?_)|(refine aa ?_ ?_<;>intro hb<;>try simp only[az]at hb)|omega|refine aA ?_|decide|assumption)<;>conv=>whnf))
 · have q:decide (200000<text.length)=true:=by simp;omega
   rw[q,cond_true];refine .weak _ ?_;conv=>whnf
   exact⟨.tup [.d (dC 7 ft aV []),.d (.int .i64 0),.d (.int .i64 2)],kx,bK ⟨aO,lr,lr,trivial⟩,⟨rfl,rfl⟩,rr,trivial⟩
 · have q:decide (200000<text.length)=false:=by simp;omega
   simp only[q,hb,cond_false];refine .weak _ ?_;conv=>whnf
   exact⟨.tup [.d (dC 7 ft aV []),.d (.int .i64 ra),.d (.int .i64 9)],kx,bK ⟨aO,lr,lr,trivial⟩,⟨rfl,rfl⟩,rr,trivial⟩
 · rename_i hb0 hb1;have q:decide (200000<text.length)=false:=by simp;omega
   have q2:decide (cR rl=0)=false:=by simp[hb]
   simp only[q,q2,hb1,cond_false,cond_true];refine .weak _ ?_;conv=>whnf
   exact⟨.tup [.d (dC 7 ft aV []),.d (.int .i64 0),.d (.int .i64 (cR rl))],kx,bK ⟨aO,lr,lr,trivial⟩,⟨rfl,rfl⟩,rr,trivial⟩
 · rename_i hb0 hb1;have q:decide (200000<text.length)=false:=by simp;omega
   have q2:decide (cR rl=0)=true:=by simp[hb]
   simp only[q,q2,hb1,cond_false,cond_true];refine .ret _ ?_;conv=>whnf
   refine⟨kx,⟨congrArg SV.tup ?_,rfl⟩,rr,trivial⟩;repeat' (refine aN ?_ ?_)
   all_goals (conv=>lhs;whnf)
   all_goals try(with_reducible rfl)
   all_goals rfl
theorem rY {l:List fg}(h:cR l=0){p:fg}(hp:p ∈ l):aE p.cls=true∧(0≤p.frm∧p.frm<p.to∧p.to≤4001)∧nums p:=by
 unfold cR at h
 by_cases q:200<l.length
 · rw[if_pos q]at h;exact absurd h (by decide)
 rw[if_neg q]at h;obtain⟨j,hj,rfl⟩:=a8 (d:=aV) hp;have:=bG h j hj;unfold ll at this
 dsimp only at this
 by_cases c1:aE (l.getD j aV).cls=false
 · rw[if_pos c1]at this;exact absurd this (by decide)
 rw[if_neg c1]at this
 by_cases c2:¬ (0≤(l.getD j aV).frm∧(l.getD j aV).frm<(l.getD j aV).to∧(l.getD j aV).to≤4001∧nums (l.getD j aV))
 · rw[if_pos c2]at this;exact absurd this (by decide)
 have c2:=Decidable.not_not.1 c2;exact⟨by simpa using c1,⟨c2.1,c2.2.1,c2.2.2.1⟩,c2.2.2.2⟩
theorem Fm {p:fg}(h:aE p.cls=true)(c:UInt8)(hc:c=32∨c=10):∀w ∈ (fF p).map bJ,c ∉ w:=fun w hw=>by
 simp only[fF,List.map_cons,List.map_nil,List.mem_cons,List.not_mem_nil,or_false,bJ]at hw;have k:=(mA h).1;have i:∀n,c ∉ Lib.itoa n:=fun n=>by rcases hc with rfl|rfl;exact xi n;exact xF n
 rcases hw with rfl|rfl|rfl|rfl|rfl|rfl|rfl
 · exact xZ k (by rcases hc with rfl|rfl<;>decide)
 all_goals exact i _
theorem KL {p:fg}(h1:aE p.cls=true)(h2:0≤p.frm∧p.frm<p.to∧p.to≤4001)(h3:nums p)(l:List fg):ic (Lib.join ((fF p).map bJ) [32]) l=(true,l++ [p]):=by
 obtain⟨⟨a1,a2⟩,⟨b1,b2⟩,⟨c1,c2⟩,d1,d2⟩:=h3;have n1:=gk (n:=p.frm) (by omega) (by omega);have n2:=gk (n:=p.to) (by omega) (by omega);have n3:=gk (n:=p.hr) (by omega) (by omega);have n4:=gk (n:=p.dy) (by omega) (by omega);have n5:=gk (n:=p.we) (by omega) (by omega);have n6:=gk (n:=p.wk) (by omega) (by omega);unfold ic;rw[th (by simp[fF]) (Fm h1 32 (.inl rfl))]
 have hw:gf ((fF p).map bJ)=true:=by
  unfold gf;simp only[Bool.not_eq_true',decide_eq_false_iff_not,fF,List.map_cons,List.map_nil,bJ,List.mem_cons,List.not_mem_nil,or_false,not_or];exact⟨fun q=>(mA h1).2.1 q.symm,fun q=>gU _ q.symm,fun q=>gU _ q.symm,fun q=>gU _ q.symm,fun q=>gU _ q.symm,fun q=>gU _ q.symm,fun q=>gU _ q.symm⟩
 rw[hw];simp[fF,bJ,n1.1,n1.2,n2.1,n2.2,n3.1,n3.2,n4.1,n4.2,n5.1,n5.2,n6.1,n6.2]
theorem yY {l:List fg}(h:cR l=0):l.length≤200:=by
 unfold cR at h
 by_cases q:200<l.length
 · rw[if_pos q]at h;exact absurd h (by decide)
 · omega
theorem DO {l:List fg}(hE:cR l=0):(bV fF l).length≤200000∧(∀p ∈ l,zT p)∧rA ic cR (bV fF l)=(l,0,0):=by
 have hr:∀p ∈ l,zT p:=fun p hp=>by
  obtain⟨h1,h2,⟨a1,a2⟩,⟨b1,b2⟩,⟨c1,c2⟩,d1,d2⟩:=rY hE hp;have:=(mA h1).2.2;exact⟨by omega,⟨by omega,by omega⟩,⟨by omega,by omega⟩,⟨by omega,by omega⟩,⟨by omega,by omega⟩,⟨by omega,by omega⟩,by omega,by omega⟩
 have hb:∀p ∈ l,(qB (fF p)).length≤400:=fun p hp=>by
  obtain⟨h1,_⟩:=rY hE hp;have:=(mA h1).2.2;obtain⟨_,⟨a1,a2⟩,⟨b1,b2⟩,⟨c1,c2⟩,⟨d1,d2⟩,⟨e1,e2⟩,f1,f2⟩:=hr p hp;have i1:=cp a1 a2;have i2:=cp b1 b2;have i3:=cp c1 c2;have i4:=cp d1 d2;have i5:=cp e1 e2;have i6:=cp f1 f2;simp only[qB,fF,List.map_cons,List.map_nil,bJ,gT,Lib.join_one,List.length_append,List.length_cons,List.length_nil];omega
 have h1:=oy (pf:=fF) l hb;have h2:l.length*400≤200*400:=Nat.mul_le_mul_right _ (yY hE);refine⟨by omega,hr,zS hE (by omega) (fun p hp=> ?_) (fun p hp m=> ?_)⟩
 · exact rQ (by decide) (Fm (rY hE hp).1 10 (.inr rfl))
 · obtain⟨q1,q2,q3⟩:=rY hE hp;exact KL q1 q2 q3 m
def DE:OL:= [(0,[]),(1,[]),(2,[]),(3,[]),(4,[]),(5,[3,4]),(6,[3,4,5]),(7,[3,4,5]),(8,[3,4]),(9,[3,4]),(10,[3,4]),(11,[]),(12,[]),(13,[])]
def A0:OL:= [(0,[]),(1,[]),(2,[]),(3,[]),(4,[3]),(5,[3]),(6,[]),(7,[]),(8,[]),(9,[3,4,5,6,7,8]),(10,[3,4,5,6,7,8]),(12,[3,4,5,6,7,8,9,10]),(13,[3,4,5,6,7,8,9,10,12]),(14,[3,4,5,6,7,8,9,10,12]),(15,[3,4,5,6,7,8,9,10]),(16,[3,4,5,6,7,8,9,10]),(17,[3,4,5,6,7,8,9,10]),(18,[3,4,5,6,7,8,9,10,12,13,14,15,16,17]),(19,[3,4,5,6,7,8,9,10,12,13,14,15,16,17]),(11,[12,13,14,15,16,17,18,19]),(20,[]),(21,[]),(22,[]),(23,[]),(24,[]),(25,[])]
def xV:OL:= [(0,[]),(1,[]),(2,[]),(3,[]),(4,[]),(5,[3,4]),(6,[3,4,5]),(7,[3,4,5]),(8,[3,4]),(9,[3,4]),(10,[3,4]),(11,[]),(12,[]),(13,[]),(14,[]),(15,[13,14]),(16,[13,14,15]),(17,[13,14,15]),(18,[13,14]),(19,[13,14]),(20,[13,14]),(21,[]),(22,[]),(23,[]),(24,[]),(25,[23,24]),(26,[23,24,25]),(27,[23,24,25]),(28,[23,24]),(29,[23,24]),(30,[23,24]),(31,[]),(32,[]),(33,[]),(34,[]),(35,[])]
def EO:OL:= [(0,[]),(1,[]),(2,[]),(3,[]),(4,[]),(5,[3,4]),(6,[3,4,5]),(7,[3,4,5]),(8,[3,4]),(9,[3,4]),(10,[3,4]),(11,[]),(12,[]),(13,[])]
structure Bu where
 key:List UInt8
 once:Int
 dy:Int
 most:Int
def Mi (x:Bu):List DV:= [.str x.key,.int .i64 x.once,.int .i64 x.dy,.int .i64 x.most]
def uB:Bu:=⟨[],0,0,0⟩
abbrev uD (l:List Bu):DV:=dC 4 Mi uB l
def xr (l:List Bu)(i:Nat):Int:=
 let x:=l.getD i uB
 if aE x.key=false then 5 else if 0<i∧dI x.key (l.getD (i - 1) uB).key=true then 7 else if ¬ ((0≤x.once∧x.once≤1000000)∧(0≤x.dy∧x.dy≤1000000)∧(-1≤x.most∧x.most≤1000000))then 1 else 0
def jR (l:List Bu):Int:=if 30<l.length then 2 else bf (xr l) l.length
def LH (x:Bu):Prop:=x.key.length≤2^40
def Gg (l:List Bu):Prop:=l.length≤2^40∧∀x ∈ l,LH x
set_option maxHeartbeats 2000000 in
theorem PK (l:List Bu)(hk:Gg l):ai Tryz.prog 92 [.d (uD l)] [] (fun x r=>x= .d (.int .i64 (jR l))∧r= []):=by
 refine ae hT (C:= []) Tryz.func92 rfl Tryz.call92 rfl rfl rfl ?_;conv=>whnf
 refine aa (fun h0=> ?_) (fun h0=> ?_)
 · simp at h0;conv=>whnf
   refine .ret _ ?_;conv=>whnf
   refine⟨[],⟨?_,rfl⟩,trivial⟩;conv=>lhs;whnf
   unfold jR;rw[if_pos (by omega)]
 simp at h0;conv=>whnf
 refine ah hT (C:= []) (ι:=Nat) (fun i=>i≤l.length∧∀j,j<i→xr l j=0) (fun i=>aI [(0,.d (uD l)),(8,.d (uD l)),(9,.d (.int .i64 l.length)),(10,.d (.int .i64 i))] []) (fun i=>l.length - i) 0 ⟨by omega,by omega⟩ (by exact be []) ?_;rintro i ⟨p1,p2⟩;have hx:(i:Int)<l.length→LH (l.getD (i:Int).toNat uB):=fun hi=>hk.2 _ (ao (by omega))
 have e1:(i:Int).toNat=i:=Int.toNat_natCast i
 have hbad:∀e:Int,i<l.length→e≠0→xr l i=e→jR l=e:=fun e h h1 h2=>by
  unfold jR;rw[if_neg (by omega)];exact aX h p2 h1 h2
 conv=>whnf
 repeat' (first|(refine ac (iR _ (hx (by omega))) rfl rfl ?_;rotate_right;conv=>whnf)|(refine ac (ix _ _ _) rfl rfl ?_;rotate_right;conv=>whnf)|((first|(refine aa ?_ ?_<;>intro hb<;>try simp only[az]at hb)|refine aq hT 8 DE ?_|omega|refine aA ?_|decide|assumption)<;>conv=>whnf))
 all_goals first
  |(refine⟨i+1,⟨by omega,aU p2 (by clear p2 hbad hk hx;simp only[e1,aP]at*;unfold xr dI;grind)⟩,by omega,(by exact be [])⟩)
  | (refine .ret _ ?_
     conv=>whnf
     refine⟨[],⟨?_,rfl⟩,trivial⟩;conv=>lhs;whnf
     congr 2
     first
      |exact(hbad _ (by omega) (by decide) (by clear p2 hbad hk hx;simp only[e1,aP]at*;unfold xr dI;grind)).symm
      | (have:i=l.length:=by omega
         subst this
         unfold jR;rw[if_neg (by omega),aF p2]))
set_option maxHeartbeats 2000000 in
theorem PU (l:List Bu)(hk:Gg l):ai Tryz.prog 140 [.d (uD l)] [] (fun x r=>x= .d (.int .i64 (jR l))∧r= []):=by
 refine ae hT (C:= []) Tryz.func140 rfl Tryz.call140 rfl rfl rfl ?_;conv=>whnf
 refine aa (fun h0=> ?_) (fun h0=> ?_)
 · simp at h0;conv=>whnf
   refine .ret _ ?_;conv=>whnf
   refine⟨[],⟨?_,rfl⟩,trivial⟩;conv=>lhs;whnf
   unfold jR;rw[if_pos (by omega)]
 simp at h0;conv=>whnf
 refine ah hT (C:= []) (ι:=Nat) (fun i=>i≤l.length∧∀j,j<i→xr l j=0) (fun i=>aI [(3,.d (.str (if i=0 then []else(l.getD (i - 1) uB).key))),(9,.d (uD l)),(10,.d (.int .i64 l.length)),(11,.d (.int .i64 i))] []) (fun i=>l.length - i) 0 ⟨by omega,by omega⟩ (by exact be []) ?_;rintro i ⟨p1,p2⟩;have hx:(i:Int)<l.length→LH (l.getD (i:Int).toNat uB):=fun hi=>hk.2 _ (ao (by omega))
 have e1:(i:Int).toNat=i:=Int.toNat_natCast i
 have hbad:∀e:Int,i<l.length→e≠0→xr l i=e→jR l=e:=fun e h h1 h2=>by
  unfold jR;rw[if_neg (by omega)];exact aX h p2 h1 h2
 conv=>whnf
 repeat' (first|(refine ac (J4 _ (hx (by omega))) rfl rfl ?_;rotate_right;conv=>whnf)|(refine ac (zb _ _ _) rfl rfl ?_;rotate_right;conv=>whnf)|((first|(refine aa ?_ ?_<;>intro hb<;>try simp only[az]at hb)|omega|refine aA ?_|decide|assumption)<;>conv=>whnf))
 all_goals first
  |(refine⟨i+1,⟨by omega,aU p2 (by clear p2 hbad hk hx;simp only[e1]at*;unfold xr dI;grind)⟩,by omega,af [] rfl rfl ⟨(by rw[show(if i+1=0 then([]:List UInt8)else(l.getD (i+1 - 1) uB).key)=(l.getD (i:Int).toNat uB).key from by rw[if_neg (by omega),e1,Nat.add_sub_cancel]];exact lr),lr,lr,lr,trivial⟩ trivial⟩)
  | (refine .ret _ ?_
     conv=>whnf
     refine⟨[],⟨?_,rfl⟩,trivial⟩;conv=>lhs;whnf
     congr 2
     first
      |exact(hbad _ (by omega) (by decide) (by clear p2 hbad hk hx;simp only[e1]at*;unfold xr dI;grind [vL,zC])).symm
      | (have:i=l.length:=by omega
         subst this
         unfold jR;rw[if_neg (by omega),aF p2]))
structure Fe where
 a:List UInt8
 b:List UInt8
 cents:Int
def O1 (x:Fe):List DV:= [.str x.a,.str x.b,.int .i64 x.cents]
def uC:Fe:=⟨[],[],0⟩
abbrev EU (l:List Fe):DV:=dC 3 O1 uC l
def HG (l:List Fe)(i:Nat):Int:=
 let x:=l.getD i uC
 let q:=l.getD (i - 1) uC
 if aE x.a=false∨aE x.b=false then 5 else if x.a=x.b then 14 else if 0<i∧(Op.bytesLess x.a q.a=true∨(q.a=x.a∧dI x.b q.b=true))then 7 else if ¬ (0≤x.cents∧x.cents≤1000000)then 1 else 0
def nu (l:List Fe):Int:=if 500<l.length then 2 else bf (HG l) l.length
def Po (x:Fe):Prop:=x.a.length≤2^40∧x.b.length≤2^40
def JC (l:List Fe):Prop:=l.length≤2^40∧∀x ∈ l,Po x
set_option maxHeartbeats 2000000 in
theorem Nv (l:List Fe)(hk:JC l):ai Tryz.prog 93 [.d (EU l)] [] (fun x r=>x= .d (.int .i64 (nu l))∧r= []):=by
 refine ae hT (C:= []) Tryz.func93 rfl Tryz.call93 rfl rfl rfl ?_;conv=>whnf
 refine aa (fun h0=> ?_) (fun h0=> ?_)
 · simp at h0;conv=>whnf
   refine .ret _ ?_;conv=>whnf
   refine⟨[],⟨?_,rfl⟩,trivial⟩;conv=>lhs;whnf
   unfold nu;rw[if_pos (by omega)]
 simp at h0;conv=>whnf
 refine ah hT (C:= []) (ι:=Nat) (fun i=>i≤l.length∧∀j,j<i→HG l j=0) (fun i=>aI [(0,.d (EU l)),(8,.d (EU l)),(9,.d (.int .i64 l.length)),(10,.d (.int .i64 i))] []) (fun i=>l.length - i) 0 ⟨by omega,by omega⟩ (by exact be []) ?_;rintro i ⟨p1,p2⟩;have hx:(i:Int)<l.length→Po (l.getD (i:Int).toNat uC):=fun hi=>hk.2 _ (ao (by omega))
 have e1:(i:Int).toNat=i:=Int.toNat_natCast i
 have hbad:∀e:Int,i<l.length→e≠0→HG l i=e→nu l=e:=fun e h h1 h2=>by
  unfold nu;rw[if_neg (by omega)];exact aX h p2 h1 h2
 conv=>whnf
 repeat' (first|(refine ac (iR _ (hx (by omega)).1) rfl rfl ?_;rotate_right;conv=>whnf)|(refine ac (iR _ (hx (by omega)).2) rfl rfl ?_;rotate_right;conv=>whnf)|(refine ac (ix _ _ _) rfl rfl ?_;rotate_right;conv=>whnf)|(refine ac (Ax _ _) rfl rfl ?_;rotate_right;conv=>whnf)|((first|refine aw (DW [_,_] (by simp)) ⟨aj (by rfl) (by rfl),trivial⟩ rfl ?_|(refine aa ?_ ?_<;>intro hb<;>try simp only[az]at hb)|refine aq hT 10 A0 ?_|omega|refine aA ?_|decide|assumption)<;>conv=>whnf))
 all_goals first
  |(refine⟨i+1,⟨by omega,aU p2 (by clear p2 hbad hk hx;simp only[e1,aP]at*;unfold HG;(try simp only[tu,xU]at*);grind)⟩,by omega,(by exact be [])⟩)
  | (refine .ret _ ?_
     conv=>whnf
     refine⟨[],⟨?_,rfl⟩,trivial⟩;conv=>lhs;whnf
     congr 2
     first
      |exact(hbad _ (by omega) (by decide) (by clear p2 hbad hk hx;simp only[e1,aP]at*;unfold HG;(try simp only[tu,xU]at*);grind)).symm
      | (have:i=l.length:=by omega
         subst this
         unfold nu;rw[if_neg (by omega),aF p2]))
set_option maxHeartbeats 2000000 in
theorem OV (l:List Fe)(hk:JC l):ai Tryz.prog 141 [.d (EU l)] [] (fun x r=>x= .d (.int .i64 (nu l))∧r= []):=by
 refine ae hT (C:= []) Tryz.func141 rfl Tryz.call141 rfl rfl rfl ?_;conv=>whnf
 refine aa (fun h0=> ?_) (fun h0=> ?_)
 · simp at h0;conv=>whnf
   refine .ret _ ?_;conv=>whnf
   refine⟨[],⟨?_,rfl⟩,trivial⟩;conv=>lhs;whnf
   unfold nu;rw[if_pos (by omega)]
 simp at h0;conv=>whnf
 refine ah hT (C:= []) (ι:=Nat) (fun i=>i≤l.length∧∀j,j<i→HG l j=0) (fun i=>aI [(0,.d (EU l)),(8,.d (EU l)),(9,.d (.int .i64 l.length)),(10,.d (.int .i64 i))] []) (fun i=>l.length - i) 0 ⟨by omega,by omega⟩ (by exact be []) ?_;rintro i ⟨p1,p2⟩;have hx:(i:Int)<l.length→Po (l.getD (i:Int).toNat uC):=fun hi=>hk.2 _ (ao (by omega))
 have e1:(i:Int).toNat=i:=Int.toNat_natCast i
 have hbad:∀e:Int,i<l.length→e≠0→HG l i=e→nu l=e:=fun e h h1 h2=>by
  unfold nu;rw[if_neg (by omega)];exact aX h p2 h1 h2
 conv=>whnf
 repeat' (first|(refine ac (J4 _ (hx (by omega)).1) rfl rfl ?_;rotate_right;conv=>whnf)|(refine ac (J4 _ (hx (by omega)).2) rfl rfl ?_;rotate_right;conv=>whnf)|(refine ac (zb _ _ _) rfl rfl ?_;rotate_right;conv=>whnf)|((first|(refine aa ?_ ?_<;>intro hb<;>try simp only[az]at hb)|refine aq hT 10 xV ?_|omega|refine aA ?_|decide|assumption)<;>conv=>whnf))
 all_goals first
  |(refine⟨i+1,⟨by omega,aU p2 (by clear p2 hbad hk hx;simp only[e1,aP]at*;unfold HG dI;grind)⟩,by omega,(by exact be [])⟩)
  | (refine .ret _ ?_
     conv=>whnf
     refine⟨[],⟨?_,rfl⟩,trivial⟩;conv=>lhs;whnf
     congr 2
     first
      |exact(hbad _ (by omega) (by decide) (by clear p2 hbad hk hx;simp only[e1,aP]at*;unfold HG dI;grind)).symm
      | (have:i=l.length:=by omega
         subst this
         unfold nu;rw[if_neg (by omega),aF p2]))
structure vk where
 key:List UInt8
 cls:List UInt8
 frm:Int
 to:Int
 days:Int
 per:Int
def Iq (x:vk):List DV:= [.str x.key,.str x.cls,.int .i64 x.frm,.int .i64 x.to,.int .i64 x.days,.int .i64 x.per]
def oa:vk:=⟨[],[],0,0,0,0⟩
abbrev uM (l:List vk):DV:=dC 6 Iq oa l
def wH (l:List vk)(i:Nat):Int:=
 let x:=l.getD i oa
 if aE x.key=false then 5 else if 0<i∧dI x.key (l.getD (i - 1) oa).key=true then 7 else if x.cls≠ []∧aE x.cls=false then 5 else if ¬ ((0≤x.frm∧x.frm≤x.to)∧x.to≤4001∧(1≤x.days∧x.days≤120)∧(1≤x.per∧x.per≤1000))then 1 else 0
def jF (l:List vk):Int:=if 50<l.length then 2 else bf (wH l) l.length
def Ks (x:vk):Prop:=x.key.length≤2^40∧x.cls.length≤2^40
def Cy (l:List vk):Prop:=l.length≤2^40∧∀x ∈ l,Ks x
set_option maxHeartbeats 2000000 in
theorem MW (l:List vk)(hk:Cy l):ai Tryz.prog 94 [.d (uM l)] [] (fun x r=>x= .d (.int .i64 (jF l))∧r= []):=by
 refine ae hT (C:= []) Tryz.func94 rfl Tryz.call94 rfl rfl rfl ?_;conv=>whnf
 refine aa (fun h0=> ?_) (fun h0=> ?_)
 · simp at h0;conv=>whnf
   refine .ret _ ?_;conv=>whnf
   refine⟨[],⟨?_,rfl⟩,trivial⟩;conv=>lhs;whnf
   unfold jF;rw[if_pos (by omega)]
 simp at h0;conv=>whnf
 refine ah hT (C:= []) (ι:=Nat) (fun i=>i≤l.length∧∀j,j<i→wH l j=0) (fun i=>aI [(0,.d (uM l)),(8,.d (uM l)),(9,.d (.int .i64 l.length)),(10,.d (.int .i64 i))] []) (fun i=>l.length - i) 0 ⟨by omega,by omega⟩ (by exact be []) ?_;rintro i ⟨p1,p2⟩;have hx:(i:Int)<l.length→Ks (l.getD (i:Int).toNat oa):=fun hi=>hk.2 _ (ao (by omega))
 have e1:(i:Int).toNat=i:=Int.toNat_natCast i
 have hbad:∀e:Int,i<l.length→e≠0→wH l i=e→jF l=e:=fun e h h1 h2=>by
  unfold jF;rw[if_neg (by omega)];exact aX h p2 h1 h2
 conv=>whnf
 repeat' (first|(refine ac (iR _ (hx (by omega)).1) rfl rfl ?_;rotate_right;conv=>whnf)|(refine ac (iR _ (hx (by omega)).2) rfl rfl ?_;rotate_right;conv=>whnf)|(refine ac (ix _ _ _) rfl rfl ?_;rotate_right;conv=>whnf)|((first|(refine aa ?_ ?_<;>intro hb<;>try simp only[az]at hb)|refine aq hT 8 EO ?_|omega|refine aA ?_|decide|assumption)<;>conv=>whnf))
 all_goals first
  |(refine⟨i+1,⟨by omega,aU p2 (by clear p2 hbad hk hx;simp only[e1,aP]at*;unfold wH dI;grind)⟩,by omega,(by exact be [])⟩)
  | (refine .ret _ ?_
     conv=>whnf
     refine⟨[],⟨?_,rfl⟩,trivial⟩;conv=>lhs;whnf
     congr 2
     first
      |exact(hbad _ (by omega) (by decide) (by clear p2 hbad hk hx;simp only[e1,aP]at*;unfold wH dI;grind)).symm
      | (have:i=l.length:=by omega
         subst this
         unfold jF;rw[if_neg (by omega),aF p2]))
set_option maxHeartbeats 2000000 in
theorem PS (l:List vk)(hk:Cy l):ai Tryz.prog 142 [.d (uM l)] [] (fun x r=>x= .d (.int .i64 (jF l))∧r= []):=by
 refine ae hT (C:= []) Tryz.func142 rfl Tryz.call142 rfl rfl rfl ?_;conv=>whnf
 refine aa (fun h0=> ?_) (fun h0=> ?_)
 · simp at h0;conv=>whnf
   refine .ret _ ?_;conv=>whnf
   refine⟨[],⟨?_,rfl⟩,trivial⟩;conv=>lhs;whnf
   unfold jF;rw[if_pos (by omega)]
 simp at h0;conv=>whnf
 refine ah hT (C:= []) (ι:=Nat) (fun i=>i≤l.length∧∀j,j<i→wH l j=0) (fun i=>aI [(3,.d (.str (if i=0 then []else(l.getD (i - 1) oa).key))),(9,.d (uM l)),(10,.d (.int .i64 l.length)),(11,.d (.int .i64 i))] []) (fun i=>l.length - i) 0 ⟨by omega,by omega⟩ (by exact be []) ?_;rintro i ⟨p1,p2⟩;have hx:(i:Int)<l.length→Ks (l.getD (i:Int).toNat oa):=fun hi=>hk.2 _ (ao (by omega))
 have e1:(i:Int).toNat=i:=Int.toNat_natCast i
 have hbad:∀e:Int,i<l.length→e≠0→wH l i=e→jF l=e:=fun e h h1 h2=>by
  unfold jF;rw[if_neg (by omega)];exact aX h p2 h1 h2
 conv=>whnf
 repeat' (first|(refine ac (J4 _ (hx (by omega)).1) rfl rfl ?_;rotate_right;conv=>whnf)|(refine ac (J4 _ (hx (by omega)).2) rfl rfl ?_;rotate_right;conv=>whnf)|(refine ac (zb _ _ _) rfl rfl ?_;rotate_right;conv=>whnf)|((first|(refine aa ?_ ?_<;>intro hb<;>try simp only[az]at hb)|omega|refine aA ?_|decide|assumption)<;>conv=>whnf))
 all_goals first
  |(refine⟨i+1,⟨by omega,aU p2 (by clear p2 hbad hk hx;simp only[e1]at*;unfold wH dI;grind)⟩,by omega,af [] rfl rfl ⟨(by rw[show(if i+1=0 then([]:List UInt8)else(l.getD (i+1 - 1) oa).key)=(l.getD (i:Int).toNat oa).key from by rw[if_neg (by omega),e1,Nat.add_sub_cancel]];exact lr),lr,lr,lr,trivial⟩ trivial⟩)
  | (refine .ret _ ?_
     conv=>whnf
     refine⟨[],⟨?_,rfl⟩,trivial⟩;conv=>lhs;whnf
     congr 2
     first
      |exact(hbad _ (by omega) (by decide) (by clear p2 hbad hk hx;simp only[e1]at*;unfold wH dI;grind [vL,zC])).symm
      | (have:i=l.length:=by omega
         subst this
         unfold jF;rw[if_neg (by omega),aF p2]))
end Go.Proofs.YtkokpbpililcdaaGreatDoor
