/- BooksBalance is proved: for every input the law returns true, and its argument reads afterwards as it read before. Conditions: those of the given row alone. -/
import Derived.Test.YtodakofifpaljaaGreatDoorBbConOct
import Derived.Test.YtodakofifpaljaaGreatDoorBbConTwo
import Derived.Test.YtodakofifpaljaaGreatDoorBbConOne
import Derived.Test.YtodakofifpaljaaGreatDoorBbEngTwo
import Derived.Test.YtodakofifpaljaaGreatDoorBbConQua
import Derived.Shelf.Spec.SlicesGrow
import Derived.Test.YtodakofifpaljaaGreatDoorBbConSep
set_option linter.unusedVariables false
set_option linter.unusedSimpArgs false
set_option maxRecDepth 20000
namespace Go.Proofs.YtodakofifpaljaaGreatDoor
open Go Go.Eng
def BA:OL:= [(0,[]),(1,[]),(2,[]),(3,[0,1,2]),(4,[0,1,2]),(5,[0,1,2]),(6,[]),(7,[]),(8,[])]
def B5:OL:= [(0,[]),(1,[]),(2,[]),(3,[]),(4,rg 4),(5,rg 5),(6,rg 5),(7,rg 5),(8,rg 5),(9,rg 9),(10,rg 10),(11,rg 10),(12,rg 10),(13,rg 13),(14,rg 13),(15,rg 13),(16,rg 13),(17,[9,13,14,15,16]),(18,[9,13,14,15,16]),(19,[]),(20,[])]
def zL:OL:= [(0,[]),(1,[0]),(2,[0]),(3,[0]),(4,[0]),(5,rg 5),(6,rg 6),(7,rg 7),(8,rg 7),(9,rg 5),(10,rg 5),(11,[0]),(12,[]),(13,[]),(14,[])]
theorem OY (l:List rX)(hl:l.length≤2^40):ai Tryz.prog 125 [.d (wA l)] [] (fun y r=>y= .mp 3∧r= [(3,MU l l.length)]):=by
 have hT:=uw;refine af hT (C:= []) Tryz.func125 rfl Tryz.call125 rfl rfl rfl ?_;conv=>whnf
 refine ah hT (C:= []) (ι:=Nat) (fun i=>i≤l.length) (fun i=>aN [(3,.mp 3),(7,.d (wA l)),(8,.d (.int .i64 l.length)),(9,.d (.int .i64 i))] [(3,MU l i)]) (fun i=>l.length - i) 0 (by omega) ?_ ?_
 · exact ae [(3,6)] rfl rfl ⟨lr,lr,lr,lr,trivial⟩ ⟨rr,trivial⟩
 rintro i p1;conv=>whnf
 repeat' (first|((first|(refine aa ?_ ?_<;>intro hb<;>try simp only[az]at hb)|omega|refine aA ?_|decide|assumption)<;>conv=>whnf))
 · exact⟨i+1,by omega,by omega,ae [(3,3)] rfl rfl ⟨lr,lr,lr,lr,trivial⟩ ⟨rr,trivial⟩⟩
 · have:i=l.length:=by omega
   subst this;refine .ret _ ?_;conv=>whnf
   exact⟨_,⟨rfl,rfl⟩,rr,trivial⟩
abbrev My (l:List Od):aY:=aM 169 4 LY L7 l
set_option maxHeartbeats 4000000 in
theorem NO:ai Tryz.prog 68 [.d (At tN),.d (wA tR)] [] (fun y r=>y= .ptr 20 0∧r= [(20,.cells 167 [.buf 15,.buf 18,.buf 88]),(15,rc [1,0]),(18,rc [0,1]),(88,My [⟨0,1,4,0⟩])]):=by
 have hT:=uw;refine af hT (C:= []) Tryz.func68 rfl Tryz.call68 rfl rfl rfl ?_;conv=>whnf
 repeat' (first|((first|(refine cj (OY tR (by simp[tR])) [(3,22)] ?_;rintro x rout ⟨rfl,rfl⟩;refine⟨rfl,?_⟩)|refine nz.run hT (C:= []) 8 rfl [0,5,6,23,24,25] [] (fun _ _ h=>h) (fun _ h=>h) ?_|refine nz.run hT (C:= []) 16 rfl [0,5,6,7,8,23,24,25,49,50,51] [] (fun _ _ h=>h) (fun _ h=>h) ?_|refine And.intro (rfl:aK _=some [.str [],.str [],.int .i64 0,.int .i64 0]) ?_|(refine aa ?_ ?_<;>intro hb<;>try simp only[az]at hb)|refine aw hT 1 BA ?_|refine aw hT 6 B5 ?_|refine aw hT 12 zL ?_|omega|refine aA ?_|decide|assumption)<;>conv=>whnf))
 refine .freeze _ 15 3 1 _ _ rfl (.freeze _ 18 3 1 _ _ rfl (.ret _ ?_));conv=>whnf
 refine⟨_,⟨rfl,rfl⟩,rr,gI rfl ?_,gI rfl ?_,bB rfl ?_,trivial⟩
 · intro i hi;have:i=0∨i=1:=by simp[tN]at hi;omega
   rcases this with rfl|rfl<;>rfl
 · intro i hi;have:i=0∨i=1:=by simp[tN]at hi;omega
   rcases this with rfl|rfl<;>rfl
 · intro i hi;have:i=0:=by simp at hi;omega
   subst this;rfl
theorem D2 (l:List Int)(hl:l.length≤2^20)(h0:0<l.length):ai Tryz.prog 126 [.d (dC l)] [] (fun y r=>y= .buf 7∧r= [(7,aM 3 1 iF 0 l)]):=by
 have hT:=uw;refine af hT (C:= [5]) Tryz.func126 rfl Tryz.call126 rfl rfl rfl ?_;conv=>whnf
 rintro b hbn;conv=>whnf
 repeat' (first|((first|(refine aa ?_ ?_<;>intro hb<;>try simp only[az]at hb)|omega|refine aA ?_|decide|assumption)<;>conv=>whnf))
 · exact absurd (hbn (by assumption)) (by omega)
 · refine .ret _ ?_;conv=>whnf
   refine⟨_,⟨rfl,rfl⟩,bB (by simp) (fun i hi=> ?_),trivial⟩;rw[fg (by omega)];rfl
theorem MT (g:Nat→List DV):ai Tryz.prog 128 [.d (.ro 4 0 g)] [] (fun y r=>y= .d (dD 4 LY L7 [])∧r= []):=by
 have hT:=uw;refine af hT (C:= [5]) Tryz.func128 rfl Tryz.call128 rfl rfl rfl ?_;conv=>whnf
 rintro b hbn;conv=>whnf
 repeat' (first|((first|(refine aa ?_ ?_<;>intro hb<;>try simp only[az]at hb)|omega|refine aA ?_|decide|assumption)<;>conv=>whnf))
 · refine .weak _ ?_;conv=>whnf
   exact⟨_,[],aW,⟨rfl,rfl⟩,trivial⟩
 · refine .freeze _ 7 169 4 _ _ rfl (.weak _ ?_);conv=>whnf
   exact⟨_,[],bt (by simp) (fun i hi=>absurd hi (by simp)),⟨rfl,rfl⟩,trivial⟩
def mz:OL:= [(0,[]),(1,[]),(2,[]),(3,[]),(4,[]),(5,[]),(6,rg 6),(7,rg 6),(8,rg 6),(9,rg 6),(10,rg 6),(11,rg 6),(12,[6,7,8,9,10,11]),(13,[])]
def kM:OL:= [(0,[]),(1,[0]),(2,[0]),(3,[]),(4,[]),(5,[]),(6,[]),(7,[]),(8,[7]),(9,[7]),(10,[]),(11,[]),(12,[7,8,9,10,11]),(13,[7,8,9,10,11]),(14,[]),(15,[7,8,9,10,11,12,13,14]),(16,[7,8,9,10,11,12,13,14,15]),(17,[7,8,9,10,11,12,13,14,15]),(18,[7,8,9,10,11,12,13,14]),(19,[7,8,9,10,11,12,13,14]),(20,[]),(21,[])]
def ld:OL:= [(0,[]),(1,[0]),(2,[0]),(3,[0,1,2]),(4,rg 4),(5,rg 4),(6,rg 6),(7,rg 7),(8,rg 7),(9,rg 6),(10,rg 6),(11,rg 11),(12,rg 11),(13,rg 6),(14,rg 14),(15,rg 14),(16,[3,4,5,14,15]),(17,[3,4,5,14,15]),(18,[]),(19,[]),(20,[])]
def kU:OL:= [(0,[]),(1,[]),(2,[]),(3,[]),(4,[]),(5,[4]),(6,[4]),(7,[]),(8,[]),(9,[]),(10,[]),(11,[]),(12,[]),(13,[12]),(14,[12]),(15,[]),(16,[]),(17,[12,13,14,15,16]),(18,[12,13,14,15,16]),(19,[]),(20,[12,13,14,15,16,17,18,19]),(21,[12,13,14,15,16,17,18,19,20]),(22,[12,13,14,15,16,17,18,19,20]),(23,[12,13,14,15,16,17,18,19]),(24,[12,13,14,15,16,17,18,19]),(25,[]),(26,[])]
def tJ:OL:= [(0,[]),(1,[]),(2,[]),(3,[]),(5,rg 4),(6,rg 4),(7,rg 4),(8,rg 4),(10,[0,1,2,3,5,6,7,8]),(11,[0,1,2,3,5,6,7,8]),(12,[0,1,2,3,5,6,7,8]),(13,[0,1,2,3,5,6,7,8]),(14,[0,1,2,3,5,6,7,8,10,11,12,13]),(15,[0,1,2,3,5,6,7,8]),(4,[5,6,7,8,10,11,12,13,14,15]),(9,[10,11,12,13,14,15]),(16,[]),(17,[]),(18,[]),(19,[])]
abbrev On:aY:=.cells 167 [.buf 1000001,.buf 1000002,.buf 1000003]
abbrev Ma (h w:List Int)(l:List Od):List (Nat×aY):= [(1000000,On),(1000001,rc h),(1000002,rc w),(1000003,My l)]
abbrev Oe (h w:List Int):List (Nat×aY):= [(1000000,.cells 167 [.buf 1000001,.buf 1000002,.d (dD 4 LY L7 [])]),(1000001,rc h),(1000002,rc w)]
set_option maxHeartbeats 4000000 in
theorem Mh:ai Tryz.prog 127 [.ptr 1000000 0,.buf 1000004] ([(1000004,aM 3 1 iF 0 [1,0])]++Ma [1,0] [0,1] [⟨0,1,4,0⟩])
 (fun y r=>y= .tup [.d (dC [0,4]),.d (vP [(-1,false),(0,false)])]∧r= [(1000004,aM 3 1 iF 0 [1,0])]++Ma [1,0] [0,1] [⟨0,1,4,0⟩]):=by
 have hT:=uw;refine af hT (C:= []) Tryz.func127 rfl Tryz.call127 rfl rfl rfl ?_;conv=>whnf
 repeat' (first|((first|refine nz.run hT (C:= []) 6 rfl [0,1,4,5,23,24] [1000000,1000001,1000002,1000003,1000004] (fun _ _ h=>h) (fun _ h=>h) ?_|refine nz.run hT (C:= []) 20 rfl [0,4,5,7] [1000000,1000001,1000002,1000003,1000004] (fun _ _ h=>h) (fun _ h=>h) ?_|refine nz.run hT (C:= []) 26 rfl [0,4,5,7,47,48,49] [1000000,1000001,1000002,1000003,1000004] (fun _ _ h=>h) (fun _ h=>h) ?_|(refine aa ?_ ?_<;>intro hb<;>try simp only[az]at hb)|refine aw hT 1 mz ?_|refine aw hT 15 kM ?_|refine aw hT 16 ld ?_|refine aw hT 17 kU ?_|refine aw hT 18 oBShIm127_18 ?_|omega|refine aA ?_|decide|assumption)<;>conv=>whnf))
 refine .freeze _ 15 3 1 _ _ rfl (.freeze _ 21 227 2 _ _ rfl (.weak _ ?_));conv=>whnf
 refine⟨.tup [.d (dC [0,4]),.d (vP [(-1,false),(0,false)])],_,bG ⟨bt rfl ?_,bt rfl ?_,trivial⟩,⟨rfl,rfl⟩,?_⟩
 · intro i hi;have:i=0∨i=1:=by simp at hi;omega
   rcases this with rfl|rfl<;>rfl
 · intro i hi;have:i=0∨i=1:=by simp at hi;omega
   rcases this with rfl|rfl<;>rfl
 · refine⟨rr,rr,rr,rr,?_⟩;first|exact trivial|exact⟨rr,trivial⟩
set_option maxHeartbeats 4000000 in
theorem MC:ai Tryz.prog 127 [.ptr 1000000 0,.buf 1000004] ([(1000004,aM 3 1 iF 0 [0,0])]++Ma [1,0] [0,1] [⟨0,1,4,1⟩])
 (fun y r=>y= .tup [.d (dC [1125899906842624,1125899906842624]),.d (vP [(-1,false),(-1,false)])]∧r= [(1000004,aM 3 1 iF 0 [0,0])]++Ma [1,0] [0,1] [⟨0,1,4,1⟩]):=by
 have hT:=uw;refine af hT (C:= []) Tryz.func127 rfl Tryz.call127 rfl rfl rfl ?_;conv=>whnf
 repeat' (first|((first|refine nz.run hT (C:= []) 6 rfl [0,1,4,5,23,24] [1000000,1000001,1000002,1000003,1000004] (fun _ _ h=>h) (fun _ h=>h) ?_|refine nz.run hT (C:= []) 20 rfl [0,4,5,7] [1000000,1000001,1000002,1000003,1000004] (fun _ _ h=>h) (fun _ h=>h) ?_|refine nz.run hT (C:= []) 26 rfl [0,4,5,7,47,48,49] [1000000,1000001,1000002,1000003,1000004] (fun _ _ h=>h) (fun _ h=>h) ?_|(refine aa ?_ ?_<;>intro hb<;>try simp only[az]at hb)|refine aw hT 1 mz ?_|refine aw hT 15 kM ?_|refine aw hT 16 ld ?_|refine aw hT 17 kU ?_|refine aw hT 18 oBShIm127_18 ?_|omega|refine aA ?_|decide|assumption)<;>conv=>whnf))
 refine .freeze _ 15 3 1 _ _ rfl (.freeze _ 21 227 2 _ _ rfl (.weak _ ?_));conv=>whnf
 refine⟨.tup [.d (dC [1125899906842624,1125899906842624]),.d (vP [(-1,false),(-1,false)])],_,bG ⟨bt rfl ?_,bt rfl ?_,trivial⟩,⟨rfl,rfl⟩,?_⟩
 · intro i hi;have:i=0∨i=1:=by simp at hi;omega
   rcases this with rfl|rfl<;>rfl
 · intro i hi;have:i=0∨i=1:=by simp at hi;omega
   rcases this with rfl|rfl<;>rfl
 · refine⟨rr,rr,rr,rr,?_⟩;first|exact trivial|exact⟨rr,trivial⟩
set_option maxHeartbeats 4000000 in
theorem Ni:ai Tryz.prog 127 [.ptr 1000000 0,.buf 1000004] ([(1000004,aM 3 1 iF 0 [0,0])]++Oe [0,0] [0,0])
 (fun y r=>y= .tup [.d (dC [1125899906842624,1125899906842624]),.d (vP [(-1,false),(-1,false)])]∧r= [(1000004,aM 3 1 iF 0 [0,0])]++Oe [0,0] [0,0]):=by
 have hT:=uw;refine af hT (C:= []) Tryz.func127 rfl Tryz.call127 rfl rfl rfl ?_;conv=>whnf
 repeat' (first|((first|refine nz.run hT (C:= []) 6 rfl [0,1,4,5,23,24] [1000000,1000001,1000002,1000004] (fun _ _ h=>h) (fun _ h=>h) ?_|refine nz.run hT (C:= []) 20 rfl [0,4,5,7] [1000000,1000001,1000002,1000004] (fun _ _ h=>h) (fun _ h=>h) ?_|refine nz.run hT (C:= []) 26 rfl [0,4,5,7,47,48,49] [1000000,1000001,1000002,1000004] (fun _ _ h=>h) (fun _ h=>h) ?_|(refine aa ?_ ?_<;>intro hb<;>try simp only[az]at hb)|refine aw hT 1 mz ?_|refine aw hT 15 kM ?_|refine aw hT 16 ld ?_|refine aw hT 17 kU ?_|refine aw hT 18 oBShIm127_18 ?_|omega|refine aA ?_|decide|assumption)<;>conv=>whnf))
 refine .freeze _ 15 3 1 _ _ rfl (.freeze _ 21 227 2 _ _ rfl (.weak _ ?_));conv=>whnf
 refine⟨.tup [.d (dC [1125899906842624,1125899906842624]),.d (vP [(-1,false),(-1,false)])],_,bG ⟨bt rfl ?_,bt rfl ?_,trivial⟩,⟨rfl,rfl⟩,?_⟩
 · intro i hi;have:i=0∨i=1:=by simp at hi;omega
   rcases this with rfl|rfl<;>rfl
 · intro i hi;have:i=0∨i=1:=by simp at hi;omega
   rcases this with rfl|rfl<;>rfl
 · refine⟨rr,rr,rr,rr,?_⟩;first|exact trivial|exact⟨rr,trivial⟩
set_option maxHeartbeats 4000000 in
theorem JA:ai Tryz.prog 70 [.ptr 1000000 0,.d (.int .i64 1),.d (.int .i64 0),.d (.int .i64 1),.d (.int .i64 1)] [(1000000,On),(1000001,rc [1,0]),(1000002,rc [0,1]),(1000003,.fro 4 1 (aV LY L7 [⟨0,1,4,1⟩]))]
 (fun y r=>y= .ptr 30 0∧r= [(1000000,On),(1000001,rc [1,0]),(1000002,rc [0,1]),(1000003,.fro 4 1 (aV LY L7 [⟨0,1,4,1⟩])),(30,.cells 167 [.buf 16,.buf 21,.d (dD 4 LY L7 [])]),(16,rc [0,0]),(21,rc [0,0])]):=by
 have hT:=uw;refine af hT (C:= []) Tryz.func70 rfl Tryz.call70 rfl rfl rfl ?_;conv=>whnf
 refine a8 hT rfl [] tJ (by decide+kernel) ?_;conv=>whnf
 repeat' (first|((first|(refine cj (D2 [1,0] (by simp) (by simp)) [(7,16)] ?_;rintro x rout ⟨rfl,rfl⟩;refine⟨rfl,?_⟩)|(refine cj (D2 [0,1] (by simp) (by simp)) [(7,21)] ?_;rintro x rout ⟨rfl,rfl⟩;refine⟨rfl,?_⟩)|refine ao (MT _) ⟨lr,trivial⟩ rfl ?_|(refine aa ?_ ?_<;>intro hb<;>try simp only[az]at hb)|refine aw hT 1 tJ ?_|omega|refine aA ?_|decide|assumption)<;>conv=>whnf))
 refine .freeze _ 16 3 1 _ _ rfl (.freeze _ 21 3 1 _ _ rfl (.ret _ ?_));conv=>whnf
 refine⟨_,⟨rfl,rfl⟩,rr,rr,rr,rr,rr,gI rfl ?_,gI rfl ?_,trivial⟩
 · intro i hi;have:i=0∨i=1:=by simp at hi;omega
   rcases this with rfl|rfl<;>rfl
 · intro i hi;have:i=0∨i=1:=by simp at hi;omega
   rcases this with rfl|rfl<;>rfl
def lw:OL:= [(0,[]),(1,[]),(2,[]),(3,[]),(5,rg 4),(6,rg 4),(7,rg 4),(8,rg 4),(4,[5,6,7,8]),(9,[]),(10,[]),(11,[])]
def qJ:OL:= [(0,[]),(1,[]),(2,[]),(3,[]),(4,[3]),(5,[]),(6,[]),(7,[]),(8,[]),(9,[]),(10,[]),(11,[]),(12,[]),(13,[]),(14,[13]),(15,[]),(16,[]),(17,[13,14,15,16]),(18,[13,14,15,16,17]),(19,[13,14,15,16]),(20,[13,14,15,16]),(21,[]),(22,[]),(23,[])]
def q8:OL:= [(0,[]),(1,[]),(2,[]),(3,[]),(4,rg 4),(5,rg 5),(6,rg 4),(7,rg 4),(8,rg 4),(9,[]),(10,[]),(11,rg 11),(12,[])]
def qR:OL:= [(0,[]),(1,[]),(2,[]),(3,[]),(4,rg 4),(5,rg 5),(6,rg 4),(7,rg 4),(8,rg 4),(9,[]),(10,[])]
def qD:OL:= [(0,[]),(1,[0]),(2,[0]),(3,[0]),(4,[0]),(5,rg 5),(6,rg 5),(7,[0]),(8,[0]),(9,rg 9),(10,rg 9),(11,rg 9),(12,rg 9),(13,rg 13),(14,rg 13),(15,rg 9),(16,rg 9),(17,[0]),(18,[])]
def qL:OL:= [(0,[]),(1,[0]),(2,[0,1]),(3,[0,1]),(4,[0]),(5,[0]),(6,[0]),(7,rg 7),(8,rg 8),(9,rg 8),(10,rg 7),(11,rg 7),(12,rg 7),(13,rg 13),(14,[0]),(15,[0]),(16,[]),(17,[])]
instance:DecidableEq Fk:=fun _ _=>decidable_of_iff _ FK.symm
set_option maxHeartbeats 8000000 in
theorem NG:ai Tryz.prog 69 [.ptr 1000000 0] (Ma [1,0] [0,1] [⟨0,1,4,0⟩]) (fun y r=>y= .tup [.d (.int .i64 4),.d (.bool true)]∧r=Ma [1,0] [0,1] [⟨0,1,4,1⟩]):=by
 have hT:=uw;refine af hT (C:= []) Tryz.func69 rfl Tryz.call69 rfl rfl rfl ?_;conv=>whnf
 refine a8 hT rfl [] lw (by decide+kernel) ?_;conv=>whnf
 repeat' (first|((first|(refine cj (D2 [1,0] (by simp) (by simp)) [(7,22)] ?_;rintro x rout ⟨rfl,rfl⟩;refine⟨rfl,?_⟩)|(refine cj (D2 [0,1] (by simp) (by simp)) [(7,27)] ?_;rintro x rout ⟨rfl,rfl⟩;refine⟨rfl,?_⟩))<;>conv=>whnf)|(refine fz.of Mh [(1000000,1000000),(1000001,1000001),(1000002,1000002),(1000003,1000003),(1000004,22)] rfl ⟨lr,lr,trivial⟩ ⟨(bB rfl (fun i hi=>by(have:i=0∨i=1:=by simp at hi;omega);rcases this with(rfl|rfl)<;>rfl)),rr,rr,rr,(bB rfl (fun i hi=>by(have:i=0:=by simp at hi;omega);subst this;rfl)),trivial⟩ rfl rfl ?_;rintro x rout ⟨rfl,rfl⟩;refine⟨rfl,?_⟩;conv=>whnf)|(refine fz.of MC [(1000000,1000000),(1000001,1000001),(1000002,1000002),(1000003,1000003),(1000004,22)] rfl ⟨lr,lr,trivial⟩ ⟨(bB rfl (fun i hi=>by(have:i=0∨i=1:=by simp at hi;omega);rcases this with(rfl|rfl)<;>rfl)),rr,rr,rr,(bB rfl (fun i hi=>by(have:i=0:=by simp at hi;omega);subst this;rfl)),trivial⟩ rfl rfl ?_;rintro x rout ⟨rfl,rfl⟩;refine⟨rfl,?_⟩;conv=>whnf)|((first|refine nz.run hT (C:= []) 6 rfl [0,4,5,32,33] [1000000,1000001,1000002,1000003] (fun _ _ h=>h) (fun _ h=>h) ?_|refine nz.run hT (C:= []) 7 rfl [0,4,5,7] [1000000,1000001,1000002,1000003] (fun _ _ h=>h) (fun _ h=>h) ?_|refine nz.run hT (C:= []) 22 rfl [0,4,5,7,8,9,10,11,50,51,52] [1000000,1000001,1000002,1000003] (fun _ _ h=>h) (fun _ h=>h) ?_|refine nz.run hT (C:= []) 40 rfl [0,4,5,7,8,9,10,14,15] [1000000,1000001,1000002,1000003] (fun _ _ h=>h) (fun _ h=>h) ?_|refine nz.run hT (C:= []) 60 rfl [0,4,5,7,9,14,15] [1000000,1000001,1000002,1000003] (fun _ _ h=>h) (fun _ h=>h) ?_|(refine aa ?_ ?_<;>intro hb<;>try simp only[az]at hb)|refine aw hT 1 lw ?_|refine aw hT 14 qJ ?_|refine aw hT 21 q8 ?_|refine aw hT 23 oBShJm69_23 ?_|refine aw hT 31 qR ?_|omega|refine aA ?_|decide|assumption)<;>conv=>whnf))
 refine .weak _ ?_;conv=>whnf
 exact⟨.tup [.d (.int .i64 4),.d (.bool true)],_,bG ⟨am rfl,sq rfl,trivial⟩,⟨rfl,rfl⟩,rr,rr,rr,(bB rfl (fun i hi=>by(have:i=0:=by simp at hi;omega);subst this;rfl)),trivial⟩
set_option maxHeartbeats 8000000 in
theorem Mg:ai Tryz.prog 69 [.ptr 1000000 0] (Oe [0,0] [0,0]) (fun y r=>y= .tup [.d (.int .i64 0),.d (.bool true)]∧r=Oe [0,0] [0,0]):=by
 have hT:=uw;refine af hT (C:= []) Tryz.func69 rfl Tryz.call69 rfl rfl rfl ?_;conv=>whnf
 refine a8 hT rfl [] lw (by decide+kernel) ?_;conv=>whnf
 repeat' (first|((first|(refine cj (D2 [0,0] (by simp) (by simp)) [(7,22)] ?_;rintro x rout ⟨rfl,rfl⟩;refine⟨rfl,?_⟩)|(refine cj (D2 [0,0] (by simp) (by simp)) [(7,27)] ?_;rintro x rout ⟨rfl,rfl⟩;refine⟨rfl,?_⟩)|(refine cj Ni [(1000000,1000000),(1000001,1000001),(1000002,1000002),(1000004,22)] ?_;rintro x rout ⟨rfl,rfl⟩;refine⟨rfl,?_⟩)|refine nz.run hT (C:= []) 6 rfl [0,4,5,32,33] [1000000,1000001,1000002] (fun _ _ h=>h) (fun _ h=>h) ?_|refine nz.run hT (C:= []) 7 rfl [0,4,5,7] [1000000,1000001,1000002] (fun _ _ h=>h) (fun _ h=>h) ?_|refine nz.run hT (C:= []) 22 rfl [0,4,5,7,8,9,10,11,50,51,52] [1000000,1000001,1000002] (fun _ _ h=>h) (fun _ h=>h) ?_|refine nz.run hT (C:= []) 40 rfl [0,4,5,7,8,9,10,14,15] [1000000,1000001,1000002] (fun _ _ h=>h) (fun _ h=>h) ?_|refine nz.run hT (C:= []) 60 rfl [0,4,5,7,9,14,15] [1000000,1000001,1000002] (fun _ _ h=>h) (fun _ h=>h) ?_|(refine aa ?_ ?_<;>intro hb<;>try simp only[az]at hb)|refine aw hT 1 lw ?_|refine aw hT 14 qJ ?_|refine aw hT 21 q8 ?_|refine aw hT 23 oBShJm69_23 ?_|refine aw hT 31 qR ?_|omega|refine aA ?_|decide|assumption)<;>conv=>whnf))
 refine .weak _ ?_;conv=>whnf
 exact⟨.tup [.d (.int .i64 0),.d (.bool true)],_,bG ⟨am rfl,sq rfl,trivial⟩,⟨rfl,rfl⟩,rr,rr,rr,trivial⟩
set_option maxHeartbeats 8000000 in
theorem Pn:ai Tryz.prog 32 [.d (At tN),.d (wA tR)] [] (fun y r=>y= .tup [.d (M1 [⟨[97],[98],1⟩]),.d (.int .i64 0)]∧r= []):=by
 have hT:=uw;refine af hT (C:= []) Tryz.func32 rfl Tryz.call32 rfl rfl rfl ?_;conv=>whnf
 repeat' (first|(refine ac (Mc) rfl rfl ?_;rotate_right;conv=>whnf)|((first|(refine cj NO [(20,24),(15,1000),(18,1001),(88,1002)] ?_;rintro x rout ⟨rfl,rfl⟩;refine⟨rfl,?_⟩)|(refine cj NG [(1000000,24),(1000001,1000),(1000002,1001),(1000003,1002)] ?_;rintro x rout ⟨rfl,rfl⟩;refine⟨rfl,?_⟩)|(refine aa ?_ ?_<;>intro hb<;>try simp only[az]at hb)|refine aw hT 13 qD ?_|refine aw hT 19 qL ?_|omega|refine aA ?_|decide|assumption)<;>conv=>whnf))
 refine nz.freeze 1002 169 4 1 _ rfl ?_;repeat' (first|((first|(refine fz.of JA [(1000000,24),(1000001,1000),(1000002,1001),(1000003,1002),(30,1100),(16,1101),(21,1102)] rfl ⟨lr,am rfl,am rfl,am rfl,am rfl,trivial⟩ ⟨rr,rr,rr,gI rfl (fun i hi=>by(have:i=0:=by simp at hi;omega);subst this;rfl),trivial⟩ rfl rfl ?_;rintro x rout ⟨rfl,rfl⟩;refine⟨rfl,?_⟩)|(refine fz.of JA [(1000000,24),(1000001,1000),(1000002,1001),(1000003,1002),(30,1200),(16,1201),(21,1202)] rfl ⟨lr,am rfl,am rfl,am rfl,am rfl,trivial⟩ ⟨rr,rr,rr,gI rfl (fun i hi=>by(have:i=0:=by simp at hi;omega);subst this;rfl),trivial⟩ rfl rfl ?_;rintro x rout ⟨rfl,rfl⟩;refine⟨rfl,?_⟩)|(refine cj Mg [(1000000,1100),(1000001,1101),(1000002,1102)] ?_;rintro x rout ⟨rfl,rfl⟩;refine⟨rfl,?_⟩)|refine nz.run hT (C:= []) 18 rfl [0,7,8,10] [] (fun _ _ h=>h) (fun _ h=>h) ?_|refine nz.run hT (C:= []) 26 rfl [0,7,8,10,11,12,13] [] (fun _ _ h=>h) (fun _ h=>h) ?_|(refine aa ?_ ?_<;>intro hb<;>try simp only[az]at hb)|refine aw hT 13 qD ?_|refine aw hT 19 qL ?_|omega|refine aA ?_|decide|assumption)<;>conv=>whnf))
 refine .freeze _ 106 172 3 _ _ rfl (.weak _ ?_);conv=>whnf
 exact⟨.tup [.d (M1 [⟨[97],[98],1⟩]),.d (.int .i64 0)],_,bG ⟨bt rfl (fun i hi=>by(have:i=0:=by simp at hi;omega);subst this;rfl),am rfl,trivial⟩,⟨rfl,rfl⟩,trivial⟩
end Go.Proofs.YtodakofifpaljaaGreatDoor
namespace Go.Proofs
open Go.Shelf
set_option maxRecDepth 20000
def nU:Go.Shelf.Ren:=⟨fun|4=>129|n=>n,fun|22=>44|25=>129|3=>3|4=>4|9=>9|20=>20|0=>0|n=>n,fun|n=>n⟩
theorem Tryz.laysGrowE:Go.Proofs.Lays8.n4 Tryz.prog nU:={
 mixed:=by kernel_rfl
 f4:=⟨Tryz.f129.name,by decide,Tryz.func129.trans (congrArg some (by kernel_rfl))⟩
 t0:=Tryz.underlying0
 a0:=Tryz.isAgg0
 z0:=Tryz.sizeOf0
 v0:=Tryz.zeroValue0
 t3:=Tryz.underlying3
 a3:=Tryz.isAgg3
 z3:=Tryz.sizeOf3
 v3:=Tryz.zeroValue3
 t4:=Tryz.underlying4
 a4:=Tryz.isAgg4
 z4:=Tryz.sizeOf4
 v4:=Tryz.zeroValue4
 t9:=Tryz.underlying9
 a9:=Tryz.isAgg9
 z9:=Tryz.sizeOf9
 v9:=Tryz.zeroValue9
 t20:=Tryz.underlying20
 a20:=Tryz.isAgg20
 z20:=Tryz.sizeOf20
 v20:=Tryz.zeroValue20
 t22:=Tryz.underlying44
 a22:=Tryz.isAgg44
 z22:=Tryz.sizeOf44
 v22:=Tryz.zeroValue44}
end Go.Proofs
set_option maxRecDepth 100000
namespace Go.Proofs.YtodakofifpaljaaGreatDoor
open Go Go.Eng Go.RowKit
theorem LN (n:Nat)(hn:n≤2^20):ai Tryz.prog 129 [.d .nilsl,.d (.int .i64 n)] [] (fun y r=>y= .buf 1000001∧r= [(1000001,.buf 129 4 0 fun _=> [])]):=by
 refine yN (by decide) Tryz.call129 (fun G β w vs _ hl hd=> ?_)
 match vs,hl with
 | [u,v],_=>
   have hu:=hd 0 _ _ rfl rfl;have hv:=hd 1 _ _ rfl rfl
   cases hu with|d _ _ hu=>cases hu with|nilsl=>
   cases hv with|d _ _ hv=>cases hv with|int _ _=>
   by_cases h0:n=0
   · subst h0;refine(Go.Proofs.Any8.slices_Grow_room Go.Proofs.Tryz.laysGrowE none 0 0 0 w (by decide) (by decide) (by decide) (by decide)).mono ?_;rintro e w' ⟨rfl,rfl⟩;exact⟨Below.refl _ _,_,rfl,.inl rfl⟩
   · obtain⟨_,inf,hi,hsz,hby,hz⟩:=hT.get (t:=129) (i:=(T 129).get rfl) rfl;have hg1:=grownCap_ge w (0+n) 0 129;have hg2:=grownCap_le_maxLen w (0+n) 0 129 (by simp only[maxLen];omega);refine(Go.Proofs.Any8.slices_Grow_grow Go.Proofs.Tryz.laysGrowE inf _ hi hz (by rw[hsz];decide) none 0 0 n [] w (Nat.le_refl _) (by omega) (by rw[hby];show(0+n)*48≤_;omega) (by omega) (by simp) (fun _=>rfl) (fun a h=>by cases h)).mono ?_;rintro e w' ⟨rfl,rfl⟩;refine⟨⟨rfl,rfl,rfl,?_,fun b hb=> ?_⟩,_,rfl,.inr ⟨_,_,_,rfl,Nat.le_refl _,Array.getElem?_push_size,hg2,?_⟩⟩
     · show w.heap.size≤(w.heap.push _).size;rw[Array.size_push];omega
     · show(w.heap.push _)[b]? =w.heap[b]?;rw[Array.getElem?_push];exact if_neg (by omega)
     · rw[Array.size_append,Array.size_append,size_zeroCells,size_zeroCells];show 0+(0+n - 0)*4+(grownCap w (0+n) 0 129 - (0+n))*4=grownCap w (0+n) 0 129*4;omega
def qE:OL:= [(0,[]),(1,[]),(2,[]),(3,[]),(4,[3]),(5,[3]),(6,[]),(7,[]),(8,[3,4,5,6,7]),(9,[]),(10,[]),(11,[]),(12,[])]
def Rm:List bx→List DV:=fun l=> [ga l]
abbrev Cu (l:List (List bx)):DV:=dD 1 Rm [] l
def fB (l:List (List bx)):Nat:=(l.map List.length).sum
theorem nN {l:List (List bx)}{i:Nat}(h:i<l.length):fB (l.take (i+1))=fB (l.take i)+(l.getD i []).length:=by
 unfold fB;rw[dG (d:= []) h];simp
theorem oH {l:List (List bx)}{i:Nat}:fB (l.take i)≤fB l:=by
 have h:=congrArg fB (List.take_append_drop i l);have h2:fB (l.take i++l.drop i)=fB (l.take i)+fB (l.drop i):=by unfold fB;rw[List.map_append,List.sum_append]
 omega
theorem Es (l:List (List bx)):l.flatten.length=fB l:=by
 unfold fB;rw[List.length_flatten]
theorem E6 (l:List (List bx))(hl:l.length≤2^20)(hn:fB l≤2^20):
 ai Tryz.prog 71 [.d (Cu l)] [] (fun y r=>y= .buf 6∧r= [(6,aM 129 4 iu dQ l.flatten)]):=by
 have hT:=uw;refine af hT (C:= []) Tryz.func71 rfl Tryz.call71 rfl rfl rfl ?_;conv=>whnf
 refine ah hT (C:= []) (ι:=Nat) (fun i=>i≤l.length) (fun i=>aN [(0,.d (Cu l)),(3,.d (.int .i64 (fB (l.take i)))),(9,.d (Cu l)),(10,.d (.int .i64 l.length)),(11,.d (.int .i64 i))] []) (fun i=>l.length - i) 0 (by omega) (by exact bz []) ?_;rintro i p1;have e1:(i:Int).toNat=i:=Int.toNat_natCast i;have hls:fB (l.take i)≤fB l:=oH;have hls2:i<l.length→fB (l.take i)+(l.getD (i:Int).toNat []).length≤fB l:=fun h=>by rw[e1,←nN h];exact oH
 conv=>whnf
 repeat' (first|((first|(refine aa ?_ ?_<;>intro hb<;>try simp only[az]at hb)|omega|refine aA ?_|decide|assumption)<;>conv=>whnf))
 · refine⟨i+1,by omega,by omega,ae [] rfl rfl ⟨lr,am ?_,lr,lr,lr,trivial⟩ trivial⟩;rw[nN (by omega),e1];omega
 have hi:i=l.length:=by omega
 subst hi;rw[List.take_length]at*;refine cj (LN (fB l) hn) [(1000001,24)] ?_;rintro x rout ⟨rfl,rfl⟩;refine⟨rfl,?_⟩;conv=>whnf
 repeat' (first|((first|(refine aa ?_ ?_<;>intro hb<;>try simp only[az]at hb)|omega|refine aA ?_|decide|assumption)<;>conv=>whnf))
 refine ah hT (C:= []) (ι:=Nat) (fun i=>i≤l.length) (fun i=>aN [(6,.buf 6),(25,.d (Cu l)),(26,.d (.int .i64 l.length)),(27,.d (.int .i64 i))] [(6,aM 129 4 iu dQ (l.take i).flatten)]) (fun i=>l.length - i) 0 (by omega) ?_ ?_
 · exact ae [(6,24)] rfl rfl ⟨lr,lr,lr,lr,trivial⟩ ⟨bB rfl (fun i hi=>absurd hi (by omega)),trivial⟩
 rintro i p1;have e1:(i:Int).toNat=i:=Int.toNat_natCast i;have hls:fB (l.take i)≤fB l:=oH;have hf:=Es (l.take i);have hls2:(i:Int)<l.length→(l.take i).flatten.length+(l.getD (i:Int).toNat []).length≤2^20:=fun h=>by rw[e1,hf,←nN (by omega)];exact Nat.le_trans oH hn
 conv=>whnf
 repeat' (first|((first|(refine aa ?_ ?_<;>intro hb<;>try simp only[az]at hb)|omega|refine aA ?_|decide|assumption)<;>conv=>whnf))
 · have e2:(l.take (i+1)).flatten=(l.take i).flatten++l.getD (i:Int).toNat []:=by rw[dG (d:= []) (by omega),e1];simp
   refine⟨i+1,by omega,by omega,ae [(6,33)] rfl rfl ⟨lr,lr,lr,lr,trivial⟩ ⟨?_,trivial⟩⟩;rw[e2];exact xI
 · have hi:i=l.length:=by omega
   subst hi;refine .ret _ ?_;conv=>whnf
   refine⟨_,⟨rfl,rfl⟩,?_,trivial⟩;rw[List.take_length];exact rr
def e1:bx:=⟨1,[100],1,[120]⟩
theorem EF:ai Tryz.prog 100 [.d (.str [120])] [] (fun x r=>x= .d (.bool true)∧r= []):=by
 have hT:=uw;refine af hT (C:= []) Tryz.func100 rfl Tryz.call100 rfl rfl rfl ?_;conv=>whnf
 repeat' (first|((first|refine nz.run hT (C:= []) 4 rfl [0,5,6] [] (fun _ _ h=>h) (fun _ h=>h) ?_|(refine aa ?_ ?_<;>intro hb<;>try simp only[az]at hb)|omega|refine aA ?_|decide|assumption)<;>conv=>whnf))
 refine .ret _ ?_;conv=>whnf
 refine⟨[],⟨?_,rfl⟩,trivial⟩;conv=>lhs;whnf
set_option maxHeartbeats 4000000 in
theorem La:ai Tryz.prog 51 [.d (ga [e1])] [] (fun x r=>x= .d (.int .i64 0)∧r= []):=by
 have h108:=gC [100] (by simp);rw[show aG [100]=true from by decide]at h108;have hT:=uw;refine af hT (C:= []) Tryz.func51 rfl Tryz.call51 rfl rfl rfl ?_;conv=>whnf
 repeat' (first|(refine nz.run hT (C:= []) 10 rfl [0,3,11,12,13] [] (fun _ _ h=>h) (fun _ h=>h) ?_;conv=>whnf)|(refine ac (Ex 1) rfl rfl ?_;rotate_right;conv=>whnf)|(refine ac (h108) rfl rfl ?_;rotate_right;conv=>whnf)|(refine ac (fA 1 1 1000000) rfl rfl ?_;rotate_right;conv=>whnf)|(refine ac (EF) rfl rfl ?_;rotate_right;conv=>whnf)|((first|(refine aa ?_ ?_<;>intro hb<;>try simp only[az]at hb)|refine aw hT 16 qE ?_|omega|refine aA ?_|decide|assumption)<;>conv=>whnf))
 refine .ret _ ?_;conv=>whnf
 refine⟨[],⟨?_,rfl⟩,trivial⟩;conv=>lhs;whnf
theorem Kj:ai Tryz.prog 51 [.d (ga [])] [] (fun x r=>x= .d (.int .i64 0)∧r= []):=by
 have hT:=uw;refine af hT (C:= []) Tryz.func51 rfl Tryz.call51 rfl rfl rfl ?_;conv=>whnf
 repeat' (first|((first|refine nz.run hT (C:= []) 10 rfl [0,3,11,12,13] [] (fun _ _ h=>h) (fun _ h=>h) ?_|(refine aa ?_ ?_<;>intro hb<;>try simp only[az]at hb)|refine aw hT 16 qE ?_|omega|refine aA ?_|decide|assumption)<;>conv=>whnf))
 refine .ret _ ?_;conv=>whnf
 refine⟨[],⟨?_,rfl⟩,trivial⟩;conv=>lhs;whnf
abbrev yD (l:List bx):aY:=aM 129 4 iu dQ l
theorem M7:ai Tryz.prog 133 [.buf 1000001,.d (.int .i64 0),.d (.int .i64 1),.fn 72 []] [(1000001,yD [e1])] (fun y r=>y= .tup []∧r= [(1000001,yD [e1])]):=by
 have hT:=uw;refine af hT (C:= []) Tryz.func133 rfl Tryz.call133 rfl rfl rfl ?_;conv=>whnf
 repeat' (first|((first|refine nz.run hT (C:= []) 2 rfl [0,1,2,3,8] [1000001] (fun _ _ h=>h) (fun _ h=>h) ?_|refine nz.run hT (C:= []) 8 rfl [0,1,2,3,8,9] [1000001] (fun _ _ h=>h) (fun _ h=>h) ?_|(refine aa ?_ ?_<;>intro hb<;>try simp only[az]at hb)|refine aw hT 4 oBDRdB133_4 ?_|refine aw hT 6 oBDRdB133_6 ?_|omega|refine aA ?_|decide|assumption)<;>conv=>whnf))
 refine .ret _ ?_;conv=>whnf
 exact⟨_,⟨rfl,rfl⟩,rr,trivial⟩
theorem NV:ai Tryz.prog 88 [.buf 1000001,.d (.int .i64 1),.fn 72 []] [(1000001,yD [e1])] (fun y r=>y= .tup []∧r= [(1000001,yD [e1])]):=by
 have hT:=uw;refine af hT (C:= []) Tryz.func88 rfl Tryz.call88 rfl rfl rfl ?_;conv=>whnf
 repeat' (first|((first|refine nz.run hT (C:= []) 4 rfl [0,1,2,6,7,8] [1000001] (fun _ _ h=>h) (fun _ h=>h) ?_|refine nz.run hT (C:= []) 14 rfl [0,1,2,6] [1000001] (fun _ _ h=>h) (fun _ h=>h) ?_|refine nz.run hT (C:= []) 18 rfl [0,1,2,6,7,8] [1000001] (fun _ _ h=>h) (fun _ h=>h) ?_|(refine cj M7 [(1000001,1000001)] ?_;rintro x rout ⟨rfl,rfl⟩;refine⟨rfl,?_⟩)|(refine aa ?_ ?_<;>intro hb<;>try simp only[az]at hb)|omega|refine aA ?_|decide|assumption)<;>conv=>whnf))
 refine .ret _ ?_;conv=>whnf
 exact⟨_,⟨rfl,rfl⟩,rr,trivial⟩
theorem ME:ai Tryz.prog 43 [.buf 1000001,.fn 72 []] [(1000001,yD [e1])] (fun y r=>y= .tup []∧r= [(1000001,yD [e1])]):=by
 have hT:=uw;refine af hT (C:= []) Tryz.func43 rfl Tryz.call43 rfl rfl rfl ?_;conv=>whnf
 repeat' (first|((first|(refine cj NV [(1000001,1000001)] ?_;rintro x rout ⟨rfl,rfl⟩;refine⟨rfl,?_⟩)|(refine aa ?_ ?_<;>intro hb<;>try simp only[az]at hb)|omega|refine aA ?_|decide|assumption)<;>conv=>whnf))
 refine .ret _ ?_;conv=>whnf
 exact⟨_,⟨rfl,rfl⟩,rr,trivial⟩
theorem NQ:ai Tryz.prog 75 [.buf 1000001] [(1000001,yD [e1])] (fun y r=>y= .buf 1000001∧r= [(1000001,yD [e1])]):=by
 have hT:=uw;refine af hT (C:= []) Tryz.func75 rfl Tryz.call75 rfl rfl rfl ?_;conv=>whnf
 repeat' (first|((first|(refine aa ?_ ?_<;>intro hb<;>try simp only[az]at hb)|refine aw hT 6 oBDRdB75_6 ?_|refine aw hT 11 oBDRdB75_11 ?_|omega|refine aA ?_|decide|assumption)<;>conv=>whnf))
 refine .ret _ ?_;conv=>whnf
 exact⟨_,⟨rfl,rfl⟩,rr,trivial⟩
set_option maxHeartbeats 4000000 in
theorem Hu:ai Tryz.prog 33 [.d (ga [e1]),.d (ga [])] [] (fun y r=>y= .tup [.d (ga [e1]),.d (.int .i64 0)]∧r= []):=by
 have h105:=fu [0,0] (by simp);have hc:=E6 [[e1],[]] (by simp) (by decide);have hT:=uw;refine af hT (C:= []) Tryz.func33 rfl Tryz.call33 rfl rfl rfl ?_;conv=>whnf
 repeat' (first|(refine ac (La) rfl rfl ?_;rotate_right;conv=>whnf)|(refine ac (Kj) rfl rfl ?_;rotate_right;conv=>whnf)|((first|refine ao h105 ⟨aj (by rfl) (by rfl),trivial⟩ rfl ?_|(refine aa ?_ ?_<;>intro hb<;>try simp only[az]at hb)|omega|refine aA ?_|decide|assumption)<;>conv=>whnf))
 refine fz.of hc [(6,24)] rfl ⟨aj (by rfl) (by rfl),trivial⟩ trivial rfl rfl ?_;rintro x rout ⟨rfl,rfl⟩;refine⟨rfl,?_⟩;conv=>whnf
 repeat' (first|((first|(refine cj ME [(1000001,24)] ?_;rintro x rout ⟨rfl,rfl⟩;refine⟨rfl,?_⟩)|(refine cj NQ [(1000001,24)] ?_;rintro x rout ⟨rfl,rfl⟩;refine⟨rfl,?_⟩)|refine nz.run hT (C:= []) 18 rfl [7,8,30,31,32] [24] (fun _ _ h=>h) (fun _ h=>h) ?_|(refine aa ?_ ?_<;>intro hb<;>try simp only[az]at hb)|omega|refine aA ?_|decide|assumption)<;>conv=>whnf))
 refine .freeze _ 24 129 4 _ _ rfl (.weak _ ?_);conv=>whnf
 exact⟨.tup [.d (ga [e1]),.d (.int .i64 0)],_,bG ⟨lr,lr,trivial⟩,⟨rfl,rfl⟩,trivial⟩
theorem Ka:ws ⟨0,0,1,0⟩ ⟨[110],[65,65],0,0,7⟩ 0=0:=by decide+kernel
theorem K2:Iw ⟨0,0,1,0⟩ ⟨[110],[65,65],0,0,7⟩ 0=7:=by decide+kernel
theorem J5:Iu ⟨0,0,1,0⟩ ⟨[110],[65,65],0,0,7⟩ 0= .tup [.d (.int .i64 7),.d (.int .i64 0)]:=by unfold Iu;rw[if_pos Ka,K2]
set_option maxHeartbeats 4000000 in
theorem Kl:ai Tryz.prog 15 [] [] (fun x r=>x= .d (.bool true)∧r= []):=by
 have h35:=Q9 3 [1,1] (by simp);rw[DO,if_pos rfl,Ds]at h35;have hd:=Pc ⟨0,0,1,0⟩ ⟨[110],[65,65],0,0,7⟩ 0 ⟨by simp,by simp⟩;rw[J5]at hd;have hT:=uw;refine af hT (C:= []) Tryz.func15 rfl Tryz.call15 rfl rfl rfl ?_;conv=>whnf
 repeat' (first|(refine ao h35 ⟨lr,aj (by rfl) (by rfl),trivial⟩ rfl ?_;conv=>whnf)|(refine ac (hd) rfl rfl ?_;rotate_right;conv=>whnf)|((first|refine ao Pn ⟨aj rfl rfl,aj rfl rfl,trivial⟩ rfl ?_|refine ao Hu ⟨aj rfl rfl,aW,trivial⟩ rfl ?_|(refine aa ?_ ?_<;>intro hb<;>try simp only[az]at hb)|omega|refine aA ?_|decide|assumption)<;>conv=>whnf))
 all_goals first
  |(exfalso;omega)
  | (refine .ret _ ?_
     conv=>whnf
     refine⟨[],⟨?_,rfl⟩,trivial⟩;conv=>lhs;whnf
     all_goals rfl)
theorem FB (h:ed)(l:List bx):(Ez h l).length≤9:=by
 unfold Ez yT;have h1:∀k,(cZ (eo h (fx h.flt.veh) (aZ h l).his (aZ h l).paid (ca (aZ h l).his.has))).has k=true→k ∈ yz:=fun k hk=>r8 hk
 generalize cZ (eo h (fx h.flt.veh) (aZ h l).his (aZ h l).paid (ca (aZ h l).his.has))=M at h1 ⊢;have h2:=qy h1
 have h3:(nE M (ca M.has)).length≤(ca M.has).length:=by
  unfold nE;rw[List.length_map];exact List.length_filter_le _ _
 have h4:yz.length=9:=rfl;rw[(dH _ _).length_eq];omega
theorem Hr {h:ed}{l:List bx}{k:Nat}(hh:JY h)(hE:um h=0)(hG:dW Gz k l)(hk:k≤400)(hlE:jx l=0):uk h l:=
 ⟨hh.ok,CT hG (by omega),by have:=hG.1;omega,fun x hx=>by have:=(hG.2 x hx).1.2;omega,hE,hlE⟩
theorem xx {l:List Int}{c:Int}(hc:0≤c)(h:∀x ∈ l,-c≤x∧x≤c)(i:Nat){n:Nat}(hn:l.length≤n): -(c*n)≤cf (l.take i)∧cf (l.take i)≤c*n:=by
 have h1:=Cw (l:=l.take i) hc (fun x hx=>h x (List.mem_of_mem_take hx));have h2:(l.take i).length≤n:=by rw[List.length_take];omega
 have h3:=Int.mul_le_mul_of_nonneg_left (Int.ofNat_le.2 h2) hc;omega
theorem pR {l:List Int}{i:Nat}(h:i<l.length):cf (l.take (i+1))=cf (l.take i)+l.getD i 0:=by
 rw[dG (d:=0) h,l8,dg,GJ,Int.add_zero]
theorem CK {s:List UInt8}{c:Int}(hc:0≤c):∀ (l:List lP) (d:Int),(-c≤d∧d≤c)→(∀p ∈ l,-c≤p.amt∧p.amt≤c)→-c≤l.foldl (fun d p=>if p.acc=s then p.amt else d) d∧l.foldl (fun d p=>if p.acc=s then p.amt else d) d≤c
 | [],d,hd,_=>hd
 | p::l,d,hd,h=>by
   rw[List.foldl_cons];refine CK hc l _ ?_ (fun q hq=>h q (List.mem_cons_of_mem _ hq));split
   · exact h p List.mem_cons_self
   · exact hd
theorem vF {s:List UInt8}{l:List lP}{i:Nat}(h:i<l.length):lK s (l.take (i+1))=if(l.getD i fw).acc=s then(l.getD i fw).amt else lK s (l.take i):=by
 rw[dG (d:=fw) h,D6]
theorem sf {α:Type}(f:α→Int)(l:List α)(d:α){i:Nat}(h:i<l.length):(l.map f).getD i 0=f (l.getD i d):=by
 rw[List.getD_eq_getElem?_getD,List.getElem?_map,List.getElem?_eq_getElem h,List.getD_eq_getElem?_getD,List.getElem?_eq_getElem h];rfl
structure Q7 (h:ed)(l:List bx)(W:List lP)(H:List cy)(ow lo:cy→Int):Prop where
 s0:cf (W.map (·.amt))=0
 s1:lK ef W=cf (H.map lo) - lK dr W
 s2:lK ef W≤cf (H.map ow)
 s3:W.Pairwise (fun a b=>sH a b≤0)
 w1:W.length≤9
 w2:∀p ∈ W,-2^55≤p.amt∧p.amt≤2^55
 ow1:∀g,-2^42≤ow g∧ow g≤2^42
 lo1:∀g,-2^42≤lo g∧lo g≤2^42
theorem MD (h:ed)(l:List bx)(k:uk h l):Q7 h l (Ez h l) (eN h l) (yn h (fx h.flt.veh) (aZ h l).paid) (BE h (fx h.flt.veh)):=by
 have hZ:fq (2*l.length) l.length (aZ h l):=ol h _ _ l l.length (Nat.le_refl _);obtain⟨t1,h1,hb,hc⟩:=xA h (wZ k.hE) (tF.1 k.lE);obtain⟨L,hL1,hL2⟩:=hZ.fh;obtain⟨n1,n2,n3⟩:=ja hL2
 have hkey:∀s ∈ ca (aZ h l).his.has,(dm (aZ h l).his s).key=s:=fun s hs=>by
  obtain⟨g,e1,e2⟩:=hZ.his s ((n3 s).1 hs);unfold dm;rw[e1];exact hc.key s g e1
 obtain⟨f0,f1,f2,f3⟩:=I4 h (fx h.flt.veh) (aZ h l).his (aZ h l).paid (fun s=>(hZ.paid s).1) hkey rfl
 have hks:(ca (aZ h l).his.has).length≤400:=by
  have:=qy hL2;have:=k.len;omega
 have hob:=lf (h:=h) (vm:=fx h.flt.veh) (m:=(aZ h l).his) hZ.paid (ca (aZ h l).his.has)
 have hls:∀g,-2^41≤bX (jW h (fx h.flt.veh) g)∧bX (jW h (fx h.flt.veh) g)≤2^41:=fun g=>by
  have hE:=gP.1 (sM h (fx h.flt.veh) g);have:=rS (M:=1000000000) (fun x hx=>(hE.2 x hx).2.2);have:=hE.1;omega
 refine⟨f0,f1,f2,f3,FB h l,fun p hp=> ?_,fun g=> ?_,fun g=> ?_⟩
 · obtain⟨s,_,rfl⟩:=List.mem_map.1 ((dH _ _).mem_iff.1 hp);have:=Cr (o:=eo h (fx h.flt.veh) (aZ h l).his (aZ h l).paid (ca (aZ h l).his.has)) (c:=1000000000) (by decide) hob.2 s;have:=hob.1;show -2^55≤(cZ _).val s∧(cZ _).val s≤2^55;omega
 · have:=hls g;have:=hZ.paid g.key;unfold yn;split<;>omega
 · have:=hls g;unfold BE;split<;>omega
set_option maxHeartbeats 16000000 in
theorem z3 (n:Nat)(L:Nat→Int)(hn:n≤maxLen)(hL0:∀i,-2^63≤L i∧L i<2^63):
 ai Tryz.prog 3 [.d (.ro 1 n fun i=> [.int .i64 (L i)])] kx (fun x r=>x= .d (.bool true)∧r=kx):=by
 have hL:sB n L:=⟨hn,hL0⟩;refine af hT (C:= []) Tryz.func3 rfl Tryz.call3 rfl rfl rfl ?_;conv=>whnf
 repeat' (first|(refine fz.of (HJ n L hL _ ?_ ?_) [(1000000,28)] rfl ⟨lr,trivial⟩ ⟨rr,trivial⟩ rfl rfl ?_;rotate_right;rintro x rout ⟨⟨h,⟨⟨⟨hh,hE⟩,hv⟩,hds⟩,rfl⟩,⟨c,c1,c2,rfl⟩⟩;refine⟨rfl,?_⟩;conv=>whnf)|(refine fz.of (QT n L hL _ ?_ ?_ 0 20 (by omega) (by omega) (by omega) (by omega)) [(1000000,28)] rfl ⟨lr,lr,lr,trivial⟩ ⟨rr,trivial⟩ rfl rfl ?_;rotate_right;rintro x rout ⟨⟨m1,hm1,hm2,rfl⟩,⟨c,c1,c2,rfl⟩⟩;refine⟨rfl,?_⟩;conv=>whnf)|(refine fz.of (MN n L hL _ ?_ ?_ m1 (by omega) (by omega)) [(1000000,28),(1000009,1000009)] rfl ⟨lr,lr,trivial⟩ ⟨rr,rr,trivial⟩ rfl rfl ?_;rotate_right;rintro x rout ⟨l,b,⟨hG,hlE⟩,⟨b1,b2⟩,rfl,rfl⟩;refine⟨rfl,?_⟩;conv=>whnf)|((first|(refine aa ?_ ?_<;>intro hb<;>try simp only[az]at hb)|omega|refine aA ?_|decide|assumption)<;>conv=>whnf))
 all_goals try omega
 have k:=Hr hh hE hG (by omega) hlE;have cL:=Rb h l k hds;have cH:=Kn h l k;rw[show(ca (aZ h l).his.has).map (dm (aZ h l).his)=eN h l from rfl]at cH;obtain⟨r1,r2,r3,r4⟩:=pB k;have hll:=k.len;have hHl:(eN h l).length≤400:=by omega
 have hat:=fun i hi=>Ct k (i:=i) hi
 have hbl:=fun i hi=>Cp k hds (i:=i) hi
 have hbk:=MD h l k;have cB:=fun g hh hg h1 hl hb=>O7 h l k g hh hg h1 hl hb
 have cN:=fun g hh hg h1 hl hb=>q9 h l k g hh hg h1 hl hb
 have hlO:∀g,BE h (fx h.flt.veh) g=if ix g=true then 0 else bX (jW h (fx h.flt.veh) g):=fun g=>rfl
 have hlE2:∀g,eH (jW h (fx h.flt.veh) g)=0:=fun g=>sM h _ g
 generalize Ez h l=W at cL hbk;generalize eN h l=H at cH hHl hat hbl hbk;generalize yn h (fx h.flt.veh) (aZ h l).paid=ow at hbk cB;generalize BE h (fx h.flt.veh)=lo at hbk hlO;obtain⟨s0,s1,s2,s3,w1,w2,ow1,lo1⟩:=hbk;have hA:=fun i=>xx (l:=W.map (·.amt)) (c:=2^55) (by decide) (fun x hx=>by obtain⟨p,hp,rfl⟩:=List.mem_map.1 hx;exact w2 p hp) i (n:=9) (by rw[List.length_map];exact w1)
 have hO:=fun i=>xx (l:=H.map ow) (c:=2^42) (by decide) (fun x hx=>by obtain⟨p,hp,rfl⟩:=List.mem_map.1 hx;exact ow1 p) i (n:=400) (by rw[List.length_map];exact hHl)
 have hN:=fun i=>xx (l:=H.map lo) (c:=2^42) (by decide) (fun x hx=>by obtain⟨p,hp,rfl⟩:=List.mem_map.1 hx;exact lo1 p) i (n:=400) (by rw[List.length_map];exact hHl)
 have hD:=fun s=>CK (s:=s) (c:=2^55) (by decide) W 0 (by decide) w2
 have cS:=Qg W (by omega) s3;repeat' (first|((first|(refine cj cL [(1000009,1000009)] ?_;rintro x rout ⟨rfl,rfl⟩;refine⟨rfl,?_⟩)|(refine cj cH [(1000009,1000009)] ?_;rintro x rout ⟨rfl,rfl⟩;refine⟨rfl,?_⟩)|(refine aa ?_ ?_<;>intro hb<;>try simp only[az]at hb)|omega|refine aA ?_|decide|assumption)<;>conv=>whnf))
 refine ah hT (C:= []) (ι:=Nat) (fun i=>i≤W.length) (fun i=>aN [(4,.ptr 4 0),(5,.d (ga l)),(6,.d (dD 2 gv fw W)),(8,.d (Jc H)),(10,.d (.int .i64 (cf ((W.map (·.amt)).take i)))),(11,.d (.int .i64 (lK ef (W.take i)))),(12,.d (.int .i64 (lK dr (W.take i)))),(13,.d (.int .i64 0)),(53,.d (dD 2 gv fw W)),(54,.d (.int .i64 W.length)),(55,.d (.int .i64 i))] [(1000009,KX),(4,.cells 42 (uN h))]) (fun i=>W.length - i) 0 (Nat.zero_le _) ?_ ?_
 · exact ae [(1000009,1000009),(4,4)] rfl rfl ⟨lr,lr,lr,lr,lr,lr,lr,lr,lr,lr,lr,trivial⟩ ⟨rr,rr,trivial⟩
 intro i pi;have e1:(i:Int).toNat=i:=Int.toNat_natCast i;rcases Nat.lt_or_ge i W.length with hi|hi
 · have hAi:=hA i;have hAj:=hA (i+1);have hsn:=pR (l:=W.map (·.amt)) (i:=i) (by rw[List.length_map];exact hi);rw[sf (·.amt) W fw hi]at hsn;have hd1:=vF (s:=ef) hi;have hd2:=vF (s:=dr) hi;rw[←e1]at hsn hd1 hd2;rw[e1]at hsn hd1 hd2;conv=>whnf
   repeat' (first|((first|(refine And.intro (by unfold aF;simp only[e1];omega) ?_)|(refine aa ?_ ?_<;>intro hb<;>try simp only[az]at hb)|omega|refine aA ?_|decide|assumption)<;>conv=>whnf))
   all_goals try(exfalso;omega)
   · exact⟨i+1,by omega,by omega,ae [(1000009,1000009),(4,4)] rfl rfl ⟨lr,lr,lr,lr,am (by rw[hsn,e1]),am (by rw[hd1,if_pos (show _=ef from hb),e1]),am (by rw[hd2,if_neg (fun q=>by rw[show(W.getD i fw).acc=ef from hb]at q;revert q;decide)]),lr,lr,lr,am (by omega),trivial⟩ ⟨rr,rr,trivial⟩⟩
   · rename_i hb1;exact⟨i+1,by omega,by omega,ae [(1000009,1000009),(4,4)] rfl rfl ⟨lr,lr,lr,lr,am (by rw[hsn,e1]),am (by rw[hd1,if_neg (show ¬_=ef from hb1)]),am (by rw[hd2,if_pos (show _=dr from hb),e1]),lr,lr,lr,am (by omega),trivial⟩ ⟨rr,rr,trivial⟩⟩
   · rename_i hb1;exact⟨i+1,by omega,by omega,ae [(1000009,1000009),(4,4)] rfl rfl ⟨lr,lr,lr,lr,am (by rw[hsn,e1]),am (by rw[hd1,if_neg (show ¬_=ef from hb1)]),am (by rw[hd2,if_neg (show ¬_=dr from hb)]),lr,lr,lr,am (by omega),trivial⟩ ⟨rr,rr,trivial⟩⟩
 have hiW:i=W.length:=by omega
 subst hiW;rw[List.take_length,show((W.map (·.amt)).take W.length)=W.map (·.amt)by rw[List.take_of_length_le (by simp)],s0];have hDd:=hD ef;have hDc:=hD dr;rw[show W.foldl (fun d p=>if p.acc=ef then p.amt else d) 0=lK ef W from rfl]at hDd;rw[show W.foldl (fun d p=>if p.acc=dr then p.amt else d) 0=lK dr W from rfl]at hDc;generalize hdue:lK ef W=due at s1 s2 hDd ⊢;generalize hcash:lK dr W=cash at s1 hDc ⊢;conv=>whnf
 repeat' (first|((first|(refine aa ?_ ?_<;>intro hb<;>try simp only[az]at hb)|omega|refine aA ?_|decide|assumption)<;>conv=>whnf))
 all_goals try(exfalso;omega)
 refine ah hT (C:= []) (ι:=Nat) (fun i=>i≤H.length) (fun i=>aN [(4,.ptr 4 0),(5,.d (ga l)),(6,.d (dD 2 gv fw W)),(10,.d (.int .i64 0)),(11,.d (.int .i64 due)),(12,.d (.int .i64 cash)),(13,.d (.int .i64 (cf ((H.map ow).take i)))),(16,.d (.int .i64 (cf ((H.map lo).take i)))),(74,.d (Jc H)),(75,.d (.int .i64 H.length)),(76,.d (.int .i64 i))] [(1000009,KX),(4,.cells 42 (uN h))]) (fun i=>H.length - i) 0 (Nat.zero_le _) ?_ ?_
 · exact ae [(1000009,1000009),(4,4)] rfl rfl ⟨lr,lr,lr,lr,lr,lr,lr,lr,lr,lr,lr,trivial⟩ ⟨rr,rr,trivial⟩
 intro i pi;have e1:(i:Int).toNat=i:=Int.toNat_natCast i;have hOi:=hO i;have hNi:=hN i;rcases Nat.lt_or_ge i H.length with hi|hi
 · have hOj:=hO (i+1);have hNj:=hN (i+1);have hs1:=pR (l:=H.map ow) (i:=i) (by rw[List.length_map];exact hi);have hs2:=pR (l:=H.map lo) (i:=i) (by rw[List.length_map];exact hi);rw[sf ow H fp hi]at hs1;rw[sf lo H fp hi]at hs2;obtain⟨a1,a2,a3,a4⟩:=hat i hi;obtain⟨⟨b1,b2⟩,b3⟩:=hbl i hi;have cBi:=cB (H.getD i fp) a1 a2 b1 b2 b3;have cNi:=cN (H.getD i fp) a1 a2 b1 b2 b3;have c10:=Q8 (H.getD i fp) b1 b2;have hlo:=hlO (H.getD i fp);have hT2:=gP.1 (hlE2 (H.getD i fp));have ho1:=ow1 (H.getD i fp);have hl1:=lo1 (H.getD i fp);generalize jW h (fx h.flt.veh) (H.getD i fp)=T at cNi hlo hT2
   cases hop:ix (H.getD i fp)with
   | true=>
     rw[hop,if_pos rfl]at cBi cNi hlo;rw[hop]at c10;conv=>whnf
     repeat' (first|((first|(refine cj cBi [(1000009,1000009)] ?_;rintro x rout ⟨rfl,rfl⟩;refine⟨rfl,?_⟩)|(refine cj cNi [(1000009,1000009)] ?_;rintro x rout ⟨rfl,rfl⟩;refine⟨rfl,?_⟩))<;>conv=>whnf)|(refine ac (c10) rfl rfl ?_;rotate_right;conv=>whnf)|((first|(refine aa ?_ ?_<;>intro hb<;>try simp only[az]at hb)|omega|refine aA ?_|decide|assumption)<;>conv=>whnf))
     all_goals try(exfalso;omega)
     refine dP hT (C:= []) (fun _ _ h=>h) (fun _ h=>h) ?_;conv=>whnf
     repeat' (first|((first|(refine aa ?_ ?_<;>intro hb<;>try simp only[az]at hb)|omega|refine aA ?_|decide|assumption)<;>conv=>whnf))
     exact⟨i+1,by omega,by omega,ae [(1000009,1000009),(4,4)] rfl rfl ⟨lr,lr,lr,lr,lr,lr,am (by rw[hs1]),am (by rw[hs2,hlo];omega),lr,lr,am (by omega),trivial⟩ ⟨rr,rr,trivial⟩⟩
   | false=>
     rw[hop,if_neg (by simp)]at cBi cNi hlo;rw[hop]at c10;have hTl:=hT2.1;have hTs:=fun j=>rS (M:=1000000000) (l:=T.take j) (fun x hx=>(hT2.2 x (List.mem_of_mem_take hx)).2.2)
     have hTt:=fun j=>(List.length_take (i:=j) (l:=T))
     conv=>whnf
     repeat' (first|((first|(refine cj cBi [(1000009,1000009)] ?_;rintro x rout ⟨rfl,rfl⟩;refine⟨rfl,?_⟩)|(refine cj cNi [(1000009,1000009)] ?_;rintro x rout ⟨rfl,rfl⟩;refine⟨rfl,?_⟩))<;>conv=>whnf)|(refine ac (c10) rfl rfl ?_;rotate_right;conv=>whnf)|((first|(refine aa ?_ ?_<;>intro hb<;>try simp only[az]at hb)|omega|refine aA ?_|decide|assumption)<;>conv=>whnf))
     all_goals try(exfalso;omega)
     refine ah hT (C:= []) (ι:=Nat) (fun j=>j≤T.length) (fun j=>aN [(4,.ptr 4 0),(5,.d (ga l)),(6,.d (dD 2 gv fw W)),(10,.d (.int .i64 0)),(11,.d (.int .i64 due)),(12,.d (.int .i64 cash)),(13,.d (.int .i64 (cf ((H.map ow).take (i+1))))),(16,.d (.int .i64 (cf ((H.map lo).take i)+bX (T.take j)))),(74,.d (Jc H)),(75,.d (.int .i64 H.length)),(76,.d (.int .i64 i)),(104,.d (jK T)),(105,.d (.int .i64 T.length)),(106,.d (.int .i64 j))] [(1000009,KX),(4,.cells 42 (uN h))]) (fun j=>T.length - j) 0 (Nat.zero_le _) ?_ ?_
     · exact ae [(1000009,1000009),(4,4)] rfl rfl ⟨lr,lr,lr,lr,lr,lr,am (by rw[hs1]),am (by rw[List.take_zero,show bX []=0 from rfl,Int.add_zero]),lr,lr,lr,lr,lr,lr,trivial⟩ ⟨rr,rr,trivial⟩
     intro j pj;have e2:(j:Int).toNat=j:=Int.toNat_natCast j;have hTj:=hTs j;have hTj1:=hTs (j+1);have hTa:=hTt j;have hTb:=hTt (j+1);rcases Nat.lt_or_ge j T.length with hj|hj
     · have hs3:=vb hj;conv=>whnf
       repeat' (first|((first|(refine And.intro (by unfold aF;simp only[e2];omega) ?_)|(refine aa ?_ ?_<;>intro hb<;>try simp only[az]at hb)|omega|refine aA ?_|decide|assumption)<;>conv=>whnf))
       all_goals try(exfalso;omega)
       exact⟨j+1,by omega,by omega,ae [(1000009,1000009),(4,4)] rfl rfl ⟨lr,lr,lr,lr,lr,lr,lr,am (by rw[hs3,e2];omega),lr,lr,lr,lr,lr,am (by omega),trivial⟩ ⟨rr,rr,trivial⟩⟩
     · have hjT:j=T.length:=by omega
       subst hjT;conv=>whnf
       repeat' (first|((first|(refine aa ?_ ?_<;>intro hb<;>try simp only[az]at hb)|omega|refine aA ?_|decide|assumption)<;>conv=>whnf))
       all_goals try(exfalso;omega)
       exact⟨i+1,by omega,by omega,ae [(1000009,1000009),(4,4)] rfl rfl ⟨lr,lr,lr,lr,lr,lr,lr,am (by rw[hs2,hlo,List.take_length]),lr,lr,am (by omega),trivial⟩ ⟨rr,rr,trivial⟩⟩
 have hiH:i=H.length:=by omega
 subst hiH;rw[show((H.map ow).take H.length)=H.map ow by rw[List.take_of_length_le (by simp)]]at hOi ⊢;rw[show((H.map lo).take H.length)=H.map lo by rw[List.take_of_length_le (by simp)]]at hNi ⊢;generalize cf (H.map ow)=A at s2 hOi ⊢;generalize cf (H.map lo)=B at s1 hNi ⊢;conv=>whnf
 repeat' (first|(refine ac (cS) rfl rfl ?_;rotate_right;conv=>whnf)|(refine ac (Kl) rfl rfl ?_;rotate_right;conv=>whnf)|((first|(refine aa ?_ ?_<;>intro hb<;>try simp only[az]at hb)|omega|refine aA ?_|decide|assumption)<;>conv=>whnf))
 all_goals try(exfalso;omega)
 refine .ret _ ?_;conv=>whnf
 exact⟨kx,⟨rfl,rfl⟩,rr,trivial⟩
end Go.Proofs.YtodakofifpaljaaGreatDoor
