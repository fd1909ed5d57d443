/- Functions, and what the code asks of them: POrdLaw. -/
import Derived.KernelRfl
import Derived.Test.YtjlehbennimkgabOrderGangsP4
import Derived.Test.YtjlehbennimkgabOrderGangsP5
import Derived.Test.YtjlehbennimkgabOrderGangsP6
import Derived.Test.YtjlehbennimkgabOrderGangsP7
import Derived.Test.YtjlehbennimkgabOrderGangsP8
import Derived.Test.YtjlehbennimkgabOrderGangsP9
import Derived.Test.YtjlehbennimkgabOrderGangsP10
import Derived.Test.YtjlehbennimkgabOrderGangsP11
import Derived.Test.YtjlehbennimkgabOrderGangsP12
import Derived.Test.YtjlehbennimkgabOrderGangsP14
import Derived.Test.YtjlehbennimkgabOrderGangsP15
import Derived.Test.YtjlehbennimkgabOrderGangsP17
import Derived.Test.YtjlehbennimkgabOrderGangsP18
import Derived.Test.YtjlehbennimkgabOrderGangsP19
import Derived.Test.YtjlehbennimkgabOrderGangsP20
set_option maxRecDepth 100000
set_option maxHeartbeats 4000000
set_option linter.unusedVariables false
set_option linter.unusedSimpArgs false
-- interregnum/interregnumlaw14.awake
namespace Go.Abs
open Go
def f91.args (a:Unit):List D:=[]
def f91.blks (a:Unit):List (List D):=[]
def f91.res (a:Unit):List D:=[.bool (bC a)]
def f91.blks' (a:Unit):List (List D):=[]
def f91.C:aX:=FnC f91.args f91.blks (fun _=>True) f91.res f91.blks'
set_option linter.unusedVariables false
def f91.kills (a:Unit):List iF:=[]
def f91.cuts (a:Unit):List (Nat×Σ β:Type,β→Tm):=[]
def f91.af (a:Unit):AF:=AF.mk (.seq (.region [⟨(some 0),0,.move,[.c (.bool false)],none⟩])
 (.seq (.region [⟨(some 2),1,(.build [.str ByteArray.empty,.str ByteArray.empty,.int .i64 (0),.int .i64 (0),.int .i64 (0),.int .i64 (0),.slice .full 2 0 dF,.str ByteArray.empty,.str ByteArray.empty,.int .i64 (0),.int .i64 (0),.str ByteArray.empty,.int .i64 (0)] [(10,1)]),[.c (.int .i64 (1))],none⟩,
 ⟨(some 3),2,(.build [.str ByteArray.empty,.str ByteArray.empty,.int .i64 (0),.int .i64 (0),.int .i64 (0),.int .i64 (0),.slice .full 2 0 dF,.str ByteArray.empty,.str ByteArray.empty,.int .i64 (0)] [(2,1)]),[.c (.int .i64 (2))],none⟩,
 ⟨(some 4),3,(.build [.str ByteArray.empty,.str ByteArray.empty,.int .i64 (0),.int .i64 (0),.int .i64 (0),.int .i64 (0),.slice .full 2 0 dF,.str ByteArray.empty,.str ByteArray.empty,.int .i64 (0),.int .i64 (0),.str ByteArray.empty,.int .i64 (0)] [(0,10),(10,1)]),[.t 3,.c (.int .i64 (2))],none⟩,
 oT 5 4 (.buildSlice 13 2 [.str ByteArray.empty,.str ByteArray.empty,.int .i64 (0),.int .i64 (0),.int .i64 (0),.int .i64 (0),.slice .full 2 0 dF,.str ByteArray.empty,.str ByteArray.empty,.int .i64 (0),.int .i64 (0),.str ByteArray.empty,.int .i64 (0)] [(0,13),(13,13)]) [2,4],
 oT 6 5 (.call false 93) [5],
 oT 1 9 .move [6]])
 (.seq (.region [oT 7 10 .move [1],
 oT 8 11 (.len false) [7],
 ⟨(some 9),12,(.bin .eql),[.t 8,.c (.int .i64 (2))],none⟩,
 oT 10 13 .move [9],
 oG 11 14 .move [1] 10 true,
 ⟨(some 12),15,(.indexAddr 1 none),[.t 11,.c (.int .i64 (0))],(some (10,true))⟩,
 oG 13 16 (.load false 1) [12] 10 true,
 oG 14 17 (.len false) [13] 10 true,
 ⟨(some 15),18,(.bin .eql),[.t 14,.c (.int .i64 (1))],(some (10,true))⟩,
 ⟨(some 16),19,.pick,[.t 10,.t 15,.c (.bool false)],none⟩,
 oT 17 20 .move [16],
 oG 18 21 .move [1] 17 true,
 ⟨(some 19),22,(.indexAddr 1 none),[.t 18,.c (.int .i64 (0))],(some (17,true))⟩,
 oG 20 23 (.load false 1) [19] 17 true,
 ⟨(some 21),24,(.indexAddr 1 none),[.t 20,.c (.int .i64 (0))],(some (17,true))⟩,
 oG 22 25 (.load false 1) [21] 17 true,
 ⟨(some 23),26,(.bin .eql),[.t 22,.c (.int .i64 (1))],(some (17,true))⟩,
 ⟨(some 24),27,.pick,[.t 17,.t 23,.c (.bool false)],none⟩,
 oT 0 28 .move [24]])
 (.ret))))
 [.tmp 0] 0 25
def f91.env:Env:=[(93,f93.C)]
def f91.tree (a:Unit):Prop:=∃ c1:List (aA),SlQ 2 c1.length (fun j=>List.take 13 (List.drop (j * 13) [.str ByteArray.empty,.str ByteArray.empty,.int .i64 (0:Int),.int .i64 (0:Int),.int .i64 (0:Int),.int .i64 (0:Int),.slice .ro 2 0 dF,.str ByteArray.empty,.str ByteArray.empty,.int .i64 (0:Int),.int .i64 (1:Int),.str ByteArray.empty,.int .i64 (0:Int),.str ByteArray.empty,.str ByteArray.empty,.int .i64 (2:Int),.int .i64 (0:Int),.int .i64 (0:Int),.int .i64 (0:Int),.slice .ro 2 0 dF,.str ByteArray.empty,.str ByteArray.empty,.int .i64 (0:Int),.int .i64 (2:Int),.str ByteArray.empty,.int .i64 (0:Int)])) (gl aD c1) ((fX c1)∧Br (((b7 c1).length:Int)==(2:Int)) (Br (decide ((0:Int)≤(0:Int))&&decide ((0:Int) < ((b7 c1).length:Int))) (Br (((at_ (b7 c1) (0:Int)).length:Int)==(1:Int)) (Br (decide ((0:Int)≤(0:Int))&&decide ((0:Int) < ((b7 c1).length:Int))) (Br (decide ((0:Int)≤(0:Int))&&decide ((0:Int) < ((at_ (b7 c1) (0:Int)).length:Int))) ((((at_ (at_ (b7 c1) (0:Int)) (0:Int))==(1:Int))=(bC a))∧True) False) False) ((false=(bC a))∧True)) False) ((false=(bC a))∧True))
def f91.vc (a:Unit):Prop:=(fX ([((ByteArray.empty,ByteArray.empty,(0:Int),((0:Int),(0:Int),(0:Int)),[],ByteArray.empty,ByteArray.empty,(0:Int)),(1:Int),ByteArray.empty,(0:Int)),((ByteArray.empty,ByteArray.empty,(2:Int),((0:Int),(0:Int),(0:Int)),[],ByteArray.empty,ByteArray.empty,(0:Int)),(2:Int),ByteArray.empty,(0:Int))])∧((((b7 ([((ByteArray.empty,ByteArray.empty,(0:Int),((0:Int),(0:Int),(0:Int)),[],ByteArray.empty,ByteArray.empty,(0:Int)),(1:Int),ByteArray.empty,(0:Int)),((ByteArray.empty,ByteArray.empty,(2:Int),((0:Int),(0:Int),(0:Int)),[],ByteArray.empty,ByteArray.empty,(0:Int)),(2:Int),ByteArray.empty,(0:Int))])).length:Int)=(2:Int)→((0:Int) < ((b7 ([((ByteArray.empty,ByteArray.empty,(0:Int),((0:Int),(0:Int),(0:Int)),[],ByteArray.empty,ByteArray.empty,(0:Int)),(1:Int),ByteArray.empty,(0:Int)),((ByteArray.empty,ByteArray.empty,(2:Int),((0:Int),(0:Int),(0:Int)),[],ByteArray.empty,ByteArray.empty,(0:Int)),(2:Int),ByteArray.empty,(0:Int))])).length:Int)∧((((at_ (b7 ([((ByteArray.empty,ByteArray.empty,(0:Int),((0:Int),(0:Int),(0:Int)),[],ByteArray.empty,ByteArray.empty,(0:Int)),(1:Int),ByteArray.empty,(0:Int)),((ByteArray.empty,ByteArray.empty,(2:Int),((0:Int),(0:Int),(0:Int)),[],ByteArray.empty,ByteArray.empty,(0:Int)),(2:Int),ByteArray.empty,(0:Int))])) (0:Int)).length:Int)=(1:Int)→((0:Int) < ((b7 ([((ByteArray.empty,ByteArray.empty,(0:Int),((0:Int),(0:Int),(0:Int)),[],ByteArray.empty,ByteArray.empty,(0:Int)),(1:Int),ByteArray.empty,(0:Int)),((ByteArray.empty,ByteArray.empty,(2:Int),((0:Int),(0:Int),(0:Int)),[],ByteArray.empty,ByteArray.empty,(0:Int)),(2:Int),ByteArray.empty,(0:Int))])).length:Int)∧((0:Int) < ((at_ (b7 ([((ByteArray.empty,ByteArray.empty,(0:Int),((0:Int),(0:Int),(0:Int)),[],ByteArray.empty,ByteArray.empty,(0:Int)),(1:Int),ByteArray.empty,(0:Int)),((ByteArray.empty,ByteArray.empty,(2:Int),((0:Int),(0:Int),(0:Int)),[],ByteArray.empty,ByteArray.empty,(0:Int)),(2:Int),ByteArray.empty,(0:Int))])) (0:Int)).length:Int)∧(((at_ (at_ (b7 ([((ByteArray.empty,ByteArray.empty,(0:Int),((0:Int),(0:Int),(0:Int)),[],ByteArray.empty,ByteArray.empty,(0:Int)),(1:Int),ByteArray.empty,(0:Int)),((ByteArray.empty,ByteArray.empty,(2:Int),((0:Int),(0:Int),(0:Int)),[],ByteArray.empty,ByteArray.empty,(0:Int)),(2:Int),ByteArray.empty,(0:Int))])) (0:Int)) (0:Int))==(1:Int))=bC a))))∧(¬(((at_ (b7 ([((ByteArray.empty,ByteArray.empty,(0:Int),((0:Int),(0:Int),(0:Int)),[],ByteArray.empty,ByteArray.empty,(0:Int)),(1:Int),ByteArray.empty,(0:Int)),((ByteArray.empty,ByteArray.empty,(2:Int),((0:Int),(0:Int),(0:Int)),[],ByteArray.empty,ByteArray.empty,(0:Int)),(2:Int),ByteArray.empty,(0:Int))])) (0:Int)).length:Int)=(1:Int))→(false=bC a)))))∧(¬(((b7 ([((ByteArray.empty,ByteArray.empty,(0:Int),((0:Int),(0:Int),(0:Int)),[],ByteArray.empty,ByteArray.empty,(0:Int)),(1:Int),ByteArray.empty,(0:Int)),((ByteArray.empty,ByteArray.empty,(2:Int),((0:Int),(0:Int),(0:Int)),[],ByteArray.empty,ByteArray.empty,(0:Int)),(2:Int),ByteArray.empty,(0:Int))])).length:Int)=(2:Int))→(false=bC a))))
theorem f91.of (a:Unit) (h:f91.vc a):f91.tree a:=⟨[((ByteArray.empty,ByteArray.empty,(0:Int),((0:Int),(0:Int),(0:Int)),[],ByteArray.empty,ByteArray.empty,(0:Int)),(1:Int),ByteArray.empty,(0:Int)),((ByteArray.empty,ByteArray.empty,(2:Int),((0:Int),(0:Int),(0:Int)),[],ByteArray.empty,ByteArray.empty,(0:Int)),(2:Int),ByteArray.empty,(0:Int))],slQ (Rds.rowD (enc:=aD) rfl (fun i hi=>match i,hi with | 0,_=>(DEqs.cons (DEq.refl _) (DEqs.cons (DEq.refl _) (DEqs.cons (DEq.refl _) (DEqs.cons (DEq.refl _) (DEqs.cons (DEq.refl _) (DEqs.cons (DEq.refl _) (DEqs.cons ((Rds.nil (enc:=aZ))).deq (DEqs.cons (DEq.refl _) (DEqs.cons (DEq.refl _) (DEqs.cons (DEq.refl _) (DEqs.cons (DEq.refl _) (DEqs.cons (DEq.refl _) (DEqs.cons (DEq.refl _) DEqs.nil))))))))))))) | 1,_=>(DEqs.cons (DEq.refl _) (DEqs.cons (DEq.refl _) (DEqs.cons (DEq.refl _) (DEqs.cons (DEq.refl _) (DEqs.cons (DEq.refl _) (DEqs.cons (DEq.refl _) (DEqs.cons ((Rds.nil (enc:=aZ))).deq (DEqs.cons (DEq.refl _) (DEqs.cons (DEq.refl _) (DEqs.cons (DEq.refl _) (DEqs.cons (DEq.refl _) (DEqs.cons (DEq.refl _) (DEqs.cons (DEq.refl _) DEqs.nil))))))))))))) | _+2,hi=>absurd hi (Nat.not_lt.2 (Nat.le_add_left _ _)))) (⟨h.1,br h.2 Cnd.eq (fun h2 k17=>chk k17.2 Cnd.ix ⟨(by decide),k17.1⟩ (fun h4 k15=>br k15 Cnd.eq (fun h5 k13=>chk k13.2 Cnd.ix ⟨(by decide),k13.1⟩ (fun h7 k11=>chk k11.2 Cnd.ix ⟨(by decide),k11.1⟩ (fun h8 k10=>⟨k10,trivial⟩))) (fun h6 k14=>⟨k14,trivial⟩))) (fun h3 k18=>⟨k18,trivial⟩)⟩)⟩
theorem f91.eq (a:Unit):(f91.af a).gives f91.env (f91.args a) (f91.blks a) (f91.res a) (f91.blks' a)=f91.tree a:=by kernel_rfl
set_option linter.unusedVariables false
def f84.wf (a:(List (aA))×ByteArray):Prop:=fP.ok a.1∧eD.ok a.2
def f84.size (a:(List (aA))×ByteArray):Nat:=fP.size a.1+eD.size a.2
def f84.lpre (a:(List (aA))×ByteArray):Prop:=f84.wf a∧f84.size a≤1048576
def f84.args (a:(List (aA))×ByteArray):List D:=[.slice .ro 13 a.1.length (gl aD a.1),.str a.2]
def f84.blks (a:(List (aA))×ByteArray):List (List D):=[]
def f84.res (a:(List (aA))×ByteArray):List D:=[.bool (bC a)]
def f84.blks' (a:(List (aA))×ByteArray):List (List D):=[]
def f84.C:aX:=FnC f84.args f84.blks (fun a=>f84.lpre a) f84.res f84.blks'
def f84.S0 (a:(List (aA))×ByteArray) (x:Int×Int×Int×Int×Int):Tm:=⟨[.slice .ro 13 a.1.length (gl aD a.1),.str a.2,.dead,.dead,.dead,.int .i64 x.1,.int .i64 x.2.1,.int .i64 x.2.2.1,.int .i64 x.2.2.2.1,.dead,.dead,.dead,.dead,.dead,.dead,.dead,.dead,.dead,.dead,.dead,.dead,.dead,.dead,.dead,.dead,.dead,.dead,.dead,.dead,.dead,.dead,.dead,.int .i64 (a.1.length:Int),.int .i64 x.2.2.2.2,.dead,.dead,.dead,.dead,.dead,.dead,.dead,.dead,.dead,.dead,.dead,.dead,.dead,.dead,.dead,.dead,.dead,.dead,.dead,.dead,.dead,.dead,.dead,.dead,.dead,.dead,.dead,.dead,.dead,.dead,.dead,.dead,.dead,.dead,.dead,.dead,.dead,.dead,.dead,.dead,.dead,.dead,.dead,.dead,.dead,.dead,.dead,.dead,.dead,.dead,.dead,.dead,.dead,.dead,.dead,.dead,.dead,.dead,.dead,.dead,.dead,.dead,.dead,.dead,.dead,.dead,.dead,.dead,.dead,.dead,.dead,.dead,.dead,.dead,.dead,.dead,.dead,.dead,.dead,.dead,.dead,.dead,.dead,.dead,.dead],[],[]⟩
def f84.S1 (a:(List (aA))×ByteArray) (x:Int×Int×Int×(List (List (Int)))×Int×Int×Int×Int):Tm:=⟨[.slice .ro 13 a.1.length (gl aD a.1),.str a.2,.dead,.dead,.dead,.int .i64 x.1,.int .i64 x.2.1,.int .i64 x.2.2.1,.dead,.dead,.slice .ro 1 x.2.2.2.1.length (gl aO x.2.2.2.1),.int .i64 x.2.2.2.2.1,.int .i64 x.2.2.2.2.2.1,.dead,.dead,.dead,.dead,.dead,.dead,.dead,.dead,.dead,.dead,.dead,.dead,.dead,.dead,.dead,.dead,.dead,.dead,.dead,.dead,.dead,.dead,.dead,.dead,.dead,.dead,.dead,.dead,.dead,.dead,.dead,.dead,.dead,.dead,.dead,.dead,.dead,.dead,.dead,.dead,.dead,.dead,.dead,.dead,.dead,.dead,.dead,.dead,.dead,.dead,.dead,.dead,.dead,.dead,.dead,.dead,.dead,.dead,.dead,.dead,.dead,.dead,.dead,.dead,.dead,.int .i64 x.2.2.2.2.2.2.1,.int .i64 x.2.2.2.2.2.2.2,.dead,.dead,.dead,.dead,.dead,.dead,.dead,.dead,.dead,.dead,.dead,.dead,.dead,.dead,.dead,.dead,.dead,.dead,.dead,.dead,.dead,.dead,.dead,.dead,.dead,.dead,.dead,.dead,.dead,.dead,.dead,.dead,.dead,.dead,.dead,.dead,.dead,.dead,.dead],[],[]⟩
def f84.l0 (a:(List (aA))×ByteArray) (K:(Int×Int×Int×Int×Int)→Prop) (t:Int×Int×Int×Int×Int):Prop:=∃ x:Int×Int×Int×Int×Int,SlS aD a.1 ((a.2=a.2)∧(t.1=x.1)∧(t.2.1=x.2.1)∧(t.2.2.1=x.2.2.1)∧(t.2.2.2.1=x.2.2.2.1)∧((a.1.length:Int)=(a.1.length:Int))∧(t.2.2.2.2=x.2.2.2.2)∧K x)
theorem f84.l0i (a:(List (aA))×ByteArray) {K:(Int×Int×Int×Int×Int)→Prop} {t:Int×Int×Int×Int×Int} (h:K t):f84.l0 a K t:=⟨t,SlS.mk  (⟨rfl,⟨rfl,⟨rfl,⟨rfl,⟨rfl,⟨rfl,⟨rfl,h⟩⟩⟩⟩⟩⟩⟩)⟩
def f84.l1 (a:(List (aA))×ByteArray) (K:(Int×Int×Int×(List (List (Int)))×Int×Int×Int×Int)→Prop) (t:Int×Int×Int×(List (List (Int)))×Int×Int×Int×Int):Prop:=∃ x:Int×Int×Int×(List (List (Int)))×Int×Int×Int×Int,SlS aD a.1 ((a.2=a.2)∧(t.1=x.1)∧(t.2.1=x.2.1)∧(t.2.2.1=x.2.2.1)∧SlQ t.2.2.2.1.length x.2.2.2.1.length (gl aO t.2.2.2.1) (gl aO x.2.2.2.1) ((t.2.2.2.2.1=x.2.2.2.2.1)∧(t.2.2.2.2.2.1=x.2.2.2.2.2.1)∧(t.2.2.2.2.2.2.1=x.2.2.2.2.2.2.1)∧(t.2.2.2.2.2.2.2=x.2.2.2.2.2.2.2)∧K x))
theorem f84.l1i (a:(List (aA))×ByteArray) {K:(Int×Int×Int×(List (List (Int)))×Int×Int×Int×Int)→Prop} {t:Int×Int×Int×(List (List (Int)))×Int×Int×Int×Int} (h:K t):f84.l1 a K t:=⟨t,SlS.mk  (⟨rfl,⟨rfl,⟨rfl,⟨rfl,slQ (rS aO) (⟨rfl,⟨rfl,⟨rfl,⟨rfl,h⟩⟩⟩⟩)⟩⟩⟩⟩)⟩
def f84.kills (a:(List (aA))×ByteArray):List iF:=[.tell (Int×Int×Int×Int×Int) (f84.S0 a),
 .tell (Int×Int×Int×(List (List (Int)))×Int×Int×Int×Int) (f84.S1 a)]
def f84.cuts (a:(List (aA))×ByteArray):List (Nat×Σ β:Type,β→Tm):=[]
def f84.af (a:(List (aA))×ByteArray):AF:=AF.mk (.seq (.region [⟨(some 4),0,.move,[.c (.bool false)],none⟩])
 (.seq (.seq (.region [oT 14 1 (.call false 91) [],
 oT 15 5 (.un .not) [14],
 oT 16 6 .move [15],
 oG 17 7 .move [0] 16 false,
 oG 18 8 (.call false 92) [17] 16 false,
 oG 19 12 (.un .not) [18] 16 false,
 ⟨(some 20),13,.pick,[.t 16,.c (.bool true),.t 19],none⟩,
 oT 21 14 .move [20],
 oG 22 15 .move [1] 21 false,
 ⟨(some 23),16,(.bin .eql),[.t 22,.c (.str ByteArray.empty)],(some (21,false))⟩,
 ⟨(some 24),17,.pick,[.t 21,.c (.bool true),.t 23],none⟩,
 oT 25 18 .move [24],
 oG 26 19 .move [1] 25 false,
 oG 27 20 (.len true) [26] 25 false,
 ⟨(some 28),21,(.bin .gtr),[.t 27,.c (.int .i64 (1000))],(some (25,false))⟩,
 ⟨(some 29),22,.pick,[.t 25,.c (.bool true),.t 28],none⟩])
 (.cond (.t 29) (.seq (.region [oT 30 23 (.call false 91) [],
 oT 4 27 .move [30]])
 (.ret)) (.skip)))
 (.seq (.region [⟨(some 5),28,.move,[.c (.int .i64 (0))],none⟩,
 ⟨(some 6),29,.move,[.c (.int .i64 (0))],none⟩,
 ⟨(some 7),30,.move,[.c (.int .i64 (0))],none⟩])
 (.seq (.region [⟨(some 8),31,.move,[.c (.int .i64 (-1))],none⟩])
 (.seq (.seq (.region [oT 31 32 .move [0],
 oT 32 33 (.len false) [31],
 ⟨(some 33),34,.move,[.c (.int .i64 (0))],none⟩])
 (.block 0 (.loopT (Int×Int×Int×Int×Int) (f84.S0 a) 35 85 (.seq (.region [oT 34 35 (.bin .lss) [33,32]])
 (.seq (.cond (.t 34) (.skip) (.exit 0))
 (.seq (.block 1 (.seq (.region [oT 35 36 .move [33],
 oT 9 37 .move [35]])
 (.seq (.seq (.region [oT 36 38 .move [0],
 oT 37 39 .move [9],
 oT 38 40 (.indexAddr 13 none) [36,37],
 oT 39 41 (.fieldAddr 0) [38],
 oT 40 42 (.fieldAddr 8) [39],
 oT 41 43 (.load false 1) [40],
 oT 42 44 .move [1],
 oT 43 45 (.bin .neq) [41,42]])
 (.cond (.t 43) (.exit 1) (.skip)))
 (.seq (.region [oT 44 46 .move [6],
 ⟨(some 45),47,(.bin .add),[.t 44,.c (.int .i64 (1))],none⟩,
 oT 6 48 .move [45]])
 (.seq (.region [oT 46 49 .move [0],
 oT 47 50 .move [9],
 oT 48 51 (.indexAddr 13 none) [46,47],
 oT 49 52 (.fieldAddr 11) [48],
 oT 50 53 (.load false 1) [49],
 ⟨(some 51),54,(.bin .eql),[.t 50,.c (.str ByteArray.empty)],none⟩])
 (.cond (.t 51) (.seq (.region [oT 52 55 .move [5],
 ⟨(some 53),56,(.bin .add),[.t 52,.c (.int .i64 (1))],none⟩,
 oT 5 57 .move [53]])
 (.seq (.region [oT 54 58 .move [8],
 ⟨(some 55),59,(.bin .lss),[.t 54,.c (.int .i64 (0))],none⟩,
 oT 56 60 .move [55],
 oG 57 61 .move [0] 56 false,
 oG 58 62 .move [9] 56 false,
 oG 59 63 (.indexAddr 13 none) [57,58] 56 false,
 oG 60 64 (.load true 13) [59] 56 false,
 oG 61 65 .move [0] 56 false,
 oG 62 66 .move [8] 56 false,
 oG 63 67 (.indexAddr 13 none) [61,62] 56 false,
 oG 64 68 (.load true 13) [63] 56 false,
 oG 65 69 (.call false 96) [60,64] 56 false,
 ⟨(some 66),73,.pick,[.t 56,.c (.bool true),.t 65],none⟩])
 (.cond (.t 66) (.region [oT 67 74 .move [9],
 oT 68 75 .move [0],
 oT 69 76 .move [9],
 oT 70 77 (.indexAddr 13 none) [68,69],
 oT 71 78 (.fieldAddr 0) [70],
 oT 72 79 (.fieldAddr 9) [71],
 oT 73 80 (.load false 1) [72],
 oT 8 81 .move [67],
 oT 7 82 .move [73]]) (.skip)))) (.skip)))))))
 (.region [⟨(some 74),83,(.bin .add),[.t 33,.c (.int .i64 (1))],none⟩,
 oT 33 84 .move [74]])))))))
 (.seq (.region [oT 75 85 .move [0],
 oT 76 86 (.call false 93) [75],
 oT 10 90 .move [76]])
 (.seq (.region [⟨(some 11),91,.move,[.c (.int .i64 (0))],none⟩,
 ⟨(some 12),92,.move,[.c (.int .i64 (0))],none⟩])
 (.seq (.seq (.region [oT 77 93 .move [10],
 oT 78 94 (.len false) [77],
 ⟨(some 79),95,.move,[.c (.int .i64 (0))],none⟩])
 (.block 2 (.loopT (Int×Int×Int×(List (List (Int)))×Int×Int×Int×Int) (f84.S1 a) 96 123 (.seq (.region [oT 80 96 (.bin .lss) [79,78]])
 (.seq (.cond (.t 80) (.skip) (.exit 2))
 (.seq (.block 3 (.seq (.region [oT 81 97 .move [79],
 oT 13 98 .move [81]])
 (.seq (.region [oT 82 99 .move [0],
 oT 83 100 .move [10],
 oT 84 101 .move [13],
 oT 85 102 (.indexAddr 1 none) [83,84],
 oT 86 103 (.load false 1) [85],
 ⟨(some 87),104,(.indexAddr 1 none),[.t 86,.c (.int .i64 (0))],none⟩,
 oT 88 105 (.load false 1) [87],
 oT 89 106 (.indexAddr 13 none) [82,88],
 oT 90 107 (.fieldAddr 0) [89],
 oT 91 108 (.fieldAddr 8) [90],
 oT 92 109 (.load false 1) [91],
 oT 93 110 .move [1],
 oT 94 111 (.bin .eql) [92,93]])
 (.cond (.t 94) (.seq (.region [oT 95 112 .move [11],
 ⟨(some 96),113,(.bin .add),[.t 95,.c (.int .i64 (1))],none⟩,
 oT 11 114 .move [96]])
 (.region [oT 97 115 .move [10],
 oT 98 116 .move [13],
 oT 99 117 (.indexAddr 1 none) [97,98],
 oT 100 118 (.load false 1) [99],
 oT 101 119 (.len false) [100],
 oT 12 120 .move [101]])) (.skip)))))
 (.region [⟨(some 102),121,(.bin .add),[.t 79,.c (.int .i64 (1))],none⟩,
 oT 79 122 .move [102]])))))))
 (.seq (.seq (.region [oT 103 123 .move [5],
 ⟨(some 104),124,(.bin .eql),[.t 103,.c (.int .i64 (0))],none⟩,
 oT 105 125 .move [104],
 oG 106 126 .move [6] 105 false,
 oG 107 127 .move [7] 105 false,
 oG 108 128 (.bin .lss) [106,107] 105 false,
 ⟨(some 109),129,.pick,[.t 105,.c (.bool true),.t 108],none⟩])
 (.cond (.t 109) (.seq (.region [oT 110 130 .move [11],
 ⟨(some 111),131,(.bin .eql),[.t 110,.c (.int .i64 (0))],none⟩,
 oT 4 132 .move [111]])
 (.ret)) (.skip)))
 (.seq (.region [oT 112 133 .move [11],
 ⟨(some 113),134,(.bin .eql),[.t 112,.c (.int .i64 (1))],none⟩,
 oT 114 135 .move [113],
 oG 115 136 .move [12] 114 true,
 oG 116 137 .move [5] 114 true,
 oG 117 138 (.bin .eql) [115,116] 114 true,
 ⟨(some 118),139,.pick,[.t 114,.t 117,.c (.bool false)],none⟩,
 oT 4 140 .move [118]])
 (.ret)))))))))))
 [.tmp 4] 0 117
def f84.env:Env:=[(91,f91.C),(92,f92.C),(96,f96.C),(93,f93.C)]
def f84.tree (a:(List (aA))×ByteArray):Prop:=∃ c1:Unit,True∧Br (!(bC c1)) (∃ c4:Unit,True∧((bC c4)=(bC a))∧True) (f92.ent (fun c7=>(L20 c7)∧Br (!(iX c7)) (∃ c10:Unit,True∧((bC c10)=(bC a))∧True) (Br (a.2.toList==ByteArray.empty.toList) (∃ c15:Unit,True∧((bC c15)=(bC a))∧True) (Br (decide ((1000:Int) < (a.2.size:Int))) (∃ c20:Unit,True∧((bC c20)=(bC a))∧True) (∃ (I24:(Int×Int×Int×Int×Int)→Prop) (μ25:(Int×Int×Int×Int×Int)→Nat),(f84.l0 a I24 ((0:Int),(0:Int),(0:Int),(-1:Int),(0:Int)))∧∀ y26:Int×Int×Int×Int×Int,I24 y26→(Br (decide (y26.2.2.2.2 < (a.1.length:Int))) (Br (decide ((0:Int)≤y26.2.2.2.2)&&decide (y26.2.2.2.2 < (a.1.length:Int))) (Br (!((((at_ a.1 y26.2.2.2.2).1).2.2.2.2.2.2.1).toList==a.2.toList)) (Let (wI (y26.2.2.2.2+(1:Int))) (fun v32:Int=>f84.l0 a (Dn I24 μ25 y26) (y26.1,y26.2.1,y26.2.2.1,y26.2.2.2.1,v32))) (Let (wI (y26.2.1+(1:Int))) (fun v38:Int=>Br (decide ((0:Int)≤y26.2.2.2.2)&&decide (y26.2.2.2.2 < (a.1.length:Int))) (Br (((at_ a.1 y26.2.2.2.2).2.2.1).toList==ByteArray.empty.toList) (Let (wI (y26.1+(1:Int))) (fun v42:Int=>Br (decide (y26.2.2.2.1 < (0:Int))) (Br (decide ((0:Int)≤y26.2.2.2.2)&&decide (y26.2.2.2.2 < (a.1.length:Int))) (Let (wI (y26.2.2.2.2+(1:Int))) (fun v46:Int=>f84.l0 a (Dn I24 μ25 y26) (v42,v38,((at_ a.1 y26.2.2.2.2).1).2.2.2.2.2.2.2,y26.2.2.2.2,v46))) False) (Br (decide ((0:Int)≤y26.2.2.2.2)&&decide (y26.2.2.2.2 < (a.1.length:Int))) (Br (decide ((0:Int)≤y26.2.2.2.1)&&decide (y26.2.2.2.1 < (a.1.length:Int))) (f96.ent (fun c55=>True∧Br (pH c55) (Br (decide ((0:Int)≤y26.2.2.2.2)&&decide (y26.2.2.2.2 < (a.1.length:Int))) (Let (wI (y26.2.2.2.2+(1:Int))) (fun v59:Int=>f84.l0 a (Dn I24 μ25 y26) (v42,v38,((at_ a.1 y26.2.2.2.2).1).2.2.2.2.2.2.2,y26.2.2.2.2,v59))) False) (Let (wI (y26.2.2.2.2+(1:Int))) (fun v66:Int=>f84.l0 a (Dn I24 μ25 y26) (v42,v38,y26.2.2.1,y26.2.2.2.1,v66)))) ((at_ a.1 y26.2.2.2.2),(at_ a.1 y26.2.2.2.1))) False) False))) (Let (wI (y26.2.2.2.2+(1:Int))) (fun v82:Int=>f84.l0 a (Dn I24 μ25 y26) (y26.1,v38,y26.2.2.1,y26.2.2.2.1,v82)))) False))) False) (f93.ent (fun c97=>(fX c97)∧∃ (I99:(Int×Int×Int×(List (List (Int)))×Int×Int×Int×Int)→Prop) (μ100:(Int×Int×Int×(List (List (Int)))×Int×Int×Int×Int)→Nat),(f84.l1 a I99 (y26.1,y26.2.1,y26.2.2.1,(b7 c97),(0:Int),(0:Int),((b7 c97).length:Int),(0:Int)))∧∀ y101:Int×Int×Int×(List (List (Int)))×Int×Int×Int×Int,I99 y101→(Br (decide (y101.2.2.2.2.2.2.2 < y101.2.2.2.2.2.2.1)) (Br (decide ((0:Int)≤y101.2.2.2.2.2.2.2)&&decide (y101.2.2.2.2.2.2.2 < (y101.2.2.2.1.length:Int))) (Br (decide ((0:Int)≤(0:Int))&&decide ((0:Int) < ((at_ y101.2.2.2.1 y101.2.2.2.2.2.2.2).length:Int))) (Br (decide ((0:Int)≤(at_ (at_ y101.2.2.2.1 y101.2.2.2.2.2.2.2) (0:Int)))&&decide ((at_ (at_ y101.2.2.2.1 y101.2.2.2.2.2.2.2) (0:Int)) < (a.1.length:Int))) (Br ((((at_ a.1 (at_ (at_ y101.2.2.2.1 y101.2.2.2.2.2.2.2) (0:Int))).1).2.2.2.2.2.2.1).toList==a.2.toList) (Let (wI (y101.2.2.2.2.1+(1:Int))) (fun v109:Int=>Br (decide ((0:Int)≤y101.2.2.2.2.2.2.2)&&decide (y101.2.2.2.2.2.2.2 < (y101.2.2.2.1.length:Int))) (Let (wI (y101.2.2.2.2.2.2.2+(1:Int))) (fun v111:Int=>f84.l1 a (Dn I99 μ100 y101) (y101.1,y101.2.1,y101.2.2.1,y101.2.2.2.1,v109,((at_ y101.2.2.2.1 y101.2.2.2.2.2.2.2).length:Int),y101.2.2.2.2.2.2.1,v111))) False)) (Let (wI (y101.2.2.2.2.2.2.2+(1:Int))) (fun v121:Int=>f84.l1 a (Dn I99 μ100 y101) (y101.1,y101.2.1,y101.2.2.1,y101.2.2.2.1,y101.2.2.2.2.1,y101.2.2.2.2.2.1,y101.2.2.2.2.2.2.1,v121)))) False) False) False) (Br (y101.1==(0:Int)) (((y101.2.2.2.2.1==(0:Int))=(bC a))∧True) (Br (decide (y101.2.1 < y101.2.2.1)) (((y101.2.2.2.2.1==(0:Int))=(bC a))∧True) (Br (y101.2.2.2.2.1==(1:Int)) (((y101.2.2.2.2.2.1==y101.1)=(bC a))∧True) ((false=(bC a))∧True)))))) a.1)))))) a.1)
def f84.vc (a:(List (aA))×ByteArray):Prop:=((¬((bC ())=true)→((bC ())=bC a))∧(¬(¬((bC ())=true))→(L20 a.1∧((¬((iX (a.1))=true)→((bC ())=bC a))∧(¬(¬((iX (a.1))=true))→((a.2=ByteArray.empty→((bC ())=bC a))∧(¬(a.2=ByteArray.empty)→(((1000:Int) < (a.2.size:Int)→((bC ())=bC a))∧(¬((1000:Int) < (a.2.size:Int))→(∃ (I24:(Int×Int×Int×Int×Int)→Prop) (μ25:(Int×Int×Int×Int×Int)→Nat),I24 ((0:Int),(0:Int),(0:Int),(-1:Int),(0:Int))∧∀ y26:Int×Int×Int×Int×Int,I24 y26→((y26.2.2.2.2 < (a.1.length:Int)→((0:Int)≤y26.2.2.2.2∧y26.2.2.2.2 < (a.1.length:Int)∧((¬((((at_ a.1 y26.2.2.2.2).1).2.2.2.2.2.2.1)=a.2)→(-9223372036854775808≤(y26.2.2.2.2+(1:Int))∧(y26.2.2.2.2+(1:Int))≤9223372036854775807∧(I24 (y26.1,y26.2.1,y26.2.2.1,y26.2.2.2.1,(y26.2.2.2.2+(1:Int)))∧μ25 (y26.1,y26.2.1,y26.2.2.1,y26.2.2.2.1,(y26.2.2.2.2+(1:Int))) < μ25 y26)))∧(¬(¬((((at_ a.1 y26.2.2.2.2).1).2.2.2.2.2.2.1)=a.2))→(-9223372036854775808≤(y26.2.1+(1:Int))∧(y26.2.1+(1:Int))≤9223372036854775807∧((0:Int)≤y26.2.2.2.2∧y26.2.2.2.2 < (a.1.length:Int)∧((((at_ a.1 y26.2.2.2.2).2.2.1)=ByteArray.empty→(-9223372036854775808≤(y26.1+(1:Int))∧(y26.1+(1:Int))≤9223372036854775807∧((y26.2.2.2.1 < (0:Int)→((0:Int)≤y26.2.2.2.2∧y26.2.2.2.2 < (a.1.length:Int)∧(-9223372036854775808≤(y26.2.2.2.2+(1:Int))∧(y26.2.2.2.2+(1:Int))≤9223372036854775807∧(I24 ((y26.1+(1:Int)),(y26.2.1+(1:Int)),((at_ a.1 y26.2.2.2.2).1).2.2.2.2.2.2.2,y26.2.2.2.2,(y26.2.2.2.2+(1:Int)))∧μ25 ((y26.1+(1:Int)),(y26.2.1+(1:Int)),((at_ a.1 y26.2.2.2.2).1).2.2.2.2.2.2.2,y26.2.2.2.2,(y26.2.2.2.2+(1:Int))) < μ25 y26))))∧(¬(y26.2.2.2.1 < (0:Int))→((0:Int)≤y26.2.2.2.2∧y26.2.2.2.2 < (a.1.length:Int)∧((0:Int)≤y26.2.2.2.1∧y26.2.2.2.1 < (a.1.length:Int)∧(((pH ((at_ a.1 y26.2.2.2.2),(at_ a.1 y26.2.2.2.1)))=true→((0:Int)≤y26.2.2.2.2∧y26.2.2.2.2 < (a.1.length:Int)∧(-9223372036854775808≤(y26.2.2.2.2+(1:Int))∧(y26.2.2.2.2+(1:Int))≤9223372036854775807∧(I24 ((y26.1+(1:Int)),(y26.2.1+(1:Int)),((at_ a.1 y26.2.2.2.2).1).2.2.2.2.2.2.2,y26.2.2.2.2,(y26.2.2.2.2+(1:Int)))∧μ25 ((y26.1+(1:Int)),(y26.2.1+(1:Int)),((at_ a.1 y26.2.2.2.2).1).2.2.2.2.2.2.2,y26.2.2.2.2,(y26.2.2.2.2+(1:Int))) < μ25 y26))))∧(¬((pH ((at_ a.1 y26.2.2.2.2),(at_ a.1 y26.2.2.2.1)))=true)→(-9223372036854775808≤(y26.2.2.2.2+(1:Int))∧(y26.2.2.2.2+(1:Int))≤9223372036854775807∧(I24 ((y26.1+(1:Int)),(y26.2.1+(1:Int)),y26.2.2.1,y26.2.2.2.1,(y26.2.2.2.2+(1:Int)))∧μ25 ((y26.1+(1:Int)),(y26.2.1+(1:Int)),y26.2.2.1,y26.2.2.2.1,(y26.2.2.2.2+(1:Int))) < μ25 y26))))))))))∧(¬(((at_ a.1 y26.2.2.2.2).2.2.1)=ByteArray.empty)→(-9223372036854775808≤(y26.2.2.2.2+(1:Int))∧(y26.2.2.2.2+(1:Int))≤9223372036854775807∧(I24 (y26.1,(y26.2.1+(1:Int)),y26.2.2.1,y26.2.2.2.1,(y26.2.2.2.2+(1:Int)))∧μ25 (y26.1,(y26.2.1+(1:Int)),y26.2.2.1,y26.2.2.2.1,(y26.2.2.2.2+(1:Int))) < μ25 y26))))))))))∧(¬(y26.2.2.2.2 < (a.1.length:Int))→(fX a.1∧(∃ (I99:(Int×Int×Int×(List (List (Int)))×Int×Int×Int×Int)→Prop) (μ100:(Int×Int×Int×(List (List (Int)))×Int×Int×Int×Int)→Nat),I99 (y26.1,y26.2.1,y26.2.2.1,(b7 (a.1)),(0:Int),(0:Int),((b7 (a.1)).length:Int),(0:Int))∧∀ y101:Int×Int×Int×(List (List (Int)))×Int×Int×Int×Int,I99 y101→((y101.2.2.2.2.2.2.2 < y101.2.2.2.2.2.2.1→((0:Int)≤y101.2.2.2.2.2.2.2∧y101.2.2.2.2.2.2.2 < (y101.2.2.2.1.length:Int)∧((0:Int) < ((at_ y101.2.2.2.1 y101.2.2.2.2.2.2.2).length:Int)∧((0:Int)≤(at_ (at_ y101.2.2.2.1 y101.2.2.2.2.2.2.2) (0:Int))∧(at_ (at_ y101.2.2.2.1 y101.2.2.2.2.2.2.2) (0:Int)) < (a.1.length:Int)∧(((((at_ a.1 (at_ (at_ y101.2.2.2.1 y101.2.2.2.2.2.2.2) (0:Int))).1).2.2.2.2.2.2.1)=a.2→(-9223372036854775808≤(y101.2.2.2.2.1+(1:Int))∧(y101.2.2.2.2.1+(1:Int))≤9223372036854775807∧((0:Int)≤y101.2.2.2.2.2.2.2∧y101.2.2.2.2.2.2.2 < (y101.2.2.2.1.length:Int)∧(-9223372036854775808≤(y101.2.2.2.2.2.2.2+(1:Int))∧(y101.2.2.2.2.2.2.2+(1:Int))≤9223372036854775807∧(I99 (y101.1,y101.2.1,y101.2.2.1,y101.2.2.2.1,(y101.2.2.2.2.1+(1:Int)),((at_ y101.2.2.2.1 y101.2.2.2.2.2.2.2).length:Int),y101.2.2.2.2.2.2.1,(y101.2.2.2.2.2.2.2+(1:Int)))∧μ100 (y101.1,y101.2.1,y101.2.2.1,y101.2.2.2.1,(y101.2.2.2.2.1+(1:Int)),((at_ y101.2.2.2.1 y101.2.2.2.2.2.2.2).length:Int),y101.2.2.2.2.2.2.1,(y101.2.2.2.2.2.2.2+(1:Int))) < μ100 y101)))))∧(¬((((at_ a.1 (at_ (at_ y101.2.2.2.1 y101.2.2.2.2.2.2.2) (0:Int))).1).2.2.2.2.2.2.1)=a.2)→(-9223372036854775808≤(y101.2.2.2.2.2.2.2+(1:Int))∧(y101.2.2.2.2.2.2.2+(1:Int))≤9223372036854775807∧(I99 (y101.1,y101.2.1,y101.2.2.1,y101.2.2.2.1,y101.2.2.2.2.1,y101.2.2.2.2.2.1,y101.2.2.2.2.2.2.1,(y101.2.2.2.2.2.2.2+(1:Int)))∧μ100 (y101.1,y101.2.1,y101.2.2.1,y101.2.2.2.1,y101.2.2.2.2.1,y101.2.2.2.2.2.1,y101.2.2.2.2.2.2.1,(y101.2.2.2.2.2.2.2+(1:Int))) < μ100 y101))))))))∧(¬(y101.2.2.2.2.2.2.2 < y101.2.2.2.2.2.2.1)→((y101.1=(0:Int)→((y101.2.2.2.2.1==(0:Int))=bC a))∧(¬(y101.1=(0:Int))→((y101.2.1 < y101.2.2.1→((y101.2.2.2.2.1==(0:Int))=bC a))∧(¬(y101.2.1 < y101.2.2.1)→((y101.2.2.2.2.1=(1:Int)→((y101.2.2.2.2.2.1==y101.1)=bC a))∧(¬(y101.2.2.2.2.1=(1:Int))→(false=bC a)))))))))))))))))))))))
theorem f84.of (a:(List (aA))×ByteArray) (h:f84.vc a):f84.tree a:=⟨(),⟨trivial,br h (Cnd.not Cnd.b) (fun h2 k166=>⟨(),⟨trivial,⟨k166,trivial⟩⟩⟩) (fun h3 k167=>(f92.ei ⟨k167.1,br k167.2 (Cnd.not Cnd.b) (fun h8 k163=>⟨(),⟨trivial,⟨k163,trivial⟩⟩⟩) (fun h9 k164=>br k164 Cnd.seq (fun h13 k161=>⟨(),⟨trivial,⟨k161,trivial⟩⟩⟩) (fun h14 k162=>br k162 Cnd.dec (fun h18 k159=>⟨(),⟨trivial,⟨k159,trivial⟩⟩⟩) (fun h19 k160=>Exists.elim k160 (fun I24 h156_=>Exists.elim h156_ (fun μ25 h156=>⟨I24,μ25,(f84.l0i a h156.1),fun y26 h158=>br (h156.2 y26 h158) Cnd.dec (fun h27 k154=>chk k154.2.2 Cnd.ix ⟨k154.1,k154.2.1⟩ (fun h29 k96=>br k96 (Cnd.not Cnd.seq) (fun h30 k94=>wrapK.i64 k94 (fun h35 h36 k37=>(f84.l0i a k37))) (fun h31 k95=>wrapK.i64 k95 (fun h91 h92 k93=>chk k93.2.2 Cnd.ix ⟨k93.1,k93.2.1⟩ (fun h39 k90=>br k90 Cnd.seq (fun h40 k88=>wrapK.i64 k88 (fun h79 h80 k81=>br k81 Cnd.dec (fun h43 k77=>chk k77.2.2 Cnd.ix ⟨k77.1,k77.2.1⟩ (fun h45 k52=>wrapK.i64 k52 (fun h49 h50 k51=>(f84.l0i a k51)))) (fun h44 k78=>chk k78.2.2 Cnd.ix ⟨k78.1,k78.2.1⟩ (fun h53 k76=>chk k76.2.2 Cnd.ix ⟨k76.1,k76.2.1⟩ (fun h54 k75=>(f96.ei ⟨trivial,br k75 Cnd.b (fun h56 k72=>chk k72.2.2 Cnd.ix ⟨k72.1,k72.2.1⟩ (fun h58 k65=>wrapK.i64 k65 (fun h62 h63 k64=>(f84.l0i a k64)))) (fun h57 k73=>wrapK.i64 k73 (fun h69 h70 k71=>(f84.l0i a k71)))⟩)))))) (fun h41 k89=>wrapK.i64 k89 (fun h85 h86 k87=>(f84.l0i a k87)))))))) (fun h28 k155=>(f93.ei ⟨k155.1,Exists.elim k155.2 (fun I99 h150_=>Exists.elim h150_ (fun μ100 h150=>⟨I99,μ100,(f84.l1i a h150.1),fun y101 h152=>br (h150.2 y101 h152) Cnd.dec (fun h102 k148=>chk k148.2.2 Cnd.ix ⟨k148.1,k148.2.1⟩ (fun h104 k131=>chk k131.2 Cnd.ix ⟨(by decide),k131.1⟩ (fun h105 k130=>chk k130.2.2 Cnd.ix ⟨k130.1,k130.2.1⟩ (fun h106 k129=>br k129 Cnd.seq (fun h107 k127=>wrapK.i64 k127 (fun h118 h119 k120=>chk k120.2.2 Cnd.ix ⟨k120.1,k120.2.1⟩ (fun h110 k117=>wrapK.i64 k117 (fun h114 h115 k116=>(f84.l1i a k116))))) (fun h108 k128=>wrapK.i64 k128 (fun h124 h125 k126=>(f84.l1i a k126))))))) (fun h103 k149=>br k149 Cnd.eq (fun h132 k146=>⟨k146,trivial⟩) (fun h133 k147=>br k147 Cnd.dec (fun h135 k144=>⟨k144,trivial⟩) (fun h136 k145=>br k145 Cnd.eq (fun h138 k142=>⟨k142,trivial⟩) (fun h139 k143=>⟨k143,trivial⟩))))⟩))⟩))⟩)))))⟩))⟩⟩
theorem f84.eq (a:(List (aA))×ByteArray):(f84.af a).gives f84.env (f84.args a) (f84.blks a) (f84.res a) (f84.blks' a)=f84.tree a:=by kernel_rfl
theorem f91.ok (a:Unit) (_:True):f91.vc a:=by
 have e:b7 ([((ByteArray.empty,ByteArray.empty,(0:Int),((0:Int),(0:Int),(0:Int)),[],ByteArray.empty,ByteArray.empty,(0:Int)),(1:Int),ByteArray.empty,(0:Int)),((ByteArray.empty,ByteArray.empty,(2:Int),((0:Int),(0:Int),(0:Int)),[],ByteArray.empty,ByteArray.empty,(0:Int)),(2:Int),ByteArray.empty,(0:Int))])=[[1],[0]]:=by decide +kernel
 unfold f91.vc
 rw [e]
 refine ⟨Nat.le_of_ble_eq_true rfl,fun _=>⟨by decide,fun _=>⟨by decide,by decide,rfl⟩,fun c=>absurd rfl c⟩,fun c=>absurd rfl c⟩
theorem aFQ {js:List aU} {S:List Int} {n:Nat} {u:List Int} (hn:n < S.length) (h:u∈lA js S n):(u=[S.getD n default]∨((∀ q,q < n→aI (at_ js (S.getD q default))≠aI (at_ js (S.getD n default)))∧u=S.filter fun p=>decide (aI (at_ js p)=aI (at_ js (S.getD n default))))):=by
 by_cases c:aI (at_ js (S.getD n default))=ByteArray.empty
 ·rw [vK c] at h
  exact .inl (List.mem_singleton.1 h)
 ·rw [fS c] at h
  split at h
  next d=>exact .inr ⟨d.1,List.mem_singleton.1 h⟩
  next=>cases h
theorem vJ {js:List aU} {S:List Int} (hd:S.Nodup) {n:Nat} {u:List Int} (hn:n < S.length) (h:u∈lA js S n):u.getD 0 default=S.getD n default∧0 < u.length∧u.Sublist S:=by
 rcases aFQ hn h with rfl | ⟨h1,rfl⟩
 ·refine ⟨rfl,Nat.succ_pos 0,List.singleton_sublist.2 (zL hn)⟩
 ·obtain ⟨w1,w2⟩:=lK hd hn (q:=fun p=>decide (aI (at_ js p)=aI (at_ js (S.getD n default)))) (decide_eq_true rfl)
  exact ⟨(w2.2 fun k hk=>decide_eq_false (h1 k hk)).symm,w1,List.filter_sublist ..⟩
theorem xR {js:List aU} {S:List Int} {n:Nat} {u:List Int} (hn:n≤S.length) (h:u∈eE js S n):∃ k,k < n∧u∈lA js S k:=by
 unfold eE at h
 obtain ⟨k,h1,h2⟩:=List.mem_flatMap.1 h
 exact ⟨k,List.mem_range.1 h1,h2⟩
theorem r9 {js:List aU} {S:List Int} (hd:S.Nodup) {u:List Int} (h:u∈eE js S S.length):0 < u.length∧u.Sublist S:=by
 obtain ⟨k,h1,h2⟩:=xR (Nat.le_refl _) h
 exact (vJ hd h1 h2).2
theorem yK {a:List aU} (h:fX a):L20 (b7 a)∧∀ u∈b7 a,L20 u:=by
 have h:a.length≤1048576:=h
 have h1:=qG a
 have h2:=qX a (cL a) (cL a).length
 refine ⟨Nat.le_trans (Nat.le_trans h2 h1) h,fun u hu=>?_⟩
 have:=(r9 (kS a) hu).2.length_le
 unfold L20
 omega
theorem yU {α:Type} {lt:α→α→Bool} (w:Weak lt) (l:List α) (q:α→Bool):(a7 lt l).filter q=a7 lt (l.filter q):=by
 refine mG w (List.Pairwise.filter _ (gG w l)) fun z=>?_
 rw [List.filter_filter,List.filter_filter]
 have:∀ m:List α,m.filter (fun a=>kin lt z a&&q a)=(m.filter (kin lt z)).filter q:=fun m=>by
  rw [List.filter_filter]
  exact List.filter_congr fun a _=>Bool.and_comm _ _
 rw [this,this,fL w l z]
theorem xZ {α:Type} {lt:α→α→Bool} (w:Weak lt) (x:α):∀ {S:List α},Sd lt S→∃ A B,S=A++B∧(∀ y∈A,lt x y=false)∧∀ y∈B,lt x y=true
 | [],_=>⟨[],[],rfl,fun _ h=>absurd h List.not_mem_nil,fun _ h=>absurd h List.not_mem_nil⟩
 | y::S,h=>by
  obtain ⟨h1,h2⟩:=List.pairwise_cons.1 h
  cases c:lt x y with
  | true =>
   refine ⟨[],y::S,rfl,fun _ h=>absurd h List.not_mem_nil,fun z hz=>?_⟩
   rcases List.mem_cons.1 hz with rfl | hz
   ·exact c
   ·cases d:lt x z with
    | true=>rfl
    | false =>
     have:=w.le (h1 z hz) d
     rw [c] at this
     cases this
  | false =>
   obtain ⟨A,B,e1,e2,e3⟩:=xZ w x h2
   refine ⟨y::A,B,by rw [e1]; rfl,fun z hz=>?_,e3⟩
   rcases List.mem_cons.1 hz with rfl | hz
   ·exact c
   ·exact e2 z hz
theorem aCJ {lt:Int→Int→Bool} (w:Weak lt) (l:List Int) (x:Int):(a7 lt (l++[x])).getD 0 default=if l=[]∨lt x ((a7 lt l).getD 0 default)=true then x else (a7 lt l).getD 0 default:=by
 obtain ⟨A,B,e1,e2,e3⟩:=xZ w x (gG w l)
 rw [aCU w e1 e2 e3,e1]
 have hl:l=[]↔A++B=[]:=by
  rw [← e1,← List.length_eq_zero_iff,← List.length_eq_zero_iff,bZ]
 cases A with
 | nil =>
  cases B with
  | nil=>rw [if_pos (.inl (hl.2 rfl))]; rfl
  | cons b B=>rw [if_pos (.inr (e3 b (List.mem_cons_self ..)))]; rfl
 | cons y A =>
  rw [if_neg]
  ·rfl
  ·rintro (h | h)
   ·cases hl.1 h
   ·have:=e2 y (List.mem_cons_self ..)
    have h:lt x y=true:=h
    rw [h] at this
    cases this
theorem tA {js:List aU} {S:List Int} (hd:S.Nodup) {g:ByteArray} (hg:g≠ByteArray.empty):∀ {n:Nat},n≤S.length →
  (eE js S n).filter (fun u=>decide (aI (at_ js (u.getD 0 default))=g)) =
   if 0 < ((S.take n).filter fun p=>decide (aI (at_ js p)=g)).length∧qM (at_ js ((S.filter fun p=>decide (aI (at_ js p)=g)).getD 0 default))≤dH (js,g) then [S.filter fun p=>decide (aI (at_ js p)=g)] else []
 | 0,_=>by
  rw [if_neg fun h=>absurd h.1 (Nat.lt_irrefl 0)]
  rfl
 | n+1,hn=>by
  rw [j3,List.filter_append,tA hd hg (by omega),iQ (by omega),List.filter_append]
  by_cases c:aI (at_ js (S.getD n default))=g
  ·obtain ⟨w1,w2⟩:=lK hd (j:=n) (by omega) (q:=fun p=>decide (aI (at_ js p)=g)) (decide_eq_true c)
   rw [List.filter_cons_of_pos (p:=fun p=>decide (aI (at_ js p)=g)) (decide_eq_true c),List.filter_nil]
   have hpos:0 < ((S.take n).filter (fun p=>decide (aI (at_ js p)=g))++[S.getD n default]).length:=by
    rw [List.length_append,List.length_singleton]
    omega
   by_cases hf:∀ k,k < n→aI (at_ js (S.getD k default))≠g
   ·have hnil:(S.take n).filter (fun p=>decide (aI (at_ js p)=g))=[]:=by
     rw [List.filter_eq_nil_iff]
     intro x hx hh
     obtain ⟨k,hk,rfl⟩:=List.mem_take_iff_getElem.1 hx
     have:=hf k (by omega)
     rw [eF (by omega)] at this
     exact this (of_decide_eq_true hh)
    have hh:(S.filter fun p=>decide (aI (at_ js p)=g)).getD 0 default=S.getD n default:=(w2.2 fun k hk=>decide_eq_false (hf k hk)).symm
    rw [hnil,if_neg fun h=>absurd h.1 (Nat.lt_irrefl 0),List.nil_append,List.nil_append,hh]
    have c2:aI (at_ js (S.getD n default))≠ByteArray.empty:=by rw [c]; exact hg
    rw [fS c2,c]
    by_cases hm:qM (at_ js (S.getD n default))≤dH (js,g)
    ·rw [if_pos ⟨hf,hm⟩,if_pos ⟨Nat.succ_pos 0,hm⟩,List.filter_cons_of_pos (by rw [hh]; exact decide_eq_true c)]
     rfl
    ·rw [if_neg fun h=>hm h.2,if_neg fun h=>hm h.2]
     rfl
   ·have c2:aI (at_ js (S.getD n default))≠ByteArray.empty:=by rw [c]; exact hg
    have hne:0 < ((S.take n).filter (fun p=>decide (aI (at_ js p)=g))).length:=by
     refine Classical.byContradiction fun h0=>hf fun k hk e=>?_
     have:S.getD k default∈(S.take n).filter (fun p=>decide (aI (at_ js p)=g)):=by
      refine List.mem_filter.2 ⟨?_,decide_eq_true e⟩
      rw [eF (by omega)]
      exact List.mem_take_iff_getElem.2 ⟨k,by omega,rfl⟩
     exact h0 (List.length_pos_of_mem this)
    have hun:lA js S n=[]:=by rw [fS c2,if_neg fun h=>hf (by rw [← c]; exact h.1)]
    rw [hun,List.filter_nil,List.append_nil]
    by_cases hm:qM (at_ js ((S.filter fun p=>decide (aI (at_ js p)=g)).getD 0 default))≤dH (js,g)
    ·rw [if_pos ⟨hne,hm⟩,if_pos ⟨hpos,hm⟩]
    ·rw [if_neg fun h=>hm h.2,if_neg fun h=>hm h.2]
  ·rw [List.filter_cons_of_neg (p:=fun p=>decide (aI (at_ js p)=g)) (by simpa using c),List.filter_nil,List.append_nil]
   have hnil:(lA js S n).filter (fun u=>decide (aI (at_ js (u.getD 0 default))=g))=[]:=by
    rw [List.filter_eq_nil_iff]
    intro u hu hh
    have:=(vJ hd (by omega) hu).1
    rw [this] at hh
    exact c (of_decide_eq_true hh)
   rw [hnil,List.append_nil]
theorem f84.ok (a:List aU×ByteArray) (h:f84.lpre a):f84.vc a:=by
 obtain ⟨_,hs⟩:=h
 obtain ⟨l,g⟩:=a
 have hs:fP.size l+(g.size+1)≤1048576:=hs
 have h1:L20 l:=vV (l:=l) (by omega)
 have h20:l.length≤1048576:=h1
 refine ⟨fun _=>rfl,fun _=>⟨h1,fun _=>rfl,fun _=>⟨fun _=>rfl,fun hg=>⟨fun _=>rfl,fun _=>?_⟩⟩⟩⟩
 have hg:g≠ByteArray.empty:=hg
 simp only
 refine ⟨fun y=>0≤y.2.2.2.2∧y.2.2.2.2≤(l.length:Int)∧y.1=(((bH l y.2.2.2.2.toNat).filter fun p=>decide (aI (at_ l p)=g)).length:Int)∧y.2.1=dH (l.take y.2.2.2.2.toNat,g) ∧
   (((bH l y.2.2.2.2.toNat).filter fun p=>decide (aI (at_ l p)=g))=[]∧y.2.2.2.1=-1∨((bH l y.2.2.2.2.toNat).filter fun p=>decide (aI (at_ l p)=g))≠[]∧y.2.2.2.1=(a7 (b8 l) ((bH l y.2.2.2.2.toNat).filter fun p=>decide (aI (at_ l p)=g))).getD 0 default∧0≤y.2.2.2.1∧y.2.2.2.1 < (l.length:Int)∧y.2.2.1=qM (at_ l y.2.2.2.1)),
  fun y=>l.length - y.2.2.2.2.toNat,⟨by simp only; omega,by simp only; omega,rfl,rfl,.inl ⟨rfl,rfl⟩⟩,fun y hy=>?_⟩
 obtain ⟨wt,all,size,first,i⟩:=y
 obtain ⟨g0,g1,g2,g3,g4⟩:=hy
 simp only at g0 g1 g2 g3 g4 ⊢
 have hP:wt≤i:=by
  have e1:=List.length_filter_le (fun p=>decide (aI (at_ l p)=g)) (bH l i.toNat)
  have e2:=kD l i.toNat
  omega
 have hi:((i.toNat:Nat):Int)=i:=by omega
 refine ⟨fun hlt=>?_,fun hge=>?_⟩
 ·have em:dH (l.take (i+1).toNat,g)=all+if aI (at_ l i)=g then 1 else 0:=by
   have:l.take (i+1).toNat=l.take i.toNat++[at_ l i]:=by
    rw [show (i+1).toNat=i.toNat+1 from by omega,iQ (by omega)]
    rfl
   rw [this,u7,← g3]
  have hb:=w5 (l.take i.toNat) g
  rw [← g3,List.length_take] at hb
  have same:(¬cT (at_ l i)=true∨¬aI (at_ l i)=g)→(bH l (i+1).toNat).filter (fun p=>decide (aI (at_ l p)=g))=(bH l i.toNat).filter (fun p=>decide (aI (at_ l p)=g)):=fun hh=>by
   rw [show (i+1).toNat=i.toNat+1 from by omega]
   by_cases c:cT (at_ l i)=true
   ·rw [j7 (by rw [hi]; exact c),List.filter_append,hi,List.filter_cons_of_neg (p:=fun p=>decide (aI (at_ l p)=g)) (by
     rcases hh with hh | hh
     ·exact absurd c hh
     ·simpa using hh)]
    exact List.append_nil _
   ·rw [qI (by rw [hi]; exact c)]
  have more:cT (at_ l i)=true→aI (at_ l i)=g→(bH l (i+1).toNat).filter (fun p=>decide (aI (at_ l p)=g))=(bH l i.toNat).filter (fun p=>decide (aI (at_ l p)=g))++[i]:=fun c1 c2=>by
   rw [show (i+1).toNat=i.toNat+1 from by omega,j7 (by rw [hi]; exact c1),List.filter_append,hi,List.filter_cons_of_pos (p:=fun p=>decide (aI (at_ l p)=g)) (decide_eq_true c2)]
   rfl
  refine ⟨g0,hlt,fun c=>⟨by omega,by omega,⟨by omega,by omega,?_,?_,?_⟩,by omega⟩,fun c=>?_⟩
  ·rw [same (.inr c)]
   exact g2
  ·rw [em,if_neg (show ¬aI (at_ l i)=g from c)]
   omega
  ·rw [same (.inr c)]
   exact g4
  ·have c:aI (at_ l i)=g:=Classical.not_not.1 c
   rw [if_pos c] at em
   refine ⟨by omega,by omega,g0,hlt,fun cw=>?_,fun cw=>⟨by omega,by omega,⟨by omega,by omega,?_,em.symm,?_⟩,by omega⟩⟩
   ·have cw':cT (at_ l i)=true:=(pI _).2 cw
    have mo:=more cw' c
    have hd:=aCJ (aAP l) ((bH l i.toNat).filter fun p=>decide (aI (at_ l p)=g)) i
    rw [← mo] at hd
    have hlen:(wt+1:Int)=(((bH l (i+1).toNat).filter fun p=>decide (aI (at_ l p)=g)).length:Int):=by
     rw [mo,List.length_append,List.length_singleton,g2]
     omega
    have hne:(bH l (i+1).toNat).filter (fun p=>decide (aI (at_ l p)=g))≠[]:=by
     rw [mo]
     exact List.append_ne_nil_of_right_ne_nil _ (List.cons_ne_nil _ _)
    refine ⟨by omega,by omega,fun cf=>⟨g0,hlt,by omega,by omega,⟨by omega,by omega,hlen,em.symm,.inr ⟨hne,?_,g0,hlt,rfl⟩⟩,by omega⟩,fun cf=>?_⟩
    ·rcases g4 with ⟨e1,_⟩ | ⟨_,_,e3,_⟩
     ·rw [hd,if_pos (.inl e1)]
     ·exact absurd cf (by omega)
    ·rcases g4 with ⟨_,e1⟩ | ⟨e1,e2,e3,e4,e5⟩
     ·exact absurd e1 (by omega)
     ·rw [← e2] at hd
      refine ⟨g0,hlt,e3,e4,fun ca=>⟨g0,hlt,by omega,by omega,⟨by omega,by omega,hlen,em.symm,.inr ⟨hne,?_,g0,hlt,rfl⟩⟩,by omega⟩,fun ca=>⟨by omega,by omega,⟨by omega,by omega,hlen,em.symm,.inr ⟨hne,?_,e3,e4,e5⟩⟩,by omega⟩⟩
      ·rw [hd,if_pos (.inr ca)]
      ·rw [hd,if_neg]
       rintro (hh | hh)
       ·exact e1 hh
       ·exact ca hh
   ·rw [same (.inl fun hh=>cw ((pI _).1 hh))]
    exact g2
   ·rw [same (.inl fun hh=>cw ((pI _).1 hh))]
    exact g4
 ·have hia:i.toNat=l.length:=by omega
  rw [hia] at g2 g3 g4
  rw [List.take_length] at g3
  have hW:a7 (b8 l) ((bH l l.length).filter fun p=>decide (aI (at_ l p)=g))=(cL l).filter fun p=>decide (aI (at_ l p)=g):=(yU (aAP l) (bH l l.length) _).symm
  have hWl:wt=(((cL l).filter fun p=>decide (aI (at_ l p)=g)).length:Int):=by
   rw [← hW,bZ]
   exact g2
  rw [hW] at g4
  have hin:=tU l
  have hnd:=kS l
  have hC:=tA (js:=l) hnd hg (Nat.le_refl _)
  rw [List.take_length] at hC
  have hU:eE l (cL l) (cL l).length=b7 l:=rfl
  rw [hU] at hC
  have heach:∀ u∈b7 l,0 < u.length∧u.Sublist (cL l):=fun u hu=>r9 hnd hu
  have hul:=(yK (a:=l) h1).1
  have hul:(b7 l).length≤1048576:=hul
  have hu20:=(yK (a:=l) h1).2
  have hz:((bH l l.length).filter fun p=>decide (aI (at_ l p)=g))=[]↔wt=0:=by
   rw [g2,← List.length_eq_zero_iff]
   omega
  generalize (cL l).filter (fun p=>decide (aI (at_ l p)=g))=W at hWl g4 hC
  generalize cL l=S at hin heach
  generalize b7 l=U at hC heach hul hu20
  refine ⟨h1,fun y=>y.1=wt∧y.2.1=all∧y.2.2.1=size∧y.2.2.2.1=U∧y.2.2.2.2.2.2.1=(U.length:Int)∧0≤y.2.2.2.2.2.2.2∧y.2.2.2.2.2.2.2≤(U.length:Int)∧y.2.2.2.2.1=(((U.take y.2.2.2.2.2.2.2.toNat).filter fun u=>decide (aI (at_ l (u.getD 0 default))=g)).length:Int) ∧
    (∀ u,((U.take y.2.2.2.2.2.2.2.toNat).filter fun u=>decide (aI (at_ l (u.getD 0 default))=g))=[u]→y.2.2.2.2.2.1=(u.length:Int)),
   fun y=>U.length - y.2.2.2.2.2.2.2.toNat,⟨rfl,rfl,rfl,rfl,rfl,by simp only; omega,by simp only; omega,rfl,fun u hu=>by cases hu⟩,fun y hy=>?_⟩
  obtain ⟨w2,a2,s2,U2,units,stand,n2,k⟩:=y
  obtain ⟨e1,e2,e3,e4,e5,e6,e7,e8,e9⟩:=hy
  simp only at e1 e2 e3 e4 e5 e6 e7 e8 e9 ⊢
  subst e1; subst e2; subst e3; subst e4; subst e5
  have hun:=List.length_filter_le (fun u:List Int=>decide (aI (at_ l (u.getD 0 default))=g)) (U2.take k.toNat)
  rw [List.length_take] at hun
  refine ⟨fun hk=>?_,fun hk=>?_⟩
  ·obtain ⟨u1,u2⟩:=heach _ (lV e6 hk)
   have hx:=hin _ (u2.subset (lV (l:=at_ U2 k) (i:=0) (by omega) (by omega)))
   have tk:U2.take (k+1).toNat=U2.take k.toNat++[at_ U2 k]:=by
    rw [show (k+1).toNat=k.toNat+1 from by omega,iQ (by omega)]
    rfl
   refine ⟨e6,hk,by omega,hx.1,hx.2,fun c=>⟨by omega,by omega,e6,hk,by omega,by omega,⟨rfl,rfl,rfl,rfl,rfl,by omega,by omega,?_,fun u hu=>?_⟩,by omega⟩,fun c=>⟨by omega,by omega,⟨rfl,rfl,rfl,rfl,rfl,by omega,by omega,?_,fun u hu=>?_⟩,by omega⟩⟩
   ·rw [tk,List.filter_append,List.filter_cons_of_pos (p:=fun u:List Int=>decide (aI (at_ l (u.getD 0 default))=g)) (decide_eq_true c),List.length_append,e8]
    simp
   ·rw [tk,List.filter_append,List.filter_cons_of_pos (p:=fun u:List Int=>decide (aI (at_ l (u.getD 0 default))=g)) (decide_eq_true c)] at hu
    have:=congrArg List.getLast? hu
    rw [List.filter_nil,List.getLast?_append] at this
    simp at this
    rw [this]
   ·rw [tk,List.filter_append,List.filter_cons_of_neg (p:=fun u:List Int=>decide (aI (at_ l (u.getD 0 default))=g)) (by simpa using (show ¬aI (at_ l ((at_ U2 k).getD 0 default))=g from c)),List.filter_nil,List.append_nil]
    exact e8
   ·rw [tk,List.filter_append,List.filter_cons_of_neg (p:=fun u:List Int=>decide (aI (at_ l (u.getD 0 default))=g)) (by simpa using (show ¬aI (at_ l ((at_ U2 k).getD 0 default))=g from c)),List.filter_nil,List.append_nil] at hu
    exact e9 u hu
  ·have hUk:U2.take k.toNat=U2:=List.take_of_length_le (by omega)
   rw [hUk,hC] at e8 e9
   have zero:¬(0 < W.length∧qM (at_ l (W.getD 0 default))≤dH (l,g))→(units==(0:Int))=true:=fun hh=>by
    rw [if_neg hh] at e8
    rw [e8]
    rfl
   refine ⟨fun c0=>zero fun hh=>by omega,fun c0=>?_⟩
   rcases g4 with ⟨q1,_⟩ | ⟨q1,q2,q3,q4,q5⟩
   ·exact absurd (hz.1 q1) c0
   ·refine ⟨fun c1=>zero fun hh=>?_,fun c1=>?_⟩
    ·rw [← q2,← q5,← g3] at hh
     omega
    ·have hc:0 < W.length∧qM (at_ l (W.getD 0 default))≤dH (l,g):=by
      rw [← q2,← q5,← g3]
      omega
     rw [if_pos hc] at e8 e9
     refine ⟨fun _=>?_,fun c2=>absurd e8 c2⟩
     have:=e9 W rfl
     show (stand==w2)=true
     rw [beq_iff_eq,this]
     exact hWl.symm
end Go.Abs
