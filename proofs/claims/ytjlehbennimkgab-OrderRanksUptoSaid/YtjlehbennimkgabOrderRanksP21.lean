/- Functions, and what the code asks of them: POrdLaw. -/
import Derived.KernelRfl
import Derived.Test.YtjlehbennimkgabOrderRanksP4
import Derived.Test.YtjlehbennimkgabOrderRanksP5
import Derived.Test.YtjlehbennimkgabOrderRanksP6
import Derived.Test.YtjlehbennimkgabOrderRanksP7
import Derived.Test.YtjlehbennimkgabOrderRanksP8
import Derived.Test.YtjlehbennimkgabOrderRanksP9
import Derived.Test.YtjlehbennimkgabOrderRanksP10
import Derived.Test.YtjlehbennimkgabOrderRanksP11
import Derived.Test.YtjlehbennimkgabOrderRanksP12
import Derived.Test.YtjlehbennimkgabOrderRanksP14
import Derived.Test.YtjlehbennimkgabOrderRanksP15
import Derived.Test.YtjlehbennimkgabOrderRanksP17
import Derived.Test.YtjlehbennimkgabOrderRanksP18
import Derived.Test.YtjlehbennimkgabOrderRanksP19
import Derived.Test.YtjlehbennimkgabOrderRanksP20
set_option linter.unusedVariables false
set_option linter.unusedSimpArgs false
-- interregnum/interregnumlaw14.awake
namespace Go.Abs
open Go
def f91.args (a:Unit):List D:=[]
def f91.blks (a:Unit):List (List D):=[]
def f91.res (a:Unit):List D:=[.bool (bY a)]
def f91.blks' (a:Unit):List (List D):=[]
def f91.C:aW:=FnC f91.args f91.blks (fun _=>True) f91.res f91.blks'
set_option linter.unusedVariables false
def f91.kills (a:Unit):List iG:=[]
def f91.cuts (a:Unit):List (Nat×Σ β:Type,β→Tm):=[]
def f91.af (a:Unit):AF:=AF.mk (.seq (.region [⟨(some 0),0,.move,[.c (.bool false)],none⟩])
 (.seq (.region [⟨(some 2),1,(.build [.str ByteArray.empty,.str ByteArray.empty,.int .i64 (0),.int .i64 (0),.int .i64 (0),.int .i64 (0),.slice .full 2 0 dA,.str ByteArray.empty,.str ByteArray.empty,.int .i64 (0),.int .i64 (0),.str ByteArray.empty,.int .i64 (0)] [(10,1)]),[.c (.int .i64 (1))],none⟩,
 ⟨(some 3),2,(.build [.str ByteArray.empty,.str ByteArray.empty,.int .i64 (0),.int .i64 (0),.int .i64 (0),.int .i64 (0),.slice .full 2 0 dA,.str ByteArray.empty,.str ByteArray.empty,.int .i64 (0)] [(2,1)]),[.c (.int .i64 (2))],none⟩,
 ⟨(some 4),3,(.build [.str ByteArray.empty,.str ByteArray.empty,.int .i64 (0),.int .i64 (0),.int .i64 (0),.int .i64 (0),.slice .full 2 0 dA,.str ByteArray.empty,.str ByteArray.empty,.int .i64 (0),.int .i64 (0),.str ByteArray.empty,.int .i64 (0)] [(0,10),(10,1)]),[.t 3,.c (.int .i64 (2))],none⟩,
 oT 5 4 (.buildSlice 13 2 [.str ByteArray.empty,.str ByteArray.empty,.int .i64 (0),.int .i64 (0),.int .i64 (0),.int .i64 (0),.slice .full 2 0 dA,.str ByteArray.empty,.str ByteArray.empty,.int .i64 (0),.int .i64 (0),.str ByteArray.empty,.int .i64 (0)] [(0,13),(13,13)]) [2,4],
 oT 6 5 (.call false 93) [5],
 oT 1 9 .move [6]])
 (.seq (.region [oT 7 10 .move [1],
 oT 8 11 (.len false) [7],
 ⟨(some 9),12,(.bin .eql),[.t 8,.c (.int .i64 (2))],none⟩,
 oT 10 13 .move [9],
 oG 11 14 .move [1] 10 true,
 ⟨(some 12),15,(.indexAddr 1 none),[.t 11,.c (.int .i64 (0))],(some (10,true))⟩,
 oG 13 16 (.load false 1) [12] 10 true,
 oG 14 17 (.len false) [13] 10 true,
 ⟨(some 15),18,(.bin .eql),[.t 14,.c (.int .i64 (1))],(some (10,true))⟩,
 ⟨(some 16),19,.pick,[.t 10,.t 15,.c (.bool false)],none⟩,
 oT 17 20 .move [16],
 oG 18 21 .move [1] 17 true,
 ⟨(some 19),22,(.indexAddr 1 none),[.t 18,.c (.int .i64 (0))],(some (17,true))⟩,
 oG 20 23 (.load false 1) [19] 17 true,
 ⟨(some 21),24,(.indexAddr 1 none),[.t 20,.c (.int .i64 (0))],(some (17,true))⟩,
 oG 22 25 (.load false 1) [21] 17 true,
 ⟨(some 23),26,(.bin .eql),[.t 22,.c (.int .i64 (1))],(some (17,true))⟩,
 ⟨(some 24),27,.pick,[.t 17,.t 23,.c (.bool false)],none⟩,
 oT 0 28 .move [24]])
 (.ret))))
 [.tmp 0] 0 25
def f91.env:Env:=[(93,f93.C)]
def f91.tree (a:Unit):Prop:=∃ c1:List (aB),SlQ 2 c1.length (fun j=>List.take 13 (List.drop (j * 13) [.str ByteArray.empty,.str ByteArray.empty,.int .i64 (0:Int),.int .i64 (0:Int),.int .i64 (0:Int),.int .i64 (0:Int),.slice .ro 2 0 dA,.str ByteArray.empty,.str ByteArray.empty,.int .i64 (0:Int),.int .i64 (1:Int),.str ByteArray.empty,.int .i64 (0:Int),.str ByteArray.empty,.str ByteArray.empty,.int .i64 (2:Int),.int .i64 (0:Int),.int .i64 (0:Int),.int .i64 (0:Int),.slice .ro 2 0 dA,.str ByteArray.empty,.str ByteArray.empty,.int .i64 (0:Int),.int .i64 (2:Int),.str ByteArray.empty,.int .i64 (0:Int)])) (gl aD c1) ((fV c1)∧Br (((bO c1).length:Int)==(2:Int)) (Br (decide ((0:Int)≤(0:Int))&&decide ((0:Int) < ((bO c1).length:Int))) (Br (((at_ (bO c1) (0:Int)).length:Int)==(1:Int)) (Br (decide ((0:Int)≤(0:Int))&&decide ((0:Int) < ((bO c1).length:Int))) (Br (decide ((0:Int)≤(0:Int))&&decide ((0:Int) < ((at_ (bO c1) (0:Int)).length:Int))) ((((at_ (at_ (bO c1) (0:Int)) (0:Int))==(1:Int))=(bY a))∧True) False) False) ((false=(bY a))∧True)) False) ((false=(bY a))∧True))
def f91.vc (a:Unit):Prop:=(fV ([((ByteArray.empty,ByteArray.empty,(0:Int),((0:Int),(0:Int),(0:Int)),[],ByteArray.empty,ByteArray.empty,(0:Int)),(1:Int),ByteArray.empty,(0:Int)),((ByteArray.empty,ByteArray.empty,(2:Int),((0:Int),(0:Int),(0:Int)),[],ByteArray.empty,ByteArray.empty,(0:Int)),(2:Int),ByteArray.empty,(0:Int))])∧((((bO ([((ByteArray.empty,ByteArray.empty,(0:Int),((0:Int),(0:Int),(0:Int)),[],ByteArray.empty,ByteArray.empty,(0:Int)),(1:Int),ByteArray.empty,(0:Int)),((ByteArray.empty,ByteArray.empty,(2:Int),((0:Int),(0:Int),(0:Int)),[],ByteArray.empty,ByteArray.empty,(0:Int)),(2:Int),ByteArray.empty,(0:Int))])).length:Int)=(2:Int)→((0:Int) < ((bO ([((ByteArray.empty,ByteArray.empty,(0:Int),((0:Int),(0:Int),(0:Int)),[],ByteArray.empty,ByteArray.empty,(0:Int)),(1:Int),ByteArray.empty,(0:Int)),((ByteArray.empty,ByteArray.empty,(2:Int),((0:Int),(0:Int),(0:Int)),[],ByteArray.empty,ByteArray.empty,(0:Int)),(2:Int),ByteArray.empty,(0:Int))])).length:Int)∧((((at_ (bO ([((ByteArray.empty,ByteArray.empty,(0:Int),((0:Int),(0:Int),(0:Int)),[],ByteArray.empty,ByteArray.empty,(0:Int)),(1:Int),ByteArray.empty,(0:Int)),((ByteArray.empty,ByteArray.empty,(2:Int),((0:Int),(0:Int),(0:Int)),[],ByteArray.empty,ByteArray.empty,(0:Int)),(2:Int),ByteArray.empty,(0:Int))])) (0:Int)).length:Int)=(1:Int)→((0:Int) < ((bO ([((ByteArray.empty,ByteArray.empty,(0:Int),((0:Int),(0:Int),(0:Int)),[],ByteArray.empty,ByteArray.empty,(0:Int)),(1:Int),ByteArray.empty,(0:Int)),((ByteArray.empty,ByteArray.empty,(2:Int),((0:Int),(0:Int),(0:Int)),[],ByteArray.empty,ByteArray.empty,(0:Int)),(2:Int),ByteArray.empty,(0:Int))])).length:Int)∧((0:Int) < ((at_ (bO ([((ByteArray.empty,ByteArray.empty,(0:Int),((0:Int),(0:Int),(0:Int)),[],ByteArray.empty,ByteArray.empty,(0:Int)),(1:Int),ByteArray.empty,(0:Int)),((ByteArray.empty,ByteArray.empty,(2:Int),((0:Int),(0:Int),(0:Int)),[],ByteArray.empty,ByteArray.empty,(0:Int)),(2:Int),ByteArray.empty,(0:Int))])) (0:Int)).length:Int)∧(((at_ (at_ (bO ([((ByteArray.empty,ByteArray.empty,(0:Int),((0:Int),(0:Int),(0:Int)),[],ByteArray.empty,ByteArray.empty,(0:Int)),(1:Int),ByteArray.empty,(0:Int)),((ByteArray.empty,ByteArray.empty,(2:Int),((0:Int),(0:Int),(0:Int)),[],ByteArray.empty,ByteArray.empty,(0:Int)),(2:Int),ByteArray.empty,(0:Int))])) (0:Int)) (0:Int))==(1:Int))=bY a))))∧(¬(((at_ (bO ([((ByteArray.empty,ByteArray.empty,(0:Int),((0:Int),(0:Int),(0:Int)),[],ByteArray.empty,ByteArray.empty,(0:Int)),(1:Int),ByteArray.empty,(0:Int)),((ByteArray.empty,ByteArray.empty,(2:Int),((0:Int),(0:Int),(0:Int)),[],ByteArray.empty,ByteArray.empty,(0:Int)),(2:Int),ByteArray.empty,(0:Int))])) (0:Int)).length:Int)=(1:Int))→(false=bY a)))))∧(¬(((bO ([((ByteArray.empty,ByteArray.empty,(0:Int),((0:Int),(0:Int),(0:Int)),[],ByteArray.empty,ByteArray.empty,(0:Int)),(1:Int),ByteArray.empty,(0:Int)),((ByteArray.empty,ByteArray.empty,(2:Int),((0:Int),(0:Int),(0:Int)),[],ByteArray.empty,ByteArray.empty,(0:Int)),(2:Int),ByteArray.empty,(0:Int))])).length:Int)=(2:Int))→(false=bY a))))
set_option maxRecDepth 100000 in
set_option maxHeartbeats 2000000 in
theorem f91.of (a:Unit) (h:f91.vc a):f91.tree a:=⟨[((ByteArray.empty,ByteArray.empty,(0:Int),((0:Int),(0:Int),(0:Int)),[],ByteArray.empty,ByteArray.empty,(0:Int)),(1:Int),ByteArray.empty,(0:Int)),((ByteArray.empty,ByteArray.empty,(2:Int),((0:Int),(0:Int),(0:Int)),[],ByteArray.empty,ByteArray.empty,(0:Int)),(2:Int),ByteArray.empty,(0:Int))],slQ (Rds.rowD (enc:=aD) rfl (fun i hi=>match i,hi with | 0,_=>(DEqs.cons (DEq.refl _) (DEqs.cons (DEq.refl _) (DEqs.cons (DEq.refl _) (DEqs.cons (DEq.refl _) (DEqs.cons (DEq.refl _) (DEqs.cons (DEq.refl _) (DEqs.cons ((Rds.nil (enc:=aY))).deq (DEqs.cons (DEq.refl _) (DEqs.cons (DEq.refl _) (DEqs.cons (DEq.refl _) (DEqs.cons (DEq.refl _) (DEqs.cons (DEq.refl _) (DEqs.cons (DEq.refl _) DEqs.nil))))))))))))) | 1,_=>(DEqs.cons (DEq.refl _) (DEqs.cons (DEq.refl _) (DEqs.cons (DEq.refl _) (DEqs.cons (DEq.refl _) (DEqs.cons (DEq.refl _) (DEqs.cons (DEq.refl _) (DEqs.cons ((Rds.nil (enc:=aY))).deq (DEqs.cons (DEq.refl _) (DEqs.cons (DEq.refl _) (DEqs.cons (DEq.refl _) (DEqs.cons (DEq.refl _) (DEqs.cons (DEq.refl _) (DEqs.cons (DEq.refl _) DEqs.nil))))))))))))) | _+2,hi=>absurd hi (Nat.not_lt.2 (Nat.le_add_left _ _)))) (⟨h.1,br h.2 Cnd.eq (fun h2 k17=>chk k17.2 Cnd.ix ⟨(by decide),k17.1⟩ (fun h4 k15=>br k15 Cnd.eq (fun h5 k13=>chk k13.2 Cnd.ix ⟨(by decide),k13.1⟩ (fun h7 k11=>chk k11.2 Cnd.ix ⟨(by decide),k11.1⟩ (fun h8 k10=>⟨k10,trivial⟩))) (fun h6 k14=>⟨k14,trivial⟩))) (fun h3 k18=>⟨k18,trivial⟩)⟩)⟩
theorem f91.eq (a:Unit):(f91.af a).gives f91.env (f91.args a) (f91.blks a) (f91.res a) (f91.blks' a)=f91.tree a:=by kernel_rfl
def f83.wf (a:List (aB)):Prop:=fM.ok a
def f83.size (a:List (aB)):Nat:=fM.size a
def f83.lpre (a:List (aB)):Prop:=f83.wf a∧f83.size a≤1048576
def f83.args (a:List (aB)):List D:=[.slice .ro 13 a.length (gl aD a)]
def f83.blks (a:List (aB)):List (List D):=[]
def f83.res (a:List (aB)):List D:=[.bool (bY a)]
def f83.blks' (a:List (aB)):List (List D):=[]
def f83.C:aW:=FnC f83.args f83.blks (fun a=>f83.lpre a) f83.res f83.blks'
def f83.S0 (a:List (aB)) (x:(List (List (Int)))×Int×Int):Tm:=⟨[.slice .ro 13 a.length (gl aD a),.dead,.dead,.slice .ro 1 x.1.length (gl aI x.1),.dead,.dead,.dead,.dead,.dead,.dead,.dead,.dead,.dead,.dead,.dead,.dead,.dead,.dead,.int .i64 x.2.1,.int .i64 x.2.2,.dead,.dead,.dead,.dead,.dead,.dead,.dead,.dead,.dead,.dead,.dead,.dead,.dead,.dead,.dead,.dead,.dead,.dead,.dead,.dead,.dead,.dead,.dead,.dead,.dead,.dead,.dead,.dead,.dead,.dead,.dead,.dead,.dead,.dead,.dead,.dead,.dead,.dead,.dead,.dead,.dead,.dead,.dead,.dead,.dead,.dead,.dead,.dead,.dead,.dead,.dead,.dead,.dead,.dead,.dead,.dead,.dead,.dead],[],[]⟩
def f83.S1 (a:List (aB)) (x:(List (List (Int)))×Int×Int×Int×Int):Tm:=⟨[.slice .ro 13 a.length (gl aD a),.dead,.dead,.slice .ro 1 x.1.length (gl aI x.1),.int .i64 x.2.1,.int .i64 x.2.2.1,.dead,.dead,.dead,.dead,.dead,.dead,.dead,.dead,.dead,.dead,.dead,.dead,.int .i64 x.2.2.2.1,.int .i64 x.2.2.2.2,.dead,.dead,.dead,.dead,.dead,.dead,.dead,.dead,.dead,.dead,.dead,.dead,.dead,.dead,.dead,.dead,.dead,.dead,.dead,.dead,.dead,.dead,.dead,.dead,.dead,.dead,.dead,.dead,.dead,.dead,.dead,.dead,.dead,.dead,.dead,.dead,.dead,.dead,.dead,.dead,.dead,.dead,.dead,.dead,.dead,.dead,.dead,.dead,.dead,.dead,.dead,.dead,.dead,.dead,.dead,.dead,.dead,.dead],[],[]⟩
def f83.S2 (a:List (aB)) (x:(List (List (Int)))×Int×Int×Int×Int):Tm:=⟨[.slice .ro 13 a.length (gl aD a),.dead,.dead,.slice .ro 1 x.1.length (gl aI x.1),.int .i64 x.2.1,.dead,.int .i64 x.2.2.1,.dead,.dead,.dead,.dead,.dead,.dead,.dead,.dead,.dead,.dead,.dead,.int .i64 x.2.2.2.1,.int .i64 x.2.2.2.2,.dead,.dead,.dead,.dead,.dead,.dead,.dead,.dead,.dead,.dead,.dead,.dead,.dead,.dead,.dead,.dead,.dead,.dead,.dead,.dead,.dead,.dead,.dead,.dead,.dead,.dead,.dead,.dead,.dead,.dead,.dead,.dead,.dead,.dead,.dead,.dead,.dead,.dead,.dead,.dead,.dead,.dead,.dead,.dead,.dead,.dead,.dead,.dead,.dead,.dead,.dead,.dead,.dead,.dead,.dead,.dead,.dead,.dead],[],[]⟩
def f83.kills (a:List (aB)):List iG:=[.tell ((List (List (Int)))×Int×Int) (f83.S0 a),
 .tell ((List (List (Int)))×Int×Int×Int×Int) (f83.S1 a),
 .tell ((List (List (Int)))×Int×Int×Int×Int) (f83.S2 a)]
def f83.cuts (a:List (aB)):List (Nat×Σ β:Type,β→Tm):=[]
def f83.af (a:List (aB)):AF:=AF.mk (.seq (.region [⟨(some 2),0,.move,[.c (.bool false)],none⟩])
 (.seq (.seq (.region [oT 7 1 (.call false 91) [],
 oT 8 5 (.un .not) [7],
 oT 9 6 .move [8],
 oG 10 7 .move [0] 9 false,
 oG 11 8 (.call false 92) [10] 9 false,
 oG 12 12 (.un .not) [11] 9 false,
 ⟨(some 13),13,.pick,[.t 9,.c (.bool true),.t 12],none⟩])
 (.cond (.t 13) (.seq (.region [oT 14 14 (.call false 91) [],
 oT 2 18 .move [14]])
 (.ret)) (.skip)))
 (.seq (.region [oT 15 19 .move [0],
 oT 16 20 (.call false 93) [15],
 oT 3 24 .move [16]])
 (.seq (.seq (.region [oT 17 25 .move [3],
 oT 18 26 (.len false) [17],
 ⟨(some 19),27,.move,[.c (.int .i64 (0))],none⟩])
 (.block 0 (.loopT ((List (List (Int)))×Int×Int) (f83.S0 a) 28 100 (.seq (.region [oT 20 28 (.bin .lss) [19,18]])
 (.seq (.cond (.t 20) (.skip) (.exit 0))
 (.seq (.block 1 (.seq (.region [oT 21 29 .move [19],
 oT 4 30 .move [21]])
 (.seq (.seq (.region [⟨(some 5),31,.move,[.c (.int .i64 (0))],none⟩])
 (.block 2 (.loopT ((List (List (Int)))×Int×Int×Int×Int) (f83.S1 a) 32 61 (.seq (.seq (.region [oT 22 32 .move [5],
 oT 23 33 .move [4],
 oT 24 34 (.bin .lss) [22,23]])
 (.cond (.t 24) (.skip) (.exit 2)))
 (.seq (.block 3 (.seq (.region [oT 27 35 .move [0],
 oT 28 36 .move [3],
 oT 29 37 .move [4],
 oT 30 38 (.indexAddr 1 none) [28,29],
 oT 31 39 (.load false 1) [30],
 ⟨(some 32),40,(.indexAddr 1 none),[.t 31,.c (.int .i64 (0))],none⟩,
 oT 33 41 (.load false 1) [32],
 oT 34 42 (.indexAddr 13 none) [27,33],
 oT 35 43 (.load true 13) [34],
 oT 36 44 .move [0],
 oT 37 45 .move [3],
 oT 38 46 .move [5],
 oT 39 47 (.indexAddr 1 none) [37,38],
 oT 40 48 (.load false 1) [39],
 ⟨(some 41),49,(.indexAddr 1 none),[.t 40,.c (.int .i64 (0))],none⟩,
 oT 42 50 (.load false 1) [41],
 oT 43 51 (.indexAddr 13 none) [36,42],
 oT 44 52 (.load true 13) [43],
 oT 45 53 (.call false 96) [35,44]])
 (.cond (.t 45) (.seq (.region [⟨(some 2),57,.move,[.c (.bool false)],none⟩])
 (.ret)) (.skip))))
 (.region [oT 25 58 .move [5],
 ⟨(some 26),59,(.bin .add),[.t 25,.c (.int .i64 (1))],none⟩,
 oT 5 60 .move [26]]))))))
 (.seq (.region [⟨(some 6),61,.move,[.c (.int .i64 (1))],none⟩])
 (.block 4 (.loopT ((List (List (Int)))×Int×Int×Int×Int) (f83.S2 a) 62 98 (.seq (.seq (.region [oT 46 62 .move [6],
 oT 47 63 .move [3],
 oT 48 64 .move [4],
 oT 49 65 (.indexAddr 1 none) [47,48],
 oT 50 66 (.load false 1) [49],
 oT 51 67 (.len false) [50],
 oT 52 68 (.bin .lss) [46,51]])
 (.cond (.t 52) (.skip) (.exit 4)))
 (.seq (.block 5 (.seq (.region [oT 55 69 .move [0],
 oT 56 70 .move [3],
 oT 57 71 .move [4],
 oT 58 72 (.indexAddr 1 none) [56,57],
 oT 59 73 (.load false 1) [58],
 oT 60 74 .move [6],
 oT 61 75 (.indexAddr 1 none) [59,60],
 oT 62 76 (.load false 1) [61],
 oT 63 77 (.indexAddr 13 none) [55,62],
 oT 64 78 (.load true 13) [63],
 oT 65 79 .move [0],
 oT 66 80 .move [3],
 oT 67 81 .move [4],
 oT 68 82 (.indexAddr 1 none) [66,67],
 oT 69 83 (.load false 1) [68],
 oT 70 84 .move [6],
 ⟨(some 71),85,(.bin .sub),[.t 70,.c (.int .i64 (1))],none⟩,
 oT 72 86 (.indexAddr 1 none) [69,71],
 oT 73 87 (.load false 1) [72],
 oT 74 88 (.indexAddr 13 none) [65,73],
 oT 75 89 (.load true 13) [74],
 oT 76 90 (.call false 96) [64,75]])
 (.cond (.t 76) (.seq (.region [⟨(some 2),94,.move,[.c (.bool false)],none⟩])
 (.ret)) (.skip))))
 (.region [oT 53 95 .move [6],
 ⟨(some 54),96,(.bin .add),[.t 53,.c (.int .i64 (1))],none⟩,
 oT 6 97 .move [54]])))))))))
 (.region [⟨(some 77),98,(.bin .add),[.t 19,.c (.int .i64 (1))],none⟩,
 oT 19 99 .move [77]])))))))
 (.seq (.region [⟨(some 2),100,.move,[.c (.bool true)],none⟩])
 (.ret))))))
 [.tmp 2] 0 77
def f83.env:Env:=[(91,f91.C),(92,f92.C),(93,f93.C),(96,f96.C)]
def f83.tree (a:List (aB)):Prop:=∃ c1:Unit,True∧Br (!(bY c1)) (∃ c4:Unit,True∧((bY c4)=(bY a))∧True) (f92.ent (fun c7=>(L20 c7)∧Br (!(iX c7)) (∃ c10:Unit,True∧((bY c10)=(bY a))∧True) (f93.ent (fun c13=>(fV c13)∧∃ (I15:((List (List (Int)))×Int×Int)→Prop) (μ16:((List (List (Int)))×Int×Int)→Nat),(∃ x14:(List (List (Int)))×Int×Int,SlS aD a (SlQ ((bO c13).length) x14.1.length (gl aI (bO c13)) (gl aI x14.1) ((((bO c13).length:Int)=x14.2.1)∧((0:Int)=x14.2.2)∧I15 x14)))∧∀ y17:(List (List (Int)))×Int×Int,I15 y17→(Br (decide (y17.2.2 < y17.2.1)) (∃ (I21:((List (List (Int)))×Int×Int×Int×Int)→Prop) (μ22:((List (List (Int)))×Int×Int×Int×Int)→Nat),(∃ x20:(List (List (Int)))×Int×Int×Int×Int,SlS aD a (SlQ y17.1.length x20.1.length (gl aI y17.1) (gl aI x20.1) ((y17.2.2=x20.2.1)∧((0:Int)=x20.2.2.1)∧(y17.2.1=x20.2.2.2.1)∧(y17.2.2=x20.2.2.2.2)∧I21 x20)))∧∀ y23:(List (List (Int)))×Int×Int×Int×Int,I21 y23→(Br (decide (y23.2.2.1 < y23.2.1)) (Br (decide ((0:Int)≤y23.2.1)&&decide (y23.2.1 < (y23.1.length:Int))) (Br (decide ((0:Int)≤(0:Int))&&decide ((0:Int) < ((at_ y23.1 y23.2.1).length:Int))) (Br (decide ((0:Int)≤(at_ (at_ y23.1 y23.2.1) (0:Int)))&&decide ((at_ (at_ y23.1 y23.2.1) (0:Int)) < (a.length:Int))) (Br (decide ((0:Int)≤y23.2.2.1)&&decide (y23.2.2.1 < (y23.1.length:Int))) (Br (decide ((0:Int)≤(0:Int))&&decide ((0:Int) < ((at_ y23.1 y23.2.2.1).length:Int))) (Br (decide ((0:Int)≤(at_ (at_ y23.1 y23.2.2.1) (0:Int)))&&decide ((at_ (at_ y23.1 y23.2.2.1) (0:Int)) < (a.length:Int))) (f96.ent (fun c32=>True∧Br (kE c32) ((false=(bY a))∧True) (Let (IntKind.i64.wrap (y23.2.2.1+(1:Int))) (fun v36:Int=>∃ x37:(List (List (Int)))×Int×Int×Int×Int,SlS aD a (SlQ y23.1.length x37.1.length (gl aI y23.1) (gl aI x37.1) ((y23.2.1=x37.2.1)∧(v36=x37.2.2.1)∧(y23.2.2.2.1=x37.2.2.2.1)∧(y23.2.2.2.2=x37.2.2.2.2)∧I21 x37∧μ22 x37 < μ22 y23))))) ((at_ a (at_ (at_ y23.1 y23.2.1) (0:Int))),(at_ a (at_ (at_ y23.1 y23.2.2.1) (0:Int))))) False) False) False) False) False) False) (∃ (I52:((List (List (Int)))×Int×Int×Int×Int)→Prop) (μ53:((List (List (Int)))×Int×Int×Int×Int)→Nat),(∃ x51:(List (List (Int)))×Int×Int×Int×Int,SlS aD a (SlQ y23.1.length x51.1.length (gl aI y23.1) (gl aI x51.1) ((y23.2.1=x51.2.1)∧((1:Int)=x51.2.2.1)∧(y23.2.2.2.1=x51.2.2.2.1)∧(y23.2.2.2.2=x51.2.2.2.2)∧I52 x51)))∧∀ y54:(List (List (Int)))×Int×Int×Int×Int,I52 y54→(Br (decide ((0:Int)≤y54.2.1)&&decide (y54.2.1 < (y54.1.length:Int))) (Br (decide (y54.2.2.1 < ((at_ y54.1 y54.2.1).length:Int))) (Br (decide ((0:Int)≤y54.2.1)&&decide (y54.2.1 < (y54.1.length:Int))) (Br (decide ((0:Int)≤y54.2.2.1)&&decide (y54.2.2.1 < ((at_ y54.1 y54.2.1).length:Int))) (Br (decide ((0:Int)≤(at_ (at_ y54.1 y54.2.1) y54.2.2.1))&&decide ((at_ (at_ y54.1 y54.2.1) y54.2.2.1) < (a.length:Int))) (Br (decide ((0:Int)≤y54.2.1)&&decide (y54.2.1 < (y54.1.length:Int))) (Let (IntKind.i64.wrap (y54.2.2.1 - (1:Int))) (fun v62:Int=>Br (decide ((0:Int)≤v62)&&decide (v62 < ((at_ y54.1 y54.2.1).length:Int))) (Br (decide ((0:Int)≤(at_ (at_ y54.1 y54.2.1) v62))&&decide ((at_ (at_ y54.1 y54.2.1) v62) < (a.length:Int))) (f96.ent (fun c65=>True∧Br (kE c65) ((false=(bY a))∧True) (Let (IntKind.i64.wrap (y54.2.2.1+(1:Int))) (fun v69:Int=>∃ x70:(List (List (Int)))×Int×Int×Int×Int,SlS aD a (SlQ y54.1.length x70.1.length (gl aI y54.1) (gl aI x70.1) ((y54.2.1=x70.2.1)∧(v69=x70.2.2.1)∧(y54.2.2.2.1=x70.2.2.2.1)∧(y54.2.2.2.2=x70.2.2.2.2)∧I52 x70∧μ53 x70 < μ53 y54))))) ((at_ a (at_ (at_ y54.1 y54.2.1) y54.2.2.1)),(at_ a (at_ (at_ y54.1 y54.2.1) v62)))) False) False)) False) False) False) False) (Let (IntKind.i64.wrap (y54.2.2.2.2+(1:Int))) (fun v87:Int=>∃ x88:(List (List (Int)))×Int×Int,SlS aD a (SlQ y54.1.length x88.1.length (gl aI y54.1) (gl aI x88.1) ((y54.2.2.2.1=x88.2.1)∧(v87=x88.2.2)∧I15 x88∧μ16 x88 < μ16 y17))))) False)))) ((true=(bY a))∧True))) a)) a)
def f83.vc (a:List (aB)):Prop:=((¬((bY ())=true)→((bY ())=bY a))∧(¬(¬((bY ())=true))→(L20 a∧((¬((iX a)=true)→((bY ())=bY a))∧(¬(¬((iX a)=true))→(fV a∧(∃ (I15:((List (List (Int)))×Int×Int)→Prop) (μ16:((List (List (Int)))×Int×Int)→Nat),I15 ((bO a),((bO a).length:Int),(0:Int))∧∀ y17:(List (List (Int)))×Int×Int,I15 y17→((y17.2.2 < y17.2.1→(∃ (I21:((List (List (Int)))×Int×Int×Int×Int)→Prop) (μ22:((List (List (Int)))×Int×Int×Int×Int)→Nat),I21 (y17.1,y17.2.2,(0:Int),y17.2.1,y17.2.2)∧∀ y23:(List (List (Int)))×Int×Int×Int×Int,I21 y23→((y23.2.2.1 < y23.2.1→((0:Int)≤y23.2.1∧y23.2.1 < (y23.1.length:Int)∧((0:Int) < ((at_ y23.1 y23.2.1).length:Int)∧((0:Int)≤(at_ (at_ y23.1 y23.2.1) (0:Int))∧(at_ (at_ y23.1 y23.2.1) (0:Int)) < (a.length:Int)∧((0:Int)≤y23.2.2.1∧y23.2.2.1 < (y23.1.length:Int)∧((0:Int) < ((at_ y23.1 y23.2.2.1).length:Int)∧((0:Int)≤(at_ (at_ y23.1 y23.2.2.1) (0:Int))∧(at_ (at_ y23.1 y23.2.2.1) (0:Int)) < (a.length:Int)∧(((kE ((at_ a (at_ (at_ y23.1 y23.2.1) (0:Int))),(at_ a (at_ (at_ y23.1 y23.2.2.1) (0:Int)))))=true→(false=bY a))∧(¬((kE ((at_ a (at_ (at_ y23.1 y23.2.1) (0:Int))),(at_ a (at_ (at_ y23.1 y23.2.2.1) (0:Int)))))=true)→(-9223372036854775808≤(y23.2.2.1+(1:Int))∧(y23.2.2.1+(1:Int))≤9223372036854775807∧(I21 (y23.1,y23.2.1,(y23.2.2.1+(1:Int)),y23.2.2.2.1,y23.2.2.2.2)∧μ22 (y23.1,y23.2.1,(y23.2.2.1+(1:Int)),y23.2.2.2.1,y23.2.2.2.2) < μ22 y23)))))))))))∧(¬(y23.2.2.1 < y23.2.1)→(∃ (I52:((List (List (Int)))×Int×Int×Int×Int)→Prop) (μ53:((List (List (Int)))×Int×Int×Int×Int)→Nat),I52 (y23.1,y23.2.1,(1:Int),y23.2.2.2.1,y23.2.2.2.2)∧∀ y54:(List (List (Int)))×Int×Int×Int×Int,I52 y54→((0:Int)≤y54.2.1∧y54.2.1 < (y54.1.length:Int)∧((y54.2.2.1 < ((at_ y54.1 y54.2.1).length:Int)→((0:Int)≤y54.2.1∧y54.2.1 < (y54.1.length:Int)∧((0:Int)≤y54.2.2.1∧y54.2.2.1 < ((at_ y54.1 y54.2.1).length:Int)∧((0:Int)≤(at_ (at_ y54.1 y54.2.1) y54.2.2.1)∧(at_ (at_ y54.1 y54.2.1) y54.2.2.1) < (a.length:Int)∧((0:Int)≤y54.2.1∧y54.2.1 < (y54.1.length:Int)∧(-9223372036854775808≤(y54.2.2.1 - (1:Int))∧(y54.2.2.1 - (1:Int))≤9223372036854775807∧((0:Int)≤(y54.2.2.1 - (1:Int))∧(y54.2.2.1 - (1:Int)) < ((at_ y54.1 y54.2.1).length:Int)∧((0:Int)≤(at_ (at_ y54.1 y54.2.1) (y54.2.2.1 - (1:Int)))∧(at_ (at_ y54.1 y54.2.1) (y54.2.2.1 - (1:Int))) < (a.length:Int)∧(((kE ((at_ a (at_ (at_ y54.1 y54.2.1) y54.2.2.1)),(at_ a (at_ (at_ y54.1 y54.2.1) (y54.2.2.1 - (1:Int))))))=true→(false=bY a))∧(¬((kE ((at_ a (at_ (at_ y54.1 y54.2.1) y54.2.2.1)),(at_ a (at_ (at_ y54.1 y54.2.1) (y54.2.2.1 - (1:Int))))))=true)→(-9223372036854775808≤(y54.2.2.1+(1:Int))∧(y54.2.2.1+(1:Int))≤9223372036854775807∧(I52 (y54.1,y54.2.1,(y54.2.2.1+(1:Int)),y54.2.2.2.1,y54.2.2.2.2)∧μ53 (y54.1,y54.2.1,(y54.2.2.1+(1:Int)),y54.2.2.2.1,y54.2.2.2.2) < μ53 y54))))))))))))∧(¬(y54.2.2.1 < ((at_ y54.1 y54.2.1).length:Int))→(-9223372036854775808≤(y54.2.2.2.2+(1:Int))∧(y54.2.2.2.2+(1:Int))≤9223372036854775807∧(I15 (y54.1,y54.2.2.2.1,(y54.2.2.2.2+(1:Int)))∧μ16 (y54.1,y54.2.2.2.1,(y54.2.2.2.2+(1:Int))) < μ16 y17))))))))))∧(¬(y17.2.2 < y17.2.1)→(true=bY a))))))))))
set_option maxRecDepth 100000 in
set_option maxHeartbeats 2000000 in
theorem f83.of (a:List (aB)) (h:f83.vc a):f83.tree a:=⟨(),⟨trivial,br h (Cnd.not Cnd.b) (fun h2 k114=>⟨(),⟨trivial,⟨k114,trivial⟩⟩⟩) (fun h3 k115=>(f92.ei ⟨k115.1,br k115.2 (Cnd.not Cnd.b) (fun h8 k111=>⟨(),⟨trivial,⟨k111,trivial⟩⟩⟩) (fun h9 k112=>(f93.ei ⟨k112.1,Exists.elim k112.2 (fun I15 h107_=>Exists.elim h107_ (fun μ16 h107=>⟨I15,μ16,⟨((bO a),((bO a).length:Int),(0:Int)),SlS.mk  (slQ (Rds.self (enc:=aI)) (⟨rfl,⟨rfl,h107.1⟩⟩))⟩,fun y17 h109=>br (h107.2 y17 h109) Cnd.dec (fun h18 k105=>Exists.elim k105 (fun I21 h101_=>Exists.elim h101_ (fun μ22 h101=>⟨I21,μ22,⟨(y17.1,y17.2.2,(0:Int),y17.2.1,y17.2.2),SlS.mk  (slQ (Rds.self (enc:=aI)) (⟨rfl,⟨rfl,⟨rfl,⟨rfl,h101.1⟩⟩⟩⟩))⟩,fun y23 h103=>br (h101.2 y23 h103) Cnd.dec (fun h24 k99=>chk k99.2.2 Cnd.ix ⟨k99.1,k99.2.1⟩ (fun h26 k50=>chk k50.2 Cnd.ix ⟨(by decide),k50.1⟩ (fun h27 k49=>chk k49.2.2 Cnd.ix ⟨k49.1,k49.2.1⟩ (fun h28 k48=>chk k48.2.2 Cnd.ix ⟨k48.1,k48.2.1⟩ (fun h29 k47=>chk k47.2 Cnd.ix ⟨(by decide),k47.1⟩ (fun h30 k46=>chk k46.2.2 Cnd.ix ⟨k46.1,k46.2.1⟩ (fun h31 k45=>(f96.ei ⟨trivial,br k45 Cnd.b (fun h33 k42=>⟨k42,trivial⟩) (fun h34 k43=>wrapK.i64 k43 (fun h39 h40 k41=>⟨(y23.1,y23.2.1,(y23.2.2.1+(1:Int)),y23.2.2.2.1,y23.2.2.2.2),SlS.mk  (slQ (Rds.self (enc:=aI)) (⟨rfl,⟨rfl,⟨rfl,⟨rfl,k41⟩⟩⟩⟩))⟩))⟩)))))))) (fun h25 k100=>Exists.elim k100 (fun I52 h96_=>Exists.elim h96_ (fun μ53 h96=>⟨I52,μ53,⟨(y23.1,y23.2.1,(1:Int),y23.2.2.2.1,y23.2.2.2.2),SlS.mk  (slQ (Rds.self (enc:=aI)) (⟨rfl,⟨rfl,⟨rfl,⟨rfl,h96.1⟩⟩⟩⟩))⟩,fun y54 h98=>chk (h96.2 y54 h98).2.2 Cnd.ix ⟨(h96.2 y54 h98).1,(h96.2 y54 h98).2.1⟩ (fun h55 k95=>br k95 Cnd.dec (fun h56 k93=>chk k93.2.2 Cnd.ix ⟨k93.1,k93.2.1⟩ (fun h58 k86=>chk k86.2.2 Cnd.ix ⟨k86.1,k86.2.1⟩ (fun h59 k85=>chk k85.2.2 Cnd.ix ⟨k85.1,k85.2.1⟩ (fun h60 k84=>chk k84.2.2 Cnd.ix ⟨k84.1,k84.2.1⟩ (fun h61 k83=>wrapK.i64 k83 (fun h80 h81 k82=>chk k82.2.2 Cnd.ix ⟨k82.1,k82.2.1⟩ (fun h63 k79=>chk k79.2.2 Cnd.ix ⟨k79.1,k79.2.1⟩ (fun h64 k78=>(f96.ei ⟨trivial,br k78 Cnd.b (fun h66 k75=>⟨k75,trivial⟩) (fun h67 k76=>wrapK.i64 k76 (fun h72 h73 k74=>⟨(y54.1,y54.2.1,(y54.2.2.1+(1:Int)),y54.2.2.2.1,y54.2.2.2.2),SlS.mk  (slQ (Rds.self (enc:=aI)) (⟨rfl,⟨rfl,⟨rfl,⟨rfl,k74⟩⟩⟩⟩))⟩))⟩))))))))) (fun h57 k94=>wrapK.i64 k94 (fun h90 h91 k92=>⟨(y54.1,y54.2.2.2.1,(y54.2.2.2.2+(1:Int))),SlS.mk  (slQ (Rds.self (enc:=aI)) (⟨rfl,⟨rfl,k92⟩⟩))⟩)))⟩)))⟩))) (fun h19 k106=>⟨k106,trivial⟩)⟩))⟩))⟩))⟩⟩
theorem f83.eq (a:List (aB)):(f83.af a).gives f83.env (f83.args a) (f83.blks a) (f83.res a) (f83.blks' a)=f83.tree a:=by kernel_rfl
theorem f91.ok (a:Unit) (_:True):f91.vc a:=by
 have e:bO ([((ByteArray.empty,ByteArray.empty,(0:Int),((0:Int),(0:Int),(0:Int)),[],ByteArray.empty,ByteArray.empty,(0:Int)),(1:Int),ByteArray.empty,(0:Int)),((ByteArray.empty,ByteArray.empty,(2:Int),((0:Int),(0:Int),(0:Int)),[],ByteArray.empty,ByteArray.empty,(0:Int)),(2:Int),ByteArray.empty,(0:Int))])=[[1],[0]]:=by decide +kernel
 unfold f91.vc
 rw [e]
 refine ⟨Nat.le_of_ble_eq_true rfl,fun _=>⟨by decide,fun _=>⟨by decide,by decide,rfl⟩,fun c=>absurd rfl c⟩,fun c=>absurd rfl c⟩
theorem aFB {js:List aT} {S:List Int} {n:Nat} {u:List Int} (hn:n < S.length) (h:u∈lN js S n):(u=[S.getD n default]∨((∀ q,q < n→aS (at_ js (S.getD q default))≠aS (at_ js (S.getD n default)))∧u=S.filter fun p=>decide (aS (at_ js p)=aS (at_ js (S.getD n default))))):=by
 by_cases c:aS (at_ js (S.getD n default))=ByteArray.empty
 ·rw [uM c] at h
  exact .inl (List.mem_singleton.1 h)
 ·rw [kQ c] at h
  split at h
  next d=>exact .inr ⟨d.1,List.mem_singleton.1 h⟩
  next=>cases h
theorem uP {js:List aT} {S:List Int} (hd:S.Nodup) {n:Nat} {u:List Int} (hn:n < S.length) (h:u∈lN js S n):u.getD 0 default=S.getD n default∧0 < u.length∧u.Sublist S:=by
 rcases aFB hn h with rfl | ⟨h1,rfl⟩
 ·refine ⟨rfl,Nat.succ_pos 0,List.singleton_sublist.2 (zM hn)⟩
 ·obtain ⟨w1,w2⟩:=qS hd hn (q:=fun p=>decide (aS (at_ js p)=aS (at_ js (S.getD n default)))) (decide_eq_true rfl)
  exact ⟨(w2.2 fun k hk=>decide_eq_false (h1 k hk)).symm,w1,List.filter_sublist ..⟩
theorem y2 {js:List aT} {S:List Int} {n:Nat} {u:List Int} (hn:n≤S.length) (h:u∈eS js S n):∃ k,k < n∧u∈lN js S k:=by
 unfold eS at h
 obtain ⟨k,h1,h2⟩:=List.mem_flatMap.1 h
 exact ⟨k,List.mem_range.1 h1,h2⟩
theorem tD {js:List aT} {S:List Int} (hd:S.Nodup) {u:List Int} (h:u∈eS js S S.length):0 < u.length∧u.Sublist S:=by
 obtain ⟨k,h1,h2⟩:=y2 (Nat.le_refl _) h
 exact (uP hd h1 h2).2
theorem vJ {js:List aT} {S:List Int} (hd:S.Nodup):∀ {n:Nat},n≤S.length→((eS js S n).map fun u=>u.getD 0 default).Sublist (S.take n)
 | 0,_=>List.Sublist.refl _
 | n+1,hn=>by
  rw [kT,List.map_append,nN (by omega)]
  refine (vJ hd (by omega)).append ?_
  have hu:=uS js S n
  cases hc:lN js S n with
  | nil=>exact List.nil_sublist _
  | cons u l =>
   rw [hc,List.length_cons] at hu
   have:l=[]:=List.length_eq_zero_iff.1 (by omega)
   subst this
   have:=(uP hd (js:=js) (n:=n) (u:=u) (by omega) (by rw [hc]; exact List.mem_cons_self ..)).1
   rw [List.map_cons,List.map_nil,this]
   exact List.Sublist.refl _
theorem aES {a:List aT} (h:fV a):L20 (bO a)∧∀ u∈bO a,L20 u:=by
 have h:a.length≤1048576:=h
 have h1:=mE a
 have h2:=qE a (cT a) (cT a).length
 refine ⟨Nat.le_trans (Nat.le_trans h2 h1) h,fun u hu=>?_⟩
 have:=(tD (kW a) hu).2.length_le
 unfold L20
 omega
theorem f83.ok (a:List aT) (h:f83.lpre a):f83.vc a:=by
 obtain ⟨_,hs⟩:=h
 have hs:fM.size a≤1048576:=hs
 have h1:L20 a:=wM hs
 have h20:a.length≤1048576:=h1
 refine ⟨fun _=>rfl,fun _=>⟨h1,fun _=>rfl,fun _=>⟨h1,?_⟩⟩⟩
 have hin:=sO a
 have hnd:=kW a
 have hsd:=aB9 a
 have hlen:=mE a
 have heach:∀ u∈bO a,0 < u.length∧u.Sublist (cT a):=fun u hu=>tD hnd hu
 have hheads:((bO a).map fun u=>u.getD 0 default).Sublist (cT a):=by
  have:=vJ (js:=a) hnd (Nat.le_refl _)
  rwa [List.take_length] at this
 have hul:(bO a).length≤1048576:=(aES h1).1
 generalize cT a=S at hin hnd hsd hlen heach hheads
 generalize bO a=U at heach hheads hul
 have hpw:∀ {i k:Int},0≤k→k < i→i < (U.length:Int)→bZ a (at_ (at_ U i) 0) (at_ (at_ U k) 0)=false:=fun {i k} h0 h1 h2=>by
  have:=List.pairwise_iff_getElem.1 (hsd.sublist hheads) k.toNat i.toNat (by rw [List.length_map]; omega) (by rw [List.length_map]; omega) (by omega)
  rw [List.getElem_map,List.getElem_map,← dR (by omega),← dR (by omega)] at this
  exact this
 have hu:∀ {i:Int},0≤i→i < (U.length:Int)→0 < (at_ U i).length∧(at_ U i).length≤1048576∧InR a (at_ U i)∧Sd (bZ a) (at_ U i):=fun {i} h0 h1=>by
  obtain ⟨e1,e2⟩:=heach _ (hJ h0 h1)
  exact ⟨e1,by have:=e2.length_le; omega,fun x hx=>hin x (e2.subset hx),hsd.sublist e2⟩
 refine ⟨fun y=>y.1=U∧y.2.1=(U.length:Int)∧0≤y.2.2∧y.2.2≤(U.length:Int),fun y=>U.length - y.2.2.toNat,⟨rfl,rfl,by simp only; omega,by simp only; omega⟩,fun y hy=>?_⟩
 obtain ⟨U1,n,i⟩:=y
 obtain ⟨e1,e2,e3,e4⟩:=hy
 simp only at e1 e2 e3 e4 ⊢
 subst e1; subst e2
 refine ⟨fun hlt=>?_,fun _=>rfl⟩
 refine ⟨fun y=>y.1=U1∧y.2.1=i∧0≤y.2.2.1∧y.2.2.1≤i∧y.2.2.2.1=(U1.length:Int)∧y.2.2.2.2=i,fun y=>i.toNat - y.2.2.1.toNat,⟨rfl,rfl,by simp only; omega,by simp only; omega,rfl,rfl⟩,fun y hy=>?_⟩
 obtain ⟨U2,i2,k,n2,i3⟩:=y
 obtain ⟨f1,f2,f3,f4,f5,f6⟩:=hy
 simp only at f1 f2 f3 f4 f5 f6 ⊢
 subst f1; subst f2; subst f5; subst f6
 obtain ⟨u1,u2,u3,u4⟩:=hu e3 hlt
 refine ⟨fun hk=>?_,fun hk=>?_⟩
 ·obtain ⟨v1,v2,v3,v4⟩:=hu (i:=k) f3 (by omega)
  have hx:=u3 _ (hJ (i:=0) (by omega) (by omega))
  have hz:=v3 _ (hJ (i:=0) (by omega) (by omega))
  exact ⟨e3,hlt,by omega,hx.1,hx.2,f3,by omega,by omega,hz.1,hz.2,fun c=>absurd (hpw f3 hk hlt) (by rw [show bZ a (at_ (at_ U2 i3) 0) (at_ (at_ U2 k) 0)=true from c]; exact Bool.noConfusion),fun _=>⟨by omega,by omega,⟨rfl,rfl,by omega,by omega,rfl,rfl⟩,by omega⟩⟩
 ·refine ⟨fun y=>y.1=U2∧y.2.1=i3∧1≤y.2.2.1∧y.2.2.1≤1048576∧y.2.2.2.1=(U2.length:Int)∧y.2.2.2.2=i3,fun y=>1048577 - y.2.2.1.toNat,⟨rfl,rfl,by simp only; omega,by simp only; omega,rfl,rfl⟩,fun y hy=>?_⟩
  obtain ⟨U3,i4,k2,n3,i5⟩:=y
  obtain ⟨r1,r2,r3,r4,r5,r6⟩:=hy
  simp only at r1 r2 r3 r4 r5 r6 ⊢
  subst r1; subst r2; subst r5; subst r6
  refine ⟨e3,hlt,fun hk2=>?_,fun hk2=>⟨by omega,by omega,⟨rfl,rfl,by omega,by omega⟩,by omega⟩⟩
  have hx:=u3 _ (hJ (i:=k2) (by omega) hk2)
  have hz:=u3 _ (hJ (i:=k2 - 1) (by omega) (by omega))
  have hs:=List.pairwise_iff_getElem.1 u4 (k2 - 1).toNat k2.toNat (by omega) (by omega) (by omega)
  rw [← dR,← dR] at hs
  refine ⟨e3,hlt,by omega,hk2,hx.1,hx.2,e3,hlt,by omega,by omega,by omega,by omega,hz.1,hz.2,fun c=>absurd hs (by rw [show bZ a ((at_ U3 i5).getD k2.toNat default) ((at_ U3 i5).getD (k2 - 1).toNat default)=true from c]; exact Bool.noConfusion),fun _=>⟨by omega,by omega,⟨rfl,rfl,by omega,by omega,rfl,rfl⟩,by omega⟩⟩
end Go.Abs
