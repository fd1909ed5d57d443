/- Functions, and what the code asks of them: PRankLaw. -/
import Derived.KernelRfl
import Derived.Test.YtjlehbennimkgaaRankOrderP3
import Derived.Test.YtjlehbennimkgaaRankOrderP4
import Derived.Test.YtjlehbennimkgaaRankOrderP5
import Derived.Test.YtjlehbennimkgaaRankOrderP6
import Derived.Test.YtjlehbennimkgaaRankOrderP7
import Derived.Test.YtjlehbennimkgaaRankOrderP8
import Derived.Test.YtjlehbennimkgaaRankOrderP9
import Derived.Test.YtjlehbennimkgaaRankOrderP10
import Derived.Test.YtjlehbennimkgaaRankOrderP11
import Derived.Test.YtjlehbennimkgaaRankOrderP12
import Derived.Test.YtjlehbennimkgaaRankOrderP13
import Derived.Test.YtjlehbennimkgaaRankOrderP14
import Derived.Test.YtjlehbennimkgaaRankOrderP15
import Derived.Test.YtjlehbennimkgaaRankOrderP16
import Derived.Test.YtjlehbennimkgaaRankOrderP17
import Derived.Test.YtjlehbennimkgaaRankOrderP18
import Derived.Test.YtjlehbennimkgaaRankOrderP19
set_option linter.unusedVariables false
set_option linter.unusedSimpArgs false
-- interregnum/interregnumlaw12.awake
namespace Go.Abs
open Go
def f391.args (a:Unit):List D:=[]
def f391.blks (a:Unit):List (List D):=[]
def f391.res (a:Unit):List D:=[.bool (cA a)]
def f391.blks' (a:Unit):List (List D):=[]
def f391.C:aN:=FnC f391.args f391.blks (fun _=>True) f391.res f391.blks'
end Go.Abs

/- interregnum/interregnumlaw12.awake -/
namespace Go.Abs
open Go
set_option linter.unusedVariables false
def f391.s0:ByteArray:=⟨#[110]⟩
def f391.s1:ByteArray:=⟨#[116]⟩
def f391.s2:ByteArray:=⟨#[113]⟩
def f391.kills (a:Unit):List Hint:=[]
def f391.cuts (a:Unit):List (Nat×Σ β:Type,β→Tm):=[]
def f391.af (a:Unit):AF:=AF.mk (.seq (.region [⟨(some 0),0,.move,[.c (.bool false)],none⟩])
 (.seq (.region [⟨(some 4),1,(.build [.int .i64 (0),.int .i64 (0),.int .i64 (0)] [(0,1),(1,1),(2,1)]),[.c (.int .i64 (4)),.c (.int .i64 (4)),.c (.int .i64 (4))],none⟩,
 ⟨(some 5),2,(.build [.str ByteArray.empty,.int .i64 (0),.int .i64 (0),.int .i64 (0),.slice .full 2 0 d9] [(0,1),(1,3)]),[.c (.str f391.s0),.t 4],none⟩,
 ⟨(some 6),3,(.build [.str ByteArray.empty,.int .i64 (0),.int .i64 (0),.int .i64 (0),.slice .full 2 0 d9,.bool false,.int .i64 (0)] [(0,5),(5,1)]),[.t 5,.c (.bool true)],none⟩,
 oT 1 4 (.alloc [.str ByteArray.empty,.int .i64 (0),.int .i64 (0),.int .i64 (0),.slice (.own 0) 2 0 d9,.bool false,.int .i64 (0)]) [],
 ⟨none,12,(.store 7),[.t 1,.t 6],none⟩])
 (.seq (.region [oT 8 13 (.load true 7) [1],
 oT 9 14 (.buildSlice 7 1 [.str ByteArray.empty,.int .i64 (0),.int .i64 (0),.int .i64 (0),.slice .full 2 0 d9,.bool false,.int .i64 (0)] [(0,7)]) [8],
 ⟨(some 10),15,(.build [.str ByteArray.empty,.str ByteArray.empty,.int .i64 (0),.int .i64 (0),.int .i64 (0),.int .i64 (0),.slice .full 2 0 d9,.str ByteArray.empty,.str ByteArray.empty,.int .i64 (0)] [(0,1),(1,1)]),[.c (.str f391.s1),.c (.str f391.s2)],none⟩,
 ⟨(some 11),16,(.call false 151),[.t 9,.c (.slice .full 13 0 d9),.t 10],none⟩,
 oT 7 20 .move [11],
 oT 12 21 (.extract 0) [7],
 oT 13 22 (.extract 1) [7],
 oT 2 23 .move [12],
 oT 3 24 .move [13]])
 (.seq (.region [oT 14 25 .move [2],
 ⟨(some 15),26,(.bin .eql),[.t 14,.c (.str f391.s0)],none⟩,
 oT 16 27 .move [15],
 oG 17 28 .move [3] 16 true,
 ⟨(some 18),29,.pick,[.t 16,.t 17,.c (.bool false)],none⟩,
 oT 0 30 .move [18]])
 (.ret)))))
 [.tmp 0] 0 19
def f391.env:Env:=[(151,f151.C)]
def f391.tree (a:Unit):Prop:=∃ c1:(List (aC))×(List (aH))×aG,SlQ 1 c1.1.length (fun _=>[.str f391.s0,.int .i64 (4:Int),.int .i64 (4:Int),.int .i64 (4:Int),.slice .ro 2 0 d9,.bool true,.int .i64 (0:Int)]) (gl aK c1.1) (SlQ 0 c1.2.1.length d9 (gl aT c1.2.1) ((f391.s1=c1.2.2.1)∧(f391.s2=c1.2.2.2.1)∧((0:Int)=c1.2.2.2.2.1)∧((0:Int)=c1.2.2.2.2.2.1.1)∧((0:Int)=c1.2.2.2.2.2.1.2.1)∧((0:Int)=c1.2.2.2.2.2.1.2.2)∧SlQ 0 c1.2.2.2.2.2.2.1.length d9 (gl aI c1.2.2.2.2.2.2.1) ((ByteArray.empty=c1.2.2.2.2.2.2.2.1)∧(ByteArray.empty=c1.2.2.2.2.2.2.2.2.1)∧((0:Int)=c1.2.2.2.2.2.2.2.2.2)∧(cI c1)∧Br (((iJ c1).1).toList==f391.s0.toList) ((((iJ c1).2)=(cA a))∧True) ((false=(cA a))∧True))))
def f391.vc (a:Unit):Prop:=(cI ([((f391.s0,((4:Int),(4:Int),(4:Int)),[]),true,(0:Int))],[],(f391.s1,f391.s2,(0:Int),((0:Int),(0:Int),(0:Int)),[],ByteArray.empty,ByteArray.empty,(0:Int)))∧((((iJ ([((f391.s0,((4:Int),(4:Int),(4:Int)),[]),true,(0:Int))],[],(f391.s1,f391.s2,(0:Int),((0:Int),(0:Int),(0:Int)),[],ByteArray.empty,ByteArray.empty,(0:Int)))).1)=f391.s0→((iJ ([((f391.s0,((4:Int),(4:Int),(4:Int)),[]),true,(0:Int))],[],(f391.s1,f391.s2,(0:Int),((0:Int),(0:Int),(0:Int)),[],ByteArray.empty,ByteArray.empty,(0:Int)))).2=cA a))∧(¬(((iJ ([((f391.s0,((4:Int),(4:Int),(4:Int)),[]),true,(0:Int))],[],(f391.s1,f391.s2,(0:Int),((0:Int),(0:Int),(0:Int)),[],ByteArray.empty,ByteArray.empty,(0:Int)))).1)=f391.s0)→(false=cA a))))
set_option maxRecDepth 100000 in
set_option maxHeartbeats 2000000 in
theorem f391.of (a:Unit) (h:f391.vc a):f391.tree a:=⟨([((f391.s0,((4:Int),(4:Int),(4:Int)),[]),true,(0:Int))],[],(f391.s1,f391.s2,(0:Int),((0:Int),(0:Int),(0:Int)),[],ByteArray.empty,ByteArray.empty,(0:Int))),slQ (Rds.one (enc:=aK) (DEqs.cons (DEq.refl _) (DEqs.cons (DEq.refl _) (DEqs.cons (DEq.refl _) (DEqs.cons (DEq.refl _) (DEqs.cons ((Rds.nil (enc:=aI))).deq (DEqs.cons (DEq.refl _) (DEqs.cons (DEq.refl _) DEqs.nil)))))))) (slQ (Rds.nil (enc:=aT)) (⟨rfl,⟨rfl,⟨rfl,⟨rfl,⟨rfl,⟨rfl,slQ (Rds.nil (enc:=aI)) (⟨rfl,⟨rfl,⟨rfl,⟨h.1,br h.2 Cnd.seq (fun h2 k6=>⟨k6,trivial⟩) (fun h3 k7=>⟨k7,trivial⟩)⟩⟩⟩⟩)⟩⟩⟩⟩⟩⟩))⟩
theorem f391.eq (a:Unit):(f391.af a).gives f391.env (f391.args a) (f391.blks a) (f391.res a) (f391.blks' a)=f391.tree a:=by kernel_rfl
end Go.Abs

-- interregnum/interregnumlaw12.RankMore
namespace Go.Abs
open Go
end Go.Abs

/- interregnum/interregnumlaw12.RankMore -/
namespace Go.Abs
open Go
set_option linter.unusedVariables false
end Go.Abs

-- interregnum/interregnumlaw12.RankTells
namespace Go.Abs
open Go
end Go.Abs

/- interregnum/interregnumlaw12.RankTells -/
namespace Go.Abs
open Go
set_option linter.unusedVariables false
end Go.Abs

-- interregnum/interregnumlaw12.RankOrder
namespace Go.Abs
open Go
def f405.wf (a:(List (aC))×(List (aH))×aG×Int):Prop:=dO.ok a.1∧fK.ok a.2.1∧eQ.ok a.2.2.1∧aF0.ok a.2.2.2
def f405.size (a:(List (aC))×(List (aH))×aG×Int):Nat:=dO.size a.1+(fK.size a.2.1+(eQ.size a.2.2.1+(aF0.size a.2.2.2)))
def f405.lpre (a:(List (aC))×(List (aH))×aG×Int):Prop:=f405.wf a∧f405.size a≤1048576
def f405.args (a:(List (aC))×(List (aH))×aG×Int):List D:=[.slice .ro 7 a.1.length (gl aK a.1),.slice .ro 13 a.2.1.length (gl aT a.2.1),.agg [.str a.2.2.1.1,.str a.2.2.1.2.1,.int .i64 a.2.2.1.2.2.1,.int .i64 a.2.2.1.2.2.2.1.1,.int .i64 a.2.2.1.2.2.2.1.2.1,.int .i64 a.2.2.1.2.2.2.1.2.2,.slice .ro 2 a.2.2.1.2.2.2.2.1.length (gl aI a.2.2.1.2.2.2.2.1),.str a.2.2.1.2.2.2.2.2.1,.str a.2.2.1.2.2.2.2.2.2.1,.int .i64 a.2.2.1.2.2.2.2.2.2.2],.int .u64 a.2.2.2]
def f405.blks (a:(List (aC))×(List (aH))×aG×Int):List (List D):=[]
def f405.res (a:(List (aC))×(List (aH))×aG×Int):List D:=[.bool (cA a)]
def f405.blks' (a:(List (aC))×(List (aH))×aG×Int):List (List D):=[]
def f405.C:aN:=FnC f405.args f405.blks (fun a=>f405.lpre a) f405.res f405.blks'
end Go.Abs

/- interregnum/interregnumlaw12.RankOrder -/
namespace Go.Abs
open Go
set_option linter.unusedVariables false
def f405.S0 (a:(List (aC))×(List (aH))×aG×Int) (x:Int×(List (aC))×(List (aC))×Int):Tm:=⟨[.slice .ro 7 a.1.length (gl aK a.1),.slice .ro 13 a.2.1.length (gl aT a.2.1),.dead,.dead,.dead,.dead,.ptr 0 0,.dead,.dead,.int .i64 x.1,.slice (.own 34) 7 x.2.1.length (gl aK x.2.1),.slice (.own 35) 7 x.2.2.1.length (gl aK x.2.2.1),.int .i64 x.2.2.2,.dead,.dead,.dead,.dead,.dead,.dead,.dead,.dead,.dead,.dead,.dead,.dead,.dead,.dead,.dead,.dead,.dead,.dead,.dead,.dead,.dead,.dead,.dead,.dead,.dead,.dead,.dead,.dead,.dead,.dead,.dead,.dead,.dead,.dead,.dead,.dead,.dead,.dead,.dead,.dead,.dead,.dead,.dead,.dead,.dead,.dead,.dead,.dead,.dead,.dead,.dead,.dead,.dead,.dead,.dead,.dead,.dead,.dead,.dead,.dead,.dead,.dead,.dead,.dead,.dead,.dead,.dead,.dead,.dead,.dead,.dead,.dead,.dead,.dead,.dead,.dead,.dead,.dead,.dead,.dead,.dead],[(0,false,[.str a.2.2.1.1,.str a.2.2.1.2.1,.int .i64 a.2.2.1.2.2.1,.int .i64 a.2.2.1.2.2.2.1.1,.int .i64 a.2.2.1.2.2.2.1.2.1,.int .i64 a.2.2.1.2.2.2.1.2.2,.slice .ro 2 a.2.2.1.2.2.2.2.1.length (gl aI a.2.2.1.2.2.2.2.1),.str a.2.2.1.2.2.2.2.2.1,.str a.2.2.1.2.2.2.2.2.2.1,.int .i64 a.2.2.1.2.2.2.2.2.2.2])],[(34,7,x.2.1.length),(35,7,x.2.2.1.length)]⟩
def f405.kills (a:(List (aC))×(List (aH))×aG×Int):List Hint:=[.tell (Int×(List (aC))×(List (aC))×Int) (f405.S0 a)]
def f405.cuts (a:(List (aC))×(List (aH))×aG×Int):List (Nat×Σ β:Type,β→Tm):=[]
def f405.af (a:(List (aC))×(List (aH))×aG×Int):AF:=AF.mk (.seq (.region [oT 6 0 .box [2],
 ⟨(some 8),1,.move,[.c (.bool false)],none⟩])
 (.seq (.seq (.region [oT 17 2 (.call false 391) [],
 oT 18 6 (.un .not) [17],
 oT 19 7 .move [18],
 oG 20 8 .move [0] 19 false,
 oG 21 9 .move [1] 19 false,
 oG 22 10 (.load true 10) [6] 19 false,
 oG 23 11 (.call false 392) [20,21,22] 19 false,
 oG 24 15 (.un .not) [23] 19 false,
 ⟨(some 25),16,.pick,[.t 19,.c (.bool true),.t 24],none⟩,
 oT 26 17 .move [25],
 oG 27 18 .move [0] 26 false,
 oG 28 19 (.len false) [27] 26 false,
 ⟨(some 29),20,(.bin .eql),[.t 28,.c (.int .i64 (0))],(some (26,false))⟩,
 ⟨(some 30),21,.pick,[.t 26,.c (.bool true),.t 29],none⟩])
 (.cond (.t 30) (.seq (.region [oT 31 22 (.call false 391) [],
 oT 8 26 .move [31]])
 (.ret)) (.skip)))
 (.seq (.region [oT 32 27 .move [3],
 oT 33 28 .move [0],
 oT 34 29 (.len false) [33],
 oT 35 30 (.conv (.int .u64)) [34],
 oT 36 31 (.bin .rem) [32,35],
 oT 37 32 (.conv (.int .i64)) [36],
 oT 9 33 .move [37]])
 (.seq (.region [oT 10 34 (.nilSl 7) [],
 oT 11 35 (.nilSl 7) []])
 (.seq (.seq (.region [oT 38 36 .move [0],
 oT 39 37 (.len false) [38],
 ⟨(some 40),38,(.bin .sub),[.t 39,.c (.int .i64 (1))],none⟩,
 oT 12 39 .move [40]])
 (.block 0 (.loopT (Int×(List (aC))×(List (aC))×Int) (f405.S0 a) 40 81 (.seq (.seq (.region [oT 41 40 .move [12],
 ⟨(some 42),41,(.bin .geq),[.t 41,.c (.int .i64 (0))],none⟩])
 (.cond (.t 42) (.skip) (.exit 0)))
 (.seq (.block 1 (.seq (.region [oT 45 42 .move [0],
 oT 46 43 .move [12],
 oT 47 44 .move [9],
 oT 48 45 (.bin .add) [46,47],
 oT 49 46 .move [0],
 oT 50 47 (.len false) [49],
 oT 51 48 (.bin .rem) [48,50],
 oT 52 49 (.indexAddr 7 none) [45,51],
 oT 53 50 (.load true 7) [52],
 oT 13 51 (.alloc [.str ByteArray.empty,.int .i64 (0),.int .i64 (0),.int .i64 (0),.slice (.own 0) 2 0 d9,.bool false,.int .i64 (0)]) [],
 ⟨none,59,(.store 7),[.t 13,.t 53],none⟩])
 (.seq (.region [oT 54 60 .move [10],
 oT 55 61 (.load true 7) [13],
 oT 56 62 (.buildSlice 7 1 [.str ByteArray.empty,.int .i64 (0),.int .i64 (0),.int .i64 (0),.slice .full 2 0 d9,.bool false,.int .i64 (0)] [(0,7)]) [55],
 oT 57 63 (.append 7 80) [54,56],
 oT 10 64 .move [57]])
 (.seq (.region [oT 58 65 (.load true 7) [13],
 oT 59 66 .move [1],
 oT 60 67 (.load true 10) [6],
 oT 61 68 (.call false 111) [58,59,60],
 ⟨(some 62),72,(.bin .eql),[.t 61,.c (.int .i64 (0))],none⟩])
 (.cond (.t 62) (.region [oT 63 73 .move [11],
 oT 64 74 (.load true 7) [13],
 oT 65 75 (.buildSlice 7 1 [.str ByteArray.empty,.int .i64 (0),.int .i64 (0),.int .i64 (0),.slice .full 2 0 d9,.bool false,.int .i64 (0)] [(0,7)]) [64],
 oT 66 76 (.append 7 80) [63,65],
 oT 11 77 .move [66]]) (.skip))))))
 (.region [oT 43 78 .move [12],
 ⟨(some 44),79,(.bin .sub),[.t 43,.c (.int .i64 (1))],none⟩,
 oT 12 80 .move [44]]))))))
 (.seq (.region [oT 67 81 .move [0],
 oT 68 82 .move [1],
 oT 69 83 (.load true 10) [6],
 oT 70 84 (.call false 395) [67,68,69],
 oT 71 88 .move [10],
 oT 72 89 .move [1],
 oT 73 90 (.load true 10) [6],
 oT 74 91 (.call false 395) [71,72,73],
 oT 75 95 .move [11],
 oT 76 96 .move [1],
 oT 77 97 (.load true 10) [6],
 oT 78 98 (.call false 395) [75,76,77],
 oT 14 102 .move [70],
 oT 15 103 .move [74],
 oT 16 104 .move [78]])
 (.seq (.region [oT 79 105 .move [14],
 oT 80 106 .move [15],
 oT 81 107 (.call false 150) [79,80],
 oT 82 111 .move [81],
 oG 83 112 .move [14] 82 true,
 oG 84 113 .move [16] 82 true,
 oG 85 114 (.call false 150) [83,84] 82 true,
 ⟨(some 86),118,.pick,[.t 82,.t 85,.c (.bool false)],none⟩,
 oT 87 119 .move [86],
 oG 88 120 .move [16] 87 true,
 oG 89 121 (.len false) [88] 87 true,
 oG 90 122 .move [11] 87 true,
 oG 91 123 (.len false) [90] 87 true,
 oG 92 124 (.bin .eql) [89,91] 87 true,
 ⟨(some 93),125,.pick,[.t 87,.t 92,.c (.bool false)],none⟩,
 oT 8 126 .move [93]])
 (.ret))))))))
 [.tmp 8] 0 90
def f405.env:Env:=[(391,f391.C),(392,f392.C),(111,f111.C),(395,f395.C),(150,f150.C)]
def f405.tree (a:(List (aC))×(List (aH))×aG×Int):Prop:=∃ c1:Unit,True∧Br (!(cA c1)) (∃ c4:Unit,True∧((cA c4)=(cA a))∧True) (f392.ent (fun c7=>(kI c7)∧Br (!(f0 c7)) (∃ c10:Unit,True∧((cA c10)=(cA a))∧True) (Br ((a.1.length:Int)==(0:Int)) (∃ c15:Unit,True∧((cA c15)=(cA a))∧True) (Let (IntKind.u64.wrap (a.1.length:Int)) (fun v18:Int=>Br (!(v18==0)) (Let (Int.tmod a.2.2.2 v18) (fun v19:Int=>Let (IntKind.i64.wrap v19) (fun v20:Int=>Let (IntKind.i64.wrap ((a.1.length:Int) - (1:Int))) (fun v21:Int=>∃ (I23:(Int×(List (aC))×(List (aC))×Int)→Prop) (μ24:(Int×(List (aC))×(List (aC))×Int)→Nat),(∃ x22:Int×(List (aC))×(List (aC))×Int,SlS aK a.1 (SlS aT a.2.1 ((v20=x22.1)∧SlQ 0 x22.2.1.length d9 (gl aK x22.2.1) (SlQ 0 x22.2.2.1.length d9 (gl aK x22.2.2.1) ((v21=x22.2.2.2)∧(a.2.2.1.1=a.2.2.1.1)∧(a.2.2.1.2.1=a.2.2.1.2.1)∧(a.2.2.1.2.2.1=a.2.2.1.2.2.1)∧(a.2.2.1.2.2.2.1.1=a.2.2.1.2.2.2.1.1)∧(a.2.2.1.2.2.2.1.2.1=a.2.2.1.2.2.2.1.2.1)∧(a.2.2.1.2.2.2.1.2.2=a.2.2.1.2.2.2.1.2.2)∧SlS aI a.2.2.1.2.2.2.2.1 ((a.2.2.1.2.2.2.2.2.1=a.2.2.1.2.2.2.2.2.1)∧(a.2.2.1.2.2.2.2.2.2.1=a.2.2.1.2.2.2.2.2.2.1)∧(a.2.2.1.2.2.2.2.2.2.2=a.2.2.1.2.2.2.2.2.2.2)∧(0=x22.2.1.length)∧(0=x22.2.2.1.length)∧I23 x22))))))∧∀ y25:Int×(List (aC))×(List (aC))×Int,I23 y25→(Br (decide ((0:Int)≤y25.2.2.2)) (Let (IntKind.i64.wrap (y25.2.2.2+y25.1)) (fun v28:Int=>Br (!((a.1.length:Int)==0)) (Let (Int.tmod v28 (a.1.length:Int)) (fun v29:Int=>Br (decide ((0:Int)≤v29)&&decide (v29 < (a.1.length:Int))) ((y25.2.1.length=y25.2.1.length∧sD ((y25.2.1.length+1) * 80))∧(f111.ent (fun c31=>(gA c31)∧Br ((f9 c31)==(0:Int)) ((y25.2.2.1.length=y25.2.2.1.length∧sD ((y25.2.2.1.length+1) * 80))∧(Let (IntKind.i64.wrap (y25.2.2.2 - (1:Int))) (fun v34:Int=>∃ x35:Int×(List (aC))×(List (aC))×Int,SlS aK a.1 (SlS aT a.2.1 ((y25.1=x35.1)∧SlQ (y25.2.1.length+1) x35.2.1.length (fV (gl aK y25.2.1) y25.2.1.length (fun _=>[.str (((at_ a.1 v29).1).1),.int .i64 ((((at_ a.1 v29).1).2.1).1),.int .i64 ((((at_ a.1 v29).1).2.1).2.1),.int .i64 ((((at_ a.1 v29).1).2.1).2.2),.slice .ro 2 ((((at_ a.1 v29).1).2.2).length) (gl aI (((at_ a.1 v29).1).2.2)),.bool ((at_ a.1 v29).2.1),.int .i64 ((at_ a.1 v29).2.2)])) (gl aK x35.2.1) (SlQ (y25.2.2.1.length+1) x35.2.2.1.length (fV (gl aK y25.2.2.1) y25.2.2.1.length (fun _=>[.str (((at_ a.1 v29).1).1),.int .i64 ((((at_ a.1 v29).1).2.1).1),.int .i64 ((((at_ a.1 v29).1).2.1).2.1),.int .i64 ((((at_ a.1 v29).1).2.1).2.2),.slice .ro 2 ((((at_ a.1 v29).1).2.2).length) (gl aI (((at_ a.1 v29).1).2.2)),.bool ((at_ a.1 v29).2.1),.int .i64 ((at_ a.1 v29).2.2)])) (gl aK x35.2.2.1) ((v34=x35.2.2.2)∧(a.2.2.1.1=a.2.2.1.1)∧(a.2.2.1.2.1=a.2.2.1.2.1)∧(a.2.2.1.2.2.1=a.2.2.1.2.2.1)∧(a.2.2.1.2.2.2.1.1=a.2.2.1.2.2.2.1.1)∧(a.2.2.1.2.2.2.1.2.1=a.2.2.1.2.2.2.1.2.1)∧(a.2.2.1.2.2.2.1.2.2=a.2.2.1.2.2.2.1.2.2)∧SlS aI a.2.2.1.2.2.2.2.1 ((a.2.2.1.2.2.2.2.2.1=a.2.2.1.2.2.2.2.2.1)∧(a.2.2.1.2.2.2.2.2.2.1=a.2.2.1.2.2.2.2.2.2.1)∧(a.2.2.1.2.2.2.2.2.2.2=a.2.2.1.2.2.2.2.2.2.2)∧((y25.2.1.length+1)=x35.2.1.length)∧((y25.2.2.1.length+1)=x35.2.2.1.length)∧I23 x35∧μ24 x35 < μ24 y25)))))))) (Let (IntKind.i64.wrap (y25.2.2.2 - (1:Int))) (fun v40:Int=>∃ x41:Int×(List (aC))×(List (aC))×Int,SlS aK a.1 (SlS aT a.2.1 ((y25.1=x41.1)∧SlQ (y25.2.1.length+1) x41.2.1.length (fV (gl aK y25.2.1) y25.2.1.length (fun _=>[.str (((at_ a.1 v29).1).1),.int .i64 ((((at_ a.1 v29).1).2.1).1),.int .i64 ((((at_ a.1 v29).1).2.1).2.1),.int .i64 ((((at_ a.1 v29).1).2.1).2.2),.slice .ro 2 ((((at_ a.1 v29).1).2.2).length) (gl aI (((at_ a.1 v29).1).2.2)),.bool ((at_ a.1 v29).2.1),.int .i64 ((at_ a.1 v29).2.2)])) (gl aK x41.2.1) (SlQ y25.2.2.1.length x41.2.2.1.length (gl aK y25.2.2.1) (gl aK x41.2.2.1) ((v40=x41.2.2.2)∧(a.2.2.1.1=a.2.2.1.1)∧(a.2.2.1.2.1=a.2.2.1.2.1)∧(a.2.2.1.2.2.1=a.2.2.1.2.2.1)∧(a.2.2.1.2.2.2.1.1=a.2.2.1.2.2.2.1.1)∧(a.2.2.1.2.2.2.1.2.1=a.2.2.1.2.2.2.1.2.1)∧(a.2.2.1.2.2.2.1.2.2=a.2.2.1.2.2.2.1.2.2)∧SlS aI a.2.2.1.2.2.2.2.1 ((a.2.2.1.2.2.2.2.2.1=a.2.2.1.2.2.2.2.2.1)∧(a.2.2.1.2.2.2.2.2.2.1=a.2.2.1.2.2.2.2.2.2.1)∧(a.2.2.1.2.2.2.2.2.2.2=a.2.2.1.2.2.2.2.2.2.2)∧((y25.2.1.length+1)=x41.2.1.length)∧(y25.2.2.1.length=x41.2.2.1.length)∧I23 x41∧μ24 x41 < μ24 y25)))))))) ((at_ a.1 v29),a.2.1,a.2.2.1))) False)) False)) (f395.ent (fun c53=>(cI c53)∧f395.ent (fun c54=>(cI c54)∧f395.ent (fun c55=>(cI c55)∧f150.ent (fun c56=>(iY c56)∧Br (fF c56) (f150.ent (fun c59=>(iY c59)∧Br (fF c59) (((((bR c55).length:Int)==(y25.2.2.1.length:Int))=(cA a))∧True) ((false=(cA a))∧True)) ((bR c53),(bR c55))) ((false=(cA a))∧True)) ((bR c53),(bR c54))) (y25.2.2.1,a.2.1,a.2.2.1)) (y25.2.1,a.2.1,a.2.2.1)) (a.1,a.2.1,a.2.2.1))))))) False)))) (a.1,a.2.1,a.2.2.1))
def f405.vc (a:(List (aC))×(List (aH))×aG×Int):Prop:=((¬((cA ())=true)→((cA ())=cA a))∧(¬(¬((cA ())=true))→(kI (a.1,a.2.1,a.2.2.1)∧((¬((f0 (a.1,a.2.1,a.2.2.1))=true)→((cA ())=cA a))∧(¬(¬((f0 (a.1,a.2.1,a.2.2.1))=true))→(((a.1.length:Int)=(0:Int)→((cA ())=cA a))∧(¬((a.1.length:Int)=(0:Int))→(0≤(a.1.length:Int)∧(a.1.length:Int)≤18446744073709551615∧(0≤a.2.2.2∧0 < (a.1.length:Int)∧(-9223372036854775808≤(a.2.2.2 % (a.1.length:Int))∧(a.2.2.2 % (a.1.length:Int))≤9223372036854775807∧(-9223372036854775808≤((a.1.length:Int) - (1:Int))∧((a.1.length:Int) - (1:Int))≤9223372036854775807∧(∃ (I23:(Int×(List (aC))×(List (aC))×Int)→Prop) (μ24:(Int×(List (aC))×(List (aC))×Int)→Nat),I23 ((a.2.2.2 % (a.1.length:Int)),[],[],((a.1.length:Int) - (1:Int)))∧∀ y25:Int×(List (aC))×(List (aC))×Int,I23 y25→(((0:Int)≤y25.2.2.2→(-9223372036854775808≤(y25.2.2.2+y25.1)∧(y25.2.2.2+y25.1)≤9223372036854775807∧(0≤(y25.2.2.2+y25.1)∧0 < (a.1.length:Int)∧((0:Int)≤((y25.2.2.2+y25.1) % (a.1.length:Int))∧((y25.2.2.2+y25.1) % (a.1.length:Int)) < (a.1.length:Int)∧(y25.2.1.length+1≤1073741824∧(gA ((at_ a.1 ((y25.2.2.2+y25.1) % (a.1.length:Int))),a.2.1,a.2.2.1)∧(((f9 ((at_ a.1 ((y25.2.2.2+y25.1) % (a.1.length:Int))),a.2.1,a.2.2.1))=(0:Int)→(y25.2.2.1.length+1≤1073741824∧(-9223372036854775808≤(y25.2.2.2 - (1:Int))∧(y25.2.2.2 - (1:Int))≤9223372036854775807∧(I23 (y25.1,y25.2.1++([(at_ a.1 ((y25.2.2.2+y25.1) % (a.1.length:Int)))]),y25.2.2.1++([(at_ a.1 ((y25.2.2.2+y25.1) % (a.1.length:Int)))]),(y25.2.2.2 - (1:Int)))∧μ24 (y25.1,y25.2.1++([(at_ a.1 ((y25.2.2.2+y25.1) % (a.1.length:Int)))]),y25.2.2.1++([(at_ a.1 ((y25.2.2.2+y25.1) % (a.1.length:Int)))]),(y25.2.2.2 - (1:Int))) < μ24 y25))))∧(¬((f9 ((at_ a.1 ((y25.2.2.2+y25.1) % (a.1.length:Int))),a.2.1,a.2.2.1))=(0:Int))→(-9223372036854775808≤(y25.2.2.2 - (1:Int))∧(y25.2.2.2 - (1:Int))≤9223372036854775807∧(I23 (y25.1,y25.2.1++([(at_ a.1 ((y25.2.2.2+y25.1) % (a.1.length:Int)))]),y25.2.2.1,(y25.2.2.2 - (1:Int)))∧μ24 (y25.1,y25.2.1++([(at_ a.1 ((y25.2.2.2+y25.1) % (a.1.length:Int)))]),y25.2.2.1,(y25.2.2.2 - (1:Int))) < μ24 y25))))))))))∧(¬((0:Int)≤y25.2.2.2)→(cI (a.1,a.2.1,a.2.2.1)∧(cI (y25.2.1,a.2.1,a.2.2.1)∧(cI (y25.2.2.1,a.2.1,a.2.2.1)∧(iY ((bR (a.1,a.2.1,a.2.2.1)),(bR (y25.2.1,a.2.1,a.2.2.1)))∧(((fF ((bR (a.1,a.2.1,a.2.2.1)),(bR (y25.2.1,a.2.1,a.2.2.1))))=true→(iY ((bR (a.1,a.2.1,a.2.2.1)),(bR (y25.2.2.1,a.2.1,a.2.2.1)))∧(((fF ((bR (a.1,a.2.1,a.2.2.1)),(bR (y25.2.2.1,a.2.1,a.2.2.1))))=true→((((bR (y25.2.2.1,a.2.1,a.2.2.1)).length:Int)==(y25.2.2.1.length:Int))=cA a))∧(¬((fF ((bR (a.1,a.2.1,a.2.2.1)),(bR (y25.2.2.1,a.2.1,a.2.2.1))))=true)→(false=cA a)))))∧(¬((fF ((bR (a.1,a.2.1,a.2.2.1)),(bR (y25.2.1,a.2.1,a.2.2.1))))=true)→(false=cA a)))))))))))))))))))))
set_option maxRecDepth 100000 in
set_option maxHeartbeats 2000000 in
theorem f405.of (a:(List (aC))×(List (aH))×aG×Int) (h:f405.vc a):f405.tree a:=⟨(),⟨trivial,br h (Cnd.not Cnd.b) (fun h2 k93=>⟨(),⟨trivial,⟨k93,trivial⟩⟩⟩) (fun h3 k94=>(f392.ei ⟨k94.1,br k94.2 (Cnd.not Cnd.b) (fun h8 k90=>⟨(),⟨trivial,⟨k90,trivial⟩⟩⟩) (fun h9 k91=>br k91 Cnd.eq (fun h13 k88=>⟨(),⟨trivial,⟨k88,trivial⟩⟩⟩) (fun h14 k89=>wrapK.u64 k89 (fun h85 h86 k87=>y3 (Cnd.not Cnd.eq) (by have:=k87.2.1; omega) (aJB k87.1 (wrapK.i64 k87.2.2 (fun h82 h83 k84=>wrapK.i64 k84 (fun h79 h80 k81=>Exists.elim k81 (fun I23 h76_=>Exists.elim h76_ (fun μ24 h76=>⟨I23,μ24,⟨((a.2.2.2 % (a.1.length:Int)),[],[],((a.1.length:Int) - (1:Int))),SlS.mk  (SlS.mk  (⟨rfl,slQ (Rds.nil (enc:=aK)) (slQ (Rds.nil (enc:=aK)) (⟨rfl,⟨rfl,⟨rfl,⟨rfl,⟨rfl,⟨rfl,⟨rfl,SlS.mk  (⟨rfl,⟨rfl,⟨rfl,⟨(a9 d9 (Rds.nil (enc:=aK))),⟨(a9 d9 (Rds.nil (enc:=aK))),h76.1⟩⟩⟩⟩⟩)⟩⟩⟩⟩⟩⟩⟩))⟩))⟩,fun y25 h78=>br (h76.2 y25 h78) Cnd.dec (fun h26 k74=>wrapK.i64 k74 (fun h50 h51 k52=>y3 (Cnd.not Cnd.eq) (by have:=k52.2.1; omega) (aJB k52.1 (chk k52.2.2.2.2 Cnd.ix ⟨k52.2.2.1,k52.2.2.2.1⟩ (fun h30 k49=>⟨⟨rfl,(pZ k49.1 (by decide))⟩,(f111.ei ⟨k49.2.1,br k49.2.2 Cnd.eq (fun h32 k46=>⟨⟨rfl,(pZ k46.1 (by decide))⟩,wrapK.i64 k46.2 (fun h37 h38 k39=>⟨(y25.1,y25.2.1++([(at_ a.1 ((y25.2.2.2+y25.1) % (a.1.length:Int)))]),y25.2.2.1++([(at_ a.1 ((y25.2.2.2+y25.1) % (a.1.length:Int)))]),(y25.2.2.2 - (1:Int))),SlS.mk  (SlS.mk  (⟨rfl,slQ (Rds.app (enc:=aK) (Rds.self (enc:=aK)) (Rds.one (enc:=aK) (DEqs.refl _))) (slQ (Rds.app (enc:=aK) (Rds.self (enc:=aK)) (Rds.one (enc:=aK) (DEqs.refl _))) (⟨rfl,⟨rfl,⟨rfl,⟨rfl,⟨rfl,⟨rfl,⟨rfl,SlS.mk  (⟨rfl,⟨rfl,⟨rfl,⟨(a9 (fV (gl aK y25.2.1) y25.2.1.length (fun _=>[.str (((at_ a.1 ((y25.2.2.2+y25.1) % (a.1.length:Int))).1).1),.int .i64 ((((at_ a.1 ((y25.2.2.2+y25.1) % (a.1.length:Int))).1).2.1).1),.int .i64 ((((at_ a.1 ((y25.2.2.2+y25.1) % (a.1.length:Int))).1).2.1).2.1),.int .i64 ((((at_ a.1 ((y25.2.2.2+y25.1) % (a.1.length:Int))).1).2.1).2.2),.slice .ro 2 ((((at_ a.1 ((y25.2.2.2+y25.1) % (a.1.length:Int))).1).2.2).length) (gl aI (((at_ a.1 ((y25.2.2.2+y25.1) % (a.1.length:Int))).1).2.2)),.bool ((at_ a.1 ((y25.2.2.2+y25.1) % (a.1.length:Int))).2.1),.int .i64 ((at_ a.1 ((y25.2.2.2+y25.1) % (a.1.length:Int))).2.2)])) (Rds.app (enc:=aK) (Rds.self (enc:=aK)) (Rds.one (enc:=aK) (DEqs.refl _)))),⟨(a9 (fV (gl aK y25.2.2.1) y25.2.2.1.length (fun _=>[.str (((at_ a.1 ((y25.2.2.2+y25.1) % (a.1.length:Int))).1).1),.int .i64 ((((at_ a.1 ((y25.2.2.2+y25.1) % (a.1.length:Int))).1).2.1).1),.int .i64 ((((at_ a.1 ((y25.2.2.2+y25.1) % (a.1.length:Int))).1).2.1).2.1),.int .i64 ((((at_ a.1 ((y25.2.2.2+y25.1) % (a.1.length:Int))).1).2.1).2.2),.slice .ro 2 ((((at_ a.1 ((y25.2.2.2+y25.1) % (a.1.length:Int))).1).2.2).length) (gl aI (((at_ a.1 ((y25.2.2.2+y25.1) % (a.1.length:Int))).1).2.2)),.bool ((at_ a.1 ((y25.2.2.2+y25.1) % (a.1.length:Int))).2.1),.int .i64 ((at_ a.1 ((y25.2.2.2+y25.1) % (a.1.length:Int))).2.2)])) (Rds.app (enc:=aK) (Rds.self (enc:=aK)) (Rds.one (enc:=aK) (DEqs.refl _)))),k39⟩⟩⟩⟩⟩)⟩⟩⟩⟩⟩⟩⟩))⟩))⟩)⟩) (fun h33 k47=>wrapK.i64 k47 (fun h43 h44 k45=>⟨(y25.1,y25.2.1++([(at_ a.1 ((y25.2.2.2+y25.1) % (a.1.length:Int)))]),y25.2.2.1,(y25.2.2.2 - (1:Int))),SlS.mk  (SlS.mk  (⟨rfl,slQ (Rds.app (enc:=aK) (Rds.self (enc:=aK)) (Rds.one (enc:=aK) (DEqs.refl _))) (slQ (Rds.self (enc:=aK)) (⟨rfl,⟨rfl,⟨rfl,⟨rfl,⟨rfl,⟨rfl,⟨rfl,SlS.mk  (⟨rfl,⟨rfl,⟨rfl,⟨(a9 (fV (gl aK y25.2.1) y25.2.1.length (fun _=>[.str (((at_ a.1 ((y25.2.2.2+y25.1) % (a.1.length:Int))).1).1),.int .i64 ((((at_ a.1 ((y25.2.2.2+y25.1) % (a.1.length:Int))).1).2.1).1),.int .i64 ((((at_ a.1 ((y25.2.2.2+y25.1) % (a.1.length:Int))).1).2.1).2.1),.int .i64 ((((at_ a.1 ((y25.2.2.2+y25.1) % (a.1.length:Int))).1).2.1).2.2),.slice .ro 2 ((((at_ a.1 ((y25.2.2.2+y25.1) % (a.1.length:Int))).1).2.2).length) (gl aI (((at_ a.1 ((y25.2.2.2+y25.1) % (a.1.length:Int))).1).2.2)),.bool ((at_ a.1 ((y25.2.2.2+y25.1) % (a.1.length:Int))).2.1),.int .i64 ((at_ a.1 ((y25.2.2.2+y25.1) % (a.1.length:Int))).2.2)])) (Rds.app (enc:=aK) (Rds.self (enc:=aK)) (Rds.one (enc:=aK) (DEqs.refl _)))),⟨(a9 (gl aK y25.2.2.1) (Rds.self (enc:=aK))),k45⟩⟩⟩⟩⟩)⟩⟩⟩⟩⟩⟩⟩))⟩))⟩))⟩)⟩))))) (fun h27 k75=>(f395.ei ⟨k75.1,(f395.ei ⟨k75.2.1,(f395.ei ⟨k75.2.2.1,(f150.ei ⟨k75.2.2.2.1,br k75.2.2.2.2 Cnd.b (fun h57 k68=>(f150.ei ⟨k68.1,br k68.2 Cnd.b (fun h60 k64=>⟨k64,trivial⟩) (fun h61 k65=>⟨k65,trivial⟩)⟩)) (fun h58 k69=>⟨k69,trivial⟩)⟩)⟩)⟩)⟩))⟩)))))))))⟩))⟩⟩
theorem f405.eq (a:(List (aC))×(List (aH))×aG×Int):(f405.af a).gives f405.env (f405.args a) (f405.blks a) (f405.res a) (f405.blks' a)=f405.tree a:=by kernel_rfl
end Go.Abs

/- The laws of layer 12. -/
namespace Go.Abs
open Go

theorem aD7 {l:List cM} {jobs:List dT} {t:cE} (hl:dO.size l≤1048576) (hj:fK.size jobs≤1048576) (ht:eQ.size t≤1048576):cI (l,jobs,t)∧kI (l,jobs,t):=by
 have h2:(l.map d5.size).sum+1=dO.size l:=rfl
 have h3:=x6 d5.size (fun x=>Nat.le_add_left 1 _) l
 have hj:=xF (l:=jobs) hj
 have htt:=x0 (t:=t) ht
 have hw:=vE (t:=t) ht
 have hm:∀ m∈l,iC m.1∧L20 m.1.2.2:=fun m hm=>yU (by
  have h1:d5.size m≤(l.map d5.size).sum:=aDH _ hm
  omega)
 have hl20:l.length≤1048576:=by omega
 exact ⟨⟨hl20,fun m hx=>⟨hj,(hm m hx).1,htt,(hm m hx).2,hw⟩⟩,hl20,hj,hw,fun m hx=>⟨(hm m hx).1.1,(hm m hx).2⟩⟩

theorem f391.ok (a:Unit) (_:True):f391.vc a:=by
 have e1:iJ ([((f391.s0,((4:Int),(4:Int),(4:Int)),[]),true,(0:Int))],[],(f391.s1,f391.s2,(0:Int),((0:Int),(0:Int),(0:Int)),[],ByteArray.empty,ByteArray.empty,(0:Int)))=(f391.s0,true):=by decide +kernel
 unfold f391.vc
 rw [e1]
 refine ⟨⟨Nat.le_of_ble_eq_true rfl,fun m hm=>?_⟩,fun _=>rfl,fun c=>absurd rfl c⟩
 rw [List.mem_singleton.1 hm]
 refine ⟨Nat.le_of_ble_eq_true rfl,⟨?_,?_⟩,⟨?_,?_,?_,?_,?_⟩,Nat.le_of_ble_eq_true rfl,Nat.le_of_ble_eq_true rfl⟩ <;> first | exact Nat.le_of_ble_eq_true rfl | exact fun x hx=>absurd hx List.not_mem_nil

theorem sT (l:List ByteArray):fF (l,l)=true:=decide_eq_true rfl
theorem iL {a:List cM×List dT×cE} (h:L20 a.1):L20 (bR a):=by
 have:=aDG a
 unfold L20 at *
 rw [t0]
 omega

theorem aEX (a:cM×List dT×cE):(cY a).2=(f9 a==0):=by
 unfold cY
 by_cases h:f9 a=0
 ·rw [if_neg (not_not_intro h),h]
  rfl
 ·rw [if_pos h]
  exact (beq_eq_false_iff_ne.2 h).symm

theorem aIY {α:Type} [Inhabited α] (l:List α) {k i:Nat} (hk:k < l.length) (hi:i < l.length):(l.drop k++l.take k).getD i default=l.getD ((i+k) % l.length) default:=by
 rw [i6,List.length_drop]
 by_cases h:i < l.length - k
 ·rw [if_pos h,Nat.mod_eq_of_lt (by omega),List.getD_eq_getElem?_getD,List.getD_eq_getElem?_getD,List.getElem?_drop,Nat.add_comm k i]
 ·rw [if_neg h,Nat.mod_eq_sub_mod (by omega),Nat.mod_eq_of_lt (by omega),List.getD_eq_getElem?_getD,List.getD_eq_getElem?_getD,List.getElem?_take,if_pos (by omega)]
  congr 2
  omega

theorem aFS {l m:List cM} (b:List dT×cE) (h:l.Perm m):fG (l,b)=fG (m,b):=y6 ((h.filter _).map _)

theorem f405.ok (a:List cM×List dT×cE×Int) (h:f405.lpre a):f405.vc a:=by
 obtain ⟨hwf,hs⟩:=h
 obtain ⟨l,jobs,t,u⟩:=a
 have hs:dO.size l+(fK.size jobs+(eQ.size t+1))≤1048576:=hs
 obtain ⟨hc,hf⟩:=aD7 (l:=l) (jobs:=jobs) (t:=t) (by omega) (by omega) (by omega)
 have h1:l.length≤1048576:=hc.1
 have hu:0≤u:=by
  have h1:(Lit.int .u64 u).wf=true:=hwf.2.2.2
  simp [Lit.wf,IntKind.min,IntKind.max,IntKind.signed,IntKind.bits] at h1
  omega
 refine ⟨fun _=>rfl,fun _=>⟨hf,fun _=>rfl,fun _=>⟨fun _=>rfl,fun hne=>?_⟩⟩⟩
 simp only at hne ⊢
 have hk0:=Int.emod_nonneg u (b:=(l.length:Int)) (by omega)
 have hk1:=Int.emod_lt_of_pos u (b:=(l.length:Int)) (by omega)
 generalize u % (l.length:Int)=k at hk0 hk1
 generalize hrot:l.drop k.toNat++l.take k.toNat=rot
 have hrl:rot.length=l.length:=by
  rw [← hrot,List.length_append,List.length_drop,List.length_take]
  omega
 have hperm:rot.Perm l:=by
  rw [← hrot]
  exact List.perm_append_comm.trans (by rw [List.take_append_drop])
 refine ⟨by omega,by omega,hu,by omega,by omega,by omega,by omega,by omega,fun y=>y.1=k∧-1≤y.2.2.2∧y.2.2.2 < (l.length:Int)∧y.2.1=(rot.drop (y.2.2.2+1).toNat).reverse∧y.2.2.1=((rot.drop (y.2.2.2+1).toNat).reverse).filter fun m=>f9 (m,jobs,t)==0,fun y=>(y.2.2.2+1).toNat,⟨rfl,by simp only; omega,by simp only; omega,?_,?_⟩,fun y hy=>?_⟩
 ·simp only
  rw [List.drop_of_length_le (by omega)]
  rfl
 ·simp only
  rw [List.drop_of_length_le (by omega)]
  rfl
 ·obtain ⟨k',tu,ca,i⟩:=y
  obtain ⟨e1,i0,i1,e2,e3⟩:=hy
  simp only at e1 i0 i1 e2 e3 ⊢
  subst e1
  have ltu:tu.length≤l.length:=by
   rw [e2,List.length_reverse,List.length_drop]
   omega
  have lca:ca.length≤l.length:=by
   rw [e3]
   refine Nat.le_trans (List.length_filter_le _ _) ?_
   rw [List.length_reverse,List.length_drop]
   omega
  refine ⟨fun hi=>?_,fun hi=>?_⟩
  ·have j0:=Int.emod_nonneg (i+k') (b:=(l.length:Int)) (by omega)
   have j1:=Int.emod_lt_of_pos (i+k') (b:=(l.length:Int)) (by omega)
   have hat:at_ l ((i+k') % (l.length:Int))=at_ rot i:=by
    unfold at_
    rw [← hrot,aIY l (by omega) (by omega)]
    congr 1
    have:((i+k') % (l.length:Int))=(((i.toNat+k'.toNat) % l.length:Nat):Int):=by
     rw [Int.natCast_emod]
     congr 1
     omega
    rw [this]
    rfl
   have hstep:(rot.drop (i - 1+1).toNat).reverse=tu++[at_ rot i]:=by
    rw [show (i - 1+1).toNat=i.toNat from by omega,List.drop_eq_getElem_cons (i:=i.toNat) (by omega),List.reverse_cons,show i.toNat+1=(i+1).toNat from by omega,← e2]
    unfold at_
    rw [nH (by omega)]
   rw [hat]
   refine ⟨by omega,by omega,by omega,by omega,j0,j1,by omega,?_,fun c=>⟨by omega,by omega,by omega,⟨rfl,by omega,by omega,hstep.symm,?_⟩,by omega⟩,fun c=>⟨by omega,by omega,⟨rfl,by omega,by omega,hstep.symm,?_⟩,by omega⟩⟩
   ·rw [← hat]
    exact hc.2 _ (pT (l:=l) (i:=((i+k') % (l.length:Int)).toNat) (by omega))
   ·rw [hstep,List.filter_append,e2,← e3,List.filter_cons_of_pos (by rw [c]; rfl)]
    rfl
   ·rw [hstep,List.filter_append,e2,← e3,List.filter_cons_of_neg (by simpa using c)]
    exact (List.append_nil _).symm
  ·have:i=-1:=by omega
   subst this
   have e2:tu=rot.reverse:=e2
   have e3:ca=rot.reverse.filter fun m=>f9 (m,jobs,t)==0:=e3
   have ptu:tu.Perm l:=by
    rw [e2]
    exact (List.reverse_perm rot).trans hperm
   have htu:cI (tu,jobs,t):=⟨show tu.length≤1048576 by omega,fun m hm=>hc.2 m (ptu.mem_iff.1 hm)⟩
   have hca:cI (ca,jobs,t):=⟨show ca.length≤1048576 by omega,fun m hm=>by
    rw [e3] at hm
    exact hc.2 m (ptu.mem_iff.1 (by rw [e2]; exact (List.mem_filter.1 hm).1))⟩
   have a1:bR (tu,jobs,t)=bR (l,jobs,t):=by
    unfold bR
    rw [aFS (jobs,t) ptu]
   have can:∀ m,(cY (m,jobs,t)).2=(f9 (m,jobs,t)==0):=fun m=>aEX _
   have sc2:dV (ca,jobs,t)=dV (tu,jobs,t):=by
    unfold dV
    simp only [can]
    rw [e3,← e2,List.filter_filter]
    simp
   have a2:bR (ca,jobs,t)=bR (l,jobs,t):=by
    rw [← a1]
    unfold bR fG
    rw [sc2]
   have a3:(bR (ca,jobs,t)).length=ca.length:=by
    rw [t0]
    unfold fG
    rw [iS]
    unfold dV
    simp only [can]
    rw [List.length_map,List.filter_eq_self.2]
    intro m hm
    rw [e3] at hm
    exact (List.mem_filter.1 hm).2
   refine ⟨hc,htu,hca,⟨iL hc.1,iL htu.1⟩,fun _=>⟨⟨iL hc.1,iL hca.1⟩,fun _=>?_,fun c=>absurd ?_ c⟩,fun c=>absurd ?_ c⟩
   ·rw [a3]
    exact beq_self_eq_true _
   ·rw [a2]
    exact sT _
   ·rw [a1]
    exact sT _

end Go.Abs
