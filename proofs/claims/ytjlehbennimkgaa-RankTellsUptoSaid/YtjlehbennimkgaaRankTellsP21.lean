/- Functions, and what the code asks of them: PRankLaw. -/
import Derived.KernelRfl
import Derived.Test.YtjlehbennimkgaaRankTellsP4
import Derived.Test.YtjlehbennimkgaaRankTellsP5
import Derived.Test.YtjlehbennimkgaaRankTellsP6
import Derived.Test.YtjlehbennimkgaaRankTellsP7
import Derived.Test.YtjlehbennimkgaaRankTellsP8
import Derived.Test.YtjlehbennimkgaaRankTellsP9
import Derived.Test.YtjlehbennimkgaaRankTellsP10
import Derived.Test.YtjlehbennimkgaaRankTellsP11
import Derived.Test.YtjlehbennimkgaaRankTellsP12
import Derived.Test.YtjlehbennimkgaaRankTellsP13
import Derived.Test.YtjlehbennimkgaaRankTellsP14
import Derived.Test.YtjlehbennimkgaaRankTellsP15
import Derived.Test.YtjlehbennimkgaaRankTellsP16
import Derived.Test.YtjlehbennimkgaaRankTellsP17
import Derived.Test.YtjlehbennimkgaaRankTellsP18
import Derived.Test.YtjlehbennimkgaaRankTellsP19
import Derived.Test.YtjlehbennimkgaaRankTellsP20
set_option maxRecDepth 100000
set_option maxHeartbeats 4000000
set_option linter.unusedVariables false
set_option linter.unusedSimpArgs false
-- interregnum/interregnumlaw12.awake
namespace Go.Abs
open Go
def f391.args (a:Unit):List D:=[]
def f391.blks (a:Unit):List (List D):=[]
def f391.res (a:Unit):List D:=[.bool (cN a)]
def f391.blks' (a:Unit):List (List D):=[]
def f391.C:aN:=FnC f391.args f391.blks (fun _=>True) f391.res f391.blks'
set_option linter.unusedVariables false
def f391.s0:ByteArray:=⟨#[110]⟩
def f391.s1:ByteArray:=⟨#[116]⟩
def f391.s2:ByteArray:=⟨#[113]⟩
def f391.kills (a:Unit):List Hint:=[]
def f391.cuts (a:Unit):List (Nat×Σ β:Type,β→Tm):=[]
def f391.af (a:Unit):AF:=AF.mk (.seq (.region [⟨(some 0),0,.move,[.c (.bool false)],none⟩])
 (.seq (.region [⟨(some 4),1,(.build [.int .i64 (0),.int .i64 (0),.int .i64 (0)] [(0,1),(1,1),(2,1)]),[.c (.int .i64 (4)),.c (.int .i64 (4)),.c (.int .i64 (4))],none⟩,
 ⟨(some 5),2,(.build [.str ByteArray.empty,.int .i64 (0),.int .i64 (0),.int .i64 (0),.slice .full 2 0 eM] [(0,1),(1,3)]),[.c (.str f391.s0),.t 4],none⟩,
 ⟨(some 6),3,(.build [.str ByteArray.empty,.int .i64 (0),.int .i64 (0),.int .i64 (0),.slice .full 2 0 eM,.bool false,.int .i64 (0)] [(0,5),(5,1)]),[.t 5,.c (.bool true)],none⟩,
 oT 1 4 (.alloc [.str ByteArray.empty,.int .i64 (0),.int .i64 (0),.int .i64 (0),.slice (.own 0) 2 0 eM,.bool false,.int .i64 (0)]) [],
 ⟨none,12,(.store 7),[.t 1,.t 6],none⟩])
 (.seq (.region [oT 8 13 (.load true 7) [1],
 oT 9 14 (.buildSlice 7 1 [.str ByteArray.empty,.int .i64 (0),.int .i64 (0),.int .i64 (0),.slice .full 2 0 eM,.bool false,.int .i64 (0)] [(0,7)]) [8],
 ⟨(some 10),15,(.build [.str ByteArray.empty,.str ByteArray.empty,.int .i64 (0),.int .i64 (0),.int .i64 (0),.int .i64 (0),.slice .full 2 0 eM,.str ByteArray.empty,.str ByteArray.empty,.int .i64 (0)] [(0,1),(1,1)]),[.c (.str f391.s1),.c (.str f391.s2)],none⟩,
 ⟨(some 11),16,(.call false 151),[.t 9,.c (.slice .full 13 0 eM),.t 10],none⟩,
 mT 7 20 11,
 oT 12 21 (.extract 0) [7],
 oT 13 22 (.extract 1) [7],
 mT 2 23 12,
 mT 3 24 13])
 (.seq (.region [mT 14 25 2,
 ⟨(some 15),26,(.bin .eql),[.t 14,.c (.str f391.s0)],none⟩,
 mT 16 27 15,
 oG 17 28 .move [3] 16 true,
 ⟨(some 18),29,.pick,[.t 16,.t 17,.c (.bool false)],none⟩,
 mT 0 30 18])
 (.ret)))))
 [.tmp 0] 0 19
def f391.env:Env:=[(151,f151.C)]
def f391.tree (a:Unit):Prop:=∃ c1:(List (aD))×(List (aF))×aE,SlQ 1 c1.1.length (fun _=>[.str f391.s0,.int .i64 (4:Int),.int .i64 (4:Int),.int .i64 (4:Int),.slice .ro 2 0 eM,.bool true,.int .i64 (0:Int)]) (gl aO c1.1) (SlQ 0 c1.2.1.length eM (gl aM c1.2.1) ((f391.s1=c1.2.2.1)∧(f391.s2=c1.2.2.2.1)∧((0:Int)=c1.2.2.2.2.1)∧((0:Int)=c1.2.2.2.2.2.1.1)∧((0:Int)=c1.2.2.2.2.2.1.2.1)∧((0:Int)=c1.2.2.2.2.2.1.2.2)∧SlQ 0 c1.2.2.2.2.2.2.1.length eM (gl aG c1.2.2.2.2.2.2.1) ((ByteArray.empty=c1.2.2.2.2.2.2.2.1)∧(ByteArray.empty=c1.2.2.2.2.2.2.2.2.1)∧((0:Int)=c1.2.2.2.2.2.2.2.2.2)∧(cA c1)∧Br (((dI c1).1).toList==f391.s0.toList) ((((dI c1).2)=(cN a))∧True) ((false=(cN a))∧True))))
def f391.vc (a:Unit):Prop:=(cA ([((f391.s0,((4:Int),(4:Int),(4:Int)),[]),true,(0:Int))],[],(f391.s1,f391.s2,(0:Int),((0:Int),(0:Int),(0:Int)),[],ByteArray.empty,ByteArray.empty,(0:Int)))∧((((dI ([((f391.s0,((4:Int),(4:Int),(4:Int)),[]),true,(0:Int))],[],(f391.s1,f391.s2,(0:Int),((0:Int),(0:Int),(0:Int)),[],ByteArray.empty,ByteArray.empty,(0:Int)))).1)=f391.s0→((dI ([((f391.s0,((4:Int),(4:Int),(4:Int)),[]),true,(0:Int))],[],(f391.s1,f391.s2,(0:Int),((0:Int),(0:Int),(0:Int)),[],ByteArray.empty,ByteArray.empty,(0:Int)))).2=cN a))∧(¬(((dI ([((f391.s0,((4:Int),(4:Int),(4:Int)),[]),true,(0:Int))],[],(f391.s1,f391.s2,(0:Int),((0:Int),(0:Int),(0:Int)),[],ByteArray.empty,ByteArray.empty,(0:Int)))).1)=f391.s0)→(false=cN a))))
theorem f391.of (a:Unit) (h:f391.vc a):f391.tree a:=⟨([((f391.s0,((4:Int),(4:Int),(4:Int)),[]),true,(0:Int))],[],(f391.s1,f391.s2,(0:Int),((0:Int),(0:Int),(0:Int)),[],ByteArray.empty,ByteArray.empty,(0:Int))),slQ (Rds.one (enc:=aO) (DEqs.cons (DEq.refl _) (DEqs.cons (DEq.refl _) (DEqs.cons (DEq.refl _) (DEqs.cons (DEq.refl _) (DEqs.cons ((Rds.nil (enc:=aG))).deq (DEqs.cons (DEq.refl _) (DEqs.cons (DEq.refl _) DEqs.nil)))))))) (slQ (Rds.nil (enc:=aM)) (⟨rfl,⟨rfl,⟨rfl,⟨rfl,⟨rfl,⟨rfl,slQ (Rds.nil (enc:=aG)) (⟨rfl,⟨rfl,⟨rfl,⟨h.1,br h.2 Cnd.seq (fun h2 k6=>⟨k6,trivial⟩) (fun h3 k7=>⟨k7,trivial⟩)⟩⟩⟩⟩)⟩⟩⟩⟩⟩⟩))⟩
theorem f391.eq (a:Unit):(f391.af a).gives f391.env (f391.args a) (f391.blks a) (f391.res a) (f391.blks' a)=f391.tree a:=by kernel_rfl
def f382.wf (a:(List (aD))×(List (aF))×aE):Prop:=d5.ok a.1∧fX.ok a.2.1∧fB.ok a.2.2
def f382.size (a:(List (aD))×(List (aF))×aE):Nat:=d5.size a.1+(fX.size a.2.1+(fB.size a.2.2))
def f382.lpre (a:(List (aD))×(List (aF))×aE):Prop:=f382.wf a∧f382.size a≤1048576
def f382.args (a:(List (aD))×(List (aF))×aE):List D:=[.slice .ro 7 a.1.length (gl aO a.1),.slice .ro 13 a.2.1.length (gl aM a.2.1),.agg [.str a.2.2.1,.str a.2.2.2.1,.int .i64 a.2.2.2.2.1,.int .i64 a.2.2.2.2.2.1.1,.int .i64 a.2.2.2.2.2.1.2.1,.int .i64 a.2.2.2.2.2.1.2.2,.slice .ro 2 a.2.2.2.2.2.2.1.length (gl aG a.2.2.2.2.2.2.1),.str a.2.2.2.2.2.2.2.1,.str a.2.2.2.2.2.2.2.2.1,.int .i64 a.2.2.2.2.2.2.2.2.2]]
def f382.blks (a:(List (aD))×(List (aF))×aE):List (List D):=[]
def f382.res (a:(List (aD))×(List (aF))×aE):List D:=[.bool (cN a)]
def f382.blks' (a:(List (aD))×(List (aF))×aE):List (List D):=[]
def f382.C:aN:=FnC f382.args f382.blks (fun a=>f382.lpre a) f382.res f382.blks'
def f382.S0 (a:(List (aD))×(List (aF))×aE) (x:Int):Tm:=⟨.slice .ro 7 a.1.length (gl aO a.1)::.slice .ro 13 a.2.1.length (gl aM a.2.1)::.dead::.dead::.dead::.ptr 0 0::dd 21 (.int .i64 (a.1.length:Int)::.int .i64 x::dd 64 []),[(0,false,[.str a.2.2.1,.str a.2.2.2.1,.int .i64 a.2.2.2.2.1,.int .i64 a.2.2.2.2.2.1.1,.int .i64 a.2.2.2.2.2.1.2.1,.int .i64 a.2.2.2.2.2.1.2.2,.slice .ro 2 a.2.2.2.2.2.2.1.length (gl aG a.2.2.2.2.2.2.1),.str a.2.2.2.2.2.2.2.1,.str a.2.2.2.2.2.2.2.2.1,.int .i64 a.2.2.2.2.2.2.2.2.2])],[]⟩
def f382.l0 (a:(List (aD))×(List (aF))×aE) (K:Int→Prop) (t:Int):Prop:=∃ x:Int,SlS aO a.1 (SlS aM a.2.1 (((a.1.length:Int)=(a.1.length:Int))∧(t=x)∧(a.2.2.1=a.2.2.1)∧(a.2.2.2.1=a.2.2.2.1)∧(a.2.2.2.2.1=a.2.2.2.2.1)∧(a.2.2.2.2.2.1.1=a.2.2.2.2.2.1.1)∧(a.2.2.2.2.2.1.2.1=a.2.2.2.2.2.1.2.1)∧(a.2.2.2.2.2.1.2.2=a.2.2.2.2.2.1.2.2)∧SlS aG a.2.2.2.2.2.2.1 ((a.2.2.2.2.2.2.2.1=a.2.2.2.2.2.2.2.1)∧(a.2.2.2.2.2.2.2.2.1=a.2.2.2.2.2.2.2.2.1)∧(a.2.2.2.2.2.2.2.2.2=a.2.2.2.2.2.2.2.2.2)∧K x)))
theorem f382.l0i (a:(List (aD))×(List (aF))×aE) {K:Int→Prop} {t:Int} (h:K t):f382.l0 a K t:=⟨t,SlS.mk  (SlS.mk  (⟨rfl,⟨rfl,⟨rfl,⟨rfl,⟨rfl,⟨rfl,⟨rfl,⟨rfl,SlS.mk  (⟨rfl,⟨rfl,⟨rfl,h⟩⟩⟩)⟩⟩⟩⟩⟩⟩⟩⟩))⟩
def f382.kills (a:(List (aD))×(List (aF))×aE):List Hint:=[.tell Int (f382.S0 a)]
def f382.cuts (a:(List (aD))×(List (aF))×aE):List (Nat×Σ β:Type,β→Tm):=[]
def f382.af (a:(List (aD))×(List (aF))×aE):AF:=AF.mk (.seq (.region [oT 5 0 .box [2],
 ⟨(some 6),1,.move,[.c (.bool false)],none⟩])
 (.seq (.seq (.region [oT 16 2 (.call false 391) [],
 oT 17 6 (.un .not) [16],
 mT 18 7 17,
 oG 19 8 .move [0] 18 false,
 oG 20 9 .move [1] 18 false,
 oG 21 10 (.load true 10) [5] 18 false,
 oG 22 11 (.call false 392) [19,20,21] 18 false,
 oG 23 15 (.un .not) [22] 18 false,
 ⟨(some 24),16,.pick,[.t 18,.c (.bool true),.t 23],none⟩])
 (.cond (.t 24) (.seq (.region [oT 25 17 (.call false 391) [],
 mT 6 21 25])
 (.ret)) (.skip)))
 (.seq (.seq (.region [mT 26 22 0,
 oT 27 23 (.len false) [26],
 ⟨(some 28),24,.move,[.c (.int .i64 (0))],none⟩])
 (.block 0 (.loopT Int (f382.S0 a) 25 69 (.seq (.region [oT 29 25 (.bin .lss) [28,27]])
 (.seq (.cond (.t 29) (.skip) (.exit 0))
 (.seq (.block 1 (.seq (.region [mT 30 26 28,
 mT 7 27 30])
 (.seq (.region [mT 32 28 0,
 mT 33 29 7,
 oT 34 30 (.indexAddr 7 none) [32,33],
 oT 35 31 (.load true 7) [34],
 mT 36 32 1,
 oT 37 33 (.load true 10) [5],
 oT 38 34 (.call false 197) [35,36,37],
 mT 31 38 38,
 oT 39 39 (.extract 0) [31],
 oT 40 40 (.extract 1) [31],
 mT 8 41 39,
 mT 9 42 40])
 (.seq (.region [mT 42 43 0,
 mT 43 44 7,
 oT 44 45 (.indexAddr 7 none) [42,43],
 oT 45 46 (.load true 7) [44],
 mT 46 47 1,
 oT 47 48 (.load true 10) [5],
 oT 48 49 (.call false 393) [45,46,47],
 mT 41 53 48,
 oT 49 54 (.extract 0) [41],
 oT 50 55 (.extract 1) [41],
 mT 10 56 49,
 mT 11 57 50])
 (.seq (.region [mT 51 58 8,
 mT 52 59 10,
 oT 53 60 (.bin .neq) [51,52],
 mT 54 61 53,
 oG 55 62 .move [9] 54 false,
 oG 56 63 .move [11] 54 false,
 oG 57 64 (.binB true) [55,56] 54 false,
 ⟨(some 58),65,.pick,[.t 54,.c (.bool true),.t 57],none⟩])
 (.cond (.t 58) (.seq (.region [⟨(some 6),66,.move,[.c (.bool false)],none⟩])
 (.ret)) (.skip)))))))
 (.region [⟨(some 59),67,(.bin .add),[.t 28,.c (.int .i64 (1))],none⟩,
 mT 28 68 59])))))))
 (.seq (.region [mT 61 69 0,
 mT 62 70 1,
 oT 63 71 (.load true 10) [5],
 oT 64 72 (.call false 151) [61,62,63],
 mT 60 76 64,
 oT 65 77 (.extract 0) [60],
 oT 66 78 (.extract 1) [60],
 mT 12 79 65,
 mT 13 80 66])
 (.seq (.region [mT 68 81 0,
 mT 69 82 1,
 oT 70 83 (.load true 10) [5],
 oT 71 84 (.call false 394) [68,69,70],
 mT 67 88 71,
 oT 72 89 (.extract 0) [67],
 oT 73 90 (.extract 1) [67],
 mT 14 91 72,
 mT 15 92 73])
 (.seq (.region [mT 74 93 12,
 mT 75 94 14,
 oT 76 95 (.bin .eql) [74,75],
 mT 77 96 76,
 oG 78 97 .move [13] 77 true,
 oG 79 98 .move [15] 77 true,
 oG 80 99 (.binB false) [78,79] 77 true,
 ⟨(some 81),100,.pick,[.t 77,.t 80,.c (.bool false)],none⟩,
 mT 82 101 81,
 oG 83 102 .move [0] 82 true,
 oG 84 103 .move [1] 82 true,
 oG 85 104 (.load true 10) [5] 82 true,
 oG 86 105 (.call false 395) [83,84,85] 82 true,
 oG 87 109 .move [0] 82 true,
 oG 88 110 .move [1] 82 true,
 oG 89 111 (.load true 10) [5] 82 true,
 oG 90 112 (.call false 396) [87,88,89] 82 true,
 oG 91 116 (.call false 150) [86,90] 82 true,
 ⟨(some 92),120,.pick,[.t 82,.t 91,.c (.bool false)],none⟩,
 mT 6 121 92])
 (.ret)))))))
 [.tmp 6] 0 90
def f382.env:Env:=[(391,f391.C),(392,f392.C),(197,f197.C),(393,f393.C),(151,f151.C),(394,f394.C),(395,f395.C),(396,f396.C),(150,f150.C)]
def f382.tree (a:(List (aD))×(List (aF))×aE):Prop:=∃ c1:Unit,True∧Br (!(cN c1)) (∃ c4:Unit,True∧((cN c4)=(cN a))∧True) (f392.ent (fun c7=>(kT c7)∧Br (!(gS c7)) (∃ c10:Unit,True∧((cN c10)=(cN a))∧True) (∃ (I14:Int→Prop) (μ15:Int→Nat),(f382.l0 a I14 (0:Int))∧∀ y16:Int,I14 y16→(Br (decide (y16 < (a.1.length:Int))) (Br (decide ((0:Int)≤y16)&&decide (y16 < (a.1.length:Int))) (f197.ent (fun c20=>(dK c20)∧Br (decide ((0:Int)≤y16)&&decide (y16 < (a.1.length:Int))) (f393.ent (fun c22=>(dK c22)∧Br (((bN c20).1) != ((bN c22).1)) ((false=(cN a))∧True) (Br (!(((bN c20).2)==((bN c22).2))) ((false=(cN a))∧True) (Let (wI (y16+(1:Int))) (fun v29:Int=>f382.l0 a (Dn I14 μ15 y16) v29)))) ((at_ a.1 y16),a.2.1,a.2.2)) False) ((at_ a.1 y16),a.2.1,a.2.2)) False) (f151.ent (fun c43=>(cA c43)∧f394.ent (fun c44=>(cA c44)∧Br (((dI c43).1).toList==((dI c44).1).toList) (Br (((dI c43).2)==((dI c44).2)) (f395.ent (fun c49=>(cA c49)∧f396.ent (fun c50=>(cA c50)∧f150.ent (fun c51=>(n7 c51)∧((hZ c51)=(cN a))∧True) ((cU c49),(cU c50))) (a.1,a.2.1,a.2.2)) (a.1,a.2.1,a.2.2)) ((false=(cN a))∧True)) ((false=(cN a))∧True)) (a.1,a.2.1,a.2.2)) (a.1,a.2.1,a.2.2))))) (a.1,a.2.1,a.2.2))
def f382.vc (a:(List (aD))×(List (aF))×aE):Prop:=((¬((cN ())=true)→((cN ())=cN a))∧(¬(¬((cN ())=true))→(kT (a.1,a.2.1,a.2.2)∧((¬((gS (a.1,a.2.1,a.2.2))=true)→((cN ())=cN a))∧(¬(¬((gS (a.1,a.2.1,a.2.2))=true))→(∃ (I14:Int→Prop) (μ15:Int→Nat),I14 (0:Int)∧∀ y16:Int,I14 y16→((y16 < (a.1.length:Int)→((0:Int)≤y16∧y16 < (a.1.length:Int)∧(dK ((at_ a.1 y16),a.2.1,a.2.2)∧((0:Int)≤y16∧y16 < (a.1.length:Int)∧(dK ((at_ a.1 y16),a.2.1,a.2.2)∧((¬((bN ((at_ a.1 y16),a.2.1,a.2.2)).1)=((bN ((at_ a.1 y16),a.2.1,a.2.2)).1)→(false=cN a))∧(¬(¬((bN ((at_ a.1 y16),a.2.1,a.2.2)).1)=((bN ((at_ a.1 y16),a.2.1,a.2.2)).1))→(((!(((bN ((at_ a.1 y16),a.2.1,a.2.2)).2)==((bN ((at_ a.1 y16),a.2.1,a.2.2)).2)))=true→(false=cN a))∧(¬((!(((bN ((at_ a.1 y16),a.2.1,a.2.2)).2)==((bN ((at_ a.1 y16),a.2.1,a.2.2)).2)))=true)→(-9223372036854775808≤(y16+(1:Int))∧(y16+(1:Int))≤9223372036854775807∧(I14 (y16+(1:Int))∧μ15 (y16+(1:Int)) < μ15 y16)))))))))))∧(¬(y16 < (a.1.length:Int))→(cA (a.1,a.2.1,a.2.2)∧(cA (a.1,a.2.1,a.2.2)∧((((dI (a.1,a.2.1,a.2.2)).1)=((dI (a.1,a.2.1,a.2.2)).1)→(((((dI (a.1,a.2.1,a.2.2)).2)==((dI (a.1,a.2.1,a.2.2)).2))=true→(cA (a.1,a.2.1,a.2.2)∧(cA (a.1,a.2.1,a.2.2)∧(n7 ((cU (a.1,a.2.1,a.2.2)),(cU (a.1,a.2.1,a.2.2)))∧((hZ ((cU (a.1,a.2.1,a.2.2)),(cU (a.1,a.2.1,a.2.2))))=cN a)))))∧(¬((((dI (a.1,a.2.1,a.2.2)).2)==((dI (a.1,a.2.1,a.2.2)).2))=true)→(false=cN a))))∧(¬(((dI (a.1,a.2.1,a.2.2)).1)=((dI (a.1,a.2.1,a.2.2)).1))→(false=cN a)))))))))))))
theorem f382.of (a:(List (aD))×(List (aF))×aE) (h:f382.vc a):f382.tree a:=⟨(),⟨trivial,br h (Cnd.not Cnd.b) (fun h2 k72=>⟨(),⟨trivial,⟨k72,trivial⟩⟩⟩) (fun h3 k73=>(f392.ei ⟨k73.1,br k73.2 (Cnd.not Cnd.b) (fun h8 k69=>⟨(),⟨trivial,⟨k69,trivial⟩⟩⟩) (fun h9 k70=>Exists.elim k70 (fun I14 h66_=>Exists.elim h66_ (fun μ15 h66=>⟨I14,μ15,(f382.l0i a h66.1),fun y16 h68=>br (h66.2 y16 h68) Cnd.dec (fun h17 k64=>chk k64.2.2 Cnd.ix ⟨k64.1,k64.2.1⟩ (fun h19 k42=>(f197.ei ⟨k42.1,chk k42.2.2.2 Cnd.ix ⟨k42.2.1,k42.2.2.1⟩ (fun h21 k40=>(f393.ei ⟨k40.1,br k40.2 Cnd.ne (fun h23 k37=>⟨k37,trivial⟩) (fun h24 k38=>br k38 Cnd.b (fun h26 k35=>⟨k35,trivial⟩) (fun h27 k36=>wrapK.i64 k36 (fun h32 h33 k34=>(f382.l0i a k34))))⟩))⟩))) (fun h18 k65=>(f151.ei ⟨k65.1,(f394.ei ⟨k65.2.1,br k65.2.2 Cnd.seq (fun h45 k60=>br k60 Cnd.b (fun h47 k57=>(f395.ei ⟨k57.1,(f396.ei ⟨k57.2.1,(f150.ei ⟨k57.2.2.1,⟨k57.2.2.2,trivial⟩⟩)⟩)⟩)) (fun h48 k58=>⟨k58,trivial⟩)) (fun h46 k61=>⟨k61,trivial⟩)⟩)⟩))⟩)))⟩))⟩⟩
theorem f382.eq (a:(List (aD))×(List (aF))×aE):(f382.af a).gives f382.env (f382.args a) (f382.blks a) (f382.res a) (f382.blks' a)=f382.tree a:=by kernel_rfl
theorem aFV {l:List cO} {jobs:List dW} {t:cJ} (hl:d5.size l≤1048576) (hj:fX.size jobs≤1048576) (ht:fB.size t≤1048576):cA (l,jobs,t)∧kT (l,jobs,t):=by
 have h2:(l.map eG.size).sum+1=d5.size l:=rfl
 have h3:=zD eG.size (fun x=>Nat.le_add_left 1 _) l
 have hj:=y9 (l:=jobs) hj
 have htt:=zR (t:=t) ht
 have hw:=wK (t:=t) ht
 have hm:∀ m∈l,fJ m.1∧L20 m.1.2.2:=fun m hm=>zQ (by
  have h1:eG.size m≤(l.map eG.size).sum:=aE0 _ hm
  omega)
 have hl20:l.length≤1048576:=by omega
 exact ⟨⟨hl20,fun m hx=>⟨hj,(hm m hx).1,htt,(hm m hx).2,hw⟩⟩,hl20,hj,hw,fun m hx=>⟨(hm m hx).1.1,(hm m hx).2⟩⟩
theorem f391.ok (a:Unit) (_:True):f391.vc a:=by
 have e1:dI ([((f391.s0,((4:Int),(4:Int),(4:Int)),[]),true,(0:Int))],[],(f391.s1,f391.s2,(0:Int),((0:Int),(0:Int),(0:Int)),[],ByteArray.empty,ByteArray.empty,(0:Int)))=(f391.s0,true):=by decide +kernel
 unfold f391.vc
 rw [e1]
 refine ⟨⟨Nat.le_of_ble_eq_true rfl,fun m hm=>?_⟩,fun _=>rfl,fun c=>absurd rfl c⟩
 rw [List.mem_singleton.1 hm]
 refine ⟨Nat.le_of_ble_eq_true rfl,⟨?_,?_⟩,⟨?_,?_,?_,?_,?_⟩,Nat.le_of_ble_eq_true rfl,Nat.le_of_ble_eq_true rfl⟩ <;> first | exact Nat.le_of_ble_eq_true rfl | exact fun x hx=>absurd hx List.not_mem_nil
theorem aCV (l:List ByteArray):hZ (l,l)=true:=decide_eq_true rfl
theorem qO {a:List cO×List dW×cJ} (h:L20 a.1):L20 (cU a):=by
 have:=zH a
 unfold L20 at *
 rw [vO]
 omega
theorem f382.ok (a:List cO×List dW×cJ) (h:f382.lpre a):f382.vc a:=by
 obtain ⟨_,hs⟩:=h
 obtain ⟨l,jobs,t⟩:=a
 have hs:d5.size l+(fX.size jobs+fB.size t)≤1048576:=hs
 obtain ⟨hc,hf⟩:=aFV (l:=l) (jobs:=jobs) (t:=t) (by omega) (by omega) (by omega)
 have h1:l.length≤1048576:=hc.1
 refine ⟨fun _=>rfl,fun _=>⟨hf,fun _=>rfl,fun _=>⟨fun y=>0≤y∧y≤(l.length:Int),fun y=>l.length - y.toNat,⟨by omega,by omega⟩,fun y hy=>?_⟩⟩⟩
 obtain ⟨g0,g1⟩:=hy
 simp only
 refine ⟨fun hlt=>?_,fun hge=>⟨hc,hc,fun _=>⟨fun _=>⟨hc,hc,⟨qO hc.1,qO hc.1⟩,aCV _⟩,fun c=>absurd (beq_self_eq_true _) c⟩,fun c=>absurd trivial c⟩⟩
 have hw:dK (at_ l y,jobs,t):=hc.2 _ (kX (l:=l) (i:=y.toNat) (by omega))
 refine ⟨g0,hlt,hw,g0,hlt,hw,fun c=>absurd trivial c,fun _=>⟨fun c=>?_,fun _=>⟨by omega,by omega,⟨by omega,by omega⟩,by omega⟩⟩⟩
 rw [beq_self_eq_true] at c
 cases c
end Go.Abs
