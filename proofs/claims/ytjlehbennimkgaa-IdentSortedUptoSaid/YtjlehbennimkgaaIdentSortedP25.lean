/- Functions, and what the code asks of them: PIdentLaw. -/
import Derived.KernelRfl
import Derived.Test.YtjlehbennimkgaaIdentSortedP4
import Derived.Test.YtjlehbennimkgaaIdentSortedP5
import Derived.Test.YtjlehbennimkgaaIdentSortedP6
import Derived.Test.YtjlehbennimkgaaIdentSortedP7
import Derived.Test.YtjlehbennimkgaaIdentSortedP8
import Derived.Test.YtjlehbennimkgaaIdentSortedP9
import Derived.Test.YtjlehbennimkgaaIdentSortedP10
import Derived.Test.YtjlehbennimkgaaIdentSortedP11
import Derived.Test.YtjlehbennimkgaaIdentSortedP12
import Derived.Test.YtjlehbennimkgaaIdentSortedP13
import Derived.Test.YtjlehbennimkgaaIdentSortedP14
import Derived.Test.YtjlehbennimkgaaIdentSortedP15
import Derived.Test.YtjlehbennimkgaaIdentSortedP16
import Derived.Test.YtjlehbennimkgaaIdentSortedP17
import Derived.Test.YtjlehbennimkgaaIdentSortedP20
import Derived.Test.YtjlehbennimkgaaIdentSortedP21
import Derived.Test.YtjlehbennimkgaaIdentSortedP22
import Derived.Test.YtjlehbennimkgaaIdentSortedP23
import Derived.Test.YtjlehbennimkgaaIdentSortedP24
set_option maxRecDepth 100000
set_option maxHeartbeats 4000000
set_option linter.unusedVariables false
set_option linter.unusedSimpArgs false
-- interregnum/interregnumlaw04.awake
namespace Go.Abs
open Go
def f383.args (a:Unit):List D:=[]
def f383.blks (a:Unit):List (List D):=[]
def f383.res (a:Unit):List D:=[.bool (bJ a)]
def f383.blks' (a:Unit):List (List D):=[]
def f383.C:aL:=FnC f383.args f383.blks (fun _=>True) f383.res f383.blks'
set_option linter.unusedVariables false
def f383.s0:ByteArray:=⟨#[98]⟩
def f383.s1:ByteArray:=⟨#[49]⟩
def f383.s2:ByteArray:=⟨#[97]⟩
def f383.s3:ByteArray:=⟨#[50]⟩
def f383.s4:ByteArray:=⟨#[103,112,117,45,49]⟩
def f383.kills (a:Unit):List Hint:=[]
def f383.cuts (a:Unit):List (Nat×Σ β:Type,β→Tm):=[]
def f383.af (a:Unit):AF:=AF.mk (.seq (.region [⟨(some 0),0,.move,[.c (.bool false)],none⟩])
 (.seq (.region [⟨(some 2),1,(.build [.str ByteArray.empty,.str ByteArray.empty] [(0,1),(1,1)]),[.c (.str f383.s0),.c (.str f383.s1)],none⟩,
 ⟨(some 3),2,(.build [.str ByteArray.empty,.str ByteArray.empty] [(0,1),(1,1)]),[.c (.str f383.s2),.c (.str f383.s3)],none⟩,
 oT 4 3 (.buildSlice 2 2 [.str ByteArray.empty,.str ByteArray.empty] [(0,2),(2,2)]) [2,3],
 oT 5 4 (.call false 385) [4],
 oT 1 8 .move [5]])
 (.seq (.region [⟨(some 6),9,(.call false 48),[.c (.str f383.s4)],none⟩,
 oT 7 13 .move [6],
 oG 8 14 .move [1] 7 true,
 oG 9 15 (.len false) [8] 7 true,
 ⟨(some 10),16,(.bin .eql),[.t 9,.c (.int .i64 (2))],(some (7,true))⟩,
 ⟨(some 11),17,.pick,[.t 7,.t 10,.c (.bool false)],none⟩,
 oT 12 18 .move [11],
 oG 13 19 .move [1] 12 true,
 ⟨(some 14),20,(.indexAddr 2 none),[.t 13,.c (.int .i64 (0))],(some (12,true))⟩,
 oG 15 21 (.fieldAddr 0) [14] 12 true,
 oG 16 22 (.load false 1) [15] 12 true,
 ⟨(some 17),23,(.bin .eql),[.t 16,.c (.str f383.s2)],(some (12,true))⟩,
 ⟨(some 18),24,.pick,[.t 12,.t 17,.c (.bool false)],none⟩,
 oT 19 25 .move [18],
 oG 20 26 .move [1] 19 true,
 oG 21 27 (.call false 50) [20] 19 true,
 ⟨(some 22),31,.pick,[.t 19,.t 21,.c (.bool false)],none⟩,
 oT 0 32 .move [22]])
 (.ret))))
 [.tmp 0] 0 23
def f383.env:Env:=[(385,f385.C),(48,f48.C),(50,f50.C)]
def f383.tree (a:Unit):Prop:=∃ c1:List (aB),SlQ 2 c1.length (fun j=>List.take 2 (List.drop (j * 2) [.str f383.s0,.str f383.s1,.str f383.s2,.str f383.s3])) (gl aD c1) ((L20 c1)∧∃ c2:ByteArray,(f383.s4=c2)∧(dA c2)∧Br (cB c2) (Br (((aT c1).length:Int)==(2:Int)) (Br (decide ((0:Int)≤(0:Int))&&decide ((0:Int) < ((aT c1).length:Int))) (Br (((at_ (aT c1) (0:Int)).1).toList==f383.s2.toList) (f50.ent (fun c10=>(eM c10)∧((b7 c10)=(bJ a))∧True) (aT c1)) ((false=(bJ a))∧True)) False) ((false=(bJ a))∧True)) ((false=(bJ a))∧True))
def f383.vc (a:Unit):Prop:=(L20 ([(f383.s0,f383.s1),(f383.s2,f383.s3)])∧(dA f383.s4∧(((cB (f383.s4))=true→((((aT ([(f383.s0,f383.s1),(f383.s2,f383.s3)])).length:Int)=(2:Int)→((0:Int) < ((aT ([(f383.s0,f383.s1),(f383.s2,f383.s3)])).length:Int)∧((((at_ (aT ([(f383.s0,f383.s1),(f383.s2,f383.s3)])) (0:Int)).1)=f383.s2→(eM (aT ([(f383.s0,f383.s1),(f383.s2,f383.s3)]))∧((b7 (aT ([(f383.s0,f383.s1),(f383.s2,f383.s3)])))=bJ a)))∧(¬(((at_ (aT ([(f383.s0,f383.s1),(f383.s2,f383.s3)])) (0:Int)).1)=f383.s2)→(false=bJ a)))))∧(¬(((aT ([(f383.s0,f383.s1),(f383.s2,f383.s3)])).length:Int)=(2:Int))→(false=bJ a))))∧(¬((cB (f383.s4))=true)→(false=bJ a)))))
theorem f383.of (a:Unit) (h:f383.vc a):f383.tree a:=⟨[(f383.s0,f383.s1),(f383.s2,f383.s3)],slQ (Rds.row (enc:=aD) ⟨rfl,fun i hi=>by repeat (first | rfl | exact absurd hi (Nat.not_lt.2 (Nat.le_add_left 2 _)) | (cases i with | zero=>rfl | succ i=>?_))⟩) (⟨h.1,⟨f383.s4,⟨rfl,⟨h.2.1,br h.2.2 Cnd.b (fun h3 k21=>br k21 Cnd.eq (fun h5 k18=>chk k18.2 Cnd.ix ⟨(by decide),k18.1⟩ (fun h7 k16=>br k16 Cnd.seq (fun h8 k14=>(f50.ei ⟨k14.1,⟨k14.2,trivial⟩⟩)) (fun h9 k15=>⟨k15,trivial⟩))) (fun h6 k19=>⟨k19,trivial⟩)) (fun h4 k22=>⟨k22,trivial⟩)⟩⟩⟩⟩)⟩
theorem f383.eq (a:Unit):(f383.af a).gives f383.env (f383.args a) (f383.blks a) (f383.res a) (f383.blks' a)=f383.tree a:=by kernel_rfl
set_option linter.unusedVariables false
def f375.wf (a:List (aB)):Prop:=cE.ok a
def f375.size (a:List (aB)):Nat:=cE.size a
def f375.lpre (a:List (aB)):Prop:=f375.wf a∧f375.size a≤1048576
def f375.args (a:List (aB)):List D:=[.slice .ro 2 a.length (gl aD a)]
def f375.blks (a:List (aB)):List (List D):=[]
def f375.res (a:List (aB)):List D:=[.bool (bJ a)]
def f375.blks' (a:List (aB)):List (List D):=[]
def f375.C:aL:=FnC f375.args f375.blks (fun a=>f375.lpre a) f375.res f375.blks'
def f375.S0 (a:List (aB)) (x:(List (aB))×Bool×Int×Int):Tm:=⟨[.slice .ro 2 a.length (gl aD a),.dead,.dead,.slice .ro 2 x.1.length (gl aD x.1),.bool x.2.1,.dead,.dead,.dead,.dead,.dead,.dead,.dead,.dead,.dead,.dead,.dead,.dead,.dead,.dead,.dead,.dead,.dead,.dead,.dead,.dead,.dead,.dead,.dead,.dead,.dead,.dead,.dead,.dead,.dead,.dead,.dead,.dead,.int .i64 x.2.2.1,.int .i64 x.2.2.2,.dead,.dead,.dead,.dead,.dead,.dead,.dead,.dead,.dead,.dead,.dead,.dead,.dead,.dead,.dead,.dead,.dead,.dead,.dead,.dead,.dead,.dead,.dead,.dead,.dead,.dead,.dead,.dead,.dead,.dead,.dead,.dead,.dead,.dead,.dead,.dead,.dead,.dead,.dead,.dead,.dead,.dead,.dead,.dead,.dead,.dead,.dead,.dead,.dead,.dead,.dead,.dead,.dead,.dead,.dead,.dead,.dead,.dead,.dead,.dead,.dead,.dead,.dead,.dead,.dead,.dead,.dead,.dead,.dead,.dead,.dead,.dead,.dead,.dead,.dead,.dead,.dead,.dead,.dead,.dead,.dead,.dead,.dead,.dead,.dead,.dead,.dead,.dead,.dead,.dead,.dead,.dead],[],[]⟩
def f375.S1 (a:List (aB)) (x:(List (aB))×Bool×Int):Tm:=⟨[.slice .ro 2 a.length (gl aD a),.dead,.dead,.slice .ro 2 x.1.length (gl aD x.1),.bool x.2.1,.dead,.dead,.dead,.dead,.dead,.dead,.dead,.dead,.dead,.dead,.dead,.dead,.dead,.dead,.dead,.dead,.dead,.dead,.dead,.dead,.dead,.dead,.dead,.dead,.dead,.dead,.dead,.dead,.dead,.dead,.dead,.dead,.dead,.dead,.dead,.dead,.dead,.dead,.dead,.dead,.dead,.dead,.dead,.dead,.dead,.dead,.dead,.dead,.dead,.dead,.dead,.dead,.dead,.dead,.dead,.dead,.dead,.dead,.dead,.dead,.dead,.dead,.dead,.dead,.dead,.dead,.dead,.dead,.dead,.dead,.dead,.int .i64 (a.length:Int),.int .i64 x.2.2,.dead,.dead,.dead,.dead,.dead,.dead,.dead,.dead,.dead,.dead,.dead,.dead,.dead,.dead,.dead,.dead,.dead,.dead,.dead,.dead,.dead,.dead,.dead,.dead,.dead,.dead,.dead,.dead,.dead,.dead,.dead,.dead,.dead,.dead,.dead,.dead,.dead,.dead,.dead,.dead,.dead,.dead,.dead,.dead,.dead,.dead,.dead,.dead,.dead,.dead,.dead,.dead,.dead],[],[]⟩
def f375.S2 (a:List (aB)) (x:(List (aB))×Bool×Int×Bool×Int×Int):Tm:=⟨[.slice .ro 2 a.length (gl aD a),.dead,.dead,.slice .ro 2 x.1.length (gl aD x.1),.bool x.2.1,.dead,.int .i64 x.2.2.1,.bool x.2.2.2.1,.int .i64 x.2.2.2.2.1,.dead,.dead,.dead,.dead,.dead,.dead,.dead,.dead,.dead,.dead,.dead,.dead,.dead,.dead,.dead,.dead,.dead,.dead,.dead,.dead,.dead,.dead,.dead,.dead,.dead,.dead,.dead,.dead,.dead,.dead,.dead,.dead,.dead,.dead,.dead,.dead,.dead,.dead,.dead,.dead,.dead,.dead,.dead,.dead,.dead,.dead,.dead,.dead,.dead,.dead,.dead,.dead,.dead,.dead,.dead,.dead,.dead,.dead,.dead,.dead,.dead,.dead,.dead,.dead,.dead,.dead,.dead,.int .i64 (a.length:Int),.int .i64 x.2.2.2.2.2,.dead,.dead,.dead,.dead,.dead,.dead,.dead,.dead,.dead,.dead,.dead,.dead,.dead,.dead,.dead,.dead,.dead,.dead,.dead,.dead,.dead,.dead,.dead,.dead,.dead,.dead,.dead,.dead,.dead,.dead,.dead,.dead,.dead,.dead,.dead,.dead,.dead,.dead,.dead,.dead,.dead,.dead,.dead,.dead,.dead,.dead,.dead,.dead,.dead,.dead,.dead,.dead,.dead],[],[]⟩
def f375.l0 (a:List (aB)) (K:((List (aB))×Bool×Int×Int)→Prop) (t:(List (aB))×Bool×Int×Int):Prop:=∃ x:(List (aB))×Bool×Int×Int,SlS aD a (SlQ t.1.length x.1.length (gl aD t.1) (gl aD x.1) ((t.2.1=x.2.1)∧(t.2.2.1=x.2.2.1)∧(t.2.2.2=x.2.2.2)∧K x))
theorem f375.l0i (a:List (aB)) {K:((List (aB))×Bool×Int×Int)→Prop} {t:(List (aB))×Bool×Int×Int} (h:K t):f375.l0 a K t:=⟨t,SlS.mk  (slQ (rS aD) (⟨rfl,⟨rfl,⟨rfl,h⟩⟩⟩))⟩
def f375.s15 (a:List (aB)) (K:((List (aB))×Bool×Int×Int×Int)→Prop) (t:(List (aB))×Bool×Int×Int×Int):Prop:=∃ x:(List (aB))×Bool×Int×Int×Int,SlS aD a (SlQ t.1.length x.1.length (gl aD t.1) (gl aD x.1) ((t.2.1=x.2.1)∧(t.2.2.1=x.2.2.1)∧(t.2.2.2.1=x.2.2.2.1)∧(t.2.2.2.2=x.2.2.2.2)∧K x))
theorem f375.s15i (a:List (aB)) {K:((List (aB))×Bool×Int×Int×Int)→Prop} {t:(List (aB))×Bool×Int×Int×Int} (h:K t):f375.s15 a K t:=⟨t,SlS.mk  (slQ (rS aD) (⟨rfl,⟨rfl,⟨rfl,⟨rfl,h⟩⟩⟩⟩))⟩
def f375.l1 (a:List (aB)) (K:((List (aB))×Bool×Int)→Prop) (t:(List (aB))×Bool×Int):Prop:=∃ x:(List (aB))×Bool×Int,SlS aD a (SlQ t.1.length x.1.length (gl aD t.1) (gl aD x.1) ((t.2.1=x.2.1)∧((a.length:Int)=(a.length:Int))∧(t.2.2=x.2.2)∧K x))
theorem f375.l1i (a:List (aB)) {K:((List (aB))×Bool×Int)→Prop} {t:(List (aB))×Bool×Int} (h:K t):f375.l1 a K t:=⟨t,SlS.mk  (slQ (rS aD) (⟨rfl,⟨rfl,⟨rfl,h⟩⟩⟩))⟩
def f375.l2 (a:List (aB)) (K:((List (aB))×Bool×Int×Bool×Int×Int)→Prop) (t:(List (aB))×Bool×Int×Bool×Int×Int):Prop:=∃ x:(List (aB))×Bool×Int×Bool×Int×Int,SlS aD a (SlQ t.1.length x.1.length (gl aD t.1) (gl aD x.1) ((t.2.1=x.2.1)∧(t.2.2.1=x.2.2.1)∧(t.2.2.2.1=x.2.2.2.1)∧(t.2.2.2.2.1=x.2.2.2.2.1)∧((a.length:Int)=(a.length:Int))∧(t.2.2.2.2.2=x.2.2.2.2.2)∧K x))
theorem f375.l2i (a:List (aB)) {K:((List (aB))×Bool×Int×Bool×Int×Int)→Prop} {t:(List (aB))×Bool×Int×Bool×Int×Int} (h:K t):f375.l2 a K t:=⟨t,SlS.mk  (slQ (rS aD) (⟨rfl,⟨rfl,⟨rfl,⟨rfl,⟨rfl,⟨rfl,h⟩⟩⟩⟩⟩⟩))⟩
def f375.kills (a:List (aB)):List Hint:=[.tell ((List (aB))×Bool×Int×Int) (f375.S0 a),
 .tell ((List (aB))×Bool×Int) (f375.S1 a),
 .tell ((List (aB))×Bool×Int×Bool×Int×Int) (f375.S2 a)]
def f375.cuts (a:List (aB)):List (Nat×Σ β:Type,β→Tm):=[(100015,⟨(List (aB))×Bool×Int×Int×Int,fun x=>⟨[.slice .ro 2 a.length (gl aD a),.dead,.dead,.slice .ro 2 x.1.length (gl aD x.1),.bool x.2.1,.int .i64 x.2.2.1,.dead,.dead,.dead,.dead,.dead,.dead,.dead,.dead,.dead,.dead,.dead,.dead,.dead,.dead,.dead,.dead,.dead,.dead,.dead,.dead,.dead,.dead,.dead,.dead,.dead,.dead,.dead,.dead,.dead,.dead,.dead,.int .i64 x.2.2.2.1,.int .i64 x.2.2.2.2,.dead,.dead,.dead,.dead,.dead,.dead,.dead,.dead,.dead,.dead,.dead,.dead,.dead,.dead,.dead,.dead,.dead,.dead,.dead,.dead,.dead,.dead,.dead,.dead,.dead,.dead,.dead,.dead,.dead,.dead,.dead,.dead,.dead,.dead,.dead,.dead,.dead,.dead,.dead,.dead,.dead,.dead,.dead,.dead,.dead,.dead,.dead,.dead,.dead,.dead,.dead,.dead,.dead,.dead,.dead,.dead,.dead,.dead,.dead,.dead,.dead,.dead,.dead,.dead,.dead,.dead,.dead,.dead,.dead,.dead,.dead,.dead,.dead,.dead,.dead,.dead,.dead,.dead,.dead,.dead,.dead,.dead,.dead,.dead,.dead,.dead,.dead,.dead,.dead,.dead,.dead,.dead],[],[]⟩⟩)]
def f375.af (a:List (aB)):AF:=AF.mk (.seq (.region [⟨(some 2),0,.move,[.c (.bool false)],none⟩])
 (.seq (.seq (.region [oT 11 1 (.call false 383) [],
 oT 12 5 (.un .not) [11],
 oT 13 6 .move [12],
 oG 14 7 .move [0] 13 false,
 oG 15 8 (.call false 384) [14] 13 false,
 oG 16 12 (.un .not) [15] 13 false,
 ⟨(some 17),13,.pick,[.t 13,.c (.bool true),.t 16],none⟩])
 (.cond (.t 17) (.seq (.region [oT 18 14 (.call false 383) [],
 oT 2 18 .move [18]])
 (.ret)) (.skip)))
 (.seq (.region [oT 19 19 .move [0],
 oT 20 20 (.call false 385) [19],
 oT 3 24 .move [20]])
 (.seq (.seq (.region [oT 21 25 .move [3],
 oT 22 26 (.call false 385) [21],
 oT 23 30 .move [3],
 oT 24 31 (.call false 322) [22,23],
 oT 25 35 (.un .not) [24],
 oT 26 36 .move [25],
 oG 27 37 .move [3] 26 false,
 oG 28 38 (.len false) [27] 26 false,
 oG 29 39 .move [0] 26 false,
 oG 30 40 (.len false) [29] 26 false,
 oG 31 41 (.bin .gtr) [28,30] 26 false,
 ⟨(some 32),42,.pick,[.t 26,.c (.bool true),.t 31],none⟩])
 (.cond (.t 32) (.seq (.region [⟨(some 2),43,.move,[.c (.bool false)],none⟩])
 (.ret)) (.skip)))
 (.seq (.region [oT 33 44 .move [3],
 oT 34 45 (.len false) [33],
 ⟨(some 35),46,(.bin .leq),[.t 34,.c (.int .i64 (4))],none⟩,
 oT 4 47 .move [35]])
 (.seq (.seq (.region [oT 36 48 .move [3],
 oT 37 49 (.len false) [36],
 ⟨(some 38),50,.move,[.c (.int .i64 (0))],none⟩])
 (.block 0 (.loopT ((List (aB))×Bool×Int×Int) (f375.S0 a) 51 97 (.seq (.region [oT 39 51 (.bin .lss) [38,37]])
 (.seq (.cond (.t 39) (.skip) (.exit 0))
 (.seq (.block 1 (.seq (.region [oT 40 52 .move [38],
 oT 5 53 .move [40]])
 (.joinT ((List (aB))×Bool×Int×Int×Int) (fun x=>⟨[.slice .ro 2 a.length (gl aD a),.dead,.dead,.slice .ro 2 x.1.length (gl aD x.1),.bool x.2.1,.int .i64 x.2.2.1,.dead,.dead,.dead,.dead,.dead,.dead,.dead,.dead,.dead,.dead,.dead,.dead,.dead,.dead,.dead,.dead,.dead,.dead,.dead,.dead,.dead,.dead,.dead,.dead,.dead,.dead,.dead,.dead,.dead,.dead,.dead,.int .i64 x.2.2.2.1,.int .i64 x.2.2.2.2,.dead,.dead,.dead,.dead,.dead,.dead,.dead,.dead,.dead,.dead,.dead,.dead,.dead,.dead,.dead,.dead,.dead,.dead,.dead,.dead,.dead,.dead,.dead,.dead,.dead,.dead,.dead,.dead,.dead,.dead,.dead,.dead,.dead,.dead,.dead,.dead,.dead,.dead,.dead,.dead,.dead,.dead,.dead,.dead,.dead,.dead,.dead,.dead,.dead,.dead,.dead,.dead,.dead,.dead,.dead,.dead,.dead,.dead,.dead,.dead,.dead,.dead,.dead,.dead,.dead,.dead,.dead,.dead,.dead,.dead,.dead,.dead,.dead,.dead,.dead,.dead,.dead,.dead,.dead,.dead,.dead,.dead,.dead,.dead,.dead,.dead,.dead,.dead,.dead,.dead,.dead,.dead],[],[]⟩) (.region [oT 41 54 .move [4],
 oT 42 55 .move [41],
 oG 43 56 .move [3] 42 true,
 oG 44 57 .move [5] 42 true,
 oG 45 58 (.indexAddr 2 none) [43,44] 42 true,
 oG 46 59 (.fieldAddr 0) [45] 42 true,
 oG 47 60 (.load false 1) [46] 42 true,
 oG 48 61 (.call false 48) [47] 42 true,
 ⟨(some 49),65,.pick,[.t 42,.t 48,.c (.bool false)],none⟩,
 oT 50 66 .move [49],
 oG 51 67 .move [3] 50 true,
 oG 52 68 .move [5] 50 true,
 oG 53 69 (.indexAddr 2 none) [51,52] 50 true,
 oG 54 70 (.fieldAddr 1) [53] 50 true,
 oG 55 71 (.load false 1) [54] 50 true,
 oG 56 72 (.call false 48) [55] 50 true,
 ⟨(some 57),76,.pick,[.t 50,.t 56,.c (.bool false)],none⟩,
 oT 4 77 .move [57]])
 (.seq (.region [oT 58 78 .move [5],
 ⟨(some 59),79,(.bin .gtr),[.t 58,.c (.int .i64 (0))],none⟩,
 oT 60 80 .move [59],
 oG 61 81 .move [3] 60 true,
 oG 62 82 .move [5] 60 true,
 ⟨(some 63),83,(.bin .sub),[.t 62,.c (.int .i64 (1))],(some (60,true))⟩,
 oG 64 84 (.indexAddr 2 none) [61,63] 60 true,
 oG 65 85 (.fieldAddr 0) [64] 60 true,
 oG 66 86 (.load false 1) [65] 60 true,
 oG 67 87 .move [3] 60 true,
 oG 68 88 .move [5] 60 true,
 oG 69 89 (.indexAddr 2 none) [67,68] 60 true,
 oG 70 90 (.fieldAddr 0) [69] 60 true,
 oG 71 91 (.load false 1) [70] 60 true,
 oG 72 92 (.bin .geq) [66,71] 60 true,
 ⟨(some 73),93,.pick,[.t 60,.t 72,.c (.bool false)],none⟩])
 (.cond (.t 73) (.seq (.region [⟨(some 2),94,.move,[.c (.bool false)],none⟩])
 (.ret)) (.skip))))))
 (.region [⟨(some 74),95,(.bin .add),[.t 38,.c (.int .i64 (1))],none⟩,
 oT 38 96 .move [74]])))))))
 (.seq (.seq (.region [oT 75 97 .move [0],
 oT 76 98 (.len false) [75],
 ⟨(some 77),99,.move,[.c (.int .i64 (0))],none⟩])
 (.block 2 (.loopT ((List (aB))×Bool×Int) (f375.S1 a) 100 161 (.seq (.region [oT 78 100 (.bin .lss) [77,76]])
 (.seq (.cond (.t 78) (.skip) (.exit 2))
 (.seq (.block 3 (.seq (.region [oT 79 101 .move [77],
 oT 6 102 .move [79]])
 (.seq (.region [⟨(some 7),103,.move,[.c (.bool true)],none⟩])
 (.seq (.seq (.region [oT 80 104 .move [6],
 ⟨(some 81),105,(.bin .add),[.t 80,.c (.int .i64 (1))],none⟩,
 oT 8 106 .move [81]])
 (.block 4 (.loopT ((List (aB))×Bool×Int×Bool×Int×Int) (f375.S2 a) 107 129 (.seq (.seq (.region [oT 82 107 .move [8],
 oT 83 108 .move [0],
 oT 84 109 (.len false) [83],
 oT 85 110 (.bin .lss) [82,84]])
 (.cond (.t 85) (.skip) (.exit 4)))
 (.seq (.block 5 (.region [oT 88 111 .move [7],
 oT 89 112 .move [88],
 oG 90 113 .move [0] 89 true,
 oG 91 114 .move [8] 89 true,
 oG 92 115 (.indexAddr 2 none) [90,91] 89 true,
 oG 93 116 (.fieldAddr 0) [92] 89 true,
 oG 94 117 (.load false 1) [93] 89 true,
 oG 95 118 .move [0] 89 true,
 oG 96 119 .move [6] 89 true,
 oG 97 120 (.indexAddr 2 none) [95,96] 89 true,
 oG 98 121 (.fieldAddr 0) [97] 89 true,
 oG 99 122 (.load false 1) [98] 89 true,
 oG 100 123 (.bin .neq) [94,99] 89 true,
 ⟨(some 101),124,.pick,[.t 89,.t 100,.c (.bool false)],none⟩,
 oT 7 125 .move [101]]))
 (.region [oT 86 126 .move [8],
 ⟨(some 87),127,(.bin .add),[.t 86,.c (.int .i64 (1))],none⟩,
 oT 8 128 .move [87]]))))))
 (.seq (.region [oT 103 129 .move [3],
 oT 104 130 .move [0],
 oT 105 131 .move [6],
 oT 106 132 (.indexAddr 2 none) [104,105],
 oT 107 133 (.fieldAddr 0) [106],
 oT 108 134 (.load false 1) [107],
 oT 109 135 (.call false 387) [103,108],
 oT 102 139 .move [109],
 oT 110 140 (.extract 0) [102],
 oT 111 141 (.extract 1) [102],
 oT 9 142 .move [110],
 oT 10 143 .move [111]])
 (.seq (.region [oT 112 144 .move [10],
 oT 113 145 (.un .not) [112],
 oT 114 146 .move [113],
 oG 115 147 .move [7] 114 false,
 oG 116 148 .move [115] 114 false,
 oG 117 149 .move [9] 116 true,
 oG 118 150 .move [0] 116 true,
 oG 119 151 .move [6] 116 true,
 oG 120 152 (.indexAddr 2 none) [118,119] 116 true,
 oG 121 153 (.fieldAddr 1) [120] 116 true,
 oG 122 154 (.load false 1) [121] 116 true,
 oG 123 155 (.bin .neq) [117,122] 116 true,
 ⟨(some 124),156,.pick,[.t 116,.t 123,.c (.bool false)],(some (114,false))⟩,
 ⟨(some 125),157,.pick,[.t 114,.c (.bool true),.t 124],none⟩])
 (.cond (.t 125) (.seq (.region [⟨(some 2),158,.move,[.c (.bool false)],none⟩])
 (.ret)) (.skip))))))))
 (.region [⟨(some 126),159,(.bin .add),[.t 77,.c (.int .i64 (1))],none⟩,
 oT 77 160 .move [126]])))))))
 (.seq (.region [oT 127 161 .move [3],
 oT 128 162 (.call false 50) [127],
 oT 129 166 .move [4],
 oT 130 167 (.binB false) [128,129],
 oT 2 168 .move [130]])
 (.ret)))))))))
 [.tmp 2] 0 130
def f375.env:Env:=[(383,f383.C),(384,f384.C),(385,f385.C),(322,f322.C),(48,f48.C),(387,f387.C),(50,f50.C)]
def f375.tree (a:List (aB)):Prop:=∃ c1:Unit,True∧Br (!(bJ c1)) (∃ c4:Unit,True∧((bJ c4)=(bJ a))∧True) (f384.ent (fun c7=>(lR c7)∧Br (!(oD c7)) (∃ c10:Unit,True∧((bJ c10)=(bJ a))∧True) (f385.ent (fun c13=>(L20 c13)∧f385.ent (fun c14=>(L20 c14)∧f322.ent (fun c15=>(aCI c15)∧Br (!(c9 c15)) ((false=(bJ a))∧True) (Br (decide ((a.length:Int) < ((aT c13).length:Int))) ((false=(bJ a))∧True) (∃ (I23:((List (aB))×Bool×Int×Int)→Prop) (μ24:((List (aB))×Bool×Int×Int)→Nat),(f375.l0 a I23 ((aT c13),decide (((aT c13).length:Int)≤(4:Int)),((aT c13).length:Int),(0:Int)))∧∀ y25:(List (aB))×Bool×Int×Int,I23 y25→(Br (decide (y25.2.2.2 < y25.2.2.1)) (∃ I28:((List (aB))×Bool×Int×Int×Int)→Prop,(Br y25.2.1 (Br (decide ((0:Int)≤y25.2.2.2)&&decide (y25.2.2.2 < (y25.1.length:Int))) (∃ c32:ByteArray,(((at_ y25.1 y25.2.2.2).1)=c32)∧(dA c32)∧Br (cB c32) (Br (decide ((0:Int)≤y25.2.2.2)&&decide (y25.2.2.2 < (y25.1.length:Int))) (∃ c36:ByteArray,(((at_ y25.1 y25.2.2.2).2)=c36)∧(dA c36)∧f375.s15 a I28 (y25.1,(cB c36),y25.2.2.2,y25.2.2.1,y25.2.2.2)) False) (f375.s15 a I28 (y25.1,false,y25.2.2.2,y25.2.2.1,y25.2.2.2))) False) (f375.s15 a I28 (y25.1,false,y25.2.2.2,y25.2.2.1,y25.2.2.2)))∧∀ y48:(List (aB))×Bool×Int×Int×Int,I28 y48→(Br (decide ((0:Int) < y48.2.2.1)) (Let (wI (y48.2.2.1 - (1:Int))) (fun v53:Int=>Br (decide ((0:Int)≤v53)&&decide (v53 < (y48.1.length:Int))) (Br (decide ((0:Int)≤y48.2.2.1)&&decide (y48.2.2.1 < (y48.1.length:Int))) (Br (!(Op.bytesLess ((at_ y48.1 v53).1).toList ((at_ y48.1 y48.2.2.1).1).toList)) ((false=(bJ a))∧True) (Let (wI (y48.2.2.2.2+(1:Int))) (fun v59:Int=>f375.l0 a (Dn I23 μ24 y25) (y48.1,y48.2.1,y48.2.2.2.1,v59)))) False) False)) (Let (wI (y48.2.2.2.2+(1:Int))) (fun v72:Int=>f375.l0 a (Dn I23 μ24 y25) (y48.1,y48.2.1,y48.2.2.2.1,v72))))) (∃ (I81:((List (aB))×Bool×Int)→Prop) (μ82:((List (aB))×Bool×Int)→Nat),(f375.l1 a I81 (y25.1,y25.2.1,(0:Int)))∧∀ y83:(List (aB))×Bool×Int,I81 y83→(Br (decide (y83.2.2 < (a.length:Int))) (Let (wI (y83.2.2+(1:Int))) (fun v86:Int=>∃ (I88:((List (aB))×Bool×Int×Bool×Int×Int)→Prop) (μ89:((List (aB))×Bool×Int×Bool×Int×Int)→Nat),(f375.l2 a I88 (y83.1,y83.2.1,y83.2.2,true,v86,y83.2.2))∧∀ y90:(List (aB))×Bool×Int×Bool×Int×Int,I88 y90→(Br (decide (y90.2.2.2.2.1 < (a.length:Int))) (Br y90.2.2.2.1 (Br (decide ((0:Int)≤y90.2.2.2.2.1)&&decide (y90.2.2.2.2.1 < (a.length:Int))) (Br (decide ((0:Int)≤y90.2.2.1)&&decide (y90.2.2.1 < (a.length:Int))) (Let (wI (y90.2.2.2.2.1+(1:Int))) (fun v97:Int=>f375.l2 a (Dn I88 μ89 y90) (y90.1,y90.2.1,y90.2.2.1,(!(((at_ a y90.2.2.2.2.1).1).toList==((at_ a y90.2.2.1).1).toList)),v97,y90.2.2.2.2.2))) False) False) (Let (wI (y90.2.2.2.2.1+(1:Int))) (fun v105:Int=>f375.l2 a (Dn I88 μ89 y90) (y90.1,y90.2.1,y90.2.2.1,false,v105,y90.2.2.2.2.2)))) (Br (decide ((0:Int)≤y90.2.2.1)&&decide (y90.2.2.1 < (a.length:Int))) (f387.ent (fun c114=>(aGT c114)∧Br (!((dK c114).2)) ((false=(bJ a))∧True) (Br y90.2.2.2.1 (Br (decide ((0:Int)≤y90.2.2.1)&&decide (y90.2.2.1 < (a.length:Int))) (Br (!(((dK c114).1).toList==((at_ a y90.2.2.1).2).toList)) ((false=(bJ a))∧True) (Let (wI (y90.2.2.2.2.2+(1:Int))) (fun v124:Int=>f375.l1 a (Dn I81 μ82 y83) (y90.1,y90.2.1,v124)))) False) (Let (wI (y90.2.2.2.2.2+(1:Int))) (fun v133:Int=>f375.l1 a (Dn I81 μ82 y83) (y90.1,y90.2.1,v133))))) (y90.1,(at_ a y90.2.2.1).1)) False)))) (f50.ent (fun c153=>(eM c153)∧(((b7 c153)==y83.2.1)=(bJ a))∧True) y83.1))))))) ((aT c14),(aT c13))) (aT c13)) a)) a)
def f375.vc (a:List (aB)):Prop:=((¬((bJ ())=true)→((bJ ())=bJ a))∧(¬(¬((bJ ())=true))→(lR a∧((¬((oD a)=true)→((bJ ())=bJ a))∧(¬(¬((oD a)=true))→(L20 a∧(L20 (aT a)∧(aCI ((aT (aT a)),(aT a))∧((¬((c9 ((aT (aT a)),(aT a)))=true)→(false=bJ a))∧(¬(¬((c9 ((aT (aT a)),(aT a)))=true))→(((a.length:Int) < ((aT a).length:Int)→(false=bJ a))∧(¬((a.length:Int) < ((aT a).length:Int))→(∃ (I23:((List (aB))×Bool×Int×Int)→Prop) (μ24:((List (aB))×Bool×Int×Int)→Nat),I23 ((aT a),decide (((aT a).length:Int)≤(4:Int)),((aT a).length:Int),(0:Int))∧∀ y25:(List (aB))×Bool×Int×Int,I23 y25→((y25.2.2.2 < y25.2.2.1→(∃ I28:((List (aB))×Bool×Int×Int×Int)→Prop,(((y25.2.1=true→((0:Int)≤y25.2.2.2∧y25.2.2.2 < (y25.1.length:Int)∧(dA ((at_ y25.1 y25.2.2.2).1)∧(((cB ((at_ y25.1 y25.2.2.2).1))=true→((0:Int)≤y25.2.2.2∧y25.2.2.2 < (y25.1.length:Int)∧(dA ((at_ y25.1 y25.2.2.2).2)∧(I28 (y25.1,(cB ((at_ y25.1 y25.2.2.2).2)),y25.2.2.2,y25.2.2.1,y25.2.2.2)))))∧(¬((cB ((at_ y25.1 y25.2.2.2).1))=true)→(I28 (y25.1,false,y25.2.2.2,y25.2.2.1,y25.2.2.2)))))))∧(¬(y25.2.1=true)→(I28 (y25.1,false,y25.2.2.2,y25.2.2.1,y25.2.2.2)))))∧∀ y48:(List (aB))×Bool×Int×Int×Int,I28 y48→(((0:Int) < y48.2.2.1→(-9223372036854775808≤(y48.2.2.1 - (1:Int))∧(y48.2.2.1 - (1:Int))≤9223372036854775807∧((0:Int)≤(y48.2.2.1 - (1:Int))∧(y48.2.2.1 - (1:Int)) < (y48.1.length:Int)∧((0:Int)≤y48.2.2.1∧y48.2.2.1 < (y48.1.length:Int)∧((¬sLt ((at_ y48.1 (y48.2.2.1 - (1:Int))).1) ((at_ y48.1 y48.2.2.1).1)→(false=bJ a))∧(¬(¬sLt ((at_ y48.1 (y48.2.2.1 - (1:Int))).1) ((at_ y48.1 y48.2.2.1).1))→(-9223372036854775808≤(y48.2.2.2.2+(1:Int))∧(y48.2.2.2.2+(1:Int))≤9223372036854775807∧(I23 (y48.1,y48.2.1,y48.2.2.2.1,(y48.2.2.2.2+(1:Int)))∧μ24 (y48.1,y48.2.1,y48.2.2.2.1,(y48.2.2.2.2+(1:Int))) < μ24 y25))))))))∧(¬((0:Int) < y48.2.2.1)→(-9223372036854775808≤(y48.2.2.2.2+(1:Int))∧(y48.2.2.2.2+(1:Int))≤9223372036854775807∧(I23 (y48.1,y48.2.1,y48.2.2.2.1,(y48.2.2.2.2+(1:Int)))∧μ24 (y48.1,y48.2.1,y48.2.2.2.1,(y48.2.2.2.2+(1:Int))) < μ24 y25))))))∧(¬(y25.2.2.2 < y25.2.2.1)→(∃ (I81:((List (aB))×Bool×Int)→Prop) (μ82:((List (aB))×Bool×Int)→Nat),I81 (y25.1,y25.2.1,(0:Int))∧∀ y83:(List (aB))×Bool×Int,I81 y83→((y83.2.2 < (a.length:Int)→(-9223372036854775808≤(y83.2.2+(1:Int))∧(y83.2.2+(1:Int))≤9223372036854775807∧(∃ (I88:((List (aB))×Bool×Int×Bool×Int×Int)→Prop) (μ89:((List (aB))×Bool×Int×Bool×Int×Int)→Nat),I88 (y83.1,y83.2.1,y83.2.2,true,(y83.2.2+(1:Int)),y83.2.2)∧∀ y90:(List (aB))×Bool×Int×Bool×Int×Int,I88 y90→((y90.2.2.2.2.1 < (a.length:Int)→((y90.2.2.2.1=true→((0:Int)≤y90.2.2.2.2.1∧y90.2.2.2.2.1 < (a.length:Int)∧((0:Int)≤y90.2.2.1∧y90.2.2.1 < (a.length:Int)∧(-9223372036854775808≤(y90.2.2.2.2.1+(1:Int))∧(y90.2.2.2.2.1+(1:Int))≤9223372036854775807∧(I88 (y90.1,y90.2.1,y90.2.2.1,(!(((at_ a y90.2.2.2.2.1).1).toList==((at_ a y90.2.2.1).1).toList)),(y90.2.2.2.2.1+(1:Int)),y90.2.2.2.2.2)∧μ89 (y90.1,y90.2.1,y90.2.2.1,(!(((at_ a y90.2.2.2.2.1).1).toList==((at_ a y90.2.2.1).1).toList)),(y90.2.2.2.2.1+(1:Int)),y90.2.2.2.2.2) < μ89 y90)))))∧(¬(y90.2.2.2.1=true)→(-9223372036854775808≤(y90.2.2.2.2.1+(1:Int))∧(y90.2.2.2.2.1+(1:Int))≤9223372036854775807∧(I88 (y90.1,y90.2.1,y90.2.2.1,false,(y90.2.2.2.2.1+(1:Int)),y90.2.2.2.2.2)∧μ89 (y90.1,y90.2.1,y90.2.2.1,false,(y90.2.2.2.2.1+(1:Int)),y90.2.2.2.2.2) < μ89 y90)))))∧(¬(y90.2.2.2.2.1 < (a.length:Int))→((0:Int)≤y90.2.2.1∧y90.2.2.1 < (a.length:Int)∧(aGT (y90.1,(at_ a y90.2.2.1).1)∧((¬(((dK (y90.1,(at_ a y90.2.2.1).1)).2)=true)→(false=bJ a))∧(¬(¬(((dK (y90.1,(at_ a y90.2.2.1).1)).2)=true))→((y90.2.2.2.1=true→((0:Int)≤y90.2.2.1∧y90.2.2.1 < (a.length:Int)∧((¬(((dK (y90.1,(at_ a y90.2.2.1).1)).1)=((at_ a y90.2.2.1).2))→(false=bJ a))∧(¬(¬(((dK (y90.1,(at_ a y90.2.2.1).1)).1)=((at_ a y90.2.2.1).2)))→(-9223372036854775808≤(y90.2.2.2.2.2+(1:Int))∧(y90.2.2.2.2.2+(1:Int))≤9223372036854775807∧(I81 (y90.1,y90.2.1,(y90.2.2.2.2.2+(1:Int)))∧μ82 (y90.1,y90.2.1,(y90.2.2.2.2.2+(1:Int))) < μ82 y83))))))∧(¬(y90.2.2.2.1=true)→(-9223372036854775808≤(y90.2.2.2.2.2+(1:Int))∧(y90.2.2.2.2.2+(1:Int))≤9223372036854775807∧(I81 (y90.1,y90.2.1,(y90.2.2.2.2.2+(1:Int)))∧μ82 (y90.1,y90.2.1,(y90.2.2.2.2.2+(1:Int))) < μ82 y83)))))))))))))∧(¬(y83.2.2 < (a.length:Int))→(eM y83.1∧(((b7 (y83.1))==y83.2.1)=bJ a))))))))))))))))))))
theorem f375.of (a:List (aB)) (h:f375.vc a):f375.tree a:=⟨(),⟨trivial,br h (Cnd.not Cnd.b) (fun h2 k176=>⟨(),⟨trivial,⟨k176,trivial⟩⟩⟩) (fun h3 k177=>(f384.ei ⟨k177.1,br k177.2 (Cnd.not Cnd.b) (fun h8 k173=>⟨(),⟨trivial,⟨k173,trivial⟩⟩⟩) (fun h9 k174=>(f385.ei ⟨k174.1,(f385.ei ⟨k174.2.1,(f322.ei ⟨k174.2.2.1,br k174.2.2.2 (Cnd.not Cnd.b) (fun h16 k168=>⟨k168,trivial⟩) (fun h17 k169=>br k169 Cnd.dec (fun h19 k166=>⟨k166,trivial⟩) (fun h20 k167=>Exists.elim k167 (fun I23 h163_=>Exists.elim h163_ (fun μ24 h163=>⟨I23,μ24,(f375.l0i a h163.1),fun y25 h165=>br (h163.2 y25 h165) Cnd.dec (fun h26 k161=>Exists.elim k161 (fun I28 h50=>⟨I28,br h50.1 Cnd.b (fun h29 k46=>chk k46.2.2 Cnd.ix ⟨k46.1,k46.2.1⟩ (fun h31 k44=>⟨(at_ y25.1 y25.2.2.2).1,⟨rfl,⟨k44.1,br k44.2 Cnd.b (fun h33 k41=>chk k41.2.2 Cnd.ix ⟨k41.1,k41.2.1⟩ (fun h35 k39=>⟨(at_ y25.1 y25.2.2.2).2,⟨rfl,⟨k39.1,(f375.s15i a k39.2)⟩⟩⟩)) (fun h34 k42=>(f375.s15i a k42))⟩⟩⟩)) (fun h30 k47=>(f375.s15i a k47)),fun y48 h49=>br (h50.2 y48 h49) Cnd.dec (fun h51 k78=>wrapK.i64 k78 (fun h69 h70 k71=>chk k71.2.2 Cnd.ix ⟨k71.1,k71.2.1⟩ (fun h54 k68=>chk k68.2.2 Cnd.ix ⟨k68.1,k68.2.1⟩ (fun h55 k67=>br k67 (Cnd.not Cnd.sl_) (fun h56 k65=>⟨k65,trivial⟩) (fun h57 k66=>wrapK.i64 k66 (fun h62 h63 k64=>(f375.l0i a k64))))))) (fun h52 k79=>wrapK.i64 k79 (fun h75 h76 k77=>(f375.l0i a k77)))⟩)) (fun h27 k162=>Exists.elim k162 (fun I81 h158_=>Exists.elim h158_ (fun μ82 h158=>⟨I81,μ82,(f375.l1i a h158.1),fun y83 h160=>br (h158.2 y83 h160) Cnd.dec (fun h84 k156=>wrapK.i64 k156 (fun h150 h151 k152=>Exists.elim k152 (fun I88 h147_=>Exists.elim h147_ (fun μ89 h147=>⟨I88,μ89,(f375.l2i a h147.1),fun y90 h149=>br (h147.2 y90 h149) Cnd.dec (fun h91 k145=>br k145 Cnd.b (fun h93 k111=>chk k111.2.2 Cnd.ix ⟨k111.1,k111.2.1⟩ (fun h95 k104=>chk k104.2.2 Cnd.ix ⟨k104.1,k104.2.1⟩ (fun h96 k103=>wrapK.i64 k103 (fun h100 h101 k102=>(f375.l2i a k102))))) (fun h94 k112=>wrapK.i64 k112 (fun h108 h109 k110=>(f375.l2i a k110)))) (fun h92 k146=>chk k146.2.2 Cnd.ix ⟨k146.1,k146.2.1⟩ (fun h113 k144=>(f387.ei ⟨k144.1,br k144.2 (Cnd.not Cnd.b) (fun h115 k141=>⟨k141,trivial⟩) (fun h116 k142=>br k142 Cnd.b (fun h118 k139=>chk k139.2.2 Cnd.ix ⟨k139.1,k139.2.1⟩ (fun h120 k132=>br k132 (Cnd.not Cnd.seq) (fun h121 k130=>⟨k130,trivial⟩) (fun h122 k131=>wrapK.i64 k131 (fun h127 h128 k129=>(f375.l1i a k129))))) (fun h119 k140=>wrapK.i64 k140 (fun h136 h137 k138=>(f375.l1i a k138))))⟩)))⟩)))) (fun h85 k157=>(f50.ei ⟨k157.1,⟨k157.2,trivial⟩⟩))⟩)))⟩))))⟩)⟩)⟩))⟩))⟩⟩
theorem f375.eq (a:List (aB)):(f375.af a).gives f375.env (f375.args a) (f375.blks a) (f375.res a) (f375.blks' a)=f375.tree a:=by kernel_rfl
set_option linter.unusedVariables false
theorem f383.ok (a:Unit) (_:True):f383.vc a:=by
 have e:aT [(f383.s0,f383.s1),(f383.s2,f383.s3)]=[(f383.s2,f383.s3),(f383.s0,f383.s1)]:=by decide +kernel
 have e1:cB f383.s4=true:=by decide +kernel
 have e2:b7 [(f383.s2,f383.s3),(f383.s0,f383.s1)]=true:=by decide +kernel
 unfold f383.vc
 rw [e,e1,e2]
 refine ⟨Nat.le_of_ble_eq_true rfl,Nat.le_of_ble_eq_true rfl,fun _=>⟨fun _=>⟨(by decide),fun _=>⟨fun x hx=>?_,rfl⟩,fun c=>absurd rfl c⟩,fun c=>absurd rfl c⟩,fun c=>absurd rfl c⟩
 rcases List.mem_cons.1 hx with rfl | hx
 ·exact ⟨Nat.le_of_ble_eq_true rfl,Nat.le_of_ble_eq_true rfl⟩
 ·rw [List.mem_singleton.1 hx]
  exact ⟨Nat.le_of_ble_eq_true rfl,Nat.le_of_ble_eq_true rfl⟩
theorem y8 {l:List bG} (h:cE.size l≤1048576):lR l∧eM l∧L20 l:=by
 refine ⟨⟨qF h,fun x hx=>?_⟩,xG h,qF h⟩
 have h1:cJ.size x≤(l.map cJ.size).sum:=aCN _ hx
 have h2:(l.map cJ.size).sum+1≤1048576:=h
 have h3:x.1.size+1+(x.2.size+1)+1=cJ.size x:=rfl
 omega
theorem aBO {l:List bG} {x:bG} (h:x∈aT l):x∈l:=aAQ ((lF l x).1 h)
theorem aBH {l:List bG} (h:eM l):eM (aT l):=fun x hx=>h x (aBO hx)
theorem mO {l:List bG} (h:L20 l):L20 (aT l):=Nat.le_trans (qZ l) h
theorem aEL (l:List bG):c9 (l,l)=true:=decide_eq_true rfl
def aCC (S:List bG) (k:Nat):Bool:=decide (S.length≤4)&&(List.range k).all fun j=>cB (S.getD j default).1&&cB (S.getD j default).2
theorem aDS (S:List bG) (k:Nat):aCC S (k+1)=(aCC S k&&(cB (S.getD k default).1&&cB (S.getD k default).2)):=by
 unfold aCC
 rw [List.range_succ,List.all_append,List.all_cons,List.all_nil,Bool.and_true,Bool.and_assoc]
theorem aEH {S:List bG} (s:SK S):b7 S=aCC S S.length:=by
 rw [Bool.eq_iff_iff,iH]
 unfold aCC
 simp only [Bool.and_eq_true,decide_eq_true_eq,List.all_eq_true,List.mem_range]
 refine and_congr_right fun _=>forall_congr' fun i=>imp_congr_right fun hi=>?_
 rw [uY]
 refine ⟨fun ⟨h1,h2,_⟩=>⟨h1,h2⟩,fun ⟨h1,h2⟩=>⟨h1,h2,?_⟩⟩
 by_cases c:i=0
 ·exact .inl c
 ·exact .inr (j7.1 (aF5 s (by omega) hi))
theorem f375.ok (a:List bG) (h:f375.lpre a):f375.vc a:=by
 obtain ⟨_,hs⟩:=h
 have hs:cE.size a≤1048576:=hs
 obtain ⟨h1,h2,h3⟩:=y8 hs
 have hlen:=qZ a
 have sk:=nF a
 have hmem:=lF a
 have hpre:=aBH h2
 have h20:a.length≤1048576:=h3
 have hnm:=aEH sk
 refine ⟨fun _=>rfl,fun _=>⟨h1,fun _=>rfl,fun _=>⟨h3,mO h3,⟨mO (mO h3),mO h3⟩,fun c=>absurd ?_ c,fun _=>⟨fun c=>absurd hlen (by omega),fun _=>?_⟩⟩⟩⟩
 ·rw [aCF sk]
  exact aEL _
 ·generalize aT a=T at hlen sk hmem hpre hnm
  have hnp:∀ {i:Int},0≤i→i < (T.length:Int)→dA (at_ T i).1∧dA (at_ T i).2:=fun h0 h1=>hpre _ (sU h0 h1)
  refine ⟨fun y=>y.1=T∧y.2.2.1=(T.length:Int)∧0≤y.2.2.2∧y.2.2.2≤(T.length:Int)∧y.2.1=aCC T y.2.2.2.toNat,fun y=>T.length - y.2.2.2.toNat,⟨rfl,rfl,by simp only; omega,by simp only; omega,?_⟩,fun y hy=>?_⟩
  ·show decide ((T.length:Int)≤4)=(decide (T.length≤4)&&true)
   rw [Bool.and_true]
   exact decide_eq_decide.2 (by omega)
  obtain ⟨S,nm,n,i⟩:=y
  obtain ⟨e1,e2,e3,e4,e5⟩:=hy
  simp only at e1 e2 e3 e4 e5 ⊢
  subst e1; subst e2
  refine ⟨fun hlt=>?_,fun hge=>?_⟩
  ·have st:=aDS S i.toNat
   rw [← e5,show i.toNat+1=(i+1).toNat from by omega] at st
   refine ⟨fun y=>y.1=S∧y.2.2.1=i∧y.2.2.2.1=(S.length:Int)∧y.2.2.2.2=i∧y.2.1=aCC S (i+1).toNat,⟨fun c1=>⟨e3,hlt,(hnp e3 hlt).1,fun c2=>⟨e3,hlt,(hnp e3 hlt).2,rfl,rfl,rfl,rfl,?_⟩,fun c2=>⟨rfl,rfl,rfl,rfl,?_⟩⟩,fun c1=>⟨rfl,rfl,rfl,rfl,?_⟩⟩,fun y hy=>?_⟩
   ·rw [st,c1,show cB (S.getD i.toNat default).1=true from c2]
    rfl
   ·rw [st,show cB (S.getD i.toNat default).1=false from Bool.eq_false_iff.2 c2,Bool.false_and,Bool.and_false]
   ·rw [st,Bool.eq_false_iff.2 c1,Bool.false_and]
   ·obtain ⟨S',nm',i',n',j⟩:=y
    obtain ⟨f1,f2,f3,f4,f5⟩:=hy
    simp only at f1 f2 f3 f4 f5 ⊢
    subst f1; subst f2; subst f3; subst f4
    refine ⟨fun c=>⟨by omega,by omega,by omega,by omega,e3,hlt,fun d=>absurd (j7.1 (aF5 sk (i:=(j - 1).toNat) (j:=j.toNat) (by omega) (by omega))) d,fun _=>⟨by omega,by omega,⟨rfl,rfl,by omega,by omega,f5⟩,by omega⟩⟩,fun c=>⟨by omega,by omega,⟨rfl,rfl,by omega,by omega,f5⟩,by omega⟩⟩
  ·have e5:nm=b7 S:=by
    rw [hnm,e5]
    exact congrArg _ (by omega)
   clear hnm
   refine ⟨fun y=>y.1=S∧y.2.1=nm∧0≤y.2.2∧y.2.2≤(a.length:Int),fun y=>a.length - y.2.2.toNat,⟨rfl,rfl,by simp only; omega,by simp only; omega⟩,fun y hy=>?_⟩
   obtain ⟨S',nm',i⟩:=y
   obtain ⟨f1,f2,f3,f4⟩:=hy
   simp only at f1 f2 f3 f4 ⊢
   subst f1; subst f2
   refine ⟨fun hlt=>⟨by omega,by omega,?_⟩,fun hge=>⟨hpre,?_⟩⟩
   ·refine ⟨fun y=>y.1=S'∧y.2.1=nm'∧y.2.2.1=i∧y.2.2.2.2.2=i∧i+1≤y.2.2.2.2.1∧y.2.2.2.2.1≤(a.length:Int)∧(y.2.2.2.1=true→∀ j,i.toNat < j→j < y.2.2.2.2.1.toNat→(a.getD j default).1≠(a.getD i.toNat default).1),fun y=>a.length - y.2.2.2.2.1.toNat,⟨rfl,rfl,rfl,rfl,by simp only; omega,by simp only; omega,fun _ j h1 h2=>by simp only at h2; omega⟩,fun y hy=>?_⟩
    obtain ⟨S,nm,i',last,k,i2⟩:=y
    obtain ⟨g1,g2,g3,g4,g5,g6,g7⟩:=hy
    simp only at g1 g2 g3 g4 g5 g6 g7 ⊢
    subst g1; subst g2; subst g3; subst g4
    refine ⟨fun hk=>⟨fun cl=>⟨by omega,hk,f3,hlt,by omega,by omega,⟨rfl,rfl,rfl,rfl,by omega,by omega,fun cc j j1 j2=>?_⟩,by omega⟩,fun cl=>⟨by omega,by omega,⟨rfl,rfl,rfl,rfl,by omega,by omega,fun c=>by cases c⟩,by omega⟩⟩,fun hk=>?_⟩
    ·by_cases q:j=k.toNat
     ·rw [q]
      intro e
      rw [Bool.not_eq_true',beq_eq_false_iff_ne] at cc
      exact cc (congrArg ByteArray.toList e)
     ·exact g7 cl j j1 (by omega)
    ·have hin:at_ a i2∈a:=sU f3 hlt
     obtain ⟨v,hv⟩:=yL hin
     have hv2:((at_ a i2).1,v)∈S:=(hmem ((at_ a i2).1,v)).2 hv
     have hval:=aEZ sk hv2
     rw [hval]
     refine ⟨f3,hlt,Nat.le_trans hlen h20,fun c=>absurd rfl c,fun _=>⟨fun cl=>⟨f3,hlt,fun c=>absurd ?_ c,fun _=>⟨by omega,by omega,⟨rfl,rfl,by omega,by omega⟩,by omega⟩⟩,fun cl=>⟨by omega,by omega,⟨rfl,rfl,by omega,by omega⟩,by omega⟩⟩⟩
     have:=xD (l:=a) (i:=i2.toNat) (by omega) fun j j1 j2=>g7 cl j j1 (by omega)
     exact Option.some.inj (hv.symm.trans this)
   ·rw [e5,beq_self_eq_true]
    rfl
end Go.Abs
