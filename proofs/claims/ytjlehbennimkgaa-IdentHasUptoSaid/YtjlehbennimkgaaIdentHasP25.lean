/- Functions, and what the code asks of them: PIdentLaw. -/
import Derived.KernelRfl
import Derived.Test.YtjlehbennimkgaaIdentHasP4
import Derived.Test.YtjlehbennimkgaaIdentHasP5
import Derived.Test.YtjlehbennimkgaaIdentHasP6
import Derived.Test.YtjlehbennimkgaaIdentHasP7
import Derived.Test.YtjlehbennimkgaaIdentHasP8
import Derived.Test.YtjlehbennimkgaaIdentHasP9
import Derived.Test.YtjlehbennimkgaaIdentHasP10
import Derived.Test.YtjlehbennimkgaaIdentHasP11
import Derived.Test.YtjlehbennimkgaaIdentHasP12
import Derived.Test.YtjlehbennimkgaaIdentHasP13
import Derived.Test.YtjlehbennimkgaaIdentHasP14
import Derived.Test.YtjlehbennimkgaaIdentHasP15
import Derived.Test.YtjlehbennimkgaaIdentHasP16
import Derived.Test.YtjlehbennimkgaaIdentHasP17
import Derived.Test.YtjlehbennimkgaaIdentHasP20
import Derived.Test.YtjlehbennimkgaaIdentHasP21
import Derived.Test.YtjlehbennimkgaaIdentHasP22
import Derived.Test.YtjlehbennimkgaaIdentHasP23
import Derived.Test.YtjlehbennimkgaaIdentHasP24
set_option maxRecDepth 100000
set_option maxHeartbeats 4000000
set_option linter.unusedVariables false
set_option linter.unusedSimpArgs false
-- interregnum/interregnumlaw04.awake
namespace Go.Abs
open Go
def f383.args (a:Unit):List D:=[]
def f383.blks (a:Unit):List (List D):=[]
def f383.res (a:Unit):List D:=[.bool (bF a)]
def f383.blks' (a:Unit):List (List D):=[]
def f383.C:aL:=FnC f383.args f383.blks (fun _=>True) f383.res f383.blks'
set_option linter.unusedVariables false
def f383.s0:ByteArray:=⟨#[98]⟩
def f383.s1:ByteArray:=⟨#[49]⟩
def f383.s2:ByteArray:=⟨#[97]⟩
def f383.s3:ByteArray:=⟨#[50]⟩
def f383.s4:ByteArray:=⟨#[103,112,117,45,49]⟩
def f383.kills (a:Unit):List Hint:=[]
def f383.cuts (a:Unit):List (Nat×Σ β:Type,β→Tm):=[]
def f383.af (a:Unit):AF:=AF.mk (.seq (.region [⟨(some 0),0,.move,[.c (.bool false)],none⟩])
 (.seq (.region [⟨(some 2),1,(.build [.str ByteArray.empty,.str ByteArray.empty] [(0,1),(1,1)]),[.c (.str f383.s0),.c (.str f383.s1)],none⟩,
 ⟨(some 3),2,(.build [.str ByteArray.empty,.str ByteArray.empty] [(0,1),(1,1)]),[.c (.str f383.s2),.c (.str f383.s3)],none⟩,
 oT 4 3 (.buildSlice 2 2 [.str ByteArray.empty,.str ByteArray.empty] [(0,2),(2,2)]) [2,3],
 oT 5 4 (.call false 385) [4],
 oT 1 8 .move [5]])
 (.seq (.region [⟨(some 6),9,(.call false 48),[.c (.str f383.s4)],none⟩,
 oT 7 13 .move [6],
 oG 8 14 .move [1] 7 true,
 oG 9 15 (.len false) [8] 7 true,
 ⟨(some 10),16,(.bin .eql),[.t 9,.c (.int .i64 (2))],(some (7,true))⟩,
 ⟨(some 11),17,.pick,[.t 7,.t 10,.c (.bool false)],none⟩,
 oT 12 18 .move [11],
 oG 13 19 .move [1] 12 true,
 ⟨(some 14),20,(.indexAddr 2 none),[.t 13,.c (.int .i64 (0))],(some (12,true))⟩,
 oG 15 21 (.fieldAddr 0) [14] 12 true,
 oG 16 22 (.load false 1) [15] 12 true,
 ⟨(some 17),23,(.bin .eql),[.t 16,.c (.str f383.s2)],(some (12,true))⟩,
 ⟨(some 18),24,.pick,[.t 12,.t 17,.c (.bool false)],none⟩,
 oT 19 25 .move [18],
 oG 20 26 .move [1] 19 true,
 oG 21 27 (.call false 50) [20] 19 true,
 ⟨(some 22),31,.pick,[.t 19,.t 21,.c (.bool false)],none⟩,
 oT 0 32 .move [22]])
 (.ret))))
 [.tmp 0] 0 23
def f383.env:Env:=[(385,f385.C),(48,f48.C),(50,f50.C)]
def f383.tree (a:Unit):Prop:=∃ c1:List (aB),SlQ 2 c1.length (fun j=>List.take 2 (List.drop (j * 2) [.str f383.s0,.str f383.s1,.str f383.s2,.str f383.s3])) (gl aD c1) ((L20 c1)∧∃ c2:ByteArray,(f383.s4=c2)∧(f9 c2)∧Br (dE c2) (Br (((cE c1).length:Int)==(2:Int)) (Br (decide ((0:Int)≤(0:Int))&&decide ((0:Int) < ((cE c1).length:Int))) (Br (((at_ (cE c1) (0:Int)).1).toList==f383.s2.toList) (f50.ent (fun c10=>(fY c10)∧((b7 c10)=(bF a))∧True) (cE c1)) ((false=(bF a))∧True)) False) ((false=(bF a))∧True)) ((false=(bF a))∧True))
def f383.vc (a:Unit):Prop:=(L20 ([(f383.s0,f383.s1),(f383.s2,f383.s3)])∧(f9 f383.s4∧(((dE (f383.s4))=true→((((cE ([(f383.s0,f383.s1),(f383.s2,f383.s3)])).length:Int)=(2:Int)→((0:Int) < ((cE ([(f383.s0,f383.s1),(f383.s2,f383.s3)])).length:Int)∧((((at_ (cE ([(f383.s0,f383.s1),(f383.s2,f383.s3)])) (0:Int)).1)=f383.s2→(fY (cE ([(f383.s0,f383.s1),(f383.s2,f383.s3)]))∧((b7 (cE ([(f383.s0,f383.s1),(f383.s2,f383.s3)])))=bF a)))∧(¬(((at_ (cE ([(f383.s0,f383.s1),(f383.s2,f383.s3)])) (0:Int)).1)=f383.s2)→(false=bF a)))))∧(¬(((cE ([(f383.s0,f383.s1),(f383.s2,f383.s3)])).length:Int)=(2:Int))→(false=bF a))))∧(¬((dE (f383.s4))=true)→(false=bF a)))))
theorem f383.of (a:Unit) (h:f383.vc a):f383.tree a:=⟨[(f383.s0,f383.s1),(f383.s2,f383.s3)],slQ (Rds.row (enc:=aD) ⟨rfl,fun i hi=>by repeat (first | rfl | exact absurd hi (Nat.not_lt.2 (Nat.le_add_left 2 _)) | (cases i with | zero=>rfl | succ i=>?_))⟩) (⟨h.1,⟨f383.s4,⟨rfl,⟨h.2.1,br h.2.2 Cnd.b (fun h3 k21=>br k21 Cnd.eq (fun h5 k18=>chk k18.2 Cnd.ix ⟨(by decide),k18.1⟩ (fun h7 k16=>br k16 Cnd.seq (fun h8 k14=>(f50.ei ⟨k14.1,⟨k14.2,trivial⟩⟩)) (fun h9 k15=>⟨k15,trivial⟩))) (fun h6 k19=>⟨k19,trivial⟩)) (fun h4 k22=>⟨k22,trivial⟩)⟩⟩⟩⟩)⟩
theorem f383.eq (a:Unit):(f383.af a).gives f383.env (f383.args a) (f383.blks a) (f383.res a) (f383.blks' a)=f383.tree a:=by kernel_rfl
set_option linter.unusedVariables false
set_option linter.unusedVariables false
def f380.wf (a:(List (aB))×(List (aB))×(List (aB))):Prop:=bC.ok a.1∧bC.ok a.2.1∧bC.ok a.2.2
def f380.size (a:(List (aB))×(List (aB))×(List (aB))):Nat:=bC.size a.1+(bC.size a.2.1+(bC.size a.2.2))
def f380.lpre (a:(List (aB))×(List (aB))×(List (aB))):Prop:=f380.wf a∧f380.size a≤1048576
def f380.args (a:(List (aB))×(List (aB))×(List (aB))):List D:=[.slice .ro 2 a.1.length (gl aD a.1),.slice .ro 2 a.2.1.length (gl aD a.2.1),.slice .ro 2 a.2.2.length (gl aD a.2.2)]
def f380.blks (a:(List (aB))×(List (aB))×(List (aB))):List (List D):=[]
def f380.res (a:(List (aB))×(List (aB))×(List (aB))):List D:=[.bool (bF a)]
def f380.blks' (a:(List (aB))×(List (aB))×(List (aB))):List (List D):=[]
def f380.C:aL:=FnC f380.args f380.blks (fun a=>f380.lpre a) f380.res f380.blks'
def f380.S0 (a:(List (aB))×(List (aB))×(List (aB))) (x:Bool×Int):Tm:=⟨[.slice .ro 2 a.1.length (gl aD a.1),.slice .ro 2 a.2.1.length (gl aD a.2.1),.dead,.dead,.dead,.dead,.dead,.bool x.1,.dead,.dead,.dead,.dead,.dead,.dead,.dead,.dead,.dead,.dead,.dead,.dead,.dead,.dead,.dead,.dead,.dead,.dead,.dead,.dead,.dead,.dead,.dead,.dead,.dead,.dead,.dead,.dead,.dead,.dead,.dead,.dead,.dead,.dead,.dead,.dead,.dead,.dead,.dead,.dead,.dead,.dead,.dead,.dead,.dead,.dead,.dead,.dead,.dead,.dead,.int .i64 (a.2.1.length:Int),.int .i64 x.2,.dead,.dead,.dead,.dead,.dead,.dead,.dead,.dead,.dead,.dead,.dead,.dead,.dead,.dead,.dead,.dead,.dead,.dead,.dead,.dead,.dead,.dead,.dead,.dead,.dead,.dead,.dead,.dead,.dead,.dead,.dead],[],[]⟩
def f380.l0 (a:(List (aB))×(List (aB))×(List (aB))) (K:(Bool×Int)→Prop) (t:Bool×Int):Prop:=∃ x:Bool×Int,SlS aD a.1 (SlS aD a.2.1 ((t.1=x.1)∧((a.2.1.length:Int)=(a.2.1.length:Int))∧(t.2=x.2)∧K x))
theorem f380.l0i (a:(List (aB))×(List (aB))×(List (aB))) {K:(Bool×Int)→Prop} {t:Bool×Int} (h:K t):f380.l0 a K t:=⟨t,SlS.mk  (SlS.mk  (⟨rfl,⟨rfl,⟨rfl,h⟩⟩⟩))⟩
def f380.kills (a:(List (aB))×(List (aB))×(List (aB))):List Hint:=[.tell (Bool×Int) (f380.S0 a)]
def f380.cuts (a:(List (aB))×(List (aB))×(List (aB))):List (Nat×Σ β:Type,β→Tm):=[(100005,⟨Bool,fun x=>⟨[.slice .ro 2 a.1.length (gl aD a.1),.slice .ro 2 a.2.1.length (gl aD a.2.1),.dead,.dead,.dead,.dead,.dead,.dead,.dead,.dead,.dead,.dead,.dead,.dead,.dead,.dead,.dead,.dead,.dead,.dead,.dead,.dead,.dead,.dead,.dead,.dead,.dead,.dead,.dead,.dead,.dead,.dead,.dead,.dead,.dead,.dead,.dead,.dead,.dead,.dead,.dead,.dead,.dead,.dead,.dead,.dead,.dead,.dead,.dead,.dead,.dead,.dead,.dead,.bool x,.dead,.dead,.dead,.dead,.dead,.dead,.dead,.dead,.dead,.dead,.dead,.dead,.dead,.dead,.dead,.dead,.dead,.dead,.dead,.dead,.dead,.dead,.dead,.dead,.dead,.dead,.dead,.dead,.dead,.dead,.dead,.dead,.dead,.dead,.dead,.dead,.dead],[],[]⟩⟩)]
def f380.af (a:(List (aB))×(List (aB))×(List (aB))):AF:=AF.mk (.seq (.region [⟨(some 6),0,.move,[.c (.bool false)],none⟩])
 (.seq (.seq (.region [oT 11 1 (.call false 383) [],
 oT 12 5 (.un .not) [11],
 oT 13 6 .move [12],
 oG 14 7 .move [0] 13 false,
 oG 15 8 (.call false 384) [14] 13 false,
 oG 16 12 (.un .not) [15] 13 false,
 ⟨(some 17),13,.pick,[.t 13,.c (.bool true),.t 16],none⟩,
 oT 18 14 .move [17],
 oG 19 15 .move [1] 18 false,
 oG 20 16 (.call false 384) [19] 18 false,
 oG 21 20 (.un .not) [20] 18 false,
 ⟨(some 22),21,.pick,[.t 18,.c (.bool true),.t 21],none⟩,
 oT 23 22 .move [22],
 oG 24 23 .move [2] 23 false,
 oG 25 24 (.call false 384) [24] 23 false,
 oG 26 28 (.un .not) [25] 23 false,
 ⟨(some 27),29,.pick,[.t 23,.c (.bool true),.t 26],none⟩])
 (.cond (.t 27) (.seq (.region [oT 28 30 (.call false 383) [],
 oT 6 34 .move [28]])
 (.ret)) (.skip)))
 (.seq (.joinT Bool (fun x=>⟨[.slice .ro 2 a.1.length (gl aD a.1),.slice .ro 2 a.2.1.length (gl aD a.2.1),.dead,.dead,.dead,.dead,.dead,.dead,.dead,.dead,.dead,.dead,.dead,.dead,.dead,.dead,.dead,.dead,.dead,.dead,.dead,.dead,.dead,.dead,.dead,.dead,.dead,.dead,.dead,.dead,.dead,.dead,.dead,.dead,.dead,.dead,.dead,.dead,.dead,.dead,.dead,.dead,.dead,.dead,.dead,.dead,.dead,.dead,.dead,.dead,.dead,.dead,.dead,.bool x,.dead,.dead,.dead,.dead,.dead,.dead,.dead,.dead,.dead,.dead,.dead,.dead,.dead,.dead,.dead,.dead,.dead,.dead,.dead,.dead,.dead,.dead,.dead,.dead,.dead,.dead,.dead,.dead,.dead,.dead,.dead,.dead,.dead,.dead,.dead,.dead,.dead],[],[]⟩) (.region [oT 29 35 .move [0],
 oT 30 36 .move [0],
 oT 31 37 (.call false 124) [29,30],
 oT 32 41 (.un .not) [31],
 oT 33 42 .move [32],
 oG 34 43 .move [0] 33 false,
 ⟨(some 35),44,(.call false 124),[.t 34,.c (.slice .full 2 0 gG)],(some (33,false))⟩,
 oG 36 48 (.un .not) [35] 33 false,
 ⟨(some 37),49,.pick,[.t 33,.c (.bool true),.t 36],none⟩,
 oT 38 50 .move [37],
 oG 39 51 .move [0] 38 false,
 oG 40 52 .move [1] 38 false,
 oG 41 53 (.call false 124) [39,40] 38 false,
 oG 42 57 .move [41] 38 false,
 oG 43 58 .move [1] 42 true,
 oG 44 59 .move [2] 42 true,
 oG 45 60 (.call false 124) [43,44] 42 true,
 ⟨(some 46),64,.pick,[.t 42,.t 45,.c (.bool false)],(some (38,false))⟩,
 oG 47 65 .move [46] 38 false,
 oG 48 66 .move [0] 47 true,
 oG 49 67 .move [2] 47 true,
 oG 50 68 (.call false 124) [48,49] 47 true,
 oG 51 72 (.un .not) [50] 47 true,
 ⟨(some 52),73,.pick,[.t 47,.t 51,.c (.bool false)],(some (38,false))⟩,
 ⟨(some 53),74,.pick,[.t 38,.c (.bool true),.t 52],none⟩])
 (.cond (.t 53) (.seq (.region [⟨(some 6),75,.move,[.c (.bool false)],none⟩])
 (.ret)) (.skip)))
 (.seq (.seq (.region [oT 54 76 .move [0],
 oT 55 77 (.call false 50) [54],
 oT 56 81 (.un .not) [55]])
 (.cond (.t 56) (.seq (.region [⟨(some 6),82,.move,[.c (.bool true)],none⟩])
 (.ret)) (.skip)))
 (.seq (.region [⟨(some 7),83,.move,[.c (.bool true)],none⟩])
 (.seq (.seq (.region [oT 57 84 .move [1],
 oT 58 85 (.len false) [57],
 ⟨(some 59),86,.move,[.c (.int .i64 (0))],none⟩])
 (.block 0 (.loopT (Bool×Int) (f380.S0 a) 87 121 (.seq (.region [oT 60 87 (.bin .lss) [59,58]])
 (.seq (.cond (.t 60) (.skip) (.exit 0))
 (.seq (.block 1 (.seq (.region [oT 61 88 .move [59],
 oT 8 89 .move [61]])
 (.seq (.region [oT 63 90 .move [0],
 oT 64 91 .move [1],
 oT 65 92 .move [8],
 oT 66 93 (.indexAddr 2 none) [64,65],
 oT 67 94 (.fieldAddr 0) [66],
 oT 68 95 (.load false 1) [67],
 oT 69 96 (.call false 387) [63,68],
 oT 62 100 .move [69],
 oT 70 101 (.extract 0) [62],
 oT 71 102 (.extract 1) [62],
 oT 9 103 .move [70],
 oT 10 104 .move [71]])
 (.region [oT 72 105 .move [7],
 oT 73 106 .move [72],
 oG 74 107 .move [10] 73 true,
 ⟨(some 75),108,.pick,[.t 73,.t 74,.c (.bool false)],none⟩,
 oT 76 109 .move [75],
 oG 77 110 .move [9] 76 true,
 oG 78 111 .move [1] 76 true,
 oG 79 112 .move [8] 76 true,
 oG 80 113 (.indexAddr 2 none) [78,79] 76 true,
 oG 81 114 (.fieldAddr 1) [80] 76 true,
 oG 82 115 (.load false 1) [81] 76 true,
 oG 83 116 (.bin .eql) [77,82] 76 true,
 ⟨(some 84),117,.pick,[.t 76,.t 83,.c (.bool false)],none⟩,
 oT 7 118 .move [84]]))))
 (.region [⟨(some 85),119,(.bin .add),[.t 59,.c (.int .i64 (1))],none⟩,
 oT 59 120 .move [85]])))))))
 (.seq (.region [oT 86 121 .move [0],
 oT 87 122 .move [1],
 oT 88 123 (.call false 124) [86,87],
 oT 89 127 .move [7],
 oT 90 128 (.binB false) [88,89],
 oT 6 129 .move [90]])
 (.ret))))))))
 [.tmp 6] 0 88
def f380.env:Env:=[(383,f383.C),(384,f384.C),(124,f124.C),(50,f50.C),(387,f387.C)]
def f380.tree (a:(List (aB))×(List (aB))×(List (aB))):Prop:=∃ c1:Unit,True∧Br (!(bF c1)) (∃ c4:Unit,True∧((bF c4)=(bF a))∧True) (f384.ent (fun c7=>(eY c7)∧Br (!(jG c7)) (∃ c10:Unit,True∧((bF c10)=(bF a))∧True) (f384.ent (fun c13=>(eY c13)∧Br (!(jG c13)) (∃ c16:Unit,True∧((bF c16)=(bF a))∧True) (f384.ent (fun c19=>(eY c19)∧Br (!(jG c19)) (∃ c22:Unit,True∧((bF c22)=(bF a))∧True) (∃ I25:Bool→Prop,(f124.ent (fun c26=>(dY c26)∧Br (!(cA c26)) (∃ x29:Bool,SlS aD a.1 (SlS aD a.2.1 ((true=x29)∧I25 x29))) (∃ c30:(List (aB))×(List (aB)),SlQ a.1.length c30.1.length (gl aD a.1) (gl aD c30.1) (SlQ 0 c30.2.length gG (gl aD c30.2) ((dY c30)∧Br (!(cA c30)) (∃ x33:Bool,SlS aD a.1 (SlS aD a.2.1 ((true=x33)∧I25 x33))) (f124.ent (fun c34=>(dY c34)∧Br (cA c34) (f124.ent (fun c37=>(dY c37)∧Br (cA c37) (f124.ent (fun c40=>(dY c40)∧∃ x41:Bool,SlS aD a.1 (SlS aD a.2.1 (((!(cA c40))=x41)∧I25 x41))) (a.1,a.2.2)) (∃ x43:Bool,SlS aD a.1 (SlS aD a.2.1 ((false=x43)∧I25 x43)))) (a.2.1,a.2.2)) (∃ x47:Bool,SlS aD a.1 (SlS aD a.2.1 ((false=x47)∧I25 x47)))) (a.1,a.2.1)))))) (a.1,a.1))∧∀ y57:Bool,I25 y57→(Br y57 ((false=(bF a))∧True) (f50.ent (fun c63=>(fY c63)∧Br (!(b7 c63)) ((true=(bF a))∧True) (∃ (I68:(Bool×Int)→Prop) (μ69:(Bool×Int)→Nat),(f380.l0 a I68 (true,(0:Int)))∧∀ y70:Bool×Int,I68 y70→(Br (decide (y70.2 < (a.2.1.length:Int))) (Br (decide ((0:Int)≤y70.2)&&decide (y70.2 < (a.2.1.length:Int))) (f387.ent (fun c74=>(q5 c74)∧Br y70.1 (Br ((cR c74).2) (Br (decide ((0:Int)≤y70.2)&&decide (y70.2 < (a.2.1.length:Int))) (Let (wI (y70.2+(1:Int))) (fun v80:Int=>f380.l0 a (Dn I68 μ69 y70) ((((cR c74).1).toList==((at_ a.2.1 y70.2).2).toList),v80))) False) (Let (wI (y70.2+(1:Int))) (fun v87:Int=>f380.l0 a (Dn I68 μ69 y70) (false,v87)))) (Let (wI (y70.2+(1:Int))) (fun v95:Int=>f380.l0 a (Dn I68 μ69 y70) (false,v95)))) (a.1,(at_ a.2.1 y70.2).1)) False) (f124.ent (fun c105=>(dY c105)∧(((cA c105)==y70.1)=(bF a))∧True) (a.1,a.2.1))))) a.1)))) a.2.2)) a.2.1)) a.1)
def f380.vc (a:(List (aB))×(List (aB))×(List (aB))):Prop:=((¬((bF ())=true)→((bF ())=bF a))∧(¬(¬((bF ())=true))→(eY a.1∧((¬((jG (a.1))=true)→((bF ())=bF a))∧(¬(¬((jG (a.1))=true))→(eY a.2.1∧((¬((jG (a.2.1))=true)→((bF ())=bF a))∧(¬(¬((jG (a.2.1))=true))→(eY a.2.2∧((¬((jG (a.2.2))=true)→((bF ())=bF a))∧(¬(¬((jG (a.2.2))=true))→(∃ I25:Bool→Prop,((dY (a.1,a.1)∧((¬((cA (a.1,a.1))=true)→(I25 true))∧(¬(¬((cA (a.1,a.1))=true))→(dY (a.1,[])∧((¬((cA (a.1,[]))=true)→(I25 true))∧(¬(¬((cA (a.1,[]))=true))→(dY (a.1,a.2.1)∧(((cA (a.1,a.2.1))=true→(dY (a.2.1,a.2.2)∧(((cA (a.2.1,a.2.2))=true→(dY (a.1,a.2.2)∧(I25 (!(cA (a.1,a.2.2))))))∧(¬((cA (a.2.1,a.2.2))=true)→(I25 false)))))∧(¬((cA (a.1,a.2.1))=true)→(I25 false)))))))))))∧∀ y57:Bool,I25 y57→((y57=true→(false=bF a))∧(¬(y57=true)→(fY a.1∧((¬((b7 (a.1))=true)→(true=bF a))∧(¬(¬((b7 (a.1))=true))→(∃ (I68:(Bool×Int)→Prop) (μ69:(Bool×Int)→Nat),I68 (true,(0:Int))∧∀ y70:Bool×Int,I68 y70→((y70.2 < (a.2.1.length:Int)→((0:Int)≤y70.2∧y70.2 < (a.2.1.length:Int)∧(q5 (a.1,(at_ a.2.1 y70.2).1)∧((y70.1=true→((((cR (a.1,(at_ a.2.1 y70.2).1)).2)=true→((0:Int)≤y70.2∧y70.2 < (a.2.1.length:Int)∧(-9223372036854775808≤(y70.2+(1:Int))∧(y70.2+(1:Int))≤9223372036854775807∧(I68 ((((cR (a.1,(at_ a.2.1 y70.2).1)).1).toList==((at_ a.2.1 y70.2).2).toList),(y70.2+(1:Int)))∧μ69 ((((cR (a.1,(at_ a.2.1 y70.2).1)).1).toList==((at_ a.2.1 y70.2).2).toList),(y70.2+(1:Int))) < μ69 y70))))∧(¬(((cR (a.1,(at_ a.2.1 y70.2).1)).2)=true)→(-9223372036854775808≤(y70.2+(1:Int))∧(y70.2+(1:Int))≤9223372036854775807∧(I68 (false,(y70.2+(1:Int)))∧μ69 (false,(y70.2+(1:Int))) < μ69 y70)))))∧(¬(y70.1=true)→(-9223372036854775808≤(y70.2+(1:Int))∧(y70.2+(1:Int))≤9223372036854775807∧(I68 (false,(y70.2+(1:Int)))∧μ69 (false,(y70.2+(1:Int))) < μ69 y70)))))))∧(¬(y70.2 < (a.2.1.length:Int))→(dY (a.1,a.2.1)∧(((cA (a.1,a.2.1))==y70.1)=bF a))))))))))))))))))))))
theorem f380.of (a:(List (aB))×(List (aB))×(List (aB))) (h:f380.vc a):f380.tree a:=⟨(),⟨trivial,br h (Cnd.not Cnd.b) (fun h2 k127=>⟨(),⟨trivial,⟨k127,trivial⟩⟩⟩) (fun h3 k128=>(f384.ei ⟨k128.1,br k128.2 (Cnd.not Cnd.b) (fun h8 k124=>⟨(),⟨trivial,⟨k124,trivial⟩⟩⟩) (fun h9 k125=>(f384.ei ⟨k125.1,br k125.2 (Cnd.not Cnd.b) (fun h14 k121=>⟨(),⟨trivial,⟨k121,trivial⟩⟩⟩) (fun h15 k122=>(f384.ei ⟨k122.1,br k122.2 (Cnd.not Cnd.b) (fun h20 k118=>⟨(),⟨trivial,⟨k118,trivial⟩⟩⟩) (fun h21 k119=>Exists.elim k119 (fun I25 h59=>⟨I25,(f124.ei ⟨h59.1.1,br h59.1.2 (Cnd.not Cnd.b) (fun h27 k54=>⟨true,SlS.mk  (SlS.mk  (⟨rfl,k54⟩))⟩) (fun h28 k55=>⟨(a.1,[]),slQ (rS aD) (slQ (Rds.nil (enc:=aD)) (⟨k55.1,br k55.2 (Cnd.not Cnd.b) (fun h31 k51=>⟨true,SlS.mk  (SlS.mk  (⟨rfl,k51⟩))⟩) (fun h32 k52=>(f124.ei ⟨k52.1,br k52.2 Cnd.b (fun h35 k48=>(f124.ei ⟨k48.1,br k48.2 Cnd.b (fun h38 k44=>(f124.ei ⟨k44.1,⟨(!(cA (a.1,a.2.2))),SlS.mk  (SlS.mk  (⟨rfl,k44.2⟩))⟩⟩)) (fun h39 k45=>⟨false,SlS.mk  (SlS.mk  (⟨rfl,k45⟩))⟩)⟩)) (fun h36 k49=>⟨false,SlS.mk  (SlS.mk  (⟨rfl,k49⟩))⟩)⟩))⟩))⟩)⟩),fun y57 h58=>br (h59.2 y57 h58) Cnd.b (fun h60 k116=>⟨k116,trivial⟩) (fun h61 k117=>(f50.ei ⟨k117.1,br k117.2 (Cnd.not Cnd.b) (fun h64 k113=>⟨k113,trivial⟩) (fun h65 k114=>Exists.elim k114 (fun I68 h110_=>Exists.elim h110_ (fun μ69 h110=>⟨I68,μ69,(f380.l0i a h110.1),fun y70 h112=>br (h110.2 y70 h112) Cnd.dec (fun h71 k108=>chk k108.2.2 Cnd.ix ⟨k108.1,k108.2.1⟩ (fun h73 k104=>(f387.ei ⟨k104.1,br k104.2 Cnd.b (fun h75 k101=>br k101 Cnd.b (fun h77 k93=>chk k93.2.2 Cnd.ix ⟨k93.1,k93.2.1⟩ (fun h79 k86=>wrapK.i64 k86 (fun h83 h84 k85=>(f380.l0i a k85)))) (fun h78 k94=>wrapK.i64 k94 (fun h90 h91 k92=>(f380.l0i a k92)))) (fun h76 k102=>wrapK.i64 k102 (fun h98 h99 k100=>(f380.l0i a k100)))⟩))) (fun h72 k109=>(f124.ei ⟨k109.1,⟨k109.2,trivial⟩⟩))⟩)))⟩))⟩))⟩))⟩))⟩))⟩⟩
theorem f380.eq (a:(List (aB))×(List (aB))×(List (aB))):(f380.af a).gives f380.env (f380.args a) (f380.blks a) (f380.res a) (f380.blks' a)=f380.tree a:=by kernel_rfl
theorem f383.ok (a:Unit) (_:True):f383.vc a:=by
 have e:cE [(f383.s0,f383.s1),(f383.s2,f383.s3)]=[(f383.s2,f383.s3),(f383.s0,f383.s1)]:=by decide +kernel
 have e1:dE f383.s4=true:=by decide +kernel
 have e2:b7 [(f383.s2,f383.s3),(f383.s0,f383.s1)]=true:=by decide +kernel
 unfold f383.vc
 rw [e,e1,e2]
 refine ⟨Nat.le_of_ble_eq_true rfl,Nat.le_of_ble_eq_true rfl,fun _=>⟨fun _=>⟨(by decide),fun _=>⟨fun x hx=>?_,rfl⟩,fun c=>absurd rfl c⟩,fun c=>absurd rfl c⟩,fun c=>absurd rfl c⟩
 rcases List.mem_cons.1 hx with rfl | hx
 ·exact ⟨Nat.le_of_ble_eq_true rfl,Nat.le_of_ble_eq_true rfl⟩
 ·rw [List.mem_singleton.1 hx]
  exact ⟨Nat.le_of_ble_eq_true rfl,Nat.le_of_ble_eq_true rfl⟩
theorem lV {l:List bK} (h:bC.size l≤1048576):eY l∧fY l∧L20 l:=by
 refine ⟨⟨qD h,fun x hx=>?_⟩,wT h,qD h⟩
 have h1:cJ.size x≤(l.map cJ.size).sum:=aCT _ hx
 have h2:(l.map cJ.size).sum+1≤1048576:=h
 have h3:x.1.size+1+(x.2.size+1)+1=cJ.size x:=rfl
 omega
theorem aCY {S:List bK} (s:SK S) {k v:ByteArray}:((cR (S,k)).2=true∧(cR (S,k)).1=v)↔(k,v)∈S:=by
 constructor
 ·rintro ⟨h1,h2⟩
  exact aBN (Prod.ext h2 h1)
 ·intro h
  rw [aGA s h]
  exact ⟨rfl,rfl⟩
theorem qB {l m:List bK}:cA (l,m)=true↔∀ w∈m,w∈l:=by
 unfold cA uH
 rw [List.all_eq_true]
 refine forall_congr' fun w=>imp_congr_right fun _=>?_
 rw [List.any_eq_true]
 constructor
 ·rintro ⟨x,hx,h⟩
  have:x=w:=of_decide_eq_true h
  exact this ▸ hx
 ·exact fun h=>⟨w,h,decide_eq_true rfl⟩
theorem aDY {l:List bK} (h:b7 l=true):SK l:=aFE fun i hi=>by
 rcases (vQ.1 ((iG.1 h).2 (i+1) hi)).2.2 with c | c
 ·omega
 ·exact mO.2 c
theorem f380.ok (a:List bK×List bK×List bK) (h:f380.lpre a):f380.vc a:=by
 obtain ⟨_,hs⟩:=h
 obtain ⟨l,m,n⟩:=a
 have hs:bC.size l+(bC.size m+bC.size n)≤1048576:=hs
 obtain ⟨h1,h2,h3⟩:=lV (l:=l) (by omega)
 obtain ⟨k1,k2,k3⟩:=lV (l:=m) (by omega)
 obtain ⟨n1,n2,n3⟩:=lV (l:=n) (by omega)
 have r1:cA (l,l)=true:=qB.2 fun _ h=>h
 have r2:cA (l,[])=true:=qB.2 fun _ h=>by cases h
 have hm:m.length≤1048576:=k3
 refine ⟨fun _=>rfl,fun _=>⟨h1,fun _=>rfl,fun _=>⟨k1,fun _=>rfl,fun _=>⟨n1,fun _=>rfl,fun _=>⟨fun y=>y=false,⟨⟨h3,h3⟩,fun c=>absurd r1 c,fun _=>⟨⟨h3,Nat.zero_le _⟩,fun c=>absurd r2 c,fun _=>⟨⟨h3,k3⟩,fun c1=>⟨⟨k3,n3⟩,fun c2=>⟨⟨h3,n3⟩,?_⟩,fun _=>rfl⟩,fun _=>rfl⟩⟩⟩,fun y hy=>⟨fun c=>?_,fun _=>⟨h2,fun _=>rfl,fun hb=>?_⟩⟩⟩⟩⟩⟩⟩
 ·show (!cA (l,n))=false
  rw [qB.2 fun w hw=>qB.1 c1 w (qB.1 c2 w hw)]
  rfl
 ·have hy:y=false:=hy
  rw [hy] at c
  cases c
 ·have sk:=aDY (Classical.not_not.1 hb)
  refine ⟨fun y=>0≤y.2∧y.2≤(m.length:Int)∧(y.1=true↔∀ j,j < y.2.toNat→m.getD j default∈l),fun y=>m.length - y.2.toNat,⟨by simp only; omega,by simp only; omega,⟨fun _ j hj=>absurd hj (Nat.not_lt_zero j),fun _=>rfl⟩⟩,fun y hy=>?_⟩
  obtain ⟨all,i⟩:=y
  obtain ⟨g0,g1,g2⟩:=hy
  simp only at g0 g1 g2 ⊢
  refine ⟨fun hlt=>⟨g0,hlt,h3,fun ct=>⟨fun cv=>⟨g0,hlt,by omega,by omega,⟨by omega,by omega,?_⟩,by omega⟩,fun cv=>⟨by omega,by omega,⟨by omega,by omega,?_⟩,by omega⟩⟩,fun cf=>⟨by omega,by omega,⟨by omega,by omega,?_⟩,by omega⟩⟩,fun hge=>⟨⟨h3,k3⟩,?_⟩⟩
  ·have vi:=aCY sk (k:=(at_ m i).1) (v:=(at_ m i).2)
   rw [beq_iff_eq,toList_inj]
   constructor
   ·intro e j hj
    by_cases q:j=i.toNat
    ·rw [q]
     exact vi.1 ⟨cv,e⟩
    ·exact g2.1 ct j (by omega)
   ·exact fun q=>(vi.2 (q i.toNat (by omega))).2
  ·have vi:=aCY sk (k:=(at_ m i).1) (v:=(at_ m i).2)
   exact ⟨fun c=>(by cases c),fun q=>absurd (vi.2 (q i.toNat (by omega))).1 cv⟩
  ·exact ⟨fun c=>(by cases c),fun q=>absurd (g2.2 fun j hj=>q j (by omega)) cf⟩
  ·show (cA (l,m)==all)=true
   rw [beq_iff_eq,Bool.eq_iff_iff,g2,qB]
   constructor
   ·exact fun q j hj=>q _ (sU (by omega))
   ·intro q w hw
    obtain ⟨j,hj,rfl⟩:=List.mem_iff_getElem.1 hw
    rw [← gP hj]
    exact q j (by omega)
end Go.Abs
