/- Functions, and what the code asks of them: PIdentLaw. -/
import Derived.KernelRfl
import Derived.Test.YtjlehbennimkgaaIdentBuildsP4
import Derived.Test.YtjlehbennimkgaaIdentBuildsP5
import Derived.Test.YtjlehbennimkgaaIdentBuildsP6
import Derived.Test.YtjlehbennimkgaaIdentBuildsP7
import Derived.Test.YtjlehbennimkgaaIdentBuildsP8
import Derived.Test.YtjlehbennimkgaaIdentBuildsP9
import Derived.Test.YtjlehbennimkgaaIdentBuildsP10
import Derived.Test.YtjlehbennimkgaaIdentBuildsP11
import Derived.Test.YtjlehbennimkgaaIdentBuildsP12
import Derived.Test.YtjlehbennimkgaaIdentBuildsP13
import Derived.Test.YtjlehbennimkgaaIdentBuildsP14
import Derived.Test.YtjlehbennimkgaaIdentBuildsP15
import Derived.Test.YtjlehbennimkgaaIdentBuildsP16
import Derived.Test.YtjlehbennimkgaaIdentBuildsP17
import Derived.Test.YtjlehbennimkgaaIdentBuildsP20
import Derived.Test.YtjlehbennimkgaaIdentBuildsP21
import Derived.Test.YtjlehbennimkgaaIdentBuildsP22
import Derived.Test.YtjlehbennimkgaaIdentBuildsP23
import Derived.Test.YtjlehbennimkgaaIdentBuildsP24
set_option linter.unusedVariables false
set_option linter.unusedSimpArgs false
-- interregnum/interregnumlaw04.awake
namespace Go.Abs
open Go
def f383.args (a:Unit):List D:=[]
def f383.blks (a:Unit):List (List D):=[]
def f383.res (a:Unit):List D:=[.bool (bC a)]
def f383.blks' (a:Unit):List (List D):=[]
def f383.C:aM:=FnC f383.args f383.blks (fun _=>True) f383.res f383.blks'
end Go.Abs

/- interregnum/interregnumlaw04.awake -/
namespace Go.Abs
open Go
set_option linter.unusedVariables false
def f383.s0:ByteArray:=⟨#[98]⟩
def f383.s1:ByteArray:=⟨#[49]⟩
def f383.s2:ByteArray:=⟨#[97]⟩
def f383.s3:ByteArray:=⟨#[50]⟩
def f383.s4:ByteArray:=⟨#[103,112,117,45,49]⟩
def f383.kills (a:Unit):List Hint:=[]
def f383.cuts (a:Unit):List (Nat×Σ β:Type,β→Tm):=[]
def f383.af (a:Unit):AF:=AF.mk (.seq (.region [⟨(some 0),0,.move,[.c (.bool false)],none⟩])
 (.seq (.region [⟨(some 2),1,(.build [.str ByteArray.empty,.str ByteArray.empty] [(0,1),(1,1)]),[.c (.str f383.s0),.c (.str f383.s1)],none⟩,
 ⟨(some 3),2,(.build [.str ByteArray.empty,.str ByteArray.empty] [(0,1),(1,1)]),[.c (.str f383.s2),.c (.str f383.s3)],none⟩,
 oT 4 3 (.buildSlice 2 2 [.str ByteArray.empty,.str ByteArray.empty] [(0,2),(2,2)]) [2,3],
 oT 5 4 (.call false 385) [4],
 oT 1 8 .move [5]])
 (.seq (.region [⟨(some 6),9,(.call false 48),[.c (.str f383.s4)],none⟩,
 oT 7 13 .move [6],
 oG 8 14 .move [1] 7 true,
 oG 9 15 (.len false) [8] 7 true,
 ⟨(some 10),16,(.bin .eql),[.t 9,.c (.int .i64 (2))],(some (7,true))⟩,
 ⟨(some 11),17,.pick,[.t 7,.t 10,.c (.bool false)],none⟩,
 oT 12 18 .move [11],
 oG 13 19 .move [1] 12 true,
 ⟨(some 14),20,(.indexAddr 2 none),[.t 13,.c (.int .i64 (0))],(some (12,true))⟩,
 oG 15 21 (.fieldAddr 0) [14] 12 true,
 oG 16 22 (.load false 1) [15] 12 true,
 ⟨(some 17),23,(.bin .eql),[.t 16,.c (.str f383.s2)],(some (12,true))⟩,
 ⟨(some 18),24,.pick,[.t 12,.t 17,.c (.bool false)],none⟩,
 oT 19 25 .move [18],
 oG 20 26 .move [1] 19 true,
 oG 21 27 (.call false 50) [20] 19 true,
 ⟨(some 22),31,.pick,[.t 19,.t 21,.c (.bool false)],none⟩,
 oT 0 32 .move [22]])
 (.ret))))
 [.tmp 0] 0 23
def f383.env:Env:=[(385,f385.C),(48,f48.C),(50,f50.C)]
def f383.tree (a:Unit):Prop:=∃ c1:List (aF),SlQ 2 c1.length (fun j=>List.take 2 (List.drop (j * 2) [.str f383.s0,.str f383.s1,.str f383.s2,.str f383.s3])) (gl aJ c1) ((L20 c1)∧∃ c2:ByteArray,(f383.s4=c2)∧(bO c2)∧Br (bJ c2) (Br (((cB c1).length:Int)==(2:Int)) (Br (decide ((0:Int)≤(0:Int))&&decide ((0:Int) < ((cB c1).length:Int))) (Br (((at_ (cB c1) (0:Int)).1).toList==f383.s2.toList) (f50.ent (fun c10=>(nM c10)∧((cL c10)=(bC a))∧True) (cB c1)) ((false=(bC a))∧True)) False) ((false=(bC a))∧True)) ((false=(bC a))∧True))
def f383.vc (a:Unit):Prop:=(L20 ([(f383.s0,f383.s1),(f383.s2,f383.s3)])∧(bO f383.s4∧(((bJ (f383.s4))=true→((((cB ([(f383.s0,f383.s1),(f383.s2,f383.s3)])).length:Int)=(2:Int)→((0:Int) < ((cB ([(f383.s0,f383.s1),(f383.s2,f383.s3)])).length:Int)∧((((at_ (cB ([(f383.s0,f383.s1),(f383.s2,f383.s3)])) (0:Int)).1)=f383.s2→(nM (cB ([(f383.s0,f383.s1),(f383.s2,f383.s3)]))∧((cL (cB ([(f383.s0,f383.s1),(f383.s2,f383.s3)])))=bC a)))∧(¬(((at_ (cB ([(f383.s0,f383.s1),(f383.s2,f383.s3)])) (0:Int)).1)=f383.s2)→(false=bC a)))))∧(¬(((cB ([(f383.s0,f383.s1),(f383.s2,f383.s3)])).length:Int)=(2:Int))→(false=bC a))))∧(¬((bJ (f383.s4))=true)→(false=bC a)))))
set_option maxRecDepth 100000 in
set_option maxHeartbeats 2000000 in
theorem f383.of (a:Unit) (h:f383.vc a):f383.tree a:=⟨[(f383.s0,f383.s1),(f383.s2,f383.s3)],slQ (Rds.row (enc:=aJ) ⟨rfl,fun i hi=>by repeat (first | rfl | exact absurd hi (Nat.not_lt.2 (Nat.le_add_left 2 _)) | (cases i with | zero=>rfl | succ i=>?_))⟩) (⟨h.1,⟨f383.s4,⟨rfl,⟨h.2.1,br h.2.2 Cnd.b (fun h3 k21=>br k21 Cnd.eq (fun h5 k18=>chk k18.2 Cnd.ix ⟨(by decide),k18.1⟩ (fun h7 k16=>br k16 Cnd.seq (fun h8 k14=>(f50.ei ⟨k14.1,⟨k14.2,trivial⟩⟩)) (fun h9 k15=>⟨k15,trivial⟩))) (fun h6 k19=>⟨k19,trivial⟩)) (fun h4 k22=>⟨k22,trivial⟩)⟩⟩⟩⟩)⟩
theorem f383.eq (a:Unit):(f383.af a).gives f383.env (f383.args a) (f383.blks a) (f383.res a) (f383.blks' a)=f383.tree a:=by kernel_rfl
end Go.Abs

-- interregnum/interregnumlaw04.IdentNames
namespace Go.Abs
open Go
end Go.Abs

/- interregnum/interregnumlaw04.IdentNames -/
namespace Go.Abs
open Go
set_option linter.unusedVariables false
end Go.Abs

-- interregnum/interregnumlaw04.IdentBuilds
namespace Go.Abs
open Go
def f373.wf (a:ByteArray×UInt8):Prop:=iU.ok a.1∧aAU.ok a.2
def f373.size (a:ByteArray×UInt8):Nat:=iU.size a.1+aAU.size a.2
def f373.lpre (a:ByteArray×UInt8):Prop:=f373.wf a∧f373.size a≤1048576
def f373.args (a:ByteArray×UInt8):List D:=[.str a.1,.int .u8 (UInt8.toNat a.2:Int)]
def f373.blks (a:ByteArray×UInt8):List (List D):=[]
def f373.res (a:ByteArray×UInt8):List D:=[.bool (bC a)]
def f373.blks' (a:ByteArray×UInt8):List (List D):=[]
def f373.C:aM:=FnC f373.args f373.blks (fun a=>f373.lpre a) f373.res f373.blks'
end Go.Abs

/- interregnum/interregnumlaw04.IdentBuilds -/
namespace Go.Abs
open Go
set_option linter.unusedVariables false
def f373.s0:ByteArray:=⟨#[45]⟩
def f373.s7 (a:ByteArray×UInt8) (K:Bool→Prop) (t:Bool):Prop:=∃ x:Bool,(a.1=a.1)∧((UInt8.toNat a.2:Int)=(UInt8.toNat a.2:Int))∧(t=x)∧K x
theorem f373.s7i (a:ByteArray×UInt8) {K:Bool→Prop} {t:Bool} (h:K t):f373.s7 a K t:=⟨t,⟨rfl,⟨rfl,⟨rfl,h⟩⟩⟩⟩
def f373.kills (a:ByteArray×UInt8):List Hint:=[]
def f373.cuts (a:ByteArray×UInt8):List (Nat×Σ β:Type,β→Tm):=[(100007,⟨Bool,fun x=>⟨[.str a.1,.int .u8 (UInt8.toNat a.2:Int),.dead,.dead,.dead,.bool x,.dead,.dead,.dead,.dead,.dead,.dead,.dead,.dead,.dead,.dead,.dead,.dead,.dead,.dead,.dead,.dead,.dead,.dead,.dead,.dead,.dead,.dead,.dead,.dead,.dead,.dead,.dead,.dead,.dead,.dead,.dead,.dead,.dead,.dead,.dead,.dead,.dead,.dead,.dead,.dead,.dead,.dead,.dead,.dead,.dead,.dead,.dead,.dead,.dead,.dead,.dead,.dead],[],[]⟩⟩)]
def f373.af (a:ByteArray×UInt8):AF:=AF.mk (.seq (.region [⟨(some 4),0,.move,[.c (.bool false)],none⟩])
 (.seq (.seq (.region [oT 6 1 (.call false 383) [],
 oT 7 5 (.un .not) [6],
 oT 8 6 .move [7],
 oG 9 7 .move [0] 8 false,
 oG 10 8 (.len true) [9] 8 false,
 ⟨(some 11),9,(.bin .gtr),[.t 10,.c (.int .i64 (1000))],(some (8,false))⟩,
 ⟨(some 12),10,.pick,[.t 8,.c (.bool true),.t 11],none⟩])
 (.cond (.t 12) (.seq (.region [oT 13 11 (.call false 383) [],
 oT 4 15 .move [13]])
 (.ret)) (.skip)))
 (.seq (.seq (.region [oT 14 16 .move [0],
 oT 15 17 (.call false 48) [14],
 oT 16 21 (.un .not) [15]])
 (.cond (.t 16) (.seq (.region [⟨(some 4),22,.move,[.c (.bool true)],none⟩])
 (.ret)) (.skip)))
 (.joinT Bool (fun x=>⟨[.str a.1,.int .u8 (UInt8.toNat a.2:Int),.dead,.dead,.dead,.bool x,.dead,.dead,.dead,.dead,.dead,.dead,.dead,.dead,.dead,.dead,.dead,.dead,.dead,.dead,.dead,.dead,.dead,.dead,.dead,.dead,.dead,.dead,.dead,.dead,.dead,.dead,.dead,.dead,.dead,.dead,.dead,.dead,.dead,.dead,.dead,.dead,.dead,.dead,.dead,.dead,.dead,.dead,.dead,.dead,.dead,.dead,.dead,.dead,.dead,.dead,.dead,.dead],[],[]⟩) (.region [oT 17 23 .move [1],
 ⟨(some 18),24,(.bin .geq),[.t 17,.c (.int .u8 (97))],none⟩,
 oT 19 25 .move [18],
 oG 20 26 .move [1] 19 true,
 ⟨(some 21),27,(.bin .leq),[.t 20,.c (.int .u8 (122))],(some (19,true))⟩,
 ⟨(some 22),28,.pick,[.t 19,.t 21,.c (.bool false)],none⟩,
 oT 23 29 .move [22],
 oG 24 30 .move [1] 23 false,
 ⟨(some 25),31,(.bin .geq),[.t 24,.c (.int .u8 (48))],(some (23,false))⟩,
 oG 26 32 .move [25] 23 false,
 oG 27 33 .move [1] 26 true,
 ⟨(some 28),34,(.bin .leq),[.t 27,.c (.int .u8 (57))],(some (26,true))⟩,
 ⟨(some 29),35,.pick,[.t 26,.t 28,.c (.bool false)],(some (23,false))⟩,
 ⟨(some 30),36,.pick,[.t 23,.c (.bool true),.t 29],none⟩,
 oT 31 37 .move [30],
 oG 32 38 .move [1] 31 false,
 ⟨(some 33),39,(.bin .eql),[.t 32,.c (.int .u8 (45))],(some (31,false))⟩,
 ⟨(some 34),40,.pick,[.t 31,.c (.bool true),.t 33],none⟩,
 oT 5 41 .move [34]])
 (.seq (.region [oT 35 42 .move [0],
 oT 36 43 .move [1],
 oT 37 44 (.buildSlice 1 1 [.int .u8 (0)] [(0,1)]) [36],
 oT 38 45 (.conv .b2s) [37],
 oT 39 46 (.bin .add) [35,38],
 oT 40 47 (.call false 48) [39],
 oT 41 51 .move [5],
 oT 42 52 .move [41],
 oG 43 53 .move [0] 42 true,
 oG 44 54 (.len true) [43] 42 true,
 ⟨(some 45),55,(.bin .lss),[.t 44,.c (.int .i64 (16))],(some (42,true))⟩,
 ⟨(some 46),56,.pick,[.t 42,.t 45,.c (.bool false)],none⟩,
 oT 47 57 (.binB false) [40,46],
 oT 48 58 .move [47],
 oG 49 59 .move [0] 48 true,
 ⟨(some 50),60,(.bin .add),[.c (.str f373.s0),.t 49],(some (48,true))⟩,
 oG 51 61 (.call false 48) [50] 48 true,
 oG 52 65 (.un .not) [51] 48 true,
 ⟨(some 53),66,.pick,[.t 48,.t 52,.c (.bool false)],none⟩,
 oT 54 67 .move [53],
 ⟨(some 55),68,(.call false 48),[.c (.str ByteArray.empty)],(some (54,true))⟩,
 oG 56 72 (.un .not) [55] 54 true,
 ⟨(some 57),73,.pick,[.t 54,.t 56,.c (.bool false)],none⟩,
 oT 4 74 .move [57]])
 (.ret))))))
 [.tmp 4] 0 56
def f373.env:Env:=[(383,f383.C),(48,f48.C)]
def f373.tree (a:ByteArray×UInt8):Prop:=∃ c1:Unit,True∧Br (!(bC c1)) (∃ c4:Unit,True∧((bC c4)=(bC a))∧True) (Br (decide ((1000:Int) < (a.1.size:Int))) (∃ c9:Unit,True∧((bC c9)=(bC a))∧True) (∃ c12:ByteArray,(a.1=c12)∧(bO c12)∧Br (!(bJ c12)) ((true=(bC a))∧True) (∃ I16:Bool→Prop,(Br (decide ((97:Int)≤(UInt8.toNat a.2:Int))) (Br (decide ((UInt8.toNat a.2:Int)≤(122:Int))) (f373.s7 a I16 true) (Br (decide ((48:Int)≤(UInt8.toNat a.2:Int))) (Br (decide ((UInt8.toNat a.2:Int)≤(57:Int))) (f373.s7 a I16 true) (f373.s7 a I16 ((UInt8.toNat a.2:Int)==(45:Int)))) (f373.s7 a I16 ((UInt8.toNat a.2:Int)==(45:Int))))) (Br (decide ((48:Int)≤(UInt8.toNat a.2:Int))) (Br (decide ((UInt8.toNat a.2:Int)≤(57:Int))) (f373.s7 a I16 true) (f373.s7 a I16 ((UInt8.toNat a.2:Int)==(45:Int)))) (f373.s7 a I16 ((UInt8.toNat a.2:Int)==(45:Int)))))∧∀ y48:Bool,I16 y48→(yM 1 (fun _=>[.int .u8 (UInt8.toNat a.2:Int)])∧Let (pN 1 (fun _=>[.int .u8 (UInt8.toNat a.2:Int)])) (fun v51:ByteArray=>Br (Nat.ble (a.1.size+v51.size) 9223372036854775807) (∃ c53:ByteArray,((a.1++v51)=c53)∧(bO c53)∧Br y48 (Br ((bJ c53)==(decide ((a.1.size:Int) < (16:Int)))) (Br (Nat.ble (f373.s0.size+a.1.size) 9223372036854775807) (∃ c59:ByteArray,((f373.s0++a.1)=c59)∧(bO c59)∧Br (!(bJ c59)) (∃ c62:ByteArray,(ByteArray.empty=c62)∧(bO c62)∧((!(bJ c62))=(bC a))∧True) ((false=(bC a))∧True)) False) ((false=(bC a))∧True)) (Br ((bJ c53)==false) (Br (Nat.ble (f373.s0.size+a.1.size) 9223372036854775807) (∃ c76:ByteArray,((f373.s0++a.1)=c76)∧(bO c76)∧Br (!(bJ c76)) (∃ c79:ByteArray,(ByteArray.empty=c79)∧(bO c79)∧((!(bJ c79))=(bC a))∧True) ((false=(bC a))∧True)) False) ((false=(bC a))∧True))) False)))))
def f373.vc (a:ByteArray×UInt8):Prop:=((¬((bC ())=true)→((bC ())=bC a))∧(¬(¬((bC ())=true))→(((1000:Int) < (a.1.size:Int)→((bC ())=bC a))∧(¬((1000:Int) < (a.1.size:Int))→(bO a.1∧((¬((bJ (a.1))=true)→(true=bC a))∧(¬(¬((bJ (a.1))=true))→(∃ I16:Bool→Prop,((((97:Int)≤(UInt8.toNat a.2:Int)→(((UInt8.toNat a.2:Int)≤(122:Int)→(I16 true))∧(¬((UInt8.toNat a.2:Int)≤(122:Int))→(((48:Int)≤(UInt8.toNat a.2:Int)→(((UInt8.toNat a.2:Int)≤(57:Int)→(I16 true))∧(¬((UInt8.toNat a.2:Int)≤(57:Int))→(I16 ((UInt8.toNat a.2:Int)==(45:Int))))))∧(¬((48:Int)≤(UInt8.toNat a.2:Int))→(I16 ((UInt8.toNat a.2:Int)==(45:Int))))))))∧(¬((97:Int)≤(UInt8.toNat a.2:Int))→(((48:Int)≤(UInt8.toNat a.2:Int)→(((UInt8.toNat a.2:Int)≤(57:Int)→(I16 true))∧(¬((UInt8.toNat a.2:Int)≤(57:Int))→(I16 ((UInt8.toNat a.2:Int)==(45:Int))))))∧(¬((48:Int)≤(UInt8.toNat a.2:Int))→(I16 ((UInt8.toNat a.2:Int)==(45:Int))))))))∧∀ y48:Bool,I16 y48→((a.1.size+(by1 (UInt8.toNat a.2:Int)).size≤9223372036854775807)∧(bO (a.1++(by1 (UInt8.toNat a.2:Int)))∧((y48=true→((((bJ (a.1++(by1 (UInt8.toNat a.2:Int))))==(decide ((a.1.size:Int) < (16:Int))))=true→((f373.s0.size+a.1.size≤9223372036854775807)∧(bO (f373.s0++a.1)∧((¬((bJ (f373.s0++a.1))=true)→(bO ByteArray.empty∧((!(bJ (ByteArray.empty)))=bC a)))∧(¬(¬((bJ (f373.s0++a.1))=true))→(false=bC a))))))∧(¬(((bJ (a.1++(by1 (UInt8.toNat a.2:Int))))==(decide ((a.1.size:Int) < (16:Int))))=true)→(false=bC a))))∧(¬(y48=true)→((((bJ (a.1++(by1 (UInt8.toNat a.2:Int))))==false)=true→((f373.s0.size+a.1.size≤9223372036854775807)∧(bO (f373.s0++a.1)∧((¬((bJ (f373.s0++a.1))=true)→(bO ByteArray.empty∧((!(bJ (ByteArray.empty)))=bC a)))∧(¬(¬((bJ (f373.s0++a.1))=true))→(false=bC a))))))∧(¬(((bJ (a.1++(by1 (UInt8.toNat a.2:Int))))==false)=true)→(false=bC a)))))))))))))))
set_option maxRecDepth 100000 in
set_option maxHeartbeats 2000000 in
theorem f373.of (a:ByteArray×UInt8) (h:f373.vc a):f373.tree a:=⟨(),⟨trivial,br h (Cnd.not Cnd.b) (fun h2 k99=>⟨(),⟨trivial,⟨k99,trivial⟩⟩⟩) (fun h3 k100=>br k100 Cnd.dec (fun h7 k97=>⟨(),⟨trivial,⟨k97,trivial⟩⟩⟩) (fun h8 k98=>⟨a.1,⟨rfl,⟨k98.1,br k98.2 (Cnd.not Cnd.b) (fun h13 k94=>⟨k94,trivial⟩) (fun h14 k95=>Exists.elim k95 (fun I16 h50=>⟨I16,br h50.1 Cnd.dec (fun h17 k46=>br k46 Cnd.dec (fun h19 k33=>(f373.s7i a k33)) (fun h20 k34=>br k34 Cnd.dec (fun h22 k31=>br k31 Cnd.dec (fun h24 k28=>(f373.s7i a k28)) (fun h25 k29=>(f373.s7i a k29))) (fun h23 k32=>(f373.s7i a k32)))) (fun h18 k47=>br k47 Cnd.dec (fun h35 k44=>br k44 Cnd.dec (fun h37 k41=>(f373.s7i a k41)) (fun h38 k42=>(f373.s7i a k42))) (fun h36 k45=>(f373.s7i a k45))),fun y48 h49=>b2s (h50.2 y48 h49) (RdB.one (by first | exact u8r _ | exact u8w _ | exact u8b _ _ | exact aIL _ _ | decide | omega)) (fun h=>chk h.2 Cnd.ble h.1 (fun h52 k93=>⟨a.1++(by1 (UInt8.toNat a.2:Int)),⟨rfl,⟨k93.1,br k93.2 Cnd.b (fun h54 k90=>br k90 Cnd.b (fun h56 k71=>chk k71.2 Cnd.ble k71.1 (fun h58 k69=>⟨f373.s0++a.1,⟨rfl,⟨k69.1,br k69.2 (Cnd.not Cnd.b) (fun h60 k66=>⟨ByteArray.empty,⟨rfl,⟨k66.1,⟨k66.2,trivial⟩⟩⟩⟩) (fun h61 k67=>⟨k67,trivial⟩)⟩⟩⟩)) (fun h57 k72=>⟨k72,trivial⟩)) (fun h55 k91=>br k91 Cnd.b (fun h73 k88=>chk k88.2 Cnd.ble k88.1 (fun h75 k86=>⟨f373.s0++a.1,⟨rfl,⟨k86.1,br k86.2 (Cnd.not Cnd.b) (fun h77 k83=>⟨ByteArray.empty,⟨rfl,⟨k83.1,⟨k83.2,trivial⟩⟩⟩⟩) (fun h78 k84=>⟨k84,trivial⟩)⟩⟩⟩)) (fun h74 k89=>⟨k89,trivial⟩))⟩⟩⟩))⟩))⟩⟩⟩))⟩⟩
theorem f373.eq (a:ByteArray×UInt8):(f373.af a).gives f373.env (f373.args a) (f373.blks a) (f373.res a) (f373.blks' a)=f373.tree a:=by kernel_rfl
end Go.Abs

-- interregnum/interregnumlaw04.IdentSorted
namespace Go.Abs
open Go
end Go.Abs

/- interregnum/interregnumlaw04.IdentSorted -/
namespace Go.Abs
open Go
set_option linter.unusedVariables false
end Go.Abs

-- interregnum/interregnumlaw04.IdentLabels
namespace Go.Abs
open Go
end Go.Abs

/- interregnum/interregnumlaw04.IdentLabels -/
namespace Go.Abs
open Go
set_option linter.unusedVariables false
end Go.Abs

-- interregnum/interregnumlaw04.IdentHas
namespace Go.Abs
open Go
end Go.Abs

/- interregnum/interregnumlaw04.IdentHas -/
namespace Go.Abs
open Go
set_option linter.unusedVariables false
end Go.Abs

/- The laws of layer 4. -/
namespace Go.Abs
open Go

theorem f383.ok (a:Unit) (_:True):f383.vc a:=by
 have e:cB [(f383.s0,f383.s1),(f383.s2,f383.s3)]=[(f383.s2,f383.s3),(f383.s0,f383.s1)]:=by decide +kernel
 have e1:bJ f383.s4=true:=by decide +kernel
 have e2:cL [(f383.s2,f383.s3),(f383.s0,f383.s1)]=true:=by decide +kernel
 unfold f383.vc
 rw [e,e1,e2]
 refine ⟨Nat.le_of_ble_eq_true rfl,Nat.le_of_ble_eq_true rfl,fun _=>⟨fun _=>⟨(by decide),fun _=>⟨fun x hx=>?_,rfl⟩,fun c=>absurd rfl c⟩,fun c=>absurd rfl c⟩,fun c=>absurd rfl c⟩
 rcases List.mem_cons.1 hx with rfl | hx
 ·exact ⟨Nat.le_of_ble_eq_true rfl,Nat.le_of_ble_eq_true rfl⟩
 ·rw [List.mem_singleton.1 hx]
  exact ⟨Nat.le_of_ble_eq_true rfl,Nat.le_of_ble_eq_true rfl⟩

theorem zC (s t:ByteArray):(s++t).data.toList=s.data.toList++t.data.toList:=by simp
theorem aBW {s:ByteArray} (h:bJ s=true) (c:UInt8):bJ (s++by1 (UInt8.toNat c:Int))=(ltr c&&decide (s.size < 16)):=by
 unfold bJ at h ⊢
 simp only [Bool.and_eq_true,decide_eq_true_eq] at h
 obtain ⟨⟨⟨h1,h2⟩,h3⟩,h4⟩:=h
 rw [zC,aE5,List.all_append,h4,n7,xR]
 have e:UInt8.ofNat (Int.toNat (UInt8.toNat c:Int))=c:=by simp
 have e0:nth (s.data.toList++[c]) 0 0=nth s.data.toList 0 0:=by
  have hl:s.data.toList.length=s.size:=by simp
  generalize s.data.toList=l at hl
  cases l with
  | nil =>
   simp only [List.length_nil] at hl
   omega
  | cons x l=>rfl
 rw [e,e0,h3,Bool.and_true,Bool.true_and,List.all_cons,List.all_nil,Bool.and_true,Bool.and_comm]
 exact congrArg (ltr c&&·) (decide_eq_decide.2 (by omega))
theorem r7 (s:ByteArray):bJ (f373.s0++s)=false:=by
 unfold bJ
 rw [zC]
 have:nth (f373.s0.data.toList++s.data.toList) 0 0=45:=rfl
 rw [this,bne_self_eq_false,Bool.and_false,Bool.false_and]
theorem rP:bJ ByteArray.empty=false:=by decide +kernel

theorem f373.ok (a:ByteArray×UInt8) (h:f373.lpre a):f373.vc a:=by
 obtain ⟨s,c⟩:=a
 refine ⟨fun _=>rfl,fun _=>⟨fun _=>rfl,fun hsz=>?_⟩⟩
 have hsz:s.size≤1000:=by simp only at hsz; omega
 refine ⟨by unfold bO; simp only; omega,fun _=>rfl,fun hn=>?_⟩
 have hn:bJ s=true:=Classical.not_not.1 hn
 have ns:=aDV hn
 have sn:=aBW hn c
 have hl:=aFY c
 simp only
 have e45:(((UInt8.toNat c:Int)==(45:Int))=ltr c)↔((UInt8.toNat c=45)↔ltr c=true):=by
  rw [Bool.eq_iff_iff,beq_iff_eq]
  constructor
  ·intro q
   rw [← q]
   omega
  ·intro q
   rw [← q]
   omega
 refine ⟨fun y=>y=ltr c,⟨fun c1=>⟨fun c2=>(hl.2 (by omega)).symm,fun c2=>⟨fun c3=>⟨fun c4=>(hl.2 (by omega)).symm,fun c4=>e45.2 (by rw [hl]; omega)⟩,fun c3=>e45.2 (by rw [hl]; omega)⟩⟩,fun c1=>⟨fun c3=>⟨fun c4=>(hl.2 (by omega)).symm,fun c4=>e45.2 (by rw [hl]; omega)⟩,fun c3=>e45.2 (by rw [hl]; omega)⟩⟩,fun y hy=>?_⟩
 have hy:y=ltr c:=hy
 subst hy
 have hd:f373.s0.size=1:=rfl
 have hb:=xR (UInt8.toNat c:Int)
 refine ⟨by rw [hb]; omega,by unfold bO; rw [n7,hb]; omega,fun c1=>⟨fun c2=>⟨by rw [hd]; omega,by unfold bO; rw [n7,hd]; omega,fun c3=>⟨Nat.zero_le _,by rw [rP]; rfl⟩,fun c3=>absurd (r7 s) (by rw [Classical.not_not.1 c3]; exact Bool.noConfusion)⟩,fun c2=>absurd ?_ c2⟩,fun c1=>⟨fun c2=>⟨by rw [hd]; omega,by unfold bO; rw [n7,hd]; omega,fun c3=>⟨Nat.zero_le _,by rw [rP]; rfl⟩,fun c3=>absurd (r7 s) (by rw [Classical.not_not.1 c3]; exact Bool.noConfusion)⟩,fun c2=>absurd ?_ c2⟩⟩
 ·rw [sn,c1,Bool.true_and,beq_iff_eq]
  exact decide_eq_decide.2 (by omega)
 ·rw [sn,Bool.eq_false_iff.2 c1,Bool.false_and,beq_self_eq_true]

end Go.Abs
