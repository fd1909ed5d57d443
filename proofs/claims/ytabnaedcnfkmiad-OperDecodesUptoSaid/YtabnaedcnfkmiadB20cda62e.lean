/- Functions, and what the code asks of them: POper. -/
import Derived.KernelRfl
import Derived.Test.YtabnaedcnfkmiadB15aca7b2
import Derived.Test.YtabnaedcnfkmiadB27e40858
import Derived.Test.YtabnaedcnfkmiadBf865c446
import Derived.Test.YtabnaedcnfkmiadB81a2baaf
import Derived.Test.YtabnaedcnfkmiadB2f972113
import Derived.Test.YtabnaedcnfkmiadB0380ec47
import Derived.Test.YtabnaedcnfkmiadBe4d41b4d
import Derived.Test.YtabnaedcnfkmiadB1fc6eb47
import Derived.Test.YtabnaedcnfkmiadB76144e94
set_option linter.unusedVariables false
set_option linter.unusedSimpArgs false
/- Operations on a scheduler. -/
namespace Go.Abs
open Go

abbrev TOp := Int × TNode × TQueue × TTask × ByteArray
abbrev TAct := Int × ByteArray × ByteArray
def namedB (k : Int) : Bool := decide (k = 2 ∨ k = 4 ∨ k = 6 ∨ k = 7 ∨ k = 8)
def zOp : TOp := (0,zNode,zQueue,zTask,ByteArray.empty)
def zeroNodeB (n : TNode) : Bool := sameNode (n,zNode)
def zeroTaskB (t : TTask) : Bool := sameTask (t,zTask)
def op_pre (o : TOp) : Prop := node_pre o.2.1 ∧ queue_pre o.2.2.1 ∧ task_pre o.2.2.2.1 ∧ name_pre o.2.2.2.2 ∧ o.2.1.2.2.length ≤ 1048576 ∧ o.2.2.2.1.2.2.2.2.1.length ≤ 1048576
def bareB (o : TOp) : Bool := (decide (o.1 = 1) || zeroNodeB o.2.1) && (decide (o.1 = 3) || decide (o.2.2.1 = zQueue)) && (decide (o.1 = 5) || zeroTaskB o.2.2.2.1) && (namedB o.1 || decide (o.2.2.2.2 = ByteArray.empty))
def rightO (o : TOp) : Bool := bareB o && (if o.1 = 1 then nodeB o.2.1 else if o.1 = 3 then queueB o.2.2.1 else if o.1 = 5 then taskB o.2.2.2.1 else if o.1 = 9 then true else namedB o.1 && nameB o.2.2.2.2)
def opBody (o : TOp) : ByteArray := if o.1 = 1 then nodeS o.2.1 else if o.1 = 3 then queueS o.2.2.1 else if o.1 = 5 then taskS o.2.2.2.1 else if o.1 = 9 then ByteArray.empty else textS o.2.2.2.2
def opS (o : TOp) : ByteArray := num o.1.toNat ++ opBody o
def encO_pre (o : TOp) : Prop := op_pre o ∧ o.2.2.2.2.size ≤ 268435456
def encO (o : TOp) : ByteArray × Int := if rightO o = true then (opS o,0) else (ByteArray.empty,1)
def takesO_pre (a : TOp × ByteArray × Int) : Prop := takes_pre (a.2.1,a.2.2)
def takesO (a : TOp × ByteArray × Int) : Int × Int × TOp :=
  if a.1.1 = 1 then ((takeNode a.2).2.1,(takeNode a.2).2.2,(a.1.1,(takeNode a.2).1,a.1.2.2)) else
  if a.1.1 = 3 then ((takeQueue a.2).2.1,(takeQueue a.2).2.2,(a.1.1,a.1.2.1,(takeQueue a.2).1,a.1.2.2.2)) else
  if a.1.1 = 5 then ((takeTask a.2).2.1,(takeTask a.2).2.2,(a.1.1,a.1.2.1,a.1.2.2.1,(takeTask a.2).1,a.1.2.2.2.2)) else
  if namedB a.1.1 = true then ((takeText (a.2.1,a.2.2,16)).2.1,if (takeText (a.2.1,a.2.2,16)).2.2 = 0 ∧ ¬ nameB (takeText (a.2.1,a.2.2,16)).1 = true then 3 else (takeText (a.2.1,a.2.2,16)).2.2,(a.1.1,a.1.2.1,a.1.2.2.1,a.1.2.2.2.1,(takeText (a.2.1,a.2.2,16)).1)) else
  if a.1.1 = 9 then (a.2.2,0,a.1) else (a.2.2,3,a.1)
def decO_pre (b : ByteArray) : Prop := b.size ≤ 536870912
def decBody (b : ByteArray) : Int × Int × TOp := takesO (((takeN (b,0)).1,zNode,zQueue,zTask,ByteArray.empty),b,(takeN (b,0)).2.1)
def decO (b : ByteArray) : TOp × Int :=
  if (takeN (b,0)).2.2 ≠ 0 then (zOp,(takeN (b,0)).2.2) else
  if 9 < (takeN (b,0)).1 then (zOp,3) else
  if (decBody b).2.1 ≠ 0 then (zOp,(decBody b).2.1) else
  if (decBody b).1 ≠ b.size then (zOp,3) else ((decBody b).2.2,0)
def sameOp_pre (a : TOp × TOp) : Prop := sameNode_pre (a.1.2.1,a.2.2.1) ∧ sameTask_pre (a.1.2.2.2.1,a.2.2.2.2.1)
def sameOp (a : TOp × TOp) : Bool := decide (a.1.1 = a.2.1 ∧ a.1.2.2.1 = a.2.2.2.1 ∧ a.1.2.2.2.2 = a.2.2.2.2.2) && sameNode (a.1.2.1,a.2.2.1) && sameTask (a.1.2.2.2.1,a.2.2.2.2.1)
def wordA (k : Int) : ByteArray := if k = 1 then ⟨#[98,105,110,100]⟩ else if k = 2 then ⟨#[101,118,105,99,116]⟩ else if k = 3 then ⟨#[114,101,108,101,97,115,101]⟩ else ⟨#[63]⟩
def textA_pre (a : TAct) : Prop := a.2.1.size ≤ 1073741824 ∧ a.2.2.size ≤ 1073741824
def textA (a : TAct) : ByteArray := wordA a.1 ++ ⟨#[32]⟩ ++ a.2.1 ++ ⟨#[32]⟩ ++ a.2.2
end Go.Abs

-- interregnum/oper.named
namespace Go.Abs
open Go
def f173.args (a : Int) : List D := [.int .i64 a]
def f173.blks (a : Int) : List (List D) := []
def f173.res (a : Int) : List D := [.bool (namedB a)]
def f173.blks' (a : Int) : List (List D) := []
def f173.C : Contract := FnC f173.args f173.blks (fun _ => True) f173.res f173.blks'
end Go.Abs

/- interregnum/oper.named -/
namespace Go.Abs
open Go
set_option linter.unusedVariables false
def f173.kills (a : Int) : List Hint := []
def f173.cuts (a : Int) : List (Nat × Σ β : Type,β→Tm) := []
def f173.af (a : Int) : AF := AF.mk (.seq (.region [⟨(some 2),0,.move,[.c (.bool false)],none⟩])
 (.seq (.seq (.region [⟨(some 3),1,.move,[.t 0],none⟩])
 (.block 0 (.seq (.seq (.region [⟨(some 5),2,(.bin .eql),[.t 3,.c (.int .i64 (2))],none⟩,
 ⟨(some 4),3,.move,[.t 5],none⟩])
 (.cond (.t 4) (.skip) (.seq (.region [⟨(some 6),4,(.bin .eql),[.t 3,.c (.int .i64 (4))],none⟩,
 ⟨(some 4),5,.move,[.t 6],none⟩])
 (.cond (.t 4) (.skip) (.seq (.region [⟨(some 7),6,(.bin .eql),[.t 3,.c (.int .i64 (6))],none⟩,
 ⟨(some 4),7,.move,[.t 7],none⟩])
 (.cond (.t 4) (.skip) (.seq (.region [⟨(some 8),8,(.bin .eql),[.t 3,.c (.int .i64 (7))],none⟩,
 ⟨(some 4),9,.move,[.t 8],none⟩])
 (.cond (.t 4) (.skip) (.region [⟨(some 9),10,(.bin .eql),[.t 3,.c (.int .i64 (8))],none⟩,
 ⟨(some 4),11,.move,[.t 9],none⟩])))))))))
 (.cond (.t 4) (.seq (.region [⟨(some 2),12,.move,[.c (.bool true)],none⟩])
 (.ret)) (.skip)))))
 (.seq (.region [⟨(some 2),13,.move,[.c (.bool false)],none⟩])
 (.ret))))
 [.tmp 2] 0 9
def f173.env : Env := []
def f173.tree (a : Int) : Prop := Br (a == (2 : Int)) (Br (a == (2 : Int)) ((true = (namedB a))∧True) ((false = (namedB a))∧True)) (Br (a == (4 : Int)) (Br (a == (4 : Int)) ((true = (namedB a))∧True) ((false = (namedB a))∧True)) (Br (a == (6 : Int)) (Br (a == (6 : Int)) ((true = (namedB a))∧True) ((false = (namedB a))∧True)) (Br (a == (7 : Int)) (Br (a == (7 : Int)) ((true = (namedB a))∧True) ((false = (namedB a))∧True)) (Br (a == (8 : Int)) ((true = (namedB a))∧True) ((false = (namedB a))∧True)))))
def f173.vc (a : Int) : Prop := ((a = (2 : Int)→(true = namedB a))∧(¬ (a = (2 : Int))→((a = (4 : Int)→(true = namedB a))∧(¬ (a = (4 : Int))→((a = (6 : Int)→(true = namedB a))∧(¬ (a = (6 : Int))→((a = (7 : Int)→(true = namedB a))∧(¬ (a = (7 : Int))→((a = (8 : Int)→(true = namedB a))∧(¬ (a = (8 : Int))→(false = namedB a)))))))))))
set_option maxRecDepth 100000 in
set_option maxHeartbeats 2000000 in
theorem f173.of (a : Int) (h : f173.vc a) : f173.tree a := br h Cnd.eq (fun h1 k29 => brT Cnd.eq h1 (⟨k29,trivial⟩)) (fun h2 k30 => br k30 Cnd.eq (fun h5 k27 => brT Cnd.eq h5 (⟨k27,trivial⟩)) (fun h6 k28 => br k28 Cnd.eq (fun h9 k25 => brT Cnd.eq h9 (⟨k25,trivial⟩)) (fun h10 k26 => br k26 Cnd.eq (fun h13 k23 => brT Cnd.eq h13 (⟨k23,trivial⟩)) (fun h14 k24 => br k24 Cnd.eq (fun h17 k21 => ⟨k21,trivial⟩) (fun h18 k22 => ⟨k22,trivial⟩)))))
theorem f173.eq (a : Int) : (f173.af a).gives f173.env (f173.args a) (f173.blks a) (f173.res a) (f173.blks' a) = f173.tree a := by kernel_rfl
end Go.Abs

-- interregnum/interregnumref06.named
namespace Go.Abs
open Go
end Go.Abs

/- interregnum/interregnumref06.named -/
namespace Go.Abs
open Go
set_option linter.unusedVariables false
end Go.Abs

-- interregnum/oper.bare
namespace Go.Abs
open Go
def f172.args (a : T_api_Op) : List D := [.agg [.int .i64 a.1,.str a.2.1.1,.int .i64 a.2.1.2.1.1,.int .i64 a.2.1.2.1.2.1,.int .i64 a.2.1.2.1.2.2,.slice .ro 2 a.2.1.2.2.length (gl e_api_Label a.2.1.2.2),.str a.2.2.1.1,.int .i64 a.2.2.1.2.1,.int .i64 a.2.2.1.2.2.1,.int .i64 a.2.2.1.2.2.2,.str a.2.2.2.1.1,.str a.2.2.2.1.2.1,.int .i64 a.2.2.2.1.2.2.1,.int .i64 a.2.2.2.1.2.2.2.1.1,.int .i64 a.2.2.2.1.2.2.2.1.2.1,.int .i64 a.2.2.2.1.2.2.2.1.2.2,.slice .ro 2 a.2.2.2.1.2.2.2.2.1.length (gl e_api_Label a.2.2.2.1.2.2.2.2.1),.str a.2.2.2.1.2.2.2.2.2.1,.str a.2.2.2.1.2.2.2.2.2.2.1,.int .i64 a.2.2.2.1.2.2.2.2.2.2.2,.str a.2.2.2.2]]
def f172.blks (a : T_api_Op) : List (List D) := []
def f172.res (a : T_api_Op) : List D := [.bool (bareB a)]
def f172.blks' (a : T_api_Op) : List (List D) := []
def f172.C : Contract := FnC f172.args f172.blks (fun a => op_pre a) f172.res f172.blks'
end Go.Abs

/- interregnum/oper.bare -/
namespace Go.Abs
open Go
set_option linter.unusedVariables false
def f172.kills (a : T_api_Op) : List Hint := []
def f172.cuts (a : T_api_Op) : List (Nat × Σ β : Type,β→Tm) := [(1,⟨Unit,fun x => ⟨[.dead,.ptr 0 0,.dead,.ptr 6 0,.ptr 12 0,.dead,.dead,.dead,.dead,.dead,.dead,.dead,.dead,.dead,.dead,.dead,.dead,.dead,.dead,.dead,.dead,.dead,.dead,.dead,.dead,.dead,.dead,.dead,.dead,.dead,.dead,.dead,.dead,.dead,.dead,.dead,.dead,.dead,.dead,.dead,.dead,.dead,.dead,.dead,.dead,.dead,.dead,.dead,.dead,.dead,.dead,.dead,.dead,.dead,.dead,.dead,.dead,.dead,.dead,.dead,.dead,.dead,.dead,.dead,.dead,.dead,.dead,.dead,.dead,.dead,.dead,.dead,.dead,.dead,.dead,.dead,.dead,.dead,.dead,.dead,.dead,.dead,.dead,.dead,.dead],[(0,false,[.int .i64 a.1,.str a.2.1.1,.int .i64 a.2.1.2.1.1,.int .i64 a.2.1.2.1.2.1,.int .i64 a.2.1.2.1.2.2,.slice .ro 2 a.2.1.2.2.length (gl e_api_Label a.2.1.2.2),.str a.2.2.1.1,.int .i64 a.2.2.1.2.1,.int .i64 a.2.2.1.2.2.1,.int .i64 a.2.2.1.2.2.2,.str a.2.2.2.1.1,.str a.2.2.2.1.2.1,.int .i64 a.2.2.2.1.2.2.1,.int .i64 a.2.2.2.1.2.2.2.1.1,.int .i64 a.2.2.2.1.2.2.2.1.2.1,.int .i64 a.2.2.2.1.2.2.2.1.2.2,.slice .ro 2 a.2.2.2.1.2.2.2.2.1.length (gl e_api_Label a.2.2.2.1.2.2.2.2.1),.str a.2.2.2.1.2.2.2.2.2.1,.str a.2.2.2.1.2.2.2.2.2.2.1,.int .i64 a.2.2.2.1.2.2.2.2.2.2.2,.str a.2.2.2.2]),(6,false,[.str a.2.1.1,.int .i64 a.2.1.2.1.1,.int .i64 a.2.1.2.1.2.1,.int .i64 a.2.1.2.1.2.2,.slice .ro 2 a.2.1.2.2.length (gl e_api_Label a.2.1.2.2)]),(12,false,[.str a.2.2.2.1.1,.str a.2.2.2.1.2.1,.int .i64 a.2.2.2.1.2.2.1,.int .i64 a.2.2.2.1.2.2.2.1.1,.int .i64 a.2.2.2.1.2.2.2.1.2.1,.int .i64 a.2.2.2.1.2.2.2.1.2.2,.slice .ro 2 a.2.2.2.1.2.2.2.2.1.length (gl e_api_Label a.2.2.2.1.2.2.2.2.1),.str a.2.2.2.1.2.2.2.2.2.1,.str a.2.2.2.1.2.2.2.2.2.2.1,.int .i64 a.2.2.2.1.2.2.2.2.2.2.2])],[]⟩⟩)]
def f172.af (a : T_api_Op) : AF := AF.mk (.seq (.region [⟨(some 1),0,.box,[.t 0],none⟩,
 ⟨(some 2),1,.move,[.c (.bool false)],none⟩])
 (.seq (.orders [[⟨(some 5),2,(.fieldAddr 1),[.t 1],none⟩,⟨(some 6),3,(.load true 5),[.t 5],none⟩,⟨(some 7),4,(.fieldAddr 10),[.t 1],none⟩,⟨(some 8),5,(.load true 10),[.t 7],none⟩,⟨(some 3),6,(.alloc [.str ByteArray.empty,.int .i64 (0),.int .i64 (0),.int .i64 (0),.slice (.own 0) 2 0 gnil]),[],none⟩,⟨(some 4),12,(.alloc [.str ByteArray.empty,.str ByteArray.empty,.int .i64 (0),.int .i64 (0),.int .i64 (0),.int .i64 (0),.slice (.own 0) 2 0 gnil,.str ByteArray.empty,.str ByteArray.empty,.int .i64 (0)]),[],none⟩,⟨none,23,(.store 5),[.t 3,.t 6],none⟩,⟨none,24,(.store 10),[.t 4,.t 8],none⟩],
 [⟨(some 5),2,(.fieldAddr 1),[.t 1],none⟩,⟨(some 6),3,(.load true 5),[.t 5],none⟩,⟨(some 7),4,(.fieldAddr 10),[.t 1],none⟩,⟨(some 3),6,(.alloc [.str ByteArray.empty,.int .i64 (0),.int .i64 (0),.int .i64 (0),.slice (.own 0) 2 0 gnil]),[],none⟩,⟨(some 4),12,(.alloc [.str ByteArray.empty,.str ByteArray.empty,.int .i64 (0),.int .i64 (0),.int .i64 (0),.int .i64 (0),.slice (.own 0) 2 0 gnil,.str ByteArray.empty,.str ByteArray.empty,.int .i64 (0)]),[],none⟩,⟨none,23,(.store 5),[.t 3,.t 6],none⟩,⟨(some 8),5,(.load true 10),[.t 7],none⟩,⟨none,24,(.store 10),[.t 4,.t 8],none⟩]])
 (.seq (.cut Unit (fun x => ⟨[.dead,.ptr 0 0,.dead,.ptr 6 0,.ptr 12 0,.dead,.dead,.dead,.dead,.dead,.dead,.dead,.dead,.dead,.dead,.dead,.dead,.dead,.dead,.dead,.dead,.dead,.dead,.dead,.dead,.dead,.dead,.dead,.dead,.dead,.dead,.dead,.dead,.dead,.dead,.dead,.dead,.dead,.dead,.dead,.dead,.dead,.dead,.dead,.dead,.dead,.dead,.dead,.dead,.dead,.dead,.dead,.dead,.dead,.dead,.dead,.dead,.dead,.dead,.dead,.dead,.dead,.dead,.dead,.dead,.dead,.dead,.dead,.dead,.dead,.dead,.dead,.dead,.dead,.dead,.dead,.dead,.dead,.dead,.dead,.dead,.dead,.dead,.dead,.dead],[(0,false,[.int .i64 a.1,.str a.2.1.1,.int .i64 a.2.1.2.1.1,.int .i64 a.2.1.2.1.2.1,.int .i64 a.2.1.2.1.2.2,.slice .ro 2 a.2.1.2.2.length (gl e_api_Label a.2.1.2.2),.str a.2.2.1.1,.int .i64 a.2.2.1.2.1,.int .i64 a.2.2.1.2.2.1,.int .i64 a.2.2.1.2.2.2,.str a.2.2.2.1.1,.str a.2.2.2.1.2.1,.int .i64 a.2.2.2.1.2.2.1,.int .i64 a.2.2.2.1.2.2.2.1.1,.int .i64 a.2.2.2.1.2.2.2.1.2.1,.int .i64 a.2.2.2.1.2.2.2.1.2.2,.slice .ro 2 a.2.2.2.1.2.2.2.2.1.length (gl e_api_Label a.2.2.2.1.2.2.2.2.1),.str a.2.2.2.1.2.2.2.2.2.1,.str a.2.2.2.1.2.2.2.2.2.2.1,.int .i64 a.2.2.2.1.2.2.2.2.2.2.2,.str a.2.2.2.2]),(6,false,[.str a.2.1.1,.int .i64 a.2.1.2.1.1,.int .i64 a.2.1.2.1.2.1,.int .i64 a.2.1.2.1.2.2,.slice .ro 2 a.2.1.2.2.length (gl e_api_Label a.2.1.2.2)]),(12,false,[.str a.2.2.2.1.1,.str a.2.2.2.1.2.1,.int .i64 a.2.2.2.1.2.2.1,.int .i64 a.2.2.2.1.2.2.2.1.1,.int .i64 a.2.2.2.1.2.2.2.1.2.1,.int .i64 a.2.2.2.1.2.2.2.1.2.2,.slice .ro 2 a.2.2.2.1.2.2.2.2.1.length (gl e_api_Label a.2.2.2.1.2.2.2.2.1),.str a.2.2.2.1.2.2.2.2.2.1,.str a.2.2.2.1.2.2.2.2.2.2.1,.int .i64 a.2.2.2.1.2.2.2.2.2.2.2])],[]⟩)) (.seq (.seq (.region [⟨(some 9),25,(.fieldAddr 0),[.t 1],none⟩,
 ⟨(some 10),26,(.load false 1),[.t 9],none⟩,
 ⟨(some 11),27,(.bin .neq),[.t 10,.c (.int .i64 (1))],none⟩,
 ⟨(some 12),28,.move,[.t 11],none⟩,
 ⟨(some 13),29,(.fieldAddr 0),[.t 3],(some (12,true))⟩,
 ⟨(some 14),30,(.load false 1),[.t 13],(some (12,true))⟩,
 ⟨(some 15),31,(.bin .neq),[.t 14,.c (.str ByteArray.empty)],(some (12,true))⟩,
 ⟨(some 16),32,.move,[.t 15],(some (12,true))⟩,
 ⟨(some 17),33,(.fieldAddr 1),[.t 3],(some (16,false))⟩,
 ⟨(some 18),34,(.load true 3),[.t 17],(some (16,false))⟩,
 ⟨(some 19),35,(.build [.int .i64 (0),.int .i64 (0),.int .i64 (0)] []),[],(some (16,false))⟩,
 ⟨(some 20),36,(.eqAgg true [0,0,0]),[.t 18,.t 19],(some (16,false))⟩,
 ⟨(some 21),37,.pick,[.t 16,.c (.bool true),.t 20],(some (12,true))⟩,
 ⟨(some 22),38,.move,[.t 21],(some (12,true))⟩,
 ⟨(some 23),39,(.fieldAddr 4),[.t 3],(some (22,false))⟩,
 ⟨(some 24),40,(.load false 1),[.t 23],(some (22,false))⟩,
 ⟨(some 25),41,(.len false),[.t 24],(some (22,false))⟩,
 ⟨(some 26),42,(.bin .gtr),[.t 25,.c (.int .i64 (0))],(some (22,false))⟩,
 ⟨(some 27),43,.pick,[.t 22,.c (.bool true),.t 26],(some (12,true))⟩,
 ⟨(some 28),44,.pick,[.t 12,.t 27,.c (.bool false)],none⟩])
 (.cond (.t 28) (.seq (.region [⟨(some 2),45,.move,[.c (.bool false)],none⟩])
 (.ret)) (.skip)))
 (.seq (.seq (.region [⟨(some 29),46,(.fieldAddr 0),[.t 1],none⟩,
 ⟨(some 30),47,(.load false 1),[.t 29],none⟩,
 ⟨(some 31),48,(.bin .neq),[.t 30,.c (.int .i64 (3))],none⟩,
 ⟨(some 32),49,.move,[.t 31],none⟩,
 ⟨(some 33),50,(.fieldAddr 6),[.t 1],(some (32,true))⟩,
 ⟨(some 34),51,(.load true 4),[.t 33],(some (32,true))⟩,
 ⟨(some 35),52,(.build [.str ByteArray.empty,.int .i64 (0),.int .i64 (0),.int .i64 (0)] []),[],(some (32,true))⟩,
 ⟨(some 36),53,(.eqAgg true [2,0,0,0]),[.t 34,.t 35],(some (32,true))⟩,
 ⟨(some 37),54,.pick,[.t 32,.t 36,.c (.bool false)],none⟩])
 (.cond (.t 37) (.seq (.region [⟨(some 2),55,.move,[.c (.bool false)],none⟩])
 (.ret)) (.skip)))
 (.seq (.seq (.region [⟨(some 38),56,(.fieldAddr 0),[.t 1],none⟩,
 ⟨(some 39),57,(.load false 1),[.t 38],none⟩,
 ⟨(some 40),58,(.bin .neq),[.t 39,.c (.int .i64 (5))],none⟩,
 ⟨(some 41),59,.move,[.t 40],none⟩,
 ⟨(some 42),60,(.fieldAddr 0),[.t 4],(some (41,true))⟩,
 ⟨(some 43),61,(.load false 1),[.t 42],(some (41,true))⟩,
 ⟨(some 44),62,(.fieldAddr 1),[.t 4],(some (41,true))⟩,
 ⟨(some 45),63,(.load false 1),[.t 44],(some (41,true))⟩,
 ⟨(some 46),64,(.bin .add),[.t 43,.t 45],(some (41,true))⟩,
 ⟨(some 47),65,(.fieldAddr 7),[.t 4],(some (41,true))⟩,
 ⟨(some 48),66,(.load false 1),[.t 47],(some (41,true))⟩,
 ⟨(some 49),67,(.bin .add),[.t 46,.t 48],(some (41,true))⟩,
 ⟨(some 50),68,(.fieldAddr 8),[.t 4],(some (41,true))⟩,
 ⟨(some 51),69,(.load false 1),[.t 50],(some (41,true))⟩,
 ⟨(some 52),70,(.bin .add),[.t 49,.t 51],(some (41,true))⟩,
 ⟨(some 53),71,(.bin .neq),[.t 52,.c (.str ByteArray.empty)],(some (41,true))⟩,
 ⟨(some 54),72,.move,[.t 53],(some (41,true))⟩,
 ⟨(some 55),73,(.fieldAddr 2),[.t 4],(some (54,false))⟩,
 ⟨(some 56),74,(.load false 1),[.t 55],(some (54,false))⟩,
 ⟨(some 57),75,(.bin .neq),[.t 56,.c (.int .i64 (0))],(some (54,false))⟩,
 ⟨(some 58),76,.pick,[.t 54,.c (.bool true),.t 57],(some (41,true))⟩,
 ⟨(some 59),77,.move,[.t 58],(some (41,true))⟩,
 ⟨(some 60),78,(.fieldAddr 9),[.t 4],(some (59,false))⟩,
 ⟨(some 61),79,(.load false 1),[.t 60],(some (59,false))⟩,
 ⟨(some 62),80,(.bin .neq),[.t 61,.c (.int .i64 (0))],(some (59,false))⟩,
 ⟨(some 63),81,.pick,[.t 59,.c (.bool true),.t 62],(some (41,true))⟩,
 ⟨(some 64),82,.move,[.t 63],(some (41,true))⟩,
 ⟨(some 65),83,(.fieldAddr 3),[.t 4],(some (64,false))⟩,
 ⟨(some 66),84,(.load true 3),[.t 65],(some (64,false))⟩,
 ⟨(some 67),85,(.build [.int .i64 (0),.int .i64 (0),.int .i64 (0)] []),[],(some (64,false))⟩,
 ⟨(some 68),86,(.eqAgg true [0,0,0]),[.t 66,.t 67],(some (64,false))⟩,
 ⟨(some 69),87,.pick,[.t 64,.c (.bool true),.t 68],(some (41,true))⟩,
 ⟨(some 70),88,.move,[.t 69],(some (41,true))⟩,
 ⟨(some 71),89,(.fieldAddr 6),[.t 4],(some (70,false))⟩,
 ⟨(some 72),90,(.load false 1),[.t 71],(some (70,false))⟩,
 ⟨(some 73),91,(.len false),[.t 72],(some (70,false))⟩,
 ⟨(some 74),92,(.bin .gtr),[.t 73,.c (.int .i64 (0))],(some (70,false))⟩,
 ⟨(some 75),93,.pick,[.t 70,.c (.bool true),.t 74],(some (41,true))⟩,
 ⟨(some 76),94,.pick,[.t 41,.t 75,.c (.bool false)],none⟩])
 (.cond (.t 76) (.seq (.region [⟨(some 2),95,.move,[.c (.bool false)],none⟩])
 (.ret)) (.skip)))
 (.seq (.region [⟨(some 77),96,(.fieldAddr 0),[.t 1],none⟩,
 ⟨(some 78),97,(.load false 1),[.t 77],none⟩,
 ⟨(some 79),98,(.call false 173),[.t 78],none⟩,
 ⟨(some 80),102,.move,[.t 79],none⟩,
 ⟨(some 81),103,(.fieldAddr 20),[.t 1],(some (80,false))⟩,
 ⟨(some 82),104,(.load false 1),[.t 81],(some (80,false))⟩,
 ⟨(some 83),105,(.bin .eql),[.t 82,.c (.str ByteArray.empty)],(some (80,false))⟩,
 ⟨(some 84),106,.pick,[.t 80,.c (.bool true),.t 83],none⟩,
 ⟨(some 2),107,.move,[.t 84],none⟩])
 (.ret))))))))
 [.tmp 2] 0 84
def f172.env : Env := [(173,f173.C)]
def f172.tree (a : T_api_Op) : Prop := (∃ x1 : Unit,(a.1 = a.1)∧(a.2.1.1 = a.2.1.1)∧(a.2.1.2.1.1 = a.2.1.2.1.1)∧(a.2.1.2.1.2.1 = a.2.1.2.1.2.1)∧(a.2.1.2.1.2.2 = a.2.1.2.1.2.2)∧(a.2.1.2.2.length = a.2.1.2.2.length)∧(∀ i,i < a.2.1.2.2.length→DEqs ((gl e_api_Label a.2.1.2.2) i) ((gl e_api_Label a.2.1.2.2) i))∧(a.2.2.1.1 = a.2.2.1.1)∧(a.2.2.1.2.1 = a.2.2.1.2.1)∧(a.2.2.1.2.2.1 = a.2.2.1.2.2.1)∧(a.2.2.1.2.2.2 = a.2.2.1.2.2.2)∧(a.2.2.2.1.1 = a.2.2.2.1.1)∧(a.2.2.2.1.2.1 = a.2.2.2.1.2.1)∧(a.2.2.2.1.2.2.1 = a.2.2.2.1.2.2.1)∧(a.2.2.2.1.2.2.2.1.1 = a.2.2.2.1.2.2.2.1.1)∧(a.2.2.2.1.2.2.2.1.2.1 = a.2.2.2.1.2.2.2.1.2.1)∧(a.2.2.2.1.2.2.2.1.2.2 = a.2.2.2.1.2.2.2.1.2.2)∧(a.2.2.2.1.2.2.2.2.1.length = a.2.2.2.1.2.2.2.2.1.length)∧(∀ i,i < a.2.2.2.1.2.2.2.2.1.length→DEqs ((gl e_api_Label a.2.2.2.1.2.2.2.2.1) i) ((gl e_api_Label a.2.2.2.1.2.2.2.2.1) i))∧(a.2.2.2.1.2.2.2.2.2.1 = a.2.2.2.1.2.2.2.2.2.1)∧(a.2.2.2.1.2.2.2.2.2.2.1 = a.2.2.2.1.2.2.2.2.2.2.1)∧(a.2.2.2.1.2.2.2.2.2.2.2 = a.2.2.2.1.2.2.2.2.2.2.2)∧(a.2.2.2.2 = a.2.2.2.2)∧(a.2.1.1 = a.2.1.1)∧(a.2.1.2.1.1 = a.2.1.2.1.1)∧(a.2.1.2.1.2.1 = a.2.1.2.1.2.1)∧(a.2.1.2.1.2.2 = a.2.1.2.1.2.2)∧(a.2.1.2.2.length = a.2.1.2.2.length)∧(∀ i,i < a.2.1.2.2.length→DEqs ((gl e_api_Label a.2.1.2.2) i) ((gl e_api_Label a.2.1.2.2) i))∧(a.2.2.2.1.1 = a.2.2.2.1.1)∧(a.2.2.2.1.2.1 = a.2.2.2.1.2.1)∧(a.2.2.2.1.2.2.1 = a.2.2.2.1.2.2.1)∧(a.2.2.2.1.2.2.2.1.1 = a.2.2.2.1.2.2.2.1.1)∧(a.2.2.2.1.2.2.2.1.2.1 = a.2.2.2.1.2.2.2.1.2.1)∧(a.2.2.2.1.2.2.2.1.2.2 = a.2.2.2.1.2.2.2.1.2.2)∧(a.2.2.2.1.2.2.2.2.1.length = a.2.2.2.1.2.2.2.2.1.length)∧(∀ i,i < a.2.2.2.1.2.2.2.2.1.length→DEqs ((gl e_api_Label a.2.2.2.1.2.2.2.2.1) i) ((gl e_api_Label a.2.2.2.1.2.2.2.2.1) i))∧(a.2.2.2.1.2.2.2.2.2.1 = a.2.2.2.1.2.2.2.2.2.1)∧(a.2.2.2.1.2.2.2.2.2.2.1 = a.2.2.2.1.2.2.2.2.2.2.1)∧(a.2.2.2.1.2.2.2.2.2.2.2 = a.2.2.2.1.2.2.2.2.2.2.2)∧Br (a.1 != (1 : Int)) (Br (!(a.2.1.1.toList == ByteArray.empty.toList)) ((false = (bareB a))∧True) (Br (!((a.2.1.2.1.1 == (0 : Int)) && ((a.2.1.2.1.2.1 == (0 : Int)) && (a.2.1.2.1.2.2 == (0 : Int))))) ((false = (bareB a))∧True) (Br (decide ((0 : Int) < (a.2.1.2.2.length : Int))) ((false = (bareB a))∧True) (Br (a.1 != (3 : Int)) (Br (!((a.2.2.1.1.toList == ByteArray.empty.toList) && ((a.2.2.1.2.1 == (0 : Int)) && ((a.2.2.1.2.2.1 == (0 : Int)) && (a.2.2.1.2.2.2 == (0 : Int)))))) ((false = (bareB a))∧True) (Br (a.1 != (5 : Int)) (Br (Nat.ble (a.2.2.2.1.1.size + a.2.2.2.1.2.1.size) 9223372036854775807) (Br (Nat.ble ((a.2.2.2.1.1 ++ a.2.2.2.1.2.1).size + a.2.2.2.1.2.2.2.2.2.1.size) 9223372036854775807) (Br (Nat.ble (((a.2.2.2.1.1 ++ a.2.2.2.1.2.1) ++ a.2.2.2.1.2.2.2.2.2.1).size + a.2.2.2.1.2.2.2.2.2.2.1.size) 9223372036854775807) (Br (!((((a.2.2.2.1.1 ++ a.2.2.2.1.2.1) ++ a.2.2.2.1.2.2.2.2.2.1) ++ a.2.2.2.1.2.2.2.2.2.2.1).toList == ByteArray.empty.toList)) ((false = (bareB a))∧True) (Br (a.2.2.2.1.2.2.1 != (0 : Int)) ((false = (bareB a))∧True) (Br (a.2.2.2.1.2.2.2.2.2.2.2 != (0 : Int)) ((false = (bareB a))∧True) (Br (!((a.2.2.2.1.2.2.2.1.1 == (0 : Int)) && ((a.2.2.2.1.2.2.2.1.2.1 == (0 : Int)) && (a.2.2.2.1.2.2.2.1.2.2 == (0 : Int))))) ((false = (bareB a))∧True) (Br (decide ((0 : Int) < (a.2.2.2.1.2.2.2.2.1.length : Int))) ((false = (bareB a))∧True) (∃ c38 : Int,(a.1 = c38)∧True∧Br (namedB c38) ((true = (bareB a))∧True) (((a.2.2.2.2.toList == ByteArray.empty.toList) = (bareB a))∧True))))))) False) False) False) (∃ c59 : Int,(a.1 = c59)∧True∧Br (namedB c59) ((true = (bareB a))∧True) (((a.2.2.2.2.toList == ByteArray.empty.toList) = (bareB a))∧True)))) (Br (a.1 != (5 : Int)) (Br (Nat.ble (a.2.2.2.1.1.size + a.2.2.2.1.2.1.size) 9223372036854775807) (Br (Nat.ble ((a.2.2.2.1.1 ++ a.2.2.2.1.2.1).size + a.2.2.2.1.2.2.2.2.2.1.size) 9223372036854775807) (Br (Nat.ble (((a.2.2.2.1.1 ++ a.2.2.2.1.2.1) ++ a.2.2.2.1.2.2.2.2.2.1).size + a.2.2.2.1.2.2.2.2.2.2.1.size) 9223372036854775807) (Br (!((((a.2.2.2.1.1 ++ a.2.2.2.1.2.1) ++ a.2.2.2.1.2.2.2.2.2.1) ++ a.2.2.2.1.2.2.2.2.2.2.1).toList == ByteArray.empty.toList)) ((false = (bareB a))∧True) (Br (a.2.2.2.1.2.2.1 != (0 : Int)) ((false = (bareB a))∧True) (Br (a.2.2.2.1.2.2.2.2.2.2.2 != (0 : Int)) ((false = (bareB a))∧True) (Br (!((a.2.2.2.1.2.2.2.1.1 == (0 : Int)) && ((a.2.2.2.1.2.2.2.1.2.1 == (0 : Int)) && (a.2.2.2.1.2.2.2.1.2.2 == (0 : Int))))) ((false = (bareB a))∧True) (Br (decide ((0 : Int) < (a.2.2.2.1.2.2.2.2.1.length : Int))) ((false = (bareB a))∧True) (∃ c91 : Int,(a.1 = c91)∧True∧Br (namedB c91) ((true = (bareB a))∧True) (((a.2.2.2.2.toList == ByteArray.empty.toList) = (bareB a))∧True))))))) False) False) False) (∃ c112 : Int,(a.1 = c112)∧True∧Br (namedB c112) ((true = (bareB a))∧True) (((a.2.2.2.2.toList == ByteArray.empty.toList) = (bareB a))∧True))))))) (Br (a.1 != (3 : Int)) (Br (!((a.2.2.1.1.toList == ByteArray.empty.toList) && ((a.2.2.1.2.1 == (0 : Int)) && ((a.2.2.1.2.2.1 == (0 : Int)) && (a.2.2.1.2.2.2 == (0 : Int)))))) ((false = (bareB a))∧True) (Br (a.1 != (5 : Int)) (Br (Nat.ble (a.2.2.2.1.1.size + a.2.2.2.1.2.1.size) 9223372036854775807) (Br (Nat.ble ((a.2.2.2.1.1 ++ a.2.2.2.1.2.1).size + a.2.2.2.1.2.2.2.2.2.1.size) 9223372036854775807) (Br (Nat.ble (((a.2.2.2.1.1 ++ a.2.2.2.1.2.1) ++ a.2.2.2.1.2.2.2.2.2.1).size + a.2.2.2.1.2.2.2.2.2.2.1.size) 9223372036854775807) (Br (!((((a.2.2.2.1.1 ++ a.2.2.2.1.2.1) ++ a.2.2.2.1.2.2.2.2.2.1) ++ a.2.2.2.1.2.2.2.2.2.2.1).toList == ByteArray.empty.toList)) ((false = (bareB a))∧True) (Br (a.2.2.2.1.2.2.1 != (0 : Int)) ((false = (bareB a))∧True) (Br (a.2.2.2.1.2.2.2.2.2.2.2 != (0 : Int)) ((false = (bareB a))∧True) (Br (!((a.2.2.2.1.2.2.2.1.1 == (0 : Int)) && ((a.2.2.2.1.2.2.2.1.2.1 == (0 : Int)) && (a.2.2.2.1.2.2.2.1.2.2 == (0 : Int))))) ((false = (bareB a))∧True) (Br (decide ((0 : Int) < (a.2.2.2.1.2.2.2.2.1.length : Int))) ((false = (bareB a))∧True) (∃ c155 : Int,(a.1 = c155)∧True∧Br (namedB c155) ((true = (bareB a))∧True) (((a.2.2.2.2.toList == ByteArray.empty.toList) = (bareB a))∧True))))))) False) False) False) (∃ c176 : Int,(a.1 = c176)∧True∧Br (namedB c176) ((true = (bareB a))∧True) (((a.2.2.2.2.toList == ByteArray.empty.toList) = (bareB a))∧True)))) (Br (a.1 != (5 : Int)) (Br (Nat.ble (a.2.2.2.1.1.size + a.2.2.2.1.2.1.size) 9223372036854775807) (Br (Nat.ble ((a.2.2.2.1.1 ++ a.2.2.2.1.2.1).size + a.2.2.2.1.2.2.2.2.2.1.size) 9223372036854775807) (Br (Nat.ble (((a.2.2.2.1.1 ++ a.2.2.2.1.2.1) ++ a.2.2.2.1.2.2.2.2.2.1).size + a.2.2.2.1.2.2.2.2.2.2.1.size) 9223372036854775807) (Br (!((((a.2.2.2.1.1 ++ a.2.2.2.1.2.1) ++ a.2.2.2.1.2.2.2.2.2.1) ++ a.2.2.2.1.2.2.2.2.2.2.1).toList == ByteArray.empty.toList)) ((false = (bareB a))∧True) (Br (a.2.2.2.1.2.2.1 != (0 : Int)) ((false = (bareB a))∧True) (Br (a.2.2.2.1.2.2.2.2.2.2.2 != (0 : Int)) ((false = (bareB a))∧True) (Br (!((a.2.2.2.1.2.2.2.1.1 == (0 : Int)) && ((a.2.2.2.1.2.2.2.1.2.1 == (0 : Int)) && (a.2.2.2.1.2.2.2.1.2.2 == (0 : Int))))) ((false = (bareB a))∧True) (Br (decide ((0 : Int) < (a.2.2.2.1.2.2.2.2.1.length : Int))) ((false = (bareB a))∧True) (∃ c208 : Int,(a.1 = c208)∧True∧Br (namedB c208) ((true = (bareB a))∧True) (((a.2.2.2.2.toList == ByteArray.empty.toList) = (bareB a))∧True))))))) False) False) False) (∃ c229 : Int,(a.1 = c229)∧True∧Br (namedB c229) ((true = (bareB a))∧True) (((a.2.2.2.2.toList == ByteArray.empty.toList) = (bareB a))∧True)))))∧(∃ x1 : Unit,(a.1 = a.1)∧(a.2.1.1 = a.2.1.1)∧(a.2.1.2.1.1 = a.2.1.2.1.1)∧(a.2.1.2.1.2.1 = a.2.1.2.1.2.1)∧(a.2.1.2.1.2.2 = a.2.1.2.1.2.2)∧(a.2.1.2.2.length = a.2.1.2.2.length)∧(∀ i,i < a.2.1.2.2.length→DEqs ((gl e_api_Label a.2.1.2.2) i) ((gl e_api_Label a.2.1.2.2) i))∧(a.2.2.1.1 = a.2.2.1.1)∧(a.2.2.1.2.1 = a.2.2.1.2.1)∧(a.2.2.1.2.2.1 = a.2.2.1.2.2.1)∧(a.2.2.1.2.2.2 = a.2.2.1.2.2.2)∧(a.2.2.2.1.1 = a.2.2.2.1.1)∧(a.2.2.2.1.2.1 = a.2.2.2.1.2.1)∧(a.2.2.2.1.2.2.1 = a.2.2.2.1.2.2.1)∧(a.2.2.2.1.2.2.2.1.1 = a.2.2.2.1.2.2.2.1.1)∧(a.2.2.2.1.2.2.2.1.2.1 = a.2.2.2.1.2.2.2.1.2.1)∧(a.2.2.2.1.2.2.2.1.2.2 = a.2.2.2.1.2.2.2.1.2.2)∧(a.2.2.2.1.2.2.2.2.1.length = a.2.2.2.1.2.2.2.2.1.length)∧(∀ i,i < a.2.2.2.1.2.2.2.2.1.length→DEqs ((gl e_api_Label a.2.2.2.1.2.2.2.2.1) i) ((gl e_api_Label a.2.2.2.1.2.2.2.2.1) i))∧(a.2.2.2.1.2.2.2.2.2.1 = a.2.2.2.1.2.2.2.2.2.1)∧(a.2.2.2.1.2.2.2.2.2.2.1 = a.2.2.2.1.2.2.2.2.2.2.1)∧(a.2.2.2.1.2.2.2.2.2.2.2 = a.2.2.2.1.2.2.2.2.2.2.2)∧(a.2.2.2.2 = a.2.2.2.2)∧(a.2.1.1 = a.2.1.1)∧(a.2.1.2.1.1 = a.2.1.2.1.1)∧(a.2.1.2.1.2.1 = a.2.1.2.1.2.1)∧(a.2.1.2.1.2.2 = a.2.1.2.1.2.2)∧(a.2.1.2.2.length = a.2.1.2.2.length)∧(∀ i,i < a.2.1.2.2.length→DEqs ((gl e_api_Label a.2.1.2.2) i) ((gl e_api_Label a.2.1.2.2) i))∧(a.2.2.2.1.1 = a.2.2.2.1.1)∧(a.2.2.2.1.2.1 = a.2.2.2.1.2.1)∧(a.2.2.2.1.2.2.1 = a.2.2.2.1.2.2.1)∧(a.2.2.2.1.2.2.2.1.1 = a.2.2.2.1.2.2.2.1.1)∧(a.2.2.2.1.2.2.2.1.2.1 = a.2.2.2.1.2.2.2.1.2.1)∧(a.2.2.2.1.2.2.2.1.2.2 = a.2.2.2.1.2.2.2.1.2.2)∧(a.2.2.2.1.2.2.2.2.1.length = a.2.2.2.1.2.2.2.2.1.length)∧(∀ i,i < a.2.2.2.1.2.2.2.2.1.length→DEqs ((gl e_api_Label a.2.2.2.1.2.2.2.2.1) i) ((gl e_api_Label a.2.2.2.1.2.2.2.2.1) i))∧(a.2.2.2.1.2.2.2.2.2.1 = a.2.2.2.1.2.2.2.2.2.1)∧(a.2.2.2.1.2.2.2.2.2.2.1 = a.2.2.2.1.2.2.2.2.2.2.1)∧(a.2.2.2.1.2.2.2.2.2.2.2 = a.2.2.2.1.2.2.2.2.2.2.2)∧Br (a.1 != (1 : Int)) (Br (!(a.2.1.1.toList == ByteArray.empty.toList)) ((false = (bareB a))∧True) (Br (!((a.2.1.2.1.1 == (0 : Int)) && ((a.2.1.2.1.2.1 == (0 : Int)) && (a.2.1.2.1.2.2 == (0 : Int))))) ((false = (bareB a))∧True) (Br (decide ((0 : Int) < (a.2.1.2.2.length : Int))) ((false = (bareB a))∧True) (Br (a.1 != (3 : Int)) (Br (!((a.2.2.1.1.toList == ByteArray.empty.toList) && ((a.2.2.1.2.1 == (0 : Int)) && ((a.2.2.1.2.2.1 == (0 : Int)) && (a.2.2.1.2.2.2 == (0 : Int)))))) ((false = (bareB a))∧True) (Br (a.1 != (5 : Int)) (Br (Nat.ble (a.2.2.2.1.1.size + a.2.2.2.1.2.1.size) 9223372036854775807) (Br (Nat.ble ((a.2.2.2.1.1 ++ a.2.2.2.1.2.1).size + a.2.2.2.1.2.2.2.2.2.1.size) 9223372036854775807) (Br (Nat.ble (((a.2.2.2.1.1 ++ a.2.2.2.1.2.1) ++ a.2.2.2.1.2.2.2.2.2.1).size + a.2.2.2.1.2.2.2.2.2.2.1.size) 9223372036854775807) (Br (!((((a.2.2.2.1.1 ++ a.2.2.2.1.2.1) ++ a.2.2.2.1.2.2.2.2.2.1) ++ a.2.2.2.1.2.2.2.2.2.2.1).toList == ByteArray.empty.toList)) ((false = (bareB a))∧True) (Br (a.2.2.2.1.2.2.1 != (0 : Int)) ((false = (bareB a))∧True) (Br (a.2.2.2.1.2.2.2.2.2.2.2 != (0 : Int)) ((false = (bareB a))∧True) (Br (!((a.2.2.2.1.2.2.2.1.1 == (0 : Int)) && ((a.2.2.2.1.2.2.2.1.2.1 == (0 : Int)) && (a.2.2.2.1.2.2.2.1.2.2 == (0 : Int))))) ((false = (bareB a))∧True) (Br (decide ((0 : Int) < (a.2.2.2.1.2.2.2.2.1.length : Int))) ((false = (bareB a))∧True) (∃ c38 : Int,(a.1 = c38)∧True∧Br (namedB c38) ((true = (bareB a))∧True) (((a.2.2.2.2.toList == ByteArray.empty.toList) = (bareB a))∧True))))))) False) False) False) (∃ c59 : Int,(a.1 = c59)∧True∧Br (namedB c59) ((true = (bareB a))∧True) (((a.2.2.2.2.toList == ByteArray.empty.toList) = (bareB a))∧True)))) (Br (a.1 != (5 : Int)) (Br (Nat.ble (a.2.2.2.1.1.size + a.2.2.2.1.2.1.size) 9223372036854775807) (Br (Nat.ble ((a.2.2.2.1.1 ++ a.2.2.2.1.2.1).size + a.2.2.2.1.2.2.2.2.2.1.size) 9223372036854775807) (Br (Nat.ble (((a.2.2.2.1.1 ++ a.2.2.2.1.2.1) ++ a.2.2.2.1.2.2.2.2.2.1).size + a.2.2.2.1.2.2.2.2.2.2.1.size) 9223372036854775807) (Br (!((((a.2.2.2.1.1 ++ a.2.2.2.1.2.1) ++ a.2.2.2.1.2.2.2.2.2.1) ++ a.2.2.2.1.2.2.2.2.2.2.1).toList == ByteArray.empty.toList)) ((false = (bareB a))∧True) (Br (a.2.2.2.1.2.2.1 != (0 : Int)) ((false = (bareB a))∧True) (Br (a.2.2.2.1.2.2.2.2.2.2.2 != (0 : Int)) ((false = (bareB a))∧True) (Br (!((a.2.2.2.1.2.2.2.1.1 == (0 : Int)) && ((a.2.2.2.1.2.2.2.1.2.1 == (0 : Int)) && (a.2.2.2.1.2.2.2.1.2.2 == (0 : Int))))) ((false = (bareB a))∧True) (Br (decide ((0 : Int) < (a.2.2.2.1.2.2.2.2.1.length : Int))) ((false = (bareB a))∧True) (∃ c91 : Int,(a.1 = c91)∧True∧Br (namedB c91) ((true = (bareB a))∧True) (((a.2.2.2.2.toList == ByteArray.empty.toList) = (bareB a))∧True))))))) False) False) False) (∃ c112 : Int,(a.1 = c112)∧True∧Br (namedB c112) ((true = (bareB a))∧True) (((a.2.2.2.2.toList == ByteArray.empty.toList) = (bareB a))∧True))))))) (Br (a.1 != (3 : Int)) (Br (!((a.2.2.1.1.toList == ByteArray.empty.toList) && ((a.2.2.1.2.1 == (0 : Int)) && ((a.2.2.1.2.2.1 == (0 : Int)) && (a.2.2.1.2.2.2 == (0 : Int)))))) ((false = (bareB a))∧True) (Br (a.1 != (5 : Int)) (Br (Nat.ble (a.2.2.2.1.1.size + a.2.2.2.1.2.1.size) 9223372036854775807) (Br (Nat.ble ((a.2.2.2.1.1 ++ a.2.2.2.1.2.1).size + a.2.2.2.1.2.2.2.2.2.1.size) 9223372036854775807) (Br (Nat.ble (((a.2.2.2.1.1 ++ a.2.2.2.1.2.1) ++ a.2.2.2.1.2.2.2.2.2.1).size + a.2.2.2.1.2.2.2.2.2.2.1.size) 9223372036854775807) (Br (!((((a.2.2.2.1.1 ++ a.2.2.2.1.2.1) ++ a.2.2.2.1.2.2.2.2.2.1) ++ a.2.2.2.1.2.2.2.2.2.2.1).toList == ByteArray.empty.toList)) ((false = (bareB a))∧True) (Br (a.2.2.2.1.2.2.1 != (0 : Int)) ((false = (bareB a))∧True) (Br (a.2.2.2.1.2.2.2.2.2.2.2 != (0 : Int)) ((false = (bareB a))∧True) (Br (!((a.2.2.2.1.2.2.2.1.1 == (0 : Int)) && ((a.2.2.2.1.2.2.2.1.2.1 == (0 : Int)) && (a.2.2.2.1.2.2.2.1.2.2 == (0 : Int))))) ((false = (bareB a))∧True) (Br (decide ((0 : Int) < (a.2.2.2.1.2.2.2.2.1.length : Int))) ((false = (bareB a))∧True) (∃ c155 : Int,(a.1 = c155)∧True∧Br (namedB c155) ((true = (bareB a))∧True) (((a.2.2.2.2.toList == ByteArray.empty.toList) = (bareB a))∧True))))))) False) False) False) (∃ c176 : Int,(a.1 = c176)∧True∧Br (namedB c176) ((true = (bareB a))∧True) (((a.2.2.2.2.toList == ByteArray.empty.toList) = (bareB a))∧True)))) (Br (a.1 != (5 : Int)) (Br (Nat.ble (a.2.2.2.1.1.size + a.2.2.2.1.2.1.size) 9223372036854775807) (Br (Nat.ble ((a.2.2.2.1.1 ++ a.2.2.2.1.2.1).size + a.2.2.2.1.2.2.2.2.2.1.size) 9223372036854775807) (Br (Nat.ble (((a.2.2.2.1.1 ++ a.2.2.2.1.2.1) ++ a.2.2.2.1.2.2.2.2.2.1).size + a.2.2.2.1.2.2.2.2.2.2.1.size) 9223372036854775807) (Br (!((((a.2.2.2.1.1 ++ a.2.2.2.1.2.1) ++ a.2.2.2.1.2.2.2.2.2.1) ++ a.2.2.2.1.2.2.2.2.2.2.1).toList == ByteArray.empty.toList)) ((false = (bareB a))∧True) (Br (a.2.2.2.1.2.2.1 != (0 : Int)) ((false = (bareB a))∧True) (Br (a.2.2.2.1.2.2.2.2.2.2.2 != (0 : Int)) ((false = (bareB a))∧True) (Br (!((a.2.2.2.1.2.2.2.1.1 == (0 : Int)) && ((a.2.2.2.1.2.2.2.1.2.1 == (0 : Int)) && (a.2.2.2.1.2.2.2.1.2.2 == (0 : Int))))) ((false = (bareB a))∧True) (Br (decide ((0 : Int) < (a.2.2.2.1.2.2.2.2.1.length : Int))) ((false = (bareB a))∧True) (∃ c208 : Int,(a.1 = c208)∧True∧Br (namedB c208) ((true = (bareB a))∧True) (((a.2.2.2.2.toList == ByteArray.empty.toList) = (bareB a))∧True))))))) False) False) False) (∃ c229 : Int,(a.1 = c229)∧True∧Br (namedB c229) ((true = (bareB a))∧True) (((a.2.2.2.2.toList == ByteArray.empty.toList) = (bareB a))∧True)))))
def f172.vc (a : T_api_Op) : Prop := ((¬ a.1 = (1 : Int)→((¬ (a.2.1.1 = ByteArray.empty)→(false = bareB a))∧(¬ (¬ (a.2.1.1 = ByteArray.empty))→((¬ (a.2.1.2.1.1 = (0 : Int)∧a.2.1.2.1.2.1 = (0 : Int)∧a.2.1.2.1.2.2 = (0 : Int))→(false = bareB a))∧(¬ (¬ (a.2.1.2.1.1 = (0 : Int)∧a.2.1.2.1.2.1 = (0 : Int)∧a.2.1.2.1.2.2 = (0 : Int)))→(((0 : Int) < (a.2.1.2.2.length : Int)→(false = bareB a))∧(¬ ((0 : Int) < (a.2.1.2.2.length : Int))→((¬ a.1 = (3 : Int)→((¬ (a.2.2.1.1 = ByteArray.empty∧a.2.2.1.2.1 = (0 : Int)∧a.2.2.1.2.2.1 = (0 : Int)∧a.2.2.1.2.2.2 = (0 : Int))→(false = bareB a))∧(¬ (¬ (a.2.2.1.1 = ByteArray.empty∧a.2.2.1.2.1 = (0 : Int)∧a.2.2.1.2.2.1 = (0 : Int)∧a.2.2.1.2.2.2 = (0 : Int)))→((¬ a.1 = (5 : Int)→((a.2.2.2.1.1.size + a.2.2.2.1.2.1.size≤9223372036854775807)∧(((a.2.2.2.1.1 ++ a.2.2.2.1.2.1).size + a.2.2.2.1.2.2.2.2.2.1.size≤9223372036854775807)∧((((a.2.2.2.1.1 ++ a.2.2.2.1.2.1) ++ a.2.2.2.1.2.2.2.2.2.1).size + a.2.2.2.1.2.2.2.2.2.2.1.size≤9223372036854775807)∧((¬ ((((a.2.2.2.1.1 ++ a.2.2.2.1.2.1) ++ a.2.2.2.1.2.2.2.2.2.1) ++ a.2.2.2.1.2.2.2.2.2.2.1) = ByteArray.empty)→(false = bareB a))∧(¬ (¬ ((((a.2.2.2.1.1 ++ a.2.2.2.1.2.1) ++ a.2.2.2.1.2.2.2.2.2.1) ++ a.2.2.2.1.2.2.2.2.2.2.1) = ByteArray.empty))→((¬ a.2.2.2.1.2.2.1 = (0 : Int)→(false = bareB a))∧(¬ (¬ a.2.2.2.1.2.2.1 = (0 : Int))→((¬ a.2.2.2.1.2.2.2.2.2.2.2 = (0 : Int)→(false = bareB a))∧(¬ (¬ a.2.2.2.1.2.2.2.2.2.2.2 = (0 : Int))→((¬ (a.2.2.2.1.2.2.2.1.1 = (0 : Int)∧a.2.2.2.1.2.2.2.1.2.1 = (0 : Int)∧a.2.2.2.1.2.2.2.1.2.2 = (0 : Int))→(false = bareB a))∧(¬ (¬ (a.2.2.2.1.2.2.2.1.1 = (0 : Int)∧a.2.2.2.1.2.2.2.1.2.1 = (0 : Int)∧a.2.2.2.1.2.2.2.1.2.2 = (0 : Int)))→(((0 : Int) < (a.2.2.2.1.2.2.2.2.1.length : Int)→(false = bareB a))∧(¬ ((0 : Int) < (a.2.2.2.1.2.2.2.2.1.length : Int))→(((namedB (a.1)) = true→(true = bareB a))∧(¬ ((namedB (a.1)) = true)→((a.2.2.2.2.toList == ByteArray.empty.toList) = bareB a)))))))))))))))))∧(¬ (¬ a.1 = (5 : Int))→(((namedB (a.1)) = true→(true = bareB a))∧(¬ ((namedB (a.1)) = true)→((a.2.2.2.2.toList == ByteArray.empty.toList) = bareB a))))))))∧(¬ (¬ a.1 = (3 : Int))→((¬ a.1 = (5 : Int)→((a.2.2.2.1.1.size + a.2.2.2.1.2.1.size≤9223372036854775807)∧(((a.2.2.2.1.1 ++ a.2.2.2.1.2.1).size + a.2.2.2.1.2.2.2.2.2.1.size≤9223372036854775807)∧((((a.2.2.2.1.1 ++ a.2.2.2.1.2.1) ++ a.2.2.2.1.2.2.2.2.2.1).size + a.2.2.2.1.2.2.2.2.2.2.1.size≤9223372036854775807)∧((¬ ((((a.2.2.2.1.1 ++ a.2.2.2.1.2.1) ++ a.2.2.2.1.2.2.2.2.2.1) ++ a.2.2.2.1.2.2.2.2.2.2.1) = ByteArray.empty)→(false = bareB a))∧(¬ (¬ ((((a.2.2.2.1.1 ++ a.2.2.2.1.2.1) ++ a.2.2.2.1.2.2.2.2.2.1) ++ a.2.2.2.1.2.2.2.2.2.2.1) = ByteArray.empty))→((¬ a.2.2.2.1.2.2.1 = (0 : Int)→(false = bareB a))∧(¬ (¬ a.2.2.2.1.2.2.1 = (0 : Int))→((¬ a.2.2.2.1.2.2.2.2.2.2.2 = (0 : Int)→(false = bareB a))∧(¬ (¬ a.2.2.2.1.2.2.2.2.2.2.2 = (0 : Int))→((¬ (a.2.2.2.1.2.2.2.1.1 = (0 : Int)∧a.2.2.2.1.2.2.2.1.2.1 = (0 : Int)∧a.2.2.2.1.2.2.2.1.2.2 = (0 : Int))→(false = bareB a))∧(¬ (¬ (a.2.2.2.1.2.2.2.1.1 = (0 : Int)∧a.2.2.2.1.2.2.2.1.2.1 = (0 : Int)∧a.2.2.2.1.2.2.2.1.2.2 = (0 : Int)))→(((0 : Int) < (a.2.2.2.1.2.2.2.2.1.length : Int)→(false = bareB a))∧(¬ ((0 : Int) < (a.2.2.2.1.2.2.2.2.1.length : Int))→(((namedB (a.1)) = true→(true = bareB a))∧(¬ ((namedB (a.1)) = true)→((a.2.2.2.2.toList == ByteArray.empty.toList) = bareB a)))))))))))))))))∧(¬ (¬ a.1 = (5 : Int))→(((namedB (a.1)) = true→(true = bareB a))∧(¬ ((namedB (a.1)) = true)→((a.2.2.2.2.toList == ByteArray.empty.toList) = bareB a))))))))))))))∧(¬ (¬ a.1 = (1 : Int))→((¬ a.1 = (3 : Int)→((¬ (a.2.2.1.1 = ByteArray.empty∧a.2.2.1.2.1 = (0 : Int)∧a.2.2.1.2.2.1 = (0 : Int)∧a.2.2.1.2.2.2 = (0 : Int))→(false = bareB a))∧(¬ (¬ (a.2.2.1.1 = ByteArray.empty∧a.2.2.1.2.1 = (0 : Int)∧a.2.2.1.2.2.1 = (0 : Int)∧a.2.2.1.2.2.2 = (0 : Int)))→((¬ a.1 = (5 : Int)→((a.2.2.2.1.1.size + a.2.2.2.1.2.1.size≤9223372036854775807)∧(((a.2.2.2.1.1 ++ a.2.2.2.1.2.1).size + a.2.2.2.1.2.2.2.2.2.1.size≤9223372036854775807)∧((((a.2.2.2.1.1 ++ a.2.2.2.1.2.1) ++ a.2.2.2.1.2.2.2.2.2.1).size + a.2.2.2.1.2.2.2.2.2.2.1.size≤9223372036854775807)∧((¬ ((((a.2.2.2.1.1 ++ a.2.2.2.1.2.1) ++ a.2.2.2.1.2.2.2.2.2.1) ++ a.2.2.2.1.2.2.2.2.2.2.1) = ByteArray.empty)→(false = bareB a))∧(¬ (¬ ((((a.2.2.2.1.1 ++ a.2.2.2.1.2.1) ++ a.2.2.2.1.2.2.2.2.2.1) ++ a.2.2.2.1.2.2.2.2.2.2.1) = ByteArray.empty))→((¬ a.2.2.2.1.2.2.1 = (0 : Int)→(false = bareB a))∧(¬ (¬ a.2.2.2.1.2.2.1 = (0 : Int))→((¬ a.2.2.2.1.2.2.2.2.2.2.2 = (0 : Int)→(false = bareB a))∧(¬ (¬ a.2.2.2.1.2.2.2.2.2.2.2 = (0 : Int))→((¬ (a.2.2.2.1.2.2.2.1.1 = (0 : Int)∧a.2.2.2.1.2.2.2.1.2.1 = (0 : Int)∧a.2.2.2.1.2.2.2.1.2.2 = (0 : Int))→(false = bareB a))∧(¬ (¬ (a.2.2.2.1.2.2.2.1.1 = (0 : Int)∧a.2.2.2.1.2.2.2.1.2.1 = (0 : Int)∧a.2.2.2.1.2.2.2.1.2.2 = (0 : Int)))→(((0 : Int) < (a.2.2.2.1.2.2.2.2.1.length : Int)→(false = bareB a))∧(¬ ((0 : Int) < (a.2.2.2.1.2.2.2.2.1.length : Int))→(((namedB (a.1)) = true→(true = bareB a))∧(¬ ((namedB (a.1)) = true)→((a.2.2.2.2.toList == ByteArray.empty.toList) = bareB a)))))))))))))))))∧(¬ (¬ a.1 = (5 : Int))→(((namedB (a.1)) = true→(true = bareB a))∧(¬ ((namedB (a.1)) = true)→((a.2.2.2.2.toList == ByteArray.empty.toList) = bareB a))))))))∧(¬ (¬ a.1 = (3 : Int))→((¬ a.1 = (5 : Int)→((a.2.2.2.1.1.size + a.2.2.2.1.2.1.size≤9223372036854775807)∧(((a.2.2.2.1.1 ++ a.2.2.2.1.2.1).size + a.2.2.2.1.2.2.2.2.2.1.size≤9223372036854775807)∧((((a.2.2.2.1.1 ++ a.2.2.2.1.2.1) ++ a.2.2.2.1.2.2.2.2.2.1).size + a.2.2.2.1.2.2.2.2.2.2.1.size≤9223372036854775807)∧((¬ ((((a.2.2.2.1.1 ++ a.2.2.2.1.2.1) ++ a.2.2.2.1.2.2.2.2.2.1) ++ a.2.2.2.1.2.2.2.2.2.2.1) = ByteArray.empty)→(false = bareB a))∧(¬ (¬ ((((a.2.2.2.1.1 ++ a.2.2.2.1.2.1) ++ a.2.2.2.1.2.2.2.2.2.1) ++ a.2.2.2.1.2.2.2.2.2.2.1) = ByteArray.empty))→((¬ a.2.2.2.1.2.2.1 = (0 : Int)→(false = bareB a))∧(¬ (¬ a.2.2.2.1.2.2.1 = (0 : Int))→((¬ a.2.2.2.1.2.2.2.2.2.2.2 = (0 : Int)→(false = bareB a))∧(¬ (¬ a.2.2.2.1.2.2.2.2.2.2.2 = (0 : Int))→((¬ (a.2.2.2.1.2.2.2.1.1 = (0 : Int)∧a.2.2.2.1.2.2.2.1.2.1 = (0 : Int)∧a.2.2.2.1.2.2.2.1.2.2 = (0 : Int))→(false = bareB a))∧(¬ (¬ (a.2.2.2.1.2.2.2.1.1 = (0 : Int)∧a.2.2.2.1.2.2.2.1.2.1 = (0 : Int)∧a.2.2.2.1.2.2.2.1.2.2 = (0 : Int)))→(((0 : Int) < (a.2.2.2.1.2.2.2.2.1.length : Int)→(false = bareB a))∧(¬ ((0 : Int) < (a.2.2.2.1.2.2.2.2.1.length : Int))→(((namedB (a.1)) = true→(true = bareB a))∧(¬ ((namedB (a.1)) = true)→((a.2.2.2.2.toList == ByteArray.empty.toList) = bareB a)))))))))))))))))∧(¬ (¬ a.1 = (5 : Int))→(((namedB (a.1)) = true→(true = bareB a))∧(¬ ((namedB (a.1)) = true)→((a.2.2.2.2.toList == ByteArray.empty.toList) = bareB a)))))))))
set_option maxRecDepth 100000 in
set_option maxHeartbeats 2000000 in
theorem f172.of (a : T_api_Op) (h : f172.vc a) : f172.tree a := ⟨⟨(),⟨rfl,⟨rfl,⟨rfl,⟨rfl,⟨rfl,slK (Rds.self (enc := e_api_Label)) (⟨rfl,⟨rfl,⟨rfl,⟨rfl,⟨rfl,⟨rfl,⟨rfl,⟨rfl,⟨rfl,⟨rfl,slK (Rds.self (enc := e_api_Label)) (⟨rfl,⟨rfl,⟨rfl,⟨rfl,⟨rfl,⟨rfl,⟨rfl,⟨rfl,slK (Rds.self (enc := e_api_Label)) (⟨rfl,⟨rfl,⟨rfl,⟨rfl,⟨rfl,⟨rfl,slK (Rds.self (enc := e_api_Label)) (⟨rfl,⟨rfl,⟨rfl,br h Cnd.ne (fun h2 k241 => br k241 (Cnd.not Cnd.seq) (fun h4 k128 => ⟨k128,trivial⟩) (fun h5 k129 => br k129 (Cnd.not (Cnd.and Cnd.eq (Cnd.and Cnd.eq Cnd.eq))) (fun h7 k126 => ⟨k126,trivial⟩) (fun h8 k127 => br k127 Cnd.dec (fun h10 k124 => ⟨k124,trivial⟩) (fun h11 k125 => br k125 Cnd.ne (fun h13 k122 => br k122 (Cnd.not (Cnd.and Cnd.seq (Cnd.and Cnd.eq (Cnd.and Cnd.eq Cnd.eq)))) (fun h15 k69 => ⟨k69,trivial⟩) (fun h16 k70 => br k70 Cnd.ne (fun h18 k67 => chk k67.2 Cnd.ble k67.1 (fun h20 k58 => chk k58.2 Cnd.ble k58.1 (fun h21 k57 => chk k57.2 Cnd.ble k57.1 (fun h22 k56 => br k56 (Cnd.not Cnd.seq) (fun h23 k54 => ⟨k54,trivial⟩) (fun h24 k55 => br k55 Cnd.ne (fun h26 k52 => ⟨k52,trivial⟩) (fun h27 k53 => br k53 Cnd.ne (fun h29 k50 => ⟨k50,trivial⟩) (fun h30 k51 => br k51 (Cnd.not (Cnd.and Cnd.eq (Cnd.and Cnd.eq Cnd.eq))) (fun h32 k48 => ⟨k48,trivial⟩) (fun h33 k49 => br k49 Cnd.dec (fun h35 k46 => ⟨k46,trivial⟩) (fun h36 k47 => ⟨a.1,⟨rfl,⟨trivial,br k47 Cnd.b (fun h39 k43 => ⟨k43,trivial⟩) (fun h40 k44 => ⟨k44,trivial⟩)⟩⟩⟩))))))))) (fun h19 k68 => ⟨a.1,⟨rfl,⟨trivial,br k68 Cnd.b (fun h60 k64 => ⟨k64,trivial⟩) (fun h61 k65 => ⟨k65,trivial⟩)⟩⟩⟩))) (fun h14 k123 => br k123 Cnd.ne (fun h71 k120 => chk k120.2 Cnd.ble k120.1 (fun h73 k111 => chk k111.2 Cnd.ble k111.1 (fun h74 k110 => chk k110.2 Cnd.ble k110.1 (fun h75 k109 => br k109 (Cnd.not Cnd.seq) (fun h76 k107 => ⟨k107,trivial⟩) (fun h77 k108 => br k108 Cnd.ne (fun h79 k105 => ⟨k105,trivial⟩) (fun h80 k106 => br k106 Cnd.ne (fun h82 k103 => ⟨k103,trivial⟩) (fun h83 k104 => br k104 (Cnd.not (Cnd.and Cnd.eq (Cnd.and Cnd.eq Cnd.eq))) (fun h85 k101 => ⟨k101,trivial⟩) (fun h86 k102 => br k102 Cnd.dec (fun h88 k99 => ⟨k99,trivial⟩) (fun h89 k100 => ⟨a.1,⟨rfl,⟨trivial,br k100 Cnd.b (fun h92 k96 => ⟨k96,trivial⟩) (fun h93 k97 => ⟨k97,trivial⟩)⟩⟩⟩))))))))) (fun h72 k121 => ⟨a.1,⟨rfl,⟨trivial,br k121 Cnd.b (fun h113 k117 => ⟨k117,trivial⟩) (fun h114 k118 => ⟨k118,trivial⟩)⟩⟩⟩)))))) (fun h3 k242 => br k242 Cnd.ne (fun h130 k239 => br k239 (Cnd.not (Cnd.and Cnd.seq (Cnd.and Cnd.eq (Cnd.and Cnd.eq Cnd.eq)))) (fun h132 k186 => ⟨k186,trivial⟩) (fun h133 k187 => br k187 Cnd.ne (fun h135 k184 => chk k184.2 Cnd.ble k184.1 (fun h137 k175 => chk k175.2 Cnd.ble k175.1 (fun h138 k174 => chk k174.2 Cnd.ble k174.1 (fun h139 k173 => br k173 (Cnd.not Cnd.seq) (fun h140 k171 => ⟨k171,trivial⟩) (fun h141 k172 => br k172 Cnd.ne (fun h143 k169 => ⟨k169,trivial⟩) (fun h144 k170 => br k170 Cnd.ne (fun h146 k167 => ⟨k167,trivial⟩) (fun h147 k168 => br k168 (Cnd.not (Cnd.and Cnd.eq (Cnd.and Cnd.eq Cnd.eq))) (fun h149 k165 => ⟨k165,trivial⟩) (fun h150 k166 => br k166 Cnd.dec (fun h152 k163 => ⟨k163,trivial⟩) (fun h153 k164 => ⟨a.1,⟨rfl,⟨trivial,br k164 Cnd.b (fun h156 k160 => ⟨k160,trivial⟩) (fun h157 k161 => ⟨k161,trivial⟩)⟩⟩⟩))))))))) (fun h136 k185 => ⟨a.1,⟨rfl,⟨trivial,br k185 Cnd.b (fun h177 k181 => ⟨k181,trivial⟩) (fun h178 k182 => ⟨k182,trivial⟩)⟩⟩⟩))) (fun h131 k240 => br k240 Cnd.ne (fun h188 k237 => chk k237.2 Cnd.ble k237.1 (fun h190 k228 => chk k228.2 Cnd.ble k228.1 (fun h191 k227 => chk k227.2 Cnd.ble k227.1 (fun h192 k226 => br k226 (Cnd.not Cnd.seq) (fun h193 k224 => ⟨k224,trivial⟩) (fun h194 k225 => br k225 Cnd.ne (fun h196 k222 => ⟨k222,trivial⟩) (fun h197 k223 => br k223 Cnd.ne (fun h199 k220 => ⟨k220,trivial⟩) (fun h200 k221 => br k221 (Cnd.not (Cnd.and Cnd.eq (Cnd.and Cnd.eq Cnd.eq))) (fun h202 k218 => ⟨k218,trivial⟩) (fun h203 k219 => br k219 Cnd.dec (fun h205 k216 => ⟨k216,trivial⟩) (fun h206 k217 => ⟨a.1,⟨rfl,⟨trivial,br k217 Cnd.b (fun h209 k213 => ⟨k213,trivial⟩) (fun h210 k214 => ⟨k214,trivial⟩)⟩⟩⟩))))))))) (fun h189 k238 => ⟨a.1,⟨rfl,⟨trivial,br k238 Cnd.b (fun h230 k234 => ⟨k234,trivial⟩) (fun h231 k235 => ⟨k235,trivial⟩)⟩⟩⟩)))⟩⟩⟩)⟩⟩⟩⟩⟩⟩)⟩⟩⟩⟩⟩⟩⟩⟩)⟩⟩⟩⟩⟩⟩⟩⟩⟩⟩)⟩⟩⟩⟩⟩⟩,⟨(),⟨rfl,⟨rfl,⟨rfl,⟨rfl,⟨rfl,slK (Rds.self (enc := e_api_Label)) (⟨rfl,⟨rfl,⟨rfl,⟨rfl,⟨rfl,⟨rfl,⟨rfl,⟨rfl,⟨rfl,⟨rfl,slK (Rds.self (enc := e_api_Label)) (⟨rfl,⟨rfl,⟨rfl,⟨rfl,⟨rfl,⟨rfl,⟨rfl,⟨rfl,slK (Rds.self (enc := e_api_Label)) (⟨rfl,⟨rfl,⟨rfl,⟨rfl,⟨rfl,⟨rfl,slK (Rds.self (enc := e_api_Label)) (⟨rfl,⟨rfl,⟨rfl,br h Cnd.ne (fun h2 k241 => br k241 (Cnd.not Cnd.seq) (fun h4 k128 => ⟨k128,trivial⟩) (fun h5 k129 => br k129 (Cnd.not (Cnd.and Cnd.eq (Cnd.and Cnd.eq Cnd.eq))) (fun h7 k126 => ⟨k126,trivial⟩) (fun h8 k127 => br k127 Cnd.dec (fun h10 k124 => ⟨k124,trivial⟩) (fun h11 k125 => br k125 Cnd.ne (fun h13 k122 => br k122 (Cnd.not (Cnd.and Cnd.seq (Cnd.and Cnd.eq (Cnd.and Cnd.eq Cnd.eq)))) (fun h15 k69 => ⟨k69,trivial⟩) (fun h16 k70 => br k70 Cnd.ne (fun h18 k67 => chk k67.2 Cnd.ble k67.1 (fun h20 k58 => chk k58.2 Cnd.ble k58.1 (fun h21 k57 => chk k57.2 Cnd.ble k57.1 (fun h22 k56 => br k56 (Cnd.not Cnd.seq) (fun h23 k54 => ⟨k54,trivial⟩) (fun h24 k55 => br k55 Cnd.ne (fun h26 k52 => ⟨k52,trivial⟩) (fun h27 k53 => br k53 Cnd.ne (fun h29 k50 => ⟨k50,trivial⟩) (fun h30 k51 => br k51 (Cnd.not (Cnd.and Cnd.eq (Cnd.and Cnd.eq Cnd.eq))) (fun h32 k48 => ⟨k48,trivial⟩) (fun h33 k49 => br k49 Cnd.dec (fun h35 k46 => ⟨k46,trivial⟩) (fun h36 k47 => ⟨a.1,⟨rfl,⟨trivial,br k47 Cnd.b (fun h39 k43 => ⟨k43,trivial⟩) (fun h40 k44 => ⟨k44,trivial⟩)⟩⟩⟩))))))))) (fun h19 k68 => ⟨a.1,⟨rfl,⟨trivial,br k68 Cnd.b (fun h60 k64 => ⟨k64,trivial⟩) (fun h61 k65 => ⟨k65,trivial⟩)⟩⟩⟩))) (fun h14 k123 => br k123 Cnd.ne (fun h71 k120 => chk k120.2 Cnd.ble k120.1 (fun h73 k111 => chk k111.2 Cnd.ble k111.1 (fun h74 k110 => chk k110.2 Cnd.ble k110.1 (fun h75 k109 => br k109 (Cnd.not Cnd.seq) (fun h76 k107 => ⟨k107,trivial⟩) (fun h77 k108 => br k108 Cnd.ne (fun h79 k105 => ⟨k105,trivial⟩) (fun h80 k106 => br k106 Cnd.ne (fun h82 k103 => ⟨k103,trivial⟩) (fun h83 k104 => br k104 (Cnd.not (Cnd.and Cnd.eq (Cnd.and Cnd.eq Cnd.eq))) (fun h85 k101 => ⟨k101,trivial⟩) (fun h86 k102 => br k102 Cnd.dec (fun h88 k99 => ⟨k99,trivial⟩) (fun h89 k100 => ⟨a.1,⟨rfl,⟨trivial,br k100 Cnd.b (fun h92 k96 => ⟨k96,trivial⟩) (fun h93 k97 => ⟨k97,trivial⟩)⟩⟩⟩))))))))) (fun h72 k121 => ⟨a.1,⟨rfl,⟨trivial,br k121 Cnd.b (fun h113 k117 => ⟨k117,trivial⟩) (fun h114 k118 => ⟨k118,trivial⟩)⟩⟩⟩)))))) (fun h3 k242 => br k242 Cnd.ne (fun h130 k239 => br k239 (Cnd.not (Cnd.and Cnd.seq (Cnd.and Cnd.eq (Cnd.and Cnd.eq Cnd.eq)))) (fun h132 k186 => ⟨k186,trivial⟩) (fun h133 k187 => br k187 Cnd.ne (fun h135 k184 => chk k184.2 Cnd.ble k184.1 (fun h137 k175 => chk k175.2 Cnd.ble k175.1 (fun h138 k174 => chk k174.2 Cnd.ble k174.1 (fun h139 k173 => br k173 (Cnd.not Cnd.seq) (fun h140 k171 => ⟨k171,trivial⟩) (fun h141 k172 => br k172 Cnd.ne (fun h143 k169 => ⟨k169,trivial⟩) (fun h144 k170 => br k170 Cnd.ne (fun h146 k167 => ⟨k167,trivial⟩) (fun h147 k168 => br k168 (Cnd.not (Cnd.and Cnd.eq (Cnd.and Cnd.eq Cnd.eq))) (fun h149 k165 => ⟨k165,trivial⟩) (fun h150 k166 => br k166 Cnd.dec (fun h152 k163 => ⟨k163,trivial⟩) (fun h153 k164 => ⟨a.1,⟨rfl,⟨trivial,br k164 Cnd.b (fun h156 k160 => ⟨k160,trivial⟩) (fun h157 k161 => ⟨k161,trivial⟩)⟩⟩⟩))))))))) (fun h136 k185 => ⟨a.1,⟨rfl,⟨trivial,br k185 Cnd.b (fun h177 k181 => ⟨k181,trivial⟩) (fun h178 k182 => ⟨k182,trivial⟩)⟩⟩⟩))) (fun h131 k240 => br k240 Cnd.ne (fun h188 k237 => chk k237.2 Cnd.ble k237.1 (fun h190 k228 => chk k228.2 Cnd.ble k228.1 (fun h191 k227 => chk k227.2 Cnd.ble k227.1 (fun h192 k226 => br k226 (Cnd.not Cnd.seq) (fun h193 k224 => ⟨k224,trivial⟩) (fun h194 k225 => br k225 Cnd.ne (fun h196 k222 => ⟨k222,trivial⟩) (fun h197 k223 => br k223 Cnd.ne (fun h199 k220 => ⟨k220,trivial⟩) (fun h200 k221 => br k221 (Cnd.not (Cnd.and Cnd.eq (Cnd.and Cnd.eq Cnd.eq))) (fun h202 k218 => ⟨k218,trivial⟩) (fun h203 k219 => br k219 Cnd.dec (fun h205 k216 => ⟨k216,trivial⟩) (fun h206 k217 => ⟨a.1,⟨rfl,⟨trivial,br k217 Cnd.b (fun h209 k213 => ⟨k213,trivial⟩) (fun h210 k214 => ⟨k214,trivial⟩)⟩⟩⟩))))))))) (fun h189 k238 => ⟨a.1,⟨rfl,⟨trivial,br k238 Cnd.b (fun h230 k234 => ⟨k234,trivial⟩) (fun h231 k235 => ⟨k235,trivial⟩)⟩⟩⟩)))⟩⟩⟩)⟩⟩⟩⟩⟩⟩)⟩⟩⟩⟩⟩⟩⟩⟩)⟩⟩⟩⟩⟩⟩⟩⟩⟩⟩)⟩⟩⟩⟩⟩⟩⟩
theorem f172.eq (a : T_api_Op) : (f172.af a).gives f172.env (f172.args a) (f172.blks a) (f172.res a) (f172.blks' a) = f172.tree a := by kernel_rfl
end Go.Abs

-- interregnum/oper.Right
namespace Go.Abs
open Go
def f152.args (a : T_api_Op) : List D := [.agg [.int .i64 a.1,.str a.2.1.1,.int .i64 a.2.1.2.1.1,.int .i64 a.2.1.2.1.2.1,.int .i64 a.2.1.2.1.2.2,.slice .ro 2 a.2.1.2.2.length (gl e_api_Label a.2.1.2.2),.str a.2.2.1.1,.int .i64 a.2.2.1.2.1,.int .i64 a.2.2.1.2.2.1,.int .i64 a.2.2.1.2.2.2,.str a.2.2.2.1.1,.str a.2.2.2.1.2.1,.int .i64 a.2.2.2.1.2.2.1,.int .i64 a.2.2.2.1.2.2.2.1.1,.int .i64 a.2.2.2.1.2.2.2.1.2.1,.int .i64 a.2.2.2.1.2.2.2.1.2.2,.slice .ro 2 a.2.2.2.1.2.2.2.2.1.length (gl e_api_Label a.2.2.2.1.2.2.2.2.1),.str a.2.2.2.1.2.2.2.2.2.1,.str a.2.2.2.1.2.2.2.2.2.2.1,.int .i64 a.2.2.2.1.2.2.2.2.2.2.2,.str a.2.2.2.2]]
def f152.blks (a : T_api_Op) : List (List D) := []
def f152.res (a : T_api_Op) : List D := [.bool (rightO a)]
def f152.blks' (a : T_api_Op) : List (List D) := []
def f152.C : Contract := FnC f152.args f152.blks (fun a => op_pre a) f152.res f152.blks'
end Go.Abs

/- interregnum/oper.Right -/
namespace Go.Abs
open Go
set_option linter.unusedVariables false
def f152.kills (a : T_api_Op) : List Hint := []
def f152.cuts (a : T_api_Op) : List (Nat × Σ β : Type,β→Tm) := []
def f152.af (a : T_api_Op) : AF := AF.mk (.seq (.region [⟨(some 1),0,.box,[.t 0],none⟩,
 ⟨(some 2),1,.move,[.c (.bool false)],none⟩])
 (.seq (.seq (.region [⟨(some 3),2,(.load true 21),[.t 1],none⟩,
 ⟨(some 4),3,(.call false 172),[.t 3],none⟩,
 ⟨(some 5),7,(.un .not),[.t 4],none⟩])
 (.cond (.t 5) (.seq (.region [⟨(some 2),8,.move,[.c (.bool false)],none⟩])
 (.ret)) (.skip)))
 (.seq (.seq (.region [⟨(some 6),9,(.fieldAddr 0),[.t 1],none⟩,
 ⟨(some 7),10,(.load false 1),[.t 6],none⟩])
 (.block 0 (.seq (.region [⟨(some 9),11,(.bin .eql),[.t 7,.c (.int .i64 (1))],none⟩,
 ⟨(some 8),12,.move,[.t 9],none⟩])
 (.cond (.t 8) (.seq (.region [⟨(some 10),13,(.fieldAddr 1),[.t 1],none⟩,
 ⟨(some 11),14,(.load true 5),[.t 10],none⟩,
 ⟨(some 12),15,(.call false 35),[.t 11],none⟩,
 ⟨(some 2),19,.move,[.t 12],none⟩])
 (.ret)) (.seq (.region [⟨(some 14),20,(.bin .eql),[.t 7,.c (.int .i64 (3))],none⟩,
 ⟨(some 13),21,.move,[.t 14],none⟩])
 (.cond (.t 13) (.seq (.region [⟨(some 15),22,(.fieldAddr 6),[.t 1],none⟩,
 ⟨(some 16),23,(.load true 4),[.t 15],none⟩,
 ⟨(some 17),24,(.call false 25),[.t 16],none⟩,
 ⟨(some 2),28,.move,[.t 17],none⟩])
 (.ret)) (.seq (.region [⟨(some 19),29,(.bin .eql),[.t 7,.c (.int .i64 (5))],none⟩,
 ⟨(some 18),30,.move,[.t 19],none⟩])
 (.cond (.t 18) (.seq (.region [⟨(some 20),31,(.fieldAddr 10),[.t 1],none⟩,
 ⟨(some 21),32,(.load true 10),[.t 20],none⟩,
 ⟨(some 22),33,(.call false 24),[.t 21],none⟩,
 ⟨(some 2),37,.move,[.t 22],none⟩])
 (.ret)) (.seq (.region [⟨(some 24),38,(.bin .eql),[.t 7,.c (.int .i64 (9))],none⟩,
 ⟨(some 23),39,.move,[.t 24],none⟩])
 (.cond (.t 23) (.seq (.region [⟨(some 2),40,.move,[.c (.bool true)],none⟩])
 (.ret)) (.skip)))))))))))
 (.seq (.region [⟨(some 25),41,(.fieldAddr 0),[.t 1],none⟩,
 ⟨(some 26),42,(.load false 1),[.t 25],none⟩,
 ⟨(some 27),43,(.call false 173),[.t 26],none⟩,
 ⟨(some 28),47,.move,[.t 27],none⟩,
 ⟨(some 29),48,(.fieldAddr 20),[.t 1],(some (28,true))⟩,
 ⟨(some 30),49,(.load false 1),[.t 29],(some (28,true))⟩,
 ⟨(some 31),50,(.call false 48),[.t 30],(some (28,true))⟩,
 ⟨(some 32),54,.pick,[.t 28,.t 31,.c (.bool false)],none⟩,
 ⟨(some 2),55,.move,[.t 32],none⟩])
 (.ret)))))
 [.tmp 2] 0 32
def f152.env : Env := [(172,f172.C),(35,f35.C),(25,f25.C),(24,f24.C),(173,f173.C),(48,f48.C)]
def f152.tree (a : T_api_Op) : Prop := ∃ c1 : T_api_Op,(a.1 = c1.1)∧(a.2.1.1 = c1.2.1.1)∧(a.2.1.2.1.1 = c1.2.1.2.1.1)∧(a.2.1.2.1.2.1 = c1.2.1.2.1.2.1)∧(a.2.1.2.1.2.2 = c1.2.1.2.1.2.2)∧(a.2.1.2.2.length = c1.2.1.2.2.length)∧(∀ i,i < c1.2.1.2.2.length→DEqs ((gl e_api_Label a.2.1.2.2) i) ((gl e_api_Label c1.2.1.2.2) i))∧(a.2.2.1.1 = c1.2.2.1.1)∧(a.2.2.1.2.1 = c1.2.2.1.2.1)∧(a.2.2.1.2.2.1 = c1.2.2.1.2.2.1)∧(a.2.2.1.2.2.2 = c1.2.2.1.2.2.2)∧(a.2.2.2.1.1 = c1.2.2.2.1.1)∧(a.2.2.2.1.2.1 = c1.2.2.2.1.2.1)∧(a.2.2.2.1.2.2.1 = c1.2.2.2.1.2.2.1)∧(a.2.2.2.1.2.2.2.1.1 = c1.2.2.2.1.2.2.2.1.1)∧(a.2.2.2.1.2.2.2.1.2.1 = c1.2.2.2.1.2.2.2.1.2.1)∧(a.2.2.2.1.2.2.2.1.2.2 = c1.2.2.2.1.2.2.2.1.2.2)∧(a.2.2.2.1.2.2.2.2.1.length = c1.2.2.2.1.2.2.2.2.1.length)∧(∀ i,i < c1.2.2.2.1.2.2.2.2.1.length→DEqs ((gl e_api_Label a.2.2.2.1.2.2.2.2.1) i) ((gl e_api_Label c1.2.2.2.1.2.2.2.2.1) i))∧(a.2.2.2.1.2.2.2.2.2.1 = c1.2.2.2.1.2.2.2.2.2.1)∧(a.2.2.2.1.2.2.2.2.2.2.1 = c1.2.2.2.1.2.2.2.2.2.2.1)∧(a.2.2.2.1.2.2.2.2.2.2.2 = c1.2.2.2.1.2.2.2.2.2.2.2)∧(a.2.2.2.2 = c1.2.2.2.2)∧(op_pre c1)∧Br (!(bareB c1)) ((false = (rightO a))∧True) (Br (a.1 == (1 : Int)) (∃ c7 : T_api_Node,(a.2.1.1 = c7.1)∧(a.2.1.2.1.1 = c7.2.1.1)∧(a.2.1.2.1.2.1 = c7.2.1.2.1)∧(a.2.1.2.1.2.2 = c7.2.1.2.2)∧(a.2.1.2.2.length = c7.2.2.length)∧(∀ i,i < c7.2.2.length→DEqs ((gl e_api_Label a.2.1.2.2) i) ((gl e_api_Label c7.2.2) i))∧(node_pre c7)∧((nodeB c7) = (rightO a))∧True) (Br (a.1 == (3 : Int)) (∃ c12 : T_api_Queue,(a.2.2.1.1 = c12.1)∧(a.2.2.1.2.1 = c12.2.1)∧(a.2.2.1.2.2.1 = c12.2.2.1)∧(a.2.2.1.2.2.2 = c12.2.2.2)∧(queue_pre c12)∧((queueB c12) = (rightO a))∧True) (Br (a.1 == (5 : Int)) (∃ c17 : T_api_Task,(a.2.2.2.1.1 = c17.1)∧(a.2.2.2.1.2.1 = c17.2.1)∧(a.2.2.2.1.2.2.1 = c17.2.2.1)∧(a.2.2.2.1.2.2.2.1.1 = c17.2.2.2.1.1)∧(a.2.2.2.1.2.2.2.1.2.1 = c17.2.2.2.1.2.1)∧(a.2.2.2.1.2.2.2.1.2.2 = c17.2.2.2.1.2.2)∧(a.2.2.2.1.2.2.2.2.1.length = c17.2.2.2.2.1.length)∧(∀ i,i < c17.2.2.2.2.1.length→DEqs ((gl e_api_Label a.2.2.2.1.2.2.2.2.1) i) ((gl e_api_Label c17.2.2.2.2.1) i))∧(a.2.2.2.1.2.2.2.2.2.1 = c17.2.2.2.2.2.1)∧(a.2.2.2.1.2.2.2.2.2.2.1 = c17.2.2.2.2.2.2.1)∧(a.2.2.2.1.2.2.2.2.2.2.2 = c17.2.2.2.2.2.2.2)∧(task_pre c17)∧((taskB c17) = (rightO a))∧True) (Br (a.1 == (9 : Int)) ((true = (rightO a))∧True) (∃ c23 : Int,(a.1 = c23)∧True∧Br (namedB c23) (∃ c26 : ByteArray,(a.2.2.2.2 = c26)∧(name_pre c26)∧((nameB c26) = (rightO a))∧True) ((false = (rightO a))∧True))))))
def f152.vc (a : T_api_Op) : Prop := (op_pre a∧((¬ ((bareB a) = true)→(false = rightO a))∧(¬ (¬ ((bareB a) = true))→((a.1 = (1 : Int)→(node_pre a.2.1∧((nodeB (a.2.1)) = rightO a)))∧(¬ (a.1 = (1 : Int))→((a.1 = (3 : Int)→(queue_pre a.2.2.1∧((queueB (a.2.2.1)) = rightO a)))∧(¬ (a.1 = (3 : Int))→((a.1 = (5 : Int)→(task_pre a.2.2.2.1∧((taskB (a.2.2.2.1)) = rightO a)))∧(¬ (a.1 = (5 : Int))→((a.1 = (9 : Int)→(true = rightO a))∧(¬ (a.1 = (9 : Int))→(((namedB (a.1)) = true→(name_pre a.2.2.2.2∧((nameB (a.2.2.2.2)) = rightO a)))∧(¬ ((namedB (a.1)) = true)→(false = rightO a))))))))))))))
set_option maxRecDepth 100000 in
set_option maxHeartbeats 2000000 in
theorem f152.of (a : T_api_Op) (h : f152.vc a) : f152.tree a := ⟨a,⟨rfl,⟨rfl,⟨rfl,⟨rfl,⟨rfl,slK (Rds.self (enc := e_api_Label)) (⟨rfl,⟨rfl,⟨rfl,⟨rfl,⟨rfl,⟨rfl,⟨rfl,⟨rfl,⟨rfl,⟨rfl,slK (Rds.self (enc := e_api_Label)) (⟨rfl,⟨rfl,⟨rfl,⟨rfl,⟨h.1,br h.2 (Cnd.not Cnd.b) (fun h2 k41 => ⟨k41,trivial⟩) (fun h3 k42 => br k42 Cnd.eq (fun h5 k39 => ⟨a.2.1,⟨rfl,⟨rfl,⟨rfl,⟨rfl,slK (Rds.self (enc := e_api_Label)) (⟨k39.1,⟨k39.2,trivial⟩⟩)⟩⟩⟩⟩⟩) (fun h6 k40 => br k40 Cnd.eq (fun h10 k37 => ⟨a.2.2.1,⟨rfl,⟨rfl,⟨rfl,⟨rfl,⟨k37.1,⟨k37.2,trivial⟩⟩⟩⟩⟩⟩⟩) (fun h11 k38 => br k38 Cnd.eq (fun h15 k35 => ⟨a.2.2.2.1,⟨rfl,⟨rfl,⟨rfl,⟨rfl,⟨rfl,⟨rfl,slK (Rds.self (enc := e_api_Label)) (⟨rfl,⟨rfl,⟨rfl,⟨k35.1,⟨k35.2,trivial⟩⟩⟩⟩⟩)⟩⟩⟩⟩⟩⟩⟩) (fun h16 k36 => br k36 Cnd.eq (fun h20 k33 => ⟨k33,trivial⟩) (fun h21 k34 => ⟨a.1,⟨rfl,⟨trivial,br k34 Cnd.b (fun h24 k30 => ⟨a.2.2.2.2,⟨rfl,⟨k30.1,⟨k30.2,trivial⟩⟩⟩⟩) (fun h25 k31 => ⟨k31,trivial⟩)⟩⟩⟩)))))⟩⟩⟩⟩⟩)⟩⟩⟩⟩⟩⟩⟩⟩⟩⟩)⟩⟩⟩⟩⟩⟩
theorem f152.eq (a : T_api_Op) : (f152.af a).gives f152.env (f152.args a) (f152.blks a) (f152.res a) (f152.blks' a) = f152.tree a := by kernel_rfl
end Go.Abs

-- interregnum/interregnumref06.Right
namespace Go.Abs
open Go
end Go.Abs

-- interregnum/interregnumref06.zeroNode
namespace Go.Abs
open Go
end Go.Abs

-- interregnum/interregnumref06.zeroTask
namespace Go.Abs
open Go
end Go.Abs

/- interregnum/interregnumref06.Right -/
namespace Go.Abs
open Go
set_option linter.unusedVariables false
end Go.Abs

/- interregnum/interregnumref06.zeroNode -/
namespace Go.Abs
open Go
set_option linter.unusedVariables false
end Go.Abs

/- interregnum/interregnumref06.zeroTask -/
namespace Go.Abs
open Go
set_option linter.unusedVariables false
end Go.Abs

-- interregnum/oper.Encode
namespace Go.Abs
open Go
def f277.args (a : T_api_Op) : List D := [.agg [.int .i64 a.1,.str a.2.1.1,.int .i64 a.2.1.2.1.1,.int .i64 a.2.1.2.1.2.1,.int .i64 a.2.1.2.1.2.2,.slice .ro 2 a.2.1.2.2.length (gl e_api_Label a.2.1.2.2),.str a.2.2.1.1,.int .i64 a.2.2.1.2.1,.int .i64 a.2.2.1.2.2.1,.int .i64 a.2.2.1.2.2.2,.str a.2.2.2.1.1,.str a.2.2.2.1.2.1,.int .i64 a.2.2.2.1.2.2.1,.int .i64 a.2.2.2.1.2.2.2.1.1,.int .i64 a.2.2.2.1.2.2.2.1.2.1,.int .i64 a.2.2.2.1.2.2.2.1.2.2,.slice .ro 2 a.2.2.2.1.2.2.2.2.1.length (gl e_api_Label a.2.2.2.1.2.2.2.2.1),.str a.2.2.2.1.2.2.2.2.2.1,.str a.2.2.2.1.2.2.2.2.2.2.1,.int .i64 a.2.2.2.1.2.2.2.2.2.2.2,.str a.2.2.2.2]]
def f277.blks (a : T_api_Op) : List (List D) := []
def f277.res (a : T_api_Op) : List D := [.slice .ro 1 (((encO a).1).size) (gstr ((encO a).1)),.int .i64 ((encO a).2)]
def f277.blks' (a : T_api_Op) : List (List D) := []
def f277.C : Contract := FnC f277.args f277.blks (fun a => encO_pre a) f277.res f277.blks'
end Go.Abs

/- interregnum/oper.Encode -/
namespace Go.Abs
open Go
set_option linter.unusedVariables false
def f277.kills (a : T_api_Op) : List Hint := []
def f277.cuts (a : T_api_Op) : List (Nat × Σ β : Type,β→Tm) := []
def f277.af (a : T_api_Op) : AF := AF.mk (.seq (.region [⟨(some 1),0,.box,[.t 0],none⟩,
 ⟨(some 2),1,(.nilSl 1),[],none⟩,
 ⟨(some 3),2,.move,[.c (.int .i64 (0))],none⟩])
 (.seq (.seq (.region [⟨(some 5),3,(.load true 21),[.t 1],none⟩,
 ⟨(some 6),4,(.call false 152),[.t 5],none⟩,
 ⟨(some 7),8,(.un .not),[.t 6],none⟩])
 (.cond (.t 7) (.seq (.region [⟨(some 2),9,(.nilSl 1),[],none⟩,
 ⟨(some 3),10,.move,[.c (.int .i64 (1))],none⟩])
 (.ret)) (.skip)))
 (.seq (.region [⟨(some 8),11,(.fieldAddr 0),[.t 1],none⟩,
 ⟨(some 9),12,(.load false 1),[.t 8],none⟩,
 ⟨(some 10),13,(.conv (.int .u64)),[.t 9],none⟩,
 ⟨(some 11),14,(.call false 14),[.c (.slice .full 1 0 gnil),.t 10],none⟩,
 ⟨(some 4),18,.move,[.t 11],none⟩])
 (.seq (.seq (.region [⟨(some 12),19,(.fieldAddr 0),[.t 1],none⟩,
 ⟨(some 13),20,(.load false 1),[.t 12],none⟩])
 (.block 0 (.seq (.region [⟨(some 15),21,(.bin .eql),[.t 13,.c (.int .i64 (1))],none⟩,
 ⟨(some 14),22,.move,[.t 15],none⟩])
 (.cond (.t 14) (.seq (.region [⟨(some 16),23,.move,[.t 4],none⟩,
 ⟨(some 17),24,(.fieldAddr 1),[.t 1],none⟩,
 ⟨(some 18),25,(.load true 5),[.t 17],none⟩,
 ⟨(some 19),26,(.call false 39),[.t 16,.t 18],none⟩,
 ⟨(some 2),30,.move,[.t 19],none⟩,
 ⟨(some 3),31,.move,[.c (.int .i64 (0))],none⟩])
 (.ret)) (.seq (.region [⟨(some 21),32,(.bin .eql),[.t 13,.c (.int .i64 (3))],none⟩,
 ⟨(some 20),33,.move,[.t 21],none⟩])
 (.cond (.t 20) (.seq (.region [⟨(some 22),34,.move,[.t 4],none⟩,
 ⟨(some 23),35,(.fieldAddr 6),[.t 1],none⟩,
 ⟨(some 24),36,(.load true 4),[.t 23],none⟩,
 ⟨(some 25),37,(.call false 41),[.t 22,.t 24],none⟩,
 ⟨(some 2),41,.move,[.t 25],none⟩,
 ⟨(some 3),42,.move,[.c (.int .i64 (0))],none⟩])
 (.ret)) (.seq (.region [⟨(some 27),43,(.bin .eql),[.t 13,.c (.int .i64 (5))],none⟩,
 ⟨(some 26),44,.move,[.t 27],none⟩])
 (.cond (.t 26) (.seq (.region [⟨(some 28),45,.move,[.t 4],none⟩,
 ⟨(some 29),46,(.fieldAddr 10),[.t 1],none⟩,
 ⟨(some 30),47,(.load true 10),[.t 29],none⟩,
 ⟨(some 31),48,(.call false 43),[.t 28,.t 30],none⟩,
 ⟨(some 2),52,.move,[.t 31],none⟩,
 ⟨(some 3),53,.move,[.c (.int .i64 (0))],none⟩])
 (.ret)) (.seq (.region [⟨(some 33),54,(.bin .eql),[.t 13,.c (.int .i64 (9))],none⟩,
 ⟨(some 32),55,.move,[.t 33],none⟩])
 (.cond (.t 32) (.seq (.region [⟨(some 34),56,.move,[.t 4],none⟩,
 ⟨(some 2),57,.move,[.t 34],none⟩,
 ⟨(some 3),58,.move,[.c (.int .i64 (0))],none⟩])
 (.ret)) (.skip)))))))))))
 (.seq (.region [⟨(some 35),59,.move,[.t 4],none⟩,
 ⟨(some 36),60,(.fieldAddr 20),[.t 1],none⟩,
 ⟨(some 37),61,(.load false 1),[.t 36],none⟩,
 ⟨(some 38),62,(.call false 16),[.t 35,.t 37],none⟩,
 ⟨(some 2),66,.move,[.t 38],none⟩,
 ⟨(some 3),67,.move,[.c (.int .i64 (0))],none⟩])
 (.ret))))))
 [.tmp 2,.tmp 3] 0 38
def f277.env : Env := [(152,f152.C),(14,f14.C),(39,f39.C),(41,f41.C),(43,f43.C),(16,f16.C)]
def f277.tree (a : T_api_Op) : Prop := ∃ c1 : T_api_Op,(a.1 = c1.1)∧(a.2.1.1 = c1.2.1.1)∧(a.2.1.2.1.1 = c1.2.1.2.1.1)∧(a.2.1.2.1.2.1 = c1.2.1.2.1.2.1)∧(a.2.1.2.1.2.2 = c1.2.1.2.1.2.2)∧(a.2.1.2.2.length = c1.2.1.2.2.length)∧(∀ i,i < c1.2.1.2.2.length→DEqs ((gl e_api_Label a.2.1.2.2) i) ((gl e_api_Label c1.2.1.2.2) i))∧(a.2.2.1.1 = c1.2.2.1.1)∧(a.2.2.1.2.1 = c1.2.2.1.2.1)∧(a.2.2.1.2.2.1 = c1.2.2.1.2.2.1)∧(a.2.2.1.2.2.2 = c1.2.2.1.2.2.2)∧(a.2.2.2.1.1 = c1.2.2.2.1.1)∧(a.2.2.2.1.2.1 = c1.2.2.2.1.2.1)∧(a.2.2.2.1.2.2.1 = c1.2.2.2.1.2.2.1)∧(a.2.2.2.1.2.2.2.1.1 = c1.2.2.2.1.2.2.2.1.1)∧(a.2.2.2.1.2.2.2.1.2.1 = c1.2.2.2.1.2.2.2.1.2.1)∧(a.2.2.2.1.2.2.2.1.2.2 = c1.2.2.2.1.2.2.2.1.2.2)∧(a.2.2.2.1.2.2.2.2.1.length = c1.2.2.2.1.2.2.2.2.1.length)∧(∀ i,i < c1.2.2.2.1.2.2.2.2.1.length→DEqs ((gl e_api_Label a.2.2.2.1.2.2.2.2.1) i) ((gl e_api_Label c1.2.2.2.1.2.2.2.2.1) i))∧(a.2.2.2.1.2.2.2.2.2.1 = c1.2.2.2.1.2.2.2.2.2.1)∧(a.2.2.2.1.2.2.2.2.2.2.1 = c1.2.2.2.1.2.2.2.2.2.2.1)∧(a.2.2.2.1.2.2.2.2.2.2.2 = c1.2.2.2.1.2.2.2.2.2.2.2)∧(a.2.2.2.2 = c1.2.2.2.2)∧(op_pre c1)∧Br (!(rightO c1)) ((0 = 0)∧(0 = (((encO a).1).size))∧(∀ i,i < (((encO a).1).size)→DEqs (gnil i) ((gstr ((encO a).1)) i))∧((1 : Int) = ((encO a).2))∧True) (Let (IntKind.u64.wrap a.1) (fun v5 : Int => ∃ c6 : ByteArray × Int,(0 = c6.1.size)∧(∀ i,i < c6.1.size→DEqs (gnil i) ((gstr c6.1) i))∧(v5 = c6.2)∧(put_pre c6)∧Br (a.1 == (1 : Int)) (∃ c9 : ByteArray × T_api_Node,(((putB c6).size) = c9.1.size)∧(∀ i,i < c9.1.size→DEqs ((gstr (putB c6)) i) ((gstr c9.1) i))∧(a.2.1.1 = c9.2.1)∧(a.2.1.2.1.1 = c9.2.2.1.1)∧(a.2.1.2.1.2.1 = c9.2.2.1.2.1)∧(a.2.1.2.1.2.2 = c9.2.2.1.2.2)∧(a.2.1.2.2.length = c9.2.2.2.length)∧(∀ i,i < c9.2.2.2.length→DEqs ((gl e_api_Label a.2.1.2.2) i) ((gl e_api_Label c9.2.2.2) i))∧(putNode_pre c9)∧(((putNode c9).size) = (((encO a).1).size))∧(∀ i,i < (((encO a).1).size)→DEqs ((gstr (putNode c9)) i) ((gstr ((encO a).1)) i))∧((0 : Int) = ((encO a).2))∧True) (Br (a.1 == (3 : Int)) (∃ c14 : ByteArray × T_api_Queue,(((putB c6).size) = c14.1.size)∧(∀ i,i < c14.1.size→DEqs ((gstr (putB c6)) i) ((gstr c14.1) i))∧(a.2.2.1.1 = c14.2.1)∧(a.2.2.1.2.1 = c14.2.2.1)∧(a.2.2.1.2.2.1 = c14.2.2.2.1)∧(a.2.2.1.2.2.2 = c14.2.2.2.2)∧(putQueue_pre c14)∧(((putQueue c14).size) = (((encO a).1).size))∧(∀ i,i < (((encO a).1).size)→DEqs ((gstr (putQueue c14)) i) ((gstr ((encO a).1)) i))∧((0 : Int) = ((encO a).2))∧True) (Br (a.1 == (5 : Int)) (∃ c19 : ByteArray × T_api_Task,(((putB c6).size) = c19.1.size)∧(∀ i,i < c19.1.size→DEqs ((gstr (putB c6)) i) ((gstr c19.1) i))∧(a.2.2.2.1.1 = c19.2.1)∧(a.2.2.2.1.2.1 = c19.2.2.1)∧(a.2.2.2.1.2.2.1 = c19.2.2.2.1)∧(a.2.2.2.1.2.2.2.1.1 = c19.2.2.2.2.1.1)∧(a.2.2.2.1.2.2.2.1.2.1 = c19.2.2.2.2.1.2.1)∧(a.2.2.2.1.2.2.2.1.2.2 = c19.2.2.2.2.1.2.2)∧(a.2.2.2.1.2.2.2.2.1.length = c19.2.2.2.2.2.1.length)∧(∀ i,i < c19.2.2.2.2.2.1.length→DEqs ((gl e_api_Label a.2.2.2.1.2.2.2.2.1) i) ((gl e_api_Label c19.2.2.2.2.2.1) i))∧(a.2.2.2.1.2.2.2.2.2.1 = c19.2.2.2.2.2.2.1)∧(a.2.2.2.1.2.2.2.2.2.2.1 = c19.2.2.2.2.2.2.2.1)∧(a.2.2.2.1.2.2.2.2.2.2.2 = c19.2.2.2.2.2.2.2.2)∧(putTask_pre c19)∧(((putTask c19).size) = (((encO a).1).size))∧(∀ i,i < (((encO a).1).size)→DEqs ((gstr (putTask c19)) i) ((gstr ((encO a).1)) i))∧((0 : Int) = ((encO a).2))∧True) (Br (a.1 == (9 : Int)) ((((putB c6).size) = ((putB c6).size))∧(((putB c6).size) = (((encO a).1).size))∧(∀ i,i < (((encO a).1).size)→DEqs ((gstr (putB c6)) i) ((gstr ((encO a).1)) i))∧((0 : Int) = ((encO a).2))∧True) (∃ c25 : ByteArray × ByteArray,(((putB c6).size) = c25.1.size)∧(∀ i,i < c25.1.size→DEqs ((gstr (putB c6)) i) ((gstr c25.1) i))∧(a.2.2.2.2 = c25.2)∧(putText_pre c25)∧(((putText c25).size) = ((putText c25).size))∧(((putText c25).size) = (((encO a).1).size))∧(∀ i,i < (((encO a).1).size)→DEqs ((gstr (putText c25)) i) ((gstr ((encO a).1)) i))∧((0 : Int) = ((encO a).2))∧True))))))
def f277.vc (a : T_api_Op) : Prop := (op_pre a∧((¬ ((rightO a) = true)→((ByteArray.empty,(1 : Int)) = encO a))∧(¬ (¬ ((rightO a) = true))→(0≤a.1∧a.1≤18446744073709551615∧(put_pre (ByteArray.empty,(a.1))∧((a.1 = (1 : Int)→(putNode_pre ((putB (ByteArray.empty,(a.1))),a.2.1)∧(((putNode ((putB (ByteArray.empty,(a.1))),a.2.1)),(0 : Int)) = encO a)))∧(¬ (a.1 = (1 : Int))→((a.1 = (3 : Int)→(putQueue_pre ((putB (ByteArray.empty,(a.1))),a.2.2.1)∧(((putQueue ((putB (ByteArray.empty,(a.1))),a.2.2.1)),(0 : Int)) = encO a)))∧(¬ (a.1 = (3 : Int))→((a.1 = (5 : Int)→(putTask_pre ((putB (ByteArray.empty,(a.1))),a.2.2.2.1)∧(((putTask ((putB (ByteArray.empty,(a.1))),a.2.2.2.1)),(0 : Int)) = encO a)))∧(¬ (a.1 = (5 : Int))→((a.1 = (9 : Int)→(((putB (ByteArray.empty,(a.1))),(0 : Int)) = encO a))∧(¬ (a.1 = (9 : Int))→(putText_pre ((putB (ByteArray.empty,(a.1))),a.2.2.2.2)∧(((putText ((putB (ByteArray.empty,(a.1))),a.2.2.2.2)),(0 : Int)) = encO a)))))))))))))))
set_option maxRecDepth 100000 in
set_option maxHeartbeats 2000000 in
theorem f277.of (a : T_api_Op) (h : f277.vc a) : f277.tree a := ⟨a,⟨rfl,⟨rfl,⟨rfl,⟨rfl,⟨rfl,slK (Rds.self (enc := e_api_Label)) (⟨rfl,⟨rfl,⟨rfl,⟨rfl,⟨rfl,⟨rfl,⟨rfl,⟨rfl,⟨rfl,⟨rfl,slK (Rds.self (enc := e_api_Label)) (⟨rfl,⟨rfl,⟨rfl,⟨rfl,⟨h.1,br h.2 (Cnd.not Cnd.b) (fun h2 k40 => ⟨rfl,slK (RdB.to RdB.nil (congrArg (fun x : ByteArray × Int => x.1) k40 :)) (⟨(congrArg (fun x : ByteArray × Int => x.2) k40 :),trivial⟩)⟩) (fun h3 k41 => wrapK.u64 k41 (fun h37 h38 k39 => ⟨(ByteArray.empty,(a.1)),slK RdB.nil (⟨rfl,⟨k39.1,br k39.2 Cnd.eq (fun h7 k34 => ⟨((putB (ByteArray.empty,(a.1))),a.2.1),slK RdB.self (⟨rfl,⟨rfl,⟨rfl,⟨rfl,slK (Rds.self (enc := e_api_Label)) (⟨k34.1,slK (RdB.to RdB.self (congrArg (fun x : ByteArray × Int => x.1) k34.2 :)) (⟨(congrArg (fun x : ByteArray × Int => x.2) k34.2 :),trivial⟩)⟩)⟩⟩⟩⟩)⟩) (fun h8 k35 => br k35 Cnd.eq (fun h12 k32 => ⟨((putB (ByteArray.empty,(a.1))),a.2.2.1),slK RdB.self (⟨rfl,⟨rfl,⟨rfl,⟨rfl,⟨k32.1,slK (RdB.to RdB.self (congrArg (fun x : ByteArray × Int => x.1) k32.2 :)) (⟨(congrArg (fun x : ByteArray × Int => x.2) k32.2 :),trivial⟩)⟩⟩⟩⟩⟩)⟩) (fun h13 k33 => br k33 Cnd.eq (fun h17 k30 => ⟨((putB (ByteArray.empty,(a.1))),a.2.2.2.1),slK RdB.self (⟨rfl,⟨rfl,⟨rfl,⟨rfl,⟨rfl,⟨rfl,slK (Rds.self (enc := e_api_Label)) (⟨rfl,⟨rfl,⟨rfl,⟨k30.1,slK (RdB.to RdB.self (congrArg (fun x : ByteArray × Int => x.1) k30.2 :)) (⟨(congrArg (fun x : ByteArray × Int => x.2) k30.2 :),trivial⟩)⟩⟩⟩⟩)⟩⟩⟩⟩⟩⟩)⟩) (fun h18 k31 => br k31 Cnd.eq (fun h22 k28 => ⟨rfl,slK (RdB.to RdB.self (congrArg (fun x : ByteArray × Int => x.1) k28 :)) (⟨(congrArg (fun x : ByteArray × Int => x.2) k28 :),trivial⟩)⟩) (fun h23 k29 => ⟨((putB (ByteArray.empty,(a.1))),a.2.2.2.2),slK RdB.self (⟨rfl,⟨k29.1,⟨rfl,slK (RdB.to RdB.self (congrArg (fun x : ByteArray × Int => x.1) k29.2 :)) (⟨(congrArg (fun x : ByteArray × Int => x.2) k29.2 :),trivial⟩)⟩⟩⟩)⟩))))⟩⟩)⟩))⟩⟩⟩⟩⟩)⟩⟩⟩⟩⟩⟩⟩⟩⟩⟩)⟩⟩⟩⟩⟩⟩
theorem f277.eq (a : T_api_Op) : (f277.af a).gives f277.env (f277.args a) (f277.blks a) (f277.res a) (f277.blks' a) = f277.tree a := by kernel_rfl
end Go.Abs

-- interregnum/interregnumref06.Bytes
namespace Go.Abs
open Go
end Go.Abs

/- interregnum/interregnumref06.Bytes -/
namespace Go.Abs
open Go
set_option linter.unusedVariables false
end Go.Abs

-- interregnum/interregnumref06.Encode
namespace Go.Abs
open Go
end Go.Abs

/- interregnum/interregnumref06.Encode -/
namespace Go.Abs
open Go
set_option linter.unusedVariables false
end Go.Abs

-- interregnum/oper.takes
namespace Go.Abs
open Go
def f361.args (a : T_api_Op × ByteArray × Int) : List D := [.ptr 0 0,.slice .ro 1 a.2.1.size (gstr a.2.1),.int .i64 a.2.2]
def f361.blks (a : T_api_Op × ByteArray × Int) : List (List D) := [[.int .i64 a.1.1,.str a.1.2.1.1,.int .i64 a.1.2.1.2.1.1,.int .i64 a.1.2.1.2.1.2.1,.int .i64 a.1.2.1.2.1.2.2,.slice .ro 2 a.1.2.1.2.2.length (gl e_api_Label a.1.2.1.2.2),.str a.1.2.2.1.1,.int .i64 a.1.2.2.1.2.1,.int .i64 a.1.2.2.1.2.2.1,.int .i64 a.1.2.2.1.2.2.2,.str a.1.2.2.2.1.1,.str a.1.2.2.2.1.2.1,.int .i64 a.1.2.2.2.1.2.2.1,.int .i64 a.1.2.2.2.1.2.2.2.1.1,.int .i64 a.1.2.2.2.1.2.2.2.1.2.1,.int .i64 a.1.2.2.2.1.2.2.2.1.2.2,.slice .ro 2 a.1.2.2.2.1.2.2.2.2.1.length (gl e_api_Label a.1.2.2.2.1.2.2.2.2.1),.str a.1.2.2.2.1.2.2.2.2.2.1,.str a.1.2.2.2.1.2.2.2.2.2.2.1,.int .i64 a.1.2.2.2.1.2.2.2.2.2.2.2,.str a.1.2.2.2.2]]
def f361.res (a : T_api_Op × ByteArray × Int) : List D := [.int .i64 ((takesO a).1),.int .i64 ((takesO a).2.1)]
def f361.blks' (a : T_api_Op × ByteArray × Int) : List (List D) := [[.int .i64 (((takesO a).2.2).1),.str ((((takesO a).2.2).2.1).1),.int .i64 (((((takesO a).2.2).2.1).2.1).1),.int .i64 (((((takesO a).2.2).2.1).2.1).2.1),.int .i64 (((((takesO a).2.2).2.1).2.1).2.2),.slice .ro 2 (((((takesO a).2.2).2.1).2.2).length) (gl e_api_Label ((((takesO a).2.2).2.1).2.2)),.str ((((takesO a).2.2).2.2.1).1),.int .i64 (((((takesO a).2.2).2.2.1).2).1),.int .i64 (((((takesO a).2.2).2.2.1).2).2.1),.int .i64 (((((takesO a).2.2).2.2.1).2).2.2),.str ((((takesO a).2.2).2.2.2.1).1),.str ((((takesO a).2.2).2.2.2.1).2.1),.int .i64 ((((takesO a).2.2).2.2.2.1).2.2.1),.int .i64 (((((takesO a).2.2).2.2.2.1).2.2.2.1).1),.int .i64 (((((takesO a).2.2).2.2.2.1).2.2.2.1).2.1),.int .i64 (((((takesO a).2.2).2.2.2.1).2.2.2.1).2.2),.slice .ro 2 (((((takesO a).2.2).2.2.2.1).2.2.2.2.1).length) (gl e_api_Label ((((takesO a).2.2).2.2.2.1).2.2.2.2.1)),.str ((((takesO a).2.2).2.2.2.1).2.2.2.2.2.1),.str ((((takesO a).2.2).2.2.2.1).2.2.2.2.2.2.1),.int .i64 ((((takesO a).2.2).2.2.2.1).2.2.2.2.2.2.2),.str (((takesO a).2.2).2.2.2.2)]]
def f361.C : Contract := FnC f361.args f361.blks (fun a => takesO_pre a) f361.res f361.blks'
end Go.Abs

/- interregnum/oper.takes -/
namespace Go.Abs
open Go
set_option linter.unusedVariables false
def f361.kills (a : T_api_Op × ByteArray × Int) : List Hint := []
def f361.cuts (a : T_api_Op × ByteArray × Int) : List (Nat × Σ β : Type,β→Tm) := []
def f361.af (a : T_api_Op × ByteArray × Int) : AF := AF.mk (.seq (.region [⟨(some 6),1,.move,[.c (.int .i64 (0))],none⟩,
 ⟨(some 7),2,.move,[.c (.int .i64 (0))],none⟩])
 (.seq (.region [⟨(some 8),3,.move,[.c (.int .i64 (0))],none⟩])
 (.seq (.block 0 (.seq (.region [⟨(some 10),4,.move,[.t 0],none⟩,
 ⟨(some 11),5,.nilCheck,[.t 10],none⟩,
 ⟨(some 12),6,(.fieldAddr 0),[.t 11],none⟩,
 ⟨(some 13),7,(.load false 1),[.t 12],none⟩,
 ⟨(some 14),8,(.bin .eql),[.t 13,.c (.int .i64 (1))],none⟩,
 ⟨(some 9),9,.move,[.t 14],none⟩])
 (.cond (.t 9) (.region [⟨(some 16),10,.move,[.t 0],none⟩,
 ⟨(some 17),11,.move,[.t 1],none⟩,
 ⟨(some 18),12,.move,[.t 2],none⟩,
 ⟨(some 19),13,(.call false 284),[.t 17,.t 18],none⟩,
 ⟨(some 15),17,.move,[.t 19],none⟩,
 ⟨(some 20),18,(.extract 0),[.t 15],none⟩,
 ⟨(some 21),19,(.extract 1),[.t 15],none⟩,
 ⟨(some 22),20,(.extract 2),[.t 15],none⟩,
 ⟨(some 23),21,.nilCheck,[.t 16],none⟩,
 ⟨(some 24),22,(.fieldAddr 1),[.t 23],none⟩,
 ⟨none,23,(.store 5),[.t 24,.t 20],none⟩,
 ⟨(some 2),24,.move,[.t 21],none⟩,
 ⟨(some 8),25,.move,[.t 22],none⟩]) (.seq (.region [⟨(some 26),26,.move,[.t 0],none⟩,
 ⟨(some 27),27,.nilCheck,[.t 26],none⟩,
 ⟨(some 28),28,(.fieldAddr 0),[.t 27],none⟩,
 ⟨(some 29),29,(.load false 1),[.t 28],none⟩,
 ⟨(some 30),30,(.bin .eql),[.t 29,.c (.int .i64 (3))],none⟩,
 ⟨(some 25),31,.move,[.t 30],none⟩])
 (.cond (.t 25) (.region [⟨(some 32),32,.move,[.t 0],none⟩,
 ⟨(some 33),33,.move,[.t 1],none⟩,
 ⟨(some 34),34,.move,[.t 2],none⟩,
 ⟨(some 35),35,(.call false 285),[.t 33,.t 34],none⟩,
 ⟨(some 31),39,.move,[.t 35],none⟩,
 ⟨(some 36),40,(.extract 0),[.t 31],none⟩,
 ⟨(some 37),41,(.extract 1),[.t 31],none⟩,
 ⟨(some 38),42,(.extract 2),[.t 31],none⟩,
 ⟨(some 39),43,.nilCheck,[.t 32],none⟩,
 ⟨(some 40),44,(.fieldAddr 6),[.t 39],none⟩,
 ⟨none,45,(.store 4),[.t 40,.t 36],none⟩,
 ⟨(some 2),46,.move,[.t 37],none⟩,
 ⟨(some 8),47,.move,[.t 38],none⟩]) (.seq (.region [⟨(some 42),48,.move,[.t 0],none⟩,
 ⟨(some 43),49,.nilCheck,[.t 42],none⟩,
 ⟨(some 44),50,(.fieldAddr 0),[.t 43],none⟩,
 ⟨(some 45),51,(.load false 1),[.t 44],none⟩,
 ⟨(some 46),52,(.bin .eql),[.t 45,.c (.int .i64 (5))],none⟩,
 ⟨(some 41),53,.move,[.t 46],none⟩])
 (.cond (.t 41) (.region [⟨(some 48),54,.move,[.t 0],none⟩,
 ⟨(some 49),55,.move,[.t 1],none⟩,
 ⟨(some 50),56,.move,[.t 2],none⟩,
 ⟨(some 51),57,(.call false 286),[.t 49,.t 50],none⟩,
 ⟨(some 47),61,.move,[.t 51],none⟩,
 ⟨(some 52),62,(.extract 0),[.t 47],none⟩,
 ⟨(some 53),63,(.extract 1),[.t 47],none⟩,
 ⟨(some 54),64,(.extract 2),[.t 47],none⟩,
 ⟨(some 55),65,.nilCheck,[.t 48],none⟩,
 ⟨(some 56),66,(.fieldAddr 10),[.t 55],none⟩,
 ⟨none,67,(.store 10),[.t 56,.t 52],none⟩,
 ⟨(some 2),68,.move,[.t 53],none⟩,
 ⟨(some 8),69,.move,[.t 54],none⟩]) (.seq (.region [⟨(some 58),70,.move,[.t 0],none⟩,
 ⟨(some 59),71,.nilCheck,[.t 58],none⟩,
 ⟨(some 60),72,(.fieldAddr 0),[.t 59],none⟩,
 ⟨(some 61),73,(.load false 1),[.t 60],none⟩,
 ⟨(some 62),74,(.call false 173),[.t 61],none⟩,
 ⟨(some 57),78,.move,[.t 62],none⟩])
 (.cond (.t 57) (.seq (.region [⟨(some 64),79,.move,[.t 0],none⟩,
 ⟨(some 65),80,.move,[.t 1],none⟩,
 ⟨(some 66),81,.move,[.t 2],none⟩,
 ⟨(some 67),82,(.call false 20),[.t 65,.t 66,.c (.int .i64 (16))],none⟩,
 ⟨(some 63),86,.move,[.t 67],none⟩,
 ⟨(some 68),87,(.extract 0),[.t 63],none⟩,
 ⟨(some 69),88,(.extract 1),[.t 63],none⟩,
 ⟨(some 70),89,(.extract 2),[.t 63],none⟩,
 ⟨(some 71),90,.nilCheck,[.t 64],none⟩,
 ⟨(some 72),91,(.fieldAddr 20),[.t 71],none⟩,
 ⟨none,92,(.store 1),[.t 72,.t 68],none⟩,
 ⟨(some 2),93,.move,[.t 69],none⟩,
 ⟨(some 8),94,.move,[.t 70],none⟩])
 (.seq (.region [⟨(some 73),95,.move,[.t 8],none⟩,
 ⟨(some 74),96,(.bin .eql),[.t 73,.c (.int .i64 (0))],none⟩,
 ⟨(some 75),97,.move,[.t 74],none⟩,
 ⟨(some 76),98,.move,[.t 0],(some (75,true))⟩,
 ⟨(some 77),99,.nilCheck,[.t 76],(some (75,true))⟩,
 ⟨(some 78),100,(.fieldAddr 20),[.t 77],(some (75,true))⟩,
 ⟨(some 79),101,(.load false 1),[.t 78],(some (75,true))⟩,
 ⟨(some 80),102,(.call false 48),[.t 79],(some (75,true))⟩,
 ⟨(some 81),106,(.un .not),[.t 80],(some (75,true))⟩,
 ⟨(some 82),107,.pick,[.t 75,.t 81,.c (.bool false)],none⟩])
 (.cond (.t 82) (.region [⟨(some 8),108,.move,[.c (.int .i64 (3))],none⟩]) (.skip)))) (.seq (.region [⟨(some 84),109,.move,[.t 0],none⟩,
 ⟨(some 85),110,.nilCheck,[.t 84],none⟩,
 ⟨(some 86),111,(.fieldAddr 0),[.t 85],none⟩,
 ⟨(some 87),112,(.load false 1),[.t 86],none⟩,
 ⟨(some 88),113,(.bin .neq),[.t 87,.c (.int .i64 (9))],none⟩,
 ⟨(some 83),114,.move,[.t 88],none⟩])
 (.cond (.t 83) (.region [⟨(some 8),115,.move,[.c (.int .i64 (3))],none⟩]) (.skip))))))))))))
 (.seq (.region [⟨(some 89),116,.move,[.t 2],none⟩,
 ⟨(some 90),117,.move,[.t 8],none⟩,
 ⟨(some 6),118,.move,[.t 89],none⟩,
 ⟨(some 7),119,.move,[.t 90],none⟩])
 (.ret)))))
 [.tmp 6,.tmp 7] 1 88
def f361.env : Env := [(284,f284.C),(285,f285.C),(286,f286.C),(173,f173.C),(20,f20.C),(48,f48.C)]
def f361.tree (a : T_api_Op × ByteArray × Int) : Prop := Br (a.1.1 == (1 : Int)) (∃ c3 : ByteArray × Int,(a.2.1.size = c3.1.size)∧(∀ i,i < c3.1.size→DEqs ((gstr a.2.1) i) ((gstr c3.1) i))∧(a.2.2 = c3.2)∧(takes_pre c3)∧(((takeNode c3).2.1) = ((takesO a).1))∧(((takeNode c3).2.2) = ((takesO a).2.1))∧(a.1.1 = (((takesO a).2.2).1))∧((((takeNode c3).1).1) = ((((takesO a).2.2).2.1).1))∧(((((takeNode c3).1).2.1).1) = (((((takesO a).2.2).2.1).2.1).1))∧(((((takeNode c3).1).2.1).2.1) = (((((takesO a).2.2).2.1).2.1).2.1))∧(((((takeNode c3).1).2.1).2.2) = (((((takesO a).2.2).2.1).2.1).2.2))∧(((((takeNode c3).1).2.2).length) = (((((takesO a).2.2).2.1).2.2).length))∧(∀ i,i < (((((takesO a).2.2).2.1).2.2).length)→DEqs ((gl e_api_Label (((takeNode c3).1).2.2)) i) ((gl e_api_Label ((((takesO a).2.2).2.1).2.2)) i))∧(a.1.2.2.1.1 = ((((takesO a).2.2).2.2.1).1))∧(a.1.2.2.1.2.1 = (((((takesO a).2.2).2.2.1).2).1))∧(a.1.2.2.1.2.2.1 = (((((takesO a).2.2).2.2.1).2).2.1))∧(a.1.2.2.1.2.2.2 = (((((takesO a).2.2).2.2.1).2).2.2))∧(a.1.2.2.2.1.1 = ((((takesO a).2.2).2.2.2.1).1))∧(a.1.2.2.2.1.2.1 = ((((takesO a).2.2).2.2.2.1).2.1))∧(a.1.2.2.2.1.2.2.1 = ((((takesO a).2.2).2.2.2.1).2.2.1))∧(a.1.2.2.2.1.2.2.2.1.1 = (((((takesO a).2.2).2.2.2.1).2.2.2.1).1))∧(a.1.2.2.2.1.2.2.2.1.2.1 = (((((takesO a).2.2).2.2.2.1).2.2.2.1).2.1))∧(a.1.2.2.2.1.2.2.2.1.2.2 = (((((takesO a).2.2).2.2.2.1).2.2.2.1).2.2))∧(a.1.2.2.2.1.2.2.2.2.1.length = (((((takesO a).2.2).2.2.2.1).2.2.2.2.1).length))∧(∀ i,i < (((((takesO a).2.2).2.2.2.1).2.2.2.2.1).length)→DEqs ((gl e_api_Label a.1.2.2.2.1.2.2.2.2.1) i) ((gl e_api_Label ((((takesO a).2.2).2.2.2.1).2.2.2.2.1)) i))∧(a.1.2.2.2.1.2.2.2.2.2.1 = ((((takesO a).2.2).2.2.2.1).2.2.2.2.2.1))∧(a.1.2.2.2.1.2.2.2.2.2.2.1 = ((((takesO a).2.2).2.2.2.1).2.2.2.2.2.2.1))∧(a.1.2.2.2.1.2.2.2.2.2.2.2 = ((((takesO a).2.2).2.2.2.1).2.2.2.2.2.2.2))∧(a.1.2.2.2.2 = (((takesO a).2.2).2.2.2.2))∧True) (Br (a.1.1 == (3 : Int)) (∃ c8 : ByteArray × Int,(a.2.1.size = c8.1.size)∧(∀ i,i < c8.1.size→DEqs ((gstr a.2.1) i) ((gstr c8.1) i))∧(a.2.2 = c8.2)∧(takes_pre c8)∧(((takeQueue c8).2.1) = ((takesO a).1))∧(((takeQueue c8).2.2) = ((takesO a).2.1))∧(a.1.1 = (((takesO a).2.2).1))∧(a.1.2.1.1 = ((((takesO a).2.2).2.1).1))∧(a.1.2.1.2.1.1 = (((((takesO a).2.2).2.1).2.1).1))∧(a.1.2.1.2.1.2.1 = (((((takesO a).2.2).2.1).2.1).2.1))∧(a.1.2.1.2.1.2.2 = (((((takesO a).2.2).2.1).2.1).2.2))∧(a.1.2.1.2.2.length = (((((takesO a).2.2).2.1).2.2).length))∧(∀ i,i < (((((takesO a).2.2).2.1).2.2).length)→DEqs ((gl e_api_Label a.1.2.1.2.2) i) ((gl e_api_Label ((((takesO a).2.2).2.1).2.2)) i))∧((((takeQueue c8).1).1) = ((((takesO a).2.2).2.2.1).1))∧(((((takeQueue c8).1).2).1) = (((((takesO a).2.2).2.2.1).2).1))∧(((((takeQueue c8).1).2).2.1) = (((((takesO a).2.2).2.2.1).2).2.1))∧(((((takeQueue c8).1).2).2.2) = (((((takesO a).2.2).2.2.1).2).2.2))∧(a.1.2.2.2.1.1 = ((((takesO a).2.2).2.2.2.1).1))∧(a.1.2.2.2.1.2.1 = ((((takesO a).2.2).2.2.2.1).2.1))∧(a.1.2.2.2.1.2.2.1 = ((((takesO a).2.2).2.2.2.1).2.2.1))∧(a.1.2.2.2.1.2.2.2.1.1 = (((((takesO a).2.2).2.2.2.1).2.2.2.1).1))∧(a.1.2.2.2.1.2.2.2.1.2.1 = (((((takesO a).2.2).2.2.2.1).2.2.2.1).2.1))∧(a.1.2.2.2.1.2.2.2.1.2.2 = (((((takesO a).2.2).2.2.2.1).2.2.2.1).2.2))∧(a.1.2.2.2.1.2.2.2.2.1.length = (((((takesO a).2.2).2.2.2.1).2.2.2.2.1).length))∧(∀ i,i < (((((takesO a).2.2).2.2.2.1).2.2.2.2.1).length)→DEqs ((gl e_api_Label a.1.2.2.2.1.2.2.2.2.1) i) ((gl e_api_Label ((((takesO a).2.2).2.2.2.1).2.2.2.2.1)) i))∧(a.1.2.2.2.1.2.2.2.2.2.1 = ((((takesO a).2.2).2.2.2.1).2.2.2.2.2.1))∧(a.1.2.2.2.1.2.2.2.2.2.2.1 = ((((takesO a).2.2).2.2.2.1).2.2.2.2.2.2.1))∧(a.1.2.2.2.1.2.2.2.2.2.2.2 = ((((takesO a).2.2).2.2.2.1).2.2.2.2.2.2.2))∧(a.1.2.2.2.2 = (((takesO a).2.2).2.2.2.2))∧True) (Br (a.1.1 == (5 : Int)) (∃ c13 : ByteArray × Int,(a.2.1.size = c13.1.size)∧(∀ i,i < c13.1.size→DEqs ((gstr a.2.1) i) ((gstr c13.1) i))∧(a.2.2 = c13.2)∧(takes_pre c13)∧(((takeTask c13).2.1) = ((takesO a).1))∧(((takeTask c13).2.2) = ((takesO a).2.1))∧(a.1.1 = (((takesO a).2.2).1))∧(a.1.2.1.1 = ((((takesO a).2.2).2.1).1))∧(a.1.2.1.2.1.1 = (((((takesO a).2.2).2.1).2.1).1))∧(a.1.2.1.2.1.2.1 = (((((takesO a).2.2).2.1).2.1).2.1))∧(a.1.2.1.2.1.2.2 = (((((takesO a).2.2).2.1).2.1).2.2))∧(a.1.2.1.2.2.length = (((((takesO a).2.2).2.1).2.2).length))∧(∀ i,i < (((((takesO a).2.2).2.1).2.2).length)→DEqs ((gl e_api_Label a.1.2.1.2.2) i) ((gl e_api_Label ((((takesO a).2.2).2.1).2.2)) i))∧(a.1.2.2.1.1 = ((((takesO a).2.2).2.2.1).1))∧(a.1.2.2.1.2.1 = (((((takesO a).2.2).2.2.1).2).1))∧(a.1.2.2.1.2.2.1 = (((((takesO a).2.2).2.2.1).2).2.1))∧(a.1.2.2.1.2.2.2 = (((((takesO a).2.2).2.2.1).2).2.2))∧((((takeTask c13).1).1) = ((((takesO a).2.2).2.2.2.1).1))∧((((takeTask c13).1).2.1) = ((((takesO a).2.2).2.2.2.1).2.1))∧((((takeTask c13).1).2.2.1) = ((((takesO a).2.2).2.2.2.1).2.2.1))∧(((((takeTask c13).1).2.2.2.1).1) = (((((takesO a).2.2).2.2.2.1).2.2.2.1).1))∧(((((takeTask c13).1).2.2.2.1).2.1) = (((((takesO a).2.2).2.2.2.1).2.2.2.1).2.1))∧(((((takeTask c13).1).2.2.2.1).2.2) = (((((takesO a).2.2).2.2.2.1).2.2.2.1).2.2))∧(((((takeTask c13).1).2.2.2.2.1).length) = (((((takesO a).2.2).2.2.2.1).2.2.2.2.1).length))∧(∀ i,i < (((((takesO a).2.2).2.2.2.1).2.2.2.2.1).length)→DEqs ((gl e_api_Label (((takeTask c13).1).2.2.2.2.1)) i) ((gl e_api_Label ((((takesO a).2.2).2.2.2.1).2.2.2.2.1)) i))∧((((takeTask c13).1).2.2.2.2.2.1) = ((((takesO a).2.2).2.2.2.1).2.2.2.2.2.1))∧((((takeTask c13).1).2.2.2.2.2.2.1) = ((((takesO a).2.2).2.2.2.1).2.2.2.2.2.2.1))∧((((takeTask c13).1).2.2.2.2.2.2.2) = ((((takesO a).2.2).2.2.2.1).2.2.2.2.2.2.2))∧(a.1.2.2.2.2 = (((takesO a).2.2).2.2.2.2))∧True) (∃ c16 : Int,(a.1.1 = c16)∧True∧Br (namedB c16) (∃ c19 : ByteArray × Int × Int,(a.2.1.size = c19.1.size)∧(∀ i,i < c19.1.size→DEqs ((gstr a.2.1) i) ((gstr c19.1) i))∧(a.2.2 = c19.2.1)∧((16 : Int) = c19.2.2)∧(takeText_pre c19)∧Br (((takeText c19).2.2) == (0 : Int)) (∃ c22 : ByteArray,(((takeText c19).1) = c22)∧(name_pre c22)∧Br (!(nameB c22)) ((((takeText c19).2.1) = ((takesO a).1))∧((3 : Int) = ((takesO a).2.1))∧(a.1.1 = (((takesO a).2.2).1))∧(a.1.2.1.1 = ((((takesO a).2.2).2.1).1))∧(a.1.2.1.2.1.1 = (((((takesO a).2.2).2.1).2.1).1))∧(a.1.2.1.2.1.2.1 = (((((takesO a).2.2).2.1).2.1).2.1))∧(a.1.2.1.2.1.2.2 = (((((takesO a).2.2).2.1).2.1).2.2))∧(a.1.2.1.2.2.length = (((((takesO a).2.2).2.1).2.2).length))∧(∀ i,i < (((((takesO a).2.2).2.1).2.2).length)→DEqs ((gl e_api_Label a.1.2.1.2.2) i) ((gl e_api_Label ((((takesO a).2.2).2.1).2.2)) i))∧(a.1.2.2.1.1 = ((((takesO a).2.2).2.2.1).1))∧(a.1.2.2.1.2.1 = (((((takesO a).2.2).2.2.1).2).1))∧(a.1.2.2.1.2.2.1 = (((((takesO a).2.2).2.2.1).2).2.1))∧(a.1.2.2.1.2.2.2 = (((((takesO a).2.2).2.2.1).2).2.2))∧(a.1.2.2.2.1.1 = ((((takesO a).2.2).2.2.2.1).1))∧(a.1.2.2.2.1.2.1 = ((((takesO a).2.2).2.2.2.1).2.1))∧(a.1.2.2.2.1.2.2.1 = ((((takesO a).2.2).2.2.2.1).2.2.1))∧(a.1.2.2.2.1.2.2.2.1.1 = (((((takesO a).2.2).2.2.2.1).2.2.2.1).1))∧(a.1.2.2.2.1.2.2.2.1.2.1 = (((((takesO a).2.2).2.2.2.1).2.2.2.1).2.1))∧(a.1.2.2.2.1.2.2.2.1.2.2 = (((((takesO a).2.2).2.2.2.1).2.2.2.1).2.2))∧(a.1.2.2.2.1.2.2.2.2.1.length = (((((takesO a).2.2).2.2.2.1).2.2.2.2.1).length))∧(∀ i,i < (((((takesO a).2.2).2.2.2.1).2.2.2.2.1).length)→DEqs ((gl e_api_Label a.1.2.2.2.1.2.2.2.2.1) i) ((gl e_api_Label ((((takesO a).2.2).2.2.2.1).2.2.2.2.1)) i))∧(a.1.2.2.2.1.2.2.2.2.2.1 = ((((takesO a).2.2).2.2.2.1).2.2.2.2.2.1))∧(a.1.2.2.2.1.2.2.2.2.2.2.1 = ((((takesO a).2.2).2.2.2.1).2.2.2.2.2.2.1))∧(a.1.2.2.2.1.2.2.2.2.2.2.2 = ((((takesO a).2.2).2.2.2.1).2.2.2.2.2.2.2))∧(((takeText c19).1) = (((takesO a).2.2).2.2.2.2))∧True) ((((takeText c19).2.1) = ((takesO a).1))∧(((takeText c19).2.2) = ((takesO a).2.1))∧(a.1.1 = (((takesO a).2.2).1))∧(a.1.2.1.1 = ((((takesO a).2.2).2.1).1))∧(a.1.2.1.2.1.1 = (((((takesO a).2.2).2.1).2.1).1))∧(a.1.2.1.2.1.2.1 = (((((takesO a).2.2).2.1).2.1).2.1))∧(a.1.2.1.2.1.2.2 = (((((takesO a).2.2).2.1).2.1).2.2))∧(a.1.2.1.2.2.length = (((((takesO a).2.2).2.1).2.2).length))∧(∀ i,i < (((((takesO a).2.2).2.1).2.2).length)→DEqs ((gl e_api_Label a.1.2.1.2.2) i) ((gl e_api_Label ((((takesO a).2.2).2.1).2.2)) i))∧(a.1.2.2.1.1 = ((((takesO a).2.2).2.2.1).1))∧(a.1.2.2.1.2.1 = (((((takesO a).2.2).2.2.1).2).1))∧(a.1.2.2.1.2.2.1 = (((((takesO a).2.2).2.2.1).2).2.1))∧(a.1.2.2.1.2.2.2 = (((((takesO a).2.2).2.2.1).2).2.2))∧(a.1.2.2.2.1.1 = ((((takesO a).2.2).2.2.2.1).1))∧(a.1.2.2.2.1.2.1 = ((((takesO a).2.2).2.2.2.1).2.1))∧(a.1.2.2.2.1.2.2.1 = ((((takesO a).2.2).2.2.2.1).2.2.1))∧(a.1.2.2.2.1.2.2.2.1.1 = (((((takesO a).2.2).2.2.2.1).2.2.2.1).1))∧(a.1.2.2.2.1.2.2.2.1.2.1 = (((((takesO a).2.2).2.2.2.1).2.2.2.1).2.1))∧(a.1.2.2.2.1.2.2.2.1.2.2 = (((((takesO a).2.2).2.2.2.1).2.2.2.1).2.2))∧(a.1.2.2.2.1.2.2.2.2.1.length = (((((takesO a).2.2).2.2.2.1).2.2.2.2.1).length))∧(∀ i,i < (((((takesO a).2.2).2.2.2.1).2.2.2.2.1).length)→DEqs ((gl e_api_Label a.1.2.2.2.1.2.2.2.2.1) i) ((gl e_api_Label ((((takesO a).2.2).2.2.2.1).2.2.2.2.1)) i))∧(a.1.2.2.2.1.2.2.2.2.2.1 = ((((takesO a).2.2).2.2.2.1).2.2.2.2.2.1))∧(a.1.2.2.2.1.2.2.2.2.2.2.1 = ((((takesO a).2.2).2.2.2.1).2.2.2.2.2.2.1))∧(a.1.2.2.2.1.2.2.2.2.2.2.2 = ((((takesO a).2.2).2.2.2.1).2.2.2.2.2.2.2))∧(((takeText c19).1) = (((takesO a).2.2).2.2.2.2))∧True)) ((((takeText c19).2.1) = ((takesO a).1))∧(((takeText c19).2.2) = ((takesO a).2.1))∧(a.1.1 = (((takesO a).2.2).1))∧(a.1.2.1.1 = ((((takesO a).2.2).2.1).1))∧(a.1.2.1.2.1.1 = (((((takesO a).2.2).2.1).2.1).1))∧(a.1.2.1.2.1.2.1 = (((((takesO a).2.2).2.1).2.1).2.1))∧(a.1.2.1.2.1.2.2 = (((((takesO a).2.2).2.1).2.1).2.2))∧(a.1.2.1.2.2.length = (((((takesO a).2.2).2.1).2.2).length))∧(∀ i,i < (((((takesO a).2.2).2.1).2.2).length)→DEqs ((gl e_api_Label a.1.2.1.2.2) i) ((gl e_api_Label ((((takesO a).2.2).2.1).2.2)) i))∧(a.1.2.2.1.1 = ((((takesO a).2.2).2.2.1).1))∧(a.1.2.2.1.2.1 = (((((takesO a).2.2).2.2.1).2).1))∧(a.1.2.2.1.2.2.1 = (((((takesO a).2.2).2.2.1).2).2.1))∧(a.1.2.2.1.2.2.2 = (((((takesO a).2.2).2.2.1).2).2.2))∧(a.1.2.2.2.1.1 = ((((takesO a).2.2).2.2.2.1).1))∧(a.1.2.2.2.1.2.1 = ((((takesO a).2.2).2.2.2.1).2.1))∧(a.1.2.2.2.1.2.2.1 = ((((takesO a).2.2).2.2.2.1).2.2.1))∧(a.1.2.2.2.1.2.2.2.1.1 = (((((takesO a).2.2).2.2.2.1).2.2.2.1).1))∧(a.1.2.2.2.1.2.2.2.1.2.1 = (((((takesO a).2.2).2.2.2.1).2.2.2.1).2.1))∧(a.1.2.2.2.1.2.2.2.1.2.2 = (((((takesO a).2.2).2.2.2.1).2.2.2.1).2.2))∧(a.1.2.2.2.1.2.2.2.2.1.length = (((((takesO a).2.2).2.2.2.1).2.2.2.2.1).length))∧(∀ i,i < (((((takesO a).2.2).2.2.2.1).2.2.2.2.1).length)→DEqs ((gl e_api_Label a.1.2.2.2.1.2.2.2.2.1) i) ((gl e_api_Label ((((takesO a).2.2).2.2.2.1).2.2.2.2.1)) i))∧(a.1.2.2.2.1.2.2.2.2.2.1 = ((((takesO a).2.2).2.2.2.1).2.2.2.2.2.1))∧(a.1.2.2.2.1.2.2.2.2.2.2.1 = ((((takesO a).2.2).2.2.2.1).2.2.2.2.2.2.1))∧(a.1.2.2.2.1.2.2.2.2.2.2.2 = ((((takesO a).2.2).2.2.2.1).2.2.2.2.2.2.2))∧(((takeText c19).1) = (((takesO a).2.2).2.2.2.2))∧True)) (Br (a.1.1 != (9 : Int)) ((a.2.2 = ((takesO a).1))∧((3 : Int) = ((takesO a).2.1))∧(a.1.1 = (((takesO a).2.2).1))∧(a.1.2.1.1 = ((((takesO a).2.2).2.1).1))∧(a.1.2.1.2.1.1 = (((((takesO a).2.2).2.1).2.1).1))∧(a.1.2.1.2.1.2.1 = (((((takesO a).2.2).2.1).2.1).2.1))∧(a.1.2.1.2.1.2.2 = (((((takesO a).2.2).2.1).2.1).2.2))∧(a.1.2.1.2.2.length = (((((takesO a).2.2).2.1).2.2).length))∧(∀ i,i < (((((takesO a).2.2).2.1).2.2).length)→DEqs ((gl e_api_Label a.1.2.1.2.2) i) ((gl e_api_Label ((((takesO a).2.2).2.1).2.2)) i))∧(a.1.2.2.1.1 = ((((takesO a).2.2).2.2.1).1))∧(a.1.2.2.1.2.1 = (((((takesO a).2.2).2.2.1).2).1))∧(a.1.2.2.1.2.2.1 = (((((takesO a).2.2).2.2.1).2).2.1))∧(a.1.2.2.1.2.2.2 = (((((takesO a).2.2).2.2.1).2).2.2))∧(a.1.2.2.2.1.1 = ((((takesO a).2.2).2.2.2.1).1))∧(a.1.2.2.2.1.2.1 = ((((takesO a).2.2).2.2.2.1).2.1))∧(a.1.2.2.2.1.2.2.1 = ((((takesO a).2.2).2.2.2.1).2.2.1))∧(a.1.2.2.2.1.2.2.2.1.1 = (((((takesO a).2.2).2.2.2.1).2.2.2.1).1))∧(a.1.2.2.2.1.2.2.2.1.2.1 = (((((takesO a).2.2).2.2.2.1).2.2.2.1).2.1))∧(a.1.2.2.2.1.2.2.2.1.2.2 = (((((takesO a).2.2).2.2.2.1).2.2.2.1).2.2))∧(a.1.2.2.2.1.2.2.2.2.1.length = (((((takesO a).2.2).2.2.2.1).2.2.2.2.1).length))∧(∀ i,i < (((((takesO a).2.2).2.2.2.1).2.2.2.2.1).length)→DEqs ((gl e_api_Label a.1.2.2.2.1.2.2.2.2.1) i) ((gl e_api_Label ((((takesO a).2.2).2.2.2.1).2.2.2.2.1)) i))∧(a.1.2.2.2.1.2.2.2.2.2.1 = ((((takesO a).2.2).2.2.2.1).2.2.2.2.2.1))∧(a.1.2.2.2.1.2.2.2.2.2.2.1 = ((((takesO a).2.2).2.2.2.1).2.2.2.2.2.2.1))∧(a.1.2.2.2.1.2.2.2.2.2.2.2 = ((((takesO a).2.2).2.2.2.1).2.2.2.2.2.2.2))∧(a.1.2.2.2.2 = (((takesO a).2.2).2.2.2.2))∧True) ((a.2.2 = ((takesO a).1))∧((0 : Int) = ((takesO a).2.1))∧(a.1.1 = (((takesO a).2.2).1))∧(a.1.2.1.1 = ((((takesO a).2.2).2.1).1))∧(a.1.2.1.2.1.1 = (((((takesO a).2.2).2.1).2.1).1))∧(a.1.2.1.2.1.2.1 = (((((takesO a).2.2).2.1).2.1).2.1))∧(a.1.2.1.2.1.2.2 = (((((takesO a).2.2).2.1).2.1).2.2))∧(a.1.2.1.2.2.length = (((((takesO a).2.2).2.1).2.2).length))∧(∀ i,i < (((((takesO a).2.2).2.1).2.2).length)→DEqs ((gl e_api_Label a.1.2.1.2.2) i) ((gl e_api_Label ((((takesO a).2.2).2.1).2.2)) i))∧(a.1.2.2.1.1 = ((((takesO a).2.2).2.2.1).1))∧(a.1.2.2.1.2.1 = (((((takesO a).2.2).2.2.1).2).1))∧(a.1.2.2.1.2.2.1 = (((((takesO a).2.2).2.2.1).2).2.1))∧(a.1.2.2.1.2.2.2 = (((((takesO a).2.2).2.2.1).2).2.2))∧(a.1.2.2.2.1.1 = ((((takesO a).2.2).2.2.2.1).1))∧(a.1.2.2.2.1.2.1 = ((((takesO a).2.2).2.2.2.1).2.1))∧(a.1.2.2.2.1.2.2.1 = ((((takesO a).2.2).2.2.2.1).2.2.1))∧(a.1.2.2.2.1.2.2.2.1.1 = (((((takesO a).2.2).2.2.2.1).2.2.2.1).1))∧(a.1.2.2.2.1.2.2.2.1.2.1 = (((((takesO a).2.2).2.2.2.1).2.2.2.1).2.1))∧(a.1.2.2.2.1.2.2.2.1.2.2 = (((((takesO a).2.2).2.2.2.1).2.2.2.1).2.2))∧(a.1.2.2.2.1.2.2.2.2.1.length = (((((takesO a).2.2).2.2.2.1).2.2.2.2.1).length))∧(∀ i,i < (((((takesO a).2.2).2.2.2.1).2.2.2.2.1).length)→DEqs ((gl e_api_Label a.1.2.2.2.1.2.2.2.2.1) i) ((gl e_api_Label ((((takesO a).2.2).2.2.2.1).2.2.2.2.1)) i))∧(a.1.2.2.2.1.2.2.2.2.2.1 = ((((takesO a).2.2).2.2.2.1).2.2.2.2.2.1))∧(a.1.2.2.2.1.2.2.2.2.2.2.1 = ((((takesO a).2.2).2.2.2.1).2.2.2.2.2.2.1))∧(a.1.2.2.2.1.2.2.2.2.2.2.2 = ((((takesO a).2.2).2.2.2.1).2.2.2.2.2.2.2))∧(a.1.2.2.2.2 = (((takesO a).2.2).2.2.2.2))∧True)))))
def f361.vc (a : T_api_Op × ByteArray × Int) : Prop := ((a.1.1 = (1 : Int)→(takes_pre (a.2.1,a.2.2)∧(((takeNode (a.2.1,a.2.2)).2.1,(takeNode (a.2.1,a.2.2)).2.2,(a.1.1,((takeNode (a.2.1,a.2.2)).1),a.1.2.2.1,a.1.2.2.2.1,a.1.2.2.2.2)) = takesO a)))∧(¬ (a.1.1 = (1 : Int))→((a.1.1 = (3 : Int)→(takes_pre (a.2.1,a.2.2)∧(((takeQueue (a.2.1,a.2.2)).2.1,(takeQueue (a.2.1,a.2.2)).2.2,(a.1.1,a.1.2.1,((takeQueue (a.2.1,a.2.2)).1),a.1.2.2.2.1,a.1.2.2.2.2)) = takesO a)))∧(¬ (a.1.1 = (3 : Int))→((a.1.1 = (5 : Int)→(takes_pre (a.2.1,a.2.2)∧(((takeTask (a.2.1,a.2.2)).2.1,(takeTask (a.2.1,a.2.2)).2.2,(a.1.1,a.1.2.1,a.1.2.2.1,((takeTask (a.2.1,a.2.2)).1),a.1.2.2.2.2)) = takesO a)))∧(¬ (a.1.1 = (5 : Int))→(((namedB (a.1.1)) = true→(takeText_pre (a.2.1,a.2.2,(16 : Int))∧((((takeText (a.2.1,a.2.2,(16 : Int))).2.2) = (0 : Int)→(name_pre ((takeText (a.2.1,a.2.2,(16 : Int))).1)∧((¬ ((nameB ((takeText (a.2.1,a.2.2,(16 : Int))).1)) = true)→(((takeText (a.2.1,a.2.2,(16 : Int))).2.1,(3 : Int),(a.1.1,a.1.2.1,a.1.2.2.1,a.1.2.2.2.1,(takeText (a.2.1,a.2.2,(16 : Int))).1)) = takesO a))∧(¬ (¬ ((nameB ((takeText (a.2.1,a.2.2,(16 : Int))).1)) = true))→(((takeText (a.2.1,a.2.2,(16 : Int))).2.1,(takeText (a.2.1,a.2.2,(16 : Int))).2.2,(a.1.1,a.1.2.1,a.1.2.2.1,a.1.2.2.2.1,(takeText (a.2.1,a.2.2,(16 : Int))).1)) = takesO a)))))∧(¬ (((takeText (a.2.1,a.2.2,(16 : Int))).2.2) = (0 : Int))→(((takeText (a.2.1,a.2.2,(16 : Int))).2.1,(takeText (a.2.1,a.2.2,(16 : Int))).2.2,(a.1.1,a.1.2.1,a.1.2.2.1,a.1.2.2.2.1,(takeText (a.2.1,a.2.2,(16 : Int))).1)) = takesO a)))))∧(¬ ((namedB (a.1.1)) = true)→((¬ a.1.1 = (9 : Int)→((a.2.2,(3 : Int),a.1) = takesO a))∧(¬ (¬ a.1.1 = (9 : Int))→((a.2.2,(0 : Int),a.1) = takesO a)))))))))))
set_option maxRecDepth 100000 in
set_option maxHeartbeats 2000000 in
theorem f361.of (a : T_api_Op × ByteArray × Int) (h : f361.vc a) : f361.tree a := br h Cnd.eq (fun h1 k47 => ⟨(a.2.1,a.2.2),slK RdB.self (⟨rfl,⟨k47.1,⟨(congrArg (fun x : Int × Int × T_api_Op => x.1) k47.2 :),⟨(congrArg (fun x : Int × Int × T_api_Op => x.2.1) k47.2 :),⟨(congrArg (fun x : Int × Int × T_api_Op => x.2.2.1) k47.2 :),⟨(congrArg (fun x : Int × Int × T_api_Op => x.2.2.2.1.1) k47.2 :),⟨(congrArg (fun x : Int × Int × T_api_Op => x.2.2.2.1.2.1.1) k47.2 :),⟨(congrArg (fun x : Int × Int × T_api_Op => x.2.2.2.1.2.1.2.1) k47.2 :),⟨(congrArg (fun x : Int × Int × T_api_Op => x.2.2.2.1.2.1.2.2) k47.2 :),slK (Rds.to (Rds.self (enc := e_api_Label)) (congrArg (fun x : Int × Int × T_api_Op => x.2.2.2.1.2.2) k47.2 :)) (⟨(congrArg (fun x : Int × Int × T_api_Op => x.2.2.2.2.1.1) k47.2 :),⟨(congrArg (fun x : Int × Int × T_api_Op => x.2.2.2.2.1.2.1) k47.2 :),⟨(congrArg (fun x : Int × Int × T_api_Op => x.2.2.2.2.1.2.2.1) k47.2 :),⟨(congrArg (fun x : Int × Int × T_api_Op => x.2.2.2.2.1.2.2.2) k47.2 :),⟨(congrArg (fun x : Int × Int × T_api_Op => x.2.2.2.2.2.1.1) k47.2 :),⟨(congrArg (fun x : Int × Int × T_api_Op => x.2.2.2.2.2.1.2.1) k47.2 :),⟨(congrArg (fun x : Int × Int × T_api_Op => x.2.2.2.2.2.1.2.2.1) k47.2 :),⟨(congrArg (fun x : Int × Int × T_api_Op => x.2.2.2.2.2.1.2.2.2.1.1) k47.2 :),⟨(congrArg (fun x : Int × Int × T_api_Op => x.2.2.2.2.2.1.2.2.2.1.2.1) k47.2 :),⟨(congrArg (fun x : Int × Int × T_api_Op => x.2.2.2.2.2.1.2.2.2.1.2.2) k47.2 :),slK (Rds.to (Rds.self (enc := e_api_Label)) (congrArg (fun x : Int × Int × T_api_Op => x.2.2.2.2.2.1.2.2.2.2.1) k47.2 :)) (⟨(congrArg (fun x : Int × Int × T_api_Op => x.2.2.2.2.2.1.2.2.2.2.2.1) k47.2 :),⟨(congrArg (fun x : Int × Int × T_api_Op => x.2.2.2.2.2.1.2.2.2.2.2.2.1) k47.2 :),⟨(congrArg (fun x : Int × Int × T_api_Op => x.2.2.2.2.2.1.2.2.2.2.2.2.2) k47.2 :),⟨(congrArg (fun x : Int × Int × T_api_Op => x.2.2.2.2.2.2) k47.2 :),trivial⟩⟩⟩⟩)⟩⟩⟩⟩⟩⟩⟩⟩⟩⟩)⟩⟩⟩⟩⟩⟩⟩⟩⟩)⟩) (fun h2 k48 => br k48 Cnd.eq (fun h6 k45 => ⟨(a.2.1,a.2.2),slK RdB.self (⟨rfl,⟨k45.1,⟨(congrArg (fun x : Int × Int × T_api_Op => x.1) k45.2 :),⟨(congrArg (fun x : Int × Int × T_api_Op => x.2.1) k45.2 :),⟨(congrArg (fun x : Int × Int × T_api_Op => x.2.2.1) k45.2 :),⟨(congrArg (fun x : Int × Int × T_api_Op => x.2.2.2.1.1) k45.2 :),⟨(congrArg (fun x : Int × Int × T_api_Op => x.2.2.2.1.2.1.1) k45.2 :),⟨(congrArg (fun x : Int × Int × T_api_Op => x.2.2.2.1.2.1.2.1) k45.2 :),⟨(congrArg (fun x : Int × Int × T_api_Op => x.2.2.2.1.2.1.2.2) k45.2 :),slK (Rds.to (Rds.self (enc := e_api_Label)) (congrArg (fun x : Int × Int × T_api_Op => x.2.2.2.1.2.2) k45.2 :)) (⟨(congrArg (fun x : Int × Int × T_api_Op => x.2.2.2.2.1.1) k45.2 :),⟨(congrArg (fun x : Int × Int × T_api_Op => x.2.2.2.2.1.2.1) k45.2 :),⟨(congrArg (fun x : Int × Int × T_api_Op => x.2.2.2.2.1.2.2.1) k45.2 :),⟨(congrArg (fun x : Int × Int × T_api_Op => x.2.2.2.2.1.2.2.2) k45.2 :),⟨(congrArg (fun x : Int × Int × T_api_Op => x.2.2.2.2.2.1.1) k45.2 :),⟨(congrArg (fun x : Int × Int × T_api_Op => x.2.2.2.2.2.1.2.1) k45.2 :),⟨(congrArg (fun x : Int × Int × T_api_Op => x.2.2.2.2.2.1.2.2.1) k45.2 :),⟨(congrArg (fun x : Int × Int × T_api_Op => x.2.2.2.2.2.1.2.2.2.1.1) k45.2 :),⟨(congrArg (fun x : Int × Int × T_api_Op => x.2.2.2.2.2.1.2.2.2.1.2.1) k45.2 :),⟨(congrArg (fun x : Int × Int × T_api_Op => x.2.2.2.2.2.1.2.2.2.1.2.2) k45.2 :),slK (Rds.to (Rds.self (enc := e_api_Label)) (congrArg (fun x : Int × Int × T_api_Op => x.2.2.2.2.2.1.2.2.2.2.1) k45.2 :)) (⟨(congrArg (fun x : Int × Int × T_api_Op => x.2.2.2.2.2.1.2.2.2.2.2.1) k45.2 :),⟨(congrArg (fun x : Int × Int × T_api_Op => x.2.2.2.2.2.1.2.2.2.2.2.2.1) k45.2 :),⟨(congrArg (fun x : Int × Int × T_api_Op => x.2.2.2.2.2.1.2.2.2.2.2.2.2) k45.2 :),⟨(congrArg (fun x : Int × Int × T_api_Op => x.2.2.2.2.2.2) k45.2 :),trivial⟩⟩⟩⟩)⟩⟩⟩⟩⟩⟩⟩⟩⟩⟩)⟩⟩⟩⟩⟩⟩⟩⟩⟩)⟩) (fun h7 k46 => br k46 Cnd.eq (fun h11 k43 => ⟨(a.2.1,a.2.2),slK RdB.self (⟨rfl,⟨k43.1,⟨(congrArg (fun x : Int × Int × T_api_Op => x.1) k43.2 :),⟨(congrArg (fun x : Int × Int × T_api_Op => x.2.1) k43.2 :),⟨(congrArg (fun x : Int × Int × T_api_Op => x.2.2.1) k43.2 :),⟨(congrArg (fun x : Int × Int × T_api_Op => x.2.2.2.1.1) k43.2 :),⟨(congrArg (fun x : Int × Int × T_api_Op => x.2.2.2.1.2.1.1) k43.2 :),⟨(congrArg (fun x : Int × Int × T_api_Op => x.2.2.2.1.2.1.2.1) k43.2 :),⟨(congrArg (fun x : Int × Int × T_api_Op => x.2.2.2.1.2.1.2.2) k43.2 :),slK (Rds.to (Rds.self (enc := e_api_Label)) (congrArg (fun x : Int × Int × T_api_Op => x.2.2.2.1.2.2) k43.2 :)) (⟨(congrArg (fun x : Int × Int × T_api_Op => x.2.2.2.2.1.1) k43.2 :),⟨(congrArg (fun x : Int × Int × T_api_Op => x.2.2.2.2.1.2.1) k43.2 :),⟨(congrArg (fun x : Int × Int × T_api_Op => x.2.2.2.2.1.2.2.1) k43.2 :),⟨(congrArg (fun x : Int × Int × T_api_Op => x.2.2.2.2.1.2.2.2) k43.2 :),⟨(congrArg (fun x : Int × Int × T_api_Op => x.2.2.2.2.2.1.1) k43.2 :),⟨(congrArg (fun x : Int × Int × T_api_Op => x.2.2.2.2.2.1.2.1) k43.2 :),⟨(congrArg (fun x : Int × Int × T_api_Op => x.2.2.2.2.2.1.2.2.1) k43.2 :),⟨(congrArg (fun x : Int × Int × T_api_Op => x.2.2.2.2.2.1.2.2.2.1.1) k43.2 :),⟨(congrArg (fun x : Int × Int × T_api_Op => x.2.2.2.2.2.1.2.2.2.1.2.1) k43.2 :),⟨(congrArg (fun x : Int × Int × T_api_Op => x.2.2.2.2.2.1.2.2.2.1.2.2) k43.2 :),slK (Rds.to (Rds.self (enc := e_api_Label)) (congrArg (fun x : Int × Int × T_api_Op => x.2.2.2.2.2.1.2.2.2.2.1) k43.2 :)) (⟨(congrArg (fun x : Int × Int × T_api_Op => x.2.2.2.2.2.1.2.2.2.2.2.1) k43.2 :),⟨(congrArg (fun x : Int × Int × T_api_Op => x.2.2.2.2.2.1.2.2.2.2.2.2.1) k43.2 :),⟨(congrArg (fun x : Int × Int × T_api_Op => x.2.2.2.2.2.1.2.2.2.2.2.2.2) k43.2 :),⟨(congrArg (fun x : Int × Int × T_api_Op => x.2.2.2.2.2.2) k43.2 :),trivial⟩⟩⟩⟩)⟩⟩⟩⟩⟩⟩⟩⟩⟩⟩)⟩⟩⟩⟩⟩⟩⟩⟩⟩)⟩) (fun h12 k44 => ⟨a.1.1,⟨rfl,⟨trivial,br k44 Cnd.b (fun h17 k40 => ⟨(a.2.1,a.2.2,(16 : Int)),slK RdB.self (⟨rfl,⟨rfl,⟨k40.1,br k40.2 Cnd.eq (fun h20 k31 => ⟨(takeText (a.2.1,a.2.2,(16 : Int))).1,⟨rfl,⟨k31.1,br k31.2 (Cnd.not Cnd.b) (fun h23 k27 => ⟨(congrArg (fun x : Int × Int × T_api_Op => x.1) k27 :),⟨(congrArg (fun x : Int × Int × T_api_Op => x.2.1) k27 :),⟨(congrArg (fun x : Int × Int × T_api_Op => x.2.2.1) k27 :),⟨(congrArg (fun x : Int × Int × T_api_Op => x.2.2.2.1.1) k27 :),⟨(congrArg (fun x : Int × Int × T_api_Op => x.2.2.2.1.2.1.1) k27 :),⟨(congrArg (fun x : Int × Int × T_api_Op => x.2.2.2.1.2.1.2.1) k27 :),⟨(congrArg (fun x : Int × Int × T_api_Op => x.2.2.2.1.2.1.2.2) k27 :),slK (Rds.to (Rds.self (enc := e_api_Label)) (congrArg (fun x : Int × Int × T_api_Op => x.2.2.2.1.2.2) k27 :)) (⟨(congrArg (fun x : Int × Int × T_api_Op => x.2.2.2.2.1.1) k27 :),⟨(congrArg (fun x : Int × Int × T_api_Op => x.2.2.2.2.1.2.1) k27 :),⟨(congrArg (fun x : Int × Int × T_api_Op => x.2.2.2.2.1.2.2.1) k27 :),⟨(congrArg (fun x : Int × Int × T_api_Op => x.2.2.2.2.1.2.2.2) k27 :),⟨(congrArg (fun x : Int × Int × T_api_Op => x.2.2.2.2.2.1.1) k27 :),⟨(congrArg (fun x : Int × Int × T_api_Op => x.2.2.2.2.2.1.2.1) k27 :),⟨(congrArg (fun x : Int × Int × T_api_Op => x.2.2.2.2.2.1.2.2.1) k27 :),⟨(congrArg (fun x : Int × Int × T_api_Op => x.2.2.2.2.2.1.2.2.2.1.1) k27 :),⟨(congrArg (fun x : Int × Int × T_api_Op => x.2.2.2.2.2.1.2.2.2.1.2.1) k27 :),⟨(congrArg (fun x : Int × Int × T_api_Op => x.2.2.2.2.2.1.2.2.2.1.2.2) k27 :),slK (Rds.to (Rds.self (enc := e_api_Label)) (congrArg (fun x : Int × Int × T_api_Op => x.2.2.2.2.2.1.2.2.2.2.1) k27 :)) (⟨(congrArg (fun x : Int × Int × T_api_Op => x.2.2.2.2.2.1.2.2.2.2.2.1) k27 :),⟨(congrArg (fun x : Int × Int × T_api_Op => x.2.2.2.2.2.1.2.2.2.2.2.2.1) k27 :),⟨(congrArg (fun x : Int × Int × T_api_Op => x.2.2.2.2.2.1.2.2.2.2.2.2.2) k27 :),⟨(congrArg (fun x : Int × Int × T_api_Op => x.2.2.2.2.2.2) k27 :),trivial⟩⟩⟩⟩)⟩⟩⟩⟩⟩⟩⟩⟩⟩⟩)⟩⟩⟩⟩⟩⟩⟩) (fun h24 k28 => ⟨(congrArg (fun x : Int × Int × T_api_Op => x.1) k28 :),⟨(congrArg (fun x : Int × Int × T_api_Op => x.2.1) k28 :),⟨(congrArg (fun x : Int × Int × T_api_Op => x.2.2.1) k28 :),⟨(congrArg (fun x : Int × Int × T_api_Op => x.2.2.2.1.1) k28 :),⟨(congrArg (fun x : Int × Int × T_api_Op => x.2.2.2.1.2.1.1) k28 :),⟨(congrArg (fun x : Int × Int × T_api_Op => x.2.2.2.1.2.1.2.1) k28 :),⟨(congrArg (fun x : Int × Int × T_api_Op => x.2.2.2.1.2.1.2.2) k28 :),slK (Rds.to (Rds.self (enc := e_api_Label)) (congrArg (fun x : Int × Int × T_api_Op => x.2.2.2.1.2.2) k28 :)) (⟨(congrArg (fun x : Int × Int × T_api_Op => x.2.2.2.2.1.1) k28 :),⟨(congrArg (fun x : Int × Int × T_api_Op => x.2.2.2.2.1.2.1) k28 :),⟨(congrArg (fun x : Int × Int × T_api_Op => x.2.2.2.2.1.2.2.1) k28 :),⟨(congrArg (fun x : Int × Int × T_api_Op => x.2.2.2.2.1.2.2.2) k28 :),⟨(congrArg (fun x : Int × Int × T_api_Op => x.2.2.2.2.2.1.1) k28 :),⟨(congrArg (fun x : Int × Int × T_api_Op => x.2.2.2.2.2.1.2.1) k28 :),⟨(congrArg (fun x : Int × Int × T_api_Op => x.2.2.2.2.2.1.2.2.1) k28 :),⟨(congrArg (fun x : Int × Int × T_api_Op => x.2.2.2.2.2.1.2.2.2.1.1) k28 :),⟨(congrArg (fun x : Int × Int × T_api_Op => x.2.2.2.2.2.1.2.2.2.1.2.1) k28 :),⟨(congrArg (fun x : Int × Int × T_api_Op => x.2.2.2.2.2.1.2.2.2.1.2.2) k28 :),slK (Rds.to (Rds.self (enc := e_api_Label)) (congrArg (fun x : Int × Int × T_api_Op => x.2.2.2.2.2.1.2.2.2.2.1) k28 :)) (⟨(congrArg (fun x : Int × Int × T_api_Op => x.2.2.2.2.2.1.2.2.2.2.2.1) k28 :),⟨(congrArg (fun x : Int × Int × T_api_Op => x.2.2.2.2.2.1.2.2.2.2.2.2.1) k28 :),⟨(congrArg (fun x : Int × Int × T_api_Op => x.2.2.2.2.2.1.2.2.2.2.2.2.2) k28 :),⟨(congrArg (fun x : Int × Int × T_api_Op => x.2.2.2.2.2.2) k28 :),trivial⟩⟩⟩⟩)⟩⟩⟩⟩⟩⟩⟩⟩⟩⟩)⟩⟩⟩⟩⟩⟩⟩)⟩⟩⟩) (fun h21 k32 => ⟨(congrArg (fun x : Int × Int × T_api_Op => x.1) k32 :),⟨(congrArg (fun x : Int × Int × T_api_Op => x.2.1) k32 :),⟨(congrArg (fun x : Int × Int × T_api_Op => x.2.2.1) k32 :),⟨(congrArg (fun x : Int × Int × T_api_Op => x.2.2.2.1.1) k32 :),⟨(congrArg (fun x : Int × Int × T_api_Op => x.2.2.2.1.2.1.1) k32 :),⟨(congrArg (fun x : Int × Int × T_api_Op => x.2.2.2.1.2.1.2.1) k32 :),⟨(congrArg (fun x : Int × Int × T_api_Op => x.2.2.2.1.2.1.2.2) k32 :),slK (Rds.to (Rds.self (enc := e_api_Label)) (congrArg (fun x : Int × Int × T_api_Op => x.2.2.2.1.2.2) k32 :)) (⟨(congrArg (fun x : Int × Int × T_api_Op => x.2.2.2.2.1.1) k32 :),⟨(congrArg (fun x : Int × Int × T_api_Op => x.2.2.2.2.1.2.1) k32 :),⟨(congrArg (fun x : Int × Int × T_api_Op => x.2.2.2.2.1.2.2.1) k32 :),⟨(congrArg (fun x : Int × Int × T_api_Op => x.2.2.2.2.1.2.2.2) k32 :),⟨(congrArg (fun x : Int × Int × T_api_Op => x.2.2.2.2.2.1.1) k32 :),⟨(congrArg (fun x : Int × Int × T_api_Op => x.2.2.2.2.2.1.2.1) k32 :),⟨(congrArg (fun x : Int × Int × T_api_Op => x.2.2.2.2.2.1.2.2.1) k32 :),⟨(congrArg (fun x : Int × Int × T_api_Op => x.2.2.2.2.2.1.2.2.2.1.1) k32 :),⟨(congrArg (fun x : Int × Int × T_api_Op => x.2.2.2.2.2.1.2.2.2.1.2.1) k32 :),⟨(congrArg (fun x : Int × Int × T_api_Op => x.2.2.2.2.2.1.2.2.2.1.2.2) k32 :),slK (Rds.to (Rds.self (enc := e_api_Label)) (congrArg (fun x : Int × Int × T_api_Op => x.2.2.2.2.2.1.2.2.2.2.1) k32 :)) (⟨(congrArg (fun x : Int × Int × T_api_Op => x.2.2.2.2.2.1.2.2.2.2.2.1) k32 :),⟨(congrArg (fun x : Int × Int × T_api_Op => x.2.2.2.2.2.1.2.2.2.2.2.2.1) k32 :),⟨(congrArg (fun x : Int × Int × T_api_Op => x.2.2.2.2.2.1.2.2.2.2.2.2.2) k32 :),⟨(congrArg (fun x : Int × Int × T_api_Op => x.2.2.2.2.2.2) k32 :),trivial⟩⟩⟩⟩)⟩⟩⟩⟩⟩⟩⟩⟩⟩⟩)⟩⟩⟩⟩⟩⟩⟩)⟩⟩⟩)⟩) (fun h18 k41 => br k41 Cnd.ne (fun h34 k38 => ⟨(congrArg (fun x : Int × Int × T_api_Op => x.1) k38 :),⟨(congrArg (fun x : Int × Int × T_api_Op => x.2.1) k38 :),⟨(congrArg (fun x : Int × Int × T_api_Op => x.2.2.1) k38 :),⟨(congrArg (fun x : Int × Int × T_api_Op => x.2.2.2.1.1) k38 :),⟨(congrArg (fun x : Int × Int × T_api_Op => x.2.2.2.1.2.1.1) k38 :),⟨(congrArg (fun x : Int × Int × T_api_Op => x.2.2.2.1.2.1.2.1) k38 :),⟨(congrArg (fun x : Int × Int × T_api_Op => x.2.2.2.1.2.1.2.2) k38 :),slK (Rds.to (Rds.self (enc := e_api_Label)) (congrArg (fun x : Int × Int × T_api_Op => x.2.2.2.1.2.2) k38 :)) (⟨(congrArg (fun x : Int × Int × T_api_Op => x.2.2.2.2.1.1) k38 :),⟨(congrArg (fun x : Int × Int × T_api_Op => x.2.2.2.2.1.2.1) k38 :),⟨(congrArg (fun x : Int × Int × T_api_Op => x.2.2.2.2.1.2.2.1) k38 :),⟨(congrArg (fun x : Int × Int × T_api_Op => x.2.2.2.2.1.2.2.2) k38 :),⟨(congrArg (fun x : Int × Int × T_api_Op => x.2.2.2.2.2.1.1) k38 :),⟨(congrArg (fun x : Int × Int × T_api_Op => x.2.2.2.2.2.1.2.1) k38 :),⟨(congrArg (fun x : Int × Int × T_api_Op => x.2.2.2.2.2.1.2.2.1) k38 :),⟨(congrArg (fun x : Int × Int × T_api_Op => x.2.2.2.2.2.1.2.2.2.1.1) k38 :),⟨(congrArg (fun x : Int × Int × T_api_Op => x.2.2.2.2.2.1.2.2.2.1.2.1) k38 :),⟨(congrArg (fun x : Int × Int × T_api_Op => x.2.2.2.2.2.1.2.2.2.1.2.2) k38 :),slK (Rds.to (Rds.self (enc := e_api_Label)) (congrArg (fun x : Int × Int × T_api_Op => x.2.2.2.2.2.1.2.2.2.2.1) k38 :)) (⟨(congrArg (fun x : Int × Int × T_api_Op => x.2.2.2.2.2.1.2.2.2.2.2.1) k38 :),⟨(congrArg (fun x : Int × Int × T_api_Op => x.2.2.2.2.2.1.2.2.2.2.2.2.1) k38 :),⟨(congrArg (fun x : Int × Int × T_api_Op => x.2.2.2.2.2.1.2.2.2.2.2.2.2) k38 :),⟨(congrArg (fun x : Int × Int × T_api_Op => x.2.2.2.2.2.2) k38 :),trivial⟩⟩⟩⟩)⟩⟩⟩⟩⟩⟩⟩⟩⟩⟩)⟩⟩⟩⟩⟩⟩⟩) (fun h35 k39 => ⟨(congrArg (fun x : Int × Int × T_api_Op => x.1) k39 :),⟨(congrArg (fun x : Int × Int × T_api_Op => x.2.1) k39 :),⟨(congrArg (fun x : Int × Int × T_api_Op => x.2.2.1) k39 :),⟨(congrArg (fun x : Int × Int × T_api_Op => x.2.2.2.1.1) k39 :),⟨(congrArg (fun x : Int × Int × T_api_Op => x.2.2.2.1.2.1.1) k39 :),⟨(congrArg (fun x : Int × Int × T_api_Op => x.2.2.2.1.2.1.2.1) k39 :),⟨(congrArg (fun x : Int × Int × T_api_Op => x.2.2.2.1.2.1.2.2) k39 :),slK (Rds.to (Rds.self (enc := e_api_Label)) (congrArg (fun x : Int × Int × T_api_Op => x.2.2.2.1.2.2) k39 :)) (⟨(congrArg (fun x : Int × Int × T_api_Op => x.2.2.2.2.1.1) k39 :),⟨(congrArg (fun x : Int × Int × T_api_Op => x.2.2.2.2.1.2.1) k39 :),⟨(congrArg (fun x : Int × Int × T_api_Op => x.2.2.2.2.1.2.2.1) k39 :),⟨(congrArg (fun x : Int × Int × T_api_Op => x.2.2.2.2.1.2.2.2) k39 :),⟨(congrArg (fun x : Int × Int × T_api_Op => x.2.2.2.2.2.1.1) k39 :),⟨(congrArg (fun x : Int × Int × T_api_Op => x.2.2.2.2.2.1.2.1) k39 :),⟨(congrArg (fun x : Int × Int × T_api_Op => x.2.2.2.2.2.1.2.2.1) k39 :),⟨(congrArg (fun x : Int × Int × T_api_Op => x.2.2.2.2.2.1.2.2.2.1.1) k39 :),⟨(congrArg (fun x : Int × Int × T_api_Op => x.2.2.2.2.2.1.2.2.2.1.2.1) k39 :),⟨(congrArg (fun x : Int × Int × T_api_Op => x.2.2.2.2.2.1.2.2.2.1.2.2) k39 :),slK (Rds.to (Rds.self (enc := e_api_Label)) (congrArg (fun x : Int × Int × T_api_Op => x.2.2.2.2.2.1.2.2.2.2.1) k39 :)) (⟨(congrArg (fun x : Int × Int × T_api_Op => x.2.2.2.2.2.1.2.2.2.2.2.1) k39 :),⟨(congrArg (fun x : Int × Int × T_api_Op => x.2.2.2.2.2.1.2.2.2.2.2.2.1) k39 :),⟨(congrArg (fun x : Int × Int × T_api_Op => x.2.2.2.2.2.1.2.2.2.2.2.2.2) k39 :),⟨(congrArg (fun x : Int × Int × T_api_Op => x.2.2.2.2.2.2) k39 :),trivial⟩⟩⟩⟩)⟩⟩⟩⟩⟩⟩⟩⟩⟩⟩)⟩⟩⟩⟩⟩⟩⟩))⟩⟩⟩)))
theorem f361.eq (a : T_api_Op × ByteArray × Int) : (f361.af a).gives f361.env (f361.args a) (f361.blks a) (f361.res a) (f361.blks' a) = f361.tree a := by kernel_rfl
end Go.Abs

-- interregnum/oper.Decode
namespace Go.Abs
open Go
def f349.args (a : ByteArray) : List D := [.slice .ro 1 a.size (gstr a)]
def f349.blks (a : ByteArray) : List (List D) := []
def f349.res (a : ByteArray) : List D := [.agg [.int .i64 (((decO a).1).1),.str ((((decO a).1).2.1).1),.int .i64 (((((decO a).1).2.1).2.1).1),.int .i64 (((((decO a).1).2.1).2.1).2.1),.int .i64 (((((decO a).1).2.1).2.1).2.2),.slice .ro 2 (((((decO a).1).2.1).2.2).length) (gl e_api_Label ((((decO a).1).2.1).2.2)),.str ((((decO a).1).2.2.1).1),.int .i64 (((((decO a).1).2.2.1).2).1),.int .i64 (((((decO a).1).2.2.1).2).2.1),.int .i64 (((((decO a).1).2.2.1).2).2.2),.str ((((decO a).1).2.2.2.1).1),.str ((((decO a).1).2.2.2.1).2.1),.int .i64 ((((decO a).1).2.2.2.1).2.2.1),.int .i64 (((((decO a).1).2.2.2.1).2.2.2.1).1),.int .i64 (((((decO a).1).2.2.2.1).2.2.2.1).2.1),.int .i64 (((((decO a).1).2.2.2.1).2.2.2.1).2.2),.slice .ro 2 (((((decO a).1).2.2.2.1).2.2.2.2.1).length) (gl e_api_Label ((((decO a).1).2.2.2.1).2.2.2.2.1)),.str ((((decO a).1).2.2.2.1).2.2.2.2.2.1),.str ((((decO a).1).2.2.2.1).2.2.2.2.2.2.1),.int .i64 ((((decO a).1).2.2.2.1).2.2.2.2.2.2.2),.str (((decO a).1).2.2.2.2)],.int .i64 ((decO a).2)]
def f349.blks' (a : ByteArray) : List (List D) := []
def f349.C : Contract := FnC f349.args f349.blks (fun a => decO_pre a) f349.res f349.blks'
end Go.Abs

/- interregnum/oper.Decode -/
namespace Go.Abs
open Go
set_option linter.unusedVariables false
def f349.kills (a : ByteArray) : List Hint := []
def f349.cuts (a : ByteArray) : List (Nat × Σ β : Type,β→Tm) := []
def f349.af (a : ByteArray) : AF := AF.mk (.seq (.region [⟨(some 2),0,(.alloc [.int .i64 (0),.str ByteArray.empty,.int .i64 (0),.int .i64 (0),.int .i64 (0),.slice (.own 0) 2 0 gnil,.str ByteArray.empty,.int .i64 (0),.int .i64 (0),.int .i64 (0),.str ByteArray.empty,.str ByteArray.empty,.int .i64 (0),.int .i64 (0),.int .i64 (0),.int .i64 (0),.slice (.own 0) 2 0 gnil,.str ByteArray.empty,.str ByteArray.empty,.int .i64 (0),.str ByteArray.empty]),[],none⟩,
 ⟨(some 3),22,.move,[.c (.int .i64 (0))],none⟩])
 (.seq (.region [⟨(some 10),23,.move,[.t 0],none⟩,
 ⟨(some 11),24,(.call false 18),[.t 10,.c (.int .i64 (0))],none⟩,
 ⟨(some 9),28,.move,[.t 11],none⟩,
 ⟨(some 12),29,(.extract 0),[.t 9],none⟩,
 ⟨(some 13),30,(.extract 1),[.t 9],none⟩,
 ⟨(some 14),31,(.extract 2),[.t 9],none⟩,
 ⟨(some 4),32,.move,[.t 12],none⟩,
 ⟨(some 5),33,.move,[.t 13],none⟩,
 ⟨(some 6),34,.move,[.t 14],none⟩])
 (.seq (.block 0 (.seq (.region [⟨(some 16),35,.move,[.t 6],none⟩,
 ⟨(some 17),36,(.bin .neq),[.t 16,.c (.int .i64 (0))],none⟩,
 ⟨(some 15),37,.move,[.t 17],none⟩])
 (.cond (.t 15) (.seq (.region [⟨(some 18),38,(.build [.int .i64 (0),.str ByteArray.empty,.int .i64 (0),.int .i64 (0),.int .i64 (0),.slice .full 2 0 gnil,.str ByteArray.empty,.int .i64 (0),.int .i64 (0),.int .i64 (0),.str ByteArray.empty,.str ByteArray.empty,.int .i64 (0),.int .i64 (0),.int .i64 (0),.int .i64 (0),.slice .full 2 0 gnil,.str ByteArray.empty,.str ByteArray.empty,.int .i64 (0),.str ByteArray.empty] []),[],none⟩,
 ⟨(some 19),39,.move,[.t 6],none⟩,
 ⟨none,40,(.store 21),[.t 2,.t 18],none⟩,
 ⟨(some 3),41,.move,[.t 19],none⟩])
 (.ret)) (.seq (.region [⟨(some 21),42,.move,[.t 4],none⟩,
 ⟨(some 22),43,(.bin .gtr),[.t 21,.c (.int .u64 (9))],none⟩,
 ⟨(some 20),44,.move,[.t 22],none⟩])
 (.cond (.t 20) (.seq (.region [⟨(some 23),45,(.build [.int .i64 (0),.str ByteArray.empty,.int .i64 (0),.int .i64 (0),.int .i64 (0),.slice .full 2 0 gnil,.str ByteArray.empty,.int .i64 (0),.int .i64 (0),.int .i64 (0),.str ByteArray.empty,.str ByteArray.empty,.int .i64 (0),.int .i64 (0),.int .i64 (0),.int .i64 (0),.slice .full 2 0 gnil,.str ByteArray.empty,.str ByteArray.empty,.int .i64 (0),.str ByteArray.empty] []),[],none⟩,
 ⟨none,46,(.store 21),[.t 2,.t 23],none⟩,
 ⟨(some 3),47,.move,[.c (.int .i64 (3))],none⟩])
 (.ret)) (.skip))))))
 (.seq (.region [⟨(some 24),48,.move,[.t 4],none⟩,
 ⟨(some 25),49,(.conv (.int .i64)),[.t 24],none⟩,
 ⟨(some 26),50,(.build [.int .i64 (0),.str ByteArray.empty,.int .i64 (0),.int .i64 (0),.int .i64 (0),.slice .full 2 0 gnil,.str ByteArray.empty,.int .i64 (0),.int .i64 (0),.int .i64 (0),.str ByteArray.empty,.str ByteArray.empty,.int .i64 (0),.int .i64 (0),.int .i64 (0),.int .i64 (0),.slice .full 2 0 gnil,.str ByteArray.empty,.str ByteArray.empty,.int .i64 (0),.str ByteArray.empty] [(0,1)]),[.t 25],none⟩,
 ⟨(some 7),51,(.alloc [.int .i64 (0),.str ByteArray.empty,.int .i64 (0),.int .i64 (0),.int .i64 (0),.slice (.own 0) 2 0 gnil,.str ByteArray.empty,.int .i64 (0),.int .i64 (0),.int .i64 (0),.str ByteArray.empty,.str ByteArray.empty,.int .i64 (0),.int .i64 (0),.int .i64 (0),.int .i64 (0),.slice (.own 0) 2 0 gnil,.str ByteArray.empty,.str ByteArray.empty,.int .i64 (0),.str ByteArray.empty]),[],none⟩,
 ⟨none,73,(.store 21),[.t 7,.t 26],none⟩])
 (.seq (.region [⟨(some 28),74,.move,[.t 0],none⟩,
 ⟨(some 29),75,.move,[.t 5],none⟩,
 ⟨(some 30),76,(.call true 361),[.t 7,.t 28,.t 29],none⟩,
 ⟨(some 27),80,.move,[.t 30],none⟩,
 ⟨(some 31),81,(.extract 0),[.t 27],none⟩,
 ⟨(some 32),82,(.extract 1),[.t 27],none⟩,
 ⟨(some 8),83,.move,[.t 31],none⟩,
 ⟨(some 6),84,.move,[.t 32],none⟩])
 (.seq (.block 1 (.seq (.region [⟨(some 34),85,.move,[.t 6],none⟩,
 ⟨(some 35),86,(.bin .neq),[.t 34,.c (.int .i64 (0))],none⟩,
 ⟨(some 33),87,.move,[.t 35],none⟩])
 (.cond (.t 33) (.seq (.region [⟨(some 36),88,(.build [.int .i64 (0),.str ByteArray.empty,.int .i64 (0),.int .i64 (0),.int .i64 (0),.slice .full 2 0 gnil,.str ByteArray.empty,.int .i64 (0),.int .i64 (0),.int .i64 (0),.str ByteArray.empty,.str ByteArray.empty,.int .i64 (0),.int .i64 (0),.int .i64 (0),.int .i64 (0),.slice .full 2 0 gnil,.str ByteArray.empty,.str ByteArray.empty,.int .i64 (0),.str ByteArray.empty] []),[],none⟩,
 ⟨(some 37),89,.move,[.t 6],none⟩,
 ⟨none,90,(.store 21),[.t 2,.t 36],none⟩,
 ⟨(some 3),91,.move,[.t 37],none⟩])
 (.ret)) (.seq (.region [⟨(some 39),92,.move,[.t 8],none⟩,
 ⟨(some 40),93,.move,[.t 0],none⟩,
 ⟨(some 41),94,(.len false),[.t 40],none⟩,
 ⟨(some 42),95,(.bin .neq),[.t 39,.t 41],none⟩,
 ⟨(some 38),96,.move,[.t 42],none⟩])
 (.cond (.t 38) (.seq (.region [⟨(some 43),97,(.build [.int .i64 (0),.str ByteArray.empty,.int .i64 (0),.int .i64 (0),.int .i64 (0),.slice .full 2 0 gnil,.str ByteArray.empty,.int .i64 (0),.int .i64 (0),.int .i64 (0),.str ByteArray.empty,.str ByteArray.empty,.int .i64 (0),.int .i64 (0),.int .i64 (0),.int .i64 (0),.slice .full 2 0 gnil,.str ByteArray.empty,.str ByteArray.empty,.int .i64 (0),.str ByteArray.empty] []),[],none⟩,
 ⟨none,98,(.store 21),[.t 2,.t 43],none⟩,
 ⟨(some 3),99,.move,[.c (.int .i64 (3))],none⟩])
 (.ret)) (.skip))))))
 (.seq (.region [⟨(some 44),100,(.load true 21),[.t 7],none⟩,
 ⟨none,101,(.store 21),[.t 2,.t 44],none⟩,
 ⟨(some 3),102,.move,[.c (.int .i64 (0))],none⟩])
 (.ret))))))))
 [.cell 2 true 21,.tmp 3] 0 44
def f349.env : Env := [(18,f18.C),(361,f361.C)]
def f349.tree (a : ByteArray) : Prop := ∃ c1 : ByteArray × Int,(a.size = c1.1.size)∧(∀ i,i < c1.1.size→DEqs ((gstr a) i) ((gstr c1.1) i))∧((0 : Int) = c1.2)∧(take_pre c1)∧Br (((takeN c1).2.2) != (0 : Int)) (((0 : Int) = (((decO a).1).1))∧(ByteArray.empty = ((((decO a).1).2.1).1))∧((0 : Int) = (((((decO a).1).2.1).2.1).1))∧((0 : Int) = (((((decO a).1).2.1).2.1).2.1))∧((0 : Int) = (((((decO a).1).2.1).2.1).2.2))∧(0 = (((((decO a).1).2.1).2.2).length))∧(∀ i,i < (((((decO a).1).2.1).2.2).length)→DEqs (gnil i) ((gl e_api_Label ((((decO a).1).2.1).2.2)) i))∧(ByteArray.empty = ((((decO a).1).2.2.1).1))∧((0 : Int) = (((((decO a).1).2.2.1).2).1))∧((0 : Int) = (((((decO a).1).2.2.1).2).2.1))∧((0 : Int) = (((((decO a).1).2.2.1).2).2.2))∧(ByteArray.empty = ((((decO a).1).2.2.2.1).1))∧(ByteArray.empty = ((((decO a).1).2.2.2.1).2.1))∧((0 : Int) = ((((decO a).1).2.2.2.1).2.2.1))∧((0 : Int) = (((((decO a).1).2.2.2.1).2.2.2.1).1))∧((0 : Int) = (((((decO a).1).2.2.2.1).2.2.2.1).2.1))∧((0 : Int) = (((((decO a).1).2.2.2.1).2.2.2.1).2.2))∧(0 = (((((decO a).1).2.2.2.1).2.2.2.2.1).length))∧(∀ i,i < (((((decO a).1).2.2.2.1).2.2.2.2.1).length)→DEqs (gnil i) ((gl e_api_Label ((((decO a).1).2.2.2.1).2.2.2.2.1)) i))∧(ByteArray.empty = ((((decO a).1).2.2.2.1).2.2.2.2.2.1))∧(ByteArray.empty = ((((decO a).1).2.2.2.1).2.2.2.2.2.2.1))∧((0 : Int) = ((((decO a).1).2.2.2.1).2.2.2.2.2.2.2))∧(ByteArray.empty = (((decO a).1).2.2.2.2))∧(((takeN c1).2.2) = ((decO a).2))∧True) (Br (decide ((9 : Int) < ((takeN c1).1))) (((0 : Int) = (((decO a).1).1))∧(ByteArray.empty = ((((decO a).1).2.1).1))∧((0 : Int) = (((((decO a).1).2.1).2.1).1))∧((0 : Int) = (((((decO a).1).2.1).2.1).2.1))∧((0 : Int) = (((((decO a).1).2.1).2.1).2.2))∧(0 = (((((decO a).1).2.1).2.2).length))∧(∀ i,i < (((((decO a).1).2.1).2.2).length)→DEqs (gnil i) ((gl e_api_Label ((((decO a).1).2.1).2.2)) i))∧(ByteArray.empty = ((((decO a).1).2.2.1).1))∧((0 : Int) = (((((decO a).1).2.2.1).2).1))∧((0 : Int) = (((((decO a).1).2.2.1).2).2.1))∧((0 : Int) = (((((decO a).1).2.2.1).2).2.2))∧(ByteArray.empty = ((((decO a).1).2.2.2.1).1))∧(ByteArray.empty = ((((decO a).1).2.2.2.1).2.1))∧((0 : Int) = ((((decO a).1).2.2.2.1).2.2.1))∧((0 : Int) = (((((decO a).1).2.2.2.1).2.2.2.1).1))∧((0 : Int) = (((((decO a).1).2.2.2.1).2.2.2.1).2.1))∧((0 : Int) = (((((decO a).1).2.2.2.1).2.2.2.1).2.2))∧(0 = (((((decO a).1).2.2.2.1).2.2.2.2.1).length))∧(∀ i,i < (((((decO a).1).2.2.2.1).2.2.2.2.1).length)→DEqs (gnil i) ((gl e_api_Label ((((decO a).1).2.2.2.1).2.2.2.2.1)) i))∧(ByteArray.empty = ((((decO a).1).2.2.2.1).2.2.2.2.2.1))∧(ByteArray.empty = ((((decO a).1).2.2.2.1).2.2.2.2.2.2.1))∧((0 : Int) = ((((decO a).1).2.2.2.1).2.2.2.2.2.2.2))∧(ByteArray.empty = (((decO a).1).2.2.2.2))∧((3 : Int) = ((decO a).2))∧True) (Let (IntKind.i64.wrap ((takeN c1).1)) (fun v8 : Int => ∃ c9 : T_api_Op × ByteArray × Int,(a.size = c9.2.1.size)∧(∀ i,i < c9.2.1.size→DEqs ((gstr a) i) ((gstr c9.2.1) i))∧(((takeN c1).2.1) = c9.2.2)∧(v8 = c9.1.1)∧(ByteArray.empty = c9.1.2.1.1)∧((0 : Int) = c9.1.2.1.2.1.1)∧((0 : Int) = c9.1.2.1.2.1.2.1)∧((0 : Int) = c9.1.2.1.2.1.2.2)∧(0 = c9.1.2.1.2.2.length)∧(∀ i,i < c9.1.2.1.2.2.length→DEqs (gnil i) ((gl e_api_Label c9.1.2.1.2.2) i))∧(ByteArray.empty = c9.1.2.2.1.1)∧((0 : Int) = c9.1.2.2.1.2.1)∧((0 : Int) = c9.1.2.2.1.2.2.1)∧((0 : Int) = c9.1.2.2.1.2.2.2)∧(ByteArray.empty = c9.1.2.2.2.1.1)∧(ByteArray.empty = c9.1.2.2.2.1.2.1)∧((0 : Int) = c9.1.2.2.2.1.2.2.1)∧((0 : Int) = c9.1.2.2.2.1.2.2.2.1.1)∧((0 : Int) = c9.1.2.2.2.1.2.2.2.1.2.1)∧((0 : Int) = c9.1.2.2.2.1.2.2.2.1.2.2)∧(0 = c9.1.2.2.2.1.2.2.2.2.1.length)∧(∀ i,i < c9.1.2.2.2.1.2.2.2.2.1.length→DEqs (gnil i) ((gl e_api_Label c9.1.2.2.2.1.2.2.2.2.1) i))∧(ByteArray.empty = c9.1.2.2.2.1.2.2.2.2.2.1)∧(ByteArray.empty = c9.1.2.2.2.1.2.2.2.2.2.2.1)∧((0 : Int) = c9.1.2.2.2.1.2.2.2.2.2.2.2)∧(ByteArray.empty = c9.1.2.2.2.2)∧(takesO_pre c9)∧Br (((takesO c9).2.1) != (0 : Int)) (((0 : Int) = (((decO a).1).1))∧(ByteArray.empty = ((((decO a).1).2.1).1))∧((0 : Int) = (((((decO a).1).2.1).2.1).1))∧((0 : Int) = (((((decO a).1).2.1).2.1).2.1))∧((0 : Int) = (((((decO a).1).2.1).2.1).2.2))∧(0 = (((((decO a).1).2.1).2.2).length))∧(∀ i,i < (((((decO a).1).2.1).2.2).length)→DEqs (gnil i) ((gl e_api_Label ((((decO a).1).2.1).2.2)) i))∧(ByteArray.empty = ((((decO a).1).2.2.1).1))∧((0 : Int) = (((((decO a).1).2.2.1).2).1))∧((0 : Int) = (((((decO a).1).2.2.1).2).2.1))∧((0 : Int) = (((((decO a).1).2.2.1).2).2.2))∧(ByteArray.empty = ((((decO a).1).2.2.2.1).1))∧(ByteArray.empty = ((((decO a).1).2.2.2.1).2.1))∧((0 : Int) = ((((decO a).1).2.2.2.1).2.2.1))∧((0 : Int) = (((((decO a).1).2.2.2.1).2.2.2.1).1))∧((0 : Int) = (((((decO a).1).2.2.2.1).2.2.2.1).2.1))∧((0 : Int) = (((((decO a).1).2.2.2.1).2.2.2.1).2.2))∧(0 = (((((decO a).1).2.2.2.1).2.2.2.2.1).length))∧(∀ i,i < (((((decO a).1).2.2.2.1).2.2.2.2.1).length)→DEqs (gnil i) ((gl e_api_Label ((((decO a).1).2.2.2.1).2.2.2.2.1)) i))∧(ByteArray.empty = ((((decO a).1).2.2.2.1).2.2.2.2.2.1))∧(ByteArray.empty = ((((decO a).1).2.2.2.1).2.2.2.2.2.2.1))∧((0 : Int) = ((((decO a).1).2.2.2.1).2.2.2.2.2.2.2))∧(ByteArray.empty = (((decO a).1).2.2.2.2))∧(((takesO c9).2.1) = ((decO a).2))∧True) (Br (((takesO c9).1) != (a.size : Int)) (((0 : Int) = (((decO a).1).1))∧(ByteArray.empty = ((((decO a).1).2.1).1))∧((0 : Int) = (((((decO a).1).2.1).2.1).1))∧((0 : Int) = (((((decO a).1).2.1).2.1).2.1))∧((0 : Int) = (((((decO a).1).2.1).2.1).2.2))∧(0 = (((((decO a).1).2.1).2.2).length))∧(∀ i,i < (((((decO a).1).2.1).2.2).length)→DEqs (gnil i) ((gl e_api_Label ((((decO a).1).2.1).2.2)) i))∧(ByteArray.empty = ((((decO a).1).2.2.1).1))∧((0 : Int) = (((((decO a).1).2.2.1).2).1))∧((0 : Int) = (((((decO a).1).2.2.1).2).2.1))∧((0 : Int) = (((((decO a).1).2.2.1).2).2.2))∧(ByteArray.empty = ((((decO a).1).2.2.2.1).1))∧(ByteArray.empty = ((((decO a).1).2.2.2.1).2.1))∧((0 : Int) = ((((decO a).1).2.2.2.1).2.2.1))∧((0 : Int) = (((((decO a).1).2.2.2.1).2.2.2.1).1))∧((0 : Int) = (((((decO a).1).2.2.2.1).2.2.2.1).2.1))∧((0 : Int) = (((((decO a).1).2.2.2.1).2.2.2.1).2.2))∧(0 = (((((decO a).1).2.2.2.1).2.2.2.2.1).length))∧(∀ i,i < (((((decO a).1).2.2.2.1).2.2.2.2.1).length)→DEqs (gnil i) ((gl e_api_Label ((((decO a).1).2.2.2.1).2.2.2.2.1)) i))∧(ByteArray.empty = ((((decO a).1).2.2.2.1).2.2.2.2.2.1))∧(ByteArray.empty = ((((decO a).1).2.2.2.1).2.2.2.2.2.2.1))∧((0 : Int) = ((((decO a).1).2.2.2.1).2.2.2.2.2.2.2))∧(ByteArray.empty = (((decO a).1).2.2.2.2))∧((3 : Int) = ((decO a).2))∧True) (((((takesO c9).2.2).1) = (((decO a).1).1))∧(((((takesO c9).2.2).2.1).1) = ((((decO a).1).2.1).1))∧((((((takesO c9).2.2).2.1).2.1).1) = (((((decO a).1).2.1).2.1).1))∧((((((takesO c9).2.2).2.1).2.1).2.1) = (((((decO a).1).2.1).2.1).2.1))∧((((((takesO c9).2.2).2.1).2.1).2.2) = (((((decO a).1).2.1).2.1).2.2))∧((((((takesO c9).2.2).2.1).2.2).length) = (((((decO a).1).2.1).2.2).length))∧(∀ i,i < (((((decO a).1).2.1).2.2).length)→DEqs ((gl e_api_Label ((((takesO c9).2.2).2.1).2.2)) i) ((gl e_api_Label ((((decO a).1).2.1).2.2)) i))∧(((((takesO c9).2.2).2.2.1).1) = ((((decO a).1).2.2.1).1))∧((((((takesO c9).2.2).2.2.1).2).1) = (((((decO a).1).2.2.1).2).1))∧((((((takesO c9).2.2).2.2.1).2).2.1) = (((((decO a).1).2.2.1).2).2.1))∧((((((takesO c9).2.2).2.2.1).2).2.2) = (((((decO a).1).2.2.1).2).2.2))∧(((((takesO c9).2.2).2.2.2.1).1) = ((((decO a).1).2.2.2.1).1))∧(((((takesO c9).2.2).2.2.2.1).2.1) = ((((decO a).1).2.2.2.1).2.1))∧(((((takesO c9).2.2).2.2.2.1).2.2.1) = ((((decO a).1).2.2.2.1).2.2.1))∧((((((takesO c9).2.2).2.2.2.1).2.2.2.1).1) = (((((decO a).1).2.2.2.1).2.2.2.1).1))∧((((((takesO c9).2.2).2.2.2.1).2.2.2.1).2.1) = (((((decO a).1).2.2.2.1).2.2.2.1).2.1))∧((((((takesO c9).2.2).2.2.2.1).2.2.2.1).2.2) = (((((decO a).1).2.2.2.1).2.2.2.1).2.2))∧((((((takesO c9).2.2).2.2.2.1).2.2.2.2.1).length) = (((((decO a).1).2.2.2.1).2.2.2.2.1).length))∧(∀ i,i < (((((decO a).1).2.2.2.1).2.2.2.2.1).length)→DEqs ((gl e_api_Label ((((takesO c9).2.2).2.2.2.1).2.2.2.2.1)) i) ((gl e_api_Label ((((decO a).1).2.2.2.1).2.2.2.2.1)) i))∧(((((takesO c9).2.2).2.2.2.1).2.2.2.2.2.1) = ((((decO a).1).2.2.2.1).2.2.2.2.2.1))∧(((((takesO c9).2.2).2.2.2.1).2.2.2.2.2.2.1) = ((((decO a).1).2.2.2.1).2.2.2.2.2.2.1))∧(((((takesO c9).2.2).2.2.2.1).2.2.2.2.2.2.2) = ((((decO a).1).2.2.2.1).2.2.2.2.2.2.2))∧((((takesO c9).2.2).2.2.2.2) = (((decO a).1).2.2.2.2))∧((0 : Int) = ((decO a).2))∧True)))))
def f349.vc (a : ByteArray) : Prop := (take_pre (a,(0 : Int))∧((¬ ((takeN (a,(0 : Int))).2.2) = (0 : Int)→((((0 : Int),(ByteArray.empty,((0 : Int),(0 : Int),(0 : Int)),[]),(ByteArray.empty,((0 : Int),(0 : Int),(0 : Int))),(ByteArray.empty,ByteArray.empty,(0 : Int),((0 : Int),(0 : Int),(0 : Int)),[],ByteArray.empty,ByteArray.empty,(0 : Int)),ByteArray.empty),(takeN (a,(0 : Int))).2.2) = decO a))∧(¬ (¬ ((takeN (a,(0 : Int))).2.2) = (0 : Int))→(((9 : Int) < ((takeN (a,(0 : Int))).1)→((((0 : Int),(ByteArray.empty,((0 : Int),(0 : Int),(0 : Int)),[]),(ByteArray.empty,((0 : Int),(0 : Int),(0 : Int))),(ByteArray.empty,ByteArray.empty,(0 : Int),((0 : Int),(0 : Int),(0 : Int)),[],ByteArray.empty,ByteArray.empty,(0 : Int)),ByteArray.empty),(3 : Int)) = decO a))∧(¬ ((9 : Int) < ((takeN (a,(0 : Int))).1))→(-9223372036854775808≤((takeN (a,(0 : Int))).1)∧((takeN (a,(0 : Int))).1)≤9223372036854775807∧(takesO_pre ((((takeN (a,(0 : Int))).1),(ByteArray.empty,((0 : Int),(0 : Int),(0 : Int)),[]),(ByteArray.empty,((0 : Int),(0 : Int),(0 : Int))),(ByteArray.empty,ByteArray.empty,(0 : Int),((0 : Int),(0 : Int),(0 : Int)),[],ByteArray.empty,ByteArray.empty,(0 : Int)),ByteArray.empty),a,(takeN (a,(0 : Int))).2.1)∧((¬ ((takesO ((((takeN (a,(0 : Int))).1),(ByteArray.empty,((0 : Int),(0 : Int),(0 : Int)),[]),(ByteArray.empty,((0 : Int),(0 : Int),(0 : Int))),(ByteArray.empty,ByteArray.empty,(0 : Int),((0 : Int),(0 : Int),(0 : Int)),[],ByteArray.empty,ByteArray.empty,(0 : Int)),ByteArray.empty),a,(takeN (a,(0 : Int))).2.1)).2.1) = (0 : Int)→((((0 : Int),(ByteArray.empty,((0 : Int),(0 : Int),(0 : Int)),[]),(ByteArray.empty,((0 : Int),(0 : Int),(0 : Int))),(ByteArray.empty,ByteArray.empty,(0 : Int),((0 : Int),(0 : Int),(0 : Int)),[],ByteArray.empty,ByteArray.empty,(0 : Int)),ByteArray.empty),(takesO ((((takeN (a,(0 : Int))).1),(ByteArray.empty,((0 : Int),(0 : Int),(0 : Int)),[]),(ByteArray.empty,((0 : Int),(0 : Int),(0 : Int))),(ByteArray.empty,ByteArray.empty,(0 : Int),((0 : Int),(0 : Int),(0 : Int)),[],ByteArray.empty,ByteArray.empty,(0 : Int)),ByteArray.empty),a,(takeN (a,(0 : Int))).2.1)).2.1) = decO a))∧(¬ (¬ ((takesO ((((takeN (a,(0 : Int))).1),(ByteArray.empty,((0 : Int),(0 : Int),(0 : Int)),[]),(ByteArray.empty,((0 : Int),(0 : Int),(0 : Int))),(ByteArray.empty,ByteArray.empty,(0 : Int),((0 : Int),(0 : Int),(0 : Int)),[],ByteArray.empty,ByteArray.empty,(0 : Int)),ByteArray.empty),a,(takeN (a,(0 : Int))).2.1)).2.1) = (0 : Int))→((¬ ((takesO ((((takeN (a,(0 : Int))).1),(ByteArray.empty,((0 : Int),(0 : Int),(0 : Int)),[]),(ByteArray.empty,((0 : Int),(0 : Int),(0 : Int))),(ByteArray.empty,ByteArray.empty,(0 : Int),((0 : Int),(0 : Int),(0 : Int)),[],ByteArray.empty,ByteArray.empty,(0 : Int)),ByteArray.empty),a,(takeN (a,(0 : Int))).2.1)).1) = (a.size : Int)→((((0 : Int),(ByteArray.empty,((0 : Int),(0 : Int),(0 : Int)),[]),(ByteArray.empty,((0 : Int),(0 : Int),(0 : Int))),(ByteArray.empty,ByteArray.empty,(0 : Int),((0 : Int),(0 : Int),(0 : Int)),[],ByteArray.empty,ByteArray.empty,(0 : Int)),ByteArray.empty),(3 : Int)) = decO a))∧(¬ (¬ ((takesO ((((takeN (a,(0 : Int))).1),(ByteArray.empty,((0 : Int),(0 : Int),(0 : Int)),[]),(ByteArray.empty,((0 : Int),(0 : Int),(0 : Int))),(ByteArray.empty,ByteArray.empty,(0 : Int),((0 : Int),(0 : Int),(0 : Int)),[],ByteArray.empty,ByteArray.empty,(0 : Int)),ByteArray.empty),a,(takeN (a,(0 : Int))).2.1)).1) = (a.size : Int))→((((takesO ((((takeN (a,(0 : Int))).1),(ByteArray.empty,((0 : Int),(0 : Int),(0 : Int)),[]),(ByteArray.empty,((0 : Int),(0 : Int),(0 : Int))),(ByteArray.empty,ByteArray.empty,(0 : Int),((0 : Int),(0 : Int),(0 : Int)),[],ByteArray.empty,ByteArray.empty,(0 : Int)),ByteArray.empty),a,(takeN (a,(0 : Int))).2.1)).2.2),(0 : Int)) = decO a))))))))))))
set_option maxRecDepth 100000 in
set_option maxHeartbeats 2000000 in
theorem f349.of (a : ByteArray) (h : f349.vc a) : f349.tree a := ⟨(a,(0 : Int)),slK RdB.self (⟨rfl,⟨h.1,br h.2 Cnd.ne (fun h2 k27 => ⟨(congrArg (fun x : T_api_Op × Int => x.1.1) k27 :),⟨(congrArg (fun x : T_api_Op × Int => x.1.2.1.1) k27 :),⟨(congrArg (fun x : T_api_Op × Int => x.1.2.1.2.1.1) k27 :),⟨(congrArg (fun x : T_api_Op × Int => x.1.2.1.2.1.2.1) k27 :),⟨(congrArg (fun x : T_api_Op × Int => x.1.2.1.2.1.2.2) k27 :),slK (Rds.to (Rds.nil (enc := e_api_Label)) (congrArg (fun x : T_api_Op × Int => x.1.2.1.2.2) k27 :)) (⟨(congrArg (fun x : T_api_Op × Int => x.1.2.2.1.1) k27 :),⟨(congrArg (fun x : T_api_Op × Int => x.1.2.2.1.2.1) k27 :),⟨(congrArg (fun x : T_api_Op × Int => x.1.2.2.1.2.2.1) k27 :),⟨(congrArg (fun x : T_api_Op × Int => x.1.2.2.1.2.2.2) k27 :),⟨(congrArg (fun x : T_api_Op × Int => x.1.2.2.2.1.1) k27 :),⟨(congrArg (fun x : T_api_Op × Int => x.1.2.2.2.1.2.1) k27 :),⟨(congrArg (fun x : T_api_Op × Int => x.1.2.2.2.1.2.2.1) k27 :),⟨(congrArg (fun x : T_api_Op × Int => x.1.2.2.2.1.2.2.2.1.1) k27 :),⟨(congrArg (fun x : T_api_Op × Int => x.1.2.2.2.1.2.2.2.1.2.1) k27 :),⟨(congrArg (fun x : T_api_Op × Int => x.1.2.2.2.1.2.2.2.1.2.2) k27 :),slK (Rds.to (Rds.nil (enc := e_api_Label)) (congrArg (fun x : T_api_Op × Int => x.1.2.2.2.1.2.2.2.2.1) k27 :)) (⟨(congrArg (fun x : T_api_Op × Int => x.1.2.2.2.1.2.2.2.2.2.1) k27 :),⟨(congrArg (fun x : T_api_Op × Int => x.1.2.2.2.1.2.2.2.2.2.2.1) k27 :),⟨(congrArg (fun x : T_api_Op × Int => x.1.2.2.2.1.2.2.2.2.2.2.2) k27 :),⟨(congrArg (fun x : T_api_Op × Int => x.1.2.2.2.2) k27 :),⟨(congrArg (fun x : T_api_Op × Int => x.2) k27 :),trivial⟩⟩⟩⟩⟩)⟩⟩⟩⟩⟩⟩⟩⟩⟩⟩)⟩⟩⟩⟩⟩) (fun h3 k28 => br k28 Cnd.dec (fun h5 k25 => ⟨(congrArg (fun x : T_api_Op × Int => x.1.1) k25 :),⟨(congrArg (fun x : T_api_Op × Int => x.1.2.1.1) k25 :),⟨(congrArg (fun x : T_api_Op × Int => x.1.2.1.2.1.1) k25 :),⟨(congrArg (fun x : T_api_Op × Int => x.1.2.1.2.1.2.1) k25 :),⟨(congrArg (fun x : T_api_Op × Int => x.1.2.1.2.1.2.2) k25 :),slK (Rds.to (Rds.nil (enc := e_api_Label)) (congrArg (fun x : T_api_Op × Int => x.1.2.1.2.2) k25 :)) (⟨(congrArg (fun x : T_api_Op × Int => x.1.2.2.1.1) k25 :),⟨(congrArg (fun x : T_api_Op × Int => x.1.2.2.1.2.1) k25 :),⟨(congrArg (fun x : T_api_Op × Int => x.1.2.2.1.2.2.1) k25 :),⟨(congrArg (fun x : T_api_Op × Int => x.1.2.2.1.2.2.2) k25 :),⟨(congrArg (fun x : T_api_Op × Int => x.1.2.2.2.1.1) k25 :),⟨(congrArg (fun x : T_api_Op × Int => x.1.2.2.2.1.2.1) k25 :),⟨(congrArg (fun x : T_api_Op × Int => x.1.2.2.2.1.2.2.1) k25 :),⟨(congrArg (fun x : T_api_Op × Int => x.1.2.2.2.1.2.2.2.1.1) k25 :),⟨(congrArg (fun x : T_api_Op × Int => x.1.2.2.2.1.2.2.2.1.2.1) k25 :),⟨(congrArg (fun x : T_api_Op × Int => x.1.2.2.2.1.2.2.2.1.2.2) k25 :),slK (Rds.to (Rds.nil (enc := e_api_Label)) (congrArg (fun x : T_api_Op × Int => x.1.2.2.2.1.2.2.2.2.1) k25 :)) (⟨(congrArg (fun x : T_api_Op × Int => x.1.2.2.2.1.2.2.2.2.2.1) k25 :),⟨(congrArg (fun x : T_api_Op × Int => x.1.2.2.2.1.2.2.2.2.2.2.1) k25 :),⟨(congrArg (fun x : T_api_Op × Int => x.1.2.2.2.1.2.2.2.2.2.2.2) k25 :),⟨(congrArg (fun x : T_api_Op × Int => x.1.2.2.2.2) k25 :),⟨(congrArg (fun x : T_api_Op × Int => x.2) k25 :),trivial⟩⟩⟩⟩⟩)⟩⟩⟩⟩⟩⟩⟩⟩⟩⟩)⟩⟩⟩⟩⟩) (fun h6 k26 => wrapK.i64 k26 (fun h22 h23 k24 => ⟨((((takeN (a,(0 : Int))).1),(ByteArray.empty,((0 : Int),(0 : Int),(0 : Int)),[]),(ByteArray.empty,((0 : Int),(0 : Int),(0 : Int))),(ByteArray.empty,ByteArray.empty,(0 : Int),((0 : Int),(0 : Int),(0 : Int)),[],ByteArray.empty,ByteArray.empty,(0 : Int)),ByteArray.empty),a,(takeN (a,(0 : Int))).2.1),slK RdB.self (⟨rfl,⟨rfl,⟨rfl,⟨rfl,⟨rfl,⟨rfl,slK (Rds.nil (enc := e_api_Label)) (⟨rfl,⟨rfl,⟨rfl,⟨rfl,⟨rfl,⟨rfl,⟨rfl,⟨rfl,⟨rfl,⟨rfl,slK (Rds.nil (enc := e_api_Label)) (⟨rfl,⟨rfl,⟨rfl,⟨rfl,⟨k24.1,br k24.2 Cnd.ne (fun h10 k19 => ⟨(congrArg (fun x : T_api_Op × Int => x.1.1) k19 :),⟨(congrArg (fun x : T_api_Op × Int => x.1.2.1.1) k19 :),⟨(congrArg (fun x : T_api_Op × Int => x.1.2.1.2.1.1) k19 :),⟨(congrArg (fun x : T_api_Op × Int => x.1.2.1.2.1.2.1) k19 :),⟨(congrArg (fun x : T_api_Op × Int => x.1.2.1.2.1.2.2) k19 :),slK (Rds.to (Rds.nil (enc := e_api_Label)) (congrArg (fun x : T_api_Op × Int => x.1.2.1.2.2) k19 :)) (⟨(congrArg (fun x : T_api_Op × Int => x.1.2.2.1.1) k19 :),⟨(congrArg (fun x : T_api_Op × Int => x.1.2.2.1.2.1) k19 :),⟨(congrArg (fun x : T_api_Op × Int => x.1.2.2.1.2.2.1) k19 :),⟨(congrArg (fun x : T_api_Op × Int => x.1.2.2.1.2.2.2) k19 :),⟨(congrArg (fun x : T_api_Op × Int => x.1.2.2.2.1.1) k19 :),⟨(congrArg (fun x : T_api_Op × Int => x.1.2.2.2.1.2.1) k19 :),⟨(congrArg (fun x : T_api_Op × Int => x.1.2.2.2.1.2.2.1) k19 :),⟨(congrArg (fun x : T_api_Op × Int => x.1.2.2.2.1.2.2.2.1.1) k19 :),⟨(congrArg (fun x : T_api_Op × Int => x.1.2.2.2.1.2.2.2.1.2.1) k19 :),⟨(congrArg (fun x : T_api_Op × Int => x.1.2.2.2.1.2.2.2.1.2.2) k19 :),slK (Rds.to (Rds.nil (enc := e_api_Label)) (congrArg (fun x : T_api_Op × Int => x.1.2.2.2.1.2.2.2.2.1) k19 :)) (⟨(congrArg (fun x : T_api_Op × Int => x.1.2.2.2.1.2.2.2.2.2.1) k19 :),⟨(congrArg (fun x : T_api_Op × Int => x.1.2.2.2.1.2.2.2.2.2.2.1) k19 :),⟨(congrArg (fun x : T_api_Op × Int => x.1.2.2.2.1.2.2.2.2.2.2.2) k19 :),⟨(congrArg (fun x : T_api_Op × Int => x.1.2.2.2.2) k19 :),⟨(congrArg (fun x : T_api_Op × Int => x.2) k19 :),trivial⟩⟩⟩⟩⟩)⟩⟩⟩⟩⟩⟩⟩⟩⟩⟩)⟩⟩⟩⟩⟩) (fun h11 k20 => br k20 Cnd.ne (fun h13 k17 => ⟨(congrArg (fun x : T_api_Op × Int => x.1.1) k17 :),⟨(congrArg (fun x : T_api_Op × Int => x.1.2.1.1) k17 :),⟨(congrArg (fun x : T_api_Op × Int => x.1.2.1.2.1.1) k17 :),⟨(congrArg (fun x : T_api_Op × Int => x.1.2.1.2.1.2.1) k17 :),⟨(congrArg (fun x : T_api_Op × Int => x.1.2.1.2.1.2.2) k17 :),slK (Rds.to (Rds.nil (enc := e_api_Label)) (congrArg (fun x : T_api_Op × Int => x.1.2.1.2.2) k17 :)) (⟨(congrArg (fun x : T_api_Op × Int => x.1.2.2.1.1) k17 :),⟨(congrArg (fun x : T_api_Op × Int => x.1.2.2.1.2.1) k17 :),⟨(congrArg (fun x : T_api_Op × Int => x.1.2.2.1.2.2.1) k17 :),⟨(congrArg (fun x : T_api_Op × Int => x.1.2.2.1.2.2.2) k17 :),⟨(congrArg (fun x : T_api_Op × Int => x.1.2.2.2.1.1) k17 :),⟨(congrArg (fun x : T_api_Op × Int => x.1.2.2.2.1.2.1) k17 :),⟨(congrArg (fun x : T_api_Op × Int => x.1.2.2.2.1.2.2.1) k17 :),⟨(congrArg (fun x : T_api_Op × Int => x.1.2.2.2.1.2.2.2.1.1) k17 :),⟨(congrArg (fun x : T_api_Op × Int => x.1.2.2.2.1.2.2.2.1.2.1) k17 :),⟨(congrArg (fun x : T_api_Op × Int => x.1.2.2.2.1.2.2.2.1.2.2) k17 :),slK (Rds.to (Rds.nil (enc := e_api_Label)) (congrArg (fun x : T_api_Op × Int => x.1.2.2.2.1.2.2.2.2.1) k17 :)) (⟨(congrArg (fun x : T_api_Op × Int => x.1.2.2.2.1.2.2.2.2.2.1) k17 :),⟨(congrArg (fun x : T_api_Op × Int => x.1.2.2.2.1.2.2.2.2.2.2.1) k17 :),⟨(congrArg (fun x : T_api_Op × Int => x.1.2.2.2.1.2.2.2.2.2.2.2) k17 :),⟨(congrArg (fun x : T_api_Op × Int => x.1.2.2.2.2) k17 :),⟨(congrArg (fun x : T_api_Op × Int => x.2) k17 :),trivial⟩⟩⟩⟩⟩)⟩⟩⟩⟩⟩⟩⟩⟩⟩⟩)⟩⟩⟩⟩⟩) (fun h14 k18 => ⟨(congrArg (fun x : T_api_Op × Int => x.1.1) k18 :),⟨(congrArg (fun x : T_api_Op × Int => x.1.2.1.1) k18 :),⟨(congrArg (fun x : T_api_Op × Int => x.1.2.1.2.1.1) k18 :),⟨(congrArg (fun x : T_api_Op × Int => x.1.2.1.2.1.2.1) k18 :),⟨(congrArg (fun x : T_api_Op × Int => x.1.2.1.2.1.2.2) k18 :),slK (Rds.to (Rds.self (enc := e_api_Label)) (congrArg (fun x : T_api_Op × Int => x.1.2.1.2.2) k18 :)) (⟨(congrArg (fun x : T_api_Op × Int => x.1.2.2.1.1) k18 :),⟨(congrArg (fun x : T_api_Op × Int => x.1.2.2.1.2.1) k18 :),⟨(congrArg (fun x : T_api_Op × Int => x.1.2.2.1.2.2.1) k18 :),⟨(congrArg (fun x : T_api_Op × Int => x.1.2.2.1.2.2.2) k18 :),⟨(congrArg (fun x : T_api_Op × Int => x.1.2.2.2.1.1) k18 :),⟨(congrArg (fun x : T_api_Op × Int => x.1.2.2.2.1.2.1) k18 :),⟨(congrArg (fun x : T_api_Op × Int => x.1.2.2.2.1.2.2.1) k18 :),⟨(congrArg (fun x : T_api_Op × Int => x.1.2.2.2.1.2.2.2.1.1) k18 :),⟨(congrArg (fun x : T_api_Op × Int => x.1.2.2.2.1.2.2.2.1.2.1) k18 :),⟨(congrArg (fun x : T_api_Op × Int => x.1.2.2.2.1.2.2.2.1.2.2) k18 :),slK (Rds.to (Rds.self (enc := e_api_Label)) (congrArg (fun x : T_api_Op × Int => x.1.2.2.2.1.2.2.2.2.1) k18 :)) (⟨(congrArg (fun x : T_api_Op × Int => x.1.2.2.2.1.2.2.2.2.2.1) k18 :),⟨(congrArg (fun x : T_api_Op × Int => x.1.2.2.2.1.2.2.2.2.2.2.1) k18 :),⟨(congrArg (fun x : T_api_Op × Int => x.1.2.2.2.1.2.2.2.2.2.2.2) k18 :),⟨(congrArg (fun x : T_api_Op × Int => x.1.2.2.2.2) k18 :),⟨(congrArg (fun x : T_api_Op × Int => x.2) k18 :),trivial⟩⟩⟩⟩⟩)⟩⟩⟩⟩⟩⟩⟩⟩⟩⟩)⟩⟩⟩⟩⟩))⟩⟩⟩⟩⟩)⟩⟩⟩⟩⟩⟩⟩⟩⟩⟩)⟩⟩⟩⟩⟩⟩)⟩)))⟩⟩)⟩
theorem f349.eq (a : ByteArray) : (f349.af a).gives f349.env (f349.args a) (f349.blks a) (f349.res a) (f349.blks' a) = f349.tree a := by kernel_rfl
end Go.Abs

-- interregnum/interregnumref06.SameOp
namespace Go.Abs
open Go
def f351.args (a : T_api_Op × T_api_Op) : List D := [.agg [.int .i64 a.1.1,.str a.1.2.1.1,.int .i64 a.1.2.1.2.1.1,.int .i64 a.1.2.1.2.1.2.1,.int .i64 a.1.2.1.2.1.2.2,.slice .ro 2 a.1.2.1.2.2.length (gl e_api_Label a.1.2.1.2.2),.str a.1.2.2.1.1,.int .i64 a.1.2.2.1.2.1,.int .i64 a.1.2.2.1.2.2.1,.int .i64 a.1.2.2.1.2.2.2,.str a.1.2.2.2.1.1,.str a.1.2.2.2.1.2.1,.int .i64 a.1.2.2.2.1.2.2.1,.int .i64 a.1.2.2.2.1.2.2.2.1.1,.int .i64 a.1.2.2.2.1.2.2.2.1.2.1,.int .i64 a.1.2.2.2.1.2.2.2.1.2.2,.slice .ro 2 a.1.2.2.2.1.2.2.2.2.1.length (gl e_api_Label a.1.2.2.2.1.2.2.2.2.1),.str a.1.2.2.2.1.2.2.2.2.2.1,.str a.1.2.2.2.1.2.2.2.2.2.2.1,.int .i64 a.1.2.2.2.1.2.2.2.2.2.2.2,.str a.1.2.2.2.2],.agg [.int .i64 a.2.1,.str a.2.2.1.1,.int .i64 a.2.2.1.2.1.1,.int .i64 a.2.2.1.2.1.2.1,.int .i64 a.2.2.1.2.1.2.2,.slice .ro 2 a.2.2.1.2.2.length (gl e_api_Label a.2.2.1.2.2),.str a.2.2.2.1.1,.int .i64 a.2.2.2.1.2.1,.int .i64 a.2.2.2.1.2.2.1,.int .i64 a.2.2.2.1.2.2.2,.str a.2.2.2.2.1.1,.str a.2.2.2.2.1.2.1,.int .i64 a.2.2.2.2.1.2.2.1,.int .i64 a.2.2.2.2.1.2.2.2.1.1,.int .i64 a.2.2.2.2.1.2.2.2.1.2.1,.int .i64 a.2.2.2.2.1.2.2.2.1.2.2,.slice .ro 2 a.2.2.2.2.1.2.2.2.2.1.length (gl e_api_Label a.2.2.2.2.1.2.2.2.2.1),.str a.2.2.2.2.1.2.2.2.2.2.1,.str a.2.2.2.2.1.2.2.2.2.2.2.1,.int .i64 a.2.2.2.2.1.2.2.2.2.2.2.2,.str a.2.2.2.2.2]]
def f351.blks (a : T_api_Op × T_api_Op) : List (List D) := []
def f351.res (a : T_api_Op × T_api_Op) : List D := [.bool (sameOp a)]
def f351.blks' (a : T_api_Op × T_api_Op) : List (List D) := []
def f351.C : Contract := FnC f351.args f351.blks (fun a => sameOp_pre a) f351.res f351.blks'
end Go.Abs

/- interregnum/interregnumref06.SameOp -/
namespace Go.Abs
open Go
set_option linter.unusedVariables false
def f351.kills (a : T_api_Op × T_api_Op) : List Hint := []
def f351.cuts (a : T_api_Op × T_api_Op) : List (Nat × Σ β : Type,β→Tm) := []
def f351.af (a : T_api_Op × T_api_Op) : AF := AF.mk (.seq (.region [⟨(some 2),0,.box,[.t 0],none⟩,
 ⟨(some 3),1,.box,[.t 1],none⟩,
 ⟨(some 4),2,.move,[.c (.bool false)],none⟩])
 (.seq (.region [⟨(some 5),3,(.fieldAddr 0),[.t 2],none⟩,
 ⟨(some 6),4,(.load false 1),[.t 5],none⟩,
 ⟨(some 7),5,(.fieldAddr 0),[.t 3],none⟩,
 ⟨(some 8),6,(.load false 1),[.t 7],none⟩,
 ⟨(some 9),7,(.bin .eql),[.t 6,.t 8],none⟩,
 ⟨(some 10),8,.move,[.t 9],none⟩,
 ⟨(some 11),9,(.fieldAddr 6),[.t 2],(some (10,true))⟩,
 ⟨(some 12),10,(.load true 4),[.t 11],(some (10,true))⟩,
 ⟨(some 13),11,(.fieldAddr 6),[.t 3],(some (10,true))⟩,
 ⟨(some 14),12,(.load true 4),[.t 13],(some (10,true))⟩,
 ⟨(some 15),13,(.eqAgg false [2,0,0,0]),[.t 12,.t 14],(some (10,true))⟩,
 ⟨(some 16),14,.pick,[.t 10,.t 15,.c (.bool false)],none⟩,
 ⟨(some 17),15,.move,[.t 16],none⟩,
 ⟨(some 18),16,(.fieldAddr 20),[.t 2],(some (17,true))⟩,
 ⟨(some 19),17,(.load false 1),[.t 18],(some (17,true))⟩,
 ⟨(some 20),18,(.fieldAddr 20),[.t 3],(some (17,true))⟩,
 ⟨(some 21),19,(.load false 1),[.t 20],(some (17,true))⟩,
 ⟨(some 22),20,(.bin .eql),[.t 19,.t 21],(some (17,true))⟩,
 ⟨(some 23),21,.pick,[.t 17,.t 22,.c (.bool false)],none⟩,
 ⟨(some 24),22,.move,[.t 23],none⟩,
 ⟨(some 25),23,(.fieldAddr 1),[.t 2],(some (24,true))⟩,
 ⟨(some 26),24,(.load true 5),[.t 25],(some (24,true))⟩,
 ⟨(some 27),25,(.fieldAddr 1),[.t 3],(some (24,true))⟩,
 ⟨(some 28),26,(.load true 5),[.t 27],(some (24,true))⟩,
 ⟨(some 29),27,(.call false 287),[.t 26,.t 28],(some (24,true))⟩,
 ⟨(some 30),31,.pick,[.t 24,.t 29,.c (.bool false)],none⟩,
 ⟨(some 31),32,.move,[.t 30],none⟩,
 ⟨(some 32),33,(.fieldAddr 10),[.t 2],(some (31,true))⟩,
 ⟨(some 33),34,(.load true 10),[.t 32],(some (31,true))⟩,
 ⟨(some 34),35,(.fieldAddr 10),[.t 3],(some (31,true))⟩,
 ⟨(some 35),36,(.load true 10),[.t 34],(some (31,true))⟩,
 ⟨(some 36),37,(.call false 290),[.t 33,.t 35],(some (31,true))⟩,
 ⟨(some 37),41,.pick,[.t 31,.t 36,.c (.bool false)],none⟩,
 ⟨(some 4),42,.move,[.t 37],none⟩])
 (.ret)))
 [.tmp 4] 0 36
def f351.env : Env := [(287,f287.C),(290,f290.C)]
def f351.tree (a : T_api_Op × T_api_Op) : Prop := Br (a.1.1 == a.2.1) (Br ((a.1.2.2.1.1.toList == a.2.2.2.1.1.toList) && ((a.1.2.2.1.2.1 == a.2.2.2.1.2.1) && ((a.1.2.2.1.2.2.1 == a.2.2.2.1.2.2.1) && (a.1.2.2.1.2.2.2 == a.2.2.2.1.2.2.2)))) (Br (a.1.2.2.2.2.toList == a.2.2.2.2.2.toList) (∃ c7 : T_api_Node × T_api_Node,(a.1.2.1.1 = c7.1.1)∧(a.1.2.1.2.1.1 = c7.1.2.1.1)∧(a.1.2.1.2.1.2.1 = c7.1.2.1.2.1)∧(a.1.2.1.2.1.2.2 = c7.1.2.1.2.2)∧(a.1.2.1.2.2.length = c7.1.2.2.length)∧(∀ i,i < c7.1.2.2.length→DEqs ((gl e_api_Label a.1.2.1.2.2) i) ((gl e_api_Label c7.1.2.2) i))∧(a.2.2.1.1 = c7.2.1)∧(a.2.2.1.2.1.1 = c7.2.2.1.1)∧(a.2.2.1.2.1.2.1 = c7.2.2.1.2.1)∧(a.2.2.1.2.1.2.2 = c7.2.2.1.2.2)∧(a.2.2.1.2.2.length = c7.2.2.2.length)∧(∀ i,i < c7.2.2.2.length→DEqs ((gl e_api_Label a.2.2.1.2.2) i) ((gl e_api_Label c7.2.2.2) i))∧(sameNode_pre c7)∧Br (sameNode c7) (∃ c10 : T_api_Task × T_api_Task,(a.1.2.2.2.1.1 = c10.1.1)∧(a.1.2.2.2.1.2.1 = c10.1.2.1)∧(a.1.2.2.2.1.2.2.1 = c10.1.2.2.1)∧(a.1.2.2.2.1.2.2.2.1.1 = c10.1.2.2.2.1.1)∧(a.1.2.2.2.1.2.2.2.1.2.1 = c10.1.2.2.2.1.2.1)∧(a.1.2.2.2.1.2.2.2.1.2.2 = c10.1.2.2.2.1.2.2)∧(a.1.2.2.2.1.2.2.2.2.1.length = c10.1.2.2.2.2.1.length)∧(∀ i,i < c10.1.2.2.2.2.1.length→DEqs ((gl e_api_Label a.1.2.2.2.1.2.2.2.2.1) i) ((gl e_api_Label c10.1.2.2.2.2.1) i))∧(a.1.2.2.2.1.2.2.2.2.2.1 = c10.1.2.2.2.2.2.1)∧(a.1.2.2.2.1.2.2.2.2.2.2.1 = c10.1.2.2.2.2.2.2.1)∧(a.1.2.2.2.1.2.2.2.2.2.2.2 = c10.1.2.2.2.2.2.2.2)∧(a.2.2.2.2.1.1 = c10.2.1)∧(a.2.2.2.2.1.2.1 = c10.2.2.1)∧(a.2.2.2.2.1.2.2.1 = c10.2.2.2.1)∧(a.2.2.2.2.1.2.2.2.1.1 = c10.2.2.2.2.1.1)∧(a.2.2.2.2.1.2.2.2.1.2.1 = c10.2.2.2.2.1.2.1)∧(a.2.2.2.2.1.2.2.2.1.2.2 = c10.2.2.2.2.1.2.2)∧(a.2.2.2.2.1.2.2.2.2.1.length = c10.2.2.2.2.2.1.length)∧(∀ i,i < c10.2.2.2.2.2.1.length→DEqs ((gl e_api_Label a.2.2.2.2.1.2.2.2.2.1) i) ((gl e_api_Label c10.2.2.2.2.2.1) i))∧(a.2.2.2.2.1.2.2.2.2.2.1 = c10.2.2.2.2.2.2.1)∧(a.2.2.2.2.1.2.2.2.2.2.2.1 = c10.2.2.2.2.2.2.2.1)∧(a.2.2.2.2.1.2.2.2.2.2.2.2 = c10.2.2.2.2.2.2.2.2)∧(sameTask_pre c10)∧((sameTask c10) = (sameOp a))∧True) ((false = (sameOp a))∧True)) ((false = (sameOp a))∧True)) ((false = (sameOp a))∧True)) ((false = (sameOp a))∧True)
def f351.vc (a : T_api_Op × T_api_Op) : Prop := ((a.1.1 = a.2.1→((a.1.2.2.1.1 = a.2.2.2.1.1∧a.1.2.2.1.2.1 = a.2.2.2.1.2.1∧a.1.2.2.1.2.2.1 = a.2.2.2.1.2.2.1∧a.1.2.2.1.2.2.2 = a.2.2.2.1.2.2.2→((a.1.2.2.2.2 = a.2.2.2.2.2→(sameNode_pre (a.1.2.1,a.2.2.1)∧(((sameNode (a.1.2.1,a.2.2.1)) = true→(sameTask_pre (a.1.2.2.2.1,a.2.2.2.2.1)∧((sameTask (a.1.2.2.2.1,a.2.2.2.2.1)) = sameOp a)))∧(¬ ((sameNode (a.1.2.1,a.2.2.1)) = true)→(false = sameOp a)))))∧(¬ (a.1.2.2.2.2 = a.2.2.2.2.2)→(false = sameOp a))))∧(¬ (a.1.2.2.1.1 = a.2.2.2.1.1∧a.1.2.2.1.2.1 = a.2.2.2.1.2.1∧a.1.2.2.1.2.2.1 = a.2.2.2.1.2.2.1∧a.1.2.2.1.2.2.2 = a.2.2.2.1.2.2.2)→(false = sameOp a))))∧(¬ (a.1.1 = a.2.1)→(false = sameOp a)))
set_option maxRecDepth 100000 in
set_option maxHeartbeats 2000000 in
theorem f351.of (a : T_api_Op × T_api_Op) (h : f351.vc a) : f351.tree a := br h Cnd.eq (fun h1 k24 => br k24 (Cnd.and Cnd.seq (Cnd.and Cnd.eq (Cnd.and Cnd.eq Cnd.eq))) (fun h3 k21 => br k21 Cnd.seq (fun h5 k18 => ⟨(a.1.2.1,a.2.2.1),⟨rfl,⟨rfl,⟨rfl,⟨rfl,slK (Rds.self (enc := e_api_Label)) (⟨rfl,⟨rfl,⟨rfl,⟨rfl,slK (Rds.self (enc := e_api_Label)) (⟨k18.1,br k18.2 Cnd.b (fun h8 k14 => ⟨(a.1.2.2.2.1,a.2.2.2.2.1),⟨rfl,⟨rfl,⟨rfl,⟨rfl,⟨rfl,⟨rfl,slK (Rds.self (enc := e_api_Label)) (⟨rfl,⟨rfl,⟨rfl,⟨rfl,⟨rfl,⟨rfl,⟨rfl,⟨rfl,⟨rfl,slK (Rds.self (enc := e_api_Label)) (⟨rfl,⟨rfl,⟨rfl,⟨k14.1,⟨k14.2,trivial⟩⟩⟩⟩⟩)⟩⟩⟩⟩⟩⟩⟩⟩⟩)⟩⟩⟩⟩⟩⟩⟩) (fun h9 k15 => ⟨k15,trivial⟩)⟩)⟩⟩⟩⟩)⟩⟩⟩⟩⟩) (fun h6 k19 => ⟨k19,trivial⟩)) (fun h4 k22 => ⟨k22,trivial⟩)) (fun h2 k25 => ⟨k25,trivial⟩)
theorem f351.eq (a : T_api_Op × T_api_Op) : (f351.af a).gives f351.env (f351.args a) (f351.blks a) (f351.res a) (f351.blks' a) = f351.tree a := by kernel_rfl
end Go.Abs

-- interregnum/interregnumlaw06.few
namespace Go.Abs
open Go
end Go.Abs

/- interregnum/interregnumlaw06.few -/
namespace Go.Abs
open Go
set_option linter.unusedVariables false
end Go.Abs

-- interregnum/oper.Text
namespace Go.Abs
open Go
def f280.args (a : T_api_Act) : List D := [.agg [.int .i64 a.1,.str a.2.1,.str a.2.2]]
def f280.blks (a : T_api_Act) : List (List D) := []
def f280.res (a : T_api_Act) : List D := [.str (textA a)]
def f280.blks' (a : T_api_Act) : List (List D) := []
def f280.C : Contract := FnC f280.args f280.blks (fun a => textA_pre a) f280.res f280.blks'
end Go.Abs

/- interregnum/oper.Text -/
namespace Go.Abs
open Go
set_option linter.unusedVariables false
def f280.s0 : ByteArray := ⟨#[63]⟩
def f280.s1 : ByteArray := ⟨#[98,105,110,100]⟩
def f280.s2 : ByteArray := ⟨#[32]⟩
def f280.s3 : ByteArray := ⟨#[98,105,110,100,32]⟩
def f280.s4 : ByteArray := ⟨#[101,118,105,99,116]⟩
def f280.s5 : ByteArray := ⟨#[101,118,105,99,116,32]⟩
def f280.s6 : ByteArray := ⟨#[114,101,108,101,97,115,101]⟩
def f280.s7 : ByteArray := ⟨#[114,101,108,101,97,115,101,32]⟩
def f280.s8 : ByteArray := ⟨#[63,32]⟩
def f280.kills (a : T_api_Act) : List Hint := []
def f280.cuts (a : T_api_Act) : List (Nat × Σ β : Type,β→Tm) := []
def f280.af (a : T_api_Act) : AF := AF.mk (.seq (.region [⟨(some 1),0,.box,[.t 0],none⟩,
 ⟨(some 2),1,.move,[.c (.str ByteArray.empty)],none⟩])
 (.seq (.region [⟨(some 3),2,.move,[.c (.str f280.s0)],none⟩])
 (.seq (.seq (.region [⟨(some 4),3,(.fieldAddr 0),[.t 1],none⟩,
 ⟨(some 5),4,(.load false 1),[.t 4],none⟩])
 (.block 0 (.seq (.region [⟨(some 7),5,(.bin .eql),[.t 5,.c (.int .i64 (1))],none⟩,
 ⟨(some 6),6,.move,[.t 7],none⟩])
 (.cond (.t 6) (.region [⟨(some 3),7,.move,[.c (.str f280.s1)],none⟩]) (.seq (.region [⟨(some 9),8,(.bin .eql),[.t 5,.c (.int .i64 (2))],none⟩,
 ⟨(some 8),9,.move,[.t 9],none⟩])
 (.cond (.t 8) (.region [⟨(some 3),10,.move,[.c (.str f280.s4)],none⟩]) (.seq (.region [⟨(some 11),11,(.bin .eql),[.t 5,.c (.int .i64 (3))],none⟩,
 ⟨(some 10),12,.move,[.t 11],none⟩])
 (.cond (.t 10) (.region [⟨(some 3),13,.move,[.c (.str f280.s6)],none⟩]) (.skip)))))))))
 (.seq (.region [⟨(some 12),14,.move,[.t 3],none⟩,
 ⟨(some 13),15,(.bin .add),[.t 12,.c (.str f280.s2)],none⟩,
 ⟨(some 14),16,(.fieldAddr 1),[.t 1],none⟩,
 ⟨(some 15),17,(.load false 1),[.t 14],none⟩,
 ⟨(some 16),18,(.bin .add),[.t 13,.t 15],none⟩,
 ⟨(some 17),19,(.bin .add),[.t 16,.c (.str f280.s2)],none⟩,
 ⟨(some 18),20,(.fieldAddr 2),[.t 1],none⟩,
 ⟨(some 19),21,(.load false 1),[.t 18],none⟩,
 ⟨(some 20),22,(.bin .add),[.t 17,.t 19],none⟩,
 ⟨(some 2),23,.move,[.t 20],none⟩])
 (.ret)))))
 [.tmp 2] 0 20
def f280.env : Env := []
def f280.tree (a : T_api_Act) : Prop := Br (a.1 == (1 : Int)) (Br (Nat.ble (f280.s3.size + a.2.1.size) 9223372036854775807) (Br (Nat.ble ((f280.s3 ++ a.2.1).size + f280.s2.size) 9223372036854775807) (Br (Nat.ble (((f280.s3 ++ a.2.1) ++ f280.s2).size + a.2.2.size) 9223372036854775807) (((((f280.s3 ++ a.2.1) ++ f280.s2) ++ a.2.2) = (textA a))∧True) False) False) False) (Br (a.1 == (2 : Int)) (Br (Nat.ble (f280.s5.size + a.2.1.size) 9223372036854775807) (Br (Nat.ble ((f280.s5 ++ a.2.1).size + f280.s2.size) 9223372036854775807) (Br (Nat.ble (((f280.s5 ++ a.2.1) ++ f280.s2).size + a.2.2.size) 9223372036854775807) (((((f280.s5 ++ a.2.1) ++ f280.s2) ++ a.2.2) = (textA a))∧True) False) False) False) (Br (a.1 == (3 : Int)) (Br (Nat.ble (f280.s7.size + a.2.1.size) 9223372036854775807) (Br (Nat.ble ((f280.s7 ++ a.2.1).size + f280.s2.size) 9223372036854775807) (Br (Nat.ble (((f280.s7 ++ a.2.1) ++ f280.s2).size + a.2.2.size) 9223372036854775807) (((((f280.s7 ++ a.2.1) ++ f280.s2) ++ a.2.2) = (textA a))∧True) False) False) False) (Br (Nat.ble (f280.s8.size + a.2.1.size) 9223372036854775807) (Br (Nat.ble ((f280.s8 ++ a.2.1).size + f280.s2.size) 9223372036854775807) (Br (Nat.ble (((f280.s8 ++ a.2.1) ++ f280.s2).size + a.2.2.size) 9223372036854775807) (((((f280.s8 ++ a.2.1) ++ f280.s2) ++ a.2.2) = (textA a))∧True) False) False) False)))
def f280.vc (a : T_api_Act) : Prop := ((a.1 = (1 : Int)→((f280.s3.size + a.2.1.size≤9223372036854775807)∧(((f280.s3 ++ a.2.1).size + f280.s2.size≤9223372036854775807)∧((((f280.s3 ++ a.2.1) ++ f280.s2).size + a.2.2.size≤9223372036854775807)∧(((f280.s3 ++ a.2.1) ++ f280.s2) ++ a.2.2 = textA a)))))∧(¬ (a.1 = (1 : Int))→((a.1 = (2 : Int)→((f280.s5.size + a.2.1.size≤9223372036854775807)∧(((f280.s5 ++ a.2.1).size + f280.s2.size≤9223372036854775807)∧((((f280.s5 ++ a.2.1) ++ f280.s2).size + a.2.2.size≤9223372036854775807)∧(((f280.s5 ++ a.2.1) ++ f280.s2) ++ a.2.2 = textA a)))))∧(¬ (a.1 = (2 : Int))→((a.1 = (3 : Int)→((f280.s7.size + a.2.1.size≤9223372036854775807)∧(((f280.s7 ++ a.2.1).size + f280.s2.size≤9223372036854775807)∧((((f280.s7 ++ a.2.1) ++ f280.s2).size + a.2.2.size≤9223372036854775807)∧(((f280.s7 ++ a.2.1) ++ f280.s2) ++ a.2.2 = textA a)))))∧(¬ (a.1 = (3 : Int))→((f280.s8.size + a.2.1.size≤9223372036854775807)∧(((f280.s8 ++ a.2.1).size + f280.s2.size≤9223372036854775807)∧((((f280.s8 ++ a.2.1) ++ f280.s2).size + a.2.2.size≤9223372036854775807)∧(((f280.s8 ++ a.2.1) ++ f280.s2) ++ a.2.2 = textA a))))))))))
set_option maxRecDepth 100000 in
set_option maxHeartbeats 2000000 in
theorem f280.of (a : T_api_Act) (h : f280.vc a) : f280.tree a := br h Cnd.eq (fun h1 k39 => chk k39.2 Cnd.ble k39.1 (fun h3 k9 => chk k9.2 Cnd.ble k9.1 (fun h4 k8 => chk k8.2 Cnd.ble k8.1 (fun h5 k7 => ⟨k7,trivial⟩)))) (fun h2 k40 => br k40 Cnd.eq (fun h10 k37 => chk k37.2 Cnd.ble k37.1 (fun h12 k18 => chk k18.2 Cnd.ble k18.1 (fun h13 k17 => chk k17.2 Cnd.ble k17.1 (fun h14 k16 => ⟨k16,trivial⟩)))) (fun h11 k38 => br k38 Cnd.eq (fun h19 k35 => chk k35.2 Cnd.ble k35.1 (fun h21 k27 => chk k27.2 Cnd.ble k27.1 (fun h22 k26 => chk k26.2 Cnd.ble k26.1 (fun h23 k25 => ⟨k25,trivial⟩)))) (fun h20 k36 => chk k36.2 Cnd.ble k36.1 (fun h28 k34 => chk k34.2 Cnd.ble k34.1 (fun h29 k33 => chk k33.2 Cnd.ble k33.1 (fun h30 k32 => ⟨k32,trivial⟩))))))
theorem f280.eq (a : T_api_Act) : (f280.af a).gives f280.env (f280.args a) (f280.blks a) (f280.res a) (f280.blks' a) = f280.tree a := by kernel_rfl
end Go.Abs

-- interregnum/interregnumref06.Text
namespace Go.Abs
open Go
end Go.Abs

/- interregnum/interregnumref06.Text -/
namespace Go.Abs
open Go
set_option linter.unusedVariables false
end Go.Abs

-- slices.Equal[[]interregnum/api.Act,interregnum/api.Act]
namespace Go.Abs
open Go
end Go.Abs

/- slices.Equal[[]interregnum/api.Act,interregnum/api.Act] -/
namespace Go.Abs
open Go
set_option linter.unusedVariables false
end Go.Abs

-- interregnum/interregnumref06.Acts
namespace Go.Abs
open Go
end Go.Abs

/- interregnum/interregnumref06.Acts -/
namespace Go.Abs
open Go
set_option linter.unusedVariables false
end Go.Abs

-- interregnum/oper.Same
namespace Go.Abs
open Go
end Go.Abs

/- interregnum/oper.Same -/
namespace Go.Abs
open Go
set_option linter.unusedVariables false
end Go.Abs

-- interregnum/interregnumref06.Same
namespace Go.Abs
open Go
end Go.Abs

/- interregnum/interregnumref06.Same -/
namespace Go.Abs
open Go
set_option linter.unusedVariables false
end Go.Abs

-- interregnum/interregnumlaw06.awake
namespace Go.Abs
open Go
def f275.args (a : Unit) : List D := []
def f275.blks (a : Unit) : List (List D) := []
def f275.res (a : Unit) : List D := [.bool (lawTrue a)]
def f275.blks' (a : Unit) : List (List D) := []
def f275.C : Contract := FnC f275.args f275.blks (fun _ => True) f275.res f275.blks'
end Go.Abs

/- interregnum/interregnumlaw06.awake -/
namespace Go.Abs
open Go
set_option linter.unusedVariables false
def f275.s0 : ByteArray := ⟨#[116]⟩
def f275.s1 : ByteArray := ⟨#[110]⟩
def f275.s2 : ByteArray := ⟨#[98,105,110,100,32,116,32,110]⟩
def f275.kills (a : Unit) : List Hint := []
def f275.cuts (a : Unit) : List (Nat × Σ β : Type,β→Tm) := []
def f275.af (a : Unit) : AF := AF.mk (.seq (.region [⟨(some 0),0,.move,[.c (.bool false)],none⟩])
 (.seq (.region [⟨(some 4),1,(.build [.int .i64 (0),.str ByteArray.empty,.int .i64 (0),.int .i64 (0),.int .i64 (0),.slice .full 2 0 gnil,.str ByteArray.empty,.int .i64 (0),.int .i64 (0),.int .i64 (0),.str ByteArray.empty,.str ByteArray.empty,.int .i64 (0),.int .i64 (0),.int .i64 (0),.int .i64 (0),.slice .full 2 0 gnil,.str ByteArray.empty,.str ByteArray.empty,.int .i64 (0),.str ByteArray.empty] [(0,1)]),[.c (.int .i64 (9))],none⟩,
 ⟨(some 5),2,(.call false 277),[.t 4],none⟩,
 ⟨(some 3),6,.move,[.t 5],none⟩,
 ⟨(some 6),7,(.extract 0),[.t 3],none⟩,
 ⟨(some 7),8,(.extract 1),[.t 3],none⟩,
 ⟨(some 1),9,.move,[.t 6],none⟩,
 ⟨(some 2),10,.move,[.t 7],none⟩])
 (.seq (.region [⟨(some 8),11,.move,[.t 2],none⟩,
 ⟨(some 9),12,(.bin .eql),[.t 8,.c (.int .i64 (0))],none⟩,
 ⟨(some 10),13,.move,[.t 9],none⟩,
 ⟨(some 11),14,.move,[.t 1],(some (10,true))⟩,
 ⟨(some 12),15,(.len false),[.t 11],(some (10,true))⟩,
 ⟨(some 13),16,(.bin .eql),[.t 12,.c (.int .i64 (2))],(some (10,true))⟩,
 ⟨(some 14),17,.pick,[.t 10,.t 13,.c (.bool false)],none⟩,
 ⟨(some 15),18,.move,[.t 14],none⟩,
 ⟨(some 16),19,.move,[.t 1],(some (15,true))⟩,
 ⟨(some 17),20,(.indexAddr 1 none),[.t 16,.c (.int .i64 (1))],(some (15,true))⟩,
 ⟨(some 18),21,(.load false 1),[.t 17],(some (15,true))⟩,
 ⟨(some 19),22,(.bin .eql),[.t 18,.c (.int .u8 (9))],(some (15,true))⟩,
 ⟨(some 20),23,.pick,[.t 15,.t 19,.c (.bool false)],none⟩,
 ⟨(some 21),24,.move,[.t 20],none⟩,
 ⟨(some 22),25,(.build [.int .i64 (0),.str ByteArray.empty,.int .i64 (0),.int .i64 (0),.int .i64 (0),.slice .full 2 0 gnil,.str ByteArray.empty,.int .i64 (0),.int .i64 (0),.int .i64 (0),.str ByteArray.empty,.str ByteArray.empty,.int .i64 (0),.int .i64 (0),.int .i64 (0),.int .i64 (0),.slice .full 2 0 gnil,.str ByteArray.empty,.str ByteArray.empty,.int .i64 (0),.str ByteArray.empty] [(0,1)]),[.c (.int .i64 (9))],(some (21,true))⟩,
 ⟨(some 23),26,(.call false 152),[.t 22],(some (21,true))⟩,
 ⟨(some 24),30,.pick,[.t 21,.t 23,.c (.bool false)],none⟩,
 ⟨(some 25),31,.move,[.t 24],none⟩,
 ⟨(some 26),32,(.build [.int .i64 (0),.str ByteArray.empty,.str ByteArray.empty] [(0,1),(1,1),(2,1)]),[.c (.int .i64 (1)),.c (.str f275.s0),.c (.str f275.s1)],(some (25,true))⟩,
 ⟨(some 27),33,(.call false 280),[.t 26],(some (25,true))⟩,
 ⟨(some 28),37,(.bin .eql),[.t 27,.c (.str f275.s2)],(some (25,true))⟩,
 ⟨(some 29),38,.pick,[.t 25,.t 28,.c (.bool false)],none⟩,
 ⟨(some 0),39,.move,[.t 29],none⟩])
 (.ret))))
 [.tmp 0] 0 30
def f275.env : Env := [(277,f277.C),(152,f152.C),(280,f280.C)]
def f275.tree (a : Unit) : Prop := ∃ c1 : T_api_Op,((9 : Int) = c1.1)∧(ByteArray.empty = c1.2.1.1)∧((0 : Int) = c1.2.1.2.1.1)∧((0 : Int) = c1.2.1.2.1.2.1)∧((0 : Int) = c1.2.1.2.1.2.2)∧(0 = c1.2.1.2.2.length)∧(∀ i,i < c1.2.1.2.2.length→DEqs (gnil i) ((gl e_api_Label c1.2.1.2.2) i))∧(ByteArray.empty = c1.2.2.1.1)∧((0 : Int) = c1.2.2.1.2.1)∧((0 : Int) = c1.2.2.1.2.2.1)∧((0 : Int) = c1.2.2.1.2.2.2)∧(ByteArray.empty = c1.2.2.2.1.1)∧(ByteArray.empty = c1.2.2.2.1.2.1)∧((0 : Int) = c1.2.2.2.1.2.2.1)∧((0 : Int) = c1.2.2.2.1.2.2.2.1.1)∧((0 : Int) = c1.2.2.2.1.2.2.2.1.2.1)∧((0 : Int) = c1.2.2.2.1.2.2.2.1.2.2)∧(0 = c1.2.2.2.1.2.2.2.2.1.length)∧(∀ i,i < c1.2.2.2.1.2.2.2.2.1.length→DEqs (gnil i) ((gl e_api_Label c1.2.2.2.1.2.2.2.2.1) i))∧(ByteArray.empty = c1.2.2.2.1.2.2.2.2.2.1)∧(ByteArray.empty = c1.2.2.2.1.2.2.2.2.2.2.1)∧((0 : Int) = c1.2.2.2.1.2.2.2.2.2.2.2)∧(ByteArray.empty = c1.2.2.2.2)∧(encO_pre c1)∧Br (((encO c1).2) == (0 : Int)) (Br ((((encO c1).1).size : Int) == (2 : Int)) (Br (decide ((0 : Int)≤(1 : Int)) && decide ((1 : Int) < (((encO c1).1).size : Int))) (Br ((bAt ((encO c1).1) (1 : Int)) == (9 : Int)) (∃ c9 : T_api_Op,((9 : Int) = c9.1)∧(ByteArray.empty = c9.2.1.1)∧((0 : Int) = c9.2.1.2.1.1)∧((0 : Int) = c9.2.1.2.1.2.1)∧((0 : Int) = c9.2.1.2.1.2.2)∧(0 = c9.2.1.2.2.length)∧(∀ i,i < c9.2.1.2.2.length→DEqs (gnil i) ((gl e_api_Label c9.2.1.2.2) i))∧(ByteArray.empty = c9.2.2.1.1)∧((0 : Int) = c9.2.2.1.2.1)∧((0 : Int) = c9.2.2.1.2.2.1)∧((0 : Int) = c9.2.2.1.2.2.2)∧(ByteArray.empty = c9.2.2.2.1.1)∧(ByteArray.empty = c9.2.2.2.1.2.1)∧((0 : Int) = c9.2.2.2.1.2.2.1)∧((0 : Int) = c9.2.2.2.1.2.2.2.1.1)∧((0 : Int) = c9.2.2.2.1.2.2.2.1.2.1)∧((0 : Int) = c9.2.2.2.1.2.2.2.1.2.2)∧(0 = c9.2.2.2.1.2.2.2.2.1.length)∧(∀ i,i < c9.2.2.2.1.2.2.2.2.1.length→DEqs (gnil i) ((gl e_api_Label c9.2.2.2.1.2.2.2.2.1) i))∧(ByteArray.empty = c9.2.2.2.1.2.2.2.2.2.1)∧(ByteArray.empty = c9.2.2.2.1.2.2.2.2.2.2.1)∧((0 : Int) = c9.2.2.2.1.2.2.2.2.2.2.2)∧(ByteArray.empty = c9.2.2.2.2)∧(op_pre c9)∧Br (rightO c9) (∃ c12 : T_api_Act,((1 : Int) = c12.1)∧(f275.s0 = c12.2.1)∧(f275.s1 = c12.2.2)∧(textA_pre c12)∧(((textA c12).toList == f275.s2.toList) = (lawTrue a))∧True) ((false = (lawTrue a))∧True)) ((false = (lawTrue a))∧True)) False) ((false = (lawTrue a))∧True)) ((false = (lawTrue a))∧True)
def f275.vc (a : Unit) : Prop := (encO_pre ((9 : Int),(ByteArray.empty,((0 : Int),(0 : Int),(0 : Int)),[]),(ByteArray.empty,((0 : Int),(0 : Int),(0 : Int))),(ByteArray.empty,ByteArray.empty,(0 : Int),((0 : Int),(0 : Int),(0 : Int)),[],ByteArray.empty,ByteArray.empty,(0 : Int)),ByteArray.empty)∧((((encO ((9 : Int),(ByteArray.empty,((0 : Int),(0 : Int),(0 : Int)),[]),(ByteArray.empty,((0 : Int),(0 : Int),(0 : Int))),(ByteArray.empty,ByteArray.empty,(0 : Int),((0 : Int),(0 : Int),(0 : Int)),[],ByteArray.empty,ByteArray.empty,(0 : Int)),ByteArray.empty)).2) = (0 : Int)→(((((encO ((9 : Int),(ByteArray.empty,((0 : Int),(0 : Int),(0 : Int)),[]),(ByteArray.empty,((0 : Int),(0 : Int),(0 : Int))),(ByteArray.empty,ByteArray.empty,(0 : Int),((0 : Int),(0 : Int),(0 : Int)),[],ByteArray.empty,ByteArray.empty,(0 : Int)),ByteArray.empty)).1).size : Int) = (2 : Int)→((1 : Int) < (((encO ((9 : Int),(ByteArray.empty,((0 : Int),(0 : Int),(0 : Int)),[]),(ByteArray.empty,((0 : Int),(0 : Int),(0 : Int))),(ByteArray.empty,ByteArray.empty,(0 : Int),((0 : Int),(0 : Int),(0 : Int)),[],ByteArray.empty,ByteArray.empty,(0 : Int)),ByteArray.empty)).1).size : Int)∧(((bAt ((encO ((9 : Int),(ByteArray.empty,((0 : Int),(0 : Int),(0 : Int)),[]),(ByteArray.empty,((0 : Int),(0 : Int),(0 : Int))),(ByteArray.empty,ByteArray.empty,(0 : Int),((0 : Int),(0 : Int),(0 : Int)),[],ByteArray.empty,ByteArray.empty,(0 : Int)),ByteArray.empty)).1) (1 : Int)) = (9 : Int)→(op_pre ((9 : Int),(ByteArray.empty,((0 : Int),(0 : Int),(0 : Int)),[]),(ByteArray.empty,((0 : Int),(0 : Int),(0 : Int))),(ByteArray.empty,ByteArray.empty,(0 : Int),((0 : Int),(0 : Int),(0 : Int)),[],ByteArray.empty,ByteArray.empty,(0 : Int)),ByteArray.empty)∧(((rightO ((9 : Int),(ByteArray.empty,((0 : Int),(0 : Int),(0 : Int)),[]),(ByteArray.empty,((0 : Int),(0 : Int),(0 : Int))),(ByteArray.empty,ByteArray.empty,(0 : Int),((0 : Int),(0 : Int),(0 : Int)),[],ByteArray.empty,ByteArray.empty,(0 : Int)),ByteArray.empty)) = true→(textA_pre ((1 : Int),f275.s0,f275.s1)∧(((textA ((1 : Int),f275.s0,f275.s1)).toList == f275.s2.toList) = lawTrue a)))∧(¬ ((rightO ((9 : Int),(ByteArray.empty,((0 : Int),(0 : Int),(0 : Int)),[]),(ByteArray.empty,((0 : Int),(0 : Int),(0 : Int))),(ByteArray.empty,ByteArray.empty,(0 : Int),((0 : Int),(0 : Int),(0 : Int)),[],ByteArray.empty,ByteArray.empty,(0 : Int)),ByteArray.empty)) = true)→(false = lawTrue a)))))∧(¬ ((bAt ((encO ((9 : Int),(ByteArray.empty,((0 : Int),(0 : Int),(0 : Int)),[]),(ByteArray.empty,((0 : Int),(0 : Int),(0 : Int))),(ByteArray.empty,ByteArray.empty,(0 : Int),((0 : Int),(0 : Int),(0 : Int)),[],ByteArray.empty,ByteArray.empty,(0 : Int)),ByteArray.empty)).1) (1 : Int)) = (9 : Int))→(false = lawTrue a)))))∧(¬ ((((encO ((9 : Int),(ByteArray.empty,((0 : Int),(0 : Int),(0 : Int)),[]),(ByteArray.empty,((0 : Int),(0 : Int),(0 : Int))),(ByteArray.empty,ByteArray.empty,(0 : Int),((0 : Int),(0 : Int),(0 : Int)),[],ByteArray.empty,ByteArray.empty,(0 : Int)),ByteArray.empty)).1).size : Int) = (2 : Int))→(false = lawTrue a))))∧(¬ (((encO ((9 : Int),(ByteArray.empty,((0 : Int),(0 : Int),(0 : Int)),[]),(ByteArray.empty,((0 : Int),(0 : Int),(0 : Int))),(ByteArray.empty,ByteArray.empty,(0 : Int),((0 : Int),(0 : Int),(0 : Int)),[],ByteArray.empty,ByteArray.empty,(0 : Int)),ByteArray.empty)).2) = (0 : Int))→(false = lawTrue a))))
set_option maxRecDepth 100000 in
set_option maxHeartbeats 2000000 in
theorem f275.of (a : Unit) (h : f275.vc a) : f275.tree a := ⟨((9 : Int),(ByteArray.empty,((0 : Int),(0 : Int),(0 : Int)),[]),(ByteArray.empty,((0 : Int),(0 : Int),(0 : Int))),(ByteArray.empty,ByteArray.empty,(0 : Int),((0 : Int),(0 : Int),(0 : Int)),[],ByteArray.empty,ByteArray.empty,(0 : Int)),ByteArray.empty),⟨rfl,⟨rfl,⟨rfl,⟨rfl,⟨rfl,slK (Rds.nil (enc := e_api_Label)) (⟨rfl,⟨rfl,⟨rfl,⟨rfl,⟨rfl,⟨rfl,⟨rfl,⟨rfl,⟨rfl,⟨rfl,slK (Rds.nil (enc := e_api_Label)) (⟨rfl,⟨rfl,⟨rfl,⟨rfl,⟨h.1,br h.2 Cnd.eq (fun h2 k27 => br k27 Cnd.eq (fun h4 k24 => chk k24.2 Cnd.ix ⟨(by decide),k24.1⟩ (fun h6 k22 => br k22 Cnd.eq (fun h7 k20 => ⟨((9 : Int),(ByteArray.empty,((0 : Int),(0 : Int),(0 : Int)),[]),(ByteArray.empty,((0 : Int),(0 : Int),(0 : Int))),(ByteArray.empty,ByteArray.empty,(0 : Int),((0 : Int),(0 : Int),(0 : Int)),[],ByteArray.empty,ByteArray.empty,(0 : Int)),ByteArray.empty),⟨rfl,⟨rfl,⟨rfl,⟨rfl,⟨rfl,slK (Rds.nil (enc := e_api_Label)) (⟨rfl,⟨rfl,⟨rfl,⟨rfl,⟨rfl,⟨rfl,⟨rfl,⟨rfl,⟨rfl,⟨rfl,slK (Rds.nil (enc := e_api_Label)) (⟨rfl,⟨rfl,⟨rfl,⟨rfl,⟨k20.1,br k20.2 Cnd.b (fun h10 k16 => ⟨((1 : Int),f275.s0,f275.s1),⟨rfl,⟨rfl,⟨rfl,⟨k16.1,⟨k16.2,trivial⟩⟩⟩⟩⟩⟩) (fun h11 k17 => ⟨k17,trivial⟩)⟩⟩⟩⟩⟩)⟩⟩⟩⟩⟩⟩⟩⟩⟩⟩)⟩⟩⟩⟩⟩⟩) (fun h8 k21 => ⟨k21,trivial⟩))) (fun h5 k25 => ⟨k25,trivial⟩)) (fun h3 k28 => ⟨k28,trivial⟩)⟩⟩⟩⟩⟩)⟩⟩⟩⟩⟩⟩⟩⟩⟩⟩)⟩⟩⟩⟩⟩⟩
theorem f275.eq (a : Unit) : (f275.af a).gives f275.env (f275.args a) (f275.blks a) (f275.res a) (f275.blks' a) = f275.tree a := by kernel_rfl
end Go.Abs

/- Operations: what the code asks of them. -/
namespace Go.Abs
open Go

theorem named_iff {k : Int} : namedB k = true ↔ k = 2 ∨ k = 4 ∨ k = 6 ∨ k = 7 ∨ k = 8 := by unfold namedB; exact decide_eq_true_iff
theorem f173.ok (a : Int) (_ : True) : f173.vc a := by
  have e : namedB a = decide (a = 2 ∨ a = 4 ∨ a = 6 ∨ a = 7 ∨ a = 8) := rfl
  unfold f173.vc
  rw [e]
  refine ⟨fun h => by simp [h],fun h1 => ⟨fun h => by simp [h],fun h2 => ⟨fun h => by simp [h],fun h3 => ⟨fun h => by simp [h],fun h4 => ⟨fun h => by simp [h],fun h5 => by simp [h1,h2,h3,h4,h5]⟩⟩⟩⟩⟩
theorem bytes_beq (x y : ByteArray) : (x.toList == y.toList) = decide (x = y) := by
  rw [Bool.eq_iff_iff,beq_iff_eq,toList_inj,decide_eq_true_iff]
theorem app_zero {a b : ByteArray} : a ++ b = ByteArray.empty ↔ a = ByteArray.empty ∧ b = ByteArray.empty := by
  rw [size_zero,size_zero,size_zero,size_app]; omega
theorem len_zero {α : Type} {l : List α} : l = [] ↔ ¬ (0 : Int) < (l.length : Int) := by cases l with
  | nil => simp
  | cons x l => simp

def zN (n : TNode) : Prop := n.1 = ByteArray.empty ∧ (n.2.1.1 = 0 ∧ n.2.1.2.1 = 0 ∧ n.2.1.2.2 = 0) ∧ ¬ (0 : Int) < (n.2.2.length : Int)
def zQ (q : TQueue) : Prop := q.1 = ByteArray.empty ∧ q.2.1 = 0 ∧ q.2.2.1 = 0 ∧ q.2.2.2 = 0
def zT (t : TTask) : Prop := ((t.1 ++ t.2.1) ++ t.2.2.2.2.2.1) ++ t.2.2.2.2.2.2.1 = ByteArray.empty ∧ t.2.2.1 = 0 ∧ t.2.2.2.2.2.2.2 = 0 ∧ (t.2.2.2.1.1 = 0 ∧ t.2.2.2.1.2.1 = 0 ∧ t.2.2.2.1.2.2 = 0) ∧ ¬ (0 : Int) < (t.2.2.2.2.1.length : Int)
theorem zN_iff {n : TNode} : zeroNodeB n = true ↔ zN n := by
  unfold zeroNodeB zN
  rw [sameNode_eq]
  constructor
  · intro h; subst h; exact ⟨rfl,⟨rfl,rfl,rfl⟩,by simp [zNode]⟩
  · rintro ⟨h1,h2,h3⟩
    exact Prod.ext h1 (Prod.ext (res_ext.2 h2) (len_zero.2 h3))
theorem zQ_iff {q : TQueue} : q = zQueue ↔ zQ q := by
  unfold zQ
  exact ⟨fun h => by subst h; exact ⟨rfl,rfl,rfl,rfl⟩,fun h => Prod.ext h.1 (res_ext.2 h.2)⟩
theorem zT_iff {t : TTask} : zeroTaskB t = true ↔ zT t := by
  unfold zeroTaskB zT
  rw [sameTask_eq,app_zero,app_zero,app_zero]
  constructor
  · intro h; subst h; exact ⟨⟨⟨⟨rfl,rfl⟩,rfl⟩,rfl⟩,rfl,rfl,⟨rfl,rfl,rfl⟩,by simp [zTask]⟩
  · rintro ⟨⟨⟨⟨h1,h2⟩,h3⟩,h4⟩,h5,h6,h7,h8⟩
    exact Prod.ext h1 (Prod.ext h2 (Prod.ext h5 (Prod.ext (res_ext.2 h7) (Prod.ext (len_zero.2 h8) (Prod.ext h3 (Prod.ext h4 h6))))))
theorem bareB_iff {o : TOp} : bareB o = true ↔ (o.1 = 1 ∨ zN o.2.1) ∧ (o.1 = 3 ∨ zQ o.2.2.1) ∧ (o.1 = 5 ∨ zT o.2.2.2.1) ∧ (namedB o.1 = true ∨ o.2.2.2.2 = ByteArray.empty) := by
  unfold bareB
  simp only [Bool.and_eq_true,Bool.or_eq_true,decide_eq_true_eq,and_assoc,zN_iff,zQ_iff,zT_iff]

set_option maxHeartbeats 4000000 in
theorem f172.ok (a : TOp) (h : op_pre a) : f172.vc a := by
  obtain ⟨k,n,q,t,m⟩ := a
  obtain ⟨h1,h2,h3,h4,h5,h6⟩ := h
  obtain ⟨t1,t2,t3,t4,t5⟩ := h3
  unfold name_pre at t1 t2 t4 t5
  have key := bareB_iff (o := (k,n,q,t,m))
  unfold zN zQ zT at key
  unfold f172.vc
  simp only [bytes_beq] at *
  generalize bareB (k,n,q,t,m) = b at *
  repeat' (first | assumption | refine And.intro ?_ ?_ | intro _)
  all_goals first | (simp only [size_app]; omega) | (cases b <;> grind)

theorem f152.ok (a : TOp) (h : op_pre a) : f152.vc a := by
  obtain ⟨h1,h2,h3,h4,h5,h6⟩ := h
  refine ⟨⟨h1,h2,h3,h4,h5,h6⟩,fun c => ?_,fun c => ?_⟩
  · unfold rightO; simp [c]
  have c := Classical.not_not.1 c
  have e : ∀ b : Bool,(bareB a && b) = b := fun b => by rw [c]; rfl
  unfold rightO
  refine ⟨fun d => ⟨h1,by rw [e,if_pos d]⟩,fun d1 => ⟨fun d => ⟨h2,by rw [e,if_neg d1,if_pos d]⟩,fun d2 => ⟨fun d => ⟨h3,by rw [e,if_neg d1,if_neg d2,if_pos d]⟩,fun d3 => ⟨fun d => by rw [e,if_neg d1,if_neg d2,if_neg d3,if_pos d],fun d4 => ⟨fun d => ⟨h4,?_⟩,fun d => ?_⟩⟩⟩⟩⟩
  · rw [e,if_neg d1,if_neg d2,if_neg d3,if_neg d4,d]; rfl
  · rw [e,if_neg d1,if_neg d2,if_neg d3,if_neg d4]
    have : namedB a.1 = false := by simpa using d
    rw [this]; rfl

theorem rightO_iff {o : TOp} : rightO o = true ↔ bareB o = true ∧ (o.1 = 1 ∧ nodeB o.2.1 = true ∨ o.1 = 3 ∧ queueB o.2.2.1 = true ∨ o.1 = 5 ∧ taskB o.2.2.2.1 = true ∨ o.1 = 9 ∨ namedB o.1 = true ∧ nameB o.2.2.2.2 = true) := by
  unfold rightO
  rw [Bool.and_eq_true]
  have hn := named_iff (k := o.1)
  by_cases h1 : o.1 = 1
  · rw [if_pos h1]; grind
  by_cases h3 : o.1 = 3
  · rw [if_neg h1,if_pos h3]; grind
  by_cases h5 : o.1 = 5
  · rw [if_neg h1,if_neg h3,if_pos h5]; grind
  by_cases h9 : o.1 = 9
  · rw [if_neg h1,if_neg h3,if_neg h5,if_pos h9]; grind
  · rw [if_neg h1,if_neg h3,if_neg h5,if_neg h9,Bool.and_eq_true]; grind

theorem op_small {o : TOp} (h : rightO o = true) : 1 ≤ o.1 ∧ o.1 ≤ 9 := by
  rcases (rightO_iff.1 h).2 with h | h | h | h | h
  · omega
  · omega
  · omega
  · omega
  · have := named_iff.1 h.1; omega

theorem f277.ok (a : TOp) (h : encO_pre a) : f277.vc a := by
  obtain ⟨h0,h7⟩ := h
  obtain ⟨h1,h2,h3,h4,h5,h6⟩ := h0
  refine ⟨⟨h1,h2,h3,h4,h5,h6⟩,fun c => by unfold encO; rw [if_neg c],fun c => ?_⟩
  have c := Classical.not_not.1 c
  have hk := op_small c
  have e : putB (ByteArray.empty,a.1) = num a.1.toNat := by unfold putB; exact empty_app _
  have hz := num_small (n := a.1.toNat) (by omega)
  have en : encO a = (opS a,0) := by unfold encO; rw [if_pos c]
  rw [e,en]
  unfold opS opBody
  refine ⟨by omega,by omega,⟨Nat.zero_le _,by show 0 ≤ a.1; omega,by show a.1 ≤ _; omega⟩,fun d => ⟨⟨by show (num _).size ≤ _; omega,h1⟩,by rw [if_pos d]; rfl⟩,fun d1 => ⟨fun d => ⟨⟨by show (num _).size ≤ _; omega,h2⟩,by rw [if_neg d1,if_pos d]; rfl⟩,fun d2 => ⟨fun d => ⟨⟨by show (num _).size ≤ _; omega,h3⟩,by rw [if_neg d1,if_neg d2,if_pos d]; rfl⟩,fun d3 => ⟨fun d => by rw [if_neg d1,if_neg d2,if_neg d3,if_pos d,app_empty],fun d4 => ⟨⟨by show (num _).size ≤ _; omega,h7⟩,?_⟩⟩⟩⟩⟩
  rw [if_neg d1,if_neg d2,if_neg d3,if_neg d4]
  unfold putText textS
  simp only [app_assoc]

theorem f361.ok (a : TOp × ByteArray × Int) (h : takesO_pre a) : f361.vc a := by
  have hs := takeText_size (a.2.1,a.2.2,16) (show (0 : Int) ≤ 16 by decide)
  unfold f361.vc takesO
  refine ⟨fun d => ⟨h,by rw [if_pos d]⟩,fun d1 => ⟨fun d => ⟨h,by rw [if_neg d1,if_pos d]⟩,fun d2 => ⟨fun d => ⟨h,by rw [if_neg d1,if_neg d2,if_pos d]⟩,fun d3 => ⟨fun d => ⟨⟨h,show (16 : Int) ≤ _ by decide⟩,fun e => ⟨by unfold name_pre; simp only at hs; omega,fun f => ?_,fun f => ?_⟩,fun e => ?_⟩,fun d4 => ⟨fun d => ?_,fun d => ?_⟩⟩⟩⟩⟩
  · rw [if_neg d1,if_neg d2,if_neg d3,if_pos d,if_pos ⟨e,f⟩]
  · rw [if_neg d1,if_neg d2,if_neg d3,if_pos d,if_neg (fun x => f x.2)]
  · rw [if_neg d1,if_neg d2,if_neg d3,if_pos d,if_neg (fun x => e x.1)]
  · rw [if_neg d1,if_neg d2,if_neg d3,if_neg d4,if_neg d]
  · rw [if_neg d1,if_neg d2,if_neg d3,if_neg d4,if_pos (Classical.not_not.1 d)]

theorem f349.ok (a : ByteArray) (h : decO_pre a) : f349.vc a := by
  have hb := takeN_bd (a,0)
  refine ⟨h,fun c => ?_,fun c => ⟨fun d => ?_,fun d => ⟨by omega,by omega,h,fun e => ?_,fun e => ⟨fun f => ?_,fun f => ?_⟩⟩⟩⟩ <;> unfold decO
  · rw [if_pos c]; rfl
  · rw [if_neg c,if_pos d]; rfl
  · rw [if_neg c,if_neg d]
    have e : (decBody a).2.1 ≠ 0 := e
    rw [if_pos e]; rfl
  · rw [if_neg c,if_neg d]
    have e : ¬ (decBody a).2.1 ≠ 0 := e
    have f : (decBody a).1 ≠ a.size := f
    rw [if_neg e,if_pos f]; rfl
  · rw [if_neg c,if_neg d]
    have e : ¬ (decBody a).2.1 ≠ 0 := e
    have f : ¬ (decBody a).1 ≠ a.size := f
    rw [if_neg e,if_neg f]; rfl

theorem f351.ok (a : TOp × TOp) (h : sameOp_pre a) : f351.vc a := by
  unfold f351.vc sameOp
  obtain ⟨h1,h2⟩ := h
  have hq : ∀ q r : TQueue,q = r ↔ q.1 = r.1 ∧ q.2.1 = r.2.1 ∧ q.2.2.1 = r.2.2.1 ∧ q.2.2.2 = r.2.2.2 := fun q r => ⟨fun e => by rw [e]; exact ⟨rfl,rfl,rfl,rfl⟩,fun e => Prod.ext e.1 (res_ext.2 e.2)⟩
  simp only [hq]
  generalize sameNode (a.1.2.1,a.2.2.1) = x
  generalize sameTask (a.1.2.2.2.1,a.2.2.2.2.1) = y
  repeat' (first | assumption | refine And.intro ?_ ?_ | intro _)
  all_goals first | assumption | (cases x <;> cases y <;> grind)

end Go.Abs
