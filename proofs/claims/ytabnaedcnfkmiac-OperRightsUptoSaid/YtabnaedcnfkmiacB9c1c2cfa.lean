/- Functions, and what the code asks of them: POper. -/
import Derived.KernelRfl
import Derived.Test.YtabnaedcnfkmiacB29df64bd
import Derived.Test.YtabnaedcnfkmiacB73c0449e
import Derived.Test.YtabnaedcnfkmiacB83512007
import Derived.Test.YtabnaedcnfkmiacB9ec639c5
import Derived.Test.YtabnaedcnfkmiacB663b6f9e
import Derived.Test.YtabnaedcnfkmiacBbfb84570
import Derived.Test.YtabnaedcnfkmiacBfff2f916
import Derived.Test.YtabnaedcnfkmiacBa2de5920
import Derived.Test.YtabnaedcnfkmiacB830fedc4
set_option linter.unusedVariables false
set_option linter.unusedSimpArgs false
/- Operations on a scheduler. -/
namespace Go.Abs
open Go

abbrev TOp := Int × TNode × TQueue × TTask × ByteArray
abbrev TAct := Int × ByteArray × ByteArray
def namedB (k : Int) : Bool := decide (k = 2 ∨ k = 4 ∨ k = 6 ∨ k = 7 ∨ k = 8)
def zeroNodeB (n : TNode) : Bool := sameNode (n, zNode)
def zeroTaskB (t : TTask) : Bool := sameTask (t, zTask)
def zeroNode_pre (n : TNode) : Prop := n.2.2.length ≤ 1048576
def zeroTask_pre (t : TTask) : Prop := t.2.2.2.2.1.length ≤ 1048576
def op_pre (o : TOp) : Prop := node_pre o.2.1 ∧ queue_pre o.2.2.1 ∧ task_pre o.2.2.2.1 ∧ name_pre o.2.2.2.2 ∧ o.2.1.2.2.length ≤ 1048576 ∧ o.2.2.2.1.2.2.2.2.1.length ≤ 1048576
def bareB (o : TOp) : Bool := (decide (o.1 = 1) || zeroNodeB o.2.1) && (decide (o.1 = 3) || decide (o.2.2.1 = zQueue)) && (decide (o.1 = 5) || zeroTaskB o.2.2.2.1) && (namedB o.1 || decide (o.2.2.2.2 = ByteArray.empty))
def rightO (o : TOp) : Bool := bareB o && (if o.1 = 1 then nodeB o.2.1 else if o.1 = 3 then queueB o.2.2.1 else if o.1 = 5 then taskB o.2.2.2.1 else if o.1 = 9 then true else namedB o.1 && nameB o.2.2.2.2)
def opBody (o : TOp) : ByteArray := if o.1 = 1 then nodeS o.2.1 else if o.1 = 3 then queueS o.2.2.1 else if o.1 = 5 then taskS o.2.2.2.1 else if o.1 = 9 then ByteArray.empty else textS o.2.2.2.2
def opS (o : TOp) : ByteArray := num o.1.toNat ++ opBody o
def opS_pre (o : TOp) : Prop := op_pre o ∧ U64 o.1 ∧ o.2.2.2.2.size ≤ 268435456 ∧ o.1 ≤ 9223372036854775807
def encO_pre (o : TOp) : Prop := op_pre o ∧ o.2.2.2.2.size ≤ 268435456
def encO (o : TOp) : ByteArray × Int := if rightO o = true then (opS o, 0) else (ByteArray.empty, 1)
def few6 (o : TOp) : Bool := labs5 o.2.1.2.2 && labs5 o.2.2.2.1.2.2.2.2.1 && decide (o.2.1.1.size + o.2.2.1.1.size + o.2.2.2.1.1.size + o.2.2.2.1.2.1.size + o.2.2.2.1.2.2.2.2.2.1.size + o.2.2.2.1.2.2.2.2.2.2.1.size + o.2.2.2.2.size ≤ 5000)
/-- Acts and answers. -/
def wordA (k : Int) : ByteArray := if k = 1 then ⟨#[98, 105, 110, 100]⟩ else if k = 2 then ⟨#[101, 118, 105, 99, 116]⟩ else if k = 3 then ⟨#[114, 101, 108, 101, 97, 115, 101]⟩ else ⟨#[63]⟩
def textA_pre (a : TAct) : Prop := a.2.1.size ≤ 1073741824 ∧ a.2.2.size ≤ 1073741824
def textA (a : TAct) : ByteArray := wordA a.1 ++ ⟨#[32]⟩ ++ a.2.1 ++ ⟨#[32]⟩ ++ a.2.2
end Go.Abs

-- interregnum/oper.named
namespace Go.Abs
open Go
def f173.args (a : Int) : List D := [.int .i64 a]
def f173.blks (a : Int) : List (List D) := []
def f173.res (a : Int) : List D := [.bool (namedB a)]
def f173.blks' (a : Int) : List (List D) := []
def f173.C : Contract := FnC f173.args f173.blks (fun _ => True) f173.res f173.blks'
end Go.Abs

/- interregnum/oper.named -/
namespace Go.Abs
open Go
set_option linter.unusedVariables false
def f173.kills (a : Int) : List Hint := []
def f173.cuts (a : Int) : List (Nat × Σ β : Type, β → Tm) := []
def f173.af (a : Int) : AF := AF.mk (.seq (.region [⟨(some 2), 0, .move, [.c (.bool false)], none⟩])
 (.seq (.seq (.region [⟨(some 3), 1, .move, [.t 0], none⟩])
 (.block 0 (.seq (.seq (.region [⟨(some 5), 2, (.bin .eql), [.t 3, .c (.int .i64 (2))], none⟩,
  ⟨(some 4), 3, .move, [.t 5], none⟩])
 (.cond (.t 4) (.skip) (.seq (.region [⟨(some 6), 4, (.bin .eql), [.t 3, .c (.int .i64 (4))], none⟩,
  ⟨(some 4), 5, .move, [.t 6], none⟩])
 (.cond (.t 4) (.skip) (.seq (.region [⟨(some 7), 6, (.bin .eql), [.t 3, .c (.int .i64 (6))], none⟩,
  ⟨(some 4), 7, .move, [.t 7], none⟩])
 (.cond (.t 4) (.skip) (.seq (.region [⟨(some 8), 8, (.bin .eql), [.t 3, .c (.int .i64 (7))], none⟩,
  ⟨(some 4), 9, .move, [.t 8], none⟩])
 (.cond (.t 4) (.skip) (.region [⟨(some 9), 10, (.bin .eql), [.t 3, .c (.int .i64 (8))], none⟩,
  ⟨(some 4), 11, .move, [.t 9], none⟩])))))))))
 (.cond (.t 4) (.seq (.region [⟨(some 2), 12, .move, [.c (.bool true)], none⟩])
 (.ret)) (.skip)))))
 (.seq (.region [⟨(some 2), 13, .move, [.c (.bool false)], none⟩])
 (.ret))))
  [.tmp 2] 0 9
def f173.env : Env := []
def f173.tree (a : Int) : Prop := Br (a == (2 : Int)) (Br (a == (2 : Int)) ((true = (namedB a)) ∧ True) ((false = (namedB a)) ∧ True)) (Br (a == (4 : Int)) (Br (a == (4 : Int)) ((true = (namedB a)) ∧ True) ((false = (namedB a)) ∧ True)) (Br (a == (6 : Int)) (Br (a == (6 : Int)) ((true = (namedB a)) ∧ True) ((false = (namedB a)) ∧ True)) (Br (a == (7 : Int)) (Br (a == (7 : Int)) ((true = (namedB a)) ∧ True) ((false = (namedB a)) ∧ True)) (Br (a == (8 : Int)) ((true = (namedB a)) ∧ True) ((false = (namedB a)) ∧ True)))))
def f173.vc (a : Int) : Prop := ((a = (2 : Int) → (true = namedB a)) ∧ (¬ (a = (2 : Int)) → ((a = (4 : Int) → (true = namedB a)) ∧ (¬ (a = (4 : Int)) → ((a = (6 : Int) → (true = namedB a)) ∧ (¬ (a = (6 : Int)) → ((a = (7 : Int) → (true = namedB a)) ∧ (¬ (a = (7 : Int)) → ((a = (8 : Int) → (true = namedB a)) ∧ (¬ (a = (8 : Int)) → (false = namedB a)))))))))))
set_option maxRecDepth 100000 in
set_option maxHeartbeats 2000000 in
theorem f173.of (a : Int) (h : f173.vc a) : f173.tree a := br h Cnd.eq (fun h1 k29 => brT Cnd.eq h1 (⟨k29, trivial⟩)) (fun h2 k30 => br k30 Cnd.eq (fun h5 k27 => brT Cnd.eq h5 (⟨k27, trivial⟩)) (fun h6 k28 => br k28 Cnd.eq (fun h9 k25 => brT Cnd.eq h9 (⟨k25, trivial⟩)) (fun h10 k26 => br k26 Cnd.eq (fun h13 k23 => brT Cnd.eq h13 (⟨k23, trivial⟩)) (fun h14 k24 => br k24 Cnd.eq (fun h17 k21 => ⟨k21, trivial⟩) (fun h18 k22 => ⟨k22, trivial⟩)))))
theorem f173.eq (a : Int) : (f173.af a).gives f173.env (f173.args a) (f173.blks a) (f173.res a) (f173.blks' a) = f173.tree a := by kernel_rfl
end Go.Abs

-- interregnum/interregnumref06.named
namespace Go.Abs
open Go
def f314.args (a : Int) : List D := [.int .i64 a]
def f314.blks (a : Int) : List (List D) := []
def f314.res (a : Int) : List D := [.bool (namedB a)]
def f314.blks' (a : Int) : List (List D) := []
def f314.C : Contract := FnC f314.args f314.blks (fun _ => True) f314.res f314.blks'
end Go.Abs

/- interregnum/interregnumref06.named -/
namespace Go.Abs
open Go
set_option linter.unusedVariables false
def f314.kills (a : Int) : List Hint := []
def f314.cuts (a : Int) : List (Nat × Σ β : Type, β → Tm) := []
def f314.af (a : Int) : AF := AF.mk (.seq (.region [⟨(some 2), 0, .move, [.c (.bool false)], none⟩])
 (.seq (.region [⟨(some 3), 1, .move, [.t 0], none⟩,
  ⟨(some 4), 2, (.bin .eql), [.t 3, .c (.int .i64 (2))], none⟩,
  ⟨(some 5), 3, .move, [.t 4], none⟩,
  ⟨(some 6), 4, .move, [.t 0], (some (5, false))⟩,
  ⟨(some 7), 5, (.bin .eql), [.t 6, .c (.int .i64 (4))], (some (5, false))⟩,
  ⟨(some 8), 6, .pick, [.t 5, .c (.bool true), .t 7], none⟩,
  ⟨(some 9), 7, .move, [.t 8], none⟩,
  ⟨(some 10), 8, .move, [.t 0], (some (9, false))⟩,
  ⟨(some 11), 9, (.bin .eql), [.t 10, .c (.int .i64 (6))], (some (9, false))⟩,
  ⟨(some 12), 10, .pick, [.t 9, .c (.bool true), .t 11], none⟩,
  ⟨(some 13), 11, .move, [.t 12], none⟩,
  ⟨(some 14), 12, .move, [.t 0], (some (13, false))⟩,
  ⟨(some 15), 13, (.bin .eql), [.t 14, .c (.int .i64 (7))], (some (13, false))⟩,
  ⟨(some 16), 14, .pick, [.t 13, .c (.bool true), .t 15], none⟩,
  ⟨(some 17), 15, .move, [.t 16], none⟩,
  ⟨(some 18), 16, .move, [.t 0], (some (17, false))⟩,
  ⟨(some 19), 17, (.bin .eql), [.t 18, .c (.int .i64 (8))], (some (17, false))⟩,
  ⟨(some 20), 18, .pick, [.t 17, .c (.bool true), .t 19], none⟩,
  ⟨(some 2), 19, .move, [.t 20], none⟩])
 (.ret)))
  [.tmp 2] 0 20
def f314.env : Env := []
def f314.tree (a : Int) : Prop := Br (a == (2 : Int)) ((true = (namedB a)) ∧ True) (Br (a == (4 : Int)) ((true = (namedB a)) ∧ True) (Br (a == (6 : Int)) ((true = (namedB a)) ∧ True) (Br (a == (7 : Int)) ((true = (namedB a)) ∧ True) (((a == (8 : Int)) = (namedB a)) ∧ True))))
def f314.vc (a : Int) : Prop := ((a = (2 : Int) → (true = namedB a)) ∧ (¬ (a = (2 : Int)) → ((a = (4 : Int) → (true = namedB a)) ∧ (¬ (a = (4 : Int)) → ((a = (6 : Int) → (true = namedB a)) ∧ (¬ (a = (6 : Int)) → ((a = (7 : Int) → (true = namedB a)) ∧ (¬ (a = (7 : Int)) → ((a == (8 : Int)) = namedB a)))))))))
set_option maxRecDepth 100000 in
set_option maxHeartbeats 2000000 in
theorem f314.of (a : Int) (h : f314.vc a) : f314.tree a := br h Cnd.eq (fun h1 k20 => ⟨k20, trivial⟩) (fun h2 k21 => br k21 Cnd.eq (fun h4 k18 => ⟨k18, trivial⟩) (fun h5 k19 => br k19 Cnd.eq (fun h7 k16 => ⟨k16, trivial⟩) (fun h8 k17 => br k17 Cnd.eq (fun h10 k14 => ⟨k14, trivial⟩) (fun h11 k15 => ⟨k15, trivial⟩))))
theorem f314.eq (a : Int) : (f314.af a).gives f314.env (f314.args a) (f314.blks a) (f314.res a) (f314.blks' a) = f314.tree a := by kernel_rfl
end Go.Abs

-- interregnum/oper.bare
namespace Go.Abs
open Go
def f172.args (a : T_api_Op) : List D := [.agg [.int .i64 a.1, .str a.2.1.1, .int .i64 a.2.1.2.1.1, .int .i64 a.2.1.2.1.2.1, .int .i64 a.2.1.2.1.2.2, .slice .ro 2 a.2.1.2.2.length (gl e_api_Label a.2.1.2.2), .str a.2.2.1.1, .int .i64 a.2.2.1.2.1, .int .i64 a.2.2.1.2.2.1, .int .i64 a.2.2.1.2.2.2, .str a.2.2.2.1.1, .str a.2.2.2.1.2.1, .int .i64 a.2.2.2.1.2.2.1, .int .i64 a.2.2.2.1.2.2.2.1.1, .int .i64 a.2.2.2.1.2.2.2.1.2.1, .int .i64 a.2.2.2.1.2.2.2.1.2.2, .slice .ro 2 a.2.2.2.1.2.2.2.2.1.length (gl e_api_Label a.2.2.2.1.2.2.2.2.1), .str a.2.2.2.1.2.2.2.2.2.1, .str a.2.2.2.1.2.2.2.2.2.2.1, .int .i64 a.2.2.2.1.2.2.2.2.2.2.2, .str a.2.2.2.2]]
def f172.blks (a : T_api_Op) : List (List D) := []
def f172.res (a : T_api_Op) : List D := [.bool (bareB a)]
def f172.blks' (a : T_api_Op) : List (List D) := []
def f172.C : Contract := FnC f172.args f172.blks (fun a => op_pre a) f172.res f172.blks'
end Go.Abs

/- interregnum/oper.bare -/
namespace Go.Abs
open Go
set_option linter.unusedVariables false
def f172.kills (a : T_api_Op) : List Hint := []
def f172.cuts (a : T_api_Op) : List (Nat × Σ β : Type, β → Tm) := [(1, ⟨Unit, fun x => ⟨[.dead, .ptr 0 0, .dead, .ptr 6 0, .ptr 12 0, .dead, .dead, .dead, .dead, .dead, .dead, .dead, .dead, .dead, .dead, .dead, .dead, .dead, .dead, .dead, .dead, .dead, .dead, .dead, .dead, .dead, .dead, .dead, .dead, .dead, .dead, .dead, .dead, .dead, .dead, .dead, .dead, .dead, .dead, .dead, .dead, .dead, .dead, .dead, .dead, .dead, .dead, .dead, .dead, .dead, .dead, .dead, .dead, .dead, .dead, .dead, .dead, .dead, .dead, .dead, .dead, .dead, .dead, .dead, .dead, .dead, .dead, .dead, .dead, .dead, .dead, .dead, .dead, .dead, .dead, .dead, .dead, .dead, .dead, .dead, .dead, .dead, .dead, .dead, .dead], [(0, false, [.int .i64 a.1, .str a.2.1.1, .int .i64 a.2.1.2.1.1, .int .i64 a.2.1.2.1.2.1, .int .i64 a.2.1.2.1.2.2, .slice .ro 2 a.2.1.2.2.length (gl e_api_Label a.2.1.2.2), .str a.2.2.1.1, .int .i64 a.2.2.1.2.1, .int .i64 a.2.2.1.2.2.1, .int .i64 a.2.2.1.2.2.2, .str a.2.2.2.1.1, .str a.2.2.2.1.2.1, .int .i64 a.2.2.2.1.2.2.1, .int .i64 a.2.2.2.1.2.2.2.1.1, .int .i64 a.2.2.2.1.2.2.2.1.2.1, .int .i64 a.2.2.2.1.2.2.2.1.2.2, .slice .ro 2 a.2.2.2.1.2.2.2.2.1.length (gl e_api_Label a.2.2.2.1.2.2.2.2.1), .str a.2.2.2.1.2.2.2.2.2.1, .str a.2.2.2.1.2.2.2.2.2.2.1, .int .i64 a.2.2.2.1.2.2.2.2.2.2.2, .str a.2.2.2.2]), (6, false, [.str a.2.1.1, .int .i64 a.2.1.2.1.1, .int .i64 a.2.1.2.1.2.1, .int .i64 a.2.1.2.1.2.2, .slice .ro 2 a.2.1.2.2.length (gl e_api_Label a.2.1.2.2)]), (12, false, [.str a.2.2.2.1.1, .str a.2.2.2.1.2.1, .int .i64 a.2.2.2.1.2.2.1, .int .i64 a.2.2.2.1.2.2.2.1.1, .int .i64 a.2.2.2.1.2.2.2.1.2.1, .int .i64 a.2.2.2.1.2.2.2.1.2.2, .slice .ro 2 a.2.2.2.1.2.2.2.2.1.length (gl e_api_Label a.2.2.2.1.2.2.2.2.1), .str a.2.2.2.1.2.2.2.2.2.1, .str a.2.2.2.1.2.2.2.2.2.2.1, .int .i64 a.2.2.2.1.2.2.2.2.2.2.2])], []⟩⟩)]
def f172.af (a : T_api_Op) : AF := AF.mk (.seq (.region [⟨(some 1), 0, .box, [.t 0], none⟩,
  ⟨(some 2), 1, .move, [.c (.bool false)], none⟩])
 (.seq (.orders [[⟨(some 5), 2, (.fieldAddr 1), [.t 1], none⟩, ⟨(some 6), 3, (.load true 5), [.t 5], none⟩, ⟨(some 7), 4, (.fieldAddr 10), [.t 1], none⟩, ⟨(some 8), 5, (.load true 10), [.t 7], none⟩, ⟨(some 3), 6, (.alloc [.str ByteArray.empty, .int .i64 (0), .int .i64 (0), .int .i64 (0), .slice (.own 0) 2 0 gnil]), [], none⟩, ⟨(some 4), 12, (.alloc [.str ByteArray.empty, .str ByteArray.empty, .int .i64 (0), .int .i64 (0), .int .i64 (0), .int .i64 (0), .slice (.own 0) 2 0 gnil, .str ByteArray.empty, .str ByteArray.empty, .int .i64 (0)]), [], none⟩, ⟨none, 23, (.store 5), [.t 3, .t 6], none⟩, ⟨none, 24, (.store 10), [.t 4, .t 8], none⟩],
  [⟨(some 5), 2, (.fieldAddr 1), [.t 1], none⟩, ⟨(some 6), 3, (.load true 5), [.t 5], none⟩, ⟨(some 7), 4, (.fieldAddr 10), [.t 1], none⟩, ⟨(some 3), 6, (.alloc [.str ByteArray.empty, .int .i64 (0), .int .i64 (0), .int .i64 (0), .slice (.own 0) 2 0 gnil]), [], none⟩, ⟨(some 4), 12, (.alloc [.str ByteArray.empty, .str ByteArray.empty, .int .i64 (0), .int .i64 (0), .int .i64 (0), .int .i64 (0), .slice (.own 0) 2 0 gnil, .str ByteArray.empty, .str ByteArray.empty, .int .i64 (0)]), [], none⟩, ⟨none, 23, (.store 5), [.t 3, .t 6], none⟩, ⟨(some 8), 5, (.load true 10), [.t 7], none⟩, ⟨none, 24, (.store 10), [.t 4, .t 8], none⟩]])
 (.seq (.cut Unit (fun x => ⟨[.dead, .ptr 0 0, .dead, .ptr 6 0, .ptr 12 0, .dead, .dead, .dead, .dead, .dead, .dead, .dead, .dead, .dead, .dead, .dead, .dead, .dead, .dead, .dead, .dead, .dead, .dead, .dead, .dead, .dead, .dead, .dead, .dead, .dead, .dead, .dead, .dead, .dead, .dead, .dead, .dead, .dead, .dead, .dead, .dead, .dead, .dead, .dead, .dead, .dead, .dead, .dead, .dead, .dead, .dead, .dead, .dead, .dead, .dead, .dead, .dead, .dead, .dead, .dead, .dead, .dead, .dead, .dead, .dead, .dead, .dead, .dead, .dead, .dead, .dead, .dead, .dead, .dead, .dead, .dead, .dead, .dead, .dead, .dead, .dead, .dead, .dead, .dead, .dead], [(0, false, [.int .i64 a.1, .str a.2.1.1, .int .i64 a.2.1.2.1.1, .int .i64 a.2.1.2.1.2.1, .int .i64 a.2.1.2.1.2.2, .slice .ro 2 a.2.1.2.2.length (gl e_api_Label a.2.1.2.2), .str a.2.2.1.1, .int .i64 a.2.2.1.2.1, .int .i64 a.2.2.1.2.2.1, .int .i64 a.2.2.1.2.2.2, .str a.2.2.2.1.1, .str a.2.2.2.1.2.1, .int .i64 a.2.2.2.1.2.2.1, .int .i64 a.2.2.2.1.2.2.2.1.1, .int .i64 a.2.2.2.1.2.2.2.1.2.1, .int .i64 a.2.2.2.1.2.2.2.1.2.2, .slice .ro 2 a.2.2.2.1.2.2.2.2.1.length (gl e_api_Label a.2.2.2.1.2.2.2.2.1), .str a.2.2.2.1.2.2.2.2.2.1, .str a.2.2.2.1.2.2.2.2.2.2.1, .int .i64 a.2.2.2.1.2.2.2.2.2.2.2, .str a.2.2.2.2]), (6, false, [.str a.2.1.1, .int .i64 a.2.1.2.1.1, .int .i64 a.2.1.2.1.2.1, .int .i64 a.2.1.2.1.2.2, .slice .ro 2 a.2.1.2.2.length (gl e_api_Label a.2.1.2.2)]), (12, false, [.str a.2.2.2.1.1, .str a.2.2.2.1.2.1, .int .i64 a.2.2.2.1.2.2.1, .int .i64 a.2.2.2.1.2.2.2.1.1, .int .i64 a.2.2.2.1.2.2.2.1.2.1, .int .i64 a.2.2.2.1.2.2.2.1.2.2, .slice .ro 2 a.2.2.2.1.2.2.2.2.1.length (gl e_api_Label a.2.2.2.1.2.2.2.2.1), .str a.2.2.2.1.2.2.2.2.2.1, .str a.2.2.2.1.2.2.2.2.2.2.1, .int .i64 a.2.2.2.1.2.2.2.2.2.2.2])], []⟩)) (.seq (.seq (.region [⟨(some 9), 25, (.fieldAddr 0), [.t 1], none⟩,
  ⟨(some 10), 26, (.load false 1), [.t 9], none⟩,
  ⟨(some 11), 27, (.bin .neq), [.t 10, .c (.int .i64 (1))], none⟩,
  ⟨(some 12), 28, .move, [.t 11], none⟩,
  ⟨(some 13), 29, (.fieldAddr 0), [.t 3], (some (12, true))⟩,
  ⟨(some 14), 30, (.load false 1), [.t 13], (some (12, true))⟩,
  ⟨(some 15), 31, (.bin .neq), [.t 14, .c (.str ByteArray.empty)], (some (12, true))⟩,
  ⟨(some 16), 32, .move, [.t 15], (some (12, true))⟩,
  ⟨(some 17), 33, (.fieldAddr 1), [.t 3], (some (16, false))⟩,
  ⟨(some 18), 34, (.load true 3), [.t 17], (some (16, false))⟩,
  ⟨(some 19), 35, (.build [.int .i64 (0), .int .i64 (0), .int .i64 (0)] []), [], (some (16, false))⟩,
  ⟨(some 20), 36, (.eqAgg true [0, 0, 0]), [.t 18, .t 19], (some (16, false))⟩,
  ⟨(some 21), 37, .pick, [.t 16, .c (.bool true), .t 20], (some (12, true))⟩,
  ⟨(some 22), 38, .move, [.t 21], (some (12, true))⟩,
  ⟨(some 23), 39, (.fieldAddr 4), [.t 3], (some (22, false))⟩,
  ⟨(some 24), 40, (.load false 1), [.t 23], (some (22, false))⟩,
  ⟨(some 25), 41, (.len false), [.t 24], (some (22, false))⟩,
  ⟨(some 26), 42, (.bin .gtr), [.t 25, .c (.int .i64 (0))], (some (22, false))⟩,
  ⟨(some 27), 43, .pick, [.t 22, .c (.bool true), .t 26], (some (12, true))⟩,
  ⟨(some 28), 44, .pick, [.t 12, .t 27, .c (.bool false)], none⟩])
 (.cond (.t 28) (.seq (.region [⟨(some 2), 45, .move, [.c (.bool false)], none⟩])
 (.ret)) (.skip)))
 (.seq (.seq (.region [⟨(some 29), 46, (.fieldAddr 0), [.t 1], none⟩,
  ⟨(some 30), 47, (.load false 1), [.t 29], none⟩,
  ⟨(some 31), 48, (.bin .neq), [.t 30, .c (.int .i64 (3))], none⟩,
  ⟨(some 32), 49, .move, [.t 31], none⟩,
  ⟨(some 33), 50, (.fieldAddr 6), [.t 1], (some (32, true))⟩,
  ⟨(some 34), 51, (.load true 4), [.t 33], (some (32, true))⟩,
  ⟨(some 35), 52, (.build [.str ByteArray.empty, .int .i64 (0), .int .i64 (0), .int .i64 (0)] []), [], (some (32, true))⟩,
  ⟨(some 36), 53, (.eqAgg true [2, 0, 0, 0]), [.t 34, .t 35], (some (32, true))⟩,
  ⟨(some 37), 54, .pick, [.t 32, .t 36, .c (.bool false)], none⟩])
 (.cond (.t 37) (.seq (.region [⟨(some 2), 55, .move, [.c (.bool false)], none⟩])
 (.ret)) (.skip)))
 (.seq (.seq (.region [⟨(some 38), 56, (.fieldAddr 0), [.t 1], none⟩,
  ⟨(some 39), 57, (.load false 1), [.t 38], none⟩,
  ⟨(some 40), 58, (.bin .neq), [.t 39, .c (.int .i64 (5))], none⟩,
  ⟨(some 41), 59, .move, [.t 40], none⟩,
  ⟨(some 42), 60, (.fieldAddr 0), [.t 4], (some (41, true))⟩,
  ⟨(some 43), 61, (.load false 1), [.t 42], (some (41, true))⟩,
  ⟨(some 44), 62, (.fieldAddr 1), [.t 4], (some (41, true))⟩,
  ⟨(some 45), 63, (.load false 1), [.t 44], (some (41, true))⟩,
  ⟨(some 46), 64, (.bin .add), [.t 43, .t 45], (some (41, true))⟩,
  ⟨(some 47), 65, (.fieldAddr 7), [.t 4], (some (41, true))⟩,
  ⟨(some 48), 66, (.load false 1), [.t 47], (some (41, true))⟩,
  ⟨(some 49), 67, (.bin .add), [.t 46, .t 48], (some (41, true))⟩,
  ⟨(some 50), 68, (.fieldAddr 8), [.t 4], (some (41, true))⟩,
  ⟨(some 51), 69, (.load false 1), [.t 50], (some (41, true))⟩,
  ⟨(some 52), 70, (.bin .add), [.t 49, .t 51], (some (41, true))⟩,
  ⟨(some 53), 71, (.bin .neq), [.t 52, .c (.str ByteArray.empty)], (some (41, true))⟩,
  ⟨(some 54), 72, .move, [.t 53], (some (41, true))⟩,
  ⟨(some 55), 73, (.fieldAddr 2), [.t 4], (some (54, false))⟩,
  ⟨(some 56), 74, (.load false 1), [.t 55], (some (54, false))⟩,
  ⟨(some 57), 75, (.bin .neq), [.t 56, .c (.int .i64 (0))], (some (54, false))⟩,
  ⟨(some 58), 76, .pick, [.t 54, .c (.bool true), .t 57], (some (41, true))⟩,
  ⟨(some 59), 77, .move, [.t 58], (some (41, true))⟩,
  ⟨(some 60), 78, (.fieldAddr 9), [.t 4], (some (59, false))⟩,
  ⟨(some 61), 79, (.load false 1), [.t 60], (some (59, false))⟩,
  ⟨(some 62), 80, (.bin .neq), [.t 61, .c (.int .i64 (0))], (some (59, false))⟩,
  ⟨(some 63), 81, .pick, [.t 59, .c (.bool true), .t 62], (some (41, true))⟩,
  ⟨(some 64), 82, .move, [.t 63], (some (41, true))⟩,
  ⟨(some 65), 83, (.fieldAddr 3), [.t 4], (some (64, false))⟩,
  ⟨(some 66), 84, (.load true 3), [.t 65], (some (64, false))⟩,
  ⟨(some 67), 85, (.build [.int .i64 (0), .int .i64 (0), .int .i64 (0)] []), [], (some (64, false))⟩,
  ⟨(some 68), 86, (.eqAgg true [0, 0, 0]), [.t 66, .t 67], (some (64, false))⟩,
  ⟨(some 69), 87, .pick, [.t 64, .c (.bool true), .t 68], (some (41, true))⟩,
  ⟨(some 70), 88, .move, [.t 69], (some (41, true))⟩,
  ⟨(some 71), 89, (.fieldAddr 6), [.t 4], (some (70, false))⟩,
  ⟨(some 72), 90, (.load false 1), [.t 71], (some (70, false))⟩,
  ⟨(some 73), 91, (.len false), [.t 72], (some (70, false))⟩,
  ⟨(some 74), 92, (.bin .gtr), [.t 73, .c (.int .i64 (0))], (some (70, false))⟩,
  ⟨(some 75), 93, .pick, [.t 70, .c (.bool true), .t 74], (some (41, true))⟩,
  ⟨(some 76), 94, .pick, [.t 41, .t 75, .c (.bool false)], none⟩])
 (.cond (.t 76) (.seq (.region [⟨(some 2), 95, .move, [.c (.bool false)], none⟩])
 (.ret)) (.skip)))
 (.seq (.region [⟨(some 77), 96, (.fieldAddr 0), [.t 1], none⟩,
  ⟨(some 78), 97, (.load false 1), [.t 77], none⟩,
  ⟨(some 79), 98, (.call false 173), [.t 78], none⟩,
  ⟨(some 80), 102, .move, [.t 79], none⟩,
  ⟨(some 81), 103, (.fieldAddr 20), [.t 1], (some (80, false))⟩,
  ⟨(some 82), 104, (.load false 1), [.t 81], (some (80, false))⟩,
  ⟨(some 83), 105, (.bin .eql), [.t 82, .c (.str ByteArray.empty)], (some (80, false))⟩,
  ⟨(some 84), 106, .pick, [.t 80, .c (.bool true), .t 83], none⟩,
  ⟨(some 2), 107, .move, [.t 84], none⟩])
 (.ret))))))))
  [.tmp 2] 0 84
def f172.env : Env := [(173, f173.C)]
def f172.tree (a : T_api_Op) : Prop := (∃ x1 : Unit, (a.1 = a.1) ∧ (a.2.1.1 = a.2.1.1) ∧ (a.2.1.2.1.1 = a.2.1.2.1.1) ∧ (a.2.1.2.1.2.1 = a.2.1.2.1.2.1) ∧ (a.2.1.2.1.2.2 = a.2.1.2.1.2.2) ∧ (a.2.1.2.2.length = a.2.1.2.2.length) ∧ (∀ i, i < a.2.1.2.2.length → DEqs ((gl e_api_Label a.2.1.2.2) i) ((gl e_api_Label a.2.1.2.2) i)) ∧ (a.2.2.1.1 = a.2.2.1.1) ∧ (a.2.2.1.2.1 = a.2.2.1.2.1) ∧ (a.2.2.1.2.2.1 = a.2.2.1.2.2.1) ∧ (a.2.2.1.2.2.2 = a.2.2.1.2.2.2) ∧ (a.2.2.2.1.1 = a.2.2.2.1.1) ∧ (a.2.2.2.1.2.1 = a.2.2.2.1.2.1) ∧ (a.2.2.2.1.2.2.1 = a.2.2.2.1.2.2.1) ∧ (a.2.2.2.1.2.2.2.1.1 = a.2.2.2.1.2.2.2.1.1) ∧ (a.2.2.2.1.2.2.2.1.2.1 = a.2.2.2.1.2.2.2.1.2.1) ∧ (a.2.2.2.1.2.2.2.1.2.2 = a.2.2.2.1.2.2.2.1.2.2) ∧ (a.2.2.2.1.2.2.2.2.1.length = a.2.2.2.1.2.2.2.2.1.length) ∧ (∀ i, i < a.2.2.2.1.2.2.2.2.1.length → DEqs ((gl e_api_Label a.2.2.2.1.2.2.2.2.1) i) ((gl e_api_Label a.2.2.2.1.2.2.2.2.1) i)) ∧ (a.2.2.2.1.2.2.2.2.2.1 = a.2.2.2.1.2.2.2.2.2.1) ∧ (a.2.2.2.1.2.2.2.2.2.2.1 = a.2.2.2.1.2.2.2.2.2.2.1) ∧ (a.2.2.2.1.2.2.2.2.2.2.2 = a.2.2.2.1.2.2.2.2.2.2.2) ∧ (a.2.2.2.2 = a.2.2.2.2) ∧ (a.2.1.1 = a.2.1.1) ∧ (a.2.1.2.1.1 = a.2.1.2.1.1) ∧ (a.2.1.2.1.2.1 = a.2.1.2.1.2.1) ∧ (a.2.1.2.1.2.2 = a.2.1.2.1.2.2) ∧ (a.2.1.2.2.length = a.2.1.2.2.length) ∧ (∀ i, i < a.2.1.2.2.length → DEqs ((gl e_api_Label a.2.1.2.2) i) ((gl e_api_Label a.2.1.2.2) i)) ∧ (a.2.2.2.1.1 = a.2.2.2.1.1) ∧ (a.2.2.2.1.2.1 = a.2.2.2.1.2.1) ∧ (a.2.2.2.1.2.2.1 = a.2.2.2.1.2.2.1) ∧ (a.2.2.2.1.2.2.2.1.1 = a.2.2.2.1.2.2.2.1.1) ∧ (a.2.2.2.1.2.2.2.1.2.1 = a.2.2.2.1.2.2.2.1.2.1) ∧ (a.2.2.2.1.2.2.2.1.2.2 = a.2.2.2.1.2.2.2.1.2.2) ∧ (a.2.2.2.1.2.2.2.2.1.length = a.2.2.2.1.2.2.2.2.1.length) ∧ (∀ i, i < a.2.2.2.1.2.2.2.2.1.length → DEqs ((gl e_api_Label a.2.2.2.1.2.2.2.2.1) i) ((gl e_api_Label a.2.2.2.1.2.2.2.2.1) i)) ∧ (a.2.2.2.1.2.2.2.2.2.1 = a.2.2.2.1.2.2.2.2.2.1) ∧ (a.2.2.2.1.2.2.2.2.2.2.1 = a.2.2.2.1.2.2.2.2.2.2.1) ∧ (a.2.2.2.1.2.2.2.2.2.2.2 = a.2.2.2.1.2.2.2.2.2.2.2) ∧ Br (a.1 != (1 : Int)) (Br (!(a.2.1.1.toList == ByteArray.empty.toList)) ((false = (bareB a)) ∧ True) (Br (!((a.2.1.2.1.1 == (0 : Int)) && ((a.2.1.2.1.2.1 == (0 : Int)) && (a.2.1.2.1.2.2 == (0 : Int))))) ((false = (bareB a)) ∧ True) (Br (decide ((0 : Int) < (a.2.1.2.2.length : Int))) ((false = (bareB a)) ∧ True) (Br (a.1 != (3 : Int)) (Br (!((a.2.2.1.1.toList == ByteArray.empty.toList) && ((a.2.2.1.2.1 == (0 : Int)) && ((a.2.2.1.2.2.1 == (0 : Int)) && (a.2.2.1.2.2.2 == (0 : Int)))))) ((false = (bareB a)) ∧ True) (Br (a.1 != (5 : Int)) (Br (Nat.ble (a.2.2.2.1.1.size + a.2.2.2.1.2.1.size) 9223372036854775807) (Br (Nat.ble ((a.2.2.2.1.1 ++ a.2.2.2.1.2.1).size + a.2.2.2.1.2.2.2.2.2.1.size) 9223372036854775807) (Br (Nat.ble (((a.2.2.2.1.1 ++ a.2.2.2.1.2.1) ++ a.2.2.2.1.2.2.2.2.2.1).size + a.2.2.2.1.2.2.2.2.2.2.1.size) 9223372036854775807) (Br (!((((a.2.2.2.1.1 ++ a.2.2.2.1.2.1) ++ a.2.2.2.1.2.2.2.2.2.1) ++ a.2.2.2.1.2.2.2.2.2.2.1).toList == ByteArray.empty.toList)) ((false = (bareB a)) ∧ True) (Br (a.2.2.2.1.2.2.1 != (0 : Int)) ((false = (bareB a)) ∧ True) (Br (a.2.2.2.1.2.2.2.2.2.2.2 != (0 : Int)) ((false = (bareB a)) ∧ True) (Br (!((a.2.2.2.1.2.2.2.1.1 == (0 : Int)) && ((a.2.2.2.1.2.2.2.1.2.1 == (0 : Int)) && (a.2.2.2.1.2.2.2.1.2.2 == (0 : Int))))) ((false = (bareB a)) ∧ True) (Br (decide ((0 : Int) < (a.2.2.2.1.2.2.2.2.1.length : Int))) ((false = (bareB a)) ∧ True) (∃ c38 : Int, (a.1 = c38) ∧ True ∧ Br (namedB c38) ((true = (bareB a)) ∧ True) (((a.2.2.2.2.toList == ByteArray.empty.toList) = (bareB a)) ∧ True))))))) False) False) False) (∃ c59 : Int, (a.1 = c59) ∧ True ∧ Br (namedB c59) ((true = (bareB a)) ∧ True) (((a.2.2.2.2.toList == ByteArray.empty.toList) = (bareB a)) ∧ True)))) (Br (a.1 != (5 : Int)) (Br (Nat.ble (a.2.2.2.1.1.size + a.2.2.2.1.2.1.size) 9223372036854775807) (Br (Nat.ble ((a.2.2.2.1.1 ++ a.2.2.2.1.2.1).size + a.2.2.2.1.2.2.2.2.2.1.size) 9223372036854775807) (Br (Nat.ble (((a.2.2.2.1.1 ++ a.2.2.2.1.2.1) ++ a.2.2.2.1.2.2.2.2.2.1).size + a.2.2.2.1.2.2.2.2.2.2.1.size) 9223372036854775807) (Br (!((((a.2.2.2.1.1 ++ a.2.2.2.1.2.1) ++ a.2.2.2.1.2.2.2.2.2.1) ++ a.2.2.2.1.2.2.2.2.2.2.1).toList == ByteArray.empty.toList)) ((false = (bareB a)) ∧ True) (Br (a.2.2.2.1.2.2.1 != (0 : Int)) ((false = (bareB a)) ∧ True) (Br (a.2.2.2.1.2.2.2.2.2.2.2 != (0 : Int)) ((false = (bareB a)) ∧ True) (Br (!((a.2.2.2.1.2.2.2.1.1 == (0 : Int)) && ((a.2.2.2.1.2.2.2.1.2.1 == (0 : Int)) && (a.2.2.2.1.2.2.2.1.2.2 == (0 : Int))))) ((false = (bareB a)) ∧ True) (Br (decide ((0 : Int) < (a.2.2.2.1.2.2.2.2.1.length : Int))) ((false = (bareB a)) ∧ True) (∃ c91 : Int, (a.1 = c91) ∧ True ∧ Br (namedB c91) ((true = (bareB a)) ∧ True) (((a.2.2.2.2.toList == ByteArray.empty.toList) = (bareB a)) ∧ True))))))) False) False) False) (∃ c112 : Int, (a.1 = c112) ∧ True ∧ Br (namedB c112) ((true = (bareB a)) ∧ True) (((a.2.2.2.2.toList == ByteArray.empty.toList) = (bareB a)) ∧ True))))))) (Br (a.1 != (3 : Int)) (Br (!((a.2.2.1.1.toList == ByteArray.empty.toList) && ((a.2.2.1.2.1 == (0 : Int)) && ((a.2.2.1.2.2.1 == (0 : Int)) && (a.2.2.1.2.2.2 == (0 : Int)))))) ((false = (bareB a)) ∧ True) (Br (a.1 != (5 : Int)) (Br (Nat.ble (a.2.2.2.1.1.size + a.2.2.2.1.2.1.size) 9223372036854775807) (Br (Nat.ble ((a.2.2.2.1.1 ++ a.2.2.2.1.2.1).size + a.2.2.2.1.2.2.2.2.2.1.size) 9223372036854775807) (Br (Nat.ble (((a.2.2.2.1.1 ++ a.2.2.2.1.2.1) ++ a.2.2.2.1.2.2.2.2.2.1).size + a.2.2.2.1.2.2.2.2.2.2.1.size) 9223372036854775807) (Br (!((((a.2.2.2.1.1 ++ a.2.2.2.1.2.1) ++ a.2.2.2.1.2.2.2.2.2.1) ++ a.2.2.2.1.2.2.2.2.2.2.1).toList == ByteArray.empty.toList)) ((false = (bareB a)) ∧ True) (Br (a.2.2.2.1.2.2.1 != (0 : Int)) ((false = (bareB a)) ∧ True) (Br (a.2.2.2.1.2.2.2.2.2.2.2 != (0 : Int)) ((false = (bareB a)) ∧ True) (Br (!((a.2.2.2.1.2.2.2.1.1 == (0 : Int)) && ((a.2.2.2.1.2.2.2.1.2.1 == (0 : Int)) && (a.2.2.2.1.2.2.2.1.2.2 == (0 : Int))))) ((false = (bareB a)) ∧ True) (Br (decide ((0 : Int) < (a.2.2.2.1.2.2.2.2.1.length : Int))) ((false = (bareB a)) ∧ True) (∃ c155 : Int, (a.1 = c155) ∧ True ∧ Br (namedB c155) ((true = (bareB a)) ∧ True) (((a.2.2.2.2.toList == ByteArray.empty.toList) = (bareB a)) ∧ True))))))) False) False) False) (∃ c176 : Int, (a.1 = c176) ∧ True ∧ Br (namedB c176) ((true = (bareB a)) ∧ True) (((a.2.2.2.2.toList == ByteArray.empty.toList) = (bareB a)) ∧ True)))) (Br (a.1 != (5 : Int)) (Br (Nat.ble (a.2.2.2.1.1.size + a.2.2.2.1.2.1.size) 9223372036854775807) (Br (Nat.ble ((a.2.2.2.1.1 ++ a.2.2.2.1.2.1).size + a.2.2.2.1.2.2.2.2.2.1.size) 9223372036854775807) (Br (Nat.ble (((a.2.2.2.1.1 ++ a.2.2.2.1.2.1) ++ a.2.2.2.1.2.2.2.2.2.1).size + a.2.2.2.1.2.2.2.2.2.2.1.size) 9223372036854775807) (Br (!((((a.2.2.2.1.1 ++ a.2.2.2.1.2.1) ++ a.2.2.2.1.2.2.2.2.2.1) ++ a.2.2.2.1.2.2.2.2.2.2.1).toList == ByteArray.empty.toList)) ((false = (bareB a)) ∧ True) (Br (a.2.2.2.1.2.2.1 != (0 : Int)) ((false = (bareB a)) ∧ True) (Br (a.2.2.2.1.2.2.2.2.2.2.2 != (0 : Int)) ((false = (bareB a)) ∧ True) (Br (!((a.2.2.2.1.2.2.2.1.1 == (0 : Int)) && ((a.2.2.2.1.2.2.2.1.2.1 == (0 : Int)) && (a.2.2.2.1.2.2.2.1.2.2 == (0 : Int))))) ((false = (bareB a)) ∧ True) (Br (decide ((0 : Int) < (a.2.2.2.1.2.2.2.2.1.length : Int))) ((false = (bareB a)) ∧ True) (∃ c208 : Int, (a.1 = c208) ∧ True ∧ Br (namedB c208) ((true = (bareB a)) ∧ True) (((a.2.2.2.2.toList == ByteArray.empty.toList) = (bareB a)) ∧ True))))))) False) False) False) (∃ c229 : Int, (a.1 = c229) ∧ True ∧ Br (namedB c229) ((true = (bareB a)) ∧ True) (((a.2.2.2.2.toList == ByteArray.empty.toList) = (bareB a)) ∧ True))))) ∧ (∃ x1 : Unit, (a.1 = a.1) ∧ (a.2.1.1 = a.2.1.1) ∧ (a.2.1.2.1.1 = a.2.1.2.1.1) ∧ (a.2.1.2.1.2.1 = a.2.1.2.1.2.1) ∧ (a.2.1.2.1.2.2 = a.2.1.2.1.2.2) ∧ (a.2.1.2.2.length = a.2.1.2.2.length) ∧ (∀ i, i < a.2.1.2.2.length → DEqs ((gl e_api_Label a.2.1.2.2) i) ((gl e_api_Label a.2.1.2.2) i)) ∧ (a.2.2.1.1 = a.2.2.1.1) ∧ (a.2.2.1.2.1 = a.2.2.1.2.1) ∧ (a.2.2.1.2.2.1 = a.2.2.1.2.2.1) ∧ (a.2.2.1.2.2.2 = a.2.2.1.2.2.2) ∧ (a.2.2.2.1.1 = a.2.2.2.1.1) ∧ (a.2.2.2.1.2.1 = a.2.2.2.1.2.1) ∧ (a.2.2.2.1.2.2.1 = a.2.2.2.1.2.2.1) ∧ (a.2.2.2.1.2.2.2.1.1 = a.2.2.2.1.2.2.2.1.1) ∧ (a.2.2.2.1.2.2.2.1.2.1 = a.2.2.2.1.2.2.2.1.2.1) ∧ (a.2.2.2.1.2.2.2.1.2.2 = a.2.2.2.1.2.2.2.1.2.2) ∧ (a.2.2.2.1.2.2.2.2.1.length = a.2.2.2.1.2.2.2.2.1.length) ∧ (∀ i, i < a.2.2.2.1.2.2.2.2.1.length → DEqs ((gl e_api_Label a.2.2.2.1.2.2.2.2.1) i) ((gl e_api_Label a.2.2.2.1.2.2.2.2.1) i)) ∧ (a.2.2.2.1.2.2.2.2.2.1 = a.2.2.2.1.2.2.2.2.2.1) ∧ (a.2.2.2.1.2.2.2.2.2.2.1 = a.2.2.2.1.2.2.2.2.2.2.1) ∧ (a.2.2.2.1.2.2.2.2.2.2.2 = a.2.2.2.1.2.2.2.2.2.2.2) ∧ (a.2.2.2.2 = a.2.2.2.2) ∧ (a.2.1.1 = a.2.1.1) ∧ (a.2.1.2.1.1 = a.2.1.2.1.1) ∧ (a.2.1.2.1.2.1 = a.2.1.2.1.2.1) ∧ (a.2.1.2.1.2.2 = a.2.1.2.1.2.2) ∧ (a.2.1.2.2.length = a.2.1.2.2.length) ∧ (∀ i, i < a.2.1.2.2.length → DEqs ((gl e_api_Label a.2.1.2.2) i) ((gl e_api_Label a.2.1.2.2) i)) ∧ (a.2.2.2.1.1 = a.2.2.2.1.1) ∧ (a.2.2.2.1.2.1 = a.2.2.2.1.2.1) ∧ (a.2.2.2.1.2.2.1 = a.2.2.2.1.2.2.1) ∧ (a.2.2.2.1.2.2.2.1.1 = a.2.2.2.1.2.2.2.1.1) ∧ (a.2.2.2.1.2.2.2.1.2.1 = a.2.2.2.1.2.2.2.1.2.1) ∧ (a.2.2.2.1.2.2.2.1.2.2 = a.2.2.2.1.2.2.2.1.2.2) ∧ (a.2.2.2.1.2.2.2.2.1.length = a.2.2.2.1.2.2.2.2.1.length) ∧ (∀ i, i < a.2.2.2.1.2.2.2.2.1.length → DEqs ((gl e_api_Label a.2.2.2.1.2.2.2.2.1) i) ((gl e_api_Label a.2.2.2.1.2.2.2.2.1) i)) ∧ (a.2.2.2.1.2.2.2.2.2.1 = a.2.2.2.1.2.2.2.2.2.1) ∧ (a.2.2.2.1.2.2.2.2.2.2.1 = a.2.2.2.1.2.2.2.2.2.2.1) ∧ (a.2.2.2.1.2.2.2.2.2.2.2 = a.2.2.2.1.2.2.2.2.2.2.2) ∧ Br (a.1 != (1 : Int)) (Br (!(a.2.1.1.toList == ByteArray.empty.toList)) ((false = (bareB a)) ∧ True) (Br (!((a.2.1.2.1.1 == (0 : Int)) && ((a.2.1.2.1.2.1 == (0 : Int)) && (a.2.1.2.1.2.2 == (0 : Int))))) ((false = (bareB a)) ∧ True) (Br (decide ((0 : Int) < (a.2.1.2.2.length : Int))) ((false = (bareB a)) ∧ True) (Br (a.1 != (3 : Int)) (Br (!((a.2.2.1.1.toList == ByteArray.empty.toList) && ((a.2.2.1.2.1 == (0 : Int)) && ((a.2.2.1.2.2.1 == (0 : Int)) && (a.2.2.1.2.2.2 == (0 : Int)))))) ((false = (bareB a)) ∧ True) (Br (a.1 != (5 : Int)) (Br (Nat.ble (a.2.2.2.1.1.size + a.2.2.2.1.2.1.size) 9223372036854775807) (Br (Nat.ble ((a.2.2.2.1.1 ++ a.2.2.2.1.2.1).size + a.2.2.2.1.2.2.2.2.2.1.size) 9223372036854775807) (Br (Nat.ble (((a.2.2.2.1.1 ++ a.2.2.2.1.2.1) ++ a.2.2.2.1.2.2.2.2.2.1).size + a.2.2.2.1.2.2.2.2.2.2.1.size) 9223372036854775807) (Br (!((((a.2.2.2.1.1 ++ a.2.2.2.1.2.1) ++ a.2.2.2.1.2.2.2.2.2.1) ++ a.2.2.2.1.2.2.2.2.2.2.1).toList == ByteArray.empty.toList)) ((false = (bareB a)) ∧ True) (Br (a.2.2.2.1.2.2.1 != (0 : Int)) ((false = (bareB a)) ∧ True) (Br (a.2.2.2.1.2.2.2.2.2.2.2 != (0 : Int)) ((false = (bareB a)) ∧ True) (Br (!((a.2.2.2.1.2.2.2.1.1 == (0 : Int)) && ((a.2.2.2.1.2.2.2.1.2.1 == (0 : Int)) && (a.2.2.2.1.2.2.2.1.2.2 == (0 : Int))))) ((false = (bareB a)) ∧ True) (Br (decide ((0 : Int) < (a.2.2.2.1.2.2.2.2.1.length : Int))) ((false = (bareB a)) ∧ True) (∃ c38 : Int, (a.1 = c38) ∧ True ∧ Br (namedB c38) ((true = (bareB a)) ∧ True) (((a.2.2.2.2.toList == ByteArray.empty.toList) = (bareB a)) ∧ True))))))) False) False) False) (∃ c59 : Int, (a.1 = c59) ∧ True ∧ Br (namedB c59) ((true = (bareB a)) ∧ True) (((a.2.2.2.2.toList == ByteArray.empty.toList) = (bareB a)) ∧ True)))) (Br (a.1 != (5 : Int)) (Br (Nat.ble (a.2.2.2.1.1.size + a.2.2.2.1.2.1.size) 9223372036854775807) (Br (Nat.ble ((a.2.2.2.1.1 ++ a.2.2.2.1.2.1).size + a.2.2.2.1.2.2.2.2.2.1.size) 9223372036854775807) (Br (Nat.ble (((a.2.2.2.1.1 ++ a.2.2.2.1.2.1) ++ a.2.2.2.1.2.2.2.2.2.1).size + a.2.2.2.1.2.2.2.2.2.2.1.size) 9223372036854775807) (Br (!((((a.2.2.2.1.1 ++ a.2.2.2.1.2.1) ++ a.2.2.2.1.2.2.2.2.2.1) ++ a.2.2.2.1.2.2.2.2.2.2.1).toList == ByteArray.empty.toList)) ((false = (bareB a)) ∧ True) (Br (a.2.2.2.1.2.2.1 != (0 : Int)) ((false = (bareB a)) ∧ True) (Br (a.2.2.2.1.2.2.2.2.2.2.2 != (0 : Int)) ((false = (bareB a)) ∧ True) (Br (!((a.2.2.2.1.2.2.2.1.1 == (0 : Int)) && ((a.2.2.2.1.2.2.2.1.2.1 == (0 : Int)) && (a.2.2.2.1.2.2.2.1.2.2 == (0 : Int))))) ((false = (bareB a)) ∧ True) (Br (decide ((0 : Int) < (a.2.2.2.1.2.2.2.2.1.length : Int))) ((false = (bareB a)) ∧ True) (∃ c91 : Int, (a.1 = c91) ∧ True ∧ Br (namedB c91) ((true = (bareB a)) ∧ True) (((a.2.2.2.2.toList == ByteArray.empty.toList) = (bareB a)) ∧ True))))))) False) False) False) (∃ c112 : Int, (a.1 = c112) ∧ True ∧ Br (namedB c112) ((true = (bareB a)) ∧ True) (((a.2.2.2.2.toList == ByteArray.empty.toList) = (bareB a)) ∧ True))))))) (Br (a.1 != (3 : Int)) (Br (!((a.2.2.1.1.toList == ByteArray.empty.toList) && ((a.2.2.1.2.1 == (0 : Int)) && ((a.2.2.1.2.2.1 == (0 : Int)) && (a.2.2.1.2.2.2 == (0 : Int)))))) ((false = (bareB a)) ∧ True) (Br (a.1 != (5 : Int)) (Br (Nat.ble (a.2.2.2.1.1.size + a.2.2.2.1.2.1.size) 9223372036854775807) (Br (Nat.ble ((a.2.2.2.1.1 ++ a.2.2.2.1.2.1).size + a.2.2.2.1.2.2.2.2.2.1.size) 9223372036854775807) (Br (Nat.ble (((a.2.2.2.1.1 ++ a.2.2.2.1.2.1) ++ a.2.2.2.1.2.2.2.2.2.1).size + a.2.2.2.1.2.2.2.2.2.2.1.size) 9223372036854775807) (Br (!((((a.2.2.2.1.1 ++ a.2.2.2.1.2.1) ++ a.2.2.2.1.2.2.2.2.2.1) ++ a.2.2.2.1.2.2.2.2.2.2.1).toList == ByteArray.empty.toList)) ((false = (bareB a)) ∧ True) (Br (a.2.2.2.1.2.2.1 != (0 : Int)) ((false = (bareB a)) ∧ True) (Br (a.2.2.2.1.2.2.2.2.2.2.2 != (0 : Int)) ((false = (bareB a)) ∧ True) (Br (!((a.2.2.2.1.2.2.2.1.1 == (0 : Int)) && ((a.2.2.2.1.2.2.2.1.2.1 == (0 : Int)) && (a.2.2.2.1.2.2.2.1.2.2 == (0 : Int))))) ((false = (bareB a)) ∧ True) (Br (decide ((0 : Int) < (a.2.2.2.1.2.2.2.2.1.length : Int))) ((false = (bareB a)) ∧ True) (∃ c155 : Int, (a.1 = c155) ∧ True ∧ Br (namedB c155) ((true = (bareB a)) ∧ True) (((a.2.2.2.2.toList == ByteArray.empty.toList) = (bareB a)) ∧ True))))))) False) False) False) (∃ c176 : Int, (a.1 = c176) ∧ True ∧ Br (namedB c176) ((true = (bareB a)) ∧ True) (((a.2.2.2.2.toList == ByteArray.empty.toList) = (bareB a)) ∧ True)))) (Br (a.1 != (5 : Int)) (Br (Nat.ble (a.2.2.2.1.1.size + a.2.2.2.1.2.1.size) 9223372036854775807) (Br (Nat.ble ((a.2.2.2.1.1 ++ a.2.2.2.1.2.1).size + a.2.2.2.1.2.2.2.2.2.1.size) 9223372036854775807) (Br (Nat.ble (((a.2.2.2.1.1 ++ a.2.2.2.1.2.1) ++ a.2.2.2.1.2.2.2.2.2.1).size + a.2.2.2.1.2.2.2.2.2.2.1.size) 9223372036854775807) (Br (!((((a.2.2.2.1.1 ++ a.2.2.2.1.2.1) ++ a.2.2.2.1.2.2.2.2.2.1) ++ a.2.2.2.1.2.2.2.2.2.2.1).toList == ByteArray.empty.toList)) ((false = (bareB a)) ∧ True) (Br (a.2.2.2.1.2.2.1 != (0 : Int)) ((false = (bareB a)) ∧ True) (Br (a.2.2.2.1.2.2.2.2.2.2.2 != (0 : Int)) ((false = (bareB a)) ∧ True) (Br (!((a.2.2.2.1.2.2.2.1.1 == (0 : Int)) && ((a.2.2.2.1.2.2.2.1.2.1 == (0 : Int)) && (a.2.2.2.1.2.2.2.1.2.2 == (0 : Int))))) ((false = (bareB a)) ∧ True) (Br (decide ((0 : Int) < (a.2.2.2.1.2.2.2.2.1.length : Int))) ((false = (bareB a)) ∧ True) (∃ c208 : Int, (a.1 = c208) ∧ True ∧ Br (namedB c208) ((true = (bareB a)) ∧ True) (((a.2.2.2.2.toList == ByteArray.empty.toList) = (bareB a)) ∧ True))))))) False) False) False) (∃ c229 : Int, (a.1 = c229) ∧ True ∧ Br (namedB c229) ((true = (bareB a)) ∧ True) (((a.2.2.2.2.toList == ByteArray.empty.toList) = (bareB a)) ∧ True)))))
def f172.vc (a : T_api_Op) : Prop := ((¬ a.1 = (1 : Int) → ((¬ (a.2.1.1 = ByteArray.empty) → (false = bareB a)) ∧ (¬ (¬ (a.2.1.1 = ByteArray.empty)) → ((¬ (a.2.1.2.1.1 = (0 : Int) ∧ a.2.1.2.1.2.1 = (0 : Int) ∧ a.2.1.2.1.2.2 = (0 : Int)) → (false = bareB a)) ∧ (¬ (¬ (a.2.1.2.1.1 = (0 : Int) ∧ a.2.1.2.1.2.1 = (0 : Int) ∧ a.2.1.2.1.2.2 = (0 : Int))) → (((0 : Int) < (a.2.1.2.2.length : Int) → (false = bareB a)) ∧ (¬ ((0 : Int) < (a.2.1.2.2.length : Int)) → ((¬ a.1 = (3 : Int) → ((¬ (a.2.2.1.1 = ByteArray.empty ∧ a.2.2.1.2.1 = (0 : Int) ∧ a.2.2.1.2.2.1 = (0 : Int) ∧ a.2.2.1.2.2.2 = (0 : Int)) → (false = bareB a)) ∧ (¬ (¬ (a.2.2.1.1 = ByteArray.empty ∧ a.2.2.1.2.1 = (0 : Int) ∧ a.2.2.1.2.2.1 = (0 : Int) ∧ a.2.2.1.2.2.2 = (0 : Int))) → ((¬ a.1 = (5 : Int) → ((a.2.2.2.1.1.size + a.2.2.2.1.2.1.size ≤ 9223372036854775807) ∧ (((a.2.2.2.1.1 ++ a.2.2.2.1.2.1).size + a.2.2.2.1.2.2.2.2.2.1.size ≤ 9223372036854775807) ∧ ((((a.2.2.2.1.1 ++ a.2.2.2.1.2.1) ++ a.2.2.2.1.2.2.2.2.2.1).size + a.2.2.2.1.2.2.2.2.2.2.1.size ≤ 9223372036854775807) ∧ ((¬ ((((a.2.2.2.1.1 ++ a.2.2.2.1.2.1) ++ a.2.2.2.1.2.2.2.2.2.1) ++ a.2.2.2.1.2.2.2.2.2.2.1) = ByteArray.empty) → (false = bareB a)) ∧ (¬ (¬ ((((a.2.2.2.1.1 ++ a.2.2.2.1.2.1) ++ a.2.2.2.1.2.2.2.2.2.1) ++ a.2.2.2.1.2.2.2.2.2.2.1) = ByteArray.empty)) → ((¬ a.2.2.2.1.2.2.1 = (0 : Int) → (false = bareB a)) ∧ (¬ (¬ a.2.2.2.1.2.2.1 = (0 : Int)) → ((¬ a.2.2.2.1.2.2.2.2.2.2.2 = (0 : Int) → (false = bareB a)) ∧ (¬ (¬ a.2.2.2.1.2.2.2.2.2.2.2 = (0 : Int)) → ((¬ (a.2.2.2.1.2.2.2.1.1 = (0 : Int) ∧ a.2.2.2.1.2.2.2.1.2.1 = (0 : Int) ∧ a.2.2.2.1.2.2.2.1.2.2 = (0 : Int)) → (false = bareB a)) ∧ (¬ (¬ (a.2.2.2.1.2.2.2.1.1 = (0 : Int) ∧ a.2.2.2.1.2.2.2.1.2.1 = (0 : Int) ∧ a.2.2.2.1.2.2.2.1.2.2 = (0 : Int))) → (((0 : Int) < (a.2.2.2.1.2.2.2.2.1.length : Int) → (false = bareB a)) ∧ (¬ ((0 : Int) < (a.2.2.2.1.2.2.2.2.1.length : Int)) → (((namedB (a.1)) = true → (true = bareB a)) ∧ (¬ ((namedB (a.1)) = true) → ((a.2.2.2.2.toList == ByteArray.empty.toList) = bareB a))))))))))))))))) ∧ (¬ (¬ a.1 = (5 : Int)) → (((namedB (a.1)) = true → (true = bareB a)) ∧ (¬ ((namedB (a.1)) = true) → ((a.2.2.2.2.toList == ByteArray.empty.toList) = bareB a)))))))) ∧ (¬ (¬ a.1 = (3 : Int)) → ((¬ a.1 = (5 : Int) → ((a.2.2.2.1.1.size + a.2.2.2.1.2.1.size ≤ 9223372036854775807) ∧ (((a.2.2.2.1.1 ++ a.2.2.2.1.2.1).size + a.2.2.2.1.2.2.2.2.2.1.size ≤ 9223372036854775807) ∧ ((((a.2.2.2.1.1 ++ a.2.2.2.1.2.1) ++ a.2.2.2.1.2.2.2.2.2.1).size + a.2.2.2.1.2.2.2.2.2.2.1.size ≤ 9223372036854775807) ∧ ((¬ ((((a.2.2.2.1.1 ++ a.2.2.2.1.2.1) ++ a.2.2.2.1.2.2.2.2.2.1) ++ a.2.2.2.1.2.2.2.2.2.2.1) = ByteArray.empty) → (false = bareB a)) ∧ (¬ (¬ ((((a.2.2.2.1.1 ++ a.2.2.2.1.2.1) ++ a.2.2.2.1.2.2.2.2.2.1) ++ a.2.2.2.1.2.2.2.2.2.2.1) = ByteArray.empty)) → ((¬ a.2.2.2.1.2.2.1 = (0 : Int) → (false = bareB a)) ∧ (¬ (¬ a.2.2.2.1.2.2.1 = (0 : Int)) → ((¬ a.2.2.2.1.2.2.2.2.2.2.2 = (0 : Int) → (false = bareB a)) ∧ (¬ (¬ a.2.2.2.1.2.2.2.2.2.2.2 = (0 : Int)) → ((¬ (a.2.2.2.1.2.2.2.1.1 = (0 : Int) ∧ a.2.2.2.1.2.2.2.1.2.1 = (0 : Int) ∧ a.2.2.2.1.2.2.2.1.2.2 = (0 : Int)) → (false = bareB a)) ∧ (¬ (¬ (a.2.2.2.1.2.2.2.1.1 = (0 : Int) ∧ a.2.2.2.1.2.2.2.1.2.1 = (0 : Int) ∧ a.2.2.2.1.2.2.2.1.2.2 = (0 : Int))) → (((0 : Int) < (a.2.2.2.1.2.2.2.2.1.length : Int) → (false = bareB a)) ∧ (¬ ((0 : Int) < (a.2.2.2.1.2.2.2.2.1.length : Int)) → (((namedB (a.1)) = true → (true = bareB a)) ∧ (¬ ((namedB (a.1)) = true) → ((a.2.2.2.2.toList == ByteArray.empty.toList) = bareB a))))))))))))))))) ∧ (¬ (¬ a.1 = (5 : Int)) → (((namedB (a.1)) = true → (true = bareB a)) ∧ (¬ ((namedB (a.1)) = true) → ((a.2.2.2.2.toList == ByteArray.empty.toList) = bareB a)))))))))))))) ∧ (¬ (¬ a.1 = (1 : Int)) → ((¬ a.1 = (3 : Int) → ((¬ (a.2.2.1.1 = ByteArray.empty ∧ a.2.2.1.2.1 = (0 : Int) ∧ a.2.2.1.2.2.1 = (0 : Int) ∧ a.2.2.1.2.2.2 = (0 : Int)) → (false = bareB a)) ∧ (¬ (¬ (a.2.2.1.1 = ByteArray.empty ∧ a.2.2.1.2.1 = (0 : Int) ∧ a.2.2.1.2.2.1 = (0 : Int) ∧ a.2.2.1.2.2.2 = (0 : Int))) → ((¬ a.1 = (5 : Int) → ((a.2.2.2.1.1.size + a.2.2.2.1.2.1.size ≤ 9223372036854775807) ∧ (((a.2.2.2.1.1 ++ a.2.2.2.1.2.1).size + a.2.2.2.1.2.2.2.2.2.1.size ≤ 9223372036854775807) ∧ ((((a.2.2.2.1.1 ++ a.2.2.2.1.2.1) ++ a.2.2.2.1.2.2.2.2.2.1).size + a.2.2.2.1.2.2.2.2.2.2.1.size ≤ 9223372036854775807) ∧ ((¬ ((((a.2.2.2.1.1 ++ a.2.2.2.1.2.1) ++ a.2.2.2.1.2.2.2.2.2.1) ++ a.2.2.2.1.2.2.2.2.2.2.1) = ByteArray.empty) → (false = bareB a)) ∧ (¬ (¬ ((((a.2.2.2.1.1 ++ a.2.2.2.1.2.1) ++ a.2.2.2.1.2.2.2.2.2.1) ++ a.2.2.2.1.2.2.2.2.2.2.1) = ByteArray.empty)) → ((¬ a.2.2.2.1.2.2.1 = (0 : Int) → (false = bareB a)) ∧ (¬ (¬ a.2.2.2.1.2.2.1 = (0 : Int)) → ((¬ a.2.2.2.1.2.2.2.2.2.2.2 = (0 : Int) → (false = bareB a)) ∧ (¬ (¬ a.2.2.2.1.2.2.2.2.2.2.2 = (0 : Int)) → ((¬ (a.2.2.2.1.2.2.2.1.1 = (0 : Int) ∧ a.2.2.2.1.2.2.2.1.2.1 = (0 : Int) ∧ a.2.2.2.1.2.2.2.1.2.2 = (0 : Int)) → (false = bareB a)) ∧ (¬ (¬ (a.2.2.2.1.2.2.2.1.1 = (0 : Int) ∧ a.2.2.2.1.2.2.2.1.2.1 = (0 : Int) ∧ a.2.2.2.1.2.2.2.1.2.2 = (0 : Int))) → (((0 : Int) < (a.2.2.2.1.2.2.2.2.1.length : Int) → (false = bareB a)) ∧ (¬ ((0 : Int) < (a.2.2.2.1.2.2.2.2.1.length : Int)) → (((namedB (a.1)) = true → (true = bareB a)) ∧ (¬ ((namedB (a.1)) = true) → ((a.2.2.2.2.toList == ByteArray.empty.toList) = bareB a))))))))))))))))) ∧ (¬ (¬ a.1 = (5 : Int)) → (((namedB (a.1)) = true → (true = bareB a)) ∧ (¬ ((namedB (a.1)) = true) → ((a.2.2.2.2.toList == ByteArray.empty.toList) = bareB a)))))))) ∧ (¬ (¬ a.1 = (3 : Int)) → ((¬ a.1 = (5 : Int) → ((a.2.2.2.1.1.size + a.2.2.2.1.2.1.size ≤ 9223372036854775807) ∧ (((a.2.2.2.1.1 ++ a.2.2.2.1.2.1).size + a.2.2.2.1.2.2.2.2.2.1.size ≤ 9223372036854775807) ∧ ((((a.2.2.2.1.1 ++ a.2.2.2.1.2.1) ++ a.2.2.2.1.2.2.2.2.2.1).size + a.2.2.2.1.2.2.2.2.2.2.1.size ≤ 9223372036854775807) ∧ ((¬ ((((a.2.2.2.1.1 ++ a.2.2.2.1.2.1) ++ a.2.2.2.1.2.2.2.2.2.1) ++ a.2.2.2.1.2.2.2.2.2.2.1) = ByteArray.empty) → (false = bareB a)) ∧ (¬ (¬ ((((a.2.2.2.1.1 ++ a.2.2.2.1.2.1) ++ a.2.2.2.1.2.2.2.2.2.1) ++ a.2.2.2.1.2.2.2.2.2.2.1) = ByteArray.empty)) → ((¬ a.2.2.2.1.2.2.1 = (0 : Int) → (false = bareB a)) ∧ (¬ (¬ a.2.2.2.1.2.2.1 = (0 : Int)) → ((¬ a.2.2.2.1.2.2.2.2.2.2.2 = (0 : Int) → (false = bareB a)) ∧ (¬ (¬ a.2.2.2.1.2.2.2.2.2.2.2 = (0 : Int)) → ((¬ (a.2.2.2.1.2.2.2.1.1 = (0 : Int) ∧ a.2.2.2.1.2.2.2.1.2.1 = (0 : Int) ∧ a.2.2.2.1.2.2.2.1.2.2 = (0 : Int)) → (false = bareB a)) ∧ (¬ (¬ (a.2.2.2.1.2.2.2.1.1 = (0 : Int) ∧ a.2.2.2.1.2.2.2.1.2.1 = (0 : Int) ∧ a.2.2.2.1.2.2.2.1.2.2 = (0 : Int))) → (((0 : Int) < (a.2.2.2.1.2.2.2.2.1.length : Int) → (false = bareB a)) ∧ (¬ ((0 : Int) < (a.2.2.2.1.2.2.2.2.1.length : Int)) → (((namedB (a.1)) = true → (true = bareB a)) ∧ (¬ ((namedB (a.1)) = true) → ((a.2.2.2.2.toList == ByteArray.empty.toList) = bareB a))))))))))))))))) ∧ (¬ (¬ a.1 = (5 : Int)) → (((namedB (a.1)) = true → (true = bareB a)) ∧ (¬ ((namedB (a.1)) = true) → ((a.2.2.2.2.toList == ByteArray.empty.toList) = bareB a)))))))))
set_option maxRecDepth 100000 in
set_option maxHeartbeats 2000000 in
theorem f172.of (a : T_api_Op) (h : f172.vc a) : f172.tree a := ⟨⟨(), ⟨rfl, ⟨rfl, ⟨rfl, ⟨rfl, ⟨rfl, slK (Rds.self (enc := e_api_Label)) (⟨rfl, ⟨rfl, ⟨rfl, ⟨rfl, ⟨rfl, ⟨rfl, ⟨rfl, ⟨rfl, ⟨rfl, ⟨rfl, slK (Rds.self (enc := e_api_Label)) (⟨rfl, ⟨rfl, ⟨rfl, ⟨rfl, ⟨rfl, ⟨rfl, ⟨rfl, ⟨rfl, slK (Rds.self (enc := e_api_Label)) (⟨rfl, ⟨rfl, ⟨rfl, ⟨rfl, ⟨rfl, ⟨rfl, slK (Rds.self (enc := e_api_Label)) (⟨rfl, ⟨rfl, ⟨rfl, br h Cnd.ne (fun h2 k241 => br k241 (Cnd.not Cnd.seq) (fun h4 k128 => ⟨k128, trivial⟩) (fun h5 k129 => br k129 (Cnd.not (Cnd.and Cnd.eq (Cnd.and Cnd.eq Cnd.eq))) (fun h7 k126 => ⟨k126, trivial⟩) (fun h8 k127 => br k127 Cnd.dec (fun h10 k124 => ⟨k124, trivial⟩) (fun h11 k125 => br k125 Cnd.ne (fun h13 k122 => br k122 (Cnd.not (Cnd.and Cnd.seq (Cnd.and Cnd.eq (Cnd.and Cnd.eq Cnd.eq)))) (fun h15 k69 => ⟨k69, trivial⟩) (fun h16 k70 => br k70 Cnd.ne (fun h18 k67 => chk k67.2 Cnd.ble k67.1 (fun h20 k58 => chk k58.2 Cnd.ble k58.1 (fun h21 k57 => chk k57.2 Cnd.ble k57.1 (fun h22 k56 => br k56 (Cnd.not Cnd.seq) (fun h23 k54 => ⟨k54, trivial⟩) (fun h24 k55 => br k55 Cnd.ne (fun h26 k52 => ⟨k52, trivial⟩) (fun h27 k53 => br k53 Cnd.ne (fun h29 k50 => ⟨k50, trivial⟩) (fun h30 k51 => br k51 (Cnd.not (Cnd.and Cnd.eq (Cnd.and Cnd.eq Cnd.eq))) (fun h32 k48 => ⟨k48, trivial⟩) (fun h33 k49 => br k49 Cnd.dec (fun h35 k46 => ⟨k46, trivial⟩) (fun h36 k47 => ⟨a.1, ⟨rfl, ⟨trivial, br k47 Cnd.b (fun h39 k43 => ⟨k43, trivial⟩) (fun h40 k44 => ⟨k44, trivial⟩)⟩⟩⟩))))))))) (fun h19 k68 => ⟨a.1, ⟨rfl, ⟨trivial, br k68 Cnd.b (fun h60 k64 => ⟨k64, trivial⟩) (fun h61 k65 => ⟨k65, trivial⟩)⟩⟩⟩))) (fun h14 k123 => br k123 Cnd.ne (fun h71 k120 => chk k120.2 Cnd.ble k120.1 (fun h73 k111 => chk k111.2 Cnd.ble k111.1 (fun h74 k110 => chk k110.2 Cnd.ble k110.1 (fun h75 k109 => br k109 (Cnd.not Cnd.seq) (fun h76 k107 => ⟨k107, trivial⟩) (fun h77 k108 => br k108 Cnd.ne (fun h79 k105 => ⟨k105, trivial⟩) (fun h80 k106 => br k106 Cnd.ne (fun h82 k103 => ⟨k103, trivial⟩) (fun h83 k104 => br k104 (Cnd.not (Cnd.and Cnd.eq (Cnd.and Cnd.eq Cnd.eq))) (fun h85 k101 => ⟨k101, trivial⟩) (fun h86 k102 => br k102 Cnd.dec (fun h88 k99 => ⟨k99, trivial⟩) (fun h89 k100 => ⟨a.1, ⟨rfl, ⟨trivial, br k100 Cnd.b (fun h92 k96 => ⟨k96, trivial⟩) (fun h93 k97 => ⟨k97, trivial⟩)⟩⟩⟩))))))))) (fun h72 k121 => ⟨a.1, ⟨rfl, ⟨trivial, br k121 Cnd.b (fun h113 k117 => ⟨k117, trivial⟩) (fun h114 k118 => ⟨k118, trivial⟩)⟩⟩⟩)))))) (fun h3 k242 => br k242 Cnd.ne (fun h130 k239 => br k239 (Cnd.not (Cnd.and Cnd.seq (Cnd.and Cnd.eq (Cnd.and Cnd.eq Cnd.eq)))) (fun h132 k186 => ⟨k186, trivial⟩) (fun h133 k187 => br k187 Cnd.ne (fun h135 k184 => chk k184.2 Cnd.ble k184.1 (fun h137 k175 => chk k175.2 Cnd.ble k175.1 (fun h138 k174 => chk k174.2 Cnd.ble k174.1 (fun h139 k173 => br k173 (Cnd.not Cnd.seq) (fun h140 k171 => ⟨k171, trivial⟩) (fun h141 k172 => br k172 Cnd.ne (fun h143 k169 => ⟨k169, trivial⟩) (fun h144 k170 => br k170 Cnd.ne (fun h146 k167 => ⟨k167, trivial⟩) (fun h147 k168 => br k168 (Cnd.not (Cnd.and Cnd.eq (Cnd.and Cnd.eq Cnd.eq))) (fun h149 k165 => ⟨k165, trivial⟩) (fun h150 k166 => br k166 Cnd.dec (fun h152 k163 => ⟨k163, trivial⟩) (fun h153 k164 => ⟨a.1, ⟨rfl, ⟨trivial, br k164 Cnd.b (fun h156 k160 => ⟨k160, trivial⟩) (fun h157 k161 => ⟨k161, trivial⟩)⟩⟩⟩))))))))) (fun h136 k185 => ⟨a.1, ⟨rfl, ⟨trivial, br k185 Cnd.b (fun h177 k181 => ⟨k181, trivial⟩) (fun h178 k182 => ⟨k182, trivial⟩)⟩⟩⟩))) (fun h131 k240 => br k240 Cnd.ne (fun h188 k237 => chk k237.2 Cnd.ble k237.1 (fun h190 k228 => chk k228.2 Cnd.ble k228.1 (fun h191 k227 => chk k227.2 Cnd.ble k227.1 (fun h192 k226 => br k226 (Cnd.not Cnd.seq) (fun h193 k224 => ⟨k224, trivial⟩) (fun h194 k225 => br k225 Cnd.ne (fun h196 k222 => ⟨k222, trivial⟩) (fun h197 k223 => br k223 Cnd.ne (fun h199 k220 => ⟨k220, trivial⟩) (fun h200 k221 => br k221 (Cnd.not (Cnd.and Cnd.eq (Cnd.and Cnd.eq Cnd.eq))) (fun h202 k218 => ⟨k218, trivial⟩) (fun h203 k219 => br k219 Cnd.dec (fun h205 k216 => ⟨k216, trivial⟩) (fun h206 k217 => ⟨a.1, ⟨rfl, ⟨trivial, br k217 Cnd.b (fun h209 k213 => ⟨k213, trivial⟩) (fun h210 k214 => ⟨k214, trivial⟩)⟩⟩⟩))))))))) (fun h189 k238 => ⟨a.1, ⟨rfl, ⟨trivial, br k238 Cnd.b (fun h230 k234 => ⟨k234, trivial⟩) (fun h231 k235 => ⟨k235, trivial⟩)⟩⟩⟩)))⟩⟩⟩)⟩⟩⟩⟩⟩⟩)⟩⟩⟩⟩⟩⟩⟩⟩)⟩⟩⟩⟩⟩⟩⟩⟩⟩⟩)⟩⟩⟩⟩⟩⟩, ⟨(), ⟨rfl, ⟨rfl, ⟨rfl, ⟨rfl, ⟨rfl, slK (Rds.self (enc := e_api_Label)) (⟨rfl, ⟨rfl, ⟨rfl, ⟨rfl, ⟨rfl, ⟨rfl, ⟨rfl, ⟨rfl, ⟨rfl, ⟨rfl, slK (Rds.self (enc := e_api_Label)) (⟨rfl, ⟨rfl, ⟨rfl, ⟨rfl, ⟨rfl, ⟨rfl, ⟨rfl, ⟨rfl, slK (Rds.self (enc := e_api_Label)) (⟨rfl, ⟨rfl, ⟨rfl, ⟨rfl, ⟨rfl, ⟨rfl, slK (Rds.self (enc := e_api_Label)) (⟨rfl, ⟨rfl, ⟨rfl, br h Cnd.ne (fun h2 k241 => br k241 (Cnd.not Cnd.seq) (fun h4 k128 => ⟨k128, trivial⟩) (fun h5 k129 => br k129 (Cnd.not (Cnd.and Cnd.eq (Cnd.and Cnd.eq Cnd.eq))) (fun h7 k126 => ⟨k126, trivial⟩) (fun h8 k127 => br k127 Cnd.dec (fun h10 k124 => ⟨k124, trivial⟩) (fun h11 k125 => br k125 Cnd.ne (fun h13 k122 => br k122 (Cnd.not (Cnd.and Cnd.seq (Cnd.and Cnd.eq (Cnd.and Cnd.eq Cnd.eq)))) (fun h15 k69 => ⟨k69, trivial⟩) (fun h16 k70 => br k70 Cnd.ne (fun h18 k67 => chk k67.2 Cnd.ble k67.1 (fun h20 k58 => chk k58.2 Cnd.ble k58.1 (fun h21 k57 => chk k57.2 Cnd.ble k57.1 (fun h22 k56 => br k56 (Cnd.not Cnd.seq) (fun h23 k54 => ⟨k54, trivial⟩) (fun h24 k55 => br k55 Cnd.ne (fun h26 k52 => ⟨k52, trivial⟩) (fun h27 k53 => br k53 Cnd.ne (fun h29 k50 => ⟨k50, trivial⟩) (fun h30 k51 => br k51 (Cnd.not (Cnd.and Cnd.eq (Cnd.and Cnd.eq Cnd.eq))) (fun h32 k48 => ⟨k48, trivial⟩) (fun h33 k49 => br k49 Cnd.dec (fun h35 k46 => ⟨k46, trivial⟩) (fun h36 k47 => ⟨a.1, ⟨rfl, ⟨trivial, br k47 Cnd.b (fun h39 k43 => ⟨k43, trivial⟩) (fun h40 k44 => ⟨k44, trivial⟩)⟩⟩⟩))))))))) (fun h19 k68 => ⟨a.1, ⟨rfl, ⟨trivial, br k68 Cnd.b (fun h60 k64 => ⟨k64, trivial⟩) (fun h61 k65 => ⟨k65, trivial⟩)⟩⟩⟩))) (fun h14 k123 => br k123 Cnd.ne (fun h71 k120 => chk k120.2 Cnd.ble k120.1 (fun h73 k111 => chk k111.2 Cnd.ble k111.1 (fun h74 k110 => chk k110.2 Cnd.ble k110.1 (fun h75 k109 => br k109 (Cnd.not Cnd.seq) (fun h76 k107 => ⟨k107, trivial⟩) (fun h77 k108 => br k108 Cnd.ne (fun h79 k105 => ⟨k105, trivial⟩) (fun h80 k106 => br k106 Cnd.ne (fun h82 k103 => ⟨k103, trivial⟩) (fun h83 k104 => br k104 (Cnd.not (Cnd.and Cnd.eq (Cnd.and Cnd.eq Cnd.eq))) (fun h85 k101 => ⟨k101, trivial⟩) (fun h86 k102 => br k102 Cnd.dec (fun h88 k99 => ⟨k99, trivial⟩) (fun h89 k100 => ⟨a.1, ⟨rfl, ⟨trivial, br k100 Cnd.b (fun h92 k96 => ⟨k96, trivial⟩) (fun h93 k97 => ⟨k97, trivial⟩)⟩⟩⟩))))))))) (fun h72 k121 => ⟨a.1, ⟨rfl, ⟨trivial, br k121 Cnd.b (fun h113 k117 => ⟨k117, trivial⟩) (fun h114 k118 => ⟨k118, trivial⟩)⟩⟩⟩)))))) (fun h3 k242 => br k242 Cnd.ne (fun h130 k239 => br k239 (Cnd.not (Cnd.and Cnd.seq (Cnd.and Cnd.eq (Cnd.and Cnd.eq Cnd.eq)))) (fun h132 k186 => ⟨k186, trivial⟩) (fun h133 k187 => br k187 Cnd.ne (fun h135 k184 => chk k184.2 Cnd.ble k184.1 (fun h137 k175 => chk k175.2 Cnd.ble k175.1 (fun h138 k174 => chk k174.2 Cnd.ble k174.1 (fun h139 k173 => br k173 (Cnd.not Cnd.seq) (fun h140 k171 => ⟨k171, trivial⟩) (fun h141 k172 => br k172 Cnd.ne (fun h143 k169 => ⟨k169, trivial⟩) (fun h144 k170 => br k170 Cnd.ne (fun h146 k167 => ⟨k167, trivial⟩) (fun h147 k168 => br k168 (Cnd.not (Cnd.and Cnd.eq (Cnd.and Cnd.eq Cnd.eq))) (fun h149 k165 => ⟨k165, trivial⟩) (fun h150 k166 => br k166 Cnd.dec (fun h152 k163 => ⟨k163, trivial⟩) (fun h153 k164 => ⟨a.1, ⟨rfl, ⟨trivial, br k164 Cnd.b (fun h156 k160 => ⟨k160, trivial⟩) (fun h157 k161 => ⟨k161, trivial⟩)⟩⟩⟩))))))))) (fun h136 k185 => ⟨a.1, ⟨rfl, ⟨trivial, br k185 Cnd.b (fun h177 k181 => ⟨k181, trivial⟩) (fun h178 k182 => ⟨k182, trivial⟩)⟩⟩⟩))) (fun h131 k240 => br k240 Cnd.ne (fun h188 k237 => chk k237.2 Cnd.ble k237.1 (fun h190 k228 => chk k228.2 Cnd.ble k228.1 (fun h191 k227 => chk k227.2 Cnd.ble k227.1 (fun h192 k226 => br k226 (Cnd.not Cnd.seq) (fun h193 k224 => ⟨k224, trivial⟩) (fun h194 k225 => br k225 Cnd.ne (fun h196 k222 => ⟨k222, trivial⟩) (fun h197 k223 => br k223 Cnd.ne (fun h199 k220 => ⟨k220, trivial⟩) (fun h200 k221 => br k221 (Cnd.not (Cnd.and Cnd.eq (Cnd.and Cnd.eq Cnd.eq))) (fun h202 k218 => ⟨k218, trivial⟩) (fun h203 k219 => br k219 Cnd.dec (fun h205 k216 => ⟨k216, trivial⟩) (fun h206 k217 => ⟨a.1, ⟨rfl, ⟨trivial, br k217 Cnd.b (fun h209 k213 => ⟨k213, trivial⟩) (fun h210 k214 => ⟨k214, trivial⟩)⟩⟩⟩))))))))) (fun h189 k238 => ⟨a.1, ⟨rfl, ⟨trivial, br k238 Cnd.b (fun h230 k234 => ⟨k234, trivial⟩) (fun h231 k235 => ⟨k235, trivial⟩)⟩⟩⟩)))⟩⟩⟩)⟩⟩⟩⟩⟩⟩)⟩⟩⟩⟩⟩⟩⟩⟩)⟩⟩⟩⟩⟩⟩⟩⟩⟩⟩)⟩⟩⟩⟩⟩⟩⟩
theorem f172.eq (a : T_api_Op) : (f172.af a).gives f172.env (f172.args a) (f172.blks a) (f172.res a) (f172.blks' a) = f172.tree a := by kernel_rfl
end Go.Abs

-- interregnum/oper.Right
namespace Go.Abs
open Go
def f152.args (a : T_api_Op) : List D := [.agg [.int .i64 a.1, .str a.2.1.1, .int .i64 a.2.1.2.1.1, .int .i64 a.2.1.2.1.2.1, .int .i64 a.2.1.2.1.2.2, .slice .ro 2 a.2.1.2.2.length (gl e_api_Label a.2.1.2.2), .str a.2.2.1.1, .int .i64 a.2.2.1.2.1, .int .i64 a.2.2.1.2.2.1, .int .i64 a.2.2.1.2.2.2, .str a.2.2.2.1.1, .str a.2.2.2.1.2.1, .int .i64 a.2.2.2.1.2.2.1, .int .i64 a.2.2.2.1.2.2.2.1.1, .int .i64 a.2.2.2.1.2.2.2.1.2.1, .int .i64 a.2.2.2.1.2.2.2.1.2.2, .slice .ro 2 a.2.2.2.1.2.2.2.2.1.length (gl e_api_Label a.2.2.2.1.2.2.2.2.1), .str a.2.2.2.1.2.2.2.2.2.1, .str a.2.2.2.1.2.2.2.2.2.2.1, .int .i64 a.2.2.2.1.2.2.2.2.2.2.2, .str a.2.2.2.2]]
def f152.blks (a : T_api_Op) : List (List D) := []
def f152.res (a : T_api_Op) : List D := [.bool (rightO a)]
def f152.blks' (a : T_api_Op) : List (List D) := []
def f152.C : Contract := FnC f152.args f152.blks (fun a => op_pre a) f152.res f152.blks'
end Go.Abs

/- interregnum/oper.Right -/
namespace Go.Abs
open Go
set_option linter.unusedVariables false
def f152.kills (a : T_api_Op) : List Hint := []
def f152.cuts (a : T_api_Op) : List (Nat × Σ β : Type, β → Tm) := []
def f152.af (a : T_api_Op) : AF := AF.mk (.seq (.region [⟨(some 1), 0, .box, [.t 0], none⟩,
  ⟨(some 2), 1, .move, [.c (.bool false)], none⟩])
 (.seq (.seq (.region [⟨(some 3), 2, (.load true 21), [.t 1], none⟩,
  ⟨(some 4), 3, (.call false 172), [.t 3], none⟩,
  ⟨(some 5), 7, (.un .not), [.t 4], none⟩])
 (.cond (.t 5) (.seq (.region [⟨(some 2), 8, .move, [.c (.bool false)], none⟩])
 (.ret)) (.skip)))
 (.seq (.seq (.region [⟨(some 6), 9, (.fieldAddr 0), [.t 1], none⟩,
  ⟨(some 7), 10, (.load false 1), [.t 6], none⟩])
 (.block 0 (.seq (.region [⟨(some 9), 11, (.bin .eql), [.t 7, .c (.int .i64 (1))], none⟩,
  ⟨(some 8), 12, .move, [.t 9], none⟩])
 (.cond (.t 8) (.seq (.region [⟨(some 10), 13, (.fieldAddr 1), [.t 1], none⟩,
  ⟨(some 11), 14, (.load true 5), [.t 10], none⟩,
  ⟨(some 12), 15, (.call false 35), [.t 11], none⟩,
  ⟨(some 2), 19, .move, [.t 12], none⟩])
 (.ret)) (.seq (.region [⟨(some 14), 20, (.bin .eql), [.t 7, .c (.int .i64 (3))], none⟩,
  ⟨(some 13), 21, .move, [.t 14], none⟩])
 (.cond (.t 13) (.seq (.region [⟨(some 15), 22, (.fieldAddr 6), [.t 1], none⟩,
  ⟨(some 16), 23, (.load true 4), [.t 15], none⟩,
  ⟨(some 17), 24, (.call false 25), [.t 16], none⟩,
  ⟨(some 2), 28, .move, [.t 17], none⟩])
 (.ret)) (.seq (.region [⟨(some 19), 29, (.bin .eql), [.t 7, .c (.int .i64 (5))], none⟩,
  ⟨(some 18), 30, .move, [.t 19], none⟩])
 (.cond (.t 18) (.seq (.region [⟨(some 20), 31, (.fieldAddr 10), [.t 1], none⟩,
  ⟨(some 21), 32, (.load true 10), [.t 20], none⟩,
  ⟨(some 22), 33, (.call false 24), [.t 21], none⟩,
  ⟨(some 2), 37, .move, [.t 22], none⟩])
 (.ret)) (.seq (.region [⟨(some 24), 38, (.bin .eql), [.t 7, .c (.int .i64 (9))], none⟩,
  ⟨(some 23), 39, .move, [.t 24], none⟩])
 (.cond (.t 23) (.seq (.region [⟨(some 2), 40, .move, [.c (.bool true)], none⟩])
 (.ret)) (.skip)))))))))))
 (.seq (.region [⟨(some 25), 41, (.fieldAddr 0), [.t 1], none⟩,
  ⟨(some 26), 42, (.load false 1), [.t 25], none⟩,
  ⟨(some 27), 43, (.call false 173), [.t 26], none⟩,
  ⟨(some 28), 47, .move, [.t 27], none⟩,
  ⟨(some 29), 48, (.fieldAddr 20), [.t 1], (some (28, true))⟩,
  ⟨(some 30), 49, (.load false 1), [.t 29], (some (28, true))⟩,
  ⟨(some 31), 50, (.call false 48), [.t 30], (some (28, true))⟩,
  ⟨(some 32), 54, .pick, [.t 28, .t 31, .c (.bool false)], none⟩,
  ⟨(some 2), 55, .move, [.t 32], none⟩])
 (.ret)))))
  [.tmp 2] 0 32
def f152.env : Env := [(172, f172.C), (35, f35.C), (25, f25.C), (24, f24.C), (173, f173.C), (48, f48.C)]
def f152.tree (a : T_api_Op) : Prop := ∃ c1 : T_api_Op, (a.1 = c1.1) ∧ (a.2.1.1 = c1.2.1.1) ∧ (a.2.1.2.1.1 = c1.2.1.2.1.1) ∧ (a.2.1.2.1.2.1 = c1.2.1.2.1.2.1) ∧ (a.2.1.2.1.2.2 = c1.2.1.2.1.2.2) ∧ (a.2.1.2.2.length = c1.2.1.2.2.length) ∧ (∀ i, i < c1.2.1.2.2.length → DEqs ((gl e_api_Label a.2.1.2.2) i) ((gl e_api_Label c1.2.1.2.2) i)) ∧ (a.2.2.1.1 = c1.2.2.1.1) ∧ (a.2.2.1.2.1 = c1.2.2.1.2.1) ∧ (a.2.2.1.2.2.1 = c1.2.2.1.2.2.1) ∧ (a.2.2.1.2.2.2 = c1.2.2.1.2.2.2) ∧ (a.2.2.2.1.1 = c1.2.2.2.1.1) ∧ (a.2.2.2.1.2.1 = c1.2.2.2.1.2.1) ∧ (a.2.2.2.1.2.2.1 = c1.2.2.2.1.2.2.1) ∧ (a.2.2.2.1.2.2.2.1.1 = c1.2.2.2.1.2.2.2.1.1) ∧ (a.2.2.2.1.2.2.2.1.2.1 = c1.2.2.2.1.2.2.2.1.2.1) ∧ (a.2.2.2.1.2.2.2.1.2.2 = c1.2.2.2.1.2.2.2.1.2.2) ∧ (a.2.2.2.1.2.2.2.2.1.length = c1.2.2.2.1.2.2.2.2.1.length) ∧ (∀ i, i < c1.2.2.2.1.2.2.2.2.1.length → DEqs ((gl e_api_Label a.2.2.2.1.2.2.2.2.1) i) ((gl e_api_Label c1.2.2.2.1.2.2.2.2.1) i)) ∧ (a.2.2.2.1.2.2.2.2.2.1 = c1.2.2.2.1.2.2.2.2.2.1) ∧ (a.2.2.2.1.2.2.2.2.2.2.1 = c1.2.2.2.1.2.2.2.2.2.2.1) ∧ (a.2.2.2.1.2.2.2.2.2.2.2 = c1.2.2.2.1.2.2.2.2.2.2.2) ∧ (a.2.2.2.2 = c1.2.2.2.2) ∧ (op_pre c1) ∧ Br (!(bareB c1)) ((false = (rightO a)) ∧ True) (Br (a.1 == (1 : Int)) (∃ c7 : T_api_Node, (a.2.1.1 = c7.1) ∧ (a.2.1.2.1.1 = c7.2.1.1) ∧ (a.2.1.2.1.2.1 = c7.2.1.2.1) ∧ (a.2.1.2.1.2.2 = c7.2.1.2.2) ∧ (a.2.1.2.2.length = c7.2.2.length) ∧ (∀ i, i < c7.2.2.length → DEqs ((gl e_api_Label a.2.1.2.2) i) ((gl e_api_Label c7.2.2) i)) ∧ (node_pre c7) ∧ ((nodeB c7) = (rightO a)) ∧ True) (Br (a.1 == (3 : Int)) (∃ c12 : T_api_Queue, (a.2.2.1.1 = c12.1) ∧ (a.2.2.1.2.1 = c12.2.1) ∧ (a.2.2.1.2.2.1 = c12.2.2.1) ∧ (a.2.2.1.2.2.2 = c12.2.2.2) ∧ (queue_pre c12) ∧ ((queueB c12) = (rightO a)) ∧ True) (Br (a.1 == (5 : Int)) (∃ c17 : T_api_Task, (a.2.2.2.1.1 = c17.1) ∧ (a.2.2.2.1.2.1 = c17.2.1) ∧ (a.2.2.2.1.2.2.1 = c17.2.2.1) ∧ (a.2.2.2.1.2.2.2.1.1 = c17.2.2.2.1.1) ∧ (a.2.2.2.1.2.2.2.1.2.1 = c17.2.2.2.1.2.1) ∧ (a.2.2.2.1.2.2.2.1.2.2 = c17.2.2.2.1.2.2) ∧ (a.2.2.2.1.2.2.2.2.1.length = c17.2.2.2.2.1.length) ∧ (∀ i, i < c17.2.2.2.2.1.length → DEqs ((gl e_api_Label a.2.2.2.1.2.2.2.2.1) i) ((gl e_api_Label c17.2.2.2.2.1) i)) ∧ (a.2.2.2.1.2.2.2.2.2.1 = c17.2.2.2.2.2.1) ∧ (a.2.2.2.1.2.2.2.2.2.2.1 = c17.2.2.2.2.2.2.1) ∧ (a.2.2.2.1.2.2.2.2.2.2.2 = c17.2.2.2.2.2.2.2) ∧ (task_pre c17) ∧ ((taskB c17) = (rightO a)) ∧ True) (Br (a.1 == (9 : Int)) ((true = (rightO a)) ∧ True) (∃ c23 : Int, (a.1 = c23) ∧ True ∧ Br (namedB c23) (∃ c26 : ByteArray, (a.2.2.2.2 = c26) ∧ (name_pre c26) ∧ ((nameB c26) = (rightO a)) ∧ True) ((false = (rightO a)) ∧ True))))))
def f152.vc (a : T_api_Op) : Prop := (op_pre a ∧ ((¬ ((bareB a) = true) → (false = rightO a)) ∧ (¬ (¬ ((bareB a) = true)) → ((a.1 = (1 : Int) → (node_pre a.2.1 ∧ ((nodeB (a.2.1)) = rightO a))) ∧ (¬ (a.1 = (1 : Int)) → ((a.1 = (3 : Int) → (queue_pre a.2.2.1 ∧ ((queueB (a.2.2.1)) = rightO a))) ∧ (¬ (a.1 = (3 : Int)) → ((a.1 = (5 : Int) → (task_pre a.2.2.2.1 ∧ ((taskB (a.2.2.2.1)) = rightO a))) ∧ (¬ (a.1 = (5 : Int)) → ((a.1 = (9 : Int) → (true = rightO a)) ∧ (¬ (a.1 = (9 : Int)) → (((namedB (a.1)) = true → (name_pre a.2.2.2.2 ∧ ((nameB (a.2.2.2.2)) = rightO a))) ∧ (¬ ((namedB (a.1)) = true) → (false = rightO a))))))))))))))
set_option maxRecDepth 100000 in
set_option maxHeartbeats 2000000 in
theorem f152.of (a : T_api_Op) (h : f152.vc a) : f152.tree a := ⟨a, ⟨rfl, ⟨rfl, ⟨rfl, ⟨rfl, ⟨rfl, slK (Rds.self (enc := e_api_Label)) (⟨rfl, ⟨rfl, ⟨rfl, ⟨rfl, ⟨rfl, ⟨rfl, ⟨rfl, ⟨rfl, ⟨rfl, ⟨rfl, slK (Rds.self (enc := e_api_Label)) (⟨rfl, ⟨rfl, ⟨rfl, ⟨rfl, ⟨h.1, br h.2 (Cnd.not Cnd.b) (fun h2 k41 => ⟨k41, trivial⟩) (fun h3 k42 => br k42 Cnd.eq (fun h5 k39 => ⟨a.2.1, ⟨rfl, ⟨rfl, ⟨rfl, ⟨rfl, slK (Rds.self (enc := e_api_Label)) (⟨k39.1, ⟨k39.2, trivial⟩⟩)⟩⟩⟩⟩⟩) (fun h6 k40 => br k40 Cnd.eq (fun h10 k37 => ⟨a.2.2.1, ⟨rfl, ⟨rfl, ⟨rfl, ⟨rfl, ⟨k37.1, ⟨k37.2, trivial⟩⟩⟩⟩⟩⟩⟩) (fun h11 k38 => br k38 Cnd.eq (fun h15 k35 => ⟨a.2.2.2.1, ⟨rfl, ⟨rfl, ⟨rfl, ⟨rfl, ⟨rfl, ⟨rfl, slK (Rds.self (enc := e_api_Label)) (⟨rfl, ⟨rfl, ⟨rfl, ⟨k35.1, ⟨k35.2, trivial⟩⟩⟩⟩⟩)⟩⟩⟩⟩⟩⟩⟩) (fun h16 k36 => br k36 Cnd.eq (fun h20 k33 => ⟨k33, trivial⟩) (fun h21 k34 => ⟨a.1, ⟨rfl, ⟨trivial, br k34 Cnd.b (fun h24 k30 => ⟨a.2.2.2.2, ⟨rfl, ⟨k30.1, ⟨k30.2, trivial⟩⟩⟩⟩) (fun h25 k31 => ⟨k31, trivial⟩)⟩⟩⟩)))))⟩⟩⟩⟩⟩)⟩⟩⟩⟩⟩⟩⟩⟩⟩⟩)⟩⟩⟩⟩⟩⟩
theorem f152.eq (a : T_api_Op) : (f152.af a).gives f152.env (f152.args a) (f152.blks a) (f152.res a) (f152.blks' a) = f152.tree a := by kernel_rfl
end Go.Abs

-- interregnum/interregnumref06.Right
namespace Go.Abs
open Go
def f279.args (a : T_api_Op) : List D := [.agg [.int .i64 a.1, .str a.2.1.1, .int .i64 a.2.1.2.1.1, .int .i64 a.2.1.2.1.2.1, .int .i64 a.2.1.2.1.2.2, .slice .ro 2 a.2.1.2.2.length (gl e_api_Label a.2.1.2.2), .str a.2.2.1.1, .int .i64 a.2.2.1.2.1, .int .i64 a.2.2.1.2.2.1, .int .i64 a.2.2.1.2.2.2, .str a.2.2.2.1.1, .str a.2.2.2.1.2.1, .int .i64 a.2.2.2.1.2.2.1, .int .i64 a.2.2.2.1.2.2.2.1.1, .int .i64 a.2.2.2.1.2.2.2.1.2.1, .int .i64 a.2.2.2.1.2.2.2.1.2.2, .slice .ro 2 a.2.2.2.1.2.2.2.2.1.length (gl e_api_Label a.2.2.2.1.2.2.2.2.1), .str a.2.2.2.1.2.2.2.2.2.1, .str a.2.2.2.1.2.2.2.2.2.2.1, .int .i64 a.2.2.2.1.2.2.2.2.2.2.2, .str a.2.2.2.2]]
def f279.blks (a : T_api_Op) : List (List D) := []
def f279.res (a : T_api_Op) : List D := [.bool (rightO a)]
def f279.blks' (a : T_api_Op) : List (List D) := []
def f279.C : Contract := FnC f279.args f279.blks (fun a => op_pre a) f279.res f279.blks'
end Go.Abs

-- interregnum/interregnumref06.zeroNode
namespace Go.Abs
open Go
def f312.args (a : T_api_Node) : List D := [.agg [.str a.1, .int .i64 a.2.1.1, .int .i64 a.2.1.2.1, .int .i64 a.2.1.2.2, .slice .ro 2 a.2.2.length (gl e_api_Label a.2.2)]]
def f312.blks (a : T_api_Node) : List (List D) := []
def f312.res (a : T_api_Node) : List D := [.bool (zeroNodeB a)]
def f312.blks' (a : T_api_Node) : List (List D) := []
def f312.C : Contract := FnC f312.args f312.blks (fun a => zeroNode_pre a) f312.res f312.blks'
end Go.Abs

-- interregnum/interregnumref06.zeroTask
namespace Go.Abs
open Go
def f313.args (a : T_api_Task) : List D := [.agg [.str a.1, .str a.2.1, .int .i64 a.2.2.1, .int .i64 a.2.2.2.1.1, .int .i64 a.2.2.2.1.2.1, .int .i64 a.2.2.2.1.2.2, .slice .ro 2 a.2.2.2.2.1.length (gl e_api_Label a.2.2.2.2.1), .str a.2.2.2.2.2.1, .str a.2.2.2.2.2.2.1, .int .i64 a.2.2.2.2.2.2.2]]
def f313.blks (a : T_api_Task) : List (List D) := []
def f313.res (a : T_api_Task) : List D := [.bool (zeroTaskB a)]
def f313.blks' (a : T_api_Task) : List (List D) := []
def f313.C : Contract := FnC f313.args f313.blks (fun a => zeroTask_pre a) f313.res f313.blks'
end Go.Abs

/- interregnum/interregnumref06.Right -/
namespace Go.Abs
open Go
set_option linter.unusedVariables false
def f279.kills (a : T_api_Op) : List Hint := []
def f279.cuts (a : T_api_Op) : List (Nat × Σ β : Type, β → Tm) := []
def f279.af (a : T_api_Op) : AF := AF.mk (.seq (.region [⟨(some 1), 0, .box, [.t 0], none⟩,
  ⟨(some 2), 1, .move, [.c (.bool false)], none⟩])
 (.seq (.seq (.region [⟨(some 3), 2, (.fieldAddr 0), [.t 1], none⟩,
  ⟨(some 4), 3, (.load false 1), [.t 3], none⟩,
  ⟨(some 5), 4, (.bin .lss), [.t 4, .c (.int .i64 (1))], none⟩,
  ⟨(some 6), 5, .move, [.t 5], none⟩,
  ⟨(some 7), 6, (.fieldAddr 0), [.t 1], (some (6, false))⟩,
  ⟨(some 8), 7, (.load false 1), [.t 7], (some (6, false))⟩,
  ⟨(some 9), 8, (.bin .gtr), [.t 8, .c (.int .i64 (9))], (some (6, false))⟩,
  ⟨(some 10), 9, .pick, [.t 6, .c (.bool true), .t 9], none⟩])
 (.cond (.t 10) (.seq (.region [⟨(some 2), 10, .move, [.c (.bool false)], none⟩])
 (.ret)) (.skip)))
 (.seq (.seq (.region [⟨(some 11), 11, (.fieldAddr 0), [.t 1], none⟩,
  ⟨(some 12), 12, (.load false 1), [.t 11], none⟩,
  ⟨(some 13), 13, (.bin .neq), [.t 12, .c (.int .i64 (1))], none⟩,
  ⟨(some 14), 14, .move, [.t 13], none⟩,
  ⟨(some 15), 15, (.fieldAddr 1), [.t 1], (some (14, true))⟩,
  ⟨(some 16), 16, (.load true 5), [.t 15], (some (14, true))⟩,
  ⟨(some 17), 17, (.call false 312), [.t 16], (some (14, true))⟩,
  ⟨(some 18), 21, (.un .not), [.t 17], (some (14, true))⟩,
  ⟨(some 19), 22, .pick, [.t 14, .t 18, .c (.bool false)], none⟩,
  ⟨(some 20), 23, .move, [.t 19], none⟩,
  ⟨(some 21), 24, (.fieldAddr 0), [.t 1], (some (20, false))⟩,
  ⟨(some 22), 25, (.load false 1), [.t 21], (some (20, false))⟩,
  ⟨(some 23), 26, (.bin .neq), [.t 22, .c (.int .i64 (3))], (some (20, false))⟩,
  ⟨(some 24), 27, .move, [.t 23], (some (20, false))⟩,
  ⟨(some 25), 28, (.fieldAddr 6), [.t 1], (some (24, true))⟩,
  ⟨(some 26), 29, (.load true 4), [.t 25], (some (24, true))⟩,
  ⟨(some 27), 30, (.build [.str ByteArray.empty, .int .i64 (0), .int .i64 (0), .int .i64 (0)] []), [], (some (24, true))⟩,
  ⟨(some 28), 31, (.eqAgg true [2, 0, 0, 0]), [.t 26, .t 27], (some (24, true))⟩,
  ⟨(some 29), 32, .pick, [.t 24, .t 28, .c (.bool false)], (some (20, false))⟩,
  ⟨(some 30), 33, .pick, [.t 20, .c (.bool true), .t 29], none⟩,
  ⟨(some 31), 34, .move, [.t 30], none⟩,
  ⟨(some 32), 35, (.fieldAddr 0), [.t 1], (some (31, false))⟩,
  ⟨(some 33), 36, (.load false 1), [.t 32], (some (31, false))⟩,
  ⟨(some 34), 37, (.bin .neq), [.t 33, .c (.int .i64 (5))], (some (31, false))⟩,
  ⟨(some 35), 38, .move, [.t 34], (some (31, false))⟩,
  ⟨(some 36), 39, (.fieldAddr 10), [.t 1], (some (35, true))⟩,
  ⟨(some 37), 40, (.load true 10), [.t 36], (some (35, true))⟩,
  ⟨(some 38), 41, (.call false 313), [.t 37], (some (35, true))⟩,
  ⟨(some 39), 45, (.un .not), [.t 38], (some (35, true))⟩,
  ⟨(some 40), 46, .pick, [.t 35, .t 39, .c (.bool false)], (some (31, false))⟩,
  ⟨(some 41), 47, .pick, [.t 31, .c (.bool true), .t 40], none⟩,
  ⟨(some 42), 48, .move, [.t 41], none⟩,
  ⟨(some 43), 49, (.fieldAddr 0), [.t 1], (some (42, false))⟩,
  ⟨(some 44), 50, (.load false 1), [.t 43], (some (42, false))⟩,
  ⟨(some 45), 51, (.call false 314), [.t 44], (some (42, false))⟩,
  ⟨(some 46), 55, (.un .not), [.t 45], (some (42, false))⟩,
  ⟨(some 47), 56, .move, [.t 46], (some (42, false))⟩,
  ⟨(some 48), 57, (.fieldAddr 20), [.t 1], (some (47, true))⟩,
  ⟨(some 49), 58, (.load false 1), [.t 48], (some (47, true))⟩,
  ⟨(some 50), 59, (.bin .neq), [.t 49, .c (.str ByteArray.empty)], (some (47, true))⟩,
  ⟨(some 51), 60, .pick, [.t 47, .t 50, .c (.bool false)], (some (42, false))⟩,
  ⟨(some 52), 61, .pick, [.t 42, .c (.bool true), .t 51], none⟩])
 (.cond (.t 52) (.seq (.region [⟨(some 2), 62, .move, [.c (.bool false)], none⟩])
 (.ret)) (.skip)))
 (.seq (.seq (.region [⟨(some 53), 63, (.fieldAddr 0), [.t 1], none⟩,
  ⟨(some 54), 64, (.load false 1), [.t 53], none⟩])
 (.block 0 (.seq (.region [⟨(some 56), 65, (.bin .eql), [.t 54, .c (.int .i64 (1))], none⟩,
  ⟨(some 55), 66, .move, [.t 56], none⟩])
 (.cond (.t 55) (.seq (.region [⟨(some 57), 67, (.fieldAddr 1), [.t 1], none⟩,
  ⟨(some 58), 68, (.load true 5), [.t 57], none⟩,
  ⟨(some 59), 69, (.call false 36), [.t 58], none⟩,
  ⟨(some 2), 73, .move, [.t 59], none⟩])
 (.ret)) (.seq (.region [⟨(some 61), 74, (.bin .eql), [.t 54, .c (.int .i64 (3))], none⟩,
  ⟨(some 60), 75, .move, [.t 61], none⟩])
 (.cond (.t 60) (.seq (.region [⟨(some 62), 76, (.fieldAddr 6), [.t 1], none⟩,
  ⟨(some 63), 77, (.load true 4), [.t 62], none⟩,
  ⟨(some 64), 78, (.call false 37), [.t 63], none⟩,
  ⟨(some 2), 82, .move, [.t 64], none⟩])
 (.ret)) (.seq (.region [⟨(some 66), 83, (.bin .eql), [.t 54, .c (.int .i64 (5))], none⟩,
  ⟨(some 65), 84, .move, [.t 66], none⟩])
 (.cond (.t 65) (.seq (.region [⟨(some 67), 85, (.fieldAddr 10), [.t 1], none⟩,
  ⟨(some 68), 86, (.load true 10), [.t 67], none⟩,
  ⟨(some 69), 87, (.call false 38), [.t 68], none⟩,
  ⟨(some 2), 91, .move, [.t 69], none⟩])
 (.ret)) (.seq (.region [⟨(some 71), 92, (.bin .eql), [.t 54, .c (.int .i64 (9))], none⟩,
  ⟨(some 70), 93, .move, [.t 71], none⟩])
 (.cond (.t 70) (.seq (.region [⟨(some 2), 94, .move, [.c (.bool true)], none⟩])
 (.ret)) (.skip)))))))))))
 (.seq (.region [⟨(some 72), 95, (.fieldAddr 20), [.t 1], none⟩,
  ⟨(some 73), 96, (.load false 1), [.t 72], none⟩,
  ⟨(some 74), 97, (.call false 58), [.t 73], none⟩,
  ⟨(some 2), 101, .move, [.t 74], none⟩])
 (.ret))))))
  [.tmp 2] 0 74
def f279.env : Env := [(312, f312.C), (313, f313.C), (314, f314.C), (36, f36.C), (37, f37.C), (38, f38.C), (58, f58.C)]
def f279.tree (a : T_api_Op) : Prop := Br (decide (a.1 < (1 : Int))) ((false = (rightO a)) ∧ True) (Br (decide ((9 : Int) < a.1)) ((false = (rightO a)) ∧ True) (Br (a.1 != (1 : Int)) (∃ c9 : T_api_Node, (a.2.1.1 = c9.1) ∧ (a.2.1.2.1.1 = c9.2.1.1) ∧ (a.2.1.2.1.2.1 = c9.2.1.2.1) ∧ (a.2.1.2.1.2.2 = c9.2.1.2.2) ∧ (a.2.1.2.2.length = c9.2.2.length) ∧ (∀ i, i < c9.2.2.length → DEqs ((gl e_api_Label a.2.1.2.2) i) ((gl e_api_Label c9.2.2) i)) ∧ (zeroNode_pre c9) ∧ Br (!(zeroNodeB c9)) ((false = (rightO a)) ∧ True) (Br (a.1 != (3 : Int)) (Br (!((a.2.2.1.1.toList == ByteArray.empty.toList) && ((a.2.2.1.2.1 == (0 : Int)) && ((a.2.2.1.2.2.1 == (0 : Int)) && (a.2.2.1.2.2.2 == (0 : Int)))))) ((false = (rightO a)) ∧ True) (Br (a.1 != (5 : Int)) (∃ c20 : T_api_Task, (a.2.2.2.1.1 = c20.1) ∧ (a.2.2.2.1.2.1 = c20.2.1) ∧ (a.2.2.2.1.2.2.1 = c20.2.2.1) ∧ (a.2.2.2.1.2.2.2.1.1 = c20.2.2.2.1.1) ∧ (a.2.2.2.1.2.2.2.1.2.1 = c20.2.2.2.1.2.1) ∧ (a.2.2.2.1.2.2.2.1.2.2 = c20.2.2.2.1.2.2) ∧ (a.2.2.2.1.2.2.2.2.1.length = c20.2.2.2.2.1.length) ∧ (∀ i, i < c20.2.2.2.2.1.length → DEqs ((gl e_api_Label a.2.2.2.1.2.2.2.2.1) i) ((gl e_api_Label c20.2.2.2.2.1) i)) ∧ (a.2.2.2.1.2.2.2.2.2.1 = c20.2.2.2.2.2.1) ∧ (a.2.2.2.1.2.2.2.2.2.2.1 = c20.2.2.2.2.2.2.1) ∧ (a.2.2.2.1.2.2.2.2.2.2.2 = c20.2.2.2.2.2.2.2) ∧ (zeroTask_pre c20) ∧ Br (!(zeroTaskB c20)) ((false = (rightO a)) ∧ True) (∃ c24 : Int, (a.1 = c24) ∧ True ∧ Br (!(namedB c24)) (Br (!(a.2.2.2.2.toList == ByteArray.empty.toList)) ((false = (rightO a)) ∧ True) (Br (a.1 == (1 : Int)) (∃ c30 : T_api_Node, (a.2.1.1 = c30.1) ∧ (a.2.1.2.1.1 = c30.2.1.1) ∧ (a.2.1.2.1.2.1 = c30.2.1.2.1) ∧ (a.2.1.2.1.2.2 = c30.2.1.2.2) ∧ (a.2.1.2.2.length = c30.2.2.length) ∧ (∀ i, i < c30.2.2.length → DEqs ((gl e_api_Label a.2.1.2.2) i) ((gl e_api_Label c30.2.2) i)) ∧ (node_pre c30) ∧ ((nodeB c30) = (rightO a)) ∧ True) (Br (a.1 == (3 : Int)) (∃ c33 : T_api_Queue, (a.2.2.1.1 = c33.1) ∧ (a.2.2.1.2.1 = c33.2.1) ∧ (a.2.2.1.2.2.1 = c33.2.2.1) ∧ (a.2.2.1.2.2.2 = c33.2.2.2) ∧ (queue_pre c33) ∧ ((queueB c33) = (rightO a)) ∧ True) (Br (a.1 == (5 : Int)) (∃ c36 : T_api_Task, (a.2.2.2.1.1 = c36.1) ∧ (a.2.2.2.1.2.1 = c36.2.1) ∧ (a.2.2.2.1.2.2.1 = c36.2.2.1) ∧ (a.2.2.2.1.2.2.2.1.1 = c36.2.2.2.1.1) ∧ (a.2.2.2.1.2.2.2.1.2.1 = c36.2.2.2.1.2.1) ∧ (a.2.2.2.1.2.2.2.1.2.2 = c36.2.2.2.1.2.2) ∧ (a.2.2.2.1.2.2.2.2.1.length = c36.2.2.2.2.1.length) ∧ (∀ i, i < c36.2.2.2.2.1.length → DEqs ((gl e_api_Label a.2.2.2.1.2.2.2.2.1) i) ((gl e_api_Label c36.2.2.2.2.1) i)) ∧ (a.2.2.2.1.2.2.2.2.2.1 = c36.2.2.2.2.2.1) ∧ (a.2.2.2.1.2.2.2.2.2.2.1 = c36.2.2.2.2.2.2.1) ∧ (a.2.2.2.1.2.2.2.2.2.2.2 = c36.2.2.2.2.2.2.2) ∧ (task_pre c36) ∧ ((taskB c36) = (rightO a)) ∧ True) (Br (a.1 == (9 : Int)) ((true = (rightO a)) ∧ True) (∃ c42 : ByteArray, (a.2.2.2.2 = c42) ∧ (name_pre c42) ∧ ((nameB c42) = (rightO a)) ∧ True)))))) (Br (a.1 == (1 : Int)) (∃ c49 : T_api_Node, (a.2.1.1 = c49.1) ∧ (a.2.1.2.1.1 = c49.2.1.1) ∧ (a.2.1.2.1.2.1 = c49.2.1.2.1) ∧ (a.2.1.2.1.2.2 = c49.2.1.2.2) ∧ (a.2.1.2.2.length = c49.2.2.length) ∧ (∀ i, i < c49.2.2.length → DEqs ((gl e_api_Label a.2.1.2.2) i) ((gl e_api_Label c49.2.2) i)) ∧ (node_pre c49) ∧ ((nodeB c49) = (rightO a)) ∧ True) (Br (a.1 == (3 : Int)) (∃ c52 : T_api_Queue, (a.2.2.1.1 = c52.1) ∧ (a.2.2.1.2.1 = c52.2.1) ∧ (a.2.2.1.2.2.1 = c52.2.2.1) ∧ (a.2.2.1.2.2.2 = c52.2.2.2) ∧ (queue_pre c52) ∧ ((queueB c52) = (rightO a)) ∧ True) (Br (a.1 == (5 : Int)) (∃ c55 : T_api_Task, (a.2.2.2.1.1 = c55.1) ∧ (a.2.2.2.1.2.1 = c55.2.1) ∧ (a.2.2.2.1.2.2.1 = c55.2.2.1) ∧ (a.2.2.2.1.2.2.2.1.1 = c55.2.2.2.1.1) ∧ (a.2.2.2.1.2.2.2.1.2.1 = c55.2.2.2.1.2.1) ∧ (a.2.2.2.1.2.2.2.1.2.2 = c55.2.2.2.1.2.2) ∧ (a.2.2.2.1.2.2.2.2.1.length = c55.2.2.2.2.1.length) ∧ (∀ i, i < c55.2.2.2.2.1.length → DEqs ((gl e_api_Label a.2.2.2.1.2.2.2.2.1) i) ((gl e_api_Label c55.2.2.2.2.1) i)) ∧ (a.2.2.2.1.2.2.2.2.2.1 = c55.2.2.2.2.2.1) ∧ (a.2.2.2.1.2.2.2.2.2.2.1 = c55.2.2.2.2.2.2.1) ∧ (a.2.2.2.1.2.2.2.2.2.2.2 = c55.2.2.2.2.2.2.2) ∧ (task_pre c55) ∧ ((taskB c55) = (rightO a)) ∧ True) (Br (a.1 == (9 : Int)) ((true = (rightO a)) ∧ True) (∃ c61 : ByteArray, (a.2.2.2.2 = c61) ∧ (name_pre c61) ∧ ((nameB c61) = (rightO a)) ∧ True))))))) (∃ c72 : Int, (a.1 = c72) ∧ True ∧ Br (!(namedB c72)) (Br (!(a.2.2.2.2.toList == ByteArray.empty.toList)) ((false = (rightO a)) ∧ True) (Br (a.1 == (1 : Int)) (∃ c78 : T_api_Node, (a.2.1.1 = c78.1) ∧ (a.2.1.2.1.1 = c78.2.1.1) ∧ (a.2.1.2.1.2.1 = c78.2.1.2.1) ∧ (a.2.1.2.1.2.2 = c78.2.1.2.2) ∧ (a.2.1.2.2.length = c78.2.2.length) ∧ (∀ i, i < c78.2.2.length → DEqs ((gl e_api_Label a.2.1.2.2) i) ((gl e_api_Label c78.2.2) i)) ∧ (node_pre c78) ∧ ((nodeB c78) = (rightO a)) ∧ True) (Br (a.1 == (3 : Int)) (∃ c81 : T_api_Queue, (a.2.2.1.1 = c81.1) ∧ (a.2.2.1.2.1 = c81.2.1) ∧ (a.2.2.1.2.2.1 = c81.2.2.1) ∧ (a.2.2.1.2.2.2 = c81.2.2.2) ∧ (queue_pre c81) ∧ ((queueB c81) = (rightO a)) ∧ True) (Br (a.1 == (5 : Int)) (∃ c84 : T_api_Task, (a.2.2.2.1.1 = c84.1) ∧ (a.2.2.2.1.2.1 = c84.2.1) ∧ (a.2.2.2.1.2.2.1 = c84.2.2.1) ∧ (a.2.2.2.1.2.2.2.1.1 = c84.2.2.2.1.1) ∧ (a.2.2.2.1.2.2.2.1.2.1 = c84.2.2.2.1.2.1) ∧ (a.2.2.2.1.2.2.2.1.2.2 = c84.2.2.2.1.2.2) ∧ (a.2.2.2.1.2.2.2.2.1.length = c84.2.2.2.2.1.length) ∧ (∀ i, i < c84.2.2.2.2.1.length → DEqs ((gl e_api_Label a.2.2.2.1.2.2.2.2.1) i) ((gl e_api_Label c84.2.2.2.2.1) i)) ∧ (a.2.2.2.1.2.2.2.2.2.1 = c84.2.2.2.2.2.1) ∧ (a.2.2.2.1.2.2.2.2.2.2.1 = c84.2.2.2.2.2.2.1) ∧ (a.2.2.2.1.2.2.2.2.2.2.2 = c84.2.2.2.2.2.2.2) ∧ (task_pre c84) ∧ ((taskB c84) = (rightO a)) ∧ True) (Br (a.1 == (9 : Int)) ((true = (rightO a)) ∧ True) (∃ c90 : ByteArray, (a.2.2.2.2 = c90) ∧ (name_pre c90) ∧ ((nameB c90) = (rightO a)) ∧ True)))))) (Br (a.1 == (1 : Int)) (∃ c97 : T_api_Node, (a.2.1.1 = c97.1) ∧ (a.2.1.2.1.1 = c97.2.1.1) ∧ (a.2.1.2.1.2.1 = c97.2.1.2.1) ∧ (a.2.1.2.1.2.2 = c97.2.1.2.2) ∧ (a.2.1.2.2.length = c97.2.2.length) ∧ (∀ i, i < c97.2.2.length → DEqs ((gl e_api_Label a.2.1.2.2) i) ((gl e_api_Label c97.2.2) i)) ∧ (node_pre c97) ∧ ((nodeB c97) = (rightO a)) ∧ True) (Br (a.1 == (3 : Int)) (∃ c100 : T_api_Queue, (a.2.2.1.1 = c100.1) ∧ (a.2.2.1.2.1 = c100.2.1) ∧ (a.2.2.1.2.2.1 = c100.2.2.1) ∧ (a.2.2.1.2.2.2 = c100.2.2.2) ∧ (queue_pre c100) ∧ ((queueB c100) = (rightO a)) ∧ True) (Br (a.1 == (5 : Int)) (∃ c103 : T_api_Task, (a.2.2.2.1.1 = c103.1) ∧ (a.2.2.2.1.2.1 = c103.2.1) ∧ (a.2.2.2.1.2.2.1 = c103.2.2.1) ∧ (a.2.2.2.1.2.2.2.1.1 = c103.2.2.2.1.1) ∧ (a.2.2.2.1.2.2.2.1.2.1 = c103.2.2.2.1.2.1) ∧ (a.2.2.2.1.2.2.2.1.2.2 = c103.2.2.2.1.2.2) ∧ (a.2.2.2.1.2.2.2.2.1.length = c103.2.2.2.2.1.length) ∧ (∀ i, i < c103.2.2.2.2.1.length → DEqs ((gl e_api_Label a.2.2.2.1.2.2.2.2.1) i) ((gl e_api_Label c103.2.2.2.2.1) i)) ∧ (a.2.2.2.1.2.2.2.2.2.1 = c103.2.2.2.2.2.1) ∧ (a.2.2.2.1.2.2.2.2.2.2.1 = c103.2.2.2.2.2.2.1) ∧ (a.2.2.2.1.2.2.2.2.2.2.2 = c103.2.2.2.2.2.2.2) ∧ (task_pre c103) ∧ ((taskB c103) = (rightO a)) ∧ True) (Br (a.1 == (9 : Int)) ((true = (rightO a)) ∧ True) (∃ c109 : ByteArray, (a.2.2.2.2 = c109) ∧ (name_pre c109) ∧ ((nameB c109) = (rightO a)) ∧ True)))))))) (Br (a.1 != (5 : Int)) (∃ c123 : T_api_Task, (a.2.2.2.1.1 = c123.1) ∧ (a.2.2.2.1.2.1 = c123.2.1) ∧ (a.2.2.2.1.2.2.1 = c123.2.2.1) ∧ (a.2.2.2.1.2.2.2.1.1 = c123.2.2.2.1.1) ∧ (a.2.2.2.1.2.2.2.1.2.1 = c123.2.2.2.1.2.1) ∧ (a.2.2.2.1.2.2.2.1.2.2 = c123.2.2.2.1.2.2) ∧ (a.2.2.2.1.2.2.2.2.1.length = c123.2.2.2.2.1.length) ∧ (∀ i, i < c123.2.2.2.2.1.length → DEqs ((gl e_api_Label a.2.2.2.1.2.2.2.2.1) i) ((gl e_api_Label c123.2.2.2.2.1) i)) ∧ (a.2.2.2.1.2.2.2.2.2.1 = c123.2.2.2.2.2.1) ∧ (a.2.2.2.1.2.2.2.2.2.2.1 = c123.2.2.2.2.2.2.1) ∧ (a.2.2.2.1.2.2.2.2.2.2.2 = c123.2.2.2.2.2.2.2) ∧ (zeroTask_pre c123) ∧ Br (!(zeroTaskB c123)) ((false = (rightO a)) ∧ True) (∃ c127 : Int, (a.1 = c127) ∧ True ∧ Br (!(namedB c127)) (Br (!(a.2.2.2.2.toList == ByteArray.empty.toList)) ((false = (rightO a)) ∧ True) (Br (a.1 == (1 : Int)) (∃ c133 : T_api_Node, (a.2.1.1 = c133.1) ∧ (a.2.1.2.1.1 = c133.2.1.1) ∧ (a.2.1.2.1.2.1 = c133.2.1.2.1) ∧ (a.2.1.2.1.2.2 = c133.2.1.2.2) ∧ (a.2.1.2.2.length = c133.2.2.length) ∧ (∀ i, i < c133.2.2.length → DEqs ((gl e_api_Label a.2.1.2.2) i) ((gl e_api_Label c133.2.2) i)) ∧ (node_pre c133) ∧ ((nodeB c133) = (rightO a)) ∧ True) (Br (a.1 == (3 : Int)) (∃ c136 : T_api_Queue, (a.2.2.1.1 = c136.1) ∧ (a.2.2.1.2.1 = c136.2.1) ∧ (a.2.2.1.2.2.1 = c136.2.2.1) ∧ (a.2.2.1.2.2.2 = c136.2.2.2) ∧ (queue_pre c136) ∧ ((queueB c136) = (rightO a)) ∧ True) (Br (a.1 == (5 : Int)) (∃ c139 : T_api_Task, (a.2.2.2.1.1 = c139.1) ∧ (a.2.2.2.1.2.1 = c139.2.1) ∧ (a.2.2.2.1.2.2.1 = c139.2.2.1) ∧ (a.2.2.2.1.2.2.2.1.1 = c139.2.2.2.1.1) ∧ (a.2.2.2.1.2.2.2.1.2.1 = c139.2.2.2.1.2.1) ∧ (a.2.2.2.1.2.2.2.1.2.2 = c139.2.2.2.1.2.2) ∧ (a.2.2.2.1.2.2.2.2.1.length = c139.2.2.2.2.1.length) ∧ (∀ i, i < c139.2.2.2.2.1.length → DEqs ((gl e_api_Label a.2.2.2.1.2.2.2.2.1) i) ((gl e_api_Label c139.2.2.2.2.1) i)) ∧ (a.2.2.2.1.2.2.2.2.2.1 = c139.2.2.2.2.2.1) ∧ (a.2.2.2.1.2.2.2.2.2.2.1 = c139.2.2.2.2.2.2.1) ∧ (a.2.2.2.1.2.2.2.2.2.2.2 = c139.2.2.2.2.2.2.2) ∧ (task_pre c139) ∧ ((taskB c139) = (rightO a)) ∧ True) (Br (a.1 == (9 : Int)) ((true = (rightO a)) ∧ True) (∃ c145 : ByteArray, (a.2.2.2.2 = c145) ∧ (name_pre c145) ∧ ((nameB c145) = (rightO a)) ∧ True)))))) (Br (a.1 == (1 : Int)) (∃ c152 : T_api_Node, (a.2.1.1 = c152.1) ∧ (a.2.1.2.1.1 = c152.2.1.1) ∧ (a.2.1.2.1.2.1 = c152.2.1.2.1) ∧ (a.2.1.2.1.2.2 = c152.2.1.2.2) ∧ (a.2.1.2.2.length = c152.2.2.length) ∧ (∀ i, i < c152.2.2.length → DEqs ((gl e_api_Label a.2.1.2.2) i) ((gl e_api_Label c152.2.2) i)) ∧ (node_pre c152) ∧ ((nodeB c152) = (rightO a)) ∧ True) (Br (a.1 == (3 : Int)) (∃ c155 : T_api_Queue, (a.2.2.1.1 = c155.1) ∧ (a.2.2.1.2.1 = c155.2.1) ∧ (a.2.2.1.2.2.1 = c155.2.2.1) ∧ (a.2.2.1.2.2.2 = c155.2.2.2) ∧ (queue_pre c155) ∧ ((queueB c155) = (rightO a)) ∧ True) (Br (a.1 == (5 : Int)) (∃ c158 : T_api_Task, (a.2.2.2.1.1 = c158.1) ∧ (a.2.2.2.1.2.1 = c158.2.1) ∧ (a.2.2.2.1.2.2.1 = c158.2.2.1) ∧ (a.2.2.2.1.2.2.2.1.1 = c158.2.2.2.1.1) ∧ (a.2.2.2.1.2.2.2.1.2.1 = c158.2.2.2.1.2.1) ∧ (a.2.2.2.1.2.2.2.1.2.2 = c158.2.2.2.1.2.2) ∧ (a.2.2.2.1.2.2.2.2.1.length = c158.2.2.2.2.1.length) ∧ (∀ i, i < c158.2.2.2.2.1.length → DEqs ((gl e_api_Label a.2.2.2.1.2.2.2.2.1) i) ((gl e_api_Label c158.2.2.2.2.1) i)) ∧ (a.2.2.2.1.2.2.2.2.2.1 = c158.2.2.2.2.2.1) ∧ (a.2.2.2.1.2.2.2.2.2.2.1 = c158.2.2.2.2.2.2.1) ∧ (a.2.2.2.1.2.2.2.2.2.2.2 = c158.2.2.2.2.2.2.2) ∧ (task_pre c158) ∧ ((taskB c158) = (rightO a)) ∧ True) (Br (a.1 == (9 : Int)) ((true = (rightO a)) ∧ True) (∃ c164 : ByteArray, (a.2.2.2.2 = c164) ∧ (name_pre c164) ∧ ((nameB c164) = (rightO a)) ∧ True))))))) (∃ c175 : Int, (a.1 = c175) ∧ True ∧ Br (!(namedB c175)) (Br (!(a.2.2.2.2.toList == ByteArray.empty.toList)) ((false = (rightO a)) ∧ True) (Br (a.1 == (1 : Int)) (∃ c181 : T_api_Node, (a.2.1.1 = c181.1) ∧ (a.2.1.2.1.1 = c181.2.1.1) ∧ (a.2.1.2.1.2.1 = c181.2.1.2.1) ∧ (a.2.1.2.1.2.2 = c181.2.1.2.2) ∧ (a.2.1.2.2.length = c181.2.2.length) ∧ (∀ i, i < c181.2.2.length → DEqs ((gl e_api_Label a.2.1.2.2) i) ((gl e_api_Label c181.2.2) i)) ∧ (node_pre c181) ∧ ((nodeB c181) = (rightO a)) ∧ True) (Br (a.1 == (3 : Int)) (∃ c184 : T_api_Queue, (a.2.2.1.1 = c184.1) ∧ (a.2.2.1.2.1 = c184.2.1) ∧ (a.2.2.1.2.2.1 = c184.2.2.1) ∧ (a.2.2.1.2.2.2 = c184.2.2.2) ∧ (queue_pre c184) ∧ ((queueB c184) = (rightO a)) ∧ True) (Br (a.1 == (5 : Int)) (∃ c187 : T_api_Task, (a.2.2.2.1.1 = c187.1) ∧ (a.2.2.2.1.2.1 = c187.2.1) ∧ (a.2.2.2.1.2.2.1 = c187.2.2.1) ∧ (a.2.2.2.1.2.2.2.1.1 = c187.2.2.2.1.1) ∧ (a.2.2.2.1.2.2.2.1.2.1 = c187.2.2.2.1.2.1) ∧ (a.2.2.2.1.2.2.2.1.2.2 = c187.2.2.2.1.2.2) ∧ (a.2.2.2.1.2.2.2.2.1.length = c187.2.2.2.2.1.length) ∧ (∀ i, i < c187.2.2.2.2.1.length → DEqs ((gl e_api_Label a.2.2.2.1.2.2.2.2.1) i) ((gl e_api_Label c187.2.2.2.2.1) i)) ∧ (a.2.2.2.1.2.2.2.2.2.1 = c187.2.2.2.2.2.1) ∧ (a.2.2.2.1.2.2.2.2.2.2.1 = c187.2.2.2.2.2.2.1) ∧ (a.2.2.2.1.2.2.2.2.2.2.2 = c187.2.2.2.2.2.2.2) ∧ (task_pre c187) ∧ ((taskB c187) = (rightO a)) ∧ True) (Br (a.1 == (9 : Int)) ((true = (rightO a)) ∧ True) (∃ c193 : ByteArray, (a.2.2.2.2 = c193) ∧ (name_pre c193) ∧ ((nameB c193) = (rightO a)) ∧ True)))))) (Br (a.1 == (1 : Int)) (∃ c200 : T_api_Node, (a.2.1.1 = c200.1) ∧ (a.2.1.2.1.1 = c200.2.1.1) ∧ (a.2.1.2.1.2.1 = c200.2.1.2.1) ∧ (a.2.1.2.1.2.2 = c200.2.1.2.2) ∧ (a.2.1.2.2.length = c200.2.2.length) ∧ (∀ i, i < c200.2.2.length → DEqs ((gl e_api_Label a.2.1.2.2) i) ((gl e_api_Label c200.2.2) i)) ∧ (node_pre c200) ∧ ((nodeB c200) = (rightO a)) ∧ True) (Br (a.1 == (3 : Int)) (∃ c203 : T_api_Queue, (a.2.2.1.1 = c203.1) ∧ (a.2.2.1.2.1 = c203.2.1) ∧ (a.2.2.1.2.2.1 = c203.2.2.1) ∧ (a.2.2.1.2.2.2 = c203.2.2.2) ∧ (queue_pre c203) ∧ ((queueB c203) = (rightO a)) ∧ True) (Br (a.1 == (5 : Int)) (∃ c206 : T_api_Task, (a.2.2.2.1.1 = c206.1) ∧ (a.2.2.2.1.2.1 = c206.2.1) ∧ (a.2.2.2.1.2.2.1 = c206.2.2.1) ∧ (a.2.2.2.1.2.2.2.1.1 = c206.2.2.2.1.1) ∧ (a.2.2.2.1.2.2.2.1.2.1 = c206.2.2.2.1.2.1) ∧ (a.2.2.2.1.2.2.2.1.2.2 = c206.2.2.2.1.2.2) ∧ (a.2.2.2.1.2.2.2.2.1.length = c206.2.2.2.2.1.length) ∧ (∀ i, i < c206.2.2.2.2.1.length → DEqs ((gl e_api_Label a.2.2.2.1.2.2.2.2.1) i) ((gl e_api_Label c206.2.2.2.2.1) i)) ∧ (a.2.2.2.1.2.2.2.2.2.1 = c206.2.2.2.2.2.1) ∧ (a.2.2.2.1.2.2.2.2.2.2.1 = c206.2.2.2.2.2.2.1) ∧ (a.2.2.2.1.2.2.2.2.2.2.2 = c206.2.2.2.2.2.2.2) ∧ (task_pre c206) ∧ ((taskB c206) = (rightO a)) ∧ True) (Br (a.1 == (9 : Int)) ((true = (rightO a)) ∧ True) (∃ c212 : ByteArray, (a.2.2.2.2 = c212) ∧ (name_pre c212) ∧ ((nameB c212) = (rightO a)) ∧ True))))))))) (Br (a.1 != (3 : Int)) (Br (!((a.2.2.1.1.toList == ByteArray.empty.toList) && ((a.2.2.1.2.1 == (0 : Int)) && ((a.2.2.1.2.2.1 == (0 : Int)) && (a.2.2.1.2.2.2 == (0 : Int)))))) ((false = (rightO a)) ∧ True) (Br (a.1 != (5 : Int)) (∃ c234 : T_api_Task, (a.2.2.2.1.1 = c234.1) ∧ (a.2.2.2.1.2.1 = c234.2.1) ∧ (a.2.2.2.1.2.2.1 = c234.2.2.1) ∧ (a.2.2.2.1.2.2.2.1.1 = c234.2.2.2.1.1) ∧ (a.2.2.2.1.2.2.2.1.2.1 = c234.2.2.2.1.2.1) ∧ (a.2.2.2.1.2.2.2.1.2.2 = c234.2.2.2.1.2.2) ∧ (a.2.2.2.1.2.2.2.2.1.length = c234.2.2.2.2.1.length) ∧ (∀ i, i < c234.2.2.2.2.1.length → DEqs ((gl e_api_Label a.2.2.2.1.2.2.2.2.1) i) ((gl e_api_Label c234.2.2.2.2.1) i)) ∧ (a.2.2.2.1.2.2.2.2.2.1 = c234.2.2.2.2.2.1) ∧ (a.2.2.2.1.2.2.2.2.2.2.1 = c234.2.2.2.2.2.2.1) ∧ (a.2.2.2.1.2.2.2.2.2.2.2 = c234.2.2.2.2.2.2.2) ∧ (zeroTask_pre c234) ∧ Br (!(zeroTaskB c234)) ((false = (rightO a)) ∧ True) (∃ c238 : Int, (a.1 = c238) ∧ True ∧ Br (!(namedB c238)) (Br (!(a.2.2.2.2.toList == ByteArray.empty.toList)) ((false = (rightO a)) ∧ True) (Br (a.1 == (1 : Int)) (∃ c244 : T_api_Node, (a.2.1.1 = c244.1) ∧ (a.2.1.2.1.1 = c244.2.1.1) ∧ (a.2.1.2.1.2.1 = c244.2.1.2.1) ∧ (a.2.1.2.1.2.2 = c244.2.1.2.2) ∧ (a.2.1.2.2.length = c244.2.2.length) ∧ (∀ i, i < c244.2.2.length → DEqs ((gl e_api_Label a.2.1.2.2) i) ((gl e_api_Label c244.2.2) i)) ∧ (node_pre c244) ∧ ((nodeB c244) = (rightO a)) ∧ True) (Br (a.1 == (3 : Int)) (∃ c247 : T_api_Queue, (a.2.2.1.1 = c247.1) ∧ (a.2.2.1.2.1 = c247.2.1) ∧ (a.2.2.1.2.2.1 = c247.2.2.1) ∧ (a.2.2.1.2.2.2 = c247.2.2.2) ∧ (queue_pre c247) ∧ ((queueB c247) = (rightO a)) ∧ True) (Br (a.1 == (5 : Int)) (∃ c250 : T_api_Task, (a.2.2.2.1.1 = c250.1) ∧ (a.2.2.2.1.2.1 = c250.2.1) ∧ (a.2.2.2.1.2.2.1 = c250.2.2.1) ∧ (a.2.2.2.1.2.2.2.1.1 = c250.2.2.2.1.1) ∧ (a.2.2.2.1.2.2.2.1.2.1 = c250.2.2.2.1.2.1) ∧ (a.2.2.2.1.2.2.2.1.2.2 = c250.2.2.2.1.2.2) ∧ (a.2.2.2.1.2.2.2.2.1.length = c250.2.2.2.2.1.length) ∧ (∀ i, i < c250.2.2.2.2.1.length → DEqs ((gl e_api_Label a.2.2.2.1.2.2.2.2.1) i) ((gl e_api_Label c250.2.2.2.2.1) i)) ∧ (a.2.2.2.1.2.2.2.2.2.1 = c250.2.2.2.2.2.1) ∧ (a.2.2.2.1.2.2.2.2.2.2.1 = c250.2.2.2.2.2.2.1) ∧ (a.2.2.2.1.2.2.2.2.2.2.2 = c250.2.2.2.2.2.2.2) ∧ (task_pre c250) ∧ ((taskB c250) = (rightO a)) ∧ True) (Br (a.1 == (9 : Int)) ((true = (rightO a)) ∧ True) (∃ c256 : ByteArray, (a.2.2.2.2 = c256) ∧ (name_pre c256) ∧ ((nameB c256) = (rightO a)) ∧ True)))))) (Br (a.1 == (1 : Int)) (∃ c263 : T_api_Node, (a.2.1.1 = c263.1) ∧ (a.2.1.2.1.1 = c263.2.1.1) ∧ (a.2.1.2.1.2.1 = c263.2.1.2.1) ∧ (a.2.1.2.1.2.2 = c263.2.1.2.2) ∧ (a.2.1.2.2.length = c263.2.2.length) ∧ (∀ i, i < c263.2.2.length → DEqs ((gl e_api_Label a.2.1.2.2) i) ((gl e_api_Label c263.2.2) i)) ∧ (node_pre c263) ∧ ((nodeB c263) = (rightO a)) ∧ True) (Br (a.1 == (3 : Int)) (∃ c266 : T_api_Queue, (a.2.2.1.1 = c266.1) ∧ (a.2.2.1.2.1 = c266.2.1) ∧ (a.2.2.1.2.2.1 = c266.2.2.1) ∧ (a.2.2.1.2.2.2 = c266.2.2.2) ∧ (queue_pre c266) ∧ ((queueB c266) = (rightO a)) ∧ True) (Br (a.1 == (5 : Int)) (∃ c269 : T_api_Task, (a.2.2.2.1.1 = c269.1) ∧ (a.2.2.2.1.2.1 = c269.2.1) ∧ (a.2.2.2.1.2.2.1 = c269.2.2.1) ∧ (a.2.2.2.1.2.2.2.1.1 = c269.2.2.2.1.1) ∧ (a.2.2.2.1.2.2.2.1.2.1 = c269.2.2.2.1.2.1) ∧ (a.2.2.2.1.2.2.2.1.2.2 = c269.2.2.2.1.2.2) ∧ (a.2.2.2.1.2.2.2.2.1.length = c269.2.2.2.2.1.length) ∧ (∀ i, i < c269.2.2.2.2.1.length → DEqs ((gl e_api_Label a.2.2.2.1.2.2.2.2.1) i) ((gl e_api_Label c269.2.2.2.2.1) i)) ∧ (a.2.2.2.1.2.2.2.2.2.1 = c269.2.2.2.2.2.1) ∧ (a.2.2.2.1.2.2.2.2.2.2.1 = c269.2.2.2.2.2.2.1) ∧ (a.2.2.2.1.2.2.2.2.2.2.2 = c269.2.2.2.2.2.2.2) ∧ (task_pre c269) ∧ ((taskB c269) = (rightO a)) ∧ True) (Br (a.1 == (9 : Int)) ((true = (rightO a)) ∧ True) (∃ c275 : ByteArray, (a.2.2.2.2 = c275) ∧ (name_pre c275) ∧ ((nameB c275) = (rightO a)) ∧ True))))))) (∃ c286 : Int, (a.1 = c286) ∧ True ∧ Br (!(namedB c286)) (Br (!(a.2.2.2.2.toList == ByteArray.empty.toList)) ((false = (rightO a)) ∧ True) (Br (a.1 == (1 : Int)) (∃ c292 : T_api_Node, (a.2.1.1 = c292.1) ∧ (a.2.1.2.1.1 = c292.2.1.1) ∧ (a.2.1.2.1.2.1 = c292.2.1.2.1) ∧ (a.2.1.2.1.2.2 = c292.2.1.2.2) ∧ (a.2.1.2.2.length = c292.2.2.length) ∧ (∀ i, i < c292.2.2.length → DEqs ((gl e_api_Label a.2.1.2.2) i) ((gl e_api_Label c292.2.2) i)) ∧ (node_pre c292) ∧ ((nodeB c292) = (rightO a)) ∧ True) (Br (a.1 == (3 : Int)) (∃ c295 : T_api_Queue, (a.2.2.1.1 = c295.1) ∧ (a.2.2.1.2.1 = c295.2.1) ∧ (a.2.2.1.2.2.1 = c295.2.2.1) ∧ (a.2.2.1.2.2.2 = c295.2.2.2) ∧ (queue_pre c295) ∧ ((queueB c295) = (rightO a)) ∧ True) (Br (a.1 == (5 : Int)) (∃ c298 : T_api_Task, (a.2.2.2.1.1 = c298.1) ∧ (a.2.2.2.1.2.1 = c298.2.1) ∧ (a.2.2.2.1.2.2.1 = c298.2.2.1) ∧ (a.2.2.2.1.2.2.2.1.1 = c298.2.2.2.1.1) ∧ (a.2.2.2.1.2.2.2.1.2.1 = c298.2.2.2.1.2.1) ∧ (a.2.2.2.1.2.2.2.1.2.2 = c298.2.2.2.1.2.2) ∧ (a.2.2.2.1.2.2.2.2.1.length = c298.2.2.2.2.1.length) ∧ (∀ i, i < c298.2.2.2.2.1.length → DEqs ((gl e_api_Label a.2.2.2.1.2.2.2.2.1) i) ((gl e_api_Label c298.2.2.2.2.1) i)) ∧ (a.2.2.2.1.2.2.2.2.2.1 = c298.2.2.2.2.2.1) ∧ (a.2.2.2.1.2.2.2.2.2.2.1 = c298.2.2.2.2.2.2.1) ∧ (a.2.2.2.1.2.2.2.2.2.2.2 = c298.2.2.2.2.2.2.2) ∧ (task_pre c298) ∧ ((taskB c298) = (rightO a)) ∧ True) (Br (a.1 == (9 : Int)) ((true = (rightO a)) ∧ True) (∃ c304 : ByteArray, (a.2.2.2.2 = c304) ∧ (name_pre c304) ∧ ((nameB c304) = (rightO a)) ∧ True)))))) (Br (a.1 == (1 : Int)) (∃ c311 : T_api_Node, (a.2.1.1 = c311.1) ∧ (a.2.1.2.1.1 = c311.2.1.1) ∧ (a.2.1.2.1.2.1 = c311.2.1.2.1) ∧ (a.2.1.2.1.2.2 = c311.2.1.2.2) ∧ (a.2.1.2.2.length = c311.2.2.length) ∧ (∀ i, i < c311.2.2.length → DEqs ((gl e_api_Label a.2.1.2.2) i) ((gl e_api_Label c311.2.2) i)) ∧ (node_pre c311) ∧ ((nodeB c311) = (rightO a)) ∧ True) (Br (a.1 == (3 : Int)) (∃ c314 : T_api_Queue, (a.2.2.1.1 = c314.1) ∧ (a.2.2.1.2.1 = c314.2.1) ∧ (a.2.2.1.2.2.1 = c314.2.2.1) ∧ (a.2.2.1.2.2.2 = c314.2.2.2) ∧ (queue_pre c314) ∧ ((queueB c314) = (rightO a)) ∧ True) (Br (a.1 == (5 : Int)) (∃ c317 : T_api_Task, (a.2.2.2.1.1 = c317.1) ∧ (a.2.2.2.1.2.1 = c317.2.1) ∧ (a.2.2.2.1.2.2.1 = c317.2.2.1) ∧ (a.2.2.2.1.2.2.2.1.1 = c317.2.2.2.1.1) ∧ (a.2.2.2.1.2.2.2.1.2.1 = c317.2.2.2.1.2.1) ∧ (a.2.2.2.1.2.2.2.1.2.2 = c317.2.2.2.1.2.2) ∧ (a.2.2.2.1.2.2.2.2.1.length = c317.2.2.2.2.1.length) ∧ (∀ i, i < c317.2.2.2.2.1.length → DEqs ((gl e_api_Label a.2.2.2.1.2.2.2.2.1) i) ((gl e_api_Label c317.2.2.2.2.1) i)) ∧ (a.2.2.2.1.2.2.2.2.2.1 = c317.2.2.2.2.2.1) ∧ (a.2.2.2.1.2.2.2.2.2.2.1 = c317.2.2.2.2.2.2.1) ∧ (a.2.2.2.1.2.2.2.2.2.2.2 = c317.2.2.2.2.2.2.2) ∧ (task_pre c317) ∧ ((taskB c317) = (rightO a)) ∧ True) (Br (a.1 == (9 : Int)) ((true = (rightO a)) ∧ True) (∃ c323 : ByteArray, (a.2.2.2.2 = c323) ∧ (name_pre c323) ∧ ((nameB c323) = (rightO a)) ∧ True)))))))) (Br (a.1 != (5 : Int)) (∃ c337 : T_api_Task, (a.2.2.2.1.1 = c337.1) ∧ (a.2.2.2.1.2.1 = c337.2.1) ∧ (a.2.2.2.1.2.2.1 = c337.2.2.1) ∧ (a.2.2.2.1.2.2.2.1.1 = c337.2.2.2.1.1) ∧ (a.2.2.2.1.2.2.2.1.2.1 = c337.2.2.2.1.2.1) ∧ (a.2.2.2.1.2.2.2.1.2.2 = c337.2.2.2.1.2.2) ∧ (a.2.2.2.1.2.2.2.2.1.length = c337.2.2.2.2.1.length) ∧ (∀ i, i < c337.2.2.2.2.1.length → DEqs ((gl e_api_Label a.2.2.2.1.2.2.2.2.1) i) ((gl e_api_Label c337.2.2.2.2.1) i)) ∧ (a.2.2.2.1.2.2.2.2.2.1 = c337.2.2.2.2.2.1) ∧ (a.2.2.2.1.2.2.2.2.2.2.1 = c337.2.2.2.2.2.2.1) ∧ (a.2.2.2.1.2.2.2.2.2.2.2 = c337.2.2.2.2.2.2.2) ∧ (zeroTask_pre c337) ∧ Br (!(zeroTaskB c337)) ((false = (rightO a)) ∧ True) (∃ c341 : Int, (a.1 = c341) ∧ True ∧ Br (!(namedB c341)) (Br (!(a.2.2.2.2.toList == ByteArray.empty.toList)) ((false = (rightO a)) ∧ True) (Br (a.1 == (1 : Int)) (∃ c347 : T_api_Node, (a.2.1.1 = c347.1) ∧ (a.2.1.2.1.1 = c347.2.1.1) ∧ (a.2.1.2.1.2.1 = c347.2.1.2.1) ∧ (a.2.1.2.1.2.2 = c347.2.1.2.2) ∧ (a.2.1.2.2.length = c347.2.2.length) ∧ (∀ i, i < c347.2.2.length → DEqs ((gl e_api_Label a.2.1.2.2) i) ((gl e_api_Label c347.2.2) i)) ∧ (node_pre c347) ∧ ((nodeB c347) = (rightO a)) ∧ True) (Br (a.1 == (3 : Int)) (∃ c350 : T_api_Queue, (a.2.2.1.1 = c350.1) ∧ (a.2.2.1.2.1 = c350.2.1) ∧ (a.2.2.1.2.2.1 = c350.2.2.1) ∧ (a.2.2.1.2.2.2 = c350.2.2.2) ∧ (queue_pre c350) ∧ ((queueB c350) = (rightO a)) ∧ True) (Br (a.1 == (5 : Int)) (∃ c353 : T_api_Task, (a.2.2.2.1.1 = c353.1) ∧ (a.2.2.2.1.2.1 = c353.2.1) ∧ (a.2.2.2.1.2.2.1 = c353.2.2.1) ∧ (a.2.2.2.1.2.2.2.1.1 = c353.2.2.2.1.1) ∧ (a.2.2.2.1.2.2.2.1.2.1 = c353.2.2.2.1.2.1) ∧ (a.2.2.2.1.2.2.2.1.2.2 = c353.2.2.2.1.2.2) ∧ (a.2.2.2.1.2.2.2.2.1.length = c353.2.2.2.2.1.length) ∧ (∀ i, i < c353.2.2.2.2.1.length → DEqs ((gl e_api_Label a.2.2.2.1.2.2.2.2.1) i) ((gl e_api_Label c353.2.2.2.2.1) i)) ∧ (a.2.2.2.1.2.2.2.2.2.1 = c353.2.2.2.2.2.1) ∧ (a.2.2.2.1.2.2.2.2.2.2.1 = c353.2.2.2.2.2.2.1) ∧ (a.2.2.2.1.2.2.2.2.2.2.2 = c353.2.2.2.2.2.2.2) ∧ (task_pre c353) ∧ ((taskB c353) = (rightO a)) ∧ True) (Br (a.1 == (9 : Int)) ((true = (rightO a)) ∧ True) (∃ c359 : ByteArray, (a.2.2.2.2 = c359) ∧ (name_pre c359) ∧ ((nameB c359) = (rightO a)) ∧ True)))))) (Br (a.1 == (1 : Int)) (∃ c366 : T_api_Node, (a.2.1.1 = c366.1) ∧ (a.2.1.2.1.1 = c366.2.1.1) ∧ (a.2.1.2.1.2.1 = c366.2.1.2.1) ∧ (a.2.1.2.1.2.2 = c366.2.1.2.2) ∧ (a.2.1.2.2.length = c366.2.2.length) ∧ (∀ i, i < c366.2.2.length → DEqs ((gl e_api_Label a.2.1.2.2) i) ((gl e_api_Label c366.2.2) i)) ∧ (node_pre c366) ∧ ((nodeB c366) = (rightO a)) ∧ True) (Br (a.1 == (3 : Int)) (∃ c369 : T_api_Queue, (a.2.2.1.1 = c369.1) ∧ (a.2.2.1.2.1 = c369.2.1) ∧ (a.2.2.1.2.2.1 = c369.2.2.1) ∧ (a.2.2.1.2.2.2 = c369.2.2.2) ∧ (queue_pre c369) ∧ ((queueB c369) = (rightO a)) ∧ True) (Br (a.1 == (5 : Int)) (∃ c372 : T_api_Task, (a.2.2.2.1.1 = c372.1) ∧ (a.2.2.2.1.2.1 = c372.2.1) ∧ (a.2.2.2.1.2.2.1 = c372.2.2.1) ∧ (a.2.2.2.1.2.2.2.1.1 = c372.2.2.2.1.1) ∧ (a.2.2.2.1.2.2.2.1.2.1 = c372.2.2.2.1.2.1) ∧ (a.2.2.2.1.2.2.2.1.2.2 = c372.2.2.2.1.2.2) ∧ (a.2.2.2.1.2.2.2.2.1.length = c372.2.2.2.2.1.length) ∧ (∀ i, i < c372.2.2.2.2.1.length → DEqs ((gl e_api_Label a.2.2.2.1.2.2.2.2.1) i) ((gl e_api_Label c372.2.2.2.2.1) i)) ∧ (a.2.2.2.1.2.2.2.2.2.1 = c372.2.2.2.2.2.1) ∧ (a.2.2.2.1.2.2.2.2.2.2.1 = c372.2.2.2.2.2.2.1) ∧ (a.2.2.2.1.2.2.2.2.2.2.2 = c372.2.2.2.2.2.2.2) ∧ (task_pre c372) ∧ ((taskB c372) = (rightO a)) ∧ True) (Br (a.1 == (9 : Int)) ((true = (rightO a)) ∧ True) (∃ c378 : ByteArray, (a.2.2.2.2 = c378) ∧ (name_pre c378) ∧ ((nameB c378) = (rightO a)) ∧ True))))))) (∃ c389 : Int, (a.1 = c389) ∧ True ∧ Br (!(namedB c389)) (Br (!(a.2.2.2.2.toList == ByteArray.empty.toList)) ((false = (rightO a)) ∧ True) (Br (a.1 == (1 : Int)) (∃ c395 : T_api_Node, (a.2.1.1 = c395.1) ∧ (a.2.1.2.1.1 = c395.2.1.1) ∧ (a.2.1.2.1.2.1 = c395.2.1.2.1) ∧ (a.2.1.2.1.2.2 = c395.2.1.2.2) ∧ (a.2.1.2.2.length = c395.2.2.length) ∧ (∀ i, i < c395.2.2.length → DEqs ((gl e_api_Label a.2.1.2.2) i) ((gl e_api_Label c395.2.2) i)) ∧ (node_pre c395) ∧ ((nodeB c395) = (rightO a)) ∧ True) (Br (a.1 == (3 : Int)) (∃ c398 : T_api_Queue, (a.2.2.1.1 = c398.1) ∧ (a.2.2.1.2.1 = c398.2.1) ∧ (a.2.2.1.2.2.1 = c398.2.2.1) ∧ (a.2.2.1.2.2.2 = c398.2.2.2) ∧ (queue_pre c398) ∧ ((queueB c398) = (rightO a)) ∧ True) (Br (a.1 == (5 : Int)) (∃ c401 : T_api_Task, (a.2.2.2.1.1 = c401.1) ∧ (a.2.2.2.1.2.1 = c401.2.1) ∧ (a.2.2.2.1.2.2.1 = c401.2.2.1) ∧ (a.2.2.2.1.2.2.2.1.1 = c401.2.2.2.1.1) ∧ (a.2.2.2.1.2.2.2.1.2.1 = c401.2.2.2.1.2.1) ∧ (a.2.2.2.1.2.2.2.1.2.2 = c401.2.2.2.1.2.2) ∧ (a.2.2.2.1.2.2.2.2.1.length = c401.2.2.2.2.1.length) ∧ (∀ i, i < c401.2.2.2.2.1.length → DEqs ((gl e_api_Label a.2.2.2.1.2.2.2.2.1) i) ((gl e_api_Label c401.2.2.2.2.1) i)) ∧ (a.2.2.2.1.2.2.2.2.2.1 = c401.2.2.2.2.2.1) ∧ (a.2.2.2.1.2.2.2.2.2.2.1 = c401.2.2.2.2.2.2.1) ∧ (a.2.2.2.1.2.2.2.2.2.2.2 = c401.2.2.2.2.2.2.2) ∧ (task_pre c401) ∧ ((taskB c401) = (rightO a)) ∧ True) (Br (a.1 == (9 : Int)) ((true = (rightO a)) ∧ True) (∃ c407 : ByteArray, (a.2.2.2.2 = c407) ∧ (name_pre c407) ∧ ((nameB c407) = (rightO a)) ∧ True)))))) (Br (a.1 == (1 : Int)) (∃ c414 : T_api_Node, (a.2.1.1 = c414.1) ∧ (a.2.1.2.1.1 = c414.2.1.1) ∧ (a.2.1.2.1.2.1 = c414.2.1.2.1) ∧ (a.2.1.2.1.2.2 = c414.2.1.2.2) ∧ (a.2.1.2.2.length = c414.2.2.length) ∧ (∀ i, i < c414.2.2.length → DEqs ((gl e_api_Label a.2.1.2.2) i) ((gl e_api_Label c414.2.2) i)) ∧ (node_pre c414) ∧ ((nodeB c414) = (rightO a)) ∧ True) (Br (a.1 == (3 : Int)) (∃ c417 : T_api_Queue, (a.2.2.1.1 = c417.1) ∧ (a.2.2.1.2.1 = c417.2.1) ∧ (a.2.2.1.2.2.1 = c417.2.2.1) ∧ (a.2.2.1.2.2.2 = c417.2.2.2) ∧ (queue_pre c417) ∧ ((queueB c417) = (rightO a)) ∧ True) (Br (a.1 == (5 : Int)) (∃ c420 : T_api_Task, (a.2.2.2.1.1 = c420.1) ∧ (a.2.2.2.1.2.1 = c420.2.1) ∧ (a.2.2.2.1.2.2.1 = c420.2.2.1) ∧ (a.2.2.2.1.2.2.2.1.1 = c420.2.2.2.1.1) ∧ (a.2.2.2.1.2.2.2.1.2.1 = c420.2.2.2.1.2.1) ∧ (a.2.2.2.1.2.2.2.1.2.2 = c420.2.2.2.1.2.2) ∧ (a.2.2.2.1.2.2.2.2.1.length = c420.2.2.2.2.1.length) ∧ (∀ i, i < c420.2.2.2.2.1.length → DEqs ((gl e_api_Label a.2.2.2.1.2.2.2.2.1) i) ((gl e_api_Label c420.2.2.2.2.1) i)) ∧ (a.2.2.2.1.2.2.2.2.2.1 = c420.2.2.2.2.2.1) ∧ (a.2.2.2.1.2.2.2.2.2.2.1 = c420.2.2.2.2.2.2.1) ∧ (a.2.2.2.1.2.2.2.2.2.2.2 = c420.2.2.2.2.2.2.2) ∧ (task_pre c420) ∧ ((taskB c420) = (rightO a)) ∧ True) (Br (a.1 == (9 : Int)) ((true = (rightO a)) ∧ True) (∃ c426 : ByteArray, (a.2.2.2.2 = c426) ∧ (name_pre c426) ∧ ((nameB c426) = (rightO a)) ∧ True))))))))))
def f279.vc (a : T_api_Op) : Prop := ((a.1 < (1 : Int) → (false = rightO a)) ∧ (¬ (a.1 < (1 : Int)) → (((9 : Int) < a.1 → (false = rightO a)) ∧ (¬ ((9 : Int) < a.1) → ((¬ a.1 = (1 : Int) → (zeroNode_pre a.2.1 ∧ ((¬ ((zeroNodeB (a.2.1)) = true) → (false = rightO a)) ∧ (¬ (¬ ((zeroNodeB (a.2.1)) = true)) → ((¬ a.1 = (3 : Int) → ((¬ (a.2.2.1.1 = ByteArray.empty ∧ a.2.2.1.2.1 = (0 : Int) ∧ a.2.2.1.2.2.1 = (0 : Int) ∧ a.2.2.1.2.2.2 = (0 : Int)) → (false = rightO a)) ∧ (¬ (¬ (a.2.2.1.1 = ByteArray.empty ∧ a.2.2.1.2.1 = (0 : Int) ∧ a.2.2.1.2.2.1 = (0 : Int) ∧ a.2.2.1.2.2.2 = (0 : Int))) → ((¬ a.1 = (5 : Int) → (zeroTask_pre a.2.2.2.1 ∧ ((¬ ((zeroTaskB (a.2.2.2.1)) = true) → (false = rightO a)) ∧ (¬ (¬ ((zeroTaskB (a.2.2.2.1)) = true)) → ((¬ ((namedB (a.1)) = true) → ((¬ (a.2.2.2.2 = ByteArray.empty) → (false = rightO a)) ∧ (¬ (¬ (a.2.2.2.2 = ByteArray.empty)) → ((a.1 = (9 : Int) → (true = rightO a)) ∧ (¬ (a.1 = (9 : Int)) → (name_pre a.2.2.2.2 ∧ ((nameB (a.2.2.2.2)) = rightO a))))))) ∧ (¬ (¬ ((namedB (a.1)) = true)) → ((a.1 = (9 : Int) → (true = rightO a)) ∧ (¬ (a.1 = (9 : Int)) → (name_pre a.2.2.2.2 ∧ ((nameB (a.2.2.2.2)) = rightO a)))))))))) ∧ (¬ (¬ a.1 = (5 : Int)) → ((¬ ((namedB (a.1)) = true) → ((¬ (a.2.2.2.2 = ByteArray.empty) → (false = rightO a)) ∧ (¬ (¬ (a.2.2.2.2 = ByteArray.empty)) → (task_pre a.2.2.2.1 ∧ ((taskB (a.2.2.2.1)) = rightO a))))) ∧ (¬ (¬ ((namedB (a.1)) = true)) → (task_pre a.2.2.2.1 ∧ ((taskB (a.2.2.2.1)) = rightO a))))))))) ∧ (¬ (¬ a.1 = (3 : Int)) → ((¬ a.1 = (5 : Int) → (zeroTask_pre a.2.2.2.1 ∧ ((¬ ((zeroTaskB (a.2.2.2.1)) = true) → (false = rightO a)) ∧ (¬ (¬ ((zeroTaskB (a.2.2.2.1)) = true)) → ((¬ ((namedB (a.1)) = true) → ((¬ (a.2.2.2.2 = ByteArray.empty) → (false = rightO a)) ∧ (¬ (¬ (a.2.2.2.2 = ByteArray.empty)) → (queue_pre a.2.2.1 ∧ ((queueB (a.2.2.1)) = rightO a))))) ∧ (¬ (¬ ((namedB (a.1)) = true)) → (queue_pre a.2.2.1 ∧ ((queueB (a.2.2.1)) = rightO a)))))))) ∧ (¬ (¬ a.1 = (5 : Int)) → ((¬ ((namedB (a.1)) = true) → ((¬ (a.2.2.2.2 = ByteArray.empty) → (false = rightO a)) ∧ (¬ (¬ (a.2.2.2.2 = ByteArray.empty)) → (queue_pre a.2.2.1 ∧ ((queueB (a.2.2.1)) = rightO a))))) ∧ (¬ (¬ ((namedB (a.1)) = true)) → (queue_pre a.2.2.1 ∧ ((queueB (a.2.2.1)) = rightO a)))))))))))) ∧ (¬ (¬ a.1 = (1 : Int)) → ((¬ a.1 = (3 : Int) → ((¬ (a.2.2.1.1 = ByteArray.empty ∧ a.2.2.1.2.1 = (0 : Int) ∧ a.2.2.1.2.2.1 = (0 : Int) ∧ a.2.2.1.2.2.2 = (0 : Int)) → (false = rightO a)) ∧ (¬ (¬ (a.2.2.1.1 = ByteArray.empty ∧ a.2.2.1.2.1 = (0 : Int) ∧ a.2.2.1.2.2.1 = (0 : Int) ∧ a.2.2.1.2.2.2 = (0 : Int))) → ((¬ a.1 = (5 : Int) → (zeroTask_pre a.2.2.2.1 ∧ ((¬ ((zeroTaskB (a.2.2.2.1)) = true) → (false = rightO a)) ∧ (¬ (¬ ((zeroTaskB (a.2.2.2.1)) = true)) → ((¬ ((namedB (a.1)) = true) → ((¬ (a.2.2.2.2 = ByteArray.empty) → (false = rightO a)) ∧ (¬ (¬ (a.2.2.2.2 = ByteArray.empty)) → (node_pre a.2.1 ∧ ((nodeB (a.2.1)) = rightO a))))) ∧ (¬ (¬ ((namedB (a.1)) = true)) → (node_pre a.2.1 ∧ ((nodeB (a.2.1)) = rightO a)))))))) ∧ (¬ (¬ a.1 = (5 : Int)) → ((¬ ((namedB (a.1)) = true) → ((¬ (a.2.2.2.2 = ByteArray.empty) → (false = rightO a)) ∧ (¬ (¬ (a.2.2.2.2 = ByteArray.empty)) → (node_pre a.2.1 ∧ ((nodeB (a.2.1)) = rightO a))))) ∧ (¬ (¬ ((namedB (a.1)) = true)) → (node_pre a.2.1 ∧ ((nodeB (a.2.1)) = rightO a))))))))) ∧ (¬ (¬ a.1 = (3 : Int)) → ((¬ a.1 = (5 : Int) → (zeroTask_pre a.2.2.2.1 ∧ ((¬ ((zeroTaskB (a.2.2.2.1)) = true) → (false = rightO a)) ∧ (¬ (¬ ((zeroTaskB (a.2.2.2.1)) = true)) → ((¬ ((namedB (a.1)) = true) → ((¬ (a.2.2.2.2 = ByteArray.empty) → (false = rightO a)) ∧ (¬ (¬ (a.2.2.2.2 = ByteArray.empty)) → (node_pre a.2.1 ∧ ((nodeB (a.2.1)) = rightO a))))) ∧ (¬ (¬ ((namedB (a.1)) = true)) → (node_pre a.2.1 ∧ ((nodeB (a.2.1)) = rightO a)))))))) ∧ (¬ (¬ a.1 = (5 : Int)) → ((¬ ((namedB (a.1)) = true) → ((¬ (a.2.2.2.2 = ByteArray.empty) → (false = rightO a)) ∧ (¬ (¬ (a.2.2.2.2 = ByteArray.empty)) → (node_pre a.2.1 ∧ ((nodeB (a.2.1)) = rightO a))))) ∧ (¬ (¬ ((namedB (a.1)) = true)) → (node_pre a.2.1 ∧ ((nodeB (a.2.1)) = rightO a))))))))))))))
set_option maxRecDepth 100000 in
set_option maxHeartbeats 2000000 in
theorem f279.of (a : T_api_Op) (h : f279.vc a) : f279.tree a := br h Cnd.dec (fun h1 k442 => ⟨k442, trivial⟩) (fun h2 k443 => br k443 Cnd.dec (fun h4 k440 => ⟨k440, trivial⟩) (fun h5 k441 => br k441 Cnd.ne (fun h7 k438 => ⟨a.2.1, ⟨rfl, ⟨rfl, ⟨rfl, ⟨rfl, slK (Rds.self (enc := e_api_Label)) (⟨k438.1, br k438.2 (Cnd.not Cnd.b) (fun h10 k224 => ⟨k224, trivial⟩) (fun h11 k225 => br k225 Cnd.ne (fun h13 k222 => br k222 (Cnd.not (Cnd.and Cnd.seq (Cnd.and Cnd.eq (Cnd.and Cnd.eq Cnd.eq)))) (fun h15 k119 => ⟨k119, trivial⟩) (fun h16 k120 => br k120 Cnd.ne (fun h18 k117 => ⟨a.2.2.2.1, ⟨rfl, ⟨rfl, ⟨rfl, ⟨rfl, ⟨rfl, ⟨rfl, slK (Rds.self (enc := e_api_Label)) (⟨rfl, ⟨rfl, ⟨rfl, ⟨k117.1, br k117.2 (Cnd.not Cnd.b) (fun h21 k69 => ⟨k69, trivial⟩) (fun h22 k70 => ⟨a.1, ⟨rfl, ⟨trivial, br k70 (Cnd.not Cnd.b) (fun h25 k66 => br k66 (Cnd.not Cnd.seq) (fun h27 k47 => ⟨k47, trivial⟩) (fun h28 k48 => brF Cnd.eq h7 (brF Cnd.eq h13 (brF Cnd.eq h18 (br k48 Cnd.eq (fun h39 k45 => ⟨k45, trivial⟩) (fun h40 k46 => ⟨a.2.2.2.2, ⟨rfl, ⟨k46.1, ⟨k46.2, trivial⟩⟩⟩⟩)))))) (fun h26 k67 => brF Cnd.eq h7 (brF Cnd.eq h13 (brF Cnd.eq h18 (br k67 Cnd.eq (fun h58 k64 => ⟨k64, trivial⟩) (fun h59 k65 => ⟨a.2.2.2.2, ⟨rfl, ⟨k65.1, ⟨k65.2, trivial⟩⟩⟩⟩)))))⟩⟩⟩)⟩⟩⟩⟩)⟩⟩⟩⟩⟩⟩⟩) (fun h19 k118 => ⟨a.1, ⟨rfl, ⟨trivial, br k118 (Cnd.not Cnd.b) (fun h73 k114 => br k114 (Cnd.not Cnd.seq) (fun h75 k95 => ⟨k95, trivial⟩) (fun h76 k96 => brF Cnd.eq h7 (brF Cnd.eq h13 (brT Cnd.eq (Classical.not_not.1 h19) (⟨a.2.2.2.1, ⟨rfl, ⟨rfl, ⟨rfl, ⟨rfl, ⟨rfl, ⟨rfl, slK (Rds.self (enc := e_api_Label)) (⟨rfl, ⟨rfl, ⟨rfl, ⟨k96.1, ⟨k96.2, trivial⟩⟩⟩⟩⟩)⟩⟩⟩⟩⟩⟩⟩))))) (fun h74 k115 => brF Cnd.eq h7 (brF Cnd.eq h13 (brT Cnd.eq (Classical.not_not.1 h19) (⟨a.2.2.2.1, ⟨rfl, ⟨rfl, ⟨rfl, ⟨rfl, ⟨rfl, ⟨rfl, slK (Rds.self (enc := e_api_Label)) (⟨rfl, ⟨rfl, ⟨rfl, ⟨k115.1, ⟨k115.2, trivial⟩⟩⟩⟩⟩)⟩⟩⟩⟩⟩⟩⟩))))⟩⟩⟩))) (fun h14 k223 => br k223 Cnd.ne (fun h121 k220 => ⟨a.2.2.2.1, ⟨rfl, ⟨rfl, ⟨rfl, ⟨rfl, ⟨rfl, ⟨rfl, slK (Rds.self (enc := e_api_Label)) (⟨rfl, ⟨rfl, ⟨rfl, ⟨k220.1, br k220.2 (Cnd.not Cnd.b) (fun h124 k172 => ⟨k172, trivial⟩) (fun h125 k173 => ⟨a.1, ⟨rfl, ⟨trivial, br k173 (Cnd.not Cnd.b) (fun h128 k169 => br k169 (Cnd.not Cnd.seq) (fun h130 k150 => ⟨k150, trivial⟩) (fun h131 k151 => brF Cnd.eq h7 (brT Cnd.eq (Classical.not_not.1 h14) (⟨a.2.2.1, ⟨rfl, ⟨rfl, ⟨rfl, ⟨rfl, ⟨k151.1, ⟨k151.2, trivial⟩⟩⟩⟩⟩⟩⟩)))) (fun h129 k170 => brF Cnd.eq h7 (brT Cnd.eq (Classical.not_not.1 h14) (⟨a.2.2.1, ⟨rfl, ⟨rfl, ⟨rfl, ⟨rfl, ⟨k170.1, ⟨k170.2, trivial⟩⟩⟩⟩⟩⟩⟩)))⟩⟩⟩)⟩⟩⟩⟩)⟩⟩⟩⟩⟩⟩⟩) (fun h122 k221 => ⟨a.1, ⟨rfl, ⟨trivial, br k221 (Cnd.not Cnd.b) (fun h176 k217 => br k217 (Cnd.not Cnd.seq) (fun h178 k198 => ⟨k198, trivial⟩) (fun h179 k199 => brF Cnd.eq h7 (brT Cnd.eq (Classical.not_not.1 h14) (⟨a.2.2.1, ⟨rfl, ⟨rfl, ⟨rfl, ⟨rfl, ⟨k199.1, ⟨k199.2, trivial⟩⟩⟩⟩⟩⟩⟩)))) (fun h177 k218 => brF Cnd.eq h7 (brT Cnd.eq (Classical.not_not.1 h14) (⟨a.2.2.1, ⟨rfl, ⟨rfl, ⟨rfl, ⟨rfl, ⟨k218.1, ⟨k218.2, trivial⟩⟩⟩⟩⟩⟩⟩)))⟩⟩⟩)))⟩)⟩⟩⟩⟩⟩) (fun h8 k439 => br k439 Cnd.ne (fun h227 k436 => br k436 (Cnd.not (Cnd.and Cnd.seq (Cnd.and Cnd.eq (Cnd.and Cnd.eq Cnd.eq)))) (fun h229 k333 => ⟨k333, trivial⟩) (fun h230 k334 => br k334 Cnd.ne (fun h232 k331 => ⟨a.2.2.2.1, ⟨rfl, ⟨rfl, ⟨rfl, ⟨rfl, ⟨rfl, ⟨rfl, slK (Rds.self (enc := e_api_Label)) (⟨rfl, ⟨rfl, ⟨rfl, ⟨k331.1, br k331.2 (Cnd.not Cnd.b) (fun h235 k283 => ⟨k283, trivial⟩) (fun h236 k284 => ⟨a.1, ⟨rfl, ⟨trivial, br k284 (Cnd.not Cnd.b) (fun h239 k280 => br k280 (Cnd.not Cnd.seq) (fun h241 k261 => ⟨k261, trivial⟩) (fun h242 k262 => brT Cnd.eq (Classical.not_not.1 h8) (⟨a.2.1, ⟨rfl, ⟨rfl, ⟨rfl, ⟨rfl, slK (Rds.self (enc := e_api_Label)) (⟨k262.1, ⟨k262.2, trivial⟩⟩)⟩⟩⟩⟩⟩))) (fun h240 k281 => brT Cnd.eq (Classical.not_not.1 h8) (⟨a.2.1, ⟨rfl, ⟨rfl, ⟨rfl, ⟨rfl, slK (Rds.self (enc := e_api_Label)) (⟨k281.1, ⟨k281.2, trivial⟩⟩)⟩⟩⟩⟩⟩))⟩⟩⟩)⟩⟩⟩⟩)⟩⟩⟩⟩⟩⟩⟩) (fun h233 k332 => ⟨a.1, ⟨rfl, ⟨trivial, br k332 (Cnd.not Cnd.b) (fun h287 k328 => br k328 (Cnd.not Cnd.seq) (fun h289 k309 => ⟨k309, trivial⟩) (fun h290 k310 => brT Cnd.eq (Classical.not_not.1 h8) (⟨a.2.1, ⟨rfl, ⟨rfl, ⟨rfl, ⟨rfl, slK (Rds.self (enc := e_api_Label)) (⟨k310.1, ⟨k310.2, trivial⟩⟩)⟩⟩⟩⟩⟩))) (fun h288 k329 => brT Cnd.eq (Classical.not_not.1 h8) (⟨a.2.1, ⟨rfl, ⟨rfl, ⟨rfl, ⟨rfl, slK (Rds.self (enc := e_api_Label)) (⟨k329.1, ⟨k329.2, trivial⟩⟩)⟩⟩⟩⟩⟩))⟩⟩⟩))) (fun h228 k437 => br k437 Cnd.ne (fun h335 k434 => ⟨a.2.2.2.1, ⟨rfl, ⟨rfl, ⟨rfl, ⟨rfl, ⟨rfl, ⟨rfl, slK (Rds.self (enc := e_api_Label)) (⟨rfl, ⟨rfl, ⟨rfl, ⟨k434.1, br k434.2 (Cnd.not Cnd.b) (fun h338 k386 => ⟨k386, trivial⟩) (fun h339 k387 => ⟨a.1, ⟨rfl, ⟨trivial, br k387 (Cnd.not Cnd.b) (fun h342 k383 => br k383 (Cnd.not Cnd.seq) (fun h344 k364 => ⟨k364, trivial⟩) (fun h345 k365 => brT Cnd.eq (Classical.not_not.1 h8) (⟨a.2.1, ⟨rfl, ⟨rfl, ⟨rfl, ⟨rfl, slK (Rds.self (enc := e_api_Label)) (⟨k365.1, ⟨k365.2, trivial⟩⟩)⟩⟩⟩⟩⟩))) (fun h343 k384 => brT Cnd.eq (Classical.not_not.1 h8) (⟨a.2.1, ⟨rfl, ⟨rfl, ⟨rfl, ⟨rfl, slK (Rds.self (enc := e_api_Label)) (⟨k384.1, ⟨k384.2, trivial⟩⟩)⟩⟩⟩⟩⟩))⟩⟩⟩)⟩⟩⟩⟩)⟩⟩⟩⟩⟩⟩⟩) (fun h336 k435 => ⟨a.1, ⟨rfl, ⟨trivial, br k435 (Cnd.not Cnd.b) (fun h390 k431 => br k431 (Cnd.not Cnd.seq) (fun h392 k412 => ⟨k412, trivial⟩) (fun h393 k413 => brT Cnd.eq (Classical.not_not.1 h8) (⟨a.2.1, ⟨rfl, ⟨rfl, ⟨rfl, ⟨rfl, slK (Rds.self (enc := e_api_Label)) (⟨k413.1, ⟨k413.2, trivial⟩⟩)⟩⟩⟩⟩⟩))) (fun h391 k432 => brT Cnd.eq (Classical.not_not.1 h8) (⟨a.2.1, ⟨rfl, ⟨rfl, ⟨rfl, ⟨rfl, slK (Rds.self (enc := e_api_Label)) (⟨k432.1, ⟨k432.2, trivial⟩⟩)⟩⟩⟩⟩⟩))⟩⟩⟩)))))
theorem f279.eq (a : T_api_Op) : (f279.af a).gives f279.env (f279.args a) (f279.blks a) (f279.res a) (f279.blks' a) = f279.tree a := by kernel_rfl
end Go.Abs

/- interregnum/interregnumref06.zeroNode -/
namespace Go.Abs
open Go
set_option linter.unusedVariables false
def f312.kills (a : T_api_Node) : List Hint := []
def f312.cuts (a : T_api_Node) : List (Nat × Σ β : Type, β → Tm) := []
def f312.af (a : T_api_Node) : AF := AF.mk (.seq (.region [⟨(some 1), 0, .box, [.t 0], none⟩,
  ⟨(some 2), 1, .move, [.c (.bool false)], none⟩])
 (.seq (.region [⟨(some 3), 2, (.load true 5), [.t 1], none⟩,
  ⟨(some 4), 3, (.build [.str ByteArray.empty, .int .i64 (0), .int .i64 (0), .int .i64 (0), .slice .full 2 0 gnil] []), [], none⟩,
  ⟨(some 5), 4, (.call false 287), [.t 3, .t 4], none⟩,
  ⟨(some 2), 8, .move, [.t 5], none⟩])
 (.ret)))
  [.tmp 2] 0 5
def f312.env : Env := [(287, f287.C)]
def f312.tree (a : T_api_Node) : Prop := ∃ c1 : T_api_Node × T_api_Node, (a.1 = c1.1.1) ∧ (a.2.1.1 = c1.1.2.1.1) ∧ (a.2.1.2.1 = c1.1.2.1.2.1) ∧ (a.2.1.2.2 = c1.1.2.1.2.2) ∧ (a.2.2.length = c1.1.2.2.length) ∧ (∀ i, i < c1.1.2.2.length → DEqs ((gl e_api_Label a.2.2) i) ((gl e_api_Label c1.1.2.2) i)) ∧ (ByteArray.empty = c1.2.1) ∧ ((0 : Int) = c1.2.2.1.1) ∧ ((0 : Int) = c1.2.2.1.2.1) ∧ ((0 : Int) = c1.2.2.1.2.2) ∧ (0 = c1.2.2.2.length) ∧ (∀ i, i < c1.2.2.2.length → DEqs (gnil i) ((gl e_api_Label c1.2.2.2) i)) ∧ (sameNode_pre c1) ∧ ((sameNode c1) = (zeroNodeB a)) ∧ True
def f312.vc (a : T_api_Node) : Prop := (sameNode_pre (a, (ByteArray.empty, ((0 : Int), (0 : Int), (0 : Int)), [])) ∧ ((sameNode (a, (ByteArray.empty, ((0 : Int), (0 : Int), (0 : Int)), []))) = zeroNodeB a))
set_option maxRecDepth 100000 in
set_option maxHeartbeats 2000000 in
theorem f312.of (a : T_api_Node) (h : f312.vc a) : f312.tree a := ⟨(a, (ByteArray.empty, ((0 : Int), (0 : Int), (0 : Int)), [])), ⟨rfl, ⟨rfl, ⟨rfl, ⟨rfl, slK (Rds.self (enc := e_api_Label)) (⟨rfl, ⟨rfl, ⟨rfl, ⟨rfl, slK (Rds.nil (enc := e_api_Label)) (⟨h.1, ⟨h.2, trivial⟩⟩)⟩⟩⟩⟩)⟩⟩⟩⟩⟩
theorem f312.eq (a : T_api_Node) : (f312.af a).gives f312.env (f312.args a) (f312.blks a) (f312.res a) (f312.blks' a) = f312.tree a := by kernel_rfl
end Go.Abs

/- interregnum/interregnumref06.zeroTask -/
namespace Go.Abs
open Go
set_option linter.unusedVariables false
def f313.kills (a : T_api_Task) : List Hint := []
def f313.cuts (a : T_api_Task) : List (Nat × Σ β : Type, β → Tm) := []
def f313.af (a : T_api_Task) : AF := AF.mk (.seq (.region [⟨(some 1), 0, .box, [.t 0], none⟩,
  ⟨(some 2), 1, .move, [.c (.bool false)], none⟩])
 (.seq (.region [⟨(some 3), 2, (.load true 10), [.t 1], none⟩,
  ⟨(some 4), 3, (.build [.str ByteArray.empty, .str ByteArray.empty, .int .i64 (0), .int .i64 (0), .int .i64 (0), .int .i64 (0), .slice .full 2 0 gnil, .str ByteArray.empty, .str ByteArray.empty, .int .i64 (0)] []), [], none⟩,
  ⟨(some 5), 4, (.call false 290), [.t 3, .t 4], none⟩,
  ⟨(some 2), 8, .move, [.t 5], none⟩])
 (.ret)))
  [.tmp 2] 0 5
def f313.env : Env := [(290, f290.C)]
def f313.tree (a : T_api_Task) : Prop := ∃ c1 : T_api_Task × T_api_Task, (a.1 = c1.1.1) ∧ (a.2.1 = c1.1.2.1) ∧ (a.2.2.1 = c1.1.2.2.1) ∧ (a.2.2.2.1.1 = c1.1.2.2.2.1.1) ∧ (a.2.2.2.1.2.1 = c1.1.2.2.2.1.2.1) ∧ (a.2.2.2.1.2.2 = c1.1.2.2.2.1.2.2) ∧ (a.2.2.2.2.1.length = c1.1.2.2.2.2.1.length) ∧ (∀ i, i < c1.1.2.2.2.2.1.length → DEqs ((gl e_api_Label a.2.2.2.2.1) i) ((gl e_api_Label c1.1.2.2.2.2.1) i)) ∧ (a.2.2.2.2.2.1 = c1.1.2.2.2.2.2.1) ∧ (a.2.2.2.2.2.2.1 = c1.1.2.2.2.2.2.2.1) ∧ (a.2.2.2.2.2.2.2 = c1.1.2.2.2.2.2.2.2) ∧ (ByteArray.empty = c1.2.1) ∧ (ByteArray.empty = c1.2.2.1) ∧ ((0 : Int) = c1.2.2.2.1) ∧ ((0 : Int) = c1.2.2.2.2.1.1) ∧ ((0 : Int) = c1.2.2.2.2.1.2.1) ∧ ((0 : Int) = c1.2.2.2.2.1.2.2) ∧ (0 = c1.2.2.2.2.2.1.length) ∧ (∀ i, i < c1.2.2.2.2.2.1.length → DEqs (gnil i) ((gl e_api_Label c1.2.2.2.2.2.1) i)) ∧ (ByteArray.empty = c1.2.2.2.2.2.2.1) ∧ (ByteArray.empty = c1.2.2.2.2.2.2.2.1) ∧ ((0 : Int) = c1.2.2.2.2.2.2.2.2) ∧ (sameTask_pre c1) ∧ ((sameTask c1) = (zeroTaskB a)) ∧ True
def f313.vc (a : T_api_Task) : Prop := (sameTask_pre (a, (ByteArray.empty, ByteArray.empty, (0 : Int), ((0 : Int), (0 : Int), (0 : Int)), [], ByteArray.empty, ByteArray.empty, (0 : Int))) ∧ ((sameTask (a, (ByteArray.empty, ByteArray.empty, (0 : Int), ((0 : Int), (0 : Int), (0 : Int)), [], ByteArray.empty, ByteArray.empty, (0 : Int)))) = zeroTaskB a))
set_option maxRecDepth 100000 in
set_option maxHeartbeats 2000000 in
theorem f313.of (a : T_api_Task) (h : f313.vc a) : f313.tree a := ⟨(a, (ByteArray.empty, ByteArray.empty, (0 : Int), ((0 : Int), (0 : Int), (0 : Int)), [], ByteArray.empty, ByteArray.empty, (0 : Int))), ⟨rfl, ⟨rfl, ⟨rfl, ⟨rfl, ⟨rfl, ⟨rfl, slK (Rds.self (enc := e_api_Label)) (⟨rfl, ⟨rfl, ⟨rfl, ⟨rfl, ⟨rfl, ⟨rfl, ⟨rfl, ⟨rfl, ⟨rfl, slK (Rds.nil (enc := e_api_Label)) (⟨rfl, ⟨rfl, ⟨rfl, ⟨h.1, ⟨h.2, trivial⟩⟩⟩⟩⟩)⟩⟩⟩⟩⟩⟩⟩⟩⟩)⟩⟩⟩⟩⟩⟩⟩
theorem f313.eq (a : T_api_Task) : (f313.af a).gives f313.env (f313.args a) (f313.blks a) (f313.res a) (f313.blks' a) = f313.tree a := by kernel_rfl
end Go.Abs

-- interregnum/oper.Encode
namespace Go.Abs
open Go
def f277.args (a : T_api_Op) : List D := [.agg [.int .i64 a.1, .str a.2.1.1, .int .i64 a.2.1.2.1.1, .int .i64 a.2.1.2.1.2.1, .int .i64 a.2.1.2.1.2.2, .slice .ro 2 a.2.1.2.2.length (gl e_api_Label a.2.1.2.2), .str a.2.2.1.1, .int .i64 a.2.2.1.2.1, .int .i64 a.2.2.1.2.2.1, .int .i64 a.2.2.1.2.2.2, .str a.2.2.2.1.1, .str a.2.2.2.1.2.1, .int .i64 a.2.2.2.1.2.2.1, .int .i64 a.2.2.2.1.2.2.2.1.1, .int .i64 a.2.2.2.1.2.2.2.1.2.1, .int .i64 a.2.2.2.1.2.2.2.1.2.2, .slice .ro 2 a.2.2.2.1.2.2.2.2.1.length (gl e_api_Label a.2.2.2.1.2.2.2.2.1), .str a.2.2.2.1.2.2.2.2.2.1, .str a.2.2.2.1.2.2.2.2.2.2.1, .int .i64 a.2.2.2.1.2.2.2.2.2.2.2, .str a.2.2.2.2]]
def f277.blks (a : T_api_Op) : List (List D) := []
def f277.res (a : T_api_Op) : List D := [.slice .ro 1 (((encO a).1).size) (gstr ((encO a).1)), .int .i64 ((encO a).2)]
def f277.blks' (a : T_api_Op) : List (List D) := []
def f277.C : Contract := FnC f277.args f277.blks (fun a => encO_pre a) f277.res f277.blks'
end Go.Abs

/- interregnum/oper.Encode -/
namespace Go.Abs
open Go
set_option linter.unusedVariables false
def f277.kills (a : T_api_Op) : List Hint := []
def f277.cuts (a : T_api_Op) : List (Nat × Σ β : Type, β → Tm) := []
def f277.af (a : T_api_Op) : AF := AF.mk (.seq (.region [⟨(some 1), 0, .box, [.t 0], none⟩,
  ⟨(some 2), 1, (.nilSl 1), [], none⟩,
  ⟨(some 3), 2, .move, [.c (.int .i64 (0))], none⟩])
 (.seq (.seq (.region [⟨(some 5), 3, (.load true 21), [.t 1], none⟩,
  ⟨(some 6), 4, (.call false 152), [.t 5], none⟩,
  ⟨(some 7), 8, (.un .not), [.t 6], none⟩])
 (.cond (.t 7) (.seq (.region [⟨(some 2), 9, (.nilSl 1), [], none⟩,
  ⟨(some 3), 10, .move, [.c (.int .i64 (1))], none⟩])
 (.ret)) (.skip)))
 (.seq (.region [⟨(some 8), 11, (.fieldAddr 0), [.t 1], none⟩,
  ⟨(some 9), 12, (.load false 1), [.t 8], none⟩,
  ⟨(some 10), 13, (.conv (.int .u64)), [.t 9], none⟩,
  ⟨(some 11), 14, (.call false 14), [.c (.slice .full 1 0 gnil), .t 10], none⟩,
  ⟨(some 4), 18, .move, [.t 11], none⟩])
 (.seq (.seq (.region [⟨(some 12), 19, (.fieldAddr 0), [.t 1], none⟩,
  ⟨(some 13), 20, (.load false 1), [.t 12], none⟩])
 (.block 0 (.seq (.region [⟨(some 15), 21, (.bin .eql), [.t 13, .c (.int .i64 (1))], none⟩,
  ⟨(some 14), 22, .move, [.t 15], none⟩])
 (.cond (.t 14) (.seq (.region [⟨(some 16), 23, .move, [.t 4], none⟩,
  ⟨(some 17), 24, (.fieldAddr 1), [.t 1], none⟩,
  ⟨(some 18), 25, (.load true 5), [.t 17], none⟩,
  ⟨(some 19), 26, (.call false 39), [.t 16, .t 18], none⟩,
  ⟨(some 2), 30, .move, [.t 19], none⟩,
  ⟨(some 3), 31, .move, [.c (.int .i64 (0))], none⟩])
 (.ret)) (.seq (.region [⟨(some 21), 32, (.bin .eql), [.t 13, .c (.int .i64 (3))], none⟩,
  ⟨(some 20), 33, .move, [.t 21], none⟩])
 (.cond (.t 20) (.seq (.region [⟨(some 22), 34, .move, [.t 4], none⟩,
  ⟨(some 23), 35, (.fieldAddr 6), [.t 1], none⟩,
  ⟨(some 24), 36, (.load true 4), [.t 23], none⟩,
  ⟨(some 25), 37, (.call false 41), [.t 22, .t 24], none⟩,
  ⟨(some 2), 41, .move, [.t 25], none⟩,
  ⟨(some 3), 42, .move, [.c (.int .i64 (0))], none⟩])
 (.ret)) (.seq (.region [⟨(some 27), 43, (.bin .eql), [.t 13, .c (.int .i64 (5))], none⟩,
  ⟨(some 26), 44, .move, [.t 27], none⟩])
 (.cond (.t 26) (.seq (.region [⟨(some 28), 45, .move, [.t 4], none⟩,
  ⟨(some 29), 46, (.fieldAddr 10), [.t 1], none⟩,
  ⟨(some 30), 47, (.load true 10), [.t 29], none⟩,
  ⟨(some 31), 48, (.call false 43), [.t 28, .t 30], none⟩,
  ⟨(some 2), 52, .move, [.t 31], none⟩,
  ⟨(some 3), 53, .move, [.c (.int .i64 (0))], none⟩])
 (.ret)) (.seq (.region [⟨(some 33), 54, (.bin .eql), [.t 13, .c (.int .i64 (9))], none⟩,
  ⟨(some 32), 55, .move, [.t 33], none⟩])
 (.cond (.t 32) (.seq (.region [⟨(some 34), 56, .move, [.t 4], none⟩,
  ⟨(some 2), 57, .move, [.t 34], none⟩,
  ⟨(some 3), 58, .move, [.c (.int .i64 (0))], none⟩])
 (.ret)) (.skip)))))))))))
 (.seq (.region [⟨(some 35), 59, .move, [.t 4], none⟩,
  ⟨(some 36), 60, (.fieldAddr 20), [.t 1], none⟩,
  ⟨(some 37), 61, (.load false 1), [.t 36], none⟩,
  ⟨(some 38), 62, (.call false 16), [.t 35, .t 37], none⟩,
  ⟨(some 2), 66, .move, [.t 38], none⟩,
  ⟨(some 3), 67, .move, [.c (.int .i64 (0))], none⟩])
 (.ret))))))
  [.tmp 2, .tmp 3] 0 38
def f277.env : Env := [(152, f152.C), (14, f14.C), (39, f39.C), (41, f41.C), (43, f43.C), (16, f16.C)]
def f277.tree (a : T_api_Op) : Prop := ∃ c1 : T_api_Op, (a.1 = c1.1) ∧ (a.2.1.1 = c1.2.1.1) ∧ (a.2.1.2.1.1 = c1.2.1.2.1.1) ∧ (a.2.1.2.1.2.1 = c1.2.1.2.1.2.1) ∧ (a.2.1.2.1.2.2 = c1.2.1.2.1.2.2) ∧ (a.2.1.2.2.length = c1.2.1.2.2.length) ∧ (∀ i, i < c1.2.1.2.2.length → DEqs ((gl e_api_Label a.2.1.2.2) i) ((gl e_api_Label c1.2.1.2.2) i)) ∧ (a.2.2.1.1 = c1.2.2.1.1) ∧ (a.2.2.1.2.1 = c1.2.2.1.2.1) ∧ (a.2.2.1.2.2.1 = c1.2.2.1.2.2.1) ∧ (a.2.2.1.2.2.2 = c1.2.2.1.2.2.2) ∧ (a.2.2.2.1.1 = c1.2.2.2.1.1) ∧ (a.2.2.2.1.2.1 = c1.2.2.2.1.2.1) ∧ (a.2.2.2.1.2.2.1 = c1.2.2.2.1.2.2.1) ∧ (a.2.2.2.1.2.2.2.1.1 = c1.2.2.2.1.2.2.2.1.1) ∧ (a.2.2.2.1.2.2.2.1.2.1 = c1.2.2.2.1.2.2.2.1.2.1) ∧ (a.2.2.2.1.2.2.2.1.2.2 = c1.2.2.2.1.2.2.2.1.2.2) ∧ (a.2.2.2.1.2.2.2.2.1.length = c1.2.2.2.1.2.2.2.2.1.length) ∧ (∀ i, i < c1.2.2.2.1.2.2.2.2.1.length → DEqs ((gl e_api_Label a.2.2.2.1.2.2.2.2.1) i) ((gl e_api_Label c1.2.2.2.1.2.2.2.2.1) i)) ∧ (a.2.2.2.1.2.2.2.2.2.1 = c1.2.2.2.1.2.2.2.2.2.1) ∧ (a.2.2.2.1.2.2.2.2.2.2.1 = c1.2.2.2.1.2.2.2.2.2.2.1) ∧ (a.2.2.2.1.2.2.2.2.2.2.2 = c1.2.2.2.1.2.2.2.2.2.2.2) ∧ (a.2.2.2.2 = c1.2.2.2.2) ∧ (op_pre c1) ∧ Br (!(rightO c1)) ((0 = 0) ∧ (0 = (((encO a).1).size)) ∧ (∀ i, i < (((encO a).1).size) → DEqs (gnil i) ((gstr ((encO a).1)) i)) ∧ ((1 : Int) = ((encO a).2)) ∧ True) (Let (IntKind.u64.wrap a.1) (fun v5 : Int => ∃ c6 : ByteArray × Int, (0 = c6.1.size) ∧ (∀ i, i < c6.1.size → DEqs (gnil i) ((gstr c6.1) i)) ∧ (v5 = c6.2) ∧ (put_pre c6) ∧ Br (a.1 == (1 : Int)) (∃ c9 : ByteArray × T_api_Node, (((putB c6).size) = c9.1.size) ∧ (∀ i, i < c9.1.size → DEqs ((gstr (putB c6)) i) ((gstr c9.1) i)) ∧ (a.2.1.1 = c9.2.1) ∧ (a.2.1.2.1.1 = c9.2.2.1.1) ∧ (a.2.1.2.1.2.1 = c9.2.2.1.2.1) ∧ (a.2.1.2.1.2.2 = c9.2.2.1.2.2) ∧ (a.2.1.2.2.length = c9.2.2.2.length) ∧ (∀ i, i < c9.2.2.2.length → DEqs ((gl e_api_Label a.2.1.2.2) i) ((gl e_api_Label c9.2.2.2) i)) ∧ (putNode_pre c9) ∧ (((putNode c9).size) = (((encO a).1).size)) ∧ (∀ i, i < (((encO a).1).size) → DEqs ((gstr (putNode c9)) i) ((gstr ((encO a).1)) i)) ∧ ((0 : Int) = ((encO a).2)) ∧ True) (Br (a.1 == (3 : Int)) (∃ c14 : ByteArray × T_api_Queue, (((putB c6).size) = c14.1.size) ∧ (∀ i, i < c14.1.size → DEqs ((gstr (putB c6)) i) ((gstr c14.1) i)) ∧ (a.2.2.1.1 = c14.2.1) ∧ (a.2.2.1.2.1 = c14.2.2.1) ∧ (a.2.2.1.2.2.1 = c14.2.2.2.1) ∧ (a.2.2.1.2.2.2 = c14.2.2.2.2) ∧ (putQueue_pre c14) ∧ (((putQueue c14).size) = (((encO a).1).size)) ∧ (∀ i, i < (((encO a).1).size) → DEqs ((gstr (putQueue c14)) i) ((gstr ((encO a).1)) i)) ∧ ((0 : Int) = ((encO a).2)) ∧ True) (Br (a.1 == (5 : Int)) (∃ c19 : ByteArray × T_api_Task, (((putB c6).size) = c19.1.size) ∧ (∀ i, i < c19.1.size → DEqs ((gstr (putB c6)) i) ((gstr c19.1) i)) ∧ (a.2.2.2.1.1 = c19.2.1) ∧ (a.2.2.2.1.2.1 = c19.2.2.1) ∧ (a.2.2.2.1.2.2.1 = c19.2.2.2.1) ∧ (a.2.2.2.1.2.2.2.1.1 = c19.2.2.2.2.1.1) ∧ (a.2.2.2.1.2.2.2.1.2.1 = c19.2.2.2.2.1.2.1) ∧ (a.2.2.2.1.2.2.2.1.2.2 = c19.2.2.2.2.1.2.2) ∧ (a.2.2.2.1.2.2.2.2.1.length = c19.2.2.2.2.2.1.length) ∧ (∀ i, i < c19.2.2.2.2.2.1.length → DEqs ((gl e_api_Label a.2.2.2.1.2.2.2.2.1) i) ((gl e_api_Label c19.2.2.2.2.2.1) i)) ∧ (a.2.2.2.1.2.2.2.2.2.1 = c19.2.2.2.2.2.2.1) ∧ (a.2.2.2.1.2.2.2.2.2.2.1 = c19.2.2.2.2.2.2.2.1) ∧ (a.2.2.2.1.2.2.2.2.2.2.2 = c19.2.2.2.2.2.2.2.2) ∧ (putTask_pre c19) ∧ (((putTask c19).size) = (((encO a).1).size)) ∧ (∀ i, i < (((encO a).1).size) → DEqs ((gstr (putTask c19)) i) ((gstr ((encO a).1)) i)) ∧ ((0 : Int) = ((encO a).2)) ∧ True) (Br (a.1 == (9 : Int)) ((((putB c6).size) = ((putB c6).size)) ∧ (((putB c6).size) = (((encO a).1).size)) ∧ (∀ i, i < (((encO a).1).size) → DEqs ((gstr (putB c6)) i) ((gstr ((encO a).1)) i)) ∧ ((0 : Int) = ((encO a).2)) ∧ True) (∃ c25 : ByteArray × ByteArray, (((putB c6).size) = c25.1.size) ∧ (∀ i, i < c25.1.size → DEqs ((gstr (putB c6)) i) ((gstr c25.1) i)) ∧ (a.2.2.2.2 = c25.2) ∧ (putText_pre c25) ∧ (((putText c25).size) = ((putText c25).size)) ∧ (((putText c25).size) = (((encO a).1).size)) ∧ (∀ i, i < (((encO a).1).size) → DEqs ((gstr (putText c25)) i) ((gstr ((encO a).1)) i)) ∧ ((0 : Int) = ((encO a).2)) ∧ True))))))
def f277.vc (a : T_api_Op) : Prop := (op_pre a ∧ ((¬ ((rightO a) = true) → ((ByteArray.empty, (1 : Int)) = encO a)) ∧ (¬ (¬ ((rightO a) = true)) → (0 ≤ a.1 ∧ a.1 ≤ 18446744073709551615 ∧ (put_pre (ByteArray.empty, (a.1)) ∧ ((a.1 = (1 : Int) → (putNode_pre ((putB (ByteArray.empty, (a.1))), a.2.1) ∧ (((putNode ((putB (ByteArray.empty, (a.1))), a.2.1)), (0 : Int)) = encO a))) ∧ (¬ (a.1 = (1 : Int)) → ((a.1 = (3 : Int) → (putQueue_pre ((putB (ByteArray.empty, (a.1))), a.2.2.1) ∧ (((putQueue ((putB (ByteArray.empty, (a.1))), a.2.2.1)), (0 : Int)) = encO a))) ∧ (¬ (a.1 = (3 : Int)) → ((a.1 = (5 : Int) → (putTask_pre ((putB (ByteArray.empty, (a.1))), a.2.2.2.1) ∧ (((putTask ((putB (ByteArray.empty, (a.1))), a.2.2.2.1)), (0 : Int)) = encO a))) ∧ (¬ (a.1 = (5 : Int)) → ((a.1 = (9 : Int) → (((putB (ByteArray.empty, (a.1))), (0 : Int)) = encO a)) ∧ (¬ (a.1 = (9 : Int)) → (putText_pre ((putB (ByteArray.empty, (a.1))), a.2.2.2.2) ∧ (((putText ((putB (ByteArray.empty, (a.1))), a.2.2.2.2)), (0 : Int)) = encO a)))))))))))))))
set_option maxRecDepth 100000 in
set_option maxHeartbeats 2000000 in
theorem f277.of (a : T_api_Op) (h : f277.vc a) : f277.tree a := ⟨a, ⟨rfl, ⟨rfl, ⟨rfl, ⟨rfl, ⟨rfl, slK (Rds.self (enc := e_api_Label)) (⟨rfl, ⟨rfl, ⟨rfl, ⟨rfl, ⟨rfl, ⟨rfl, ⟨rfl, ⟨rfl, ⟨rfl, ⟨rfl, slK (Rds.self (enc := e_api_Label)) (⟨rfl, ⟨rfl, ⟨rfl, ⟨rfl, ⟨h.1, br h.2 (Cnd.not Cnd.b) (fun h2 k40 => ⟨rfl, slK (RdB.to RdB.nil (congrArg (fun x : ByteArray × Int => x.1) k40 :)) (⟨(congrArg (fun x : ByteArray × Int => x.2) k40 :), trivial⟩)⟩) (fun h3 k41 => wrapK.u64 k41 (fun h37 h38 k39 => ⟨(ByteArray.empty, (a.1)), slK RdB.nil (⟨rfl, ⟨k39.1, br k39.2 Cnd.eq (fun h7 k34 => ⟨((putB (ByteArray.empty, (a.1))), a.2.1), slK RdB.self (⟨rfl, ⟨rfl, ⟨rfl, ⟨rfl, slK (Rds.self (enc := e_api_Label)) (⟨k34.1, slK (RdB.to RdB.self (congrArg (fun x : ByteArray × Int => x.1) k34.2 :)) (⟨(congrArg (fun x : ByteArray × Int => x.2) k34.2 :), trivial⟩)⟩)⟩⟩⟩⟩)⟩) (fun h8 k35 => br k35 Cnd.eq (fun h12 k32 => ⟨((putB (ByteArray.empty, (a.1))), a.2.2.1), slK RdB.self (⟨rfl, ⟨rfl, ⟨rfl, ⟨rfl, ⟨k32.1, slK (RdB.to RdB.self (congrArg (fun x : ByteArray × Int => x.1) k32.2 :)) (⟨(congrArg (fun x : ByteArray × Int => x.2) k32.2 :), trivial⟩)⟩⟩⟩⟩⟩)⟩) (fun h13 k33 => br k33 Cnd.eq (fun h17 k30 => ⟨((putB (ByteArray.empty, (a.1))), a.2.2.2.1), slK RdB.self (⟨rfl, ⟨rfl, ⟨rfl, ⟨rfl, ⟨rfl, ⟨rfl, slK (Rds.self (enc := e_api_Label)) (⟨rfl, ⟨rfl, ⟨rfl, ⟨k30.1, slK (RdB.to RdB.self (congrArg (fun x : ByteArray × Int => x.1) k30.2 :)) (⟨(congrArg (fun x : ByteArray × Int => x.2) k30.2 :), trivial⟩)⟩⟩⟩⟩)⟩⟩⟩⟩⟩⟩)⟩) (fun h18 k31 => br k31 Cnd.eq (fun h22 k28 => ⟨rfl, slK (RdB.to RdB.self (congrArg (fun x : ByteArray × Int => x.1) k28 :)) (⟨(congrArg (fun x : ByteArray × Int => x.2) k28 :), trivial⟩)⟩) (fun h23 k29 => ⟨((putB (ByteArray.empty, (a.1))), a.2.2.2.2), slK RdB.self (⟨rfl, ⟨k29.1, ⟨rfl, slK (RdB.to RdB.self (congrArg (fun x : ByteArray × Int => x.1) k29.2 :)) (⟨(congrArg (fun x : ByteArray × Int => x.2) k29.2 :), trivial⟩)⟩⟩⟩)⟩))))⟩⟩)⟩))⟩⟩⟩⟩⟩)⟩⟩⟩⟩⟩⟩⟩⟩⟩⟩)⟩⟩⟩⟩⟩⟩
theorem f277.eq (a : T_api_Op) : (f277.af a).gives f277.env (f277.args a) (f277.blks a) (f277.res a) (f277.blks' a) = f277.tree a := by kernel_rfl
end Go.Abs

-- interregnum/interregnumref06.Bytes
namespace Go.Abs
open Go
def f311.args (a : T_api_Op) : List D := [.agg [.int .i64 a.1, .str a.2.1.1, .int .i64 a.2.1.2.1.1, .int .i64 a.2.1.2.1.2.1, .int .i64 a.2.1.2.1.2.2, .slice .ro 2 a.2.1.2.2.length (gl e_api_Label a.2.1.2.2), .str a.2.2.1.1, .int .i64 a.2.2.1.2.1, .int .i64 a.2.2.1.2.2.1, .int .i64 a.2.2.1.2.2.2, .str a.2.2.2.1.1, .str a.2.2.2.1.2.1, .int .i64 a.2.2.2.1.2.2.1, .int .i64 a.2.2.2.1.2.2.2.1.1, .int .i64 a.2.2.2.1.2.2.2.1.2.1, .int .i64 a.2.2.2.1.2.2.2.1.2.2, .slice .ro 2 a.2.2.2.1.2.2.2.2.1.length (gl e_api_Label a.2.2.2.1.2.2.2.2.1), .str a.2.2.2.1.2.2.2.2.2.1, .str a.2.2.2.1.2.2.2.2.2.2.1, .int .i64 a.2.2.2.1.2.2.2.2.2.2.2, .str a.2.2.2.2]]
def f311.blks (a : T_api_Op) : List (List D) := []
def f311.res (a : T_api_Op) : List D := [.str (opS a)]
def f311.blks' (a : T_api_Op) : List (List D) := []
def f311.C : Contract := FnC f311.args f311.blks (fun a => opS_pre a) f311.res f311.blks'
end Go.Abs

/- interregnum/interregnumref06.Bytes -/
namespace Go.Abs
open Go
set_option linter.unusedVariables false
def f311.kills (a : T_api_Op) : List Hint := []
def f311.cuts (a : T_api_Op) : List (Nat × Σ β : Type, β → Tm) := []
def f311.af (a : T_api_Op) : AF := AF.mk (.seq (.region [⟨(some 1), 0, .box, [.t 0], none⟩,
  ⟨(some 2), 1, .move, [.c (.str ByteArray.empty)], none⟩])
 (.seq (.region [⟨(some 4), 2, (.fieldAddr 0), [.t 1], none⟩,
  ⟨(some 5), 3, (.load false 1), [.t 4], none⟩,
  ⟨(some 6), 4, (.conv (.int .u64)), [.t 5], none⟩,
  ⟨(some 7), 5, (.call false 15), [.t 6], none⟩,
  ⟨(some 3), 9, .move, [.t 7], none⟩])
 (.seq (.seq (.region [⟨(some 8), 10, (.fieldAddr 0), [.t 1], none⟩,
  ⟨(some 9), 11, (.load false 1), [.t 8], none⟩])
 (.block 0 (.seq (.region [⟨(some 11), 12, (.bin .eql), [.t 9, .c (.int .i64 (1))], none⟩,
  ⟨(some 10), 13, .move, [.t 11], none⟩])
 (.cond (.t 10) (.seq (.region [⟨(some 12), 14, .move, [.t 3], none⟩,
  ⟨(some 13), 15, (.fieldAddr 1), [.t 1], none⟩,
  ⟨(some 14), 16, (.load true 5), [.t 13], none⟩,
  ⟨(some 15), 17, (.call false 40), [.t 14], none⟩,
  ⟨(some 16), 21, (.bin .add), [.t 12, .t 15], none⟩,
  ⟨(some 2), 22, .move, [.t 16], none⟩])
 (.ret)) (.seq (.region [⟨(some 18), 23, (.bin .eql), [.t 9, .c (.int .i64 (3))], none⟩,
  ⟨(some 17), 24, .move, [.t 18], none⟩])
 (.cond (.t 17) (.seq (.region [⟨(some 19), 25, .move, [.t 3], none⟩,
  ⟨(some 20), 26, (.fieldAddr 6), [.t 1], none⟩,
  ⟨(some 21), 27, (.load true 4), [.t 20], none⟩,
  ⟨(some 22), 28, (.call false 42), [.t 21], none⟩,
  ⟨(some 23), 32, (.bin .add), [.t 19, .t 22], none⟩,
  ⟨(some 2), 33, .move, [.t 23], none⟩])
 (.ret)) (.seq (.region [⟨(some 25), 34, (.bin .eql), [.t 9, .c (.int .i64 (5))], none⟩,
  ⟨(some 24), 35, .move, [.t 25], none⟩])
 (.cond (.t 24) (.seq (.region [⟨(some 26), 36, .move, [.t 3], none⟩,
  ⟨(some 27), 37, (.fieldAddr 10), [.t 1], none⟩,
  ⟨(some 28), 38, (.load true 10), [.t 27], none⟩,
  ⟨(some 29), 39, (.call false 44), [.t 28], none⟩,
  ⟨(some 30), 43, (.bin .add), [.t 26, .t 29], none⟩,
  ⟨(some 2), 44, .move, [.t 30], none⟩])
 (.ret)) (.seq (.region [⟨(some 32), 45, (.bin .eql), [.t 9, .c (.int .i64 (9))], none⟩,
  ⟨(some 31), 46, .move, [.t 32], none⟩])
 (.cond (.t 31) (.seq (.region [⟨(some 33), 47, .move, [.t 3], none⟩,
  ⟨(some 2), 48, .move, [.t 33], none⟩])
 (.ret)) (.skip)))))))))))
 (.seq (.region [⟨(some 34), 49, .move, [.t 3], none⟩,
  ⟨(some 35), 50, (.fieldAddr 20), [.t 1], none⟩,
  ⟨(some 36), 51, (.load false 1), [.t 35], none⟩,
  ⟨(some 37), 52, (.call false 17), [.t 36], none⟩,
  ⟨(some 38), 56, (.bin .add), [.t 34, .t 37], none⟩,
  ⟨(some 2), 57, .move, [.t 38], none⟩])
 (.ret)))))
  [.tmp 2] 0 38
def f311.env : Env := [(15, f15.C), (40, f40.C), (42, f42.C), (44, f44.C), (17, f17.C)]
def f311.tree (a : T_api_Op) : Prop := Let (IntKind.u64.wrap a.1) (fun v1 : Int => ∃ c2 : Int, (v1 = c2) ∧ (num_pre c2) ∧ Br (a.1 == (1 : Int)) (∃ c5 : T_api_Node, (a.2.1.1 = c5.1) ∧ (a.2.1.2.1.1 = c5.2.1.1) ∧ (a.2.1.2.1.2.1 = c5.2.1.2.1) ∧ (a.2.1.2.1.2.2 = c5.2.1.2.2) ∧ (a.2.1.2.2.length = c5.2.2.length) ∧ (∀ i, i < c5.2.2.length → DEqs ((gl e_api_Label a.2.1.2.2) i) ((gl e_api_Label c5.2.2) i)) ∧ (node_pre c5) ∧ Br (Nat.ble ((numS c2).size + (nodeS c5).size) 9223372036854775807) ((((numS c2) ++ (nodeS c5)) = (opS a)) ∧ True) False) (Br (a.1 == (3 : Int)) (∃ c12 : T_api_Queue, (a.2.2.1.1 = c12.1) ∧ (a.2.2.1.2.1 = c12.2.1) ∧ (a.2.2.1.2.2.1 = c12.2.2.1) ∧ (a.2.2.1.2.2.2 = c12.2.2.2) ∧ (queue_pre c12) ∧ Br (Nat.ble ((numS c2).size + (queueS c12).size) 9223372036854775807) ((((numS c2) ++ (queueS c12)) = (opS a)) ∧ True) False) (Br (a.1 == (5 : Int)) (∃ c19 : T_api_Task, (a.2.2.2.1.1 = c19.1) ∧ (a.2.2.2.1.2.1 = c19.2.1) ∧ (a.2.2.2.1.2.2.1 = c19.2.2.1) ∧ (a.2.2.2.1.2.2.2.1.1 = c19.2.2.2.1.1) ∧ (a.2.2.2.1.2.2.2.1.2.1 = c19.2.2.2.1.2.1) ∧ (a.2.2.2.1.2.2.2.1.2.2 = c19.2.2.2.1.2.2) ∧ (a.2.2.2.1.2.2.2.2.1.length = c19.2.2.2.2.1.length) ∧ (∀ i, i < c19.2.2.2.2.1.length → DEqs ((gl e_api_Label a.2.2.2.1.2.2.2.2.1) i) ((gl e_api_Label c19.2.2.2.2.1) i)) ∧ (a.2.2.2.1.2.2.2.2.2.1 = c19.2.2.2.2.2.1) ∧ (a.2.2.2.1.2.2.2.2.2.2.1 = c19.2.2.2.2.2.2.1) ∧ (a.2.2.2.1.2.2.2.2.2.2.2 = c19.2.2.2.2.2.2.2) ∧ (task_pre c19) ∧ Br (Nat.ble ((numS c2).size + (taskS c19).size) 9223372036854775807) ((((numS c2) ++ (taskS c19)) = (opS a)) ∧ True) False) (Br (a.1 == (9 : Int)) (((numS c2) = (opS a)) ∧ True) (∃ c27 : ByteArray, (a.2.2.2.2 = c27) ∧ (text_pre c27) ∧ Br (Nat.ble ((numS c2).size + (textS c27).size) 9223372036854775807) ((((numS c2) ++ (textS c27)) = (opS a)) ∧ True) False)))))
def f311.vc (a : T_api_Op) : Prop := (0 ≤ a.1 ∧ a.1 ≤ 18446744073709551615 ∧ (num_pre (a.1) ∧ ((a.1 = (1 : Int) → (node_pre a.2.1 ∧ (((numS (a.1)).size + (nodeS (a.2.1)).size ≤ 9223372036854775807) ∧ ((numS (a.1)) ++ (nodeS (a.2.1)) = opS a)))) ∧ (¬ (a.1 = (1 : Int)) → ((a.1 = (3 : Int) → (queue_pre a.2.2.1 ∧ (((numS (a.1)).size + (queueS (a.2.2.1)).size ≤ 9223372036854775807) ∧ ((numS (a.1)) ++ (queueS (a.2.2.1)) = opS a)))) ∧ (¬ (a.1 = (3 : Int)) → ((a.1 = (5 : Int) → (task_pre a.2.2.2.1 ∧ (((numS (a.1)).size + (taskS (a.2.2.2.1)).size ≤ 9223372036854775807) ∧ ((numS (a.1)) ++ (taskS (a.2.2.2.1)) = opS a)))) ∧ (¬ (a.1 = (5 : Int)) → ((a.1 = (9 : Int) → ((numS (a.1)) = opS a)) ∧ (¬ (a.1 = (9 : Int)) → (text_pre a.2.2.2.2 ∧ (((numS (a.1)).size + (textS (a.2.2.2.2)).size ≤ 9223372036854775807) ∧ ((numS (a.1)) ++ (textS (a.2.2.2.2)) = opS a)))))))))))))
set_option maxRecDepth 100000 in
set_option maxHeartbeats 2000000 in
theorem f311.of (a : T_api_Op) (h : f311.vc a) : f311.tree a := wrapK.u64 h (fun h41 h42 k43 => ⟨(a.1), ⟨rfl, ⟨k43.1, br k43.2 Cnd.eq (fun h3 k38 => ⟨a.2.1, ⟨rfl, ⟨rfl, ⟨rfl, ⟨rfl, slK (Rds.self (enc := e_api_Label)) (⟨k38.1, chk k38.2.2 Cnd.ble k38.2.1 (fun h6 k8 => ⟨k8, trivial⟩)⟩)⟩⟩⟩⟩⟩) (fun h4 k39 => br k39 Cnd.eq (fun h10 k36 => ⟨a.2.2.1, ⟨rfl, ⟨rfl, ⟨rfl, ⟨rfl, ⟨k36.1, chk k36.2.2 Cnd.ble k36.2.1 (fun h13 k15 => ⟨k15, trivial⟩)⟩⟩⟩⟩⟩⟩) (fun h11 k37 => br k37 Cnd.eq (fun h17 k34 => ⟨a.2.2.2.1, ⟨rfl, ⟨rfl, ⟨rfl, ⟨rfl, ⟨rfl, ⟨rfl, slK (Rds.self (enc := e_api_Label)) (⟨rfl, ⟨rfl, ⟨rfl, ⟨k34.1, chk k34.2.2 Cnd.ble k34.2.1 (fun h20 k22 => ⟨k22, trivial⟩)⟩⟩⟩⟩)⟩⟩⟩⟩⟩⟩⟩) (fun h18 k35 => br k35 Cnd.eq (fun h24 k32 => ⟨k32, trivial⟩) (fun h25 k33 => ⟨a.2.2.2.2, ⟨rfl, ⟨k33.1, chk k33.2.2 Cnd.ble k33.2.1 (fun h28 k30 => ⟨k30, trivial⟩)⟩⟩⟩))))⟩⟩⟩)
theorem f311.eq (a : T_api_Op) : (f311.af a).gives f311.env (f311.args a) (f311.blks a) (f311.res a) (f311.blks' a) = f311.tree a := by kernel_rfl
end Go.Abs

-- interregnum/interregnumref06.Encode
namespace Go.Abs
open Go
def f278.args (a : T_api_Op) : List D := [.agg [.int .i64 a.1, .str a.2.1.1, .int .i64 a.2.1.2.1.1, .int .i64 a.2.1.2.1.2.1, .int .i64 a.2.1.2.1.2.2, .slice .ro 2 a.2.1.2.2.length (gl e_api_Label a.2.1.2.2), .str a.2.2.1.1, .int .i64 a.2.2.1.2.1, .int .i64 a.2.2.1.2.2.1, .int .i64 a.2.2.1.2.2.2, .str a.2.2.2.1.1, .str a.2.2.2.1.2.1, .int .i64 a.2.2.2.1.2.2.1, .int .i64 a.2.2.2.1.2.2.2.1.1, .int .i64 a.2.2.2.1.2.2.2.1.2.1, .int .i64 a.2.2.2.1.2.2.2.1.2.2, .slice .ro 2 a.2.2.2.1.2.2.2.2.1.length (gl e_api_Label a.2.2.2.1.2.2.2.2.1), .str a.2.2.2.1.2.2.2.2.2.1, .str a.2.2.2.1.2.2.2.2.2.2.1, .int .i64 a.2.2.2.1.2.2.2.2.2.2.2, .str a.2.2.2.2]]
def f278.blks (a : T_api_Op) : List (List D) := []
def f278.res (a : T_api_Op) : List D := [.str ((encO a).1), .int .i64 ((encO a).2)]
def f278.blks' (a : T_api_Op) : List (List D) := []
def f278.C : Contract := FnC f278.args f278.blks (fun a => encO_pre a) f278.res f278.blks'
end Go.Abs

/- interregnum/interregnumref06.Encode -/
namespace Go.Abs
open Go
set_option linter.unusedVariables false
def f278.kills (a : T_api_Op) : List Hint := []
def f278.cuts (a : T_api_Op) : List (Nat × Σ β : Type, β → Tm) := []
def f278.af (a : T_api_Op) : AF := AF.mk (.seq (.region [⟨(some 1), 0, .box, [.t 0], none⟩,
  ⟨(some 2), 1, .move, [.c (.str ByteArray.empty)], none⟩,
  ⟨(some 3), 2, .move, [.c (.int .i64 (0))], none⟩])
 (.seq (.seq (.region [⟨(some 4), 3, (.load true 21), [.t 1], none⟩,
  ⟨(some 5), 4, (.call false 279), [.t 4], none⟩,
  ⟨(some 6), 8, (.un .not), [.t 5], none⟩])
 (.cond (.t 6) (.seq (.region [⟨(some 2), 9, .move, [.c (.str ByteArray.empty)], none⟩,
  ⟨(some 3), 10, .move, [.c (.int .i64 (1))], none⟩])
 (.ret)) (.skip)))
 (.seq (.region [⟨(some 7), 11, (.load true 21), [.t 1], none⟩,
  ⟨(some 8), 12, (.call false 311), [.t 7], none⟩,
  ⟨(some 2), 16, .move, [.t 8], none⟩,
  ⟨(some 3), 17, .move, [.c (.int .i64 (0))], none⟩])
 (.ret))))
  [.tmp 2, .tmp 3] 0 8
def f278.env : Env := [(279, f279.C), (311, f311.C)]
def f278.tree (a : T_api_Op) : Prop := ∃ c1 : T_api_Op, (a.1 = c1.1) ∧ (a.2.1.1 = c1.2.1.1) ∧ (a.2.1.2.1.1 = c1.2.1.2.1.1) ∧ (a.2.1.2.1.2.1 = c1.2.1.2.1.2.1) ∧ (a.2.1.2.1.2.2 = c1.2.1.2.1.2.2) ∧ (a.2.1.2.2.length = c1.2.1.2.2.length) ∧ (∀ i, i < c1.2.1.2.2.length → DEqs ((gl e_api_Label a.2.1.2.2) i) ((gl e_api_Label c1.2.1.2.2) i)) ∧ (a.2.2.1.1 = c1.2.2.1.1) ∧ (a.2.2.1.2.1 = c1.2.2.1.2.1) ∧ (a.2.2.1.2.2.1 = c1.2.2.1.2.2.1) ∧ (a.2.2.1.2.2.2 = c1.2.2.1.2.2.2) ∧ (a.2.2.2.1.1 = c1.2.2.2.1.1) ∧ (a.2.2.2.1.2.1 = c1.2.2.2.1.2.1) ∧ (a.2.2.2.1.2.2.1 = c1.2.2.2.1.2.2.1) ∧ (a.2.2.2.1.2.2.2.1.1 = c1.2.2.2.1.2.2.2.1.1) ∧ (a.2.2.2.1.2.2.2.1.2.1 = c1.2.2.2.1.2.2.2.1.2.1) ∧ (a.2.2.2.1.2.2.2.1.2.2 = c1.2.2.2.1.2.2.2.1.2.2) ∧ (a.2.2.2.1.2.2.2.2.1.length = c1.2.2.2.1.2.2.2.2.1.length) ∧ (∀ i, i < c1.2.2.2.1.2.2.2.2.1.length → DEqs ((gl e_api_Label a.2.2.2.1.2.2.2.2.1) i) ((gl e_api_Label c1.2.2.2.1.2.2.2.2.1) i)) ∧ (a.2.2.2.1.2.2.2.2.2.1 = c1.2.2.2.1.2.2.2.2.2.1) ∧ (a.2.2.2.1.2.2.2.2.2.2.1 = c1.2.2.2.1.2.2.2.2.2.2.1) ∧ (a.2.2.2.1.2.2.2.2.2.2.2 = c1.2.2.2.1.2.2.2.2.2.2.2) ∧ (a.2.2.2.2 = c1.2.2.2.2) ∧ (op_pre c1) ∧ Br (!(rightO c1)) ((ByteArray.empty = ((encO a).1)) ∧ ((1 : Int) = ((encO a).2)) ∧ True) (∃ c5 : T_api_Op, (a.1 = c5.1) ∧ (a.2.1.1 = c5.2.1.1) ∧ (a.2.1.2.1.1 = c5.2.1.2.1.1) ∧ (a.2.1.2.1.2.1 = c5.2.1.2.1.2.1) ∧ (a.2.1.2.1.2.2 = c5.2.1.2.1.2.2) ∧ (a.2.1.2.2.length = c5.2.1.2.2.length) ∧ (∀ i, i < c5.2.1.2.2.length → DEqs ((gl e_api_Label a.2.1.2.2) i) ((gl e_api_Label c5.2.1.2.2) i)) ∧ (a.2.2.1.1 = c5.2.2.1.1) ∧ (a.2.2.1.2.1 = c5.2.2.1.2.1) ∧ (a.2.2.1.2.2.1 = c5.2.2.1.2.2.1) ∧ (a.2.2.1.2.2.2 = c5.2.2.1.2.2.2) ∧ (a.2.2.2.1.1 = c5.2.2.2.1.1) ∧ (a.2.2.2.1.2.1 = c5.2.2.2.1.2.1) ∧ (a.2.2.2.1.2.2.1 = c5.2.2.2.1.2.2.1) ∧ (a.2.2.2.1.2.2.2.1.1 = c5.2.2.2.1.2.2.2.1.1) ∧ (a.2.2.2.1.2.2.2.1.2.1 = c5.2.2.2.1.2.2.2.1.2.1) ∧ (a.2.2.2.1.2.2.2.1.2.2 = c5.2.2.2.1.2.2.2.1.2.2) ∧ (a.2.2.2.1.2.2.2.2.1.length = c5.2.2.2.1.2.2.2.2.1.length) ∧ (∀ i, i < c5.2.2.2.1.2.2.2.2.1.length → DEqs ((gl e_api_Label a.2.2.2.1.2.2.2.2.1) i) ((gl e_api_Label c5.2.2.2.1.2.2.2.2.1) i)) ∧ (a.2.2.2.1.2.2.2.2.2.1 = c5.2.2.2.1.2.2.2.2.2.1) ∧ (a.2.2.2.1.2.2.2.2.2.2.1 = c5.2.2.2.1.2.2.2.2.2.2.1) ∧ (a.2.2.2.1.2.2.2.2.2.2.2 = c5.2.2.2.1.2.2.2.2.2.2.2) ∧ (a.2.2.2.2 = c5.2.2.2.2) ∧ (opS_pre c5) ∧ ((opS c5) = ((encO a).1)) ∧ ((0 : Int) = ((encO a).2)) ∧ True)
def f278.vc (a : T_api_Op) : Prop := (op_pre a ∧ ((¬ ((rightO a) = true) → ((ByteArray.empty, (1 : Int)) = encO a)) ∧ (¬ (¬ ((rightO a) = true)) → (opS_pre a ∧ (((opS a), (0 : Int)) = encO a)))))
set_option maxRecDepth 100000 in
set_option maxHeartbeats 2000000 in
theorem f278.of (a : T_api_Op) (h : f278.vc a) : f278.tree a := ⟨a, ⟨rfl, ⟨rfl, ⟨rfl, ⟨rfl, ⟨rfl, slK (Rds.self (enc := e_api_Label)) (⟨rfl, ⟨rfl, ⟨rfl, ⟨rfl, ⟨rfl, ⟨rfl, ⟨rfl, ⟨rfl, ⟨rfl, ⟨rfl, slK (Rds.self (enc := e_api_Label)) (⟨rfl, ⟨rfl, ⟨rfl, ⟨rfl, ⟨h.1, br h.2 (Cnd.not Cnd.b) (fun h2 k8 => ⟨(congrArg (fun x : ByteArray × Int => x.1) k8 :), ⟨(congrArg (fun x : ByteArray × Int => x.2) k8 :), trivial⟩⟩) (fun h3 k9 => ⟨a, ⟨rfl, ⟨rfl, ⟨rfl, ⟨rfl, ⟨rfl, slK (Rds.self (enc := e_api_Label)) (⟨rfl, ⟨rfl, ⟨rfl, ⟨rfl, ⟨rfl, ⟨rfl, ⟨rfl, ⟨rfl, ⟨rfl, ⟨rfl, slK (Rds.self (enc := e_api_Label)) (⟨rfl, ⟨rfl, ⟨rfl, ⟨rfl, ⟨k9.1, ⟨(congrArg (fun x : ByteArray × Int => x.1) k9.2 :), ⟨(congrArg (fun x : ByteArray × Int => x.2) k9.2 :), trivial⟩⟩⟩⟩⟩⟩⟩)⟩⟩⟩⟩⟩⟩⟩⟩⟩⟩)⟩⟩⟩⟩⟩⟩)⟩⟩⟩⟩⟩)⟩⟩⟩⟩⟩⟩⟩⟩⟩⟩)⟩⟩⟩⟩⟩⟩
theorem f278.eq (a : T_api_Op) : (f278.af a).gives f278.env (f278.args a) (f278.blks a) (f278.res a) (f278.blks' a) = f278.tree a := by kernel_rfl
end Go.Abs

-- interregnum/oper.takes
namespace Go.Abs
open Go
end Go.Abs

/- interregnum/oper.takes -/
namespace Go.Abs
open Go
set_option linter.unusedVariables false
end Go.Abs

-- interregnum/oper.Decode
namespace Go.Abs
open Go
end Go.Abs

/- interregnum/oper.Decode -/
namespace Go.Abs
open Go
set_option linter.unusedVariables false
end Go.Abs

-- interregnum/interregnumref06.SameOp
namespace Go.Abs
open Go
end Go.Abs

/- interregnum/interregnumref06.SameOp -/
namespace Go.Abs
open Go
set_option linter.unusedVariables false
end Go.Abs

-- interregnum/interregnumlaw06.few
namespace Go.Abs
open Go
def f276.args (a : T_api_Op) : List D := [.agg [.int .i64 a.1, .str a.2.1.1, .int .i64 a.2.1.2.1.1, .int .i64 a.2.1.2.1.2.1, .int .i64 a.2.1.2.1.2.2, .slice .ro 2 a.2.1.2.2.length (gl e_api_Label a.2.1.2.2), .str a.2.2.1.1, .int .i64 a.2.2.1.2.1, .int .i64 a.2.2.1.2.2.1, .int .i64 a.2.2.1.2.2.2, .str a.2.2.2.1.1, .str a.2.2.2.1.2.1, .int .i64 a.2.2.2.1.2.2.1, .int .i64 a.2.2.2.1.2.2.2.1.1, .int .i64 a.2.2.2.1.2.2.2.1.2.1, .int .i64 a.2.2.2.1.2.2.2.1.2.2, .slice .ro 2 a.2.2.2.1.2.2.2.2.1.length (gl e_api_Label a.2.2.2.1.2.2.2.2.1), .str a.2.2.2.1.2.2.2.2.2.1, .str a.2.2.2.1.2.2.2.2.2.2.1, .int .i64 a.2.2.2.1.2.2.2.2.2.2.2, .str a.2.2.2.2]]
def f276.blks (a : T_api_Op) : List (List D) := []
def f276.res (a : T_api_Op) : List D := [.bool (few6 a)]
def f276.blks' (a : T_api_Op) : List (List D) := []
def f276.C : Contract := FnC f276.args f276.blks (fun a => op_pre a) f276.res f276.blks'
end Go.Abs

/- interregnum/interregnumlaw06.few -/
namespace Go.Abs
open Go
set_option linter.unusedVariables false
def f276.kills (a : T_api_Op) : List Hint := [.tell Int (fun x => ⟨[.dead, .dead, .dead, .ptr 6 0, .ptr 12 0, .dead, .dead, .dead, .dead, .dead, .dead, .dead, .dead, .dead, .dead, .dead, .dead, .dead, .dead, .dead, .dead, .dead, .dead, .dead, .dead, .dead, .dead, .dead, .dead, .dead, .dead, .dead, .dead, .dead, .dead, .dead, .dead, .dead, .dead, .dead, .dead, .dead, .dead, .dead, .dead, .dead, .dead, .dead, .dead, .dead, .dead, .dead, .dead, .dead, .int .i64 (a.2.1.2.2.length : Int), .int .i64 x, .dead, .dead, .dead, .dead, .dead, .dead, .dead, .dead, .dead, .dead, .dead, .dead, .dead, .dead, .dead, .dead, .dead, .dead, .dead, .dead, .dead, .dead, .dead, .dead, .dead, .dead, .dead, .dead, .dead, .dead, .dead, .dead, .dead, .dead, .dead, .dead, .dead, .dead, .dead, .dead, .dead, .dead], [(6, false, [.str a.2.1.1, .int .i64 a.2.1.2.1.1, .int .i64 a.2.1.2.1.2.1, .int .i64 a.2.1.2.1.2.2, .slice .ro 2 a.2.1.2.2.length (gl e_api_Label a.2.1.2.2)]), (12, false, [.str a.2.2.2.1.1, .str a.2.2.2.1.2.1, .int .i64 a.2.2.2.1.2.2.1, .int .i64 a.2.2.2.1.2.2.2.1.1, .int .i64 a.2.2.2.1.2.2.2.1.2.1, .int .i64 a.2.2.2.1.2.2.2.1.2.2, .slice .ro 2 a.2.2.2.1.2.2.2.2.1.length (gl e_api_Label a.2.2.2.1.2.2.2.2.1), .str a.2.2.2.1.2.2.2.2.2.1, .str a.2.2.2.1.2.2.2.2.2.2.1, .int .i64 a.2.2.2.1.2.2.2.2.2.2.2])], []⟩),
  .tell Int (fun x => ⟨[.dead, .dead, .dead, .dead, .ptr 12 0, .dead, .dead, .dead, .dead, .dead, .dead, .dead, .dead, .dead, .dead, .dead, .dead, .dead, .dead, .dead, .dead, .dead, .dead, .dead, .dead, .dead, .dead, .dead, .dead, .dead, .dead, .dead, .dead, .dead, .dead, .dead, .dead, .dead, .dead, .dead, .dead, .dead, .dead, .dead, .dead, .dead, .dead, .dead, .dead, .dead, .dead, .dead, .dead, .dead, .dead, .dead, .dead, .dead, .dead, .dead, .dead, .dead, .dead, .dead, .dead, .dead, .dead, .dead, .dead, .dead, .dead, .dead, .dead, .dead, .dead, .dead, .dead, .int .i64 (a.2.2.2.1.2.2.2.2.1.length : Int), .int .i64 x, .dead, .dead, .dead, .dead, .dead, .dead, .dead, .dead, .dead, .dead, .dead, .dead, .dead, .dead, .dead, .dead, .dead, .dead, .dead], [(12, false, [.str a.2.2.2.1.1, .str a.2.2.2.1.2.1, .int .i64 a.2.2.2.1.2.2.1, .int .i64 a.2.2.2.1.2.2.2.1.1, .int .i64 a.2.2.2.1.2.2.2.1.2.1, .int .i64 a.2.2.2.1.2.2.2.1.2.2, .slice .ro 2 a.2.2.2.1.2.2.2.2.1.length (gl e_api_Label a.2.2.2.1.2.2.2.2.1), .str a.2.2.2.1.2.2.2.2.2.1, .str a.2.2.2.1.2.2.2.2.2.2.1, .int .i64 a.2.2.2.1.2.2.2.2.2.2.2])], []⟩)]
def f276.cuts (a : T_api_Op) : List (Nat × Σ β : Type, β → Tm) := []
def f276.af (a : T_api_Op) : AF := AF.mk (.seq (.region [⟨(some 1), 0, .box, [.t 0], none⟩,
  ⟨(some 2), 1, .move, [.c (.bool false)], none⟩])
 (.seq (.orders [[⟨(some 7), 2, (.fieldAddr 1), [.t 1], none⟩, ⟨(some 8), 3, (.load true 5), [.t 7], none⟩, ⟨(some 9), 4, (.fieldAddr 10), [.t 1], none⟩, ⟨(some 10), 5, (.load true 10), [.t 9], none⟩, ⟨(some 3), 6, (.alloc [.str ByteArray.empty, .int .i64 (0), .int .i64 (0), .int .i64 (0), .slice (.own 0) 2 0 gnil]), [], none⟩, ⟨(some 4), 12, (.alloc [.str ByteArray.empty, .str ByteArray.empty, .int .i64 (0), .int .i64 (0), .int .i64 (0), .int .i64 (0), .slice (.own 0) 2 0 gnil, .str ByteArray.empty, .str ByteArray.empty, .int .i64 (0)]), [], none⟩, ⟨none, 23, (.store 5), [.t 3, .t 8], none⟩, ⟨none, 24, (.store 10), [.t 4, .t 10], none⟩],
  [⟨(some 7), 2, (.fieldAddr 1), [.t 1], none⟩, ⟨(some 8), 3, (.load true 5), [.t 7], none⟩, ⟨(some 9), 4, (.fieldAddr 10), [.t 1], none⟩, ⟨(some 3), 6, (.alloc [.str ByteArray.empty, .int .i64 (0), .int .i64 (0), .int .i64 (0), .slice (.own 0) 2 0 gnil]), [], none⟩, ⟨(some 4), 12, (.alloc [.str ByteArray.empty, .str ByteArray.empty, .int .i64 (0), .int .i64 (0), .int .i64 (0), .int .i64 (0), .slice (.own 0) 2 0 gnil, .str ByteArray.empty, .str ByteArray.empty, .int .i64 (0)]), [], none⟩, ⟨none, 23, (.store 5), [.t 3, .t 8], none⟩, ⟨(some 10), 5, (.load true 10), [.t 9], none⟩, ⟨none, 24, (.store 10), [.t 4, .t 10], none⟩]])
 (.seq (.seq (.region [⟨(some 11), 25, (.fieldAddr 4), [.t 3], none⟩,
  ⟨(some 12), 26, (.load false 1), [.t 11], none⟩,
  ⟨(some 13), 27, (.len false), [.t 12], none⟩,
  ⟨(some 14), 28, (.bin .gtr), [.t 13, .c (.int .i64 (100))], none⟩,
  ⟨(some 15), 29, .move, [.t 14], none⟩,
  ⟨(some 16), 30, (.fieldAddr 6), [.t 4], (some (15, false))⟩,
  ⟨(some 17), 31, (.load false 1), [.t 16], (some (15, false))⟩,
  ⟨(some 18), 32, (.len false), [.t 17], (some (15, false))⟩,
  ⟨(some 19), 33, (.bin .gtr), [.t 18, .c (.int .i64 (100))], (some (15, false))⟩,
  ⟨(some 20), 34, .pick, [.t 15, .c (.bool true), .t 19], none⟩,
  ⟨(some 21), 35, .move, [.t 20], none⟩,
  ⟨(some 22), 36, (.fieldAddr 0), [.t 3], (some (21, false))⟩,
  ⟨(some 23), 37, (.load false 1), [.t 22], (some (21, false))⟩,
  ⟨(some 24), 38, (.len true), [.t 23], (some (21, false))⟩,
  ⟨(some 25), 39, (.fieldAddr 6), [.t 1], (some (21, false))⟩,
  ⟨(some 26), 40, (.fieldAddr 0), [.t 25], (some (21, false))⟩,
  ⟨(some 27), 41, (.load false 1), [.t 26], (some (21, false))⟩,
  ⟨(some 28), 42, (.len true), [.t 27], (some (21, false))⟩,
  ⟨(some 29), 43, (.bin .add), [.t 24, .t 28], (some (21, false))⟩,
  ⟨(some 30), 44, (.fieldAddr 0), [.t 4], (some (21, false))⟩,
  ⟨(some 31), 45, (.load false 1), [.t 30], (some (21, false))⟩,
  ⟨(some 32), 46, (.len true), [.t 31], (some (21, false))⟩,
  ⟨(some 33), 47, (.bin .add), [.t 29, .t 32], (some (21, false))⟩,
  ⟨(some 34), 48, (.fieldAddr 1), [.t 4], (some (21, false))⟩,
  ⟨(some 35), 49, (.load false 1), [.t 34], (some (21, false))⟩,
  ⟨(some 36), 50, (.len true), [.t 35], (some (21, false))⟩,
  ⟨(some 37), 51, (.bin .add), [.t 33, .t 36], (some (21, false))⟩,
  ⟨(some 38), 52, (.fieldAddr 7), [.t 4], (some (21, false))⟩,
  ⟨(some 39), 53, (.load false 1), [.t 38], (some (21, false))⟩,
  ⟨(some 40), 54, (.len true), [.t 39], (some (21, false))⟩,
  ⟨(some 41), 55, (.bin .add), [.t 37, .t 40], (some (21, false))⟩,
  ⟨(some 42), 56, (.fieldAddr 8), [.t 4], (some (21, false))⟩,
  ⟨(some 43), 57, (.load false 1), [.t 42], (some (21, false))⟩,
  ⟨(some 44), 58, (.len true), [.t 43], (some (21, false))⟩,
  ⟨(some 45), 59, (.bin .add), [.t 41, .t 44], (some (21, false))⟩,
  ⟨(some 46), 60, (.fieldAddr 20), [.t 1], (some (21, false))⟩,
  ⟨(some 47), 61, (.load false 1), [.t 46], (some (21, false))⟩,
  ⟨(some 48), 62, (.len true), [.t 47], (some (21, false))⟩,
  ⟨(some 49), 63, (.bin .add), [.t 45, .t 48], (some (21, false))⟩,
  ⟨(some 50), 64, (.bin .gtr), [.t 49, .c (.int .i64 (5000))], (some (21, false))⟩,
  ⟨(some 51), 65, .pick, [.t 21, .c (.bool true), .t 50], none⟩])
 (.cond (.t 51) (.seq (.region [⟨(some 2), 66, .move, [.c (.bool false)], none⟩])
 (.ret)) (.skip)))
 (.seq (.seq (.region [⟨(some 52), 67, (.fieldAddr 4), [.t 3], none⟩,
  ⟨(some 53), 68, (.load false 1), [.t 52], none⟩,
  ⟨(some 54), 69, (.len false), [.t 53], none⟩,
  ⟨(some 55), 70, .move, [.c (.int .i64 (0))], none⟩])
 (.block 0 (.loopT Int (fun x => ⟨[.dead, .dead, .dead, .ptr 6 0, .ptr 12 0, .dead, .dead, .dead, .dead, .dead, .dead, .dead, .dead, .dead, .dead, .dead, .dead, .dead, .dead, .dead, .dead, .dead, .dead, .dead, .dead, .dead, .dead, .dead, .dead, .dead, .dead, .dead, .dead, .dead, .dead, .dead, .dead, .dead, .dead, .dead, .dead, .dead, .dead, .dead, .dead, .dead, .dead, .dead, .dead, .dead, .dead, .dead, .dead, .dead, .int .i64 (a.2.1.2.2.length : Int), .int .i64 x, .dead, .dead, .dead, .dead, .dead, .dead, .dead, .dead, .dead, .dead, .dead, .dead, .dead, .dead, .dead, .dead, .dead, .dead, .dead, .dead, .dead, .dead, .dead, .dead, .dead, .dead, .dead, .dead, .dead, .dead, .dead, .dead, .dead, .dead, .dead, .dead, .dead, .dead, .dead, .dead, .dead, .dead], [(6, false, [.str a.2.1.1, .int .i64 a.2.1.2.1.1, .int .i64 a.2.1.2.1.2.1, .int .i64 a.2.1.2.1.2.2, .slice .ro 2 a.2.1.2.2.length (gl e_api_Label a.2.1.2.2)]), (12, false, [.str a.2.2.2.1.1, .str a.2.2.2.1.2.1, .int .i64 a.2.2.2.1.2.2.1, .int .i64 a.2.2.2.1.2.2.2.1.1, .int .i64 a.2.2.2.1.2.2.2.1.2.1, .int .i64 a.2.2.2.1.2.2.2.1.2.2, .slice .ro 2 a.2.2.2.1.2.2.2.2.1.length (gl e_api_Label a.2.2.2.1.2.2.2.2.1), .str a.2.2.2.1.2.2.2.2.2.1, .str a.2.2.2.1.2.2.2.2.2.2.1, .int .i64 a.2.2.2.1.2.2.2.2.2.2.2])], []⟩) 71 93 (.seq (.region [⟨(some 56), 71, (.bin .lss), [.t 55, .t 54], none⟩])
 (.seq (.cond (.t 56) (.skip) (.exit 0))
 (.seq (.block 1 (.seq (.region [⟨(some 57), 72, .move, [.t 55], none⟩,
  ⟨(some 5), 73, .move, [.t 57], none⟩])
 (.seq (.region [⟨(some 58), 74, (.fieldAddr 4), [.t 3], none⟩,
  ⟨(some 59), 75, (.load false 1), [.t 58], none⟩,
  ⟨(some 60), 76, .move, [.t 5], none⟩,
  ⟨(some 61), 77, (.indexAddr 2 none), [.t 59, .t 60], none⟩,
  ⟨(some 62), 78, (.fieldAddr 0), [.t 61], none⟩,
  ⟨(some 63), 79, (.load false 1), [.t 62], none⟩,
  ⟨(some 64), 80, (.len true), [.t 63], none⟩,
  ⟨(some 65), 81, (.fieldAddr 4), [.t 3], none⟩,
  ⟨(some 66), 82, (.load false 1), [.t 65], none⟩,
  ⟨(some 67), 83, .move, [.t 5], none⟩,
  ⟨(some 68), 84, (.indexAddr 2 none), [.t 66, .t 67], none⟩,
  ⟨(some 69), 85, (.fieldAddr 1), [.t 68], none⟩,
  ⟨(some 70), 86, (.load false 1), [.t 69], none⟩,
  ⟨(some 71), 87, (.len true), [.t 70], none⟩,
  ⟨(some 72), 88, (.bin .add), [.t 64, .t 71], none⟩,
  ⟨(some 73), 89, (.bin .gtr), [.t 72, .c (.int .i64 (1000))], none⟩])
 (.cond (.t 73) (.seq (.region [⟨(some 2), 90, .move, [.c (.bool false)], none⟩])
 (.ret)) (.skip)))))
 (.region [⟨(some 74), 91, (.bin .add), [.t 55, .c (.int .i64 (1))], none⟩,
  ⟨(some 55), 92, .move, [.t 74], none⟩])))))))
 (.seq (.seq (.region [⟨(some 75), 93, (.fieldAddr 6), [.t 4], none⟩,
  ⟨(some 76), 94, (.load false 1), [.t 75], none⟩,
  ⟨(some 77), 95, (.len false), [.t 76], none⟩,
  ⟨(some 78), 96, .move, [.c (.int .i64 (0))], none⟩])
 (.block 2 (.loopT Int (fun x => ⟨[.dead, .dead, .dead, .dead, .ptr 12 0, .dead, .dead, .dead, .dead, .dead, .dead, .dead, .dead, .dead, .dead, .dead, .dead, .dead, .dead, .dead, .dead, .dead, .dead, .dead, .dead, .dead, .dead, .dead, .dead, .dead, .dead, .dead, .dead, .dead, .dead, .dead, .dead, .dead, .dead, .dead, .dead, .dead, .dead, .dead, .dead, .dead, .dead, .dead, .dead, .dead, .dead, .dead, .dead, .dead, .dead, .dead, .dead, .dead, .dead, .dead, .dead, .dead, .dead, .dead, .dead, .dead, .dead, .dead, .dead, .dead, .dead, .dead, .dead, .dead, .dead, .dead, .dead, .int .i64 (a.2.2.2.1.2.2.2.2.1.length : Int), .int .i64 x, .dead, .dead, .dead, .dead, .dead, .dead, .dead, .dead, .dead, .dead, .dead, .dead, .dead, .dead, .dead, .dead, .dead, .dead, .dead], [(12, false, [.str a.2.2.2.1.1, .str a.2.2.2.1.2.1, .int .i64 a.2.2.2.1.2.2.1, .int .i64 a.2.2.2.1.2.2.2.1.1, .int .i64 a.2.2.2.1.2.2.2.1.2.1, .int .i64 a.2.2.2.1.2.2.2.1.2.2, .slice .ro 2 a.2.2.2.1.2.2.2.2.1.length (gl e_api_Label a.2.2.2.1.2.2.2.2.1), .str a.2.2.2.1.2.2.2.2.2.1, .str a.2.2.2.1.2.2.2.2.2.2.1, .int .i64 a.2.2.2.1.2.2.2.2.2.2.2])], []⟩) 97 119 (.seq (.region [⟨(some 79), 97, (.bin .lss), [.t 78, .t 77], none⟩])
 (.seq (.cond (.t 79) (.skip) (.exit 2))
 (.seq (.block 3 (.seq (.region [⟨(some 80), 98, .move, [.t 78], none⟩,
  ⟨(some 6), 99, .move, [.t 80], none⟩])
 (.seq (.region [⟨(some 81), 100, (.fieldAddr 6), [.t 4], none⟩,
  ⟨(some 82), 101, (.load false 1), [.t 81], none⟩,
  ⟨(some 83), 102, .move, [.t 6], none⟩,
  ⟨(some 84), 103, (.indexAddr 2 none), [.t 82, .t 83], none⟩,
  ⟨(some 85), 104, (.fieldAddr 0), [.t 84], none⟩,
  ⟨(some 86), 105, (.load false 1), [.t 85], none⟩,
  ⟨(some 87), 106, (.len true), [.t 86], none⟩,
  ⟨(some 88), 107, (.fieldAddr 6), [.t 4], none⟩,
  ⟨(some 89), 108, (.load false 1), [.t 88], none⟩,
  ⟨(some 90), 109, .move, [.t 6], none⟩,
  ⟨(some 91), 110, (.indexAddr 2 none), [.t 89, .t 90], none⟩,
  ⟨(some 92), 111, (.fieldAddr 1), [.t 91], none⟩,
  ⟨(some 93), 112, (.load false 1), [.t 92], none⟩,
  ⟨(some 94), 113, (.len true), [.t 93], none⟩,
  ⟨(some 95), 114, (.bin .add), [.t 87, .t 94], none⟩,
  ⟨(some 96), 115, (.bin .gtr), [.t 95, .c (.int .i64 (1000))], none⟩])
 (.cond (.t 96) (.seq (.region [⟨(some 2), 116, .move, [.c (.bool false)], none⟩])
 (.ret)) (.skip)))))
 (.region [⟨(some 97), 117, (.bin .add), [.t 78, .c (.int .i64 (1))], none⟩,
  ⟨(some 78), 118, .move, [.t 97], none⟩])))))))
 (.seq (.region [⟨(some 2), 119, .move, [.c (.bool true)], none⟩])
 (.ret)))))))
  [.tmp 2] 0 97
def f276.env : Env := []
def f276.tree (a : T_api_Op) : Prop := (Br (decide ((100 : Int) < (a.2.1.2.2.length : Int))) ((false = (few6 a)) ∧ True) (Br (decide ((100 : Int) < (a.2.2.2.1.2.2.2.2.1.length : Int))) ((false = (few6 a)) ∧ True) (Let (IntKind.i64.wrap ((a.2.1.1.size : Int) + (a.2.2.1.1.size : Int))) (fun v7 : Int => Let (IntKind.i64.wrap (v7 + (a.2.2.2.1.1.size : Int))) (fun v8 : Int => Let (IntKind.i64.wrap (v8 + (a.2.2.2.1.2.1.size : Int))) (fun v9 : Int => Let (IntKind.i64.wrap (v9 + (a.2.2.2.1.2.2.2.2.2.1.size : Int))) (fun v10 : Int => Let (IntKind.i64.wrap (v10 + (a.2.2.2.1.2.2.2.2.2.2.1.size : Int))) (fun v11 : Int => Let (IntKind.i64.wrap (v11 + (a.2.2.2.2.size : Int))) (fun v12 : Int => Br (decide ((5000 : Int) < v12)) ((false = (few6 a)) ∧ True) (∃ (I17 : Int → Prop) (μ18 : Int → Nat), (∃ x16 : Int, ((a.2.1.2.2.length : Int) = (a.2.1.2.2.length : Int)) ∧ ((0 : Int) = x16) ∧ (a.2.1.1 = a.2.1.1) ∧ (a.2.1.2.1.1 = a.2.1.2.1.1) ∧ (a.2.1.2.1.2.1 = a.2.1.2.1.2.1) ∧ (a.2.1.2.1.2.2 = a.2.1.2.1.2.2) ∧ (a.2.1.2.2.length = a.2.1.2.2.length) ∧ (∀ i, i < a.2.1.2.2.length → DEqs ((gl e_api_Label a.2.1.2.2) i) ((gl e_api_Label a.2.1.2.2) i)) ∧ (a.2.2.2.1.1 = a.2.2.2.1.1) ∧ (a.2.2.2.1.2.1 = a.2.2.2.1.2.1) ∧ (a.2.2.2.1.2.2.1 = a.2.2.2.1.2.2.1) ∧ (a.2.2.2.1.2.2.2.1.1 = a.2.2.2.1.2.2.2.1.1) ∧ (a.2.2.2.1.2.2.2.1.2.1 = a.2.2.2.1.2.2.2.1.2.1) ∧ (a.2.2.2.1.2.2.2.1.2.2 = a.2.2.2.1.2.2.2.1.2.2) ∧ (a.2.2.2.1.2.2.2.2.1.length = a.2.2.2.1.2.2.2.2.1.length) ∧ (∀ i, i < a.2.2.2.1.2.2.2.2.1.length → DEqs ((gl e_api_Label a.2.2.2.1.2.2.2.2.1) i) ((gl e_api_Label a.2.2.2.1.2.2.2.2.1) i)) ∧ (a.2.2.2.1.2.2.2.2.2.1 = a.2.2.2.1.2.2.2.2.2.1) ∧ (a.2.2.2.1.2.2.2.2.2.2.1 = a.2.2.2.1.2.2.2.2.2.2.1) ∧ (a.2.2.2.1.2.2.2.2.2.2.2 = a.2.2.2.1.2.2.2.2.2.2.2) ∧ I17 x16) ∧ ∀ y19 : Int, I17 y19 → (Br (decide (y19 < (a.2.1.2.2.length : Int))) (Br (decide ((0 : Int) ≤ y19) && decide (y19 < (a.2.1.2.2.length : Int))) (Br (decide ((0 : Int) ≤ y19) && decide (y19 < (a.2.1.2.2.length : Int))) (Let (IntKind.i64.wrap ((((at_ a.2.1.2.2 y19).1).size : Int) + (((at_ a.2.1.2.2 y19).2).size : Int))) (fun v24 : Int => Br (decide ((1000 : Int) < v24)) ((false = (few6 a)) ∧ True) (Let (IntKind.i64.wrap (y19 + (1 : Int))) (fun v28 : Int => ∃ x29 : Int, ((a.2.1.2.2.length : Int) = (a.2.1.2.2.length : Int)) ∧ (v28 = x29) ∧ (a.2.1.1 = a.2.1.1) ∧ (a.2.1.2.1.1 = a.2.1.2.1.1) ∧ (a.2.1.2.1.2.1 = a.2.1.2.1.2.1) ∧ (a.2.1.2.1.2.2 = a.2.1.2.1.2.2) ∧ (a.2.1.2.2.length = a.2.1.2.2.length) ∧ (∀ i, i < a.2.1.2.2.length → DEqs ((gl e_api_Label a.2.1.2.2) i) ((gl e_api_Label a.2.1.2.2) i)) ∧ (a.2.2.2.1.1 = a.2.2.2.1.1) ∧ (a.2.2.2.1.2.1 = a.2.2.2.1.2.1) ∧ (a.2.2.2.1.2.2.1 = a.2.2.2.1.2.2.1) ∧ (a.2.2.2.1.2.2.2.1.1 = a.2.2.2.1.2.2.2.1.1) ∧ (a.2.2.2.1.2.2.2.1.2.1 = a.2.2.2.1.2.2.2.1.2.1) ∧ (a.2.2.2.1.2.2.2.1.2.2 = a.2.2.2.1.2.2.2.1.2.2) ∧ (a.2.2.2.1.2.2.2.2.1.length = a.2.2.2.1.2.2.2.2.1.length) ∧ (∀ i, i < a.2.2.2.1.2.2.2.2.1.length → DEqs ((gl e_api_Label a.2.2.2.1.2.2.2.2.1) i) ((gl e_api_Label a.2.2.2.1.2.2.2.2.1) i)) ∧ (a.2.2.2.1.2.2.2.2.2.1 = a.2.2.2.1.2.2.2.2.2.1) ∧ (a.2.2.2.1.2.2.2.2.2.2.1 = a.2.2.2.1.2.2.2.2.2.2.1) ∧ (a.2.2.2.1.2.2.2.2.2.2.2 = a.2.2.2.1.2.2.2.2.2.2.2) ∧ I17 x29 ∧ μ18 x29 < μ18 y19)))) False) False) (∃ (I42 : Int → Prop) (μ43 : Int → Nat), (∃ x41 : Int, ((a.2.2.2.1.2.2.2.2.1.length : Int) = (a.2.2.2.1.2.2.2.2.1.length : Int)) ∧ ((0 : Int) = x41) ∧ (a.2.2.2.1.1 = a.2.2.2.1.1) ∧ (a.2.2.2.1.2.1 = a.2.2.2.1.2.1) ∧ (a.2.2.2.1.2.2.1 = a.2.2.2.1.2.2.1) ∧ (a.2.2.2.1.2.2.2.1.1 = a.2.2.2.1.2.2.2.1.1) ∧ (a.2.2.2.1.2.2.2.1.2.1 = a.2.2.2.1.2.2.2.1.2.1) ∧ (a.2.2.2.1.2.2.2.1.2.2 = a.2.2.2.1.2.2.2.1.2.2) ∧ (a.2.2.2.1.2.2.2.2.1.length = a.2.2.2.1.2.2.2.2.1.length) ∧ (∀ i, i < a.2.2.2.1.2.2.2.2.1.length → DEqs ((gl e_api_Label a.2.2.2.1.2.2.2.2.1) i) ((gl e_api_Label a.2.2.2.1.2.2.2.2.1) i)) ∧ (a.2.2.2.1.2.2.2.2.2.1 = a.2.2.2.1.2.2.2.2.2.1) ∧ (a.2.2.2.1.2.2.2.2.2.2.1 = a.2.2.2.1.2.2.2.2.2.2.1) ∧ (a.2.2.2.1.2.2.2.2.2.2.2 = a.2.2.2.1.2.2.2.2.2.2.2) ∧ I42 x41) ∧ ∀ y44 : Int, I42 y44 → (Br (decide (y44 < (a.2.2.2.1.2.2.2.2.1.length : Int))) (Br (decide ((0 : Int) ≤ y44) && decide (y44 < (a.2.2.2.1.2.2.2.2.1.length : Int))) (Br (decide ((0 : Int) ≤ y44) && decide (y44 < (a.2.2.2.1.2.2.2.2.1.length : Int))) (Let (IntKind.i64.wrap ((((at_ a.2.2.2.1.2.2.2.2.1 y44).1).size : Int) + (((at_ a.2.2.2.1.2.2.2.2.1 y44).2).size : Int))) (fun v49 : Int => Br (decide ((1000 : Int) < v49)) ((false = (few6 a)) ∧ True) (Let (IntKind.i64.wrap (y44 + (1 : Int))) (fun v53 : Int => ∃ x54 : Int, ((a.2.2.2.1.2.2.2.2.1.length : Int) = (a.2.2.2.1.2.2.2.2.1.length : Int)) ∧ (v53 = x54) ∧ (a.2.2.2.1.1 = a.2.2.2.1.1) ∧ (a.2.2.2.1.2.1 = a.2.2.2.1.2.1) ∧ (a.2.2.2.1.2.2.1 = a.2.2.2.1.2.2.1) ∧ (a.2.2.2.1.2.2.2.1.1 = a.2.2.2.1.2.2.2.1.1) ∧ (a.2.2.2.1.2.2.2.1.2.1 = a.2.2.2.1.2.2.2.1.2.1) ∧ (a.2.2.2.1.2.2.2.1.2.2 = a.2.2.2.1.2.2.2.1.2.2) ∧ (a.2.2.2.1.2.2.2.2.1.length = a.2.2.2.1.2.2.2.2.1.length) ∧ (∀ i, i < a.2.2.2.1.2.2.2.2.1.length → DEqs ((gl e_api_Label a.2.2.2.1.2.2.2.2.1) i) ((gl e_api_Label a.2.2.2.1.2.2.2.2.1) i)) ∧ (a.2.2.2.1.2.2.2.2.2.1 = a.2.2.2.1.2.2.2.2.2.1) ∧ (a.2.2.2.1.2.2.2.2.2.2.1 = a.2.2.2.1.2.2.2.2.2.2.1) ∧ (a.2.2.2.1.2.2.2.2.2.2.2 = a.2.2.2.1.2.2.2.2.2.2.2) ∧ I42 x54 ∧ μ43 x54 < μ43 y44)))) False) False) ((true = (few6 a)) ∧ True)))))))))))))) ∧ (Br (decide ((100 : Int) < (a.2.1.2.2.length : Int))) ((false = (few6 a)) ∧ True) (Br (decide ((100 : Int) < (a.2.2.2.1.2.2.2.2.1.length : Int))) ((false = (few6 a)) ∧ True) (Let (IntKind.i64.wrap ((a.2.1.1.size : Int) + (a.2.2.1.1.size : Int))) (fun v7 : Int => Let (IntKind.i64.wrap (v7 + (a.2.2.2.1.1.size : Int))) (fun v8 : Int => Let (IntKind.i64.wrap (v8 + (a.2.2.2.1.2.1.size : Int))) (fun v9 : Int => Let (IntKind.i64.wrap (v9 + (a.2.2.2.1.2.2.2.2.2.1.size : Int))) (fun v10 : Int => Let (IntKind.i64.wrap (v10 + (a.2.2.2.1.2.2.2.2.2.2.1.size : Int))) (fun v11 : Int => Let (IntKind.i64.wrap (v11 + (a.2.2.2.2.size : Int))) (fun v12 : Int => Br (decide ((5000 : Int) < v12)) ((false = (few6 a)) ∧ True) (∃ (I17 : Int → Prop) (μ18 : Int → Nat), (∃ x16 : Int, ((a.2.1.2.2.length : Int) = (a.2.1.2.2.length : Int)) ∧ ((0 : Int) = x16) ∧ (a.2.1.1 = a.2.1.1) ∧ (a.2.1.2.1.1 = a.2.1.2.1.1) ∧ (a.2.1.2.1.2.1 = a.2.1.2.1.2.1) ∧ (a.2.1.2.1.2.2 = a.2.1.2.1.2.2) ∧ (a.2.1.2.2.length = a.2.1.2.2.length) ∧ (∀ i, i < a.2.1.2.2.length → DEqs ((gl e_api_Label a.2.1.2.2) i) ((gl e_api_Label a.2.1.2.2) i)) ∧ (a.2.2.2.1.1 = a.2.2.2.1.1) ∧ (a.2.2.2.1.2.1 = a.2.2.2.1.2.1) ∧ (a.2.2.2.1.2.2.1 = a.2.2.2.1.2.2.1) ∧ (a.2.2.2.1.2.2.2.1.1 = a.2.2.2.1.2.2.2.1.1) ∧ (a.2.2.2.1.2.2.2.1.2.1 = a.2.2.2.1.2.2.2.1.2.1) ∧ (a.2.2.2.1.2.2.2.1.2.2 = a.2.2.2.1.2.2.2.1.2.2) ∧ (a.2.2.2.1.2.2.2.2.1.length = a.2.2.2.1.2.2.2.2.1.length) ∧ (∀ i, i < a.2.2.2.1.2.2.2.2.1.length → DEqs ((gl e_api_Label a.2.2.2.1.2.2.2.2.1) i) ((gl e_api_Label a.2.2.2.1.2.2.2.2.1) i)) ∧ (a.2.2.2.1.2.2.2.2.2.1 = a.2.2.2.1.2.2.2.2.2.1) ∧ (a.2.2.2.1.2.2.2.2.2.2.1 = a.2.2.2.1.2.2.2.2.2.2.1) ∧ (a.2.2.2.1.2.2.2.2.2.2.2 = a.2.2.2.1.2.2.2.2.2.2.2) ∧ I17 x16) ∧ ∀ y19 : Int, I17 y19 → (Br (decide (y19 < (a.2.1.2.2.length : Int))) (Br (decide ((0 : Int) ≤ y19) && decide (y19 < (a.2.1.2.2.length : Int))) (Br (decide ((0 : Int) ≤ y19) && decide (y19 < (a.2.1.2.2.length : Int))) (Let (IntKind.i64.wrap ((((at_ a.2.1.2.2 y19).1).size : Int) + (((at_ a.2.1.2.2 y19).2).size : Int))) (fun v24 : Int => Br (decide ((1000 : Int) < v24)) ((false = (few6 a)) ∧ True) (Let (IntKind.i64.wrap (y19 + (1 : Int))) (fun v28 : Int => ∃ x29 : Int, ((a.2.1.2.2.length : Int) = (a.2.1.2.2.length : Int)) ∧ (v28 = x29) ∧ (a.2.1.1 = a.2.1.1) ∧ (a.2.1.2.1.1 = a.2.1.2.1.1) ∧ (a.2.1.2.1.2.1 = a.2.1.2.1.2.1) ∧ (a.2.1.2.1.2.2 = a.2.1.2.1.2.2) ∧ (a.2.1.2.2.length = a.2.1.2.2.length) ∧ (∀ i, i < a.2.1.2.2.length → DEqs ((gl e_api_Label a.2.1.2.2) i) ((gl e_api_Label a.2.1.2.2) i)) ∧ (a.2.2.2.1.1 = a.2.2.2.1.1) ∧ (a.2.2.2.1.2.1 = a.2.2.2.1.2.1) ∧ (a.2.2.2.1.2.2.1 = a.2.2.2.1.2.2.1) ∧ (a.2.2.2.1.2.2.2.1.1 = a.2.2.2.1.2.2.2.1.1) ∧ (a.2.2.2.1.2.2.2.1.2.1 = a.2.2.2.1.2.2.2.1.2.1) ∧ (a.2.2.2.1.2.2.2.1.2.2 = a.2.2.2.1.2.2.2.1.2.2) ∧ (a.2.2.2.1.2.2.2.2.1.length = a.2.2.2.1.2.2.2.2.1.length) ∧ (∀ i, i < a.2.2.2.1.2.2.2.2.1.length → DEqs ((gl e_api_Label a.2.2.2.1.2.2.2.2.1) i) ((gl e_api_Label a.2.2.2.1.2.2.2.2.1) i)) ∧ (a.2.2.2.1.2.2.2.2.2.1 = a.2.2.2.1.2.2.2.2.2.1) ∧ (a.2.2.2.1.2.2.2.2.2.2.1 = a.2.2.2.1.2.2.2.2.2.2.1) ∧ (a.2.2.2.1.2.2.2.2.2.2.2 = a.2.2.2.1.2.2.2.2.2.2.2) ∧ I17 x29 ∧ μ18 x29 < μ18 y19)))) False) False) (∃ (I42 : Int → Prop) (μ43 : Int → Nat), (∃ x41 : Int, ((a.2.2.2.1.2.2.2.2.1.length : Int) = (a.2.2.2.1.2.2.2.2.1.length : Int)) ∧ ((0 : Int) = x41) ∧ (a.2.2.2.1.1 = a.2.2.2.1.1) ∧ (a.2.2.2.1.2.1 = a.2.2.2.1.2.1) ∧ (a.2.2.2.1.2.2.1 = a.2.2.2.1.2.2.1) ∧ (a.2.2.2.1.2.2.2.1.1 = a.2.2.2.1.2.2.2.1.1) ∧ (a.2.2.2.1.2.2.2.1.2.1 = a.2.2.2.1.2.2.2.1.2.1) ∧ (a.2.2.2.1.2.2.2.1.2.2 = a.2.2.2.1.2.2.2.1.2.2) ∧ (a.2.2.2.1.2.2.2.2.1.length = a.2.2.2.1.2.2.2.2.1.length) ∧ (∀ i, i < a.2.2.2.1.2.2.2.2.1.length → DEqs ((gl e_api_Label a.2.2.2.1.2.2.2.2.1) i) ((gl e_api_Label a.2.2.2.1.2.2.2.2.1) i)) ∧ (a.2.2.2.1.2.2.2.2.2.1 = a.2.2.2.1.2.2.2.2.2.1) ∧ (a.2.2.2.1.2.2.2.2.2.2.1 = a.2.2.2.1.2.2.2.2.2.2.1) ∧ (a.2.2.2.1.2.2.2.2.2.2.2 = a.2.2.2.1.2.2.2.2.2.2.2) ∧ I42 x41) ∧ ∀ y44 : Int, I42 y44 → (Br (decide (y44 < (a.2.2.2.1.2.2.2.2.1.length : Int))) (Br (decide ((0 : Int) ≤ y44) && decide (y44 < (a.2.2.2.1.2.2.2.2.1.length : Int))) (Br (decide ((0 : Int) ≤ y44) && decide (y44 < (a.2.2.2.1.2.2.2.2.1.length : Int))) (Let (IntKind.i64.wrap ((((at_ a.2.2.2.1.2.2.2.2.1 y44).1).size : Int) + (((at_ a.2.2.2.1.2.2.2.2.1 y44).2).size : Int))) (fun v49 : Int => Br (decide ((1000 : Int) < v49)) ((false = (few6 a)) ∧ True) (Let (IntKind.i64.wrap (y44 + (1 : Int))) (fun v53 : Int => ∃ x54 : Int, ((a.2.2.2.1.2.2.2.2.1.length : Int) = (a.2.2.2.1.2.2.2.2.1.length : Int)) ∧ (v53 = x54) ∧ (a.2.2.2.1.1 = a.2.2.2.1.1) ∧ (a.2.2.2.1.2.1 = a.2.2.2.1.2.1) ∧ (a.2.2.2.1.2.2.1 = a.2.2.2.1.2.2.1) ∧ (a.2.2.2.1.2.2.2.1.1 = a.2.2.2.1.2.2.2.1.1) ∧ (a.2.2.2.1.2.2.2.1.2.1 = a.2.2.2.1.2.2.2.1.2.1) ∧ (a.2.2.2.1.2.2.2.1.2.2 = a.2.2.2.1.2.2.2.1.2.2) ∧ (a.2.2.2.1.2.2.2.2.1.length = a.2.2.2.1.2.2.2.2.1.length) ∧ (∀ i, i < a.2.2.2.1.2.2.2.2.1.length → DEqs ((gl e_api_Label a.2.2.2.1.2.2.2.2.1) i) ((gl e_api_Label a.2.2.2.1.2.2.2.2.1) i)) ∧ (a.2.2.2.1.2.2.2.2.2.1 = a.2.2.2.1.2.2.2.2.2.1) ∧ (a.2.2.2.1.2.2.2.2.2.2.1 = a.2.2.2.1.2.2.2.2.2.2.1) ∧ (a.2.2.2.1.2.2.2.2.2.2.2 = a.2.2.2.1.2.2.2.2.2.2.2) ∧ I42 x54 ∧ μ43 x54 < μ43 y44)))) False) False) ((true = (few6 a)) ∧ True))))))))))))))
def f276.vc (a : T_api_Op) : Prop := (((100 : Int) < (a.2.1.2.2.length : Int) → (false = few6 a)) ∧ (¬ ((100 : Int) < (a.2.1.2.2.length : Int)) → (((100 : Int) < (a.2.2.2.1.2.2.2.2.1.length : Int) → (false = few6 a)) ∧ (¬ ((100 : Int) < (a.2.2.2.1.2.2.2.2.1.length : Int)) → (-9223372036854775808 ≤ ((a.2.1.1.size : Int) + (a.2.2.1.1.size : Int)) ∧ ((a.2.1.1.size : Int) + (a.2.2.1.1.size : Int)) ≤ 9223372036854775807 ∧ (-9223372036854775808 ≤ (((a.2.1.1.size : Int) + (a.2.2.1.1.size : Int)) + (a.2.2.2.1.1.size : Int)) ∧ (((a.2.1.1.size : Int) + (a.2.2.1.1.size : Int)) + (a.2.2.2.1.1.size : Int)) ≤ 9223372036854775807 ∧ (-9223372036854775808 ≤ ((((a.2.1.1.size : Int) + (a.2.2.1.1.size : Int)) + (a.2.2.2.1.1.size : Int)) + (a.2.2.2.1.2.1.size : Int)) ∧ ((((a.2.1.1.size : Int) + (a.2.2.1.1.size : Int)) + (a.2.2.2.1.1.size : Int)) + (a.2.2.2.1.2.1.size : Int)) ≤ 9223372036854775807 ∧ (-9223372036854775808 ≤ (((((a.2.1.1.size : Int) + (a.2.2.1.1.size : Int)) + (a.2.2.2.1.1.size : Int)) + (a.2.2.2.1.2.1.size : Int)) + (a.2.2.2.1.2.2.2.2.2.1.size : Int)) ∧ (((((a.2.1.1.size : Int) + (a.2.2.1.1.size : Int)) + (a.2.2.2.1.1.size : Int)) + (a.2.2.2.1.2.1.size : Int)) + (a.2.2.2.1.2.2.2.2.2.1.size : Int)) ≤ 9223372036854775807 ∧ (-9223372036854775808 ≤ ((((((a.2.1.1.size : Int) + (a.2.2.1.1.size : Int)) + (a.2.2.2.1.1.size : Int)) + (a.2.2.2.1.2.1.size : Int)) + (a.2.2.2.1.2.2.2.2.2.1.size : Int)) + (a.2.2.2.1.2.2.2.2.2.2.1.size : Int)) ∧ ((((((a.2.1.1.size : Int) + (a.2.2.1.1.size : Int)) + (a.2.2.2.1.1.size : Int)) + (a.2.2.2.1.2.1.size : Int)) + (a.2.2.2.1.2.2.2.2.2.1.size : Int)) + (a.2.2.2.1.2.2.2.2.2.2.1.size : Int)) ≤ 9223372036854775807 ∧ (-9223372036854775808 ≤ (((((((a.2.1.1.size : Int) + (a.2.2.1.1.size : Int)) + (a.2.2.2.1.1.size : Int)) + (a.2.2.2.1.2.1.size : Int)) + (a.2.2.2.1.2.2.2.2.2.1.size : Int)) + (a.2.2.2.1.2.2.2.2.2.2.1.size : Int)) + (a.2.2.2.2.size : Int)) ∧ (((((((a.2.1.1.size : Int) + (a.2.2.1.1.size : Int)) + (a.2.2.2.1.1.size : Int)) + (a.2.2.2.1.2.1.size : Int)) + (a.2.2.2.1.2.2.2.2.2.1.size : Int)) + (a.2.2.2.1.2.2.2.2.2.2.1.size : Int)) + (a.2.2.2.2.size : Int)) ≤ 9223372036854775807 ∧ (((5000 : Int) < (((((((a.2.1.1.size : Int) + (a.2.2.1.1.size : Int)) + (a.2.2.2.1.1.size : Int)) + (a.2.2.2.1.2.1.size : Int)) + (a.2.2.2.1.2.2.2.2.2.1.size : Int)) + (a.2.2.2.1.2.2.2.2.2.2.1.size : Int)) + (a.2.2.2.2.size : Int)) → (false = few6 a)) ∧ (¬ ((5000 : Int) < (((((((a.2.1.1.size : Int) + (a.2.2.1.1.size : Int)) + (a.2.2.2.1.1.size : Int)) + (a.2.2.2.1.2.1.size : Int)) + (a.2.2.2.1.2.2.2.2.2.1.size : Int)) + (a.2.2.2.1.2.2.2.2.2.2.1.size : Int)) + (a.2.2.2.2.size : Int))) → (∃ (I17 : Int → Prop) (μ18 : Int → Nat), I17 (0 : Int) ∧ ∀ y19 : Int, I17 y19 → ((y19 < (a.2.1.2.2.length : Int) → ((0 : Int) ≤ y19 ∧ y19 < (a.2.1.2.2.length : Int) ∧ ((0 : Int) ≤ y19 ∧ y19 < (a.2.1.2.2.length : Int) ∧ (-9223372036854775808 ≤ ((((at_ a.2.1.2.2 y19).1).size : Int) + (((at_ a.2.1.2.2 y19).2).size : Int)) ∧ ((((at_ a.2.1.2.2 y19).1).size : Int) + (((at_ a.2.1.2.2 y19).2).size : Int)) ≤ 9223372036854775807 ∧ (((1000 : Int) < ((((at_ a.2.1.2.2 y19).1).size : Int) + (((at_ a.2.1.2.2 y19).2).size : Int)) → (false = few6 a)) ∧ (¬ ((1000 : Int) < ((((at_ a.2.1.2.2 y19).1).size : Int) + (((at_ a.2.1.2.2 y19).2).size : Int))) → (-9223372036854775808 ≤ (y19 + (1 : Int)) ∧ (y19 + (1 : Int)) ≤ 9223372036854775807 ∧ (I17 (y19 + (1 : Int)) ∧ μ18 (y19 + (1 : Int)) < μ18 y19)))))))) ∧ (¬ (y19 < (a.2.1.2.2.length : Int)) → (∃ (I42 : Int → Prop) (μ43 : Int → Nat), I42 (0 : Int) ∧ ∀ y44 : Int, I42 y44 → ((y44 < (a.2.2.2.1.2.2.2.2.1.length : Int) → ((0 : Int) ≤ y44 ∧ y44 < (a.2.2.2.1.2.2.2.2.1.length : Int) ∧ ((0 : Int) ≤ y44 ∧ y44 < (a.2.2.2.1.2.2.2.2.1.length : Int) ∧ (-9223372036854775808 ≤ ((((at_ a.2.2.2.1.2.2.2.2.1 y44).1).size : Int) + (((at_ a.2.2.2.1.2.2.2.2.1 y44).2).size : Int)) ∧ ((((at_ a.2.2.2.1.2.2.2.2.1 y44).1).size : Int) + (((at_ a.2.2.2.1.2.2.2.2.1 y44).2).size : Int)) ≤ 9223372036854775807 ∧ (((1000 : Int) < ((((at_ a.2.2.2.1.2.2.2.2.1 y44).1).size : Int) + (((at_ a.2.2.2.1.2.2.2.2.1 y44).2).size : Int)) → (false = few6 a)) ∧ (¬ ((1000 : Int) < ((((at_ a.2.2.2.1.2.2.2.2.1 y44).1).size : Int) + (((at_ a.2.2.2.1.2.2.2.2.1 y44).2).size : Int))) → (-9223372036854775808 ≤ (y44 + (1 : Int)) ∧ (y44 + (1 : Int)) ≤ 9223372036854775807 ∧ (I42 (y44 + (1 : Int)) ∧ μ43 (y44 + (1 : Int)) < μ43 y44)))))))) ∧ (¬ (y44 < (a.2.2.2.1.2.2.2.2.1.length : Int)) → (true = few6 a)))))))))))))))))))
set_option maxRecDepth 100000 in
set_option maxHeartbeats 2000000 in
theorem f276.of (a : T_api_Op) (h : f276.vc a) : f276.tree a := ⟨br h Cnd.dec (fun h1 k99 => ⟨k99, trivial⟩) (fun h2 k100 => br k100 Cnd.dec (fun h4 k97 => ⟨k97, trivial⟩) (fun h5 k98 => wrapK.i64 k98 (fun h94 h95 k96 => wrapK.i64 k96 (fun h91 h92 k93 => wrapK.i64 k93 (fun h88 h89 k90 => wrapK.i64 k90 (fun h85 h86 k87 => wrapK.i64 k87 (fun h82 h83 k84 => wrapK.i64 k84 (fun h79 h80 k81 => br k81 Cnd.dec (fun h13 k77 => ⟨k77, trivial⟩) (fun h14 k78 => Exists.elim k78 (fun I17 h74_ => Exists.elim h74_ (fun μ18 h74 => ⟨I17, μ18, ⟨(0 : Int), ⟨rfl, ⟨rfl, ⟨rfl, ⟨rfl, ⟨rfl, ⟨rfl, slK (Rds.self (enc := e_api_Label)) (⟨rfl, ⟨rfl, ⟨rfl, ⟨rfl, ⟨rfl, ⟨rfl, slK (Rds.self (enc := e_api_Label)) (⟨rfl, ⟨rfl, ⟨rfl, h74.1⟩⟩⟩)⟩⟩⟩⟩⟩⟩)⟩⟩⟩⟩⟩⟩⟩, fun y19 h76 => br (h74.2 y19 h76) Cnd.dec (fun h20 k72 => chk k72.2.2 Cnd.ix ⟨k72.1, k72.2.1⟩ (fun h22 k40 => chk k40.2.2 Cnd.ix ⟨k40.1, k40.2.1⟩ (fun h23 k39 => wrapK.i64 k39 (fun h36 h37 k38 => br k38 Cnd.dec (fun h25 k34 => ⟨k34, trivial⟩) (fun h26 k35 => wrapK.i64 k35 (fun h31 h32 k33 => ⟨(y19 + (1 : Int)), ⟨rfl, ⟨rfl, ⟨rfl, ⟨rfl, ⟨rfl, ⟨rfl, slK (Rds.self (enc := e_api_Label)) (⟨rfl, ⟨rfl, ⟨rfl, ⟨rfl, ⟨rfl, ⟨rfl, slK (Rds.self (enc := e_api_Label)) (⟨rfl, ⟨rfl, ⟨rfl, k33⟩⟩⟩)⟩⟩⟩⟩⟩⟩)⟩⟩⟩⟩⟩⟩⟩)))))) (fun h21 k73 => Exists.elim k73 (fun I42 h69_ => Exists.elim h69_ (fun μ43 h69 => ⟨I42, μ43, ⟨(0 : Int), ⟨rfl, ⟨rfl, ⟨rfl, ⟨rfl, ⟨rfl, ⟨rfl, ⟨rfl, ⟨rfl, slK (Rds.self (enc := e_api_Label)) (⟨rfl, ⟨rfl, ⟨rfl, h69.1⟩⟩⟩)⟩⟩⟩⟩⟩⟩⟩⟩⟩, fun y44 h71 => br (h69.2 y44 h71) Cnd.dec (fun h45 k67 => chk k67.2.2 Cnd.ix ⟨k67.1, k67.2.1⟩ (fun h47 k65 => chk k65.2.2 Cnd.ix ⟨k65.1, k65.2.1⟩ (fun h48 k64 => wrapK.i64 k64 (fun h61 h62 k63 => br k63 Cnd.dec (fun h50 k59 => ⟨k59, trivial⟩) (fun h51 k60 => wrapK.i64 k60 (fun h56 h57 k58 => ⟨(y44 + (1 : Int)), ⟨rfl, ⟨rfl, ⟨rfl, ⟨rfl, ⟨rfl, ⟨rfl, ⟨rfl, ⟨rfl, slK (Rds.self (enc := e_api_Label)) (⟨rfl, ⟨rfl, ⟨rfl, k58⟩⟩⟩)⟩⟩⟩⟩⟩⟩⟩⟩⟩)))))) (fun h46 k68 => ⟨k68, trivial⟩)⟩)))⟩))))))))))), br h Cnd.dec (fun h1 k99 => ⟨k99, trivial⟩) (fun h2 k100 => br k100 Cnd.dec (fun h4 k97 => ⟨k97, trivial⟩) (fun h5 k98 => wrapK.i64 k98 (fun h94 h95 k96 => wrapK.i64 k96 (fun h91 h92 k93 => wrapK.i64 k93 (fun h88 h89 k90 => wrapK.i64 k90 (fun h85 h86 k87 => wrapK.i64 k87 (fun h82 h83 k84 => wrapK.i64 k84 (fun h79 h80 k81 => br k81 Cnd.dec (fun h13 k77 => ⟨k77, trivial⟩) (fun h14 k78 => Exists.elim k78 (fun I17 h74_ => Exists.elim h74_ (fun μ18 h74 => ⟨I17, μ18, ⟨(0 : Int), ⟨rfl, ⟨rfl, ⟨rfl, ⟨rfl, ⟨rfl, ⟨rfl, slK (Rds.self (enc := e_api_Label)) (⟨rfl, ⟨rfl, ⟨rfl, ⟨rfl, ⟨rfl, ⟨rfl, slK (Rds.self (enc := e_api_Label)) (⟨rfl, ⟨rfl, ⟨rfl, h74.1⟩⟩⟩)⟩⟩⟩⟩⟩⟩)⟩⟩⟩⟩⟩⟩⟩, fun y19 h76 => br (h74.2 y19 h76) Cnd.dec (fun h20 k72 => chk k72.2.2 Cnd.ix ⟨k72.1, k72.2.1⟩ (fun h22 k40 => chk k40.2.2 Cnd.ix ⟨k40.1, k40.2.1⟩ (fun h23 k39 => wrapK.i64 k39 (fun h36 h37 k38 => br k38 Cnd.dec (fun h25 k34 => ⟨k34, trivial⟩) (fun h26 k35 => wrapK.i64 k35 (fun h31 h32 k33 => ⟨(y19 + (1 : Int)), ⟨rfl, ⟨rfl, ⟨rfl, ⟨rfl, ⟨rfl, ⟨rfl, slK (Rds.self (enc := e_api_Label)) (⟨rfl, ⟨rfl, ⟨rfl, ⟨rfl, ⟨rfl, ⟨rfl, slK (Rds.self (enc := e_api_Label)) (⟨rfl, ⟨rfl, ⟨rfl, k33⟩⟩⟩)⟩⟩⟩⟩⟩⟩)⟩⟩⟩⟩⟩⟩⟩)))))) (fun h21 k73 => Exists.elim k73 (fun I42 h69_ => Exists.elim h69_ (fun μ43 h69 => ⟨I42, μ43, ⟨(0 : Int), ⟨rfl, ⟨rfl, ⟨rfl, ⟨rfl, ⟨rfl, ⟨rfl, ⟨rfl, ⟨rfl, slK (Rds.self (enc := e_api_Label)) (⟨rfl, ⟨rfl, ⟨rfl, h69.1⟩⟩⟩)⟩⟩⟩⟩⟩⟩⟩⟩⟩, fun y44 h71 => br (h69.2 y44 h71) Cnd.dec (fun h45 k67 => chk k67.2.2 Cnd.ix ⟨k67.1, k67.2.1⟩ (fun h47 k65 => chk k65.2.2 Cnd.ix ⟨k65.1, k65.2.1⟩ (fun h48 k64 => wrapK.i64 k64 (fun h61 h62 k63 => br k63 Cnd.dec (fun h50 k59 => ⟨k59, trivial⟩) (fun h51 k60 => wrapK.i64 k60 (fun h56 h57 k58 => ⟨(y44 + (1 : Int)), ⟨rfl, ⟨rfl, ⟨rfl, ⟨rfl, ⟨rfl, ⟨rfl, ⟨rfl, ⟨rfl, slK (Rds.self (enc := e_api_Label)) (⟨rfl, ⟨rfl, ⟨rfl, k58⟩⟩⟩)⟩⟩⟩⟩⟩⟩⟩⟩⟩)))))) (fun h46 k68 => ⟨k68, trivial⟩)⟩)))⟩)))))))))))⟩
theorem f276.eq (a : T_api_Op) : (f276.af a).gives f276.env (f276.args a) (f276.blks a) (f276.res a) (f276.blks' a) = f276.tree a := by kernel_rfl
end Go.Abs

-- interregnum/oper.Text
namespace Go.Abs
open Go
def f280.args (a : T_api_Act) : List D := [.agg [.int .i64 a.1, .str a.2.1, .str a.2.2]]
def f280.blks (a : T_api_Act) : List (List D) := []
def f280.res (a : T_api_Act) : List D := [.str (textA a)]
def f280.blks' (a : T_api_Act) : List (List D) := []
def f280.C : Contract := FnC f280.args f280.blks (fun a => textA_pre a) f280.res f280.blks'
end Go.Abs

/- interregnum/oper.Text -/
namespace Go.Abs
open Go
set_option linter.unusedVariables false
def f280.s0 : ByteArray := ⟨#[63]⟩
def f280.s1 : ByteArray := ⟨#[98, 105, 110, 100]⟩
def f280.s2 : ByteArray := ⟨#[32]⟩
def f280.s3 : ByteArray := ⟨#[98, 105, 110, 100, 32]⟩
def f280.s4 : ByteArray := ⟨#[101, 118, 105, 99, 116]⟩
def f280.s5 : ByteArray := ⟨#[101, 118, 105, 99, 116, 32]⟩
def f280.s6 : ByteArray := ⟨#[114, 101, 108, 101, 97, 115, 101]⟩
def f280.s7 : ByteArray := ⟨#[114, 101, 108, 101, 97, 115, 101, 32]⟩
def f280.s8 : ByteArray := ⟨#[63, 32]⟩
def f280.kills (a : T_api_Act) : List Hint := []
def f280.cuts (a : T_api_Act) : List (Nat × Σ β : Type, β → Tm) := []
def f280.af (a : T_api_Act) : AF := AF.mk (.seq (.region [⟨(some 1), 0, .box, [.t 0], none⟩,
  ⟨(some 2), 1, .move, [.c (.str ByteArray.empty)], none⟩])
 (.seq (.region [⟨(some 3), 2, .move, [.c (.str f280.s0)], none⟩])
 (.seq (.seq (.region [⟨(some 4), 3, (.fieldAddr 0), [.t 1], none⟩,
  ⟨(some 5), 4, (.load false 1), [.t 4], none⟩])
 (.block 0 (.seq (.region [⟨(some 7), 5, (.bin .eql), [.t 5, .c (.int .i64 (1))], none⟩,
  ⟨(some 6), 6, .move, [.t 7], none⟩])
 (.cond (.t 6) (.region [⟨(some 3), 7, .move, [.c (.str f280.s1)], none⟩]) (.seq (.region [⟨(some 9), 8, (.bin .eql), [.t 5, .c (.int .i64 (2))], none⟩,
  ⟨(some 8), 9, .move, [.t 9], none⟩])
 (.cond (.t 8) (.region [⟨(some 3), 10, .move, [.c (.str f280.s4)], none⟩]) (.seq (.region [⟨(some 11), 11, (.bin .eql), [.t 5, .c (.int .i64 (3))], none⟩,
  ⟨(some 10), 12, .move, [.t 11], none⟩])
 (.cond (.t 10) (.region [⟨(some 3), 13, .move, [.c (.str f280.s6)], none⟩]) (.skip)))))))))
 (.seq (.region [⟨(some 12), 14, .move, [.t 3], none⟩,
  ⟨(some 13), 15, (.bin .add), [.t 12, .c (.str f280.s2)], none⟩,
  ⟨(some 14), 16, (.fieldAddr 1), [.t 1], none⟩,
  ⟨(some 15), 17, (.load false 1), [.t 14], none⟩,
  ⟨(some 16), 18, (.bin .add), [.t 13, .t 15], none⟩,
  ⟨(some 17), 19, (.bin .add), [.t 16, .c (.str f280.s2)], none⟩,
  ⟨(some 18), 20, (.fieldAddr 2), [.t 1], none⟩,
  ⟨(some 19), 21, (.load false 1), [.t 18], none⟩,
  ⟨(some 20), 22, (.bin .add), [.t 17, .t 19], none⟩,
  ⟨(some 2), 23, .move, [.t 20], none⟩])
 (.ret)))))
  [.tmp 2] 0 20
def f280.env : Env := []
def f280.tree (a : T_api_Act) : Prop := Br (a.1 == (1 : Int)) (Br (Nat.ble (f280.s3.size + a.2.1.size) 9223372036854775807) (Br (Nat.ble ((f280.s3 ++ a.2.1).size + f280.s2.size) 9223372036854775807) (Br (Nat.ble (((f280.s3 ++ a.2.1) ++ f280.s2).size + a.2.2.size) 9223372036854775807) (((((f280.s3 ++ a.2.1) ++ f280.s2) ++ a.2.2) = (textA a)) ∧ True) False) False) False) (Br (a.1 == (2 : Int)) (Br (Nat.ble (f280.s5.size + a.2.1.size) 9223372036854775807) (Br (Nat.ble ((f280.s5 ++ a.2.1).size + f280.s2.size) 9223372036854775807) (Br (Nat.ble (((f280.s5 ++ a.2.1) ++ f280.s2).size + a.2.2.size) 9223372036854775807) (((((f280.s5 ++ a.2.1) ++ f280.s2) ++ a.2.2) = (textA a)) ∧ True) False) False) False) (Br (a.1 == (3 : Int)) (Br (Nat.ble (f280.s7.size + a.2.1.size) 9223372036854775807) (Br (Nat.ble ((f280.s7 ++ a.2.1).size + f280.s2.size) 9223372036854775807) (Br (Nat.ble (((f280.s7 ++ a.2.1) ++ f280.s2).size + a.2.2.size) 9223372036854775807) (((((f280.s7 ++ a.2.1) ++ f280.s2) ++ a.2.2) = (textA a)) ∧ True) False) False) False) (Br (Nat.ble (f280.s8.size + a.2.1.size) 9223372036854775807) (Br (Nat.ble ((f280.s8 ++ a.2.1).size + f280.s2.size) 9223372036854775807) (Br (Nat.ble (((f280.s8 ++ a.2.1) ++ f280.s2).size + a.2.2.size) 9223372036854775807) (((((f280.s8 ++ a.2.1) ++ f280.s2) ++ a.2.2) = (textA a)) ∧ True) False) False) False)))
def f280.vc (a : T_api_Act) : Prop := ((a.1 = (1 : Int) → ((f280.s3.size + a.2.1.size ≤ 9223372036854775807) ∧ (((f280.s3 ++ a.2.1).size + f280.s2.size ≤ 9223372036854775807) ∧ ((((f280.s3 ++ a.2.1) ++ f280.s2).size + a.2.2.size ≤ 9223372036854775807) ∧ (((f280.s3 ++ a.2.1) ++ f280.s2) ++ a.2.2 = textA a))))) ∧ (¬ (a.1 = (1 : Int)) → ((a.1 = (2 : Int) → ((f280.s5.size + a.2.1.size ≤ 9223372036854775807) ∧ (((f280.s5 ++ a.2.1).size + f280.s2.size ≤ 9223372036854775807) ∧ ((((f280.s5 ++ a.2.1) ++ f280.s2).size + a.2.2.size ≤ 9223372036854775807) ∧ (((f280.s5 ++ a.2.1) ++ f280.s2) ++ a.2.2 = textA a))))) ∧ (¬ (a.1 = (2 : Int)) → ((a.1 = (3 : Int) → ((f280.s7.size + a.2.1.size ≤ 9223372036854775807) ∧ (((f280.s7 ++ a.2.1).size + f280.s2.size ≤ 9223372036854775807) ∧ ((((f280.s7 ++ a.2.1) ++ f280.s2).size + a.2.2.size ≤ 9223372036854775807) ∧ (((f280.s7 ++ a.2.1) ++ f280.s2) ++ a.2.2 = textA a))))) ∧ (¬ (a.1 = (3 : Int)) → ((f280.s8.size + a.2.1.size ≤ 9223372036854775807) ∧ (((f280.s8 ++ a.2.1).size + f280.s2.size ≤ 9223372036854775807) ∧ ((((f280.s8 ++ a.2.1) ++ f280.s2).size + a.2.2.size ≤ 9223372036854775807) ∧ (((f280.s8 ++ a.2.1) ++ f280.s2) ++ a.2.2 = textA a))))))))))
set_option maxRecDepth 100000 in
set_option maxHeartbeats 2000000 in
theorem f280.of (a : T_api_Act) (h : f280.vc a) : f280.tree a := br h Cnd.eq (fun h1 k39 => chk k39.2 Cnd.ble k39.1 (fun h3 k9 => chk k9.2 Cnd.ble k9.1 (fun h4 k8 => chk k8.2 Cnd.ble k8.1 (fun h5 k7 => ⟨k7, trivial⟩)))) (fun h2 k40 => br k40 Cnd.eq (fun h10 k37 => chk k37.2 Cnd.ble k37.1 (fun h12 k18 => chk k18.2 Cnd.ble k18.1 (fun h13 k17 => chk k17.2 Cnd.ble k17.1 (fun h14 k16 => ⟨k16, trivial⟩)))) (fun h11 k38 => br k38 Cnd.eq (fun h19 k35 => chk k35.2 Cnd.ble k35.1 (fun h21 k27 => chk k27.2 Cnd.ble k27.1 (fun h22 k26 => chk k26.2 Cnd.ble k26.1 (fun h23 k25 => ⟨k25, trivial⟩)))) (fun h20 k36 => chk k36.2 Cnd.ble k36.1 (fun h28 k34 => chk k34.2 Cnd.ble k34.1 (fun h29 k33 => chk k33.2 Cnd.ble k33.1 (fun h30 k32 => ⟨k32, trivial⟩))))))
theorem f280.eq (a : T_api_Act) : (f280.af a).gives f280.env (f280.args a) (f280.blks a) (f280.res a) (f280.blks' a) = f280.tree a := by kernel_rfl
end Go.Abs

-- interregnum/interregnumref06.Text
namespace Go.Abs
open Go
end Go.Abs

/- interregnum/interregnumref06.Text -/
namespace Go.Abs
open Go
set_option linter.unusedVariables false
end Go.Abs

-- slices.Equal[[]interregnum/api.Act,interregnum/api.Act]
namespace Go.Abs
open Go
end Go.Abs

/- slices.Equal[[]interregnum/api.Act,interregnum/api.Act] -/
namespace Go.Abs
open Go
set_option linter.unusedVariables false
end Go.Abs

-- interregnum/interregnumref06.Acts
namespace Go.Abs
open Go
end Go.Abs

/- interregnum/interregnumref06.Acts -/
namespace Go.Abs
open Go
set_option linter.unusedVariables false
end Go.Abs

-- interregnum/oper.Same
namespace Go.Abs
open Go
end Go.Abs

/- interregnum/oper.Same -/
namespace Go.Abs
open Go
set_option linter.unusedVariables false
end Go.Abs

-- interregnum/interregnumref06.Same
namespace Go.Abs
open Go
end Go.Abs

/- interregnum/interregnumref06.Same -/
namespace Go.Abs
open Go
set_option linter.unusedVariables false
end Go.Abs

-- interregnum/interregnumlaw06.awake
namespace Go.Abs
open Go
def f275.args (a : Unit) : List D := []
def f275.blks (a : Unit) : List (List D) := []
def f275.res (a : Unit) : List D := [.bool (lawTrue a)]
def f275.blks' (a : Unit) : List (List D) := []
def f275.C : Contract := FnC f275.args f275.blks (fun _ => True) f275.res f275.blks'
end Go.Abs

/- interregnum/interregnumlaw06.awake -/
namespace Go.Abs
open Go
set_option linter.unusedVariables false
def f275.s0 : ByteArray := ⟨#[116]⟩
def f275.s1 : ByteArray := ⟨#[110]⟩
def f275.s2 : ByteArray := ⟨#[98, 105, 110, 100, 32, 116, 32, 110]⟩
def f275.kills (a : Unit) : List Hint := []
def f275.cuts (a : Unit) : List (Nat × Σ β : Type, β → Tm) := []
def f275.af (a : Unit) : AF := AF.mk (.seq (.region [⟨(some 0), 0, .move, [.c (.bool false)], none⟩])
 (.seq (.region [⟨(some 4), 1, (.build [.int .i64 (0), .str ByteArray.empty, .int .i64 (0), .int .i64 (0), .int .i64 (0), .slice .full 2 0 gnil, .str ByteArray.empty, .int .i64 (0), .int .i64 (0), .int .i64 (0), .str ByteArray.empty, .str ByteArray.empty, .int .i64 (0), .int .i64 (0), .int .i64 (0), .int .i64 (0), .slice .full 2 0 gnil, .str ByteArray.empty, .str ByteArray.empty, .int .i64 (0), .str ByteArray.empty] [(0, 1)]), [.c (.int .i64 (9))], none⟩,
  ⟨(some 5), 2, (.call false 277), [.t 4], none⟩,
  ⟨(some 3), 6, .move, [.t 5], none⟩,
  ⟨(some 6), 7, (.extract 0), [.t 3], none⟩,
  ⟨(some 7), 8, (.extract 1), [.t 3], none⟩,
  ⟨(some 1), 9, .move, [.t 6], none⟩,
  ⟨(some 2), 10, .move, [.t 7], none⟩])
 (.seq (.region [⟨(some 8), 11, .move, [.t 2], none⟩,
  ⟨(some 9), 12, (.bin .eql), [.t 8, .c (.int .i64 (0))], none⟩,
  ⟨(some 10), 13, .move, [.t 9], none⟩,
  ⟨(some 11), 14, .move, [.t 1], (some (10, true))⟩,
  ⟨(some 12), 15, (.len false), [.t 11], (some (10, true))⟩,
  ⟨(some 13), 16, (.bin .eql), [.t 12, .c (.int .i64 (2))], (some (10, true))⟩,
  ⟨(some 14), 17, .pick, [.t 10, .t 13, .c (.bool false)], none⟩,
  ⟨(some 15), 18, .move, [.t 14], none⟩,
  ⟨(some 16), 19, .move, [.t 1], (some (15, true))⟩,
  ⟨(some 17), 20, (.indexAddr 1 none), [.t 16, .c (.int .i64 (1))], (some (15, true))⟩,
  ⟨(some 18), 21, (.load false 1), [.t 17], (some (15, true))⟩,
  ⟨(some 19), 22, (.bin .eql), [.t 18, .c (.int .u8 (9))], (some (15, true))⟩,
  ⟨(some 20), 23, .pick, [.t 15, .t 19, .c (.bool false)], none⟩,
  ⟨(some 21), 24, .move, [.t 20], none⟩,
  ⟨(some 22), 25, (.build [.int .i64 (0), .str ByteArray.empty, .int .i64 (0), .int .i64 (0), .int .i64 (0), .slice .full 2 0 gnil, .str ByteArray.empty, .int .i64 (0), .int .i64 (0), .int .i64 (0), .str ByteArray.empty, .str ByteArray.empty, .int .i64 (0), .int .i64 (0), .int .i64 (0), .int .i64 (0), .slice .full 2 0 gnil, .str ByteArray.empty, .str ByteArray.empty, .int .i64 (0), .str ByteArray.empty] [(0, 1)]), [.c (.int .i64 (9))], (some (21, true))⟩,
  ⟨(some 23), 26, (.call false 152), [.t 22], (some (21, true))⟩,
  ⟨(some 24), 30, .pick, [.t 21, .t 23, .c (.bool false)], none⟩,
  ⟨(some 25), 31, .move, [.t 24], none⟩,
  ⟨(some 26), 32, (.build [.int .i64 (0), .str ByteArray.empty, .str ByteArray.empty] [(0, 1), (1, 1), (2, 1)]), [.c (.int .i64 (1)), .c (.str f275.s0), .c (.str f275.s1)], (some (25, true))⟩,
  ⟨(some 27), 33, (.call false 280), [.t 26], (some (25, true))⟩,
  ⟨(some 28), 37, (.bin .eql), [.t 27, .c (.str f275.s2)], (some (25, true))⟩,
  ⟨(some 29), 38, .pick, [.t 25, .t 28, .c (.bool false)], none⟩,
  ⟨(some 0), 39, .move, [.t 29], none⟩])
 (.ret))))
  [.tmp 0] 0 30
def f275.env : Env := [(277, f277.C), (152, f152.C), (280, f280.C)]
def f275.tree (a : Unit) : Prop := ∃ c1 : T_api_Op, ((9 : Int) = c1.1) ∧ (ByteArray.empty = c1.2.1.1) ∧ ((0 : Int) = c1.2.1.2.1.1) ∧ ((0 : Int) = c1.2.1.2.1.2.1) ∧ ((0 : Int) = c1.2.1.2.1.2.2) ∧ (0 = c1.2.1.2.2.length) ∧ (∀ i, i < c1.2.1.2.2.length → DEqs (gnil i) ((gl e_api_Label c1.2.1.2.2) i)) ∧ (ByteArray.empty = c1.2.2.1.1) ∧ ((0 : Int) = c1.2.2.1.2.1) ∧ ((0 : Int) = c1.2.2.1.2.2.1) ∧ ((0 : Int) = c1.2.2.1.2.2.2) ∧ (ByteArray.empty = c1.2.2.2.1.1) ∧ (ByteArray.empty = c1.2.2.2.1.2.1) ∧ ((0 : Int) = c1.2.2.2.1.2.2.1) ∧ ((0 : Int) = c1.2.2.2.1.2.2.2.1.1) ∧ ((0 : Int) = c1.2.2.2.1.2.2.2.1.2.1) ∧ ((0 : Int) = c1.2.2.2.1.2.2.2.1.2.2) ∧ (0 = c1.2.2.2.1.2.2.2.2.1.length) ∧ (∀ i, i < c1.2.2.2.1.2.2.2.2.1.length → DEqs (gnil i) ((gl e_api_Label c1.2.2.2.1.2.2.2.2.1) i)) ∧ (ByteArray.empty = c1.2.2.2.1.2.2.2.2.2.1) ∧ (ByteArray.empty = c1.2.2.2.1.2.2.2.2.2.2.1) ∧ ((0 : Int) = c1.2.2.2.1.2.2.2.2.2.2.2) ∧ (ByteArray.empty = c1.2.2.2.2) ∧ (encO_pre c1) ∧ Br (((encO c1).2) == (0 : Int)) (Br ((((encO c1).1).size : Int) == (2 : Int)) (Br (decide ((0 : Int) ≤ (1 : Int)) && decide ((1 : Int) < (((encO c1).1).size : Int))) (Br ((bAt ((encO c1).1) (1 : Int)) == (9 : Int)) (∃ c9 : T_api_Op, ((9 : Int) = c9.1) ∧ (ByteArray.empty = c9.2.1.1) ∧ ((0 : Int) = c9.2.1.2.1.1) ∧ ((0 : Int) = c9.2.1.2.1.2.1) ∧ ((0 : Int) = c9.2.1.2.1.2.2) ∧ (0 = c9.2.1.2.2.length) ∧ (∀ i, i < c9.2.1.2.2.length → DEqs (gnil i) ((gl e_api_Label c9.2.1.2.2) i)) ∧ (ByteArray.empty = c9.2.2.1.1) ∧ ((0 : Int) = c9.2.2.1.2.1) ∧ ((0 : Int) = c9.2.2.1.2.2.1) ∧ ((0 : Int) = c9.2.2.1.2.2.2) ∧ (ByteArray.empty = c9.2.2.2.1.1) ∧ (ByteArray.empty = c9.2.2.2.1.2.1) ∧ ((0 : Int) = c9.2.2.2.1.2.2.1) ∧ ((0 : Int) = c9.2.2.2.1.2.2.2.1.1) ∧ ((0 : Int) = c9.2.2.2.1.2.2.2.1.2.1) ∧ ((0 : Int) = c9.2.2.2.1.2.2.2.1.2.2) ∧ (0 = c9.2.2.2.1.2.2.2.2.1.length) ∧ (∀ i, i < c9.2.2.2.1.2.2.2.2.1.length → DEqs (gnil i) ((gl e_api_Label c9.2.2.2.1.2.2.2.2.1) i)) ∧ (ByteArray.empty = c9.2.2.2.1.2.2.2.2.2.1) ∧ (ByteArray.empty = c9.2.2.2.1.2.2.2.2.2.2.1) ∧ ((0 : Int) = c9.2.2.2.1.2.2.2.2.2.2.2) ∧ (ByteArray.empty = c9.2.2.2.2) ∧ (op_pre c9) ∧ Br (rightO c9) (∃ c12 : T_api_Act, ((1 : Int) = c12.1) ∧ (f275.s0 = c12.2.1) ∧ (f275.s1 = c12.2.2) ∧ (textA_pre c12) ∧ (((textA c12).toList == f275.s2.toList) = (lawTrue a)) ∧ True) ((false = (lawTrue a)) ∧ True)) ((false = (lawTrue a)) ∧ True)) False) ((false = (lawTrue a)) ∧ True)) ((false = (lawTrue a)) ∧ True)
def f275.vc (a : Unit) : Prop := (encO_pre ((9 : Int), (ByteArray.empty, ((0 : Int), (0 : Int), (0 : Int)), []), (ByteArray.empty, ((0 : Int), (0 : Int), (0 : Int))), (ByteArray.empty, ByteArray.empty, (0 : Int), ((0 : Int), (0 : Int), (0 : Int)), [], ByteArray.empty, ByteArray.empty, (0 : Int)), ByteArray.empty) ∧ ((((encO ((9 : Int), (ByteArray.empty, ((0 : Int), (0 : Int), (0 : Int)), []), (ByteArray.empty, ((0 : Int), (0 : Int), (0 : Int))), (ByteArray.empty, ByteArray.empty, (0 : Int), ((0 : Int), (0 : Int), (0 : Int)), [], ByteArray.empty, ByteArray.empty, (0 : Int)), ByteArray.empty)).2) = (0 : Int) → (((((encO ((9 : Int), (ByteArray.empty, ((0 : Int), (0 : Int), (0 : Int)), []), (ByteArray.empty, ((0 : Int), (0 : Int), (0 : Int))), (ByteArray.empty, ByteArray.empty, (0 : Int), ((0 : Int), (0 : Int), (0 : Int)), [], ByteArray.empty, ByteArray.empty, (0 : Int)), ByteArray.empty)).1).size : Int) = (2 : Int) → ((1 : Int) < (((encO ((9 : Int), (ByteArray.empty, ((0 : Int), (0 : Int), (0 : Int)), []), (ByteArray.empty, ((0 : Int), (0 : Int), (0 : Int))), (ByteArray.empty, ByteArray.empty, (0 : Int), ((0 : Int), (0 : Int), (0 : Int)), [], ByteArray.empty, ByteArray.empty, (0 : Int)), ByteArray.empty)).1).size : Int) ∧ (((bAt ((encO ((9 : Int), (ByteArray.empty, ((0 : Int), (0 : Int), (0 : Int)), []), (ByteArray.empty, ((0 : Int), (0 : Int), (0 : Int))), (ByteArray.empty, ByteArray.empty, (0 : Int), ((0 : Int), (0 : Int), (0 : Int)), [], ByteArray.empty, ByteArray.empty, (0 : Int)), ByteArray.empty)).1) (1 : Int)) = (9 : Int) → (op_pre ((9 : Int), (ByteArray.empty, ((0 : Int), (0 : Int), (0 : Int)), []), (ByteArray.empty, ((0 : Int), (0 : Int), (0 : Int))), (ByteArray.empty, ByteArray.empty, (0 : Int), ((0 : Int), (0 : Int), (0 : Int)), [], ByteArray.empty, ByteArray.empty, (0 : Int)), ByteArray.empty) ∧ (((rightO ((9 : Int), (ByteArray.empty, ((0 : Int), (0 : Int), (0 : Int)), []), (ByteArray.empty, ((0 : Int), (0 : Int), (0 : Int))), (ByteArray.empty, ByteArray.empty, (0 : Int), ((0 : Int), (0 : Int), (0 : Int)), [], ByteArray.empty, ByteArray.empty, (0 : Int)), ByteArray.empty)) = true → (textA_pre ((1 : Int), f275.s0, f275.s1) ∧ (((textA ((1 : Int), f275.s0, f275.s1)).toList == f275.s2.toList) = lawTrue a))) ∧ (¬ ((rightO ((9 : Int), (ByteArray.empty, ((0 : Int), (0 : Int), (0 : Int)), []), (ByteArray.empty, ((0 : Int), (0 : Int), (0 : Int))), (ByteArray.empty, ByteArray.empty, (0 : Int), ((0 : Int), (0 : Int), (0 : Int)), [], ByteArray.empty, ByteArray.empty, (0 : Int)), ByteArray.empty)) = true) → (false = lawTrue a))))) ∧ (¬ ((bAt ((encO ((9 : Int), (ByteArray.empty, ((0 : Int), (0 : Int), (0 : Int)), []), (ByteArray.empty, ((0 : Int), (0 : Int), (0 : Int))), (ByteArray.empty, ByteArray.empty, (0 : Int), ((0 : Int), (0 : Int), (0 : Int)), [], ByteArray.empty, ByteArray.empty, (0 : Int)), ByteArray.empty)).1) (1 : Int)) = (9 : Int)) → (false = lawTrue a))))) ∧ (¬ ((((encO ((9 : Int), (ByteArray.empty, ((0 : Int), (0 : Int), (0 : Int)), []), (ByteArray.empty, ((0 : Int), (0 : Int), (0 : Int))), (ByteArray.empty, ByteArray.empty, (0 : Int), ((0 : Int), (0 : Int), (0 : Int)), [], ByteArray.empty, ByteArray.empty, (0 : Int)), ByteArray.empty)).1).size : Int) = (2 : Int)) → (false = lawTrue a)))) ∧ (¬ (((encO ((9 : Int), (ByteArray.empty, ((0 : Int), (0 : Int), (0 : Int)), []), (ByteArray.empty, ((0 : Int), (0 : Int), (0 : Int))), (ByteArray.empty, ByteArray.empty, (0 : Int), ((0 : Int), (0 : Int), (0 : Int)), [], ByteArray.empty, ByteArray.empty, (0 : Int)), ByteArray.empty)).2) = (0 : Int)) → (false = lawTrue a))))
set_option maxRecDepth 100000 in
set_option maxHeartbeats 2000000 in
theorem f275.of (a : Unit) (h : f275.vc a) : f275.tree a := ⟨((9 : Int), (ByteArray.empty, ((0 : Int), (0 : Int), (0 : Int)), []), (ByteArray.empty, ((0 : Int), (0 : Int), (0 : Int))), (ByteArray.empty, ByteArray.empty, (0 : Int), ((0 : Int), (0 : Int), (0 : Int)), [], ByteArray.empty, ByteArray.empty, (0 : Int)), ByteArray.empty), ⟨rfl, ⟨rfl, ⟨rfl, ⟨rfl, ⟨rfl, slK (Rds.nil (enc := e_api_Label)) (⟨rfl, ⟨rfl, ⟨rfl, ⟨rfl, ⟨rfl, ⟨rfl, ⟨rfl, ⟨rfl, ⟨rfl, ⟨rfl, slK (Rds.nil (enc := e_api_Label)) (⟨rfl, ⟨rfl, ⟨rfl, ⟨rfl, ⟨h.1, br h.2 Cnd.eq (fun h2 k27 => br k27 Cnd.eq (fun h4 k24 => chk k24.2 Cnd.ix ⟨(by decide), k24.1⟩ (fun h6 k22 => br k22 Cnd.eq (fun h7 k20 => ⟨((9 : Int), (ByteArray.empty, ((0 : Int), (0 : Int), (0 : Int)), []), (ByteArray.empty, ((0 : Int), (0 : Int), (0 : Int))), (ByteArray.empty, ByteArray.empty, (0 : Int), ((0 : Int), (0 : Int), (0 : Int)), [], ByteArray.empty, ByteArray.empty, (0 : Int)), ByteArray.empty), ⟨rfl, ⟨rfl, ⟨rfl, ⟨rfl, ⟨rfl, slK (Rds.nil (enc := e_api_Label)) (⟨rfl, ⟨rfl, ⟨rfl, ⟨rfl, ⟨rfl, ⟨rfl, ⟨rfl, ⟨rfl, ⟨rfl, ⟨rfl, slK (Rds.nil (enc := e_api_Label)) (⟨rfl, ⟨rfl, ⟨rfl, ⟨rfl, ⟨k20.1, br k20.2 Cnd.b (fun h10 k16 => ⟨((1 : Int), f275.s0, f275.s1), ⟨rfl, ⟨rfl, ⟨rfl, ⟨k16.1, ⟨k16.2, trivial⟩⟩⟩⟩⟩⟩) (fun h11 k17 => ⟨k17, trivial⟩)⟩⟩⟩⟩⟩)⟩⟩⟩⟩⟩⟩⟩⟩⟩⟩)⟩⟩⟩⟩⟩⟩) (fun h8 k21 => ⟨k21, trivial⟩))) (fun h5 k25 => ⟨k25, trivial⟩)) (fun h3 k28 => ⟨k28, trivial⟩)⟩⟩⟩⟩⟩)⟩⟩⟩⟩⟩⟩⟩⟩⟩⟩)⟩⟩⟩⟩⟩⟩
theorem f275.eq (a : Unit) : (f275.af a).gives f275.env (f275.args a) (f275.blks a) (f275.res a) (f275.blks' a) = f275.tree a := by kernel_rfl
end Go.Abs

/- Operations: what the code asks of them. -/
namespace Go.Abs
open Go

theorem named_iff {k : Int} : namedB k = true ↔ k = 2 ∨ k = 4 ∨ k = 6 ∨ k = 7 ∨ k = 8 := by unfold namedB; exact decide_eq_true_iff
theorem f173.ok (a : Int) (_ : True) : f173.vc a := by
  have e : namedB a = decide (a = 2 ∨ a = 4 ∨ a = 6 ∨ a = 7 ∨ a = 8) := rfl
  unfold f173.vc
  rw [e]
  refine ⟨fun h => by simp [h], fun h1 => ⟨fun h => by simp [h], fun h2 => ⟨fun h => by simp [h], fun h3 => ⟨fun h => by simp [h], fun h4 => ⟨fun h => by simp [h], fun h5 => by simp [h1, h2, h3, h4, h5]⟩⟩⟩⟩⟩
theorem f314.ok (a : Int) (_ : True) : f314.vc a := by
  have e : namedB a = decide (a = 2 ∨ a = 4 ∨ a = 6 ∨ a = 7 ∨ a = 8) := rfl
  unfold f314.vc
  rw [e]
  refine ⟨fun h => by simp [h], fun h1 => ⟨fun h => by simp [h], fun h2 => ⟨fun h => by simp [h], fun h3 => ⟨fun h => by simp [h], fun h4 => ?_⟩⟩⟩⟩
  rw [Bool.eq_iff_iff, decide_eq_true_iff, beq_iff_eq]
  exact ⟨fun h => .inr (.inr (.inr (.inr h))), fun h => by omega⟩

theorem bytes_beq (x y : ByteArray) : (x.toList == y.toList) = decide (x = y) := by
  rw [Bool.eq_iff_iff, beq_iff_eq, toList_inj, decide_eq_true_iff]
theorem app_zero {a b : ByteArray} : a ++ b = ByteArray.empty ↔ a = ByteArray.empty ∧ b = ByteArray.empty := by
  rw [size_zero, size_zero, size_zero, size_app]; omega
theorem len_zero {α : Type} {l : List α} : l = [] ↔ ¬ (0 : Int) < (l.length : Int) := by cases l with
  | nil => simp
  | cons x l => simp

def zN (n : TNode) : Prop := n.1 = ByteArray.empty ∧ (n.2.1.1 = 0 ∧ n.2.1.2.1 = 0 ∧ n.2.1.2.2 = 0) ∧ ¬ (0 : Int) < (n.2.2.length : Int)
def zQ (q : TQueue) : Prop := q.1 = ByteArray.empty ∧ q.2.1 = 0 ∧ q.2.2.1 = 0 ∧ q.2.2.2 = 0
def zT (t : TTask) : Prop := ((t.1 ++ t.2.1) ++ t.2.2.2.2.2.1) ++ t.2.2.2.2.2.2.1 = ByteArray.empty ∧ t.2.2.1 = 0 ∧ t.2.2.2.2.2.2.2 = 0 ∧ (t.2.2.2.1.1 = 0 ∧ t.2.2.2.1.2.1 = 0 ∧ t.2.2.2.1.2.2 = 0) ∧ ¬ (0 : Int) < (t.2.2.2.2.1.length : Int)
theorem zN_iff {n : TNode} : zeroNodeB n = true ↔ zN n := by
  unfold zeroNodeB zN
  rw [sameNode_eq]
  constructor
  · intro h; subst h; exact ⟨rfl, ⟨rfl, rfl, rfl⟩, by simp [zNode]⟩
  · rintro ⟨h1, h2, h3⟩
    exact Prod.ext h1 (Prod.ext (res_ext.2 h2) (len_zero.2 h3))
theorem zQ_iff {q : TQueue} : q = zQueue ↔ zQ q := by
  unfold zQ
  exact ⟨fun h => by subst h; exact ⟨rfl, rfl, rfl, rfl⟩, fun h => Prod.ext h.1 (res_ext.2 h.2)⟩
theorem zT_iff {t : TTask} : zeroTaskB t = true ↔ zT t := by
  unfold zeroTaskB zT
  rw [sameTask_eq, app_zero, app_zero, app_zero]
  constructor
  · intro h; subst h; exact ⟨⟨⟨⟨rfl, rfl⟩, rfl⟩, rfl⟩, rfl, rfl, ⟨rfl, rfl, rfl⟩, by simp [zTask]⟩
  · rintro ⟨⟨⟨⟨h1, h2⟩, h3⟩, h4⟩, h5, h6, h7, h8⟩
    exact Prod.ext h1 (Prod.ext h2 (Prod.ext h5 (Prod.ext (res_ext.2 h7) (Prod.ext (len_zero.2 h8) (Prod.ext h3 (Prod.ext h4 h6))))))
theorem bareB_iff {o : TOp} : bareB o = true ↔ (o.1 = 1 ∨ zN o.2.1) ∧ (o.1 = 3 ∨ zQ o.2.2.1) ∧ (o.1 = 5 ∨ zT o.2.2.2.1) ∧ (namedB o.1 = true ∨ o.2.2.2.2 = ByteArray.empty) := by
  unfold bareB
  simp only [Bool.and_eq_true, Bool.or_eq_true, decide_eq_true_eq, and_assoc, zN_iff, zQ_iff, zT_iff]

set_option maxHeartbeats 4000000 in
theorem f172.ok (a : TOp) (h : op_pre a) : f172.vc a := by
  obtain ⟨k, n, q, t, m⟩ := a
  obtain ⟨h1, h2, h3, h4, h5, h6⟩ := h
  obtain ⟨t1, t2, t3, t4, t5⟩ := h3
  unfold name_pre at t1 t2 t4 t5
  have key := bareB_iff (o := (k, n, q, t, m))
  unfold zN zQ zT at key
  unfold f172.vc
  simp only [bytes_beq] at *
  generalize bareB (k, n, q, t, m) = b at *
  repeat' (first | assumption | refine And.intro ?_ ?_ | intro _)
  all_goals first | (simp only [size_app]; omega) | (cases b <;> grind)

theorem f152.ok (a : TOp) (h : op_pre a) : f152.vc a := by
  obtain ⟨h1, h2, h3, h4, h5, h6⟩ := h
  refine ⟨⟨h1, h2, h3, h4, h5, h6⟩, fun c => ?_, fun c => ?_⟩
  · unfold rightO; simp [c]
  have c := Classical.not_not.1 c
  have e : ∀ b : Bool, (bareB a && b) = b := fun b => by rw [c]; rfl
  unfold rightO
  refine ⟨fun d => ⟨h1, by rw [e, if_pos d]⟩, fun d1 => ⟨fun d => ⟨h2, by rw [e, if_neg d1, if_pos d]⟩, fun d2 => ⟨fun d => ⟨h3, by rw [e, if_neg d1, if_neg d2, if_pos d]⟩, fun d3 => ⟨fun d => by rw [e, if_neg d1, if_neg d2, if_neg d3, if_pos d], fun d4 => ⟨fun d => ⟨h4, ?_⟩, fun d => ?_⟩⟩⟩⟩⟩
  · rw [e, if_neg d1, if_neg d2, if_neg d3, if_neg d4, d]; rfl
  · rw [e, if_neg d1, if_neg d2, if_neg d3, if_neg d4]
    have : namedB a.1 = false := by simpa using d
    rw [this]; rfl

theorem f312.ok (a : TNode) (h : zeroNode_pre a) : f312.vc a := ⟨⟨h, Nat.zero_le _⟩, rfl⟩
theorem f313.ok (a : TTask) (h : zeroTask_pre a) : f313.vc a := ⟨⟨h, Nat.zero_le _⟩, rfl⟩

theorem rightO_iff {o : TOp} : rightO o = true ↔ bareB o = true ∧ (o.1 = 1 ∧ nodeB o.2.1 = true ∨ o.1 = 3 ∧ queueB o.2.2.1 = true ∨ o.1 = 5 ∧ taskB o.2.2.2.1 = true ∨ o.1 = 9 ∨ namedB o.1 = true ∧ nameB o.2.2.2.2 = true) := by
  unfold rightO
  rw [Bool.and_eq_true]
  have hn := named_iff (k := o.1)
  by_cases h1 : o.1 = 1
  · rw [if_pos h1]; grind
  by_cases h3 : o.1 = 3
  · rw [if_neg h1, if_pos h3]; grind
  by_cases h5 : o.1 = 5
  · rw [if_neg h1, if_neg h3, if_pos h5]; grind
  by_cases h9 : o.1 = 9
  · rw [if_neg h1, if_neg h3, if_neg h5, if_pos h9]; grind
  · rw [if_neg h1, if_neg h3, if_neg h5, if_neg h9, Bool.and_eq_true]; grind

set_option maxHeartbeats 4000000 in
theorem f279.ok (a : TOp) (h : op_pre a) : f279.vc a := by
  obtain ⟨k, n, q, t, m⟩ := a
  obtain ⟨h1, h2, h3, h4, h5, h6⟩ := h
  have key := rightO_iff (o := (k, n, q, t, m))
  have key2 := bareB_iff (o := (k, n, q, t, m))
  rw [← zN_iff, ← zT_iff] at key2
  unfold zQ at key2
  have hn := named_iff (k := k)
  have h5 : zeroNode_pre n := h5
  have h6 : zeroTask_pre t := h6
  unfold f279.vc
  simp only at *
  generalize rightO (k, n, q, t, m) = b at *
  generalize bareB (k, n, q, t, m) = b2 at *
  generalize zeroNodeB n = zn at *
  generalize zeroTaskB t = zt at *
  generalize namedB k = nk at *
  generalize nodeB n = bn at *
  generalize queueB q = bq at *
  generalize taskB t = bt at *
  generalize nameB m = bm at *
  repeat' (first | assumption | refine And.intro ?_ ?_ | intro _)
  all_goals first | assumption | (cases b <;> cases b2 <;> grind)

theorem op_small {o : TOp} (h : rightO o = true) : 1 ≤ o.1 ∧ o.1 ≤ 9 := by
  rcases (rightO_iff.1 h).2 with h | h | h | h | h
  · omega
  · omega
  · omega
  · omega
  · have := named_iff.1 h.1; omega

theorem f311.ok (a : TOp) (h : opS_pre a) : f311.vc a := by
  obtain ⟨⟨h1, h2, h3, h4, h5, h6⟩, ⟨u1, u2⟩, h7, h8⟩ := h
  have hz := num_small (n := a.1.toNat) (by omega)
  have zn : (nodeS a.2.1).size ≤ 300 := by
    unfold nodeS; split
    · rename_i h; exact nodeS0_size h
    · exact Nat.zero_le _
  have zq : (queueS a.2.2.1).size ≤ 100 := by
    unfold queueS; split
    · rename_i h; exact queueS0_size h
    · exact Nat.zero_le _
  have zt : (taskS a.2.2.2.1).size ≤ 500 := by
    unfold taskS; split
    · rename_i h; exact taskS0_size h
    · exact Nat.zero_le _
  have zx := textS_size h7
  have e : numS a.1 = num a.1.toNat := rfl
  unfold f311.vc opS opBody
  rw [e]
  refine ⟨u1, u2, ⟨u1, u2⟩, fun d => ⟨h1, by omega, by rw [if_pos d]⟩, fun d1 => ⟨fun d => ⟨h2, by omega, by rw [if_neg d1, if_pos d]⟩, fun d2 => ⟨fun d => ⟨h3, by omega, by rw [if_neg d1, if_neg d2, if_pos d]⟩, fun d3 => ⟨fun d => by rw [if_neg d1, if_neg d2, if_neg d3, if_pos d, app_empty], fun d4 => ⟨h7, by omega, by rw [if_neg d1, if_neg d2, if_neg d3, if_neg d4]⟩⟩⟩⟩⟩

theorem f278.ok (a : TOp) (h : encO_pre a) : f278.vc a := by
  refine ⟨h.1, fun c => by unfold encO; rw [if_neg c], fun c => ?_⟩
  have c := Classical.not_not.1 c
  have := op_small c
  exact ⟨⟨h.1, ⟨by omega, by omega⟩, h.2, by omega⟩, by unfold encO; rw [if_pos c]⟩

theorem f277.ok (a : TOp) (h : encO_pre a) : f277.vc a := by
  obtain ⟨h0, h7⟩ := h
  obtain ⟨h1, h2, h3, h4, h5, h6⟩ := h0
  refine ⟨⟨h1, h2, h3, h4, h5, h6⟩, fun c => by unfold encO; rw [if_neg c], fun c => ?_⟩
  have c := Classical.not_not.1 c
  have hk := op_small c
  have e : putB (ByteArray.empty, a.1) = num a.1.toNat := by unfold putB; exact empty_app _
  have hz := num_small (n := a.1.toNat) (by omega)
  have en : encO a = (opS a, 0) := by unfold encO; rw [if_pos c]
  rw [e, en]
  unfold opS opBody
  refine ⟨by omega, by omega, ⟨Nat.zero_le _, by show 0 ≤ a.1; omega, by show a.1 ≤ _; omega⟩, fun d => ⟨⟨by show (num _).size ≤ _; omega, h1⟩, by rw [if_pos d]; rfl⟩, fun d1 => ⟨fun d => ⟨⟨by show (num _).size ≤ _; omega, h2⟩, by rw [if_neg d1, if_pos d]; rfl⟩, fun d2 => ⟨fun d => ⟨⟨by show (num _).size ≤ _; omega, h3⟩, by rw [if_neg d1, if_neg d2, if_pos d]; rfl⟩, fun d3 => ⟨fun d => by rw [if_neg d1, if_neg d2, if_neg d3, if_pos d, app_empty], fun d4 => ⟨⟨by show (num _).size ≤ _; omega, h7⟩, ?_⟩⟩⟩⟩⟩
  rw [if_neg d1, if_neg d2, if_neg d3, if_neg d4]
  unfold putText textS
  simp only [app_assoc]

end Go.Abs
