/- Functions, and what the code asks of them: PRead. -/
import Derived.KernelRfl
import Derived.Test.YtabnaedcnfkmiacB29df64bd
import Derived.Test.YtabnaedcnfkmiacB83512007
import Derived.Test.YtabnaedcnfkmiacB9ec639c5
import Derived.Test.YtabnaedcnfkmiacB663b6f9e
set_option linter.unusedVariables false
set_option linter.unusedSimpArgs false
/- Machines, queues and tasks, read from bytes. -/
namespace Go.Abs
open Go

/-- Bytes, how far they are read, the first error. -/
abbrev TRd := ByteArray × Int × Int
section
variable (txt : TRd → ByteArray × TRd)
end
def zNode : TNode := (ByteArray.empty, (0, 0, 0), [])
def zQueue : TQueue := (ByteArray.empty, (0, 0, 0))
def zTask : TTask := (ByteArray.empty, ByteArray.empty, 0, (0, 0, 0), [], ByteArray.empty, ByteArray.empty, 0)
/-- Are they alike? -/
def sameLbls (a : List TLbl × List TLbl) : Bool := decide (a.1 = a.2)
def LLL20 (a : List TLbl × List TLbl) : Prop := a.1.length ≤ 1048576 ∧ a.2.length ≤ 1048576
def sameNode_pre (a : TNode × TNode) : Prop := LLL20 (a.1.2.2, a.2.2.2)
def sameNode (a : TNode × TNode) : Bool := decide (a.1 = a.2)
def sameTask_pre (a : TTask × TTask) : Prop := LLL20 (a.1.2.2.2.2.1, a.2.2.2.2.2.1)
def sameTask (a : TTask × TTask) : Bool := decide ((a.1.1 = a.2.1 ∧ a.1.2.1 = a.2.2.1 ∧ a.1.2.2.1 = a.2.2.2.1 ∧ a.1.2.2.2.1 = a.2.2.2.2.1) ∧ a.1.2.2.2.2 = a.2.2.2.2.2)
end Go.Abs

-- (*interregnum/model.reader).number
namespace Go.Abs
open Go
end Go.Abs

/- (*interregnum/model.reader).number -/
namespace Go.Abs
open Go
set_option linter.unusedVariables false
end Go.Abs

-- (*interregnum/interregnumref05.Reader).Number
namespace Go.Abs
open Go
end Go.Abs

/- (*interregnum/interregnumref05.Reader).Number -/
namespace Go.Abs
open Go
set_option linter.unusedVariables false
end Go.Abs

-- (*interregnum/model.reader).text
namespace Go.Abs
open Go
end Go.Abs

/- (*interregnum/model.reader).text -/
namespace Go.Abs
open Go
set_option linter.unusedVariables false
end Go.Abs

-- (*interregnum/interregnumref05.Reader).Text
namespace Go.Abs
open Go
end Go.Abs

/- (*interregnum/interregnumref05.Reader).Text -/
namespace Go.Abs
open Go
set_option linter.unusedVariables false
end Go.Abs

-- (*interregnum/model.reader).amount
namespace Go.Abs
open Go
end Go.Abs

/- (*interregnum/model.reader).amount -/
namespace Go.Abs
open Go
set_option linter.unusedVariables false
end Go.Abs

-- (*interregnum/interregnumref05.Reader).amount
namespace Go.Abs
open Go
end Go.Abs

/- (*interregnum/interregnumref05.Reader).amount -/
namespace Go.Abs
open Go
set_option linter.unusedVariables false
end Go.Abs

-- (*interregnum/model.reader).labels
namespace Go.Abs
open Go
end Go.Abs

/- (*interregnum/model.reader).labels -/
namespace Go.Abs
open Go
set_option linter.unusedVariables false
end Go.Abs

-- (*interregnum/interregnumref05.Reader).labels
namespace Go.Abs
open Go
end Go.Abs

/- (*interregnum/interregnumref05.Reader).labels -/
namespace Go.Abs
open Go
set_option linter.unusedVariables false
end Go.Abs

-- (*interregnum/model.reader).end
namespace Go.Abs
open Go
end Go.Abs

/- (*interregnum/model.reader).end -/
namespace Go.Abs
open Go
set_option linter.unusedVariables false
end Go.Abs

-- (*interregnum/interregnumref05.Reader).done
namespace Go.Abs
open Go
end Go.Abs

/- (*interregnum/interregnumref05.Reader).done -/
namespace Go.Abs
open Go
set_option linter.unusedVariables false
end Go.Abs

-- interregnum/model.TakeNode
namespace Go.Abs
open Go
end Go.Abs

/- interregnum/model.TakeNode -/
namespace Go.Abs
open Go
set_option linter.unusedVariables false
end Go.Abs

-- interregnum/model.TakeQueue
namespace Go.Abs
open Go
end Go.Abs

/- interregnum/model.TakeQueue -/
namespace Go.Abs
open Go
set_option linter.unusedVariables false
end Go.Abs

-- interregnum/model.TakeTask
namespace Go.Abs
open Go
end Go.Abs

/- interregnum/model.TakeTask -/
namespace Go.Abs
open Go
set_option linter.unusedVariables false
end Go.Abs

-- (*interregnum/interregnumref05.Reader).Node
namespace Go.Abs
open Go
end Go.Abs

/- (*interregnum/interregnumref05.Reader).Node -/
namespace Go.Abs
open Go
set_option linter.unusedVariables false
end Go.Abs

-- (*interregnum/interregnumref05.Reader).Queue
namespace Go.Abs
open Go
end Go.Abs

/- (*interregnum/interregnumref05.Reader).Queue -/
namespace Go.Abs
open Go
set_option linter.unusedVariables false
end Go.Abs

-- (*interregnum/interregnumref05.Reader).Task
namespace Go.Abs
open Go
end Go.Abs

/- (*interregnum/interregnumref05.Reader).Task -/
namespace Go.Abs
open Go
set_option linter.unusedVariables false
end Go.Abs

-- interregnum/interregnumlaw05.place
namespace Go.Abs
open Go
end Go.Abs

/- interregnum/interregnumlaw05.place -/
namespace Go.Abs
open Go
set_option linter.unusedVariables false
end Go.Abs

-- interregnum/interregnumref04.Same
namespace Go.Abs
open Go
def f322.args (a : (List (T_api_Label)) × (List (T_api_Label))) : List D := [.slice .ro 2 a.1.length (gl e_api_Label a.1), .slice .ro 2 a.2.length (gl e_api_Label a.2)]
def f322.blks (a : (List (T_api_Label)) × (List (T_api_Label))) : List (List D) := []
def f322.res (a : (List (T_api_Label)) × (List (T_api_Label))) : List D := [.bool (sameLbls a)]
def f322.blks' (a : (List (T_api_Label)) × (List (T_api_Label))) : List (List D) := []
def f322.C : Contract := FnC f322.args f322.blks (fun a => LLL20 a) f322.res f322.blks'
end Go.Abs

/- interregnum/interregnumref04.Same -/
namespace Go.Abs
open Go
set_option linter.unusedVariables false
def f322.kills (a : (List (T_api_Label)) × (List (T_api_Label))) : List Hint := [.tell Int (fun x => ⟨[.slice .ro 2 a.1.length (gl e_api_Label a.1), .slice .ro 2 a.2.length (gl e_api_Label a.2), .dead, .dead, .dead, .dead, .dead, .dead, .dead, .dead, .dead, .dead, .int .i64 (a.1.length : Int), .int .i64 x, .dead, .dead, .dead, .dead, .dead, .dead, .dead, .dead, .dead, .dead, .dead, .dead], [], []⟩)]
def f322.cuts (a : (List (T_api_Label)) × (List (T_api_Label))) : List (Nat × Σ β : Type, β → Tm) := []
def f322.af (a : (List (T_api_Label)) × (List (T_api_Label))) : AF := AF.mk (.seq (.region [⟨(some 4), 0, .move, [.c (.bool false)], none⟩])
 (.seq (.seq (.region [⟨(some 6), 1, .move, [.t 0], none⟩,
  ⟨(some 7), 2, (.len false), [.t 6], none⟩,
  ⟨(some 8), 3, .move, [.t 1], none⟩,
  ⟨(some 9), 4, (.len false), [.t 8], none⟩,
  ⟨(some 10), 5, (.bin .neq), [.t 7, .t 9], none⟩])
 (.cond (.t 10) (.seq (.region [⟨(some 4), 6, .move, [.c (.bool false)], none⟩])
 (.ret)) (.skip)))
 (.seq (.seq (.region [⟨(some 11), 7, .move, [.t 0], none⟩,
  ⟨(some 12), 8, (.len false), [.t 11], none⟩,
  ⟨(some 13), 9, .move, [.c (.int .i64 (0))], none⟩])
 (.block 0 (.loopT Int (fun x => ⟨[.slice .ro 2 a.1.length (gl e_api_Label a.1), .slice .ro 2 a.2.length (gl e_api_Label a.2), .dead, .dead, .dead, .dead, .dead, .dead, .dead, .dead, .dead, .dead, .int .i64 (a.1.length : Int), .int .i64 x, .dead, .dead, .dead, .dead, .dead, .dead, .dead, .dead, .dead, .dead, .dead, .dead], [], []⟩) 10 25 (.seq (.region [⟨(some 14), 10, (.bin .lss), [.t 13, .t 12], none⟩])
 (.seq (.cond (.t 14) (.skip) (.exit 0))
 (.seq (.block 1 (.seq (.region [⟨(some 15), 11, .move, [.t 13], none⟩,
  ⟨(some 5), 12, .move, [.t 15], none⟩])
 (.seq (.region [⟨(some 16), 13, .move, [.t 0], none⟩,
  ⟨(some 17), 14, .move, [.t 5], none⟩,
  ⟨(some 18), 15, (.indexAddr 2 none), [.t 16, .t 17], none⟩,
  ⟨(some 19), 16, (.load true 2), [.t 18], none⟩,
  ⟨(some 20), 17, .move, [.t 1], none⟩,
  ⟨(some 21), 18, .move, [.t 5], none⟩,
  ⟨(some 22), 19, (.indexAddr 2 none), [.t 20, .t 21], none⟩,
  ⟨(some 23), 20, (.load true 2), [.t 22], none⟩,
  ⟨(some 24), 21, (.eqAgg true [2, 2]), [.t 19, .t 23], none⟩])
 (.cond (.t 24) (.seq (.region [⟨(some 4), 22, .move, [.c (.bool false)], none⟩])
 (.ret)) (.skip)))))
 (.region [⟨(some 25), 23, (.bin .add), [.t 13, .c (.int .i64 (1))], none⟩,
  ⟨(some 13), 24, .move, [.t 25], none⟩])))))))
 (.seq (.region [⟨(some 4), 25, .move, [.c (.bool true)], none⟩])
 (.ret)))))
  [.tmp 4] 0 24
def f322.env : Env := []
def f322.tree (a : (List (T_api_Label)) × (List (T_api_Label))) : Prop := Br ((a.1.length : Int) != (a.2.length : Int)) ((false = (sameLbls a)) ∧ True) (∃ (I5 : Int → Prop) (μ6 : Int → Nat), (∃ x4 : Int, (a.1.length = a.1.length) ∧ (∀ i, i < a.1.length → DEqs ((gl e_api_Label a.1) i) ((gl e_api_Label a.1) i)) ∧ (a.2.length = a.2.length) ∧ (∀ i, i < a.2.length → DEqs ((gl e_api_Label a.2) i) ((gl e_api_Label a.2) i)) ∧ ((a.1.length : Int) = (a.1.length : Int)) ∧ ((0 : Int) = x4) ∧ I5 x4) ∧ ∀ y7 : Int, I5 y7 → (Br (decide (y7 < (a.1.length : Int))) (Br (decide ((0 : Int) ≤ y7) && decide (y7 < (a.1.length : Int))) (Br (decide ((0 : Int) ≤ y7) && decide (y7 < (a.2.length : Int))) (Br (!((((at_ a.1 y7).1).toList == ((at_ a.2 y7).1).toList) && (((at_ a.1 y7).2).toList == ((at_ a.2 y7).2).toList))) ((false = (sameLbls a)) ∧ True) (Let (IntKind.i64.wrap (y7 + (1 : Int))) (fun v15 : Int => ∃ x16 : Int, (a.1.length = a.1.length) ∧ (∀ i, i < a.1.length → DEqs ((gl e_api_Label a.1) i) ((gl e_api_Label a.1) i)) ∧ (a.2.length = a.2.length) ∧ (∀ i, i < a.2.length → DEqs ((gl e_api_Label a.2) i) ((gl e_api_Label a.2) i)) ∧ ((a.1.length : Int) = (a.1.length : Int)) ∧ (v15 = x16) ∧ I5 x16 ∧ μ6 x16 < μ6 y7))) False) False) ((true = (sameLbls a)) ∧ True)))
def f322.vc (a : (List (T_api_Label)) × (List (T_api_Label))) : Prop := ((¬ (a.1.length : Int) = (a.2.length : Int) → (false = sameLbls a)) ∧ (¬ (¬ (a.1.length : Int) = (a.2.length : Int)) → (∃ (I5 : Int → Prop) (μ6 : Int → Nat), I5 (0 : Int) ∧ ∀ y7 : Int, I5 y7 → ((y7 < (a.1.length : Int) → ((0 : Int) ≤ y7 ∧ y7 < (a.1.length : Int) ∧ ((0 : Int) ≤ y7 ∧ y7 < (a.2.length : Int) ∧ ((¬ (((at_ a.1 y7).1) = ((at_ a.2 y7).1) ∧ ((at_ a.1 y7).2) = ((at_ a.2 y7).2)) → (false = sameLbls a)) ∧ (¬ (¬ (((at_ a.1 y7).1) = ((at_ a.2 y7).1) ∧ ((at_ a.1 y7).2) = ((at_ a.2 y7).2))) → (-9223372036854775808 ≤ (y7 + (1 : Int)) ∧ (y7 + (1 : Int)) ≤ 9223372036854775807 ∧ (I5 (y7 + (1 : Int)) ∧ μ6 (y7 + (1 : Int)) < μ6 y7))))))) ∧ (¬ (y7 < (a.1.length : Int)) → (true = sameLbls a))))))
set_option maxRecDepth 100000 in
set_option maxHeartbeats 2000000 in
theorem f322.of (a : (List (T_api_Label)) × (List (T_api_Label))) (h : f322.vc a) : f322.tree a := br h Cnd.ne (fun h1 k31 => ⟨k31, trivial⟩) (fun h2 k32 => Exists.elim k32 (fun I5 h28_ => Exists.elim h28_ (fun μ6 h28 => ⟨I5, μ6, ⟨(0 : Int), slK (Rds.self (enc := e_api_Label)) (slK (Rds.self (enc := e_api_Label)) (⟨rfl, ⟨rfl, h28.1⟩⟩))⟩, fun y7 h30 => br (h28.2 y7 h30) Cnd.dec (fun h8 k26 => chk k26.2.2 Cnd.ix ⟨k26.1, k26.2.1⟩ (fun h10 k24 => chk k24.2.2 Cnd.ix ⟨k24.1, k24.2.1⟩ (fun h11 k23 => br k23 (Cnd.not (Cnd.and Cnd.seq Cnd.seq)) (fun h12 k21 => ⟨k21, trivial⟩) (fun h13 k22 => wrapK.i64 k22 (fun h18 h19 k20 => ⟨(y7 + (1 : Int)), slK (Rds.self (enc := e_api_Label)) (slK (Rds.self (enc := e_api_Label)) (⟨rfl, ⟨rfl, k20⟩⟩))⟩))))) (fun h9 k27 => ⟨k27, trivial⟩)⟩)))
theorem f322.eq (a : (List (T_api_Label)) × (List (T_api_Label))) : (f322.af a).gives f322.env (f322.args a) (f322.blks a) (f322.res a) (f322.blks' a) = f322.tree a := by kernel_rfl
end Go.Abs

-- interregnum/interregnumref05.SameNode
namespace Go.Abs
open Go
def f287.args (a : T_api_Node × T_api_Node) : List D := [.agg [.str a.1.1, .int .i64 a.1.2.1.1, .int .i64 a.1.2.1.2.1, .int .i64 a.1.2.1.2.2, .slice .ro 2 a.1.2.2.length (gl e_api_Label a.1.2.2)], .agg [.str a.2.1, .int .i64 a.2.2.1.1, .int .i64 a.2.2.1.2.1, .int .i64 a.2.2.1.2.2, .slice .ro 2 a.2.2.2.length (gl e_api_Label a.2.2.2)]]
def f287.blks (a : T_api_Node × T_api_Node) : List (List D) := []
def f287.res (a : T_api_Node × T_api_Node) : List D := [.bool (sameNode a)]
def f287.blks' (a : T_api_Node × T_api_Node) : List (List D) := []
def f287.C : Contract := FnC f287.args f287.blks (fun a => sameNode_pre a) f287.res f287.blks'
end Go.Abs

/- interregnum/interregnumref05.SameNode -/
namespace Go.Abs
open Go
set_option linter.unusedVariables false
def f287.kills (a : T_api_Node × T_api_Node) : List Hint := []
def f287.cuts (a : T_api_Node × T_api_Node) : List (Nat × Σ β : Type, β → Tm) := []
def f287.af (a : T_api_Node × T_api_Node) : AF := AF.mk (.seq (.region [⟨(some 2), 0, .box, [.t 0], none⟩,
  ⟨(some 3), 1, .box, [.t 1], none⟩,
  ⟨(some 4), 2, .move, [.c (.bool false)], none⟩])
 (.seq (.region [⟨(some 5), 3, (.fieldAddr 0), [.t 2], none⟩,
  ⟨(some 6), 4, (.load false 1), [.t 5], none⟩,
  ⟨(some 7), 5, (.fieldAddr 0), [.t 3], none⟩,
  ⟨(some 8), 6, (.load false 1), [.t 7], none⟩,
  ⟨(some 9), 7, (.bin .eql), [.t 6, .t 8], none⟩,
  ⟨(some 10), 8, .move, [.t 9], none⟩,
  ⟨(some 11), 9, (.fieldAddr 1), [.t 2], (some (10, true))⟩,
  ⟨(some 12), 10, (.load true 3), [.t 11], (some (10, true))⟩,
  ⟨(some 13), 11, (.fieldAddr 1), [.t 3], (some (10, true))⟩,
  ⟨(some 14), 12, (.load true 3), [.t 13], (some (10, true))⟩,
  ⟨(some 15), 13, (.eqAgg false [0, 0, 0]), [.t 12, .t 14], (some (10, true))⟩,
  ⟨(some 16), 14, .pick, [.t 10, .t 15, .c (.bool false)], none⟩,
  ⟨(some 17), 15, .move, [.t 16], none⟩,
  ⟨(some 18), 16, (.fieldAddr 4), [.t 2], (some (17, true))⟩,
  ⟨(some 19), 17, (.load false 1), [.t 18], (some (17, true))⟩,
  ⟨(some 20), 18, (.fieldAddr 4), [.t 3], (some (17, true))⟩,
  ⟨(some 21), 19, (.load false 1), [.t 20], (some (17, true))⟩,
  ⟨(some 22), 20, (.call false 322), [.t 19, .t 21], (some (17, true))⟩,
  ⟨(some 23), 24, .pick, [.t 17, .t 22, .c (.bool false)], none⟩,
  ⟨(some 4), 25, .move, [.t 23], none⟩])
 (.ret)))
  [.tmp 4] 0 22
def f287.env : Env := [(322, f322.C)]
def f287.tree (a : T_api_Node × T_api_Node) : Prop := Br (a.1.1.toList == a.2.1.toList) (Br ((a.1.2.1.1 == a.2.2.1.1) && ((a.1.2.1.2.1 == a.2.2.1.2.1) && (a.1.2.1.2.2 == a.2.2.1.2.2))) (∃ c5 : (List (T_api_Label)) × (List (T_api_Label)), (a.1.2.2.length = c5.1.length) ∧ (∀ i, i < c5.1.length → DEqs ((gl e_api_Label a.1.2.2) i) ((gl e_api_Label c5.1) i)) ∧ (a.2.2.2.length = c5.2.length) ∧ (∀ i, i < c5.2.length → DEqs ((gl e_api_Label a.2.2.2) i) ((gl e_api_Label c5.2) i)) ∧ (LLL20 c5) ∧ ((sameLbls c5) = (sameNode a)) ∧ True) ((false = (sameNode a)) ∧ True)) ((false = (sameNode a)) ∧ True)
def f287.vc (a : T_api_Node × T_api_Node) : Prop := ((a.1.1 = a.2.1 → ((a.1.2.1.1 = a.2.2.1.1 ∧ a.1.2.1.2.1 = a.2.2.1.2.1 ∧ a.1.2.1.2.2 = a.2.2.1.2.2 → (LLL20 (a.1.2.2, a.2.2.2) ∧ ((sameLbls (a.1.2.2, a.2.2.2)) = sameNode a))) ∧ (¬ (a.1.2.1.1 = a.2.2.1.1 ∧ a.1.2.1.2.1 = a.2.2.1.2.1 ∧ a.1.2.1.2.2 = a.2.2.1.2.2) → (false = sameNode a)))) ∧ (¬ (a.1.1 = a.2.1) → (false = sameNode a)))
set_option maxRecDepth 100000 in
set_option maxHeartbeats 2000000 in
theorem f287.of (a : T_api_Node × T_api_Node) (h : f287.vc a) : f287.tree a := br h Cnd.seq (fun h1 k12 => br k12 (Cnd.and Cnd.eq (Cnd.and Cnd.eq Cnd.eq)) (fun h3 k9 => ⟨(a.1.2.2, a.2.2.2), slK (Rds.self (enc := e_api_Label)) (slK (Rds.self (enc := e_api_Label)) (⟨k9.1, ⟨k9.2, trivial⟩⟩))⟩) (fun h4 k10 => ⟨k10, trivial⟩)) (fun h2 k13 => ⟨k13, trivial⟩)
theorem f287.eq (a : T_api_Node × T_api_Node) : (f287.af a).gives f287.env (f287.args a) (f287.blks a) (f287.res a) (f287.blks' a) = f287.tree a := by kernel_rfl
end Go.Abs

-- interregnum/interregnumref05.SameTask
namespace Go.Abs
open Go
def f290.args (a : T_api_Task × T_api_Task) : List D := [.agg [.str a.1.1, .str a.1.2.1, .int .i64 a.1.2.2.1, .int .i64 a.1.2.2.2.1.1, .int .i64 a.1.2.2.2.1.2.1, .int .i64 a.1.2.2.2.1.2.2, .slice .ro 2 a.1.2.2.2.2.1.length (gl e_api_Label a.1.2.2.2.2.1), .str a.1.2.2.2.2.2.1, .str a.1.2.2.2.2.2.2.1, .int .i64 a.1.2.2.2.2.2.2.2], .agg [.str a.2.1, .str a.2.2.1, .int .i64 a.2.2.2.1, .int .i64 a.2.2.2.2.1.1, .int .i64 a.2.2.2.2.1.2.1, .int .i64 a.2.2.2.2.1.2.2, .slice .ro 2 a.2.2.2.2.2.1.length (gl e_api_Label a.2.2.2.2.2.1), .str a.2.2.2.2.2.2.1, .str a.2.2.2.2.2.2.2.1, .int .i64 a.2.2.2.2.2.2.2.2]]
def f290.blks (a : T_api_Task × T_api_Task) : List (List D) := []
def f290.res (a : T_api_Task × T_api_Task) : List D := [.bool (sameTask a)]
def f290.blks' (a : T_api_Task × T_api_Task) : List (List D) := []
def f290.C : Contract := FnC f290.args f290.blks (fun a => sameTask_pre a) f290.res f290.blks'
end Go.Abs

/- interregnum/interregnumref05.SameTask -/
namespace Go.Abs
open Go
set_option linter.unusedVariables false
def f290.kills (a : T_api_Task × T_api_Task) : List Hint := []
def f290.cuts (a : T_api_Task × T_api_Task) : List (Nat × Σ β : Type, β → Tm) := []
def f290.af (a : T_api_Task × T_api_Task) : AF := AF.mk (.seq (.region [⟨(some 2), 0, .box, [.t 0], none⟩,
  ⟨(some 3), 1, .box, [.t 1], none⟩,
  ⟨(some 4), 2, .move, [.c (.bool false)], none⟩])
 (.seq (.region [⟨(some 5), 3, (.fieldAddr 0), [.t 2], none⟩,
  ⟨(some 6), 4, (.load false 1), [.t 5], none⟩,
  ⟨(some 7), 5, (.fieldAddr 0), [.t 3], none⟩,
  ⟨(some 8), 6, (.load false 1), [.t 7], none⟩,
  ⟨(some 9), 7, (.bin .eql), [.t 6, .t 8], none⟩,
  ⟨(some 10), 8, .move, [.t 9], none⟩,
  ⟨(some 11), 9, (.fieldAddr 1), [.t 2], (some (10, true))⟩,
  ⟨(some 12), 10, (.load false 1), [.t 11], (some (10, true))⟩,
  ⟨(some 13), 11, (.fieldAddr 1), [.t 3], (some (10, true))⟩,
  ⟨(some 14), 12, (.load false 1), [.t 13], (some (10, true))⟩,
  ⟨(some 15), 13, (.bin .eql), [.t 12, .t 14], (some (10, true))⟩,
  ⟨(some 16), 14, .pick, [.t 10, .t 15, .c (.bool false)], none⟩,
  ⟨(some 17), 15, .move, [.t 16], none⟩,
  ⟨(some 18), 16, (.fieldAddr 2), [.t 2], (some (17, true))⟩,
  ⟨(some 19), 17, (.load false 1), [.t 18], (some (17, true))⟩,
  ⟨(some 20), 18, (.fieldAddr 2), [.t 3], (some (17, true))⟩,
  ⟨(some 21), 19, (.load false 1), [.t 20], (some (17, true))⟩,
  ⟨(some 22), 20, (.bin .eql), [.t 19, .t 21], (some (17, true))⟩,
  ⟨(some 23), 21, .pick, [.t 17, .t 22, .c (.bool false)], none⟩,
  ⟨(some 24), 22, .move, [.t 23], none⟩,
  ⟨(some 25), 23, (.fieldAddr 3), [.t 2], (some (24, true))⟩,
  ⟨(some 26), 24, (.load true 3), [.t 25], (some (24, true))⟩,
  ⟨(some 27), 25, (.fieldAddr 3), [.t 3], (some (24, true))⟩,
  ⟨(some 28), 26, (.load true 3), [.t 27], (some (24, true))⟩,
  ⟨(some 29), 27, (.eqAgg false [0, 0, 0]), [.t 26, .t 28], (some (24, true))⟩,
  ⟨(some 30), 28, .pick, [.t 24, .t 29, .c (.bool false)], none⟩,
  ⟨(some 31), 29, .move, [.t 30], none⟩,
  ⟨(some 32), 30, (.fieldAddr 6), [.t 2], (some (31, true))⟩,
  ⟨(some 33), 31, (.load false 1), [.t 32], (some (31, true))⟩,
  ⟨(some 34), 32, (.fieldAddr 6), [.t 3], (some (31, true))⟩,
  ⟨(some 35), 33, (.load false 1), [.t 34], (some (31, true))⟩,
  ⟨(some 36), 34, (.call false 322), [.t 33, .t 35], (some (31, true))⟩,
  ⟨(some 37), 38, .pick, [.t 31, .t 36, .c (.bool false)], none⟩,
  ⟨(some 38), 39, .move, [.t 37], none⟩,
  ⟨(some 39), 40, (.fieldAddr 7), [.t 2], (some (38, true))⟩,
  ⟨(some 40), 41, (.load false 1), [.t 39], (some (38, true))⟩,
  ⟨(some 41), 42, (.fieldAddr 7), [.t 3], (some (38, true))⟩,
  ⟨(some 42), 43, (.load false 1), [.t 41], (some (38, true))⟩,
  ⟨(some 43), 44, (.bin .eql), [.t 40, .t 42], (some (38, true))⟩,
  ⟨(some 44), 45, .pick, [.t 38, .t 43, .c (.bool false)], none⟩,
  ⟨(some 45), 46, .move, [.t 44], none⟩,
  ⟨(some 46), 47, (.fieldAddr 8), [.t 2], (some (45, true))⟩,
  ⟨(some 47), 48, (.load false 1), [.t 46], (some (45, true))⟩,
  ⟨(some 48), 49, (.fieldAddr 8), [.t 3], (some (45, true))⟩,
  ⟨(some 49), 50, (.load false 1), [.t 48], (some (45, true))⟩,
  ⟨(some 50), 51, (.bin .eql), [.t 47, .t 49], (some (45, true))⟩,
  ⟨(some 51), 52, .pick, [.t 45, .t 50, .c (.bool false)], none⟩,
  ⟨(some 52), 53, .move, [.t 51], none⟩,
  ⟨(some 53), 54, (.fieldAddr 9), [.t 2], (some (52, true))⟩,
  ⟨(some 54), 55, (.load false 1), [.t 53], (some (52, true))⟩,
  ⟨(some 55), 56, (.fieldAddr 9), [.t 3], (some (52, true))⟩,
  ⟨(some 56), 57, (.load false 1), [.t 55], (some (52, true))⟩,
  ⟨(some 57), 58, (.bin .eql), [.t 54, .t 56], (some (52, true))⟩,
  ⟨(some 58), 59, .pick, [.t 52, .t 57, .c (.bool false)], none⟩,
  ⟨(some 4), 60, .move, [.t 58], none⟩])
 (.ret)))
  [.tmp 4] 0 57
def f290.env : Env := [(322, f322.C)]
def f290.tree (a : T_api_Task × T_api_Task) : Prop := Br (a.1.1.toList == a.2.1.toList) (Br (a.1.2.1.toList == a.2.2.1.toList) (Br (a.1.2.2.1 == a.2.2.2.1) (Br ((a.1.2.2.2.1.1 == a.2.2.2.2.1.1) && ((a.1.2.2.2.1.2.1 == a.2.2.2.2.1.2.1) && (a.1.2.2.2.1.2.2 == a.2.2.2.2.1.2.2))) (∃ c9 : (List (T_api_Label)) × (List (T_api_Label)), (a.1.2.2.2.2.1.length = c9.1.length) ∧ (∀ i, i < c9.1.length → DEqs ((gl e_api_Label a.1.2.2.2.2.1) i) ((gl e_api_Label c9.1) i)) ∧ (a.2.2.2.2.2.1.length = c9.2.length) ∧ (∀ i, i < c9.2.length → DEqs ((gl e_api_Label a.2.2.2.2.2.1) i) ((gl e_api_Label c9.2) i)) ∧ (LLL20 c9) ∧ Br (sameLbls c9) (Br (a.1.2.2.2.2.2.1.toList == a.2.2.2.2.2.2.1.toList) (Br (a.1.2.2.2.2.2.2.1.toList == a.2.2.2.2.2.2.2.1.toList) (((a.1.2.2.2.2.2.2.2 == a.2.2.2.2.2.2.2.2) = (sameTask a)) ∧ True) ((false = (sameTask a)) ∧ True)) ((false = (sameTask a)) ∧ True)) ((false = (sameTask a)) ∧ True)) ((false = (sameTask a)) ∧ True)) ((false = (sameTask a)) ∧ True)) ((false = (sameTask a)) ∧ True)) ((false = (sameTask a)) ∧ True)
def f290.vc (a : T_api_Task × T_api_Task) : Prop := ((a.1.1 = a.2.1 → ((a.1.2.1 = a.2.2.1 → ((a.1.2.2.1 = a.2.2.2.1 → ((a.1.2.2.2.1.1 = a.2.2.2.2.1.1 ∧ a.1.2.2.2.1.2.1 = a.2.2.2.2.1.2.1 ∧ a.1.2.2.2.1.2.2 = a.2.2.2.2.1.2.2 → (LLL20 (a.1.2.2.2.2.1, a.2.2.2.2.2.1) ∧ (((sameLbls (a.1.2.2.2.2.1, a.2.2.2.2.2.1)) = true → ((a.1.2.2.2.2.2.1 = a.2.2.2.2.2.2.1 → ((a.1.2.2.2.2.2.2.1 = a.2.2.2.2.2.2.2.1 → ((a.1.2.2.2.2.2.2.2 == a.2.2.2.2.2.2.2.2) = sameTask a)) ∧ (¬ (a.1.2.2.2.2.2.2.1 = a.2.2.2.2.2.2.2.1) → (false = sameTask a)))) ∧ (¬ (a.1.2.2.2.2.2.1 = a.2.2.2.2.2.2.1) → (false = sameTask a)))) ∧ (¬ ((sameLbls (a.1.2.2.2.2.1, a.2.2.2.2.2.1)) = true) → (false = sameTask a))))) ∧ (¬ (a.1.2.2.2.1.1 = a.2.2.2.2.1.1 ∧ a.1.2.2.2.1.2.1 = a.2.2.2.2.1.2.1 ∧ a.1.2.2.2.1.2.2 = a.2.2.2.2.1.2.2) → (false = sameTask a)))) ∧ (¬ (a.1.2.2.1 = a.2.2.2.1) → (false = sameTask a)))) ∧ (¬ (a.1.2.1 = a.2.2.1) → (false = sameTask a)))) ∧ (¬ (a.1.1 = a.2.1) → (false = sameTask a)))
set_option maxRecDepth 100000 in
set_option maxHeartbeats 2000000 in
theorem f290.of (a : T_api_Task × T_api_Task) (h : f290.vc a) : f290.tree a := br h Cnd.seq (fun h1 k37 => br k37 Cnd.seq (fun h3 k34 => br k34 Cnd.eq (fun h5 k31 => br k31 (Cnd.and Cnd.eq (Cnd.and Cnd.eq Cnd.eq)) (fun h7 k28 => ⟨(a.1.2.2.2.2.1, a.2.2.2.2.2.1), slK (Rds.self (enc := e_api_Label)) (slK (Rds.self (enc := e_api_Label)) (⟨k28.1, br k28.2 Cnd.b (fun h10 k24 => br k24 Cnd.seq (fun h12 k21 => br k21 Cnd.seq (fun h14 k18 => ⟨k18, trivial⟩) (fun h15 k19 => ⟨k19, trivial⟩)) (fun h13 k22 => ⟨k22, trivial⟩)) (fun h11 k25 => ⟨k25, trivial⟩)⟩))⟩) (fun h8 k29 => ⟨k29, trivial⟩)) (fun h6 k32 => ⟨k32, trivial⟩)) (fun h4 k35 => ⟨k35, trivial⟩)) (fun h2 k38 => ⟨k38, trivial⟩)
theorem f290.eq (a : T_api_Task × T_api_Task) : (f290.af a).gives f290.env (f290.args a) (f290.blks a) (f290.res a) (f290.blks' a) = f290.tree a := by kernel_rfl
end Go.Abs

/- Readers: what the code asks of them. -/
namespace Go.Abs
open Go
theorem list_ext {α : Type} [Inhabited α] {l m : List α} (h : l.length = m.length) (k : ∀ i, i < l.length → l.getD i default = m.getD i default) : l = m := by
  apply List.ext_getElem h
  intro i h1 h2
  have := k i h1
  simpa [List.getD_eq_getElem?_getD, h1, h2] using this

theorem f322.ok (a : List TLbl × List TLbl) (h : LLL20 a) : f322.vc a := by
  obtain ⟨l, m⟩ := a
  have h1 : l.length ≤ 1048576 := h.1
  have sf : l ≠ m → false = sameLbls (l, m) := fun hne => by unfold sameLbls; simp [hne]
  refine ⟨fun c => sf fun e => c (by rw [e]), fun c => ?_⟩
  have hlen : l.length = m.length := by have := Classical.not_not.1 c; simp only at this; omega
  refine ⟨fun i => 0 ≤ i ∧ ∀ j : Nat, (j : Int) < i → j < l.length → l.getD j default = m.getD j default, fun i => ((l.length : Int) - i).toNat, ⟨Int.le_refl _, fun j hj => by omega⟩, fun i hi => ⟨fun c => ?_, fun c => ?_⟩⟩
  · obtain ⟨h2, h3⟩ := hi
    simp only at c ⊢
    refine ⟨h2, c, h2, by omega, fun d => sf fun e => d (by rw [e]; exact ⟨rfl, rfl⟩), fun d => ⟨by omega, by omega, ⟨by omega, fun j hj hl => ?_⟩, by omega⟩⟩
    rcases Int.lt_or_le (j : Int) i with h4 | h4
    · exact h3 j h4 hl
    · have d := Classical.not_not.1 d
      have e : j = i.toNat := by omega
      rw [at_getD, at_getD] at d
      rw [e]
      exact Prod.ext d.1 d.2
  · simp only at c ⊢
    have : l = m := list_ext hlen fun j hj => hi.2 j (by omega) hj
    unfold sameLbls
    simp [this]

theorem sameLbls_iff {l m : List TLbl} : sameLbls (l, m) = true ↔ l = m := by unfold sameLbls; simp
theorem res_ext {a b : TRes} : a = b ↔ a.1 = b.1 ∧ a.2.1 = b.2.1 ∧ a.2.2 = b.2.2 := ⟨fun h => by rw [h]; exact ⟨rfl, rfl, rfl⟩, fun h => Prod.ext h.1 (Prod.ext h.2.1 h.2.2)⟩

theorem sameNode_iff {a : TNode × TNode} : sameNode a = true ↔ a.1.1 = a.2.1 ∧ a.1.2.1 = a.2.2.1 ∧ a.1.2.2 = a.2.2.2 := by
  unfold sameNode
  rw [decide_eq_true_iff]
  exact ⟨fun h => by rw [h]; exact ⟨rfl, rfl, rfl⟩, fun h => Prod.ext h.1 (Prod.ext h.2.1 h.2.2)⟩
theorem not_true {b : Bool} (h : ¬ b = true) : false = b := by cases b <;> simp_all

theorem f287.ok (a : TNode × TNode) (h : sameNode_pre a) : f287.vc a := by
  refine ⟨fun c => ⟨fun d => ⟨h, ?_⟩, fun d => ?_⟩, fun c => ?_⟩
  · rw [Bool.eq_iff_iff, sameLbls_iff, sameNode_iff]
    exact ⟨fun e => ⟨c, res_ext.2 d, e⟩, fun e => e.2.2⟩
  · exact not_true fun e => d (res_ext.1 (sameNode_iff.1 e).2.1)
  · exact not_true fun e => c (sameNode_iff.1 e).1

theorem sameTask_iff {a : TTask × TTask} : sameTask a = true ↔ a.1.1 = a.2.1 ∧ a.1.2.1 = a.2.2.1 ∧ a.1.2.2.1 = a.2.2.2.1 ∧ a.1.2.2.2.1 = a.2.2.2.2.1 ∧ a.1.2.2.2.2.1 = a.2.2.2.2.2.1 ∧ a.1.2.2.2.2.2.1 = a.2.2.2.2.2.2.1 ∧ a.1.2.2.2.2.2.2.1 = a.2.2.2.2.2.2.2.1 ∧ a.1.2.2.2.2.2.2.2 = a.2.2.2.2.2.2.2.2 := by
  unfold sameTask
  rw [decide_eq_true_iff]
  exact ⟨fun h => ⟨h.1.1, h.1.2.1, h.1.2.2.1, h.1.2.2.2, by rw [h.2], by rw [h.2], by rw [h.2], by rw [h.2]⟩, fun h => ⟨⟨h.1, h.2.1, h.2.2.1, h.2.2.2.1⟩, Prod.ext h.2.2.2.2.1 (Prod.ext h.2.2.2.2.2.1 (Prod.ext h.2.2.2.2.2.2.1 h.2.2.2.2.2.2.2))⟩⟩

theorem sameTask_eq {a b : TTask} : sameTask (a, b) = true ↔ a = b := by
  rw [sameTask_iff]
  exact ⟨fun h => Prod.ext h.1 (Prod.ext h.2.1 (Prod.ext h.2.2.1 (Prod.ext h.2.2.2.1 (Prod.ext h.2.2.2.2.1 (Prod.ext h.2.2.2.2.2.1 (Prod.ext h.2.2.2.2.2.2.1 h.2.2.2.2.2.2.2)))))), fun h => by rw [h]; simp⟩
theorem sameNode_eq {a b : TNode} : sameNode (a, b) = true ↔ a = b := by unfold sameNode; simp

theorem f290.ok (a : TTask × TTask) (h : sameTask_pre a) : f290.vc a := by
  refine ⟨fun c1 => ⟨fun c2 => ⟨fun c3 => ⟨fun c4 => ⟨h, fun c5 => ⟨fun c6 => ⟨fun c7 => ?_, fun d => ?_⟩, fun d => ?_⟩, fun d => ?_⟩, fun d => ?_⟩, fun d => ?_⟩, fun d => ?_⟩, fun d => ?_⟩
  · rw [Bool.eq_iff_iff, sameTask_iff, beq_iff_eq]
    exact ⟨fun e => ⟨c1, c2, c3, res_ext.2 c4, sameLbls_iff.1 c5, c6, c7, e⟩, fun e => e.2.2.2.2.2.2.2⟩
  all_goals refine not_true fun e => ?_
  all_goals have e := sameTask_iff.1 e
  · exact d e.2.2.2.2.2.2.1
  · exact d e.2.2.2.2.2.1
  · exact d (sameLbls_iff.2 e.2.2.2.2.1)
  · exact d (res_ext.1 e.2.2.2.1)
  · exact d e.2.2.1
  · exact d e.2.1
  · exact d e.1

end Go.Abs
