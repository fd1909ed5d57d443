/- Functions, and what the code asks of them: PModelLaw. -/
import Derived.KernelRfl
import Derived.Test.YtabnaedcnfkmiacBbdc85751
import Derived.Test.YtabnaedcnfkmiacBc37455d2
import Derived.Test.YtabnaedcnfkmiacB4d205f27
import Derived.Test.YtabnaedcnfkmiacB1ec9780c
set_option linter.unusedVariables false
set_option linter.unusedSimpArgs false
-- interregnum/interregnumlaw05.ModelGangs
namespace Go.Abs
open Go
def f7.wf (a : T_api_Task × ByteArray × Int) : Prop := k_api_Task.ok a.1 ∧ k_str.ok a.2.1 ∧ k_i64.ok a.2.2
def f7.size (a : T_api_Task × ByteArray × Int) : Nat := k_api_Task.size a.1 + (k_str.size a.2.1 + (k_i64.size a.2.2))
def f7.lpre (a : T_api_Task × ByteArray × Int) : Prop := f7.wf a ∧ f7.size a ≤ 1048576
def f7.args (a : T_api_Task × ByteArray × Int) : List D := [.agg [.str a.1.1, .str a.1.2.1, .int .i64 a.1.2.2.1, .int .i64 a.1.2.2.2.1.1, .int .i64 a.1.2.2.2.1.2.1, .int .i64 a.1.2.2.2.1.2.2, .slice .ro 2 a.1.2.2.2.2.1.length (gl e_api_Label a.1.2.2.2.2.1), .str a.1.2.2.2.2.2.1, .str a.1.2.2.2.2.2.2.1, .int .i64 a.1.2.2.2.2.2.2.2], .str a.2.1, .int .i64 a.2.2]
def f7.blks (a : T_api_Task × ByteArray × Int) : List (List D) := []
def f7.res (a : T_api_Task × ByteArray × Int) : List D := [.bool (lawTrue a)]
def f7.blks' (a : T_api_Task × ByteArray × Int) : List (List D) := []
def f7.C : Contract := FnC f7.args f7.blks (fun a => f7.lpre a) f7.res f7.blks'
end Go.Abs

/- interregnum/interregnumlaw05.ModelGangs -/
namespace Go.Abs
open Go
set_option linter.unusedVariables false
def f7.kills (a : T_api_Task × ByteArray × Int) : List Hint := []
def f7.cuts (a : T_api_Task × ByteArray × Int) : List (Nat × Σ β : Type, β → Tm) := []
def f7.af (a : T_api_Task × ByteArray × Int) : AF := AF.mk (.seq (.region [⟨(some 3), 0, .box, [.t 0], none⟩,
  ⟨(some 6), 1, .move, [.c (.bool false)], none⟩])
 (.seq (.seq (.region [⟨(some 8), 2, (.call false 22), [], none⟩,
  ⟨(some 9), 6, (.un .not), [.t 8], none⟩,
  ⟨(some 10), 7, .move, [.t 9], none⟩,
  ⟨(some 11), 8, (.build [.str ByteArray.empty, .int .i64 (0), .int .i64 (0), .int .i64 (0), .slice .full 2 0 gnil] []), [], (some (10, false))⟩,
  ⟨(some 12), 9, (.build [.str ByteArray.empty, .int .i64 (0), .int .i64 (0), .int .i64 (0)] []), [], (some (10, false))⟩,
  ⟨(some 13), 10, (.load true 10), [.t 3], (some (10, false))⟩,
  ⟨(some 14), 11, (.call false 23), [.t 11, .t 12, .t 13], (some (10, false))⟩,
  ⟨(some 15), 15, (.un .not), [.t 14], (some (10, false))⟩,
  ⟨(some 16), 16, .pick, [.t 10, .c (.bool true), .t 15], none⟩,
  ⟨(some 17), 17, .move, [.t 16], none⟩,
  ⟨(some 18), 18, .move, [.t 1], (some (17, false))⟩,
  ⟨(some 19), 19, (.len true), [.t 18], (some (17, false))⟩,
  ⟨(some 20), 20, (.bin .gtr), [.t 19, .c (.int .i64 (1000))], (some (17, false))⟩,
  ⟨(some 21), 21, .pick, [.t 17, .c (.bool true), .t 20], none⟩,
  ⟨(some 22), 22, .move, [.t 21], none⟩,
  ⟨(some 23), 23, (.load true 10), [.t 3], (some (22, false))⟩,
  ⟨(some 24), 24, (.call false 24), [.t 23], (some (22, false))⟩,
  ⟨(some 25), 28, (.un .not), [.t 24], (some (22, false))⟩,
  ⟨(some 26), 29, .pick, [.t 22, .c (.bool true), .t 25], none⟩])
 (.cond (.t 26) (.seq (.region [⟨(some 27), 30, (.call false 22), [], none⟩,
  ⟨(some 6), 34, .move, [.t 27], none⟩])
 (.ret)) (.skip)))
 (.seq (.region [⟨(some 28), 35, (.fieldAddr 8), [.t 3], none⟩,
  ⟨none, 36, (.store 1), [.t 28, .c (.str ByteArray.empty)], none⟩,
  ⟨(some 29), 37, (.fieldAddr 9), [.t 3], none⟩,
  ⟨none, 38, (.store 1), [.t 29, .c (.int .i64 (0))], none⟩])
 (.seq (.seq (.region [⟨(some 30), 39, (.load true 10), [.t 3], none⟩,
  ⟨(some 31), 40, (.call false 24), [.t 30], none⟩,
  ⟨(some 32), 44, (.un .not), [.t 31], none⟩])
 (.cond (.t 32) (.seq (.region [⟨(some 6), 45, .move, [.c (.bool false)], none⟩])
 (.ret)) (.skip)))
 (.seq (.region [⟨(some 33), 46, .move, [.t 2], none⟩,
  ⟨(some 34), 47, (.fieldAddr 9), [.t 3], none⟩,
  ⟨none, 48, (.store 1), [.t 34, .t 33], none⟩])
 (.seq (.seq (.region [⟨(some 35), 49, (.load true 10), [.t 3], none⟩,
  ⟨(some 36), 50, (.call false 24), [.t 35], none⟩,
  ⟨(some 37), 54, .move, [.t 2], none⟩,
  ⟨(some 38), 55, (.bin .eql), [.t 37, .c (.int .i64 (0))], none⟩,
  ⟨(some 39), 56, (.binB true), [.t 36, .t 38], none⟩])
 (.cond (.t 39) (.seq (.region [⟨(some 6), 57, .move, [.c (.bool false)], none⟩])
 (.ret)) (.skip)))
 (.seq (.region [⟨(some 40), 58, .move, [.t 1], none⟩,
  ⟨(some 41), 59, (.fieldAddr 8), [.t 3], none⟩,
  ⟨none, 60, (.store 1), [.t 41, .t 40], none⟩])
 (.seq (.region [⟨(some 42), 61, .move, [.t 1], none⟩,
  ⟨(some 43), 62, (.build [.str ByteArray.empty, .int .i64 (0), .int .i64 (0), .int .i64 (0)] [(0, 1)]), [.t 42], none⟩,
  ⟨(some 44), 63, (.call false 25), [.t 43], none⟩,
  ⟨(some 7), 67, .move, [.t 44], none⟩])
 (.seq (.seq (.region [⟨(some 45), 68, .move, [.t 1], none⟩,
  ⟨(some 46), 69, (.bin .eql), [.t 45, .c (.str ByteArray.empty)], none⟩])
 (.cond (.t 46) (.seq (.region [⟨(some 47), 70, (.load true 10), [.t 3], none⟩,
  ⟨(some 48), 71, (.call false 24), [.t 47], none⟩,
  ⟨(some 49), 75, .move, [.t 2], none⟩,
  ⟨(some 50), 76, (.bin .eql), [.t 49, .c (.int .i64 (0))], none⟩,
  ⟨(some 51), 77, (.binB false), [.t 48, .t 50], none⟩,
  ⟨(some 6), 78, .move, [.t 51], none⟩])
 (.ret)) (.skip)))
 (.seq (.region [⟨(some 52), 79, (.load true 10), [.t 3], none⟩,
  ⟨(some 53), 80, (.call false 24), [.t 52], none⟩,
  ⟨(some 54), 84, .move, [.t 7], none⟩,
  ⟨(some 55), 85, .move, [.t 54], none⟩,
  ⟨(some 56), 86, .move, [.t 2], (some (55, true))⟩,
  ⟨(some 57), 87, (.bin .geq), [.t 56, .c (.int .i64 (2))], (some (55, true))⟩,
  ⟨(some 58), 88, .pick, [.t 55, .t 57, .c (.bool false)], none⟩,
  ⟨(some 59), 89, .move, [.t 58], none⟩,
  ⟨(some 60), 90, .move, [.t 2], (some (59, true))⟩,
  ⟨(some 61), 91, (.bin .leq), [.t 60, .c (.int .i64 (4))], (some (59, true))⟩,
  ⟨(some 62), 92, .pick, [.t 59, .t 61, .c (.bool false)], none⟩,
  ⟨(some 63), 93, (.binB false), [.t 53, .t 62], none⟩,
  ⟨(some 6), 94, .move, [.t 63], none⟩])
 (.ret)))))))))))
  [.tmp 6] 0 61
def f7.env : Env := [(22, f22.C), (23, f23.C), (24, f24.C), (25, f25.C)]
def f7.tree (a : T_api_Task × ByteArray × Int) : Prop := ∃ c1 : Unit, True ∧ Br (!(lawTrue c1)) (∃ c4 : Unit, True ∧ ((lawTrue c4) = (lawTrue a)) ∧ True) (∃ c7 : T_api_Node × T_api_Queue × T_api_Task, (ByteArray.empty = c7.1.1) ∧ ((0 : Int) = c7.1.2.1.1) ∧ ((0 : Int) = c7.1.2.1.2.1) ∧ ((0 : Int) = c7.1.2.1.2.2) ∧ (0 = c7.1.2.2.length) ∧ (∀ i, i < c7.1.2.2.length → DEqs (gnil i) ((gl e_api_Label c7.1.2.2) i)) ∧ (ByteArray.empty = c7.2.1.1) ∧ ((0 : Int) = c7.2.1.2.1) ∧ ((0 : Int) = c7.2.1.2.2.1) ∧ ((0 : Int) = c7.2.1.2.2.2) ∧ (a.1.1 = c7.2.2.1) ∧ (a.1.2.1 = c7.2.2.2.1) ∧ (a.1.2.2.1 = c7.2.2.2.2.1) ∧ (a.1.2.2.2.1.1 = c7.2.2.2.2.2.1.1) ∧ (a.1.2.2.2.1.2.1 = c7.2.2.2.2.2.1.2.1) ∧ (a.1.2.2.2.1.2.2 = c7.2.2.2.2.2.1.2.2) ∧ (a.1.2.2.2.2.1.length = c7.2.2.2.2.2.2.1.length) ∧ (∀ i, i < c7.2.2.2.2.2.2.1.length → DEqs ((gl e_api_Label a.1.2.2.2.2.1) i) ((gl e_api_Label c7.2.2.2.2.2.2.1) i)) ∧ (a.1.2.2.2.2.2.1 = c7.2.2.2.2.2.2.2.1) ∧ (a.1.2.2.2.2.2.2.1 = c7.2.2.2.2.2.2.2.2.1) ∧ (a.1.2.2.2.2.2.2.2 = c7.2.2.2.2.2.2.2.2.2) ∧ (few5_pre c7) ∧ Br (!(few5 c7)) (∃ c10 : Unit, True ∧ ((lawTrue c10) = (lawTrue a)) ∧ True) (Br (decide ((1000 : Int) < (a.2.1.size : Int))) (∃ c15 : Unit, True ∧ ((lawTrue c15) = (lawTrue a)) ∧ True) (∃ c18 : T_api_Task, (a.1.1 = c18.1) ∧ (a.1.2.1 = c18.2.1) ∧ (a.1.2.2.1 = c18.2.2.1) ∧ (a.1.2.2.2.1.1 = c18.2.2.2.1.1) ∧ (a.1.2.2.2.1.2.1 = c18.2.2.2.1.2.1) ∧ (a.1.2.2.2.1.2.2 = c18.2.2.2.1.2.2) ∧ (a.1.2.2.2.2.1.length = c18.2.2.2.2.1.length) ∧ (∀ i, i < c18.2.2.2.2.1.length → DEqs ((gl e_api_Label a.1.2.2.2.2.1) i) ((gl e_api_Label c18.2.2.2.2.1) i)) ∧ (a.1.2.2.2.2.2.1 = c18.2.2.2.2.2.1) ∧ (a.1.2.2.2.2.2.2.1 = c18.2.2.2.2.2.2.1) ∧ (a.1.2.2.2.2.2.2.2 = c18.2.2.2.2.2.2.2) ∧ (task_pre c18) ∧ Br (!(taskB c18)) (∃ c21 : Unit, True ∧ ((lawTrue c21) = (lawTrue a)) ∧ True) (∃ c24 : T_api_Task, (a.1.1 = c24.1) ∧ (a.1.2.1 = c24.2.1) ∧ (a.1.2.2.1 = c24.2.2.1) ∧ (a.1.2.2.2.1.1 = c24.2.2.2.1.1) ∧ (a.1.2.2.2.1.2.1 = c24.2.2.2.1.2.1) ∧ (a.1.2.2.2.1.2.2 = c24.2.2.2.1.2.2) ∧ (a.1.2.2.2.2.1.length = c24.2.2.2.2.1.length) ∧ (∀ i, i < c24.2.2.2.2.1.length → DEqs ((gl e_api_Label a.1.2.2.2.2.1) i) ((gl e_api_Label c24.2.2.2.2.1) i)) ∧ (a.1.2.2.2.2.2.1 = c24.2.2.2.2.2.1) ∧ (ByteArray.empty = c24.2.2.2.2.2.2.1) ∧ ((0 : Int) = c24.2.2.2.2.2.2.2) ∧ (task_pre c24) ∧ Br (!(taskB c24)) ((false = (lawTrue a)) ∧ True) (∃ c28 : T_api_Task, (a.1.1 = c28.1) ∧ (a.1.2.1 = c28.2.1) ∧ (a.1.2.2.1 = c28.2.2.1) ∧ (a.1.2.2.2.1.1 = c28.2.2.2.1.1) ∧ (a.1.2.2.2.1.2.1 = c28.2.2.2.1.2.1) ∧ (a.1.2.2.2.1.2.2 = c28.2.2.2.1.2.2) ∧ (a.1.2.2.2.2.1.length = c28.2.2.2.2.1.length) ∧ (∀ i, i < c28.2.2.2.2.1.length → DEqs ((gl e_api_Label a.1.2.2.2.2.1) i) ((gl e_api_Label c28.2.2.2.2.1) i)) ∧ (a.1.2.2.2.2.2.1 = c28.2.2.2.2.2.1) ∧ (ByteArray.empty = c28.2.2.2.2.2.2.1) ∧ (a.2.2 = c28.2.2.2.2.2.2.2) ∧ (task_pre c28) ∧ Br (!((taskB c28) == (a.2.2 == (0 : Int)))) ((false = (lawTrue a)) ∧ True) (∃ c32 : T_api_Queue, (a.2.1 = c32.1) ∧ ((0 : Int) = c32.2.1) ∧ ((0 : Int) = c32.2.2.1) ∧ ((0 : Int) = c32.2.2.2) ∧ (queue_pre c32) ∧ Br (a.2.1.toList == ByteArray.empty.toList) (∃ c35 : T_api_Task, (a.1.1 = c35.1) ∧ (a.1.2.1 = c35.2.1) ∧ (a.1.2.2.1 = c35.2.2.1) ∧ (a.1.2.2.2.1.1 = c35.2.2.2.1.1) ∧ (a.1.2.2.2.1.2.1 = c35.2.2.2.1.2.1) ∧ (a.1.2.2.2.1.2.2 = c35.2.2.2.1.2.2) ∧ (a.1.2.2.2.2.1.length = c35.2.2.2.2.1.length) ∧ (∀ i, i < c35.2.2.2.2.1.length → DEqs ((gl e_api_Label a.1.2.2.2.2.1) i) ((gl e_api_Label c35.2.2.2.2.1) i)) ∧ (a.1.2.2.2.2.2.1 = c35.2.2.2.2.2.1) ∧ (a.2.1 = c35.2.2.2.2.2.2.1) ∧ (a.2.2 = c35.2.2.2.2.2.2.2) ∧ (task_pre c35) ∧ (((taskB c35) == (a.2.2 == (0 : Int))) = (lawTrue a)) ∧ True) (∃ c38 : T_api_Task, (a.1.1 = c38.1) ∧ (a.1.2.1 = c38.2.1) ∧ (a.1.2.2.1 = c38.2.2.1) ∧ (a.1.2.2.2.1.1 = c38.2.2.2.1.1) ∧ (a.1.2.2.2.1.2.1 = c38.2.2.2.1.2.1) ∧ (a.1.2.2.2.1.2.2 = c38.2.2.2.1.2.2) ∧ (a.1.2.2.2.2.1.length = c38.2.2.2.2.1.length) ∧ (∀ i, i < c38.2.2.2.2.1.length → DEqs ((gl e_api_Label a.1.2.2.2.2.1) i) ((gl e_api_Label c38.2.2.2.2.1) i)) ∧ (a.1.2.2.2.2.2.1 = c38.2.2.2.2.2.1) ∧ (a.2.1 = c38.2.2.2.2.2.2.1) ∧ (a.2.2 = c38.2.2.2.2.2.2.2) ∧ (task_pre c38) ∧ Br (queueB c32) (Br (decide ((2 : Int) ≤ a.2.2)) ((((taskB c38) == (decide (a.2.2 ≤ (4 : Int)))) = (lawTrue a)) ∧ True) ((((taskB c38) == false) = (lawTrue a)) ∧ True)) ((((taskB c38) == false) = (lawTrue a)) ∧ True))))))))
def f7.vc (a : T_api_Task × ByteArray × Int) : Prop := ((¬ ((lawTrue ()) = true) → ((lawTrue ()) = lawTrue a)) ∧ (¬ (¬ ((lawTrue ()) = true)) → (few5_pre ((ByteArray.empty, ((0 : Int), (0 : Int), (0 : Int)), []), (ByteArray.empty, ((0 : Int), (0 : Int), (0 : Int))), a.1) ∧ ((¬ ((few5 ((ByteArray.empty, ((0 : Int), (0 : Int), (0 : Int)), []), (ByteArray.empty, ((0 : Int), (0 : Int), (0 : Int))), a.1)) = true) → ((lawTrue ()) = lawTrue a)) ∧ (¬ (¬ ((few5 ((ByteArray.empty, ((0 : Int), (0 : Int), (0 : Int)), []), (ByteArray.empty, ((0 : Int), (0 : Int), (0 : Int))), a.1)) = true)) → (((1000 : Int) < (a.2.1.size : Int) → ((lawTrue ()) = lawTrue a)) ∧ (¬ ((1000 : Int) < (a.2.1.size : Int)) → (task_pre a.1 ∧ ((¬ ((taskB (a.1)) = true) → ((lawTrue ()) = lawTrue a)) ∧ (¬ (¬ ((taskB (a.1)) = true)) → (task_pre (a.1.1, a.1.2.1, a.1.2.2.1, a.1.2.2.2.1, a.1.2.2.2.2.1, a.1.2.2.2.2.2.1, ByteArray.empty, (0 : Int)) ∧ ((¬ ((taskB (a.1.1, a.1.2.1, a.1.2.2.1, a.1.2.2.2.1, a.1.2.2.2.2.1, a.1.2.2.2.2.2.1, ByteArray.empty, (0 : Int))) = true) → (false = lawTrue a)) ∧ (¬ (¬ ((taskB (a.1.1, a.1.2.1, a.1.2.2.1, a.1.2.2.2.1, a.1.2.2.2.2.1, a.1.2.2.2.2.2.1, ByteArray.empty, (0 : Int))) = true)) → (task_pre (a.1.1, a.1.2.1, a.1.2.2.1, a.1.2.2.2.1, a.1.2.2.2.2.1, a.1.2.2.2.2.2.1, ByteArray.empty, a.2.2) ∧ (((!((taskB (a.1.1, a.1.2.1, a.1.2.2.1, a.1.2.2.2.1, a.1.2.2.2.2.1, a.1.2.2.2.2.2.1, ByteArray.empty, a.2.2)) == (a.2.2 == (0 : Int)))) = true → (false = lawTrue a)) ∧ (¬ ((!((taskB (a.1.1, a.1.2.1, a.1.2.2.1, a.1.2.2.2.1, a.1.2.2.2.2.1, a.1.2.2.2.2.2.1, ByteArray.empty, a.2.2)) == (a.2.2 == (0 : Int)))) = true) → (queue_pre (a.2.1, ((0 : Int), (0 : Int), (0 : Int))) ∧ ((a.2.1 = ByteArray.empty → (task_pre (a.1.1, a.1.2.1, a.1.2.2.1, a.1.2.2.2.1, a.1.2.2.2.2.1, a.1.2.2.2.2.2.1, a.2.1, a.2.2) ∧ (((taskB (a.1.1, a.1.2.1, a.1.2.2.1, a.1.2.2.2.1, a.1.2.2.2.2.1, a.1.2.2.2.2.2.1, a.2.1, a.2.2)) == (a.2.2 == (0 : Int))) = lawTrue a))) ∧ (¬ (a.2.1 = ByteArray.empty) → (task_pre (a.1.1, a.1.2.1, a.1.2.2.1, a.1.2.2.2.1, a.1.2.2.2.2.1, a.1.2.2.2.2.2.1, a.2.1, a.2.2) ∧ (((queueB (a.2.1, ((0 : Int), (0 : Int), (0 : Int)))) = true → (((2 : Int) ≤ a.2.2 → (((taskB (a.1.1, a.1.2.1, a.1.2.2.1, a.1.2.2.2.1, a.1.2.2.2.2.1, a.1.2.2.2.2.2.1, a.2.1, a.2.2)) == (decide (a.2.2 ≤ (4 : Int)))) = lawTrue a)) ∧ (¬ ((2 : Int) ≤ a.2.2) → (((taskB (a.1.1, a.1.2.1, a.1.2.2.1, a.1.2.2.2.1, a.1.2.2.2.2.1, a.1.2.2.2.2.2.1, a.2.1, a.2.2)) == false) = lawTrue a)))) ∧ (¬ ((queueB (a.2.1, ((0 : Int), (0 : Int), (0 : Int)))) = true) → (((taskB (a.1.1, a.1.2.1, a.1.2.2.1, a.1.2.2.2.1, a.1.2.2.2.2.1, a.1.2.2.2.2.2.1, a.2.1, a.2.2)) == false) = lawTrue a)))))))))))))))))))))))
set_option maxRecDepth 100000 in
set_option maxHeartbeats 2000000 in
theorem f7.of (a : T_api_Task × ByteArray × Int) (h : f7.vc a) : f7.tree a := ⟨(), ⟨trivial, br h (Cnd.not Cnd.b) (fun h2 k68 => ⟨(), ⟨trivial, ⟨k68, trivial⟩⟩⟩) (fun h3 k69 => ⟨((ByteArray.empty, ((0 : Int), (0 : Int), (0 : Int)), []), (ByteArray.empty, ((0 : Int), (0 : Int), (0 : Int))), a.1), ⟨rfl, ⟨rfl, ⟨rfl, ⟨rfl, slK (Rds.nil (enc := e_api_Label)) (⟨rfl, ⟨rfl, ⟨rfl, ⟨rfl, ⟨rfl, ⟨rfl, ⟨rfl, ⟨rfl, ⟨rfl, ⟨rfl, slK (Rds.self (enc := e_api_Label)) (⟨rfl, ⟨rfl, ⟨rfl, ⟨k69.1, br k69.2 (Cnd.not Cnd.b) (fun h8 k65 => ⟨(), ⟨trivial, ⟨k65, trivial⟩⟩⟩) (fun h9 k66 => br k66 Cnd.dec (fun h13 k63 => ⟨(), ⟨trivial, ⟨k63, trivial⟩⟩⟩) (fun h14 k64 => ⟨a.1, ⟨rfl, ⟨rfl, ⟨rfl, ⟨rfl, ⟨rfl, ⟨rfl, slK (Rds.self (enc := e_api_Label)) (⟨rfl, ⟨rfl, ⟨rfl, ⟨k64.1, br k64.2 (Cnd.not Cnd.b) (fun h19 k60 => ⟨(), ⟨trivial, ⟨k60, trivial⟩⟩⟩) (fun h20 k61 => ⟨(a.1.1, a.1.2.1, a.1.2.2.1, a.1.2.2.2.1, a.1.2.2.2.2.1, a.1.2.2.2.2.2.1, ByteArray.empty, (0 : Int)), ⟨rfl, ⟨rfl, ⟨rfl, ⟨rfl, ⟨rfl, ⟨rfl, slK (Rds.self (enc := e_api_Label)) (⟨rfl, ⟨rfl, ⟨rfl, ⟨k61.1, br k61.2 (Cnd.not Cnd.b) (fun h25 k57 => ⟨k57, trivial⟩) (fun h26 k58 => ⟨(a.1.1, a.1.2.1, a.1.2.2.1, a.1.2.2.2.1, a.1.2.2.2.2.1, a.1.2.2.2.2.2.1, ByteArray.empty, a.2.2), ⟨rfl, ⟨rfl, ⟨rfl, ⟨rfl, ⟨rfl, ⟨rfl, slK (Rds.self (enc := e_api_Label)) (⟨rfl, ⟨rfl, ⟨rfl, ⟨k58.1, br k58.2 Cnd.b (fun h29 k54 => ⟨k54, trivial⟩) (fun h30 k55 => ⟨(a.2.1, ((0 : Int), (0 : Int), (0 : Int))), ⟨rfl, ⟨rfl, ⟨rfl, ⟨rfl, ⟨k55.1, br k55.2 Cnd.seq (fun h33 k51 => ⟨(a.1.1, a.1.2.1, a.1.2.2.1, a.1.2.2.2.1, a.1.2.2.2.2.1, a.1.2.2.2.2.2.1, a.2.1, a.2.2), ⟨rfl, ⟨rfl, ⟨rfl, ⟨rfl, ⟨rfl, ⟨rfl, slK (Rds.self (enc := e_api_Label)) (⟨rfl, ⟨rfl, ⟨rfl, ⟨k51.1, ⟨k51.2, trivial⟩⟩⟩⟩⟩)⟩⟩⟩⟩⟩⟩⟩) (fun h34 k52 => ⟨(a.1.1, a.1.2.1, a.1.2.2.1, a.1.2.2.2.1, a.1.2.2.2.2.1, a.1.2.2.2.2.2.1, a.2.1, a.2.2), ⟨rfl, ⟨rfl, ⟨rfl, ⟨rfl, ⟨rfl, ⟨rfl, slK (Rds.self (enc := e_api_Label)) (⟨rfl, ⟨rfl, ⟨rfl, ⟨k52.1, br k52.2 Cnd.b (fun h39 k48 => br k48 Cnd.dec (fun h41 k45 => ⟨k45, trivial⟩) (fun h42 k46 => ⟨k46, trivial⟩)) (fun h40 k49 => ⟨k49, trivial⟩)⟩⟩⟩⟩)⟩⟩⟩⟩⟩⟩⟩)⟩⟩⟩⟩⟩⟩)⟩⟩⟩⟩)⟩⟩⟩⟩⟩⟩⟩)⟩⟩⟩⟩)⟩⟩⟩⟩⟩⟩⟩)⟩⟩⟩⟩)⟩⟩⟩⟩⟩⟩⟩))⟩⟩⟩⟩)⟩⟩⟩⟩⟩⟩⟩⟩⟩⟩)⟩⟩⟩⟩⟩)⟩⟩
theorem f7.eq (a : T_api_Task × ByteArray × Int) : (f7.af a).gives f7.env (f7.args a) (f7.blks a) (f7.res a) (f7.blks' a) = f7.tree a := by kernel_rfl
end Go.Abs

-- interregnum/interregnumlaw05.ModelRights
namespace Go.Abs
open Go
def f12.wf (a : ByteArray × T_api_Node × T_api_Queue × T_api_Task) : Prop := k_str.ok a.1 ∧ k_api_Node.ok a.2.1 ∧ k_api_Queue.ok a.2.2.1 ∧ k_api_Task.ok a.2.2.2
def f12.size (a : ByteArray × T_api_Node × T_api_Queue × T_api_Task) : Nat := k_str.size a.1 + (k_api_Node.size a.2.1 + (k_api_Queue.size a.2.2.1 + (k_api_Task.size a.2.2.2)))
def f12.lpre (a : ByteArray × T_api_Node × T_api_Queue × T_api_Task) : Prop := f12.wf a ∧ f12.size a ≤ 1048576
def f12.args (a : ByteArray × T_api_Node × T_api_Queue × T_api_Task) : List D := [.str a.1, .agg [.str a.2.1.1, .int .i64 a.2.1.2.1.1, .int .i64 a.2.1.2.1.2.1, .int .i64 a.2.1.2.1.2.2, .slice .ro 2 a.2.1.2.2.length (gl e_api_Label a.2.1.2.2)], .agg [.str a.2.2.1.1, .int .i64 a.2.2.1.2.1, .int .i64 a.2.2.1.2.2.1, .int .i64 a.2.2.1.2.2.2], .agg [.str a.2.2.2.1, .str a.2.2.2.2.1, .int .i64 a.2.2.2.2.2.1, .int .i64 a.2.2.2.2.2.2.1.1, .int .i64 a.2.2.2.2.2.2.1.2.1, .int .i64 a.2.2.2.2.2.2.1.2.2, .slice .ro 2 a.2.2.2.2.2.2.2.1.length (gl e_api_Label a.2.2.2.2.2.2.2.1), .str a.2.2.2.2.2.2.2.2.1, .str a.2.2.2.2.2.2.2.2.2.1, .int .i64 a.2.2.2.2.2.2.2.2.2.2]]
def f12.blks (a : ByteArray × T_api_Node × T_api_Queue × T_api_Task) : List (List D) := []
def f12.res (a : ByteArray × T_api_Node × T_api_Queue × T_api_Task) : List D := [.bool (lawTrue a)]
def f12.blks' (a : ByteArray × T_api_Node × T_api_Queue × T_api_Task) : List (List D) := []
def f12.C : Contract := FnC f12.args f12.blks (fun a => f12.lpre a) f12.res f12.blks'
end Go.Abs

/- interregnum/interregnumlaw05.ModelRights -/
namespace Go.Abs
open Go
set_option linter.unusedVariables false
def f12.kills (a : ByteArray × T_api_Node × T_api_Queue × T_api_Task) : List Hint := []
def f12.cuts (a : ByteArray × T_api_Node × T_api_Queue × T_api_Task) : List (Nat × Σ β : Type, β → Tm) := []
def f12.af (a : ByteArray × T_api_Node × T_api_Queue × T_api_Task) : AF := AF.mk (.seq (.region [⟨(some 5), 0, .box, [.t 1], none⟩,
  ⟨(some 6), 1, .box, [.t 2], none⟩,
  ⟨(some 7), 2, .box, [.t 3], none⟩,
  ⟨(some 8), 3, .move, [.c (.bool false)], none⟩])
 (.seq (.seq (.region [⟨(some 9), 4, (.call false 22), [], none⟩,
  ⟨(some 10), 8, (.un .not), [.t 9], none⟩,
  ⟨(some 11), 9, .move, [.t 10], none⟩,
  ⟨(some 12), 10, (.load true 5), [.t 5], (some (11, false))⟩,
  ⟨(some 13), 11, (.load true 4), [.t 6], (some (11, false))⟩,
  ⟨(some 14), 12, (.load true 10), [.t 7], (some (11, false))⟩,
  ⟨(some 15), 13, (.call false 23), [.t 12, .t 13, .t 14], (some (11, false))⟩,
  ⟨(some 16), 17, (.un .not), [.t 15], (some (11, false))⟩,
  ⟨(some 17), 18, .pick, [.t 11, .c (.bool true), .t 16], none⟩])
 (.cond (.t 17) (.seq (.region [⟨(some 18), 19, (.call false 22), [], none⟩,
  ⟨(some 8), 23, .move, [.t 18], none⟩])
 (.ret)) (.skip)))
 (.seq (.seq (.region [⟨(some 19), 24, (.load true 5), [.t 5], none⟩,
  ⟨(some 20), 25, (.call false 35), [.t 19], none⟩,
  ⟨(some 21), 29, (.load true 5), [.t 5], none⟩,
  ⟨(some 22), 30, (.call false 36), [.t 21], none⟩,
  ⟨(some 23), 34, (.binB true), [.t 20, .t 22], none⟩,
  ⟨(some 24), 35, .move, [.t 23], none⟩,
  ⟨(some 25), 36, (.load true 4), [.t 6], (some (24, false))⟩,
  ⟨(some 26), 37, (.call false 25), [.t 25], (some (24, false))⟩,
  ⟨(some 27), 41, (.load true 4), [.t 6], (some (24, false))⟩,
  ⟨(some 28), 42, (.call false 37), [.t 27], (some (24, false))⟩,
  ⟨(some 29), 46, (.binB true), [.t 26, .t 28], (some (24, false))⟩,
  ⟨(some 30), 47, .pick, [.t 24, .c (.bool true), .t 29], none⟩,
  ⟨(some 31), 48, .move, [.t 30], none⟩,
  ⟨(some 32), 49, (.load true 10), [.t 7], (some (31, false))⟩,
  ⟨(some 33), 50, (.call false 24), [.t 32], (some (31, false))⟩,
  ⟨(some 34), 54, (.load true 10), [.t 7], (some (31, false))⟩,
  ⟨(some 35), 55, (.call false 38), [.t 34], (some (31, false))⟩,
  ⟨(some 36), 59, (.binB true), [.t 33, .t 35], (some (31, false))⟩,
  ⟨(some 37), 60, .pick, [.t 31, .c (.bool true), .t 36], none⟩])
 (.cond (.t 37) (.seq (.region [⟨(some 8), 61, .move, [.c (.bool false)], none⟩])
 (.ret)) (.skip)))
 (.seq (.region [⟨(some 38), 62, .move, [.t 0], none⟩,
  ⟨(some 39), 63, (.conv .s2b), [.t 38], none⟩,
  ⟨(some 40), 64, (.load true 5), [.t 5], none⟩,
  ⟨(some 41), 65, (.call false 39), [.t 39, .t 40], none⟩,
  ⟨(some 42), 69, (.conv .b2s), [.t 41], none⟩,
  ⟨(some 43), 70, .move, [.t 0], none⟩,
  ⟨(some 44), 71, (.load true 5), [.t 5], none⟩,
  ⟨(some 45), 72, (.call false 40), [.t 44], none⟩,
  ⟨(some 46), 76, (.bin .add), [.t 43, .t 45], none⟩,
  ⟨(some 47), 77, (.bin .eql), [.t 42, .t 46], none⟩,
  ⟨(some 48), 78, .move, [.t 47], none⟩,
  ⟨(some 49), 79, .move, [.t 0], (some (48, true))⟩,
  ⟨(some 50), 80, (.conv .s2b), [.t 49], (some (48, true))⟩,
  ⟨(some 51), 81, (.load true 4), [.t 6], (some (48, true))⟩,
  ⟨(some 52), 82, (.call false 41), [.t 50, .t 51], (some (48, true))⟩,
  ⟨(some 53), 86, (.conv .b2s), [.t 52], (some (48, true))⟩,
  ⟨(some 54), 87, .move, [.t 0], (some (48, true))⟩,
  ⟨(some 55), 88, (.load true 4), [.t 6], (some (48, true))⟩,
  ⟨(some 56), 89, (.call false 42), [.t 55], (some (48, true))⟩,
  ⟨(some 57), 93, (.bin .add), [.t 54, .t 56], (some (48, true))⟩,
  ⟨(some 58), 94, (.bin .eql), [.t 53, .t 57], (some (48, true))⟩,
  ⟨(some 59), 95, .pick, [.t 48, .t 58, .c (.bool false)], none⟩,
  ⟨(some 60), 96, .move, [.t 59], none⟩,
  ⟨(some 61), 97, .move, [.t 0], (some (60, true))⟩,
  ⟨(some 62), 98, (.conv .s2b), [.t 61], (some (60, true))⟩,
  ⟨(some 63), 99, (.load true 10), [.t 7], (some (60, true))⟩,
  ⟨(some 64), 100, (.call false 43), [.t 62, .t 63], (some (60, true))⟩,
  ⟨(some 65), 104, (.conv .b2s), [.t 64], (some (60, true))⟩,
  ⟨(some 66), 105, .move, [.t 0], (some (60, true))⟩,
  ⟨(some 67), 106, (.load true 10), [.t 7], (some (60, true))⟩,
  ⟨(some 68), 107, (.call false 44), [.t 67], (some (60, true))⟩,
  ⟨(some 69), 111, (.bin .add), [.t 66, .t 68], (some (60, true))⟩,
  ⟨(some 70), 112, (.bin .eql), [.t 65, .t 69], (some (60, true))⟩,
  ⟨(some 71), 113, .pick, [.t 60, .t 70, .c (.bool false)], none⟩,
  ⟨(some 8), 114, .move, [.t 71], none⟩])
 (.ret)))))
  [.tmp 8] 0 68
def f12.env : Env := [(22, f22.C), (23, f23.C), (35, f35.C), (36, f36.C), (25, f25.C), (37, f37.C), (24, f24.C), (38, f38.C), (39, f39.C), (40, f40.C), (41, f41.C), (42, f42.C), (43, f43.C), (44, f44.C)]
def f12.tree (a : ByteArray × T_api_Node × T_api_Queue × T_api_Task) : Prop := ∃ c1 : Unit, True ∧ Br (!(lawTrue c1)) (∃ c4 : Unit, True ∧ ((lawTrue c4) = (lawTrue a)) ∧ True) (∃ c7 : T_api_Node × T_api_Queue × T_api_Task, (a.2.1.1 = c7.1.1) ∧ (a.2.1.2.1.1 = c7.1.2.1.1) ∧ (a.2.1.2.1.2.1 = c7.1.2.1.2.1) ∧ (a.2.1.2.1.2.2 = c7.1.2.1.2.2) ∧ (a.2.1.2.2.length = c7.1.2.2.length) ∧ (∀ i, i < c7.1.2.2.length → DEqs ((gl e_api_Label a.2.1.2.2) i) ((gl e_api_Label c7.1.2.2) i)) ∧ (a.2.2.1.1 = c7.2.1.1) ∧ (a.2.2.1.2.1 = c7.2.1.2.1) ∧ (a.2.2.1.2.2.1 = c7.2.1.2.2.1) ∧ (a.2.2.1.2.2.2 = c7.2.1.2.2.2) ∧ (a.2.2.2.1 = c7.2.2.1) ∧ (a.2.2.2.2.1 = c7.2.2.2.1) ∧ (a.2.2.2.2.2.1 = c7.2.2.2.2.1) ∧ (a.2.2.2.2.2.2.1.1 = c7.2.2.2.2.2.1.1) ∧ (a.2.2.2.2.2.2.1.2.1 = c7.2.2.2.2.2.1.2.1) ∧ (a.2.2.2.2.2.2.1.2.2 = c7.2.2.2.2.2.1.2.2) ∧ (a.2.2.2.2.2.2.2.1.length = c7.2.2.2.2.2.2.1.length) ∧ (∀ i, i < c7.2.2.2.2.2.2.1.length → DEqs ((gl e_api_Label a.2.2.2.2.2.2.2.1) i) ((gl e_api_Label c7.2.2.2.2.2.2.1) i)) ∧ (a.2.2.2.2.2.2.2.2.1 = c7.2.2.2.2.2.2.2.1) ∧ (a.2.2.2.2.2.2.2.2.2.1 = c7.2.2.2.2.2.2.2.2.1) ∧ (a.2.2.2.2.2.2.2.2.2.2 = c7.2.2.2.2.2.2.2.2.2) ∧ (few5_pre c7) ∧ Br (!(few5 c7)) (∃ c10 : Unit, True ∧ ((lawTrue c10) = (lawTrue a)) ∧ True) (∃ c13 : T_api_Node, (a.2.1.1 = c13.1) ∧ (a.2.1.2.1.1 = c13.2.1.1) ∧ (a.2.1.2.1.2.1 = c13.2.1.2.1) ∧ (a.2.1.2.1.2.2 = c13.2.1.2.2) ∧ (a.2.1.2.2.length = c13.2.2.length) ∧ (∀ i, i < c13.2.2.length → DEqs ((gl e_api_Label a.2.1.2.2) i) ((gl e_api_Label c13.2.2) i)) ∧ (node_pre c13) ∧ ∃ c14 : T_api_Node, (a.2.1.1 = c14.1) ∧ (a.2.1.2.1.1 = c14.2.1.1) ∧ (a.2.1.2.1.2.1 = c14.2.1.2.1) ∧ (a.2.1.2.1.2.2 = c14.2.1.2.2) ∧ (a.2.1.2.2.length = c14.2.2.length) ∧ (∀ i, i < c14.2.2.length → DEqs ((gl e_api_Label a.2.1.2.2) i) ((gl e_api_Label c14.2.2) i)) ∧ (node_pre c14) ∧ Br (!((nodeB c13) == (nodeB c14))) ((false = (lawTrue a)) ∧ True) (∃ c18 : T_api_Queue, (a.2.2.1.1 = c18.1) ∧ (a.2.2.1.2.1 = c18.2.1) ∧ (a.2.2.1.2.2.1 = c18.2.2.1) ∧ (a.2.2.1.2.2.2 = c18.2.2.2) ∧ (queue_pre c18) ∧ ∃ c19 : T_api_Queue, (a.2.2.1.1 = c19.1) ∧ (a.2.2.1.2.1 = c19.2.1) ∧ (a.2.2.1.2.2.1 = c19.2.2.1) ∧ (a.2.2.1.2.2.2 = c19.2.2.2) ∧ (queue_pre c19) ∧ Br (!((queueB c18) == (queueB c19))) ((false = (lawTrue a)) ∧ True) (∃ c23 : T_api_Task, (a.2.2.2.1 = c23.1) ∧ (a.2.2.2.2.1 = c23.2.1) ∧ (a.2.2.2.2.2.1 = c23.2.2.1) ∧ (a.2.2.2.2.2.2.1.1 = c23.2.2.2.1.1) ∧ (a.2.2.2.2.2.2.1.2.1 = c23.2.2.2.1.2.1) ∧ (a.2.2.2.2.2.2.1.2.2 = c23.2.2.2.1.2.2) ∧ (a.2.2.2.2.2.2.2.1.length = c23.2.2.2.2.1.length) ∧ (∀ i, i < c23.2.2.2.2.1.length → DEqs ((gl e_api_Label a.2.2.2.2.2.2.2.1) i) ((gl e_api_Label c23.2.2.2.2.1) i)) ∧ (a.2.2.2.2.2.2.2.2.1 = c23.2.2.2.2.2.1) ∧ (a.2.2.2.2.2.2.2.2.2.1 = c23.2.2.2.2.2.2.1) ∧ (a.2.2.2.2.2.2.2.2.2.2 = c23.2.2.2.2.2.2.2) ∧ (task_pre c23) ∧ ∃ c24 : T_api_Task, (a.2.2.2.1 = c24.1) ∧ (a.2.2.2.2.1 = c24.2.1) ∧ (a.2.2.2.2.2.1 = c24.2.2.1) ∧ (a.2.2.2.2.2.2.1.1 = c24.2.2.2.1.1) ∧ (a.2.2.2.2.2.2.1.2.1 = c24.2.2.2.1.2.1) ∧ (a.2.2.2.2.2.2.1.2.2 = c24.2.2.2.1.2.2) ∧ (a.2.2.2.2.2.2.2.1.length = c24.2.2.2.2.1.length) ∧ (∀ i, i < c24.2.2.2.2.1.length → DEqs ((gl e_api_Label a.2.2.2.2.2.2.2.1) i) ((gl e_api_Label c24.2.2.2.2.1) i)) ∧ (a.2.2.2.2.2.2.2.2.1 = c24.2.2.2.2.2.1) ∧ (a.2.2.2.2.2.2.2.2.2.1 = c24.2.2.2.2.2.2.1) ∧ (a.2.2.2.2.2.2.2.2.2.2 = c24.2.2.2.2.2.2.2) ∧ (task_pre c24) ∧ Br (!((taskB c23) == (taskB c24))) ((false = (lawTrue a)) ∧ True) (∃ c28 : ByteArray × T_api_Node, (a.1.size = c28.1.size) ∧ (∀ i, i < c28.1.size → DEqs ((gstr a.1) i) ((gstr c28.1) i)) ∧ (a.2.1.1 = c28.2.1) ∧ (a.2.1.2.1.1 = c28.2.2.1.1) ∧ (a.2.1.2.1.2.1 = c28.2.2.1.2.1) ∧ (a.2.1.2.1.2.2 = c28.2.2.1.2.2) ∧ (a.2.1.2.2.length = c28.2.2.2.length) ∧ (∀ i, i < c28.2.2.2.length → DEqs ((gl e_api_Label a.2.1.2.2) i) ((gl e_api_Label c28.2.2.2) i)) ∧ (putNode_pre c28) ∧ Bytes ((putNode c28).size) (gstr (putNode c28)) ∧ Let (textOf ((putNode c28).size) (gstr (putNode c28))) (fun v29 : ByteArray => ∃ c30 : T_api_Node, (a.2.1.1 = c30.1) ∧ (a.2.1.2.1.1 = c30.2.1.1) ∧ (a.2.1.2.1.2.1 = c30.2.1.2.1) ∧ (a.2.1.2.1.2.2 = c30.2.1.2.2) ∧ (a.2.1.2.2.length = c30.2.2.length) ∧ (∀ i, i < c30.2.2.length → DEqs ((gl e_api_Label a.2.1.2.2) i) ((gl e_api_Label c30.2.2) i)) ∧ (node_pre c30) ∧ Br (Nat.ble (a.1.size + (nodeS c30).size) 9223372036854775807) (Br (v29.toList == (a.1 ++ (nodeS c30)).toList) (∃ c34 : ByteArray × T_api_Queue, (a.1.size = c34.1.size) ∧ (∀ i, i < c34.1.size → DEqs ((gstr a.1) i) ((gstr c34.1) i)) ∧ (a.2.2.1.1 = c34.2.1) ∧ (a.2.2.1.2.1 = c34.2.2.1) ∧ (a.2.2.1.2.2.1 = c34.2.2.2.1) ∧ (a.2.2.1.2.2.2 = c34.2.2.2.2) ∧ (putQueue_pre c34) ∧ Bytes ((putQueue c34).size) (gstr (putQueue c34)) ∧ Let (textOf ((putQueue c34).size) (gstr (putQueue c34))) (fun v35 : ByteArray => ∃ c36 : T_api_Queue, (a.2.2.1.1 = c36.1) ∧ (a.2.2.1.2.1 = c36.2.1) ∧ (a.2.2.1.2.2.1 = c36.2.2.1) ∧ (a.2.2.1.2.2.2 = c36.2.2.2) ∧ (queue_pre c36) ∧ Br (Nat.ble (a.1.size + (queueS c36).size) 9223372036854775807) (Br (v35.toList == (a.1 ++ (queueS c36)).toList) (∃ c40 : ByteArray × T_api_Task, (a.1.size = c40.1.size) ∧ (∀ i, i < c40.1.size → DEqs ((gstr a.1) i) ((gstr c40.1) i)) ∧ (a.2.2.2.1 = c40.2.1) ∧ (a.2.2.2.2.1 = c40.2.2.1) ∧ (a.2.2.2.2.2.1 = c40.2.2.2.1) ∧ (a.2.2.2.2.2.2.1.1 = c40.2.2.2.2.1.1) ∧ (a.2.2.2.2.2.2.1.2.1 = c40.2.2.2.2.1.2.1) ∧ (a.2.2.2.2.2.2.1.2.2 = c40.2.2.2.2.1.2.2) ∧ (a.2.2.2.2.2.2.2.1.length = c40.2.2.2.2.2.1.length) ∧ (∀ i, i < c40.2.2.2.2.2.1.length → DEqs ((gl e_api_Label a.2.2.2.2.2.2.2.1) i) ((gl e_api_Label c40.2.2.2.2.2.1) i)) ∧ (a.2.2.2.2.2.2.2.2.1 = c40.2.2.2.2.2.2.1) ∧ (a.2.2.2.2.2.2.2.2.2.1 = c40.2.2.2.2.2.2.2.1) ∧ (a.2.2.2.2.2.2.2.2.2.2 = c40.2.2.2.2.2.2.2.2) ∧ (putTask_pre c40) ∧ Bytes ((putTask c40).size) (gstr (putTask c40)) ∧ Let (textOf ((putTask c40).size) (gstr (putTask c40))) (fun v41 : ByteArray => ∃ c42 : T_api_Task, (a.2.2.2.1 = c42.1) ∧ (a.2.2.2.2.1 = c42.2.1) ∧ (a.2.2.2.2.2.1 = c42.2.2.1) ∧ (a.2.2.2.2.2.2.1.1 = c42.2.2.2.1.1) ∧ (a.2.2.2.2.2.2.1.2.1 = c42.2.2.2.1.2.1) ∧ (a.2.2.2.2.2.2.1.2.2 = c42.2.2.2.1.2.2) ∧ (a.2.2.2.2.2.2.2.1.length = c42.2.2.2.2.1.length) ∧ (∀ i, i < c42.2.2.2.2.1.length → DEqs ((gl e_api_Label a.2.2.2.2.2.2.2.1) i) ((gl e_api_Label c42.2.2.2.2.1) i)) ∧ (a.2.2.2.2.2.2.2.2.1 = c42.2.2.2.2.2.1) ∧ (a.2.2.2.2.2.2.2.2.2.1 = c42.2.2.2.2.2.2.1) ∧ (a.2.2.2.2.2.2.2.2.2.2 = c42.2.2.2.2.2.2.2) ∧ (task_pre c42) ∧ Br (Nat.ble (a.1.size + (taskS c42).size) 9223372036854775807) (((v41.toList == (a.1 ++ (taskS c42)).toList) = (lawTrue a)) ∧ True) False)) ((false = (lawTrue a)) ∧ True)) False)) ((false = (lawTrue a)) ∧ True)) False))))))
def f12.vc (a : ByteArray × T_api_Node × T_api_Queue × T_api_Task) : Prop := ((¬ ((lawTrue ()) = true) → ((lawTrue ()) = lawTrue a)) ∧ (¬ (¬ ((lawTrue ()) = true)) → (few5_pre (a.2.1, a.2.2.1, a.2.2.2) ∧ ((¬ ((few5 (a.2.1, a.2.2.1, a.2.2.2)) = true) → ((lawTrue ()) = lawTrue a)) ∧ (¬ (¬ ((few5 (a.2.1, a.2.2.1, a.2.2.2)) = true)) → (node_pre a.2.1 ∧ (node_pre a.2.1 ∧ (((!((nodeB (a.2.1)) == (nodeB (a.2.1)))) = true → (false = lawTrue a)) ∧ (¬ ((!((nodeB (a.2.1)) == (nodeB (a.2.1)))) = true) → (queue_pre a.2.2.1 ∧ (queue_pre a.2.2.1 ∧ (((!((queueB (a.2.2.1)) == (queueB (a.2.2.1)))) = true → (false = lawTrue a)) ∧ (¬ ((!((queueB (a.2.2.1)) == (queueB (a.2.2.1)))) = true) → (task_pre a.2.2.2 ∧ (task_pre a.2.2.2 ∧ (((!((taskB (a.2.2.2)) == (taskB (a.2.2.2)))) = true → (false = lawTrue a)) ∧ (¬ ((!((taskB (a.2.2.2)) == (taskB (a.2.2.2)))) = true) → (putNode_pre (a.1, a.2.1) ∧ (node_pre a.2.1 ∧ ((a.1.size + (nodeS (a.2.1)).size ≤ 9223372036854775807) ∧ (((putNode (a.1, a.2.1)) = (a.1 ++ (nodeS (a.2.1))) → (putQueue_pre (a.1, a.2.2.1) ∧ (queue_pre a.2.2.1 ∧ ((a.1.size + (queueS (a.2.2.1)).size ≤ 9223372036854775807) ∧ (((putQueue (a.1, a.2.2.1)) = (a.1 ++ (queueS (a.2.2.1))) → (putTask_pre (a.1, a.2.2.2) ∧ (task_pre a.2.2.2 ∧ ((a.1.size + (taskS (a.2.2.2)).size ≤ 9223372036854775807) ∧ (((putTask (a.1, a.2.2.2)).toList == (a.1 ++ (taskS (a.2.2.2))).toList) = lawTrue a))))) ∧ (¬ ((putQueue (a.1, a.2.2.1)) = (a.1 ++ (queueS (a.2.2.1)))) → (false = lawTrue a))))))) ∧ (¬ ((putNode (a.1, a.2.1)) = (a.1 ++ (nodeS (a.2.1)))) → (false = lawTrue a)))))))))))))))))))))))
set_option maxRecDepth 100000 in
set_option maxHeartbeats 2000000 in
theorem f12.of (a : ByteArray × T_api_Node × T_api_Queue × T_api_Task) (h : f12.vc a) : f12.tree a := ⟨(), ⟨trivial, br h (Cnd.not Cnd.b) (fun h2 k75 => ⟨(), ⟨trivial, ⟨k75, trivial⟩⟩⟩) (fun h3 k76 => ⟨(a.2.1, a.2.2.1, a.2.2.2), ⟨rfl, ⟨rfl, ⟨rfl, ⟨rfl, slK (Rds.self (enc := e_api_Label)) (⟨rfl, ⟨rfl, ⟨rfl, ⟨rfl, ⟨rfl, ⟨rfl, ⟨rfl, ⟨rfl, ⟨rfl, ⟨rfl, slK (Rds.self (enc := e_api_Label)) (⟨rfl, ⟨rfl, ⟨rfl, ⟨k76.1, br k76.2 (Cnd.not Cnd.b) (fun h8 k72 => ⟨(), ⟨trivial, ⟨k72, trivial⟩⟩⟩) (fun h9 k73 => ⟨a.2.1, ⟨rfl, ⟨rfl, ⟨rfl, ⟨rfl, slK (Rds.self (enc := e_api_Label)) (⟨k73.1, ⟨a.2.1, ⟨rfl, ⟨rfl, ⟨rfl, ⟨rfl, slK (Rds.self (enc := e_api_Label)) (⟨k73.2.1, br k73.2.2 Cnd.b (fun h15 k68 => ⟨k68, trivial⟩) (fun h16 k69 => ⟨a.2.2.1, ⟨rfl, ⟨rfl, ⟨rfl, ⟨rfl, ⟨k69.1, ⟨a.2.2.1, ⟨rfl, ⟨rfl, ⟨rfl, ⟨rfl, ⟨k69.2.1, br k69.2.2 Cnd.b (fun h20 k64 => ⟨k64, trivial⟩) (fun h21 k65 => ⟨a.2.2.2, ⟨rfl, ⟨rfl, ⟨rfl, ⟨rfl, ⟨rfl, ⟨rfl, slK (Rds.self (enc := e_api_Label)) (⟨rfl, ⟨rfl, ⟨rfl, ⟨k65.1, ⟨a.2.2.2, ⟨rfl, ⟨rfl, ⟨rfl, ⟨rfl, ⟨rfl, ⟨rfl, slK (Rds.self (enc := e_api_Label)) (⟨rfl, ⟨rfl, ⟨rfl, ⟨k65.2.1, br k65.2.2 Cnd.b (fun h25 k60 => ⟨k60, trivial⟩) (fun h26 k61 => ⟨(a.1, a.2.1), slK RdB.self (⟨rfl, ⟨rfl, ⟨rfl, ⟨rfl, slK (Rds.self (enc := e_api_Label)) (⟨k61.1, b2s k61.2 RdB.self (fun h => ⟨a.2.1, ⟨rfl, ⟨rfl, ⟨rfl, ⟨rfl, slK (Rds.self (enc := e_api_Label)) (⟨h.1, chk h.2.2 Cnd.ble h.2.1 (fun h31 k57 => br k57 Cnd.seq (fun h32 k55 => ⟨(a.1, a.2.2.1), slK RdB.self (⟨rfl, ⟨rfl, ⟨rfl, ⟨rfl, ⟨k55.1, b2s k55.2 RdB.self (fun h => ⟨a.2.2.1, ⟨rfl, ⟨rfl, ⟨rfl, ⟨rfl, ⟨h.1, chk h.2.2 Cnd.ble h.2.1 (fun h37 k51 => br k51 Cnd.seq (fun h38 k49 => ⟨(a.1, a.2.2.2), slK RdB.self (⟨rfl, ⟨rfl, ⟨rfl, ⟨rfl, ⟨rfl, ⟨rfl, slK (Rds.self (enc := e_api_Label)) (⟨rfl, ⟨rfl, ⟨rfl, ⟨k49.1, b2s k49.2 RdB.self (fun h => ⟨a.2.2.2, ⟨rfl, ⟨rfl, ⟨rfl, ⟨rfl, ⟨rfl, ⟨rfl, slK (Rds.self (enc := e_api_Label)) (⟨rfl, ⟨rfl, ⟨rfl, ⟨h.1, chk h.2.2 Cnd.ble h.2.1 (fun h43 k45 => ⟨k45, trivial⟩)⟩⟩⟩⟩)⟩⟩⟩⟩⟩⟩⟩)⟩⟩⟩⟩)⟩⟩⟩⟩⟩⟩)⟩) (fun h39 k50 => ⟨k50, trivial⟩))⟩⟩⟩⟩⟩⟩)⟩⟩⟩⟩⟩)⟩) (fun h33 k56 => ⟨k56, trivial⟩))⟩)⟩⟩⟩⟩⟩)⟩)⟩⟩⟩⟩)⟩)⟩⟩⟩⟩)⟩⟩⟩⟩⟩⟩⟩⟩⟩⟩⟩)⟩⟩⟩⟩⟩⟩⟩)⟩⟩⟩⟩⟩⟩⟩⟩⟩⟩⟩⟩)⟩)⟩⟩⟩⟩⟩⟩)⟩⟩⟩⟩⟩)⟩⟩⟩⟩)⟩⟩⟩⟩⟩⟩⟩⟩⟩⟩)⟩⟩⟩⟩⟩)⟩⟩
theorem f12.eq (a : ByteArray × T_api_Node × T_api_Queue × T_api_Task) : (f12.af a).gives f12.env (f12.args a) (f12.blks a) (f12.res a) (f12.blks' a) = f12.tree a := by kernel_rfl
end Go.Abs

/- The laws ModelGangs and ModelRights. -/
namespace Go.Abs
open Go

theorem f22.ok (a : Unit) (_ : True) : f22.vc a := by
  have hq : queueB (f22.s0, ((0 : Int), (0 : Int), (0 : Int))) = true := by decide +kernel
  have hq1 : queueB (f22.s0, ((1 : Int), (0 : Int), (0 : Int))) = true := by decide +kernel
  have e : putQueue (ByteArray.empty, (f22.s0, ((1 : Int), (0 : Int), (0 : Int)))) = ⟨#[1, 1, 113, 1, 1, 0, 0]⟩ := by
    unfold putQueue queueS
    simp only
    rw [if_pos hq1, empty_app]
    apply bytes_ext
    decide +kernel
  unfold f22.vc
  rw [e]
  refine ⟨⟨Nat.le_of_ble_eq_true rfl, Nat.le_of_ble_eq_true rfl⟩, Nat.le_of_ble_eq_true rfl, fun _ => ⟨fun _ => ⟨by decide, rfl⟩, fun h => absurd (by decide) h⟩, fun h => absurd hq h⟩

theorem sum_mem {α : Type} (f : α → Nat) {l : List α} {x : α} (h : x ∈ l) : f x ≤ (l.map f).sum := by
  induction l with
  | nil => cases h
  | cons y l ih =>
    simp only [List.map_cons, List.sum_cons]
    rcases List.mem_cons.1 h with rfl | h
    · omega
    · have := ih h
      omega

theorem lbls_of_size {l : List TLbl} (h : k_sl_api_Label.size l ≤ 1048576) : lbls_pre l := fun x hx => by
  have h1 : k_api_Label.size x ≤ (l.map k_api_Label.size).sum := sum_mem _ hx
  have h2 : (l.map k_api_Label.size).sum + 1 ≤ 1048576 := h
  have h3 : x.1.size + 1 + (x.2.size + 1) + 1 = k_api_Label.size x := rfl
  omega
theorem node_of_size {n : TNode} (h : k_api_Node.size n ≤ 1048576) : node_pre n := by
  have h : n.1.size + 1 + (1 + (1 + 1) + 1 + k_sl_api_Label.size n.2.2) + 1 ≤ 1048576 := h
  exact ⟨by unfold name_pre; omega, lbls_of_size (by omega)⟩
theorem queue_of_size {n : TQueue} (h : k_api_Queue.size n ≤ 1048576) : queue_pre n := by
  have h : n.1.size + 1 + (1 + (1 + 1) + 1) + 1 ≤ 1048576 := h
  unfold queue_pre name_pre
  omega
theorem task_of_size {t : TTask} (h : k_api_Task.size t ≤ 1048576) : task_pre t := by
  have h : t.1.size + 1 + (t.2.1.size + 1 + (1 + (1 + (1 + 1) + 1 + (k_sl_api_Label.size t.2.2.2.2.1 + (t.2.2.2.2.2.1.size + 1 + (t.2.2.2.2.2.2.1.size + 1 + 1)))))) + 1 ≤ 1048576 := h
  refine ⟨?_, ?_, lbls_of_size (by omega), ?_, ?_⟩ <;> unfold name_pre <;> omega

theorem beq_self_not (b : Bool) : ¬ ((!(b == b)) = true) := by cases b <;> simp

theorem f12.ok (a : ByteArray × TNode × TQueue × TTask) (h : f12.lpre a) : f12.vc a := by
  obtain ⟨_, hs⟩ := h
  obtain ⟨b, n, q, t⟩ := a
  have hs : b.size + 1 + (k_api_Node.size n + (k_api_Queue.size q + k_api_Task.size t)) ≤ 1048576 := hs
  have hn := node_of_size (n := n) (by omega)
  have hq := queue_of_size (n := q) (by omega)
  have ht := task_of_size (t := t) (by omega)
  have zn : (nodeS n).size ≤ 300 := by unfold nodeS; split; · rename_i h; exact nodeS0_size h
                                       · exact Nat.zero_le _
  have zq : (queueS q).size ≤ 100 := by unfold queueS; split; · rename_i h; exact queueS0_size h
                                        · exact Nat.zero_le _
  have zt : (taskS t).size ≤ 500 := by unfold taskS; split; · rename_i h; exact taskS0_size h
                                       · exact Nat.zero_le _
  refine ⟨fun _ => rfl, fun _ => ⟨⟨hn, hq, ht⟩, fun _ => rfl, fun _ => ⟨hn, hn, fun c => absurd c (beq_self_not _), fun _ => ⟨hq, hq, fun c => absurd c (beq_self_not _), fun _ => ⟨ht, ht, fun c => absurd c (beq_self_not _), fun _ => ?_⟩⟩⟩⟩⟩
  simp only
  refine ⟨⟨by simp only; omega, hn⟩, hn, by omega, fun _ => ⟨⟨by simp only; omega, hq⟩, hq, by omega, fun _ => ⟨⟨by simp only; omega, ht⟩, ht, by omega, ?_⟩, fun c => absurd rfl c⟩, fun c => absurd rfl c⟩
  show ((b ++ taskS t).toList == (b ++ taskS t).toList) = true
  rw [beq_self_eq_true]

theorem maybe_empty : maybeB ByteArray.empty = true := rfl

theorem task_gang {t : TTask} (h : taskB t = true) (g : ByteArray) (n : Int) : taskB (t.1, t.2.1, t.2.2.1, t.2.2.2.1, t.2.2.2.2.1, t.2.2.2.2.2.1, g, n) = (maybeB g && sizeB g n) := by
  obtain ⟨h1, h2, h3, h4, h5, h6, h7, h8⟩ := taskB_iff.1 h
  rw [Bool.eq_iff_iff, taskB_iff, Bool.and_eq_true]
  exact ⟨fun h => ⟨h.2.2.2.2.2.2.1, h.2.2.2.2.2.2.2⟩, fun h => ⟨h1, h2, h3, h4, h5, h6, h.1, h.2⟩⟩

theorem f7.ok (a : TTask × ByteArray × Int) (h : f7.lpre a) : f7.vc a := by
  obtain ⟨_, hs⟩ := h
  obtain ⟨t, g, n⟩ := a
  have hs : k_api_Task.size t + (g.size + 1 + 1) ≤ 1048576 := hs
  have ht := task_of_size (t := t) (by omega)
  obtain ⟨p1, p2, p3, p4, p5⟩ := ht
  have pre : ∀ (g : ByteArray) (n : Int), name_pre g → task_pre (t.1, t.2.1, t.2.2.1, t.2.2.2.1, t.2.2.2.2.1, t.2.2.2.2.2.1, g, n) := fun g n hg => ⟨p1, p2, p3, p4, hg⟩
  have ge : name_pre ByteArray.empty := Nat.zero_le _
  have gg : name_pre g := by unfold name_pre; omega
  have e0 : sizeB ByteArray.empty n = (n == 0) := rfl
  refine ⟨fun _ => rfl, fun _ => ⟨⟨⟨ge, fun x hx => by cases hx⟩, ge, p1, p2, p3, p4, p5⟩, fun _ => rfl, fun _ => ⟨fun _ => rfl, fun hg => ⟨⟨p1, p2, p3, p4, p5⟩, fun _ => rfl, fun c => ?_⟩⟩⟩⟩
  have c : taskB t = true := Classical.not_not.1 c
  simp only
  refine ⟨pre _ _ ge, fun d => absurd (task_gang c ByteArray.empty 0) (by rw [Bool.eq_false_iff.2 d]; simp [maybe_empty, sizeB, empty_size]), fun d => ⟨pre _ _ ge, fun d => ?_, fun d => ?_⟩⟩
  · rw [task_gang c, maybe_empty, Bool.true_and, e0] at d
    exact absurd d (beq_self_not _)
  · refine ⟨gg, fun e => ⟨pre _ _ gg, ?_⟩, fun e => ⟨pre _ _ gg, fun q => ⟨fun f => ?_, fun f => ?_⟩, fun q => ?_⟩⟩
    · rw [task_gang c, e, maybe_empty, Bool.true_and, e0, beq_self_eq_true]
      rfl
    all_goals
      have hne : g.size ≠ 0 := fun hh => e (size_zero.2 hh)
      rw [task_gang c]
      have hm : maybeB g = nameB g := by
        unfold maybeB
        have : (g.size == 0) = false := by rw [beq_eq_false_iff_ne]; exact hne
        rw [this, Bool.false_or]
      rw [hm]
      have hqq : queueB (g, ((0 : Int), (0 : Int), (0 : Int))) = nameB g := by
        unfold queueB
        simp [rightB, okN]
      rw [hqq] at q
      show _ = true
    · rw [q, Bool.true_and, beq_iff_eq, Bool.eq_iff_iff, sizeB_iff, decide_eq_true_eq]
      omega
    · rw [q, Bool.true_and, beq_iff_eq, Bool.eq_false_iff, Ne, sizeB_iff]
      omega
    · rw [Bool.eq_false_iff.2 q]
      rfl

end Go.Abs
