/- Functions, and what the code asks of them. -/
import Derived.KernelRfl
import Derived.Lib.TrimU
import Derived.Test.YtabnaedcnfkmiaaB0cfb103f
set_option linter.unusedVariables false
set_option linter.unusedSimpArgs false
/- interregnum/interregnumlaw05.ModelRights -/
namespace Go.Abs
open Go
set_option linter.unusedVariables false
def f12.kills (a : ByteArray × T_api_Node × T_api_Queue × T_api_Task) : List Hint := []
def f12.cuts (a : ByteArray × T_api_Node × T_api_Queue × T_api_Task) : List (Nat × Σ β : Type, β → Tm) := []
def f12.af (a : ByteArray × T_api_Node × T_api_Queue × T_api_Task) : AF := AF.mk (.seq (.region [⟨(some 5), 0, .box, [.t 1], none⟩,
  ⟨(some 6), 1, .box, [.t 2], none⟩,
  ⟨(some 7), 2, .box, [.t 3], none⟩,
  ⟨(some 8), 3, .move, [.c (.bool false)], none⟩])
 (.seq (.seq (.region [⟨(some 9), 4, (.call false 22), [], none⟩,
  ⟨(some 10), 8, (.un .not), [.t 9], none⟩,
  ⟨(some 11), 9, .move, [.t 10], none⟩,
  ⟨(some 12), 10, (.load true 5), [.t 5], (some (11, false))⟩,
  ⟨(some 13), 11, (.load true 4), [.t 6], (some (11, false))⟩,
  ⟨(some 14), 12, (.load true 10), [.t 7], (some (11, false))⟩,
  ⟨(some 15), 13, (.call false 23), [.t 12, .t 13, .t 14], (some (11, false))⟩,
  ⟨(some 16), 17, (.un .not), [.t 15], (some (11, false))⟩,
  ⟨(some 17), 18, .pick, [.t 11, .c (.bool true), .t 16], none⟩])
 (.cond (.t 17) (.seq (.region [⟨(some 18), 19, (.call false 22), [], none⟩,
  ⟨(some 8), 23, .move, [.t 18], none⟩])
 (.ret)) (.skip)))
 (.seq (.seq (.region [⟨(some 19), 24, (.load true 5), [.t 5], none⟩,
  ⟨(some 20), 25, (.call false 35), [.t 19], none⟩,
  ⟨(some 21), 29, (.load true 5), [.t 5], none⟩,
  ⟨(some 22), 30, (.call false 36), [.t 21], none⟩,
  ⟨(some 23), 34, (.binB true), [.t 20, .t 22], none⟩,
  ⟨(some 24), 35, .move, [.t 23], none⟩,
  ⟨(some 25), 36, (.load true 4), [.t 6], (some (24, false))⟩,
  ⟨(some 26), 37, (.call false 25), [.t 25], (some (24, false))⟩,
  ⟨(some 27), 41, (.load true 4), [.t 6], (some (24, false))⟩,
  ⟨(some 28), 42, (.call false 37), [.t 27], (some (24, false))⟩,
  ⟨(some 29), 46, (.binB true), [.t 26, .t 28], (some (24, false))⟩,
  ⟨(some 30), 47, .pick, [.t 24, .c (.bool true), .t 29], none⟩,
  ⟨(some 31), 48, .move, [.t 30], none⟩,
  ⟨(some 32), 49, (.load true 10), [.t 7], (some (31, false))⟩,
  ⟨(some 33), 50, (.call false 24), [.t 32], (some (31, false))⟩,
  ⟨(some 34), 54, (.load true 10), [.t 7], (some (31, false))⟩,
  ⟨(some 35), 55, (.call false 38), [.t 34], (some (31, false))⟩,
  ⟨(some 36), 59, (.binB true), [.t 33, .t 35], (some (31, false))⟩,
  ⟨(some 37), 60, .pick, [.t 31, .c (.bool true), .t 36], none⟩])
 (.cond (.t 37) (.seq (.region [⟨(some 8), 61, .move, [.c (.bool false)], none⟩])
 (.ret)) (.skip)))
 (.seq (.region [⟨(some 38), 62, .move, [.t 0], none⟩,
  ⟨(some 39), 63, (.conv .s2b), [.t 38], none⟩,
  ⟨(some 40), 64, (.load true 5), [.t 5], none⟩,
  ⟨(some 41), 65, (.call false 39), [.t 39, .t 40], none⟩,
  ⟨(some 42), 69, (.conv .b2s), [.t 41], none⟩,
  ⟨(some 43), 70, .move, [.t 0], none⟩,
  ⟨(some 44), 71, (.load true 5), [.t 5], none⟩,
  ⟨(some 45), 72, (.call false 40), [.t 44], none⟩,
  ⟨(some 46), 76, (.bin .add), [.t 43, .t 45], none⟩,
  ⟨(some 47), 77, (.bin .eql), [.t 42, .t 46], none⟩,
  ⟨(some 48), 78, .move, [.t 47], none⟩,
  ⟨(some 49), 79, .move, [.t 0], (some (48, true))⟩,
  ⟨(some 50), 80, (.conv .s2b), [.t 49], (some (48, true))⟩,
  ⟨(some 51), 81, (.load true 4), [.t 6], (some (48, true))⟩,
  ⟨(some 52), 82, (.call false 41), [.t 50, .t 51], (some (48, true))⟩,
  ⟨(some 53), 86, (.conv .b2s), [.t 52], (some (48, true))⟩,
  ⟨(some 54), 87, .move, [.t 0], (some (48, true))⟩,
  ⟨(some 55), 88, (.load true 4), [.t 6], (some (48, true))⟩,
  ⟨(some 56), 89, (.call false 42), [.t 55], (some (48, true))⟩,
  ⟨(some 57), 93, (.bin .add), [.t 54, .t 56], (some (48, true))⟩,
  ⟨(some 58), 94, (.bin .eql), [.t 53, .t 57], (some (48, true))⟩,
  ⟨(some 59), 95, .pick, [.t 48, .t 58, .c (.bool false)], none⟩,
  ⟨(some 60), 96, .move, [.t 59], none⟩,
  ⟨(some 61), 97, .move, [.t 0], (some (60, true))⟩,
  ⟨(some 62), 98, (.conv .s2b), [.t 61], (some (60, true))⟩,
  ⟨(some 63), 99, (.load true 10), [.t 7], (some (60, true))⟩,
  ⟨(some 64), 100, (.call false 43), [.t 62, .t 63], (some (60, true))⟩,
  ⟨(some 65), 104, (.conv .b2s), [.t 64], (some (60, true))⟩,
  ⟨(some 66), 105, .move, [.t 0], (some (60, true))⟩,
  ⟨(some 67), 106, (.load true 10), [.t 7], (some (60, true))⟩,
  ⟨(some 68), 107, (.call false 44), [.t 67], (some (60, true))⟩,
  ⟨(some 69), 111, (.bin .add), [.t 66, .t 68], (some (60, true))⟩,
  ⟨(some 70), 112, (.bin .eql), [.t 65, .t 69], (some (60, true))⟩,
  ⟨(some 71), 113, .pick, [.t 60, .t 70, .c (.bool false)], none⟩,
  ⟨(some 8), 114, .move, [.t 71], none⟩])
 (.ret)))))
  [.tmp 8] 0 68
def f12.env : Env := [(22, f22.C), (23, f23.C), (35, f35.C), (36, f36.C), (25, f25.C), (37, f37.C), (24, f24.C), (38, f38.C), (39, f39.C), (40, f40.C), (41, f41.C), (42, f42.C), (43, f43.C), (44, f44.C)]
def f12.tree (a : ByteArray × T_api_Node × T_api_Queue × T_api_Task) : Prop := ∃ c1 : Unit, True ∧ Br (!(lawTrue c1)) (∃ c4 : Unit, True ∧ ((lawTrue c4) = (lawTrue a)) ∧ True) (∃ c7 : T_api_Node × T_api_Queue × T_api_Task, (a.2.1.1 = c7.1.1) ∧ (a.2.1.2.1.1 = c7.1.2.1.1) ∧ (a.2.1.2.1.2.1 = c7.1.2.1.2.1) ∧ (a.2.1.2.1.2.2 = c7.1.2.1.2.2) ∧ (a.2.1.2.2.length = c7.1.2.2.length) ∧ (∀ i, i < c7.1.2.2.length → DEqs ((gl e_api_Label a.2.1.2.2) i) ((gl e_api_Label c7.1.2.2) i)) ∧ (a.2.2.1.1 = c7.2.1.1) ∧ (a.2.2.1.2.1 = c7.2.1.2.1) ∧ (a.2.2.1.2.2.1 = c7.2.1.2.2.1) ∧ (a.2.2.1.2.2.2 = c7.2.1.2.2.2) ∧ (a.2.2.2.1 = c7.2.2.1) ∧ (a.2.2.2.2.1 = c7.2.2.2.1) ∧ (a.2.2.2.2.2.1 = c7.2.2.2.2.1) ∧ (a.2.2.2.2.2.2.1.1 = c7.2.2.2.2.2.1.1) ∧ (a.2.2.2.2.2.2.1.2.1 = c7.2.2.2.2.2.1.2.1) ∧ (a.2.2.2.2.2.2.1.2.2 = c7.2.2.2.2.2.1.2.2) ∧ (a.2.2.2.2.2.2.2.1.length = c7.2.2.2.2.2.2.1.length) ∧ (∀ i, i < c7.2.2.2.2.2.2.1.length → DEqs ((gl e_api_Label a.2.2.2.2.2.2.2.1) i) ((gl e_api_Label c7.2.2.2.2.2.2.1) i)) ∧ (a.2.2.2.2.2.2.2.2.1 = c7.2.2.2.2.2.2.2.1) ∧ (a.2.2.2.2.2.2.2.2.2.1 = c7.2.2.2.2.2.2.2.2.1) ∧ (a.2.2.2.2.2.2.2.2.2.2 = c7.2.2.2.2.2.2.2.2.2) ∧ (few5_pre c7) ∧ Br (!(few5 c7)) (∃ c10 : Unit, True ∧ ((lawTrue c10) = (lawTrue a)) ∧ True) (∃ c13 : T_api_Node, (a.2.1.1 = c13.1) ∧ (a.2.1.2.1.1 = c13.2.1.1) ∧ (a.2.1.2.1.2.1 = c13.2.1.2.1) ∧ (a.2.1.2.1.2.2 = c13.2.1.2.2) ∧ (a.2.1.2.2.length = c13.2.2.length) ∧ (∀ i, i < c13.2.2.length → DEqs ((gl e_api_Label a.2.1.2.2) i) ((gl e_api_Label c13.2.2) i)) ∧ (node_pre c13) ∧ ∃ c14 : T_api_Node, (a.2.1.1 = c14.1) ∧ (a.2.1.2.1.1 = c14.2.1.1) ∧ (a.2.1.2.1.2.1 = c14.2.1.2.1) ∧ (a.2.1.2.1.2.2 = c14.2.1.2.2) ∧ (a.2.1.2.2.length = c14.2.2.length) ∧ (∀ i, i < c14.2.2.length → DEqs ((gl e_api_Label a.2.1.2.2) i) ((gl e_api_Label c14.2.2) i)) ∧ (node_pre c14) ∧ Br (!((nodeB c13) == (nodeB c14))) ((false = (lawTrue a)) ∧ True) (∃ c18 : T_api_Queue, (a.2.2.1.1 = c18.1) ∧ (a.2.2.1.2.1 = c18.2.1) ∧ (a.2.2.1.2.2.1 = c18.2.2.1) ∧ (a.2.2.1.2.2.2 = c18.2.2.2) ∧ (queue_pre c18) ∧ ∃ c19 : T_api_Queue, (a.2.2.1.1 = c19.1) ∧ (a.2.2.1.2.1 = c19.2.1) ∧ (a.2.2.1.2.2.1 = c19.2.2.1) ∧ (a.2.2.1.2.2.2 = c19.2.2.2) ∧ (queue_pre c19) ∧ Br (!((queueB c18) == (queueB c19))) ((false = (lawTrue a)) ∧ True) (∃ c23 : T_api_Task, (a.2.2.2.1 = c23.1) ∧ (a.2.2.2.2.1 = c23.2.1) ∧ (a.2.2.2.2.2.1 = c23.2.2.1) ∧ (a.2.2.2.2.2.2.1.1 = c23.2.2.2.1.1) ∧ (a.2.2.2.2.2.2.1.2.1 = c23.2.2.2.1.2.1) ∧ (a.2.2.2.2.2.2.1.2.2 = c23.2.2.2.1.2.2) ∧ (a.2.2.2.2.2.2.2.1.length = c23.2.2.2.2.1.length) ∧ (∀ i, i < c23.2.2.2.2.1.length → DEqs ((gl e_api_Label a.2.2.2.2.2.2.2.1) i) ((gl e_api_Label c23.2.2.2.2.1) i)) ∧ (a.2.2.2.2.2.2.2.2.1 = c23.2.2.2.2.2.1) ∧ (a.2.2.2.2.2.2.2.2.2.1 = c23.2.2.2.2.2.2.1) ∧ (a.2.2.2.2.2.2.2.2.2.2 = c23.2.2.2.2.2.2.2) ∧ (task_pre c23) ∧ ∃ c24 : T_api_Task, (a.2.2.2.1 = c24.1) ∧ (a.2.2.2.2.1 = c24.2.1) ∧ (a.2.2.2.2.2.1 = c24.2.2.1) ∧ (a.2.2.2.2.2.2.1.1 = c24.2.2.2.1.1) ∧ (a.2.2.2.2.2.2.1.2.1 = c24.2.2.2.1.2.1) ∧ (a.2.2.2.2.2.2.1.2.2 = c24.2.2.2.1.2.2) ∧ (a.2.2.2.2.2.2.2.1.length = c24.2.2.2.2.1.length) ∧ (∀ i, i < c24.2.2.2.2.1.length → DEqs ((gl e_api_Label a.2.2.2.2.2.2.2.1) i) ((gl e_api_Label c24.2.2.2.2.1) i)) ∧ (a.2.2.2.2.2.2.2.2.1 = c24.2.2.2.2.2.1) ∧ (a.2.2.2.2.2.2.2.2.2.1 = c24.2.2.2.2.2.2.1) ∧ (a.2.2.2.2.2.2.2.2.2.2 = c24.2.2.2.2.2.2.2) ∧ (task_pre c24) ∧ Br (!((taskB c23) == (taskB c24))) ((false = (lawTrue a)) ∧ True) (∃ c28 : ByteArray × T_api_Node, (a.1.size = c28.1.size) ∧ (∀ i, i < c28.1.size → DEqs ((gstr a.1) i) ((gstr c28.1) i)) ∧ (a.2.1.1 = c28.2.1) ∧ (a.2.1.2.1.1 = c28.2.2.1.1) ∧ (a.2.1.2.1.2.1 = c28.2.2.1.2.1) ∧ (a.2.1.2.1.2.2 = c28.2.2.1.2.2) ∧ (a.2.1.2.2.length = c28.2.2.2.length) ∧ (∀ i, i < c28.2.2.2.length → DEqs ((gl e_api_Label a.2.1.2.2) i) ((gl e_api_Label c28.2.2.2) i)) ∧ (putNode_pre c28) ∧ Bytes ((putNode c28).size) (gstr (putNode c28)) ∧ Let (textOf ((putNode c28).size) (gstr (putNode c28))) (fun v29 : ByteArray => ∃ c30 : T_api_Node, (a.2.1.1 = c30.1) ∧ (a.2.1.2.1.1 = c30.2.1.1) ∧ (a.2.1.2.1.2.1 = c30.2.1.2.1) ∧ (a.2.1.2.1.2.2 = c30.2.1.2.2) ∧ (a.2.1.2.2.length = c30.2.2.length) ∧ (∀ i, i < c30.2.2.length → DEqs ((gl e_api_Label a.2.1.2.2) i) ((gl e_api_Label c30.2.2) i)) ∧ (node_pre c30) ∧ Br (Nat.ble (a.1.size + (nodeS c30).size) 9223372036854775807) (Br (v29.toList == (a.1 ++ (nodeS c30)).toList) (∃ c34 : ByteArray × T_api_Queue, (a.1.size = c34.1.size) ∧ (∀ i, i < c34.1.size → DEqs ((gstr a.1) i) ((gstr c34.1) i)) ∧ (a.2.2.1.1 = c34.2.1) ∧ (a.2.2.1.2.1 = c34.2.2.1) ∧ (a.2.2.1.2.2.1 = c34.2.2.2.1) ∧ (a.2.2.1.2.2.2 = c34.2.2.2.2) ∧ (putQueue_pre c34) ∧ Bytes ((putQueue c34).size) (gstr (putQueue c34)) ∧ Let (textOf ((putQueue c34).size) (gstr (putQueue c34))) (fun v35 : ByteArray => ∃ c36 : T_api_Queue, (a.2.2.1.1 = c36.1) ∧ (a.2.2.1.2.1 = c36.2.1) ∧ (a.2.2.1.2.2.1 = c36.2.2.1) ∧ (a.2.2.1.2.2.2 = c36.2.2.2) ∧ (queue_pre c36) ∧ Br (Nat.ble (a.1.size + (queueS c36).size) 9223372036854775807) (Br (v35.toList == (a.1 ++ (queueS c36)).toList) (∃ c40 : ByteArray × T_api_Task, (a.1.size = c40.1.size) ∧ (∀ i, i < c40.1.size → DEqs ((gstr a.1) i) ((gstr c40.1) i)) ∧ (a.2.2.2.1 = c40.2.1) ∧ (a.2.2.2.2.1 = c40.2.2.1) ∧ (a.2.2.2.2.2.1 = c40.2.2.2.1) ∧ (a.2.2.2.2.2.2.1.1 = c40.2.2.2.2.1.1) ∧ (a.2.2.2.2.2.2.1.2.1 = c40.2.2.2.2.1.2.1) ∧ (a.2.2.2.2.2.2.1.2.2 = c40.2.2.2.2.1.2.2) ∧ (a.2.2.2.2.2.2.2.1.length = c40.2.2.2.2.2.1.length) ∧ (∀ i, i < c40.2.2.2.2.2.1.length → DEqs ((gl e_api_Label a.2.2.2.2.2.2.2.1) i) ((gl e_api_Label c40.2.2.2.2.2.1) i)) ∧ (a.2.2.2.2.2.2.2.2.1 = c40.2.2.2.2.2.2.1) ∧ (a.2.2.2.2.2.2.2.2.2.1 = c40.2.2.2.2.2.2.2.1) ∧ (a.2.2.2.2.2.2.2.2.2.2 = c40.2.2.2.2.2.2.2.2) ∧ (putTask_pre c40) ∧ Bytes ((putTask c40).size) (gstr (putTask c40)) ∧ Let (textOf ((putTask c40).size) (gstr (putTask c40))) (fun v41 : ByteArray => ∃ c42 : T_api_Task, (a.2.2.2.1 = c42.1) ∧ (a.2.2.2.2.1 = c42.2.1) ∧ (a.2.2.2.2.2.1 = c42.2.2.1) ∧ (a.2.2.2.2.2.2.1.1 = c42.2.2.2.1.1) ∧ (a.2.2.2.2.2.2.1.2.1 = c42.2.2.2.1.2.1) ∧ (a.2.2.2.2.2.2.1.2.2 = c42.2.2.2.1.2.2) ∧ (a.2.2.2.2.2.2.2.1.length = c42.2.2.2.2.1.length) ∧ (∀ i, i < c42.2.2.2.2.1.length → DEqs ((gl e_api_Label a.2.2.2.2.2.2.2.1) i) ((gl e_api_Label c42.2.2.2.2.1) i)) ∧ (a.2.2.2.2.2.2.2.2.1 = c42.2.2.2.2.2.1) ∧ (a.2.2.2.2.2.2.2.2.2.1 = c42.2.2.2.2.2.2.1) ∧ (a.2.2.2.2.2.2.2.2.2.2 = c42.2.2.2.2.2.2.2) ∧ (task_pre c42) ∧ Br (Nat.ble (a.1.size + (taskS c42).size) 9223372036854775807) (((v41.toList == (a.1 ++ (taskS c42)).toList) = (lawTrue a)) ∧ True) False)) ((false = (lawTrue a)) ∧ True)) False)) ((false = (lawTrue a)) ∧ True)) False))))))
def f12.vc (a : ByteArray × T_api_Node × T_api_Queue × T_api_Task) : Prop := ((¬ ((lawTrue ()) = true) → ((lawTrue ()) = lawTrue a)) ∧ (¬ (¬ ((lawTrue ()) = true)) → (few5_pre (a.2.1, a.2.2.1, a.2.2.2) ∧ ((¬ ((few5 (a.2.1, a.2.2.1, a.2.2.2)) = true) → ((lawTrue ()) = lawTrue a)) ∧ (¬ (¬ ((few5 (a.2.1, a.2.2.1, a.2.2.2)) = true)) → (node_pre a.2.1 ∧ (node_pre a.2.1 ∧ (((!((nodeB (a.2.1)) == (nodeB (a.2.1)))) = true → (false = lawTrue a)) ∧ (¬ ((!((nodeB (a.2.1)) == (nodeB (a.2.1)))) = true) → (queue_pre a.2.2.1 ∧ (queue_pre a.2.2.1 ∧ (((!((queueB (a.2.2.1)) == (queueB (a.2.2.1)))) = true → (false = lawTrue a)) ∧ (¬ ((!((queueB (a.2.2.1)) == (queueB (a.2.2.1)))) = true) → (task_pre a.2.2.2 ∧ (task_pre a.2.2.2 ∧ (((!((taskB (a.2.2.2)) == (taskB (a.2.2.2)))) = true → (false = lawTrue a)) ∧ (¬ ((!((taskB (a.2.2.2)) == (taskB (a.2.2.2)))) = true) → (putNode_pre (a.1, a.2.1) ∧ (node_pre a.2.1 ∧ ((a.1.size + (nodeS (a.2.1)).size ≤ 9223372036854775807) ∧ (((putNode (a.1, a.2.1)) = (a.1 ++ (nodeS (a.2.1))) → (putQueue_pre (a.1, a.2.2.1) ∧ (queue_pre a.2.2.1 ∧ ((a.1.size + (queueS (a.2.2.1)).size ≤ 9223372036854775807) ∧ (((putQueue (a.1, a.2.2.1)) = (a.1 ++ (queueS (a.2.2.1))) → (putTask_pre (a.1, a.2.2.2) ∧ (task_pre a.2.2.2 ∧ ((a.1.size + (taskS (a.2.2.2)).size ≤ 9223372036854775807) ∧ (((putTask (a.1, a.2.2.2)).toList == (a.1 ++ (taskS (a.2.2.2))).toList) = lawTrue a))))) ∧ (¬ ((putQueue (a.1, a.2.2.1)) = (a.1 ++ (queueS (a.2.2.1)))) → (false = lawTrue a))))))) ∧ (¬ ((putNode (a.1, a.2.1)) = (a.1 ++ (nodeS (a.2.1)))) → (false = lawTrue a)))))))))))))))))))))))
set_option maxRecDepth 100000 in
set_option maxHeartbeats 2000000 in
theorem f12.of (a : ByteArray × T_api_Node × T_api_Queue × T_api_Task) (h : f12.vc a) : f12.tree a := ⟨(), ⟨trivial, br h (Cnd.not Cnd.b) (fun h2 k75 => ⟨(), ⟨trivial, ⟨k75, trivial⟩⟩⟩) (fun h3 k76 => ⟨(a.2.1, a.2.2.1, a.2.2.2), ⟨rfl, ⟨rfl, ⟨rfl, ⟨rfl, slK (Rds.self (enc := e_api_Label)) (⟨rfl, ⟨rfl, ⟨rfl, ⟨rfl, ⟨rfl, ⟨rfl, ⟨rfl, ⟨rfl, ⟨rfl, ⟨rfl, slK (Rds.self (enc := e_api_Label)) (⟨rfl, ⟨rfl, ⟨rfl, ⟨k76.1, br k76.2 (Cnd.not Cnd.b) (fun h8 k72 => ⟨(), ⟨trivial, ⟨k72, trivial⟩⟩⟩) (fun h9 k73 => ⟨a.2.1, ⟨rfl, ⟨rfl, ⟨rfl, ⟨rfl, slK (Rds.self (enc := e_api_Label)) (⟨k73.1, ⟨a.2.1, ⟨rfl, ⟨rfl, ⟨rfl, ⟨rfl, slK (Rds.self (enc := e_api_Label)) (⟨k73.2.1, br k73.2.2 Cnd.b (fun h15 k68 => ⟨k68, trivial⟩) (fun h16 k69 => ⟨a.2.2.1, ⟨rfl, ⟨rfl, ⟨rfl, ⟨rfl, ⟨k69.1, ⟨a.2.2.1, ⟨rfl, ⟨rfl, ⟨rfl, ⟨rfl, ⟨k69.2.1, br k69.2.2 Cnd.b (fun h20 k64 => ⟨k64, trivial⟩) (fun h21 k65 => ⟨a.2.2.2, ⟨rfl, ⟨rfl, ⟨rfl, ⟨rfl, ⟨rfl, ⟨rfl, slK (Rds.self (enc := e_api_Label)) (⟨rfl, ⟨rfl, ⟨rfl, ⟨k65.1, ⟨a.2.2.2, ⟨rfl, ⟨rfl, ⟨rfl, ⟨rfl, ⟨rfl, ⟨rfl, slK (Rds.self (enc := e_api_Label)) (⟨rfl, ⟨rfl, ⟨rfl, ⟨k65.2.1, br k65.2.2 Cnd.b (fun h25 k60 => ⟨k60, trivial⟩) (fun h26 k61 => ⟨(a.1, a.2.1), slK RdB.self (⟨rfl, ⟨rfl, ⟨rfl, ⟨rfl, slK (Rds.self (enc := e_api_Label)) (⟨k61.1, b2s k61.2 RdB.self (fun h => ⟨a.2.1, ⟨rfl, ⟨rfl, ⟨rfl, ⟨rfl, slK (Rds.self (enc := e_api_Label)) (⟨h.1, chk h.2.2 Cnd.ble h.2.1 (fun h31 k57 => br k57 Cnd.seq (fun h32 k55 => ⟨(a.1, a.2.2.1), slK RdB.self (⟨rfl, ⟨rfl, ⟨rfl, ⟨rfl, ⟨k55.1, b2s k55.2 RdB.self (fun h => ⟨a.2.2.1, ⟨rfl, ⟨rfl, ⟨rfl, ⟨rfl, ⟨h.1, chk h.2.2 Cnd.ble h.2.1 (fun h37 k51 => br k51 Cnd.seq (fun h38 k49 => ⟨(a.1, a.2.2.2), slK RdB.self (⟨rfl, ⟨rfl, ⟨rfl, ⟨rfl, ⟨rfl, ⟨rfl, slK (Rds.self (enc := e_api_Label)) (⟨rfl, ⟨rfl, ⟨rfl, ⟨k49.1, b2s k49.2 RdB.self (fun h => ⟨a.2.2.2, ⟨rfl, ⟨rfl, ⟨rfl, ⟨rfl, ⟨rfl, ⟨rfl, slK (Rds.self (enc := e_api_Label)) (⟨rfl, ⟨rfl, ⟨rfl, ⟨h.1, chk h.2.2 Cnd.ble h.2.1 (fun h43 k45 => ⟨k45, trivial⟩)⟩⟩⟩⟩)⟩⟩⟩⟩⟩⟩⟩)⟩⟩⟩⟩)⟩⟩⟩⟩⟩⟩)⟩) (fun h39 k50 => ⟨k50, trivial⟩))⟩⟩⟩⟩⟩⟩)⟩⟩⟩⟩⟩)⟩) (fun h33 k56 => ⟨k56, trivial⟩))⟩)⟩⟩⟩⟩⟩)⟩)⟩⟩⟩⟩)⟩)⟩⟩⟩⟩)⟩⟩⟩⟩⟩⟩⟩⟩⟩⟩⟩)⟩⟩⟩⟩⟩⟩⟩)⟩⟩⟩⟩⟩⟩⟩⟩⟩⟩⟩⟩)⟩)⟩⟩⟩⟩⟩⟩)⟩⟩⟩⟩⟩)⟩⟩⟩⟩)⟩⟩⟩⟩⟩⟩⟩⟩⟩⟩)⟩⟩⟩⟩⟩)⟩⟩
theorem f12.eq (a : ByteArray × T_api_Node × T_api_Queue × T_api_Task) : (f12.af a).gives f12.env (f12.args a) (f12.blks a) (f12.res a) (f12.blks' a) = f12.tree a := by kernel_rfl
end Go.Abs

/- Layer 1: plain facts on numbers' bytes. -/
namespace Go.Abs
open Go

theorem mk_data (l : List UInt8) : (ByteArray.mk l.toArray).data.toList = l := rfl
theorem mk_size (l : List UInt8) : (ByteArray.mk l.toArray).size = l.length := by simp [ByteArray.size]
theorem by1_data (c : Int) : (by1 c).data.toList = [UInt8.ofNat c.toNat] := rfl
theorem by1_size (c : Int) : (by1 c).size = 1 := rfl
theorem empty_data : ByteArray.empty.data.toList = [] := rfl
theorem empty_app (b : ByteArray) : ByteArray.empty ++ b = b := bytes_ext (by rw [data_app, empty_data, List.nil_append])
theorem app_empty (b : ByteArray) : b ++ ByteArray.empty = b := bytes_ext (by rw [data_app, empty_data, List.append_nil])
theorem app_assoc (a b c : ByteArray) : a ++ b ++ c = a ++ (b ++ c) := bytes_ext (by simp only [data_app, List.append_assoc])
theorem data_length (b : ByteArray) : b.data.toList.length = b.size := by rw [Array.length_toList]; rfl
theorem empty_size : ByteArray.empty.size = 0 := rfl

theorem be_length (k n : Nat) : (be k n).length = k := by
  induction k generalizing n with
  | zero => rfl
  | succ k ih => simp [be, ih]

theorem be_hi (k n : Nat) : be (k + 1) n = UInt8.ofNat (n / 256 ^ k) :: be k n := by
  induction k generalizing n with
  | zero => simp [be]
  | succ k ih =>
    rw [be, ih, List.cons_append, Nat.div_div_eq_div_mul, ← Nat.pow_succ']
    rfl

theorem nb_le {n k : Nat} : nb n ≤ k ↔ n < 256 ^ k := by
  have e : (256 : Nat) ^ k = 2 ^ (8 * k) := by rw [Nat.pow_mul]
  rw [e]
  unfold nb blen
  split
  · rename_i h
    subst h
    exact ⟨fun _ => Nat.pow_pos (by decide), fun _ => by omega⟩
  · rename_i h
    rw [← Nat.log2_lt h]
    omega

theorem nb_zero : nb 0 = 0 := by simp [nb, blen]
theorem nb_pos {n : Nat} (h : n ≠ 0) : 0 < nb n := by
  rcases Nat.eq_zero_or_pos (nb n) with h1 | h1
  · have := nb_le.1 (Nat.le_of_eq h1)
    simp at this
    exact absurd this h
  · exact h1
theorem nb_eight {n : Nat} (h : n < 2 ^ 64) : nb n ≤ 8 := nb_le.2 (Nat.lt_of_lt_of_eq h (by decide))
theorem num_data (n : Nat) : (num n).data.toList = UInt8.ofNat (nb n) :: be (nb n) n := rfl
theorem num_size (n : Nat) : (num n).size = nb n + 1 := by rw [← data_length, num_data, List.length_cons, be_length]
theorem U64.lt {n : Int} (h : U64 n) : n.toNat < 2 ^ 64 := by obtain ⟨h1, h2⟩ := h; omega
theorem ofNat_wrap {e : Int} (h : 0 ≤ e) : UInt8.ofNat (IntKind.u8.wrap e).toNat = UInt8.ofNat e.toNat := by
  apply UInt8.toNat_inj.1
  rw [UInt8.toNat_ofNat', UInt8.toNat_ofNat']
  simp [IntKind.wrap, IntKind.signed, IntKind.bits]
  omega

theorem val_nonneg (b : ByteArray) (i k : Nat) : 0 ≤ val b i k := by
  induction k with
  | zero => exact Int.le_refl 0
  | succ k ih => have := (u8bN b (i + k)).1; simp only [val]; omega
theorem val_lt (b : ByteArray) (i k : Nat) : val b i k < 256 ^ k := by
  induction k with
  | zero => exact (by decide : (0 : Int) < 1)
  | succ k ih =>
    have h1 := (u8bN b (i + k)).2
    simp only [val]
    rw [Int.pow_succ]
    omega
theorem val_bd {b : ByteArray} {i k : Nat} (h : k ≤ 8) : val b i k ≤ 18446744073709551615 := by
  have h1 := val_lt b i k
  have h2 : (256 : Int) ^ k ≤ 256 ^ 8 := by
    have h4 : (256 : Nat) ^ k ≤ 256 ^ 8 := Nat.pow_le_pow_right (by decide) h
    have h5 : ((256 ^ k : Nat) : Int) ≤ ((256 ^ 8 : Nat) : Int) := Int.ofNat_le.2 h4
    rw [Int.natCast_pow, Int.natCast_pow] at h5
    exact h5
  have h3 : (256 : Int) ^ 8 = 18446744073709551616 := by decide
  omega

theorem takeN_bd (a : ByteArray × Int) : 0 ≤ (takeN a).1 ∧ (takeN a).1 ≤ 18446744073709551615 ∧ 0 ≤ (takeN a).2.1 ∧ (takeN a).2.1 ≤ a.1.size := by
  unfold takeN
  have hb := u8b a.1 a.2
  split
  · simp
  · split
    · simp
    · split
      · simp
      · split
        · simp
        · split
          · simp
          · simp only
            refine ⟨val_nonneg _ _ _, val_bd (by omega), by omega, by omega⟩

theorem bAtN_eq {b : ByteArray} {i : Int} : bAt b i = bAtN b i.toNat := rfl
theorem bAt_sub {b : ByteArray} {lo hi i : Int} (h : (0 : Int) ≤ lo ∧ lo ≤ hi ∧ hi ≤ (b.size : Int)) (h0 : 0 ≤ i) (h1 : i < hi - lo) : bAt (subB b lo hi) i = bAt b (lo + i) := by
  unfold bAt subB
  rw [ByteArray.data_extract, nth_getD, nth_getD]
  simp only [List.getD_eq_getElem?_getD, Array.getElem?_toList, Array.getElem?_extract]
  have hb : b.data.size = b.size := rfl
  rw [if_pos (by omega), show Int.toNat (lo + i) = lo.toNat + i.toNat from by omega]

/-- n << 8 | c -/
theorem shl_or {n c : Int} (h0 : 0 ≤ n) (h1 : n < 72057594037927936) (h2 : 0 ≤ c) (h3 : c ≤ 255) :
    IntKind.u64.wrap ((BitVec.ofInt 64 (IntKind.u64.wrap (n * 256)) ||| BitVec.ofInt 64 c).toNat : Int) = n * 256 + c := by
  obtain ⟨n, rfl⟩ := Int.eq_ofNat_of_zero_le h0
  obtain ⟨c, rfl⟩ := Int.eq_ofNat_of_zero_le h2
  have e1 : IntKind.u64.wrap ((n : Int) * 256) = ((n * 256 : Nat) : Int) := by
    rw [wrap_id (by simp [IntKind.signed]; omega) (by simp [IntKind.signed, IntKind.bits]; omega)]
    simp
  rw [e1, BitVec.ofInt_natCast, BitVec.ofInt_natCast, BitVec.toNat_or, BitVec.toNat_ofNat, BitVec.toNat_ofNat, Nat.mod_eq_of_lt (by omega), Nat.mod_eq_of_lt (by omega)]
  have e2 : n * 256 ||| c = n * 256 + c := by
    have := Nat.two_pow_add_eq_or_of_lt (i := 8) (b := c) (by omega) n
    rw [show n * 256 = 2 ^ 8 * n from by omega, this]
  rw [e2, wrap_id (by simp [IntKind.signed]; omega) (by simp [IntKind.signed, IntKind.bits]; omega)]
  simp

end Go.Abs

/- Signs in texts: what the code asks is so. -/
namespace Go.Abs
open Go

theorem u8wrap {c : Int} (h0 : 0 ≤ c) (h1 : c ≤ 255) : IntKind.u8.wrap c = c := wrap_id (by simpa [IntKind.signed] using h0) (by simp [IntKind.signed, IntKind.bits]; omega)

theorem ixB_no {l : List UInt8} {c : UInt8} (h : ∀ x ∈ l, x ≠ c) : Lib.indexByte l c = -1 := by
  induction l with
  | nil => rfl
  | cons b l ih =>
    have hb : (b == c) = false := by simpa using h b (by simp)
    simp [Lib.indexByte, hb, ih (fun x hx => h x (List.mem_cons_of_mem _ hx))]

theorem ixB_iff {l : List UInt8} {c : UInt8} : 0 ≤ Lib.indexByte l c ↔ c ∈ l := by
  induction l with
  | nil => simp [Lib.indexByte]
  | cons b l ih =>
    have := Lib.indexByte_ge l c
    unfold Lib.indexByte
    by_cases hb : b = c
    · subst hb; simp
    · have : (b == c) = false := by simpa using hb
      rw [this]
      simp only [Bool.false_eq_true, if_false, List.mem_cons, ← ih]
      split
      · rename_i h1
        have h1 : Lib.indexByte l c = -1 := by simpa using h1
        constructor
        · intro h; omega
        · rintro (h | h)
          · exact absurd h.symm hb
          · omega
      · rename_i h1
        have h1 : ¬ Lib.indexByte l c = -1 := by simpa using h1
        constructor
        · intro _; right; omega
        · intro _; omega

theorem bAt_mem {s : ByteArray} {i : Int} (h0 : 0 ≤ i) (h1 : i < (s.size : Int)) : ∃ x ∈ s.data.toList, bAt s i = (x.toNat : Int) := by
  have h2 : i.toNat < s.data.toList.length := by rw [Array.length_toList]; show i.toNat < s.size; omega
  exact ⟨s.data.toList[i.toNat], List.getElem_mem h2, by unfold bAt; rw [nth_lt _ _ h2]⟩

theorem bAt_u8 (s : ByteArray) (i : Int) : (bAt s i).toNat.toUInt8 = nth s.data.toList i.toNat 0 := by
  unfold bAt
  simp

theorem get_bAt {s : ByteArray} {p : Nat} (h : p < s.size) : ((s[p]'h).toNat : Int) = bAt s (p : Int) := by
  have h2 : p < s.data.toList.length := by rw [Array.length_toList]; exact h
  unfold bAt
  rw [Int.toNat_natCast, nth_lt _ _ h2]
  rfl

theorem enc_last {r : Int} (h : 128 ≤ r) (hv : Utf8.valid r = true) : 1 ≤ (Utf8.encode r).size ∧ (Utf8.encode r).size ≤ 4 ∧ 128 ≤ bAt (Utf8.encode r) (((Utf8.encode r).size : Int) - 1) := by
  have hn : ¬ r.toNat < 128 := by omega
  unfold Utf8.encode
  simp only [hv, if_true, hn, if_false]
  split
  · refine ⟨Nat.le_of_ble_eq_true rfl, Nat.le_of_ble_eq_true rfl, ?_⟩
    show (128 : Int) ≤ ((UInt8.ofNat (0x80 + r.toNat % 64)).toNat : Int)
    simp only [UInt8.toNat_ofNat']
    omega
  · split
    · refine ⟨Nat.le_of_ble_eq_true rfl, Nat.le_of_ble_eq_true rfl, ?_⟩
      show (128 : Int) ≤ ((UInt8.ofNat (0x80 + r.toNat % 64)).toNat : Int)
      simp only [UInt8.toNat_ofNat']
      omega
    · refine ⟨Nat.le_of_ble_eq_true rfl, Nat.le_of_ble_eq_true rfl, ?_⟩
      show (128 : Int) ≤ ((UInt8.ofNat (0x80 + r.toNat % 64)).toNat : Int)
      simp only [UInt8.toNat_ofNat']
      omega

theorem f74.ok (a : ByteArray × Int) (_ : True) : f74.vc a := by
  exact rfl

theorem f78.ok (a : ByteArray × Int) (_ : True) : f78.vc a := by
  exact rfl

theorem f75.ok (a : Int) (_ : True) : f75.vc a := by
  unfold f75.vc
  refine ⟨fun h0 => ⟨fun h1 => ?_, fun h1 => ⟨fun h2 => ⟨fun h3 => ?_, fun h3 => ?_⟩, fun h2 => ?_⟩⟩, fun h0 => ⟨fun h2 => ⟨fun h3 => ?_, fun h3 => ?_⟩, fun h2 => ?_⟩⟩
  all_goals first | (symm; rw [decide_eq_true_eq]; omega) | (symm; rw [decide_eq_false_iff_not]; omega)

theorem asc_lt {s : ByteArray} (h : Ascii s) {i : Int} (h0 : 0 ≤ i) (h1 : i < (s.size : Int)) : bAt s i < 128 := by
  obtain ⟨x, hx, e⟩ := bAt_mem h0 h1
  have := h x hx
  omega

theorem f73.ok (a : ByteArray × Int) (h : rune_pre a) : f73.vc a := by
  obtain ⟨s, r⟩ := a
  obtain ⟨ha, hs, h0, h1⟩ := h
  simp only at ha hs h0 h1
  have hi := u8b s
  unfold f73.vc
  simp only
  refine ⟨fun _ => ⟨fun h2 => ?_, fun h2 => ?_⟩, fun h => absurd h0 h⟩
  · unfold ixRune
    rw [if_pos ⟨h0, h2⟩, u8wrap h0 (by omega)]
  · have hr : ixRune (s, r) = -1 := by
      unfold ixRune
      rw [if_neg (by simp only; omega)]
    rw [hr]
    refine ⟨fun h3 => ?_, fun h3 => ⟨fun _ => rfl, fun hv => ?_⟩⟩
    · refine ⟨fun y => 0 ≤ y ∧ y ≤ (s.size : Int), fun y => (s.size - y.toNat), ⟨by omega, by omega⟩, fun y hy => ⟨fun hlt => ?_, fun _ => rfl⟩⟩
      have hp : y.toNat < s.size := by omega
      have hd := decode_ascii s y.toNat hp (by
        have := asc_lt ha hlt.1 hlt.2
        rw [show y = ((y.toNat : Nat) : Int) from by omega, ← get_bAt hp] at this
        omega)
      have hb : ((s[y.toNat]'hp).toNat : Int) < 128 := by
        have := asc_lt ha hlt.1 hlt.2
        rw [show y = ((y.toNat : Nat) : Int) from by omega, ← get_bAt hp] at this
        exact this
      rw [hd]
      simp only
      refine ⟨fun h => by omega, fun _ => ⟨⟨by omega, by omega⟩, by omega⟩⟩
    · have hval : Utf8.valid r = true := by
        have hv := Classical.not_not.1 hv
        rw [decide_eq_true_eq] at hv
        unfold Utf8.valid
        simp only [Bool.or_eq_true, Bool.and_eq_true, decide_eq_true_eq]
        omega
      obtain ⟨e1, e2, e3⟩ := enc_last (by omega) hval
      have e4 := u8b (Utf8.encode r) (((Utf8.encode r).size : Int) - 1)
      generalize hE : Utf8.encode r = E at *
      have hno : ∀ l : List UInt8, (∀ x ∈ l, x.toNat < 128) → Lib.indexByte l (bAt E ((E.size : Int) - 1)).toNat.toUInt8 = -1 := fun l hl => ixB_no fun x hx e => by
        have h5 := hl x hx
        rw [e] at h5
        simp only [Nat.toUInt8_eq, UInt8.toNat_ofNat'] at h5
        omega
      refine ⟨by omega, by omega, fun hlt => ⟨by omega, hlt, by omega, by omega, fun hne => ⟨by omega, by omega, by omega, by omega, by omega, by omega, fun _ => rfl, fun hix => ?_⟩, fun heq => ?_⟩, fun _ => rfl⟩
      · refine absurd ?_ hix
        have : ixB (subB s ((E.size : Int) - 1 + 1) (s.size : Int), bAt E ((E.size : Int) - 1)) = -1 := hno _ fun x hx => ha x (by
          simp only [subB, ByteArray.data_extract, Array.toList_extract] at hx
          exact List.mem_of_mem_drop (List.mem_of_mem_take hx))
        omega
      · have heq := Classical.not_not.1 heq
        have := asc_lt ha (i := (E.size : Int) - 1) (by omega) hlt
        omega

theorem f71.ok (a : ByteArray × Int) (h : rune_pre a) : f71.vc a := ⟨h, rfl⟩

theorem letters_ok : ∀ x : Fin 256, (nth f67.s0.data.toList 0 0 = nth f67.s0.data.toList 0 0) ∧ (UInt8.ofNat x.1 ∈ f67.s0.data.toList ↔ ltr (UInt8.ofNat x.1) = true) := by decide +kernel

theorem letters_ascii : Ascii f67.s0 := by
  intro x hx
  have : ∀ x ∈ f67.s0.data.toList, x.toNat < 128 := by decide +kernel
  exact this x hx

theorem f67.ok (a : Int) (h : odd_pre a) : f67.vc a := by
  obtain ⟨h0, h1⟩ := h
  refine ⟨⟨letters_ascii, Nat.le_of_ble_eq_true rfl, h0, h1⟩, ?_⟩
  unfold oddR hasRune ixRune sgn
  congr 1
  by_cases h2 : a < 128
  · rw [if_pos ⟨h0, h2⟩]
    have e : ((0 ≤ a && a < 128 : Bool)) = true := by simp [h0, h2]
    rw [e, Bool.true_and]
    have := (letters_ok ⟨a.toNat, by omega⟩).2
    have e2 : UInt8.ofNat a.toNat = a.toNat.toUInt8 := rfl
    simp only at this
    rw [e2] at this
    unfold ixB
    simp only
    rw [Bool.eq_iff_iff, decide_eq_true_eq, ixB_iff, this]
  · rw [if_neg (by simp only; omega)]
    have e : ((0 ≤ a && a < 128 : Bool)) = false := by simp; omega
    rw [e, Bool.false_and]
    rfl

/-- A rune that is odd, at a place: the byte there is odd. -/
theorem odd_at {s : ByteArray} {p : Nat} (h : p < s.size) : oddR ((Utf8.decode s p).1 : Int) = !ltr (s[p]'h) ∧ (ltr (s[p]'h) = true → (Utf8.decode s p).2 = 1) := by
  by_cases ha : (s[p]'h).toNat < 128
  · rw [decode_ascii s p h ha]
    refine ⟨?_, fun _ => rfl⟩
    unfold oddR sgn
    have e : ((0 ≤ ((s[p]'h).toNat : Int) && ((s[p]'h).toNat : Int) < 128 : Bool)) = true := by simp; omega
    rw [e]
    simp
  · obtain ⟨h1, _⟩ := decode_high s p h (by omega)
    have hl : ltr (s[p]'h) = false := by
      cases hh : ltr (s[p]'h) with
      | false => rfl
      | true =>
        unfold ltr at hh
        simp only [Bool.or_eq_true, Bool.and_eq_true, decide_eq_true_eq, beq_iff_eq, UInt8.le_iff_toNat_le] at hh
        rcases hh with (⟨_, hh⟩ | ⟨_, hh⟩) | hh
        · simp at hh; omega
        · simp at hh; omega
        · rw [hh] at ha; simp at ha
    rw [hl]
    refine ⟨?_, fun h => by cases h⟩
    unfold oddR sgn
    have e : ((0 ≤ ((Utf8.decode s p).1 : Int) && ((Utf8.decode s p).1 : Int) < 128 : Bool)) = false := by simp; omega
    rw [e]
    rfl

theorem ixOdd_none {l : List UInt8} (h : ∀ (i : Nat) (x : UInt8), l[i]? = some x → ltr x = true) : ixOdd l = -1 := by
  unfold ixOdd
  rw [List.findIdx?_eq_none_iff.2 fun x hx => by
    obtain ⟨i, hi⟩ := List.getElem?_of_mem hx
    simp [h i x hi]]

theorem ixOdd_some {l : List UInt8} {p : Nat} {y : UInt8} (h : ∀ (i : Nat) (x : UInt8), i < p → l[i]? = some x → ltr x = true) (hy : l[p]? = some y) (hp : ltr y = false) : ixOdd l = (p : Int) := by
  have hlt : p < l.length := (List.getElem?_eq_some_iff.1 hy).1
  unfold ixOdd
  have : l.findIdx? (fun x => !ltr x) = some p := by
    rw [List.findIdx?_eq_some_iff_getElem]
    refine ⟨hlt, ?_, fun j hj => ?_⟩
    · rw [(List.getElem?_eq_some_iff.1 hy).2, hp]; rfl
    · rw [h j _ hj (List.getElem?_eq_getElem (by omega))]; simp
  rw [this]

theorem f72.ok (a : ByteArray × Bool) (h : ixOdd_pre a) : f72.vc a := by
  obtain ⟨s, b⟩ := a
  obtain ⟨hs, hb⟩ := h
  simp only at hs hb
  subst hb
  have hlen : s.data.toList.length = s.size := by rw [Array.length_toList]; rfl
  refine ⟨fun y => 0 ≤ y ∧ y ≤ (s.size : Int) ∧ ∀ (i : Nat) (x : UInt8), i < y.toNat → s.data.toList[i]? = some x → ltr x = true, fun y => s.size - y.toNat, ⟨by omega, by omega, fun i x hi => by simp at hi⟩, fun y hy => ?_⟩
  obtain ⟨h0, h1, h2⟩ := hy
  refine ⟨fun hlt => ⟨⟨by omega, ?_⟩, fun ho => ?_, fun ho => ?_⟩, fun hge => ?_⟩
  · have := Lib.rune_le s y.toNat
    simp only
    omega
  all_goals try (have hp : y.toNat < s.size := by simp only at hlt; omega)
  · obtain ⟨h3, _⟩ := odd_at hp
    simp only [h3] at ho
    have ho : ltr (s[y.toNat]'hp) = false := by simpa using ho
    unfold indexOdd
    simp only
    rw [ixOdd_some h2 (y := s[y.toNat]'hp) (by rw [List.getElem?_eq_getElem (by omega)]; rfl) ho]
    omega
  · obtain ⟨h3, h4⟩ := odd_at hp
    simp only [h3] at ho
    have ho : ltr (s[y.toNat]'hp) = true := by simpa using ho
    simp only
    rw [h4 ho]
    refine ⟨⟨by omega, by simp only at hlt; omega, fun i x hi hx => ?_⟩, by omega⟩
    by_cases he : i = y.toNat
    · subst he
      rw [List.getElem?_eq_getElem (by omega)] at hx
      cases hx
      exact ho
    · exact h2 i x (by omega) hx
  · unfold indexOdd
    simp only
    rw [ixOdd_none fun i x hx => h2 i x (by
      have := (List.getElem?_eq_some_iff.1 hx).1
      simp only at hge
      omega) hx]

theorem f70.ok (a : ByteArray) (h : text_pre30 a) : f70.vc a := ⟨⟨h, rfl⟩, rfl⟩

theorem f66.ok (a : ByteArray) (h : text_pre30 a) : f66.vc a := ⟨h, rfl⟩

end Go.Abs

/- Names, labels, bytes of tasks: plain facts. -/
namespace Go.Abs
open Go

theorem less_irrefl : ∀ x : List UInt8, Op.bytesLess x x = false
  | [] => rfl
  | a :: x => by
    have h : (a < a) = False := by simp
    simp [Op.bytesLess, less_irrefl x]

theorem less_tri : ∀ x y : List UInt8, Op.bytesLess x y = true ∨ x = y ∨ Op.bytesLess y x = true
  | [], [] => .inr (.inl rfl)
  | [], _ :: _ => .inl rfl
  | _ :: _, [] => .inr (.inr rfl)
  | a :: x, b :: y => by
    simp only [Op.bytesLess, Bool.or_eq_true, Bool.and_eq_true, decide_eq_true_eq, beq_iff_eq, List.cons.injEq]
    rcases Nat.lt_trichotomy a.toNat b.toNat with h | h | h
    · exact .inl (.inl (UInt8.lt_iff_toNat_lt.2 h))
    · have h : a = b := UInt8.toNat_inj.1 h
      subst h
      rcases less_tri x y with h | h | h
      · exact .inl (.inr ⟨rfl, h⟩)
      · exact .inr (.inl ⟨rfl, h⟩)
      · exact .inr (.inr (.inr ⟨rfl, h⟩))
    · exact .inr (.inr (.inl (UInt8.lt_iff_toNat_lt.2 h)))

theorem less_trans : ∀ {x y z : List UInt8}, Op.bytesLess x y = true → Op.bytesLess y z = true → Op.bytesLess x z = true
  | [], [], _, h, _ => by cases h
  | [], _ :: _, [], _, h => by cases h
  | [], _ :: _, _ :: _, _, _ => rfl
  | _ :: _, [], _, h, _ => by cases h
  | _ :: _, _ :: _, [], _, h => by cases h
  | a :: x, b :: y, c :: z, h, k => by
    simp only [Op.bytesLess, Bool.or_eq_true, Bool.and_eq_true, decide_eq_true_eq, beq_iff_eq] at h k ⊢
    rcases h with h | ⟨rfl, h⟩ <;> rcases k with k | ⟨rfl, k⟩
    · exact .inl (UInt8.lt_trans h k)
    · exact .inl h
    · exact .inl k
    · exact .inr ⟨rfl, less_trans h k⟩

theorem less_asymm {x y : List UInt8} (h : Op.bytesLess x y = true) : Op.bytesLess y x = false := by
  cases hh : Op.bytesLess y x with
  | false => rfl
  | true => rw [← less_irrefl x, less_trans h hh]

theorem slt_iff {a b : ByteArray} : slt a b = true ↔ sLt a b := Iff.rfl
theorem slt_not {a b : ByteArray} : slt a b = false ↔ sLe b a := by
  unfold slt sLe sLt
  constructor
  · intro h
    rcases less_tri a.toList b.toList with h1 | h1 | h1
    · rw [h] at h1; cases h1
    · exact .inr (toList_inj.1 h1.symm)
    · exact .inl h1
  · rintro (h | rfl)
    · exact less_asymm h
    · exact less_irrefl _

theorem ltr_iff (x : UInt8) : ltr x = true ↔ (97 ≤ x.toNat ∧ x.toNat ≤ 122) ∨ (48 ≤ x.toNat ∧ x.toNat ≤ 57) ∨ x.toNat = 45 := by
  unfold ltr
  simp only [Bool.or_eq_true, Bool.and_eq_true, decide_eq_true_eq, beq_iff_eq, UInt8.le_iff_toNat_le, or_assoc]
  have : x = 45 ↔ x.toNat = 45 := ⟨fun h => by subst h; rfl, fun h => UInt8.toNat_inj.1 h⟩
  rw [this]
  rfl

theorem size_zero {a : ByteArray} : a = ByteArray.empty ↔ a.size = 0 := ⟨fun h => by subst h; rfl, fun h => bytes_ext (by
  have := data_length a
  rw [h] at this
  rw [List.length_eq_zero_iff.1 this]; rfl)⟩

/-- A name, told by its bytes. -/
theorem nameB_iff {s : ByteArray} : nameB s = true ↔ 1 ≤ s.size ∧ s.size ≤ 16 ∧ bAt s 0 ≠ 45 ∧ ∀ (i : Nat) (x : UInt8), s.data.toList[i]? = some x → ltr x = true := by
  unfold nameB
  have e : nth s.data.toList 0 0 ≠ 45 ↔ bAt s 0 ≠ 45 := by
    unfold bAt
    have : nth s.data.toList (Int.toNat 0) 0 = 45 ↔ (nth s.data.toList (Int.toNat 0) 0).toNat = 45 := ⟨fun h => by rw [h]; rfl, fun h => UInt8.toNat_inj.1 h⟩
    show nth s.data.toList (Int.toNat 0) 0 ≠ 45 ↔ _
    rw [Ne, this]
    omega
  simp only [Bool.and_eq_true, decide_eq_true_eq, bne_iff_ne, List.all_eq_true, e, and_assoc]
  constructor
  · rintro ⟨h1, h2, h3, h4⟩
    exact ⟨h1, h2, h3, fun i x hx => h4 x (List.mem_of_getElem? hx)⟩
  · rintro ⟨h1, h2, h3, h4⟩
    exact ⟨h1, h2, h3, fun x hx => by
      obtain ⟨i, hi⟩ := List.getElem?_of_mem hx
      exact h4 i x hi⟩

theorem ixOdd_neg {l : List UInt8} : ixOdd l < 0 ↔ ∀ (i : Nat) (x : UInt8), l[i]? = some x → ltr x = true := by
  unfold ixOdd
  constructor
  · intro h i x hx
    cases hf : l.findIdx? (fun x => !ltr x) with
    | none =>
      have := List.findIdx?_eq_none_iff.1 hf x (List.mem_of_getElem? hx)
      simpa using this
    | some j => rw [hf] at h; simp only at h; omega
  · intro h
    rw [List.findIdx?_eq_none_iff.2 fun x hx => by
      obtain ⟨i, hi⟩ := List.getElem?_of_mem hx
      simp [h i x hi]]
    decide

theorem hasOdd_not {s : ByteArray} : hasOdd s = false ↔ ∀ (i : Nat) (x : UInt8), s.data.toList[i]? = some x → ltr x = true := by
  unfold hasOdd
  rw [decide_eq_false_iff_not, ← ixOdd_neg]
  omega

theorem at_getD {α : Type} [Inhabited α] (l : List α) (i : Int) : at_ l i = l.getD i.toNat default := rfl

theorem labelsB_iff {l : List TLbl} : labelsB l = true ↔ l.length ≤ 4 ∧ ∀ i, i < l.length → lblAt l i = true := by
  unfold labelsB
  simp only [Bool.and_eq_true, decide_eq_true_eq, List.all_eq_true, List.mem_range]

theorem getD_mem {α : Type} [Inhabited α] {l : List α} {i : Nat} (h : i < l.length) : l.getD i default ∈ l := by
  rw [List.getD_eq_getElem?_getD, List.getElem?_eq_getElem h]
  exact List.getElem_mem h

theorem at_mem {α : Type} [Inhabited α] {l : List α} {i : Int} (h0 : 0 ≤ i) (h : i < (l.length : Int)) : at_ l i ∈ l := getD_mem (by omega)

theorem rightB_iff {r : TRes} : rightB r = true ↔ (0 ≤ r.1 ∧ r.1 ≤ 1048576) ∧ (0 ≤ r.2.1 ∧ r.2.1 ≤ 1048576) ∧ (0 ≤ r.2.2 ∧ r.2.2 ≤ 1048576) := by
  unfold rightB okN
  simp only [Bool.and_eq_true, decide_eq_true_eq, and_assoc]

theorem nodeB_iff {n : TNode} : nodeB n = true ↔ nameB n.1 = true ∧ rightB n.2.1 = true ∧ labelsB n.2.2 = true := by
  unfold nodeB
  simp only [Bool.and_eq_true, and_assoc]
theorem queueB_iff {n : TQueue} : queueB n = true ↔ nameB n.1 = true ∧ rightB n.2 = true := by
  unfold queueB
  simp only [Bool.and_eq_true]
theorem taskB_iff {t : TTask} : taskB t = true ↔ nameB t.1 = true ∧ nameB t.2.1 = true ∧ (0 ≤ t.2.2.1 ∧ t.2.2.1 ≤ 9) ∧ rightB t.2.2.2.1 = true ∧ labelsB t.2.2.2.2.1 = true ∧ maybeB t.2.2.2.2.2.1 = true ∧ maybeB t.2.2.2.2.2.2.1 = true ∧ sizeB t.2.2.2.2.2.2.1 t.2.2.2.2.2.2.2 = true := by
  unfold taskB
  simp only [Bool.and_eq_true, decide_eq_true_eq, and_assoc]

theorem name_size {s : ByteArray} (h : nameB s = true) : s.size ≤ 16 := (nameB_iff.1 h).2.1
theorem maybe_size {s : ByteArray} (h : maybeB s = true) : s.size ≤ 16 := by
  unfold maybeB at h
  simp only [Bool.or_eq_true, beq_iff_eq] at h
  rcases h with h | h
  · omega
  · exact name_size h
theorem lbl_size {l : List TLbl} (h : labelsB l = true) : ∀ x ∈ l, x.1.size ≤ 16 ∧ x.2.size ≤ 16 := fun x hx => by
  obtain ⟨i, hi, rfl⟩ := List.mem_iff_getElem.1 hx
  have := (labelsB_iff.1 h).2 i hi
  unfold lblAt at this
  simp only [Bool.and_eq_true] at this
  rw [List.getD_eq_getElem?_getD, List.getElem?_eq_getElem hi] at this
  exact ⟨name_size this.1.1, name_size this.1.2⟩

theorem num_small {n : Nat} (h : n < 2 ^ 64) : (num n).size ≤ 9 := by
  rw [num_size]
  have := nb_eight h
  omega
theorem app_size (a b : ByteArray) : (a ++ b).size = a.size + b.size := by simp
theorem textS_size {s : ByteArray} (h : s.size ≤ 268435456) : (textS s).size ≤ 9 + s.size := by
  unfold textS
  rw [app_size]
  have := num_small (n := s.size) (by omega)
  omega
theorem amtS_size {r : TRes} (h : rightB r = true) : (amtS r).size ≤ 27 := by
  obtain ⟨h1, h2, h3⟩ := rightB_iff.1 h
  unfold amtS
  rw [app_size, app_size]
  have a := num_small (n := r.1.toNat) (by omega)
  have b := num_small (n := r.2.1.toNat) (by omega)
  have c := num_small (n := r.2.2.toNat) (by omega)
  omega
theorem lblsS0_size {l : List TLbl} (h : ∀ x ∈ l, x.1.size ≤ 16 ∧ x.2.size ≤ 16) : (lblsS0 l).size ≤ 50 * l.length := by
  induction l with
  | nil => exact Nat.le_refl _
  | cons x l ih =>
    have h1 := h x (by simp)
    have h2 := ih fun y hy => h y (List.mem_cons_of_mem _ hy)
    have a := textS_size (s := x.1) (by omega)
    have b := textS_size (s := x.2) (by omega)
    simp only [lblsS0, app_size, List.length_cons]
    omega
theorem lblsS_size {l : List TLbl} (h : labelsB l = true) : (lblsS l).size ≤ 209 := by
  have h1 := lblsS0_size (lbl_size h)
  have h2 := (labelsB_iff.1 h).1
  have h3 := num_small (n := l.length) (by omega)
  unfold lblsS
  rw [app_size]
  omega

theorem lblsS0_app (l m : List TLbl) : lblsS0 (l ++ m) = lblsS0 l ++ lblsS0 m := by
  induction l with
  | nil => simp only [List.nil_append, lblsS0, empty_app]
  | cons x l ih => simp only [List.cons_append, lblsS0, ih, app_assoc]

theorem lblsS0_take {l : List TLbl} {i : Nat} (h : i < l.length) : lblsS0 (l.take (i + 1)) = lblsS0 (l.take i) ++ textS (l.getD i default).1 ++ textS (l.getD i default).2 := by
  rw [List.take_add_one, lblsS0_app, List.getD_eq_getElem?_getD, List.getElem?_eq_getElem h]
  simp only [Option.toList_some, lblsS0, Option.getD_some, app_empty, app_assoc]

theorem nodeS0_size {n : TNode} (h : nodeB n = true) : (nodeS0 n).size ≤ 300 := by
  obtain ⟨h1, h2, h3⟩ := nodeB_iff.1 h
  have a := name_size h1
  have b := textS_size (s := n.1) (by omega)
  have c := amtS_size h2
  have d := lblsS_size h3
  unfold nodeS0
  rw [app_size, app_size]
  omega
theorem queueS0_size {n : TQueue} (h : queueB n = true) : (queueS0 n).size ≤ 100 := by
  obtain ⟨h1, h2⟩ := queueB_iff.1 h
  have a := name_size h1
  have b := textS_size (s := n.1) (by omega)
  have c := amtS_size h2
  unfold queueS0
  rw [app_size]
  omega
theorem sizeB_iff {g : ByteArray} {n : Int} : sizeB g n = true ↔ (g.size = 0 ∧ n = 0) ∨ (g.size ≠ 0 ∧ 2 ≤ n ∧ n ≤ 4) := by
  unfold sizeB
  split
  · rename_i h; simp [h]
  · rename_i h; simp [h]
theorem taskS0_size {t : TTask} (h : taskB t = true) : (taskS0 t).size ≤ 500 := by
  obtain ⟨h1, h2, h3, h4, h5, h6, h7, h8⟩ := taskB_iff.1 h
  have a1 := name_size h1
  have a2 := name_size h2
  have a6 := maybe_size h6
  have a7 := maybe_size h7
  have b1 := textS_size (s := t.1) (by omega)
  have b2 := textS_size (s := t.2.1) (by omega)
  have b3 := num_small (n := t.2.2.1.toNat) (by omega)
  have b4 := amtS_size h4
  have b5 := lblsS_size h5
  have b6 := textS_size (s := t.2.2.2.2.2.1) (by omega)
  have b7 := textS_size (s := t.2.2.2.2.2.2.1) (by omega)
  have b8 := num_small (n := t.2.2.2.2.2.2.2.toNat) (by rcases sizeB_iff.1 h8 with h | h <;> omega)
  unfold taskS0
  simp only [app_size]
  omega

end Go.Abs

-- interregnum/pack.Take
namespace Go.Abs
open Go
def f18.args (a : ByteArray × Int) : List D := [.slice .ro 1 a.1.size (gstr a.1), .int .i64 a.2]
def f18.blks (a : ByteArray × Int) : List (List D) := []
def f18.res (a : ByteArray × Int) : List D := [.int .u64 ((takeN a).1), .int .i64 ((takeN a).2.1), .int .i64 ((takeN a).2.2)]
def f18.blks' (a : ByteArray × Int) : List (List D) := []
def f18.C : Contract := FnC f18.args f18.blks (fun a => take_pre a) f18.res f18.blks'
end Go.Abs

/- interregnum/pack.Take -/
namespace Go.Abs
open Go
set_option linter.unusedVariables false
def f18.kills (a : ByteArray × Int) : List Hint := [.tell (Int × Int × ByteArray × Int × Int) (fun x => ⟨[.dead, .int .i64 a.2, .dead, .dead, .dead, .dead, .dead, .dead, .int .i64 x.1, .int .u64 x.2.1, .dead, .dead, .dead, .dead, .dead, .dead, .dead, .dead, .dead, .dead, .dead, .dead, .dead, .dead, .dead, .dead, .dead, .dead, .dead, .dead, .dead, .dead, .dead, .dead, .dead, .dead, .dead, .dead, .dead, .dead, .dead, .dead, .dead, .dead, .dead, .dead, .dead, .dead, .dead, .dead, .slice .ro 1 x.2.2.1.size (gstr x.2.2.1), .int .i64 x.2.2.2.1, .int .i64 x.2.2.2.2, .dead, .dead, .dead, .dead, .dead, .dead, .dead, .dead, .dead, .dead, .dead, .dead, .dead, .dead], [], []⟩)]
def f18.cuts (a : ByteArray × Int) : List (Nat × Σ β : Type, β → Tm) := []
def f18.af (a : ByteArray × Int) : AF := AF.mk (.seq (.region [⟨(some 4), 0, .move, [.c (.int .u64 (0))], none⟩,
  ⟨(some 5), 1, .move, [.c (.int .i64 (0))], none⟩,
  ⟨(some 6), 2, .move, [.c (.int .i64 (0))], none⟩])
 (.seq (.seq (.region [⟨(some 12), 3, .move, [.t 1], none⟩,
  ⟨(some 13), 4, (.bin .lss), [.t 12, .c (.int .i64 (0))], none⟩,
  ⟨(some 14), 5, .move, [.t 13], none⟩,
  ⟨(some 15), 6, .move, [.t 1], (some (14, false))⟩,
  ⟨(some 16), 7, .move, [.t 0], (some (14, false))⟩,
  ⟨(some 17), 8, (.len false), [.t 16], (some (14, false))⟩,
  ⟨(some 18), 9, (.bin .gtr), [.t 15, .t 17], (some (14, false))⟩,
  ⟨(some 19), 10, .pick, [.t 14, .c (.bool true), .t 18], none⟩])
 (.cond (.t 19) (.seq (.region [⟨(some 4), 11, .move, [.c (.int .u64 (0))], none⟩,
  ⟨(some 5), 12, .move, [.c (.int .i64 (0))], none⟩,
  ⟨(some 6), 13, .move, [.c (.int .i64 (1))], none⟩])
 (.ret)) (.skip)))
 (.seq (.region [⟨(some 20), 14, .move, [.t 0], none⟩,
  ⟨(some 21), 15, .move, [.t 1], none⟩,
  ⟨(some 22), 16, (.sliceSl 1 true false false), [.t 20, .t 21], none⟩,
  ⟨(some 7), 17, .move, [.t 22], none⟩])
 (.seq (.seq (.region [⟨(some 23), 18, .move, [.t 7], none⟩,
  ⟨(some 24), 19, (.len false), [.t 23], none⟩,
  ⟨(some 25), 20, (.bin .eql), [.t 24, .c (.int .i64 (0))], none⟩])
 (.cond (.t 25) (.seq (.region [⟨(some 4), 21, .move, [.c (.int .u64 (0))], none⟩,
  ⟨(some 5), 22, .move, [.c (.int .i64 (0))], none⟩,
  ⟨(some 6), 23, .move, [.c (.int .i64 (2))], none⟩])
 (.ret)) (.skip)))
 (.seq (.region [⟨(some 26), 24, .move, [.t 7], none⟩,
  ⟨(some 27), 25, (.indexAddr 1 none), [.t 26, .c (.int .i64 (0))], none⟩,
  ⟨(some 28), 26, (.load false 1), [.t 27], none⟩,
  ⟨(some 29), 27, (.conv (.int .i64)), [.t 28], none⟩,
  ⟨(some 8), 28, .move, [.t 29], none⟩])
 (.seq (.block 0 (.seq (.region [⟨(some 31), 29, .move, [.t 8], none⟩,
  ⟨(some 32), 30, (.bin .gtr), [.t 31, .c (.int .i64 (8))], none⟩,
  ⟨(some 30), 31, .move, [.t 32], none⟩])
 (.cond (.t 30) (.seq (.region [⟨(some 4), 32, .move, [.c (.int .u64 (0))], none⟩,
  ⟨(some 5), 33, .move, [.c (.int .i64 (0))], none⟩,
  ⟨(some 6), 34, .move, [.c (.int .i64 (3))], none⟩])
 (.ret)) (.seq (.region [⟨(some 34), 35, .move, [.t 7], none⟩,
  ⟨(some 35), 36, (.len false), [.t 34], none⟩,
  ⟨(some 36), 37, .move, [.t 8], none⟩,
  ⟨(some 37), 38, (.bin .leq), [.t 35, .t 36], none⟩,
  ⟨(some 33), 39, .move, [.t 37], none⟩])
 (.cond (.t 33) (.seq (.region [⟨(some 4), 40, .move, [.c (.int .u64 (0))], none⟩,
  ⟨(some 5), 41, .move, [.c (.int .i64 (0))], none⟩,
  ⟨(some 6), 42, .move, [.c (.int .i64 (2))], none⟩])
 (.ret)) (.seq (.region [⟨(some 39), 43, .move, [.t 8], none⟩,
  ⟨(some 40), 44, (.bin .gtr), [.t 39, .c (.int .i64 (0))], none⟩,
  ⟨(some 41), 45, .move, [.t 40], none⟩,
  ⟨(some 42), 46, .move, [.t 7], (some (41, true))⟩,
  ⟨(some 43), 47, (.indexAddr 1 none), [.t 42, .c (.int .i64 (1))], (some (41, true))⟩,
  ⟨(some 44), 48, (.load false 1), [.t 43], (some (41, true))⟩,
  ⟨(some 45), 49, (.bin .eql), [.t 44, .c (.int .u8 (0))], (some (41, true))⟩,
  ⟨(some 46), 50, .pick, [.t 41, .t 45, .c (.bool false)], none⟩,
  ⟨(some 38), 51, .move, [.t 46], none⟩])
 (.cond (.t 38) (.seq (.region [⟨(some 4), 52, .move, [.c (.int .u64 (0))], none⟩,
  ⟨(some 5), 53, .move, [.c (.int .i64 (0))], none⟩,
  ⟨(some 6), 54, .move, [.c (.int .i64 (3))], none⟩])
 (.ret)) (.skip))))))))
 (.seq (.region [⟨(some 9), 55, .move, [.c (.int .u64 (0))], none⟩])
 (.seq (.seq (.region [⟨(some 47), 56, .move, [.t 7], none⟩,
  ⟨(some 48), 57, .move, [.t 8], none⟩,
  ⟨(some 49), 58, (.bin .add), [.t 48, .c (.int .i64 (1))], none⟩,
  ⟨(some 50), 59, (.sliceSl 1 true true false), [.t 47, .c (.int .i64 (1)), .t 49], none⟩,
  ⟨(some 51), 60, (.len false), [.t 50], none⟩,
  ⟨(some 52), 61, .move, [.c (.int .i64 (0))], none⟩])
 (.block 1 (.loopT (Int × Int × ByteArray × Int × Int) (fun x => ⟨[.dead, .int .i64 a.2, .dead, .dead, .dead, .dead, .dead, .dead, .int .i64 x.1, .int .u64 x.2.1, .dead, .dead, .dead, .dead, .dead, .dead, .dead, .dead, .dead, .dead, .dead, .dead, .dead, .dead, .dead, .dead, .dead, .dead, .dead, .dead, .dead, .dead, .dead, .dead, .dead, .dead, .dead, .dead, .dead, .dead, .dead, .dead, .dead, .dead, .dead, .dead, .dead, .dead, .dead, .dead, .slice .ro 1 x.2.2.1.size (gstr x.2.2.1), .int .i64 x.2.2.2.1, .int .i64 x.2.2.2.2, .dead, .dead, .dead, .dead, .dead, .dead, .dead, .dead, .dead, .dead, .dead, .dead, .dead, .dead], [], []⟩) 62 74 (.seq (.region [⟨(some 53), 62, (.bin .lss), [.t 52, .t 51], none⟩])
 (.seq (.cond (.t 53) (.skip) (.exit 1))
 (.seq (.block 2 (.seq (.region [⟨(some 54), 63, (.indexAddr 1 none), [.t 50, .t 52], none⟩,
  ⟨(some 55), 64, (.load false 1), [.t 54], none⟩,
  ⟨(some 11), 65, .move, [.t 55], none⟩])
 (.region [⟨(some 56), 66, .move, [.t 9], none⟩,
  ⟨(some 57), 67, (.bin .shl), [.t 56, .c (.int .u64 (8))], none⟩,
  ⟨(some 58), 68, .move, [.t 11], none⟩,
  ⟨(some 59), 69, (.conv (.int .u64)), [.t 58], none⟩,
  ⟨(some 60), 70, (.bin .or), [.t 57, .t 59], none⟩,
  ⟨(some 9), 71, .move, [.t 60], none⟩])))
 (.region [⟨(some 61), 72, (.bin .add), [.t 52, .c (.int .i64 (1))], none⟩,
  ⟨(some 52), 73, .move, [.t 61], none⟩])))))))
 (.seq (.region [⟨(some 62), 74, .move, [.t 9], none⟩,
  ⟨(some 63), 75, .move, [.t 1], none⟩,
  ⟨(some 64), 76, .move, [.t 8], none⟩,
  ⟨(some 65), 77, (.bin .add), [.t 63, .t 64], none⟩,
  ⟨(some 66), 78, (.bin .add), [.t 65, .c (.int .i64 (1))], none⟩,
  ⟨(some 4), 79, .move, [.t 62], none⟩,
  ⟨(some 5), 80, .move, [.t 66], none⟩,
  ⟨(some 6), 81, .move, [.c (.int .i64 (0))], none⟩])
 (.ret))))))))))
  [.tmp 4, .tmp 5, .tmp 6] 0 65
def f18.env : Env := []
def f18.tree (a : ByteArray × Int) : Prop := Br (decide (a.2 < (0 : Int))) (((0 : Int) = ((takeN a).1)) ∧ ((0 : Int) = ((takeN a).2.1)) ∧ ((1 : Int) = ((takeN a).2.2)) ∧ True) (Br (decide ((a.1.size : Int) < a.2)) (((0 : Int) = ((takeN a).1)) ∧ ((0 : Int) = ((takeN a).2.1)) ∧ ((1 : Int) = ((takeN a).2.2)) ∧ True) (Br (decide ((0 : Int) ≤ a.2) && decide (a.2 ≤ (a.1.size : Int)) && decide ((a.1.size : Int) ≤ (a.1.size : Int)) && ((a.1.size : Int) == (a.1.size : Int))) (Br ((Int.toNat ((a.1.size : Int) - a.2) : Int) == (0 : Int)) (((0 : Int) = ((takeN a).1)) ∧ ((0 : Int) = ((takeN a).2.1)) ∧ ((2 : Int) = ((takeN a).2.2)) ∧ True) (Br (decide ((0 : Int) ≤ (0 : Int)) && decide ((0 : Int) < (Int.toNat ((a.1.size : Int) - a.2) : Int))) (Let (IntKind.i64.wrap (bAtN a.1 (Int.toNat (0 : Int) + (Int.toNat a.2)))) (fun v12 : Int => Br (decide ((8 : Int) < v12)) (((0 : Int) = ((takeN a).1)) ∧ ((0 : Int) = ((takeN a).2.1)) ∧ ((3 : Int) = ((takeN a).2.2)) ∧ True) (Br (decide ((Int.toNat ((a.1.size : Int) - a.2) : Int) ≤ v12)) (((0 : Int) = ((takeN a).1)) ∧ ((0 : Int) = ((takeN a).2.1)) ∧ ((2 : Int) = ((takeN a).2.2)) ∧ True) (Br (decide ((0 : Int) < v12)) (Br (decide ((0 : Int) ≤ (1 : Int)) && decide ((1 : Int) < (Int.toNat ((a.1.size : Int) - a.2) : Int))) (Br ((bAtN a.1 (Int.toNat (1 : Int) + (Int.toNat a.2))) == (0 : Int)) (((0 : Int) = ((takeN a).1)) ∧ ((0 : Int) = ((takeN a).2.1)) ∧ ((3 : Int) = ((takeN a).2.2)) ∧ True) (Let (IntKind.i64.wrap (v12 + (1 : Int))) (fun v25 : Int => Br (decide ((0 : Int) ≤ (1 : Int)) && decide ((1 : Int) ≤ v25) && decide (v25 ≤ (Int.toNat ((a.1.size : Int) - a.2) : Int)) && (v25 == v25)) (∃ (I28 : (Int × Int × ByteArray × Int × Int) → Prop) (μ29 : (Int × Int × ByteArray × Int × Int) → Nat), (∃ x27 : Int × Int × ByteArray × Int × Int, (a.2 = a.2) ∧ (v12 = x27.1) ∧ ((0 : Int) = x27.2.1) ∧ ((Int.toNat (v25 - (1 : Int))) = x27.2.2.1.size) ∧ (∀ i, i < x27.2.2.1.size → DEqs ((gsub (gsub (gstr a.1) (Int.toNat a.2)) 1) i) ((gstr x27.2.2.1) i)) ∧ ((Int.toNat (v25 - (1 : Int)) : Int) = x27.2.2.2.1) ∧ ((0 : Int) = x27.2.2.2.2) ∧ I28 x27) ∧ ∀ y30 : Int × Int × ByteArray × Int × Int, I28 y30 → (Br (decide (y30.2.2.2.2 < y30.2.2.2.1)) (Br (decide ((0 : Int) ≤ y30.2.2.2.2) && decide (y30.2.2.2.2 < (y30.2.2.1.size : Int))) (Let (IntKind.u64.wrap (bAt y30.2.2.1 y30.2.2.2.2)) (fun v34 : Int => Let (IntKind.i64.wrap (y30.2.2.2.2 + (1 : Int))) (fun v35 : Int => ∃ x36 : Int × Int × ByteArray × Int × Int, (a.2 = a.2) ∧ (y30.1 = x36.1) ∧ ((IntKind.u64.wrap ((BitVec.ofInt 64 (IntKind.u64.wrap (y30.2.1 * 256)) ||| BitVec.ofInt 64 v34).toNat : Int)) = x36.2.1) ∧ (y30.2.2.1.size = x36.2.2.1.size) ∧ (∀ i, i < x36.2.2.1.size → DEqs ((gstr y30.2.2.1) i) ((gstr x36.2.2.1) i)) ∧ (y30.2.2.2.1 = x36.2.2.2.1) ∧ (v35 = x36.2.2.2.2) ∧ I28 x36 ∧ μ29 x36 < μ29 y30))) False) (Let (IntKind.i64.wrap (a.2 + y30.1)) (fun v45 : Int => Let (IntKind.i64.wrap (v45 + (1 : Int))) (fun v46 : Int => (y30.2.1 = ((takeN a).1)) ∧ (v46 = ((takeN a).2.1)) ∧ ((0 : Int) = ((takeN a).2.2)) ∧ True))))) False))) False) (Let (IntKind.i64.wrap (v12 + (1 : Int))) (fun v66 : Int => Br (decide ((0 : Int) ≤ (1 : Int)) && decide ((1 : Int) ≤ v66) && decide (v66 ≤ (Int.toNat ((a.1.size : Int) - a.2) : Int)) && (v66 == v66)) (∃ (I69 : (Int × Int × ByteArray × Int × Int) → Prop) (μ70 : (Int × Int × ByteArray × Int × Int) → Nat), (∃ x68 : Int × Int × ByteArray × Int × Int, (a.2 = a.2) ∧ (v12 = x68.1) ∧ ((0 : Int) = x68.2.1) ∧ ((Int.toNat (v66 - (1 : Int))) = x68.2.2.1.size) ∧ (∀ i, i < x68.2.2.1.size → DEqs ((gsub (gsub (gstr a.1) (Int.toNat a.2)) 1) i) ((gstr x68.2.2.1) i)) ∧ ((Int.toNat (v66 - (1 : Int)) : Int) = x68.2.2.2.1) ∧ ((0 : Int) = x68.2.2.2.2) ∧ I69 x68) ∧ ∀ y71 : Int × Int × ByteArray × Int × Int, I69 y71 → (Br (decide (y71.2.2.2.2 < y71.2.2.2.1)) (Br (decide ((0 : Int) ≤ y71.2.2.2.2) && decide (y71.2.2.2.2 < (y71.2.2.1.size : Int))) (Let (IntKind.u64.wrap (bAt y71.2.2.1 y71.2.2.2.2)) (fun v75 : Int => Let (IntKind.i64.wrap (y71.2.2.2.2 + (1 : Int))) (fun v76 : Int => ∃ x77 : Int × Int × ByteArray × Int × Int, (a.2 = a.2) ∧ (y71.1 = x77.1) ∧ ((IntKind.u64.wrap ((BitVec.ofInt 64 (IntKind.u64.wrap (y71.2.1 * 256)) ||| BitVec.ofInt 64 v75).toNat : Int)) = x77.2.1) ∧ (y71.2.2.1.size = x77.2.2.1.size) ∧ (∀ i, i < x77.2.2.1.size → DEqs ((gstr y71.2.2.1) i) ((gstr x77.2.2.1) i)) ∧ (y71.2.2.2.1 = x77.2.2.2.1) ∧ (v76 = x77.2.2.2.2) ∧ I69 x77 ∧ μ70 x77 < μ70 y71))) False) (Let (IntKind.i64.wrap (a.2 + y71.1)) (fun v86 : Int => Let (IntKind.i64.wrap (v86 + (1 : Int))) (fun v87 : Int => (y71.2.1 = ((takeN a).1)) ∧ (v87 = ((takeN a).2.1)) ∧ ((0 : Int) = ((takeN a).2.2)) ∧ True))))) False)))))) False)) False))
def f18.vc (a : ByteArray × Int) : Prop := ((a.2 < (0 : Int) → (((0 : Int), (0 : Int), (1 : Int)) = takeN a)) ∧ (¬ (a.2 < (0 : Int)) → (((a.1.size : Int) < a.2 → (((0 : Int), (0 : Int), (1 : Int)) = takeN a)) ∧ (¬ ((a.1.size : Int) < a.2) → ((0 : Int) ≤ a.2 ∧ a.2 ≤ (a.1.size : Int) ∧ (((Int.toNat ((a.1.size : Int) - a.2) : Int) = (0 : Int) → (((0 : Int), (0 : Int), (2 : Int)) = takeN a)) ∧ (¬ ((Int.toNat ((a.1.size : Int) - a.2) : Int) = (0 : Int)) → ((0 : Int) < (Int.toNat ((a.1.size : Int) - a.2) : Int) ∧ (((8 : Int) < (bAtN a.1 (Int.toNat (0 : Int) + (Int.toNat a.2))) → (((0 : Int), (0 : Int), (3 : Int)) = takeN a)) ∧ (¬ ((8 : Int) < (bAtN a.1 (Int.toNat (0 : Int) + (Int.toNat a.2)))) → (((Int.toNat ((a.1.size : Int) - a.2) : Int) ≤ (bAtN a.1 (Int.toNat (0 : Int) + (Int.toNat a.2))) → (((0 : Int), (0 : Int), (2 : Int)) = takeN a)) ∧ (¬ ((Int.toNat ((a.1.size : Int) - a.2) : Int) ≤ (bAtN a.1 (Int.toNat (0 : Int) + (Int.toNat a.2)))) → (((0 : Int) < (bAtN a.1 (Int.toNat (0 : Int) + (Int.toNat a.2))) → ((1 : Int) < (Int.toNat ((a.1.size : Int) - a.2) : Int) ∧ (((bAtN a.1 (Int.toNat (1 : Int) + (Int.toNat a.2))) = (0 : Int) → (((0 : Int), (0 : Int), (3 : Int)) = takeN a)) ∧ (¬ ((bAtN a.1 (Int.toNat (1 : Int) + (Int.toNat a.2))) = (0 : Int)) → (-9223372036854775808 ≤ ((bAtN a.1 (Int.toNat (0 : Int) + (Int.toNat a.2))) + (1 : Int)) ∧ ((bAtN a.1 (Int.toNat (0 : Int) + (Int.toNat a.2))) + (1 : Int)) ≤ 9223372036854775807 ∧ ((1 : Int) ≤ ((bAtN a.1 (Int.toNat (0 : Int) + (Int.toNat a.2))) + (1 : Int)) ∧ ((bAtN a.1 (Int.toNat (0 : Int) + (Int.toNat a.2))) + (1 : Int)) ≤ (Int.toNat ((a.1.size : Int) - a.2) : Int) ∧ (∃ (I28 : (Int × Int × ByteArray × Int × Int) → Prop) (μ29 : (Int × Int × ByteArray × Int × Int) → Nat), I28 ((bAtN a.1 (Int.toNat (0 : Int) + (Int.toNat a.2))), (0 : Int), (subB (subB a.1 a.2 (a.1.size : Int)) (1 : Int) ((bAtN a.1 (Int.toNat (0 : Int) + (Int.toNat a.2))) + (1 : Int))), (Int.toNat (((bAtN a.1 (Int.toNat (0 : Int) + (Int.toNat a.2))) + (1 : Int)) - (1 : Int)) : Int), (0 : Int)) ∧ ∀ y30 : Int × Int × ByteArray × Int × Int, I28 y30 → ((y30.2.2.2.2 < y30.2.2.2.1 → ((0 : Int) ≤ y30.2.2.2.2 ∧ y30.2.2.2.2 < (y30.2.2.1.size : Int) ∧ (-9223372036854775808 ≤ (y30.2.2.2.2 + (1 : Int)) ∧ (y30.2.2.2.2 + (1 : Int)) ≤ 9223372036854775807 ∧ (I28 (y30.1, IntKind.u64.wrap ((BitVec.ofInt 64 (IntKind.u64.wrap (y30.2.1 * 256)) ||| BitVec.ofInt 64 (bAt y30.2.2.1 y30.2.2.2.2)).toNat : Int), y30.2.2.1, y30.2.2.2.1, (y30.2.2.2.2 + (1 : Int))) ∧ μ29 (y30.1, IntKind.u64.wrap ((BitVec.ofInt 64 (IntKind.u64.wrap (y30.2.1 * 256)) ||| BitVec.ofInt 64 (bAt y30.2.2.1 y30.2.2.2.2)).toNat : Int), y30.2.2.1, y30.2.2.2.1, (y30.2.2.2.2 + (1 : Int))) < μ29 y30)))) ∧ (¬ (y30.2.2.2.2 < y30.2.2.2.1) → (-9223372036854775808 ≤ (a.2 + y30.1) ∧ (a.2 + y30.1) ≤ 9223372036854775807 ∧ (-9223372036854775808 ≤ ((a.2 + y30.1) + (1 : Int)) ∧ ((a.2 + y30.1) + (1 : Int)) ≤ 9223372036854775807 ∧ ((y30.2.1, ((a.2 + y30.1) + (1 : Int)), (0 : Int)) = takeN a)))))))))))) ∧ (¬ ((0 : Int) < (bAtN a.1 (Int.toNat (0 : Int) + (Int.toNat a.2)))) → (-9223372036854775808 ≤ ((bAtN a.1 (Int.toNat (0 : Int) + (Int.toNat a.2))) + (1 : Int)) ∧ ((bAtN a.1 (Int.toNat (0 : Int) + (Int.toNat a.2))) + (1 : Int)) ≤ 9223372036854775807 ∧ ((1 : Int) ≤ ((bAtN a.1 (Int.toNat (0 : Int) + (Int.toNat a.2))) + (1 : Int)) ∧ ((bAtN a.1 (Int.toNat (0 : Int) + (Int.toNat a.2))) + (1 : Int)) ≤ (Int.toNat ((a.1.size : Int) - a.2) : Int) ∧ (∃ (I69 : (Int × Int × ByteArray × Int × Int) → Prop) (μ70 : (Int × Int × ByteArray × Int × Int) → Nat), I69 ((bAtN a.1 (Int.toNat (0 : Int) + (Int.toNat a.2))), (0 : Int), (subB (subB a.1 a.2 (a.1.size : Int)) (1 : Int) ((bAtN a.1 (Int.toNat (0 : Int) + (Int.toNat a.2))) + (1 : Int))), (Int.toNat (((bAtN a.1 (Int.toNat (0 : Int) + (Int.toNat a.2))) + (1 : Int)) - (1 : Int)) : Int), (0 : Int)) ∧ ∀ y71 : Int × Int × ByteArray × Int × Int, I69 y71 → ((y71.2.2.2.2 < y71.2.2.2.1 → ((0 : Int) ≤ y71.2.2.2.2 ∧ y71.2.2.2.2 < (y71.2.2.1.size : Int) ∧ (-9223372036854775808 ≤ (y71.2.2.2.2 + (1 : Int)) ∧ (y71.2.2.2.2 + (1 : Int)) ≤ 9223372036854775807 ∧ (I69 (y71.1, IntKind.u64.wrap ((BitVec.ofInt 64 (IntKind.u64.wrap (y71.2.1 * 256)) ||| BitVec.ofInt 64 (bAt y71.2.2.1 y71.2.2.2.2)).toNat : Int), y71.2.2.1, y71.2.2.2.1, (y71.2.2.2.2 + (1 : Int))) ∧ μ70 (y71.1, IntKind.u64.wrap ((BitVec.ofInt 64 (IntKind.u64.wrap (y71.2.1 * 256)) ||| BitVec.ofInt 64 (bAt y71.2.2.1 y71.2.2.2.2)).toNat : Int), y71.2.2.1, y71.2.2.2.1, (y71.2.2.2.2 + (1 : Int))) < μ70 y71)))) ∧ (¬ (y71.2.2.2.2 < y71.2.2.2.1) → (-9223372036854775808 ≤ (a.2 + y71.1) ∧ (a.2 + y71.1) ≤ 9223372036854775807 ∧ (-9223372036854775808 ≤ ((a.2 + y71.1) + (1 : Int)) ∧ ((a.2 + y71.1) + (1 : Int)) ≤ 9223372036854775807 ∧ ((y71.2.1, ((a.2 + y71.1) + (1 : Int)), (0 : Int)) = takeN a))))))))))))))))))))))
set_option maxRecDepth 100000 in
set_option maxHeartbeats 2000000 in
theorem f18.of (a : ByteArray × Int) (h : f18.vc a) : f18.tree a := br h Cnd.dec (fun h1 k119 => ⟨(congrArg (fun x : Int × Int × Int => x.1) k119 :), ⟨(congrArg (fun x : Int × Int × Int => x.2.1) k119 :), ⟨(congrArg (fun x : Int × Int × Int => x.2.2) k119 :), trivial⟩⟩⟩) (fun h2 k120 => br k120 Cnd.dec (fun h4 k117 => ⟨(congrArg (fun x : Int × Int × Int => x.1) k117 :), ⟨(congrArg (fun x : Int × Int × Int => x.2.1) k117 :), ⟨(congrArg (fun x : Int × Int × Int => x.2.2) k117 :), trivial⟩⟩⟩) (fun h5 k118 => chk k118.2.2 Cnd.sl ⟨k118.1, k118.2.1, (Int.le_refl _)⟩ (fun h7 k116 => br k116 Cnd.eq (fun h8 k114 => ⟨(congrArg (fun x : Int × Int × Int => x.1) k114 :), ⟨(congrArg (fun x : Int × Int × Int => x.2.1) k114 :), ⟨(congrArg (fun x : Int × Int × Int => x.2.2) k114 :), trivial⟩⟩⟩) (fun h9 k115 => chk k115.2 Cnd.ix ⟨(by decide), k115.1⟩ (fun h11 k113 => wrapR.i64 (u8bN _ _) (br k113 Cnd.dec (fun h13 k108 => ⟨(congrArg (fun x : Int × Int × Int => x.1) k108 :), ⟨(congrArg (fun x : Int × Int × Int => x.2.1) k108 :), ⟨(congrArg (fun x : Int × Int × Int => x.2.2) k108 :), trivial⟩⟩⟩) (fun h14 k109 => br k109 Cnd.dec (fun h16 k106 => ⟨(congrArg (fun x : Int × Int × Int => x.1) k106 :), ⟨(congrArg (fun x : Int × Int × Int => x.2.1) k106 :), ⟨(congrArg (fun x : Int × Int × Int => x.2.2) k106 :), trivial⟩⟩⟩) (fun h17 k107 => br k107 Cnd.dec (fun h19 k104 => chk k104.2 Cnd.ix ⟨(by decide), k104.1⟩ (fun h21 k65 => br k65 Cnd.eq (fun h22 k63 => ⟨(congrArg (fun x : Int × Int × Int => x.1) k63 :), ⟨(congrArg (fun x : Int × Int × Int => x.2.1) k63 :), ⟨(congrArg (fun x : Int × Int × Int => x.2.2) k63 :), trivial⟩⟩⟩) (fun h23 k64 => wrapK.i64 k64 (fun h60 h61 k62 => chk k62.2.2 Cnd.sl ⟨(by decide), k62.1, k62.2.1⟩ (fun h26 k59 => Exists.elim k59 (fun I28 h56_ => Exists.elim h56_ (fun μ29 h56 => ⟨I28, μ29, ⟨((bAtN a.1 (Int.toNat (0 : Int) + (Int.toNat a.2))), (0 : Int), (subB (subB a.1 a.2 (a.1.size : Int)) (1 : Int) ((bAtN a.1 (Int.toNat (0 : Int) + (Int.toNat a.2))) + (1 : Int))), (Int.toNat (((bAtN a.1 (Int.toNat (0 : Int) + (Int.toNat a.2))) + (1 : Int)) - (1 : Int)) : Int), (0 : Int)), ⟨rfl, ⟨rfl, ⟨rfl, slK (RdB.sub (RdB.sub RdB.self h7) h26) (⟨rfl, ⟨rfl, h56.1⟩⟩)⟩⟩⟩⟩, fun y30 h58 => br (h56.2 y30 h58) Cnd.dec (fun h31 k54 => chk k54.2.2 Cnd.ix ⟨k54.1, k54.2.1⟩ (fun h33 k44 => wrapR.u64 (u8b _ _) (wrapK.i64 k44 (fun h38 h39 k40 => ⟨(y30.1, IntKind.u64.wrap ((BitVec.ofInt 64 (IntKind.u64.wrap (y30.2.1 * 256)) ||| BitVec.ofInt 64 (bAt y30.2.2.1 y30.2.2.2.2)).toNat : Int), y30.2.2.1, y30.2.2.2.1, (y30.2.2.2.2 + (1 : Int))), ⟨rfl, ⟨rfl, ⟨rfl, slK RdB.self (⟨rfl, ⟨rfl, k40⟩⟩)⟩⟩⟩⟩)))) (fun h32 k55 => wrapK.i64 k55 (fun h51 h52 k53 => wrapK.i64 k53 (fun h48 h49 k50 => ⟨(congrArg (fun x : Int × Int × Int => x.1) k50 :), ⟨(congrArg (fun x : Int × Int × Int => x.2.1) k50 :), ⟨(congrArg (fun x : Int × Int × Int => x.2.2) k50 :), trivial⟩⟩⟩)))⟩))))))) (fun h20 k105 => wrapK.i64 k105 (fun h101 h102 k103 => chk k103.2.2 Cnd.sl ⟨(by decide), k103.1, k103.2.1⟩ (fun h67 k100 => Exists.elim k100 (fun I69 h97_ => Exists.elim h97_ (fun μ70 h97 => ⟨I69, μ70, ⟨((bAtN a.1 (Int.toNat (0 : Int) + (Int.toNat a.2))), (0 : Int), (subB (subB a.1 a.2 (a.1.size : Int)) (1 : Int) ((bAtN a.1 (Int.toNat (0 : Int) + (Int.toNat a.2))) + (1 : Int))), (Int.toNat (((bAtN a.1 (Int.toNat (0 : Int) + (Int.toNat a.2))) + (1 : Int)) - (1 : Int)) : Int), (0 : Int)), ⟨rfl, ⟨rfl, ⟨rfl, slK (RdB.sub (RdB.sub RdB.self h7) h67) (⟨rfl, ⟨rfl, h97.1⟩⟩)⟩⟩⟩⟩, fun y71 h99 => br (h97.2 y71 h99) Cnd.dec (fun h72 k95 => chk k95.2.2 Cnd.ix ⟨k95.1, k95.2.1⟩ (fun h74 k85 => wrapR.u64 (u8b _ _) (wrapK.i64 k85 (fun h79 h80 k81 => ⟨(y71.1, IntKind.u64.wrap ((BitVec.ofInt 64 (IntKind.u64.wrap (y71.2.1 * 256)) ||| BitVec.ofInt 64 (bAt y71.2.2.1 y71.2.2.2.2)).toNat : Int), y71.2.2.1, y71.2.2.2.1, (y71.2.2.2.2 + (1 : Int))), ⟨rfl, ⟨rfl, ⟨rfl, slK RdB.self (⟨rfl, ⟨rfl, k81⟩⟩)⟩⟩⟩⟩)))) (fun h73 k96 => wrapK.i64 k96 (fun h92 h93 k94 => wrapK.i64 k94 (fun h89 h90 k91 => ⟨(congrArg (fun x : Int × Int × Int => x.1) k91 :), ⟨(congrArg (fun x : Int × Int × Int => x.2.1) k91 :), ⟨(congrArg (fun x : Int × Int × Int => x.2.2) k91 :), trivial⟩⟩⟩)))⟩)))))))))))))
theorem f18.eq (a : ByteArray × Int) : (f18.af a).gives f18.env (f18.args a) (f18.blks a) (f18.res a) (f18.blks' a) = f18.tree a := by kernel_rfl
end Go.Abs

-- interregnum/interregnumref01.Take
namespace Go.Abs
open Go
def f19.args (a : ByteArray × Int) : List D := [.str a.1, .int .i64 a.2]
def f19.blks (a : ByteArray × Int) : List (List D) := []
def f19.res (a : ByteArray × Int) : List D := [.int .u64 ((takeN a).1), .int .i64 ((takeN a).2.1), .int .i64 ((takeN a).2.2)]
def f19.blks' (a : ByteArray × Int) : List (List D) := []
def f19.C : Contract := FnC f19.args f19.blks (fun a => take_pre a) f19.res f19.blks'
end Go.Abs

/- interregnum/interregnumref01.Take -/
namespace Go.Abs
open Go
set_option linter.unusedVariables false
def f19.kills (a : ByteArray × Int) : List Hint := [.tell (Int × Int × Int) (fun x => ⟨[.str a.1, .int .i64 a.2, .dead, .dead, .dead, .dead, .dead, .int .i64 x.1, .int .u64 x.2.1, .int .i64 x.2.2, .dead, .dead, .dead, .dead, .dead, .dead, .dead, .dead, .dead, .dead, .dead, .dead, .dead, .dead, .dead, .dead, .dead, .dead, .dead, .dead, .dead, .dead, .dead, .dead, .dead, .dead, .dead, .dead, .dead, .dead, .dead, .dead, .dead, .dead, .dead, .dead, .dead, .dead, .dead, .dead, .dead, .dead, .dead, .dead, .dead, .dead, .dead, .dead, .dead, .dead, .dead, .dead, .dead], [], []⟩)]
def f19.cuts (a : ByteArray × Int) : List (Nat × Σ β : Type, β → Tm) := []
def f19.af (a : ByteArray × Int) : AF := AF.mk (.seq (.region [⟨(some 4), 0, .move, [.c (.int .u64 (0))], none⟩,
  ⟨(some 5), 1, .move, [.c (.int .i64 (0))], none⟩,
  ⟨(some 6), 2, .move, [.c (.int .i64 (0))], none⟩])
 (.seq (.seq (.region [⟨(some 11), 3, .move, [.t 1], none⟩,
  ⟨(some 12), 4, (.bin .lss), [.t 11, .c (.int .i64 (0))], none⟩,
  ⟨(some 13), 5, .move, [.t 12], none⟩,
  ⟨(some 14), 6, .move, [.t 1], (some (13, false))⟩,
  ⟨(some 15), 7, .move, [.t 0], (some (13, false))⟩,
  ⟨(some 16), 8, (.len true), [.t 15], (some (13, false))⟩,
  ⟨(some 17), 9, (.bin .gtr), [.t 14, .t 16], (some (13, false))⟩,
  ⟨(some 18), 10, .pick, [.t 13, .c (.bool true), .t 17], none⟩])
 (.cond (.t 18) (.seq (.region [⟨(some 4), 11, .move, [.c (.int .u64 (0))], none⟩,
  ⟨(some 5), 12, .move, [.c (.int .i64 (0))], none⟩,
  ⟨(some 6), 13, .move, [.c (.int .i64 (1))], none⟩])
 (.ret)) (.skip)))
 (.seq (.seq (.region [⟨(some 19), 14, .move, [.t 1], none⟩,
  ⟨(some 20), 15, .move, [.t 0], none⟩,
  ⟨(some 21), 16, (.len true), [.t 20], none⟩,
  ⟨(some 22), 17, (.bin .eql), [.t 19, .t 21], none⟩])
 (.cond (.t 22) (.seq (.region [⟨(some 4), 18, .move, [.c (.int .u64 (0))], none⟩,
  ⟨(some 5), 19, .move, [.c (.int .i64 (0))], none⟩,
  ⟨(some 6), 20, .move, [.c (.int .i64 (2))], none⟩])
 (.ret)) (.skip)))
 (.seq (.region [⟨(some 23), 21, .move, [.t 0], none⟩,
  ⟨(some 24), 22, .move, [.t 1], none⟩,
  ⟨(some 25), 23, .indexStr, [.t 23, .t 24], none⟩,
  ⟨(some 26), 24, (.conv (.int .i64)), [.t 25], none⟩,
  ⟨(some 7), 25, .move, [.t 26], none⟩])
 (.seq (.seq (.region [⟨(some 27), 26, .move, [.t 7], none⟩,
  ⟨(some 28), 27, (.bin .gtr), [.t 27, .c (.int .i64 (8))], none⟩])
 (.cond (.t 28) (.seq (.region [⟨(some 4), 28, .move, [.c (.int .u64 (0))], none⟩,
  ⟨(some 5), 29, .move, [.c (.int .i64 (0))], none⟩,
  ⟨(some 6), 30, .move, [.c (.int .i64 (3))], none⟩])
 (.ret)) (.skip)))
 (.seq (.seq (.region [⟨(some 29), 31, .move, [.t 0], none⟩,
  ⟨(some 30), 32, (.len true), [.t 29], none⟩,
  ⟨(some 31), 33, .move, [.t 1], none⟩,
  ⟨(some 32), 34, (.bin .sub), [.t 30, .t 31], none⟩,
  ⟨(some 33), 35, (.bin .sub), [.t 32, .c (.int .i64 (1))], none⟩,
  ⟨(some 34), 36, .move, [.t 7], none⟩,
  ⟨(some 35), 37, (.bin .lss), [.t 33, .t 34], none⟩])
 (.cond (.t 35) (.seq (.region [⟨(some 4), 38, .move, [.c (.int .u64 (0))], none⟩,
  ⟨(some 5), 39, .move, [.c (.int .i64 (0))], none⟩,
  ⟨(some 6), 40, .move, [.c (.int .i64 (2))], none⟩])
 (.ret)) (.skip)))
 (.seq (.region [⟨(some 8), 41, .move, [.c (.int .u64 (0))], none⟩])
 (.seq (.seq (.region [⟨(some 9), 42, .move, [.c (.int .i64 (0))], none⟩])
 (.block 0 (.loopT (Int × Int × Int) (fun x => ⟨[.str a.1, .int .i64 a.2, .dead, .dead, .dead, .dead, .dead, .int .i64 x.1, .int .u64 x.2.1, .int .i64 x.2.2, .dead, .dead, .dead, .dead, .dead, .dead, .dead, .dead, .dead, .dead, .dead, .dead, .dead, .dead, .dead, .dead, .dead, .dead, .dead, .dead, .dead, .dead, .dead, .dead, .dead, .dead, .dead, .dead, .dead, .dead, .dead, .dead, .dead, .dead, .dead, .dead, .dead, .dead, .dead, .dead, .dead, .dead, .dead, .dead, .dead, .dead, .dead, .dead, .dead, .dead, .dead, .dead, .dead], [], []⟩) 43 71 (.seq (.seq (.region [⟨(some 36), 43, .move, [.t 9], none⟩,
  ⟨(some 37), 44, .move, [.t 7], none⟩,
  ⟨(some 38), 45, (.bin .lss), [.t 36, .t 37], none⟩])
 (.cond (.t 38) (.skip) (.exit 0)))
 (.seq (.block 1 (.seq (.region [⟨(some 41), 46, .move, [.t 0], none⟩,
  ⟨(some 42), 47, .move, [.t 1], none⟩,
  ⟨(some 43), 48, (.bin .add), [.t 42, .c (.int .i64 (1))], none⟩,
  ⟨(some 44), 49, .move, [.t 9], none⟩,
  ⟨(some 45), 50, (.bin .add), [.t 43, .t 44], none⟩,
  ⟨(some 46), 51, .indexStr, [.t 41, .t 45], none⟩,
  ⟨(some 10), 52, .move, [.t 46], none⟩])
 (.seq (.seq (.region [⟨(some 47), 53, .move, [.t 9], none⟩,
  ⟨(some 48), 54, (.bin .eql), [.t 47, .c (.int .i64 (0))], none⟩,
  ⟨(some 49), 55, .move, [.t 48], none⟩,
  ⟨(some 50), 56, .move, [.t 10], (some (49, true))⟩,
  ⟨(some 51), 57, (.bin .eql), [.t 50, .c (.int .u8 (0))], (some (49, true))⟩,
  ⟨(some 52), 58, .pick, [.t 49, .t 51, .c (.bool false)], none⟩])
 (.cond (.t 52) (.seq (.region [⟨(some 4), 59, .move, [.c (.int .u64 (0))], none⟩,
  ⟨(some 5), 60, .move, [.c (.int .i64 (0))], none⟩,
  ⟨(some 6), 61, .move, [.c (.int .i64 (3))], none⟩])
 (.ret)) (.skip)))
 (.region [⟨(some 53), 62, .move, [.t 8], none⟩,
  ⟨(some 54), 63, (.bin .mul), [.t 53, .c (.int .u64 (256))], none⟩,
  ⟨(some 55), 64, .move, [.t 10], none⟩,
  ⟨(some 56), 65, (.conv (.int .u64)), [.t 55], none⟩,
  ⟨(some 57), 66, (.bin .add), [.t 54, .t 56], none⟩,
  ⟨(some 8), 67, .move, [.t 57], none⟩]))))
 (.region [⟨(some 39), 68, .move, [.t 9], none⟩,
  ⟨(some 40), 69, (.bin .add), [.t 39, .c (.int .i64 (1))], none⟩,
  ⟨(some 9), 70, .move, [.t 40], none⟩]))))))
 (.seq (.region [⟨(some 58), 71, .move, [.t 8], none⟩,
  ⟨(some 59), 72, .move, [.t 1], none⟩,
  ⟨(some 60), 73, (.bin .add), [.t 59, .c (.int .i64 (1))], none⟩,
  ⟨(some 61), 74, .move, [.t 7], none⟩,
  ⟨(some 62), 75, (.bin .add), [.t 60, .t 61], none⟩,
  ⟨(some 4), 76, .move, [.t 58], none⟩,
  ⟨(some 5), 77, .move, [.t 62], none⟩,
  ⟨(some 6), 78, .move, [.c (.int .i64 (0))], none⟩])
 (.ret))))))))))
  [.tmp 4, .tmp 5, .tmp 6] 0 61
def f19.env : Env := []
def f19.tree (a : ByteArray × Int) : Prop := Br (decide (a.2 < (0 : Int))) (((0 : Int) = ((takeN a).1)) ∧ ((0 : Int) = ((takeN a).2.1)) ∧ ((1 : Int) = ((takeN a).2.2)) ∧ True) (Br (decide ((a.1.size : Int) < a.2)) (((0 : Int) = ((takeN a).1)) ∧ ((0 : Int) = ((takeN a).2.1)) ∧ ((1 : Int) = ((takeN a).2.2)) ∧ True) (Br (a.2 == (a.1.size : Int)) (((0 : Int) = ((takeN a).1)) ∧ ((0 : Int) = ((takeN a).2.1)) ∧ ((2 : Int) = ((takeN a).2.2)) ∧ True) (Br (decide ((0 : Int) ≤ a.2) && decide (a.2 < (a.1.size : Int))) (Let (IntKind.i64.wrap (bAt a.1 a.2)) (fun v11 : Int => Br (decide ((8 : Int) < v11)) (((0 : Int) = ((takeN a).1)) ∧ ((0 : Int) = ((takeN a).2.1)) ∧ ((3 : Int) = ((takeN a).2.2)) ∧ True) (Let (IntKind.i64.wrap ((a.1.size : Int) - a.2)) (fun v15 : Int => Let (IntKind.i64.wrap (v15 - (1 : Int))) (fun v16 : Int => Br (decide (v16 < v11)) (((0 : Int) = ((takeN a).1)) ∧ ((0 : Int) = ((takeN a).2.1)) ∧ ((2 : Int) = ((takeN a).2.2)) ∧ True) (∃ (I21 : (Int × Int × Int) → Prop) (μ22 : (Int × Int × Int) → Nat), (∃ x20 : Int × Int × Int, (a.1 = a.1) ∧ (a.2 = a.2) ∧ (v11 = x20.1) ∧ ((0 : Int) = x20.2.1) ∧ ((0 : Int) = x20.2.2) ∧ I21 x20) ∧ ∀ y23 : Int × Int × Int, I21 y23 → (Br (decide (y23.2.2 < y23.1)) (Let (IntKind.i64.wrap (a.2 + (1 : Int))) (fun v26 : Int => Let (IntKind.i64.wrap (v26 + y23.2.2)) (fun v27 : Int => Br (decide ((0 : Int) ≤ v27) && decide (v27 < (a.1.size : Int))) (Br (y23.2.2 == (0 : Int)) (Br ((bAt a.1 v27) == (0 : Int)) (((0 : Int) = ((takeN a).1)) ∧ ((0 : Int) = ((takeN a).2.1)) ∧ ((3 : Int) = ((takeN a).2.2)) ∧ True) (Let (IntKind.u64.wrap (y23.2.1 * (256 : Int))) (fun v34 : Int => Let (IntKind.u64.wrap (bAt a.1 v27)) (fun v35 : Int => Let (IntKind.u64.wrap (v34 + v35)) (fun v36 : Int => Let (IntKind.i64.wrap (y23.2.2 + (1 : Int))) (fun v37 : Int => ∃ x38 : Int × Int × Int, (a.1 = a.1) ∧ (a.2 = a.2) ∧ (y23.1 = x38.1) ∧ (v36 = x38.2.1) ∧ (v37 = x38.2.2) ∧ I21 x38 ∧ μ22 x38 < μ22 y23)))))) (Let (IntKind.u64.wrap (y23.2.1 * (256 : Int))) (fun v54 : Int => Let (IntKind.u64.wrap (bAt a.1 v27)) (fun v55 : Int => Let (IntKind.u64.wrap (v54 + v55)) (fun v56 : Int => Let (IntKind.i64.wrap (y23.2.2 + (1 : Int))) (fun v57 : Int => ∃ x58 : Int × Int × Int, (a.1 = a.1) ∧ (a.2 = a.2) ∧ (y23.1 = x58.1) ∧ (v56 = x58.2.1) ∧ (v57 = x58.2.2) ∧ I21 x58 ∧ μ22 x58 < μ22 y23)))))) False))) (Let (IntKind.i64.wrap (a.2 + (1 : Int))) (fun v81 : Int => Let (IntKind.i64.wrap (v81 + y23.1)) (fun v82 : Int => (y23.2.1 = ((takeN a).1)) ∧ (v82 = ((takeN a).2.1)) ∧ ((0 : Int) = ((takeN a).2.2)) ∧ True)))))))))) False)))
def f19.vc (a : ByteArray × Int) : Prop := ((a.2 < (0 : Int) → (((0 : Int), (0 : Int), (1 : Int)) = takeN a)) ∧ (¬ (a.2 < (0 : Int)) → (((a.1.size : Int) < a.2 → (((0 : Int), (0 : Int), (1 : Int)) = takeN a)) ∧ (¬ ((a.1.size : Int) < a.2) → ((a.2 = (a.1.size : Int) → (((0 : Int), (0 : Int), (2 : Int)) = takeN a)) ∧ (¬ (a.2 = (a.1.size : Int)) → ((0 : Int) ≤ a.2 ∧ a.2 < (a.1.size : Int) ∧ (((8 : Int) < (bAt a.1 a.2) → (((0 : Int), (0 : Int), (3 : Int)) = takeN a)) ∧ (¬ ((8 : Int) < (bAt a.1 a.2)) → (-9223372036854775808 ≤ ((a.1.size : Int) - a.2) ∧ ((a.1.size : Int) - a.2) ≤ 9223372036854775807 ∧ (-9223372036854775808 ≤ (((a.1.size : Int) - a.2) - (1 : Int)) ∧ (((a.1.size : Int) - a.2) - (1 : Int)) ≤ 9223372036854775807 ∧ (((((a.1.size : Int) - a.2) - (1 : Int)) < (bAt a.1 a.2) → (((0 : Int), (0 : Int), (2 : Int)) = takeN a)) ∧ (¬ ((((a.1.size : Int) - a.2) - (1 : Int)) < (bAt a.1 a.2)) → (∃ (I21 : (Int × Int × Int) → Prop) (μ22 : (Int × Int × Int) → Nat), I21 ((bAt a.1 a.2), (0 : Int), (0 : Int)) ∧ ∀ y23 : Int × Int × Int, I21 y23 → ((y23.2.2 < y23.1 → (-9223372036854775808 ≤ (a.2 + (1 : Int)) ∧ (a.2 + (1 : Int)) ≤ 9223372036854775807 ∧ (-9223372036854775808 ≤ ((a.2 + (1 : Int)) + y23.2.2) ∧ ((a.2 + (1 : Int)) + y23.2.2) ≤ 9223372036854775807 ∧ ((0 : Int) ≤ ((a.2 + (1 : Int)) + y23.2.2) ∧ ((a.2 + (1 : Int)) + y23.2.2) < (a.1.size : Int) ∧ ((y23.2.2 = (0 : Int) → (((bAt a.1 ((a.2 + (1 : Int)) + y23.2.2)) = (0 : Int) → (((0 : Int), (0 : Int), (3 : Int)) = takeN a)) ∧ (¬ ((bAt a.1 ((a.2 + (1 : Int)) + y23.2.2)) = (0 : Int)) → (0 ≤ (y23.2.1 * (256 : Int)) ∧ (y23.2.1 * (256 : Int)) ≤ 18446744073709551615 ∧ (0 ≤ ((y23.2.1 * (256 : Int)) + (bAt a.1 ((a.2 + (1 : Int)) + y23.2.2))) ∧ ((y23.2.1 * (256 : Int)) + (bAt a.1 ((a.2 + (1 : Int)) + y23.2.2))) ≤ 18446744073709551615 ∧ (-9223372036854775808 ≤ (y23.2.2 + (1 : Int)) ∧ (y23.2.2 + (1 : Int)) ≤ 9223372036854775807 ∧ (I21 (y23.1, ((y23.2.1 * (256 : Int)) + (bAt a.1 ((a.2 + (1 : Int)) + y23.2.2))), (y23.2.2 + (1 : Int))) ∧ μ22 (y23.1, ((y23.2.1 * (256 : Int)) + (bAt a.1 ((a.2 + (1 : Int)) + y23.2.2))), (y23.2.2 + (1 : Int))) < μ22 y23))))))) ∧ (¬ (y23.2.2 = (0 : Int)) → (0 ≤ (y23.2.1 * (256 : Int)) ∧ (y23.2.1 * (256 : Int)) ≤ 18446744073709551615 ∧ (0 ≤ ((y23.2.1 * (256 : Int)) + (bAt a.1 ((a.2 + (1 : Int)) + y23.2.2))) ∧ ((y23.2.1 * (256 : Int)) + (bAt a.1 ((a.2 + (1 : Int)) + y23.2.2))) ≤ 18446744073709551615 ∧ (-9223372036854775808 ≤ (y23.2.2 + (1 : Int)) ∧ (y23.2.2 + (1 : Int)) ≤ 9223372036854775807 ∧ (I21 (y23.1, ((y23.2.1 * (256 : Int)) + (bAt a.1 ((a.2 + (1 : Int)) + y23.2.2))), (y23.2.2 + (1 : Int))) ∧ μ22 (y23.1, ((y23.2.1 * (256 : Int)) + (bAt a.1 ((a.2 + (1 : Int)) + y23.2.2))), (y23.2.2 + (1 : Int))) < μ22 y23)))))))))) ∧ (¬ (y23.2.2 < y23.1) → (-9223372036854775808 ≤ (a.2 + (1 : Int)) ∧ (a.2 + (1 : Int)) ≤ 9223372036854775807 ∧ (-9223372036854775808 ≤ ((a.2 + (1 : Int)) + y23.1) ∧ ((a.2 + (1 : Int)) + y23.1) ≤ 9223372036854775807 ∧ ((y23.2.1, ((a.2 + (1 : Int)) + y23.1), (0 : Int)) = takeN a)))))))))))))))))))
set_option maxRecDepth 100000 in
set_option maxHeartbeats 2000000 in
theorem f19.of (a : ByteArray × Int) (h : f19.vc a) : f19.tree a := br h Cnd.dec (fun h1 k113 => ⟨(congrArg (fun x : Int × Int × Int => x.1) k113 :), ⟨(congrArg (fun x : Int × Int × Int => x.2.1) k113 :), ⟨(congrArg (fun x : Int × Int × Int => x.2.2) k113 :), trivial⟩⟩⟩) (fun h2 k114 => br k114 Cnd.dec (fun h4 k111 => ⟨(congrArg (fun x : Int × Int × Int => x.1) k111 :), ⟨(congrArg (fun x : Int × Int × Int => x.2.1) k111 :), ⟨(congrArg (fun x : Int × Int × Int => x.2.2) k111 :), trivial⟩⟩⟩) (fun h5 k112 => br k112 Cnd.eq (fun h7 k109 => ⟨(congrArg (fun x : Int × Int × Int => x.1) k109 :), ⟨(congrArg (fun x : Int × Int × Int => x.2.1) k109 :), ⟨(congrArg (fun x : Int × Int × Int => x.2.2) k109 :), trivial⟩⟩⟩) (fun h8 k110 => chk k110.2.2 Cnd.ix ⟨k110.1, k110.2.1⟩ (fun h10 k108 => wrapR.i64 (u8b _ _) (br k108 Cnd.dec (fun h12 k103 => ⟨(congrArg (fun x : Int × Int × Int => x.1) k103 :), ⟨(congrArg (fun x : Int × Int × Int => x.2.1) k103 :), ⟨(congrArg (fun x : Int × Int × Int => x.2.2) k103 :), trivial⟩⟩⟩) (fun h13 k104 => wrapK.i64 k104 (fun h100 h101 k102 => wrapK.i64 k102 (fun h97 h98 k99 => br k99 Cnd.dec (fun h17 k95 => ⟨(congrArg (fun x : Int × Int × Int => x.1) k95 :), ⟨(congrArg (fun x : Int × Int × Int => x.2.1) k95 :), ⟨(congrArg (fun x : Int × Int × Int => x.2.2) k95 :), trivial⟩⟩⟩) (fun h18 k96 => Exists.elim k96 (fun I21 h92_ => Exists.elim h92_ (fun μ22 h92 => ⟨I21, μ22, ⟨((bAt a.1 a.2), (0 : Int), (0 : Int)), ⟨rfl, ⟨rfl, ⟨rfl, ⟨rfl, ⟨rfl, h92.1⟩⟩⟩⟩⟩⟩, fun y23 h94 => br (h92.2 y23 h94) Cnd.dec (fun h24 k90 => wrapK.i64 k90 (fun h78 h79 k80 => wrapK.i64 k80 (fun h75 h76 k77 => chk k77.2.2 Cnd.ix ⟨k77.1, k77.2.1⟩ (fun h28 k74 => br k74 Cnd.eq (fun h29 k72 => br k72 Cnd.eq (fun h31 k52 => ⟨(congrArg (fun x : Int × Int × Int => x.1) k52 :), ⟨(congrArg (fun x : Int × Int × Int => x.2.1) k52 :), ⟨(congrArg (fun x : Int × Int × Int => x.2.2) k52 :), trivial⟩⟩⟩) (fun h32 k53 => wrapK.u64 k53 (fun h49 h50 k51 => wrapR.u64 (u8b _ _) (wrapK.u64 k51 (fun h43 h44 k45 => wrapK.i64 k45 (fun h40 h41 k42 => ⟨(y23.1, ((y23.2.1 * (256 : Int)) + (bAt a.1 ((a.2 + (1 : Int)) + y23.2.2))), (y23.2.2 + (1 : Int))), ⟨rfl, ⟨rfl, ⟨rfl, ⟨rfl, ⟨rfl, k42⟩⟩⟩⟩⟩⟩)))))) (fun h30 k73 => wrapK.u64 k73 (fun h69 h70 k71 => wrapR.u64 (u8b _ _) (wrapK.u64 k71 (fun h63 h64 k65 => wrapK.i64 k65 (fun h60 h61 k62 => ⟨(y23.1, ((y23.2.1 * (256 : Int)) + (bAt a.1 ((a.2 + (1 : Int)) + y23.2.2))), (y23.2.2 + (1 : Int))), ⟨rfl, ⟨rfl, ⟨rfl, ⟨rfl, ⟨rfl, k62⟩⟩⟩⟩⟩⟩))))))))) (fun h25 k91 => wrapK.i64 k91 (fun h87 h88 k89 => wrapK.i64 k89 (fun h84 h85 k86 => ⟨(congrArg (fun x : Int × Int × Int => x.1) k86 :), ⟨(congrArg (fun x : Int × Int × Int => x.2.1) k86 :), ⟨(congrArg (fun x : Int × Int × Int => x.2.2) k86 :), trivial⟩⟩⟩)))⟩)))))))))))
theorem f19.eq (a : ByteArray × Int) : (f19.af a).gives f19.env (f19.args a) (f19.blks a) (f19.res a) (f19.blks' a) = f19.tree a := by kernel_rfl
end Go.Abs

-- interregnum/pack.TakeText
namespace Go.Abs
open Go
def f20.args (a : ByteArray × Int × Int) : List D := [.slice .ro 1 a.1.size (gstr a.1), .int .i64 a.2.1, .int .i64 a.2.2]
def f20.blks (a : ByteArray × Int × Int) : List (List D) := []
def f20.res (a : ByteArray × Int × Int) : List D := [.str ((takeText a).1), .int .i64 ((takeText a).2.1), .int .i64 ((takeText a).2.2)]
def f20.blks' (a : ByteArray × Int × Int) : List (List D) := []
def f20.C : Contract := FnC f20.args f20.blks (fun a => takeText_pre a) f20.res f20.blks'
end Go.Abs

/- interregnum/pack.TakeText -/
namespace Go.Abs
open Go
set_option linter.unusedVariables false
def f20.kills (a : ByteArray × Int × Int) : List Hint := []
def f20.cuts (a : ByteArray × Int × Int) : List (Nat × Σ β : Type, β → Tm) := []
def f20.af (a : ByteArray × Int × Int) : AF := AF.mk (.seq (.region [⟨(some 6), 0, .move, [.c (.str ByteArray.empty)], none⟩,
  ⟨(some 7), 1, .move, [.c (.int .i64 (0))], none⟩,
  ⟨(some 8), 2, .move, [.c (.int .i64 (0))], none⟩])
 (.seq (.seq (.region [⟨(some 12), 3, .move, [.t 2], none⟩,
  ⟨(some 13), 4, (.bin .lss), [.t 12, .c (.int .i64 (0))], none⟩])
 (.cond (.t 13) (.seq (.region [⟨(some 6), 5, .move, [.c (.str ByteArray.empty)], none⟩,
  ⟨(some 7), 6, .move, [.c (.int .i64 (0))], none⟩,
  ⟨(some 8), 7, .move, [.c (.int .i64 (1))], none⟩])
 (.ret)) (.skip)))
 (.seq (.region [⟨(some 15), 8, .move, [.t 0], none⟩,
  ⟨(some 16), 9, .move, [.t 1], none⟩,
  ⟨(some 17), 10, (.call false 18), [.t 15, .t 16], none⟩,
  ⟨(some 14), 14, .move, [.t 17], none⟩,
  ⟨(some 18), 15, (.extract 0), [.t 14], none⟩,
  ⟨(some 19), 16, (.extract 1), [.t 14], none⟩,
  ⟨(some 20), 17, (.extract 2), [.t 14], none⟩,
  ⟨(some 9), 18, .move, [.t 18], none⟩,
  ⟨(some 10), 19, .move, [.t 19], none⟩,
  ⟨(some 11), 20, .move, [.t 20], none⟩])
 (.seq (.block 0 (.seq (.region [⟨(some 22), 21, .move, [.t 11], none⟩,
  ⟨(some 23), 22, (.bin .neq), [.t 22, .c (.int .i64 (0))], none⟩,
  ⟨(some 21), 23, .move, [.t 23], none⟩])
 (.cond (.t 21) (.seq (.region [⟨(some 24), 24, .move, [.t 11], none⟩,
  ⟨(some 6), 25, .move, [.c (.str ByteArray.empty)], none⟩,
  ⟨(some 7), 26, .move, [.c (.int .i64 (0))], none⟩,
  ⟨(some 8), 27, .move, [.t 24], none⟩])
 (.ret)) (.seq (.region [⟨(some 26), 28, .move, [.t 9], none⟩,
  ⟨(some 27), 29, .move, [.t 2], none⟩,
  ⟨(some 28), 30, (.conv (.int .u64)), [.t 27], none⟩,
  ⟨(some 29), 31, (.bin .gtr), [.t 26, .t 28], none⟩,
  ⟨(some 25), 32, .move, [.t 29], none⟩])
 (.cond (.t 25) (.seq (.region [⟨(some 6), 33, .move, [.c (.str ByteArray.empty)], none⟩,
  ⟨(some 7), 34, .move, [.c (.int .i64 (0))], none⟩,
  ⟨(some 8), 35, .move, [.c (.int .i64 (4))], none⟩])
 (.ret)) (.seq (.region [⟨(some 31), 36, .move, [.t 9], none⟩,
  ⟨(some 32), 37, .move, [.t 0], none⟩,
  ⟨(some 33), 38, (.len false), [.t 32], none⟩,
  ⟨(some 34), 39, .move, [.t 10], none⟩,
  ⟨(some 35), 40, (.bin .sub), [.t 33, .t 34], none⟩,
  ⟨(some 36), 41, (.conv (.int .u64)), [.t 35], none⟩,
  ⟨(some 37), 42, (.bin .gtr), [.t 31, .t 36], none⟩,
  ⟨(some 30), 43, .move, [.t 37], none⟩])
 (.cond (.t 30) (.seq (.region [⟨(some 6), 44, .move, [.c (.str ByteArray.empty)], none⟩,
  ⟨(some 7), 45, .move, [.c (.int .i64 (0))], none⟩,
  ⟨(some 8), 46, .move, [.c (.int .i64 (2))], none⟩])
 (.ret)) (.skip))))))))
 (.seq (.region [⟨(some 38), 47, .move, [.t 0], none⟩,
  ⟨(some 39), 48, .move, [.t 10], none⟩,
  ⟨(some 40), 49, .move, [.t 10], none⟩,
  ⟨(some 41), 50, .move, [.t 9], none⟩,
  ⟨(some 42), 51, (.conv (.int .i64)), [.t 41], none⟩,
  ⟨(some 43), 52, (.bin .add), [.t 40, .t 42], none⟩,
  ⟨(some 44), 53, (.sliceSl 1 true true false), [.t 38, .t 39, .t 43], none⟩,
  ⟨(some 45), 54, (.conv .b2s), [.t 44], none⟩,
  ⟨(some 46), 55, .move, [.t 10], none⟩,
  ⟨(some 47), 56, .move, [.t 9], none⟩,
  ⟨(some 48), 57, (.conv (.int .i64)), [.t 47], none⟩,
  ⟨(some 49), 58, (.bin .add), [.t 46, .t 48], none⟩,
  ⟨(some 6), 59, .move, [.t 45], none⟩,
  ⟨(some 7), 60, .move, [.t 49], none⟩,
  ⟨(some 8), 61, .move, [.c (.int .i64 (0))], none⟩])
 (.ret))))))
  [.tmp 6, .tmp 7, .tmp 8] 0 47
def f20.env : Env := [(18, f18.C)]
def f20.tree (a : ByteArray × Int × Int) : Prop := Br (decide (a.2.2 < (0 : Int))) ((ByteArray.empty = ((takeText a).1)) ∧ ((0 : Int) = ((takeText a).2.1)) ∧ ((1 : Int) = ((takeText a).2.2)) ∧ True) (∃ c4 : ByteArray × Int, (a.1.size = c4.1.size) ∧ (∀ i, i < c4.1.size → DEqs ((gstr a.1) i) ((gstr c4.1) i)) ∧ (a.2.1 = c4.2) ∧ (take_pre c4) ∧ Br (((takeN c4).2.2) != (0 : Int)) ((ByteArray.empty = ((takeText a).1)) ∧ ((0 : Int) = ((takeText a).2.1)) ∧ (((takeN c4).2.2) = ((takeText a).2.2)) ∧ True) (Let (IntKind.u64.wrap a.2.2) (fun v8 : Int => Br (decide (v8 < ((takeN c4).1))) ((ByteArray.empty = ((takeText a).1)) ∧ ((0 : Int) = ((takeText a).2.1)) ∧ ((4 : Int) = ((takeText a).2.2)) ∧ True) (Let (IntKind.i64.wrap ((a.1.size : Int) - ((takeN c4).2.1))) (fun v12 : Int => Let (IntKind.u64.wrap v12) (fun v13 : Int => Br (decide (v13 < ((takeN c4).1))) ((ByteArray.empty = ((takeText a).1)) ∧ ((0 : Int) = ((takeText a).2.1)) ∧ ((2 : Int) = ((takeText a).2.2)) ∧ True) (Let (IntKind.i64.wrap ((takeN c4).1)) (fun v17 : Int => Let (IntKind.i64.wrap (((takeN c4).2.1) + v17)) (fun v18 : Int => Br (decide ((0 : Int) ≤ ((takeN c4).2.1)) && decide (((takeN c4).2.1) ≤ v18) && decide (v18 ≤ (a.1.size : Int)) && (v18 == v18)) (Bytes (Int.toNat (v18 - ((takeN c4).2.1))) (gsub (gstr a.1) (Int.toNat ((takeN c4).2.1))) ∧ Let (textOf (Int.toNat (v18 - ((takeN c4).2.1))) (gsub (gstr a.1) (Int.toNat ((takeN c4).2.1)))) (fun v20 : ByteArray => Let (IntKind.i64.wrap ((takeN c4).1)) (fun v21 : Int => Let (IntKind.i64.wrap (((takeN c4).2.1) + v21)) (fun v22 : Int => (v20 = ((takeText a).1)) ∧ (v22 = ((takeText a).2.1)) ∧ ((0 : Int) = ((takeText a).2.2)) ∧ True)))) False)))))))))
def f20.vc (a : ByteArray × Int × Int) : Prop := ((a.2.2 < (0 : Int) → ((ByteArray.empty, (0 : Int), (1 : Int)) = takeText a)) ∧ (¬ (a.2.2 < (0 : Int)) → (take_pre (a.1, a.2.1) ∧ ((¬ ((takeN (a.1, a.2.1)).2.2) = (0 : Int) → ((ByteArray.empty, (0 : Int), (takeN (a.1, a.2.1)).2.2) = takeText a)) ∧ (¬ (¬ ((takeN (a.1, a.2.1)).2.2) = (0 : Int)) → (0 ≤ a.2.2 ∧ a.2.2 ≤ 18446744073709551615 ∧ (((a.2.2) < ((takeN (a.1, a.2.1)).1) → ((ByteArray.empty, (0 : Int), (4 : Int)) = takeText a)) ∧ (¬ ((a.2.2) < ((takeN (a.1, a.2.1)).1)) → (-9223372036854775808 ≤ ((a.1.size : Int) - ((takeN (a.1, a.2.1)).2.1)) ∧ ((a.1.size : Int) - ((takeN (a.1, a.2.1)).2.1)) ≤ 9223372036854775807 ∧ (0 ≤ ((a.1.size : Int) - ((takeN (a.1, a.2.1)).2.1)) ∧ ((a.1.size : Int) - ((takeN (a.1, a.2.1)).2.1)) ≤ 18446744073709551615 ∧ ((((a.1.size : Int) - ((takeN (a.1, a.2.1)).2.1)) < ((takeN (a.1, a.2.1)).1) → ((ByteArray.empty, (0 : Int), (2 : Int)) = takeText a)) ∧ (¬ (((a.1.size : Int) - ((takeN (a.1, a.2.1)).2.1)) < ((takeN (a.1, a.2.1)).1)) → (-9223372036854775808 ≤ ((takeN (a.1, a.2.1)).1) ∧ ((takeN (a.1, a.2.1)).1) ≤ 9223372036854775807 ∧ (-9223372036854775808 ≤ (((takeN (a.1, a.2.1)).2.1) + ((takeN (a.1, a.2.1)).1)) ∧ (((takeN (a.1, a.2.1)).2.1) + ((takeN (a.1, a.2.1)).1)) ≤ 9223372036854775807 ∧ ((0 : Int) ≤ ((takeN (a.1, a.2.1)).2.1) ∧ ((takeN (a.1, a.2.1)).2.1) ≤ (((takeN (a.1, a.2.1)).2.1) + ((takeN (a.1, a.2.1)).1)) ∧ (((takeN (a.1, a.2.1)).2.1) + ((takeN (a.1, a.2.1)).1)) ≤ (a.1.size : Int) ∧ (-9223372036854775808 ≤ ((takeN (a.1, a.2.1)).1) ∧ ((takeN (a.1, a.2.1)).1) ≤ 9223372036854775807 ∧ (-9223372036854775808 ≤ (((takeN (a.1, a.2.1)).2.1) + ((takeN (a.1, a.2.1)).1)) ∧ (((takeN (a.1, a.2.1)).2.1) + ((takeN (a.1, a.2.1)).1)) ≤ 9223372036854775807 ∧ (((subB a.1 ((takeN (a.1, a.2.1)).2.1) (((takeN (a.1, a.2.1)).2.1) + ((takeN (a.1, a.2.1)).1))), (((takeN (a.1, a.2.1)).2.1) + ((takeN (a.1, a.2.1)).1)), (0 : Int)) = takeText a))))))))))))))))))
set_option maxRecDepth 100000 in
set_option maxHeartbeats 2000000 in
theorem f20.of (a : ByteArray × Int × Int) (h : f20.vc a) : f20.tree a := br h Cnd.dec (fun h1 k53 => ⟨(congrArg (fun x : ByteArray × Int × Int => x.1) k53 :), ⟨(congrArg (fun x : ByteArray × Int × Int => x.2.1) k53 :), ⟨(congrArg (fun x : ByteArray × Int × Int => x.2.2) k53 :), trivial⟩⟩⟩) (fun h2 k54 => ⟨(a.1, a.2.1), slK RdB.self (⟨rfl, ⟨k54.1, br k54.2 Cnd.ne (fun h5 k50 => ⟨(congrArg (fun x : ByteArray × Int × Int => x.1) k50 :), ⟨(congrArg (fun x : ByteArray × Int × Int => x.2.1) k50 :), ⟨(congrArg (fun x : ByteArray × Int × Int => x.2.2) k50 :), trivial⟩⟩⟩) (fun h6 k51 => wrapK.u64 k51 (fun h47 h48 k49 => br k49 Cnd.dec (fun h9 k45 => ⟨(congrArg (fun x : ByteArray × Int × Int => x.1) k45 :), ⟨(congrArg (fun x : ByteArray × Int × Int => x.2.1) k45 :), ⟨(congrArg (fun x : ByteArray × Int × Int => x.2.2) k45 :), trivial⟩⟩⟩) (fun h10 k46 => wrapK.i64 k46 (fun h42 h43 k44 => wrapK.u64 k44 (fun h39 h40 k41 => br k41 Cnd.dec (fun h14 k37 => ⟨(congrArg (fun x : ByteArray × Int × Int => x.1) k37 :), ⟨(congrArg (fun x : ByteArray × Int × Int => x.2.1) k37 :), ⟨(congrArg (fun x : ByteArray × Int × Int => x.2.2) k37 :), trivial⟩⟩⟩) (fun h15 k38 => wrapK.i64 k38 (fun h34 h35 k36 => wrapK.i64 k36 (fun h31 h32 k33 => chk k33.2.2.2 Cnd.sl ⟨k33.1, k33.2.1, k33.2.2.1⟩ (fun h19 k30 => b2s k30 (RdB.sub RdB.self h19) (fun h => wrapK.i64 h (fun h27 h28 k29 => wrapK.i64 k29 (fun h24 h25 k26 => ⟨(congrArg (fun x : ByteArray × Int × Int => x.1) k26 :), ⟨(congrArg (fun x : ByteArray × Int × Int => x.2.1) k26 :), ⟨(congrArg (fun x : ByteArray × Int × Int => x.2.2) k26 :), trivial⟩⟩⟩))))))))))))⟩⟩)⟩)
theorem f20.eq (a : ByteArray × Int × Int) : (f20.af a).gives f20.env (f20.args a) (f20.blks a) (f20.res a) (f20.blks' a) = f20.tree a := by kernel_rfl
end Go.Abs

-- interregnum/interregnumref01.TakeText
namespace Go.Abs
open Go
def f21.args (a : ByteArray × Int × Int) : List D := [.str a.1, .int .i64 a.2.1, .int .i64 a.2.2]
def f21.blks (a : ByteArray × Int × Int) : List (List D) := []
def f21.res (a : ByteArray × Int × Int) : List D := [.str ((takeText a).1), .int .i64 ((takeText a).2.1), .int .i64 ((takeText a).2.2)]
def f21.blks' (a : ByteArray × Int × Int) : List (List D) := []
def f21.C : Contract := FnC f21.args f21.blks (fun a => takeText_pre a) f21.res f21.blks'
end Go.Abs

/- interregnum/interregnumref01.TakeText -/
namespace Go.Abs
open Go
set_option linter.unusedVariables false
def f21.kills (a : ByteArray × Int × Int) : List Hint := []
def f21.cuts (a : ByteArray × Int × Int) : List (Nat × Σ β : Type, β → Tm) := []
def f21.af (a : ByteArray × Int × Int) : AF := AF.mk (.seq (.region [⟨(some 6), 0, .move, [.c (.str ByteArray.empty)], none⟩,
  ⟨(some 7), 1, .move, [.c (.int .i64 (0))], none⟩,
  ⟨(some 8), 2, .move, [.c (.int .i64 (0))], none⟩])
 (.seq (.seq (.region [⟨(some 12), 3, .move, [.t 2], none⟩,
  ⟨(some 13), 4, (.bin .lss), [.t 12, .c (.int .i64 (0))], none⟩])
 (.cond (.t 13) (.seq (.region [⟨(some 6), 5, .move, [.c (.str ByteArray.empty)], none⟩,
  ⟨(some 7), 6, .move, [.c (.int .i64 (0))], none⟩,
  ⟨(some 8), 7, .move, [.c (.int .i64 (1))], none⟩])
 (.ret)) (.skip)))
 (.seq (.region [⟨(some 15), 8, .move, [.t 0], none⟩,
  ⟨(some 16), 9, .move, [.t 1], none⟩,
  ⟨(some 17), 10, (.call false 19), [.t 15, .t 16], none⟩,
  ⟨(some 14), 14, .move, [.t 17], none⟩,
  ⟨(some 18), 15, (.extract 0), [.t 14], none⟩,
  ⟨(some 19), 16, (.extract 1), [.t 14], none⟩,
  ⟨(some 20), 17, (.extract 2), [.t 14], none⟩,
  ⟨(some 9), 18, .move, [.t 18], none⟩,
  ⟨(some 10), 19, .move, [.t 19], none⟩,
  ⟨(some 11), 20, .move, [.t 20], none⟩])
 (.seq (.seq (.region [⟨(some 21), 21, .move, [.t 11], none⟩,
  ⟨(some 22), 22, (.bin .neq), [.t 21, .c (.int .i64 (0))], none⟩])
 (.cond (.t 22) (.seq (.region [⟨(some 23), 23, .move, [.t 11], none⟩,
  ⟨(some 6), 24, .move, [.c (.str ByteArray.empty)], none⟩,
  ⟨(some 7), 25, .move, [.c (.int .i64 (0))], none⟩,
  ⟨(some 8), 26, .move, [.t 23], none⟩])
 (.ret)) (.skip)))
 (.seq (.seq (.region [⟨(some 24), 27, .move, [.t 9], none⟩,
  ⟨(some 25), 28, .move, [.t 2], none⟩,
  ⟨(some 26), 29, (.conv (.int .u64)), [.t 25], none⟩,
  ⟨(some 27), 30, (.bin .gtr), [.t 24, .t 26], none⟩])
 (.cond (.t 27) (.seq (.region [⟨(some 6), 31, .move, [.c (.str ByteArray.empty)], none⟩,
  ⟨(some 7), 32, .move, [.c (.int .i64 (0))], none⟩,
  ⟨(some 8), 33, .move, [.c (.int .i64 (4))], none⟩])
 (.ret)) (.skip)))
 (.seq (.seq (.region [⟨(some 28), 34, .move, [.t 0], none⟩,
  ⟨(some 29), 35, (.len true), [.t 28], none⟩,
  ⟨(some 30), 36, .move, [.t 10], none⟩,
  ⟨(some 31), 37, (.bin .sub), [.t 29, .t 30], none⟩,
  ⟨(some 32), 38, (.conv (.int .u64)), [.t 31], none⟩,
  ⟨(some 33), 39, .move, [.t 9], none⟩,
  ⟨(some 34), 40, (.bin .lss), [.t 32, .t 33], none⟩])
 (.cond (.t 34) (.seq (.region [⟨(some 6), 41, .move, [.c (.str ByteArray.empty)], none⟩,
  ⟨(some 7), 42, .move, [.c (.int .i64 (0))], none⟩,
  ⟨(some 8), 43, .move, [.c (.int .i64 (2))], none⟩])
 (.ret)) (.skip)))
 (.seq (.region [⟨(some 35), 44, .move, [.t 0], none⟩,
  ⟨(some 36), 45, .move, [.t 10], none⟩,
  ⟨(some 37), 46, .move, [.t 10], none⟩,
  ⟨(some 38), 47, .move, [.t 9], none⟩,
  ⟨(some 39), 48, (.conv (.int .i64)), [.t 38], none⟩,
  ⟨(some 40), 49, (.bin .add), [.t 37, .t 39], none⟩,
  ⟨(some 41), 50, (.sliceStr true true), [.t 35, .t 36, .t 40], none⟩,
  ⟨(some 42), 51, .move, [.t 10], none⟩,
  ⟨(some 43), 52, .move, [.t 9], none⟩,
  ⟨(some 44), 53, (.conv (.int .i64)), [.t 43], none⟩,
  ⟨(some 45), 54, (.bin .add), [.t 42, .t 44], none⟩,
  ⟨(some 6), 55, .move, [.t 41], none⟩,
  ⟨(some 7), 56, .move, [.t 45], none⟩,
  ⟨(some 8), 57, .move, [.c (.int .i64 (0))], none⟩])
 (.ret))))))))
  [.tmp 6, .tmp 7, .tmp 8] 0 43
def f21.env : Env := [(19, f19.C)]
def f21.tree (a : ByteArray × Int × Int) : Prop := Br (decide (a.2.2 < (0 : Int))) ((ByteArray.empty = ((takeText a).1)) ∧ ((0 : Int) = ((takeText a).2.1)) ∧ ((1 : Int) = ((takeText a).2.2)) ∧ True) (∃ c4 : ByteArray × Int, (a.1 = c4.1) ∧ (a.2.1 = c4.2) ∧ (take_pre c4) ∧ Br (((takeN c4).2.2) != (0 : Int)) ((ByteArray.empty = ((takeText a).1)) ∧ ((0 : Int) = ((takeText a).2.1)) ∧ (((takeN c4).2.2) = ((takeText a).2.2)) ∧ True) (Let (IntKind.u64.wrap a.2.2) (fun v8 : Int => Br (decide (v8 < ((takeN c4).1))) ((ByteArray.empty = ((takeText a).1)) ∧ ((0 : Int) = ((takeText a).2.1)) ∧ ((4 : Int) = ((takeText a).2.2)) ∧ True) (Let (IntKind.i64.wrap ((a.1.size : Int) - ((takeN c4).2.1))) (fun v12 : Int => Let (IntKind.u64.wrap v12) (fun v13 : Int => Br (decide (v13 < ((takeN c4).1))) ((ByteArray.empty = ((takeText a).1)) ∧ ((0 : Int) = ((takeText a).2.1)) ∧ ((2 : Int) = ((takeText a).2.2)) ∧ True) (Let (IntKind.i64.wrap ((takeN c4).1)) (fun v17 : Int => Let (IntKind.i64.wrap (((takeN c4).2.1) + v17)) (fun v18 : Int => Br (decide ((0 : Int) ≤ ((takeN c4).2.1)) && decide (((takeN c4).2.1) ≤ v18) && decide (v18 ≤ (a.1.size : Int))) (Let (IntKind.i64.wrap ((takeN c4).1)) (fun v20 : Int => Let (IntKind.i64.wrap (((takeN c4).2.1) + v20)) (fun v21 : Int => ((subB a.1 ((takeN c4).2.1) v18) = ((takeText a).1)) ∧ (v21 = ((takeText a).2.1)) ∧ ((0 : Int) = ((takeText a).2.2)) ∧ True))) False)))))))))
def f21.vc (a : ByteArray × Int × Int) : Prop := ((a.2.2 < (0 : Int) → ((ByteArray.empty, (0 : Int), (1 : Int)) = takeText a)) ∧ (¬ (a.2.2 < (0 : Int)) → (take_pre (a.1, a.2.1) ∧ ((¬ ((takeN (a.1, a.2.1)).2.2) = (0 : Int) → ((ByteArray.empty, (0 : Int), (takeN (a.1, a.2.1)).2.2) = takeText a)) ∧ (¬ (¬ ((takeN (a.1, a.2.1)).2.2) = (0 : Int)) → (0 ≤ a.2.2 ∧ a.2.2 ≤ 18446744073709551615 ∧ (((a.2.2) < ((takeN (a.1, a.2.1)).1) → ((ByteArray.empty, (0 : Int), (4 : Int)) = takeText a)) ∧ (¬ ((a.2.2) < ((takeN (a.1, a.2.1)).1)) → (-9223372036854775808 ≤ ((a.1.size : Int) - ((takeN (a.1, a.2.1)).2.1)) ∧ ((a.1.size : Int) - ((takeN (a.1, a.2.1)).2.1)) ≤ 9223372036854775807 ∧ (0 ≤ ((a.1.size : Int) - ((takeN (a.1, a.2.1)).2.1)) ∧ ((a.1.size : Int) - ((takeN (a.1, a.2.1)).2.1)) ≤ 18446744073709551615 ∧ ((((a.1.size : Int) - ((takeN (a.1, a.2.1)).2.1)) < ((takeN (a.1, a.2.1)).1) → ((ByteArray.empty, (0 : Int), (2 : Int)) = takeText a)) ∧ (¬ (((a.1.size : Int) - ((takeN (a.1, a.2.1)).2.1)) < ((takeN (a.1, a.2.1)).1)) → (-9223372036854775808 ≤ ((takeN (a.1, a.2.1)).1) ∧ ((takeN (a.1, a.2.1)).1) ≤ 9223372036854775807 ∧ (-9223372036854775808 ≤ (((takeN (a.1, a.2.1)).2.1) + ((takeN (a.1, a.2.1)).1)) ∧ (((takeN (a.1, a.2.1)).2.1) + ((takeN (a.1, a.2.1)).1)) ≤ 9223372036854775807 ∧ ((0 : Int) ≤ ((takeN (a.1, a.2.1)).2.1) ∧ ((takeN (a.1, a.2.1)).2.1) ≤ (((takeN (a.1, a.2.1)).2.1) + ((takeN (a.1, a.2.1)).1)) ∧ (((takeN (a.1, a.2.1)).2.1) + ((takeN (a.1, a.2.1)).1)) ≤ (a.1.size : Int) ∧ (-9223372036854775808 ≤ ((takeN (a.1, a.2.1)).1) ∧ ((takeN (a.1, a.2.1)).1) ≤ 9223372036854775807 ∧ (-9223372036854775808 ≤ (((takeN (a.1, a.2.1)).2.1) + ((takeN (a.1, a.2.1)).1)) ∧ (((takeN (a.1, a.2.1)).2.1) + ((takeN (a.1, a.2.1)).1)) ≤ 9223372036854775807 ∧ ((subB a.1 ((takeN (a.1, a.2.1)).2.1) (((takeN (a.1, a.2.1)).2.1) + ((takeN (a.1, a.2.1)).1)), (((takeN (a.1, a.2.1)).2.1) + ((takeN (a.1, a.2.1)).1)), (0 : Int)) = takeText a))))))))))))))))))
set_option maxRecDepth 100000 in
set_option maxHeartbeats 2000000 in
theorem f21.of (a : ByteArray × Int × Int) (h : f21.vc a) : f21.tree a := br h Cnd.dec (fun h1 k52 => ⟨(congrArg (fun x : ByteArray × Int × Int => x.1) k52 :), ⟨(congrArg (fun x : ByteArray × Int × Int => x.2.1) k52 :), ⟨(congrArg (fun x : ByteArray × Int × Int => x.2.2) k52 :), trivial⟩⟩⟩) (fun h2 k53 => ⟨(a.1, a.2.1), ⟨rfl, ⟨rfl, ⟨k53.1, br k53.2 Cnd.ne (fun h5 k49 => ⟨(congrArg (fun x : ByteArray × Int × Int => x.1) k49 :), ⟨(congrArg (fun x : ByteArray × Int × Int => x.2.1) k49 :), ⟨(congrArg (fun x : ByteArray × Int × Int => x.2.2) k49 :), trivial⟩⟩⟩) (fun h6 k50 => wrapK.u64 k50 (fun h46 h47 k48 => br k48 Cnd.dec (fun h9 k44 => ⟨(congrArg (fun x : ByteArray × Int × Int => x.1) k44 :), ⟨(congrArg (fun x : ByteArray × Int × Int => x.2.1) k44 :), ⟨(congrArg (fun x : ByteArray × Int × Int => x.2.2) k44 :), trivial⟩⟩⟩) (fun h10 k45 => wrapK.i64 k45 (fun h41 h42 k43 => wrapK.u64 k43 (fun h38 h39 k40 => br k40 Cnd.dec (fun h14 k36 => ⟨(congrArg (fun x : ByteArray × Int × Int => x.1) k36 :), ⟨(congrArg (fun x : ByteArray × Int × Int => x.2.1) k36 :), ⟨(congrArg (fun x : ByteArray × Int × Int => x.2.2) k36 :), trivial⟩⟩⟩) (fun h15 k37 => wrapK.i64 k37 (fun h33 h34 k35 => wrapK.i64 k35 (fun h30 h31 k32 => chk k32.2.2.2 Cnd.ss ⟨k32.1, k32.2.1, k32.2.2.1⟩ (fun h19 k29 => wrapK.i64 k29 (fun h26 h27 k28 => wrapK.i64 k28 (fun h23 h24 k25 => ⟨(congrArg (fun x : ByteArray × Int × Int => x.1) k25 :), ⟨(congrArg (fun x : ByteArray × Int × Int => x.2.1) k25 :), ⟨(congrArg (fun x : ByteArray × Int × Int => x.2.2) k25 :), trivial⟩⟩⟩)))))))))))⟩⟩⟩⟩)
theorem f21.eq (a : ByteArray × Int × Int) : (f21.af a).gives f21.env (f21.args a) (f21.blks a) (f21.res a) (f21.blks' a) = f21.tree a := by kernel_rfl
end Go.Abs

/- Layer 1: what the code asks is so. -/
namespace Go.Abs
open Go

theorem f46.ok (a : ByteArray) (h : own_pre a) : f46.vc a := by
  unfold own_pre at h
  refine ⟨?_, ?_, ?_, ?_, ?_, empty_app a⟩ <;> omega

/-- The table of lengths. -/
theorem tab_ok : ∀ x : Fin 256, nth f45.s0.data.toList x.1 0 = UInt8.ofNat (blen x.1) := by decide +kernel

theorem tab (x : Nat) (h : x < 256) : bAt f45.s0 (IntKind.u8.wrap (x : Int)) = (blen x : Int) := by
  have h1 : IntKind.u8.wrap (x : Int) = (x : Int) := wrap_id (by simp [IntKind.signed]) (by simp [IntKind.signed, IntKind.bits]; omega)
  have h2 : nth f45.s0.data.toList x 0 = UInt8.ofNat (blen x) := tab_ok ⟨x, h⟩
  unfold bAt
  rw [h1, Int.toNat_natCast, h2, UInt8.toNat_ofNat']
  have : blen x ≤ 8 := by
    unfold blen
    split
    · omega
    · rename_i h0
      have := (Nat.log2_lt h0 (k := 8)).2 (by omega)
      omega
  omega

theorem blen_div {n k : Nat} (h : 2 ^ k ≤ n) : blen n = k + blen (n / 2 ^ k) := by
  have hp : 0 < 2 ^ k := Nat.pow_pos (by decide)
  have h1 : n / 2 ^ k ≠ 0 := by
    have := (Nat.le_div_iff_mul_le hp (x := 1) (y := n)).2 (by omega)
    omega
  have h0 : n ≠ 0 := by omega
  unfold blen
  rw [if_neg h0, if_neg h1]
  have e : n.log2 = k + (n / 2 ^ k).log2 := by
    have a1 : 2 ^ (n / 2 ^ k).log2 ≤ n / 2 ^ k := (Nat.le_log2 h1).1 (Nat.le_refl _)
    have a2 : n / 2 ^ k < 2 ^ ((n / 2 ^ k).log2 + 1) := (Nat.log2_lt h1).1 (Nat.lt_succ_self _)
    have b1 : 2 ^ (k + (n / 2 ^ k).log2) ≤ n := by
      rw [Nat.pow_add, Nat.mul_comm]
      exact (Nat.le_div_iff_mul_le hp).1 a1
    have b2 : n < 2 ^ (k + (n / 2 ^ k).log2 + 1) := by
      rw [Nat.add_assoc, Nat.pow_add, Nat.mul_comm]
      exact (Nat.div_lt_iff_lt_mul hp).1 a2
    have c1 := (Nat.le_log2 h0).2 b1
    have c2 := (Nat.log2_lt h0).2 b2
    omega
  omega

theorem f45.ok (a : Int) (h : len64_pre a) : f45.vc a := by
  obtain ⟨h0, h1⟩ := h
  obtain ⟨n, rfl⟩ := Int.eq_ofNat_of_zero_le h0
  have key : ∀ (x : Nat) (k : Nat) (c : Int), x < 256 → len64 (n : Int) = k + blen x → (k : Int) = c → k ≤ 64 → (0 : Int) ≤ (IntKind.u8.wrap (x : Int)) ∧ (IntKind.u8.wrap (x : Int)) < (256 : Int) ∧ -9223372036854775808 ≤ (c + (bAt f45.s0 (IntKind.u8.wrap (x : Int)))) ∧ (c + (bAt f45.s0 (IntKind.u8.wrap (x : Int)))) ≤ 9223372036854775807 ∧ (c + (bAt f45.s0 (IntKind.u8.wrap (x : Int)))) = len64 (n : Int) := by
    intro x k c hx hl hk hk'
    have h3 := u8w (x : Int)
    have h4 := u8b f45.s0 (IntKind.u8.wrap (x : Int))
    have h5 := tab x hx
    refine ⟨h3.1, by omega, by omega, by omega, by rw [hl, h5, ← hk]⟩
  have l64 : len64 (n : Int) = (blen n : Int) := by simp [len64]
  have d32 : ((n : Int) / 4294967296) = ((n / 4294967296 : Nat) : Int) := by simp
  have d16 : ∀ m : Nat, ((m : Int) / 65536) = ((m / 65536 : Nat) : Int) := fun m => by simp
  have d8 : ∀ m : Nat, ((m : Int) / 256) = ((m / 256 : Nat) : Int) := fun m => by simp
  have b32 : ∀ m : Nat, 4294967296 ≤ m → blen m = 32 + blen (m / 4294967296) := fun m hm => blen_div (k := 32) hm
  have b16 : ∀ m : Nat, 65536 ≤ m → blen m = 16 + blen (m / 65536) := fun m hm => blen_div (k := 16) hm
  have b8 : ∀ m : Nat, 256 ≤ m → blen m = 8 + blen (m / 256) := fun m hm => blen_div (k := 8) hm
  unfold f45.vc
  rw [d32, d16, d16]
  rw [d8, d8, d8, d8]
  refine ⟨fun h2 => ⟨fun h3 => ⟨fun h4 => ?_, fun h4 => ?_⟩, fun h3 => ⟨fun h4 => ?_, fun h4 => ?_⟩⟩, fun h2 => ⟨fun h3 => ⟨fun h4 => ?_, fun h4 => ?_⟩, fun h3 => ⟨fun h4 => ?_, fun h4 => ?_⟩⟩⟩
  · exact key _ 56 _ (by omega) (by rw [l64, b32 n (by omega), b16 _ (by omega), b8 _ (by omega)]; omega) rfl (by omega)
  · exact key _ 48 _ (by omega) (by rw [l64, b32 n (by omega), b16 _ (by omega)]; omega) rfl (by omega)
  · exact key _ 40 _ (by omega) (by rw [l64, b32 n (by omega), b8 _ (by omega)]; omega) rfl (by omega)
  · exact key _ 32 _ (by omega) (by rw [l64, b32 n (by omega)]; omega) rfl (by omega)
  · exact key _ 24 _ (by omega) (by rw [l64, b16 n (by omega), b8 _ (by omega)]; omega) rfl (by omega)
  · exact key _ 16 _ (by omega) (by rw [l64, b16 n (by omega)]; omega) rfl (by omega)
  · exact key _ 8 _ (by omega) (by rw [l64, b8 n (by omega)]; omega) rfl (by omega)
  · exact key _ 0 _ (by omega) (by rw [l64]; omega) rfl (by omega)

theorem len64_nb {a : Int} (h : U64 a) : 0 ≤ len64 a ∧ len64 a ≤ 64 ∧ (len64 a + 7) / 8 = (nb a.toNat : Int) := by
  have h1 := nb_eight h.lt
  unfold len64
  unfold nb at h1 ⊢
  omega

theorem pow28 (k : Nat) : (2 : Int) ^ (8 * k) = ((256 ^ k : Nat) : Int) := by
  have h : ((2 ^ (8 * k) : Nat) : Int) = ((256 ^ k : Nat) : Int) := by rw [Nat.pow_mul]
  rw [← h, Int.natCast_pow]
  rfl

theorem f14.ok (a : ByteArray × Int) (h : put_pre a) : f14.vc a := by
  obtain ⟨h1, h2⟩ := h
  obtain ⟨l1, l2, l3⟩ := len64_nb h2
  have h8 := nb_eight h2.lt
  obtain ⟨u1, u2⟩ := h2
  obtain ⟨b, n⟩ := a
  simp only at *
  unfold f14.vc
  simp only [l3, ownB]
  refine ⟨⟨u1, u2⟩, by omega, by omega, by omega, by omega, h1, by omega, by omega, by omega,
    fun y => -1 ≤ y.2 ∧ y.2 < nb n.toNat ∧ y.1.data.toList = b.data.toList ++ UInt8.ofNat (nb n.toNat) :: be ((nb n.toNat : Int) - 1 - y.2).toNat (n.toNat / 256 ^ (y.2 + 1).toNat), fun y => (y.2 + 1).toNat, ?_, ?_⟩
  · refine ⟨by omega, by omega, ?_⟩
    rw [data_app, by1_data, ofNat_wrap (by omega), Int.toNat_natCast]
    congr 2
    rw [show ((nb n.toNat : Int) - 1 - ((nb n.toNat : Int) - 1)).toNat = 0 from by omega]
    rfl
  · rintro ⟨o, i⟩ ⟨i1, i2, i3⟩
    simp only at i1 i2 i3 ⊢
    have hs : o.size ≤ b.size + 10 := by
      rw [← data_length, i3, List.length_append, List.length_cons, be_length, data_length]
      omega
    refine ⟨fun hi => ⟨by omega, by omega, by omega, by omega, by omega, by omega, ⟨by omega, by omega, ?_⟩, by omega⟩, fun hi => ?_⟩
    · rw [data_app, by1_data, i3]
      have e1 : min (Int.toNat (8 * i)) 64 = 8 * i.toNat := by omega
      have e2 : (n / 2 ^ (8 * i.toNat) : Int) = ((n.toNat / 256 ^ i.toNat : Nat) : Int) := by
        rw [pow28]
        obtain ⟨m, rfl⟩ := Int.eq_ofNat_of_zero_le u1
        simp
      rw [e1, e2, ofNat_wrap (Int.natCast_nonneg _), Int.toNat_natCast]
      rw [show ((nb n.toNat : Int) - 1 - (i - 1)).toNat = ((nb n.toNat : Int) - 1 - i).toNat + 1 from by omega, show (i - 1 + 1).toNat = i.toNat from by omega, be]
      rw [show (i + 1).toNat = i.toNat + 1 from by omega, Nat.div_div_eq_div_mul, ← Nat.pow_succ]
      simp
    · have : i = -1 := by omega
      subst this
      apply bytes_ext
      show _ = (b ++ num n.toNat).data.toList
      rw [data_app, num_data, i3]
      simp

theorem f15.ok (a : Int) (h : num_pre a) : f15.vc a := by
  obtain ⟨u1, u2⟩ := h
  have h8 := nb_eight (n := a.toNat) (by omega)
  unfold f15.vc
  refine ⟨fun y => ∃ j, y.1 = ((a.toNat / 256 ^ j : Nat) : Int) ∧ y.2.data.toList = be j a.toNat ∧ j ≤ nb a.toNat, fun y => y.1.toNat, ⟨0, by simp; omega, rfl, by omega⟩, ?_⟩
  rintro ⟨n, s⟩ ⟨j, i1, i2, i3⟩
  simp only at i1 i2 i3 ⊢
  have hs : s.size = j := by rw [← data_length, i2, be_length]
  have hle : a.toNat / 256 ^ j ≤ a.toNat := Nat.div_le_self _ _
  refine ⟨fun hn => ⟨by omega, by rw [by1_size]; omega, by omega, by omega, ⟨j + 1, ?_, ?_, ?_⟩, ?_⟩, fun hn => ⟨by rw [by1_size]; omega, ?_⟩⟩
  · rw [i1, Nat.pow_succ, ← Nat.div_div_eq_div_mul]
    simp
  · rw [data_app, by1_data, i2, be_hi, ofNat_wrap (Int.emod_nonneg _ (by decide))]
    have : UInt8.ofNat (n % 256).toNat = UInt8.ofNat (a.toNat / 256 ^ j) := by
      apply UInt8.toNat_inj.1
      rw [UInt8.toNat_ofNat', UInt8.toNat_ofNat', i1]
      omega
    rw [this]
    rfl
  · have : ¬ nb a.toNat ≤ j := fun hh => by
      have := nb_le.1 hh
      rw [Nat.div_eq_of_lt this] at i1
      omega
    omega
  · omega
  · have hz : a.toNat / 256 ^ j = 0 := by
      generalize a.toNat / 256 ^ j = q at i1 ⊢
      omega
    have : a.toNat < 256 ^ j := (Nat.div_eq_zero_iff_lt (Nat.pow_pos (by decide))).1 hz
    have hj : j = nb a.toNat := by have := nb_le.2 this; omega
    apply bytes_ext
    show _ = (num a.toNat).data.toList
    rw [data_app, by1_data, num_data, i2, ofNat_wrap (by omega), hs, hj]
    simp

/-- Two ways to say where the numbers end. -/
theorem f19.ok (a : ByteArray × Int) (h : take_pre a) : f19.vc a := by
  unfold take_pre at h
  obtain ⟨b, i⟩ := a
  simp only at h
  have hk := u8b b i
  have ht : ∀ x, x = takeN (b, i) ↔ x = takeN (b, i) := fun _ => Iff.rfl
  unfold f19.vc
  simp only
  refine ⟨fun c1 => ?_, fun c1 => ⟨fun c2 => ?_, fun c2 => ⟨fun c3 => ?_, fun c3 => ⟨by omega, by omega, fun c4 => ?_, fun c4 => ⟨by omega, by omega, by omega, by omega, fun c5 => ?_, fun c5 => ?_⟩⟩⟩⟩⟩
  · simp [takeN, c1]
  · simp [takeN, c2]
  · subst c3; simp [takeN]
  · simp [takeN, c1, c2, c3, c4]
  · simp [takeN, c1, c2, c3, c4, c5]
  · refine ⟨fun y => y.1 = bAt b i ∧ 0 ≤ y.2.2 ∧ y.2.2 ≤ y.1 ∧ y.2.1 = val b (i.toNat + 1) y.2.2.toNat ∧ (0 < y.2.2 → bAt b (i + 1) ≠ 0), fun y => (y.1 - y.2.2).toNat, ⟨rfl, Int.le_refl _, by simp only; omega, rfl, by simp⟩, ?_⟩
    rintro ⟨k, n, j⟩ ⟨e1, j1, j2, e2, j3⟩
    simp only at e1 e2 j1 j2 j3 ⊢
    subst e1 e2
    have hv := val_lt b (i.toNat + 1) j.toNat
    have hv0 := val_nonneg b (i.toNat + 1) j.toNat
    have hc := u8b b (i + 1 + j)
    have hs : bAt b (i + 1 + j) = bAtN b (i.toNat + 1 + j.toNat) := by
      unfold bAt bAtN
      rw [show (i + 1 + j).toNat = i.toNat + 1 + j.toNat from by omega]
    have hp : j < bAt b i → val b (i.toNat + 1) j.toNat < 72057594037927936 := fun hj => by
      have h2 : (256 : Int) ^ j.toNat ≤ 256 ^ 7 := by
        have h4 : (256 : Nat) ^ j.toNat ≤ 256 ^ 7 := Nat.pow_le_pow_right (by decide) (by omega)
        have h5 : ((256 ^ j.toNat : Nat) : Int) ≤ ((256 ^ 7 : Nat) : Int) := Int.ofNat_le.2 h4
        rw [Int.natCast_pow, Int.natCast_pow] at h5
        exact h5
      have h3 : (256 : Int) ^ 7 = 72057594037927936 := by decide
      omega
    have next : val b (i.toNat + 1) (j + 1).toNat = val b (i.toNat + 1) j.toNat * 256 + bAt b (i + 1 + j) := by
      rw [show (j + 1).toNat = j.toNat + 1 from by omega, hs]
      rfl
    refine ⟨fun hj => ⟨by omega, by omega, by omega, by omega, by omega, by omega, fun e0 => ⟨fun e1 => ?_, fun e1 => ?_⟩, fun e0 => ?_⟩, fun hj => ⟨by omega, by omega, by omega, by omega, ?_⟩⟩
    · subst e0
      have hz : bAt b (i + 1) = 0 := by rw [← e1, show i + 1 + 0 = i + 1 from by omega]
      simp [takeN, c1, c2, c3, c4, c5, hz]
      omega
    · have := hp hj
      subst e0
      refine ⟨by omega, by omega, by omega, by omega, by omega, by omega, ⟨rfl, by omega, by omega, next.symm, fun _ => ?_⟩, by omega⟩
      rw [show i + 1 = i + 1 + 0 from by omega]
      exact e1
    · have := hp hj
      exact ⟨by omega, by omega, by omega, by omega, by omega, by omega, ⟨rfl, by omega, by omega, next.symm, fun _ => j3 (by omega)⟩, by omega⟩
    · have hj' : j = bAt b i := by omega
      have hx : ¬ (0 < bAt b i ∧ bAt b (i + 1) = 0) := fun ⟨x1, x2⟩ => j3 (by omega) x2
      unfold takeN
      simp only
      rw [if_neg (by omega), if_neg c3, if_neg c4, if_neg c5, if_neg hx, hj']

theorem f18.ok (a : ByteArray × Int) (h : take_pre a) : f18.vc a := by
  unfold take_pre at h
  obtain ⟨b, i⟩ := a
  simp only at h
  have hk := u8b b i
  have hkk : bAtN b (Int.toNat (0 : Int) + Int.toNat i) = bAt b i := by
    unfold bAt bAtN
    simp
  have loop : ∀ (c1 : ¬ i < 0) (c2 : ¬ (b.size : Int) < i) (c3 : ¬ i = b.size) (c4 : ¬ 8 < bAt b i) (c5 : ¬ (b.size : Int) - i - 1 < bAt b i) (c6 : ¬ (0 < bAt b i ∧ bAt b (i + 1) = 0)), True := fun _ _ _ _ _ _ => trivial
  have h1 : 0 ≤ i → i < b.size → bAtN b (Int.toNat (1 : Int) + Int.toNat i) = bAt b (i + 1) := fun _ _ => by
    unfold bAt bAtN
    rw [show (i + 1).toNat = Int.toNat 1 + i.toNat from by omega]
  unfold f18.vc
  simp only [hkk]
  have key : ∀ (c1 : ¬ i < 0) (c2 : ¬ (b.size : Int) < i) (c3 : ¬ i = b.size) (c4 : ¬ 8 < bAt b i) (c5 : ¬ (b.size : Int) - i - 1 < bAt b i) (c6 : ¬ (0 < bAt b i ∧ bAt b (i + 1) = 0)),
      ∃ (I : (Int × Int × ByteArray × Int × Int) → Prop) (μ : (Int × Int × ByteArray × Int × Int) → Nat), I (bAt b i, 0, subB (subB b i b.size) 1 (bAt b i + 1), (Int.toNat (bAt b i + 1 - 1) : Int), 0) ∧ ∀ y, I y → (y.2.2.2.2 < y.2.2.2.1 → 0 ≤ y.2.2.2.2 ∧ y.2.2.2.2 < (y.2.2.1.size : Int) ∧ -9223372036854775808 ≤ (y.2.2.2.2 + (1 : Int)) ∧ (y.2.2.2.2 + (1 : Int)) ≤ 9223372036854775807 ∧
        I (y.1, IntKind.u64.wrap ((BitVec.ofInt 64 (IntKind.u64.wrap (y.2.1 * 256)) ||| BitVec.ofInt 64 (bAt y.2.2.1 y.2.2.2.2)).toNat : Int), y.2.2.1, y.2.2.2.1, (y.2.2.2.2 + (1 : Int))) ∧ μ (y.1, IntKind.u64.wrap ((BitVec.ofInt 64 (IntKind.u64.wrap (y.2.1 * 256)) ||| BitVec.ofInt 64 (bAt y.2.2.1 y.2.2.2.2)).toNat : Int), y.2.2.1, y.2.2.2.1, (y.2.2.2.2 + (1 : Int))) < μ y) ∧
        (¬ y.2.2.2.2 < y.2.2.2.1 → -9223372036854775808 ≤ (i + y.1) ∧ (i + y.1) ≤ 9223372036854775807 ∧ -9223372036854775808 ≤ ((i + y.1) + (1 : Int)) ∧ ((i + y.1) + (1 : Int)) ≤ 9223372036854775807 ∧ (y.2.1, ((i + y.1) + (1 : Int)), (0 : Int)) = takeN (b, i)) := by
    intro c1 c2 c3 c4 c5 c6
    have s1 : (subB b i b.size).size = Int.toNat (b.size - i) := RdB.size_sub ⟨by omega, by omega, by omega⟩
    have s2 : (subB (subB b i b.size) 1 (bAt b i + 1)).size = (bAt b i).toNat := by
      rw [RdB.size_sub ⟨by omega, by omega, by rw [s1]; omega⟩]
      omega
    refine ⟨fun y => y.1 = bAt b i ∧ y.2.2.1 = subB (subB b i b.size) 1 (bAt b i + 1) ∧ y.2.2.2.1 = bAt b i ∧ 0 ≤ y.2.2.2.2 ∧ y.2.2.2.2 ≤ bAt b i ∧ y.2.1 = val b (i.toNat + 1) y.2.2.2.2.toNat, fun y => (y.2.2.2.1 - y.2.2.2.2).toNat, ⟨rfl, rfl, by simp only; omega, by simp, by simp only; omega, rfl⟩, ?_⟩
    rintro ⟨m, n, r, k, j⟩ ⟨e1, e2, e3, j1, j2, e4⟩
    simp only at e1 e2 e3 e4 j1 j2 ⊢
    subst e1 e2 e3 e4
    have hv0 := val_nonneg b (i.toNat + 1) j.toNat
    have hv := val_lt b (i.toNat + 1) j.toNat
    refine ⟨fun hj => ?_, fun hj => ⟨by omega, by omega, by omega, by omega, ?_⟩⟩
    · have hp : val b (i.toNat + 1) j.toNat < 72057594037927936 := by
        have h2 : (256 : Int) ^ j.toNat ≤ 256 ^ 7 := by
          have h4 : (256 : Nat) ^ j.toNat ≤ 256 ^ 7 := Nat.pow_le_pow_right (by decide) (by omega)
          have h5 : ((256 ^ j.toNat : Nat) : Int) ≤ ((256 ^ 7 : Nat) : Int) := Int.ofNat_le.2 h4
          rw [Int.natCast_pow, Int.natCast_pow] at h5
          exact h5
        have h3 : (256 : Int) ^ 7 = 72057594037927936 := by decide
        omega
      have e3 : bAt (subB (subB b i b.size) 1 (bAt b i + 1)) j = bAtN b (i.toNat + 1 + j.toNat) := by
        rw [bAt_sub ⟨by omega, by omega, by rw [s1]; omega⟩ (by omega) (by omega), bAt_sub ⟨by omega, by omega, by omega⟩ (by omega) (by omega), bAtN_eq]
        rw [show (i + (1 + j)).toNat = i.toNat + 1 + j.toNat from by omega]
      have hc := u8bN b (i.toNat + 1 + j.toNat)
      rw [e3, shl_or hv0 hp hc.1 hc.2]
      refine ⟨by omega, by rw [s2]; omega, by omega, by omega, ⟨rfl, rfl, rfl, by omega, by omega, ?_⟩, by omega⟩
      rw [show (j + 1).toNat = j.toNat + 1 from by omega]
      rfl
    · have hj' : j = bAt b i := by omega
      unfold takeN
      simp only
      rw [if_neg (by omega), if_neg c3, if_neg c4, if_neg c5, if_neg c6, hj', show i + bAt b i + 1 = i + 1 + bAt b i from by omega]
  refine ⟨fun c1 => ?_, fun c1 => ⟨fun c2 => ?_, fun c2 => ⟨by omega, by omega, fun c3 => ?_, fun c3 => ⟨by omega, fun c4 => ?_, fun c4 => ⟨fun c5 => ?_, fun c5 => ⟨fun c6 => ⟨by omega, fun c7 => ?_, fun c7 => ⟨by omega, by omega, by omega, by omega, ?_⟩⟩, fun c6 => ⟨by omega, by omega, by omega, by omega, ?_⟩⟩⟩⟩⟩⟩⟩
  · simp [takeN, c1]
  · simp [takeN, c2]
  · have : i = b.size := by omega
    subst this; simp [takeN]
  · unfold takeN
    simp only
    rw [if_neg (by omega), if_neg (by omega), if_pos c4]
  · unfold takeN
    simp only
    rw [if_neg (by omega), if_neg (by omega), if_neg c4, if_pos (by omega)]
  · rw [h1 (by omega) (by omega)] at c7
    unfold takeN
    simp only
    rw [if_neg (by omega), if_neg (by omega), if_neg c4, if_neg (by omega), if_pos ⟨c6, c7⟩]
  · rw [h1 (by omega) (by omega)] at c7
    exact key c1 c2 (by omega) c4 (by omega) (fun x => c7 x.2)
  · exact key c1 c2 (by omega) c4 (by omega) (fun x => c6 x.1)

theorem putB_size (a : ByteArray × Int) : (putB a).size = a.1.size + (nb a.2.toNat + 1) := by unfold putB; rw [size_app, num_size]

theorem f16.ok (a : ByteArray × ByteArray) (h : putText_pre a) : f16.vc a := by
  obtain ⟨h1, h2⟩ := h
  have h8 := nb_eight (n := a.2.size) (by omega)
  refine ⟨by omega, by omega, ⟨by simp only; omega, by simp only; omega, by simp only; omega⟩, ?_, ?_⟩
  · rw [putB_size]
    simp only [Int.toNat_natCast]
    omega
  · unfold putB putText
    simp only [Int.toNat_natCast]

theorem f17.ok (a : ByteArray) (h : text_pre a) : f17.vc a := by
  unfold text_pre at h
  have h8 := nb_eight (n := a.size) (by omega)
  refine ⟨by omega, by omega, ⟨by omega, by omega⟩, ?_, ?_⟩
  · unfold numS
    rw [num_size]
    simp only [Int.toNat_natCast]
    omega
  · unfold numS textS
    simp only [Int.toNat_natCast]

theorem f20.ok (a : ByteArray × Int × Int) (h : takeText_pre a) : f20.vc a := by
  obtain ⟨h1, h2⟩ := h
  obtain ⟨b1, b2, b3, b4⟩ := takeN_bd (a.1, a.2.1)
  unfold f20.vc takeText
  simp only at b4
  generalize takeN (a.1, a.2.1) = t at *
  refine ⟨fun c1 => by rw [if_pos c1], fun c1 => ⟨h1, ?_, ?_⟩⟩
  · intro c2
    rw [if_neg c1, if_pos c2]
  · intro c2
    refine ⟨by omega, by omega, fun c3 => by rw [if_neg c1, if_neg c2, if_pos c3], fun c3 => ⟨by omega, by omega, by omega, by omega, fun c4 => by rw [if_neg c1, if_neg c2, if_neg c3, if_pos c4], fun c4 => ?_⟩⟩
    refine ⟨by omega, by omega, by omega, by omega, by omega, by omega, by omega, by omega, by omega, by omega, by omega, ?_⟩
    rw [if_neg c1, if_neg c2, if_neg c3, if_neg c4]

theorem f21.ok (a : ByteArray × Int × Int) (h : takeText_pre a) : f21.vc a := by
  obtain ⟨h1, h2⟩ := h
  obtain ⟨b1, b2, b3, b4⟩ := takeN_bd (a.1, a.2.1)
  unfold f21.vc takeText
  simp only at b4
  generalize takeN (a.1, a.2.1) = t at *
  refine ⟨fun c1 => by rw [if_pos c1], fun c1 => ⟨h1, ?_, ?_⟩⟩
  · intro c2
    rw [if_neg c1, if_pos c2]
  · intro c2
    refine ⟨by omega, by omega, fun c3 => by rw [if_neg c1, if_neg c2, if_pos c3], fun c3 => ⟨by omega, by omega, by omega, by omega, fun c4 => by rw [if_neg c1, if_neg c2, if_neg c3, if_pos c4], fun c4 => ?_⟩⟩
    refine ⟨by omega, by omega, by omega, by omega, by omega, by omega, by omega, by omega, by omega, by omega, by omega, ?_⟩
    rw [if_neg c1, if_neg c2, if_neg c3, if_neg c4]

end Go.Abs

/- Names, labels, tasks: what the code asks is so. -/
namespace Go.Abs
open Go

theorem nameB_false {s : ByteArray} (h : nameB s ≠ true) : false = nameB s := by
  cases hh : nameB s with
  | false => rfl
  | true => exact absurd hh h

theorem f48.ok (a : ByteArray) (h : name_pre a) : f48.vc a := by
  unfold f48.vc
  refine ⟨fun h0 => ⟨fun h1 => ⟨?_, fun h2 => ⟨h, ?_⟩, fun h2 => ?_⟩, fun h1 => ?_⟩, fun h0 => ?_⟩
  · have : a.size ≠ 0 := fun hh => h0 (size_zero.2 hh)
    omega
  · have hs : 1 ≤ a.size := by
      have : a.size ≠ 0 := fun hh => h0 (size_zero.2 hh)
      omega
    rw [Bool.eq_iff_iff, Bool.not_eq_true', hasOdd_not, nameB_iff]
    exact ⟨fun h3 => ⟨hs, by omega, h2, h3⟩, fun h3 => h3.2.2.2⟩
  · exact nameB_false fun hh => h2 (nameB_iff.1 hh).2.2.1
  · exact nameB_false fun hh => by have := (nameB_iff.1 hh).2.1; omega
  · have h0 := Classical.not_not.1 h0
    exact nameB_false fun hh => by have := (nameB_iff.1 hh).1; rw [size_zero.1 h0] at this; omega

theorem f58.ok (a : ByteArray) (h : name_pre a) : f58.vc a := by
  unfold name_pre at h
  unfold f58.vc
  refine ⟨fun h0 => nameB_false fun hh => by have := (nameB_iff.1 hh).1; omega, fun h0 => ⟨fun h1 => nameB_false fun hh => by have := (nameB_iff.1 hh).2.1; omega, fun h1 => ⟨by omega, fun h2 => nameB_false fun hh => (nameB_iff.1 hh).2.2.1 h2, fun h2 => ?_⟩⟩⟩
  refine ⟨fun y => 0 ≤ y ∧ y ≤ (a.size : Int) ∧ ∀ (i : Nat) (x : UInt8), i < y.toNat → a.data.toList[i]? = some x → ltr x = true, fun y => a.size - y.toNat, ⟨by omega, by omega, fun i x hi => by simp at hi⟩, fun y hy => ?_⟩
  obtain ⟨g0, g1, g2⟩ := hy
  have hlen := data_length a
  refine ⟨fun hlt => ⟨g0, hlt, ?_⟩, fun hge => ?_⟩
  · have hp : y.toNat < a.data.toList.length := by omega
    have hb : bAt a y = ((a.data.toList[y.toNat]'hp).toNat : Int) := by unfold bAt; rw [nth_lt _ _ hp]
    have hbad : ¬ ltr (a.data.toList[y.toNat]'hp) = true → false = nameB a := fun hn => nameB_false fun hh => hn ((nameB_iff.1 hh).2.2.2 y.toNat _ (List.getElem?_eq_getElem hp))
    have hgood : ltr (a.data.toList[y.toNat]'hp) = true → -9223372036854775808 ≤ (y + (1 : Int)) ∧ (y + (1 : Int)) ≤ 9223372036854775807 ∧ (0 ≤ y + 1 ∧ y + 1 ≤ (a.size : Int) ∧ ∀ (i : Nat) (x : UInt8), i < (y + 1).toNat → a.data.toList[i]? = some x → ltr x = true) ∧ a.size - (y + 1).toNat < a.size - y.toNat := fun hg => by
      refine ⟨by omega, by omega, ⟨by omega, by omega, fun i x hi hx => ?_⟩, by omega⟩
      by_cases he : i = y.toNat
      · subst he
        rw [List.getElem?_eq_getElem hp] at hx
        cases hx
        exact hg
      · exact g2 i x (by omega) hx
    rw [ltr_iff] at hbad hgood
    generalize a.data.toList[y.toNat]'hp = x at hb hbad hgood
    rw [hb]
    refine ⟨fun c1 => ⟨fun c2 => ⟨fun c3 => hbad (by omega), fun c3 => hgood (by omega)⟩, fun c2 => ⟨fun c3 => ⟨fun c4 => hbad (by omega), fun c4 => hgood (by omega)⟩, fun c3 => hgood (by omega)⟩⟩,
      fun c1 => ⟨fun c2 => ⟨fun c3 => ⟨fun c4 => hbad (by omega), fun c4 => hgood (by omega)⟩, fun c3 => ⟨fun c4 => ⟨fun c5 => hbad (by omega), fun c5 => hgood (by omega)⟩, fun c4 => hgood (by omega)⟩⟩, fun c2 => hgood (by omega)⟩⟩
  · symm
    rw [nameB_iff]
    exact ⟨by omega, by omega, h2, fun i x hx => g2 i x (by have := (List.getElem?_eq_some_iff.1 hx).1; omega) hx⟩

theorem labelsB_false {l : List TLbl} (h : labelsB l ≠ true) : false = labelsB l := by
  cases hh : labelsB l with
  | false => rfl
  | true => exact absurd hh h

theorem lblAt_iff {l : List TLbl} {i : Nat} : lblAt l i = true ↔ nameB (l.getD i default).1 = true ∧ nameB (l.getD i default).2 = true ∧ (i = 0 ∨ sLt (l.getD (i - 1) default).1 (l.getD i default).1) := by
  unfold lblAt
  simp only [Bool.and_eq_true, Bool.or_eq_true, beq_iff_eq, and_assoc, slt_iff]

theorem f50.ok (a : List TLbl) (h : lbls_pre a) : f50.vc a := by
  unfold f50.vc
  refine ⟨fun h0 => labelsB_false fun hh => by have := (labelsB_iff.1 hh).1; omega, fun h0 => ?_⟩
  refine ⟨fun y => 0 ≤ y.2 ∧ y.2 ≤ (a.length : Int) ∧ (∀ i, i < y.2.toNat → lblAt a i = true) ∧ (0 < y.2 → y.1 = (at_ a (y.2 - 1)).1), fun y => a.length - y.2.toNat, ⟨by simp only; omega, by simp only; omega, fun i hi => by simp at hi, fun h => by simp at h⟩, fun y hy => ?_⟩
  obtain ⟨last, y⟩ := y
  obtain ⟨g0, g1, g2, g3⟩ := hy
  simp only at g0 g1 g2 g3 ⊢
  refine ⟨fun hlt => ?_, fun hge => ?_⟩
  · obtain ⟨n1, n2⟩ := h _ (at_mem g0 hlt)
    have hbad : ¬ lblAt a y.toNat = true → false = labelsB a := fun hn => labelsB_false fun hh => hn ((labelsB_iff.1 hh).2 _ (by omega))
    have hgood : lblAt a y.toNat = true → -9223372036854775808 ≤ (y + (1 : Int)) ∧ (y + (1 : Int)) ≤ 9223372036854775807 ∧ (0 ≤ y + 1 ∧ y + 1 ≤ (a.length : Int) ∧ (∀ i, i < (y + 1).toNat → lblAt a i = true) ∧ (0 < y + 1 → (at_ a y).1 = (at_ a (y + 1 - 1)).1)) ∧ a.length - (y + 1).toNat < a.length - y.toNat := fun hg => by
      refine ⟨by omega, by omega, ⟨by omega, by omega, fun i hi => ?_, fun _ => by rw [Int.add_sub_cancel]⟩, by omega⟩
      by_cases he : i = y.toNat
      · subst he; exact hg
      · exact g2 i (by omega)
    rw [lblAt_iff, ← at_getD] at hbad hgood
    have hprev : 0 < y → (a.getD (y.toNat - 1) default) = at_ a (y - 1) := fun _ => by unfold at_; congr 1; omega
    refine ⟨g0, hlt, n1, fun c1 => hbad fun hh => c1 hh.1, fun c1 => ⟨n2, fun c2 => hbad fun hh => c2 hh.2.1, fun c2 => ⟨fun c3 => ⟨fun c4 => ?_, fun c4 => ?_⟩, fun c3 => ?_⟩⟩⟩
    · refine hbad fun hh => ?_
      rcases hh.2.2 with h1 | h1
      · omega
      · rw [hprev c3, ← g3 c3] at h1
        have := slt_not.2 c4
        rw [slt_iff.2 h1] at this
        cases this
    · refine hgood ⟨Classical.not_not.1 c1, Classical.not_not.1 c2, .inr ?_⟩
      rw [hprev c3, ← g3 c3]
      cases hh : slt last (at_ a y).1 with
      | true => exact slt_iff.1 hh
      | false => exact absurd (slt_not.1 hh) c4
    · exact hgood ⟨Classical.not_not.1 c1, Classical.not_not.1 c2, .inl (by omega)⟩
  · symm
    rw [labelsB_iff]
    exact ⟨by omega, fun i hi => g2 i (by omega)⟩

theorem f59.ok (a : List TLbl) (h : lbls_pre a) : f59.vc a := by
  unfold f59.vc
  refine ⟨fun h0 => labelsB_false fun hh => by have := (labelsB_iff.1 hh).1; omega, fun h0 => ?_⟩
  refine ⟨fun y => 0 ≤ y ∧ y ≤ (a.length : Int) ∧ (∀ i, i < y.toNat → lblAt a i = true), fun y => a.length - y.toNat, ⟨by omega, by omega, fun i hi => by simp at hi⟩, fun y hy => ?_⟩
  obtain ⟨g0, g1, g2⟩ := hy
  refine ⟨fun hlt => ?_, fun hge => ?_⟩
  · obtain ⟨n1, n2⟩ := h _ (at_mem g0 hlt)
    have hbad : ¬ lblAt a y.toNat = true → false = labelsB a := fun hn => labelsB_false fun hh => hn ((labelsB_iff.1 hh).2 _ (by omega))
    have hgood : lblAt a y.toNat = true → -9223372036854775808 ≤ (y + (1 : Int)) ∧ (y + (1 : Int)) ≤ 9223372036854775807 ∧ (0 ≤ y + 1 ∧ y + 1 ≤ (a.length : Int) ∧ (∀ i, i < (y + 1).toNat → lblAt a i = true)) ∧ a.length - (y + 1).toNat < a.length - y.toNat := fun hg => by
      refine ⟨by omega, by omega, ⟨by omega, by omega, fun i hi => ?_⟩, by omega⟩
      by_cases he : i = y.toNat
      · subst he; exact hg
      · exact g2 i (by omega)
    rw [lblAt_iff, ← at_getD] at hbad hgood
    have hprev : 0 < y → (a.getD (y.toNat - 1) default) = at_ a (y - 1) := fun _ => by unfold at_; congr 1; omega
    refine ⟨g0, hlt, n1, fun c1 => hbad fun hh => c1 hh.1, fun c1 => ⟨g0, hlt, n2, fun c2 => hbad fun hh => c2 hh.2.1, fun c2 => ⟨fun c3 => ⟨by omega, by omega, by omega, by omega, g0, hlt, fun c4 => ?_, fun c4 => ?_⟩, fun c3 => ?_⟩⟩⟩
    · refine hbad fun hh => ?_
      rcases hh.2.2 with h1 | h1
      · omega
      · rw [hprev c3] at h1
        exact c4 h1
    · refine hgood ⟨Classical.not_not.1 c1, Classical.not_not.1 c2, .inr ?_⟩
      rw [hprev c3]
      exact Classical.not_not.1 c4
    · exact hgood ⟨Classical.not_not.1 c1, Classical.not_not.1 c2, .inl (by omega)⟩
  · symm
    rw [labelsB_iff]
    exact ⟨by omega, fun i hi => g2 i (by omega)⟩

theorem rightB_false {l : TRes} (h : rightB l ≠ true) : false = rightB l := by
  cases hh : rightB l with
  | false => rfl
  | true => exact absurd hh h

theorem right_vc (a : TRes) : f49.vc a := by
  unfold f49.vc
  have hb : ¬ ((0 ≤ a.1 ∧ a.1 ≤ 1048576) ∧ (0 ≤ a.2.1 ∧ a.2.1 ≤ 1048576) ∧ (0 ≤ a.2.2 ∧ a.2.2 ≤ 1048576)) → false = rightB a := fun h => rightB_false fun hh => h (rightB_iff.1 hh)
  refine ⟨fun h => hb (by omega), fun h1 => ⟨fun h => hb (by omega), fun h2 => ⟨fun h => hb (by omega), fun h3 => ⟨fun h => hb (by omega), fun h4 => ⟨fun h => hb (by omega), fun h5 => ⟨fun h => hb (by omega), fun h6 => ?_⟩⟩⟩⟩⟩⟩
  symm
  rw [rightB_iff]
  omega

theorem f49.ok (a : TRes) (_ : True) : f49.vc a := right_vc a
theorem f55.ok (a : TRes) (_ : True) : f55.vc a := right_vc a

theorem f35.ok (a : TNode) (h : node_pre a) : f35.vc a := by
  obtain ⟨h1, h2⟩ := h
  refine ⟨h1, fun c1 => ⟨fun c2 => ⟨h2, ?_⟩, fun c2 => ?_⟩, fun c1 => ?_⟩
  · unfold nodeB; rw [c1, c2]; rfl
  · unfold nodeB; rw [c1, Bool.eq_false_iff.2 c2]; rfl
  · unfold nodeB; rw [Bool.eq_false_iff.2 c1]; rfl
theorem f36.ok (a : TNode) (h : node_pre a) : f36.vc a := f35.ok a h

theorem f25.ok (a : TQueue) (h : queue_pre a) : f25.vc a := by
  refine ⟨h, fun c1 => ?_, fun c1 => ?_⟩
  · unfold queueB; rw [c1]; rfl
  · unfold queueB; rw [Bool.eq_false_iff.2 c1]; rfl
theorem f37.ok (a : TQueue) (h : queue_pre a) : f37.vc a := f25.ok a h

theorem f51.ok (a : ByteArray) (h : name_pre a) : f51.vc a := by
  refine ⟨fun c1 => ?_, fun c1 => ⟨h, ?_⟩⟩
  · subst c1; rfl
  · unfold maybeB
    have : (a.size == 0) = false := by
      rw [beq_eq_false_iff_ne]
      exact fun hh => c1 (size_zero.2 hh)
    rw [this]; rfl

theorem taskB_false {t : TTask} (h : ¬ (nameB t.1 = true ∧ nameB t.2.1 = true ∧ (0 ≤ t.2.2.1 ∧ t.2.2.1 ≤ 9) ∧ rightB t.2.2.2.1 = true ∧ labelsB t.2.2.2.2.1 = true ∧ maybeB t.2.2.2.2.2.1 = true ∧ maybeB t.2.2.2.2.2.2.1 = true ∧ sizeB t.2.2.2.2.2.2.1 t.2.2.2.2.2.2.2 = true)) : false = taskB t := by
  cases hh : taskB t with
  | false => rfl
  | true => exact absurd (taskB_iff.1 hh) h

theorem f24.ok (a : TTask) (h : task_pre a) : f24.vc a := by
  obtain ⟨p1, p2, p3, p4, p5⟩ := h
  unfold f24.vc
  refine ⟨p1, fun c => taskB_false fun hh => c hh.1, fun c1 => ⟨p2, fun c => taskB_false fun hh => c hh.2.1, fun c2 => ⟨fun c => taskB_false fun hh => by have := hh.2.2.1; omega, fun c3 => ⟨fun c => taskB_false fun hh => by have := hh.2.2.1; omega, fun c4 =>
    ⟨fun c => taskB_false fun hh => c hh.2.2.2.1, fun c5 => ⟨p3, fun c => taskB_false fun hh => c hh.2.2.2.2.1, fun c6 => ⟨p4, fun c => taskB_false fun hh => c hh.2.2.2.2.2.1, fun c7 => ⟨p5, fun c => taskB_false fun hh => c hh.2.2.2.2.2.2.1, fun c8 => ?_⟩⟩⟩⟩⟩⟩⟩⟩
  have e : taskB a = sizeB a.2.2.2.2.2.2.1 a.2.2.2.2.2.2.2 := by
    rw [Bool.eq_iff_iff, taskB_iff]
    exact ⟨fun h => h.2.2.2.2.2.2.2, fun h => ⟨Classical.not_not.1 c1, Classical.not_not.1 c2, ⟨by omega, by omega⟩, Classical.not_not.1 c5, Classical.not_not.1 c6, Classical.not_not.1 c7, Classical.not_not.1 c8, h⟩⟩
  rw [e]
  refine ⟨fun c => ?_, fun c => ⟨fun d => ?_, fun d => ?_⟩⟩
  · rw [Bool.eq_iff_iff, sizeB_iff, beq_iff_eq]
    have := size_zero.1 c
    omega
  · have : a.2.2.2.2.2.2.1.size ≠ 0 := fun hh => c (size_zero.2 hh)
    rw [Bool.eq_iff_iff, sizeB_iff, decide_eq_true_eq]
    omega
  · have : a.2.2.2.2.2.2.1.size ≠ 0 := fun hh => c (size_zero.2 hh)
    rw [Bool.eq_iff_iff, sizeB_iff]
    constructor
    · intro h; cases h
    · intro h; omega

theorem f38.ok (a : TTask) (h : task_pre a) : f38.vc a := by
  obtain ⟨p1, p2, p3, p4, p5⟩ := h
  unfold f38.vc
  have maybe_e : ∀ s : ByteArray, s = ByteArray.empty → maybeB s = true := fun s hs => by subst hs; rfl
  have maybe_n : ∀ s : ByteArray, nameB s = true → maybeB s = true := fun s hs => by unfold maybeB; rw [hs, Bool.or_true]
  have maybe_c : ∀ s : ByteArray, ¬ s = ByteArray.empty → maybeB s = true → nameB s = true := fun s hs hm => by
    unfold maybeB at hm
    simp only [Bool.or_eq_true, beq_iff_eq] at hm
    exact hm.resolve_left fun hh => hs (size_zero.2 hh)
  refine ⟨p1, fun c => taskB_false fun hh => c hh.1, fun c1 => ⟨p2, fun c => taskB_false fun hh => c hh.2.1, fun c2 => ⟨fun c => taskB_false fun hh => by have := hh.2.2.1; omega, fun c3 => ⟨fun c => taskB_false fun hh => by have := hh.2.2.1; omega, fun c4 =>
    ⟨fun c => taskB_false fun hh => c hh.2.2.2.1, fun c5 => ⟨p3, fun c => taskB_false fun hh => c hh.2.2.2.2.1, fun c6 => ?_⟩⟩⟩⟩⟩⟩
  have rest : maybeB a.2.2.2.2.2.1 = true →
      (a.2.2.2.2.2.2.1 = ByteArray.empty → ((a.2.2.2.2.2.2.2 == (0 : Int)) = taskB a)) ∧
      (¬ (a.2.2.2.2.2.2.1 = ByteArray.empty) → name_pre a.2.2.2.2.2.2.1 ∧
        ((nameB (a.2.2.2.2.2.2.1)) = true → ((2 : Int) ≤ a.2.2.2.2.2.2.2 → (decide (a.2.2.2.2.2.2.2 ≤ (4 : Int)) = taskB a)) ∧ (¬ ((2 : Int) ≤ a.2.2.2.2.2.2.2) → (false = taskB a))) ∧
        (¬ ((nameB (a.2.2.2.2.2.2.1)) = true) → (false = taskB a))) := fun c7 => by
    have e : maybeB a.2.2.2.2.2.2.1 = true → taskB a = sizeB a.2.2.2.2.2.2.1 a.2.2.2.2.2.2.2 := fun c8 => by
      rw [Bool.eq_iff_iff, taskB_iff]
      exact ⟨fun h => h.2.2.2.2.2.2.2, fun h => ⟨Classical.not_not.1 c1, Classical.not_not.1 c2, ⟨by omega, by omega⟩, Classical.not_not.1 c5, Classical.not_not.1 c6, c7, c8, h⟩⟩
    refine ⟨fun c => ?_, fun c => ⟨p5, fun d => ⟨fun d1 => ?_, fun d1 => ?_⟩, fun d => taskB_false fun hh => d (maybe_c _ c hh.2.2.2.2.2.2.1)⟩⟩
    · rw [e (maybe_e _ c), Bool.eq_iff_iff, sizeB_iff, beq_iff_eq]
      have := size_zero.1 c
      omega
    · have : a.2.2.2.2.2.2.1.size ≠ 0 := fun hh => c (size_zero.2 hh)
      rw [e (maybe_n _ d), Bool.eq_iff_iff, sizeB_iff, decide_eq_true_eq]
      omega
    · have : a.2.2.2.2.2.2.1.size ≠ 0 := fun hh => c (size_zero.2 hh)
      rw [e (maybe_n _ d), Bool.eq_iff_iff, sizeB_iff]
      constructor
      · intro h; cases h
      · intro h; omega
  refine ⟨fun c => ⟨p4, fun d => taskB_false fun hh => d (maybe_c _ c hh.2.2.2.2.2.1), fun d => rest (maybe_n _ (Classical.not_not.1 d))⟩, fun c => rest (maybe_e _ (Classical.not_not.1 c))⟩

end Go.Abs

/- Bytes of tasks: what the code asks is so. -/
namespace Go.Abs
open Go

theorem f60.ok (a : ByteArray) (h : same_pre a) : f60.vc a := by
  unfold same_pre S28 at h
  exact ⟨by omega, empty_app a⟩

theorem f65.ok (a : Int) (h : number_pre a) : f65.vc a := by
  obtain ⟨h0, h1⟩ := h
  exact ⟨h0, by omega, ⟨h0, by omega⟩, rfl⟩

theorem number_of {n : Int} (h : 0 ≤ n ∧ n ≤ 1048576) : number_pre n := ⟨h.1, by omega⟩
theorem numS_size {n : Int} (h : 0 ≤ n ∧ n ≤ 1048576) : (numS n).size ≤ 9 := num_small (by omega)

theorem f63.ok (a : TRes) (h : amt_pre a) : f63.vc a := by
  obtain ⟨h1, h2, h3⟩ := rightB_iff.1 h
  have s1 := numS_size h1
  have s2 := numS_size h2
  have s3 := numS_size h3
  refine ⟨number_of h1, number_of h2, by omega, number_of h3, by rw [app_size]; omega, rfl⟩

theorem f62.ok (a : ByteArray × TRes) (h : putAmt_pre a) : f62.vc a := by
  obtain ⟨h0, h⟩ := h
  obtain ⟨h1, h2, h3⟩ := rightB_iff.1 h
  unfold S28 at h0
  have s1 := numS_size h1
  have s2 := numS_size h2
  have s3 := numS_size h3
  unfold numS at s1 s2 s3
  refine ⟨by omega, by omega, ⟨by simp only; omega, by simp only; unfold U64; omega⟩, by omega, by omega, ⟨?_, by simp only; unfold U64; omega⟩, by omega, by omega, ⟨?_, by simp only; unfold U64; omega⟩, ?_⟩
  · simp only [putB, app_size]; omega
  · simp only [putB, app_size]; omega
  · simp only [putB, putAmt, amtS, app_assoc]

theorem f64.ok (a : List TLbl) (h : lblsS_pre a) : f64.vc a := by
  unfold lblsS_pre at h
  have hl := (labelsB_iff.1 h).1
  have hz := lbl_size h
  refine ⟨⟨by omega, by omega⟩, fun y => 0 ≤ y.2 ∧ y.2 ≤ (a.length : Int) ∧ y.1 = num a.length ++ lblsS0 (a.take y.2.toNat), fun y => a.length - y.2.toNat, ⟨by simp only; omega, by simp only; omega, ?_⟩, fun y hy => ?_⟩
  · simp [lblsS0, numS]
  · obtain ⟨b, y⟩ := y
    obtain ⟨g0, g1, g2⟩ := hy
    simp only at g0 g1 g2 ⊢
    refine ⟨fun hlt => ?_, fun hge => ?_⟩
    · have hm := hz _ (at_mem g0 hlt)
      have z1 := textS_size (s := (at_ a y).1) (by omega)
      have z2 := textS_size (s := (at_ a y).2) (by omega)
      have hb : b.size ≤ 300 := by
        subst g2
        have := lblsS0_size (l := a.take y.toNat) (fun x hx => hz x (List.mem_of_mem_take hx))
        have e := num_small (n := a.length) (by omega)
        rw [List.length_take] at this
        rw [app_size]
        omega
      have t1 : text_pre (at_ a y).1 := by unfold text_pre; omega
      have t2 : text_pre (at_ a y).2 := by unfold text_pre; omega
      refine ⟨g0, hlt, t1, by omega, g0, hlt, t2, by rw [app_size]; omega, by omega, by omega, ⟨by omega, by omega, ?_⟩, by omega⟩
      rw [show (y + 1).toNat = y.toNat + 1 from by omega, lblsS0_take (by omega), g2, at_getD]
      simp only [app_assoc]
    · rw [g2, List.take_of_length_le (by omega)]
      rfl

theorem f61.ok (a : ByteArray × List TLbl) (h : putLbls_pre a) : f61.vc a := by
  obtain ⟨p, a⟩ := a
  obtain ⟨h0, h⟩ := h
  simp only at h0 h
  unfold S27 at h0
  have hl := (labelsB_iff.1 h).1
  have hz := lbl_size h
  refine ⟨by simp only; omega, by simp only; omega, ⟨by simp only; omega, by simp only; unfold U64; omega⟩, fun y => 0 ≤ y.2 ∧ y.2 ≤ (a.length : Int) ∧ y.1 = p ++ (num a.length ++ lblsS0 (a.take y.2.toNat)), fun y => a.length - y.2.toNat, ⟨by simp only; omega, by simp only; omega, ?_⟩, fun y hy => ?_⟩
  · simp [lblsS0, putB]
  · obtain ⟨b, y⟩ := y
    obtain ⟨g0, g1, g2⟩ := hy
    simp only at g0 g1 g2 ⊢
    refine ⟨fun hlt => ?_, fun hge => ?_⟩
    · have hm := hz _ (at_mem g0 hlt)
      have z1 := textS_size (s := (at_ a y).1) (by omega)
      have z2 := textS_size (s := (at_ a y).2) (by omega)
      have hb : b.size ≤ 300 + p.size := by
        subst g2
        have := lblsS0_size (l := a.take y.toNat) (fun x hx => hz x (List.mem_of_mem_take hx))
        have e := num_small (n := a.length) (by omega)
        rw [List.length_take] at this
        rw [app_size, app_size]
        omega
      have et : ∀ (b s : ByteArray), putText (b, s) = b ++ textS s := fun b s => by unfold putText textS; rw [app_assoc]
      refine ⟨g0, hlt, ⟨by simp only; omega, by simp only; omega⟩, ⟨?_, by simp only; omega⟩, by omega, by omega, ⟨by omega, by omega, ?_⟩, by omega⟩
      · simp only [et, app_size]; omega
      · rw [show (y + 1).toNat = y.toNat + 1 from by omega, lblsS0_take (by omega), et, et, g2, at_getD]
        simp only [app_assoc]
    · rw [g2, List.take_of_length_le (by omega)]
      rfl

theorem putText_eq (b s : ByteArray) : putText (b, s) = b ++ textS s := by unfold putText textS; rw [app_assoc]

theorem f39.ok (a : ByteArray × TNode) (h : putNode_pre a) : f39.vc a := by
  obtain ⟨p, n⟩ := a
  obtain ⟨h0, h1⟩ := h
  simp only at h0 h1
  refine ⟨h1, fun c => ⟨by show p.size ≤ _; omega, ?_⟩, fun c => ?_⟩
  · unfold putNode nodeS sameB
    simp only
    rw [if_neg c, app_empty]
  · have c : nodeB n = true := Classical.not_not.1 c
    obtain ⟨n1, n2, n3⟩ := nodeB_iff.1 c
    have a1 := name_size n1
    have a2 := textS_size (s := n.1) (by omega)
    have a3 := amtS_size n2
    refine ⟨⟨by simp only; omega, by simp only; omega⟩, ⟨?_, n2⟩, ⟨?_, n3⟩, ?_⟩
    · simp only [putText_eq]; unfold S28; rw [app_size]; omega
    · simp only [putText_eq, putAmt]; unfold S27; rw [app_size, app_size]; omega
    · simp only [putText_eq, putAmt, putLbls, putNode, nodeS, nodeS0, c, if_true, app_assoc]

theorem f41.ok (a : ByteArray × TQueue) (h : putQueue_pre a) : f41.vc a := by
  obtain ⟨p, n⟩ := a
  obtain ⟨h0, h1⟩ := h
  simp only at h0 h1
  refine ⟨h1, fun c => ⟨by show p.size ≤ _; omega, ?_⟩, fun c => ?_⟩
  · unfold putQueue queueS sameB
    simp only
    rw [if_neg c, app_empty]
  · have c : queueB n = true := Classical.not_not.1 c
    obtain ⟨n1, n2⟩ := queueB_iff.1 c
    have a1 := name_size n1
    have a2 := textS_size (s := n.1) (by omega)
    refine ⟨⟨by simp only; omega, by simp only; omega⟩, ⟨?_, n2⟩, ?_⟩
    · simp only [putText_eq]; unfold S28; rw [app_size]; omega
    · simp only [putText_eq, putAmt, putQueue, queueS, queueS0, c, if_true, app_assoc]

theorem f43.ok (a : ByteArray × TTask) (h : putTask_pre a) : f43.vc a := by
  obtain ⟨p, t⟩ := a
  obtain ⟨h0, h1⟩ := h
  simp only at h0 h1
  refine ⟨h1, fun c => ⟨by show p.size ≤ _; omega, ?_⟩, fun c => ?_⟩
  · unfold putTask taskS sameB
    simp only
    rw [if_neg c, app_empty]
  · have c : taskB t = true := Classical.not_not.1 c
    obtain ⟨h1, h2, h3, h4, h5, h6, h7, h8⟩ := taskB_iff.1 c
    have a1 := name_size h1
    have a2 := name_size h2
    have a6 := maybe_size h6
    have a7 := maybe_size h7
    have b1 := textS_size (s := t.1) (by omega)
    have b2 := textS_size (s := t.2.1) (by omega)
    have b3 := num_small (n := t.2.2.1.toNat) (by omega)
    have b4 := amtS_size h4
    have b5 := lblsS_size h5
    have b6 := textS_size (s := t.2.2.2.2.2.1) (by omega)
    have b7 := textS_size (s := t.2.2.2.2.2.2.1) (by omega)
    have hn : 0 ≤ t.2.2.2.2.2.2.2 ∧ t.2.2.2.2.2.2.2 ≤ 4 := by rcases sizeB_iff.1 h8 with h | h <;> omega
    refine ⟨⟨by simp only; omega, by simp only; omega⟩, ⟨?_, by simp only; omega⟩, h3.1, by simp only; omega, ⟨?_, by simp only; unfold U64; omega⟩, ⟨?_, h4⟩, ⟨?_, h5⟩, ⟨?_, by simp only; omega⟩, ⟨?_, by simp only; omega⟩, hn.1, by simp only; omega, ⟨?_, by simp only; unfold U64; omega⟩, ?_⟩
    all_goals try (simp only [putText_eq, putAmt, putLbls, putB, S28, S27, app_size]; omega)
    simp only [putText_eq, putAmt, putLbls, putB, putTask, taskS, taskS0, c, if_true, app_assoc]

theorem f40.ok (a : TNode) (h : node_pre a) : f40.vc a := by
  refine ⟨h, fun c => ?_, fun c => ?_⟩
  · unfold nodeS
    rw [if_neg c]
  · have c := Classical.not_not.1 c
    obtain ⟨n1, n2, n3⟩ := nodeB_iff.1 c
    have a1 := name_size n1
    have a2 := textS_size (s := a.1) (by omega)
    have a3 := amtS_size n2
    have a4 := lblsS_size n3
    refine ⟨by unfold text_pre; omega, n2, by omega, n3, by rw [app_size]; omega, ?_⟩
    simp only [nodeS, nodeS0, c, if_true]

theorem f42.ok (a : TQueue) (h : queue_pre a) : f42.vc a := by
  refine ⟨h, fun c => ?_, fun c => ?_⟩
  · unfold queueS
    rw [if_neg c]
  · have c := Classical.not_not.1 c
    obtain ⟨n1, n2⟩ := queueB_iff.1 c
    have a1 := name_size n1
    have a2 := textS_size (s := a.1) (by omega)
    have a3 := amtS_size n2
    refine ⟨by unfold text_pre; omega, n2, by omega, ?_⟩
    simp only [queueS, queueS0, c, if_true]

theorem f44.ok (a : TTask) (h : task_pre a) : f44.vc a := by
  refine ⟨h, fun c => ?_, fun c => ?_⟩
  · unfold taskS
    rw [if_neg c]
  · have c := Classical.not_not.1 c
    obtain ⟨h1, h2, h3, h4, h5, h6, h7, h8⟩ := taskB_iff.1 c
    have a1 := name_size h1
    have a2 := name_size h2
    have a6 := maybe_size h6
    have a7 := maybe_size h7
    have b1 := textS_size (s := a.1) (by omega)
    have b2 := textS_size (s := a.2.1) (by omega)
    have b3 := num_small (n := a.2.2.1.toNat) (by omega)
    have b4 := amtS_size h4
    have b5 := lblsS_size h5
    have b6 := textS_size (s := a.2.2.2.2.2.1) (by omega)
    have b7 := textS_size (s := a.2.2.2.2.2.2.1) (by omega)
    have hn : 0 ≤ a.2.2.2.2.2.2.2 ∧ a.2.2.2.2.2.2.2 ≤ 4 := by rcases sizeB_iff.1 h8 with h | h <;> omega
    have b8 := num_small (n := a.2.2.2.2.2.2.2.toNat) (by omega)
    refine ⟨by unfold text_pre; omega, by unfold text_pre; omega, ?_, number_of ⟨h3.1, by omega⟩, ?_, h4, ?_, h5, ?_, by unfold text_pre; omega, ?_, by unfold text_pre; omega, ?_, number_of ⟨hn.1, by omega⟩, ?_, ?_⟩
    all_goals first | omega | (simp only [numS, app_size]; omega) | skip
    unfold taskS
    rw [if_pos c]
    rfl

theorem labs5_iff {l : List TLbl} : labs5 l = true ↔ l.length ≤ 100 ∧ ∀ i, i < l.length → (l.getD i default).1.size + (l.getD i default).2.size ≤ 1000 := by
  unfold labs5
  simp only [Bool.and_eq_true, decide_eq_true_eq, List.all_eq_true, List.mem_range]

theorem labs5_false {l : List TLbl} (h : ¬ labs5 l = true) : false = labs5 l := (Bool.eq_false_iff.2 h).symm

theorem f47.ok (a : List TLbl) (h : lbls_pre a) : f47.vc a := by
  refine ⟨fun c => labs5_false fun hh => by have := (labs5_iff.1 hh).1; omega, fun c => ?_⟩
  refine ⟨fun y => 0 ≤ y ∧ y ≤ (a.length : Int) ∧ (∀ i, i < y.toNat → (a.getD i default).1.size + (a.getD i default).2.size ≤ 1000), fun y => a.length - y.toNat, ⟨by omega, by omega, fun i hi => by simp at hi⟩, fun y hy => ?_⟩
  obtain ⟨g0, g1, g2⟩ := hy
  refine ⟨fun hlt => ?_, fun hge => ?_⟩
  · obtain ⟨n1, n2⟩ := h _ (at_mem g0 hlt)
    refine ⟨g0, hlt, g0, hlt, by omega, by omega, fun d => labs5_false fun hh => ?_, fun d => ⟨by omega, by omega, ⟨by omega, by omega, fun i hi => ?_⟩, by simp only; omega⟩⟩
    · have := (labs5_iff.1 hh).2 y.toNat (by omega)
      rw [← at_getD] at this
      omega
    · by_cases he : i = y.toNat
      · subst he
        rw [← at_getD]
        omega
      · exact g2 i (by omega)
  · symm
    rw [labs5_iff]
    exact ⟨by omega, fun i hi => g2 i (by omega)⟩

theorem f23.ok (a : TNode × TQueue × TTask) (h : few5_pre a) : f23.vc a := by
  obtain ⟨⟨p1, p2⟩, p3, q1, q2, q3, q4, q5⟩ := h
  unfold queue_pre at p3
  unfold name_pre at p1 p3 q1 q2 q4 q5
  refine ⟨p2, fun c1 => ⟨q3, fun c2 => ⟨by omega, by omega, by omega, by omega, by omega, by omega, by omega, by omega, by omega, by omega, ?_⟩, fun c2 => ?_⟩, fun c1 => ?_⟩
  · unfold few5
    rw [c1, c2, Bool.true_and, Bool.true_and]
    rw [Bool.eq_iff_iff, decide_eq_true_eq, decide_eq_true_eq]
    omega
  · unfold few5
    rw [c1, Bool.eq_false_iff.2 c2]
    rfl
  · unfold few5
    rw [Bool.eq_false_iff.2 c1]
    rfl

end Go.Abs

-- interregnum/interregnumlaw05.ModelGangs
namespace Go.Abs
open Go
def f7.wf (a : T_api_Task × ByteArray × Int) : Prop := k_api_Task.ok a.1 ∧ k_str.ok a.2.1 ∧ k_i64.ok a.2.2
def f7.size (a : T_api_Task × ByteArray × Int) : Nat := k_api_Task.size a.1 + (k_str.size a.2.1 + (k_i64.size a.2.2))
def f7.lpre (a : T_api_Task × ByteArray × Int) : Prop := f7.wf a ∧ f7.size a ≤ 1048576
def f7.args (a : T_api_Task × ByteArray × Int) : List D := [.agg [.str a.1.1, .str a.1.2.1, .int .i64 a.1.2.2.1, .int .i64 a.1.2.2.2.1.1, .int .i64 a.1.2.2.2.1.2.1, .int .i64 a.1.2.2.2.1.2.2, .slice .ro 2 a.1.2.2.2.2.1.length (gl e_api_Label a.1.2.2.2.2.1), .str a.1.2.2.2.2.2.1, .str a.1.2.2.2.2.2.2.1, .int .i64 a.1.2.2.2.2.2.2.2], .str a.2.1, .int .i64 a.2.2]
def f7.blks (a : T_api_Task × ByteArray × Int) : List (List D) := []
def f7.res (a : T_api_Task × ByteArray × Int) : List D := [.bool (lawTrue a)]
def f7.blks' (a : T_api_Task × ByteArray × Int) : List (List D) := []
def f7.C : Contract := FnC f7.args f7.blks (fun a => f7.lpre a) f7.res f7.blks'
end Go.Abs

/- interregnum/interregnumlaw05.ModelGangs -/
namespace Go.Abs
open Go
set_option linter.unusedVariables false
def f7.kills (a : T_api_Task × ByteArray × Int) : List Hint := []
def f7.cuts (a : T_api_Task × ByteArray × Int) : List (Nat × Σ β : Type, β → Tm) := []
def f7.af (a : T_api_Task × ByteArray × Int) : AF := AF.mk (.seq (.region [⟨(some 3), 0, .box, [.t 0], none⟩,
  ⟨(some 6), 1, .move, [.c (.bool false)], none⟩])
 (.seq (.seq (.region [⟨(some 8), 2, (.call false 22), [], none⟩,
  ⟨(some 9), 6, (.un .not), [.t 8], none⟩,
  ⟨(some 10), 7, .move, [.t 9], none⟩,
  ⟨(some 11), 8, (.build [.str ByteArray.empty, .int .i64 (0), .int .i64 (0), .int .i64 (0), .slice .full 2 0 gnil] []), [], (some (10, false))⟩,
  ⟨(some 12), 9, (.build [.str ByteArray.empty, .int .i64 (0), .int .i64 (0), .int .i64 (0)] []), [], (some (10, false))⟩,
  ⟨(some 13), 10, (.load true 10), [.t 3], (some (10, false))⟩,
  ⟨(some 14), 11, (.call false 23), [.t 11, .t 12, .t 13], (some (10, false))⟩,
  ⟨(some 15), 15, (.un .not), [.t 14], (some (10, false))⟩,
  ⟨(some 16), 16, .pick, [.t 10, .c (.bool true), .t 15], none⟩,
  ⟨(some 17), 17, .move, [.t 16], none⟩,
  ⟨(some 18), 18, .move, [.t 1], (some (17, false))⟩,
  ⟨(some 19), 19, (.len true), [.t 18], (some (17, false))⟩,
  ⟨(some 20), 20, (.bin .gtr), [.t 19, .c (.int .i64 (1000))], (some (17, false))⟩,
  ⟨(some 21), 21, .pick, [.t 17, .c (.bool true), .t 20], none⟩,
  ⟨(some 22), 22, .move, [.t 21], none⟩,
  ⟨(some 23), 23, (.load true 10), [.t 3], (some (22, false))⟩,
  ⟨(some 24), 24, (.call false 24), [.t 23], (some (22, false))⟩,
  ⟨(some 25), 28, (.un .not), [.t 24], (some (22, false))⟩,
  ⟨(some 26), 29, .pick, [.t 22, .c (.bool true), .t 25], none⟩])
 (.cond (.t 26) (.seq (.region [⟨(some 27), 30, (.call false 22), [], none⟩,
  ⟨(some 6), 34, .move, [.t 27], none⟩])
 (.ret)) (.skip)))
 (.seq (.region [⟨(some 28), 35, (.fieldAddr 8), [.t 3], none⟩,
  ⟨none, 36, (.store 1), [.t 28, .c (.str ByteArray.empty)], none⟩,
  ⟨(some 29), 37, (.fieldAddr 9), [.t 3], none⟩,
  ⟨none, 38, (.store 1), [.t 29, .c (.int .i64 (0))], none⟩])
 (.seq (.seq (.region [⟨(some 30), 39, (.load true 10), [.t 3], none⟩,
  ⟨(some 31), 40, (.call false 24), [.t 30], none⟩,
  ⟨(some 32), 44, (.un .not), [.t 31], none⟩])
 (.cond (.t 32) (.seq (.region [⟨(some 6), 45, .move, [.c (.bool false)], none⟩])
 (.ret)) (.skip)))
 (.seq (.region [⟨(some 33), 46, .move, [.t 2], none⟩,
  ⟨(some 34), 47, (.fieldAddr 9), [.t 3], none⟩,
  ⟨none, 48, (.store 1), [.t 34, .t 33], none⟩])
 (.seq (.seq (.region [⟨(some 35), 49, (.load true 10), [.t 3], none⟩,
  ⟨(some 36), 50, (.call false 24), [.t 35], none⟩,
  ⟨(some 37), 54, .move, [.t 2], none⟩,
  ⟨(some 38), 55, (.bin .eql), [.t 37, .c (.int .i64 (0))], none⟩,
  ⟨(some 39), 56, (.binB true), [.t 36, .t 38], none⟩])
 (.cond (.t 39) (.seq (.region [⟨(some 6), 57, .move, [.c (.bool false)], none⟩])
 (.ret)) (.skip)))
 (.seq (.region [⟨(some 40), 58, .move, [.t 1], none⟩,
  ⟨(some 41), 59, (.fieldAddr 8), [.t 3], none⟩,
  ⟨none, 60, (.store 1), [.t 41, .t 40], none⟩])
 (.seq (.region [⟨(some 42), 61, .move, [.t 1], none⟩,
  ⟨(some 43), 62, (.build [.str ByteArray.empty, .int .i64 (0), .int .i64 (0), .int .i64 (0)] [(0, 1)]), [.t 42], none⟩,
  ⟨(some 44), 63, (.call false 25), [.t 43], none⟩,
  ⟨(some 7), 67, .move, [.t 44], none⟩])
 (.seq (.seq (.region [⟨(some 45), 68, .move, [.t 1], none⟩,
  ⟨(some 46), 69, (.bin .eql), [.t 45, .c (.str ByteArray.empty)], none⟩])
 (.cond (.t 46) (.seq (.region [⟨(some 47), 70, (.load true 10), [.t 3], none⟩,
  ⟨(some 48), 71, (.call false 24), [.t 47], none⟩,
  ⟨(some 49), 75, .move, [.t 2], none⟩,
  ⟨(some 50), 76, (.bin .eql), [.t 49, .c (.int .i64 (0))], none⟩,
  ⟨(some 51), 77, (.binB false), [.t 48, .t 50], none⟩,
  ⟨(some 6), 78, .move, [.t 51], none⟩])
 (.ret)) (.skip)))
 (.seq (.region [⟨(some 52), 79, (.load true 10), [.t 3], none⟩,
  ⟨(some 53), 80, (.call false 24), [.t 52], none⟩,
  ⟨(some 54), 84, .move, [.t 7], none⟩,
  ⟨(some 55), 85, .move, [.t 54], none⟩,
  ⟨(some 56), 86, .move, [.t 2], (some (55, true))⟩,
  ⟨(some 57), 87, (.bin .geq), [.t 56, .c (.int .i64 (2))], (some (55, true))⟩,
  ⟨(some 58), 88, .pick, [.t 55, .t 57, .c (.bool false)], none⟩,
  ⟨(some 59), 89, .move, [.t 58], none⟩,
  ⟨(some 60), 90, .move, [.t 2], (some (59, true))⟩,
  ⟨(some 61), 91, (.bin .leq), [.t 60, .c (.int .i64 (4))], (some (59, true))⟩,
  ⟨(some 62), 92, .pick, [.t 59, .t 61, .c (.bool false)], none⟩,
  ⟨(some 63), 93, (.binB false), [.t 53, .t 62], none⟩,
  ⟨(some 6), 94, .move, [.t 63], none⟩])
 (.ret)))))))))))
  [.tmp 6] 0 61
def f7.env : Env := [(22, f22.C), (23, f23.C), (24, f24.C), (25, f25.C)]
def f7.tree (a : T_api_Task × ByteArray × Int) : Prop := ∃ c1 : Unit, True ∧ Br (!(lawTrue c1)) (∃ c4 : Unit, True ∧ ((lawTrue c4) = (lawTrue a)) ∧ True) (∃ c7 : T_api_Node × T_api_Queue × T_api_Task, (ByteArray.empty = c7.1.1) ∧ ((0 : Int) = c7.1.2.1.1) ∧ ((0 : Int) = c7.1.2.1.2.1) ∧ ((0 : Int) = c7.1.2.1.2.2) ∧ (0 = c7.1.2.2.length) ∧ (∀ i, i < c7.1.2.2.length → DEqs (gnil i) ((gl e_api_Label c7.1.2.2) i)) ∧ (ByteArray.empty = c7.2.1.1) ∧ ((0 : Int) = c7.2.1.2.1) ∧ ((0 : Int) = c7.2.1.2.2.1) ∧ ((0 : Int) = c7.2.1.2.2.2) ∧ (a.1.1 = c7.2.2.1) ∧ (a.1.2.1 = c7.2.2.2.1) ∧ (a.1.2.2.1 = c7.2.2.2.2.1) ∧ (a.1.2.2.2.1.1 = c7.2.2.2.2.2.1.1) ∧ (a.1.2.2.2.1.2.1 = c7.2.2.2.2.2.1.2.1) ∧ (a.1.2.2.2.1.2.2 = c7.2.2.2.2.2.1.2.2) ∧ (a.1.2.2.2.2.1.length = c7.2.2.2.2.2.2.1.length) ∧ (∀ i, i < c7.2.2.2.2.2.2.1.length → DEqs ((gl e_api_Label a.1.2.2.2.2.1) i) ((gl e_api_Label c7.2.2.2.2.2.2.1) i)) ∧ (a.1.2.2.2.2.2.1 = c7.2.2.2.2.2.2.2.1) ∧ (a.1.2.2.2.2.2.2.1 = c7.2.2.2.2.2.2.2.2.1) ∧ (a.1.2.2.2.2.2.2.2 = c7.2.2.2.2.2.2.2.2.2) ∧ (few5_pre c7) ∧ Br (!(few5 c7)) (∃ c10 : Unit, True ∧ ((lawTrue c10) = (lawTrue a)) ∧ True) (Br (decide ((1000 : Int) < (a.2.1.size : Int))) (∃ c15 : Unit, True ∧ ((lawTrue c15) = (lawTrue a)) ∧ True) (∃ c18 : T_api_Task, (a.1.1 = c18.1) ∧ (a.1.2.1 = c18.2.1) ∧ (a.1.2.2.1 = c18.2.2.1) ∧ (a.1.2.2.2.1.1 = c18.2.2.2.1.1) ∧ (a.1.2.2.2.1.2.1 = c18.2.2.2.1.2.1) ∧ (a.1.2.2.2.1.2.2 = c18.2.2.2.1.2.2) ∧ (a.1.2.2.2.2.1.length = c18.2.2.2.2.1.length) ∧ (∀ i, i < c18.2.2.2.2.1.length → DEqs ((gl e_api_Label a.1.2.2.2.2.1) i) ((gl e_api_Label c18.2.2.2.2.1) i)) ∧ (a.1.2.2.2.2.2.1 = c18.2.2.2.2.2.1) ∧ (a.1.2.2.2.2.2.2.1 = c18.2.2.2.2.2.2.1) ∧ (a.1.2.2.2.2.2.2.2 = c18.2.2.2.2.2.2.2) ∧ (task_pre c18) ∧ Br (!(taskB c18)) (∃ c21 : Unit, True ∧ ((lawTrue c21) = (lawTrue a)) ∧ True) (∃ c24 : T_api_Task, (a.1.1 = c24.1) ∧ (a.1.2.1 = c24.2.1) ∧ (a.1.2.2.1 = c24.2.2.1) ∧ (a.1.2.2.2.1.1 = c24.2.2.2.1.1) ∧ (a.1.2.2.2.1.2.1 = c24.2.2.2.1.2.1) ∧ (a.1.2.2.2.1.2.2 = c24.2.2.2.1.2.2) ∧ (a.1.2.2.2.2.1.length = c24.2.2.2.2.1.length) ∧ (∀ i, i < c24.2.2.2.2.1.length → DEqs ((gl e_api_Label a.1.2.2.2.2.1) i) ((gl e_api_Label c24.2.2.2.2.1) i)) ∧ (a.1.2.2.2.2.2.1 = c24.2.2.2.2.2.1) ∧ (ByteArray.empty = c24.2.2.2.2.2.2.1) ∧ ((0 : Int) = c24.2.2.2.2.2.2.2) ∧ (task_pre c24) ∧ Br (!(taskB c24)) ((false = (lawTrue a)) ∧ True) (∃ c28 : T_api_Task, (a.1.1 = c28.1) ∧ (a.1.2.1 = c28.2.1) ∧ (a.1.2.2.1 = c28.2.2.1) ∧ (a.1.2.2.2.1.1 = c28.2.2.2.1.1) ∧ (a.1.2.2.2.1.2.1 = c28.2.2.2.1.2.1) ∧ (a.1.2.2.2.1.2.2 = c28.2.2.2.1.2.2) ∧ (a.1.2.2.2.2.1.length = c28.2.2.2.2.1.length) ∧ (∀ i, i < c28.2.2.2.2.1.length → DEqs ((gl e_api_Label a.1.2.2.2.2.1) i) ((gl e_api_Label c28.2.2.2.2.1) i)) ∧ (a.1.2.2.2.2.2.1 = c28.2.2.2.2.2.1) ∧ (ByteArray.empty = c28.2.2.2.2.2.2.1) ∧ (a.2.2 = c28.2.2.2.2.2.2.2) ∧ (task_pre c28) ∧ Br (!((taskB c28) == (a.2.2 == (0 : Int)))) ((false = (lawTrue a)) ∧ True) (∃ c32 : T_api_Queue, (a.2.1 = c32.1) ∧ ((0 : Int) = c32.2.1) ∧ ((0 : Int) = c32.2.2.1) ∧ ((0 : Int) = c32.2.2.2) ∧ (queue_pre c32) ∧ Br (a.2.1.toList == ByteArray.empty.toList) (∃ c35 : T_api_Task, (a.1.1 = c35.1) ∧ (a.1.2.1 = c35.2.1) ∧ (a.1.2.2.1 = c35.2.2.1) ∧ (a.1.2.2.2.1.1 = c35.2.2.2.1.1) ∧ (a.1.2.2.2.1.2.1 = c35.2.2.2.1.2.1) ∧ (a.1.2.2.2.1.2.2 = c35.2.2.2.1.2.2) ∧ (a.1.2.2.2.2.1.length = c35.2.2.2.2.1.length) ∧ (∀ i, i < c35.2.2.2.2.1.length → DEqs ((gl e_api_Label a.1.2.2.2.2.1) i) ((gl e_api_Label c35.2.2.2.2.1) i)) ∧ (a.1.2.2.2.2.2.1 = c35.2.2.2.2.2.1) ∧ (a.2.1 = c35.2.2.2.2.2.2.1) ∧ (a.2.2 = c35.2.2.2.2.2.2.2) ∧ (task_pre c35) ∧ (((taskB c35) == (a.2.2 == (0 : Int))) = (lawTrue a)) ∧ True) (∃ c38 : T_api_Task, (a.1.1 = c38.1) ∧ (a.1.2.1 = c38.2.1) ∧ (a.1.2.2.1 = c38.2.2.1) ∧ (a.1.2.2.2.1.1 = c38.2.2.2.1.1) ∧ (a.1.2.2.2.1.2.1 = c38.2.2.2.1.2.1) ∧ (a.1.2.2.2.1.2.2 = c38.2.2.2.1.2.2) ∧ (a.1.2.2.2.2.1.length = c38.2.2.2.2.1.length) ∧ (∀ i, i < c38.2.2.2.2.1.length → DEqs ((gl e_api_Label a.1.2.2.2.2.1) i) ((gl e_api_Label c38.2.2.2.2.1) i)) ∧ (a.1.2.2.2.2.2.1 = c38.2.2.2.2.2.1) ∧ (a.2.1 = c38.2.2.2.2.2.2.1) ∧ (a.2.2 = c38.2.2.2.2.2.2.2) ∧ (task_pre c38) ∧ Br (queueB c32) (Br (decide ((2 : Int) ≤ a.2.2)) ((((taskB c38) == (decide (a.2.2 ≤ (4 : Int)))) = (lawTrue a)) ∧ True) ((((taskB c38) == false) = (lawTrue a)) ∧ True)) ((((taskB c38) == false) = (lawTrue a)) ∧ True))))))))
def f7.vc (a : T_api_Task × ByteArray × Int) : Prop := ((¬ ((lawTrue ()) = true) → ((lawTrue ()) = lawTrue a)) ∧ (¬ (¬ ((lawTrue ()) = true)) → (few5_pre ((ByteArray.empty, ((0 : Int), (0 : Int), (0 : Int)), []), (ByteArray.empty, ((0 : Int), (0 : Int), (0 : Int))), a.1) ∧ ((¬ ((few5 ((ByteArray.empty, ((0 : Int), (0 : Int), (0 : Int)), []), (ByteArray.empty, ((0 : Int), (0 : Int), (0 : Int))), a.1)) = true) → ((lawTrue ()) = lawTrue a)) ∧ (¬ (¬ ((few5 ((ByteArray.empty, ((0 : Int), (0 : Int), (0 : Int)), []), (ByteArray.empty, ((0 : Int), (0 : Int), (0 : Int))), a.1)) = true)) → (((1000 : Int) < (a.2.1.size : Int) → ((lawTrue ()) = lawTrue a)) ∧ (¬ ((1000 : Int) < (a.2.1.size : Int)) → (task_pre a.1 ∧ ((¬ ((taskB (a.1)) = true) → ((lawTrue ()) = lawTrue a)) ∧ (¬ (¬ ((taskB (a.1)) = true)) → (task_pre (a.1.1, a.1.2.1, a.1.2.2.1, a.1.2.2.2.1, a.1.2.2.2.2.1, a.1.2.2.2.2.2.1, ByteArray.empty, (0 : Int)) ∧ ((¬ ((taskB (a.1.1, a.1.2.1, a.1.2.2.1, a.1.2.2.2.1, a.1.2.2.2.2.1, a.1.2.2.2.2.2.1, ByteArray.empty, (0 : Int))) = true) → (false = lawTrue a)) ∧ (¬ (¬ ((taskB (a.1.1, a.1.2.1, a.1.2.2.1, a.1.2.2.2.1, a.1.2.2.2.2.1, a.1.2.2.2.2.2.1, ByteArray.empty, (0 : Int))) = true)) → (task_pre (a.1.1, a.1.2.1, a.1.2.2.1, a.1.2.2.2.1, a.1.2.2.2.2.1, a.1.2.2.2.2.2.1, ByteArray.empty, a.2.2) ∧ (((!((taskB (a.1.1, a.1.2.1, a.1.2.2.1, a.1.2.2.2.1, a.1.2.2.2.2.1, a.1.2.2.2.2.2.1, ByteArray.empty, a.2.2)) == (a.2.2 == (0 : Int)))) = true → (false = lawTrue a)) ∧ (¬ ((!((taskB (a.1.1, a.1.2.1, a.1.2.2.1, a.1.2.2.2.1, a.1.2.2.2.2.1, a.1.2.2.2.2.2.1, ByteArray.empty, a.2.2)) == (a.2.2 == (0 : Int)))) = true) → (queue_pre (a.2.1, ((0 : Int), (0 : Int), (0 : Int))) ∧ ((a.2.1 = ByteArray.empty → (task_pre (a.1.1, a.1.2.1, a.1.2.2.1, a.1.2.2.2.1, a.1.2.2.2.2.1, a.1.2.2.2.2.2.1, a.2.1, a.2.2) ∧ (((taskB (a.1.1, a.1.2.1, a.1.2.2.1, a.1.2.2.2.1, a.1.2.2.2.2.1, a.1.2.2.2.2.2.1, a.2.1, a.2.2)) == (a.2.2 == (0 : Int))) = lawTrue a))) ∧ (¬ (a.2.1 = ByteArray.empty) → (task_pre (a.1.1, a.1.2.1, a.1.2.2.1, a.1.2.2.2.1, a.1.2.2.2.2.1, a.1.2.2.2.2.2.1, a.2.1, a.2.2) ∧ (((queueB (a.2.1, ((0 : Int), (0 : Int), (0 : Int)))) = true → (((2 : Int) ≤ a.2.2 → (((taskB (a.1.1, a.1.2.1, a.1.2.2.1, a.1.2.2.2.1, a.1.2.2.2.2.1, a.1.2.2.2.2.2.1, a.2.1, a.2.2)) == (decide (a.2.2 ≤ (4 : Int)))) = lawTrue a)) ∧ (¬ ((2 : Int) ≤ a.2.2) → (((taskB (a.1.1, a.1.2.1, a.1.2.2.1, a.1.2.2.2.1, a.1.2.2.2.2.1, a.1.2.2.2.2.2.1, a.2.1, a.2.2)) == false) = lawTrue a)))) ∧ (¬ ((queueB (a.2.1, ((0 : Int), (0 : Int), (0 : Int)))) = true) → (((taskB (a.1.1, a.1.2.1, a.1.2.2.1, a.1.2.2.2.1, a.1.2.2.2.2.1, a.1.2.2.2.2.2.1, a.2.1, a.2.2)) == false) = lawTrue a)))))))))))))))))))))))
set_option maxRecDepth 100000 in
set_option maxHeartbeats 2000000 in
theorem f7.of (a : T_api_Task × ByteArray × Int) (h : f7.vc a) : f7.tree a := ⟨(), ⟨trivial, br h (Cnd.not Cnd.b) (fun h2 k68 => ⟨(), ⟨trivial, ⟨k68, trivial⟩⟩⟩) (fun h3 k69 => ⟨((ByteArray.empty, ((0 : Int), (0 : Int), (0 : Int)), []), (ByteArray.empty, ((0 : Int), (0 : Int), (0 : Int))), a.1), ⟨rfl, ⟨rfl, ⟨rfl, ⟨rfl, slK (Rds.nil (enc := e_api_Label)) (⟨rfl, ⟨rfl, ⟨rfl, ⟨rfl, ⟨rfl, ⟨rfl, ⟨rfl, ⟨rfl, ⟨rfl, ⟨rfl, slK (Rds.self (enc := e_api_Label)) (⟨rfl, ⟨rfl, ⟨rfl, ⟨k69.1, br k69.2 (Cnd.not Cnd.b) (fun h8 k65 => ⟨(), ⟨trivial, ⟨k65, trivial⟩⟩⟩) (fun h9 k66 => br k66 Cnd.dec (fun h13 k63 => ⟨(), ⟨trivial, ⟨k63, trivial⟩⟩⟩) (fun h14 k64 => ⟨a.1, ⟨rfl, ⟨rfl, ⟨rfl, ⟨rfl, ⟨rfl, ⟨rfl, slK (Rds.self (enc := e_api_Label)) (⟨rfl, ⟨rfl, ⟨rfl, ⟨k64.1, br k64.2 (Cnd.not Cnd.b) (fun h19 k60 => ⟨(), ⟨trivial, ⟨k60, trivial⟩⟩⟩) (fun h20 k61 => ⟨(a.1.1, a.1.2.1, a.1.2.2.1, a.1.2.2.2.1, a.1.2.2.2.2.1, a.1.2.2.2.2.2.1, ByteArray.empty, (0 : Int)), ⟨rfl, ⟨rfl, ⟨rfl, ⟨rfl, ⟨rfl, ⟨rfl, slK (Rds.self (enc := e_api_Label)) (⟨rfl, ⟨rfl, ⟨rfl, ⟨k61.1, br k61.2 (Cnd.not Cnd.b) (fun h25 k57 => ⟨k57, trivial⟩) (fun h26 k58 => ⟨(a.1.1, a.1.2.1, a.1.2.2.1, a.1.2.2.2.1, a.1.2.2.2.2.1, a.1.2.2.2.2.2.1, ByteArray.empty, a.2.2), ⟨rfl, ⟨rfl, ⟨rfl, ⟨rfl, ⟨rfl, ⟨rfl, slK (Rds.self (enc := e_api_Label)) (⟨rfl, ⟨rfl, ⟨rfl, ⟨k58.1, br k58.2 Cnd.b (fun h29 k54 => ⟨k54, trivial⟩) (fun h30 k55 => ⟨(a.2.1, ((0 : Int), (0 : Int), (0 : Int))), ⟨rfl, ⟨rfl, ⟨rfl, ⟨rfl, ⟨k55.1, br k55.2 Cnd.seq (fun h33 k51 => ⟨(a.1.1, a.1.2.1, a.1.2.2.1, a.1.2.2.2.1, a.1.2.2.2.2.1, a.1.2.2.2.2.2.1, a.2.1, a.2.2), ⟨rfl, ⟨rfl, ⟨rfl, ⟨rfl, ⟨rfl, ⟨rfl, slK (Rds.self (enc := e_api_Label)) (⟨rfl, ⟨rfl, ⟨rfl, ⟨k51.1, ⟨k51.2, trivial⟩⟩⟩⟩⟩)⟩⟩⟩⟩⟩⟩⟩) (fun h34 k52 => ⟨(a.1.1, a.1.2.1, a.1.2.2.1, a.1.2.2.2.1, a.1.2.2.2.2.1, a.1.2.2.2.2.2.1, a.2.1, a.2.2), ⟨rfl, ⟨rfl, ⟨rfl, ⟨rfl, ⟨rfl, ⟨rfl, slK (Rds.self (enc := e_api_Label)) (⟨rfl, ⟨rfl, ⟨rfl, ⟨k52.1, br k52.2 Cnd.b (fun h39 k48 => br k48 Cnd.dec (fun h41 k45 => ⟨k45, trivial⟩) (fun h42 k46 => ⟨k46, trivial⟩)) (fun h40 k49 => ⟨k49, trivial⟩)⟩⟩⟩⟩)⟩⟩⟩⟩⟩⟩⟩)⟩⟩⟩⟩⟩⟩)⟩⟩⟩⟩)⟩⟩⟩⟩⟩⟩⟩)⟩⟩⟩⟩)⟩⟩⟩⟩⟩⟩⟩)⟩⟩⟩⟩)⟩⟩⟩⟩⟩⟩⟩))⟩⟩⟩⟩)⟩⟩⟩⟩⟩⟩⟩⟩⟩⟩)⟩⟩⟩⟩⟩)⟩⟩
theorem f7.eq (a : T_api_Task × ByteArray × Int) : (f7.af a).gives f7.env (f7.args a) (f7.blks a) (f7.res a) (f7.blks' a) = f7.tree a := by kernel_rfl
end Go.Abs

/- The laws ModelGangs and ModelRights. -/
namespace Go.Abs
open Go

theorem f22.ok (a : Unit) (_ : True) : f22.vc a := by
  have hq : queueB (f22.s0, ((0 : Int), (0 : Int), (0 : Int))) = true := by decide +kernel
  have hq1 : queueB (f22.s0, ((1 : Int), (0 : Int), (0 : Int))) = true := by decide +kernel
  have e : putQueue (ByteArray.empty, (f22.s0, ((1 : Int), (0 : Int), (0 : Int)))) = ⟨#[1, 1, 113, 1, 1, 0, 0]⟩ := by
    unfold putQueue queueS
    simp only
    rw [if_pos hq1, empty_app]
    apply bytes_ext
    decide +kernel
  unfold f22.vc
  rw [e]
  refine ⟨⟨Nat.le_of_ble_eq_true rfl, Nat.le_of_ble_eq_true rfl⟩, Nat.le_of_ble_eq_true rfl, fun _ => ⟨fun _ => ⟨by decide, rfl⟩, fun h => absurd (by decide) h⟩, fun h => absurd hq h⟩

theorem sum_mem {α : Type} (f : α → Nat) {l : List α} {x : α} (h : x ∈ l) : f x ≤ (l.map f).sum := by
  induction l with
  | nil => cases h
  | cons y l ih =>
    simp only [List.map_cons, List.sum_cons]
    rcases List.mem_cons.1 h with rfl | h
    · omega
    · have := ih h
      omega

theorem lbls_of_size {l : List TLbl} (h : k_sl_api_Label.size l ≤ 1048576) : lbls_pre l := fun x hx => by
  have h1 : k_api_Label.size x ≤ (l.map k_api_Label.size).sum := sum_mem _ hx
  have h2 : (l.map k_api_Label.size).sum + 1 ≤ 1048576 := h
  have h3 : x.1.size + 1 + (x.2.size + 1) + 1 = k_api_Label.size x := rfl
  omega
theorem node_of_size {n : TNode} (h : k_api_Node.size n ≤ 1048576) : node_pre n := by
  have h : n.1.size + 1 + (1 + (1 + 1) + 1 + k_sl_api_Label.size n.2.2) + 1 ≤ 1048576 := h
  exact ⟨by unfold name_pre; omega, lbls_of_size (by omega)⟩
theorem queue_of_size {n : TQueue} (h : k_api_Queue.size n ≤ 1048576) : queue_pre n := by
  have h : n.1.size + 1 + (1 + (1 + 1) + 1) + 1 ≤ 1048576 := h
  unfold queue_pre name_pre
  omega
theorem task_of_size {t : TTask} (h : k_api_Task.size t ≤ 1048576) : task_pre t := by
  have h : t.1.size + 1 + (t.2.1.size + 1 + (1 + (1 + (1 + 1) + 1 + (k_sl_api_Label.size t.2.2.2.2.1 + (t.2.2.2.2.2.1.size + 1 + (t.2.2.2.2.2.2.1.size + 1 + 1)))))) + 1 ≤ 1048576 := h
  refine ⟨?_, ?_, lbls_of_size (by omega), ?_, ?_⟩ <;> unfold name_pre <;> omega

theorem beq_self_not (b : Bool) : ¬ ((!(b == b)) = true) := by cases b <;> simp

theorem f12.ok (a : ByteArray × TNode × TQueue × TTask) (h : f12.lpre a) : f12.vc a := by
  obtain ⟨_, hs⟩ := h
  obtain ⟨b, n, q, t⟩ := a
  have hs : b.size + 1 + (k_api_Node.size n + (k_api_Queue.size q + k_api_Task.size t)) ≤ 1048576 := hs
  have hn := node_of_size (n := n) (by omega)
  have hq := queue_of_size (n := q) (by omega)
  have ht := task_of_size (t := t) (by omega)
  have zn : (nodeS n).size ≤ 300 := by unfold nodeS; split; · rename_i h; exact nodeS0_size h
                                       · exact Nat.zero_le _
  have zq : (queueS q).size ≤ 100 := by unfold queueS; split; · rename_i h; exact queueS0_size h
                                        · exact Nat.zero_le _
  have zt : (taskS t).size ≤ 500 := by unfold taskS; split; · rename_i h; exact taskS0_size h
                                       · exact Nat.zero_le _
  refine ⟨fun _ => rfl, fun _ => ⟨⟨hn, hq, ht⟩, fun _ => rfl, fun _ => ⟨hn, hn, fun c => absurd c (beq_self_not _), fun _ => ⟨hq, hq, fun c => absurd c (beq_self_not _), fun _ => ⟨ht, ht, fun c => absurd c (beq_self_not _), fun _ => ?_⟩⟩⟩⟩⟩
  simp only
  refine ⟨⟨by simp only; omega, hn⟩, hn, by omega, fun _ => ⟨⟨by simp only; omega, hq⟩, hq, by omega, fun _ => ⟨⟨by simp only; omega, ht⟩, ht, by omega, ?_⟩, fun c => absurd rfl c⟩, fun c => absurd rfl c⟩
  show ((b ++ taskS t).toList == (b ++ taskS t).toList) = true
  rw [beq_self_eq_true]

theorem maybe_empty : maybeB ByteArray.empty = true := rfl

theorem task_gang {t : TTask} (h : taskB t = true) (g : ByteArray) (n : Int) : taskB (t.1, t.2.1, t.2.2.1, t.2.2.2.1, t.2.2.2.2.1, t.2.2.2.2.2.1, g, n) = (maybeB g && sizeB g n) := by
  obtain ⟨h1, h2, h3, h4, h5, h6, h7, h8⟩ := taskB_iff.1 h
  rw [Bool.eq_iff_iff, taskB_iff, Bool.and_eq_true]
  exact ⟨fun h => ⟨h.2.2.2.2.2.2.1, h.2.2.2.2.2.2.2⟩, fun h => ⟨h1, h2, h3, h4, h5, h6, h.1, h.2⟩⟩

theorem f7.ok (a : TTask × ByteArray × Int) (h : f7.lpre a) : f7.vc a := by
  obtain ⟨_, hs⟩ := h
  obtain ⟨t, g, n⟩ := a
  have hs : k_api_Task.size t + (g.size + 1 + 1) ≤ 1048576 := hs
  have ht := task_of_size (t := t) (by omega)
  obtain ⟨p1, p2, p3, p4, p5⟩ := ht
  have pre : ∀ (g : ByteArray) (n : Int), name_pre g → task_pre (t.1, t.2.1, t.2.2.1, t.2.2.2.1, t.2.2.2.2.1, t.2.2.2.2.2.1, g, n) := fun g n hg => ⟨p1, p2, p3, p4, hg⟩
  have ge : name_pre ByteArray.empty := Nat.zero_le _
  have gg : name_pre g := by unfold name_pre; omega
  have e0 : sizeB ByteArray.empty n = (n == 0) := rfl
  refine ⟨fun _ => rfl, fun _ => ⟨⟨⟨ge, fun x hx => by cases hx⟩, ge, p1, p2, p3, p4, p5⟩, fun _ => rfl, fun _ => ⟨fun _ => rfl, fun hg => ⟨⟨p1, p2, p3, p4, p5⟩, fun _ => rfl, fun c => ?_⟩⟩⟩⟩
  have c : taskB t = true := Classical.not_not.1 c
  simp only
  refine ⟨pre _ _ ge, fun d => absurd (task_gang c ByteArray.empty 0) (by rw [Bool.eq_false_iff.2 d]; simp [maybe_empty, sizeB, empty_size]), fun d => ⟨pre _ _ ge, fun d => ?_, fun d => ?_⟩⟩
  · rw [task_gang c, maybe_empty, Bool.true_and, e0] at d
    exact absurd d (beq_self_not _)
  · refine ⟨gg, fun e => ⟨pre _ _ gg, ?_⟩, fun e => ⟨pre _ _ gg, fun q => ⟨fun f => ?_, fun f => ?_⟩, fun q => ?_⟩⟩
    · rw [task_gang c, e, maybe_empty, Bool.true_and, e0, beq_self_eq_true]
      rfl
    all_goals
      have hne : g.size ≠ 0 := fun hh => e (size_zero.2 hh)
      rw [task_gang c]
      have hm : maybeB g = nameB g := by
        unfold maybeB
        have : (g.size == 0) = false := by rw [beq_eq_false_iff_ne]; exact hne
        rw [this, Bool.false_or]
      rw [hm]
      have hqq : queueB (g, ((0 : Int), (0 : Int), (0 : Int))) = nameB g := by
        unfold queueB
        simp [rightB, okN]
      rw [hqq] at q
      show _ = true
    · rw [q, Bool.true_and, beq_iff_eq, Bool.eq_iff_iff, sizeB_iff, decide_eq_true_eq]
      omega
    · rw [q, Bool.true_and, beq_iff_eq, Bool.eq_false_iff, Ne, sizeB_iff]
      omega
    · rw [Bool.eq_false_iff.2 q]
      rfl

end Go.Abs
