/- Functions, and what the code asks of them: PFeasLaw2. -/
import Derived.KernelRfl
import Derived.Test.YtabnaedcnfkmiacBbdc85751
import Derived.Test.YtabnaedcnfkmiacBc37455d2
import Derived.Test.YtabnaedcnfkmiacB4d205f27
import Derived.Test.YtabnaedcnfkmiacB1ec9780c
import Derived.Test.YtabnaedcnfkmiacB13c4c5ae
import Derived.Test.YtabnaedcnfkmiacBa8de0e59
import Derived.Test.YtabnaedcnfkmiacB095f748d
import Derived.Test.YtabnaedcnfkmiacBad2d180a
set_option linter.unusedVariables false
set_option linter.unusedSimpArgs false
-- interregnum/interregnumlaw11.FeasReasons
namespace Go.Abs
open Go
def f263.wf (a : T_api_Machine × (List (T_api_Job)) × T_api_Task) : Prop := k_api_Machine.ok a.1 ∧ k_sl_api_Job.ok a.2.1 ∧ k_api_Task.ok a.2.2
def f263.size (a : T_api_Machine × (List (T_api_Job)) × T_api_Task) : Nat := k_api_Machine.size a.1 + (k_sl_api_Job.size a.2.1 + (k_api_Task.size a.2.2))
def f263.lpre (a : T_api_Machine × (List (T_api_Job)) × T_api_Task) : Prop := f263.wf a ∧ f263.size a ≤ 1048576
def f263.args (a : T_api_Machine × (List (T_api_Job)) × T_api_Task) : List D := [.agg [.str a.1.1.1, .int .i64 a.1.1.2.1.1, .int .i64 a.1.1.2.1.2.1, .int .i64 a.1.1.2.1.2.2, .slice .ro 2 a.1.1.2.2.length (gl e_api_Label a.1.1.2.2), .bool a.1.2.1, .int .i64 a.1.2.2], .slice .ro 13 a.2.1.length (gl e_api_Job a.2.1), .agg [.str a.2.2.1, .str a.2.2.2.1, .int .i64 a.2.2.2.2.1, .int .i64 a.2.2.2.2.2.1.1, .int .i64 a.2.2.2.2.2.1.2.1, .int .i64 a.2.2.2.2.2.1.2.2, .slice .ro 2 a.2.2.2.2.2.2.1.length (gl e_api_Label a.2.2.2.2.2.2.1), .str a.2.2.2.2.2.2.2.1, .str a.2.2.2.2.2.2.2.2.1, .int .i64 a.2.2.2.2.2.2.2.2.2]]
def f263.blks (a : T_api_Machine × (List (T_api_Job)) × T_api_Task) : List (List D) := []
def f263.res (a : T_api_Machine × (List (T_api_Job)) × T_api_Task) : List D := [.bool (lawTrue a)]
def f263.blks' (a : T_api_Machine × (List (T_api_Job)) × T_api_Task) : List (List D) := []
def f263.C : Contract := FnC f263.args f263.blks (fun a => f263.lpre a) f263.res f263.blks'
end Go.Abs

/- interregnum/interregnumlaw11.FeasReasons -/
namespace Go.Abs
open Go
set_option linter.unusedVariables false
def f263.kills (a : T_api_Machine × (List (T_api_Job)) × T_api_Task) : List Hint := []
def f263.cuts (a : T_api_Machine × (List (T_api_Job)) × T_api_Task) : List (Nat × Σ β : Type, β → Tm) := []
def f263.af (a : T_api_Machine × (List (T_api_Job)) × T_api_Task) : AF := AF.mk (.seq (.region [⟨(some 3), 0, .box, [.t 0], none⟩,
  ⟨(some 5), 1, .box, [.t 2], none⟩,
  ⟨(some 6), 2, .move, [.c (.bool false)], none⟩])
 (.seq (.seq (.region [⟨(some 12), 3, (.call false 109), [], none⟩,
  ⟨(some 13), 7, (.un .not), [.t 12], none⟩,
  ⟨(some 14), 8, .move, [.t 13], none⟩,
  ⟨(some 15), 9, (.load true 7), [.t 3], (some (14, false))⟩,
  ⟨(some 16), 10, (.buildSlice 7 1 [.str ByteArray.empty, .int .i64 (0), .int .i64 (0), .int .i64 (0), .slice .full 2 0 gnil, .bool false, .int .i64 (0)] [(0, 7)]), [.t 15], (some (14, false))⟩,
  ⟨(some 17), 11, .move, [.t 1], (some (14, false))⟩,
  ⟨(some 18), 12, (.call false 110), [.t 16, .t 17], (some (14, false))⟩,
  ⟨(some 19), 16, (.un .not), [.t 18], (some (14, false))⟩,
  ⟨(some 20), 17, .pick, [.t 14, .c (.bool true), .t 19], none⟩,
  ⟨(some 21), 18, .move, [.t 20], none⟩,
  ⟨(some 22), 19, (.fieldAddr 6), [.t 5], (some (21, false))⟩,
  ⟨(some 23), 20, (.load false 1), [.t 22], (some (21, false))⟩,
  ⟨(some 24), 21, (.len false), [.t 23], (some (21, false))⟩,
  ⟨(some 25), 22, (.bin .gtr), [.t 24, .c (.int .i64 (20))], (some (21, false))⟩,
  ⟨(some 26), 23, .pick, [.t 21, .c (.bool true), .t 25], none⟩,
  ⟨(some 27), 24, .move, [.t 26], none⟩,
  ⟨(some 28), 25, (.load true 10), [.t 5], (some (27, false))⟩,
  ⟨(some 29), 26, (.call false 38), [.t 28], (some (27, false))⟩,
  ⟨(some 30), 30, (.un .not), [.t 29], (some (27, false))⟩,
  ⟨(some 31), 31, .pick, [.t 27, .c (.bool true), .t 30], none⟩,
  ⟨(some 32), 32, .move, [.t 31], none⟩,
  ⟨(some 33), 33, (.fieldAddr 0), [.t 3], (some (32, false))⟩,
  ⟨(some 34), 34, (.load true 5), [.t 33], (some (32, false))⟩,
  ⟨(some 35), 35, (.call false 36), [.t 34], (some (32, false))⟩,
  ⟨(some 36), 39, (.un .not), [.t 35], (some (32, false))⟩,
  ⟨(some 37), 40, .pick, [.t 32, .c (.bool true), .t 36], none⟩])
 (.cond (.t 37) (.seq (.region [⟨(some 38), 41, (.call false 109), [], none⟩,
  ⟨(some 6), 45, .move, [.t 38], none⟩])
 (.ret)) (.skip)))
 (.seq (.region [⟨(some 40), 46, (.load true 7), [.t 3], none⟩,
  ⟨(some 41), 47, .move, [.t 1], none⟩,
  ⟨(some 42), 48, (.call false 112), [.t 40, .t 41], none⟩,
  ⟨(some 39), 52, .move, [.t 42], none⟩,
  ⟨(some 43), 53, (.extract 0), [.t 39], none⟩,
  ⟨(some 44), 54, (.extract 1), [.t 39], none⟩,
  ⟨(some 7), 55, (.alloc [.int .i64 (0), .int .i64 (0), .int .i64 (0)]), [], none⟩,
  ⟨none, 59, (.store 3), [.t 7, .t 43], none⟩,
  ⟨(some 8), 60, .move, [.t 44], none⟩])
 (.seq (.seq (.region [⟨(some 45), 61, .move, [.t 8], none⟩,
  ⟨(some 46), 62, (.bin .neq), [.t 45, .c (.int .i64 (0))], none⟩])
 (.cond (.t 46) (.seq (.region [⟨(some 47), 63, (.load true 7), [.t 3], none⟩,
  ⟨(some 48), 64, .move, [.t 1], none⟩,
  ⟨(some 49), 65, (.load true 10), [.t 5], none⟩,
  ⟨(some 50), 66, (.call false 111), [.t 47, .t 48, .t 49], none⟩,
  ⟨(some 51), 70, (.bin .eql), [.t 50, .c (.int .i64 (5))], none⟩,
  ⟨(some 6), 71, .move, [.t 51], none⟩])
 (.ret)) (.skip)))
 (.seq (.region [⟨(some 52), 72, (.load true 7), [.t 3], none⟩,
  ⟨(some 9), 73, (.alloc [.str ByteArray.empty, .int .i64 (0), .int .i64 (0), .int .i64 (0), .slice (.own 0) 2 0 gnil, .bool false, .int .i64 (0)]), [], none⟩,
  ⟨none, 81, (.store 7), [.t 9, .t 52], none⟩])
 (.seq (.region [⟨(some 53), 82, (.fieldAddr 5), [.t 9], none⟩,
  ⟨none, 83, (.store 1), [.t 53, .c (.bool false)], none⟩])
 (.seq (.seq (.region [⟨(some 54), 84, (.load true 7), [.t 9], none⟩,
  ⟨(some 55), 85, .move, [.t 1], none⟩,
  ⟨(some 56), 86, (.load true 10), [.t 5], none⟩,
  ⟨(some 57), 87, (.call false 111), [.t 54, .t 55, .t 56], none⟩,
  ⟨(some 58), 91, (.bin .neq), [.t 57, .c (.int .i64 (1))], none⟩])
 (.cond (.t 58) (.seq (.region [⟨(some 6), 92, .move, [.c (.bool false)], none⟩])
 (.ret)) (.skip)))
 (.seq (.region [⟨(some 59), 93, (.fieldAddr 5), [.t 3], none⟩,
  ⟨none, 94, (.store 1), [.t 59, .c (.bool true)], none⟩])
 (.seq (.region [⟨(some 60), 95, (.fieldAddr 0), [.t 3], none⟩,
  ⟨(some 61), 96, (.fieldAddr 4), [.t 60], none⟩,
  ⟨none, 97, (.store 1), [.t 61, .c (.slice .full 2 0 gnil)], none⟩])
 (.seq (.seq (.region [⟨(some 62), 98, (.fieldAddr 6), [.t 5], none⟩,
  ⟨(some 63), 99, (.load false 1), [.t 62], none⟩,
  ⟨(some 64), 100, (.len false), [.t 63], none⟩,
  ⟨(some 65), 101, (.bin .gtr), [.t 64, .c (.int .i64 (0))], none⟩])
 (.cond (.t 65) (.seq (.region [⟨(some 66), 102, (.load true 7), [.t 3], none⟩,
  ⟨(some 67), 103, .move, [.t 1], none⟩,
  ⟨(some 68), 104, (.load true 10), [.t 5], none⟩,
  ⟨(some 69), 105, (.call false 111), [.t 66, .t 67, .t 68], none⟩,
  ⟨(some 70), 109, (.bin .eql), [.t 69, .c (.int .i64 (2))], none⟩,
  ⟨(some 6), 110, .move, [.t 70], none⟩])
 (.ret)) (.skip)))
 (.seq (.region [⟨(some 71), 111, (.load true 10), [.t 5], none⟩,
  ⟨(some 72), 112, (.fieldAddr 0), [.t 3], none⟩,
  ⟨(some 73), 113, (.fieldAddr 0), [.t 72], none⟩,
  ⟨(some 74), 114, (.load false 1), [.t 73], none⟩,
  ⟨(some 75), 115, (.build [.str ByteArray.empty, .str ByteArray.empty, .int .i64 (0), .int .i64 (0), .int .i64 (0), .int .i64 (0), .slice .full 2 0 gnil, .str ByteArray.empty, .str ByteArray.empty, .int .i64 (0), .int .i64 (0), .str ByteArray.empty, .int .i64 (0)] [(0, 10), (11, 1)]), [.t 71, .t 74], none⟩,
  ⟨(some 76), 116, (.buildSlice 13 1 [.str ByteArray.empty, .str ByteArray.empty, .int .i64 (0), .int .i64 (0), .int .i64 (0), .int .i64 (0), .slice .full 2 0 gnil, .str ByteArray.empty, .str ByteArray.empty, .int .i64 (0), .int .i64 (0), .str ByteArray.empty, .int .i64 (0)] [(0, 13)]), [.t 75], none⟩,
  ⟨(some 10), 117, .move, [.t 76], none⟩])
 (.seq (.region [⟨(some 77), 118, (.load true 7), [.t 3], none⟩,
  ⟨(some 78), 119, .move, [.t 10], none⟩,
  ⟨(some 79), 120, (.load true 10), [.t 5], none⟩,
  ⟨(some 80), 121, (.call false 111), [.t 77, .t 78, .t 79], none⟩,
  ⟨(some 11), 125, .move, [.t 80], none⟩])
 (.seq (.region [⟨(some 81), 126, .move, [.t 11], none⟩,
  ⟨(some 82), 127, (.bin .eql), [.t 81, .c (.int .i64 (0))], none⟩,
  ⟨(some 83), 128, .move, [.t 82], none⟩,
  ⟨(some 84), 129, .move, [.t 11], (some (83, false))⟩,
  ⟨(some 85), 130, (.bin .eql), [.t 84, .c (.int .i64 (4))], (some (83, false))⟩,
  ⟨(some 86), 131, .pick, [.t 83, .c (.bool true), .t 85], none⟩,
  ⟨(some 87), 132, .move, [.t 86], none⟩,
  ⟨(some 88), 133, .move, [.t 11], (some (87, false))⟩,
  ⟨(some 89), 134, (.bin .eql), [.t 88, .c (.int .i64 (5))], (some (87, false))⟩,
  ⟨(some 90), 135, .pick, [.t 87, .c (.bool true), .t 89], none⟩,
  ⟨(some 6), 136, .move, [.t 90], none⟩])
 (.ret))))))))))))))
  [.tmp 6] 0 88
def f263.env : Env := [(109, f109.C), (110, f110.C), (38, f38.C), (36, f36.C), (112, f112.C), (111, f111.C)]
def f263.tree (a : T_api_Machine × (List (T_api_Job)) × T_api_Task) : Prop := ∃ c1 : Unit, True ∧ Br (!(lawTrue c1)) (∃ c4 : Unit, True ∧ ((lawTrue c4) = (lawTrue a)) ∧ True) (∃ c7 : (List (T_api_Machine)) × (List (T_api_Job)), (1 = c7.1.length) ∧ (∀ i, i < c7.1.length → DEqs ((fun _ => [.str a.1.1.1, .int .i64 a.1.1.2.1.1, .int .i64 a.1.1.2.1.2.1, .int .i64 a.1.1.2.1.2.2, .slice .ro 2 a.1.1.2.2.length (gl e_api_Label a.1.1.2.2), .bool a.1.2.1, .int .i64 a.1.2.2]) i) ((gl e_api_Machine c7.1) i)) ∧ (a.2.1.length = c7.2.length) ∧ (∀ i, i < c7.2.length → DEqs ((gl e_api_Job a.2.1) i) ((gl e_api_Job c7.2) i)) ∧ (few11_pre c7) ∧ Br (!(few11 c7)) (∃ c10 : Unit, True ∧ ((lawTrue c10) = (lawTrue a)) ∧ True) (Br (decide ((20 : Int) < (a.2.2.2.2.2.2.1.length : Int))) (∃ c15 : Unit, True ∧ ((lawTrue c15) = (lawTrue a)) ∧ True) (∃ c18 : T_api_Task, (a.2.2.1 = c18.1) ∧ (a.2.2.2.1 = c18.2.1) ∧ (a.2.2.2.2.1 = c18.2.2.1) ∧ (a.2.2.2.2.2.1.1 = c18.2.2.2.1.1) ∧ (a.2.2.2.2.2.1.2.1 = c18.2.2.2.1.2.1) ∧ (a.2.2.2.2.2.1.2.2 = c18.2.2.2.1.2.2) ∧ (a.2.2.2.2.2.2.1.length = c18.2.2.2.2.1.length) ∧ (∀ i, i < c18.2.2.2.2.1.length → DEqs ((gl e_api_Label a.2.2.2.2.2.2.1) i) ((gl e_api_Label c18.2.2.2.2.1) i)) ∧ (a.2.2.2.2.2.2.2.1 = c18.2.2.2.2.2.1) ∧ (a.2.2.2.2.2.2.2.2.1 = c18.2.2.2.2.2.2.1) ∧ (a.2.2.2.2.2.2.2.2.2 = c18.2.2.2.2.2.2.2) ∧ (task_pre c18) ∧ Br (!(taskB c18)) (∃ c21 : Unit, True ∧ ((lawTrue c21) = (lawTrue a)) ∧ True) (∃ c24 : T_api_Node, (a.1.1.1 = c24.1) ∧ (a.1.1.2.1.1 = c24.2.1.1) ∧ (a.1.1.2.1.2.1 = c24.2.1.2.1) ∧ (a.1.1.2.1.2.2 = c24.2.1.2.2) ∧ (a.1.1.2.2.length = c24.2.2.length) ∧ (∀ i, i < c24.2.2.length → DEqs ((gl e_api_Label a.1.1.2.2) i) ((gl e_api_Label c24.2.2) i)) ∧ (node_pre c24) ∧ Br (!(nodeB c24)) (∃ c27 : Unit, True ∧ ((lawTrue c27) = (lawTrue a)) ∧ True) (∃ c30 : T_api_Machine × (List (T_api_Job)), (a.1.1.1 = c30.1.1.1) ∧ (a.1.1.2.1.1 = c30.1.1.2.1.1) ∧ (a.1.1.2.1.2.1 = c30.1.1.2.1.2.1) ∧ (a.1.1.2.1.2.2 = c30.1.1.2.1.2.2) ∧ (a.1.1.2.2.length = c30.1.1.2.2.length) ∧ (∀ i, i < c30.1.1.2.2.length → DEqs ((gl e_api_Label a.1.1.2.2) i) ((gl e_api_Label c30.1.1.2.2) i)) ∧ (a.1.2.1 = c30.1.2.1) ∧ (a.1.2.2 = c30.1.2.2) ∧ (a.2.1.length = c30.2.length) ∧ (∀ i, i < c30.2.length → DEqs ((gl e_api_Job a.2.1) i) ((gl e_api_Job c30.2) i)) ∧ (free_pre c30) ∧ Br (((freeR c30).2) != (0 : Int)) (∃ c33 : T_api_Machine × (List (T_api_Job)) × T_api_Task, (a.1.1.1 = c33.1.1.1) ∧ (a.1.1.2.1.1 = c33.1.1.2.1.1) ∧ (a.1.1.2.1.2.1 = c33.1.1.2.1.2.1) ∧ (a.1.1.2.1.2.2 = c33.1.1.2.1.2.2) ∧ (a.1.1.2.2.length = c33.1.1.2.2.length) ∧ (∀ i, i < c33.1.1.2.2.length → DEqs ((gl e_api_Label a.1.1.2.2) i) ((gl e_api_Label c33.1.1.2.2) i)) ∧ (a.1.2.1 = c33.1.2.1) ∧ (a.1.2.2 = c33.1.2.2) ∧ (a.2.1.length = c33.2.1.length) ∧ (∀ i, i < c33.2.1.length → DEqs ((gl e_api_Job a.2.1) i) ((gl e_api_Job c33.2.1) i)) ∧ (a.2.2.1 = c33.2.2.1) ∧ (a.2.2.2.1 = c33.2.2.2.1) ∧ (a.2.2.2.2.1 = c33.2.2.2.2.1) ∧ (a.2.2.2.2.2.1.1 = c33.2.2.2.2.2.1.1) ∧ (a.2.2.2.2.2.1.2.1 = c33.2.2.2.2.2.1.2.1) ∧ (a.2.2.2.2.2.1.2.2 = c33.2.2.2.2.2.1.2.2) ∧ (a.2.2.2.2.2.2.1.length = c33.2.2.2.2.2.2.1.length) ∧ (∀ i, i < c33.2.2.2.2.2.2.1.length → DEqs ((gl e_api_Label a.2.2.2.2.2.2.1) i) ((gl e_api_Label c33.2.2.2.2.2.2.1) i)) ∧ (a.2.2.2.2.2.2.2.1 = c33.2.2.2.2.2.2.2.1) ∧ (a.2.2.2.2.2.2.2.2.1 = c33.2.2.2.2.2.2.2.2.1) ∧ (a.2.2.2.2.2.2.2.2.2 = c33.2.2.2.2.2.2.2.2.2) ∧ (why_pre c33) ∧ (((whyR c33) == (5 : Int)) = (lawTrue a)) ∧ True) (∃ c36 : T_api_Machine × (List (T_api_Job)) × T_api_Task, (a.1.1.1 = c36.1.1.1) ∧ (a.1.1.2.1.1 = c36.1.1.2.1.1) ∧ (a.1.1.2.1.2.1 = c36.1.1.2.1.2.1) ∧ (a.1.1.2.1.2.2 = c36.1.1.2.1.2.2) ∧ (a.1.1.2.2.length = c36.1.1.2.2.length) ∧ (∀ i, i < c36.1.1.2.2.length → DEqs ((gl e_api_Label a.1.1.2.2) i) ((gl e_api_Label c36.1.1.2.2) i)) ∧ (false = c36.1.2.1) ∧ (a.1.2.2 = c36.1.2.2) ∧ (a.2.1.length = c36.2.1.length) ∧ (∀ i, i < c36.2.1.length → DEqs ((gl e_api_Job a.2.1) i) ((gl e_api_Job c36.2.1) i)) ∧ (a.2.2.1 = c36.2.2.1) ∧ (a.2.2.2.1 = c36.2.2.2.1) ∧ (a.2.2.2.2.1 = c36.2.2.2.2.1) ∧ (a.2.2.2.2.2.1.1 = c36.2.2.2.2.2.1.1) ∧ (a.2.2.2.2.2.1.2.1 = c36.2.2.2.2.2.1.2.1) ∧ (a.2.2.2.2.2.1.2.2 = c36.2.2.2.2.2.1.2.2) ∧ (a.2.2.2.2.2.2.1.length = c36.2.2.2.2.2.2.1.length) ∧ (∀ i, i < c36.2.2.2.2.2.2.1.length → DEqs ((gl e_api_Label a.2.2.2.2.2.2.1) i) ((gl e_api_Label c36.2.2.2.2.2.2.1) i)) ∧ (a.2.2.2.2.2.2.2.1 = c36.2.2.2.2.2.2.2.1) ∧ (a.2.2.2.2.2.2.2.2.1 = c36.2.2.2.2.2.2.2.2.1) ∧ (a.2.2.2.2.2.2.2.2.2 = c36.2.2.2.2.2.2.2.2.2) ∧ (why_pre c36) ∧ Br ((whyR c36) != (1 : Int)) ((false = (lawTrue a)) ∧ True) (Br (decide ((0 : Int) < (a.2.2.2.2.2.2.1.length : Int))) (∃ c42 : T_api_Machine × (List (T_api_Job)) × T_api_Task, (a.1.1.1 = c42.1.1.1) ∧ (a.1.1.2.1.1 = c42.1.1.2.1.1) ∧ (a.1.1.2.1.2.1 = c42.1.1.2.1.2.1) ∧ (a.1.1.2.1.2.2 = c42.1.1.2.1.2.2) ∧ (0 = c42.1.1.2.2.length) ∧ (∀ i, i < c42.1.1.2.2.length → DEqs (gnil i) ((gl e_api_Label c42.1.1.2.2) i)) ∧ (true = c42.1.2.1) ∧ (a.1.2.2 = c42.1.2.2) ∧ (a.2.1.length = c42.2.1.length) ∧ (∀ i, i < c42.2.1.length → DEqs ((gl e_api_Job a.2.1) i) ((gl e_api_Job c42.2.1) i)) ∧ (a.2.2.1 = c42.2.2.1) ∧ (a.2.2.2.1 = c42.2.2.2.1) ∧ (a.2.2.2.2.1 = c42.2.2.2.2.1) ∧ (a.2.2.2.2.2.1.1 = c42.2.2.2.2.2.1.1) ∧ (a.2.2.2.2.2.1.2.1 = c42.2.2.2.2.2.1.2.1) ∧ (a.2.2.2.2.2.1.2.2 = c42.2.2.2.2.2.1.2.2) ∧ (a.2.2.2.2.2.2.1.length = c42.2.2.2.2.2.2.1.length) ∧ (∀ i, i < c42.2.2.2.2.2.2.1.length → DEqs ((gl e_api_Label a.2.2.2.2.2.2.1) i) ((gl e_api_Label c42.2.2.2.2.2.2.1) i)) ∧ (a.2.2.2.2.2.2.2.1 = c42.2.2.2.2.2.2.2.1) ∧ (a.2.2.2.2.2.2.2.2.1 = c42.2.2.2.2.2.2.2.2.1) ∧ (a.2.2.2.2.2.2.2.2.2 = c42.2.2.2.2.2.2.2.2.2) ∧ (why_pre c42) ∧ (((whyR c42) == (2 : Int)) = (lawTrue a)) ∧ True) (∃ c45 : T_api_Machine × (List (T_api_Job)) × T_api_Task, (a.1.1.1 = c45.1.1.1) ∧ (a.1.1.2.1.1 = c45.1.1.2.1.1) ∧ (a.1.1.2.1.2.1 = c45.1.1.2.1.2.1) ∧ (a.1.1.2.1.2.2 = c45.1.1.2.1.2.2) ∧ (0 = c45.1.1.2.2.length) ∧ (∀ i, i < c45.1.1.2.2.length → DEqs (gnil i) ((gl e_api_Label c45.1.1.2.2) i)) ∧ (true = c45.1.2.1) ∧ (a.1.2.2 = c45.1.2.2) ∧ (1 = c45.2.1.length) ∧ (∀ i, i < c45.2.1.length → DEqs ((fun _ => [.str a.2.2.1, .str a.2.2.2.1, .int .i64 a.2.2.2.2.1, .int .i64 a.2.2.2.2.2.1.1, .int .i64 a.2.2.2.2.2.1.2.1, .int .i64 a.2.2.2.2.2.1.2.2, .slice .ro 2 a.2.2.2.2.2.2.1.length (gl e_api_Label a.2.2.2.2.2.2.1), .str a.2.2.2.2.2.2.2.1, .str a.2.2.2.2.2.2.2.2.1, .int .i64 a.2.2.2.2.2.2.2.2.2, .int .i64 (0 : Int), .str a.1.1.1, .int .i64 (0 : Int)]) i) ((gl e_api_Job c45.2.1) i)) ∧ (a.2.2.1 = c45.2.2.1) ∧ (a.2.2.2.1 = c45.2.2.2.1) ∧ (a.2.2.2.2.1 = c45.2.2.2.2.1) ∧ (a.2.2.2.2.2.1.1 = c45.2.2.2.2.2.1.1) ∧ (a.2.2.2.2.2.1.2.1 = c45.2.2.2.2.2.1.2.1) ∧ (a.2.2.2.2.2.1.2.2 = c45.2.2.2.2.2.1.2.2) ∧ (a.2.2.2.2.2.2.1.length = c45.2.2.2.2.2.2.1.length) ∧ (∀ i, i < c45.2.2.2.2.2.2.1.length → DEqs ((gl e_api_Label a.2.2.2.2.2.2.1) i) ((gl e_api_Label c45.2.2.2.2.2.2.1) i)) ∧ (a.2.2.2.2.2.2.2.1 = c45.2.2.2.2.2.2.2.1) ∧ (a.2.2.2.2.2.2.2.2.1 = c45.2.2.2.2.2.2.2.2.1) ∧ (a.2.2.2.2.2.2.2.2.2 = c45.2.2.2.2.2.2.2.2.2) ∧ (why_pre c45) ∧ Br ((whyR c45) == (0 : Int)) ((true = (lawTrue a)) ∧ True) (Br ((whyR c45) == (4 : Int)) ((true = (lawTrue a)) ∧ True) ((((whyR c45) == (5 : Int)) = (lawTrue a)) ∧ True))))))))))
def f263.vc (a : T_api_Machine × (List (T_api_Job)) × T_api_Task) : Prop := ((¬ ((lawTrue ()) = true) → ((lawTrue ()) = lawTrue a)) ∧ (¬ (¬ ((lawTrue ()) = true)) → (few11_pre ([a.1], a.2.1) ∧ ((¬ ((few11 ([a.1], a.2.1)) = true) → ((lawTrue ()) = lawTrue a)) ∧ (¬ (¬ ((few11 ([a.1], a.2.1)) = true)) → (((20 : Int) < (a.2.2.2.2.2.2.1.length : Int) → ((lawTrue ()) = lawTrue a)) ∧ (¬ ((20 : Int) < (a.2.2.2.2.2.2.1.length : Int)) → (task_pre a.2.2 ∧ ((¬ ((taskB (a.2.2)) = true) → ((lawTrue ()) = lawTrue a)) ∧ (¬ (¬ ((taskB (a.2.2)) = true)) → (node_pre a.1.1 ∧ ((¬ ((nodeB (a.1.1)) = true) → ((lawTrue ()) = lawTrue a)) ∧ (¬ (¬ ((nodeB (a.1.1)) = true)) → (free_pre (a.1, a.2.1) ∧ ((¬ ((freeR (a.1, a.2.1)).2) = (0 : Int) → (why_pre (a.1, a.2.1, a.2.2) ∧ (((whyR (a.1, a.2.1, a.2.2)) == (5 : Int)) = lawTrue a))) ∧ (¬ (¬ ((freeR (a.1, a.2.1)).2) = (0 : Int)) → (why_pre ((a.1.1, false, a.1.2.2), a.2.1, a.2.2) ∧ ((¬ (whyR ((a.1.1, false, a.1.2.2), a.2.1, a.2.2)) = (1 : Int) → (false = lawTrue a)) ∧ (¬ (¬ (whyR ((a.1.1, false, a.1.2.2), a.2.1, a.2.2)) = (1 : Int)) → (((0 : Int) < (a.2.2.2.2.2.2.1.length : Int) → (why_pre (((a.1.1.1, a.1.1.2.1, []), true, a.1.2.2), a.2.1, a.2.2) ∧ (((whyR (((a.1.1.1, a.1.1.2.1, []), true, a.1.2.2), a.2.1, a.2.2)) == (2 : Int)) = lawTrue a))) ∧ (¬ ((0 : Int) < (a.2.2.2.2.2.2.1.length : Int)) → (why_pre (((a.1.1.1, a.1.1.2.1, []), true, a.1.2.2), [(a.2.2, (0 : Int), a.1.1.1, (0 : Int))], a.2.2) ∧ (((whyR (((a.1.1.1, a.1.1.2.1, []), true, a.1.2.2), [(a.2.2, (0 : Int), a.1.1.1, (0 : Int))], a.2.2)) = (0 : Int) → (true = lawTrue a)) ∧ (¬ ((whyR (((a.1.1.1, a.1.1.2.1, []), true, a.1.2.2), [(a.2.2, (0 : Int), a.1.1.1, (0 : Int))], a.2.2)) = (0 : Int)) → (((whyR (((a.1.1.1, a.1.1.2.1, []), true, a.1.2.2), [(a.2.2, (0 : Int), a.1.1.1, (0 : Int))], a.2.2)) = (4 : Int) → (true = lawTrue a)) ∧ (¬ ((whyR (((a.1.1.1, a.1.1.2.1, []), true, a.1.2.2), [(a.2.2, (0 : Int), a.1.1.1, (0 : Int))], a.2.2)) = (4 : Int)) → (((whyR (((a.1.1.1, a.1.1.2.1, []), true, a.1.2.2), [(a.2.2, (0 : Int), a.1.1.1, (0 : Int))], a.2.2)) == (5 : Int)) = lawTrue a)))))))))))))))))))))))))))
set_option maxRecDepth 100000 in
set_option maxHeartbeats 2000000 in
theorem f263.of (a : T_api_Machine × (List (T_api_Job)) × T_api_Task) (h : f263.vc a) : f263.tree a := ⟨(), ⟨trivial, br h (Cnd.not Cnd.b) (fun h2 k77 => ⟨(), ⟨trivial, ⟨k77, trivial⟩⟩⟩) (fun h3 k78 => ⟨([a.1], a.2.1), slK (Rds.one (enc := e_api_Machine) (DEqs.refl _)) (slK (Rds.self (enc := e_api_Job)) (⟨k78.1, br k78.2 (Cnd.not Cnd.b) (fun h8 k74 => ⟨(), ⟨trivial, ⟨k74, trivial⟩⟩⟩) (fun h9 k75 => br k75 Cnd.dec (fun h13 k72 => ⟨(), ⟨trivial, ⟨k72, trivial⟩⟩⟩) (fun h14 k73 => ⟨a.2.2, ⟨rfl, ⟨rfl, ⟨rfl, ⟨rfl, ⟨rfl, ⟨rfl, slK (Rds.self (enc := e_api_Label)) (⟨rfl, ⟨rfl, ⟨rfl, ⟨k73.1, br k73.2 (Cnd.not Cnd.b) (fun h19 k69 => ⟨(), ⟨trivial, ⟨k69, trivial⟩⟩⟩) (fun h20 k70 => ⟨a.1.1, ⟨rfl, ⟨rfl, ⟨rfl, ⟨rfl, slK (Rds.self (enc := e_api_Label)) (⟨k70.1, br k70.2 (Cnd.not Cnd.b) (fun h25 k66 => ⟨(), ⟨trivial, ⟨k66, trivial⟩⟩⟩) (fun h26 k67 => ⟨(a.1, a.2.1), ⟨rfl, ⟨rfl, ⟨rfl, ⟨rfl, slK (Rds.self (enc := e_api_Label)) (⟨rfl, ⟨rfl, slK (Rds.self (enc := e_api_Job)) (⟨k67.1, br k67.2 Cnd.ne (fun h31 k63 => ⟨(a.1, a.2.1, a.2.2), ⟨rfl, ⟨rfl, ⟨rfl, ⟨rfl, slK (Rds.self (enc := e_api_Label)) (⟨rfl, ⟨rfl, slK (Rds.self (enc := e_api_Job)) (⟨rfl, ⟨rfl, ⟨rfl, ⟨rfl, ⟨rfl, ⟨rfl, slK (Rds.self (enc := e_api_Label)) (⟨rfl, ⟨rfl, ⟨rfl, ⟨k63.1, ⟨k63.2, trivial⟩⟩⟩⟩⟩)⟩⟩⟩⟩⟩⟩)⟩⟩)⟩⟩⟩⟩⟩) (fun h32 k64 => ⟨((a.1.1, false, a.1.2.2), a.2.1, a.2.2), ⟨rfl, ⟨rfl, ⟨rfl, ⟨rfl, slK (Rds.self (enc := e_api_Label)) (⟨rfl, ⟨rfl, slK (Rds.self (enc := e_api_Job)) (⟨rfl, ⟨rfl, ⟨rfl, ⟨rfl, ⟨rfl, ⟨rfl, slK (Rds.self (enc := e_api_Label)) (⟨rfl, ⟨rfl, ⟨rfl, ⟨k64.1, br k64.2 Cnd.ne (fun h37 k60 => ⟨k60, trivial⟩) (fun h38 k61 => br k61 Cnd.dec (fun h40 k58 => ⟨(((a.1.1.1, a.1.1.2.1, []), true, a.1.2.2), a.2.1, a.2.2), ⟨rfl, ⟨rfl, ⟨rfl, ⟨rfl, slK (Rds.nil (enc := e_api_Label)) (⟨rfl, ⟨rfl, slK (Rds.self (enc := e_api_Job)) (⟨rfl, ⟨rfl, ⟨rfl, ⟨rfl, ⟨rfl, ⟨rfl, slK (Rds.self (enc := e_api_Label)) (⟨rfl, ⟨rfl, ⟨rfl, ⟨k58.1, ⟨k58.2, trivial⟩⟩⟩⟩⟩)⟩⟩⟩⟩⟩⟩)⟩⟩)⟩⟩⟩⟩⟩) (fun h41 k59 => ⟨(((a.1.1.1, a.1.1.2.1, []), true, a.1.2.2), [(a.2.2, (0 : Int), a.1.1.1, (0 : Int))], a.2.2), ⟨rfl, ⟨rfl, ⟨rfl, ⟨rfl, slK (Rds.nil (enc := e_api_Label)) (⟨rfl, ⟨rfl, slK (Rds.one (enc := e_api_Job) (DEqs.refl _)) (⟨rfl, ⟨rfl, ⟨rfl, ⟨rfl, ⟨rfl, ⟨rfl, slK (Rds.self (enc := e_api_Label)) (⟨rfl, ⟨rfl, ⟨rfl, ⟨k59.1, br k59.2 Cnd.eq (fun h46 k55 => ⟨k55, trivial⟩) (fun h47 k56 => br k56 Cnd.eq (fun h49 k53 => ⟨k53, trivial⟩) (fun h50 k54 => ⟨k54, trivial⟩))⟩⟩⟩⟩)⟩⟩⟩⟩⟩⟩)⟩⟩)⟩⟩⟩⟩⟩))⟩⟩⟩⟩)⟩⟩⟩⟩⟩⟩)⟩⟩)⟩⟩⟩⟩⟩)⟩)⟩⟩)⟩⟩⟩⟩⟩)⟩)⟩⟩⟩⟩⟩)⟩⟩⟩⟩)⟩⟩⟩⟩⟩⟩⟩))⟩))⟩)⟩⟩
theorem f263.eq (a : T_api_Machine × (List (T_api_Job)) × T_api_Task) : (f263.af a).gives f263.env (f263.args a) (f263.blks a) (f263.res a) (f263.blks' a) = f263.tree a := by kernel_rfl
end Go.Abs

/- The law FeasReasons. -/
namespace Go.Abs
open Go

theorem why_wrong {m : TMach} {l : List TJob} {t : TTask} (h : ¬ (freeR (m, l)).2 = 0) : whyR (m, l, t) = 5 := by
  unfold whyR
  simp only
  rw [if_pos (fun hh => h hh.1)]

theorem has_none {l : List TLbl} (h : (0 : Int) < (l.length : Int)) : hasAll ([], l) = false := by
  cases l with
  | nil => simp at h
  | cons x l => rfl

theorem f263.ok (a : TMach × List TJob × TTask) (h : f263.lpre a) : f263.vc a := by
  obtain ⟨_, hs⟩ := h
  obtain ⟨m, l, t⟩ := a
  have hs : k_api_Machine.size m + (k_sl_api_Job.size l + k_api_Task.size t) ≤ 1048576 := hs
  obtain ⟨hm, hml⟩ := mach_of_size (m := m) (by omega)
  have hj := jobs_of_size (l := l) (by omega)
  have ht := task_of_size (t := t) (by omega)
  have hw := wants_of_size (t := t) (by omega)
  have hm0 : node_pre (m.1.1, m.1.2.1, []) := ⟨hm.1, fun x hx => absurd hx List.not_mem_nil⟩
  refine ⟨fun _ => rfl, fun _ => ⟨⟨by unfold L20; simp, hj, fun x hx => by rw [List.mem_singleton.1 hx]; exact hm.1⟩, fun _ => rfl, fun _ => ⟨fun _ => rfl, fun _ => ⟨ht, fun _ => rfl, fun ct => ⟨hm, fun _ => rfl, fun cn => ⟨hj, fun c => ⟨⟨hj, hm, ht, hml, hw⟩, ?_⟩, fun c => ?_⟩⟩⟩⟩⟩⟩
  · rw [why_wrong c]; rfl
  have ct := Classical.not_not.1 ct
  have cn := Classical.not_not.1 cn
  have c := Classical.not_not.1 c
  have nl : nodeB (m.1.1, m.1.2.1, []) = true := by
    obtain ⟨n1, n2, _⟩ := nodeB_iff.1 cn
    exact nodeB_iff.2 ⟨n1, n2, rfl⟩
  refine ⟨⟨hj, hm, ht, hml, hw⟩, fun d => absurd ?_ d, fun _ => ⟨fun d => ⟨⟨hj, hm0, ht, Nat.zero_le _, hw⟩, ?_⟩, fun d => ⟨⟨by unfold L20; simp, hm0, ht, Nat.zero_le _, hw⟩, fun _ => rfl, fun e => ⟨fun _ => rfl, fun f => ?_⟩⟩⟩⟩
  · unfold whyR
    simp only
    rw [if_neg (not_not_intro ⟨c, cn, ct⟩), if_pos (by decide)]
  · have hn := has_none d
    have e : whyR (((m.1.1, m.1.2.1, []), true, m.2.2), l, t) = 2 := by
      unfold whyR
      simp only
      rw [if_neg (not_not_intro ⟨c, nl, ct⟩), if_neg (by decide)]
      simp only at hn
      rw [if_pos (by rw [hn]; decide)]
    simp only
    rw [e]
    rfl
  · have hwn : t.2.2.2.2.1 = [] := by
      cases hl : t.2.2.2.2.1 with
      | nil => rfl
      | cons x r => simp only [hl, List.length_cons] at d; omega
    generalize hM : (((m.1.1, m.1.2.1, []), true, m.2.2) : TMach) = M at e f ⊢
    have hb : ¬ anyBother ([(t, (0 : Int), m.1.1, (0 : Int))], M, t) = true := by
      intro hh
      unfold anyBother at hh
      simp only [List.any_cons, List.any_nil, Bool.or_false] at hh
      unfold bothersR at hh
      rw [decide_eq_true_iff] at hh
      exact hh.2.2.1 rfl
    have hu : M.2.1 = true := by rw [← hM]
    have hall : hasAll (M.1.2.2, t.2.2.2.2.1) = true := by rw [hwn]; rfl
    show (whyR (M, [(t, (0 : Int), m.1.1, (0 : Int))], t) == 5) = true
    have e : ¬ whyR (M, [(t, (0 : Int), m.1.1, (0 : Int))], t) = 0 := e
    have f : ¬ whyR (M, [(t, (0 : Int), m.1.1, (0 : Int))], t) = 4 := f
    unfold whyR at e f ⊢
    simp only at e f ⊢
    split
    · rfl
    · rename_i g
      rw [if_neg g, if_neg (not_not_intro hu), if_neg (not_not_intro hall), if_neg hb] at e f
      split at f
      · exact absurd rfl f
      · rename_i g2; rw [if_neg g2] at e; exact absurd rfl e

end Go.Abs
