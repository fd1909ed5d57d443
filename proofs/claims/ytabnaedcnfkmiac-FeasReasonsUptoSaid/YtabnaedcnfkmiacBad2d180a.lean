/- Functions, and what the code asks of them: PFeasLaw. -/
import Derived.KernelRfl
import Derived.Test.YtabnaedcnfkmiacBbdc85751
import Derived.Test.YtabnaedcnfkmiacBc37455d2
import Derived.Test.YtabnaedcnfkmiacB4d205f27
import Derived.Test.YtabnaedcnfkmiacB1ec9780c
import Derived.Test.YtabnaedcnfkmiacB13c4c5ae
import Derived.Test.YtabnaedcnfkmiacBa8de0e59
import Derived.Test.YtabnaedcnfkmiacB095f748d
set_option linter.unusedVariables false
set_option linter.unusedSimpArgs false
-- interregnum/interregnumlaw11.FeasRoom
namespace Go.Abs
open Go
def f89.wf (a : T_api_Machine × (List (T_api_Job)) × T_api_Task) : Prop := k_api_Machine.ok a.1 ∧ k_sl_api_Job.ok a.2.1 ∧ k_api_Task.ok a.2.2
def f89.size (a : T_api_Machine × (List (T_api_Job)) × T_api_Task) : Nat := k_api_Machine.size a.1 + (k_sl_api_Job.size a.2.1 + (k_api_Task.size a.2.2))
def f89.lpre (a : T_api_Machine × (List (T_api_Job)) × T_api_Task) : Prop := f89.wf a ∧ f89.size a ≤ 1048576
def f89.args (a : T_api_Machine × (List (T_api_Job)) × T_api_Task) : List D := [.agg [.str a.1.1.1, .int .i64 a.1.1.2.1.1, .int .i64 a.1.1.2.1.2.1, .int .i64 a.1.1.2.1.2.2, .slice .ro 2 a.1.1.2.2.length (gl e_api_Label a.1.1.2.2), .bool a.1.2.1, .int .i64 a.1.2.2], .slice .ro 13 a.2.1.length (gl e_api_Job a.2.1), .agg [.str a.2.2.1, .str a.2.2.2.1, .int .i64 a.2.2.2.2.1, .int .i64 a.2.2.2.2.2.1.1, .int .i64 a.2.2.2.2.2.1.2.1, .int .i64 a.2.2.2.2.2.1.2.2, .slice .ro 2 a.2.2.2.2.2.2.1.length (gl e_api_Label a.2.2.2.2.2.2.1), .str a.2.2.2.2.2.2.2.1, .str a.2.2.2.2.2.2.2.2.1, .int .i64 a.2.2.2.2.2.2.2.2.2]]
def f89.blks (a : T_api_Machine × (List (T_api_Job)) × T_api_Task) : List (List D) := []
def f89.res (a : T_api_Machine × (List (T_api_Job)) × T_api_Task) : List D := [.bool (lawTrue a)]
def f89.blks' (a : T_api_Machine × (List (T_api_Job)) × T_api_Task) : List (List D) := []
def f89.C : Contract := FnC f89.args f89.blks (fun a => f89.lpre a) f89.res f89.blks'
end Go.Abs

/- interregnum/interregnumlaw11.FeasRoom -/
namespace Go.Abs
open Go
set_option linter.unusedVariables false
def f89.kills (a : T_api_Machine × (List (T_api_Job)) × T_api_Task) : List Hint := []
def f89.cuts (a : T_api_Machine × (List (T_api_Job)) × T_api_Task) : List (Nat × Σ β : Type, β → Tm) := []
def f89.af (a : T_api_Machine × (List (T_api_Job)) × T_api_Task) : AF := AF.mk (.seq (.region [⟨(some 3), 0, .box, [.t 0], none⟩,
  ⟨(some 5), 1, .box, [.t 2], none⟩,
  ⟨(some 6), 2, .move, [.c (.bool false)], none⟩])
 (.seq (.seq (.region [⟨(some 13), 3, (.call false 109), [], none⟩,
  ⟨(some 14), 7, (.un .not), [.t 13], none⟩,
  ⟨(some 15), 8, .move, [.t 14], none⟩,
  ⟨(some 16), 9, (.load true 7), [.t 3], (some (15, false))⟩,
  ⟨(some 17), 10, (.buildSlice 7 1 [.str ByteArray.empty, .int .i64 (0), .int .i64 (0), .int .i64 (0), .slice .full 2 0 gnil, .bool false, .int .i64 (0)] [(0, 7)]), [.t 16], (some (15, false))⟩,
  ⟨(some 18), 11, .move, [.t 1], (some (15, false))⟩,
  ⟨(some 19), 12, (.call false 110), [.t 17, .t 18], (some (15, false))⟩,
  ⟨(some 20), 16, (.un .not), [.t 19], (some (15, false))⟩,
  ⟨(some 21), 17, .pick, [.t 15, .c (.bool true), .t 20], none⟩,
  ⟨(some 22), 18, .move, [.t 21], none⟩,
  ⟨(some 23), 19, (.fieldAddr 6), [.t 5], (some (22, false))⟩,
  ⟨(some 24), 20, (.load false 1), [.t 23], (some (22, false))⟩,
  ⟨(some 25), 21, (.len false), [.t 24], (some (22, false))⟩,
  ⟨(some 26), 22, (.bin .gtr), [.t 25, .c (.int .i64 (20))], (some (22, false))⟩,
  ⟨(some 27), 23, .pick, [.t 22, .c (.bool true), .t 26], none⟩,
  ⟨(some 28), 24, .move, [.t 27], none⟩,
  ⟨(some 29), 25, (.load true 7), [.t 3], (some (28, false))⟩,
  ⟨(some 30), 26, .move, [.t 1], (some (28, false))⟩,
  ⟨(some 31), 27, (.load true 10), [.t 5], (some (28, false))⟩,
  ⟨(some 32), 28, (.call false 111), [.t 29, .t 30, .t 31], (some (28, false))⟩,
  ⟨(some 33), 32, (.bin .neq), [.t 32, .c (.int .i64 (0))], (some (28, false))⟩,
  ⟨(some 34), 33, .pick, [.t 28, .c (.bool true), .t 33], none⟩])
 (.cond (.t 34) (.seq (.region [⟨(some 35), 34, (.call false 109), [], none⟩,
  ⟨(some 6), 38, .move, [.t 35], none⟩])
 (.ret)) (.skip)))
 (.seq (.region [⟨(some 37), 39, (.load true 7), [.t 3], none⟩,
  ⟨(some 38), 40, .move, [.t 1], none⟩,
  ⟨(some 39), 41, (.call false 112), [.t 37, .t 38], none⟩,
  ⟨(some 36), 45, .move, [.t 39], none⟩,
  ⟨(some 40), 46, (.extract 0), [.t 36], none⟩,
  ⟨(some 41), 47, (.extract 1), [.t 36], none⟩,
  ⟨(some 7), 48, (.alloc [.int .i64 (0), .int .i64 (0), .int .i64 (0)]), [], none⟩,
  ⟨none, 52, (.store 3), [.t 7, .t 40], none⟩,
  ⟨(some 8), 53, .move, [.t 41], none⟩])
 (.seq (.region [⟨(some 43), 54, (.load true 7), [.t 3], none⟩,
  ⟨(some 44), 55, (.buildSlice 13 0 [.str ByteArray.empty, .str ByteArray.empty, .int .i64 (0), .int .i64 (0), .int .i64 (0), .int .i64 (0), .slice .full 2 0 gnil, .str ByteArray.empty, .str ByteArray.empty, .int .i64 (0), .int .i64 (0), .str ByteArray.empty, .int .i64 (0)] []), [], none⟩,
  ⟨(some 45), 56, .move, [.t 1], none⟩,
  ⟨(some 46), 57, (.append 13 160), [.t 44, .t 45], none⟩,
  ⟨(some 47), 58, (.load true 10), [.t 5], none⟩,
  ⟨(some 48), 59, (.fieldAddr 0), [.t 3], none⟩,
  ⟨(some 49), 60, (.fieldAddr 0), [.t 48], none⟩,
  ⟨(some 50), 61, (.load false 1), [.t 49], none⟩,
  ⟨(some 51), 62, (.build [.str ByteArray.empty, .str ByteArray.empty, .int .i64 (0), .int .i64 (0), .int .i64 (0), .int .i64 (0), .slice .full 2 0 gnil, .str ByteArray.empty, .str ByteArray.empty, .int .i64 (0), .int .i64 (0), .str ByteArray.empty, .int .i64 (0)] [(0, 10), (11, 1)]), [.t 47, .t 50], none⟩,
  ⟨(some 52), 63, (.buildSlice 13 1 [.str ByteArray.empty, .str ByteArray.empty, .int .i64 (0), .int .i64 (0), .int .i64 (0), .int .i64 (0), .slice .full 2 0 gnil, .str ByteArray.empty, .str ByteArray.empty, .int .i64 (0), .int .i64 (0), .str ByteArray.empty, .int .i64 (0)] [(0, 13)]), [.t 51], none⟩,
  ⟨(some 53), 64, (.append 13 160), [.t 46, .t 52], none⟩,
  ⟨(some 54), 65, (.call false 112), [.t 43, .t 53], none⟩,
  ⟨(some 42), 69, .move, [.t 54], none⟩,
  ⟨(some 55), 70, (.extract 0), [.t 42], none⟩,
  ⟨(some 56), 71, (.extract 1), [.t 42], none⟩,
  ⟨(some 9), 72, (.alloc [.int .i64 (0), .int .i64 (0), .int .i64 (0)]), [], none⟩,
  ⟨none, 76, (.store 3), [.t 9, .t 55], none⟩,
  ⟨(some 10), 77, .move, [.t 56], none⟩])
 (.seq (.region [⟨(some 58), 78, (.load true 3), [.t 7], none⟩,
  ⟨(some 59), 79, (.fieldAddr 3), [.t 5], none⟩,
  ⟨(some 60), 80, (.load true 3), [.t 59], none⟩,
  ⟨(some 61), 81, (.call false 113), [.t 58, .t 60], none⟩,
  ⟨(some 57), 85, .move, [.t 61], none⟩,
  ⟨(some 62), 86, (.extract 0), [.t 57], none⟩,
  ⟨(some 63), 87, (.extract 1), [.t 57], none⟩,
  ⟨(some 11), 88, (.alloc [.int .i64 (0), .int .i64 (0), .int .i64 (0)]), [], none⟩,
  ⟨none, 92, (.store 3), [.t 11, .t 62], none⟩,
  ⟨(some 12), 93, .move, [.t 63], none⟩])
 (.seq (.region [⟨(some 64), 94, .move, [.t 8], none⟩,
  ⟨(some 65), 95, (.bin .eql), [.t 64, .c (.int .i64 (0))], none⟩,
  ⟨(some 66), 96, .move, [.t 65], none⟩,
  ⟨(some 67), 97, .move, [.t 10], (some (66, true))⟩,
  ⟨(some 68), 98, (.bin .eql), [.t 67, .c (.int .i64 (0))], (some (66, true))⟩,
  ⟨(some 69), 99, .pick, [.t 66, .t 68, .c (.bool false)], none⟩,
  ⟨(some 70), 100, .move, [.t 69], none⟩,
  ⟨(some 71), 101, .move, [.t 12], (some (70, true))⟩,
  ⟨(some 72), 102, (.bin .eql), [.t 71, .c (.int .i64 (0))], (some (70, true))⟩,
  ⟨(some 73), 103, .pick, [.t 70, .t 72, .c (.bool false)], none⟩,
  ⟨(some 74), 104, .move, [.t 73], none⟩,
  ⟨(some 75), 105, (.load true 3), [.t 9], (some (74, true))⟩,
  ⟨(some 76), 106, (.load true 3), [.t 11], (some (74, true))⟩,
  ⟨(some 77), 107, (.eqAgg false [0, 0, 0]), [.t 75, .t 76], (some (74, true))⟩,
  ⟨(some 78), 108, .pick, [.t 74, .t 77, .c (.bool false)], none⟩,
  ⟨(some 79), 109, .move, [.t 78], none⟩,
  ⟨(some 80), 110, (.fieldAddr 5), [.t 3], (some (79, true))⟩,
  ⟨(some 81), 111, (.load false 1), [.t 80], (some (79, true))⟩,
  ⟨(some 82), 112, .pick, [.t 79, .t 81, .c (.bool false)], none⟩,
  ⟨(some 6), 113, .move, [.t 82], none⟩])
 (.ret)))))))
  [.tmp 6] 0 80
def f89.env : Env := [(109, f109.C), (110, f110.C), (111, f111.C), (112, f112.C), (113, f113.C)]
def f89.tree (a : T_api_Machine × (List (T_api_Job)) × T_api_Task) : Prop := ∃ c1 : Unit, True ∧ Br (!(lawTrue c1)) (∃ c4 : Unit, True ∧ ((lawTrue c4) = (lawTrue a)) ∧ True) (∃ c7 : (List (T_api_Machine)) × (List (T_api_Job)), (1 = c7.1.length) ∧ (∀ i, i < c7.1.length → DEqs ((fun _ => [.str a.1.1.1, .int .i64 a.1.1.2.1.1, .int .i64 a.1.1.2.1.2.1, .int .i64 a.1.1.2.1.2.2, .slice .ro 2 a.1.1.2.2.length (gl e_api_Label a.1.1.2.2), .bool a.1.2.1, .int .i64 a.1.2.2]) i) ((gl e_api_Machine c7.1) i)) ∧ (a.2.1.length = c7.2.length) ∧ (∀ i, i < c7.2.length → DEqs ((gl e_api_Job a.2.1) i) ((gl e_api_Job c7.2) i)) ∧ (few11_pre c7) ∧ Br (!(few11 c7)) (∃ c10 : Unit, True ∧ ((lawTrue c10) = (lawTrue a)) ∧ True) (Br (decide ((20 : Int) < (a.2.2.2.2.2.2.1.length : Int))) (∃ c15 : Unit, True ∧ ((lawTrue c15) = (lawTrue a)) ∧ True) (∃ c18 : T_api_Machine × (List (T_api_Job)) × T_api_Task, (a.1.1.1 = c18.1.1.1) ∧ (a.1.1.2.1.1 = c18.1.1.2.1.1) ∧ (a.1.1.2.1.2.1 = c18.1.1.2.1.2.1) ∧ (a.1.1.2.1.2.2 = c18.1.1.2.1.2.2) ∧ (a.1.1.2.2.length = c18.1.1.2.2.length) ∧ (∀ i, i < c18.1.1.2.2.length → DEqs ((gl e_api_Label a.1.1.2.2) i) ((gl e_api_Label c18.1.1.2.2) i)) ∧ (a.1.2.1 = c18.1.2.1) ∧ (a.1.2.2 = c18.1.2.2) ∧ (a.2.1.length = c18.2.1.length) ∧ (∀ i, i < c18.2.1.length → DEqs ((gl e_api_Job a.2.1) i) ((gl e_api_Job c18.2.1) i)) ∧ (a.2.2.1 = c18.2.2.1) ∧ (a.2.2.2.1 = c18.2.2.2.1) ∧ (a.2.2.2.2.1 = c18.2.2.2.2.1) ∧ (a.2.2.2.2.2.1.1 = c18.2.2.2.2.2.1.1) ∧ (a.2.2.2.2.2.1.2.1 = c18.2.2.2.2.2.1.2.1) ∧ (a.2.2.2.2.2.1.2.2 = c18.2.2.2.2.2.1.2.2) ∧ (a.2.2.2.2.2.2.1.length = c18.2.2.2.2.2.2.1.length) ∧ (∀ i, i < c18.2.2.2.2.2.2.1.length → DEqs ((gl e_api_Label a.2.2.2.2.2.2.1) i) ((gl e_api_Label c18.2.2.2.2.2.2.1) i)) ∧ (a.2.2.2.2.2.2.2.1 = c18.2.2.2.2.2.2.2.1) ∧ (a.2.2.2.2.2.2.2.2.1 = c18.2.2.2.2.2.2.2.2.1) ∧ (a.2.2.2.2.2.2.2.2.2 = c18.2.2.2.2.2.2.2.2.2) ∧ (why_pre c18) ∧ Br ((whyR c18) != (0 : Int)) (∃ c21 : Unit, True ∧ ((lawTrue c21) = (lawTrue a)) ∧ True) (∃ c24 : T_api_Machine × (List (T_api_Job)), (a.1.1.1 = c24.1.1.1) ∧ (a.1.1.2.1.1 = c24.1.1.2.1.1) ∧ (a.1.1.2.1.2.1 = c24.1.1.2.1.2.1) ∧ (a.1.1.2.1.2.2 = c24.1.1.2.1.2.2) ∧ (a.1.1.2.2.length = c24.1.1.2.2.length) ∧ (∀ i, i < c24.1.1.2.2.length → DEqs ((gl e_api_Label a.1.1.2.2) i) ((gl e_api_Label c24.1.1.2.2) i)) ∧ (a.1.2.1 = c24.1.2.1) ∧ (a.1.2.2 = c24.1.2.2) ∧ (a.2.1.length = c24.2.length) ∧ (∀ i, i < c24.2.length → DEqs ((gl e_api_Job a.2.1) i) ((gl e_api_Job c24.2) i)) ∧ (free_pre c24) ∧ (room ((0 + a.2.1.length) * 160)) ∧ (((0 + a.2.1.length) = (0 + a.2.1.length) ∧ room (((0 + a.2.1.length) + 1) * 160)) ∧ (∃ c25 : T_api_Machine × (List (T_api_Job)), (a.1.1.1 = c25.1.1.1) ∧ (a.1.1.2.1.1 = c25.1.1.2.1.1) ∧ (a.1.1.2.1.2.1 = c25.1.1.2.1.2.1) ∧ (a.1.1.2.1.2.2 = c25.1.1.2.1.2.2) ∧ (a.1.1.2.2.length = c25.1.1.2.2.length) ∧ (∀ i, i < c25.1.1.2.2.length → DEqs ((gl e_api_Label a.1.1.2.2) i) ((gl e_api_Label c25.1.1.2.2) i)) ∧ (a.1.2.1 = c25.1.2.1) ∧ (a.1.2.2 = c25.1.2.2) ∧ (((0 + a.2.1.length) + 1) = c25.2.length) ∧ (∀ i, i < c25.2.length → DEqs ((gapp (gapp (fun j => List.take 13 (List.drop (j * 13) [])) 0 (gl e_api_Job a.2.1)) (0 + a.2.1.length) (fun _ => [.str a.2.2.1, .str a.2.2.2.1, .int .i64 a.2.2.2.2.1, .int .i64 a.2.2.2.2.2.1.1, .int .i64 a.2.2.2.2.2.1.2.1, .int .i64 a.2.2.2.2.2.1.2.2, .slice .ro 2 a.2.2.2.2.2.2.1.length (gl e_api_Label a.2.2.2.2.2.2.1), .str a.2.2.2.2.2.2.2.1, .str a.2.2.2.2.2.2.2.2.1, .int .i64 a.2.2.2.2.2.2.2.2.2, .int .i64 (0 : Int), .str a.1.1.1, .int .i64 (0 : Int)])) i) ((gl e_api_Job c25.2) i)) ∧ (free_pre c25) ∧ ∃ c26 : T_ar3_i64 × T_ar3_i64, ((((freeR c24).1).1) = c26.1.1) ∧ ((((freeR c24).1).2.1) = c26.1.2.1) ∧ ((((freeR c24).1).2.2) = c26.1.2.2) ∧ (a.2.2.2.2.2.1.1 = c26.2.1) ∧ (a.2.2.2.2.2.1.2.1 = c26.2.2.1) ∧ (a.2.2.2.2.2.1.2.2 = c26.2.2.2) ∧ True ∧ Br (((freeR c24).2) == (0 : Int)) (Br (((freeR c25).2) == (0 : Int)) (Br (((subR c26).2) == (0 : Int)) (Br (((((freeR c25).1).1) == (((subR c26).1).1)) && (((((freeR c25).1).2.1) == (((subR c26).1).2.1)) && ((((freeR c25).1).2.2) == (((subR c26).1).2.2)))) ((a.1.2.1 = (lawTrue a)) ∧ True) ((false = (lawTrue a)) ∧ True)) ((false = (lawTrue a)) ∧ True)) ((false = (lawTrue a)) ∧ True)) ((false = (lawTrue a)) ∧ True)))))))
def f89.vc (a : T_api_Machine × (List (T_api_Job)) × T_api_Task) : Prop := ((¬ ((lawTrue ()) = true) → ((lawTrue ()) = lawTrue a)) ∧ (¬ (¬ ((lawTrue ()) = true)) → (few11_pre ([a.1], a.2.1) ∧ ((¬ ((few11 ([a.1], a.2.1)) = true) → ((lawTrue ()) = lawTrue a)) ∧ (¬ (¬ ((few11 ([a.1], a.2.1)) = true)) → (((20 : Int) < (a.2.2.2.2.2.2.1.length : Int) → ((lawTrue ()) = lawTrue a)) ∧ (¬ ((20 : Int) < (a.2.2.2.2.2.2.1.length : Int)) → (why_pre (a.1, a.2.1, a.2.2) ∧ ((¬ (whyR (a.1, a.2.1, a.2.2)) = (0 : Int) → ((lawTrue ()) = lawTrue a)) ∧ (¬ (¬ (whyR (a.1, a.2.1, a.2.2)) = (0 : Int)) → (free_pre (a.1, a.2.1) ∧ (0 + a.2.1.length ≤ 1073741824 ∧ ((0 + a.2.1.length) + 1 ≤ 1073741824 ∧ (free_pre (a.1, (([]) ++ a.2.1) ++ ([(a.2.2, (0 : Int), a.1.1.1, (0 : Int))])) ∧ ((((freeR (a.1, a.2.1)).2) = (0 : Int) → ((((freeR (a.1, (([]) ++ a.2.1) ++ ([(a.2.2, (0 : Int), a.1.1.1, (0 : Int))]))).2) = (0 : Int) → ((((subR (((freeR (a.1, a.2.1)).1), a.2.2.2.2.2.1)).2) = (0 : Int) → (((((freeR (a.1, (([]) ++ a.2.1) ++ ([(a.2.2, (0 : Int), a.1.1.1, (0 : Int))]))).1).1) = (((subR (((freeR (a.1, a.2.1)).1), a.2.2.2.2.2.1)).1).1) ∧ (((freeR (a.1, (([]) ++ a.2.1) ++ ([(a.2.2, (0 : Int), a.1.1.1, (0 : Int))]))).1).2.1) = (((subR (((freeR (a.1, a.2.1)).1), a.2.2.2.2.2.1)).1).2.1) ∧ (((freeR (a.1, (([]) ++ a.2.1) ++ ([(a.2.2, (0 : Int), a.1.1.1, (0 : Int))]))).1).2.2) = (((subR (((freeR (a.1, a.2.1)).1), a.2.2.2.2.2.1)).1).2.2) → (a.1.2.1 = lawTrue a)) ∧ (¬ ((((freeR (a.1, (([]) ++ a.2.1) ++ ([(a.2.2, (0 : Int), a.1.1.1, (0 : Int))]))).1).1) = (((subR (((freeR (a.1, a.2.1)).1), a.2.2.2.2.2.1)).1).1) ∧ (((freeR (a.1, (([]) ++ a.2.1) ++ ([(a.2.2, (0 : Int), a.1.1.1, (0 : Int))]))).1).2.1) = (((subR (((freeR (a.1, a.2.1)).1), a.2.2.2.2.2.1)).1).2.1) ∧ (((freeR (a.1, (([]) ++ a.2.1) ++ ([(a.2.2, (0 : Int), a.1.1.1, (0 : Int))]))).1).2.2) = (((subR (((freeR (a.1, a.2.1)).1), a.2.2.2.2.2.1)).1).2.2)) → (false = lawTrue a)))) ∧ (¬ (((subR (((freeR (a.1, a.2.1)).1), a.2.2.2.2.2.1)).2) = (0 : Int)) → (false = lawTrue a)))) ∧ (¬ (((freeR (a.1, (([]) ++ a.2.1) ++ ([(a.2.2, (0 : Int), a.1.1.1, (0 : Int))]))).2) = (0 : Int)) → (false = lawTrue a)))) ∧ (¬ (((freeR (a.1, a.2.1)).2) = (0 : Int)) → (false = lawTrue a)))))))))))))))))
set_option maxRecDepth 100000 in
set_option maxHeartbeats 2000000 in
theorem f89.of (a : T_api_Machine × (List (T_api_Job)) × T_api_Task) (h : f89.vc a) : f89.tree a := ⟨(), ⟨trivial, br h (Cnd.not Cnd.b) (fun h2 k59 => ⟨(), ⟨trivial, ⟨k59, trivial⟩⟩⟩) (fun h3 k60 => ⟨([a.1], a.2.1), slK (Rds.one (enc := e_api_Machine) (DEqs.refl _)) (slK (Rds.self (enc := e_api_Job)) (⟨k60.1, br k60.2 (Cnd.not Cnd.b) (fun h8 k56 => ⟨(), ⟨trivial, ⟨k56, trivial⟩⟩⟩) (fun h9 k57 => br k57 Cnd.dec (fun h13 k54 => ⟨(), ⟨trivial, ⟨k54, trivial⟩⟩⟩) (fun h14 k55 => ⟨(a.1, a.2.1, a.2.2), ⟨rfl, ⟨rfl, ⟨rfl, ⟨rfl, slK (Rds.self (enc := e_api_Label)) (⟨rfl, ⟨rfl, slK (Rds.self (enc := e_api_Job)) (⟨rfl, ⟨rfl, ⟨rfl, ⟨rfl, ⟨rfl, ⟨rfl, slK (Rds.self (enc := e_api_Label)) (⟨rfl, ⟨rfl, ⟨rfl, ⟨k55.1, br k55.2 Cnd.ne (fun h19 k51 => ⟨(), ⟨trivial, ⟨k51, trivial⟩⟩⟩) (fun h20 k52 => ⟨(a.1, a.2.1), ⟨rfl, ⟨rfl, ⟨rfl, ⟨rfl, slK (Rds.self (enc := e_api_Label)) (⟨rfl, ⟨rfl, slK (Rds.self (enc := e_api_Job)) (⟨k52.1, ⟨(room_of k52.2.1 (by decide)), ⟨⟨rfl, (room_of k52.2.2.1 (by decide))⟩, ⟨(a.1, (([]) ++ a.2.1) ++ ([(a.2.2, (0 : Int), a.1.1.1, (0 : Int))])), ⟨rfl, ⟨rfl, ⟨rfl, ⟨rfl, slK (Rds.self (enc := e_api_Label)) (⟨rfl, ⟨rfl, slK (Rds.app (enc := e_api_Job) (Rds.app (enc := e_api_Job) (Rds.nil (enc := e_api_Job)) (Rds.self (enc := e_api_Job))) (Rds.one (enc := e_api_Job) (DEqs.refl _))) (⟨k52.2.2.2.1, ⟨(((freeR (a.1, a.2.1)).1), a.2.2.2.2.2.1), ⟨rfl, ⟨rfl, ⟨rfl, ⟨rfl, ⟨rfl, ⟨rfl, ⟨trivial, br k52.2.2.2.2 Cnd.eq (fun h27 k46 => br k46 Cnd.eq (fun h29 k43 => br k43 Cnd.eq (fun h31 k40 => br k40 (Cnd.and Cnd.eq (Cnd.and Cnd.eq Cnd.eq)) (fun h33 k37 => ⟨k37, trivial⟩) (fun h34 k38 => ⟨k38, trivial⟩)) (fun h32 k41 => ⟨k41, trivial⟩)) (fun h30 k44 => ⟨k44, trivial⟩)) (fun h28 k47 => ⟨k47, trivial⟩)⟩⟩⟩⟩⟩⟩⟩⟩⟩)⟩⟩)⟩⟩⟩⟩⟩⟩⟩⟩)⟩⟩)⟩⟩⟩⟩⟩)⟩⟩⟩⟩)⟩⟩⟩⟩⟩⟩)⟩⟩)⟩⟩⟩⟩⟩))⟩))⟩)⟩⟩
theorem f89.eq (a : T_api_Machine × (List (T_api_Job)) × T_api_Task) : (f89.af a).gives f89.env (f89.args a) (f89.blks a) (f89.res a) (f89.blks' a) = f89.tree a := by kernel_rfl
end Go.Abs

-- interregnum/interregnumlaw11.FeasLess
namespace Go.Abs
open Go
def f90.wf (a : T_api_Machine × (List (T_api_Job)) × T_api_Task × Int × T_ar3_i64) : Prop := k_api_Machine.ok a.1 ∧ k_sl_api_Job.ok a.2.1 ∧ k_api_Task.ok a.2.2.1 ∧ k_u64.ok a.2.2.2.1 ∧ k_ar3_i64.ok a.2.2.2.2
def f90.size (a : T_api_Machine × (List (T_api_Job)) × T_api_Task × Int × T_ar3_i64) : Nat := k_api_Machine.size a.1 + (k_sl_api_Job.size a.2.1 + (k_api_Task.size a.2.2.1 + (k_u64.size a.2.2.2.1 + (k_ar3_i64.size a.2.2.2.2))))
def f90.lpre (a : T_api_Machine × (List (T_api_Job)) × T_api_Task × Int × T_ar3_i64) : Prop := f90.wf a ∧ f90.size a ≤ 1048576
def f90.args (a : T_api_Machine × (List (T_api_Job)) × T_api_Task × Int × T_ar3_i64) : List D := [.agg [.str a.1.1.1, .int .i64 a.1.1.2.1.1, .int .i64 a.1.1.2.1.2.1, .int .i64 a.1.1.2.1.2.2, .slice .ro 2 a.1.1.2.2.length (gl e_api_Label a.1.1.2.2), .bool a.1.2.1, .int .i64 a.1.2.2], .slice .ro 13 a.2.1.length (gl e_api_Job a.2.1), .agg [.str a.2.2.1.1, .str a.2.2.1.2.1, .int .i64 a.2.2.1.2.2.1, .int .i64 a.2.2.1.2.2.2.1.1, .int .i64 a.2.2.1.2.2.2.1.2.1, .int .i64 a.2.2.1.2.2.2.1.2.2, .slice .ro 2 a.2.2.1.2.2.2.2.1.length (gl e_api_Label a.2.2.1.2.2.2.2.1), .str a.2.2.1.2.2.2.2.2.1, .str a.2.2.1.2.2.2.2.2.2.1, .int .i64 a.2.2.1.2.2.2.2.2.2.2], .int .u64 a.2.2.2.1, .agg [.int .i64 a.2.2.2.2.1, .int .i64 a.2.2.2.2.2.1, .int .i64 a.2.2.2.2.2.2]]
def f90.blks (a : T_api_Machine × (List (T_api_Job)) × T_api_Task × Int × T_ar3_i64) : List (List D) := []
def f90.res (a : T_api_Machine × (List (T_api_Job)) × T_api_Task × Int × T_ar3_i64) : List D := [.bool (lawTrue a)]
def f90.blks' (a : T_api_Machine × (List (T_api_Job)) × T_api_Task × Int × T_ar3_i64) : List (List D) := []
def f90.C : Contract := FnC f90.args f90.blks (fun a => f90.lpre a) f90.res f90.blks'
end Go.Abs

/- interregnum/interregnumlaw11.FeasLess -/
namespace Go.Abs
open Go
set_option linter.unusedVariables false
def f90.kills (a : T_api_Machine × (List (T_api_Job)) × T_api_Task × Int × T_ar3_i64) : List Hint := []
def f90.cuts (a : T_api_Machine × (List (T_api_Job)) × T_api_Task × Int × T_ar3_i64) : List (Nat × Σ β : Type, β → Tm) := []
def f90.af (a : T_api_Machine × (List (T_api_Job)) × T_api_Task × Int × T_ar3_i64) : AF := AF.mk (.seq (.region [⟨(some 5), 0, .box, [.t 0], none⟩,
  ⟨(some 7), 1, .box, [.t 2], none⟩,
  ⟨(some 9), 2, .box, [.t 4], none⟩,
  ⟨(some 10), 3, .move, [.c (.bool false)], none⟩])
 (.seq (.seq (.region [⟨(some 14), 4, (.call false 109), [], none⟩,
  ⟨(some 15), 8, (.un .not), [.t 14], none⟩,
  ⟨(some 16), 9, .move, [.t 15], none⟩,
  ⟨(some 17), 10, (.load true 7), [.t 5], (some (16, false))⟩,
  ⟨(some 18), 11, (.buildSlice 7 1 [.str ByteArray.empty, .int .i64 (0), .int .i64 (0), .int .i64 (0), .slice .full 2 0 gnil, .bool false, .int .i64 (0)] [(0, 7)]), [.t 17], (some (16, false))⟩,
  ⟨(some 19), 12, .move, [.t 1], (some (16, false))⟩,
  ⟨(some 20), 13, (.call false 110), [.t 18, .t 19], (some (16, false))⟩,
  ⟨(some 21), 17, (.un .not), [.t 20], (some (16, false))⟩,
  ⟨(some 22), 18, .pick, [.t 16, .c (.bool true), .t 21], none⟩,
  ⟨(some 23), 19, .move, [.t 22], none⟩,
  ⟨(some 24), 20, (.fieldAddr 6), [.t 7], (some (23, false))⟩,
  ⟨(some 25), 21, (.load false 1), [.t 24], (some (23, false))⟩,
  ⟨(some 26), 22, (.len false), [.t 25], (some (23, false))⟩,
  ⟨(some 27), 23, (.bin .gtr), [.t 26, .c (.int .i64 (20))], (some (23, false))⟩,
  ⟨(some 28), 24, .pick, [.t 23, .c (.bool true), .t 27], none⟩,
  ⟨(some 29), 25, .move, [.t 28], none⟩,
  ⟨(some 30), 26, (.load true 7), [.t 5], (some (29, false))⟩,
  ⟨(some 31), 27, .move, [.t 1], (some (29, false))⟩,
  ⟨(some 32), 28, (.load true 10), [.t 7], (some (29, false))⟩,
  ⟨(some 33), 29, (.call false 111), [.t 30, .t 31, .t 32], (some (29, false))⟩,
  ⟨(some 34), 33, (.bin .neq), [.t 33, .c (.int .i64 (0))], (some (29, false))⟩,
  ⟨(some 35), 34, .pick, [.t 29, .c (.bool true), .t 34], none⟩])
 (.cond (.t 35) (.seq (.region [⟨(some 36), 35, (.call false 109), [], none⟩,
  ⟨(some 10), 39, .move, [.t 36], none⟩])
 (.ret)) (.skip)))
 (.seq (.seq (.region [⟨(some 37), 40, .move, [.t 1], none⟩,
  ⟨(some 38), 41, (.len false), [.t 37], none⟩,
  ⟨(some 39), 42, (.bin .gtr), [.t 38, .c (.int .i64 (0))], none⟩])
 (.cond (.t 39) (.seq (.region [⟨(some 40), 43, .move, [.t 3], none⟩,
  ⟨(some 41), 44, .move, [.t 1], none⟩,
  ⟨(some 42), 45, (.len false), [.t 41], none⟩,
  ⟨(some 43), 46, (.conv (.int .u64)), [.t 42], none⟩,
  ⟨(some 44), 47, (.bin .rem), [.t 40, .t 43], none⟩,
  ⟨(some 45), 48, (.conv (.int .i64)), [.t 44], none⟩,
  ⟨(some 11), 49, .move, [.t 45], none⟩])
 (.seq (.region [⟨(some 46), 50, (.buildSlice 13 0 [.str ByteArray.empty, .str ByteArray.empty, .int .i64 (0), .int .i64 (0), .int .i64 (0), .int .i64 (0), .slice .full 2 0 gnil, .str ByteArray.empty, .str ByteArray.empty, .int .i64 (0), .int .i64 (0), .str ByteArray.empty, .int .i64 (0)] []), [], none⟩,
  ⟨(some 47), 51, .move, [.t 1], none⟩,
  ⟨(some 48), 52, .move, [.t 11], none⟩,
  ⟨(some 49), 53, (.sliceSl 13 false true false), [.t 47, .t 48], none⟩,
  ⟨(some 50), 54, (.append 13 160), [.t 46, .t 49], none⟩,
  ⟨(some 51), 55, .move, [.t 1], none⟩,
  ⟨(some 52), 56, .move, [.t 11], none⟩,
  ⟨(some 53), 57, (.bin .add), [.t 52, .c (.int .i64 (1))], none⟩,
  ⟨(some 54), 58, (.sliceSl 13 true false false), [.t 51, .t 53], none⟩,
  ⟨(some 55), 59, (.append 13 160), [.t 50, .t 54], none⟩,
  ⟨(some 12), 60, .move, [.t 55], none⟩])
 (.seq (.region [⟨(some 56), 61, (.load true 7), [.t 5], none⟩,
  ⟨(some 57), 62, .move, [.t 12], none⟩,
  ⟨(some 58), 63, (.load true 10), [.t 7], none⟩,
  ⟨(some 59), 64, (.call false 111), [.t 56, .t 57, .t 58], none⟩,
  ⟨(some 60), 68, (.bin .neq), [.t 59, .c (.int .i64 (0))], none⟩])
 (.cond (.t 60) (.seq (.region [⟨(some 10), 69, .move, [.c (.bool false)], none⟩])
 (.ret)) (.skip))))) (.skip)))
 (.seq (.region [⟨(some 61), 70, (.load true 10), [.t 7], none⟩,
  ⟨(some 13), 71, (.alloc [.str ByteArray.empty, .str ByteArray.empty, .int .i64 (0), .int .i64 (0), .int .i64 (0), .int .i64 (0), .slice (.own 0) 2 0 gnil, .str ByteArray.empty, .str ByteArray.empty, .int .i64 (0)]), [], none⟩,
  ⟨none, 82, (.store 10), [.t 13, .t 61], none⟩])
 (.seq (.region [⟨(some 62), 83, (.fieldAddr 6), [.t 13], none⟩,
  ⟨none, 84, (.store 1), [.t 62, .c (.slice .full 2 0 gnil)], none⟩,
  ⟨(some 63), 85, (.fieldAddr 7), [.t 13], none⟩,
  ⟨none, 86, (.store 1), [.t 63, .c (.str ByteArray.empty)], none⟩])
 (.seq (.seq (.region [⟨(some 64), 87, (.load true 3), [.t 9], none⟩,
  ⟨(some 65), 88, (.fieldAddr 3), [.t 7], none⟩,
  ⟨(some 66), 89, (.load true 3), [.t 65], none⟩,
  ⟨(some 67), 90, (.call false 34), [.t 64, .t 66], none⟩,
  ⟨(some 68), 94, (.un .not), [.t 67], none⟩,
  ⟨(some 69), 95, .move, [.t 68], none⟩,
  ⟨(some 70), 96, (.load true 3), [.t 9], (some (69, false))⟩,
  ⟨(some 71), 97, (.call false 49), [.t 70], (some (69, false))⟩,
  ⟨(some 72), 101, (.un .not), [.t 71], (some (69, false))⟩,
  ⟨(some 73), 102, .pick, [.t 69, .c (.bool true), .t 72], none⟩])
 (.cond (.t 73) (.seq (.region [⟨(some 74), 103, (.load true 7), [.t 5], none⟩,
  ⟨(some 75), 104, .move, [.t 1], none⟩,
  ⟨(some 76), 105, (.load true 10), [.t 13], none⟩,
  ⟨(some 77), 106, (.call false 111), [.t 74, .t 75, .t 76], none⟩,
  ⟨(some 78), 110, (.bin .eql), [.t 77, .c (.int .i64 (0))], none⟩,
  ⟨(some 10), 111, .move, [.t 78], none⟩])
 (.ret)) (.skip)))
 (.seq (.region [⟨(some 79), 112, (.load true 3), [.t 9], none⟩,
  ⟨(some 80), 113, (.fieldAddr 3), [.t 13], none⟩,
  ⟨none, 114, (.store 3), [.t 80, .t 79], none⟩])
 (.seq (.region [⟨(some 81), 115, (.load true 7), [.t 5], none⟩,
  ⟨(some 82), 116, .move, [.t 1], none⟩,
  ⟨(some 83), 117, (.load true 10), [.t 13], none⟩,
  ⟨(some 84), 118, (.call false 111), [.t 81, .t 82, .t 83], none⟩,
  ⟨(some 85), 122, (.bin .eql), [.t 84, .c (.int .i64 (0))], none⟩,
  ⟨(some 10), 123, .move, [.t 85], none⟩])
 (.ret)))))))))
  [.tmp 10] 0 81
def f90.env : Env := [(109, f109.C), (110, f110.C), (111, f111.C), (34, f34.C), (49, f49.C)]
def f90.tree (a : T_api_Machine × (List (T_api_Job)) × T_api_Task × Int × T_ar3_i64) : Prop := ∃ c1 : Unit, True ∧ Br (!(lawTrue c1)) (∃ c4 : Unit, True ∧ ((lawTrue c4) = (lawTrue a)) ∧ True) (∃ c7 : (List (T_api_Machine)) × (List (T_api_Job)), (1 = c7.1.length) ∧ (∀ i, i < c7.1.length → DEqs ((fun _ => [.str a.1.1.1, .int .i64 a.1.1.2.1.1, .int .i64 a.1.1.2.1.2.1, .int .i64 a.1.1.2.1.2.2, .slice .ro 2 a.1.1.2.2.length (gl e_api_Label a.1.1.2.2), .bool a.1.2.1, .int .i64 a.1.2.2]) i) ((gl e_api_Machine c7.1) i)) ∧ (a.2.1.length = c7.2.length) ∧ (∀ i, i < c7.2.length → DEqs ((gl e_api_Job a.2.1) i) ((gl e_api_Job c7.2) i)) ∧ (few11_pre c7) ∧ Br (!(few11 c7)) (∃ c10 : Unit, True ∧ ((lawTrue c10) = (lawTrue a)) ∧ True) (Br (decide ((20 : Int) < (a.2.2.1.2.2.2.2.1.length : Int))) (∃ c15 : Unit, True ∧ ((lawTrue c15) = (lawTrue a)) ∧ True) (∃ c18 : T_api_Machine × (List (T_api_Job)) × T_api_Task, (a.1.1.1 = c18.1.1.1) ∧ (a.1.1.2.1.1 = c18.1.1.2.1.1) ∧ (a.1.1.2.1.2.1 = c18.1.1.2.1.2.1) ∧ (a.1.1.2.1.2.2 = c18.1.1.2.1.2.2) ∧ (a.1.1.2.2.length = c18.1.1.2.2.length) ∧ (∀ i, i < c18.1.1.2.2.length → DEqs ((gl e_api_Label a.1.1.2.2) i) ((gl e_api_Label c18.1.1.2.2) i)) ∧ (a.1.2.1 = c18.1.2.1) ∧ (a.1.2.2 = c18.1.2.2) ∧ (a.2.1.length = c18.2.1.length) ∧ (∀ i, i < c18.2.1.length → DEqs ((gl e_api_Job a.2.1) i) ((gl e_api_Job c18.2.1) i)) ∧ (a.2.2.1.1 = c18.2.2.1) ∧ (a.2.2.1.2.1 = c18.2.2.2.1) ∧ (a.2.2.1.2.2.1 = c18.2.2.2.2.1) ∧ (a.2.2.1.2.2.2.1.1 = c18.2.2.2.2.2.1.1) ∧ (a.2.2.1.2.2.2.1.2.1 = c18.2.2.2.2.2.1.2.1) ∧ (a.2.2.1.2.2.2.1.2.2 = c18.2.2.2.2.2.1.2.2) ∧ (a.2.2.1.2.2.2.2.1.length = c18.2.2.2.2.2.2.1.length) ∧ (∀ i, i < c18.2.2.2.2.2.2.1.length → DEqs ((gl e_api_Label a.2.2.1.2.2.2.2.1) i) ((gl e_api_Label c18.2.2.2.2.2.2.1) i)) ∧ (a.2.2.1.2.2.2.2.2.1 = c18.2.2.2.2.2.2.2.1) ∧ (a.2.2.1.2.2.2.2.2.2.1 = c18.2.2.2.2.2.2.2.2.1) ∧ (a.2.2.1.2.2.2.2.2.2.2 = c18.2.2.2.2.2.2.2.2.2) ∧ (why_pre c18) ∧ Br ((whyR c18) != (0 : Int)) (∃ c21 : Unit, True ∧ ((lawTrue c21) = (lawTrue a)) ∧ True) (Br (decide ((0 : Int) < (a.2.1.length : Int))) (Let (IntKind.u64.wrap (a.2.1.length : Int)) (fun v26 : Int => Br (!(v26 == 0)) (Let (Int.tmod a.2.2.2.1 v26) (fun v27 : Int => Let (IntKind.i64.wrap v27) (fun v28 : Int => Br (decide ((0 : Int) ≤ (0 : Int)) && decide ((0 : Int) ≤ v28) && decide (v28 ≤ (a.2.1.length : Int)) && (v28 == v28)) ((room ((0 + (Int.toNat (v28 - (0 : Int)))) * 160)) ∧ (Let (IntKind.i64.wrap (v28 + (1 : Int))) (fun v30 : Int => Br (decide ((0 : Int) ≤ v30) && decide (v30 ≤ (a.2.1.length : Int)) && decide ((a.2.1.length : Int) ≤ (a.2.1.length : Int)) && ((a.2.1.length : Int) == (a.2.1.length : Int))) (((0 + (Int.toNat (v28 - (0 : Int)))) = (0 + (Int.toNat (v28 - (0 : Int)))) ∧ room (((0 + (Int.toNat (v28 - (0 : Int)))) + (Int.toNat ((a.2.1.length : Int) - v30))) * 160)) ∧ (∃ c32 : T_api_Machine × (List (T_api_Job)) × T_api_Task, (a.1.1.1 = c32.1.1.1) ∧ (a.1.1.2.1.1 = c32.1.1.2.1.1) ∧ (a.1.1.2.1.2.1 = c32.1.1.2.1.2.1) ∧ (a.1.1.2.1.2.2 = c32.1.1.2.1.2.2) ∧ (a.1.1.2.2.length = c32.1.1.2.2.length) ∧ (∀ i, i < c32.1.1.2.2.length → DEqs ((gl e_api_Label a.1.1.2.2) i) ((gl e_api_Label c32.1.1.2.2) i)) ∧ (a.1.2.1 = c32.1.2.1) ∧ (a.1.2.2 = c32.1.2.2) ∧ (((0 + (Int.toNat (v28 - (0 : Int)))) + (Int.toNat ((a.2.1.length : Int) - v30))) = c32.2.1.length) ∧ (∀ i, i < c32.2.1.length → DEqs ((gapp (gapp (fun j => List.take 13 (List.drop (j * 13) [])) 0 (gsub (gl e_api_Job a.2.1) 0)) (0 + (Int.toNat (v28 - (0 : Int)))) (gsub (gl e_api_Job a.2.1) (Int.toNat v30))) i) ((gl e_api_Job c32.2.1) i)) ∧ (a.2.2.1.1 = c32.2.2.1) ∧ (a.2.2.1.2.1 = c32.2.2.2.1) ∧ (a.2.2.1.2.2.1 = c32.2.2.2.2.1) ∧ (a.2.2.1.2.2.2.1.1 = c32.2.2.2.2.2.1.1) ∧ (a.2.2.1.2.2.2.1.2.1 = c32.2.2.2.2.2.1.2.1) ∧ (a.2.2.1.2.2.2.1.2.2 = c32.2.2.2.2.2.1.2.2) ∧ (a.2.2.1.2.2.2.2.1.length = c32.2.2.2.2.2.2.1.length) ∧ (∀ i, i < c32.2.2.2.2.2.2.1.length → DEqs ((gl e_api_Label a.2.2.1.2.2.2.2.1) i) ((gl e_api_Label c32.2.2.2.2.2.2.1) i)) ∧ (a.2.2.1.2.2.2.2.2.1 = c32.2.2.2.2.2.2.2.1) ∧ (a.2.2.1.2.2.2.2.2.2.1 = c32.2.2.2.2.2.2.2.2.1) ∧ (a.2.2.1.2.2.2.2.2.2.2 = c32.2.2.2.2.2.2.2.2.2) ∧ (why_pre c32) ∧ Br ((whyR c32) != (0 : Int)) ((false = (lawTrue a)) ∧ True) (∃ c36 : T_ar3_i64 × T_ar3_i64, (a.2.2.2.2.1 = c36.1.1) ∧ (a.2.2.2.2.2.1 = c36.1.2.1) ∧ (a.2.2.2.2.2.2 = c36.1.2.2) ∧ (a.2.2.1.2.2.2.1.1 = c36.2.1) ∧ (a.2.2.1.2.2.2.1.2.1 = c36.2.2.1) ∧ (a.2.2.1.2.2.2.1.2.2 = c36.2.2.2) ∧ True ∧ Br (!(fitsR c36)) (∃ c39 : T_api_Machine × (List (T_api_Job)) × T_api_Task, (a.1.1.1 = c39.1.1.1) ∧ (a.1.1.2.1.1 = c39.1.1.2.1.1) ∧ (a.1.1.2.1.2.1 = c39.1.1.2.1.2.1) ∧ (a.1.1.2.1.2.2 = c39.1.1.2.1.2.2) ∧ (a.1.1.2.2.length = c39.1.1.2.2.length) ∧ (∀ i, i < c39.1.1.2.2.length → DEqs ((gl e_api_Label a.1.1.2.2) i) ((gl e_api_Label c39.1.1.2.2) i)) ∧ (a.1.2.1 = c39.1.2.1) ∧ (a.1.2.2 = c39.1.2.2) ∧ (a.2.1.length = c39.2.1.length) ∧ (∀ i, i < c39.2.1.length → DEqs ((gl e_api_Job a.2.1) i) ((gl e_api_Job c39.2.1) i)) ∧ (a.2.2.1.1 = c39.2.2.1) ∧ (a.2.2.1.2.1 = c39.2.2.2.1) ∧ (a.2.2.1.2.2.1 = c39.2.2.2.2.1) ∧ (a.2.2.1.2.2.2.1.1 = c39.2.2.2.2.2.1.1) ∧ (a.2.2.1.2.2.2.1.2.1 = c39.2.2.2.2.2.1.2.1) ∧ (a.2.2.1.2.2.2.1.2.2 = c39.2.2.2.2.2.1.2.2) ∧ (0 = c39.2.2.2.2.2.2.1.length) ∧ (∀ i, i < c39.2.2.2.2.2.2.1.length → DEqs (gnil i) ((gl e_api_Label c39.2.2.2.2.2.2.1) i)) ∧ (ByteArray.empty = c39.2.2.2.2.2.2.2.1) ∧ (a.2.2.1.2.2.2.2.2.2.1 = c39.2.2.2.2.2.2.2.2.1) ∧ (a.2.2.1.2.2.2.2.2.2.2 = c39.2.2.2.2.2.2.2.2.2) ∧ (why_pre c39) ∧ (((whyR c39) == (0 : Int)) = (lawTrue a)) ∧ True) (∃ c42 : T_ar3_i64, (a.2.2.2.2.1 = c42.1) ∧ (a.2.2.2.2.2.1 = c42.2.1) ∧ (a.2.2.2.2.2.2 = c42.2.2) ∧ True ∧ Br (!(rightB c42)) (∃ c45 : T_api_Machine × (List (T_api_Job)) × T_api_Task, (a.1.1.1 = c45.1.1.1) ∧ (a.1.1.2.1.1 = c45.1.1.2.1.1) ∧ (a.1.1.2.1.2.1 = c45.1.1.2.1.2.1) ∧ (a.1.1.2.1.2.2 = c45.1.1.2.1.2.2) ∧ (a.1.1.2.2.length = c45.1.1.2.2.length) ∧ (∀ i, i < c45.1.1.2.2.length → DEqs ((gl e_api_Label a.1.1.2.2) i) ((gl e_api_Label c45.1.1.2.2) i)) ∧ (a.1.2.1 = c45.1.2.1) ∧ (a.1.2.2 = c45.1.2.2) ∧ (a.2.1.length = c45.2.1.length) ∧ (∀ i, i < c45.2.1.length → DEqs ((gl e_api_Job a.2.1) i) ((gl e_api_Job c45.2.1) i)) ∧ (a.2.2.1.1 = c45.2.2.1) ∧ (a.2.2.1.2.1 = c45.2.2.2.1) ∧ (a.2.2.1.2.2.1 = c45.2.2.2.2.1) ∧ (a.2.2.1.2.2.2.1.1 = c45.2.2.2.2.2.1.1) ∧ (a.2.2.1.2.2.2.1.2.1 = c45.2.2.2.2.2.1.2.1) ∧ (a.2.2.1.2.2.2.1.2.2 = c45.2.2.2.2.2.1.2.2) ∧ (0 = c45.2.2.2.2.2.2.1.length) ∧ (∀ i, i < c45.2.2.2.2.2.2.1.length → DEqs (gnil i) ((gl e_api_Label c45.2.2.2.2.2.2.1) i)) ∧ (ByteArray.empty = c45.2.2.2.2.2.2.2.1) ∧ (a.2.2.1.2.2.2.2.2.2.1 = c45.2.2.2.2.2.2.2.2.1) ∧ (a.2.2.1.2.2.2.2.2.2.2 = c45.2.2.2.2.2.2.2.2.2) ∧ (why_pre c45) ∧ (((whyR c45) == (0 : Int)) = (lawTrue a)) ∧ True) (∃ c48 : T_api_Machine × (List (T_api_Job)) × T_api_Task, (a.1.1.1 = c48.1.1.1) ∧ (a.1.1.2.1.1 = c48.1.1.2.1.1) ∧ (a.1.1.2.1.2.1 = c48.1.1.2.1.2.1) ∧ (a.1.1.2.1.2.2 = c48.1.1.2.1.2.2) ∧ (a.1.1.2.2.length = c48.1.1.2.2.length) ∧ (∀ i, i < c48.1.1.2.2.length → DEqs ((gl e_api_Label a.1.1.2.2) i) ((gl e_api_Label c48.1.1.2.2) i)) ∧ (a.1.2.1 = c48.1.2.1) ∧ (a.1.2.2 = c48.1.2.2) ∧ (a.2.1.length = c48.2.1.length) ∧ (∀ i, i < c48.2.1.length → DEqs ((gl e_api_Job a.2.1) i) ((gl e_api_Job c48.2.1) i)) ∧ (a.2.2.1.1 = c48.2.2.1) ∧ (a.2.2.1.2.1 = c48.2.2.2.1) ∧ (a.2.2.1.2.2.1 = c48.2.2.2.2.1) ∧ (a.2.2.2.2.1 = c48.2.2.2.2.2.1.1) ∧ (a.2.2.2.2.2.1 = c48.2.2.2.2.2.1.2.1) ∧ (a.2.2.2.2.2.2 = c48.2.2.2.2.2.1.2.2) ∧ (0 = c48.2.2.2.2.2.2.1.length) ∧ (∀ i, i < c48.2.2.2.2.2.2.1.length → DEqs (gnil i) ((gl e_api_Label c48.2.2.2.2.2.2.1) i)) ∧ (ByteArray.empty = c48.2.2.2.2.2.2.2.1) ∧ (a.2.2.1.2.2.2.2.2.2.1 = c48.2.2.2.2.2.2.2.2.1) ∧ (a.2.2.1.2.2.2.2.2.2.2 = c48.2.2.2.2.2.2.2.2.2) ∧ (why_pre c48) ∧ (((whyR c48) == (0 : Int)) = (lawTrue a)) ∧ True))))) False))) False))) False)) (∃ c71 : T_ar3_i64 × T_ar3_i64, (a.2.2.2.2.1 = c71.1.1) ∧ (a.2.2.2.2.2.1 = c71.1.2.1) ∧ (a.2.2.2.2.2.2 = c71.1.2.2) ∧ (a.2.2.1.2.2.2.1.1 = c71.2.1) ∧ (a.2.2.1.2.2.2.1.2.1 = c71.2.2.1) ∧ (a.2.2.1.2.2.2.1.2.2 = c71.2.2.2) ∧ True ∧ Br (!(fitsR c71)) (∃ c74 : T_api_Machine × (List (T_api_Job)) × T_api_Task, (a.1.1.1 = c74.1.1.1) ∧ (a.1.1.2.1.1 = c74.1.1.2.1.1) ∧ (a.1.1.2.1.2.1 = c74.1.1.2.1.2.1) ∧ (a.1.1.2.1.2.2 = c74.1.1.2.1.2.2) ∧ (a.1.1.2.2.length = c74.1.1.2.2.length) ∧ (∀ i, i < c74.1.1.2.2.length → DEqs ((gl e_api_Label a.1.1.2.2) i) ((gl e_api_Label c74.1.1.2.2) i)) ∧ (a.1.2.1 = c74.1.2.1) ∧ (a.1.2.2 = c74.1.2.2) ∧ (a.2.1.length = c74.2.1.length) ∧ (∀ i, i < c74.2.1.length → DEqs ((gl e_api_Job a.2.1) i) ((gl e_api_Job c74.2.1) i)) ∧ (a.2.2.1.1 = c74.2.2.1) ∧ (a.2.2.1.2.1 = c74.2.2.2.1) ∧ (a.2.2.1.2.2.1 = c74.2.2.2.2.1) ∧ (a.2.2.1.2.2.2.1.1 = c74.2.2.2.2.2.1.1) ∧ (a.2.2.1.2.2.2.1.2.1 = c74.2.2.2.2.2.1.2.1) ∧ (a.2.2.1.2.2.2.1.2.2 = c74.2.2.2.2.2.1.2.2) ∧ (0 = c74.2.2.2.2.2.2.1.length) ∧ (∀ i, i < c74.2.2.2.2.2.2.1.length → DEqs (gnil i) ((gl e_api_Label c74.2.2.2.2.2.2.1) i)) ∧ (ByteArray.empty = c74.2.2.2.2.2.2.2.1) ∧ (a.2.2.1.2.2.2.2.2.2.1 = c74.2.2.2.2.2.2.2.2.1) ∧ (a.2.2.1.2.2.2.2.2.2.2 = c74.2.2.2.2.2.2.2.2.2) ∧ (why_pre c74) ∧ (((whyR c74) == (0 : Int)) = (lawTrue a)) ∧ True) (∃ c77 : T_ar3_i64, (a.2.2.2.2.1 = c77.1) ∧ (a.2.2.2.2.2.1 = c77.2.1) ∧ (a.2.2.2.2.2.2 = c77.2.2) ∧ True ∧ Br (!(rightB c77)) (∃ c80 : T_api_Machine × (List (T_api_Job)) × T_api_Task, (a.1.1.1 = c80.1.1.1) ∧ (a.1.1.2.1.1 = c80.1.1.2.1.1) ∧ (a.1.1.2.1.2.1 = c80.1.1.2.1.2.1) ∧ (a.1.1.2.1.2.2 = c80.1.1.2.1.2.2) ∧ (a.1.1.2.2.length = c80.1.1.2.2.length) ∧ (∀ i, i < c80.1.1.2.2.length → DEqs ((gl e_api_Label a.1.1.2.2) i) ((gl e_api_Label c80.1.1.2.2) i)) ∧ (a.1.2.1 = c80.1.2.1) ∧ (a.1.2.2 = c80.1.2.2) ∧ (a.2.1.length = c80.2.1.length) ∧ (∀ i, i < c80.2.1.length → DEqs ((gl e_api_Job a.2.1) i) ((gl e_api_Job c80.2.1) i)) ∧ (a.2.2.1.1 = c80.2.2.1) ∧ (a.2.2.1.2.1 = c80.2.2.2.1) ∧ (a.2.2.1.2.2.1 = c80.2.2.2.2.1) ∧ (a.2.2.1.2.2.2.1.1 = c80.2.2.2.2.2.1.1) ∧ (a.2.2.1.2.2.2.1.2.1 = c80.2.2.2.2.2.1.2.1) ∧ (a.2.2.1.2.2.2.1.2.2 = c80.2.2.2.2.2.1.2.2) ∧ (0 = c80.2.2.2.2.2.2.1.length) ∧ (∀ i, i < c80.2.2.2.2.2.2.1.length → DEqs (gnil i) ((gl e_api_Label c80.2.2.2.2.2.2.1) i)) ∧ (ByteArray.empty = c80.2.2.2.2.2.2.2.1) ∧ (a.2.2.1.2.2.2.2.2.2.1 = c80.2.2.2.2.2.2.2.2.1) ∧ (a.2.2.1.2.2.2.2.2.2.2 = c80.2.2.2.2.2.2.2.2.2) ∧ (why_pre c80) ∧ (((whyR c80) == (0 : Int)) = (lawTrue a)) ∧ True) (∃ c83 : T_api_Machine × (List (T_api_Job)) × T_api_Task, (a.1.1.1 = c83.1.1.1) ∧ (a.1.1.2.1.1 = c83.1.1.2.1.1) ∧ (a.1.1.2.1.2.1 = c83.1.1.2.1.2.1) ∧ (a.1.1.2.1.2.2 = c83.1.1.2.1.2.2) ∧ (a.1.1.2.2.length = c83.1.1.2.2.length) ∧ (∀ i, i < c83.1.1.2.2.length → DEqs ((gl e_api_Label a.1.1.2.2) i) ((gl e_api_Label c83.1.1.2.2) i)) ∧ (a.1.2.1 = c83.1.2.1) ∧ (a.1.2.2 = c83.1.2.2) ∧ (a.2.1.length = c83.2.1.length) ∧ (∀ i, i < c83.2.1.length → DEqs ((gl e_api_Job a.2.1) i) ((gl e_api_Job c83.2.1) i)) ∧ (a.2.2.1.1 = c83.2.2.1) ∧ (a.2.2.1.2.1 = c83.2.2.2.1) ∧ (a.2.2.1.2.2.1 = c83.2.2.2.2.1) ∧ (a.2.2.2.2.1 = c83.2.2.2.2.2.1.1) ∧ (a.2.2.2.2.2.1 = c83.2.2.2.2.2.1.2.1) ∧ (a.2.2.2.2.2.2 = c83.2.2.2.2.2.1.2.2) ∧ (0 = c83.2.2.2.2.2.2.1.length) ∧ (∀ i, i < c83.2.2.2.2.2.2.1.length → DEqs (gnil i) ((gl e_api_Label c83.2.2.2.2.2.2.1) i)) ∧ (ByteArray.empty = c83.2.2.2.2.2.2.2.1) ∧ (a.2.2.1.2.2.2.2.2.2.1 = c83.2.2.2.2.2.2.2.2.1) ∧ (a.2.2.1.2.2.2.2.2.2.2 = c83.2.2.2.2.2.2.2.2.2) ∧ (why_pre c83) ∧ (((whyR c83) == (0 : Int)) = (lawTrue a)) ∧ True)))))))
def f90.vc (a : T_api_Machine × (List (T_api_Job)) × T_api_Task × Int × T_ar3_i64) : Prop := ((¬ ((lawTrue ()) = true) → ((lawTrue ()) = lawTrue a)) ∧ (¬ (¬ ((lawTrue ()) = true)) → (few11_pre ([a.1], a.2.1) ∧ ((¬ ((few11 ([a.1], a.2.1)) = true) → ((lawTrue ()) = lawTrue a)) ∧ (¬ (¬ ((few11 ([a.1], a.2.1)) = true)) → (((20 : Int) < (a.2.2.1.2.2.2.2.1.length : Int) → ((lawTrue ()) = lawTrue a)) ∧ (¬ ((20 : Int) < (a.2.2.1.2.2.2.2.1.length : Int)) → (why_pre (a.1, a.2.1, a.2.2.1) ∧ ((¬ (whyR (a.1, a.2.1, a.2.2.1)) = (0 : Int) → ((lawTrue ()) = lawTrue a)) ∧ (¬ (¬ (whyR (a.1, a.2.1, a.2.2.1)) = (0 : Int)) → (((0 : Int) < (a.2.1.length : Int) → (0 ≤ (a.2.1.length : Int) ∧ (a.2.1.length : Int) ≤ 18446744073709551615 ∧ (0 ≤ a.2.2.2.1 ∧ 0 < (a.2.1.length : Int) ∧ (-9223372036854775808 ≤ (a.2.2.2.1 % (a.2.1.length : Int)) ∧ (a.2.2.2.1 % (a.2.1.length : Int)) ≤ 9223372036854775807 ∧ ((0 : Int) ≤ (a.2.2.2.1 % (a.2.1.length : Int)) ∧ (a.2.2.2.1 % (a.2.1.length : Int)) ≤ (a.2.1.length : Int) ∧ (0 + (Int.toNat ((a.2.2.2.1 % (a.2.1.length : Int)) - (0 : Int))) ≤ 1073741824 ∧ (-9223372036854775808 ≤ ((a.2.2.2.1 % (a.2.1.length : Int)) + (1 : Int)) ∧ ((a.2.2.2.1 % (a.2.1.length : Int)) + (1 : Int)) ≤ 9223372036854775807 ∧ ((0 : Int) ≤ ((a.2.2.2.1 % (a.2.1.length : Int)) + (1 : Int)) ∧ ((a.2.2.2.1 % (a.2.1.length : Int)) + (1 : Int)) ≤ (a.2.1.length : Int) ∧ ((0 + (Int.toNat ((a.2.2.2.1 % (a.2.1.length : Int)) - (0 : Int)))) + (Int.toNat ((a.2.1.length : Int) - ((a.2.2.2.1 % (a.2.1.length : Int)) + (1 : Int)))) ≤ 1073741824 ∧ (why_pre (a.1, (([]) ++ (subL a.2.1 (0 : Int) (a.2.2.2.1 % (a.2.1.length : Int)))) ++ (subL a.2.1 ((a.2.2.2.1 % (a.2.1.length : Int)) + (1 : Int)) (a.2.1.length : Int)), a.2.2.1) ∧ ((¬ (whyR (a.1, (([]) ++ (subL a.2.1 (0 : Int) (a.2.2.2.1 % (a.2.1.length : Int)))) ++ (subL a.2.1 ((a.2.2.2.1 % (a.2.1.length : Int)) + (1 : Int)) (a.2.1.length : Int)), a.2.2.1)) = (0 : Int) → (false = lawTrue a)) ∧ (¬ (¬ (whyR (a.1, (([]) ++ (subL a.2.1 (0 : Int) (a.2.2.2.1 % (a.2.1.length : Int)))) ++ (subL a.2.1 ((a.2.2.2.1 % (a.2.1.length : Int)) + (1 : Int)) (a.2.1.length : Int)), a.2.2.1)) = (0 : Int)) → ((¬ ((fitsR (a.2.2.2.2, a.2.2.1.2.2.2.1)) = true) → (why_pre (a.1, a.2.1, (a.2.2.1.1, a.2.2.1.2.1, a.2.2.1.2.2.1, a.2.2.1.2.2.2.1, [], ByteArray.empty, a.2.2.1.2.2.2.2.2.2.1, a.2.2.1.2.2.2.2.2.2.2)) ∧ (((whyR (a.1, a.2.1, (a.2.2.1.1, a.2.2.1.2.1, a.2.2.1.2.2.1, a.2.2.1.2.2.2.1, [], ByteArray.empty, a.2.2.1.2.2.2.2.2.2.1, a.2.2.1.2.2.2.2.2.2.2))) == (0 : Int)) = lawTrue a))) ∧ (¬ (¬ ((fitsR (a.2.2.2.2, a.2.2.1.2.2.2.1)) = true)) → ((¬ ((rightB (a.2.2.2.2)) = true) → (why_pre (a.1, a.2.1, (a.2.2.1.1, a.2.2.1.2.1, a.2.2.1.2.2.1, a.2.2.1.2.2.2.1, [], ByteArray.empty, a.2.2.1.2.2.2.2.2.2.1, a.2.2.1.2.2.2.2.2.2.2)) ∧ (((whyR (a.1, a.2.1, (a.2.2.1.1, a.2.2.1.2.1, a.2.2.1.2.2.1, a.2.2.1.2.2.2.1, [], ByteArray.empty, a.2.2.1.2.2.2.2.2.2.1, a.2.2.1.2.2.2.2.2.2.2))) == (0 : Int)) = lawTrue a))) ∧ (¬ (¬ ((rightB (a.2.2.2.2)) = true)) → (why_pre (a.1, a.2.1, (a.2.2.1.1, a.2.2.1.2.1, a.2.2.1.2.2.1, a.2.2.2.2, [], ByteArray.empty, a.2.2.1.2.2.2.2.2.2.1, a.2.2.1.2.2.2.2.2.2.2)) ∧ (((whyR (a.1, a.2.1, (a.2.2.1.1, a.2.2.1.2.1, a.2.2.1.2.2.1, a.2.2.2.2, [], ByteArray.empty, a.2.2.1.2.2.2.2.2.2.1, a.2.2.1.2.2.2.2.2.2.2))) == (0 : Int)) = lawTrue a)))))))))))))))))) ∧ (¬ ((0 : Int) < (a.2.1.length : Int)) → ((¬ ((fitsR (a.2.2.2.2, a.2.2.1.2.2.2.1)) = true) → (why_pre (a.1, a.2.1, (a.2.2.1.1, a.2.2.1.2.1, a.2.2.1.2.2.1, a.2.2.1.2.2.2.1, [], ByteArray.empty, a.2.2.1.2.2.2.2.2.2.1, a.2.2.1.2.2.2.2.2.2.2)) ∧ (((whyR (a.1, a.2.1, (a.2.2.1.1, a.2.2.1.2.1, a.2.2.1.2.2.1, a.2.2.1.2.2.2.1, [], ByteArray.empty, a.2.2.1.2.2.2.2.2.2.1, a.2.2.1.2.2.2.2.2.2.2))) == (0 : Int)) = lawTrue a))) ∧ (¬ (¬ ((fitsR (a.2.2.2.2, a.2.2.1.2.2.2.1)) = true)) → ((¬ ((rightB (a.2.2.2.2)) = true) → (why_pre (a.1, a.2.1, (a.2.2.1.1, a.2.2.1.2.1, a.2.2.1.2.2.1, a.2.2.1.2.2.2.1, [], ByteArray.empty, a.2.2.1.2.2.2.2.2.2.1, a.2.2.1.2.2.2.2.2.2.2)) ∧ (((whyR (a.1, a.2.1, (a.2.2.1.1, a.2.2.1.2.1, a.2.2.1.2.2.1, a.2.2.1.2.2.2.1, [], ByteArray.empty, a.2.2.1.2.2.2.2.2.2.1, a.2.2.1.2.2.2.2.2.2.2))) == (0 : Int)) = lawTrue a))) ∧ (¬ (¬ ((rightB (a.2.2.2.2)) = true)) → (why_pre (a.1, a.2.1, (a.2.2.1.1, a.2.2.1.2.1, a.2.2.1.2.2.1, a.2.2.2.2, [], ByteArray.empty, a.2.2.1.2.2.2.2.2.2.1, a.2.2.1.2.2.2.2.2.2.2)) ∧ (((whyR (a.1, a.2.1, (a.2.2.1.1, a.2.2.1.2.1, a.2.2.1.2.2.1, a.2.2.2.2, [], ByteArray.empty, a.2.2.1.2.2.2.2.2.2.1, a.2.2.1.2.2.2.2.2.2.2))) == (0 : Int)) = lawTrue a))))))))))))))))))
set_option maxRecDepth 100000 in
set_option maxHeartbeats 2000000 in
theorem f90.of (a : T_api_Machine × (List (T_api_Job)) × T_api_Task × Int × T_ar3_i64) (h : f90.vc a) : f90.tree a := ⟨(), ⟨trivial, br h (Cnd.not Cnd.b) (fun h2 k102 => ⟨(), ⟨trivial, ⟨k102, trivial⟩⟩⟩) (fun h3 k103 => ⟨([a.1], a.2.1), slK (Rds.one (enc := e_api_Machine) (DEqs.refl _)) (slK (Rds.self (enc := e_api_Job)) (⟨k103.1, br k103.2 (Cnd.not Cnd.b) (fun h8 k99 => ⟨(), ⟨trivial, ⟨k99, trivial⟩⟩⟩) (fun h9 k100 => br k100 Cnd.dec (fun h13 k97 => ⟨(), ⟨trivial, ⟨k97, trivial⟩⟩⟩) (fun h14 k98 => ⟨(a.1, a.2.1, a.2.2.1), ⟨rfl, ⟨rfl, ⟨rfl, ⟨rfl, slK (Rds.self (enc := e_api_Label)) (⟨rfl, ⟨rfl, slK (Rds.self (enc := e_api_Job)) (⟨rfl, ⟨rfl, ⟨rfl, ⟨rfl, ⟨rfl, ⟨rfl, slK (Rds.self (enc := e_api_Label)) (⟨rfl, ⟨rfl, ⟨rfl, ⟨k98.1, br k98.2 Cnd.ne (fun h19 k94 => ⟨(), ⟨trivial, ⟨k94, trivial⟩⟩⟩) (fun h20 k95 => br k95 Cnd.dec (fun h24 k92 => wrapK.u64 k92 (fun h68 h69 k70 => chk0 (Cnd.not Cnd.eq) (by have := k70.2.1; omega) (modK k70.1 (wrapK.i64 k70.2.2 (fun h65 h66 k67 => chk k67.2.2 Cnd.sl ⟨(by decide), k67.1, k67.2.1⟩ (fun h29 k64 => ⟨(room_of k64.1 (by decide)), wrapK.i64 k64.2 (fun h61 h62 k63 => chk k63.2.2 Cnd.sl ⟨k63.1, k63.2.1, (Int.le_refl _)⟩ (fun h31 k60 => ⟨⟨rfl, (room_of k60.1 (by decide))⟩, ⟨(a.1, (([]) ++ (subL a.2.1 (0 : Int) (a.2.2.2.1 % (a.2.1.length : Int)))) ++ (subL a.2.1 ((a.2.2.2.1 % (a.2.1.length : Int)) + (1 : Int)) (a.2.1.length : Int)), a.2.2.1), ⟨rfl, ⟨rfl, ⟨rfl, ⟨rfl, slK (Rds.self (enc := e_api_Label)) (⟨rfl, ⟨rfl, slK (Rds.app (enc := e_api_Job) (Rds.app (enc := e_api_Job) (Rds.nil (enc := e_api_Job)) (Rds.sub (enc := e_api_Job) (Rds.self (enc := e_api_Job)) h29)) (Rds.sub (enc := e_api_Job) (Rds.self (enc := e_api_Job)) h31)) (⟨rfl, ⟨rfl, ⟨rfl, ⟨rfl, ⟨rfl, ⟨rfl, slK (Rds.self (enc := e_api_Label)) (⟨rfl, ⟨rfl, ⟨rfl, ⟨k60.2.1, br k60.2.2 Cnd.ne (fun h33 k57 => ⟨k57, trivial⟩) (fun h34 k58 => ⟨(a.2.2.2.2, a.2.2.1.2.2.2.1), ⟨rfl, ⟨rfl, ⟨rfl, ⟨rfl, ⟨rfl, ⟨rfl, ⟨trivial, br k58 (Cnd.not Cnd.b) (fun h37 k54 => ⟨(a.1, a.2.1, (a.2.2.1.1, a.2.2.1.2.1, a.2.2.1.2.2.1, a.2.2.1.2.2.2.1, [], ByteArray.empty, a.2.2.1.2.2.2.2.2.2.1, a.2.2.1.2.2.2.2.2.2.2)), ⟨rfl, ⟨rfl, ⟨rfl, ⟨rfl, slK (Rds.self (enc := e_api_Label)) (⟨rfl, ⟨rfl, slK (Rds.self (enc := e_api_Job)) (⟨rfl, ⟨rfl, ⟨rfl, ⟨rfl, ⟨rfl, ⟨rfl, slK (Rds.nil (enc := e_api_Label)) (⟨rfl, ⟨rfl, ⟨rfl, ⟨k54.1, ⟨k54.2, trivial⟩⟩⟩⟩⟩)⟩⟩⟩⟩⟩⟩)⟩⟩)⟩⟩⟩⟩⟩) (fun h38 k55 => ⟨a.2.2.2.2, ⟨rfl, ⟨rfl, ⟨rfl, ⟨trivial, br k55 (Cnd.not Cnd.b) (fun h43 k51 => ⟨(a.1, a.2.1, (a.2.2.1.1, a.2.2.1.2.1, a.2.2.1.2.2.1, a.2.2.1.2.2.2.1, [], ByteArray.empty, a.2.2.1.2.2.2.2.2.2.1, a.2.2.1.2.2.2.2.2.2.2)), ⟨rfl, ⟨rfl, ⟨rfl, ⟨rfl, slK (Rds.self (enc := e_api_Label)) (⟨rfl, ⟨rfl, slK (Rds.self (enc := e_api_Job)) (⟨rfl, ⟨rfl, ⟨rfl, ⟨rfl, ⟨rfl, ⟨rfl, slK (Rds.nil (enc := e_api_Label)) (⟨rfl, ⟨rfl, ⟨rfl, ⟨k51.1, ⟨k51.2, trivial⟩⟩⟩⟩⟩)⟩⟩⟩⟩⟩⟩)⟩⟩)⟩⟩⟩⟩⟩) (fun h44 k52 => ⟨(a.1, a.2.1, (a.2.2.1.1, a.2.2.1.2.1, a.2.2.1.2.2.1, a.2.2.2.2, [], ByteArray.empty, a.2.2.1.2.2.2.2.2.2.1, a.2.2.1.2.2.2.2.2.2.2)), ⟨rfl, ⟨rfl, ⟨rfl, ⟨rfl, slK (Rds.self (enc := e_api_Label)) (⟨rfl, ⟨rfl, slK (Rds.self (enc := e_api_Job)) (⟨rfl, ⟨rfl, ⟨rfl, ⟨rfl, ⟨rfl, ⟨rfl, slK (Rds.nil (enc := e_api_Label)) (⟨rfl, ⟨rfl, ⟨rfl, ⟨k52.1, ⟨k52.2, trivial⟩⟩⟩⟩⟩)⟩⟩⟩⟩⟩⟩)⟩⟩)⟩⟩⟩⟩⟩)⟩⟩⟩⟩⟩)⟩⟩⟩⟩⟩⟩⟩⟩)⟩⟩⟩⟩)⟩⟩⟩⟩⟩⟩)⟩⟩)⟩⟩⟩⟩⟩⟩))⟩)))))) (fun h25 k93 => ⟨(a.2.2.2.2, a.2.2.1.2.2.2.1), ⟨rfl, ⟨rfl, ⟨rfl, ⟨rfl, ⟨rfl, ⟨rfl, ⟨trivial, br k93 (Cnd.not Cnd.b) (fun h72 k89 => ⟨(a.1, a.2.1, (a.2.2.1.1, a.2.2.1.2.1, a.2.2.1.2.2.1, a.2.2.1.2.2.2.1, [], ByteArray.empty, a.2.2.1.2.2.2.2.2.2.1, a.2.2.1.2.2.2.2.2.2.2)), ⟨rfl, ⟨rfl, ⟨rfl, ⟨rfl, slK (Rds.self (enc := e_api_Label)) (⟨rfl, ⟨rfl, slK (Rds.self (enc := e_api_Job)) (⟨rfl, ⟨rfl, ⟨rfl, ⟨rfl, ⟨rfl, ⟨rfl, slK (Rds.nil (enc := e_api_Label)) (⟨rfl, ⟨rfl, ⟨rfl, ⟨k89.1, ⟨k89.2, trivial⟩⟩⟩⟩⟩)⟩⟩⟩⟩⟩⟩)⟩⟩)⟩⟩⟩⟩⟩) (fun h73 k90 => ⟨a.2.2.2.2, ⟨rfl, ⟨rfl, ⟨rfl, ⟨trivial, br k90 (Cnd.not Cnd.b) (fun h78 k86 => ⟨(a.1, a.2.1, (a.2.2.1.1, a.2.2.1.2.1, a.2.2.1.2.2.1, a.2.2.1.2.2.2.1, [], ByteArray.empty, a.2.2.1.2.2.2.2.2.2.1, a.2.2.1.2.2.2.2.2.2.2)), ⟨rfl, ⟨rfl, ⟨rfl, ⟨rfl, slK (Rds.self (enc := e_api_Label)) (⟨rfl, ⟨rfl, slK (Rds.self (enc := e_api_Job)) (⟨rfl, ⟨rfl, ⟨rfl, ⟨rfl, ⟨rfl, ⟨rfl, slK (Rds.nil (enc := e_api_Label)) (⟨rfl, ⟨rfl, ⟨rfl, ⟨k86.1, ⟨k86.2, trivial⟩⟩⟩⟩⟩)⟩⟩⟩⟩⟩⟩)⟩⟩)⟩⟩⟩⟩⟩) (fun h79 k87 => ⟨(a.1, a.2.1, (a.2.2.1.1, a.2.2.1.2.1, a.2.2.1.2.2.1, a.2.2.2.2, [], ByteArray.empty, a.2.2.1.2.2.2.2.2.2.1, a.2.2.1.2.2.2.2.2.2.2)), ⟨rfl, ⟨rfl, ⟨rfl, ⟨rfl, slK (Rds.self (enc := e_api_Label)) (⟨rfl, ⟨rfl, slK (Rds.self (enc := e_api_Job)) (⟨rfl, ⟨rfl, ⟨rfl, ⟨rfl, ⟨rfl, ⟨rfl, slK (Rds.nil (enc := e_api_Label)) (⟨rfl, ⟨rfl, ⟨rfl, ⟨k87.1, ⟨k87.2, trivial⟩⟩⟩⟩⟩)⟩⟩⟩⟩⟩⟩)⟩⟩)⟩⟩⟩⟩⟩)⟩⟩⟩⟩⟩)⟩⟩⟩⟩⟩⟩⟩⟩))⟩⟩⟩⟩)⟩⟩⟩⟩⟩⟩)⟩⟩)⟩⟩⟩⟩⟩))⟩))⟩)⟩⟩
theorem f90.eq (a : T_api_Machine × (List (T_api_Job)) × T_api_Task × Int × T_ar3_i64) : (f90.af a).gives f90.env (f90.args a) (f90.blks a) (f90.res a) (f90.blks' a) = f90.tree a := by kernel_rfl
end Go.Abs

/- The laws of layer 11. -/
namespace Go.Abs
open Go

theorem sub_ok {a b : TRes} : (subR (a, b)).2 = 0 ↔ rightB a = true ∧ rightB b = true ∧ rightB (subV a b) = true := by
  have hne : ¬ ((-1 : Int) = 1) := by decide
  unfold subR bothR
  simp only [hne, if_false]
  by_cases h : rightB a = true ∧ rightB b = true
  · rw [if_neg (not_not_intro h)]
    by_cases h2 : rightB (subV a b) = true
    · rw [if_pos h2]; exact ⟨fun _ => ⟨h.1, h.2, h2⟩, fun _ => rfl⟩
    · rw [if_neg h2]
      exact ⟨fun hh => absurd hh (show ¬ (6 : Int) = 0 by decide), fun hh => absurd hh.2.2 h2⟩
  · rw [if_pos h]
    exact ⟨fun hh => absurd hh (show ¬ (1 : Int) = 0 by decide), fun hh => absurd (And.intro hh.1 hh.2.1) h⟩

theorem sub_val {a b : TRes} (h : (subR (a, b)).2 = 0) : subR (a, b) = (subV a b, 0) := by
  have hne : ¬ ((-1 : Int) = 1) := by decide
  obtain ⟨h1, h2, h3⟩ := sub_ok.1 h
  unfold subR bothR
  simp only [hne, if_false]
  rw [if_neg (not_not_intro (And.intro h1 h2)), if_pos h3]

theorem free_ok {m : TMach} {l : List TJob} : (freeR (m, l)).2 = 0 ↔ (sumR (bindL l m.1.1)).2 = 0 ∧ (subR (m.1.2.1, (sumR (bindL l m.1.1)).1)).2 = 0 := by
  unfold freeR
  simp only
  by_cases h : (sumR (bindL l m.1.1)).2 = 0
  · rw [if_neg (not_not_intro h)]
    exact ⟨fun hh => ⟨h, hh⟩, fun hh => hh.2⟩
  · rw [if_pos h]
    exact ⟨fun hh => absurd hh h, fun hh => absurd hh.1 h⟩

theorem free_val {m : TMach} {l : List TJob} (h : (freeR (m, l)).2 = 0) : freeR (m, l) = (subV m.1.2.1 (sumV (bindL l m.1.1)), 0) := by
  obtain ⟨h1, h2⟩ := free_ok.1 h
  unfold freeR
  simp only
  rw [if_neg (not_not_intro h1), sub_val h2, sumR_val h1]

theorem why_zero {m : TMach} {l : List TJob} {t : TTask} : whyR (m, l, t) = 0 ↔
    ((freeR (m, l)).2 = 0 ∧ nodeB m.1 = true ∧ taskB t = true) ∧ m.2.1 = true ∧ hasAll (m.1.2.2, t.2.2.2.2.1) = true ∧ ¬ anyBother (l, m, t) = true ∧ fitsR (t.2.2.2.1, (freeR (m, l)).1) = true := by
  unfold whyR
  simp only
  split
  · rename_i h; exact ⟨fun hh => absurd hh (by decide), fun hh => absurd hh.1 h⟩
  · rename_i h
    split
    · rename_i h1; exact ⟨fun hh => absurd hh (by decide), fun hh => absurd hh.2.1 h1⟩
    · rename_i h1
      split
      · rename_i h2; exact ⟨fun hh => absurd hh (by decide), fun hh => absurd hh.2.2.1 h2⟩
      · rename_i h2
        split
        · rename_i h3; exact ⟨fun hh => absurd hh (by decide), fun hh => absurd h3 hh.2.2.2.1⟩
        · rename_i h3
          split
          · rename_i h4; exact ⟨fun hh => absurd hh (by decide), fun hh => absurd hh.2.2.2.2 h4⟩
          · rename_i h4
            exact ⟨fun _ => ⟨Classical.not_not.1 h, Classical.not_not.1 h1, Classical.not_not.1 h2, h3, Classical.not_not.1 h4⟩, fun _ => rfl⟩

theorem bind_one {m : TMach} {t : TTask} (l : List TJob) : bindL (([] ++ l) ++ [(t, (0 : Int), m.1.1, (0 : Int))]) m.1.1 = bindL l m.1.1 ++ [t.2.2.2.1] := by
  rw [List.nil_append, bindL_app, bindL_yes (j := (t, (0 : Int), m.1.1, (0 : Int))) rfl]
  rfl

/-- A machine that can take a task has room for it behind all that is bound there. -/
theorem free_more {m : TMach} {l : List TJob} {t : TTask} (h : (freeR (m, l)).2 = 0) (hc : rightB m.1.2.1 = true) (hn : rightB t.2.2.2.1 = true) (hf : fitsR (t.2.2.2.1, (freeR (m, l)).1) = true) :
    (freeR (m, ([] ++ l) ++ [(t, (0 : Int), m.1.1, (0 : Int))])).2 = 0 ∧ (subR ((freeR (m, l)).1, t.2.2.2.1)).2 = 0 ∧ (freeR (m, ([] ++ l) ++ [(t, (0 : Int), m.1.1, (0 : Int))])).1 = (subR ((freeR (m, l)).1, t.2.2.2.1)).1 := by
  obtain ⟨h1, h2⟩ := free_ok.1 h
  have hv := free_val h
  have hs := sumR_iff.1 h1
  obtain ⟨k1, k2, k3⟩ := sub_ok.1 h2
  rw [sumR_val h1] at k2 k3
  rw [hv] at hf ⊢
  have f := fitsR_iff.1 hf
  have r1 := rightB_iff.1 k2
  have r2 := rightB_iff.1 hn
  have r3 := rightB_iff.1 hc
  have r4 := rightB_iff.1 k3
  simp only [subV] at f r4
  have e : sumV (bindL (([] ++ l) ++ [(t, (0 : Int), m.1.1, (0 : Int))]) m.1.1) = addV (sumV (bindL l m.1.1)) t.2.2.2.1 := by
    rw [bind_one, sumV_app]
    simp only [sumV, addV_zero]
  have ra : rightB (addV (sumV (bindL l m.1.1)) t.2.2.2.1) = true := by
    rw [rightB_iff]; simp only [addV]; omega
  have s1 : (sumR (bindL (([] ++ l) ++ [(t, (0 : Int), m.1.1, (0 : Int))]) m.1.1)).2 = 0 := by
    refine sumR_iff.2 ⟨fun x hx => ?_, by rw [e]; exact ra⟩
    rw [bind_one] at hx
    rcases List.mem_append.1 hx with hx | hx
    · exact hs.1 x hx
    · rw [List.mem_singleton.1 hx]; exact hn
  have rs : rightB (subV m.1.2.1 (addV (sumV (bindL l m.1.1)) t.2.2.2.1)) = true := by
    rw [rightB_iff]; simp only [subV, addV]; omega
  have s2 : (subR (m.1.2.1, (sumR (bindL (([] ++ l) ++ [(t, (0 : Int), m.1.1, (0 : Int))]) m.1.1)).1)).2 = 0 := by
    rw [sumR_val s1, e]
    exact sub_ok.2 ⟨hc, ra, rs⟩
  have s3 := free_ok.2 ⟨s1, s2⟩
  have s4 : (subR (subV m.1.2.1 (sumV (bindL l m.1.1)), t.2.2.2.1)).2 = 0 := sub_ok.2 ⟨k3, hn, by rw [rightB_iff]; simp only [subV]; omega⟩
  refine ⟨s3, s4, ?_⟩
  rw [free_val s3, sub_val s4, e]
  simp only [subV, addV, Prod.mk.injEq]
  omega

theorem sum_len {α : Type} (f : α → Nat) (hf : ∀ x, 1 ≤ f x) (l : List α) : l.length ≤ (l.map f).sum := by
  induction l with
  | nil => exact Nat.le_refl _
  | cons x l ih =>
    have := hf x
    simp only [List.map_cons, List.sum_cons, List.length_cons]
    omega

theorem jobs_of_size {l : List TJob} (h : k_sl_api_Job.size l ≤ 1048576) : L20 l := by
  have h1 : (l.map k_api_Job.size).sum + 1 ≤ 1048576 := h
  have h2 := sum_len k_api_Job.size (fun x => Nat.le_add_left 1 _) l
  unfold L20
  omega
theorem lbl_of_size {l : List TLbl} (h : k_sl_api_Label.size l ≤ 1048576) : L20 l := by
  have h1 : (l.map k_api_Label.size).sum + 1 ≤ 1048576 := h
  have h2 := sum_len k_api_Label.size (fun x => Nat.le_add_left 1 _) l
  unfold L20
  omega

theorem mach_of_size {m : TMach} (h : k_api_Machine.size m ≤ 1048576) : node_pre m.1 ∧ L20 m.1.2.2 := by
  have h1 : k_api_Node.size m.1 + (1 + 1) + 1 ≤ 1048576 := h
  have h2 : m.1.1.size + 1 + (1 + (1 + 1) + 1 + k_sl_api_Label.size m.1.2.2) + 1 + (1 + 1) + 1 ≤ 1048576 := h
  exact ⟨node_of_size (by omega), lbl_of_size (by omega)⟩
theorem wants_of_size {t : TTask} (h : k_api_Task.size t ≤ 1048576) : L20 t.2.2.2.2.1 := by
  have h : t.1.size + 1 + (t.2.1.size + 1 + (1 + (1 + (1 + 1) + 1 + (k_sl_api_Label.size t.2.2.2.2.1 + (t.2.2.2.2.2.1.size + 1 + (t.2.2.2.2.2.2.1.size + 1 + 1)))))) + 1 ≤ 1048576 := h
  exact lbl_of_size (by omega)

theorem f89.ok (a : TMach × List TJob × TTask) (h : f89.lpre a) : f89.vc a := by
  obtain ⟨_, hs⟩ := h
  obtain ⟨m, l, t⟩ := a
  have hs : k_api_Machine.size m + (k_sl_api_Job.size l + k_api_Task.size t) ≤ 1048576 := hs
  obtain ⟨hm, hml⟩ := mach_of_size (m := m) (by omega)
  have hj := jobs_of_size (l := l) (by omega)
  have ht := task_of_size (t := t) (by omega)
  have hw := wants_of_size (t := t) (by omega)
  have hp : why_pre (m, l, t) := ⟨hj, hm, ht, hml, hw⟩
  have hl : l.length ≤ 1048576 := hj
  refine ⟨fun _ => rfl, fun _ => ⟨⟨by unfold L20; simp, hj, fun x hx => by rw [List.mem_singleton.1 hx]; exact hm.1⟩, fun _ => rfl, fun cf => ⟨fun _ => rfl, fun _ => ⟨hp, fun _ => rfl, fun c => ?_⟩⟩⟩⟩
  have few : l.length ≤ 200 := (few11_iff.1 (Classical.not_not.1 cf)).1.2
  obtain ⟨⟨c1, c2, c3⟩, c4, c5, c6, c7⟩ := why_zero.1 (Classical.not_not.1 c)
  obtain ⟨r1, r2, r3⟩ := free_more (t := t) c1 (nodeB_iff.1 c2).2.1 (taskB_iff.1 c3).2.2.2.1 c7
  simp only
  refine ⟨hj, by omega, by omega, by show (([] ++ l) ++ [_]).length ≤ 1048576; simp only [List.length_append, List.length_cons, List.length_nil]; have := few; omega, fun _ => ⟨fun _ => ⟨fun _ => ⟨fun _ => c4, fun d => absurd ⟨by rw [r3], by rw [r3], by rw [r3]⟩ d⟩, fun d => absurd r2 d⟩, fun d => absurd r1 d⟩, fun d => absurd c1 d⟩

theorem sumV_sub {l m : List TRes} (hs : l.Sublist m) (hr : ∀ x ∈ m, rightB x = true) : (0 ≤ (sumV l).1 ∧ (sumV l).1 ≤ (sumV m).1) ∧ (0 ≤ (sumV l).2.1 ∧ (sumV l).2.1 ≤ (sumV m).2.1) ∧ (0 ≤ (sumV l).2.2 ∧ (sumV l).2.2 ≤ (sumV m).2.2) := by
  induction hs with
  | slnil => simp [sumV, zeroR]
  | @cons l m x h ih =>
    have ih := ih fun y hy => hr y (List.mem_cons_of_mem _ hy)
    have hx := rightB_iff.1 (hr x (by simp))
    simp only [sumV, addV]
    omega
  | @cons_cons l m x h ih =>
    have ih := ih fun y hy => hr y (List.mem_cons_of_mem _ hy)
    have hx := rightB_iff.1 (hr x (by simp))
    simp only [sumV, addV]
    omega

theorem bindL_sub {l m : List TJob} (h : l.Sublist m) (n : ByteArray) : (bindL l n).Sublist (bindL m n) := (h.filter _).map _

/-- With fewer jobs more is left. -/
theorem free_sub {m : TMach} {l l' : List TJob} (hl : l'.Sublist l) (h : (freeR (m, l)).2 = 0) : (freeR (m, l')).2 = 0 ∧ fitsR ((freeR (m, l)).1, (freeR (m, l')).1) = true := by
  obtain ⟨h1, h2⟩ := free_ok.1 h
  have hs := sumR_iff.1 h1
  have hb := bindL_sub hl m.1.1
  have hv := sumV_sub hb hs.1
  have hr := rightB_iff.1 hs.2
  have s1 : (sumR (bindL l' m.1.1)).2 = 0 := sumR_iff.2 ⟨fun x hx => hs.1 x (hb.subset hx), by rw [rightB_iff]; omega⟩
  obtain ⟨k1, k2, k3⟩ := sub_ok.1 h2
  rw [sumR_val h1] at k2 k3
  have r3 := rightB_iff.1 k3
  have rc := rightB_iff.1 k1
  have s2 : (subR (m.1.2.1, (sumR (bindL l' m.1.1)).1)).2 = 0 := by
    rw [sumR_val s1]
    refine sub_ok.2 ⟨k1, by rw [rightB_iff]; omega, ?_⟩
    rw [rightB_iff]
    simp only [subV] at r3 ⊢
    omega
  have s3 := free_ok.2 ⟨s1, s2⟩
  refine ⟨s3, ?_⟩
  rw [free_val h, free_val s3, fitsR_iff]
  simp only [subV]
  omega

theorem fits_trans {a b c : TRes} (h : fitsR (a, b) = true) (k : fitsR (b, c) = true) : fitsR (a, c) = true := by
  rw [fitsR_iff] at *
  omega

theorem any_sub {l l' : List TJob} (h : l'.Sublist l) {m : TMach} {t : TTask} (k : ¬ anyBother (l, m, t) = true) : ¬ anyBother (l', m, t) = true := by
  intro hh
  apply k
  unfold anyBother at *
  rw [List.any_eq_true] at *
  obtain ⟨x, hx, e⟩ := hh
  exact ⟨x, h.subset hx, e⟩

theorem why_less {m : TMach} {l l' : List TJob} {t t' : TTask} (h : whyR (m, l, t) = 0) (hl : l'.Sublist l) (ht : taskB t' = true) (hw : hasAll (m.1.2.2, t'.2.2.2.2.1) = true) (hb : ¬ anyBother (l', m, t') = true) (hn : fitsR (t'.2.2.2.1, t.2.2.2.1) = true) : whyR (m, l', t') = 0 := by
  obtain ⟨⟨c1, c2, c3⟩, c4, c5, c6, c7⟩ := why_zero.1 h
  obtain ⟨f1, f2⟩ := free_sub hl c1
  exact why_zero.2 ⟨⟨f1, c2, ht⟩, c4, hw, hb, fits_trans hn (fits_trans c7 f2)⟩

theorem fits_refl (a : TRes) : fitsR (a, a) = true := by rw [fitsR_iff]; exact ⟨Int.le_refl _, Int.le_refl _, Int.le_refl _⟩

theorem no_bother {l : List TJob} {m : TMach} {t : TTask} (h : t.2.2.2.2.2.1 = ByteArray.empty) : ¬ anyBother (l, m, t) = true := by
  unfold anyBother
  rw [List.any_eq_true]
  rintro ⟨x, _, e⟩
  unfold bothersR at e
  rw [decide_eq_true_iff] at e
  exact e.1 h

theorem cut_sub {l : List TJob} {k : Int} (h : 0 ≤ k) (h2 : k + 1 ≤ (l.length : Int)) : (([] ++ subL l 0 k) ++ subL l (k + 1) l.length).Sublist l := by
  rw [List.nil_append]
  unfold subL
  have e1 : (List.take (Int.toNat ((l.length : Int) - (k + 1))) (List.drop (Int.toNat (k + 1)) l)) = List.drop (Int.toNat (k + 1)) l := List.take_of_length_le (by rw [List.length_drop]; omega)
  rw [e1]
  simp only [Int.toNat_zero, List.drop_zero, Int.sub_zero]
  have e2 : l = List.take (Int.toNat k) l ++ List.drop (Int.toNat k) l := (List.take_append_drop _ _).symm
  have e3 : (List.drop (Int.toNat (k + 1)) l).Sublist (List.drop (Int.toNat k) l) := by
    have : Int.toNat (k + 1) = Int.toNat k + 1 := by omega
    rw [this, ← List.drop_drop]
    exact List.drop_sublist _ _
  have := List.Sublist.append (List.Sublist.refl (List.take (Int.toNat k) l)) e3
  rw [List.take_append_drop] at this
  exact this

theorem f90.ok (a : TMach × List TJob × TTask × Int × TRes) (h : f90.lpre a) : f90.vc a := by
  obtain ⟨hwf, hs⟩ := h
  obtain ⟨m, l, t, at_, need⟩ := a
  have hs : k_api_Machine.size m + (k_sl_api_Job.size l + (k_api_Task.size t + (1 + k_ar3_i64.size need))) ≤ 1048576 := hs
  have hat : 0 ≤ at_ ∧ at_ ≤ 18446744073709551615 := by
    have h1 : (Lit.int .u64 at_).wf = true := hwf.2.2.2.1
    simp [Lit.wf, IntKind.min, IntKind.max, IntKind.signed, IntKind.bits] at h1
    omega
  obtain ⟨hm, hml⟩ := mach_of_size (m := m) (by omega)
  have hj := jobs_of_size (l := l) (by omega)
  have ht := task_of_size (t := t) (by omega)
  have hw := wants_of_size (t := t) (by omega)
  have hp : ∀ l', L20 l' → why_pre (m, l', t) := fun l' hl' => ⟨hl', hm, ht, hml, hw⟩
  have hl : l.length ≤ 1048576 := hj
  have hu : ∀ r : TRes, why_pre (m, l, (t.1, t.2.1, t.2.2.1, r, [], ByteArray.empty, t.2.2.2.2.2.2.1, t.2.2.2.2.2.2.2)) := fun r =>
    ⟨hj, hm, ⟨ht.1, ht.2.1, fun x hx => absurd hx List.not_mem_nil, show ByteArray.empty.size ≤ _ from Nat.zero_le _, ht.2.2.2.2⟩, hml, Nat.zero_le _⟩
  have key : whyR (m, l, t) = 0 → ∀ r : TRes, rightB r = true → fitsR (r, t.2.2.2.1) = true → whyR (m, l, (t.1, t.2.1, t.2.2.1, r, [], ByteArray.empty, t.2.2.2.2.2.2.1, t.2.2.2.2.2.2.2)) = 0 := fun h0 r hr hf => by
    obtain ⟨⟨c1, c2, c3⟩, c4, c5, c6, c7⟩ := why_zero.1 h0
    refine why_less h0 (List.Sublist.refl _) ?_ rfl (no_bother rfl) hf
    obtain ⟨t1, t2, t3, t4, t5, t6, t7, t8⟩ := taskB_iff.1 c3
    exact taskB_iff.2 ⟨t1, t2, t3, hr, rfl, rfl, t7, t8⟩
  have fin : whyR (m, l, t) = 0 → (¬ fitsR (need, t.2.2.2.1) = true → why_pre (m, l, (t.1, t.2.1, t.2.2.1, t.2.2.2.1, [], ByteArray.empty, t.2.2.2.2.2.2.1, t.2.2.2.2.2.2.2)) ∧ (whyR (m, l, (t.1, t.2.1, t.2.2.1, t.2.2.2.1, [], ByteArray.empty, t.2.2.2.2.2.2.1, t.2.2.2.2.2.2.2)) == (0 : Int)) = true) ∧
      (¬ ¬ fitsR (need, t.2.2.2.1) = true → (¬ rightB need = true → why_pre (m, l, (t.1, t.2.1, t.2.2.1, t.2.2.2.1, [], ByteArray.empty, t.2.2.2.2.2.2.1, t.2.2.2.2.2.2.2)) ∧ (whyR (m, l, (t.1, t.2.1, t.2.2.1, t.2.2.2.1, [], ByteArray.empty, t.2.2.2.2.2.2.1, t.2.2.2.2.2.2.2)) == (0 : Int)) = true) ∧
        (¬ ¬ rightB need = true → why_pre (m, l, (t.1, t.2.1, t.2.2.1, need, [], ByteArray.empty, t.2.2.2.2.2.2.1, t.2.2.2.2.2.2.2)) ∧ (whyR (m, l, (t.1, t.2.1, t.2.2.1, need, [], ByteArray.empty, t.2.2.2.2.2.2.1, t.2.2.2.2.2.2.2)) == (0 : Int)) = true)) := fun h0 => by
    obtain ⟨⟨c1, c2, c3⟩, c4, c5, c6, c7⟩ := why_zero.1 h0
    have hr := (taskB_iff.1 c3).2.2.2.1
    have k1 := key h0 t.2.2.2.1 hr (fits_refl _)
    refine ⟨fun _ => ⟨hu _, by rw [k1]; rfl⟩, fun d => ⟨fun _ => ⟨hu _, by rw [k1]; rfl⟩, fun e => ⟨hu _, by rw [key h0 need (Classical.not_not.1 e) (Classical.not_not.1 d)]; rfl⟩⟩⟩
  refine ⟨fun _ => rfl, fun _ => ⟨⟨by unfold L20; simp, hj, fun x hx => by rw [List.mem_singleton.1 hx]; exact hm.1⟩, fun _ => rfl, fun _ => ⟨fun _ => rfl, fun _ => ⟨hp l hj, fun _ => rfl, fun c => ?_⟩⟩⟩⟩
  have h0 := Classical.not_not.1 c
  refine ⟨fun hpos => ?_, fun _ => fin h0⟩
  have hpos : (0 : Int) < (l.length : Int) := hpos
  have b1 : 0 ≤ at_ % (l.length : Int) := Int.emod_nonneg _ (by omega)
  have b2 : at_ % (l.length : Int) < (l.length : Int) := Int.emod_lt_of_pos _ hpos
  simp only
  generalize at_ % (l.length : Int) = k at b1 b2 ⊢
  have hsub := cut_sub (l := l) b1 (by omega)
  have hk := why_less h0 hsub (why_zero.1 h0).1.2.2 (why_zero.1 h0).2.2.1 (any_sub hsub (why_zero.1 h0).2.2.2.1) (fits_refl _)
  refine ⟨by omega, by omega, hat.1, hpos, by omega, by omega, b1, by omega, by omega, by omega, by omega, by omega, by omega, by omega, hp _ (Nat.le_trans hsub.length_le hj), fun d => absurd hk d, fun _ => fin h0⟩

theorem f109.ok (a : Unit) (_ : True) : f109.vc a := by
  have e1 : freeR (((f109.s0, ((4 : Int), (4 : Int), (4 : Int)), []), true, (0 : Int)), [((f109.s1, f109.s2, (0 : Int), ((3 : Int), (0 : Int), (0 : Int)), [], ByteArray.empty, ByteArray.empty, (0 : Int)), (0 : Int), f109.s0, (0 : Int))]) = ((1, 4, 4), 0) := by decide +kernel
  have e2 : whyR (((f109.s0, ((4 : Int), (4 : Int), (4 : Int)), []), true, (0 : Int)), [((f109.s1, f109.s2, (0 : Int), ((3 : Int), (0 : Int), (0 : Int)), [], ByteArray.empty, ByteArray.empty, (0 : Int)), (0 : Int), f109.s0, (0 : Int))], (f109.s3, f109.s2, (0 : Int), ((2 : Int), (0 : Int), (0 : Int)), [], ByteArray.empty, ByteArray.empty, (0 : Int))) = 4 := by decide +kernel
  unfold f109.vc
  rw [e1, e2]
  refine ⟨Nat.le_of_ble_eq_true rfl, fun _ => ⟨fun _ => ⟨⟨Nat.le_of_ble_eq_true rfl, ⟨?_, ?_⟩, ⟨?_, ?_, ?_, ?_, ?_⟩, Nat.le_of_ble_eq_true rfl, Nat.le_of_ble_eq_true rfl⟩, rfl⟩, fun c => absurd rfl c⟩, fun c => absurd ⟨rfl, rfl, rfl⟩ c⟩ <;> first | exact Nat.le_of_ble_eq_true rfl | exact fun x hx => absurd hx List.not_mem_nil

end Go.Abs
