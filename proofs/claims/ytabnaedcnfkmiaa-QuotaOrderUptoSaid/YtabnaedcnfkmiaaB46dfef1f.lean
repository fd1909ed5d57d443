/- Functions, and what the code asks of them: PQuotaLaw. -/
import Derived.KernelRfl
import Derived.Test.YtabnaedcnfkmiaaB7cd1d56a
import Derived.Test.YtabnaedcnfkmiaaBb8ca02f9
import Derived.Test.YtabnaedcnfkmiaaBae9badd5
import Derived.Test.YtabnaedcnfkmiaaB1dc209c5
set_option linter.unusedVariables false
set_option linter.unusedSimpArgs false
-- interregnum/interregnumlaw10.QuotaTells
namespace Go.Abs
open Go
def f8.wf (a : (List (T_api_Job)) × T_api_Queue × T_ar3_i64 × ByteArray) : Prop := k_sl_api_Job.ok a.1 ∧ k_api_Queue.ok a.2.1 ∧ k_ar3_i64.ok a.2.2.1 ∧ k_str.ok a.2.2.2
def f8.size (a : (List (T_api_Job)) × T_api_Queue × T_ar3_i64 × ByteArray) : Nat := k_sl_api_Job.size a.1 + (k_api_Queue.size a.2.1 + (k_ar3_i64.size a.2.2.1 + (k_str.size a.2.2.2)))
def f8.lpre (a : (List (T_api_Job)) × T_api_Queue × T_ar3_i64 × ByteArray) : Prop := f8.wf a ∧ f8.size a ≤ 1048576
def f8.args (a : (List (T_api_Job)) × T_api_Queue × T_ar3_i64 × ByteArray) : List D := [.slice .ro 13 a.1.length (gl e_api_Job a.1), .agg [.str a.2.1.1, .int .i64 a.2.1.2.1, .int .i64 a.2.1.2.2.1, .int .i64 a.2.1.2.2.2], .agg [.int .i64 a.2.2.1.1, .int .i64 a.2.2.1.2.1, .int .i64 a.2.2.1.2.2], .str a.2.2.2]
def f8.blks (a : (List (T_api_Job)) × T_api_Queue × T_ar3_i64 × ByteArray) : List (List D) := []
def f8.res (a : (List (T_api_Job)) × T_api_Queue × T_ar3_i64 × ByteArray) : List D := [.bool (lawTrue a)]
def f8.blks' (a : (List (T_api_Job)) × T_api_Queue × T_ar3_i64 × ByteArray) : List (List D) := []
def f8.C : Contract := FnC f8.args f8.blks (fun a => f8.lpre a) f8.res f8.blks'
end Go.Abs

/- interregnum/interregnumlaw10.QuotaTells -/
namespace Go.Abs
open Go
set_option linter.unusedVariables false
def f8.kills (a : (List (T_api_Job)) × T_api_Queue × T_ar3_i64 × ByteArray) : List Hint := [.tell Int (fun x => ⟨[.slice .ro 13 a.1.length (gl e_api_Job a.1), .dead, .dead, .dead, .dead, .dead, .dead, .dead, .dead, .dead, .dead, .dead, .dead, .dead, .dead, .dead, .dead, .dead, .dead, .dead, .dead, .dead, .dead, .dead, .dead, .dead, .dead, .dead, .dead, .dead, .dead, .dead, .dead, .dead, .dead, .dead, .dead, .dead, .dead, .dead, .dead, .dead, .dead, .dead, .dead, .dead, .dead, .dead, .dead, .dead, .dead, .dead, .dead, .dead, .dead, .dead, .dead, .dead, .dead, .dead, .dead, .dead, .dead, .dead, .dead, .dead, .dead, .dead, .dead, .dead, .dead, .int .i64 (a.1.length : Int), .int .i64 x, .dead, .dead, .dead, .dead, .dead, .dead, .dead, .dead, .dead, .dead, .dead, .dead, .dead, .dead, .dead], [], []⟩)]
def f8.cuts (a : (List (T_api_Job)) × T_api_Queue × T_ar3_i64 × ByteArray) : List (Nat × Σ β : Type, β → Tm) := []
def f8.af (a : (List (T_api_Job)) × T_api_Queue × T_ar3_i64 × ByteArray) : AF := AF.mk (.seq (.region [⟨(some 5), 0, .box, [.t 1], none⟩,
  ⟨(some 6), 1, .box, [.t 2], none⟩,
  ⟨(some 8), 2, .move, [.c (.bool false)], none⟩])
 (.seq (.seq (.region [⟨(some 14), 3, (.call false 26), [], none⟩,
  ⟨(some 15), 7, (.un .not), [.t 14], none⟩,
  ⟨(some 16), 8, .move, [.t 15], none⟩,
  ⟨(some 17), 9, .move, [.t 0], (some (16, false))⟩,
  ⟨(some 18), 10, (.len false), [.t 17], (some (16, false))⟩,
  ⟨(some 19), 11, (.bin .gtr), [.t 18, .c (.int .i64 (300))], (some (16, false))⟩,
  ⟨(some 20), 12, .pick, [.t 16, .c (.bool true), .t 19], none⟩,
  ⟨(some 21), 13, .move, [.t 20], none⟩,
  ⟨(some 22), 14, (.fieldAddr 0), [.t 5], (some (21, false))⟩,
  ⟨(some 23), 15, (.load false 1), [.t 22], (some (21, false))⟩,
  ⟨(some 24), 16, (.len true), [.t 23], (some (21, false))⟩,
  ⟨(some 25), 17, (.bin .gtr), [.t 24, .c (.int .i64 (1000))], (some (21, false))⟩,
  ⟨(some 26), 18, .pick, [.t 21, .c (.bool true), .t 25], none⟩])
 (.cond (.t 26) (.seq (.region [⟨(some 27), 19, (.call false 26), [], none⟩,
  ⟨(some 8), 23, .move, [.t 27], none⟩])
 (.ret)) (.skip)))
 (.seq (.region [⟨(some 29), 24, .move, [.t 0], none⟩,
  ⟨(some 30), 25, (.fieldAddr 0), [.t 5], none⟩,
  ⟨(some 31), 26, (.load false 1), [.t 30], none⟩,
  ⟨(some 32), 27, (.call false 27), [.t 29, .t 31], none⟩,
  ⟨(some 28), 31, .move, [.t 32], none⟩,
  ⟨(some 33), 32, (.extract 0), [.t 28], none⟩,
  ⟨(some 34), 33, (.extract 1), [.t 28], none⟩,
  ⟨(some 9), 34, (.alloc [.int .i64 (0), .int .i64 (0), .int .i64 (0)]), [], none⟩,
  ⟨none, 38, (.store 3), [.t 9, .t 33], none⟩,
  ⟨(some 10), 39, .move, [.t 34], none⟩])
 (.seq (.region [⟨(some 36), 40, .move, [.t 0], none⟩,
  ⟨(some 37), 41, (.fieldAddr 0), [.t 5], none⟩,
  ⟨(some 38), 42, (.load false 1), [.t 37], none⟩,
  ⟨(some 39), 43, (.call false 28), [.t 36, .t 38], none⟩,
  ⟨(some 35), 47, .move, [.t 39], none⟩,
  ⟨(some 40), 48, (.extract 0), [.t 35], none⟩,
  ⟨(some 41), 49, (.extract 1), [.t 35], none⟩,
  ⟨(some 11), 50, (.alloc [.int .i64 (0), .int .i64 (0), .int .i64 (0)]), [], none⟩,
  ⟨none, 54, (.store 3), [.t 11, .t 40], none⟩,
  ⟨(some 12), 55, .move, [.t 41], none⟩])
 (.seq (.seq (.region [⟨(some 42), 56, (.load true 3), [.t 9], none⟩,
  ⟨(some 43), 57, (.load true 3), [.t 11], none⟩,
  ⟨(some 44), 58, (.eqAgg true [0, 0, 0]), [.t 42, .t 43], none⟩,
  ⟨(some 45), 59, .move, [.t 44], none⟩,
  ⟨(some 46), 60, .move, [.t 10], (some (45, false))⟩,
  ⟨(some 47), 61, .move, [.t 12], (some (45, false))⟩,
  ⟨(some 48), 62, (.bin .neq), [.t 46, .t 47], (some (45, false))⟩,
  ⟨(some 49), 63, .pick, [.t 45, .c (.bool true), .t 48], none⟩,
  ⟨(some 50), 64, .move, [.t 49], none⟩,
  ⟨(some 51), 65, (.load true 4), [.t 5], (some (50, false))⟩,
  ⟨(some 52), 66, .move, [.t 0], (some (50, false))⟩,
  ⟨(some 53), 67, (.load true 3), [.t 6], (some (50, false))⟩,
  ⟨(some 54), 68, (.call false 29), [.t 51, .t 52, .t 53], (some (50, false))⟩,
  ⟨(some 55), 72, (.load true 4), [.t 5], (some (50, false))⟩,
  ⟨(some 56), 73, .move, [.t 0], (some (50, false))⟩,
  ⟨(some 57), 74, (.load true 3), [.t 6], (some (50, false))⟩,
  ⟨(some 58), 75, (.call false 30), [.t 55, .t 56, .t 57], (some (50, false))⟩,
  ⟨(some 59), 79, (.bin .neq), [.t 54, .t 58], (some (50, false))⟩,
  ⟨(some 60), 80, .pick, [.t 50, .c (.bool true), .t 59], none⟩,
  ⟨(some 61), 81, .move, [.t 60], none⟩,
  ⟨(some 62), 82, .move, [.t 0], (some (61, false))⟩,
  ⟨(some 63), 83, .move, [.t 3], (some (61, false))⟩,
  ⟨(some 64), 84, (.call false 31), [.t 62, .t 63], (some (61, false))⟩,
  ⟨(some 65), 88, .move, [.t 0], (some (61, false))⟩,
  ⟨(some 66), 89, .move, [.t 3], (some (61, false))⟩,
  ⟨(some 67), 90, (.call false 32), [.t 65, .t 66], (some (61, false))⟩,
  ⟨(some 68), 94, (.bin .neq), [.t 64, .t 67], (some (61, false))⟩,
  ⟨(some 69), 95, .pick, [.t 61, .c (.bool true), .t 68], none⟩])
 (.cond (.t 69) (.seq (.region [⟨(some 8), 96, .move, [.c (.bool false)], none⟩])
 (.ret)) (.skip)))
 (.seq (.seq (.region [⟨(some 70), 97, .move, [.t 0], none⟩,
  ⟨(some 71), 98, (.len false), [.t 70], none⟩,
  ⟨(some 72), 99, .move, [.c (.int .i64 (0))], none⟩])
 (.block 0 (.loopT Int (fun x => ⟨[.slice .ro 13 a.1.length (gl e_api_Job a.1), .dead, .dead, .dead, .dead, .dead, .dead, .dead, .dead, .dead, .dead, .dead, .dead, .dead, .dead, .dead, .dead, .dead, .dead, .dead, .dead, .dead, .dead, .dead, .dead, .dead, .dead, .dead, .dead, .dead, .dead, .dead, .dead, .dead, .dead, .dead, .dead, .dead, .dead, .dead, .dead, .dead, .dead, .dead, .dead, .dead, .dead, .dead, .dead, .dead, .dead, .dead, .dead, .dead, .dead, .dead, .dead, .dead, .dead, .dead, .dead, .dead, .dead, .dead, .dead, .dead, .dead, .dead, .dead, .dead, .dead, .int .i64 (a.1.length : Int), .int .i64 x, .dead, .dead, .dead, .dead, .dead, .dead, .dead, .dead, .dead, .dead, .dead, .dead, .dead, .dead, .dead], [], []⟩) 100 121 (.seq (.region [⟨(some 73), 100, (.bin .lss), [.t 72, .t 71], none⟩])
 (.seq (.cond (.t 73) (.skip) (.exit 0))
 (.seq (.block 1 (.seq (.region [⟨(some 74), 101, .move, [.t 72], none⟩,
  ⟨(some 13), 102, .move, [.t 74], none⟩])
 (.seq (.region [⟨(some 75), 103, .move, [.t 0], none⟩,
  ⟨(some 76), 104, .move, [.t 13], none⟩,
  ⟨(some 77), 105, (.indexAddr 13 none), [.t 75, .t 76], none⟩,
  ⟨(some 78), 106, (.load true 13), [.t 77], none⟩,
  ⟨(some 79), 107, (.call false 33), [.t 78], none⟩,
  ⟨(some 80), 111, .move, [.t 0], none⟩,
  ⟨(some 81), 112, .move, [.t 13], none⟩,
  ⟨(some 82), 113, (.indexAddr 13 none), [.t 80, .t 81], none⟩,
  ⟨(some 83), 114, (.fieldAddr 11), [.t 82], none⟩,
  ⟨(some 84), 115, (.load false 1), [.t 83], none⟩,
  ⟨(some 85), 116, (.bin .eql), [.t 84, .c (.str ByteArray.empty)], none⟩,
  ⟨(some 86), 117, (.binB true), [.t 79, .t 85], none⟩])
 (.cond (.t 86) (.seq (.region [⟨(some 8), 118, .move, [.c (.bool false)], none⟩])
 (.ret)) (.skip)))))
 (.region [⟨(some 87), 119, (.bin .add), [.t 72, .c (.int .i64 (1))], none⟩,
  ⟨(some 72), 120, .move, [.t 87], none⟩])))))))
 (.seq (.region [⟨(some 8), 121, .move, [.c (.bool true)], none⟩])
 (.ret))))))))
  [.tmp 8] 0 84
def f8.env : Env := [(26, f26.C), (27, f27.C), (28, f28.C), (29, f29.C), (30, f30.C), (31, f31.C), (32, f32.C), (33, f33.C)]
def f8.tree (a : (List (T_api_Job)) × T_api_Queue × T_ar3_i64 × ByteArray) : Prop := ∃ c1 : Unit, True ∧ Br (!(lawTrue c1)) (∃ c4 : Unit, True ∧ ((lawTrue c4) = (lawTrue a)) ∧ True) (Br (decide ((300 : Int) < (a.1.length : Int))) (∃ c9 : Unit, True ∧ ((lawTrue c9) = (lawTrue a)) ∧ True) (Br (decide ((1000 : Int) < (a.2.1.1.size : Int))) (∃ c14 : Unit, True ∧ ((lawTrue c14) = (lawTrue a)) ∧ True) (∃ c17 : (List (T_api_Job)) × ByteArray, (a.1.length = c17.1.length) ∧ (∀ i, i < c17.1.length → DEqs ((gl e_api_Job a.1) i) ((gl e_api_Job c17.1) i)) ∧ (a.2.1.1 = c17.2) ∧ (used_pre c17) ∧ ∃ c18 : (List (T_api_Job)) × ByteArray, (a.1.length = c18.1.length) ∧ (∀ i, i < c18.1.length → DEqs ((gl e_api_Job a.1) i) ((gl e_api_Job c18.1) i)) ∧ (a.2.1.1 = c18.2) ∧ (used_pre c18) ∧ Br (!(((((usedR c17).1).1) == (((usedR c18).1).1)) && (((((usedR c17).1).2.1) == (((usedR c18).1).2.1)) && ((((usedR c17).1).2.2) == (((usedR c18).1).2.2))))) ((false = (lawTrue a)) ∧ True) (Br (((usedR c17).2) != ((usedR c18).2)) ((false = (lawTrue a)) ∧ True) (∃ c25 : T_api_Queue × (List (T_api_Job)) × T_ar3_i64, (a.2.1.1 = c25.1.1) ∧ (a.2.1.2.1 = c25.1.2.1) ∧ (a.2.1.2.2.1 = c25.1.2.2.1) ∧ (a.2.1.2.2.2 = c25.1.2.2.2) ∧ (a.1.length = c25.2.1.length) ∧ (∀ i, i < c25.2.1.length → DEqs ((gl e_api_Job a.1) i) ((gl e_api_Job c25.2.1) i)) ∧ (a.2.2.1.1 = c25.2.2.1) ∧ (a.2.2.1.2.1 = c25.2.2.2.1) ∧ (a.2.2.1.2.2 = c25.2.2.2.2) ∧ (admit_pre c25) ∧ ∃ c26 : T_api_Queue × (List (T_api_Job)) × T_ar3_i64, (a.2.1.1 = c26.1.1) ∧ (a.2.1.2.1 = c26.1.2.1) ∧ (a.2.1.2.2.1 = c26.1.2.2.1) ∧ (a.2.1.2.2.2 = c26.1.2.2.2) ∧ (a.1.length = c26.2.1.length) ∧ (∀ i, i < c26.2.1.length → DEqs ((gl e_api_Job a.1) i) ((gl e_api_Job c26.2.1) i)) ∧ (a.2.2.1.1 = c26.2.2.1) ∧ (a.2.2.1.2.1 = c26.2.2.2.1) ∧ (a.2.2.1.2.2 = c26.2.2.2.2) ∧ (admit_pre c26) ∧ Br ((admitR c25) != (admitR c26)) ((false = (lawTrue a)) ∧ True) (∃ c30 : (List (T_api_Job)) × ByteArray, (a.1.length = c30.1.length) ∧ (∀ i, i < c30.1.length → DEqs ((gl e_api_Job a.1) i) ((gl e_api_Job c30.1) i)) ∧ (a.2.2.2 = c30.2) ∧ (find_pre c30) ∧ ∃ c31 : (List (T_api_Job)) × ByteArray, (a.1.length = c31.1.length) ∧ (∀ i, i < c31.1.length → DEqs ((gl e_api_Job a.1) i) ((gl e_api_Job c31.1) i)) ∧ (a.2.2.2 = c31.2) ∧ (find_pre c31) ∧ Br ((findR c30) != (findR c31)) ((false = (lawTrue a)) ∧ True) (∃ (I36 : Int → Prop) (μ37 : Int → Nat), (∃ x35 : Int, (a.1.length = a.1.length) ∧ (∀ i, i < a.1.length → DEqs ((gl e_api_Job a.1) i) ((gl e_api_Job a.1) i)) ∧ ((a.1.length : Int) = (a.1.length : Int)) ∧ ((0 : Int) = x35) ∧ I36 x35) ∧ ∀ y38 : Int, I36 y38 → (Br (decide (y38 < (a.1.length : Int))) (Br (decide ((0 : Int) ≤ y38) && decide (y38 < (a.1.length : Int))) (∃ c42 : T_api_Job, ((((at_ a.1 y38).1).1) = c42.1.1) ∧ ((((at_ a.1 y38).1).2.1) = c42.1.2.1) ∧ ((((at_ a.1 y38).1).2.2.1) = c42.1.2.2.1) ∧ (((((at_ a.1 y38).1).2.2.2.1).1) = c42.1.2.2.2.1.1) ∧ (((((at_ a.1 y38).1).2.2.2.1).2.1) = c42.1.2.2.2.1.2.1) ∧ (((((at_ a.1 y38).1).2.2.2.1).2.2) = c42.1.2.2.2.1.2.2) ∧ (((((at_ a.1 y38).1).2.2.2.2.1).length) = c42.1.2.2.2.2.1.length) ∧ (∀ i, i < c42.1.2.2.2.2.1.length → DEqs ((gl e_api_Label (((at_ a.1 y38).1).2.2.2.2.1)) i) ((gl e_api_Label c42.1.2.2.2.2.1) i)) ∧ ((((at_ a.1 y38).1).2.2.2.2.2.1) = c42.1.2.2.2.2.2.1) ∧ ((((at_ a.1 y38).1).2.2.2.2.2.2.1) = c42.1.2.2.2.2.2.2.1) ∧ ((((at_ a.1 y38).1).2.2.2.2.2.2.2) = c42.1.2.2.2.2.2.2.2) ∧ (((at_ a.1 y38).2.1) = c42.2.1) ∧ (((at_ a.1 y38).2.2.1) = c42.2.2.1) ∧ (((at_ a.1 y38).2.2.2) = c42.2.2.2) ∧ True ∧ Br (decide ((0 : Int) ≤ y38) && decide (y38 < (a.1.length : Int))) (Br (!((waitsR c42) == (((at_ a.1 y38).2.2.1).toList == ByteArray.empty.toList))) ((false = (lawTrue a)) ∧ True) (Let (IntKind.i64.wrap (y38 + (1 : Int))) (fun v47 : Int => ∃ x48 : Int, (a.1.length = a.1.length) ∧ (∀ i, i < a.1.length → DEqs ((gl e_api_Job a.1) i) ((gl e_api_Job a.1) i)) ∧ ((a.1.length : Int) = (a.1.length : Int)) ∧ (v47 = x48) ∧ I36 x48 ∧ μ37 x48 < μ37 y38))) False) False) ((true = (lawTrue a)) ∧ True)))))))))
def f8.vc (a : (List (T_api_Job)) × T_api_Queue × T_ar3_i64 × ByteArray) : Prop := ((¬ ((lawTrue ()) = true) → ((lawTrue ()) = lawTrue a)) ∧ (¬ (¬ ((lawTrue ()) = true)) → (((300 : Int) < (a.1.length : Int) → ((lawTrue ()) = lawTrue a)) ∧ (¬ ((300 : Int) < (a.1.length : Int)) → (((1000 : Int) < (a.2.1.1.size : Int) → ((lawTrue ()) = lawTrue a)) ∧ (¬ ((1000 : Int) < (a.2.1.1.size : Int)) → (used_pre (a.1, a.2.1.1) ∧ (used_pre (a.1, a.2.1.1) ∧ ((¬ ((((usedR (a.1, a.2.1.1)).1).1) = (((usedR (a.1, a.2.1.1)).1).1) ∧ (((usedR (a.1, a.2.1.1)).1).2.1) = (((usedR (a.1, a.2.1.1)).1).2.1) ∧ (((usedR (a.1, a.2.1.1)).1).2.2) = (((usedR (a.1, a.2.1.1)).1).2.2)) → (false = lawTrue a)) ∧ (¬ (¬ ((((usedR (a.1, a.2.1.1)).1).1) = (((usedR (a.1, a.2.1.1)).1).1) ∧ (((usedR (a.1, a.2.1.1)).1).2.1) = (((usedR (a.1, a.2.1.1)).1).2.1) ∧ (((usedR (a.1, a.2.1.1)).1).2.2) = (((usedR (a.1, a.2.1.1)).1).2.2))) → ((¬ ((usedR (a.1, a.2.1.1)).2) = ((usedR (a.1, a.2.1.1)).2) → (false = lawTrue a)) ∧ (¬ (¬ ((usedR (a.1, a.2.1.1)).2) = ((usedR (a.1, a.2.1.1)).2)) → (admit_pre (a.2.1, a.1, a.2.2.1) ∧ (admit_pre (a.2.1, a.1, a.2.2.1) ∧ ((¬ (admitR (a.2.1, a.1, a.2.2.1)) = (admitR (a.2.1, a.1, a.2.2.1)) → (false = lawTrue a)) ∧ (¬ (¬ (admitR (a.2.1, a.1, a.2.2.1)) = (admitR (a.2.1, a.1, a.2.2.1))) → (find_pre (a.1, a.2.2.2) ∧ (find_pre (a.1, a.2.2.2) ∧ ((¬ (findR (a.1, a.2.2.2)) = (findR (a.1, a.2.2.2)) → (false = lawTrue a)) ∧ (¬ (¬ (findR (a.1, a.2.2.2)) = (findR (a.1, a.2.2.2))) → (∃ (I36 : Int → Prop) (μ37 : Int → Nat), I36 (0 : Int) ∧ ∀ y38 : Int, I36 y38 → ((y38 < (a.1.length : Int) → ((0 : Int) ≤ y38 ∧ y38 < (a.1.length : Int) ∧ ((0 : Int) ≤ y38 ∧ y38 < (a.1.length : Int) ∧ (((!((waitsR (((at_ a.1 y38).1), (at_ a.1 y38).2.1, (at_ a.1 y38).2.2.1, (at_ a.1 y38).2.2.2)) == (((at_ a.1 y38).2.2.1).toList == ByteArray.empty.toList))) = true → (false = lawTrue a)) ∧ (¬ ((!((waitsR (((at_ a.1 y38).1), (at_ a.1 y38).2.1, (at_ a.1 y38).2.2.1, (at_ a.1 y38).2.2.2)) == (((at_ a.1 y38).2.2.1).toList == ByteArray.empty.toList))) = true) → (-9223372036854775808 ≤ (y38 + (1 : Int)) ∧ (y38 + (1 : Int)) ≤ 9223372036854775807 ∧ (I36 (y38 + (1 : Int)) ∧ μ37 (y38 + (1 : Int)) < μ37 y38))))))) ∧ (¬ (y38 < (a.1.length : Int)) → (true = lawTrue a))))))))))))))))))))))))
set_option maxRecDepth 100000 in
set_option maxHeartbeats 2000000 in
theorem f8.of (a : (List (T_api_Job)) × T_api_Queue × T_ar3_i64 × ByteArray) (h : f8.vc a) : f8.tree a := ⟨(), ⟨trivial, br h (Cnd.not Cnd.b) (fun h2 k82 => ⟨(), ⟨trivial, ⟨k82, trivial⟩⟩⟩) (fun h3 k83 => br k83 Cnd.dec (fun h7 k80 => ⟨(), ⟨trivial, ⟨k80, trivial⟩⟩⟩) (fun h8 k81 => br k81 Cnd.dec (fun h12 k78 => ⟨(), ⟨trivial, ⟨k78, trivial⟩⟩⟩) (fun h13 k79 => ⟨(a.1, a.2.1.1), slK (Rds.self (enc := e_api_Job)) (⟨rfl, ⟨k79.1, ⟨(a.1, a.2.1.1), slK (Rds.self (enc := e_api_Job)) (⟨rfl, ⟨k79.2.1, br k79.2.2 (Cnd.not (Cnd.and Cnd.eq (Cnd.and Cnd.eq Cnd.eq))) (fun h19 k74 => ⟨k74, trivial⟩) (fun h20 k75 => br k75 Cnd.ne (fun h22 k72 => ⟨k72, trivial⟩) (fun h23 k73 => ⟨(a.2.1, a.1, a.2.2.1), ⟨rfl, ⟨rfl, ⟨rfl, ⟨rfl, slK (Rds.self (enc := e_api_Job)) (⟨rfl, ⟨rfl, ⟨rfl, ⟨k73.1, ⟨(a.2.1, a.1, a.2.2.1), ⟨rfl, ⟨rfl, ⟨rfl, ⟨rfl, slK (Rds.self (enc := e_api_Job)) (⟨rfl, ⟨rfl, ⟨rfl, ⟨k73.2.1, br k73.2.2 Cnd.ne (fun h27 k68 => ⟨k68, trivial⟩) (fun h28 k69 => ⟨(a.1, a.2.2.2), slK (Rds.self (enc := e_api_Job)) (⟨rfl, ⟨k69.1, ⟨(a.1, a.2.2.2), slK (Rds.self (enc := e_api_Job)) (⟨rfl, ⟨k69.2.1, br k69.2.2 Cnd.ne (fun h32 k64 => ⟨k64, trivial⟩) (fun h33 k65 => Exists.elim k65 (fun I36 h61_ => Exists.elim h61_ (fun μ37 h61 => ⟨I36, μ37, ⟨(0 : Int), slK (Rds.self (enc := e_api_Job)) (⟨rfl, ⟨rfl, h61.1⟩⟩)⟩, fun y38 h63 => br (h61.2 y38 h63) Cnd.dec (fun h39 k59 => chk k59.2.2 Cnd.ix ⟨k59.1, k59.2.1⟩ (fun h41 k57 => ⟨(((at_ a.1 y38).1), (at_ a.1 y38).2.1, (at_ a.1 y38).2.2.1, (at_ a.1 y38).2.2.2), ⟨rfl, ⟨rfl, ⟨rfl, ⟨rfl, ⟨rfl, ⟨rfl, slK (Rds.self (enc := e_api_Label)) (⟨rfl, ⟨rfl, ⟨rfl, ⟨rfl, ⟨rfl, ⟨rfl, ⟨trivial, chk k57.2.2 Cnd.ix ⟨k57.1, k57.2.1⟩ (fun h43 k55 => br k55 Cnd.b (fun h44 k53 => ⟨k53, trivial⟩) (fun h45 k54 => wrapK.i64 k54 (fun h50 h51 k52 => ⟨(y38 + (1 : Int)), slK (Rds.self (enc := e_api_Job)) (⟨rfl, ⟨rfl, k52⟩⟩)⟩)))⟩⟩⟩⟩⟩⟩⟩)⟩⟩⟩⟩⟩⟩⟩)) (fun h40 k60 => ⟨k60, trivial⟩)⟩)))⟩⟩)⟩⟩⟩)⟩)⟩⟩⟩⟩)⟩⟩⟩⟩⟩⟩⟩⟩⟩)⟩⟩⟩⟩⟩))⟩⟩)⟩⟩⟩)⟩)))⟩⟩
theorem f8.eq (a : (List (T_api_Job)) × T_api_Queue × T_ar3_i64 × ByteArray) : (f8.af a).gives f8.env (f8.args a) (f8.blks a) (f8.res a) (f8.blks' a) = f8.tree a := by kernel_rfl
end Go.Abs

-- interregnum/interregnumlaw10.QuotaHolds
namespace Go.Abs
open Go
def f9.wf (a : T_api_Queue × (List (T_ar3_i64))) : Prop := k_api_Queue.ok a.1 ∧ k_sl_ar3_i64.ok a.2
def f9.size (a : T_api_Queue × (List (T_ar3_i64))) : Nat := k_api_Queue.size a.1 + k_sl_ar3_i64.size a.2
def f9.lpre (a : T_api_Queue × (List (T_ar3_i64))) : Prop := f9.wf a ∧ f9.size a ≤ 1048576
def f9.args (a : T_api_Queue × (List (T_ar3_i64))) : List D := [.agg [.str a.1.1, .int .i64 a.1.2.1, .int .i64 a.1.2.2.1, .int .i64 a.1.2.2.2], .slice .ro 3 a.2.length (gl e_ar3_i64 a.2)]
def f9.blks (a : T_api_Queue × (List (T_ar3_i64))) : List (List D) := []
def f9.res (a : T_api_Queue × (List (T_ar3_i64))) : List D := [.bool (lawTrue a)]
def f9.blks' (a : T_api_Queue × (List (T_ar3_i64))) : List (List D) := []
def f9.C : Contract := FnC f9.args f9.blks (fun a => f9.lpre a) f9.res f9.blks'
end Go.Abs

/- interregnum/interregnumlaw10.QuotaHolds -/
namespace Go.Abs
open Go
set_option linter.unusedVariables false
def f9.kills (a : T_api_Queue × (List (T_ar3_i64))) : List Hint := [.tell ((List (T_api_Job)) × Int × ByteArray × Int × Int × Int) (fun x => ⟨[.dead, .slice .ro 3 a.2.length (gl e_ar3_i64 a.2), .ptr 0 0, .dead, .dead, .slice (.own 23) 13 x.1.length (gl e_api_Job x.1), .dead, .dead, .dead, .dead, .dead, .dead, .dead, .dead, .dead, .dead, .dead, .dead, .dead, .dead, .dead, .dead, .dead, .dead, .dead, .dead, .int .i64 (a.2.length : Int), .int .i64 x.2.1, .dead, .dead, .dead, .dead, .dead, .dead, .dead, .dead, .dead, .dead, .dead, .dead, .dead, .dead, .dead, .dead, .dead, .dead, .dead, .dead, .dead, .dead, .dead, .dead, .dead, .dead, .dead, .dead, .dead, .dead, .dead, .dead, .dead, .dead, .dead, .dead, .dead, .dead, .dead, .dead, .dead, .dead, .dead, .dead, .dead, .dead, .dead, .dead, .dead, .dead, .dead, .dead, .dead, .dead, .dead, .dead, .dead, .dead], [(0, false, [.str x.2.2.1, .int .i64 x.2.2.2.1, .int .i64 x.2.2.2.2.1, .int .i64 x.2.2.2.2.2])], [(23, 13, x.1.length)]⟩)]
def f9.cuts (a : T_api_Queue × (List (T_ar3_i64))) : List (Nat × Σ β : Type, β → Tm) := []
def f9.af (a : T_api_Queue × (List (T_ar3_i64))) : AF := AF.mk (.seq (.region [⟨(some 2), 0, .box, [.t 0], none⟩,
  ⟨(some 4), 1, .move, [.c (.bool false)], none⟩])
 (.seq (.seq (.region [⟨(some 11), 2, (.call false 26), [], none⟩,
  ⟨(some 12), 6, (.un .not), [.t 11], none⟩,
  ⟨(some 13), 7, .move, [.t 12], none⟩,
  ⟨(some 14), 8, .move, [.t 1], (some (13, false))⟩,
  ⟨(some 15), 9, (.len false), [.t 14], (some (13, false))⟩,
  ⟨(some 16), 10, (.bin .gtr), [.t 15, .c (.int .i64 (300))], (some (13, false))⟩,
  ⟨(some 17), 11, .pick, [.t 13, .c (.bool true), .t 16], none⟩,
  ⟨(some 18), 12, .move, [.t 17], none⟩,
  ⟨(some 19), 13, (.fieldAddr 0), [.t 2], (some (18, false))⟩,
  ⟨(some 20), 14, (.load false 1), [.t 19], (some (18, false))⟩,
  ⟨(some 21), 15, (.len true), [.t 20], (some (18, false))⟩,
  ⟨(some 22), 16, (.bin .gtr), [.t 21, .c (.int .i64 (1000))], (some (18, false))⟩,
  ⟨(some 23), 17, .pick, [.t 18, .c (.bool true), .t 22], none⟩])
 (.cond (.t 23) (.seq (.region [⟨(some 24), 18, (.call false 26), [], none⟩,
  ⟨(some 4), 22, .move, [.t 24], none⟩])
 (.ret)) (.skip)))
 (.seq (.region [⟨(some 5), 23, (.nilSl 13), [], none⟩])
 (.seq (.seq (.region [⟨(some 25), 24, .move, [.t 1], none⟩,
  ⟨(some 26), 25, (.len false), [.t 25], none⟩,
  ⟨(some 27), 26, .move, [.c (.int .i64 (0))], none⟩])
 (.block 0 (.loopT ((List (T_api_Job)) × Int × ByteArray × Int × Int × Int) (fun x => ⟨[.dead, .slice .ro 3 a.2.length (gl e_ar3_i64 a.2), .ptr 0 0, .dead, .dead, .slice (.own 23) 13 x.1.length (gl e_api_Job x.1), .dead, .dead, .dead, .dead, .dead, .dead, .dead, .dead, .dead, .dead, .dead, .dead, .dead, .dead, .dead, .dead, .dead, .dead, .dead, .dead, .int .i64 (a.2.length : Int), .int .i64 x.2.1, .dead, .dead, .dead, .dead, .dead, .dead, .dead, .dead, .dead, .dead, .dead, .dead, .dead, .dead, .dead, .dead, .dead, .dead, .dead, .dead, .dead, .dead, .dead, .dead, .dead, .dead, .dead, .dead, .dead, .dead, .dead, .dead, .dead, .dead, .dead, .dead, .dead, .dead, .dead, .dead, .dead, .dead, .dead, .dead, .dead, .dead, .dead, .dead, .dead, .dead, .dead, .dead, .dead, .dead, .dead, .dead, .dead, .dead], [(0, false, [.str x.2.2.1, .int .i64 x.2.2.2.1, .int .i64 x.2.2.2.2.1, .int .i64 x.2.2.2.2.2])], [(23, 13, x.1.length)]⟩) 27 125 (.seq (.region [⟨(some 28), 27, (.bin .lss), [.t 27, .t 26], none⟩])
 (.seq (.cond (.t 28) (.skip) (.exit 0))
 (.seq (.block 1 (.seq (.region [⟨(some 29), 28, .move, [.t 27], none⟩,
  ⟨(some 6), 29, .move, [.t 29], none⟩])
 (.seq (.region [⟨(some 30), 30, (.load true 4), [.t 2], none⟩,
  ⟨(some 31), 31, .move, [.t 5], none⟩,
  ⟨(some 32), 32, .move, [.t 1], none⟩,
  ⟨(some 33), 33, .move, [.t 6], none⟩,
  ⟨(some 34), 34, (.indexAddr 3 none), [.t 32, .t 33], none⟩,
  ⟨(some 35), 35, (.load true 3), [.t 34], none⟩,
  ⟨(some 36), 36, (.call false 29), [.t 30, .t 31, .t 35], none⟩,
  ⟨(some 7), 40, .move, [.t 36], none⟩])
 (.seq (.region [⟨(some 37), 41, (.fieldAddr 0), [.t 2], none⟩,
  ⟨(some 38), 42, (.load false 1), [.t 37], none⟩,
  ⟨(some 39), 43, .move, [.t 1], none⟩,
  ⟨(some 40), 44, .move, [.t 6], none⟩,
  ⟨(some 41), 45, (.indexAddr 3 none), [.t 39, .t 40], none⟩,
  ⟨(some 42), 46, (.load true 3), [.t 41], none⟩,
  ⟨(some 43), 47, (.build [.str ByteArray.empty, .str ByteArray.empty, .int .i64 (0), .int .i64 (0), .int .i64 (0), .int .i64 (0), .slice .full 2 0 gnil, .str ByteArray.empty, .str ByteArray.empty, .int .i64 (0)] [(1, 1), (3, 3)]), [.t 38, .t 42], none⟩,
  ⟨(some 44), 48, (.build [.str ByteArray.empty, .str ByteArray.empty, .int .i64 (0), .int .i64 (0), .int .i64 (0), .int .i64 (0), .slice .full 2 0 gnil, .str ByteArray.empty, .str ByteArray.empty, .int .i64 (0), .int .i64 (0), .str ByteArray.empty, .int .i64 (0)] [(0, 10)]), [.t 43], none⟩,
  ⟨(some 8), 49, (.alloc [.str ByteArray.empty, .str ByteArray.empty, .int .i64 (0), .int .i64 (0), .int .i64 (0), .int .i64 (0), .slice (.own 0) 2 0 gnil, .str ByteArray.empty, .str ByteArray.empty, .int .i64 (0), .int .i64 (0), .str ByteArray.empty, .int .i64 (0)]), [], none⟩,
  ⟨none, 63, (.store 13), [.t 8, .t 44], none⟩])
 (.seq (.region [⟨(some 46), 64, (.buildSlice 13 0 [.str ByteArray.empty, .str ByteArray.empty, .int .i64 (0), .int .i64 (0), .int .i64 (0), .int .i64 (0), .slice .full 2 0 gnil, .str ByteArray.empty, .str ByteArray.empty, .int .i64 (0), .int .i64 (0), .str ByteArray.empty, .int .i64 (0)] []), [], none⟩,
  ⟨(some 47), 65, .move, [.t 5], none⟩,
  ⟨(some 48), 66, (.append 13 160), [.t 46, .t 47], none⟩,
  ⟨(some 49), 67, (.load true 13), [.t 8], none⟩,
  ⟨(some 50), 68, (.buildSlice 13 1 [.str ByteArray.empty, .str ByteArray.empty, .int .i64 (0), .int .i64 (0), .int .i64 (0), .int .i64 (0), .slice .full 2 0 gnil, .str ByteArray.empty, .str ByteArray.empty, .int .i64 (0), .int .i64 (0), .str ByteArray.empty, .int .i64 (0)] [(0, 13)]), [.t 49], none⟩,
  ⟨(some 51), 69, (.append 13 160), [.t 48, .t 50], none⟩,
  ⟨(some 52), 70, (.fieldAddr 0), [.t 2], none⟩,
  ⟨(some 53), 71, (.load false 1), [.t 52], none⟩,
  ⟨(some 54), 72, (.call false 27), [.t 51, .t 53], none⟩,
  ⟨(some 45), 76, .move, [.t 54], none⟩,
  ⟨(some 55), 77, (.extract 0), [.t 45], none⟩,
  ⟨(some 56), 78, (.extract 1), [.t 45], none⟩,
  ⟨(some 9), 79, (.alloc [.int .i64 (0), .int .i64 (0), .int .i64 (0)]), [], none⟩,
  ⟨none, 83, (.store 3), [.t 9, .t 55], none⟩,
  ⟨(some 10), 84, .move, [.t 56], none⟩])
 (.seq (.region [⟨(some 57), 85, .move, [.t 7], none⟩])
 (.block 2 (.seq (.region [⟨(some 61), 86, (.bin .eql), [.t 57, .c (.int .i64 (0))], none⟩,
  ⟨(some 60), 87, .move, [.t 61], none⟩])
 (.cond (.t 60) (.seq (.seq (.region [⟨(some 62), 88, .move, [.t 10], none⟩,
  ⟨(some 63), 89, (.bin .neq), [.t 62, .c (.int .i64 (0))], none⟩,
  ⟨(some 64), 90, .move, [.t 63], none⟩,
  ⟨(some 65), 91, (.load true 3), [.t 9], (some (64, false))⟩,
  ⟨(some 66), 92, (.fieldAddr 1), [.t 2], (some (64, false))⟩,
  ⟨(some 67), 93, (.load true 3), [.t 66], (some (64, false))⟩,
  ⟨(some 68), 94, (.call false 34), [.t 65, .t 67], (some (64, false))⟩,
  ⟨(some 69), 98, (.un .not), [.t 68], (some (64, false))⟩,
  ⟨(some 70), 99, .pick, [.t 64, .c (.bool true), .t 69], none⟩])
 (.cond (.t 70) (.seq (.region [⟨(some 4), 100, .move, [.c (.bool false)], none⟩])
 (.ret)) (.skip)))
 (.region [⟨(some 71), 101, .move, [.t 5], none⟩,
  ⟨(some 72), 102, (.load true 13), [.t 8], none⟩,
  ⟨(some 73), 103, (.buildSlice 13 1 [.str ByteArray.empty, .str ByteArray.empty, .int .i64 (0), .int .i64 (0), .int .i64 (0), .int .i64 (0), .slice .full 2 0 gnil, .str ByteArray.empty, .str ByteArray.empty, .int .i64 (0), .int .i64 (0), .str ByteArray.empty, .int .i64 (0)] [(0, 13)]), [.t 72], none⟩,
  ⟨(some 74), 104, (.append 13 160), [.t 71, .t 73], none⟩,
  ⟨(some 5), 105, .move, [.t 74], none⟩])) (.seq (.region [⟨(some 76), 106, (.bin .eql), [.t 57, .c (.int .i64 (9))], none⟩,
  ⟨(some 75), 107, .move, [.t 76], none⟩])
 (.cond (.t 75) (.seq (.region [⟨(some 77), 108, .move, [.t 10], none⟩,
  ⟨(some 78), 109, (.bin .eql), [.t 77, .c (.int .i64 (0))], none⟩,
  ⟨(some 79), 110, .move, [.t 78], none⟩,
  ⟨(some 80), 111, (.load true 3), [.t 9], (some (79, true))⟩,
  ⟨(some 81), 112, (.fieldAddr 1), [.t 2], (some (79, true))⟩,
  ⟨(some 82), 113, (.load true 3), [.t 81], (some (79, true))⟩,
  ⟨(some 83), 114, (.call false 34), [.t 80, .t 82], (some (79, true))⟩,
  ⟨(some 84), 118, .pick, [.t 79, .t 83, .c (.bool false)], none⟩])
 (.cond (.t 84) (.seq (.region [⟨(some 4), 119, .move, [.c (.bool false)], none⟩])
 (.ret)) (.skip))) (.seq (.region [⟨(some 58), 120, .move, [.t 7], none⟩,
  ⟨(some 59), 121, (.bin .neq), [.t 58, .c (.int .i64 (1))], none⟩])
 (.cond (.t 59) (.seq (.region [⟨(some 4), 122, .move, [.c (.bool false)], none⟩])
 (.ret)) (.skip))))))))))))))
 (.region [⟨(some 85), 123, (.bin .add), [.t 27, .c (.int .i64 (1))], none⟩,
  ⟨(some 27), 124, .move, [.t 85], none⟩])))))))
 (.seq (.region [⟨(some 4), 125, .move, [.c (.bool true)], none⟩])
 (.ret))))))
  [.tmp 4] 0 84
def f9.env : Env := [(26, f26.C), (29, f29.C), (27, f27.C), (34, f34.C)]
def f9.tree (a : T_api_Queue × (List (T_ar3_i64))) : Prop := ∃ c1 : Unit, True ∧ Br (!(lawTrue c1)) (∃ c4 : Unit, True ∧ ((lawTrue c4) = (lawTrue a)) ∧ True) (Br (decide ((300 : Int) < (a.2.length : Int))) (∃ c9 : Unit, True ∧ ((lawTrue c9) = (lawTrue a)) ∧ True) (Br (decide ((1000 : Int) < (a.1.1.size : Int))) (∃ c14 : Unit, True ∧ ((lawTrue c14) = (lawTrue a)) ∧ True) (∃ (I18 : ((List (T_api_Job)) × Int × ByteArray × Int × Int × Int) → Prop) (μ19 : ((List (T_api_Job)) × Int × ByteArray × Int × Int × Int) → Nat), (∃ x17 : (List (T_api_Job)) × Int × ByteArray × Int × Int × Int, (a.2.length = a.2.length) ∧ (∀ i, i < a.2.length → DEqs ((gl e_ar3_i64 a.2) i) ((gl e_ar3_i64 a.2) i)) ∧ (0 = x17.1.length) ∧ (∀ i, i < x17.1.length → DEqs (gnil i) ((gl e_api_Job x17.1) i)) ∧ ((a.2.length : Int) = (a.2.length : Int)) ∧ ((0 : Int) = x17.2.1) ∧ (a.1.1 = x17.2.2.1) ∧ (a.1.2.1 = x17.2.2.2.1) ∧ (a.1.2.2.1 = x17.2.2.2.2.1) ∧ (a.1.2.2.2 = x17.2.2.2.2.2) ∧ (0 = x17.1.length) ∧ I18 x17) ∧ ∀ y20 : (List (T_api_Job)) × Int × ByteArray × Int × Int × Int, I18 y20 → (Br (decide (y20.2.1 < (a.2.length : Int))) (Br (decide ((0 : Int) ≤ y20.2.1) && decide (y20.2.1 < (a.2.length : Int))) (∃ c24 : T_api_Queue × (List (T_api_Job)) × T_ar3_i64, (y20.2.2.1 = c24.1.1) ∧ (y20.2.2.2.1 = c24.1.2.1) ∧ (y20.2.2.2.2.1 = c24.1.2.2.1) ∧ (y20.2.2.2.2.2 = c24.1.2.2.2) ∧ (y20.1.length = c24.2.1.length) ∧ (∀ i, i < c24.2.1.length → DEqs ((gl e_api_Job y20.1) i) ((gl e_api_Job c24.2.1) i)) ∧ (((at_ a.2 y20.2.1).1) = c24.2.2.1) ∧ (((at_ a.2 y20.2.1).2.1) = c24.2.2.2.1) ∧ (((at_ a.2 y20.2.1).2.2) = c24.2.2.2.2) ∧ (admit_pre c24) ∧ Br (decide ((0 : Int) ≤ y20.2.1) && decide (y20.2.1 < (a.2.length : Int))) ((room ((0 + y20.1.length) * 160)) ∧ (((0 + y20.1.length) = (0 + y20.1.length) ∧ room (((0 + y20.1.length) + 1) * 160)) ∧ (∃ c26 : (List (T_api_Job)) × ByteArray, (((0 + y20.1.length) + 1) = c26.1.length) ∧ (∀ i, i < c26.1.length → DEqs ((gapp (gapp (fun j => List.take 13 (List.drop (j * 13) [])) 0 (gl e_api_Job y20.1)) (0 + y20.1.length) (fun _ => [.str ByteArray.empty, .str y20.2.2.1, .int .i64 (0 : Int), .int .i64 ((at_ a.2 y20.2.1).1), .int .i64 ((at_ a.2 y20.2.1).2.1), .int .i64 ((at_ a.2 y20.2.1).2.2), .slice .ro 2 0 gnil, .str ByteArray.empty, .str ByteArray.empty, .int .i64 (0 : Int), .int .i64 (0 : Int), .str ByteArray.empty, .int .i64 (0 : Int)])) i) ((gl e_api_Job c26.1) i)) ∧ (y20.2.2.1 = c26.2) ∧ (used_pre c26) ∧ Br ((admitR c24) == (0 : Int)) (Br (((usedR c26).2) != (0 : Int)) ((false = (lawTrue a)) ∧ True) (∃ c32 : T_ar3_i64 × T_ar3_i64, ((((usedR c26).1).1) = c32.1.1) ∧ ((((usedR c26).1).2.1) = c32.1.2.1) ∧ ((((usedR c26).1).2.2) = c32.1.2.2) ∧ (y20.2.2.2.1 = c32.2.1) ∧ (y20.2.2.2.2.1 = c32.2.2.1) ∧ (y20.2.2.2.2.2 = c32.2.2.2) ∧ True ∧ Br (!(fitsR c32)) ((false = (lawTrue a)) ∧ True) ((y20.1.length = y20.1.length ∧ room ((y20.1.length + 1) * 160)) ∧ (Let (IntKind.i64.wrap (y20.2.1 + (1 : Int))) (fun v36 : Int => ∃ x37 : (List (T_api_Job)) × Int × ByteArray × Int × Int × Int, (a.2.length = a.2.length) ∧ (∀ i, i < a.2.length → DEqs ((gl e_ar3_i64 a.2) i) ((gl e_ar3_i64 a.2) i)) ∧ ((y20.1.length + 1) = x37.1.length) ∧ (∀ i, i < x37.1.length → DEqs ((gapp (gl e_api_Job y20.1) y20.1.length (fun _ => [.str ByteArray.empty, .str y20.2.2.1, .int .i64 (0 : Int), .int .i64 ((at_ a.2 y20.2.1).1), .int .i64 ((at_ a.2 y20.2.1).2.1), .int .i64 ((at_ a.2 y20.2.1).2.2), .slice .ro 2 0 gnil, .str ByteArray.empty, .str ByteArray.empty, .int .i64 (0 : Int), .int .i64 (0 : Int), .str ByteArray.empty, .int .i64 (0 : Int)])) i) ((gl e_api_Job x37.1) i)) ∧ ((a.2.length : Int) = (a.2.length : Int)) ∧ (v36 = x37.2.1) ∧ (y20.2.2.1 = x37.2.2.1) ∧ (y20.2.2.2.1 = x37.2.2.2.1) ∧ (y20.2.2.2.2.1 = x37.2.2.2.2.1) ∧ (y20.2.2.2.2.2 = x37.2.2.2.2.2) ∧ ((y20.1.length + 1) = x37.1.length) ∧ I18 x37 ∧ μ19 x37 < μ19 y20))))) (Br ((admitR c24) == (9 : Int)) (Br (((usedR c26).2) == (0 : Int)) (∃ c51 : T_ar3_i64 × T_ar3_i64, ((((usedR c26).1).1) = c51.1.1) ∧ ((((usedR c26).1).2.1) = c51.1.2.1) ∧ ((((usedR c26).1).2.2) = c51.1.2.2) ∧ (y20.2.2.2.1 = c51.2.1) ∧ (y20.2.2.2.2.1 = c51.2.2.1) ∧ (y20.2.2.2.2.2 = c51.2.2.2) ∧ True ∧ Br (fitsR c51) ((false = (lawTrue a)) ∧ True) (Let (IntKind.i64.wrap (y20.2.1 + (1 : Int))) (fun v55 : Int => ∃ x56 : (List (T_api_Job)) × Int × ByteArray × Int × Int × Int, (a.2.length = a.2.length) ∧ (∀ i, i < a.2.length → DEqs ((gl e_ar3_i64 a.2) i) ((gl e_ar3_i64 a.2) i)) ∧ (y20.1.length = x56.1.length) ∧ (∀ i, i < x56.1.length → DEqs ((gl e_api_Job y20.1) i) ((gl e_api_Job x56.1) i)) ∧ ((a.2.length : Int) = (a.2.length : Int)) ∧ (v55 = x56.2.1) ∧ (y20.2.2.1 = x56.2.2.1) ∧ (y20.2.2.2.1 = x56.2.2.2.1) ∧ (y20.2.2.2.2.1 = x56.2.2.2.2.1) ∧ (y20.2.2.2.2.2 = x56.2.2.2.2.2) ∧ (y20.1.length = x56.1.length) ∧ I18 x56 ∧ μ19 x56 < μ19 y20))) (Let (IntKind.i64.wrap (y20.2.1 + (1 : Int))) (fun v64 : Int => ∃ x65 : (List (T_api_Job)) × Int × ByteArray × Int × Int × Int, (a.2.length = a.2.length) ∧ (∀ i, i < a.2.length → DEqs ((gl e_ar3_i64 a.2) i) ((gl e_ar3_i64 a.2) i)) ∧ (y20.1.length = x65.1.length) ∧ (∀ i, i < x65.1.length → DEqs ((gl e_api_Job y20.1) i) ((gl e_api_Job x65.1) i)) ∧ ((a.2.length : Int) = (a.2.length : Int)) ∧ (v64 = x65.2.1) ∧ (y20.2.2.1 = x65.2.2.1) ∧ (y20.2.2.2.1 = x65.2.2.2.1) ∧ (y20.2.2.2.2.1 = x65.2.2.2.2.1) ∧ (y20.2.2.2.2.2 = x65.2.2.2.2.2) ∧ (y20.1.length = x65.1.length) ∧ I18 x65 ∧ μ19 x65 < μ19 y20))) (Br ((admitR c24) != (1 : Int)) ((false = (lawTrue a)) ∧ True) (Let (IntKind.i64.wrap (y20.2.1 + (1 : Int))) (fun v75 : Int => ∃ x76 : (List (T_api_Job)) × Int × ByteArray × Int × Int × Int, (a.2.length = a.2.length) ∧ (∀ i, i < a.2.length → DEqs ((gl e_ar3_i64 a.2) i) ((gl e_ar3_i64 a.2) i)) ∧ (y20.1.length = x76.1.length) ∧ (∀ i, i < x76.1.length → DEqs ((gl e_api_Job y20.1) i) ((gl e_api_Job x76.1) i)) ∧ ((a.2.length : Int) = (a.2.length : Int)) ∧ (v75 = x76.2.1) ∧ (y20.2.2.1 = x76.2.2.1) ∧ (y20.2.2.2.1 = x76.2.2.2.1) ∧ (y20.2.2.2.2.1 = x76.2.2.2.2.1) ∧ (y20.2.2.2.2.2 = x76.2.2.2.2.2) ∧ (y20.1.length = x76.1.length) ∧ I18 x76 ∧ μ19 x76 < μ19 y20))))))) False) False) ((true = (lawTrue a)) ∧ True)))))
def f9.vc (a : T_api_Queue × (List (T_ar3_i64))) : Prop := ((¬ ((lawTrue ()) = true) → ((lawTrue ()) = lawTrue a)) ∧ (¬ (¬ ((lawTrue ()) = true)) → (((300 : Int) < (a.2.length : Int) → ((lawTrue ()) = lawTrue a)) ∧ (¬ ((300 : Int) < (a.2.length : Int)) → (((1000 : Int) < (a.1.1.size : Int) → ((lawTrue ()) = lawTrue a)) ∧ (¬ ((1000 : Int) < (a.1.1.size : Int)) → (∃ (I18 : ((List (T_api_Job)) × Int × ByteArray × Int × Int × Int) → Prop) (μ19 : ((List (T_api_Job)) × Int × ByteArray × Int × Int × Int) → Nat), I18 ([], (0 : Int), a.1.1, a.1.2.1, a.1.2.2.1, a.1.2.2.2) ∧ ∀ y20 : (List (T_api_Job)) × Int × ByteArray × Int × Int × Int, I18 y20 → ((y20.2.1 < (a.2.length : Int) → ((0 : Int) ≤ y20.2.1 ∧ y20.2.1 < (a.2.length : Int) ∧ (admit_pre (y20.2.2, y20.1, (at_ a.2 y20.2.1)) ∧ ((0 : Int) ≤ y20.2.1 ∧ y20.2.1 < (a.2.length : Int) ∧ (0 + y20.1.length ≤ 1073741824 ∧ ((0 + y20.1.length) + 1 ≤ 1073741824 ∧ (used_pre ((([]) ++ y20.1) ++ ([((ByteArray.empty, y20.2.2.1, (0 : Int), (at_ a.2 y20.2.1), [], ByteArray.empty, ByteArray.empty, (0 : Int)), (0 : Int), ByteArray.empty, (0 : Int))]), y20.2.2.1) ∧ (((admitR (y20.2.2, y20.1, (at_ a.2 y20.2.1))) = (0 : Int) → ((¬ ((usedR ((([]) ++ y20.1) ++ ([((ByteArray.empty, y20.2.2.1, (0 : Int), (at_ a.2 y20.2.1), [], ByteArray.empty, ByteArray.empty, (0 : Int)), (0 : Int), ByteArray.empty, (0 : Int))]), y20.2.2.1)).2) = (0 : Int) → (false = lawTrue a)) ∧ (¬ (¬ ((usedR ((([]) ++ y20.1) ++ ([((ByteArray.empty, y20.2.2.1, (0 : Int), (at_ a.2 y20.2.1), [], ByteArray.empty, ByteArray.empty, (0 : Int)), (0 : Int), ByteArray.empty, (0 : Int))]), y20.2.2.1)).2) = (0 : Int)) → ((¬ ((fitsR (((usedR ((([]) ++ y20.1) ++ ([((ByteArray.empty, y20.2.2.1, (0 : Int), (at_ a.2 y20.2.1), [], ByteArray.empty, ByteArray.empty, (0 : Int)), (0 : Int), ByteArray.empty, (0 : Int))]), y20.2.2.1)).1), y20.2.2.2)) = true) → (false = lawTrue a)) ∧ (¬ (¬ ((fitsR (((usedR ((([]) ++ y20.1) ++ ([((ByteArray.empty, y20.2.2.1, (0 : Int), (at_ a.2 y20.2.1), [], ByteArray.empty, ByteArray.empty, (0 : Int)), (0 : Int), ByteArray.empty, (0 : Int))]), y20.2.2.1)).1), y20.2.2.2)) = true)) → (y20.1.length + 1 ≤ 1073741824 ∧ (-9223372036854775808 ≤ (y20.2.1 + (1 : Int)) ∧ (y20.2.1 + (1 : Int)) ≤ 9223372036854775807 ∧ (I18 (y20.1 ++ ([((ByteArray.empty, y20.2.2.1, (0 : Int), (at_ a.2 y20.2.1), [], ByteArray.empty, ByteArray.empty, (0 : Int)), (0 : Int), ByteArray.empty, (0 : Int))]), (y20.2.1 + (1 : Int)), y20.2.2.1, y20.2.2.2.1, y20.2.2.2.2.1, y20.2.2.2.2.2) ∧ μ19 (y20.1 ++ ([((ByteArray.empty, y20.2.2.1, (0 : Int), (at_ a.2 y20.2.1), [], ByteArray.empty, ByteArray.empty, (0 : Int)), (0 : Int), ByteArray.empty, (0 : Int))]), (y20.2.1 + (1 : Int)), y20.2.2.1, y20.2.2.2.1, y20.2.2.2.2.1, y20.2.2.2.2.2) < μ19 y20)))))))) ∧ (¬ ((admitR (y20.2.2, y20.1, (at_ a.2 y20.2.1))) = (0 : Int)) → (((admitR (y20.2.2, y20.1, (at_ a.2 y20.2.1))) = (9 : Int) → ((((usedR ((([]) ++ y20.1) ++ ([((ByteArray.empty, y20.2.2.1, (0 : Int), (at_ a.2 y20.2.1), [], ByteArray.empty, ByteArray.empty, (0 : Int)), (0 : Int), ByteArray.empty, (0 : Int))]), y20.2.2.1)).2) = (0 : Int) → (((fitsR (((usedR ((([]) ++ y20.1) ++ ([((ByteArray.empty, y20.2.2.1, (0 : Int), (at_ a.2 y20.2.1), [], ByteArray.empty, ByteArray.empty, (0 : Int)), (0 : Int), ByteArray.empty, (0 : Int))]), y20.2.2.1)).1), y20.2.2.2)) = true → (false = lawTrue a)) ∧ (¬ ((fitsR (((usedR ((([]) ++ y20.1) ++ ([((ByteArray.empty, y20.2.2.1, (0 : Int), (at_ a.2 y20.2.1), [], ByteArray.empty, ByteArray.empty, (0 : Int)), (0 : Int), ByteArray.empty, (0 : Int))]), y20.2.2.1)).1), y20.2.2.2)) = true) → (-9223372036854775808 ≤ (y20.2.1 + (1 : Int)) ∧ (y20.2.1 + (1 : Int)) ≤ 9223372036854775807 ∧ (I18 (y20.1, (y20.2.1 + (1 : Int)), y20.2.2.1, y20.2.2.2.1, y20.2.2.2.2.1, y20.2.2.2.2.2) ∧ μ19 (y20.1, (y20.2.1 + (1 : Int)), y20.2.2.1, y20.2.2.2.1, y20.2.2.2.2.1, y20.2.2.2.2.2) < μ19 y20))))) ∧ (¬ (((usedR ((([]) ++ y20.1) ++ ([((ByteArray.empty, y20.2.2.1, (0 : Int), (at_ a.2 y20.2.1), [], ByteArray.empty, ByteArray.empty, (0 : Int)), (0 : Int), ByteArray.empty, (0 : Int))]), y20.2.2.1)).2) = (0 : Int)) → (-9223372036854775808 ≤ (y20.2.1 + (1 : Int)) ∧ (y20.2.1 + (1 : Int)) ≤ 9223372036854775807 ∧ (I18 (y20.1, (y20.2.1 + (1 : Int)), y20.2.2.1, y20.2.2.2.1, y20.2.2.2.2.1, y20.2.2.2.2.2) ∧ μ19 (y20.1, (y20.2.1 + (1 : Int)), y20.2.2.1, y20.2.2.2.1, y20.2.2.2.2.1, y20.2.2.2.2.2) < μ19 y20))))) ∧ (¬ ((admitR (y20.2.2, y20.1, (at_ a.2 y20.2.1))) = (9 : Int)) → ((¬ (admitR (y20.2.2, y20.1, (at_ a.2 y20.2.1))) = (1 : Int) → (false = lawTrue a)) ∧ (¬ (¬ (admitR (y20.2.2, y20.1, (at_ a.2 y20.2.1))) = (1 : Int)) → (-9223372036854775808 ≤ (y20.2.1 + (1 : Int)) ∧ (y20.2.1 + (1 : Int)) ≤ 9223372036854775807 ∧ (I18 (y20.1, (y20.2.1 + (1 : Int)), y20.2.2.1, y20.2.2.2.1, y20.2.2.2.2.1, y20.2.2.2.2.2) ∧ μ19 (y20.1, (y20.2.1 + (1 : Int)), y20.2.2.1, y20.2.2.2.1, y20.2.2.2.2.1, y20.2.2.2.2.2) < μ19 y20))))))))))))))) ∧ (¬ (y20.2.1 < (a.2.length : Int)) → (true = lawTrue a))))))))))
set_option maxRecDepth 100000 in
set_option maxHeartbeats 2000000 in
theorem f9.of (a : T_api_Queue × (List (T_ar3_i64))) (h : f9.vc a) : f9.tree a := ⟨(), ⟨trivial, br h (Cnd.not Cnd.b) (fun h2 k101 => ⟨(), ⟨trivial, ⟨k101, trivial⟩⟩⟩) (fun h3 k102 => br k102 Cnd.dec (fun h7 k99 => ⟨(), ⟨trivial, ⟨k99, trivial⟩⟩⟩) (fun h8 k100 => br k100 Cnd.dec (fun h12 k97 => ⟨(), ⟨trivial, ⟨k97, trivial⟩⟩⟩) (fun h13 k98 => Exists.elim k98 (fun I18 h94_ => Exists.elim h94_ (fun μ19 h94 => ⟨I18, μ19, ⟨([], (0 : Int), a.1.1, a.1.2.1, a.1.2.2.1, a.1.2.2.2), slK (Rds.self (enc := e_ar3_i64)) (slK (Rds.nil (enc := e_api_Job)) (⟨rfl, ⟨rfl, ⟨rfl, ⟨rfl, ⟨rfl, ⟨rfl, ⟨(numR gnil (Rds.nil (enc := e_api_Job))), h94.1⟩⟩⟩⟩⟩⟩⟩))⟩, fun y20 h96 => br (h94.2 y20 h96) Cnd.dec (fun h21 k92 => chk k92.2.2 Cnd.ix ⟨k92.1, k92.2.1⟩ (fun h23 k90 => ⟨(y20.2.2, y20.1, (at_ a.2 y20.2.1)), ⟨rfl, ⟨rfl, ⟨rfl, ⟨rfl, slK (Rds.self (enc := e_api_Job)) (⟨rfl, ⟨rfl, ⟨rfl, ⟨k90.1, chk k90.2.2.2 Cnd.ix ⟨k90.2.1, k90.2.2.1⟩ (fun h25 k88 => ⟨(room_of k88.1 (by decide)), ⟨⟨rfl, (room_of k88.2.1 (by decide))⟩, ⟨((([]) ++ y20.1) ++ ([((ByteArray.empty, y20.2.2.1, (0 : Int), (at_ a.2 y20.2.1), [], ByteArray.empty, ByteArray.empty, (0 : Int)), (0 : Int), ByteArray.empty, (0 : Int))]), y20.2.2.1), slK (Rds.app (enc := e_api_Job) (Rds.app (enc := e_api_Job) (Rds.nil (enc := e_api_Job)) (Rds.self (enc := e_api_Job))) (Rds.one (enc := e_api_Job) (DEqs.cons (DEq.refl _) (DEqs.cons (DEq.refl _) (DEqs.cons (DEq.refl _) (DEqs.cons (DEq.refl _) (DEqs.cons (DEq.refl _) (DEqs.cons (DEq.refl _) (DEqs.cons ((Rds.nil (enc := e_api_Label))).deq (DEqs.cons (DEq.refl _) (DEqs.cons (DEq.refl _) (DEqs.cons (DEq.refl _) (DEqs.cons (DEq.refl _) (DEqs.cons (DEq.refl _) (DEqs.cons (DEq.refl _) DEqs.nil))))))))))))))) (⟨rfl, ⟨k88.2.2.1, br k88.2.2.2 Cnd.eq (fun h27 k85 => br k85 Cnd.ne (fun h29 k45 => ⟨k45, trivial⟩) (fun h30 k46 => ⟨(((usedR ((([]) ++ y20.1) ++ ([((ByteArray.empty, y20.2.2.1, (0 : Int), (at_ a.2 y20.2.1), [], ByteArray.empty, ByteArray.empty, (0 : Int)), (0 : Int), ByteArray.empty, (0 : Int))]), y20.2.2.1)).1), y20.2.2.2), ⟨rfl, ⟨rfl, ⟨rfl, ⟨rfl, ⟨rfl, ⟨rfl, ⟨trivial, br k46 (Cnd.not Cnd.b) (fun h33 k42 => ⟨k42, trivial⟩) (fun h34 k43 => ⟨⟨rfl, (room_of k43.1 (by decide))⟩, wrapK.i64 k43.2 (fun h39 h40 k41 => ⟨(y20.1 ++ ([((ByteArray.empty, y20.2.2.1, (0 : Int), (at_ a.2 y20.2.1), [], ByteArray.empty, ByteArray.empty, (0 : Int)), (0 : Int), ByteArray.empty, (0 : Int))]), (y20.2.1 + (1 : Int)), y20.2.2.1, y20.2.2.2.1, y20.2.2.2.2.1, y20.2.2.2.2.2), slK (Rds.self (enc := e_ar3_i64)) (slK (Rds.app (enc := e_api_Job) (Rds.self (enc := e_api_Job)) (Rds.one (enc := e_api_Job) (DEqs.cons (DEq.refl _) (DEqs.cons (DEq.refl _) (DEqs.cons (DEq.refl _) (DEqs.cons (DEq.refl _) (DEqs.cons (DEq.refl _) (DEqs.cons (DEq.refl _) (DEqs.cons ((Rds.nil (enc := e_api_Label))).deq (DEqs.cons (DEq.refl _) (DEqs.cons (DEq.refl _) (DEqs.cons (DEq.refl _) (DEqs.cons (DEq.refl _) (DEqs.cons (DEq.refl _) (DEqs.cons (DEq.refl _) DEqs.nil))))))))))))))) (⟨rfl, ⟨rfl, ⟨rfl, ⟨rfl, ⟨rfl, ⟨rfl, ⟨(numR (gapp (gl e_api_Job y20.1) y20.1.length (fun _ => [.str ByteArray.empty, .str y20.2.2.1, .int .i64 (0 : Int), .int .i64 ((at_ a.2 y20.2.1).1), .int .i64 ((at_ a.2 y20.2.1).2.1), .int .i64 ((at_ a.2 y20.2.1).2.2), .slice .ro 2 0 gnil, .str ByteArray.empty, .str ByteArray.empty, .int .i64 (0 : Int), .int .i64 (0 : Int), .str ByteArray.empty, .int .i64 (0 : Int)])) (Rds.app (enc := e_api_Job) (Rds.self (enc := e_api_Job)) (Rds.one (enc := e_api_Job) (DEqs.cons (DEq.refl _) (DEqs.cons (DEq.refl _) (DEqs.cons (DEq.refl _) (DEqs.cons (DEq.refl _) (DEqs.cons (DEq.refl _) (DEqs.cons (DEq.refl _) (DEqs.cons ((Rds.nil (enc := e_api_Label))).deq (DEqs.cons (DEq.refl _) (DEqs.cons (DEq.refl _) (DEqs.cons (DEq.refl _) (DEqs.cons (DEq.refl _) (DEqs.cons (DEq.refl _) (DEqs.cons (DEq.refl _) DEqs.nil)))))))))))))))), k41⟩⟩⟩⟩⟩⟩⟩))⟩)⟩)⟩⟩⟩⟩⟩⟩⟩⟩)) (fun h28 k86 => br k86 Cnd.eq (fun h47 k83 => br k83 Cnd.eq (fun h49 k70 => ⟨(((usedR ((([]) ++ y20.1) ++ ([((ByteArray.empty, y20.2.2.1, (0 : Int), (at_ a.2 y20.2.1), [], ByteArray.empty, ByteArray.empty, (0 : Int)), (0 : Int), ByteArray.empty, (0 : Int))]), y20.2.2.1)).1), y20.2.2.2), ⟨rfl, ⟨rfl, ⟨rfl, ⟨rfl, ⟨rfl, ⟨rfl, ⟨trivial, br k70 Cnd.b (fun h52 k61 => ⟨k61, trivial⟩) (fun h53 k62 => wrapK.i64 k62 (fun h58 h59 k60 => ⟨(y20.1, (y20.2.1 + (1 : Int)), y20.2.2.1, y20.2.2.2.1, y20.2.2.2.2.1, y20.2.2.2.2.2), slK (Rds.self (enc := e_ar3_i64)) (slK (Rds.self (enc := e_api_Job)) (⟨rfl, ⟨rfl, ⟨rfl, ⟨rfl, ⟨rfl, ⟨rfl, ⟨(numR (gl e_api_Job y20.1) (Rds.self (enc := e_api_Job))), k60⟩⟩⟩⟩⟩⟩⟩))⟩))⟩⟩⟩⟩⟩⟩⟩⟩) (fun h50 k71 => wrapK.i64 k71 (fun h67 h68 k69 => ⟨(y20.1, (y20.2.1 + (1 : Int)), y20.2.2.1, y20.2.2.2.1, y20.2.2.2.2.1, y20.2.2.2.2.2), slK (Rds.self (enc := e_ar3_i64)) (slK (Rds.self (enc := e_api_Job)) (⟨rfl, ⟨rfl, ⟨rfl, ⟨rfl, ⟨rfl, ⟨rfl, ⟨(numR (gl e_api_Job y20.1) (Rds.self (enc := e_api_Job))), k69⟩⟩⟩⟩⟩⟩⟩))⟩))) (fun h48 k84 => br k84 Cnd.ne (fun h72 k81 => ⟨k81, trivial⟩) (fun h73 k82 => wrapK.i64 k82 (fun h78 h79 k80 => ⟨(y20.1, (y20.2.1 + (1 : Int)), y20.2.2.1, y20.2.2.2.1, y20.2.2.2.2.1, y20.2.2.2.2.2), slK (Rds.self (enc := e_ar3_i64)) (slK (Rds.self (enc := e_api_Job)) (⟨rfl, ⟨rfl, ⟨rfl, ⟨rfl, ⟨rfl, ⟨rfl, ⟨(numR (gl e_api_Job y20.1) (Rds.self (enc := e_api_Job))), k80⟩⟩⟩⟩⟩⟩⟩))⟩))))⟩⟩)⟩⟩⟩)⟩⟩⟩⟩)⟩⟩⟩⟩⟩)) (fun h22 k93 => ⟨k93, trivial⟩)⟩)))))⟩⟩
theorem f9.eq (a : T_api_Queue × (List (T_ar3_i64))) : (f9.af a).gives f9.env (f9.args a) (f9.blks a) (f9.res a) (f9.blks' a) = f9.tree a := by kernel_rfl
end Go.Abs

-- interregnum/interregnumlaw10.QuotaApart
namespace Go.Abs
open Go
def f10.wf (a : (List (T_api_Job)) × T_api_Queue × T_ar3_i64 × ByteArray) : Prop := k_sl_api_Job.ok a.1 ∧ k_api_Queue.ok a.2.1 ∧ k_ar3_i64.ok a.2.2.1 ∧ k_str.ok a.2.2.2
def f10.size (a : (List (T_api_Job)) × T_api_Queue × T_ar3_i64 × ByteArray) : Nat := k_sl_api_Job.size a.1 + (k_api_Queue.size a.2.1 + (k_ar3_i64.size a.2.2.1 + (k_str.size a.2.2.2)))
def f10.lpre (a : (List (T_api_Job)) × T_api_Queue × T_ar3_i64 × ByteArray) : Prop := f10.wf a ∧ f10.size a ≤ 1048576
def f10.args (a : (List (T_api_Job)) × T_api_Queue × T_ar3_i64 × ByteArray) : List D := [.slice .ro 13 a.1.length (gl e_api_Job a.1), .agg [.str a.2.1.1, .int .i64 a.2.1.2.1, .int .i64 a.2.1.2.2.1, .int .i64 a.2.1.2.2.2], .agg [.int .i64 a.2.2.1.1, .int .i64 a.2.2.1.2.1, .int .i64 a.2.2.1.2.2], .str a.2.2.2]
def f10.blks (a : (List (T_api_Job)) × T_api_Queue × T_ar3_i64 × ByteArray) : List (List D) := []
def f10.res (a : (List (T_api_Job)) × T_api_Queue × T_ar3_i64 × ByteArray) : List D := [.bool (lawTrue a)]
def f10.blks' (a : (List (T_api_Job)) × T_api_Queue × T_ar3_i64 × ByteArray) : List (List D) := []
def f10.C : Contract := FnC f10.args f10.blks (fun a => f10.lpre a) f10.res f10.blks'
end Go.Abs

/- interregnum/interregnumlaw10.QuotaApart -/
namespace Go.Abs
open Go
set_option linter.unusedVariables false
def f10.kills (a : (List (T_api_Job)) × T_api_Queue × T_ar3_i64 × ByteArray) : List Hint := [.tell ((List (T_api_Job)) × Int × ByteArray × Int × Int × Int × Int × Int × Int) (fun x => ⟨[.slice .ro 13 a.1.length (gl e_api_Job a.1), .dead, .dead, .str a.2.2.2, .dead, .ptr 0 0, .ptr 1 0, .dead, .dead, .slice (.own 24) 13 x.1.length (gl e_api_Job x.1), .dead, .dead, .dead, .dead, .dead, .dead, .dead, .dead, .dead, .dead, .dead, .dead, .dead, .dead, .dead, .dead, .dead, .dead, .dead, .dead, .dead, .int .i64 (a.1.length : Int), .int .i64 x.2.1, .dead, .dead, .dead, .dead, .dead, .dead, .dead, .dead, .dead, .dead, .dead, .dead, .dead, .dead, .dead, .dead, .dead, .dead, .dead, .dead, .dead, .dead, .dead, .dead, .dead, .dead, .dead, .dead, .dead, .dead, .dead, .dead, .dead, .dead, .dead, .dead, .dead, .dead, .dead, .dead, .dead, .dead, .dead, .dead, .dead, .dead, .dead, .dead, .dead, .dead, .dead, .dead, .dead, .dead, .dead], [(0, false, [.str x.2.2.1, .int .i64 x.2.2.2.1, .int .i64 x.2.2.2.2.1, .int .i64 x.2.2.2.2.2.1]), (1, false, [.int .i64 x.2.2.2.2.2.2.1, .int .i64 x.2.2.2.2.2.2.2.1, .int .i64 x.2.2.2.2.2.2.2.2])], [(24, 13, x.1.length)]⟩)]
def f10.cuts (a : (List (T_api_Job)) × T_api_Queue × T_ar3_i64 × ByteArray) : List (Nat × Σ β : Type, β → Tm) := []
def f10.af (a : (List (T_api_Job)) × T_api_Queue × T_ar3_i64 × ByteArray) : AF := AF.mk (.seq (.region [⟨(some 5), 0, .box, [.t 1], none⟩,
  ⟨(some 6), 1, .box, [.t 2], none⟩,
  ⟨(some 8), 2, .move, [.c (.bool false)], none⟩])
 (.seq (.seq (.region [⟨(some 16), 3, (.call false 26), [], none⟩,
  ⟨(some 17), 7, (.un .not), [.t 16], none⟩,
  ⟨(some 18), 8, .move, [.t 17], none⟩,
  ⟨(some 19), 9, .move, [.t 0], (some (18, false))⟩,
  ⟨(some 20), 10, (.len false), [.t 19], (some (18, false))⟩,
  ⟨(some 21), 11, (.bin .gtr), [.t 20, .c (.int .i64 (300))], (some (18, false))⟩,
  ⟨(some 22), 12, .pick, [.t 18, .c (.bool true), .t 21], none⟩,
  ⟨(some 23), 13, .move, [.t 22], none⟩,
  ⟨(some 24), 14, (.fieldAddr 0), [.t 5], (some (23, false))⟩,
  ⟨(some 25), 15, (.load false 1), [.t 24], (some (23, false))⟩,
  ⟨(some 26), 16, (.len true), [.t 25], (some (23, false))⟩,
  ⟨(some 27), 17, (.bin .gtr), [.t 26, .c (.int .i64 (1000))], (some (23, false))⟩,
  ⟨(some 28), 18, .pick, [.t 23, .c (.bool true), .t 27], none⟩])
 (.cond (.t 28) (.seq (.region [⟨(some 29), 19, (.call false 26), [], none⟩,
  ⟨(some 8), 23, .move, [.t 29], none⟩])
 (.ret)) (.skip)))
 (.seq (.region [⟨(some 9), 24, (.nilSl 13), [], none⟩])
 (.seq (.seq (.region [⟨(some 30), 25, .move, [.t 0], none⟩,
  ⟨(some 31), 26, (.len false), [.t 30], none⟩,
  ⟨(some 32), 27, .move, [.c (.int .i64 (0))], none⟩])
 (.block 0 (.loopT ((List (T_api_Job)) × Int × ByteArray × Int × Int × Int × Int × Int × Int) (fun x => ⟨[.slice .ro 13 a.1.length (gl e_api_Job a.1), .dead, .dead, .str a.2.2.2, .dead, .ptr 0 0, .ptr 1 0, .dead, .dead, .slice (.own 24) 13 x.1.length (gl e_api_Job x.1), .dead, .dead, .dead, .dead, .dead, .dead, .dead, .dead, .dead, .dead, .dead, .dead, .dead, .dead, .dead, .dead, .dead, .dead, .dead, .dead, .dead, .int .i64 (a.1.length : Int), .int .i64 x.2.1, .dead, .dead, .dead, .dead, .dead, .dead, .dead, .dead, .dead, .dead, .dead, .dead, .dead, .dead, .dead, .dead, .dead, .dead, .dead, .dead, .dead, .dead, .dead, .dead, .dead, .dead, .dead, .dead, .dead, .dead, .dead, .dead, .dead, .dead, .dead, .dead, .dead, .dead, .dead, .dead, .dead, .dead, .dead, .dead, .dead, .dead, .dead, .dead, .dead, .dead, .dead, .dead, .dead, .dead, .dead], [(0, false, [.str x.2.2.1, .int .i64 x.2.2.2.1, .int .i64 x.2.2.2.2.1, .int .i64 x.2.2.2.2.2.1]), (1, false, [.int .i64 x.2.2.2.2.2.2.1, .int .i64 x.2.2.2.2.2.2.2.1, .int .i64 x.2.2.2.2.2.2.2.2])], [(24, 13, x.1.length)]⟩) 28 69 (.seq (.region [⟨(some 33), 28, (.bin .lss), [.t 32, .t 31], none⟩])
 (.seq (.cond (.t 33) (.skip) (.exit 0))
 (.seq (.block 1 (.seq (.region [⟨(some 34), 29, .move, [.t 32], none⟩,
  ⟨(some 10), 30, .move, [.t 34], none⟩])
 (.seq (.region [⟨(some 35), 31, .move, [.t 0], none⟩,
  ⟨(some 36), 32, .move, [.t 10], none⟩,
  ⟨(some 37), 33, (.indexAddr 13 none), [.t 35, .t 36], none⟩,
  ⟨(some 38), 34, (.fieldAddr 0), [.t 37], none⟩,
  ⟨(some 39), 35, (.fieldAddr 1), [.t 38], none⟩,
  ⟨(some 40), 36, (.load false 1), [.t 39], none⟩,
  ⟨(some 41), 37, (.fieldAddr 0), [.t 5], none⟩,
  ⟨(some 42), 38, (.load false 1), [.t 41], none⟩,
  ⟨(some 43), 39, (.bin .eql), [.t 40, .t 42], none⟩])
 (.cond (.t 43) (.seq (.region [⟨(some 44), 40, .move, [.t 0], none⟩,
  ⟨(some 45), 41, .move, [.t 10], none⟩,
  ⟨(some 46), 42, (.indexAddr 13 none), [.t 44, .t 45], none⟩,
  ⟨(some 47), 43, (.load true 13), [.t 46], none⟩,
  ⟨(some 11), 44, (.alloc [.str ByteArray.empty, .str ByteArray.empty, .int .i64 (0), .int .i64 (0), .int .i64 (0), .int .i64 (0), .slice (.own 0) 2 0 gnil, .str ByteArray.empty, .str ByteArray.empty, .int .i64 (0), .int .i64 (0), .str ByteArray.empty, .int .i64 (0)]), [], none⟩,
  ⟨none, 58, (.store 13), [.t 11, .t 47], none⟩])
 (.seq (.region [⟨(some 48), 59, .move, [.t 3], none⟩,
  ⟨(some 49), 60, (.fieldAddr 11), [.t 11], none⟩,
  ⟨none, 61, (.store 1), [.t 49, .t 48], none⟩])
 (.region [⟨(some 50), 62, .move, [.t 9], none⟩,
  ⟨(some 51), 63, (.load true 13), [.t 11], none⟩,
  ⟨(some 52), 64, (.buildSlice 13 1 [.str ByteArray.empty, .str ByteArray.empty, .int .i64 (0), .int .i64 (0), .int .i64 (0), .int .i64 (0), .slice .full 2 0 gnil, .str ByteArray.empty, .str ByteArray.empty, .int .i64 (0), .int .i64 (0), .str ByteArray.empty, .int .i64 (0)] [(0, 13)]), [.t 51], none⟩,
  ⟨(some 53), 65, (.append 13 160), [.t 50, .t 52], none⟩,
  ⟨(some 9), 66, .move, [.t 53], none⟩]))) (.skip)))))
 (.region [⟨(some 54), 67, (.bin .add), [.t 32, .c (.int .i64 (1))], none⟩,
  ⟨(some 32), 68, .move, [.t 54], none⟩])))))))
 (.seq (.region [⟨(some 56), 69, .move, [.t 0], none⟩,
  ⟨(some 57), 70, (.fieldAddr 0), [.t 5], none⟩,
  ⟨(some 58), 71, (.load false 1), [.t 57], none⟩,
  ⟨(some 59), 72, (.call false 27), [.t 56, .t 58], none⟩,
  ⟨(some 55), 76, .move, [.t 59], none⟩,
  ⟨(some 60), 77, (.extract 0), [.t 55], none⟩,
  ⟨(some 61), 78, (.extract 1), [.t 55], none⟩,
  ⟨(some 12), 79, (.alloc [.int .i64 (0), .int .i64 (0), .int .i64 (0)]), [], none⟩,
  ⟨none, 83, (.store 3), [.t 12, .t 60], none⟩,
  ⟨(some 13), 84, .move, [.t 61], none⟩])
 (.seq (.region [⟨(some 63), 85, .move, [.t 9], none⟩,
  ⟨(some 64), 86, (.fieldAddr 0), [.t 5], none⟩,
  ⟨(some 65), 87, (.load false 1), [.t 64], none⟩,
  ⟨(some 66), 88, (.call false 27), [.t 63, .t 65], none⟩,
  ⟨(some 62), 92, .move, [.t 66], none⟩,
  ⟨(some 67), 93, (.extract 0), [.t 62], none⟩,
  ⟨(some 68), 94, (.extract 1), [.t 62], none⟩,
  ⟨(some 14), 95, (.alloc [.int .i64 (0), .int .i64 (0), .int .i64 (0)]), [], none⟩,
  ⟨none, 99, (.store 3), [.t 14, .t 67], none⟩,
  ⟨(some 15), 100, .move, [.t 68], none⟩])
 (.seq (.region [⟨(some 69), 101, (.load true 3), [.t 12], none⟩,
  ⟨(some 70), 102, (.load true 3), [.t 14], none⟩,
  ⟨(some 71), 103, (.eqAgg false [0, 0, 0]), [.t 69, .t 70], none⟩,
  ⟨(some 72), 104, .move, [.t 71], none⟩,
  ⟨(some 73), 105, .move, [.t 13], (some (72, true))⟩,
  ⟨(some 74), 106, .move, [.t 15], (some (72, true))⟩,
  ⟨(some 75), 107, (.bin .eql), [.t 73, .t 74], (some (72, true))⟩,
  ⟨(some 76), 108, .pick, [.t 72, .t 75, .c (.bool false)], none⟩,
  ⟨(some 77), 109, .move, [.t 76], none⟩,
  ⟨(some 78), 110, (.load true 4), [.t 5], (some (77, true))⟩,
  ⟨(some 79), 111, .move, [.t 0], (some (77, true))⟩,
  ⟨(some 80), 112, (.load true 3), [.t 6], (some (77, true))⟩,
  ⟨(some 81), 113, (.call false 29), [.t 78, .t 79, .t 80], (some (77, true))⟩,
  ⟨(some 82), 117, (.load true 4), [.t 5], (some (77, true))⟩,
  ⟨(some 83), 118, .move, [.t 9], (some (77, true))⟩,
  ⟨(some 84), 119, (.load true 3), [.t 6], (some (77, true))⟩,
  ⟨(some 85), 120, (.call false 29), [.t 82, .t 83, .t 84], (some (77, true))⟩,
  ⟨(some 86), 124, (.bin .eql), [.t 81, .t 85], (some (77, true))⟩,
  ⟨(some 87), 125, .pick, [.t 77, .t 86, .c (.bool false)], none⟩,
  ⟨(some 8), 126, .move, [.t 87], none⟩])
 (.ret))))))))
  [.tmp 8] 0 84
def f10.env : Env := [(26, f26.C), (27, f27.C), (29, f29.C)]
def f10.tree (a : (List (T_api_Job)) × T_api_Queue × T_ar3_i64 × ByteArray) : Prop := ∃ c1 : Unit, True ∧ Br (!(lawTrue c1)) (∃ c4 : Unit, True ∧ ((lawTrue c4) = (lawTrue a)) ∧ True) (Br (decide ((300 : Int) < (a.1.length : Int))) (∃ c9 : Unit, True ∧ ((lawTrue c9) = (lawTrue a)) ∧ True) (Br (decide ((1000 : Int) < (a.2.1.1.size : Int))) (∃ c14 : Unit, True ∧ ((lawTrue c14) = (lawTrue a)) ∧ True) (∃ (I18 : ((List (T_api_Job)) × Int × ByteArray × Int × Int × Int × Int × Int × Int) → Prop) (μ19 : ((List (T_api_Job)) × Int × ByteArray × Int × Int × Int × Int × Int × Int) → Nat), (∃ x17 : (List (T_api_Job)) × Int × ByteArray × Int × Int × Int × Int × Int × Int, (a.1.length = a.1.length) ∧ (∀ i, i < a.1.length → DEqs ((gl e_api_Job a.1) i) ((gl e_api_Job a.1) i)) ∧ (a.2.2.2 = a.2.2.2) ∧ (0 = x17.1.length) ∧ (∀ i, i < x17.1.length → DEqs (gnil i) ((gl e_api_Job x17.1) i)) ∧ ((a.1.length : Int) = (a.1.length : Int)) ∧ ((0 : Int) = x17.2.1) ∧ (a.2.1.1 = x17.2.2.1) ∧ (a.2.1.2.1 = x17.2.2.2.1) ∧ (a.2.1.2.2.1 = x17.2.2.2.2.1) ∧ (a.2.1.2.2.2 = x17.2.2.2.2.2.1) ∧ (a.2.2.1.1 = x17.2.2.2.2.2.2.1) ∧ (a.2.2.1.2.1 = x17.2.2.2.2.2.2.2.1) ∧ (a.2.2.1.2.2 = x17.2.2.2.2.2.2.2.2) ∧ (0 = x17.1.length) ∧ I18 x17) ∧ ∀ y20 : (List (T_api_Job)) × Int × ByteArray × Int × Int × Int × Int × Int × Int, I18 y20 → (Br (decide (y20.2.1 < (a.1.length : Int))) (Br (decide ((0 : Int) ≤ y20.2.1) && decide (y20.2.1 < (a.1.length : Int))) (Br ((((at_ a.1 y20.2.1).1).2.1).toList == y20.2.2.1.toList) (Br (decide ((0 : Int) ≤ y20.2.1) && decide (y20.2.1 < (a.1.length : Int))) ((y20.1.length = y20.1.length ∧ room ((y20.1.length + 1) * 160)) ∧ (Let (IntKind.i64.wrap (y20.2.1 + (1 : Int))) (fun v27 : Int => ∃ x28 : (List (T_api_Job)) × Int × ByteArray × Int × Int × Int × Int × Int × Int, (a.1.length = a.1.length) ∧ (∀ i, i < a.1.length → DEqs ((gl e_api_Job a.1) i) ((gl e_api_Job a.1) i)) ∧ (a.2.2.2 = a.2.2.2) ∧ ((y20.1.length + 1) = x28.1.length) ∧ (∀ i, i < x28.1.length → DEqs ((gapp (gl e_api_Job y20.1) y20.1.length (fun _ => [.str (((at_ a.1 y20.2.1).1).1), .str (((at_ a.1 y20.2.1).1).2.1), .int .i64 (((at_ a.1 y20.2.1).1).2.2.1), .int .i64 ((((at_ a.1 y20.2.1).1).2.2.2.1).1), .int .i64 ((((at_ a.1 y20.2.1).1).2.2.2.1).2.1), .int .i64 ((((at_ a.1 y20.2.1).1).2.2.2.1).2.2), .slice .ro 2 ((((at_ a.1 y20.2.1).1).2.2.2.2.1).length) (gl e_api_Label (((at_ a.1 y20.2.1).1).2.2.2.2.1)), .str (((at_ a.1 y20.2.1).1).2.2.2.2.2.1), .str (((at_ a.1 y20.2.1).1).2.2.2.2.2.2.1), .int .i64 (((at_ a.1 y20.2.1).1).2.2.2.2.2.2.2), .int .i64 ((at_ a.1 y20.2.1).2.1), .str a.2.2.2, .int .i64 ((at_ a.1 y20.2.1).2.2.2)])) i) ((gl e_api_Job x28.1) i)) ∧ ((a.1.length : Int) = (a.1.length : Int)) ∧ (v27 = x28.2.1) ∧ (y20.2.2.1 = x28.2.2.1) ∧ (y20.2.2.2.1 = x28.2.2.2.1) ∧ (y20.2.2.2.2.1 = x28.2.2.2.2.1) ∧ (y20.2.2.2.2.2.1 = x28.2.2.2.2.2.1) ∧ (y20.2.2.2.2.2.2.1 = x28.2.2.2.2.2.2.1) ∧ (y20.2.2.2.2.2.2.2.1 = x28.2.2.2.2.2.2.2.1) ∧ (y20.2.2.2.2.2.2.2.2 = x28.2.2.2.2.2.2.2.2) ∧ ((y20.1.length + 1) = x28.1.length) ∧ I18 x28 ∧ μ19 x28 < μ19 y20))) False) (Let (IntKind.i64.wrap (y20.2.1 + (1 : Int))) (fun v34 : Int => ∃ x35 : (List (T_api_Job)) × Int × ByteArray × Int × Int × Int × Int × Int × Int, (a.1.length = a.1.length) ∧ (∀ i, i < a.1.length → DEqs ((gl e_api_Job a.1) i) ((gl e_api_Job a.1) i)) ∧ (a.2.2.2 = a.2.2.2) ∧ (y20.1.length = x35.1.length) ∧ (∀ i, i < x35.1.length → DEqs ((gl e_api_Job y20.1) i) ((gl e_api_Job x35.1) i)) ∧ ((a.1.length : Int) = (a.1.length : Int)) ∧ (v34 = x35.2.1) ∧ (y20.2.2.1 = x35.2.2.1) ∧ (y20.2.2.2.1 = x35.2.2.2.1) ∧ (y20.2.2.2.2.1 = x35.2.2.2.2.1) ∧ (y20.2.2.2.2.2.1 = x35.2.2.2.2.2.1) ∧ (y20.2.2.2.2.2.2.1 = x35.2.2.2.2.2.2.1) ∧ (y20.2.2.2.2.2.2.2.1 = x35.2.2.2.2.2.2.2.1) ∧ (y20.2.2.2.2.2.2.2.2 = x35.2.2.2.2.2.2.2.2) ∧ (y20.1.length = x35.1.length) ∧ I18 x35 ∧ μ19 x35 < μ19 y20))) False) (∃ c43 : (List (T_api_Job)) × ByteArray, (a.1.length = c43.1.length) ∧ (∀ i, i < c43.1.length → DEqs ((gl e_api_Job a.1) i) ((gl e_api_Job c43.1) i)) ∧ (y20.2.2.1 = c43.2) ∧ (used_pre c43) ∧ ∃ c44 : (List (T_api_Job)) × ByteArray, (y20.1.length = c44.1.length) ∧ (∀ i, i < c44.1.length → DEqs ((gl e_api_Job y20.1) i) ((gl e_api_Job c44.1) i)) ∧ (y20.2.2.1 = c44.2) ∧ (used_pre c44) ∧ Br (((((usedR c43).1).1) == (((usedR c44).1).1)) && (((((usedR c43).1).2.1) == (((usedR c44).1).2.1)) && ((((usedR c43).1).2.2) == (((usedR c44).1).2.2)))) (Br (((usedR c43).2) == ((usedR c44).2)) (∃ c49 : T_api_Queue × (List (T_api_Job)) × T_ar3_i64, (y20.2.2.1 = c49.1.1) ∧ (y20.2.2.2.1 = c49.1.2.1) ∧ (y20.2.2.2.2.1 = c49.1.2.2.1) ∧ (y20.2.2.2.2.2.1 = c49.1.2.2.2) ∧ (a.1.length = c49.2.1.length) ∧ (∀ i, i < c49.2.1.length → DEqs ((gl e_api_Job a.1) i) ((gl e_api_Job c49.2.1) i)) ∧ (y20.2.2.2.2.2.2.1 = c49.2.2.1) ∧ (y20.2.2.2.2.2.2.2.1 = c49.2.2.2.1) ∧ (y20.2.2.2.2.2.2.2.2 = c49.2.2.2.2) ∧ (admit_pre c49) ∧ ∃ c50 : T_api_Queue × (List (T_api_Job)) × T_ar3_i64, (y20.2.2.1 = c50.1.1) ∧ (y20.2.2.2.1 = c50.1.2.1) ∧ (y20.2.2.2.2.1 = c50.1.2.2.1) ∧ (y20.2.2.2.2.2.1 = c50.1.2.2.2) ∧ (y20.1.length = c50.2.1.length) ∧ (∀ i, i < c50.2.1.length → DEqs ((gl e_api_Job y20.1) i) ((gl e_api_Job c50.2.1) i)) ∧ (y20.2.2.2.2.2.2.1 = c50.2.2.1) ∧ (y20.2.2.2.2.2.2.2.1 = c50.2.2.2.1) ∧ (y20.2.2.2.2.2.2.2.2 = c50.2.2.2.2) ∧ (admit_pre c50) ∧ (((admitR c49) == (admitR c50)) = (lawTrue a)) ∧ True) ((false = (lawTrue a)) ∧ True)) ((false = (lawTrue a)) ∧ True))))))
def f10.vc (a : (List (T_api_Job)) × T_api_Queue × T_ar3_i64 × ByteArray) : Prop := ((¬ ((lawTrue ()) = true) → ((lawTrue ()) = lawTrue a)) ∧ (¬ (¬ ((lawTrue ()) = true)) → (((300 : Int) < (a.1.length : Int) → ((lawTrue ()) = lawTrue a)) ∧ (¬ ((300 : Int) < (a.1.length : Int)) → (((1000 : Int) < (a.2.1.1.size : Int) → ((lawTrue ()) = lawTrue a)) ∧ (¬ ((1000 : Int) < (a.2.1.1.size : Int)) → (∃ (I18 : ((List (T_api_Job)) × Int × ByteArray × Int × Int × Int × Int × Int × Int) → Prop) (μ19 : ((List (T_api_Job)) × Int × ByteArray × Int × Int × Int × Int × Int × Int) → Nat), I18 ([], (0 : Int), a.2.1.1, a.2.1.2.1, a.2.1.2.2.1, a.2.1.2.2.2, a.2.2.1.1, a.2.2.1.2.1, a.2.2.1.2.2) ∧ ∀ y20 : (List (T_api_Job)) × Int × ByteArray × Int × Int × Int × Int × Int × Int, I18 y20 → ((y20.2.1 < (a.1.length : Int) → ((0 : Int) ≤ y20.2.1 ∧ y20.2.1 < (a.1.length : Int) ∧ (((((at_ a.1 y20.2.1).1).2.1) = y20.2.2.1 → ((0 : Int) ≤ y20.2.1 ∧ y20.2.1 < (a.1.length : Int) ∧ (y20.1.length + 1 ≤ 1073741824 ∧ (-9223372036854775808 ≤ (y20.2.1 + (1 : Int)) ∧ (y20.2.1 + (1 : Int)) ≤ 9223372036854775807 ∧ (I18 (y20.1 ++ ([(((at_ a.1 y20.2.1).1), (at_ a.1 y20.2.1).2.1, a.2.2.2, (at_ a.1 y20.2.1).2.2.2)]), (y20.2.1 + (1 : Int)), y20.2.2.1, y20.2.2.2.1, y20.2.2.2.2.1, y20.2.2.2.2.2.1, y20.2.2.2.2.2.2.1, y20.2.2.2.2.2.2.2.1, y20.2.2.2.2.2.2.2.2) ∧ μ19 (y20.1 ++ ([(((at_ a.1 y20.2.1).1), (at_ a.1 y20.2.1).2.1, a.2.2.2, (at_ a.1 y20.2.1).2.2.2)]), (y20.2.1 + (1 : Int)), y20.2.2.1, y20.2.2.2.1, y20.2.2.2.2.1, y20.2.2.2.2.2.1, y20.2.2.2.2.2.2.1, y20.2.2.2.2.2.2.2.1, y20.2.2.2.2.2.2.2.2) < μ19 y20))))) ∧ (¬ ((((at_ a.1 y20.2.1).1).2.1) = y20.2.2.1) → (-9223372036854775808 ≤ (y20.2.1 + (1 : Int)) ∧ (y20.2.1 + (1 : Int)) ≤ 9223372036854775807 ∧ (I18 (y20.1, (y20.2.1 + (1 : Int)), y20.2.2.1, y20.2.2.2.1, y20.2.2.2.2.1, y20.2.2.2.2.2.1, y20.2.2.2.2.2.2.1, y20.2.2.2.2.2.2.2.1, y20.2.2.2.2.2.2.2.2) ∧ μ19 (y20.1, (y20.2.1 + (1 : Int)), y20.2.2.1, y20.2.2.2.1, y20.2.2.2.2.1, y20.2.2.2.2.2.1, y20.2.2.2.2.2.2.1, y20.2.2.2.2.2.2.2.1, y20.2.2.2.2.2.2.2.2) < μ19 y20)))))) ∧ (¬ (y20.2.1 < (a.1.length : Int)) → (used_pre (a.1, y20.2.2.1) ∧ (used_pre (y20.1, y20.2.2.1) ∧ (((((usedR (a.1, y20.2.2.1)).1).1) = (((usedR (y20.1, y20.2.2.1)).1).1) ∧ (((usedR (a.1, y20.2.2.1)).1).2.1) = (((usedR (y20.1, y20.2.2.1)).1).2.1) ∧ (((usedR (a.1, y20.2.2.1)).1).2.2) = (((usedR (y20.1, y20.2.2.1)).1).2.2) → ((((usedR (a.1, y20.2.2.1)).2) = ((usedR (y20.1, y20.2.2.1)).2) → (admit_pre ((y20.2.2.1, (y20.2.2.2.1, y20.2.2.2.2.1, y20.2.2.2.2.2.1)), a.1, y20.2.2.2.2.2.2) ∧ (admit_pre ((y20.2.2.1, (y20.2.2.2.1, y20.2.2.2.2.1, y20.2.2.2.2.2.1)), y20.1, y20.2.2.2.2.2.2) ∧ (((admitR ((y20.2.2.1, (y20.2.2.2.1, y20.2.2.2.2.1, y20.2.2.2.2.2.1)), a.1, y20.2.2.2.2.2.2)) == (admitR ((y20.2.2.1, (y20.2.2.2.1, y20.2.2.2.2.1, y20.2.2.2.2.2.1)), y20.1, y20.2.2.2.2.2.2))) = lawTrue a)))) ∧ (¬ (((usedR (a.1, y20.2.2.1)).2) = ((usedR (y20.1, y20.2.2.1)).2)) → (false = lawTrue a)))) ∧ (¬ ((((usedR (a.1, y20.2.2.1)).1).1) = (((usedR (y20.1, y20.2.2.1)).1).1) ∧ (((usedR (a.1, y20.2.2.1)).1).2.1) = (((usedR (y20.1, y20.2.2.1)).1).2.1) ∧ (((usedR (a.1, y20.2.2.1)).1).2.2) = (((usedR (y20.1, y20.2.2.1)).1).2.2)) → (false = lawTrue a))))))))))))))
set_option maxRecDepth 100000 in
set_option maxHeartbeats 2000000 in
theorem f10.of (a : (List (T_api_Job)) × T_api_Queue × T_ar3_i64 × ByteArray) (h : f10.vc a) : f10.tree a := ⟨(), ⟨trivial, br h (Cnd.not Cnd.b) (fun h2 k71 => ⟨(), ⟨trivial, ⟨k71, trivial⟩⟩⟩) (fun h3 k72 => br k72 Cnd.dec (fun h7 k69 => ⟨(), ⟨trivial, ⟨k69, trivial⟩⟩⟩) (fun h8 k70 => br k70 Cnd.dec (fun h12 k67 => ⟨(), ⟨trivial, ⟨k67, trivial⟩⟩⟩) (fun h13 k68 => Exists.elim k68 (fun I18 h64_ => Exists.elim h64_ (fun μ19 h64 => ⟨I18, μ19, ⟨([], (0 : Int), a.2.1.1, a.2.1.2.1, a.2.1.2.2.1, a.2.1.2.2.2, a.2.2.1.1, a.2.2.1.2.1, a.2.2.1.2.2), slK (Rds.self (enc := e_api_Job)) (⟨rfl, slK (Rds.nil (enc := e_api_Job)) (⟨rfl, ⟨rfl, ⟨rfl, ⟨rfl, ⟨rfl, ⟨rfl, ⟨rfl, ⟨rfl, ⟨rfl, ⟨(numR gnil (Rds.nil (enc := e_api_Job))), h64.1⟩⟩⟩⟩⟩⟩⟩⟩⟩⟩)⟩)⟩, fun y20 h66 => br (h64.2 y20 h66) Cnd.dec (fun h21 k62 => chk k62.2.2 Cnd.ix ⟨k62.1, k62.2.1⟩ (fun h23 k42 => br k42 Cnd.seq (fun h24 k40 => chk k40.2.2 Cnd.ix ⟨k40.1, k40.2.1⟩ (fun h26 k33 => ⟨⟨rfl, (room_of k33.1 (by decide))⟩, wrapK.i64 k33.2 (fun h30 h31 k32 => ⟨(y20.1 ++ ([(((at_ a.1 y20.2.1).1), (at_ a.1 y20.2.1).2.1, a.2.2.2, (at_ a.1 y20.2.1).2.2.2)]), (y20.2.1 + (1 : Int)), y20.2.2.1, y20.2.2.2.1, y20.2.2.2.2.1, y20.2.2.2.2.2.1, y20.2.2.2.2.2.2.1, y20.2.2.2.2.2.2.2.1, y20.2.2.2.2.2.2.2.2), slK (Rds.self (enc := e_api_Job)) (⟨rfl, slK (Rds.app (enc := e_api_Job) (Rds.self (enc := e_api_Job)) (Rds.one (enc := e_api_Job) (DEqs.refl _))) (⟨rfl, ⟨rfl, ⟨rfl, ⟨rfl, ⟨rfl, ⟨rfl, ⟨rfl, ⟨rfl, ⟨rfl, ⟨(numR (gapp (gl e_api_Job y20.1) y20.1.length (fun _ => [.str (((at_ a.1 y20.2.1).1).1), .str (((at_ a.1 y20.2.1).1).2.1), .int .i64 (((at_ a.1 y20.2.1).1).2.2.1), .int .i64 ((((at_ a.1 y20.2.1).1).2.2.2.1).1), .int .i64 ((((at_ a.1 y20.2.1).1).2.2.2.1).2.1), .int .i64 ((((at_ a.1 y20.2.1).1).2.2.2.1).2.2), .slice .ro 2 ((((at_ a.1 y20.2.1).1).2.2.2.2.1).length) (gl e_api_Label (((at_ a.1 y20.2.1).1).2.2.2.2.1)), .str (((at_ a.1 y20.2.1).1).2.2.2.2.2.1), .str (((at_ a.1 y20.2.1).1).2.2.2.2.2.2.1), .int .i64 (((at_ a.1 y20.2.1).1).2.2.2.2.2.2.2), .int .i64 ((at_ a.1 y20.2.1).2.1), .str a.2.2.2, .int .i64 ((at_ a.1 y20.2.1).2.2.2)])) (Rds.app (enc := e_api_Job) (Rds.self (enc := e_api_Job)) (Rds.one (enc := e_api_Job) (DEqs.refl _)))), k32⟩⟩⟩⟩⟩⟩⟩⟩⟩⟩)⟩)⟩)⟩)) (fun h25 k41 => wrapK.i64 k41 (fun h37 h38 k39 => ⟨(y20.1, (y20.2.1 + (1 : Int)), y20.2.2.1, y20.2.2.2.1, y20.2.2.2.2.1, y20.2.2.2.2.2.1, y20.2.2.2.2.2.2.1, y20.2.2.2.2.2.2.2.1, y20.2.2.2.2.2.2.2.2), slK (Rds.self (enc := e_api_Job)) (⟨rfl, slK (Rds.self (enc := e_api_Job)) (⟨rfl, ⟨rfl, ⟨rfl, ⟨rfl, ⟨rfl, ⟨rfl, ⟨rfl, ⟨rfl, ⟨rfl, ⟨(numR (gl e_api_Job y20.1) (Rds.self (enc := e_api_Job))), k39⟩⟩⟩⟩⟩⟩⟩⟩⟩⟩)⟩)⟩)))) (fun h22 k63 => ⟨(a.1, y20.2.2.1), slK (Rds.self (enc := e_api_Job)) (⟨rfl, ⟨k63.1, ⟨(y20.1, y20.2.2.1), slK (Rds.self (enc := e_api_Job)) (⟨rfl, ⟨k63.2.1, br k63.2.2 (Cnd.and Cnd.eq (Cnd.and Cnd.eq Cnd.eq)) (fun h45 k58 => br k58 Cnd.eq (fun h47 k55 => ⟨((y20.2.2.1, (y20.2.2.2.1, y20.2.2.2.2.1, y20.2.2.2.2.2.1)), a.1, y20.2.2.2.2.2.2), ⟨rfl, ⟨rfl, ⟨rfl, ⟨rfl, slK (Rds.self (enc := e_api_Job)) (⟨rfl, ⟨rfl, ⟨rfl, ⟨k55.1, ⟨((y20.2.2.1, (y20.2.2.2.1, y20.2.2.2.2.1, y20.2.2.2.2.2.1)), y20.1, y20.2.2.2.2.2.2), ⟨rfl, ⟨rfl, ⟨rfl, ⟨rfl, slK (Rds.self (enc := e_api_Job)) (⟨rfl, ⟨rfl, ⟨rfl, ⟨k55.2.1, ⟨k55.2.2, trivial⟩⟩⟩⟩⟩)⟩⟩⟩⟩⟩⟩⟩⟩⟩)⟩⟩⟩⟩⟩) (fun h48 k56 => ⟨k56, trivial⟩)) (fun h46 k59 => ⟨k59, trivial⟩)⟩⟩)⟩⟩⟩)⟩)⟩)))))⟩⟩
theorem f10.eq (a : (List (T_api_Job)) × T_api_Queue × T_ar3_i64 × ByteArray) : (f10.af a).gives f10.env (f10.args a) (f10.blks a) (f10.res a) (f10.blks' a) = f10.tree a := by kernel_rfl
end Go.Abs

-- interregnum/interregnumlaw10.QuotaOrder
namespace Go.Abs
open Go
def f11.wf (a : (List (T_api_Job)) × T_api_Queue × T_ar3_i64) : Prop := k_sl_api_Job.ok a.1 ∧ k_api_Queue.ok a.2.1 ∧ k_ar3_i64.ok a.2.2
def f11.size (a : (List (T_api_Job)) × T_api_Queue × T_ar3_i64) : Nat := k_sl_api_Job.size a.1 + (k_api_Queue.size a.2.1 + (k_ar3_i64.size a.2.2))
def f11.lpre (a : (List (T_api_Job)) × T_api_Queue × T_ar3_i64) : Prop := f11.wf a ∧ f11.size a ≤ 1048576
def f11.args (a : (List (T_api_Job)) × T_api_Queue × T_ar3_i64) : List D := [.slice .ro 13 a.1.length (gl e_api_Job a.1), .agg [.str a.2.1.1, .int .i64 a.2.1.2.1, .int .i64 a.2.1.2.2.1, .int .i64 a.2.1.2.2.2], .agg [.int .i64 a.2.2.1, .int .i64 a.2.2.2.1, .int .i64 a.2.2.2.2]]
def f11.blks (a : (List (T_api_Job)) × T_api_Queue × T_ar3_i64) : List (List D) := []
def f11.res (a : (List (T_api_Job)) × T_api_Queue × T_ar3_i64) : List D := [.bool (lawTrue a)]
def f11.blks' (a : (List (T_api_Job)) × T_api_Queue × T_ar3_i64) : List (List D) := []
def f11.C : Contract := FnC f11.args f11.blks (fun a => f11.lpre a) f11.res f11.blks'
end Go.Abs

/- interregnum/interregnumlaw10.QuotaOrder -/
namespace Go.Abs
open Go
set_option linter.unusedVariables false
def f11.kills (a : (List (T_api_Job)) × T_api_Queue × T_ar3_i64) : List Hint := [.tell ((List (T_api_Job)) × Int) (fun x => ⟨[.slice .ro 13 a.1.length (gl e_api_Job a.1), .dead, .dead, .dead, .ptr 0 0, .ptr 1 0, .dead, .slice (.own 24) 13 x.1.length (gl e_api_Job x.1), .int .i64 x.2, .dead, .dead, .dead, .dead, .dead, .dead, .dead, .dead, .dead, .dead, .dead, .dead, .dead, .dead, .dead, .dead, .dead, .dead, .dead, .dead, .dead, .dead, .dead, .dead, .dead, .dead, .dead, .dead, .dead, .dead, .dead, .dead, .dead, .dead, .dead, .dead, .dead, .dead, .dead, .dead, .dead, .dead, .dead, .dead, .dead, .dead, .dead, .dead, .dead, .dead, .dead, .dead, .dead, .dead, .dead, .dead, .dead, .dead, .dead, .dead, .dead, .dead, .dead, .dead, .dead, .dead, .dead, .dead, .dead, .dead, .dead], [(0, false, [.str a.2.1.1, .int .i64 a.2.1.2.1, .int .i64 a.2.1.2.2.1, .int .i64 a.2.1.2.2.2]), (1, false, [.int .i64 a.2.2.1, .int .i64 a.2.2.2.1, .int .i64 a.2.2.2.2])], [(24, 13, x.1.length)]⟩)]
def f11.cuts (a : (List (T_api_Job)) × T_api_Queue × T_ar3_i64) : List (Nat × Σ β : Type, β → Tm) := []
def f11.af (a : (List (T_api_Job)) × T_api_Queue × T_ar3_i64) : AF := AF.mk (.seq (.region [⟨(some 4), 0, .box, [.t 1], none⟩,
  ⟨(some 5), 1, .box, [.t 2], none⟩,
  ⟨(some 6), 2, .move, [.c (.bool false)], none⟩])
 (.seq (.seq (.region [⟨(some 13), 3, (.call false 26), [], none⟩,
  ⟨(some 14), 7, (.un .not), [.t 13], none⟩,
  ⟨(some 15), 8, .move, [.t 14], none⟩,
  ⟨(some 16), 9, .move, [.t 0], (some (15, false))⟩,
  ⟨(some 17), 10, (.len false), [.t 16], (some (15, false))⟩,
  ⟨(some 18), 11, (.bin .gtr), [.t 17, .c (.int .i64 (300))], (some (15, false))⟩,
  ⟨(some 19), 12, .pick, [.t 15, .c (.bool true), .t 18], none⟩,
  ⟨(some 20), 13, .move, [.t 19], none⟩,
  ⟨(some 21), 14, (.fieldAddr 0), [.t 4], (some (20, false))⟩,
  ⟨(some 22), 15, (.load false 1), [.t 21], (some (20, false))⟩,
  ⟨(some 23), 16, (.len true), [.t 22], (some (20, false))⟩,
  ⟨(some 24), 17, (.bin .gtr), [.t 23, .c (.int .i64 (1000))], (some (20, false))⟩,
  ⟨(some 25), 18, .pick, [.t 20, .c (.bool true), .t 24], none⟩])
 (.cond (.t 25) (.seq (.region [⟨(some 26), 19, (.call false 26), [], none⟩,
  ⟨(some 6), 23, .move, [.t 26], none⟩])
 (.ret)) (.skip)))
 (.seq (.region [⟨(some 7), 24, (.nilSl 13), [], none⟩])
 (.seq (.seq (.region [⟨(some 27), 25, .move, [.t 0], none⟩,
  ⟨(some 28), 26, (.len false), [.t 27], none⟩,
  ⟨(some 29), 27, (.bin .sub), [.t 28, .c (.int .i64 (1))], none⟩,
  ⟨(some 8), 28, .move, [.t 29], none⟩])
 (.block 0 (.loopT ((List (T_api_Job)) × Int) (fun x => ⟨[.slice .ro 13 a.1.length (gl e_api_Job a.1), .dead, .dead, .dead, .ptr 0 0, .ptr 1 0, .dead, .slice (.own 24) 13 x.1.length (gl e_api_Job x.1), .int .i64 x.2, .dead, .dead, .dead, .dead, .dead, .dead, .dead, .dead, .dead, .dead, .dead, .dead, .dead, .dead, .dead, .dead, .dead, .dead, .dead, .dead, .dead, .dead, .dead, .dead, .dead, .dead, .dead, .dead, .dead, .dead, .dead, .dead, .dead, .dead, .dead, .dead, .dead, .dead, .dead, .dead, .dead, .dead, .dead, .dead, .dead, .dead, .dead, .dead, .dead, .dead, .dead, .dead, .dead, .dead, .dead, .dead, .dead, .dead, .dead, .dead, .dead, .dead, .dead, .dead, .dead, .dead, .dead, .dead, .dead, .dead, .dead], [(0, false, [.str a.2.1.1, .int .i64 a.2.1.2.1, .int .i64 a.2.1.2.2.1, .int .i64 a.2.1.2.2.2]), (1, false, [.int .i64 a.2.2.1, .int .i64 a.2.2.2.1, .int .i64 a.2.2.2.2])], [(24, 13, x.1.length)]⟩) 29 42 (.seq (.seq (.region [⟨(some 30), 29, .move, [.t 8], none⟩,
  ⟨(some 31), 30, (.bin .geq), [.t 30, .c (.int .i64 (0))], none⟩])
 (.cond (.t 31) (.skip) (.exit 0)))
 (.seq (.block 1 (.region [⟨(some 34), 31, .move, [.t 7], none⟩,
  ⟨(some 35), 32, .move, [.t 0], none⟩,
  ⟨(some 36), 33, .move, [.t 8], none⟩,
  ⟨(some 37), 34, (.indexAddr 13 none), [.t 35, .t 36], none⟩,
  ⟨(some 38), 35, (.load true 13), [.t 37], none⟩,
  ⟨(some 39), 36, (.buildSlice 13 1 [.str ByteArray.empty, .str ByteArray.empty, .int .i64 (0), .int .i64 (0), .int .i64 (0), .int .i64 (0), .slice .full 2 0 gnil, .str ByteArray.empty, .str ByteArray.empty, .int .i64 (0), .int .i64 (0), .str ByteArray.empty, .int .i64 (0)] [(0, 13)]), [.t 38], none⟩,
  ⟨(some 40), 37, (.append 13 160), [.t 34, .t 39], none⟩,
  ⟨(some 7), 38, .move, [.t 40], none⟩]))
 (.region [⟨(some 32), 39, .move, [.t 8], none⟩,
  ⟨(some 33), 40, (.bin .sub), [.t 32, .c (.int .i64 (1))], none⟩,
  ⟨(some 8), 41, .move, [.t 33], none⟩]))))))
 (.seq (.region [⟨(some 42), 42, .move, [.t 0], none⟩,
  ⟨(some 43), 43, (.fieldAddr 0), [.t 4], none⟩,
  ⟨(some 44), 44, (.load false 1), [.t 43], none⟩,
  ⟨(some 45), 45, (.call false 27), [.t 42, .t 44], none⟩,
  ⟨(some 41), 49, .move, [.t 45], none⟩,
  ⟨(some 46), 50, (.extract 0), [.t 41], none⟩,
  ⟨(some 47), 51, (.extract 1), [.t 41], none⟩,
  ⟨(some 9), 52, (.alloc [.int .i64 (0), .int .i64 (0), .int .i64 (0)]), [], none⟩,
  ⟨none, 56, (.store 3), [.t 9, .t 46], none⟩,
  ⟨(some 10), 57, .move, [.t 47], none⟩])
 (.seq (.region [⟨(some 49), 58, .move, [.t 7], none⟩,
  ⟨(some 50), 59, (.fieldAddr 0), [.t 4], none⟩,
  ⟨(some 51), 60, (.load false 1), [.t 50], none⟩,
  ⟨(some 52), 61, (.call false 27), [.t 49, .t 51], none⟩,
  ⟨(some 48), 65, .move, [.t 52], none⟩,
  ⟨(some 53), 66, (.extract 0), [.t 48], none⟩,
  ⟨(some 54), 67, (.extract 1), [.t 48], none⟩,
  ⟨(some 11), 68, (.alloc [.int .i64 (0), .int .i64 (0), .int .i64 (0)]), [], none⟩,
  ⟨none, 72, (.store 3), [.t 11, .t 53], none⟩,
  ⟨(some 12), 73, .move, [.t 54], none⟩])
 (.seq (.seq (.region [⟨(some 55), 74, .move, [.t 10], none⟩,
  ⟨(some 56), 75, (.bin .neq), [.t 55, .c (.int .i64 (0))], none⟩,
  ⟨(some 57), 76, .move, [.t 56], none⟩,
  ⟨(some 58), 77, .move, [.t 12], (some (57, false))⟩,
  ⟨(some 59), 78, (.bin .neq), [.t 58, .c (.int .i64 (0))], (some (57, false))⟩,
  ⟨(some 60), 79, .pick, [.t 57, .c (.bool true), .t 59], none⟩])
 (.cond (.t 60) (.seq (.region [⟨(some 61), 80, .move, [.t 10], none⟩,
  ⟨(some 62), 81, (.bin .eql), [.t 61, .c (.int .i64 (0))], none⟩,
  ⟨(some 63), 82, .move, [.t 12], none⟩,
  ⟨(some 64), 83, (.bin .eql), [.t 63, .c (.int .i64 (0))], none⟩,
  ⟨(some 65), 84, (.binB false), [.t 62, .t 64], none⟩,
  ⟨(some 6), 85, .move, [.t 65], none⟩])
 (.ret)) (.skip)))
 (.seq (.region [⟨(some 66), 86, (.load true 3), [.t 9], none⟩,
  ⟨(some 67), 87, (.load true 3), [.t 11], none⟩,
  ⟨(some 68), 88, (.eqAgg false [0, 0, 0]), [.t 66, .t 67], none⟩,
  ⟨(some 69), 89, .move, [.t 68], none⟩,
  ⟨(some 70), 90, (.load true 4), [.t 4], (some (69, true))⟩,
  ⟨(some 71), 91, .move, [.t 0], (some (69, true))⟩,
  ⟨(some 72), 92, (.load true 3), [.t 5], (some (69, true))⟩,
  ⟨(some 73), 93, (.call false 29), [.t 70, .t 71, .t 72], (some (69, true))⟩,
  ⟨(some 74), 97, (.load true 4), [.t 4], (some (69, true))⟩,
  ⟨(some 75), 98, .move, [.t 7], (some (69, true))⟩,
  ⟨(some 76), 99, (.load true 3), [.t 5], (some (69, true))⟩,
  ⟨(some 77), 100, (.call false 29), [.t 74, .t 75, .t 76], (some (69, true))⟩,
  ⟨(some 78), 104, (.bin .eql), [.t 73, .t 77], (some (69, true))⟩,
  ⟨(some 79), 105, .pick, [.t 69, .t 78, .c (.bool false)], none⟩,
  ⟨(some 6), 106, .move, [.t 79], none⟩])
 (.ret)))))))))
  [.tmp 6] 0 77
def f11.env : Env := [(26, f26.C), (27, f27.C), (29, f29.C)]
def f11.tree (a : (List (T_api_Job)) × T_api_Queue × T_ar3_i64) : Prop := ∃ c1 : Unit, True ∧ Br (!(lawTrue c1)) (∃ c4 : Unit, True ∧ ((lawTrue c4) = (lawTrue a)) ∧ True) (Br (decide ((300 : Int) < (a.1.length : Int))) (∃ c9 : Unit, True ∧ ((lawTrue c9) = (lawTrue a)) ∧ True) (Br (decide ((1000 : Int) < (a.2.1.1.size : Int))) (∃ c14 : Unit, True ∧ ((lawTrue c14) = (lawTrue a)) ∧ True) (Let (IntKind.i64.wrap ((a.1.length : Int) - (1 : Int))) (fun v17 : Int => ∃ (I19 : ((List (T_api_Job)) × Int) → Prop) (μ20 : ((List (T_api_Job)) × Int) → Nat), (∃ x18 : (List (T_api_Job)) × Int, (a.1.length = a.1.length) ∧ (∀ i, i < a.1.length → DEqs ((gl e_api_Job a.1) i) ((gl e_api_Job a.1) i)) ∧ (0 = x18.1.length) ∧ (∀ i, i < x18.1.length → DEqs (gnil i) ((gl e_api_Job x18.1) i)) ∧ (v17 = x18.2) ∧ (a.2.1.1 = a.2.1.1) ∧ (a.2.1.2.1 = a.2.1.2.1) ∧ (a.2.1.2.2.1 = a.2.1.2.2.1) ∧ (a.2.1.2.2.2 = a.2.1.2.2.2) ∧ (a.2.2.1 = a.2.2.1) ∧ (a.2.2.2.1 = a.2.2.2.1) ∧ (a.2.2.2.2 = a.2.2.2.2) ∧ (0 = x18.1.length) ∧ I19 x18) ∧ ∀ y21 : (List (T_api_Job)) × Int, I19 y21 → (Br (decide ((0 : Int) ≤ y21.2)) (Br (decide ((0 : Int) ≤ y21.2) && decide (y21.2 < (a.1.length : Int))) ((y21.1.length = y21.1.length ∧ room ((y21.1.length + 1) * 160)) ∧ (Let (IntKind.i64.wrap (y21.2 - (1 : Int))) (fun v25 : Int => ∃ x26 : (List (T_api_Job)) × Int, (a.1.length = a.1.length) ∧ (∀ i, i < a.1.length → DEqs ((gl e_api_Job a.1) i) ((gl e_api_Job a.1) i)) ∧ ((y21.1.length + 1) = x26.1.length) ∧ (∀ i, i < x26.1.length → DEqs ((gapp (gl e_api_Job y21.1) y21.1.length (fun _ => [.str (((at_ a.1 y21.2).1).1), .str (((at_ a.1 y21.2).1).2.1), .int .i64 (((at_ a.1 y21.2).1).2.2.1), .int .i64 ((((at_ a.1 y21.2).1).2.2.2.1).1), .int .i64 ((((at_ a.1 y21.2).1).2.2.2.1).2.1), .int .i64 ((((at_ a.1 y21.2).1).2.2.2.1).2.2), .slice .ro 2 ((((at_ a.1 y21.2).1).2.2.2.2.1).length) (gl e_api_Label (((at_ a.1 y21.2).1).2.2.2.2.1)), .str (((at_ a.1 y21.2).1).2.2.2.2.2.1), .str (((at_ a.1 y21.2).1).2.2.2.2.2.2.1), .int .i64 (((at_ a.1 y21.2).1).2.2.2.2.2.2.2), .int .i64 ((at_ a.1 y21.2).2.1), .str ((at_ a.1 y21.2).2.2.1), .int .i64 ((at_ a.1 y21.2).2.2.2)])) i) ((gl e_api_Job x26.1) i)) ∧ (v25 = x26.2) ∧ (a.2.1.1 = a.2.1.1) ∧ (a.2.1.2.1 = a.2.1.2.1) ∧ (a.2.1.2.2.1 = a.2.1.2.2.1) ∧ (a.2.1.2.2.2 = a.2.1.2.2.2) ∧ (a.2.2.1 = a.2.2.1) ∧ (a.2.2.2.1 = a.2.2.2.1) ∧ (a.2.2.2.2 = a.2.2.2.2) ∧ ((y21.1.length + 1) = x26.1.length) ∧ I19 x26 ∧ μ20 x26 < μ20 y21))) False) (∃ c32 : (List (T_api_Job)) × ByteArray, (a.1.length = c32.1.length) ∧ (∀ i, i < c32.1.length → DEqs ((gl e_api_Job a.1) i) ((gl e_api_Job c32.1) i)) ∧ (a.2.1.1 = c32.2) ∧ (used_pre c32) ∧ ∃ c33 : (List (T_api_Job)) × ByteArray, (y21.1.length = c33.1.length) ∧ (∀ i, i < c33.1.length → DEqs ((gl e_api_Job y21.1) i) ((gl e_api_Job c33.1) i)) ∧ (a.2.1.1 = c33.2) ∧ (used_pre c33) ∧ Br (((usedR c32).2) != (0 : Int)) ((((((usedR c32).2) == (0 : Int)) == (((usedR c33).2) == (0 : Int))) = (lawTrue a)) ∧ True) (Br (((usedR c33).2) != (0 : Int)) ((((((usedR c32).2) == (0 : Int)) == (((usedR c33).2) == (0 : Int))) = (lawTrue a)) ∧ True) (Br (((((usedR c32).1).1) == (((usedR c33).1).1)) && (((((usedR c32).1).2.1) == (((usedR c33).1).2.1)) && ((((usedR c32).1).2.2) == (((usedR c33).1).2.2)))) (∃ c42 : T_api_Queue × (List (T_api_Job)) × T_ar3_i64, (a.2.1.1 = c42.1.1) ∧ (a.2.1.2.1 = c42.1.2.1) ∧ (a.2.1.2.2.1 = c42.1.2.2.1) ∧ (a.2.1.2.2.2 = c42.1.2.2.2) ∧ (a.1.length = c42.2.1.length) ∧ (∀ i, i < c42.2.1.length → DEqs ((gl e_api_Job a.1) i) ((gl e_api_Job c42.2.1) i)) ∧ (a.2.2.1 = c42.2.2.1) ∧ (a.2.2.2.1 = c42.2.2.2.1) ∧ (a.2.2.2.2 = c42.2.2.2.2) ∧ (admit_pre c42) ∧ ∃ c43 : T_api_Queue × (List (T_api_Job)) × T_ar3_i64, (a.2.1.1 = c43.1.1) ∧ (a.2.1.2.1 = c43.1.2.1) ∧ (a.2.1.2.2.1 = c43.1.2.2.1) ∧ (a.2.1.2.2.2 = c43.1.2.2.2) ∧ (y21.1.length = c43.2.1.length) ∧ (∀ i, i < c43.2.1.length → DEqs ((gl e_api_Job y21.1) i) ((gl e_api_Job c43.2.1) i)) ∧ (a.2.2.1 = c43.2.2.1) ∧ (a.2.2.2.1 = c43.2.2.2.1) ∧ (a.2.2.2.2 = c43.2.2.2.2) ∧ (admit_pre c43) ∧ (((admitR c42) == (admitR c43)) = (lawTrue a)) ∧ True) ((false = (lawTrue a)) ∧ True)))))))))
def f11.vc (a : (List (T_api_Job)) × T_api_Queue × T_ar3_i64) : Prop := ((¬ ((lawTrue ()) = true) → ((lawTrue ()) = lawTrue a)) ∧ (¬ (¬ ((lawTrue ()) = true)) → (((300 : Int) < (a.1.length : Int) → ((lawTrue ()) = lawTrue a)) ∧ (¬ ((300 : Int) < (a.1.length : Int)) → (((1000 : Int) < (a.2.1.1.size : Int) → ((lawTrue ()) = lawTrue a)) ∧ (¬ ((1000 : Int) < (a.2.1.1.size : Int)) → (-9223372036854775808 ≤ ((a.1.length : Int) - (1 : Int)) ∧ ((a.1.length : Int) - (1 : Int)) ≤ 9223372036854775807 ∧ (∃ (I19 : ((List (T_api_Job)) × Int) → Prop) (μ20 : ((List (T_api_Job)) × Int) → Nat), I19 ([], ((a.1.length : Int) - (1 : Int))) ∧ ∀ y21 : (List (T_api_Job)) × Int, I19 y21 → (((0 : Int) ≤ y21.2 → ((0 : Int) ≤ y21.2 ∧ y21.2 < (a.1.length : Int) ∧ (y21.1.length + 1 ≤ 1073741824 ∧ (-9223372036854775808 ≤ (y21.2 - (1 : Int)) ∧ (y21.2 - (1 : Int)) ≤ 9223372036854775807 ∧ (I19 (y21.1 ++ ([(((at_ a.1 y21.2).1), (at_ a.1 y21.2).2.1, (at_ a.1 y21.2).2.2.1, (at_ a.1 y21.2).2.2.2)]), (y21.2 - (1 : Int))) ∧ μ20 (y21.1 ++ ([(((at_ a.1 y21.2).1), (at_ a.1 y21.2).2.1, (at_ a.1 y21.2).2.2.1, (at_ a.1 y21.2).2.2.2)]), (y21.2 - (1 : Int))) < μ20 y21))))) ∧ (¬ ((0 : Int) ≤ y21.2) → (used_pre (a.1, a.2.1.1) ∧ (used_pre (y21.1, a.2.1.1) ∧ ((¬ ((usedR (a.1, a.2.1.1)).2) = (0 : Int) → (((((usedR (a.1, a.2.1.1)).2) == (0 : Int)) == (((usedR (y21.1, a.2.1.1)).2) == (0 : Int))) = lawTrue a)) ∧ (¬ (¬ ((usedR (a.1, a.2.1.1)).2) = (0 : Int)) → ((¬ ((usedR (y21.1, a.2.1.1)).2) = (0 : Int) → (((((usedR (a.1, a.2.1.1)).2) == (0 : Int)) == (((usedR (y21.1, a.2.1.1)).2) == (0 : Int))) = lawTrue a)) ∧ (¬ (¬ ((usedR (y21.1, a.2.1.1)).2) = (0 : Int)) → (((((usedR (a.1, a.2.1.1)).1).1) = (((usedR (y21.1, a.2.1.1)).1).1) ∧ (((usedR (a.1, a.2.1.1)).1).2.1) = (((usedR (y21.1, a.2.1.1)).1).2.1) ∧ (((usedR (a.1, a.2.1.1)).1).2.2) = (((usedR (y21.1, a.2.1.1)).1).2.2) → (admit_pre (a.2.1, a.1, a.2.2) ∧ (admit_pre (a.2.1, y21.1, a.2.2) ∧ (((admitR (a.2.1, a.1, a.2.2)) == (admitR (a.2.1, y21.1, a.2.2))) = lawTrue a)))) ∧ (¬ ((((usedR (a.1, a.2.1.1)).1).1) = (((usedR (y21.1, a.2.1.1)).1).1) ∧ (((usedR (a.1, a.2.1.1)).1).2.1) = (((usedR (y21.1, a.2.1.1)).1).2.1) ∧ (((usedR (a.1, a.2.1.1)).1).2.2) = (((usedR (y21.1, a.2.1.1)).1).2.2)) → (false = lawTrue a)))))))))))))))))))
set_option maxRecDepth 100000 in
set_option maxHeartbeats 2000000 in
theorem f11.of (a : (List (T_api_Job)) × T_api_Queue × T_ar3_i64) (h : f11.vc a) : f11.tree a := ⟨(), ⟨trivial, br h (Cnd.not Cnd.b) (fun h2 k68 => ⟨(), ⟨trivial, ⟨k68, trivial⟩⟩⟩) (fun h3 k69 => br k69 Cnd.dec (fun h7 k66 => ⟨(), ⟨trivial, ⟨k66, trivial⟩⟩⟩) (fun h8 k67 => br k67 Cnd.dec (fun h12 k64 => ⟨(), ⟨trivial, ⟨k64, trivial⟩⟩⟩) (fun h13 k65 => wrapK.i64 k65 (fun h61 h62 k63 => Exists.elim k63 (fun I19 h58_ => Exists.elim h58_ (fun μ20 h58 => ⟨I19, μ20, ⟨([], ((a.1.length : Int) - (1 : Int))), slK (Rds.self (enc := e_api_Job)) (slK (Rds.nil (enc := e_api_Job)) (⟨rfl, ⟨rfl, ⟨rfl, ⟨rfl, ⟨rfl, ⟨rfl, ⟨rfl, ⟨rfl, ⟨(numR gnil (Rds.nil (enc := e_api_Job))), h58.1⟩⟩⟩⟩⟩⟩⟩⟩⟩))⟩, fun y21 h60 => br (h58.2 y21 h60) Cnd.dec (fun h22 k56 => chk k56.2.2 Cnd.ix ⟨k56.1, k56.2.1⟩ (fun h24 k31 => ⟨⟨rfl, (room_of k31.1 (by decide))⟩, wrapK.i64 k31.2 (fun h28 h29 k30 => ⟨(y21.1 ++ ([(((at_ a.1 y21.2).1), (at_ a.1 y21.2).2.1, (at_ a.1 y21.2).2.2.1, (at_ a.1 y21.2).2.2.2)]), (y21.2 - (1 : Int))), slK (Rds.self (enc := e_api_Job)) (slK (Rds.app (enc := e_api_Job) (Rds.self (enc := e_api_Job)) (Rds.one (enc := e_api_Job) (DEqs.refl _))) (⟨rfl, ⟨rfl, ⟨rfl, ⟨rfl, ⟨rfl, ⟨rfl, ⟨rfl, ⟨rfl, ⟨(numR (gapp (gl e_api_Job y21.1) y21.1.length (fun _ => [.str (((at_ a.1 y21.2).1).1), .str (((at_ a.1 y21.2).1).2.1), .int .i64 (((at_ a.1 y21.2).1).2.2.1), .int .i64 ((((at_ a.1 y21.2).1).2.2.2.1).1), .int .i64 ((((at_ a.1 y21.2).1).2.2.2.1).2.1), .int .i64 ((((at_ a.1 y21.2).1).2.2.2.1).2.2), .slice .ro 2 ((((at_ a.1 y21.2).1).2.2.2.2.1).length) (gl e_api_Label (((at_ a.1 y21.2).1).2.2.2.2.1)), .str (((at_ a.1 y21.2).1).2.2.2.2.2.1), .str (((at_ a.1 y21.2).1).2.2.2.2.2.2.1), .int .i64 (((at_ a.1 y21.2).1).2.2.2.2.2.2.2), .int .i64 ((at_ a.1 y21.2).2.1), .str ((at_ a.1 y21.2).2.2.1), .int .i64 ((at_ a.1 y21.2).2.2.2)])) (Rds.app (enc := e_api_Job) (Rds.self (enc := e_api_Job)) (Rds.one (enc := e_api_Job) (DEqs.refl _)))), k30⟩⟩⟩⟩⟩⟩⟩⟩⟩))⟩)⟩)) (fun h23 k57 => ⟨(a.1, a.2.1.1), slK (Rds.self (enc := e_api_Job)) (⟨rfl, ⟨k57.1, ⟨(y21.1, a.2.1.1), slK (Rds.self (enc := e_api_Job)) (⟨rfl, ⟨k57.2.1, br k57.2.2 Cnd.ne (fun h34 k52 => ⟨k52, trivial⟩) (fun h35 k53 => br k53 Cnd.ne (fun h37 k50 => ⟨k50, trivial⟩) (fun h38 k51 => br k51 (Cnd.and Cnd.eq (Cnd.and Cnd.eq Cnd.eq)) (fun h40 k48 => ⟨(a.2.1, a.1, a.2.2), ⟨rfl, ⟨rfl, ⟨rfl, ⟨rfl, slK (Rds.self (enc := e_api_Job)) (⟨rfl, ⟨rfl, ⟨rfl, ⟨k48.1, ⟨(a.2.1, y21.1, a.2.2), ⟨rfl, ⟨rfl, ⟨rfl, ⟨rfl, slK (Rds.self (enc := e_api_Job)) (⟨rfl, ⟨rfl, ⟨rfl, ⟨k48.2.1, ⟨k48.2.2, trivial⟩⟩⟩⟩⟩)⟩⟩⟩⟩⟩⟩⟩⟩⟩)⟩⟩⟩⟩⟩) (fun h41 k49 => ⟨k49, trivial⟩)))⟩⟩)⟩⟩⟩)⟩)⟩))))))⟩⟩
theorem f11.eq (a : (List (T_api_Job)) × T_api_Queue × T_ar3_i64) : (f11.af a).gives f11.env (f11.args a) (f11.blks a) (f11.res a) (f11.blks' a) = f11.tree a := by kernel_rfl
end Go.Abs

/- The laws of layer 10. -/
namespace Go.Abs
open Go

theorem beq_self_not2 (b : Bool) : ¬ ((!(b == b)) = true) := by cases b <;> simp

theorem f8.ok (a : List TJob × TQueue × TRes × ByteArray) (_ : f8.lpre a) : f8.vc a := by
  obtain ⟨l, q, n, s⟩ := a
  refine ⟨fun _ => rfl, fun _ => ⟨fun _ => rfl, fun h1 => ⟨fun _ => rfl, fun h2 => ?_⟩⟩⟩
  simp only at h1 h2
  have u : used_pre (l, q.1) := by unfold used_pre L20; simp only; omega
  have d : admit_pre (q, l, n) := ⟨by unfold queue_pre name_pre; simp only; omega, by unfold L20; simp only; omega⟩
  have f : find_pre (l, s) := by unfold find_pre L20; simp only; omega
  refine ⟨u, u, fun c => absurd ⟨rfl, rfl, rfl⟩ c, fun _ => ⟨fun c => absurd rfl c, fun _ => ⟨d, d, fun c => absurd rfl c, fun _ => ⟨f, f, fun c => absurd rfl c, fun _ => ?_⟩⟩⟩⟩
  refine ⟨fun y => 0 ≤ y ∧ y ≤ (l.length : Int), fun y => l.length - y.toNat, ⟨by omega, by omega⟩, fun y hy => ?_⟩
  obtain ⟨g0, g1⟩ := hy
  simp only
  refine ⟨fun hlt => ⟨g0, hlt, g0, hlt, fun c => ?_, fun c => ⟨by omega, by omega, ⟨by omega, by omega⟩, by omega⟩⟩, fun _ => rfl⟩
  have e : waitsR ((at_ l y).1, (at_ l y).2.1, (at_ l y).2.2.1, (at_ l y).2.2.2) = ((at_ l y).2.2.1.toList == ByteArray.empty.toList) := beqT.symm
  rw [e] at c
  exact absurd c (beq_self_not2 _)

theorem sumR_app (l : List TRes) (x : TRes) (h : (sumR l).2 = 0) : sumR (l ++ [x]) = if (addR ((sumR l).1, x)).2 = 0 then ((addR ((sumR l).1, x)).1, 0) else (zeroR, (addR ((sumR l).1, x)).2) := by
  have key : ∀ (l : List TRes) (out : TRes), (sumFrom out l).2 = 0 → sumFrom out (l ++ [x]) = if (addR ((sumFrom out l).1, x)).2 = 0 then ((addR ((sumFrom out l).1, x)).1, 0) else (zeroR, (addR ((sumFrom out l).1, x)).2) := by
    intro l
    induction l with
    | nil => intro out _; rfl
    | cons a l ih =>
      intro out h
      by_cases h1 : (addR (out, a)).2 = 0
      · have e : ∀ m, sumFrom out (a :: m) = sumFrom (addR (out, a)).1 m := fun m => by rw [sumFrom, if_pos h1]
        rw [e] at h
        rw [List.cons_append, e, e, ih _ h]
      · rw [sumFrom, if_neg h1] at h
        exact absurd h h1
  exact key l zeroR h

theorem f9.ok (a : TQueue × List TRes) (_ : f9.lpre a) : f9.vc a := by
  obtain ⟨q, l⟩ := a
  refine ⟨fun _ => rfl, fun _ => ⟨fun _ => rfl, fun h1 => ⟨fun _ => rfl, fun h2 => ?_⟩⟩⟩
  simp only at h1 h2
  refine ⟨fun y => 0 ≤ y.2.1 ∧ y.2.1 ≤ (l.length : Int) ∧ y.2.2 = q ∧ y.1.length ≤ y.2.1.toNat ∧ (usedR (y.1, q.1)).2 = 0, fun y => l.length - y.2.1.toNat, ⟨by simp only; omega, by simp only; omega, rfl, Nat.le_refl _, rfl⟩, fun y hy => ?_⟩
  obtain ⟨jobs, i, q'⟩ := y
  obtain ⟨g0, g1, rfl, g3, g4⟩ := hy
  simp only at g0 g1 g3 g4 h2 ⊢
  refine ⟨fun hlt => ?_, fun _ => rfl⟩
  have d : admit_pre (q', jobs, at_ l i) := ⟨by unfold queue_pre name_pre; simp only; omega, by unfold L20; simp only; omega⟩
  have e1 : ∀ (t : ByteArray), usedR (([] ++ jobs) ++ [(((t, q'.1, (0 : Int), at_ l i, [], ByteArray.empty, ByteArray.empty, (0 : Int)), (0 : Int), ByteArray.empty, (0 : Int)) : TJob)], q'.1) =
      if (addR ((usedR (jobs, q'.1)).1, at_ l i)).2 = 0 then ((addR ((usedR (jobs, q'.1)).1, at_ l i)).1, 0) else (zeroR, (addR ((usedR (jobs, q'.1)).1, at_ l i)).2) := fun t => by
    have e : useL (([] ++ jobs) ++ [(((t, q'.1, (0 : Int), at_ l i, [], ByteArray.empty, ByteArray.empty, (0 : Int)), (0 : Int), ByteArray.empty, (0 : Int)) : TJob)]) q'.1 = useL jobs q'.1 ++ [at_ l i] := by
      rw [List.nil_append, useL_app, useL_yes (j := ((t, q'.1, (0 : Int), at_ l i, [], ByteArray.empty, ByteArray.empty, (0 : Int)), (0 : Int), ByteArray.empty, (0 : Int))) rfl]
      rfl
    unfold usedR
    simp only
    rw [e]
    exact sumR_app _ _ g4
  have e2 : ∀ (t : ByteArray), usedR (jobs ++ [(((t, q'.1, (0 : Int), at_ l i, [], ByteArray.empty, ByteArray.empty, (0 : Int)), (0 : Int), ByteArray.empty, (0 : Int)) : TJob)], q'.1) = usedR (([] ++ jobs) ++ [(((t, q'.1, (0 : Int), at_ l i, [], ByteArray.empty, ByteArray.empty, (0 : Int)), (0 : Int), ByteArray.empty, (0 : Int)) : TJob)], q'.1) := fun t => by rw [List.nil_append]
  have hr : rightB (usedR (jobs, q'.1)).1 = true := sumR_right (l := useL jobs q'.1) g4
  have next : -9223372036854775808 ≤ i + 1 ∧ i + 1 ≤ 9223372036854775807 ∧ (0 ≤ i + 1 ∧ i + 1 ≤ (l.length : Int) ∧ True ∧ jobs.length ≤ (i + 1).toNat ∧ (usedR (jobs, q'.1)).2 = 0) ∧ l.length - (i + 1).toNat < l.length - i.toNat := ⟨by omega, by omega, ⟨by omega, by omega, trivial, by omega, g4⟩, by omega⟩
  refine ⟨g0, hlt, d, g0, hlt, by omega, by omega, by unfold used_pre L20; simp only [List.length_append, List.length_cons, List.length_nil]; omega, fun c => ?_, fun c => ⟨fun c1 => ⟨fun c2 => ⟨fun c3 => ?_, fun _ => next⟩, fun _ => next⟩, fun c1 => ⟨fun c2 => ?_, fun _ => next⟩⟩⟩
  · -- admitted
    have hq : queueB q' = true ∧ rightB (at_ l i) = true := by
      refine Classical.byContradiction fun hh => ?_
      unfold admitR at c
      simp only at c
      rw [if_pos hh] at c
      cases c
    have hf : fitsR (addV (usedR (jobs, q'.1)).1 (at_ l i), q'.2) = true := by
      refine Classical.byContradiction fun hh => ?_
      unfold admitR at c
      simp only at c
      rw [if_neg (not_not_intro hq), if_neg (not_not_intro g4), if_neg hh] at c
      cases c
    have h0 : (addR ((usedR (jobs, q'.1)).1, at_ l i)).2 = 0 := both_ok.2 ⟨hr, hq.2, fits_right hr hq.2 (queueB_iff.1 hq.1).2 hf⟩
    rw [e1, if_pos h0, add_val h0]
    simp only
    refine ⟨fun hh => absurd trivial hh, fun _ => ⟨fun hh => absurd hf hh, fun _ => ⟨by omega, by omega, by omega, ⟨by omega, by omega, trivial, by simp only [List.length_append, List.length_cons, List.length_nil]; omega, ?_⟩, by omega⟩⟩⟩
    rw [e2, e1, if_pos h0]
  · -- it isn't borne, and would be
    exfalso
    rw [e1] at c2 c3
    have h0 : (addR ((usedR (jobs, q'.1)).1, at_ l i)).2 = 0 := by
      refine Classical.byContradiction fun hh => ?_
      rw [if_neg hh] at c2
      exact hh c2
    rw [if_pos h0, add_val h0] at c3
    simp only at c3
    unfold admitR at c1
    simp only at c1
    split at c1
    · cases c1
    · rw [if_neg (not_not_intro g4)] at c1
      first | exact absurd c1 (by decide) | (rw [if_pos c3] at c1; exact absurd c1 (by decide))
  · -- some other error
    exfalso
    unfold admitR at c c1 c2
    simp only at c c1 c2
    split at c2
    · exact c2 rfl
    · rename_i hq
      rw [if_neg hq, if_neg (not_not_intro g4)] at c c1
      split at c
      · exact c rfl
      · rename_i hf
        rw [if_neg hf] at c1
        exact c1 rfl

theorem f10.ok (a : List TJob × TQueue × TRes × ByteArray) (_ : f10.lpre a) : f10.vc a := by
  obtain ⟨l, q, n, s⟩ := a
  refine ⟨fun _ => rfl, fun _ => ⟨fun _ => rfl, fun h1 => ⟨fun _ => rfl, fun h2 => ?_⟩⟩⟩
  simp only at h1 h2
  refine ⟨fun y => 0 ≤ y.2.1 ∧ y.2.1 ≤ (l.length : Int) ∧ y.2.2 = (q.1, q.2.1, q.2.2.1, q.2.2.2, n.1, n.2.1, n.2.2) ∧ y.1.length ≤ y.2.1.toNat ∧ useL y.1 q.1 ++ useL (l.drop y.2.1.toNat) q.1 = useL l q.1, fun y => l.length - y.2.1.toNat, ⟨by simp only; omega, by simp only; omega, rfl, Nat.le_refl _, rfl⟩, fun y hy => ?_⟩
  obtain ⟨own, i, r⟩ := y
  obtain ⟨g0, g1, g2, g3, g4⟩ := hy
  simp only at g0 g1 g2 g3 g4
  subst g2
  simp only
  refine ⟨fun hlt => ⟨g0, hlt, fun c => ⟨g0, hlt, by omega, by omega, by omega, ⟨by omega, by omega, trivial, by simp only [List.length_append, List.length_cons, List.length_nil]; omega, ?_⟩, by omega⟩, fun c => ⟨by omega, by omega, ⟨by omega, by omega, trivial, by omega, ?_⟩, by omega⟩⟩, fun hge => ?_⟩
  · rw [← g4, drop_at g0 hlt, useL_yes c, useL_app, useL_yes (j := ((at_ l i).1, (at_ l i).2.1, s, (at_ l i).2.2.2)) c, List.append_assoc]
    rfl
  · rw [← g4, drop_at g0 hlt, useL_no c]
  · rw [List.drop_of_length_le (by omega)] at g4
    have g4 : useL own q.1 = useL l q.1 := by rw [← g4]; exact (List.append_nil _).symm
    have eu : usedR (own, q.1) = usedR (l, q.1) := by unfold usedR; simp only; rw [g4]
    have ea : admitR (q, own, n) = admitR (q, l, n) := by unfold admitR; simp only; rw [eu]
    refine ⟨by unfold used_pre L20; simp only; omega, by unfold used_pre L20; simp only; omega, ?_⟩
    rw [eu]
    refine ⟨fun _ => ⟨fun _ => ⟨⟨by unfold queue_pre name_pre; simp only; omega, by unfold L20; simp only; omega⟩, ⟨by unfold queue_pre name_pre; simp only; omega, by unfold L20; simp only; omega⟩, ?_⟩, fun c => absurd rfl c⟩, fun c => absurd ⟨rfl, rfl, rfl⟩ c⟩
    show (admitR (q, l, n) == admitR (q, own, n)) = true
    rw [ea, beq_self_eq_true]

theorem drop_rev {α : Type} [Inhabited α] {l : List α} {i : Int} (h0 : 0 ≤ i) (h : i < (l.length : Int)) : (l.drop (i + 1).toNat).reverse ++ [at_ l i] = (l.drop i.toNat).reverse := by
  rw [drop_at h0 h, List.reverse_cons]

theorem f11.ok (a : List TJob × TQueue × TRes) (_ : f11.lpre a) : f11.vc a := by
  obtain ⟨l, q, n⟩ := a
  refine ⟨fun _ => rfl, fun _ => ⟨fun _ => rfl, fun h1 => ⟨fun _ => rfl, fun h2 => ?_⟩⟩⟩
  simp only at h1 h2
  refine ⟨by simp only; omega, by simp only; omega, fun y => -1 ≤ y.2 ∧ y.2 < (l.length : Int) ∧ y.1 = (l.drop (y.2 + 1).toNat).reverse, fun y => (y.2 + 1).toNat, ⟨by simp only; omega, by simp only; omega, ?_⟩, fun y hy => ?_⟩
  · simp only
    rw [List.drop_of_length_le (by omega)]
    rfl
  · obtain ⟨t, i⟩ := y
    obtain ⟨g0, g1, g2⟩ := hy
    simp only at g0 g1 g2 ⊢
    have hl : t.length ≤ l.length := by rw [g2, List.length_reverse, List.length_drop]; omega
    refine ⟨fun hge => ⟨hge, g1, by omega, by omega, by omega, ⟨by omega, by omega, ?_⟩, by omega⟩, fun hlt => ?_⟩
    · rw [show i - 1 + 1 = i from by omega, ← drop_rev hge g1, g2]
    · have g2 : t = l.reverse := by rw [g2, show (i + 1).toNat = 0 from by omega, List.drop_zero]
      have e1 : useL t q.1 = (useL l q.1).reverse := by rw [g2, useL_rev]
      have e2 : (usedR (t, q.1)).2 = 0 ↔ (usedR (l, q.1)).2 = 0 := by
        unfold usedR
        simp only
        rw [e1, sumR_iff, sumR_iff, sumV_rev]
        simp only [List.mem_reverse]
      have e3 : (usedR (l, q.1)).2 = 0 → usedR (t, q.1) = usedR (l, q.1) := fun h => by
        have h' := e2.2 h
        have a1 : (usedR (l, q.1)).1 = sumV (useL l q.1) := sumR_val h
        have a2 : (usedR (t, q.1)).1 = sumV (useL t q.1) := sumR_val h'
        rw [e1, sumV_rev, ← a1] at a2
        exact Prod.ext a2 (h'.trans h.symm)
      have bq : ((((usedR (l, q.1)).2) == (0 : Int)) == (((usedR (t, q.1)).2) == (0 : Int))) = true := by
        rw [beq_iff_eq, Bool.eq_iff_iff, beq_iff_eq, beq_iff_eq, e2]
      refine ⟨by unfold used_pre L20; simp only; omega, by unfold used_pre L20; simp only; omega, fun _ => bq, fun c => ⟨fun _ => bq, fun _ => ?_⟩⟩
      have c := Classical.not_not.1 c
      rw [e3 c]
      refine ⟨fun _ => ⟨⟨by unfold queue_pre name_pre; simp only; omega, by unfold L20; simp only; omega⟩, ⟨by unfold queue_pre name_pre; simp only; omega, by unfold L20; simp only; omega⟩, ?_⟩, fun c => absurd ⟨rfl, rfl, rfl⟩ c⟩
      have ea : admitR (q, t, n) = admitR (q, l, n) := by unfold admitR; simp only; rw [e3 c]
      show (admitR (q, l, n) == admitR (q, t, n)) = true
      rw [ea, beq_self_eq_true]

end Go.Abs
