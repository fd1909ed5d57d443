/- Functions, and what the code asks of them: POperLaw. -/
import Derived.KernelRfl
import Derived.Test.YtabnaedcnfkmiadBd8fd2cd1
import Derived.Test.YtabnaedcnfkmiadB52acd6fd
import Derived.Test.YtabnaedcnfkmiadB9d8ef233
import Derived.Test.YtabnaedcnfkmiadB39145e0b
import Derived.Test.YtabnaedcnfkmiadB642c4290
import Derived.Test.YtabnaedcnfkmiadBbb4ede3d
import Derived.Test.YtabnaedcnfkmiadB67e51113
import Derived.Test.YtabnaedcnfkmiadBf591c1e4
import Derived.Test.YtabnaedcnfkmiadB79829176
import Derived.Test.YtabnaedcnfkmiadB8ae3107f
import Derived.Test.YtabnaedcnfkmiadB79dfe19b
set_option linter.unusedVariables false
set_option linter.unusedSimpArgs false
-- interregnum/interregnumref06.Decode
namespace Go.Abs
open Go
end Go.Abs

/- interregnum/interregnumref06.Decode -/
namespace Go.Abs
open Go
set_option linter.unusedVariables false
end Go.Abs

-- interregnum/interregnumlaw06.OperRights
namespace Go.Abs
open Go
end Go.Abs

/- interregnum/interregnumlaw06.OperRights -/
namespace Go.Abs
open Go
set_option linter.unusedVariables false
end Go.Abs

-- interregnum/interregnumlaw06.OperAnswers
namespace Go.Abs
open Go
end Go.Abs

/- interregnum/interregnumlaw06.OperAnswers -/
namespace Go.Abs
open Go
set_option linter.unusedVariables false
end Go.Abs

-- interregnum/interregnumlaw06.OperDecodes
namespace Go.Abs
open Go
end Go.Abs

/- interregnum/interregnumlaw06.OperDecodes -/
namespace Go.Abs
open Go
set_option linter.unusedVariables false
end Go.Abs

-- interregnum/interregnumlaw06.OperBack
namespace Go.Abs
open Go
def f338.wf (a : T_api_Op × Int × UInt8) : Prop := k_api_Op.ok a.1 ∧ k_u64.ok a.2.1 ∧ k_byte.ok a.2.2
def f338.size (a : T_api_Op × Int × UInt8) : Nat := k_api_Op.size a.1 + (k_u64.size a.2.1 + (k_byte.size a.2.2))
def f338.lpre (a : T_api_Op × Int × UInt8) : Prop := f338.wf a ∧ f338.size a ≤ 1048576
def f338.args (a : T_api_Op × Int × UInt8) : List D := [.agg [.int .i64 a.1.1, .str a.1.2.1.1, .int .i64 a.1.2.1.2.1.1, .int .i64 a.1.2.1.2.1.2.1, .int .i64 a.1.2.1.2.1.2.2, .slice .ro 2 a.1.2.1.2.2.length (gl e_api_Label a.1.2.1.2.2), .str a.1.2.2.1.1, .int .i64 a.1.2.2.1.2.1, .int .i64 a.1.2.2.1.2.2.1, .int .i64 a.1.2.2.1.2.2.2, .str a.1.2.2.2.1.1, .str a.1.2.2.2.1.2.1, .int .i64 a.1.2.2.2.1.2.2.1, .int .i64 a.1.2.2.2.1.2.2.2.1.1, .int .i64 a.1.2.2.2.1.2.2.2.1.2.1, .int .i64 a.1.2.2.2.1.2.2.2.1.2.2, .slice .ro 2 a.1.2.2.2.1.2.2.2.2.1.length (gl e_api_Label a.1.2.2.2.1.2.2.2.2.1), .str a.1.2.2.2.1.2.2.2.2.2.1, .str a.1.2.2.2.1.2.2.2.2.2.2.1, .int .i64 a.1.2.2.2.1.2.2.2.2.2.2.2, .str a.1.2.2.2.2], .int .u64 a.2.1, .int .u8 (UInt8.toNat a.2.2 : Int)]
def f338.blks (a : T_api_Op × Int × UInt8) : List (List D) := []
def f338.res (a : T_api_Op × Int × UInt8) : List D := [.bool (lawTrue a)]
def f338.blks' (a : T_api_Op × Int × UInt8) : List (List D) := []
def f338.C : Contract := FnC f338.args f338.blks (fun a => f338.lpre a) f338.res f338.blks'
end Go.Abs

/- interregnum/interregnumlaw06.OperBack -/
namespace Go.Abs
open Go
set_option linter.unusedVariables false
def f338.kills (a : T_api_Op × Int × UInt8) : List Hint := []
def f338.cuts (a : T_api_Op × Int × UInt8) : List (Nat × Σ β : Type, β → Tm) := []
def f338.af (a : T_api_Op × Int × UInt8) : AF := AF.mk (.seq (.region [⟨(some 3), 0, .box, [.t 0], none⟩,
  ⟨(some 6), 1, .move, [.c (.bool false)], none⟩])
 (.seq (.seq (.region [⟨(some 15), 2, (.call false 275), [], none⟩,
  ⟨(some 16), 6, (.un .not), [.t 15], none⟩,
  ⟨(some 17), 7, .move, [.t 16], none⟩,
  ⟨(some 18), 8, (.load true 21), [.t 3], (some (17, false))⟩,
  ⟨(some 19), 9, (.call false 276), [.t 18], (some (17, false))⟩,
  ⟨(some 20), 13, (.un .not), [.t 19], (some (17, false))⟩,
  ⟨(some 21), 14, .pick, [.t 17, .c (.bool true), .t 20], none⟩])
 (.cond (.t 21) (.seq (.region [⟨(some 22), 15, (.call false 275), [], none⟩,
  ⟨(some 6), 19, .move, [.t 22], none⟩])
 (.ret)) (.skip)))
 (.seq (.region [⟨(some 24), 20, (.load true 21), [.t 3], none⟩,
  ⟨(some 25), 21, (.call false 277), [.t 24], none⟩,
  ⟨(some 23), 25, .move, [.t 25], none⟩,
  ⟨(some 26), 26, (.extract 0), [.t 23], none⟩,
  ⟨(some 27), 27, (.extract 1), [.t 23], none⟩,
  ⟨(some 7), 28, .move, [.t 26], none⟩,
  ⟨(some 8), 29, .move, [.t 27], none⟩])
 (.seq (.seq (.region [⟨(some 28), 30, .move, [.t 8], none⟩,
  ⟨(some 29), 31, (.bin .neq), [.t 28, .c (.int .i64 (0))], none⟩])
 (.cond (.t 29) (.seq (.region [⟨(some 30), 32, .move, [.t 7], none⟩,
  ⟨(some 31), 33, (.len false), [.t 30], none⟩,
  ⟨(some 32), 34, (.bin .eql), [.t 31, .c (.int .i64 (0))], none⟩,
  ⟨(some 33), 35, .move, [.t 32], none⟩,
  ⟨(some 34), 36, (.load true 21), [.t 3], (some (33, true))⟩,
  ⟨(some 35), 37, (.call false 152), [.t 34], (some (33, true))⟩,
  ⟨(some 36), 41, (.un .not), [.t 35], (some (33, true))⟩,
  ⟨(some 37), 42, .pick, [.t 33, .t 36, .c (.bool false)], none⟩,
  ⟨(some 6), 43, .move, [.t 37], none⟩])
 (.ret)) (.skip)))
 (.seq (.region [⟨(some 39), 44, .move, [.t 7], none⟩,
  ⟨(some 40), 45, (.call false 349), [.t 39], none⟩,
  ⟨(some 38), 49, .move, [.t 40], none⟩,
  ⟨(some 41), 50, (.extract 0), [.t 38], none⟩,
  ⟨(some 42), 51, (.extract 1), [.t 38], none⟩,
  ⟨(some 9), 52, (.alloc [.int .i64 (0), .str ByteArray.empty, .int .i64 (0), .int .i64 (0), .int .i64 (0), .slice (.own 0) 2 0 gnil, .str ByteArray.empty, .int .i64 (0), .int .i64 (0), .int .i64 (0), .str ByteArray.empty, .str ByteArray.empty, .int .i64 (0), .int .i64 (0), .int .i64 (0), .int .i64 (0), .slice (.own 0) 2 0 gnil, .str ByteArray.empty, .str ByteArray.empty, .int .i64 (0), .str ByteArray.empty]), [], none⟩,
  ⟨none, 74, (.store 21), [.t 9, .t 41], none⟩,
  ⟨(some 10), 75, .move, [.t 42], none⟩])
 (.seq (.region [⟨(some 44), 76, .move, [.t 7], none⟩,
  ⟨(some 45), 77, .move, [.t 1], none⟩,
  ⟨(some 46), 78, .move, [.t 7], none⟩,
  ⟨(some 47), 79, (.len false), [.t 46], none⟩,
  ⟨(some 48), 80, (.conv (.int .u64)), [.t 47], none⟩,
  ⟨(some 49), 81, (.bin .rem), [.t 45, .t 48], none⟩,
  ⟨(some 50), 82, (.sliceSl 1 false true false), [.t 44, .t 49], none⟩,
  ⟨(some 51), 83, (.call false 349), [.t 50], none⟩,
  ⟨(some 43), 87, .move, [.t 51], none⟩,
  ⟨(some 52), 88, (.extract 0), [.t 43], none⟩,
  ⟨(some 53), 89, (.extract 1), [.t 43], none⟩,
  ⟨(some 11), 90, (.alloc [.int .i64 (0), .str ByteArray.empty, .int .i64 (0), .int .i64 (0), .int .i64 (0), .slice (.own 0) 2 0 gnil, .str ByteArray.empty, .int .i64 (0), .int .i64 (0), .int .i64 (0), .str ByteArray.empty, .str ByteArray.empty, .int .i64 (0), .int .i64 (0), .int .i64 (0), .int .i64 (0), .slice (.own 0) 2 0 gnil, .str ByteArray.empty, .str ByteArray.empty, .int .i64 (0), .str ByteArray.empty]), [], none⟩,
  ⟨none, 112, (.store 21), [.t 11, .t 52], none⟩,
  ⟨(some 12), 113, .move, [.t 53], none⟩])
 (.seq (.region [⟨(some 55), 114, .move, [.t 7], none⟩,
  ⟨(some 56), 115, .move, [.t 7], none⟩,
  ⟨(some 57), 116, (.len false), [.t 56], none⟩,
  ⟨(some 58), 117, .move, [.t 7], none⟩,
  ⟨(some 59), 118, (.len false), [.t 58], none⟩,
  ⟨(some 60), 119, (.sliceSl 1 false true true), [.t 55, .t 57, .t 59], none⟩,
  ⟨(some 61), 120, .move, [.t 2], none⟩,
  ⟨(some 62), 121, (.buildSlice 1 1 [.int .u8 (0)] [(0, 1)]), [.t 61], none⟩,
  ⟨(some 63), 122, (.append 1 1), [.t 60, .t 62], none⟩,
  ⟨(some 64), 123, (.call false 349), [.t 63], none⟩,
  ⟨(some 54), 127, .move, [.t 64], none⟩,
  ⟨(some 65), 128, (.extract 0), [.t 54], none⟩,
  ⟨(some 66), 129, (.extract 1), [.t 54], none⟩,
  ⟨(some 13), 130, (.alloc [.int .i64 (0), .str ByteArray.empty, .int .i64 (0), .int .i64 (0), .int .i64 (0), .slice (.own 0) 2 0 gnil, .str ByteArray.empty, .int .i64 (0), .int .i64 (0), .int .i64 (0), .str ByteArray.empty, .str ByteArray.empty, .int .i64 (0), .int .i64 (0), .int .i64 (0), .int .i64 (0), .slice (.own 0) 2 0 gnil, .str ByteArray.empty, .str ByteArray.empty, .int .i64 (0), .str ByteArray.empty]), [], none⟩,
  ⟨none, 152, (.store 21), [.t 13, .t 65], none⟩,
  ⟨(some 14), 153, .move, [.t 66], none⟩])
 (.seq (.region [⟨(some 67), 154, .move, [.t 10], none⟩,
  ⟨(some 68), 155, (.bin .eql), [.t 67, .c (.int .i64 (0))], none⟩,
  ⟨(some 69), 156, .move, [.t 68], none⟩,
  ⟨(some 70), 157, (.load true 21), [.t 9], (some (69, true))⟩,
  ⟨(some 71), 158, (.load true 21), [.t 3], (some (69, true))⟩,
  ⟨(some 72), 159, (.call false 351), [.t 70, .t 71], (some (69, true))⟩,
  ⟨(some 73), 163, .pick, [.t 69, .t 72, .c (.bool false)], none⟩,
  ⟨(some 74), 164, .move, [.t 73], none⟩,
  ⟨(some 75), 165, .move, [.t 12], (some (74, true))⟩,
  ⟨(some 76), 166, (.bin .neq), [.t 75, .c (.int .i64 (0))], (some (74, true))⟩,
  ⟨(some 77), 167, .pick, [.t 74, .t 76, .c (.bool false)], none⟩,
  ⟨(some 78), 168, .move, [.t 77], none⟩,
  ⟨(some 79), 169, .move, [.t 14], (some (78, true))⟩,
  ⟨(some 80), 170, (.bin .eql), [.t 79, .c (.int .i64 (3))], (some (78, true))⟩,
  ⟨(some 81), 171, .pick, [.t 78, .t 80, .c (.bool false)], none⟩,
  ⟨(some 6), 172, .move, [.t 81], none⟩])
 (.ret)))))))))
  [.tmp 6] 0 79
def f338.env : Env := [(275, f275.C), (276, f276.C), (277, f277.C), (152, f152.C), (349, f349.C), (351, f351.C)]
def f338.tree (a : T_api_Op × Int × UInt8) : Prop := ∃ c1 : Unit, True ∧ Br (!(lawTrue c1)) (∃ c4 : Unit, True ∧ ((lawTrue c4) = (lawTrue a)) ∧ True) (∃ c7 : T_api_Op, (a.1.1 = c7.1) ∧ (a.1.2.1.1 = c7.2.1.1) ∧ (a.1.2.1.2.1.1 = c7.2.1.2.1.1) ∧ (a.1.2.1.2.1.2.1 = c7.2.1.2.1.2.1) ∧ (a.1.2.1.2.1.2.2 = c7.2.1.2.1.2.2) ∧ (a.1.2.1.2.2.length = c7.2.1.2.2.length) ∧ (∀ i, i < c7.2.1.2.2.length → DEqs ((gl e_api_Label a.1.2.1.2.2) i) ((gl e_api_Label c7.2.1.2.2) i)) ∧ (a.1.2.2.1.1 = c7.2.2.1.1) ∧ (a.1.2.2.1.2.1 = c7.2.2.1.2.1) ∧ (a.1.2.2.1.2.2.1 = c7.2.2.1.2.2.1) ∧ (a.1.2.2.1.2.2.2 = c7.2.2.1.2.2.2) ∧ (a.1.2.2.2.1.1 = c7.2.2.2.1.1) ∧ (a.1.2.2.2.1.2.1 = c7.2.2.2.1.2.1) ∧ (a.1.2.2.2.1.2.2.1 = c7.2.2.2.1.2.2.1) ∧ (a.1.2.2.2.1.2.2.2.1.1 = c7.2.2.2.1.2.2.2.1.1) ∧ (a.1.2.2.2.1.2.2.2.1.2.1 = c7.2.2.2.1.2.2.2.1.2.1) ∧ (a.1.2.2.2.1.2.2.2.1.2.2 = c7.2.2.2.1.2.2.2.1.2.2) ∧ (a.1.2.2.2.1.2.2.2.2.1.length = c7.2.2.2.1.2.2.2.2.1.length) ∧ (∀ i, i < c7.2.2.2.1.2.2.2.2.1.length → DEqs ((gl e_api_Label a.1.2.2.2.1.2.2.2.2.1) i) ((gl e_api_Label c7.2.2.2.1.2.2.2.2.1) i)) ∧ (a.1.2.2.2.1.2.2.2.2.2.1 = c7.2.2.2.1.2.2.2.2.2.1) ∧ (a.1.2.2.2.1.2.2.2.2.2.2.1 = c7.2.2.2.1.2.2.2.2.2.2.1) ∧ (a.1.2.2.2.1.2.2.2.2.2.2.2 = c7.2.2.2.1.2.2.2.2.2.2.2) ∧ (a.1.2.2.2.2 = c7.2.2.2.2) ∧ (op_pre c7) ∧ Br (!(few6 c7)) (∃ c10 : Unit, True ∧ ((lawTrue c10) = (lawTrue a)) ∧ True) (∃ c13 : T_api_Op, (a.1.1 = c13.1) ∧ (a.1.2.1.1 = c13.2.1.1) ∧ (a.1.2.1.2.1.1 = c13.2.1.2.1.1) ∧ (a.1.2.1.2.1.2.1 = c13.2.1.2.1.2.1) ∧ (a.1.2.1.2.1.2.2 = c13.2.1.2.1.2.2) ∧ (a.1.2.1.2.2.length = c13.2.1.2.2.length) ∧ (∀ i, i < c13.2.1.2.2.length → DEqs ((gl e_api_Label a.1.2.1.2.2) i) ((gl e_api_Label c13.2.1.2.2) i)) ∧ (a.1.2.2.1.1 = c13.2.2.1.1) ∧ (a.1.2.2.1.2.1 = c13.2.2.1.2.1) ∧ (a.1.2.2.1.2.2.1 = c13.2.2.1.2.2.1) ∧ (a.1.2.2.1.2.2.2 = c13.2.2.1.2.2.2) ∧ (a.1.2.2.2.1.1 = c13.2.2.2.1.1) ∧ (a.1.2.2.2.1.2.1 = c13.2.2.2.1.2.1) ∧ (a.1.2.2.2.1.2.2.1 = c13.2.2.2.1.2.2.1) ∧ (a.1.2.2.2.1.2.2.2.1.1 = c13.2.2.2.1.2.2.2.1.1) ∧ (a.1.2.2.2.1.2.2.2.1.2.1 = c13.2.2.2.1.2.2.2.1.2.1) ∧ (a.1.2.2.2.1.2.2.2.1.2.2 = c13.2.2.2.1.2.2.2.1.2.2) ∧ (a.1.2.2.2.1.2.2.2.2.1.length = c13.2.2.2.1.2.2.2.2.1.length) ∧ (∀ i, i < c13.2.2.2.1.2.2.2.2.1.length → DEqs ((gl e_api_Label a.1.2.2.2.1.2.2.2.2.1) i) ((gl e_api_Label c13.2.2.2.1.2.2.2.2.1) i)) ∧ (a.1.2.2.2.1.2.2.2.2.2.1 = c13.2.2.2.1.2.2.2.2.2.1) ∧ (a.1.2.2.2.1.2.2.2.2.2.2.1 = c13.2.2.2.1.2.2.2.2.2.2.1) ∧ (a.1.2.2.2.1.2.2.2.2.2.2.2 = c13.2.2.2.1.2.2.2.2.2.2.2) ∧ (a.1.2.2.2.2 = c13.2.2.2.2) ∧ (encO_pre c13) ∧ Br (((encO c13).2) != (0 : Int)) (Br ((((encO c13).1).size : Int) == (0 : Int)) (∃ c18 : T_api_Op, (a.1.1 = c18.1) ∧ (a.1.2.1.1 = c18.2.1.1) ∧ (a.1.2.1.2.1.1 = c18.2.1.2.1.1) ∧ (a.1.2.1.2.1.2.1 = c18.2.1.2.1.2.1) ∧ (a.1.2.1.2.1.2.2 = c18.2.1.2.1.2.2) ∧ (a.1.2.1.2.2.length = c18.2.1.2.2.length) ∧ (∀ i, i < c18.2.1.2.2.length → DEqs ((gl e_api_Label a.1.2.1.2.2) i) ((gl e_api_Label c18.2.1.2.2) i)) ∧ (a.1.2.2.1.1 = c18.2.2.1.1) ∧ (a.1.2.2.1.2.1 = c18.2.2.1.2.1) ∧ (a.1.2.2.1.2.2.1 = c18.2.2.1.2.2.1) ∧ (a.1.2.2.1.2.2.2 = c18.2.2.1.2.2.2) ∧ (a.1.2.2.2.1.1 = c18.2.2.2.1.1) ∧ (a.1.2.2.2.1.2.1 = c18.2.2.2.1.2.1) ∧ (a.1.2.2.2.1.2.2.1 = c18.2.2.2.1.2.2.1) ∧ (a.1.2.2.2.1.2.2.2.1.1 = c18.2.2.2.1.2.2.2.1.1) ∧ (a.1.2.2.2.1.2.2.2.1.2.1 = c18.2.2.2.1.2.2.2.1.2.1) ∧ (a.1.2.2.2.1.2.2.2.1.2.2 = c18.2.2.2.1.2.2.2.1.2.2) ∧ (a.1.2.2.2.1.2.2.2.2.1.length = c18.2.2.2.1.2.2.2.2.1.length) ∧ (∀ i, i < c18.2.2.2.1.2.2.2.2.1.length → DEqs ((gl e_api_Label a.1.2.2.2.1.2.2.2.2.1) i) ((gl e_api_Label c18.2.2.2.1.2.2.2.2.1) i)) ∧ (a.1.2.2.2.1.2.2.2.2.2.1 = c18.2.2.2.1.2.2.2.2.2.1) ∧ (a.1.2.2.2.1.2.2.2.2.2.2.1 = c18.2.2.2.1.2.2.2.2.2.2.1) ∧ (a.1.2.2.2.1.2.2.2.2.2.2.2 = c18.2.2.2.1.2.2.2.2.2.2.2) ∧ (a.1.2.2.2.2 = c18.2.2.2.2) ∧ (op_pre c18) ∧ ((!(rightO c18)) = (lawTrue a)) ∧ True) ((false = (lawTrue a)) ∧ True)) (∃ c24 : ByteArray, ((((encO c13).1).size) = c24.size) ∧ (∀ i, i < c24.size → DEqs ((gstr ((encO c13).1)) i) ((gstr c24) i)) ∧ (decO_pre c24) ∧ Let (IntKind.u64.wrap (((encO c13).1).size : Int)) (fun v25 : Int => Br (!(v25 == 0)) (Let (Int.tmod a.2.1 v25) (fun v26 : Int => Br (decide ((0 : Int) ≤ (0 : Int)) && decide ((0 : Int) ≤ v26) && decide (v26 ≤ (((encO c13).1).size : Int)) && (v26 == v26)) (∃ c28 : ByteArray, ((Int.toNat (v26 - (0 : Int))) = c28.size) ∧ (∀ i, i < c28.size → DEqs ((gsub (gstr ((encO c13).1)) 0) i) ((gstr c28) i)) ∧ (decO_pre c28) ∧ Br (decide ((0 : Int) ≤ (0 : Int)) && decide ((0 : Int) ≤ (((encO c13).1).size : Int)) && decide ((((encO c13).1).size : Int) ≤ (((encO c13).1).size : Int)) && ((((encO c13).1).size : Int) == (((encO c13).1).size : Int))) ((room (((Int.toNat ((((encO c13).1).size : Int) - (0 : Int))) + 1) * 1)) ∧ (∃ c30 : ByteArray, (((Int.toNat ((((encO c13).1).size : Int) - (0 : Int))) + 1) = c30.size) ∧ (∀ i, i < c30.size → DEqs ((gapp (gsub (gstr ((encO c13).1)) 0) (Int.toNat ((((encO c13).1).size : Int) - (0 : Int))) (fun _ => [.int .u8 (UInt8.toNat a.2.2 : Int)])) i) ((gstr c30) i)) ∧ (decO_pre c30) ∧ Br (((decO c24).2) == (0 : Int)) (∃ c33 : T_api_Op × T_api_Op, ((((decO c24).1).1) = c33.1.1) ∧ (((((decO c24).1).2.1).1) = c33.1.2.1.1) ∧ ((((((decO c24).1).2.1).2.1).1) = c33.1.2.1.2.1.1) ∧ ((((((decO c24).1).2.1).2.1).2.1) = c33.1.2.1.2.1.2.1) ∧ ((((((decO c24).1).2.1).2.1).2.2) = c33.1.2.1.2.1.2.2) ∧ ((((((decO c24).1).2.1).2.2).length) = c33.1.2.1.2.2.length) ∧ (∀ i, i < c33.1.2.1.2.2.length → DEqs ((gl e_api_Label ((((decO c24).1).2.1).2.2)) i) ((gl e_api_Label c33.1.2.1.2.2) i)) ∧ (((((decO c24).1).2.2.1).1) = c33.1.2.2.1.1) ∧ ((((((decO c24).1).2.2.1).2).1) = c33.1.2.2.1.2.1) ∧ ((((((decO c24).1).2.2.1).2).2.1) = c33.1.2.2.1.2.2.1) ∧ ((((((decO c24).1).2.2.1).2).2.2) = c33.1.2.2.1.2.2.2) ∧ (((((decO c24).1).2.2.2.1).1) = c33.1.2.2.2.1.1) ∧ (((((decO c24).1).2.2.2.1).2.1) = c33.1.2.2.2.1.2.1) ∧ (((((decO c24).1).2.2.2.1).2.2.1) = c33.1.2.2.2.1.2.2.1) ∧ ((((((decO c24).1).2.2.2.1).2.2.2.1).1) = c33.1.2.2.2.1.2.2.2.1.1) ∧ ((((((decO c24).1).2.2.2.1).2.2.2.1).2.1) = c33.1.2.2.2.1.2.2.2.1.2.1) ∧ ((((((decO c24).1).2.2.2.1).2.2.2.1).2.2) = c33.1.2.2.2.1.2.2.2.1.2.2) ∧ ((((((decO c24).1).2.2.2.1).2.2.2.2.1).length) = c33.1.2.2.2.1.2.2.2.2.1.length) ∧ (∀ i, i < c33.1.2.2.2.1.2.2.2.2.1.length → DEqs ((gl e_api_Label ((((decO c24).1).2.2.2.1).2.2.2.2.1)) i) ((gl e_api_Label c33.1.2.2.2.1.2.2.2.2.1) i)) ∧ (((((decO c24).1).2.2.2.1).2.2.2.2.2.1) = c33.1.2.2.2.1.2.2.2.2.2.1) ∧ (((((decO c24).1).2.2.2.1).2.2.2.2.2.2.1) = c33.1.2.2.2.1.2.2.2.2.2.2.1) ∧ (((((decO c24).1).2.2.2.1).2.2.2.2.2.2.2) = c33.1.2.2.2.1.2.2.2.2.2.2.2) ∧ ((((decO c24).1).2.2.2.2) = c33.1.2.2.2.2) ∧ (a.1.1 = c33.2.1) ∧ (a.1.2.1.1 = c33.2.2.1.1) ∧ (a.1.2.1.2.1.1 = c33.2.2.1.2.1.1) ∧ (a.1.2.1.2.1.2.1 = c33.2.2.1.2.1.2.1) ∧ (a.1.2.1.2.1.2.2 = c33.2.2.1.2.1.2.2) ∧ (a.1.2.1.2.2.length = c33.2.2.1.2.2.length) ∧ (∀ i, i < c33.2.2.1.2.2.length → DEqs ((gl e_api_Label a.1.2.1.2.2) i) ((gl e_api_Label c33.2.2.1.2.2) i)) ∧ (a.1.2.2.1.1 = c33.2.2.2.1.1) ∧ (a.1.2.2.1.2.1 = c33.2.2.2.1.2.1) ∧ (a.1.2.2.1.2.2.1 = c33.2.2.2.1.2.2.1) ∧ (a.1.2.2.1.2.2.2 = c33.2.2.2.1.2.2.2) ∧ (a.1.2.2.2.1.1 = c33.2.2.2.2.1.1) ∧ (a.1.2.2.2.1.2.1 = c33.2.2.2.2.1.2.1) ∧ (a.1.2.2.2.1.2.2.1 = c33.2.2.2.2.1.2.2.1) ∧ (a.1.2.2.2.1.2.2.2.1.1 = c33.2.2.2.2.1.2.2.2.1.1) ∧ (a.1.2.2.2.1.2.2.2.1.2.1 = c33.2.2.2.2.1.2.2.2.1.2.1) ∧ (a.1.2.2.2.1.2.2.2.1.2.2 = c33.2.2.2.2.1.2.2.2.1.2.2) ∧ (a.1.2.2.2.1.2.2.2.2.1.length = c33.2.2.2.2.1.2.2.2.2.1.length) ∧ (∀ i, i < c33.2.2.2.2.1.2.2.2.2.1.length → DEqs ((gl e_api_Label a.1.2.2.2.1.2.2.2.2.1) i) ((gl e_api_Label c33.2.2.2.2.1.2.2.2.2.1) i)) ∧ (a.1.2.2.2.1.2.2.2.2.2.1 = c33.2.2.2.2.1.2.2.2.2.2.1) ∧ (a.1.2.2.2.1.2.2.2.2.2.2.1 = c33.2.2.2.2.1.2.2.2.2.2.2.1) ∧ (a.1.2.2.2.1.2.2.2.2.2.2.2 = c33.2.2.2.2.1.2.2.2.2.2.2.2) ∧ (a.1.2.2.2.2 = c33.2.2.2.2.2) ∧ (sameOp_pre c33) ∧ Br (sameOp c33) (Br (((decO c28).2) != (0 : Int)) (((((decO c30).2) == (3 : Int)) = (lawTrue a)) ∧ True) ((false = (lawTrue a)) ∧ True)) ((false = (lawTrue a)) ∧ True)) ((false = (lawTrue a)) ∧ True))) False) False)) False))))
def f338.vc (a : T_api_Op × Int × UInt8) : Prop := ((¬ ((lawTrue ()) = true) → ((lawTrue ()) = lawTrue a)) ∧ (¬ (¬ ((lawTrue ()) = true)) → (op_pre a.1 ∧ ((¬ ((few6 (a.1)) = true) → ((lawTrue ()) = lawTrue a)) ∧ (¬ (¬ ((few6 (a.1)) = true)) → (encO_pre a.1 ∧ ((¬ ((encO (a.1)).2) = (0 : Int) → (((((encO (a.1)).1).size : Int) = (0 : Int) → (op_pre a.1 ∧ ((!(rightO (a.1))) = lawTrue a))) ∧ (¬ ((((encO (a.1)).1).size : Int) = (0 : Int)) → (false = lawTrue a)))) ∧ (¬ (¬ ((encO (a.1)).2) = (0 : Int)) → (decO_pre ((encO (a.1)).1) ∧ (0 ≤ (((encO (a.1)).1).size : Int) ∧ (((encO (a.1)).1).size : Int) ≤ 18446744073709551615 ∧ (0 ≤ a.2.1 ∧ 0 < (((encO (a.1)).1).size : Int) ∧ ((0 : Int) ≤ (a.2.1 % (((encO (a.1)).1).size : Int)) ∧ (a.2.1 % (((encO (a.1)).1).size : Int)) ≤ (((encO (a.1)).1).size : Int) ∧ (decO_pre (subB ((encO (a.1)).1) (0 : Int) (a.2.1 % (((encO (a.1)).1).size : Int))) ∧ ((Int.toNat ((((encO (a.1)).1).size : Int) - (0 : Int))) + 1 ≤ 1073741824 ∧ (decO_pre ((subB ((encO (a.1)).1) (0 : Int) (((encO (a.1)).1).size : Int)) ++ (by1 (UInt8.toNat a.2.2 : Int))) ∧ ((((decO ((encO (a.1)).1)).2) = (0 : Int) → (sameOp_pre (((decO ((encO (a.1)).1)).1), a.1) ∧ (((sameOp (((decO ((encO (a.1)).1)).1), a.1)) = true → ((¬ ((decO (subB ((encO (a.1)).1) (0 : Int) (a.2.1 % (((encO (a.1)).1).size : Int)))).2) = (0 : Int) → ((((decO ((subB ((encO (a.1)).1) (0 : Int) (((encO (a.1)).1).size : Int)) ++ (by1 (UInt8.toNat a.2.2 : Int)))).2) == (3 : Int)) = lawTrue a)) ∧ (¬ (¬ ((decO (subB ((encO (a.1)).1) (0 : Int) (a.2.1 % (((encO (a.1)).1).size : Int)))).2) = (0 : Int)) → (false = lawTrue a)))) ∧ (¬ ((sameOp (((decO ((encO (a.1)).1)).1), a.1)) = true) → (false = lawTrue a))))) ∧ (¬ (((decO ((encO (a.1)).1)).2) = (0 : Int)) → (false = lawTrue a))))))))))))))))))
set_option maxRecDepth 100000 in
set_option maxHeartbeats 2000000 in
theorem f338.of (a : T_api_Op × Int × UInt8) (h : f338.vc a) : f338.tree a := ⟨(), ⟨trivial, br h (Cnd.not Cnd.b) (fun h2 k63 => ⟨(), ⟨trivial, ⟨k63, trivial⟩⟩⟩) (fun h3 k64 => ⟨a.1, ⟨rfl, ⟨rfl, ⟨rfl, ⟨rfl, ⟨rfl, slK (Rds.self (enc := e_api_Label)) (⟨rfl, ⟨rfl, ⟨rfl, ⟨rfl, ⟨rfl, ⟨rfl, ⟨rfl, ⟨rfl, ⟨rfl, ⟨rfl, slK (Rds.self (enc := e_api_Label)) (⟨rfl, ⟨rfl, ⟨rfl, ⟨rfl, ⟨k64.1, br k64.2 (Cnd.not Cnd.b) (fun h8 k60 => ⟨(), ⟨trivial, ⟨k60, trivial⟩⟩⟩) (fun h9 k61 => ⟨a.1, ⟨rfl, ⟨rfl, ⟨rfl, ⟨rfl, ⟨rfl, slK (Rds.self (enc := e_api_Label)) (⟨rfl, ⟨rfl, ⟨rfl, ⟨rfl, ⟨rfl, ⟨rfl, ⟨rfl, ⟨rfl, ⟨rfl, ⟨rfl, slK (Rds.self (enc := e_api_Label)) (⟨rfl, ⟨rfl, ⟨rfl, ⟨rfl, ⟨k61.1, br k61.2 Cnd.ne (fun h14 k57 => br k57 Cnd.eq (fun h16 k22 => ⟨a.1, ⟨rfl, ⟨rfl, ⟨rfl, ⟨rfl, ⟨rfl, slK (Rds.self (enc := e_api_Label)) (⟨rfl, ⟨rfl, ⟨rfl, ⟨rfl, ⟨rfl, ⟨rfl, ⟨rfl, ⟨rfl, ⟨rfl, ⟨rfl, slK (Rds.self (enc := e_api_Label)) (⟨rfl, ⟨rfl, ⟨rfl, ⟨rfl, ⟨k22.1, ⟨k22.2, trivial⟩⟩⟩⟩⟩⟩)⟩⟩⟩⟩⟩⟩⟩⟩⟩⟩)⟩⟩⟩⟩⟩⟩) (fun h17 k23 => ⟨k23, trivial⟩)) (fun h15 k58 => ⟨(encO (a.1)).1, slK RdB.self (⟨k58.1, wrapK.u64 k58.2 (fun h53 h54 k55 => chk0 (Cnd.not Cnd.eq) (by have := k55.2.1; omega) (modK k55.1 (chk k55.2.2.2.2 Cnd.sl ⟨(by decide), k55.2.2.1, k55.2.2.2.1⟩ (fun h27 k52 => ⟨(subB ((encO (a.1)).1) (0 : Int) (a.2.1 % (((encO (a.1)).1).size : Int))), slK (RdB.sub RdB.self h27) (⟨k52.1, chk k52.2 Cnd.sl ⟨(by decide), (Int.natCast_nonneg _), (Int.le_refl _)⟩ (fun h29 k50 => ⟨(room_of k50.1 (by decide)), ⟨(subB ((encO (a.1)).1) (0 : Int) (((encO (a.1)).1).size : Int)) ++ (by1 (UInt8.toNat a.2.2 : Int)), slK (RdB.app (RdB.sub RdB.self h29) (RdB.one (by first | exact u8r _ | exact u8w _ | exact u8b _ _ | exact u8bN _ _ | decide | omega))) (⟨k50.2.1, br k50.2.2 Cnd.eq (fun h31 k47 => ⟨(((decO ((encO (a.1)).1)).1), a.1), ⟨rfl, ⟨rfl, ⟨rfl, ⟨rfl, ⟨rfl, slK (Rds.self (enc := e_api_Label)) (⟨rfl, ⟨rfl, ⟨rfl, ⟨rfl, ⟨rfl, ⟨rfl, ⟨rfl, ⟨rfl, ⟨rfl, ⟨rfl, slK (Rds.self (enc := e_api_Label)) (⟨rfl, ⟨rfl, ⟨rfl, ⟨rfl, ⟨rfl, ⟨rfl, ⟨rfl, ⟨rfl, ⟨rfl, slK (Rds.self (enc := e_api_Label)) (⟨rfl, ⟨rfl, ⟨rfl, ⟨rfl, ⟨rfl, ⟨rfl, ⟨rfl, ⟨rfl, ⟨rfl, ⟨rfl, slK (Rds.self (enc := e_api_Label)) (⟨rfl, ⟨rfl, ⟨rfl, ⟨rfl, ⟨k47.1, br k47.2 Cnd.b (fun h34 k43 => br k43 Cnd.ne (fun h36 k40 => ⟨k40, trivial⟩) (fun h37 k41 => ⟨k41, trivial⟩)) (fun h35 k44 => ⟨k44, trivial⟩)⟩⟩⟩⟩⟩)⟩⟩⟩⟩⟩⟩⟩⟩⟩⟩)⟩⟩⟩⟩⟩⟩⟩⟩⟩)⟩⟩⟩⟩⟩⟩⟩⟩⟩⟩)⟩⟩⟩⟩⟩⟩) (fun h32 k48 => ⟨k48, trivial⟩)⟩)⟩⟩)⟩)⟩))))⟩)⟩)⟩⟩⟩⟩⟩)⟩⟩⟩⟩⟩⟩⟩⟩⟩⟩)⟩⟩⟩⟩⟩⟩)⟩⟩⟩⟩⟩)⟩⟩⟩⟩⟩⟩⟩⟩⟩⟩)⟩⟩⟩⟩⟩⟩)⟩⟩
theorem f338.eq (a : T_api_Op × Int × UInt8) : (f338.af a).gives f338.env (f338.args a) (f338.blks a) (f338.res a) (f338.blks' a) = f338.tree a := by kernel_rfl
end Go.Abs

-- interregnum/interregnumlaw06.OperOne
namespace Go.Abs
open Go
end Go.Abs

/- interregnum/interregnumlaw06.OperOne -/
namespace Go.Abs
open Go
set_option linter.unusedVariables false
end Go.Abs

/- The laws of layer 6. -/
namespace Go.Abs
open Go

/-- An operation at a place. -/
def takeOp (a : ByteArray × Int) : TOp × Int × Int :=
  if (takeN a).2.2 ≠ 0 then (zOp, 0, (takeN a).2.2) else
  if 9 < (takeN a).1 then (zOp, 0, 3) else
  if (takesO (((takeN a).1, zNode, zQueue, zTask, ByteArray.empty), a.1, (takeN a).2.1)).2.1 ≠ 0 then (zOp, 0, (takesO (((takeN a).1, zNode, zQueue, zTask, ByteArray.empty), a.1, (takeN a).2.1)).2.1) else
  ((takesO (((takeN a).1, zNode, zQueue, zTask, ByteArray.empty), a.1, (takeN a).2.1)).2.2, (takesO (((takeN a).1, zNode, zQueue, zTask, ByteArray.empty), a.1, (takeN a).2.1)).1, 0)

theorem decO_eq (b : ByteArray) : decO b = if (takeOp (b, 0)).2.2 ≠ 0 then (zOp, (takeOp (b, 0)).2.2) else if (takeOp (b, 0)).2.1 ≠ b.size then (zOp, 3) else ((takeOp (b, 0)).1, 0) := by
  unfold decO takeOp decBody
  by_cases c1 : (takeN (b, 0)).2.2 = 0
  · rw [if_neg (not_not_intro c1), if_neg (not_not_intro c1)]
    by_cases c2 : 9 < (takeN (b, 0)).1
    · rw [if_pos c2, if_pos c2]; rfl
    · rw [if_neg c2, if_neg c2]
      generalize takesO (((takeN (b, 0)).1, zNode, zQueue, zTask, ByteArray.empty), b, (takeN (b, 0)).2.1) = s
      by_cases c3 : s.2.1 = 0
      · by_cases c4 : s.1 = (b.size : Int) <;> simp [c3, c4]
      · rw [if_pos c3, if_pos c3, if_pos c3]
  · rw [if_pos c1, if_pos c1, if_pos c1]

theorem zz : zeroNodeB zNode = true ∧ zeroTaskB zTask = true := ⟨sameNode_eq.2 rfl, sameTask_eq.2 rfl⟩

theorem bare_of {k : Int} {n : TNode} {q : TQueue} {t : TTask} {m : ByteArray} (hn : k = 1 ∨ n = zNode) (hq : k = 3 ∨ q = zQueue) (ht : k = 5 ∨ t = zTask) (hm : namedB k = true ∨ m = ByteArray.empty) : bareB (k, n, q, t, m) = true := by
  rw [bareB_iff]
  refine ⟨hn.imp id fun h => ?_, hq.imp id fun h => zQ_iff.1 h, ht.imp id fun h => ?_, hm⟩
  · show zN n; rw [h]; exact zN_iff.1 zz.1
  · show zT t; rw [h]; exact zT_iff.1 zz.2
theorem bare_to {k : Int} {n : TNode} {q : TQueue} {t : TTask} {m : ByteArray} (h : bareB (k, n, q, t, m) = true) : (k = 1 ∨ n = zNode) ∧ (k = 3 ∨ q = zQueue) ∧ (k = 5 ∨ t = zTask) ∧ (namedB k = true ∨ m = ByteArray.empty) := by
  rw [bareB_iff, ← zN_iff, ← zT_iff, ← zQ_iff] at h
  obtain ⟨h1, h2, h3, h4⟩ := h
  exact ⟨h1.imp id fun h => sameNode_eq.1 h, h2, h3.imp id fun h => sameTask_eq.1 h, h4⟩

theorem op_one : One takeOp rightO opS := fun b i e => by
  unfold takeOp at e ⊢
  simp only at e ⊢
  by_cases c1 : (takeN (b, i)).2.2 = 0
  · rw [if_neg (not_not_intro c1)] at e ⊢
    obtain ⟨t1, t2, t3, t4⟩ := takeN_ok c1
    have hb := takeN_bd (b, i)
    generalize takeN (b, i) = t at *
    by_cases c2 : 9 < t.1
    · rw [if_pos c2] at e; simp at e
    · rw [if_neg c2] at e ⊢
      generalize hs : takesO ((t.1, zNode, zQueue, zTask, ByteArray.empty), b, t.2.1) = s at e ⊢
      by_cases c3 : s.2.1 = 0
      · rw [if_neg (not_not_intro c3)] at e ⊢
        have fin : ∀ (x : Int) (o : TOp), s = (x, 0, o) → o.1 = t.1 → rightO o = true → t.2.1 ≤ x → x ≤ b.size → subB b t.2.1 x = opBody o → rightO s.2.2 = true ∧ 0 ≤ i ∧ i ≤ s.1 ∧ s.1 ≤ b.size ∧ subB b i s.1 = opS s.2.2 := fun x o h1 h2 h3 h4 h5 h6 => by
          rw [h1]
          refine ⟨h3, t1, by simp only; omega, h5, ?_⟩
          simp only
          unfold opS
          rw [h2, ← h6, t4, subB_app t1 (by omega) h4 h5]
        unfold takesO at hs
        simp only at hs
        by_cases k1 : t.1 = 1
        · rw [if_pos k1] at hs
          have z : (takeNode (b, t.2.1)).2.2 = 0 := by rw [← hs] at c3; exact c3
          obtain ⟨o1, o2, o3, o4, o5⟩ := node_one b _ z
          rw [z] at hs
          refine fin _ _ hs.symm rfl ?_ o3 o4 ?_
          · exact rightO_iff.2 ⟨bare_of (.inl k1) (.inr rfl) (.inr rfl) (.inr rfl), .inl ⟨k1, o1⟩⟩
          · rw [o5]; unfold opBody; rw [if_pos k1, nodeS_ok o1]
        rw [if_neg k1] at hs
        by_cases k3 : t.1 = 3
        · rw [if_pos k3] at hs
          have z : (takeQueue (b, t.2.1)).2.2 = 0 := by rw [← hs] at c3; exact c3
          obtain ⟨o1, o2, o3, o4, o5⟩ := queue_one b _ z
          rw [z] at hs
          refine fin _ _ hs.symm rfl ?_ o3 o4 ?_
          · exact rightO_iff.2 ⟨bare_of (.inr rfl) (.inl k3) (.inr rfl) (.inr rfl), .inr (.inl ⟨k3, o1⟩)⟩
          · rw [o5]; unfold opBody; rw [if_neg k1, if_pos k3, queueS_ok o1]
        rw [if_neg k3] at hs
        by_cases k5 : t.1 = 5
        · rw [if_pos k5] at hs
          have z : (takeTask (b, t.2.1)).2.2 = 0 := by rw [← hs] at c3; exact c3
          obtain ⟨o1, o2, o3, o4, o5⟩ := task_one b _ z
          rw [z] at hs
          refine fin _ _ hs.symm rfl ?_ o3 o4 ?_
          · exact rightO_iff.2 ⟨bare_of (.inr rfl) (.inr rfl) (.inl k5) (.inr rfl), .inr (.inr (.inl ⟨k5, o1⟩))⟩
          · rw [o5]; unfold opBody; rw [if_neg k1, if_neg k3, if_pos k5, taskS_ok o1]
        rw [if_neg k5] at hs
        by_cases kn : namedB t.1 = true
        · rw [if_pos kn] at hs
          have hk9 : t.1 ≠ 9 := by have := named_iff.1 kn; omega
          have z : ¬ ((takeText (b, t.2.1, 16)).2.2 = 0 ∧ ¬ nameB (takeText (b, t.2.1, 16)).1 = true) := fun hh => by
            rw [if_pos hh] at hs; rw [← hs] at c3; simp at c3
          rw [if_neg z] at hs
          have z0 : (takeText (b, t.2.1, 16)).2.2 = 0 := by rw [← hs] at c3; exact c3
          have zn : nameB (takeText (b, t.2.1, 16)).1 = true := Classical.not_not.1 fun hh => z ⟨z0, hh⟩
          obtain ⟨p1, p2, p3, p4, p5⟩ := takeText_ok z0
          rw [z0] at hs
          refine fin _ _ hs.symm rfl ?_ (by omega) p2 ?_
          · exact rightO_iff.2 ⟨bare_of (.inr rfl) (.inr rfl) (.inr rfl) (.inl kn), .inr (.inr (.inr (.inr ⟨kn, zn⟩)))⟩
          · rw [← p5]; unfold opBody; rw [if_neg k1, if_neg k3, if_neg k5, if_neg hk9]; rfl
        rw [if_neg kn] at hs
        by_cases k9 : t.1 = 9
        · rw [if_pos k9] at hs
          refine fin _ _ hs.symm rfl ?_ (Int.le_refl _) t3 ?_
          · exact rightO_iff.2 ⟨bare_of (.inr rfl) (.inr rfl) (.inr rfl) (.inr rfl), .inr (.inr (.inr (.inl k9)))⟩
          · unfold opBody
            rw [if_neg k1, if_neg k3, if_neg k5, if_pos k9]
            have := subB_size (b := b) (i := t.2.1) (j := t.2.1) (by omega) (Int.le_refl _) t3
            exact size_zero.2 (by omega)
        · rw [if_neg k9] at hs
          rw [← hs] at c3
          simp at c3
      · rw [if_pos c3] at e
        exact absurd e c3
  · rw [if_pos c1] at e
    exact absurd e c1

theorem takeN_back {b : ByteArray} {i : Int} {n : Nat} (h : At b i (num n)) (hn : n < 2 ^ 64) : takeN (b, i) = ((n : Int), i + (num n).size, 0) := by
  obtain ⟨x, y, rfl, rfl⟩ := h
  rw [takeN_num x y hn, num_size]
  congr 2
  omega

theorem op_back : Back takeOp rightO opS := fun b i o h ho => by
  obtain ⟨k, n, q, t, m⟩ := o
  obtain ⟨hb, hc⟩ := rightO_iff.1 ho
  obtain ⟨k1, k2⟩ := op_small ho
  obtain ⟨z1, z2, z3, z4⟩ := bare_to hb
  simp only at hc k1 k2
  have hN := takeN_back h.left (by show k.toNat < _; omega)
  have hR := h.right
  unfold takeOp
  simp only at hN hR ⊢
  have hk : ((k.toNat : Nat) : Int) = k := by omega
  rw [hN]
  simp only
  rw [hk, if_neg (by simp), if_neg (by omega)]
  have fin : ∀ x, takesO ((k, zNode, zQueue, zTask, ByteArray.empty), b, i + ((num k.toNat).size : Int)) = (x, 0, (k, n, q, t, m)) → x = i + ((opS (k, n, q, t, m)).size : Int) → (if (takesO ((k, zNode, zQueue, zTask, ByteArray.empty), b, i + ((num k.toNat).size : Int))).2.1 ≠ 0 then (zOp, 0, (takesO ((k, zNode, zQueue, zTask, ByteArray.empty), b, i + ((num k.toNat).size : Int))).2.1) else ((takesO ((k, zNode, zQueue, zTask, ByteArray.empty), b, i + ((num k.toNat).size : Int))).2.2, (takesO ((k, zNode, zQueue, zTask, ByteArray.empty), b, i + ((num k.toNat).size : Int))).1, 0)) = ((k, n, q, t, m), i + ((opS (k, n, q, t, m)).size : Int), 0) := fun x h1 h2 => by
    rw [h1, if_neg (by simp), h2]
  have hz : ((opS (k, n, q, t, m)).size : Int) = (num k.toNat).size + (opBody (k, n, q, t, m)).size := by unfold opS; rw [size_app]; simp only; omega
  rcases hc with ⟨e, h1⟩ | ⟨e, h1⟩ | ⟨e, h1⟩ | e | ⟨e, h1⟩
  · have c3 : ¬ k = 3 := by omega
    have c5 : ¬ k = 5 := by omega
    have cn : ¬ namedB k = true := fun hh => by have := named_iff.1 hh; omega
    have bd : opBody (k, n, q, t, m) = nodeS0 n := by unfold opBody; rw [if_pos e, nodeS_ok h1]
    rw [bd] at hR hz
    have w := node_back b _ n hR h1
    refine fin _ (by unfold takesO; rw [if_pos e]; simp only [w]; rw [z2.resolve_left c3, z3.resolve_left c5, z4.resolve_left cn]) (by omega)
  · have c1 : ¬ k = 1 := by omega
    have c5 : ¬ k = 5 := by omega
    have cn : ¬ namedB k = true := fun hh => by have := named_iff.1 hh; omega
    have bd : opBody (k, n, q, t, m) = queueS0 q := by unfold opBody; rw [if_neg c1, if_pos e, queueS_ok h1]
    rw [bd] at hR hz
    have w := queue_back b _ q hR h1
    refine fin _ (by unfold takesO; rw [if_neg c1, if_pos e]; simp only [w]; rw [z1.resolve_left c1, z3.resolve_left c5, z4.resolve_left cn]) (by omega)
  · have c1 : ¬ k = 1 := by omega
    have c3 : ¬ k = 3 := by omega
    have cn : ¬ namedB k = true := fun hh => by have := named_iff.1 hh; omega
    have bd : opBody (k, n, q, t, m) = taskS0 t := by unfold opBody; rw [if_neg c1, if_neg c3, if_pos e, taskS_ok h1]
    rw [bd] at hR hz
    have w := task_back b _ t hR h1
    refine fin _ (by unfold takesO; rw [if_neg c1, if_neg c3, if_pos e]; simp only [w]; rw [z1.resolve_left c1, z2.resolve_left c3, z4.resolve_left cn]) (by omega)
  · have c1 : ¬ k = 1 := by omega
    have c3 : ¬ k = 3 := by omega
    have c5 : ¬ k = 5 := by omega
    have cn : ¬ namedB k = true := fun hh => by have := named_iff.1 hh; omega
    have bd : opBody (k, n, q, t, m) = ByteArray.empty := by unfold opBody; rw [if_neg c1, if_neg c3, if_neg c5, if_pos e]
    rw [bd] at hz
    refine fin (i + (num k.toNat).size) (by unfold takesO; rw [if_neg c1, if_neg c3, if_neg c5, if_neg cn, if_pos e, z1.resolve_left c1, z2.resolve_left c3, z3.resolve_left c5, z4.resolve_left cn]) (by rw [hz, empty_size]; omega)
  · have hk4 := named_iff.1 e
    have c1 : ¬ k = 1 := by omega
    have c3 : ¬ k = 3 := by omega
    have c5 : ¬ k = 5 := by omega
    have c9 : ¬ k = 9 := by omega
    have bd : opBody (k, n, q, t, m) = textS m := by unfold opBody; rw [if_neg c1, if_neg c3, if_neg c5, if_neg c9]
    rw [bd] at hR hz
    have hm := name_size h1
    have w := takeText_back (m := 16) hR (by omega) (by omega)
    refine fin _ (by unfold takesO; rw [if_neg c1, if_neg c3, if_neg c5, if_pos e]; simp only [w]; rw [if_neg (fun hh => hh.2 h1), z1.resolve_left c1, z2.resolve_left c3, z3.resolve_left c5]) (by omega)

theorem sameOp_refl (o : TOp) : sameOp (o, o) = true := by
  unfold sameOp
  simp only [decide_true, Bool.true_and, Bool.and_eq_true, and_self]
  exact ⟨sameNode_eq.2 rfl, sameTask_eq.2 rfl⟩

theorem op_of_size {o : TOp} (h : k_api_Op.size o ≤ 1048576) : op_pre o ∧ o.2.2.2.2.size ≤ 268435456 := by
  have h : 1 + (k_api_Node.size o.2.1 + (k_api_Queue.size o.2.2.1 + (k_api_Task.size o.2.2.2.1 + (o.2.2.2.2.size + 1)))) + 1 ≤ 1048576 := h
  have hn : k_api_Node.size o.2.1 = o.2.1.1.size + 1 + (1 + (1 + 1) + 1 + k_sl_api_Label.size o.2.1.2.2) + 1 := rfl
  have ht : k_api_Task.size o.2.2.2.1 = o.2.2.2.1.1.size + 1 + (o.2.2.2.1.2.1.size + 1 + (1 + (1 + (1 + 1) + 1 + (k_sl_api_Label.size o.2.2.2.1.2.2.2.2.1 + (o.2.2.2.1.2.2.2.2.2.1.size + 1 + (o.2.2.2.1.2.2.2.2.2.2.1.size + 1 + 1)))))) + 1 := rfl
  have l1 := sum_ge k_api_Label.size o.2.1.2.2 (fun x _ => Nat.le_add_left 1 _)
  have l2 := sum_ge k_api_Label.size o.2.2.2.1.2.2.2.2.1 (fun x _ => Nat.le_add_left 1 _)
  have e1 : k_sl_api_Label.size o.2.1.2.2 = (o.2.1.2.2.map k_api_Label.size).sum + 1 := rfl
  have e2 : k_sl_api_Label.size o.2.2.2.1.2.2.2.2.1 = (o.2.2.2.1.2.2.2.2.1.map k_api_Label.size).sum + 1 := rfl
  exact ⟨⟨node_of_size (by omega), queue_of_size (by omega), task_of_size (by omega), by unfold name_pre; omega, by omega, by omega⟩, by omega⟩

theorem dec_back {o : TOp} (h : rightO o = true) : decO (opS o) = (o, 0) := by
  have w := op_back (opS o) 0 o ⟨ByteArray.empty, ByteArray.empty, by rw [empty_app, app_empty], rfl⟩ h
  rw [decO_eq, w]
  simp

theorem opS_size {o : TOp} (h : rightO o = true) : 0 < (opS o).size ∧ (opS o).size ≤ 600 := by
  have hk := op_small h
  have hz := num_small (n := o.1.toNat) (by omega)
  have hp := num_pos o.1.toNat
  have hb : (opBody o).size ≤ 500 := by
    unfold opBody
    rcases (rightO_iff.1 h).2 with ⟨e, h1⟩ | ⟨e, h1⟩ | ⟨e, h1⟩ | e | ⟨e, h1⟩
    · rw [if_pos e, nodeS_ok h1]; exact Nat.le_trans (nodeS0_size h1) (by decide)
    · rw [if_neg (by omega), if_pos e, queueS_ok h1]; exact Nat.le_trans (queueS0_size h1) (by decide)
    · rw [if_neg (by omega), if_neg (by omega), if_pos e, taskS_ok h1]; exact taskS0_size h1
    · rw [if_neg (by omega), if_neg (by omega), if_neg (by omega), if_pos e]; exact Nat.zero_le _
    · have := named_iff.1 e
      rw [if_neg (by omega), if_neg (by omega), if_neg (by omega), if_neg (by omega)]
      have := name_size h1
      have := textS_size (s := o.2.2.2.2) (by omega)
      omega
  unfold opS
  rw [size_app]
  omega

theorem f338.ok (a : TOp × Int × UInt8) (h : f338.lpre a) : f338.vc a := by
  obtain ⟨⟨_, hc, _⟩, hs⟩ := h
  obtain ⟨o, c, x⟩ := a
  have hs : k_api_Op.size o + (1 + 1) ≤ 1048576 := hs
  obtain ⟨h1, h2⟩ := op_of_size (o := o) (by omega)
  obtain ⟨c1, c2⟩ := wf_u64 (n := c) hc
  unfold f338.vc
  simp only [subB_all, Int.sub_zero]
  refine ⟨fun _ => rfl, fun _ => ⟨h1, fun _ => rfl, fun _ => ⟨⟨h1, h2⟩, fun d => ⟨fun _ => ⟨h1, ?_⟩, fun e => absurd ?_ e⟩, fun d => ?_⟩⟩⟩
  · have : ¬ rightO o = true := fun hh => d (by unfold encO; rw [if_pos hh])
    simpa [lawTrue] using this
  · have : ¬ rightO o = true := fun hh => d (by unfold encO; rw [if_pos hh])
    unfold encO
    rw [if_neg this]
    rfl
  · have hr : rightO o = true := Classical.not_not.1 fun hh => Classical.not_not.1 d |> fun e => by
      unfold encO at e
      rw [if_neg hh] at e
      simp at e
    have e : encO o = (opS o, 0) := by unfold encO; rw [if_pos hr]
    rw [e]
    simp only
    obtain ⟨s1, s2⟩ := opS_size hr
    have b1 : 0 ≤ c % ((opS o).size : Int) := Int.emod_nonneg _ (by omega)
    have b2 : c % ((opS o).size : Int) < (opS o).size := Int.emod_lt_of_pos _ (by omega)
    have sz := subB_size (b := opS o) (i := 0) (j := c % ((opS o).size : Int)) (Int.le_refl _) b1 (by omega)
    have hcut := cut_off op_one op_back (x := ByteArray.empty) hr b1 b2
    rw [empty_app, empty_size] at hcut
    have hcut : ¬ (takeOp (subB (opS o) 0 (c % ((opS o).size : Int)), 0)).2.2 = 0 := by
      have e0 : ((0 : Nat) : Int) + c % ((opS o).size : Int) = c % ((opS o).size : Int) := by omega
      rw [e0] at hcut
      exact hcut
    have hd : ¬ (decO (subB (opS o) 0 (c % ((opS o).size : Int)))).2 = 0 := by
      rw [decO_eq, if_pos hcut]
      exact hcut
    have w := op_back (opS o ++ by1 (x.toNat : Int)) 0 o ⟨ByteArray.empty, by1 (x.toNat : Int), by rw [empty_app], rfl⟩ hr
    have hm : decO (opS o ++ by1 (x.toNat : Int)) = (zOp, 3) := by
      rw [decO_eq, w]
      simp only
      rw [if_neg (by simp), if_pos]
      rw [size_app, by1_size]
      omega
    rw [dec_back hr, hm]
    refine ⟨by unfold decO_pre; omega, by omega, by omega, c1, by omega, b1, by omega, by unfold decO_pre; omega, by omega, by unfold decO_pre; rw [size_app, by1_size]; omega, fun _ => ⟨⟨⟨h1.2.2.2.2.1, h1.2.2.2.2.1⟩, ⟨h1.2.2.2.2.2, h1.2.2.2.2.2⟩⟩, fun _ => ⟨fun _ => by simp [lawTrue], fun f => absurd (Classical.not_not.1 f) hd⟩, fun f => absurd (sameOp_refl _) f⟩, fun f => absurd rfl f⟩

end Go.Abs
