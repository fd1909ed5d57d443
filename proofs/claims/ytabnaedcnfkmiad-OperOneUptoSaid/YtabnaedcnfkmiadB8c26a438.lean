/- Functions, and what the code asks of them: POperLaw. -/
import Derived.KernelRfl
import Derived.Test.YtabnaedcnfkmiadB9b18712e
import Derived.Test.YtabnaedcnfkmiadBe95f3fd0
import Derived.Test.YtabnaedcnfkmiadBa3ebb4c1
import Derived.Test.YtabnaedcnfkmiadBe4760568
import Derived.Test.YtabnaedcnfkmiadB9fec214c
import Derived.Test.YtabnaedcnfkmiadBa66d27ee
import Derived.Test.YtabnaedcnfkmiadB89298672
import Derived.Test.YtabnaedcnfkmiadB1581d50e
import Derived.Test.YtabnaedcnfkmiadB12773354
import Derived.Test.YtabnaedcnfkmiadB0dc40daa
import Derived.Test.YtabnaedcnfkmiadBc6afe4b5
set_option linter.unusedVariables false
set_option linter.unusedSimpArgs false
-- interregnum/interregnumref06.Decode
namespace Go.Abs
open Go
end Go.Abs

/- interregnum/interregnumref06.Decode -/
namespace Go.Abs
open Go
set_option linter.unusedVariables false
end Go.Abs

-- interregnum/interregnumlaw06.OperRights
namespace Go.Abs
open Go
end Go.Abs

/- interregnum/interregnumlaw06.OperRights -/
namespace Go.Abs
open Go
set_option linter.unusedVariables false
end Go.Abs

-- interregnum/interregnumlaw06.OperAnswers
namespace Go.Abs
open Go
end Go.Abs

/- interregnum/interregnumlaw06.OperAnswers -/
namespace Go.Abs
open Go
set_option linter.unusedVariables false
end Go.Abs

-- interregnum/interregnumlaw06.OperDecodes
namespace Go.Abs
open Go
end Go.Abs

/- interregnum/interregnumlaw06.OperDecodes -/
namespace Go.Abs
open Go
set_option linter.unusedVariables false
end Go.Abs

-- interregnum/interregnumlaw06.OperBack
namespace Go.Abs
open Go
end Go.Abs

/- interregnum/interregnumlaw06.OperBack -/
namespace Go.Abs
open Go
set_option linter.unusedVariables false
end Go.Abs

-- interregnum/interregnumlaw06.OperOne
namespace Go.Abs
open Go
def f339.wf (a : ByteArray) : Prop := k_str.ok a
def f339.size (a : ByteArray) : Nat := k_str.size a
def f339.lpre (a : ByteArray) : Prop := f339.wf a ∧ f339.size a ≤ 1048576
def f339.args (a : ByteArray) : List D := [.str a]
def f339.blks (a : ByteArray) : List (List D) := []
def f339.res (a : ByteArray) : List D := [.bool (lawTrue a)]
def f339.blks' (a : ByteArray) : List (List D) := []
def f339.C : Contract := FnC f339.args f339.blks (fun a => f339.lpre a) f339.res f339.blks'
end Go.Abs

/- interregnum/interregnumlaw06.OperOne -/
namespace Go.Abs
open Go
set_option linter.unusedVariables false
def f339.kills (a : ByteArray) : List Hint := []
def f339.cuts (a : ByteArray) : List (Nat × Σ β : Type, β → Tm) := []
def f339.af (a : ByteArray) : AF := AF.mk (.seq (.region [⟨(some 2), 0, .move, [.c (.bool false)], none⟩])
 (.seq (.seq (.region [⟨(some 7), 1, (.call false 275), [], none⟩,
  ⟨(some 8), 5, (.un .not), [.t 7], none⟩])
 (.cond (.t 8) (.seq (.region [⟨(some 2), 6, .move, [.c (.bool false)], none⟩])
 (.ret)) (.skip)))
 (.seq (.region [⟨(some 10), 7, .move, [.t 0], none⟩,
  ⟨(some 11), 8, (.conv .s2b), [.t 10], none⟩,
  ⟨(some 12), 9, (.call false 349), [.t 11], none⟩,
  ⟨(some 9), 13, .move, [.t 12], none⟩,
  ⟨(some 13), 14, (.extract 0), [.t 9], none⟩,
  ⟨(some 14), 15, (.extract 1), [.t 9], none⟩,
  ⟨(some 3), 16, (.alloc [.int .i64 (0), .str ByteArray.empty, .int .i64 (0), .int .i64 (0), .int .i64 (0), .slice (.own 0) 2 0 gnil, .str ByteArray.empty, .int .i64 (0), .int .i64 (0), .int .i64 (0), .str ByteArray.empty, .str ByteArray.empty, .int .i64 (0), .int .i64 (0), .int .i64 (0), .int .i64 (0), .slice (.own 0) 2 0 gnil, .str ByteArray.empty, .str ByteArray.empty, .int .i64 (0), .str ByteArray.empty]), [], none⟩,
  ⟨none, 38, (.store 21), [.t 3, .t 13], none⟩,
  ⟨(some 4), 39, .move, [.t 14], none⟩])
 (.seq (.seq (.region [⟨(some 15), 40, .move, [.t 4], none⟩,
  ⟨(some 16), 41, (.bin .neq), [.t 15, .c (.int .i64 (0))], none⟩])
 (.cond (.t 16) (.seq (.region [⟨(some 17), 42, (.load true 21), [.t 3], none⟩,
  ⟨(some 18), 43, (.build [.int .i64 (0), .str ByteArray.empty, .int .i64 (0), .int .i64 (0), .int .i64 (0), .slice .full 2 0 gnil, .str ByteArray.empty, .int .i64 (0), .int .i64 (0), .int .i64 (0), .str ByteArray.empty, .str ByteArray.empty, .int .i64 (0), .int .i64 (0), .int .i64 (0), .int .i64 (0), .slice .full 2 0 gnil, .str ByteArray.empty, .str ByteArray.empty, .int .i64 (0), .str ByteArray.empty] []), [], none⟩,
  ⟨(some 19), 44, (.call false 351), [.t 17, .t 18], none⟩,
  ⟨(some 2), 48, .move, [.t 19], none⟩])
 (.ret)) (.skip)))
 (.seq (.region [⟨(some 21), 49, (.load true 21), [.t 3], none⟩,
  ⟨(some 22), 50, (.call false 277), [.t 21], none⟩,
  ⟨(some 20), 54, .move, [.t 22], none⟩,
  ⟨(some 23), 55, (.extract 0), [.t 20], none⟩,
  ⟨(some 24), 56, (.extract 1), [.t 20], none⟩,
  ⟨(some 5), 57, .move, [.t 23], none⟩,
  ⟨(some 6), 58, .move, [.t 24], none⟩])
 (.seq (.region [⟨(some 25), 59, .move, [.t 6], none⟩,
  ⟨(some 26), 60, (.bin .eql), [.t 25, .c (.int .i64 (0))], none⟩,
  ⟨(some 27), 61, .move, [.t 26], none⟩,
  ⟨(some 28), 62, .move, [.t 5], (some (27, true))⟩,
  ⟨(some 29), 63, (.conv .b2s), [.t 28], (some (27, true))⟩,
  ⟨(some 30), 64, .move, [.t 0], (some (27, true))⟩,
  ⟨(some 31), 65, (.bin .eql), [.t 29, .t 30], (some (27, true))⟩,
  ⟨(some 32), 66, .pick, [.t 27, .t 31, .c (.bool false)], none⟩,
  ⟨(some 33), 67, .move, [.t 32], none⟩,
  ⟨(some 34), 68, (.load true 21), [.t 3], (some (33, true))⟩,
  ⟨(some 35), 69, (.call false 152), [.t 34], (some (33, true))⟩,
  ⟨(some 36), 73, .pick, [.t 33, .t 35, .c (.bool false)], none⟩,
  ⟨(some 2), 74, .move, [.t 36], none⟩])
 (.ret)))))))
  [.tmp 2] 0 36
def f339.env : Env := [(275, f275.C), (349, f349.C), (351, f351.C), (277, f277.C), (152, f152.C)]
def f339.tree (a : ByteArray) : Prop := ∃ c1 : Unit, True ∧ Br (!(lawTrue c1)) ((false = (lawTrue a)) ∧ True) (∃ c5 : ByteArray, (a.size = c5.size) ∧ (∀ i, i < c5.size → DEqs ((gstr a) i) ((gstr c5) i)) ∧ (decO_pre c5) ∧ Br (((decO c5).2) != (0 : Int)) (∃ c8 : T_api_Op × T_api_Op, ((((decO c5).1).1) = c8.1.1) ∧ (((((decO c5).1).2.1).1) = c8.1.2.1.1) ∧ ((((((decO c5).1).2.1).2.1).1) = c8.1.2.1.2.1.1) ∧ ((((((decO c5).1).2.1).2.1).2.1) = c8.1.2.1.2.1.2.1) ∧ ((((((decO c5).1).2.1).2.1).2.2) = c8.1.2.1.2.1.2.2) ∧ ((((((decO c5).1).2.1).2.2).length) = c8.1.2.1.2.2.length) ∧ (∀ i, i < c8.1.2.1.2.2.length → DEqs ((gl e_api_Label ((((decO c5).1).2.1).2.2)) i) ((gl e_api_Label c8.1.2.1.2.2) i)) ∧ (((((decO c5).1).2.2.1).1) = c8.1.2.2.1.1) ∧ ((((((decO c5).1).2.2.1).2).1) = c8.1.2.2.1.2.1) ∧ ((((((decO c5).1).2.2.1).2).2.1) = c8.1.2.2.1.2.2.1) ∧ ((((((decO c5).1).2.2.1).2).2.2) = c8.1.2.2.1.2.2.2) ∧ (((((decO c5).1).2.2.2.1).1) = c8.1.2.2.2.1.1) ∧ (((((decO c5).1).2.2.2.1).2.1) = c8.1.2.2.2.1.2.1) ∧ (((((decO c5).1).2.2.2.1).2.2.1) = c8.1.2.2.2.1.2.2.1) ∧ ((((((decO c5).1).2.2.2.1).2.2.2.1).1) = c8.1.2.2.2.1.2.2.2.1.1) ∧ ((((((decO c5).1).2.2.2.1).2.2.2.1).2.1) = c8.1.2.2.2.1.2.2.2.1.2.1) ∧ ((((((decO c5).1).2.2.2.1).2.2.2.1).2.2) = c8.1.2.2.2.1.2.2.2.1.2.2) ∧ ((((((decO c5).1).2.2.2.1).2.2.2.2.1).length) = c8.1.2.2.2.1.2.2.2.2.1.length) ∧ (∀ i, i < c8.1.2.2.2.1.2.2.2.2.1.length → DEqs ((gl e_api_Label ((((decO c5).1).2.2.2.1).2.2.2.2.1)) i) ((gl e_api_Label c8.1.2.2.2.1.2.2.2.2.1) i)) ∧ (((((decO c5).1).2.2.2.1).2.2.2.2.2.1) = c8.1.2.2.2.1.2.2.2.2.2.1) ∧ (((((decO c5).1).2.2.2.1).2.2.2.2.2.2.1) = c8.1.2.2.2.1.2.2.2.2.2.2.1) ∧ (((((decO c5).1).2.2.2.1).2.2.2.2.2.2.2) = c8.1.2.2.2.1.2.2.2.2.2.2.2) ∧ ((((decO c5).1).2.2.2.2) = c8.1.2.2.2.2) ∧ ((0 : Int) = c8.2.1) ∧ (ByteArray.empty = c8.2.2.1.1) ∧ ((0 : Int) = c8.2.2.1.2.1.1) ∧ ((0 : Int) = c8.2.2.1.2.1.2.1) ∧ ((0 : Int) = c8.2.2.1.2.1.2.2) ∧ (0 = c8.2.2.1.2.2.length) ∧ (∀ i, i < c8.2.2.1.2.2.length → DEqs (gnil i) ((gl e_api_Label c8.2.2.1.2.2) i)) ∧ (ByteArray.empty = c8.2.2.2.1.1) ∧ ((0 : Int) = c8.2.2.2.1.2.1) ∧ ((0 : Int) = c8.2.2.2.1.2.2.1) ∧ ((0 : Int) = c8.2.2.2.1.2.2.2) ∧ (ByteArray.empty = c8.2.2.2.2.1.1) ∧ (ByteArray.empty = c8.2.2.2.2.1.2.1) ∧ ((0 : Int) = c8.2.2.2.2.1.2.2.1) ∧ ((0 : Int) = c8.2.2.2.2.1.2.2.2.1.1) ∧ ((0 : Int) = c8.2.2.2.2.1.2.2.2.1.2.1) ∧ ((0 : Int) = c8.2.2.2.2.1.2.2.2.1.2.2) ∧ (0 = c8.2.2.2.2.1.2.2.2.2.1.length) ∧ (∀ i, i < c8.2.2.2.2.1.2.2.2.2.1.length → DEqs (gnil i) ((gl e_api_Label c8.2.2.2.2.1.2.2.2.2.1) i)) ∧ (ByteArray.empty = c8.2.2.2.2.1.2.2.2.2.2.1) ∧ (ByteArray.empty = c8.2.2.2.2.1.2.2.2.2.2.2.1) ∧ ((0 : Int) = c8.2.2.2.2.1.2.2.2.2.2.2.2) ∧ (ByteArray.empty = c8.2.2.2.2.2) ∧ (sameOp_pre c8) ∧ ((sameOp c8) = (lawTrue a)) ∧ True) (∃ c11 : T_api_Op, ((((decO c5).1).1) = c11.1) ∧ (((((decO c5).1).2.1).1) = c11.2.1.1) ∧ ((((((decO c5).1).2.1).2.1).1) = c11.2.1.2.1.1) ∧ ((((((decO c5).1).2.1).2.1).2.1) = c11.2.1.2.1.2.1) ∧ ((((((decO c5).1).2.1).2.1).2.2) = c11.2.1.2.1.2.2) ∧ ((((((decO c5).1).2.1).2.2).length) = c11.2.1.2.2.length) ∧ (∀ i, i < c11.2.1.2.2.length → DEqs ((gl e_api_Label ((((decO c5).1).2.1).2.2)) i) ((gl e_api_Label c11.2.1.2.2) i)) ∧ (((((decO c5).1).2.2.1).1) = c11.2.2.1.1) ∧ ((((((decO c5).1).2.2.1).2).1) = c11.2.2.1.2.1) ∧ ((((((decO c5).1).2.2.1).2).2.1) = c11.2.2.1.2.2.1) ∧ ((((((decO c5).1).2.2.1).2).2.2) = c11.2.2.1.2.2.2) ∧ (((((decO c5).1).2.2.2.1).1) = c11.2.2.2.1.1) ∧ (((((decO c5).1).2.2.2.1).2.1) = c11.2.2.2.1.2.1) ∧ (((((decO c5).1).2.2.2.1).2.2.1) = c11.2.2.2.1.2.2.1) ∧ ((((((decO c5).1).2.2.2.1).2.2.2.1).1) = c11.2.2.2.1.2.2.2.1.1) ∧ ((((((decO c5).1).2.2.2.1).2.2.2.1).2.1) = c11.2.2.2.1.2.2.2.1.2.1) ∧ ((((((decO c5).1).2.2.2.1).2.2.2.1).2.2) = c11.2.2.2.1.2.2.2.1.2.2) ∧ ((((((decO c5).1).2.2.2.1).2.2.2.2.1).length) = c11.2.2.2.1.2.2.2.2.1.length) ∧ (∀ i, i < c11.2.2.2.1.2.2.2.2.1.length → DEqs ((gl e_api_Label ((((decO c5).1).2.2.2.1).2.2.2.2.1)) i) ((gl e_api_Label c11.2.2.2.1.2.2.2.2.1) i)) ∧ (((((decO c5).1).2.2.2.1).2.2.2.2.2.1) = c11.2.2.2.1.2.2.2.2.2.1) ∧ (((((decO c5).1).2.2.2.1).2.2.2.2.2.2.1) = c11.2.2.2.1.2.2.2.2.2.2.1) ∧ (((((decO c5).1).2.2.2.1).2.2.2.2.2.2.2) = c11.2.2.2.1.2.2.2.2.2.2.2) ∧ ((((decO c5).1).2.2.2.2) = c11.2.2.2.2) ∧ (encO_pre c11) ∧ Br (((encO c11).2) == (0 : Int)) (Bytes (((encO c11).1).size) (gstr ((encO c11).1)) ∧ Let (textOf (((encO c11).1).size) (gstr ((encO c11).1))) (fun v14 : ByteArray => Br (v14.toList == a.toList) (∃ c17 : T_api_Op, ((((decO c5).1).1) = c17.1) ∧ (((((decO c5).1).2.1).1) = c17.2.1.1) ∧ ((((((decO c5).1).2.1).2.1).1) = c17.2.1.2.1.1) ∧ ((((((decO c5).1).2.1).2.1).2.1) = c17.2.1.2.1.2.1) ∧ ((((((decO c5).1).2.1).2.1).2.2) = c17.2.1.2.1.2.2) ∧ ((((((decO c5).1).2.1).2.2).length) = c17.2.1.2.2.length) ∧ (∀ i, i < c17.2.1.2.2.length → DEqs ((gl e_api_Label ((((decO c5).1).2.1).2.2)) i) ((gl e_api_Label c17.2.1.2.2) i)) ∧ (((((decO c5).1).2.2.1).1) = c17.2.2.1.1) ∧ ((((((decO c5).1).2.2.1).2).1) = c17.2.2.1.2.1) ∧ ((((((decO c5).1).2.2.1).2).2.1) = c17.2.2.1.2.2.1) ∧ ((((((decO c5).1).2.2.1).2).2.2) = c17.2.2.1.2.2.2) ∧ (((((decO c5).1).2.2.2.1).1) = c17.2.2.2.1.1) ∧ (((((decO c5).1).2.2.2.1).2.1) = c17.2.2.2.1.2.1) ∧ (((((decO c5).1).2.2.2.1).2.2.1) = c17.2.2.2.1.2.2.1) ∧ ((((((decO c5).1).2.2.2.1).2.2.2.1).1) = c17.2.2.2.1.2.2.2.1.1) ∧ ((((((decO c5).1).2.2.2.1).2.2.2.1).2.1) = c17.2.2.2.1.2.2.2.1.2.1) ∧ ((((((decO c5).1).2.2.2.1).2.2.2.1).2.2) = c17.2.2.2.1.2.2.2.1.2.2) ∧ ((((((decO c5).1).2.2.2.1).2.2.2.2.1).length) = c17.2.2.2.1.2.2.2.2.1.length) ∧ (∀ i, i < c17.2.2.2.1.2.2.2.2.1.length → DEqs ((gl e_api_Label ((((decO c5).1).2.2.2.1).2.2.2.2.1)) i) ((gl e_api_Label c17.2.2.2.1.2.2.2.2.1) i)) ∧ (((((decO c5).1).2.2.2.1).2.2.2.2.2.1) = c17.2.2.2.1.2.2.2.2.2.1) ∧ (((((decO c5).1).2.2.2.1).2.2.2.2.2.2.1) = c17.2.2.2.1.2.2.2.2.2.2.1) ∧ (((((decO c5).1).2.2.2.1).2.2.2.2.2.2.2) = c17.2.2.2.1.2.2.2.2.2.2.2) ∧ ((((decO c5).1).2.2.2.2) = c17.2.2.2.2) ∧ (op_pre c17) ∧ ((rightO c17) = (lawTrue a)) ∧ True) ((false = (lawTrue a)) ∧ True))) ((false = (lawTrue a)) ∧ True)))
def f339.vc (a : ByteArray) : Prop := ((¬ ((lawTrue ()) = true) → (false = lawTrue a)) ∧ (¬ (¬ ((lawTrue ()) = true)) → (decO_pre a ∧ ((¬ ((decO a).2) = (0 : Int) → (sameOp_pre (((decO a).1), ((0 : Int), (ByteArray.empty, ((0 : Int), (0 : Int), (0 : Int)), []), (ByteArray.empty, ((0 : Int), (0 : Int), (0 : Int))), (ByteArray.empty, ByteArray.empty, (0 : Int), ((0 : Int), (0 : Int), (0 : Int)), [], ByteArray.empty, ByteArray.empty, (0 : Int)), ByteArray.empty)) ∧ ((sameOp (((decO a).1), ((0 : Int), (ByteArray.empty, ((0 : Int), (0 : Int), (0 : Int)), []), (ByteArray.empty, ((0 : Int), (0 : Int), (0 : Int))), (ByteArray.empty, ByteArray.empty, (0 : Int), ((0 : Int), (0 : Int), (0 : Int)), [], ByteArray.empty, ByteArray.empty, (0 : Int)), ByteArray.empty))) = lawTrue a))) ∧ (¬ (¬ ((decO a).2) = (0 : Int)) → (encO_pre ((decO a).1) ∧ ((((encO ((decO a).1)).2) = (0 : Int) → ((((encO ((decO a).1)).1) = a → (op_pre ((decO a).1) ∧ ((rightO ((decO a).1)) = lawTrue a))) ∧ (¬ (((encO ((decO a).1)).1) = a) → (false = lawTrue a)))) ∧ (¬ (((encO ((decO a).1)).2) = (0 : Int)) → (false = lawTrue a)))))))))
set_option maxRecDepth 100000 in
set_option maxHeartbeats 2000000 in
theorem f339.of (a : ByteArray) (h : f339.vc a) : f339.tree a := ⟨(), ⟨trivial, br h (Cnd.not Cnd.b) (fun h2 k30 => ⟨k30, trivial⟩) (fun h3 k31 => ⟨a, slK RdB.self (⟨k31.1, br k31.2 Cnd.ne (fun h6 k27 => ⟨(((decO a).1), ((0 : Int), (ByteArray.empty, ((0 : Int), (0 : Int), (0 : Int)), []), (ByteArray.empty, ((0 : Int), (0 : Int), (0 : Int))), (ByteArray.empty, ByteArray.empty, (0 : Int), ((0 : Int), (0 : Int), (0 : Int)), [], ByteArray.empty, ByteArray.empty, (0 : Int)), ByteArray.empty)), ⟨rfl, ⟨rfl, ⟨rfl, ⟨rfl, ⟨rfl, slK (Rds.self (enc := e_api_Label)) (⟨rfl, ⟨rfl, ⟨rfl, ⟨rfl, ⟨rfl, ⟨rfl, ⟨rfl, ⟨rfl, ⟨rfl, ⟨rfl, slK (Rds.self (enc := e_api_Label)) (⟨rfl, ⟨rfl, ⟨rfl, ⟨rfl, ⟨rfl, ⟨rfl, ⟨rfl, ⟨rfl, ⟨rfl, slK (Rds.nil (enc := e_api_Label)) (⟨rfl, ⟨rfl, ⟨rfl, ⟨rfl, ⟨rfl, ⟨rfl, ⟨rfl, ⟨rfl, ⟨rfl, ⟨rfl, slK (Rds.nil (enc := e_api_Label)) (⟨rfl, ⟨rfl, ⟨rfl, ⟨rfl, ⟨k27.1, ⟨k27.2, trivial⟩⟩⟩⟩⟩⟩)⟩⟩⟩⟩⟩⟩⟩⟩⟩⟩)⟩⟩⟩⟩⟩⟩⟩⟩⟩)⟩⟩⟩⟩⟩⟩⟩⟩⟩⟩)⟩⟩⟩⟩⟩⟩) (fun h7 k28 => ⟨((decO a).1), ⟨rfl, ⟨rfl, ⟨rfl, ⟨rfl, ⟨rfl, slK (Rds.self (enc := e_api_Label)) (⟨rfl, ⟨rfl, ⟨rfl, ⟨rfl, ⟨rfl, ⟨rfl, ⟨rfl, ⟨rfl, ⟨rfl, ⟨rfl, slK (Rds.self (enc := e_api_Label)) (⟨rfl, ⟨rfl, ⟨rfl, ⟨rfl, ⟨k28.1, br k28.2 Cnd.eq (fun h12 k24 => b2s k24 RdB.self (fun h => br h Cnd.seq (fun h15 k21 => ⟨((decO a).1), ⟨rfl, ⟨rfl, ⟨rfl, ⟨rfl, ⟨rfl, slK (Rds.self (enc := e_api_Label)) (⟨rfl, ⟨rfl, ⟨rfl, ⟨rfl, ⟨rfl, ⟨rfl, ⟨rfl, ⟨rfl, ⟨rfl, ⟨rfl, slK (Rds.self (enc := e_api_Label)) (⟨rfl, ⟨rfl, ⟨rfl, ⟨rfl, ⟨k21.1, ⟨k21.2, trivial⟩⟩⟩⟩⟩⟩)⟩⟩⟩⟩⟩⟩⟩⟩⟩⟩)⟩⟩⟩⟩⟩⟩) (fun h16 k22 => ⟨k22, trivial⟩))) (fun h13 k25 => ⟨k25, trivial⟩)⟩⟩⟩⟩⟩)⟩⟩⟩⟩⟩⟩⟩⟩⟩⟩)⟩⟩⟩⟩⟩⟩)⟩)⟩)⟩⟩
theorem f339.eq (a : ByteArray) : (f339.af a).gives f339.env (f339.args a) (f339.blks a) (f339.res a) (f339.blks' a) = f339.tree a := by kernel_rfl
end Go.Abs

/- The laws of layer 6. -/
namespace Go.Abs
open Go

/-- An operation at a place. -/
def takeOp (a : ByteArray × Int) : TOp × Int × Int :=
  if (takeN a).2.2 ≠ 0 then (zOp, 0, (takeN a).2.2) else
  if 9 < (takeN a).1 then (zOp, 0, 3) else
  if (takesO (((takeN a).1, zNode, zQueue, zTask, ByteArray.empty), a.1, (takeN a).2.1)).2.1 ≠ 0 then (zOp, 0, (takesO (((takeN a).1, zNode, zQueue, zTask, ByteArray.empty), a.1, (takeN a).2.1)).2.1) else
  ((takesO (((takeN a).1, zNode, zQueue, zTask, ByteArray.empty), a.1, (takeN a).2.1)).2.2, (takesO (((takeN a).1, zNode, zQueue, zTask, ByteArray.empty), a.1, (takeN a).2.1)).1, 0)

theorem decO_eq (b : ByteArray) : decO b = if (takeOp (b, 0)).2.2 ≠ 0 then (zOp, (takeOp (b, 0)).2.2) else if (takeOp (b, 0)).2.1 ≠ b.size then (zOp, 3) else ((takeOp (b, 0)).1, 0) := by
  unfold decO takeOp decBody
  by_cases c1 : (takeN (b, 0)).2.2 = 0
  · rw [if_neg (not_not_intro c1), if_neg (not_not_intro c1)]
    by_cases c2 : 9 < (takeN (b, 0)).1
    · rw [if_pos c2, if_pos c2]; rfl
    · rw [if_neg c2, if_neg c2]
      generalize takesO (((takeN (b, 0)).1, zNode, zQueue, zTask, ByteArray.empty), b, (takeN (b, 0)).2.1) = s
      by_cases c3 : s.2.1 = 0
      · by_cases c4 : s.1 = (b.size : Int) <;> simp [c3, c4]
      · rw [if_pos c3, if_pos c3, if_pos c3]
  · rw [if_pos c1, if_pos c1, if_pos c1]

theorem zz : zeroNodeB zNode = true ∧ zeroTaskB zTask = true := ⟨sameNode_eq.2 rfl, sameTask_eq.2 rfl⟩

theorem bare_of {k : Int} {n : TNode} {q : TQueue} {t : TTask} {m : ByteArray} (hn : k = 1 ∨ n = zNode) (hq : k = 3 ∨ q = zQueue) (ht : k = 5 ∨ t = zTask) (hm : namedB k = true ∨ m = ByteArray.empty) : bareB (k, n, q, t, m) = true := by
  rw [bareB_iff]
  refine ⟨hn.imp id fun h => ?_, hq.imp id fun h => zQ_iff.1 h, ht.imp id fun h => ?_, hm⟩
  · show zN n; rw [h]; exact zN_iff.1 zz.1
  · show zT t; rw [h]; exact zT_iff.1 zz.2
theorem bare_to {k : Int} {n : TNode} {q : TQueue} {t : TTask} {m : ByteArray} (h : bareB (k, n, q, t, m) = true) : (k = 1 ∨ n = zNode) ∧ (k = 3 ∨ q = zQueue) ∧ (k = 5 ∨ t = zTask) ∧ (namedB k = true ∨ m = ByteArray.empty) := by
  rw [bareB_iff, ← zN_iff, ← zT_iff, ← zQ_iff] at h
  obtain ⟨h1, h2, h3, h4⟩ := h
  exact ⟨h1.imp id fun h => sameNode_eq.1 h, h2, h3.imp id fun h => sameTask_eq.1 h, h4⟩

theorem op_one : One takeOp rightO opS := fun b i e => by
  unfold takeOp at e ⊢
  simp only at e ⊢
  by_cases c1 : (takeN (b, i)).2.2 = 0
  · rw [if_neg (not_not_intro c1)] at e ⊢
    obtain ⟨t1, t2, t3, t4⟩ := takeN_ok c1
    have hb := takeN_bd (b, i)
    generalize takeN (b, i) = t at *
    by_cases c2 : 9 < t.1
    · rw [if_pos c2] at e; simp at e
    · rw [if_neg c2] at e ⊢
      generalize hs : takesO ((t.1, zNode, zQueue, zTask, ByteArray.empty), b, t.2.1) = s at e ⊢
      by_cases c3 : s.2.1 = 0
      · rw [if_neg (not_not_intro c3)] at e ⊢
        have fin : ∀ (x : Int) (o : TOp), s = (x, 0, o) → o.1 = t.1 → rightO o = true → t.2.1 ≤ x → x ≤ b.size → subB b t.2.1 x = opBody o → rightO s.2.2 = true ∧ 0 ≤ i ∧ i ≤ s.1 ∧ s.1 ≤ b.size ∧ subB b i s.1 = opS s.2.2 := fun x o h1 h2 h3 h4 h5 h6 => by
          rw [h1]
          refine ⟨h3, t1, by simp only; omega, h5, ?_⟩
          simp only
          unfold opS
          rw [h2, ← h6, t4, subB_app t1 (by omega) h4 h5]
        unfold takesO at hs
        simp only at hs
        by_cases k1 : t.1 = 1
        · rw [if_pos k1] at hs
          have z : (takeNode (b, t.2.1)).2.2 = 0 := by rw [← hs] at c3; exact c3
          obtain ⟨o1, o2, o3, o4, o5⟩ := node_one b _ z
          rw [z] at hs
          refine fin _ _ hs.symm rfl ?_ o3 o4 ?_
          · exact rightO_iff.2 ⟨bare_of (.inl k1) (.inr rfl) (.inr rfl) (.inr rfl), .inl ⟨k1, o1⟩⟩
          · rw [o5]; unfold opBody; rw [if_pos k1, nodeS_ok o1]
        rw [if_neg k1] at hs
        by_cases k3 : t.1 = 3
        · rw [if_pos k3] at hs
          have z : (takeQueue (b, t.2.1)).2.2 = 0 := by rw [← hs] at c3; exact c3
          obtain ⟨o1, o2, o3, o4, o5⟩ := queue_one b _ z
          rw [z] at hs
          refine fin _ _ hs.symm rfl ?_ o3 o4 ?_
          · exact rightO_iff.2 ⟨bare_of (.inr rfl) (.inl k3) (.inr rfl) (.inr rfl), .inr (.inl ⟨k3, o1⟩)⟩
          · rw [o5]; unfold opBody; rw [if_neg k1, if_pos k3, queueS_ok o1]
        rw [if_neg k3] at hs
        by_cases k5 : t.1 = 5
        · rw [if_pos k5] at hs
          have z : (takeTask (b, t.2.1)).2.2 = 0 := by rw [← hs] at c3; exact c3
          obtain ⟨o1, o2, o3, o4, o5⟩ := task_one b _ z
          rw [z] at hs
          refine fin _ _ hs.symm rfl ?_ o3 o4 ?_
          · exact rightO_iff.2 ⟨bare_of (.inr rfl) (.inr rfl) (.inl k5) (.inr rfl), .inr (.inr (.inl ⟨k5, o1⟩))⟩
          · rw [o5]; unfold opBody; rw [if_neg k1, if_neg k3, if_pos k5, taskS_ok o1]
        rw [if_neg k5] at hs
        by_cases kn : namedB t.1 = true
        · rw [if_pos kn] at hs
          have hk9 : t.1 ≠ 9 := by have := named_iff.1 kn; omega
          have z : ¬ ((takeText (b, t.2.1, 16)).2.2 = 0 ∧ ¬ nameB (takeText (b, t.2.1, 16)).1 = true) := fun hh => by
            rw [if_pos hh] at hs; rw [← hs] at c3; simp at c3
          rw [if_neg z] at hs
          have z0 : (takeText (b, t.2.1, 16)).2.2 = 0 := by rw [← hs] at c3; exact c3
          have zn : nameB (takeText (b, t.2.1, 16)).1 = true := Classical.not_not.1 fun hh => z ⟨z0, hh⟩
          obtain ⟨p1, p2, p3, p4, p5⟩ := takeText_ok z0
          rw [z0] at hs
          refine fin _ _ hs.symm rfl ?_ (by omega) p2 ?_
          · exact rightO_iff.2 ⟨bare_of (.inr rfl) (.inr rfl) (.inr rfl) (.inl kn), .inr (.inr (.inr (.inr ⟨kn, zn⟩)))⟩
          · rw [← p5]; unfold opBody; rw [if_neg k1, if_neg k3, if_neg k5, if_neg hk9]; rfl
        rw [if_neg kn] at hs
        by_cases k9 : t.1 = 9
        · rw [if_pos k9] at hs
          refine fin _ _ hs.symm rfl ?_ (Int.le_refl _) t3 ?_
          · exact rightO_iff.2 ⟨bare_of (.inr rfl) (.inr rfl) (.inr rfl) (.inr rfl), .inr (.inr (.inr (.inl k9)))⟩
          · unfold opBody
            rw [if_neg k1, if_neg k3, if_neg k5, if_pos k9]
            have := subB_size (b := b) (i := t.2.1) (j := t.2.1) (by omega) (Int.le_refl _) t3
            exact size_zero.2 (by omega)
        · rw [if_neg k9] at hs
          rw [← hs] at c3
          simp at c3
      · rw [if_pos c3] at e
        exact absurd e c3
  · rw [if_pos c1] at e
    exact absurd e c1

theorem op_pre_ok {o : TOp} (h : rightO o = true) : op_pre o ∧ o.2.2.2.2.size ≤ 268435456 := by
  obtain ⟨k, n, q, t, m⟩ := o
  obtain ⟨hb, hc⟩ := rightO_iff.1 h
  obtain ⟨z1, z2, z3, z4⟩ := bare_to hb
  have zn : node_pre zNode := ⟨Nat.zero_le _, fun x hx => absurd hx List.not_mem_nil⟩
  have zq : queue_pre zQueue := Nat.zero_le _
  have zt : task_pre zTask := ⟨Nat.zero_le _, Nat.zero_le _, fun x hx => absurd hx List.not_mem_nil, Nat.zero_le _, Nat.zero_le _⟩
  have hn : node_pre n ∧ n.2.2.length ≤ 1048576 := by
    rcases z1 with e | e
    · rcases hc with ⟨_, h1⟩ | ⟨e2, _⟩ | ⟨e2, _⟩ | e2 | ⟨e2, _⟩
      · exact ⟨node_pre_ok h1, lbl_L20 (nodeB_iff.1 h1).2.2⟩
      · simp only at e2; omega
      · simp only at e2; omega
      · simp only at e2; omega
      · have := named_iff.1 e2; omega
    · rw [e]; exact ⟨zn, Nat.zero_le _⟩
  have hq : queue_pre q := by
    rcases z2 with e | e
    · rcases hc with ⟨e2, _⟩ | ⟨_, h1⟩ | ⟨e2, _⟩ | e2 | ⟨e2, _⟩
      · simp only at e2; omega
      · exact queue_pre_ok h1
      · simp only at e2; omega
      · simp only at e2; omega
      · have := named_iff.1 e2; omega
    · rw [e]; exact zq
  have ht : task_pre t ∧ t.2.2.2.2.1.length ≤ 1048576 := by
    rcases z3 with e | e
    · rcases hc with ⟨e2, _⟩ | ⟨e2, _⟩ | ⟨_, h1⟩ | e2 | ⟨e2, _⟩
      · simp only at e2; omega
      · simp only at e2; omega
      · exact ⟨task_pre_ok h1, lbl_L20 (taskB_iff.1 h1).2.2.2.2.1⟩
      · simp only at e2; omega
      · have := named_iff.1 e2; omega
    · rw [e]; exact ⟨zt, Nat.zero_le _⟩
  have hm : m.size ≤ 16 := by
    rcases z4 with e | e
    · have hk4 := named_iff.1 e
      rcases hc with ⟨e2, _⟩ | ⟨e2, _⟩ | ⟨e2, _⟩ | e2 | ⟨_, h1⟩
      · simp only at e2; omega
      · simp only at e2; omega
      · simp only at e2; omega
      · simp only at e2; omega
      · exact name_size h1
    · rw [e]; exact Nat.zero_le _
  exact ⟨⟨hn.1, hq, ht.1, name16 hm, hn.2, ht.2⟩, by simp only; omega⟩

theorem dec_pre (b : ByteArray) : (decO b).1.2.1.2.2.length ≤ 1048576 ∧ (decO b).1.2.2.2.1.2.2.2.2.1.length ≤ 1048576 := by
  rw [decO_eq]
  split
  · exact ⟨Nat.zero_le _, Nat.zero_le _⟩
  · split
    · exact ⟨Nat.zero_le _, Nat.zero_le _⟩
    · rename_i c _
      have := (op_pre_ok (op_one b 0 (Classical.not_not.1 c)).1).1
      exact ⟨this.2.2.2.2.1, this.2.2.2.2.2⟩

theorem sameOp_refl (o : TOp) : sameOp (o, o) = true := by
  unfold sameOp
  simp only [decide_true, Bool.true_and, Bool.and_eq_true, and_self]
  exact ⟨sameNode_eq.2 rfl, sameTask_eq.2 rfl⟩

theorem dec_err {b : ByteArray} (h : ¬ (decO b).2 = 0) : (decO b).1 = zOp := by
  rw [decO_eq] at h ⊢
  split
  · rfl
  · rename_i c
    rw [if_neg c] at h
    split
    · rfl
    · rename_i c2
      rw [if_neg c2] at h
      exact absurd rfl h

theorem dec_one {b : ByteArray} (h : (decO b).2 = 0) : rightO (decO b).1 = true ∧ opS (decO b).1 = b := by
  rw [decO_eq] at h ⊢
  by_cases c : (takeOp (b, 0)).2.2 = 0
  · rw [if_neg (not_not_intro c)] at h ⊢
    by_cases c2 : (takeOp (b, 0)).2.1 = b.size
    · rw [if_neg (not_not_intro c2)] at h ⊢
      obtain ⟨o1, o2, o3, o4, o5⟩ := op_one b 0 c
      refine ⟨o1, ?_⟩
      rw [← o5, c2, subB_all]
    · rw [if_pos c2] at h
      simp at h
  · rw [if_pos c] at h
    exact absurd h c

theorem f339.ok (a : ByteArray) (h : f339.lpre a) : f339.vc a := by
  obtain ⟨_, hs⟩ := h
  have hs : a.size + 1 ≤ 1048576 := hs
  have hd : decO_pre a := show a.size ≤ 536870912 by omega
  obtain ⟨l1, l2⟩ := dec_pre a
  refine ⟨fun c => absurd rfl c, fun _ => ⟨hd, fun c => ⟨⟨⟨l1, Nat.zero_le _⟩, ⟨l2, Nat.zero_le _⟩⟩, ?_⟩, fun c => ?_⟩⟩
  · rw [dec_err c]; exact sameOp_refl zOp
  · obtain ⟨o1, o2⟩ := dec_one (Classical.not_not.1 c)
    obtain ⟨p1, p2⟩ := op_pre_ok o1
    have e : encO (decO a).1 = (opS (decO a).1, 0) := by unfold encO; rw [if_pos o1]
    refine ⟨⟨p1, p2⟩, fun _ => ⟨fun _ => ⟨p1, o1⟩, fun d => absurd ?_ d⟩, fun d => absurd (by rw [e]) d⟩
    rw [e]
    exact o2

end Go.Abs
