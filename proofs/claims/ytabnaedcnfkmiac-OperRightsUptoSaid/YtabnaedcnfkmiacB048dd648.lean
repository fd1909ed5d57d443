/- Functions, and what the code asks of them: POperLaw. -/
import Derived.KernelRfl
import Derived.Test.YtabnaedcnfkmiacB29df64bd
import Derived.Test.YtabnaedcnfkmiacB73c0449e
import Derived.Test.YtabnaedcnfkmiacB83512007
import Derived.Test.YtabnaedcnfkmiacB9ec639c5
import Derived.Test.YtabnaedcnfkmiacB663b6f9e
import Derived.Test.YtabnaedcnfkmiacBbfb84570
import Derived.Test.YtabnaedcnfkmiacBfff2f916
import Derived.Test.YtabnaedcnfkmiacBa2de5920
import Derived.Test.YtabnaedcnfkmiacB830fedc4
import Derived.Test.YtabnaedcnfkmiacB9c1c2cfa
import Derived.Test.YtabnaedcnfkmiacB2cbce122
set_option linter.unusedVariables false
set_option linter.unusedSimpArgs false
-- interregnum/interregnumref06.Decode
namespace Go.Abs
open Go
end Go.Abs

/- interregnum/interregnumref06.Decode -/
namespace Go.Abs
open Go
set_option linter.unusedVariables false
end Go.Abs

-- interregnum/interregnumlaw06.OperRights
namespace Go.Abs
open Go
def f264.wf (a : T_api_Op) : Prop := k_api_Op.ok a
def f264.size (a : T_api_Op) : Nat := k_api_Op.size a
def f264.lpre (a : T_api_Op) : Prop := f264.wf a ∧ f264.size a ≤ 1048576
def f264.args (a : T_api_Op) : List D := [.agg [.int .i64 a.1, .str a.2.1.1, .int .i64 a.2.1.2.1.1, .int .i64 a.2.1.2.1.2.1, .int .i64 a.2.1.2.1.2.2, .slice .ro 2 a.2.1.2.2.length (gl e_api_Label a.2.1.2.2), .str a.2.2.1.1, .int .i64 a.2.2.1.2.1, .int .i64 a.2.2.1.2.2.1, .int .i64 a.2.2.1.2.2.2, .str a.2.2.2.1.1, .str a.2.2.2.1.2.1, .int .i64 a.2.2.2.1.2.2.1, .int .i64 a.2.2.2.1.2.2.2.1.1, .int .i64 a.2.2.2.1.2.2.2.1.2.1, .int .i64 a.2.2.2.1.2.2.2.1.2.2, .slice .ro 2 a.2.2.2.1.2.2.2.2.1.length (gl e_api_Label a.2.2.2.1.2.2.2.2.1), .str a.2.2.2.1.2.2.2.2.2.1, .str a.2.2.2.1.2.2.2.2.2.2.1, .int .i64 a.2.2.2.1.2.2.2.2.2.2.2, .str a.2.2.2.2]]
def f264.blks (a : T_api_Op) : List (List D) := []
def f264.res (a : T_api_Op) : List D := [.bool (lawTrue a)]
def f264.blks' (a : T_api_Op) : List (List D) := []
def f264.C : Contract := FnC f264.args f264.blks (fun a => f264.lpre a) f264.res f264.blks'
end Go.Abs

/- interregnum/interregnumlaw06.OperRights -/
namespace Go.Abs
open Go
set_option linter.unusedVariables false
def f264.kills (a : T_api_Op) : List Hint := []
def f264.cuts (a : T_api_Op) : List (Nat × Σ β : Type, β → Tm) := []
def f264.af (a : T_api_Op) : AF := AF.mk (.seq (.region [⟨(some 1), 0, .box, [.t 0], none⟩,
  ⟨(some 2), 1, .move, [.c (.bool false)], none⟩])
 (.seq (.seq (.region [⟨(some 7), 2, (.call false 275), [], none⟩,
  ⟨(some 8), 6, (.un .not), [.t 7], none⟩,
  ⟨(some 9), 7, .move, [.t 8], none⟩,
  ⟨(some 10), 8, (.load true 21), [.t 1], (some (9, false))⟩,
  ⟨(some 11), 9, (.call false 276), [.t 10], (some (9, false))⟩,
  ⟨(some 12), 13, (.un .not), [.t 11], (some (9, false))⟩,
  ⟨(some 13), 14, .pick, [.t 9, .c (.bool true), .t 12], none⟩])
 (.cond (.t 13) (.seq (.region [⟨(some 14), 15, (.call false 275), [], none⟩,
  ⟨(some 2), 19, .move, [.t 14], none⟩])
 (.ret)) (.skip)))
 (.seq (.region [⟨(some 16), 20, (.load true 21), [.t 1], none⟩,
  ⟨(some 17), 21, (.call false 277), [.t 16], none⟩,
  ⟨(some 15), 25, .move, [.t 17], none⟩,
  ⟨(some 18), 26, (.extract 0), [.t 15], none⟩,
  ⟨(some 19), 27, (.extract 1), [.t 15], none⟩,
  ⟨(some 3), 28, .move, [.t 18], none⟩,
  ⟨(some 4), 29, .move, [.t 19], none⟩])
 (.seq (.region [⟨(some 21), 30, (.load true 21), [.t 1], none⟩,
  ⟨(some 22), 31, (.call false 278), [.t 21], none⟩,
  ⟨(some 20), 35, .move, [.t 22], none⟩,
  ⟨(some 23), 36, (.extract 0), [.t 20], none⟩,
  ⟨(some 24), 37, (.extract 1), [.t 20], none⟩,
  ⟨(some 5), 38, .move, [.t 23], none⟩,
  ⟨(some 6), 39, .move, [.t 24], none⟩])
 (.seq (.region [⟨(some 25), 40, (.load true 21), [.t 1], none⟩,
  ⟨(some 26), 41, (.call false 152), [.t 25], none⟩,
  ⟨(some 27), 45, (.load true 21), [.t 1], none⟩,
  ⟨(some 28), 46, (.call false 279), [.t 27], none⟩,
  ⟨(some 29), 50, (.binB false), [.t 26, .t 28], none⟩,
  ⟨(some 30), 51, .move, [.t 29], none⟩,
  ⟨(some 31), 52, .move, [.t 3], (some (30, true))⟩,
  ⟨(some 32), 53, (.conv .b2s), [.t 31], (some (30, true))⟩,
  ⟨(some 33), 54, .move, [.t 5], (some (30, true))⟩,
  ⟨(some 34), 55, (.bin .eql), [.t 32, .t 33], (some (30, true))⟩,
  ⟨(some 35), 56, .pick, [.t 30, .t 34, .c (.bool false)], none⟩,
  ⟨(some 36), 57, .move, [.t 35], none⟩,
  ⟨(some 37), 58, .move, [.t 4], (some (36, true))⟩,
  ⟨(some 38), 59, .move, [.t 6], (some (36, true))⟩,
  ⟨(some 39), 60, (.bin .eql), [.t 37, .t 38], (some (36, true))⟩,
  ⟨(some 40), 61, .pick, [.t 36, .t 39, .c (.bool false)], none⟩,
  ⟨(some 2), 62, .move, [.t 40], none⟩])
 (.ret))))))
  [.tmp 2] 0 40
def f264.env : Env := [(275, f275.C), (276, f276.C), (277, f277.C), (278, f278.C), (152, f152.C), (279, f279.C)]
def f264.tree (a : T_api_Op) : Prop := ∃ c1 : Unit, True ∧ Br (!(lawTrue c1)) (∃ c4 : Unit, True ∧ ((lawTrue c4) = (lawTrue a)) ∧ True) (∃ c7 : T_api_Op, (a.1 = c7.1) ∧ (a.2.1.1 = c7.2.1.1) ∧ (a.2.1.2.1.1 = c7.2.1.2.1.1) ∧ (a.2.1.2.1.2.1 = c7.2.1.2.1.2.1) ∧ (a.2.1.2.1.2.2 = c7.2.1.2.1.2.2) ∧ (a.2.1.2.2.length = c7.2.1.2.2.length) ∧ (∀ i, i < c7.2.1.2.2.length → DEqs ((gl e_api_Label a.2.1.2.2) i) ((gl e_api_Label c7.2.1.2.2) i)) ∧ (a.2.2.1.1 = c7.2.2.1.1) ∧ (a.2.2.1.2.1 = c7.2.2.1.2.1) ∧ (a.2.2.1.2.2.1 = c7.2.2.1.2.2.1) ∧ (a.2.2.1.2.2.2 = c7.2.2.1.2.2.2) ∧ (a.2.2.2.1.1 = c7.2.2.2.1.1) ∧ (a.2.2.2.1.2.1 = c7.2.2.2.1.2.1) ∧ (a.2.2.2.1.2.2.1 = c7.2.2.2.1.2.2.1) ∧ (a.2.2.2.1.2.2.2.1.1 = c7.2.2.2.1.2.2.2.1.1) ∧ (a.2.2.2.1.2.2.2.1.2.1 = c7.2.2.2.1.2.2.2.1.2.1) ∧ (a.2.2.2.1.2.2.2.1.2.2 = c7.2.2.2.1.2.2.2.1.2.2) ∧ (a.2.2.2.1.2.2.2.2.1.length = c7.2.2.2.1.2.2.2.2.1.length) ∧ (∀ i, i < c7.2.2.2.1.2.2.2.2.1.length → DEqs ((gl e_api_Label a.2.2.2.1.2.2.2.2.1) i) ((gl e_api_Label c7.2.2.2.1.2.2.2.2.1) i)) ∧ (a.2.2.2.1.2.2.2.2.2.1 = c7.2.2.2.1.2.2.2.2.2.1) ∧ (a.2.2.2.1.2.2.2.2.2.2.1 = c7.2.2.2.1.2.2.2.2.2.2.1) ∧ (a.2.2.2.1.2.2.2.2.2.2.2 = c7.2.2.2.1.2.2.2.2.2.2.2) ∧ (a.2.2.2.2 = c7.2.2.2.2) ∧ (op_pre c7) ∧ Br (!(few6 c7)) (∃ c10 : Unit, True ∧ ((lawTrue c10) = (lawTrue a)) ∧ True) (∃ c13 : T_api_Op, (a.1 = c13.1) ∧ (a.2.1.1 = c13.2.1.1) ∧ (a.2.1.2.1.1 = c13.2.1.2.1.1) ∧ (a.2.1.2.1.2.1 = c13.2.1.2.1.2.1) ∧ (a.2.1.2.1.2.2 = c13.2.1.2.1.2.2) ∧ (a.2.1.2.2.length = c13.2.1.2.2.length) ∧ (∀ i, i < c13.2.1.2.2.length → DEqs ((gl e_api_Label a.2.1.2.2) i) ((gl e_api_Label c13.2.1.2.2) i)) ∧ (a.2.2.1.1 = c13.2.2.1.1) ∧ (a.2.2.1.2.1 = c13.2.2.1.2.1) ∧ (a.2.2.1.2.2.1 = c13.2.2.1.2.2.1) ∧ (a.2.2.1.2.2.2 = c13.2.2.1.2.2.2) ∧ (a.2.2.2.1.1 = c13.2.2.2.1.1) ∧ (a.2.2.2.1.2.1 = c13.2.2.2.1.2.1) ∧ (a.2.2.2.1.2.2.1 = c13.2.2.2.1.2.2.1) ∧ (a.2.2.2.1.2.2.2.1.1 = c13.2.2.2.1.2.2.2.1.1) ∧ (a.2.2.2.1.2.2.2.1.2.1 = c13.2.2.2.1.2.2.2.1.2.1) ∧ (a.2.2.2.1.2.2.2.1.2.2 = c13.2.2.2.1.2.2.2.1.2.2) ∧ (a.2.2.2.1.2.2.2.2.1.length = c13.2.2.2.1.2.2.2.2.1.length) ∧ (∀ i, i < c13.2.2.2.1.2.2.2.2.1.length → DEqs ((gl e_api_Label a.2.2.2.1.2.2.2.2.1) i) ((gl e_api_Label c13.2.2.2.1.2.2.2.2.1) i)) ∧ (a.2.2.2.1.2.2.2.2.2.1 = c13.2.2.2.1.2.2.2.2.2.1) ∧ (a.2.2.2.1.2.2.2.2.2.2.1 = c13.2.2.2.1.2.2.2.2.2.2.1) ∧ (a.2.2.2.1.2.2.2.2.2.2.2 = c13.2.2.2.1.2.2.2.2.2.2.2) ∧ (a.2.2.2.2 = c13.2.2.2.2) ∧ (encO_pre c13) ∧ ∃ c14 : T_api_Op, (a.1 = c14.1) ∧ (a.2.1.1 = c14.2.1.1) ∧ (a.2.1.2.1.1 = c14.2.1.2.1.1) ∧ (a.2.1.2.1.2.1 = c14.2.1.2.1.2.1) ∧ (a.2.1.2.1.2.2 = c14.2.1.2.1.2.2) ∧ (a.2.1.2.2.length = c14.2.1.2.2.length) ∧ (∀ i, i < c14.2.1.2.2.length → DEqs ((gl e_api_Label a.2.1.2.2) i) ((gl e_api_Label c14.2.1.2.2) i)) ∧ (a.2.2.1.1 = c14.2.2.1.1) ∧ (a.2.2.1.2.1 = c14.2.2.1.2.1) ∧ (a.2.2.1.2.2.1 = c14.2.2.1.2.2.1) ∧ (a.2.2.1.2.2.2 = c14.2.2.1.2.2.2) ∧ (a.2.2.2.1.1 = c14.2.2.2.1.1) ∧ (a.2.2.2.1.2.1 = c14.2.2.2.1.2.1) ∧ (a.2.2.2.1.2.2.1 = c14.2.2.2.1.2.2.1) ∧ (a.2.2.2.1.2.2.2.1.1 = c14.2.2.2.1.2.2.2.1.1) ∧ (a.2.2.2.1.2.2.2.1.2.1 = c14.2.2.2.1.2.2.2.1.2.1) ∧ (a.2.2.2.1.2.2.2.1.2.2 = c14.2.2.2.1.2.2.2.1.2.2) ∧ (a.2.2.2.1.2.2.2.2.1.length = c14.2.2.2.1.2.2.2.2.1.length) ∧ (∀ i, i < c14.2.2.2.1.2.2.2.2.1.length → DEqs ((gl e_api_Label a.2.2.2.1.2.2.2.2.1) i) ((gl e_api_Label c14.2.2.2.1.2.2.2.2.1) i)) ∧ (a.2.2.2.1.2.2.2.2.2.1 = c14.2.2.2.1.2.2.2.2.2.1) ∧ (a.2.2.2.1.2.2.2.2.2.2.1 = c14.2.2.2.1.2.2.2.2.2.2.1) ∧ (a.2.2.2.1.2.2.2.2.2.2.2 = c14.2.2.2.1.2.2.2.2.2.2.2) ∧ (a.2.2.2.2 = c14.2.2.2.2) ∧ (encO_pre c14) ∧ ∃ c15 : T_api_Op, (a.1 = c15.1) ∧ (a.2.1.1 = c15.2.1.1) ∧ (a.2.1.2.1.1 = c15.2.1.2.1.1) ∧ (a.2.1.2.1.2.1 = c15.2.1.2.1.2.1) ∧ (a.2.1.2.1.2.2 = c15.2.1.2.1.2.2) ∧ (a.2.1.2.2.length = c15.2.1.2.2.length) ∧ (∀ i, i < c15.2.1.2.2.length → DEqs ((gl e_api_Label a.2.1.2.2) i) ((gl e_api_Label c15.2.1.2.2) i)) ∧ (a.2.2.1.1 = c15.2.2.1.1) ∧ (a.2.2.1.2.1 = c15.2.2.1.2.1) ∧ (a.2.2.1.2.2.1 = c15.2.2.1.2.2.1) ∧ (a.2.2.1.2.2.2 = c15.2.2.1.2.2.2) ∧ (a.2.2.2.1.1 = c15.2.2.2.1.1) ∧ (a.2.2.2.1.2.1 = c15.2.2.2.1.2.1) ∧ (a.2.2.2.1.2.2.1 = c15.2.2.2.1.2.2.1) ∧ (a.2.2.2.1.2.2.2.1.1 = c15.2.2.2.1.2.2.2.1.1) ∧ (a.2.2.2.1.2.2.2.1.2.1 = c15.2.2.2.1.2.2.2.1.2.1) ∧ (a.2.2.2.1.2.2.2.1.2.2 = c15.2.2.2.1.2.2.2.1.2.2) ∧ (a.2.2.2.1.2.2.2.2.1.length = c15.2.2.2.1.2.2.2.2.1.length) ∧ (∀ i, i < c15.2.2.2.1.2.2.2.2.1.length → DEqs ((gl e_api_Label a.2.2.2.1.2.2.2.2.1) i) ((gl e_api_Label c15.2.2.2.1.2.2.2.2.1) i)) ∧ (a.2.2.2.1.2.2.2.2.2.1 = c15.2.2.2.1.2.2.2.2.2.1) ∧ (a.2.2.2.1.2.2.2.2.2.2.1 = c15.2.2.2.1.2.2.2.2.2.2.1) ∧ (a.2.2.2.1.2.2.2.2.2.2.2 = c15.2.2.2.1.2.2.2.2.2.2.2) ∧ (a.2.2.2.2 = c15.2.2.2.2) ∧ (op_pre c15) ∧ ∃ c16 : T_api_Op, (a.1 = c16.1) ∧ (a.2.1.1 = c16.2.1.1) ∧ (a.2.1.2.1.1 = c16.2.1.2.1.1) ∧ (a.2.1.2.1.2.1 = c16.2.1.2.1.2.1) ∧ (a.2.1.2.1.2.2 = c16.2.1.2.1.2.2) ∧ (a.2.1.2.2.length = c16.2.1.2.2.length) ∧ (∀ i, i < c16.2.1.2.2.length → DEqs ((gl e_api_Label a.2.1.2.2) i) ((gl e_api_Label c16.2.1.2.2) i)) ∧ (a.2.2.1.1 = c16.2.2.1.1) ∧ (a.2.2.1.2.1 = c16.2.2.1.2.1) ∧ (a.2.2.1.2.2.1 = c16.2.2.1.2.2.1) ∧ (a.2.2.1.2.2.2 = c16.2.2.1.2.2.2) ∧ (a.2.2.2.1.1 = c16.2.2.2.1.1) ∧ (a.2.2.2.1.2.1 = c16.2.2.2.1.2.1) ∧ (a.2.2.2.1.2.2.1 = c16.2.2.2.1.2.2.1) ∧ (a.2.2.2.1.2.2.2.1.1 = c16.2.2.2.1.2.2.2.1.1) ∧ (a.2.2.2.1.2.2.2.1.2.1 = c16.2.2.2.1.2.2.2.1.2.1) ∧ (a.2.2.2.1.2.2.2.1.2.2 = c16.2.2.2.1.2.2.2.1.2.2) ∧ (a.2.2.2.1.2.2.2.2.1.length = c16.2.2.2.1.2.2.2.2.1.length) ∧ (∀ i, i < c16.2.2.2.1.2.2.2.2.1.length → DEqs ((gl e_api_Label a.2.2.2.1.2.2.2.2.1) i) ((gl e_api_Label c16.2.2.2.1.2.2.2.2.1) i)) ∧ (a.2.2.2.1.2.2.2.2.2.1 = c16.2.2.2.1.2.2.2.2.2.1) ∧ (a.2.2.2.1.2.2.2.2.2.2.1 = c16.2.2.2.1.2.2.2.2.2.2.1) ∧ (a.2.2.2.1.2.2.2.2.2.2.2 = c16.2.2.2.1.2.2.2.2.2.2.2) ∧ (a.2.2.2.2 = c16.2.2.2.2) ∧ (op_pre c16) ∧ Br ((rightO c15) == (rightO c16)) (Bytes (((encO c13).1).size) (gstr ((encO c13).1)) ∧ Let (textOf (((encO c13).1).size) (gstr ((encO c13).1))) (fun v19 : ByteArray => Br (v19.toList == ((encO c14).1).toList) (((((encO c13).2) == ((encO c14).2)) = (lawTrue a)) ∧ True) ((false = (lawTrue a)) ∧ True))) ((false = (lawTrue a)) ∧ True)))
def f264.vc (a : T_api_Op) : Prop := ((¬ ((lawTrue ()) = true) → ((lawTrue ()) = lawTrue a)) ∧ (¬ (¬ ((lawTrue ()) = true)) → (op_pre a ∧ ((¬ ((few6 a) = true) → ((lawTrue ()) = lawTrue a)) ∧ (¬ (¬ ((few6 a) = true)) → (encO_pre a ∧ (encO_pre a ∧ (op_pre a ∧ (op_pre a ∧ ((((rightO a) == (rightO a)) = true → ((((encO a).1) = ((encO a).1) → ((((encO a).2) == ((encO a).2)) = lawTrue a)) ∧ (¬ (((encO a).1) = ((encO a).1)) → (false = lawTrue a)))) ∧ (¬ (((rightO a) == (rightO a)) = true) → (false = lawTrue a))))))))))))
set_option maxRecDepth 100000 in
set_option maxHeartbeats 2000000 in
theorem f264.of (a : T_api_Op) (h : f264.vc a) : f264.tree a := ⟨(), ⟨trivial, br h (Cnd.not Cnd.b) (fun h2 k36 => ⟨(), ⟨trivial, ⟨k36, trivial⟩⟩⟩) (fun h3 k37 => ⟨a, ⟨rfl, ⟨rfl, ⟨rfl, ⟨rfl, ⟨rfl, slK (Rds.self (enc := e_api_Label)) (⟨rfl, ⟨rfl, ⟨rfl, ⟨rfl, ⟨rfl, ⟨rfl, ⟨rfl, ⟨rfl, ⟨rfl, ⟨rfl, slK (Rds.self (enc := e_api_Label)) (⟨rfl, ⟨rfl, ⟨rfl, ⟨rfl, ⟨k37.1, br k37.2 (Cnd.not Cnd.b) (fun h8 k33 => ⟨(), ⟨trivial, ⟨k33, trivial⟩⟩⟩) (fun h9 k34 => ⟨a, ⟨rfl, ⟨rfl, ⟨rfl, ⟨rfl, ⟨rfl, slK (Rds.self (enc := e_api_Label)) (⟨rfl, ⟨rfl, ⟨rfl, ⟨rfl, ⟨rfl, ⟨rfl, ⟨rfl, ⟨rfl, ⟨rfl, ⟨rfl, slK (Rds.self (enc := e_api_Label)) (⟨rfl, ⟨rfl, ⟨rfl, ⟨rfl, ⟨k34.1, ⟨a, ⟨rfl, ⟨rfl, ⟨rfl, ⟨rfl, ⟨rfl, slK (Rds.self (enc := e_api_Label)) (⟨rfl, ⟨rfl, ⟨rfl, ⟨rfl, ⟨rfl, ⟨rfl, ⟨rfl, ⟨rfl, ⟨rfl, ⟨rfl, slK (Rds.self (enc := e_api_Label)) (⟨rfl, ⟨rfl, ⟨rfl, ⟨rfl, ⟨k34.2.1, ⟨a, ⟨rfl, ⟨rfl, ⟨rfl, ⟨rfl, ⟨rfl, slK (Rds.self (enc := e_api_Label)) (⟨rfl, ⟨rfl, ⟨rfl, ⟨rfl, ⟨rfl, ⟨rfl, ⟨rfl, ⟨rfl, ⟨rfl, ⟨rfl, slK (Rds.self (enc := e_api_Label)) (⟨rfl, ⟨rfl, ⟨rfl, ⟨rfl, ⟨k34.2.2.1, ⟨a, ⟨rfl, ⟨rfl, ⟨rfl, ⟨rfl, ⟨rfl, slK (Rds.self (enc := e_api_Label)) (⟨rfl, ⟨rfl, ⟨rfl, ⟨rfl, ⟨rfl, ⟨rfl, ⟨rfl, ⟨rfl, ⟨rfl, ⟨rfl, slK (Rds.self (enc := e_api_Label)) (⟨rfl, ⟨rfl, ⟨rfl, ⟨rfl, ⟨k34.2.2.2.1, br k34.2.2.2.2 Cnd.b (fun h17 k27 => b2s k27 RdB.self (fun h => br h Cnd.seq (fun h20 k24 => ⟨k24, trivial⟩) (fun h21 k25 => ⟨k25, trivial⟩))) (fun h18 k28 => ⟨k28, trivial⟩)⟩⟩⟩⟩⟩)⟩⟩⟩⟩⟩⟩⟩⟩⟩⟩)⟩⟩⟩⟩⟩⟩⟩⟩⟩⟩⟩)⟩⟩⟩⟩⟩⟩⟩⟩⟩⟩)⟩⟩⟩⟩⟩⟩⟩⟩⟩⟩⟩)⟩⟩⟩⟩⟩⟩⟩⟩⟩⟩)⟩⟩⟩⟩⟩⟩⟩⟩⟩⟩⟩)⟩⟩⟩⟩⟩⟩⟩⟩⟩⟩)⟩⟩⟩⟩⟩⟩)⟩⟩⟩⟩⟩)⟩⟩⟩⟩⟩⟩⟩⟩⟩⟩)⟩⟩⟩⟩⟩⟩)⟩⟩
theorem f264.eq (a : T_api_Op) : (f264.af a).gives f264.env (f264.args a) (f264.blks a) (f264.res a) (f264.blks' a) = f264.tree a := by kernel_rfl
end Go.Abs

-- interregnum/interregnumlaw06.OperAnswers
namespace Go.Abs
open Go
end Go.Abs

/- interregnum/interregnumlaw06.OperAnswers -/
namespace Go.Abs
open Go
set_option linter.unusedVariables false
end Go.Abs

-- interregnum/interregnumlaw06.OperDecodes
namespace Go.Abs
open Go
end Go.Abs

/- interregnum/interregnumlaw06.OperDecodes -/
namespace Go.Abs
open Go
set_option linter.unusedVariables false
end Go.Abs

-- interregnum/interregnumlaw06.OperBack
namespace Go.Abs
open Go
end Go.Abs

/- interregnum/interregnumlaw06.OperBack -/
namespace Go.Abs
open Go
set_option linter.unusedVariables false
end Go.Abs

-- interregnum/interregnumlaw06.OperOne
namespace Go.Abs
open Go
end Go.Abs

/- interregnum/interregnumlaw06.OperOne -/
namespace Go.Abs
open Go
set_option linter.unusedVariables false
end Go.Abs

/- The laws of layer 6. -/
namespace Go.Abs
open Go
theorem zz : zeroNodeB zNode = true ∧ zeroTaskB zTask = true := ⟨sameNode_eq.2 rfl, sameTask_eq.2 rfl⟩

theorem op_of_size {o : TOp} (h : k_api_Op.size o ≤ 1048576) : op_pre o ∧ o.2.2.2.2.size ≤ 268435456 := by
  have h : 1 + (k_api_Node.size o.2.1 + (k_api_Queue.size o.2.2.1 + (k_api_Task.size o.2.2.2.1 + (o.2.2.2.2.size + 1)))) + 1 ≤ 1048576 := h
  have hn : k_api_Node.size o.2.1 = o.2.1.1.size + 1 + (1 + (1 + 1) + 1 + k_sl_api_Label.size o.2.1.2.2) + 1 := rfl
  have ht : k_api_Task.size o.2.2.2.1 = o.2.2.2.1.1.size + 1 + (o.2.2.2.1.2.1.size + 1 + (1 + (1 + (1 + 1) + 1 + (k_sl_api_Label.size o.2.2.2.1.2.2.2.2.1 + (o.2.2.2.1.2.2.2.2.2.1.size + 1 + (o.2.2.2.1.2.2.2.2.2.2.1.size + 1 + 1)))))) + 1 := rfl
  have l1 := sum_ge k_api_Label.size o.2.1.2.2 (fun x _ => Nat.le_add_left 1 _)
  have l2 := sum_ge k_api_Label.size o.2.2.2.1.2.2.2.2.1 (fun x _ => Nat.le_add_left 1 _)
  have e1 : k_sl_api_Label.size o.2.1.2.2 = (o.2.1.2.2.map k_api_Label.size).sum + 1 := rfl
  have e2 : k_sl_api_Label.size o.2.2.2.1.2.2.2.2.1 = (o.2.2.2.1.2.2.2.2.1.map k_api_Label.size).sum + 1 := rfl
  exact ⟨⟨node_of_size (by omega), queue_of_size (by omega), task_of_size (by omega), by unfold name_pre; omega, by omega, by omega⟩, by omega⟩

theorem f264.ok (a : TOp) (h : f264.lpre a) : f264.vc a := by
  obtain ⟨_, hs⟩ := h
  obtain ⟨h1, h2⟩ := op_of_size hs
  exact ⟨fun _ => rfl, fun _ => ⟨h1, fun _ => rfl, fun _ => ⟨⟨h1, h2⟩, ⟨h1, h2⟩, h1, h1, fun _ => ⟨fun _ => by simp [lawTrue], fun c => absurd rfl c⟩, fun c => absurd (by simp) c⟩⟩⟩

end Go.Abs
