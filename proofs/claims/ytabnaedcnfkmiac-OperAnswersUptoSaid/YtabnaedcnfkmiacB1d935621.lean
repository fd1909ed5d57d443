/- Functions, and what the code asks of them: POperLaw. -/
import Derived.KernelRfl
import Derived.Test.YtabnaedcnfkmiacB7e6054c4
import Derived.Test.YtabnaedcnfkmiacBa9d44343
import Derived.Test.YtabnaedcnfkmiacB60e70101
import Derived.Test.YtabnaedcnfkmiacBc17a7ca1
import Derived.Test.YtabnaedcnfkmiacB5b36f845
import Derived.Test.YtabnaedcnfkmiacB684c205b
import Derived.Test.YtabnaedcnfkmiacB148fe987
import Derived.Test.YtabnaedcnfkmiacB0d7a5282
import Derived.Test.YtabnaedcnfkmiacB62d12b27
import Derived.Test.YtabnaedcnfkmiacB4f5a4d4d
import Derived.Test.YtabnaedcnfkmiacB9f2f698d
set_option linter.unusedVariables false
set_option linter.unusedSimpArgs false
-- interregnum/interregnumref06.Decode
namespace Go.Abs
open Go
end Go.Abs

/- interregnum/interregnumref06.Decode -/
namespace Go.Abs
open Go
set_option linter.unusedVariables false
end Go.Abs

-- interregnum/interregnumlaw06.OperRights
namespace Go.Abs
open Go
end Go.Abs

/- interregnum/interregnumlaw06.OperRights -/
namespace Go.Abs
open Go
set_option linter.unusedVariables false
end Go.Abs

-- interregnum/interregnumlaw06.OperAnswers
namespace Go.Abs
open Go
def f265.wf (a : T_api_Answer × T_api_Answer × T_api_Act) : Prop := k_api_Answer.ok a.1 ∧ k_api_Answer.ok a.2.1 ∧ k_api_Act.ok a.2.2
def f265.size (a : T_api_Answer × T_api_Answer × T_api_Act) : Nat := k_api_Answer.size a.1 + (k_api_Answer.size a.2.1 + (k_api_Act.size a.2.2))
def f265.lpre (a : T_api_Answer × T_api_Answer × T_api_Act) : Prop := f265.wf a ∧ f265.size a ≤ 1048576
def f265.args (a : T_api_Answer × T_api_Answer × T_api_Act) : List D := [.agg [.int .i64 a.1.1, .slice .ro 3 a.1.2.length (gl e_api_Act a.1.2)], .agg [.int .i64 a.2.1.1, .slice .ro 3 a.2.1.2.length (gl e_api_Act a.2.1.2)], .agg [.int .i64 a.2.2.1, .str a.2.2.2.1, .str a.2.2.2.2]]
def f265.blks (a : T_api_Answer × T_api_Answer × T_api_Act) : List (List D) := []
def f265.res (a : T_api_Answer × T_api_Answer × T_api_Act) : List D := [.bool (lawTrue a)]
def f265.blks' (a : T_api_Answer × T_api_Answer × T_api_Act) : List (List D) := []
def f265.C : Contract := FnC f265.args f265.blks (fun a => f265.lpre a) f265.res f265.blks'
end Go.Abs

/- interregnum/interregnumlaw06.OperAnswers -/
namespace Go.Abs
open Go
set_option linter.unusedVariables false
def f265.kills (a : T_api_Answer × T_api_Answer × T_api_Act) : List Hint := []
def f265.cuts (a : T_api_Answer × T_api_Answer × T_api_Act) : List (Nat × Σ β : Type, β → Tm) := []
def f265.af (a : T_api_Answer × T_api_Answer × T_api_Act) : AF := AF.mk (.seq (.region [⟨(some 3), 0, .box, [.t 0], none⟩,
  ⟨(some 4), 1, .box, [.t 1], none⟩,
  ⟨(some 5), 2, .box, [.t 2], none⟩,
  ⟨(some 6), 3, .move, [.c (.bool false)], none⟩])
 (.seq (.seq (.region [⟨(some 7), 4, (.call false 275), [], none⟩,
  ⟨(some 8), 8, (.un .not), [.t 7], none⟩,
  ⟨(some 9), 9, .move, [.t 8], none⟩,
  ⟨(some 10), 10, (.fieldAddr 1), [.t 3], (some (9, false))⟩,
  ⟨(some 11), 11, (.load false 1), [.t 10], (some (9, false))⟩,
  ⟨(some 12), 12, (.len false), [.t 11], (some (9, false))⟩,
  ⟨(some 13), 13, (.bin .gtr), [.t 12, .c (.int .i64 (1000))], (some (9, false))⟩,
  ⟨(some 14), 14, .pick, [.t 9, .c (.bool true), .t 13], none⟩,
  ⟨(some 15), 15, .move, [.t 14], none⟩,
  ⟨(some 16), 16, (.fieldAddr 1), [.t 4], (some (15, false))⟩,
  ⟨(some 17), 17, (.load false 1), [.t 16], (some (15, false))⟩,
  ⟨(some 18), 18, (.len false), [.t 17], (some (15, false))⟩,
  ⟨(some 19), 19, (.bin .gtr), [.t 18, .c (.int .i64 (1000))], (some (15, false))⟩,
  ⟨(some 20), 20, .pick, [.t 15, .c (.bool true), .t 19], none⟩,
  ⟨(some 21), 21, .move, [.t 20], none⟩,
  ⟨(some 22), 22, (.fieldAddr 1), [.t 5], (some (21, false))⟩,
  ⟨(some 23), 23, (.load false 1), [.t 22], (some (21, false))⟩,
  ⟨(some 24), 24, (.len true), [.t 23], (some (21, false))⟩,
  ⟨(some 25), 25, (.fieldAddr 2), [.t 5], (some (21, false))⟩,
  ⟨(some 26), 26, (.load false 1), [.t 25], (some (21, false))⟩,
  ⟨(some 27), 27, (.len true), [.t 26], (some (21, false))⟩,
  ⟨(some 28), 28, (.bin .add), [.t 24, .t 27], (some (21, false))⟩,
  ⟨(some 29), 29, (.bin .gtr), [.t 28, .c (.int .i64 (5000))], (some (21, false))⟩,
  ⟨(some 30), 30, .pick, [.t 21, .c (.bool true), .t 29], none⟩])
 (.cond (.t 30) (.seq (.region [⟨(some 31), 31, (.call false 275), [], none⟩,
  ⟨(some 6), 35, .move, [.t 31], none⟩])
 (.ret)) (.skip)))
 (.seq (.region [⟨(some 32), 36, (.load true 3), [.t 5], none⟩,
  ⟨(some 33), 37, (.call false 280), [.t 32], none⟩,
  ⟨(some 34), 41, (.load true 3), [.t 5], none⟩,
  ⟨(some 35), 42, (.call false 281), [.t 34], none⟩,
  ⟨(some 36), 46, (.bin .eql), [.t 33, .t 35], none⟩,
  ⟨(some 37), 47, .move, [.t 36], none⟩,
  ⟨(some 38), 48, (.load true 2), [.t 3], (some (37, true))⟩,
  ⟨(some 39), 49, (.load true 2), [.t 4], (some (37, true))⟩,
  ⟨(some 40), 50, (.call false 282), [.t 38, .t 39], (some (37, true))⟩,
  ⟨(some 41), 54, (.load true 2), [.t 3], (some (37, true))⟩,
  ⟨(some 42), 55, (.load true 2), [.t 4], (some (37, true))⟩,
  ⟨(some 43), 56, (.call false 283), [.t 41, .t 42], (some (37, true))⟩,
  ⟨(some 44), 60, (.binB false), [.t 40, .t 43], (some (37, true))⟩,
  ⟨(some 45), 61, .pick, [.t 37, .t 44, .c (.bool false)], none⟩,
  ⟨(some 46), 62, .move, [.t 45], none⟩,
  ⟨(some 47), 63, (.load true 2), [.t 4], (some (46, true))⟩,
  ⟨(some 48), 64, (.load true 2), [.t 3], (some (46, true))⟩,
  ⟨(some 49), 65, (.call false 282), [.t 47, .t 48], (some (46, true))⟩,
  ⟨(some 50), 69, (.load true 2), [.t 3], (some (46, true))⟩,
  ⟨(some 51), 70, (.load true 2), [.t 4], (some (46, true))⟩,
  ⟨(some 52), 71, (.call false 282), [.t 50, .t 51], (some (46, true))⟩,
  ⟨(some 53), 75, (.binB false), [.t 49, .t 52], (some (46, true))⟩,
  ⟨(some 54), 76, .pick, [.t 46, .t 53, .c (.bool false)], none⟩,
  ⟨(some 55), 77, .move, [.t 54], none⟩,
  ⟨(some 56), 78, (.load true 2), [.t 3], (some (55, true))⟩,
  ⟨(some 57), 79, (.load true 2), [.t 3], (some (55, true))⟩,
  ⟨(some 58), 80, (.call false 282), [.t 56, .t 57], (some (55, true))⟩,
  ⟨(some 59), 84, .pick, [.t 55, .t 58, .c (.bool false)], none⟩,
  ⟨(some 6), 85, .move, [.t 59], none⟩])
 (.ret))))
  [.tmp 6] 0 57
def f265.env : Env := [(275, f275.C), (280, f280.C), (281, f281.C), (282, f282.C), (283, f283.C)]
def f265.tree (a : T_api_Answer × T_api_Answer × T_api_Act) : Prop := ∃ c1 : Unit, True ∧ Br (!(lawTrue c1)) (∃ c4 : Unit, True ∧ ((lawTrue c4) = (lawTrue a)) ∧ True) (Br (decide ((1000 : Int) < (a.1.2.length : Int))) (∃ c9 : Unit, True ∧ ((lawTrue c9) = (lawTrue a)) ∧ True) (Br (decide ((1000 : Int) < (a.2.1.2.length : Int))) (∃ c14 : Unit, True ∧ ((lawTrue c14) = (lawTrue a)) ∧ True) (Let (IntKind.i64.wrap ((a.2.2.2.1.size : Int) + (a.2.2.2.2.size : Int))) (fun v17 : Int => Br (decide ((5000 : Int) < v17)) (∃ c20 : Unit, True ∧ ((lawTrue c20) = (lawTrue a)) ∧ True) (∃ c23 : T_api_Act, (a.2.2.1 = c23.1) ∧ (a.2.2.2.1 = c23.2.1) ∧ (a.2.2.2.2 = c23.2.2) ∧ (textA_pre c23) ∧ ∃ c24 : T_api_Act, (a.2.2.1 = c24.1) ∧ (a.2.2.2.1 = c24.2.1) ∧ (a.2.2.2.2 = c24.2.2) ∧ (textA_pre c24) ∧ Br ((textA c23).toList == (textA c24).toList) (∃ c27 : T_api_Answer × T_api_Answer, (a.1.1 = c27.1.1) ∧ (a.1.2.length = c27.1.2.length) ∧ (∀ i, i < c27.1.2.length → DEqs ((gl e_api_Act a.1.2) i) ((gl e_api_Act c27.1.2) i)) ∧ (a.2.1.1 = c27.2.1) ∧ (a.2.1.2.length = c27.2.2.length) ∧ (∀ i, i < c27.2.2.length → DEqs ((gl e_api_Act a.2.1.2) i) ((gl e_api_Act c27.2.2) i)) ∧ (ans_pre c27) ∧ ∃ c28 : T_api_Answer × T_api_Answer, (a.1.1 = c28.1.1) ∧ (a.1.2.length = c28.1.2.length) ∧ (∀ i, i < c28.1.2.length → DEqs ((gl e_api_Act a.1.2) i) ((gl e_api_Act c28.1.2) i)) ∧ (a.2.1.1 = c28.2.1) ∧ (a.2.1.2.length = c28.2.2.length) ∧ (∀ i, i < c28.2.2.length → DEqs ((gl e_api_Act a.2.1.2) i) ((gl e_api_Act c28.2.2) i)) ∧ (ans_pre c28) ∧ Br ((sameAns c27) == (sameAns c28)) (∃ c31 : T_api_Answer × T_api_Answer, (a.2.1.1 = c31.1.1) ∧ (a.2.1.2.length = c31.1.2.length) ∧ (∀ i, i < c31.1.2.length → DEqs ((gl e_api_Act a.2.1.2) i) ((gl e_api_Act c31.1.2) i)) ∧ (a.1.1 = c31.2.1) ∧ (a.1.2.length = c31.2.2.length) ∧ (∀ i, i < c31.2.2.length → DEqs ((gl e_api_Act a.1.2) i) ((gl e_api_Act c31.2.2) i)) ∧ (ans_pre c31) ∧ ∃ c32 : T_api_Answer × T_api_Answer, (a.1.1 = c32.1.1) ∧ (a.1.2.length = c32.1.2.length) ∧ (∀ i, i < c32.1.2.length → DEqs ((gl e_api_Act a.1.2) i) ((gl e_api_Act c32.1.2) i)) ∧ (a.2.1.1 = c32.2.1) ∧ (a.2.1.2.length = c32.2.2.length) ∧ (∀ i, i < c32.2.2.length → DEqs ((gl e_api_Act a.2.1.2) i) ((gl e_api_Act c32.2.2) i)) ∧ (ans_pre c32) ∧ Br ((sameAns c31) == (sameAns c32)) (∃ c35 : T_api_Answer × T_api_Answer, (a.1.1 = c35.1.1) ∧ (a.1.2.length = c35.1.2.length) ∧ (∀ i, i < c35.1.2.length → DEqs ((gl e_api_Act a.1.2) i) ((gl e_api_Act c35.1.2) i)) ∧ (a.1.1 = c35.2.1) ∧ (a.1.2.length = c35.2.2.length) ∧ (∀ i, i < c35.2.2.length → DEqs ((gl e_api_Act a.1.2) i) ((gl e_api_Act c35.2.2) i)) ∧ (ans_pre c35) ∧ ((sameAns c35) = (lawTrue a)) ∧ True) ((false = (lawTrue a)) ∧ True)) ((false = (lawTrue a)) ∧ True)) ((false = (lawTrue a)) ∧ True))))))
def f265.vc (a : T_api_Answer × T_api_Answer × T_api_Act) : Prop := ((¬ ((lawTrue ()) = true) → ((lawTrue ()) = lawTrue a)) ∧ (¬ (¬ ((lawTrue ()) = true)) → (((1000 : Int) < (a.1.2.length : Int) → ((lawTrue ()) = lawTrue a)) ∧ (¬ ((1000 : Int) < (a.1.2.length : Int)) → (((1000 : Int) < (a.2.1.2.length : Int) → ((lawTrue ()) = lawTrue a)) ∧ (¬ ((1000 : Int) < (a.2.1.2.length : Int)) → (-9223372036854775808 ≤ ((a.2.2.2.1.size : Int) + (a.2.2.2.2.size : Int)) ∧ ((a.2.2.2.1.size : Int) + (a.2.2.2.2.size : Int)) ≤ 9223372036854775807 ∧ (((5000 : Int) < ((a.2.2.2.1.size : Int) + (a.2.2.2.2.size : Int)) → ((lawTrue ()) = lawTrue a)) ∧ (¬ ((5000 : Int) < ((a.2.2.2.1.size : Int) + (a.2.2.2.2.size : Int))) → (textA_pre a.2.2 ∧ (textA_pre a.2.2 ∧ (((textA (a.2.2)) = (textA (a.2.2)) → (ans_pre (a.1, a.2.1) ∧ (ans_pre (a.1, a.2.1) ∧ ((((sameAns (a.1, a.2.1)) == (sameAns (a.1, a.2.1))) = true → (ans_pre (a.2.1, a.1) ∧ (ans_pre (a.1, a.2.1) ∧ ((((sameAns (a.2.1, a.1)) == (sameAns (a.1, a.2.1))) = true → (ans_pre (a.1, a.1) ∧ ((sameAns (a.1, a.1)) = lawTrue a))) ∧ (¬ (((sameAns (a.2.1, a.1)) == (sameAns (a.1, a.2.1))) = true) → (false = lawTrue a)))))) ∧ (¬ (((sameAns (a.1, a.2.1)) == (sameAns (a.1, a.2.1))) = true) → (false = lawTrue a)))))) ∧ (¬ ((textA (a.2.2)) = (textA (a.2.2))) → (false = lawTrue a))))))))))))))
set_option maxRecDepth 100000 in
set_option maxHeartbeats 2000000 in
theorem f265.of (a : T_api_Answer × T_api_Answer × T_api_Act) (h : f265.vc a) : f265.tree a := ⟨(), ⟨trivial, br h (Cnd.not Cnd.b) (fun h2 k62 => ⟨(), ⟨trivial, ⟨k62, trivial⟩⟩⟩) (fun h3 k63 => br k63 Cnd.dec (fun h7 k60 => ⟨(), ⟨trivial, ⟨k60, trivial⟩⟩⟩) (fun h8 k61 => br k61 Cnd.dec (fun h12 k58 => ⟨(), ⟨trivial, ⟨k58, trivial⟩⟩⟩) (fun h13 k59 => wrapK.i64 k59 (fun h55 h56 k57 => br k57 Cnd.dec (fun h18 k53 => ⟨(), ⟨trivial, ⟨k53, trivial⟩⟩⟩) (fun h19 k54 => ⟨a.2.2, ⟨rfl, ⟨rfl, ⟨rfl, ⟨k54.1, ⟨a.2.2, ⟨rfl, ⟨rfl, ⟨rfl, ⟨k54.2.1, br k54.2.2 Cnd.seq (fun h25 k49 => ⟨(a.1, a.2.1), ⟨rfl, slK (Rds.self (enc := e_api_Act)) (⟨rfl, slK (Rds.self (enc := e_api_Act)) (⟨k49.1, ⟨(a.1, a.2.1), ⟨rfl, slK (Rds.self (enc := e_api_Act)) (⟨rfl, slK (Rds.self (enc := e_api_Act)) (⟨k49.2.1, br k49.2.2 Cnd.b (fun h29 k44 => ⟨(a.2.1, a.1), ⟨rfl, slK (Rds.self (enc := e_api_Act)) (⟨rfl, slK (Rds.self (enc := e_api_Act)) (⟨k44.1, ⟨(a.1, a.2.1), ⟨rfl, slK (Rds.self (enc := e_api_Act)) (⟨rfl, slK (Rds.self (enc := e_api_Act)) (⟨k44.2.1, br k44.2.2 Cnd.b (fun h33 k39 => ⟨(a.1, a.1), ⟨rfl, slK (Rds.self (enc := e_api_Act)) (⟨rfl, slK (Rds.self (enc := e_api_Act)) (⟨k39.1, ⟨k39.2, trivial⟩⟩)⟩)⟩⟩) (fun h34 k40 => ⟨k40, trivial⟩)⟩)⟩)⟩⟩⟩)⟩)⟩⟩) (fun h30 k45 => ⟨k45, trivial⟩)⟩)⟩)⟩⟩⟩)⟩)⟩⟩) (fun h26 k50 => ⟨k50, trivial⟩)⟩⟩⟩⟩⟩⟩⟩⟩⟩⟩)))))⟩⟩
theorem f265.eq (a : T_api_Answer × T_api_Answer × T_api_Act) : (f265.af a).gives f265.env (f265.args a) (f265.blks a) (f265.res a) (f265.blks' a) = f265.tree a := by kernel_rfl
end Go.Abs

-- interregnum/interregnumlaw06.OperDecodes
namespace Go.Abs
open Go
end Go.Abs

/- interregnum/interregnumlaw06.OperDecodes -/
namespace Go.Abs
open Go
set_option linter.unusedVariables false
end Go.Abs

-- interregnum/interregnumlaw06.OperBack
namespace Go.Abs
open Go
end Go.Abs

/- interregnum/interregnumlaw06.OperBack -/
namespace Go.Abs
open Go
set_option linter.unusedVariables false
end Go.Abs

-- interregnum/interregnumlaw06.OperOne
namespace Go.Abs
open Go
end Go.Abs

/- interregnum/interregnumlaw06.OperOne -/
namespace Go.Abs
open Go
set_option linter.unusedVariables false
end Go.Abs

/- The laws of layer 6. -/
namespace Go.Abs
open Go
theorem zz : zeroNodeB zNode = true ∧ zeroTaskB zTask = true := ⟨sameNode_eq.2 rfl, sameTask_eq.2 rfl⟩

theorem f265.ok (a : TAns × TAns × TAct) (h : f265.lpre a) : f265.vc a := by
  obtain ⟨_, hs⟩ := h
  obtain ⟨x, y, z⟩ := a
  have hs : k_api_Answer.size x + (k_api_Answer.size y + k_api_Act.size z) ≤ 1048576 := hs
  have hz : k_api_Act.size z = 1 + (z.2.1.size + 1 + (z.2.2.size + 1)) + 1 := rfl
  have hx : k_api_Answer.size x = 1 + ((x.2.map k_api_Act.size).sum + 1) + 1 := rfl
  have hy : k_api_Answer.size y = 1 + ((y.2.map k_api_Act.size).sum + 1) + 1 := rfl
  have l1 := sum_ge k_api_Act.size x.2 (fun x _ => Nat.le_add_left 1 _)
  have l2 := sum_ge k_api_Act.size y.2 (fun x _ => Nat.le_add_left 1 _)
  have ht : textA_pre z := ⟨by omega, by omega⟩
  have p1 : ans_pre (x, y) := ⟨by show x.2.length ≤ _; omega, by show y.2.length ≤ _; omega⟩
  have p2 : ans_pre (y, x) := ⟨p1.2, p1.1⟩
  have p3 : ans_pre (x, x) := ⟨p1.1, p1.1⟩
  have hsym : sameAns (y, x) = sameAns (x, y) := by
    unfold sameAns sameActs
    simp only [eq_comm]
  have hrefl : sameAns (x, x) = true := by unfold sameAns sameActs; simp
  unfold f265.vc
  simp only
  rw [hsym, hrefl]
  refine ⟨fun _ => rfl, fun _ => ⟨fun _ => rfl, fun _ => ⟨fun _ => rfl, fun _ => ⟨by omega, by omega, fun _ => rfl, fun _ => ⟨ht, ht, fun _ => ⟨p1, p1, fun _ => ⟨p2, p1, fun _ => ⟨p3, rfl⟩, fun c => absurd (by simp) c⟩, fun c => absurd (by simp) c⟩, fun c => absurd trivial c⟩⟩⟩⟩⟩

end Go.Abs
