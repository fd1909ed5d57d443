/- Functions, and what the code asks of them: PFeas. -/
import Derived.KernelRfl
import Derived.Test.YtabnaedcnfkmiacBbdc85751
import Derived.Test.YtabnaedcnfkmiacBc37455d2
import Derived.Test.YtabnaedcnfkmiacB4d205f27
import Derived.Test.YtabnaedcnfkmiacBa8de0e59
set_option linter.unusedVariables false
set_option linter.unusedSimpArgs false
/- Which machines can take a task. -/
namespace Go.Abs
open Go

abbrev TMach := TNode × Bool × Int
def LL20 {α β : Type} (a : List α × β) : Prop := L20 a.1
def ixL (a : List TLbl × TLbl) : Int := match a.1.findIdx? fun x => decide (x = a.2) with
  | some i => i
  | none => -1
def hasL (a : List TLbl × TLbl) : Bool := a.1.any fun x => decide (x = a.2)
def has_pre (a : List TLbl × List TLbl) : Prop := L20 a.1 ∧ L20 a.2
def hasAll (a : List TLbl × List TLbl) : Bool := a.2.all fun w => hasL (a.1, w)
/-- What the jobs need that are bound on a machine. -/
def bindL (jobs : List TJob) (n : ByteArray) : List TRes := (jobs.filter fun j => decide (j.2.2.1 = n)).map fun j => j.1.2.2.2.1
def free_pre (a : TMach × List TJob) : Prop := L20 a.2
def freeR (a : TMach × List TJob) : TRes × Int :=
  if (sumR (bindL a.2 a.1.1.1)).2 ≠ 0 then (zeroR, (sumR (bindL a.2 a.1.1.1)).2) else subR (a.1.1.2.1, (sumR (bindL a.2 a.1.1.1)).1)
def bothersR (a : TJob × TMach × TTask) : Bool :=
  decide (¬ a.2.2.2.2.2.2.2.1 = ByteArray.empty ∧ a.1.2.2.1 = a.2.1.1.1 ∧ ¬ a.1.1.1 = a.2.2.1 ∧ a.1.1.2.2.2.2.2.1 = a.2.2.2.2.2.2.2.1)
def ixBother (a : List TJob × TMach × TTask) : Int := match a.1.findIdx? fun j => bothersR (j, a.2) with
  | some i => i
  | none => -1
def anyBother (a : List TJob × TMach × TTask) : Bool := a.1.any fun j => bothersR (j, a.2)
def why_pre (a : TMach × List TJob × TTask) : Prop := L20 a.2.1 ∧ node_pre a.1.1 ∧ task_pre a.2.2 ∧ L20 a.1.1.2.2 ∧ L20 a.2.2.2.2.2.2.1
def whyR (a : TMach × List TJob × TTask) : Int :=
  if ¬ ((freeR (a.1, a.2.1)).2 = 0 ∧ nodeB a.1.1 = true ∧ taskB a.2.2 = true) then 5 else
  if ¬ a.1.2.1 = true then 1 else
  if ¬ hasAll (a.1.1.2.2, a.2.2.2.2.2.2.1) = true then 2 else
  if anyBother (a.2.1, a.1, a.2.2) = true then 3 else
  if ¬ fitsR (a.2.2.2.2.2.1, (freeR (a.1, a.2.1)).1) = true then 4 else 0
def few11 (a : List TMach × List TJob) : Bool := decide (a.1.length ≤ 60 ∧ a.2.length ≤ 200) && (List.range a.1.length).all fun i => decide ((a.1.getD i default).1.2.2.length ≤ 20 ∧ (a.1.getD i default).1.1.size ≤ 1000)
def few11_pre (a : List TMach × List TJob) : Prop := L20 a.1 ∧ L20 a.2 ∧ ∀ m ∈ a.1, m.1.1.size ≤ 1073741824
end Go.Abs

-- interregnum/res.Sub
namespace Go.Abs
open Go
def f113.args (a : T_ar3_i64 × T_ar3_i64) : List D := [.agg [.int .i64 a.1.1, .int .i64 a.1.2.1, .int .i64 a.1.2.2], .agg [.int .i64 a.2.1, .int .i64 a.2.2.1, .int .i64 a.2.2.2]]
def f113.blks (a : T_ar3_i64 × T_ar3_i64) : List (List D) := []
def f113.res (a : T_ar3_i64 × T_ar3_i64) : List D := [.agg [.int .i64 (((subR a).1).1), .int .i64 (((subR a).1).2.1), .int .i64 (((subR a).1).2.2)], .int .i64 ((subR a).2)]
def f113.blks' (a : T_ar3_i64 × T_ar3_i64) : List (List D) := []
def f113.C : Contract := FnC f113.args f113.blks (fun _ => True) f113.res f113.blks'
end Go.Abs

/- interregnum/res.Sub -/
namespace Go.Abs
open Go
set_option linter.unusedVariables false
def f113.kills (a : T_ar3_i64 × T_ar3_i64) : List Hint := []
def f113.cuts (a : T_ar3_i64 × T_ar3_i64) : List (Nat × Σ β : Type, β → Tm) := []
def f113.af (a : T_ar3_i64 × T_ar3_i64) : AF := AF.mk (.seq (.region [⟨(some 2), 0, .box, [.t 0], none⟩,
  ⟨(some 3), 1, .box, [.t 1], none⟩,
  ⟨(some 4), 2, (.alloc [.int .i64 (0), .int .i64 (0), .int .i64 (0)]), [], none⟩,
  ⟨(some 5), 6, .move, [.c (.int .i64 (0))], none⟩])
 (.seq (.region [⟨(some 6), 7, (.load true 3), [.t 2], none⟩,
  ⟨(some 7), 8, (.load true 3), [.t 3], none⟩,
  ⟨(some 8), 9, (.call false 69), [.t 6, .t 7, .c (.int .i64 (-1))], none⟩,
  ⟨(some 9), 13, (.extract 0), [.t 8], none⟩,
  ⟨(some 10), 14, (.extract 1), [.t 8], none⟩,
  ⟨none, 15, (.store 3), [.t 4, .t 9], none⟩,
  ⟨(some 5), 16, .move, [.t 10], none⟩])
 (.ret)))
  [.cell 4 true 3, .tmp 5] 0 9
def f113.env : Env := [(69, f69.C)]
def f113.tree (a : T_ar3_i64 × T_ar3_i64) : Prop := ∃ c1 : T_ar3_i64 × T_ar3_i64 × Int, (a.1.1 = c1.1.1) ∧ (a.1.2.1 = c1.1.2.1) ∧ (a.1.2.2 = c1.1.2.2) ∧ (a.2.1 = c1.2.1.1) ∧ (a.2.2.1 = c1.2.1.2.1) ∧ (a.2.2.2 = c1.2.1.2.2) ∧ ((-1 : Int) = c1.2.2) ∧ (both_pre c1) ∧ ((((bothR c1).1).1) = (((subR a).1).1)) ∧ ((((bothR c1).1).2.1) = (((subR a).1).2.1)) ∧ ((((bothR c1).1).2.2) = (((subR a).1).2.2)) ∧ (((bothR c1).2) = ((subR a).2)) ∧ True
def f113.vc (a : T_ar3_i64 × T_ar3_i64) : Prop := (both_pre (a.1, a.2, (-1 : Int)) ∧ ((((bothR (a.1, a.2, (-1 : Int))).1), (bothR (a.1, a.2, (-1 : Int))).2) = subR a))
set_option maxRecDepth 100000 in
set_option maxHeartbeats 2000000 in
theorem f113.of (a : T_ar3_i64 × T_ar3_i64) (h : f113.vc a) : f113.tree a := ⟨(a.1, a.2, (-1 : Int)), ⟨rfl, ⟨rfl, ⟨rfl, ⟨rfl, ⟨rfl, ⟨rfl, ⟨rfl, ⟨h.1, ⟨(congrArg (fun x : T_ar3_i64 × Int => x.1.1) h.2 :), ⟨(congrArg (fun x : T_ar3_i64 × Int => x.1.2.1) h.2 :), ⟨(congrArg (fun x : T_ar3_i64 × Int => x.1.2.2) h.2 :), ⟨(congrArg (fun x : T_ar3_i64 × Int => x.2) h.2 :), trivial⟩⟩⟩⟩⟩⟩⟩⟩⟩⟩⟩⟩⟩
theorem f113.eq (a : T_ar3_i64 × T_ar3_i64) : (f113.af a).gives f113.env (f113.args a) (f113.blks a) (f113.res a) (f113.blks' a) = f113.tree a := by kernel_rfl
end Go.Abs

-- slices.Index[[]interregnum/api.Label,interregnum/api.Label]
namespace Go.Abs
open Go
def f136.args (a : (List (T_api_Label)) × T_api_Label) : List D := [.slice .ro 2 a.1.length (gl e_api_Label a.1), .agg [.str a.2.1, .str a.2.2]]
def f136.blks (a : (List (T_api_Label)) × T_api_Label) : List (List D) := []
def f136.res (a : (List (T_api_Label)) × T_api_Label) : List D := [.int .i64 (ixL a)]
def f136.blks' (a : (List (T_api_Label)) × T_api_Label) : List (List D) := []
def f136.C : Contract := FnC f136.args f136.blks (fun a => LL20 a) f136.res f136.blks'
end Go.Abs

/- slices.Index[[]interregnum/api.Label,interregnum/api.Label] -/
namespace Go.Abs
open Go
set_option linter.unusedVariables false
def f136.kills (a : (List (T_api_Label)) × T_api_Label) : List Hint := [.tell Int (fun x => ⟨[.slice .ro 2 a.1.length (gl e_api_Label a.1), .dead, .dead, .ptr 0 0, .dead, .dead, .dead, .int .i64 (a.1.length : Int), .int .i64 x, .dead, .dead, .dead, .dead, .dead, .dead, .dead, .dead, .dead, .dead], [(0, false, [.str a.2.1, .str a.2.2])], []⟩)]
def f136.cuts (a : (List (T_api_Label)) × T_api_Label) : List (Nat × Σ β : Type, β → Tm) := []
def f136.af (a : (List (T_api_Label)) × T_api_Label) : AF := AF.mk (.seq (.region [⟨(some 3), 0, .box, [.t 1], none⟩,
  ⟨(some 4), 1, .move, [.c (.int .i64 (0))], none⟩])
 (.seq (.seq (.region [⟨(some 6), 2, .move, [.t 0], none⟩,
  ⟨(some 7), 3, (.len false), [.t 6], none⟩,
  ⟨(some 8), 4, .move, [.c (.int .i64 (0))], none⟩])
 (.block 0 (.loopT Int (fun x => ⟨[.slice .ro 2 a.1.length (gl e_api_Label a.1), .dead, .dead, .ptr 0 0, .dead, .dead, .dead, .int .i64 (a.1.length : Int), .int .i64 x, .dead, .dead, .dead, .dead, .dead, .dead, .dead, .dead, .dead, .dead], [(0, false, [.str a.2.1, .str a.2.2])], []⟩) 5 18 (.seq (.region [⟨(some 9), 5, (.bin .lss), [.t 8, .t 7], none⟩])
 (.seq (.cond (.t 9) (.skip) (.exit 0))
 (.seq (.block 1 (.seq (.region [⟨(some 10), 6, .move, [.t 8], none⟩,
  ⟨(some 5), 7, .move, [.t 10], none⟩])
 (.seq (.region [⟨(some 11), 8, (.load true 2), [.t 3], none⟩,
  ⟨(some 12), 9, .move, [.t 0], none⟩,
  ⟨(some 13), 10, .move, [.t 5], none⟩,
  ⟨(some 14), 11, (.indexAddr 2 none), [.t 12, .t 13], none⟩,
  ⟨(some 15), 12, (.load true 2), [.t 14], none⟩,
  ⟨(some 16), 13, (.eqAgg false [2, 2]), [.t 11, .t 15], none⟩])
 (.cond (.t 16) (.seq (.region [⟨(some 17), 14, .move, [.t 5], none⟩,
  ⟨(some 4), 15, .move, [.t 17], none⟩])
 (.ret)) (.skip)))))
 (.region [⟨(some 18), 16, (.bin .add), [.t 8, .c (.int .i64 (1))], none⟩,
  ⟨(some 8), 17, .move, [.t 18], none⟩])))))))
 (.seq (.region [⟨(some 4), 18, .move, [.c (.int .i64 (-1))], none⟩])
 (.ret))))
  [.tmp 4] 0 17
def f136.env : Env := []
def f136.tree (a : (List (T_api_Label)) × T_api_Label) : Prop := ∃ (I2 : Int → Prop) (μ3 : Int → Nat), (∃ x1 : Int, (a.1.length = a.1.length) ∧ (∀ i, i < a.1.length → DEqs ((gl e_api_Label a.1) i) ((gl e_api_Label a.1) i)) ∧ ((a.1.length : Int) = (a.1.length : Int)) ∧ ((0 : Int) = x1) ∧ (a.2.1 = a.2.1) ∧ (a.2.2 = a.2.2) ∧ I2 x1) ∧ ∀ y4 : Int, I2 y4 → (Br (decide (y4 < (a.1.length : Int))) (Br (decide ((0 : Int) ≤ y4) && decide (y4 < (a.1.length : Int))) (Br ((a.2.1.toList == ((at_ a.1 y4).1).toList) && (a.2.2.toList == ((at_ a.1 y4).2).toList)) ((y4 = (ixL a)) ∧ True) (Let (IntKind.i64.wrap (y4 + (1 : Int))) (fun v11 : Int => ∃ x12 : Int, (a.1.length = a.1.length) ∧ (∀ i, i < a.1.length → DEqs ((gl e_api_Label a.1) i) ((gl e_api_Label a.1) i)) ∧ ((a.1.length : Int) = (a.1.length : Int)) ∧ (v11 = x12) ∧ (a.2.1 = a.2.1) ∧ (a.2.2 = a.2.2) ∧ I2 x12 ∧ μ3 x12 < μ3 y4))) False) (((-1 : Int) = (ixL a)) ∧ True))
def f136.vc (a : (List (T_api_Label)) × T_api_Label) : Prop := (∃ (I2 : Int → Prop) (μ3 : Int → Nat), I2 (0 : Int) ∧ ∀ y4 : Int, I2 y4 → ((y4 < (a.1.length : Int) → ((0 : Int) ≤ y4 ∧ y4 < (a.1.length : Int) ∧ ((a.2.1 = ((at_ a.1 y4).1) ∧ a.2.2 = ((at_ a.1 y4).2) → (y4 = ixL a)) ∧ (¬ (a.2.1 = ((at_ a.1 y4).1) ∧ a.2.2 = ((at_ a.1 y4).2)) → (-9223372036854775808 ≤ (y4 + (1 : Int)) ∧ (y4 + (1 : Int)) ≤ 9223372036854775807 ∧ (I2 (y4 + (1 : Int)) ∧ μ3 (y4 + (1 : Int)) < μ3 y4)))))) ∧ (¬ (y4 < (a.1.length : Int)) → ((-1 : Int) = ixL a))))
set_option maxRecDepth 100000 in
set_option maxHeartbeats 2000000 in
theorem f136.of (a : (List (T_api_Label)) × T_api_Label) (h : f136.vc a) : f136.tree a := Exists.elim h (fun I2 h23_ => Exists.elim h23_ (fun μ3 h23 => ⟨I2, μ3, ⟨(0 : Int), slK (Rds.self (enc := e_api_Label)) (⟨rfl, ⟨rfl, ⟨rfl, ⟨rfl, h23.1⟩⟩⟩⟩)⟩, fun y4 h25 => br (h23.2 y4 h25) Cnd.dec (fun h5 k21 => chk k21.2.2 Cnd.ix ⟨k21.1, k21.2.1⟩ (fun h7 k19 => br k19 (Cnd.and Cnd.seq Cnd.seq) (fun h8 k17 => ⟨k17, trivial⟩) (fun h9 k18 => wrapK.i64 k18 (fun h14 h15 k16 => ⟨(y4 + (1 : Int)), slK (Rds.self (enc := e_api_Label)) (⟨rfl, ⟨rfl, ⟨rfl, ⟨rfl, k16⟩⟩⟩⟩)⟩)))) (fun h6 k22 => ⟨k22, trivial⟩)⟩))
theorem f136.eq (a : (List (T_api_Label)) × T_api_Label) : (f136.af a).gives f136.env (f136.args a) (f136.blks a) (f136.res a) (f136.blks' a) = f136.tree a := by kernel_rfl
end Go.Abs

-- slices.Contains[[]interregnum/api.Label,interregnum/api.Label]
namespace Go.Abs
open Go
def f132.args (a : (List (T_api_Label)) × T_api_Label) : List D := [.slice .ro 2 a.1.length (gl e_api_Label a.1), .agg [.str a.2.1, .str a.2.2]]
def f132.blks (a : (List (T_api_Label)) × T_api_Label) : List (List D) := []
def f132.res (a : (List (T_api_Label)) × T_api_Label) : List D := [.bool (hasL a)]
def f132.blks' (a : (List (T_api_Label)) × T_api_Label) : List (List D) := []
def f132.C : Contract := FnC f132.args f132.blks (fun a => LL20 a) f132.res f132.blks'
end Go.Abs

/- slices.Contains[[]interregnum/api.Label,interregnum/api.Label] -/
namespace Go.Abs
open Go
set_option linter.unusedVariables false
def f132.kills (a : (List (T_api_Label)) × T_api_Label) : List Hint := []
def f132.cuts (a : (List (T_api_Label)) × T_api_Label) : List (Nat × Σ β : Type, β → Tm) := []
def f132.af (a : (List (T_api_Label)) × T_api_Label) : AF := AF.mk (.seq (.region [⟨(some 3), 0, .box, [.t 1], none⟩,
  ⟨(some 4), 1, .move, [.c (.bool false)], none⟩])
 (.seq (.region [⟨(some 5), 2, .move, [.t 0], none⟩,
  ⟨(some 6), 3, (.load true 2), [.t 3], none⟩,
  ⟨(some 7), 4, (.call false 136), [.t 5, .t 6], none⟩,
  ⟨(some 8), 8, (.bin .geq), [.t 7, .c (.int .i64 (0))], none⟩,
  ⟨(some 4), 9, .move, [.t 8], none⟩])
 (.ret)))
  [.tmp 4] 0 7
def f132.env : Env := [(136, f136.C)]
def f132.tree (a : (List (T_api_Label)) × T_api_Label) : Prop := ∃ c1 : (List (T_api_Label)) × T_api_Label, (a.1.length = c1.1.length) ∧ (∀ i, i < c1.1.length → DEqs ((gl e_api_Label a.1) i) ((gl e_api_Label c1.1) i)) ∧ (a.2.1 = c1.2.1) ∧ (a.2.2 = c1.2.2) ∧ (LL20 c1) ∧ ((decide ((0 : Int) ≤ (ixL c1))) = (hasL a)) ∧ True
def f132.vc (a : (List (T_api_Label)) × T_api_Label) : Prop := (LL20 (a.1, a.2) ∧ (decide ((0 : Int) ≤ (ixL (a.1, a.2))) = hasL a))
set_option maxRecDepth 100000 in
set_option maxHeartbeats 2000000 in
theorem f132.of (a : (List (T_api_Label)) × T_api_Label) (h : f132.vc a) : f132.tree a := ⟨(a.1, a.2), slK (Rds.self (enc := e_api_Label)) (⟨rfl, ⟨rfl, ⟨h.1, ⟨h.2, trivial⟩⟩⟩⟩)⟩
theorem f132.eq (a : (List (T_api_Label)) × T_api_Label) : (f132.af a).gives f132.env (f132.args a) (f132.blks a) (f132.res a) (f132.blks' a) = f132.tree a := by kernel_rfl
end Go.Abs

-- interregnum/ident.Has
namespace Go.Abs
open Go
def f124.args (a : (List (T_api_Label)) × (List (T_api_Label))) : List D := [.slice .ro 2 a.1.length (gl e_api_Label a.1), .slice .ro 2 a.2.length (gl e_api_Label a.2)]
def f124.blks (a : (List (T_api_Label)) × (List (T_api_Label))) : List (List D) := []
def f124.res (a : (List (T_api_Label)) × (List (T_api_Label))) : List D := [.bool (hasAll a)]
def f124.blks' (a : (List (T_api_Label)) × (List (T_api_Label))) : List (List D) := []
def f124.C : Contract := FnC f124.args f124.blks (fun a => has_pre a) f124.res f124.blks'
end Go.Abs

/- interregnum/ident.Has -/
namespace Go.Abs
open Go
set_option linter.unusedVariables false
def f124.kills (a : (List (T_api_Label)) × (List (T_api_Label))) : List Hint := [.tell Int (fun x => ⟨[.slice .ro 2 a.1.length (gl e_api_Label a.1), .dead, .dead, .dead, .dead, .dead, .dead, .slice .ro 2 a.2.length (gl e_api_Label a.2), .int .i64 (a.2.length : Int), .int .i64 x, .dead, .dead, .dead, .dead, .dead, .dead, .dead, .dead], [], []⟩)]
def f124.cuts (a : (List (T_api_Label)) × (List (T_api_Label))) : List (Nat × Σ β : Type, β → Tm) := []
def f124.af (a : (List (T_api_Label)) × (List (T_api_Label))) : AF := AF.mk (.seq (.region [⟨(some 4), 0, .move, [.c (.bool false)], none⟩])
 (.seq (.seq (.region [⟨(some 7), 1, .move, [.t 1], none⟩,
  ⟨(some 8), 2, (.len false), [.t 7], none⟩,
  ⟨(some 9), 3, .move, [.c (.int .i64 (0))], none⟩])
 (.block 0 (.loopT Int (fun x => ⟨[.slice .ro 2 a.1.length (gl e_api_Label a.1), .dead, .dead, .dead, .dead, .dead, .dead, .slice .ro 2 a.2.length (gl e_api_Label a.2), .int .i64 (a.2.length : Int), .int .i64 x, .dead, .dead, .dead, .dead, .dead, .dead, .dead, .dead], [], []⟩) 4 21 (.seq (.region [⟨(some 10), 4, (.bin .lss), [.t 9, .t 8], none⟩])
 (.seq (.cond (.t 10) (.skip) (.exit 0))
 (.seq (.block 1 (.seq (.region [⟨(some 11), 5, (.indexAddr 2 none), [.t 7, .t 9], none⟩,
  ⟨(some 12), 6, (.load true 2), [.t 11], none⟩,
  ⟨(some 6), 7, (.alloc [.str ByteArray.empty, .str ByteArray.empty]), [], none⟩,
  ⟨none, 10, (.store 2), [.t 6, .t 12], none⟩])
 (.seq (.region [⟨(some 13), 11, .move, [.t 0], none⟩,
  ⟨(some 14), 12, (.load true 2), [.t 6], none⟩,
  ⟨(some 15), 13, (.call false 132), [.t 13, .t 14], none⟩,
  ⟨(some 16), 17, (.un .not), [.t 15], none⟩])
 (.cond (.t 16) (.seq (.region [⟨(some 4), 18, .move, [.c (.bool false)], none⟩])
 (.ret)) (.skip)))))
 (.region [⟨(some 17), 19, (.bin .add), [.t 9, .c (.int .i64 (1))], none⟩,
  ⟨(some 9), 20, .move, [.t 17], none⟩])))))))
 (.seq (.region [⟨(some 4), 21, .move, [.c (.bool true)], none⟩])
 (.ret))))
  [.tmp 4] 0 16
def f124.env : Env := [(132, f132.C)]
def f124.tree (a : (List (T_api_Label)) × (List (T_api_Label))) : Prop := ∃ (I2 : Int → Prop) (μ3 : Int → Nat), (∃ x1 : Int, (a.1.length = a.1.length) ∧ (∀ i, i < a.1.length → DEqs ((gl e_api_Label a.1) i) ((gl e_api_Label a.1) i)) ∧ (a.2.length = a.2.length) ∧ (∀ i, i < a.2.length → DEqs ((gl e_api_Label a.2) i) ((gl e_api_Label a.2) i)) ∧ ((a.2.length : Int) = (a.2.length : Int)) ∧ ((0 : Int) = x1) ∧ I2 x1) ∧ ∀ y4 : Int, I2 y4 → (Br (decide (y4 < (a.2.length : Int))) (Br (decide ((0 : Int) ≤ y4) && decide (y4 < (a.2.length : Int))) (∃ c8 : (List (T_api_Label)) × T_api_Label, (a.1.length = c8.1.length) ∧ (∀ i, i < c8.1.length → DEqs ((gl e_api_Label a.1) i) ((gl e_api_Label c8.1) i)) ∧ (((at_ a.2 y4).1) = c8.2.1) ∧ (((at_ a.2 y4).2) = c8.2.2) ∧ (LL20 c8) ∧ Br (!(hasL c8)) ((false = (hasAll a)) ∧ True) (Let (IntKind.i64.wrap (y4 + (1 : Int))) (fun v12 : Int => ∃ x13 : Int, (a.1.length = a.1.length) ∧ (∀ i, i < a.1.length → DEqs ((gl e_api_Label a.1) i) ((gl e_api_Label a.1) i)) ∧ (a.2.length = a.2.length) ∧ (∀ i, i < a.2.length → DEqs ((gl e_api_Label a.2) i) ((gl e_api_Label a.2) i)) ∧ ((a.2.length : Int) = (a.2.length : Int)) ∧ (v12 = x13) ∧ I2 x13 ∧ μ3 x13 < μ3 y4))) False) ((true = (hasAll a)) ∧ True))
def f124.vc (a : (List (T_api_Label)) × (List (T_api_Label))) : Prop := (∃ (I2 : Int → Prop) (μ3 : Int → Nat), I2 (0 : Int) ∧ ∀ y4 : Int, I2 y4 → ((y4 < (a.2.length : Int) → ((0 : Int) ≤ y4 ∧ y4 < (a.2.length : Int) ∧ (LL20 (a.1, (at_ a.2 y4)) ∧ ((¬ ((hasL (a.1, (at_ a.2 y4))) = true) → (false = hasAll a)) ∧ (¬ (¬ ((hasL (a.1, (at_ a.2 y4))) = true)) → (-9223372036854775808 ≤ (y4 + (1 : Int)) ∧ (y4 + (1 : Int)) ≤ 9223372036854775807 ∧ (I2 (y4 + (1 : Int)) ∧ μ3 (y4 + (1 : Int)) < μ3 y4))))))) ∧ (¬ (y4 < (a.2.length : Int)) → (true = hasAll a))))
set_option maxRecDepth 100000 in
set_option maxHeartbeats 2000000 in
theorem f124.of (a : (List (T_api_Label)) × (List (T_api_Label))) (h : f124.vc a) : f124.tree a := Exists.elim h (fun I2 h25_ => Exists.elim h25_ (fun μ3 h25 => ⟨I2, μ3, ⟨(0 : Int), slK (Rds.self (enc := e_api_Label)) (slK (Rds.self (enc := e_api_Label)) (⟨rfl, ⟨rfl, h25.1⟩⟩))⟩, fun y4 h27 => br (h25.2 y4 h27) Cnd.dec (fun h5 k23 => chk k23.2.2 Cnd.ix ⟨k23.1, k23.2.1⟩ (fun h7 k21 => ⟨(a.1, (at_ a.2 y4)), slK (Rds.self (enc := e_api_Label)) (⟨rfl, ⟨rfl, ⟨k21.1, br k21.2 (Cnd.not Cnd.b) (fun h9 k18 => ⟨k18, trivial⟩) (fun h10 k19 => wrapK.i64 k19 (fun h15 h16 k17 => ⟨(y4 + (1 : Int)), slK (Rds.self (enc := e_api_Label)) (slK (Rds.self (enc := e_api_Label)) (⟨rfl, ⟨rfl, k17⟩⟩))⟩))⟩⟩⟩)⟩)) (fun h6 k24 => ⟨k24, trivial⟩)⟩))
theorem f124.eq (a : (List (T_api_Label)) × (List (T_api_Label))) : (f124.af a).gives f124.env (f124.args a) (f124.blks a) (f124.res a) (f124.blks' a) = f124.tree a := by kernel_rfl
end Go.Abs

-- interregnum/feas.Free
namespace Go.Abs
open Go
def f112.args (a : T_api_Machine × (List (T_api_Job))) : List D := [.agg [.str a.1.1.1, .int .i64 a.1.1.2.1.1, .int .i64 a.1.1.2.1.2.1, .int .i64 a.1.1.2.1.2.2, .slice .ro 2 a.1.1.2.2.length (gl e_api_Label a.1.1.2.2), .bool a.1.2.1, .int .i64 a.1.2.2], .slice .ro 13 a.2.length (gl e_api_Job a.2)]
def f112.blks (a : T_api_Machine × (List (T_api_Job))) : List (List D) := []
def f112.res (a : T_api_Machine × (List (T_api_Job))) : List D := [.agg [.int .i64 (((freeR a).1).1), .int .i64 (((freeR a).1).2.1), .int .i64 (((freeR a).1).2.2)], .int .i64 ((freeR a).2)]
def f112.blks' (a : T_api_Machine × (List (T_api_Job))) : List (List D) := []
def f112.C : Contract := FnC f112.args f112.blks (fun a => free_pre a) f112.res f112.blks'
end Go.Abs

/- interregnum/feas.Free -/
namespace Go.Abs
open Go
set_option linter.unusedVariables false
def f112.kills (a : T_api_Machine × (List (T_api_Job))) : List Hint := [.tell ((List (T_ar3_i64)) × Int) (fun x => ⟨[.dead, .dead, .ptr 0 0, .dead, .ptr 1 0, .dead, .slice (.own 6) 3 x.1.length (gl e_ar3_i64 x.1), .dead, .dead, .dead, .dead, .slice .ro 13 a.2.length (gl e_api_Job a.2), .int .i64 (a.2.length : Int), .int .i64 x.2, .dead, .dead, .dead, .dead, .dead, .dead, .dead, .dead, .dead, .dead, .dead, .dead, .dead, .dead, .dead, .dead, .dead, .dead, .dead, .dead, .dead, .dead, .dead, .dead, .dead, .dead, .dead, .dead, .dead, .dead, .dead, .dead], [(0, false, [.str a.1.1.1, .int .i64 a.1.1.2.1.1, .int .i64 a.1.1.2.1.2.1, .int .i64 a.1.1.2.1.2.2, .slice .ro 2 a.1.1.2.2.length (gl e_api_Label a.1.1.2.2), .bool a.1.2.1, .int .i64 a.1.2.2]), (1, false, [.int .i64 (0 : Int), .int .i64 (0 : Int), .int .i64 (0 : Int)])], [(6, 3, x.1.length)]⟩)]
def f112.cuts (a : T_api_Machine × (List (T_api_Job))) : List (Nat × Σ β : Type, β → Tm) := []
def f112.af (a : T_api_Machine × (List (T_api_Job))) : AF := AF.mk (.seq (.region [⟨(some 2), 0, .box, [.t 0], none⟩,
  ⟨(some 4), 1, (.alloc [.int .i64 (0), .int .i64 (0), .int .i64 (0)]), [], none⟩,
  ⟨(some 5), 5, .move, [.c (.int .i64 (0))], none⟩])
 (.seq (.region [⟨(some 6), 6, (.nilSl 3), [], none⟩])
 (.seq (.seq (.region [⟨(some 11), 7, .move, [.t 1], none⟩,
  ⟨(some 12), 8, (.len false), [.t 11], none⟩,
  ⟨(some 13), 9, .move, [.c (.int .i64 (0))], none⟩])
 (.block 0 (.loopT ((List (T_ar3_i64)) × Int) (fun x => ⟨[.dead, .dead, .ptr 0 0, .dead, .ptr 1 0, .dead, .slice (.own 6) 3 x.1.length (gl e_ar3_i64 x.1), .dead, .dead, .dead, .dead, .slice .ro 13 a.2.length (gl e_api_Job a.2), .int .i64 (a.2.length : Int), .int .i64 x.2, .dead, .dead, .dead, .dead, .dead, .dead, .dead, .dead, .dead, .dead, .dead, .dead, .dead, .dead, .dead, .dead, .dead, .dead, .dead, .dead, .dead, .dead, .dead, .dead, .dead, .dead, .dead, .dead, .dead, .dead, .dead, .dead], [(0, false, [.str a.1.1.1, .int .i64 a.1.1.2.1.1, .int .i64 a.1.1.2.1.2.1, .int .i64 a.1.1.2.1.2.2, .slice .ro 2 a.1.1.2.2.length (gl e_api_Label a.1.1.2.2), .bool a.1.2.1, .int .i64 a.1.2.2]), (1, false, [.int .i64 (0 : Int), .int .i64 (0 : Int), .int .i64 (0 : Int)])], [(6, 3, x.1.length)]⟩) 10 43 (.seq (.region [⟨(some 14), 10, (.bin .lss), [.t 13, .t 12], none⟩])
 (.seq (.cond (.t 14) (.skip) (.exit 0))
 (.seq (.block 1 (.seq (.region [⟨(some 15), 11, (.indexAddr 13 none), [.t 11, .t 13], none⟩,
  ⟨(some 16), 12, (.load true 13), [.t 15], none⟩,
  ⟨(some 8), 13, (.alloc [.str ByteArray.empty, .str ByteArray.empty, .int .i64 (0), .int .i64 (0), .int .i64 (0), .int .i64 (0), .slice (.own 0) 2 0 gnil, .str ByteArray.empty, .str ByteArray.empty, .int .i64 (0), .int .i64 (0), .str ByteArray.empty, .int .i64 (0)]), [], none⟩,
  ⟨none, 27, (.store 13), [.t 8, .t 16], none⟩])
 (.seq (.region [⟨(some 17), 28, (.fieldAddr 11), [.t 8], none⟩,
  ⟨(some 18), 29, (.load false 1), [.t 17], none⟩,
  ⟨(some 19), 30, (.fieldAddr 0), [.t 2], none⟩,
  ⟨(some 20), 31, (.fieldAddr 0), [.t 19], none⟩,
  ⟨(some 21), 32, (.load false 1), [.t 20], none⟩,
  ⟨(some 22), 33, (.bin .eql), [.t 18, .t 21], none⟩])
 (.cond (.t 22) (.region [⟨(some 23), 34, .move, [.t 6], none⟩,
  ⟨(some 24), 35, (.fieldAddr 0), [.t 8], none⟩,
  ⟨(some 25), 36, (.fieldAddr 3), [.t 24], none⟩,
  ⟨(some 26), 37, (.load true 3), [.t 25], none⟩,
  ⟨(some 27), 38, (.buildSlice 3 1 [.int .i64 (0), .int .i64 (0), .int .i64 (0)] [(0, 3)]), [.t 26], none⟩,
  ⟨(some 28), 39, (.append 3 24), [.t 23, .t 27], none⟩,
  ⟨(some 6), 40, .move, [.t 28], none⟩]) (.skip)))))
 (.region [⟨(some 29), 41, (.bin .add), [.t 13, .c (.int .i64 (1))], none⟩,
  ⟨(some 13), 42, .move, [.t 29], none⟩])))))))
 (.seq (.region [⟨(some 31), 43, .move, [.t 6], none⟩,
  ⟨(some 32), 44, (.call false 52), [.t 31], none⟩,
  ⟨(some 30), 48, .move, [.t 32], none⟩,
  ⟨(some 33), 49, (.extract 0), [.t 30], none⟩,
  ⟨(some 34), 50, (.extract 1), [.t 30], none⟩,
  ⟨(some 9), 51, (.alloc [.int .i64 (0), .int .i64 (0), .int .i64 (0)]), [], none⟩,
  ⟨none, 55, (.store 3), [.t 9, .t 33], none⟩,
  ⟨(some 10), 56, .move, [.t 34], none⟩])
 (.seq (.seq (.region [⟨(some 35), 57, .move, [.t 10], none⟩,
  ⟨(some 36), 58, (.bin .neq), [.t 35, .c (.int .i64 (0))], none⟩])
 (.cond (.t 36) (.seq (.region [⟨(some 37), 59, (.build [.int .i64 (0), .int .i64 (0), .int .i64 (0)] []), [], none⟩,
  ⟨(some 38), 60, .move, [.t 10], none⟩,
  ⟨none, 61, (.store 3), [.t 4, .t 37], none⟩,
  ⟨(some 5), 62, .move, [.t 38], none⟩])
 (.ret)) (.skip)))
 (.seq (.region [⟨(some 39), 63, (.fieldAddr 0), [.t 2], none⟩,
  ⟨(some 40), 64, (.fieldAddr 1), [.t 39], none⟩,
  ⟨(some 41), 65, (.load true 3), [.t 40], none⟩,
  ⟨(some 42), 66, (.load true 3), [.t 9], none⟩,
  ⟨(some 43), 67, (.call false 113), [.t 41, .t 42], none⟩,
  ⟨(some 44), 71, (.extract 0), [.t 43], none⟩,
  ⟨(some 45), 72, (.extract 1), [.t 43], none⟩,
  ⟨none, 73, (.store 3), [.t 4, .t 44], none⟩,
  ⟨(some 5), 74, .move, [.t 45], none⟩])
 (.ret)))))))
  [.cell 4 true 3, .tmp 5] 0 44
def f112.env : Env := [(52, f52.C), (113, f113.C)]
def f112.tree (a : T_api_Machine × (List (T_api_Job))) : Prop := ∃ (I2 : ((List (T_ar3_i64)) × Int) → Prop) (μ3 : ((List (T_ar3_i64)) × Int) → Nat), (∃ x1 : (List (T_ar3_i64)) × Int, (0 = x1.1.length) ∧ (∀ i, i < x1.1.length → DEqs (gnil i) ((gl e_ar3_i64 x1.1) i)) ∧ (a.2.length = a.2.length) ∧ (∀ i, i < a.2.length → DEqs ((gl e_api_Job a.2) i) ((gl e_api_Job a.2) i)) ∧ ((a.2.length : Int) = (a.2.length : Int)) ∧ ((0 : Int) = x1.2) ∧ (a.1.1.1 = a.1.1.1) ∧ (a.1.1.2.1.1 = a.1.1.2.1.1) ∧ (a.1.1.2.1.2.1 = a.1.1.2.1.2.1) ∧ (a.1.1.2.1.2.2 = a.1.1.2.1.2.2) ∧ (a.1.1.2.2.length = a.1.1.2.2.length) ∧ (∀ i, i < a.1.1.2.2.length → DEqs ((gl e_api_Label a.1.1.2.2) i) ((gl e_api_Label a.1.1.2.2) i)) ∧ (a.1.2.1 = a.1.2.1) ∧ (a.1.2.2 = a.1.2.2) ∧ ((0 : Int) = (0 : Int)) ∧ ((0 : Int) = (0 : Int)) ∧ ((0 : Int) = (0 : Int)) ∧ (0 = x1.1.length) ∧ I2 x1) ∧ ∀ y4 : (List (T_ar3_i64)) × Int, I2 y4 → (Br (decide (y4.2 < (a.2.length : Int))) (Br (decide ((0 : Int) ≤ y4.2) && decide (y4.2 < (a.2.length : Int))) (Br (((at_ a.2 y4.2).2.2.1).toList == a.1.1.1.toList) ((y4.1.length = y4.1.length ∧ room ((y4.1.length + 1) * 24)) ∧ (Let (IntKind.i64.wrap (y4.2 + (1 : Int))) (fun v10 : Int => ∃ x11 : (List (T_ar3_i64)) × Int, ((y4.1.length + 1) = x11.1.length) ∧ (∀ i, i < x11.1.length → DEqs ((gapp (gl e_ar3_i64 y4.1) y4.1.length (fun _ => [.int .i64 ((((at_ a.2 y4.2).1).2.2.2.1).1), .int .i64 ((((at_ a.2 y4.2).1).2.2.2.1).2.1), .int .i64 ((((at_ a.2 y4.2).1).2.2.2.1).2.2)])) i) ((gl e_ar3_i64 x11.1) i)) ∧ (a.2.length = a.2.length) ∧ (∀ i, i < a.2.length → DEqs ((gl e_api_Job a.2) i) ((gl e_api_Job a.2) i)) ∧ ((a.2.length : Int) = (a.2.length : Int)) ∧ (v10 = x11.2) ∧ (a.1.1.1 = a.1.1.1) ∧ (a.1.1.2.1.1 = a.1.1.2.1.1) ∧ (a.1.1.2.1.2.1 = a.1.1.2.1.2.1) ∧ (a.1.1.2.1.2.2 = a.1.1.2.1.2.2) ∧ (a.1.1.2.2.length = a.1.1.2.2.length) ∧ (∀ i, i < a.1.1.2.2.length → DEqs ((gl e_api_Label a.1.1.2.2) i) ((gl e_api_Label a.1.1.2.2) i)) ∧ (a.1.2.1 = a.1.2.1) ∧ (a.1.2.2 = a.1.2.2) ∧ ((0 : Int) = (0 : Int)) ∧ ((0 : Int) = (0 : Int)) ∧ ((0 : Int) = (0 : Int)) ∧ ((y4.1.length + 1) = x11.1.length) ∧ I2 x11 ∧ μ3 x11 < μ3 y4))) (Let (IntKind.i64.wrap (y4.2 + (1 : Int))) (fun v16 : Int => ∃ x17 : (List (T_ar3_i64)) × Int, (y4.1.length = x17.1.length) ∧ (∀ i, i < x17.1.length → DEqs ((gl e_ar3_i64 y4.1) i) ((gl e_ar3_i64 x17.1) i)) ∧ (a.2.length = a.2.length) ∧ (∀ i, i < a.2.length → DEqs ((gl e_api_Job a.2) i) ((gl e_api_Job a.2) i)) ∧ ((a.2.length : Int) = (a.2.length : Int)) ∧ (v16 = x17.2) ∧ (a.1.1.1 = a.1.1.1) ∧ (a.1.1.2.1.1 = a.1.1.2.1.1) ∧ (a.1.1.2.1.2.1 = a.1.1.2.1.2.1) ∧ (a.1.1.2.1.2.2 = a.1.1.2.1.2.2) ∧ (a.1.1.2.2.length = a.1.1.2.2.length) ∧ (∀ i, i < a.1.1.2.2.length → DEqs ((gl e_api_Label a.1.1.2.2) i) ((gl e_api_Label a.1.1.2.2) i)) ∧ (a.1.2.1 = a.1.2.1) ∧ (a.1.2.2 = a.1.2.2) ∧ ((0 : Int) = (0 : Int)) ∧ ((0 : Int) = (0 : Int)) ∧ ((0 : Int) = (0 : Int)) ∧ (y4.1.length = x17.1.length) ∧ I2 x17 ∧ μ3 x17 < μ3 y4))) False) (∃ c25 : List (T_ar3_i64), (y4.1.length = c25.length) ∧ (∀ i, i < c25.length → DEqs ((gl e_ar3_i64 y4.1) i) ((gl e_ar3_i64 c25) i)) ∧ (L20 c25) ∧ Br (((sumR c25).2) != (0 : Int)) (((0 : Int) = (((freeR a).1).1)) ∧ ((0 : Int) = (((freeR a).1).2.1)) ∧ ((0 : Int) = (((freeR a).1).2.2)) ∧ (((sumR c25).2) = ((freeR a).2)) ∧ True) (∃ c29 : T_ar3_i64 × T_ar3_i64, (a.1.1.2.1.1 = c29.1.1) ∧ (a.1.1.2.1.2.1 = c29.1.2.1) ∧ (a.1.1.2.1.2.2 = c29.1.2.2) ∧ ((((sumR c25).1).1) = c29.2.1) ∧ ((((sumR c25).1).2.1) = c29.2.2.1) ∧ ((((sumR c25).1).2.2) = c29.2.2.2) ∧ True ∧ ((((subR c29).1).1) = (((freeR a).1).1)) ∧ ((((subR c29).1).2.1) = (((freeR a).1).2.1)) ∧ ((((subR c29).1).2.2) = (((freeR a).1).2.2)) ∧ (((subR c29).2) = ((freeR a).2)) ∧ True)))
def f112.vc (a : T_api_Machine × (List (T_api_Job))) : Prop := (∃ (I2 : ((List (T_ar3_i64)) × Int) → Prop) (μ3 : ((List (T_ar3_i64)) × Int) → Nat), I2 ([], (0 : Int)) ∧ ∀ y4 : (List (T_ar3_i64)) × Int, I2 y4 → ((y4.2 < (a.2.length : Int) → ((0 : Int) ≤ y4.2 ∧ y4.2 < (a.2.length : Int) ∧ ((((at_ a.2 y4.2).2.2.1) = a.1.1.1 → (y4.1.length + 1 ≤ 1073741824 ∧ (-9223372036854775808 ≤ (y4.2 + (1 : Int)) ∧ (y4.2 + (1 : Int)) ≤ 9223372036854775807 ∧ (I2 (y4.1 ++ ([(((at_ a.2 y4.2).1).2.2.2.1)]), (y4.2 + (1 : Int))) ∧ μ3 (y4.1 ++ ([(((at_ a.2 y4.2).1).2.2.2.1)]), (y4.2 + (1 : Int))) < μ3 y4)))) ∧ (¬ (((at_ a.2 y4.2).2.2.1) = a.1.1.1) → (-9223372036854775808 ≤ (y4.2 + (1 : Int)) ∧ (y4.2 + (1 : Int)) ≤ 9223372036854775807 ∧ (I2 (y4.1, (y4.2 + (1 : Int))) ∧ μ3 (y4.1, (y4.2 + (1 : Int))) < μ3 y4)))))) ∧ (¬ (y4.2 < (a.2.length : Int)) → (L20 y4.1 ∧ ((¬ ((sumR (y4.1)).2) = (0 : Int) → ((((0 : Int), (0 : Int), (0 : Int)), (sumR (y4.1)).2) = freeR a)) ∧ (¬ (¬ ((sumR (y4.1)).2) = (0 : Int)) → ((((subR (a.1.1.2.1, ((sumR (y4.1)).1))).1), (subR (a.1.1.2.1, ((sumR (y4.1)).1))).2) = freeR a)))))))
set_option maxRecDepth 100000 in
set_option maxHeartbeats 2000000 in
theorem f112.of (a : T_api_Machine × (List (T_api_Job))) (h : f112.vc a) : f112.tree a := Exists.elim h (fun I2 h37_ => Exists.elim h37_ (fun μ3 h37 => ⟨I2, μ3, ⟨([], (0 : Int)), slK (Rds.nil (enc := e_ar3_i64)) (slK (Rds.self (enc := e_api_Job)) (⟨rfl, ⟨rfl, ⟨rfl, ⟨rfl, ⟨rfl, ⟨rfl, slK (Rds.self (enc := e_api_Label)) (⟨rfl, ⟨rfl, ⟨rfl, ⟨rfl, ⟨rfl, ⟨(numR gnil (Rds.nil (enc := e_ar3_i64))), h37.1⟩⟩⟩⟩⟩⟩)⟩⟩⟩⟩⟩⟩))⟩, fun y4 h39 => br (h37.2 y4 h39) Cnd.dec (fun h5 k35 => chk k35.2.2 Cnd.ix ⟨k35.1, k35.2.1⟩ (fun h7 k24 => br k24 Cnd.seq (fun h8 k22 => ⟨⟨rfl, (room_of k22.1 (by decide))⟩, wrapK.i64 k22.2 (fun h13 h14 k15 => ⟨(y4.1 ++ ([(((at_ a.2 y4.2).1).2.2.2.1)]), (y4.2 + (1 : Int))), slK (Rds.app (enc := e_ar3_i64) (Rds.self (enc := e_ar3_i64)) (Rds.one (enc := e_ar3_i64) (DEqs.refl _))) (slK (Rds.self (enc := e_api_Job)) (⟨rfl, ⟨rfl, ⟨rfl, ⟨rfl, ⟨rfl, ⟨rfl, slK (Rds.self (enc := e_api_Label)) (⟨rfl, ⟨rfl, ⟨rfl, ⟨rfl, ⟨rfl, ⟨(numR (gapp (gl e_ar3_i64 y4.1) y4.1.length (fun _ => [.int .i64 ((((at_ a.2 y4.2).1).2.2.2.1).1), .int .i64 ((((at_ a.2 y4.2).1).2.2.2.1).2.1), .int .i64 ((((at_ a.2 y4.2).1).2.2.2.1).2.2)])) (Rds.app (enc := e_ar3_i64) (Rds.self (enc := e_ar3_i64)) (Rds.one (enc := e_ar3_i64) (DEqs.refl _)))), k15⟩⟩⟩⟩⟩⟩)⟩⟩⟩⟩⟩⟩))⟩)⟩) (fun h9 k23 => wrapK.i64 k23 (fun h19 h20 k21 => ⟨(y4.1, (y4.2 + (1 : Int))), slK (Rds.self (enc := e_ar3_i64)) (slK (Rds.self (enc := e_api_Job)) (⟨rfl, ⟨rfl, ⟨rfl, ⟨rfl, ⟨rfl, ⟨rfl, slK (Rds.self (enc := e_api_Label)) (⟨rfl, ⟨rfl, ⟨rfl, ⟨rfl, ⟨rfl, ⟨(numR (gl e_ar3_i64 y4.1) (Rds.self (enc := e_ar3_i64))), k21⟩⟩⟩⟩⟩⟩)⟩⟩⟩⟩⟩⟩))⟩)))) (fun h6 k36 => ⟨y4.1, slK (Rds.self (enc := e_ar3_i64)) (⟨k36.1, br k36.2 Cnd.ne (fun h26 k32 => ⟨(congrArg (fun x : T_ar3_i64 × Int => x.1.1) k32 :), ⟨(congrArg (fun x : T_ar3_i64 × Int => x.1.2.1) k32 :), ⟨(congrArg (fun x : T_ar3_i64 × Int => x.1.2.2) k32 :), ⟨(congrArg (fun x : T_ar3_i64 × Int => x.2) k32 :), trivial⟩⟩⟩⟩) (fun h27 k33 => ⟨(a.1.1.2.1, ((sumR (y4.1)).1)), ⟨rfl, ⟨rfl, ⟨rfl, ⟨rfl, ⟨rfl, ⟨rfl, ⟨trivial, ⟨(congrArg (fun x : T_ar3_i64 × Int => x.1.1) k33 :), ⟨(congrArg (fun x : T_ar3_i64 × Int => x.1.2.1) k33 :), ⟨(congrArg (fun x : T_ar3_i64 × Int => x.1.2.2) k33 :), ⟨(congrArg (fun x : T_ar3_i64 × Int => x.2) k33 :), trivial⟩⟩⟩⟩⟩⟩⟩⟩⟩⟩⟩⟩)⟩)⟩)⟩))
theorem f112.eq (a : T_api_Machine × (List (T_api_Job))) : (f112.af a).gives f112.env (f112.args a) (f112.blks a) (f112.res a) (f112.blks' a) = f112.tree a := by kernel_rfl
end Go.Abs

-- interregnum/feas.bothers
namespace Go.Abs
open Go
def f127.args (a : T_api_Job × T_api_Machine × T_api_Task) : List D := [.agg [.str a.1.1.1, .str a.1.1.2.1, .int .i64 a.1.1.2.2.1, .int .i64 a.1.1.2.2.2.1.1, .int .i64 a.1.1.2.2.2.1.2.1, .int .i64 a.1.1.2.2.2.1.2.2, .slice .ro 2 a.1.1.2.2.2.2.1.length (gl e_api_Label a.1.1.2.2.2.2.1), .str a.1.1.2.2.2.2.2.1, .str a.1.1.2.2.2.2.2.2.1, .int .i64 a.1.1.2.2.2.2.2.2.2, .int .i64 a.1.2.1, .str a.1.2.2.1, .int .i64 a.1.2.2.2], .agg [.str a.2.1.1.1, .int .i64 a.2.1.1.2.1.1, .int .i64 a.2.1.1.2.1.2.1, .int .i64 a.2.1.1.2.1.2.2, .slice .ro 2 a.2.1.1.2.2.length (gl e_api_Label a.2.1.1.2.2), .bool a.2.1.2.1, .int .i64 a.2.1.2.2], .agg [.str a.2.2.1, .str a.2.2.2.1, .int .i64 a.2.2.2.2.1, .int .i64 a.2.2.2.2.2.1.1, .int .i64 a.2.2.2.2.2.1.2.1, .int .i64 a.2.2.2.2.2.1.2.2, .slice .ro 2 a.2.2.2.2.2.2.1.length (gl e_api_Label a.2.2.2.2.2.2.1), .str a.2.2.2.2.2.2.2.1, .str a.2.2.2.2.2.2.2.2.1, .int .i64 a.2.2.2.2.2.2.2.2.2]]
def f127.blks (a : T_api_Job × T_api_Machine × T_api_Task) : List (List D) := []
def f127.res (a : T_api_Job × T_api_Machine × T_api_Task) : List D := [.bool (bothersR a)]
def f127.blks' (a : T_api_Job × T_api_Machine × T_api_Task) : List (List D) := []
def f127.C : Contract := FnC f127.args f127.blks (fun _ => True) f127.res f127.blks'
end Go.Abs

/- interregnum/feas.bothers -/
namespace Go.Abs
open Go
set_option linter.unusedVariables false
def f127.kills (a : T_api_Job × T_api_Machine × T_api_Task) : List Hint := []
def f127.cuts (a : T_api_Job × T_api_Machine × T_api_Task) : List (Nat × Σ β : Type, β → Tm) := []
def f127.af (a : T_api_Job × T_api_Machine × T_api_Task) : AF := AF.mk (.seq (.region [⟨(some 3), 0, .box, [.t 0], none⟩,
  ⟨(some 4), 1, .box, [.t 1], none⟩,
  ⟨(some 5), 2, .box, [.t 2], none⟩,
  ⟨(some 6), 3, .move, [.c (.bool false)], none⟩])
 (.seq (.region [⟨(some 7), 4, (.fieldAddr 7), [.t 5], none⟩,
  ⟨(some 8), 5, (.load false 1), [.t 7], none⟩,
  ⟨(some 9), 6, (.bin .neq), [.t 8, .c (.str ByteArray.empty)], none⟩,
  ⟨(some 10), 7, .move, [.t 9], none⟩,
  ⟨(some 11), 8, (.fieldAddr 11), [.t 3], (some (10, true))⟩,
  ⟨(some 12), 9, (.load false 1), [.t 11], (some (10, true))⟩,
  ⟨(some 13), 10, (.fieldAddr 0), [.t 4], (some (10, true))⟩,
  ⟨(some 14), 11, (.fieldAddr 0), [.t 13], (some (10, true))⟩,
  ⟨(some 15), 12, (.load false 1), [.t 14], (some (10, true))⟩,
  ⟨(some 16), 13, (.bin .eql), [.t 12, .t 15], (some (10, true))⟩,
  ⟨(some 17), 14, .pick, [.t 10, .t 16, .c (.bool false)], none⟩,
  ⟨(some 18), 15, .move, [.t 17], none⟩,
  ⟨(some 19), 16, (.fieldAddr 0), [.t 3], (some (18, true))⟩,
  ⟨(some 20), 17, (.fieldAddr 0), [.t 19], (some (18, true))⟩,
  ⟨(some 21), 18, (.load false 1), [.t 20], (some (18, true))⟩,
  ⟨(some 22), 19, (.fieldAddr 0), [.t 5], (some (18, true))⟩,
  ⟨(some 23), 20, (.load false 1), [.t 22], (some (18, true))⟩,
  ⟨(some 24), 21, (.bin .neq), [.t 21, .t 23], (some (18, true))⟩,
  ⟨(some 25), 22, .pick, [.t 18, .t 24, .c (.bool false)], none⟩,
  ⟨(some 26), 23, .move, [.t 25], none⟩,
  ⟨(some 27), 24, (.fieldAddr 0), [.t 3], (some (26, true))⟩,
  ⟨(some 28), 25, (.fieldAddr 7), [.t 27], (some (26, true))⟩,
  ⟨(some 29), 26, (.load false 1), [.t 28], (some (26, true))⟩,
  ⟨(some 30), 27, (.fieldAddr 7), [.t 5], (some (26, true))⟩,
  ⟨(some 31), 28, (.load false 1), [.t 30], (some (26, true))⟩,
  ⟨(some 32), 29, (.bin .eql), [.t 29, .t 31], (some (26, true))⟩,
  ⟨(some 33), 30, .pick, [.t 26, .t 32, .c (.bool false)], none⟩,
  ⟨(some 6), 31, .move, [.t 33], none⟩])
 (.ret)))
  [.tmp 6] 0 31
def f127.env : Env := []
def f127.tree (a : T_api_Job × T_api_Machine × T_api_Task) : Prop := Br (!(a.2.2.2.2.2.2.2.1.toList == ByteArray.empty.toList)) (Br (a.1.2.2.1.toList == a.2.1.1.1.toList) (Br (!(a.1.1.1.toList == a.2.2.1.toList)) (((a.1.1.2.2.2.2.2.1.toList == a.2.2.2.2.2.2.2.1.toList) = (bothersR a)) ∧ True) ((false = (bothersR a)) ∧ True)) ((false = (bothersR a)) ∧ True)) ((false = (bothersR a)) ∧ True)
def f127.vc (a : T_api_Job × T_api_Machine × T_api_Task) : Prop := ((¬ (a.2.2.2.2.2.2.2.1 = ByteArray.empty) → ((a.1.2.2.1 = a.2.1.1.1 → ((¬ (a.1.1.1 = a.2.2.1) → ((a.1.1.2.2.2.2.2.1.toList == a.2.2.2.2.2.2.2.1.toList) = bothersR a)) ∧ (¬ (¬ (a.1.1.1 = a.2.2.1)) → (false = bothersR a)))) ∧ (¬ (a.1.2.2.1 = a.2.1.1.1) → (false = bothersR a)))) ∧ (¬ (¬ (a.2.2.2.2.2.2.2.1 = ByteArray.empty)) → (false = bothersR a)))
set_option maxRecDepth 100000 in
set_option maxHeartbeats 2000000 in
theorem f127.of (a : T_api_Job × T_api_Machine × T_api_Task) (h : f127.vc a) : f127.tree a := br h (Cnd.not Cnd.seq) (fun h1 k15 => br k15 Cnd.seq (fun h3 k12 => br k12 (Cnd.not Cnd.seq) (fun h5 k9 => ⟨k9, trivial⟩) (fun h6 k10 => ⟨k10, trivial⟩)) (fun h4 k13 => ⟨k13, trivial⟩)) (fun h2 k16 => ⟨k16, trivial⟩)
theorem f127.eq (a : T_api_Job × T_api_Machine × T_api_Task) : (f127.af a).gives f127.env (f127.args a) (f127.blks a) (f127.res a) (f127.blks' a) = f127.tree a := by kernel_rfl
end Go.Abs

-- interregnum/feas.Why$1
namespace Go.Abs
open Go
def f126.args (a : T_api_Job × T_api_Machine × T_api_Task) : List D := [.agg [.str a.1.1.1, .str a.1.1.2.1, .int .i64 a.1.1.2.2.1, .int .i64 a.1.1.2.2.2.1.1, .int .i64 a.1.1.2.2.2.1.2.1, .int .i64 a.1.1.2.2.2.1.2.2, .slice .ro 2 a.1.1.2.2.2.2.1.length (gl e_api_Label a.1.1.2.2.2.2.1), .str a.1.1.2.2.2.2.2.1, .str a.1.1.2.2.2.2.2.2.1, .int .i64 a.1.1.2.2.2.2.2.2.2, .int .i64 a.1.2.1, .str a.1.2.2.1, .int .i64 a.1.2.2.2], .eptr [.str a.2.1.1.1, .int .i64 a.2.1.1.2.1.1, .int .i64 a.2.1.1.2.1.2.1, .int .i64 a.2.1.1.2.1.2.2, .slice .ro 2 a.2.1.1.2.2.length (gl e_api_Label a.2.1.1.2.2), .bool a.2.1.2.1, .int .i64 a.2.1.2.2], .eptr [.str a.2.2.1, .str a.2.2.2.1, .int .i64 a.2.2.2.2.1, .int .i64 a.2.2.2.2.2.1.1, .int .i64 a.2.2.2.2.2.1.2.1, .int .i64 a.2.2.2.2.2.1.2.2, .slice .ro 2 a.2.2.2.2.2.2.1.length (gl e_api_Label a.2.2.2.2.2.2.1), .str a.2.2.2.2.2.2.2.1, .str a.2.2.2.2.2.2.2.2.1, .int .i64 a.2.2.2.2.2.2.2.2.2]]
def f126.blks (a : T_api_Job × T_api_Machine × T_api_Task) : List (List D) := []
def f126.res (a : T_api_Job × T_api_Machine × T_api_Task) : List D := [.bool (bothersR a)]
def f126.blks' (a : T_api_Job × T_api_Machine × T_api_Task) : List (List D) := []
def f126.C : Contract := FnC f126.args f126.blks (fun _ => True) f126.res f126.blks'
end Go.Abs

/- interregnum/feas.Why$1 -/
namespace Go.Abs
open Go
set_option linter.unusedVariables false
def f126.kills (a : T_api_Job × T_api_Machine × T_api_Task) : List Hint := []
def f126.cuts (a : T_api_Job × T_api_Machine × T_api_Task) : List (Nat × Σ β : Type, β → Tm) := []
def f126.af (a : T_api_Job × T_api_Machine × T_api_Task) : AF := AF.mk (.seq (.region [⟨(some 3), 0, .box, [.t 0], none⟩,
  ⟨(some 4), 1, .move, [.c (.bool false)], none⟩])
 (.seq (.region [⟨(some 5), 2, (.load true 13), [.t 3], none⟩,
  ⟨(some 6), 3, (.load true 7), [.t 1], none⟩,
  ⟨(some 7), 4, (.load true 10), [.t 2], none⟩,
  ⟨(some 8), 5, (.call false 127), [.t 5, .t 6, .t 7], none⟩,
  ⟨(some 4), 9, .move, [.t 8], none⟩])
 (.ret)))
  [.tmp 4] 0 6
def f126.env : Env := [(127, f127.C)]
def f126.tree (a : T_api_Job × T_api_Machine × T_api_Task) : Prop := ∃ c1 : T_api_Job × T_api_Machine × T_api_Task, (a.1.1.1 = c1.1.1.1) ∧ (a.1.1.2.1 = c1.1.1.2.1) ∧ (a.1.1.2.2.1 = c1.1.1.2.2.1) ∧ (a.1.1.2.2.2.1.1 = c1.1.1.2.2.2.1.1) ∧ (a.1.1.2.2.2.1.2.1 = c1.1.1.2.2.2.1.2.1) ∧ (a.1.1.2.2.2.1.2.2 = c1.1.1.2.2.2.1.2.2) ∧ (a.1.1.2.2.2.2.1.length = c1.1.1.2.2.2.2.1.length) ∧ (∀ i, i < c1.1.1.2.2.2.2.1.length → DEqs ((gl e_api_Label a.1.1.2.2.2.2.1) i) ((gl e_api_Label c1.1.1.2.2.2.2.1) i)) ∧ (a.1.1.2.2.2.2.2.1 = c1.1.1.2.2.2.2.2.1) ∧ (a.1.1.2.2.2.2.2.2.1 = c1.1.1.2.2.2.2.2.2.1) ∧ (a.1.1.2.2.2.2.2.2.2 = c1.1.1.2.2.2.2.2.2.2) ∧ (a.1.2.1 = c1.1.2.1) ∧ (a.1.2.2.1 = c1.1.2.2.1) ∧ (a.1.2.2.2 = c1.1.2.2.2) ∧ (a.2.1.1.1 = c1.2.1.1.1) ∧ (a.2.1.1.2.1.1 = c1.2.1.1.2.1.1) ∧ (a.2.1.1.2.1.2.1 = c1.2.1.1.2.1.2.1) ∧ (a.2.1.1.2.1.2.2 = c1.2.1.1.2.1.2.2) ∧ (a.2.1.1.2.2.length = c1.2.1.1.2.2.length) ∧ (∀ i, i < c1.2.1.1.2.2.length → DEqs ((gl e_api_Label a.2.1.1.2.2) i) ((gl e_api_Label c1.2.1.1.2.2) i)) ∧ (a.2.1.2.1 = c1.2.1.2.1) ∧ (a.2.1.2.2 = c1.2.1.2.2) ∧ (a.2.2.1 = c1.2.2.1) ∧ (a.2.2.2.1 = c1.2.2.2.1) ∧ (a.2.2.2.2.1 = c1.2.2.2.2.1) ∧ (a.2.2.2.2.2.1.1 = c1.2.2.2.2.2.1.1) ∧ (a.2.2.2.2.2.1.2.1 = c1.2.2.2.2.2.1.2.1) ∧ (a.2.2.2.2.2.1.2.2 = c1.2.2.2.2.2.1.2.2) ∧ (a.2.2.2.2.2.2.1.length = c1.2.2.2.2.2.2.1.length) ∧ (∀ i, i < c1.2.2.2.2.2.2.1.length → DEqs ((gl e_api_Label a.2.2.2.2.2.2.1) i) ((gl e_api_Label c1.2.2.2.2.2.2.1) i)) ∧ (a.2.2.2.2.2.2.2.1 = c1.2.2.2.2.2.2.2.1) ∧ (a.2.2.2.2.2.2.2.2.1 = c1.2.2.2.2.2.2.2.2.1) ∧ (a.2.2.2.2.2.2.2.2.2 = c1.2.2.2.2.2.2.2.2.2) ∧ True ∧ ((bothersR c1) = (bothersR a)) ∧ True
def f126.vc (a : T_api_Job × T_api_Machine × T_api_Task) : Prop := ((bothersR (a.1, a.2.1, a.2.2)) = bothersR a)
set_option maxRecDepth 100000 in
set_option maxHeartbeats 2000000 in
theorem f126.of (a : T_api_Job × T_api_Machine × T_api_Task) (h : f126.vc a) : f126.tree a := ⟨(a.1, a.2.1, a.2.2), ⟨rfl, ⟨rfl, ⟨rfl, ⟨rfl, ⟨rfl, ⟨rfl, slK (Rds.self (enc := e_api_Label)) (⟨rfl, ⟨rfl, ⟨rfl, ⟨rfl, ⟨rfl, ⟨rfl, ⟨rfl, ⟨rfl, ⟨rfl, ⟨rfl, slK (Rds.self (enc := e_api_Label)) (⟨rfl, ⟨rfl, ⟨rfl, ⟨rfl, ⟨rfl, ⟨rfl, ⟨rfl, ⟨rfl, slK (Rds.self (enc := e_api_Label)) (⟨rfl, ⟨rfl, ⟨rfl, ⟨trivial, ⟨h, trivial⟩⟩⟩⟩⟩)⟩⟩⟩⟩⟩⟩⟩⟩)⟩⟩⟩⟩⟩⟩⟩⟩⟩⟩)⟩⟩⟩⟩⟩⟩⟩
theorem f126.eq (a : T_api_Job × T_api_Machine × T_api_Task) : (f126.af a).gives f126.env (f126.args a) (f126.blks a) (f126.res a) (f126.blks' a) = f126.tree a := by kernel_rfl
end Go.Abs

-- slices.IndexFunc[[]interregnum/api.Job,interregnum/api.Job]#1
namespace Go.Abs
open Go
def f1056.args (a : (List (T_api_Job)) × T_api_Machine × T_api_Task) : List D := [.slice .ro 13 a.1.length (gl e_api_Job a.1), .fn 126 [.eptr [.str a.2.1.1.1, .int .i64 a.2.1.1.2.1.1, .int .i64 a.2.1.1.2.1.2.1, .int .i64 a.2.1.1.2.1.2.2, .slice .ro 2 a.2.1.1.2.2.length (gl e_api_Label a.2.1.1.2.2), .bool a.2.1.2.1, .int .i64 a.2.1.2.2], .eptr [.str a.2.2.1, .str a.2.2.2.1, .int .i64 a.2.2.2.2.1, .int .i64 a.2.2.2.2.2.1.1, .int .i64 a.2.2.2.2.2.1.2.1, .int .i64 a.2.2.2.2.2.1.2.2, .slice .ro 2 a.2.2.2.2.2.2.1.length (gl e_api_Label a.2.2.2.2.2.2.1), .str a.2.2.2.2.2.2.2.1, .str a.2.2.2.2.2.2.2.2.1, .int .i64 a.2.2.2.2.2.2.2.2.2]]]
def f1056.blks (a : (List (T_api_Job)) × T_api_Machine × T_api_Task) : List (List D) := []
def f1056.res (a : (List (T_api_Job)) × T_api_Machine × T_api_Task) : List D := [.int .i64 (ixBother a)]
def f1056.blks' (a : (List (T_api_Job)) × T_api_Machine × T_api_Task) : List (List D) := []
def f1056.C : Contract := FnC f1056.args f1056.blks (fun a => LL20 a) f1056.res f1056.blks'
end Go.Abs

/- slices.IndexFunc[[]interregnum/api.Job,interregnum/api.Job]#1 -/
namespace Go.Abs
open Go
set_option linter.unusedVariables false
def f1056.kills (a : (List (T_api_Job)) × T_api_Machine × T_api_Task) : List Hint := [.tell Int (fun x => ⟨[.slice .ro 13 a.1.length (gl e_api_Job a.1), .fn 126 [.eptr [.str a.2.1.1.1, .int .i64 a.2.1.1.2.1.1, .int .i64 a.2.1.1.2.1.2.1, .int .i64 a.2.1.1.2.1.2.2, .slice .ro 2 a.2.1.1.2.2.length (gl e_api_Label a.2.1.1.2.2), .bool a.2.1.2.1, .int .i64 a.2.1.2.2], .eptr [.str a.2.2.1, .str a.2.2.2.1, .int .i64 a.2.2.2.2.1, .int .i64 a.2.2.2.2.2.1.1, .int .i64 a.2.2.2.2.2.1.2.1, .int .i64 a.2.2.2.2.2.1.2.2, .slice .ro 2 a.2.2.2.2.2.2.1.length (gl e_api_Label a.2.2.2.2.2.2.1), .str a.2.2.2.2.2.2.2.1, .str a.2.2.2.2.2.2.2.2.1, .int .i64 a.2.2.2.2.2.2.2.2.2]], .dead, .dead, .dead, .dead, .dead, .int .i64 (a.1.length : Int), .int .i64 x, .dead, .dead, .dead, .dead, .dead, .dead, .dead, .dead, .dead, .dead], [], []⟩)]
def f1056.cuts (a : (List (T_api_Job)) × T_api_Machine × T_api_Task) : List (Nat × Σ β : Type, β → Tm) := []
def f1056.af (a : (List (T_api_Job)) × T_api_Machine × T_api_Task) : AF := AF.mk (.seq (.region [⟨(some 4), 0, .move, [.c (.int .i64 (0))], none⟩])
 (.seq (.seq (.region [⟨(some 6), 1, .move, [.t 0], none⟩,
  ⟨(some 7), 2, (.len false), [.t 6], none⟩,
  ⟨(some 8), 3, .move, [.c (.int .i64 (0))], none⟩])
 (.block 0 (.loopT Int (fun x => ⟨[.slice .ro 13 a.1.length (gl e_api_Job a.1), .fn 126 [.eptr [.str a.2.1.1.1, .int .i64 a.2.1.1.2.1.1, .int .i64 a.2.1.1.2.1.2.1, .int .i64 a.2.1.1.2.1.2.2, .slice .ro 2 a.2.1.1.2.2.length (gl e_api_Label a.2.1.1.2.2), .bool a.2.1.2.1, .int .i64 a.2.1.2.2], .eptr [.str a.2.2.1, .str a.2.2.2.1, .int .i64 a.2.2.2.2.1, .int .i64 a.2.2.2.2.2.1.1, .int .i64 a.2.2.2.2.2.1.2.1, .int .i64 a.2.2.2.2.2.1.2.2, .slice .ro 2 a.2.2.2.2.2.2.1.length (gl e_api_Label a.2.2.2.2.2.2.1), .str a.2.2.2.2.2.2.2.1, .str a.2.2.2.2.2.2.2.2.1, .int .i64 a.2.2.2.2.2.2.2.2.2]], .dead, .dead, .dead, .dead, .dead, .int .i64 (a.1.length : Int), .int .i64 x, .dead, .dead, .dead, .dead, .dead, .dead, .dead, .dead, .dead, .dead], [], []⟩) 4 20 (.seq (.region [⟨(some 9), 4, (.bin .lss), [.t 8, .t 7], none⟩])
 (.seq (.cond (.t 9) (.skip) (.exit 0))
 (.seq (.block 1 (.seq (.region [⟨(some 10), 5, .move, [.t 8], none⟩,
  ⟨(some 5), 6, .move, [.t 10], none⟩])
 (.seq (.region [⟨(some 11), 7, .move, [.t 1], none⟩,
  ⟨(some 12), 8, .move, [.t 0], none⟩,
  ⟨(some 13), 9, .move, [.t 5], none⟩,
  ⟨(some 14), 10, (.indexAddr 13 none), [.t 12, .t 13], none⟩,
  ⟨(some 15), 11, (.load true 13), [.t 14], none⟩,
  ⟨(some 16), 12, (.callv false), [.t 11, .t 15], none⟩])
 (.cond (.t 16) (.seq (.region [⟨(some 17), 16, .move, [.t 5], none⟩,
  ⟨(some 4), 17, .move, [.t 17], none⟩])
 (.ret)) (.skip)))))
 (.region [⟨(some 18), 18, (.bin .add), [.t 8, .c (.int .i64 (1))], none⟩,
  ⟨(some 8), 19, .move, [.t 18], none⟩])))))))
 (.seq (.region [⟨(some 4), 20, .move, [.c (.int .i64 (-1))], none⟩])
 (.ret))))
  [.tmp 4] 0 17
def f1056.env : Env := [(126, f126.C)]
def f1056.tree (a : (List (T_api_Job)) × T_api_Machine × T_api_Task) : Prop := ∃ (I2 : Int → Prop) (μ3 : Int → Nat), (∃ x1 : Int, (a.1.length = a.1.length) ∧ (∀ i, i < a.1.length → DEqs ((gl e_api_Job a.1) i) ((gl e_api_Job a.1) i)) ∧ (DEqs [.eptr [.str a.2.1.1.1, .int .i64 a.2.1.1.2.1.1, .int .i64 a.2.1.1.2.1.2.1, .int .i64 a.2.1.1.2.1.2.2, .slice .ro 2 a.2.1.1.2.2.length (gl e_api_Label a.2.1.1.2.2), .bool a.2.1.2.1, .int .i64 a.2.1.2.2], .eptr [.str a.2.2.1, .str a.2.2.2.1, .int .i64 a.2.2.2.2.1, .int .i64 a.2.2.2.2.2.1.1, .int .i64 a.2.2.2.2.2.1.2.1, .int .i64 a.2.2.2.2.2.1.2.2, .slice .ro 2 a.2.2.2.2.2.2.1.length (gl e_api_Label a.2.2.2.2.2.2.1), .str a.2.2.2.2.2.2.2.1, .str a.2.2.2.2.2.2.2.2.1, .int .i64 a.2.2.2.2.2.2.2.2.2]] [.eptr [.str a.2.1.1.1, .int .i64 a.2.1.1.2.1.1, .int .i64 a.2.1.1.2.1.2.1, .int .i64 a.2.1.1.2.1.2.2, .slice .ro 2 a.2.1.1.2.2.length (gl e_api_Label a.2.1.1.2.2), .bool a.2.1.2.1, .int .i64 a.2.1.2.2], .eptr [.str a.2.2.1, .str a.2.2.2.1, .int .i64 a.2.2.2.2.1, .int .i64 a.2.2.2.2.2.1.1, .int .i64 a.2.2.2.2.2.1.2.1, .int .i64 a.2.2.2.2.2.1.2.2, .slice .ro 2 a.2.2.2.2.2.2.1.length (gl e_api_Label a.2.2.2.2.2.2.1), .str a.2.2.2.2.2.2.2.1, .str a.2.2.2.2.2.2.2.2.1, .int .i64 a.2.2.2.2.2.2.2.2.2]]) ∧ ((a.1.length : Int) = (a.1.length : Int)) ∧ ((0 : Int) = x1) ∧ I2 x1) ∧ ∀ y4 : Int, I2 y4 → (Br (decide (y4 < (a.1.length : Int))) (Br (decide ((0 : Int) ≤ y4) && decide (y4 < (a.1.length : Int))) (∃ c8 : T_api_Job × T_api_Machine × T_api_Task, ((((at_ a.1 y4).1).1) = c8.1.1.1) ∧ ((((at_ a.1 y4).1).2.1) = c8.1.1.2.1) ∧ ((((at_ a.1 y4).1).2.2.1) = c8.1.1.2.2.1) ∧ (((((at_ a.1 y4).1).2.2.2.1).1) = c8.1.1.2.2.2.1.1) ∧ (((((at_ a.1 y4).1).2.2.2.1).2.1) = c8.1.1.2.2.2.1.2.1) ∧ (((((at_ a.1 y4).1).2.2.2.1).2.2) = c8.1.1.2.2.2.1.2.2) ∧ (((((at_ a.1 y4).1).2.2.2.2.1).length) = c8.1.1.2.2.2.2.1.length) ∧ (∀ i, i < c8.1.1.2.2.2.2.1.length → DEqs ((gl e_api_Label (((at_ a.1 y4).1).2.2.2.2.1)) i) ((gl e_api_Label c8.1.1.2.2.2.2.1) i)) ∧ ((((at_ a.1 y4).1).2.2.2.2.2.1) = c8.1.1.2.2.2.2.2.1) ∧ ((((at_ a.1 y4).1).2.2.2.2.2.2.1) = c8.1.1.2.2.2.2.2.2.1) ∧ ((((at_ a.1 y4).1).2.2.2.2.2.2.2) = c8.1.1.2.2.2.2.2.2.2) ∧ (((at_ a.1 y4).2.1) = c8.1.2.1) ∧ (((at_ a.1 y4).2.2.1) = c8.1.2.2.1) ∧ (((at_ a.1 y4).2.2.2) = c8.1.2.2.2) ∧ (DEqs [.str a.2.1.1.1, .int .i64 a.2.1.1.2.1.1, .int .i64 a.2.1.1.2.1.2.1, .int .i64 a.2.1.1.2.1.2.2, .slice .ro 2 a.2.1.1.2.2.length (gl e_api_Label a.2.1.1.2.2), .bool a.2.1.2.1, .int .i64 a.2.1.2.2] [.str c8.2.1.1.1, .int .i64 c8.2.1.1.2.1.1, .int .i64 c8.2.1.1.2.1.2.1, .int .i64 c8.2.1.1.2.1.2.2, .slice .ro 2 c8.2.1.1.2.2.length (gl e_api_Label c8.2.1.1.2.2), .bool c8.2.1.2.1, .int .i64 c8.2.1.2.2]) ∧ (DEqs [.str a.2.2.1, .str a.2.2.2.1, .int .i64 a.2.2.2.2.1, .int .i64 a.2.2.2.2.2.1.1, .int .i64 a.2.2.2.2.2.1.2.1, .int .i64 a.2.2.2.2.2.1.2.2, .slice .ro 2 a.2.2.2.2.2.2.1.length (gl e_api_Label a.2.2.2.2.2.2.1), .str a.2.2.2.2.2.2.2.1, .str a.2.2.2.2.2.2.2.2.1, .int .i64 a.2.2.2.2.2.2.2.2.2] [.str c8.2.2.1, .str c8.2.2.2.1, .int .i64 c8.2.2.2.2.1, .int .i64 c8.2.2.2.2.2.1.1, .int .i64 c8.2.2.2.2.2.1.2.1, .int .i64 c8.2.2.2.2.2.1.2.2, .slice .ro 2 c8.2.2.2.2.2.2.1.length (gl e_api_Label c8.2.2.2.2.2.2.1), .str c8.2.2.2.2.2.2.2.1, .str c8.2.2.2.2.2.2.2.2.1, .int .i64 c8.2.2.2.2.2.2.2.2.2]) ∧ True ∧ Br (bothersR c8) ((y4 = (ixBother a)) ∧ True) (Let (IntKind.i64.wrap (y4 + (1 : Int))) (fun v12 : Int => ∃ x13 : Int, (a.1.length = a.1.length) ∧ (∀ i, i < a.1.length → DEqs ((gl e_api_Job a.1) i) ((gl e_api_Job a.1) i)) ∧ (DEqs [.eptr [.str a.2.1.1.1, .int .i64 a.2.1.1.2.1.1, .int .i64 a.2.1.1.2.1.2.1, .int .i64 a.2.1.1.2.1.2.2, .slice .ro 2 a.2.1.1.2.2.length (gl e_api_Label a.2.1.1.2.2), .bool a.2.1.2.1, .int .i64 a.2.1.2.2], .eptr [.str a.2.2.1, .str a.2.2.2.1, .int .i64 a.2.2.2.2.1, .int .i64 a.2.2.2.2.2.1.1, .int .i64 a.2.2.2.2.2.1.2.1, .int .i64 a.2.2.2.2.2.1.2.2, .slice .ro 2 a.2.2.2.2.2.2.1.length (gl e_api_Label a.2.2.2.2.2.2.1), .str a.2.2.2.2.2.2.2.1, .str a.2.2.2.2.2.2.2.2.1, .int .i64 a.2.2.2.2.2.2.2.2.2]] [.eptr [.str a.2.1.1.1, .int .i64 a.2.1.1.2.1.1, .int .i64 a.2.1.1.2.1.2.1, .int .i64 a.2.1.1.2.1.2.2, .slice .ro 2 a.2.1.1.2.2.length (gl e_api_Label a.2.1.1.2.2), .bool a.2.1.2.1, .int .i64 a.2.1.2.2], .eptr [.str a.2.2.1, .str a.2.2.2.1, .int .i64 a.2.2.2.2.1, .int .i64 a.2.2.2.2.2.1.1, .int .i64 a.2.2.2.2.2.1.2.1, .int .i64 a.2.2.2.2.2.1.2.2, .slice .ro 2 a.2.2.2.2.2.2.1.length (gl e_api_Label a.2.2.2.2.2.2.1), .str a.2.2.2.2.2.2.2.1, .str a.2.2.2.2.2.2.2.2.1, .int .i64 a.2.2.2.2.2.2.2.2.2]]) ∧ ((a.1.length : Int) = (a.1.length : Int)) ∧ (v12 = x13) ∧ I2 x13 ∧ μ3 x13 < μ3 y4))) False) (((-1 : Int) = (ixBother a)) ∧ True))
def f1056.vc (a : (List (T_api_Job)) × T_api_Machine × T_api_Task) : Prop := (∃ (I2 : Int → Prop) (μ3 : Int → Nat), I2 (0 : Int) ∧ ∀ y4 : Int, I2 y4 → ((y4 < (a.1.length : Int) → ((0 : Int) ≤ y4 ∧ y4 < (a.1.length : Int) ∧ (((bothersR ((((at_ a.1 y4).1), (at_ a.1 y4).2.1, (at_ a.1 y4).2.2.1, (at_ a.1 y4).2.2.2), a.2.1, a.2.2)) = true → (y4 = ixBother a)) ∧ (¬ ((bothersR ((((at_ a.1 y4).1), (at_ a.1 y4).2.1, (at_ a.1 y4).2.2.1, (at_ a.1 y4).2.2.2), a.2.1, a.2.2)) = true) → (-9223372036854775808 ≤ (y4 + (1 : Int)) ∧ (y4 + (1 : Int)) ≤ 9223372036854775807 ∧ (I2 (y4 + (1 : Int)) ∧ μ3 (y4 + (1 : Int)) < μ3 y4)))))) ∧ (¬ (y4 < (a.1.length : Int)) → ((-1 : Int) = ixBother a))))
set_option maxRecDepth 100000 in
set_option maxHeartbeats 2000000 in
theorem f1056.of (a : (List (T_api_Job)) × T_api_Machine × T_api_Task) (h : f1056.vc a) : f1056.tree a := Exists.elim h (fun I2 h25_ => Exists.elim h25_ (fun μ3 h25 => ⟨I2, μ3, ⟨(0 : Int), slK (Rds.self (enc := e_api_Job)) (⟨(DEqs.refl _), ⟨rfl, ⟨rfl, h25.1⟩⟩⟩)⟩, fun y4 h27 => br (h25.2 y4 h27) Cnd.dec (fun h5 k23 => chk k23.2.2 Cnd.ix ⟨k23.1, k23.2.1⟩ (fun h7 k21 => ⟨((((at_ a.1 y4).1), (at_ a.1 y4).2.1, (at_ a.1 y4).2.2.1, (at_ a.1 y4).2.2.2), a.2.1, a.2.2), ⟨rfl, ⟨rfl, ⟨rfl, ⟨rfl, ⟨rfl, ⟨rfl, slK (Rds.self (enc := e_api_Label)) (⟨rfl, ⟨rfl, ⟨rfl, ⟨rfl, ⟨rfl, ⟨rfl, ⟨(DEqs.refl _), ⟨(DEqs.refl _), ⟨trivial, br k21 Cnd.b (fun h9 k18 => ⟨k18, trivial⟩) (fun h10 k19 => wrapK.i64 k19 (fun h15 h16 k17 => ⟨(y4 + (1 : Int)), slK (Rds.self (enc := e_api_Job)) (⟨(DEqs.refl _), ⟨rfl, ⟨rfl, k17⟩⟩⟩)⟩))⟩⟩⟩⟩⟩⟩⟩⟩⟩)⟩⟩⟩⟩⟩⟩⟩)) (fun h6 k24 => ⟨k24, trivial⟩)⟩))
theorem f1056.eq (a : (List (T_api_Job)) × T_api_Machine × T_api_Task) : (f1056.af a).gives f1056.env (f1056.args a) (f1056.blks a) (f1056.res a) (f1056.blks' a) = f1056.tree a := by kernel_rfl
end Go.Abs

-- slices.ContainsFunc[[]interregnum/api.Job,interregnum/api.Job]
namespace Go.Abs
open Go
def f125.args (a : (List (T_api_Job)) × T_api_Machine × T_api_Task) : List D := [.slice .ro 13 a.1.length (gl e_api_Job a.1), .fn 126 [.eptr [.str a.2.1.1.1, .int .i64 a.2.1.1.2.1.1, .int .i64 a.2.1.1.2.1.2.1, .int .i64 a.2.1.1.2.1.2.2, .slice .ro 2 a.2.1.1.2.2.length (gl e_api_Label a.2.1.1.2.2), .bool a.2.1.2.1, .int .i64 a.2.1.2.2], .eptr [.str a.2.2.1, .str a.2.2.2.1, .int .i64 a.2.2.2.2.1, .int .i64 a.2.2.2.2.2.1.1, .int .i64 a.2.2.2.2.2.1.2.1, .int .i64 a.2.2.2.2.2.1.2.2, .slice .ro 2 a.2.2.2.2.2.2.1.length (gl e_api_Label a.2.2.2.2.2.2.1), .str a.2.2.2.2.2.2.2.1, .str a.2.2.2.2.2.2.2.2.1, .int .i64 a.2.2.2.2.2.2.2.2.2]]]
def f125.blks (a : (List (T_api_Job)) × T_api_Machine × T_api_Task) : List (List D) := []
def f125.res (a : (List (T_api_Job)) × T_api_Machine × T_api_Task) : List D := [.bool (anyBother a)]
def f125.blks' (a : (List (T_api_Job)) × T_api_Machine × T_api_Task) : List (List D) := []
def f125.C : Contract := FnC f125.args f125.blks (fun a => LL20 a) f125.res f125.blks'
end Go.Abs

/- slices.ContainsFunc[[]interregnum/api.Job,interregnum/api.Job] -/
namespace Go.Abs
open Go
set_option linter.unusedVariables false
def f125.kills (a : (List (T_api_Job)) × T_api_Machine × T_api_Task) : List Hint := []
def f125.cuts (a : (List (T_api_Job)) × T_api_Machine × T_api_Task) : List (Nat × Σ β : Type, β → Tm) := []
def f125.af (a : (List (T_api_Job)) × T_api_Machine × T_api_Task) : AF := AF.mk (.seq (.region [⟨(some 4), 0, .move, [.c (.bool false)], none⟩])
 (.seq (.region [⟨(some 5), 1, .move, [.t 0], none⟩,
  ⟨(some 6), 2, .move, [.t 1], none⟩,
  ⟨(some 7), 3, (.call false 56), [.t 5, .t 6], none⟩,
  ⟨(some 8), 7, (.bin .geq), [.t 7, .c (.int .i64 (0))], none⟩,
  ⟨(some 4), 8, .move, [.t 8], none⟩])
 (.ret)))
  [.tmp 4] 0 7
def f125.env : Env := [(56, f1056.C)]
def f125.tree (a : (List (T_api_Job)) × T_api_Machine × T_api_Task) : Prop := ∃ c1 : (List (T_api_Job)) × T_api_Machine × T_api_Task, (a.1.length = c1.1.length) ∧ (∀ i, i < c1.1.length → DEqs ((gl e_api_Job a.1) i) ((gl e_api_Job c1.1) i)) ∧ (DEqs [.eptr [.str a.2.1.1.1, .int .i64 a.2.1.1.2.1.1, .int .i64 a.2.1.1.2.1.2.1, .int .i64 a.2.1.1.2.1.2.2, .slice .ro 2 a.2.1.1.2.2.length (gl e_api_Label a.2.1.1.2.2), .bool a.2.1.2.1, .int .i64 a.2.1.2.2], .eptr [.str a.2.2.1, .str a.2.2.2.1, .int .i64 a.2.2.2.2.1, .int .i64 a.2.2.2.2.2.1.1, .int .i64 a.2.2.2.2.2.1.2.1, .int .i64 a.2.2.2.2.2.1.2.2, .slice .ro 2 a.2.2.2.2.2.2.1.length (gl e_api_Label a.2.2.2.2.2.2.1), .str a.2.2.2.2.2.2.2.1, .str a.2.2.2.2.2.2.2.2.1, .int .i64 a.2.2.2.2.2.2.2.2.2]] [.eptr [.str c1.2.1.1.1, .int .i64 c1.2.1.1.2.1.1, .int .i64 c1.2.1.1.2.1.2.1, .int .i64 c1.2.1.1.2.1.2.2, .slice .ro 2 c1.2.1.1.2.2.length (gl e_api_Label c1.2.1.1.2.2), .bool c1.2.1.2.1, .int .i64 c1.2.1.2.2], .eptr [.str c1.2.2.1, .str c1.2.2.2.1, .int .i64 c1.2.2.2.2.1, .int .i64 c1.2.2.2.2.2.1.1, .int .i64 c1.2.2.2.2.2.1.2.1, .int .i64 c1.2.2.2.2.2.1.2.2, .slice .ro 2 c1.2.2.2.2.2.2.1.length (gl e_api_Label c1.2.2.2.2.2.2.1), .str c1.2.2.2.2.2.2.2.1, .str c1.2.2.2.2.2.2.2.2.1, .int .i64 c1.2.2.2.2.2.2.2.2.2]]) ∧ (LL20 c1) ∧ ((decide ((0 : Int) ≤ (ixBother c1))) = (anyBother a)) ∧ True
def f125.vc (a : (List (T_api_Job)) × T_api_Machine × T_api_Task) : Prop := (LL20 (a.1, a.2.1, a.2.2) ∧ (decide ((0 : Int) ≤ (ixBother (a.1, a.2.1, a.2.2))) = anyBother a))
set_option maxRecDepth 100000 in
set_option maxHeartbeats 2000000 in
theorem f125.of (a : (List (T_api_Job)) × T_api_Machine × T_api_Task) (h : f125.vc a) : f125.tree a := ⟨(a.1, a.2.1, a.2.2), slK (Rds.self (enc := e_api_Job)) (⟨(DEqs.refl _), ⟨h.1, ⟨h.2, trivial⟩⟩⟩)⟩
theorem f125.eq (a : (List (T_api_Job)) × T_api_Machine × T_api_Task) : (f125.af a).gives f125.env (f125.args a) (f125.blks a) (f125.res a) (f125.blks' a) = f125.tree a := by kernel_rfl
end Go.Abs

-- interregnum/feas.Why
namespace Go.Abs
open Go
def f111.args (a : T_api_Machine × (List (T_api_Job)) × T_api_Task) : List D := [.agg [.str a.1.1.1, .int .i64 a.1.1.2.1.1, .int .i64 a.1.1.2.1.2.1, .int .i64 a.1.1.2.1.2.2, .slice .ro 2 a.1.1.2.2.length (gl e_api_Label a.1.1.2.2), .bool a.1.2.1, .int .i64 a.1.2.2], .slice .ro 13 a.2.1.length (gl e_api_Job a.2.1), .agg [.str a.2.2.1, .str a.2.2.2.1, .int .i64 a.2.2.2.2.1, .int .i64 a.2.2.2.2.2.1.1, .int .i64 a.2.2.2.2.2.1.2.1, .int .i64 a.2.2.2.2.2.1.2.2, .slice .ro 2 a.2.2.2.2.2.2.1.length (gl e_api_Label a.2.2.2.2.2.2.1), .str a.2.2.2.2.2.2.2.1, .str a.2.2.2.2.2.2.2.2.1, .int .i64 a.2.2.2.2.2.2.2.2.2]]
def f111.blks (a : T_api_Machine × (List (T_api_Job)) × T_api_Task) : List (List D) := []
def f111.res (a : T_api_Machine × (List (T_api_Job)) × T_api_Task) : List D := [.int .i64 (whyR a)]
def f111.blks' (a : T_api_Machine × (List (T_api_Job)) × T_api_Task) : List (List D) := []
def f111.C : Contract := FnC f111.args f111.blks (fun a => why_pre a) f111.res f111.blks'
end Go.Abs

/- interregnum/feas.Why -/
namespace Go.Abs
open Go
set_option linter.unusedVariables false
def f111.kills (a : T_api_Machine × (List (T_api_Job)) × T_api_Task) : List Hint := []
def f111.cuts (a : T_api_Machine × (List (T_api_Job)) × T_api_Task) : List (Nat × Σ β : Type, β → Tm) := []
def f111.af (a : T_api_Machine × (List (T_api_Job)) × T_api_Task) : AF := AF.mk (.seq (.region [⟨(some 3), 0, .box, [.t 0], none⟩,
  ⟨(some 5), 1, .box, [.t 2], none⟩,
  ⟨(some 6), 2, .move, [.c (.int .i64 (0))], none⟩])
 (.seq (.region [⟨(some 10), 3, (.load true 7), [.t 3], none⟩,
  ⟨(some 11), 4, .move, [.t 1], none⟩,
  ⟨(some 12), 5, (.call false 112), [.t 10, .t 11], none⟩,
  ⟨(some 9), 9, .move, [.t 12], none⟩,
  ⟨(some 13), 10, (.extract 0), [.t 9], none⟩,
  ⟨(some 14), 11, (.extract 1), [.t 9], none⟩,
  ⟨(some 7), 12, (.alloc [.int .i64 (0), .int .i64 (0), .int .i64 (0)]), [], none⟩,
  ⟨none, 16, (.store 3), [.t 7, .t 13], none⟩,
  ⟨(some 8), 17, .move, [.t 14], none⟩])
 (.seq (.block 0 (.seq (.region [⟨(some 16), 18, .move, [.t 8], none⟩,
  ⟨(some 17), 19, (.bin .neq), [.t 16, .c (.int .i64 (0))], none⟩,
  ⟨(some 18), 20, .move, [.t 17], none⟩,
  ⟨(some 19), 21, (.fieldAddr 0), [.t 3], (some (18, false))⟩,
  ⟨(some 20), 22, (.load true 5), [.t 19], (some (18, false))⟩,
  ⟨(some 21), 23, (.call false 35), [.t 20], (some (18, false))⟩,
  ⟨(some 22), 27, (.un .not), [.t 21], (some (18, false))⟩,
  ⟨(some 23), 28, .pick, [.t 18, .c (.bool true), .t 22], none⟩,
  ⟨(some 24), 29, .move, [.t 23], none⟩,
  ⟨(some 25), 30, (.load true 10), [.t 5], (some (24, false))⟩,
  ⟨(some 26), 31, (.call false 24), [.t 25], (some (24, false))⟩,
  ⟨(some 27), 35, (.un .not), [.t 26], (some (24, false))⟩,
  ⟨(some 28), 36, .pick, [.t 24, .c (.bool true), .t 27], none⟩,
  ⟨(some 15), 37, .move, [.t 28], none⟩])
 (.cond (.t 15) (.seq (.region [⟨(some 6), 38, .move, [.c (.int .i64 (5))], none⟩])
 (.ret)) (.seq (.region [⟨(some 30), 39, (.fieldAddr 5), [.t 3], none⟩,
  ⟨(some 31), 40, (.load false 1), [.t 30], none⟩,
  ⟨(some 32), 41, (.un .not), [.t 31], none⟩,
  ⟨(some 29), 42, .move, [.t 32], none⟩])
 (.cond (.t 29) (.seq (.region [⟨(some 6), 43, .move, [.c (.int .i64 (1))], none⟩])
 (.ret)) (.seq (.region [⟨(some 34), 44, (.fieldAddr 0), [.t 3], none⟩,
  ⟨(some 35), 45, (.fieldAddr 4), [.t 34], none⟩,
  ⟨(some 36), 46, (.load false 1), [.t 35], none⟩,
  ⟨(some 37), 47, (.fieldAddr 6), [.t 5], none⟩,
  ⟨(some 38), 48, (.load false 1), [.t 37], none⟩,
  ⟨(some 39), 49, (.call false 124), [.t 36, .t 38], none⟩,
  ⟨(some 40), 53, (.un .not), [.t 39], none⟩,
  ⟨(some 33), 54, .move, [.t 40], none⟩])
 (.cond (.t 33) (.seq (.region [⟨(some 6), 55, .move, [.c (.int .i64 (2))], none⟩])
 (.ret)) (.seq (.region [⟨(some 42), 56, .move, [.t 1], none⟩,
  ⟨(some 43), 57, (.mkfunc 126 0), [.t 3, .t 5], none⟩,
  ⟨(some 44), 58, (.call false 125), [.t 42, .t 43], none⟩,
  ⟨(some 41), 62, .move, [.t 44], none⟩])
 (.cond (.t 41) (.seq (.region [⟨(some 6), 63, .move, [.c (.int .i64 (3))], none⟩])
 (.ret)) (.seq (.region [⟨(some 46), 64, (.fieldAddr 3), [.t 5], none⟩,
  ⟨(some 47), 65, (.load true 3), [.t 46], none⟩,
  ⟨(some 48), 66, (.load true 3), [.t 7], none⟩,
  ⟨(some 49), 67, (.call false 34), [.t 47, .t 48], none⟩,
  ⟨(some 50), 71, (.un .not), [.t 49], none⟩,
  ⟨(some 45), 72, .move, [.t 50], none⟩])
 (.cond (.t 45) (.seq (.region [⟨(some 6), 73, .move, [.c (.int .i64 (4))], none⟩])
 (.ret)) (.skip))))))))))))
 (.seq (.region [⟨(some 6), 74, .move, [.c (.int .i64 (0))], none⟩])
 (.ret)))))
  [.tmp 6] 0 48
def f111.env : Env := [(112, f112.C), (35, f35.C), (24, f24.C), (124, f124.C), (125, f125.C), (34, f34.C)]
def f111.tree (a : T_api_Machine × (List (T_api_Job)) × T_api_Task) : Prop := ∃ c1 : T_api_Machine × (List (T_api_Job)), (a.1.1.1 = c1.1.1.1) ∧ (a.1.1.2.1.1 = c1.1.1.2.1.1) ∧ (a.1.1.2.1.2.1 = c1.1.1.2.1.2.1) ∧ (a.1.1.2.1.2.2 = c1.1.1.2.1.2.2) ∧ (a.1.1.2.2.length = c1.1.1.2.2.length) ∧ (∀ i, i < c1.1.1.2.2.length → DEqs ((gl e_api_Label a.1.1.2.2) i) ((gl e_api_Label c1.1.1.2.2) i)) ∧ (a.1.2.1 = c1.1.2.1) ∧ (a.1.2.2 = c1.1.2.2) ∧ (a.2.1.length = c1.2.length) ∧ (∀ i, i < c1.2.length → DEqs ((gl e_api_Job a.2.1) i) ((gl e_api_Job c1.2) i)) ∧ (free_pre c1) ∧ Br (((freeR c1).2) != (0 : Int)) (((5 : Int) = (whyR a)) ∧ True) (∃ c5 : T_api_Node, (a.1.1.1 = c5.1) ∧ (a.1.1.2.1.1 = c5.2.1.1) ∧ (a.1.1.2.1.2.1 = c5.2.1.2.1) ∧ (a.1.1.2.1.2.2 = c5.2.1.2.2) ∧ (a.1.1.2.2.length = c5.2.2.length) ∧ (∀ i, i < c5.2.2.length → DEqs ((gl e_api_Label a.1.1.2.2) i) ((gl e_api_Label c5.2.2) i)) ∧ (node_pre c5) ∧ Br (!(nodeB c5)) (((5 : Int) = (whyR a)) ∧ True) (∃ c9 : T_api_Task, (a.2.2.1 = c9.1) ∧ (a.2.2.2.1 = c9.2.1) ∧ (a.2.2.2.2.1 = c9.2.2.1) ∧ (a.2.2.2.2.2.1.1 = c9.2.2.2.1.1) ∧ (a.2.2.2.2.2.1.2.1 = c9.2.2.2.1.2.1) ∧ (a.2.2.2.2.2.1.2.2 = c9.2.2.2.1.2.2) ∧ (a.2.2.2.2.2.2.1.length = c9.2.2.2.2.1.length) ∧ (∀ i, i < c9.2.2.2.2.1.length → DEqs ((gl e_api_Label a.2.2.2.2.2.2.1) i) ((gl e_api_Label c9.2.2.2.2.1) i)) ∧ (a.2.2.2.2.2.2.2.1 = c9.2.2.2.2.2.1) ∧ (a.2.2.2.2.2.2.2.2.1 = c9.2.2.2.2.2.2.1) ∧ (a.2.2.2.2.2.2.2.2.2 = c9.2.2.2.2.2.2.2) ∧ (task_pre c9) ∧ Br (!(taskB c9)) (((5 : Int) = (whyR a)) ∧ True) (Br (!a.1.2.1) (((1 : Int) = (whyR a)) ∧ True) (∃ c16 : (List (T_api_Label)) × (List (T_api_Label)), (a.1.1.2.2.length = c16.1.length) ∧ (∀ i, i < c16.1.length → DEqs ((gl e_api_Label a.1.1.2.2) i) ((gl e_api_Label c16.1) i)) ∧ (a.2.2.2.2.2.2.1.length = c16.2.length) ∧ (∀ i, i < c16.2.length → DEqs ((gl e_api_Label a.2.2.2.2.2.2.1) i) ((gl e_api_Label c16.2) i)) ∧ (has_pre c16) ∧ Br (!(hasAll c16)) (((2 : Int) = (whyR a)) ∧ True) (∃ c20 : (List (T_api_Job)) × T_api_Machine × T_api_Task, (a.2.1.length = c20.1.length) ∧ (∀ i, i < c20.1.length → DEqs ((gl e_api_Job a.2.1) i) ((gl e_api_Job c20.1) i)) ∧ (DEqs [.eptr [.str a.1.1.1, .int .i64 a.1.1.2.1.1, .int .i64 a.1.1.2.1.2.1, .int .i64 a.1.1.2.1.2.2, .slice .ro 2 a.1.1.2.2.length (gl e_api_Label a.1.1.2.2), .bool a.1.2.1, .int .i64 a.1.2.2], .eptr [.str a.2.2.1, .str a.2.2.2.1, .int .i64 a.2.2.2.2.1, .int .i64 a.2.2.2.2.2.1.1, .int .i64 a.2.2.2.2.2.1.2.1, .int .i64 a.2.2.2.2.2.1.2.2, .slice .ro 2 a.2.2.2.2.2.2.1.length (gl e_api_Label a.2.2.2.2.2.2.1), .str a.2.2.2.2.2.2.2.1, .str a.2.2.2.2.2.2.2.2.1, .int .i64 a.2.2.2.2.2.2.2.2.2]] [.eptr [.str c20.2.1.1.1, .int .i64 c20.2.1.1.2.1.1, .int .i64 c20.2.1.1.2.1.2.1, .int .i64 c20.2.1.1.2.1.2.2, .slice .ro 2 c20.2.1.1.2.2.length (gl e_api_Label c20.2.1.1.2.2), .bool c20.2.1.2.1, .int .i64 c20.2.1.2.2], .eptr [.str c20.2.2.1, .str c20.2.2.2.1, .int .i64 c20.2.2.2.2.1, .int .i64 c20.2.2.2.2.2.1.1, .int .i64 c20.2.2.2.2.2.1.2.1, .int .i64 c20.2.2.2.2.2.1.2.2, .slice .ro 2 c20.2.2.2.2.2.2.1.length (gl e_api_Label c20.2.2.2.2.2.2.1), .str c20.2.2.2.2.2.2.2.1, .str c20.2.2.2.2.2.2.2.2.1, .int .i64 c20.2.2.2.2.2.2.2.2.2]]) ∧ (LL20 c20) ∧ Br (anyBother c20) (((3 : Int) = (whyR a)) ∧ True) (∃ c24 : T_ar3_i64 × T_ar3_i64, (a.2.2.2.2.2.1.1 = c24.1.1) ∧ (a.2.2.2.2.2.1.2.1 = c24.1.2.1) ∧ (a.2.2.2.2.2.1.2.2 = c24.1.2.2) ∧ ((((freeR c1).1).1) = c24.2.1) ∧ ((((freeR c1).1).2.1) = c24.2.2.1) ∧ ((((freeR c1).1).2.2) = c24.2.2.2) ∧ True ∧ Br (!(fitsR c24)) (((4 : Int) = (whyR a)) ∧ True) (((0 : Int) = (whyR a)) ∧ True)))))))
def f111.vc (a : T_api_Machine × (List (T_api_Job)) × T_api_Task) : Prop := (free_pre (a.1, a.2.1) ∧ ((¬ ((freeR (a.1, a.2.1)).2) = (0 : Int) → ((5 : Int) = whyR a)) ∧ (¬ (¬ ((freeR (a.1, a.2.1)).2) = (0 : Int)) → (node_pre a.1.1 ∧ ((¬ ((nodeB (a.1.1)) = true) → ((5 : Int) = whyR a)) ∧ (¬ (¬ ((nodeB (a.1.1)) = true)) → (task_pre a.2.2 ∧ ((¬ ((taskB (a.2.2)) = true) → ((5 : Int) = whyR a)) ∧ (¬ (¬ ((taskB (a.2.2)) = true)) → ((¬ (a.1.2.1 = true) → ((1 : Int) = whyR a)) ∧ (¬ (¬ (a.1.2.1 = true)) → (has_pre (a.1.1.2.2, a.2.2.2.2.2.2.1) ∧ ((¬ ((hasAll (a.1.1.2.2, a.2.2.2.2.2.2.1)) = true) → ((2 : Int) = whyR a)) ∧ (¬ (¬ ((hasAll (a.1.1.2.2, a.2.2.2.2.2.2.1)) = true)) → (LL20 (a.2.1, a.1, a.2.2) ∧ (((anyBother (a.2.1, a.1, a.2.2)) = true → ((3 : Int) = whyR a)) ∧ (¬ ((anyBother (a.2.1, a.1, a.2.2)) = true) → ((¬ ((fitsR (a.2.2.2.2.2.1, ((freeR (a.1, a.2.1)).1))) = true) → ((4 : Int) = whyR a)) ∧ (¬ (¬ ((fitsR (a.2.2.2.2.2.1, ((freeR (a.1, a.2.1)).1))) = true)) → ((0 : Int) = whyR a))))))))))))))))))))
set_option maxRecDepth 100000 in
set_option maxHeartbeats 2000000 in
theorem f111.of (a : T_api_Machine × (List (T_api_Job)) × T_api_Task) (h : f111.vc a) : f111.tree a := ⟨(a.1, a.2.1), ⟨rfl, ⟨rfl, ⟨rfl, ⟨rfl, slK (Rds.self (enc := e_api_Label)) (⟨rfl, ⟨rfl, slK (Rds.self (enc := e_api_Job)) (⟨h.1, br h.2 Cnd.ne (fun h2 k46 => ⟨k46, trivial⟩) (fun h3 k47 => ⟨a.1.1, ⟨rfl, ⟨rfl, ⟨rfl, ⟨rfl, slK (Rds.self (enc := e_api_Label)) (⟨k47.1, br k47.2 (Cnd.not Cnd.b) (fun h6 k43 => ⟨k43, trivial⟩) (fun h7 k44 => ⟨a.2.2, ⟨rfl, ⟨rfl, ⟨rfl, ⟨rfl, ⟨rfl, ⟨rfl, slK (Rds.self (enc := e_api_Label)) (⟨rfl, ⟨rfl, ⟨rfl, ⟨k44.1, br k44.2 (Cnd.not Cnd.b) (fun h10 k40 => ⟨k40, trivial⟩) (fun h11 k41 => br k41 (Cnd.not Cnd.b) (fun h13 k38 => ⟨k38, trivial⟩) (fun h14 k39 => ⟨(a.1.1.2.2, a.2.2.2.2.2.2.1), slK (Rds.self (enc := e_api_Label)) (slK (Rds.self (enc := e_api_Label)) (⟨k39.1, br k39.2 (Cnd.not Cnd.b) (fun h17 k35 => ⟨k35, trivial⟩) (fun h18 k36 => ⟨(a.2.1, a.1, a.2.2), slK (Rds.self (enc := e_api_Job)) (⟨(DEqs.refl _), ⟨k36.1, br k36.2 Cnd.b (fun h21 k32 => ⟨k32, trivial⟩) (fun h22 k33 => ⟨(a.2.2.2.2.2.1, ((freeR (a.1, a.2.1)).1)), ⟨rfl, ⟨rfl, ⟨rfl, ⟨rfl, ⟨rfl, ⟨rfl, ⟨trivial, br k33 (Cnd.not Cnd.b) (fun h25 k29 => ⟨k29, trivial⟩) (fun h26 k30 => ⟨k30, trivial⟩)⟩⟩⟩⟩⟩⟩⟩⟩)⟩⟩)⟩)⟩))⟩))⟩⟩⟩⟩)⟩⟩⟩⟩⟩⟩⟩)⟩)⟩⟩⟩⟩⟩)⟩)⟩⟩)⟩⟩⟩⟩⟩
theorem f111.eq (a : T_api_Machine × (List (T_api_Job)) × T_api_Task) : (f111.af a).gives f111.env (f111.args a) (f111.blks a) (f111.res a) (f111.blks' a) = f111.tree a := by kernel_rfl
end Go.Abs

-- interregnum/interregnumlaw11.few
namespace Go.Abs
open Go
def f110.args (a : (List (T_api_Machine)) × (List (T_api_Job))) : List D := [.slice .ro 7 a.1.length (gl e_api_Machine a.1), .slice .ro 13 a.2.length (gl e_api_Job a.2)]
def f110.blks (a : (List (T_api_Machine)) × (List (T_api_Job))) : List (List D) := []
def f110.res (a : (List (T_api_Machine)) × (List (T_api_Job))) : List D := [.bool (few11 a)]
def f110.blks' (a : (List (T_api_Machine)) × (List (T_api_Job))) : List (List D) := []
def f110.C : Contract := FnC f110.args f110.blks (fun a => few11_pre a) f110.res f110.blks'
end Go.Abs

/- interregnum/interregnumlaw11.few -/
namespace Go.Abs
open Go
set_option linter.unusedVariables false
def f110.kills (a : (List (T_api_Machine)) × (List (T_api_Job))) : List Hint := [.tell Int (fun x => ⟨[.slice .ro 7 a.1.length (gl e_api_Machine a.1), .dead, .dead, .dead, .dead, .dead, .dead, .dead, .dead, .dead, .dead, .dead, .dead, .dead, .dead, .int .i64 (a.1.length : Int), .int .i64 x, .dead, .dead, .dead, .dead, .dead, .dead, .dead, .dead, .dead, .dead, .dead, .dead, .dead, .dead, .dead, .dead, .dead, .dead, .dead, .dead, .dead], [], []⟩)]
def f110.cuts (a : (List (T_api_Machine)) × (List (T_api_Job))) : List (Nat × Σ β : Type, β → Tm) := []
def f110.af (a : (List (T_api_Machine)) × (List (T_api_Job))) : AF := AF.mk (.seq (.region [⟨(some 4), 0, .move, [.c (.bool false)], none⟩])
 (.seq (.seq (.region [⟨(some 6), 1, .move, [.t 0], none⟩,
  ⟨(some 7), 2, (.len false), [.t 6], none⟩,
  ⟨(some 8), 3, (.bin .gtr), [.t 7, .c (.int .i64 (60))], none⟩,
  ⟨(some 9), 4, .move, [.t 8], none⟩,
  ⟨(some 10), 5, .move, [.t 1], (some (9, false))⟩,
  ⟨(some 11), 6, (.len false), [.t 10], (some (9, false))⟩,
  ⟨(some 12), 7, (.bin .gtr), [.t 11, .c (.int .i64 (200))], (some (9, false))⟩,
  ⟨(some 13), 8, .pick, [.t 9, .c (.bool true), .t 12], none⟩])
 (.cond (.t 13) (.seq (.region [⟨(some 4), 9, .move, [.c (.bool false)], none⟩])
 (.ret)) (.skip)))
 (.seq (.seq (.region [⟨(some 14), 10, .move, [.t 0], none⟩,
  ⟨(some 15), 11, (.len false), [.t 14], none⟩,
  ⟨(some 16), 12, .move, [.c (.int .i64 (0))], none⟩])
 (.block 0 (.loopT Int (fun x => ⟨[.slice .ro 7 a.1.length (gl e_api_Machine a.1), .dead, .dead, .dead, .dead, .dead, .dead, .dead, .dead, .dead, .dead, .dead, .dead, .dead, .dead, .int .i64 (a.1.length : Int), .int .i64 x, .dead, .dead, .dead, .dead, .dead, .dead, .dead, .dead, .dead, .dead, .dead, .dead, .dead, .dead, .dead, .dead, .dead, .dead, .dead, .dead, .dead], [], []⟩) 13 37 (.seq (.region [⟨(some 17), 13, (.bin .lss), [.t 16, .t 15], none⟩])
 (.seq (.cond (.t 17) (.skip) (.exit 0))
 (.seq (.block 1 (.seq (.region [⟨(some 18), 14, .move, [.t 16], none⟩,
  ⟨(some 5), 15, .move, [.t 18], none⟩])
 (.seq (.region [⟨(some 19), 16, .move, [.t 0], none⟩,
  ⟨(some 20), 17, .move, [.t 5], none⟩,
  ⟨(some 21), 18, (.indexAddr 7 none), [.t 19, .t 20], none⟩,
  ⟨(some 22), 19, (.fieldAddr 0), [.t 21], none⟩,
  ⟨(some 23), 20, (.fieldAddr 4), [.t 22], none⟩,
  ⟨(some 24), 21, (.load false 1), [.t 23], none⟩,
  ⟨(some 25), 22, (.len false), [.t 24], none⟩,
  ⟨(some 26), 23, (.bin .gtr), [.t 25, .c (.int .i64 (20))], none⟩,
  ⟨(some 27), 24, .move, [.t 26], none⟩,
  ⟨(some 28), 25, .move, [.t 0], (some (27, false))⟩,
  ⟨(some 29), 26, .move, [.t 5], (some (27, false))⟩,
  ⟨(some 30), 27, (.indexAddr 7 none), [.t 28, .t 29], (some (27, false))⟩,
  ⟨(some 31), 28, (.fieldAddr 0), [.t 30], (some (27, false))⟩,
  ⟨(some 32), 29, (.fieldAddr 0), [.t 31], (some (27, false))⟩,
  ⟨(some 33), 30, (.load false 1), [.t 32], (some (27, false))⟩,
  ⟨(some 34), 31, (.len true), [.t 33], (some (27, false))⟩,
  ⟨(some 35), 32, (.bin .gtr), [.t 34, .c (.int .i64 (1000))], (some (27, false))⟩,
  ⟨(some 36), 33, .pick, [.t 27, .c (.bool true), .t 35], none⟩])
 (.cond (.t 36) (.seq (.region [⟨(some 4), 34, .move, [.c (.bool false)], none⟩])
 (.ret)) (.skip)))))
 (.region [⟨(some 37), 35, (.bin .add), [.t 16, .c (.int .i64 (1))], none⟩,
  ⟨(some 16), 36, .move, [.t 37], none⟩])))))))
 (.seq (.region [⟨(some 4), 37, .move, [.c (.bool true)], none⟩])
 (.ret)))))
  [.tmp 4] 0 36
def f110.env : Env := []
def f110.tree (a : (List (T_api_Machine)) × (List (T_api_Job))) : Prop := Br (decide ((60 : Int) < (a.1.length : Int))) ((false = (few11 a)) ∧ True) (Br (decide ((200 : Int) < (a.2.length : Int))) ((false = (few11 a)) ∧ True) (∃ (I8 : Int → Prop) (μ9 : Int → Nat), (∃ x7 : Int, (a.1.length = a.1.length) ∧ (∀ i, i < a.1.length → DEqs ((gl e_api_Machine a.1) i) ((gl e_api_Machine a.1) i)) ∧ ((a.1.length : Int) = (a.1.length : Int)) ∧ ((0 : Int) = x7) ∧ I8 x7) ∧ ∀ y10 : Int, I8 y10 → (Br (decide (y10 < (a.1.length : Int))) (Br (decide ((0 : Int) ≤ y10) && decide (y10 < (a.1.length : Int))) (Br (decide ((20 : Int) < ((((at_ a.1 y10).1).2.2).length : Int))) ((false = (few11 a)) ∧ True) (Br (decide ((0 : Int) ≤ y10) && decide (y10 < (a.1.length : Int))) (Br (decide ((1000 : Int) < ((((at_ a.1 y10).1).1).size : Int))) ((false = (few11 a)) ∧ True) (Let (IntKind.i64.wrap (y10 + (1 : Int))) (fun v21 : Int => ∃ x22 : Int, (a.1.length = a.1.length) ∧ (∀ i, i < a.1.length → DEqs ((gl e_api_Machine a.1) i) ((gl e_api_Machine a.1) i)) ∧ ((a.1.length : Int) = (a.1.length : Int)) ∧ (v21 = x22) ∧ I8 x22 ∧ μ9 x22 < μ9 y10))) False)) False) ((true = (few11 a)) ∧ True))))
def f110.vc (a : (List (T_api_Machine)) × (List (T_api_Job))) : Prop := (((60 : Int) < (a.1.length : Int) → (false = few11 a)) ∧ (¬ ((60 : Int) < (a.1.length : Int)) → (((200 : Int) < (a.2.length : Int) → (false = few11 a)) ∧ (¬ ((200 : Int) < (a.2.length : Int)) → (∃ (I8 : Int → Prop) (μ9 : Int → Nat), I8 (0 : Int) ∧ ∀ y10 : Int, I8 y10 → ((y10 < (a.1.length : Int) → ((0 : Int) ≤ y10 ∧ y10 < (a.1.length : Int) ∧ (((20 : Int) < ((((at_ a.1 y10).1).2.2).length : Int) → (false = few11 a)) ∧ (¬ ((20 : Int) < ((((at_ a.1 y10).1).2.2).length : Int)) → ((0 : Int) ≤ y10 ∧ y10 < (a.1.length : Int) ∧ (((1000 : Int) < ((((at_ a.1 y10).1).1).size : Int) → (false = few11 a)) ∧ (¬ ((1000 : Int) < ((((at_ a.1 y10).1).1).size : Int)) → (-9223372036854775808 ≤ (y10 + (1 : Int)) ∧ (y10 + (1 : Int)) ≤ 9223372036854775807 ∧ (I8 (y10 + (1 : Int)) ∧ μ9 (y10 + (1 : Int)) < μ9 y10))))))))) ∧ (¬ (y10 < (a.1.length : Int)) → (true = few11 a))))))))
set_option maxRecDepth 100000 in
set_option maxHeartbeats 2000000 in
theorem f110.of (a : (List (T_api_Machine)) × (List (T_api_Job))) (h : f110.vc a) : f110.tree a := br h Cnd.dec (fun h1 k41 => ⟨k41, trivial⟩) (fun h2 k42 => br k42 Cnd.dec (fun h4 k39 => ⟨k39, trivial⟩) (fun h5 k40 => Exists.elim k40 (fun I8 h36_ => Exists.elim h36_ (fun μ9 h36 => ⟨I8, μ9, ⟨(0 : Int), slK (Rds.self (enc := e_api_Machine)) (⟨rfl, ⟨rfl, h36.1⟩⟩)⟩, fun y10 h38 => br (h36.2 y10 h38) Cnd.dec (fun h11 k34 => chk k34.2.2 Cnd.ix ⟨k34.1, k34.2.1⟩ (fun h13 k32 => br k32 Cnd.dec (fun h14 k30 => ⟨k30, trivial⟩) (fun h15 k31 => chk k31.2.2 Cnd.ix ⟨k31.1, k31.2.1⟩ (fun h17 k29 => br k29 Cnd.dec (fun h18 k27 => ⟨k27, trivial⟩) (fun h19 k28 => wrapK.i64 k28 (fun h24 h25 k26 => ⟨(y10 + (1 : Int)), slK (Rds.self (enc := e_api_Machine)) (⟨rfl, ⟨rfl, k26⟩⟩)⟩)))))) (fun h12 k35 => ⟨k35, trivial⟩)⟩))))
theorem f110.eq (a : (List (T_api_Machine)) × (List (T_api_Job))) : (f110.af a).gives f110.env (f110.args a) (f110.blks a) (f110.res a) (f110.blks' a) = f110.tree a := by kernel_rfl
end Go.Abs

-- interregnum/interregnumlaw11.awake
namespace Go.Abs
open Go
def f109.args (a : Unit) : List D := []
def f109.blks (a : Unit) : List (List D) := []
def f109.res (a : Unit) : List D := [.bool (lawTrue a)]
def f109.blks' (a : Unit) : List (List D) := []
def f109.C : Contract := FnC f109.args f109.blks (fun _ => True) f109.res f109.blks'
end Go.Abs

/- interregnum/interregnumlaw11.awake -/
namespace Go.Abs
open Go
set_option linter.unusedVariables false
def f109.s0 : ByteArray := ⟨#[110]⟩
def f109.s1 : ByteArray := ⟨#[116]⟩
def f109.s2 : ByteArray := ⟨#[113]⟩
def f109.s3 : ByteArray := ⟨#[117]⟩
def f109.kills (a : Unit) : List Hint := []
def f109.cuts (a : Unit) : List (Nat × Σ β : Type, β → Tm) := []
def f109.af (a : Unit) : AF := AF.mk (.seq (.region [⟨(some 0), 0, .move, [.c (.bool false)], none⟩])
 (.seq (.region [⟨(some 5), 1, (.build [.int .i64 (0), .int .i64 (0), .int .i64 (0)] [(0, 1), (1, 1), (2, 1)]), [.c (.int .i64 (4)), .c (.int .i64 (4)), .c (.int .i64 (4))], none⟩,
  ⟨(some 6), 2, (.build [.str ByteArray.empty, .int .i64 (0), .int .i64 (0), .int .i64 (0), .slice .full 2 0 gnil] [(0, 1), (1, 3)]), [.c (.str f109.s0), .t 5], none⟩,
  ⟨(some 7), 3, (.build [.str ByteArray.empty, .int .i64 (0), .int .i64 (0), .int .i64 (0), .slice .full 2 0 gnil, .bool false, .int .i64 (0)] [(0, 5), (5, 1)]), [.t 6, .c (.bool true)], none⟩,
  ⟨(some 1), 4, (.alloc [.str ByteArray.empty, .int .i64 (0), .int .i64 (0), .int .i64 (0), .slice (.own 0) 2 0 gnil, .bool false, .int .i64 (0)]), [], none⟩,
  ⟨none, 12, (.store 7), [.t 1, .t 7], none⟩])
 (.seq (.region [⟨(some 8), 13, (.build [.int .i64 (0), .int .i64 (0), .int .i64 (0)] [(0, 1)]), [.c (.int .i64 (3))], none⟩,
  ⟨(some 9), 14, (.build [.str ByteArray.empty, .str ByteArray.empty, .int .i64 (0), .int .i64 (0), .int .i64 (0), .int .i64 (0), .slice .full 2 0 gnil, .str ByteArray.empty, .str ByteArray.empty, .int .i64 (0)] [(0, 1), (1, 1), (3, 3)]), [.c (.str f109.s1), .c (.str f109.s2), .t 8], none⟩,
  ⟨(some 10), 15, (.build [.str ByteArray.empty, .str ByteArray.empty, .int .i64 (0), .int .i64 (0), .int .i64 (0), .int .i64 (0), .slice .full 2 0 gnil, .str ByteArray.empty, .str ByteArray.empty, .int .i64 (0), .int .i64 (0), .str ByteArray.empty, .int .i64 (0)] [(0, 10), (11, 1)]), [.t 9, .c (.str f109.s0)], none⟩,
  ⟨(some 11), 16, (.buildSlice 13 1 [.str ByteArray.empty, .str ByteArray.empty, .int .i64 (0), .int .i64 (0), .int .i64 (0), .int .i64 (0), .slice .full 2 0 gnil, .str ByteArray.empty, .str ByteArray.empty, .int .i64 (0), .int .i64 (0), .str ByteArray.empty, .int .i64 (0)] [(0, 13)]), [.t 10], none⟩,
  ⟨(some 2), 17, .move, [.t 11], none⟩])
 (.seq (.region [⟨(some 13), 18, (.load true 7), [.t 1], none⟩,
  ⟨(some 14), 19, .move, [.t 2], none⟩,
  ⟨(some 15), 20, (.call false 112), [.t 13, .t 14], none⟩,
  ⟨(some 12), 24, .move, [.t 15], none⟩,
  ⟨(some 16), 25, (.extract 0), [.t 12], none⟩,
  ⟨(some 17), 26, (.extract 1), [.t 12], none⟩,
  ⟨(some 3), 27, (.alloc [.int .i64 (0), .int .i64 (0), .int .i64 (0)]), [], none⟩,
  ⟨none, 31, (.store 3), [.t 3, .t 16], none⟩,
  ⟨(some 4), 32, .move, [.t 17], none⟩])
 (.seq (.region [⟨(some 18), 33, (.load true 3), [.t 3], none⟩,
  ⟨(some 19), 34, (.build [.int .i64 (0), .int .i64 (0), .int .i64 (0)] [(0, 1), (1, 1), (2, 1)]), [.c (.int .i64 (1)), .c (.int .i64 (4)), .c (.int .i64 (4))], none⟩,
  ⟨(some 20), 35, (.eqAgg false [0, 0, 0]), [.t 18, .t 19], none⟩,
  ⟨(some 21), 36, .move, [.t 20], none⟩,
  ⟨(some 22), 37, .move, [.t 4], (some (21, true))⟩,
  ⟨(some 23), 38, (.bin .eql), [.t 22, .c (.int .i64 (0))], (some (21, true))⟩,
  ⟨(some 24), 39, .pick, [.t 21, .t 23, .c (.bool false)], none⟩,
  ⟨(some 25), 40, .move, [.t 24], none⟩,
  ⟨(some 26), 41, (.load true 7), [.t 1], (some (25, true))⟩,
  ⟨(some 27), 42, .move, [.t 2], (some (25, true))⟩,
  ⟨(some 28), 43, (.build [.int .i64 (0), .int .i64 (0), .int .i64 (0)] [(0, 1)]), [.c (.int .i64 (2))], (some (25, true))⟩,
  ⟨(some 29), 44, (.build [.str ByteArray.empty, .str ByteArray.empty, .int .i64 (0), .int .i64 (0), .int .i64 (0), .int .i64 (0), .slice .full 2 0 gnil, .str ByteArray.empty, .str ByteArray.empty, .int .i64 (0)] [(0, 1), (1, 1), (3, 3)]), [.c (.str f109.s3), .c (.str f109.s2), .t 28], (some (25, true))⟩,
  ⟨(some 30), 45, (.call false 111), [.t 26, .t 27, .t 29], (some (25, true))⟩,
  ⟨(some 31), 49, (.bin .eql), [.t 30, .c (.int .i64 (4))], (some (25, true))⟩,
  ⟨(some 32), 50, .pick, [.t 25, .t 31, .c (.bool false)], none⟩,
  ⟨(some 0), 51, .move, [.t 32], none⟩])
 (.ret))))))
  [.tmp 0] 0 33
def f109.env : Env := [(112, f112.C), (111, f111.C)]
def f109.tree (a : Unit) : Prop := ∃ c1 : T_api_Machine × (List (T_api_Job)), (f109.s0 = c1.1.1.1) ∧ ((4 : Int) = c1.1.1.2.1.1) ∧ ((4 : Int) = c1.1.1.2.1.2.1) ∧ ((4 : Int) = c1.1.1.2.1.2.2) ∧ (0 = c1.1.1.2.2.length) ∧ (∀ i, i < c1.1.1.2.2.length → DEqs (gnil i) ((gl e_api_Label c1.1.1.2.2) i)) ∧ (true = c1.1.2.1) ∧ ((0 : Int) = c1.1.2.2) ∧ (1 = c1.2.length) ∧ (∀ i, i < c1.2.length → DEqs ((fun _ => [.str f109.s1, .str f109.s2, .int .i64 (0 : Int), .int .i64 (3 : Int), .int .i64 (0 : Int), .int .i64 (0 : Int), .slice .ro 2 0 gnil, .str ByteArray.empty, .str ByteArray.empty, .int .i64 (0 : Int), .int .i64 (0 : Int), .str f109.s0, .int .i64 (0 : Int)]) i) ((gl e_api_Job c1.2) i)) ∧ (free_pre c1) ∧ Br (((((freeR c1).1).1) == (1 : Int)) && (((((freeR c1).1).2.1) == (4 : Int)) && ((((freeR c1).1).2.2) == (4 : Int)))) (Br (((freeR c1).2) == (0 : Int)) (∃ c6 : T_api_Machine × (List (T_api_Job)) × T_api_Task, (f109.s0 = c6.1.1.1) ∧ ((4 : Int) = c6.1.1.2.1.1) ∧ ((4 : Int) = c6.1.1.2.1.2.1) ∧ ((4 : Int) = c6.1.1.2.1.2.2) ∧ (0 = c6.1.1.2.2.length) ∧ (∀ i, i < c6.1.1.2.2.length → DEqs (gnil i) ((gl e_api_Label c6.1.1.2.2) i)) ∧ (true = c6.1.2.1) ∧ ((0 : Int) = c6.1.2.2) ∧ (1 = c6.2.1.length) ∧ (∀ i, i < c6.2.1.length → DEqs ((fun _ => [.str f109.s1, .str f109.s2, .int .i64 (0 : Int), .int .i64 (3 : Int), .int .i64 (0 : Int), .int .i64 (0 : Int), .slice .ro 2 0 gnil, .str ByteArray.empty, .str ByteArray.empty, .int .i64 (0 : Int), .int .i64 (0 : Int), .str f109.s0, .int .i64 (0 : Int)]) i) ((gl e_api_Job c6.2.1) i)) ∧ (f109.s3 = c6.2.2.1) ∧ (f109.s2 = c6.2.2.2.1) ∧ ((0 : Int) = c6.2.2.2.2.1) ∧ ((2 : Int) = c6.2.2.2.2.2.1.1) ∧ ((0 : Int) = c6.2.2.2.2.2.1.2.1) ∧ ((0 : Int) = c6.2.2.2.2.2.1.2.2) ∧ (0 = c6.2.2.2.2.2.2.1.length) ∧ (∀ i, i < c6.2.2.2.2.2.2.1.length → DEqs (gnil i) ((gl e_api_Label c6.2.2.2.2.2.2.1) i)) ∧ (ByteArray.empty = c6.2.2.2.2.2.2.2.1) ∧ (ByteArray.empty = c6.2.2.2.2.2.2.2.2.1) ∧ ((0 : Int) = c6.2.2.2.2.2.2.2.2.2) ∧ (why_pre c6) ∧ (((whyR c6) == (4 : Int)) = (lawTrue a)) ∧ True) ((false = (lawTrue a)) ∧ True)) ((false = (lawTrue a)) ∧ True)
def f109.vc (a : Unit) : Prop := (free_pre (((f109.s0, ((4 : Int), (4 : Int), (4 : Int)), []), true, (0 : Int)), [((f109.s1, f109.s2, (0 : Int), ((3 : Int), (0 : Int), (0 : Int)), [], ByteArray.empty, ByteArray.empty, (0 : Int)), (0 : Int), f109.s0, (0 : Int))]) ∧ (((((freeR (((f109.s0, ((4 : Int), (4 : Int), (4 : Int)), []), true, (0 : Int)), [((f109.s1, f109.s2, (0 : Int), ((3 : Int), (0 : Int), (0 : Int)), [], ByteArray.empty, ByteArray.empty, (0 : Int)), (0 : Int), f109.s0, (0 : Int))])).1).1) = (1 : Int) ∧ (((freeR (((f109.s0, ((4 : Int), (4 : Int), (4 : Int)), []), true, (0 : Int)), [((f109.s1, f109.s2, (0 : Int), ((3 : Int), (0 : Int), (0 : Int)), [], ByteArray.empty, ByteArray.empty, (0 : Int)), (0 : Int), f109.s0, (0 : Int))])).1).2.1) = (4 : Int) ∧ (((freeR (((f109.s0, ((4 : Int), (4 : Int), (4 : Int)), []), true, (0 : Int)), [((f109.s1, f109.s2, (0 : Int), ((3 : Int), (0 : Int), (0 : Int)), [], ByteArray.empty, ByteArray.empty, (0 : Int)), (0 : Int), f109.s0, (0 : Int))])).1).2.2) = (4 : Int) → ((((freeR (((f109.s0, ((4 : Int), (4 : Int), (4 : Int)), []), true, (0 : Int)), [((f109.s1, f109.s2, (0 : Int), ((3 : Int), (0 : Int), (0 : Int)), [], ByteArray.empty, ByteArray.empty, (0 : Int)), (0 : Int), f109.s0, (0 : Int))])).2) = (0 : Int) → (why_pre (((f109.s0, ((4 : Int), (4 : Int), (4 : Int)), []), true, (0 : Int)), [((f109.s1, f109.s2, (0 : Int), ((3 : Int), (0 : Int), (0 : Int)), [], ByteArray.empty, ByteArray.empty, (0 : Int)), (0 : Int), f109.s0, (0 : Int))], (f109.s3, f109.s2, (0 : Int), ((2 : Int), (0 : Int), (0 : Int)), [], ByteArray.empty, ByteArray.empty, (0 : Int))) ∧ (((whyR (((f109.s0, ((4 : Int), (4 : Int), (4 : Int)), []), true, (0 : Int)), [((f109.s1, f109.s2, (0 : Int), ((3 : Int), (0 : Int), (0 : Int)), [], ByteArray.empty, ByteArray.empty, (0 : Int)), (0 : Int), f109.s0, (0 : Int))], (f109.s3, f109.s2, (0 : Int), ((2 : Int), (0 : Int), (0 : Int)), [], ByteArray.empty, ByteArray.empty, (0 : Int)))) == (4 : Int)) = lawTrue a))) ∧ (¬ (((freeR (((f109.s0, ((4 : Int), (4 : Int), (4 : Int)), []), true, (0 : Int)), [((f109.s1, f109.s2, (0 : Int), ((3 : Int), (0 : Int), (0 : Int)), [], ByteArray.empty, ByteArray.empty, (0 : Int)), (0 : Int), f109.s0, (0 : Int))])).2) = (0 : Int)) → (false = lawTrue a)))) ∧ (¬ ((((freeR (((f109.s0, ((4 : Int), (4 : Int), (4 : Int)), []), true, (0 : Int)), [((f109.s1, f109.s2, (0 : Int), ((3 : Int), (0 : Int), (0 : Int)), [], ByteArray.empty, ByteArray.empty, (0 : Int)), (0 : Int), f109.s0, (0 : Int))])).1).1) = (1 : Int) ∧ (((freeR (((f109.s0, ((4 : Int), (4 : Int), (4 : Int)), []), true, (0 : Int)), [((f109.s1, f109.s2, (0 : Int), ((3 : Int), (0 : Int), (0 : Int)), [], ByteArray.empty, ByteArray.empty, (0 : Int)), (0 : Int), f109.s0, (0 : Int))])).1).2.1) = (4 : Int) ∧ (((freeR (((f109.s0, ((4 : Int), (4 : Int), (4 : Int)), []), true, (0 : Int)), [((f109.s1, f109.s2, (0 : Int), ((3 : Int), (0 : Int), (0 : Int)), [], ByteArray.empty, ByteArray.empty, (0 : Int)), (0 : Int), f109.s0, (0 : Int))])).1).2.2) = (4 : Int)) → (false = lawTrue a))))
set_option maxRecDepth 100000 in
set_option maxHeartbeats 2000000 in
theorem f109.of (a : Unit) (h : f109.vc a) : f109.tree a := ⟨(((f109.s0, ((4 : Int), (4 : Int), (4 : Int)), []), true, (0 : Int)), [((f109.s1, f109.s2, (0 : Int), ((3 : Int), (0 : Int), (0 : Int)), [], ByteArray.empty, ByteArray.empty, (0 : Int)), (0 : Int), f109.s0, (0 : Int))]), ⟨rfl, ⟨rfl, ⟨rfl, ⟨rfl, slK (Rds.nil (enc := e_api_Label)) (⟨rfl, ⟨rfl, slK (Rds.one (enc := e_api_Job) (DEqs.cons (DEq.refl _) (DEqs.cons (DEq.refl _) (DEqs.cons (DEq.refl _) (DEqs.cons (DEq.refl _) (DEqs.cons (DEq.refl _) (DEqs.cons (DEq.refl _) (DEqs.cons ((Rds.nil (enc := e_api_Label))).deq (DEqs.cons (DEq.refl _) (DEqs.cons (DEq.refl _) (DEqs.cons (DEq.refl _) (DEqs.cons (DEq.refl _) (DEqs.cons (DEq.refl _) (DEqs.cons (DEq.refl _) DEqs.nil)))))))))))))) (⟨h.1, br h.2 (Cnd.and Cnd.eq (Cnd.and Cnd.eq Cnd.eq)) (fun h2 k13 => br k13 Cnd.eq (fun h4 k10 => ⟨(((f109.s0, ((4 : Int), (4 : Int), (4 : Int)), []), true, (0 : Int)), [((f109.s1, f109.s2, (0 : Int), ((3 : Int), (0 : Int), (0 : Int)), [], ByteArray.empty, ByteArray.empty, (0 : Int)), (0 : Int), f109.s0, (0 : Int))], (f109.s3, f109.s2, (0 : Int), ((2 : Int), (0 : Int), (0 : Int)), [], ByteArray.empty, ByteArray.empty, (0 : Int))), ⟨rfl, ⟨rfl, ⟨rfl, ⟨rfl, slK (Rds.nil (enc := e_api_Label)) (⟨rfl, ⟨rfl, slK (Rds.one (enc := e_api_Job) (DEqs.cons (DEq.refl _) (DEqs.cons (DEq.refl _) (DEqs.cons (DEq.refl _) (DEqs.cons (DEq.refl _) (DEqs.cons (DEq.refl _) (DEqs.cons (DEq.refl _) (DEqs.cons ((Rds.nil (enc := e_api_Label))).deq (DEqs.cons (DEq.refl _) (DEqs.cons (DEq.refl _) (DEqs.cons (DEq.refl _) (DEqs.cons (DEq.refl _) (DEqs.cons (DEq.refl _) (DEqs.cons (DEq.refl _) DEqs.nil)))))))))))))) (⟨rfl, ⟨rfl, ⟨rfl, ⟨rfl, ⟨rfl, ⟨rfl, slK (Rds.nil (enc := e_api_Label)) (⟨rfl, ⟨rfl, ⟨rfl, ⟨k10.1, ⟨k10.2, trivial⟩⟩⟩⟩⟩)⟩⟩⟩⟩⟩⟩)⟩⟩)⟩⟩⟩⟩⟩) (fun h5 k11 => ⟨k11, trivial⟩)) (fun h3 k14 => ⟨k14, trivial⟩)⟩)⟩⟩)⟩⟩⟩⟩⟩
theorem f109.eq (a : Unit) : (f109.af a).gives f109.env (f109.args a) (f109.blks a) (f109.res a) (f109.blks' a) = f109.tree a := by kernel_rfl
end Go.Abs

/- Which machines can take a task: what the code asks is so. -/
namespace Go.Abs
open Go

theorem f113.ok (a : TRes × TRes) (_ : True) : f113.vc a := ⟨.inr rfl, rfl⟩

theorem f136.ok (a : List TLbl × TLbl) (h : LL20 a) : f136.vc a := by
  obtain ⟨l, q⟩ := a
  have h : l.length ≤ 1048576 := h
  refine ⟨fun y => 0 ≤ y ∧ y ≤ (l.length : Int) ∧ ∀ k, k < y.toNat → decide (l.getD k default = q) = false, fun y => l.length - y.toNat, ⟨by omega, by omega, fun k hk => by simp at hk⟩, fun y hy => ?_⟩
  obtain ⟨g0, g1, g2⟩ := hy
  refine ⟨fun hlt => ⟨g0, hlt, fun c => ?_, fun c => ⟨by simp only at hlt; omega, by simp only at hlt; omega, ⟨by omega, by simp only at hlt; omega, fun k hk => ?_⟩, by simp only at hlt ⊢; omega⟩⟩, fun hge => ?_⟩
  · have e : at_ l y = q := (Prod.ext c.1 c.2).symm
    unfold ixL
    simp only at hlt ⊢
    rw [findIdx_some (p := fun x => decide (x = q)) (k := y.toNat) (by omega) (by rw [decide_eq_true_eq]; exact e) g2]
    simp only
    omega
  · by_cases he : k = y.toNat
    · subst he
      rw [decide_eq_false_iff_not]
      intro e
      exact c ⟨by rw [← e]; rfl, by rw [← e]; rfl⟩
    · exact g2 k (by omega)
  · unfold ixL
    simp only at hge ⊢
    rw [findIdx_none (p := fun x => decide (x = q)) fun k hk => g2 k (by omega)]

theorem find_nonneg {α : Type} (l : List α) (p : α → Bool) : decide ((0 : Int) ≤ (match l.findIdx? p with | some i => (i : Int) | none => -1)) = l.any p := by
  rw [Bool.eq_iff_iff, decide_eq_true_eq, List.any_eq_true]
  cases h : l.findIdx? p with
  | none =>
    have := List.findIdx?_eq_none_iff.1 h
    simp only
    refine ⟨fun hh => by omega, fun ⟨x, hx, hp⟩ => by rw [this x hx] at hp; cases hp⟩
  | some i =>
    obtain ⟨hi, hp, _⟩ := List.findIdx?_eq_some_iff_getElem.1 h
    simp only
    exact ⟨fun _ => ⟨_, List.getElem_mem hi, hp⟩, fun _ => by omega⟩

theorem f132.ok (a : List TLbl × TLbl) (h : LL20 a) : f132.vc a := ⟨h, find_nonneg a.1 fun x => decide (x = a.2)⟩

theorem hasAll_iff {a : List TLbl × List TLbl} : hasAll a = true ↔ ∀ i, i < a.2.length → hasL (a.1, a.2.getD i default) = true := by
  unfold hasAll
  rw [List.all_eq_true]
  constructor
  · exact fun h i hi => h _ (getD_mem hi)
  · intro h x hx
    obtain ⟨i, hi, rfl⟩ := List.mem_iff_getElem.1 hx
    have := h i hi
    rwa [List.getD_eq_getElem?_getD, List.getElem?_eq_getElem hi] at this

theorem f124.ok (a : List TLbl × List TLbl) (h : has_pre a) : f124.vc a := by
  obtain ⟨l, w⟩ := a
  obtain ⟨h1, h2⟩ := h
  unfold L20 at h2
  simp only at h2
  refine ⟨fun y => 0 ≤ y ∧ y ≤ (w.length : Int) ∧ ∀ k, k < y.toNat → hasL (l, w.getD k default) = true, fun y => w.length - y.toNat, ⟨by omega, by omega, fun k hk => by simp at hk⟩, fun y hy => ?_⟩
  obtain ⟨g0, g1, g2⟩ := hy
  refine ⟨fun hlt => ⟨g0, hlt, h1, fun c => ?_, fun c => ⟨by simp only at hlt; omega, by simp only at hlt; omega, ⟨by omega, by simp only at hlt; omega, fun k hk => ?_⟩, by simp only at hlt ⊢; omega⟩⟩, fun hge => ?_⟩
  · refine (Bool.eq_false_iff.2 fun hh => c ?_).symm
    exact hasAll_iff.1 hh y.toNat (by simp only at hlt ⊢; omega)
  · by_cases he : k = y.toNat
    · subst he; exact Classical.not_not.1 c
    · exact g2 k (by omega)
  · exact (hasAll_iff.2 fun i hi => g2 i (by simp only at hi hge; omega)).symm

theorem bindL_yes {j : TJob} {q : ByteArray} (h : j.2.2.1 = q) (l : List TJob) : bindL (j :: l) q = j.1.2.2.2.1 :: bindL l q := by
  unfold bindL
  rw [List.filter_cons_of_pos (by simpa using h), List.map_cons]
theorem bindL_no {j : TJob} {q : ByteArray} (h : ¬ j.2.2.1 = q) (l : List TJob) : bindL (j :: l) q = bindL l q := by
  unfold bindL
  rw [List.filter_cons_of_neg (by simpa using h)]
theorem bindL_app (l m : List TJob) (q : ByteArray) : bindL (l ++ m) q = bindL l q ++ bindL m q := by
  unfold bindL
  rw [List.filter_append, List.map_append]

theorem f112.ok (a : TMach × List TJob) (h : free_pre a) : f112.vc a := by
  obtain ⟨m, l⟩ := a
  have h : l.length ≤ 1048576 := h
  refine ⟨fun y => 0 ≤ y.2 ∧ y.2 ≤ (l.length : Int) ∧ y.1 ++ bindL (l.drop y.2.toNat) m.1.1 = bindL l m.1.1 ∧ y.1.length ≤ y.2.toNat, fun y => l.length - y.2.toNat, ⟨by simp only; omega, by simp only; omega, rfl, Nat.le_refl _⟩, fun y hy => ?_⟩
  obtain ⟨out, i⟩ := y
  obtain ⟨g0, g1, g2, g3⟩ := hy
  simp only at g0 g1 g2 g3 ⊢
  refine ⟨fun hlt => ⟨g0, hlt, fun c => ⟨by omega, by omega, by omega, ⟨by omega, by omega, ?_, ?_⟩, by omega⟩, fun c => ⟨by omega, by omega, ⟨by omega, by omega, ?_, by omega⟩, by omega⟩⟩, fun hge => ?_⟩
  · rw [← g2, drop_at g0 hlt, bindL_yes c, List.append_assoc]
    rfl
  · rw [List.length_append, List.length_singleton]
    omega
  · rw [← g2, drop_at g0 hlt, bindL_no c]
  · rw [List.drop_of_length_le (by omega)] at g2
    have g2 : out = bindL l m.1.1 := by rw [← g2]; exact (List.append_nil _).symm
    subst g2
    refine ⟨by unfold L20; omega, fun c => ?_, fun c => ?_⟩
    · unfold freeR
      rw [if_pos c]
      rfl
    · unfold freeR
      rw [if_neg c]

theorem f127.ok (a : TJob × TMach × TTask) (_ : True) : f127.vc a := by
  have no : ¬ (¬ a.2.2.2.2.2.2.2.1 = ByteArray.empty ∧ a.1.2.2.1 = a.2.1.1.1 ∧ ¬ a.1.1.1 = a.2.2.1 ∧ a.1.1.2.2.2.2.2.1 = a.2.2.2.2.2.2.2.1) → false = bothersR a := fun h => (decide_eq_false h).symm
  refine ⟨fun c1 => ⟨fun c2 => ⟨fun c3 => ?_, fun c => no fun hh => c hh.2.2.1⟩, fun c => no fun hh => c hh.2.1⟩, fun c => no fun hh => c hh.1⟩
  rw [beqT]
  unfold bothersR
  rw [decide_eq_decide]
  exact ⟨fun h => ⟨c1, c2, c3, h⟩, fun h => h.2.2.2⟩

theorem f126.ok (a : TJob × TMach × TTask) (_ : True) : f126.vc a := rfl

theorem f1056.ok (a : List TJob × TMach × TTask) (h : LL20 a) : f1056.vc a := by
  obtain ⟨l, q⟩ := a
  have h : l.length ≤ 1048576 := h
  refine ⟨fun y => 0 ≤ y ∧ y ≤ (l.length : Int) ∧ ∀ k, k < y.toNat → bothersR (l.getD k default, q) = false, fun y => l.length - y.toNat, ⟨Int.le_refl _, by omega, fun k hk => by simp at hk⟩, fun y hy => ?_⟩
  obtain ⟨g0, g1, g2⟩ := hy
  refine ⟨fun hlt => ⟨g0, hlt, fun c => ?_, fun c => ⟨by simp only at hlt; omega, by simp only at hlt; omega, ⟨by omega, by simp only at hlt; omega, fun k hk => ?_⟩, by simp only at hlt ⊢; omega⟩⟩, fun hge => ?_⟩
  · have hk : y.toNat < l.length := by
      have : y < (l.length : Int) := hlt
      omega
    have e := findIdx_some (l := l) (p := fun x => bothersR (x, q)) hk c g2
    unfold ixBother
    simp only
    rw [e]
    simp only
    omega
  · by_cases he : k = y.toNat
    · subst he
      exact Bool.eq_false_iff.2 c
    · exact g2 k (by omega)
  · unfold ixBother
    simp only at hge ⊢
    rw [findIdx_none (p := fun x => bothersR (x, q)) fun k hk => g2 k (by omega)]

theorem f125.ok (a : List TJob × TMach × TTask) (h : LL20 a) : f125.vc a := ⟨h, find_nonneg a.1 fun j => bothersR (j, a.2)⟩

theorem f111.ok (a : TMach × List TJob × TTask) (h : why_pre a) : f111.vc a := by
  obtain ⟨h1, h2, h3, h4, h5⟩ := h
  unfold f111.vc whyR
  refine ⟨h1, fun c => ?_, fun c1 => ⟨h2, fun c => ?_, fun c2 => ⟨h3, fun c => ?_, fun c3 => ?_⟩⟩⟩
  · rw [if_pos fun hh => c hh.1]
  · rw [if_pos fun hh => c hh.2.1]
  · rw [if_pos fun hh => c hh.2.2]
  · rw [if_neg (not_not_intro ⟨Classical.not_not.1 c1, Classical.not_not.1 c2, Classical.not_not.1 c3⟩)]
    refine ⟨fun c => ?_, fun c4 => ⟨⟨h4, h5⟩, fun c => ?_, fun c5 => ⟨h1, fun c => ?_, fun c6 => ⟨fun c => ?_, fun c => ?_⟩⟩⟩⟩
    · rw [if_pos c]
    · rw [if_neg c4, if_pos c]
    · rw [if_neg c4, if_neg c5, if_pos c]
    · rw [if_neg c4, if_neg c5, if_neg c6, if_pos c]
    · rw [if_neg c4, if_neg c5, if_neg c6, if_neg c]

theorem few11_iff {a : List TMach × List TJob} : few11 a = true ↔ (a.1.length ≤ 60 ∧ a.2.length ≤ 200) ∧ ∀ i, i < a.1.length → (a.1.getD i default).1.2.2.length ≤ 20 ∧ (a.1.getD i default).1.1.size ≤ 1000 := by
  unfold few11
  simp only [Bool.and_eq_true, decide_eq_true_eq, List.all_eq_true, List.mem_range]

theorem f110.ok (a : List TMach × List TJob) (h : few11_pre a) : f110.vc a := by
  obtain ⟨l, j⟩ := a
  have no : ¬ few11 (l, j) = true → false = few11 (l, j) := fun h => (Bool.eq_false_iff.2 h).symm
  refine ⟨fun c => no fun hh => ?_, fun c1 => ⟨fun c => no fun hh => ?_, fun c2 => ?_⟩⟩
  · have := (few11_iff.1 hh).1.1; simp only at c this; omega
  · have := (few11_iff.1 hh).1.2; simp only at c this; omega
  · simp only at c1 c2
    refine ⟨fun y => 0 ≤ y ∧ y ≤ (l.length : Int) ∧ ∀ k, k < y.toNat → (l.getD k default).1.2.2.length ≤ 20 ∧ (l.getD k default).1.1.size ≤ 1000, fun y => l.length - y.toNat, ⟨by omega, by omega, fun k hk => by simp at hk⟩, fun y hy => ?_⟩
    obtain ⟨g0, g1, g2⟩ := hy
    simp only
    refine ⟨fun hlt => ⟨g0, hlt, fun c => no fun hh => ?_, fun c3 => ⟨g0, hlt, fun c => no fun hh => ?_, fun c4 => ⟨by omega, by omega, ⟨by omega, by omega, fun k hk => ?_⟩, by omega⟩⟩⟩, fun hge => ?_⟩
    · have := ((few11_iff.1 hh).2 y.toNat (by simp only; omega)).1
      simp only at this
      rw [← at_getD] at this
      omega
    · have := ((few11_iff.1 hh).2 y.toNat (by simp only; omega)).2
      simp only at this
      rw [← at_getD] at this
      omega
    · by_cases he : k = y.toNat
      · subst he
        rw [← at_getD]
        omega
      · exact g2 k (by omega)
    · exact (few11_iff.2 ⟨⟨by simp only; omega, by simp only; omega⟩, fun i hi => g2 i (by simp only at hi; omega)⟩).symm

end Go.Abs
