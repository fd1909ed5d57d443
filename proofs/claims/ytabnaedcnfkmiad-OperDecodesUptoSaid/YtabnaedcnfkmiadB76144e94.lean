/- Functions, and what the code asks of them: PReadLaw. -/
import Derived.KernelRfl
import Derived.Test.YtabnaedcnfkmiadB15aca7b2
import Derived.Test.YtabnaedcnfkmiadB27e40858
import Derived.Test.YtabnaedcnfkmiadBf865c446
import Derived.Test.YtabnaedcnfkmiadB81a2baaf
import Derived.Test.YtabnaedcnfkmiadB2f972113
import Derived.Test.YtabnaedcnfkmiadB0380ec47
import Derived.Test.YtabnaedcnfkmiadBe4d41b4d
import Derived.Test.YtabnaedcnfkmiadB1fc6eb47
set_option linter.unusedVariables false
set_option linter.unusedSimpArgs false
-- interregnum/interregnumlaw05.ModelTakes
namespace Go.Abs
open Go
end Go.Abs

/- interregnum/interregnumlaw05.ModelTakes -/
namespace Go.Abs
open Go
set_option linter.unusedVariables false
end Go.Abs

-- interregnum/interregnumlaw05.ModelBack
namespace Go.Abs
open Go
end Go.Abs

/- interregnum/interregnumlaw05.ModelBack -/
namespace Go.Abs
open Go
set_option linter.unusedVariables false
end Go.Abs

-- interregnum/interregnumlaw05.ModelOne
namespace Go.Abs
open Go
end Go.Abs

/- interregnum/interregnumlaw05.ModelOne -/
namespace Go.Abs
open Go
set_option linter.unusedVariables false
end Go.Abs

/- The laws ModelTakes,ModelBack,ModelOne. -/
namespace Go.Abs
open Go
theorem nodeS_ok {n : TNode} (h : nodeB n = true) : nodeS n = nodeS0 n := by unfold nodeS; rw [if_pos h]
theorem queueS_ok {n : TQueue} (h : queueB n = true) : queueS n = queueS0 n := by unfold queueS; rw [if_pos h]
theorem taskS_ok {n : TTask} (h : taskB n = true) : taskS n = taskS0 n := by unfold taskS; rw [if_pos h]
theorem node_pre_ok {n : TNode} (h : nodeB n = true) : node_pre n := by
  obtain ⟨h1,_,h3⟩ := nodeB_iff.1 h
  exact ⟨Nat.le_trans (name_size h1) (by decide),fun x hx => by have := lbl_size h3 x hx; omega⟩
theorem queue_pre_ok {n : TQueue} (h : queueB n = true) : queue_pre n := Nat.le_trans (name_size (queueB_iff.1 h).1) (by decide)
theorem task_pre_ok {n : TTask} (h : taskB n = true) : task_pre n := by
  obtain ⟨h1,h2,_,_,h5,h6,h7,_⟩ := taskB_iff.1 h
  exact ⟨Nat.le_trans (name_size h1) (by decide),Nat.le_trans (name_size h2) (by decide),fun x hx => by have := lbl_size h5 x hx; omega,Nat.le_trans (maybe_size h6) (by decide),Nat.le_trans (maybe_size h7) (by decide)⟩

theorem lbl_L20 {l : List TLbl} (h : labelsB l = true) : l.length ≤ 1048576 := Nat.le_trans (labelsB_iff.1 h).1 (by decide)

end Go.Abs
