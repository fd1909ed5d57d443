/- Functions, and what the code asks of them: PReadLaw. -/
import Derived.KernelRfl
import Derived.Test.YtabnaedcnfkmiadBd8fd2cd1
import Derived.Test.YtabnaedcnfkmiadB52acd6fd
import Derived.Test.YtabnaedcnfkmiadB9d8ef233
import Derived.Test.YtabnaedcnfkmiadB39145e0b
import Derived.Test.YtabnaedcnfkmiadB642c4290
import Derived.Test.YtabnaedcnfkmiadBbb4ede3d
import Derived.Test.YtabnaedcnfkmiadB67e51113
import Derived.Test.YtabnaedcnfkmiadBf591c1e4
set_option linter.unusedVariables false
set_option linter.unusedSimpArgs false
-- interregnum/interregnumlaw05.ModelTakes
namespace Go.Abs
open Go
end Go.Abs

/- interregnum/interregnumlaw05.ModelTakes -/
namespace Go.Abs
open Go
set_option linter.unusedVariables false
end Go.Abs

-- interregnum/interregnumlaw05.ModelBack
namespace Go.Abs
open Go
end Go.Abs

/- interregnum/interregnumlaw05.ModelBack -/
namespace Go.Abs
open Go
set_option linter.unusedVariables false
end Go.Abs

-- interregnum/interregnumlaw05.ModelOne
namespace Go.Abs
open Go
end Go.Abs

/- interregnum/interregnumlaw05.ModelOne -/
namespace Go.Abs
open Go
set_option linter.unusedVariables false
end Go.Abs

/- The laws ModelTakes, ModelBack, ModelOne. -/
namespace Go.Abs
open Go
theorem nodeS_ok {n : TNode} (h : nodeB n = true) : nodeS n = nodeS0 n := by unfold nodeS; rw [if_pos h]
theorem queueS_ok {n : TQueue} (h : queueB n = true) : queueS n = queueS0 n := by unfold queueS; rw [if_pos h]
theorem taskS_ok {n : TTask} (h : taskB n = true) : taskS n = taskS0 n := by unfold taskS; rw [if_pos h]
theorem num_pos (n : Nat) : 0 < (num n).size := by rw [num_size]; omega
end Go.Abs
