/- Functions, and what the code asks of them: PRead. -/
import Derived.KernelRfl
import Derived.Test.YtjlehbennimkgaaIdentNamesP3
import Derived.Test.YtjlehbennimkgaaIdentNamesP4
import Derived.Test.YtjlehbennimkgaaIdentNamesP5
import Derived.Test.YtjlehbennimkgaaIdentNamesP6
set_option linter.unusedVariables false
set_option linter.unusedSimpArgs false
/- Machines,queues and tasks,read from bytes. -/
namespace Go.Abs
open Go
end Go.Abs

-- interregnum/interregnumref04.Same
namespace Go.Abs
open Go
end Go.Abs

/- interregnum/interregnumref04.Same -/
namespace Go.Abs
open Go
set_option linter.unusedVariables false
end Go.Abs

/- Readers: what the code asks of them. -/
namespace Go.Abs
open Go
theorem not_true {b:Bool} (h:¬b=true):false=b:=by cases b <;> simp_all

end Go.Abs
