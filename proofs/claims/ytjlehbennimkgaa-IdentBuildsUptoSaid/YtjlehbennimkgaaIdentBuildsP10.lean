/- Functions, and what the code asks of them: PRead. -/
import Derived.KernelRfl
import Derived.Test.YtjlehbennimkgaaIdentBuildsP4
import Derived.Test.YtjlehbennimkgaaIdentBuildsP5
import Derived.Test.YtjlehbennimkgaaIdentBuildsP6
import Derived.Test.YtjlehbennimkgaaIdentBuildsP7
set_option linter.unusedVariables false
set_option linter.unusedSimpArgs false
/- Machines,queues and tasks,read from bytes. -/
namespace Go.Abs
open Go
end Go.Abs

-- interregnum/interregnumref04.Same
namespace Go.Abs
open Go
end Go.Abs

/- interregnum/interregnumref04.Same -/
namespace Go.Abs
open Go
set_option linter.unusedVariables false
end Go.Abs

/- Readers: what the code asks of them. -/
namespace Go.Abs
open Go
theorem not_true {b:Bool} (h:¬b=true):false=b:=by cases b <;> simp_all

end Go.Abs
