/- Functions, and what the code asks of them: PRead. -/
import Derived.KernelRfl
import Derived.Test.YtjlehbennimkgaaIdentHasP4
import Derived.Test.YtjlehbennimkgaaIdentHasP5
import Derived.Test.YtjlehbennimkgaaIdentHasP6
import Derived.Test.YtjlehbennimkgaaIdentHasP7
set_option linter.unusedVariables false
set_option linter.unusedSimpArgs false
namespace Go.Abs
open Go
set_option linter.unusedVariables false
theorem not_true {b:Bool} (h:¬b=true):false=b:=by cases b <;> simp_all
end Go.Abs
