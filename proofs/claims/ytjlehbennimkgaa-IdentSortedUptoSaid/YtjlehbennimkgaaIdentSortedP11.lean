/- Functions, and what the code asks of them: PFeas. -/
import Derived.KernelRfl
import Derived.Test.YtjlehbennimkgaaIdentSortedP4
import Derived.Test.YtjlehbennimkgaaIdentSortedP5
import Derived.Test.YtjlehbennimkgaaIdentSortedP6
import Derived.Test.YtjlehbennimkgaaIdentSortedP9
set_option linter.unusedVariables false
set_option linter.unusedSimpArgs false
namespace Go.Abs
open Go
def aGT {α β:Type} (a:List α×β):Prop:=L20 a.1
set_option linter.unusedVariables false
set_option linter.unusedVariables false
set_option linter.unusedVariables false
set_option linter.unusedVariables false
set_option linter.unusedVariables false
set_option linter.unusedVariables false
end Go.Abs
