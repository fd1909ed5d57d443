/- Functions, and what the code asks of them: PAgent4. -/
import Derived.KernelRfl
import Derived.Test.YtjlehbennimkgabOrderOnceP4
import Derived.Test.YtjlehbennimkgabOrderOnceP5
import Derived.Test.YtjlehbennimkgabOrderOnceP6
import Derived.Test.YtjlehbennimkgabOrderOnceP9
import Derived.Test.YtjlehbennimkgabOrderOnceP10
set_option linter.unusedVariables false
set_option linter.unusedSimpArgs false
-- interregnum/interregnumref04.Has
namespace Go.Abs
open Go
set_option linter.unusedVariables false
set_option linter.unusedVariables false
end Go.Abs
