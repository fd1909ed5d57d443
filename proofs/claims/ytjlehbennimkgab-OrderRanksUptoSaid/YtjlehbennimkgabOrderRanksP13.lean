/- Functions, and what the code asks of them: PAgent4. -/
import Derived.KernelRfl
import Derived.Test.YtjlehbennimkgabOrderRanksP4
import Derived.Test.YtjlehbennimkgabOrderRanksP5
import Derived.Test.YtjlehbennimkgabOrderRanksP6
import Derived.Test.YtjlehbennimkgabOrderRanksP9
import Derived.Test.YtjlehbennimkgabOrderRanksP10
set_option linter.unusedVariables false
set_option linter.unusedSimpArgs false
-- interregnum/interregnumref04.Has
namespace Go.Abs
open Go
set_option linter.unusedVariables false
set_option linter.unusedVariables false
end Go.Abs
