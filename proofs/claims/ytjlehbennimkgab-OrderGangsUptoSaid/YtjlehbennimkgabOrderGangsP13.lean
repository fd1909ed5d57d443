/- Functions, and what the code asks of them: PAgent4. -/
import Derived.KernelRfl
import Derived.Test.YtjlehbennimkgabOrderGangsP4
import Derived.Test.YtjlehbennimkgabOrderGangsP5
import Derived.Test.YtjlehbennimkgabOrderGangsP6
import Derived.Test.YtjlehbennimkgabOrderGangsP9
import Derived.Test.YtjlehbennimkgabOrderGangsP10
set_option linter.unusedVariables false
set_option linter.unusedSimpArgs false
-- interregnum/interregnumref04.Has
namespace Go.Abs
open Go
set_option linter.unusedVariables false
set_option linter.unusedVariables false
end Go.Abs
