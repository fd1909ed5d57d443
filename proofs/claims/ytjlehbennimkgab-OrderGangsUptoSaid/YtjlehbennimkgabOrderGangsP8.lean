/- Functions, and what the code asks of them: PModelLaw. -/
import Derived.Test.YtjlehbennimkgabOrderGangsP4
import Derived.Test.YtjlehbennimkgabOrderGangsP5
import Derived.Test.YtjlehbennimkgabOrderGangsP6
import Derived.Test.YtjlehbennimkgabOrderGangsP7
set_option linter.unusedVariables false
set_option linter.unusedSimpArgs false
namespace Go.Abs
open Go
end Go.Abs
