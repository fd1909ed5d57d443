/- Functions, and what the code asks of them: PModel2. -/
import Derived.Test.YtjlehbennimkgabOrderTellsP4
import Derived.Test.YtjlehbennimkgabOrderTellsP5
import Derived.Test.YtjlehbennimkgabOrderTellsP6
set_option linter.unusedVariables false
set_option linter.unusedSimpArgs false
/- aBL of tasks: what the code asks is so. -/
namespace Go.Abs
open Go
end Go.Abs
