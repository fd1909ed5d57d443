/- Functions, and what the code asks of them: PModel2. -/
import Derived.Test.YtjlehbennimkgabOrderRanksP4
import Derived.Test.YtjlehbennimkgabOrderRanksP5
import Derived.Test.YtjlehbennimkgabOrderRanksP6
set_option linter.unusedVariables false
set_option linter.unusedSimpArgs false
/- aA6 of tasks: what the code asks is so. -/
namespace Go.Abs
open Go
end Go.Abs
