/- Functions, and what the code asks of them: PModelLaw. -/
import Derived.Test.YtjlehbennimkgabOrderRanksP4
import Derived.Test.YtjlehbennimkgabOrderRanksP5
import Derived.Test.YtjlehbennimkgabOrderRanksP6
import Derived.Test.YtjlehbennimkgabOrderRanksP7
set_option linter.unusedVariables false
set_option linter.unusedSimpArgs false
/- The laws ModelGangs and ModelRights. -/
namespace Go.Abs
open Go
end Go.Abs
