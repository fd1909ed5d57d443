/- Functions, and what the code asks of them: PModelLaw. -/
import Derived.Test.YtjlehbennimkgabOrderTellsP4
import Derived.Test.YtjlehbennimkgabOrderTellsP5
import Derived.Test.YtjlehbennimkgabOrderTellsP6
import Derived.Test.YtjlehbennimkgabOrderTellsP7
set_option linter.unusedVariables false
set_option linter.unusedSimpArgs false
/- The laws ModelGangs and ModelRights. -/
namespace Go.Abs
open Go
end Go.Abs
