/- Functions, and what the code asks of them: PModelLaw. -/
import Derived.Test.YtjlehbennimkgaaIdentBuildsP4
import Derived.Test.YtjlehbennimkgaaIdentBuildsP5
import Derived.Test.YtjlehbennimkgaaIdentBuildsP6
import Derived.Test.YtjlehbennimkgaaIdentBuildsP7
set_option linter.unusedVariables false
set_option linter.unusedSimpArgs false
/- The laws ModelGangs and ModelRights. -/
namespace Go.Abs
open Go
end Go.Abs
