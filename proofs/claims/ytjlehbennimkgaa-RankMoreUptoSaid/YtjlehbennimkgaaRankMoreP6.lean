/- Functions, and what the code asks of them: PModel2. -/
import Derived.Test.YtjlehbennimkgaaRankMoreP3
import Derived.Test.YtjlehbennimkgaaRankMoreP4
import Derived.Test.YtjlehbennimkgaaRankMoreP5
set_option linter.unusedVariables false
set_option linter.unusedSimpArgs false
/- aDO of tasks: what the code asks is so. -/
namespace Go.Abs
open Go
end Go.Abs
