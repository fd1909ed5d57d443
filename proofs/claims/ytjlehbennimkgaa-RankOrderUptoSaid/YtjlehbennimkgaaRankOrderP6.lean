/- Functions, and what the code asks of them: PModel2. -/
import Derived.Test.YtjlehbennimkgaaRankOrderP3
import Derived.Test.YtjlehbennimkgaaRankOrderP4
import Derived.Test.YtjlehbennimkgaaRankOrderP5
set_option linter.unusedVariables false
set_option linter.unusedSimpArgs false
/- aDW of tasks: what the code asks is so. -/
namespace Go.Abs
open Go
end Go.Abs
