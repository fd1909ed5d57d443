/- Functions, and what the code asks of them: PModel2. -/
import Derived.Test.YtjlehbennimkgaaIdentBuildsP4
import Derived.Test.YtjlehbennimkgaaIdentBuildsP5
import Derived.Test.YtjlehbennimkgaaIdentBuildsP6
set_option linter.unusedVariables false
set_option linter.unusedSimpArgs false
/- yM of tasks: what the code asks is so. -/
namespace Go.Abs
open Go
end Go.Abs
