/- Functions, and what the code asks of them: PModel2. -/
import Derived.Test.YtjlehbennimkgaaIdentHasP4
import Derived.Test.YtjlehbennimkgaaIdentHasP5
import Derived.Test.YtjlehbennimkgaaIdentHasP6
set_option linter.unusedVariables false
set_option linter.unusedSimpArgs false
namespace Go.Abs
open Go
end Go.Abs
