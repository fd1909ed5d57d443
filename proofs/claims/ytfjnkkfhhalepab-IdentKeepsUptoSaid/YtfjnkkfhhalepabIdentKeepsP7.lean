/- Functions, and what the code asks of them: PModel2. -/
import Derived.Test.YtfjnkkfhhalepabIdentKeepsP4
import Derived.Test.YtfjnkkfhhalepabIdentKeepsP5
import Derived.Test.YtfjnkkfhhalepabIdentKeepsP6
set_option linter.unusedVariables false
set_option linter.unusedSimpArgs false
namespace Go.Abs
open Go
end Go.Abs
