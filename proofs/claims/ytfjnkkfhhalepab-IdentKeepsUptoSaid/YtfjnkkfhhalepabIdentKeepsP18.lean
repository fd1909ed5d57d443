/- Functions, and what the code asks of them: PPdqSc2. -/
import Derived.Test.YtfjnkkfhhalepabIdentKeepsP4
import Derived.Test.YtfjnkkfhhalepabIdentKeepsP5
import Derived.Test.YtfjnkkfhhalepabIdentKeepsP6
import Derived.Test.YtfjnkkfhhalepabIdentKeepsP9
import Derived.Test.YtfjnkkfhhalepabIdentKeepsP11
import Derived.Test.YtfjnkkfhhalepabIdentKeepsP13
import Derived.Test.YtfjnkkfhhalepabIdentKeepsP14
import Derived.Test.YtfjnkkfhhalepabIdentKeepsP16
import Derived.Test.YtfjnkkfhhalepabIdentKeepsP17
set_option linter.unusedVariables false
set_option linter.unusedSimpArgs false
namespace Go.Abs
open Go
end Go.Abs
