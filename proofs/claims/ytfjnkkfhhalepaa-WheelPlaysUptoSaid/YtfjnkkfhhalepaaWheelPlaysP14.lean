/- Functions, and what the code asks of them: PPdqSc2. -/
import Derived.Test.YtfjnkkfhhalepaaWheelPlaysP4
import Derived.Test.YtfjnkkfhhalepaaWheelPlaysP5
import Derived.Test.YtfjnkkfhhalepaaWheelPlaysP6
import Derived.Test.YtfjnkkfhhalepaaWheelPlaysP7
import Derived.Test.YtfjnkkfhhalepaaWheelPlaysP8
import Derived.Test.YtfjnkkfhhalepaaWheelPlaysP9
import Derived.Test.YtfjnkkfhhalepaaWheelPlaysP10
import Derived.Test.YtfjnkkfhhalepaaWheelPlaysP12
import Derived.Test.YtfjnkkfhhalepaaWheelPlaysP13
set_option linter.unusedVariables false
set_option linter.unusedSimpArgs false
set_option linter.unusedSectionVars false
namespace Go.Abs
open Go
end Go.Abs
