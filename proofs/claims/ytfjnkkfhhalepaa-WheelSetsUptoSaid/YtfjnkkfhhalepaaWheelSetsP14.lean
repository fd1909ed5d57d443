/- Functions, and what the code asks of them: PPdqSc2. -/
import Derived.Test.YtfjnkkfhhalepaaWheelSetsP4
import Derived.Test.YtfjnkkfhhalepaaWheelSetsP5
import Derived.Test.YtfjnkkfhhalepaaWheelSetsP6
import Derived.Test.YtfjnkkfhhalepaaWheelSetsP7
import Derived.Test.YtfjnkkfhhalepaaWheelSetsP8
import Derived.Test.YtfjnkkfhhalepaaWheelSetsP9
import Derived.Test.YtfjnkkfhhalepaaWheelSetsP10
import Derived.Test.YtfjnkkfhhalepaaWheelSetsP12
import Derived.Test.YtfjnkkfhhalepaaWheelSetsP13
set_option linter.unusedVariables false
set_option linter.unusedSimpArgs false
set_option linter.unusedSectionVars false
namespace Go.Abs
open Go
end Go.Abs
