/- Functions, and what the code asks of them: PPdqSc2. -/
import Derived.Test.YtfjnkkfhhalepaaWheelPartsP4
import Derived.Test.YtfjnkkfhhalepaaWheelPartsP5
import Derived.Test.YtfjnkkfhhalepaaWheelPartsP6
import Derived.Test.YtfjnkkfhhalepaaWheelPartsP7
import Derived.Test.YtfjnkkfhhalepaaWheelPartsP8
import Derived.Test.YtfjnkkfhhalepaaWheelPartsP9
import Derived.Test.YtfjnkkfhhalepaaWheelPartsP10
import Derived.Test.YtfjnkkfhhalepaaWheelPartsP12
import Derived.Test.YtfjnkkfhhalepaaWheelPartsP13
set_option linter.unusedVariables false
set_option linter.unusedSimpArgs false
set_option linter.unusedSectionVars false
namespace Go.Abs
open Go
end Go.Abs
