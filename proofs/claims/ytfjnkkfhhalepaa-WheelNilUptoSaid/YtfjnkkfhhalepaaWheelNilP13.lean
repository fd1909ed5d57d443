/- Functions, and what the code asks of them: PPdqSc. -/
import Derived.Test.YtfjnkkfhhalepaaWheelNilP4
import Derived.Test.YtfjnkkfhhalepaaWheelNilP5
import Derived.Test.YtfjnkkfhhalepaaWheelNilP6
import Derived.Test.YtfjnkkfhhalepaaWheelNilP7
import Derived.Test.YtfjnkkfhhalepaaWheelNilP8
import Derived.Test.YtfjnkkfhhalepaaWheelNilP9
import Derived.Test.YtfjnkkfhhalepaaWheelNilP10
import Derived.Test.YtfjnkkfhhalepaaWheelNilP12
set_option linter.unusedVariables false
set_option linter.unusedSimpArgs false
set_option linter.unusedSectionVars false
namespace Go.Abs
open Go
end Go.Abs
