/- Functions, and what the code asks of them: PFeas. -/
import Derived.Test.YtfjnkkfhhalepaaWheelNilP4
import Derived.Test.YtfjnkkfhhalepaaWheelNilP5
import Derived.Test.YtfjnkkfhhalepaaWheelNilP6
import Derived.Test.YtfjnkkfhhalepaaWheelNilP7
set_option linter.unusedVariables false
set_option linter.unusedSimpArgs false
set_option linter.unusedSectionVars false
namespace Go.Abs
open Go
end Go.Abs
