/- Functions, and what the code asks of them: PFeas. -/
import Derived.Test.YtfjnkkfhhalepaaWheelPartsP4
import Derived.Test.YtfjnkkfhhalepaaWheelPartsP5
import Derived.Test.YtfjnkkfhhalepaaWheelPartsP6
import Derived.Test.YtfjnkkfhhalepaaWheelPartsP7
set_option linter.unusedVariables false
set_option linter.unusedSimpArgs false
set_option linter.unusedSectionVars false
namespace Go.Abs
open Go
end Go.Abs
