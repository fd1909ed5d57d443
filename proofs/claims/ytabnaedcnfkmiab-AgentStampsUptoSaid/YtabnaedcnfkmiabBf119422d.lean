/- Functions, and what the code asks of them: PFeasLaw. -/
import Derived.KernelRfl
import Derived.Test.YtabnaedcnfkmiabB9254fdba
import Derived.Test.YtabnaedcnfkmiabB02307bec
import Derived.Test.YtabnaedcnfkmiabB3df567a3
import Derived.Test.YtabnaedcnfkmiabBacf54228
import Derived.Test.YtabnaedcnfkmiabB431a6edd
import Derived.Test.YtabnaedcnfkmiabB131cd594
import Derived.Test.YtabnaedcnfkmiabB6e532dad
set_option linter.unusedVariables false
set_option linter.unusedSimpArgs false
-- interregnum/interregnumlaw11.FeasRoom
namespace Go.Abs
open Go
end Go.Abs

/- interregnum/interregnumlaw11.FeasRoom -/
namespace Go.Abs
open Go
set_option linter.unusedVariables false
end Go.Abs

-- interregnum/interregnumlaw11.FeasLess
namespace Go.Abs
open Go
end Go.Abs

/- interregnum/interregnumlaw11.FeasLess -/
namespace Go.Abs
open Go
set_option linter.unusedVariables false
end Go.Abs

/- The laws of layer 11. -/
namespace Go.Abs
open Go
end Go.Abs
