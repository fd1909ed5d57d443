/- Functions, and what the code asks of them: PModelLaw. -/
import Derived.KernelRfl
import Derived.Test.YtabnaedcnfkmiacB7e6054c4
import Derived.Test.YtabnaedcnfkmiacB60e70101
import Derived.Test.YtabnaedcnfkmiacBc17a7ca1
import Derived.Test.YtabnaedcnfkmiacB5b36f845
set_option linter.unusedVariables false
set_option linter.unusedSimpArgs false
-- interregnum/interregnumlaw05.ModelGangs
namespace Go.Abs
open Go
end Go.Abs

/- interregnum/interregnumlaw05.ModelGangs -/
namespace Go.Abs
open Go
set_option linter.unusedVariables false
end Go.Abs

-- interregnum/interregnumlaw05.ModelRights
namespace Go.Abs
open Go
end Go.Abs

/- interregnum/interregnumlaw05.ModelRights -/
namespace Go.Abs
open Go
set_option linter.unusedVariables false
end Go.Abs

/- The laws ModelGangs and ModelRights. -/
namespace Go.Abs
open Go
end Go.Abs
