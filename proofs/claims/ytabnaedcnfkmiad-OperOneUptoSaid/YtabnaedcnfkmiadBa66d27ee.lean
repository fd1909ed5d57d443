/- Functions, and what the code asks of them: PModelLaw. -/
import Derived.KernelRfl
import Derived.Test.YtabnaedcnfkmiadB9b18712e
import Derived.Test.YtabnaedcnfkmiadBa3ebb4c1
import Derived.Test.YtabnaedcnfkmiadBe4760568
import Derived.Test.YtabnaedcnfkmiadB9fec214c
set_option linter.unusedVariables false
set_option linter.unusedSimpArgs false
-- interregnum/interregnumlaw05.ModelGangs
namespace Go.Abs
open Go
end Go.Abs

/- interregnum/interregnumlaw05.ModelGangs -/
namespace Go.Abs
open Go
set_option linter.unusedVariables false
end Go.Abs

-- interregnum/interregnumlaw05.ModelRights
namespace Go.Abs
open Go
end Go.Abs

/- interregnum/interregnumlaw05.ModelRights -/
namespace Go.Abs
open Go
set_option linter.unusedVariables false
end Go.Abs

/- The laws ModelGangs and ModelRights. -/
namespace Go.Abs
open Go
end Go.Abs
