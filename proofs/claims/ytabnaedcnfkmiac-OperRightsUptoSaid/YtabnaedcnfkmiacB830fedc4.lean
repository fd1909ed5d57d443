/- Functions, and what the code asks of them: PReadLaw. -/
import Derived.KernelRfl
import Derived.Test.YtabnaedcnfkmiacB29df64bd
import Derived.Test.YtabnaedcnfkmiacB73c0449e
import Derived.Test.YtabnaedcnfkmiacB83512007
import Derived.Test.YtabnaedcnfkmiacB9ec639c5
import Derived.Test.YtabnaedcnfkmiacB663b6f9e
import Derived.Test.YtabnaedcnfkmiacBbfb84570
import Derived.Test.YtabnaedcnfkmiacBfff2f916
import Derived.Test.YtabnaedcnfkmiacBa2de5920
set_option linter.unusedVariables false
set_option linter.unusedSimpArgs false
-- interregnum/interregnumlaw05.ModelTakes
namespace Go.Abs
open Go
end Go.Abs

/- interregnum/interregnumlaw05.ModelTakes -/
namespace Go.Abs
open Go
set_option linter.unusedVariables false
end Go.Abs

-- interregnum/interregnumlaw05.ModelBack
namespace Go.Abs
open Go
end Go.Abs

/- interregnum/interregnumlaw05.ModelBack -/
namespace Go.Abs
open Go
set_option linter.unusedVariables false
end Go.Abs

-- interregnum/interregnumlaw05.ModelOne
namespace Go.Abs
open Go
end Go.Abs

/- interregnum/interregnumlaw05.ModelOne -/
namespace Go.Abs
open Go
set_option linter.unusedVariables false
end Go.Abs

/- The laws ModelTakes, ModelBack, ModelOne. -/
namespace Go.Abs
open Go
end Go.Abs
