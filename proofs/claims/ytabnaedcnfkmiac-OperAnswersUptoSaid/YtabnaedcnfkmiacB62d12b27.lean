/- Functions, and what the code asks of them: PReadLaw. -/
import Derived.KernelRfl
import Derived.Test.YtabnaedcnfkmiacB7e6054c4
import Derived.Test.YtabnaedcnfkmiacBa9d44343
import Derived.Test.YtabnaedcnfkmiacB60e70101
import Derived.Test.YtabnaedcnfkmiacBc17a7ca1
import Derived.Test.YtabnaedcnfkmiacB5b36f845
import Derived.Test.YtabnaedcnfkmiacB684c205b
import Derived.Test.YtabnaedcnfkmiacB148fe987
import Derived.Test.YtabnaedcnfkmiacB0d7a5282
set_option linter.unusedVariables false
set_option linter.unusedSimpArgs false
-- interregnum/interregnumlaw05.ModelTakes
namespace Go.Abs
open Go
end Go.Abs

/- interregnum/interregnumlaw05.ModelTakes -/
namespace Go.Abs
open Go
set_option linter.unusedVariables false
end Go.Abs

-- interregnum/interregnumlaw05.ModelBack
namespace Go.Abs
open Go
end Go.Abs

/- interregnum/interregnumlaw05.ModelBack -/
namespace Go.Abs
open Go
set_option linter.unusedVariables false
end Go.Abs

-- interregnum/interregnumlaw05.ModelOne
namespace Go.Abs
open Go
end Go.Abs

/- interregnum/interregnumlaw05.ModelOne -/
namespace Go.Abs
open Go
set_option linter.unusedVariables false
end Go.Abs

/- The laws ModelTakes, ModelBack, ModelOne. -/
namespace Go.Abs
open Go
end Go.Abs
