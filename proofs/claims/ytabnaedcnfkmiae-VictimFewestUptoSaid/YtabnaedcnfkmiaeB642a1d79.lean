/- Functions, and what the code asks of them: PAgent2. -/
import Derived.KernelRfl
import Derived.Test.YtabnaedcnfkmiaeBa1eb4fe3
import Derived.Test.YtabnaedcnfkmiaeB7f17cbe2
import Derived.Test.YtabnaedcnfkmiaeB632c19ef
import Derived.Test.YtabnaedcnfkmiaeB1bc422e5
import Derived.Test.YtabnaedcnfkmiaeBd10b95f7
import Derived.Test.YtabnaedcnfkmiaeB29fee5fc
set_option linter.unusedVariables false
set_option linter.unusedSimpArgs false
/- States,and the orders that they tell. -/
namespace Go.Abs
open Go
end Go.Abs

-- interregnum/agent.Of$1
namespace Go.Abs
open Go
end Go.Abs

/- interregnum/agent.Of$1 -/
namespace Go.Abs
open Go
set_option linter.unusedVariables false
end Go.Abs

-- interregnum/gen1.machine$1
namespace Go.Abs
open Go
end Go.Abs

/- interregnum/gen1.machine$1 -/
namespace Go.Abs
open Go
set_option linter.unusedVariables false
end Go.Abs

-- interregnum/gen1.queue$1
namespace Go.Abs
open Go
end Go.Abs

/- interregnum/gen1.queue$1 -/
namespace Go.Abs
open Go
set_option linter.unusedVariables false
end Go.Abs

-- slices.IndexFunc[[]interregnum/api.Machine,interregnum/api.Machine]
namespace Go.Abs
open Go
end Go.Abs

/- slices.IndexFunc[[]interregnum/api.Machine,interregnum/api.Machine] -/
namespace Go.Abs
open Go
set_option linter.unusedVariables false
end Go.Abs

-- slices.IndexFunc[[]interregnum/api.Machine,interregnum/api.Machine]#1
namespace Go.Abs
open Go
end Go.Abs

/- slices.IndexFunc[[]interregnum/api.Machine,interregnum/api.Machine]#1 -/
namespace Go.Abs
open Go
set_option linter.unusedVariables false
end Go.Abs

-- slices.IndexFunc[[]interregnum/api.Queue,interregnum/api.Queue]
namespace Go.Abs
open Go
end Go.Abs

/- slices.IndexFunc[[]interregnum/api.Queue,interregnum/api.Queue] -/
namespace Go.Abs
open Go
set_option linter.unusedVariables false
end Go.Abs

-- interregnum/gen1.machine
namespace Go.Abs
open Go
end Go.Abs

/- interregnum/gen1.machine -/
namespace Go.Abs
open Go
set_option linter.unusedVariables false
end Go.Abs

-- interregnum/gen1.queue
namespace Go.Abs
open Go
end Go.Abs

/- interregnum/gen1.queue -/
namespace Go.Abs
open Go
set_option linter.unusedVariables false
end Go.Abs

-- interregnum/interregnumref15.machine
namespace Go.Abs
open Go
end Go.Abs

/- interregnum/interregnumref15.machine -/
namespace Go.Abs
open Go
set_option linter.unusedVariables false
end Go.Abs

-- interregnum/interregnumref15.queue
namespace Go.Abs
open Go
end Go.Abs

/- interregnum/interregnumref15.queue -/
namespace Go.Abs
open Go
set_option linter.unusedVariables false
end Go.Abs

-- interregnum/gen1.stands
namespace Go.Abs
open Go
end Go.Abs

/- interregnum/gen1.stands -/
namespace Go.Abs
open Go
set_option linter.unusedVariables false
end Go.Abs

-- interregnum/interregnumref15.bound
namespace Go.Abs
open Go
end Go.Abs

-- interregnum/interregnumref04.Has
namespace Go.Abs
open Go
end Go.Abs

/- interregnum/interregnumref15.bound -/
namespace Go.Abs
open Go
set_option linter.unusedVariables false
end Go.Abs

-- interregnum/gen1.machines
namespace Go.Abs
open Go
end Go.Abs

/- interregnum/gen1.machines -/
namespace Go.Abs
open Go
set_option linter.unusedVariables false
end Go.Abs

-- interregnum/gen1.queues
namespace Go.Abs
open Go
end Go.Abs

/- interregnum/gen1.queues -/
namespace Go.Abs
open Go
set_option linter.unusedVariables false
end Go.Abs

-- interregnum/gen1.jobs
namespace Go.Abs
open Go
end Go.Abs

/- interregnum/gen1.jobs -/
namespace Go.Abs
open Go
set_option linter.unusedVariables false
end Go.Abs

-- interregnum/gen1.Right
namespace Go.Abs
open Go
end Go.Abs

/- interregnum/gen1.Right -/
namespace Go.Abs
open Go
set_option linter.unusedVariables false
end Go.Abs

/- States: what the code asks is so. -/
namespace Go.Abs
open Go
end Go.Abs
