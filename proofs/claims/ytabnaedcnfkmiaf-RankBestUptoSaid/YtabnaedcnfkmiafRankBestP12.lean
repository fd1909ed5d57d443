/- Functions, and what the code asks of them: PAgent2. -/
import Derived.KernelRfl
import Derived.Test.YtabnaedcnfkmiafRankBestP3
import Derived.Test.YtabnaedcnfkmiafRankBestP4
import Derived.Test.YtabnaedcnfkmiafRankBestP5
import Derived.Test.YtabnaedcnfkmiafRankBestP8
import Derived.Test.YtabnaedcnfkmiafRankBestP9
import Derived.Test.YtabnaedcnfkmiafRankBestP11
set_option linter.unusedVariables false
set_option linter.unusedSimpArgs false
/- States,and the orders that they tell. -/
namespace Go.Abs
open Go
end Go.Abs

-- interregnum/agent.Of$1
namespace Go.Abs
open Go
end Go.Abs

/- interregnum/agent.Of$1 -/
namespace Go.Abs
open Go
set_option linter.unusedVariables false
end Go.Abs

-- interregnum/gen1.machine$1
namespace Go.Abs
open Go
end Go.Abs

/- interregnum/gen1.machine$1 -/
namespace Go.Abs
open Go
set_option linter.unusedVariables false
end Go.Abs

-- interregnum/gen1.queue$1
namespace Go.Abs
open Go
end Go.Abs

/- interregnum/gen1.queue$1 -/
namespace Go.Abs
open Go
set_option linter.unusedVariables false
end Go.Abs

-- slices.IndexFunc[[]interregnum/api.Machine,interregnum/api.Machine]
namespace Go.Abs
open Go
end Go.Abs

/- slices.IndexFunc[[]interregnum/api.Machine,interregnum/api.Machine] -/
namespace Go.Abs
open Go
set_option linter.unusedVariables false
end Go.Abs

-- slices.IndexFunc[[]interregnum/api.Machine,interregnum/api.Machine]#1
namespace Go.Abs
open Go
end Go.Abs

/- slices.IndexFunc[[]interregnum/api.Machine,interregnum/api.Machine]#1 -/
namespace Go.Abs
open Go
set_option linter.unusedVariables false
end Go.Abs

-- slices.IndexFunc[[]interregnum/api.Queue,interregnum/api.Queue]
namespace Go.Abs
open Go
end Go.Abs

/- slices.IndexFunc[[]interregnum/api.Queue,interregnum/api.Queue] -/
namespace Go.Abs
open Go
set_option linter.unusedVariables false
end Go.Abs

-- interregnum/gen1.machine
namespace Go.Abs
open Go
end Go.Abs

/- interregnum/gen1.machine -/
namespace Go.Abs
open Go
set_option linter.unusedVariables false
end Go.Abs

-- interregnum/gen1.queue
namespace Go.Abs
open Go
end Go.Abs

/- interregnum/gen1.queue -/
namespace Go.Abs
open Go
set_option linter.unusedVariables false
end Go.Abs

-- interregnum/interregnumref15.machine
namespace Go.Abs
open Go
end Go.Abs

/- interregnum/interregnumref15.machine -/
namespace Go.Abs
open Go
set_option linter.unusedVariables false
end Go.Abs

-- interregnum/interregnumref15.queue
namespace Go.Abs
open Go
end Go.Abs

/- interregnum/interregnumref15.queue -/
namespace Go.Abs
open Go
set_option linter.unusedVariables false
end Go.Abs

-- interregnum/gen1.stands
namespace Go.Abs
open Go
end Go.Abs

/- interregnum/gen1.stands -/
namespace Go.Abs
open Go
set_option linter.unusedVariables false
end Go.Abs

-- interregnum/interregnumref15.bound
namespace Go.Abs
open Go
end Go.Abs

-- interregnum/interregnumref04.Has
namespace Go.Abs
open Go
end Go.Abs

/- interregnum/interregnumref15.bound -/
namespace Go.Abs
open Go
set_option linter.unusedVariables false
end Go.Abs

-- interregnum/gen1.machines
namespace Go.Abs
open Go
end Go.Abs

/- interregnum/gen1.machines -/
namespace Go.Abs
open Go
set_option linter.unusedVariables false
end Go.Abs

-- interregnum/gen1.queues
namespace Go.Abs
open Go
end Go.Abs

/- interregnum/gen1.queues -/
namespace Go.Abs
open Go
set_option linter.unusedVariables false
end Go.Abs

-- interregnum/gen1.jobs
namespace Go.Abs
open Go
end Go.Abs

/- interregnum/gen1.jobs -/
namespace Go.Abs
open Go
set_option linter.unusedVariables false
end Go.Abs

-- interregnum/gen1.Right
namespace Go.Abs
open Go
end Go.Abs

/- interregnum/gen1.Right -/
namespace Go.Abs
open Go
set_option linter.unusedVariables false
end Go.Abs

/- States: what the code asks is so. -/
namespace Go.Abs
open Go
end Go.Abs
