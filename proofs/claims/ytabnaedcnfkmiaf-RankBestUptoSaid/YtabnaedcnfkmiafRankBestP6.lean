/- Functions, and what the code asks of them: PModel2. -/
import Derived.KernelRfl
import Derived.Test.YtabnaedcnfkmiafRankBestP3
import Derived.Test.YtabnaedcnfkmiafRankBestP4
import Derived.Test.YtabnaedcnfkmiafRankBestP5
set_option linter.unusedVariables false
set_option linter.unusedSimpArgs false
-- interregnum/model.PutNode
namespace Go.Abs
open Go
end Go.Abs

-- interregnum/model.same
namespace Go.Abs
open Go
end Go.Abs

-- interregnum/model.putAmount
namespace Go.Abs
open Go
end Go.Abs

-- interregnum/model.putLabels
namespace Go.Abs
open Go
end Go.Abs

/- interregnum/model.PutNode -/
namespace Go.Abs
open Go
set_option linter.unusedVariables false
end Go.Abs

-- interregnum/interregnumref05.NodeBytes
namespace Go.Abs
open Go
end Go.Abs

-- interregnum/interregnumref05.amount
namespace Go.Abs
open Go
end Go.Abs

-- interregnum/interregnumref05.labels
namespace Go.Abs
open Go
end Go.Abs

/- interregnum/interregnumref05.NodeBytes -/
namespace Go.Abs
open Go
set_option linter.unusedVariables false
end Go.Abs

-- interregnum/model.PutQueue
namespace Go.Abs
open Go
end Go.Abs

/- interregnum/model.PutQueue -/
namespace Go.Abs
open Go
set_option linter.unusedVariables false
end Go.Abs

-- interregnum/interregnumref05.QueueBytes
namespace Go.Abs
open Go
end Go.Abs

/- interregnum/interregnumref05.QueueBytes -/
namespace Go.Abs
open Go
set_option linter.unusedVariables false
end Go.Abs

-- interregnum/model.PutTask
namespace Go.Abs
open Go
end Go.Abs

/- interregnum/model.PutTask -/
namespace Go.Abs
open Go
set_option linter.unusedVariables false
end Go.Abs

-- interregnum/interregnumref05.TaskBytes
namespace Go.Abs
open Go
end Go.Abs

-- interregnum/interregnumref05.number
namespace Go.Abs
open Go
end Go.Abs

/- interregnum/interregnumref05.TaskBytes -/
namespace Go.Abs
open Go
set_option linter.unusedVariables false
end Go.Abs

/- interregnum/model.same -/
namespace Go.Abs
open Go
set_option linter.unusedVariables false
end Go.Abs

/- interregnum/model.putLabels -/
namespace Go.Abs
open Go
set_option linter.unusedVariables false
end Go.Abs

/- interregnum/model.putAmount -/
namespace Go.Abs
open Go
set_option linter.unusedVariables false
end Go.Abs

/- interregnum/interregnumref05.amount -/
namespace Go.Abs
open Go
set_option linter.unusedVariables false
end Go.Abs

/- interregnum/interregnumref05.labels -/
namespace Go.Abs
open Go
set_option linter.unusedVariables false
end Go.Abs

/- interregnum/interregnumref05.number -/
namespace Go.Abs
open Go
set_option linter.unusedVariables false
end Go.Abs

-- interregnum/interregnumlaw05.awake
namespace Go.Abs
open Go
end Go.Abs

/- interregnum/interregnumlaw05.awake -/
namespace Go.Abs
open Go
set_option linter.unusedVariables false
end Go.Abs

-- interregnum/interregnumlaw05.few
namespace Go.Abs
open Go
end Go.Abs

-- interregnum/interregnumlaw05.labels
namespace Go.Abs
open Go
end Go.Abs

/- interregnum/interregnumlaw05.few -/
namespace Go.Abs
open Go
set_option linter.unusedVariables false
end Go.Abs

/- interregnum/interregnumlaw05.labels -/
namespace Go.Abs
open Go
set_option linter.unusedVariables false
end Go.Abs

/- aC9 of tasks: what the code asks is so. -/
namespace Go.Abs
open Go
end Go.Abs
