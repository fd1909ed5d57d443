/- Functions, and what the code asks of them: PQuota. -/
import Derived.KernelRfl
import Derived.Test.YtjlehbennimkgaaIdentBuildsP4
import Derived.Test.YtjlehbennimkgaaIdentBuildsP5
import Derived.Test.YtjlehbennimkgaaIdentBuildsP6
set_option linter.unusedVariables false
set_option linter.unusedSimpArgs false
/- What queues bear. -/
namespace Go.Abs
open Go
def L20 {α:Type} (l:List α):Prop:=l.length≤1048576
end Go.Abs

/- What queues bear: plain facts. -/
namespace Go.Abs
open Go
end Go.Abs

-- interregnum/res.both
namespace Go.Abs
open Go
end Go.Abs

/- interregnum/res.both -/
namespace Go.Abs
open Go
set_option linter.unusedVariables false
end Go.Abs

-- interregnum/res.Add
namespace Go.Abs
open Go
end Go.Abs

/- interregnum/res.Add -/
namespace Go.Abs
open Go
set_option linter.unusedVariables false
end Go.Abs

-- interregnum/interregnumref03.Add
namespace Go.Abs
open Go
end Go.Abs

/- interregnum/interregnumref03.Add -/
namespace Go.Abs
open Go
set_option linter.unusedVariables false
end Go.Abs

-- interregnum/res.Fits
namespace Go.Abs
open Go
end Go.Abs

/- interregnum/res.Fits -/
namespace Go.Abs
open Go
set_option linter.unusedVariables false
end Go.Abs

-- interregnum/res.Sum
namespace Go.Abs
open Go
end Go.Abs

/- interregnum/res.Sum -/
namespace Go.Abs
open Go
set_option linter.unusedVariables false
end Go.Abs

-- interregnum/interregnumref03.Sum
namespace Go.Abs
open Go
end Go.Abs

/- interregnum/interregnumref03.Sum -/
namespace Go.Abs
open Go
set_option linter.unusedVariables false
end Go.Abs

-- interregnum/quota.Waits
namespace Go.Abs
open Go
end Go.Abs

/- interregnum/quota.Waits -/
namespace Go.Abs
open Go
set_option linter.unusedVariables false
end Go.Abs

/- What queues bear: what the code asks is so. -/
namespace Go.Abs
open Go
end Go.Abs
