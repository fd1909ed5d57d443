/- Functions, and what the code asks of them: PPdqSc. -/
import Derived.KernelRfl
import Derived.Test.YtjlehbennimkgaaIdentNamesP3
import Derived.Test.YtjlehbennimkgaaIdentNamesP4
import Derived.Test.YtjlehbennimkgaaIdentNamesP5
import Derived.Test.YtjlehbennimkgaaIdentNamesP8
import Derived.Test.YtjlehbennimkgaaIdentNamesP10
import Derived.Test.YtjlehbennimkgaaIdentNamesP12
import Derived.Test.YtjlehbennimkgaaIdentNamesP14
import Derived.Test.YtjlehbennimkgaaIdentNamesP16
set_option linter.unusedVariables false
set_option linter.unusedSimpArgs false
/- Which of the machines that can take a task takes it. -/
namespace Go.Abs
open Go
end Go.Abs

-- interregnum/rank.all$1
namespace Go.Abs
open Go
end Go.Abs

/- interregnum/rank.all$1 -/
namespace Go.Abs
open Go
set_option linter.unusedVariables false
end Go.Abs

-- slices.insertionSortCmpFunc[interregnum/rank.scored]
namespace Go.Abs
open Go
end Go.Abs

/- slices.insertionSortCmpFunc[interregnum/rank.scored] -/
namespace Go.Abs
open Go
set_option linter.unusedVariables false
end Go.Abs

-- slices.heapSortCmpFunc[interregnum/rank.scored]
namespace Go.Abs
open Go
end Go.Abs

-- slices.siftDownCmpFunc[interregnum/rank.scored]
namespace Go.Abs
open Go
end Go.Abs

/- slices.heapSortCmpFunc[interregnum/rank.scored] -/
namespace Go.Abs
open Go
set_option linter.unusedVariables false
end Go.Abs

-- slices.breakPatternsCmpFunc[interregnum/rank.scored]
namespace Go.Abs
open Go
end Go.Abs

/- slices.breakPatternsCmpFunc[interregnum/rank.scored] -/
namespace Go.Abs
open Go
set_option linter.unusedVariables false
end Go.Abs

-- slices.choosePivotCmpFunc[interregnum/rank.scored]
namespace Go.Abs
open Go
end Go.Abs

-- slices.medianAdjacentCmpFunc[interregnum/rank.scored]
namespace Go.Abs
open Go
end Go.Abs

-- slices.medianCmpFunc[interregnum/rank.scored]
namespace Go.Abs
open Go
end Go.Abs

/- slices.choosePivotCmpFunc[interregnum/rank.scored] -/
namespace Go.Abs
open Go
set_option linter.unusedVariables false
end Go.Abs

-- slices.reverseRangeCmpFunc[interregnum/rank.scored]
namespace Go.Abs
open Go
end Go.Abs

/- slices.reverseRangeCmpFunc[interregnum/rank.scored] -/
namespace Go.Abs
open Go
set_option linter.unusedVariables false
end Go.Abs

-- slices.partialInsertionSortCmpFunc[interregnum/rank.scored]
namespace Go.Abs
open Go
end Go.Abs

/- slices.partialInsertionSortCmpFunc[interregnum/rank.scored] -/
namespace Go.Abs
open Go
set_option linter.unusedVariables false
end Go.Abs

-- slices.partitionEqualCmpFunc[interregnum/rank.scored]
namespace Go.Abs
open Go
end Go.Abs

/- slices.partitionEqualCmpFunc[interregnum/rank.scored] -/
namespace Go.Abs
open Go
set_option linter.unusedVariables false
end Go.Abs

-- slices.partitionCmpFunc[interregnum/rank.scored]
namespace Go.Abs
open Go
end Go.Abs

/- slices.partitionCmpFunc[interregnum/rank.scored] -/
namespace Go.Abs
open Go
set_option linter.unusedVariables false
end Go.Abs

/- slices.siftDownCmpFunc[interregnum/rank.scored] -/
namespace Go.Abs
open Go
set_option linter.unusedVariables false
end Go.Abs

/- slices.medianAdjacentCmpFunc[interregnum/rank.scored] -/
namespace Go.Abs
open Go
set_option linter.unusedVariables false
end Go.Abs

-- slices.order2CmpFunc[interregnum/rank.scored]
namespace Go.Abs
open Go
end Go.Abs

/- slices.medianCmpFunc[interregnum/rank.scored] -/
namespace Go.Abs
open Go
set_option linter.unusedVariables false
end Go.Abs

/- slices.order2CmpFunc[interregnum/rank.scored] -/
namespace Go.Abs
open Go
set_option linter.unusedVariables false
end Go.Abs

/- The library's unstable sort of scored machines: what the code asks is so. -/
namespace Go.Abs
open Go
end Go.Abs
