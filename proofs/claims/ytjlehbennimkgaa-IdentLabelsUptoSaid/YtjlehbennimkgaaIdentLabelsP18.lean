/- Functions, and what the code asks of them: PPdqSc. -/
import Derived.KernelRfl
import Derived.Test.YtjlehbennimkgaaIdentLabelsP4
import Derived.Test.YtjlehbennimkgaaIdentLabelsP5
import Derived.Test.YtjlehbennimkgaaIdentLabelsP6
import Derived.Test.YtjlehbennimkgaaIdentLabelsP9
import Derived.Test.YtjlehbennimkgaaIdentLabelsP11
import Derived.Test.YtjlehbennimkgaaIdentLabelsP13
import Derived.Test.YtjlehbennimkgaaIdentLabelsP15
import Derived.Test.YtjlehbennimkgaaIdentLabelsP17
set_option linter.unusedVariables false
set_option linter.unusedSimpArgs false
/- Which of the machines that can take a task takes it. -/
namespace Go.Abs
open Go
end Go.Abs

-- interregnum/rank.all$1
namespace Go.Abs
open Go
end Go.Abs

/- interregnum/rank.all$1 -/
namespace Go.Abs
open Go
set_option linter.unusedVariables false
end Go.Abs

-- slices.insertionSortCmpFunc[interregnum/rank.scored]
namespace Go.Abs
open Go
end Go.Abs

/- slices.insertionSortCmpFunc[interregnum/rank.scored] -/
namespace Go.Abs
open Go
set_option linter.unusedVariables false
end Go.Abs

-- slices.heapSortCmpFunc[interregnum/rank.scored]
namespace Go.Abs
open Go
end Go.Abs

-- slices.siftDownCmpFunc[interregnum/rank.scored]
namespace Go.Abs
open Go
end Go.Abs

/- slices.heapSortCmpFunc[interregnum/rank.scored] -/
namespace Go.Abs
open Go
set_option linter.unusedVariables false
end Go.Abs

-- slices.breakPatternsCmpFunc[interregnum/rank.scored]
namespace Go.Abs
open Go
end Go.Abs

/- slices.breakPatternsCmpFunc[interregnum/rank.scored] -/
namespace Go.Abs
open Go
set_option linter.unusedVariables false
end Go.Abs

-- slices.choosePivotCmpFunc[interregnum/rank.scored]
namespace Go.Abs
open Go
end Go.Abs

-- slices.medianAdjacentCmpFunc[interregnum/rank.scored]
namespace Go.Abs
open Go
end Go.Abs

-- slices.medianCmpFunc[interregnum/rank.scored]
namespace Go.Abs
open Go
end Go.Abs

/- slices.choosePivotCmpFunc[interregnum/rank.scored] -/
namespace Go.Abs
open Go
set_option linter.unusedVariables false
end Go.Abs

-- slices.reverseRangeCmpFunc[interregnum/rank.scored]
namespace Go.Abs
open Go
end Go.Abs

/- slices.reverseRangeCmpFunc[interregnum/rank.scored] -/
namespace Go.Abs
open Go
set_option linter.unusedVariables false
end Go.Abs

-- slices.partialInsertionSortCmpFunc[interregnum/rank.scored]
namespace Go.Abs
open Go
end Go.Abs

/- slices.partialInsertionSortCmpFunc[interregnum/rank.scored] -/
namespace Go.Abs
open Go
set_option linter.unusedVariables false
end Go.Abs

-- slices.partitionEqualCmpFunc[interregnum/rank.scored]
namespace Go.Abs
open Go
end Go.Abs

/- slices.partitionEqualCmpFunc[interregnum/rank.scored] -/
namespace Go.Abs
open Go
set_option linter.unusedVariables false
end Go.Abs

-- slices.partitionCmpFunc[interregnum/rank.scored]
namespace Go.Abs
open Go
end Go.Abs

/- slices.partitionCmpFunc[interregnum/rank.scored] -/
namespace Go.Abs
open Go
set_option linter.unusedVariables false
end Go.Abs

/- slices.siftDownCmpFunc[interregnum/rank.scored] -/
namespace Go.Abs
open Go
set_option linter.unusedVariables false
end Go.Abs

/- slices.medianAdjacentCmpFunc[interregnum/rank.scored] -/
namespace Go.Abs
open Go
set_option linter.unusedVariables false
end Go.Abs

-- slices.order2CmpFunc[interregnum/rank.scored]
namespace Go.Abs
open Go
end Go.Abs

/- slices.medianCmpFunc[interregnum/rank.scored] -/
namespace Go.Abs
open Go
set_option linter.unusedVariables false
end Go.Abs

/- slices.order2CmpFunc[interregnum/rank.scored] -/
namespace Go.Abs
open Go
set_option linter.unusedVariables false
end Go.Abs

/- The library's unstable sort of scored machines: what the code asks is so. -/
namespace Go.Abs
open Go
end Go.Abs
