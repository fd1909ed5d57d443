/- Functions, and what the code asks of them: PFeas. -/
import Derived.KernelRfl
import Derived.Test.YtjlehbennimkgaaIdentBuildsP4
import Derived.Test.YtjlehbennimkgaaIdentBuildsP5
import Derived.Test.YtjlehbennimkgaaIdentBuildsP6
import Derived.Test.YtjlehbennimkgaaIdentBuildsP9
set_option linter.unusedVariables false
set_option linter.unusedSimpArgs false
/- Which machines can take a task. -/
namespace Go.Abs
open Go
end Go.Abs

-- interregnum/res.Sub
namespace Go.Abs
open Go
end Go.Abs

/- interregnum/res.Sub -/
namespace Go.Abs
open Go
set_option linter.unusedVariables false
end Go.Abs

-- slices.Index[[]interregnum/api.Label,interregnum/api.Label]
namespace Go.Abs
open Go
end Go.Abs

/- slices.Index[[]interregnum/api.Label,interregnum/api.Label] -/
namespace Go.Abs
open Go
set_option linter.unusedVariables false
end Go.Abs

-- slices.Contains[[]interregnum/api.Label,interregnum/api.Label]
namespace Go.Abs
open Go
end Go.Abs

/- slices.Contains[[]interregnum/api.Label,interregnum/api.Label] -/
namespace Go.Abs
open Go
set_option linter.unusedVariables false
end Go.Abs

-- interregnum/ident.Has
namespace Go.Abs
open Go
end Go.Abs

/- interregnum/ident.Has -/
namespace Go.Abs
open Go
set_option linter.unusedVariables false
end Go.Abs

-- interregnum/feas.Free
namespace Go.Abs
open Go
end Go.Abs

/- interregnum/feas.Free -/
namespace Go.Abs
open Go
set_option linter.unusedVariables false
end Go.Abs

-- interregnum/feas.bothers
namespace Go.Abs
open Go
end Go.Abs

/- interregnum/feas.bothers -/
namespace Go.Abs
open Go
set_option linter.unusedVariables false
end Go.Abs

-- interregnum/feas.Why$1
namespace Go.Abs
open Go
end Go.Abs

/- interregnum/feas.Why$1 -/
namespace Go.Abs
open Go
set_option linter.unusedVariables false
end Go.Abs

-- slices.IndexFunc[[]interregnum/api.Job,interregnum/api.Job]#1
namespace Go.Abs
open Go
end Go.Abs

/- slices.IndexFunc[[]interregnum/api.Job,interregnum/api.Job]#1 -/
namespace Go.Abs
open Go
set_option linter.unusedVariables false
end Go.Abs

-- slices.ContainsFunc[[]interregnum/api.Job,interregnum/api.Job]
namespace Go.Abs
open Go
end Go.Abs

/- slices.ContainsFunc[[]interregnum/api.Job,interregnum/api.Job] -/
namespace Go.Abs
open Go
set_option linter.unusedVariables false
end Go.Abs

-- interregnum/feas.Why
namespace Go.Abs
open Go
end Go.Abs

/- interregnum/feas.Why -/
namespace Go.Abs
open Go
set_option linter.unusedVariables false
end Go.Abs

/- Which machines can take a task: what the code asks is so. -/
namespace Go.Abs
open Go
end Go.Abs
