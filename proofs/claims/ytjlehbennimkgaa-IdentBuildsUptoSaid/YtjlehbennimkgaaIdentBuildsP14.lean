/- Functions, and what the code asks of them: PAgent4. -/
import Derived.KernelRfl
import Derived.Test.YtjlehbennimkgaaIdentBuildsP4
import Derived.Test.YtjlehbennimkgaaIdentBuildsP5
import Derived.Test.YtjlehbennimkgaaIdentBuildsP6
import Derived.Test.YtjlehbennimkgaaIdentBuildsP9
import Derived.Test.YtjlehbennimkgaaIdentBuildsP11
set_option linter.unusedVariables false
set_option linter.unusedSimpArgs false
-- interregnum/interregnumref04.Has
namespace Go.Abs
open Go
end Go.Abs

/- interregnum/interregnumref04.Has -/
namespace Go.Abs
open Go
set_option linter.unusedVariables false
end Go.Abs

-- interregnum/interregnumref11.Free
namespace Go.Abs
open Go
end Go.Abs

-- interregnum/interregnumref03.Sub
namespace Go.Abs
open Go
end Go.Abs

/- interregnum/interregnumref11.Free -/
namespace Go.Abs
open Go
set_option linter.unusedVariables false
end Go.Abs

/- interregnum/interregnumref03.Sub -/
namespace Go.Abs
open Go
set_option linter.unusedVariables false
end Go.Abs

/- What the document's answers for layers 3,4,11 do. -/
namespace Go.Abs
open Go
end Go.Abs
