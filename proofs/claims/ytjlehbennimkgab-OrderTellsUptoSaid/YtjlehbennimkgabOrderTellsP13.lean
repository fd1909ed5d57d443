/- Functions, and what the code asks of them: PAgent4. -/
import Derived.KernelRfl
import Derived.Test.YtjlehbennimkgabOrderTellsP4
import Derived.Test.YtjlehbennimkgabOrderTellsP5
import Derived.Test.YtjlehbennimkgabOrderTellsP6
import Derived.Test.YtjlehbennimkgabOrderTellsP9
import Derived.Test.YtjlehbennimkgabOrderTellsP10
set_option linter.unusedVariables false
set_option linter.unusedSimpArgs false
-- interregnum/interregnumref04.Has
namespace Go.Abs
open Go
end Go.Abs

/- interregnum/interregnumref04.Has -/
namespace Go.Abs
open Go
set_option linter.unusedVariables false
end Go.Abs

-- interregnum/interregnumref11.Free
namespace Go.Abs
open Go
end Go.Abs

-- interregnum/interregnumref03.Sub
namespace Go.Abs
open Go
end Go.Abs

/- interregnum/interregnumref11.Free -/
namespace Go.Abs
open Go
set_option linter.unusedVariables false
end Go.Abs

/- interregnum/interregnumref03.Sub -/
namespace Go.Abs
open Go
set_option linter.unusedVariables false
end Go.Abs

/- What the document's answers for layers 3,4,11 do. -/
namespace Go.Abs
open Go
end Go.Abs
