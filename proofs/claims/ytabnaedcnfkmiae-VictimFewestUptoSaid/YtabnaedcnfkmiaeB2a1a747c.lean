/- Functions, and what the code asks of them: PAgent3. -/
import Derived.KernelRfl
import Derived.Test.YtabnaedcnfkmiaeBa1eb4fe3
import Derived.Test.YtabnaedcnfkmiaeB7f17cbe2
import Derived.Test.YtabnaedcnfkmiaeB632c19ef
import Derived.Test.YtabnaedcnfkmiaeB1bc422e5
import Derived.Test.YtabnaedcnfkmiaeBd10b95f7
import Derived.Test.YtabnaedcnfkmiaeB29fee5fc
import Derived.Test.YtabnaedcnfkmiaeB642a1d79
set_option linter.unusedVariables false
set_option linter.unusedSimpArgs false
-- interregnum/interregnumref15.Right
namespace Go.Abs
open Go
end Go.Abs

-- interregnum/interregnumref11.Free
namespace Go.Abs
open Go
end Go.Abs

/- interregnum/interregnumref15.Right -/
namespace Go.Abs
open Go
set_option linter.unusedVariables false
end Go.Abs

-- interregnum/agent.Of
namespace Go.Abs
open Go
end Go.Abs

/- interregnum/agent.Of -/
namespace Go.Abs
open Go
set_option linter.unusedVariables false
end Go.Abs

-- interregnum/interregnumref24.Of
namespace Go.Abs
open Go
end Go.Abs

/- interregnum/interregnumref24.Of -/
namespace Go.Abs
open Go
set_option linter.unusedVariables false
end Go.Abs

/- States and the orders that they tell: what the code asks is so. -/
namespace Go.Abs
open Go
end Go.Abs
