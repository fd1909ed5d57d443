/- Functions, and what the code asks of them: PAgent3. -/
import Derived.KernelRfl
import Derived.Test.YtabnaedcnfkmiafRankBestP3
import Derived.Test.YtabnaedcnfkmiafRankBestP4
import Derived.Test.YtabnaedcnfkmiafRankBestP5
import Derived.Test.YtabnaedcnfkmiafRankBestP8
import Derived.Test.YtabnaedcnfkmiafRankBestP9
import Derived.Test.YtabnaedcnfkmiafRankBestP11
import Derived.Test.YtabnaedcnfkmiafRankBestP12
set_option linter.unusedVariables false
set_option linter.unusedSimpArgs false
-- interregnum/interregnumref15.Right
namespace Go.Abs
open Go
end Go.Abs

-- interregnum/interregnumref11.Free
namespace Go.Abs
open Go
end Go.Abs

/- interregnum/interregnumref15.Right -/
namespace Go.Abs
open Go
set_option linter.unusedVariables false
end Go.Abs

-- interregnum/agent.Of
namespace Go.Abs
open Go
end Go.Abs

/- interregnum/agent.Of -/
namespace Go.Abs
open Go
set_option linter.unusedVariables false
end Go.Abs

-- interregnum/interregnumref24.Of
namespace Go.Abs
open Go
end Go.Abs

/- interregnum/interregnumref24.Of -/
namespace Go.Abs
open Go
set_option linter.unusedVariables false
end Go.Abs

/- States and the orders that they tell: what the code asks is so. -/
namespace Go.Abs
open Go
end Go.Abs
