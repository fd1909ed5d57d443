/- Functions, and what the code asks of them: PVictLaw. -/
import Derived.Test.YtjlehbennimkgabOrderRanksP4
import Derived.Test.YtjlehbennimkgabOrderRanksP5
import Derived.Test.YtjlehbennimkgabOrderRanksP6
import Derived.Test.YtjlehbennimkgabOrderRanksP7
import Derived.Test.YtjlehbennimkgabOrderRanksP8
import Derived.Test.YtjlehbennimkgabOrderRanksP9
import Derived.Test.YtjlehbennimkgabOrderRanksP10
import Derived.Test.YtjlehbennimkgabOrderRanksP11
import Derived.Test.YtjlehbennimkgabOrderRanksP12
import Derived.Test.YtjlehbennimkgabOrderRanksP14
import Derived.Test.YtjlehbennimkgabOrderRanksP15
set_option linter.unusedVariables false
set_option linter.unusedSimpArgs false
/- The laws of layer 13. -/
namespace Go.Abs
open Go
end Go.Abs
