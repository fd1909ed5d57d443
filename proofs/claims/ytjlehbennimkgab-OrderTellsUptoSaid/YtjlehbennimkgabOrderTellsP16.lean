/- Functions, and what the code asks of them: PVictLaw. -/
import Derived.Test.YtjlehbennimkgabOrderTellsP4
import Derived.Test.YtjlehbennimkgabOrderTellsP5
import Derived.Test.YtjlehbennimkgabOrderTellsP6
import Derived.Test.YtjlehbennimkgabOrderTellsP7
import Derived.Test.YtjlehbennimkgabOrderTellsP8
import Derived.Test.YtjlehbennimkgabOrderTellsP9
import Derived.Test.YtjlehbennimkgabOrderTellsP10
import Derived.Test.YtjlehbennimkgabOrderTellsP11
import Derived.Test.YtjlehbennimkgabOrderTellsP12
import Derived.Test.YtjlehbennimkgabOrderTellsP14
import Derived.Test.YtjlehbennimkgabOrderTellsP15
set_option linter.unusedVariables false
set_option linter.unusedSimpArgs false
/- The laws of layer 13. -/
namespace Go.Abs
open Go
end Go.Abs
