/- Functions, and what the code asks of them: PVictLaw. -/
import Derived.Test.YtjlehbennimkgabOrderGangsP4
import Derived.Test.YtjlehbennimkgabOrderGangsP5
import Derived.Test.YtjlehbennimkgabOrderGangsP6
import Derived.Test.YtjlehbennimkgabOrderGangsP7
import Derived.Test.YtjlehbennimkgabOrderGangsP8
import Derived.Test.YtjlehbennimkgabOrderGangsP9
import Derived.Test.YtjlehbennimkgabOrderGangsP10
import Derived.Test.YtjlehbennimkgabOrderGangsP11
import Derived.Test.YtjlehbennimkgabOrderGangsP12
import Derived.Test.YtjlehbennimkgabOrderGangsP14
import Derived.Test.YtjlehbennimkgabOrderGangsP15
set_option linter.unusedVariables false
set_option linter.unusedSimpArgs false
namespace Go.Abs
open Go
end Go.Abs
