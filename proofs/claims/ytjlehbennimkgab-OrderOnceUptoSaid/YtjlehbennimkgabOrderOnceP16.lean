/- Functions, and what the code asks of them: PVictLaw. -/
import Derived.Test.YtjlehbennimkgabOrderOnceP4
import Derived.Test.YtjlehbennimkgabOrderOnceP5
import Derived.Test.YtjlehbennimkgabOrderOnceP6
import Derived.Test.YtjlehbennimkgabOrderOnceP7
import Derived.Test.YtjlehbennimkgabOrderOnceP8
import Derived.Test.YtjlehbennimkgabOrderOnceP9
import Derived.Test.YtjlehbennimkgabOrderOnceP10
import Derived.Test.YtjlehbennimkgabOrderOnceP11
import Derived.Test.YtjlehbennimkgabOrderOnceP12
import Derived.Test.YtjlehbennimkgabOrderOnceP14
import Derived.Test.YtjlehbennimkgabOrderOnceP15
set_option linter.unusedVariables false
set_option linter.unusedSimpArgs false
namespace Go.Abs
open Go
end Go.Abs
