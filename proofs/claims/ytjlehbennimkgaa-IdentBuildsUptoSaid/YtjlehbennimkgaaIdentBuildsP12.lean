/- Functions, and what the code asks of them: PFeasLaw. -/
import Derived.Test.YtjlehbennimkgaaIdentBuildsP4
import Derived.Test.YtjlehbennimkgaaIdentBuildsP5
import Derived.Test.YtjlehbennimkgaaIdentBuildsP6
import Derived.Test.YtjlehbennimkgaaIdentBuildsP7
import Derived.Test.YtjlehbennimkgaaIdentBuildsP8
import Derived.Test.YtjlehbennimkgaaIdentBuildsP9
import Derived.Test.YtjlehbennimkgaaIdentBuildsP11
set_option linter.unusedVariables false
set_option linter.unusedSimpArgs false
/- The laws of layer 11. -/
namespace Go.Abs
open Go
end Go.Abs
