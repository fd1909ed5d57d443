/- Functions, and what the code asks of them: PPdqSc2. -/
import Derived.Test.YtjlehbennimkgaaIdentBuildsP4
import Derived.Test.YtjlehbennimkgaaIdentBuildsP5
import Derived.Test.YtjlehbennimkgaaIdentBuildsP6
import Derived.Test.YtjlehbennimkgaaIdentBuildsP9
import Derived.Test.YtjlehbennimkgaaIdentBuildsP11
import Derived.Test.YtjlehbennimkgaaIdentBuildsP13
import Derived.Test.YtjlehbennimkgaaIdentBuildsP15
import Derived.Test.YtjlehbennimkgaaIdentBuildsP17
import Derived.Test.YtjlehbennimkgaaIdentBuildsP18
set_option linter.unusedVariables false
set_option linter.unusedSimpArgs false
/- The library's unstable sort of scored machines: partitions. -/
namespace Go.Abs
open Go
end Go.Abs
