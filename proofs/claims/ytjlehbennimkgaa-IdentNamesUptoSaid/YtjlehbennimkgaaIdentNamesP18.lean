/- Functions, and what the code asks of them: PPdqSc2. -/
import Derived.Test.YtjlehbennimkgaaIdentNamesP3
import Derived.Test.YtjlehbennimkgaaIdentNamesP4
import Derived.Test.YtjlehbennimkgaaIdentNamesP5
import Derived.Test.YtjlehbennimkgaaIdentNamesP8
import Derived.Test.YtjlehbennimkgaaIdentNamesP10
import Derived.Test.YtjlehbennimkgaaIdentNamesP12
import Derived.Test.YtjlehbennimkgaaIdentNamesP14
import Derived.Test.YtjlehbennimkgaaIdentNamesP16
import Derived.Test.YtjlehbennimkgaaIdentNamesP17
set_option linter.unusedVariables false
set_option linter.unusedSimpArgs false
/- The library's unstable sort of scored machines: partitions. -/
namespace Go.Abs
open Go
end Go.Abs
