/- Functions, and what the code asks of them: PPdqSc2. -/
import Derived.Test.YtjlehbennimkgaaIdentLabelsP4
import Derived.Test.YtjlehbennimkgaaIdentLabelsP5
import Derived.Test.YtjlehbennimkgaaIdentLabelsP6
import Derived.Test.YtjlehbennimkgaaIdentLabelsP9
import Derived.Test.YtjlehbennimkgaaIdentLabelsP11
import Derived.Test.YtjlehbennimkgaaIdentLabelsP13
import Derived.Test.YtjlehbennimkgaaIdentLabelsP15
import Derived.Test.YtjlehbennimkgaaIdentLabelsP17
import Derived.Test.YtjlehbennimkgaaIdentLabelsP18
set_option linter.unusedVariables false
set_option linter.unusedSimpArgs false
/- The library's unstable sort of scored machines: partitions. -/
namespace Go.Abs
open Go
end Go.Abs
