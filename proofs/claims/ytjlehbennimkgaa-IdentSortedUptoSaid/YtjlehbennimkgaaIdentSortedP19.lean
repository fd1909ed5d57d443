/- Functions, and what the code asks of them: PPdqSc2. -/
import Derived.Test.YtjlehbennimkgaaIdentSortedP4
import Derived.Test.YtjlehbennimkgaaIdentSortedP5
import Derived.Test.YtjlehbennimkgaaIdentSortedP6
import Derived.Test.YtjlehbennimkgaaIdentSortedP9
import Derived.Test.YtjlehbennimkgaaIdentSortedP11
import Derived.Test.YtjlehbennimkgaaIdentSortedP13
import Derived.Test.YtjlehbennimkgaaIdentSortedP15
import Derived.Test.YtjlehbennimkgaaIdentSortedP17
import Derived.Test.YtjlehbennimkgaaIdentSortedP18
set_option linter.unusedVariables false
set_option linter.unusedSimpArgs false
namespace Go.Abs
open Go
end Go.Abs
