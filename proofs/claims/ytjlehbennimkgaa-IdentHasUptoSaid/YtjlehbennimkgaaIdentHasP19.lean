/- Functions, and what the code asks of them: PPdqSc2. -/
import Derived.Test.YtjlehbennimkgaaIdentHasP4
import Derived.Test.YtjlehbennimkgaaIdentHasP5
import Derived.Test.YtjlehbennimkgaaIdentHasP6
import Derived.Test.YtjlehbennimkgaaIdentHasP9
import Derived.Test.YtjlehbennimkgaaIdentHasP11
import Derived.Test.YtjlehbennimkgaaIdentHasP13
import Derived.Test.YtjlehbennimkgaaIdentHasP15
import Derived.Test.YtjlehbennimkgaaIdentHasP17
import Derived.Test.YtjlehbennimkgaaIdentHasP18
set_option linter.unusedVariables false
set_option linter.unusedSimpArgs false
namespace Go.Abs
open Go
end Go.Abs
