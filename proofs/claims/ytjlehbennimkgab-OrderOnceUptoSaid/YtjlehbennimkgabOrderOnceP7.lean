/- Functions, and what the code asks of them: PModel2. -/
import Derived.Test.YtjlehbennimkgabOrderOnceP4
import Derived.Test.YtjlehbennimkgabOrderOnceP5
import Derived.Test.YtjlehbennimkgabOrderOnceP6
set_option linter.unusedVariables false
set_option linter.unusedSimpArgs false
namespace Go.Abs
open Go
end Go.Abs
