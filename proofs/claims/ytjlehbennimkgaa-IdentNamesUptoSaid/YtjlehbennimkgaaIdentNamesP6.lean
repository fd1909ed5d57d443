/- Functions, and what the code asks of them: PModel2. -/
import Derived.Test.YtjlehbennimkgaaIdentNamesP3
import Derived.Test.YtjlehbennimkgaaIdentNamesP4
import Derived.Test.YtjlehbennimkgaaIdentNamesP5
set_option linter.unusedVariables false
set_option linter.unusedSimpArgs false
/- aB0 of tasks: what the code asks is so. -/
namespace Go.Abs
open Go
end Go.Abs
