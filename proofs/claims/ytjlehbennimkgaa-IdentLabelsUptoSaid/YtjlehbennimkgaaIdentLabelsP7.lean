/- Functions, and what the code asks of them: PModel2. -/
import Derived.Test.YtjlehbennimkgaaIdentLabelsP4
import Derived.Test.YtjlehbennimkgaaIdentLabelsP5
import Derived.Test.YtjlehbennimkgaaIdentLabelsP6
set_option linter.unusedVariables false
set_option linter.unusedSimpArgs false
/- aDB of tasks: what the code asks is so. -/
namespace Go.Abs
open Go
end Go.Abs
