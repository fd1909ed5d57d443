/- Functions, and what the code asks of them: PModel2. -/
import Derived.Test.YtjlehbennimkgaaRankTellsP4
import Derived.Test.YtjlehbennimkgaaRankTellsP5
import Derived.Test.YtjlehbennimkgaaRankTellsP6
set_option linter.unusedVariables false
set_option linter.unusedSimpArgs false
namespace Go.Abs
open Go
end Go.Abs
