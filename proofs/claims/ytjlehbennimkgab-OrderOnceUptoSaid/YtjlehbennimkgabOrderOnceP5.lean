/- Functions, and what the code asks of them: PStr. -/
import Derived.KernelRfl
import Derived.Lib.TrimU
import Derived.Test.YtjlehbennimkgabOrderOnceP4
set_option linter.unusedVariables false
set_option linter.unusedSimpArgs false
namespace Go.Abs
open Go
def ltr (x:UInt8):Bool:=(97≤x&&x≤122) || (48≤x&&x≤57) || x==45
set_option linter.unusedVariables false
set_option linter.unusedVariables false
set_option linter.unusedVariables false
set_option linter.unusedVariables false
set_option linter.unusedVariables false
end Go.Abs
