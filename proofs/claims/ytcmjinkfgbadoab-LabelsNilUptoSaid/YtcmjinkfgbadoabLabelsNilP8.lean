/- Functions, and what the code asks of them: PFeas. -/
import Derived.Test.YtcmjinkfgbadoabLabelsNilP4
import Derived.Test.YtcmjinkfgbadoabLabelsNilP5
import Derived.Test.YtcmjinkfgbadoabLabelsNilP6
import Derived.Test.YtcmjinkfgbadoabLabelsNilP7
set_option linter.unusedVariables false
set_option linter.unusedSimpArgs false
set_option linter.unusedSectionVars false
namespace Go.Abs
open Go
def aF5 (a:List jZ×jZ):Bool:=a.1.any fun x=>decide (x=a.2)
def sW (a:List jZ×List jZ):Bool:=a.2.all fun w=>aF5 (a.1,w)
end Go.Abs
