/- Functions, and what the code asks of them: PFeas. -/
import Derived.Test.YtcmjinkfgbadoabLabelsBothP5
import Derived.Test.YtcmjinkfgbadoabLabelsBothP6
import Derived.Test.YtcmjinkfgbadoabLabelsBothP7
import Derived.Test.YtcmjinkfgbadoabLabelsBothP8
set_option linter.unusedVariables false
set_option linter.unusedSimpArgs false
set_option linter.unusedSectionVars false
namespace Go.Abs
open Go
def aDG (a:List mJ×mJ):Bool:=a.1.any fun x=>decide (x=a.2)
def jD (a:List mJ×List mJ):Bool:=a.2.all fun w=>aDG (a.1,w)
end Go.Abs
