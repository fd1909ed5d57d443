/- Functions, and what the code asks of them: PPdqSt3. -/
import Derived.KernelRfl
import Derived.Test.YtcmjinkfgbadoabLabelsBothP5
import Derived.Test.YtcmjinkfgbadoabLabelsBothP6
import Derived.Test.YtcmjinkfgbadoabLabelsBothP7
import Derived.Test.YtcmjinkfgbadoabLabelsBothP8
import Derived.Test.YtcmjinkfgbadoabLabelsBothP9
import Derived.Test.YtcmjinkfgbadoabLabelsBothP10
import Derived.Test.YtcmjinkfgbadoabLabelsBothP12
import Derived.Test.YtcmjinkfgbadoabLabelsBothP14
import Derived.Test.YtcmjinkfgbadoabLabelsBothP17
import Derived.Test.YtcmjinkfgbadoabLabelsBothP18
import Derived.Test.YtcmjinkfgbadoabLabelsBothP19
set_option linter.unusedVariables false
set_option linter.unusedSimpArgs false
set_option linter.unusedSectionVars false
-- slices.Sort[[]string,string]
namespace Go.Abs
open Go
def f167.args (a:List (ByteArray)):List D:=[.msl 0 1 a.length]
def f167.blks (a:List (ByteArray)):List (List D):=[[.dead,.arr false 1 a.length (gl aG a)]]
def f167.res (a:List (ByteArray)):List D:=[]
def f167.blks' (a:List (ByteArray)):List (List D):=[[.dead,.arr false 1 (List.length (dG a)) (gl aG (dG a))]]
def f167.C:bA:=FnC f167.args f167.blks (fun a=>rP a) f167.res f167.blks'
set_option linter.unusedVariables false
set_option linter.unusedVariables false
end Go.Abs
