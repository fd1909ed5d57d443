/- Functions, and what the code asks of them: PPdqSt3. -/
import Derived.KernelRfl
import Derived.Test.YtcmjinkfgbadoabLabelsPlaysP5
import Derived.Test.YtcmjinkfgbadoabLabelsPlaysP6
import Derived.Test.YtcmjinkfgbadoabLabelsPlaysP7
import Derived.Test.YtcmjinkfgbadoabLabelsPlaysP8
import Derived.Test.YtcmjinkfgbadoabLabelsPlaysP9
import Derived.Test.YtcmjinkfgbadoabLabelsPlaysP10
import Derived.Test.YtcmjinkfgbadoabLabelsPlaysP12
import Derived.Test.YtcmjinkfgbadoabLabelsPlaysP14
import Derived.Test.YtcmjinkfgbadoabLabelsPlaysP17
import Derived.Test.YtcmjinkfgbadoabLabelsPlaysP18
import Derived.Test.YtcmjinkfgbadoabLabelsPlaysP19
set_option linter.unusedVariables false
set_option linter.unusedSimpArgs false
set_option linter.unusedSectionVars false
-- slices.Sort[[]string,string]
namespace Go.Abs
open Go
def f167.args (a:List (ByteArray)):List D:=[.msl 0 1 a.length]
def f167.blks (a:List (ByteArray)):List (List D):=[[.dead,.arr false 1 a.length (gl aH a)]]
def f167.res (a:List (ByteArray)):List D:=[]
def f167.blks' (a:List (ByteArray)):List (List D):=[[.dead,.arr false 1 (List.length (dL a)) (gl aH (dL a))]]
def f167.C:aZ:=FnC f167.args f167.blks (fun a=>r8 a) f167.res f167.blks'
set_option linter.unusedVariables false
set_option linter.unusedVariables false
end Go.Abs
