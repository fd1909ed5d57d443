/- Functions, and what the code asks of them: PLab2. -/
import Derived.KernelRfl
import Derived.Test.YtcmjinkfgbadoabLabelsBothP5
import Derived.Test.YtcmjinkfgbadoabLabelsBothP6
import Derived.Test.YtcmjinkfgbadoabLabelsBothP7
import Derived.Test.YtcmjinkfgbadoabLabelsBothP8
import Derived.Test.YtcmjinkfgbadoabLabelsBothP9
import Derived.Test.YtcmjinkfgbadoabLabelsBothP10
import Derived.Test.YtcmjinkfgbadoabLabelsBothP11
import Derived.Test.YtcmjinkfgbadoabLabelsBothP12
import Derived.Test.YtcmjinkfgbadoabLabelsBothP13
import Derived.Test.YtcmjinkfgbadoabLabelsBothP20
import Derived.Test.YtcmjinkfgbadoabLabelsBothP21
import Derived.Test.YtcmjinkfgbadoabLabelsBothP22
import Derived.Test.YtcmjinkfgbadoabLabelsBothP23
set_option linter.unusedVariables false
set_option linter.unusedSimpArgs false
set_option linter.unusedSectionVars false
-- (*interregnum/interregnumref18.Index).Put
namespace Go.Abs
open Go
def f345.args (a:aJ×ByteArray×(List (aB))):List D:=[.ptr 0 0,.str a.2.1,.slice .ro 2 a.2.2.length (gl aD a.2.2)]
def f345.blks (a:aJ×ByteArray×(List (aB))):List (List D):=[[.slice .ro 1 a.1.1.length (gl aG a.1.1),.slice .ro 1 a.1.2.length (gl aA a.1.2)]]
def f345.res (a:aJ×ByteArray×(List (aB))):List D:=[]
def f345.blks' (a:aJ×ByteArray×(List (aB))):List (List D):=[[.slice .ro 1 (((jM a).1).length) (gl aG ((jM a).1)),.slice .ro 1 (((jM a).2).length) (gl aA ((jM a).2))]]
def f345.C:bA:=FnC f345.args f345.blks (fun a=>nR a) f345.res f345.blks'
def f346.args (a:aJ×ByteArray):List D:=[.ptr 0 0,.str a.2]
def f346.blks (a:aJ×ByteArray):List (List D):=[[.slice .ro 1 a.1.1.length (gl aG a.1.1),.slice .ro 1 a.1.2.length (gl aA a.1.2)]]
def f346.res (a:aJ×ByteArray):List D:=[.bool ((dW a).1)]
def f346.blks' (a:aJ×ByteArray):List (List D):=[[.slice .ro 1 ((((dW a).2).1).length) (gl aG (((dW a).2).1)),.slice .ro 1 ((((dW a).2).2).length) (gl aA (((dW a).2).2))]]
def f346.C:bA:=FnC f346.args f346.blks (fun a=>i6 a) f346.res f346.blks'
set_option linter.unusedVariables false
set_option linter.unusedVariables false
def f347.args (a:aJ×(List (aB))):List D:=[.ptr 0 0,.slice .ro 2 a.2.length (gl aD a.2)]
def f347.blks (a:aJ×(List (aB))):List (List D):=[[.slice .ro 1 a.1.1.length (gl aG a.1.1),.slice .ro 1 a.1.2.length (gl aA a.1.2)]]
def f347.res (a:aJ×(List (aB))):List D:=[.slice .ro 1 (((dC a).1).length) (gl aG ((dC a).1))]
def f347.blks' (a:aJ×(List (aB))):List (List D):=[[.slice .ro 1 ((((dC a).2).1).length) (gl aG (((dC a).2).1)),.slice .ro 1 ((((dC a).2).2).length) (gl aA (((dC a).2).2))]]
def f347.C:bA:=FnC f347.args f347.blks (fun a=>hZ a) f347.res f347.blks'
theorem aEN (l:List (ByteArray×Lbs)) (w:Lbs):(iS l w).length≤l.length:=by
 unfold iS
 rw [List.length_map]
 exact List.length_filter_le _ _
end Go.Abs
