/- Functions, and what the code asks of them: PVict. -/
import Derived.Test.YtjlehbennimkgabOrderGangsP4
import Derived.Test.YtjlehbennimkgabOrderGangsP5
import Derived.Test.YtjlehbennimkgabOrderGangsP6
import Derived.Test.YtjlehbennimkgabOrderGangsP9
import Derived.Test.YtjlehbennimkgabOrderGangsP10
import Derived.Test.YtjlehbennimkgabOrderGangsP12
import Derived.Test.YtjlehbennimkgabOrderGangsP14
set_option linter.unusedVariables false
set_option linter.unusedSimpArgs false
namespace Go.Abs
open Go
def aHH (a:gR×List aU×iI):List aU:=a.2.1.filter fun j=>decide (j.2.2.1=a.1.1.1∧j.1.2.2.1 < a.2.2.2.2.1)
def aF6 (a:gR×List aU×iI):List aU:=a7 ltW (aHH a)
def goK (need:fQ):fQ→List aU→Option Nat
 | _,[]=>none
 | free,j::l=>if ¬(aCZ (free,j.1.2.2.2.1)).2=0 then none else if aGB (need,(aCZ (free,j.1.2.2.2.1)).1)=true then some 1 else (goK need (aCZ (free,j.1.2.2.2.1)).1 l).map (·+1)
def dW (a:gR×List aU×iI):List aU×Bool :=
 if aHL a=0 then ([],true) else if ¬aHL a=4 then ([],false) else
 match goK a.2.2.2.2.2.1 (aC9 (a.1,a.2.1)).1 (aF6 a) with
 | some k=>((aF6 a).take k,true)
 | none=>([],false)
end Go.Abs
