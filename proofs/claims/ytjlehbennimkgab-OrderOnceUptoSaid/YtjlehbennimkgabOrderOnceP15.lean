/- Functions, and what the code asks of them: PVict. -/
import Derived.Test.YtjlehbennimkgabOrderOnceP4
import Derived.Test.YtjlehbennimkgabOrderOnceP5
import Derived.Test.YtjlehbennimkgabOrderOnceP6
import Derived.Test.YtjlehbennimkgabOrderOnceP9
import Derived.Test.YtjlehbennimkgabOrderOnceP10
import Derived.Test.YtjlehbennimkgabOrderOnceP12
import Derived.Test.YtjlehbennimkgabOrderOnceP14
set_option linter.unusedVariables false
set_option linter.unusedSimpArgs false
namespace Go.Abs
open Go
def aHH (a:gT×List aU×hZ):List aU:=a.2.1.filter fun j=>decide (j.2.2.1=a.1.1.1∧j.1.2.2.1 < a.2.2.2.2.1)
def aGE (a:gT×List aU×hZ):List aU:=bB ltW (aHH a)
def goK (need:fO):fO→List aU→Option Nat
 | _,[]=>none
 | free,j::l=>if ¬(aCZ (free,j.1.2.2.2.1)).2=0 then none else if aF9 (need,(aCZ (free,j.1.2.2.2.1)).1)=true then some 1 else (goK need (aCZ (free,j.1.2.2.2.1)).1 l).map (·+1)
def dW (a:gT×List aU×hZ):List aU×Bool :=
 if aG7 a=0 then ([],true) else if ¬aG7 a=4 then ([],false) else
 match goK a.2.2.2.2.2.1 (aEY (a.1,a.2.1)).1 (aGE a) with
 | some k=>((aGE a).take k,true)
 | none=>([],false)
end Go.Abs
