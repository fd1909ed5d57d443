/- Functions, and what the code asks of them: PVict. -/
import Derived.Test.YtjlehbennimkgabOrderTellsP4
import Derived.Test.YtjlehbennimkgabOrderTellsP5
import Derived.Test.YtjlehbennimkgabOrderTellsP6
import Derived.Test.YtjlehbennimkgabOrderTellsP9
import Derived.Test.YtjlehbennimkgabOrderTellsP10
import Derived.Test.YtjlehbennimkgabOrderTellsP12
import Derived.Test.YtjlehbennimkgabOrderTellsP14
set_option linter.unusedVariables false
set_option linter.unusedSimpArgs false
/- Which jobs must go,so that a task has fW. -/
namespace Go.Abs
open Go

def aHE (a:hG×List aS×iU):List aS:=a.2.1.filter fun j=>decide (j.2.2.1=a.1.1.1∧j.1.2.2.1 < a.2.2.2.2.1)
def aF9 (a:hG×List aS×iU):List aS:=a9 ltW (aHE a)
def goK (need:fV):fV→List aS→Option Nat
 | _,[]=>none
 | free,j::l=>if ¬(aCA (free,j.1.2.2.2.1)).2=0 then none else if aGE (need,(aCA (free,j.1.2.2.2.1)).1)=true then some 1 else (goK need (aCA (free,j.1.2.2.2.1)).1 l).map (·+1)
def dY (a:hG×List aS×iU):List aS×Bool :=
 if aHD a=0 then ([],true) else if ¬aHD a=4 then ([],false) else
 match goK a.2.2.2.2.2.1 (aD7 (a.1,a.2.1)).1 (aF9 a) with
 | some k=>((aF9 a).take k,true)
 | none=>([],false)
end Go.Abs

/- Which jobs must go: what the code asks is so. -/
namespace Go.Abs
open Go
end Go.Abs
