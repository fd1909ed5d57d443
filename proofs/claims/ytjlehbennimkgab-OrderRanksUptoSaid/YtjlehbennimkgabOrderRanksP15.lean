/- Functions, and what the code asks of them: PVict. -/
import Derived.Test.YtjlehbennimkgabOrderRanksP4
import Derived.Test.YtjlehbennimkgabOrderRanksP5
import Derived.Test.YtjlehbennimkgabOrderRanksP6
import Derived.Test.YtjlehbennimkgabOrderRanksP9
import Derived.Test.YtjlehbennimkgabOrderRanksP10
import Derived.Test.YtjlehbennimkgabOrderRanksP12
import Derived.Test.YtjlehbennimkgabOrderRanksP14
set_option linter.unusedVariables false
set_option linter.unusedSimpArgs false
/- Which jobs must go,so that a task has kK. -/
namespace Go.Abs
open Go
def aG5 (a:gR×List aT×hO):List aT:=a.2.1.filter fun j=>decide (j.2.2.1=a.1.1.1∧j.1.2.2.1 < a.2.2.2.2.1)
def aF2 (a:gR×List aT×hO):List aT:=bB ltW (aG5 a)
def goK (need:fP):fP→List aT→Option Nat
 | _,[]=>none
 | free,j::l=>if ¬(aBX (free,j.1.2.2.2.1)).2=0 then none else if aGA (need,(aBX (free,j.1.2.2.2.1)).1)=true then some 1 else (goK need (aBX (free,j.1.2.2.2.1)).1 l).map (·+1)
def dU (a:gR×List aT×hO):List aT×Bool :=
 if aG9 a=0 then ([],true) else if ¬aG9 a=4 then ([],false) else
 match goK a.2.2.2.2.2.1 (aD6 (a.1,a.2.1)).1 (aF2 a) with
 | some k=>((aF2 a).take k,true)
 | none=>([],false)
end Go.Abs
