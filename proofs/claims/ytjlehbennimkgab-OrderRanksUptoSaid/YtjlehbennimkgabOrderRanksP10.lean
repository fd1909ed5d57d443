/- Functions, and what the code asks of them: PFeas. -/
import Derived.KernelRfl
import Derived.Test.YtjlehbennimkgabOrderRanksP4
import Derived.Test.YtjlehbennimkgabOrderRanksP5
import Derived.Test.YtjlehbennimkgabOrderRanksP6
import Derived.Test.YtjlehbennimkgabOrderRanksP9
set_option linter.unusedVariables false
set_option linter.unusedSimpArgs false
/- Which machines can take a task. -/
namespace Go.Abs
open Go
abbrev gR:=aF7×Bool×Int
def aH1 (a:List yB×yB):Bool:=a.1.any fun x=>decide (x=a.2)
def aGV (a:List yB×List yB):Bool:=a.2.all fun w=>aH1 (a.1,w)
def aD9 (jobs:List aT) (n:ByteArray):List fP:=(jobs.filter fun j=>decide (j.2.2.1=n)).map fun j=>j.1.2.2.2.1
def aD6 (a:gR×List aT):fP×Int :=
 if (aGD (aD9 a.2 a.1.1.1)).2≠0 then (zN,(aGD (aD9 a.2 a.1.1.1)).2) else aH4 (a.1.1.2.1,(aGD (aD9 a.2 a.1.1.1)).1)
def aEN (a:aT×gR×hO):Bool :=
 decide (¬a.2.2.2.2.2.2.2.1=ByteArray.empty∧a.1.2.2.1=a.2.1.1.1∧¬a.1.1.1=a.2.2.1∧a.1.1.2.2.2.2.2.1=a.2.2.2.2.2.2.2.1)
def aCB (a:List aT×gR×hO):Bool:=a.1.any fun j=>aEN (j,a.2)
def aG9 (a:gR×List aT×hO):Int :=
 if ¬((aD6 (a.1,a.2.1)).2=0∧aHH a.1.1=true∧aGY a.2.2=true) then 5 else
 if ¬a.1.2.1=true then 1 else
 if ¬aGV (a.1.1.2.2,a.2.2.2.2.2.2.1)=true then 2 else
 if aCB (a.2.1,a.1,a.2.2)=true then 3 else
 if ¬aGA (a.2.2.2.2.2.1,(aD6 (a.1,a.2.1)).1)=true then 4 else 0
set_option linter.unusedVariables false
set_option linter.unusedVariables false
set_option linter.unusedVariables false
set_option linter.unusedVariables false
set_option linter.unusedVariables false
set_option linter.unusedVariables false
end Go.Abs
