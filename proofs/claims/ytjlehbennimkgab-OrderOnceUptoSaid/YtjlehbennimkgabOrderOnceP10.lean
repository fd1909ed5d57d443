/- Functions, and what the code asks of them: PFeas. -/
import Derived.KernelRfl
import Derived.Test.YtjlehbennimkgabOrderOnceP4
import Derived.Test.YtjlehbennimkgabOrderOnceP5
import Derived.Test.YtjlehbennimkgabOrderOnceP6
import Derived.Test.YtjlehbennimkgabOrderOnceP9
set_option linter.unusedVariables false
set_option linter.unusedSimpArgs false
namespace Go.Abs
open Go
abbrev gT:=aGG×Bool×Int
def aH3 (a:List zP×zP):Bool:=a.1.any fun x=>decide (x=a.2)
def aGW (a:List zP×List zP):Bool:=a.2.all fun w=>aH3 (a.1,w)
def aEU (jobs:List aU) (n:ByteArray):List fO:=(jobs.filter fun j=>decide (j.2.2.1=n)).map fun j=>j.1.2.2.2.1
def aEY (a:gT×List aU):fO×Int :=
 if (aGQ (aEU a.2 a.1.1.1)).2≠0 then (xH,(aGQ (aEU a.2 a.1.1.1)).2) else aIB (a.1.1.2.1,(aGQ (aEU a.2 a.1.1.1)).1)
def aD7 (a:aU×gT×hZ):Bool :=
 decide (¬a.2.2.2.2.2.2.2.1=ByteArray.empty∧a.1.2.2.1=a.2.1.1.1∧¬a.1.1.1=a.2.2.1∧a.1.1.2.2.2.2.2.1=a.2.2.2.2.2.2.2.1)
def aBZ (a:List aU×gT×hZ):Bool:=a.1.any fun j=>aD7 (j,a.2)
def aG7 (a:gT×List aU×hZ):Int :=
 if ¬((aEY (a.1,a.2.1)).2=0∧aHN a.1.1=true∧aG9 a.2.2=true) then 5 else
 if ¬a.1.2.1=true then 1 else
 if ¬aGW (a.1.1.2.2,a.2.2.2.2.2.2.1)=true then 2 else
 if aBZ (a.2.1,a.1,a.2.2)=true then 3 else
 if ¬aF9 (a.2.2.2.2.2.1,(aEY (a.1,a.2.1)).1)=true then 4 else 0
set_option linter.unusedVariables false
set_option linter.unusedVariables false
set_option linter.unusedVariables false
set_option linter.unusedVariables false
set_option linter.unusedVariables false
set_option linter.unusedVariables false
end Go.Abs
