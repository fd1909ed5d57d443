/- Functions, and what the code asks of them: PFeas. -/
import Derived.KernelRfl
import Derived.Test.YtjlehbennimkgabOrderGangsP4
import Derived.Test.YtjlehbennimkgabOrderGangsP5
import Derived.Test.YtjlehbennimkgabOrderGangsP6
import Derived.Test.YtjlehbennimkgabOrderGangsP9
set_option linter.unusedVariables false
set_option linter.unusedSimpArgs false
namespace Go.Abs
open Go
abbrev gR:=aGC×Bool×Int
def aHR (a:List yA×yA):Bool:=a.1.any fun x=>decide (x=a.2)
def aGH (a:List yA×List yA):Bool:=a.2.all fun w=>aHR (a.1,w)
def aDD (jobs:List aU) (n:ByteArray):List fQ:=(jobs.filter fun j=>decide (j.2.2.1=n)).map fun j=>j.1.2.2.2.1
def aC9 (a:gR×List aU):fQ×Int :=
 if (aGN (aDD a.2 a.1.1.1)).2≠0 then (xP,(aGN (aDD a.2 a.1.1.1)).2) else aIB (a.1.1.2.1,(aGN (aDD a.2 a.1.1.1)).1)
def aEJ (a:aU×gR×iI):Bool :=
 decide (¬a.2.2.2.2.2.2.2.1=ByteArray.empty∧a.1.2.2.1=a.2.1.1.1∧¬a.1.1.1=a.2.2.1∧a.1.1.2.2.2.2.2.1=a.2.2.2.2.2.2.2.1)
def aB5 (a:List aU×gR×iI):Bool:=a.1.any fun j=>aEJ (j,a.2)
def aHL (a:gR×List aU×iI):Int :=
 if ¬((aC9 (a.1,a.2.1)).2=0∧aHA a.1.1=true∧aG0 a.2.2=true) then 5 else
 if ¬a.1.2.1=true then 1 else
 if ¬aGH (a.1.1.2.2,a.2.2.2.2.2.2.1)=true then 2 else
 if aB5 (a.2.1,a.1,a.2.2)=true then 3 else
 if ¬aGB (a.2.2.2.2.2.1,(aC9 (a.1,a.2.1)).1)=true then 4 else 0
set_option linter.unusedVariables false
set_option linter.unusedVariables false
set_option linter.unusedVariables false
set_option linter.unusedVariables false
set_option linter.unusedVariables false
set_option linter.unusedVariables false
end Go.Abs
