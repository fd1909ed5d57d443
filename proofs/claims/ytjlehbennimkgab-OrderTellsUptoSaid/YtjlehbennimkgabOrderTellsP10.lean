/- Functions, and what the code asks of them: PFeas. -/
import Derived.KernelRfl
import Derived.Test.YtjlehbennimkgabOrderTellsP4
import Derived.Test.YtjlehbennimkgabOrderTellsP5
import Derived.Test.YtjlehbennimkgabOrderTellsP6
import Derived.Test.YtjlehbennimkgabOrderTellsP9
set_option linter.unusedVariables false
set_option linter.unusedSimpArgs false
/- Which machines can take a task. -/
namespace Go.Abs
open Go

abbrev hG:=aGA×Bool×Int
def aFY {α β:Type} (a:List α×β):Prop:=L20 a.1
def aIE (a:List zO×zO):Bool:=a.1.any fun x=>decide (x=a.2)
def aGZ (a:List zO×List zO):Bool:=a.2.all fun w=>aIE (a.1,w)
def aEZ (jobs:List aS) (n:ByteArray):List fV:=(jobs.filter fun j=>decide (j.2.2.1=n)).map fun j=>j.1.2.2.2.1
def aD7 (a:hG×List aS):fV×Int :=
 if (aGM (aEZ a.2 a.1.1.1)).2≠0 then (yJ,(aGM (aEZ a.2 a.1.1.1)).2) else aID (a.1.1.2.1,(aGM (aEZ a.2 a.1.1.1)).1)
def aEG (a:aS×hG×iU):Bool :=
 decide (¬a.2.2.2.2.2.2.2.1=ByteArray.empty∧a.1.2.2.1=a.2.1.1.1∧¬a.1.1.1=a.2.2.1∧a.1.1.2.2.2.2.2.1=a.2.2.2.2.2.2.2.1)
def aC3 (a:List aS×hG×iU):Bool:=a.1.any fun j=>aEG (j,a.2)
def aHD (a:hG×List aS×iU):Int :=
 if ¬((aD7 (a.1,a.2.1)).2=0∧aG9 a.1.1=true∧aHR a.2.2=true) then 5 else
 if ¬a.1.2.1=true then 1 else
 if ¬aGZ (a.1.1.2.2,a.2.2.2.2.2.2.1)=true then 2 else
 if aC3 (a.2.1,a.1,a.2.2)=true then 3 else
 if ¬aGE (a.2.2.2.2.2.1,(aD7 (a.1,a.2.1)).1)=true then 4 else 0
end Go.Abs

-- interregnum/res.Sub
namespace Go.Abs
open Go
end Go.Abs

/- interregnum/res.Sub -/
namespace Go.Abs
open Go
set_option linter.unusedVariables false
end Go.Abs

-- slices.Index[[]interregnum/api.Label,interregnum/api.Label]
namespace Go.Abs
open Go
end Go.Abs

/- slices.Index[[]interregnum/api.Label,interregnum/api.Label] -/
namespace Go.Abs
open Go
set_option linter.unusedVariables false
end Go.Abs

-- slices.Contains[[]interregnum/api.Label,interregnum/api.Label]
namespace Go.Abs
open Go
end Go.Abs

/- slices.Contains[[]interregnum/api.Label,interregnum/api.Label] -/
namespace Go.Abs
open Go
set_option linter.unusedVariables false
end Go.Abs

-- interregnum/ident.Has
namespace Go.Abs
open Go
end Go.Abs

/- interregnum/ident.Has -/
namespace Go.Abs
open Go
set_option linter.unusedVariables false
end Go.Abs

-- interregnum/feas.Free
namespace Go.Abs
open Go
end Go.Abs

/- interregnum/feas.Free -/
namespace Go.Abs
open Go
set_option linter.unusedVariables false
end Go.Abs

-- interregnum/feas.bothers
namespace Go.Abs
open Go
end Go.Abs

/- interregnum/feas.bothers -/
namespace Go.Abs
open Go
set_option linter.unusedVariables false
end Go.Abs

-- interregnum/feas.Why$1
namespace Go.Abs
open Go
end Go.Abs

/- interregnum/feas.Why$1 -/
namespace Go.Abs
open Go
set_option linter.unusedVariables false
end Go.Abs

-- slices.IndexFunc[[]interregnum/api.Job,interregnum/api.Job]#1
namespace Go.Abs
open Go
end Go.Abs

/- slices.IndexFunc[[]interregnum/api.Job,interregnum/api.Job]#1 -/
namespace Go.Abs
open Go
set_option linter.unusedVariables false
end Go.Abs

-- slices.ContainsFunc[[]interregnum/api.Job,interregnum/api.Job]
namespace Go.Abs
open Go
end Go.Abs

/- slices.ContainsFunc[[]interregnum/api.Job,interregnum/api.Job] -/
namespace Go.Abs
open Go
set_option linter.unusedVariables false
end Go.Abs

-- interregnum/feas.Why
namespace Go.Abs
open Go
end Go.Abs

/- interregnum/feas.Why -/
namespace Go.Abs
open Go
set_option linter.unusedVariables false
end Go.Abs

/- Which machines can take a task: what the code asks is so. -/
namespace Go.Abs
open Go
end Go.Abs
