/- Functions, and what the code asks of them: PModel. -/
import Derived.KernelRfl
import Derived.Test.YtjlehbennimkgabOrderTellsP4
import Derived.Test.YtjlehbennimkgabOrderTellsP5
set_option linter.unusedVariables false
set_option linter.unusedSimpArgs false
/- Names,labels,amounts,machines,queues,tasks: what can be,and their bytes. -/
namespace Go.Abs
open Go

abbrev fV:=Int×Int×Int
abbrev zO:=ByteArray×ByteArray
abbrev aGA:=ByteArray×fV×List zO
abbrev iU:=ByteArray×ByteArray×Int×fV×List zO×ByteArray×ByteArray×Int
abbrev aS:=iU×Int×ByteArray×Int

def slt (a b:ByteArray):Bool:=Op.bytesLess a.toList b.toList
def v3 (s:ByteArray):Bool:=decide (1≤s.size∧s.size≤16)&&(nth s.data.toList 0 0 != 45)&&s.data.toList.all ltr
def okN (n:Int):Bool:=decide (0≤n∧n≤1048576)
def sM (r:fV):Bool:=okN r.1&&okN r.2.1&&okN r.2.2
def aHI (l:List zO) (i:Nat):Bool:=v3 (l.getD i default).1&&v3 (l.getD i default).2&&(i==0 || slt (l.getD (i - 1) default).1 (l.getD i default).1)
def aB0 (l:List zO):Bool:=decide (l.length≤4)&&(List.range l.length).all (aHI l)
def aG9 (n:aGA):Bool:=v3 n.1&&sM n.2.1&&aB0 n.2.2
def aEC (s:ByteArray):Bool:=s.size==0 || v3 s
def aHA (g:ByteArray) (n:Int):Bool:=if g.size=0 then n==0 else decide (2≤n∧n≤4)
def aHR (t:iU):Bool:=v3 t.1&&v3 t.2.1&&decide (0≤t.2.2.1∧t.2.2.1≤9)&&sM t.2.2.2.1&&aB0 t.2.2.2.2.1&&aEC t.2.2.2.2.2.1&&aEC t.2.2.2.2.2.2.1&&aHA t.2.2.2.2.2.2.1 t.2.2.2.2.2.2.2

end Go.Abs

/- Names,labels,bytes of tasks: plain facts. -/
namespace Go.Abs
open Go
theorem xW {α:Type} [Inhabited α] {l:List α} {i:Nat} (h:i < l.length):l.getD i default∈l:=by
 rw [List.getD_eq_getElem?_getD,List.getElem?_eq_getElem h]
 exact List.getElem_mem h

theorem iI {α:Type} [Inhabited α] {l:List α} {i:Int} (h0:0≤i) (h:i < (l.length:Int)):at_ l i∈l:=xW (by omega)

end Go.Abs

-- interregnum/ident.Name
namespace Go.Abs
open Go
end Go.Abs

/- interregnum/ident.Name -/
namespace Go.Abs
open Go
set_option linter.unusedVariables false
end Go.Abs

-- interregnum/interregnumref04.Name
namespace Go.Abs
open Go
end Go.Abs

/- interregnum/interregnumref04.Name -/
namespace Go.Abs
open Go
set_option linter.unusedVariables false
end Go.Abs

-- interregnum/ident.Labels
namespace Go.Abs
open Go
end Go.Abs

/- interregnum/ident.Labels -/
namespace Go.Abs
open Go
set_option linter.unusedVariables false
end Go.Abs

-- interregnum/interregnumref04.Labels
namespace Go.Abs
open Go
end Go.Abs

/- interregnum/interregnumref04.Labels -/
namespace Go.Abs
open Go
set_option linter.unusedVariables false
end Go.Abs

-- interregnum/res.Right
namespace Go.Abs
open Go
end Go.Abs

/- interregnum/res.Right -/
namespace Go.Abs
open Go
set_option linter.unusedVariables false
end Go.Abs

-- interregnum/interregnumref03.Right
namespace Go.Abs
open Go
end Go.Abs

/- interregnum/interregnumref03.Right -/
namespace Go.Abs
open Go
set_option linter.unusedVariables false
end Go.Abs

-- interregnum/model.Node
namespace Go.Abs
open Go
end Go.Abs

/- interregnum/model.Node -/
namespace Go.Abs
open Go
set_option linter.unusedVariables false
end Go.Abs

-- interregnum/interregnumref05.Node
namespace Go.Abs
open Go
end Go.Abs

/- interregnum/interregnumref05.Node -/
namespace Go.Abs
open Go
set_option linter.unusedVariables false
end Go.Abs

-- interregnum/model.maybe
namespace Go.Abs
open Go
end Go.Abs

/- interregnum/model.maybe -/
namespace Go.Abs
open Go
set_option linter.unusedVariables false
end Go.Abs

-- interregnum/model.Task
namespace Go.Abs
open Go
end Go.Abs

/- interregnum/model.Task -/
namespace Go.Abs
open Go
set_option linter.unusedVariables false
end Go.Abs

-- interregnum/interregnumref05.Task
namespace Go.Abs
open Go
end Go.Abs

/- interregnum/interregnumref05.Task -/
namespace Go.Abs
open Go
set_option linter.unusedVariables false
end Go.Abs

/- Names,labels,tasks: what the code asks is so. -/
namespace Go.Abs
open Go
end Go.Abs
