/- Functions, and what the code asks of them: PModel. -/
import Derived.KernelRfl
import Derived.Test.YtjlehbennimkgabOrderRanksP4
import Derived.Test.YtjlehbennimkgabOrderRanksP5
set_option linter.unusedVariables false
set_option linter.unusedSimpArgs false
/- Names,labels,amounts,machines,queues,tasks: what can be,and their bytes. -/
namespace Go.Abs
open Go
abbrev fP:=Int×Int×Int
abbrev yB:=ByteArray×ByteArray
abbrev aF7:=ByteArray×fP×List yB
abbrev hO:=ByteArray×ByteArray×Int×fP×List yB×ByteArray×ByteArray×Int
abbrev aT:=hO×Int×ByteArray×Int
def slt (a b:ByteArray):Bool:=Op.bytesLess a.toList b.toList
def vN (s:ByteArray):Bool:=decide (1≤s.size∧s.size≤16)&&(nth s.data.toList 0 0 != 45)&&s.data.toList.all ltr
def okN (n:Int):Bool:=decide (0≤n∧n≤1048576)
def tN (r:fP):Bool:=okN r.1&&okN r.2.1&&okN r.2.2
def aHA (l:List yB) (i:Nat):Bool:=vN (l.getD i default).1&&vN (l.getD i default).2&&(i==0 || slt (l.getD (i - 1) default).1 (l.getD i default).1)
def aA3 (l:List yB):Bool:=decide (l.length≤4)&&(List.range l.length).all (aHA l)
def aHH (n:aF7):Bool:=vN n.1&&tN n.2.1&&aA3 n.2.2
def aC4 (s:ByteArray):Bool:=s.size==0 || vN s
def aGZ (g:ByteArray) (n:Int):Bool:=if g.size=0 then n==0 else decide (2≤n∧n≤4)
def aGY (t:hO):Bool:=vN t.1&&vN t.2.1&&decide (0≤t.2.2.1∧t.2.2.1≤9)&&tN t.2.2.2.1&&aA3 t.2.2.2.2.1&&aC4 t.2.2.2.2.2.1&&aC4 t.2.2.2.2.2.2.1&&aGZ t.2.2.2.2.2.2.1 t.2.2.2.2.2.2.2
theorem zM {α:Type} [Inhabited α] {l:List α} {i:Nat} (h:i < l.length):l.getD i default∈l:=by
 rw [List.getD_eq_getElem?_getD,List.getElem?_eq_getElem h]
 exact List.getElem_mem h
theorem hJ {α:Type} [Inhabited α] {l:List α} {i:Int} (h0:0≤i) (h:i < (l.length:Int)):at_ l i∈l:=zM (by omega)
set_option linter.unusedVariables false
set_option linter.unusedVariables false
set_option linter.unusedVariables false
set_option linter.unusedVariables false
set_option linter.unusedVariables false
set_option linter.unusedVariables false
end Go.Abs
