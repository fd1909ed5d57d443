/- Functions, and what the code asks of them: PModel. -/
import Derived.KernelRfl
import Derived.Test.YtjlehbennimkgabOrderGangsP4
import Derived.Test.YtjlehbennimkgabOrderGangsP5
set_option linter.unusedVariables false
set_option linter.unusedSimpArgs false
namespace Go.Abs
open Go
abbrev fQ:=Int×Int×Int
abbrev yA:=ByteArray×ByteArray
abbrev aGC:=ByteArray×fQ×List yA
abbrev iI:=ByteArray×ByteArray×Int×fQ×List yA×ByteArray×ByteArray×Int
abbrev aU:=iI×Int×ByteArray×Int
def slt (a b:ByteArray):Bool:=Op.bytesLess a.toList b.toList
def uQ (s:ByteArray):Bool:=decide (1≤s.size∧s.size≤16)&&(nth s.data.toList 0 0 != 45)&&s.data.toList.all ltr
def okN (n:Int):Bool:=decide (0≤n∧n≤1048576)
def tB (r:fQ):Bool:=okN r.1&&okN r.2.1&&okN r.2.2
def aGZ (l:List yA) (i:Nat):Bool:=uQ (l.getD i default).1&&uQ (l.getD i default).2&&(i==0 || slt (l.getD (i - 1) default).1 (l.getD i default).1)
def aBJ (l:List yA):Bool:=decide (l.length≤4)&&(List.range l.length).all (aGZ l)
def aHA (n:aGC):Bool:=uQ n.1&&tB n.2.1&&aBJ n.2.2
def aDO (s:ByteArray):Bool:=s.size==0 || uQ s
def aG4 (g:ByteArray) (n:Int):Bool:=if g.size=0 then n==0 else decide (2≤n∧n≤4)
def aG0 (t:iI):Bool:=uQ t.1&&uQ t.2.1&&decide (0≤t.2.2.1∧t.2.2.1≤9)&&tB t.2.2.2.1&&aBJ t.2.2.2.2.1&&aDO t.2.2.2.2.2.1&&aDO t.2.2.2.2.2.2.1&&aG4 t.2.2.2.2.2.2.1 t.2.2.2.2.2.2.2
theorem zL {α:Type} [Inhabited α] {l:List α} {i:Nat} (h:i < l.length):l.getD i default∈l:=by
 rw [List.getD_eq_getElem?_getD,List.getElem?_eq_getElem h]
 exact List.getElem_mem h
theorem lV {α:Type} [Inhabited α] {l:List α} {i:Int} (h0:0≤i) (h:i < (l.length:Int)):at_ l i∈l:=zL (by omega)
set_option linter.unusedVariables false
set_option linter.unusedVariables false
set_option linter.unusedVariables false
set_option linter.unusedVariables false
set_option linter.unusedVariables false
set_option linter.unusedVariables false
end Go.Abs
