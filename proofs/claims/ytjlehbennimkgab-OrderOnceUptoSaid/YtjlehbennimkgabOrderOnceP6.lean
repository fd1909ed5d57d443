/- Functions, and what the code asks of them: PModel. -/
import Derived.KernelRfl
import Derived.Test.YtjlehbennimkgabOrderOnceP4
import Derived.Test.YtjlehbennimkgabOrderOnceP5
set_option linter.unusedVariables false
set_option linter.unusedSimpArgs false
namespace Go.Abs
open Go
abbrev fO:=Int×Int×Int
abbrev zP:=ByteArray×ByteArray
abbrev aGG:=ByteArray×fO×List zP
abbrev hZ:=ByteArray×ByteArray×Int×fO×List zP×ByteArray×ByteArray×Int
abbrev aU:=hZ×Int×ByteArray×Int
def slt (a b:ByteArray):Bool:=Op.bytesLess a.toList b.toList
def u6 (s:ByteArray):Bool:=decide (1≤s.size∧s.size≤16)&&(nth s.data.toList 0 0 != 45)&&s.data.toList.all ltr
def okN (n:Int):Bool:=decide (0≤n∧n≤1048576)
def rV (r:fO):Bool:=okN r.1&&okN r.2.1&&okN r.2.2
def aHI (l:List zP) (i:Nat):Bool:=u6 (l.getD i default).1&&u6 (l.getD i default).2&&(i==0 || slt (l.getD (i - 1) default).1 (l.getD i default).1)
def aBI (l:List zP):Bool:=decide (l.length≤4)&&(List.range l.length).all (aHI l)
def aHN (n:aGG):Bool:=u6 n.1&&rV n.2.1&&aBI n.2.2
def aEG (s:ByteArray):Bool:=s.size==0 || u6 s
def aHP (g:ByteArray) (n:Int):Bool:=if g.size=0 then n==0 else decide (2≤n∧n≤4)
def aG9 (t:hZ):Bool:=u6 t.1&&u6 t.2.1&&decide (0≤t.2.2.1∧t.2.2.1≤9)&&rV t.2.2.2.1&&aBI t.2.2.2.2.1&&aEG t.2.2.2.2.2.1&&aEG t.2.2.2.2.2.2.1&&aHP t.2.2.2.2.2.2.1 t.2.2.2.2.2.2.2
theorem xV {α:Type} [Inhabited α] {l:List α} {i:Nat} (h:i < l.length):l.getD i default∈l:=by
 rw [List.getD_eq_getElem?_getD,List.getElem?_eq_getElem h]
 exact List.getElem_mem h
theorem jL {α:Type} [Inhabited α] {l:List α} {i:Int} (h0:0≤i) (h:i < (l.length:Int)):at_ l i∈l:=xV (by omega)
set_option linter.unusedVariables false
set_option linter.unusedVariables false
set_option linter.unusedVariables false
set_option linter.unusedVariables false
set_option linter.unusedVariables false
set_option linter.unusedVariables false
end Go.Abs
