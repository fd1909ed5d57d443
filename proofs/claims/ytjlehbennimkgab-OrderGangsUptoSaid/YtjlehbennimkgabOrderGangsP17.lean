/- Functions, and what the code asks of them: PRef11. -/
import Derived.KernelRfl
import Derived.Test.YtjlehbennimkgabOrderGangsP4
import Derived.Test.YtjlehbennimkgabOrderGangsP5
import Derived.Test.YtjlehbennimkgabOrderGangsP6
import Derived.Test.YtjlehbennimkgabOrderGangsP9
import Derived.Test.YtjlehbennimkgabOrderGangsP10
import Derived.Test.YtjlehbennimkgabOrderGangsP12
import Derived.Test.YtjlehbennimkgabOrderGangsP13
import Derived.Test.YtjlehbennimkgabOrderGangsP14
set_option linter.unusedVariables false
set_option linter.unusedSimpArgs false
namespace Go.Abs
open Go
set_option linter.unusedVariables false
set_option linter.unusedVariables false
theorem pJ {α:Type} [Inhabited α] {l:List α} {i:Nat} (h:i < l.length):l.take (i+1)=l.take i++[l.getD i default]:=by
 rw [eF h,List.take_succ_eq_append_getElem h]
end Go.Abs
