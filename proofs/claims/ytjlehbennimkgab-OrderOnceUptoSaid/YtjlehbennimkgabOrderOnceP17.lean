/- Functions, and what the code asks of them: PRef11. -/
import Derived.KernelRfl
import Derived.Test.YtjlehbennimkgabOrderOnceP4
import Derived.Test.YtjlehbennimkgabOrderOnceP5
import Derived.Test.YtjlehbennimkgabOrderOnceP6
import Derived.Test.YtjlehbennimkgabOrderOnceP9
import Derived.Test.YtjlehbennimkgabOrderOnceP10
import Derived.Test.YtjlehbennimkgabOrderOnceP12
import Derived.Test.YtjlehbennimkgabOrderOnceP13
import Derived.Test.YtjlehbennimkgabOrderOnceP14
set_option linter.unusedVariables false
set_option linter.unusedSimpArgs false
namespace Go.Abs
open Go
set_option linter.unusedVariables false
set_option linter.unusedVariables false
theorem pQ {α:Type} [Inhabited α] {l:List α} {i:Nat} (h:i < l.length):l.take (i+1)=l.take i++[l.getD i default]:=by
 rw [cW h,List.take_succ_eq_append_getElem h]
end Go.Abs
