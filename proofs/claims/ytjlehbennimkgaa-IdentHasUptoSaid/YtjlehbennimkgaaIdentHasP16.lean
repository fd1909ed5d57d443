/- Functions, and what the code asks of them: PRef11. -/
import Derived.KernelRfl
import Derived.Test.YtjlehbennimkgaaIdentHasP4
import Derived.Test.YtjlehbennimkgaaIdentHasP5
import Derived.Test.YtjlehbennimkgaaIdentHasP6
import Derived.Test.YtjlehbennimkgaaIdentHasP9
import Derived.Test.YtjlehbennimkgaaIdentHasP11
import Derived.Test.YtjlehbennimkgaaIdentHasP13
import Derived.Test.YtjlehbennimkgaaIdentHasP14
import Derived.Test.YtjlehbennimkgaaIdentHasP15
set_option linter.unusedVariables false
set_option linter.unusedSimpArgs false
namespace Go.Abs
open Go
set_option linter.unusedVariables false
set_option linter.unusedVariables false
theorem vF {α:Type} [Inhabited α] {l:List α} {i:Nat} (h:i < l.length):l.take (i+1)=l.take i++[l.getD i default]:=by
 rw [gP h,List.take_succ_eq_append_getElem h]
end Go.Abs
