/- Functions, and what the code asks of them: PRef11. -/
import Derived.KernelRfl
import Derived.Test.YtjlehbennimkgaaIdentSortedP4
import Derived.Test.YtjlehbennimkgaaIdentSortedP5
import Derived.Test.YtjlehbennimkgaaIdentSortedP6
import Derived.Test.YtjlehbennimkgaaIdentSortedP9
import Derived.Test.YtjlehbennimkgaaIdentSortedP11
import Derived.Test.YtjlehbennimkgaaIdentSortedP13
import Derived.Test.YtjlehbennimkgaaIdentSortedP14
import Derived.Test.YtjlehbennimkgaaIdentSortedP15
set_option linter.unusedVariables false
set_option linter.unusedSimpArgs false
namespace Go.Abs
open Go
set_option linter.unusedVariables false
set_option linter.unusedVariables false
theorem vY {α:Type} [Inhabited α] {l:List α} {i:Nat} (h:i < l.length):l.take (i+1)=l.take i++[l.getD i default]:=by
 rw [fW h,List.take_succ_eq_append_getElem h]
end Go.Abs
