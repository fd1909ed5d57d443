/- Functions, and what the code asks of them: PRef11. -/
import Derived.KernelRfl
import Derived.Test.YtjlehbennimkgabOrderRanksP4
import Derived.Test.YtjlehbennimkgabOrderRanksP5
import Derived.Test.YtjlehbennimkgabOrderRanksP6
import Derived.Test.YtjlehbennimkgabOrderRanksP9
import Derived.Test.YtjlehbennimkgabOrderRanksP10
import Derived.Test.YtjlehbennimkgabOrderRanksP12
import Derived.Test.YtjlehbennimkgabOrderRanksP13
import Derived.Test.YtjlehbennimkgabOrderRanksP14
set_option linter.unusedVariables false
set_option linter.unusedSimpArgs false
/- Texts,one by one. -/
namespace Go.Abs
open Go
set_option linter.unusedVariables false
set_option linter.unusedVariables false
theorem p8 {α:Type} [Inhabited α] {l:List α} {i:Nat} (h:i < l.length):l.take (i+1)=l.take i++[l.getD i default]:=by
 rw [dR h,List.take_succ_eq_append_getElem h]
end Go.Abs
