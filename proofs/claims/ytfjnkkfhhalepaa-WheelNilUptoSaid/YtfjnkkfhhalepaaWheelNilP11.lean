/- Functions, and what the code asks of them: PRef11. -/
import Derived.KernelRfl
import Derived.Test.YtfjnkkfhhalepaaWheelNilP4
import Derived.Test.YtfjnkkfhhalepaaWheelNilP5
import Derived.Test.YtfjnkkfhhalepaaWheelNilP6
import Derived.Test.YtfjnkkfhhalepaaWheelNilP7
import Derived.Test.YtfjnkkfhhalepaaWheelNilP8
import Derived.Test.YtfjnkkfhhalepaaWheelNilP9
import Derived.Test.YtfjnkkfhhalepaaWheelNilP10
set_option linter.unusedVariables false
set_option linter.unusedSimpArgs false
set_option linter.unusedSectionVars false
namespace Go.Abs
open Go
set_option linter.unusedVariables false
theorem aGI {α:Type} [Inhabited α] {l:List α} {i:Nat} (h:i < l.length):l.take (i+1)=l.take i++[l.getD i default]:=by
 rw [pU h,List.take_succ_eq_append_getElem h]
end Go.Abs
