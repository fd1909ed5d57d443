/- Functions, and what the code asks of them: PRef11. -/
import Derived.KernelRfl
import Derived.Test.YtfjnkkfhhalepaaWheelPartsP4
import Derived.Test.YtfjnkkfhhalepaaWheelPartsP5
import Derived.Test.YtfjnkkfhhalepaaWheelPartsP6
import Derived.Test.YtfjnkkfhhalepaaWheelPartsP7
import Derived.Test.YtfjnkkfhhalepaaWheelPartsP8
import Derived.Test.YtfjnkkfhhalepaaWheelPartsP9
import Derived.Test.YtfjnkkfhhalepaaWheelPartsP10
set_option linter.unusedVariables false
set_option linter.unusedSimpArgs false
set_option linter.unusedSectionVars false
namespace Go.Abs
open Go
set_option linter.unusedVariables false
theorem kN {α:Type} [Inhabited α] {l:List α} {i:Nat} (h:i < l.length):l.take (i+1)=l.take i++[l.getD i default]:=by
 rw [lE h,List.take_succ_eq_append_getElem h]
end Go.Abs
