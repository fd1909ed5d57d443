/- Functions, and what the code asks of them: PObj2. -/
import Derived.Test.YtfjnkkfhhalepaaWheelNilP4
import Derived.Test.YtfjnkkfhhalepaaWheelNilP5
import Derived.Test.YtfjnkkfhhalepaaWheelNilP6
import Derived.Test.YtfjnkkfhhalepaaWheelNilP7
import Derived.Test.YtfjnkkfhhalepaaWheelNilP8
import Derived.Test.YtfjnkkfhhalepaaWheelNilP9
import Derived.Test.YtfjnkkfhhalepaaWheelNilP10
import Derived.Test.YtfjnkkfhhalepaaWheelNilP11
import Derived.Test.YtfjnkkfhhalepaaWheelNilP12
import Derived.Test.YtfjnkkfhhalepaaWheelNilP15
import Derived.Test.YtfjnkkfhhalepaaWheelNilP16
import Derived.Test.YtfjnkkfhhalepaaWheelNilP17
import Derived.Test.YtfjnkkfhhalepaaWheelNilP18
import Derived.Test.YtfjnkkfhhalepaaWheelNilP20
set_option linter.unusedVariables false
set_option linter.unusedSimpArgs false
set_option linter.unusedSectionVars false
namespace Go.Abs
open Go
theorem aFO {A:Type}:∀ (ks:List ByteArray) (l:List (ByteArray×A)),ks.foldl sV l=l.filter fun x=>ks.all fun y=>decide (x.1≠y)
 | [],_=>(List.filter_eq_self.2 fun _ _=>rfl).symm
 | k::ks,l=>by
  rw [List.foldl_cons,aFO ks]
  unfold sV
  rw [List.filter_filter]
  refine List.filter_congr fun x _=>?_
  rw [List.all_cons,Bool.and_comm]
end Go.Abs
