/- Functions, and what the code asks of them: PObj2. -/
import Derived.Test.YtfjnkkfhhalepaaWheelPartsP4
import Derived.Test.YtfjnkkfhhalepaaWheelPartsP5
import Derived.Test.YtfjnkkfhhalepaaWheelPartsP6
import Derived.Test.YtfjnkkfhhalepaaWheelPartsP7
import Derived.Test.YtfjnkkfhhalepaaWheelPartsP8
import Derived.Test.YtfjnkkfhhalepaaWheelPartsP9
import Derived.Test.YtfjnkkfhhalepaaWheelPartsP10
import Derived.Test.YtfjnkkfhhalepaaWheelPartsP11
import Derived.Test.YtfjnkkfhhalepaaWheelPartsP12
import Derived.Test.YtfjnkkfhhalepaaWheelPartsP15
import Derived.Test.YtfjnkkfhhalepaaWheelPartsP16
import Derived.Test.YtfjnkkfhhalepaaWheelPartsP17
import Derived.Test.YtfjnkkfhhalepaaWheelPartsP18
import Derived.Test.YtfjnkkfhhalepaaWheelPartsP20
set_option linter.unusedVariables false
set_option linter.unusedSimpArgs false
set_option linter.unusedSectionVars false
namespace Go.Abs
open Go
theorem aF9 {A:Type}:∀ (ks:List ByteArray) (l:List (ByteArray×A)),ks.foldl pG l=l.filter fun x=>ks.all fun y=>decide (x.1≠y)
 | [],_=>(List.filter_eq_self.2 fun _ _=>rfl).symm
 | k::ks,l=>by
  rw [List.foldl_cons,aF9 ks]
  unfold pG
  rw [List.filter_filter]
  refine List.filter_congr fun x _=>?_
  rw [List.all_cons,Bool.and_comm]
theorem aD5 {α:Type} [Inhabited α] {l:List α} {i:Int} (h:0≤i) (h1:i≤(l.length:Int)) (h2:¬i < (l.length:Int)):l.take i.toNat=l:=by
 rw [show i.toNat=l.length by omega,List.take_length]
end Go.Abs
