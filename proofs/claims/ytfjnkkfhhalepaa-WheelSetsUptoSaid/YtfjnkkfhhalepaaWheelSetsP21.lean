/- Functions, and what the code asks of them: PObj2. -/
import Derived.Test.YtfjnkkfhhalepaaWheelSetsP4
import Derived.Test.YtfjnkkfhhalepaaWheelSetsP5
import Derived.Test.YtfjnkkfhhalepaaWheelSetsP6
import Derived.Test.YtfjnkkfhhalepaaWheelSetsP7
import Derived.Test.YtfjnkkfhhalepaaWheelSetsP8
import Derived.Test.YtfjnkkfhhalepaaWheelSetsP9
import Derived.Test.YtfjnkkfhhalepaaWheelSetsP10
import Derived.Test.YtfjnkkfhhalepaaWheelSetsP11
import Derived.Test.YtfjnkkfhhalepaaWheelSetsP12
import Derived.Test.YtfjnkkfhhalepaaWheelSetsP15
import Derived.Test.YtfjnkkfhhalepaaWheelSetsP16
import Derived.Test.YtfjnkkfhhalepaaWheelSetsP17
import Derived.Test.YtfjnkkfhhalepaaWheelSetsP18
import Derived.Test.YtfjnkkfhhalepaaWheelSetsP20
set_option linter.unusedVariables false
set_option linter.unusedSimpArgs false
set_option linter.unusedSectionVars false
namespace Go.Abs
open Go
theorem aJ2 {x y:Bool} (h:x=y):¬(!(x==y))=true:=by subst h; simp
theorem aFY {A:Type}:∀ (ks:List ByteArray) (l:List (ByteArray×A)),ks.foldl iG l=l.filter fun x=>ks.all fun y=>decide (x.1≠y)
 | [],_=>(List.filter_eq_self.2 fun _ _=>rfl).symm
 | k::ks,l=>by
  rw [List.foldl_cons,aFY ks]
  unfold iG
  rw [List.filter_filter]
  refine List.filter_congr fun x _=>?_
  rw [List.all_cons,Bool.and_comm]
theorem aBZ {A:Type} [Inhabited A] {l:List (ByteArray×A)} (h:Rising l) (k:ByteArray) (x z:A):s3 (fY l k x) k z=(x,true):=vC (h.put k x) (jI.2 (.inl ⟨rfl,rfl⟩))
theorem aG6 {A:Type} [Inhabited A] {l:List (ByteArray×A)} (k:ByteArray) (z:A):s3 (iG l k) k z=(z,false):=yG fun _ hx=>(f8.1 hx).2 rfl
theorem aF9 (x y:ByteArray):(x.toList==y.toList)=decide (x=y):=by
 rw [Bool.eq_iff_iff,decide_eq_true_eq]
 exact Cnd.seq.iff
theorem aG4 {x y:Bool} (h:x=!y):¬(x==y)=true:=by subst h; simp
theorem aJZ {α:Type} [Inhabited α] {l:List α} {i:Int} (h:0≤i) (h1:i≤(l.length:Int)) (h2:¬i < (l.length:Int)):l.take i.toNat=l:=by
 rw [show i.toNat=l.length by omega,List.take_length]
end Go.Abs
