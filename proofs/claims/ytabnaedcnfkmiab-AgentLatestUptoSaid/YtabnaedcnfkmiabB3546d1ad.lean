/- Functions, and what the code asks of them: PFeasLaw. -/
import Derived.KernelRfl
import Derived.Test.YtabnaedcnfkmiabB37aea0bf
import Derived.Test.YtabnaedcnfkmiabB11639c58
import Derived.Test.YtabnaedcnfkmiabBafceca8d
import Derived.Test.YtabnaedcnfkmiabB99e8e87d
import Derived.Test.YtabnaedcnfkmiabB4237630a
import Derived.Test.YtabnaedcnfkmiabB30e92804
import Derived.Test.YtabnaedcnfkmiabBa82c8e14
set_option linter.unusedVariables false
set_option linter.unusedSimpArgs false
-- interregnum/interregnumlaw11.FeasRoom
namespace Go.Abs
open Go
end Go.Abs

/- interregnum/interregnumlaw11.FeasRoom -/
namespace Go.Abs
open Go
set_option linter.unusedVariables false
end Go.Abs

-- interregnum/interregnumlaw11.FeasLess
namespace Go.Abs
open Go
end Go.Abs

/- interregnum/interregnumlaw11.FeasLess -/
namespace Go.Abs
open Go
set_option linter.unusedVariables false
end Go.Abs

/- The laws of layer 11. -/
namespace Go.Abs
open Go
theorem sum_len {α : Type} (f : α → Nat) (hf : ∀ x,1 ≤ f x) (l : List α) : l.length ≤ (l.map f).sum := by
  induction l with
  | nil => exact Nat.le_refl _
  | cons x l ih =>
    have := hf x
    simp only [List.map_cons,List.sum_cons,List.length_cons]
    omega

end Go.Abs
