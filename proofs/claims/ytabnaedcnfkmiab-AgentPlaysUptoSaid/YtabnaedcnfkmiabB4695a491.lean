/- Functions, and what the code asks of them: PFeasLaw. -/
import Derived.KernelRfl
import Derived.Test.YtabnaedcnfkmiabB420da234
import Derived.Test.YtabnaedcnfkmiabBdde4a7e0
import Derived.Test.YtabnaedcnfkmiabB2f180270
import Derived.Test.YtabnaedcnfkmiabB938ec0bd
import Derived.Test.YtabnaedcnfkmiabB872cdef4
import Derived.Test.YtabnaedcnfkmiabB1e81482d
import Derived.Test.YtabnaedcnfkmiabBf4f7d9c5
set_option linter.unusedVariables false
set_option linter.unusedSimpArgs false
-- interregnum/interregnumlaw11.FeasRoom
namespace Go.Abs
open Go
end Go.Abs

/- interregnum/interregnumlaw11.FeasRoom -/
namespace Go.Abs
open Go
set_option linter.unusedVariables false
end Go.Abs

-- interregnum/interregnumlaw11.FeasLess
namespace Go.Abs
open Go
end Go.Abs

/- interregnum/interregnumlaw11.FeasLess -/
namespace Go.Abs
open Go
set_option linter.unusedVariables false
end Go.Abs

/- The laws of layer 11. -/
namespace Go.Abs
open Go
theorem sum_len {α : Type} (f : α → Nat) (hf : ∀ x,1 ≤ f x) (l : List α) : l.length ≤ (l.map f).sum := by
  induction l with
  | nil => exact Nat.le_refl _
  | cons x l ih =>
    have := hf x
    simp only [List.map_cons,List.sum_cons,List.length_cons]
    omega

end Go.Abs
