/- Functions, and what the code asks of them: PModelLaw. -/
import Derived.KernelRfl
import Derived.Test.YtabnaedcnfkmiacBf2d90475
import Derived.Test.YtabnaedcnfkmiacB6cf658f3
import Derived.Test.YtabnaedcnfkmiacB15b57a28
import Derived.Test.YtabnaedcnfkmiacBeeb34091
set_option linter.unusedVariables false
set_option linter.unusedSimpArgs false
-- interregnum/interregnumlaw05.ModelGangs
namespace Go.Abs
open Go
end Go.Abs

/- interregnum/interregnumlaw05.ModelGangs -/
namespace Go.Abs
open Go
set_option linter.unusedVariables false
end Go.Abs

-- interregnum/interregnumlaw05.ModelRights
namespace Go.Abs
open Go
end Go.Abs

/- interregnum/interregnumlaw05.ModelRights -/
namespace Go.Abs
open Go
set_option linter.unusedVariables false
end Go.Abs

/- The laws ModelGangs and ModelRights. -/
namespace Go.Abs
open Go

theorem f22.ok (a : Unit) (_ : True) : f22.vc a := by
  have hq : queueB (f22.s0, ((0 : Int), (0 : Int), (0 : Int))) = true := by decide +kernel
  have hq1 : queueB (f22.s0, ((1 : Int), (0 : Int), (0 : Int))) = true := by decide +kernel
  have e : putQueue (ByteArray.empty, (f22.s0, ((1 : Int), (0 : Int), (0 : Int)))) = ⟨#[1, 1, 113, 1, 1, 0, 0]⟩ := by
    unfold putQueue queueS
    simp only
    rw [if_pos hq1, empty_app]
    apply bytes_ext
    decide +kernel
  unfold f22.vc
  rw [e]
  refine ⟨⟨Nat.le_of_ble_eq_true rfl, Nat.le_of_ble_eq_true rfl⟩, Nat.le_of_ble_eq_true rfl, fun _ => ⟨fun _ => ⟨by decide, rfl⟩, fun h => absurd (by decide) h⟩, fun h => absurd hq h⟩

end Go.Abs
