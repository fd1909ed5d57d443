/- Functions, and what the code asks of them: PFeasLaw. -/
import Derived.KernelRfl
import Derived.Test.YtabnaedcnfkmiaeBa1eb4fe3
import Derived.Test.YtabnaedcnfkmiaeB7f17cbe2
import Derived.Test.YtabnaedcnfkmiaeB632c19ef
import Derived.Test.YtabnaedcnfkmiaeBde28f8a9
import Derived.Test.YtabnaedcnfkmiaeB2000ad9d
import Derived.Test.YtabnaedcnfkmiaeB1bc422e5
import Derived.Test.YtabnaedcnfkmiaeBd10b95f7
set_option linter.unusedVariables false
set_option linter.unusedSimpArgs false
-- interregnum/interregnumlaw11.FeasRoom
namespace Go.Abs
open Go
end Go.Abs

/- interregnum/interregnumlaw11.FeasRoom -/
namespace Go.Abs
open Go
set_option linter.unusedVariables false
end Go.Abs

-- interregnum/interregnumlaw11.FeasLess
namespace Go.Abs
open Go
end Go.Abs

/- interregnum/interregnumlaw11.FeasLess -/
namespace Go.Abs
open Go
set_option linter.unusedVariables false
end Go.Abs

/- The laws of layer 11. -/
namespace Go.Abs
open Go
theorem sum_len {α : Type} (f : α → Nat) (hf : ∀ x,1 ≤ f x) (l : List α) : l.length ≤ (l.map f).sum := by
  induction l with
  | nil => exact Nat.le_refl _
  | cons x l ih =>
    have := hf x
    simp only [List.map_cons,List.sum_cons,List.length_cons]
    omega

theorem jobs_of_size {l : List TJob} (h : k_sl_api_Job.size l ≤ 1048576) : L20 l := by
  have h1 : (l.map k_api_Job.size).sum + 1 ≤ 1048576 := h
  have h2 := sum_len k_api_Job.size (fun x => Nat.le_add_left 1 _) l
  unfold L20
  omega
theorem lbl_of_size {l : List TLbl} (h : k_sl_api_Label.size l ≤ 1048576) : L20 l := by
  have h1 : (l.map k_api_Label.size).sum + 1 ≤ 1048576 := h
  have h2 := sum_len k_api_Label.size (fun x => Nat.le_add_left 1 _) l
  unfold L20
  omega

theorem mach_of_size {m : TMach} (h : k_api_Machine.size m ≤ 1048576) : node_pre m.1 ∧ L20 m.1.2.2 := by
  have h1 : k_api_Node.size m.1 + (1 + 1) + 1 ≤ 1048576 := h
  have h2 : m.1.1.size + 1 + (1 + (1 + 1) + 1 + k_sl_api_Label.size m.1.2.2) + 1 + (1 + 1) + 1 ≤ 1048576 := h
  exact ⟨node_of_size (by omega),lbl_of_size (by omega)⟩
theorem wants_of_size {t : TTask} (h : k_api_Task.size t ≤ 1048576) : L20 t.2.2.2.2.1 := by
  have h : t.1.size + 1 + (t.2.1.size + 1 + (1 + (1 + (1 + 1) + 1 + (k_sl_api_Label.size t.2.2.2.2.1 + (t.2.2.2.2.2.1.size + 1 + (t.2.2.2.2.2.2.1.size + 1 + 1)))))) + 1 ≤ 1048576 := h
  exact lbl_of_size (by omega)

end Go.Abs
