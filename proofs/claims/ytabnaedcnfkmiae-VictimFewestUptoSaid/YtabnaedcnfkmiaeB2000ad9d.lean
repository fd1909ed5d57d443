/- Functions, and what the code asks of them: PModelLaw. -/
import Derived.KernelRfl
import Derived.Test.YtabnaedcnfkmiaeBa1eb4fe3
import Derived.Test.YtabnaedcnfkmiaeB7f17cbe2
import Derived.Test.YtabnaedcnfkmiaeB632c19ef
import Derived.Test.YtabnaedcnfkmiaeBde28f8a9
set_option linter.unusedVariables false
set_option linter.unusedSimpArgs false
-- interregnum/interregnumlaw05.ModelGangs
namespace Go.Abs
open Go
end Go.Abs

/- interregnum/interregnumlaw05.ModelGangs -/
namespace Go.Abs
open Go
set_option linter.unusedVariables false
end Go.Abs

-- interregnum/interregnumlaw05.ModelRights
namespace Go.Abs
open Go
end Go.Abs

/- interregnum/interregnumlaw05.ModelRights -/
namespace Go.Abs
open Go
set_option linter.unusedVariables false
end Go.Abs

/- The laws ModelGangs and ModelRights. -/
namespace Go.Abs
open Go
theorem sum_mem {α : Type} (f : α → Nat) {l : List α} {x : α} (h : x ∈ l) : f x ≤ (l.map f).sum := by
  induction l with
  | nil => cases h
  | cons y l ih =>
    simp only [List.map_cons,List.sum_cons]
    rcases List.mem_cons.1 h with rfl | h
    · omega
    · have := ih h
      omega

theorem lbls_of_size {l : List TLbl} (h : k_sl_api_Label.size l ≤ 1048576) : lbls_pre l := fun x hx => by
  have h1 : k_api_Label.size x ≤ (l.map k_api_Label.size).sum := sum_mem _ hx
  have h2 : (l.map k_api_Label.size).sum + 1 ≤ 1048576 := h
  have h3 : x.1.size + 1 + (x.2.size + 1) + 1 = k_api_Label.size x := rfl
  omega
theorem node_of_size {n : TNode} (h : k_api_Node.size n ≤ 1048576) : node_pre n := by
  have h : n.1.size + 1 + (1 + (1 + 1) + 1 + k_sl_api_Label.size n.2.2) + 1 ≤ 1048576 := h
  exact ⟨by unfold name_pre; omega,lbls_of_size (by omega)⟩
theorem task_of_size {t : TTask} (h : k_api_Task.size t ≤ 1048576) : task_pre t := by
  have h : t.1.size + 1 + (t.2.1.size + 1 + (1 + (1 + (1 + 1) + 1 + (k_sl_api_Label.size t.2.2.2.2.1 + (t.2.2.2.2.2.1.size + 1 + (t.2.2.2.2.2.2.1.size + 1 + 1)))))) + 1 ≤ 1048576 := h
  refine ⟨?_,?_,lbls_of_size (by omega),?_,?_⟩ <;> unfold name_pre <;> omega

end Go.Abs
