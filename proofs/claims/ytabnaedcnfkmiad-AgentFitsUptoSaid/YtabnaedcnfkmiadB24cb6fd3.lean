/- Functions, and what the code asks of them: PFeasLaw. -/
import Derived.KernelRfl
import Derived.Test.YtabnaedcnfkmiadB4c9c6f61
import Derived.Test.YtabnaedcnfkmiadB75c84e37
import Derived.Test.YtabnaedcnfkmiadB0354929c
import Derived.Test.YtabnaedcnfkmiadBfd83db68
import Derived.Test.YtabnaedcnfkmiadBd51596f7
import Derived.Test.YtabnaedcnfkmiadBe6284447
import Derived.Test.YtabnaedcnfkmiadB8bdfae8a
set_option linter.unusedVariables false
set_option linter.unusedSimpArgs false
-- interregnum/interregnumlaw11.FeasRoom
namespace Go.Abs
open Go
end Go.Abs

/- interregnum/interregnumlaw11.FeasRoom -/
namespace Go.Abs
open Go
set_option linter.unusedVariables false
end Go.Abs

-- interregnum/interregnumlaw11.FeasLess
namespace Go.Abs
open Go
end Go.Abs

/- interregnum/interregnumlaw11.FeasLess -/
namespace Go.Abs
open Go
set_option linter.unusedVariables false
end Go.Abs

/- The laws of layer 11. -/
namespace Go.Abs
open Go

theorem sub_ok {a b : TRes} : (subR (a,b)).2 = 0 ↔ rightB a = true ∧ rightB b = true ∧ rightB (subV a b) = true := by
  have hne : ¬ ((-1 : Int) = 1) := by decide
  unfold subR bothR
  simp only [hne,if_false]
  by_cases h : rightB a = true ∧ rightB b = true
  · rw [if_neg (not_not_intro h)]
    by_cases h2 : rightB (subV a b) = true
    · rw [if_pos h2]; exact ⟨fun _ => ⟨h.1,h.2,h2⟩,fun _ => rfl⟩
    · rw [if_neg h2]
      exact ⟨fun hh => absurd hh (show ¬ (6 : Int) = 0 by decide),fun hh => absurd hh.2.2 h2⟩
  · rw [if_pos h]
    exact ⟨fun hh => absurd hh (show ¬ (1 : Int) = 0 by decide),fun hh => absurd (And.intro hh.1 hh.2.1) h⟩

theorem free_ok {m : TMach} {l : List TJob} : (freeR (m,l)).2 = 0 ↔ (sumR (bindL l m.1.1)).2 = 0 ∧ (subR (m.1.2.1,(sumR (bindL l m.1.1)).1)).2 = 0 := by
  unfold freeR
  simp only
  by_cases h : (sumR (bindL l m.1.1)).2 = 0
  · rw [if_neg (not_not_intro h)]
    exact ⟨fun hh => ⟨h,hh⟩,fun hh => hh.2⟩
  · rw [if_pos h]
    exact ⟨fun hh => absurd hh h,fun hh => absurd hh.1 h⟩

theorem sum_len {α : Type} (f : α → Nat) (hf : ∀ x,1 ≤ f x) (l : List α) : l.length ≤ (l.map f).sum := by
  induction l with
  | nil => exact Nat.le_refl _
  | cons x l ih =>
    have := hf x
    simp only [List.map_cons,List.sum_cons,List.length_cons]
    omega

theorem lbl_of_size {l : List TLbl} (h : k_sl_api_Label.size l ≤ 1048576) : L20 l := by
  have h1 : (l.map k_api_Label.size).sum + 1 ≤ 1048576 := h
  have h2 := sum_len k_api_Label.size (fun x => Nat.le_add_left 1 _) l
  unfold L20
  omega

theorem mach_of_size {m : TMach} (h : k_api_Machine.size m ≤ 1048576) : node_pre m.1 ∧ L20 m.1.2.2 := by
  have h1 : k_api_Node.size m.1 + (1 + 1) + 1 ≤ 1048576 := h
  have h2 : m.1.1.size + 1 + (1 + (1 + 1) + 1 + k_sl_api_Label.size m.1.2.2) + 1 + (1 + 1) + 1 ≤ 1048576 := h
  exact ⟨node_of_size (by omega),lbl_of_size (by omega)⟩
theorem wants_of_size {t : TTask} (h : k_api_Task.size t ≤ 1048576) : L20 t.2.2.2.2.1 := by
  have h : t.1.size + 1 + (t.2.1.size + 1 + (1 + (1 + (1 + 1) + 1 + (k_sl_api_Label.size t.2.2.2.2.1 + (t.2.2.2.2.2.1.size + 1 + (t.2.2.2.2.2.2.1.size + 1 + 1)))))) + 1 ≤ 1048576 := h
  exact lbl_of_size (by omega)

end Go.Abs
