/- Functions, and what the code asks of them: PFeasLaw. -/
import Derived.KernelRfl
import Derived.Test.YtabnaedcnfkmiaeB87fed3ff
import Derived.Test.YtabnaedcnfkmiaeBcda9c1b8
import Derived.Test.YtabnaedcnfkmiaeBd5e994aa
import Derived.Test.YtabnaedcnfkmiaeB2313a1b0
import Derived.Test.YtabnaedcnfkmiaeBd55ed18f
import Derived.Test.YtabnaedcnfkmiaeB2973f156
import Derived.Test.YtabnaedcnfkmiaeB7e0a5441
set_option linter.unusedVariables false
set_option linter.unusedSimpArgs false
-- interregnum/interregnumlaw11.FeasRoom
namespace Go.Abs
open Go
end Go.Abs

/- interregnum/interregnumlaw11.FeasRoom -/
namespace Go.Abs
open Go
set_option linter.unusedVariables false
end Go.Abs

-- interregnum/interregnumlaw11.FeasLess
namespace Go.Abs
open Go
end Go.Abs

/- interregnum/interregnumlaw11.FeasLess -/
namespace Go.Abs
open Go
set_option linter.unusedVariables false
end Go.Abs

/- The laws of layer 11. -/
namespace Go.Abs
open Go
theorem why_zero {m : TMach} {l : List TJob} {t : TTask} : whyR (m,l,t) = 0 ↔
    ((freeR (m,l)).2 = 0 ∧ nodeB m.1 = true ∧ taskB t = true) ∧ m.2.1 = true ∧ hasAll (m.1.2.2,t.2.2.2.2.1) = true ∧ ¬ anyBother (l,m,t) = true ∧ fitsR (t.2.2.2.1,(freeR (m,l)).1) = true := by
  unfold whyR
  simp only
  split
  · rename_i h; exact ⟨fun hh => absurd hh (by decide),fun hh => absurd hh.1 h⟩
  · rename_i h
    split
    · rename_i h1; exact ⟨fun hh => absurd hh (by decide),fun hh => absurd hh.2.1 h1⟩
    · rename_i h1
      split
      · rename_i h2; exact ⟨fun hh => absurd hh (by decide),fun hh => absurd hh.2.2.1 h2⟩
      · rename_i h2
        split
        · rename_i h3; exact ⟨fun hh => absurd hh (by decide),fun hh => absurd h3 hh.2.2.2.1⟩
        · rename_i h3
          split
          · rename_i h4; exact ⟨fun hh => absurd hh (by decide),fun hh => absurd hh.2.2.2.2 h4⟩
          · rename_i h4
            exact ⟨fun _ => ⟨Classical.not_not.1 h,Classical.not_not.1 h1,Classical.not_not.1 h2,h3,Classical.not_not.1 h4⟩,fun _ => rfl⟩

theorem sum_len {α : Type} (f : α → Nat) (hf : ∀ x,1 ≤ f x) (l : List α) : l.length ≤ (l.map f).sum := by
  induction l with
  | nil => exact Nat.le_refl _
  | cons x l ih =>
    have := hf x
    simp only [List.map_cons,List.sum_cons,List.length_cons]
    omega

theorem jobs_of_size {l : List TJob} (h : k_sl_api_Job.size l ≤ 1048576) : L20 l := by
  have h1 : (l.map k_api_Job.size).sum + 1 ≤ 1048576 := h
  have h2 := sum_len k_api_Job.size (fun x => Nat.le_add_left 1 _) l
  unfold L20
  omega
theorem lbl_of_size {l : List TLbl} (h : k_sl_api_Label.size l ≤ 1048576) : L20 l := by
  have h1 : (l.map k_api_Label.size).sum + 1 ≤ 1048576 := h
  have h2 := sum_len k_api_Label.size (fun x => Nat.le_add_left 1 _) l
  unfold L20
  omega

theorem mach_of_size {m : TMach} (h : k_api_Machine.size m ≤ 1048576) : node_pre m.1 ∧ L20 m.1.2.2 := by
  have h1 : k_api_Node.size m.1 + (1 + 1) + 1 ≤ 1048576 := h
  have h2 : m.1.1.size + 1 + (1 + (1 + 1) + 1 + k_sl_api_Label.size m.1.2.2) + 1 + (1 + 1) + 1 ≤ 1048576 := h
  exact ⟨node_of_size (by omega),lbl_of_size (by omega)⟩
theorem wants_of_size {t : TTask} (h : k_api_Task.size t ≤ 1048576) : L20 t.2.2.2.2.1 := by
  have h : t.1.size + 1 + (t.2.1.size + 1 + (1 + (1 + (1 + 1) + 1 + (k_sl_api_Label.size t.2.2.2.2.1 + (t.2.2.2.2.2.1.size + 1 + (t.2.2.2.2.2.2.1.size + 1 + 1)))))) + 1 ≤ 1048576 := h
  exact lbl_of_size (by omega)

end Go.Abs
