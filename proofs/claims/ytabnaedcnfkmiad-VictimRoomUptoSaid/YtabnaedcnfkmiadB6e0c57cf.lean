/- Functions, and what the code asks of them: PFeasLaw. -/
import Derived.KernelRfl
import Derived.Test.YtabnaedcnfkmiadBbd9324c0
import Derived.Test.YtabnaedcnfkmiadB225f5658
import Derived.Test.YtabnaedcnfkmiadB6ae69969
import Derived.Test.YtabnaedcnfkmiadBff102aa7
import Derived.Test.YtabnaedcnfkmiadB9ddb1808
import Derived.Test.YtabnaedcnfkmiadB214306d5
import Derived.Test.YtabnaedcnfkmiadB2a5bb328
set_option linter.unusedVariables false
set_option linter.unusedSimpArgs false
-- interregnum/interregnumlaw11.FeasRoom
namespace Go.Abs
open Go
end Go.Abs

/- interregnum/interregnumlaw11.FeasRoom -/
namespace Go.Abs
open Go
set_option linter.unusedVariables false
end Go.Abs

-- interregnum/interregnumlaw11.FeasLess
namespace Go.Abs
open Go
end Go.Abs

/- interregnum/interregnumlaw11.FeasLess -/
namespace Go.Abs
open Go
set_option linter.unusedVariables false
end Go.Abs

/- The laws of layer 11. -/
namespace Go.Abs
open Go

theorem sub_ok {a b : TRes} : (subR (a,b)).2 = 0 ↔ rightB a = true ∧ rightB b = true ∧ rightB (subV a b) = true := by
  have hne : ¬ ((-1 : Int) = 1) := by decide
  unfold subR bothR
  simp only [hne,if_false]
  by_cases h : rightB a = true ∧ rightB b = true
  · rw [if_neg (not_not_intro h)]
    by_cases h2 : rightB (subV a b) = true
    · rw [if_pos h2]; exact ⟨fun _ => ⟨h.1,h.2,h2⟩,fun _ => rfl⟩
    · rw [if_neg h2]
      exact ⟨fun hh => absurd hh (show ¬ (6 : Int) = 0 by decide),fun hh => absurd hh.2.2 h2⟩
  · rw [if_pos h]
    exact ⟨fun hh => absurd hh (show ¬ (1 : Int) = 0 by decide),fun hh => absurd (And.intro hh.1 hh.2.1) h⟩

theorem sub_val {a b : TRes} (h : (subR (a,b)).2 = 0) : subR (a,b) = (subV a b,0) := by
  have hne : ¬ ((-1 : Int) = 1) := by decide
  obtain ⟨h1,h2,h3⟩ := sub_ok.1 h
  unfold subR bothR
  simp only [hne,if_false]
  rw [if_neg (not_not_intro (And.intro h1 h2)),if_pos h3]

theorem free_ok {m : TMach} {l : List TJob} : (freeR (m,l)).2 = 0 ↔ (sumR (bindL l m.1.1)).2 = 0 ∧ (subR (m.1.2.1,(sumR (bindL l m.1.1)).1)).2 = 0 := by
  unfold freeR
  simp only
  by_cases h : (sumR (bindL l m.1.1)).2 = 0
  · rw [if_neg (not_not_intro h)]
    exact ⟨fun hh => ⟨h,hh⟩,fun hh => hh.2⟩
  · rw [if_pos h]
    exact ⟨fun hh => absurd hh h,fun hh => absurd hh.1 h⟩

theorem free_val {m : TMach} {l : List TJob} (h : (freeR (m,l)).2 = 0) : freeR (m,l) = (subV m.1.2.1 (sumV (bindL l m.1.1)),0) := by
  obtain ⟨h1,h2⟩ := free_ok.1 h
  unfold freeR
  simp only
  rw [if_neg (not_not_intro h1),sub_val h2,sumR_val h1]

theorem why_zero {m : TMach} {l : List TJob} {t : TTask} : whyR (m,l,t) = 0 ↔
    ((freeR (m,l)).2 = 0 ∧ nodeB m.1 = true ∧ taskB t = true) ∧ m.2.1 = true ∧ hasAll (m.1.2.2,t.2.2.2.2.1) = true ∧ ¬ anyBother (l,m,t) = true ∧ fitsR (t.2.2.2.1,(freeR (m,l)).1) = true := by
  unfold whyR
  simp only
  split
  · rename_i h; exact ⟨fun hh => absurd hh (by decide),fun hh => absurd hh.1 h⟩
  · rename_i h
    split
    · rename_i h1; exact ⟨fun hh => absurd hh (by decide),fun hh => absurd hh.2.1 h1⟩
    · rename_i h1
      split
      · rename_i h2; exact ⟨fun hh => absurd hh (by decide),fun hh => absurd hh.2.2.1 h2⟩
      · rename_i h2
        split
        · rename_i h3; exact ⟨fun hh => absurd hh (by decide),fun hh => absurd h3 hh.2.2.2.1⟩
        · rename_i h3
          split
          · rename_i h4; exact ⟨fun hh => absurd hh (by decide),fun hh => absurd hh.2.2.2.2 h4⟩
          · rename_i h4
            exact ⟨fun _ => ⟨Classical.not_not.1 h,Classical.not_not.1 h1,Classical.not_not.1 h2,h3,Classical.not_not.1 h4⟩,fun _ => rfl⟩

theorem sum_len {α : Type} (f : α → Nat) (hf : ∀ x,1 ≤ f x) (l : List α) : l.length ≤ (l.map f).sum := by
  induction l with
  | nil => exact Nat.le_refl _
  | cons x l ih =>
    have := hf x
    simp only [List.map_cons,List.sum_cons,List.length_cons]
    omega

theorem jobs_of_size {l : List TJob} (h : k_sl_api_Job.size l ≤ 1048576) : L20 l := by
  have h1 : (l.map k_api_Job.size).sum + 1 ≤ 1048576 := h
  have h2 := sum_len k_api_Job.size (fun x => Nat.le_add_left 1 _) l
  unfold L20
  omega
theorem lbl_of_size {l : List TLbl} (h : k_sl_api_Label.size l ≤ 1048576) : L20 l := by
  have h1 : (l.map k_api_Label.size).sum + 1 ≤ 1048576 := h
  have h2 := sum_len k_api_Label.size (fun x => Nat.le_add_left 1 _) l
  unfold L20
  omega

theorem mach_of_size {m : TMach} (h : k_api_Machine.size m ≤ 1048576) : node_pre m.1 ∧ L20 m.1.2.2 := by
  have h1 : k_api_Node.size m.1 + (1 + 1) + 1 ≤ 1048576 := h
  have h2 : m.1.1.size + 1 + (1 + (1 + 1) + 1 + k_sl_api_Label.size m.1.2.2) + 1 + (1 + 1) + 1 ≤ 1048576 := h
  exact ⟨node_of_size (by omega),lbl_of_size (by omega)⟩
theorem wants_of_size {t : TTask} (h : k_api_Task.size t ≤ 1048576) : L20 t.2.2.2.2.1 := by
  have h : t.1.size + 1 + (t.2.1.size + 1 + (1 + (1 + (1 + 1) + 1 + (k_sl_api_Label.size t.2.2.2.2.1 + (t.2.2.2.2.2.1.size + 1 + (t.2.2.2.2.2.2.1.size + 1 + 1)))))) + 1 ≤ 1048576 := h
  exact lbl_of_size (by omega)

theorem sumV_sub {l m : List TRes} (hs : l.Sublist m) (hr : ∀ x ∈ m,rightB x = true) : (0 ≤ (sumV l).1 ∧ (sumV l).1 ≤ (sumV m).1) ∧ (0 ≤ (sumV l).2.1 ∧ (sumV l).2.1 ≤ (sumV m).2.1) ∧ (0 ≤ (sumV l).2.2 ∧ (sumV l).2.2 ≤ (sumV m).2.2) := by
  induction hs with
  | slnil => simp [sumV,zeroR]
  | @cons l m x h ih =>
    have ih := ih fun y hy => hr y (List.mem_cons_of_mem _ hy)
    have hx := rightB_iff.1 (hr x (by simp))
    simp only [sumV,addV]
    omega
  | @cons_cons l m x h ih =>
    have ih := ih fun y hy => hr y (List.mem_cons_of_mem _ hy)
    have hx := rightB_iff.1 (hr x (by simp))
    simp only [sumV,addV]
    omega

theorem bindL_sub {l m : List TJob} (h : l.Sublist m) (n : ByteArray) : (bindL l n).Sublist (bindL m n) := (h.filter _).map _

theorem free_sub {m : TMach} {l l' : List TJob} (hl : l'.Sublist l) (h : (freeR (m,l)).2 = 0) : (freeR (m,l')).2 = 0 ∧ fitsR ((freeR (m,l)).1,(freeR (m,l')).1) = true := by
  obtain ⟨h1,h2⟩ := free_ok.1 h
  have hs := sumR_iff.1 h1
  have hb := bindL_sub hl m.1.1
  have hv := sumV_sub hb hs.1
  have hr := rightB_iff.1 hs.2
  have s1 : (sumR (bindL l' m.1.1)).2 = 0 := sumR_iff.2 ⟨fun x hx => hs.1 x (hb.subset hx),by rw [rightB_iff]; omega⟩
  obtain ⟨k1,k2,k3⟩ := sub_ok.1 h2
  rw [sumR_val h1] at k2 k3
  have r3 := rightB_iff.1 k3
  have rc := rightB_iff.1 k1
  have s2 : (subR (m.1.2.1,(sumR (bindL l' m.1.1)).1)).2 = 0 := by
    rw [sumR_val s1]
    refine sub_ok.2 ⟨k1,by rw [rightB_iff]; omega,?_⟩
    rw [rightB_iff]
    simp only [subV] at r3 ⊢
    omega
  have s3 := free_ok.2 ⟨s1,s2⟩
  refine ⟨s3,?_⟩
  rw [free_val h,free_val s3,fitsR_iff]
  simp only [subV]
  omega

theorem any_sub {l l' : List TJob} (h : l'.Sublist l) {m : TMach} {t : TTask} (k : ¬ anyBother (l,m,t) = true) : ¬ anyBother (l',m,t) = true := by
  intro hh
  apply k
  unfold anyBother at *
  rw [List.any_eq_true] at *
  obtain ⟨x,hx,e⟩ := hh
  exact ⟨x,h.subset hx,e⟩

end Go.Abs
