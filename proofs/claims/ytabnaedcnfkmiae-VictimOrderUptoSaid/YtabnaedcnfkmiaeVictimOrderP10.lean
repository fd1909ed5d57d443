/- Functions, and what the code asks of them: PFeasLaw. -/
import Derived.KernelRfl
import Derived.Test.YtabnaedcnfkmiaeVictimOrderP3
import Derived.Test.YtabnaedcnfkmiaeVictimOrderP4
import Derived.Test.YtabnaedcnfkmiaeVictimOrderP5
import Derived.Test.YtabnaedcnfkmiaeVictimOrderP6
import Derived.Test.YtabnaedcnfkmiaeVictimOrderP7
import Derived.Test.YtabnaedcnfkmiaeVictimOrderP8
import Derived.Test.YtabnaedcnfkmiaeVictimOrderP9
set_option linter.unusedVariables false
set_option linter.unusedSimpArgs false
-- interregnum/interregnumlaw11.FeasRoom
namespace Go.Abs
open Go
end Go.Abs

/- interregnum/interregnumlaw11.FeasRoom -/
namespace Go.Abs
open Go
set_option linter.unusedVariables false
end Go.Abs

-- interregnum/interregnumlaw11.FeasLess
namespace Go.Abs
open Go
end Go.Abs

/- interregnum/interregnumlaw11.FeasLess -/
namespace Go.Abs
open Go
set_option linter.unusedVariables false
end Go.Abs

/- The laws of layer 11. -/
namespace Go.Abs
open Go

theorem aHT {a b : cI} : (jU (a,b)).2 = 0 ↔ aX a = true ∧ aX b = true ∧ aX (wZ a b) = true := by
 have hne : ¬ ((-1 : Int) = 1) := by decide
 unfold jU cL
 simp only [hne,if_false]
 by_cases h : aX a = true ∧ aX b = true
 ·rw [if_neg (not_not_intro h)]
  by_cases h2 : aX (wZ a b) = true
  ·rw [if_pos h2]; exact ⟨fun _ => ⟨h.1,h.2,h2⟩,fun _ => rfl⟩
  ·rw [if_neg h2]
   exact ⟨fun hh => absurd hh (show ¬ (6 : Int) = 0 by decide),fun hh => absurd hh.2.2 h2⟩
 ·rw [if_pos h]
  exact ⟨fun hh => absurd hh (show ¬ (1 : Int) = 0 by decide),fun hh => absurd (And.intro hh.1 hh.2.1) h⟩

theorem aGR {a b : cI} (h : (jU (a,b)).2 = 0) : jU (a,b) = (wZ a b,0) := by
 have hne : ¬ ((-1 : Int) = 1) := by decide
 obtain ⟨h1,h2,h3⟩ := aHT.1 h
 unfold jU cL
 simp only [hne,if_false]
 rw [if_neg (not_not_intro (And.intro h1 h2)),if_pos h3]

theorem wY {m : bO} {l : List bZ} : (bR (m,l)).2 = 0 ↔ (eN (gA l m.1.1)).2 = 0 ∧ (jU (m.1.2.1,(eN (gA l m.1.1)).1)).2 = 0 := by
 unfold bR
 simp only
 by_cases h : (eN (gA l m.1.1)).2 = 0
 ·rw [if_neg (not_not_intro h)]
  exact ⟨fun hh => ⟨h,hh⟩,fun hh => hh.2⟩
 ·rw [if_pos h]
  exact ⟨fun hh => absurd hh h,fun hh => absurd hh.1 h⟩

theorem zM {m : bO} {l : List bZ} (h : (bR (m,l)).2 = 0) : bR (m,l) = (wZ m.1.2.1 (mE (gA l m.1.1)),0) := by
 obtain ⟨h1,h2⟩ := wY.1 h
 unfold bR
 simp only
 rw [if_neg (not_not_intro h1),aGR h2,uA h1]

theorem x7 {α : Type} (f : α → Nat) (hf : ∀ x,1 ≤ f x) (l : List α) : l.length ≤ (l.map f).sum := by
 induction l with
 | nil => exact Nat.le_refl _
 | cons x l ih =>
  have := hf x
  simp only [List.map_cons,List.sum_cons,List.length_cons]
  omega

theorem yA {l : List bZ} (h : fO.size l ≤ 1048576) : L20 l := by
 have h1 : (l.map n5.size).sum + 1 ≤ 1048576 := h
 have h2 := x7 n5.size (fun x => Nat.le_add_left 1 _) l
 unfold L20
 omega
theorem sB {l : List gZ} (h : b9.size l ≤ 1048576) : L20 l := by
 have h1 : (l.map eI.size).sum + 1 ≤ 1048576 := h
 have h2 := x7 eI.size (fun x => Nat.le_add_left 1 _) l
 unfold L20
 omega

theorem xV {m : bO} (h : d6.size m ≤ 1048576) : iF m.1 ∧ L20 m.1.2.2 := by
 have h1 : i9.size m.1 + (1 + 1) + 1 ≤ 1048576 := h
 have h2 : m.1.1.size + 1 + (1 + (1 + 1) + 1 + b9.size m.1.2.2) + 1 + (1 + 1) + 1 ≤ 1048576 := h
 exact ⟨xG (by omega),sB (by omega)⟩
theorem vN {t : bT} (h : fN.size t ≤ 1048576) : L20 t.2.2.2.2.1 := by
 have h : t.1.size + 1 + (t.2.1.size + 1 + (1 + (1 + (1 + 1) + 1 + (b9.size t.2.2.2.2.1 + (t.2.2.2.2.2.1.size + 1 + (t.2.2.2.2.2.2.1.size + 1 + 1)))))) + 1 ≤ 1048576 := h
 exact sB (by omega)

end Go.Abs
