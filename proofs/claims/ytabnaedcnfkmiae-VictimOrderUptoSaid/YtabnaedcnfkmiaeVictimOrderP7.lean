/- Functions, and what the code asks of them: PModelLaw. -/
import Derived.KernelRfl
import Derived.Test.YtabnaedcnfkmiaeVictimOrderP3
import Derived.Test.YtabnaedcnfkmiaeVictimOrderP4
import Derived.Test.YtabnaedcnfkmiaeVictimOrderP5
import Derived.Test.YtabnaedcnfkmiaeVictimOrderP6
set_option linter.unusedVariables false
set_option linter.unusedSimpArgs false
-- interregnum/interregnumlaw05.ModelGangs
namespace Go.Abs
open Go
end Go.Abs

/- interregnum/interregnumlaw05.ModelGangs -/
namespace Go.Abs
open Go
set_option linter.unusedVariables false
end Go.Abs

-- interregnum/interregnumlaw05.ModelRights
namespace Go.Abs
open Go
end Go.Abs

/- interregnum/interregnumlaw05.ModelRights -/
namespace Go.Abs
open Go
set_option linter.unusedVariables false
end Go.Abs

/- The laws ModelGangs and ModelRights. -/
namespace Go.Abs
open Go
theorem aCI {α : Type} (f : α → Nat) {l : List α} {x : α} (h : x ∈ l) : f x ≤ (l.map f).sum := by
 induction l with
 | nil => cases h
 | cons y l ih =>
  simp only [List.map_cons,List.sum_cons]
  rcases List.mem_cons.1 h with rfl | h
  ·omega
  ·have := ih h
   omega

theorem qT {l : List gZ} (h : b9.size l ≤ 1048576) : gI l := fun x hx => by
 have h1 : eI.size x ≤ (l.map eI.size).sum := aCI _ hx
 have h2 : (l.map eI.size).sum + 1 ≤ 1048576 := h
 have h3 : x.1.size + 1 + (x.2.size + 1) + 1 = eI.size x := rfl
 omega
theorem xG {n : zW} (h : i9.size n ≤ 1048576) : iF n := by
 have h : n.1.size + 1 + (1 + (1 + 1) + 1 + b9.size n.2.2) + 1 ≤ 1048576 := h
 exact ⟨by unfold bS; omega,qT (by omega)⟩
theorem yI {t : bT} (h : fN.size t ≤ 1048576) : kW t := by
 have h : t.1.size + 1 + (t.2.1.size + 1 + (1 + (1 + (1 + 1) + 1 + (b9.size t.2.2.2.2.1 + (t.2.2.2.2.2.1.size + 1 + (t.2.2.2.2.2.2.1.size + 1 + 1)))))) + 1 ≤ 1048576 := h
 refine ⟨?_,?_,qT (by omega),?_,?_⟩ <;> unfold bS <;> omega

end Go.Abs
