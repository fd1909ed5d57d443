/- Functions, and what the code asks of them: PModelLaw. -/
import Derived.KernelRfl
import Derived.Test.YtabnaedcnfkmiaeVictimTellsP3
import Derived.Test.YtabnaedcnfkmiaeVictimTellsP4
import Derived.Test.YtabnaedcnfkmiaeVictimTellsP5
import Derived.Test.YtabnaedcnfkmiaeVictimTellsP6
set_option linter.unusedVariables false
set_option linter.unusedSimpArgs false
-- interregnum/interregnumlaw05.ModelGangs
namespace Go.Abs
open Go
end Go.Abs

/- interregnum/interregnumlaw05.ModelGangs -/
namespace Go.Abs
open Go
set_option linter.unusedVariables false
end Go.Abs

-- interregnum/interregnumlaw05.ModelRights
namespace Go.Abs
open Go
end Go.Abs

/- interregnum/interregnumlaw05.ModelRights -/
namespace Go.Abs
open Go
set_option linter.unusedVariables false
end Go.Abs

/- The laws ModelGangs and ModelRights. -/
namespace Go.Abs
open Go
theorem aDA {α:Type} (f:α→Nat) {l:List α} {x:α} (h:x∈l):f x≤(l.map f).sum:=by
 induction l with
 | nil=>cases h
 | cons y l ih =>
  simp only [List.map_cons,List.sum_cons]
  rcases List.mem_cons.1 h with rfl | h
  ·omega
  ·have:=ih h
   omega

theorem qJ {l:List hO} (h:cL.size l≤1048576):eE l:=fun x hx=>by
 have h1:eY.size x≤(l.map eY.size).sum:=aDA _ hx
 have h2:(l.map eY.size).sum+1≤1048576:=h
 have h3:x.1.size+1+(x.2.size+1)+1=eY.size x:=rfl
 omega
theorem yT {n:w5} (h:j5.size n≤1048576):fH n:=by
 have h:n.1.size+1+(1+(1+1)+1+cL.size n.2.2)+1≤1048576:=h
 exact ⟨by unfold aY; omega,qJ (by omega)⟩
theorem yY {t:bO} (h:fZ.size t≤1048576):gJ t:=by
 have h:t.1.size+1+(t.2.1.size+1+(1+(1+(1+1)+1+(cL.size t.2.2.2.2.1+(t.2.2.2.2.2.1.size+1+(t.2.2.2.2.2.2.1.size+1+1))))))+1≤1048576:=h
 refine ⟨?_,?_,qJ (by omega),?_,?_⟩ <;> unfold aY <;> omega

end Go.Abs
