/- Functions, and what the code asks of them: PModelLaw. -/
import Derived.KernelRfl
import Derived.Test.YtabnaedcnfkmiafRankBestP3
import Derived.Test.YtabnaedcnfkmiafRankBestP4
import Derived.Test.YtabnaedcnfkmiafRankBestP5
import Derived.Test.YtabnaedcnfkmiafRankBestP6
set_option linter.unusedVariables false
set_option linter.unusedSimpArgs false
-- interregnum/interregnumlaw05.ModelGangs
namespace Go.Abs
open Go
end Go.Abs

/- interregnum/interregnumlaw05.ModelGangs -/
namespace Go.Abs
open Go
set_option linter.unusedVariables false
end Go.Abs

-- interregnum/interregnumlaw05.ModelRights
namespace Go.Abs
open Go
end Go.Abs

/- interregnum/interregnumlaw05.ModelRights -/
namespace Go.Abs
open Go
set_option linter.unusedVariables false
end Go.Abs

/- The laws ModelGangs and ModelRights. -/
namespace Go.Abs
open Go
theorem aDA {α:Type} (f:α→Nat) {l:List α} {x:α} (h:x∈l):f x≤(l.map f).sum:=by
 induction l with
 | nil=>cases h
 | cons y l ih =>
  simp only [List.map_cons,List.sum_cons]
  rcases List.mem_cons.1 h with rfl | h
  ·omega
  ·have:=ih h
   omega

theorem qB {l:List hP} (h:b9.size l≤1048576):gM l:=fun x hx=>by
 have h1:eL.size x≤(l.map eL.size).sum:=aDA _ hx
 have h2:(l.map eL.size).sum+1≤1048576:=h
 have h3:x.1.size+1+(x.2.size+1)+1=eL.size x:=rfl
 omega
theorem xC {n:aBO} (h:jL.size n≤1048576):iG n:=by
 have h:n.1.size+1+(1+(1+1)+1+b9.size n.2.2)+1≤1048576:=h
 exact ⟨by unfold bT; omega,qB (by omega)⟩
theorem yP {t:cC} (h:eS.size t≤1048576):kC t:=by
 have h:t.1.size+1+(t.2.1.size+1+(1+(1+(1+1)+1+(b9.size t.2.2.2.2.1+(t.2.2.2.2.2.1.size+1+(t.2.2.2.2.2.2.1.size+1+1))))))+1≤1048576:=h
 refine ⟨?_,?_,qB (by omega),?_,?_⟩ <;> unfold bT <;> omega

end Go.Abs
