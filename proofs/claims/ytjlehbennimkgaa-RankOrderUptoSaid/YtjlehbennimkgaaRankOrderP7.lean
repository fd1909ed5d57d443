/- Functions, and what the code asks of them: PModelLaw. -/
import Derived.Test.YtjlehbennimkgaaRankOrderP3
import Derived.Test.YtjlehbennimkgaaRankOrderP4
import Derived.Test.YtjlehbennimkgaaRankOrderP5
import Derived.Test.YtjlehbennimkgaaRankOrderP6
set_option linter.unusedVariables false
set_option linter.unusedSimpArgs false
/- The laws ModelGangs and ModelRights. -/
namespace Go.Abs
open Go
theorem aDH {α:Type} (f:α→Nat) {l:List α} {x:α} (h:x∈l):f x≤(l.map f).sum:=by
 induction l with
 | nil=>cases h
 | cons y l ih =>
  simp only [List.map_cons,List.sum_cons]
  rcases List.mem_cons.1 h with rfl | h
  ·omega
  ·have:=ih h
   omega

theorem pO {l:List gX} (h:b6.size l≤1048576):gI l:=fun x hx=>by
 have h1:eK.size x≤(l.map eK.size).sum:=aDH _ hx
 have h2:(l.map eK.size).sum+1≤1048576:=h
 have h3:x.1.size+1+(x.2.size+1)+1=eK.size x:=rfl
 omega
theorem yW {n:aA3} (h:jO.size n≤1048576):iC n:=by
 have h:n.1.size+1+(1+(1+1)+1+b6.size n.2.2)+1≤1048576:=h
 exact ⟨by unfold bQ; omega,pO (by omega)⟩
theorem x0 {t:cE} (h:eQ.size t≤1048576):kL t:=by
 have h:t.1.size+1+(t.2.1.size+1+(1+(1+(1+1)+1+(b6.size t.2.2.2.2.1+(t.2.2.2.2.2.1.size+1+(t.2.2.2.2.2.2.1.size+1+1))))))+1≤1048576:=h
 refine ⟨?_,?_,pO (by omega),?_,?_⟩ <;> unfold bQ <;> omega

end Go.Abs
