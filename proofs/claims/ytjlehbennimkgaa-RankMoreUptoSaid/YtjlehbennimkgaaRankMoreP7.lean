/- Functions, and what the code asks of them: PModelLaw. -/
import Derived.Test.YtjlehbennimkgaaRankMoreP3
import Derived.Test.YtjlehbennimkgaaRankMoreP4
import Derived.Test.YtjlehbennimkgaaRankMoreP5
import Derived.Test.YtjlehbennimkgaaRankMoreP6
set_option linter.unusedVariables false
set_option linter.unusedSimpArgs false
/- The laws ModelGangs and ModelRights. -/
namespace Go.Abs
open Go
theorem aDL {α:Type} (f:α→Nat) {l:List α} {x:α} (h:x∈l):f x≤(l.map f).sum:=by
 induction l with
 | nil=>cases h
 | cons y l ih =>
  simp only [List.map_cons,List.sum_cons]
  rcases List.mem_cons.1 h with rfl | h
  ·omega
  ·have:=ih h
   omega

theorem pE {l:List gS} (h:cB.size l≤1048576):gK l:=fun x hx=>by
 have h1:eE.size x≤(l.map eE.size).sum:=aDL _ hx
 have h2:(l.map eE.size).sum+1≤1048576:=h
 have h3:x.1.size+1+(x.2.size+1)+1=eE.size x:=rfl
 omega
theorem yF {n:aAM} (h:i7.size n≤1048576):hZ n:=by
 have h:n.1.size+1+(1+(1+1)+1+cB.size n.2.2)+1≤1048576:=h
 exact ⟨by unfold bT; omega,pE (by omega)⟩
theorem xH {t:cZ} (h:eK.size t≤1048576):kG t:=by
 have h:t.1.size+1+(t.2.1.size+1+(1+(1+(1+1)+1+(cB.size t.2.2.2.2.1+(t.2.2.2.2.2.1.size+1+(t.2.2.2.2.2.2.1.size+1+1))))))+1≤1048576:=h
 refine ⟨?_,?_,pE (by omega),?_,?_⟩ <;> unfold bT <;> omega

end Go.Abs
