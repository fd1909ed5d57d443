/- Functions, and what the code asks of them: PModelLaw. -/
import Derived.Test.YtjlehbennimkgaaRankTellsP4
import Derived.Test.YtjlehbennimkgaaRankTellsP5
import Derived.Test.YtjlehbennimkgaaRankTellsP6
import Derived.Test.YtjlehbennimkgaaRankTellsP7
set_option linter.unusedVariables false
set_option linter.unusedSimpArgs false
namespace Go.Abs
open Go
theorem aE0 {α:Type} (f:α→Nat) {l:List α} {x:α} (h:x∈l):f x≤(l.map f).sum:=by
 induction l with
 | nil=>cases h
 | cons y l ih =>
  simp only [List.map_cons,List.sum_cons]
  rcases List.mem_cons.1 h with rfl | h
  ·omega
  ·have:=ih h
   omega
theorem pT {l:List gT} (h:cI.size l≤1048576):d6 l:=fun x hx=>by
 have h1:eY.size x≤(l.map eY.size).sum:=aE0 _ hx
 have h2:(l.map eY.size).sum+1≤1048576:=h
 have h3:x.1.size+1+(x.2.size+1)+1=eY.size x:=rfl
 omega
theorem aAG {n:yB} (h:jS.size n≤1048576):fJ n:=by
 have h:n.1.size+1+(1+(1+1)+1+cI.size n.2.2)+1≤1048576:=h
 exact ⟨by unfold a7; omega,pT (by omega)⟩
theorem zR {t:cJ} (h:fB.size t≤1048576):gE t:=by
 have h:t.1.size+1+(t.2.1.size+1+(1+(1+(1+1)+1+(cI.size t.2.2.2.2.1+(t.2.2.2.2.2.1.size+1+(t.2.2.2.2.2.2.1.size+1+1))))))+1≤1048576:=h
 refine ⟨?_,?_,pT (by omega),?_,?_⟩ <;> unfold a7 <;> omega
end Go.Abs
