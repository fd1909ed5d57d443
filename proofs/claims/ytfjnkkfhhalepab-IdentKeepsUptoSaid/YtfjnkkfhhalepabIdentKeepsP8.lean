/- Functions, and what the code asks of them: PModelLaw. -/
import Derived.Test.YtfjnkkfhhalepabIdentKeepsP4
import Derived.Test.YtfjnkkfhhalepabIdentKeepsP5
import Derived.Test.YtfjnkkfhhalepabIdentKeepsP6
import Derived.Test.YtfjnkkfhhalepabIdentKeepsP7
set_option linter.unusedVariables false
set_option linter.unusedSimpArgs false
namespace Go.Abs
open Go
theorem aDJ {α:Type} (f:α→Nat) {l:List α} {x:α} (h:x∈l):f x≤(l.map f).sum:=by
 induction l with
 | nil=>cases h
 | cons y l ih =>
  simp only [List.map_cons,List.sum_cons]
  rcases List.mem_cons.1 h with rfl | h
  ·omega
  ·have:=ih h
   omega
theorem w9 {l:List bK} (h:cW.size l≤1048576):jT l:=fun x hx=>by
 have h1:cI.size x≤(l.map cI.size).sum:=aDJ _ hx
 have h2:(l.map cI.size).sum+1≤1048576:=h
 have h3:x.1.size+1+(x.2.size+1)+1=cI.size x:=rfl
 omega
end Go.Abs
