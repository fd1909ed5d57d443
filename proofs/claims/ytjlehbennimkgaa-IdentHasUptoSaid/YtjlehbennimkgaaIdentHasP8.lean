/- Functions, and what the code asks of them: PModelLaw. -/
import Derived.Test.YtjlehbennimkgaaIdentHasP4
import Derived.Test.YtjlehbennimkgaaIdentHasP5
import Derived.Test.YtjlehbennimkgaaIdentHasP6
import Derived.Test.YtjlehbennimkgaaIdentHasP7
set_option linter.unusedVariables false
set_option linter.unusedSimpArgs false
namespace Go.Abs
open Go
theorem aCT {α:Type} (f:α→Nat) {l:List α} {x:α} (h:x∈l):f x≤(l.map f).sum:=by
 induction l with
 | nil=>cases h
 | cons y l ih =>
  simp only [List.map_cons,List.sum_cons]
  rcases List.mem_cons.1 h with rfl | h
  ·omega
  ·have:=ih h
   omega
theorem wT {l:List bK} (h:bC.size l≤1048576):fY l:=fun x hx=>by
 have h1:cJ.size x≤(l.map cJ.size).sum:=aCT _ hx
 have h2:(l.map cJ.size).sum+1≤1048576:=h
 have h3:x.1.size+1+(x.2.size+1)+1=cJ.size x:=rfl
 omega
end Go.Abs
