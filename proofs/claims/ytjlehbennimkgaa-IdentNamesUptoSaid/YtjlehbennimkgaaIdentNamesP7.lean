/- Functions, and what the code asks of them: PModelLaw. -/
import Derived.Test.YtjlehbennimkgaaIdentNamesP3
import Derived.Test.YtjlehbennimkgaaIdentNamesP4
import Derived.Test.YtjlehbennimkgaaIdentNamesP5
import Derived.Test.YtjlehbennimkgaaIdentNamesP6
set_option linter.unusedVariables false
set_option linter.unusedSimpArgs false
/- The laws ModelGangs and ModelRights. -/
namespace Go.Abs
open Go
theorem aBW {α:Type} (f:α→Nat) {l:List α} {x:α} (h:x∈l):f x≤(l.map f).sum:=by
 induction l with
 | nil=>cases h
 | cons y l ih =>
  simp only [List.map_cons,List.sum_cons]
  rcases List.mem_cons.1 h with rfl | h
  ·omega
  ·have:=ih h
   omega

theorem vD {l:List cI} (h:b6.size l≤1048576):dQ l:=fun x hx=>by
 have h1:cD.size x≤(l.map cD.size).sum:=aBW _ hx
 have h2:(l.map cD.size).sum+1≤1048576:=h
 have h3:x.1.size+1+(x.2.size+1)+1=cD.size x:=rfl
 omega
end Go.Abs
