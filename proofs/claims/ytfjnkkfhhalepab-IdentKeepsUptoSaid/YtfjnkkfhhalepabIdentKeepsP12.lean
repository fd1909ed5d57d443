/- Functions, and what the code asks of them: PFeasLaw. -/
import Derived.Test.YtfjnkkfhhalepabIdentKeepsP4
import Derived.Test.YtfjnkkfhhalepabIdentKeepsP5
import Derived.Test.YtfjnkkfhhalepabIdentKeepsP6
import Derived.Test.YtfjnkkfhhalepabIdentKeepsP7
import Derived.Test.YtfjnkkfhhalepabIdentKeepsP8
import Derived.Test.YtfjnkkfhhalepabIdentKeepsP9
import Derived.Test.YtfjnkkfhhalepabIdentKeepsP11
set_option linter.unusedVariables false
set_option linter.unusedSimpArgs false
namespace Go.Abs
open Go
theorem aHN {α:Type} (f:α→Nat) (hf:∀ x,1≤f x) (l:List α):l.length≤(l.map f).sum:=by
 induction l with
 | nil=>exact Nat.le_refl _
 | cons x l ih =>
  have:=hf x
  simp only [List.map_cons,List.sum_cons,List.length_cons]
  omega
theorem rJ {l:List bK} (h:cW.size l≤1048576):L20 l:=by
 have h1:(l.map cI.size).sum+1≤1048576:=h
 have h2:=aHN cI.size (fun x=>Nat.le_add_left 1 _) l
 unfold L20
 omega
end Go.Abs
