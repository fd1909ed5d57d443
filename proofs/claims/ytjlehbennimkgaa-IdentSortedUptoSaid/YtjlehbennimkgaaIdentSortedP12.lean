/- Functions, and what the code asks of them: PFeasLaw. -/
import Derived.Test.YtjlehbennimkgaaIdentSortedP4
import Derived.Test.YtjlehbennimkgaaIdentSortedP5
import Derived.Test.YtjlehbennimkgaaIdentSortedP6
import Derived.Test.YtjlehbennimkgaaIdentSortedP7
import Derived.Test.YtjlehbennimkgaaIdentSortedP8
import Derived.Test.YtjlehbennimkgaaIdentSortedP9
import Derived.Test.YtjlehbennimkgaaIdentSortedP11
set_option linter.unusedVariables false
set_option linter.unusedSimpArgs false
namespace Go.Abs
open Go
theorem aGO {α:Type} (f:α→Nat) (hf:∀ x,1≤f x) (l:List α):l.length≤(l.map f).sum:=by
 induction l with
 | nil=>exact Nat.le_refl _
 | cons x l ih =>
  have:=hf x
  simp only [List.map_cons,List.sum_cons,List.length_cons]
  omega
theorem qF {l:List bG} (h:cE.size l≤1048576):L20 l:=by
 have h1:(l.map cJ.size).sum+1≤1048576:=h
 have h2:=aGO cJ.size (fun x=>Nat.le_add_left 1 _) l
 unfold L20
 omega
end Go.Abs
