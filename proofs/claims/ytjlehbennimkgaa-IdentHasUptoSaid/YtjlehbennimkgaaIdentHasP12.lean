/- Functions, and what the code asks of them: PFeasLaw. -/
import Derived.Test.YtjlehbennimkgaaIdentHasP4
import Derived.Test.YtjlehbennimkgaaIdentHasP5
import Derived.Test.YtjlehbennimkgaaIdentHasP6
import Derived.Test.YtjlehbennimkgaaIdentHasP7
import Derived.Test.YtjlehbennimkgaaIdentHasP8
import Derived.Test.YtjlehbennimkgaaIdentHasP9
import Derived.Test.YtjlehbennimkgaaIdentHasP11
set_option linter.unusedVariables false
set_option linter.unusedSimpArgs false
namespace Go.Abs
open Go
theorem aG4 {α:Type} (f:α→Nat) (hf:∀ x,1≤f x) (l:List α):l.length≤(l.map f).sum:=by
 induction l with
 | nil=>exact Nat.le_refl _
 | cons x l ih =>
  have:=hf x
  simp only [List.map_cons,List.sum_cons,List.length_cons]
  omega
theorem qD {l:List bK} (h:bC.size l≤1048576):L20 l:=by
 have h1:(l.map cJ.size).sum+1≤1048576:=h
 have h2:=aG4 cJ.size (fun x=>Nat.le_add_left 1 _) l
 unfold L20
 omega
end Go.Abs
