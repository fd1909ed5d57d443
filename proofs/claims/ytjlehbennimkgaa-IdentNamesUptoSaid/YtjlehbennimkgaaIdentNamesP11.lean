/- Functions, and what the code asks of them: PFeasLaw. -/
import Derived.Test.YtjlehbennimkgaaIdentNamesP3
import Derived.Test.YtjlehbennimkgaaIdentNamesP4
import Derived.Test.YtjlehbennimkgaaIdentNamesP5
import Derived.Test.YtjlehbennimkgaaIdentNamesP6
import Derived.Test.YtjlehbennimkgaaIdentNamesP7
import Derived.Test.YtjlehbennimkgaaIdentNamesP8
import Derived.Test.YtjlehbennimkgaaIdentNamesP10
set_option linter.unusedVariables false
set_option linter.unusedSimpArgs false
/- The laws of layer 11. -/
namespace Go.Abs
open Go
theorem aFW {α:Type} (f:α→Nat) (hf:∀ x,1≤f x) (l:List α):l.length≤(l.map f).sum:=by
 induction l with
 | nil=>exact Nat.le_refl _
 | cons x l ih =>
  have:=hf x
  simp only [List.map_cons,List.sum_cons,List.length_cons]
  omega

theorem p4 {l:List cI} (h:b6.size l≤1048576):L20 l:=by
 have h1:(l.map cD.size).sum+1≤1048576:=h
 have h2:=aFW cD.size (fun x=>Nat.le_add_left 1 _) l
 unfold L20
 omega

end Go.Abs
