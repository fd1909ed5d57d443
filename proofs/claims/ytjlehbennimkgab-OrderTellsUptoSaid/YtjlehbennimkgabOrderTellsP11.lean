/- Functions, and what the code asks of them: PFeasLaw. -/
import Derived.Test.YtjlehbennimkgabOrderTellsP4
import Derived.Test.YtjlehbennimkgabOrderTellsP5
import Derived.Test.YtjlehbennimkgabOrderTellsP6
import Derived.Test.YtjlehbennimkgabOrderTellsP7
import Derived.Test.YtjlehbennimkgabOrderTellsP8
import Derived.Test.YtjlehbennimkgabOrderTellsP9
import Derived.Test.YtjlehbennimkgabOrderTellsP10
set_option linter.unusedVariables false
set_option linter.unusedSimpArgs false
/- The laws of layer 11. -/
namespace Go.Abs
open Go
theorem aFQ {α:Type} (f:α→Nat) (hf:∀ x,1≤f x) (l:List α):l.length≤(l.map f).sum:=by
 induction l with
 | nil=>exact Nat.le_refl _
 | cons x l ih =>
  have:=hf x
  simp only [List.map_cons,List.sum_cons,List.length_cons]
  omega

theorem v6 {l:List aS} (h:fQ.size l≤1048576):L20 l:=by
 have h1:(l.map d6.size).sum+1≤1048576:=h
 have h2:=aFQ d6.size (fun x=>Nat.le_add_left 1 _) l
 unfold L20
 omega
end Go.Abs
