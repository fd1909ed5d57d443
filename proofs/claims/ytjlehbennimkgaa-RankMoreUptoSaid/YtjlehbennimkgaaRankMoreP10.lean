/- Functions, and what the code asks of them: PFeasLaw. -/
import Derived.Test.YtjlehbennimkgaaRankMoreP3
import Derived.Test.YtjlehbennimkgaaRankMoreP4
import Derived.Test.YtjlehbennimkgaaRankMoreP5
import Derived.Test.YtjlehbennimkgaaRankMoreP6
import Derived.Test.YtjlehbennimkgaaRankMoreP7
import Derived.Test.YtjlehbennimkgaaRankMoreP8
import Derived.Test.YtjlehbennimkgaaRankMoreP9
set_option linter.unusedVariables false
set_option linter.unusedSimpArgs false
/- The laws of layer 11. -/
namespace Go.Abs
open Go
theorem yR {α:Type} (f:α→Nat) (hf:∀ x,1≤f x) (l:List α):l.length≤(l.map f).sum:=by
 induction l with
 | nil=>exact Nat.le_refl _
 | cons x l ih =>
  have:=hf x
  simp only [List.map_cons,List.sum_cons,List.length_cons]
  omega

theorem yV {l:List eO} (h:fG.size l≤1048576):L20 l:=by
 have h1:(l.map nS.size).sum+1≤1048576:=h
 have h2:=yR nS.size (fun x=>Nat.le_add_left 1 _) l
 unfold L20
 omega
theorem rF {l:List gS} (h:cB.size l≤1048576):L20 l:=by
 have h1:(l.map eE.size).sum+1≤1048576:=h
 have h2:=yR eE.size (fun x=>Nat.le_add_left 1 _) l
 unfold L20
 omega

theorem xP {m:dC} (h:bU.size m≤1048576):hZ m.1∧L20 m.1.2.2:=by
 have h1:i7.size m.1+(1+1)+1≤1048576:=h
 have h2:m.1.1.size+1+(1+(1+1)+1+cB.size m.1.2.2)+1+(1+1)+1≤1048576:=h
 exact ⟨yF (by omega),rF (by omega)⟩
theorem vI {t:cZ} (h:eK.size t≤1048576):L20 t.2.2.2.2.1:=by
 have h:t.1.size+1+(t.2.1.size+1+(1+(1+(1+1)+1+(cB.size t.2.2.2.2.1+(t.2.2.2.2.2.1.size+1+(t.2.2.2.2.2.2.1.size+1+1))))))+1≤1048576:=h
 exact rF (by omega)

end Go.Abs
