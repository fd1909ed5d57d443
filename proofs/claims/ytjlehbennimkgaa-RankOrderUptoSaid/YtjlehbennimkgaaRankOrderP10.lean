/- Functions, and what the code asks of them: PFeasLaw. -/
import Derived.Test.YtjlehbennimkgaaRankOrderP3
import Derived.Test.YtjlehbennimkgaaRankOrderP4
import Derived.Test.YtjlehbennimkgaaRankOrderP5
import Derived.Test.YtjlehbennimkgaaRankOrderP6
import Derived.Test.YtjlehbennimkgaaRankOrderP7
import Derived.Test.YtjlehbennimkgaaRankOrderP8
import Derived.Test.YtjlehbennimkgaaRankOrderP9
set_option linter.unusedVariables false
set_option linter.unusedSimpArgs false
/- The laws of layer 11. -/
namespace Go.Abs
open Go
theorem x6 {α:Type} (f:α→Nat) (hf:∀ x,1≤f x) (l:List α):l.length≤(l.map f).sum:=by
 induction l with
 | nil=>exact Nat.le_refl _
 | cons x l ih =>
  have:=hf x
  simp only [List.map_cons,List.sum_cons,List.length_cons]
  omega

theorem xF {l:List dT} (h:fK.size l≤1048576):L20 l:=by
 have h1:(l.map nI.size).sum+1≤1048576:=h
 have h2:=x6 nI.size (fun x=>Nat.le_add_left 1 _) l
 unfold L20
 omega
theorem rZ {l:List gX} (h:b6.size l≤1048576):L20 l:=by
 have h1:(l.map eK.size).sum+1≤1048576:=h
 have h2:=x6 eK.size (fun x=>Nat.le_add_left 1 _) l
 unfold L20
 omega

theorem yU {m:cM} (h:d5.size m≤1048576):iC m.1∧L20 m.1.2.2:=by
 have h1:jO.size m.1+(1+1)+1≤1048576:=h
 have h2:m.1.1.size+1+(1+(1+1)+1+b6.size m.1.2.2)+1+(1+1)+1≤1048576:=h
 exact ⟨yW (by omega),rZ (by omega)⟩
theorem vE {t:cE} (h:eQ.size t≤1048576):L20 t.2.2.2.2.1:=by
 have h:t.1.size+1+(t.2.1.size+1+(1+(1+(1+1)+1+(b6.size t.2.2.2.2.1+(t.2.2.2.2.2.1.size+1+(t.2.2.2.2.2.2.1.size+1+1))))))+1≤1048576:=h
 exact rZ (by omega)

end Go.Abs
