/- Functions, and what the code asks of them: PFeasLaw. -/
import Derived.Test.YtjlehbennimkgaaRankTellsP4
import Derived.Test.YtjlehbennimkgaaRankTellsP5
import Derived.Test.YtjlehbennimkgaaRankTellsP6
import Derived.Test.YtjlehbennimkgaaRankTellsP7
import Derived.Test.YtjlehbennimkgaaRankTellsP8
import Derived.Test.YtjlehbennimkgaaRankTellsP9
import Derived.Test.YtjlehbennimkgaaRankTellsP10
set_option linter.unusedVariables false
set_option linter.unusedSimpArgs false
namespace Go.Abs
open Go
theorem zD {α:Type} (f:α→Nat) (hf:∀ x,1≤f x) (l:List α):l.length≤(l.map f).sum:=by
 induction l with
 | nil=>exact Nat.le_refl _
 | cons x l ih =>
  have:=hf x
  simp only [List.map_cons,List.sum_cons,List.length_cons]
  omega
theorem y9 {l:List dW} (h:fX.size l≤1048576):L20 l:=by
 have h1:(l.map oC.size).sum+1≤1048576:=h
 have h2:=zD oC.size (fun x=>Nat.le_add_left 1 _) l
 unfold L20
 omega
theorem sV {l:List gT} (h:cI.size l≤1048576):L20 l:=by
 have h1:(l.map eY.size).sum+1≤1048576:=h
 have h2:=zD eY.size (fun x=>Nat.le_add_left 1 _) l
 unfold L20
 omega
theorem zQ {m:cO} (h:eG.size m≤1048576):fJ m.1∧L20 m.1.2.2:=by
 have h1:jS.size m.1+(1+1)+1≤1048576:=h
 have h2:m.1.1.size+1+(1+(1+1)+1+cI.size m.1.2.2)+1+(1+1)+1≤1048576:=h
 exact ⟨aAG (by omega),sV (by omega)⟩
theorem wK {t:cJ} (h:fB.size t≤1048576):L20 t.2.2.2.2.1:=by
 have h:t.1.size+1+(t.2.1.size+1+(1+(1+(1+1)+1+(cI.size t.2.2.2.2.1+(t.2.2.2.2.2.1.size+1+(t.2.2.2.2.2.2.1.size+1+1))))))+1≤1048576:=h
 exact sV (by omega)
end Go.Abs
