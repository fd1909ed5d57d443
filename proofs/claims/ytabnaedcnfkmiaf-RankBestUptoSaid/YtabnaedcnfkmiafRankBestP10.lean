/- Functions, and what the code asks of them: PFeasLaw. -/
import Derived.KernelRfl
import Derived.Test.YtabnaedcnfkmiafRankBestP3
import Derived.Test.YtabnaedcnfkmiafRankBestP4
import Derived.Test.YtabnaedcnfkmiafRankBestP5
import Derived.Test.YtabnaedcnfkmiafRankBestP6
import Derived.Test.YtabnaedcnfkmiafRankBestP7
import Derived.Test.YtabnaedcnfkmiafRankBestP8
import Derived.Test.YtabnaedcnfkmiafRankBestP9
set_option linter.unusedVariables false
set_option linter.unusedSimpArgs false
-- interregnum/interregnumlaw11.FeasRoom
namespace Go.Abs
open Go
end Go.Abs

/- interregnum/interregnumlaw11.FeasRoom -/
namespace Go.Abs
open Go
set_option linter.unusedVariables false
end Go.Abs

-- interregnum/interregnumlaw11.FeasLess
namespace Go.Abs
open Go
end Go.Abs

/- interregnum/interregnumlaw11.FeasLess -/
namespace Go.Abs
open Go
set_option linter.unusedVariables false
end Go.Abs

/- The laws of layer 11. -/
namespace Go.Abs
open Go
theorem xH {α:Type} (f:α→Nat) (hf:∀ x,1≤f x) (l:List α):l.length≤(l.map f).sum:=by
 induction l with
 | nil=>exact Nat.le_refl _
 | cons x l ih =>
  have:=hf x
  simp only [List.map_cons,List.sum_cons,List.length_cons]
  omega

theorem yI {l:List dT} (h:fJ.size l≤1048576):L20 l:=by
 have h1:(l.map nK.size).sum+1≤1048576:=h
 have h2:=xH nK.size (fun x=>Nat.le_add_left 1 _) l
 unfold L20
 omega
theorem rT {l:List hP} (h:b9.size l≤1048576):L20 l:=by
 have h1:(l.map eL.size).sum+1≤1048576:=h
 have h2:=xH eL.size (fun x=>Nat.le_add_left 1 _) l
 unfold L20
 omega

theorem yQ {m:cL} (h:d6.size m≤1048576):iG m.1∧L20 m.1.2.2:=by
 have h1:jL.size m.1+(1+1)+1≤1048576:=h
 have h2:m.1.1.size+1+(1+(1+1)+1+b9.size m.1.2.2)+1+(1+1)+1≤1048576:=h
 exact ⟨xC (by omega),rT (by omega)⟩
theorem vF {t:cC} (h:eS.size t≤1048576):L20 t.2.2.2.2.1:=by
 have h:t.1.size+1+(t.2.1.size+1+(1+(1+(1+1)+1+(b9.size t.2.2.2.2.1+(t.2.2.2.2.2.1.size+1+(t.2.2.2.2.2.2.1.size+1+1))))))+1≤1048576:=h
 exact rT (by omega)

end Go.Abs
