/- Functions, and what the code asks of them: PObj2. -/
import Derived.Test.YtcmjinkfgbadoabLabelsBothP5
import Derived.Test.YtcmjinkfgbadoabLabelsBothP6
import Derived.Test.YtcmjinkfgbadoabLabelsBothP7
import Derived.Test.YtcmjinkfgbadoabLabelsBothP8
import Derived.Test.YtcmjinkfgbadoabLabelsBothP9
import Derived.Test.YtcmjinkfgbadoabLabelsBothP10
import Derived.Test.YtcmjinkfgbadoabLabelsBothP12
import Derived.Test.YtcmjinkfgbadoabLabelsBothP13
import Derived.Test.YtcmjinkfgbadoabLabelsBothP21
set_option linter.unusedVariables false
set_option linter.unusedSimpArgs false
set_option linter.unusedSectionVars false
namespace Go.Abs
open Go
theorem aGO {A:Type} [Inhabited A] {l:List (ByteArray×A)} (h:Rising l) (k:ByteArray) (z:A):decide ((nE l k).length < l.length)=(tE l k z).2:=by
 by_cases hx:∃ x,(k,x)∈l
 ·rw [(aB6 h).2 hx]
  obtain ⟨x,hx⟩:=hx
  refine decide_eq_true ?_
  refine Nat.lt_of_le_of_ne (yY l k) fun e=>?_
  have:=List.length_filter_eq_length_iff.1 e _ hx
  simp at this
 ·have:(tE l k z).2=false:=by
   rw [← Bool.not_eq_true,aB6 h]
   exact hx
  rw [this]
  refine decide_eq_false fun hlt=>?_
  have:nE l k=l:=List.filter_eq_self.2 fun a ha=>decide_eq_true fun e=>hx ⟨a.2,by rw [← e]; exact ha⟩
  rw [this] at hlt
  omega
theorem aEW {A:Type} [Inhabited A] (l:List (ByteArray×A)) (k:ByteArray) (x:A):jM (pu l,k,x)=pu (rV l k x):=by
 unfold jM
 rw [aIR]
theorem aAC {A:Type} [Inhabited A] {l:List (ByteArray×A)} (h:Rising l) (k:ByteArray) (z:A):dW (pu l,k)=((tE l k z).2,pu (nE l k)):=by
 unfold dW
 rw [aIR,← aGO h k z]
 simp [pu]
theorem aC5 {A:Type} [Inhabited A] (l:List (ByteArray×A)):(pu l).1.length=l.length:=List.length_map _
theorem aE9 {x y:Bool} (h:x=y):¬(!(x==y))=true:=by subst h; simp
end Go.Abs
