/- Functions, and what the code asks of them: PObj2. -/
import Derived.Test.YtcmjinkfgbadoabLabelsPlaysP5
import Derived.Test.YtcmjinkfgbadoabLabelsPlaysP6
import Derived.Test.YtcmjinkfgbadoabLabelsPlaysP7
import Derived.Test.YtcmjinkfgbadoabLabelsPlaysP8
import Derived.Test.YtcmjinkfgbadoabLabelsPlaysP9
import Derived.Test.YtcmjinkfgbadoabLabelsPlaysP10
import Derived.Test.YtcmjinkfgbadoabLabelsPlaysP12
import Derived.Test.YtcmjinkfgbadoabLabelsPlaysP13
import Derived.Test.YtcmjinkfgbadoabLabelsPlaysP21
set_option linter.unusedVariables false
set_option linter.unusedSimpArgs false
set_option linter.unusedSectionVars false
namespace Go.Abs
open Go
section
variable {A:Type} [Inhabited A]
theorem vL {w:Ps A} (h:w.1.length=w.2.length):(pz w).length=w.1.length:=by unfold pz; rw [List.length_zip,h]; omega
theorem aEP {w:Ps A} (h:w.1.length=w.2.length) (i:Nat):(pz w).getD i default=(w.1.getD i default,w.2.getD i default):=by
 by_cases hi:i < w.1.length
 ·have h2:i < w.2.length:=by omega
  have h3:i < (pz w).length:=by rw [vL h]; exact hi
  simp only [List.getD_eq_getElem?_getD,List.getElem?_eq_getElem hi,List.getElem?_eq_getElem h2,List.getElem?_eq_getElem h3,Option.getD_some]
  exact List.getElem_zip
 ·have h2:w.2.length≤i:=by omega
  have h3:(pz w).length≤i:=by rw [vL h]; omega
  simp only [List.getD_eq_getElem?_getD,List.getElem?_eq_none (Nat.le_of_not_lt hi),List.getElem?_eq_none h2,List.getElem?_eq_none h3,Option.getD_none]
  rfl
theorem yH (l:List (ByteArray×A)) (k:ByteArray) (a:ByteArray×A):iR (l++[a]) k=if a.1≠k then iR l k++[a] else iR l k:=by
 unfold iR
 rw [List.filter_append]
 split
 ·rename_i h
  rw [List.filter_cons_of_pos (by simpa using h),List.filter_nil]
 ·rename_i h
  rw [List.filter_cons_of_neg (by simpa using h),List.filter_nil,List.append_nil]
theorem vI {p:ByteArray×A→Bool}:∀ {m:List (ByteArray×A)} {i:Nat},i≤m.length→(∀ j,j < i→p (m.getD j default)=true)→(i=m.length∨p (m.getD i default)=false)→m.takeWhile p=m.take i∧m.dropWhile p=m.drop i
 | [],i,h,_,_=>by
  have:i=0:=by simpa using h
  subst this
  exact ⟨rfl,rfl⟩
 | a::m,0,_,_,h=>by
  have:p a=false:=by
   rcases h with h | h
   ·cases h
   ·exact h
  rw [List.takeWhile_cons,List.dropWhile_cons,this]
  exact ⟨rfl,rfl⟩
 | a::m,i+1,h1,h2,h3=>by
  have ha:p a=true:=h2 0 (by omega)
  obtain ⟨e1,e2⟩:=vI (p:=p) (m:=m) (i:=i) (by simpa using h1) (fun j hj=>h2 (j+1) (by omega)) (h3.imp (fun h=>by simpa using h) fun h=>h)
  rw [List.takeWhile_cons,List.dropWhile_cons,ha,if_pos rfl,if_pos rfl,e1,e2]
  exact ⟨rfl,rfl⟩
theorem aHU {α:Type} (l:List α) (i:Int):gX l 0 i=l.take i.toNat:=by
 unfold gX
 rw [show Int.toNat 0=0 from rfl,List.drop_zero,Int.sub_zero]
theorem aH8 {α:Type} (l:List α) (i:Int):gX l i l.length=l.drop i.toNat:=by
 unfold gX
 by_cases h:0≤i
 ·rw [List.take_of_length_le (by rw [List.length_drop]; omega)]
 ·rw [List.take_of_length_le (by rw [List.length_drop]; omega)]
end
theorem aFI {A:Type} [Inhabited A] {l:List (ByteArray×A)} (h:Rising l) (k:ByteArray) (z:A):decide ((iR l k).length < l.length)=(tD l k z).2:=by
 by_cases hx:∃ x,(k,x)∈l
 ·rw [(aAM h).2 hx]
  obtain ⟨x,hx⟩:=hx
  refine decide_eq_true ?_
  refine Nat.lt_of_le_of_ne (q6 l k) fun e=>?_
  have:=List.length_filter_eq_length_iff.1 e _ hx
  simp at this
 ·have:(tD l k z).2=false:=by
   rw [← Bool.not_eq_true,aAM h]
   exact hx
  rw [this]
  refine decide_eq_false fun hlt=>?_
  have:iR l k=l:=List.filter_eq_self.2 fun a ha=>decide_eq_true fun e=>hx ⟨a.2,by rw [← e]; exact ha⟩
  rw [this] at hlt
  omega
theorem aEX {A:Type} [Inhabited A] (l:List (ByteArray×A)) (k:ByteArray) (x:A):fI (pu l,k,x)=pu (s7 l k x):=by
 unfold fI
 rw [aHP]
theorem y2 {A:Type} [Inhabited A] {l:List (ByteArray×A)} (h:Rising l) (k:ByteArray) (z:A):cM (pu l,k)=((tD l k z).2,pu (iR l k)):=by
 unfold cM
 rw [aHP,← aFI h k z]
 simp [pu]
theorem aDH {A:Type} [Inhabited A] (l:List (ByteArray×A)):(pu l).1.length=l.length:=List.length_map _
theorem aEU {x y:Bool} (h:x=y):¬(!(x==y))=true:=by subst h; simp
end Go.Abs
