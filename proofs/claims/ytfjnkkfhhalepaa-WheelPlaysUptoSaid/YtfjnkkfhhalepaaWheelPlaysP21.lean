/- Functions, and what the code asks of them: PObj2. -/
import Derived.Test.YtfjnkkfhhalepaaWheelPlaysP4
import Derived.Test.YtfjnkkfhhalepaaWheelPlaysP5
import Derived.Test.YtfjnkkfhhalepaaWheelPlaysP6
import Derived.Test.YtfjnkkfhhalepaaWheelPlaysP7
import Derived.Test.YtfjnkkfhhalepaaWheelPlaysP8
import Derived.Test.YtfjnkkfhhalepaaWheelPlaysP9
import Derived.Test.YtfjnkkfhhalepaaWheelPlaysP10
import Derived.Test.YtfjnkkfhhalepaaWheelPlaysP11
import Derived.Test.YtfjnkkfhhalepaaWheelPlaysP12
import Derived.Test.YtfjnkkfhhalepaaWheelPlaysP15
import Derived.Test.YtfjnkkfhhalepaaWheelPlaysP16
import Derived.Test.YtfjnkkfhhalepaaWheelPlaysP17
import Derived.Test.YtfjnkkfhhalepaaWheelPlaysP18
import Derived.Test.YtfjnkkfhhalepaaWheelPlaysP20
set_option linter.unusedVariables false
set_option linter.unusedSimpArgs false
set_option linter.unusedSectionVars false
namespace Go.Abs
open Go
section
variable {A:Type} [Inhabited A]
theorem sE {w:Ps A} (h:w.1.length=w.2.length):(pz w).length=w.1.length:=by unfold pz; rw [List.length_zip,h]; omega
theorem tZ {w:Ps A} (h:w.1.length=w.2.length) (i:Nat):(pz w).getD i default=(w.1.getD i default,w.2.getD i default):=by
 by_cases hi:i < w.1.length
 ·have h2:i < w.2.length:=by omega
  have h3:i < (pz w).length:=by rw [sE h]; exact hi
  simp only [List.getD_eq_getElem?_getD,List.getElem?_eq_getElem hi,List.getElem?_eq_getElem h2,List.getElem?_eq_getElem h3,Option.getD_some]
  exact List.getElem_zip
 ·have h2:w.2.length≤i:=by omega
  have h3:(pz w).length≤i:=by rw [sE h]; omega
  simp only [List.getD_eq_getElem?_getD,List.getElem?_eq_none (Nat.le_of_not_lt hi),List.getElem?_eq_none h2,List.getElem?_eq_none h3,Option.getD_none]
  rfl
theorem aMS {w:Ps A} (h:w.1.length=w.2.length):pu (pz w)=w:=by
 unfold pu pz
 rw [List.map_fst_zip (by omega),List.map_snd_zip (by omega)]
theorem y2 (l:List (ByteArray×A)) (k:ByteArray) (a:ByteArray×A):fQ (l++[a]) k=if a.1≠k then fQ l k++[a] else fQ l k:=by
 unfold fQ
 rw [List.filter_append]
 split
 ·rename_i h
  rw [List.filter_cons_of_pos (by simpa using h),List.filter_nil]
 ·rename_i h
  rw [List.filter_cons_of_neg (by simpa using h),List.filter_nil,List.append_nil]
theorem xB {p:ByteArray×A→Bool}:∀ {m:List (ByteArray×A)} {i:Nat},i≤m.length→(∀ j,j < i→p (m.getD j default)=true)→(i=m.length∨p (m.getD i default)=false)→m.takeWhile p=m.take i∧m.dropWhile p=m.drop i
 | [],i,h,_,_=>by
  have:i=0:=by simpa using h
  subst this
  exact ⟨rfl,rfl⟩
 | a::m,0,_,_,h=>by
  have:p a=false:=by
   rcases h with h | h
   ·cases h
   ·exact h
  rw [List.takeWhile_cons,List.dropWhile_cons,this]
  exact ⟨rfl,rfl⟩
 | a::m,i+1,h1,h2,h3=>by
  have ha:p a=true:=h2 0 (by omega)
  obtain ⟨e1,e2⟩:=xB (p:=p) (m:=m) (i:=i) (by simpa using h1) (fun j hj=>h2 (j+1) (by omega)) (h3.imp (fun h=>by simpa using h) fun h=>h)
  rw [List.takeWhile_cons,List.dropWhile_cons,ha,if_pos rfl,if_pos rfl,e1,e2]
  exact ⟨rfl,rfl⟩
theorem aGY {k:ByteArray} {z:A}:∀ {l:List (ByteArray×A)} {i:Nat},i < l.length→(∀ j,j < i→(l.getD j default).1≠k)→(l.getD i default).1=k→kH l k z=((l.getD i default).2,true)
 | [],i,h,_,_=>by cases h
 | a::l,0,_,_,h=>by
  have h:a.1=k:=h
  unfold kH
  rw [List.find?_cons_of_pos (by simpa using h)]
  rfl
 | a::l,i+1,h1,h2,h3=>by
  have ha:a.1≠k:=h2 0 (by omega)
  have:=aGY (z:=z) (l:=l) (i:=i) (by simpa using h1) (fun j hj=>h2 (j+1) (by omega)) h3
  unfold kH at this ⊢
  rw [List.find?_cons_of_neg (by simpa using ha),this]
  rfl
theorem aLD {k:ByteArray} {z:A} {l:List (ByteArray×A)} (h:∀ j,j < l.length→(l.getD j default).1≠k):kH l k z=(z,false):=by
 refine yQ fun x hx=>?_
 obtain ⟨i,hi,e⟩:=List.mem_iff_getElem.1 hx
 refine h i hi ?_
 rw [List.getD_eq_getElem?_getD,List.getElem?_eq_getElem hi,Option.getD_some,e]
theorem aIL {α:Type} (l:List α) (i:Int):kE l 0 i=l.take i.toNat:=by
 unfold kE
 rw [show Int.toNat 0=0 from rfl,List.drop_zero,Int.sub_zero]
theorem aJT {α:Type} (l:List α) (i:Int):kE l i l.length=l.drop i.toNat:=by
 unfold kE
 by_cases h:0≤i
 ·rw [List.take_of_length_le (by rw [List.length_drop]; omega)]
 ·rw [List.take_of_length_le (by rw [List.length_drop]; omega)]
end
theorem aII {A:Type} [Inhabited A] {l:List (ByteArray×A)} (h:Rising l) (k:ByteArray) (z:A):decide ((fQ l k).length < l.length)=(kH l k z).2:=by
 by_cases hx:∃ x,(k,x)∈l
 ·rw [(aCU h).2 hx]
  obtain ⟨x,hx⟩:=hx
  refine decide_eq_true ?_
  refine Nat.lt_of_le_of_ne (lZ l k) fun e=>?_
  have:=List.length_filter_eq_length_iff.1 e _ hx
  simp at this
 ·have:(kH l k z).2=false:=by
   rw [← Bool.not_eq_true,aCU h]
   exact hx
  rw [this]
  refine decide_eq_false fun hlt=>?_
  have:fQ l k=l:=List.filter_eq_self.2 fun a ha=>decide_eq_true fun e=>hx ⟨a.2,by rw [← e]; exact ha⟩
  rw [this] at hlt
  omega
theorem aGS {A:Type} [Inhabited A] (l:List (ByteArray×A)) (k:ByteArray) (x:A):fR (pu l,k,x)=pu (vH l k x):=by
 unfold fR
 rw [aD4]
theorem aBX {A:Type} [Inhabited A] {l:List (ByteArray×A)} (h:Rising l) (k:ByteArray) (z:A):cF (pu l,k)=((kH l k z).2,pu (fQ l k)):=by
 unfold cF
 rw [aD4,← aII h k z]
 simp [pu]
theorem aLJ {A:Type} [Inhabited A] (l:List (ByteArray×A)) (k:ByteArray) (z:A):dF z (pu l,k)=((kH l k z).1,(kH l k z).2,pu l):=by
 unfold dF
 rw [aD4]
theorem aL6 {A:Type} [Inhabited A] (l:List (ByteArray×A)):(pu l).1.length=l.length:=List.length_map _
theorem t9 {x y:Bool} (h:x=y):¬(!(x==y))=true:=by subst h; simp
theorem aF6 {A:Type}:∀ (ks:List ByteArray) (l:List (ByteArray×A)),ks.foldl fQ l=l.filter fun x=>ks.all fun y=>decide (x.1≠y)
 | [],_=>(List.filter_eq_self.2 fun _ _=>rfl).symm
 | k::ks,l=>by
  rw [List.foldl_cons,aF6 ks]
  unfold fQ
  rw [List.filter_filter]
  refine List.filter_congr fun x _=>?_
  rw [List.all_cons,Bool.and_comm]
end Go.Abs
