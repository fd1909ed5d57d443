/- Functions, and what the code asks of them: PObj2. -/
import Derived.Test.YtcmjinkfgbadoaaBucketPlaysP4
import Derived.Test.YtcmjinkfgbadoaaBucketPlaysP5
import Derived.Test.YtcmjinkfgbadoaaBucketPlaysP6
import Derived.Test.YtcmjinkfgbadoaaBucketPlaysP7
import Derived.Test.YtcmjinkfgbadoaaBucketPlaysP8
import Derived.Test.YtcmjinkfgbadoaaBucketPlaysP9
import Derived.Test.YtcmjinkfgbadoaaBucketPlaysP10
import Derived.Test.YtcmjinkfgbadoaaBucketPlaysP11
import Derived.Test.YtcmjinkfgbadoaaBucketPlaysP12
import Derived.Test.YtcmjinkfgbadoaaBucketPlaysP15
import Derived.Test.YtcmjinkfgbadoaaBucketPlaysP16
import Derived.Test.YtcmjinkfgbadoaaBucketPlaysP17
import Derived.Test.YtcmjinkfgbadoaaBucketPlaysP18
import Derived.Test.YtcmjinkfgbadoaaBucketPlaysP20
set_option linter.unusedVariables false
set_option linter.unusedSimpArgs false
set_option linter.unusedSectionVars false
namespace Go.Abs
open Go
section
variable {A:Type} [Inhabited A]
theorem r6 {w:Ps A} (h:w.1.length=w.2.length):(pz w).length=w.1.length:=by unfold pz; rw [List.length_zip,h]; omega
theorem uH {w:Ps A} (h:w.1.length=w.2.length) (i:Nat):(pz w).getD i default=(w.1.getD i default,w.2.getD i default):=by
 by_cases hi:i < w.1.length
 ·have h2:i < w.2.length:=by omega
  have h3:i < (pz w).length:=by rw [r6 h]; exact hi
  simp only [List.getD_eq_getElem?_getD,List.getElem?_eq_getElem hi,List.getElem?_eq_getElem h2,List.getElem?_eq_getElem h3,Option.getD_some]
  exact List.getElem_zip
 ·have h2:w.2.length≤i:=by omega
  have h3:(pz w).length≤i:=by rw [r6 h]; omega
  simp only [List.getD_eq_getElem?_getD,List.getElem?_eq_none (Nat.le_of_not_lt hi),List.getElem?_eq_none h2,List.getElem?_eq_none h3,Option.getD_none]
  rfl
theorem aAB (l:List (ByteArray×A)) (k:ByteArray) (a:ByteArray×A):jC (l++[a]) k=if a.1≠k then jC l k++[a] else jC l k:=by
 unfold jC
 rw [List.filter_append]
 split
 ·rename_i h
  rw [List.filter_cons_of_pos (by simpa using h),List.filter_nil]
 ·rename_i h
  rw [List.filter_cons_of_neg (by simpa using h),List.filter_nil,List.append_nil]
theorem wK {p:ByteArray×A→Bool}:∀ {m:List (ByteArray×A)} {i:Nat},i≤m.length→(∀ j,j < i→p (m.getD j default)=true)→(i=m.length∨p (m.getD i default)=false)→m.takeWhile p=m.take i∧m.dropWhile p=m.drop i
 | [],i,h,_,_=>by
  have:i=0:=by simpa using h
  subst this
  exact ⟨rfl,rfl⟩
 | a::m,0,_,_,h=>by
  have:p a=false:=by
   rcases h with h | h
   ·cases h
   ·exact h
  rw [List.takeWhile_cons,List.dropWhile_cons,this]
  exact ⟨rfl,rfl⟩
 | a::m,i+1,h1,h2,h3=>by
  have ha:p a=true:=h2 0 (by omega)
  obtain ⟨e1,e2⟩:=wK (p:=p) (m:=m) (i:=i) (by simpa using h1) (fun j hj=>h2 (j+1) (by omega)) (h3.imp (fun h=>by simpa using h) fun h=>h)
  rw [List.takeWhile_cons,List.dropWhile_cons,ha,if_pos rfl,if_pos rfl,e1,e2]
  exact ⟨rfl,rfl⟩
theorem aGR {k:ByteArray} {z:A}:∀ {l:List (ByteArray×A)} {i:Nat},i < l.length→(∀ j,j < i→(l.getD j default).1≠k)→(l.getD i default).1=k→kT l k z=((l.getD i default).2,true)
 | [],i,h,_,_=>by cases h
 | a::l,0,_,_,h=>by
  have h:a.1=k:=h
  unfold kT
  rw [List.find?_cons_of_pos (by simpa using h)]
  rfl
 | a::l,i+1,h1,h2,h3=>by
  have ha:a.1≠k:=h2 0 (by omega)
  have:=aGR (z:=z) (l:=l) (i:=i) (by simpa using h1) (fun j hj=>h2 (j+1) (by omega)) h3
  unfold kT at this ⊢
  rw [List.find?_cons_of_neg (by simpa using ha),this]
  rfl
theorem aMA {k:ByteArray} {z:A} {l:List (ByteArray×A)} (h:∀ j,j < l.length→(l.getD j default).1≠k):kT l k z=(z,false):=by
 refine aAM fun x hx=>?_
 obtain ⟨i,hi,e⟩:=List.mem_iff_getElem.1 hx
 refine h i hi ?_
 rw [List.getD_eq_getElem?_getD,List.getElem?_eq_getElem hi,Option.getD_some,e]
theorem aKN {α:Type} (l:List α) (i:Int):kR l 0 i=l.take i.toNat:=by
 unfold kR
 rw [show Int.toNat 0=0 from rfl,List.drop_zero,Int.sub_zero]
theorem aK3 {α:Type} (l:List α) (i:Int):kR l i l.length=l.drop i.toNat:=by
 unfold kR
 by_cases h:0≤i
 ·rw [List.take_of_length_le (by rw [List.length_drop]; omega)]
 ·rw [List.take_of_length_le (by rw [List.length_drop]; omega)]
end
theorem aHQ {A:Type} [Inhabited A] {l:List (ByteArray×A)} (h:Rising l) (k:ByteArray) (z:A):decide ((jC l k).length < l.length)=(kT l k z).2:=by
 by_cases hx:∃ x,(k,x)∈l
 ·rw [(aDB h).2 hx]
  obtain ⟨x,hx⟩:=hx
  refine decide_eq_true ?_
  refine Nat.lt_of_le_of_ne (o8 l k) fun e=>?_
  have:=List.length_filter_eq_length_iff.1 e _ hx
  simp at this
 ·have:(kT l k z).2=false:=by
   rw [← Bool.not_eq_true,aDB h]
   exact hx
  rw [this]
  refine decide_eq_false fun hlt=>?_
  have:jC l k=l:=List.filter_eq_self.2 fun a ha=>decide_eq_true fun e=>hx ⟨a.2,by rw [← e]; exact ha⟩
  rw [this] at hlt
  omega
theorem aG9 {A:Type} [Inhabited A] (l:List (ByteArray×A)) (k:ByteArray) (x:A):fU (pu l,k,x)=pu (tV l k x):=by
 unfold fU
 rw [aD4]
theorem aAY {A:Type} [Inhabited A] {l:List (ByteArray×A)} (h:Rising l) (k:ByteArray) (z:A):cU (pu l,k)=((kT l k z).2,pu (jC l k)):=by
 unfold cU
 rw [aD4,← aHQ h k z]
 simp [pu]
theorem aGT {A:Type} [Inhabited A] (l:List (ByteArray×A)) (k:ByteArray) (z:A):cB z (pu l,k)=((kT l k z).1,(kT l k z).2,pu l):=by
 unfold cB
 rw [aD4]
theorem aM0 {A:Type} [Inhabited A] (l:List (ByteArray×A)):(pu l).1.length=l.length:=List.length_map _
theorem t7 {x y:Bool} (h:x=y):¬(!(x==y))=true:=by subst h; simp
end Go.Abs
