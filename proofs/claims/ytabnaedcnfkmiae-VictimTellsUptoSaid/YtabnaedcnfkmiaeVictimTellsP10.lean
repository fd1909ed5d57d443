/- Functions, and what the code asks of them: PFeasLaw. -/
import Derived.KernelRfl
import Derived.Test.YtabnaedcnfkmiaeVictimTellsP3
import Derived.Test.YtabnaedcnfkmiaeVictimTellsP4
import Derived.Test.YtabnaedcnfkmiaeVictimTellsP5
import Derived.Test.YtabnaedcnfkmiaeVictimTellsP6
import Derived.Test.YtabnaedcnfkmiaeVictimTellsP7
import Derived.Test.YtabnaedcnfkmiaeVictimTellsP8
import Derived.Test.YtabnaedcnfkmiaeVictimTellsP9
set_option linter.unusedVariables false
set_option linter.unusedSimpArgs false
-- interregnum/interregnumlaw11.FeasRoom
namespace Go.Abs
open Go
end Go.Abs

/- interregnum/interregnumlaw11.FeasRoom -/
namespace Go.Abs
open Go
set_option linter.unusedVariables false
end Go.Abs

-- interregnum/interregnumlaw11.FeasLess
namespace Go.Abs
open Go
end Go.Abs

/- interregnum/interregnumlaw11.FeasLess -/
namespace Go.Abs
open Go
set_option linter.unusedVariables false
end Go.Abs

/- The laws of layer 11. -/
namespace Go.Abs
open Go

theorem yW {a b:b8}:(dU (a,b)).2=0↔aN a=true∧aN b=true∧aN (p9 a b)=true:=by
 have hne:¬((-1:Int)=1):=by decide
 unfold dU cR
 simp only [hne,if_false]
 by_cases h:aN a=true∧aN b=true
 ·rw [if_neg (not_not_intro h)]
  by_cases h2:aN (p9 a b)=true
  ·rw [if_pos h2]; exact ⟨fun _=>⟨h.1,h.2,h2⟩,fun _=>rfl⟩
  ·rw [if_neg h2]
   exact ⟨fun hh=>absurd hh (show ¬(6:Int)=0 by decide),fun hh=>absurd hh.2.2 h2⟩
 ·rw [if_pos h]
  exact ⟨fun hh=>absurd hh (show ¬(1:Int)=0 by decide),fun hh=>absurd (And.intro hh.1 hh.2.1) h⟩

theorem aHC {a b:b8} (h:(dU (a,b)).2=0):dU (a,b)=(p9 a b,0):=by
 have hne:¬((-1:Int)=1):=by decide
 obtain ⟨h1,h2,h3⟩:=yW.1 h
 unfold dU cR
 simp only [hne,if_false]
 rw [if_neg (not_not_intro (And.intro h1 h2)),if_pos h3]

theorem oP {m:bM} {l:List bQ}:(aX (m,l)).2=0↔(dK (dP l m.1.1)).2=0∧(dU (m.1.2.1,(dK (dP l m.1.1)).1)).2=0:=by
 unfold aX
 simp only
 by_cases h:(dK (dP l m.1.1)).2=0
 ·rw [if_neg (not_not_intro h)]
  exact ⟨fun hh=>⟨h,hh⟩,fun hh=>hh.2⟩
 ·rw [if_pos h]
  exact ⟨fun hh=>absurd hh h,fun hh=>absurd hh.1 h⟩

theorem nT {m:bM} {l:List bQ} (h:(aX (m,l)).2=0):aX (m,l)=(p9 m.1.2.1 (dX (dP l m.1.1)),0):=by
 obtain ⟨h1,h2⟩:=oP.1 h
 unfold aX
 simp only
 rw [if_neg (not_not_intro h1),aHC h2,rE h1]

theorem y9 {α:Type} (f:α→Nat) (hf:∀ x,1≤f x) (l:List α):l.length≤(l.map f).sum:=by
 induction l with
 | nil=>exact Nat.le_refl _
 | cons x l ih =>
  have:=hf x
  simp only [List.map_cons,List.sum_cons,List.length_cons]
  omega

theorem xX {l:List bQ} (h:f9.size l≤1048576):L20 l:=by
 have h1:(l.map oY.size).sum+1≤1048576:=h
 have h2:=y9 oY.size (fun x=>Nat.le_add_left 1 _) l
 unfold L20
 omega
theorem s9 {l:List hO} (h:cL.size l≤1048576):L20 l:=by
 have h1:(l.map eY.size).sum+1≤1048576:=h
 have h2:=y9 eY.size (fun x=>Nat.le_add_left 1 _) l
 unfold L20
 omega

theorem yE {m:bM} (h:eO.size m≤1048576):fH m.1∧L20 m.1.2.2:=by
 have h1:j5.size m.1+(1+1)+1≤1048576:=h
 have h2:m.1.1.size+1+(1+(1+1)+1+cL.size m.1.2.2)+1+(1+1)+1≤1048576:=h
 exact ⟨yT (by omega),s9 (by omega)⟩
theorem wA {t:bO} (h:fZ.size t≤1048576):L20 t.2.2.2.2.1:=by
 have h:t.1.size+1+(t.2.1.size+1+(1+(1+(1+1)+1+(cL.size t.2.2.2.2.1+(t.2.2.2.2.2.1.size+1+(t.2.2.2.2.2.2.1.size+1+1))))))+1≤1048576:=h
 exact s9 (by omega)

theorem aF4 {l m:List b8} (hs:l.Sublist m) (hr:∀ x∈m,aN x=true):(0≤(dX l).1∧(dX l).1≤(dX m).1)∧(0≤(dX l).2.1∧(dX l).2.1≤(dX m).2.1)∧(0≤(dX l).2.2∧(dX l).2.2≤(dX m).2.2):=by
 induction hs with
 | slnil=>simp [dX,lA]
 | @cons l m x h ih =>
  have ih:=ih fun y hy=>hr y (List.mem_cons_of_mem _ hy)
  have hx:=cA.1 (hr x (by simp))
  simp only [dX,eA]
  omega
 | @cons_cons l m x h ih =>
  have ih:=ih fun y hy=>hr y (List.mem_cons_of_mem _ hy)
  have hx:=cA.1 (hr x (by simp))
  simp only [dX,eA]
  omega

theorem aEB {l m:List bQ} (h:l.Sublist m) (n:ByteArray):(dP l n).Sublist (dP m n):=(h.filter _).map _

theorem aGK {m:bM} {l l':List bQ} (hl:l'.Sublist l) (h:(aX (m,l)).2=0):(aX (m,l')).2=0∧cT ((aX (m,l)).1,(aX (m,l')).1)=true:=by
 obtain ⟨h1,h2⟩:=oP.1 h
 have hs:=vJ.1 h1
 have hb:=aEB hl m.1.1
 have hv:=aF4 hb hs.1
 have hr:=cA.1 hs.2
 have s1:(dK (dP l' m.1.1)).2=0:=vJ.2 ⟨fun x hx=>hs.1 x (hb.subset hx),by rw [cA]; omega⟩
 obtain ⟨k1,k2,k3⟩:=yW.1 h2
 rw [rE h1] at k2 k3
 have r3:=cA.1 k3
 have rc:=cA.1 k1
 have s2:(dU (m.1.2.1,(dK (dP l' m.1.1)).1)).2=0:=by
  rw [rE s1]
  refine yW.2 ⟨k1,by rw [cA]; omega,?_⟩
  rw [cA]
  simp only [p9] at r3 ⊢
  omega
 have s3:=oP.2 ⟨s1,s2⟩
 refine ⟨s3,?_⟩
 rw [nT h,nT s3,sD]
 simp only [p9]
 omega

end Go.Abs
