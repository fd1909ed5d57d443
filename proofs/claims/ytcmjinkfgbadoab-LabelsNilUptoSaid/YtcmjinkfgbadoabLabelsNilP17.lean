/- Functions, and what the code asks of them: PPdqSt2. -/
import Derived.Test.YtcmjinkfgbadoabLabelsNilP4
import Derived.Test.YtcmjinkfgbadoabLabelsNilP5
import Derived.Test.YtcmjinkfgbadoabLabelsNilP6
import Derived.Test.YtcmjinkfgbadoabLabelsNilP7
import Derived.Test.YtcmjinkfgbadoabLabelsNilP8
import Derived.Test.YtcmjinkfgbadoabLabelsNilP9
import Derived.Test.YtcmjinkfgbadoabLabelsNilP10
import Derived.Test.YtcmjinkfgbadoabLabelsNilP12
import Derived.Test.YtcmjinkfgbadoabLabelsNilP16
set_option linter.unusedVariables false
set_option linter.unusedSimpArgs false
set_option linter.unusedSectionVars false
namespace Go.Abs
open Go
theorem f218.ok (a:List ByteArray×Int×Int×Int) (h:hT a):f218.vc a:=by
 obtain ⟨l,a,b,pv⟩:=a
 obtain ⟨h1,h2,h3,h4,h5⟩:=h
 simp only at h1 h2 h3 h4 h5
 generalize hX:Sort.partitionEqual slt l.toArray a.toNat b.toNat pv.toNat=X
 have res:∀ i:Int,∀ c:List ByteArray,0≤i→(i.toNat,c.toArray)=X→(i,c)=cT slt (l,a,b,pv):=fun i c h0 e=>by
  unfold cT
  simp only
  rw [hX,← e]
  simp only
  rw [show ((i.toNat:Nat):Int)=i from by omega]
 refine ⟨by simp only; omega,by simp only; omega,h1,by simp only; omega,h1,by simp only; omega,by simp only; omega,by simp only; omega,by simp only; omega,by simp only; omega,by simp only; omega,by simp only; omega,
  fun y=>a < y.1∧y.1≤b∧a≤y.2.1∧y.2.1 < b∧y.2.2.length=l.length∧Sort.partEqLoop slt a.toNat y.1.toNat y.2.1.toNat y.2.2.toArray=X,fun y=>(y.2.1+1 - y.1).toNat,⟨by simp only; omega,by simp only; omega,by simp only; omega,by simp only; omega,by simp only; rw [List.length_set,List.length_set],?_⟩,fun y hy=>?_⟩
 ·rw [← hX]
  unfold Sort.partitionEqual
  simp only
  rw [eK,show (a+1).toNat=a.toNat+1 from by omega,show (b - 1).toNat=b.toNat - 1 from by omega]
  rfl
 ·obtain ⟨i0,j0,c⟩:=y
  obtain ⟨g1,g2,g3,g4,g5,g6⟩:=hy
  simp only at g1 g2 g3 g4 g5 g6 ⊢
  rw [xH] at g6
  refine ⟨fun z=>z.2.2=c∧i0≤z.1∧z.1≤b∧z.2.1=j0∧iZ slt a.toNat z.1.toNat (Sort.scanDown (fun x=>slt c.toArray[a.toNat]! x) c.toArray z.1.toNat j0.toNat) c.toArray=X,⟨fun z=>z.2.2=c∧i0≤z.1∧z.1≤b∧z.2.1=j0∧iZ slt a.toNat (Sort.scanUp (fun x=>!slt c.toArray[a.toNat]! x) c.toArray j0.toNat z.1.toNat) (Sort.scanDown (fun x=>slt c.toArray[a.toNat]! x) c.toArray (Sort.scanUp (fun x=>!slt c.toArray[a.toNat]! x) c.toArray j0.toNat z.1.toNat) j0.toNat) c.toArray=X,fun z=>(b - z.1).toNat,⟨rfl,Int.le_refl _,g2,rfl,g6⟩,fun z hz=>?_⟩,fun z hz=>?_⟩
  ·obtain ⟨i,j,d⟩:=z
   obtain ⟨e1,e2,e3,e4,e5⟩:=hz
   simp only at e1 e2 e3 e4 e5 ⊢
   subst e1; subst e4
   refine ⟨fun hij=>⟨by omega,by omega,by omega,by omega,fun hl=>?_,fun hl=>?_⟩,fun hij=>?_⟩
   ·have hl:=stN hl
    rw [← d7] at hl
    rw [aLT slt (by omega) hl,show i.toNat+1=(i+1).toNat from by omega] at e5
    exact ⟨by omega,by omega,⟨rfl,by omega,by omega,rfl,e5⟩,by omega⟩
   ·have hl:=stY (Classical.not_not.1 hl)
    rw [← d7] at hl
    rw [aJ7 slt (.inr hl)] at e5
    exact ⟨rfl,e2,e3,rfl,e5⟩
   ·rw [aJ7 slt (.inl (by omega))] at e5
    exact ⟨rfl,e2,e3,rfl,e5⟩
  ·obtain ⟨i1,j1,d⟩:=z
   obtain ⟨e1,e2,e3,e4,e5⟩:=hz
   simp only at e1 e2 e3 e4 e5 ⊢
   subst e1; subst e4
   refine ⟨fun z=>z.2.2=d∧z.1=i1∧a≤z.2.1∧z.2.1≤j1∧iZ slt a.toNat i1.toNat z.2.1.toNat d.toArray=X,⟨fun z=>z.2.2=d∧z.1=i1∧a≤z.2.1∧z.2.1≤j1∧iZ slt a.toNat i1.toNat (Sort.scanDown (fun x=>slt d.toArray[a.toNat]! x) d.toArray i1.toNat z.2.1.toNat) d.toArray=X,fun z=>(z.2.1+1).toNat,⟨rfl,rfl,g3,Int.le_refl _,e5⟩,fun z hz=>?_⟩,fun z hz=>?_⟩
   ·obtain ⟨i,j,c⟩:=z
    obtain ⟨f1,f2,f3,f4,f5⟩:=hz
    simp only at f1 f2 f3 f4 f5 ⊢
    subst f1; subst f2
    refine ⟨fun hij=>⟨by omega,by omega,by omega,by omega,fun hl=>?_,fun hl=>?_⟩,fun hij=>?_⟩
    ·have hl:=stY hl
     rw [← d7] at hl
     rw [aKV slt (by omega) (by omega) hl,show j.toNat - 1=(j - 1).toNat from by omega] at f5
     exact ⟨by omega,by omega,⟨rfl,rfl,by omega,by omega,f5⟩,by omega⟩
    ·have hl:=stN hl
     rw [← d7] at hl
     rw [aJK slt (.inr hl)] at f5
     exact ⟨rfl,rfl,f3,f4,f5⟩
    ·rw [aJK slt (.inl (by omega))] at f5
     exact ⟨rfl,rfl,f3,f4,f5⟩
   ·obtain ⟨i,j,c⟩:=z
    obtain ⟨f1,f2,f3,f4,f5⟩:=hz
    simp only at f1 f2 f3 f4 f5 ⊢
    subst f1; subst f2
    unfold iZ at f5
    refine ⟨fun hij=>?_,fun hij=>⟨by omega,by omega,by omega,by omega,by omega,by omega,by omega,by omega,by omega,by omega,by omega,by omega,⟨by omega,by omega,by omega,by omega,by rw [List.length_set,List.length_set]; exact g5,?_⟩,by omega⟩⟩
    ·rw [if_pos (by omega)] at f5
     exact res _ _ (by omega) f5
    ·rw [if_neg (by omega),eK,show i.toNat+1=(i+1).toNat from by omega,show j.toNat - 1=(j - 1).toNat from by omega] at f5
     exact f5
theorem f219.ok (a:List ByteArray×Int×Int×Int) (h:hT a):f219.vc a:=by
 obtain ⟨l,a,b,pv⟩:=a
 obtain ⟨h1,h2,h3,h4,h5⟩:=h
 simp only at h1 h2 h3 h4 h5
 generalize hX:Sort.partition slt l.toArray a.toNat b.toNat pv.toNat=X
 have res:∀ (j:Int) (f:Bool) (c:List ByteArray),0≤j→(j.toNat,f,c.toArray)=X→(j,f,c)=aS slt (l,a,b,pv):=fun i f c h0 e=>by
  unfold aS
  simp only
  rw [hX,← e]
  simp only
  rw [show ((i.toNat:Nat):Int)=i from by omega]
 rw [t4,eK] at hX
 generalize hs:swp l a.toNat pv.toNat=s at hX
 have hsl:s.length=l.length:=by
  rw [← hs]
  unfold swp
  rw [List.length_set,List.length_set]
 refine ⟨by simp only; omega,by simp only; omega,h1,by simp only; omega,h1,by simp only; omega,by simp only; omega,by simp only; omega,by simp only; omega,by simp only; omega,by simp only; omega,by simp only; omega,
  fun z=>z.2.2=s∧a < z.1∧z.1≤b∧z.2.1=b - 1∧i4 slt a.toNat z.1.toNat (Sort.scanDown (fun x=>!slt x s.toArray[a.toNat]!) s.toArray z.1.toNat (b.toNat - 1)) s.toArray=X,
  ⟨fun z=>z.2.2=s∧a < z.1∧z.1≤b∧z.2.1=b - 1∧i4 slt a.toNat (Sort.scanUp (fun x=>slt x s.toArray[a.toNat]!) s.toArray (b.toNat - 1) z.1.toNat) (Sort.scanDown (fun x=>!slt x s.toArray[a.toNat]!) s.toArray (Sort.scanUp (fun x=>slt x s.toArray[a.toNat]!) s.toArray (b.toNat - 1) z.1.toNat) (b.toNat - 1)) s.toArray=X,fun z=>(b - z.1).toNat,⟨hs,by simp only; omega,by simp only; omega,rfl,?_⟩,fun z hz=>?_⟩,fun z hz=>?_⟩
 ·simp only
  rw [show (a+1).toNat=a.toNat+1 from by omega]
  exact hX
 ·obtain ⟨i,j,d⟩:=z
  obtain ⟨e1,e2,e3,e4,e5⟩:=hz
  simp only at e1 e2 e3 e4 e5 ⊢
  subst e1; subst e4
  refine ⟨fun hij=>⟨by omega,by omega,by omega,by omega,fun hl=>?_,fun hl=>?_⟩,fun hij=>?_⟩
  ·have hl:=stY hl
   rw [← d7] at hl
   rw [aGT slt (by omega) hl,show i.toNat+1=(i+1).toNat from by omega] at e5
   exact ⟨by omega,by omega,⟨rfl,by omega,by omega,rfl,e5⟩,by omega⟩
  ·have hl:=stN hl
   rw [← d7] at hl
   rw [aBA slt (.inr hl)] at e5
   exact ⟨rfl,e2,e3,rfl,e5⟩
  ·rw [aBA slt (.inl (by omega))] at e5
   exact ⟨rfl,e2,e3,rfl,e5⟩
 ·obtain ⟨i1,j1,d⟩:=z
  obtain ⟨e1,e2,e3,e4,e5⟩:=hz
  simp only at e1 e2 e3 e4 e5 ⊢
  subst e1
  refine ⟨fun z=>z.2.2=d∧z.1=i1∧a≤z.2.1∧z.2.1 < b∧i4 slt a.toNat i1.toNat z.2.1.toNat d.toArray=X,⟨fun z=>z.2.2=d∧z.1=i1∧a≤z.2.1∧z.2.1 < b∧i4 slt a.toNat i1.toNat (Sort.scanDown (fun x=>!slt x d.toArray[a.toNat]!) d.toArray i1.toNat z.2.1.toNat) d.toArray=X,fun z=>(z.2.1+1).toNat,⟨rfl,rfl,by simp only; omega,by simp only; omega,by simp only; rw [show j1.toNat=b.toNat - 1 from by omega]; exact e5⟩,fun z hz=>?_⟩,fun z hz=>?_⟩
  ·obtain ⟨i,j,c⟩:=z
   obtain ⟨f1,f2,f3,f4,f5⟩:=hz
   simp only at f1 f2 f3 f4 f5 ⊢
   subst f1; subst f2
   refine ⟨fun hij=>⟨by omega,by omega,by omega,by omega,fun hl=>?_,fun hl=>?_⟩,fun hij=>?_⟩
   ·have hl:=stN hl
    rw [← d7] at hl
    rw [aGH slt (by omega) (by omega) hl,show j.toNat - 1=(j - 1).toNat from by omega] at f5
    exact ⟨by omega,by omega,⟨rfl,rfl,by omega,by omega,f5⟩,by omega⟩
   ·have hl:=stY (Classical.not_not.1 hl)
    rw [← d7] at hl
    rw [aBY slt (.inr hl)] at f5
    exact ⟨rfl,rfl,f3,f4,f5⟩
   ·rw [aBY slt (.inl (by omega))] at f5
    exact ⟨rfl,rfl,f3,f4,f5⟩
  ·obtain ⟨i2,j2,c⟩:=z
   obtain ⟨f1,f2,f3,f4,f5⟩:=hz
   simp only at f1 f2 f3 f4 f5 ⊢
   subst f1; subst f2
   unfold i4 at f5
   refine ⟨fun hij=>⟨by omega,by omega,by omega,by omega,by omega,by omega,by omega,by omega,?_⟩,fun hij=>⟨by omega,by omega,by omega,by omega,by omega,by omega,by omega,by omega,by omega,by omega,by omega,by omega,?_⟩⟩
   ·rw [if_pos (by omega),eK] at f5
    exact res _ _ _ (by omega) f5
   ·rw [if_neg (by omega),eK] at f5
    refine ⟨fun y=>a < y.1∧y.1≤b∧a≤y.2.1∧y.2.1 < b∧y.2.2.length=l.length∧((Sort.partLoop slt a.toNat y.1.toNat y.2.1.toNat y.2.2.toArray).1,false,Sort.swp (Sort.partLoop slt a.toNat y.1.toNat y.2.1.toNat y.2.2.toArray).2 (Sort.partLoop slt a.toNat y.1.toNat y.2.1.toNat y.2.2.toArray).1 a.toNat)=X,fun y=>(y.2.1+1 - y.1).toNat,⟨by simp only; omega,by simp only; omega,by simp only; omega,by simp only; omega,by simp only; rw [List.length_set,List.length_set]; exact hsl,?_⟩,fun y hy=>?_⟩
    ·rw [show i2.toNat+1=(i2+1).toNat from by omega,show j2.toNat - 1=(j2 - 1).toNat from by omega] at f5
     exact f5
    ·clear f5
     obtain ⟨i0,j0,c⟩:=y
     obtain ⟨g1,g2,g3,g4,g5,g6⟩:=hy
     simp only at g1 g2 g3 g4 g5 g6 ⊢
     rw [aAM] at g6
     generalize hR:(fun r:Nat×Array ByteArray=>(r.1,false,Sort.swp r.2 r.1 a.toNat))=R
     have g6:R (mF slt a.toNat (Sort.scanUp (fun x=>slt x c.toArray[a.toNat]!) c.toArray j0.toNat i0.toNat) (Sort.scanDown (fun x=>!slt x c.toArray[a.toNat]!) c.toArray (Sort.scanUp (fun x=>slt x c.toArray[a.toNat]!) c.toArray j0.toNat i0.toNat) j0.toNat) c.toArray)=X:=by rw [← hR]; exact g6
     refine ⟨fun z=>z.2.2=c∧i0≤z.1∧z.1≤b∧z.2.1=j0∧R (mF slt a.toNat z.1.toNat (Sort.scanDown (fun x=>!slt x c.toArray[a.toNat]!) c.toArray z.1.toNat j0.toNat) c.toArray)=X,⟨fun z=>z.2.2=c∧i0≤z.1∧z.1≤b∧z.2.1=j0∧R (mF slt a.toNat (Sort.scanUp (fun x=>slt x c.toArray[a.toNat]!) c.toArray j0.toNat z.1.toNat) (Sort.scanDown (fun x=>!slt x c.toArray[a.toNat]!) c.toArray (Sort.scanUp (fun x=>slt x c.toArray[a.toNat]!) c.toArray j0.toNat z.1.toNat) j0.toNat) c.toArray)=X,fun z=>(b - z.1).toNat,⟨rfl,Int.le_refl _,g2,rfl,g6⟩,fun z hz=>?_⟩,fun z hz=>?_⟩
     ·obtain ⟨i,j,d⟩:=z
      obtain ⟨e1,e2,e3,e4,e5⟩:=hz
      simp only at e1 e2 e3 e4 e5 ⊢
      subst e1; subst e4
      refine ⟨fun hij=>⟨by omega,by omega,by omega,by omega,fun hl=>?_,fun hl=>?_⟩,fun hij=>?_⟩
      ·have hl:=stY hl
       rw [← d7] at hl
       rw [aGT slt (by omega) hl,show i.toNat+1=(i+1).toNat from by omega] at e5
       exact ⟨by omega,by omega,⟨rfl,by omega,by omega,rfl,e5⟩,by omega⟩
      ·have hl:=stN hl
       rw [← d7] at hl
       rw [aBA slt (.inr hl)] at e5
       exact ⟨rfl,e2,e3,rfl,e5⟩
      ·rw [aBA slt (.inl (by omega))] at e5
       exact ⟨rfl,e2,e3,rfl,e5⟩
     ·obtain ⟨i1,j1,d⟩:=z
      obtain ⟨e1,e2,e3,e4,e5⟩:=hz
      simp only at e1 e2 e3 e4 e5 ⊢
      subst e1; subst e4
      refine ⟨fun z=>z.2.2=d∧z.1=i1∧a≤z.2.1∧z.2.1≤j1∧R (mF slt a.toNat i1.toNat z.2.1.toNat d.toArray)=X,⟨fun z=>z.2.2=d∧z.1=i1∧a≤z.2.1∧z.2.1≤j1∧R (mF slt a.toNat i1.toNat (Sort.scanDown (fun x=>!slt x d.toArray[a.toNat]!) d.toArray i1.toNat z.2.1.toNat) d.toArray)=X,fun z=>(z.2.1+1).toNat,⟨rfl,rfl,g3,Int.le_refl _,e5⟩,fun z hz=>?_⟩,fun z hz=>?_⟩
      ·obtain ⟨i,j,c⟩:=z
       obtain ⟨f1,f2,f3,f4,f5⟩:=hz
       simp only at f1 f2 f3 f4 f5 ⊢
       subst f1; subst f2
       refine ⟨fun hij=>⟨by omega,by omega,by omega,by omega,fun hl=>?_,fun hl=>?_⟩,fun hij=>?_⟩
       ·have hl:=stN hl
        rw [← d7] at hl
        rw [aGH slt (by omega) (by omega) hl,show j.toNat - 1=(j - 1).toNat from by omega] at f5
        exact ⟨by omega,by omega,⟨rfl,rfl,by omega,by omega,f5⟩,by omega⟩
       ·have hl:=stY (Classical.not_not.1 hl)
        rw [← d7] at hl
        rw [aBY slt (.inr hl)] at f5
        exact ⟨rfl,rfl,f3,f4,f5⟩
       ·rw [aBY slt (.inl (by omega))] at f5
        exact ⟨rfl,rfl,f3,f4,f5⟩
      ·obtain ⟨i,j,c⟩:=z
       obtain ⟨f1,f2,f3,f4,f5⟩:=hz
       simp only at f1 f2 f3 f4 f5 ⊢
       subst f1; subst f2; subst hR
       unfold mF at f5
       refine ⟨fun hij=>⟨by omega,by omega,by omega,by omega,by omega,by omega,by omega,by omega,?_⟩,fun hij=>⟨by omega,by omega,by omega,by omega,by omega,by omega,by omega,by omega,by omega,by omega,by omega,by omega,⟨by omega,by omega,by omega,by omega,by rw [List.length_set,List.length_set]; exact g5,?_⟩,by omega⟩⟩
       ·rw [if_pos (by omega)] at f5
        simp only [eK] at f5
        exact res _ _ _ (by omega) f5
       ·rw [if_neg (by omega),eK,show i.toNat+1=(i+1).toNat from by omega,show j.toNat - 1=(j - 1).toNat from by omega] at f5
        exact f5
theorem f216.ok (a:List ByteArray×Int×Int) (h:fS a):f216.vc a:=by
 obtain ⟨l,a,b⟩:=a
 obtain ⟨⟨h1,h2,h3,h4⟩,h5⟩:=h
 simp only at h1 h2 h3 h4 h5
 generalize hX:Sort.partialInsertionSort slt l.toArray a.toNat b.toNat=X
 have res:∀ (f:Bool) (c:List ByteArray),(c.toArray,f)=X→(f,c)=bI slt (l,a,b):=fun f c e=>by
  unfold bI
  simp only
  rw [hX,← e]
 refine ⟨by simp only; omega,by simp only; omega,fun y=>a < y.1∧y.1≤b∧0≤y.2.1∧y.2.1≤5∧y.2.2.length=l.length∧Sort.partialIns slt a.toNat b.toNat (5 - y.2.1).toNat y.1.toNat y.2.2.toArray=X,fun y=>(5 - y.2.1).toNat,⟨by simp only; omega,by simp only; omega,Int.le_refl _,by simp only; omega,rfl,?_⟩,fun y hy=>?_⟩
 ·rw [← hX]
  simp only
  rw [show (a+1).toNat=a.toNat+1 from by omega]
  rfl
 ·obtain ⟨i0,k,c⟩:=y
  obtain ⟨g1,g2,g3,g4,g5,g6⟩:=hy
  simp only at g1 g2 g3 g4 g5 g6 ⊢
  refine ⟨fun hk=>?_,fun hk=>?_⟩
  ·rw [show (5 - k).toNat=(5 - (k+1)).toNat+1 from by omega,tW] at g6
   refine ⟨fun z=>a < z.1∧z.1≤b∧z.2.1=k∧z.2.2.length=l.length∧Sort.partialIns slt a.toNat b.toNat (5 - (k+1)).toNat z.1.toNat z.2.2.toArray=X,
    ⟨fun z=>a < z.1∧z.1≤b∧z.2.1=k∧z.2.2=c∧lV slt a.toNat b.toNat (5 - (k+1)).toNat z.1.toNat c.toArray=X,⟨fun z=>a < z.1∧z.1≤b∧z.2.1=k∧z.2.2=c∧lV slt a.toNat b.toNat (5 - (k+1)).toNat (Sort.scanSorted slt c.toArray b.toNat z.1.toNat) c.toArray=X,fun z=>(b - z.1).toNat,⟨g1,g2,rfl,rfl,g6⟩,fun z hz=>?_⟩,fun z hz=>?_⟩,fun z hz=>?_⟩
   ·obtain ⟨i,k',d⟩:=z
    obtain ⟨e1,e2,e3,e4,e5⟩:=hz
    simp only at e1 e2 e3 e4 e5 ⊢
    subst e3; subst e4
    have x1:i.toNat - 1=(i - 1).toNat:=by omega
    refine ⟨fun hib=>⟨by omega,by omega,by omega,by omega,by omega,by omega,fun hl=>?_,fun hl=>?_⟩,fun hib=>?_⟩
    ·have hl:=stN hl
     rw [← d7,← x1] at hl
     rw [wU slt (by omega) hl,show i.toNat+1=(i+1).toNat from by omega] at e5
     exact ⟨by omega,by omega,⟨by omega,by omega,rfl,rfl,e5⟩,by omega⟩
    ·have hl:=stY (Classical.not_not.1 hl)
     rw [← d7,← x1] at hl
     rw [pC slt (.inr hl)] at e5
     exact ⟨e1,e2,rfl,rfl,e5⟩
    ·rw [pC slt (.inl (by omega))] at e5
     exact ⟨e1,e2,rfl,rfl,e5⟩
   ·obtain ⟨i,k',d⟩:=z
    obtain ⟨e1,e2,e3,e4,e5⟩:=hz
    simp only at e1 e2 e3 e4 e5 ⊢
    subst e3; subst e4
    unfold lV at e5
    have x1:i.toNat - 1=(i - 1).toNat:=by omega
    refine ⟨fun hib=>?_,fun hib=>⟨by omega,by omega,fun h50=>?_,fun h50=>?_⟩⟩
    ·rw [if_pos (by omega)] at e5
     exact res _ _ e5
    ·rw [if_neg (by omega),if_pos (by omega)] at e5
     exact res _ _ e5
    ·rw [if_neg (by omega),if_neg (by omega),x1,eK] at e5
     have hsw:(swp d i.toNat (i - 1).toNat).length=d.length:=by
      unfold swp
      rw [List.length_set,List.length_set]
     have goal0:∀ (e:List ByteArray),e.length=l.length→Sort.partialIns slt a.toNat b.toNat (5 - (k'+1)).toNat i.toNat (if b.toNat - i.toNat ≥ 2 then Sort.shiftUp slt b.toNat (i.toNat+1) e.toArray else e.toArray)=X→_:=fun e he h=>And.intro he h
     have e5:∃ e0:Array ByteArray,(if i.toNat - a.toNat ≥ 2 then Sort.shiftDown slt (i - 1).toNat (swp d i.toNat (i - 1).toNat).toArray else (swp d i.toNat (i - 1).toNat).toArray)=e0∧Sort.partialIns slt a.toNat b.toNat (5 - (k'+1)).toNat i.toNat (if b.toNat - i.toNat ≥ 2 then Sort.shiftUp slt b.toNat (i.toNat+1) e0 else e0)=X:=⟨_,rfl,e5⟩
     obtain ⟨e0,he0,e5⟩:=e5
     refine ⟨by omega,by omega,by omega,by omega,by omega,by omega,by omega,by omega,by omega,by omega,by omega,by omega,
      fun z=>z.1=i∧z.2.1=k'∧z.2.2.length=l.length∧z.2.2.toArray=e0,⟨by omega,by omega,fun h2=>⟨by omega,by omega,?_⟩,fun h2=>⟨rfl,rfl,hsw.trans g5,?_⟩⟩,fun z hz=>?_⟩
     ·rw [if_pos (by omega)] at he0
      refine ⟨fun z=>z.1=i∧z.2.1=k'∧0≤z.2.2.1∧z.2.2.1 < i∧z.2.2.2.length=l.length∧Sort.shiftDown slt z.2.2.1.toNat z.2.2.2.toArray=e0,fun z=>z.2.2.1.toNat,⟨rfl,rfl,by simp only; omega,by simp only; omega,hsw.trans g5,he0⟩,fun z hz=>?_⟩
      obtain ⟨i',k2,j,e⟩:=z
      obtain ⟨z1,z2,z3,z4,z5,z6⟩:=hz
      simp only at z1 z2 z3 z4 z5 z6 ⊢
      subst z1; subst z2
      have x2:j.toNat - 1=(j - 1).toNat:=by omega
      refine ⟨fun hj=>⟨by omega,by omega,by omega,by omega,by omega,by omega,fun hl=>?_,fun hl=>?_⟩,fun hj=>?_⟩
      ·have hl:=stN hl
       rw [← d7,← x2] at hl
       rw [p8 slt (.inr hl)] at z6
       exact ⟨rfl,rfl,z5,z6⟩
      ·have hl:=stY (Classical.not_not.1 hl)
       rw [← d7,← x2] at hl
       rw [yG slt (by omega) hl,x2,eK] at z6
       exact ⟨by omega,by omega,by omega,by omega,by omega,by omega,by omega,by omega,by omega,by omega,by omega,by omega,by omega,by omega,⟨rfl,rfl,by omega,by omega,by rw [List.length_set,List.length_set]; exact z5,z6⟩,by omega⟩
      ·rw [p8 slt (.inl (by omega))] at z6
       exact ⟨rfl,rfl,z5,z6⟩
     ·rw [if_neg (by omega)] at he0
      exact he0
     ·obtain ⟨i',k2,e⟩:=z
      obtain ⟨z1,z2,z3,z4⟩:=hz
      simp only at z1 z2 z3 z4 ⊢
      subst z1; subst z2; subst z4
      refine ⟨by omega,by omega,fun h2=>⟨by omega,by omega,?_⟩,fun h2=>⟨e1,e2,rfl,z3,?_⟩⟩
      ·rw [if_pos (by omega)] at e5
       refine ⟨fun z=>z.1=i'∧z.2.1=k2∧i' < z.2.2.1∧z.2.2.1≤b∧z.2.2.2.length=l.length∧Sort.partialIns slt a.toNat b.toNat (5 - (k2+1)).toNat i'.toNat (Sort.shiftUp slt b.toNat z.2.2.1.toNat z.2.2.2.toArray)=X,fun z=>(b - z.2.2.1).toNat,⟨rfl,rfl,by simp only; omega,by simp only; omega,z3,by simp only; rw [show (i'+1).toNat=i'.toNat+1 from by omega]; exact e5⟩,fun z hz=>?_⟩
       obtain ⟨i2,k3,j,e'⟩:=z
       obtain ⟨u1,u2,u3,u4,u5,u6⟩:=hz
       simp only at u1 u2 u3 u4 u5 u6 ⊢
       subst u1; subst u2
       have x2:j.toNat - 1=(j - 1).toNat:=by omega
       refine ⟨fun hj=>⟨by omega,by omega,by omega,by omega,by omega,by omega,fun hl=>?_,fun hl=>?_⟩,fun hj=>?_⟩
       ·have hl:=stN hl
        rw [← d7,← x2] at hl
        rw [vR slt (.inr hl)] at u6
        exact ⟨e1,e2,rfl,u5,u6⟩
       ·have hl:=stY (Classical.not_not.1 hl)
        rw [← d7,← x2] at hl
        rw [aCG slt (by omega) hl,x2,eK,show j.toNat+1=(j+1).toNat from by omega] at u6
        exact ⟨by omega,by omega,by omega,by omega,by omega,by omega,by omega,by omega,by omega,by omega,by omega,by omega,by omega,by omega,⟨rfl,rfl,by omega,by omega,by rw [List.length_set,List.length_set]; exact u5,u6⟩,by omega⟩
       ·rw [vR slt (.inl (by omega))] at u6
        exact ⟨e1,e2,rfl,u5,u6⟩
      ·rw [if_neg (by omega)] at e5
       exact e5
   ·obtain ⟨i,k',d⟩:=z
    obtain ⟨e1,e2,e3,e4,e5⟩:=hz
    simp only at e1 e2 e3 e4 e5 ⊢
    subst e3
    exact ⟨by omega,by omega,⟨e1,e2,by omega,by omega,e4,e5⟩,by omega⟩
  ·rw [show (5 - k).toNat=0 from by omega] at g6
   exact res _ _ g6
end Go.Abs
