/- Functions, and what the code asks of them: PPdqSc3. -/
import Derived.Test.YtcmjinkfgbadoabLabelsNilP4
import Derived.Test.YtcmjinkfgbadoabLabelsNilP5
import Derived.Test.YtcmjinkfgbadoabLabelsNilP6
import Derived.Test.YtcmjinkfgbadoabLabelsNilP7
import Derived.Test.YtcmjinkfgbadoabLabelsNilP8
import Derived.Test.YtcmjinkfgbadoabLabelsNilP9
import Derived.Test.YtcmjinkfgbadoabLabelsNilP10
import Derived.Test.YtcmjinkfgbadoabLabelsNilP12
import Derived.Test.YtcmjinkfgbadoabLabelsNilP13
import Derived.Test.YtcmjinkfgbadoabLabelsNilP14
set_option linter.unusedVariables false
set_option linter.unusedSimpArgs false
set_option linter.unusedSectionVars false
namespace Go.Abs
open Go
section
variable {α:Type} [Inhabited α] (lt:α→α→Bool)
def aH4 (d:Array α) (a b limit pivot:Nat):Array α :=
 match Sort.partition lt d a b pivot with
 | (mid,ap,d4)=>if a≤mid∧mid < b then (if mid - a < b - mid then Sort.pdq lt (Sort.pdq lt d4 a mid limit true true) (mid+1) b limit (decide (mid - a ≥ (b - a) / 8)) ap else Sort.pdq lt (Sort.pdq lt d4 (mid+1) b limit true true) a mid limit (decide (b - mid ≥ (b - a) / 8)) ap) else d4
def aF7 (d:Array α) (a b limit:Nat) (wb wp:Bool) (pivot:Nat):Array α :=
 if a > 0&&!lt d[a - 1]! d[pivot]! then
  match Sort.partitionEqual lt d a b pivot with
  | (mid,d4)=>if a < mid∧mid≤b then Sort.pdq lt d4 mid b limit wb wp else d4
 else aH4 lt d a b limit pivot
def aDF (d:Array α) (a b limit:Nat) (wb wp:Bool) (pivot:Nat) (hint:Sort.Hint):Array α :=
 if wb&&wp&&hint=.increasing then (if (Sort.partialInsertionSort lt d a b).2 then (Sort.partialInsertionSort lt d a b).1 else aF7 lt (Sort.partialInsertionSort lt d a b).1 a b limit wb wp pivot) else aF7 lt d a b limit wb wp pivot
def aDJ (d:Array α) (a b limit:Nat) (wb wp:Bool):Array α :=
 if (Sort.choosePivot lt d a b).2=.decreasing then aDF lt (Sort.reverseRange d a b) a b limit wb wp ((b - 1) - ((Sort.choosePivot lt d a b).1 - a)) .increasing
 else aDF lt d a b limit wb wp (Sort.choosePivot lt d a b).1 (Sort.choosePivot lt d a b).2
theorem p5 (d:Array α) (a b limit:Nat) (wb wp:Bool):Sort.pdq lt d a b limit wb wp =
  if b - a≤12 then Sort.insertionSort lt d a b else if limit=0 then Sort.heapSort lt d a b else
  if wb=true then aDJ lt d a b limit wb wp else aDJ lt (Sort.breakPatterns d a b) a b (limit - 1) wb wp:=by
 rw [Sort.pdq]
 split
 ·rfl
 ·split
  ·rfl
  ·have fin:∀ (d1:Array α) (limit:Nat),(let c:=Sort.choosePivot lt d1 a b
     let d2:=if c.2=.decreasing then Sort.reverseRange d1 a b else d1
     let pivot:=if c.2=.decreasing then (b - 1) - (c.1 - a) else c.1
     let hint:=if c.2=.decreasing then Sort.Hint.increasing else c.2
     let pi:=if wb&&wp&&hint=.increasing then Sort.partialInsertionSort lt d2 a b else (d2,false)
     if pi.2 then pi.1 else
     let d3:=pi.1
     if a > 0&&!lt d3[a - 1]! d3[pivot]! then
      match Sort.partitionEqual lt d3 a b pivot with
      | (mid,d4)=>if a < mid∧mid≤b then Sort.pdq lt d4 mid b limit wb wp else d4
     else
      match Sort.partition lt d3 a b pivot with
      | (mid,alreadyPartitioned,d4) =>
       if a≤mid∧mid < b then
        if mid - a < b - mid then
         Sort.pdq lt (Sort.pdq lt d4 a mid limit true true) (mid+1) b limit (decide (mid - a ≥ (b - a) / 8)) alreadyPartitioned
        else
         Sort.pdq lt (Sort.pdq lt d4 (mid+1) b limit true true) a mid limit (decide (b - mid ≥ (b - a) / 8)) alreadyPartitioned
       else d4)=aDJ lt d1 a b limit wb wp:=by
    intro d1 limit
    have step:∀ (d2:Array α) (pivot:Nat) (hint:Sort.Hint),(let pi:=if wb&&wp&&hint=.increasing then Sort.partialInsertionSort lt d2 a b else (d2,false)
     if pi.2 then pi.1 else
     let d3:=pi.1
     if a > 0&&!lt d3[a - 1]! d3[pivot]! then
      match Sort.partitionEqual lt d3 a b pivot with
      | (mid,d4)=>if a < mid∧mid≤b then Sort.pdq lt d4 mid b limit wb wp else d4
     else
      match Sort.partition lt d3 a b pivot with
      | (mid,alreadyPartitioned,d4) =>
       if a≤mid∧mid < b then
        if mid - a < b - mid then
         Sort.pdq lt (Sort.pdq lt d4 a mid limit true true) (mid+1) b limit (decide (mid - a ≥ (b - a) / 8)) alreadyPartitioned
        else
         Sort.pdq lt (Sort.pdq lt d4 (mid+1) b limit true true) a mid limit (decide (b - mid ≥ (b - a) / 8)) alreadyPartitioned
       else d4)=aDF lt d2 a b limit wb wp pivot hint:=by
     intro d2 pivot hint
     unfold aDF aF7 aH4
     by_cases c:(wb&&wp&&decide (hint=.increasing))=true
     ·simp only [if_pos c]
     ·simp only [if_neg c]
      rfl
    refine (step (if (Sort.choosePivot lt d1 a b).2=.decreasing then Sort.reverseRange d1 a b else d1) (if (Sort.choosePivot lt d1 a b).2=.decreasing then (b - 1) - ((Sort.choosePivot lt d1 a b).1 - a) else (Sort.choosePivot lt d1 a b).1) (if (Sort.choosePivot lt d1 a b).2=.decreasing then Sort.Hint.increasing else (Sort.choosePivot lt d1 a b).2)).trans ?_
    unfold aDJ
    split <;> rfl
   cases wb with
   | true=>exact fin d limit
   | false=>exact fin (Sort.breakPatterns d a b) (limit - 1)
theorem qU {d:Array α} {a b pv:Nat} (h1:a≤pv) (h2:pv < b) (h3:b≤d.size):a < (Sort.partitionEqual lt d a b pv).1∧(Sort.partitionEqual lt d a b pv).1≤b∧(Sort.partitionEqual lt d a b pv).2.size=d.size:=by
 obtain ⟨r1,r2,r3,_,_⟩:=Sort.partEqLoop_spec lt a b _ (a+1) (b - 1) (Sort.swp d a pv) (Nat.le_refl _) (by omega) (by omega) (by omega) (by rw [size_swp]; exact h3) (fun t e1 e2=>by omega) (fun t e1 e2=>by omega)
 exact ⟨r1,r2,r3.1.trans (size_swp d a pv)⟩
theorem xQ {d:Array α} {a b pv:Nat} (h1:a≤pv) (h2:pv < b) (h3:b≤d.size):a≤(Sort.partition lt d a b pv).1∧(Sort.partition lt d a b pv).1 < b∧(Sort.partition lt d a b pv).2.2.size=d.size:=by
 rw [Sort.partition_fst,Sort.partition_arr]
 obtain ⟨r1,r2,r3,_,_⟩:=Sort.partLoop_spec lt a b _ (a+1) (b - 1) (Sort.swp d a pv) (Nat.le_refl _) (by omega) (by omega) (by omega) (by rw [size_swp]; exact h3) (fun t e1 e2=>by omega) (fun t e1 e2=>by omega)
 exact ⟨r1,r2,(size_swp _ _ _).trans (r3.1.trans (size_swp d a pv))⟩
theorem pT (d:Array α) (a b:Nat):(Sort.breakPatterns d a b).size=d.size:=by
 by_cases h:8≤b - a
 ·rw [aC0 d h,l9]
 ·rw [aCN d h]
theorem xB (d:Array α) (a b:Nat):(Sort.reverseRange d a b).size=d.size:=rD _ _ _ _ (Nat.le_refl _)
theorem p7 (d:Array α) (a b:Nat):(Sort.partialInsertionSort lt d a b).1.size=d.size:=mN lt a b _ _ _
theorem jO (w:Sort.SWO lt):∀ (n a b:Nat) (d:Array α) (limit:Nat) (wb wp:Bool),b - a≤n→a≤b→b≤d.size→(Sort.pdq lt d a b limit wb wp).size=d.size
 | 0,a,b,d,limit,wb,wp,hn,hab,hb=>by
  rw [p5,if_pos (by omega)]
  exact (Sort.insertionSort_holds w d a b hab hb).1.1
 | n+1,a,b,d,limit,wb,wp,hn,hab,hb=>by
  rw [p5]
  have E:∀ (d:Array α) (limit pivot:Nat),12 < b - a→b≤d.size→a≤pivot→pivot < b→(aH4 lt d a b limit pivot).size=d.size:=fun d limit pivot h12 hb h1 h2=>by
   obtain ⟨q1,q2,q3⟩:=xQ lt h1 h2 hb
   unfold aH4
   generalize Sort.partition lt d a b pivot=r at q1 q2 q3
   obtain ⟨mid,ap,d4⟩:=r
   simp only at q1 q2 q3 ⊢
   rw [if_pos ⟨q1,q2⟩]
   split
   ·have s1:=jO w n a mid d4 limit true true (by omega) q1 (by omega)
    rw [jO w n (mid+1) b _ limit _ _ (by omega) (by omega) (by omega),s1,q3]
   ·have s1:=jO w n (mid+1) b d4 limit true true (by omega) (by omega) (by omega)
    rw [jO w n a mid _ limit _ _ (by omega) (by omega) (by omega),s1,q3]
  have D:∀ (d:Array α) (limit pivot:Nat),12 < b - a→b≤d.size→a≤pivot→pivot < b→(aF7 lt d a b limit wb wp pivot).size=d.size:=fun d limit pivot h12 hb h1 h2=>by
   unfold aF7
   split
   ·obtain ⟨q1,q2,q3⟩:=qU lt h1 h2 hb
    generalize Sort.partitionEqual lt d a b pivot=r at q1 q2 q3
    obtain ⟨mid,d4⟩:=r
    simp only at q1 q2 q3 ⊢
    rw [if_pos ⟨q1,q2⟩,jO w n mid b d4 limit wb wp (by omega) q2 (by omega),q3]
   ·exact E d limit pivot h12 hb h1 h2
  have C:∀ (d:Array α) (limit pivot:Nat) (hint:Sort.Hint),12 < b - a→b≤d.size→a≤pivot→pivot < b→(aDF lt d a b limit wb wp pivot hint).size=d.size:=fun d limit pivot hint h12 hb h1 h2=>by
   unfold aDF
   have hs:=p7 lt d a b
   split
   ·split
    ·exact hs
    ·rw [D _ limit pivot h12 (by omega) h1 h2,hs]
   ·exact D d limit pivot h12 hb h1 h2
  have B:∀ (d:Array α) (limit:Nat),12 < b - a→b≤d.size→(aDJ lt d a b limit wb wp).size=d.size:=fun d limit h12 hb=>by
   have hc:=Sort.choosePivot_holds lt d a b (by omega)
   unfold aDJ
   split
   ·rw [C _ limit _ _ h12 (by rw [xB]; exact hb) (by omega) (by omega),xB]
   ·exact C d limit _ _ h12 hb hc.1 hc.2
  split
  ·exact (Sort.insertionSort_holds w d a b hab hb).1.1
  ·split
   ·exact (Sort.heapSort_holds w d a b hab hb).1.1
   ·split
    ·exact B d limit (by omega) hb
    ·rw [B _ _ (by omega) (by rw [pT]; exact hb),pT]
theorem aJE (w:Sort.SWO lt) (d:Array α) {a b:Nat} (h:a≤b) (hb:b≤d.size):(Sort.insertionSort lt d a b).size=d.size:=(Sort.insertionSort_holds w d a b h hb).1.1
theorem aH5 (w:Sort.SWO lt) (d:Array α) {a b:Nat} (h:a≤b) (hb:b≤d.size):(Sort.heapSort lt d a b).size=d.size:=(Sort.heapSort_holds w d a b h hb).1.1
theorem aKE (w:Sort.SWO lt) (tot:∀ x y,lt x y=false→lt y x=false→x=y) (l:List α):eB lt l=m6 lt l:=by
 have wk:Weak lt:=by
  refine ⟨fun {x y} h=>?_,fun {x y z} h1 h2=>w.ntrans z y x h2 h1⟩
  cases hh:lt y x with
  | false=>rfl
  | true =>
   have:=w.trans x y x h hh
   rw [w.irrefl] at this
   cases this
 obtain ⟨h1,h2⟩:=Sort.sort_sorts lt w l.toArray
 have hs:Sort.PermIn 0 l.toArray.size l.toArray (Sort.sort lt l.toArray):=h1
 obtain ⟨p1,_,p3⟩:=hs
 have hp:(eB lt l).Perm l:=by
  have e1:((Sort.sort lt l.toArray).extract 0 l.toArray.size).toList=(Sort.sort lt l.toArray).toList:=by
   rw [← p1,Array.extract_size]
  have e2:(l.toArray.extract 0 l.toArray.size).toList=l:=by
   rw [Array.extract_size]
  rw [e1,e2] at p3
  exact p3
 have hsd:Sd lt (eB lt l):=by
  refine List.pairwise_iff_getElem.2 fun i j hi hj hij=>?_
  unfold eB at hi hj ⊢
  rw [Array.length_toList] at hi hj
  have:=h2 i j (Nat.zero_le _) hij (by rw [p1] at hj; exact hj)
  rw [Array.getElem_toList,Array.getElem_toList]
  rw [getElem!_pos _ i hi,getElem!_pos _ j hj] at this
  exact this
 refine rX wk hsd fun z=>?_
 -- those alike to z are all z itself
 have one:∀ m:List α,m.filter (kin lt z)=List.replicate (m.filter (kin lt z)).length z:=fun m=>by
  refine List.eq_replicate_iff.2 ⟨rfl,fun x hx=>?_⟩
  obtain ⟨k1,k2⟩:=uL.1 (List.mem_filter.1 hx).2
  exact (tot z x k1 k2).symm
 rw [one (eB lt l),one l,(hp.filter _).length_eq]
end
end Go.Abs
