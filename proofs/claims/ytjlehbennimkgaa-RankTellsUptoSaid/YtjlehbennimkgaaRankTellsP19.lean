/- Functions, and what the code asks of them: PPdqSc3. -/
import Derived.KernelRfl
import Derived.Test.YtjlehbennimkgaaRankTellsP4
import Derived.Test.YtjlehbennimkgaaRankTellsP5
import Derived.Test.YtjlehbennimkgaaRankTellsP6
import Derived.Test.YtjlehbennimkgaaRankTellsP9
import Derived.Test.YtjlehbennimkgaaRankTellsP10
import Derived.Test.YtjlehbennimkgaaRankTellsP12
import Derived.Test.YtjlehbennimkgaaRankTellsP14
import Derived.Test.YtjlehbennimkgaaRankTellsP16
import Derived.Test.YtjlehbennimkgaaRankTellsP17
import Derived.Test.YtjlehbennimkgaaRankTellsP18
set_option maxRecDepth 100000
set_option maxHeartbeats 4000000
set_option linter.unusedVariables false
set_option linter.unusedSimpArgs false
namespace Go.Abs
open Go
section
variable {α:Type} [Inhabited α] (lt:α→α→Bool)
def aFG (d:Array α) (a b limit pivot:Nat):Array α :=
 match Sort.partition lt d a b pivot with
 | (mid,ap,d4)=>if a≤mid∧mid < b then (if mid - a < b - mid then Sort.pdq lt (Sort.pdq lt d4 a mid limit true true) (mid+1) b limit (decide (mid - a ≥ (b - a) / 8)) ap else Sort.pdq lt (Sort.pdq lt d4 (mid+1) b limit true true) a mid limit (decide (b - mid ≥ (b - a) / 8)) ap) else d4
def aDT (d:Array α) (a b limit:Nat) (wb wp:Bool) (pivot:Nat):Array α :=
 if a > 0&&!lt d[a - 1]! d[pivot]! then
  match Sort.partitionEqual lt d a b pivot with
  | (mid,d4)=>if a < mid∧mid≤b then Sort.pdq lt d4 mid b limit wb wp else d4
 else aFG lt d a b limit pivot
def aBX (d:Array α) (a b limit:Nat) (wb wp:Bool) (pivot:Nat) (hint:Sort.Hint):Array α :=
 if wb&&wp&&hint=.increasing then (if (Sort.partialInsertionSort lt d a b).2 then (Sort.partialInsertionSort lt d a b).1 else aDT lt (Sort.partialInsertionSort lt d a b).1 a b limit wb wp pivot) else aDT lt d a b limit wb wp pivot
def aBZ (d:Array α) (a b limit:Nat) (wb wp:Bool):Array α :=
 if (Sort.choosePivot lt d a b).2=.decreasing then aBX lt (Sort.reverseRange d a b) a b limit wb wp ((b - 1) - ((Sort.choosePivot lt d a b).1 - a)) .increasing
 else aBX lt d a b limit wb wp (Sort.choosePivot lt d a b).1 (Sort.choosePivot lt d a b).2
theorem pL (d:Array α) (a b limit:Nat) (wb wp:Bool):Sort.pdq lt d a b limit wb wp =
  if b - a≤12 then Sort.insertionSort lt d a b else if limit=0 then Sort.heapSort lt d a b else
  if wb=true then aBZ lt d a b limit wb wp else aBZ lt (Sort.breakPatterns d a b) a b (limit - 1) wb wp:=by
 rw [Sort.pdq]
 split
 ·rfl
 ·split
  ·rfl
  ·have fin:∀ (d1:Array α) (limit:Nat),(let c:=Sort.choosePivot lt d1 a b
     let d2:=if c.2=.decreasing then Sort.reverseRange d1 a b else d1
     let pivot:=if c.2=.decreasing then (b - 1) - (c.1 - a) else c.1
     let hint:=if c.2=.decreasing then Sort.Hint.increasing else c.2
     let pi:=if wb&&wp&&hint=.increasing then Sort.partialInsertionSort lt d2 a b else (d2,false)
     if pi.2 then pi.1 else
     let d3:=pi.1
     if a > 0&&!lt d3[a - 1]! d3[pivot]! then
      match Sort.partitionEqual lt d3 a b pivot with
      | (mid,d4)=>if a < mid∧mid≤b then Sort.pdq lt d4 mid b limit wb wp else d4
     else
      match Sort.partition lt d3 a b pivot with
      | (mid,alreadyPartitioned,d4) =>
       if a≤mid∧mid < b then
        if mid - a < b - mid then
         Sort.pdq lt (Sort.pdq lt d4 a mid limit true true) (mid+1) b limit (decide (mid - a ≥ (b - a) / 8)) alreadyPartitioned
        else
         Sort.pdq lt (Sort.pdq lt d4 (mid+1) b limit true true) a mid limit (decide (b - mid ≥ (b - a) / 8)) alreadyPartitioned
       else d4)=aBZ lt d1 a b limit wb wp:=by
    intro d1 limit
    have step:∀ (d2:Array α) (pivot:Nat) (hint:Sort.Hint),(let pi:=if wb&&wp&&hint=.increasing then Sort.partialInsertionSort lt d2 a b else (d2,false)
     if pi.2 then pi.1 else
     let d3:=pi.1
     if a > 0&&!lt d3[a - 1]! d3[pivot]! then
      match Sort.partitionEqual lt d3 a b pivot with
      | (mid,d4)=>if a < mid∧mid≤b then Sort.pdq lt d4 mid b limit wb wp else d4
     else
      match Sort.partition lt d3 a b pivot with
      | (mid,alreadyPartitioned,d4) =>
       if a≤mid∧mid < b then
        if mid - a < b - mid then
         Sort.pdq lt (Sort.pdq lt d4 a mid limit true true) (mid+1) b limit (decide (mid - a ≥ (b - a) / 8)) alreadyPartitioned
        else
         Sort.pdq lt (Sort.pdq lt d4 (mid+1) b limit true true) a mid limit (decide (b - mid ≥ (b - a) / 8)) alreadyPartitioned
       else d4)=aBX lt d2 a b limit wb wp pivot hint:=by
     intro d2 pivot hint
     unfold aBX aDT aFG
     by_cases c:(wb&&wp&&decide (hint=.increasing))=true
     ·simp only [if_pos c]
     ·simp only [if_neg c]
      rfl
    refine (step (if (Sort.choosePivot lt d1 a b).2=.decreasing then Sort.reverseRange d1 a b else d1) (if (Sort.choosePivot lt d1 a b).2=.decreasing then (b - 1) - ((Sort.choosePivot lt d1 a b).1 - a) else (Sort.choosePivot lt d1 a b).1) (if (Sort.choosePivot lt d1 a b).2=.decreasing then Sort.Hint.increasing else (Sort.choosePivot lt d1 a b).2)).trans ?_
    unfold aBZ
    split <;> rfl
   cases wb with
   | true=>exact fin d limit
   | false=>exact fin (Sort.breakPatterns d a b) (limit - 1)
theorem qU {d:Array α} {a b pv:Nat} (h1:a≤pv) (h2:pv < b) (h3:b≤d.size):a < (Sort.partitionEqual lt d a b pv).1∧(Sort.partitionEqual lt d a b pv).1≤b∧(Sort.partitionEqual lt d a b pv).2.size=d.size:=by
 obtain ⟨r1,r2,r3,_,_⟩:=Sort.partEqLoop_spec lt a b _ (a+1) (b - 1) (Sort.swp d a pv) (Nat.le_refl _) (by omega) (by omega) (by omega) (by rw [size_swp]; exact h3) (fun t e1 e2=>by omega) (fun t e1 e2=>by omega)
 exact ⟨r1,r2,r3.1.trans (size_swp d a pv)⟩
theorem t9 {d:Array α} {a b pv:Nat} (h1:a≤pv) (h2:pv < b) (h3:b≤d.size):a≤(Sort.partition lt d a b pv).1∧(Sort.partition lt d a b pv).1 < b∧(Sort.partition lt d a b pv).2.2.size=d.size:=by
 rw [Sort.partition_fst,Sort.partition_arr]
 obtain ⟨r1,r2,r3,_,_⟩:=Sort.partLoop_spec lt a b _ (a+1) (b - 1) (Sort.swp d a pv) (Nat.le_refl _) (by omega) (by omega) (by omega) (by rw [size_swp]; exact h3) (fun t e1 e2=>by omega) (fun t e1 e2=>by omega)
 exact ⟨r1,r2,(size_swp _ _ _).trans (r3.1.trans (size_swp d a pv))⟩
theorem pE (d:Array α) (a b:Nat):(Sort.breakPatterns d a b).size=d.size:=by
 by_cases h:8≤b - a
 ·rw [aCC d h,lZ]
 ·rw [aAK d h]
theorem uR (d:Array α) (a b:Nat):(Sort.reverseRange d a b).size=d.size:=p9 _ _ _ _ (Nat.le_refl _)
theorem qC (d:Array α) (a b:Nat):(Sort.partialInsertionSort lt d a b).1.size=d.size:=mL lt a b _ _ _
theorem jW (w:Sort.SWO lt):∀ (n a b:Nat) (d:Array α) (limit:Nat) (wb wp:Bool),b - a≤n→a≤b→b≤d.size→(Sort.pdq lt d a b limit wb wp).size=d.size
 | 0,a,b,d,limit,wb,wp,hn,hab,hb=>by
  rw [pL,if_pos (by omega)]
  exact (Sort.insertionSort_holds w d a b hab hb).1.1
 | n+1,a,b,d,limit,wb,wp,hn,hab,hb=>by
  rw [pL]
  have E:∀ (d:Array α) (limit pivot:Nat),12 < b - a→b≤d.size→a≤pivot→pivot < b→(aFG lt d a b limit pivot).size=d.size:=fun d limit pivot h12 hb h1 h2=>by
   obtain ⟨q1,q2,q3⟩:=t9 lt h1 h2 hb
   unfold aFG
   generalize Sort.partition lt d a b pivot=r at q1 q2 q3
   obtain ⟨mid,ap,d4⟩:=r
   simp only at q1 q2 q3 ⊢
   rw [if_pos ⟨q1,q2⟩]
   split
   ·have s1:=jW w n a mid d4 limit true true (by omega) q1 (by omega)
    rw [jW w n (mid+1) b _ limit _ _ (by omega) (by omega) (by omega),s1,q3]
   ·have s1:=jW w n (mid+1) b d4 limit true true (by omega) (by omega) (by omega)
    rw [jW w n a mid _ limit _ _ (by omega) (by omega) (by omega),s1,q3]
  have D:∀ (d:Array α) (limit pivot:Nat),12 < b - a→b≤d.size→a≤pivot→pivot < b→(aDT lt d a b limit wb wp pivot).size=d.size:=fun d limit pivot h12 hb h1 h2=>by
   unfold aDT
   split
   ·obtain ⟨q1,q2,q3⟩:=qU lt h1 h2 hb
    generalize Sort.partitionEqual lt d a b pivot=r at q1 q2 q3
    obtain ⟨mid,d4⟩:=r
    simp only at q1 q2 q3 ⊢
    rw [if_pos ⟨q1,q2⟩,jW w n mid b d4 limit wb wp (by omega) q2 (by omega),q3]
   ·exact E d limit pivot h12 hb h1 h2
  have C:∀ (d:Array α) (limit pivot:Nat) (hint:Sort.Hint),12 < b - a→b≤d.size→a≤pivot→pivot < b→(aBX lt d a b limit wb wp pivot hint).size=d.size:=fun d limit pivot hint h12 hb h1 h2=>by
   unfold aBX
   have hs:=qC lt d a b
   split
   ·split
    ·exact hs
    ·rw [D _ limit pivot h12 (by omega) h1 h2,hs]
   ·exact D d limit pivot h12 hb h1 h2
  have B:∀ (d:Array α) (limit:Nat),12 < b - a→b≤d.size→(aBZ lt d a b limit wb wp).size=d.size:=fun d limit h12 hb=>by
   have hc:=Sort.choosePivot_holds lt d a b (by omega)
   unfold aBZ
   split
   ·rw [C _ limit _ _ h12 (by rw [uR]; exact hb) (by omega) (by omega),uR]
   ·exact C d limit _ _ h12 hb hc.1 hc.2
  split
  ·exact (Sort.insertionSort_holds w d a b hab hb).1.1
  ·split
   ·exact (Sort.heapSort_holds w d a b hab hb).1.1
   ·split
    ·exact B d limit (by omega) hb
    ·rw [B _ _ (by omega) (by rw [pE]; exact hb),pE]
theorem aGK (w:Sort.SWO lt) (d:Array α) {a b:Nat} (h:a≤b) (hb:b≤d.size):(Sort.insertionSort lt d a b).size=d.size:=(Sort.insertionSort_holds w d a b h hb).1.1
theorem aFW (w:Sort.SWO lt) (d:Array α) {a b:Nat} (h:a≤b) (hb:b≤d.size):(Sort.heapSort lt d a b).size=d.size:=(Sort.heapSort_holds w d a b h hb).1.1
theorem aGR (w:Sort.SWO lt) (tot:∀ x y,lt x y=false→lt y x=false→x=y) (l:List α):hT lt l=kH lt l:=by
 have wk:Weak lt:=by
  refine ⟨fun {x y} h=>?_,fun {x y z} h1 h2=>w.ntrans z y x h2 h1⟩
  cases hh:lt y x with
  | false=>rfl
  | true =>
   have:=w.trans x y x h hh
   rw [w.irrefl] at this
   cases this
 obtain ⟨h1,h2⟩:=Sort.sort_sorts lt w l.toArray
 have hs:Sort.PermIn 0 l.toArray.size l.toArray (Sort.sort lt l.toArray):=h1
 obtain ⟨p1,_,p3⟩:=hs
 have hp:(hT lt l).Perm l:=by
  have e1:((Sort.sort lt l.toArray).extract 0 l.toArray.size).toList=(Sort.sort lt l.toArray).toList:=by
   rw [← p1,Array.extract_size]
  have e2:(l.toArray.extract 0 l.toArray.size).toList=l:=by
   rw [Array.extract_size]
  rw [e1,e2] at p3
  exact p3
 have hsd:Sd lt (hT lt l):=by
  refine List.pairwise_iff_getElem.2 fun i j hi hj hij=>?_
  unfold hT at hi hj ⊢
  rw [Array.length_toList] at hi hj
  have:=h2 i j (Nat.zero_le _) hij (by rw [p1] at hj; exact hj)
  rw [Array.getElem_toList,Array.getElem_toList]
  rw [getElem!_pos _ i hi,getElem!_pos _ j hj] at this
  exact this
 refine tN wk hsd fun z=>?_
 -- those alike to z are all z itself
 have one:∀ m:List α,m.filter (kin lt z)=List.replicate (m.filter (kin lt z)).length z:=fun m=>by
  refine List.eq_replicate_iff.2 ⟨rfl,fun x hx=>?_⟩
  obtain ⟨k1,k2⟩:=tK.1 (List.mem_filter.1 hx).2
  exact (tot z x k1 k2).symm
 rw [one (hT lt l),one l,(hp.filter _).length_eq]
end
def f198.args (a:List (aB)):List D:=[.msl 0 2 a.length,.fn 199 []]
def f198.blks (a:List (aB)):List (List D):=[[.dead,.arr false 2 a.length (gl aA a)]]
def f198.res (a:List (aB)):List D:=[]
def f198.blks' (a:List (aB)):List (List D):=[[.dead,.arr false 2 (List.length ((hT aJ) a)) (gl aA ((hT aJ) a))]]
def f198.C:aN:=FnC f198.args f198.blks (fun a=>mV a) f198.res f198.blks'
def f223.args (a:(List (aB))×Int×Int×Int):List D:=[.msl 0 2 a.1.length,.int .i64 a.2.1,.int .i64 a.2.2.1,.int .i64 a.2.2.2,.fn 199 []]
def f223.blks (a:(List (aB))×Int×Int×Int):List (List D):=[[.dead,.arr false 2 a.1.length (gl aA a.1)]]
def f223.res (a:(List (aB))×Int×Int×Int):List D:=[]
def f223.blks' (a:(List (aB))×Int×Int×Int):List (List D):=[[.dead,.arr false 2 (List.length ((eW aJ) a)) (gl aA ((eW aJ) a))]]
def f223.rpre (n:Nat) (a:(List (aB))×Int×Int×Int):Prop:=qE a∧aDW a < n
def f223.Cn (n:Nat):aN:=FnC f223.args f223.blks (fun a=>f223.rpre n a) f223.res f223.blks'
def f223.C:aN:=FnC f223.args f223.blks (fun a=>qE a) f223.res f223.blks'
set_option linter.unusedVariables false
def f198.kills (a:List (aB)):List Hint:=[]
def f198.cuts (a:List (aB)):List (Nat×Σ β:Type,β→Tm):=[(999999,⟨Unit,fun x=>⟨[],[],[]⟩⟩)]
def f198.af (a:List (aB)):AF:=AF.mk (.seq (.region [mR 5 0 0,
 oR 6 1 (.len false) [5],
 mR 4 2 6])
 (.region [mR 7 3 0,
 mR 8 4 4,
 mR 9 5 4,
 oR 10 6 (.conv (.int .u64)) [9],
 oR 11 7 (.call false 194) [10],
 mR 12 11 1,
 ⟨(some 13),1000012,(.call true 223),[.t 7,.c (.int .i64 (0)),.t 8,.t 11,.t 12],none⟩]))
 [] 1 12
def f198.env:Env:=[(194,f194.C),(223,f223.C)]
def f198.tree (a:List (aB)):Prop:=Let (IntKind.u64.wrap (List.length a:Int)) (fun v1:Int=>∃ c2:Int,(v1=c2)∧(fK c2)∧(a.length=a.length)∧∃ c3:(List (aB))×Int×Int×Int,(a.length=List.length c3.1)∧((0:Int)=c3.2.1)∧((List.length a:Int)=c3.2.2.1)∧((dD c2)=c3.2.2.2)∧(DEqs [] [])∧SlQ a.length c3.1.length (gl aA a) (gl aA c3.1) ((qE c3)∧SlQ (List.length ((eW aJ) c3)) (List.length ((hT aJ) a)) (gl aA ((eW aJ) c3)) (gl aA ((hT aJ) a)) (True)))
def f198.vc (a:List (aB)):Prop:=(0≤(List.length a:Int)∧(List.length a:Int)≤18446744073709551615∧(fK (List.length a:Int)∧(qE (a,(0:Int),(List.length a:Int),(dD (List.length a:Int)))∧((List.length ((eW aJ) (a,(0:Int),(List.length a:Int),(dD (List.length a:Int)))))=a.length∧(((eW aJ) (a,(0:Int),(List.length a:Int),(dD (List.length a:Int))))=(hT aJ) a)))))
theorem f198.of (a:List (aB)) (h:f198.vc a):f198.tree a:=wrapK.u64 h (fun h8 h9 k10=>⟨(List.length a:Int),⟨rfl,⟨k10.1,⟨rfl,⟨(a,(0:Int),(List.length a:Int),(dD (List.length a:Int))),⟨(bI (gl aA a) (rS aA)),⟨rfl,⟨rfl,⟨rfl,⟨(DEqs.refl _),slQ (rS aA) (⟨k10.2.1,j5 k10.2.2 (fun (h4:(List.length ((eW aJ) (a,(0:Int),(List.length a:Int),(dD (List.length a:Int)))))=a.length) hk=>slQ (Rds.to (rS aA) hk) (trivial))⟩)⟩⟩⟩⟩⟩⟩⟩⟩⟩⟩)
theorem f198.eq (a:List (aB)):(f198.af a).gives f198.env (f198.args a) (f198.blks a) (f198.res a) (f198.blks' a)=f198.tree a:=by kernel_rfl
def f223.S0 (a:(List (aB))×Int×Int×Int) (x:Int×Int×Int×Bool×Bool×(List (aB))):Tm:=⟨.msl 0 2 x.2.2.2.2.2.length::.int .i64 x.1::.int .i64 x.2.1::.int .i64 x.2.2.1::.fn 199 []::.dead::.dead::.dead::.dead::.dead::.bool x.2.2.2.1::.bool x.2.2.2.2.1::dd 136 [],[(0,false,[.dead,.arr false 2 x.2.2.2.2.2.length (gl aA x.2.2.2.2.2)])],[]⟩
def f223.kills (a:(List (aB))×Int×Int×Int):List Hint:=[.tell (Int×Int×Int×Bool×Bool×(List (aB))) (f223.S0 a)]
def f223.cuts (a:(List (aB))×Int×Int×Int):List (Nat×Σ β:Type,β→Tm):=[(999999,⟨Unit,fun x=>⟨[],[],[]⟩⟩),
 (100009,⟨Int×Int×Int×Bool×Bool×Int×(List (aB)),fun x=>⟨.msl 0 2 x.2.2.2.2.2.2.length::.int .i64 x.1::.int .i64 x.2.1::.int .i64 x.2.2.1::.fn 199 []::.dead::.dead::.dead::.dead::.dead::.bool x.2.2.2.1::.bool x.2.2.2.2.1::.int .i64 x.2.2.2.2.2.1::dd 135 [],[(0,false,[.dead,.arr false 2 x.2.2.2.2.2.2.length (gl aA x.2.2.2.2.2.2)])],[]⟩⟩),
 (100013,⟨Int×Int×Int×Bool×Bool×Int×Int×Int×(List (aB)),fun x=>⟨.msl 0 2 x.2.2.2.2.2.2.2.2.length::.int .i64 x.1::.int .i64 x.2.1::.int .i64 x.2.2.1::.fn 199 []::.dead::.dead::.dead::.dead::.dead::.bool x.2.2.2.1::.bool x.2.2.2.2.1::.int .i64 x.2.2.2.2.2.1::.int .i64 x.2.2.2.2.2.2.1::.int .i64 x.2.2.2.2.2.2.2.1::dd 133 [],[(0,false,[.dead,.arr false 2 x.2.2.2.2.2.2.2.2.length (gl aA x.2.2.2.2.2.2.2.2)])],[]⟩⟩),
 (100017,⟨Int×Int×Int×Bool×Bool×Int×Int×(List (aB)),fun x=>⟨.msl 0 2 x.2.2.2.2.2.2.2.length::.int .i64 x.1::.int .i64 x.2.1::.int .i64 x.2.2.1::.fn 199 []::.dead::.dead::.dead::.dead::.dead::.bool x.2.2.2.1::.bool x.2.2.2.2.1::.int .i64 x.2.2.2.2.2.1::.int .i64 x.2.2.2.2.2.2.1::dd 134 [],[(0,false,[.dead,.arr false 2 x.2.2.2.2.2.2.2.length (gl aA x.2.2.2.2.2.2.2)])],[]⟩⟩),
 (100020,⟨Int×Int×Int×Int×Int×(List (aB)),fun x=>⟨.msl 0 2 x.2.2.2.2.2.length::.int .i64 x.1::.int .i64 x.2.1::.int .i64 x.2.2.1::.fn 199 []::dd 7 (.int .i64 x.2.2.2.1::.int .i64 x.2.2.2.2.1::dd 134 []),[(0,false,[.dead,.arr false 2 x.2.2.2.2.2.length (gl aA x.2.2.2.2.2)])],[]⟩⟩)]
def f223.af (a:(List (aB))×Int×Int×Int):AF:=AF.mk (.seq (.region [⟨(some 10),1000000,.move,[.c (.bool true)],none⟩])
 (.seq (.region [⟨(some 11),1000001,.move,[.c (.bool true)],none⟩])
 (.block 0 (.loopT (Int×Int×Int×Bool×Bool×(List (aB))) (f223.S0 a) 1000002 1000180 (.block 1 (.seq (.region [mR 21 2 2,
 mR 22 3 1,
 oR 23 4 (.bin .sub) [21,22],
 mR 12 5 23])
 (.seq (.seq (.region [mR 24 6 12,
 ⟨(some 25),1000007,(.bin .leq),[.t 24,.c (.int .i64 (12))],none⟩])
 (.cond (.t 25) (.seq (.region [mR 26 8 0,
 mR 27 9 1,
 mR 28 10 2,
 mR 29 11 4,
 oR 30 12 (.call true 233) [26,27,28,29]])
 (.ret)) (.skip)))
 (.seq (.seq (.region [mR 31 16 3,
 ⟨(some 32),1000017,(.bin .eql),[.t 31,.c (.int .i64 (0))],none⟩])
 (.cond (.t 32) (.seq (.region [mR 33 18 0,
 mR 34 19 1,
 mR 35 20 2,
 mR 36 21 4,
 oR 37 22 (.call true 234) [33,34,35,36]])
 (.ret)) (.skip)))
 (.joinT (Int×Int×Int×Bool×Bool×Int×(List (aB))) (fun x=>⟨.msl 0 2 x.2.2.2.2.2.2.length::.int .i64 x.1::.int .i64 x.2.1::.int .i64 x.2.2.1::.fn 199 []::.dead::.dead::.dead::.dead::.dead::.bool x.2.2.2.1::.bool x.2.2.2.2.1::.int .i64 x.2.2.2.2.2.1::dd 135 [],[(0,false,[.dead,.arr false 2 x.2.2.2.2.2.2.length (gl aA x.2.2.2.2.2.2)])],[]⟩) (.seq (.region [mR 38 26 10,
 oR 39 27 (.un .not) [38]])
 (.cond (.t 39) (.seq (.region [mR 40 28 0,
 mR 41 29 1,
 mR 42 30 2,
 mR 43 31 4,
 oR 44 32 (.call true 235) [40,41,42,43]])
 (.region [mR 45 36 3,
 ⟨(some 46),1000037,(.bin .sub),[.t 45,.c (.int .i64 (1))],none⟩,
 mR 3 38 46])) (.skip)))
 (.seq (.region [mR 48 39 0,
 mR 49 40 1,
 mR 50 41 2,
 mR 51 42 4,
 oR 52 43 (.call true 236) [48,49,50,51],
 mR 47 47 52,
 oR 53 48 (.extract 0) [47],
 oR 54 49 (.extract 1) [47],
 mR 13 50 53,
 mR 14 51 54])
 (.joinT (Int×Int×Int×Bool×Bool×Int×Int×Int×(List (aB))) (fun x=>⟨.msl 0 2 x.2.2.2.2.2.2.2.2.length::.int .i64 x.1::.int .i64 x.2.1::.int .i64 x.2.2.1::.fn 199 []::.dead::.dead::.dead::.dead::.dead::.bool x.2.2.2.1::.bool x.2.2.2.2.1::.int .i64 x.2.2.2.2.2.1::.int .i64 x.2.2.2.2.2.2.1::.int .i64 x.2.2.2.2.2.2.2.1::dd 133 [],[(0,false,[.dead,.arr false 2 x.2.2.2.2.2.2.2.2.length (gl aA x.2.2.2.2.2.2.2.2)])],[]⟩) (.seq (.region [mR 55 52 14,
 ⟨(some 56),1000053,(.bin .eql),[.t 55,.c (.int .i64 (2))],none⟩])
 (.cond (.t 56) (.seq (.region [mR 57 54 0,
 mR 58 55 1,
 mR 59 56 2,
 mR 60 57 4,
 oR 61 58 (.call true 237) [57,58,59,60]])
 (.seq (.region [mR 62 62 2,
 ⟨(some 63),1000063,(.bin .sub),[.t 62,.c (.int .i64 (1))],none⟩,
 mR 64 64 13,
 mR 65 65 1,
 oR 66 66 (.bin .sub) [64,65],
 oR 67 67 (.bin .sub) [63,66],
 mR 13 68 67])
 (.region [⟨(some 14),1000069,.move,[.c (.int .i64 (1))],none⟩]))) (.skip)))
 (.joinT (Int×Int×Int×Bool×Bool×Int×Int×(List (aB))) (fun x=>⟨.msl 0 2 x.2.2.2.2.2.2.2.length::.int .i64 x.1::.int .i64 x.2.1::.int .i64 x.2.2.1::.fn 199 []::.dead::.dead::.dead::.dead::.dead::.bool x.2.2.2.1::.bool x.2.2.2.2.1::.int .i64 x.2.2.2.2.2.1::.int .i64 x.2.2.2.2.2.2.1::dd 134 [],[(0,false,[.dead,.arr false 2 x.2.2.2.2.2.2.2.length (gl aA x.2.2.2.2.2.2.2)])],[]⟩) (.seq (.region [mR 68 70 10,
 mR 69 71 68,
 oG 70 1000072 .move [11] 69 true,
 ⟨(some 71),1000073,.pick,[.t 69,.t 70,.c (.bool false)],none⟩,
 mR 72 74 71,
 oG 73 1000075 .move [14] 72 true,
 ⟨(some 74),1000076,(.bin .eql),[.t 73,.c (.int .i64 (1))],(some (72,true))⟩,
 ⟨(some 75),1000077,.pick,[.t 72,.t 74,.c (.bool false)],none⟩])
 (.cond (.t 75) (.seq (.region [mR 76 78 0,
 mR 77 79 1,
 mR 78 80 2,
 mR 79 81 4,
 oR 80 82 (.call true 238) [76,77,78,79]])
 (.cond (.t 80) (.ret) (.skip))) (.skip)))
 (.joinT (Int×Int×Int×Int×Int×(List (aB))) (fun x=>⟨.msl 0 2 x.2.2.2.2.2.length::.int .i64 x.1::.int .i64 x.2.1::.int .i64 x.2.2.1::.fn 199 []::dd 7 (.int .i64 x.2.2.2.1::.int .i64 x.2.2.2.2.1::dd 134 []),[(0,false,[.dead,.arr false 2 x.2.2.2.2.2.length (gl aA x.2.2.2.2.2)])],[]⟩) (.seq (.region [mR 81 86 1,
 ⟨(some 82),1000087,(.bin .gtr),[.t 81,.c (.int .i64 (0))],none⟩,
 mR 83 88 82,
 oG 84 1000089 .move [4] 83 true,
 oG 85 1000090 .move [0] 83 true,
 oG 86 1000091 .move [1] 83 true,
 ⟨(some 87),1000092,(.bin .sub),[.t 86,.c (.int .i64 (1))],(some (83,true))⟩,
 oG 88 1000093 (.indexAddr 2 none) [85,87] 83 true,
 oG 89 1000094 (.load true 2) [88] 83 true,
 oG 90 1000095 .move [0] 83 true,
 oG 91 1000096 .move [13] 83 true,
 oG 92 1000097 (.indexAddr 2 none) [90,91] 83 true,
 oG 93 1000098 (.load true 2) [92] 83 true,
 oG 94 1000099 (.callv false) [84,89,93] 83 true,
 ⟨(some 95),1000103,(.bin .lss),[.t 94,.c (.int .i64 (0))],(some (83,true))⟩,
 oG 96 1000104 (.un .not) [95] 83 true,
 ⟨(some 97),1000105,.pick,[.t 83,.t 96,.c (.bool false)],none⟩])
 (.cond (.t 97) (.seq (.region [mR 98 106 0,
 mR 99 107 1,
 mR 100 108 2,
 mR 101 109 13,
 mR 102 110 4,
 oR 103 111 (.call true 239) [98,99,100,101,102],
 mR 15 115 103])
 (.seq (.region [mR 104 116 15,
 mR 1 117 104])
 (.exit 1))) (.skip)))
 (.seq (.region [mR 106 118 0,
 mR 107 119 1,
 mR 108 120 2,
 mR 109 121 13,
 mR 110 122 4,
 oR 111 123 (.call true 240) [106,107,108,109,110],
 mR 105 127 111,
 oR 112 128 (.extract 0) [105],
 oR 113 129 (.extract 1) [105],
 mR 16 130 112,
 mR 17 131 113])
 (.seq (.region [mR 114 132 17,
 mR 11 133 114])
 (.seq (.region [mR 115 134 16,
 mR 116 135 1,
 oR 117 136 (.bin .sub) [115,116],
 mR 118 137 2,
 mR 119 138 16,
 oR 120 139 (.bin .sub) [118,119],
 mR 18 140 117,
 mR 19 141 120])
 (.seq (.region [mR 121 142 12,
 ⟨(some 122),1000143,(.bin .quo),[.t 121,.c (.int .i64 (8))],none⟩,
 mR 20 144 122])
 (.seq (.region [mR 123 145 18,
 mR 124 146 19,
 oR 125 147 (.bin .lss) [123,124]])
 (.cond (.t 125) (.seq (.region [mR 126 148 18,
 mR 127 149 20,
 oR 128 150 (.bin .geq) [126,127],
 mR 10 151 128])
 (.seq (.region [mR 129 152 0,
 mR 130 153 1,
 mR 131 154 16,
 mR 132 155 3,
 mR 133 156 4,
 oR 134 157 (.call true 223) [129,130,131,132,133]])
 (.region [mR 135 161 16,
 ⟨(some 136),1000162,(.bin .add),[.t 135,.c (.int .i64 (1))],none⟩,
 mR 1 163 136]))) (.seq (.region [mR 137 164 19,
 mR 138 165 20,
 oR 139 166 (.bin .geq) [137,138],
 mR 10 167 139])
 (.seq (.region [mR 140 168 0,
 mR 141 169 16,
 ⟨(some 142),1000170,(.bin .add),[.t 141,.c (.int .i64 (1))],none⟩,
 mR 143 171 2,
 mR 144 172 3,
 mR 145 173 4,
 oR 146 174 (.call true 223) [140,142,143,144,145]])
 (.region [mR 147 178 16,
 mR 2 179 147]))))))))))))))))))))))
 [] 1 143
def f223.env (n:Nat):Env:=[(223,f223.Cn n),(233,f233.C),(234,f234.C),(235,f235.C),(236,f236.C),(237,f237.C),(238,f238.C),(199,f199.C),(239,f239.C),(240,f240.C)]
def f223.tree (a:(List (aB))×Int×Int×Int) (n:Nat):Prop:=∃ (I2:(Int×Int×Int×Bool×Bool×(List (aB)))→Prop) (μ3:(Int×Int×Int×Bool×Bool×(List (aB)))→Nat),(∃ x1:Int×Int×Int×Bool×Bool×(List (aB)),(a.1.length=x1.2.2.2.2.2.length)∧(a.2.1=x1.1)∧(a.2.2.1=x1.2.1)∧(a.2.2.2=x1.2.2.1)∧(DEqs [] [])∧(true=x1.2.2.2.1)∧(true=x1.2.2.2.2.1)∧SlQ a.1.length x1.2.2.2.2.2.length (gl aA a.1) (gl aA x1.2.2.2.2.2) (I2 x1))∧∀ y4:Int×Int×Int×Bool×Bool×(List (aB)),I2 y4→(Let (wI (y4.2.1 - y4.1)) (fun v5:Int=>Br (decide (v5≤(12:Int))) ((y4.2.2.2.2.2.length=y4.2.2.2.2.2.length)∧∃ c8:(List (aB))×Int×Int,(y4.2.2.2.2.2.length=List.length c8.1)∧(y4.1=c8.2.1)∧(y4.2.1=c8.2.2)∧(DEqs [] [])∧SlQ y4.2.2.2.2.2.length c8.1.length (gl aA y4.2.2.2.2.2) (gl aA c8.1) ((iA c8)∧SlQ (List.length ((s8 aJ) c8)) (List.length ((eW aJ) a)) (gl aA ((s8 aJ) c8)) (gl aA ((eW aJ) a)) (True))) (Br (y4.2.2.1==(0:Int)) ((y4.2.2.2.2.2.length=y4.2.2.2.2.2.length)∧∃ c14:(List (aB))×Int×Int,(y4.2.2.2.2.2.length=List.length c14.1)∧(y4.1=c14.2.1)∧(y4.2.1=c14.2.2)∧(DEqs [] [])∧SlQ y4.2.2.2.2.2.length c14.1.length (gl aA y4.2.2.2.2.2) (gl aA c14.1) ((gG c14)∧SlQ (List.length ((mK aJ) c14)) (List.length ((eW aJ) a)) (gl aA ((mK aJ) c14)) (gl aA ((eW aJ) a)) (True))) (∃ I18:(Int×Int×Int×Bool×Bool×Int×(List (aB)))→Prop,(Br (!y4.2.2.2.1) ((y4.2.2.2.2.2.length=y4.2.2.2.2.2.length)∧∃ c21:(List (aB))×Int×Int,(y4.2.2.2.2.2.length=List.length c21.1)∧(y4.1=c21.2.1)∧(y4.2.1=c21.2.2)∧(DEqs [] [])∧SlQ y4.2.2.2.2.2.length c21.1.length (gl aA y4.2.2.2.2.2) (gl aA c21.1) ((iA c21)∧Let (wI (y4.2.2.1 - (1:Int))) (fun v23:Int=>∃ x24:Int×Int×Int×Bool×Bool×Int×(List (aB)),(y4.2.2.2.2.2.length=x24.2.2.2.2.2.2.length)∧(y4.1=x24.1)∧(y4.2.1=x24.2.1)∧(v23=x24.2.2.1)∧(DEqs [] [])∧(y4.2.2.2.1=x24.2.2.2.1)∧(y4.2.2.2.2.1=x24.2.2.2.2.1)∧(v5=x24.2.2.2.2.2.1)∧SlQ (List.length (fD c21)) x24.2.2.2.2.2.2.length (gl aA (fD c21)) (gl aA x24.2.2.2.2.2.2) (I18 x24)))) (∃ x29:Int×Int×Int×Bool×Bool×Int×(List (aB)),(y4.2.2.2.2.2.length=x29.2.2.2.2.2.2.length)∧(y4.1=x29.1)∧(y4.2.1=x29.2.1)∧(y4.2.2.1=x29.2.2.1)∧(DEqs [] [])∧(y4.2.2.2.1=x29.2.2.2.1)∧(y4.2.2.2.2.1=x29.2.2.2.2.1)∧(v5=x29.2.2.2.2.2.1)∧SlQ y4.2.2.2.2.2.length x29.2.2.2.2.2.2.length (gl aA y4.2.2.2.2.2) (gl aA x29.2.2.2.2.2.2) (I18 x29)))∧∀ y32:Int×Int×Int×Bool×Bool×Int×(List (aB)),I18 y32→((y32.2.2.2.2.2.2.length=y32.2.2.2.2.2.2.length)∧∃ c35:(List (aB))×Int×Int,(y32.2.2.2.2.2.2.length=List.length c35.1)∧(y32.1=c35.2.1)∧(y32.2.1=c35.2.2)∧(DEqs [] [])∧SlQ y32.2.2.2.2.2.2.length c35.1.length (gl aA y32.2.2.2.2.2.2) (gl aA c35.1) ((gG c35)∧∃ I37:(Int×Int×Int×Bool×Bool×Int×Int×Int×(List (aB)))→Prop,(Br ((((a9 aJ) c35).2.1)==(2:Int)) ((y32.2.2.2.2.2.2.length=(List.length (((a9 aJ) c35).2.2)))∧∃ c40:(List (aB))×Int×Int,(y32.2.2.2.2.2.2.length=List.length c40.1)∧(y32.1=c40.2.1)∧(y32.2.1=c40.2.2)∧(DEqs [] [])∧SlQ (List.length (((a9 aJ) c35).2.2)) c40.1.length (gl aA (((a9 aJ) c35).2.2)) (gl aA c40.1) ((iA c40)∧Let (wI (y32.2.1 - (1:Int))) (fun v42:Int=>Let (wI ((((a9 aJ) c35).1) - y32.1)) (fun v43:Int=>Let (wI (v42 - v43)) (fun v44:Int=>∃ x45:Int×Int×Int×Bool×Bool×Int×Int×Int×(List (aB)),(y32.2.2.2.2.2.2.length=x45.2.2.2.2.2.2.2.2.length)∧(y32.1=x45.1)∧(y32.2.1=x45.2.1)∧(y32.2.2.1=x45.2.2.1)∧(DEqs [] [])∧(y32.2.2.2.1=x45.2.2.2.1)∧(y32.2.2.2.2.1=x45.2.2.2.2.1)∧(y32.2.2.2.2.2.1=x45.2.2.2.2.2.1)∧(v44=x45.2.2.2.2.2.2.1)∧((1:Int)=x45.2.2.2.2.2.2.2.1)∧SlQ (List.length (qL c40)) x45.2.2.2.2.2.2.2.2.length (gl aA (qL c40)) (gl aA x45.2.2.2.2.2.2.2.2) (I37 x45)))))) (∃ x56:Int×Int×Int×Bool×Bool×Int×Int×Int×(List (aB)),(y32.2.2.2.2.2.2.length=x56.2.2.2.2.2.2.2.2.length)∧(y32.1=x56.1)∧(y32.2.1=x56.2.1)∧(y32.2.2.1=x56.2.2.1)∧(DEqs [] [])∧(y32.2.2.2.1=x56.2.2.2.1)∧(y32.2.2.2.2.1=x56.2.2.2.2.1)∧(y32.2.2.2.2.2.1=x56.2.2.2.2.2.1)∧((((a9 aJ) c35).1)=x56.2.2.2.2.2.2.1)∧((((a9 aJ) c35).2.1)=x56.2.2.2.2.2.2.2.1)∧SlQ (List.length (((a9 aJ) c35).2.2)) x56.2.2.2.2.2.2.2.2.length (gl aA (((a9 aJ) c35).2.2)) (gl aA x56.2.2.2.2.2.2.2.2) (I37 x56)))∧∀ y59:Int×Int×Int×Bool×Bool×Int×Int×Int×(List (aB)),I37 y59→(∃ I62:(Int×Int×Int×Bool×Bool×Int×Int×(List (aB)))→Prop,(Br y59.2.2.2.1 (Br y59.2.2.2.2.1 (Br (y59.2.2.2.2.2.2.2.1==(1:Int)) ((y59.2.2.2.2.2.2.2.2.length=y59.2.2.2.2.2.2.2.2.length)∧∃ c69:(List (aB))×Int×Int,(y59.2.2.2.2.2.2.2.2.length=List.length c69.1)∧(y59.1=c69.2.1)∧(y59.2.1=c69.2.2)∧(DEqs [] [])∧SlQ y59.2.2.2.2.2.2.2.2.length c69.1.length (gl aA y59.2.2.2.2.2.2.2.2) (gl aA c69.1) ((gG c69)∧Br (((bR aJ) c69).1) (SlQ (List.length (((bR aJ) c69).2)) (List.length ((eW aJ) a)) (gl aA (((bR aJ) c69).2)) (gl aA ((eW aJ) a)) (True)) (∃ x74:Int×Int×Int×Bool×Bool×Int×Int×(List (aB)),(y59.2.2.2.2.2.2.2.2.length=x74.2.2.2.2.2.2.2.length)∧(y59.1=x74.1)∧(y59.2.1=x74.2.1)∧(y59.2.2.1=x74.2.2.1)∧(DEqs [] [])∧(y59.2.2.2.1=x74.2.2.2.1)∧(y59.2.2.2.2.1=x74.2.2.2.2.1)∧(y59.2.2.2.2.2.1=x74.2.2.2.2.2.1)∧(y59.2.2.2.2.2.2.1=x74.2.2.2.2.2.2.1)∧SlQ (List.length (((bR aJ) c69).2)) x74.2.2.2.2.2.2.2.length (gl aA (((bR aJ) c69).2)) (gl aA x74.2.2.2.2.2.2.2) (I62 x74)))) (∃ x78:Int×Int×Int×Bool×Bool×Int×Int×(List (aB)),(y59.2.2.2.2.2.2.2.2.length=x78.2.2.2.2.2.2.2.length)∧(y59.1=x78.1)∧(y59.2.1=x78.2.1)∧(y59.2.2.1=x78.2.2.1)∧(DEqs [] [])∧(y59.2.2.2.1=x78.2.2.2.1)∧(y59.2.2.2.2.1=x78.2.2.2.2.1)∧(y59.2.2.2.2.2.1=x78.2.2.2.2.2.1)∧(y59.2.2.2.2.2.2.1=x78.2.2.2.2.2.2.1)∧SlQ y59.2.2.2.2.2.2.2.2.length x78.2.2.2.2.2.2.2.length (gl aA y59.2.2.2.2.2.2.2.2) (gl aA x78.2.2.2.2.2.2.2) (I62 x78))) (∃ x81:Int×Int×Int×Bool×Bool×Int×Int×(List (aB)),(y59.2.2.2.2.2.2.2.2.length=x81.2.2.2.2.2.2.2.length)∧(y59.1=x81.1)∧(y59.2.1=x81.2.1)∧(y59.2.2.1=x81.2.2.1)∧(DEqs [] [])∧(y59.2.2.2.1=x81.2.2.2.1)∧(y59.2.2.2.2.1=x81.2.2.2.2.1)∧(y59.2.2.2.2.2.1=x81.2.2.2.2.2.1)∧(y59.2.2.2.2.2.2.1=x81.2.2.2.2.2.2.1)∧SlQ y59.2.2.2.2.2.2.2.2.length x81.2.2.2.2.2.2.2.length (gl aA y59.2.2.2.2.2.2.2.2) (gl aA x81.2.2.2.2.2.2.2) (I62 x81))) (∃ x84:Int×Int×Int×Bool×Bool×Int×Int×(List (aB)),(y59.2.2.2.2.2.2.2.2.length=x84.2.2.2.2.2.2.2.length)∧(y59.1=x84.1)∧(y59.2.1=x84.2.1)∧(y59.2.2.1=x84.2.2.1)∧(DEqs [] [])∧(y59.2.2.2.1=x84.2.2.2.1)∧(y59.2.2.2.2.1=x84.2.2.2.2.1)∧(y59.2.2.2.2.2.1=x84.2.2.2.2.2.1)∧(y59.2.2.2.2.2.2.1=x84.2.2.2.2.2.2.1)∧SlQ y59.2.2.2.2.2.2.2.2.length x84.2.2.2.2.2.2.2.length (gl aA y59.2.2.2.2.2.2.2.2) (gl aA x84.2.2.2.2.2.2.2) (I62 x84)))∧∀ y87:Int×Int×Int×Bool×Bool×Int×Int×(List (aB)),I62 y87→(∃ I90:(Int×Int×Int×Int×Int×(List (aB)))→Prop,(Br (decide ((0:Int) < y87.1)) (Let (wI (y87.1 - (1:Int))) (fun v93:Int=>Br (decide ((0:Int)≤v93)&&decide (v93 < (List.length y87.2.2.2.2.2.2.2:Int))) ((y87.2.2.2.2.2.2.2.length=y87.2.2.2.2.2.2.2.length)∧(Br (decide ((0:Int)≤y87.2.2.2.2.2.2.1)&&decide (y87.2.2.2.2.2.2.1 < (List.length y87.2.2.2.2.2.2.2:Int))) ((y87.2.2.2.2.2.2.2.length=y87.2.2.2.2.2.2.2.length)∧(f199.ent (fun c96=>True∧Br (!(decide ((cD c96) < (0:Int)))) ((y87.2.2.2.2.2.2.2.length=y87.2.2.2.2.2.2.2.length)∧∃ c99:(List (aB))×Int×Int×Int,(y87.2.2.2.2.2.2.2.length=List.length c99.1)∧(y87.1=c99.2.1)∧(y87.2.1=c99.2.2.1)∧(y87.2.2.2.2.2.2.1=c99.2.2.2)∧(DEqs [] [])∧SlQ y87.2.2.2.2.2.2.2.length c99.1.length (gl aA y87.2.2.2.2.2.2.2) (gl aA c99.1) ((iS c99)∧∃ x101:Int×Int×Int×Bool×Bool×(List (aB)),(y87.2.2.2.2.2.2.2.length=x101.2.2.2.2.2.length)∧((((dJ aJ) c99).1)=x101.1)∧(y87.2.1=x101.2.1)∧(y87.2.2.1=x101.2.2.1)∧(DEqs [] [])∧(y87.2.2.2.1=x101.2.2.2.1)∧(y87.2.2.2.2.1=x101.2.2.2.2.1)∧SlQ (List.length (((dJ aJ) c99).2)) x101.2.2.2.2.2.length (gl aA (((dJ aJ) c99).2)) (gl aA x101.2.2.2.2.2) (I2 x101∧μ3 x101 < μ3 y4))) (∃ x104:Int×Int×Int×Int×Int×(List (aB)),(y87.2.2.2.2.2.2.2.length=x104.2.2.2.2.2.length)∧(y87.1=x104.1)∧(y87.2.1=x104.2.1)∧(y87.2.2.1=x104.2.2.1)∧(DEqs [] [])∧(y87.2.2.2.2.2.1=x104.2.2.2.1)∧(y87.2.2.2.2.2.2.1=x104.2.2.2.2.1)∧SlQ y87.2.2.2.2.2.2.2.length x104.2.2.2.2.2.length (gl aA y87.2.2.2.2.2.2.2) (gl aA x104.2.2.2.2.2) (I90 x104))) ((at_ y87.2.2.2.2.2.2.2 v93),(at_ y87.2.2.2.2.2.2.2 y87.2.2.2.2.2.2.1)))) False)) False)) (∃ x113:Int×Int×Int×Int×Int×(List (aB)),(y87.2.2.2.2.2.2.2.length=x113.2.2.2.2.2.length)∧(y87.1=x113.1)∧(y87.2.1=x113.2.1)∧(y87.2.2.1=x113.2.2.1)∧(DEqs [] [])∧(y87.2.2.2.2.2.1=x113.2.2.2.1)∧(y87.2.2.2.2.2.2.1=x113.2.2.2.2.1)∧SlQ y87.2.2.2.2.2.2.2.length x113.2.2.2.2.2.length (gl aA y87.2.2.2.2.2.2.2) (gl aA x113.2.2.2.2.2) (I90 x113)))∧∀ y116:Int×Int×Int×Int×Int×(List (aB)),I90 y116→((y116.2.2.2.2.2.length=y116.2.2.2.2.2.length)∧∃ c119:(List (aB))×Int×Int×Int,(y116.2.2.2.2.2.length=List.length c119.1)∧(y116.1=c119.2.1)∧(y116.2.1=c119.2.2.1)∧(y116.2.2.2.2.1=c119.2.2.2)∧(DEqs [] [])∧SlQ y116.2.2.2.2.2.length c119.1.length (gl aA y116.2.2.2.2.2) (gl aA c119.1) ((iS c119)∧Let (wI ((((a6 aJ) c119).1) - y116.1)) (fun v121:Int=>Let (wI (y116.2.1 - (((a6 aJ) c119).1))) (fun v122:Int=>Let (wI (Int.tdiv y116.2.2.2.1 (8:Int))) (fun v123:Int=>Br (decide (v121 < v122)) ((y116.2.2.2.2.2.length=(List.length (((a6 aJ) c119).2.2)))∧∃ uZ:(List (aB))×Int×Int×Int,(y116.2.2.2.2.2.length=List.length uZ.1)∧(y116.1=uZ.2.1)∧((((a6 aJ) c119).1)=uZ.2.2.1)∧(y116.2.2.1=uZ.2.2.2)∧(DEqs [] [])∧SlQ (List.length (((a6 aJ) c119).2.2)) uZ.1.length (gl aA (((a6 aJ) c119).2.2)) (gl aA uZ.1) ((f223.rpre n uZ)∧Let (wI ((((a6 aJ) c119).1)+(1:Int))) (fun v128:Int=>∃ x129:Int×Int×Int×Bool×Bool×(List (aB)),(y116.2.2.2.2.2.length=x129.2.2.2.2.2.length)∧(v128=x129.1)∧(y116.2.1=x129.2.1)∧(y116.2.2.1=x129.2.2.1)∧(DEqs [] [])∧((decide (v123≤v121))=x129.2.2.2.1)∧((((a6 aJ) c119).2.1)=x129.2.2.2.2.1)∧SlQ (List.length ((eW aJ) uZ)) x129.2.2.2.2.2.length (gl aA ((eW aJ) uZ)) (gl aA x129.2.2.2.2.2) (I2 x129∧μ3 x129 < μ3 y4)))) (Let (wI ((((a6 aJ) c119).1)+(1:Int))) (fun v135:Int=>(y116.2.2.2.2.2.length=(List.length (((a6 aJ) c119).2.2)))∧∃ sG:(List (aB))×Int×Int×Int,(y116.2.2.2.2.2.length=List.length sG.1)∧(v135=sG.2.1)∧(y116.2.1=sG.2.2.1)∧(y116.2.2.1=sG.2.2.2)∧(DEqs [] [])∧SlQ (List.length (((a6 aJ) c119).2.2)) sG.1.length (gl aA (((a6 aJ) c119).2.2)) (gl aA sG.1) ((f223.rpre n sG)∧∃ x138:Int×Int×Int×Bool×Bool×(List (aB)),(y116.2.2.2.2.2.length=x138.2.2.2.2.2.length)∧(y116.1=x138.1)∧((((a6 aJ) c119).1)=x138.2.1)∧(y116.2.2.1=x138.2.2.1)∧(DEqs [] [])∧((decide (v123≤v122))=x138.2.2.2.1)∧((((a6 aJ) c119).2.1)=x138.2.2.2.2.1)∧SlQ (List.length ((eW aJ) sG)) x138.2.2.2.2.2.length (gl aA ((eW aJ) sG)) (gl aA x138.2.2.2.2.2) (I2 x138∧μ3 x138 < μ3 y4)))))))))))))))))
def f223.vc (a:(List (aB))×Int×Int×Int) (n:Nat):Prop:=(∃ (I2:(Int×Int×Int×Bool×Bool×(List (aB)))→Prop) (μ3:(Int×Int×Int×Bool×Bool×(List (aB)))→Nat),I2 (a.2.1,a.2.2.1,a.2.2.2,true,true,a.1)∧∀ y4:Int×Int×Int×Bool×Bool×(List (aB)),I2 y4→(-9223372036854775808≤(y4.2.1 - y4.1)∧(y4.2.1 - y4.1)≤9223372036854775807∧(((y4.2.1 - y4.1)≤(12:Int)→(iA (y4.2.2.2.2.2,y4.1,y4.2.1)∧((List.length ((s8 aJ) (y4.2.2.2.2.2,y4.1,y4.2.1)))=y4.2.2.2.2.2.length∧(((s8 aJ) (y4.2.2.2.2.2,y4.1,y4.2.1))=(eW aJ) a))))∧(¬((y4.2.1 - y4.1)≤(12:Int))→((y4.2.2.1=(0:Int)→(gG (y4.2.2.2.2.2,y4.1,y4.2.1)∧((List.length ((mK aJ) (y4.2.2.2.2.2,y4.1,y4.2.1)))=y4.2.2.2.2.2.length∧(((mK aJ) (y4.2.2.2.2.2,y4.1,y4.2.1))=(eW aJ) a))))∧(¬(y4.2.2.1=(0:Int))→(∃ I18:(Int×Int×Int×Bool×Bool×Int×(List (aB)))→Prop,(((¬(y4.2.2.2.1=true)→(iA (y4.2.2.2.2.2,y4.1,y4.2.1)∧((List.length (fD (y4.2.2.2.2.2,y4.1,y4.2.1)))=y4.2.2.2.2.2.length∧(-9223372036854775808≤(y4.2.2.1 - (1:Int))∧(y4.2.2.1 - (1:Int))≤9223372036854775807∧(I18 (y4.1,y4.2.1,(y4.2.2.1 - (1:Int)),y4.2.2.2.1,y4.2.2.2.2.1,(y4.2.1 - y4.1),(fD (y4.2.2.2.2.2,y4.1,y4.2.1))))))))∧(¬(¬(y4.2.2.2.1=true))→(I18 (y4.1,y4.2.1,y4.2.2.1,y4.2.2.2.1,y4.2.2.2.2.1,(y4.2.1 - y4.1),y4.2.2.2.2.2)))))∧∀ y32:Int×Int×Int×Bool×Bool×Int×(List (aB)),I18 y32→(gG (y32.2.2.2.2.2.2,y32.1,y32.2.1)∧((List.length (((a9 aJ) (y32.2.2.2.2.2.2,y32.1,y32.2.1)).2.2))=y32.2.2.2.2.2.2.length∧(∃ I37:(Int×Int×Int×Bool×Bool×Int×Int×Int×(List (aB)))→Prop,((((((a9 aJ) (y32.2.2.2.2.2.2,y32.1,y32.2.1)).2.1)=(2:Int)→(iA (((a9 aJ) (y32.2.2.2.2.2.2,y32.1,y32.2.1)).2.2,y32.1,y32.2.1)∧((List.length (qL (((a9 aJ) (y32.2.2.2.2.2.2,y32.1,y32.2.1)).2.2,y32.1,y32.2.1)))=y32.2.2.2.2.2.2.length∧(-9223372036854775808≤(y32.2.1 - (1:Int))∧(y32.2.1 - (1:Int))≤9223372036854775807∧(-9223372036854775808≤((((a9 aJ) (y32.2.2.2.2.2.2,y32.1,y32.2.1)).1) - y32.1)∧((((a9 aJ) (y32.2.2.2.2.2.2,y32.1,y32.2.1)).1) - y32.1)≤9223372036854775807∧(-9223372036854775808≤((y32.2.1 - (1:Int)) - ((((a9 aJ) (y32.2.2.2.2.2.2,y32.1,y32.2.1)).1) - y32.1))∧((y32.2.1 - (1:Int)) - ((((a9 aJ) (y32.2.2.2.2.2.2,y32.1,y32.2.1)).1) - y32.1))≤9223372036854775807∧(I37 (y32.1,y32.2.1,y32.2.2.1,y32.2.2.2.1,y32.2.2.2.2.1,y32.2.2.2.2.2.1,((y32.2.1 - (1:Int)) - ((((a9 aJ) (y32.2.2.2.2.2.2,y32.1,y32.2.1)).1) - y32.1)),(1:Int),(qL (((a9 aJ) (y32.2.2.2.2.2.2,y32.1,y32.2.1)).2.2,y32.1,y32.2.1))))))))))∧(¬((((a9 aJ) (y32.2.2.2.2.2.2,y32.1,y32.2.1)).2.1)=(2:Int))→(I37 (y32.1,y32.2.1,y32.2.2.1,y32.2.2.2.1,y32.2.2.2.2.1,y32.2.2.2.2.2.1,((a9 aJ) (y32.2.2.2.2.2.2,y32.1,y32.2.1)).1,((a9 aJ) (y32.2.2.2.2.2.2,y32.1,y32.2.1)).2.1,((a9 aJ) (y32.2.2.2.2.2.2,y32.1,y32.2.1)).2.2)))))∧∀ y59:Int×Int×Int×Bool×Bool×Int×Int×Int×(List (aB)),I37 y59→(∃ I62:(Int×Int×Int×Bool×Bool×Int×Int×(List (aB)))→Prop,(((y59.2.2.2.1=true→((y59.2.2.2.2.1=true→((y59.2.2.2.2.2.2.2.1=(1:Int)→(gG (y59.2.2.2.2.2.2.2.2,y59.1,y59.2.1)∧((List.length (((bR aJ) (y59.2.2.2.2.2.2.2.2,y59.1,y59.2.1)).2))=y59.2.2.2.2.2.2.2.2.length∧(((((bR aJ) (y59.2.2.2.2.2.2.2.2,y59.1,y59.2.1)).1)=true→(((bR aJ) (y59.2.2.2.2.2.2.2.2,y59.1,y59.2.1)).2=(eW aJ) a))∧(¬((((bR aJ) (y59.2.2.2.2.2.2.2.2,y59.1,y59.2.1)).1)=true)→(I62 (y59.1,y59.2.1,y59.2.2.1,y59.2.2.2.1,y59.2.2.2.2.1,y59.2.2.2.2.2.1,y59.2.2.2.2.2.2.1,((bR aJ) (y59.2.2.2.2.2.2.2.2,y59.1,y59.2.1)).2)))))))∧(¬(y59.2.2.2.2.2.2.2.1=(1:Int))→(I62 (y59.1,y59.2.1,y59.2.2.1,y59.2.2.2.1,y59.2.2.2.2.1,y59.2.2.2.2.2.1,y59.2.2.2.2.2.2.1,y59.2.2.2.2.2.2.2.2)))))∧(¬(y59.2.2.2.2.1=true)→(I62 (y59.1,y59.2.1,y59.2.2.1,y59.2.2.2.1,y59.2.2.2.2.1,y59.2.2.2.2.2.1,y59.2.2.2.2.2.2.1,y59.2.2.2.2.2.2.2.2)))))∧(¬(y59.2.2.2.1=true)→(I62 (y59.1,y59.2.1,y59.2.2.1,y59.2.2.2.1,y59.2.2.2.2.1,y59.2.2.2.2.2.1,y59.2.2.2.2.2.2.1,y59.2.2.2.2.2.2.2.2)))))∧∀ y87:Int×Int×Int×Bool×Bool×Int×Int×(List (aB)),I62 y87→(∃ I90:(Int×Int×Int×Int×Int×(List (aB)))→Prop,((((0:Int) < y87.1→(-9223372036854775808≤(y87.1 - (1:Int))∧(y87.1 - (1:Int))≤9223372036854775807∧((0:Int)≤(y87.1 - (1:Int))∧(y87.1 - (1:Int)) < (List.length y87.2.2.2.2.2.2.2:Int)∧((0:Int)≤y87.2.2.2.2.2.2.1∧y87.2.2.2.2.2.2.1 < (List.length y87.2.2.2.2.2.2.2:Int)∧((¬((cD ((at_ y87.2.2.2.2.2.2.2 (y87.1 - (1:Int))),(at_ y87.2.2.2.2.2.2.2 y87.2.2.2.2.2.2.1))) < (0:Int))→(iS (y87.2.2.2.2.2.2.2,y87.1,y87.2.1,y87.2.2.2.2.2.2.1)∧((List.length (((dJ aJ) (y87.2.2.2.2.2.2.2,y87.1,y87.2.1,y87.2.2.2.2.2.2.1)).2))=y87.2.2.2.2.2.2.2.length∧(I2 (((dJ aJ) (y87.2.2.2.2.2.2.2,y87.1,y87.2.1,y87.2.2.2.2.2.2.1)).1,y87.2.1,y87.2.2.1,y87.2.2.2.1,y87.2.2.2.2.1,((dJ aJ) (y87.2.2.2.2.2.2.2,y87.1,y87.2.1,y87.2.2.2.2.2.2.1)).2)∧μ3 (((dJ aJ) (y87.2.2.2.2.2.2.2,y87.1,y87.2.1,y87.2.2.2.2.2.2.1)).1,y87.2.1,y87.2.2.1,y87.2.2.2.1,y87.2.2.2.2.1,((dJ aJ) (y87.2.2.2.2.2.2.2,y87.1,y87.2.1,y87.2.2.2.2.2.2.1)).2) < μ3 y4))))∧(¬(¬((cD ((at_ y87.2.2.2.2.2.2.2 (y87.1 - (1:Int))),(at_ y87.2.2.2.2.2.2.2 y87.2.2.2.2.2.2.1))) < (0:Int)))→(I90 (y87.1,y87.2.1,y87.2.2.1,y87.2.2.2.2.2.1,y87.2.2.2.2.2.2.1,y87.2.2.2.2.2.2.2))))))))∧(¬((0:Int) < y87.1)→(I90 (y87.1,y87.2.1,y87.2.2.1,y87.2.2.2.2.2.1,y87.2.2.2.2.2.2.1,y87.2.2.2.2.2.2.2)))))∧∀ y116:Int×Int×Int×Int×Int×(List (aB)),I90 y116→(iS (y116.2.2.2.2.2,y116.1,y116.2.1,y116.2.2.2.2.1)∧((List.length (((a6 aJ) (y116.2.2.2.2.2,y116.1,y116.2.1,y116.2.2.2.2.1)).2.2))=y116.2.2.2.2.2.length∧(-9223372036854775808≤((((a6 aJ) (y116.2.2.2.2.2,y116.1,y116.2.1,y116.2.2.2.2.1)).1) - y116.1)∧((((a6 aJ) (y116.2.2.2.2.2,y116.1,y116.2.1,y116.2.2.2.2.1)).1) - y116.1)≤9223372036854775807∧(-9223372036854775808≤(y116.2.1 - (((a6 aJ) (y116.2.2.2.2.2,y116.1,y116.2.1,y116.2.2.2.2.1)).1))∧(y116.2.1 - (((a6 aJ) (y116.2.2.2.2.2,y116.1,y116.2.1,y116.2.2.2.2.1)).1))≤9223372036854775807∧(0≤y116.2.2.2.1∧y116.2.2.2.1≤9223372036854775807∧((((((a6 aJ) (y116.2.2.2.2.2,y116.1,y116.2.1,y116.2.2.2.2.1)).1) - y116.1) < (y116.2.1 - (((a6 aJ) (y116.2.2.2.2.2,y116.1,y116.2.1,y116.2.2.2.2.1)).1))→(f223.rpre n (((a6 aJ) (y116.2.2.2.2.2,y116.1,y116.2.1,y116.2.2.2.2.1)).2.2,y116.1,((a6 aJ) (y116.2.2.2.2.2,y116.1,y116.2.1,y116.2.2.2.2.1)).1,y116.2.2.1)∧((List.length ((eW aJ) (((a6 aJ) (y116.2.2.2.2.2,y116.1,y116.2.1,y116.2.2.2.2.1)).2.2,y116.1,((a6 aJ) (y116.2.2.2.2.2,y116.1,y116.2.1,y116.2.2.2.2.1)).1,y116.2.2.1)))=y116.2.2.2.2.2.length∧(-9223372036854775808≤((((a6 aJ) (y116.2.2.2.2.2,y116.1,y116.2.1,y116.2.2.2.2.1)).1)+(1:Int))∧((((a6 aJ) (y116.2.2.2.2.2,y116.1,y116.2.1,y116.2.2.2.2.1)).1)+(1:Int))≤9223372036854775807∧(I2 (((((a6 aJ) (y116.2.2.2.2.2,y116.1,y116.2.1,y116.2.2.2.2.1)).1)+(1:Int)),y116.2.1,y116.2.2.1,decide ((y116.2.2.2.1 / (8:Int))≤((((a6 aJ) (y116.2.2.2.2.2,y116.1,y116.2.1,y116.2.2.2.2.1)).1) - y116.1)),((a6 aJ) (y116.2.2.2.2.2,y116.1,y116.2.1,y116.2.2.2.2.1)).2.1,((eW aJ) (((a6 aJ) (y116.2.2.2.2.2,y116.1,y116.2.1,y116.2.2.2.2.1)).2.2,y116.1,((a6 aJ) (y116.2.2.2.2.2,y116.1,y116.2.1,y116.2.2.2.2.1)).1,y116.2.2.1)))∧μ3 (((((a6 aJ) (y116.2.2.2.2.2,y116.1,y116.2.1,y116.2.2.2.2.1)).1)+(1:Int)),y116.2.1,y116.2.2.1,decide ((y116.2.2.2.1 / (8:Int))≤((((a6 aJ) (y116.2.2.2.2.2,y116.1,y116.2.1,y116.2.2.2.2.1)).1) - y116.1)),((a6 aJ) (y116.2.2.2.2.2,y116.1,y116.2.1,y116.2.2.2.2.1)).2.1,((eW aJ) (((a6 aJ) (y116.2.2.2.2.2,y116.1,y116.2.1,y116.2.2.2.2.1)).2.2,y116.1,((a6 aJ) (y116.2.2.2.2.2,y116.1,y116.2.1,y116.2.2.2.2.1)).1,y116.2.2.1))) < μ3 y4)))))∧(¬(((((a6 aJ) (y116.2.2.2.2.2,y116.1,y116.2.1,y116.2.2.2.2.1)).1) - y116.1) < (y116.2.1 - (((a6 aJ) (y116.2.2.2.2.2,y116.1,y116.2.1,y116.2.2.2.2.1)).1)))→(-9223372036854775808≤((((a6 aJ) (y116.2.2.2.2.2,y116.1,y116.2.1,y116.2.2.2.2.1)).1)+(1:Int))∧((((a6 aJ) (y116.2.2.2.2.2,y116.1,y116.2.1,y116.2.2.2.2.1)).1)+(1:Int))≤9223372036854775807∧(f223.rpre n (((a6 aJ) (y116.2.2.2.2.2,y116.1,y116.2.1,y116.2.2.2.2.1)).2.2,((((a6 aJ) (y116.2.2.2.2.2,y116.1,y116.2.1,y116.2.2.2.2.1)).1)+(1:Int)),y116.2.1,y116.2.2.1)∧((List.length ((eW aJ) (((a6 aJ) (y116.2.2.2.2.2,y116.1,y116.2.1,y116.2.2.2.2.1)).2.2,((((a6 aJ) (y116.2.2.2.2.2,y116.1,y116.2.1,y116.2.2.2.2.1)).1)+(1:Int)),y116.2.1,y116.2.2.1)))=y116.2.2.2.2.2.length∧(I2 (y116.1,((a6 aJ) (y116.2.2.2.2.2,y116.1,y116.2.1,y116.2.2.2.2.1)).1,y116.2.2.1,decide ((y116.2.2.2.1 / (8:Int))≤(y116.2.1 - (((a6 aJ) (y116.2.2.2.2.2,y116.1,y116.2.1,y116.2.2.2.2.1)).1))),((a6 aJ) (y116.2.2.2.2.2,y116.1,y116.2.1,y116.2.2.2.2.1)).2.1,((eW aJ) (((a6 aJ) (y116.2.2.2.2.2,y116.1,y116.2.1,y116.2.2.2.2.1)).2.2,((((a6 aJ) (y116.2.2.2.2.2,y116.1,y116.2.1,y116.2.2.2.2.1)).1)+(1:Int)),y116.2.1,y116.2.2.1)))∧μ3 (y116.1,((a6 aJ) (y116.2.2.2.2.2,y116.1,y116.2.1,y116.2.2.2.2.1)).1,y116.2.2.1,decide ((y116.2.2.2.1 / (8:Int))≤(y116.2.1 - (((a6 aJ) (y116.2.2.2.2.2,y116.1,y116.2.1,y116.2.2.2.2.1)).1))),((a6 aJ) (y116.2.2.2.2.2,y116.1,y116.2.1,y116.2.2.2.2.1)).2.1,((eW aJ) (((a6 aJ) (y116.2.2.2.2.2,y116.1,y116.2.1,y116.2.2.2.2.1)).2.2,((((a6 aJ) (y116.2.2.2.2.2,y116.1,y116.2.1,y116.2.2.2.2.1)).1)+(1:Int)),y116.2.1,y116.2.2.1))) < μ3 y4)))))))))))))))))))))))
theorem f223.of (a:(List (aB))×Int×Int×Int) (n:Nat) (h:f223.vc a n):f223.tree a n:=Exists.elim h (fun I2 h161_=>Exists.elim h161_ (fun μ3 h161=>⟨I2,μ3,⟨(a.2.1,a.2.2.1,a.2.2.2,true,true,a.1),⟨(bI (gl aA a.1) (rS aA)),⟨rfl,⟨rfl,⟨rfl,⟨(DEqs.refl _),⟨rfl,⟨rfl,slQ (rS aA) (h161.1)⟩⟩⟩⟩⟩⟩⟩⟩,fun y4 h163=>wrapK.i64 (h161.2 y4 h163) (fun h158 h159 k160=>br k160 Cnd.dec (fun h6 k156=>⟨rfl,⟨(y4.2.2.2.2.2,y4.1,y4.2.1),⟨(bI (gl aA y4.2.2.2.2.2) (rS aA)),⟨rfl,⟨rfl,⟨(DEqs.refl _),slQ (rS aA) (⟨k156.1,j5 k156.2 (fun (h9:(List.length ((s8 aJ) (y4.2.2.2.2.2,y4.1,y4.2.1)))=y4.2.2.2.2.2.length) hk=>slQ (Rds.to (rS aA) hk) (trivial))⟩)⟩⟩⟩⟩⟩⟩) (fun h7 k157=>br k157 Cnd.eq (fun h12 k154=>⟨rfl,⟨(y4.2.2.2.2.2,y4.1,y4.2.1),⟨(bI (gl aA y4.2.2.2.2.2) (rS aA)),⟨rfl,⟨rfl,⟨(DEqs.refl _),slQ (rS aA) (⟨k154.1,j5 k154.2 (fun (h15:(List.length ((mK aJ) (y4.2.2.2.2.2,y4.1,y4.2.1)))=y4.2.2.2.2.2.length) hk=>slQ (Rds.to (rS aA) hk) (trivial))⟩)⟩⟩⟩⟩⟩⟩) (fun h13 k155=>Exists.elim k155 (fun I18 h34=>⟨I18,br h34.1 (Cnd.not Cnd.b) (fun h19 k30=>⟨rfl,⟨(y4.2.2.2.2.2,y4.1,y4.2.1),⟨(bI (gl aA y4.2.2.2.2.2) (rS aA)),⟨rfl,⟨rfl,⟨(DEqs.refl _),slQ (rS aA) (⟨k30.1,j5 k30.2 (fun (h22:(List.length (fD (y4.2.2.2.2.2,y4.1,y4.2.1)))=y4.2.2.2.2.2.length) hk=>wrapK.i64 hk (fun h25 h26 k27=>⟨(y4.1,y4.2.1,(y4.2.2.1 - (1:Int)),y4.2.2.2.1,y4.2.2.2.2.1,(y4.2.1 - y4.1),(fD (y4.2.2.2.2.2,y4.1,y4.2.1))),⟨((h22).symm.trans (bI (gl aA (fD (y4.2.2.2.2.2,y4.1,y4.2.1))) (rS aA))),⟨rfl,⟨rfl,⟨rfl,⟨(DEqs.refl _),⟨rfl,⟨rfl,⟨rfl,slQ (rS aA) (k27)⟩⟩⟩⟩⟩⟩⟩⟩⟩))⟩)⟩⟩⟩⟩⟩⟩) (fun h20 k31=>⟨(y4.1,y4.2.1,y4.2.2.1,y4.2.2.2.1,y4.2.2.2.2.1,(y4.2.1 - y4.1),y4.2.2.2.2.2),⟨(bI (gl aA y4.2.2.2.2.2) (rS aA)),⟨rfl,⟨rfl,⟨rfl,⟨(DEqs.refl _),⟨rfl,⟨rfl,⟨rfl,slQ (rS aA) (k31)⟩⟩⟩⟩⟩⟩⟩⟩⟩),fun y32 h33=>⟨rfl,⟨(y32.2.2.2.2.2.2,y32.1,y32.2.1),⟨(bI (gl aA y32.2.2.2.2.2.2) (rS aA)),⟨rfl,⟨rfl,⟨(DEqs.refl _),slQ (rS aA) (⟨(h34.2 y32 h33).1,j5 ((h34.2 y32 h33).2) (fun (h36:(List.length (((a9 aJ) (y32.2.2.2.2.2.2,y32.1,y32.2.1)).2.2))=y32.2.2.2.2.2.2.length) hk=>Exists.elim hk (fun I37 h61=>⟨I37,br h61.1 Cnd.eq (fun h38 k57=>⟨(h36).symm,⟨(((a9 aJ) (y32.2.2.2.2.2.2,y32.1,y32.2.1)).2.2,y32.1,y32.2.1),⟨((h36).symm.trans (bI (gl aA (((a9 aJ) (y32.2.2.2.2.2.2,y32.1,y32.2.1)).2.2)) (rS aA))),⟨rfl,⟨rfl,⟨(DEqs.refl _),slQ (rS aA) (⟨k57.1,j5 k57.2 (fun (h41:(List.length (qL (((a9 aJ) (y32.2.2.2.2.2.2,y32.1,y32.2.1)).2.2,y32.1,y32.2.1)))=y32.2.2.2.2.2.2.length) hk=>wrapK.i64 hk (fun h52 h53 k54=>wrapK.i64 k54 (fun h49 h50 k51=>wrapK.i64 k51 (fun h46 h47 k48=>⟨(y32.1,y32.2.1,y32.2.2.1,y32.2.2.2.1,y32.2.2.2.2.1,y32.2.2.2.2.2.1,((y32.2.1 - (1:Int)) - ((((a9 aJ) (y32.2.2.2.2.2.2,y32.1,y32.2.1)).1) - y32.1)),(1:Int),(qL (((a9 aJ) (y32.2.2.2.2.2.2,y32.1,y32.2.1)).2.2,y32.1,y32.2.1))),⟨((h41).symm.trans (bI (gl aA (qL (((a9 aJ) (y32.2.2.2.2.2.2,y32.1,y32.2.1)).2.2,y32.1,y32.2.1))) (rS aA))),⟨rfl,⟨rfl,⟨rfl,⟨(DEqs.refl _),⟨rfl,⟨rfl,⟨rfl,⟨rfl,⟨rfl,slQ (rS aA) (k48)⟩⟩⟩⟩⟩⟩⟩⟩⟩⟩⟩))))⟩)⟩⟩⟩⟩⟩⟩) (fun h39 k58=>⟨(y32.1,y32.2.1,y32.2.2.1,y32.2.2.2.1,y32.2.2.2.2.1,y32.2.2.2.2.2.1,((a9 aJ) (y32.2.2.2.2.2.2,y32.1,y32.2.1)).1,((a9 aJ) (y32.2.2.2.2.2.2,y32.1,y32.2.1)).2.1,((a9 aJ) (y32.2.2.2.2.2.2,y32.1,y32.2.1)).2.2),⟨((h36).symm.trans (bI (gl aA (((a9 aJ) (y32.2.2.2.2.2.2,y32.1,y32.2.1)).2.2)) (rS aA))),⟨rfl,⟨rfl,⟨rfl,⟨(DEqs.refl _),⟨rfl,⟨rfl,⟨rfl,⟨rfl,⟨rfl,slQ (rS aA) (k58)⟩⟩⟩⟩⟩⟩⟩⟩⟩⟩⟩),fun y59 h60=>Exists.elim (h61.2 y59 h60) (fun I62 h89=>⟨I62,br h89.1 Cnd.b (fun h63 k85=>br k85 Cnd.b (fun h65 k82=>br k82 Cnd.eq (fun h67 k79=>⟨rfl,⟨(y59.2.2.2.2.2.2.2.2,y59.1,y59.2.1),⟨(bI (gl aA y59.2.2.2.2.2.2.2.2) (rS aA)),⟨rfl,⟨rfl,⟨(DEqs.refl _),slQ (rS aA) (⟨k79.1,j5 k79.2 (fun (h70:(List.length (((bR aJ) (y59.2.2.2.2.2.2.2.2,y59.1,y59.2.1)).2))=y59.2.2.2.2.2.2.2.2.length) hk=>br hk Cnd.b (fun h71 k75=>slQ (Rds.to (rS aA) k75) (trivial)) (fun h72 k76=>⟨(y59.1,y59.2.1,y59.2.2.1,y59.2.2.2.1,y59.2.2.2.2.1,y59.2.2.2.2.2.1,y59.2.2.2.2.2.2.1,((bR aJ) (y59.2.2.2.2.2.2.2.2,y59.1,y59.2.1)).2),⟨((h70).symm.trans (bI (gl aA (((bR aJ) (y59.2.2.2.2.2.2.2.2,y59.1,y59.2.1)).2)) (rS aA))),⟨rfl,⟨rfl,⟨rfl,⟨(DEqs.refl _),⟨rfl,⟨rfl,⟨rfl,⟨rfl,slQ (rS aA) (k76)⟩⟩⟩⟩⟩⟩⟩⟩⟩⟩))⟩)⟩⟩⟩⟩⟩⟩) (fun h68 k80=>⟨(y59.1,y59.2.1,y59.2.2.1,y59.2.2.2.1,y59.2.2.2.2.1,y59.2.2.2.2.2.1,y59.2.2.2.2.2.2.1,y59.2.2.2.2.2.2.2.2),⟨(bI (gl aA y59.2.2.2.2.2.2.2.2) (rS aA)),⟨rfl,⟨rfl,⟨rfl,⟨(DEqs.refl _),⟨rfl,⟨rfl,⟨rfl,⟨rfl,slQ (rS aA) (k80)⟩⟩⟩⟩⟩⟩⟩⟩⟩⟩)) (fun h66 k83=>⟨(y59.1,y59.2.1,y59.2.2.1,y59.2.2.2.1,y59.2.2.2.2.1,y59.2.2.2.2.2.1,y59.2.2.2.2.2.2.1,y59.2.2.2.2.2.2.2.2),⟨(bI (gl aA y59.2.2.2.2.2.2.2.2) (rS aA)),⟨rfl,⟨rfl,⟨rfl,⟨(DEqs.refl _),⟨rfl,⟨rfl,⟨rfl,⟨rfl,slQ (rS aA) (k83)⟩⟩⟩⟩⟩⟩⟩⟩⟩⟩)) (fun h64 k86=>⟨(y59.1,y59.2.1,y59.2.2.1,y59.2.2.2.1,y59.2.2.2.2.1,y59.2.2.2.2.2.1,y59.2.2.2.2.2.2.1,y59.2.2.2.2.2.2.2.2),⟨(bI (gl aA y59.2.2.2.2.2.2.2.2) (rS aA)),⟨rfl,⟨rfl,⟨rfl,⟨(DEqs.refl _),⟨rfl,⟨rfl,⟨rfl,⟨rfl,slQ (rS aA) (k86)⟩⟩⟩⟩⟩⟩⟩⟩⟩⟩),fun y87 h88=>Exists.elim (h89.2 y87 h88) (fun I90 h118=>⟨I90,br h118.1 Cnd.dec (fun h91 k114=>wrapK.i64 k114 (fun h110 h111 k112=>chk k112.2.2 Cnd.ix ⟨k112.1,k112.2.1⟩ (fun h94 k109=>⟨rfl,chk k109.2.2 Cnd.ix ⟨k109.1,k109.2.1⟩ (fun h95 k108=>⟨rfl,(f199.ei ⟨trivial,br k108 (Cnd.not Cnd.dec) (fun h97 k105=>⟨rfl,⟨(y87.2.2.2.2.2.2.2,y87.1,y87.2.1,y87.2.2.2.2.2.2.1),⟨(bI (gl aA y87.2.2.2.2.2.2.2) (rS aA)),⟨rfl,⟨rfl,⟨rfl,⟨(DEqs.refl _),slQ (rS aA) (⟨k105.1,j5 k105.2 (fun (h100:(List.length (((dJ aJ) (y87.2.2.2.2.2.2.2,y87.1,y87.2.1,y87.2.2.2.2.2.2.1)).2))=y87.2.2.2.2.2.2.2.length) hk=>⟨(((dJ aJ) (y87.2.2.2.2.2.2.2,y87.1,y87.2.1,y87.2.2.2.2.2.2.1)).1,y87.2.1,y87.2.2.1,y87.2.2.2.1,y87.2.2.2.2.1,((dJ aJ) (y87.2.2.2.2.2.2.2,y87.1,y87.2.1,y87.2.2.2.2.2.2.1)).2),⟨((h100).symm.trans (bI (gl aA (((dJ aJ) (y87.2.2.2.2.2.2.2,y87.1,y87.2.1,y87.2.2.2.2.2.2.1)).2)) (rS aA))),⟨rfl,⟨rfl,⟨rfl,⟨(DEqs.refl _),⟨rfl,⟨rfl,slQ (rS aA) (hk)⟩⟩⟩⟩⟩⟩⟩⟩)⟩)⟩⟩⟩⟩⟩⟩⟩) (fun h98 k106=>⟨(y87.1,y87.2.1,y87.2.2.1,y87.2.2.2.2.2.1,y87.2.2.2.2.2.2.1,y87.2.2.2.2.2.2.2),⟨(bI (gl aA y87.2.2.2.2.2.2.2) (rS aA)),⟨rfl,⟨rfl,⟨rfl,⟨(DEqs.refl _),⟨rfl,⟨rfl,slQ (rS aA) (k106)⟩⟩⟩⟩⟩⟩⟩⟩)⟩)⟩)⟩))) (fun h92 k115=>⟨(y87.1,y87.2.1,y87.2.2.1,y87.2.2.2.2.2.1,y87.2.2.2.2.2.2.1,y87.2.2.2.2.2.2.2),⟨(bI (gl aA y87.2.2.2.2.2.2.2) (rS aA)),⟨rfl,⟨rfl,⟨rfl,⟨(DEqs.refl _),⟨rfl,⟨rfl,slQ (rS aA) (k115)⟩⟩⟩⟩⟩⟩⟩⟩),fun y116 h117=>⟨rfl,⟨(y116.2.2.2.2.2,y116.1,y116.2.1,y116.2.2.2.2.1),⟨(bI (gl aA y116.2.2.2.2.2) (rS aA)),⟨rfl,⟨rfl,⟨rfl,⟨(DEqs.refl _),slQ (rS aA) (⟨(h118.2 y116 h117).1,j5 ((h118.2 y116 h117).2) (fun (h120:(List.length (((a6 aJ) (y116.2.2.2.2.2,y116.1,y116.2.1,y116.2.2.2.2.1)).2.2))=y116.2.2.2.2.2.length) hk=>wrapK.i64 hk (fun h149 h150 k151=>wrapK.i64 k151 (fun h146 h147 k148=>divK.i64 k148.1 k148.2.1 (by decide) (br k148.2.2 Cnd.dec (fun h124 k144=>⟨(h120).symm,⟨(((a6 aJ) (y116.2.2.2.2.2,y116.1,y116.2.1,y116.2.2.2.2.1)).2.2,y116.1,((a6 aJ) (y116.2.2.2.2.2,y116.1,y116.2.1,y116.2.2.2.2.1)).1,y116.2.2.1),⟨((h120).symm.trans (bI (gl aA (((a6 aJ) (y116.2.2.2.2.2,y116.1,y116.2.1,y116.2.2.2.2.1)).2.2)) (rS aA))),⟨rfl,⟨rfl,⟨rfl,⟨(DEqs.refl _),slQ (rS aA) (⟨k144.1,j5 k144.2 (fun (h127:(List.length ((eW aJ) (((a6 aJ) (y116.2.2.2.2.2,y116.1,y116.2.1,y116.2.2.2.2.1)).2.2,y116.1,((a6 aJ) (y116.2.2.2.2.2,y116.1,y116.2.1,y116.2.2.2.2.1)).1,y116.2.2.1)))=y116.2.2.2.2.2.length) hk=>wrapK.i64 hk (fun h131 h132 k133=>⟨(((((a6 aJ) (y116.2.2.2.2.2,y116.1,y116.2.1,y116.2.2.2.2.1)).1)+(1:Int)),y116.2.1,y116.2.2.1,decide ((y116.2.2.2.1 / (8:Int))≤((((a6 aJ) (y116.2.2.2.2.2,y116.1,y116.2.1,y116.2.2.2.2.1)).1) - y116.1)),((a6 aJ) (y116.2.2.2.2.2,y116.1,y116.2.1,y116.2.2.2.2.1)).2.1,((eW aJ) (((a6 aJ) (y116.2.2.2.2.2,y116.1,y116.2.1,y116.2.2.2.2.1)).2.2,y116.1,((a6 aJ) (y116.2.2.2.2.2,y116.1,y116.2.1,y116.2.2.2.2.1)).1,y116.2.2.1))),⟨((h127).symm.trans (bI (gl aA ((eW aJ) (((a6 aJ) (y116.2.2.2.2.2,y116.1,y116.2.1,y116.2.2.2.2.1)).2.2,y116.1,((a6 aJ) (y116.2.2.2.2.2,y116.1,y116.2.1,y116.2.2.2.2.1)).1,y116.2.2.1))) (rS aA))),⟨rfl,⟨rfl,⟨rfl,⟨(DEqs.refl _),⟨rfl,⟨rfl,slQ (rS aA) (k133)⟩⟩⟩⟩⟩⟩⟩⟩))⟩)⟩⟩⟩⟩⟩⟩⟩) (fun h125 k145=>wrapK.i64 k145 (fun h141 h142 k143=>⟨(h120).symm,⟨(((a6 aJ) (y116.2.2.2.2.2,y116.1,y116.2.1,y116.2.2.2.2.1)).2.2,((((a6 aJ) (y116.2.2.2.2.2,y116.1,y116.2.1,y116.2.2.2.2.1)).1)+(1:Int)),y116.2.1,y116.2.2.1),⟨((h120).symm.trans (bI (gl aA (((a6 aJ) (y116.2.2.2.2.2,y116.1,y116.2.1,y116.2.2.2.2.1)).2.2)) (rS aA))),⟨rfl,⟨rfl,⟨rfl,⟨(DEqs.refl _),slQ (rS aA) (⟨k143.1,j5 k143.2 (fun (h137:(List.length ((eW aJ) (((a6 aJ) (y116.2.2.2.2.2,y116.1,y116.2.1,y116.2.2.2.2.1)).2.2,((((a6 aJ) (y116.2.2.2.2.2,y116.1,y116.2.1,y116.2.2.2.2.1)).1)+(1:Int)),y116.2.1,y116.2.2.1)))=y116.2.2.2.2.2.length) hk=>⟨(y116.1,((a6 aJ) (y116.2.2.2.2.2,y116.1,y116.2.1,y116.2.2.2.2.1)).1,y116.2.2.1,decide ((y116.2.2.2.1 / (8:Int))≤(y116.2.1 - (((a6 aJ) (y116.2.2.2.2.2,y116.1,y116.2.1,y116.2.2.2.2.1)).1))),((a6 aJ) (y116.2.2.2.2.2,y116.1,y116.2.1,y116.2.2.2.2.1)).2.1,((eW aJ) (((a6 aJ) (y116.2.2.2.2.2,y116.1,y116.2.1,y116.2.2.2.2.1)).2.2,((((a6 aJ) (y116.2.2.2.2.2,y116.1,y116.2.1,y116.2.2.2.2.1)).1)+(1:Int)),y116.2.1,y116.2.2.1))),⟨((h137).symm.trans (bI (gl aA ((eW aJ) (((a6 aJ) (y116.2.2.2.2.2,y116.1,y116.2.1,y116.2.2.2.2.1)).2.2,((((a6 aJ) (y116.2.2.2.2.2,y116.1,y116.2.1,y116.2.2.2.2.1)).1)+(1:Int)),y116.2.1,y116.2.2.1))) (rS aA))),⟨rfl,⟨rfl,⟨rfl,⟨(DEqs.refl _),⟨rfl,⟨rfl,slQ (rS aA) (hk)⟩⟩⟩⟩⟩⟩⟩⟩)⟩)⟩⟩⟩⟩⟩⟩⟩))))))⟩)⟩⟩⟩⟩⟩⟩⟩⟩)⟩)⟩))⟩)⟩⟩⟩⟩⟩⟩⟩))))⟩))
theorem f223.eq (a:(List (aB))×Int×Int×Int) (n:Nat):(f223.af a).gives (f223.env n) (f223.args a) (f223.blks a) (f223.res a) (f223.blks' a)=f223.tree a n:=by kernel_rfl
theorem aG1 (x y:ByteArray):kK (x,y) < 0↔sLt x y:=by
 unfold kK
 by_cases h:sLt x y
 ·have h':Op.bytesLess x.toList y.toList=true:=h
  rw [if_pos h']
  exact ⟨fun _=>h,fun _=>by decide⟩
 ·have h':¬Op.bytesLess x.toList y.toList=true:=h
  rw [if_neg h']
  refine ⟨fun hh=>?_,fun hh=>absurd hh h⟩
  split at hh <;> omega
theorem aF6 (x y:TSc):cD (x,y) < 0↔x.2 < y.2∨(x.2=y.2∧sLt x.1 y.1):=by
 have ht:=aG1 x.1 y.1
 unfold cD
 simp only [orI]
 generalize kK (x.1,y.1)=ct at ht
 unfold lC
 simp only
 by_cases h1:x.2 < y.2
 ·rw [if_pos h1,if_neg (by decide)]
  exact ⟨fun _=>.inl h1,fun _=>by decide⟩
 ·rw [if_neg h1]
  by_cases h2:y.2 < x.2
  ·rw [if_pos h2,if_neg (by decide)]
   exact ⟨fun hh=>by omega,fun hh=>by omega⟩
  ·rw [if_neg h2,if_pos rfl]
   have h3:x.2=y.2:=by omega
   have e:(if ct=0 then (0:Int) else ct) < 0↔ct < 0:=by split <;> omega
   rw [e,ht]
   exact ⟨fun hh=>.inr ⟨h3,hh⟩,fun hh=>hh.elim (fun h=>by omega) (·.2)⟩
theorem rL (x y:TSc):aJ x y=true↔x.2 < y.2∨(x.2=y.2∧sLt x.1 y.1):=by
 unfold aJ
 rw [decide_eq_true_eq]
 exact aF6 x y
theorem qR (x y:TSc):aJ x y=false↔¬(x.2 < y.2∨(x.2=y.2∧sLt x.1 y.1)):=by
 rw [← rL]
 simp
theorem sX:Sort.SWO aJ:=by
 refine ⟨fun x=>?_,fun x y z h1 h2=>?_,fun x y z h1 h2=>?_⟩
 ·rw [qR]
  rintro (h | ⟨_,h⟩)
  ·omega
  ·have:=kG x.1.toList
   unfold sLt at h
   rw [this] at h
   cases h
 ·rw [rL] at *
  rcases h1 with h1 | ⟨e1,h1⟩ <;> rcases h2 with h2 | ⟨e2,h2⟩
  ·exact .inl (by omega)
  ·exact .inl (by omega)
  ·exact .inl (by omega)
  ·exact .inr ⟨by omega,mF h1 h2⟩
 ·rw [qR] at *
  rintro (h | ⟨e,h⟩)
  ·have a1:¬x.2 < y.2:=fun hh=>h1 (.inl hh)
   have a2:¬y.2 < z.2:=fun hh=>h2 (.inl hh)
   omega
  ·have a1:¬x.2 < y.2:=fun hh=>h1 (.inl hh)
   have a2:¬y.2 < z.2:=fun hh=>h2 (.inl hh)
   have b1:¬sLt x.1 y.1:=fun hh=>h1 (.inr ⟨by omega,hh⟩)
   have b2:¬sLt y.1 z.1:=fun hh=>h2 (.inr ⟨by omega,hh⟩)
   rcases rH x.1.toList y.1.toList with c | c | c
   ·exact b1 c
   ·unfold sLt at h b2
    rw [c] at h
    exact b2 h
   ·exact b2 (mF c h)
theorem aI4 (x y:TSc) (h1:aJ x y=false) (h2:aJ y x=false):x=y:=by
 rw [qR] at h1 h2
 have e2:x.2=y.2:=by
  rcases Int.lt_trichotomy x.2 y.2 with h | h | h
  ·exact absurd (.inl h) h1
  ·exact h
  ·exact absurd (.inl h) h2
 rcases rH x.1.toList y.1.toList with c | c | c
 ·exact absurd (.inr ⟨e2,c⟩) h1
 ·exact Prod.ext (toList_inj.1 c) e2
 ·exact absurd (.inr ⟨e2.symm,c⟩) h2
theorem aBF {h:Sort.Hint}:aAX h=2↔h=.decreasing:=by cases h <;> decide
theorem uS {h:Sort.Hint}:aAX h=1↔h=.increasing:=by cases h <;> decide
set_option maxHeartbeats 4000000 in
theorem f223.ok (a:List TSc×Int×Int×Int) (h:qE a) (n:Nat) (hn:aDW a < n+1):f223.vc a n:=by
 obtain ⟨l,a0,b0,lim0⟩:=a
 obtain ⟨h1,h2,h3,h4,h5,h6⟩:=h
 simp only at h1 h2 h3 h4 h5 h6
 have hn:(b0 - a0).toNat < n+1:=hn
 generalize hX:Sort.pdq aJ l.toArray a0.toNat b0.toNat lim0.toNat true true=X
 have res:∀ c:List TSc,c.toArray=X→c=eW aJ (l,a0,b0,lim0):=fun c e=>by
  unfold eW
  simp only
  rw [hX,← e]
 refine ⟨fun y=>0≤y.1∧y.1≤y.2.1∧y.2.1≤l.length∧y.2.1 - y.1≤b0 - a0∧0≤y.2.2.1∧y.2.2.1≤1048576∧y.2.2.2.2.2.length=l.length∧Sort.pdq aJ y.2.2.2.2.2.toArray y.1.toNat y.2.1.toNat y.2.2.1.toNat y.2.2.2.1 y.2.2.2.2.1=X,fun y=>(y.2.1 - y.1).toNat,⟨h1,h2,h3,Int.le_refl _,h5,h6,rfl,hX⟩,fun y hy=>?_⟩
 obtain ⟨a,b,lim,wb,wp,c⟩:=y
 obtain ⟨g1,g2,g3,g4,g5,g6,g7,g8⟩:=hy
 simp only at g1 g2 g3 g4 g5 g6 g7 g8 ⊢
 rw [pL] at g8
 refine ⟨by omega,by omega,fun h12=>?_,fun h12=>⟨fun hl=>?_,fun hl=>?_⟩⟩
 ·rw [if_pos (by omega)] at g8
  refine ⟨⟨g1,g2,by simp only; omega,by simp only; omega⟩,?_,?_⟩
  ·unfold s8
   rw [Array.length_toList,aGK aJ sX _ (by simp only; omega) (by simp only [List.size_toArray]; omega),List.size_toArray]
  ·exact res _ (by unfold s8; exact g8)
 ·rw [if_neg (by omega),if_pos (by omega)] at g8
  refine ⟨⟨⟨g1,g2,by simp only; omega,by simp only; omega⟩,by simp only; omega⟩,?_,?_⟩
  ·unfold mK
   rw [Array.length_toList,aFW aJ sX _ (by simp only; omega) (by simp only [List.size_toArray]; omega),List.size_toArray]
  ·exact res _ (by unfold mK; exact g8)
 ·rw [if_neg (by omega),if_neg (by omega)] at g8
  refine ⟨fun z=>z.1=a∧z.2.1=b∧0≤z.2.2.1∧z.2.2.1≤1048576∧z.2.2.2.2.2.1=b - a∧z.2.2.2.2.2.2.length=l.length∧aBZ aJ z.2.2.2.2.2.2.toArray a.toNat b.toNat z.2.2.1.toNat z.2.2.2.1 z.2.2.2.2.1=X,⟨fun hw=>?_,fun hw=>?_⟩,fun z hz=>?_⟩
  ·rw [if_neg hw] at g8
   have hs:(fD (c,a,b)).length=c.length:=by
    unfold fD
    rw [Array.length_toList,pE,List.size_toArray]
   refine ⟨⟨g1,g2,by simp only; omega,by simp only; omega⟩,hs,by omega,by omega,rfl,rfl,by simp only; omega,by simp only; omega,rfl,hs.trans g7,?_⟩
   simp only
   rw [show (lim - 1).toNat=lim.toNat - 1 from by omega]
   exact g8
  ·rw [if_pos (Classical.not_not.1 hw)] at g8
   exact ⟨rfl,rfl,g5,g6,rfl,g7,g8⟩
  ·obtain ⟨a',b',lim',wb',wp',len,c1⟩:=z
   obtain ⟨z1,z2,z3,z4,z5,z6,z7⟩:=hz
   simp only at z1 z2 z3 z4 z5 z6 z7 ⊢
   subst z1; subst z2; subst z5
   have hcr:=Sort.choosePivot_holds aJ c1.toArray a'.toNat b'.toNat (by omega)
   have hcp:a9 aJ (c1,a',b')=(((Sort.choosePivot aJ c1.toArray a'.toNat b'.toNat).1:Int),aAX (Sort.choosePivot aJ c1.toArray a'.toNat b'.toNat).2,c1):=rfl
   rw [hcp]
   simp only
   unfold aBZ at z7
   generalize Sort.choosePivot aJ c1.toArray a'.toNat b'.toNat=ch at hcr z7 ⊢
   refine ⟨⟨⟨g1,g2,by simp only; omega,by simp only; omega⟩,by simp only; omega⟩,by trivial,fun z=>z.1=a'∧z.2.1=b'∧z.2.2.1=lim'∧z.2.2.2.2.2.1=b' - a'∧a'≤z.2.2.2.2.2.2.1∧z.2.2.2.2.2.2.1 < b'∧z.2.2.2.2.2.2.2.2.length=l.length∧∃ hh:Sort.Hint,z.2.2.2.2.2.2.2.1=aAX hh∧aBX aJ z.2.2.2.2.2.2.2.2.toArray a'.toNat b'.toNat lim'.toNat z.2.2.2.1 z.2.2.2.2.1 z.2.2.2.2.2.2.1.toNat hh=X,⟨fun hd=>?_,fun hd=>?_⟩,fun z hz=>?_⟩
   ·rw [if_pos (aBF.1 hd)] at z7
    have hs:(qL (c1,a',b')).length=c1.length:=by
     unfold qL
     rw [Array.length_toList,uR,List.size_toArray]
    refine ⟨⟨g1,g2,by simp only; omega,by simp only; omega⟩,hs,by omega,by omega,by omega,by omega,by omega,by omega,rfl,rfl,rfl,rfl,by simp only; omega,by simp only; omega,hs.trans z6,.increasing,rfl,?_⟩
    simp only
    rw [show (b' - 1 - ((ch.1:Int) - a')).toNat=b'.toNat - 1 - (ch.1 - a'.toNat) from by omega]
    exact z7
   ·rw [if_neg (fun hh=>hd (aBF.2 hh))] at z7
    exact ⟨rfl,rfl,rfl,rfl,by simp only; omega,by simp only; omega,z6,ch.2,rfl,z7⟩
   ·obtain ⟨a2,b2,lim2,wb2,wp2,len2,pv,hi,c2⟩:=z
    obtain ⟨u1,u2,u3,u4,u5,u6,u7,hh,u8,u9⟩:=hz
    simp only at u1 u2 u3 u4 u5 u6 u7 u8 u9 ⊢
    subst u1; subst u2; subst u3; subst u4; subst u8
    unfold aBX at u9
    have hps:((bR aJ (c2,a2,b2)).2).length=c2.length:=by
     unfold bR
     simp only
     rw [Array.length_toList,qC,List.size_toArray]
    refine ⟨fun z=>z.1=a2∧z.2.1=b2∧z.2.2.1=lim2∧z.2.2.2.2.2.1=b2 - a2∧z.2.2.2.2.2.2.1=pv∧z.2.2.2.2.2.2.2.length=l.length∧aDT aJ z.2.2.2.2.2.2.2.toArray a2.toNat b2.toNat lim2.toNat z.2.2.2.1 z.2.2.2.2.1 pv.toNat=X,⟨fun hw=>⟨fun hp=>⟨fun hi=>⟨⟨⟨g1,g2,by simp only; omega,by simp only; omega⟩,by simp only; omega⟩,hps,fun ht=>?_,fun ht=>?_⟩,fun hi=>?_⟩,fun hp=>?_⟩,fun hw=>?_⟩,fun z hz=>?_⟩
    ·have ht:(Sort.partialInsertionSort aJ c2.toArray a2.toNat b2.toNat).2=true:=ht
     rw [if_pos (by simp [hw,hp,uS.1 hi]),if_pos ht] at u9
     exact res _ u9
    ·have ht:¬(Sort.partialInsertionSort aJ c2.toArray a2.toNat b2.toNat).2=true:=ht
     rw [if_pos (by simp [hw,hp,uS.1 hi]),if_neg ht] at u9
     exact ⟨rfl,rfl,rfl,rfl,rfl,hps.trans u7,u9⟩
    ·rw [if_neg (by simp [hw,hp]; exact fun e=>hi (uS.2 e))] at u9
     exact ⟨rfl,rfl,rfl,rfl,rfl,u7,u9⟩
    ·rw [if_neg (by simp [hp])] at u9
     exact ⟨rfl,rfl,rfl,rfl,rfl,u7,u9⟩
    ·rw [if_neg (by simp [hw])] at u9
     exact ⟨rfl,rfl,rfl,rfl,rfl,u7,u9⟩
    ·obtain ⟨a3,b3,lim3,wb3,wp3,len3,pv3,c3⟩:=z
     obtain ⟨v1,v2,v3,v4,v5,v6,v7⟩:=hz
     simp only at v1 v2 v3 v4 v5 v6 v7 ⊢
     subst v1; subst v2; subst v3; subst v4; subst v5
     unfold aDT at v7
     have x1:a3.toNat - 1=(a3 - 1).toNat:=by omega
     refine ⟨fun z=>z.1=a3∧z.2.1=b3∧z.2.2.1=lim3∧z.2.2.2.1=b3 - a3∧z.2.2.2.2.1=pv3∧z.2.2.2.2.2.length=l.length∧aFG aJ z.2.2.2.2.2.toArray a3.toNat b3.toNat lim3.toNat pv3.toNat=X,⟨fun h0=>⟨by omega,by omega,by omega,by omega,by omega,by omega,fun hl=>?_,fun hl=>?_⟩,fun h0=>?_⟩,fun z hz=>?_⟩
     ·have hl:=scN hl
      rw [← eO,← x1] at hl
      rw [if_pos (by rw [hl,decide_eq_true (show a3.toNat > 0 by omega)]; rfl)] at v7
      obtain ⟨q1,q2,q3⟩:=qU aJ (d:=c3.toArray) (a:=a3.toNat) (b:=b3.toNat) (pv:=pv3.toNat) (by omega) (by omega) (by simp only [List.size_toArray]; omega)
      have hpe:dJ aJ (c3,a3,b3,pv3)=(((Sort.partitionEqual aJ c3.toArray a3.toNat b3.toNat pv3.toNat).1:Int),(Sort.partitionEqual aJ c3.toArray a3.toNat b3.toNat pv3.toNat).2.toList):=rfl
      rw [hpe]
      simp only
      generalize Sort.partitionEqual aJ c3.toArray a3.toNat b3.toNat pv3.toNat=r at q1 q2 q3 v7 ⊢
      obtain ⟨mid,d4⟩:=r
      simp only at q1 q2 q3 v7 ⊢
      rw [if_pos ⟨q1,q2⟩] at v7
      have q3:d4.size=c3.length:=q3
      exact ⟨⟨g1,u5,u6,by simp only; omega,by simp only; omega⟩,q3,⟨by omega,by omega,g3,by omega,z3,z4,q3.trans v6,by simp only [Int.toNat_natCast]; exact v7⟩,by omega⟩
     ·have hl:=scY (Classical.not_not.1 hl)
      rw [← eO,← x1] at hl
      rw [if_neg (by rw [hl]; simp)] at v7
      exact ⟨rfl,rfl,rfl,rfl,rfl,v6,v7⟩
     ·rw [if_neg (by simp; omega)] at v7
      exact ⟨rfl,rfl,rfl,rfl,rfl,v6,v7⟩
     ·obtain ⟨a4,b4,lim4,len4,pv4,c4⟩:=z
      obtain ⟨w1,w2,w3,w4,w5,w6,w7⟩:=hz
      simp only at w1 w2 w3 w4 w5 w6 w7 ⊢
      subst w1; subst w2; subst w3; subst w4; subst w5
      unfold aFG at w7
      obtain ⟨q1,q2,q3⟩:=t9 aJ (d:=c4.toArray) (a:=a4.toNat) (b:=b4.toNat) (pv:=pv4.toNat) (by omega) (by omega) (by simp only [List.size_toArray]; omega)
      have hpp:a6 aJ (c4,a4,b4,pv4)=(((Sort.partition aJ c4.toArray a4.toNat b4.toNat pv4.toNat).1:Int),(Sort.partition aJ c4.toArray a4.toNat b4.toNat pv4.toNat).2.1,(Sort.partition aJ c4.toArray a4.toNat b4.toNat pv4.toNat).2.2.toList):=rfl
      rw [hpp]
      simp only
      generalize Sort.partition aJ c4.toArray a4.toNat b4.toNat pv4.toNat=r at q1 q2 q3 w7 ⊢
      obtain ⟨mid,ap,d4⟩:=r
      simp only at q1 q2 q3 w7 ⊢
      rw [if_pos ⟨q1,q2⟩] at w7
      have q3:d4.size=c4.length:=q3
      have hd4:d4.toList.length=l.length:=q3.trans w6
      have psz:∀ x y:Int,0≤x→x≤y→y≤l.length→(eW aJ (d4.toList,x,y,lim4)).length=c4.length:=fun x y e1 e2 e3=>by
       unfold eW
       rw [Array.length_toList]
       simp only [Array.toArray_toList]
       rw [jW aJ sX _ _ _ _ _ _ _ (Nat.le_refl _) (by omega) (by rw [q3]; omega),q3]
      refine ⟨⟨g1,u5,u6,by simp only; omega,by simp only; omega⟩,q3,by omega,by omega,by omega,by omega,by omega,by omega,fun hlt=>?_,fun hlt=>?_⟩
      ·rw [if_pos (by omega)] at w7
       refine ⟨⟨⟨g1,by simp only; omega,by simp only; omega,by simp only; omega,z3,z4⟩,?_⟩,psz _ _ g1 (by omega) (by omega),by omega,by omega,⟨by omega,by omega,g3,by omega,z3,z4,?_,?_⟩,by omega⟩
       ·show ((mid:Int) - a4).toNat < n
        omega
       ·rw [psz _ _ g1 (by omega) (by omega)]
        exact w6
       ·rw [show ((mid:Int)+1).toNat=mid+1 from by omega,show decide ((b4 - a4) / 8≤(mid:Int) - a4)=decide (mid - a4.toNat ≥ (b4.toNat - a4.toNat) / 8) from decide_eq_decide.2 (by omega)]
        unfold eW
        simp only [Array.toArray_toList,Int.toNat_natCast]
        exact w7
      ·rw [if_neg (by omega)] at w7
       refine ⟨by omega,by omega,⟨⟨by simp only; omega,by simp only; omega,by simp only; omega,by simp only; omega,z3,z4⟩,?_⟩,psz _ _ (by omega) (by omega) g3,⟨g1,by omega,by omega,by omega,z3,z4,?_,?_⟩,by omega⟩
       ·show (b4 - ((mid:Int)+1)).toNat < n
        omega
       ·rw [psz _ _ (by omega) (by omega) g3]
        exact w6
       ·rw [show decide ((b4 - a4) / 8≤b4 - (mid:Int))=decide (b4.toNat - mid ≥ (b4.toNat - a4.toNat) / 8) from decide_eq_decide.2 (by omega)]
        unfold eW
        simp only [Array.toArray_toList,Int.toNat_natCast]
        rw [show ((mid:Int)+1).toNat=mid+1 from by omega]
        exact w7
theorem f198.ok (a:List TSc) (h:mV a):f198.vc a:=by
 have h:a.length≤1048576:=h
 have hb:fP a.length≤21:=(Sort.bitsLen_le_iff a.length 21).2 (by omega)
 have e:dD (a.length:Int)=(fP a.length:Int):=rfl
 refine ⟨by omega,by omega,⟨by omega,by omega⟩,⟨Int.le_refl _,by simp only; omega,by simp only; omega,h,by simp only; omega,by simp only; omega⟩,?_,?_⟩
 ·unfold eW
  rw [Array.length_toList]
  simp only [Int.toNat_natCast]
  rw [jW aJ sX _ _ _ _ _ _ _ (Nat.le_refl _) (by simp) (by simp),List.size_toArray]
 ·unfold eW hT Sort.sort
  rw [e]
  simp only [Int.toNat_natCast,List.size_toArray]
  rfl
end Go.Abs
