/- Functions, and what the code asks of them: PObj. -/
import Derived.Test.YtcmjinkfgbadoaaBucketMoreP4
import Derived.Test.YtcmjinkfgbadoaaBucketMoreP5
import Derived.Test.YtcmjinkfgbadoaaBucketMoreP6
import Derived.Test.YtcmjinkfgbadoaaBucketMoreP7
import Derived.Test.YtcmjinkfgbadoaaBucketMoreP8
import Derived.Test.YtcmjinkfgbadoaaBucketMoreP9
import Derived.Test.YtcmjinkfgbadoaaBucketMoreP10
import Derived.Test.YtcmjinkfgbadoaaBucketMoreP11
import Derived.Test.YtcmjinkfgbadoaaBucketMoreP12
import Derived.Test.YtcmjinkfgbadoaaBucketMoreP15
import Derived.Test.YtcmjinkfgbadoaaBucketMoreP16
import Derived.Test.YtcmjinkfgbadoaaBucketMoreP17
import Derived.Test.YtcmjinkfgbadoaaBucketMoreP18
set_option linter.unusedVariables false
set_option linter.unusedSimpArgs false
set_option linter.unusedSectionVars false
namespace Go.Abs
open Go
structure Ob (A:Type) where
 nl:Nat→Bool
 n:Nat→Nat
 ks:Nat→Nat→ByteArray
 v:Nat→A
variable {A:Type} {e:A→List D}
def ovs (e:A→List D) (o:Ob A):Nat→Nat→List D:=fun j i=>bif Nat.beq j 0 then e (o.v i) else []
def ob0 (A:Type) [Inhabited A]:Ob A:=⟨fun _=>true,fun _=>0,fun _ _=>.empty,fun _=>default⟩
instance [Inhabited A]:Inhabited (Ob A):=⟨ob0 A⟩
def omk (o:Ob A) (j:Nat):Ob A:=⟨cE o.nl j false,cE o.n j 0,o.ks,o.v⟩
def bK (o:Ob A) (k:ByteArray) (x:A):Ob A:=⟨o.nl,cE o.n 0 (mpN (o.ks 0) k (o.n 0)),cE o.ks 0 (gB (o.ks 0) k (o.n 0)),fun i=>if i=mpF (o.ks 0) k (o.n 0) then x else o.v i⟩
def dQ (o:Ob A) (j:Nat) (k:ByteArray):Ob A:=⟨o.nl,cE o.n j (mpN (o.ks j) k (o.n j)),cE o.ks j (gB (o.ks j) k (o.n j)),o.v⟩
def f6 (o:Ob A) (j:Nat) (b:Bool) (k:ByteArray):Ob A :=
 ⟨o.nl,bif b then o.n else cE o.n j (sB (mpF (o.ks j) k (o.n j)) (o.n j)),bif b then o.ks else cE o.ks j (d9 (o.ks j) (mpF (o.ks j) k (o.n j))),
  bif b then o.v else bif Nat.beq j 0 then d9 o.v (mpF (o.ks 0) k (o.n 0)) else o.v⟩
def kZ (o:Ob A) (j:Nat) (b:Bool) (k:ByteArray):Bool:=!b&&decide (mpF (o.ks j) k (o.n j) < o.n j)
def aHJ (o:Ob A) (j:Nat) (b:Bool):Nat:=bif b then 0 else o.n j
def oat (o:Ob A) (k:ByteArray):A:=o.v (mpF (o.ks 0) k (o.n 0))
def OV (e:A→List D) (o:Ob A) (vs:Nat→Nat→List D):Prop:=∀ j i,i < o.n j→DEqs (vs j i) (ovs e o j i)
theorem cR {α:Type} (f:Nat→α) (j:Nat) (x:α):cE f j x j=x:=by simp [cE]
theorem d5 {α:Type} (f:Nat→α) {j k:Nat} (x:α) (h:k≠j):cE f j x k=f k:=by
 have:Nat.beq k j=false:=by
  cases hb:Nat.beq k j with
  | true=>exact absurd (Nat.eq_of_beq_eq_true hb) h
  | false=>rfl
 simp [cE,this]
theorem wB (e:A→List D) (o:Ob A) {j:Nat} (h:j≠0) (i:Nat):ovs e o j i=[]:=by
 cases j with
 | zero=>exact absurd rfl h
 | succ j=>rfl
namespace OV
variable {o:Ob A} {vs:Nat→Nat→List D}
theorem self:OV e o (ovs e o):=fun _ _ _=>DEqs.refl _
theorem zero [Inhabited A]:OV e (ob0 A) vs:=fun _ i h=>absurd h (Nat.not_lt_zero i)
theorem mk (p:OV e o vs) (j:Nat):OV e (omk o j) vs:=fun j' i h=>by
 by_cases hj:j'=j
 ·subst hj
  simp only [omk,cR] at h
  exact absurd h (Nat.not_lt_zero i)
 ·simp only [omk,d5 _ _ hj] at h
  exact p j' i h
theorem setA (p:OV e o vs) {k:ByteArray} {x:A} {cs:List D} (h:DEqs cs (e x)):OV e (bK o k x) (cE vs 0 (eT (o.ks 0) (vs 0) k cs (o.n 0))):=fun j i hi=>by
 by_cases hj:j=0
 ·subst hj
  simp only [bK,cR] at hi
  show DEqs (cE vs 0 _ 0 i) (e (if i=mpF (o.ks 0) k (o.n 0) then x else o.v i))
  rw [cR]
  unfold eT
  split
  ·exact h
  ·rename_i hne
   refine p 0 i ?_
   have:=gG (o.ks 0) k (o.n 0)
   unfold mpN at hi
   split at hi <;> omega
 ·simp only [bK,d5 _ _ hj] at hi
  rw [d5 _ _ hj,wB _ _ hj]
  have:=p j i hi
  rwa [wB _ _ hj] at this
theorem setU (p:OV e o vs) {j:Nat} (hj0:j≠0) {k:ByteArray}:OV e (dQ o j k) (cE vs j (eT (o.ks j) (vs j) k [] (o.n j))):=fun j' i hi=>by
 by_cases hj:j'=j
 ·subst hj
  simp only [dQ,cR] at hi
  rw [cR,wB _ _ hj0]
  unfold eT
  split
  ·exact DEqs.refl _
  ·rename_i hne
   have:=p j' i (by
    have:=gG (o.ks j') k (o.n j')
    unfold mpN at hi
    split at hi <;> omega)
   rwa [wB _ _ hj0] at this
 ·simp only [dQ,d5 _ _ hj] at hi
  rw [d5 _ _ hj]
  exact p j' i hi
theorem del (p:OV e o vs) {j:Nat} {b:Bool} {k:ByteArray}:OV e (f6 o j b k) (bif b then vs else cE vs j (d9 (vs j) (mpF (o.ks j) k (o.n j)))):=fun j' i hi=>by
 cases b with
 | true=>exact p j' i hi
 | false =>
  simp only [f6,cond_false] at hi ⊢
  by_cases hj:j'=j
  ·subst hj
   rw [cR] at hi ⊢
   have hq:=gG (o.ks j') k (o.n j')
   unfold sB at hi
   unfold d9
   cases j' with
   | zero =>
    show DEqs (if i < mpF (o.ks 0) k (o.n 0) then vs 0 i else vs 0 (i+1)) (e (if i < mpF (o.ks 0) k (o.n 0) then o.v i else o.v (i+1)))
    split
    ·exact p 0 i (by split at hi <;> omega)
    ·exact p 0 (i+1) (by split at hi <;> omega)
   | succ j =>
    show DEqs _ []
    split
    ·exact p (j+1) i (by split at hi <;> omega)
    ·exact p (j+1) (i+1) (by split at hi <;> omega)
  ·rw [d5 _ _ hj] at hi ⊢
   have:=p j' i hi
   by_cases hj0:j'=0
   ·subst hj0
    have:Nat.beq j 0=false:=by
     cases j with
     | zero=>exact absurd rfl hj
     | succ j=>rfl
    simp only [ovs,this,cond_false]
    exact p 0 i hi
   ·rw [wB _ _ hj0] at this ⊢
    exact this
end OV
def ObQ (c' c:Nat) (nl' nl:Nat→Bool) (n' n:Nat→Nat) (ks' ks:Nat→Nat→ByteArray) (vs' vs:Nat→Nat→List D) (k:Prop):Prop :=
 c'=c∧(∀ j,nl' j=nl j)∧(∀ j,n' j=n j)∧(∀ j i,i < n j→ks' j i=ks j i∧DEqs (vs' j i) (vs j i))∧k
theorem obQ {o o':Ob A} {c' c:Nat} {vs:Nat→Nat→List D} {k:Prop} (hc:c'=c) (p:OV e o vs) (h:o=o') (r:k):ObQ c' c o.nl o'.nl o.n o'.n o.ks o'.ks vs (ovs e o') k:=by
 subst h
 exact ⟨hc,fun _=>rfl,fun _=>rfl,fun j i hi=>⟨rfl,p j i hi⟩,r⟩
def MtQ (j' j:Nat) (b' b:Bool) (c' c:Nat) (s' s:Nat→Bool) (q' q:Option Nat) (k:Prop):Prop:=j'=j∧b'=b∧c'=c∧s'=s∧q'=q∧k
theorem mtQ {j:Nat} {b:Bool} {c:Nat} {s:Nat→Bool} {q:Option Nat} {k:Prop} (r:k):MtQ j j b b c c s s q q k:=⟨rfl,rfl,rfl,rfl,rfl,r⟩
namespace Cnd
theorem eqBB {a b:Bool}:Cnd (eqBB a b) (a=b):=⟨by cases a <;> cases b <;> simp [Abs.eqBB]⟩
theorem blt {x y:Nat}:Cnd (Nat.blt x y) (x < y):=⟨by rw [Nat.blt_eq]⟩
theorem ost {x m va:Nat} {nl a:Bool}:Cnd (Nat.blt x m&&nl&&Abs.eqBB a (Nat.ble va x)) (x < m∧nl=true∧(a=true↔va≤x)):=⟨by
 rw [Bool.and_eq_true,Bool.and_eq_true,Nat.blt_eq,eqBB.iff,and_assoc]
 refine and_congr_right fun _=>and_congr_right fun _=>?_
 rw [← Nat.ble_eq]
 cases a <;> cases Nat.ble va x <;> simp⟩
theorem oset {x m va:Nat} {b a:Bool}:Cnd (!b&&Nat.blt x m&&Abs.eqBB a (Nat.ble va x)) (b=false∧x < m∧(a=true↔va≤x)):=⟨by
 rw [Bool.and_eq_true,Bool.and_eq_true,Nat.blt_eq,eqBB.iff,and_assoc,Bool.not_eq_true']
 refine and_congr_right fun _=>and_congr_right fun _=>?_
 rw [← Nat.ble_eq]
 cases a <;> cases Nat.ble va x <;> simp⟩
theorem oix {i n:Int} {x y:Nat}:Cnd (decide ((0:Int)≤i)&&decide (i < n)&&Nat.ble x y) ((0:Int)≤i∧i < n∧x≤y):=⟨by simp [Nat.ble_eq,and_assoc]⟩
theorem osl {l h n:Int} {x y:Nat}:Cnd (decide ((0:Int)≤l)&&decide (l≤h)&&decide (h≤n)&&Nat.ble x y) ((0:Int)≤l∧l≤h∧h≤n∧x≤y):=⟨by simp [Nat.ble_eq,and_assoc]⟩
end Cnd
section
variable {A:Type} [Inhabited A]
def nI (o:Ob A) (k:ByteArray) (z:A):A:=bif kZ o 0 (o.nl 0) k then oat o k else z
def iC (sp:A→Nat) (o:Ob A) (k:ByteArray):Ob A :=
 bif kZ o 0 (o.nl 0) k then (let o1:=f6 o 0 (o.nl 0) k; let j:=sp (oat o k); f6 o1 j (o1.nl j) k) else o
def qL (o:Ob A) (j:Nat):Ob A:=bif o.nl j then omk o j else o
def aII (sp:A→Nat) (o:Ob A) (k:ByteArray) (x:A):Ob A :=
 dQ (qL (bK (qL (iC sp o k) 0) k x) (sp x)) (sp x) k
def gQ (o:Ob A) (p:ByteArray→Bool) (j:Nat):List ByteArray:=bif o.nl j then [] else ((List.range (o.n j)).map (o.ks j)).filter p
def fY (o:Ob A) (p:ByteArray→Bool) (j n:Nat):List ByteArray:=(List.range n).flatMap fun i=>gQ o p (j+i)
def tK (l:List (ByteArray×A)) (k:ByteArray):List (ByteArray×A):=l.filter fun x=>decide (x.1≠k)
def aI0 (l:List (ByteArray×A)) (k:ByteArray) (x:A):List (ByteArray×A):=l.takeWhile (fun y=>slt y.1 k)++(k,x)::l.dropWhile (fun y=>slt y.1 k)
def uS (l:List (ByteArray×A)) (k:ByteArray) (x:A):List (ByteArray×A):=aI0 (tK l k) k x
def aCR (l:List (ByteArray×A)) (k:ByteArray) (z:A):A×Bool:=match l.find? fun x=>decide (x.1=k) with
 | some x=>(x.2,true)
 | none=>(z,false)
end
def PIn {B:Type} (n:Nat) (ks:Nat→ByteArray) (v:Nat→B) (k:ByteArray) (x:B):Prop:=∃ i,i < n∧ks i=k∧v i=x
def aBJ (n:Nat) (ks:Nat→ByteArray):Prop:=∀ i j,i < n→j < n→ks i=ks j→i=j
theorem qO (ks:Nat→ByteArray) (k:ByteArray):∀ n,mpF ks k n < n→ks (mpF ks k n)=k
 | 0,h=>absurd h (Nat.not_lt_zero _)
 | n+1,h=>by
  simp only [mpF] at h ⊢
  have:=gG ks k n
  split at h
  ·rename_i h1
   rw [if_pos h1]
   exact qO ks k n h1
  ·rename_i h1
   rw [if_neg h1]
   split at h
   ·rename_i h2
    rw [if_pos h2]
    exact h2
   ·omega
theorem aAD (ks:Nat→ByteArray) (k:ByteArray):∀ n i,i < n→ks i=k→mpF ks k n≤i
 | 0,i,h,_=>absurd h (Nat.not_lt_zero _)
 | n+1,i,h,e=>by
  simp only [mpF]
  have:=gG ks k n
  by_cases hi:i < n
  ·have:=aAD ks k n i hi e
   rw [if_pos (by omega)]
   exact this
  ·have:i=n:=by omega
   subst this
   split
   ·omega
   ·first | exact Nat.le_refl _ | (rw [if_pos e]; exact Nat.le_refl _)
theorem xH {ks:Nat→ByteArray} {k:ByteArray} {n i:Nat} (hj:aBJ n ks) (h:i < n) (e:ks i=k):mpF ks k n=i:=by
 have h1:=aAD ks k n i h e
 exact hj _ _ (by omega) h ((qO ks k n (by omega)).trans e.symm)
section
variable {B:Type} {n:Nat} {ks:Nat→ByteArray} {v:Nat→B} {k:ByteArray}
theorem PIn.uniq (hj:aBJ n ks) {x y:B} (h:PIn n ks v k x) (h':PIn n ks v k y):x=y:=by
 obtain ⟨i,h1,h2,rfl⟩:=h
 obtain ⟨j,h3,h4,rfl⟩:=h'
 rw [hj i j h1 h3 (h2.trans h4.symm)]
theorem aK2 (hj:aBJ n ks):aBJ (sB (mpF ks k n) n) (d9 ks (mpF ks k n)):=fun i j hi hj' e=>by
 have hq:=gG ks k n
 unfold sB at hi hj'
 unfold d9 at e
 have a1:i < n:=by split at hi <;> omega
 have a2:j < n:=by split at hj' <;> omega
 have a3:¬i < mpF ks k n→i+1 < n:=fun h=>by split at hi <;> omega
 have a4:¬j < mpF ks k n→j+1 < n:=fun h=>by split at hj' <;> omega
 split at e <;> split at e
 ·exact hj _ _ a1 a2 e
 ·have:=hj _ _ a1 (a4 (by assumption)) e
  omega
 ·have:=hj _ _ (a3 (by assumption)) a2 e
  omega
 ·have:=hj _ _ (a3 (by assumption)) (a4 (by assumption)) e
  omega
theorem aFW (hj:aBJ n ks) {k':ByteArray} {x:B}:PIn (sB (mpF ks k n) n) (d9 ks (mpF ks k n)) (d9 v (mpF ks k n)) k' x↔PIn n ks v k' x∧k'≠k:=by
 have hq:=gG ks k n
 constructor
 ·rintro ⟨i,hi,e1,e2⟩
  unfold sB at hi
  unfold d9 at e1 e2
  split at e1
  ·rename_i h
   rw [if_pos h] at e2
   have hin:i < n:=by split at hi <;> omega
   refine ⟨⟨i,hin,e1,e2⟩,fun e=>?_⟩
   have:=aAD ks k n i hin (e1.trans e)
   omega
  ·rename_i h
   rw [if_neg h] at e2
   have hin:i+1 < n:=by split at hi <;> omega
   refine ⟨⟨i+1,hin,e1,e2⟩,fun e=>?_⟩
   have:=xH hj hin (e1.trans e)
   omega
 ·rintro ⟨⟨i,hi,e1,e2⟩,hne⟩
  have hiq:i≠mpF ks k n:=fun h=>hne (by
   rw [← e1,h]
   exact qO ks k n (by omega))
  unfold sB d9
  by_cases h:i < mpF ks k n
  ·exact ⟨i,by split <;> omega,by simp only [if_pos h]; exact e1,by simp only [if_pos h]; exact e2⟩
  ·refine ⟨i - 1,by split <;> omega,?_,?_⟩
   ·simp only [if_neg (show ¬i - 1 < mpF ks k n by omega),show i - 1+1=i by omega]; exact e1
   ·simp only [if_neg (show ¬i - 1 < mpF ks k n by omega),show i - 1+1=i by omega]; exact e2
theorem aGC (hj:aBJ n ks):aBJ (mpN ks k n) (gB ks k n):=fun i j hi hj' e=>by
 have hq:=gG ks k n
 unfold mpN at hi hj'
 unfold gB at e
 have a1:i≠mpF ks k n→i < n:=fun h=>by split at hi <;> omega
 have a2:j≠mpF ks k n→j < n:=fun h=>by split at hj' <;> omega
 split at e <;> split at e
 ·omega
 ·rename_i h1 h2
  have:=xH hj (a2 h2) e.symm
  omega
 ·rename_i h1 h2
  have:=xH hj (a1 h1) e
  omega
 ·rename_i h1 h2
  exact hj _ _ (a1 h1) (a2 h2) e
theorem aGH (hj:aBJ n ks) {k':ByteArray} {x y:B}:PIn (mpN ks k n) (gB ks k n) (fun i=>if i=mpF ks k n then x else v i) k' y↔(k'=k∧y=x)∨(k'≠k∧PIn n ks v k' y):=by
 have hq:=gG ks k n
 constructor
 ·rintro ⟨i,hi,e1,e2⟩
  unfold mpN at hi
  unfold gB at e1
  simp only at e2
  split at e1
  ·rename_i h
   rw [if_pos h] at e2
   exact .inl ⟨e1.symm,e2.symm⟩
  ·rename_i h
   rw [if_neg h] at e2
   have hin:i < n:=by split at hi <;> omega
   refine .inr ⟨fun e=>h ?_,i,hin,e1,e2⟩
   exact (xH hj hin (e1.trans e)).symm
 ·rintro (⟨rfl,rfl⟩ | ⟨hne,i,hi,e1,e2⟩)
  ·exact ⟨mpF ks k' n,by unfold mpN; split <;> omega,by simp [gB],by simp⟩
  ·have hiq:i≠mpF ks k n:=fun h=>hne (by
    rw [← e1,h]
    exact qO ks k n (by omega))
   exact ⟨i,by unfold mpN; split <;> omega,by simp only [gB,if_neg hiq]; exact e1,by simp only [if_neg hiq]; exact e2⟩
end
section
variable {A:Type}
def mV (o:Ob A) (j:Nat) (k:ByteArray):Prop:=PIn (o.n j) (o.ks j) (fun _=>()) k ()
def mY (o:Ob A) (k:ByteArray) (x:A):Prop:=PIn (o.n 0) (o.ks 0) o.v k x
structure Ook (o:Ob A):Prop where
 nil:∀ j,o.nl j=true→o.n j=0
 inj:∀ j,aBJ (o.n j) (o.ks j)
theorem wS {o:Ob A} {k:ByteArray}:mV o 0 k↔∃ x,mY o k x:=⟨fun ⟨i,h1,h2,_⟩=>⟨_,i,h1,h2,rfl⟩,fun ⟨_,i,h1,h2,_⟩=>⟨i,h1,h2,rfl⟩⟩
theorem kP {o:Ob A} (h:Ook o) {j:Nat} (hn:o.nl j=true) (k:ByteArray):¬mV o j k:=fun ⟨i,hi,_⟩=>by
 rw [h.nil j hn] at hi
 exact Nat.not_lt_zero _ hi
theorem nS {o:Ob A} (h:Ook o) {k:ByteArray}:kZ o 0 (o.nl 0) k=true↔∃ x,mY o k x:=by
 rw [← wS]
 unfold kZ
 rw [Bool.and_eq_true,decide_eq_true_eq,Bool.not_eq_true']
 constructor
 ·rintro ⟨_,h2⟩
  exact ⟨_,h2,qO _ _ _ h2,rfl⟩
 ·intro hk
  refine ⟨?_,?_⟩
  ·cases hn:o.nl 0 with
   | true=>exact absurd hk (kP h hn k)
   | false=>rfl
  ·obtain ⟨i,hi,e,_⟩:=hk
   have:=aAD (o.ks 0) k _ i hi e
   omega
theorem aFZ {o:Ob A} (h:Ook o) {k:ByteArray} {x:A} (hx:mY o k x):oat o k=x:=by
 obtain ⟨i,hi,e,rfl⟩:=hx
 unfold oat
 rw [xH (h.inj 0) hi e]
variable {o:Ob A} {k k':ByteArray} {x y:A} {j j':Nat}
theorem t6 (h:Ook o) (j:Nat) (k:ByteArray):Ook (f6 o j (o.nl j) k):=by
 cases hn:o.nl j with
 | true=>exact ⟨h.nil,h.inj⟩
 | false =>
  refine ⟨fun j' h'=>?_,fun j'=>?_⟩
  ·by_cases e:j'=j
   ·subst e
    rw [show (f6 o j' false k).nl j'=o.nl j' from rfl,hn] at h'
    cases h'
   ·simp only [f6,cond_false,d5 _ _ e]
    exact h.nil j' h'
  ·by_cases e:j'=j
   ·subst e
    simp only [f6,cond_false,cR]
    exact aK2 (h.inj j')
   ·simp only [f6,cond_false,d5 _ _ e]
    exact h.inj j'
theorem aCS (h:Ook o):mV (f6 o j (o.nl j) k) j' k'↔mV o j' k'∧¬(j'=j∧k'=k):=by
 cases hn:o.nl j with
 | true =>
  refine ⟨fun hk=>⟨hk,fun ⟨e1,_⟩=>?_⟩,fun hk=>hk.1⟩
  subst e1
  exact kP h hn _ hk
 | false =>
  by_cases e:j'=j
  ·subst e
   unfold mV
   simp only [f6,cond_false,cR]
   have:=aFW (k:=k) (v:=fun _=>()) (h.inj j') (k':=k') (x:=())
   rw [show (d9 (fun _=>()) (mpF (o.ks j') k (o.n j')))=(fun _=>()) from by funext i; rfl] at this
   rw [this]
   simp
  ·unfold mV
   simp only [f6,cond_false,d5 _ _ e,e,false_and,not_false_eq_true,and_true]
theorem aD4 (h:Ook o):mY (f6 o j (o.nl j) k) k' x↔mY o k' x∧¬(j=0∧k'=k):=by
 cases hn:o.nl j with
 | true =>
  refine ⟨fun hk=>⟨hk,fun ⟨e1,_⟩=>?_⟩,fun hk=>hk.1⟩
  subst e1
  exact kP h hn _ (wS.2 ⟨_,hk⟩)
 | false =>
  cases j with
  | zero =>
   unfold mY
   simp only [f6,cond_false,cR]
   rw [show (bif Nat.beq 0 0 then d9 o.v (mpF (o.ks 0) k (o.n 0)) else o.v)=d9 o.v (mpF (o.ks 0) k (o.n 0)) from rfl,aFW (h.inj 0)]
   simp
  | succ j =>
   unfold mY
   simp only [f6,cond_false,d5 (k:=0) (j:=j+1) _ _ (by omega)]
   rw [show (bif Nat.beq (j+1) 0 then d9 o.v (mpF (o.ks 0) k (o.n 0)) else o.v)=o.v from rfl]
   simp
theorem aF0 (h:Ook o):mV (qL o j) j' k'↔mV o j' k':=by
 unfold qL
 cases hn:o.nl j with
 | false=>exact Iff.rfl
 | true =>
  simp only [cond_true]
  by_cases e:j'=j
  ·subst e
   refine ⟨fun ⟨i,hi,_⟩=>?_,fun hk=>absurd hk (kP h hn _)⟩
   simp only [omk,cR] at hi
   exact absurd hi (Nat.not_lt_zero _)
  ·unfold mV
   simp only [omk,d5 _ _ e]
theorem aGF (h:Ook o):mY (qL o j) k' x↔mY o k' x:=by
 unfold qL
 cases hn:o.nl j with
 | false=>exact Iff.rfl
 | true =>
  simp only [cond_true]
  by_cases e:0=j
  ·subst e
   refine ⟨fun ⟨i,hi,_⟩=>?_,fun hk=>absurd (wS.2 ⟨_,hk⟩) (kP h hn _)⟩
   simp only [omk,cR] at hi
   exact absurd hi (Nat.not_lt_zero _)
  ·unfold mY
   simp only [omk,d5 _ _ e]
theorem aI2 (h:Ook o) (j:Nat):Ook (qL o j):=by
 unfold qL
 cases hn:o.nl j with
 | false=>exact h
 | true =>
  refine ⟨fun j' h'=>?_,fun j'=>?_⟩
  ·by_cases e:j'=j
   ·subst e
    simp only [omk,cond_true,cR]
   ·simp only [omk,cond_true,d5 _ _ e] at h' ⊢
    exact h.nil j' h'
  ·by_cases e:j'=j
   ·subst e
    simp only [omk,cond_true,cR]
    exact fun i _ hi=>absurd hi (Nat.not_lt_zero _)
   ·simp only [omk,cond_true,d5 _ _ e]
    exact h.inj j'
theorem aJE (o:Ob A) (j:Nat):(qL o j).nl j=false:=by
 unfold qL
 cases hn:o.nl j with
 | false=>exact hn
 | true=>simp [omk,cR]
theorem aKN (h:Ook o) (hn:o.nl 0=false):Ook (bK o k x):=by
 refine ⟨fun j' h'=>?_,fun j'=>?_⟩
 ·by_cases e:j'=0
  ·subst e
   rw [show (bK o k x).nl 0=o.nl 0 from rfl,hn] at h'
   cases h'
  ·simp only [bK,d5 _ _ e] at h' ⊢
   exact h.nil j' h'
 ·by_cases e:j'=0
  ·subst e
   simp only [bK,cR]
   exact aGC (h.inj 0)
  ·simp only [bK,d5 _ _ e]
   exact h.inj j'
theorem aJD (h:Ook o):mY (bK o k x) k' y↔(k'=k∧y=x)∨(k'≠k∧mY o k' y):=by
 unfold mY
 simp only [bK,cR]
 exact aGH (h.inj 0)
theorem aJA (hj:j'≠0):mV (bK o k x) j' k'↔mV o j' k':=by
 unfold mV
 simp only [bK,d5 _ _ hj]
theorem aLO (h:Ook o) (hn:o.nl j=false):Ook (dQ o j k):=by
 refine ⟨fun j' h'=>?_,fun j'=>?_⟩
 ·by_cases e:j'=j
  ·subst e
   rw [show (dQ o j' k).nl j'=o.nl j' from rfl,hn] at h'
   cases h'
  ·simp only [dQ,d5 _ _ e] at h' ⊢
   exact h.nil j' h'
 ·by_cases e:j'=j
  ·subst e
   simp only [dQ,cR]
   exact aGC (h.inj j')
  ·simp only [dQ,d5 _ _ e]
   exact h.inj j'
theorem aJY (hj:j≠0):mY (dQ o j k) k' y↔mY o k' y:=by
 unfold mY
 simp only [dQ,d5 _ _ (Ne.symm hj)]
theorem aIM (h:Ook o):mV (dQ o j k) j' k'↔(j'=j∧k'=k)∨mV o j' k':=by
 by_cases e:j'=j
 ·subst e
  unfold mV
  simp only [dQ,cR]
  have:=aGH (k:=k) (v:=fun _=>()) (h.inj j') (k':=k') (x:=()) (y:=())
  rw [show (fun i=>if i=mpF (o.ks j') k (o.n j') then () else ())=(fun _=>()) from by funext i; split <;> rfl] at this
  rw [this]
  by_cases hk:k'=k <;> simp [hk]
 ·unfold mV
  simp only [dQ,d5 _ _ e,e,false_and,false_or]
end
section
variable {A:Type} [Inhabited A]
def Rising (l:List (ByteArray×A)):Prop:=l.Pairwise fun x y=>slt x.1 y.1=true
structure Rep (sp:A→Nat) (o:Ob A) (l:List (ByteArray×A)):Prop where
 ok:Ook o
 val:∀ k x,mY o k x↔(k,x)∈l
 set:∀ j k,j≠0→(mV o j k↔∃ x,(k,x)∈l∧sp x=j)
 ris:Rising l
theorem oX {x y z:ByteArray} (h:slt x y=true) (k:slt y z=true):slt x z=true:=jA h k
theorem oN (x:ByteArray):slt x x=false:=jV _
theorem aGE {x y:ByteArray} (h:¬slt x y=true) (k:x≠y):slt y x=true:=by
 rcases qF x.toList y.toList with c | c | c
 ·exact absurd c h
 ·exact absurd (toList_inj.1 c) k
 ·exact c
theorem Rising.uniq {l:List (ByteArray×A)} (h:Rising l) {k:ByteArray} {x y:A} (hx:(k,x)∈l) (hy:(k,y)∈l):x=y:=by
 induction l with
 | nil=>cases hx
 | cons a l ih =>
  obtain ⟨h1,h2⟩:=List.pairwise_cons.1 h
  rcases List.mem_cons.1 hx with e | hx'
  ·rcases List.mem_cons.1 hy with e' | hy'
   ·rw [← e] at e'
    exact (Prod.mk.inj e').2.symm
   ·have:=h1 _ hy'
    rw [← e,oN] at this
    cases this
  ·rcases List.mem_cons.1 hy with e' | hy'
   ·have:=h1 _ hx'
    rw [← e',oN] at this
    cases this
   ·exact ih h2 hx' hy'
variable {sp:A→Nat} {o:Ob A} {l:List (ByteArray×A)} {k k':ByteArray} {x y:A}
theorem Rep.zero:Rep sp (ob0 A) []:=⟨⟨fun _ _=>rfl,fun _ i _ hi=>absurd hi (Nat.not_lt_zero _)⟩,fun k x=>⟨fun ⟨i,hi,_⟩=>absurd hi (Nat.not_lt_zero _),fun h=>by cases h⟩,
 fun j k _=>⟨fun ⟨i,hi,_⟩=>absurd hi (Nat.not_lt_zero _),fun ⟨x,h,_⟩=>by cases h⟩,List.Pairwise.nil⟩
theorem aCJ (h:Rising l) {z:A} (hx:(k,x)∈l):aCR l k z=(x,true):=by
 unfold aCR
 cases hf:l.find? fun x=>decide (x.1=k) with
 | none =>
  have:=List.find?_eq_none.1 hf _ hx
  simp at this
 | some a =>
  have h1:=List.find?_some hf
  have h2:=List.mem_of_find?_eq_some hf
  have h1:a.1=k:=by simpa using h1
  have:(k,a.2)∈l:=by rw [← h1]; exact h2
  show (a.2,true)=_
  rw [h.uniq this hx]
theorem aH5 {z:A} (h:∀ x,(k,x) ∉ l):aCR l k z=(z,false):=by
 unfold aCR
 cases hf:l.find? fun x=>decide (x.1=k) with
 | none=>rfl
 | some a =>
  have h1:=List.find?_some hf
  have h2:=List.mem_of_find?_eq_some hf
  have h1:a.1=k:=by simpa using h1
  exact absurd (by rw [← h1]; exact h2) (h a.2)
theorem Rep.get (r:Rep sp o l) (k:ByteArray) (z:A):(nI o k z,kZ o 0 (o.nl 0) k)=aCR l k z:=by
 by_cases h:∃ x,mY o k x
 ·have hh:=(nS r.ok).2 h
  obtain ⟨x,hx⟩:=h
  unfold nI
  rw [hh,aFZ r.ok hx,aCJ r.ris ((r.val k x).1 hx)]
  rfl
 ·have hh:kZ o 0 (o.nl 0) k=false:=by
   rw [← Bool.not_eq_true,nS r.ok]
   exact h
  unfold nI
  rw [hh,aH5 fun x hx=>h ⟨x,(r.val k x).2 hx⟩]
  rfl
theorem hP:(k',x)∈tK l k↔(k',x)∈l∧k'≠k:=by simp [tK]
theorem Rising.del (h:Rising l) (k:ByteArray):Rising (tK l k):=List.Pairwise.filter _ h
theorem aIS (h:Ook o) (sp:A→Nat) (k:ByteArray):Ook (iC sp o k):=by
 unfold iC
 cases kZ o 0 (o.nl 0) k with
 | false=>exact h
 | true=>exact t6 (t6 h 0 k) _ k
theorem Rep.take (r:Rep sp o l) (hsp:∀ x,sp x≠0) (k:ByteArray):Rep sp (iC sp o k) (tK l k):=by
 refine ⟨aIS r.ok sp k,?_,?_,r.ris.del k⟩
 ·intro k' x
  rw [hP,← r.val]
  unfold iC
  cases hh:kZ o 0 (o.nl 0) k with
  | false =>
   refine ⟨fun h=>⟨h,fun e=>?_⟩,fun h=>h.1⟩
   have:=(nS r.ok).2 ⟨x,h⟩
   rw [e,hh] at this
   cases this
  | true =>
   simp only [cond_true]
   rw [aD4 (t6 r.ok 0 k),aD4 r.ok]
   constructor
   ·rintro ⟨⟨h1,h2⟩,_⟩
    exact ⟨h1,fun e=>h2 ⟨rfl,e⟩⟩
   ·rintro ⟨h1,h2⟩
    exact ⟨⟨h1,fun e=>h2 e.2⟩,fun e=>h2 e.2⟩
 ·intro j k' hj
  simp only [hP]
  have rs:=r.set j k' hj
  unfold iC
  cases hh:kZ o 0 (o.nl 0) k with
  | false =>
   simp only [cond_false]
   rw [rs]
   refine ⟨fun ⟨x,h1,h2⟩=>⟨x,⟨h1,fun e=>?_⟩,h2⟩,fun ⟨x,h1,h2⟩=>⟨x,h1.1,h2⟩⟩
   have:=(nS r.ok).2 ⟨x,(r.val k' x).2 h1⟩
   rw [e,hh] at this
   cases this
  | true =>
   simp only [cond_true]
   obtain ⟨x0,hx0⟩:=(nS r.ok).1 hh
   rw [aCS (t6 r.ok 0 k),aCS r.ok,rs,aFZ r.ok hx0]
   constructor
   ·rintro ⟨⟨⟨x,h1,h2⟩,_⟩,h3⟩
    refine ⟨x,⟨h1,fun e=>h3 ⟨?_,e⟩⟩,h2⟩
    subst e
    rw [r.ris.uniq ((r.val _ _).1 hx0) h1,h2]
   ·rintro ⟨x,⟨h1,h2⟩,h3⟩
    exact ⟨⟨⟨x,h1,h3⟩,fun e=>hj e.1⟩,fun e=>h2 e.2⟩
theorem aA1 {p:ByteArray×A→Bool} {a:ByteArray×A}:a∈l.takeWhile p∨a∈l.dropWhile p↔a∈l:=by
 conv=>rhs; rw [← List.takeWhile_append_dropWhile (p:=p) (l:=l)]
 rw [List.mem_append]
theorem aI6:(k',y)∈aI0 l k x↔(k'=k∧y=x)∨(k',y)∈l:=by
 unfold aI0
 rw [List.mem_append,List.mem_cons,← aA1 (p:=fun y=>slt y.1 k) (l:=l),Prod.mk.injEq]
 constructor
 ·rintro (h | h | h)
  ·exact .inr (.inl h)
  ·exact .inl h
  ·exact .inr (.inr h)
 ·rintro (h | h | h)
  ·exact .inr (.inl h)
  ·exact .inl h
  ·exact .inr (.inr h)
theorem rC:(k',y)∈uS l k x↔(k'=k∧y=x)∨(k'≠k∧(k',y)∈l):=by
 unfold uS
 rw [aI6,hP,and_comm (a:=(k',y)∈l)]
theorem qZ:∀ {l:List (ByteArray×A)} {a},a∈l.takeWhile (fun y=>slt y.1 k)→slt a.1 k=true
 | [],_,h=>by cases h
 | b::l,a,h=>by
  rw [List.takeWhile_cons] at h
  split at h
  ·rename_i hb
   rcases List.mem_cons.1 h with rfl | h
   ·exact hb
   ·exact qZ h
  ·cases h
theorem lF:∀ {l:List (ByteArray×A)},Rising l→∀ {a},a∈l.dropWhile (fun y=>slt y.1 k)→¬slt a.1 k=true
 | [],_,_,h=>by cases h
 | b::l,hr,a,h=>by
  obtain ⟨h1,h2⟩:=List.pairwise_cons.1 hr
  rw [List.dropWhile_cons] at h
  split at h
  ·exact lF h2 h
  ·rename_i hb
   rcases List.mem_cons.1 h with rfl | h
   ·exact hb
   ·exact fun hc=>hb (oX (h1 a h) hc)
theorem Rising.put (h:Rising l) (k:ByteArray) (x:A):Rising (uS l k x):=by
 unfold uS aI0
 have hd:=h.del k
 refine List.pairwise_append.2 ⟨hd.sublist (List.takeWhile_sublist _),List.pairwise_cons.2 ⟨fun b hb=>?_,hd.sublist (List.dropWhile_sublist _)⟩,fun a ha b hb=>?_⟩
 ·have hb':b∈tK l k:=(List.dropWhile_sublist _).subset hb
  exact aGE (lF hd hb) (hP (k':=b.1) (x:=b.2) |>.1 hb').2
 ·have h1:=qZ ha
  rcases List.mem_cons.1 hb with rfl | hb
  ·exact h1
  ·have hb':b∈tK l k:=(List.dropWhile_sublist _).subset hb
   exact oX h1 (aGE (lF hd hb) (hP (k':=b.1) (x:=b.2) |>.1 hb').2)
theorem Rep.put (r:Rep sp o l) (hsp:∀ x,sp x≠0) (k:ByteArray) (x:A):Rep sp (aII sp o k x) (uS l k x):=by
 have r1:=r.take hsp k
 have o2:=aI2 r1.ok 0
 have o3:=aKN (k:=k) (x:=x) o2 (aJE _ 0)
 have o4:=aI2 o3 (sp x)
 refine ⟨aLO o4 (aJE _ _),fun k' y=>?_,fun j k' hj=>?_,r.ris.put k x⟩
 ·unfold aII
  rw [aJY (hsp x),aGF o3,aJD o2,aGF r1.ok,r1.val,rC,hP]
  constructor
  ·rintro (h | ⟨h1,h2,_⟩)
   ·exact .inl h
   ·exact .inr ⟨h1,h2⟩
  ·rintro (h | ⟨h1,h2⟩)
   ·exact .inl h
   ·exact .inr ⟨h1,h2,h1⟩
 ·unfold aII
  rw [aIM o4,aF0 o3,aJA hj,aF0 r1.ok,r1.set j k' hj]
  simp only [rC,hP]
  constructor
  ·rintro (⟨rfl,rfl⟩ | ⟨y,⟨h1,h2⟩,h3⟩)
   ·exact ⟨x,.inl ⟨rfl,rfl⟩,rfl⟩
   ·exact ⟨y,.inr ⟨h2,h1⟩,h3⟩
  ·rintro ⟨y,⟨rfl,rfl⟩ | ⟨h1,h2⟩,h3⟩
   ·exact .inl ⟨h3.symm,rfl⟩
   ·exact .inr ⟨y,⟨h2,h1⟩,h3⟩
end
section
variable {A:Type}
theorem lL {o:Ob A} (h:Ook o) {p:ByteArray→Bool} {j:Nat} {k:ByteArray}:k∈gQ o p j↔mV o j k∧p k=true:=by
 unfold gQ
 cases hn:o.nl j with
 | true=>exact ⟨fun h=>(by cases h),fun h'=>absurd h'.1 (kP h hn k)⟩
 | false =>
  simp only [cond_false,List.mem_filter,List.mem_map,List.mem_range]
  exact ⟨fun ⟨⟨i,hi,e⟩,hp⟩=>⟨⟨i,hi,e,rfl⟩,hp⟩,fun ⟨⟨i,hi,e,_⟩,hp⟩=>⟨⟨i,hi,e⟩,hp⟩⟩
theorem zW {α:Type} {ks:Nat→α} {n:Nat} (h:∀ i j,i < n→j < n→ks i=ks j→i=j):((List.range n).map ks).Nodup:=by
 unfold List.Nodup
 rw [List.pairwise_map]
 refine List.Pairwise.imp_of_mem (R:=fun x y=>x < y) (fun {a b} ha hb hab e=>?_) List.pairwise_lt_range
 have:=h a b (List.mem_range.1 ha) (List.mem_range.1 hb) e
 omega
theorem aAP {o:Ob A} (h:Ook o) (p:ByteArray→Bool) (j:Nat):(gQ o p j).Nodup:=by
 unfold gQ
 cases o.nl j with
 | true=>exact List.Pairwise.nil
 | false=>exact List.Pairwise.filter _ (zW (h.inj j))
variable [Inhabited A] {sp:A→Nat} {o:Ob A} {l:List (ByteArray×A)}
theorem Rising.nodup (h:Rising l):l.Nodup:=List.Pairwise.imp (fun {x y} hxy e=>by
 rw [e,oN] at hxy
 cases hxy) h
theorem Rising.names (h:Rising l):(l.map (·.1)).Pairwise fun x y=>slt x y=true:=by
 rw [List.pairwise_map]
 exact h
theorem Rising.namesN (h:Rising l):(l.map (·.1)).Nodup:=List.Pairwise.imp (fun {x y} hxy e=>by
 rw [e,oN] at hxy
 cases hxy) h.names
theorem Rep.mem_olist (r:Rep sp o l) {p:ByteArray→Bool} {j n:Nat} (hj:j≠0) {k:ByteArray}:k∈fY o p j n↔∃ x,(k,x)∈l∧p k=true∧j≤sp x∧sp x < j+n:=by
 unfold fY
 rw [List.mem_flatMap]
 constructor
 ·rintro ⟨i,hi,hk⟩
  obtain ⟨h1,h2⟩:=(lL r.ok).1 hk
  obtain ⟨x,h3,h4⟩:=(r.set (j+i) k (by omega)).1 h1
  have:=List.mem_range.1 hi
  exact ⟨x,h3,h2,by omega,by omega⟩
 ·rintro ⟨x,h1,h2,h3,h4⟩
  exact ⟨sp x - j,List.mem_range.2 (by omega),(lL r.ok).2 ⟨(r.set _ k (by omega)).2 ⟨x,h1,by omega⟩,h2⟩⟩
theorem Rep.nodup_olist (r:Rep sp o l) (p:ByteArray→Bool) {j n:Nat} (hj:j≠0):(fY o p j n).Nodup:=by
 unfold fY List.Nodup
 rw [List.pairwise_flatMap]
 refine ⟨fun i _=>aAP r.ok p _,List.Pairwise.imp_of_mem (R:=fun x y=>x < y) (fun {a b} _ _ hab x hx y hy e=>?_) List.pairwise_lt_range⟩
 subst e
 obtain ⟨u,h1,h2⟩:=(r.set (j+a) x (by omega)).1 ((lL r.ok).1 hx).1
 obtain ⟨v,h3,h4⟩:=(r.set (j+b) x (by omega)).1 ((lL r.ok).1 hy).1
 have:=r.ris.uniq h1 h3
 subst this
 omega
theorem Rep.perm (r:Rep sp o l) (p:ByteArray→Bool) {j n:Nat} (hj:j≠0):(fY o p j n).Perm ((l.filter fun x=>p x.1&&decide (j≤sp x.2∧sp x.2 < j+n)).map (·.1)):=by
 refine (List.perm_ext_iff_of_nodup (r.nodup_olist p hj) (Rising.namesN (List.Pairwise.filter _ r.ris))).2 fun k=>?_
 rw [r.mem_olist hj,List.mem_map]
 constructor
 ·rintro ⟨x,h1,h2,h3⟩
  refine ⟨(k,x),List.mem_filter.2 ⟨h1,?_⟩,rfl⟩
  simp only [h2,Bool.true_and]
  exact decide_eq_true h3
 ·rintro ⟨⟨k',x⟩,h,rfl⟩
  obtain ⟨h1,h2⟩:=List.mem_filter.1 h
  rw [Bool.and_eq_true,decide_eq_true_eq] at h2
  exact ⟨x,h1,h2.1,h2.2⟩
theorem Rep.num (r:Rep sp o l):o.n 0=l.length:=by
 have hp:((List.range (o.n 0)).map fun i=>(o.ks 0 i,o.v i)).Perm l:=by
  refine (List.perm_ext_iff_of_nodup (zW fun i j hi hj e=>r.ok.inj 0 i j hi hj (Prod.mk.inj e).1) r.ris.nodup).2 fun ⟨k,x⟩=>?_
  rw [← r.val,List.mem_map]
  constructor
  ·rintro ⟨i,hi,e⟩
   obtain ⟨e1,e2⟩:=Prod.mk.inj e
   exact ⟨i,List.mem_range.1 hi,e1,e2⟩
  ·rintro ⟨i,hi,e1,e2⟩
   exact ⟨i,List.mem_range.2 hi,by rw [e1,e2]⟩
 simpa using hp.length_eq
theorem Rep.len (r:Rep sp o l):aHJ o 0 (o.nl 0)=l.length:=by
 rw [← r.num]
 unfold aHJ
 cases hn:o.nl 0 with
 | true=>exact (r.ok.nil 0 hn).symm
 | false=>rfl
theorem Rep.less (r:Rep sp o l) (p:ByteArray→Bool) {j n:Nat} (hj:j≠0):(fY o p j n).length≤l.length:=by
 rw [(r.perm p hj).length_eq,List.length_map]
 exact List.length_filter_le _ _
theorem aKT (l:List (ByteArray×A)) (k:ByteArray):(tK l k).length≤l.length:=List.length_filter_le _ _
theorem aLP (l:List (ByteArray×A)) (k:ByteArray) (x:A):(uS l k x).length≤l.length+1:=by
 have h:=aKT l k
 have e:(uS l k x).length=(tK l k).length+1:=by
  unfold uS aI0
  rw [List.length_append,List.length_cons,Nat.add_left_comm,Nat.add_comm]
  have:=congrArg List.length (List.takeWhile_append_dropWhile (p:=fun y=>slt y.1 k) (l:=tK l k))
  rw [List.length_append] at this
  omega
 omega
end
theorem aKA:Weak slt:=by
 refine ⟨fun {x y} h=>?_,fun {x y z} h1 h2=>yS.ntrans z y x h2 h1⟩
 cases hh:slt y x with
 | false=>rfl
 | true =>
  have:=oX h hh
  rw [oN] at this
  cases this
theorem qH (l:List ByteArray):eX slt l=nV slt l:=aID slt yS aLV l
theorem aHN (l:List ByteArray):(eX slt l).length=l.length:=by rw [qH,qK]
theorem aK1 {l m:List ByteArray} (h:l.Perm m):FE slt l m:=fun z=>by
 have one:∀ m:List ByteArray,m.filter (kin slt z)=List.replicate (m.filter (kin slt z)).length z:=fun m=>by
  refine List.eq_replicate_iff.2 ⟨rfl,fun x hx=>?_⟩
  obtain ⟨k1,k2⟩:=t9.1 (List.mem_filter.1 hx).2
  exact (aLV z x k1 k2).symm
 rw [one l,one m,(h.filter _).length_eq]
theorem uZ {l m:List ByteArray} (h:l.Perm m):eX slt l=eX slt m:=by
 rw [qH,qH]
 exact rB aKA (vH aKA l) ((xE aKA l).trans (aK1 h))
theorem aIA {l:List ByteArray} (h:l.Pairwise fun x y=>slt x y=true):eX slt l=l:=by
 rw [qH]
 refine aJS aKA (List.Pairwise.imp (fun {x y} hxy=>?_) h)
 exact aKA.asym hxy
theorem Rep.sorted {A:Type} [Inhabited A] {sp:A→Nat} {o:Ob A} {l:List (ByteArray×A)} (r:Rep sp o l) (p:ByteArray→Bool) {j n:Nat} (hj:j≠0) :
  eX slt (fY o p j n)=(l.filter fun x=>p x.1&&decide (j≤sp x.2∧sp x.2 < j+n)).map (·.1):=by
 rw [uZ (r.perm p hj),aIA (Rising.names (List.Pairwise.filter _ r.ris))]
def jH {A:Type} (o:Ob A) (p:ByteArray→Bool) (j:Nat) (s:Nat→Bool):List ByteArray:=bif o.nl j then [] else (((List.range (o.n j)).filter s).map (o.ks j)).filter p
def aGA {A:Type} (o:Ob A) (j:Nat) (s:Nat→Bool):Nat:=((List.range (o.n j)).filter fun x=>!s x).length
section
variable {A:Type} {o:Ob A} {p:ByteArray→Bool} {j:Nat} {s:Nat→Bool}
theorem aFK:jH o p j (fun _=>false)=[]:=by
 unfold jH
 cases o.nl j <;> simp
theorem aGS (h:o.nl j=true∨∀ x,x < o.n j→s x=true):jH o p j s=gQ o p j:=by
 unfold jH gQ
 cases hn:o.nl j with
 | true=>rfl
 | false =>
  rcases h with h | h
  ·rw [hn] at h
   cases h
  ·simp only [cond_false]
   rw [List.filter_eq_self.2 fun x hx=>h x (List.mem_range.1 hx)]
theorem pW {l:List Nat} (hn:l.Nodup) {x:Nat} (hx:x∈l) (hs:s x=false):(l.filter fun y=>bif Nat.beq y x then true else s y).Perm (x::l.filter s):=by
 induction l with
 | nil=>cases hx
 | cons a l ih =>
  obtain ⟨h1,h2⟩:=List.nodup_cons.1 hn
  by_cases e:a=x
  ·subst e
   have:l.filter (fun y=>bif Nat.beq y a then true else s y)=l.filter s:=List.filter_congr fun y hy=>by
    have:Nat.beq y a=false:=by
     cases hb:Nat.beq y a with
     | true=>exact absurd (Nat.eq_of_beq_eq_true hb ▸ hy) h1
     | false=>rfl
    rw [this]
    rfl
   rw [List.filter_cons_of_pos (by simp),List.filter_cons_of_neg (by simp [hs]),this]
  ·have hx':x∈l:=(List.mem_cons.1 hx).resolve_left fun h=>e h.symm
   have hb:Nat.beq a x=false:=by
    cases hb:Nat.beq a x with
    | true=>exact absurd (Nat.eq_of_beq_eq_true hb) e
    | false=>rfl
   cases ha:s a with
   | true =>
    rw [List.filter_cons_of_pos (by simp [hb,ha]),List.filter_cons_of_pos ha]
    exact ((ih h2 hx').cons a).trans (List.Perm.swap x a _)
   | false =>
    rw [List.filter_cons_of_neg (by simp [hb,ha]),List.filter_cons_of_neg (by simp [ha])]
    exact ih h2 hx'
theorem aG7 (hn:o.nl j=false) {x:Nat} (hx:x < o.n j) (hs:s x=false) (hp:p (o.ks j x)=true):(jH o p j fun y=>bif Nat.beq y x then true else s y).Perm (jH o p j s++[o.ks j x]):=by
 unfold jH
 rw [hn]
 have:=((pW (s:=s) List.nodup_range (List.mem_range.2 hx) hs).map (o.ks j)).filter p
 rw [List.map_cons,List.filter_cons_of_pos hp] at this
 exact this.trans (List.perm_append_comm (l₁:=[o.ks j x]))
theorem aEL (hn:o.nl j=false) {x:Nat} (hx:x < o.n j) (hs:s x=false) (hp:p (o.ks j x)=false):(jH o p j fun y=>bif Nat.beq y x then true else s y).Perm (jH o p j s):=by
 unfold jH
 rw [hn]
 have:=((pW (s:=s) List.nodup_range (List.mem_range.2 hx) hs).map (o.ks j)).filter p
 rw [List.map_cons,List.filter_cons_of_neg (by simp [hp])] at this
 exact this
theorem aH4 {x:Nat} (hx:x < o.n j) (hs:s x=false):aGA o j (fun y=>bif Nat.beq y x then true else s y) < aGA o j s:=by
 unfold aGA
 have h1:=(pW (s:=s) List.nodup_range (List.mem_range.2 hx) hs).length_eq
 have h2:∀ (q:Nat→Bool) (l:List Nat),(l.filter q).length+(l.filter fun x=>!q x).length=l.length:=fun q l=>by
  induction l with
  | nil=>rfl
  | cons a l ih=>cases ha:q a <;> simp [ha] <;> omega
 have h3:=h2 s (List.range (o.n j))
 have h4:=h2 (fun y=>bif Nat.beq y x then true else s y) (List.range (o.n j))
 rw [List.length_cons] at h1
 show (List.filter (fun y=>!bif Nat.beq y x then true else s y) (List.range (o.n j))).length < _
 omega
theorem aJM (p:ByteArray→Bool) (j:Nat) (s:Nat→Bool):(jH o p j s).length≤(gQ o (fun _=>true) j).length:=by
 unfold jH gQ
 cases o.nl j with
 | true=>exact Nat.le_refl _
 | false =>
  refine Nat.le_trans (List.length_filter_le _ _) ?_
  have:∀ l:List ByteArray,(l.filter fun _=>true).length=l.length:=fun l=>by simp
  simp only [cond_false,List.length_map,this]
  exact List.length_filter_le _ _
theorem lP (o:Ob A) (p:ByteArray→Bool) (j n:Nat):fY o p j (n+1)=fY o p j n++gQ o p (j+n):=by
 unfold fY
 rw [List.range_succ,List.flatMap_append]
 simp
theorem aHW (o:Ob A) (p:ByteArray→Bool) (j:Nat):(gQ o p j).length≤(gQ o (fun _=>true) j).length:=by
 unfold gQ
 cases o.nl j with
 | true=>exact Nat.le_refl _
 | false =>
  have:∀ l:List ByteArray,l.filter (fun _=>true)=l:=fun l=>by simp
  simp only [cond_false,this]
  exact List.length_filter_le _ _
theorem wN (o:Ob A) (p:ByteArray→Bool) (j:Nat):∀ n,(fY o p j n).length≤(fY o (fun _=>true) j n).length
 | 0=>Nat.le_refl _
 | n+1=>by
  rw [lP,lP,List.length_append,List.length_append]
  exact Nat.add_le_add (wN o p j n) (aHW o p _)
end
theorem aA9 {A:Type} {o:Ob A} {j:Nat} (h:o.nl j=true):qL o j=omk o j:=by unfold qL; rw [h]; rfl
theorem aBG {A:Type} {o:Ob A} {j:Nat} (h:¬o.nl j=true):qL o j=o:=by unfold qL; rw [Bool.eq_false_iff.2 h]; rfl
theorem aEN {A:Type} (o:Ob A) (j:Nat):(omk o j).nl j=false:=cR _ _ _
end Go.Abs
