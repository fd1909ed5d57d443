/- Functions, and what the code asks of them: PObj. -/
import Derived.Test.YtcmjinkfgbadoabLabelsBothP5
import Derived.Test.YtcmjinkfgbadoabLabelsBothP6
import Derived.Test.YtcmjinkfgbadoabLabelsBothP7
import Derived.Test.YtcmjinkfgbadoabLabelsBothP8
import Derived.Test.YtcmjinkfgbadoabLabelsBothP13
set_option linter.unusedVariables false
set_option linter.unusedSimpArgs false
set_option linter.unusedSectionVars false
namespace Go.Abs
open Go
structure Ob (A:Type) where
 nl:Nat→Bool
 n:Nat→Nat
 ks:Nat→Nat→ByteArray
 v:Nat→A
variable {A:Type} {e:A→List D}
def ovs (e:A→List D) (o:Ob A):Nat→Nat→List D:=fun j i=>bif Nat.beq j 0 then e (o.v i) else []
def ob0 (A:Type) [Inhabited A]:Ob A:=⟨fun _=>true,fun _=>0,fun _ _=>.empty,fun _=>default⟩
instance [Inhabited A]:Inhabited (Ob A):=⟨ob0 A⟩
def omk (o:Ob A) (j:Nat):Ob A:=⟨fset o.nl j false,fset o.n j 0,o.ks,o.v⟩
def eZ (o:Ob A) (k:ByteArray) (x:A):Ob A:=⟨o.nl,fset o.n 0 (mpN (o.ks 0) k (o.n 0)),fset o.ks 0 (gD (o.ks 0) k (o.n 0)),fun i=>if i=mpF (o.ks 0) k (o.n 0) then x else o.v i⟩
def dU (o:Ob A) (j:Nat) (k:ByteArray):Ob A:=⟨o.nl,fset o.n j (mpN (o.ks j) k (o.n j)),fset o.ks j (gD (o.ks j) k (o.n j)),o.v⟩
def fQ (o:Ob A) (j:Nat) (b:Bool) (k:ByteArray):Ob A :=
 ⟨o.nl,bif b then o.n else fset o.n j (sD (mpF (o.ks j) k (o.n j)) (o.n j)),bif b then o.ks else fset o.ks j (eJ (o.ks j) (mpF (o.ks j) k (o.n j))),
  bif b then o.v else bif Nat.beq j 0 then eJ o.v (mpF (o.ks 0) k (o.n 0)) else o.v⟩
def gK (o:Ob A) (j:Nat) (b:Bool) (k:ByteArray):Bool:=!b&&decide (mpF (o.ks j) k (o.n j) < o.n j)
def aF9 (o:Ob A) (j:Nat) (b:Bool):Nat:=bif b then 0 else o.n j
def oat (o:Ob A) (k:ByteArray):A:=o.v (mpF (o.ks 0) k (o.n 0))
def OV (e:A→List D) (o:Ob A) (vs:Nat→Nat→List D):Prop:=∀ j i,i < o.n j→DEqs (vs j i) (ovs e o j i)
theorem cN {α:Type} (f:Nat→α) (j:Nat) (x:α):fset f j x j=x:=by simp [fset]
theorem dH {α:Type} (f:Nat→α) {j k:Nat} (x:α) (h:k≠j):fset f j x k=f k:=by
 have:Nat.beq k j=false:=by
  cases hb:Nat.beq k j with
  | true=>exact absurd (Nat.eq_of_beq_eq_true hb) h
  | false=>rfl
 simp [fset,this]
theorem wO (e:A→List D) (o:Ob A) {j:Nat} (h:j≠0) (i:Nat):ovs e o j i=[]:=by
 cases j with
 | zero=>exact absurd rfl h
 | succ j=>rfl
namespace OV
variable {o:Ob A} {vs:Nat→Nat→List D}
theorem self:OV e o (ovs e o):=fun _ _ _=>DEqs.refl _
theorem zero [Inhabited A]:OV e (ob0 A) vs:=fun _ i h=>absurd h (Nat.not_lt_zero i)
theorem mk (p:OV e o vs) (j:Nat):OV e (omk o j) vs:=fun j' i h=>by
 by_cases hj:j'=j
 ·subst hj
  simp only [omk,cN] at h
  exact absurd h (Nat.not_lt_zero i)
 ·simp only [omk,dH _ _ hj] at h
  exact p j' i h
theorem setA (p:OV e o vs) {k:ByteArray} {x:A} {cs:List D} (h:DEqs cs (e x)):OV e (eZ o k x) (fset vs 0 (gE (o.ks 0) (vs 0) k cs (o.n 0))):=fun j i hi=>by
 by_cases hj:j=0
 ·subst hj
  simp only [eZ,cN] at hi
  show DEqs (fset vs 0 _ 0 i) (e (if i=mpF (o.ks 0) k (o.n 0) then x else o.v i))
  rw [cN]
  unfold gE
  split
  ·exact h
  ·rename_i hne
   refine p 0 i ?_
   have:=gF (o.ks 0) k (o.n 0)
   unfold mpN at hi
   split at hi <;> omega
 ·simp only [eZ,dH _ _ hj] at hi
  rw [dH _ _ hj,wO _ _ hj]
  have:=p j i hi
  rwa [wO _ _ hj] at this
theorem setU (p:OV e o vs) {j:Nat} (hj0:j≠0) {k:ByteArray}:OV e (dU o j k) (fset vs j (gE (o.ks j) (vs j) k [] (o.n j))):=fun j' i hi=>by
 by_cases hj:j'=j
 ·subst hj
  simp only [dU,cN] at hi
  rw [cN,wO _ _ hj0]
  unfold gE
  split
  ·exact DEqs.refl _
  ·rename_i hne
   have:=p j' i (by
    have:=gF (o.ks j') k (o.n j')
    unfold mpN at hi
    split at hi <;> omega)
   rwa [wO _ _ hj0] at this
 ·simp only [dU,dH _ _ hj] at hi
  rw [dH _ _ hj]
  exact p j' i hi
theorem del (p:OV e o vs) {j:Nat} {b:Bool} {k:ByteArray}:OV e (fQ o j b k) (bif b then vs else fset vs j (eJ (vs j) (mpF (o.ks j) k (o.n j)))):=fun j' i hi=>by
 cases b with
 | true=>exact p j' i hi
 | false =>
  simp only [fQ,cond_false] at hi ⊢
  by_cases hj:j'=j
  ·subst hj
   rw [cN] at hi ⊢
   have hq:=gF (o.ks j') k (o.n j')
   unfold sD at hi
   unfold eJ
   cases j' with
   | zero =>
    show DEqs (if i < mpF (o.ks 0) k (o.n 0) then vs 0 i else vs 0 (i+1)) (e (if i < mpF (o.ks 0) k (o.n 0) then o.v i else o.v (i+1)))
    split
    ·exact p 0 i (by split at hi <;> omega)
    ·exact p 0 (i+1) (by split at hi <;> omega)
   | succ j =>
    show DEqs _ []
    split
    ·exact p (j+1) i (by split at hi <;> omega)
    ·exact p (j+1) (i+1) (by split at hi <;> omega)
  ·rw [dH _ _ hj] at hi ⊢
   have:=p j' i hi
   by_cases hj0:j'=0
   ·subst hj0
    have:Nat.beq j 0=false:=by
     cases j with
     | zero=>exact absurd rfl hj
     | succ j=>rfl
    simp only [ovs,this,cond_false]
    exact p 0 i hi
   ·rw [wO _ _ hj0] at this ⊢
    exact this
end OV
def ObQ (c' c:Nat) (nl' nl:Nat→Bool) (n' n:Nat→Nat) (ks' ks:Nat→Nat→ByteArray) (vs' vs:Nat→Nat→List D) (k:Prop):Prop :=
 c'=c∧(∀ j,nl' j=nl j)∧(∀ j,n' j=n j)∧(∀ j i,i < n j→ks' j i=ks j i∧DEqs (vs' j i) (vs j i))∧k
theorem obQ {o o':Ob A} {c' c:Nat} {vs:Nat→Nat→List D} {k:Prop} (hc:c'=c) (p:OV e o vs) (h:o=o') (r:k):ObQ c' c o.nl o'.nl o.n o'.n o.ks o'.ks vs (ovs e o') k:=by
 subst h
 exact ⟨hc,fun _=>rfl,fun _=>rfl,fun j i hi=>⟨rfl,p j i hi⟩,r⟩
def MtQ (j' j:Nat) (b' b:Bool) (c' c:Nat) (s' s:Nat→Bool) (q' q:Option Nat) (k:Prop):Prop:=j'=j∧b'=b∧c'=c∧s'=s∧q'=q∧k
theorem mtQ {j:Nat} {b:Bool} {c:Nat} {s:Nat→Bool} {q:Option Nat} {k:Prop} (r:k):MtQ j j b b c c s s q q k:=⟨rfl,rfl,rfl,rfl,rfl,r⟩
theorem aFE {x y:ByteArray}:cd x y≠0:=by unfold cd; omega
theorem aKJ {m:Nat} (h:m < 9900) (x y:ByteArray):jk m (cd x y)=true:=by
 unfold jk
 have:Nat.beq (m / 100) (cd x y+1)=false:=by
  cases hb:Nat.beq (m / 100) (cd x y+1) with
  | false=>rfl
  | true =>
   have:=Nat.eq_of_beq_eq_true hb
   unfold cd at this
   omega
 rw [this]
 rfl
namespace Cnd
theorem eqBB {a b:Bool}:Cnd (eqBB a b) (a=b):=⟨by cases a <;> cases b <;> simp [Abs.eqBB]⟩
theorem blt {x y:Nat}:Cnd (Nat.blt x y) (x < y):=⟨by rw [Nat.blt_eq]⟩
theorem ost {x m va:Nat} {nl a:Bool}:Cnd (Nat.blt x m&&nl&&Abs.eqBB a (Nat.ble va x)) (x < m∧nl=true∧(a=true↔va≤x)):=⟨by
 rw [Bool.and_eq_true,Bool.and_eq_true,Nat.blt_eq,eqBB.iff,and_assoc]
 refine and_congr_right fun _=>and_congr_right fun _=>?_
 rw [← Nat.ble_eq]
 cases a <;> cases Nat.ble va x <;> simp⟩
theorem aMM {x va:Nat} {b a:Bool}:Cnd (!b&&Abs.eqBB a (Nat.ble va x)) (b=false∧(a=true↔va≤x)):=⟨by
 rw [Bool.and_eq_true,eqBB.iff,Bool.not_eq_true']
 refine and_congr_right fun _=>?_
 rw [← Nat.ble_eq]
 cases a <;> cases Nat.ble va x <;> simp⟩
theorem ostF {a:Bool}:Cnd (true&&a&&true) (a=true):=⟨by cases a <;> simp⟩
theorem osetF {b:Bool}:Cnd (!b&&true) (b=false):=⟨by cases b <;> simp⟩
theorem fset {b a:Bool}:Cnd (!b&&a&&true) (b=false∧a=true):=⟨by cases b <;> cases a <;> simp⟩
theorem oix {i n:Int} {x y:Nat}:Cnd (decide ((0:Int)≤i)&&decide (i < n)&&Nat.ble x y) ((0:Int)≤i∧i < n∧x≤y):=⟨by simp [Nat.ble_eq,and_assoc]⟩
theorem osl {l h n:Int} {x y:Nat}:Cnd (decide ((0:Int)≤l)&&decide (l≤h)&&decide (h≤n)&&Nat.ble x y) ((0:Int)≤l∧l≤h∧h≤n∧x≤y):=⟨by simp [Nat.ble_eq,and_assoc]⟩
end Cnd
section
variable {A:Type} [Inhabited A]
def kC (o:Ob A) (k:ByteArray) (z:A):A:=bif gK o 0 (o.nl 0) k then oat o k else z
def yU (sp:A→Nat) (o:Ob A) (k:ByteArray):Ob A :=
 bif gK o 0 (o.nl 0) k then (let o1:=fQ o 0 (o.nl 0) k; let j:=sp (oat o k); fQ o1 j (o1.nl j) k) else o
def mK (o:Ob A) (j:Nat):Ob A:=bif o.nl j then omk o j else o
def aK8 (sp:A→Nat) (o:Ob A) (k:ByteArray) (x:A):Ob A :=
 dU (mK (eZ (mK (yU sp o k) 0) k x) (sp x)) (sp x) k
def kF (o:Ob A) (p:ByteArray→Bool) (j:Nat):List ByteArray:=bif o.nl j then [] else ((List.range (o.n j)).map (o.ks j)).filter p
def aBM (o:Ob A) (p:ByteArray→Bool) (j n:Nat):List ByteArray:=(List.range n).flatMap fun i=>kF o p (j+i)
def nE (l:List (ByteArray×A)) (k:ByteArray):List (ByteArray×A):=l.filter fun x=>decide (x.1≠k)
def aI2 (l:List (ByteArray×A)) (k:ByteArray) (x:A):List (ByteArray×A):=l.takeWhile (fun y=>slt y.1 k)++(k,x)::l.dropWhile (fun y=>slt y.1 k)
def rV (l:List (ByteArray×A)) (k:ByteArray) (x:A):List (ByteArray×A):=aI2 (nE l k) k x
def tE (l:List (ByteArray×A)) (k:ByteArray) (z:A):A×Bool:=match l.find? fun x=>decide (x.1=k) with
 | some x=>(x.2,true)
 | none=>(z,false)
abbrev Ps (A:Type):Type:=List ByteArray×List A
def pz (w:Ps A):List (ByteArray×A):=w.1.zip w.2
def pu (l:List (ByteArray×A)):Ps A:=(l.map (·.1),l.map (·.2))
def wF (w:Ps A):Prop:=w.1.length=w.2.length∧w.1.length≤1048576
def dW (a:Ps A×ByteArray):Bool×Ps A:=(decide ((nE (pz a.1) a.2).length < a.1.1.length),pu (nE (pz a.1) a.2))
def jM (a:Ps A×ByteArray×A):Ps A:=pu (rV (pz a.1) a.2.1 a.2.2)
def i6 (a:Ps A×ByteArray):Prop:=wF a.1
def nR (a:Ps A×ByteArray×A):Prop:=wF a.1
end
def PIn {B:Type} (n:Nat) (ks:Nat→ByteArray) (v:Nat→B) (k:ByteArray) (x:B):Prop:=∃ i,i < n∧ks i=k∧v i=x
def z7 (n:Nat) (ks:Nat→ByteArray):Prop:=∀ i j,i < n→j < n→ks i=ks j→i=j
theorem oK (ks:Nat→ByteArray) (k:ByteArray):∀ n,mpF ks k n < n→ks (mpF ks k n)=k
 | 0,h=>absurd h (Nat.not_lt_zero _)
 | n+1,h=>by
  simp only [mpF] at h ⊢
  have:=gF ks k n
  split at h
  ·rename_i h1
   rw [if_pos h1]
   exact oK ks k n h1
  ·rename_i h1
   rw [if_neg h1]
   split at h
   ·rename_i h2
    rw [if_pos h2]
    exact h2
   ·omega
theorem vT (ks:Nat→ByteArray) (k:ByteArray):∀ n i,i < n→ks i=k→mpF ks k n≤i
 | 0,i,h,_=>absurd h (Nat.not_lt_zero _)
 | n+1,i,h,e=>by
  simp only [mpF]
  have:=gF ks k n
  by_cases hi:i < n
  ·have:=vT ks k n i hi e
   rw [if_pos (by omega)]
   exact this
  ·have:i=n:=by omega
   subst this
   split
   ·omega
   ·first | exact Nat.le_refl _ | (rw [if_pos e]; exact Nat.le_refl _)
theorem vB {ks:Nat→ByteArray} {k:ByteArray} {n i:Nat} (hj:z7 n ks) (h:i < n) (e:ks i=k):mpF ks k n=i:=by
 have h1:=vT ks k n i h e
 exact hj _ _ (by omega) h ((oK ks k n (by omega)).trans e.symm)
section
variable {B:Type} {n:Nat} {ks:Nat→ByteArray} {v:Nat→B} {k:ByteArray}
theorem PIn.uniq (hj:z7 n ks) {x y:B} (h:PIn n ks v k x) (h':PIn n ks v k y):x=y:=by
 obtain ⟨i,h1,h2,rfl⟩:=h
 obtain ⟨j,h3,h4,rfl⟩:=h'
 rw [hj i j h1 h3 (h2.trans h4.symm)]
theorem aJ9 (hj:z7 n ks):z7 (sD (mpF ks k n) n) (eJ ks (mpF ks k n)):=fun i j hi hj' e=>by
 have hq:=gF ks k n
 unfold sD at hi hj'
 unfold eJ at e
 have a1:i < n:=by split at hi <;> omega
 have a2:j < n:=by split at hj' <;> omega
 have a3:¬i < mpF ks k n→i+1 < n:=fun h=>by split at hi <;> omega
 have a4:¬j < mpF ks k n→j+1 < n:=fun h=>by split at hj' <;> omega
 split at e <;> split at e
 ·exact hj _ _ a1 a2 e
 ·have:=hj _ _ a1 (a4 (by assumption)) e
  omega
 ·have:=hj _ _ (a3 (by assumption)) a2 e
  omega
 ·have:=hj _ _ (a3 (by assumption)) (a4 (by assumption)) e
  omega
theorem aEU (hj:z7 n ks) {k':ByteArray} {x:B}:PIn (sD (mpF ks k n) n) (eJ ks (mpF ks k n)) (eJ v (mpF ks k n)) k' x↔PIn n ks v k' x∧k'≠k:=by
 have hq:=gF ks k n
 constructor
 ·rintro ⟨i,hi,e1,e2⟩
  unfold sD at hi
  unfold eJ at e1 e2
  split at e1
  ·rename_i h
   rw [if_pos h] at e2
   have hin:i < n:=by split at hi <;> omega
   refine ⟨⟨i,hin,e1,e2⟩,fun e=>?_⟩
   have:=vT ks k n i hin (e1.trans e)
   omega
  ·rename_i h
   rw [if_neg h] at e2
   have hin:i+1 < n:=by split at hi <;> omega
   refine ⟨⟨i+1,hin,e1,e2⟩,fun e=>?_⟩
   have:=vB hj hin (e1.trans e)
   omega
 ·rintro ⟨⟨i,hi,e1,e2⟩,hne⟩
  have hiq:i≠mpF ks k n:=fun h=>hne (by
   rw [← e1,h]
   exact oK ks k n (by omega))
  unfold sD eJ
  by_cases h:i < mpF ks k n
  ·exact ⟨i,by split <;> omega,by simp only [if_pos h]; exact e1,by simp only [if_pos h]; exact e2⟩
  ·refine ⟨i - 1,by split <;> omega,?_,?_⟩
   ·simp only [if_neg (show ¬i - 1 < mpF ks k n by omega),show i - 1+1=i by omega]; exact e1
   ·simp only [if_neg (show ¬i - 1 < mpF ks k n by omega),show i - 1+1=i by omega]; exact e2
theorem aE3 (hj:z7 n ks):z7 (mpN ks k n) (gD ks k n):=fun i j hi hj' e=>by
 have hq:=gF ks k n
 unfold mpN at hi hj'
 unfold gD at e
 have a1:i≠mpF ks k n→i < n:=fun h=>by split at hi <;> omega
 have a2:j≠mpF ks k n→j < n:=fun h=>by split at hj' <;> omega
 split at e <;> split at e
 ·omega
 ·rename_i h1 h2
  have:=vB hj (a2 h2) e.symm
  omega
 ·rename_i h1 h2
  have:=vB hj (a1 h1) e
  omega
 ·rename_i h1 h2
  exact hj _ _ (a1 h1) (a2 h2) e
theorem aEZ (hj:z7 n ks) {k':ByteArray} {x y:B}:PIn (mpN ks k n) (gD ks k n) (fun i=>if i=mpF ks k n then x else v i) k' y↔(k'=k∧y=x)∨(k'≠k∧PIn n ks v k' y):=by
 have hq:=gF ks k n
 constructor
 ·rintro ⟨i,hi,e1,e2⟩
  unfold mpN at hi
  unfold gD at e1
  simp only at e2
  split at e1
  ·rename_i h
   rw [if_pos h] at e2
   exact .inl ⟨e1.symm,e2.symm⟩
  ·rename_i h
   rw [if_neg h] at e2
   have hin:i < n:=by split at hi <;> omega
   refine .inr ⟨fun e=>h ?_,i,hin,e1,e2⟩
   exact (vB hj hin (e1.trans e)).symm
 ·rintro (⟨rfl,rfl⟩ | ⟨hne,i,hi,e1,e2⟩)
  ·exact ⟨mpF ks k' n,by unfold mpN; split <;> omega,by simp [gD],by simp⟩
  ·have hiq:i≠mpF ks k n:=fun h=>hne (by
    rw [← e1,h]
    exact oK ks k n (by omega))
   exact ⟨i,by unfold mpN; split <;> omega,by simp only [gD,if_neg hiq]; exact e1,by simp only [if_neg hiq]; exact e2⟩
end
section
variable {A:Type}
def iI (o:Ob A) (j:Nat) (k:ByteArray):Prop:=PIn (o.n j) (o.ks j) (fun _=>()) k ()
def iC (o:Ob A) (k:ByteArray) (x:A):Prop:=PIn (o.n 0) (o.ks 0) o.v k x
structure Ook (o:Ob A):Prop where
 nil:∀ j,o.nl j=true→o.n j=0
 inj:∀ j,z7 (o.n j) (o.ks j)
theorem pW {o:Ob A} {k:ByteArray}:iI o 0 k↔∃ x,iC o k x:=⟨fun ⟨i,h1,h2,_⟩=>⟨_,i,h1,h2,rfl⟩,fun ⟨_,i,h1,h2,_⟩=>⟨i,h1,h2,rfl⟩⟩
theorem i3 {o:Ob A} (h:Ook o) {j:Nat} (hn:o.nl j=true) (k:ByteArray):¬iI o j k:=fun ⟨i,hi,_⟩=>by
 rw [h.nil j hn] at hi
 exact Nat.not_lt_zero _ hi
theorem jJ {o:Ob A} (h:Ook o) {k:ByteArray}:gK o 0 (o.nl 0) k=true↔∃ x,iC o k x:=by
 rw [← pW]
 unfold gK
 rw [Bool.and_eq_true,decide_eq_true_eq,Bool.not_eq_true']
 constructor
 ·rintro ⟨_,h2⟩
  exact ⟨_,h2,oK _ _ _ h2,rfl⟩
 ·intro hk
  refine ⟨?_,?_⟩
  ·cases hn:o.nl 0 with
   | true=>exact absurd hk (i3 h hn k)
   | false=>rfl
  ·obtain ⟨i,hi,e,_⟩:=hk
   have:=vT (o.ks 0) k _ i hi e
   omega
theorem aAK {o:Ob A} (h:Ook o) {k:ByteArray} {x:A} (hx:iC o k x):oat o k=x:=by
 obtain ⟨i,hi,e,rfl⟩:=hx
 unfold oat
 rw [vB (h.inj 0) hi e]
variable {o:Ob A} {k k':ByteArray} {x y:A} {j j':Nat}
theorem oE (h:Ook o) (j:Nat) (k:ByteArray):Ook (fQ o j (o.nl j) k):=by
 cases hn:o.nl j with
 | true=>exact ⟨h.nil,h.inj⟩
 | false =>
  refine ⟨fun j' h'=>?_,fun j'=>?_⟩
  ·by_cases e:j'=j
   ·subst e
    rw [show (fQ o j' false k).nl j'=o.nl j' from rfl,hn] at h'
    cases h'
   ·simp only [fQ,cond_false,dH _ _ e]
    exact h.nil j' h'
  ·by_cases e:j'=j
   ·subst e
    simp only [fQ,cond_false,cN]
    exact aJ9 (h.inj j')
   ·simp only [fQ,cond_false,dH _ _ e]
    exact h.inj j'
theorem qR (h:Ook o):iI (fQ o j (o.nl j) k) j' k'↔iI o j' k'∧¬(j'=j∧k'=k):=by
 cases hn:o.nl j with
 | true =>
  refine ⟨fun hk=>⟨hk,fun ⟨e1,_⟩=>?_⟩,fun hk=>hk.1⟩
  subst e1
  exact i3 h hn _ hk
 | false =>
  by_cases e:j'=j
  ·subst e
   unfold iI
   simp only [fQ,cond_false,cN]
   have:=aEU (k:=k) (v:=fun _=>()) (h.inj j') (k':=k') (x:=())
   rw [show (eJ (fun _=>()) (mpF (o.ks j') k (o.n j')))=(fun _=>()) from by funext i; rfl] at this
   rw [this]
   simp
  ·unfold iI
   simp only [fQ,cond_false,dH _ _ e,e,false_and,not_false_eq_true,and_true]
theorem q8 (h:Ook o):iC (fQ o j (o.nl j) k) k' x↔iC o k' x∧¬(j=0∧k'=k):=by
 cases hn:o.nl j with
 | true =>
  refine ⟨fun hk=>⟨hk,fun ⟨e1,_⟩=>?_⟩,fun hk=>hk.1⟩
  subst e1
  exact i3 h hn _ (pW.2 ⟨_,hk⟩)
 | false =>
  cases j with
  | zero =>
   unfold iC
   simp only [fQ,cond_false,cN]
   rw [show (bif Nat.beq 0 0 then eJ o.v (mpF (o.ks 0) k (o.n 0)) else o.v)=eJ o.v (mpF (o.ks 0) k (o.n 0)) from rfl,aEU (h.inj 0)]
   simp
  | succ j =>
   unfold iC
   simp only [fQ,cond_false,dH (k:=0) (j:=j+1) _ _ (by omega)]
   rw [show (bif Nat.beq (j+1) 0 then eJ o.v (mpF (o.ks 0) k (o.n 0)) else o.v)=o.v from rfl]
   simp
theorem qG (h:Ook o):iI (mK o j) j' k'↔iI o j' k':=by
 unfold mK
 cases hn:o.nl j with
 | false=>exact Iff.rfl
 | true =>
  simp only [cond_true]
  by_cases e:j'=j
  ·subst e
   refine ⟨fun ⟨i,hi,_⟩=>?_,fun hk=>absurd hk (i3 h hn _)⟩
   simp only [omk,cN] at hi
   exact absurd hi (Nat.not_lt_zero _)
  ·unfold iI
   simp only [omk,dH _ _ e]
theorem qI (h:Ook o):iC (mK o j) k' x↔iC o k' x:=by
 unfold mK
 cases hn:o.nl j with
 | false=>exact Iff.rfl
 | true =>
  simp only [cond_true]
  by_cases e:0=j
  ·subst e
   refine ⟨fun ⟨i,hi,_⟩=>?_,fun hk=>absurd (pW.2 ⟨_,hk⟩) (i3 h hn _)⟩
   simp only [omk,cN] at hi
   exact absurd hi (Nat.not_lt_zero _)
  ·unfold iC
   simp only [omk,dH _ _ e]
theorem pL (h:Ook o) (j:Nat):Ook (mK o j):=by
 unfold mK
 cases hn:o.nl j with
 | false=>exact h
 | true =>
  refine ⟨fun j' h'=>?_,fun j'=>?_⟩
  ·by_cases e:j'=j
   ·subst e
    simp only [omk,cond_true,cN]
   ·simp only [omk,cond_true,dH _ _ e] at h' ⊢
    exact h.nil j' h'
  ·by_cases e:j'=j
   ·subst e
    simp only [omk,cond_true,cN]
    exact fun i _ hi=>absurd hi (Nat.not_lt_zero _)
   ·simp only [omk,cond_true,dH _ _ e]
    exact h.inj j'
theorem aDP (o:Ob A) (j:Nat):(mK o j).nl j=false:=by
 unfold mK
 cases hn:o.nl j with
 | false=>exact hn
 | true=>simp [omk,cN]
theorem aEP (h:Ook o) (hn:o.nl 0=false):Ook (eZ o k x):=by
 refine ⟨fun j' h'=>?_,fun j'=>?_⟩
 ·by_cases e:j'=0
  ·subst e
   rw [show (eZ o k x).nl 0=o.nl 0 from rfl,hn] at h'
   cases h'
  ·simp only [eZ,dH _ _ e] at h' ⊢
   exact h.nil j' h'
 ·by_cases e:j'=0
  ·subst e
   simp only [eZ,cN]
   exact aE3 (h.inj 0)
  ·simp only [eZ,dH _ _ e]
   exact h.inj j'
theorem aCU (h:Ook o):iC (eZ o k x) k' y↔(k'=k∧y=x)∨(k'≠k∧iC o k' y):=by
 unfold iC
 simp only [eZ,cN]
 exact aEZ (h.inj 0)
theorem aAS (hj:j'≠0):iI (eZ o k x) j' k'↔iI o j' k':=by
 unfold iI
 simp only [eZ,dH _ _ hj]
theorem aEL (h:Ook o) (hn:o.nl j=false):Ook (dU o j k):=by
 refine ⟨fun j' h'=>?_,fun j'=>?_⟩
 ·by_cases e:j'=j
  ·subst e
   rw [show (dU o j' k).nl j'=o.nl j' from rfl,hn] at h'
   cases h'
  ·simp only [dU,dH _ _ e] at h' ⊢
   exact h.nil j' h'
 ·by_cases e:j'=j
  ·subst e
   simp only [dU,cN]
   exact aE3 (h.inj j')
  ·simp only [dU,dH _ _ e]
   exact h.inj j'
theorem aBX (hj:j≠0):iC (dU o j k) k' y↔iC o k' y:=by
 unfold iC
 simp only [dU,dH _ _ (Ne.symm hj)]
theorem aB2 (h:Ook o):iI (dU o j k) j' k'↔(j'=j∧k'=k)∨iI o j' k':=by
 by_cases e:j'=j
 ·subst e
  unfold iI
  simp only [dU,cN]
  have:=aEZ (k:=k) (v:=fun _=>()) (h.inj j') (k':=k') (x:=()) (y:=())
  rw [show (fun i=>if i=mpF (o.ks j') k (o.n j') then () else ())=(fun _=>()) from by funext i; split <;> rfl] at this
  rw [this]
  by_cases hk:k'=k <;> simp [hk]
 ·unfold iI
  simp only [dU,dH _ _ e,e,false_and,false_or]
end
section
variable {A:Type} [Inhabited A]
def Rising (l:List (ByteArray×A)):Prop:=l.Pairwise fun x y=>slt x.1 y.1=true
structure Rep (sp:A→Nat) (o:Ob A) (l:List (ByteArray×A)):Prop where
 ok:Ook o
 val:∀ k x,iC o k x↔(k,x)∈l
 set:∀ j k,j≠0→(iI o j k↔∃ x,(k,x)∈l∧sp x=j)
 ris:Rising l
theorem xL {x y z:ByteArray} (h:slt x y=true) (k:slt y z=true):slt x z=true:=wQ h k
theorem tP (x:ByteArray):slt x x=false:=sO _
theorem aEQ {x y:ByteArray} (h:¬slt x y=true) (k:x≠y):slt y x=true:=by
 rcases aCF x.toList y.toList with c | c | c
 ·exact absurd c h
 ·exact absurd (toList_inj.1 c) k
 ·exact c
theorem Rising.uniq {l:List (ByteArray×A)} (h:Rising l) {k:ByteArray} {x y:A} (hx:(k,x)∈l) (hy:(k,y)∈l):x=y:=by
 induction l with
 | nil=>cases hx
 | cons a l ih =>
  obtain ⟨h1,h2⟩:=List.pairwise_cons.1 h
  rcases List.mem_cons.1 hx with e | hx'
  ·rcases List.mem_cons.1 hy with e' | hy'
   ·rw [← e] at e'
    exact (Prod.mk.inj e').2.symm
   ·have:=h1 _ hy'
    rw [← e,tP] at this
    cases this
  ·rcases List.mem_cons.1 hy with e' | hy'
   ·have:=h1 _ hx'
    rw [← e',tP] at this
    cases this
   ·exact ih h2 hx' hy'
variable {sp:A→Nat} {o:Ob A} {l:List (ByteArray×A)} {k k':ByteArray} {x y:A}
theorem Rep.zero:Rep sp (ob0 A) []:=⟨⟨fun _ _=>rfl,fun _ i _ hi=>absurd hi (Nat.not_lt_zero _)⟩,fun k x=>⟨fun ⟨i,hi,_⟩=>absurd hi (Nat.not_lt_zero _),fun h=>by cases h⟩,
 fun j k _=>⟨fun ⟨i,hi,_⟩=>absurd hi (Nat.not_lt_zero _),fun ⟨x,h,_⟩=>by cases h⟩,List.Pairwise.nil⟩
theorem aB6 (h:Rising l) {z:A}:(tE l k z).2=true↔∃ x,(k,x)∈l:=by
 unfold tE
 cases hf:l.find? fun x=>decide (x.1=k) with
 | none =>
  refine ⟨fun h=>(by cases h),fun ⟨x,hx⟩=>?_⟩
  have:=List.find?_eq_none.1 hf _ hx
  simp at this
 | some a =>
  have h1:=List.find?_some hf
  have h2:=List.mem_of_find?_eq_some hf
  have h1:a.1=k:=by simpa using h1
  exact ⟨fun _=>⟨a.2,by rw [← h1]; exact h2⟩,fun _=>rfl⟩
theorem uZ (h:Rising l) {z:A} (hx:(k,x)∈l):tE l k z=(x,true):=by
 unfold tE
 cases hf:l.find? fun x=>decide (x.1=k) with
 | none =>
  have:=List.find?_eq_none.1 hf _ hx
  simp at this
 | some a =>
  have h1:=List.find?_some hf
  have h2:=List.mem_of_find?_eq_some hf
  have h1:a.1=k:=by simpa using h1
  have:(k,a.2)∈l:=by rw [← h1]; exact h2
  show (a.2,true)=_
  rw [h.uniq this hx]
theorem rJ {z:A} (h:∀ x,(k,x) ∉ l):tE l k z=(z,false):=by
 unfold tE
 cases hf:l.find? fun x=>decide (x.1=k) with
 | none=>rfl
 | some a =>
  have h1:=List.find?_some hf
  have h2:=List.mem_of_find?_eq_some hf
  have h1:a.1=k:=by simpa using h1
  exact absurd (by rw [← h1]; exact h2) (h a.2)
theorem Rep.get (r:Rep sp o l) (k:ByteArray) (z:A):(kC o k z,gK o 0 (o.nl 0) k)=tE l k z:=by
 by_cases h:∃ x,iC o k x
 ·have hh:=(jJ r.ok).2 h
  obtain ⟨x,hx⟩:=h
  unfold kC
  rw [hh,aAK r.ok hx,uZ r.ris ((r.val k x).1 hx)]
  rfl
 ·have hh:gK o 0 (o.nl 0) k=false:=by
   rw [← Bool.not_eq_true,jJ r.ok]
   exact h
  unfold kC
  rw [hh,rJ fun x hx=>h ⟨x,(r.val k x).2 hx⟩]
  rfl
theorem eA:(k',x)∈nE l k↔(k',x)∈l∧k'≠k:=by simp [nE]
theorem Rising.del (h:Rising l) (k:ByteArray):Rising (nE l k):=List.Pairwise.filter _ h
theorem aHQ (h:Ook o) (sp:A→Nat) (k:ByteArray):Ook (yU sp o k):=by
 unfold yU
 cases gK o 0 (o.nl 0) k with
 | false=>exact h
 | true=>exact oE (oE h 0 k) _ k
theorem Rep.take (r:Rep sp o l) (hsp:∀ x,sp x≠0) (k:ByteArray):Rep sp (yU sp o k) (nE l k):=by
 refine ⟨aHQ r.ok sp k,?_,?_,r.ris.del k⟩
 ·intro k' x
  rw [eA,← r.val]
  unfold yU
  cases hh:gK o 0 (o.nl 0) k with
  | false =>
   refine ⟨fun h=>⟨h,fun e=>?_⟩,fun h=>h.1⟩
   have:=(jJ r.ok).2 ⟨x,h⟩
   rw [e,hh] at this
   cases this
  | true =>
   simp only [cond_true]
   rw [q8 (oE r.ok 0 k),q8 r.ok]
   constructor
   ·rintro ⟨⟨h1,h2⟩,_⟩
    exact ⟨h1,fun e=>h2 ⟨rfl,e⟩⟩
   ·rintro ⟨h1,h2⟩
    exact ⟨⟨h1,fun e=>h2 e.2⟩,fun e=>h2 e.2⟩
 ·intro j k' hj
  simp only [eA]
  have rs:=r.set j k' hj
  unfold yU
  cases hh:gK o 0 (o.nl 0) k with
  | false =>
   simp only [cond_false]
   rw [rs]
   refine ⟨fun ⟨x,h1,h2⟩=>⟨x,⟨h1,fun e=>?_⟩,h2⟩,fun ⟨x,h1,h2⟩=>⟨x,h1.1,h2⟩⟩
   have:=(jJ r.ok).2 ⟨x,(r.val k' x).2 h1⟩
   rw [e,hh] at this
   cases this
  | true =>
   simp only [cond_true]
   obtain ⟨x0,hx0⟩:=(jJ r.ok).1 hh
   rw [qR (oE r.ok 0 k),qR r.ok,rs,aAK r.ok hx0]
   constructor
   ·rintro ⟨⟨⟨x,h1,h2⟩,_⟩,h3⟩
    refine ⟨x,⟨h1,fun e=>h3 ⟨?_,e⟩⟩,h2⟩
    subst e
    rw [r.ris.uniq ((r.val _ _).1 hx0) h1,h2]
   ·rintro ⟨x,⟨h1,h2⟩,h3⟩
    exact ⟨⟨⟨x,h1,h3⟩,fun e=>hj e.1⟩,fun e=>h2 e.2⟩
theorem zD {p:ByteArray×A→Bool} {a:ByteArray×A}:a∈l.takeWhile p∨a∈l.dropWhile p↔a∈l:=by
 conv=>rhs; rw [← List.takeWhile_append_dropWhile (p:=p) (l:=l)]
 rw [List.mem_append]
theorem aI8:(k',y)∈aI2 l k x↔(k'=k∧y=x)∨(k',y)∈l:=by
 unfold aI2
 rw [List.mem_append,List.mem_cons,← zD (p:=fun y=>slt y.1 k) (l:=l),Prod.mk.injEq]
 constructor
 ·rintro (h | h | h)
  ·exact .inr (.inl h)
  ·exact .inl h
  ·exact .inr (.inr h)
 ·rintro (h | h | h)
  ·exact .inr (.inl h)
  ·exact .inl h
  ·exact .inr (.inr h)
theorem kH:(k',y)∈rV l k x↔(k'=k∧y=x)∨(k'≠k∧(k',y)∈l):=by
 unfold rV
 rw [aI8,eA,and_comm (a:=(k',y)∈l)]
theorem qH:∀ {l:List (ByteArray×A)} {a},a∈l.takeWhile (fun y=>slt y.1 k)→slt a.1 k=true
 | [],_,h=>by cases h
 | b::l,a,h=>by
  rw [List.takeWhile_cons] at h
  split at h
  ·rename_i hb
   rcases List.mem_cons.1 h with rfl | h
   ·exact hb
   ·exact qH h
  ·cases h
theorem lU:∀ {l:List (ByteArray×A)},Rising l→∀ {a},a∈l.dropWhile (fun y=>slt y.1 k)→¬slt a.1 k=true
 | [],_,_,h=>by cases h
 | b::l,hr,a,h=>by
  obtain ⟨h1,h2⟩:=List.pairwise_cons.1 hr
  rw [List.dropWhile_cons] at h
  split at h
  ·exact lU h2 h
  ·rename_i hb
   rcases List.mem_cons.1 h with rfl | h
   ·exact hb
   ·exact fun hc=>hb (xL (h1 a h) hc)
theorem Rising.put (h:Rising l) (k:ByteArray) (x:A):Rising (rV l k x):=by
 unfold rV aI2
 have hd:=h.del k
 refine List.pairwise_append.2 ⟨hd.sublist (List.takeWhile_sublist _),List.pairwise_cons.2 ⟨fun b hb=>?_,hd.sublist (List.dropWhile_sublist _)⟩,fun a ha b hb=>?_⟩
 ·have hb':b∈nE l k:=(List.dropWhile_sublist _).subset hb
  exact aEQ (lU hd hb) (eA (k':=b.1) (x:=b.2) |>.1 hb').2
 ·have h1:=qH ha
  rcases List.mem_cons.1 hb with rfl | hb
  ·exact h1
  ·have hb':b∈nE l k:=(List.dropWhile_sublist _).subset hb
   exact xL h1 (aEQ (lU hd hb) (eA (k':=b.1) (x:=b.2) |>.1 hb').2)
theorem Rep.put (r:Rep sp o l) (hsp:∀ x,sp x≠0) (k:ByteArray) (x:A):Rep sp (aK8 sp o k x) (rV l k x):=by
 have r1:=r.take hsp k
 have o2:=pL r1.ok 0
 have o3:=aEP (k:=k) (x:=x) o2 (aDP _ 0)
 have o4:=pL o3 (sp x)
 refine ⟨aEL o4 (aDP _ _),fun k' y=>?_,fun j k' hj=>?_,r.ris.put k x⟩
 ·unfold aK8
  rw [aBX (hsp x),qI o3,aCU o2,qI r1.ok,r1.val,kH,eA]
  constructor
  ·rintro (h | ⟨h1,h2,_⟩)
   ·exact .inl h
   ·exact .inr ⟨h1,h2⟩
  ·rintro (h | ⟨h1,h2⟩)
   ·exact .inl h
   ·exact .inr ⟨h1,h2,h1⟩
 ·unfold aK8
  rw [aB2 o4,qG o3,aAS hj,qG r1.ok,r1.set j k' hj]
  simp only [kH,eA]
  constructor
  ·rintro (⟨rfl,rfl⟩ | ⟨y,⟨h1,h2⟩,h3⟩)
   ·exact ⟨x,.inl ⟨rfl,rfl⟩,rfl⟩
   ·exact ⟨y,.inr ⟨h2,h1⟩,h3⟩
  ·rintro ⟨y,⟨rfl,rfl⟩ | ⟨h1,h2⟩,h3⟩
   ·exact .inl ⟨h3.symm,rfl⟩
   ·exact .inr ⟨y,⟨h2,h1⟩,h3⟩
end
section
variable {A:Type}
theorem gS {o:Ob A} (h:Ook o) {p:ByteArray→Bool} {j:Nat} {k:ByteArray}:k∈kF o p j↔iI o j k∧p k=true:=by
 unfold kF
 cases hn:o.nl j with
 | true=>exact ⟨fun h=>(by cases h),fun h'=>absurd h'.1 (i3 h hn k)⟩
 | false =>
  simp only [cond_false,List.mem_filter,List.mem_map,List.mem_range]
  exact ⟨fun ⟨⟨i,hi,e⟩,hp⟩=>⟨⟨i,hi,e,rfl⟩,hp⟩,fun ⟨⟨i,hi,e,_⟩,hp⟩=>⟨⟨i,hi,e⟩,hp⟩⟩
theorem rT {α:Type} {ks:Nat→α} {n:Nat} (h:∀ i j,i < n→j < n→ks i=ks j→i=j):((List.range n).map ks).Nodup:=by
 unfold List.Nodup
 rw [List.pairwise_map]
 refine List.Pairwise.imp_of_mem (R:=fun x y=>x < y) (fun {a b} ha hb hab e=>?_) List.pairwise_lt_range
 have:=h a b (List.mem_range.1 ha) (List.mem_range.1 hb) e
 omega
theorem l8 {o:Ob A} (h:Ook o) (p:ByteArray→Bool) (j:Nat):(kF o p j).Nodup:=by
 unfold kF
 cases o.nl j with
 | true=>exact List.Pairwise.nil
 | false=>exact List.Pairwise.filter _ (rT (h.inj j))
variable [Inhabited A] {sp:A→Nat} {o:Ob A} {l:List (ByteArray×A)}
theorem Rising.nodup (h:Rising l):l.Nodup:=List.Pairwise.imp (fun {x y} hxy e=>by
 rw [e,tP] at hxy
 cases hxy) h
theorem Rising.names (h:Rising l):(l.map (·.1)).Pairwise fun x y=>slt x y=true:=by
 rw [List.pairwise_map]
 exact h
theorem Rising.namesN (h:Rising l):(l.map (·.1)).Nodup:=List.Pairwise.imp (fun {x y} hxy e=>by
 rw [e,tP] at hxy
 cases hxy) h.names
theorem Rep.mem_olist (r:Rep sp o l) {p:ByteArray→Bool} {j n:Nat} (hj:j≠0) {k:ByteArray}:k∈aBM o p j n↔∃ x,(k,x)∈l∧p k=true∧j≤sp x∧sp x < j+n:=by
 unfold aBM
 rw [List.mem_flatMap]
 constructor
 ·rintro ⟨i,hi,hk⟩
  obtain ⟨h1,h2⟩:=(gS r.ok).1 hk
  obtain ⟨x,h3,h4⟩:=(r.set (j+i) k (by omega)).1 h1
  have:=List.mem_range.1 hi
  exact ⟨x,h3,h2,by omega,by omega⟩
 ·rintro ⟨x,h1,h2,h3,h4⟩
  exact ⟨sp x - j,List.mem_range.2 (by omega),(gS r.ok).2 ⟨(r.set _ k (by omega)).2 ⟨x,h1,by omega⟩,h2⟩⟩
theorem Rep.nodup_olist (r:Rep sp o l) (p:ByteArray→Bool) {j n:Nat} (hj:j≠0):(aBM o p j n).Nodup:=by
 unfold aBM List.Nodup
 rw [List.pairwise_flatMap]
 refine ⟨fun i _=>l8 r.ok p _,List.Pairwise.imp_of_mem (R:=fun x y=>x < y) (fun {a b} _ _ hab x hx y hy e=>?_) List.pairwise_lt_range⟩
 subst e
 obtain ⟨u,h1,h2⟩:=(r.set (j+a) x (by omega)).1 ((gS r.ok).1 hx).1
 obtain ⟨v,h3,h4⟩:=(r.set (j+b) x (by omega)).1 ((gS r.ok).1 hy).1
 have:=r.ris.uniq h1 h3
 subst this
 omega
theorem Rep.perm (r:Rep sp o l) (p:ByteArray→Bool) {j n:Nat} (hj:j≠0):(aBM o p j n).Perm ((l.filter fun x=>p x.1&&decide (j≤sp x.2∧sp x.2 < j+n)).map (·.1)):=by
 refine (List.perm_ext_iff_of_nodup (r.nodup_olist p hj) (Rising.namesN (List.Pairwise.filter _ r.ris))).2 fun k=>?_
 rw [r.mem_olist hj,List.mem_map]
 constructor
 ·rintro ⟨x,h1,h2,h3⟩
  refine ⟨(k,x),List.mem_filter.2 ⟨h1,?_⟩,rfl⟩
  simp only [h2,Bool.true_and]
  exact decide_eq_true h3
 ·rintro ⟨⟨k',x⟩,h,rfl⟩
  obtain ⟨h1,h2⟩:=List.mem_filter.1 h
  rw [Bool.and_eq_true,decide_eq_true_eq] at h2
  exact ⟨x,h1,h2.1,h2.2⟩
theorem Rep.num (r:Rep sp o l):o.n 0=l.length:=by
 have hp:((List.range (o.n 0)).map fun i=>(o.ks 0 i,o.v i)).Perm l:=by
  refine (List.perm_ext_iff_of_nodup (rT fun i j hi hj e=>r.ok.inj 0 i j hi hj (Prod.mk.inj e).1) r.ris.nodup).2 fun ⟨k,x⟩=>?_
  rw [← r.val,List.mem_map]
  constructor
  ·rintro ⟨i,hi,e⟩
   obtain ⟨e1,e2⟩:=Prod.mk.inj e
   exact ⟨i,List.mem_range.1 hi,e1,e2⟩
  ·rintro ⟨i,hi,e1,e2⟩
   exact ⟨i,List.mem_range.2 hi,by rw [e1,e2]⟩
 simpa using hp.length_eq
theorem Rep.len (r:Rep sp o l):aF9 o 0 (o.nl 0)=l.length:=by
 rw [← r.num]
 unfold aF9
 cases hn:o.nl 0 with
 | true=>exact (r.ok.nil 0 hn).symm
 | false=>rfl
theorem yY (l:List (ByteArray×A)) (k:ByteArray):(nE l k).length≤l.length:=List.length_filter_le _ _
theorem aJD (l:List (ByteArray×A)) (k:ByteArray) (x:A):(rV l k x).length≤l.length+1:=by
 have h:=yY l k
 have e:(rV l k x).length=(nE l k).length+1:=by
  unfold rV aI2
  rw [List.length_append,List.length_cons,Nat.add_left_comm,Nat.add_comm]
  have:=congrArg List.length (List.takeWhile_append_dropWhile (p:=fun y=>slt y.1 k) (l:=nE l k))
  rw [List.length_append] at this
  omega
 omega
theorem aIR (l:List (ByteArray×A)):pz (pu l)=l:=by
 unfold pz pu
 induction l with
 | nil=>rfl
 | cons a l ih=>simp only [List.map_cons,List.zip_cons_cons,ih]
theorem aK4 {l:List (ByteArray×A)} (h:l.length≤1048576):wF (pu l):=⟨by simp [pu],by simpa [pu] using h⟩
end
theorem zZ:∀ (x y:List UInt8),Op.bytesLess x y=decide (x < y):=fun x=>by
 induction x with
 | nil=>intro y; cases y <;> simp [Op.bytesLess]
 | cons a x ih =>
  intro y
  cases y with
  | nil=>simp [Op.bytesLess]
  | cons b y =>
   simp [Op.bytesLess,ih,List.cons_lt_cons_iff]
   by_cases hab:a=b <;> simp [hab]
theorem aKK (a b c:List UInt8) (h1:decide (a≤b)=true) (h2:decide (b≤c)=true):decide (a≤c)=true:=by
 simp only [decide_eq_true_eq] at *
 exact List.le_trans h1 h2
theorem aKL (a b:List UInt8):(decide (a≤b) || decide (b≤a))=true:=by
 simp only [Bool.or_eq_true,decide_eq_true_eq]
 exact List.le_total a b
theorem aC2 {l m:List (List UInt8)} (h:l.Perm m) (hm:m.Pairwise fun x y=>decide (x≤y)=true):(l.mergeSort fun x y=>decide (x≤y))=m:=by
 refine List.Perm.eq_of_pairwise (le:=fun a b=>decide (a≤b)=true) (fun a b _ _ h1 h2=>?_) (List.pairwise_mergeSort aKK aKL l) hm ((List.mergeSort_perm l _).trans h)
 simp only [decide_eq_true_eq] at h1 h2
 exact List.le_antisymm h1 h2
theorem aGN (l:List ByteArray):(dG l).length=l.length:=iU l
theorem o7 {l m:List ByteArray} (h:l.Perm m):dG l=dG m:=by
 unfold dG
 rw [aC2 ((h.map _).trans (List.mergeSort_perm _ _).symm) (List.pairwise_mergeSort aKK aKL _)]
theorem aKS {x y:ByteArray} (h:slt x y=true):decide (x.data.toList≤y.data.toList)=true:=by
 have h:Op.bytesLess x.toList y.toList=true:=h
 rw [zZ,decide_eq_true_eq,ByteArray.toList_eq,ByteArray.toList_eq] at h
 exact decide_eq_true (List.le_of_lt h)
theorem aCB {l:List ByteArray} (h:l.Pairwise fun x y=>slt x y=true):dG l=l:=by
 unfold dG
 rw [aC2 (List.Perm.refl _)]
 ·rw [List.map_map]
  exact List.map_id _
 ·rw [List.pairwise_map]
  exact h.imp aKS
def aFG {A:Type} (o:Ob A) (j:Nat) (s:Nat→Bool):Nat:=((List.range (o.n j)).filter fun x=>!s x).length
section
variable {A:Type} {o:Ob A} {p:ByteArray→Bool} {j:Nat} {s:Nat→Bool}
theorem pT {l:List Nat} (hn:l.Nodup) {x:Nat} (hx:x∈l) (hs:s x=false):(l.filter fun y=>bif Nat.beq y x then true else s y).Perm (x::l.filter s):=by
 induction l with
 | nil=>cases hx
 | cons a l ih =>
  obtain ⟨h1,h2⟩:=List.nodup_cons.1 hn
  by_cases e:a=x
  ·subst e
   have:l.filter (fun y=>bif Nat.beq y a then true else s y)=l.filter s:=List.filter_congr fun y hy=>by
    have:Nat.beq y a=false:=by
     cases hb:Nat.beq y a with
     | true=>exact absurd (Nat.eq_of_beq_eq_true hb ▸ hy) h1
     | false=>rfl
    rw [this]
    rfl
   rw [List.filter_cons_of_pos (by simp),List.filter_cons_of_neg (by simp [hs]),this]
  ·have hx':x∈l:=(List.mem_cons.1 hx).resolve_left fun h=>e h.symm
   have hb:Nat.beq a x=false:=by
    cases hb:Nat.beq a x with
    | true=>exact absurd (Nat.eq_of_beq_eq_true hb) e
    | false=>rfl
   cases ha:s a with
   | true =>
    rw [List.filter_cons_of_pos (by simp [hb,ha]),List.filter_cons_of_pos ha]
    exact ((ih h2 hx').cons a).trans (List.Perm.swap x a _)
   | false =>
    rw [List.filter_cons_of_neg (by simp [hb,ha]),List.filter_cons_of_neg (by simp [ha])]
    exact ih h2 hx'
theorem aFZ {x:Nat} (hx:x < o.n j) (hs:s x=false):aFG o j (fun y=>bif Nat.beq y x then true else s y) < aFG o j s:=by
 unfold aFG
 have h1:=(pT (s:=s) List.nodup_range (List.mem_range.2 hx) hs).length_eq
 have h2:∀ (q:Nat→Bool) (l:List Nat),(l.filter q).length+(l.filter fun x=>!q x).length=l.length:=fun q l=>by
  induction l with
  | nil=>rfl
  | cons a l ih=>cases ha:q a <;> simp [ha] <;> omega
 have h3:=h2 s (List.range (o.n j))
 have h4:=h2 (fun y=>bif Nat.beq y x then true else s y) (List.range (o.n j))
 rw [List.length_cons] at h1
 show (List.filter (fun y=>!bif Nat.beq y x then true else s y) (List.range (o.n j))).length < _
 omega
end
theorem aKT {A:Type} (o:Ob A) (j:Nat):(omk o j).nl j=false:=cN _ _ _
end Go.Abs
