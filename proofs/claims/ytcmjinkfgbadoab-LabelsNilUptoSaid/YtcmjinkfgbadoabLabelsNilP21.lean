/- Functions, and what the code asks of them: PLab. -/
import Derived.KernelRfl
import Derived.Test.YtcmjinkfgbadoabLabelsNilP4
import Derived.Test.YtcmjinkfgbadoabLabelsNilP5
import Derived.Test.YtcmjinkfgbadoabLabelsNilP6
import Derived.Test.YtcmjinkfgbadoabLabelsNilP7
import Derived.Test.YtcmjinkfgbadoabLabelsNilP8
import Derived.Test.YtcmjinkfgbadoabLabelsNilP9
import Derived.Test.YtcmjinkfgbadoabLabelsNilP10
import Derived.Test.YtcmjinkfgbadoabLabelsNilP11
import Derived.Test.YtcmjinkfgbadoabLabelsNilP12
import Derived.Test.YtcmjinkfgbadoabLabelsNilP15
import Derived.Test.YtcmjinkfgbadoabLabelsNilP16
import Derived.Test.YtcmjinkfgbadoabLabelsNilP17
import Derived.Test.YtcmjinkfgbadoabLabelsNilP18
import Derived.Test.YtcmjinkfgbadoabLabelsNilP20
set_option maxRecDepth 100000
set_option maxHeartbeats 4000000
set_option linter.unusedVariables false
set_option linter.unusedSimpArgs false
set_option linter.unusedSectionVars false
namespace Go.Abs
open Go
abbrev Lbs:Type:=List jZ
def bl (o:Ob Lbs) (k:jZ):Bool:=o.nl 1 || o.nl (cd k.1 k.2)
def aMY (_:Unit):Unit:=()
def mU (name:ByteArray) (o:Ob Lbs) (k:jZ):Ob Lbs:=fW o (cd k.1 k.2) (bl o k) name
def cB (a:Ob Lbs×ByteArray):Bool×Ob Lbs :=
 (gY a.1 0 (a.1.nl 0) a.2,fW ((lG a.1 a.2 []).foldl (mU a.2) a.1) 0 (((lG a.1 a.2 []).foldl (mU a.2) a.1).nl 0) a.2)
def o6 (name:ByteArray) (o:Ob Lbs) (k:jZ):Ob Lbs:=dU (bif bl o k then omk o (cd k.1 k.2) else o) (cd k.1 k.2) name
def gF (o:Ob Lbs):Ob Lbs:=bif o.nl 0 then omk (omk o 0) 1 else o
def eT (a:Ob Lbs×ByteArray×Lbs):Ob Lbs:=a.2.2.foldl (o6 a.2.1) (eV (gF (cB (a.1,a.2.1)).2) a.2.1 a.2.2)
def jJ (a:Ob Lbs×ByteArray×Lbs):Bool:=a.2.2.all fun k=>gY a.1 (cd k.1 k.2) (bl a.1 k) a.2.1
def kD (o:Ob Lbs) (k:jZ) (p:ByteArray→Bool):List ByteArray:=bif bl o k then [] else ((List.range (o.n (cd k.1 k.2))).map (o.ks (cd k.1 k.2))).filter p
def gC (a:Ob Lbs×Lbs):List ByteArray:=match a.2 with
 | []=>eB slt (nI a.1 (fun _=>true) 0)
 | k::l=>eB slt (kD a.1 k fun n=>jJ (a.1,n,l))
def wN (a:Ob Lbs):Int:=(aHE a 0 (a.nl 0):Int)
def oL (a:Ob Lbs×ByteArray):Prop:=L20 (lG a.1 a.2 [])
def oC (a:Ob Lbs×ByteArray×Lbs):Prop:=L20 (lG a.1 a.2.1 [])∧L20 a.2.2∧a.1.nl 0=a.1.nl 1
def n7 (a:Ob Lbs×ByteArray×Lbs):Prop:=L20 a.2.2
def jB (a:Ob Lbs×Lbs):Prop:=L20 a.2∧a.2≠[]∧∀ w,(kD a.1 w fun _=>true).length≤1048576
def aL9 (_:ByteArray×Lbs):Unit:=()
def sX (_:ByteArray):Bool:=false
def hP (_:Lbs):List ByteArray:=[]
def sP (_:Unit):Int:=0
def dM (a:Lbs):Lbs:=a
def aKH (l:List (ByteArray×Lbs)) (w:Lbs):List ByteArray:=(l.filter fun x=>sW (x.2,w)).map (·.1)
def dT (l:Lbs):Bool:=decide (l.length≤30)&&(List.range l.length).all fun i=>decide ((l.getD i default).1.size+(l.getD i default).2.size≤1000)
def fY (l:Lbs):Prop:=L20 l∧∀ x∈l,x.1.size+x.2.size≤1048576
def iO (s:List (Int×ByteArray×Lbs)):Bool:=decide (s.length≤200)&&(List.range s.length).all fun i=>decide ((s.getD i default).2.1.size≤1000)&&dT (s.getD i default).2.2
def oQ (s:List (Int×ByteArray×Lbs)):Prop:=L20 s∧∀ x∈s,fY x.2.2
theorem aF6 (x y:ByteArray):100≤cd x y:=by unfold cd; omega
theorem aL4 {w w':jZ} (h:cd w.1 w.2=cd w'.1 w'.2):w=w':=Prod.ext (aFC h).1 (aFC h).2
def Up (o:Ob Lbs):Prop:=o.nl 1=true→∀ x y,o.nl (cd x y)=true
structure RepL (o:Ob Lbs) (l:List (ByteArray×Lbs)):Prop where
 ok:Ook o
 fam:o.nl 0=o.nl 1
 up:Up o
 val:∀ k x,iK o k x↔(k,x)∈l
 set:∀ (w:jZ) k,iI o (cd w.1 w.2) k↔∃ x,(k,x)∈l∧w∈x
 ris:Rising l
theorem aJT {o:Ob Lbs} (h:Up o) (k:jZ):bl o k=o.nl (cd k.1 k.2):=by
 unfold bl
 cases hn:o.nl 1 with
 | true=>rw [h hn]; rfl
 | false=>rfl
theorem aI7 {A:Type} {o:Ob A} (h:Ook o) {j:Nat} {k:ByteArray}:gY o j (o.nl j) k=true↔iI o j k:=by
 unfold gY
 rw [Bool.and_eq_true,decide_eq_true_eq,Bool.not_eq_true']
 constructor
 ·rintro ⟨_,h2⟩
  exact ⟨_,h2,oU _ _ _ h2,rfl⟩
 ·intro hk
  refine ⟨?_,?_⟩
  ·cases hn:o.nl j with
   | true=>exact absurd hk (jE h hn k)
   | false=>rfl
  ·obtain ⟨i,hi,e,_⟩:=hk
   have:=vP (o.ks j) k _ i hi e
   omega
theorem RepL.zero:RepL (ob0 Lbs) []:=⟨⟨fun _ _=>rfl,fun _ i _ hi=>absurd hi (Nat.not_lt_zero _)⟩,rfl,fun _ _ _=>rfl,fun k x=>⟨fun ⟨i,hi,_⟩=>absurd hi (Nat.not_lt_zero _),fun h=>by cases h⟩,
 fun w k=>⟨fun ⟨i,hi,_⟩=>absurd hi (Nat.not_lt_zero _),fun ⟨x,h,_⟩=>by cases h⟩,List.Pairwise.nil⟩
theorem aB0 {A:Type} (o:Ob A) (j:Nat) (b:Bool) (k:ByteArray):(fW o j b k).nl=o.nl:=rfl
theorem aD0 (name:ByteArray):∀ (l:Lbs) {o:Ob Lbs},Ook o→Up o →
  Ook (l.foldl (mU name) o)∧(l.foldl (mU name) o).nl=o.nl∧(∀ j k,iI (l.foldl (mU name) o) j k↔iI o j k∧¬(k=name∧∃ w∈l,j=cd w.1 w.2))∧∀ k x,iK (l.foldl (mU name) o) k x↔iK o k x
 | [],o,h,_=>⟨h,rfl,fun j k=>by simp,fun _ _=>Iff.rfl⟩
 | w::l,o,h,hu=>by
  have e:mU name o w=fW o (cd w.1 w.2) (o.nl (cd w.1 w.2)) name:=by
   unfold mU
   rw [aJT hu]
  have h1:=oF h (cd w.1 w.2) name
  have hu1:Up (fW o (cd w.1 w.2) (o.nl (cd w.1 w.2)) name):=hu
  obtain ⟨g1,g2,g3,g4⟩:=aD0 name l h1 hu1
  rw [List.foldl_cons,e]
  refine ⟨g1,g2,fun j k=>?_,fun k x=>?_⟩
  ·rw [g3,r6 h]
   constructor
   ·rintro ⟨⟨a,b⟩,c⟩
    refine ⟨a,?_⟩
    rintro ⟨rfl,w',hw',rfl⟩
    rcases List.mem_cons.1 hw' with rfl | hw'
    ·exact b ⟨rfl,rfl⟩
    ·exact c ⟨rfl,w',hw',rfl⟩
   ·rintro ⟨a,b⟩
    refine ⟨⟨a,fun ⟨e1,e2⟩=>b ⟨e2,w,List.mem_cons_self,e1⟩⟩,fun ⟨e1,w',hw',e2⟩=>b ⟨e1,w',List.mem_cons_of_mem _ hw',e2⟩⟩
  ·rw [g4,rR h]
   have:=aGQ (x:=w.1) (y:=w.2)
   exact ⟨fun hh=>hh.1,fun hh=>⟨hh,fun e2=>this e2.1⟩⟩
section
variable {o:Ob Lbs} {l:List (ByteArray×Lbs)}
theorem RepL.get (r:RepL o l) (k:ByteArray) (z:Lbs):(lG o k z,gY o 0 (o.nl 0) k)=aE4 l k z:=by
 by_cases h:∃ x,iK o k x
 ·have hh:=(jC r.ok).2 h
  obtain ⟨x,hx⟩:=h
  unfold lG
  rw [hh,aBZ r.ok hx,vH r.ris ((r.val k x).1 hx)]
  rfl
 ·have hh:gY o 0 (o.nl 0) k=false:=by
   rw [← Bool.not_eq_true,jC r.ok]
   exact h
  unfold lG
  rw [hh,y2 fun x hx=>h ⟨x,(r.val k x).2 hx⟩]
  rfl
theorem RepL.gets (r:RepL o l) {k:ByteArray} {x:Lbs} (h:(k,x)∈l):lG o k []=x:=by
 have:=r.get k []
 rw [vH r.ris h] at this
 exact (Prod.mk.inj this).1
theorem RepL.del (r:RepL o l) (k:ByteArray):(cB (o,k)).1=(aE4 l k []).2∧RepL (cB (o,k)).2 (aDP l k):=by
 refine ⟨(Prod.mk.inj (r.get k [])).2,?_⟩
 obtain ⟨g1,g2,g3,g4⟩:=aD0 k (lG o k []) r.ok r.up
 show RepL (fW ((lG o k []).foldl (mU k) o) 0 (((lG o k []).foldl (mU k) o).nl 0) k) _
 refine ⟨oF g1 0 k,?_,?_,fun k' x=>?_,fun w k'=>?_,r.ris.del k⟩
 ·rw [aB0,g2]
  exact r.fam
 ·intro h x y
  rw [aB0,g2] at h ⊢
  exact r.up h x y
 ·rw [rR g1,g4,r.val,eZ]
  simp
 ·rw [r6 g1,g3,r.set]
  simp only [eZ]
  have hb:=aF6 w.1 w.2
  constructor
  ·rintro ⟨⟨⟨x,h1,h2⟩,h3⟩,_⟩
   refine ⟨x,⟨h1,fun e=>h3 ⟨e,w,?_,rfl⟩⟩,h2⟩
   subst e
   rw [r.gets h1]
   exact h2
  ·rintro ⟨x,⟨h1,h2⟩,h3⟩
   exact ⟨⟨⟨x,h1,h3⟩,fun e=>h2 e.1⟩,fun e=>h2 e.2⟩
theorem aLG {o:Ob Lbs} (h:o.nl 0=o.nl 1):gF o=mW (mW o 0) 1:=by
 unfold gF mW
 cases hn:o.nl 0 with
 | true =>
  have:(omk o 0).nl 1=true:=by rw [show (omk o 0).nl 1=o.nl 1 from rfl,← h,hn]
  simp only [cond_true,this]
 | false =>
  rw [hn] at h
  simp only [cond_false,← h]
theorem aBX {o:Ob Lbs} (h:o.nl 0=o.nl 1):(gF o).nl 0=false∧(gF o).nl 1=false:=by
 unfold gF
 cases hn:o.nl 0 with
 | true=>exact ⟨rfl,rfl⟩
 | false=>exact ⟨hn,by rw [cond_false,← h,hn]⟩
theorem RepL.made (r:RepL o l):RepL (gF o) l:=by
 obtain ⟨h1,h2⟩:=aBX r.fam
 refine ⟨?_,by rw [h1,h2],(fun h=>by rw [h2] at h; cases h),?_,?_,r.ris⟩ <;> rw [aLG r.fam]
 ·exact pX (pX r.ok 0) 1
 ·intro k x
  rw [rL (pX r.ok 0),rL r.ok,r.val]
 ·intro w k
  rw [qY (pX r.ok 0),qY r.ok,r.set]
theorem aK3 {o:Ob Lbs} (h:o.nl 1=false) (name:ByteArray) (k:jZ):o6 name o k=dU (mW o (cd k.1 k.2)) (cd k.1 k.2) name:=by
 unfold o6 mW bl
 rw [h,Bool.false_or]
theorem aGL (name:ByteArray):∀ (l:Lbs) {o:Ob Lbs},Ook o→o.nl 1=false →
  Ook (l.foldl (o6 name) o)∧(l.foldl (o6 name) o).nl 1=false∧(l.foldl (o6 name) o).nl 0=o.nl 0∧(∀ j k,iI (l.foldl (o6 name) o) j k↔iI o j k∨(k=name∧∃ w∈l,j=cd w.1 w.2))∧∀ k x,iK (l.foldl (o6 name) o) k x↔iK o k x
 | [],o,h,h1=>⟨h,h1,rfl,fun j k=>by simp,fun _ _=>Iff.rfl⟩
 | w::l,o,h,h1=>by
  have hb:=aF6 w.1 w.2
  have o1:=pX h (cd w.1 w.2)
  have o2:=aGA (k:=name) o1 (aFA o (cd w.1 w.2))
  have hn:∀ j,j < 100→(dU (mW o (cd w.1 w.2)) (cd w.1 w.2) name).nl j=o.nl j:=fun j hj=>by
   show (mW o (cd w.1 w.2)).nl j=_
   unfold mW
   cases o.nl (cd w.1 w.2) with
   | true=>exact dJ _ _ (by omega)
   | false=>rfl
  obtain ⟨g1,g2,g3,g4,g5⟩:=aGL name l o2 ((hn 1 (by omega)).trans h1)
  rw [List.foldl_cons,aK3 h1]
  refine ⟨g1,g2,g3.trans (hn 0 (by omega)),fun j k=>?_,fun k x=>?_⟩
  ·rw [g4,aC8 o1,qY h]
   constructor
   ·rintro ((⟨rfl,rfl⟩ | a) | ⟨rfl,w',hw',rfl⟩)
    ·exact .inr ⟨rfl,w,List.mem_cons_self,rfl⟩
    ·exact .inl a
    ·exact .inr ⟨rfl,w',List.mem_cons_of_mem _ hw',rfl⟩
   ·rintro (a | ⟨rfl,w',hw',rfl⟩)
    ·exact .inl (.inr a)
    ·rcases List.mem_cons.1 hw' with rfl | hw'
     ·exact .inl (.inl ⟨rfl,rfl⟩)
     ·exact .inr ⟨rfl,w',hw',rfl⟩
  ·rw [g5,aCU (by omega),rL h]
theorem RepL.put (r:RepL o l) (k:ByteArray) (x:Lbs):RepL (eT (o,k,x)) (aG5 l k x):=by
 have r1:=(r.del k).2
 have r2:=r1.made
 obtain ⟨n0,n1⟩:=aBX r1.fam
 have o3:=aGS (k:=k) (x:=x) r2.ok n0
 obtain ⟨g1,g2,g3,g4,g5⟩:=aGL k x o3 n1
 refine ⟨g1,?_,fun h=>?_,fun k' y=>?_,fun w k'=>?_,r.ris.put k x⟩
 ·exact g3.trans (n0.trans g2.symm)
 ·have h:(List.foldl (o6 k) (eV (gF (cB (o,k)).2) k x) x).nl 1=true:=h
  rw [g2] at h
  cases h
 ·show iK (List.foldl (o6 k) (eV (gF (cB (o,k)).2) k x) x) k' y↔_
  rw [g5,aEN r2.ok,r2.val,qW,eZ]
  constructor
  ·rintro (h | ⟨h1,h2,_⟩)
   ·exact .inl h
   ·exact .inr ⟨h1,h2⟩
  ·rintro (h | ⟨h1,h2⟩)
   ·exact .inl h
   ·exact .inr ⟨h1,h2,h1⟩
 ·show iI (List.foldl (o6 k) (eV (gF (cB (o,k)).2) k x) x) _ k'↔_
  rw [g4,aDB aGQ,r2.set]
  simp only [qW,eZ]
  constructor
  ·rintro (⟨y,⟨h1,h2⟩,h3⟩ | ⟨rfl,w',hw',e⟩)
   ·exact ⟨y,.inr ⟨h2,h1⟩,h3⟩
   ·rw [aL4 e]
    exact ⟨x,.inl ⟨rfl,rfl⟩,hw'⟩
  ·rintro ⟨y,⟨rfl,rfl⟩ | ⟨h1,h2⟩,h3⟩
   ·exact .inr ⟨rfl,w,h3,rfl⟩
   ·exact .inl ⟨y,⟨h2,h1⟩,h3⟩
theorem xM {x:Lbs} {w:jZ}:aF5 (x,w)=true↔w∈x:=by
 unfold aF5
 rw [List.any_eq_true]
 exact ⟨fun ⟨y,h1,h2⟩=>(show y=w from of_decide_eq_true h2) ▸ h1,fun h=>⟨w,h,decide_eq_true rfl⟩⟩
theorem RepL.one (r:RepL o l) {k:ByteArray} {x:Lbs} (h:(k,x)∈l) (w:jZ):gY o (cd w.1 w.2) (bl o w) k=aF5 (x,w):=by
 rw [aJT r.up,Bool.eq_iff_iff,aI7 r.ok,r.set,xM]
 exact ⟨fun ⟨y,h1,h2⟩=>r.ris.uniq h1 h ▸ h2,fun h1=>⟨x,h,h1⟩⟩
theorem RepL.all (r:RepL o l) {k:ByteArray} {x:Lbs} (h:(k,x)∈l) (w:Lbs):jJ (o,k,w)=sW (x,w):=by
 unfold jJ sW
 induction w with
 | nil=>rfl
 | cons a w ih =>
  rw [List.all_cons,List.all_cons]
  exact congr (congrArg and (r.one h a)) ih
theorem aFX (h:Up o) (k:jZ) (p:ByteArray→Bool):kD o k p=nI o p (cd k.1 k.2):=by
 unfold kD nI
 rw [aJT h]
theorem RepL.perm (r:RepL o l) (k:jZ) (w:Lbs):(kD o k fun n=>jJ (o,n,w)).Perm (aKH l (k::w)):=by
 rw [aFX r.up]
 refine (List.perm_ext_iff_of_nodup (rE r.ok _ _) (Rising.namesN (List.Pairwise.filter _ r.ris))).2 fun n=>?_
 rw [jU r.ok,r.set,List.mem_map]
 constructor
 ·rintro ⟨⟨x,h1,h2⟩,h3⟩
  refine ⟨(n,x),List.mem_filter.2 ⟨h1,?_⟩,rfl⟩
  rw [r.all h1] at h3
  show (aF5 (x,k)&&sW (x,w))=true
  rw [xM.2 h2,h3]
  rfl
 ·rintro ⟨⟨n',x⟩,h,rfl⟩
  obtain ⟨h1,h2⟩:=List.mem_filter.1 h
  have h2:(aF5 (x,k)&&sW (x,w))=true:=h2
  rw [Bool.and_eq_true] at h2
  exact ⟨⟨x,h1,xM.1 h2.1⟩,by rw [r.all h1]; exact h2.2⟩
theorem RepL.num (r:RepL o l):o.n 0=l.length:=by
 have hp:((List.range (o.n 0)).map fun i=>(o.ks 0 i,o.v i)).Perm l:=by
  refine (List.perm_ext_iff_of_nodup (sZ fun i j hi hj e=>r.ok.inj 0 i j hi hj (Prod.mk.inj e).1) r.ris.nodup).2 fun ⟨k,x⟩=>?_
  rw [← r.val,List.mem_map]
  constructor
  ·rintro ⟨i,hi,e⟩
   obtain ⟨e1,e2⟩:=Prod.mk.inj e
   exact ⟨i,List.mem_range.1 hi,e1,e2⟩
  ·rintro ⟨i,hi,e1,e2⟩
   exact ⟨i,List.mem_range.2 hi,by rw [e1,e2]⟩
 simpa using hp.length_eq
theorem RepL.len (r:RepL o l):wN o=(l.length:Int):=by
 rw [← r.num]
 unfold wN aHE
 cases hn:o.nl 0 with
 | true=>rw [r.ok.nil 0 hn]; rfl
 | false=>rfl
theorem RepL.names_le (r:RepL o l) (w:jZ):(kD o w fun _=>true).length≤l.length:=by
 have h:=r.perm w []
 rw [show (fun n=>jJ (o,n,[]))=fun _=>true from rfl] at h
 rw [h.length_eq]
 unfold aKH
 rw [List.length_map]
 exact List.length_filter_le _ _
end
def f144.args (a:Unit):List D:=[]
def f144.blks (a:Unit):List (List D):=[]
def f144.res (a:Unit):List D:=[.newp [.nilm,.nilm]]
def f144.blks' (a:Unit):List (List D):=[]
def f144.C:aP:=FnC f144.args f144.blks (fun _=>True) f144.res f144.blks'
set_option linter.unusedVariables false
def f144.kills (a:Unit):List Hint:=[]
def f144.cuts (a:Unit):List (Nat×Σ β:Type,β→Tm):=[]
def f144.af (a:Unit):AF:=AF.mk (.seq (.region [⟨(some 0),0,.move,[.c (.nilp)],none⟩])
 (.seq (.region [oT 1 1 (.build [.nilm,.nilm] []) [],
 oT 2 2 .box [1],
 mT 0 3 2])
 (.ret)))
 [.tmp 0] 0 3
def f144.env:Env:=[]
def f144.tree (a:Unit):Prop:=(DEqs [.nilm,.nilm] [.nilm,.nilm])∧True
def f144.vc (a:Unit):Prop:=(()=aMY a)
theorem f144.of (a:Unit) (h:f144.vc a):f144.tree a:=⟨(Eq.mp (congrArg (fun x:Unit=>DEqs [.nilm,.nilm] [.nilm,.nilm]) h) (DEqs.refl _)),trivial⟩
theorem f144.eq (a:Unit):(f144.af a).gives f144.env (f144.args a) (f144.blks a) (f144.res a) (f144.blks' a)=f144.tree a:=by kernel_rfl
def f166.ent (K:(List (aC))→Prop) (t:List (aC)):Prop:=∃ c:List (aC),SlQ t.length c.length (gl aF t) (gl aF c) (K c)
theorem f166.ei {K:(List (aC))→Prop} {t:List (aC)} (h:K t):f166.ent K t:=⟨t,slQ (rS aF) (h)⟩
def f166.args (a:List (aC)):List D:=[.slice .ro 2 a.length (gl aF a)]
def f166.blks (a:List (aC)):List (List D):=[]
def f166.res (a:List (aC)):List D:=[.slice .ro 2 ((dM a).length) (gl aF (dM a))]
def f166.blks' (a:List (aC)):List (List D):=[]
def f166.C:aP:=FnC f166.args f166.blks (fun a=>L20 a) f166.res f166.blks'
def f166.kills (a:List (aC)):List Hint:=[]
def f166.cuts (a:List (aC)):List (Nat×Σ β:Type,β→Tm):=[]
def f166.af (a:List (aC)):AF:=AF.mk (.seq (.region [oT 2 0 (.nilSl 2) []])
 (.seq (.seq (.region [mT 3 1 0,
 oT 4 2 (.isNil false false) [3]])
 (.cond (.t 4) (.seq (.region [oT 2 3 (.nilSl 2) []])
 (.ret)) (.skip)))
 (.seq (.region [oT 5 4 (.buildSlice 2 0 [.str ByteArray.empty,.str ByteArray.empty] []) [],
 mT 6 5 0,
 oT 7 6 (.append 2 32) [5,6],
 mT 2 7 7])
 (.ret))))
 [.tmp 2] 0 7
def f166.env:Env:=[]
def f166.tree (a:List (aC)):Prop:=Br (Nat.beq a.length 0) (((0=0)∧SlQ 0 ((dM a).length) gS (gl aF (dM a)) (True))∧((t8 ((0+a.length) * 32))∧(((0+a.length)=(0+a.length))∧SlQ (0+a.length) ((dM a).length) (i9 (fun j=>List.take 2 (List.drop (j * 2) [])) 0 (gl aF a)) (gl aF (dM a)) (True)))) ((t8 ((0+a.length) * 32))∧(((0+a.length)=(0+a.length))∧SlQ (0+a.length) ((dM a).length) (i9 (fun j=>List.take 2 (List.drop (j * 2) [])) 0 (gl aF a)) (gl aF (dM a)) (True)))
def f166.vc (a:List (aC)):Prop:=((a.length=0→(([]=dM a)∧(0+a.length≤1073741824∧(([])++a=dM a))))∧(¬(a.length=0)→(0+a.length≤1073741824∧(([])++a=dM a))))
theorem f166.of (a:List (aC)) (h:f166.vc a):f166.tree a:=br h Cnd.beq (fun h1 k6=>⟨⟨rfl,slQ (Rds.to (Rds.nil (enc:=aF)) k6.1) (trivial)⟩,⟨(aBE k6.2.1 (by decide)),⟨rfl,slQ (Rds.to (Rds.app (enc:=aF) (Rds.nil (enc:=aF)) (rS aF)) k6.2.2) (trivial)⟩⟩⟩) (fun h2 k7=>⟨(aBE k7.1 (by decide)),⟨rfl,slQ (Rds.to (Rds.app (enc:=aF) (Rds.nil (enc:=aF)) (rS aF)) k7.2) (trivial)⟩⟩)
theorem f166.eq (a:List (aC)):(f166.af a).gives f166.env (f166.args a) (f166.blks a) (f166.res a) (f166.blks' a)=f166.tree a:=by kernel_rfl
def f165.args (a:(Ob (List (aC)))×ByteArray):List D:=[.ptr 0 0,.str a.2]
def f165.blks (a:(Ob (List (aC)))×ByteArray):List (List D):=[[.dead,.obj 202 0 1 a.1.nl a.1.n a.1.ks (ovs aD a.1)]]
def f165.res (a:(Ob (List (aC)))×ByteArray):List D:=[.bool ((cB a).1)]
def f165.blks' (a:(Ob (List (aC)))×ByteArray):List (List D):=[[.dead,.obj 202 1 1 ((cB a).2).nl ((cB a).2).n ((cB a).2).ks (ovs aD ((cB a).2))]]
def f165.C:aP:=FnC f165.args f165.blks (fun a=>oL a) f165.res f165.blks'
def f165.S0 (a:(Ob (List (aC)))×ByteArray) (x:Bool×(List (aC))×Int×Int×(Nat×Ob (List (aC)))):Tm:=⟨.ptr 0 0::.str a.2::.dead::.dead::.dead::.dead::.bool x.1::dd 13 (.slice .ro 2 x.2.1.length (gl aF x.2.1)::.int .i64 x.2.2.1::.int .i64 x.2.2.2.1::dd 17 []),[(0,false,[.dead,.obj 202 x.2.2.2.2.1 1 x.2.2.2.2.2.nl x.2.2.2.2.2.n x.2.2.2.2.2.ks (ovs aD x.2.2.2.2.2)])],[]⟩
def f165.kills (a:(Ob (List (aC)))×ByteArray):List Hint:=[.tell (Bool×(List (aC))×Int×Int×(Nat×Ob (List (aC)))) (f165.S0 a)]
def f165.cuts (a:(Ob (List (aC)))×ByteArray):List (Nat×Σ β:Type,β→Tm):=[(100004,⟨(List (aC))×Bool,fun x=>⟨.ptr 0 0::.str a.2::.dead::.dead::.dead::.slice .ro 2 x.1.length (gl aF x.1)::.bool x.2::dd 33 [],[(0,false,[.dead,.obj 202 0 1 a.1.nl a.1.n a.1.ks (ovs aD a.1)])],[]⟩⟩)]
def f165.af (a:(Ob (List (aC)))×ByteArray):AF:=AF.mk (.seq (.region [⟨(some 4),1,.move,[.c (.bool false)],none⟩])
 (.seq (.seq (.region [mT 9 2 0,
 oT 10 3 (.isNil true false) [9]])
 (.cond (.t 10) (.seq (.region [⟨(some 4),4,.move,[.c (.bool false)],none⟩])
 (.ret)) (.skip)))
 (.joinT ((List (aC))×Bool) (fun x=>⟨.ptr 0 0::.str a.2::.dead::.dead::.dead::.slice .ro 2 x.1.length (gl aF x.1)::.bool x.2::dd 33 [],[(0,false,[.dead,.obj 202 0 1 a.1.nl a.1.n a.1.ks (ovs aD a.1)])],[]⟩) (.region [mT 12 5 0,
 oT 13 6 .nilCheck [12],
 oT 14 7 (.fieldAddr 0) [13],
 oT 15 8 (.load false 1) [14],
 mT 16 9 1,
 oT 17 10 (.mapGet true false [.slice .full 2 0 gS]) [15,16],
 mT 11 11 17,
 oT 18 12 (.extract 0) [11],
 oT 19 13 (.extract 1) [11],
 mT 5 14 18,
 mT 6 15 19])
 (.seq (.seq (.region [mT 20 16 5,
 oT 21 17 (.len false) [20],
 ⟨(some 22),18,.move,[.c (.int .i64 (0))],none⟩])
 (.block 0 (.loopT (Bool×(List (aC))×Int×Int×(Nat×Ob (List (aC)))) (f165.S0 a) 19 36 (.seq (.region [oT 23 19 (.bin .lss) [22,21]])
 (.seq (.cond (.t 23) (.skip) (.exit 0))
 (.seq (.block 1 (.seq (.region [oT 24 20 (.indexAddr 2 none) [20,22],
 oT 25 21 (.load true 2) [24],
 oT 8 22 (.alloc [.str ByteArray.empty,.str ByteArray.empty]) [],
 ⟨none,25,(.store 2),[.t 8,.t 25],none⟩])
 (.region [mT 26 26 0,
 oT 27 27 .nilCheck [26],
 oT 28 28 (.fieldAddr 1) [27],
 oT 29 29 (.load false 1) [28],
 oT 30 30 (.load true 2) [8],
 oT 31 31 .famGet [29,30],
 mT 32 32 1,
 ⟨none,33,.mapDel,[.t 31,.t 32],none⟩])))
 (.region [⟨(some 33),34,(.bin .add),[.t 22,.c (.int .i64 (1))],none⟩,
 mT 22 35 33])))))))
 (.seq (.region [mT 34 36 0,
 oT 35 37 .nilCheck [34],
 oT 36 38 (.fieldAddr 0) [35],
 oT 37 39 (.load false 1) [36],
 mT 38 40 1,
 ⟨none,41,.mapDel,[.t 37,.t 38],none⟩])
 (.seq (.region [mT 39 42 6,
 mT 4 43 39])
 (.ret)))))))
 [.tmp 4] 1 38
def f165.env:Env:=[]
def f165.tree (a:(Ob (List (aC)))×ByteArray):Prop:=∃ I1:((List (aC))×Bool)→Prop,(Br (gY a.1 0 (a.1.nl 0) a.2) (∃ x4:(List (aC))×Bool,(a.2=a.2)∧SlQ ((oat a.1 a.2).length) x4.1.length (gl aF (oat a.1 a.2)) (gl aF x4.1) ((true=x4.2)∧ObQ 0 0 a.1.nl a.1.nl a.1.n a.1.n a.1.ks a.1.ks (ovs aD a.1) (ovs aD a.1) (I1 x4))) (∃ x5:(List (aC))×Bool,(a.2=a.2)∧SlQ 0 x5.1.length gS (gl aF x5.1) ((false=x5.2)∧ObQ 0 0 a.1.nl a.1.nl a.1.n a.1.n a.1.ks a.1.ks (ovs aD a.1) (ovs aD a.1) (I1 x5))))∧∀ y8:(List (aC))×Bool,I1 y8→(∃ (I12:(Bool×(List (aC))×Int×Int×(Nat×Ob (List (aC))))→Prop) (μ13:(Bool×(List (aC))×Int×Int×(Nat×Ob (List (aC))))→Nat),(∃ x11:Bool×(List (aC))×Int×Int×(Nat×Ob (List (aC))),(a.2=a.2)∧(y8.2=x11.1)∧SlQ y8.1.length x11.2.1.length (gl aF y8.1) (gl aF x11.2.1) (((y8.1.length:Int)=x11.2.2.1)∧((0:Int)=x11.2.2.2.1)∧ObQ 0 x11.2.2.2.2.1 a.1.nl x11.2.2.2.2.2.nl a.1.n x11.2.2.2.2.2.n a.1.ks x11.2.2.2.2.2.ks (ovs aD a.1) (ovs aD x11.2.2.2.2.2) (I12 x11)))∧∀ y14:Bool×(List (aC))×Int×Int×(Nat×Ob (List (aC))),I12 y14→(Br (decide (y14.2.2.2.1 < y14.2.2.1)) (Br (decide ((0:Int)≤y14.2.2.2.1)&&decide (y14.2.2.2.1 < (y14.2.1.length:Int))) (Let (wI (y14.2.2.2.1+(1:Int))) (fun v18:Int=>∃ x19:Bool×(List (aC))×Int×Int×(Nat×Ob (List (aC))),(a.2=a.2)∧(y14.1=x19.1)∧SlQ y14.2.1.length x19.2.1.length (gl aF y14.2.1) (gl aF x19.2.1) ((y14.2.2.1=x19.2.2.1)∧(v18=x19.2.2.2.1)∧ObQ (y14.2.2.2.2.1+1) x19.2.2.2.2.1 (fW y14.2.2.2.2.2 (cd ((at_ y14.2.1 y14.2.2.2.1).1) ((at_ y14.2.1 y14.2.2.2.1).2)) ((y14.2.2.2.2.2.nl 1) || y14.2.2.2.2.2.nl (cd ((at_ y14.2.1 y14.2.2.2.1).1) ((at_ y14.2.1 y14.2.2.2.1).2))) a.2).nl x19.2.2.2.2.2.nl (fW y14.2.2.2.2.2 (cd ((at_ y14.2.1 y14.2.2.2.1).1) ((at_ y14.2.1 y14.2.2.2.1).2)) ((y14.2.2.2.2.2.nl 1) || y14.2.2.2.2.2.nl (cd ((at_ y14.2.1 y14.2.2.2.1).1) ((at_ y14.2.1 y14.2.2.2.1).2))) a.2).n x19.2.2.2.2.2.n (fW y14.2.2.2.2.2 (cd ((at_ y14.2.1 y14.2.2.2.1).1) ((at_ y14.2.1 y14.2.2.2.1).2)) ((y14.2.2.2.2.2.nl 1) || y14.2.2.2.2.2.nl (cd ((at_ y14.2.1 y14.2.2.2.1).1) ((at_ y14.2.1 y14.2.2.2.1).2))) a.2).ks x19.2.2.2.2.2.ks (bif ((y14.2.2.2.2.2.nl 1) || y14.2.2.2.2.2.nl (cd ((at_ y14.2.1 y14.2.2.2.1).1) ((at_ y14.2.1 y14.2.2.2.1).2))) then (ovs aD y14.2.2.2.2.2) else fset (ovs aD y14.2.2.2.2.2) (cd ((at_ y14.2.1 y14.2.2.2.1).1) ((at_ y14.2.1 y14.2.2.2.1).2)) (eF ((ovs aD y14.2.2.2.2.2) (cd ((at_ y14.2.1 y14.2.2.2.1).1) ((at_ y14.2.1 y14.2.2.2.1).2))) (mpF (y14.2.2.2.2.2.ks (cd ((at_ y14.2.1 y14.2.2.2.1).1) ((at_ y14.2.1 y14.2.2.2.1).2))) a.2 (y14.2.2.2.2.2.n (cd ((at_ y14.2.1 y14.2.2.2.1).1) ((at_ y14.2.1 y14.2.2.2.1).2)))))) (ovs aD x19.2.2.2.2.2) (I12 x19∧μ13 x19 < μ13 y14)))) False) ((y14.1=((cB a).1))∧ObQ 1 1 (fW y14.2.2.2.2.2 0 (y14.2.2.2.2.2.nl 0) a.2).nl ((cB a).2).nl (fW y14.2.2.2.2.2 0 (y14.2.2.2.2.2.nl 0) a.2).n ((cB a).2).n (fW y14.2.2.2.2.2 0 (y14.2.2.2.2.2.nl 0) a.2).ks ((cB a).2).ks (bif (y14.2.2.2.2.2.nl 0) then (ovs aD y14.2.2.2.2.2) else fset (ovs aD y14.2.2.2.2.2) 0 (eF ((ovs aD y14.2.2.2.2.2) 0) (mpF (y14.2.2.2.2.2.ks 0) a.2 (y14.2.2.2.2.2.n 0)))) (ovs aD ((cB a).2)) (True))))
def f165.vc (a:(Ob (List (aC)))×ByteArray):Prop:=(∃ I1:((List (aC))×Bool)→Prop,(((gY a.1 0 (a.1.nl 0) a.2=true→(I1 (oat a.1 a.2,true)))∧(¬(gY a.1 0 (a.1.nl 0) a.2=true)→(I1 ([],false)))))∧∀ y8:(List (aC))×Bool,I1 y8→(∃ (I12:(Bool×(List (aC))×Int×Int×(Nat×Ob (List (aC))))→Prop) (μ13:(Bool×(List (aC))×Int×Int×(Nat×Ob (List (aC))))→Nat),I12 (y8.2,y8.1,(y8.1.length:Int),(0:Int),(0,a.1))∧∀ y14:Bool×(List (aC))×Int×Int×(Nat×Ob (List (aC))),I12 y14→((y14.2.2.2.1 < y14.2.2.1→((0:Int)≤y14.2.2.2.1∧y14.2.2.2.1 < (y14.2.1.length:Int)∧(-9223372036854775808≤(y14.2.2.2.1+(1:Int))∧(y14.2.2.2.1+(1:Int))≤9223372036854775807∧(I12 (y14.1,y14.2.1,y14.2.2.1,(y14.2.2.2.1+(1:Int)),(y14.2.2.2.2.1+1,fW y14.2.2.2.2.2 (cd ((at_ y14.2.1 y14.2.2.2.1).1) ((at_ y14.2.1 y14.2.2.2.1).2)) ((y14.2.2.2.2.2.nl 1) || y14.2.2.2.2.2.nl (cd ((at_ y14.2.1 y14.2.2.2.1).1) ((at_ y14.2.1 y14.2.2.2.1).2))) a.2))∧μ13 (y14.1,y14.2.1,y14.2.2.1,(y14.2.2.2.1+(1:Int)),(y14.2.2.2.2.1+1,fW y14.2.2.2.2.2 (cd ((at_ y14.2.1 y14.2.2.2.1).1) ((at_ y14.2.1 y14.2.2.2.1).2)) ((y14.2.2.2.2.2.nl 1) || y14.2.2.2.2.2.nl (cd ((at_ y14.2.1 y14.2.2.2.1).1) ((at_ y14.2.1 y14.2.2.2.1).2))) a.2)) < μ13 y14))))∧(¬(y14.2.2.2.1 < y14.2.2.1)→((y14.1,fW y14.2.2.2.2.2 0 (y14.2.2.2.2.2.nl 0) a.2)=cB a)))))
theorem f165.of (a:(Ob (List (aC)))×ByteArray) (h:f165.vc a):f165.tree a:=Exists.elim h (fun I1 h10=>⟨I1,br h10.1 Cnd.b (fun h2 k6=>⟨(oat a.1 a.2,true),⟨rfl,slQ (rS aF) (⟨rfl,obQ rfl (OV.self (e:=aD)) rfl (k6)⟩)⟩⟩) (fun h3 k7=>⟨([],false),⟨rfl,slQ (Rds.nil (enc:=aF)) (⟨rfl,obQ rfl (OV.self (e:=aD)) rfl (k7)⟩)⟩⟩),fun y8 h9=>Exists.elim (h10.2 y8 h9) (fun I12 h28_=>Exists.elim h28_ (fun μ13 h28=>⟨I12,μ13,⟨(y8.2,y8.1,(y8.1.length:Int),(0:Int),(0,a.1)),⟨rfl,⟨rfl,slQ (rS aF) (⟨rfl,⟨rfl,obQ rfl (OV.self (e:=aD)) rfl (h28.1)⟩⟩)⟩⟩⟩,fun y14 h30=>br (h28.2 y14 h30) Cnd.dec (fun h15 k26=>chk k26.2.2 Cnd.ix ⟨k26.1,k26.2.1⟩ (fun h17 k24=>wrapK.i64 k24 (fun h21 h22 k23=>⟨(y14.1,y14.2.1,y14.2.2.1,(y14.2.2.2.1+(1:Int)),(y14.2.2.2.2.1+1,fW y14.2.2.2.2.2 (cd ((at_ y14.2.1 y14.2.2.2.1).1) ((at_ y14.2.1 y14.2.2.2.1).2)) ((y14.2.2.2.2.2.nl 1) || y14.2.2.2.2.2.nl (cd ((at_ y14.2.1 y14.2.2.2.1).1) ((at_ y14.2.1 y14.2.2.2.1).2))) a.2)),⟨rfl,⟨rfl,slQ (rS aF) (⟨rfl,⟨rfl,obQ rfl (OV.del (OV.self (e:=aD))) rfl (k23)⟩⟩)⟩⟩⟩))) (fun h16 k27=>⟨(congrArg (fun x:Bool×(Ob (List (aC)))=>x.1) k27 :),obQ rfl (OV.del (OV.self (e:=aD))) (congrArg (fun x:Bool×(Ob (List (aC)))=>x.2) k27 :) (trivial)⟩)⟩))⟩)
theorem f165.eq (a:(Ob (List (aC)))×ByteArray):(f165.af a).gives f165.env (f165.args a) (f165.blks a) (f165.res a) (f165.blks' a)=f165.tree a:=by kernel_rfl
def f146.args (a:(Ob (List (aC)))×ByteArray×(List (aC))):List D:=[.ptr 0 0,.str a.2.1,.slice .ro 2 a.2.2.length (gl aF a.2.2)]
def f146.blks (a:(Ob (List (aC)))×ByteArray×(List (aC))):List (List D):=[[.dead,.obj 202 0 1 a.1.nl a.1.n a.1.ks (ovs aD a.1)]]
def f146.res (a:(Ob (List (aC)))×ByteArray×(List (aC))):List D:=[]
def f146.blks' (a:(Ob (List (aC)))×ByteArray×(List (aC))):List (List D):=[[.dead,.obj 202 1 1 (eT a).nl (eT a).n (eT a).ks (ovs aD (eT a))]]
def f146.C:aP:=FnC f146.args f146.blks (fun a=>oC a) f146.res f146.blks'
def f146.S0 (a:(Ob (List (aC)))×ByteArray×(List (aC))) (x:Int×(Nat×Ob (List (aC)))):Tm:=⟨.ptr 0 0::.str a.2.1::dd 31 (.slice .ro 2 a.2.2.length (gl aF a.2.2)::.int .i64 (a.2.2.length:Int)::.int .i64 x.1::dd 25 []),[(0,false,[.dead,.obj 202 x.2.1 1 x.2.2.nl x.2.2.n x.2.2.ks (ovs aD x.2.2)])],[]⟩
def f146.kills (a:(Ob (List (aC)))×ByteArray×(List (aC))):List Hint:=[.tell (Int×(Nat×Ob (List (aC)))) (f146.S0 a)]
def f146.cuts (a:(Ob (List (aC)))×ByteArray×(List (aC))):List (Nat×Σ β:Type,β→Tm):=[(100003,⟨Nat×Ob (List (aC)),fun x=>⟨.ptr 0 0::.str a.2.1::.slice .ro 2 a.2.2.length (gl aF a.2.2)::dd 58 [],[(0,false,[.dead,.obj 202 x.1 1 x.2.nl x.2.n x.2.ks (ovs aD x.2)])],[]⟩⟩)]
def f146.af (a:(Ob (List (aC)))×ByteArray×(List (aC))):AF:=AF.mk (.seq (.seq (.region [mT 8 1 0,
 oT 9 2 (.isNil true false) [8]])
 (.cond (.t 9) (.ret) (.skip)))
 (.seq (.region [mT 10 3 0,
 mT 11 4 1,
 oT 12 5 (.call true 165) [10,11]])
 (.joinT (Nat×Ob (List (aC))) (fun x=>⟨.ptr 0 0::.str a.2.1::.slice .ro 2 a.2.2.length (gl aF a.2.2)::dd 58 [],[(0,false,[.dead,.obj 202 x.1 1 x.2.nl x.2.n x.2.ks (ovs aD x.2)])],[]⟩) (.seq (.region [mT 13 9 0,
 oT 14 10 .nilCheck [13],
 oT 15 11 (.fieldAddr 0) [14],
 oT 16 12 (.load false 1) [15],
 oT 17 13 (.isNilM false) [16]])
 (.cond (.t 17) (.region [mT 18 14 0,
 mT 19 15 0,
 oT 20 16 (.mkMap false true) [],
 oT 21 17 (.mkMap false false) [],
 oT 22 18 .nilCheck [18],
 oT 23 19 (.fieldAddr 0) [22],
 ⟨none,20,(.store 1),[.t 23,.t 20],none⟩,
 oT 24 21 .nilCheck [19],
 oT 25 22 (.fieldAddr 1) [24],
 ⟨none,23,(.store 1),[.t 25,.t 21],none⟩]) (.skip)))
 (.seq (.region [mT 26 24 0,
 oT 27 25 .nilCheck [26],
 oT 28 26 (.fieldAddr 0) [27],
 oT 29 27 (.load false 1) [28],
 mT 30 28 1,
 mT 31 29 2,
 oT 32 30 (.call false 166) [31],
 ⟨none,34,.mapSet,[.t 29,.t 30,.t 32],none⟩])
 (.seq (.region [mT 33 35 2,
 oT 34 36 (.len false) [33],
 ⟨(some 35),37,.move,[.c (.int .i64 (0))],none⟩])
 (.block 0 (.loopT (Int×(Nat×Ob (List (aC)))) (f146.S0 a) 38 70 (.seq (.region [oT 36 38 (.bin .lss) [35,34]])
 (.seq (.cond (.t 36) (.skip) (.exit 0))
 (.seq (.block 1 (.seq (.region [oT 37 39 (.indexAddr 2 none) [33,35],
 oT 38 40 (.load true 2) [37],
 oT 7 41 (.alloc [.str ByteArray.empty,.str ByteArray.empty]) [],
 ⟨none,44,(.store 2),[.t 7,.t 38],none⟩])
 (.seq (.seq (.region [mT 39 45 0,
 oT 40 46 .nilCheck [39],
 oT 41 47 (.fieldAddr 1) [40],
 oT 42 48 (.load false 1) [41],
 oT 43 49 (.load true 2) [7],
 oT 44 50 .famGet [42,43],
 oT 45 51 (.isNilM false) [44]])
 (.cond (.t 45) (.region [mT 46 52 0,
 oT 47 53 .nilCheck [46],
 oT 48 54 (.fieldAddr 1) [47],
 oT 49 55 (.load false 1) [48],
 oT 50 56 (.load true 2) [7],
 oT 51 57 (.mkMap true false) [],
 ⟨none,58,.famSet,[.t 49,.t 50,.t 51],none⟩]) (.skip)))
 (.region [mT 52 59 0,
 oT 53 60 .nilCheck [52],
 oT 54 61 (.fieldAddr 1) [53],
 oT 55 62 (.load false 1) [54],
 oT 56 63 (.load true 2) [7],
 oT 57 64 .famGet [55,56],
 mT 58 65 1,
 oT 59 66 (.build [] []) [],
 ⟨none,67,.mapSet,[.t 57,.t 58,.t 59],none⟩]))))
 (.region [⟨(some 60),68,(.bin .add),[.t 35,.c (.int .i64 (1))],none⟩,
 mT 35 69 60])))))))))))
 [] 1 58
def f146.env:Env:=[(165,f165.C),(166,f166.C)]
def f146.tree (a:(Ob (List (aC)))×ByteArray×(List (aC))):Prop:=∃ c1:(Ob (List (aC)))×ByteArray,(a.2.1=c1.2)∧ObQ 0 0 a.1.nl c1.1.nl a.1.n c1.1.n a.1.ks c1.1.ks (ovs aD a.1) (ovs aD c1.1) ((oL c1)∧∃ I2:(Nat×Ob (List (aC)))→Prop,(Br (((cB c1).2).nl 0) (Br (true&&((cB c1).2).nl 0&&true) (Br (true&&(omk ((cB c1).2) 0).nl 1&&true) (∃ x7:Nat×Ob (List (aC)),(a.2.1=a.2.1)∧SlS aF a.2.2 (ObQ 3 x7.1 (omk (omk ((cB c1).2) 0) 1).nl x7.2.nl (omk (omk ((cB c1).2) 0) 1).n x7.2.n (omk (omk ((cB c1).2) 0) 1).ks x7.2.ks (ovs aD ((cB c1).2)) (ovs aD x7.2) (I2 x7))) False) False) (∃ x10:Nat×Ob (List (aC)),(a.2.1=a.2.1)∧SlS aF a.2.2 (ObQ 1 x10.1 ((cB c1).2).nl x10.2.nl ((cB c1).2).n x10.2.n ((cB c1).2).ks x10.2.ks (ovs aD ((cB c1).2)) (ovs aD x10.2) (I2 x10))))∧∀ y13:Nat×Ob (List (aC)),I2 y13→(f166.ent (fun c16=>(L20 c16)∧Br (!(y13.2.nl 0)&&true) (∃ (I19:(Int×(Nat×Ob (List (aC))))→Prop) (μ20:(Int×(Nat×Ob (List (aC))))→Nat),(∃ x18:Int×(Nat×Ob (List (aC))),(a.2.1=a.2.1)∧SlS aF a.2.2 (((a.2.2.length:Int)=(a.2.2.length:Int))∧((0:Int)=x18.1)∧ObQ (y13.1+1) x18.2.1 (eV y13.2 a.2.1 (dM c16)).nl x18.2.2.nl (eV y13.2 a.2.1 (dM c16)).n x18.2.2.n (eV y13.2 a.2.1 (dM c16)).ks x18.2.2.ks (fset (ovs aD y13.2) 0 (gJ (y13.2.ks 0) ((ovs aD y13.2) 0) a.2.1 [.slice .ro 2 ((dM c16).length) (gl aF (dM c16))] (y13.2.n 0))) (ovs aD x18.2.2) (I19 x18)))∧∀ y21:Int×(Nat×Ob (List (aC))),I19 y21→(Br (decide (y21.1 < (a.2.2.length:Int))) (Br (decide ((0:Int)≤y21.1)&&decide (y21.1 < (a.2.2.length:Int))) (Br ((y21.2.2.nl 1) || y21.2.2.nl (cd ((at_ a.2.2 y21.1).1) ((at_ a.2.2 y21.1).2))) (Br (!(y21.2.2.nl 1)&&y21.2.2.nl (cd ((at_ a.2.2 y21.1).1) ((at_ a.2.2 y21.1).2))&&true) (Br (!(((omk y21.2.2 (cd ((at_ a.2.2 y21.1).1) ((at_ a.2.2 y21.1).2))).nl 1) || (omk y21.2.2 (cd ((at_ a.2.2 y21.1).1) ((at_ a.2.2 y21.1).2))).nl (cd ((at_ a.2.2 y21.1).1) ((at_ a.2.2 y21.1).2)))&&true) (Let (wI (y21.1+(1:Int))) (fun v29:Int=>∃ x30:Int×(Nat×Ob (List (aC))),(a.2.1=a.2.1)∧SlS aF a.2.2 (((a.2.2.length:Int)=(a.2.2.length:Int))∧(v29=x30.1)∧ObQ ((y21.2.1+1)+1) x30.2.1 (dU (omk y21.2.2 (cd ((at_ a.2.2 y21.1).1) ((at_ a.2.2 y21.1).2))) (cd ((at_ a.2.2 y21.1).1) ((at_ a.2.2 y21.1).2)) a.2.1).nl x30.2.2.nl (dU (omk y21.2.2 (cd ((at_ a.2.2 y21.1).1) ((at_ a.2.2 y21.1).2))) (cd ((at_ a.2.2 y21.1).1) ((at_ a.2.2 y21.1).2)) a.2.1).n x30.2.2.n (dU (omk y21.2.2 (cd ((at_ a.2.2 y21.1).1) ((at_ a.2.2 y21.1).2))) (cd ((at_ a.2.2 y21.1).1) ((at_ a.2.2 y21.1).2)) a.2.1).ks x30.2.2.ks (fset (ovs aD y21.2.2) (cd ((at_ a.2.2 y21.1).1) ((at_ a.2.2 y21.1).2)) (gJ ((omk y21.2.2 (cd ((at_ a.2.2 y21.1).1) ((at_ a.2.2 y21.1).2))).ks (cd ((at_ a.2.2 y21.1).1) ((at_ a.2.2 y21.1).2))) ((ovs aD y21.2.2) (cd ((at_ a.2.2 y21.1).1) ((at_ a.2.2 y21.1).2))) a.2.1 [] ((omk y21.2.2 (cd ((at_ a.2.2 y21.1).1) ((at_ a.2.2 y21.1).2))).n (cd ((at_ a.2.2 y21.1).1) ((at_ a.2.2 y21.1).2))))) (ovs aD x30.2.2) (I19 x30∧μ20 x30 < μ20 y21)))) False) False) (Br (!((y21.2.2.nl 1) || y21.2.2.nl (cd ((at_ a.2.2 y21.1).1) ((at_ a.2.2 y21.1).2)))&&true) (Let (wI (y21.1+(1:Int))) (fun v38:Int=>∃ x39:Int×(Nat×Ob (List (aC))),(a.2.1=a.2.1)∧SlS aF a.2.2 (((a.2.2.length:Int)=(a.2.2.length:Int))∧(v38=x39.1)∧ObQ (y21.2.1+1) x39.2.1 (dU y21.2.2 (cd ((at_ a.2.2 y21.1).1) ((at_ a.2.2 y21.1).2)) a.2.1).nl x39.2.2.nl (dU y21.2.2 (cd ((at_ a.2.2 y21.1).1) ((at_ a.2.2 y21.1).2)) a.2.1).n x39.2.2.n (dU y21.2.2 (cd ((at_ a.2.2 y21.1).1) ((at_ a.2.2 y21.1).2)) a.2.1).ks x39.2.2.ks (fset (ovs aD y21.2.2) (cd ((at_ a.2.2 y21.1).1) ((at_ a.2.2 y21.1).2)) (gJ (y21.2.2.ks (cd ((at_ a.2.2 y21.1).1) ((at_ a.2.2 y21.1).2))) ((ovs aD y21.2.2) (cd ((at_ a.2.2 y21.1).1) ((at_ a.2.2 y21.1).2))) a.2.1 [] (y21.2.2.n (cd ((at_ a.2.2 y21.1).1) ((at_ a.2.2 y21.1).2))))) (ovs aD x39.2.2) (I19 x39∧μ20 x39 < μ20 y21)))) False)) False) (ObQ 1 1 y21.2.2.nl (eT a).nl y21.2.2.n (eT a).n y21.2.2.ks (eT a).ks (ovs aD y21.2.2) (ovs aD (eT a)) (True)))) False) a.2.2))
def f146.vc (a:(Ob (List (aC)))×ByteArray×(List (aC))):Prop:=(oL (a.1,a.2.1)∧(∃ I2:(Nat×Ob (List (aC)))→Prop,((((((cB (a.1,a.2.1)).2).nl 0)=true→((((cB (a.1,a.2.1)).2).nl 0=true)∧(((omk ((cB (a.1,a.2.1)).2) 0).nl 1=true)∧(I2 (3,omk (omk ((cB (a.1,a.2.1)).2) 0) 1)))))∧(¬((((cB (a.1,a.2.1)).2).nl 0)=true)→(I2 (1,(cB (a.1,a.2.1)).2)))))∧∀ y13:Nat×Ob (List (aC)),I2 y13→(L20 a.2.2∧(((y13.2.nl 0)=false)∧(∃ (I19:(Int×(Nat×Ob (List (aC))))→Prop) (μ20:(Int×(Nat×Ob (List (aC))))→Nat),I19 ((0:Int),(y13.1+1,eV y13.2 a.2.1 (dM (a.2.2))))∧∀ y21:Int×(Nat×Ob (List (aC))),I19 y21→((y21.1 < (a.2.2.length:Int)→((0:Int)≤y21.1∧y21.1 < (a.2.2.length:Int)∧((((y21.2.2.nl 1) || y21.2.2.nl (cd ((at_ a.2.2 y21.1).1) ((at_ a.2.2 y21.1).2)))=true→(((y21.2.2.nl 1)=false∧y21.2.2.nl (cd ((at_ a.2.2 y21.1).1) ((at_ a.2.2 y21.1).2))=true)∧(((((omk y21.2.2 (cd ((at_ a.2.2 y21.1).1) ((at_ a.2.2 y21.1).2))).nl 1) || (omk y21.2.2 (cd ((at_ a.2.2 y21.1).1) ((at_ a.2.2 y21.1).2))).nl (cd ((at_ a.2.2 y21.1).1) ((at_ a.2.2 y21.1).2)))=false)∧(-9223372036854775808≤(y21.1+(1:Int))∧(y21.1+(1:Int))≤9223372036854775807∧(I19 ((y21.1+(1:Int)),((y21.2.1+1)+1,dU (omk y21.2.2 (cd ((at_ a.2.2 y21.1).1) ((at_ a.2.2 y21.1).2))) (cd ((at_ a.2.2 y21.1).1) ((at_ a.2.2 y21.1).2)) a.2.1))∧μ20 ((y21.1+(1:Int)),((y21.2.1+1)+1,dU (omk y21.2.2 (cd ((at_ a.2.2 y21.1).1) ((at_ a.2.2 y21.1).2))) (cd ((at_ a.2.2 y21.1).1) ((at_ a.2.2 y21.1).2)) a.2.1)) < μ20 y21)))))∧(¬(((y21.2.2.nl 1) || y21.2.2.nl (cd ((at_ a.2.2 y21.1).1) ((at_ a.2.2 y21.1).2)))=true)→((((y21.2.2.nl 1) || y21.2.2.nl (cd ((at_ a.2.2 y21.1).1) ((at_ a.2.2 y21.1).2)))=false)∧(-9223372036854775808≤(y21.1+(1:Int))∧(y21.1+(1:Int))≤9223372036854775807∧(I19 ((y21.1+(1:Int)),(y21.2.1+1,dU y21.2.2 (cd ((at_ a.2.2 y21.1).1) ((at_ a.2.2 y21.1).2)) a.2.1))∧μ20 ((y21.1+(1:Int)),(y21.2.1+1,dU y21.2.2 (cd ((at_ a.2.2 y21.1).1) ((at_ a.2.2 y21.1).2)) a.2.1)) < μ20 y21)))))))∧(¬(y21.1 < (a.2.2.length:Int))→(y21.2.2=eT a))))))))
theorem f146.of (a:(Ob (List (aC)))×ByteArray×(List (aC))) (h:f146.vc a):f146.tree a:=⟨(a.1,a.2.1),⟨rfl,obQ rfl (OV.self (e:=aD)) rfl (⟨h.1,Exists.elim h.2 (fun I2 h15=>⟨I2,br h15.1 Cnd.b (fun h3 k11=>chk k11.2 Cnd.ostF k11.1 (fun h5 k9=>chk k9.2 Cnd.ostF k9.1 (fun h6 k8=>⟨(3,omk (omk ((cB (a.1,a.2.1)).2) 0) 1),⟨rfl,SlS.mk  (obQ rfl (OV.mk (OV.mk (OV.self (e:=aD)) 0) 1) rfl (k8))⟩⟩))) (fun h4 k12=>⟨(1,(cB (a.1,a.2.1)).2),⟨rfl,SlS.mk  (obQ rfl (OV.self (e:=aD)) rfl (k12))⟩⟩),fun y13 h14=>(f166.ei ⟨(h15.2 y13 h14).1,chk ((h15.2 y13 h14).2).2 Cnd.osetF ((h15.2 y13 h14).2).1 (fun h17 k54=>Exists.elim k54 (fun I19 h51_=>Exists.elim h51_ (fun μ20 h51=>⟨I19,μ20,⟨((0:Int),(y13.1+1,eV y13.2 a.2.1 (dM (a.2.2)))),⟨rfl,SlS.mk  (⟨rfl,⟨rfl,obQ rfl (OV.setA (OV.self (e:=aD)) (DEqs.refl _)) rfl (h51.1)⟩⟩)⟩⟩,fun y21 h53=>br (h51.2 y21 h53) Cnd.dec (fun h22 k49=>chk k49.2.2 Cnd.ix ⟨k49.1,k49.2.1⟩ (fun h24 k47=>br k47 Cnd.b (fun h25 k45=>chk k45.2 Cnd.fset k45.1 (fun h27 k36=>chk k36.2 Cnd.osetF k36.1 (fun h28 k35=>wrapK.i64 k35 (fun h32 h33 k34=>⟨((y21.1+(1:Int)),((y21.2.1+1)+1,dU (omk y21.2.2 (cd ((at_ a.2.2 y21.1).1) ((at_ a.2.2 y21.1).2))) (cd ((at_ a.2.2 y21.1).1) ((at_ a.2.2 y21.1).2)) a.2.1)),⟨rfl,SlS.mk  (⟨rfl,⟨rfl,obQ rfl (OV.setU (OV.mk (OV.self (e:=aD)) (cd ((at_ a.2.2 y21.1).1) ((at_ a.2.2 y21.1).2))) aGQ) rfl (k34)⟩⟩)⟩⟩)))) (fun h26 k46=>chk k46.2 Cnd.osetF k46.1 (fun h37 k44=>wrapK.i64 k44 (fun h41 h42 k43=>⟨((y21.1+(1:Int)),(y21.2.1+1,dU y21.2.2 (cd ((at_ a.2.2 y21.1).1) ((at_ a.2.2 y21.1).2)) a.2.1)),⟨rfl,SlS.mk  (⟨rfl,⟨rfl,obQ rfl (OV.setU (OV.self (e:=aD)) aGQ) rfl (k43)⟩⟩)⟩⟩))))) (fun h23 k50=>obQ rfl (OV.self (e:=aD)) k50 (trivial))⟩)))⟩)⟩)⟩)⟩⟩
theorem f146.eq (a:(Ob (List (aC)))×ByteArray×(List (aC))):(f146.af a).gives f146.env (f146.args a) (f146.blks a) (f146.res a) (f146.blks' a)=f146.tree a:=by kernel_rfl
def f170.args (a:(Ob (List (aC)))×ByteArray×(List (aC))):List D:=[.ptr 0 0,.str a.2.1,.slice .ro 2 a.2.2.length (gl aF a.2.2)]
def f170.blks (a:(Ob (List (aC)))×ByteArray×(List (aC))):List (List D):=[[.dead,.obj 202 0 1 a.1.nl a.1.n a.1.ks (ovs aD a.1)]]
def f170.res (a:(Ob (List (aC)))×ByteArray×(List (aC))):List D:=[.bool (jJ a)]
def f170.blks' (a:(Ob (List (aC)))×ByteArray×(List (aC))):List (List D):=[[.dead,.obj 202 0 1 a.1.nl a.1.n a.1.ks (ovs aD a.1)]]
def f170.C:aP:=FnC f170.args f170.blks (fun a=>n7 a) f170.res f170.blks'
def f170.S0 (a:(Ob (List (aC)))×ByteArray×(List (aC))) (x:Int):Tm:=⟨.ptr 0 0::.str a.2.1::dd 9 (.slice .ro 2 a.2.2.length (gl aF a.2.2)::.int .i64 (a.2.2.length:Int)::.int .i64 x::dd 17 []),[(0,false,[.dead,.obj 202 0 1 a.1.nl a.1.n a.1.ks (ovs aD a.1)])],[]⟩
def f170.kills (a:(Ob (List (aC)))×ByteArray×(List (aC))):List Hint:=[.tell Int (f170.S0 a)]
def f170.cuts (a:(Ob (List (aC)))×ByteArray×(List (aC))):List (Nat×Σ β:Type,β→Tm):=[]
def f170.af (a:(Ob (List (aC)))×ByteArray×(List (aC))):AF:=AF.mk (.seq (.region [⟨(some 6),1,.move,[.c (.bool false)],none⟩])
 (.seq (.seq (.region [mT 11 2 2,
 oT 12 3 (.len false) [11],
 ⟨(some 13),4,.move,[.c (.int .i64 (0))],none⟩])
 (.block 0 (.loopT Int (f170.S0 a) 5 31 (.seq (.region [oT 14 5 (.bin .lss) [13,12]])
 (.seq (.cond (.t 14) (.skip) (.exit 0))
 (.seq (.block 1 (.seq (.region [oT 15 6 (.indexAddr 2 none) [11,13],
 oT 16 7 (.load true 2) [15],
 oT 8 8 (.alloc [.str ByteArray.empty,.str ByteArray.empty]) [],
 ⟨none,11,(.store 2),[.t 8,.t 16],none⟩])
 (.seq (.region [mT 18 12 0,
 oT 19 13 .nilCheck [18],
 oT 20 14 (.fieldAddr 1) [19],
 oT 21 15 (.load false 1) [20],
 oT 22 16 (.load true 2) [8],
 oT 23 17 .famGet [21,22],
 mT 24 18 1,
 oT 25 19 (.mapGet true true []) [23,24],
 mT 17 20 25,
 oT 26 21 (.extract 0) [17],
 oT 27 22 (.extract 1) [17],
 oT 9 23 (.alloc []) [],
 ⟨none,24,(.store 0),[.t 9,.t 26],none⟩,
 mT 10 25 27])
 (.seq (.region [mT 28 26 10,
 oT 29 27 (.un .not) [28]])
 (.cond (.t 29) (.seq (.region [⟨(some 6),28,.move,[.c (.bool false)],none⟩])
 (.ret)) (.skip))))))
 (.region [⟨(some 30),29,(.bin .add),[.t 13,.c (.int .i64 (1))],none⟩,
 mT 13 30 30])))))))
 (.seq (.region [⟨(some 6),31,.move,[.c (.bool true)],none⟩])
 (.ret))))
 [.tmp 6] 1 28
def f170.env:Env:=[]
def f170.tree (a:(Ob (List (aC)))×ByteArray×(List (aC))):Prop:=∃ (I2:Int→Prop) (μ3:Int→Nat),(∃ x1:Int,(a.2.1=a.2.1)∧SlS aF a.2.2 (((a.2.2.length:Int)=(a.2.2.length:Int))∧((0:Int)=x1)∧ObQ 0 0 a.1.nl a.1.nl a.1.n a.1.n a.1.ks a.1.ks (ovs aD a.1) (ovs aD a.1) (I2 x1)))∧∀ y4:Int,I2 y4→(Br (decide (y4 < (a.2.2.length:Int))) (Br (decide ((0:Int)≤y4)&&decide (y4 < (a.2.2.length:Int))) (Br (gY a.1 (cd ((at_ a.2.2 y4).1) ((at_ a.2.2 y4).2)) ((a.1.nl 1) || a.1.nl (cd ((at_ a.2.2 y4).1) ((at_ a.2.2 y4).2))) a.2.1) (Let (wI (y4+(1:Int))) (fun v10:Int=>∃ x11:Int,(a.2.1=a.2.1)∧SlS aF a.2.2 (((a.2.2.length:Int)=(a.2.2.length:Int))∧(v10=x11)∧ObQ 0 0 a.1.nl a.1.nl a.1.n a.1.n a.1.ks a.1.ks (ovs aD a.1) (ovs aD a.1) (I2 x11∧μ3 x11 < μ3 y4)))) ((false=(jJ a))∧ObQ 0 0 a.1.nl a.1.nl a.1.n a.1.n a.1.ks a.1.ks (ovs aD a.1) (ovs aD a.1) (True))) False) ((true=(jJ a))∧ObQ 0 0 a.1.nl a.1.nl a.1.n a.1.n a.1.ks a.1.ks (ovs aD a.1) (ovs aD a.1) (True)))
def f170.vc (a:(Ob (List (aC)))×ByteArray×(List (aC))):Prop:=(∃ (I2:Int→Prop) (μ3:Int→Nat),I2 (0:Int)∧∀ y4:Int,I2 y4→((y4 < (a.2.2.length:Int)→((0:Int)≤y4∧y4 < (a.2.2.length:Int)∧((gY a.1 (cd ((at_ a.2.2 y4).1) ((at_ a.2.2 y4).2)) ((a.1.nl 1) || a.1.nl (cd ((at_ a.2.2 y4).1) ((at_ a.2.2 y4).2))) a.2.1=true→(-9223372036854775808≤(y4+(1:Int))∧(y4+(1:Int))≤9223372036854775807∧(I2 (y4+(1:Int))∧μ3 (y4+(1:Int)) < μ3 y4)))∧(¬(gY a.1 (cd ((at_ a.2.2 y4).1) ((at_ a.2.2 y4).2)) ((a.1.nl 1) || a.1.nl (cd ((at_ a.2.2 y4).1) ((at_ a.2.2 y4).2))) a.2.1=true)→(false=jJ a)))))∧(¬(y4 < (a.2.2.length:Int))→(true=jJ a))))
theorem f170.of (a:(Ob (List (aC)))×ByteArray×(List (aC))) (h:f170.vc a):f170.tree a:=Exists.elim h (fun I2 h23_=>Exists.elim h23_ (fun μ3 h23=>⟨I2,μ3,⟨(0:Int),⟨rfl,SlS.mk  (⟨rfl,⟨rfl,obQ rfl (OV.self (e:=aD)) rfl (h23.1)⟩⟩)⟩⟩,fun y4 h25=>br (h23.2 y4 h25) Cnd.dec (fun h5 k21=>chk k21.2.2 Cnd.ix ⟨k21.1,k21.2.1⟩ (fun h7 k19=>br k19 Cnd.b (fun h8 k17=>wrapK.i64 k17 (fun h13 h14 k15=>⟨(y4+(1:Int)),⟨rfl,SlS.mk  (⟨rfl,⟨rfl,obQ rfl (OV.self (e:=aD)) rfl (k15)⟩⟩)⟩⟩)) (fun h9 k18=>⟨k18,obQ rfl (OV.self (e:=aD)) rfl (trivial)⟩))) (fun h6 k22=>⟨k22,obQ rfl (OV.self (e:=aD)) rfl (trivial)⟩)⟩))
theorem f170.eq (a:(Ob (List (aC)))×ByteArray×(List (aC))):(f170.af a).gives f170.env (f170.args a) (f170.blks a) (f170.res a) (f170.blks' a)=f170.tree a:=by kernel_rfl
def f262.args (a:Ob (List (aC))):List D:=[.ptr 0 0]
def f262.blks (a:Ob (List (aC))):List (List D):=[[.dead,.obj 202 0 1 a.nl a.n a.ks (ovs aD a)]]
def f262.res (a:Ob (List (aC))):List D:=[.int .i64 (wN a)]
def f262.blks' (a:Ob (List (aC))):List (List D):=[[.dead,.obj 202 0 1 a.nl a.n a.ks (ovs aD a)]]
def f262.C:aP:=FnC f262.args f262.blks (fun _=>True) f262.res f262.blks'
def f262.kills (a:Ob (List (aC))):List Hint:=[]
def f262.cuts (a:Ob (List (aC))):List (Nat×Σ β:Type,β→Tm):=[]
def f262.af (a:Ob (List (aC))):AF:=AF.mk (.seq (.region [⟨(some 2),1,.move,[.c (.int .i64 (0))],none⟩])
 (.seq (.seq (.region [mT 3 2 0,
 oT 4 3 (.isNil true false) [3]])
 (.cond (.t 4) (.seq (.region [⟨(some 2),4,.move,[.c (.int .i64 (0))],none⟩])
 (.ret)) (.skip)))
 (.seq (.region [mT 5 5 0,
 oT 6 6 .nilCheck [5],
 oT 7 7 (.fieldAddr 0) [6],
 oT 8 8 (.load false 1) [7],
 oT 9 9 .mapLen [8],
 mT 2 10 9])
 (.ret))))
 [.tmp 2] 1 9
def f262.env:Env:=[]
def f262.tree (a:Ob (List (aC))):Prop:=((aHE a 0 (a.nl 0):Int)=(wN a))∧ObQ 0 0 a.nl a.nl a.n a.n a.ks a.ks (ovs aD a) (ovs aD a) (True)
def f262.vc (a:Ob (List (aC))):Prop:=((aHE a 0 (a.nl 0):Int)=wN a)
theorem f262.of (a:Ob (List (aC))) (h:f262.vc a):f262.tree a:=⟨h,obQ rfl (OV.self (e:=aD)) rfl (trivial)⟩
theorem f262.eq (a:Ob (List (aC))):(f262.af a).gives f262.env (f262.args a) (f262.blks a) (f262.res a) (f262.blks' a)=f262.tree a:=by kernel_rfl
def f149.args (a:(Ob (List (aC)))×(List (aC))):List D:=[.ptr 0 0,.slice .ro 2 a.2.length (gl aF a.2)]
def f149.blks (a:(Ob (List (aC)))×(List (aC))):List (List D):=[[.dead,.obj 202 0 1 a.1.nl a.1.n a.1.ks (ovs aD a.1)]]
def f149.res (a:(Ob (List (aC)))×(List (aC))):List D:=[.slice .ro 1 ((gC a).length) (gl aB (gC a))]
def f149.blks' (a:(Ob (List (aC)))×(List (aC))):List (List D):=[[.dead,.obj 202 0 1 a.1.nl a.1.n a.1.ks (ovs aD a.1)]]
def f149.C:aP:=FnC f149.args f149.blks (fun a=>jB a) f149.res f149.blks'
def f149.S0 (a:(Ob (List (aC)))×(List (aC))) (x:(List (ByteArray))×(Bool×(Nat→Bool)×Option Nat)):Tm:=⟨.ptr 0 0::.slice .ro 2 a.2.length (gl aF a.2)::.dead::.dead::.dead::.msl 1000021 1 x.1.length::dd 20 (.ptr 1000030 0::dd 16 []),[(0,false,[.dead,.obj 202 0 1 a.1.nl a.1.n a.1.ks (ovs aD a.1)]),(1000021,false,[.dead,.arr true 1 x.1.length (gl aB x.1)]),(1000030,false,[.dead,.mit 0 (cd ((at_ a.2 (0:Int)).1) ((at_ a.2 (0:Int)).2)) x.2.1 0 x.2.2.1 x.2.2.2])],[]⟩
def f149.kills (a:(Ob (List (aC)))×(List (aC))):List Hint:=[.tell ((List (ByteArray))×(Bool×(Nat→Bool)×Option Nat)) (f149.S0 a)]
def f149.cuts (a:(Ob (List (aC)))×(List (aC))):List (Nat×Σ β:Type,β→Tm):=[(999999,⟨Unit,fun x=>⟨[],[],[]⟩⟩),
 (1000005000007,⟨Unit,fun x=>⟨[],[],[]⟩⟩),
 (2000005000014,⟨Unit,fun x=>⟨[],[],[]⟩⟩)]
def f149.af (a:(Ob (List (aC)))×(List (aC))):AF:=AF.mk (.seq (.region [oR 4 0 (.nilSl 1) []])
 (.seq (.seq (.region [mR 7 1 0,
 oR 8 2 (.isNil true false) [7]])
 (.cond (.t 8) (.seq (.region [oR 4 3 (.nilSl 1) []])
 (.ret)) (.skip)))
 (.seq (.seq (.region [mR 9 4 1,
 oR 10 5 (.len false) [9],
 ⟨(some 11),1000006,(.bin .eql),[.t 10,.c (.int .i64 (0))],none⟩])
 (.cond (.t 11) (.seq (.region [mR 12 7 0,
 oR 13 8 .nilCheck [12],
 oR 14 9 (.fieldAddr 0) [13],
 oR 15 10 (.load false 1) [14],
 oR 16 11 (.call false 169) [15],
 oR 17 15 (.call false 168) [16],
 mR 4 19 17])
 (.ret)) (.skip)))
 (.seq (.region [oR 5 20 (.nilSl 1) []])
 (.seq (.thaw 1000021 5) (.seq (.seq (.region [mR 18 22 0,
 oR 19 23 .nilCheck [18],
 oR 20 24 (.fieldAddr 1) [19],
 oR 21 25 (.load false 1) [20],
 mR 22 26 1,
 ⟨(some 23),1000027,(.indexAddr 2 none),[.t 22,.c (.int .i64 (0))],none⟩,
 oR 24 28 (.load true 2) [23],
 oR 25 29 .famGet [21,24],
 oR 26 30 .mapWalk [25]])
 (.block 0 (.loopT ((List (ByteArray))×(Bool×(Nat→Bool)×Option Nat)) (f149.S0 a) 1000031 1000049 (.seq (.region [oR 27 31 .mapNext [26],
 oR 28 32 (.extract 0) [27]])
 (.seq (.cond (.t 28) (.skip) (.exit 0))
 (.block 1 (.seq (.region [oR 29 33 .mapEntry [26],
 oR 30 34 (.extract 0) [29],
 mR 6 35 30])
 (.seq (.region [mR 31 36 0,
 mR 32 37 6,
 mR 33 38 1,
 ⟨(some 34),1000039,(.sliceSl 2 true false false),[.t 33,.c (.int .i64 (1))],none⟩,
 oR 35 40 (.call true 170) [31,32,34]])
 (.cond (.t 35) (.region [mR 36 44 5,
 mR 37 45 6,
 oR 38 46 (.buildSlice 1 1 [.str ByteArray.empty] [(0,1)]) [37],
 oR 39 47 (.append 1 16) [36,38],
 mR 5 48 39]) (.skip))))))))))
 (.seq (.region [mR 40 49 5,
 oR 41 50 (.call true 167) [40]])
 (.seq (.frz 5) (.seq (.region [mR 42 54 5,
 mR 4 55 42])
 (.ret))))))))))
 [.tmp 4] 1 41
def f149.env:Env:=[(167,f167.C),(170,f170.C)]
def f149.tree (a:(Ob (List (aC)))×(List (aC))):Prop:=Br ((a.2.length:Int)==(0:Int)) (False) (Br (decide ((0:Int)≤(0:Int))&&decide ((0:Int) < (a.2.length:Int))) (∃ (I5:((List (ByteArray))×(Bool×(Nat→Bool)×Option Nat))→Prop) (μ6:((List (ByteArray))×(Bool×(Nat→Bool)×Option Nat))→Nat),(∃ x4:(List (ByteArray))×(Bool×(Nat→Bool)×Option Nat),SlS aF a.2 ((0=x4.1.length)∧ObQ 0 0 a.1.nl a.1.nl a.1.n a.1.n a.1.ks a.1.ks (ovs aD a.1) (ovs aD a.1) (SlQ 0 x4.1.length gS (gl aB x4.1) (MtQ (cd ((at_ a.2 (0:Int)).1) ((at_ a.2 (0:Int)).2)) (cd ((at_ a.2 (0:Int)).1) ((at_ a.2 (0:Int)).2)) ((a.1.nl 1) || a.1.nl (cd ((at_ a.2 (0:Int)).1) ((at_ a.2 (0:Int)).2))) x4.2.1 0 0 (fun _=>false) x4.2.2.1 none x4.2.2.2 (I5 x4)))))∧∀ y7:(List (ByteArray))×(Bool×(Nat→Bool)×Option Nat),I5 y7→(0=0∧jk 202 (cd ((at_ a.2 (0:Int)).1) ((at_ a.2 (0:Int)).2))=true∧((y7.2.1=true∨∀ x,x < a.1.n (cd ((at_ a.2 (0:Int)).1) ((at_ a.2 (0:Int)).2))→y7.2.2.1 x=true)→((y7.1.length=y7.1.length)∧∃ c8:List (ByteArray),(y7.1.length=List.length c8)∧SlQ y7.1.length c8.length (gl aB y7.1) (gl aB c8) ((qZ c8)∧((List.length ((eB slt) c8))=y7.1.length)∧(SlQ (List.length ((eB slt) c8)) ((gC a).length) (gl aB ((eB slt) c8)) (gl aB (gC a)) (ObQ 0 0 a.1.nl a.1.nl a.1.n a.1.n a.1.ks a.1.ks (ovs aD a.1) (ovs aD a.1) (True))))))∧(y7.2.1=false→∀ x12:Nat,x12 < a.1.n (cd ((at_ a.2 (0:Int)).1) ((at_ a.2 (0:Int)).2))→y7.2.2.1 x12=false→((0=0∧jk 202 (cd ((at_ a.2 (0:Int)).1) ((at_ a.2 (0:Int)).2))=true∧x12 < a.1.n (cd ((at_ a.2 (0:Int)).1) ((at_ a.2 (0:Int)).2)))∧(Br (decide ((0:Int)≤(1:Int))&&decide ((1:Int)≤(a.2.length:Int))&&decide ((a.2.length:Int)≤(a.2.length:Int))&&((a.2.length:Int)==(a.2.length:Int))) (∃ c20:(Ob (List (aC)))×ByteArray×(List (aC)),((a.1.ks (cd ((at_ a.2 (0:Int)).1) ((at_ a.2 (0:Int)).2)) x12)=c20.2.1)∧SlQ (Int.toNat ((a.2.length:Int) - (1:Int))) c20.2.2.length (aHS (gl aF a.2) 1) (gl aF c20.2.2) (ObQ 0 0 a.1.nl c20.1.nl a.1.n c20.1.n a.1.ks c20.1.ks (ovs aD a.1) (ovs aD c20.1) ((n7 c20)∧Br (jJ c20) ((y7.1.length=y7.1.length∧t8 ((y7.1.length+1) * 16))∧(∃ x23:(List (ByteArray))×(Bool×(Nat→Bool)×Option Nat),SlS aF a.2 (((y7.1.length+1)=x23.1.length)∧ObQ 0 0 c20.1.nl a.1.nl c20.1.n a.1.n c20.1.ks a.1.ks (ovs aD c20.1) (ovs aD a.1) (SlQ (y7.1.length+1) x23.1.length (i9 (gl aB y7.1) y7.1.length (fun _=>[.str (a.1.ks (cd ((at_ a.2 (0:Int)).1) ((at_ a.2 (0:Int)).2)) x12)])) (gl aB x23.1) (MtQ (cd ((at_ a.2 (0:Int)).1) ((at_ a.2 (0:Int)).2)) (cd ((at_ a.2 (0:Int)).1) ((at_ a.2 (0:Int)).2)) false x23.2.1 0 0 (fun y=>bif Nat.beq y x12 then true else y7.2.2.1 y) x23.2.2.1 (some x12) x23.2.2.2 (I5 x23∧μ6 x23 < μ6 y7)))))) (∃ x25:(List (ByteArray))×(Bool×(Nat→Bool)×Option Nat),SlS aF a.2 ((y7.1.length=x25.1.length)∧ObQ 0 0 c20.1.nl a.1.nl c20.1.n a.1.n c20.1.ks a.1.ks (ovs aD c20.1) (ovs aD a.1) (SlQ y7.1.length x25.1.length (gl aB y7.1) (gl aB x25.1) (MtQ (cd ((at_ a.2 (0:Int)).1) ((at_ a.2 (0:Int)).2)) (cd ((at_ a.2 (0:Int)).1) ((at_ a.2 (0:Int)).2)) false x25.2.1 0 0 (fun y=>bif Nat.beq y x12 then true else y7.2.2.1 y) x25.2.2.1 (some x12) x25.2.2.2 (I5 x25∧μ6 x25 < μ6 y7)))))))) False))))) False)
def f149.vc (a:(Ob (List (aC)))×(List (aC))):Prop:=(((a.2.length:Int)=(0:Int)→False)∧(¬((a.2.length:Int)=(0:Int))→((0:Int) < (a.2.length:Int)∧(∃ (I5:((List (ByteArray))×(Bool×(Nat→Bool)×Option Nat))→Prop) (μ6:((List (ByteArray))×(Bool×(Nat→Bool)×Option Nat))→Nat),I5 ([],(((a.1.nl 1) || a.1.nl (cd ((at_ a.2 (0:Int)).1) ((at_ a.2 (0:Int)).2))),fun _=>false,none))∧∀ y7:(List (ByteArray))×(Bool×(Nat→Bool)×Option Nat),I5 y7→(((y7.2.1=true∨∀ x,x < a.1.n (cd ((at_ a.2 (0:Int)).1) ((at_ a.2 (0:Int)).2))→y7.2.2.1 x=true)→(qZ y7.1∧((List.length ((eB slt) (y7.1)))=y7.1.length∧(((eB slt) (y7.1))=gC a))))∧(y7.2.1=false→∀ x12:Nat,x12 < a.1.n (cd ((at_ a.2 (0:Int)).1) ((at_ a.2 (0:Int)).2))→y7.2.2.1 x12=false→((1:Int)≤(a.2.length:Int)∧(n7 (a.1,a.1.ks (cd ((at_ a.2 (0:Int)).1) ((at_ a.2 (0:Int)).2)) x12,(xD a.2 (1:Int) (a.2.length:Int)))∧(((jJ (a.1,a.1.ks (cd ((at_ a.2 (0:Int)).1) ((at_ a.2 (0:Int)).2)) x12,(xD a.2 (1:Int) (a.2.length:Int))))=true→(y7.1.length+1≤1073741824∧(I5 (y7.1++([a.1.ks (cd ((at_ a.2 (0:Int)).1) ((at_ a.2 (0:Int)).2)) x12]),(false,fun y=>bif Nat.beq y x12 then true else y7.2.2.1 y,some x12))∧μ6 (y7.1++([a.1.ks (cd ((at_ a.2 (0:Int)).1) ((at_ a.2 (0:Int)).2)) x12]),(false,fun y=>bif Nat.beq y x12 then true else y7.2.2.1 y,some x12)) < μ6 y7)))∧(¬((jJ (a.1,a.1.ks (cd ((at_ a.2 (0:Int)).1) ((at_ a.2 (0:Int)).2)) x12,(xD a.2 (1:Int) (a.2.length:Int))))=true)→(I5 (y7.1,(false,fun y=>bif Nat.beq y x12 then true else y7.2.2.1 y,some x12))∧μ6 (y7.1,(false,fun y=>bif Nat.beq y x12 then true else y7.2.2.1 y,some x12)) < μ6 y7)))))))))))
theorem f149.of (a:(Ob (List (aC)))×(List (aC))) (h:f149.vc a):f149.tree a:=br h Cnd.eq (fun h1 k35=>k35) (fun h2 k36=>chk k36.2 Cnd.ix ⟨(by decide),k36.1⟩ (fun h3 k34=>Exists.elim k34 (fun I5 h31_=>Exists.elim h31_ (fun μ6 h31=>⟨I5,μ6,⟨([],(((a.1.nl 1) || a.1.nl (cd ((at_ a.2 (0:Int)).1) ((at_ a.2 (0:Int)).2))),fun _=>false,none)),SlS.mk  (⟨(bB gS (Rds.nil (enc:=aB))),obQ rfl (OV.self (e:=aD)) rfl (slQ (Rds.nil (enc:=aB)) (mtQ  (h31.1)))⟩)⟩,fun y7 h33=>⟨rfl,(aLZ (by decide) _ _),fun h18=>⟨rfl,⟨y7.1,⟨(bB (gl aB y7.1) (rS aB)),slQ (rS aB) (⟨((h31.2 y7 h33).1 h18).1,jX (((h31.2 y7 h33).1 h18).2) (fun (h9:(List.length ((eB slt) (y7.1)))=y7.1.length) hk=>⟨h9,slQ (Rds.to (rS aB) hk) (obQ rfl (OV.self (e:=aD)) rfl (trivial))⟩)⟩)⟩⟩⟩,fun h16 x12 h14 h15=>⟨⟨rfl,(aLZ (by decide) _ _),h14⟩,chk ((h31.2 y7 h33).2 h16 x12 h14 h15).2 Cnd.sl ⟨(by decide),((h31.2 y7 h33).2 h16 x12 h14 h15).1,(Int.le_refl _)⟩ (fun h19 k30=>⟨(a.1,a.1.ks (cd ((at_ a.2 (0:Int)).1) ((at_ a.2 (0:Int)).2)) x12,(xD a.2 (1:Int) (a.2.length:Int))),⟨rfl,slQ (Rds.sub (enc:=aF) (rS aF) h19) (obQ rfl (OV.self (e:=aD)) rfl (⟨k30.1,br k30.2 Cnd.b (fun h21 k27=>⟨⟨rfl,aBE k27.1 (by decide)⟩,⟨(y7.1++([a.1.ks (cd ((at_ a.2 (0:Int)).1) ((at_ a.2 (0:Int)).2)) x12]),(false,fun y=>bif Nat.beq y x12 then true else y7.2.2.1 y,some x12)),SlS.mk  (⟨(bB (i9 (gl aB y7.1) y7.1.length (fun _=>[.str (a.1.ks (cd ((at_ a.2 (0:Int)).1) ((at_ a.2 (0:Int)).2)) x12)])) (Rds.app (enc:=aB) (rS aB) (Rds.one (enc:=aB) (DEqs.refl _)))),obQ rfl (OV.self (e:=aD)) rfl (slQ (Rds.app (enc:=aB) (rS aB) (Rds.one (enc:=aB) (DEqs.refl _))) (mtQ  (k27.2)))⟩)⟩⟩) (fun h22 k28=>⟨(y7.1,(false,fun y=>bif Nat.beq y x12 then true else y7.2.2.1 y,some x12)),SlS.mk  (⟨(bB (gl aB y7.1) (rS aB)),obQ rfl (OV.self (e:=aD)) rfl (slQ (rS aB) (mtQ  (k28)))⟩)⟩)⟩))⟩⟩)⟩⟩⟩))))
theorem f149.eq (a:(Ob (List (aC)))×(List (aC))):(f149.af a).gives f149.env (f149.args a) (f149.blks a) (f149.res a) (f149.blks' a)=f149.tree a:=by kernel_rfl
def f1165.args (a:ByteArray):List D:=[.nilp,.str a]
def f1165.blks (a:ByteArray):List (List D):=[]
def f1165.res (a:ByteArray):List D:=[.bool (sX a)]
def f1165.blks' (a:ByteArray):List (List D):=[]
def f1165.C:aP:=FnC f1165.args f1165.blks (fun _=>True) f1165.res f1165.blks'
def f1165.kills (a:ByteArray):List Hint:=[.unroll 0 [] [] []]
def f1165.cuts (a:ByteArray):List (Nat×Σ β:Type,β→Tm):=[]
def f1165.af (a:ByteArray):AF:=AF.mk (.seq (.region [⟨(some 4),0,.move,[.c (.bool false)],none⟩])
 (.seq (.seq (.region [mT 9 1 0,
 oT 10 2 (.isNil true false) [9]])
 (.cond (.t 10) (.seq (.region [⟨(some 4),3,.move,[.c (.bool false)],none⟩])
 (.ret)) (.skip)))
 (.seq (.region [mT 12 4 0,
 oT 13 5 .nilCheck [12],
 oT 14 6 (.fieldAddr 0) [13],
 oT 15 7 (.load false 1) [14],
 mT 16 8 1,
 oT 17 9 (.mapGet true false [.slice .full 2 0 gS]) [15,16],
 mT 11 10 17,
 oT 18 11 (.extract 0) [11],
 oT 19 12 (.extract 1) [11],
 mT 5 13 18,
 mT 6 14 19])
 (.seq (.seq (.region [mT 20 15 5,
 oT 21 16 (.len false) [20],
 ⟨(some 22),17,.move,[.c (.int .i64 (0))],none⟩])
 (.block 0 (.loop 0 [] [] [] 18 35 (.seq (.region [oT 23 18 (.bin .lss) [22,21]])
 (.seq (.cond (.t 23) (.skip) (.exit 0))
 (.seq (.block 1 (.seq (.region [oT 24 19 (.indexAddr 2 none) [20,22],
 oT 25 20 (.load true 2) [24],
 oT 8 21 (.alloc [.str ByteArray.empty,.str ByteArray.empty]) [],
 ⟨none,24,(.store 2),[.t 8,.t 25],none⟩])
 (.region [mT 26 25 0,
 oT 27 26 .nilCheck [26],
 oT 28 27 (.fieldAddr 1) [27],
 oT 29 28 (.load false 1) [28],
 oT 30 29 (.load true 2) [8],
 oT 31 30 .famGet [29,30],
 mT 32 31 1,
 ⟨none,32,.mapDel,[.t 31,.t 32],none⟩])))
 (.region [⟨(some 33),33,(.bin .add),[.t 22,.c (.int .i64 (1))],none⟩,
 mT 22 34 33])))))))
 (.seq (.region [mT 34 35 0,
 oT 35 36 .nilCheck [34],
 oT 36 37 (.fieldAddr 0) [35],
 oT 37 38 (.load false 1) [36],
 mT 38 39 1,
 ⟨none,40,.mapDel,[.t 37,.t 38],none⟩])
 (.seq (.region [mT 39 41 6,
 mT 4 42 39])
 (.ret)))))))
 [.tmp 4] 0 38
def f1165.env:Env:=[]
def f1165.tree (a:ByteArray):Prop:=(false=(sX a))∧True
def f1165.vc (a:ByteArray):Prop:=(false=sX a)
theorem f1165.of (a:ByteArray) (h:f1165.vc a):f1165.tree a:=⟨h,trivial⟩
theorem f1165.eq (a:ByteArray):(f1165.af a).gives f1165.env (f1165.args a) (f1165.blks a) (f1165.res a) (f1165.blks' a)=f1165.tree a:=by kernel_rfl
def f1146.args (a:ByteArray×(List (aC))):List D:=[.nilp,.str a.1,.slice .ro 2 a.2.length (gl aF a.2)]
def f1146.blks (a:ByteArray×(List (aC))):List (List D):=[]
def f1146.res (a:ByteArray×(List (aC))):List D:=[]
def f1146.blks' (a:ByteArray×(List (aC))):List (List D):=[]
def f1146.C:aP:=FnC f1146.args f1146.blks (fun _=>True) f1146.res f1146.blks'
def f1146.kills (a:ByteArray×(List (aC))):List Hint:=[.unroll 0 [] [] []]
def f1146.cuts (a:ByteArray×(List (aC))):List (Nat×Σ β:Type,β→Tm):=[]
def f1146.af (a:ByteArray×(List (aC))):AF:=AF.mk (.seq (.seq (.region [mT 8 0 0,
 oT 9 1 (.isNil true false) [8]])
 (.cond (.t 9) (.ret) (.skip)))
 (.seq (.region [mT 10 2 0,
 mT 11 3 1,
 oT 12 4 (.call true 165) [10,11]])
 (.seq (.seq (.region [mT 13 8 0,
 oT 14 9 .nilCheck [13],
 oT 15 10 (.fieldAddr 0) [14],
 oT 16 11 (.load false 1) [15],
 oT 17 12 (.isNilM false) [16]])
 (.cond (.t 17) (.region [mT 18 13 0,
 mT 19 14 0,
 oT 20 15 (.mkMap false true) [],
 oT 21 16 (.mkMap false false) [],
 oT 22 17 .nilCheck [18],
 oT 23 18 (.fieldAddr 0) [22],
 ⟨none,19,(.store 1),[.t 23,.t 20],none⟩,
 oT 24 20 .nilCheck [19],
 oT 25 21 (.fieldAddr 1) [24],
 ⟨none,22,(.store 1),[.t 25,.t 21],none⟩]) (.skip)))
 (.seq (.region [mT 26 23 0,
 oT 27 24 .nilCheck [26],
 oT 28 25 (.fieldAddr 0) [27],
 oT 29 26 (.load false 1) [28],
 mT 30 27 1,
 mT 31 28 2,
 oT 32 29 (.call false 166) [31],
 ⟨none,33,.mapSet,[.t 29,.t 30,.t 32],none⟩])
 (.seq (.region [mT 33 34 2,
 oT 34 35 (.len false) [33],
 ⟨(some 35),36,.move,[.c (.int .i64 (0))],none⟩])
 (.block 0 (.loop 0 [] [] [] 37 69 (.seq (.region [oT 36 37 (.bin .lss) [35,34]])
 (.seq (.cond (.t 36) (.skip) (.exit 0))
 (.seq (.block 1 (.seq (.region [oT 37 38 (.indexAddr 2 none) [33,35],
 oT 38 39 (.load true 2) [37],
 oT 7 40 (.alloc [.str ByteArray.empty,.str ByteArray.empty]) [],
 ⟨none,43,(.store 2),[.t 7,.t 38],none⟩])
 (.seq (.seq (.region [mT 39 44 0,
 oT 40 45 .nilCheck [39],
 oT 41 46 (.fieldAddr 1) [40],
 oT 42 47 (.load false 1) [41],
 oT 43 48 (.load true 2) [7],
 oT 44 49 .famGet [42,43],
 oT 45 50 (.isNilM false) [44]])
 (.cond (.t 45) (.region [mT 46 51 0,
 oT 47 52 .nilCheck [46],
 oT 48 53 (.fieldAddr 1) [47],
 oT 49 54 (.load false 1) [48],
 oT 50 55 (.load true 2) [7],
 oT 51 56 (.mkMap true false) [],
 ⟨none,57,.famSet,[.t 49,.t 50,.t 51],none⟩]) (.skip)))
 (.region [mT 52 58 0,
 oT 53 59 .nilCheck [52],
 oT 54 60 (.fieldAddr 1) [53],
 oT 55 61 (.load false 1) [54],
 oT 56 62 (.load true 2) [7],
 oT 57 63 .famGet [55,56],
 mT 58 64 1,
 oT 59 65 (.build [] []) [],
 ⟨none,66,.mapSet,[.t 57,.t 58,.t 59],none⟩]))))
 (.region [⟨(some 60),67,(.bin .add),[.t 35,.c (.int .i64 (1))],none⟩,
 mT 35 68 60])))))))))))
 [] 0 58
def f1146.env:Env:=[]
def f1146.tree (a:ByteArray×(List (aC))):Prop:=True
def f1146.vc (a:ByteArray×(List (aC))):Prop:=(()=aL9 a)
theorem f1146.of (a:ByteArray×(List (aC))) (h:f1146.vc a):f1146.tree a:=trivial
theorem f1146.eq (a:ByteArray×(List (aC))):(f1146.af a).gives f1146.env (f1146.args a) (f1146.blks a) (f1146.res a) (f1146.blks' a)=f1146.tree a:=by kernel_rfl
def f1149.args (a:List (aC)):List D:=[.nilp,.slice .ro 2 a.length (gl aF a)]
def f1149.blks (a:List (aC)):List (List D):=[]
def f1149.res (a:List (aC)):List D:=[.slice .ro 1 ((hP a).length) (gl aB (hP a))]
def f1149.blks' (a:List (aC)):List (List D):=[]
def f1149.C:aP:=FnC f1149.args f1149.blks (fun _=>True) f1149.res f1149.blks'
def f1149.kills (a:List (aC)):List Hint:=[.unroll 0 [] [] []]
def f1149.cuts (a:List (aC)):List (Nat×Σ β:Type,β→Tm):=[]
def f1149.af (a:List (aC)):AF:=AF.mk (.seq (.region [oT 4 0 (.nilSl 1) []])
 (.seq (.seq (.region [mT 7 1 0,
 oT 8 2 (.isNil true false) [7]])
 (.cond (.t 8) (.seq (.region [oT 4 3 (.nilSl 1) []])
 (.ret)) (.skip)))
 (.seq (.seq (.region [mT 9 4 1,
 oT 10 5 (.len false) [9],
 ⟨(some 11),6,(.bin .eql),[.t 10,.c (.int .i64 (0))],none⟩])
 (.cond (.t 11) (.seq (.region [mT 12 7 0,
 oT 13 8 .nilCheck [12],
 oT 14 9 (.fieldAddr 0) [13],
 oT 15 10 (.load false 1) [14],
 oT 16 11 (.call false 169) [15],
 oT 17 15 (.call false 168) [16],
 mT 4 19 17])
 (.ret)) (.skip)))
 (.seq (.region [oT 5 20 (.nilSl 1) []])
 (.seq (.seq (.region [mT 18 21 0,
 oT 19 22 .nilCheck [18],
 oT 20 23 (.fieldAddr 1) [19],
 oT 21 24 (.load false 1) [20],
 mT 22 25 1,
 ⟨(some 23),26,(.indexAddr 2 none),[.t 22,.c (.int .i64 (0))],none⟩,
 oT 24 27 (.load true 2) [23],
 oT 25 28 .famGet [21,24],
 oT 26 29 .mapWalk [25]])
 (.block 0 (.loop 0 [] [] [] 30 48 (.seq (.region [oT 27 30 .mapNext [26],
 oT 28 31 (.extract 0) [27]])
 (.seq (.cond (.t 28) (.skip) (.exit 0))
 (.block 1 (.seq (.region [oT 29 32 .mapEntry [26],
 oT 30 33 (.extract 0) [29],
 mT 6 34 30])
 (.seq (.region [mT 31 35 0,
 mT 32 36 6,
 mT 33 37 1,
 ⟨(some 34),38,(.sliceSl 2 true false false),[.t 33,.c (.int .i64 (1))],none⟩,
 oT 35 39 (.call true 170) [31,32,34]])
 (.cond (.t 35) (.region [mT 36 43 5,
 mT 37 44 6,
 oT 38 45 (.buildSlice 1 1 [.str ByteArray.empty] [(0,1)]) [37],
 oT 39 46 (.append 1 16) [36,38],
 mT 5 47 39]) (.skip))))))))))
 (.seq (.region [mT 40 48 5,
 oT 41 49 (.call false 167) [40]])
 (.seq (.region [mT 42 53 5,
 mT 4 54 42])
 (.ret))))))))
 [.tmp 4] 0 41
def f1149.env:Env:=[]
def f1149.tree (a:List (aC)):Prop:=(0=0)∧SlQ 0 ((hP a).length) gS (gl aB (hP a)) (True)
def f1149.vc (a:List (aC)):Prop:=([]=hP a)
theorem f1149.of (a:List (aC)) (h:f1149.vc a):f1149.tree a:=⟨rfl,slQ (Rds.to (Rds.nil (enc:=aB)) h) (trivial)⟩
theorem f1149.eq (a:List (aC)):(f1149.af a).gives f1149.env (f1149.args a) (f1149.blks a) (f1149.res a) (f1149.blks' a)=f1149.tree a:=by kernel_rfl
def f1262.args (a:Unit):List D:=[.nilp]
def f1262.blks (a:Unit):List (List D):=[]
def f1262.res (a:Unit):List D:=[.int .i64 (sP a)]
def f1262.blks' (a:Unit):List (List D):=[]
def f1262.C:aP:=FnC f1262.args f1262.blks (fun _=>True) f1262.res f1262.blks'
def f1262.kills (a:Unit):List Hint:=[]
def f1262.cuts (a:Unit):List (Nat×Σ β:Type,β→Tm):=[]
def f1262.af (a:Unit):AF:=AF.mk (.seq (.region [⟨(some 2),0,.move,[.c (.int .i64 (0))],none⟩])
 (.seq (.seq (.region [mT 3 1 0,
 oT 4 2 (.isNil true false) [3]])
 (.cond (.t 4) (.seq (.region [⟨(some 2),3,.move,[.c (.int .i64 (0))],none⟩])
 (.ret)) (.skip)))
 (.seq (.region [mT 5 4 0,
 oT 6 5 .nilCheck [5],
 oT 7 6 (.fieldAddr 0) [6],
 oT 8 7 (.load false 1) [7],
 oT 9 8 .mapLen [8],
 mT 2 9 9])
 (.ret))))
 [.tmp 2] 0 9
def f1262.env:Env:=[]
def f1262.tree (a:Unit):Prop:=((0:Int)=(sP a))∧True
def f1262.vc (a:Unit):Prop:=((0:Int)=sP a)
theorem f1262.of (a:Unit) (h:f1262.vc a):f1262.tree a:=⟨h,trivial⟩
theorem f1262.eq (a:Unit):(f1262.af a).gives f1262.env (f1262.args a) (f1262.blks a) (f1262.res a) (f1262.blks' a)=f1262.tree a:=by kernel_rfl
theorem f144.ok (a:Unit) (_:True):f144.vc a:=rfl
theorem f166.ok (a:Lbs) (h:L20 a):f166.vc a:=by
 have h:a.length≤1048576:=h
 refine ⟨fun c=>⟨?_,by omega,rfl⟩,fun _=>⟨by omega,rfl⟩⟩
 rw [List.length_eq_zero_iff.1 c]
 rfl
theorem f165.ok (a:Ob Lbs×ByteArray) (h:oL a):f165.vc a:=by
 obtain ⟨o,k⟩:=a
 have h:(lG o k []).length≤1048576:=h
 refine ⟨fun y=>y=(lG o k [],gY o 0 (o.nl 0) k),⟨fun c=>?_,fun c=>?_⟩,fun y hy=>?_⟩
 ·have c:gY o 0 (o.nl 0) k=true:=c
  unfold lG
  rw [c]
  rfl
 ·have c:gY o 0 (o.nl 0) k=false:=Bool.eq_false_iff.2 c
  unfold lG
  rw [c]
  rfl
 ·subst hy
  generalize hL:lG o k []=L at *
  refine ⟨fun y=>y.1=gY o 0 (o.nl 0) k∧y.2.1=L∧y.2.2.1=(L.length:Int)∧0≤y.2.2.2.1∧y.2.2.2.1≤(L.length:Int)∧y.2.2.2.2.2=(L.take y.2.2.2.1.toNat).foldl (mU k) o,fun y=>L.length - y.2.2.2.1.toNat,⟨rfl,rfl,rfl,by simp only; omega,by simp only; omega,rfl⟩,fun y hy=>?_⟩
  obtain ⟨b,l,n,i,c,p⟩:=y
  obtain ⟨g1,g2,g3,g4,g5,g6⟩:=hy
  simp only at g1 g2 g3 g4 g5 g6
  subst g1 g2 g3
  refine ⟨fun hlt=>?_,fun hge=>?_⟩
  ·simp only at hlt
   refine ⟨g4,hlt,by simp only; omega,by simp only; omega,⟨rfl,rfl,rfl,by simp only; omega,by simp only; omega,?_⟩,by simp only; omega⟩
   simp only
   rw [show (i+1).toNat=i.toNat+1 by omega,zL (by omega),List.foldl_append,← g6,gL]
   rfl
  ·simp only at hge
   have:i.toNat=l.length:=by omega
   rw [this,List.take_length] at g6
   simp only
   rw [g6]
   unfold cB
   rw [hL]
theorem f146.ok (a:Ob Lbs×ByteArray×Lbs) (h:oC a):f146.vc a:=by
 obtain ⟨o,k,L⟩:=a
 obtain ⟨h1,h2,h3⟩:=h
 have h2:L.length≤1048576:=h2
 have hnl:(cB (o,k)).2.nl=o.nl:=by
  have:∀ (l:Lbs) (o:Ob Lbs),(l.foldl (mU k) o).nl=o.nl:=fun l=>by
   induction l with
   | nil=>exact fun _=>rfl
   | cons a l ih=>exact fun o=>(ih _).trans rfl
  exact (aB0 _ _ _ _).trans (this _ _)
 have h30:(cB (o,k)).2.nl 0=(cB (o,k)).2.nl 1:=by rw [hnl]; exact h3
 obtain ⟨n0,n1⟩:=aBX h30
 refine ⟨h1,fun y=>y.2=gF (cB (o,k)).2,⟨fun c=>⟨c,?_,?_⟩,fun c=>?_⟩,fun y hy=>?_⟩
 ·show (cB (o,k)).2.nl 1=true
  rw [← h30]
  exact c
 ·show omk _ _=_
  unfold gF
  rw [show (cB (o,k)).2.nl 0=true from c]
  rfl
 ·show (cB (o,k)).2=_
  unfold gF
  rw [show (cB (o,k)).2.nl 0=false from Bool.eq_false_iff.2 c]
  rfl
 ·obtain ⟨c,p⟩:=y
  simp only at hy
  subst hy
  refine ⟨h2,n0,fun y=>0≤y.1∧y.1≤(L.length:Int)∧y.2.2.nl 1=false∧y.2.2=(L.take y.1.toNat).foldl (o6 k) (eV (gF (cB (o,k)).2) k L),fun y=>L.length - y.1.toNat,⟨by simp only; omega,by simp only; omega,n1,rfl⟩,fun y hy=>?_⟩
  obtain ⟨i,c2,p⟩:=y
  obtain ⟨g1,g2,g3,g4⟩:=hy
  simp only at g1 g2 g3 g4
  refine ⟨fun hlt=>?_,fun hge=>?_⟩
  ·simp only at hlt ⊢
   have hb:=aF6 ((at_ L i).1) ((at_ L i).2)
   have hs:L.take (i+1).toNat=L.take i.toNat++[at_ L i]:=by rw [show (i+1).toNat=i.toNat+1 by omega,zL (by omega),gL]
   refine ⟨g1,hlt,fun c3=>?_,fun c3=>?_⟩
   ·rw [g3,Bool.false_or] at c3
    have e:(omk p (cd (at_ L i).1 (at_ L i).2)).nl 1=false:=by
     show fset p.nl (cd (at_ L i).1 (at_ L i).2) false 1=false
     rw [dJ _ _ (by omega)]
     exact g3
    refine ⟨⟨g3,c3⟩,by rw [e,aL8]; rfl,by omega,by omega,⟨by omega,by omega,e,?_⟩,by omega⟩
    rw [hs,List.foldl_append,← g4]
    show _=o6 k p (at_ L i)
    unfold o6 bl
    rw [g3,c3]
    rfl
   ·rw [g3,Bool.false_or] at c3
    have c3:=Bool.eq_false_iff.2 c3
    refine ⟨by rw [g3,c3]; rfl,by omega,by omega,⟨by omega,by omega,g3,?_⟩,by omega⟩
    rw [hs,List.foldl_append,← g4]
    show _=o6 k p (at_ L i)
    unfold o6 bl
    rw [g3,c3]
    rfl
  ·simp only at hge ⊢
   have:i.toNat=L.length:=by omega
   rw [this,List.take_length] at g4
   exact g4
theorem f170.ok (a:Ob Lbs×ByteArray×Lbs) (h:n7 a):f170.vc a:=by
 obtain ⟨o,n,L⟩:=a
 have h:L.length≤1048576:=h
 refine ⟨fun y=>0≤y∧y≤(L.length:Int)∧∀ j,j < y.toNat→gY o (cd (L.getD j default).1 (L.getD j default).2) (bl o (L.getD j default)) n=true,fun y=>L.length - y.toNat,⟨by omega,by omega,fun j hj=>absurd hj (Nat.not_lt_zero _)⟩,fun y hy=>?_⟩
 obtain ⟨g1,g2,g3⟩:=hy
 refine ⟨fun hlt=>?_,fun hge=>?_⟩
 ·simp only at hlt ⊢
  refine ⟨g1,hlt,fun c=>⟨by omega,by omega,⟨by omega,by omega,fun j hj=>?_⟩,by omega⟩,fun c=>?_⟩
  ·by_cases e:j=y.toNat
   ·subst e
    rw [← gL]
    exact c
   ·exact g3 j (by omega)
  ·symm
   rw [Bool.eq_false_iff]
   intro hh
   have:=(List.all_eq_true.1 hh) (at_ L y) (by rw [gL,List.getD_eq_getElem?_getD,List.getElem?_eq_getElem (by omega)]; exact List.getElem_mem _)
   exact c this
 ·simp only at hge
  symm
  refine List.all_eq_true.2 fun w hw=>?_
  obtain ⟨j,hj,rfl⟩:=List.mem_iff_getElem.1 hw
  have hj:j < L.length:=hj
  have:=g3 j (by omega)
  rw [List.getD_eq_getElem?_getD,List.getElem?_eq_getElem hj] at this
  exact this
theorem f262.ok (a:Ob Lbs) (_:True):f262.vc a:=rfl
theorem f1165.ok (a:ByteArray) (_:True):f1165.vc a:=rfl
theorem f1146.ok (a:ByteArray×Lbs) (_:True):f1146.vc a:=rfl
theorem f1149.ok (a:Lbs) (_:True):f1149.vc a:=rfl
theorem f1262.ok (a:Unit) (_:True):f1262.vc a:=rfl
def lC (b:Bool) (o:Ob Lbs) (j:Nat) (p:ByteArray→Bool) (s:Nat→Bool):List ByteArray:=bif b then [] else (((List.range (o.n j)).filter s).map (o.ks j)).filter p
section
variable {b:Bool} {o:Ob Lbs} {j:Nat} {p:ByteArray→Bool} {s:Nat→Bool}
theorem aE3:lC b o j p (fun _=>false)=[]:=by
 unfold lC
 cases b <;> simp
theorem aH8 (h:b=true∨∀ x,x < o.n j→s x=true):lC b o j p s=bif b then [] else ((List.range (o.n j)).map (o.ks j)).filter p:=by
 unfold lC
 cases b with
 | true=>rfl
 | false =>
  rcases h with h | h
  ·cases h
  ·simp only [cond_false]
   rw [List.filter_eq_self.2 fun x hx=>h x (List.mem_range.1 hx)]
theorem aII {x:Nat} (hx:x < o.n j) (hs:s x=false) (hp:p (o.ks j x)=true):(lC false o j p fun y=>bif Nat.beq y x then true else s y).Perm (lC false o j p s++[o.ks j x]):=by
 unfold lC
 have:=((pV (s:=s) List.nodup_range (List.mem_range.2 hx) hs).map (o.ks j)).filter p
 rw [List.map_cons,List.filter_cons_of_pos hp] at this
 exact this.trans (List.perm_append_comm (l₁:=[o.ks j x]))
theorem aFB {x:Nat} (hx:x < o.n j) (hs:s x=false) (hp:p (o.ks j x)=false):(lC false o j p fun y=>bif Nat.beq y x then true else s y).Perm (lC false o j p s):=by
 unfold lC
 have:=((pV (s:=s) List.nodup_range (List.mem_range.2 hx) hs).map (o.ks j)).filter p
 rw [List.map_cons,List.filter_cons_of_neg (by simp [hp])] at this
 exact this
theorem aJZ:(lC b o j p s).length≤(bif b then ([]:List ByteArray) else ((List.range (o.n j)).map (o.ks j)).filter fun _=>true).length:=by
 unfold lC
 cases b with
 | true=>exact Nat.le_refl _
 | false =>
  refine Nat.le_trans (List.length_filter_le _ _) ?_
  have:∀ l:List ByteArray,l.filter (fun _=>true)=l:=fun l=>by simp
  simp only [cond_false,List.length_map,this]
  exact List.length_filter_le _ _
end
theorem f149.ok (a:Ob Lbs×Lbs) (h:jB a):f149.vc a:=by
 obtain ⟨o,L⟩:=a
 obtain ⟨h1,h2,h3⟩:=h
 have h1:L.length≤1048576:=h1
 cases L with
 | nil=>exact absurd rfl h2
 | cons w0 R =>
  have hw:at_ (w0::R) (0:Int)=w0:=rfl
  have hR:xD (w0::R) (1:Int) ((w0::R).length:Int)=R:=by
   unfold xD
   simp
  have h3:=h3 w0
  refine ⟨fun c=>?_,fun _=>?_⟩
  ·simp only [List.length_cons] at c
   omega
  ·let b0:=bl o w0
   let J:=cd w0.1 w0.2
   let p:ByteArray→Bool:=fun n=>jJ (o,n,R)
   refine ⟨by simp only [List.length_cons]; omega,fun y=>y.2.1=b0∧y.1.Perm (lC b0 o J p y.2.2.1),fun y=>aGI o J y.2.2.1,⟨rfl,by simp only; rw [aE3]⟩,fun y hy=>?_⟩
   obtain ⟨out,b,s,q⟩:=y
   obtain ⟨e1,g⟩:=hy
   simp only at e1 g
   have hlen:out.length≤1048576:=by
    rw [g.length_eq]
    exact Nat.le_trans aJZ h3
   simp only [hw,hR]
   refine ⟨fun hov=>⟨hlen,aHP out,?_⟩,fun hb x hx hs=>?_⟩
   ·show eB slt out=eB slt (kD o w0 p)
    refine wS (g.trans ?_)
    rw [e1] at hov
    rw [aH8 hov]
    exact List.Perm.refl _
   ·have hb0:b0=false:=e1.symm.trans hb
    rw [hb0] at g
    have hmu:=aH7 (o:=o) hx hs
    refine ⟨by simp only [List.length_cons]; omega,Nat.le_of_succ_le (by simpa using h1),fun hp=>⟨by omega,⟨hb0.symm,?_⟩,hmu⟩,fun hp=>⟨⟨hb0.symm,?_⟩,hmu⟩⟩
    ·rw [hb0]
     exact (g.append_right _).trans (aII hx hs hp).symm
    ·rw [hb0]
     exact g.trans (aFB hx hs (Bool.eq_false_iff.2 hp)).symm
end Go.Abs
