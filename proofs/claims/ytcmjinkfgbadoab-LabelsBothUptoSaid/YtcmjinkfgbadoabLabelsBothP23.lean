/- Functions, and what the code asks of them: PLab. -/
import Derived.KernelRfl
import Derived.Test.YtcmjinkfgbadoabLabelsBothP5
import Derived.Test.YtcmjinkfgbadoabLabelsBothP6
import Derived.Test.YtcmjinkfgbadoabLabelsBothP7
import Derived.Test.YtcmjinkfgbadoabLabelsBothP8
import Derived.Test.YtcmjinkfgbadoabLabelsBothP9
import Derived.Test.YtcmjinkfgbadoabLabelsBothP10
import Derived.Test.YtcmjinkfgbadoabLabelsBothP12
import Derived.Test.YtcmjinkfgbadoabLabelsBothP13
import Derived.Test.YtcmjinkfgbadoabLabelsBothP20
import Derived.Test.YtcmjinkfgbadoabLabelsBothP21
set_option maxRecDepth 100000
set_option maxHeartbeats 4000000
set_option linter.unusedVariables false
set_option linter.unusedSimpArgs false
set_option linter.unusedSectionVars false
namespace Go.Abs
open Go
abbrev Lbs:Type:=List mJ
def bl (o:Ob Lbs) (k:mJ):Bool:=o.nl 1 || o.nl (cd k.1 k.2)
def aLJ (_:Unit):Unit:=()
def mF (name:ByteArray) (o:Ob Lbs) (k:mJ):Ob Lbs:=fQ o (cd k.1 k.2) (bl o k) name
def a7 (a:Ob Lbs×ByteArray):Bool×Ob Lbs :=
 (gK a.1 0 (a.1.nl 0) a.2,fQ ((kC a.1 a.2 []).foldl (mF a.2) a.1) 0 (((kC a.1 a.2 []).foldl (mF a.2) a.1).nl 0) a.2)
def oP (name:ByteArray) (o:Ob Lbs) (k:mJ):Ob Lbs:=dU (bif bl o k then omk o (cd k.1 k.2) else o) (cd k.1 k.2) name
def gB (o:Ob Lbs):Ob Lbs:=bif o.nl 0 then omk (omk o 0) 1 else o
def cE (a:Ob Lbs×ByteArray×Lbs):Ob Lbs:=a.2.2.foldl (oP a.2.1) (eZ (gB (a7 (a.1,a.2.1)).2) a.2.1 a.2.2)
def i9 (a:Ob Lbs×ByteArray×Lbs):Bool:=a.2.2.all fun k=>gK a.1 (cd k.1 k.2) (bl a.1 k) a.2.1
def jW (o:Ob Lbs) (k:mJ) (p:ByteArray→Bool):List ByteArray:=bif bl o k then [] else ((List.range (o.n (cd k.1 k.2))).map (o.ks (cd k.1 k.2))).filter p
def a6 (a:Ob Lbs×Lbs):List ByteArray:=match a.2 with
 | []=>gI (bif a.1.nl 0 then 0 else a.1.n 0) (a.1.ks 0)
 | k::l=>dG (jW a.1 k fun n=>i9 (a.1,n,l))
def iK (a:Ob Lbs):Int:=(aF9 a 0 (a.nl 0):Int)
def eG (a:Ob Lbs×ByteArray):Prop:=L20 (kC a.1 a.2 [])
def eC (a:Ob Lbs×ByteArray×Lbs):Prop:=L20 (kC a.1 a.2.1 [])∧L20 a.2.2∧a.1.nl 0=a.1.nl 1
def oB (a:Ob Lbs×ByteArray×Lbs):Prop:=L20 a.2.2
def bJ (a:Ob Lbs×Lbs):Prop:=L20 a.2∧(a.2=[]→rL (bif a.1.nl 0 then 0 else a.1.n 0) (a.1.ks 0))∧∀ w,(jW a.1 w fun _=>true).length≤1048576
def dO (a:Lbs):Lbs:=a
def iS (l:List (ByteArray×Lbs)) (w:Lbs):List ByteArray:=(l.filter fun x=>jD (x.2,w)).map (·.1)
def dC (a:Ps Lbs×Lbs):List ByteArray×Ps Lbs:=(iS (pz a.1) a.2,a.1)
def hZ (a:Ps Lbs×Lbs):Prop:=wF a.1∧L20 a.2∧∀ x∈a.1.2,L20 x
def cM (l:Lbs):Bool:=decide (l.length≤30)&&(List.range l.length).all fun i=>decide ((l.getD i default).1.size+(l.getD i default).2.size≤1000)
def dD (l:Lbs):Prop:=L20 l∧∀ x∈l,x.1.size+x.2.size≤1048576
def fA (s:List (Int×ByteArray×Lbs)):Bool:=decide (s.length≤200)&&(List.range s.length).all fun i=>decide ((s.getD i default).2.1.size≤1000)&&cM (s.getD i default).2.2
def fC (s:List (Int×ByteArray×Lbs)):Prop:=L20 s∧∀ x∈s,dD x.2.2
theorem aEG (x y:ByteArray):100≤cd x y:=by unfold cd; omega
theorem aK9 {w w':mJ} (h:cd w.1 w.2=cd w'.1 w'.2):w=w':=Prod.ext (aC8 h).1 (aC8 h).2
def Up (o:Ob Lbs):Prop:=o.nl 1=true→∀ x y,o.nl (cd x y)=true
structure RepL (o:Ob Lbs) (l:List (ByteArray×Lbs)):Prop where
 ok:Ook o
 fam:o.nl 0=o.nl 1
 up:Up o
 val:∀ k x,iC o k x↔(k,x)∈l
 set:∀ (w:mJ) k,iI o (cd w.1 w.2) k↔∃ x,(k,x)∈l∧w∈x
 ris:Rising l
theorem aHE {o:Ob Lbs} (h:Up o) (k:mJ):bl o k=o.nl (cd k.1 k.2):=by
 unfold bl
 cases hn:o.nl 1 with
 | true=>rw [h hn]; rfl
 | false=>rfl
theorem aIQ {A:Type} {o:Ob A} (h:Ook o) {j:Nat} {k:ByteArray}:gK o j (o.nl j) k=true↔iI o j k:=by
 unfold gK
 rw [Bool.and_eq_true,decide_eq_true_eq,Bool.not_eq_true']
 constructor
 ·rintro ⟨_,h2⟩
  exact ⟨_,h2,oK _ _ _ h2,rfl⟩
 ·intro hk
  refine ⟨?_,?_⟩
  ·cases hn:o.nl j with
   | true=>exact absurd hk (i3 h hn k)
   | false=>rfl
  ·obtain ⟨i,hi,e,_⟩:=hk
   have:=vT (o.ks j) k _ i hi e
   omega
theorem RepL.zero:RepL (ob0 Lbs) []:=⟨⟨fun _ _=>rfl,fun _ i _ hi=>absurd hi (Nat.not_lt_zero _)⟩,rfl,fun _ _ _=>rfl,fun k x=>⟨fun ⟨i,hi,_⟩=>absurd hi (Nat.not_lt_zero _),fun h=>by cases h⟩,
 fun w k=>⟨fun ⟨i,hi,_⟩=>absurd hi (Nat.not_lt_zero _),fun ⟨x,h,_⟩=>by cases h⟩,List.Pairwise.nil⟩
theorem zH {A:Type} (o:Ob A) (j:Nat) (b:Bool) (k:ByteArray):(fQ o j b k).nl=o.nl:=rfl
theorem aBY (name:ByteArray):∀ (l:Lbs) {o:Ob Lbs},Ook o→Up o →
  Ook (l.foldl (mF name) o)∧(l.foldl (mF name) o).nl=o.nl∧(∀ j k,iI (l.foldl (mF name) o) j k↔iI o j k∧¬(k=name∧∃ w∈l,j=cd w.1 w.2))∧∀ k x,iC (l.foldl (mF name) o) k x↔iC o k x
 | [],o,h,_=>⟨h,rfl,fun j k=>by simp,fun _ _=>Iff.rfl⟩
 | w::l,o,h,hu=>by
  have e:mF name o w=fQ o (cd w.1 w.2) (o.nl (cd w.1 w.2)) name:=by
   unfold mF
   rw [aHE hu]
  have h1:=oE h (cd w.1 w.2) name
  have hu1:Up (fQ o (cd w.1 w.2) (o.nl (cd w.1 w.2)) name):=hu
  obtain ⟨g1,g2,g3,g4⟩:=aBY name l h1 hu1
  rw [List.foldl_cons,e]
  refine ⟨g1,g2,fun j k=>?_,fun k x=>?_⟩
  ·rw [g3,qR h]
   constructor
   ·rintro ⟨⟨a,b⟩,c⟩
    refine ⟨a,?_⟩
    rintro ⟨rfl,w',hw',rfl⟩
    rcases List.mem_cons.1 hw' with rfl | hw'
    ·exact b ⟨rfl,rfl⟩
    ·exact c ⟨rfl,w',hw',rfl⟩
   ·rintro ⟨a,b⟩
    refine ⟨⟨a,fun ⟨e1,e2⟩=>b ⟨e2,w,List.mem_cons_self,e1⟩⟩,fun ⟨e1,w',hw',e2⟩=>b ⟨e1,w',List.mem_cons_of_mem _ hw',e2⟩⟩
  ·rw [g4,q8 h]
   have:=aFE (x:=w.1) (y:=w.2)
   exact ⟨fun hh=>hh.1,fun hh=>⟨hh,fun e2=>this e2.1⟩⟩
section
variable {o:Ob Lbs} {l:List (ByteArray×Lbs)}
theorem RepL.get (r:RepL o l) (k:ByteArray) (z:Lbs):(kC o k z,gK o 0 (o.nl 0) k)=tE l k z:=by
 by_cases h:∃ x,iC o k x
 ·have hh:=(jJ r.ok).2 h
  obtain ⟨x,hx⟩:=h
  unfold kC
  rw [hh,aAK r.ok hx,uZ r.ris ((r.val k x).1 hx)]
  rfl
 ·have hh:gK o 0 (o.nl 0) k=false:=by
   rw [← Bool.not_eq_true,jJ r.ok]
   exact h
  unfold kC
  rw [hh,rJ fun x hx=>h ⟨x,(r.val k x).2 hx⟩]
  rfl
theorem RepL.gets (r:RepL o l) {k:ByteArray} {x:Lbs} (h:(k,x)∈l):kC o k []=x:=by
 have:=r.get k []
 rw [uZ r.ris h] at this
 exact (Prod.mk.inj this).1
theorem RepL.getNo (r:RepL o l) {k:ByteArray} (h:∀ x,(k,x) ∉ l):kC o k []=[]:=by
 have:=r.get k []
 rw [rJ h] at this
 exact (Prod.mk.inj this).1
theorem RepL.del (r:RepL o l) (k:ByteArray):(a7 (o,k)).1=(tE l k []).2∧RepL (a7 (o,k)).2 (nE l k):=by
 refine ⟨(Prod.mk.inj (r.get k [])).2,?_⟩
 obtain ⟨g1,g2,g3,g4⟩:=aBY k (kC o k []) r.ok r.up
 show RepL (fQ ((kC o k []).foldl (mF k) o) 0 (((kC o k []).foldl (mF k) o).nl 0) k) _
 refine ⟨oE g1 0 k,?_,?_,fun k' x=>?_,fun w k'=>?_,r.ris.del k⟩
 ·rw [zH,g2]
  exact r.fam
 ·intro h x y
  rw [zH,g2] at h ⊢
  exact r.up h x y
 ·rw [q8 g1,g4,r.val,eA]
  simp
 ·rw [qR g1,g3,r.set]
  simp only [eA]
  have hb:=aEG w.1 w.2
  constructor
  ·rintro ⟨⟨⟨x,h1,h2⟩,h3⟩,_⟩
   refine ⟨x,⟨h1,fun e=>h3 ⟨e,w,?_,rfl⟩⟩,h2⟩
   subst e
   rw [r.gets h1]
   exact h2
  ·rintro ⟨x,⟨h1,h2⟩,h3⟩
   exact ⟨⟨⟨x,h1,h3⟩,fun e=>h2 e.1⟩,fun e=>h2 e.2⟩
theorem aJK {o:Ob Lbs} (h:o.nl 0=o.nl 1):gB o=mK (mK o 0) 1:=by
 unfold gB mK
 cases hn:o.nl 0 with
 | true =>
  have:(omk o 0).nl 1=true:=by rw [show (omk o 0).nl 1=o.nl 1 from rfl,← h,hn]
  simp only [cond_true,this]
 | false =>
  rw [hn] at h
  simp only [cond_false,← h]
theorem y2 {o:Ob Lbs} (h:o.nl 0=o.nl 1):(gB o).nl 0=false∧(gB o).nl 1=false:=by
 unfold gB
 cases hn:o.nl 0 with
 | true=>exact ⟨rfl,rfl⟩
 | false=>exact ⟨hn,by rw [cond_false,← h,hn]⟩
theorem RepL.made (r:RepL o l):RepL (gB o) l:=by
 obtain ⟨h1,h2⟩:=y2 r.fam
 refine ⟨?_,by rw [h1,h2],(fun h=>by rw [h2] at h; cases h),?_,?_,r.ris⟩ <;> rw [aJK r.fam]
 ·exact pL (pL r.ok 0) 1
 ·intro k x
  rw [qI (pL r.ok 0),qI r.ok,r.val]
 ·intro w k
  rw [qG (pL r.ok 0),qG r.ok,r.set]
theorem aJ3 {o:Ob Lbs} (h:o.nl 1=false) (name:ByteArray) (k:mJ):oP name o k=dU (mK o (cd k.1 k.2)) (cd k.1 k.2) name:=by
 unfold oP mK bl
 rw [h,Bool.false_or]
theorem aE2 (name:ByteArray):∀ (l:Lbs) {o:Ob Lbs},Ook o→o.nl 1=false →
  Ook (l.foldl (oP name) o)∧(l.foldl (oP name) o).nl 1=false∧(l.foldl (oP name) o).nl 0=o.nl 0∧(∀ j k,iI (l.foldl (oP name) o) j k↔iI o j k∨(k=name∧∃ w∈l,j=cd w.1 w.2))∧∀ k x,iC (l.foldl (oP name) o) k x↔iC o k x
 | [],o,h,h1=>⟨h,h1,rfl,fun j k=>by simp,fun _ _=>Iff.rfl⟩
 | w::l,o,h,h1=>by
  have hb:=aEG w.1 w.2
  have o1:=pL h (cd w.1 w.2)
  have o2:=aEL (k:=name) o1 (aDP o (cd w.1 w.2))
  have hn:∀ j,j < 100→(dU (mK o (cd w.1 w.2)) (cd w.1 w.2) name).nl j=o.nl j:=fun j hj=>by
   show (mK o (cd w.1 w.2)).nl j=_
   unfold mK
   cases o.nl (cd w.1 w.2) with
   | true=>exact dH _ _ (by omega)
   | false=>rfl
  obtain ⟨g1,g2,g3,g4,g5⟩:=aE2 name l o2 ((hn 1 (by omega)).trans h1)
  rw [List.foldl_cons,aJ3 h1]
  refine ⟨g1,g2,g3.trans (hn 0 (by omega)),fun j k=>?_,fun k x=>?_⟩
  ·rw [g4,aB2 o1,qG h]
   constructor
   ·rintro ((⟨rfl,rfl⟩ | a) | ⟨rfl,w',hw',rfl⟩)
    ·exact .inr ⟨rfl,w,List.mem_cons_self,rfl⟩
    ·exact .inl a
    ·exact .inr ⟨rfl,w',List.mem_cons_of_mem _ hw',rfl⟩
   ·rintro (a | ⟨rfl,w',hw',rfl⟩)
    ·exact .inl (.inr a)
    ·rcases List.mem_cons.1 hw' with rfl | hw'
     ·exact .inl (.inl ⟨rfl,rfl⟩)
     ·exact .inr ⟨rfl,w',hw',rfl⟩
  ·rw [g5,aBX (by omega),qI h]
theorem RepL.put (r:RepL o l) (k:ByteArray) (x:Lbs):RepL (cE (o,k,x)) (rV l k x):=by
 have r1:=(r.del k).2
 have r2:=r1.made
 obtain ⟨n0,n1⟩:=y2 r1.fam
 have o3:=aEP (k:=k) (x:=x) r2.ok n0
 obtain ⟨g1,g2,g3,g4,g5⟩:=aE2 k x o3 n1
 refine ⟨g1,?_,fun h=>?_,fun k' y=>?_,fun w k'=>?_,r.ris.put k x⟩
 ·exact g3.trans (n0.trans g2.symm)
 ·have h:(List.foldl (oP k) (eZ (gB (a7 (o,k)).2) k x) x).nl 1=true:=h
  rw [g2] at h
  cases h
 ·show iC (List.foldl (oP k) (eZ (gB (a7 (o,k)).2) k x) x) k' y↔_
  rw [g5,aCU r2.ok,r2.val,kH,eA]
  constructor
  ·rintro (h | ⟨h1,h2,_⟩)
   ·exact .inl h
   ·exact .inr ⟨h1,h2⟩
  ·rintro (h | ⟨h1,h2⟩)
   ·exact .inl h
   ·exact .inr ⟨h1,h2,h1⟩
 ·show iI (List.foldl (oP k) (eZ (gB (a7 (o,k)).2) k x) x) _ k'↔_
  rw [g4,aAS aFE,r2.set]
  simp only [kH,eA]
  constructor
  ·rintro (⟨y,⟨h1,h2⟩,h3⟩ | ⟨rfl,w',hw',e⟩)
   ·exact ⟨y,.inr ⟨h2,h1⟩,h3⟩
   ·rw [aK9 e]
    exact ⟨x,.inl ⟨rfl,rfl⟩,hw'⟩
  ·rintro ⟨y,⟨rfl,rfl⟩ | ⟨h1,h2⟩,h3⟩
   ·exact .inr ⟨rfl,w,h3,rfl⟩
   ·exact .inl ⟨y,⟨h2,h1⟩,h3⟩
theorem uU {x:Lbs} {w:mJ}:aDG (x,w)=true↔w∈x:=by
 unfold aDG
 rw [List.any_eq_true]
 exact ⟨fun ⟨y,h1,h2⟩=>(show y=w from of_decide_eq_true h2) ▸ h1,fun h=>⟨w,h,decide_eq_true rfl⟩⟩
theorem RepL.one (r:RepL o l) {k:ByteArray} {x:Lbs} (h:(k,x)∈l) (w:mJ):gK o (cd w.1 w.2) (bl o w) k=aDG (x,w):=by
 rw [aHE r.up,Bool.eq_iff_iff,aIQ r.ok,r.set,uU]
 exact ⟨fun ⟨y,h1,h2⟩=>r.ris.uniq h1 h ▸ h2,fun h1=>⟨x,h,h1⟩⟩
theorem RepL.all (r:RepL o l) {k:ByteArray} {x:Lbs} (h:(k,x)∈l) (w:Lbs):i9 (o,k,w)=jD (x,w):=by
 unfold i9 jD
 induction w with
 | nil=>rfl
 | cons a w ih =>
  rw [List.all_cons,List.all_cons]
  exact congr (congrArg and (r.one h a)) ih
theorem aD8 (h:Up o) (k:mJ) (p:ByteArray→Bool):jW o k p=kF o p (cd k.1 k.2):=by
 unfold jW kF
 rw [aHE h]
theorem RepL.perm (r:RepL o l) (k:mJ) (w:Lbs):(jW o k fun n=>i9 (o,n,w)).Perm (iS l (k::w)):=by
 rw [aD8 r.up]
 refine (List.perm_ext_iff_of_nodup (l8 r.ok _ _) (Rising.namesN (List.Pairwise.filter _ r.ris))).2 fun n=>?_
 rw [gS r.ok,r.set,List.mem_map]
 constructor
 ·rintro ⟨⟨x,h1,h2⟩,h3⟩
  refine ⟨(n,x),List.mem_filter.2 ⟨h1,?_⟩,rfl⟩
  rw [r.all h1] at h3
  show (aDG (x,k)&&jD (x,w))=true
  rw [uU.2 h2,h3]
  rfl
 ·rintro ⟨⟨n',x⟩,h,rfl⟩
  obtain ⟨h1,h2⟩:=List.mem_filter.1 h
  have h2:(aDG (x,k)&&jD (x,w))=true:=h2
  rw [Bool.and_eq_true] at h2
  exact ⟨⟨x,h1,uU.1 h2.1⟩,by rw [r.all h1]; exact h2.2⟩
theorem RepL.perm0 (r:RepL o l):(kF o (fun _=>true) 0).Perm (l.map (·.1)):=by
 refine (List.perm_ext_iff_of_nodup (l8 r.ok _ _) r.ris.namesN).2 fun n=>?_
 rw [gS r.ok,pW,List.mem_map]
 constructor
 ·rintro ⟨⟨x,h1⟩,_⟩
  exact ⟨(n,x),(r.val n x).1 h1,rfl⟩
 ·rintro ⟨⟨n',x⟩,h,rfl⟩
  exact ⟨⟨x,(r.val n' x).2 h⟩,rfl⟩
theorem RepL.num (r:RepL o l):o.n 0=l.length:=by
 have hp:((List.range (o.n 0)).map fun i=>(o.ks 0 i,o.v i)).Perm l:=by
  refine (List.perm_ext_iff_of_nodup (rT fun i j hi hj e=>r.ok.inj 0 i j hi hj (Prod.mk.inj e).1) r.ris.nodup).2 fun ⟨k,x⟩=>?_
  rw [← r.val,List.mem_map]
  constructor
  ·rintro ⟨i,hi,e⟩
   obtain ⟨e1,e2⟩:=Prod.mk.inj e
   exact ⟨i,List.mem_range.1 hi,e1,e2⟩
  ·rintro ⟨i,hi,e1,e2⟩
   exact ⟨i,List.mem_range.2 hi,by rw [e1,e2]⟩
 simpa using hp.length_eq
theorem RepL.len (r:RepL o l):iK o=(l.length:Int):=by
 rw [← r.num]
 unfold iK aF9
 cases hn:o.nl 0 with
 | true=>rw [r.ok.nil 0 hn]; rfl
 | false=>rfl
theorem RepL.names_le (r:RepL o l) (w:mJ):(jW o w fun _=>true).length≤l.length:=by
 have h:=r.perm w []
 rw [show (fun n=>i9 (o,n,[]))=fun _=>true from rfl] at h
 rw [h.length_eq]
 unfold iS
 rw [List.length_map]
 exact List.length_filter_le _ _
end
def f144.args (a:Unit):List D:=[]
def f144.blks (a:Unit):List (List D):=[]
def f144.res (a:Unit):List D:=[.newp [.nilm,.nilm]]
def f144.blks' (a:Unit):List (List D):=[]
def f144.C:bA:=FnC f144.args f144.blks (fun _=>True) f144.res f144.blks'
set_option linter.unusedVariables false
def f144.kills (a:Unit):List lT:=[]
def f144.cuts (a:Unit):List (Nat×Σ β:Type,β→Tm):=[]
def f144.af (a:Unit):AF:=AF.mk (.seq (.region [⟨(some 0),0,.move,[.c (.nilp)],none⟩])
 (.seq (.region [oT 1 1 (.build [.nilm,.nilm] []) [],
 oT 2 2 .box [1],
 mT 0 3 2])
 (.ret)))
 [.tmp 0] 0 3
def f144.env:Env:=[]
def f144.tree (a:Unit):Prop:=(DEqs [.nilm,.nilm] [.nilm,.nilm])∧True
def f144.vc (a:Unit):Prop:=(()=aLJ a)
theorem f144.of (a:Unit) (h:f144.vc a):f144.tree a:=⟨(Eq.mp (congrArg (fun x:Unit=>DEqs [.nilm,.nilm] [.nilm,.nilm]) h) (DEqs.refl _)),trivial⟩
theorem f144.eq (a:Unit):(f144.af a).gives f144.env (f144.args a) (f144.blks a) (f144.res a) (f144.blks' a)=f144.tree a:=by kernel_rfl
def f166.ent (K:(List (aB))→Prop) (t:List (aB)):Prop:=∃ c:List (aB),SlQ t.length c.length (gl aD t) (gl aD c) (K c)
theorem f166.ei {K:(List (aB))→Prop} {t:List (aB)} (h:K t):f166.ent K t:=⟨t,slQ (rS aD) (h)⟩
def f166.args (a:List (aB)):List D:=[.slice .ro 2 a.length (gl aD a)]
def f166.blks (a:List (aB)):List (List D):=[]
def f166.res (a:List (aB)):List D:=[.slice .ro 2 ((dO a).length) (gl aD (dO a))]
def f166.blks' (a:List (aB)):List (List D):=[]
def f166.C:bA:=FnC f166.args f166.blks (fun a=>L20 a) f166.res f166.blks'
def f166.kills (a:List (aB)):List lT:=[]
def f166.cuts (a:List (aB)):List (Nat×Σ β:Type,β→Tm):=[]
def f166.af (a:List (aB)):AF:=AF.mk (.seq (.region [oT 2 0 (.nilSl 2) []])
 (.seq (.seq (.region [mT 3 1 0,
 oT 4 2 (.isNil false false) [3]])
 (.cond (.t 4) (.seq (.region [oT 2 3 (.nilSl 2) []])
 (.ret)) (.skip)))
 (.seq (.region [oT 5 4 (.buildSlice 2 0 [.str ByteArray.empty,.str ByteArray.empty] []) [],
 mT 6 5 0,
 oT 7 6 (.append 2 32) [5,6],
 mT 2 7 7])
 (.ret))))
 [.tmp 2] 0 7
def f166.env:Env:=[]
def f166.tree (a:List (aB)):Prop:=Br (Nat.beq a.length 0) (((0=0)∧SlQ 0 ((dO a).length) d8 (gl aD (dO a)) (True))∧((oS ((0+a.length) * 32))∧(((0+a.length)=(0+a.length))∧SlQ (0+a.length) ((dO a).length) (gO (fun j=>List.take 2 (List.drop (j * 2) [])) 0 (gl aD a)) (gl aD (dO a)) (True)))) ((oS ((0+a.length) * 32))∧(((0+a.length)=(0+a.length))∧SlQ (0+a.length) ((dO a).length) (gO (fun j=>List.take 2 (List.drop (j * 2) [])) 0 (gl aD a)) (gl aD (dO a)) (True)))
def f166.vc (a:List (aB)):Prop:=((a.length=0→(([]=dO a)∧(0+a.length≤1073741824∧(([])++a=dO a))))∧(¬(a.length=0)→(0+a.length≤1073741824∧(([])++a=dO a))))
theorem f166.of (a:List (aB)) (h:f166.vc a):f166.tree a:=br h Cnd.beq (fun h1 k6=>⟨⟨rfl,slQ (Rds.to (Rds.nil (enc:=aD)) k6.1) (trivial)⟩,⟨(nU k6.2.1 (by decide)),⟨rfl,slQ (Rds.to (Rds.app (enc:=aD) (Rds.nil (enc:=aD)) (rS aD)) k6.2.2) (trivial)⟩⟩⟩) (fun h2 k7=>⟨(nU k7.1 (by decide)),⟨rfl,slQ (Rds.to (Rds.app (enc:=aD) (Rds.nil (enc:=aD)) (rS aD)) k7.2) (trivial)⟩⟩)
theorem f166.eq (a:List (aB)):(f166.af a).gives f166.env (f166.args a) (f166.blks a) (f166.res a) (f166.blks' a)=f166.tree a:=by kernel_rfl
def f165.args (a:(Ob (List (aB)))×ByteArray):List D:=[.ptr 0 0,.str a.2]
def f165.blks (a:(Ob (List (aB)))×ByteArray):List (List D):=[[.dead,.obj 202 0 1 a.1.nl a.1.n a.1.ks (ovs aA a.1)]]
def f165.res (a:(Ob (List (aB)))×ByteArray):List D:=[.bool ((a7 a).1)]
def f165.blks' (a:(Ob (List (aB)))×ByteArray):List (List D):=[[.dead,.obj 202 1 1 ((a7 a).2).nl ((a7 a).2).n ((a7 a).2).ks (ovs aA ((a7 a).2))]]
def f165.C:bA:=FnC f165.args f165.blks (fun a=>eG a) f165.res f165.blks'
def f165.S0 (a:(Ob (List (aB)))×ByteArray) (x:Bool×(List (aB))×Int×Int×(Nat×Ob (List (aB)))):Tm:=⟨.ptr 0 0::.str a.2::.dead::.dead::.dead::.dead::.bool x.1::dd 13 (.slice .ro 2 x.2.1.length (gl aD x.2.1)::.int .i64 x.2.2.1::.int .i64 x.2.2.2.1::dd 17 []),[(0,false,[.dead,.obj 202 x.2.2.2.2.1 1 x.2.2.2.2.2.nl x.2.2.2.2.2.n x.2.2.2.2.2.ks (ovs aA x.2.2.2.2.2)])],[]⟩
def f165.kills (a:(Ob (List (aB)))×ByteArray):List lT:=[.tell (Bool×(List (aB))×Int×Int×(Nat×Ob (List (aB)))) (f165.S0 a)]
def f165.cuts (a:(Ob (List (aB)))×ByteArray):List (Nat×Σ β:Type,β→Tm):=[(100004,⟨(List (aB))×Bool,fun x=>⟨.ptr 0 0::.str a.2::.dead::.dead::.dead::.slice .ro 2 x.1.length (gl aD x.1)::.bool x.2::dd 33 [],[(0,false,[.dead,.obj 202 0 1 a.1.nl a.1.n a.1.ks (ovs aA a.1)])],[]⟩⟩)]
def f165.af (a:(Ob (List (aB)))×ByteArray):AF:=AF.mk (.seq (.region [⟨(some 4),1,.move,[.c (.bool false)],none⟩])
 (.seq (.seq (.region [mT 9 2 0,
 oT 10 3 (.isNil true false) [9]])
 (.cond (.t 10) (.seq (.region [⟨(some 4),4,.move,[.c (.bool false)],none⟩])
 (.ret)) (.skip)))
 (.joinT ((List (aB))×Bool) (fun x=>⟨.ptr 0 0::.str a.2::.dead::.dead::.dead::.slice .ro 2 x.1.length (gl aD x.1)::.bool x.2::dd 33 [],[(0,false,[.dead,.obj 202 0 1 a.1.nl a.1.n a.1.ks (ovs aA a.1)])],[]⟩) (.region [mT 12 5 0,
 oT 13 6 .nilCheck [12],
 oT 14 7 (.fieldAddr 0) [13],
 oT 15 8 (.load false 1) [14],
 mT 16 9 1,
 oT 17 10 (.mapGet true false [.slice .full 2 0 d8]) [15,16],
 mT 11 11 17,
 oT 18 12 (.extract 0) [11],
 oT 19 13 (.extract 1) [11],
 mT 5 14 18,
 mT 6 15 19])
 (.seq (.seq (.region [mT 20 16 5,
 oT 21 17 (.len false) [20],
 ⟨(some 22),18,.move,[.c (.int .i64 (0))],none⟩])
 (.block 0 (.loopT (Bool×(List (aB))×Int×Int×(Nat×Ob (List (aB)))) (f165.S0 a) 19 36 (.seq (.region [oT 23 19 (.bin .lss) [22,21]])
 (.seq (.cond (.t 23) (.skip) (.exit 0))
 (.seq (.block 1 (.seq (.region [oT 24 20 (.indexAddr 2 none) [20,22],
 oT 25 21 (.load true 2) [24],
 oT 8 22 (.alloc [.str ByteArray.empty,.str ByteArray.empty]) [],
 ⟨none,25,(.store 2),[.t 8,.t 25],none⟩])
 (.region [mT 26 26 0,
 oT 27 27 .nilCheck [26],
 oT 28 28 (.fieldAddr 1) [27],
 oT 29 29 (.load false 1) [28],
 oT 30 30 (.load true 2) [8],
 oT 31 31 .famGet [29,30],
 mT 32 32 1,
 ⟨none,33,.mapDel,[.t 31,.t 32],none⟩])))
 (.region [⟨(some 33),34,(.bin .add),[.t 22,.c (.int .i64 (1))],none⟩,
 mT 22 35 33])))))))
 (.seq (.region [mT 34 36 0,
 oT 35 37 .nilCheck [34],
 oT 36 38 (.fieldAddr 0) [35],
 oT 37 39 (.load false 1) [36],
 mT 38 40 1,
 ⟨none,41,.mapDel,[.t 37,.t 38],none⟩])
 (.seq (.region [mT 39 42 6,
 mT 4 43 39])
 (.ret)))))))
 [.tmp 4] 1 38
def f165.env:Env:=[]
def f165.tree (a:(Ob (List (aB)))×ByteArray):Prop:=∃ I1:((List (aB))×Bool)→Prop,(Br (gK a.1 0 (a.1.nl 0) a.2) (∃ x4:(List (aB))×Bool,(a.2=a.2)∧SlQ ((oat a.1 a.2).length) x4.1.length (gl aD (oat a.1 a.2)) (gl aD x4.1) ((true=x4.2)∧ObQ 0 0 a.1.nl a.1.nl a.1.n a.1.n a.1.ks a.1.ks (ovs aA a.1) (ovs aA a.1) (I1 x4))) (∃ x5:(List (aB))×Bool,(a.2=a.2)∧SlQ 0 x5.1.length d8 (gl aD x5.1) ((false=x5.2)∧ObQ 0 0 a.1.nl a.1.nl a.1.n a.1.n a.1.ks a.1.ks (ovs aA a.1) (ovs aA a.1) (I1 x5))))∧∀ y8:(List (aB))×Bool,I1 y8→(∃ (I12:(Bool×(List (aB))×Int×Int×(Nat×Ob (List (aB))))→Prop) (μ13:(Bool×(List (aB))×Int×Int×(Nat×Ob (List (aB))))→Nat),(∃ x11:Bool×(List (aB))×Int×Int×(Nat×Ob (List (aB))),(a.2=a.2)∧(y8.2=x11.1)∧SlQ y8.1.length x11.2.1.length (gl aD y8.1) (gl aD x11.2.1) (((y8.1.length:Int)=x11.2.2.1)∧((0:Int)=x11.2.2.2.1)∧ObQ 0 x11.2.2.2.2.1 a.1.nl x11.2.2.2.2.2.nl a.1.n x11.2.2.2.2.2.n a.1.ks x11.2.2.2.2.2.ks (ovs aA a.1) (ovs aA x11.2.2.2.2.2) (I12 x11)))∧∀ y14:Bool×(List (aB))×Int×Int×(Nat×Ob (List (aB))),I12 y14→(Br (decide (y14.2.2.2.1 < y14.2.2.1)) (Br (decide ((0:Int)≤y14.2.2.2.1)&&decide (y14.2.2.2.1 < (y14.2.1.length:Int))) (Let (wI (y14.2.2.2.1+(1:Int))) (fun v18:Int=>∃ x19:Bool×(List (aB))×Int×Int×(Nat×Ob (List (aB))),(a.2=a.2)∧(y14.1=x19.1)∧SlQ y14.2.1.length x19.2.1.length (gl aD y14.2.1) (gl aD x19.2.1) ((y14.2.2.1=x19.2.2.1)∧(v18=x19.2.2.2.1)∧ObQ (y14.2.2.2.2.1+1) x19.2.2.2.2.1 (fQ y14.2.2.2.2.2 (cd ((at_ y14.2.1 y14.2.2.2.1).1) ((at_ y14.2.1 y14.2.2.2.1).2)) ((y14.2.2.2.2.2.nl 1) || y14.2.2.2.2.2.nl (cd ((at_ y14.2.1 y14.2.2.2.1).1) ((at_ y14.2.1 y14.2.2.2.1).2))) a.2).nl x19.2.2.2.2.2.nl (fQ y14.2.2.2.2.2 (cd ((at_ y14.2.1 y14.2.2.2.1).1) ((at_ y14.2.1 y14.2.2.2.1).2)) ((y14.2.2.2.2.2.nl 1) || y14.2.2.2.2.2.nl (cd ((at_ y14.2.1 y14.2.2.2.1).1) ((at_ y14.2.1 y14.2.2.2.1).2))) a.2).n x19.2.2.2.2.2.n (fQ y14.2.2.2.2.2 (cd ((at_ y14.2.1 y14.2.2.2.1).1) ((at_ y14.2.1 y14.2.2.2.1).2)) ((y14.2.2.2.2.2.nl 1) || y14.2.2.2.2.2.nl (cd ((at_ y14.2.1 y14.2.2.2.1).1) ((at_ y14.2.1 y14.2.2.2.1).2))) a.2).ks x19.2.2.2.2.2.ks (bif ((y14.2.2.2.2.2.nl 1) || y14.2.2.2.2.2.nl (cd ((at_ y14.2.1 y14.2.2.2.1).1) ((at_ y14.2.1 y14.2.2.2.1).2))) then (ovs aA y14.2.2.2.2.2) else fset (ovs aA y14.2.2.2.2.2) (cd ((at_ y14.2.1 y14.2.2.2.1).1) ((at_ y14.2.1 y14.2.2.2.1).2)) (eJ ((ovs aA y14.2.2.2.2.2) (cd ((at_ y14.2.1 y14.2.2.2.1).1) ((at_ y14.2.1 y14.2.2.2.1).2))) (mpF (y14.2.2.2.2.2.ks (cd ((at_ y14.2.1 y14.2.2.2.1).1) ((at_ y14.2.1 y14.2.2.2.1).2))) a.2 (y14.2.2.2.2.2.n (cd ((at_ y14.2.1 y14.2.2.2.1).1) ((at_ y14.2.1 y14.2.2.2.1).2)))))) (ovs aA x19.2.2.2.2.2) (I12 x19∧μ13 x19 < μ13 y14)))) False) ((y14.1=((a7 a).1))∧ObQ 1 1 (fQ y14.2.2.2.2.2 0 (y14.2.2.2.2.2.nl 0) a.2).nl ((a7 a).2).nl (fQ y14.2.2.2.2.2 0 (y14.2.2.2.2.2.nl 0) a.2).n ((a7 a).2).n (fQ y14.2.2.2.2.2 0 (y14.2.2.2.2.2.nl 0) a.2).ks ((a7 a).2).ks (bif (y14.2.2.2.2.2.nl 0) then (ovs aA y14.2.2.2.2.2) else fset (ovs aA y14.2.2.2.2.2) 0 (eJ ((ovs aA y14.2.2.2.2.2) 0) (mpF (y14.2.2.2.2.2.ks 0) a.2 (y14.2.2.2.2.2.n 0)))) (ovs aA ((a7 a).2)) (True))))
def f165.vc (a:(Ob (List (aB)))×ByteArray):Prop:=(∃ I1:((List (aB))×Bool)→Prop,(((gK a.1 0 (a.1.nl 0) a.2=true→(I1 (oat a.1 a.2,true)))∧(¬(gK a.1 0 (a.1.nl 0) a.2=true)→(I1 ([],false)))))∧∀ y8:(List (aB))×Bool,I1 y8→(∃ (I12:(Bool×(List (aB))×Int×Int×(Nat×Ob (List (aB))))→Prop) (μ13:(Bool×(List (aB))×Int×Int×(Nat×Ob (List (aB))))→Nat),I12 (y8.2,y8.1,(y8.1.length:Int),(0:Int),(0,a.1))∧∀ y14:Bool×(List (aB))×Int×Int×(Nat×Ob (List (aB))),I12 y14→((y14.2.2.2.1 < y14.2.2.1→((0:Int)≤y14.2.2.2.1∧y14.2.2.2.1 < (y14.2.1.length:Int)∧(-9223372036854775808≤(y14.2.2.2.1+(1:Int))∧(y14.2.2.2.1+(1:Int))≤9223372036854775807∧(I12 (y14.1,y14.2.1,y14.2.2.1,(y14.2.2.2.1+(1:Int)),(y14.2.2.2.2.1+1,fQ y14.2.2.2.2.2 (cd ((at_ y14.2.1 y14.2.2.2.1).1) ((at_ y14.2.1 y14.2.2.2.1).2)) ((y14.2.2.2.2.2.nl 1) || y14.2.2.2.2.2.nl (cd ((at_ y14.2.1 y14.2.2.2.1).1) ((at_ y14.2.1 y14.2.2.2.1).2))) a.2))∧μ13 (y14.1,y14.2.1,y14.2.2.1,(y14.2.2.2.1+(1:Int)),(y14.2.2.2.2.1+1,fQ y14.2.2.2.2.2 (cd ((at_ y14.2.1 y14.2.2.2.1).1) ((at_ y14.2.1 y14.2.2.2.1).2)) ((y14.2.2.2.2.2.nl 1) || y14.2.2.2.2.2.nl (cd ((at_ y14.2.1 y14.2.2.2.1).1) ((at_ y14.2.1 y14.2.2.2.1).2))) a.2)) < μ13 y14))))∧(¬(y14.2.2.2.1 < y14.2.2.1)→((y14.1,fQ y14.2.2.2.2.2 0 (y14.2.2.2.2.2.nl 0) a.2)=a7 a)))))
theorem f165.of (a:(Ob (List (aB)))×ByteArray) (h:f165.vc a):f165.tree a:=Exists.elim h (fun I1 h10=>⟨I1,br h10.1 Cnd.b (fun h2 k6=>⟨(oat a.1 a.2,true),⟨rfl,slQ (rS aD) (⟨rfl,obQ rfl (OV.self (e:=aA)) rfl (k6)⟩)⟩⟩) (fun h3 k7=>⟨([],false),⟨rfl,slQ (Rds.nil (enc:=aD)) (⟨rfl,obQ rfl (OV.self (e:=aA)) rfl (k7)⟩)⟩⟩),fun y8 h9=>Exists.elim (h10.2 y8 h9) (fun I12 h28_=>Exists.elim h28_ (fun μ13 h28=>⟨I12,μ13,⟨(y8.2,y8.1,(y8.1.length:Int),(0:Int),(0,a.1)),⟨rfl,⟨rfl,slQ (rS aD) (⟨rfl,⟨rfl,obQ rfl (OV.self (e:=aA)) rfl (h28.1)⟩⟩)⟩⟩⟩,fun y14 h30=>br (h28.2 y14 h30) Cnd.dec (fun h15 k26=>chk k26.2.2 Cnd.ix ⟨k26.1,k26.2.1⟩ (fun h17 k24=>wrapK.i64 k24 (fun h21 h22 k23=>⟨(y14.1,y14.2.1,y14.2.2.1,(y14.2.2.2.1+(1:Int)),(y14.2.2.2.2.1+1,fQ y14.2.2.2.2.2 (cd ((at_ y14.2.1 y14.2.2.2.1).1) ((at_ y14.2.1 y14.2.2.2.1).2)) ((y14.2.2.2.2.2.nl 1) || y14.2.2.2.2.2.nl (cd ((at_ y14.2.1 y14.2.2.2.1).1) ((at_ y14.2.1 y14.2.2.2.1).2))) a.2)),⟨rfl,⟨rfl,slQ (rS aD) (⟨rfl,⟨rfl,obQ rfl (OV.del (OV.self (e:=aA))) rfl (k23)⟩⟩)⟩⟩⟩))) (fun h16 k27=>⟨(congrArg (fun x:Bool×(Ob (List (aB)))=>x.1) k27 :),obQ rfl (OV.del (OV.self (e:=aA))) (congrArg (fun x:Bool×(Ob (List (aB)))=>x.2) k27 :) (trivial)⟩)⟩))⟩)
theorem f165.eq (a:(Ob (List (aB)))×ByteArray):(f165.af a).gives f165.env (f165.args a) (f165.blks a) (f165.res a) (f165.blks' a)=f165.tree a:=by kernel_rfl
def f146.args (a:(Ob (List (aB)))×ByteArray×(List (aB))):List D:=[.ptr 0 0,.str a.2.1,.slice .ro 2 a.2.2.length (gl aD a.2.2)]
def f146.blks (a:(Ob (List (aB)))×ByteArray×(List (aB))):List (List D):=[[.dead,.obj 202 0 1 a.1.nl a.1.n a.1.ks (ovs aA a.1)]]
def f146.res (a:(Ob (List (aB)))×ByteArray×(List (aB))):List D:=[]
def f146.blks' (a:(Ob (List (aB)))×ByteArray×(List (aB))):List (List D):=[[.dead,.obj 202 1 1 (cE a).nl (cE a).n (cE a).ks (ovs aA (cE a))]]
def f146.C:bA:=FnC f146.args f146.blks (fun a=>eC a) f146.res f146.blks'
def f146.S0 (a:(Ob (List (aB)))×ByteArray×(List (aB))) (x:Int×(Nat×Ob (List (aB)))):Tm:=⟨.ptr 0 0::.str a.2.1::dd 31 (.slice .ro 2 a.2.2.length (gl aD a.2.2)::.int .i64 (a.2.2.length:Int)::.int .i64 x.1::dd 25 []),[(0,false,[.dead,.obj 202 x.2.1 1 x.2.2.nl x.2.2.n x.2.2.ks (ovs aA x.2.2)])],[]⟩
def f146.kills (a:(Ob (List (aB)))×ByteArray×(List (aB))):List lT:=[.tell (Int×(Nat×Ob (List (aB)))) (f146.S0 a)]
def f146.cuts (a:(Ob (List (aB)))×ByteArray×(List (aB))):List (Nat×Σ β:Type,β→Tm):=[(100003,⟨Nat×Ob (List (aB)),fun x=>⟨.ptr 0 0::.str a.2.1::.slice .ro 2 a.2.2.length (gl aD a.2.2)::dd 58 [],[(0,false,[.dead,.obj 202 x.1 1 x.2.nl x.2.n x.2.ks (ovs aA x.2)])],[]⟩⟩)]
def f146.af (a:(Ob (List (aB)))×ByteArray×(List (aB))):AF:=AF.mk (.seq (.seq (.region [mT 8 1 0,
 oT 9 2 (.isNil true false) [8]])
 (.cond (.t 9) (.ret) (.skip)))
 (.seq (.region [mT 10 3 0,
 mT 11 4 1,
 oT 12 5 (.call true 165) [10,11]])
 (.joinT (Nat×Ob (List (aB))) (fun x=>⟨.ptr 0 0::.str a.2.1::.slice .ro 2 a.2.2.length (gl aD a.2.2)::dd 58 [],[(0,false,[.dead,.obj 202 x.1 1 x.2.nl x.2.n x.2.ks (ovs aA x.2)])],[]⟩) (.seq (.region [mT 13 9 0,
 oT 14 10 .nilCheck [13],
 oT 15 11 (.fieldAddr 0) [14],
 oT 16 12 (.load false 1) [15],
 oT 17 13 (.isNilM false) [16]])
 (.cond (.t 17) (.region [mT 18 14 0,
 mT 19 15 0,
 oT 20 16 (.mkMap false true) [],
 oT 21 17 (.mkMap false false) [],
 oT 22 18 .nilCheck [18],
 oT 23 19 (.fieldAddr 0) [22],
 ⟨none,20,(.store 1),[.t 23,.t 20],none⟩,
 oT 24 21 .nilCheck [19],
 oT 25 22 (.fieldAddr 1) [24],
 ⟨none,23,(.store 1),[.t 25,.t 21],none⟩]) (.skip)))
 (.seq (.region [mT 26 24 0,
 oT 27 25 .nilCheck [26],
 oT 28 26 (.fieldAddr 0) [27],
 oT 29 27 (.load false 1) [28],
 mT 30 28 1,
 mT 31 29 2,
 oT 32 30 (.call false 166) [31],
 ⟨none,34,.mapSet,[.t 29,.t 30,.t 32],none⟩])
 (.seq (.region [mT 33 35 2,
 oT 34 36 (.len false) [33],
 ⟨(some 35),37,.move,[.c (.int .i64 (0))],none⟩])
 (.block 0 (.loopT (Int×(Nat×Ob (List (aB)))) (f146.S0 a) 38 70 (.seq (.region [oT 36 38 (.bin .lss) [35,34]])
 (.seq (.cond (.t 36) (.skip) (.exit 0))
 (.seq (.block 1 (.seq (.region [oT 37 39 (.indexAddr 2 none) [33,35],
 oT 38 40 (.load true 2) [37],
 oT 7 41 (.alloc [.str ByteArray.empty,.str ByteArray.empty]) [],
 ⟨none,44,(.store 2),[.t 7,.t 38],none⟩])
 (.seq (.seq (.region [mT 39 45 0,
 oT 40 46 .nilCheck [39],
 oT 41 47 (.fieldAddr 1) [40],
 oT 42 48 (.load false 1) [41],
 oT 43 49 (.load true 2) [7],
 oT 44 50 .famGet [42,43],
 oT 45 51 (.isNilM false) [44]])
 (.cond (.t 45) (.region [mT 46 52 0,
 oT 47 53 .nilCheck [46],
 oT 48 54 (.fieldAddr 1) [47],
 oT 49 55 (.load false 1) [48],
 oT 50 56 (.load true 2) [7],
 oT 51 57 (.mkMap true false) [],
 ⟨none,58,.famSet,[.t 49,.t 50,.t 51],none⟩]) (.skip)))
 (.region [mT 52 59 0,
 oT 53 60 .nilCheck [52],
 oT 54 61 (.fieldAddr 1) [53],
 oT 55 62 (.load false 1) [54],
 oT 56 63 (.load true 2) [7],
 oT 57 64 .famGet [55,56],
 mT 58 65 1,
 oT 59 66 (.build [] []) [],
 ⟨none,67,.mapSet,[.t 57,.t 58,.t 59],none⟩]))))
 (.region [⟨(some 60),68,(.bin .add),[.t 35,.c (.int .i64 (1))],none⟩,
 mT 35 69 60])))))))))))
 [] 1 58
def f146.env:Env:=[(165,f165.C),(166,f166.C)]
def f146.tree (a:(Ob (List (aB)))×ByteArray×(List (aB))):Prop:=∃ c1:(Ob (List (aB)))×ByteArray,(a.2.1=c1.2)∧ObQ 0 0 a.1.nl c1.1.nl a.1.n c1.1.n a.1.ks c1.1.ks (ovs aA a.1) (ovs aA c1.1) ((eG c1)∧∃ I2:(Nat×Ob (List (aB)))→Prop,(Br (((a7 c1).2).nl 0) (Br (true&&((a7 c1).2).nl 0&&true) (Br (true&&(omk ((a7 c1).2) 0).nl 1&&true) (∃ x7:Nat×Ob (List (aB)),(a.2.1=a.2.1)∧SlS aD a.2.2 (ObQ 3 x7.1 (omk (omk ((a7 c1).2) 0) 1).nl x7.2.nl (omk (omk ((a7 c1).2) 0) 1).n x7.2.n (omk (omk ((a7 c1).2) 0) 1).ks x7.2.ks (ovs aA ((a7 c1).2)) (ovs aA x7.2) (I2 x7))) False) False) (∃ x10:Nat×Ob (List (aB)),(a.2.1=a.2.1)∧SlS aD a.2.2 (ObQ 1 x10.1 ((a7 c1).2).nl x10.2.nl ((a7 c1).2).n x10.2.n ((a7 c1).2).ks x10.2.ks (ovs aA ((a7 c1).2)) (ovs aA x10.2) (I2 x10))))∧∀ y13:Nat×Ob (List (aB)),I2 y13→(f166.ent (fun c16=>(L20 c16)∧Br (!(y13.2.nl 0)&&true) (∃ (I19:(Int×(Nat×Ob (List (aB))))→Prop) (μ20:(Int×(Nat×Ob (List (aB))))→Nat),(∃ x18:Int×(Nat×Ob (List (aB))),(a.2.1=a.2.1)∧SlS aD a.2.2 (((a.2.2.length:Int)=(a.2.2.length:Int))∧((0:Int)=x18.1)∧ObQ (y13.1+1) x18.2.1 (eZ y13.2 a.2.1 (dO c16)).nl x18.2.2.nl (eZ y13.2 a.2.1 (dO c16)).n x18.2.2.n (eZ y13.2 a.2.1 (dO c16)).ks x18.2.2.ks (fset (ovs aA y13.2) 0 (gE (y13.2.ks 0) ((ovs aA y13.2) 0) a.2.1 [.slice .ro 2 ((dO c16).length) (gl aD (dO c16))] (y13.2.n 0))) (ovs aA x18.2.2) (I19 x18)))∧∀ y21:Int×(Nat×Ob (List (aB))),I19 y21→(Br (decide (y21.1 < (a.2.2.length:Int))) (Br (decide ((0:Int)≤y21.1)&&decide (y21.1 < (a.2.2.length:Int))) (Br ((y21.2.2.nl 1) || y21.2.2.nl (cd ((at_ a.2.2 y21.1).1) ((at_ a.2.2 y21.1).2))) (Br (!(y21.2.2.nl 1)&&y21.2.2.nl (cd ((at_ a.2.2 y21.1).1) ((at_ a.2.2 y21.1).2))&&true) (Br (!(((omk y21.2.2 (cd ((at_ a.2.2 y21.1).1) ((at_ a.2.2 y21.1).2))).nl 1) || (omk y21.2.2 (cd ((at_ a.2.2 y21.1).1) ((at_ a.2.2 y21.1).2))).nl (cd ((at_ a.2.2 y21.1).1) ((at_ a.2.2 y21.1).2)))&&true) (Let (wI (y21.1+(1:Int))) (fun v29:Int=>∃ x30:Int×(Nat×Ob (List (aB))),(a.2.1=a.2.1)∧SlS aD a.2.2 (((a.2.2.length:Int)=(a.2.2.length:Int))∧(v29=x30.1)∧ObQ ((y21.2.1+1)+1) x30.2.1 (dU (omk y21.2.2 (cd ((at_ a.2.2 y21.1).1) ((at_ a.2.2 y21.1).2))) (cd ((at_ a.2.2 y21.1).1) ((at_ a.2.2 y21.1).2)) a.2.1).nl x30.2.2.nl (dU (omk y21.2.2 (cd ((at_ a.2.2 y21.1).1) ((at_ a.2.2 y21.1).2))) (cd ((at_ a.2.2 y21.1).1) ((at_ a.2.2 y21.1).2)) a.2.1).n x30.2.2.n (dU (omk y21.2.2 (cd ((at_ a.2.2 y21.1).1) ((at_ a.2.2 y21.1).2))) (cd ((at_ a.2.2 y21.1).1) ((at_ a.2.2 y21.1).2)) a.2.1).ks x30.2.2.ks (fset (ovs aA y21.2.2) (cd ((at_ a.2.2 y21.1).1) ((at_ a.2.2 y21.1).2)) (gE ((omk y21.2.2 (cd ((at_ a.2.2 y21.1).1) ((at_ a.2.2 y21.1).2))).ks (cd ((at_ a.2.2 y21.1).1) ((at_ a.2.2 y21.1).2))) ((ovs aA y21.2.2) (cd ((at_ a.2.2 y21.1).1) ((at_ a.2.2 y21.1).2))) a.2.1 [] ((omk y21.2.2 (cd ((at_ a.2.2 y21.1).1) ((at_ a.2.2 y21.1).2))).n (cd ((at_ a.2.2 y21.1).1) ((at_ a.2.2 y21.1).2))))) (ovs aA x30.2.2) (I19 x30∧μ20 x30 < μ20 y21)))) False) False) (Br (!((y21.2.2.nl 1) || y21.2.2.nl (cd ((at_ a.2.2 y21.1).1) ((at_ a.2.2 y21.1).2)))&&true) (Let (wI (y21.1+(1:Int))) (fun v38:Int=>∃ x39:Int×(Nat×Ob (List (aB))),(a.2.1=a.2.1)∧SlS aD a.2.2 (((a.2.2.length:Int)=(a.2.2.length:Int))∧(v38=x39.1)∧ObQ (y21.2.1+1) x39.2.1 (dU y21.2.2 (cd ((at_ a.2.2 y21.1).1) ((at_ a.2.2 y21.1).2)) a.2.1).nl x39.2.2.nl (dU y21.2.2 (cd ((at_ a.2.2 y21.1).1) ((at_ a.2.2 y21.1).2)) a.2.1).n x39.2.2.n (dU y21.2.2 (cd ((at_ a.2.2 y21.1).1) ((at_ a.2.2 y21.1).2)) a.2.1).ks x39.2.2.ks (fset (ovs aA y21.2.2) (cd ((at_ a.2.2 y21.1).1) ((at_ a.2.2 y21.1).2)) (gE (y21.2.2.ks (cd ((at_ a.2.2 y21.1).1) ((at_ a.2.2 y21.1).2))) ((ovs aA y21.2.2) (cd ((at_ a.2.2 y21.1).1) ((at_ a.2.2 y21.1).2))) a.2.1 [] (y21.2.2.n (cd ((at_ a.2.2 y21.1).1) ((at_ a.2.2 y21.1).2))))) (ovs aA x39.2.2) (I19 x39∧μ20 x39 < μ20 y21)))) False)) False) (ObQ 1 1 y21.2.2.nl (cE a).nl y21.2.2.n (cE a).n y21.2.2.ks (cE a).ks (ovs aA y21.2.2) (ovs aA (cE a)) (True)))) False) a.2.2))
def f146.vc (a:(Ob (List (aB)))×ByteArray×(List (aB))):Prop:=(eG (a.1,a.2.1)∧(∃ I2:(Nat×Ob (List (aB)))→Prop,((((((a7 (a.1,a.2.1)).2).nl 0)=true→((((a7 (a.1,a.2.1)).2).nl 0=true)∧(((omk ((a7 (a.1,a.2.1)).2) 0).nl 1=true)∧(I2 (3,omk (omk ((a7 (a.1,a.2.1)).2) 0) 1)))))∧(¬((((a7 (a.1,a.2.1)).2).nl 0)=true)→(I2 (1,(a7 (a.1,a.2.1)).2)))))∧∀ y13:Nat×Ob (List (aB)),I2 y13→(L20 a.2.2∧(((y13.2.nl 0)=false)∧(∃ (I19:(Int×(Nat×Ob (List (aB))))→Prop) (μ20:(Int×(Nat×Ob (List (aB))))→Nat),I19 ((0:Int),(y13.1+1,eZ y13.2 a.2.1 (dO (a.2.2))))∧∀ y21:Int×(Nat×Ob (List (aB))),I19 y21→((y21.1 < (a.2.2.length:Int)→((0:Int)≤y21.1∧y21.1 < (a.2.2.length:Int)∧((((y21.2.2.nl 1) || y21.2.2.nl (cd ((at_ a.2.2 y21.1).1) ((at_ a.2.2 y21.1).2)))=true→(((y21.2.2.nl 1)=false∧y21.2.2.nl (cd ((at_ a.2.2 y21.1).1) ((at_ a.2.2 y21.1).2))=true)∧(((((omk y21.2.2 (cd ((at_ a.2.2 y21.1).1) ((at_ a.2.2 y21.1).2))).nl 1) || (omk y21.2.2 (cd ((at_ a.2.2 y21.1).1) ((at_ a.2.2 y21.1).2))).nl (cd ((at_ a.2.2 y21.1).1) ((at_ a.2.2 y21.1).2)))=false)∧(-9223372036854775808≤(y21.1+(1:Int))∧(y21.1+(1:Int))≤9223372036854775807∧(I19 ((y21.1+(1:Int)),((y21.2.1+1)+1,dU (omk y21.2.2 (cd ((at_ a.2.2 y21.1).1) ((at_ a.2.2 y21.1).2))) (cd ((at_ a.2.2 y21.1).1) ((at_ a.2.2 y21.1).2)) a.2.1))∧μ20 ((y21.1+(1:Int)),((y21.2.1+1)+1,dU (omk y21.2.2 (cd ((at_ a.2.2 y21.1).1) ((at_ a.2.2 y21.1).2))) (cd ((at_ a.2.2 y21.1).1) ((at_ a.2.2 y21.1).2)) a.2.1)) < μ20 y21)))))∧(¬(((y21.2.2.nl 1) || y21.2.2.nl (cd ((at_ a.2.2 y21.1).1) ((at_ a.2.2 y21.1).2)))=true)→((((y21.2.2.nl 1) || y21.2.2.nl (cd ((at_ a.2.2 y21.1).1) ((at_ a.2.2 y21.1).2)))=false)∧(-9223372036854775808≤(y21.1+(1:Int))∧(y21.1+(1:Int))≤9223372036854775807∧(I19 ((y21.1+(1:Int)),(y21.2.1+1,dU y21.2.2 (cd ((at_ a.2.2 y21.1).1) ((at_ a.2.2 y21.1).2)) a.2.1))∧μ20 ((y21.1+(1:Int)),(y21.2.1+1,dU y21.2.2 (cd ((at_ a.2.2 y21.1).1) ((at_ a.2.2 y21.1).2)) a.2.1)) < μ20 y21)))))))∧(¬(y21.1 < (a.2.2.length:Int))→(y21.2.2=cE a))))))))
theorem f146.of (a:(Ob (List (aB)))×ByteArray×(List (aB))) (h:f146.vc a):f146.tree a:=⟨(a.1,a.2.1),⟨rfl,obQ rfl (OV.self (e:=aA)) rfl (⟨h.1,Exists.elim h.2 (fun I2 h15=>⟨I2,br h15.1 Cnd.b (fun h3 k11=>chk k11.2 Cnd.ostF k11.1 (fun h5 k9=>chk k9.2 Cnd.ostF k9.1 (fun h6 k8=>⟨(3,omk (omk ((a7 (a.1,a.2.1)).2) 0) 1),⟨rfl,SlS.mk  (obQ rfl (OV.mk (OV.mk (OV.self (e:=aA)) 0) 1) rfl (k8))⟩⟩))) (fun h4 k12=>⟨(1,(a7 (a.1,a.2.1)).2),⟨rfl,SlS.mk  (obQ rfl (OV.self (e:=aA)) rfl (k12))⟩⟩),fun y13 h14=>(f166.ei ⟨(h15.2 y13 h14).1,chk ((h15.2 y13 h14).2).2 Cnd.osetF ((h15.2 y13 h14).2).1 (fun h17 k54=>Exists.elim k54 (fun I19 h51_=>Exists.elim h51_ (fun μ20 h51=>⟨I19,μ20,⟨((0:Int),(y13.1+1,eZ y13.2 a.2.1 (dO (a.2.2)))),⟨rfl,SlS.mk  (⟨rfl,⟨rfl,obQ rfl (OV.setA (OV.self (e:=aA)) (DEqs.refl _)) rfl (h51.1)⟩⟩)⟩⟩,fun y21 h53=>br (h51.2 y21 h53) Cnd.dec (fun h22 k49=>chk k49.2.2 Cnd.ix ⟨k49.1,k49.2.1⟩ (fun h24 k47=>br k47 Cnd.b (fun h25 k45=>chk k45.2 Cnd.fset k45.1 (fun h27 k36=>chk k36.2 Cnd.osetF k36.1 (fun h28 k35=>wrapK.i64 k35 (fun h32 h33 k34=>⟨((y21.1+(1:Int)),((y21.2.1+1)+1,dU (omk y21.2.2 (cd ((at_ a.2.2 y21.1).1) ((at_ a.2.2 y21.1).2))) (cd ((at_ a.2.2 y21.1).1) ((at_ a.2.2 y21.1).2)) a.2.1)),⟨rfl,SlS.mk  (⟨rfl,⟨rfl,obQ rfl (OV.setU (OV.mk (OV.self (e:=aA)) (cd ((at_ a.2.2 y21.1).1) ((at_ a.2.2 y21.1).2))) aFE) rfl (k34)⟩⟩)⟩⟩)))) (fun h26 k46=>chk k46.2 Cnd.osetF k46.1 (fun h37 k44=>wrapK.i64 k44 (fun h41 h42 k43=>⟨((y21.1+(1:Int)),(y21.2.1+1,dU y21.2.2 (cd ((at_ a.2.2 y21.1).1) ((at_ a.2.2 y21.1).2)) a.2.1)),⟨rfl,SlS.mk  (⟨rfl,⟨rfl,obQ rfl (OV.setU (OV.self (e:=aA)) aFE) rfl (k43)⟩⟩)⟩⟩))))) (fun h23 k50=>obQ rfl (OV.self (e:=aA)) k50 (trivial))⟩)))⟩)⟩)⟩)⟩⟩
theorem f146.eq (a:(Ob (List (aB)))×ByteArray×(List (aB))):(f146.af a).gives f146.env (f146.args a) (f146.blks a) (f146.res a) (f146.blks' a)=f146.tree a:=by kernel_rfl
def f170.args (a:(Ob (List (aB)))×ByteArray×(List (aB))):List D:=[.ptr 0 0,.str a.2.1,.slice .ro 2 a.2.2.length (gl aD a.2.2)]
def f170.blks (a:(Ob (List (aB)))×ByteArray×(List (aB))):List (List D):=[[.dead,.obj 202 0 1 a.1.nl a.1.n a.1.ks (ovs aA a.1)]]
def f170.res (a:(Ob (List (aB)))×ByteArray×(List (aB))):List D:=[.bool (i9 a)]
def f170.blks' (a:(Ob (List (aB)))×ByteArray×(List (aB))):List (List D):=[[.dead,.obj 202 0 1 a.1.nl a.1.n a.1.ks (ovs aA a.1)]]
def f170.C:bA:=FnC f170.args f170.blks (fun a=>oB a) f170.res f170.blks'
def f170.S0 (a:(Ob (List (aB)))×ByteArray×(List (aB))) (x:Int):Tm:=⟨.ptr 0 0::.str a.2.1::dd 9 (.slice .ro 2 a.2.2.length (gl aD a.2.2)::.int .i64 (a.2.2.length:Int)::.int .i64 x::dd 17 []),[(0,false,[.dead,.obj 202 0 1 a.1.nl a.1.n a.1.ks (ovs aA a.1)])],[]⟩
def f170.kills (a:(Ob (List (aB)))×ByteArray×(List (aB))):List lT:=[.tell Int (f170.S0 a)]
def f170.cuts (a:(Ob (List (aB)))×ByteArray×(List (aB))):List (Nat×Σ β:Type,β→Tm):=[]
def f170.af (a:(Ob (List (aB)))×ByteArray×(List (aB))):AF:=AF.mk (.seq (.region [⟨(some 6),1,.move,[.c (.bool false)],none⟩])
 (.seq (.seq (.region [mT 11 2 2,
 oT 12 3 (.len false) [11],
 ⟨(some 13),4,.move,[.c (.int .i64 (0))],none⟩])
 (.block 0 (.loopT Int (f170.S0 a) 5 31 (.seq (.region [oT 14 5 (.bin .lss) [13,12]])
 (.seq (.cond (.t 14) (.skip) (.exit 0))
 (.seq (.block 1 (.seq (.region [oT 15 6 (.indexAddr 2 none) [11,13],
 oT 16 7 (.load true 2) [15],
 oT 8 8 (.alloc [.str ByteArray.empty,.str ByteArray.empty]) [],
 ⟨none,11,(.store 2),[.t 8,.t 16],none⟩])
 (.seq (.region [mT 18 12 0,
 oT 19 13 .nilCheck [18],
 oT 20 14 (.fieldAddr 1) [19],
 oT 21 15 (.load false 1) [20],
 oT 22 16 (.load true 2) [8],
 oT 23 17 .famGet [21,22],
 mT 24 18 1,
 oT 25 19 (.mapGet true true []) [23,24],
 mT 17 20 25,
 oT 26 21 (.extract 0) [17],
 oT 27 22 (.extract 1) [17],
 oT 9 23 (.alloc []) [],
 ⟨none,24,(.store 0),[.t 9,.t 26],none⟩,
 mT 10 25 27])
 (.seq (.region [mT 28 26 10,
 oT 29 27 (.un .not) [28]])
 (.cond (.t 29) (.seq (.region [⟨(some 6),28,.move,[.c (.bool false)],none⟩])
 (.ret)) (.skip))))))
 (.region [⟨(some 30),29,(.bin .add),[.t 13,.c (.int .i64 (1))],none⟩,
 mT 13 30 30])))))))
 (.seq (.region [⟨(some 6),31,.move,[.c (.bool true)],none⟩])
 (.ret))))
 [.tmp 6] 1 28
def f170.env:Env:=[]
def f170.tree (a:(Ob (List (aB)))×ByteArray×(List (aB))):Prop:=∃ (I2:Int→Prop) (μ3:Int→Nat),(∃ x1:Int,(a.2.1=a.2.1)∧SlS aD a.2.2 (((a.2.2.length:Int)=(a.2.2.length:Int))∧((0:Int)=x1)∧ObQ 0 0 a.1.nl a.1.nl a.1.n a.1.n a.1.ks a.1.ks (ovs aA a.1) (ovs aA a.1) (I2 x1)))∧∀ y4:Int,I2 y4→(Br (decide (y4 < (a.2.2.length:Int))) (Br (decide ((0:Int)≤y4)&&decide (y4 < (a.2.2.length:Int))) (Br (gK a.1 (cd ((at_ a.2.2 y4).1) ((at_ a.2.2 y4).2)) ((a.1.nl 1) || a.1.nl (cd ((at_ a.2.2 y4).1) ((at_ a.2.2 y4).2))) a.2.1) (Let (wI (y4+(1:Int))) (fun v10:Int=>∃ x11:Int,(a.2.1=a.2.1)∧SlS aD a.2.2 (((a.2.2.length:Int)=(a.2.2.length:Int))∧(v10=x11)∧ObQ 0 0 a.1.nl a.1.nl a.1.n a.1.n a.1.ks a.1.ks (ovs aA a.1) (ovs aA a.1) (I2 x11∧μ3 x11 < μ3 y4)))) ((false=(i9 a))∧ObQ 0 0 a.1.nl a.1.nl a.1.n a.1.n a.1.ks a.1.ks (ovs aA a.1) (ovs aA a.1) (True))) False) ((true=(i9 a))∧ObQ 0 0 a.1.nl a.1.nl a.1.n a.1.n a.1.ks a.1.ks (ovs aA a.1) (ovs aA a.1) (True)))
def f170.vc (a:(Ob (List (aB)))×ByteArray×(List (aB))):Prop:=(∃ (I2:Int→Prop) (μ3:Int→Nat),I2 (0:Int)∧∀ y4:Int,I2 y4→((y4 < (a.2.2.length:Int)→((0:Int)≤y4∧y4 < (a.2.2.length:Int)∧((gK a.1 (cd ((at_ a.2.2 y4).1) ((at_ a.2.2 y4).2)) ((a.1.nl 1) || a.1.nl (cd ((at_ a.2.2 y4).1) ((at_ a.2.2 y4).2))) a.2.1=true→(-9223372036854775808≤(y4+(1:Int))∧(y4+(1:Int))≤9223372036854775807∧(I2 (y4+(1:Int))∧μ3 (y4+(1:Int)) < μ3 y4)))∧(¬(gK a.1 (cd ((at_ a.2.2 y4).1) ((at_ a.2.2 y4).2)) ((a.1.nl 1) || a.1.nl (cd ((at_ a.2.2 y4).1) ((at_ a.2.2 y4).2))) a.2.1=true)→(false=i9 a)))))∧(¬(y4 < (a.2.2.length:Int))→(true=i9 a))))
theorem f170.of (a:(Ob (List (aB)))×ByteArray×(List (aB))) (h:f170.vc a):f170.tree a:=Exists.elim h (fun I2 h23_=>Exists.elim h23_ (fun μ3 h23=>⟨I2,μ3,⟨(0:Int),⟨rfl,SlS.mk  (⟨rfl,⟨rfl,obQ rfl (OV.self (e:=aA)) rfl (h23.1)⟩⟩)⟩⟩,fun y4 h25=>br (h23.2 y4 h25) Cnd.dec (fun h5 k21=>chk k21.2.2 Cnd.ix ⟨k21.1,k21.2.1⟩ (fun h7 k19=>br k19 Cnd.b (fun h8 k17=>wrapK.i64 k17 (fun h13 h14 k15=>⟨(y4+(1:Int)),⟨rfl,SlS.mk  (⟨rfl,⟨rfl,obQ rfl (OV.self (e:=aA)) rfl (k15)⟩⟩)⟩⟩)) (fun h9 k18=>⟨k18,obQ rfl (OV.self (e:=aA)) rfl (trivial)⟩))) (fun h6 k22=>⟨k22,obQ rfl (OV.self (e:=aA)) rfl (trivial)⟩)⟩))
theorem f170.eq (a:(Ob (List (aB)))×ByteArray×(List (aB))):(f170.af a).gives f170.env (f170.args a) (f170.blks a) (f170.res a) (f170.blks' a)=f170.tree a:=by kernel_rfl
def f262.args (a:Ob (List (aB))):List D:=[.ptr 0 0]
def f262.blks (a:Ob (List (aB))):List (List D):=[[.dead,.obj 202 0 1 a.nl a.n a.ks (ovs aA a)]]
def f262.res (a:Ob (List (aB))):List D:=[.int .i64 (iK a)]
def f262.blks' (a:Ob (List (aB))):List (List D):=[[.dead,.obj 202 0 1 a.nl a.n a.ks (ovs aA a)]]
def f262.C:bA:=FnC f262.args f262.blks (fun _=>True) f262.res f262.blks'
def f262.kills (a:Ob (List (aB))):List lT:=[]
def f262.cuts (a:Ob (List (aB))):List (Nat×Σ β:Type,β→Tm):=[]
def f262.af (a:Ob (List (aB))):AF:=AF.mk (.seq (.region [⟨(some 2),1,.move,[.c (.int .i64 (0))],none⟩])
 (.seq (.seq (.region [mT 3 2 0,
 oT 4 3 (.isNil true false) [3]])
 (.cond (.t 4) (.seq (.region [⟨(some 2),4,.move,[.c (.int .i64 (0))],none⟩])
 (.ret)) (.skip)))
 (.seq (.region [mT 5 5 0,
 oT 6 6 .nilCheck [5],
 oT 7 7 (.fieldAddr 0) [6],
 oT 8 8 (.load false 1) [7],
 oT 9 9 .mapLen [8],
 mT 2 10 9])
 (.ret))))
 [.tmp 2] 1 9
def f262.env:Env:=[]
def f262.tree (a:Ob (List (aB))):Prop:=((aF9 a 0 (a.nl 0):Int)=(iK a))∧ObQ 0 0 a.nl a.nl a.n a.n a.ks a.ks (ovs aA a) (ovs aA a) (True)
def f262.vc (a:Ob (List (aB))):Prop:=((aF9 a 0 (a.nl 0):Int)=iK a)
theorem f262.of (a:Ob (List (aB))) (h:f262.vc a):f262.tree a:=⟨h,obQ rfl (OV.self (e:=aA)) rfl (trivial)⟩
theorem f262.eq (a:Ob (List (aB))):(f262.af a).gives f262.env (f262.args a) (f262.blks a) (f262.res a) (f262.blks' a)=f262.tree a:=by kernel_rfl
def f149.args (a:(Ob (List (aB)))×(List (aB))):List D:=[.ptr 0 0,.slice .ro 2 a.2.length (gl aD a.2)]
def f149.blks (a:(Ob (List (aB)))×(List (aB))):List (List D):=[[.dead,.obj 202 0 1 a.1.nl a.1.n a.1.ks (ovs aA a.1)]]
def f149.res (a:(Ob (List (aB)))×(List (aB))):List D:=[.slice .ro 1 ((a6 a).length) (gl aG (a6 a))]
def f149.blks' (a:(Ob (List (aB)))×(List (aB))):List (List D):=[[.dead,.obj 202 0 1 a.1.nl a.1.n a.1.ks (ovs aA a.1)]]
def f149.C:bA:=FnC f149.args f149.blks (fun a=>bJ a) f149.res f149.blks'
def f149.S0 (a:(Ob (List (aB)))×(List (aB))) (x:(List (ByteArray))×(Bool×(Nat→Bool)×Option Nat)):Tm:=⟨.ptr 0 0::.slice .ro 2 a.2.length (gl aD a.2)::.dead::.dead::.dead::.msl 1000021 1 x.1.length::dd 20 (.ptr 1000030 0::dd 16 []),[(0,false,[.dead,.obj 202 0 1 a.1.nl a.1.n a.1.ks (ovs aA a.1)]),(1000021,false,[.dead,.arr true 1 x.1.length (gl aG x.1)]),(1000030,false,[.dead,.mit 0 (cd ((at_ a.2 (0:Int)).1) ((at_ a.2 (0:Int)).2)) x.2.1 0 x.2.2.1 x.2.2.2])],[]⟩
def f149.kills (a:(Ob (List (aB)))×(List (aB))):List lT:=[.tell ((List (ByteArray))×(Bool×(Nat→Bool)×Option Nat)) (f149.S0 a)]
def f149.cuts (a:(Ob (List (aB)))×(List (aB))):List (Nat×Σ β:Type,β→Tm):=[(999999,⟨Unit,fun x=>⟨[],[],[]⟩⟩),
 (1000005000007,⟨Unit,fun x=>⟨[],[],[]⟩⟩),
 (2000005000014,⟨Unit,fun x=>⟨[],[],[]⟩⟩)]
def f149.af (a:(Ob (List (aB)))×(List (aB))):AF:=AF.mk (.seq (.region [oR 4 0 (.nilSl 1) []])
 (.seq (.seq (.region [mR 7 1 0,
 oR 8 2 (.isNil true false) [7]])
 (.cond (.t 8) (.seq (.region [oR 4 3 (.nilSl 1) []])
 (.ret)) (.skip)))
 (.seq (.seq (.region [mR 9 4 1,
 oR 10 5 (.len false) [9],
 ⟨(some 11),1000006,(.bin .eql),[.t 10,.c (.int .i64 (0))],none⟩])
 (.cond (.t 11) (.seq (.region [mR 12 7 0,
 oR 13 8 .nilCheck [12],
 oR 14 9 (.fieldAddr 0) [13],
 oR 15 10 (.load false 1) [14],
 oR 16 11 (.mapKeys 196) [15],
 oR 17 15 (.keysSort 196) [16],
 mR 4 19 17])
 (.ret)) (.skip)))
 (.seq (.region [oR 5 20 (.nilSl 1) []])
 (.seq (.thaw 1000021 5) (.seq (.seq (.region [mR 18 22 0,
 oR 19 23 .nilCheck [18],
 oR 20 24 (.fieldAddr 1) [19],
 oR 21 25 (.load false 1) [20],
 mR 22 26 1,
 ⟨(some 23),1000027,(.indexAddr 2 none),[.t 22,.c (.int .i64 (0))],none⟩,
 oR 24 28 (.load true 2) [23],
 oR 25 29 .famGet [21,24],
 oR 26 30 .mapWalk [25]])
 (.block 0 (.loopT ((List (ByteArray))×(Bool×(Nat→Bool)×Option Nat)) (f149.S0 a) 1000031 1000049 (.seq (.region [oR 27 31 .mapNext [26],
 oR 28 32 (.extract 0) [27]])
 (.seq (.cond (.t 28) (.skip) (.exit 0))
 (.block 1 (.seq (.region [oR 29 33 .mapEntry [26],
 oR 30 34 (.extract 0) [29],
 mR 6 35 30])
 (.seq (.region [mR 31 36 0,
 mR 32 37 6,
 mR 33 38 1,
 ⟨(some 34),1000039,(.sliceSl 2 true false false),[.t 33,.c (.int .i64 (1))],none⟩,
 oR 35 40 (.call true 170) [31,32,34]])
 (.cond (.t 35) (.region [mR 36 44 5,
 mR 37 45 6,
 oR 38 46 (.buildSlice 1 1 [.str ByteArray.empty] [(0,1)]) [37],
 oR 39 47 (.append 1 16) [36,38],
 mR 5 48 39]) (.skip))))))))))
 (.seq (.region [mR 40 49 5,
 oR 41 50 (.call true 167) [40]])
 (.seq (.frz 5) (.seq (.region [mR 42 54 5,
 mR 4 55 42])
 (.ret))))))))))
 [.tmp 4] 1 41
def f149.env:Env:=[(167,f167.C),(170,f170.C)]
def f149.tree (a:(Ob (List (aB)))×(List (aB))):Prop:=Br ((a.2.length:Int)==(0:Int)) (rL (bif (a.1.nl 0) then 0 else a.1.n 0) (a.1.ks 0)∧(((List.length (gI (bif (a.1.nl 0) then 0 else a.1.n 0) (a.1.ks 0)))=(List.length (gI (bif (a.1.nl 0) then 0 else a.1.n 0) (a.1.ks 0))))∧SlQ (List.length (gI (bif (a.1.nl 0) then 0 else a.1.n 0) (a.1.ks 0))) ((a6 a).length) (gl aG (gI (bif (a.1.nl 0) then 0 else a.1.n 0) (a.1.ks 0))) (gl aG (a6 a)) (ObQ 0 0 a.1.nl a.1.nl a.1.n a.1.n a.1.ks a.1.ks (ovs aA a.1) (ovs aA a.1) (True)))) (Br (decide ((0:Int)≤(0:Int))&&decide ((0:Int) < (a.2.length:Int))) (∃ (I6:((List (ByteArray))×(Bool×(Nat→Bool)×Option Nat))→Prop) (μ7:((List (ByteArray))×(Bool×(Nat→Bool)×Option Nat))→Nat),(∃ x5:(List (ByteArray))×(Bool×(Nat→Bool)×Option Nat),SlS aD a.2 ((0=x5.1.length)∧ObQ 0 0 a.1.nl a.1.nl a.1.n a.1.n a.1.ks a.1.ks (ovs aA a.1) (ovs aA a.1) (SlQ 0 x5.1.length d8 (gl aG x5.1) (MtQ (cd ((at_ a.2 (0:Int)).1) ((at_ a.2 (0:Int)).2)) (cd ((at_ a.2 (0:Int)).1) ((at_ a.2 (0:Int)).2)) ((a.1.nl 1) || a.1.nl (cd ((at_ a.2 (0:Int)).1) ((at_ a.2 (0:Int)).2))) x5.2.1 0 0 (fun _=>false) x5.2.2.1 none x5.2.2.2 (I6 x5)))))∧∀ y8:(List (ByteArray))×(Bool×(Nat→Bool)×Option Nat),I6 y8→(0=0∧jk 202 (cd ((at_ a.2 (0:Int)).1) ((at_ a.2 (0:Int)).2))=true∧((y8.2.1=true∨∀ x,x < a.1.n (cd ((at_ a.2 (0:Int)).1) ((at_ a.2 (0:Int)).2))→y8.2.2.1 x=true)→((y8.1.length=y8.1.length)∧∃ c9:List (ByteArray),(y8.1.length=List.length c9)∧SlQ y8.1.length c9.length (gl aG y8.1) (gl aG c9) ((rP c9)∧((List.length (dG c9))=y8.1.length)∧(SlQ (List.length (dG c9)) ((a6 a).length) (gl aG (dG c9)) (gl aG (a6 a)) (ObQ 0 0 a.1.nl a.1.nl a.1.n a.1.n a.1.ks a.1.ks (ovs aA a.1) (ovs aA a.1) (True))))))∧(y8.2.1=false→∀ x13:Nat,x13 < a.1.n (cd ((at_ a.2 (0:Int)).1) ((at_ a.2 (0:Int)).2))→y8.2.2.1 x13=false→((0=0∧jk 202 (cd ((at_ a.2 (0:Int)).1) ((at_ a.2 (0:Int)).2))=true∧x13 < a.1.n (cd ((at_ a.2 (0:Int)).1) ((at_ a.2 (0:Int)).2)))∧(Br (decide ((0:Int)≤(1:Int))&&decide ((1:Int)≤(a.2.length:Int))&&decide ((a.2.length:Int)≤(a.2.length:Int))&&((a.2.length:Int)==(a.2.length:Int))) (∃ c21:(Ob (List (aB)))×ByteArray×(List (aB)),((a.1.ks (cd ((at_ a.2 (0:Int)).1) ((at_ a.2 (0:Int)).2)) x13)=c21.2.1)∧SlQ (Int.toNat ((a.2.length:Int) - (1:Int))) c21.2.2.length (aFH (gl aD a.2) 1) (gl aD c21.2.2) (ObQ 0 0 a.1.nl c21.1.nl a.1.n c21.1.n a.1.ks c21.1.ks (ovs aA a.1) (ovs aA c21.1) ((oB c21)∧Br (i9 c21) ((y8.1.length=y8.1.length∧oS ((y8.1.length+1) * 16))∧(∃ x24:(List (ByteArray))×(Bool×(Nat→Bool)×Option Nat),SlS aD a.2 (((y8.1.length+1)=x24.1.length)∧ObQ 0 0 c21.1.nl a.1.nl c21.1.n a.1.n c21.1.ks a.1.ks (ovs aA c21.1) (ovs aA a.1) (SlQ (y8.1.length+1) x24.1.length (gO (gl aG y8.1) y8.1.length (fun _=>[.str (a.1.ks (cd ((at_ a.2 (0:Int)).1) ((at_ a.2 (0:Int)).2)) x13)])) (gl aG x24.1) (MtQ (cd ((at_ a.2 (0:Int)).1) ((at_ a.2 (0:Int)).2)) (cd ((at_ a.2 (0:Int)).1) ((at_ a.2 (0:Int)).2)) false x24.2.1 0 0 (fun y=>bif Nat.beq y x13 then true else y8.2.2.1 y) x24.2.2.1 (some x13) x24.2.2.2 (I6 x24∧μ7 x24 < μ7 y8)))))) (∃ x26:(List (ByteArray))×(Bool×(Nat→Bool)×Option Nat),SlS aD a.2 ((y8.1.length=x26.1.length)∧ObQ 0 0 c21.1.nl a.1.nl c21.1.n a.1.n c21.1.ks a.1.ks (ovs aA c21.1) (ovs aA a.1) (SlQ y8.1.length x26.1.length (gl aG y8.1) (gl aG x26.1) (MtQ (cd ((at_ a.2 (0:Int)).1) ((at_ a.2 (0:Int)).2)) (cd ((at_ a.2 (0:Int)).1) ((at_ a.2 (0:Int)).2)) false x26.2.1 0 0 (fun y=>bif Nat.beq y x13 then true else y8.2.2.1 y) x26.2.2.1 (some x13) x26.2.2.2 (I6 x26∧μ7 x26 < μ7 y8)))))))) False))))) False)
def f149.vc (a:(Ob (List (aB)))×(List (aB))):Prop:=(((a.2.length:Int)=(0:Int)→(rL (bif (a.1.nl 0) then 0 else a.1.n 0) (a.1.ks 0)∧(gI (bif (a.1.nl 0) then 0 else a.1.n 0) (a.1.ks 0)=a6 a)))∧(¬((a.2.length:Int)=(0:Int))→((0:Int) < (a.2.length:Int)∧(∃ (I6:((List (ByteArray))×(Bool×(Nat→Bool)×Option Nat))→Prop) (μ7:((List (ByteArray))×(Bool×(Nat→Bool)×Option Nat))→Nat),I6 ([],(((a.1.nl 1) || a.1.nl (cd ((at_ a.2 (0:Int)).1) ((at_ a.2 (0:Int)).2))),fun _=>false,none))∧∀ y8:(List (ByteArray))×(Bool×(Nat→Bool)×Option Nat),I6 y8→(((y8.2.1=true∨∀ x,x < a.1.n (cd ((at_ a.2 (0:Int)).1) ((at_ a.2 (0:Int)).2))→y8.2.2.1 x=true)→(rP y8.1∧((List.length (dG (y8.1)))=y8.1.length∧((dG (y8.1))=a6 a))))∧(y8.2.1=false→∀ x13:Nat,x13 < a.1.n (cd ((at_ a.2 (0:Int)).1) ((at_ a.2 (0:Int)).2))→y8.2.2.1 x13=false→((1:Int)≤(a.2.length:Int)∧(oB (a.1,a.1.ks (cd ((at_ a.2 (0:Int)).1) ((at_ a.2 (0:Int)).2)) x13,(uC a.2 (1:Int) (a.2.length:Int)))∧(((i9 (a.1,a.1.ks (cd ((at_ a.2 (0:Int)).1) ((at_ a.2 (0:Int)).2)) x13,(uC a.2 (1:Int) (a.2.length:Int))))=true→(y8.1.length+1≤1073741824∧(I6 (y8.1++([a.1.ks (cd ((at_ a.2 (0:Int)).1) ((at_ a.2 (0:Int)).2)) x13]),(false,fun y=>bif Nat.beq y x13 then true else y8.2.2.1 y,some x13))∧μ7 (y8.1++([a.1.ks (cd ((at_ a.2 (0:Int)).1) ((at_ a.2 (0:Int)).2)) x13]),(false,fun y=>bif Nat.beq y x13 then true else y8.2.2.1 y,some x13)) < μ7 y8)))∧(¬((i9 (a.1,a.1.ks (cd ((at_ a.2 (0:Int)).1) ((at_ a.2 (0:Int)).2)) x13,(uC a.2 (1:Int) (a.2.length:Int))))=true)→(I6 (y8.1,(false,fun y=>bif Nat.beq y x13 then true else y8.2.2.1 y,some x13))∧μ7 (y8.1,(false,fun y=>bif Nat.beq y x13 then true else y8.2.2.1 y,some x13)) < μ7 y8)))))))))))
theorem f149.of (a:(Ob (List (aB)))×(List (aB))) (h:f149.vc a):f149.tree a:=br h Cnd.eq (fun h1 k36=>⟨k36.1,⟨rfl,slQ (Rds.to (rS aG) k36.2) (obQ rfl (OV.self (e:=aA)) rfl (trivial))⟩⟩) (fun h2 k37=>chk k37.2 Cnd.ix ⟨(by decide),k37.1⟩ (fun h4 k35=>Exists.elim k35 (fun I6 h32_=>Exists.elim h32_ (fun μ7 h32=>⟨I6,μ7,⟨([],(((a.1.nl 1) || a.1.nl (cd ((at_ a.2 (0:Int)).1) ((at_ a.2 (0:Int)).2))),fun _=>false,none)),SlS.mk  (⟨(uI d8 (Rds.nil (enc:=aG))),obQ rfl (OV.self (e:=aA)) rfl (slQ (Rds.nil (enc:=aG)) (mtQ  (h32.1)))⟩)⟩,fun y8 h34=>⟨rfl,(aKJ (by decide) _ _),fun h19=>⟨rfl,⟨y8.1,⟨(uI (gl aG y8.1) (rS aG)),slQ (rS aG) (⟨((h32.2 y8 h34).1 h19).1,aMC (((h32.2 y8 h34).1 h19).2) (fun (h10:(List.length (dG (y8.1)))=y8.1.length) hk=>⟨h10,slQ (Rds.to (rS aG) hk) (obQ rfl (OV.self (e:=aA)) rfl (trivial))⟩)⟩)⟩⟩⟩,fun h17 x13 h15 h16=>⟨⟨rfl,(aKJ (by decide) _ _),h15⟩,chk ((h32.2 y8 h34).2 h17 x13 h15 h16).2 Cnd.sl ⟨(by decide),((h32.2 y8 h34).2 h17 x13 h15 h16).1,(Int.le_refl _)⟩ (fun h20 k31=>⟨(a.1,a.1.ks (cd ((at_ a.2 (0:Int)).1) ((at_ a.2 (0:Int)).2)) x13,(uC a.2 (1:Int) (a.2.length:Int))),⟨rfl,slQ (Rds.sub (enc:=aD) (rS aD) h20) (obQ rfl (OV.self (e:=aA)) rfl (⟨k31.1,br k31.2 Cnd.b (fun h22 k28=>⟨⟨rfl,nU k28.1 (by decide)⟩,⟨(y8.1++([a.1.ks (cd ((at_ a.2 (0:Int)).1) ((at_ a.2 (0:Int)).2)) x13]),(false,fun y=>bif Nat.beq y x13 then true else y8.2.2.1 y,some x13)),SlS.mk  (⟨(uI (gO (gl aG y8.1) y8.1.length (fun _=>[.str (a.1.ks (cd ((at_ a.2 (0:Int)).1) ((at_ a.2 (0:Int)).2)) x13)])) (Rds.app (enc:=aG) (rS aG) (Rds.one (enc:=aG) (DEqs.refl _)))),obQ rfl (OV.self (e:=aA)) rfl (slQ (Rds.app (enc:=aG) (rS aG) (Rds.one (enc:=aG) (DEqs.refl _))) (mtQ  (k28.2)))⟩)⟩⟩) (fun h23 k29=>⟨(y8.1,(false,fun y=>bif Nat.beq y x13 then true else y8.2.2.1 y,some x13)),SlS.mk  (⟨(uI (gl aG y8.1) (rS aG)),obQ rfl (OV.self (e:=aA)) rfl (slQ (rS aG) (mtQ  (k29)))⟩)⟩)⟩))⟩⟩)⟩⟩⟩))))
theorem f149.eq (a:(Ob (List (aB)))×(List (aB))):(f149.af a).gives f149.env (f149.args a) (f149.blks a) (f149.res a) (f149.blks' a)=f149.tree a:=by kernel_rfl
set_option linter.unusedVariables false
set_option linter.unusedVariables false
theorem f144.ok (a:Unit) (_:True):f144.vc a:=rfl
theorem f166.ok (a:Lbs) (h:L20 a):f166.vc a:=by
 have h:a.length≤1048576:=h
 refine ⟨fun c=>⟨?_,by omega,rfl⟩,fun _=>⟨by omega,rfl⟩⟩
 rw [List.length_eq_zero_iff.1 c]
 rfl
theorem f165.ok (a:Ob Lbs×ByteArray) (h:eG a):f165.vc a:=by
 obtain ⟨o,k⟩:=a
 have h:(kC o k []).length≤1048576:=h
 refine ⟨fun y=>y=(kC o k [],gK o 0 (o.nl 0) k),⟨fun c=>?_,fun c=>?_⟩,fun y hy=>?_⟩
 ·have c:gK o 0 (o.nl 0) k=true:=c
  unfold kC
  rw [c]
  rfl
 ·have c:gK o 0 (o.nl 0) k=false:=Bool.eq_false_iff.2 c
  unfold kC
  rw [c]
  rfl
 ·subst hy
  generalize hL:kC o k []=L at *
  refine ⟨fun y=>y.1=gK o 0 (o.nl 0) k∧y.2.1=L∧y.2.2.1=(L.length:Int)∧0≤y.2.2.2.1∧y.2.2.2.1≤(L.length:Int)∧y.2.2.2.2.2=(L.take y.2.2.2.1.toNat).foldl (mF k) o,fun y=>L.length - y.2.2.2.1.toNat,⟨rfl,rfl,rfl,by simp only; omega,by simp only; omega,rfl⟩,fun y hy=>?_⟩
  obtain ⟨b,l,n,i,c,p⟩:=y
  obtain ⟨g1,g2,g3,g4,g5,g6⟩:=hy
  simp only at g1 g2 g3 g4 g5 g6
  subst g1 g2 g3
  refine ⟨fun hlt=>?_,fun hge=>?_⟩
  ·simp only at hlt
   refine ⟨g4,hlt,by simp only; omega,by simp only; omega,⟨rfl,rfl,rfl,by simp only; omega,by simp only; omega,?_⟩,by simp only; omega⟩
   simp only
   rw [show (i+1).toNat=i.toNat+1 by omega,oL (by omega),List.foldl_append,← g6,d9]
   rfl
  ·simp only at hge
   have:i.toNat=l.length:=by omega
   rw [this,List.take_length] at g6
   simp only
   rw [g6]
   unfold a7
   rw [hL]
theorem f146.ok (a:Ob Lbs×ByteArray×Lbs) (h:eC a):f146.vc a:=by
 obtain ⟨o,k,L⟩:=a
 obtain ⟨h1,h2,h3⟩:=h
 have h2:L.length≤1048576:=h2
 have hnl:(a7 (o,k)).2.nl=o.nl:=by
  have:∀ (l:Lbs) (o:Ob Lbs),(l.foldl (mF k) o).nl=o.nl:=fun l=>by
   induction l with
   | nil=>exact fun _=>rfl
   | cons a l ih=>exact fun o=>(ih _).trans rfl
  exact (zH _ _ _ _).trans (this _ _)
 have h30:(a7 (o,k)).2.nl 0=(a7 (o,k)).2.nl 1:=by rw [hnl]; exact h3
 obtain ⟨n0,n1⟩:=y2 h30
 refine ⟨h1,fun y=>y.2=gB (a7 (o,k)).2,⟨fun c=>⟨c,?_,?_⟩,fun c=>?_⟩,fun y hy=>?_⟩
 ·show (a7 (o,k)).2.nl 1=true
  rw [← h30]
  exact c
 ·show omk _ _=_
  unfold gB
  rw [show (a7 (o,k)).2.nl 0=true from c]
  rfl
 ·show (a7 (o,k)).2=_
  unfold gB
  rw [show (a7 (o,k)).2.nl 0=false from Bool.eq_false_iff.2 c]
  rfl
 ·obtain ⟨c,p⟩:=y
  simp only at hy
  subst hy
  refine ⟨h2,n0,fun y=>0≤y.1∧y.1≤(L.length:Int)∧y.2.2.nl 1=false∧y.2.2=(L.take y.1.toNat).foldl (oP k) (eZ (gB (a7 (o,k)).2) k L),fun y=>L.length - y.1.toNat,⟨by simp only; omega,by simp only; omega,n1,rfl⟩,fun y hy=>?_⟩
  obtain ⟨i,c2,p⟩:=y
  obtain ⟨g1,g2,g3,g4⟩:=hy
  simp only at g1 g2 g3 g4
  refine ⟨fun hlt=>?_,fun hge=>?_⟩
  ·simp only at hlt ⊢
   have hb:=aEG ((at_ L i).1) ((at_ L i).2)
   have hs:L.take (i+1).toNat=L.take i.toNat++[at_ L i]:=by rw [show (i+1).toNat=i.toNat+1 by omega,oL (by omega),d9]
   refine ⟨g1,hlt,fun c3=>?_,fun c3=>?_⟩
   ·rw [g3,Bool.false_or] at c3
    have e:(omk p (cd (at_ L i).1 (at_ L i).2)).nl 1=false:=by
     show fset p.nl (cd (at_ L i).1 (at_ L i).2) false 1=false
     rw [dH _ _ (by omega)]
     exact g3
    refine ⟨⟨g3,c3⟩,by rw [e,aKT]; rfl,by omega,by omega,⟨by omega,by omega,e,?_⟩,by omega⟩
    rw [hs,List.foldl_append,← g4]
    show _=oP k p (at_ L i)
    unfold oP bl
    rw [g3,c3]
    rfl
   ·rw [g3,Bool.false_or] at c3
    have c3:=Bool.eq_false_iff.2 c3
    refine ⟨by rw [g3,c3]; rfl,by omega,by omega,⟨by omega,by omega,g3,?_⟩,by omega⟩
    rw [hs,List.foldl_append,← g4]
    show _=oP k p (at_ L i)
    unfold oP bl
    rw [g3,c3]
    rfl
  ·simp only at hge ⊢
   have:i.toNat=L.length:=by omega
   rw [this,List.take_length] at g4
   exact g4
theorem f170.ok (a:Ob Lbs×ByteArray×Lbs) (h:oB a):f170.vc a:=by
 obtain ⟨o,n,L⟩:=a
 have h:L.length≤1048576:=h
 refine ⟨fun y=>0≤y∧y≤(L.length:Int)∧∀ j,j < y.toNat→gK o (cd (L.getD j default).1 (L.getD j default).2) (bl o (L.getD j default)) n=true,fun y=>L.length - y.toNat,⟨by omega,by omega,fun j hj=>absurd hj (Nat.not_lt_zero _)⟩,fun y hy=>?_⟩
 obtain ⟨g1,g2,g3⟩:=hy
 refine ⟨fun hlt=>?_,fun hge=>?_⟩
 ·simp only at hlt ⊢
  refine ⟨g1,hlt,fun c=>⟨by omega,by omega,⟨by omega,by omega,fun j hj=>?_⟩,by omega⟩,fun c=>?_⟩
  ·by_cases e:j=y.toNat
   ·subst e
    rw [← d9]
    exact c
   ·exact g3 j (by omega)
  ·symm
   rw [Bool.eq_false_iff]
   intro hh
   have:=(List.all_eq_true.1 hh) (at_ L y) (by rw [d9,List.getD_eq_getElem?_getD,List.getElem?_eq_getElem (by omega)]; exact List.getElem_mem _)
   exact c this
 ·simp only at hge
  symm
  refine List.all_eq_true.2 fun w hw=>?_
  obtain ⟨j,hj,rfl⟩:=List.mem_iff_getElem.1 hw
  have hj:j < L.length:=hj
  have:=g3 j (by omega)
  rw [List.getD_eq_getElem?_getD,List.getElem?_eq_getElem hj] at this
  exact this
theorem f262.ok (a:Ob Lbs) (_:True):f262.vc a:=rfl
def kP (b:Bool) (o:Ob Lbs) (j:Nat) (p:ByteArray→Bool) (s:Nat→Bool):List ByteArray:=bif b then [] else (((List.range (o.n j)).filter s).map (o.ks j)).filter p
section
variable {b:Bool} {o:Ob Lbs} {j:Nat} {p:ByteArray→Bool} {s:Nat→Bool}
theorem aC7:kP b o j p (fun _=>false)=[]:=by
 unfold kP
 cases b <;> simp
theorem aGG (h:b=true∨∀ x,x < o.n j→s x=true):kP b o j p s=bif b then [] else ((List.range (o.n j)).map (o.ks j)).filter p:=by
 unfold kP
 cases b with
 | true=>rfl
 | false =>
  rcases h with h | h
  ·cases h
  ·simp only [cond_false]
   rw [List.filter_eq_self.2 fun x hx=>h x (List.mem_range.1 hx)]
theorem aFN {x:Nat} (hx:x < o.n j) (hs:s x=false) (hp:p (o.ks j x)=true):(kP false o j p fun y=>bif Nat.beq y x then true else s y).Perm (kP false o j p s++[o.ks j x]):=by
 unfold kP
 have:=((pT (s:=s) List.nodup_range (List.mem_range.2 hx) hs).map (o.ks j)).filter p
 rw [List.map_cons,List.filter_cons_of_pos hp] at this
 exact this.trans (List.perm_append_comm (l₁:=[o.ks j x]))
theorem aDR {x:Nat} (hx:x < o.n j) (hs:s x=false) (hp:p (o.ks j x)=false):(kP false o j p fun y=>bif Nat.beq y x then true else s y).Perm (kP false o j p s):=by
 unfold kP
 have:=((pT (s:=s) List.nodup_range (List.mem_range.2 hx) hs).map (o.ks j)).filter p
 rw [List.map_cons,List.filter_cons_of_neg (by simp [hp])] at this
 exact this
theorem aH5:(kP b o j p s).length≤(bif b then ([]:List ByteArray) else ((List.range (o.n j)).map (o.ks j)).filter fun _=>true).length:=by
 unfold kP
 cases b with
 | true=>exact Nat.le_refl _
 | false =>
  refine Nat.le_trans (List.length_filter_le _ _) ?_
  have:∀ l:List ByteArray,l.filter (fun _=>true)=l:=fun l=>by simp
  simp only [cond_false,List.length_map,this]
  exact List.length_filter_le _ _
end
theorem f149.ok (a:Ob Lbs×Lbs) (h:bJ a):f149.vc a:=by
 obtain ⟨o,L⟩:=a
 obtain ⟨h1,h2,h3⟩:=h
 have h1:L.length≤1048576:=h1
 cases L with
 | nil=>exact ⟨fun _=>⟨h2 rfl,rfl⟩,fun c=>absurd rfl c⟩
 | cons w0 R =>
  have hw:at_ (w0::R) (0:Int)=w0:=rfl
  have hR:uC (w0::R) (1:Int) ((w0::R).length:Int)=R:=by
   unfold uC
   simp
  have h3:=h3 w0
  refine ⟨fun c=>?_,fun _=>?_⟩
  ·simp only [List.length_cons] at c
   omega
  ·let b0:=bl o w0
   let J:=cd w0.1 w0.2
   let p:ByteArray→Bool:=fun n=>i9 (o,n,R)
   refine ⟨by simp only [List.length_cons]; omega,fun y=>y.2.1=b0∧y.1.Perm (kP b0 o J p y.2.2.1),fun y=>aFG o J y.2.2.1,⟨rfl,by simp only; rw [aC7]⟩,fun y hy=>?_⟩
   obtain ⟨out,b,s,q⟩:=y
   obtain ⟨e1,g⟩:=hy
   simp only at e1 g
   have hlen:out.length≤1048576:=by
    rw [g.length_eq]
    exact Nat.le_trans aH5 h3
   simp only [hw,hR]
   refine ⟨fun hov=>⟨hlen,aGN out,?_⟩,fun hb x hx hs=>?_⟩
   ·show dG out=dG (jW o w0 p)
    refine o7 (g.trans ?_)
    rw [e1] at hov
    rw [aGG hov]
    exact List.Perm.refl _
   ·have hb0:b0=false:=e1.symm.trans hb
    rw [hb0] at g
    have hmu:=aFZ (o:=o) hx hs
    refine ⟨by simp only [List.length_cons]; omega,Nat.le_of_succ_le (by simpa using h1),fun hp=>⟨by omega,⟨hb0.symm,?_⟩,hmu⟩,fun hp=>⟨⟨hb0.symm,?_⟩,hmu⟩⟩
    ·rw [hb0]
     exact (g.append_right _).trans (aFN hx hs hp).symm
    ·rw [hb0]
     exact g.trans (aDR hx hs (Bool.eq_false_iff.2 hp)).symm
end Go.Abs
