/- Functions, and what the code asks of them: PSort. -/
import Derived.KernelRfl
import Derived.Test.YtabnaedcnfkmiaeVictimTellsP3
import Derived.Test.YtabnaedcnfkmiaeVictimTellsP11
set_option linter.unusedVariables false
set_option linter.unusedSimpArgs false
/- Sorts,as the library does them: in place,by swaps. -/
namespace Go.Abs
open Go

section
variable {α:Type} [Inhabited α]

def swp (l:List α) (i j:Nat):List α:=(l.set i (l.getD j default)).set j (l.getD i default)

def nQ (l:List α) (a b:Nat):Nat→List α
 | 0=>l
 | k+1=>swp (nQ l a b k) (a+k) (b+k)

def seg (l:List α) (a b:Nat):List α:=(l.drop a).take (b - a)

def fQ (f:List α→List α) (l:List α) (a b:Nat):List α:=l.take a++f (seg l a b)++l.drop b

def fB (l:List α) (a m b:Nat):List α:=l.take a++(seg l m b++seg l a m)++l.drop b

variable (lt:α→α→Bool)

def rQ (x:α):List α→List α
 | []=>[x]
 | y::l=>if lt y x=true then y::rQ x l else x::y::l

def bK:List α→List α
 | []=>[]
 | x::l=>rQ lt x (bK l)

def Sd (l:List α):Prop:=l.Pairwise fun x y=>lt y x=false

def aE7 (c:List α×Int×Int×Int):Prop:=0≤c.2.1∧0≤c.2.2.1∧0≤c.2.2.2∧c.2.1+c.2.2.2≤c.1.length∧c.2.2.1+c.2.2.2≤c.1.length∧c.1.length≤1048576
def aDP (c:List α×Int×Int×Int):Prop:=0≤c.2.1∧c.2.1 < c.2.2.1∧c.2.2.1 < c.2.2.2∧c.2.2.2≤c.1.length∧c.1.length≤1048576
def aHT (c:List α×Int×Int):Prop:=0≤c.2.1∧c.2.1≤c.2.2∧c.2.2≤c.1.length∧c.1.length≤1048576
def aHF (c:List α×Int×Int×Int):Prop:=aDP c∧Sd lt (seg c.1 c.2.1.toNat c.2.2.1.toNat)∧Sd lt (seg c.1 c.2.2.1.toNat c.2.2.2.toNat)
def aI7 (c:List α×Int×Int×Int):Nat:=(c.2.2.2 - c.2.1).toNat
end

section jobs
def mG (c:aA×aA):Int:=orI [fR (c.1.1.2.2.1,c.2.1.2.2.1),fR (c.2.2.1,c.1.2.1)]
def ltW (a b:aA):Bool:=decide (mG (a,b) < 0)
def dC (c:List aA×Int×Int×Int):List aA:=nQ c.1 c.2.1.toNat c.2.2.1.toNat c.2.2.2.toNat
def f6 (c:List aA×Int×Int×Int):Prop:=aE7 c
def p8 (c:List aA×Int×Int×Int):List aA:=fB c.1 c.2.1.toNat c.2.2.1.toNat c.2.2.2.toNat
def n4 (c:List aA×Int×Int×Int):Prop:=aDP c
def kW (c:List aA×Int×Int):List aA:=fQ (bK ltW) c.1 c.2.1.toNat c.2.2.toNat
def jZ (c:List aA×Int×Int):Prop:=aHT c
def dR (c:List aA×Int×Int×Int):List aA:=fQ (bK ltW) c.1 c.2.1.toNat c.2.2.2.toNat
def iZ (c:List aA×Int×Int×Int):Prop:=aHF ltW c
def tV (c:List aA×Int×Int×Int):Nat:=aI7 c
def iY (c:List aA×Int):List aA:=bK ltW c.1
def kL (c:List aA×Int):Prop:=c.2=c.1.length∧c.1.length≤1048576
def nV (c:List aA):List aA:=bK ltW c
def lB (c:List aA):Prop:=c.length≤1048576
end jobs
end Go.Abs

/- The theory of sorts by swaps: the sorted order of elements,the alike ones as they stood,is one only. -/
namespace Go.Abs
open Go

structure Weak {α:Type} (lt:α→α→Bool):Prop where
 asym:∀ {x y},lt x y=true→lt y x=false
 le:∀ {x y z},lt y x=false→lt z y=false→lt z x=false

section
variable {α:Type} {lt:α→α→Bool}

def kin (lt:α→α→Bool) (z y:α):Bool:=!lt z y&&!lt y z

def FE (lt:α→α→Bool) (l l':List α):Prop:=∀ z,l.filter (kin lt z)=l'.filter (kin lt z)

theorem FE.refl (l:List α):FE lt l l:=fun _=>rfl
theorem FE.symm {l l':List α} (h:FE lt l l'):FE lt l' l:=fun z=>(h z).symm
theorem FE.trans {a b c:List α} (h:FE lt a b) (k:FE lt b c):FE lt a c:=fun z=>(h z).trans (k z)
theorem FE.app {a b c d:List α} (h:FE lt a b) (k:FE lt c d):FE lt (a++c) (b++d):=fun z=>by rw [List.filter_append,List.filter_append,h z,k z]
theorem FE.cancel {p l l' q:List α} (h:FE lt (p++l++q) (p++l'++q)):FE lt l l':=fun z=>by
 have:=h z
 simp only [List.filter_append] at this
 exact List.append_cancel_left (List.append_cancel_right this)

theorem Weak.irr (w:Weak lt) (x:α):lt x x=false:=by
 cases h:lt x x with
 | false=>rfl
 | true=>rw [w.asym h] at h; cases h

theorem aAV (w:Weak lt) (x:α):kin lt x x=true:=by simp [kin,w.irr x]

theorem aDV {z y:α}:kin lt z y=true↔lt z y=false∧lt y z=false:=by simp [kin]

theorem aIN (w:Weak lt) {z x y:α} (hx:kin lt z x=true) (hy:kin lt z y=true):lt x y=false:=by
 rw [aDV] at hx hy
 exact w.le (y:=z) hy.1 hx.2

theorem FE.mem (w:Weak lt) {l l':List α} (h:FE lt l l') {x:α} (hx:x∈l):x∈l':=by
 have:x∈l.filter (kin lt x):=List.mem_filter.2 ⟨hx,aAV w x⟩
 rw [h x] at this
 exact (List.mem_filter.1 this).1

theorem FE.swap (w:Weak lt) {a b:List α} (h:∀ x∈a,∀ y∈b,lt y x=true):FE lt (a++b) (b++a):=fun z=>by
 rw [List.filter_append,List.filter_append]
 cases ha:a.filter (kin lt z) with
 | nil=>simp
 | cons x r =>
  have hb:b.filter (kin lt z)=[]:=by
   rw [List.filter_eq_nil_iff]
   intro y hy hzy
   have hx:x∈a.filter (kin lt z):=by rw [ha]; simp
   obtain ⟨h1,h2⟩:=List.mem_filter.1 hx
   have:=aIN w hzy h2
   rw [h x h1 y hy] at this
   cases this
  rw [hb]
  simp

theorem Sd.uniq (w:Weak lt):∀ {l l':List α},Sd lt l→Sd lt l'→FE lt l l'→l=l'
 | [],[],_,_,_=>rfl
 | [],y::l',_,_,h=>by have:=FE.mem w h.symm (x:=y) (by simp); simp at this
 | x::l,[],_,_,h=>by have:=FE.mem w h (x:=x) (by simp); simp at this
 | x::l,y::l',h1,h2,h=>by
  have e1:lt x y=false:=by
   have:x∈y::l':=FE.mem w h (by simp)
   rcases List.mem_cons.1 this with rfl | hm
   ·exact w.irr _
   ·exact (List.pairwise_cons.1 h2).1 x hm
  have e2:lt y x=false:=by
   have:y∈x::l:=FE.mem w h.symm (by simp)
   rcases List.mem_cons.1 this with rfl | hm
   ·exact w.irr _
   ·exact (List.pairwise_cons.1 h1).1 y hm
  have e3:=h x
  rw [List.filter_cons_of_pos (aAV w x),List.filter_cons_of_pos (aDV.2 ⟨e1,e2⟩)] at e3
  have hxy:=(List.cons.inj e3).1
  subst hxy
  have:FE lt l l':=fun z=>by
   have e4:=h z
   cases hz:kin lt z x with
   | true =>
    rw [List.filter_cons_of_pos hz,List.filter_cons_of_pos hz] at e4
    exact (List.cons.inj e4).2
   | false =>
    rw [List.filter_cons_of_neg (by simp [hz]),List.filter_cons_of_neg (by simp [hz])] at e4
    exact e4
  rw [Sd.uniq w (List.pairwise_cons.1 h1).2 (List.pairwise_cons.1 h2).2 this]

theorem zC (w:Weak lt) (x:α):∀ l,FE lt (rQ lt x l) (x::l)
 | []=>FE.refl _
 | y::l=>by
  simp only [rQ]
  split
  ·rename_i h
   refine FE.trans (FE.app (FE.refl [y]) (zC w x l)) ?_
   have k:=FE.app (FE.swap w (a:=[x]) (b:=[y]) (by simpa using h)) (FE.refl (lt:=lt) l)
   exact fun z=>by simpa using (k z).symm
  ·exact FE.refl _

theorem i5 (w:Weak lt):∀ l,FE lt (bK lt l) l
 | []=>FE.refl _
 | x::l=>(zC w x _).trans (FE.app (FE.refl [x]) (i5 w l))

theorem aDG (w:Weak lt) (x:α):∀ {l},Sd lt l→Sd lt (rQ lt x l)
 | [],_=>by simp [rQ,Sd]
 | y::l,h=>by
  have hc:=List.pairwise_cons.1 h
  simp only [rQ]
  split
  ·rename_i hyx
   refine List.pairwise_cons.2 ⟨fun z hz=>?_,aDG w x hc.2⟩
   have:z∈x::l:=FE.mem w (zC w x l) hz
   rcases List.mem_cons.1 this with rfl | hm
   ·exact w.asym hyx
   ·exact hc.1 z hm
  ·rename_i hyx
   have hyx:lt y x=false:=by simpa using hyx
   refine List.pairwise_cons.2 ⟨fun z hz=>?_,h⟩
   rcases List.mem_cons.1 hz with rfl | hm
   ·exact hyx
   ·exact w.le hyx (hc.1 z hm)

theorem lI (w:Weak lt):∀ l,Sd lt (bK lt l)
 | []=>List.Pairwise.nil
 | x::l=>aDG w x (lI w l)

theorem rB (w:Weak lt) {l s:List α} (h1:Sd lt s) (h2:FE lt s l):s=bK lt l:=Sd.uniq w h1 (lI w l) (h2.trans (i5 w l).symm)

theorem rD (w:Weak lt) {l:List α} (h:Sd lt l):bK lt l=l:=(rB w h (FE.refl l)).symm

theorem sO (x:α):∀ l,(rQ lt x l).length=l.length+1
 | []=>rfl
 | y::l=>by
  simp only [rQ]
  split
  ·simp [sO x l]
  ·rfl

theorem dD:∀ l,(bK lt l).length=l.length
 | []=>rfl
 | x::l=>by simp [bK,sO,dD l]

theorem lH (w:Weak lt) {l:List α} {x:α}:x∈bK lt l↔x∈l:=⟨FE.mem w (i5 w l),FE.mem w (i5 w l).symm⟩

end

section
variable {α:Type}

theorem d6 (l:List α) (a b:Nat) (h:b≤l.length):(seg l a b).length=b - a:=by
 unfold seg
 rw [List.length_take,List.length_drop]
 omega

theorem pL (l:List α) {a b:Nat} (h:a≤b):l=l.take a++seg l a b++l.drop b:=by
 unfold seg
 rw [List.append_assoc]
 have:l.drop b=(l.drop a).drop (b - a):=by rw [List.drop_drop]; congr 1; omega
 rw [this,List.take_append_drop,List.take_append_drop]

theorem kI (p s q:List α):seg (p++s++q) p.length (p.length+s.length)=s:=by
 unfold seg
 rw [List.append_assoc,List.drop_left,Nat.add_sub_cancel_left,List.take_left]

theorem aFN (p s q:List α):(p++s++q).take p.length=p:=by rw [List.append_assoc,List.take_left]

theorem aFE (p s q:List α):(p++s++q).drop (p.length+s.length)=q:=by rw [← List.length_append,List.drop_left]

theorem t4 (f:List α→List α) (p s q:List α):fQ f (p++s++q) p.length (p.length+s.length)=p++f s++q:=by
 unfold fQ
 rw [kI,aFN,aFE]

theorem kQ {f:List α→List α} (hf:∀ l,(f l).length=l.length) (l:List α) {a b:Nat} (h:a≤b) (hb:b≤l.length):(fQ f l a b).length=l.length:=by
 unfold fQ
 rw [List.length_append,List.length_append,hf,d6 l a b hb,List.length_take,List.length_drop]
 omega

theorem cD (l:List α) {a m b:Nat} (h1:a≤m) (h2:m≤b) (h3:b≤l.length):(fB l a m b).length=l.length:=by
 unfold fB
 simp only [List.length_append,d6 l m b h3,d6 l a m (by omega),List.length_take,List.length_drop]
 omega

end

section
variable {α:Type} [Inhabited α] {lt:α→α→Bool}

theorem iN (l:List α) (i j:Nat):(swp l i j).length=l.length:=by simp [swp]
theorem dG (l:List α) (a b k:Nat):(nQ l a b k).length=l.length:=by
 induction k with
 | zero=>rfl
 | succ k ih=>rw [nQ,iN,ih]
theorem kF (l:List α) {i j:Nat} (hi:i < l.length) (hj:j < l.length) (k:Nat):(swp l i j).getD k default=if k=j then l.getD i default else if k=i then l.getD j default else l.getD k default:=by
 unfold swp
 simp only [List.getD_eq_getElem?_getD,List.getElem?_set,List.length_set]
 by_cases h1:k=j
 ·subst h1
  rw [if_pos rfl,if_pos rfl,if_pos hj]
  rfl
 ·rw [if_neg (fun h=>h1 h.symm),if_neg h1]
  by_cases h2:k=i
  ·subst h2
   rw [if_pos rfl,if_pos rfl,if_pos hi]
   rfl
  ·rw [if_neg (fun h=>h2 h.symm),if_neg h2]

theorem f4 {l m:List α} (h:l.length=m.length) (e:∀ k,k < l.length→l.getD k default=m.getD k default):l=m:=by
 apply List.ext_getElem h
 intro k h1 h2
 have:=e k h1
 simpa [List.getD_eq_getElem?_getD,h1,h2] using this

theorem fV (l m:List α) (k:Nat):(l++m).getD k default=if k < l.length then l.getD k default else m.getD (k - l.length) default:=by
 simp only [List.getD_eq_getElem?_getD]
 by_cases h:k < l.length
 ·rw [if_pos h,List.getElem?_append_left h]
 ·rw [if_neg h,List.getElem?_append_right (by omega)]

theorem j8 (l:List α) (a b k:Nat) (h:k < b - a):(seg l a b).getD k default=l.getD (a+k) default:=by
 unfold seg
 simp only [List.getD_eq_getElem?_getD]
 rw [List.getElem?_take_of_lt h,List.getElem?_drop]

theorem lW (l:List α) {a b:Nat}:∀ {k:Nat},a+k≤l.length→b+k≤l.length→(a+k≤b∨b+k≤a)→∀ i,(nQ l a b k).getD i default=if a≤i∧i < a+k then l.getD (b+(i - a)) default else if b≤i∧i < b+k then l.getD (a+(i - b)) default else l.getD i default
 | 0,_,_,_,i=>by
  rw [if_neg (by omega),if_neg (by omega)]
  rfl
 | k+1,ha,hb,hd,i=>by
  have ih:=fun i=>lW l (k:=k) (a:=a) (b:=b) (by omega) (by omega) (by omega) i
  rw [nQ,kF _ (by rw [dG]; omega) (by rw [dG]; omega)]
  by_cases h1:i=b+k
  ·subst h1
   rw [if_pos rfl,ih,if_neg (by omega),if_neg (by omega),if_neg (by omega),if_pos (by omega)]
   congr 1
   omega
  ·rw [if_neg h1]
   by_cases h2:i=a+k
   ·subst h2
    rw [if_pos rfl,ih,if_neg (by omega),if_neg (by omega),if_pos (by omega)]
    congr 1
    omega
   ·rw [if_neg h2,ih]
    by_cases h3:a≤i∧i < a+k
    ·rw [if_pos h3,if_pos (by omega)]
    ·by_cases h4:b≤i∧i < b+k
     ·rw [if_neg h3,if_pos h4,if_neg (show ¬(a≤i∧i < a+(k+1)) by omega),if_pos (by omega)]
     ·rw [if_neg h3,if_neg h4,if_neg (show ¬(a≤i∧i < a+(k+1)) by omega),if_neg (by omega)]

theorem dY (l:List α) {a m b:Nat} (h1:a≤m) (h2:m≤b) (h3:b≤l.length) (i:Nat):(fB l a m b).getD i default=if a≤i∧i < b then (if i < a+(b - m) then l.getD (m+(i - a)) default else l.getD (i - (b - m)) default) else l.getD i default:=by
 have ht:(l.take a).length=a:=by rw [List.length_take]; omega
 have hs1:=d6 l m b h3
 have hs2:=d6 l a m (by omega)
 unfold fB
 rw [fV,fV,fV,List.length_append,List.length_append,ht,hs1,hs2]
 by_cases h4:i < a
 ·rw [if_pos (show i < a+(b - m+(m - a)) by omega),if_pos h4,if_neg (by omega)]
  simp [List.getD_eq_getElem?_getD,List.getElem?_take_of_lt h4]
 ·by_cases h5:i < b
  ·rw [if_pos (show i < a+(b - m+(m - a)) by omega),if_neg h4,if_pos (show a≤i∧i < b from ⟨by omega,h5⟩)]
   by_cases h6:i < a+(b - m)
   ·rw [if_pos (show i - a < b - m by omega),if_pos h6,j8 _ _ _ _ (by omega)]
   ·rw [if_neg (show ¬i - a < b - m by omega),if_neg h6,j8 _ _ _ _ (by omega)]
    congr 1
    omega
  ·rw [if_neg (show ¬i < a+(b - m+(m - a)) by omega),if_neg (show ¬(a≤i∧i < b) by omega)]
   simp only [List.getD_eq_getElem?_getD,List.getElem?_drop]
   congr 2
   omega

theorem aEQ (l:List α) {a m b i j:Nat} (hi:i≤m) (hb:m+j≤l.length) (hij:j < i) (hj:0 < j) :
  fB (nQ l (m - i) m j) (m - (i - j)) m (m+j)=fB l (m - i) m (m+j):=by
 refine f4 (by rw [cD _ (by omega) (by omega) (by rw [dG]; omega),cD _ (by omega) (by omega) hb,dG]) fun k _=>?_
 rw [dY _ (by omega) (by omega) (by rw [dG]; omega),dY _ (by omega) (by omega) hb]
 simp only [lW l (a:=m - i) (b:=m) (k:=j) (by omega) (by omega) (by omega)]
 repeat' split
 all_goals first | rfl | (exfalso; omega) | (congr 1; omega)

theorem aEZ (l:List α) {m i j:Nat} (hi:i≤m) (hb:m+j≤l.length) (hij:i < j) (hi0:0 < i) :
  fB (nQ l (m - i) (m+j - i) i) (m - i) m (m+(j - i))=fB l (m - i) m (m+j):=by
 refine f4 (by rw [cD _ (by omega) (by omega) (by rw [dG]; omega),cD _ (by omega) (by omega) hb,dG]) fun k _=>?_
 rw [dY _ (by omega) (by omega) (by rw [dG]; omega),dY _ (by omega) (by omega) hb]
 simp only [lW l (a:=m - i) (b:=m+j - i) (k:=i) (by omega) (by omega) (by omega)]
 repeat' split
 all_goals first | rfl | (exfalso; omega) | (congr 1; omega)

theorem aG8 (l:List α) {m i:Nat} (hi:i≤m) (hb:m+i≤l.length):nQ l (m - i) m i=fB l (m - i) m (m+i):=by
 refine f4 (by rw [cD _ (by omega) (by omega) hb,dG]) fun k _=>?_
 rw [dY _ (by omega) (by omega) hb,lW l (by omega) (by omega) (by omega)]
 repeat' split
 all_goals first | rfl | (exfalso; omega) | (congr 1; omega)

end
end Go.Abs

/- The steps of sorts by swaps. -/
namespace Go.Abs
open Go

section
variable {α:Type} {lt:α→α→Bool}

theorem aIZ (w:Weak lt) {y u v x:α} (h1:lt u y=false) (h2:lt u v=true) (h3:lt x v=false):lt y x=true:=by
 cases h:lt y x with
 | true=>rfl
 | false =>
  have:=w.le h3 (w.le h h1)
  rw [this] at h2
  cases h2

theorem aDL (l:List α) {a s m:Nat} (h1:a≤s) (h2:s≤m):seg l a m=seg l a s++seg l s m:=by
 unfold seg
 have:l.drop s=(l.drop a).drop (s - a):=by rw [List.drop_drop]; congr 1; omega
 rw [this,show m - a=(s - a)+(m - s) from by omega,List.take_add]

theorem aHE (p u v q:List α):fB (p++u++v++q) p.length (p.length+u.length) (p.length+u.length+v.length)=p++v++u++q:=by
 unfold fB
 have e1:seg (p++u++v++q) (p.length+u.length) (p.length+u.length+v.length)=v:=by
  have:=kI (p++u) v q
  rwa [List.length_append] at this
 have e2:seg (p++u++v++q) p.length (p.length+u.length)=u:=by
  have:=kI p u (v++q)
  rwa [← List.append_assoc] at this
 have e3:(p++u++v++q).take p.length=p:=by rw [List.append_assoc,List.append_assoc,List.take_left]
 have e4:(p++u++v++q).drop (p.length+u.length+v.length)=q:=by
  rw [← List.length_append,← List.length_append,List.drop_left]
 rw [e1,e2,e3,e4]
 simp [List.append_assoc]

theorem aJ5 (l:List α) {a s m e b:Nat} (h1:a≤s) (h2:s≤m) (h3:m≤e) (h4:e≤b) (h5:b≤l.length) :
  l=l.take a++seg l a s++seg l s m++seg l m e++seg l e b++l.drop b:=by
 have e1:=pL l (a:=a) (b:=s) h1
 have cut:∀ x y,x≤y→l.drop x=seg l x y++l.drop y:=fun x y h=>by
  have:l.drop y=(l.drop x).drop (y - x):=by rw [List.drop_drop]; congr 1; omega
  rw [this]
  exact (List.take_append_drop _ _).symm
 rw [cut s m h2,cut m e h3,cut e b h4] at e1
 simp only [List.append_assoc] at e1 ⊢
 exact e1

end

section
variable {α:Type} [Inhabited α] {lt:α→α→Bool}

structure Same (lt:α→α→Bool) (l cur:List α) (a b:Nat):Prop where
 len:cur.length=l.length
 out:∀ k,k < a∨b≤k→cur.getD k default=l.getD k default
 fe:FE lt cur l

theorem Same.refl (l:List α) (a b:Nat):Same lt l l a b:=⟨rfl,fun _ _=>rfl,FE.refl _⟩

def SdI (lt:α→α→Bool) (cur:List α) (a b:Nat):Prop:=∀ p q,a≤p→p < q→q < b→lt (cur.getD q default) (cur.getD p default)=false

theorem eJ {l:List α} {i:Nat} (h:i < l.length):l.getD i default=l[i]:=by simp [List.getD_eq_getElem?_getD,h]

theorem gO {cur:List α} {a b:Nat} (hb:b≤cur.length):SdI lt cur a b↔Sd lt (seg cur a b):=by
 have hl:=d6 cur a b hb
 constructor
 ·intro h
  refine List.pairwise_iff_getElem.2 fun i j hi hj hij=>?_
  rw [hl] at hi hj
  have:=h (a+i) (a+j) (by omega) (by omega) (by omega)
  rw [← j8 cur a b i (by omega),← j8 cur a b j (by omega)] at this
  rw [eJ (by rw [hl]; omega),eJ (by rw [hl]; omega)] at this
  exact this
 ·intro h p q hp hpq hq
  have:=List.pairwise_iff_getElem.1 h (p - a) (q - a) (by rw [hl]; omega) (by rw [hl]; omega) (by omega)
  rw [← eJ,← eJ,j8 cur a b _ (by omega),j8 cur a b _ (by omega),show a+(p - a)=p from by omega,show a+(q - a)=q from by omega] at this
  exact this

theorem aHK {l m:List α} {a:Nat} (h:l.length=m.length) (e:∀ k,k < a→l.getD k default=m.getD k default):l.take a=m.take a:=by
 refine f4 (by rw [List.length_take,List.length_take,h]) fun k hk=>?_
 rw [List.length_take] at hk
 have:=e k (by omega)
 simp only [List.getD_eq_getElem?_getD] at this ⊢
 rw [List.getElem?_take_of_lt (by omega),List.getElem?_take_of_lt (by omega)]
 exact this

theorem aHU {l m:List α} {b:Nat} (h:l.length=m.length) (e:∀ k,b≤k→l.getD k default=m.getD k default):l.drop b=m.drop b:=by
 refine f4 (by rw [List.length_drop,List.length_drop,h]) fun k hk=>?_
 have:=e (b+k) (by omega)
 simp only [List.getD_eq_getElem?_getD] at this ⊢
 rw [List.getElem?_drop,List.getElem?_drop]
 exact this

theorem Same.done (w:Weak lt) {l cur:List α} {a b:Nat} (s:Same lt l cur a b) (hab:a≤b) (hb:b≤l.length) (hs:SdI lt cur a b):cur=fQ (bK lt) l a b:=by
 have h1:=aHK (a:=a) s.len fun k hk=>s.out k (.inl hk)
 have h2:=aHU (b:=b) s.len fun k hk=>s.out k (.inr hk)
 have h3:FE lt (seg cur a b) (seg l a b):=by
  have:=s.fe
  rw [pL cur hab,pL l hab,h1,h2] at this
  exact FE.cancel this
 have h4:=rB w ((gO (by rw [s.len]; exact hb)).1 hs) h3
 unfold fQ
 rw [← h4,← h1,← h2]
 exact pL cur hab

theorem aIK (w:Weak lt) {l:List α} {k:Nat} (hk:k+1 < l.length) (h:lt (l.getD (k+1) default) (l.getD k default)=true):FE lt (swp l (k+1) k) l:=by
 have ht:(l.take k).length=k:=by rw [List.length_take]; omega
 have e1:l=l.take k++[l.getD k default,l.getD (k+1) default]++l.drop (k+2):=by
  refine f4 (by simp only [List.length_append,List.length_take,List.length_drop,List.length_cons,List.length_nil]; omega) fun i hi=>?_
  rw [fV,fV,List.length_append,ht]
  by_cases h1:i < k
  ·rw [if_pos (by simp; omega),if_pos h1]
   simp [List.getD_eq_getElem?_getD,List.getElem?_take_of_lt h1]
  ·by_cases h2:i < k+2
   ·rw [if_pos (by simp; omega),if_neg h1]
    have:i=k∨i=k+1:=by omega
    rcases this with rfl | rfl
    ·simp
    ·rw [show k+1 - k=1 from by omega]
     simp
   ·rw [if_neg (by simp; omega)]
    simp only [List.getD_eq_getElem?_getD,List.getElem?_drop]
    congr 2
    simp
    omega
 have e2:swp l (k+1) k=l.take k++[l.getD (k+1) default,l.getD k default]++l.drop (k+2):=by
  refine f4 (by rw [iN]; simp only [List.length_append,List.length_take,List.length_drop,List.length_cons,List.length_nil]; omega) fun i hi=>?_
  rw [iN] at hi
  rw [kF l hk (by omega),fV,fV,List.length_append,ht]
  by_cases h1:i < k
  ·rw [if_neg (by omega),if_neg (by omega),if_pos (by simp; omega),if_pos h1]
   simp [List.getD_eq_getElem?_getD,List.getElem?_take_of_lt h1]
  ·by_cases h2:i < k+2
   ·have:i=k∨i=k+1:=by omega
    rcases this with rfl | rfl
    ·rw [if_pos rfl,if_pos (by simp),if_neg h1]
     simp
    ·rw [if_neg (by omega),if_pos rfl,if_pos (by simp),if_neg h1,show k+1 - k=1 from by omega]
     simp
   ·rw [if_neg (by omega),if_neg (by omega),if_neg (by simp; omega)]
    simp only [List.getD_eq_getElem?_getD,List.getElem?_drop]
    congr 2
    simp
    omega
 rw [e2]
 conv=>rhs; rw [e1]
 refine FE.app (FE.app (FE.refl _) ?_) (FE.refl _)
 exact (FE.swap w (a:=[l.getD k default]) (b:=[l.getD (k+1) default]) (by simpa using h)).symm

theorem Same.swp (w:Weak lt) {l cur:List α} {a b k:Nat} (s:Same lt l cur a b) (hb:b≤l.length) (hk:a≤k) (hkb:k+1 < b) (h:lt (cur.getD (k+1) default) (cur.getD k default)=true):Same lt l (swp cur (k+1) k) a b:=by
 have hl:k+1 < cur.length:=by rw [s.len]; omega
 refine ⟨by rw [iN,s.len],fun i hi=>?_,(aIK w hl h).trans s.fe⟩
 rw [kF cur hl (by omega),if_neg (by omega),if_neg (by omega)]
 exact s.out i hi

structure InsI (lt:α→α→Bool) (l:List α) (a b i j:Nat) (cur:List α):Prop where
 same:Same lt l cur a b
 aj:a≤j
 ji:j≤i
 ib:i < b
 sd:∀ p q,a≤p→p < q→q≤i→q≠j→lt (cur.getD q default) (cur.getD p default)=false

theorem InsI.init {l cur:List α} {a b i:Nat} (s:Same lt l cur a b) (hi:a≤i) (ib:i < b) (h:SdI lt cur a i):InsI lt l a b i i cur :=
 ⟨s,hi,Nat.le_refl _,ib,fun p q h1 h2 h3 h4=>h p q h1 h2 (by omega)⟩

theorem InsI.step (w:Weak lt) {l cur:List α} {a b i j:Nat} (s:InsI lt l a b i (j+1) cur) (hb:b≤l.length) (hj:a≤j) (h:lt (cur.getD (j+1) default) (cur.getD j default)=true):InsI lt l a b i j (swp cur (j+1) j):=by
 have ji:=s.ji
 have ib:=s.ib
 have hl:j+1 < cur.length:=by rw [s.same.len]; omega
 refine ⟨s.same.swp w hb hj (by omega) h,hj,by omega,ib,fun p q h1 h2 h3 h4=>?_⟩
 rw [kF cur hl (by omega),kF cur hl (by omega)]
 by_cases hq:q=j+1
 ·subst hq
  rw [if_neg (by omega),if_pos rfl]
  by_cases hp:p=j
  ·subst hp
   rw [if_pos rfl]
   exact w.asym h
  ·rw [if_neg hp,if_neg (by omega)]
   exact s.sd p j h1 (by omega) (by omega) (by omega)
 ·rw [if_neg h4,if_neg hq]
  by_cases hp:p=j
  ·subst hp
   rw [if_pos rfl]
   exact w.le (w.asym h) (s.sd p q h1 (by omega) h3 hq)
  ·by_cases hp2:p=j+1
   ·subst hp2
    rw [if_neg (by omega),if_pos rfl]
    exact s.sd j q hj (by omega) h3 hq
   ·rw [if_neg hp,if_neg hp2]
    exact s.sd p q h1 h2 h3 hq

theorem InsI.stop (w:Weak lt) {l cur:List α} {a b i j:Nat} (s:InsI lt l a b i j cur) (h:j=a∨a < j∧lt (cur.getD j default) (cur.getD (j - 1) default)=false):Same lt l cur a b∧SdI lt cur a (i+1):=by
 have ji:=s.ji
 refine ⟨s.same,fun p q h1 h2 h3=>?_⟩
 by_cases hq:q=j
 ·subst hq
  rcases h with h | ⟨h,h4⟩
  ·omega
  ·by_cases hp:p=q - 1
   ·subst hp
    exact h4
   ·exact w.le (s.sd p (q - 1) h1 (by omega) (by omega) (by omega)) h4
 ·exact s.sd p q h1 h2 (by omega) hq

-- merging
theorem vV (l:List α) {s m e:Nat} (h1:s≤m) (h2:m≤e) (h3:e≤l.length) (h:s=m∨m=e):fB l s m e=l:=by
 refine f4 (cD l h1 h2 h3) fun k _=>?_
 rw [dY l h1 h2 h3]
 repeat' split
 all_goals first | rfl | (exfalso; omega) | (congr 1; omega)

theorem tP {l:List α} {a b:Nat} (hb:b≤l.length) {x:α} (h:x∈seg l a b):∃ k,a≤k∧k < b∧x=l.getD k default:=by
 obtain ⟨i,hi,rfl⟩:=List.mem_iff_getElem.1 h
 have hl:=d6 l a b hb
 rw [hl] at hi
 refine ⟨a+i,by omega,by omega,?_⟩
 rw [← j8 l a b i hi,eJ (by rw [hl]; exact hi)]

theorem uZ (w:Weak lt) (l:List α) {a s m e b mid:Nat} (h1:a≤s) (h2:s≤m) (h3:m≤e) (h4:e≤b) (h5:b≤l.length) (hmid:mid+m=s+e)
  (hX:Sd lt (seg l a m)) (hY:Sd lt (seg l m b)) (F1:s < m→m < e→lt (l.getD (e - 1) default) (l.getD s default)=true) (F2:a < s→e < b→lt (l.getD e default) (l.getD (s - 1) default)=false) :
  Sd lt (seg (fB l s m e) a s)∧Sd lt (seg (fB l s m e) s mid)∧(s=a∨s=mid→fQ (bK lt) (fB l s m e) a mid=fB l s m e) ∧
  Sd lt (seg (fQ (bK lt) (fB l s m e) a mid) mid e)∧Sd lt (seg (fQ (bK lt) (fB l s m e) a mid) e b) ∧
  (e=mid∨e=b→fQ (bK lt) (fQ (bK lt) (fB l s m e) a mid) mid b=fQ (bK lt) (fB l s m e) a mid) ∧
  fQ (bK lt) (fQ (bK lt) (fB l s m e) a mid) mid b=fQ (bK lt) l a b:=by
 have f:=aJ5 l h1 h2 h3 h4 h5
 have sX:=(gO (by omega)).2 hX
 have sY:=(gO h5).2 hY
 rw [aDL l h1 h2] at hX
 rw [aDL l h3 h4] at hY
 obtain ⟨hX1,hX2,hX12⟩:=List.pairwise_append.1 hX
 obtain ⟨hY1,hY2,hY12⟩:=List.pairwise_append.1 hY
 -- how the pieces stand to one another
 have c21:∀ x∈seg l s m,∀ y∈seg l m e,lt y x=true:=by
  intro x hx y hy
  obtain ⟨p,hp1,hp2,rfl⟩:=tP (by omega) hx
  obtain ⟨q,hq1,hq2,rfl⟩:=tP (by omega) hy
  have g:=F1 (by omega) (by omega)
  refine aIZ w ?_ g ?_
  ·by_cases hq:q=e - 1
   ·subst hq; exact w.irr _
   ·exact sY q (e - 1) hq1 (by omega) (by omega)
  ·by_cases hp:p=s
   ·subst hp; exact w.irr _
   ·exact sX s p h1 (by omega) hp2
 have c12:∀ x∈seg l a s,∀ y∈seg l e b,lt y x=false:=by
  intro x hx y hy
  obtain ⟨p,hp1,hp2,rfl⟩:=tP (by omega) hx
  obtain ⟨q,hq1,hq2,rfl⟩:=tP (by omega) hy
  have g:=F2 (by omega) (by omega)
  have g1:lt (l.getD (s - 1) default) (l.getD p default)=false:=by
   by_cases hp:p=s - 1
   ·subst hp; exact w.irr _
   ·exact sX p (s - 1) hp1 (by omega) (by omega)
  have g2:lt (l.getD q default) (l.getD e default)=false:=by
   by_cases hq:q=e
   ·subst hq; exact w.irr _
   ·exact sY e q h3 (by omega) hq2
  exact w.le g1 (w.le g g2)
 have lp:(l.take a).length=a:=by rw [List.length_take]; omega
 have lX1:=d6 l a s (by omega)
 have lX2:=d6 l s m (by omega)
 have lY1:=d6 l m e (by omega)
 have lY2:=d6 l e b h5
 generalize l.take a=P at *
 generalize seg l a s=X1 at *
 generalize seg l s m=X2 at *
 generalize seg l m e=Y1 at *
 generalize seg l e b=Y2 at *
 generalize l.drop b=Q at *
 have hr:fB l s m e=P++(X1++Y1)++(X2++Y2)++Q:=by
  have:=aHE (P++X1) X2 Y1 (Y2++Q)
  rw [List.length_append,lp,lX1,lX2,lY1,show a+(s - a)=s from by omega,show s+(m - s)=m from by omega,show m+(e - m)=e from by omega] at this
  rw [f]
  simp only [List.append_assoc] at this ⊢
  exact this
 have sA:=lI w (X1++Y1)
 have hA:(X1++Y1).length=mid - a:=by rw [List.length_append]; omega
 have hsA:(bK lt (X1++Y1)).length=mid - a:=by rw [dD,hA]
 have hB:(X2++Y2).length=b - mid:=by rw [List.length_append]; omega
 have e2:fQ (bK lt) (fB l s m e) a mid=P++bK lt (X1++Y1)++(X2++Y2)++Q:=by
  have:=t4 (bK lt) P (X1++Y1) ((X2++Y2)++Q)
  rw [lp,hA,show a+(mid - a)=mid from by omega] at this
  rw [hr]
  simp only [List.append_assoc] at this ⊢
  exact this
 have e3:fQ (bK lt) (fQ (bK lt) (fB l s m e) a mid) mid b=P++bK lt (X1++Y1)++bK lt (X2++Y2)++Q:=by
  have:=t4 (bK lt) (P++bK lt (X1++Y1)) (X2++Y2) Q
  rw [List.length_append,lp,hsA,hB,show a+(mid - a)=mid from by omega,show mid+(b - mid)=b from by omega] at this
  rw [e2]
  exact this
 have e4:fQ (bK lt) l a b=P++bK lt (X1++X2++Y1++Y2)++Q:=by
  have:=t4 (bK lt) P (X1++X2++Y1++Y2) Q
  simp only [List.length_append] at this
  rw [lp,lX1,lX2,lY1,lY2,show a+(s - a+(m - s)+(e - m)+(b - e))=b from by omega] at this
  rw [f]
  simp only [List.append_assoc] at this ⊢
  exact this
 have cross:∀ x∈X1++Y1,∀ y∈X2++Y2,lt y x=false:=by
  intro x hx y hy
  rcases List.mem_append.1 hx with hx | hx <;> rcases List.mem_append.1 hy with hy | hy
  ·exact hX12 x hx y hy
  ·exact c12 x hx y hy
  ·exact w.asym (c21 y hy x hx)
  ·exact hY12 x hx y hy
 have e5:bK lt (X1++Y1)++bK lt (X2++Y2)=bK lt (X1++X2++Y1++Y2):=by
  refine rB w (List.pairwise_append.2 ⟨sA,lI w _,fun x hx y hy=>cross x ((lH w).1 hx) y ((lH w).1 hy)⟩) ?_
  refine (FE.app (i5 w _) (i5 w _)).trans ?_
  have:=FE.app (FE.app (FE.refl (lt:=lt) X1) (FE.swap w c21).symm) (FE.refl Y2)
  simp only [List.append_assoc] at this ⊢
  exact this
 refine ⟨?_,?_,fun h=>?_,?_,?_,fun h=>?_,?_⟩
 ·have:=kI P X1 (Y1++(X2++Y2)++Q)
  rw [lp,lX1,show a+(s - a)=s from by omega] at this
  rw [hr]
  simp only [List.append_assoc] at this ⊢
  rw [this]
  exact hX1
 ·have:=kI (P++X1) Y1 ((X2++Y2)++Q)
  rw [List.length_append,lp,lX1,lY1,show a+(s - a)=s from by omega,show s+(e - m)=mid from by omega] at this
  rw [hr]
  simp only [List.append_assoc] at this ⊢
  rw [this]
  exact hY1
 ·rw [e2,hr]
  have:Sd lt (X1++Y1):=by
   rcases h with h | h
   ·have:X1=[]:=List.eq_nil_of_length_eq_zero (by omega)
    rw [this]; exact hY1
   ·have:Y1=[]:=List.eq_nil_of_length_eq_zero (by omega)
    rw [this,List.append_nil]; exact hX1
  rw [rD w this]
 ·have:=kI (P++bK lt (X1++Y1)) X2 (Y2++Q)
  rw [List.length_append,lp,hsA,lX2,show a+(mid - a)=mid from by omega,show mid+(m - s)=e from by omega] at this
  rw [e2]
  simp only [List.append_assoc] at this ⊢
  rw [this]
  exact hX2
 ·have:=kI (P++bK lt (X1++Y1)++X2) Y2 Q
  simp only [List.length_append] at this
  rw [lp,hsA,lX2,lY2,show a+(mid - a)+(m - s)=e from by omega,show e+(b - e)=b from by omega] at this
  rw [e2]
  simp only [List.append_assoc] at this ⊢
  rw [this]
  exact hY2
 ·rw [e3,e2]
  have:Sd lt (X2++Y2):=by
   rcases h with h | h
   ·have:X2=[]:=List.eq_nil_of_length_eq_zero (by omega)
    rw [this]; exact hY2
   ·have:Y2=[]:=List.eq_nil_of_length_eq_zero (by omega)
    rw [this,List.append_nil]; exact hX2
  rw [rD w this]
 ·rw [e3,e4,← e5]
  simp only [List.append_assoc]

theorem aEG (l:List α) {a k:Nat} (h:a≤k) (hk:k+1 < l.length):swp (fB l a (a+1) (k+1)) k (k+1)=fB l a (a+1) (k+2):=by
 have hl:=cD l (a:=a) (m:=a+1) (b:=k+1) (by omega) (by omega) (by omega)
 refine f4 (by rw [iN,hl,cD l (by omega) (by omega) (by omega)]) fun i _=>?_
 rw [kF _ (by omega) (by omega)]
 simp only [dY l (a:=a) (m:=a+1) (b:=k+1) (by omega) (by omega) (by omega),dY l (a:=a) (m:=a+1) (b:=k+2) (by omega) (by omega) (by omega)]
 repeat' split
 all_goals first | rfl | (exfalso; omega) | (congr 1; omega)

theorem aGW (l:List α) {k m:Nat} (h:k < m) (hm:m < l.length):swp (fB l (k+1) m (m+1)) (k+1) k=fB l k m (m+1):=by
 have hl:=cD l (a:=k+1) (m:=m) (b:=m+1) (by omega) (by omega) (by omega)
 refine f4 (by rw [iN,hl,cD l (by omega) (by omega) (by omega)]) fun i _=>?_
 rw [kF _ (by omega) (by omega)]
 simp only [dY l (a:=k+1) (m:=m) (b:=m+1) (by omega) (by omega) (by omega),dY l (a:=k) (m:=m) (b:=m+1) (by omega) (by omega) (by omega)]
 repeat' split
 all_goals first | rfl | (exfalso; omega) | (congr 1; omega)

theorem oR (w:Weak lt) (l:List α) {a b:Nat} (h:a≤b) (hb:b≤l.length):Same lt l (fQ (bK lt) l a b) a b∧SdI lt (fQ (bK lt) l a b) a b:=by
 have hl:=kQ (f:=bK lt) dD l h hb
 have lp:(l.take a).length=a:=by rw [List.length_take]; omega
 have ls:(bK lt (seg l a b)).length=b - a:=by rw [dD,d6 l a b hb]
 refine ⟨⟨hl,fun k hk=>?_,?_⟩,?_⟩
 ·unfold fQ
  rw [fV,fV,List.length_append,lp,ls]
  rcases hk with hk | hk
  ·rw [if_pos (by omega),if_pos hk]
   simp [List.getD_eq_getElem?_getD,List.getElem?_take_of_lt hk]
  ·rw [if_neg (by omega)]
   simp only [List.getD_eq_getElem?_getD,List.getElem?_drop]
   congr 2
   omega
 ·unfold fQ
  conv=>rhs; rw [pL l h]
  exact FE.app (FE.app (FE.refl _) (i5 w _)) (FE.refl _)
 ·refine (gO (by omega)).2 ?_
  have:=kI (l.take a) (bK lt (seg l a b)) (l.drop b)
  rw [lp,ls,show a+(b - a)=b from by omega] at this
  unfold fQ
  rw [this]
  exact lI w _

theorem Same.sd {l c:List α} {a b p q:Nat} (s:Same lt l c a b) (h:SdI lt l p q) (hd:q≤a∨b≤p):SdI lt c p q:=fun i j h1 h2 h3=>by
 rw [s.out j (by omega),s.out i (by omega)]
 exact h i j h1 h2 h3

theorem SdI.all (w:Weak lt) {l c:List α} (hl:c.length=l.length) (hf:FE lt c l) (h:SdI lt c 0 l.length):c=bK lt l:=by
 have:=(Same.done w ⟨hl,fun k hk=>?_,hf⟩ (Nat.zero_le _) (Nat.le_refl _) h)
 ·rw [this]
  unfold fQ seg
  simp
 ·have h1:l.length≤k:=by omega
  simp only [List.getD_eq_getElem?_getD]
  rw [List.getElem?_eq_none (by omega),List.getElem?_eq_none h1]

end
end Go.Abs

-- slices.SortStableFunc[[]interregnum/api.Job,interregnum/api.Job]
namespace Go.Abs
open Go
def f254.args (a:List (aA)):List D:=[.msl 0 13 (List.length a),.fn 255 []]
def f254.blks (a:List (aA)):List (List D):=[[.dead,.arr false 13 (List.length a) (gl aB a)]]
def f254.res (a:List (aA)):List D:=[]
def f254.blks' (a:List (aA)):List (List D):=[[.dead,.arr false 13 (List.length (nV a)) (gl aB (nV a))]]
def f254.C:aM:=FnC f254.args f254.blks (fun a=>lB a) f254.res f254.blks'
end Go.Abs

-- slices.stableCmpFunc[interregnum/api.Job]
namespace Go.Abs
open Go
def f256.args (a:(List (aA))×Int):List D:=[.msl 0 13 (List.length a.1),.int .i64 a.2,.fn 255 []]
def f256.blks (a:(List (aA))×Int):List (List D):=[[.dead,.arr false 13 (List.length a.1) (gl aB a.1)]]
def f256.res (a:(List (aA))×Int):List D:=[]
def f256.blks' (a:(List (aA))×Int):List (List D):=[[.dead,.arr false 13 (List.length (iY a)) (gl aB (iY a))]]
def f256.C:aM:=FnC f256.args f256.blks (fun a=>kL a) f256.res f256.blks'
end Go.Abs

/- slices.SortStableFunc[[]interregnum/api.Job,interregnum/api.Job] -/
namespace Go.Abs
open Go
set_option linter.unusedVariables false
def f254.kills (a:List (aA)):List cB:=[]
def f254.cuts (a:List (aA)):List (Nat×Σ β:Type,β→Tm):=[(999999,⟨Unit,fun x=>⟨[],[],[]⟩⟩)]
def f254.af (a:List (aA)):AF:=AF.mk (.region [oT 4 1000000 .move [0],
 oT 5 1000001 .move [0],
 oT 6 1000002 (.len false) [5],
 oT 7 1000003 .move [1],
 oT 8 1000004 (.call true 256) [4,6,7]])
 [] 1 7
def f254.env:Env:=[(256,f256.C)]
def f254.tree (a:List (aA)):Prop:=((List.length a)=(List.length a))∧∃ c1:(List (aA))×Int,((List.length a)=List.length c1.1)∧((List.length a:Int)=c1.2)∧(DEqs [] [])∧SlQ (List.length a) (List.length c1.1) (gl aB a) (gl aB c1.1) ((kL c1)∧SlQ (List.length (iY c1)) (List.length (nV a)) (gl aB (iY c1)) (gl aB (nV a)) (True))
def f254.vc (a:List (aA)):Prop:=(kL (a,(List.length a:Int))∧((List.length (iY (a,(List.length a:Int))))=(List.length a)∧((iY (a,(List.length a:Int)))=nV a)))
set_option maxRecDepth 100000 in
set_option maxHeartbeats 2000000 in
theorem f254.of (a:List (aA)) (h:f254.vc a):f254.tree a:=⟨rfl,⟨(a,(List.length a:Int)),⟨(cI (gl aB a) (Rds.self (enc:=aB))),⟨rfl,⟨(DEqs.refl _),slQ (Rds.self (enc:=aB)) (⟨h.1,tG h.2 (fun (h2:(List.length (iY (a,(List.length a:Int))))=(List.length a)) hk=>slQ (Rds.to (Rds.self (enc:=aB)) hk) (trivial))⟩)⟩⟩⟩⟩⟩
theorem f254.eq (a:List (aA)):(f254.af a).gives f254.env (f254.args a) (f254.blks a) (f254.res a) (f254.blks' a)=f254.tree a:=by kernel_rfl
end Go.Abs

-- interregnum/victim.weaker$1
namespace Go.Abs
open Go
def f255.ent (K:(aA×aA)→Prop) (t:aA×aA):Prop:=∃ c:aA×aA,(t.1.1.1=c.1.1.1)∧(t.1.1.2.1=c.1.1.2.1)∧(t.1.1.2.2.1=c.1.1.2.2.1)∧(t.1.1.2.2.2.1.1=c.1.1.2.2.2.1.1)∧(t.1.1.2.2.2.1.2.1=c.1.1.2.2.2.1.2.1)∧(t.1.1.2.2.2.1.2.2=c.1.1.2.2.2.1.2.2)∧SlQ t.1.1.2.2.2.2.1.length c.1.1.2.2.2.2.1.length (gl aE t.1.1.2.2.2.2.1) (gl aE c.1.1.2.2.2.2.1) ((t.1.1.2.2.2.2.2.1=c.1.1.2.2.2.2.2.1)∧(t.1.1.2.2.2.2.2.2.1=c.1.1.2.2.2.2.2.2.1)∧(t.1.1.2.2.2.2.2.2.2=c.1.1.2.2.2.2.2.2.2)∧(t.1.2.1=c.1.2.1)∧(t.1.2.2.1=c.1.2.2.1)∧(t.1.2.2.2=c.1.2.2.2)∧(t.2.1.1=c.2.1.1)∧(t.2.1.2.1=c.2.1.2.1)∧(t.2.1.2.2.1=c.2.1.2.2.1)∧(t.2.1.2.2.2.1.1=c.2.1.2.2.2.1.1)∧(t.2.1.2.2.2.1.2.1=c.2.1.2.2.2.1.2.1)∧(t.2.1.2.2.2.1.2.2=c.2.1.2.2.2.1.2.2)∧SlQ t.2.1.2.2.2.2.1.length c.2.1.2.2.2.2.1.length (gl aE t.2.1.2.2.2.2.1) (gl aE c.2.1.2.2.2.2.1) ((t.2.1.2.2.2.2.2.1=c.2.1.2.2.2.2.2.1)∧(t.2.1.2.2.2.2.2.2.1=c.2.1.2.2.2.2.2.2.1)∧(t.2.1.2.2.2.2.2.2.2=c.2.1.2.2.2.2.2.2.2)∧(t.2.2.1=c.2.2.1)∧(t.2.2.2.1=c.2.2.2.1)∧(t.2.2.2.2=c.2.2.2.2)∧K c))
theorem f255.ei {K:(aA×aA)→Prop} {t:aA×aA} (h:K t):f255.ent K t:=⟨t,⟨rfl,⟨rfl,⟨rfl,⟨rfl,⟨rfl,⟨rfl,slQ (Rds.self (enc:=aE)) (⟨rfl,⟨rfl,⟨rfl,⟨rfl,⟨rfl,⟨rfl,⟨rfl,⟨rfl,⟨rfl,⟨rfl,⟨rfl,⟨rfl,slQ (Rds.self (enc:=aE)) (⟨rfl,⟨rfl,⟨rfl,⟨rfl,⟨rfl,⟨rfl,h⟩⟩⟩⟩⟩⟩)⟩⟩⟩⟩⟩⟩⟩⟩⟩⟩⟩⟩)⟩⟩⟩⟩⟩⟩⟩
def f255.args (a:aA×aA):List D:=[.agg [.str a.1.1.1,.str a.1.1.2.1,.int .i64 a.1.1.2.2.1,.int .i64 a.1.1.2.2.2.1.1,.int .i64 a.1.1.2.2.2.1.2.1,.int .i64 a.1.1.2.2.2.1.2.2,.slice .ro 2 a.1.1.2.2.2.2.1.length (gl aE a.1.1.2.2.2.2.1),.str a.1.1.2.2.2.2.2.1,.str a.1.1.2.2.2.2.2.2.1,.int .i64 a.1.1.2.2.2.2.2.2.2,.int .i64 a.1.2.1,.str a.1.2.2.1,.int .i64 a.1.2.2.2],.agg [.str a.2.1.1,.str a.2.1.2.1,.int .i64 a.2.1.2.2.1,.int .i64 a.2.1.2.2.2.1.1,.int .i64 a.2.1.2.2.2.1.2.1,.int .i64 a.2.1.2.2.2.1.2.2,.slice .ro 2 a.2.1.2.2.2.2.1.length (gl aE a.2.1.2.2.2.2.1),.str a.2.1.2.2.2.2.2.1,.str a.2.1.2.2.2.2.2.2.1,.int .i64 a.2.1.2.2.2.2.2.2.2,.int .i64 a.2.2.1,.str a.2.2.2.1,.int .i64 a.2.2.2.2]]
def f255.blks (a:aA×aA):List (List D):=[]
def f255.res (a:aA×aA):List D:=[.int .i64 (mG a)]
def f255.blks' (a:aA×aA):List (List D):=[]
def f255.C:aM:=FnC f255.args f255.blks (fun _=>True) f255.res f255.blks'
end Go.Abs

/- interregnum/victim.weaker$1 -/
namespace Go.Abs
open Go
set_option linter.unusedVariables false
def f255.kills (a:aA×aA):List cB:=[]
def f255.cuts (a:aA×aA):List (Nat×Σ β:Type,β→Tm):=[]
def f255.af (a:aA×aA):AF:=AF.mk (.seq (.region [oT 2 0 .box [0],
 oT 3 1 .box [1],
 ⟨(some 4),2,.move,[.c (.int .i64 (0))],none⟩])
 (.seq (.region [oT 5 3 (.fieldAddr 0) [2],
 oT 6 4 (.fieldAddr 2) [5],
 oT 7 5 (.load false 1) [6],
 oT 8 6 (.fieldAddr 0) [3],
 oT 9 7 (.fieldAddr 2) [8],
 oT 10 8 (.load false 1) [9],
 oT 11 9 (.call false 130) [7,10],
 oT 12 13 (.fieldAddr 10) [3],
 oT 13 14 (.load false 1) [12],
 oT 14 15 (.fieldAddr 10) [2],
 oT 15 16 (.load false 1) [14],
 oT 16 17 (.call false 130) [13,15],
 oT 17 21 (.buildSlice 1 2 [.int .i64 (0)] [(0,1),(1,1)]) [11,16],
 oT 18 22 (.call false 129) [17],
 oT 4 26 .move [18]])
 (.ret)))
 [.tmp 4] 0 17
def f255.env:Env:=[(130,f130.C),(129,f129.C)]
def f255.tree (a:aA×aA):Prop:=∃ c1:Int×Int,(a.1.1.2.2.1=c1.1)∧(a.2.1.2.2.1=c1.2)∧True∧∃ c2:Int×Int,(a.2.2.1=c2.1)∧(a.1.2.1=c2.2)∧True∧∃ c3:List (Int),SlQ 2 c3.length (fun j=>List.take 1 (List.drop (j * 1) [.int .i64 (fR c1),.int .i64 (fR c2)])) (gl bC c3) ((kJ c3)∧((orI c3)=(mG a))∧True)
def f255.vc (a:aA×aA):Prop:=(kJ ([(fR (a.1.1.2.2.1,a.2.1.2.2.1)),(fR (a.2.2.1,a.1.2.1))])∧((orI ([(fR (a.1.1.2.2.1,a.2.1.2.2.1)),(fR (a.2.2.1,a.1.2.1))]))=mG a))
set_option maxRecDepth 100000 in
set_option maxHeartbeats 2000000 in
theorem f255.of (a:aA×aA) (h:f255.vc a):f255.tree a:=⟨(a.1.1.2.2.1,a.2.1.2.2.1),⟨rfl,⟨rfl,⟨trivial,⟨(a.2.2.1,a.1.2.1),⟨rfl,⟨rfl,⟨trivial,⟨[(fR (a.1.1.2.2.1,a.2.1.2.2.1)),(fR (a.2.2.1,a.1.2.1))],slQ (Rds.row (enc:=bC) ⟨rfl,fun i hi=>by repeat (first | rfl | exact absurd hi (Nat.not_lt.2 (Nat.le_add_left 2 _)) | (cases i with | zero=>rfl | succ i=>?_))⟩) (⟨h.1,⟨h.2,trivial⟩⟩)⟩⟩⟩⟩⟩⟩⟩⟩⟩
theorem f255.eq (a:aA×aA):(f255.af a).gives f255.env (f255.args a) (f255.blks a) (f255.res a) (f255.blks' a)=f255.tree a:=by kernel_rfl
end Go.Abs

-- slices.insertionSortCmpFunc[interregnum/api.Job]
namespace Go.Abs
open Go
def f257.args (a:(List (aA))×Int×Int):List D:=[.msl 0 13 (List.length a.1),.int .i64 a.2.1,.int .i64 a.2.2,.fn 255 []]
def f257.blks (a:(List (aA))×Int×Int):List (List D):=[[.dead,.arr false 13 (List.length a.1) (gl aB a.1)]]
def f257.res (a:(List (aA))×Int×Int):List D:=[]
def f257.blks' (a:(List (aA))×Int×Int):List (List D):=[[.dead,.arr false 13 (List.length (kW a)) (gl aB (kW a))]]
def f257.C:aM:=FnC f257.args f257.blks (fun a=>jZ a) f257.res f257.blks'
end Go.Abs

-- slices.symMergeCmpFunc[interregnum/api.Job]
namespace Go.Abs
open Go
def f258.args (a:(List (aA))×Int×Int×Int):List D:=[.msl 0 13 (List.length a.1),.int .i64 a.2.1,.int .i64 a.2.2.1,.int .i64 a.2.2.2,.fn 255 []]
def f258.blks (a:(List (aA))×Int×Int×Int):List (List D):=[[.dead,.arr false 13 (List.length a.1) (gl aB a.1)]]
def f258.res (a:(List (aA))×Int×Int×Int):List D:=[]
def f258.blks' (a:(List (aA))×Int×Int×Int):List (List D):=[[.dead,.arr false 13 (List.length (dR a)) (gl aB (dR a))]]
def f258.rpre (n:Nat) (a:(List (aA))×Int×Int×Int):Prop:=iZ a∧tV a < n
def f258.Cn (n:Nat):aM:=FnC f258.args f258.blks (fun a=>f258.rpre n a) f258.res f258.blks'
def f258.C:aM:=FnC f258.args f258.blks (fun a=>iZ a) f258.res f258.blks'
end Go.Abs

/- slices.stableCmpFunc[interregnum/api.Job] -/
namespace Go.Abs
open Go
set_option linter.unusedVariables false
def f256.S0 (a:(List (aA))×Int) (x:Int×Int×(List (aA))):Tm:=⟨[.msl 0 13 (List.length x.2.2),.int .i64 a.2,.fn 255 [],.dead,.dead,.dead,.int .i64 (20:Int),.int .i64 x.1,.int .i64 x.2.1,.dead,.dead,.dead,.dead,.dead,.dead,.dead,.dead,.dead,.dead,.dead,.dead,.dead,.dead,.dead,.dead,.dead,.dead,.dead,.dead,.dead,.dead,.dead,.dead,.dead,.dead,.dead,.dead,.dead,.dead,.dead,.dead,.dead,.dead,.dead,.dead,.dead,.dead,.dead,.dead,.dead,.dead,.dead,.dead,.dead,.dead,.dead,.dead,.dead,.dead,.dead,.dead,.dead,.dead],[(0,false,[.dead,.arr false 13 (List.length x.2.2) (gl aB x.2.2)])],[]⟩
def f256.S1 (a:(List (aA))×Int) (x:Int×(List (aA))):Tm:=⟨[.msl 0 13 (List.length x.2),.int .i64 a.2,.fn 255 [],.dead,.dead,.dead,.int .i64 x.1,.dead,.dead,.dead,.dead,.dead,.dead,.dead,.dead,.dead,.dead,.dead,.dead,.dead,.dead,.dead,.dead,.dead,.dead,.dead,.dead,.dead,.dead,.dead,.dead,.dead,.dead,.dead,.dead,.dead,.dead,.dead,.dead,.dead,.dead,.dead,.dead,.dead,.dead,.dead,.dead,.dead,.dead,.dead,.dead,.dead,.dead,.dead,.dead,.dead,.dead,.dead,.dead,.dead,.dead,.dead,.dead],[(0,false,[.dead,.arr false 13 (List.length x.2) (gl aB x.2)])],[]⟩
def f256.S2 (a:(List (aA))×Int) (x:Int×Int×Int×(List (aA))):Tm:=⟨[.msl 0 13 (List.length x.2.2.2),.int .i64 a.2,.fn 255 [],.dead,.dead,.dead,.int .i64 x.1,.int .i64 x.2.1,.int .i64 x.2.2.1,.dead,.dead,.dead,.dead,.dead,.dead,.dead,.dead,.dead,.dead,.dead,.dead,.dead,.dead,.dead,.dead,.dead,.dead,.dead,.dead,.dead,.dead,.dead,.dead,.dead,.dead,.dead,.dead,.dead,.dead,.dead,.dead,.dead,.dead,.dead,.dead,.dead,.dead,.dead,.dead,.dead,.dead,.dead,.dead,.dead,.dead,.dead,.dead,.dead,.dead,.dead,.dead,.dead,.dead],[(0,false,[.dead,.arr false 13 (List.length x.2.2.2) (gl aB x.2.2.2)])],[]⟩
def f256.kills (a:(List (aA))×Int):List cB:=[.tell (Int×Int×(List (aA))) (f256.S0 a),
 .tell (Int×(List (aA))) (f256.S1 a),
 .tell (Int×Int×Int×(List (aA))) (f256.S2 a)]
def f256.cuts (a:(List (aA))×Int):List (Nat×Σ β:Type,β→Tm):=[(999999,⟨Unit,fun x=>⟨[],[],[]⟩⟩)]
def f256.af (a:(List (aA))×Int):AF:=AF.mk (.seq (.region [⟨(some 6),1000000,.move,[.c (.int .i64 (20))],none⟩])
 (.seq (.region [oT 10 1000001 .move [6],
 ⟨(some 7),1000002,.move,[.c (.int .i64 (0))],none⟩,
 oT 8 1000003 .move [10]])
 (.seq (.block 0 (.loopT (Int×Int×(List (aA))) (f256.S0 a) 1000004 1000021 (.seq (.seq (.region [oT 11 1000004 .move [8],
 oT 12 1000005 .move [1],
 oT 13 1000006 (.bin .leq) [11,12]])
 (.cond (.t 13) (.skip) (.exit 0)))
 (.block 1 (.seq (.region [oT 14 1000007 .move [0],
 oT 15 1000008 .move [7],
 oT 16 1000009 .move [8],
 oT 17 1000010 .move [2],
 oT 18 1000011 (.call true 257) [14,15,16,17]])
 (.seq (.region [oT 19 1000015 .move [8],
 oT 7 1000016 .move [19]])
 (.region [oT 20 1000017 .move [8],
 oT 21 1000018 .move [6],
 oT 22 1000019 (.bin .add) [20,21],
 oT 8 1000020 .move [22]])))))))
 (.seq (.region [oT 23 1000021 .move [0],
 oT 24 1000022 .move [7],
 oT 25 1000023 .move [1],
 oT 26 1000024 .move [2],
 oT 27 1000025 (.call true 257) [23,24,25,26]])
 (.block 2 (.loopT (Int×(List (aA))) (f256.S1 a) 1000029 1000076 (.seq (.seq (.region [oT 28 1000029 .move [6],
 oT 29 1000030 .move [1],
 oT 30 1000031 (.bin .lss) [28,29]])
 (.cond (.t 30) (.skip) (.exit 2)))
 (.block 3 (.seq (.region [oT 31 1000032 .move [6],
 ⟨(some 32),1000033,(.bin .mul),[.c (.int .i64 (2)),.t 31],none⟩,
 ⟨(some 7),1000034,.move,[.c (.int .i64 (0))],none⟩,
 oT 8 1000035 .move [32]])
 (.seq (.block 4 (.loopT (Int×Int×Int×(List (aA))) (f256.S2 a) 1000036 1000057 (.seq (.seq (.region [oT 33 1000036 .move [8],
 oT 34 1000037 .move [1],
 oT 35 1000038 (.bin .leq) [33,34]])
 (.cond (.t 35) (.skip) (.exit 4)))
 (.block 5 (.seq (.region [oT 36 1000039 .move [0],
 oT 37 1000040 .move [7],
 oT 38 1000041 .move [7],
 oT 39 1000042 .move [6],
 oT 40 1000043 (.bin .add) [38,39],
 oT 41 1000044 .move [8],
 oT 42 1000045 .move [2],
 oT 43 1000046 (.call true 258) [36,37,40,41,42]])
 (.seq (.region [oT 44 1000050 .move [8],
 oT 7 1000051 .move [44]])
 (.region [oT 45 1000052 .move [8],
 oT 46 1000053 .move [6],
 ⟨(some 47),1000054,(.bin .mul),[.c (.int .i64 (2)),.t 46],none⟩,
 oT 48 1000055 (.bin .add) [45,47],
 oT 8 1000056 .move [48]])))))))
 (.seq (.seq (.region [oT 49 1000057 .move [7],
 oT 50 1000058 .move [6],
 oT 51 1000059 (.bin .add) [49,50],
 oT 9 1000060 .move [51]])
 (.seq (.region [oT 52 1000061 .move [9],
 oT 53 1000062 .move [1],
 oT 54 1000063 (.bin .lss) [52,53]])
 (.cond (.t 54) (.region [oT 55 1000064 .move [0],
 oT 56 1000065 .move [7],
 oT 57 1000066 .move [9],
 oT 58 1000067 .move [1],
 oT 59 1000068 .move [2],
 oT 60 1000069 (.call true 258) [55,56,57,58,59]]) (.skip))))
 (.region [oT 61 1000073 .move [6],
 ⟨(some 62),1000074,(.bin .mul),[.t 61,.c (.int .i64 (2))],none⟩,
 oT 6 1000075 .move [62]]))))))))))))
 [] 1 60
def f256.env:Env:=[(257,f257.C),(258,f258.C)]
def f256.tree (a:(List (aA))×Int):Prop:=∃ (I2:(Int×Int×(List (aA)))→Prop) (μ3:(Int×Int×(List (aA)))→Nat),(∃ x1:Int×Int×(List (aA)),((List.length a.1)=(List.length x1.2.2))∧(a.2=a.2)∧(DEqs [] [])∧((20:Int)=(20:Int))∧((0:Int)=x1.1)∧((20:Int)=x1.2.1)∧SlQ (List.length a.1) (List.length x1.2.2) (gl aB a.1) (gl aB x1.2.2) (I2 x1))∧∀ y4:Int×Int×(List (aA)),I2 y4→(Br (decide (y4.2.1≤a.2)) (((List.length y4.2.2)=(List.length y4.2.2))∧∃ c7:(List (aA))×Int×Int,((List.length y4.2.2)=List.length c7.1)∧(y4.1=c7.2.1)∧(y4.2.1=c7.2.2)∧(DEqs [] [])∧SlQ (List.length y4.2.2) (List.length c7.1) (gl aB y4.2.2) (gl aB c7.1) ((jZ c7)∧Let (IntKind.i64.wrap (y4.2.1+(20:Int))) (fun v9:Int=>∃ x10:Int×Int×(List (aA)),((List.length y4.2.2)=(List.length x10.2.2))∧(a.2=a.2)∧(DEqs [] [])∧((20:Int)=(20:Int))∧(y4.2.1=x10.1)∧(v9=x10.2.1)∧SlQ (List.length (kW c7)) (List.length x10.2.2) (gl aB (kW c7)) (gl aB x10.2.2) (I2 x10∧μ3 x10 < μ3 y4)))) (((List.length y4.2.2)=(List.length y4.2.2))∧∃ c16:(List (aA))×Int×Int,((List.length y4.2.2)=List.length c16.1)∧(y4.1=c16.2.1)∧(a.2=c16.2.2)∧(DEqs [] [])∧SlQ (List.length y4.2.2) (List.length c16.1) (gl aB y4.2.2) (gl aB c16.1) ((jZ c16)∧∃ (I19:(Int×(List (aA)))→Prop) (μ20:(Int×(List (aA)))→Nat),(∃ x18:Int×(List (aA)),((List.length y4.2.2)=(List.length x18.2))∧(a.2=a.2)∧(DEqs [] [])∧((20:Int)=x18.1)∧SlQ (List.length (kW c16)) (List.length x18.2) (gl aB (kW c16)) (gl aB x18.2) (I19 x18))∧∀ y21:Int×(List (aA)),I19 y21→(Br (decide (y21.1 < a.2)) (Let (IntKind.i64.wrap ((2:Int) * y21.1)) (fun v24:Int=>∃ (I26:(Int×Int×Int×(List (aA)))→Prop) (μ27:(Int×Int×Int×(List (aA)))→Nat),(∃ x25:Int×Int×Int×(List (aA)),((List.length y21.2)=(List.length x25.2.2.2))∧(a.2=a.2)∧(DEqs [] [])∧(y21.1=x25.1)∧((0:Int)=x25.2.1)∧(v24=x25.2.2.1)∧SlQ (List.length y21.2) (List.length x25.2.2.2) (gl aB y21.2) (gl aB x25.2.2.2) (I26 x25))∧∀ y28:Int×Int×Int×(List (aA)),I26 y28→(Br (decide (y28.2.2.1≤a.2)) (Let (IntKind.i64.wrap (y28.2.1+y28.1)) (fun v31:Int=>((List.length y28.2.2.2)=(List.length y28.2.2.2))∧∃ c32:(List (aA))×Int×Int×Int,((List.length y28.2.2.2)=List.length c32.1)∧(y28.2.1=c32.2.1)∧(v31=c32.2.2.1)∧(y28.2.2.1=c32.2.2.2)∧(DEqs [] [])∧SlQ (List.length y28.2.2.2) (List.length c32.1) (gl aB y28.2.2.2) (gl aB c32.1) ((iZ c32)∧Let (IntKind.i64.wrap ((2:Int) * y28.1)) (fun v34:Int=>Let (IntKind.i64.wrap (y28.2.2.1+v34)) (fun v35:Int=>∃ x36:Int×Int×Int×(List (aA)),((List.length y28.2.2.2)=(List.length x36.2.2.2))∧(a.2=a.2)∧(DEqs [] [])∧(y28.1=x36.1)∧(y28.2.2.1=x36.2.1)∧(v35=x36.2.2.1)∧SlQ (List.length (dR c32)) (List.length x36.2.2.2) (gl aB (dR c32)) (gl aB x36.2.2.2) (I26 x36∧μ27 x36 < μ27 y28)))))) (Let (IntKind.i64.wrap (y28.2.1+y28.1)) (fun v48:Int=>Br (decide (v48 < a.2)) (((List.length y28.2.2.2)=(List.length y28.2.2.2))∧∃ c51:(List (aA))×Int×Int×Int,((List.length y28.2.2.2)=List.length c51.1)∧(y28.2.1=c51.2.1)∧(v48=c51.2.2.1)∧(a.2=c51.2.2.2)∧(DEqs [] [])∧SlQ (List.length y28.2.2.2) (List.length c51.1) (gl aB y28.2.2.2) (gl aB c51.1) ((iZ c51)∧Let (IntKind.i64.wrap (y28.1 * (2:Int))) (fun v53:Int=>∃ x54:Int×(List (aA)),((List.length y28.2.2.2)=(List.length x54.2))∧(a.2=a.2)∧(DEqs [] [])∧(v53=x54.1)∧SlQ (List.length (dR c51)) (List.length x54.2) (gl aB (dR c51)) (gl aB x54.2) (I19 x54∧μ20 x54 < μ20 y21)))) (Let (IntKind.i64.wrap (y28.1 * (2:Int))) (fun v60:Int=>∃ x61:Int×(List (aA)),((List.length y28.2.2.2)=(List.length x61.2))∧(a.2=a.2)∧(DEqs [] [])∧(v60=x61.1)∧SlQ (List.length y28.2.2.2) (List.length x61.2) (gl aB y28.2.2.2) (gl aB x61.2) (I19 x61∧μ20 x61 < μ20 y21)))))))) (SlQ (List.length y21.2) (List.length (iY a)) (gl aB y21.2) (gl aB (iY a)) (True))))))
def f256.vc (a:(List (aA))×Int):Prop:=(∃ (I2:(Int×Int×(List (aA)))→Prop) (μ3:(Int×Int×(List (aA)))→Nat),I2 ((0:Int),(20:Int),a.1)∧∀ y4:Int×Int×(List (aA)),I2 y4→((y4.2.1≤a.2→(jZ (y4.2.2,y4.1,y4.2.1)∧((List.length (kW (y4.2.2,y4.1,y4.2.1)))=(List.length y4.2.2)∧(-9223372036854775808≤(y4.2.1+(20:Int))∧(y4.2.1+(20:Int))≤9223372036854775807∧(I2 (y4.2.1,(y4.2.1+(20:Int)),(kW (y4.2.2,y4.1,y4.2.1)))∧μ3 (y4.2.1,(y4.2.1+(20:Int)),(kW (y4.2.2,y4.1,y4.2.1))) < μ3 y4)))))∧(¬(y4.2.1≤a.2)→(jZ (y4.2.2,y4.1,a.2)∧((List.length (kW (y4.2.2,y4.1,a.2)))=(List.length y4.2.2)∧(∃ (I19:(Int×(List (aA)))→Prop) (μ20:(Int×(List (aA)))→Nat),I19 ((20:Int),(kW (y4.2.2,y4.1,a.2)))∧∀ y21:Int×(List (aA)),I19 y21→((y21.1 < a.2→(-9223372036854775808≤((2:Int) * y21.1)∧((2:Int) * y21.1)≤9223372036854775807∧(∃ (I26:(Int×Int×Int×(List (aA)))→Prop) (μ27:(Int×Int×Int×(List (aA)))→Nat),I26 (y21.1,(0:Int),((2:Int) * y21.1),y21.2)∧∀ y28:Int×Int×Int×(List (aA)),I26 y28→((y28.2.2.1≤a.2→(-9223372036854775808≤(y28.2.1+y28.1)∧(y28.2.1+y28.1)≤9223372036854775807∧(iZ (y28.2.2.2,y28.2.1,(y28.2.1+y28.1),y28.2.2.1)∧((List.length (dR (y28.2.2.2,y28.2.1,(y28.2.1+y28.1),y28.2.2.1)))=(List.length y28.2.2.2)∧(-9223372036854775808≤((2:Int) * y28.1)∧((2:Int) * y28.1)≤9223372036854775807∧(-9223372036854775808≤(y28.2.2.1+((2:Int) * y28.1))∧(y28.2.2.1+((2:Int) * y28.1))≤9223372036854775807∧(I26 (y28.1,y28.2.2.1,(y28.2.2.1+((2:Int) * y28.1)),(dR (y28.2.2.2,y28.2.1,(y28.2.1+y28.1),y28.2.2.1)))∧μ27 (y28.1,y28.2.2.1,(y28.2.2.1+((2:Int) * y28.1)),(dR (y28.2.2.2,y28.2.1,(y28.2.1+y28.1),y28.2.2.1))) < μ27 y28)))))))∧(¬(y28.2.2.1≤a.2)→(-9223372036854775808≤(y28.2.1+y28.1)∧(y28.2.1+y28.1)≤9223372036854775807∧(((y28.2.1+y28.1) < a.2→(iZ (y28.2.2.2,y28.2.1,(y28.2.1+y28.1),a.2)∧((List.length (dR (y28.2.2.2,y28.2.1,(y28.2.1+y28.1),a.2)))=(List.length y28.2.2.2)∧(-9223372036854775808≤(y28.1 * (2:Int))∧(y28.1 * (2:Int))≤9223372036854775807∧(I19 ((y28.1 * (2:Int)),(dR (y28.2.2.2,y28.2.1,(y28.2.1+y28.1),a.2)))∧μ20 ((y28.1 * (2:Int)),(dR (y28.2.2.2,y28.2.1,(y28.2.1+y28.1),a.2))) < μ20 y21)))))∧(¬((y28.2.1+y28.1) < a.2)→(-9223372036854775808≤(y28.1 * (2:Int))∧(y28.1 * (2:Int))≤9223372036854775807∧(I19 ((y28.1 * (2:Int)),y28.2.2.2)∧μ20 ((y28.1 * (2:Int)),y28.2.2.2) < μ20 y21))))))))))∧(¬(y21.1 < a.2)→(y21.2=iY a)))))))))
set_option maxRecDepth 100000 in
set_option maxHeartbeats 2000000 in
theorem f256.of (a:(List (aA))×Int) (h:f256.vc a):f256.tree a:=Exists.elim h (fun I2 h88_=>Exists.elim h88_ (fun μ3 h88=>⟨I2,μ3,⟨((0:Int),(20:Int),a.1),⟨(cI (gl aB a.1) (Rds.self (enc:=aB))),⟨rfl,⟨(DEqs.refl _),⟨rfl,⟨rfl,⟨rfl,slQ (Rds.self (enc:=aB)) (h88.1)⟩⟩⟩⟩⟩⟩⟩,fun y4 h90=>br (h88.2 y4 h90) Cnd.dec (fun h5 k86=>⟨rfl,⟨(y4.2.2,y4.1,y4.2.1),⟨(cI (gl aB y4.2.2) (Rds.self (enc:=aB))),⟨rfl,⟨rfl,⟨(DEqs.refl _),slQ (Rds.self (enc:=aB)) (⟨k86.1,tG k86.2 (fun (h8:(List.length (kW (y4.2.2,y4.1,y4.2.1)))=(List.length y4.2.2)) hk=>wrapK.i64 hk (fun h12 h13 k14=>⟨(y4.2.1,(y4.2.1+(20:Int)),(kW (y4.2.2,y4.1,y4.2.1))),⟨((h8).symm.trans (cI (gl aB (kW (y4.2.2,y4.1,y4.2.1))) (Rds.self (enc:=aB)))),⟨rfl,⟨(DEqs.refl _),⟨rfl,⟨rfl,⟨rfl,slQ (Rds.self (enc:=aB)) (k14)⟩⟩⟩⟩⟩⟩⟩))⟩)⟩⟩⟩⟩⟩⟩) (fun h6 k87=>⟨rfl,⟨(y4.2.2,y4.1,a.2),⟨(cI (gl aB y4.2.2) (Rds.self (enc:=aB))),⟨rfl,⟨rfl,⟨(DEqs.refl _),slQ (Rds.self (enc:=aB)) (⟨k87.1,tG k87.2 (fun (h17:(List.length (kW (y4.2.2,y4.1,a.2)))=(List.length y4.2.2)) hk=>Exists.elim hk (fun I19 h82_=>Exists.elim h82_ (fun μ20 h82=>⟨I19,μ20,⟨((20:Int),(kW (y4.2.2,y4.1,a.2))),⟨((h17).symm.trans (cI (gl aB (kW (y4.2.2,y4.1,a.2))) (Rds.self (enc:=aB)))),⟨rfl,⟨(DEqs.refl _),⟨rfl,slQ (Rds.self (enc:=aB)) (h82.1)⟩⟩⟩⟩⟩,fun y21 h84=>br (h82.2 y21 h84) Cnd.dec (fun h22 k80=>wrapK.i64 k80 (fun h76 h77 k78=>Exists.elim k78 (fun I26 h73_=>Exists.elim h73_ (fun μ27 h73=>⟨I26,μ27,⟨(y21.1,(0:Int),((2:Int) * y21.1),y21.2),⟨(cI (gl aB y21.2) (Rds.self (enc:=aB))),⟨rfl,⟨(DEqs.refl _),⟨rfl,⟨rfl,⟨rfl,slQ (Rds.self (enc:=aB)) (h73.1)⟩⟩⟩⟩⟩⟩⟩,fun y28 h75=>br (h73.2 y28 h75) Cnd.dec (fun h29 k71=>wrapK.i64 k71 (fun h45 h46 k47=>⟨rfl,⟨(y28.2.2.2,y28.2.1,(y28.2.1+y28.1),y28.2.2.1),⟨(cI (gl aB y28.2.2.2) (Rds.self (enc:=aB))),⟨rfl,⟨rfl,⟨rfl,⟨(DEqs.refl _),slQ (Rds.self (enc:=aB)) (⟨k47.1,tG k47.2 (fun (h33:(List.length (dR (y28.2.2.2,y28.2.1,(y28.2.1+y28.1),y28.2.2.1)))=(List.length y28.2.2.2)) hk=>wrapK.i64 hk (fun h41 h42 k43=>wrapK.i64 k43 (fun h38 h39 k40=>⟨(y28.1,y28.2.2.1,(y28.2.2.1+((2:Int) * y28.1)),(dR (y28.2.2.2,y28.2.1,(y28.2.1+y28.1),y28.2.2.1))),⟨((h33).symm.trans (cI (gl aB (dR (y28.2.2.2,y28.2.1,(y28.2.1+y28.1),y28.2.2.1))) (Rds.self (enc:=aB)))),⟨rfl,⟨(DEqs.refl _),⟨rfl,⟨rfl,⟨rfl,slQ (Rds.self (enc:=aB)) (k40)⟩⟩⟩⟩⟩⟩⟩)))⟩)⟩⟩⟩⟩⟩⟩⟩)) (fun h30 k72=>wrapK.i64 k72 (fun h68 h69 k70=>br k70 Cnd.dec (fun h49 k66=>⟨rfl,⟨(y28.2.2.2,y28.2.1,(y28.2.1+y28.1),a.2),⟨(cI (gl aB y28.2.2.2) (Rds.self (enc:=aB))),⟨rfl,⟨rfl,⟨rfl,⟨(DEqs.refl _),slQ (Rds.self (enc:=aB)) (⟨k66.1,tG k66.2 (fun (h52:(List.length (dR (y28.2.2.2,y28.2.1,(y28.2.1+y28.1),a.2)))=(List.length y28.2.2.2)) hk=>wrapK.i64 hk (fun h56 h57 k58=>⟨((y28.1 * (2:Int)),(dR (y28.2.2.2,y28.2.1,(y28.2.1+y28.1),a.2))),⟨((h52).symm.trans (cI (gl aB (dR (y28.2.2.2,y28.2.1,(y28.2.1+y28.1),a.2))) (Rds.self (enc:=aB)))),⟨rfl,⟨(DEqs.refl _),⟨rfl,slQ (Rds.self (enc:=aB)) (k58)⟩⟩⟩⟩⟩))⟩)⟩⟩⟩⟩⟩⟩⟩) (fun h50 k67=>wrapK.i64 k67 (fun h63 h64 k65=>⟨((y28.1 * (2:Int)),y28.2.2.2),⟨(cI (gl aB y28.2.2.2) (Rds.self (enc:=aB))),⟨rfl,⟨(DEqs.refl _),⟨rfl,slQ (Rds.self (enc:=aB)) (k65)⟩⟩⟩⟩⟩))))⟩)))) (fun h23 k81=>slQ (Rds.to (Rds.self (enc:=aB)) k81) (trivial))⟩)))⟩)⟩⟩⟩⟩⟩⟩)⟩))
theorem f256.eq (a:(List (aA))×Int):(f256.af a).gives f256.env (f256.args a) (f256.blks a) (f256.res a) (f256.blks' a)=f256.tree a:=by kernel_rfl
end Go.Abs

/- slices.insertionSortCmpFunc[interregnum/api.Job] -/
namespace Go.Abs
open Go
set_option linter.unusedVariables false
def f257.S0 (a:(List (aA))×Int×Int) (x:Int×(List (aA))):Tm:=⟨[.msl 0 13 (List.length x.2),.int .i64 a.2.1,.int .i64 a.2.2,.fn 255 [],.dead,.dead,.dead,.dead,.int .i64 x.1,.dead,.dead,.dead,.dead,.dead,.dead,.dead,.dead,.dead,.dead,.dead,.dead,.dead,.dead,.dead,.dead,.dead,.dead,.dead,.dead,.dead,.dead,.dead,.dead,.dead,.dead,.dead,.dead,.dead,.dead,.dead,.dead,.dead,.dead,.dead,.dead,.dead,.dead,.dead,.dead,.dead,.dead,.dead,.dead],[(0,false,[.dead,.arr false 13 (List.length x.2) (gl aB x.2)])],[]⟩
def f257.S1 (a:(List (aA))×Int×Int) (x:Int×Int×(List (aA))):Tm:=⟨[.msl 0 13 (List.length x.2.2),.int .i64 a.2.1,.int .i64 a.2.2,.fn 255 [],.dead,.dead,.dead,.dead,.int .i64 x.1,.int .i64 x.2.1,.dead,.dead,.dead,.dead,.dead,.dead,.dead,.dead,.dead,.dead,.dead,.dead,.dead,.dead,.dead,.dead,.dead,.dead,.dead,.dead,.dead,.dead,.dead,.dead,.dead,.dead,.dead,.dead,.dead,.dead,.dead,.dead,.dead,.dead,.dead,.dead,.dead,.dead,.dead,.dead,.dead,.dead,.dead],[(0,false,[.dead,.arr false 13 (List.length x.2.2) (gl aB x.2.2)])],[]⟩
def f257.kills (a:(List (aA))×Int×Int):List cB:=[.tell (Int×(List (aA))) (f257.S0 a),
 .tell (Int×Int×(List (aA))) (f257.S1 a)]
def f257.cuts (a:(List (aA))×Int×Int):List (Nat×Σ β:Type,β→Tm):=[(999999,⟨Unit,fun x=>⟨[],[],[]⟩⟩)]
def f257.af (a:(List (aA))×Int×Int):AF:=AF.mk (.seq (.region [oT 10 1000000 .move [1],
 ⟨(some 11),1000001,(.bin .add),[.t 10,.c (.int .i64 (1))],none⟩,
 oT 8 1000002 .move [11]])
 (.block 0 (.loopT (Int×(List (aA))) (f257.S0 a) 1000003 1000052 (.seq (.seq (.region [oT 12 1000003 .move [8],
 oT 13 1000004 .move [2],
 oT 14 1000005 (.bin .lss) [12,13]])
 (.cond (.t 14) (.skip) (.exit 0)))
 (.seq (.block 1 (.seq (.region [oT 17 1000006 .move [8],
 oT 9 1000007 .move [17]])
 (.block 2 (.loopT (Int×Int×(List (aA))) (f257.S1 a) 1000008 1000049 (.seq (.seq (.region [oT 18 1000008 .move [9],
 oT 19 1000009 .move [1],
 oT 20 1000010 (.bin .gtr) [18,19],
 oT 21 1000011 .move [20],
 oG 22 1000012 .move [3] 21 true,
 oG 23 1000013 .move [0] 21 true,
 oG 24 1000014 .move [9] 21 true,
 oG 25 1000015 (.indexAddr 13 none) [23,24] 21 true,
 oG 26 1000016 (.load true 13) [25] 21 true,
 oG 27 1000017 .move [0] 21 true,
 oG 28 1000018 .move [9] 21 true,
 ⟨(some 29),1000019,(.bin .sub),[.t 28,.c (.int .i64 (1))],(some (21,true))⟩,
 oG 30 1000020 (.indexAddr 13 none) [27,29] 21 true,
 oG 31 1000021 (.load true 13) [30] 21 true,
 oG 32 1000022 (.callv false) [22,26,31] 21 true,
 ⟨(some 33),1000026,(.bin .lss),[.t 32,.c (.int .i64 (0))],(some (21,true))⟩,
 ⟨(some 34),1000027,.pick,[.t 21,.t 33,.c (.bool false)],none⟩])
 (.cond (.t 34) (.skip) (.exit 2)))
 (.seq (.block 3 (.region [oT 37 1000028 .move [0],
 oT 38 1000029 .move [9],
 oT 39 1000030 .move [0],
 oT 40 1000031 .move [9],
 ⟨(some 41),1000032,(.bin .sub),[.t 40,.c (.int .i64 (1))],none⟩,
 oT 42 1000033 .move [0],
 oT 43 1000034 .move [9],
 ⟨(some 44),1000035,(.bin .sub),[.t 43,.c (.int .i64 (1))],none⟩,
 oT 45 1000036 (.indexAddr 13 none) [42,44],
 oT 46 1000037 (.load true 13) [45],
 oT 47 1000038 .move [0],
 oT 48 1000039 .move [9],
 oT 49 1000040 (.indexAddr 13 none) [47,48],
 oT 50 1000041 (.load true 13) [49],
 oT 51 1000042 (.indexAddr 13 none) [37,38],
 ⟨none,1000043,(.store 13),[.t 51,.t 46],none⟩,
 oT 52 1000044 (.indexAddr 13 none) [39,41],
 ⟨none,1000045,(.store 13),[.t 52,.t 50],none⟩]))
 (.region [oT 35 1000046 .move [9],
 ⟨(some 36),1000047,(.bin .sub),[.t 35,.c (.int .i64 (1))],none⟩,
 oT 9 1000048 .move [36]])))))))
 (.region [oT 15 1000049 .move [8],
 ⟨(some 16),1000050,(.bin .add),[.t 15,.c (.int .i64 (1))],none⟩,
 oT 8 1000051 .move [16]]))))))
 [] 1 49
def f257.env:Env:=[(255,f255.C)]
def f257.tree (a:(List (aA))×Int×Int):Prop:=Let (IntKind.i64.wrap (a.2.1+(1:Int))) (fun v1:Int=>∃ (I3:(Int×(List (aA)))→Prop) (μ4:(Int×(List (aA)))→Nat),(∃ x2:Int×(List (aA)),((List.length a.1)=(List.length x2.2))∧(a.2.1=a.2.1)∧(a.2.2=a.2.2)∧(DEqs [] [])∧(v1=x2.1)∧SlQ (List.length a.1) (List.length x2.2) (gl aB a.1) (gl aB x2.2) (I3 x2))∧∀ y5:Int×(List (aA)),I3 y5→(Br (decide (y5.1 < a.2.2)) (∃ (I9:(Int×Int×(List (aA)))→Prop) (μ10:(Int×Int×(List (aA)))→Nat),(∃ x8:Int×Int×(List (aA)),((List.length y5.2)=(List.length x8.2.2))∧(a.2.1=a.2.1)∧(a.2.2=a.2.2)∧(DEqs [] [])∧(y5.1=x8.1)∧(y5.1=x8.2.1)∧SlQ (List.length y5.2) (List.length x8.2.2) (gl aB y5.2) (gl aB x8.2.2) (I9 x8))∧∀ y11:Int×Int×(List (aA)),I9 y11→(Br (decide (a.2.1 < y11.2.1)) (Br (decide ((0:Int)≤y11.2.1)&&decide (y11.2.1 < (List.length y11.2.2:Int))) (((List.length y11.2.2)=(List.length y11.2.2))∧(Let (IntKind.i64.wrap (y11.2.1 - (1:Int))) (fun v15:Int=>Br (decide ((0:Int)≤v15)&&decide (v15 < (List.length y11.2.2:Int))) (((List.length y11.2.2)=(List.length y11.2.2))∧(f255.ent (fun c17=>True∧Br (decide ((mG c17) < (0:Int))) (Let (IntKind.i64.wrap (y11.2.1 - (1:Int))) (fun v20:Int=>Let (IntKind.i64.wrap (y11.2.1 - (1:Int))) (fun v21:Int=>Br (decide ((0:Int)≤v21)&&decide (v21 < (List.length y11.2.2:Int))) (((List.length y11.2.2)=(List.length y11.2.2))∧(Br (decide ((0:Int)≤y11.2.1)&&decide (y11.2.1 < (List.length y11.2.2:Int))) (((List.length y11.2.2)=(List.length y11.2.2))∧(Br (decide ((0:Int)≤y11.2.1)&&decide (y11.2.1 < (List.length y11.2.2:Int))) (((List.length y11.2.2)=(List.length y11.2.2))∧(Br (decide ((0:Int)≤v20)&&decide (v20 < (List.length y11.2.2:Int))) (((List.length y11.2.2)=(List.length y11.2.2))∧(Let (IntKind.i64.wrap (y11.2.1 - (1:Int))) (fun v26:Int=>∃ x27:Int×Int×(List (aA)),((List.length y11.2.2)=(List.length x27.2.2))∧(a.2.1=a.2.1)∧(a.2.2=a.2.2)∧(DEqs [] [])∧(y11.1=x27.1)∧(v26=x27.2.1)∧SlQ (List.length y11.2.2) (List.length x27.2.2) (gset (gset (gl aB y11.2.2) (Int.toNat y11.2.1) [.str (((at_ y11.2.2 v21).1).1),.str (((at_ y11.2.2 v21).1).2.1),.int .i64 (((at_ y11.2.2 v21).1).2.2.1),.int .i64 ((((at_ y11.2.2 v21).1).2.2.2.1).1),.int .i64 ((((at_ y11.2.2 v21).1).2.2.2.1).2.1),.int .i64 ((((at_ y11.2.2 v21).1).2.2.2.1).2.2),.slice .ro 2 ((((at_ y11.2.2 v21).1).2.2.2.2.1).length) (gl aE (((at_ y11.2.2 v21).1).2.2.2.2.1)),.str (((at_ y11.2.2 v21).1).2.2.2.2.2.1),.str (((at_ y11.2.2 v21).1).2.2.2.2.2.2.1),.int .i64 (((at_ y11.2.2 v21).1).2.2.2.2.2.2.2),.int .i64 ((at_ y11.2.2 v21).2.1),.str ((at_ y11.2.2 v21).2.2.1),.int .i64 ((at_ y11.2.2 v21).2.2.2)]) (Int.toNat v20) [.str (((at_ y11.2.2 y11.2.1).1).1),.str (((at_ y11.2.2 y11.2.1).1).2.1),.int .i64 (((at_ y11.2.2 y11.2.1).1).2.2.1),.int .i64 ((((at_ y11.2.2 y11.2.1).1).2.2.2.1).1),.int .i64 ((((at_ y11.2.2 y11.2.1).1).2.2.2.1).2.1),.int .i64 ((((at_ y11.2.2 y11.2.1).1).2.2.2.1).2.2),.slice .ro 2 ((((at_ y11.2.2 y11.2.1).1).2.2.2.2.1).length) (gl aE (((at_ y11.2.2 y11.2.1).1).2.2.2.2.1)),.str (((at_ y11.2.2 y11.2.1).1).2.2.2.2.2.1),.str (((at_ y11.2.2 y11.2.1).1).2.2.2.2.2.2.1),.int .i64 (((at_ y11.2.2 y11.2.1).1).2.2.2.2.2.2.2),.int .i64 ((at_ y11.2.2 y11.2.1).2.1),.str ((at_ y11.2.2 y11.2.1).2.2.1),.int .i64 ((at_ y11.2.2 y11.2.1).2.2.2)]) (gl aB x27.2.2) (I9 x27∧μ10 x27 < μ10 y11)))) False)) False)) False)) False))) (Let (IntKind.i64.wrap (y11.1+(1:Int))) (fun v42:Int=>∃ x43:Int×(List (aA)),((List.length y11.2.2)=(List.length x43.2))∧(a.2.1=a.2.1)∧(a.2.2=a.2.2)∧(DEqs [] [])∧(v42=x43.1)∧SlQ (List.length y11.2.2) (List.length x43.2) (gl aB y11.2.2) (gl aB x43.2) (I3 x43∧μ4 x43 < μ4 y5)))) ((((at_ y11.2.2 y11.2.1).1),(at_ y11.2.2 y11.2.1).2.1,(at_ y11.2.2 y11.2.1).2.2.1,(at_ y11.2.2 y11.2.1).2.2.2),(((at_ y11.2.2 v15).1),(at_ y11.2.2 v15).2.1,(at_ y11.2.2 v15).2.2.1,(at_ y11.2.2 v15).2.2.2)))) False))) False) (Let (IntKind.i64.wrap (y11.1+(1:Int))) (fun v56:Int=>∃ x57:Int×(List (aA)),((List.length y11.2.2)=(List.length x57.2))∧(a.2.1=a.2.1)∧(a.2.2=a.2.2)∧(DEqs [] [])∧(v56=x57.1)∧SlQ (List.length y11.2.2) (List.length x57.2) (gl aB y11.2.2) (gl aB x57.2) (I3 x57∧μ4 x57 < μ4 y5))))) (SlQ (List.length y5.2) (List.length (kW a)) (gl aB y5.2) (gl aB (kW a)) (True))))
def f257.vc (a:(List (aA))×Int×Int):Prop:=(-9223372036854775808≤(a.2.1+(1:Int))∧(a.2.1+(1:Int))≤9223372036854775807∧(∃ (I3:(Int×(List (aA)))→Prop) (μ4:(Int×(List (aA)))→Nat),I3 ((a.2.1+(1:Int)),a.1)∧∀ y5:Int×(List (aA)),I3 y5→((y5.1 < a.2.2→(∃ (I9:(Int×Int×(List (aA)))→Prop) (μ10:(Int×Int×(List (aA)))→Nat),I9 (y5.1,y5.1,y5.2)∧∀ y11:Int×Int×(List (aA)),I9 y11→((a.2.1 < y11.2.1→((0:Int)≤y11.2.1∧y11.2.1 < (List.length y11.2.2:Int)∧(-9223372036854775808≤(y11.2.1 - (1:Int))∧(y11.2.1 - (1:Int))≤9223372036854775807∧((0:Int)≤(y11.2.1 - (1:Int))∧(y11.2.1 - (1:Int)) < (List.length y11.2.2:Int)∧(((mG ((((at_ y11.2.2 y11.2.1).1),(at_ y11.2.2 y11.2.1).2.1,(at_ y11.2.2 y11.2.1).2.2.1,(at_ y11.2.2 y11.2.1).2.2.2),(((at_ y11.2.2 (y11.2.1 - (1:Int))).1),(at_ y11.2.2 (y11.2.1 - (1:Int))).2.1,(at_ y11.2.2 (y11.2.1 - (1:Int))).2.2.1,(at_ y11.2.2 (y11.2.1 - (1:Int))).2.2.2))) < (0:Int)→(-9223372036854775808≤(y11.2.1 - (1:Int))∧(y11.2.1 - (1:Int))≤9223372036854775807∧(-9223372036854775808≤(y11.2.1 - (1:Int))∧(y11.2.1 - (1:Int))≤9223372036854775807∧((0:Int)≤(y11.2.1 - (1:Int))∧(y11.2.1 - (1:Int)) < (List.length y11.2.2:Int)∧((0:Int)≤y11.2.1∧y11.2.1 < (List.length y11.2.2:Int)∧((0:Int)≤y11.2.1∧y11.2.1 < (List.length y11.2.2:Int)∧((0:Int)≤(y11.2.1 - (1:Int))∧(y11.2.1 - (1:Int)) < (List.length y11.2.2:Int)∧(-9223372036854775808≤(y11.2.1 - (1:Int))∧(y11.2.1 - (1:Int))≤9223372036854775807∧(I9 (y11.1,(y11.2.1 - (1:Int)),List.set (List.set y11.2.2 (Int.toNat y11.2.1) (((at_ y11.2.2 (y11.2.1 - (1:Int))).1),(at_ y11.2.2 (y11.2.1 - (1:Int))).2.1,(at_ y11.2.2 (y11.2.1 - (1:Int))).2.2.1,(at_ y11.2.2 (y11.2.1 - (1:Int))).2.2.2)) (Int.toNat (y11.2.1 - (1:Int))) (((at_ y11.2.2 y11.2.1).1),(at_ y11.2.2 y11.2.1).2.1,(at_ y11.2.2 y11.2.1).2.2.1,(at_ y11.2.2 y11.2.1).2.2.2))∧μ10 (y11.1,(y11.2.1 - (1:Int)),List.set (List.set y11.2.2 (Int.toNat y11.2.1) (((at_ y11.2.2 (y11.2.1 - (1:Int))).1),(at_ y11.2.2 (y11.2.1 - (1:Int))).2.1,(at_ y11.2.2 (y11.2.1 - (1:Int))).2.2.1,(at_ y11.2.2 (y11.2.1 - (1:Int))).2.2.2)) (Int.toNat (y11.2.1 - (1:Int))) (((at_ y11.2.2 y11.2.1).1),(at_ y11.2.2 y11.2.1).2.1,(at_ y11.2.2 y11.2.1).2.2.1,(at_ y11.2.2 y11.2.1).2.2.2)) < μ10 y11)))))))))∧(¬((mG ((((at_ y11.2.2 y11.2.1).1),(at_ y11.2.2 y11.2.1).2.1,(at_ y11.2.2 y11.2.1).2.2.1,(at_ y11.2.2 y11.2.1).2.2.2),(((at_ y11.2.2 (y11.2.1 - (1:Int))).1),(at_ y11.2.2 (y11.2.1 - (1:Int))).2.1,(at_ y11.2.2 (y11.2.1 - (1:Int))).2.2.1,(at_ y11.2.2 (y11.2.1 - (1:Int))).2.2.2))) < (0:Int))→(-9223372036854775808≤(y11.1+(1:Int))∧(y11.1+(1:Int))≤9223372036854775807∧(I3 ((y11.1+(1:Int)),y11.2.2)∧μ4 ((y11.1+(1:Int)),y11.2.2) < μ4 y5))))))))∧(¬(a.2.1 < y11.2.1)→(-9223372036854775808≤(y11.1+(1:Int))∧(y11.1+(1:Int))≤9223372036854775807∧(I3 ((y11.1+(1:Int)),y11.2.2)∧μ4 ((y11.1+(1:Int)),y11.2.2) < μ4 y5))))))∧(¬(y5.1 < a.2.2)→(y5.2=kW a)))))
set_option maxRecDepth 100000 in
set_option maxHeartbeats 2000000 in
theorem f257.of (a:(List (aA))×Int×Int) (h:f257.vc a):f257.tree a:=wrapK.i64 h (fun h73 h74 k75=>Exists.elim k75 (fun I3 h70_=>Exists.elim h70_ (fun μ4 h70=>⟨I3,μ4,⟨((a.2.1+(1:Int)),a.1),⟨(cI (gl aB a.1) (Rds.self (enc:=aB))),⟨rfl,⟨rfl,⟨(DEqs.refl _),⟨rfl,slQ (Rds.self (enc:=aB)) (h70.1)⟩⟩⟩⟩⟩⟩,fun y5 h72=>br (h70.2 y5 h72) Cnd.dec (fun h6 k68=>Exists.elim k68 (fun I9 h64_=>Exists.elim h64_ (fun μ10 h64=>⟨I9,μ10,⟨(y5.1,y5.1,y5.2),⟨(cI (gl aB y5.2) (Rds.self (enc:=aB))),⟨rfl,⟨rfl,⟨(DEqs.refl _),⟨rfl,⟨rfl,slQ (Rds.self (enc:=aB)) (h64.1)⟩⟩⟩⟩⟩⟩⟩,fun y11 h66=>br (h64.2 y11 h66) Cnd.dec (fun h12 k62=>chk k62.2.2 Cnd.ix ⟨k62.1,k62.2.1⟩ (fun h14 k55=>⟨rfl,wrapK.i64 k55 (fun h52 h53 k54=>chk k54.2.2 Cnd.ix ⟨k54.1,k54.2.1⟩ (fun h16 k51=>⟨rfl,(f255.ei ⟨trivial,br k51 Cnd.dec (fun h18 k48=>wrapK.i64 k48 (fun h39 h40 k41=>wrapK.i64 k41 (fun h36 h37 k38=>chk k38.2.2 Cnd.ix ⟨k38.1,k38.2.1⟩ (fun h22 k35=>⟨rfl,chk k35.2.2 Cnd.ix ⟨k35.1,k35.2.1⟩ (fun h23 k34=>⟨rfl,chk k34.2.2 Cnd.ix ⟨k34.1,k34.2.1⟩ (fun h24 k33=>⟨rfl,chk k33.2.2 Cnd.ix ⟨k33.1,k33.2.1⟩ (fun h25 k32=>⟨rfl,wrapK.i64 k32 (fun h29 h30 k31=>⟨(y11.1,(y11.2.1 - (1:Int)),List.set (List.set y11.2.2 (Int.toNat y11.2.1) (((at_ y11.2.2 (y11.2.1 - (1:Int))).1),(at_ y11.2.2 (y11.2.1 - (1:Int))).2.1,(at_ y11.2.2 (y11.2.1 - (1:Int))).2.2.1,(at_ y11.2.2 (y11.2.1 - (1:Int))).2.2.2)) (Int.toNat (y11.2.1 - (1:Int))) (((at_ y11.2.2 y11.2.1).1),(at_ y11.2.2 y11.2.1).2.1,(at_ y11.2.2 y11.2.1).2.2.1,(at_ y11.2.2 y11.2.1).2.2.2)),⟨(cI (gset (gset (gl aB y11.2.2) (Int.toNat y11.2.1) [.str (((at_ y11.2.2 (y11.2.1 - (1:Int))).1).1),.str (((at_ y11.2.2 (y11.2.1 - (1:Int))).1).2.1),.int .i64 (((at_ y11.2.2 (y11.2.1 - (1:Int))).1).2.2.1),.int .i64 ((((at_ y11.2.2 (y11.2.1 - (1:Int))).1).2.2.2.1).1),.int .i64 ((((at_ y11.2.2 (y11.2.1 - (1:Int))).1).2.2.2.1).2.1),.int .i64 ((((at_ y11.2.2 (y11.2.1 - (1:Int))).1).2.2.2.1).2.2),.slice .ro 2 ((((at_ y11.2.2 (y11.2.1 - (1:Int))).1).2.2.2.2.1).length) (gl aE (((at_ y11.2.2 (y11.2.1 - (1:Int))).1).2.2.2.2.1)),.str (((at_ y11.2.2 (y11.2.1 - (1:Int))).1).2.2.2.2.2.1),.str (((at_ y11.2.2 (y11.2.1 - (1:Int))).1).2.2.2.2.2.2.1),.int .i64 (((at_ y11.2.2 (y11.2.1 - (1:Int))).1).2.2.2.2.2.2.2),.int .i64 ((at_ y11.2.2 (y11.2.1 - (1:Int))).2.1),.str ((at_ y11.2.2 (y11.2.1 - (1:Int))).2.2.1),.int .i64 ((at_ y11.2.2 (y11.2.1 - (1:Int))).2.2.2)]) (Int.toNat (y11.2.1 - (1:Int))) [.str (((at_ y11.2.2 y11.2.1).1).1),.str (((at_ y11.2.2 y11.2.1).1).2.1),.int .i64 (((at_ y11.2.2 y11.2.1).1).2.2.1),.int .i64 ((((at_ y11.2.2 y11.2.1).1).2.2.2.1).1),.int .i64 ((((at_ y11.2.2 y11.2.1).1).2.2.2.1).2.1),.int .i64 ((((at_ y11.2.2 y11.2.1).1).2.2.2.1).2.2),.slice .ro 2 ((((at_ y11.2.2 y11.2.1).1).2.2.2.2.1).length) (gl aE (((at_ y11.2.2 y11.2.1).1).2.2.2.2.1)),.str (((at_ y11.2.2 y11.2.1).1).2.2.2.2.2.1),.str (((at_ y11.2.2 y11.2.1).1).2.2.2.2.2.2.1),.int .i64 (((at_ y11.2.2 y11.2.1).1).2.2.2.2.2.2.2),.int .i64 ((at_ y11.2.2 y11.2.1).2.1),.str ((at_ y11.2.2 y11.2.1).2.2.1),.int .i64 ((at_ y11.2.2 y11.2.1).2.2.2)]) (Rds.gset (enc:=aB) (Rds.gset (enc:=aB) (Rds.self (enc:=aB)) (DEqs.refl _)) (DEqs.refl _))),⟨rfl,⟨rfl,⟨(DEqs.refl _),⟨rfl,⟨rfl,slQ (Rds.gset (enc:=aB) (Rds.gset (enc:=aB) (Rds.self (enc:=aB)) (DEqs.refl _)) (DEqs.refl _)) (k31)⟩⟩⟩⟩⟩⟩⟩)⟩)⟩)⟩)⟩)))) (fun h19 k49=>wrapK.i64 k49 (fun h45 h46 k47=>⟨((y11.1+(1:Int)),y11.2.2),⟨(cI (gl aB y11.2.2) (Rds.self (enc:=aB))),⟨rfl,⟨rfl,⟨(DEqs.refl _),⟨rfl,slQ (Rds.self (enc:=aB)) (k47)⟩⟩⟩⟩⟩⟩))⟩)⟩))⟩)) (fun h13 k63=>wrapK.i64 k63 (fun h59 h60 k61=>⟨((y11.1+(1:Int)),y11.2.2),⟨(cI (gl aB y11.2.2) (Rds.self (enc:=aB))),⟨rfl,⟨rfl,⟨(DEqs.refl _),⟨rfl,slQ (Rds.self (enc:=aB)) (k61)⟩⟩⟩⟩⟩⟩))⟩))) (fun h7 k69=>slQ (Rds.to (Rds.self (enc:=aB)) k69) (trivial))⟩)))
theorem f257.eq (a:(List (aA))×Int×Int):(f257.af a).gives f257.env (f257.args a) (f257.blks a) (f257.res a) (f257.blks' a)=f257.tree a:=by kernel_rfl
end Go.Abs

-- slices.rotateCmpFunc[interregnum/api.Job]
namespace Go.Abs
open Go
def f259.args (a:(List (aA))×Int×Int×Int):List D:=[.msl 0 13 (List.length a.1),.int .i64 a.2.1,.int .i64 a.2.2.1,.int .i64 a.2.2.2,.fn 255 []]
def f259.blks (a:(List (aA))×Int×Int×Int):List (List D):=[[.dead,.arr false 13 (List.length a.1) (gl aB a.1)]]
def f259.res (a:(List (aA))×Int×Int×Int):List D:=[]
def f259.blks' (a:(List (aA))×Int×Int×Int):List (List D):=[[.dead,.arr false 13 (List.length (p8 a)) (gl aB (p8 a))]]
def f259.C:aM:=FnC f259.args f259.blks (fun a=>n4 a) f259.res f259.blks'
end Go.Abs

/- slices.symMergeCmpFunc[interregnum/api.Job] -/
namespace Go.Abs
open Go
set_option linter.unusedVariables false
def f258.S0 (a:(List (aA))×Int×Int×Int) (x:Int×Int×(List (aA))):Tm:=⟨[.msl 0 13 (List.length x.2.2),.int .i64 a.2.1,.dead,.dead,.fn 255 [],.dead,.dead,.dead,.dead,.dead,.int .i64 x.1,.int .i64 x.2.1,.dead,.dead,.dead,.dead,.dead,.dead,.dead,.dead,.dead,.dead,.dead,.dead,.dead,.dead,.dead,.dead,.dead,.dead,.dead,.dead,.dead,.dead,.dead,.dead,.dead,.dead,.dead,.dead,.dead,.dead,.dead,.dead,.dead,.dead,.dead,.dead,.dead,.dead,.dead,.dead,.dead,.dead,.dead,.dead,.dead,.dead,.dead,.dead,.dead,.dead,.dead,.dead,.dead,.dead,.dead,.dead,.dead,.dead,.dead,.dead,.dead,.dead,.dead,.dead,.dead,.dead,.dead,.dead,.dead,.dead,.dead,.dead,.dead,.dead,.dead,.dead,.dead,.dead,.dead,.dead,.dead,.dead,.dead,.dead,.dead,.dead,.dead,.dead,.dead,.dead,.dead,.dead,.dead,.dead,.dead,.dead,.dead,.dead,.dead,.dead,.dead,.dead,.dead,.dead,.dead,.dead,.dead,.dead,.dead,.dead,.dead,.dead,.dead,.dead,.dead,.dead,.dead,.dead,.dead,.dead,.dead,.dead,.dead,.dead,.dead,.dead,.dead,.dead,.dead,.dead,.dead,.dead,.dead,.dead,.dead,.dead,.dead,.dead,.dead,.dead,.dead,.dead,.dead,.dead,.dead,.dead,.dead,.dead,.dead,.dead,.dead,.dead,.dead,.dead,.dead,.dead,.dead,.dead,.dead,.dead,.dead,.dead,.dead,.dead,.dead,.dead,.dead,.dead,.dead,.dead,.dead,.dead,.dead,.dead,.dead,.dead,.dead,.dead,.dead,.dead,.dead,.dead,.dead,.dead,.dead,.dead,.dead,.dead,.dead,.dead,.dead,.dead,.dead,.dead,.dead,.dead,.dead,.dead,.dead,.dead,.dead,.dead,.dead,.dead,.dead,.dead,.dead,.dead],[(0,false,[.dead,.arr false 13 (List.length x.2.2) (gl aB x.2.2)])],[]⟩
def f258.S1 (a:(List (aA))×Int×Int×Int) (x:Int×Int×(List (aA))):Tm:=⟨[.msl 0 13 (List.length x.2.2),.dead,.dead,.dead,.dead,.dead,.dead,.dead,.dead,.dead,.int .i64 x.1,.dead,.dead,.int .i64 x.2.1,.dead,.dead,.dead,.dead,.dead,.dead,.dead,.dead,.dead,.dead,.dead,.dead,.dead,.dead,.dead,.dead,.dead,.dead,.dead,.dead,.dead,.dead,.dead,.dead,.dead,.dead,.dead,.dead,.dead,.dead,.dead,.dead,.dead,.dead,.dead,.dead,.dead,.dead,.dead,.dead,.dead,.dead,.dead,.dead,.dead,.dead,.dead,.dead,.dead,.dead,.dead,.dead,.dead,.dead,.dead,.dead,.dead,.dead,.dead,.dead,.dead,.dead,.dead,.dead,.dead,.dead,.dead,.dead,.dead,.dead,.dead,.dead,.dead,.dead,.dead,.dead,.dead,.dead,.dead,.dead,.dead,.dead,.dead,.dead,.dead,.dead,.dead,.dead,.dead,.dead,.dead,.dead,.dead,.dead,.dead,.dead,.dead,.dead,.dead,.dead,.dead,.dead,.dead,.dead,.dead,.dead,.dead,.dead,.dead,.dead,.dead,.dead,.dead,.dead,.dead,.dead,.dead,.dead,.dead,.dead,.dead,.dead,.dead,.dead,.dead,.dead,.dead,.dead,.dead,.dead,.dead,.dead,.dead,.dead,.dead,.dead,.dead,.dead,.dead,.dead,.dead,.dead,.dead,.dead,.dead,.dead,.dead,.dead,.dead,.dead,.dead,.dead,.dead,.dead,.dead,.dead,.dead,.dead,.dead,.dead,.dead,.dead,.dead,.dead,.dead,.dead,.dead,.dead,.dead,.dead,.dead,.dead,.dead,.dead,.dead,.dead,.dead,.dead,.dead,.dead,.dead,.dead,.dead,.dead,.dead,.dead,.dead,.dead,.dead,.dead,.dead,.dead,.dead,.dead,.dead,.dead,.dead,.dead,.dead,.dead,.dead,.dead,.dead,.dead,.dead,.dead],[(0,false,[.dead,.arr false 13 (List.length x.2.2) (gl aB x.2.2)])],[]⟩
def f258.S2 (a:(List (aA))×Int×Int×Int) (x:Int×Int×(List (aA))):Tm:=⟨[.msl 0 13 (List.length x.2.2),.dead,.int .i64 a.2.2.1,.dead,.fn 255 [],.dead,.dead,.dead,.dead,.dead,.dead,.dead,.dead,.dead,.int .i64 x.1,.int .i64 x.2.1,.dead,.dead,.dead,.dead,.dead,.dead,.dead,.dead,.dead,.dead,.dead,.dead,.dead,.dead,.dead,.dead,.dead,.dead,.dead,.dead,.dead,.dead,.dead,.dead,.dead,.dead,.dead,.dead,.dead,.dead,.dead,.dead,.dead,.dead,.dead,.dead,.dead,.dead,.dead,.dead,.dead,.dead,.dead,.dead,.dead,.dead,.dead,.dead,.dead,.dead,.dead,.dead,.dead,.dead,.dead,.dead,.dead,.dead,.dead,.dead,.dead,.dead,.dead,.dead,.dead,.dead,.dead,.dead,.dead,.dead,.dead,.dead,.dead,.dead,.dead,.dead,.dead,.dead,.dead,.dead,.dead,.dead,.dead,.dead,.dead,.dead,.dead,.dead,.dead,.dead,.dead,.dead,.dead,.dead,.dead,.dead,.dead,.dead,.dead,.dead,.dead,.dead,.dead,.dead,.dead,.dead,.dead,.dead,.dead,.dead,.dead,.dead,.dead,.dead,.dead,.dead,.dead,.dead,.dead,.dead,.dead,.dead,.dead,.dead,.dead,.dead,.dead,.dead,.dead,.dead,.dead,.dead,.dead,.dead,.dead,.dead,.dead,.dead,.dead,.dead,.dead,.dead,.dead,.dead,.dead,.dead,.dead,.dead,.dead,.dead,.dead,.dead,.dead,.dead,.dead,.dead,.dead,.dead,.dead,.dead,.dead,.dead,.dead,.dead,.dead,.dead,.dead,.dead,.dead,.dead,.dead,.dead,.dead,.dead,.dead,.dead,.dead,.dead,.dead,.dead,.dead,.dead,.dead,.dead,.dead,.dead,.dead,.dead,.dead,.dead,.dead,.dead,.dead,.dead,.dead,.dead,.dead,.dead,.dead,.dead,.dead,.dead,.dead,.dead],[(0,false,[.dead,.arr false 13 (List.length x.2.2) (gl aB x.2.2)])],[]⟩
def f258.S3 (a:(List (aA))×Int×Int×Int) (x:Int×Int×(List (aA))):Tm:=⟨[.msl 0 13 (List.length x.2.2),.dead,.dead,.dead,.dead,.dead,.dead,.dead,.dead,.dead,.dead,.dead,.dead,.dead,.int .i64 x.1,.dead,.dead,.int .i64 x.2.1,.dead,.dead,.dead,.dead,.dead,.dead,.dead,.dead,.dead,.dead,.dead,.dead,.dead,.dead,.dead,.dead,.dead,.dead,.dead,.dead,.dead,.dead,.dead,.dead,.dead,.dead,.dead,.dead,.dead,.dead,.dead,.dead,.dead,.dead,.dead,.dead,.dead,.dead,.dead,.dead,.dead,.dead,.dead,.dead,.dead,.dead,.dead,.dead,.dead,.dead,.dead,.dead,.dead,.dead,.dead,.dead,.dead,.dead,.dead,.dead,.dead,.dead,.dead,.dead,.dead,.dead,.dead,.dead,.dead,.dead,.dead,.dead,.dead,.dead,.dead,.dead,.dead,.dead,.dead,.dead,.dead,.dead,.dead,.dead,.dead,.dead,.dead,.dead,.dead,.dead,.dead,.dead,.dead,.dead,.dead,.dead,.dead,.dead,.dead,.dead,.dead,.dead,.dead,.dead,.dead,.dead,.dead,.dead,.dead,.dead,.dead,.dead,.dead,.dead,.dead,.dead,.dead,.dead,.dead,.dead,.dead,.dead,.dead,.dead,.dead,.dead,.dead,.dead,.dead,.dead,.dead,.dead,.dead,.dead,.dead,.dead,.dead,.dead,.dead,.dead,.dead,.dead,.dead,.dead,.dead,.dead,.dead,.dead,.dead,.dead,.dead,.dead,.dead,.dead,.dead,.dead,.dead,.dead,.dead,.dead,.dead,.dead,.dead,.dead,.dead,.dead,.dead,.dead,.dead,.dead,.dead,.dead,.dead,.dead,.dead,.dead,.dead,.dead,.dead,.dead,.dead,.dead,.dead,.dead,.dead,.dead,.dead,.dead,.dead,.dead,.dead,.dead,.dead,.dead,.dead,.dead,.dead,.dead,.dead,.dead,.dead,.dead],[(0,false,[.dead,.arr false 13 (List.length x.2.2) (gl aB x.2.2)])],[]⟩
def f258.S4 (a:(List (aA))×Int×Int×Int) (x:Int×Int×Int×Int×Int×(List (aA))):Tm:=⟨[.msl 0 13 (List.length x.2.2.2.2.2),.int .i64 a.2.1,.int .i64 a.2.2.1,.int .i64 a.2.2.2,.fn 255 [],.dead,.dead,.dead,.dead,.dead,.dead,.dead,.dead,.dead,.dead,.dead,.dead,.dead,.int .i64 x.1,.int .i64 x.2.1,.int .i64 x.2.2.1,.int .i64 x.2.2.2.1,.int .i64 x.2.2.2.2.1,.dead,.dead,.dead,.dead,.dead,.dead,.dead,.dead,.dead,.dead,.dead,.dead,.dead,.dead,.dead,.dead,.dead,.dead,.dead,.dead,.dead,.dead,.dead,.dead,.dead,.dead,.dead,.dead,.dead,.dead,.dead,.dead,.dead,.dead,.dead,.dead,.dead,.dead,.dead,.dead,.dead,.dead,.dead,.dead,.dead,.dead,.dead,.dead,.dead,.dead,.dead,.dead,.dead,.dead,.dead,.dead,.dead,.dead,.dead,.dead,.dead,.dead,.dead,.dead,.dead,.dead,.dead,.dead,.dead,.dead,.dead,.dead,.dead,.dead,.dead,.dead,.dead,.dead,.dead,.dead,.dead,.dead,.dead,.dead,.dead,.dead,.dead,.dead,.dead,.dead,.dead,.dead,.dead,.dead,.dead,.dead,.dead,.dead,.dead,.dead,.dead,.dead,.dead,.dead,.dead,.dead,.dead,.dead,.dead,.dead,.dead,.dead,.dead,.dead,.dead,.dead,.dead,.dead,.dead,.dead,.dead,.dead,.dead,.dead,.dead,.dead,.dead,.dead,.dead,.dead,.dead,.dead,.dead,.dead,.dead,.dead,.dead,.dead,.dead,.dead,.dead,.dead,.dead,.dead,.dead,.dead,.dead,.dead,.dead,.dead,.dead,.dead,.dead,.dead,.dead,.dead,.dead,.dead,.dead,.dead,.dead,.dead,.dead,.dead,.dead,.dead,.dead,.dead,.dead,.dead,.dead,.dead,.dead,.dead,.dead,.dead,.dead,.dead,.dead,.dead,.dead,.dead,.dead,.dead,.dead,.dead,.dead,.dead,.dead,.dead,.dead,.dead,.dead,.dead,.dead,.dead,.dead],[(0,false,[.dead,.arr false 13 (List.length x.2.2.2.2.2) (gl aB x.2.2.2.2.2)])],[]⟩
def f258.kills (a:(List (aA))×Int×Int×Int):List cB:=[.tell (Int×Int×(List (aA))) (f258.S0 a),
 .tell (Int×Int×(List (aA))) (f258.S1 a),
 .tell (Int×Int×(List (aA))) (f258.S2 a),
 .tell (Int×Int×(List (aA))) (f258.S3 a),
 .tell (Int×Int×Int×Int×Int×(List (aA))) (f258.S4 a)]
def f258.cuts (a:(List (aA))×Int×Int×Int):List (Nat×Σ β:Type,β→Tm):=[(999999,⟨Unit,fun x=>⟨[],[],[]⟩⟩),
 (100031,⟨Int×Int×Int×Int×(List (aA)),fun x=>⟨[.msl 0 13 (List.length x.2.2.2.2),.int .i64 a.2.1,.int .i64 a.2.2.1,.int .i64 a.2.2.2,.fn 255 [],.dead,.dead,.dead,.dead,.dead,.dead,.dead,.dead,.dead,.dead,.dead,.dead,.dead,.int .i64 x.1,.int .i64 x.2.1,.int .i64 x.2.2.1,.int .i64 x.2.2.2.1,.dead,.dead,.dead,.dead,.dead,.dead,.dead,.dead,.dead,.dead,.dead,.dead,.dead,.dead,.dead,.dead,.dead,.dead,.dead,.dead,.dead,.dead,.dead,.dead,.dead,.dead,.dead,.dead,.dead,.dead,.dead,.dead,.dead,.dead,.dead,.dead,.dead,.dead,.dead,.dead,.dead,.dead,.dead,.dead,.dead,.dead,.dead,.dead,.dead,.dead,.dead,.dead,.dead,.dead,.dead,.dead,.dead,.dead,.dead,.dead,.dead,.dead,.dead,.dead,.dead,.dead,.dead,.dead,.dead,.dead,.dead,.dead,.dead,.dead,.dead,.dead,.dead,.dead,.dead,.dead,.dead,.dead,.dead,.dead,.dead,.dead,.dead,.dead,.dead,.dead,.dead,.dead,.dead,.dead,.dead,.dead,.dead,.dead,.dead,.dead,.dead,.dead,.dead,.dead,.dead,.dead,.dead,.dead,.dead,.dead,.dead,.dead,.dead,.dead,.dead,.dead,.dead,.dead,.dead,.dead,.dead,.dead,.dead,.dead,.dead,.dead,.dead,.dead,.dead,.dead,.dead,.dead,.dead,.dead,.dead,.dead,.dead,.dead,.dead,.dead,.dead,.dead,.dead,.dead,.dead,.dead,.dead,.dead,.dead,.dead,.dead,.dead,.dead,.dead,.dead,.dead,.dead,.dead,.dead,.dead,.dead,.dead,.dead,.dead,.dead,.dead,.dead,.dead,.dead,.dead,.dead,.dead,.dead,.dead,.dead,.dead,.dead,.dead,.dead,.dead,.dead,.dead,.dead,.dead,.dead,.dead,.dead,.dead,.dead,.dead,.dead,.dead,.dead,.dead,.dead,.dead,.dead,.dead],[(0,false,[.dead,.arr false 13 (List.length x.2.2.2.2) (gl aB x.2.2.2.2)])],[]⟩⟩),
 (100042,⟨Int×Int×Int×(List (aA)),fun x=>⟨[.msl 0 13 (List.length x.2.2.2),.int .i64 a.2.1,.dead,.int .i64 a.2.2.2,.fn 255 [],.dead,.dead,.dead,.dead,.dead,.dead,.dead,.dead,.dead,.dead,.dead,.dead,.dead,.int .i64 x.1,.dead,.int .i64 x.2.1,.dead,.dead,.dead,.int .i64 x.2.2.1,.dead,.dead,.dead,.dead,.dead,.dead,.dead,.dead,.dead,.dead,.dead,.dead,.dead,.dead,.dead,.dead,.dead,.dead,.dead,.dead,.dead,.dead,.dead,.dead,.dead,.dead,.dead,.dead,.dead,.dead,.dead,.dead,.dead,.dead,.dead,.dead,.dead,.dead,.dead,.dead,.dead,.dead,.dead,.dead,.dead,.dead,.dead,.dead,.dead,.dead,.dead,.dead,.dead,.dead,.dead,.dead,.dead,.dead,.dead,.dead,.dead,.dead,.dead,.dead,.dead,.dead,.dead,.dead,.dead,.dead,.dead,.dead,.dead,.dead,.dead,.dead,.dead,.dead,.dead,.dead,.dead,.dead,.dead,.dead,.dead,.dead,.dead,.dead,.dead,.dead,.dead,.dead,.dead,.dead,.dead,.dead,.dead,.dead,.dead,.dead,.dead,.dead,.dead,.dead,.dead,.dead,.dead,.dead,.dead,.dead,.dead,.dead,.dead,.dead,.dead,.dead,.dead,.dead,.dead,.dead,.dead,.dead,.dead,.dead,.dead,.dead,.dead,.dead,.dead,.dead,.dead,.dead,.dead,.dead,.dead,.dead,.dead,.dead,.dead,.dead,.dead,.dead,.dead,.dead,.dead,.dead,.dead,.dead,.dead,.dead,.dead,.dead,.dead,.dead,.dead,.dead,.dead,.dead,.dead,.dead,.dead,.dead,.dead,.dead,.dead,.dead,.dead,.dead,.dead,.dead,.dead,.dead,.dead,.dead,.dead,.dead,.dead,.dead,.dead,.dead,.dead,.dead,.dead,.dead,.dead,.dead,.dead,.dead,.dead,.dead,.dead,.dead,.dead,.dead,.dead],[(0,false,[.dead,.arr false 13 (List.length x.2.2.2) (gl aB x.2.2.2)])],[]⟩⟩),
 (100044,⟨Int×Int×(List (aA)),fun x=>⟨[.msl 0 13 (List.length x.2.2),.dead,.dead,.int .i64 a.2.2.2,.fn 255 [],.dead,.dead,.dead,.dead,.dead,.dead,.dead,.dead,.dead,.dead,.dead,.dead,.dead,.int .i64 x.1,.dead,.dead,.dead,.dead,.dead,.int .i64 x.2.1,.dead,.dead,.dead,.dead,.dead,.dead,.dead,.dead,.dead,.dead,.dead,.dead,.dead,.dead,.dead,.dead,.dead,.dead,.dead,.dead,.dead,.dead,.dead,.dead,.dead,.dead,.dead,.dead,.dead,.dead,.dead,.dead,.dead,.dead,.dead,.dead,.dead,.dead,.dead,.dead,.dead,.dead,.dead,.dead,.dead,.dead,.dead,.dead,.dead,.dead,.dead,.dead,.dead,.dead,.dead,.dead,.dead,.dead,.dead,.dead,.dead,.dead,.dead,.dead,.dead,.dead,.dead,.dead,.dead,.dead,.dead,.dead,.dead,.dead,.dead,.dead,.dead,.dead,.dead,.dead,.dead,.dead,.dead,.dead,.dead,.dead,.dead,.dead,.dead,.dead,.dead,.dead,.dead,.dead,.dead,.dead,.dead,.dead,.dead,.dead,.dead,.dead,.dead,.dead,.dead,.dead,.dead,.dead,.dead,.dead,.dead,.dead,.dead,.dead,.dead,.dead,.dead,.dead,.dead,.dead,.dead,.dead,.dead,.dead,.dead,.dead,.dead,.dead,.dead,.dead,.dead,.dead,.dead,.dead,.dead,.dead,.dead,.dead,.dead,.dead,.dead,.dead,.dead,.dead,.dead,.dead,.dead,.dead,.dead,.dead,.dead,.dead,.dead,.dead,.dead,.dead,.dead,.dead,.dead,.dead,.dead,.dead,.dead,.dead,.dead,.dead,.dead,.dead,.dead,.dead,.dead,.dead,.dead,.dead,.dead,.dead,.dead,.dead,.dead,.dead,.dead,.dead,.dead,.dead,.dead,.dead,.dead,.dead,.dead,.dead,.dead,.dead,.dead,.dead,.dead],[(0,false,[.dead,.arr false 13 (List.length x.2.2) (gl aB x.2.2)])],[]⟩⟩)]
def f258.af (a:(List (aA))×Int×Int×Int):AF:=AF.mk (.seq (.seq (.region [oT 25 1000000 .move [2],
 oT 26 1000001 .move [1],
 oT 27 1000002 (.bin .sub) [25,26],
 ⟨(some 28),1000003,(.bin .eql),[.t 27,.c (.int .i64 (1))],none⟩])
 (.cond (.t 28) (.seq (.region [oT 29 1000004 .move [2],
 oT 10 1000005 .move [29]])
 (.seq (.region [oT 30 1000006 .move [3],
 oT 11 1000007 .move [30]])
 (.seq (.block 0 (.loopT (Int×Int×(List (aA))) (f258.S0 a) 1000008 1000037 (.seq (.seq (.region [oT 31 1000008 .move [10],
 oT 32 1000009 .move [11],
 oT 33 1000010 (.bin .lss) [31,32]])
 (.cond (.t 33) (.skip) (.exit 0)))
 (.block 1 (.seq (.region [oT 34 1000011 .move [10],
 oT 35 1000012 .move [11],
 oT 36 1000013 (.bin .add) [34,35],
 oT 37 1000014 (.conv (.int .u64)) [36],
 ⟨(some 38),1000015,(.bin .shr),[.t 37,.c (.int .u64 (1))],none⟩,
 oT 39 1000016 (.conv (.int .i64)) [38],
 oT 12 1000017 .move [39]])
 (.seq (.region [oT 40 1000018 .move [4],
 oT 41 1000019 .move [0],
 oT 42 1000020 .move [12],
 oT 43 1000021 (.indexAddr 13 none) [41,42],
 oT 44 1000022 (.load true 13) [43],
 oT 45 1000023 .move [0],
 oT 46 1000024 .move [1],
 oT 47 1000025 (.indexAddr 13 none) [45,46],
 oT 48 1000026 (.load true 13) [47],
 oT 49 1000027 (.callv false) [40,44,48],
 ⟨(some 50),1000031,(.bin .lss),[.t 49,.c (.int .i64 (0))],none⟩])
 (.cond (.t 50) (.region [oT 51 1000032 .move [12],
 ⟨(some 52),1000033,(.bin .add),[.t 51,.c (.int .i64 (1))],none⟩,
 oT 10 1000034 .move [52]]) (.region [oT 53 1000035 .move [12],
 oT 11 1000036 .move [53]]))))))))
 (.seq (.seq (.region [oT 54 1000037 .move [1],
 oT 13 1000038 .move [54]])
 (.block 2 (.loopT (Int×Int×(List (aA))) (f258.S1 a) 1000039 1000064 (.seq (.seq (.region [oT 55 1000039 .move [13],
 oT 56 1000040 .move [10],
 ⟨(some 57),1000041,(.bin .sub),[.t 56,.c (.int .i64 (1))],none⟩,
 oT 58 1000042 (.bin .lss) [55,57]])
 (.cond (.t 58) (.skip) (.exit 2)))
 (.seq (.block 3 (.region [oT 61 1000043 .move [0],
 oT 62 1000044 .move [13],
 oT 63 1000045 .move [0],
 oT 64 1000046 .move [13],
 ⟨(some 65),1000047,(.bin .add),[.t 64,.c (.int .i64 (1))],none⟩,
 oT 66 1000048 .move [0],
 oT 67 1000049 .move [13],
 ⟨(some 68),1000050,(.bin .add),[.t 67,.c (.int .i64 (1))],none⟩,
 oT 69 1000051 (.indexAddr 13 none) [66,68],
 oT 70 1000052 (.load true 13) [69],
 oT 71 1000053 .move [0],
 oT 72 1000054 .move [13],
 oT 73 1000055 (.indexAddr 13 none) [71,72],
 oT 74 1000056 (.load true 13) [73],
 oT 75 1000057 (.indexAddr 13 none) [61,62],
 ⟨none,1000058,(.store 13),[.t 75,.t 70],none⟩,
 oT 76 1000059 (.indexAddr 13 none) [63,65],
 ⟨none,1000060,(.store 13),[.t 76,.t 74],none⟩]))
 (.region [oT 59 1000061 .move [13],
 ⟨(some 60),1000062,(.bin .add),[.t 59,.c (.int .i64 (1))],none⟩,
 oT 13 1000063 .move [60]]))))))
 (.ret))))) (.skip)))
 (.seq (.seq (.region [oT 77 1000064 .move [3],
 oT 78 1000065 .move [2],
 oT 79 1000066 (.bin .sub) [77,78],
 ⟨(some 80),1000067,(.bin .eql),[.t 79,.c (.int .i64 (1))],none⟩])
 (.cond (.t 80) (.seq (.region [oT 81 1000068 .move [1],
 oT 14 1000069 .move [81]])
 (.seq (.region [oT 82 1000070 .move [2],
 oT 15 1000071 .move [82]])
 (.seq (.block 4 (.loopT (Int×Int×(List (aA))) (f258.S2 a) 1000072 1000102 (.seq (.seq (.region [oT 83 1000072 .move [14],
 oT 84 1000073 .move [15],
 oT 85 1000074 (.bin .lss) [83,84]])
 (.cond (.t 85) (.skip) (.exit 4)))
 (.block 5 (.seq (.region [oT 86 1000075 .move [14],
 oT 87 1000076 .move [15],
 oT 88 1000077 (.bin .add) [86,87],
 oT 89 1000078 (.conv (.int .u64)) [88],
 ⟨(some 90),1000079,(.bin .shr),[.t 89,.c (.int .u64 (1))],none⟩,
 oT 91 1000080 (.conv (.int .i64)) [90],
 oT 16 1000081 .move [91]])
 (.seq (.region [oT 92 1000082 .move [4],
 oT 93 1000083 .move [0],
 oT 94 1000084 .move [2],
 oT 95 1000085 (.indexAddr 13 none) [93,94],
 oT 96 1000086 (.load true 13) [95],
 oT 97 1000087 .move [0],
 oT 98 1000088 .move [16],
 oT 99 1000089 (.indexAddr 13 none) [97,98],
 oT 100 1000090 (.load true 13) [99],
 oT 101 1000091 (.callv false) [92,96,100],
 ⟨(some 102),1000095,(.bin .lss),[.t 101,.c (.int .i64 (0))],none⟩,
 oT 103 1000096 (.un .not) [102]])
 (.cond (.t 103) (.region [oT 104 1000097 .move [16],
 ⟨(some 105),1000098,(.bin .add),[.t 104,.c (.int .i64 (1))],none⟩,
 oT 14 1000099 .move [105]]) (.region [oT 106 1000100 .move [16],
 oT 15 1000101 .move [106]]))))))))
 (.seq (.seq (.region [oT 107 1000102 .move [2],
 oT 17 1000103 .move [107]])
 (.block 6 (.loopT (Int×Int×(List (aA))) (f258.S3 a) 1000104 1000128 (.seq (.seq (.region [oT 108 1000104 .move [17],
 oT 109 1000105 .move [14],
 oT 110 1000106 (.bin .gtr) [108,109]])
 (.cond (.t 110) (.skip) (.exit 6)))
 (.seq (.block 7 (.region [oT 113 1000107 .move [0],
 oT 114 1000108 .move [17],
 oT 115 1000109 .move [0],
 oT 116 1000110 .move [17],
 ⟨(some 117),1000111,(.bin .sub),[.t 116,.c (.int .i64 (1))],none⟩,
 oT 118 1000112 .move [0],
 oT 119 1000113 .move [17],
 ⟨(some 120),1000114,(.bin .sub),[.t 119,.c (.int .i64 (1))],none⟩,
 oT 121 1000115 (.indexAddr 13 none) [118,120],
 oT 122 1000116 (.load true 13) [121],
 oT 123 1000117 .move [0],
 oT 124 1000118 .move [17],
 oT 125 1000119 (.indexAddr 13 none) [123,124],
 oT 126 1000120 (.load true 13) [125],
 oT 127 1000121 (.indexAddr 13 none) [113,114],
 ⟨none,1000122,(.store 13),[.t 127,.t 122],none⟩,
 oT 128 1000123 (.indexAddr 13 none) [115,117],
 ⟨none,1000124,(.store 13),[.t 128,.t 126],none⟩]))
 (.region [oT 111 1000125 .move [17],
 ⟨(some 112),1000126,(.bin .sub),[.t 111,.c (.int .i64 (1))],none⟩,
 oT 17 1000127 .move [112]]))))))
 (.ret))))) (.skip)))
 (.seq (.region [oT 129 1000128 .move [1],
 oT 130 1000129 .move [3],
 oT 131 1000130 (.bin .add) [129,130],
 oT 132 1000131 (.conv (.int .u64)) [131],
 ⟨(some 133),1000132,(.bin .shr),[.t 132,.c (.int .u64 (1))],none⟩,
 oT 134 1000133 (.conv (.int .i64)) [133],
 oT 18 1000134 .move [134]])
 (.seq (.region [oT 135 1000135 .move [18],
 oT 136 1000136 .move [2],
 oT 137 1000137 (.bin .add) [135,136],
 oT 19 1000138 .move [137]])
 (.seq (.region [⟨(some 20),1000139,.move,[.c (.int .i64 (0))],none⟩,
 ⟨(some 21),1000140,.move,[.c (.int .i64 (0))],none⟩])
 (.joinT (Int×Int×Int×Int×(List (aA))) (fun x=>⟨[.msl 0 13 (List.length x.2.2.2.2),.int .i64 a.2.1,.int .i64 a.2.2.1,.int .i64 a.2.2.2,.fn 255 [],.dead,.dead,.dead,.dead,.dead,.dead,.dead,.dead,.dead,.dead,.dead,.dead,.dead,.int .i64 x.1,.int .i64 x.2.1,.int .i64 x.2.2.1,.int .i64 x.2.2.2.1,.dead,.dead,.dead,.dead,.dead,.dead,.dead,.dead,.dead,.dead,.dead,.dead,.dead,.dead,.dead,.dead,.dead,.dead,.dead,.dead,.dead,.dead,.dead,.dead,.dead,.dead,.dead,.dead,.dead,.dead,.dead,.dead,.dead,.dead,.dead,.dead,.dead,.dead,.dead,.dead,.dead,.dead,.dead,.dead,.dead,.dead,.dead,.dead,.dead,.dead,.dead,.dead,.dead,.dead,.dead,.dead,.dead,.dead,.dead,.dead,.dead,.dead,.dead,.dead,.dead,.dead,.dead,.dead,.dead,.dead,.dead,.dead,.dead,.dead,.dead,.dead,.dead,.dead,.dead,.dead,.dead,.dead,.dead,.dead,.dead,.dead,.dead,.dead,.dead,.dead,.dead,.dead,.dead,.dead,.dead,.dead,.dead,.dead,.dead,.dead,.dead,.dead,.dead,.dead,.dead,.dead,.dead,.dead,.dead,.dead,.dead,.dead,.dead,.dead,.dead,.dead,.dead,.dead,.dead,.dead,.dead,.dead,.dead,.dead,.dead,.dead,.dead,.dead,.dead,.dead,.dead,.dead,.dead,.dead,.dead,.dead,.dead,.dead,.dead,.dead,.dead,.dead,.dead,.dead,.dead,.dead,.dead,.dead,.dead,.dead,.dead,.dead,.dead,.dead,.dead,.dead,.dead,.dead,.dead,.dead,.dead,.dead,.dead,.dead,.dead,.dead,.dead,.dead,.dead,.dead,.dead,.dead,.dead,.dead,.dead,.dead,.dead,.dead,.dead,.dead,.dead,.dead,.dead,.dead,.dead,.dead,.dead,.dead,.dead,.dead,.dead,.dead,.dead,.dead,.dead,.dead,.dead,.dead],[(0,false,[.dead,.arr false 13 (List.length x.2.2.2.2) (gl aB x.2.2.2.2)])],[]⟩) (.seq (.region [oT 138 1000141 .move [2],
 oT 139 1000142 .move [18],
 oT 140 1000143 (.bin .gtr) [138,139]])
 (.cond (.t 140) (.seq (.region [oT 141 1000144 .move [19],
 oT 142 1000145 .move [3],
 oT 143 1000146 (.bin .sub) [141,142],
 oT 20 1000147 .move [143]])
 (.region [oT 144 1000148 .move [18],
 oT 21 1000149 .move [144]])) (.seq (.region [oT 145 1000150 .move [1],
 oT 20 1000151 .move [145]])
 (.region [oT 146 1000152 .move [2],
 oT 21 1000153 .move [146]]))))
 (.seq (.region [oT 147 1000154 .move [19],
 ⟨(some 148),1000155,(.bin .sub),[.t 147,.c (.int .i64 (1))],none⟩,
 oT 22 1000156 .move [148]])
 (.seq (.block 8 (.loopT (Int×Int×Int×Int×Int×(List (aA))) (f258.S4 a) 1000157 1000189 (.seq (.seq (.region [oT 149 1000157 .move [20],
 oT 150 1000158 .move [21],
 oT 151 1000159 (.bin .lss) [149,150]])
 (.cond (.t 151) (.skip) (.exit 8)))
 (.block 9 (.seq (.region [oT 152 1000160 .move [20],
 oT 153 1000161 .move [21],
 oT 154 1000162 (.bin .add) [152,153],
 oT 155 1000163 (.conv (.int .u64)) [154],
 ⟨(some 156),1000164,(.bin .shr),[.t 155,.c (.int .u64 (1))],none⟩,
 oT 157 1000165 (.conv (.int .i64)) [156],
 oT 23 1000166 .move [157]])
 (.seq (.region [oT 158 1000167 .move [4],
 oT 159 1000168 .move [0],
 oT 160 1000169 .move [22],
 oT 161 1000170 .move [23],
 oT 162 1000171 (.bin .sub) [160,161],
 oT 163 1000172 (.indexAddr 13 none) [159,162],
 oT 164 1000173 (.load true 13) [163],
 oT 165 1000174 .move [0],
 oT 166 1000175 .move [23],
 oT 167 1000176 (.indexAddr 13 none) [165,166],
 oT 168 1000177 (.load true 13) [167],
 oT 169 1000178 (.callv false) [158,164,168],
 ⟨(some 170),1000182,(.bin .lss),[.t 169,.c (.int .i64 (0))],none⟩,
 oT 171 1000183 (.un .not) [170]])
 (.cond (.t 171) (.region [oT 172 1000184 .move [23],
 ⟨(some 173),1000185,(.bin .add),[.t 172,.c (.int .i64 (1))],none⟩,
 oT 20 1000186 .move [173]]) (.region [oT 174 1000187 .move [23],
 oT 21 1000188 .move [174]]))))))))
 (.seq (.region [oT 175 1000189 .move [19],
 oT 176 1000190 .move [20],
 oT 177 1000191 (.bin .sub) [175,176],
 oT 24 1000192 .move [177]])
 (.joinT (Int×Int×Int×(List (aA))) (fun x=>⟨[.msl 0 13 (List.length x.2.2.2),.int .i64 a.2.1,.dead,.int .i64 a.2.2.2,.fn 255 [],.dead,.dead,.dead,.dead,.dead,.dead,.dead,.dead,.dead,.dead,.dead,.dead,.dead,.int .i64 x.1,.dead,.int .i64 x.2.1,.dead,.dead,.dead,.int .i64 x.2.2.1,.dead,.dead,.dead,.dead,.dead,.dead,.dead,.dead,.dead,.dead,.dead,.dead,.dead,.dead,.dead,.dead,.dead,.dead,.dead,.dead,.dead,.dead,.dead,.dead,.dead,.dead,.dead,.dead,.dead,.dead,.dead,.dead,.dead,.dead,.dead,.dead,.dead,.dead,.dead,.dead,.dead,.dead,.dead,.dead,.dead,.dead,.dead,.dead,.dead,.dead,.dead,.dead,.dead,.dead,.dead,.dead,.dead,.dead,.dead,.dead,.dead,.dead,.dead,.dead,.dead,.dead,.dead,.dead,.dead,.dead,.dead,.dead,.dead,.dead,.dead,.dead,.dead,.dead,.dead,.dead,.dead,.dead,.dead,.dead,.dead,.dead,.dead,.dead,.dead,.dead,.dead,.dead,.dead,.dead,.dead,.dead,.dead,.dead,.dead,.dead,.dead,.dead,.dead,.dead,.dead,.dead,.dead,.dead,.dead,.dead,.dead,.dead,.dead,.dead,.dead,.dead,.dead,.dead,.dead,.dead,.dead,.dead,.dead,.dead,.dead,.dead,.dead,.dead,.dead,.dead,.dead,.dead,.dead,.dead,.dead,.dead,.dead,.dead,.dead,.dead,.dead,.dead,.dead,.dead,.dead,.dead,.dead,.dead,.dead,.dead,.dead,.dead,.dead,.dead,.dead,.dead,.dead,.dead,.dead,.dead,.dead,.dead,.dead,.dead,.dead,.dead,.dead,.dead,.dead,.dead,.dead,.dead,.dead,.dead,.dead,.dead,.dead,.dead,.dead,.dead,.dead,.dead,.dead,.dead,.dead,.dead,.dead,.dead,.dead,.dead,.dead,.dead,.dead,.dead,.dead],[(0,false,[.dead,.arr false 13 (List.length x.2.2.2) (gl aB x.2.2.2)])],[]⟩) (.seq (.region [oT 178 1000193 .move [20],
 oT 179 1000194 .move [2],
 oT 180 1000195 (.bin .lss) [178,179],
 oT 181 1000196 .move [180],
 oG 182 1000197 .move [2] 181 true,
 oG 183 1000198 .move [24] 181 true,
 oG 184 1000199 (.bin .lss) [182,183] 181 true,
 ⟨(some 185),1000200,.pick,[.t 181,.t 184,.c (.bool false)],none⟩])
 (.cond (.t 185) (.region [oT 186 1000201 .move [0],
 oT 187 1000202 .move [20],
 oT 188 1000203 .move [2],
 oT 189 1000204 .move [24],
 oT 190 1000205 .move [4],
 oT 191 1000206 (.call true 259) [186,187,188,189,190]]) (.skip)))
 (.joinT (Int×Int×(List (aA))) (fun x=>⟨[.msl 0 13 (List.length x.2.2),.dead,.dead,.int .i64 a.2.2.2,.fn 255 [],.dead,.dead,.dead,.dead,.dead,.dead,.dead,.dead,.dead,.dead,.dead,.dead,.dead,.int .i64 x.1,.dead,.dead,.dead,.dead,.dead,.int .i64 x.2.1,.dead,.dead,.dead,.dead,.dead,.dead,.dead,.dead,.dead,.dead,.dead,.dead,.dead,.dead,.dead,.dead,.dead,.dead,.dead,.dead,.dead,.dead,.dead,.dead,.dead,.dead,.dead,.dead,.dead,.dead,.dead,.dead,.dead,.dead,.dead,.dead,.dead,.dead,.dead,.dead,.dead,.dead,.dead,.dead,.dead,.dead,.dead,.dead,.dead,.dead,.dead,.dead,.dead,.dead,.dead,.dead,.dead,.dead,.dead,.dead,.dead,.dead,.dead,.dead,.dead,.dead,.dead,.dead,.dead,.dead,.dead,.dead,.dead,.dead,.dead,.dead,.dead,.dead,.dead,.dead,.dead,.dead,.dead,.dead,.dead,.dead,.dead,.dead,.dead,.dead,.dead,.dead,.dead,.dead,.dead,.dead,.dead,.dead,.dead,.dead,.dead,.dead,.dead,.dead,.dead,.dead,.dead,.dead,.dead,.dead,.dead,.dead,.dead,.dead,.dead,.dead,.dead,.dead,.dead,.dead,.dead,.dead,.dead,.dead,.dead,.dead,.dead,.dead,.dead,.dead,.dead,.dead,.dead,.dead,.dead,.dead,.dead,.dead,.dead,.dead,.dead,.dead,.dead,.dead,.dead,.dead,.dead,.dead,.dead,.dead,.dead,.dead,.dead,.dead,.dead,.dead,.dead,.dead,.dead,.dead,.dead,.dead,.dead,.dead,.dead,.dead,.dead,.dead,.dead,.dead,.dead,.dead,.dead,.dead,.dead,.dead,.dead,.dead,.dead,.dead,.dead,.dead,.dead,.dead,.dead,.dead,.dead,.dead,.dead,.dead,.dead,.dead,.dead,.dead,.dead],[(0,false,[.dead,.arr false 13 (List.length x.2.2) (gl aB x.2.2)])],[]⟩) (.seq (.region [oT 192 1000210 .move [1],
 oT 193 1000211 .move [20],
 oT 194 1000212 (.bin .lss) [192,193],
 oT 195 1000213 .move [194],
 oG 196 1000214 .move [20] 195 true,
 oG 197 1000215 .move [18] 195 true,
 oG 198 1000216 (.bin .lss) [196,197] 195 true,
 ⟨(some 199),1000217,.pick,[.t 195,.t 198,.c (.bool false)],none⟩])
 (.cond (.t 199) (.region [oT 200 1000218 .move [0],
 oT 201 1000219 .move [1],
 oT 202 1000220 .move [20],
 oT 203 1000221 .move [18],
 oT 204 1000222 .move [4],
 oT 205 1000223 (.call true 258) [200,201,202,203,204]]) (.skip)))
 (.seq (.region [oT 206 1000227 .move [18],
 oT 207 1000228 .move [24],
 oT 208 1000229 (.bin .lss) [206,207],
 oT 209 1000230 .move [208],
 oG 210 1000231 .move [24] 209 true,
 oG 211 1000232 .move [3] 209 true,
 oG 212 1000233 (.bin .lss) [210,211] 209 true,
 ⟨(some 213),1000234,.pick,[.t 209,.t 212,.c (.bool false)],none⟩])
 (.cond (.t 213) (.region [oT 214 1000235 .move [0],
 oT 215 1000236 .move [18],
 oT 216 1000237 .move [24],
 oT 217 1000238 .move [3],
 oT 218 1000239 .move [4],
 oT 219 1000240 (.call true 258) [214,215,216,217,218]]) (.skip))))))))))))))
 [] 1 215
def f258.env (n:Nat):Env:=[(258,f258.Cn n),(255,f255.C),(259,f259.C)]
def f258.tree (a:(List (aA))×Int×Int×Int) (n:Nat):Prop:=Let (IntKind.i64.wrap (a.2.2.1 - a.2.1)) (fun v1:Int=>Br (v1==(1:Int)) (∃ (I5:(Int×Int×(List (aA)))→Prop) (μ6:(Int×Int×(List (aA)))→Nat),(∃ x4:Int×Int×(List (aA)),((List.length a.1)=(List.length x4.2.2))∧(a.2.1=a.2.1)∧(DEqs [] [])∧(a.2.2.1=x4.1)∧(a.2.2.2=x4.2.1)∧SlQ (List.length a.1) (List.length x4.2.2) (gl aB a.1) (gl aB x4.2.2) (I5 x4))∧∀ y7:Int×Int×(List (aA)),I5 y7→(Br (decide (y7.1 < y7.2.1)) (Let (IntKind.i64.wrap (y7.1+y7.2.1)) (fun v10:Int=>Let (IntKind.u64.wrap v10) (fun v11:Int=>Let (Int.fdiv v11 2) (fun v12:Int=>Let (IntKind.i64.wrap v12) (fun v13:Int=>Br (decide ((0:Int)≤v13)&&decide (v13 < (List.length y7.2.2:Int))) (((List.length y7.2.2)=(List.length y7.2.2))∧(Br (decide ((0:Int)≤a.2.1)&&decide (a.2.1 < (List.length y7.2.2:Int))) (((List.length y7.2.2)=(List.length y7.2.2))∧(f255.ent (fun c16=>True∧Br (decide ((mG c16) < (0:Int))) (Let (IntKind.i64.wrap (v13+(1:Int))) (fun v19:Int=>∃ x20:Int×Int×(List (aA)),((List.length y7.2.2)=(List.length x20.2.2))∧(a.2.1=a.2.1)∧(DEqs [] [])∧(v19=x20.1)∧(y7.2.1=x20.2.1)∧SlQ (List.length y7.2.2) (List.length x20.2.2) (gl aB y7.2.2) (gl aB x20.2.2) (I5 x20∧μ6 x20 < μ6 y7))) (∃ x25:Int×Int×(List (aA)),((List.length y7.2.2)=(List.length x25.2.2))∧(a.2.1=a.2.1)∧(DEqs [] [])∧(y7.1=x25.1)∧(v13=x25.2.1)∧SlQ (List.length y7.2.2) (List.length x25.2.2) (gl aB y7.2.2) (gl aB x25.2.2) (I5 x25∧μ6 x25 < μ6 y7))) ((((at_ y7.2.2 v13).1),(at_ y7.2.2 v13).2.1,(at_ y7.2.2 v13).2.2.1,(at_ y7.2.2 v13).2.2.2),(((at_ y7.2.2 a.2.1).1),(at_ y7.2.2 a.2.1).2.1,(at_ y7.2.2 a.2.1).2.2.1,(at_ y7.2.2 a.2.1).2.2.2)))) False)) False))))) (∃ (I42:(Int×Int×(List (aA)))→Prop) (μ43:(Int×Int×(List (aA)))→Nat),(∃ x41:Int×Int×(List (aA)),((List.length y7.2.2)=(List.length x41.2.2))∧(y7.1=x41.1)∧(a.2.1=x41.2.1)∧SlQ (List.length y7.2.2) (List.length x41.2.2) (gl aB y7.2.2) (gl aB x41.2.2) (I42 x41))∧∀ y44:Int×Int×(List (aA)),I42 y44→(Let (IntKind.i64.wrap (y44.1 - (1:Int))) (fun v45:Int=>Br (decide (y44.2.1 < v45)) (Let (IntKind.i64.wrap (y44.2.1+(1:Int))) (fun v48:Int=>Let (IntKind.i64.wrap (y44.2.1+(1:Int))) (fun v49:Int=>Br (decide ((0:Int)≤v49)&&decide (v49 < (List.length y44.2.2:Int))) (((List.length y44.2.2)=(List.length y44.2.2))∧(Br (decide ((0:Int)≤y44.2.1)&&decide (y44.2.1 < (List.length y44.2.2:Int))) (((List.length y44.2.2)=(List.length y44.2.2))∧(Br (decide ((0:Int)≤y44.2.1)&&decide (y44.2.1 < (List.length y44.2.2:Int))) (((List.length y44.2.2)=(List.length y44.2.2))∧(Br (decide ((0:Int)≤v48)&&decide (v48 < (List.length y44.2.2:Int))) (((List.length y44.2.2)=(List.length y44.2.2))∧(Let (IntKind.i64.wrap (y44.2.1+(1:Int))) (fun v54:Int=>∃ x55:Int×Int×(List (aA)),((List.length y44.2.2)=(List.length x55.2.2))∧(y44.1=x55.1)∧(v54=x55.2.1)∧SlQ (List.length y44.2.2) (List.length x55.2.2) (gset (gset (gl aB y44.2.2) (Int.toNat y44.2.1) [.str (((at_ y44.2.2 v49).1).1),.str (((at_ y44.2.2 v49).1).2.1),.int .i64 (((at_ y44.2.2 v49).1).2.2.1),.int .i64 ((((at_ y44.2.2 v49).1).2.2.2.1).1),.int .i64 ((((at_ y44.2.2 v49).1).2.2.2.1).2.1),.int .i64 ((((at_ y44.2.2 v49).1).2.2.2.1).2.2),.slice .ro 2 ((((at_ y44.2.2 v49).1).2.2.2.2.1).length) (gl aE (((at_ y44.2.2 v49).1).2.2.2.2.1)),.str (((at_ y44.2.2 v49).1).2.2.2.2.2.1),.str (((at_ y44.2.2 v49).1).2.2.2.2.2.2.1),.int .i64 (((at_ y44.2.2 v49).1).2.2.2.2.2.2.2),.int .i64 ((at_ y44.2.2 v49).2.1),.str ((at_ y44.2.2 v49).2.2.1),.int .i64 ((at_ y44.2.2 v49).2.2.2)]) (Int.toNat v48) [.str (((at_ y44.2.2 y44.2.1).1).1),.str (((at_ y44.2.2 y44.2.1).1).2.1),.int .i64 (((at_ y44.2.2 y44.2.1).1).2.2.1),.int .i64 ((((at_ y44.2.2 y44.2.1).1).2.2.2.1).1),.int .i64 ((((at_ y44.2.2 y44.2.1).1).2.2.2.1).2.1),.int .i64 ((((at_ y44.2.2 y44.2.1).1).2.2.2.1).2.2),.slice .ro 2 ((((at_ y44.2.2 y44.2.1).1).2.2.2.2.1).length) (gl aE (((at_ y44.2.2 y44.2.1).1).2.2.2.2.1)),.str (((at_ y44.2.2 y44.2.1).1).2.2.2.2.2.1),.str (((at_ y44.2.2 y44.2.1).1).2.2.2.2.2.2.1),.int .i64 (((at_ y44.2.2 y44.2.1).1).2.2.2.2.2.2.2),.int .i64 ((at_ y44.2.2 y44.2.1).2.1),.str ((at_ y44.2.2 y44.2.1).2.2.1),.int .i64 ((at_ y44.2.2 y44.2.1).2.2.2)]) (gl aB x55.2.2) (I42 x55∧μ43 x55 < μ43 y44)))) False)) False)) False)) False))) (SlQ (List.length y44.2.2) (List.length (dR a)) (gl aB y44.2.2) (gl aB (dR a)) (True))))))) (Let (IntKind.i64.wrap (a.2.2.2 - a.2.2.1)) (fun v84:Int=>Br (v84==(1:Int)) (∃ (I88:(Int×Int×(List (aA)))→Prop) (μ89:(Int×Int×(List (aA)))→Nat),(∃ x87:Int×Int×(List (aA)),((List.length a.1)=(List.length x87.2.2))∧(a.2.2.1=a.2.2.1)∧(DEqs [] [])∧(a.2.1=x87.1)∧(a.2.2.1=x87.2.1)∧SlQ (List.length a.1) (List.length x87.2.2) (gl aB a.1) (gl aB x87.2.2) (I88 x87))∧∀ y90:Int×Int×(List (aA)),I88 y90→(Br (decide (y90.1 < y90.2.1)) (Let (IntKind.i64.wrap (y90.1+y90.2.1)) (fun v93:Int=>Let (IntKind.u64.wrap v93) (fun v94:Int=>Let (Int.fdiv v94 2) (fun v95:Int=>Let (IntKind.i64.wrap v95) (fun v96:Int=>Br (decide ((0:Int)≤a.2.2.1)&&decide (a.2.2.1 < (List.length y90.2.2:Int))) (((List.length y90.2.2)=(List.length y90.2.2))∧(Br (decide ((0:Int)≤v96)&&decide (v96 < (List.length y90.2.2:Int))) (((List.length y90.2.2)=(List.length y90.2.2))∧(f255.ent (fun c99=>True∧Br (!(decide ((mG c99) < (0:Int)))) (Let (IntKind.i64.wrap (v96+(1:Int))) (fun v102:Int=>∃ x103:Int×Int×(List (aA)),((List.length y90.2.2)=(List.length x103.2.2))∧(a.2.2.1=a.2.2.1)∧(DEqs [] [])∧(v102=x103.1)∧(y90.2.1=x103.2.1)∧SlQ (List.length y90.2.2) (List.length x103.2.2) (gl aB y90.2.2) (gl aB x103.2.2) (I88 x103∧μ89 x103 < μ89 y90))) (∃ x108:Int×Int×(List (aA)),((List.length y90.2.2)=(List.length x108.2.2))∧(a.2.2.1=a.2.2.1)∧(DEqs [] [])∧(y90.1=x108.1)∧(v96=x108.2.1)∧SlQ (List.length y90.2.2) (List.length x108.2.2) (gl aB y90.2.2) (gl aB x108.2.2) (I88 x108∧μ89 x108 < μ89 y90))) ((((at_ y90.2.2 a.2.2.1).1),(at_ y90.2.2 a.2.2.1).2.1,(at_ y90.2.2 a.2.2.1).2.2.1,(at_ y90.2.2 a.2.2.1).2.2.2),(((at_ y90.2.2 v96).1),(at_ y90.2.2 v96).2.1,(at_ y90.2.2 v96).2.2.1,(at_ y90.2.2 v96).2.2.2)))) False)) False))))) (∃ (I125:(Int×Int×(List (aA)))→Prop) (μ126:(Int×Int×(List (aA)))→Nat),(∃ x124:Int×Int×(List (aA)),((List.length y90.2.2)=(List.length x124.2.2))∧(y90.1=x124.1)∧(a.2.2.1=x124.2.1)∧SlQ (List.length y90.2.2) (List.length x124.2.2) (gl aB y90.2.2) (gl aB x124.2.2) (I125 x124))∧∀ y127:Int×Int×(List (aA)),I125 y127→(Br (decide (y127.1 < y127.2.1)) (Let (IntKind.i64.wrap (y127.2.1 - (1:Int))) (fun v130:Int=>Let (IntKind.i64.wrap (y127.2.1 - (1:Int))) (fun v131:Int=>Br (decide ((0:Int)≤v131)&&decide (v131 < (List.length y127.2.2:Int))) (((List.length y127.2.2)=(List.length y127.2.2))∧(Br (decide ((0:Int)≤y127.2.1)&&decide (y127.2.1 < (List.length y127.2.2:Int))) (((List.length y127.2.2)=(List.length y127.2.2))∧(Br (decide ((0:Int)≤y127.2.1)&&decide (y127.2.1 < (List.length y127.2.2:Int))) (((List.length y127.2.2)=(List.length y127.2.2))∧(Br (decide ((0:Int)≤v130)&&decide (v130 < (List.length y127.2.2:Int))) (((List.length y127.2.2)=(List.length y127.2.2))∧(Let (IntKind.i64.wrap (y127.2.1 - (1:Int))) (fun v136:Int=>∃ x137:Int×Int×(List (aA)),((List.length y127.2.2)=(List.length x137.2.2))∧(y127.1=x137.1)∧(v136=x137.2.1)∧SlQ (List.length y127.2.2) (List.length x137.2.2) (gset (gset (gl aB y127.2.2) (Int.toNat y127.2.1) [.str (((at_ y127.2.2 v131).1).1),.str (((at_ y127.2.2 v131).1).2.1),.int .i64 (((at_ y127.2.2 v131).1).2.2.1),.int .i64 ((((at_ y127.2.2 v131).1).2.2.2.1).1),.int .i64 ((((at_ y127.2.2 v131).1).2.2.2.1).2.1),.int .i64 ((((at_ y127.2.2 v131).1).2.2.2.1).2.2),.slice .ro 2 ((((at_ y127.2.2 v131).1).2.2.2.2.1).length) (gl aE (((at_ y127.2.2 v131).1).2.2.2.2.1)),.str (((at_ y127.2.2 v131).1).2.2.2.2.2.1),.str (((at_ y127.2.2 v131).1).2.2.2.2.2.2.1),.int .i64 (((at_ y127.2.2 v131).1).2.2.2.2.2.2.2),.int .i64 ((at_ y127.2.2 v131).2.1),.str ((at_ y127.2.2 v131).2.2.1),.int .i64 ((at_ y127.2.2 v131).2.2.2)]) (Int.toNat v130) [.str (((at_ y127.2.2 y127.2.1).1).1),.str (((at_ y127.2.2 y127.2.1).1).2.1),.int .i64 (((at_ y127.2.2 y127.2.1).1).2.2.1),.int .i64 ((((at_ y127.2.2 y127.2.1).1).2.2.2.1).1),.int .i64 ((((at_ y127.2.2 y127.2.1).1).2.2.2.1).2.1),.int .i64 ((((at_ y127.2.2 y127.2.1).1).2.2.2.1).2.2),.slice .ro 2 ((((at_ y127.2.2 y127.2.1).1).2.2.2.2.1).length) (gl aE (((at_ y127.2.2 y127.2.1).1).2.2.2.2.1)),.str (((at_ y127.2.2 y127.2.1).1).2.2.2.2.2.1),.str (((at_ y127.2.2 y127.2.1).1).2.2.2.2.2.2.1),.int .i64 (((at_ y127.2.2 y127.2.1).1).2.2.2.2.2.2.2),.int .i64 ((at_ y127.2.2 y127.2.1).2.1),.str ((at_ y127.2.2 y127.2.1).2.2.1),.int .i64 ((at_ y127.2.2 y127.2.1).2.2.2)]) (gl aB x137.2.2) (I125 x137∧μ126 x137 < μ126 y127)))) False)) False)) False)) False))) (SlQ (List.length y127.2.2) (List.length (dR a)) (gl aB y127.2.2) (gl aB (dR a)) (True)))))) (Let (IntKind.i64.wrap (a.2.1+a.2.2.2)) (fun v163:Int=>Let (IntKind.u64.wrap v163) (fun v164:Int=>Let (Int.fdiv v164 2) (fun v165:Int=>Let (IntKind.i64.wrap v165) (fun v166:Int=>Let (IntKind.i64.wrap (v166+a.2.2.1)) (fun v167:Int=>∃ I168:(Int×Int×Int×Int×(List (aA)))→Prop,(Br (decide (v166 < a.2.2.1)) (Let (IntKind.i64.wrap (v167 - a.2.2.2)) (fun v171:Int=>∃ x172:Int×Int×Int×Int×(List (aA)),((List.length a.1)=(List.length x172.2.2.2.2))∧(a.2.1=a.2.1)∧(a.2.2.1=a.2.2.1)∧(a.2.2.2=a.2.2.2)∧(DEqs [] [])∧(v166=x172.1)∧(v167=x172.2.1)∧(v171=x172.2.2.1)∧(v166=x172.2.2.2.1)∧SlQ (List.length a.1) (List.length x172.2.2.2.2) (gl aB a.1) (gl aB x172.2.2.2.2) (I168 x172))) (∃ x176:Int×Int×Int×Int×(List (aA)),((List.length a.1)=(List.length x176.2.2.2.2))∧(a.2.1=a.2.1)∧(a.2.2.1=a.2.2.1)∧(a.2.2.2=a.2.2.2)∧(DEqs [] [])∧(v166=x176.1)∧(v167=x176.2.1)∧(a.2.1=x176.2.2.1)∧(a.2.2.1=x176.2.2.2.1)∧SlQ (List.length a.1) (List.length x176.2.2.2.2) (gl aB a.1) (gl aB x176.2.2.2.2) (I168 x176)))∧∀ y179:Int×Int×Int×Int×(List (aA)),I168 y179→(Let (IntKind.i64.wrap (y179.2.1 - (1:Int))) (fun v182:Int=>∃ (I184:(Int×Int×Int×Int×Int×(List (aA)))→Prop) (μ185:(Int×Int×Int×Int×Int×(List (aA)))→Nat),(∃ x183:Int×Int×Int×Int×Int×(List (aA)),((List.length y179.2.2.2.2)=(List.length x183.2.2.2.2.2))∧(a.2.1=a.2.1)∧(a.2.2.1=a.2.2.1)∧(a.2.2.2=a.2.2.2)∧(DEqs [] [])∧(y179.1=x183.1)∧(y179.2.1=x183.2.1)∧(y179.2.2.1=x183.2.2.1)∧(y179.2.2.2.1=x183.2.2.2.1)∧(v182=x183.2.2.2.2.1)∧SlQ (List.length y179.2.2.2.2) (List.length x183.2.2.2.2.2) (gl aB y179.2.2.2.2) (gl aB x183.2.2.2.2.2) (I184 x183))∧∀ y186:Int×Int×Int×Int×Int×(List (aA)),I184 y186→(Br (decide (y186.2.2.1 < y186.2.2.2.1)) (Let (IntKind.i64.wrap (y186.2.2.1+y186.2.2.2.1)) (fun v189:Int=>Let (IntKind.u64.wrap v189) (fun v190:Int=>Let (Int.fdiv v190 2) (fun v191:Int=>Let (IntKind.i64.wrap v191) (fun v192:Int=>Let (IntKind.i64.wrap (y186.2.2.2.2.1 - v192)) (fun v193:Int=>Br (decide ((0:Int)≤v193)&&decide (v193 < (List.length y186.2.2.2.2.2:Int))) (((List.length y186.2.2.2.2.2)=(List.length y186.2.2.2.2.2))∧(Br (decide ((0:Int)≤v192)&&decide (v192 < (List.length y186.2.2.2.2.2:Int))) (((List.length y186.2.2.2.2.2)=(List.length y186.2.2.2.2.2))∧(f255.ent (fun c196=>True∧Br (!(decide ((mG c196) < (0:Int)))) (Let (IntKind.i64.wrap (v192+(1:Int))) (fun v199:Int=>∃ x200:Int×Int×Int×Int×Int×(List (aA)),((List.length y186.2.2.2.2.2)=(List.length x200.2.2.2.2.2))∧(a.2.1=a.2.1)∧(a.2.2.1=a.2.2.1)∧(a.2.2.2=a.2.2.2)∧(DEqs [] [])∧(y186.1=x200.1)∧(y186.2.1=x200.2.1)∧(v199=x200.2.2.1)∧(y186.2.2.2.1=x200.2.2.2.1)∧(y186.2.2.2.2.1=x200.2.2.2.2.1)∧SlQ (List.length y186.2.2.2.2.2) (List.length x200.2.2.2.2.2) (gl aB y186.2.2.2.2.2) (gl aB x200.2.2.2.2.2) (I184 x200∧μ185 x200 < μ185 y186))) (∃ x205:Int×Int×Int×Int×Int×(List (aA)),((List.length y186.2.2.2.2.2)=(List.length x205.2.2.2.2.2))∧(a.2.1=a.2.1)∧(a.2.2.1=a.2.2.1)∧(a.2.2.2=a.2.2.2)∧(DEqs [] [])∧(y186.1=x205.1)∧(y186.2.1=x205.2.1)∧(y186.2.2.1=x205.2.2.1)∧(v192=x205.2.2.2.1)∧(y186.2.2.2.2.1=x205.2.2.2.2.1)∧SlQ (List.length y186.2.2.2.2.2) (List.length x205.2.2.2.2.2) (gl aB y186.2.2.2.2.2) (gl aB x205.2.2.2.2.2) (I184 x205∧μ185 x205 < μ185 y186))) ((((at_ y186.2.2.2.2.2 v193).1),(at_ y186.2.2.2.2.2 v193).2.1,(at_ y186.2.2.2.2.2 v193).2.2.1,(at_ y186.2.2.2.2.2 v193).2.2.2),(((at_ y186.2.2.2.2.2 v192).1),(at_ y186.2.2.2.2.2 v192).2.1,(at_ y186.2.2.2.2.2 v192).2.2.1,(at_ y186.2.2.2.2.2 v192).2.2.2)))) False)) False)))))) (Let (IntKind.i64.wrap (y186.2.1 - y186.2.2.1)) (fun v224:Int=>∃ I225:(Int×Int×Int×(List (aA)))→Prop,(Br (decide (y186.2.2.1 < a.2.2.1)) (Br (decide (a.2.2.1 < v224)) (((List.length y186.2.2.2.2.2)=(List.length y186.2.2.2.2.2))∧∃ c230:(List (aA))×Int×Int×Int,((List.length y186.2.2.2.2.2)=List.length c230.1)∧(y186.2.2.1=c230.2.1)∧(a.2.2.1=c230.2.2.1)∧(v224=c230.2.2.2)∧(DEqs [] [])∧SlQ (List.length y186.2.2.2.2.2) (List.length c230.1) (gl aB y186.2.2.2.2.2) (gl aB c230.1) ((n4 c230)∧∃ x232:Int×Int×Int×(List (aA)),((List.length y186.2.2.2.2.2)=(List.length x232.2.2.2))∧(a.2.1=a.2.1)∧(a.2.2.2=a.2.2.2)∧(DEqs [] [])∧(y186.1=x232.1)∧(y186.2.2.1=x232.2.1)∧(v224=x232.2.2.1)∧SlQ (List.length (p8 c230)) (List.length x232.2.2.2) (gl aB (p8 c230)) (gl aB x232.2.2.2) (I225 x232))) (∃ x234:Int×Int×Int×(List (aA)),((List.length y186.2.2.2.2.2)=(List.length x234.2.2.2))∧(a.2.1=a.2.1)∧(a.2.2.2=a.2.2.2)∧(DEqs [] [])∧(y186.1=x234.1)∧(y186.2.2.1=x234.2.1)∧(v224=x234.2.2.1)∧SlQ (List.length y186.2.2.2.2.2) (List.length x234.2.2.2) (gl aB y186.2.2.2.2.2) (gl aB x234.2.2.2) (I225 x234))) (∃ x237:Int×Int×Int×(List (aA)),((List.length y186.2.2.2.2.2)=(List.length x237.2.2.2))∧(a.2.1=a.2.1)∧(a.2.2.2=a.2.2.2)∧(DEqs [] [])∧(y186.1=x237.1)∧(y186.2.2.1=x237.2.1)∧(v224=x237.2.2.1)∧SlQ (List.length y186.2.2.2.2.2) (List.length x237.2.2.2) (gl aB y186.2.2.2.2.2) (gl aB x237.2.2.2) (I225 x237)))∧∀ y240:Int×Int×Int×(List (aA)),I225 y240→(∃ I243:(Int×Int×(List (aA)))→Prop,(Br (decide (a.2.1 < y240.2.1)) (Br (decide (y240.2.1 < y240.1)) (((List.length y240.2.2.2)=(List.length y240.2.2.2))∧∃ c248:(List (aA))×Int×Int×Int,((List.length y240.2.2.2)=List.length c248.1)∧(a.2.1=c248.2.1)∧(y240.2.1=c248.2.2.1)∧(y240.1=c248.2.2.2)∧(DEqs [] [])∧SlQ (List.length y240.2.2.2) (List.length c248.1) (gl aB y240.2.2.2) (gl aB c248.1) ((f258.rpre n c248)∧∃ x250:Int×Int×(List (aA)),((List.length y240.2.2.2)=(List.length x250.2.2))∧(a.2.2.2=a.2.2.2)∧(DEqs [] [])∧(y240.1=x250.1)∧(y240.2.2.1=x250.2.1)∧SlQ (List.length (dR c248)) (List.length x250.2.2) (gl aB (dR c248)) (gl aB x250.2.2) (I243 x250))) (∃ x252:Int×Int×(List (aA)),((List.length y240.2.2.2)=(List.length x252.2.2))∧(a.2.2.2=a.2.2.2)∧(DEqs [] [])∧(y240.1=x252.1)∧(y240.2.2.1=x252.2.1)∧SlQ (List.length y240.2.2.2) (List.length x252.2.2) (gl aB y240.2.2.2) (gl aB x252.2.2) (I243 x252))) (∃ x255:Int×Int×(List (aA)),((List.length y240.2.2.2)=(List.length x255.2.2))∧(a.2.2.2=a.2.2.2)∧(DEqs [] [])∧(y240.1=x255.1)∧(y240.2.2.1=x255.2.1)∧SlQ (List.length y240.2.2.2) (List.length x255.2.2) (gl aB y240.2.2.2) (gl aB x255.2.2) (I243 x255)))∧∀ y258:Int×Int×(List (aA)),I243 y258→(Br (decide (y258.1 < y258.2.1)) (Br (decide (y258.2.1 < a.2.2.2)) (((List.length y258.2.2)=(List.length y258.2.2))∧∃ c265:(List (aA))×Int×Int×Int,((List.length y258.2.2)=List.length c265.1)∧(y258.1=c265.2.1)∧(y258.2.1=c265.2.2.1)∧(a.2.2.2=c265.2.2.2)∧(DEqs [] [])∧SlQ (List.length y258.2.2) (List.length c265.1) (gl aB y258.2.2) (gl aB c265.1) ((f258.rpre n c265)∧SlQ (List.length (dR c265)) (List.length (dR a)) (gl aB (dR c265)) (gl aB (dR a)) (True))) (SlQ (List.length y258.2.2) (List.length (dR a)) (gl aB y258.2.2) (gl aB (dR a)) (True))) (SlQ (List.length y258.2.2) (List.length (dR a)) (gl aB y258.2.2) (gl aB (dR a)) (True))))))))))))))))))
def f258.vc (a:(List (aA))×Int×Int×Int) (n:Nat):Prop:=(-9223372036854775808≤(a.2.2.1 - a.2.1)∧(a.2.2.1 - a.2.1)≤9223372036854775807∧(((a.2.2.1 - a.2.1)=(1:Int)→(∃ (I5:(Int×Int×(List (aA)))→Prop) (μ6:(Int×Int×(List (aA)))→Nat),I5 (a.2.2.1,a.2.2.2,a.1)∧∀ y7:Int×Int×(List (aA)),I5 y7→((y7.1 < y7.2.1→(-9223372036854775808≤(y7.1+y7.2.1)∧(y7.1+y7.2.1)≤9223372036854775807∧(0≤(y7.1+y7.2.1)∧(y7.1+y7.2.1)≤18446744073709551615∧(-9223372036854775808≤((y7.1+y7.2.1) / 2)∧((y7.1+y7.2.1) / 2)≤9223372036854775807∧((0:Int)≤((y7.1+y7.2.1) / 2)∧((y7.1+y7.2.1) / 2) < (List.length y7.2.2:Int)∧((0:Int)≤a.2.1∧a.2.1 < (List.length y7.2.2:Int)∧(((mG ((((at_ y7.2.2 ((y7.1+y7.2.1) / 2)).1),(at_ y7.2.2 ((y7.1+y7.2.1) / 2)).2.1,(at_ y7.2.2 ((y7.1+y7.2.1) / 2)).2.2.1,(at_ y7.2.2 ((y7.1+y7.2.1) / 2)).2.2.2),(((at_ y7.2.2 a.2.1).1),(at_ y7.2.2 a.2.1).2.1,(at_ y7.2.2 a.2.1).2.2.1,(at_ y7.2.2 a.2.1).2.2.2))) < (0:Int)→(-9223372036854775808≤(((y7.1+y7.2.1) / 2)+(1:Int))∧(((y7.1+y7.2.1) / 2)+(1:Int))≤9223372036854775807∧(I5 ((((y7.1+y7.2.1) / 2)+(1:Int)),y7.2.1,y7.2.2)∧μ6 ((((y7.1+y7.2.1) / 2)+(1:Int)),y7.2.1,y7.2.2) < μ6 y7)))∧(¬((mG ((((at_ y7.2.2 ((y7.1+y7.2.1) / 2)).1),(at_ y7.2.2 ((y7.1+y7.2.1) / 2)).2.1,(at_ y7.2.2 ((y7.1+y7.2.1) / 2)).2.2.1,(at_ y7.2.2 ((y7.1+y7.2.1) / 2)).2.2.2),(((at_ y7.2.2 a.2.1).1),(at_ y7.2.2 a.2.1).2.1,(at_ y7.2.2 a.2.1).2.2.1,(at_ y7.2.2 a.2.1).2.2.2))) < (0:Int))→(I5 (y7.1,((y7.1+y7.2.1) / 2),y7.2.2)∧μ6 (y7.1,((y7.1+y7.2.1) / 2),y7.2.2) < μ6 y7)))))))))∧(¬(y7.1 < y7.2.1)→(∃ (I42:(Int×Int×(List (aA)))→Prop) (μ43:(Int×Int×(List (aA)))→Nat),I42 (y7.1,a.2.1,y7.2.2)∧∀ y44:Int×Int×(List (aA)),I42 y44→(-9223372036854775808≤(y44.1 - (1:Int))∧(y44.1 - (1:Int))≤9223372036854775807∧((y44.2.1 < (y44.1 - (1:Int))→(-9223372036854775808≤(y44.2.1+(1:Int))∧(y44.2.1+(1:Int))≤9223372036854775807∧(-9223372036854775808≤(y44.2.1+(1:Int))∧(y44.2.1+(1:Int))≤9223372036854775807∧((0:Int)≤(y44.2.1+(1:Int))∧(y44.2.1+(1:Int)) < (List.length y44.2.2:Int)∧((0:Int)≤y44.2.1∧y44.2.1 < (List.length y44.2.2:Int)∧((0:Int)≤y44.2.1∧y44.2.1 < (List.length y44.2.2:Int)∧((0:Int)≤(y44.2.1+(1:Int))∧(y44.2.1+(1:Int)) < (List.length y44.2.2:Int)∧(-9223372036854775808≤(y44.2.1+(1:Int))∧(y44.2.1+(1:Int))≤9223372036854775807∧(I42 (y44.1,(y44.2.1+(1:Int)),List.set (List.set y44.2.2 (Int.toNat y44.2.1) (((at_ y44.2.2 (y44.2.1+(1:Int))).1),(at_ y44.2.2 (y44.2.1+(1:Int))).2.1,(at_ y44.2.2 (y44.2.1+(1:Int))).2.2.1,(at_ y44.2.2 (y44.2.1+(1:Int))).2.2.2)) (Int.toNat (y44.2.1+(1:Int))) (((at_ y44.2.2 y44.2.1).1),(at_ y44.2.2 y44.2.1).2.1,(at_ y44.2.2 y44.2.1).2.2.1,(at_ y44.2.2 y44.2.1).2.2.2))∧μ43 (y44.1,(y44.2.1+(1:Int)),List.set (List.set y44.2.2 (Int.toNat y44.2.1) (((at_ y44.2.2 (y44.2.1+(1:Int))).1),(at_ y44.2.2 (y44.2.1+(1:Int))).2.1,(at_ y44.2.2 (y44.2.1+(1:Int))).2.2.1,(at_ y44.2.2 (y44.2.1+(1:Int))).2.2.2)) (Int.toNat (y44.2.1+(1:Int))) (((at_ y44.2.2 y44.2.1).1),(at_ y44.2.2 y44.2.1).2.1,(at_ y44.2.2 y44.2.1).2.2.1,(at_ y44.2.2 y44.2.1).2.2.2)) < μ43 y44)))))))))∧(¬(y44.2.1 < (y44.1 - (1:Int)))→(y44.2.2=dR a)))))))))∧(¬((a.2.2.1 - a.2.1)=(1:Int))→(-9223372036854775808≤(a.2.2.2 - a.2.2.1)∧(a.2.2.2 - a.2.2.1)≤9223372036854775807∧(((a.2.2.2 - a.2.2.1)=(1:Int)→(∃ (I88:(Int×Int×(List (aA)))→Prop) (μ89:(Int×Int×(List (aA)))→Nat),I88 (a.2.1,a.2.2.1,a.1)∧∀ y90:Int×Int×(List (aA)),I88 y90→((y90.1 < y90.2.1→(-9223372036854775808≤(y90.1+y90.2.1)∧(y90.1+y90.2.1)≤9223372036854775807∧(0≤(y90.1+y90.2.1)∧(y90.1+y90.2.1)≤18446744073709551615∧(-9223372036854775808≤((y90.1+y90.2.1) / 2)∧((y90.1+y90.2.1) / 2)≤9223372036854775807∧((0:Int)≤a.2.2.1∧a.2.2.1 < (List.length y90.2.2:Int)∧((0:Int)≤((y90.1+y90.2.1) / 2)∧((y90.1+y90.2.1) / 2) < (List.length y90.2.2:Int)∧((¬((mG ((((at_ y90.2.2 a.2.2.1).1),(at_ y90.2.2 a.2.2.1).2.1,(at_ y90.2.2 a.2.2.1).2.2.1,(at_ y90.2.2 a.2.2.1).2.2.2),(((at_ y90.2.2 ((y90.1+y90.2.1) / 2)).1),(at_ y90.2.2 ((y90.1+y90.2.1) / 2)).2.1,(at_ y90.2.2 ((y90.1+y90.2.1) / 2)).2.2.1,(at_ y90.2.2 ((y90.1+y90.2.1) / 2)).2.2.2))) < (0:Int))→(-9223372036854775808≤(((y90.1+y90.2.1) / 2)+(1:Int))∧(((y90.1+y90.2.1) / 2)+(1:Int))≤9223372036854775807∧(I88 ((((y90.1+y90.2.1) / 2)+(1:Int)),y90.2.1,y90.2.2)∧μ89 ((((y90.1+y90.2.1) / 2)+(1:Int)),y90.2.1,y90.2.2) < μ89 y90)))∧(¬(¬((mG ((((at_ y90.2.2 a.2.2.1).1),(at_ y90.2.2 a.2.2.1).2.1,(at_ y90.2.2 a.2.2.1).2.2.1,(at_ y90.2.2 a.2.2.1).2.2.2),(((at_ y90.2.2 ((y90.1+y90.2.1) / 2)).1),(at_ y90.2.2 ((y90.1+y90.2.1) / 2)).2.1,(at_ y90.2.2 ((y90.1+y90.2.1) / 2)).2.2.1,(at_ y90.2.2 ((y90.1+y90.2.1) / 2)).2.2.2))) < (0:Int)))→(I88 (y90.1,((y90.1+y90.2.1) / 2),y90.2.2)∧μ89 (y90.1,((y90.1+y90.2.1) / 2),y90.2.2) < μ89 y90)))))))))∧(¬(y90.1 < y90.2.1)→(∃ (I125:(Int×Int×(List (aA)))→Prop) (μ126:(Int×Int×(List (aA)))→Nat),I125 (y90.1,a.2.2.1,y90.2.2)∧∀ y127:Int×Int×(List (aA)),I125 y127→((y127.1 < y127.2.1→(-9223372036854775808≤(y127.2.1 - (1:Int))∧(y127.2.1 - (1:Int))≤9223372036854775807∧(-9223372036854775808≤(y127.2.1 - (1:Int))∧(y127.2.1 - (1:Int))≤9223372036854775807∧((0:Int)≤(y127.2.1 - (1:Int))∧(y127.2.1 - (1:Int)) < (List.length y127.2.2:Int)∧((0:Int)≤y127.2.1∧y127.2.1 < (List.length y127.2.2:Int)∧((0:Int)≤y127.2.1∧y127.2.1 < (List.length y127.2.2:Int)∧((0:Int)≤(y127.2.1 - (1:Int))∧(y127.2.1 - (1:Int)) < (List.length y127.2.2:Int)∧(-9223372036854775808≤(y127.2.1 - (1:Int))∧(y127.2.1 - (1:Int))≤9223372036854775807∧(I125 (y127.1,(y127.2.1 - (1:Int)),List.set (List.set y127.2.2 (Int.toNat y127.2.1) (((at_ y127.2.2 (y127.2.1 - (1:Int))).1),(at_ y127.2.2 (y127.2.1 - (1:Int))).2.1,(at_ y127.2.2 (y127.2.1 - (1:Int))).2.2.1,(at_ y127.2.2 (y127.2.1 - (1:Int))).2.2.2)) (Int.toNat (y127.2.1 - (1:Int))) (((at_ y127.2.2 y127.2.1).1),(at_ y127.2.2 y127.2.1).2.1,(at_ y127.2.2 y127.2.1).2.2.1,(at_ y127.2.2 y127.2.1).2.2.2))∧μ126 (y127.1,(y127.2.1 - (1:Int)),List.set (List.set y127.2.2 (Int.toNat y127.2.1) (((at_ y127.2.2 (y127.2.1 - (1:Int))).1),(at_ y127.2.2 (y127.2.1 - (1:Int))).2.1,(at_ y127.2.2 (y127.2.1 - (1:Int))).2.2.1,(at_ y127.2.2 (y127.2.1 - (1:Int))).2.2.2)) (Int.toNat (y127.2.1 - (1:Int))) (((at_ y127.2.2 y127.2.1).1),(at_ y127.2.2 y127.2.1).2.1,(at_ y127.2.2 y127.2.1).2.2.1,(at_ y127.2.2 y127.2.1).2.2.2)) < μ126 y127)))))))))∧(¬(y127.1 < y127.2.1)→(y127.2.2=dR a))))))))∧(¬((a.2.2.2 - a.2.2.1)=(1:Int))→(-9223372036854775808≤(a.2.1+a.2.2.2)∧(a.2.1+a.2.2.2)≤9223372036854775807∧(0≤(a.2.1+a.2.2.2)∧(a.2.1+a.2.2.2)≤18446744073709551615∧(-9223372036854775808≤((a.2.1+a.2.2.2) / 2)∧((a.2.1+a.2.2.2) / 2)≤9223372036854775807∧(-9223372036854775808≤(((a.2.1+a.2.2.2) / 2)+a.2.2.1)∧(((a.2.1+a.2.2.2) / 2)+a.2.2.1)≤9223372036854775807∧(∃ I168:(Int×Int×Int×Int×(List (aA)))→Prop,(((((a.2.1+a.2.2.2) / 2) < a.2.2.1→(-9223372036854775808≤((((a.2.1+a.2.2.2) / 2)+a.2.2.1) - a.2.2.2)∧((((a.2.1+a.2.2.2) / 2)+a.2.2.1) - a.2.2.2)≤9223372036854775807∧(I168 (((a.2.1+a.2.2.2) / 2),(((a.2.1+a.2.2.2) / 2)+a.2.2.1),((((a.2.1+a.2.2.2) / 2)+a.2.2.1) - a.2.2.2),((a.2.1+a.2.2.2) / 2),a.1))))∧(¬(((a.2.1+a.2.2.2) / 2) < a.2.2.1)→(I168 (((a.2.1+a.2.2.2) / 2),(((a.2.1+a.2.2.2) / 2)+a.2.2.1),a.2.1,a.2.2.1,a.1)))))∧∀ y179:Int×Int×Int×Int×(List (aA)),I168 y179→(-9223372036854775808≤(y179.2.1 - (1:Int))∧(y179.2.1 - (1:Int))≤9223372036854775807∧(∃ (I184:(Int×Int×Int×Int×Int×(List (aA)))→Prop) (μ185:(Int×Int×Int×Int×Int×(List (aA)))→Nat),I184 (y179.1,y179.2.1,y179.2.2.1,y179.2.2.2.1,(y179.2.1 - (1:Int)),y179.2.2.2.2)∧∀ y186:Int×Int×Int×Int×Int×(List (aA)),I184 y186→((y186.2.2.1 < y186.2.2.2.1→(-9223372036854775808≤(y186.2.2.1+y186.2.2.2.1)∧(y186.2.2.1+y186.2.2.2.1)≤9223372036854775807∧(0≤(y186.2.2.1+y186.2.2.2.1)∧(y186.2.2.1+y186.2.2.2.1)≤18446744073709551615∧(-9223372036854775808≤((y186.2.2.1+y186.2.2.2.1) / 2)∧((y186.2.2.1+y186.2.2.2.1) / 2)≤9223372036854775807∧(-9223372036854775808≤(y186.2.2.2.2.1 - ((y186.2.2.1+y186.2.2.2.1) / 2))∧(y186.2.2.2.2.1 - ((y186.2.2.1+y186.2.2.2.1) / 2))≤9223372036854775807∧((0:Int)≤(y186.2.2.2.2.1 - ((y186.2.2.1+y186.2.2.2.1) / 2))∧(y186.2.2.2.2.1 - ((y186.2.2.1+y186.2.2.2.1) / 2)) < (List.length y186.2.2.2.2.2:Int)∧((0:Int)≤((y186.2.2.1+y186.2.2.2.1) / 2)∧((y186.2.2.1+y186.2.2.2.1) / 2) < (List.length y186.2.2.2.2.2:Int)∧((¬((mG ((((at_ y186.2.2.2.2.2 (y186.2.2.2.2.1 - ((y186.2.2.1+y186.2.2.2.1) / 2))).1),(at_ y186.2.2.2.2.2 (y186.2.2.2.2.1 - ((y186.2.2.1+y186.2.2.2.1) / 2))).2.1,(at_ y186.2.2.2.2.2 (y186.2.2.2.2.1 - ((y186.2.2.1+y186.2.2.2.1) / 2))).2.2.1,(at_ y186.2.2.2.2.2 (y186.2.2.2.2.1 - ((y186.2.2.1+y186.2.2.2.1) / 2))).2.2.2),(((at_ y186.2.2.2.2.2 ((y186.2.2.1+y186.2.2.2.1) / 2)).1),(at_ y186.2.2.2.2.2 ((y186.2.2.1+y186.2.2.2.1) / 2)).2.1,(at_ y186.2.2.2.2.2 ((y186.2.2.1+y186.2.2.2.1) / 2)).2.2.1,(at_ y186.2.2.2.2.2 ((y186.2.2.1+y186.2.2.2.1) / 2)).2.2.2))) < (0:Int))→(-9223372036854775808≤(((y186.2.2.1+y186.2.2.2.1) / 2)+(1:Int))∧(((y186.2.2.1+y186.2.2.2.1) / 2)+(1:Int))≤9223372036854775807∧(I184 (y186.1,y186.2.1,(((y186.2.2.1+y186.2.2.2.1) / 2)+(1:Int)),y186.2.2.2.1,y186.2.2.2.2.1,y186.2.2.2.2.2)∧μ185 (y186.1,y186.2.1,(((y186.2.2.1+y186.2.2.2.1) / 2)+(1:Int)),y186.2.2.2.1,y186.2.2.2.2.1,y186.2.2.2.2.2) < μ185 y186)))∧(¬(¬((mG ((((at_ y186.2.2.2.2.2 (y186.2.2.2.2.1 - ((y186.2.2.1+y186.2.2.2.1) / 2))).1),(at_ y186.2.2.2.2.2 (y186.2.2.2.2.1 - ((y186.2.2.1+y186.2.2.2.1) / 2))).2.1,(at_ y186.2.2.2.2.2 (y186.2.2.2.2.1 - ((y186.2.2.1+y186.2.2.2.1) / 2))).2.2.1,(at_ y186.2.2.2.2.2 (y186.2.2.2.2.1 - ((y186.2.2.1+y186.2.2.2.1) / 2))).2.2.2),(((at_ y186.2.2.2.2.2 ((y186.2.2.1+y186.2.2.2.1) / 2)).1),(at_ y186.2.2.2.2.2 ((y186.2.2.1+y186.2.2.2.1) / 2)).2.1,(at_ y186.2.2.2.2.2 ((y186.2.2.1+y186.2.2.2.1) / 2)).2.2.1,(at_ y186.2.2.2.2.2 ((y186.2.2.1+y186.2.2.2.1) / 2)).2.2.2))) < (0:Int)))→(I184 (y186.1,y186.2.1,y186.2.2.1,((y186.2.2.1+y186.2.2.2.1) / 2),y186.2.2.2.2.1,y186.2.2.2.2.2)∧μ185 (y186.1,y186.2.1,y186.2.2.1,((y186.2.2.1+y186.2.2.2.1) / 2),y186.2.2.2.2.1,y186.2.2.2.2.2) < μ185 y186))))))))))∧(¬(y186.2.2.1 < y186.2.2.2.1)→(-9223372036854775808≤(y186.2.1 - y186.2.2.1)∧(y186.2.1 - y186.2.2.1)≤9223372036854775807∧(∃ I225:(Int×Int×Int×(List (aA)))→Prop,(((y186.2.2.1 < a.2.2.1→((a.2.2.1 < (y186.2.1 - y186.2.2.1)→(n4 (y186.2.2.2.2.2,y186.2.2.1,a.2.2.1,(y186.2.1 - y186.2.2.1))∧((List.length (p8 (y186.2.2.2.2.2,y186.2.2.1,a.2.2.1,(y186.2.1 - y186.2.2.1))))=(List.length y186.2.2.2.2.2)∧(I225 (y186.1,y186.2.2.1,(y186.2.1 - y186.2.2.1),(p8 (y186.2.2.2.2.2,y186.2.2.1,a.2.2.1,(y186.2.1 - y186.2.2.1))))))))∧(¬(a.2.2.1 < (y186.2.1 - y186.2.2.1))→(I225 (y186.1,y186.2.2.1,(y186.2.1 - y186.2.2.1),y186.2.2.2.2.2)))))∧(¬(y186.2.2.1 < a.2.2.1)→(I225 (y186.1,y186.2.2.1,(y186.2.1 - y186.2.2.1),y186.2.2.2.2.2)))))∧∀ y240:Int×Int×Int×(List (aA)),I225 y240→(∃ I243:(Int×Int×(List (aA)))→Prop,(((a.2.1 < y240.2.1→((y240.2.1 < y240.1→(f258.rpre n (y240.2.2.2,a.2.1,y240.2.1,y240.1)∧((List.length (dR (y240.2.2.2,a.2.1,y240.2.1,y240.1)))=(List.length y240.2.2.2)∧(I243 (y240.1,y240.2.2.1,(dR (y240.2.2.2,a.2.1,y240.2.1,y240.1)))))))∧(¬(y240.2.1 < y240.1)→(I243 (y240.1,y240.2.2.1,y240.2.2.2)))))∧(¬(a.2.1 < y240.2.1)→(I243 (y240.1,y240.2.2.1,y240.2.2.2)))))∧∀ y258:Int×Int×(List (aA)),I243 y258→((y258.1 < y258.2.1→((y258.2.1 < a.2.2.2→(f258.rpre n (y258.2.2,y258.1,y258.2.1,a.2.2.2)∧((List.length (dR (y258.2.2,y258.1,y258.2.1,a.2.2.2)))=(List.length y258.2.2)∧((dR (y258.2.2,y258.1,y258.2.1,a.2.2.2))=dR a))))∧(¬(y258.2.1 < a.2.2.2)→(y258.2.2=dR a))))∧(¬(y258.1 < y258.2.1)→(y258.2.2=dR a)))))))))))))))))))))
set_option maxRecDepth 100000 in
set_option maxHeartbeats 2000000 in
theorem f258.of (a:(List (aA))×Int×Int×Int) (n:Nat) (h:f258.vc a n):f258.tree a n:=wrapK.i64 h (fun h305 h306 k307=>br k307 Cnd.eq (fun h2 k303=>Exists.elim k303 (fun I5 h81_=>Exists.elim h81_ (fun μ6 h81=>⟨I5,μ6,⟨(a.2.2.1,a.2.2.2,a.1),⟨(cI (gl aB a.1) (Rds.self (enc:=aB))),⟨rfl,⟨(DEqs.refl _),⟨rfl,⟨rfl,slQ (Rds.self (enc:=aB)) (h81.1)⟩⟩⟩⟩⟩⟩,fun y7 h83=>br (h81.2 y7 h83) Cnd.dec (fun h8 k79=>wrapK.i64 k79 (fun h38 h39 k40=>wrapK.u64 k40 (fun h35 h36 k37=>aDN (by decide) (wrapK.i64 k37 (fun h32 h33 k34=>chk k34.2.2 Cnd.ix ⟨k34.1,k34.2.1⟩ (fun h14 k31=>⟨rfl,chk k31.2.2 Cnd.ix ⟨k31.1,k31.2.1⟩ (fun h15 k30=>⟨rfl,(f255.ei ⟨trivial,br k30 Cnd.dec (fun h17 k27=>wrapK.i64 k27 (fun h22 h23 k24=>⟨((((y7.1+y7.2.1) / 2)+(1:Int)),y7.2.1,y7.2.2),⟨(cI (gl aB y7.2.2) (Rds.self (enc:=aB))),⟨rfl,⟨(DEqs.refl _),⟨rfl,⟨rfl,slQ (Rds.self (enc:=aB)) (k24)⟩⟩⟩⟩⟩⟩)) (fun h18 k28=>⟨(y7.1,((y7.1+y7.2.1) / 2),y7.2.2),⟨(cI (gl aB y7.2.2) (Rds.self (enc:=aB))),⟨rfl,⟨(DEqs.refl _),⟨rfl,⟨rfl,slQ (Rds.self (enc:=aB)) (k28)⟩⟩⟩⟩⟩⟩)⟩)⟩)⟩)))))) (fun h9 k80=>Exists.elim k80 (fun I42 h76_=>Exists.elim h76_ (fun μ43 h76=>⟨I42,μ43,⟨(y7.1,a.2.1,y7.2.2),⟨(cI (gl aB y7.2.2) (Rds.self (enc:=aB))),⟨rfl,⟨rfl,slQ (Rds.self (enc:=aB)) (h76.1)⟩⟩⟩⟩,fun y44 h78=>wrapK.i64 (h76.2 y44 h78) (fun h73 h74 k75=>br k75 Cnd.dec (fun h46 k71=>wrapK.i64 k71 (fun h67 h68 k69=>wrapK.i64 k69 (fun h64 h65 k66=>chk k66.2.2 Cnd.ix ⟨k66.1,k66.2.1⟩ (fun h50 k63=>⟨rfl,chk k63.2.2 Cnd.ix ⟨k63.1,k63.2.1⟩ (fun h51 k62=>⟨rfl,chk k62.2.2 Cnd.ix ⟨k62.1,k62.2.1⟩ (fun h52 k61=>⟨rfl,chk k61.2.2 Cnd.ix ⟨k61.1,k61.2.1⟩ (fun h53 k60=>⟨rfl,wrapK.i64 k60 (fun h57 h58 k59=>⟨(y44.1,(y44.2.1+(1:Int)),List.set (List.set y44.2.2 (Int.toNat y44.2.1) (((at_ y44.2.2 (y44.2.1+(1:Int))).1),(at_ y44.2.2 (y44.2.1+(1:Int))).2.1,(at_ y44.2.2 (y44.2.1+(1:Int))).2.2.1,(at_ y44.2.2 (y44.2.1+(1:Int))).2.2.2)) (Int.toNat (y44.2.1+(1:Int))) (((at_ y44.2.2 y44.2.1).1),(at_ y44.2.2 y44.2.1).2.1,(at_ y44.2.2 y44.2.1).2.2.1,(at_ y44.2.2 y44.2.1).2.2.2)),⟨(cI (gset (gset (gl aB y44.2.2) (Int.toNat y44.2.1) [.str (((at_ y44.2.2 (y44.2.1+(1:Int))).1).1),.str (((at_ y44.2.2 (y44.2.1+(1:Int))).1).2.1),.int .i64 (((at_ y44.2.2 (y44.2.1+(1:Int))).1).2.2.1),.int .i64 ((((at_ y44.2.2 (y44.2.1+(1:Int))).1).2.2.2.1).1),.int .i64 ((((at_ y44.2.2 (y44.2.1+(1:Int))).1).2.2.2.1).2.1),.int .i64 ((((at_ y44.2.2 (y44.2.1+(1:Int))).1).2.2.2.1).2.2),.slice .ro 2 ((((at_ y44.2.2 (y44.2.1+(1:Int))).1).2.2.2.2.1).length) (gl aE (((at_ y44.2.2 (y44.2.1+(1:Int))).1).2.2.2.2.1)),.str (((at_ y44.2.2 (y44.2.1+(1:Int))).1).2.2.2.2.2.1),.str (((at_ y44.2.2 (y44.2.1+(1:Int))).1).2.2.2.2.2.2.1),.int .i64 (((at_ y44.2.2 (y44.2.1+(1:Int))).1).2.2.2.2.2.2.2),.int .i64 ((at_ y44.2.2 (y44.2.1+(1:Int))).2.1),.str ((at_ y44.2.2 (y44.2.1+(1:Int))).2.2.1),.int .i64 ((at_ y44.2.2 (y44.2.1+(1:Int))).2.2.2)]) (Int.toNat (y44.2.1+(1:Int))) [.str (((at_ y44.2.2 y44.2.1).1).1),.str (((at_ y44.2.2 y44.2.1).1).2.1),.int .i64 (((at_ y44.2.2 y44.2.1).1).2.2.1),.int .i64 ((((at_ y44.2.2 y44.2.1).1).2.2.2.1).1),.int .i64 ((((at_ y44.2.2 y44.2.1).1).2.2.2.1).2.1),.int .i64 ((((at_ y44.2.2 y44.2.1).1).2.2.2.1).2.2),.slice .ro 2 ((((at_ y44.2.2 y44.2.1).1).2.2.2.2.1).length) (gl aE (((at_ y44.2.2 y44.2.1).1).2.2.2.2.1)),.str (((at_ y44.2.2 y44.2.1).1).2.2.2.2.2.1),.str (((at_ y44.2.2 y44.2.1).1).2.2.2.2.2.2.1),.int .i64 (((at_ y44.2.2 y44.2.1).1).2.2.2.2.2.2.2),.int .i64 ((at_ y44.2.2 y44.2.1).2.1),.str ((at_ y44.2.2 y44.2.1).2.2.1),.int .i64 ((at_ y44.2.2 y44.2.1).2.2.2)]) (Rds.gset (enc:=aB) (Rds.gset (enc:=aB) (Rds.self (enc:=aB)) (DEqs.refl _)) (DEqs.refl _))),⟨rfl,⟨rfl,slQ (Rds.gset (enc:=aB) (Rds.gset (enc:=aB) (Rds.self (enc:=aB)) (DEqs.refl _)) (DEqs.refl _)) (k59)⟩⟩⟩⟩)⟩)⟩)⟩)⟩)))) (fun h47 k72=>slQ (Rds.to (Rds.self (enc:=aB)) k72) (trivial)))⟩)))⟩))) (fun h3 k304=>wrapK.i64 k304 (fun h300 h301 k302=>br k302 Cnd.eq (fun h85 k298=>Exists.elim k298 (fun I88 h160_=>Exists.elim h160_ (fun μ89 h160=>⟨I88,μ89,⟨(a.2.1,a.2.2.1,a.1),⟨(cI (gl aB a.1) (Rds.self (enc:=aB))),⟨rfl,⟨(DEqs.refl _),⟨rfl,⟨rfl,slQ (Rds.self (enc:=aB)) (h160.1)⟩⟩⟩⟩⟩⟩,fun y90 h162=>br (h160.2 y90 h162) Cnd.dec (fun h91 k158=>wrapK.i64 k158 (fun h121 h122 k123=>wrapK.u64 k123 (fun h118 h119 k120=>aDN (by decide) (wrapK.i64 k120 (fun h115 h116 k117=>chk k117.2.2 Cnd.ix ⟨k117.1,k117.2.1⟩ (fun h97 k114=>⟨rfl,chk k114.2.2 Cnd.ix ⟨k114.1,k114.2.1⟩ (fun h98 k113=>⟨rfl,(f255.ei ⟨trivial,br k113 (Cnd.not Cnd.dec) (fun h100 k110=>wrapK.i64 k110 (fun h105 h106 k107=>⟨((((y90.1+y90.2.1) / 2)+(1:Int)),y90.2.1,y90.2.2),⟨(cI (gl aB y90.2.2) (Rds.self (enc:=aB))),⟨rfl,⟨(DEqs.refl _),⟨rfl,⟨rfl,slQ (Rds.self (enc:=aB)) (k107)⟩⟩⟩⟩⟩⟩)) (fun h101 k111=>⟨(y90.1,((y90.1+y90.2.1) / 2),y90.2.2),⟨(cI (gl aB y90.2.2) (Rds.self (enc:=aB))),⟨rfl,⟨(DEqs.refl _),⟨rfl,⟨rfl,slQ (Rds.self (enc:=aB)) (k111)⟩⟩⟩⟩⟩⟩)⟩)⟩)⟩)))))) (fun h92 k159=>Exists.elim k159 (fun I125 h155_=>Exists.elim h155_ (fun μ126 h155=>⟨I125,μ126,⟨(y90.1,a.2.2.1,y90.2.2),⟨(cI (gl aB y90.2.2) (Rds.self (enc:=aB))),⟨rfl,⟨rfl,slQ (Rds.self (enc:=aB)) (h155.1)⟩⟩⟩⟩,fun y127 h157=>br (h155.2 y127 h157) Cnd.dec (fun h128 k153=>wrapK.i64 k153 (fun h149 h150 k151=>wrapK.i64 k151 (fun h146 h147 k148=>chk k148.2.2 Cnd.ix ⟨k148.1,k148.2.1⟩ (fun h132 k145=>⟨rfl,chk k145.2.2 Cnd.ix ⟨k145.1,k145.2.1⟩ (fun h133 k144=>⟨rfl,chk k144.2.2 Cnd.ix ⟨k144.1,k144.2.1⟩ (fun h134 k143=>⟨rfl,chk k143.2.2 Cnd.ix ⟨k143.1,k143.2.1⟩ (fun h135 k142=>⟨rfl,wrapK.i64 k142 (fun h139 h140 k141=>⟨(y127.1,(y127.2.1 - (1:Int)),List.set (List.set y127.2.2 (Int.toNat y127.2.1) (((at_ y127.2.2 (y127.2.1 - (1:Int))).1),(at_ y127.2.2 (y127.2.1 - (1:Int))).2.1,(at_ y127.2.2 (y127.2.1 - (1:Int))).2.2.1,(at_ y127.2.2 (y127.2.1 - (1:Int))).2.2.2)) (Int.toNat (y127.2.1 - (1:Int))) (((at_ y127.2.2 y127.2.1).1),(at_ y127.2.2 y127.2.1).2.1,(at_ y127.2.2 y127.2.1).2.2.1,(at_ y127.2.2 y127.2.1).2.2.2)),⟨(cI (gset (gset (gl aB y127.2.2) (Int.toNat y127.2.1) [.str (((at_ y127.2.2 (y127.2.1 - (1:Int))).1).1),.str (((at_ y127.2.2 (y127.2.1 - (1:Int))).1).2.1),.int .i64 (((at_ y127.2.2 (y127.2.1 - (1:Int))).1).2.2.1),.int .i64 ((((at_ y127.2.2 (y127.2.1 - (1:Int))).1).2.2.2.1).1),.int .i64 ((((at_ y127.2.2 (y127.2.1 - (1:Int))).1).2.2.2.1).2.1),.int .i64 ((((at_ y127.2.2 (y127.2.1 - (1:Int))).1).2.2.2.1).2.2),.slice .ro 2 ((((at_ y127.2.2 (y127.2.1 - (1:Int))).1).2.2.2.2.1).length) (gl aE (((at_ y127.2.2 (y127.2.1 - (1:Int))).1).2.2.2.2.1)),.str (((at_ y127.2.2 (y127.2.1 - (1:Int))).1).2.2.2.2.2.1),.str (((at_ y127.2.2 (y127.2.1 - (1:Int))).1).2.2.2.2.2.2.1),.int .i64 (((at_ y127.2.2 (y127.2.1 - (1:Int))).1).2.2.2.2.2.2.2),.int .i64 ((at_ y127.2.2 (y127.2.1 - (1:Int))).2.1),.str ((at_ y127.2.2 (y127.2.1 - (1:Int))).2.2.1),.int .i64 ((at_ y127.2.2 (y127.2.1 - (1:Int))).2.2.2)]) (Int.toNat (y127.2.1 - (1:Int))) [.str (((at_ y127.2.2 y127.2.1).1).1),.str (((at_ y127.2.2 y127.2.1).1).2.1),.int .i64 (((at_ y127.2.2 y127.2.1).1).2.2.1),.int .i64 ((((at_ y127.2.2 y127.2.1).1).2.2.2.1).1),.int .i64 ((((at_ y127.2.2 y127.2.1).1).2.2.2.1).2.1),.int .i64 ((((at_ y127.2.2 y127.2.1).1).2.2.2.1).2.2),.slice .ro 2 ((((at_ y127.2.2 y127.2.1).1).2.2.2.2.1).length) (gl aE (((at_ y127.2.2 y127.2.1).1).2.2.2.2.1)),.str (((at_ y127.2.2 y127.2.1).1).2.2.2.2.2.1),.str (((at_ y127.2.2 y127.2.1).1).2.2.2.2.2.2.1),.int .i64 (((at_ y127.2.2 y127.2.1).1).2.2.2.2.2.2.2),.int .i64 ((at_ y127.2.2 y127.2.1).2.1),.str ((at_ y127.2.2 y127.2.1).2.2.1),.int .i64 ((at_ y127.2.2 y127.2.1).2.2.2)]) (Rds.gset (enc:=aB) (Rds.gset (enc:=aB) (Rds.self (enc:=aB)) (DEqs.refl _)) (DEqs.refl _))),⟨rfl,⟨rfl,slQ (Rds.gset (enc:=aB) (Rds.gset (enc:=aB) (Rds.self (enc:=aB)) (DEqs.refl _)) (DEqs.refl _)) (k141)⟩⟩⟩⟩)⟩)⟩)⟩)⟩)))) (fun h129 k154=>slQ (Rds.to (Rds.self (enc:=aB)) k154) (trivial))⟩)))⟩))) (fun h86 k299=>wrapK.i64 k299 (fun h295 h296 k297=>wrapK.u64 k297 (fun h292 h293 k294=>aDN (by decide) (wrapK.i64 k294 (fun h289 h290 k291=>wrapK.i64 k291 (fun h286 h287 k288=>Exists.elim k288 (fun I168 h181=>⟨I168,br h181.1 Cnd.dec (fun h169 k177=>wrapK.i64 k177 (fun h173 h174 k175=>⟨(((a.2.1+a.2.2.2) / 2),(((a.2.1+a.2.2.2) / 2)+a.2.2.1),((((a.2.1+a.2.2.2) / 2)+a.2.2.1) - a.2.2.2),((a.2.1+a.2.2.2) / 2),a.1),⟨(cI (gl aB a.1) (Rds.self (enc:=aB))),⟨rfl,⟨rfl,⟨rfl,⟨(DEqs.refl _),⟨rfl,⟨rfl,⟨rfl,⟨rfl,slQ (Rds.self (enc:=aB)) (k175)⟩⟩⟩⟩⟩⟩⟩⟩⟩⟩)) (fun h170 k178=>⟨(((a.2.1+a.2.2.2) / 2),(((a.2.1+a.2.2.2) / 2)+a.2.2.1),a.2.1,a.2.2.1,a.1),⟨(cI (gl aB a.1) (Rds.self (enc:=aB))),⟨rfl,⟨rfl,⟨rfl,⟨(DEqs.refl _),⟨rfl,⟨rfl,⟨rfl,⟨rfl,slQ (Rds.self (enc:=aB)) (k178)⟩⟩⟩⟩⟩⟩⟩⟩⟩⟩),fun y179 h180=>wrapK.i64 (h181.2 y179 h180) (fun h283 h284 k285=>Exists.elim k285 (fun I184 h280_=>Exists.elim h280_ (fun μ185 h280=>⟨I184,μ185,⟨(y179.1,y179.2.1,y179.2.2.1,y179.2.2.2.1,(y179.2.1 - (1:Int)),y179.2.2.2.2),⟨(cI (gl aB y179.2.2.2.2) (Rds.self (enc:=aB))),⟨rfl,⟨rfl,⟨rfl,⟨(DEqs.refl _),⟨rfl,⟨rfl,⟨rfl,⟨rfl,⟨rfl,slQ (Rds.self (enc:=aB)) (h280.1)⟩⟩⟩⟩⟩⟩⟩⟩⟩⟩⟩,fun y186 h282=>br (h280.2 y186 h282) Cnd.dec (fun h187 k278=>wrapK.i64 k278 (fun h221 h222 k223=>wrapK.u64 k223 (fun h218 h219 k220=>aDN (by decide) (wrapK.i64 k220 (fun h215 h216 k217=>wrapK.i64 k217 (fun h212 h213 k214=>chk k214.2.2 Cnd.ix ⟨k214.1,k214.2.1⟩ (fun h194 k211=>⟨rfl,chk k211.2.2 Cnd.ix ⟨k211.1,k211.2.1⟩ (fun h195 k210=>⟨rfl,(f255.ei ⟨trivial,br k210 (Cnd.not Cnd.dec) (fun h197 k207=>wrapK.i64 k207 (fun h202 h203 k204=>⟨(y186.1,y186.2.1,(((y186.2.2.1+y186.2.2.2.1) / 2)+(1:Int)),y186.2.2.2.1,y186.2.2.2.2.1,y186.2.2.2.2.2),⟨(cI (gl aB y186.2.2.2.2.2) (Rds.self (enc:=aB))),⟨rfl,⟨rfl,⟨rfl,⟨(DEqs.refl _),⟨rfl,⟨rfl,⟨rfl,⟨rfl,⟨rfl,slQ (Rds.self (enc:=aB)) (k204)⟩⟩⟩⟩⟩⟩⟩⟩⟩⟩⟩)) (fun h198 k208=>⟨(y186.1,y186.2.1,y186.2.2.1,((y186.2.2.1+y186.2.2.2.1) / 2),y186.2.2.2.2.1,y186.2.2.2.2.2),⟨(cI (gl aB y186.2.2.2.2.2) (Rds.self (enc:=aB))),⟨rfl,⟨rfl,⟨rfl,⟨(DEqs.refl _),⟨rfl,⟨rfl,⟨rfl,⟨rfl,⟨rfl,slQ (Rds.self (enc:=aB)) (k208)⟩⟩⟩⟩⟩⟩⟩⟩⟩⟩⟩)⟩)⟩)⟩))))))) (fun h188 k279=>wrapK.i64 k279 (fun h275 h276 k277=>Exists.elim k277 (fun I225 h242=>⟨I225,br h242.1 Cnd.dec (fun h226 k238=>br k238 Cnd.dec (fun h228 k235=>⟨rfl,⟨(y186.2.2.2.2.2,y186.2.2.1,a.2.2.1,(y186.2.1 - y186.2.2.1)),⟨(cI (gl aB y186.2.2.2.2.2) (Rds.self (enc:=aB))),⟨rfl,⟨rfl,⟨rfl,⟨(DEqs.refl _),slQ (Rds.self (enc:=aB)) (⟨k235.1,tG k235.2 (fun (h231:(List.length (p8 (y186.2.2.2.2.2,y186.2.2.1,a.2.2.1,(y186.2.1 - y186.2.2.1))))=(List.length y186.2.2.2.2.2)) hk=>⟨(y186.1,y186.2.2.1,(y186.2.1 - y186.2.2.1),(p8 (y186.2.2.2.2.2,y186.2.2.1,a.2.2.1,(y186.2.1 - y186.2.2.1)))),⟨((h231).symm.trans (cI (gl aB (p8 (y186.2.2.2.2.2,y186.2.2.1,a.2.2.1,(y186.2.1 - y186.2.2.1)))) (Rds.self (enc:=aB)))),⟨rfl,⟨rfl,⟨(DEqs.refl _),⟨rfl,⟨rfl,⟨rfl,slQ (Rds.self (enc:=aB)) (hk)⟩⟩⟩⟩⟩⟩⟩⟩)⟩)⟩⟩⟩⟩⟩⟩⟩) (fun h229 k236=>⟨(y186.1,y186.2.2.1,(y186.2.1 - y186.2.2.1),y186.2.2.2.2.2),⟨(cI (gl aB y186.2.2.2.2.2) (Rds.self (enc:=aB))),⟨rfl,⟨rfl,⟨(DEqs.refl _),⟨rfl,⟨rfl,⟨rfl,slQ (Rds.self (enc:=aB)) (k236)⟩⟩⟩⟩⟩⟩⟩⟩)) (fun h227 k239=>⟨(y186.1,y186.2.2.1,(y186.2.1 - y186.2.2.1),y186.2.2.2.2.2),⟨(cI (gl aB y186.2.2.2.2.2) (Rds.self (enc:=aB))),⟨rfl,⟨rfl,⟨(DEqs.refl _),⟨rfl,⟨rfl,⟨rfl,slQ (Rds.self (enc:=aB)) (k239)⟩⟩⟩⟩⟩⟩⟩⟩),fun y240 h241=>Exists.elim (h242.2 y240 h241) (fun I243 h260=>⟨I243,br h260.1 Cnd.dec (fun h244 k256=>br k256 Cnd.dec (fun h246 k253=>⟨rfl,⟨(y240.2.2.2,a.2.1,y240.2.1,y240.1),⟨(cI (gl aB y240.2.2.2) (Rds.self (enc:=aB))),⟨rfl,⟨rfl,⟨rfl,⟨(DEqs.refl _),slQ (Rds.self (enc:=aB)) (⟨k253.1,tG k253.2 (fun (h249:(List.length (dR (y240.2.2.2,a.2.1,y240.2.1,y240.1)))=(List.length y240.2.2.2)) hk=>⟨(y240.1,y240.2.2.1,(dR (y240.2.2.2,a.2.1,y240.2.1,y240.1))),⟨((h249).symm.trans (cI (gl aB (dR (y240.2.2.2,a.2.1,y240.2.1,y240.1))) (Rds.self (enc:=aB)))),⟨rfl,⟨(DEqs.refl _),⟨rfl,⟨rfl,slQ (Rds.self (enc:=aB)) (hk)⟩⟩⟩⟩⟩⟩)⟩)⟩⟩⟩⟩⟩⟩⟩) (fun h247 k254=>⟨(y240.1,y240.2.2.1,y240.2.2.2),⟨(cI (gl aB y240.2.2.2) (Rds.self (enc:=aB))),⟨rfl,⟨(DEqs.refl _),⟨rfl,⟨rfl,slQ (Rds.self (enc:=aB)) (k254)⟩⟩⟩⟩⟩⟩)) (fun h245 k257=>⟨(y240.1,y240.2.2.1,y240.2.2.2),⟨(cI (gl aB y240.2.2.2) (Rds.self (enc:=aB))),⟨rfl,⟨(DEqs.refl _),⟨rfl,⟨rfl,slQ (Rds.self (enc:=aB)) (k257)⟩⟩⟩⟩⟩⟩),fun y258 h259=>br (h260.2 y258 h259) Cnd.dec (fun h261 k273=>br k273 Cnd.dec (fun h263 k270=>⟨rfl,⟨(y258.2.2,y258.1,y258.2.1,a.2.2.2),⟨(cI (gl aB y258.2.2) (Rds.self (enc:=aB))),⟨rfl,⟨rfl,⟨rfl,⟨(DEqs.refl _),slQ (Rds.self (enc:=aB)) (⟨k270.1,tG k270.2 (fun (h266:(List.length (dR (y258.2.2,y258.1,y258.2.1,a.2.2.2)))=(List.length y258.2.2)) hk=>slQ (Rds.to (Rds.self (enc:=aB)) hk) (trivial))⟩)⟩⟩⟩⟩⟩⟩⟩) (fun h264 k271=>slQ (Rds.to (Rds.self (enc:=aB)) k271) (trivial))) (fun h262 k274=>slQ (Rds.to (Rds.self (enc:=aB)) k274) (trivial))⟩)⟩)))⟩)))⟩))))))))))
theorem f258.eq (a:(List (aA))×Int×Int×Int) (n:Nat):(f258.af a).gives (f258.env n) (f258.args a) (f258.blks a) (f258.res a) (f258.blks' a)=f258.tree a n:=by kernel_rfl
end Go.Abs

-- slices.swapRangeCmpFunc[interregnum/api.Job]
namespace Go.Abs
open Go
def f260.args (a:(List (aA))×Int×Int×Int):List D:=[.msl 0 13 (List.length a.1),.int .i64 a.2.1,.int .i64 a.2.2.1,.int .i64 a.2.2.2,.fn 255 []]
def f260.blks (a:(List (aA))×Int×Int×Int):List (List D):=[[.dead,.arr false 13 (List.length a.1) (gl aB a.1)]]
def f260.res (a:(List (aA))×Int×Int×Int):List D:=[]
def f260.blks' (a:(List (aA))×Int×Int×Int):List (List D):=[[.dead,.arr false 13 (List.length (dC a)) (gl aB (dC a))]]
def f260.C:aM:=FnC f260.args f260.blks (fun a=>f6 a) f260.res f260.blks'
end Go.Abs

/- slices.rotateCmpFunc[interregnum/api.Job] -/
namespace Go.Abs
open Go
set_option linter.unusedVariables false
def f259.S0 (a:(List (aA))×Int×Int×Int) (x:Int×Int×(List (aA))):Tm:=⟨[.msl 0 13 (List.length x.2.2),.dead,.int .i64 a.2.2.1,.dead,.fn 255 [],.dead,.dead,.dead,.dead,.dead,.int .i64 x.1,.int .i64 x.2.1,.dead,.dead,.dead,.dead,.dead,.dead,.dead,.dead,.dead,.dead,.dead,.dead,.dead,.dead,.dead,.dead,.dead,.dead,.dead,.dead,.dead,.dead,.dead,.dead,.dead,.dead,.dead,.dead,.dead,.dead,.dead,.dead,.dead,.dead,.dead,.dead,.dead,.dead,.dead,.dead,.dead,.dead,.dead,.dead,.dead,.dead],[(0,false,[.dead,.arr false 13 (List.length x.2.2) (gl aB x.2.2)])],[]⟩
def f259.kills (a:(List (aA))×Int×Int×Int):List cB:=[.tell (Int×Int×(List (aA))) (f259.S0 a)]
def f259.cuts (a:(List (aA))×Int×Int×Int):List (Nat×Σ β:Type,β→Tm):=[(999999,⟨Unit,fun x=>⟨[],[],[]⟩⟩)]
def f259.af (a:(List (aA))×Int×Int×Int):AF:=AF.mk (.seq (.region [oT 12 1000000 .move [2],
 oT 13 1000001 .move [1],
 oT 14 1000002 (.bin .sub) [12,13],
 oT 10 1000003 .move [14]])
 (.seq (.region [oT 15 1000004 .move [3],
 oT 16 1000005 .move [2],
 oT 17 1000006 (.bin .sub) [15,16],
 oT 11 1000007 .move [17]])
 (.seq (.block 0 (.loopT (Int×Int×(List (aA))) (f259.S0 a) 1000008 1000048 (.seq (.seq (.region [oT 18 1000008 .move [10],
 oT 19 1000009 .move [11],
 oT 20 1000010 (.bin .neq) [18,19]])
 (.cond (.t 20) (.skip) (.exit 0)))
 (.block 1 (.seq (.region [oT 21 1000011 .move [10],
 oT 22 1000012 .move [11],
 oT 23 1000013 (.bin .gtr) [21,22]])
 (.cond (.t 23) (.seq (.region [oT 24 1000014 .move [0],
 oT 25 1000015 .move [2],
 oT 26 1000016 .move [10],
 oT 27 1000017 (.bin .sub) [25,26],
 oT 28 1000018 .move [2],
 oT 29 1000019 .move [11],
 oT 30 1000020 .move [4],
 oT 31 1000021 (.call true 260) [24,27,28,29,30]])
 (.region [oT 32 1000025 .move [10],
 oT 33 1000026 .move [11],
 oT 34 1000027 (.bin .sub) [32,33],
 oT 10 1000028 .move [34]])) (.seq (.region [oT 35 1000029 .move [0],
 oT 36 1000030 .move [2],
 oT 37 1000031 .move [10],
 oT 38 1000032 (.bin .sub) [36,37],
 oT 39 1000033 .move [2],
 oT 40 1000034 .move [11],
 oT 41 1000035 (.bin .add) [39,40],
 oT 42 1000036 .move [10],
 oT 43 1000037 (.bin .sub) [41,42],
 oT 44 1000038 .move [10],
 oT 45 1000039 .move [4],
 oT 46 1000040 (.call true 260) [35,38,43,44,45]])
 (.region [oT 47 1000044 .move [11],
 oT 48 1000045 .move [10],
 oT 49 1000046 (.bin .sub) [47,48],
 oT 11 1000047 .move [49]]))))))))
 (.region [oT 50 1000048 .move [0],
 oT 51 1000049 .move [2],
 oT 52 1000050 .move [10],
 oT 53 1000051 (.bin .sub) [51,52],
 oT 54 1000052 .move [2],
 oT 55 1000053 .move [10],
 oT 56 1000054 .move [4],
 oT 57 1000055 (.call true 260) [50,53,54,55,56]]))))
 [] 1 53
def f259.env:Env:=[(260,f260.C)]
def f259.tree (a:(List (aA))×Int×Int×Int):Prop:=Let (IntKind.i64.wrap (a.2.2.1 - a.2.1)) (fun v1:Int=>Let (IntKind.i64.wrap (a.2.2.2 - a.2.2.1)) (fun v2:Int=>∃ (I4:(Int×Int×(List (aA)))→Prop) (μ5:(Int×Int×(List (aA)))→Nat),(∃ x3:Int×Int×(List (aA)),((List.length a.1)=(List.length x3.2.2))∧(a.2.2.1=a.2.2.1)∧(DEqs [] [])∧(v1=x3.1)∧(v2=x3.2.1)∧SlQ (List.length a.1) (List.length x3.2.2) (gl aB a.1) (gl aB x3.2.2) (I4 x3))∧∀ y6:Int×Int×(List (aA)),I4 y6→(Br (y6.1 != y6.2.1) (Br (decide (y6.2.1 < y6.1)) (Let (IntKind.i64.wrap (a.2.2.1 - y6.1)) (fun v11:Int=>((List.length y6.2.2)=(List.length y6.2.2))∧∃ c12:(List (aA))×Int×Int×Int,((List.length y6.2.2)=List.length c12.1)∧(v11=c12.2.1)∧(a.2.2.1=c12.2.2.1)∧(y6.2.1=c12.2.2.2)∧(DEqs [] [])∧SlQ (List.length y6.2.2) (List.length c12.1) (gl aB y6.2.2) (gl aB c12.1) ((f6 c12)∧Let (IntKind.i64.wrap (y6.1 - y6.2.1)) (fun v14:Int=>∃ x15:Int×Int×(List (aA)),((List.length y6.2.2)=(List.length x15.2.2))∧(a.2.2.1=a.2.2.1)∧(DEqs [] [])∧(v14=x15.1)∧(y6.2.1=x15.2.1)∧SlQ (List.length (dC c12)) (List.length x15.2.2) (gl aB (dC c12)) (gl aB x15.2.2) (I4 x15∧μ5 x15 < μ5 y6))))) (Let (IntKind.i64.wrap (a.2.2.1 - y6.1)) (fun v24:Int=>Let (IntKind.i64.wrap (a.2.2.1+y6.2.1)) (fun v25:Int=>Let (IntKind.i64.wrap (v25 - y6.1)) (fun v26:Int=>((List.length y6.2.2)=(List.length y6.2.2))∧∃ c27:(List (aA))×Int×Int×Int,((List.length y6.2.2)=List.length c27.1)∧(v24=c27.2.1)∧(v26=c27.2.2.1)∧(y6.1=c27.2.2.2)∧(DEqs [] [])∧SlQ (List.length y6.2.2) (List.length c27.1) (gl aB y6.2.2) (gl aB c27.1) ((f6 c27)∧Let (IntKind.i64.wrap (y6.2.1 - y6.1)) (fun v29:Int=>∃ x30:Int×Int×(List (aA)),((List.length y6.2.2)=(List.length x30.2.2))∧(a.2.2.1=a.2.2.1)∧(DEqs [] [])∧(y6.1=x30.1)∧(v29=x30.2.1)∧SlQ (List.length (dC c27)) (List.length x30.2.2) (gl aB (dC c27)) (gl aB x30.2.2) (I4 x30∧μ5 x30 < μ5 y6)))))))) (Let (IntKind.i64.wrap (a.2.2.1 - y6.1)) (fun v47:Int=>((List.length y6.2.2)=(List.length y6.2.2))∧∃ c48:(List (aA))×Int×Int×Int,((List.length y6.2.2)=List.length c48.1)∧(v47=c48.2.1)∧(a.2.2.1=c48.2.2.1)∧(y6.1=c48.2.2.2)∧(DEqs [] [])∧SlQ (List.length y6.2.2) (List.length c48.1) (gl aB y6.2.2) (gl aB c48.1) ((f6 c48)∧SlQ (List.length (dC c48)) (List.length (p8 a)) (gl aB (dC c48)) (gl aB (p8 a)) (True)))))))
def f259.vc (a:(List (aA))×Int×Int×Int):Prop:=(-9223372036854775808≤(a.2.2.1 - a.2.1)∧(a.2.2.1 - a.2.1)≤9223372036854775807∧(-9223372036854775808≤(a.2.2.2 - a.2.2.1)∧(a.2.2.2 - a.2.2.1)≤9223372036854775807∧(∃ (I4:(Int×Int×(List (aA)))→Prop) (μ5:(Int×Int×(List (aA)))→Nat),I4 ((a.2.2.1 - a.2.1),(a.2.2.2 - a.2.2.1),a.1)∧∀ y6:Int×Int×(List (aA)),I4 y6→((¬y6.1=y6.2.1→((y6.2.1 < y6.1→(-9223372036854775808≤(a.2.2.1 - y6.1)∧(a.2.2.1 - y6.1)≤9223372036854775807∧(f6 (y6.2.2,(a.2.2.1 - y6.1),a.2.2.1,y6.2.1)∧((List.length (dC (y6.2.2,(a.2.2.1 - y6.1),a.2.2.1,y6.2.1)))=(List.length y6.2.2)∧(-9223372036854775808≤(y6.1 - y6.2.1)∧(y6.1 - y6.2.1)≤9223372036854775807∧(I4 ((y6.1 - y6.2.1),y6.2.1,(dC (y6.2.2,(a.2.2.1 - y6.1),a.2.2.1,y6.2.1)))∧μ5 ((y6.1 - y6.2.1),y6.2.1,(dC (y6.2.2,(a.2.2.1 - y6.1),a.2.2.1,y6.2.1))) < μ5 y6))))))∧(¬(y6.2.1 < y6.1)→(-9223372036854775808≤(a.2.2.1 - y6.1)∧(a.2.2.1 - y6.1)≤9223372036854775807∧(-9223372036854775808≤(a.2.2.1+y6.2.1)∧(a.2.2.1+y6.2.1)≤9223372036854775807∧(-9223372036854775808≤((a.2.2.1+y6.2.1) - y6.1)∧((a.2.2.1+y6.2.1) - y6.1)≤9223372036854775807∧(f6 (y6.2.2,(a.2.2.1 - y6.1),((a.2.2.1+y6.2.1) - y6.1),y6.1)∧((List.length (dC (y6.2.2,(a.2.2.1 - y6.1),((a.2.2.1+y6.2.1) - y6.1),y6.1)))=(List.length y6.2.2)∧(-9223372036854775808≤(y6.2.1 - y6.1)∧(y6.2.1 - y6.1)≤9223372036854775807∧(I4 (y6.1,(y6.2.1 - y6.1),(dC (y6.2.2,(a.2.2.1 - y6.1),((a.2.2.1+y6.2.1) - y6.1),y6.1)))∧μ5 (y6.1,(y6.2.1 - y6.1),(dC (y6.2.2,(a.2.2.1 - y6.1),((a.2.2.1+y6.2.1) - y6.1),y6.1))) < μ5 y6))))))))))∧(¬(¬y6.1=y6.2.1)→(-9223372036854775808≤(a.2.2.1 - y6.1)∧(a.2.2.1 - y6.1)≤9223372036854775807∧(f6 (y6.2.2,(a.2.2.1 - y6.1),a.2.2.1,y6.1)∧((List.length (dC (y6.2.2,(a.2.2.1 - y6.1),a.2.2.1,y6.1)))=(List.length y6.2.2)∧((dC (y6.2.2,(a.2.2.1 - y6.1),a.2.2.1,y6.1))=p8 a)))))))))
set_option maxRecDepth 100000 in
set_option maxHeartbeats 2000000 in
theorem f259.of (a:(List (aA))×Int×Int×Int) (h:f259.vc a):f259.tree a:=wrapK.i64 h (fun h63 h64 k65=>wrapK.i64 k65 (fun h60 h61 k62=>Exists.elim k62 (fun I4 h57_=>Exists.elim h57_ (fun μ5 h57=>⟨I4,μ5,⟨((a.2.2.1 - a.2.1),(a.2.2.2 - a.2.2.1),a.1),⟨(cI (gl aB a.1) (Rds.self (enc:=aB))),⟨rfl,⟨(DEqs.refl _),⟨rfl,⟨rfl,slQ (Rds.self (enc:=aB)) (h57.1)⟩⟩⟩⟩⟩⟩,fun y6 h59=>br (h57.2 y6 h59) Cnd.ne (fun h7 k55=>br k55 Cnd.dec (fun h9 k45=>wrapK.i64 k45 (fun h21 h22 k23=>⟨rfl,⟨(y6.2.2,(a.2.2.1 - y6.1),a.2.2.1,y6.2.1),⟨(cI (gl aB y6.2.2) (Rds.self (enc:=aB))),⟨rfl,⟨rfl,⟨rfl,⟨(DEqs.refl _),slQ (Rds.self (enc:=aB)) (⟨k23.1,tG k23.2 (fun (h13:(List.length (dC (y6.2.2,(a.2.2.1 - y6.1),a.2.2.1,y6.2.1)))=(List.length y6.2.2)) hk=>wrapK.i64 hk (fun h17 h18 k19=>⟨((y6.1 - y6.2.1),y6.2.1,(dC (y6.2.2,(a.2.2.1 - y6.1),a.2.2.1,y6.2.1))),⟨((h13).symm.trans (cI (gl aB (dC (y6.2.2,(a.2.2.1 - y6.1),a.2.2.1,y6.2.1))) (Rds.self (enc:=aB)))),⟨rfl,⟨(DEqs.refl _),⟨rfl,⟨rfl,slQ (Rds.self (enc:=aB)) (k19)⟩⟩⟩⟩⟩⟩))⟩)⟩⟩⟩⟩⟩⟩⟩)) (fun h10 k46=>wrapK.i64 k46 (fun h42 h43 k44=>wrapK.i64 k44 (fun h39 h40 k41=>wrapK.i64 k41 (fun h36 h37 k38=>⟨rfl,⟨(y6.2.2,(a.2.2.1 - y6.1),((a.2.2.1+y6.2.1) - y6.1),y6.1),⟨(cI (gl aB y6.2.2) (Rds.self (enc:=aB))),⟨rfl,⟨rfl,⟨rfl,⟨(DEqs.refl _),slQ (Rds.self (enc:=aB)) (⟨k38.1,tG k38.2 (fun (h28:(List.length (dC (y6.2.2,(a.2.2.1 - y6.1),((a.2.2.1+y6.2.1) - y6.1),y6.1)))=(List.length y6.2.2)) hk=>wrapK.i64 hk (fun h32 h33 k34=>⟨(y6.1,(y6.2.1 - y6.1),(dC (y6.2.2,(a.2.2.1 - y6.1),((a.2.2.1+y6.2.1) - y6.1),y6.1))),⟨((h28).symm.trans (cI (gl aB (dC (y6.2.2,(a.2.2.1 - y6.1),((a.2.2.1+y6.2.1) - y6.1),y6.1))) (Rds.self (enc:=aB)))),⟨rfl,⟨(DEqs.refl _),⟨rfl,⟨rfl,slQ (Rds.self (enc:=aB)) (k34)⟩⟩⟩⟩⟩⟩))⟩)⟩⟩⟩⟩⟩⟩⟩))))) (fun h8 k56=>wrapK.i64 k56 (fun h52 h53 k54=>⟨rfl,⟨(y6.2.2,(a.2.2.1 - y6.1),a.2.2.1,y6.1),⟨(cI (gl aB y6.2.2) (Rds.self (enc:=aB))),⟨rfl,⟨rfl,⟨rfl,⟨(DEqs.refl _),slQ (Rds.self (enc:=aB)) (⟨k54.1,tG k54.2 (fun (h49:(List.length (dC (y6.2.2,(a.2.2.1 - y6.1),a.2.2.1,y6.1)))=(List.length y6.2.2)) hk=>slQ (Rds.to (Rds.self (enc:=aB)) hk) (trivial))⟩)⟩⟩⟩⟩⟩⟩⟩))⟩))))
theorem f259.eq (a:(List (aA))×Int×Int×Int):(f259.af a).gives f259.env (f259.args a) (f259.blks a) (f259.res a) (f259.blks' a)=f259.tree a:=by kernel_rfl
end Go.Abs

/- slices.swapRangeCmpFunc[interregnum/api.Job] -/
namespace Go.Abs
open Go
set_option linter.unusedVariables false
def f260.S0 (a:(List (aA))×Int×Int×Int) (x:Int×(List (aA))):Tm:=⟨[.msl 0 13 (List.length x.2),.int .i64 a.2.1,.int .i64 a.2.2.1,.int .i64 a.2.2.2,.dead,.dead,.dead,.dead,.dead,.dead,.int .i64 x.1,.dead,.dead,.dead,.dead,.dead,.dead,.dead,.dead,.dead,.dead,.dead,.dead,.dead,.dead,.dead,.dead,.dead,.dead,.dead,.dead,.dead,.dead,.dead,.dead,.dead,.dead,.dead],[(0,false,[.dead,.arr false 13 (List.length x.2) (gl aB x.2)])],[]⟩
def f260.kills (a:(List (aA))×Int×Int×Int):List cB:=[.tell (Int×(List (aA))) (f260.S0 a)]
def f260.cuts (a:(List (aA))×Int×Int×Int):List (Nat×Σ β:Type,β→Tm):=[(999999,⟨Unit,fun x=>⟨[],[],[]⟩⟩)]
def f260.af (a:(List (aA))×Int×Int×Int):AF:=AF.mk (.seq (.region [⟨(some 10),1000000,.move,[.c (.int .i64 (0))],none⟩])
 (.block 0 (.loopT (Int×(List (aA))) (f260.S0 a) 1000001 1000031 (.seq (.seq (.region [oT 11 1000001 .move [10],
 oT 12 1000002 .move [3],
 oT 13 1000003 (.bin .lss) [11,12]])
 (.cond (.t 13) (.skip) (.exit 0)))
 (.seq (.block 1 (.region [oT 16 1000004 .move [0],
 oT 17 1000005 .move [1],
 oT 18 1000006 .move [10],
 oT 19 1000007 (.bin .add) [17,18],
 oT 20 1000008 .move [0],
 oT 21 1000009 .move [2],
 oT 22 1000010 .move [10],
 oT 23 1000011 (.bin .add) [21,22],
 oT 24 1000012 .move [0],
 oT 25 1000013 .move [2],
 oT 26 1000014 .move [10],
 oT 27 1000015 (.bin .add) [25,26],
 oT 28 1000016 (.indexAddr 13 none) [24,27],
 oT 29 1000017 (.load true 13) [28],
 oT 30 1000018 .move [0],
 oT 31 1000019 .move [1],
 oT 32 1000020 .move [10],
 oT 33 1000021 (.bin .add) [31,32],
 oT 34 1000022 (.indexAddr 13 none) [30,33],
 oT 35 1000023 (.load true 13) [34],
 oT 36 1000024 (.indexAddr 13 none) [16,19],
 ⟨none,1000025,(.store 13),[.t 36,.t 29],none⟩,
 oT 37 1000026 (.indexAddr 13 none) [20,23],
 ⟨none,1000027,(.store 13),[.t 37,.t 35],none⟩]))
 (.region [oT 14 1000028 .move [10],
 ⟨(some 15),1000029,(.bin .add),[.t 14,.c (.int .i64 (1))],none⟩,
 oT 10 1000030 .move [15]]))))))
 [] 1 33
def f260.env:Env:=[]
def f260.tree (a:(List (aA))×Int×Int×Int):Prop:=∃ (I2:(Int×(List (aA)))→Prop) (μ3:(Int×(List (aA)))→Nat),(∃ x1:Int×(List (aA)),((List.length a.1)=(List.length x1.2))∧(a.2.1=a.2.1)∧(a.2.2.1=a.2.2.1)∧(a.2.2.2=a.2.2.2)∧((0:Int)=x1.1)∧SlQ (List.length a.1) (List.length x1.2) (gl aB a.1) (gl aB x1.2) (I2 x1))∧∀ y4:Int×(List (aA)),I2 y4→(Br (decide (y4.1 < a.2.2.2)) (Let (IntKind.i64.wrap (a.2.1+y4.1)) (fun v7:Int=>Let (IntKind.i64.wrap (a.2.2.1+y4.1)) (fun v8:Int=>Let (IntKind.i64.wrap (a.2.2.1+y4.1)) (fun v9:Int=>Br (decide ((0:Int)≤v9)&&decide (v9 < (List.length y4.2:Int))) (((List.length y4.2)=(List.length y4.2))∧(Let (IntKind.i64.wrap (a.2.1+y4.1)) (fun v11:Int=>Br (decide ((0:Int)≤v11)&&decide (v11 < (List.length y4.2:Int))) (((List.length y4.2)=(List.length y4.2))∧(Br (decide ((0:Int)≤v7)&&decide (v7 < (List.length y4.2:Int))) (((List.length y4.2)=(List.length y4.2))∧(Br (decide ((0:Int)≤v8)&&decide (v8 < (List.length y4.2:Int))) (((List.length y4.2)=(List.length y4.2))∧(Let (IntKind.i64.wrap (y4.1+(1:Int))) (fun v15:Int=>∃ x16:Int×(List (aA)),((List.length y4.2)=(List.length x16.2))∧(a.2.1=a.2.1)∧(a.2.2.1=a.2.2.1)∧(a.2.2.2=a.2.2.2)∧(v15=x16.1)∧SlQ (List.length y4.2) (List.length x16.2) (gset (gset (gl aB y4.2) (Int.toNat v7) [.str (((at_ y4.2 v9).1).1),.str (((at_ y4.2 v9).1).2.1),.int .i64 (((at_ y4.2 v9).1).2.2.1),.int .i64 ((((at_ y4.2 v9).1).2.2.2.1).1),.int .i64 ((((at_ y4.2 v9).1).2.2.2.1).2.1),.int .i64 ((((at_ y4.2 v9).1).2.2.2.1).2.2),.slice .ro 2 ((((at_ y4.2 v9).1).2.2.2.2.1).length) (gl aE (((at_ y4.2 v9).1).2.2.2.2.1)),.str (((at_ y4.2 v9).1).2.2.2.2.2.1),.str (((at_ y4.2 v9).1).2.2.2.2.2.2.1),.int .i64 (((at_ y4.2 v9).1).2.2.2.2.2.2.2),.int .i64 ((at_ y4.2 v9).2.1),.str ((at_ y4.2 v9).2.2.1),.int .i64 ((at_ y4.2 v9).2.2.2)]) (Int.toNat v8) [.str (((at_ y4.2 v11).1).1),.str (((at_ y4.2 v11).1).2.1),.int .i64 (((at_ y4.2 v11).1).2.2.1),.int .i64 ((((at_ y4.2 v11).1).2.2.2.1).1),.int .i64 ((((at_ y4.2 v11).1).2.2.2.1).2.1),.int .i64 ((((at_ y4.2 v11).1).2.2.2.1).2.2),.slice .ro 2 ((((at_ y4.2 v11).1).2.2.2.2.1).length) (gl aE (((at_ y4.2 v11).1).2.2.2.2.1)),.str (((at_ y4.2 v11).1).2.2.2.2.2.1),.str (((at_ y4.2 v11).1).2.2.2.2.2.2.1),.int .i64 (((at_ y4.2 v11).1).2.2.2.2.2.2.2),.int .i64 ((at_ y4.2 v11).2.1),.str ((at_ y4.2 v11).2.2.1),.int .i64 ((at_ y4.2 v11).2.2.2)]) (gl aB x16.2) (I2 x16∧μ3 x16 < μ3 y4)))) False)) False)) False))) False)))) (SlQ (List.length y4.2) (List.length (dC a)) (gl aB y4.2) (gl aB (dC a)) (True)))
def f260.vc (a:(List (aA))×Int×Int×Int):Prop:=(∃ (I2:(Int×(List (aA)))→Prop) (μ3:(Int×(List (aA)))→Nat),I2 ((0:Int),a.1)∧∀ y4:Int×(List (aA)),I2 y4→((y4.1 < a.2.2.2→(-9223372036854775808≤(a.2.1+y4.1)∧(a.2.1+y4.1)≤9223372036854775807∧(-9223372036854775808≤(a.2.2.1+y4.1)∧(a.2.2.1+y4.1)≤9223372036854775807∧(-9223372036854775808≤(a.2.2.1+y4.1)∧(a.2.2.1+y4.1)≤9223372036854775807∧((0:Int)≤(a.2.2.1+y4.1)∧(a.2.2.1+y4.1) < (List.length y4.2:Int)∧(-9223372036854775808≤(a.2.1+y4.1)∧(a.2.1+y4.1)≤9223372036854775807∧((0:Int)≤(a.2.1+y4.1)∧(a.2.1+y4.1) < (List.length y4.2:Int)∧((0:Int)≤(a.2.1+y4.1)∧(a.2.1+y4.1) < (List.length y4.2:Int)∧((0:Int)≤(a.2.2.1+y4.1)∧(a.2.2.1+y4.1) < (List.length y4.2:Int)∧(-9223372036854775808≤(y4.1+(1:Int))∧(y4.1+(1:Int))≤9223372036854775807∧(I2 ((y4.1+(1:Int)),List.set (List.set y4.2 (Int.toNat (a.2.1+y4.1)) (((at_ y4.2 (a.2.2.1+y4.1)).1),(at_ y4.2 (a.2.2.1+y4.1)).2.1,(at_ y4.2 (a.2.2.1+y4.1)).2.2.1,(at_ y4.2 (a.2.2.1+y4.1)).2.2.2)) (Int.toNat (a.2.2.1+y4.1)) (((at_ y4.2 (a.2.1+y4.1)).1),(at_ y4.2 (a.2.1+y4.1)).2.1,(at_ y4.2 (a.2.1+y4.1)).2.2.1,(at_ y4.2 (a.2.1+y4.1)).2.2.2))∧μ3 ((y4.1+(1:Int)),List.set (List.set y4.2 (Int.toNat (a.2.1+y4.1)) (((at_ y4.2 (a.2.2.1+y4.1)).1),(at_ y4.2 (a.2.2.1+y4.1)).2.1,(at_ y4.2 (a.2.2.1+y4.1)).2.2.1,(at_ y4.2 (a.2.2.1+y4.1)).2.2.2)) (Int.toNat (a.2.2.1+y4.1)) (((at_ y4.2 (a.2.1+y4.1)).1),(at_ y4.2 (a.2.1+y4.1)).2.1,(at_ y4.2 (a.2.1+y4.1)).2.2.1,(at_ y4.2 (a.2.1+y4.1)).2.2.2)) < μ3 y4)))))))))))∧(¬(y4.1 < a.2.2.2)→(y4.2=dC a))))
set_option maxRecDepth 100000 in
set_option maxHeartbeats 2000000 in
theorem f260.of (a:(List (aA))×Int×Int×Int) (h:f260.vc a):f260.tree a:=Exists.elim h (fun I2 h40_=>Exists.elim h40_ (fun μ3 h40=>⟨I2,μ3,⟨((0:Int),a.1),⟨(cI (gl aB a.1) (Rds.self (enc:=aB))),⟨rfl,⟨rfl,⟨rfl,⟨rfl,slQ (Rds.self (enc:=aB)) (h40.1)⟩⟩⟩⟩⟩⟩,fun y4 h42=>br (h40.2 y4 h42) Cnd.dec (fun h5 k38=>wrapK.i64 k38 (fun h34 h35 k36=>wrapK.i64 k36 (fun h31 h32 k33=>wrapK.i64 k33 (fun h28 h29 k30=>chk k30.2.2 Cnd.ix ⟨k30.1,k30.2.1⟩ (fun h10 k27=>⟨rfl,wrapK.i64 k27 (fun h24 h25 k26=>chk k26.2.2 Cnd.ix ⟨k26.1,k26.2.1⟩ (fun h12 k23=>⟨rfl,chk k23.2.2 Cnd.ix ⟨k23.1,k23.2.1⟩ (fun h13 k22=>⟨rfl,chk k22.2.2 Cnd.ix ⟨k22.1,k22.2.1⟩ (fun h14 k21=>⟨rfl,wrapK.i64 k21 (fun h18 h19 k20=>⟨((y4.1+(1:Int)),List.set (List.set y4.2 (Int.toNat (a.2.1+y4.1)) (((at_ y4.2 (a.2.2.1+y4.1)).1),(at_ y4.2 (a.2.2.1+y4.1)).2.1,(at_ y4.2 (a.2.2.1+y4.1)).2.2.1,(at_ y4.2 (a.2.2.1+y4.1)).2.2.2)) (Int.toNat (a.2.2.1+y4.1)) (((at_ y4.2 (a.2.1+y4.1)).1),(at_ y4.2 (a.2.1+y4.1)).2.1,(at_ y4.2 (a.2.1+y4.1)).2.2.1,(at_ y4.2 (a.2.1+y4.1)).2.2.2)),⟨(cI (gset (gset (gl aB y4.2) (Int.toNat (a.2.1+y4.1)) [.str (((at_ y4.2 (a.2.2.1+y4.1)).1).1),.str (((at_ y4.2 (a.2.2.1+y4.1)).1).2.1),.int .i64 (((at_ y4.2 (a.2.2.1+y4.1)).1).2.2.1),.int .i64 ((((at_ y4.2 (a.2.2.1+y4.1)).1).2.2.2.1).1),.int .i64 ((((at_ y4.2 (a.2.2.1+y4.1)).1).2.2.2.1).2.1),.int .i64 ((((at_ y4.2 (a.2.2.1+y4.1)).1).2.2.2.1).2.2),.slice .ro 2 ((((at_ y4.2 (a.2.2.1+y4.1)).1).2.2.2.2.1).length) (gl aE (((at_ y4.2 (a.2.2.1+y4.1)).1).2.2.2.2.1)),.str (((at_ y4.2 (a.2.2.1+y4.1)).1).2.2.2.2.2.1),.str (((at_ y4.2 (a.2.2.1+y4.1)).1).2.2.2.2.2.2.1),.int .i64 (((at_ y4.2 (a.2.2.1+y4.1)).1).2.2.2.2.2.2.2),.int .i64 ((at_ y4.2 (a.2.2.1+y4.1)).2.1),.str ((at_ y4.2 (a.2.2.1+y4.1)).2.2.1),.int .i64 ((at_ y4.2 (a.2.2.1+y4.1)).2.2.2)]) (Int.toNat (a.2.2.1+y4.1)) [.str (((at_ y4.2 (a.2.1+y4.1)).1).1),.str (((at_ y4.2 (a.2.1+y4.1)).1).2.1),.int .i64 (((at_ y4.2 (a.2.1+y4.1)).1).2.2.1),.int .i64 ((((at_ y4.2 (a.2.1+y4.1)).1).2.2.2.1).1),.int .i64 ((((at_ y4.2 (a.2.1+y4.1)).1).2.2.2.1).2.1),.int .i64 ((((at_ y4.2 (a.2.1+y4.1)).1).2.2.2.1).2.2),.slice .ro 2 ((((at_ y4.2 (a.2.1+y4.1)).1).2.2.2.2.1).length) (gl aE (((at_ y4.2 (a.2.1+y4.1)).1).2.2.2.2.1)),.str (((at_ y4.2 (a.2.1+y4.1)).1).2.2.2.2.2.1),.str (((at_ y4.2 (a.2.1+y4.1)).1).2.2.2.2.2.2.1),.int .i64 (((at_ y4.2 (a.2.1+y4.1)).1).2.2.2.2.2.2.2),.int .i64 ((at_ y4.2 (a.2.1+y4.1)).2.1),.str ((at_ y4.2 (a.2.1+y4.1)).2.2.1),.int .i64 ((at_ y4.2 (a.2.1+y4.1)).2.2.2)]) (Rds.gset (enc:=aB) (Rds.gset (enc:=aB) (Rds.self (enc:=aB)) (DEqs.refl _)) (DEqs.refl _))),⟨rfl,⟨rfl,⟨rfl,⟨rfl,slQ (Rds.gset (enc:=aB) (Rds.gset (enc:=aB) (Rds.self (enc:=aB)) (DEqs.refl _)) (DEqs.refl _)) (k20)⟩⟩⟩⟩⟩⟩)⟩)⟩)⟩))⟩))))) (fun h6 k39=>slQ (Rds.to (Rds.self (enc:=aB)) k39) (trivial))⟩))
theorem f260.eq (a:(List (aA))×Int×Int×Int):(f260.af a).gives f260.env (f260.args a) (f260.blks a) (f260.res a) (f260.blks' a)=f260.tree a:=by kernel_rfl
end Go.Abs

/- The library's stable sort of jobs: what the code asks is so. -/
namespace Go.Abs
open Go

theorem f255.ok (a:aA×aA) (_:True):f255.vc a:=⟨by unfold kJ; simp,rfl⟩

theorem tX (a b:aA):ltW a b=true↔a.1.2.2.1 < b.1.2.2.1∨(a.1.2.2.1=b.1.2.2.1∧b.2.1 < a.2.1):=by
 unfold ltW mG fR
 rw [decide_eq_true_eq]
 simp only [orI]
 constructor
 ·intro h
  split at h <;> split at h <;> (try split at h) <;> (try split at h) <;> (try split at h) <;> omega
 ·intro h
  split <;> split <;> (try split) <;> (try split) <;> (try split) <;> omega

theorem oZ (a b:aA):ltW a b=false↔¬(a.1.2.2.1 < b.1.2.2.1∨(a.1.2.2.1=b.1.2.2.1∧b.2.1 < a.2.1)):=by
 rw [← tX]
 simp

theorem iG:Weak ltW:=by
 refine ⟨fun {x y} h=>?_,fun {x y z} h1 h2=>?_⟩
 ·rw [tX] at h
  rw [oZ]
  omega
 ·rw [oZ] at h1 h2 ⊢
  omega

theorem tN {x y:aA} (h:mG (x,y) < 0):ltW x y=true:=decide_eq_true h
theorem tO {x y:aA} (h:¬mG (x,y) < 0):ltW x y=false:=decide_eq_false h

theorem iS {α:Type} [Inhabited α] (l:List α) (i:Int):at_ l i=l.getD i.toNat default:=rfl

theorem f260.ok (a:List aA×Int×Int×Int) (h:f6 a):f260.vc a:=by
 obtain ⟨l,p,q,k⟩:=a
 obtain ⟨h1,h2,h3,h4,h5,h6⟩:=h
 simp only at h1 h2 h3 h4 h5 h6
 refine ⟨fun y=>0≤y.1∧y.1≤k∧y.2=nQ l p.toNat q.toNat y.1.toNat,fun y=>(k - y.1).toNat,⟨by simp,h3,rfl⟩,fun y hy=>?_⟩
 obtain ⟨i,c⟩:=y
 obtain ⟨g0,g1,g2⟩:=hy
 simp only at g0 g1 g2
 subst g2
 have hl:=dG l p.toNat q.toNat i.toNat
 simp only
 rw [hl]
 refine ⟨fun c=>?_,fun c=>?_⟩
 ·refine ⟨by omega,by omega,by omega,by omega,by omega,by omega,by omega,by omega,by omega,by omega,by omega,by omega,by omega,by omega,by omega,by omega,by omega,by omega,⟨by omega,by omega,?_⟩,by omega⟩
  rw [show (i+1).toNat=i.toNat+1 from by omega,nQ]
  unfold swp
  rw [show p.toNat+i.toNat=(p+i).toNat from by omega,show q.toNat+i.toNat=(q+i).toNat from by omega]
  rfl
 ·have:i=k:=by omega
  subst this
  rfl

theorem f259.ok (a:List aA×Int×Int×Int) (h:n4 a):f259.vc a:=by
 obtain ⟨l,a,m,b⟩:=a
 obtain ⟨h1,h2,h3,h4,h5⟩:=h
 simp only at h1 h2 h3 h4 h5
 refine ⟨by simp only; omega,by simp only; omega,by simp only; omega,by simp only; omega,fun y=>0 < y.1∧0 < y.2.1∧a≤m - y.1∧m+y.2.1≤b∧y.2.2.length=l.length∧fB y.2.2 (m.toNat - y.1.toNat) m.toNat (m.toNat+y.2.1.toNat)=fB l a.toNat m.toNat b.toNat,
  fun y=>(y.1+y.2.1).toNat,⟨by simp only; omega,by simp only; omega,by simp only; omega,by simp only; omega,rfl,?_⟩,fun y hy=>?_⟩
 ·simp only
  rw [show m.toNat - (m - a).toNat=a.toNat from by omega,show m.toNat+(b - m).toNat=b.toNat from by omega]
 ·obtain ⟨i,j,c⟩:=y
  obtain ⟨g1,g2,g3,g4,g5,g6⟩:=hy
  simp only at g1 g2 g3 g4 g5 g6 ⊢
  have hsw:∀ x y k:Int,(dC (c,x,y,k)).length=c.length:=fun x y k=>dG _ _ _ _
  refine ⟨fun hne=>⟨fun hij=>⟨by omega,by omega,⟨by simp only; omega,by simp only; omega,by simp only; omega,by simp only; omega,by simp only; omega,by simp only; omega⟩,hsw _ _ _,by omega,by omega,⟨by omega,by omega,by omega,by omega,by rw [hsw]; exact g5,?_⟩,by omega⟩,
   fun hij=>⟨by omega,by omega,by omega,by omega,by omega,by omega,⟨by simp only; omega,by simp only; omega,by simp only; omega,by simp only; omega,by simp only; omega,by simp only; omega⟩,hsw _ _ _,by omega,by omega,⟨by omega,by omega,by omega,by omega,by rw [hsw]; exact g5,?_⟩,by omega⟩⟩,
   fun he=>⟨by omega,by omega,⟨by simp only; omega,by simp only; omega,by simp only; omega,by simp only; omega,by simp only; omega,by simp only; omega⟩,hsw _ _ _,?_⟩⟩
  ·rw [← g6]
   have:=aEQ c (a:=0) (m:=m.toNat) (b:=0) (i:=i.toNat) (j:=j.toNat) (by omega) (by omega) (by omega) (by omega)
   unfold dC
   simp only
   rw [show (m - i).toNat=m.toNat - i.toNat from by omega,show (i - j).toNat=i.toNat - j.toNat from by omega]
   exact this
  ·rw [← g6]
   have:=aEZ c (m:=m.toNat) (i:=i.toNat) (j:=j.toNat) (by omega) (by omega) (by omega) (by omega)
   unfold dC
   simp only
   rw [show (m - i).toNat=m.toNat - i.toNat from by omega,show (m+j - i).toNat=m.toNat+j.toNat - i.toNat from by omega,show (j - i).toNat=j.toNat - i.toNat from by omega]
   exact this
  ·have hij:i=j:=Classical.not_not.1 he
   subst hij
   have:=aG8 c (m:=m.toNat) (i:=i.toNat) (by omega) (by omega)
   unfold dC p8
   simp only
   rw [← g6,show (m - i).toNat=m.toNat - i.toNat from by omega]
   exact this

theorem aAZ (c:List aA) {a b:Int} (h1:a≤b) (h2:b≤c.length):(kW (c,a,b)).length=c.length:=kQ dD c (by simp only; omega) (by simp only; omega)
theorem qU (c:List aA) {a b:Int} (m:Int) (h1:a≤b) (h2:b≤c.length):(dR (c,a,m,b)).length=c.length:=kQ dD c (by simp only; omega) (by simp only; omega)

theorem f257.ok (a:List aA×Int×Int) (h:jZ a):f257.vc a:=by
 obtain ⟨l,a,b⟩:=a
 obtain ⟨h1,h2,h3,h4⟩:=h
 simp only at h1 h2 h3 h4
 refine ⟨by simp only; omega,by simp only; omega,fun y=>a < y.1∧(y.1≤b∨y.1=a+1)∧Same ltW l y.2 a.toNat b.toNat∧SdI ltW y.2 a.toNat y.1.toNat,fun y=>(b+1 - y.1).toNat,⟨by simp only; omega,.inr rfl,Same.refl _ _ _,fun p q e1 e2 e3=>by simp only at e3; omega⟩,fun y hy=>?_⟩
 obtain ⟨i,c⟩:=y
 obtain ⟨g1,g2,g3,g4⟩:=hy
 simp only at g1 g2 g3 g4 ⊢
 refine ⟨fun hib=>?_,fun hib=>?_⟩
 ·refine ⟨fun y=>y.1=i∧a≤y.2.1∧y.2.1≤i∧InsI ltW l a.toNat b.toNat i.toNat y.2.1.toNat y.2.2,fun y=>y.2.1.toNat,⟨rfl,by simp only; omega,by simp only; omega,InsI.init g3 (by omega) (by omega) g4⟩,fun y hy=>?_⟩
  obtain ⟨i',j,d⟩:=y
  obtain ⟨e1,e2,e3,e4⟩:=hy
  simp only at e1 e2 e3 e4 ⊢
  subst e1
  have hl:=e4.same.len
  have fin:(j.toNat=a.toNat∨a.toNat < j.toNat∧ltW (d.getD j.toNat default) (d.getD (j.toNat - 1) default)=false) →
    -9223372036854775808≤i'+(1:Int)∧i'+(1:Int)≤9223372036854775807∧(a < i'+1∧(i'+1≤b∨i'+1=a+1)∧Same ltW l d a.toNat b.toNat∧SdI ltW d a.toNat (i'+1).toNat)∧(b+1 - (i'+1)).toNat < (b+1 - i').toNat:=fun hh=>by
   obtain ⟨k1,k2⟩:=e4.stop iG hh
   exact ⟨by omega,by omega,⟨by omega,by omega,k1,by rw [show (i'+1).toNat=i'.toNat+1 from by omega]; exact k2⟩,by omega⟩
  refine ⟨fun hj=>⟨by omega,by omega,by omega,by omega,by omega,by omega,fun hc=>⟨by omega,by omega,by omega,by omega,by omega,by omega,by omega,by omega,by omega,by omega,by omega,by omega,by omega,by omega,⟨rfl,by omega,by omega,?_⟩,by omega⟩,fun hc=>fin (.inr ⟨by omega,?_⟩)⟩,fun hj=>fin (.inl (by omega))⟩
  ·have hc:=tN hc
   have e5:j.toNat=(j - 1).toNat+1:=by omega
   rw [e5] at e4
   have:=e4.step iG (by omega) (by omega) (by rw [← e5]; exact hc)
   rw [← e5] at this
   exact this
  ·have hc:=tO hc
   rw [show j.toNat - 1=(j - 1).toNat from by omega]
   exact hc
 ·have:c=fQ (bK ltW) l a.toNat b.toNat:=by
   refine g3.done iG (by omega) (by omega) fun p q e1 e2 e3=>g4 p q e1 e2 ?_
   omega
  exact this

def T2 (n:Nat) (A:List aA×Int×Int×Int) (L:Nat) (c:List aA) (mid e b:Int):Prop :=
 (mid < e→(e < b→f258.rpre n (c,mid,e,b)∧List.length (dR (c,mid,e,b))=L∧dR (c,mid,e,b)=dR A)∧(¬(e < b)→c=dR A))∧(¬(mid < e)→c=dR A)
def T1 (n:Nat) (A:List aA×Int×Int×Int) (L:Nat) (c:List aA) (a s mid e b:Int):Prop :=
 (a < s→(s < mid→f258.rpre n (c,a,s,mid)∧List.length (dR (c,a,s,mid))=L∧T2 n A L (dR (c,a,s,mid)) mid e b)∧(¬(s < mid)→T2 n A L c mid e b))∧(¬(a < s)→T2 n A L c mid e b)
def T0 (n:Nat) (A:List aA×Int×Int×Int) (L:Nat) (c:List aA) (a s m e mid b:Int):Prop :=
 (s < m→(m < e→n4 (c,s,m,e)∧List.length (p8 (c,s,m,e))=L∧T1 n A L (p8 (c,s,m,e)) a s mid e b)∧(¬(m < e)→T1 n A L c a s mid e b))∧(¬(s < m)→T1 n A L c a s mid e b)

theorem aKO {n:Nat} {l:List aA} {a m b:Int} (h:iZ (l,a,m,b)) (hn:tV (l,a,m,b) < n+1) {s e mid:Int} (h1:a≤s) (h2:s≤m) (h3:m≤e) (h4:e≤b) (hmid:mid+m=s+e) (hb:mid < b) (ha:a < mid)
  (F1:s < m→m < e→ltW (at_ l (e - 1)) (at_ l s)=true) (F2:a < s→e < b→ltW (at_ l e) (at_ l (s - 1))=false):T0 n (l,a,m,b) l.length l a s m e mid b:=by
 obtain ⟨⟨p1,p2,p3,p4,p5⟩,p6,p7⟩:=h
 simp only at p1 p2 p3 p4 p5 p6 p7
 have hn:(b - a).toNat < n+1:=hn
 obtain ⟨q1,q2,q3,q4,q5,q6,q7⟩:=uZ iG l (a:=a.toNat) (s:=s.toNat) (m:=m.toNat) (e:=e.toNat) (b:=b.toNat) (mid:=mid.toNat) (by omega) (by omega) (by omega) (by omega) (by omega) (by omega) p6 p7
  (fun c1 c2=>by
   have:=F1 (by omega) (by omega)
   rw [iS,iS,show (e - 1).toNat=e.toNat - 1 from by omega] at this
   exact this)
  (fun c1 c2=>by
   have:=F2 (by omega) (by omega)
   rw [iS,iS,show (s - 1).toNat=s.toNat - 1 from by omega] at this
   exact this)
 have hrl:=cD l (a:=s.toNat) (m:=m.toNat) (b:=e.toNat) (by omega) (by omega) (by omega)
 generalize hc1:fB l s.toNat m.toNat e.toNat=c1 at *
 have hl2:(fQ (bK ltW) c1 a.toNat mid.toNat).length=l.length:=by rw [kQ dD c1 (by omega) (by omega),hrl]
 have t2:T2 n (l,a,m,b) l.length (fQ (bK ltW) c1 a.toNat mid.toNat) mid e b:=by
  have stop:e≤mid∨b≤e→fQ (bK ltW) c1 a.toNat mid.toNat=dR (l,a,m,b):=fun hh=>by
   show _=fQ (bK ltW) l a.toNat b.toNat
   rw [← q7]
   exact (q6 (by omega)).symm
  refine ⟨fun c=>⟨fun c'=>⟨⟨⟨⟨by simp only; omega,by simp only; omega,by simp only; omega,by simp only; omega,by simp only; omega⟩,q4,q5⟩,?_⟩,?_,q7⟩,fun c'=>stop (by omega)⟩,fun c=>stop (by omega)⟩
  ·show (b - mid).toNat < n
   omega
  ·exact (qU _ _ (by omega) (by omega)).trans hl2
 have t1:T1 n (l,a,m,b) l.length c1 a s mid e b:=by
  have stop:s≤a∨mid≤s→T2 n (l,a,m,b) l.length c1 mid e b:=fun hh=>by
   have:=q3 (by omega)
   rw [this] at t2
   exact t2
  refine ⟨fun c=>⟨fun c'=>⟨⟨⟨⟨by simp only; omega,by simp only; omega,by simp only; omega,by simp only; omega,by simp only; omega⟩,q1,q2⟩,?_⟩,?_,t2⟩,fun c'=>stop (by omega)⟩,fun c=>stop (by omega)⟩
  ·show (mid - a).toNat < n
   omega
  ·exact (qU _ _ (by omega) (by omega)).trans hrl
 have stop:m≤s∨e≤m→T1 n (l,a,m,b) l.length l a s mid e b:=fun hh=>by
  have:=vV l (s:=s.toNat) (m:=m.toNat) (e:=e.toNat) (by omega) (by omega) (by omega) (by omega)
  rw [hc1] at this
  rw [this] at t1
  exact t1
 refine ⟨fun c=>⟨fun c'=>⟨⟨by simp only; omega,by simp only; omega,by simp only; omega,by simp only; omega,by simp only; omega⟩,?_,?_⟩,fun c'=>stop (by omega)⟩,fun c=>stop (by omega)⟩
 ·exact cD l (by simp only; omega) (by simp only; omega) (by simp only; omega)
 ·show T1 n _ _ (fB l s.toNat m.toNat e.toNat) a s mid e b
  rw [hc1]
  exact t1

theorem f258.ok (a:List aA×Int×Int×Int) (h:iZ a) (n:Nat) (hn:tV a < n+1):f258.vc a n:=by
 obtain ⟨l,a,m,b⟩:=a
 have h0:=h
 obtain ⟨⟨p1,p2,p3,p4,p5⟩,p6,p7⟩:=h
 simp only at p1 p2 p3 p4 p5 p6 p7
 have sX:=(gO (lt:=ltW) (by omega)).2 p6
 have sY:=(gO (lt:=ltW) (by omega)).2 p7
 refine ⟨by first | omega | (simp only; omega),by first | omega | (simp only; omega),fun hc=>?_,fun hc=>⟨by first | omega | (simp only; omega),by first | omega | (simp only; omega),fun hc2=>?_,fun hc2=>?_⟩⟩
 ·-- one element on the left
  simp only at hc ⊢
  refine ⟨fun y=>m≤y.1∧y.1≤y.2.1∧y.2.1≤b∧y.2.2=l∧(m < y.1→ltW (at_ l (y.1 - 1)) (at_ l a)=true)∧(y.2.1 < b→ltW (at_ l y.2.1) (at_ l a)=false),fun y=>(y.2.1 - y.1).toNat,⟨by first | omega | (simp only; omega),by first | omega | (simp only; omega),by first | omega | (simp only; omega),rfl,fun h=>by simp only at h; omega,fun h=>by simp only at h; omega⟩,fun y hy=>?_⟩
  obtain ⟨i,j,c⟩:=y
  obtain ⟨g1,g2,g3,g4,g5,g6⟩:=hy
  simp only at g1 g2 g3 g4 g5 g6 ⊢
  subst g4
  refine ⟨fun hij=>⟨by omega,by omega,by omega,by omega,by omega,by omega,by omega,by omega,by omega,by omega,fun ht=>⟨by omega,by omega,⟨by omega,by omega,by omega,rfl,fun _=>?_,g6⟩,by omega⟩,fun ht=>⟨⟨by omega,by omega,by omega,rfl,g5,fun _=>tO ht⟩,by omega⟩⟩,fun hij=>?_⟩
  ·rw [show (i+j) / 2+1 - 1=(i+j) / 2 from by omega]
   exact tN ht
  ·have hij:i=j:=by omega
   subst hij
   refine ⟨fun y=>y.1=i∧a≤y.2.1∧(y.2.1 < i∨i=m∧y.2.1=a)∧y.2.2=fB c a.toNat (a.toNat+1) (y.2.1.toNat+1),fun y=>(i - y.2.1).toNat,⟨rfl,by first | omega | (simp only; omega),by first | omega | (simp only; omega),(vV c (by first | omega | (simp only; omega)) (by first | omega | (simp only; omega)) (by first | omega | (simp only; omega)) (.inr rfl)).symm⟩,fun y hy=>?_⟩
   obtain ⟨i',k,d⟩:=y
   obtain ⟨e1,e2,e3,e4⟩:=hy
   simp only at e1 e2 e3 e4 ⊢
   subst e1
   have hl:d.length=c.length:=by rw [e4]; exact cD c (by omega) (by omega) (by omega)
   refine ⟨by omega,by omega,fun hk=>⟨by omega,by omega,by omega,by omega,by omega,by omega,by omega,by omega,by omega,by omega,by omega,by omega,by omega,by omega,⟨rfl,by omega,by omega,?_⟩,by omega⟩,fun hk=>?_⟩
   ·have:=aEG c (a:=a.toNat) (k:=k.toNat) (by omega) (by omega)
    rw [← e4] at this
    rw [show (k+1).toNat+1=k.toNat+2 from by omega,← this,show k.toNat+1=(k+1).toNat from by omega]
    rfl
   ·have e5:d=fB c a.toNat m.toNat i'.toNat:=by
     rw [e4]
     congr 1 <;> omega
    obtain ⟨_,_,q3,_,_,_,q7⟩:=uZ iG c (a:=a.toNat) (s:=a.toNat) (m:=m.toNat) (e:=i'.toNat) (b:=b.toNat) (mid:=a.toNat+i'.toNat - m.toNat) (by omega) (by omega) (by omega) (by omega) (by omega) (by omega) p6 p7
     (fun c1 c2=>by
      have:=g5 (by omega)
      rw [iS,iS,show (i' - 1).toNat=i'.toNat - 1 from by omega] at this
      exact this) (fun c1=>by omega)
    have q6:Sd ltW (seg (fB c a.toNat m.toNat i'.toNat) (a.toNat+i'.toNat - m.toNat) b.toNat):=by
     have hr:=cD c (a:=a.toNat) (m:=m.toNat) (b:=i'.toNat) (by omega) (by omega) (by omega)
     refine (gO (by omega)).1 fun p q e1 e2 e3=>?_
     rw [dY c (by omega) (by omega) (by omega),dY c (by omega) (by omega) (by omega)]
     rw [if_neg (show ¬(a.toNat≤q∧q < i'.toNat) by omega)]
     by_cases hp:p < i'.toNat
     ·rw [if_pos (by omega),if_neg (by omega)]
      have hb:i' < b:=by omega
      have g7:=g6 hb
      rw [iS,iS] at g7
      rw [show p - (i'.toNat - m.toNat)=a.toNat from by omega]
      by_cases hq:q=i'.toNat
      ·subst hq; exact g7
      ·exact iG.le g7 (sY i'.toNat q (by omega) (by omega) (by omega))
     ·rw [if_neg (by omega)]
      exact sY p q (by omega) e2 e3
    show d=fQ (bK ltW) c a.toNat b.toNat
    rw [e5,← q7,q3 (.inl rfl)]
    unfold fQ
    rw [rD iG q6]
    exact pL _ (by omega)
 ·-- one element on the right
  simp only at hc hc2 ⊢
  refine ⟨fun y=>a≤y.1∧y.1≤y.2.1∧y.2.1≤m∧y.2.2=l∧(a < y.1→ltW (at_ l m) (at_ l (y.1 - 1))=false)∧(y.2.1 < m→ltW (at_ l m) (at_ l y.2.1)=true),fun y=>(y.2.1 - y.1).toNat,⟨by first | omega | (simp only; omega),by first | omega | (simp only; omega),by first | omega | (simp only; omega),rfl,fun h=>by simp only at h; omega,fun h=>by simp only at h; omega⟩,fun y hy=>?_⟩
  obtain ⟨i,j,c⟩:=y
  obtain ⟨g1,g2,g3,g4,g5,g6⟩:=hy
  simp only at g1 g2 g3 g4 g5 g6 ⊢
  subst g4
  refine ⟨fun hij=>⟨by omega,by omega,by omega,by omega,by omega,by omega,by omega,by omega,by omega,by omega,fun ht=>⟨by omega,by omega,⟨by omega,by omega,by omega,rfl,fun _=>?_,g6⟩,by omega⟩,fun ht=>⟨⟨by omega,by omega,by omega,rfl,g5,fun _=>tN (Classical.not_not.1 ht)⟩,by omega⟩⟩,fun hij=>?_⟩
  ·rw [show (i+j) / 2+1 - 1=(i+j) / 2 from by omega]
   exact tO ht
  ·have hij:i=j:=by omega
   subst hij
   refine ⟨fun y=>y.1=i∧i≤y.2.1∧y.2.1≤m∧y.2.2=fB c y.2.1.toNat m.toNat (m.toNat+1),fun y=>y.2.1.toNat,⟨rfl,by first | omega | (simp only; omega),by first | omega | (simp only; omega),(vV c (by first | omega | (simp only; omega)) (by first | omega | (simp only; omega)) (by first | omega | (simp only; omega)) (.inl rfl)).symm⟩,fun y hy=>?_⟩
   obtain ⟨i',k,d⟩:=y
   obtain ⟨e1,e2,e3,e4⟩:=hy
   simp only at e1 e2 e3 e4 ⊢
   subst e1
   have hl:d.length=c.length:=by rw [e4]; exact cD c (by omega) (by omega) (by omega)
   refine ⟨fun hk=>⟨by omega,by omega,by omega,by omega,by omega,by omega,by omega,by omega,by omega,by omega,by omega,by omega,by omega,by omega,⟨rfl,by omega,by omega,?_⟩,by omega⟩,fun hk=>?_⟩
   ·have:=aGW c (k:=(k - 1).toNat) (m:=m.toNat) (by omega) (by omega)
    rw [show (k - 1).toNat+1=k.toNat from by omega,← e4] at this
    rw [← this]
    rfl
   ·have hk:k=i':=by omega
    subst hk
    have e5:d=fB c k.toNat m.toNat b.toNat:=by
     rw [e4]
     congr 1
     omega
    have hmid:a.toNat≤k.toNat:=by omega
    obtain ⟨_,_,_,_,_,q6,q7⟩:=uZ iG c (a:=a.toNat) (s:=k.toNat) (m:=m.toNat) (e:=b.toNat) (b:=b.toNat) (mid:=k.toNat+1) (by omega) (by omega) (by omega) (by omega) (by omega) (by omega) p6 p7
     (fun c1 c2=>by
      have:=g6 (by omega)
      rw [iS,iS] at this
      rw [show b.toNat - 1=m.toNat from by omega]
      exact this) (fun c1 c2=>by omega)
    have q3:Sd ltW (seg (fB c k.toNat m.toNat b.toNat) a.toNat (k.toNat+1)):=by
     have hr:=cD c (a:=k.toNat) (m:=m.toNat) (b:=b.toNat) (by omega) (by omega) (by omega)
     refine (gO (by omega)).1 fun p q e1 e2 e3=>?_
     rw [dY c (by omega) (by omega) (by omega),dY c (by omega) (by omega) (by omega)]
     rw [if_neg (show ¬(k.toNat≤p∧p < b.toNat) by omega)]
     by_cases hq:q=k.toNat
     ·rw [if_pos (by omega),if_pos (by omega),show m.toNat+(q - k.toNat)=m.toNat from by omega]
      have g7:=g5 (by omega)
      rw [iS,iS] at g7
      by_cases hp:p=(k - 1).toNat
      ·subst hp; exact g7
      ·exact iG.le (sX p (k - 1).toNat e1 (by omega) (by omega)) g7
     ·rw [if_neg (by omega)]
      exact sX p q e1 e2 (by omega)
    show d=fQ (bK ltW) c a.toNat b.toNat
    rw [e5,← q7,q6 (.inr rfl)]
    unfold fQ
    rw [rD iG q3]
    exact pL _ (by omega)
 ·-- a cut
  simp only at hc hc2 ⊢
  have hA:a < (a+b) / 2:=by omega
  have hB:(a+b) / 2 < b:=by omega
  have go:∀ (s0 r0:Int),a≤s0→s0≤r0→r0≤m→r0≤(a+b) / 2→(a+b) / 2+m - b≤s0→(s0=a∨s0=(a+b) / 2+m - b)→(r0=m∨r0=(a+b) / 2)→∀ s:Int,s0≤s→s≤r0→(s0 < s→ltW (at_ l ((a+b) / 2+m - s)) (at_ l (s - 1))=false)→(s < r0→ltW (at_ l ((a+b) / 2+m - s - 1)) (at_ l s)=true) →
    T0 n (l,a,m,b) l.length l a s m ((a+b) / 2+m - s) ((a+b) / 2) b:=by
   intro s0 r0 z1 z2 z3 z4 z5 z6 z7 s z8 z9 z10 z11
   refine aKO h0 hn (by omega) (by omega) (by omega) (by omega) (by omega) hB hA (fun c1 c2=>?_) (fun c1 c2=>?_)
   ·exact z11 (by omega)
   ·exact z10 (by omega)
  refine ⟨by omega,by omega,by omega,by omega,by omega,by omega,by omega,by omega,fun y=>y.1=(a+b) / 2∧y.2.1=(a+b) / 2+m∧y.2.2.2.2=l∧a≤y.2.2.1∧y.2.2.1≤y.2.2.2.1∧y.2.2.2.1≤m∧y.2.2.2.1≤(a+b) / 2∧(a+b) / 2+m - b≤y.2.2.1∧(y.2.2.1=a∨y.2.2.1=(a+b) / 2+m - b)∧(y.2.2.2.1=m∨y.2.2.2.1=(a+b) / 2),
   ⟨fun hm=>⟨by omega,by omega,rfl,rfl,rfl,by simp only; omega,by simp only; omega,by simp only; omega,by simp only; omega,by simp only; omega,.inr rfl,.inr rfl⟩,fun hm=>⟨rfl,rfl,rfl,by simp only; omega,by simp only; omega,by simp only; omega,by simp only; omega,by simp only; omega,.inl rfl,.inl rfl⟩⟩,fun y hy=>?_⟩
  obtain ⟨md,nn,s0,r0,c⟩:=y
  obtain ⟨u1,u2,u3,z1,z2,z3,z4,z5,z6,z7⟩:=hy
  simp only at u1 u2 u3 z1 z2 z3 z4 z5 z6 z7 ⊢
  subst u1; subst u2; subst u3
  refine ⟨by omega,by omega,fun y=>y.1=(a+b) / 2∧y.2.1=(a+b) / 2+m∧y.2.2.2.2.1=(a+b) / 2+m - 1∧y.2.2.2.2.2=c∧s0≤y.2.2.1∧y.2.2.1≤y.2.2.2.1∧y.2.2.2.1≤r0∧(s0 < y.2.2.1→ltW (at_ c ((a+b) / 2+m - y.2.2.1)) (at_ c (y.2.2.1 - 1))=false)∧(y.2.2.2.1 < r0→ltW (at_ c ((a+b) / 2+m - y.2.2.2.1 - 1)) (at_ c y.2.2.2.1)=true),
   fun y=>(y.2.2.2.1 - y.2.2.1).toNat,⟨rfl,rfl,rfl,rfl,by first | omega | (simp only; omega),by first | omega | (simp only; omega),by first | omega | (simp only; omega),fun h=>by simp only at h; omega,fun h=>by simp only at h; omega⟩,fun y hy=>?_⟩
  obtain ⟨md,nn,s,r,p,d⟩:=y
  obtain ⟨g1,g2,g3,g4,g5,g6,g7,g8,g9⟩:=hy
  simp only at g1 g2 g3 g4 g5 g6 g7 g8 g9 ⊢
  subst g1; subst g2; subst g3; subst g4
  refine ⟨fun hsr=>⟨by omega,by omega,by omega,by omega,by omega,by omega,by omega,by omega,by omega,by omega,by omega,by omega,fun ht=>⟨by omega,by omega,⟨rfl,rfl,rfl,rfl,by omega,by omega,by omega,fun _=>?_,g9⟩,by omega⟩,fun ht=>⟨⟨rfl,rfl,rfl,rfl,by omega,by omega,by omega,g8,fun _=>?_⟩,by omega⟩⟩,fun hsr=>⟨by omega,by omega,?_⟩⟩
  ·have:=tO ht
   rw [show (s+r) / 2+1 - 1=(s+r) / 2 from by omega,show (a+b) / 2+m - ((s+r) / 2+1)=(a+b) / 2+m - 1 - (s+r) / 2 from by omega]
   exact this
  ·have:=tN (Classical.not_not.1 ht)
   rw [show (a+b) / 2+m - (s+r) / 2 - 1=(a+b) / 2+m - 1 - (s+r) / 2 from by omega]
   exact this
  ·have hsr:s=r:=by omega
   subst hsr
   have h:=go s0 r0 z1 z2 z3 z4 z5 z6 z7 s g5 g7 g8 g9
   refine ⟨fun y=>y.1=(a+b) / 2∧y.2.1=s∧y.2.2.1=(a+b) / 2+m - s∧y.2.2.2.length=d.length∧T1 n (d,a,m,b) d.length y.2.2.2 a s ((a+b) / 2) ((a+b) / 2+m - s) b,
    ⟨fun c1=>⟨fun c2=>⟨((h.1 c1).1 c2).1,((h.1 c1).1 c2).2.1,rfl,rfl,rfl,((h.1 c1).1 c2).2.1,((h.1 c1).1 c2).2.2⟩,fun c2=>⟨rfl,rfl,rfl,rfl,(h.1 c1).2 c2⟩⟩,fun c1=>⟨rfl,rfl,rfl,rfl,h.2 c1⟩⟩,fun y hy=>?_⟩
   obtain ⟨md,s',e',d1⟩:=y
   obtain ⟨u1,u2,u3,hl,h⟩:=hy
   simp only at u1 u2 u3 hl h ⊢
   subst u1; subst u2; subst u3
   refine ⟨fun y=>y.1=(a+b) / 2∧y.2.1=(a+b) / 2+m - s'∧y.2.2.length=d.length∧T2 n (d,a,m,b) d.length y.2.2 ((a+b) / 2) ((a+b) / 2+m - s') b,
    ⟨fun c1=>⟨fun c2=>⟨((h.1 c1).1 c2).1,((h.1 c1).1 c2).2.1.trans hl.symm,rfl,rfl,((h.1 c1).1 c2).2.1,((h.1 c1).1 c2).2.2⟩,fun c2=>⟨rfl,rfl,hl,(h.1 c1).2 c2⟩⟩,fun c1=>⟨rfl,rfl,hl,h.2 c1⟩⟩,fun y hy=>?_⟩
   obtain ⟨md,e',d2⟩:=y
   obtain ⟨u1,u2,hl2,h⟩:=hy
   simp only at u1 u2 hl2 h ⊢
   subst u1; subst u2
   exact ⟨fun c1=>⟨fun c2=>⟨((h.1 c1).1 c2).1,((h.1 c1).1 c2).2.1.trans hl2.symm,((h.1 c1).1 c2).2.2⟩,(h.1 c1).2⟩,h.2⟩

def Blks (cur:List aA) (bs n:Nat):Prop:=∀ k,SdI ltW cur (k * bs) (min (k * bs+bs) n)

theorem Blks.double {cur:List aA} {bs n t:Nat} (hbs:0 < bs) (hend:n < t * (2 * bs)+2 * bs) (lo:∀ k,k * (2 * bs)+2 * bs≤t * (2 * bs)→SdI ltW cur (k * (2 * bs)) (k * (2 * bs)+2 * bs)) (last:SdI ltW cur (t * (2 * bs)) n):Blks cur (2 * bs) n:=by
 intro k p q h1 h2 h3
 rcases Nat.lt_trichotomy k t with hk | hk | hk
 ·have:=Nat.mul_le_mul_right (2 * bs) (show k+1≤t from hk)
  rw [Nat.add_mul,Nat.one_mul] at this
  exact lo k this p q h1 h2 (by omega)
 ·subst hk
  exact last p q h1 h2 (by omega)
 ·have:=Nat.mul_le_mul_right (2 * bs) (show t+1≤k from hk)
  rw [Nat.add_mul,Nat.one_mul] at this
  omega

theorem f256.ok (a:List aA×Int) (h:kL a):f256.vc a:=by
 obtain ⟨l,n⟩:=a
 obtain ⟨hn,h5⟩:=h
 simp only at hn h5
 subst hn
 have insP:∀ (c:List aA) (a b:Int),c.length=l.length→0≤a→a≤b→b≤l.length→jZ (c,a,b):=fun c a b e1 e2 e3 e4=>⟨e2,e3,by simp only; omega,by simp only; omega⟩
 -- pieces of twenty
 refine ⟨fun y=>0≤y.1∧y.2.1=y.1+20∧y.1≤l.length∧y.2.2.length=l.length∧FE ltW y.2.2 l∧(∃ t:Nat,y.1=20 * t)∧∀ k:Nat,20 * k+20≤y.1.toNat→SdI ltW y.2.2 (20 * k) (20 * k+20),fun y=>(l.length - y.1:Int).toNat,
  ⟨by simp only; omega,rfl,by simp only; omega,rfl,FE.refl _,⟨0,rfl⟩,fun k hk=>by simp at hk⟩,fun y hy=>?_⟩
 obtain ⟨a,b,c⟩:=y
 obtain ⟨g1,g2,g3,g4,g5,⟨t,g6⟩,g7⟩:=hy
 simp only at g1 g2 g3 g4 g5 g6 g7 ⊢
 subst g2
 refine ⟨fun hb=>?_,fun hb=>?_⟩
 ·obtain ⟨s1,s2⟩:=oR iG c (a:=a.toNat) (b:=(a+20).toNat) (by omega) (by omega)
  refine ⟨insP _ _ _ g4 g1 (by omega) hb,aAZ _ (by omega) (by omega),by omega,by omega,⟨by omega,by trivial,hb,s1.len.trans g4,s1.fe.trans g5,⟨t+1,by omega⟩,fun k hk=>?_⟩,by omega⟩
  by_cases he:20 * k+20≤a.toNat
  ·exact s1.sd (g7 k he) (.inl he)
  ·have:20 * k=a.toNat:=by omega
   rw [this,show a.toNat+20=(a+20).toNat from by omega]
   exact s2
 ·obtain ⟨s1,s2⟩:=oR iG c (a:=a.toNat) (b:=(l.length:Int).toNat) (by omega) (by omega)
  refine ⟨insP _ _ _ g4 g1 g3 (Int.le_refl _),aAZ _ (by omega) (by omega),?_⟩
  refine ⟨fun y=>20≤y.1∧y.2.length=l.length∧FE ltW y.2 l∧Blks y.2 y.1.toNat l.length,fun y=>(l.length - y.1:Int).toNat,⟨by simp only; omega,s1.len.trans g4,s1.fe.trans g5,fun k=>?_⟩,fun y hy=>?_⟩
  ·simp only
   rw [show (20:Int).toNat=20 from rfl]
   by_cases he:20 * k+20≤a.toNat
   ·rw [Nat.mul_comm,Nat.min_eq_left (by omega)]
    exact s1.sd (g7 k he) (.inl he)
   ·intro p q e1 e2 e3
    exact s2 p q (by omega) e2 (by omega)
  ·obtain ⟨bs,d⟩:=y
   obtain ⟨k1,k2,k3,k4⟩:=hy
   simp only at k1 k2 k3 k4 ⊢
   obtain ⟨z,rfl⟩:=Int.eq_ofNat_of_zero_le (show 0≤bs by omega)
   simp only [Int.toNat_natCast] at k4
   refine ⟨fun hz=>?_,fun hz=>?_⟩
   ·refine ⟨by omega,by omega,?_⟩
    refine ⟨fun y=>y.1=z∧y.2.2.1=y.2.1+2 * z∧0≤y.2.1∧y.2.1≤l.length∧y.2.2.2.length=l.length∧FE ltW y.2.2.2 l∧∃ t:Nat,y.2.1=((t * (2 * z):Nat):Int)∧(∀ k:Nat,k * (2 * z)+2 * z≤t * (2 * z)→SdI ltW y.2.2.2 (k * (2 * z)) (k * (2 * z)+2 * z))∧∀ k:Nat,t * (2 * z)≤k * z→SdI ltW y.2.2.2 (k * z) (min (k * z+z) l.length),
     fun y=>(l.length - y.2.1:Int).toNat,⟨rfl,by simp only; omega,by simp only; omega,by simp only; omega,k2,k3,0,by simp,fun k hk=>by simp at hk; omega,fun k _=>k4 k⟩,fun y hy=>?_⟩
    obtain ⟨z',a,b,e⟩:=y
    obtain ⟨m1,m2,m3,m4,m5,m6,t,m7,m8,m9⟩:=hy
    simp only at m1 m2 m3 m4 m5 m6 m7 m8 m9 ⊢
    subst m1; subst m2
    have hb1:(2 * t) * z=t * (2 * z):=by rw [Nat.mul_comm 2 t,Nat.mul_assoc]
    have hb2:(2 * t+1) * z=t * (2 * z)+z:=by rw [Nat.add_mul,hb1,Nat.one_mul]
    have q1:=m9 (2 * t) (by omega)
    have q2:=m9 (2 * t+1) (by omega)
    rw [hb1] at q1
    rw [hb2] at q2
    have q0:(t+1) * (2 * z)=t * (2 * z)+2 * z:=by rw [Nat.add_mul,Nat.one_mul]
    generalize hT:t * (2 * z)=T at *
    subst m7
    refine ⟨fun hb=>?_,fun hb=>?_⟩
    ·obtain ⟨s1,s2⟩:=oR iG e (a:=(T:Int).toNat) (b:=((T:Int)+2 * z).toNat) (by omega) (by omega)
     simp only [Int.toNat_natCast] at s1 s2
     refine ⟨by omega,by omega,⟨⟨by simp only; omega,by simp only; omega,by simp only; omega,by simp only; omega,by simp only; omega⟩,?_,?_⟩,qU _ _ (by omega) (by omega),by omega,by omega,by omega,by omega,⟨rfl,rfl,by omega,by omega,s1.len.trans m5,s1.fe.trans m6,t+1,by rw [q0]; omega,fun k hk=>?_,fun k hk=>?_⟩,by omega⟩
     ·refine (gO (by simp only; omega)).1 fun p q e1 e2 e3=>?_
      simp only at e1 e3
      exact q1 p q (by omega) e2 (by omega)
     ·refine (gO (by simp only; omega)).1 fun p q e1 e2 e3=>?_
      simp only at e1 e3
      exact q2 p q (by omega) e2 (by omega)
     ·by_cases he:k * (2 * z)+2 * z≤T
      ·exact s1.sd (m8 k he) (.inl he)
      ·have hkt:k=t:=by
        rw [q0] at hk
        have e1:k≤t:=Nat.le_of_mul_le_mul_right (c:=2 * z) (by omega) (by omega)
        have e2:t < k+1:=Nat.lt_of_mul_lt_mul_right (a:=2 * z) (by rw [Nat.add_mul,Nat.one_mul]; omega)
        omega
       rw [hkt,hT,show T+2 * z=((T:Int)+2 * z).toNat from by omega]
       exact s2
     ·rw [q0] at hk
      exact s1.sd (m9 k (by omega)) (.inr (by omega))
    ·have pieces:∀ e':List aA,Same ltW e e' T l.length→SdI ltW e' T l.length→Blks e' (2 * z) l.length:=fun e' s1 s2 =>
      Blks.double (t:=t) (by omega) (by omega) (fun k hk=>s1.sd (m8 k (by omega)) (.inl (by omega))) (by rw [hT]; exact s2)
     refine ⟨by omega,by omega,fun hm=>?_,fun hm=>?_⟩
     ·obtain ⟨s1,s2⟩:=oR iG e (a:=(T:Int).toNat) (b:=(l.length:Int).toNat) (by omega) (by omega)
      simp only [Int.toNat_natCast] at s1 s2
      refine ⟨⟨⟨by simp only; omega,by simp only; omega,by simp only; omega,by simp only; omega,by simp only; omega⟩,?_,?_⟩,qU _ _ (by omega) (by omega),by omega,by omega,⟨by omega,s1.len.trans m5,s1.fe.trans m6,?_⟩,by omega⟩
      ·refine (gO (by simp only; omega)).1 fun p q e1 e2 e3=>?_
       simp only at e1 e3
       exact q1 p q (by omega) e2 (by omega)
      ·refine (gO (by simp only; omega)).1 fun p q e1 e2 e3=>?_
       simp only at e1 e3
       exact q2 p q (by omega) e2 (by omega)
      ·rw [show ((z:Int) * 2).toNat=2 * z from by omega]
       exact pieces _ s1 s2
     ·refine ⟨by omega,by omega,⟨by omega,m5,m6,?_⟩,by omega⟩
      rw [show ((z:Int) * 2).toNat=2 * z from by omega]
      refine pieces e (Same.refl _ _ _) fun p q e1 e2 e3=>q1 p q e1 e2 (by omega)
   ·show d=bK ltW l
    refine SdI.all iG k2 k3 fun p q e1 e2 e3=>?_
    exact k4 0 p q (by omega) e2 (by simp; omega)

theorem f254.ok (a:List aA) (h:lB a):f254.vc a:=⟨⟨rfl,h⟩,dD _,rfl⟩
end Go.Abs
