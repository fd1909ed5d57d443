/- Functions, and what the code asks of them: PSort. -/
import Derived.Test.YtjlehbennimkgabOrderOnceP4
import Derived.Test.YtjlehbennimkgabOrderOnceP12
set_option linter.unusedVariables false
set_option linter.unusedSimpArgs false
namespace Go.Abs
open Go
section
variable {α:Type} [Inhabited α]
def swp (l:List α) (i j:Nat):List α:=(l.set i (l.getD j default)).set j (l.getD i default)
def mG (l:List α) (a b:Nat):Nat→List α
 | 0=>l
 | k+1=>swp (mG l a b k) (a+k) (b+k)
def seg (l:List α) (a b:Nat):List α:=(l.drop a).take (b - a)
def dY (f:List α→List α) (l:List α) (a b:Nat):List α:=l.take a++f (seg l a b)++l.drop b
def dH (l:List α) (a m b:Nat):List α:=l.take a++(seg l m b++seg l a m)++l.drop b
variable (lt:α→α→Bool)
def sP (x:α):List α→List α
 | []=>[x]
 | y::l=>if lt y x=true then y::sP x l else x::y::l
def bB:List α→List α
 | []=>[]
 | x::l=>sP lt x (bB l)
def Sd (l:List α):Prop:=l.Pairwise fun x y=>lt y x=false
def aCP (c:List α×Int×Int×Int):Prop:=0≤c.2.1∧0≤c.2.2.1∧0≤c.2.2.2∧c.2.1+c.2.2.2≤c.1.length∧c.2.2.1+c.2.2.2≤c.1.length∧c.1.length≤1048576
def aA8 (c:List α×Int×Int×Int):Prop:=0≤c.2.1∧c.2.1 < c.2.2.1∧c.2.2.1 < c.2.2.2∧c.2.2.2≤c.1.length∧c.1.length≤1048576
def aE7 (c:List α×Int×Int):Prop:=0≤c.2.1∧c.2.1≤c.2.2∧c.2.2≤c.1.length∧c.1.length≤1048576
def aFE (c:List α×Int×Int×Int):Prop:=aA8 c∧Sd lt (seg c.1 c.2.1.toNat c.2.2.1.toNat)∧Sd lt (seg c.1 c.2.2.1.toNat c.2.2.2.toNat)
def aHD (c:List α×Int×Int×Int):Nat:=(c.2.2.2 - c.2.1).toNat
end
section jobs
def aH9 (c:aB×aB):Int:=orI [fG (c.1.1.2.2.1,c.2.1.2.2.1),fG (c.2.2.1,c.1.2.1)]
def ltW (a b:aB):Bool:=decide (aH9 (a,b) < 0)
end jobs
structure Weak {α:Type} (lt:α→α→Bool):Prop where
 asym:∀ {x y},lt x y=true→lt y x=false
 le:∀ {x y z},lt y x=false→lt z y=false→lt z x=false
section
variable {α:Type} {lt:α→α→Bool}
def kin (lt:α→α→Bool) (z y:α):Bool:=!lt z y&&!lt y z
def FE (lt:α→α→Bool) (l l':List α):Prop:=∀ z,l.filter (kin lt z)=l'.filter (kin lt z)
theorem FE.refl (l:List α):FE lt l l:=fun _=>rfl
theorem FE.symm {l l':List α} (h:FE lt l l'):FE lt l' l:=fun z=>(h z).symm
theorem FE.trans {a b c:List α} (h:FE lt a b) (k:FE lt b c):FE lt a c:=fun z=>(h z).trans (k z)
theorem FE.app {a b c d:List α} (h:FE lt a b) (k:FE lt c d):FE lt (a++c) (b++d):=fun z=>by rw [List.filter_append,List.filter_append,h z,k z]
theorem FE.cancel {p l l' q:List α} (h:FE lt (p++l++q) (p++l'++q)):FE lt l l':=fun z=>by
 have:=h z
 simp only [List.filter_append] at this
 exact List.append_cancel_left (List.append_cancel_right this)
theorem Weak.irr (w:Weak lt) (x:α):lt x x=false:=by
 cases h:lt x x with
 | false=>rfl
 | true=>rw [w.asym h] at h; cases h
theorem zF (w:Weak lt) (x:α):kin lt x x=true:=by simp [kin,w.irr x]
theorem aBT {z y:α}:kin lt z y=true↔lt z y=false∧lt y z=false:=by simp [kin]
theorem aGN (w:Weak lt) {z x y:α} (hx:kin lt z x=true) (hy:kin lt z y=true):lt x y=false:=by
 rw [aBT] at hx hy
 exact w.le (y:=z) hy.1 hx.2
theorem FE.mem (w:Weak lt) {l l':List α} (h:FE lt l l') {x:α} (hx:x∈l):x∈l':=by
 have:x∈l.filter (kin lt x):=List.mem_filter.2 ⟨hx,zF w x⟩
 rw [h x] at this
 exact (List.mem_filter.1 this).1
theorem FE.swap (w:Weak lt) {a b:List α} (h:∀ x∈a,∀ y∈b,lt y x=true):FE lt (a++b) (b++a):=fun z=>by
 rw [List.filter_append,List.filter_append]
 cases ha:a.filter (kin lt z) with
 | nil=>simp
 | cons x r =>
  have hb:b.filter (kin lt z)=[]:=by
   rw [List.filter_eq_nil_iff]
   intro y hy hzy
   have hx:x∈a.filter (kin lt z):=by rw [ha]; simp
   obtain ⟨h1,h2⟩:=List.mem_filter.1 hx
   have:=aGN w hzy h2
   rw [h x h1 y hy] at this
   cases this
  rw [hb]
  simp
theorem Sd.uniq (w:Weak lt):∀ {l l':List α},Sd lt l→Sd lt l'→FE lt l l'→l=l'
 | [],[],_,_,_=>rfl
 | [],y::l',_,_,h=>by have:=FE.mem w h.symm (x:=y) (by simp); simp at this
 | x::l,[],_,_,h=>by have:=FE.mem w h (x:=x) (by simp); simp at this
 | x::l,y::l',h1,h2,h=>by
  have e1:lt x y=false:=by
   have:x∈y::l':=FE.mem w h (by simp)
   rcases List.mem_cons.1 this with rfl | hm
   ·exact w.irr _
   ·exact (List.pairwise_cons.1 h2).1 x hm
  have e2:lt y x=false:=by
   have:y∈x::l:=FE.mem w h.symm (by simp)
   rcases List.mem_cons.1 this with rfl | hm
   ·exact w.irr _
   ·exact (List.pairwise_cons.1 h1).1 y hm
  have e3:=h x
  rw [List.filter_cons_of_pos (zF w x),List.filter_cons_of_pos (aBT.2 ⟨e1,e2⟩)] at e3
  have hxy:=(List.cons.inj e3).1
  subst hxy
  have:FE lt l l':=fun z=>by
   have e4:=h z
   cases hz:kin lt z x with
   | true =>
    rw [List.filter_cons_of_pos hz,List.filter_cons_of_pos hz] at e4
    exact (List.cons.inj e4).2
   | false =>
    rw [List.filter_cons_of_neg (by simp [hz]),List.filter_cons_of_neg (by simp [hz])] at e4
    exact e4
  rw [Sd.uniq w (List.pairwise_cons.1 h1).2 (List.pairwise_cons.1 h2).2 this]
theorem xB (w:Weak lt) (x:α):∀ l,FE lt (sP lt x l) (x::l)
 | []=>FE.refl _
 | y::l=>by
  simp only [sP]
  split
  ·rename_i h
   refine FE.trans (FE.app (FE.refl [y]) (xB w x l)) ?_
   have k:=FE.app (FE.swap w (a:=[x]) (b:=[y]) (by simpa using h)) (FE.refl (lt:=lt) l)
   exact fun z=>by simpa using (k z).symm
  ·exact FE.refl _
theorem iO (w:Weak lt):∀ l,FE lt (bB lt l) l
 | []=>FE.refl _
 | x::l=>(xB w x _).trans (FE.app (FE.refl [x]) (iO w l))
theorem aBK (w:Weak lt) (x:α):∀ {l},Sd lt l→Sd lt (sP lt x l)
 | [],_=>by simp [sP,Sd]
 | y::l,h=>by
  have hc:=List.pairwise_cons.1 h
  simp only [sP]
  split
  ·rename_i hyx
   refine List.pairwise_cons.2 ⟨fun z hz=>?_,aBK w x hc.2⟩
   have:z∈x::l:=FE.mem w (xB w x l) hz
   rcases List.mem_cons.1 this with rfl | hm
   ·exact w.asym hyx
   ·exact hc.1 z hm
  ·rename_i hyx
   have hyx:lt y x=false:=by simpa using hyx
   refine List.pairwise_cons.2 ⟨fun z hz=>?_,h⟩
   rcases List.mem_cons.1 hz with rfl | hm
   ·exact hyx
   ·exact w.le hyx (hc.1 z hm)
theorem mF (w:Weak lt):∀ l,Sd lt (bB lt l)
 | []=>List.Pairwise.nil
 | x::l=>aBK w x (mF w l)
theorem sH (w:Weak lt) {l s:List α} (h1:Sd lt s) (h2:FE lt s l):s=bB lt l:=Sd.uniq w h1 (mF w l) (h2.trans (iO w l).symm)
theorem oZ (w:Weak lt) {l:List α} (h:Sd lt l):bB lt l=l:=(sH w h (FE.refl l)).symm
theorem rB (x:α):∀ l,(sP lt x l).length=l.length+1
 | []=>rfl
 | y::l=>by
  simp only [sP]
  split
  ·simp [rB x l]
  ·rfl
theorem cJ:∀ l,(bB lt l).length=l.length
 | []=>rfl
 | x::l=>by simp [bB,rB,cJ l]
theorem qA (w:Weak lt) {l:List α} {x:α}:x∈bB lt l↔x∈l:=⟨FE.mem w (iO w l),FE.mem w (iO w l).symm⟩
end
section
variable {α:Type}
theorem cN (l:List α) (a b:Nat) (h:b≤l.length):(seg l a b).length=b - a:=by
 unfold seg
 rw [List.length_take,List.length_drop]
 omega
theorem oF (l:List α) {a b:Nat} (h:a≤b):l=l.take a++seg l a b++l.drop b:=by
 unfold seg
 rw [List.append_assoc]
 have:l.drop b=(l.drop a).drop (b - a):=by rw [List.drop_drop]; congr 1; omega
 rw [this,List.take_append_drop,List.take_append_drop]
theorem jE (p s q:List α):seg (p++s++q) p.length (p.length+s.length)=s:=by
 unfold seg
 rw [List.append_assoc,List.drop_left,Nat.add_sub_cancel_left,List.take_left]
theorem aEH (p s q:List α):(p++s++q).take p.length=p:=by rw [List.append_assoc,List.take_left]
theorem aES (p s q:List α):(p++s++q).drop (p.length+s.length)=q:=by rw [← List.length_append,List.drop_left]
theorem sZ (f:List α→List α) (p s q:List α):dY f (p++s++q) p.length (p.length+s.length)=p++f s++q:=by
 unfold dY
 rw [jE,aEH,aES]
theorem iZ {f:List α→List α} (hf:∀ l,(f l).length=l.length) (l:List α) {a b:Nat} (h:a≤b) (hb:b≤l.length):(dY f l a b).length=l.length:=by
 unfold dY
 rw [List.length_append,List.length_append,hf,cN l a b hb,List.length_take,List.length_drop]
 omega
theorem bI (l:List α) {a m b:Nat} (h1:a≤m) (h2:m≤b) (h3:b≤l.length):(dH l a m b).length=l.length:=by
 unfold dH
 simp only [List.length_append,cN l m b h3,cN l a m (by omega),List.length_take,List.length_drop]
 omega
end
section
variable {α:Type} [Inhabited α] {lt:α→α→Bool}
theorem fR (l:List α) (i j:Nat):(swp l i j).length=l.length:=by simp [swp]
theorem b7 (l:List α) (a b k:Nat):(mG l a b k).length=l.length:=by
 induction k with
 | zero=>rfl
 | succ k ih=>rw [mG,fR,ih]
theorem iR (l:List α) {i j:Nat} (hi:i < l.length) (hj:j < l.length) (k:Nat):(swp l i j).getD k default=if k=j then l.getD i default else if k=i then l.getD j default else l.getD k default:=by
 unfold swp
 simp only [List.getD_eq_getElem?_getD,List.getElem?_set,List.length_set]
 by_cases h1:k=j
 ·subst h1
  rw [if_pos rfl,if_pos rfl,if_pos hj]
  rfl
 ·rw [if_neg (fun h=>h1 h.symm),if_neg h1]
  by_cases h2:k=i
  ·subst h2
   rw [if_pos rfl,if_pos rfl,if_pos hi]
   rfl
  ·rw [if_neg (fun h=>h2 h.symm),if_neg h2]
theorem eS {l m:List α} (h:l.length=m.length) (e:∀ k,k < l.length→l.getD k default=m.getD k default):l=m:=by
 apply List.ext_getElem h
 intro k h1 h2
 have:=e k h1
 simpa [List.getD_eq_getElem?_getD,h1,h2] using this
theorem eB (l m:List α) (k:Nat):(l++m).getD k default=if k < l.length then l.getD k default else m.getD (k - l.length) default:=by
 simp only [List.getD_eq_getElem?_getD]
 by_cases h:k < l.length
 ·rw [if_pos h,List.getElem?_append_left h]
 ·rw [if_neg h,List.getElem?_append_right (by omega)]
theorem iK (l:List α) (a b k:Nat) (h:k < b - a):(seg l a b).getD k default=l.getD (a+k) default:=by
 unfold seg
 simp only [List.getD_eq_getElem?_getD]
 rw [List.getElem?_take_of_lt h,List.getElem?_drop]
theorem kQ (l:List α) {a b:Nat}:∀ {k:Nat},a+k≤l.length→b+k≤l.length→(a+k≤b∨b+k≤a)→∀ i,(mG l a b k).getD i default=if a≤i∧i < a+k then l.getD (b+(i - a)) default else if b≤i∧i < b+k then l.getD (a+(i - b)) default else l.getD i default
 | 0,_,_,_,i=>by
  rw [if_neg (by omega),if_neg (by omega)]
  rfl
 | k+1,ha,hb,hd,i=>by
  have ih:=fun i=>kQ l (k:=k) (a:=a) (b:=b) (by omega) (by omega) (by omega) i
  rw [mG,iR _ (by rw [b7]; omega) (by rw [b7]; omega)]
  by_cases h1:i=b+k
  ·subst h1
   rw [if_pos rfl,ih,if_neg (by omega),if_neg (by omega),if_neg (by omega),if_pos (by omega)]
   congr 1
   omega
  ·rw [if_neg h1]
   by_cases h2:i=a+k
   ·subst h2
    rw [if_pos rfl,ih,if_neg (by omega),if_neg (by omega),if_pos (by omega)]
    congr 1
    omega
   ·rw [if_neg h2,ih]
    by_cases h3:a≤i∧i < a+k
    ·rw [if_pos h3,if_pos (by omega)]
    ·by_cases h4:b≤i∧i < b+k
     ·rw [if_neg h3,if_pos h4,if_neg (show ¬(a≤i∧i < a+(k+1)) by omega),if_pos (by omega)]
     ·rw [if_neg h3,if_neg h4,if_neg (show ¬(a≤i∧i < a+(k+1)) by omega),if_neg (by omega)]
theorem cL (l:List α) {a m b:Nat} (h1:a≤m) (h2:m≤b) (h3:b≤l.length) (i:Nat):(dH l a m b).getD i default=if a≤i∧i < b then (if i < a+(b - m) then l.getD (m+(i - a)) default else l.getD (i - (b - m)) default) else l.getD i default:=by
 have ht:(l.take a).length=a:=by rw [List.length_take]; omega
 have hs1:=cN l m b h3
 have hs2:=cN l a m (by omega)
 unfold dH
 rw [eB,eB,eB,List.length_append,List.length_append,ht,hs1,hs2]
 by_cases h4:i < a
 ·rw [if_pos (show i < a+(b - m+(m - a)) by omega),if_pos h4,if_neg (by omega)]
  simp [List.getD_eq_getElem?_getD,List.getElem?_take_of_lt h4]
 ·by_cases h5:i < b
  ·rw [if_pos (show i < a+(b - m+(m - a)) by omega),if_neg h4,if_pos (show a≤i∧i < b from ⟨by omega,h5⟩)]
   by_cases h6:i < a+(b - m)
   ·rw [if_pos (show i - a < b - m by omega),if_pos h6,iK _ _ _ _ (by omega)]
   ·rw [if_neg (show ¬i - a < b - m by omega),if_neg h6,iK _ _ _ _ (by omega)]
    congr 1
    omega
  ·rw [if_neg (show ¬i < a+(b - m+(m - a)) by omega),if_neg (show ¬(a≤i∧i < b) by omega)]
   simp only [List.getD_eq_getElem?_getD,List.getElem?_drop]
   congr 2
   omega
theorem aCA (l:List α) {a m b i j:Nat} (hi:i≤m) (hb:m+j≤l.length) (hij:j < i) (hj:0 < j) :
  dH (mG l (m - i) m j) (m - (i - j)) m (m+j)=dH l (m - i) m (m+j):=by
 refine eS (by rw [bI _ (by omega) (by omega) (by rw [b7]; omega),bI _ (by omega) (by omega) hb,b7]) fun k _=>?_
 rw [cL _ (by omega) (by omega) (by rw [b7]; omega),cL _ (by omega) (by omega) hb]
 simp only [kQ l (a:=m - i) (b:=m) (k:=j) (by omega) (by omega) (by omega)]
 repeat' split
 all_goals first | rfl | (exfalso; omega) | (congr 1; omega)
theorem aCS (l:List α) {m i j:Nat} (hi:i≤m) (hb:m+j≤l.length) (hij:i < j) (hi0:0 < i) :
  dH (mG l (m - i) (m+j - i) i) (m - i) m (m+(j - i))=dH l (m - i) m (m+j):=by
 refine eS (by rw [bI _ (by omega) (by omega) (by rw [b7]; omega),bI _ (by omega) (by omega) hb,b7]) fun k _=>?_
 rw [cL _ (by omega) (by omega) (by rw [b7]; omega),cL _ (by omega) (by omega) hb]
 simp only [kQ l (a:=m - i) (b:=m+j - i) (k:=i) (by omega) (by omega) (by omega)]
 repeat' split
 all_goals first | rfl | (exfalso; omega) | (congr 1; omega)
theorem aFN (l:List α) {m i:Nat} (hi:i≤m) (hb:m+i≤l.length):mG l (m - i) m i=dH l (m - i) m (m+i):=by
 refine eS (by rw [bI _ (by omega) (by omega) hb,b7]) fun k _=>?_
 rw [cL _ (by omega) (by omega) hb,kQ l (by omega) (by omega) (by omega)]
 repeat' split
 all_goals first | rfl | (exfalso; omega) | (congr 1; omega)
end
section
variable {α:Type} {lt:α→α→Bool}
theorem aHC (w:Weak lt) {y u v x:α} (h1:lt u y=false) (h2:lt u v=true) (h3:lt x v=false):lt y x=true:=by
 cases h:lt y x with
 | true=>rfl
 | false =>
  have:=w.le h3 (w.le h h1)
  rw [this] at h2
  cases h2
theorem aBV (l:List α) {a s m:Nat} (h1:a≤s) (h2:s≤m):seg l a m=seg l a s++seg l s m:=by
 unfold seg
 have:l.drop s=(l.drop a).drop (s - a):=by rw [List.drop_drop]; congr 1; omega
 rw [this,show m - a=(s - a)+(m - s) from by omega,List.take_add]
theorem aE8 (p u v q:List α):dH (p++u++v++q) p.length (p.length+u.length) (p.length+u.length+v.length)=p++v++u++q:=by
 unfold dH
 have e1:seg (p++u++v++q) (p.length+u.length) (p.length+u.length+v.length)=v:=by
  have:=jE (p++u) v q
  rwa [List.length_append] at this
 have e2:seg (p++u++v++q) p.length (p.length+u.length)=u:=by
  have:=jE p u (v++q)
  rwa [← List.append_assoc] at this
 have e3:(p++u++v++q).take p.length=p:=by rw [List.append_assoc,List.append_assoc,List.take_left]
 have e4:(p++u++v++q).drop (p.length+u.length+v.length)=q:=by
  rw [← List.length_append,← List.length_append,List.drop_left]
 rw [e1,e2,e3,e4]
 simp [List.append_assoc]
theorem aHY (l:List α) {a s m e b:Nat} (h1:a≤s) (h2:s≤m) (h3:m≤e) (h4:e≤b) (h5:b≤l.length) :
  l=l.take a++seg l a s++seg l s m++seg l m e++seg l e b++l.drop b:=by
 have e1:=oF l (a:=a) (b:=s) h1
 have cut:∀ x y,x≤y→l.drop x=seg l x y++l.drop y:=fun x y h=>by
  have:l.drop y=(l.drop x).drop (y - x):=by rw [List.drop_drop]; congr 1; omega
  rw [this]
  exact (List.take_append_drop _ _).symm
 rw [cut s m h2,cut m e h3,cut e b h4] at e1
 simp only [List.append_assoc] at e1 ⊢
 exact e1
end
section
variable {α:Type} [Inhabited α] {lt:α→α→Bool}
structure Same (lt:α→α→Bool) (l cur:List α) (a b:Nat):Prop where
 len:cur.length=l.length
 out:∀ k,k < a∨b≤k→cur.getD k default=l.getD k default
 fe:FE lt cur l
theorem Same.refl (l:List α) (a b:Nat):Same lt l l a b:=⟨rfl,fun _ _=>rfl,FE.refl _⟩
def SdI (lt:α→α→Bool) (cur:List α) (a b:Nat):Prop:=∀ p q,a≤p→p < q→q < b→lt (cur.getD q default) (cur.getD p default)=false
theorem cW {l:List α} {i:Nat} (h:i < l.length):l.getD i default=l[i]:=by simp [List.getD_eq_getElem?_getD,h]
theorem eT {cur:List α} {a b:Nat} (hb:b≤cur.length):SdI lt cur a b↔Sd lt (seg cur a b):=by
 have hl:=cN cur a b hb
 constructor
 ·intro h
  refine List.pairwise_iff_getElem.2 fun i j hi hj hij=>?_
  rw [hl] at hi hj
  have:=h (a+i) (a+j) (by omega) (by omega) (by omega)
  rw [← iK cur a b i (by omega),← iK cur a b j (by omega)] at this
  rw [cW (by rw [hl]; omega),cW (by rw [hl]; omega)] at this
  exact this
 ·intro h p q hp hpq hq
  have:=List.pairwise_iff_getElem.1 h (p - a) (q - a) (by rw [hl]; omega) (by rw [hl]; omega) (by omega)
  rw [← cW,← cW,iK cur a b _ (by omega),iK cur a b _ (by omega),show a+(p - a)=p from by omega,show a+(q - a)=q from by omega] at this
  exact this
theorem aFW {l m:List α} {a:Nat} (h:l.length=m.length) (e:∀ k,k < a→l.getD k default=m.getD k default):l.take a=m.take a:=by
 refine eS (by rw [List.length_take,List.length_take,h]) fun k hk=>?_
 rw [List.length_take] at hk
 have:=e k (by omega)
 simp only [List.getD_eq_getElem?_getD] at this ⊢
 rw [List.getElem?_take_of_lt (by omega),List.getElem?_take_of_lt (by omega)]
 exact this
theorem aFD {l m:List α} {b:Nat} (h:l.length=m.length) (e:∀ k,b≤k→l.getD k default=m.getD k default):l.drop b=m.drop b:=by
 refine eS (by rw [List.length_drop,List.length_drop,h]) fun k hk=>?_
 have:=e (b+k) (by omega)
 simp only [List.getD_eq_getElem?_getD] at this ⊢
 rw [List.getElem?_drop,List.getElem?_drop]
 exact this
theorem Same.done (w:Weak lt) {l cur:List α} {a b:Nat} (s:Same lt l cur a b) (hab:a≤b) (hb:b≤l.length) (hs:SdI lt cur a b):cur=dY (bB lt) l a b:=by
 have h1:=aFW (a:=a) s.len fun k hk=>s.out k (.inl hk)
 have h2:=aFD (b:=b) s.len fun k hk=>s.out k (.inr hk)
 have h3:FE lt (seg cur a b) (seg l a b):=by
  have:=s.fe
  rw [oF cur hab,oF l hab,h1,h2] at this
  exact FE.cancel this
 have h4:=sH w ((eT (by rw [s.len]; exact hb)).1 hs) h3
 unfold dY
 rw [← h4,← h1,← h2]
 exact oF cur hab
theorem aGT (w:Weak lt) {l:List α} {k:Nat} (hk:k+1 < l.length) (h:lt (l.getD (k+1) default) (l.getD k default)=true):FE lt (swp l (k+1) k) l:=by
 have ht:(l.take k).length=k:=by rw [List.length_take]; omega
 have e1:l=l.take k++[l.getD k default,l.getD (k+1) default]++l.drop (k+2):=by
  refine eS (by simp only [List.length_append,List.length_take,List.length_drop,List.length_cons,List.length_nil]; omega) fun i hi=>?_
  rw [eB,eB,List.length_append,ht]
  by_cases h1:i < k
  ·rw [if_pos (by simp; omega),if_pos h1]
   simp [List.getD_eq_getElem?_getD,List.getElem?_take_of_lt h1]
  ·by_cases h2:i < k+2
   ·rw [if_pos (by simp; omega),if_neg h1]
    have:i=k∨i=k+1:=by omega
    rcases this with rfl | rfl
    ·simp
    ·rw [show k+1 - k=1 from by omega]
     simp
   ·rw [if_neg (by simp; omega)]
    simp only [List.getD_eq_getElem?_getD,List.getElem?_drop]
    congr 2
    simp
    omega
 have e2:swp l (k+1) k=l.take k++[l.getD (k+1) default,l.getD k default]++l.drop (k+2):=by
  refine eS (by rw [fR]; simp only [List.length_append,List.length_take,List.length_drop,List.length_cons,List.length_nil]; omega) fun i hi=>?_
  rw [fR] at hi
  rw [iR l hk (by omega),eB,eB,List.length_append,ht]
  by_cases h1:i < k
  ·rw [if_neg (by omega),if_neg (by omega),if_pos (by simp; omega),if_pos h1]
   simp [List.getD_eq_getElem?_getD,List.getElem?_take_of_lt h1]
  ·by_cases h2:i < k+2
   ·have:i=k∨i=k+1:=by omega
    rcases this with rfl | rfl
    ·rw [if_pos rfl,if_pos (by simp),if_neg h1]
     simp
    ·rw [if_neg (by omega),if_pos rfl,if_pos (by simp),if_neg h1,show k+1 - k=1 from by omega]
     simp
   ·rw [if_neg (by omega),if_neg (by omega),if_neg (by simp; omega)]
    simp only [List.getD_eq_getElem?_getD,List.getElem?_drop]
    congr 2
    simp
    omega
 rw [e2]
 conv=>rhs; rw [e1]
 refine FE.app (FE.app (FE.refl _) ?_) (FE.refl _)
 exact (FE.swap w (a:=[l.getD k default]) (b:=[l.getD (k+1) default]) (by simpa using h)).symm
theorem Same.swp (w:Weak lt) {l cur:List α} {a b k:Nat} (s:Same lt l cur a b) (hb:b≤l.length) (hk:a≤k) (hkb:k+1 < b) (h:lt (cur.getD (k+1) default) (cur.getD k default)=true):Same lt l (swp cur (k+1) k) a b:=by
 have hl:k+1 < cur.length:=by rw [s.len]; omega
 refine ⟨by rw [fR,s.len],fun i hi=>?_,(aGT w hl h).trans s.fe⟩
 rw [iR cur hl (by omega),if_neg (by omega),if_neg (by omega)]
 exact s.out i hi
structure InsI (lt:α→α→Bool) (l:List α) (a b i j:Nat) (cur:List α):Prop where
 same:Same lt l cur a b
 aj:a≤j
 ji:j≤i
 ib:i < b
 sd:∀ p q,a≤p→p < q→q≤i→q≠j→lt (cur.getD q default) (cur.getD p default)=false
theorem InsI.init {l cur:List α} {a b i:Nat} (s:Same lt l cur a b) (hi:a≤i) (ib:i < b) (h:SdI lt cur a i):InsI lt l a b i i cur :=
 ⟨s,hi,Nat.le_refl _,ib,fun p q h1 h2 h3 h4=>h p q h1 h2 (by omega)⟩
theorem InsI.step (w:Weak lt) {l cur:List α} {a b i j:Nat} (s:InsI lt l a b i (j+1) cur) (hb:b≤l.length) (hj:a≤j) (h:lt (cur.getD (j+1) default) (cur.getD j default)=true):InsI lt l a b i j (swp cur (j+1) j):=by
 have ji:=s.ji
 have ib:=s.ib
 have hl:j+1 < cur.length:=by rw [s.same.len]; omega
 refine ⟨s.same.swp w hb hj (by omega) h,hj,by omega,ib,fun p q h1 h2 h3 h4=>?_⟩
 rw [iR cur hl (by omega),iR cur hl (by omega)]
 by_cases hq:q=j+1
 ·subst hq
  rw [if_neg (by omega),if_pos rfl]
  by_cases hp:p=j
  ·subst hp
   rw [if_pos rfl]
   exact w.asym h
  ·rw [if_neg hp,if_neg (by omega)]
   exact s.sd p j h1 (by omega) (by omega) (by omega)
 ·rw [if_neg h4,if_neg hq]
  by_cases hp:p=j
  ·subst hp
   rw [if_pos rfl]
   exact w.le (w.asym h) (s.sd p q h1 (by omega) h3 hq)
  ·by_cases hp2:p=j+1
   ·subst hp2
    rw [if_neg (by omega),if_pos rfl]
    exact s.sd j q hj (by omega) h3 hq
   ·rw [if_neg hp,if_neg hp2]
    exact s.sd p q h1 h2 h3 hq
theorem InsI.stop (w:Weak lt) {l cur:List α} {a b i j:Nat} (s:InsI lt l a b i j cur) (h:j=a∨a < j∧lt (cur.getD j default) (cur.getD (j - 1) default)=false):Same lt l cur a b∧SdI lt cur a (i+1):=by
 have ji:=s.ji
 refine ⟨s.same,fun p q h1 h2 h3=>?_⟩
 by_cases hq:q=j
 ·subst hq
  rcases h with h | ⟨h,h4⟩
  ·omega
  ·by_cases hp:p=q - 1
   ·subst hp
    exact h4
   ·exact w.le (s.sd p (q - 1) h1 (by omega) (by omega) (by omega)) h4
 ·exact s.sd p q h1 h2 (by omega) hq
-- merging
theorem rX (l:List α) {s m e:Nat} (h1:s≤m) (h2:m≤e) (h3:e≤l.length) (h:s=m∨m=e):dH l s m e=l:=by
 refine eS (bI l h1 h2 h3) fun k _=>?_
 rw [cL l h1 h2 h3]
 repeat' split
 all_goals first | rfl | (exfalso; omega) | (congr 1; omega)
theorem rU {l:List α} {a b:Nat} (hb:b≤l.length) {x:α} (h:x∈seg l a b):∃ k,a≤k∧k < b∧x=l.getD k default:=by
 obtain ⟨i,hi,rfl⟩:=List.mem_iff_getElem.1 h
 have hl:=cN l a b hb
 rw [hl] at hi
 refine ⟨a+i,by omega,by omega,?_⟩
 rw [← iK l a b i hi,cW (by rw [hl]; exact hi)]
theorem tO (w:Weak lt) (l:List α) {a s m e b mid:Nat} (h1:a≤s) (h2:s≤m) (h3:m≤e) (h4:e≤b) (h5:b≤l.length) (hmid:mid+m=s+e)
  (hX:Sd lt (seg l a m)) (hY:Sd lt (seg l m b)) (F1:s < m→m < e→lt (l.getD (e - 1) default) (l.getD s default)=true) (F2:a < s→e < b→lt (l.getD e default) (l.getD (s - 1) default)=false) :
  Sd lt (seg (dH l s m e) a s)∧Sd lt (seg (dH l s m e) s mid)∧(s=a∨s=mid→dY (bB lt) (dH l s m e) a mid=dH l s m e) ∧
  Sd lt (seg (dY (bB lt) (dH l s m e) a mid) mid e)∧Sd lt (seg (dY (bB lt) (dH l s m e) a mid) e b) ∧
  (e=mid∨e=b→dY (bB lt) (dY (bB lt) (dH l s m e) a mid) mid b=dY (bB lt) (dH l s m e) a mid) ∧
  dY (bB lt) (dY (bB lt) (dH l s m e) a mid) mid b=dY (bB lt) l a b:=by
 have f:=aHY l h1 h2 h3 h4 h5
 have sX:=(eT (by omega)).2 hX
 have sY:=(eT h5).2 hY
 rw [aBV l h1 h2] at hX
 rw [aBV l h3 h4] at hY
 obtain ⟨hX1,hX2,hX12⟩:=List.pairwise_append.1 hX
 obtain ⟨hY1,hY2,hY12⟩:=List.pairwise_append.1 hY
 -- how the pieces stand to one another
 have c21:∀ x∈seg l s m,∀ y∈seg l m e,lt y x=true:=by
  intro x hx y hy
  obtain ⟨p,hp1,hp2,rfl⟩:=rU (by omega) hx
  obtain ⟨q,hq1,hq2,rfl⟩:=rU (by omega) hy
  have g:=F1 (by omega) (by omega)
  refine aHC w ?_ g ?_
  ·by_cases hq:q=e - 1
   ·subst hq; exact w.irr _
   ·exact sY q (e - 1) hq1 (by omega) (by omega)
  ·by_cases hp:p=s
   ·subst hp; exact w.irr _
   ·exact sX s p h1 (by omega) hp2
 have c12:∀ x∈seg l a s,∀ y∈seg l e b,lt y x=false:=by
  intro x hx y hy
  obtain ⟨p,hp1,hp2,rfl⟩:=rU (by omega) hx
  obtain ⟨q,hq1,hq2,rfl⟩:=rU (by omega) hy
  have g:=F2 (by omega) (by omega)
  have g1:lt (l.getD (s - 1) default) (l.getD p default)=false:=by
   by_cases hp:p=s - 1
   ·subst hp; exact w.irr _
   ·exact sX p (s - 1) hp1 (by omega) (by omega)
  have g2:lt (l.getD q default) (l.getD e default)=false:=by
   by_cases hq:q=e
   ·subst hq; exact w.irr _
   ·exact sY e q h3 (by omega) hq2
  exact w.le g1 (w.le g g2)
 have lp:(l.take a).length=a:=by rw [List.length_take]; omega
 have lX1:=cN l a s (by omega)
 have lX2:=cN l s m (by omega)
 have lY1:=cN l m e (by omega)
 have lY2:=cN l e b h5
 generalize l.take a=P at *
 generalize seg l a s=X1 at *
 generalize seg l s m=X2 at *
 generalize seg l m e=Y1 at *
 generalize seg l e b=Y2 at *
 generalize l.drop b=Q at *
 have hr:dH l s m e=P++(X1++Y1)++(X2++Y2)++Q:=by
  have:=aE8 (P++X1) X2 Y1 (Y2++Q)
  rw [List.length_append,lp,lX1,lX2,lY1,show a+(s - a)=s from by omega,show s+(m - s)=m from by omega,show m+(e - m)=e from by omega] at this
  rw [f]
  simp only [List.append_assoc] at this ⊢
  exact this
 have sA:=mF w (X1++Y1)
 have hA:(X1++Y1).length=mid - a:=by rw [List.length_append]; omega
 have hsA:(bB lt (X1++Y1)).length=mid - a:=by rw [cJ,hA]
 have hB:(X2++Y2).length=b - mid:=by rw [List.length_append]; omega
 have e2:dY (bB lt) (dH l s m e) a mid=P++bB lt (X1++Y1)++(X2++Y2)++Q:=by
  have:=sZ (bB lt) P (X1++Y1) ((X2++Y2)++Q)
  rw [lp,hA,show a+(mid - a)=mid from by omega] at this
  rw [hr]
  simp only [List.append_assoc] at this ⊢
  exact this
 have e3:dY (bB lt) (dY (bB lt) (dH l s m e) a mid) mid b=P++bB lt (X1++Y1)++bB lt (X2++Y2)++Q:=by
  have:=sZ (bB lt) (P++bB lt (X1++Y1)) (X2++Y2) Q
  rw [List.length_append,lp,hsA,hB,show a+(mid - a)=mid from by omega,show mid+(b - mid)=b from by omega] at this
  rw [e2]
  exact this
 have e4:dY (bB lt) l a b=P++bB lt (X1++X2++Y1++Y2)++Q:=by
  have:=sZ (bB lt) P (X1++X2++Y1++Y2) Q
  simp only [List.length_append] at this
  rw [lp,lX1,lX2,lY1,lY2,show a+(s - a+(m - s)+(e - m)+(b - e))=b from by omega] at this
  rw [f]
  simp only [List.append_assoc] at this ⊢
  exact this
 have cross:∀ x∈X1++Y1,∀ y∈X2++Y2,lt y x=false:=by
  intro x hx y hy
  rcases List.mem_append.1 hx with hx | hx <;> rcases List.mem_append.1 hy with hy | hy
  ·exact hX12 x hx y hy
  ·exact c12 x hx y hy
  ·exact w.asym (c21 y hy x hx)
  ·exact hY12 x hx y hy
 have e5:bB lt (X1++Y1)++bB lt (X2++Y2)=bB lt (X1++X2++Y1++Y2):=by
  refine sH w (List.pairwise_append.2 ⟨sA,mF w _,fun x hx y hy=>cross x ((qA w).1 hx) y ((qA w).1 hy)⟩) ?_
  refine (FE.app (iO w _) (iO w _)).trans ?_
  have:=FE.app (FE.app (FE.refl (lt:=lt) X1) (FE.swap w c21).symm) (FE.refl Y2)
  simp only [List.append_assoc] at this ⊢
  exact this
 refine ⟨?_,?_,fun h=>?_,?_,?_,fun h=>?_,?_⟩
 ·have:=jE P X1 (Y1++(X2++Y2)++Q)
  rw [lp,lX1,show a+(s - a)=s from by omega] at this
  rw [hr]
  simp only [List.append_assoc] at this ⊢
  rw [this]
  exact hX1
 ·have:=jE (P++X1) Y1 ((X2++Y2)++Q)
  rw [List.length_append,lp,lX1,lY1,show a+(s - a)=s from by omega,show s+(e - m)=mid from by omega] at this
  rw [hr]
  simp only [List.append_assoc] at this ⊢
  rw [this]
  exact hY1
 ·rw [e2,hr]
  have:Sd lt (X1++Y1):=by
   rcases h with h | h
   ·have:X1=[]:=List.eq_nil_of_length_eq_zero (by omega)
    rw [this]; exact hY1
   ·have:Y1=[]:=List.eq_nil_of_length_eq_zero (by omega)
    rw [this,List.append_nil]; exact hX1
  rw [oZ w this]
 ·have:=jE (P++bB lt (X1++Y1)) X2 (Y2++Q)
  rw [List.length_append,lp,hsA,lX2,show a+(mid - a)=mid from by omega,show mid+(m - s)=e from by omega] at this
  rw [e2]
  simp only [List.append_assoc] at this ⊢
  rw [this]
  exact hX2
 ·have:=jE (P++bB lt (X1++Y1)++X2) Y2 Q
  simp only [List.length_append] at this
  rw [lp,hsA,lX2,lY2,show a+(mid - a)+(m - s)=e from by omega,show e+(b - e)=b from by omega] at this
  rw [e2]
  simp only [List.append_assoc] at this ⊢
  rw [this]
  exact hY2
 ·rw [e3,e2]
  have:Sd lt (X2++Y2):=by
   rcases h with h | h
   ·have:X2=[]:=List.eq_nil_of_length_eq_zero (by omega)
    rw [this]; exact hY2
   ·have:Y2=[]:=List.eq_nil_of_length_eq_zero (by omega)
    rw [this,List.append_nil]; exact hX2
  rw [oZ w this]
 ·rw [e3,e4,← e5]
  simp only [List.append_assoc]
theorem aCW (l:List α) {a k:Nat} (h:a≤k) (hk:k+1 < l.length):swp (dH l a (a+1) (k+1)) k (k+1)=dH l a (a+1) (k+2):=by
 have hl:=bI l (a:=a) (m:=a+1) (b:=k+1) (by omega) (by omega) (by omega)
 refine eS (by rw [fR,hl,bI l (by omega) (by omega) (by omega)]) fun i _=>?_
 rw [iR _ (by omega) (by omega)]
 simp only [cL l (a:=a) (m:=a+1) (b:=k+1) (by omega) (by omega) (by omega),cL l (a:=a) (m:=a+1) (b:=k+2) (by omega) (by omega) (by omega)]
 repeat' split
 all_goals first | rfl | (exfalso; omega) | (congr 1; omega)
theorem aDK (l:List α) {k m:Nat} (h:k < m) (hm:m < l.length):swp (dH l (k+1) m (m+1)) (k+1) k=dH l k m (m+1):=by
 have hl:=bI l (a:=k+1) (m:=m) (b:=m+1) (by omega) (by omega) (by omega)
 refine eS (by rw [fR,hl,bI l (by omega) (by omega) (by omega)]) fun i _=>?_
 rw [iR _ (by omega) (by omega)]
 simp only [cL l (a:=k+1) (m:=m) (b:=m+1) (by omega) (by omega) (by omega),cL l (a:=k) (m:=m) (b:=m+1) (by omega) (by omega) (by omega)]
 repeat' split
 all_goals first | rfl | (exfalso; omega) | (congr 1; omega)
theorem jP (w:Weak lt) (l:List α) {a b:Nat} (h:a≤b) (hb:b≤l.length):Same lt l (dY (bB lt) l a b) a b∧SdI lt (dY (bB lt) l a b) a b:=by
 have hl:=iZ (f:=bB lt) cJ l h hb
 have lp:(l.take a).length=a:=by rw [List.length_take]; omega
 have ls:(bB lt (seg l a b)).length=b - a:=by rw [cJ,cN l a b hb]
 refine ⟨⟨hl,fun k hk=>?_,?_⟩,?_⟩
 ·unfold dY
  rw [eB,eB,List.length_append,lp,ls]
  rcases hk with hk | hk
  ·rw [if_pos (by omega),if_pos hk]
   simp [List.getD_eq_getElem?_getD,List.getElem?_take_of_lt hk]
  ·rw [if_neg (by omega)]
   simp only [List.getD_eq_getElem?_getD,List.getElem?_drop]
   congr 2
   omega
 ·unfold dY
  conv=>rhs; rw [oF l h]
  exact FE.app (FE.app (FE.refl _) (iO w _)) (FE.refl _)
 ·refine (eT (by omega)).2 ?_
  have:=jE (l.take a) (bB lt (seg l a b)) (l.drop b)
  rw [lp,ls,show a+(b - a)=b from by omega] at this
  unfold dY
  rw [this]
  exact mF w _
theorem Same.sd {l c:List α} {a b p q:Nat} (s:Same lt l c a b) (h:SdI lt l p q) (hd:q≤a∨b≤p):SdI lt c p q:=fun i j h1 h2 h3=>by
 rw [s.out j (by omega),s.out i (by omega)]
 exact h i j h1 h2 h3
theorem SdI.all (w:Weak lt) {l c:List α} (hl:c.length=l.length) (hf:FE lt c l) (h:SdI lt c 0 l.length):c=bB lt l:=by
 have:=(Same.done w ⟨hl,fun k hk=>?_,hf⟩ (Nat.zero_le _) (Nat.le_refl _) h)
 ·rw [this]
  unfold dY seg
  simp
 ·have h1:l.length≤k:=by omega
  simp only [List.getD_eq_getElem?_getD]
  rw [List.getElem?_eq_none (by omega),List.getElem?_eq_none h1]
end
def Blks (cur:List aB) (bs n:Nat):Prop:=∀ k,SdI ltW cur (k * bs) (min (k * bs+bs) n)
theorem Blks.double {cur:List aB} {bs n t:Nat} (hbs:0 < bs) (hend:n < t * (2 * bs)+2 * bs) (lo:∀ k,k * (2 * bs)+2 * bs≤t * (2 * bs)→SdI ltW cur (k * (2 * bs)) (k * (2 * bs)+2 * bs)) (last:SdI ltW cur (t * (2 * bs)) n):Blks cur (2 * bs) n:=by
 intro k p q h1 h2 h3
 rcases Nat.lt_trichotomy k t with hk | hk | hk
 ·have:=Nat.mul_le_mul_right (2 * bs) (show k+1≤t from hk)
  rw [Nat.add_mul,Nat.one_mul] at this
  exact lo k this p q h1 h2 (by omega)
 ·subst hk
  exact last p q h1 h2 (by omega)
 ·have:=Nat.mul_le_mul_right (2 * bs) (show t+1≤k from hk)
  rw [Nat.add_mul,Nat.one_mul] at this
  omega
end Go.Abs
