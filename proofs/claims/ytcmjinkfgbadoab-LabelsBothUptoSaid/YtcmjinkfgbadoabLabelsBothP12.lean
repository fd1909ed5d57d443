/- Functions, and what the code asks of them: PSort. -/
import Derived.Test.YtcmjinkfgbadoabLabelsBothP5
import Derived.Test.YtcmjinkfgbadoabLabelsBothP10
set_option linter.unusedVariables false
set_option linter.unusedSimpArgs false
set_option linter.unusedSectionVars false
namespace Go.Abs
open Go
section
variable {α:Type} [Inhabited α]
def swp (l:List α) (i j:Nat):List α:=(l.set i (l.getD j default)).set j (l.getD i default)
def seg (l:List α) (a b:Nat):List α:=(l.drop a).take (b - a)
def aKV (f:List α→List α) (l:List α) (a b:Nat):List α:=l.take a++f (seg l a b)++l.drop b
variable (lt:α→α→Bool)
def aDQ (x:α):List α→List α
 | []=>[x]
 | y::l=>if lt y x=true then y::aDQ x l else x::y::l
def xW:List α→List α
 | []=>[]
 | x::l=>aDQ lt x (xW l)
def Sd (l:List α):Prop:=l.Pairwise fun x y=>lt y x=false
end
structure Weak {α:Type} (lt:α→α→Bool):Prop where
 asym:∀ {x y},lt x y=true→lt y x=false
 le:∀ {x y z},lt y x=false→lt z y=false→lt z x=false
section
variable {α:Type} {lt:α→α→Bool}
def kin (lt:α→α→Bool) (z y:α):Bool:=!lt z y&&!lt y z
def FE (lt:α→α→Bool) (l l':List α):Prop:=∀ z,l.filter (kin lt z)=l'.filter (kin lt z)
theorem FE.refl (l:List α):FE lt l l:=fun _=>rfl
theorem FE.symm {l l':List α} (h:FE lt l l'):FE lt l' l:=fun z=>(h z).symm
theorem FE.trans {a b c:List α} (h:FE lt a b) (k:FE lt b c):FE lt a c:=fun z=>(h z).trans (k z)
theorem FE.app {a b c d:List α} (h:FE lt a b) (k:FE lt c d):FE lt (a++c) (b++d):=fun z=>by rw [List.filter_append,List.filter_append,h z,k z]
theorem FE.cancel {p l l' q:List α} (h:FE lt (p++l++q) (p++l'++q)):FE lt l l':=fun z=>by
 have:=h z
 simp only [List.filter_append] at this
 exact List.append_cancel_left (List.append_cancel_right this)
theorem Weak.irr (w:Weak lt) (x:α):lt x x=false:=by
 cases h:lt x x with
 | false=>rfl
 | true=>rw [w.asym h] at h; cases h
theorem aAO (w:Weak lt) (x:α):kin lt x x=true:=by simp [kin,w.irr x]
theorem aEO {z y:α}:kin lt z y=true↔lt z y=false∧lt y z=false:=by simp [kin]
theorem aK5 (w:Weak lt) {z x y:α} (hx:kin lt z x=true) (hy:kin lt z y=true):lt x y=false:=by
 rw [aEO] at hx hy
 exact w.le (y:=z) hy.1 hx.2
theorem FE.mem (w:Weak lt) {l l':List α} (h:FE lt l l') {x:α} (hx:x∈l):x∈l':=by
 have:x∈l.filter (kin lt x):=List.mem_filter.2 ⟨hx,aAO w x⟩
 rw [h x] at this
 exact (List.mem_filter.1 this).1
theorem FE.swap (w:Weak lt) {a b:List α} (h:∀ x∈a,∀ y∈b,lt y x=true):FE lt (a++b) (b++a):=fun z=>by
 rw [List.filter_append,List.filter_append]
 cases ha:a.filter (kin lt z) with
 | nil=>simp
 | cons x r =>
  have hb:b.filter (kin lt z)=[]:=by
   rw [List.filter_eq_nil_iff]
   intro y hy hzy
   have hx:x∈a.filter (kin lt z):=by rw [ha]; simp
   obtain ⟨h1,h2⟩:=List.mem_filter.1 hx
   have:=aK5 w hzy h2
   rw [h x h1 y hy] at this
   cases this
  rw [hb]
  simp
theorem Sd.uniq (w:Weak lt):∀ {l l':List α},Sd lt l→Sd lt l'→FE lt l l'→l=l'
 | [],[],_,_,_=>rfl
 | [],y::l',_,_,h=>by have:=FE.mem w h.symm (x:=y) (by simp); simp at this
 | x::l,[],_,_,h=>by have:=FE.mem w h (x:=x) (by simp); simp at this
 | x::l,y::l',h1,h2,h=>by
  have e1:lt x y=false:=by
   have:x∈y::l':=FE.mem w h (by simp)
   rcases List.mem_cons.1 this with rfl | hm
   ·exact w.irr _
   ·exact (List.pairwise_cons.1 h2).1 x hm
  have e2:lt y x=false:=by
   have:y∈x::l:=FE.mem w h.symm (by simp)
   rcases List.mem_cons.1 this with rfl | hm
   ·exact w.irr _
   ·exact (List.pairwise_cons.1 h1).1 y hm
  have e3:=h x
  rw [List.filter_cons_of_pos (aAO w x),List.filter_cons_of_pos (aEO.2 ⟨e1,e2⟩)] at e3
  have hxy:=(List.cons.inj e3).1
  subst hxy
  have:FE lt l l':=fun z=>by
   have e4:=h z
   cases hz:kin lt z x with
   | true =>
    rw [List.filter_cons_of_pos hz,List.filter_cons_of_pos hz] at e4
    exact (List.cons.inj e4).2
   | false =>
    rw [List.filter_cons_of_neg (by simp [hz]),List.filter_cons_of_neg (by simp [hz])] at e4
    exact e4
  rw [Sd.uniq w (List.pairwise_cons.1 h1).2 (List.pairwise_cons.1 h2).2 this]
theorem aAG (w:Weak lt) (x:α):∀ l,FE lt (aDQ lt x l) (x::l)
 | []=>FE.refl _
 | y::l=>by
  simp only [aDQ]
  split
  ·rename_i h
   refine FE.trans (FE.app (FE.refl [y]) (aAG w x l)) ?_
   have k:=FE.app (FE.swap w (a:=[x]) (b:=[y]) (by simpa using h)) (FE.refl (lt:=lt) l)
   exact fun z=>by simpa using (k z).symm
  ·exact FE.refl _
theorem aBW (w:Weak lt):∀ l,FE lt (xW lt l) l
 | []=>FE.refl _
 | x::l=>(aAG w x _).trans (FE.app (FE.refl [x]) (aBW w l))
theorem aER (w:Weak lt) (x:α):∀ {l},Sd lt l→Sd lt (aDQ lt x l)
 | [],_=>by simp [aDQ,Sd]
 | y::l,h=>by
  have hc:=List.pairwise_cons.1 h
  simp only [aDQ]
  split
  ·rename_i hyx
   refine List.pairwise_cons.2 ⟨fun z hz=>?_,aER w x hc.2⟩
   have:z∈x::l:=FE.mem w (aAG w x l) hz
   rcases List.mem_cons.1 this with rfl | hm
   ·exact w.asym hyx
   ·exact hc.1 z hm
  ·rename_i hyx
   have hyx:lt y x=false:=by simpa using hyx
   refine List.pairwise_cons.2 ⟨fun z hz=>?_,h⟩
   rcases List.mem_cons.1 hz with rfl | hm
   ·exact hyx
   ·exact w.le hyx (hc.1 z hm)
theorem aBP (w:Weak lt):∀ l,Sd lt (xW lt l)
 | []=>List.Pairwise.nil
 | x::l=>aER w x (aBP w l)
theorem aH1 (w:Weak lt) {l s:List α} (h1:Sd lt s) (h2:FE lt s l):s=xW lt l:=Sd.uniq w h1 (aBP w l) (h2.trans (aBW w l).symm)
end
section
variable {α:Type}
theorem aDM (l:List α) (a b:Nat) (h:b≤l.length):(seg l a b).length=b - a:=by
 unfold seg
 rw [List.length_take,List.length_drop]
 omega
theorem aDA (l:List α) {a b:Nat} (h:a≤b):l=l.take a++seg l a b++l.drop b:=by
 unfold seg
 rw [List.append_assoc]
 have:l.drop b=(l.drop a).drop (b - a):=by rw [List.drop_drop]; congr 1; omega
 rw [this,List.take_append_drop,List.take_append_drop]
end
section
variable {α:Type} [Inhabited α] {lt:α→α→Bool}
theorem pR (l:List α) (i j:Nat):(swp l i j).length=l.length:=by simp [swp]
theorem qM (l:List α) {i j:Nat} (hi:i < l.length) (hj:j < l.length) (k:Nat):(swp l i j).getD k default=if k=j then l.getD i default else if k=i then l.getD j default else l.getD k default:=by
 unfold swp
 simp only [List.getD_eq_getElem?_getD,List.getElem?_set,List.length_set]
 by_cases h1:k=j
 ·subst h1
  rw [if_pos rfl,if_pos rfl,if_pos hj]
  rfl
 ·rw [if_neg (fun h=>h1 h.symm),if_neg h1]
  by_cases h2:k=i
  ·subst h2
   rw [if_pos rfl,if_pos rfl,if_pos hi]
   rfl
  ·rw [if_neg (fun h=>h2 h.symm),if_neg h2]
theorem nM {l m:List α} (h:l.length=m.length) (e:∀ k,k < l.length→l.getD k default=m.getD k default):l=m:=by
 apply List.ext_getElem h
 intro k h1 h2
 have:=e k h1
 simpa [List.getD_eq_getElem?_getD,h1,h2] using this
theorem kI (l m:List α) (k:Nat):(l++m).getD k default=if k < l.length then l.getD k default else m.getD (k - l.length) default:=by
 simp only [List.getD_eq_getElem?_getD]
 by_cases h:k < l.length
 ·rw [if_pos h,List.getElem?_append_left h]
 ·rw [if_neg h,List.getElem?_append_right (by omega)]
theorem pV (l:List α) (a b k:Nat) (h:k < b - a):(seg l a b).getD k default=l.getD (a+k) default:=by
 unfold seg
 simp only [List.getD_eq_getElem?_getD]
 rw [List.getElem?_take_of_lt h,List.getElem?_drop]
end
section
variable {α:Type} [Inhabited α] {lt:α→α→Bool}
structure Same (lt:α→α→Bool) (l cur:List α) (a b:Nat):Prop where
 len:cur.length=l.length
 out:∀ k,k < a∨b≤k→cur.getD k default=l.getD k default
 fe:FE lt cur l
theorem Same.refl (l:List α) (a b:Nat):Same lt l l a b:=⟨rfl,fun _ _=>rfl,FE.refl _⟩
def SdI (lt:α→α→Bool) (cur:List α) (a b:Nat):Prop:=∀ p q,a≤p→p < q→q < b→lt (cur.getD q default) (cur.getD p default)=false
theorem rC {l:List α} {i:Nat} (h:i < l.length):l.getD i default=l[i]:=by simp [List.getD_eq_getElem?_getD,h]
theorem aJ6 {cur:List α} {a b:Nat} (hb:b≤cur.length):SdI lt cur a b↔Sd lt (seg cur a b):=by
 have hl:=aDM cur a b hb
 constructor
 ·intro h
  refine List.pairwise_iff_getElem.2 fun i j hi hj hij=>?_
  rw [hl] at hi hj
  have:=h (a+i) (a+j) (by omega) (by omega) (by omega)
  rw [← pV cur a b i (by omega),← pV cur a b j (by omega)] at this
  rw [rC (by rw [hl]; omega),rC (by rw [hl]; omega)] at this
  exact this
 ·intro h p q hp hpq hq
  have:=List.pairwise_iff_getElem.1 h (p - a) (q - a) (by rw [hl]; omega) (by rw [hl]; omega) (by omega)
  rw [← rC,← rC,pV cur a b _ (by omega),pV cur a b _ (by omega),show a+(p - a)=p from by omega,show a+(q - a)=q from by omega] at this
  exact this
theorem aJS {l m:List α} {a:Nat} (h:l.length=m.length) (e:∀ k,k < a→l.getD k default=m.getD k default):l.take a=m.take a:=by
 refine nM (by rw [List.length_take,List.length_take,h]) fun k hk=>?_
 rw [List.length_take] at hk
 have:=e k (by omega)
 simp only [List.getD_eq_getElem?_getD] at this ⊢
 rw [List.getElem?_take_of_lt (by omega),List.getElem?_take_of_lt (by omega)]
 exact this
theorem aJP {l m:List α} {b:Nat} (h:l.length=m.length) (e:∀ k,b≤k→l.getD k default=m.getD k default):l.drop b=m.drop b:=by
 refine nM (by rw [List.length_drop,List.length_drop,h]) fun k hk=>?_
 have:=e (b+k) (by omega)
 simp only [List.getD_eq_getElem?_getD] at this ⊢
 rw [List.getElem?_drop,List.getElem?_drop]
 exact this
theorem Same.done (w:Weak lt) {l cur:List α} {a b:Nat} (s:Same lt l cur a b) (hab:a≤b) (hb:b≤l.length) (hs:SdI lt cur a b):cur=aKV (xW lt) l a b:=by
 have h1:=aJS (a:=a) s.len fun k hk=>s.out k (.inl hk)
 have h2:=aJP (b:=b) s.len fun k hk=>s.out k (.inr hk)
 have h3:FE lt (seg cur a b) (seg l a b):=by
  have:=s.fe
  rw [aDA cur hab,aDA l hab,h1,h2] at this
  exact FE.cancel this
 have h4:=aH1 w ((aJ6 (by rw [s.len]; exact hb)).1 hs) h3
 unfold aKV
 rw [← h4,← h1,← h2]
 exact aDA cur hab
theorem aKN (w:Weak lt) {l:List α} {k:Nat} (hk:k+1 < l.length) (h:lt (l.getD (k+1) default) (l.getD k default)=true):FE lt (swp l (k+1) k) l:=by
 have ht:(l.take k).length=k:=by rw [List.length_take]; omega
 have e1:l=l.take k++[l.getD k default,l.getD (k+1) default]++l.drop (k+2):=by
  refine nM (by simp only [List.length_append,List.length_take,List.length_drop,List.length_cons,List.length_nil]; omega) fun i hi=>?_
  rw [kI,kI,List.length_append,ht]
  by_cases h1:i < k
  ·rw [if_pos (by simp; omega),if_pos h1]
   simp [List.getD_eq_getElem?_getD,List.getElem?_take_of_lt h1]
  ·by_cases h2:i < k+2
   ·rw [if_pos (by simp; omega),if_neg h1]
    have:i=k∨i=k+1:=by omega
    rcases this with rfl | rfl
    ·simp
    ·rw [show k+1 - k=1 from by omega]
     simp
   ·rw [if_neg (by simp; omega)]
    simp only [List.getD_eq_getElem?_getD,List.getElem?_drop]
    congr 2
    simp
    omega
 have e2:swp l (k+1) k=l.take k++[l.getD (k+1) default,l.getD k default]++l.drop (k+2):=by
  refine nM (by rw [pR]; simp only [List.length_append,List.length_take,List.length_drop,List.length_cons,List.length_nil]; omega) fun i hi=>?_
  rw [pR] at hi
  rw [qM l hk (by omega),kI,kI,List.length_append,ht]
  by_cases h1:i < k
  ·rw [if_neg (by omega),if_neg (by omega),if_pos (by simp; omega),if_pos h1]
   simp [List.getD_eq_getElem?_getD,List.getElem?_take_of_lt h1]
  ·by_cases h2:i < k+2
   ·have:i=k∨i=k+1:=by omega
    rcases this with rfl | rfl
    ·rw [if_pos rfl,if_pos (by simp),if_neg h1]
     simp
    ·rw [if_neg (by omega),if_pos rfl,if_pos (by simp),if_neg h1,show k+1 - k=1 from by omega]
     simp
   ·rw [if_neg (by omega),if_neg (by omega),if_neg (by simp; omega)]
    simp only [List.getD_eq_getElem?_getD,List.getElem?_drop]
    congr 2
    simp
    omega
 rw [e2]
 conv=>rhs; rw [e1]
 refine FE.app (FE.app (FE.refl _) ?_) (FE.refl _)
 exact (FE.swap w (a:=[l.getD k default]) (b:=[l.getD (k+1) default]) (by simpa using h)).symm
theorem Same.swp (w:Weak lt) {l cur:List α} {a b k:Nat} (s:Same lt l cur a b) (hb:b≤l.length) (hk:a≤k) (hkb:k+1 < b) (h:lt (cur.getD (k+1) default) (cur.getD k default)=true):Same lt l (swp cur (k+1) k) a b:=by
 have hl:k+1 < cur.length:=by rw [s.len]; omega
 refine ⟨by rw [pR,s.len],fun i hi=>?_,(aKN w hl h).trans s.fe⟩
 rw [qM cur hl (by omega),if_neg (by omega),if_neg (by omega)]
 exact s.out i hi
structure InsI (lt:α→α→Bool) (l:List α) (a b i j:Nat) (cur:List α):Prop where
 same:Same lt l cur a b
 aj:a≤j
 ji:j≤i
 ib:i < b
 sd:∀ p q,a≤p→p < q→q≤i→q≠j→lt (cur.getD q default) (cur.getD p default)=false
theorem InsI.init {l cur:List α} {a b i:Nat} (s:Same lt l cur a b) (hi:a≤i) (ib:i < b) (h:SdI lt cur a i):InsI lt l a b i i cur :=
 ⟨s,hi,Nat.le_refl _,ib,fun p q h1 h2 h3 h4=>h p q h1 h2 (by omega)⟩
theorem InsI.step (w:Weak lt) {l cur:List α} {a b i j:Nat} (s:InsI lt l a b i (j+1) cur) (hb:b≤l.length) (hj:a≤j) (h:lt (cur.getD (j+1) default) (cur.getD j default)=true):InsI lt l a b i j (swp cur (j+1) j):=by
 have ji:=s.ji
 have ib:=s.ib
 have hl:j+1 < cur.length:=by rw [s.same.len]; omega
 refine ⟨s.same.swp w hb hj (by omega) h,hj,by omega,ib,fun p q h1 h2 h3 h4=>?_⟩
 rw [qM cur hl (by omega),qM cur hl (by omega)]
 by_cases hq:q=j+1
 ·subst hq
  rw [if_neg (by omega),if_pos rfl]
  by_cases hp:p=j
  ·subst hp
   rw [if_pos rfl]
   exact w.asym h
  ·rw [if_neg hp,if_neg (by omega)]
   exact s.sd p j h1 (by omega) (by omega) (by omega)
 ·rw [if_neg h4,if_neg hq]
  by_cases hp:p=j
  ·subst hp
   rw [if_pos rfl]
   exact w.le (w.asym h) (s.sd p q h1 (by omega) h3 hq)
  ·by_cases hp2:p=j+1
   ·subst hp2
    rw [if_neg (by omega),if_pos rfl]
    exact s.sd j q hj (by omega) h3 hq
   ·rw [if_neg hp,if_neg hp2]
    exact s.sd p q h1 h2 h3 hq
theorem Same.sd {l c:List α} {a b p q:Nat} (s:Same lt l c a b) (h:SdI lt l p q) (hd:q≤a∨b≤p):SdI lt c p q:=fun i j h1 h2 h3=>by
 rw [s.out j (by omega),s.out i (by omega)]
 exact h i j h1 h2 h3
theorem SdI.all (w:Weak lt) {l c:List α} (hl:c.length=l.length) (hf:FE lt c l) (h:SdI lt c 0 l.length):c=xW lt l:=by
 have:=(Same.done w ⟨hl,fun k hk=>?_,hf⟩ (Nat.zero_le _) (Nat.le_refl _) h)
 ·rw [this]
  unfold aKV seg
  simp
 ·have h1:l.length≤k:=by omega
  simp only [List.getD_eq_getElem?_getD]
  rw [List.getElem?_eq_none (by omega),List.getElem?_eq_none h1]
end
end Go.Abs
