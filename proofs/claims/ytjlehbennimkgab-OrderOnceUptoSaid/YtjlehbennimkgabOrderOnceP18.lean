/- Functions, and what the code asks of them: PVict2. -/
import Derived.Test.YtjlehbennimkgabOrderOnceP4
import Derived.Test.YtjlehbennimkgabOrderOnceP5
import Derived.Test.YtjlehbennimkgabOrderOnceP6
import Derived.Test.YtjlehbennimkgabOrderOnceP7
import Derived.Test.YtjlehbennimkgabOrderOnceP8
import Derived.Test.YtjlehbennimkgabOrderOnceP9
import Derived.Test.YtjlehbennimkgabOrderOnceP10
import Derived.Test.YtjlehbennimkgabOrderOnceP11
import Derived.Test.YtjlehbennimkgabOrderOnceP12
import Derived.Test.YtjlehbennimkgabOrderOnceP13
import Derived.Test.YtjlehbennimkgabOrderOnceP14
import Derived.Test.YtjlehbennimkgabOrderOnceP15
import Derived.Test.YtjlehbennimkgabOrderOnceP16
import Derived.Test.YtjlehbennimkgabOrderOnceP17
set_option linter.unusedVariables false
set_option linter.unusedSimpArgs false
namespace Go.Abs
open Go
abbrev fN:=ByteArray×List aU
def aFX (o:fN):Int:=if o.2.length=0 then -1 else (at_ o.2 ((o.2.length:Int) - 1)).1.2.2.1
def sN (c:fN×fN):Int:=orI [fG ((c.1.2.length:Int),(c.2.2.length:Int)),fG (aFX c.1,aFX c.2),aIG (c.1.1,c.2.1)]
def kO (m:fN):List fN→fN
 | []=>m
 | x::l=>kO (if sN (x,m) < 0 then x else m) l
def aF3:List fN→fN
 | []=>default
 | x::l=>kO x l
def dJ (a:List gT×List aU×hZ):List fN:=(a.1.filter fun m=>(dW (m,a.2)).2).map fun m=>(m.1.1,(dW (m,a.2)).1)
def t8 (n:Nat):List Int:=(List.range n).map fun i:Nat=>Int.ofNat i
theorem oJ (x:fN):∀ (l:List fN) (m:fN),kO m (l++[x])=if sN (x,kO m l) < 0 then x else kO m l
 | [],m=>rfl
 | y::l,m=>by
  rw [List.cons_append,kO,kO]
  exact oJ x l _
theorem vC (x:fN) {l:List fN} (h:l≠[]):aF3 (l++[x])=if sN (x,aF3 l) < 0 then x else aF3 l:=by
 cases l with
 | nil=>exact absurd rfl h
 | cons y l=>exact oJ x l y
theorem oD (l m:List gT) (b:List aU×hZ):dJ (l++m,b)=dJ (l,b)++dJ (m,b):=by
 unfold dJ
 rw [List.filter_append,List.map_append]
theorem nS (m:gT) (b:List aU×hZ):dJ ([m],b)=if (dW (m,b)).2=true then [(m.1.1,(dW (m,b)).1)] else []:=by
 unfold dJ
 by_cases h:(dW (m,b)).2=true
 ·rw [if_pos h,List.filter_cons_of_pos (p:=fun x:gT=>(dW (x,([m],b).2)).2) h]
  rfl
 ·rw [if_neg h,List.filter_cons_of_neg (p:=fun x:gT=>(dW (x,([m],b).2)).2) h]
  rfl
structure ChI (l:List gT) (b:List aU×hZ) (best many top i:Int):Prop where
 i0:0≤i
 i1:i≤(l.length:Int)
 none:best < 0↔dJ (l.take i.toNat,b)=[]
 some:0≤best→best < i∧(dW (at_ l best,b)).2=true∧aF3 (dJ (l.take i.toNat,b))=((at_ l best).1.1,(dW (at_ l best,b)).1)∧many=((dW (at_ l best,b)).1.length:Int)∧top=aFX ((at_ l best).1.1,(dW (at_ l best,b)).1)
theorem ChI.skip {l:List gT} {b:List aU×hZ} {best many top i:Int} (h:ChI l b best many top i) (hlt:i < (l.length:Int)) (c:¬(dW (at_ l i,b)).2=true):ChI l b best many top (i+1):=by
 have h0:=h.i0
 have e:dJ (l.take (i+1).toNat,b)=dJ (l.take i.toNat,b):=by
  rw [show (i+1).toNat=i.toNat+1 from by omega,pQ (by omega),oD,nS,if_neg (show ¬(dW (l.getD i.toNat default,b)).2=true from c),List.append_nil]
 refine ⟨by omega,by omega,by rw [e]; exact h.none,fun hb=>?_⟩
 rw [e]
 have:=h.some hb
 exact ⟨by omega,this.2⟩
theorem ChI.take {l:List gT} {b:List aU×hZ} {best many top i:Int} (h:ChI l b best many top i) (hlt:i < (l.length:Int)) (c:(dW (at_ l i,b)).2=true) (hb:best < 0∨sN (((at_ l i).1.1,(dW (at_ l i,b)).1),((at_ l best).1.1,(dW (at_ l best,b)).1)) < 0) {many' top':Int}
  (e1:many'=((dW (at_ l i,b)).1.length:Int)) (e2:top'=aFX ((at_ l i).1.1,(dW (at_ l i,b)).1)):ChI l b i many' top' (i+1):=by
 have h0:=h.i0
 have e:dJ (l.take (i+1).toNat,b)=dJ (l.take i.toNat,b)++[((at_ l i).1.1,(dW (at_ l i,b)).1)]:=by
  rw [show (i+1).toNat=i.toNat+1 from by omega,pQ (by omega),oD,nS,if_pos (show (dW (l.getD i.toNat default,b)).2=true from c)]
  rfl
 refine ⟨by omega,by omega,⟨fun hh=>by omega,fun hh=>by rw [e] at hh; simp at hh⟩,fun _=>⟨by omega,c,?_,e1,e2⟩⟩
 rw [e]
 by_cases hn:dJ (l.take i.toNat,b)=[]
 ·rw [hn]
  rfl
 ·have hb0:0≤best:=by
   by_cases hh:best < 0
   ·exact absurd (h.none.1 hh) hn
   ·omega
  rw [vC _ hn,(h.some hb0).2.2.1,if_pos (hb.resolve_left (by omega))]
theorem ChI.keep {l:List gT} {b:List aU×hZ} {best many top i:Int} (h:ChI l b best many top i) (hlt:i < (l.length:Int)) (c:(dW (at_ l i,b)).2=true) (hb0:¬best < 0) (hb:¬sN (((at_ l i).1.1,(dW (at_ l i,b)).1),((at_ l best).1.1,(dW (at_ l best,b)).1)) < 0):ChI l b best many top (i+1):=by
 have h0:=h.i0
 have e:dJ (l.take (i+1).toNat,b)=dJ (l.take i.toNat,b)++[((at_ l i).1.1,(dW (at_ l i,b)).1)]:=by
  rw [show (i+1).toNat=i.toNat+1 from by omega,pQ (by omega),oD,nS,if_pos (show (dW (l.getD i.toNat default,b)).2=true from c)]
  rfl
 have hn:dJ (l.take i.toNat,b)≠[]:=fun hh=>hb0 (h.none.2 hh)
 obtain ⟨q1,q2,q3,q4,q5⟩:=h.some (by omega)
 refine ⟨by omega,by omega,⟨fun hh=>absurd hh hb0,fun hh=>by rw [e] at hh; simp at hh⟩,fun _=>⟨by omega,q2,?_,q4,q5⟩⟩
 rw [e,vC _ hn,q3,if_neg hb]
end Go.Abs
