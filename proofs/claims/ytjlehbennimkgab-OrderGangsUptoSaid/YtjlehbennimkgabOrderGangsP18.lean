/- Functions, and what the code asks of them: PVict2. -/
import Derived.Test.YtjlehbennimkgabOrderGangsP4
import Derived.Test.YtjlehbennimkgabOrderGangsP5
import Derived.Test.YtjlehbennimkgabOrderGangsP6
import Derived.Test.YtjlehbennimkgabOrderGangsP7
import Derived.Test.YtjlehbennimkgabOrderGangsP8
import Derived.Test.YtjlehbennimkgabOrderGangsP9
import Derived.Test.YtjlehbennimkgabOrderGangsP10
import Derived.Test.YtjlehbennimkgabOrderGangsP11
import Derived.Test.YtjlehbennimkgabOrderGangsP12
import Derived.Test.YtjlehbennimkgabOrderGangsP13
import Derived.Test.YtjlehbennimkgabOrderGangsP14
import Derived.Test.YtjlehbennimkgabOrderGangsP15
import Derived.Test.YtjlehbennimkgabOrderGangsP16
import Derived.Test.YtjlehbennimkgabOrderGangsP17
set_option linter.unusedVariables false
set_option linter.unusedSimpArgs false
namespace Go.Abs
open Go
abbrev fK:=ByteArray×List aU
def aFP (o:fK):Int:=if o.2.length=0 then -1 else (at_ o.2 ((o.2.length:Int) - 1)).1.2.2.1
def sP (c:fK×fK):Int:=orI [fG ((c.1.2.length:Int),(c.2.2.length:Int)),fG (aFP c.1,aFP c.2),aHS (c.1.1,c.2.1)]
def kO (m:fK):List fK→fK
 | []=>m
 | x::l=>kO (if sP (x,m) < 0 then x else m) l
def aE9:List fK→fK
 | []=>default
 | x::l=>kO x l
def dK (a:List gR×List aU×iI):List fK:=(a.1.filter fun m=>(dW (m,a.2)).2).map fun m=>(m.1.1,(dW (m,a.2)).1)
def uH (n:Nat):List Int:=(List.range n).map fun i:Nat=>Int.ofNat i
theorem oQ (x:fK):∀ (l:List fK) (m:fK),kO m (l++[x])=if sP (x,kO m l) < 0 then x else kO m l
 | [],m=>rfl
 | y::l,m=>by
  rw [List.cons_append,kO,kO]
  exact oQ x l _
theorem uS (x:fK) {l:List fK} (h:l≠[]):aE9 (l++[x])=if sP (x,aE9 l) < 0 then x else aE9 l:=by
 cases l with
 | nil=>exact absurd rfl h
 | cons y l=>exact oQ x l y
theorem oA (l m:List gR) (b:List aU×iI):dK (l++m,b)=dK (l,b)++dK (m,b):=by
 unfold dK
 rw [List.filter_append,List.map_append]
theorem oB (m:gR) (b:List aU×iI):dK ([m],b)=if (dW (m,b)).2=true then [(m.1.1,(dW (m,b)).1)] else []:=by
 unfold dK
 by_cases h:(dW (m,b)).2=true
 ·rw [if_pos h,List.filter_cons_of_pos (p:=fun x:gR=>(dW (x,([m],b).2)).2) h]
  rfl
 ·rw [if_neg h,List.filter_cons_of_neg (p:=fun x:gR=>(dW (x,([m],b).2)).2) h]
  rfl
structure ChI (l:List gR) (b:List aU×iI) (best many top i:Int):Prop where
 i0:0≤i
 i1:i≤(l.length:Int)
 none:best < 0↔dK (l.take i.toNat,b)=[]
 some:0≤best→best < i∧(dW (at_ l best,b)).2=true∧aE9 (dK (l.take i.toNat,b))=((at_ l best).1.1,(dW (at_ l best,b)).1)∧many=((dW (at_ l best,b)).1.length:Int)∧top=aFP ((at_ l best).1.1,(dW (at_ l best,b)).1)
theorem ChI.skip {l:List gR} {b:List aU×iI} {best many top i:Int} (h:ChI l b best many top i) (hlt:i < (l.length:Int)) (c:¬(dW (at_ l i,b)).2=true):ChI l b best many top (i+1):=by
 have h0:=h.i0
 have e:dK (l.take (i+1).toNat,b)=dK (l.take i.toNat,b):=by
  rw [show (i+1).toNat=i.toNat+1 from by omega,pJ (by omega),oA,oB,if_neg (show ¬(dW (l.getD i.toNat default,b)).2=true from c),List.append_nil]
 refine ⟨by omega,by omega,by rw [e]; exact h.none,fun hb=>?_⟩
 rw [e]
 have:=h.some hb
 exact ⟨by omega,this.2⟩
theorem ChI.take {l:List gR} {b:List aU×iI} {best many top i:Int} (h:ChI l b best many top i) (hlt:i < (l.length:Int)) (c:(dW (at_ l i,b)).2=true) (hb:best < 0∨sP (((at_ l i).1.1,(dW (at_ l i,b)).1),((at_ l best).1.1,(dW (at_ l best,b)).1)) < 0) {many' top':Int}
  (e1:many'=((dW (at_ l i,b)).1.length:Int)) (e2:top'=aFP ((at_ l i).1.1,(dW (at_ l i,b)).1)):ChI l b i many' top' (i+1):=by
 have h0:=h.i0
 have e:dK (l.take (i+1).toNat,b)=dK (l.take i.toNat,b)++[((at_ l i).1.1,(dW (at_ l i,b)).1)]:=by
  rw [show (i+1).toNat=i.toNat+1 from by omega,pJ (by omega),oA,oB,if_pos (show (dW (l.getD i.toNat default,b)).2=true from c)]
  rfl
 refine ⟨by omega,by omega,⟨fun hh=>by omega,fun hh=>by rw [e] at hh; simp at hh⟩,fun _=>⟨by omega,c,?_,e1,e2⟩⟩
 rw [e]
 by_cases hn:dK (l.take i.toNat,b)=[]
 ·rw [hn]
  rfl
 ·have hb0:0≤best:=by
   by_cases hh:best < 0
   ·exact absurd (h.none.1 hh) hn
   ·omega
  rw [uS _ hn,(h.some hb0).2.2.1,if_pos (hb.resolve_left (by omega))]
theorem ChI.keep {l:List gR} {b:List aU×iI} {best many top i:Int} (h:ChI l b best many top i) (hlt:i < (l.length:Int)) (c:(dW (at_ l i,b)).2=true) (hb0:¬best < 0) (hb:¬sP (((at_ l i).1.1,(dW (at_ l i,b)).1),((at_ l best).1.1,(dW (at_ l best,b)).1)) < 0):ChI l b best many top (i+1):=by
 have h0:=h.i0
 have e:dK (l.take (i+1).toNat,b)=dK (l.take i.toNat,b)++[((at_ l i).1.1,(dW (at_ l i,b)).1)]:=by
  rw [show (i+1).toNat=i.toNat+1 from by omega,pJ (by omega),oA,oB,if_pos (show (dW (l.getD i.toNat default,b)).2=true from c)]
  rfl
 have hn:dK (l.take i.toNat,b)≠[]:=fun hh=>hb0 (h.none.2 hh)
 obtain ⟨q1,q2,q3,q4,q5⟩:=h.some (by omega)
 refine ⟨by omega,by omega,⟨fun hh=>absurd hh hb0,fun hh=>by rw [e] at hh; simp at hh⟩,fun _=>⟨by omega,q2,?_,q4,q5⟩⟩
 rw [e,uS _ hn,q3,if_neg hb]
end Go.Abs
