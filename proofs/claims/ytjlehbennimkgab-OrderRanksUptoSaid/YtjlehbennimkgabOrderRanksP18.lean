/- Functions, and what the code asks of them: PVict2. -/
import Derived.Test.YtjlehbennimkgabOrderRanksP4
import Derived.Test.YtjlehbennimkgabOrderRanksP5
import Derived.Test.YtjlehbennimkgabOrderRanksP6
import Derived.Test.YtjlehbennimkgabOrderRanksP7
import Derived.Test.YtjlehbennimkgabOrderRanksP8
import Derived.Test.YtjlehbennimkgabOrderRanksP9
import Derived.Test.YtjlehbennimkgabOrderRanksP10
import Derived.Test.YtjlehbennimkgabOrderRanksP11
import Derived.Test.YtjlehbennimkgabOrderRanksP12
import Derived.Test.YtjlehbennimkgabOrderRanksP13
import Derived.Test.YtjlehbennimkgabOrderRanksP14
import Derived.Test.YtjlehbennimkgabOrderRanksP15
import Derived.Test.YtjlehbennimkgabOrderRanksP16
import Derived.Test.YtjlehbennimkgabOrderRanksP17
set_option linter.unusedVariables false
set_option linter.unusedSimpArgs false
/- The machine from which jobs go; and the document's answers. -/
namespace Go.Abs
open Go
abbrev fN:=ByteArray×List aT
def aFP (o:fN):Int:=if o.2.length=0 then -1 else (at_ o.2 ((o.2.length:Int) - 1)).1.2.2.1
def r9 (c:fN×fN):Int:=orI [fG ((c.1.2.length:Int),(c.2.2.length:Int)),fG (aFP c.1,aFP c.2),aIB (c.1.1,c.2.1)]
def j1 (m:fN):List fN→fN
 | []=>m
 | x::l=>j1 (if r9 (x,m) < 0 then x else m) l
def aE7:List fN→fN
 | []=>default
 | x::l=>j1 x l
def dF (a:List gR×List aT×hO):List fN:=(a.1.filter fun m=>(dU (m,a.2)).2).map fun m=>(m.1.1,(dU (m,a.2)).1)
def t7 (n:Nat):List Int:=(List.range n).map fun i:Nat=>Int.ofNat i
theorem oL (x:fN):∀ (l:List fN) (m:fN),j1 m (l++[x])=if r9 (x,j1 m l) < 0 then x else j1 m l
 | [],m=>rfl
 | y::l,m=>by
  rw [List.cons_append,j1,j1]
  exact oL x l _
theorem vG (x:fN) {l:List fN} (h:l≠[]):aE7 (l++[x])=if r9 (x,aE7 l) < 0 then x else aE7 l:=by
 cases l with
 | nil=>exact absurd rfl h
 | cons y l=>exact oL x l y
theorem nP (l m:List gR) (b:List aT×hO):dF (l++m,b)=dF (l,b)++dF (m,b):=by
 unfold dF
 rw [List.filter_append,List.map_append]
theorem nM (m:gR) (b:List aT×hO):dF ([m],b)=if (dU (m,b)).2=true then [(m.1.1,(dU (m,b)).1)] else []:=by
 unfold dF
 by_cases h:(dU (m,b)).2=true
 ·rw [if_pos h,List.filter_cons_of_pos (p:=fun x:gR=>(dU (x,([m],b).2)).2) h]
  rfl
 ·rw [if_neg h,List.filter_cons_of_neg (p:=fun x:gR=>(dU (x,([m],b).2)).2) h]
  rfl
structure ChI (l:List gR) (b:List aT×hO) (best many top i:Int):Prop where
 i0:0≤i
 i1:i≤(l.length:Int)
 none:best < 0↔dF (l.take i.toNat,b)=[]
 some:0≤best→best < i∧(dU (at_ l best,b)).2=true∧aE7 (dF (l.take i.toNat,b))=((at_ l best).1.1,(dU (at_ l best,b)).1)∧many=((dU (at_ l best,b)).1.length:Int)∧top=aFP ((at_ l best).1.1,(dU (at_ l best,b)).1)
theorem ChI.skip {l:List gR} {b:List aT×hO} {best many top i:Int} (h:ChI l b best many top i) (hlt:i < (l.length:Int)) (c:¬(dU (at_ l i,b)).2=true):ChI l b best many top (i+1):=by
 have h0:=h.i0
 have e:dF (l.take (i+1).toNat,b)=dF (l.take i.toNat,b):=by
  rw [show (i+1).toNat=i.toNat+1 from by omega,p8 (by omega),nP,nM,if_neg (show ¬(dU (l.getD i.toNat default,b)).2=true from c),List.append_nil]
 refine ⟨by omega,by omega,by rw [e]; exact h.none,fun hb=>?_⟩
 rw [e]
 have:=h.some hb
 exact ⟨by omega,this.2⟩
theorem ChI.take {l:List gR} {b:List aT×hO} {best many top i:Int} (h:ChI l b best many top i) (hlt:i < (l.length:Int)) (c:(dU (at_ l i,b)).2=true) (hb:best < 0∨r9 (((at_ l i).1.1,(dU (at_ l i,b)).1),((at_ l best).1.1,(dU (at_ l best,b)).1)) < 0) {many' top':Int}
  (e1:many'=((dU (at_ l i,b)).1.length:Int)) (e2:top'=aFP ((at_ l i).1.1,(dU (at_ l i,b)).1)):ChI l b i many' top' (i+1):=by
 have h0:=h.i0
 have e:dF (l.take (i+1).toNat,b)=dF (l.take i.toNat,b)++[((at_ l i).1.1,(dU (at_ l i,b)).1)]:=by
  rw [show (i+1).toNat=i.toNat+1 from by omega,p8 (by omega),nP,nM,if_pos (show (dU (l.getD i.toNat default,b)).2=true from c)]
  rfl
 refine ⟨by omega,by omega,⟨fun hh=>by omega,fun hh=>by rw [e] at hh; simp at hh⟩,fun _=>⟨by omega,c,?_,e1,e2⟩⟩
 rw [e]
 by_cases hn:dF (l.take i.toNat,b)=[]
 ·rw [hn]
  rfl
 ·have hb0:0≤best:=by
   by_cases hh:best < 0
   ·exact absurd (h.none.1 hh) hn
   ·omega
  rw [vG _ hn,(h.some hb0).2.2.1,if_pos (hb.resolve_left (by omega))]
theorem ChI.keep {l:List gR} {b:List aT×hO} {best many top i:Int} (h:ChI l b best many top i) (hlt:i < (l.length:Int)) (c:(dU (at_ l i,b)).2=true) (hb0:¬best < 0) (hb:¬r9 (((at_ l i).1.1,(dU (at_ l i,b)).1),((at_ l best).1.1,(dU (at_ l best,b)).1)) < 0):ChI l b best many top (i+1):=by
 have h0:=h.i0
 have e:dF (l.take (i+1).toNat,b)=dF (l.take i.toNat,b)++[((at_ l i).1.1,(dU (at_ l i,b)).1)]:=by
  rw [show (i+1).toNat=i.toNat+1 from by omega,p8 (by omega),nP,nM,if_pos (show (dU (l.getD i.toNat default,b)).2=true from c)]
  rfl
 have hn:dF (l.take i.toNat,b)≠[]:=fun hh=>hb0 (h.none.2 hh)
 obtain ⟨q1,q2,q3,q4,q5⟩:=h.some (by omega)
 refine ⟨by omega,by omega,⟨fun hh=>absurd hh hb0,fun hh=>by rw [e] at hh; simp at hh⟩,fun _=>⟨by omega,q2,?_,q4,q5⟩⟩
 rw [e,vG _ hn,q3,if_neg hb]
end Go.Abs
