/- Functions, and what the code asks of them: PVict2. -/
import Derived.Test.YtjlehbennimkgabOrderTellsP4
import Derived.Test.YtjlehbennimkgabOrderTellsP5
import Derived.Test.YtjlehbennimkgabOrderTellsP6
import Derived.Test.YtjlehbennimkgabOrderTellsP7
import Derived.Test.YtjlehbennimkgabOrderTellsP8
import Derived.Test.YtjlehbennimkgabOrderTellsP9
import Derived.Test.YtjlehbennimkgabOrderTellsP10
import Derived.Test.YtjlehbennimkgabOrderTellsP11
import Derived.Test.YtjlehbennimkgabOrderTellsP12
import Derived.Test.YtjlehbennimkgabOrderTellsP13
import Derived.Test.YtjlehbennimkgabOrderTellsP14
import Derived.Test.YtjlehbennimkgabOrderTellsP15
import Derived.Test.YtjlehbennimkgabOrderTellsP16
import Derived.Test.YtjlehbennimkgabOrderTellsP17
set_option linter.unusedVariables false
set_option linter.unusedSimpArgs false
/- The machine from which jobs go; and the document's answers. -/
namespace Go.Abs
open Go

abbrev fR:=ByteArray×List aS
def aF3 (o:fR):Int:=if o.2.length=0 then -1 else (at_ o.2 ((o.2.length:Int) - 1)).1.2.2.1
def s4 (c:fR×fR):Int:=orI [fE ((c.1.2.length:Int),(c.2.2.length:Int)),fE (aF3 c.1,aF3 c.2),aIB (c.1.1,c.2.1)]
def kV (m:fR):List fR→fR
 | []=>m
 | x::l=>kV (if s4 (x,m) < 0 then x else m) l
def aFO:List fR→fR
 | []=>default
 | x::l=>kV x l
def dK (a:List hG×List aS×iU):List fR:=(a.1.filter fun m=>(dY (m,a.2)).2).map fun m=>(m.1.1,(dY (m,a.2)).1)
def uD (n:Nat):List Int:=(List.range n).map fun i:Nat=>Int.ofNat i
end Go.Abs

/- The machine from which jobs go,and the document's answers: what the code asks is so. -/
namespace Go.Abs
open Go
theorem oS (x:fR):∀ (l:List fR) (m:fR),kV m (l++[x])=if s4 (x,kV m l) < 0 then x else kV m l
 | [],m=>rfl
 | y::l,m=>by
  rw [List.cons_append,kV,kV]
  exact oS x l _

theorem vX (x:fR) {l:List fR} (h:l≠[]):aFO (l++[x])=if s4 (x,aFO l) < 0 then x else aFO l:=by
 cases l with
 | nil=>exact absurd rfl h
 | cons y l=>exact oS x l y

theorem n7 (l m:List hG) (b:List aS×iU):dK (l++m,b)=dK (l,b)++dK (m,b):=by
 unfold dK
 rw [List.filter_append,List.map_append]

theorem oK (m:hG) (b:List aS×iU):dK ([m],b)=if (dY (m,b)).2=true then [(m.1.1,(dY (m,b)).1)] else []:=by
 unfold dK
 by_cases h:(dY (m,b)).2=true
 ·rw [if_pos h,List.filter_cons_of_pos (p:=fun x:hG=>(dY (x,([m],b).2)).2) h]
  rfl
 ·rw [if_neg h,List.filter_cons_of_neg (p:=fun x:hG=>(dY (x,([m],b).2)).2) h]
  rfl

structure ChI (l:List hG) (b:List aS×iU) (best many top i:Int):Prop where
 i0:0≤i
 i1:i≤(l.length:Int)
 none:best < 0↔dK (l.take i.toNat,b)=[]
 some:0≤best→best < i∧(dY (at_ l best,b)).2=true∧aFO (dK (l.take i.toNat,b))=((at_ l best).1.1,(dY (at_ l best,b)).1)∧many=((dY (at_ l best,b)).1.length:Int)∧top=aF3 ((at_ l best).1.1,(dY (at_ l best,b)).1)

theorem ChI.skip {l:List hG} {b:List aS×iU} {best many top i:Int} (h:ChI l b best many top i) (hlt:i < (l.length:Int)) (c:¬(dY (at_ l i,b)).2=true):ChI l b best many top (i+1):=by
 have h0:=h.i0
 have e:dK (l.take (i+1).toNat,b)=dK (l.take i.toNat,b):=by
  rw [show (i+1).toNat=i.toNat+1 from by omega,p9 (by omega),n7,oK,if_neg (show ¬(dY (l.getD i.toNat default,b)).2=true from c),List.append_nil]
 refine ⟨by omega,by omega,by rw [e]; exact h.none,fun hb=>?_⟩
 rw [e]
 have:=h.some hb
 exact ⟨by omega,this.2⟩

theorem ChI.take {l:List hG} {b:List aS×iU} {best many top i:Int} (h:ChI l b best many top i) (hlt:i < (l.length:Int)) (c:(dY (at_ l i,b)).2=true) (hb:best < 0∨s4 (((at_ l i).1.1,(dY (at_ l i,b)).1),((at_ l best).1.1,(dY (at_ l best,b)).1)) < 0) {many' top':Int}
  (e1:many'=((dY (at_ l i,b)).1.length:Int)) (e2:top'=aF3 ((at_ l i).1.1,(dY (at_ l i,b)).1)):ChI l b i many' top' (i+1):=by
 have h0:=h.i0
 have e:dK (l.take (i+1).toNat,b)=dK (l.take i.toNat,b)++[((at_ l i).1.1,(dY (at_ l i,b)).1)]:=by
  rw [show (i+1).toNat=i.toNat+1 from by omega,p9 (by omega),n7,oK,if_pos (show (dY (l.getD i.toNat default,b)).2=true from c)]
  rfl
 refine ⟨by omega,by omega,⟨fun hh=>by omega,fun hh=>by rw [e] at hh; simp at hh⟩,fun _=>⟨by omega,c,?_,e1,e2⟩⟩
 rw [e]
 by_cases hn:dK (l.take i.toNat,b)=[]
 ·rw [hn]
  rfl
 ·have hb0:0≤best:=by
   by_cases hh:best < 0
   ·exact absurd (h.none.1 hh) hn
   ·omega
  rw [vX _ hn,(h.some hb0).2.2.1,if_pos (hb.resolve_left (by omega))]

theorem ChI.keep {l:List hG} {b:List aS×iU} {best many top i:Int} (h:ChI l b best many top i) (hlt:i < (l.length:Int)) (c:(dY (at_ l i,b)).2=true) (hb0:¬best < 0) (hb:¬s4 (((at_ l i).1.1,(dY (at_ l i,b)).1),((at_ l best).1.1,(dY (at_ l best,b)).1)) < 0):ChI l b best many top (i+1):=by
 have h0:=h.i0
 have e:dK (l.take (i+1).toNat,b)=dK (l.take i.toNat,b)++[((at_ l i).1.1,(dY (at_ l i,b)).1)]:=by
  rw [show (i+1).toNat=i.toNat+1 from by omega,p9 (by omega),n7,oK,if_pos (show (dY (l.getD i.toNat default,b)).2=true from c)]
  rfl
 have hn:dK (l.take i.toNat,b)≠[]:=fun hh=>hb0 (h.none.2 hh)
 obtain ⟨q1,q2,q3,q4,q5⟩:=h.some (by omega)
 refine ⟨by omega,by omega,⟨fun hh=>absurd hh hb0,fun hh=>by rw [e] at hh; simp at hh⟩,fun _=>⟨by omega,q2,?_,q4,q5⟩⟩
 rw [e,vX _ hn,q3,if_neg hb]

end Go.Abs
