/- Functions, and what the code asks of them: PIdent. -/
import Derived.KernelRfl
import Derived.Test.YtcmjinkfgbadoabLabelsNilP4
import Derived.Test.YtcmjinkfgbadoabLabelsNilP5
import Derived.Test.YtcmjinkfgbadoabLabelsNilP6
import Derived.Test.YtcmjinkfgbadoabLabelsNilP7
import Derived.Test.YtcmjinkfgbadoabLabelsNilP8
import Derived.Test.YtcmjinkfgbadoabLabelsNilP9
import Derived.Test.YtcmjinkfgbadoabLabelsNilP10
import Derived.Test.YtcmjinkfgbadoabLabelsNilP11
import Derived.Test.YtcmjinkfgbadoabLabelsNilP12
import Derived.Test.YtcmjinkfgbadoabLabelsNilP15
import Derived.Test.YtcmjinkfgbadoabLabelsNilP16
import Derived.Test.YtcmjinkfgbadoabLabelsNilP17
import Derived.Test.YtcmjinkfgbadoabLabelsNilP18
set_option maxRecDepth 100000
set_option maxHeartbeats 4000000
set_option linter.unusedVariables false
set_option linter.unusedSimpArgs false
set_option linter.unusedSectionVars false
namespace Go.Abs
open Go
theorem aGY (a:ByteArray):slt a a=false:=j8 _
theorem aH9 {a b c:ByteArray} (h1:slt a b=true) (h2:slt b c=true):slt a c=true:=jK h1 h2
theorem aBQ {a b:ByteArray} (h:slt a b=true):a≠b:=fun e=>by
 rw [e,aGY] at h
 cases h
def SK (l:List jZ):Prop:=l.Pairwise fun x y=>slt x.1 y.1=true
theorem SK.key {S:List jZ} (h:SK S) {x y:jZ} (hx:x∈S) (hy:y∈S) (e:x.1=y.1):x=y:=by
 induction S with
 | nil=>cases hx
 | cons z S ih =>
  obtain ⟨h1,h2⟩:=List.pairwise_cons.1 h
  rcases List.mem_cons.1 hx with cx | cx
  ·rcases List.mem_cons.1 hy with cy | cy
   ·rw [cx,cy]
   ·rw [cx] at e
    exact absurd e (aBQ (h1 y cy))
  ·rcases List.mem_cons.1 hy with cy | cy
   ·rw [cy] at e
    exact absurd e.symm (aBQ (h1 x cx))
   ·exact ih h2 cx cy
theorem SK.uniq:∀ {S T:List jZ},SK S→SK T→(∀ z,z∈S↔z∈T)→S=T
 | [],[],_,_,_=>rfl
 | [],y::T,_,_,e=>absurd ((e y).2 (List.mem_cons_self ..)) List.not_mem_nil
 | x::S,[],_,_,e=>absurd ((e x).1 (List.mem_cons_self ..)) List.not_mem_nil
 | x::S,y::T,h,k,e=>by
  obtain ⟨h1,h2⟩:=List.pairwise_cons.1 h
  obtain ⟨k1,k2⟩:=List.pairwise_cons.1 k
  have xy:x=y:=by
   rcases List.mem_cons.1 ((e x).1 (List.mem_cons_self ..)) with c | c
   ·exact c
   ·rcases List.mem_cons.1 ((e y).2 (List.mem_cons_self ..)) with d | d
    ·exact d.symm
    ·have:=aH9 (k1 x c) (h1 y d)
     rw [aGY] at this
     cases this
  subst xy
  refine congrArg (x::·) (SK.uniq h2 k2 fun z=>⟨fun hz=>?_,fun hz=>?_⟩)
  ·rcases List.mem_cons.1 ((e z).1 (List.mem_cons_of_mem _ hz)) with c | c
   ·exact absurd (congrArg Prod.fst c.symm) (aBQ (h1 z hz))
   ·exact c
  ·rcases List.mem_cons.1 ((e z).2 (List.mem_cons_of_mem _ hz)) with c | c
   ·exact absurd (congrArg Prod.fst c.symm) (aBQ (k1 z hz))
   ·exact c
set_option linter.unusedVariables false
def f217.kills (a:ByteArray×ByteArray):List Hint:=[]
def f217.cuts (a:ByteArray×ByteArray):List (Nat×Σ β:Type,β→Tm):=[]
def f217.af (a:ByteArray×ByteArray):AF:=AF.mk (.seq (.region [⟨(some 4),0,.move,[.c (.bool false)],none⟩])
 (.seq (.region [mT 5 1 0,
 oT 6 2 (.call false 200) [5],
 mT 7 6 6,
 oG 8 7 .move [1] 7 true,
 oG 9 8 (.call false 200) [8] 7 true,
 oG 10 12 (.un .not) [9] 7 true,
 ⟨(some 11),13,.pick,[.t 7,.t 10,.c (.bool false)],none⟩,
 mT 12 14 11,
 oG 13 15 .move [0] 12 false,
 oG 14 16 .move [1] 12 false,
 oG 15 17 (.bin .lss) [13,14] 12 false,
 ⟨(some 16),18,.pick,[.t 12,.c (.bool true),.t 15],none⟩,
 mT 4 19 16])
 (.ret)))
 [.tmp 4] 0 15
def f217.env:Env:=[(200,f200.C)]
def f217.tree (a:ByteArray×ByteArray):Prop:=∃ c1:ByteArray,(a.1=c1)∧True∧Br ((fun _:ByteArray=>false) c1) (∃ c4:ByteArray,(a.2=c4)∧True∧Br (!((fun _:ByteArray=>false) c4)) ((true=(b6 a))∧True) (((Op.bytesLess a.1.toList a.2.toList)=(b6 a))∧True)) (((Op.bytesLess a.1.toList a.2.toList)=(b6 a))∧True)
def f217.vc (a:ByteArray×ByteArray):Prop:=((((fun _:ByteArray=>false) (a.1))=true→((¬(((fun _:ByteArray=>false) (a.2))=true)→(true=b6 a))∧(¬(¬(((fun _:ByteArray=>false) (a.2))=true))→(Op.bytesLess a.1.toList a.2.toList=b6 a))))∧(¬(((fun _:ByteArray=>false) (a.1))=true)→(Op.bytesLess a.1.toList a.2.toList=b6 a)))
theorem f217.of (a:ByteArray×ByteArray) (h:f217.vc a):f217.tree a:=⟨a.1,⟨rfl,⟨trivial,br h Cnd.b (fun h2 k13=>⟨a.2,⟨rfl,⟨trivial,br k13 (Cnd.not Cnd.b) (fun h5 k9=>⟨k9,trivial⟩) (fun h6 k10=>⟨k10,trivial⟩)⟩⟩⟩) (fun h3 k14=>⟨k14,trivial⟩)⟩⟩⟩
theorem f217.eq (a:ByteArray×ByteArray):(f217.af a).gives f217.env (f217.args a) (f217.blks a) (f217.res a) (f217.blks' a)=f217.tree a:=by kernel_rfl
theorem f217.ok (a:ByteArray×ByteArray) (_:True):f217.vc a:=⟨fun c=>(by cases c),fun _=>rfl⟩
end Go.Abs
