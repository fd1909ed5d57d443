/- Functions, and what the code asks of them: PRead. -/
import Derived.KernelRfl
import Derived.Test.YtfjnkkfhhalepabIdentKeepsP4
import Derived.Test.YtfjnkkfhhalepabIdentKeepsP5
import Derived.Test.YtfjnkkfhhalepabIdentKeepsP6
import Derived.Test.YtfjnkkfhhalepabIdentKeepsP7
set_option maxRecDepth 100000
set_option maxHeartbeats 4000000
set_option linter.unusedVariables false
set_option linter.unusedSimpArgs false
namespace Go.Abs
open Go
def cR (a:List bK×List bK):Bool:=decide (a.1=a.2)
def vS (a:List bK×List bK):Prop:=a.1.length≤1048576∧a.2.length≤1048576
def f322.ent (K:((List (aC))×(List (aC)))→Prop) (t:(List (aC))×(List (aC))):Prop:=∃ c:(List (aC))×(List (aC)),SlQ t.1.length c.1.length (gl aB t.1) (gl aB c.1) (SlQ t.2.length c.2.length (gl aB t.2) (gl aB c.2) (K c))
theorem f322.ei {K:((List (aC))×(List (aC)))→Prop} {t:(List (aC))×(List (aC))} (h:K t):f322.ent K t:=⟨t,slQ (rS aB) (slQ (rS aB) (h))⟩
def f322.args (a:(List (aC))×(List (aC))):List D:=[.slice .ro 2 a.1.length (gl aB a.1),.slice .ro 2 a.2.length (gl aB a.2)]
def f322.blks (a:(List (aC))×(List (aC))):List (List D):=[]
def f322.res (a:(List (aC))×(List (aC))):List D:=[.bool (cR a)]
def f322.blks' (a:(List (aC))×(List (aC))):List (List D):=[]
def f322.C:aK:=FnC f322.args f322.blks (fun a=>vS a) f322.res f322.blks'
set_option linter.unusedVariables false
def f322.S0 (a:(List (aC))×(List (aC))) (x:Int):Tm:=⟨[.slice .ro 2 a.1.length (gl aB a.1),.slice .ro 2 a.2.length (gl aB a.2),.dead,.dead,.dead,.dead,.dead,.dead,.dead,.dead,.dead,.dead,.int .i64 (a.1.length:Int),.int .i64 x,.dead,.dead,.dead,.dead,.dead,.dead,.dead,.dead,.dead,.dead,.dead,.dead],[],[]⟩
def f322.kills (a:(List (aC))×(List (aC))):List Hint:=[.tell Int (f322.S0 a)]
def f322.cuts (a:(List (aC))×(List (aC))):List (Nat×Σ β:Type,β→Tm):=[]
def f322.af (a:(List (aC))×(List (aC))):AF:=AF.mk (.seq (.region [⟨(some 4),0,.move,[.c (.bool false)],none⟩])
 (.seq (.seq (.region [mT 6 1 0,
 oT 7 2 (.len false) [6],
 mT 8 3 1,
 oT 9 4 (.len false) [8],
 oT 10 5 (.bin .neq) [7,9]])
 (.cond (.t 10) (.seq (.region [⟨(some 4),6,.move,[.c (.bool false)],none⟩])
 (.ret)) (.skip)))
 (.seq (.seq (.region [mT 11 7 0,
 oT 12 8 (.len false) [11],
 ⟨(some 13),9,.move,[.c (.int .i64 (0))],none⟩])
 (.block 0 (.loopT Int (f322.S0 a) 10 25 (.seq (.region [oT 14 10 (.bin .lss) [13,12]])
 (.seq (.cond (.t 14) (.skip) (.exit 0))
 (.seq (.block 1 (.seq (.region [mT 15 11 13,
 mT 5 12 15])
 (.seq (.region [mT 16 13 0,
 mT 17 14 5,
 oT 18 15 (.indexAddr 2 none) [16,17],
 oT 19 16 (.load true 2) [18],
 mT 20 17 1,
 mT 21 18 5,
 oT 22 19 (.indexAddr 2 none) [20,21],
 oT 23 20 (.load true 2) [22],
 oT 24 21 (.eqAgg true [2,2]) [19,23]])
 (.cond (.t 24) (.seq (.region [⟨(some 4),22,.move,[.c (.bool false)],none⟩])
 (.ret)) (.skip)))))
 (.region [⟨(some 25),23,(.bin .add),[.t 13,.c (.int .i64 (1))],none⟩,
 mT 13 24 25])))))))
 (.seq (.region [⟨(some 4),25,.move,[.c (.bool true)],none⟩])
 (.ret)))))
 [.tmp 4] 0 24
def f322.env:Env:=[]
def f322.tree (a:(List (aC))×(List (aC))):Prop:=Br ((a.1.length:Int) != (a.2.length:Int)) ((false=(cR a))∧True) (∃ (I5:Int→Prop) (μ6:Int→Nat),(∃ x4:Int,SlS aB a.1 (SlS aB a.2 (((a.1.length:Int)=(a.1.length:Int))∧((0:Int)=x4)∧I5 x4)))∧∀ y7:Int,I5 y7→(Br (decide (y7 < (a.1.length:Int))) (Br (decide ((0:Int)≤y7)&&decide (y7 < (a.1.length:Int))) (Br (decide ((0:Int)≤y7)&&decide (y7 < (a.2.length:Int))) (Br (!((((at_ a.1 y7).1).toList==((at_ a.2 y7).1).toList)&&(((at_ a.1 y7).2).toList==((at_ a.2 y7).2).toList))) ((false=(cR a))∧True) (Let (wI (y7+(1:Int))) (fun v15:Int=>∃ x16:Int,SlS aB a.1 (SlS aB a.2 (((a.1.length:Int)=(a.1.length:Int))∧(v15=x16)∧I5 x16∧μ6 x16 < μ6 y7))))) False) False) ((true=(cR a))∧True)))
def f322.vc (a:(List (aC))×(List (aC))):Prop:=((¬(a.1.length:Int)=(a.2.length:Int)→(false=cR a))∧(¬(¬(a.1.length:Int)=(a.2.length:Int))→(∃ (I5:Int→Prop) (μ6:Int→Nat),I5 (0:Int)∧∀ y7:Int,I5 y7→((y7 < (a.1.length:Int)→((0:Int)≤y7∧y7 < (a.1.length:Int)∧((0:Int)≤y7∧y7 < (a.2.length:Int)∧((¬(((at_ a.1 y7).1)=((at_ a.2 y7).1)∧((at_ a.1 y7).2)=((at_ a.2 y7).2))→(false=cR a))∧(¬(¬(((at_ a.1 y7).1)=((at_ a.2 y7).1)∧((at_ a.1 y7).2)=((at_ a.2 y7).2)))→(-9223372036854775808≤(y7+(1:Int))∧(y7+(1:Int))≤9223372036854775807∧(I5 (y7+(1:Int))∧μ6 (y7+(1:Int)) < μ6 y7)))))))∧(¬(y7 < (a.1.length:Int))→(true=cR a))))))
theorem f322.of (a:(List (aC))×(List (aC))) (h:f322.vc a):f322.tree a:=br h Cnd.ne (fun h1 k31=>⟨k31,trivial⟩) (fun h2 k32=>Exists.elim k32 (fun I5 h28_=>Exists.elim h28_ (fun μ6 h28=>⟨I5,μ6,⟨(0:Int),SlS.mk  (SlS.mk  (⟨rfl,⟨rfl,h28.1⟩⟩))⟩,fun y7 h30=>br (h28.2 y7 h30) Cnd.dec (fun h8 k26=>chk k26.2.2 Cnd.ix ⟨k26.1,k26.2.1⟩ (fun h10 k24=>chk k24.2.2 Cnd.ix ⟨k24.1,k24.2.1⟩ (fun h11 k23=>br k23 (Cnd.not (Cnd.and Cnd.seq Cnd.seq)) (fun h12 k21=>⟨k21,trivial⟩) (fun h13 k22=>wrapK.i64 k22 (fun h18 h19 k20=>⟨(y7+(1:Int)),SlS.mk  (SlS.mk  (⟨rfl,⟨rfl,k20⟩⟩))⟩))))) (fun h9 k27=>⟨k27,trivial⟩)⟩)))
theorem f322.eq (a:(List (aC))×(List (aC))):(f322.af a).gives f322.env (f322.args a) (f322.blks a) (f322.res a) (f322.blks' a)=f322.tree a:=by kernel_rfl
theorem aFS {α:Type} [Inhabited α] {l m:List α} (h:l.length=m.length) (k:∀ i,i < l.length→l.getD i default=m.getD i default):l=m:=by
 apply List.ext_getElem h
 intro i h1 h2
 have:=k i h1
 simpa [List.getD_eq_getElem?_getD,h1,h2] using this
theorem f322.ok (a:List bK×List bK) (h:vS a):f322.vc a:=by
 obtain ⟨l,m⟩:=a
 have h1:l.length≤1048576:=h.1
 have sf:l≠m→false=cR (l,m):=fun hne=>by unfold cR; simp [hne]
 refine ⟨fun c=>sf fun e=>c (by rw [e]),fun c=>?_⟩
 have hlen:l.length=m.length:=by have:=Classical.not_not.1 c; simp only at this; omega
 refine ⟨fun i=>0≤i∧∀ j:Nat,(j:Int) < i→j < l.length→l.getD j default=m.getD j default,fun i=>((l.length:Int) - i).toNat,⟨Int.le_refl _,fun j hj=>by omega⟩,fun i hi=>⟨fun c=>?_,fun c=>?_⟩⟩
 ·obtain ⟨h2,h3⟩:=hi
  simp only at c ⊢
  refine ⟨h2,c,h2,by omega,fun d=>sf fun e=>d (by rw [e]; exact ⟨rfl,rfl⟩),fun d=>⟨by omega,by omega,⟨by omega,fun j hj hl=>?_⟩,by omega⟩⟩
  rcases Int.lt_or_le (j:Int) i with h4 | h4
  ·exact h3 j h4 hl
  ·have d:=Classical.not_not.1 d
   have e:j=i.toNat:=by omega
   rw [oS,oS] at d
   rw [e]
   exact Prod.ext d.1 d.2
 ·simp only at c ⊢
  have:l=m:=aFS hlen fun j hj=>hi.2 j (by omega) hj
  unfold cR
  simp [this]
theorem not_true {b:Bool} (h:¬b=true):false=b:=by cases b <;> simp_all
end Go.Abs
