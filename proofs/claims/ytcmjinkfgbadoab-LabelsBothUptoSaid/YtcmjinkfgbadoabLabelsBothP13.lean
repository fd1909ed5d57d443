/- Functions, and what the code asks of them: PRef11. -/
import Derived.KernelRfl
import Derived.Test.YtcmjinkfgbadoabLabelsBothP5
import Derived.Test.YtcmjinkfgbadoabLabelsBothP6
import Derived.Test.YtcmjinkfgbadoabLabelsBothP7
import Derived.Test.YtcmjinkfgbadoabLabelsBothP8
import Derived.Test.YtcmjinkfgbadoabLabelsBothP9
import Derived.Test.YtcmjinkfgbadoabLabelsBothP10
import Derived.Test.YtcmjinkfgbadoabLabelsBothP12
set_option maxRecDepth 100000
set_option maxHeartbeats 4000000
set_option linter.unusedVariables false
set_option linter.unusedSimpArgs false
set_option linter.unusedSectionVars false
namespace Go.Abs
open Go
def cR (a:List ByteArray×List ByteArray):Bool:=decide (a.1=a.2)
def cB (a:List ByteArray×List ByteArray):Prop:=L20 a.1∧L20 a.2
def f150.ent (K:((List (ByteArray))×(List (ByteArray)))→Prop) (t:(List (ByteArray))×(List (ByteArray))):Prop:=∃ c:(List (ByteArray))×(List (ByteArray)),SlQ t.1.length c.1.length (gl aG t.1) (gl aG c.1) (SlQ t.2.length c.2.length (gl aG t.2) (gl aG c.2) (K c))
theorem f150.ei {K:((List (ByteArray))×(List (ByteArray)))→Prop} {t:(List (ByteArray))×(List (ByteArray))} (h:K t):f150.ent K t:=⟨t,slQ (rS aG) (slQ (rS aG) (h))⟩
def f150.args (a:(List (ByteArray))×(List (ByteArray))):List D:=[.slice .ro 1 a.1.length (gl aG a.1),.slice .ro 1 a.2.length (gl aG a.2)]
def f150.blks (a:(List (ByteArray))×(List (ByteArray))):List (List D):=[]
def f150.res (a:(List (ByteArray))×(List (ByteArray))):List D:=[.bool (cR a)]
def f150.blks' (a:(List (ByteArray))×(List (ByteArray))):List (List D):=[]
def f150.C:bA:=FnC f150.args f150.blks (fun a=>cB a) f150.res f150.blks'
set_option linter.unusedVariables false
def f150.S0 (a:(List (ByteArray))×(List (ByteArray))) (x:Int):Tm:=⟨.slice .ro 1 a.1.length (gl aG a.1)::.slice .ro 1 a.2.length (gl aG a.2)::dd 10 (.int .i64 (a.1.length:Int)::.int .i64 x::dd 12 []),[],[]⟩
def f150.kills (a:(List (ByteArray))×(List (ByteArray))):List lT:=[.tell Int (f150.S0 a)]
def f150.cuts (a:(List (ByteArray))×(List (ByteArray))):List (Nat×Σ β:Type,β→Tm):=[]
def f150.af (a:(List (ByteArray))×(List (ByteArray))):AF:=AF.mk (.seq (.region [⟨(some 4),0,.move,[.c (.bool false)],none⟩])
 (.seq (.seq (.region [mT 6 1 0,
 oT 7 2 (.len false) [6],
 mT 8 3 1,
 oT 9 4 (.len false) [8],
 oT 10 5 (.bin .neq) [7,9]])
 (.cond (.t 10) (.seq (.region [⟨(some 4),6,.move,[.c (.bool false)],none⟩])
 (.ret)) (.skip)))
 (.seq (.seq (.region [mT 11 7 0,
 oT 12 8 (.len false) [11],
 ⟨(some 13),9,.move,[.c (.int .i64 (0))],none⟩])
 (.block 0 (.loopT Int (f150.S0 a) 10 25 (.seq (.region [oT 14 10 (.bin .lss) [13,12]])
 (.seq (.cond (.t 14) (.skip) (.exit 0))
 (.seq (.block 1 (.seq (.region [mT 15 11 13,
 mT 5 12 15])
 (.seq (.region [mT 16 13 0,
 mT 17 14 5,
 oT 18 15 (.indexAddr 1 none) [16,17],
 oT 19 16 (.load false 1) [18],
 mT 20 17 1,
 mT 21 18 5,
 oT 22 19 (.indexAddr 1 none) [20,21],
 oT 23 20 (.load false 1) [22],
 oT 24 21 (.bin .neq) [19,23]])
 (.cond (.t 24) (.seq (.region [⟨(some 4),22,.move,[.c (.bool false)],none⟩])
 (.ret)) (.skip)))))
 (.region [⟨(some 25),23,(.bin .add),[.t 13,.c (.int .i64 (1))],none⟩,
 mT 13 24 25])))))))
 (.seq (.region [⟨(some 4),25,.move,[.c (.bool true)],none⟩])
 (.ret)))))
 [.tmp 4] 0 24
def f150.env:Env:=[]
def f150.tree (a:(List (ByteArray))×(List (ByteArray))):Prop:=Br ((a.1.length:Int) != (a.2.length:Int)) ((false=(cR a))∧True) (∃ (I5:Int→Prop) (μ6:Int→Nat),(∃ x4:Int,SlS aG a.1 (SlS aG a.2 (((a.1.length:Int)=(a.1.length:Int))∧((0:Int)=x4)∧I5 x4)))∧∀ y7:Int,I5 y7→(Br (decide (y7 < (a.1.length:Int))) (Br (decide ((0:Int)≤y7)&&decide (y7 < (a.1.length:Int))) (Br (decide ((0:Int)≤y7)&&decide (y7 < (a.2.length:Int))) (Br (!((at_ a.1 y7).toList==(at_ a.2 y7).toList)) ((false=(cR a))∧True) (Let (wI (y7+(1:Int))) (fun v15:Int=>∃ x16:Int,SlS aG a.1 (SlS aG a.2 (((a.1.length:Int)=(a.1.length:Int))∧(v15=x16)∧I5 x16∧μ6 x16 < μ6 y7))))) False) False) ((true=(cR a))∧True)))
def f150.vc (a:(List (ByteArray))×(List (ByteArray))):Prop:=((¬(a.1.length:Int)=(a.2.length:Int)→(false=cR a))∧(¬(¬(a.1.length:Int)=(a.2.length:Int))→(∃ (I5:Int→Prop) (μ6:Int→Nat),I5 (0:Int)∧∀ y7:Int,I5 y7→((y7 < (a.1.length:Int)→((0:Int)≤y7∧y7 < (a.1.length:Int)∧((0:Int)≤y7∧y7 < (a.2.length:Int)∧((¬((at_ a.1 y7)=(at_ a.2 y7))→(false=cR a))∧(¬(¬((at_ a.1 y7)=(at_ a.2 y7)))→(-9223372036854775808≤(y7+(1:Int))∧(y7+(1:Int))≤9223372036854775807∧(I5 (y7+(1:Int))∧μ6 (y7+(1:Int)) < μ6 y7)))))))∧(¬(y7 < (a.1.length:Int))→(true=cR a))))))
theorem f150.of (a:(List (ByteArray))×(List (ByteArray))) (h:f150.vc a):f150.tree a:=br h Cnd.ne (fun h1 k31=>⟨k31,trivial⟩) (fun h2 k32=>Exists.elim k32 (fun I5 h28_=>Exists.elim h28_ (fun μ6 h28=>⟨I5,μ6,⟨(0:Int),SlS.mk  (SlS.mk  (⟨rfl,⟨rfl,h28.1⟩⟩))⟩,fun y7 h30=>br (h28.2 y7 h30) Cnd.dec (fun h8 k26=>chk k26.2.2 Cnd.ix ⟨k26.1,k26.2.1⟩ (fun h10 k24=>chk k24.2.2 Cnd.ix ⟨k24.1,k24.2.1⟩ (fun h11 k23=>br k23 (Cnd.not Cnd.seq) (fun h12 k21=>⟨k21,trivial⟩) (fun h13 k22=>wrapK.i64 k22 (fun h18 h19 k20=>⟨(y7+(1:Int)),SlS.mk  (SlS.mk  (⟨rfl,⟨rfl,k20⟩⟩))⟩))))) (fun h9 k27=>⟨k27,trivial⟩)⟩)))
theorem f150.eq (a:(List (ByteArray))×(List (ByteArray))):(f150.af a).gives f150.env (f150.args a) (f150.blks a) (f150.res a) (f150.blks' a)=f150.tree a:=by kernel_rfl
theorem oL {α:Type} [Inhabited α] {l:List α} {i:Nat} (h:i < l.length):l.take (i+1)=l.take i++[l.getD i default]:=by
 rw [rC h,List.take_succ_eq_append_getElem h]
theorem f150.ok (a:List ByteArray×List ByteArray) (h:cB a):f150.vc a:=by
 obtain ⟨l,m⟩:=a
 have h1:l.length≤1048576:=h.1
 refine ⟨fun c=>?_,fun c=>?_⟩
 ·unfold cR
  refine (decide_eq_false fun e=>c ?_).symm
  simp only at e ⊢
  rw [e]
 ·have hl:l.length=m.length:=by
   have:=Classical.not_not.1 c
   simp only at this
   omega
  refine ⟨fun y=>0≤y∧y≤(l.length:Int)∧∀ k,k < y.toNat→l.getD k default=m.getD k default,fun y=>l.length - y.toNat,⟨by omega,by omega,fun k hk=>by simp at hk⟩,fun y hy=>?_⟩
  obtain ⟨g0,g1,g2⟩:=hy
  simp only
  refine ⟨fun hlt=>⟨g0,hlt,g0,by omega,fun c=>?_,fun c=>⟨by omega,by omega,⟨by omega,by omega,fun k hk=>?_⟩,by omega⟩⟩,fun hge=>?_⟩
  ·unfold cR
   refine (decide_eq_false fun e=>c ?_).symm
   simp only at e
   rw [e]
  ·by_cases he:k=y.toNat
   ·subst he; exact Classical.not_not.1 c
   ·exact g2 k (by omega)
  ·unfold cR
   exact (decide_eq_true (nM hl fun k hk=>g2 k (by omega))).symm
end Go.Abs
