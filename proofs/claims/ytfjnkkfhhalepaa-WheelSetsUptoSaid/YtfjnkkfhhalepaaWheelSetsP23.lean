/- Functions, and what the code asks of them: PWheel2. -/
import Derived.KernelRfl
import Derived.Test.YtfjnkkfhhalepaaWheelSetsP4
import Derived.Test.YtfjnkkfhhalepaaWheelSetsP5
import Derived.Test.YtfjnkkfhhalepaaWheelSetsP6
import Derived.Test.YtfjnkkfhhalepaaWheelSetsP7
import Derived.Test.YtfjnkkfhhalepaaWheelSetsP8
import Derived.Test.YtfjnkkfhhalepaaWheelSetsP9
import Derived.Test.YtfjnkkfhhalepaaWheelSetsP10
import Derived.Test.YtfjnkkfhhalepaaWheelSetsP11
import Derived.Test.YtfjnkkfhhalepaaWheelSetsP12
import Derived.Test.YtfjnkkfhhalepaaWheelSetsP15
import Derived.Test.YtfjnkkfhhalepaaWheelSetsP16
import Derived.Test.YtfjnkkfhhalepaaWheelSetsP17
import Derived.Test.YtfjnkkfhhalepaaWheelSetsP18
import Derived.Test.YtfjnkkfhhalepaaWheelSetsP20
import Derived.Test.YtfjnkkfhhalepaaWheelSetsP21
import Derived.Test.YtfjnkkfhhalepaaWheelSetsP22
set_option maxRecDepth 100000
set_option maxHeartbeats 4000000
set_option linter.unusedVariables false
set_option linter.unusedSimpArgs false
set_option linter.unusedSectionVars false
-- interregnum/interregnumlaw19.few
namespace Go.Abs
open Go
def f294.ent (K:(List (aD))→Prop) (t:List (aD)):Prop:=∃ c:List (aD),SlQ t.length c.length (gl a9 t) (gl a9 c) (K c)
theorem f294.ei {K:(List (aD))→Prop} {t:List (aD)} (h:K t):f294.ent K t:=⟨t,slQ (rS a9) (h)⟩
def f294.args (a:List (aD)):List D:=[.slice .ro 3 a.length (gl a9 a)]
def f294.blks (a:List (aD)):List (List D):=[]
def f294.res (a:List (aD)):List D:=[.bool (jU a)]
def f294.blks' (a:List (aD)):List (List D):=[]
def f294.C:aO:=FnC f294.args f294.blks (fun a=>L20 a) f294.res f294.blks'
set_option linter.unusedVariables false
def f294.S0 (a:List (aD)) (x:Int):Tm:=⟨.slice .ro 3 a.length (gl a9 a)::dd 7 (.int .i64 (a.length:Int)::.int .i64 x::dd 10 []),[],[]⟩
def f294.kills (a:List (aD)):List Hint:=[.tell Int (f294.S0 a)]
def f294.cuts (a:List (aD)):List (Nat×Σ β:Type,β→Tm):=[]
def f294.af (a:List (aD)):AF:=AF.mk (.seq (.region [⟨(some 2),0,.move,[.c (.bool false)],none⟩])
 (.seq (.seq (.region [mT 4 1 0,
 oT 5 2 (.len false) [4],
 ⟨(some 6),3,(.bin .gtr),[.t 5,.c (.int .i64 (300))],none⟩])
 (.cond (.t 6) (.seq (.region [⟨(some 2),4,.move,[.c (.bool false)],none⟩])
 (.ret)) (.skip)))
 (.seq (.seq (.region [mT 7 5 0,
 oT 8 6 (.len false) [7],
 ⟨(some 9),7,.move,[.c (.int .i64 (0))],none⟩])
 (.block 0 (.loopT Int (f294.S0 a) 8 21 (.seq (.region [oT 10 8 (.bin .lss) [9,8]])
 (.seq (.cond (.t 10) (.skip) (.exit 0))
 (.seq (.block 1 (.seq (.region [mT 11 9 9,
 mT 3 10 11])
 (.seq (.region [mT 12 11 0,
 mT 13 12 3,
 oT 14 13 (.indexAddr 3 none) [12,13],
 oT 15 14 (.fieldAddr 2) [14],
 oT 16 15 (.load false 1) [15],
 oT 17 16 (.len true) [16],
 ⟨(some 18),17,(.bin .gtr),[.t 17,.c (.int .i64 (1000))],none⟩])
 (.cond (.t 18) (.seq (.region [⟨(some 2),18,.move,[.c (.bool false)],none⟩])
 (.ret)) (.skip)))))
 (.region [⟨(some 19),19,(.bin .add),[.t 9,.c (.int .i64 (1))],none⟩,
 mT 9 20 19])))))))
 (.seq (.region [⟨(some 2),21,.move,[.c (.bool true)],none⟩])
 (.ret)))))
 [.tmp 2] 0 19
def f294.env:Env:=[]
def f294.tree (a:List (aD)):Prop:=Br (decide ((300:Int) < (a.length:Int))) ((false=(jU a))∧True) (∃ (I5:Int→Prop) (μ6:Int→Nat),(∃ x4:Int,SlS a9 a (((a.length:Int)=(a.length:Int))∧((0:Int)=x4)∧I5 x4))∧∀ y7:Int,I5 y7→(Br (decide (y7 < (a.length:Int))) (Br (decide ((0:Int)≤y7)&&decide (y7 < (a.length:Int))) (Br (decide ((1000:Int) < (((at_ a y7).2.2).size:Int))) ((false=(jU a))∧True) (Let (wI (y7+(1:Int))) (fun v14:Int=>∃ x15:Int,SlS a9 a (((a.length:Int)=(a.length:Int))∧(v14=x15)∧I5 x15∧μ6 x15 < μ6 y7)))) False) ((true=(jU a))∧True)))
def f294.vc (a:List (aD)):Prop:=(((300:Int) < (a.length:Int)→(false=jU a))∧(¬((300:Int) < (a.length:Int))→(∃ (I5:Int→Prop) (μ6:Int→Nat),I5 (0:Int)∧∀ y7:Int,I5 y7→((y7 < (a.length:Int)→((0:Int)≤y7∧y7 < (a.length:Int)∧(((1000:Int) < (((at_ a y7).2.2).size:Int)→(false=jU a))∧(¬((1000:Int) < (((at_ a y7).2.2).size:Int))→(-9223372036854775808≤(y7+(1:Int))∧(y7+(1:Int))≤9223372036854775807∧(I5 (y7+(1:Int))∧μ6 (y7+(1:Int)) < μ6 y7))))))∧(¬(y7 < (a.length:Int))→(true=jU a))))))
theorem f294.of (a:List (aD)) (h:f294.vc a):f294.tree a:=br h Cnd.dec (fun h1 k29=>⟨k29,trivial⟩) (fun h2 k30=>Exists.elim k30 (fun I5 h26_=>Exists.elim h26_ (fun μ6 h26=>⟨I5,μ6,⟨(0:Int),SlS.mk  (⟨rfl,⟨rfl,h26.1⟩⟩)⟩,fun y7 h28=>br (h26.2 y7 h28) Cnd.dec (fun h8 k24=>chk k24.2.2 Cnd.ix ⟨k24.1,k24.2.1⟩ (fun h10 k22=>br k22 Cnd.dec (fun h11 k20=>⟨k20,trivial⟩) (fun h12 k21=>wrapK.i64 k21 (fun h17 h18 k19=>⟨(y7+(1:Int)),SlS.mk  (⟨rfl,⟨rfl,k19⟩⟩)⟩)))) (fun h9 k25=>⟨k25,trivial⟩)⟩)))
theorem f294.eq (a:List (aD)):(f294.af a).gives f294.env (f294.args a) (f294.blks a) (f294.res a) (f294.blks' a)=f294.tree a:=by kernel_rfl
set_option linter.unusedVariables false
set_option linter.unusedVariables false
theorem aE7 (l:List (ByteArray×Int)) (now:Int):(l6 l now).length≤l.length:=by
 unfold l6
 rw [List.length_map]
 exact List.length_filter_le _ _
theorem oD {l:List (Int×Int×ByteArray)}:jU l=true↔l.length≤300∧∀ i,i < l.length→(l.getD i default).2.2.size≤1000:=by
 unfold jU
 simp only [Bool.and_eq_true,decide_eq_true_eq,List.all_eq_true,List.mem_range]
theorem sL {l:List (Int×Int×ByteArray)} (h:¬jU l=true):false=jU l:=(Bool.eq_false_iff.2 h).symm
theorem f294.ok (a:List (Int×Int×ByteArray)) (h:L20 a):f294.vc a:=by
 have h:a.length≤1048576:=h
 refine ⟨fun c=>sL fun hh=>by have:=(oD.1 hh).1; omega,fun c=>?_⟩
 refine ⟨fun y=>0≤y∧y≤(a.length:Int)∧(∀ i,i < y.toNat→(a.getD i default).2.2.size≤1000),fun y=>a.length - y.toNat,⟨by omega,by omega,fun i hi=>by simp at hi⟩,fun y hy=>?_⟩
 obtain ⟨g0,g1,g2⟩:=hy
 refine ⟨fun hlt=>?_,fun hge=>?_⟩
 ·refine ⟨g0,hlt,fun d=>sL fun hh=>?_,fun d=>⟨by omega,by omega,⟨by omega,by omega,fun i hi=>?_⟩,by simp only; omega⟩⟩
  ·have:=(oD.1 hh).2 y.toNat (by omega)
   rw [← aAX] at this
   omega
  ·by_cases he:i=y.toNat
   ·subst he
    rw [← aAX]
    omega
   ·exact g2 i (by omega)
 ·symm
  rw [oD]
  exact ⟨by omega,fun i hi=>g2 i (by omega)⟩
end Go.Abs
