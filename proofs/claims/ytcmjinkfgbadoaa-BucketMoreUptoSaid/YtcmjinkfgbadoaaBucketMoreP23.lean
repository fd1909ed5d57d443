/- Functions, and what the code asks of them: PBucket2. -/
import Derived.KernelRfl
import Derived.Test.YtcmjinkfgbadoaaBucketMoreP4
import Derived.Test.YtcmjinkfgbadoaaBucketMoreP5
import Derived.Test.YtcmjinkfgbadoaaBucketMoreP6
import Derived.Test.YtcmjinkfgbadoaaBucketMoreP7
import Derived.Test.YtcmjinkfgbadoaaBucketMoreP8
import Derived.Test.YtcmjinkfgbadoaaBucketMoreP9
import Derived.Test.YtcmjinkfgbadoaaBucketMoreP10
import Derived.Test.YtcmjinkfgbadoaaBucketMoreP11
import Derived.Test.YtcmjinkfgbadoaaBucketMoreP12
import Derived.Test.YtcmjinkfgbadoaaBucketMoreP15
import Derived.Test.YtcmjinkfgbadoaaBucketMoreP16
import Derived.Test.YtcmjinkfgbadoaaBucketMoreP17
import Derived.Test.YtcmjinkfgbadoaaBucketMoreP18
import Derived.Test.YtcmjinkfgbadoaaBucketMoreP20
import Derived.Test.YtcmjinkfgbadoaaBucketMoreP21
import Derived.Test.YtcmjinkfgbadoaaBucketMoreP22
set_option maxRecDepth 100000
set_option maxHeartbeats 4000000
set_option linter.unusedVariables false
set_option linter.unusedSimpArgs false
set_option linter.unusedSectionVars false
-- interregnum/interregnumlaw17.few
namespace Go.Abs
open Go
def f306.ent (K:(List (aF))→Prop) (t:List (aF)):Prop:=∃ c:List (aF),SlQ t.length c.length (gl a9 t) (gl a9 c) (K c)
theorem f306.ei {K:(List (aF))→Prop} {t:List (aF)} (h:K t):f306.ent K t:=⟨t,slQ (rS a9) (h)⟩
def f306.args (a:List (aF)):List D:=[.slice .ro 5 a.length (gl a9 a)]
def f306.blks (a:List (aF)):List (List D):=[]
def f306.res (a:List (aF)):List D:=[.bool (jX a)]
def f306.blks' (a:List (aF)):List (List D):=[]
def f306.C:aO:=FnC f306.args f306.blks (fun a=>L20 a) f306.res f306.blks'
set_option linter.unusedVariables false
def f306.S0 (a:List (aF)) (x:Int):Tm:=⟨.slice .ro 5 a.length (gl a9 a)::dd 7 (.int .i64 (a.length:Int)::.int .i64 x::dd 10 []),[],[]⟩
def f306.kills (a:List (aF)):List Hint:=[.tell Int (f306.S0 a)]
def f306.cuts (a:List (aF)):List (Nat×Σ β:Type,β→Tm):=[]
def f306.af (a:List (aF)):AF:=AF.mk (.seq (.region [⟨(some 2),0,.move,[.c (.bool false)],none⟩])
 (.seq (.seq (.region [mT 4 1 0,
 oT 5 2 (.len false) [4],
 ⟨(some 6),3,(.bin .gtr),[.t 5,.c (.int .i64 (300))],none⟩])
 (.cond (.t 6) (.seq (.region [⟨(some 2),4,.move,[.c (.bool false)],none⟩])
 (.ret)) (.skip)))
 (.seq (.seq (.region [mT 7 5 0,
 oT 8 6 (.len false) [7],
 ⟨(some 9),7,.move,[.c (.int .i64 (0))],none⟩])
 (.block 0 (.loopT Int (f306.S0 a) 8 21 (.seq (.region [oT 10 8 (.bin .lss) [9,8]])
 (.seq (.cond (.t 10) (.skip) (.exit 0))
 (.seq (.block 1 (.seq (.region [mT 11 9 9,
 mT 3 10 11])
 (.seq (.region [mT 12 11 0,
 mT 13 12 3,
 oT 14 13 (.indexAddr 5 none) [12,13],
 oT 15 14 (.fieldAddr 1) [14],
 oT 16 15 (.load false 1) [15],
 oT 17 16 (.len true) [16],
 ⟨(some 18),17,(.bin .gtr),[.t 17,.c (.int .i64 (1000))],none⟩])
 (.cond (.t 18) (.seq (.region [⟨(some 2),18,.move,[.c (.bool false)],none⟩])
 (.ret)) (.skip)))))
 (.region [⟨(some 19),19,(.bin .add),[.t 9,.c (.int .i64 (1))],none⟩,
 mT 9 20 19])))))))
 (.seq (.region [⟨(some 2),21,.move,[.c (.bool true)],none⟩])
 (.ret)))))
 [.tmp 2] 0 19
def f306.env:Env:=[]
def f306.tree (a:List (aF)):Prop:=Br (decide ((300:Int) < (a.length:Int))) ((false=(jX a))∧True) (∃ (I5:Int→Prop) (μ6:Int→Nat),(∃ x4:Int,SlS a9 a (((a.length:Int)=(a.length:Int))∧((0:Int)=x4)∧I5 x4))∧∀ y7:Int,I5 y7→(Br (decide (y7 < (a.length:Int))) (Br (decide ((0:Int)≤y7)&&decide (y7 < (a.length:Int))) (Br (decide ((1000:Int) < (((at_ a y7).2.1).size:Int))) ((false=(jX a))∧True) (Let (wI (y7+(1:Int))) (fun v14:Int=>∃ x15:Int,SlS a9 a (((a.length:Int)=(a.length:Int))∧(v14=x15)∧I5 x15∧μ6 x15 < μ6 y7)))) False) ((true=(jX a))∧True)))
def f306.vc (a:List (aF)):Prop:=(((300:Int) < (a.length:Int)→(false=jX a))∧(¬((300:Int) < (a.length:Int))→(∃ (I5:Int→Prop) (μ6:Int→Nat),I5 (0:Int)∧∀ y7:Int,I5 y7→((y7 < (a.length:Int)→((0:Int)≤y7∧y7 < (a.length:Int)∧(((1000:Int) < (((at_ a y7).2.1).size:Int)→(false=jX a))∧(¬((1000:Int) < (((at_ a y7).2.1).size:Int))→(-9223372036854775808≤(y7+(1:Int))∧(y7+(1:Int))≤9223372036854775807∧(I5 (y7+(1:Int))∧μ6 (y7+(1:Int)) < μ6 y7))))))∧(¬(y7 < (a.length:Int))→(true=jX a))))))
theorem f306.of (a:List (aF)) (h:f306.vc a):f306.tree a:=br h Cnd.dec (fun h1 k29=>⟨k29,trivial⟩) (fun h2 k30=>Exists.elim k30 (fun I5 h26_=>Exists.elim h26_ (fun μ6 h26=>⟨I5,μ6,⟨(0:Int),SlS.mk  (⟨rfl,⟨rfl,h26.1⟩⟩)⟩,fun y7 h28=>br (h26.2 y7 h28) Cnd.dec (fun h8 k24=>chk k24.2.2 Cnd.ix ⟨k24.1,k24.2.1⟩ (fun h10 k22=>br k22 Cnd.dec (fun h11 k20=>⟨k20,trivial⟩) (fun h12 k21=>wrapK.i64 k21 (fun h17 h18 k19=>⟨(y7+(1:Int)),SlS.mk  (⟨rfl,⟨rfl,k19⟩⟩)⟩)))) (fun h9 k25=>⟨k25,trivial⟩)⟩)))
theorem f306.eq (a:List (aF)):(f306.af a).gives f306.env (f306.args a) (f306.blks a) (f306.res a) (f306.blks' a)=f306.tree a:=by kernel_rfl
set_option linter.unusedVariables false
set_option linter.unusedVariables false
theorem aCE (l:List (ByteArray×Rs3)) (x:Rs3):(jT l x).length≤l.length:=by
 unfold jT
 rw [List.length_map]
 exact List.length_filter_le _ _
theorem oP {l:List (Int×ByteArray×Rs3)}:jX l=true↔l.length≤300∧∀ i,i < l.length→(l.getD i default).2.1.size≤1000:=by
 unfold jX
 simp only [Bool.and_eq_true,decide_eq_true_eq,List.all_eq_true,List.mem_range]
theorem s3 {l:List (Int×ByteArray×Rs3)} (h:¬jX l=true):false=jX l:=(Bool.eq_false_iff.2 h).symm
theorem f306.ok (a:List (Int×ByteArray×Rs3)) (h:L20 a):f306.vc a:=by
 have h:a.length≤1048576:=h
 refine ⟨fun c=>s3 fun hh=>by have:=(oP.1 hh).1; omega,fun c=>?_⟩
 refine ⟨fun y=>0≤y∧y≤(a.length:Int)∧(∀ i,i < y.toNat→(a.getD i default).2.1.size≤1000),fun y=>a.length - y.toNat,⟨by omega,by omega,fun i hi=>by simp at hi⟩,fun y hy=>?_⟩
 obtain ⟨g0,g1,g2⟩:=hy
 refine ⟨fun hlt=>?_,fun hge=>?_⟩
 ·refine ⟨g0,hlt,fun d=>s3 fun hh=>?_,fun d=>⟨by omega,by omega,⟨by omega,by omega,fun i hi=>?_⟩,by simp only; omega⟩⟩
  ·have:=(oP.1 hh).2 y.toNat (by omega)
   rw [← pZ] at this
   omega
  ·by_cases he:i=y.toNat
   ·subst he
    rw [← pZ]
    omega
   ·exact g2 i (by omega)
 ·symm
  rw [oP]
  exact ⟨by omega,fun i hi=>g2 i (by omega)⟩
end Go.Abs
