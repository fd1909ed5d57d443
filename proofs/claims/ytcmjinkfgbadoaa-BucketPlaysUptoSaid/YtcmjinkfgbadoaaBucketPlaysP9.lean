/- Functions, and what the code asks of them: PAgent. -/
import Derived.KernelRfl
import Derived.Test.YtcmjinkfgbadoaaBucketPlaysP4
import Derived.Test.YtcmjinkfgbadoaaBucketPlaysP5
import Derived.Test.YtcmjinkfgbadoaaBucketPlaysP6
import Derived.Test.YtcmjinkfgbadoaaBucketPlaysP7
set_option maxRecDepth 100000
set_option maxHeartbeats 4000000
set_option linter.unusedVariables false
set_option linter.unusedSimpArgs false
set_option linter.unusedSectionVars false
namespace Go.Abs
open Go
set_option linter.unusedVariables false
set_option linter.unusedVariables false
def f200.args (a:ByteArray):List D:=[.str a]
def f200.blks (a:ByteArray):List (List D):=[]
def f200.res (a:ByteArray):List D:=[.bool ((fun _:ByteArray=>false) a)]
def f200.blks' (a:ByteArray):List (List D):=[]
def f200.C:aQ:=FnC f200.args f200.blks (fun _=>True) f200.res f200.blks'
def f200.kills (a:ByteArray):List Hint:=[]
def f200.cuts (a:ByteArray):List (Nat×Σ β:Type,β→Tm):=[]
def f200.af (a:ByteArray):AF:=AF.mk (.seq (.region [⟨(some 2),0,.move,[.c (.bool false)],none⟩])
 (.seq (.region [mT 3 1 0,
 mT 4 2 0,
 oT 5 3 (.bin .neq) [3,4],
 mT 2 4 5])
 (.ret)))
 [.tmp 2] 0 5
def f200.env:Env:=[]
def f200.tree (a:ByteArray):Prop:=((!(a.toList==a.toList))=((fun _:ByteArray=>false) a))∧True
def f200.vc (a:ByteArray):Prop:=((!(a.toList==a.toList))=(fun _:ByteArray=>false) a)
theorem f200.of (a:ByteArray) (h:f200.vc a):f200.tree a:=⟨h,trivial⟩
theorem f200.eq (a:ByteArray):(f200.af a).gives f200.env (f200.args a) (f200.blks a) (f200.res a) (f200.blks' a)=f200.tree a:=by kernel_rfl
theorem f200.ok (a:ByteArray) (_:True):f200.vc a:=by
 unfold f200.vc
 simp
set_option linter.unusedVariables false
set_option linter.unusedVariables false
set_option linter.unusedVariables false
set_option linter.unusedVariables false
set_option linter.unusedVariables false
set_option linter.unusedVariables false
def f131.ent (K:(aB×aB)→Prop) (t:aB×aB):Prop:=∃ c:aB×aB,(t.1.1=c.1.1)∧(t.1.2.1=c.1.2.1)∧(t.1.2.2=c.1.2.2)∧(t.2.1=c.2.1)∧(t.2.2.1=c.2.2.1)∧(t.2.2.2=c.2.2.2)∧K c
theorem f131.ei {K:(aB×aB)→Prop} {t:aB×aB} (h:K t):f131.ent K t:=⟨t,⟨rfl,⟨rfl,⟨rfl,⟨rfl,⟨rfl,⟨rfl,h⟩⟩⟩⟩⟩⟩⟩
def f131.args (a:aB×aB):List D:=[.agg [.int .i64 a.1.1,.int .i64 a.1.2.1,.int .i64 a.1.2.2],.agg [.int .i64 a.2.1,.int .i64 a.2.2.1,.int .i64 a.2.2.2]]
def f131.blks (a:aB×aB):List (List D):=[]
def f131.res (a:aB×aB):List D:=[.bool (cY a)]
def f131.blks' (a:aB×aB):List (List D):=[]
def f131.C:aQ:=FnC f131.args f131.blks (fun _=>True) f131.res f131.blks'
def f131.kills (a:aB×aB):List Hint:=[]
def f131.cuts (a:aB×aB):List (Nat×Σ β:Type,β→Tm):=[]
def f131.af (a:aB×aB):AF:=AF.mk (.seq (.region [oT 2 0 .box [0],
 oT 3 1 .box [1],
 ⟨(some 4),2,.move,[.c (.bool false)],none⟩])
 (.seq (.region [⟨(some 5),3,(.indexAddr 1 (some 3)),[.t 2,.c (.int .i64 (0))],none⟩,
 oT 6 4 (.load false 1) [5],
 ⟨(some 7),5,(.indexAddr 1 (some 3)),[.t 3,.c (.int .i64 (0))],none⟩,
 oT 8 6 (.load false 1) [7],
 oT 9 7 (.bin .leq) [6,8],
 mT 10 8 9,
 ⟨(some 11),9,(.indexAddr 1 (some 3)),[.t 2,.c (.int .i64 (1))],(some (10,true))⟩,
 oG 12 10 (.load false 1) [11] 10 true,
 ⟨(some 13),11,(.indexAddr 1 (some 3)),[.t 3,.c (.int .i64 (1))],(some (10,true))⟩,
 oG 14 12 (.load false 1) [13] 10 true,
 oG 15 13 (.bin .leq) [12,14] 10 true,
 ⟨(some 16),14,.pick,[.t 10,.t 15,.c (.bool false)],none⟩,
 mT 17 15 16,
 ⟨(some 18),16,(.indexAddr 1 (some 3)),[.t 2,.c (.int .i64 (2))],(some (17,true))⟩,
 oG 19 17 (.load false 1) [18] 17 true,
 ⟨(some 20),18,(.indexAddr 1 (some 3)),[.t 3,.c (.int .i64 (2))],(some (17,true))⟩,
 oG 21 19 (.load false 1) [20] 17 true,
 oG 22 20 (.bin .leq) [19,21] 17 true,
 ⟨(some 23),21,.pick,[.t 17,.t 22,.c (.bool false)],none⟩,
 mT 4 22 23])
 (.ret)))
 [.tmp 4] 0 22
def f131.env:Env:=[]
def f131.tree (a:aB×aB):Prop:=Br (decide (a.1.1≤a.2.1)) (Br (decide (a.1.2.1≤a.2.2.1)) (((decide (a.1.2.2≤a.2.2.2))=(cY a))∧True) ((false=(cY a))∧True)) ((false=(cY a))∧True)
def f131.vc (a:aB×aB):Prop:=((a.1.1≤a.2.1→((a.1.2.1≤a.2.2.1→(decide (a.1.2.2≤a.2.2.2)=cY a))∧(¬(a.1.2.1≤a.2.2.1)→(false=cY a))))∧(¬(a.1.1≤a.2.1)→(false=cY a)))
theorem f131.of (a:aB×aB) (h:f131.vc a):f131.tree a:=br h Cnd.dec (fun h1 k10=>br k10 Cnd.dec (fun h3 k7=>⟨k7,trivial⟩) (fun h4 k8=>⟨k8,trivial⟩)) (fun h2 k11=>⟨k11,trivial⟩)
theorem f131.eq (a:aB×aB):(f131.af a).gives f131.env (f131.args a) (f131.blks a) (f131.res a) (f131.blks' a)=f131.tree a:=by kernel_rfl
theorem f131.ok (a:aGD×aGD) (_:True):f131.vc a:=by
 have hb:¬(a.1.1≤a.2.1∧a.1.2.1≤a.2.2.1∧a.1.2.2≤a.2.2.2)→false=cY a:=fun h=>(decide_eq_false h).symm
 refine ⟨fun c1=>⟨fun c2=>?_,fun c2=>hb fun h=>c2 h.2.1⟩,fun c1=>hb fun h=>c1 h.1⟩
 unfold cY
 by_cases c3:a.1.2.2≤a.2.2.2
 ·rw [decide_eq_true c3,decide_eq_true ⟨c1,c2,c3⟩]
 ·rw [decide_eq_false c3,decide_eq_false (fun h=>c3 h.2.2)]
end Go.Abs
