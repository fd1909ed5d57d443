/- Functions, and what the code asks of them: PQuota. -/
import Derived.KernelRfl
import Derived.Test.YtcmjinkfgbadoaaBucketMoreP4
import Derived.Test.YtcmjinkfgbadoaaBucketMoreP5
import Derived.Test.YtcmjinkfgbadoaaBucketMoreP6
set_option maxRecDepth 100000
set_option maxHeartbeats 4000000
set_option linter.unusedVariables false
set_option linter.unusedSimpArgs false
set_option linter.unusedSectionVars false
namespace Go.Abs
open Go
def dW (a:aJT×aJT):Bool:=decide (a.1.1≤a.2.1∧a.1.2.1≤a.2.2.1∧a.1.2.2≤a.2.2.2)
def L20 {α:Type} (l:List α):Prop:=l.length≤1048576
theorem zF {a b:aJT}:dW (a,b)=true↔a.1≤b.1∧a.2.1≤b.2.1∧a.2.2≤b.2.2:=by
 unfold dW
 simp only [decide_eq_true_eq]
set_option linter.unusedVariables false
set_option linter.unusedVariables false
def f34.ent (K:(aC×aC)→Prop) (t:aC×aC):Prop:=∃ c:aC×aC,(t.1.1=c.1.1)∧(t.1.2.1=c.1.2.1)∧(t.1.2.2=c.1.2.2)∧(t.2.1=c.2.1)∧(t.2.2.1=c.2.2.1)∧(t.2.2.2=c.2.2.2)∧K c
theorem f34.ei {K:(aC×aC)→Prop} {t:aC×aC} (h:K t):f34.ent K t:=⟨t,⟨rfl,⟨rfl,⟨rfl,⟨rfl,⟨rfl,⟨rfl,h⟩⟩⟩⟩⟩⟩⟩
def f34.args (a:aC×aC):List D:=[.agg [.int .i64 a.1.1,.int .i64 a.1.2.1,.int .i64 a.1.2.2],.agg [.int .i64 a.2.1,.int .i64 a.2.2.1,.int .i64 a.2.2.2]]
def f34.blks (a:aC×aC):List (List D):=[]
def f34.res (a:aC×aC):List D:=[.bool (dW a)]
def f34.blks' (a:aC×aC):List (List D):=[]
def f34.C:aO:=FnC f34.args f34.blks (fun _=>True) f34.res f34.blks'
def f34.kills (a:aC×aC):List Hint:=[.unroll 4 [0,1,2,4,5,6,9,10,11,12,13,14,15,16,17] [1] []]
def f34.cuts (a:aC×aC):List (Nat×Σ β:Type,β→Tm):=[]
def f34.af (a:aC×aC):AF:=AF.mk (.seq (.region [oT 2 0 .box [0],
 oT 3 1 .box [1],
 ⟨(some 4),2,.move,[.c (.bool false)],none⟩])
 (.seq (.seq (.region [oT 7 3 (.load true 3) [2],
 ⟨(some 8),4,.move,[.c (.int .i64 (0))],none⟩])
 (.block 0 (.loop 4 [0,1,2,4,5,6,9,10,11,12,13,14,15,16,17] [1] [] 5 18 (.seq (.region [⟨(some 9),5,(.bin .lss),[.t 8,.c (.int .i64 (3))],none⟩])
 (.seq (.cond (.t 9) (.skip) (.exit 0))
 (.seq (.block 1 (.seq (.region [mT 10 6 8,
 oT 11 7 (.indexArr false 1 3) [7,8],
 mT 5 8 10,
 mT 6 9 11])
 (.seq (.region [mT 12 10 6,
 mT 13 11 5,
 oT 14 12 (.indexAddr 1 (some 3)) [3,13],
 oT 15 13 (.load false 1) [14],
 oT 16 14 (.bin .gtr) [12,15]])
 (.cond (.t 16) (.seq (.region [⟨(some 4),15,.move,[.c (.bool false)],none⟩])
 (.ret)) (.skip)))))
 (.region [⟨(some 17),16,(.bin .add),[.t 8,.c (.int .i64 (1))],none⟩,
 mT 8 17 17])))))))
 (.seq (.region [⟨(some 4),18,.move,[.c (.bool true)],none⟩])
 (.ret))))
 [.tmp 4] 0 16
def f34.env:Env:=[]
def f34.tree (a:aC×aC):Prop:=Br (decide (a.2.1 < a.1.1)) ((false=(dW a))∧True) (Br (decide (a.2.2.1 < a.1.2.1)) ((false=(dW a))∧True) (Br (decide (a.2.2.2 < a.1.2.2)) ((false=(dW a))∧True) ((true=(dW a))∧True)))
def f34.vc (a:aC×aC):Prop:=((a.2.1 < a.1.1→(false=dW a))∧(¬(a.2.1 < a.1.1)→((a.2.2.1 < a.1.2.1→(false=dW a))∧(¬(a.2.2.1 < a.1.2.1)→((a.2.2.2 < a.1.2.2→(false=dW a))∧(¬(a.2.2.2 < a.1.2.2)→(true=dW a)))))))
theorem f34.of (a:aC×aC) (h:f34.vc a):f34.tree a:=br h Cnd.dec (fun h1 k15=>⟨k15,trivial⟩) (fun h2 k16=>br k16 Cnd.dec (fun h4 k13=>⟨k13,trivial⟩) (fun h5 k14=>br k14 Cnd.dec (fun h7 k11=>⟨k11,trivial⟩) (fun h8 k12=>⟨k12,trivial⟩)))
theorem f34.eq (a:aC×aC):(f34.af a).gives f34.env (f34.args a) (f34.blks a) (f34.res a) (f34.blks' a)=f34.tree a:=by kernel_rfl
set_option linter.unusedVariables false
theorem f34.ok (a:aJT×aJT) (_:True):f34.vc a:=by
 obtain ⟨x,y⟩:=a
 have hb:¬(x.1≤y.1∧x.2.1≤y.2.1∧x.2.2≤y.2.2)→false=dW (x,y):=fun h=>(Bool.eq_false_iff.2 fun hh=>h (zF.1 hh)).symm
 refine ⟨fun c=>hb (by simp only at c; omega),fun c1=>⟨fun c=>hb (by simp only at c; omega),fun c2=>⟨fun c=>hb (by simp only at c; omega),fun c3=>?_⟩⟩⟩
 simp only at c1 c2 c3
 exact (zF.2 ⟨by omega,by omega,by omega⟩).symm
end Go.Abs
