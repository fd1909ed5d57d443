/- Functions, and what the code asks of them: PQuota. -/
import Derived.KernelRfl
import Derived.Test.YtjlehbennimkgabOrderOnceP4
import Derived.Test.YtjlehbennimkgabOrderOnceP5
import Derived.Test.YtjlehbennimkgabOrderOnceP6
set_option maxRecDepth 100000
set_option maxHeartbeats 4000000
set_option linter.unusedVariables false
set_option linter.unusedSimpArgs false
namespace Go.Abs
open Go
def aHJ (a b:fO):fO:=(a.1+b.1,a.2.1+b.2.1,a.2.2+b.2.2)
def aHE (a b:fO):fO:=(a.1 - b.1,a.2.1 - b.2.1,a.2.2 - b.2.2)
def xH:fO:=(0,0,0)
def aF6 (a:fO×fO×Int):fO×Int :=
 if ¬(rV a.1=true∧rV a.2.1=true) then (xH,1) else
 if rV (if a.2.2=1 then aHJ a.1 a.2.1 else aHE a.1 a.2.1)=true then (if a.2.2=1 then aHJ a.1 a.2.1 else aHE a.1 a.2.1,0) else (xH,6)
def aCZ (a:fO×fO):fO×Int:=aF6 (a.1,a.2,1)
def aIB (a:fO×fO):fO×Int:=aF6 (a.1,a.2,-1)
def aF9 (a:fO×fO):Bool:=decide (a.1.1≤a.2.1∧a.1.2.1≤a.2.2.1∧a.1.2.2≤a.2.2.2)
def aBO:fO→List fO→fO×Int
 | out,[]=>(out,0)
 | out,a::l=>if (aCZ (out,a)).2=0 then aBO (aCZ (out,a)).1 l else (xH,(aCZ (out,a)).2)
def aGQ (l:List fO):fO×Int:=aBO xH l
def L20 {α:Type} (l:List α):Prop:=l.length≤1048576
def dC (j:aU):Bool:=decide (j.2.2.1=ByteArray.empty)
set_option linter.unusedVariables false
set_option linter.unusedVariables false
set_option linter.unusedVariables false
set_option linter.unusedVariables false
def f33.ent (K:aB→Prop) (t:aB):Prop:=∃ c:aB,(t.1.1=c.1.1)∧(t.1.2.1=c.1.2.1)∧(t.1.2.2.1=c.1.2.2.1)∧(t.1.2.2.2.1.1=c.1.2.2.2.1.1)∧(t.1.2.2.2.1.2.1=c.1.2.2.2.1.2.1)∧(t.1.2.2.2.1.2.2=c.1.2.2.2.1.2.2)∧SlQ t.1.2.2.2.2.1.length c.1.2.2.2.2.1.length (gl bO t.1.2.2.2.2.1) (gl bO c.1.2.2.2.2.1) ((t.1.2.2.2.2.2.1=c.1.2.2.2.2.2.1)∧(t.1.2.2.2.2.2.2.1=c.1.2.2.2.2.2.2.1)∧(t.1.2.2.2.2.2.2.2=c.1.2.2.2.2.2.2.2)∧(t.2.1=c.2.1)∧(t.2.2.1=c.2.2.1)∧(t.2.2.2=c.2.2.2)∧K c)
theorem f33.ei {K:aB→Prop} {t:aB} (h:K t):f33.ent K t:=⟨t,⟨rfl,⟨rfl,⟨rfl,⟨rfl,⟨rfl,⟨rfl,slQ (rS bO) (⟨rfl,⟨rfl,⟨rfl,⟨rfl,⟨rfl,⟨rfl,h⟩⟩⟩⟩⟩⟩)⟩⟩⟩⟩⟩⟩⟩
def f33.args (a:aB):List D:=[.agg [.str a.1.1,.str a.1.2.1,.int .i64 a.1.2.2.1,.int .i64 a.1.2.2.2.1.1,.int .i64 a.1.2.2.2.1.2.1,.int .i64 a.1.2.2.2.1.2.2,.slice .ro 2 a.1.2.2.2.2.1.length (gl bO a.1.2.2.2.2.1),.str a.1.2.2.2.2.2.1,.str a.1.2.2.2.2.2.2.1,.int .i64 a.1.2.2.2.2.2.2.2,.int .i64 a.2.1,.str a.2.2.1,.int .i64 a.2.2.2]]
def f33.blks (a:aB):List (List D):=[]
def f33.res (a:aB):List D:=[.bool (dC a)]
def f33.blks' (a:aB):List (List D):=[]
def f33.C:aX:=FnC f33.args f33.blks (fun _=>True) f33.res f33.blks'
def f33.kills (a:aB):List iX:=[]
def f33.cuts (a:aB):List (Nat×Σ β:Type,β→Tm):=[]
def f33.af (a:aB):AF:=AF.mk (.seq (.region [oT 1 0 .box [0],
 ⟨(some 2),1,.move,[.c (.bool false)],none⟩])
 (.seq (.region [oT 3 2 (.fieldAddr 11) [1],
 oT 4 3 (.load false 1) [3],
 ⟨(some 5),4,(.bin .eql),[.t 4,.c (.str ByteArray.empty)],none⟩,
 oT 2 5 .move [5]])
 (.ret)))
 [.tmp 2] 0 5
def f33.env:Env:=[]
def f33.tree (a:aB):Prop:=((a.2.2.1.toList==ByteArray.empty.toList)=(dC a))∧True
def f33.vc (a:aB):Prop:=((a.2.2.1.toList==ByteArray.empty.toList)=dC a)
theorem f33.of (a:aB) (h:f33.vc a):f33.tree a:=⟨h,trivial⟩
theorem f33.eq (a:aB):(f33.af a).gives f33.env (f33.args a) (f33.blks a) (f33.res a) (f33.blks' a)=f33.tree a:=by kernel_rfl
theorem aIH {a b:ByteArray}:(a.toList==b.toList)=decide (a=b):=by
 rw [Bool.eq_iff_iff,beq_iff_eq,toList_inj,decide_eq_true_eq]
theorem f33.ok (a:aU) (_:True):f33.vc a:=aIH
end Go.Abs
