/- Functions, and what the code asks of them: PQuota. -/
import Derived.KernelRfl
import Derived.Test.YtjlehbennimkgabOrderTellsP4
import Derived.Test.YtjlehbennimkgabOrderTellsP5
import Derived.Test.YtjlehbennimkgabOrderTellsP6
set_option linter.unusedVariables false
set_option linter.unusedSimpArgs false
/- What queues bear. -/
namespace Go.Abs
open Go

def aHH (a b:fV):fV:=(a.1+b.1,a.2.1+b.2.1,a.2.2+b.2.2)
def aHL (a b:fV):fV:=(a.1 - b.1,a.2.1 - b.2.1,a.2.2 - b.2.2)
def yJ:fV:=(0,0,0)
def aGB (a:fV×fV×Int):fV×Int :=
 if ¬(sM a.1=true∧sM a.2.1=true) then (yJ,1) else
 if sM (if a.2.2=1 then aHH a.1 a.2.1 else aHL a.1 a.2.1)=true then (if a.2.2=1 then aHH a.1 a.2.1 else aHL a.1 a.2.1,0) else (yJ,6)
def aCA (a:fV×fV):fV×Int:=aGB (a.1,a.2,1)
def aID (a:fV×fV):fV×Int:=aGB (a.1,a.2,-1)
def aGE (a:fV×fV):Bool:=decide (a.1.1≤a.2.1∧a.1.2.1≤a.2.2.1∧a.1.2.2≤a.2.2.2)
def aBK:fV→List fV→fV×Int
 | out,[]=>(out,0)
 | out,a::l=>if (aCA (out,a)).2=0 then aBK (aCA (out,a)).1 l else (yJ,(aCA (out,a)).2)
def aGM (l:List fV):fV×Int:=aBK yJ l

def L20 {α:Type} (l:List α):Prop:=l.length≤1048576
def dC (j:aS):Bool:=decide (j.2.2.1=ByteArray.empty)
end Go.Abs

/- What queues bear: plain facts. -/
namespace Go.Abs
open Go
end Go.Abs

-- interregnum/res.both
namespace Go.Abs
open Go
end Go.Abs

/- interregnum/res.both -/
namespace Go.Abs
open Go
set_option linter.unusedVariables false
end Go.Abs

-- interregnum/res.Add
namespace Go.Abs
open Go
end Go.Abs

/- interregnum/res.Add -/
namespace Go.Abs
open Go
set_option linter.unusedVariables false
end Go.Abs

-- interregnum/interregnumref03.Add
namespace Go.Abs
open Go
end Go.Abs

/- interregnum/interregnumref03.Add -/
namespace Go.Abs
open Go
set_option linter.unusedVariables false
end Go.Abs

-- interregnum/res.Fits
namespace Go.Abs
open Go
end Go.Abs

/- interregnum/res.Fits -/
namespace Go.Abs
open Go
set_option linter.unusedVariables false
end Go.Abs

-- interregnum/res.Sum
namespace Go.Abs
open Go
end Go.Abs

/- interregnum/res.Sum -/
namespace Go.Abs
open Go
set_option linter.unusedVariables false
end Go.Abs

-- interregnum/interregnumref03.Sum
namespace Go.Abs
open Go
end Go.Abs

/- interregnum/interregnumref03.Sum -/
namespace Go.Abs
open Go
set_option linter.unusedVariables false
end Go.Abs

-- interregnum/quota.Waits
namespace Go.Abs
open Go
def f33.ent (K:aA→Prop) (t:aA):Prop:=∃ c:aA,(t.1.1=c.1.1)∧(t.1.2.1=c.1.2.1)∧(t.1.2.2.1=c.1.2.2.1)∧(t.1.2.2.2.1.1=c.1.2.2.2.1.1)∧(t.1.2.2.2.1.2.1=c.1.2.2.2.1.2.1)∧(t.1.2.2.2.1.2.2=c.1.2.2.2.1.2.2)∧SlQ t.1.2.2.2.2.1.length c.1.2.2.2.2.1.length (gl aN t.1.2.2.2.2.1) (gl aN c.1.2.2.2.2.1) ((t.1.2.2.2.2.2.1=c.1.2.2.2.2.2.1)∧(t.1.2.2.2.2.2.2.1=c.1.2.2.2.2.2.2.1)∧(t.1.2.2.2.2.2.2.2=c.1.2.2.2.2.2.2.2)∧(t.2.1=c.2.1)∧(t.2.2.1=c.2.2.1)∧(t.2.2.2=c.2.2.2)∧K c)
theorem f33.ei {K:aA→Prop} {t:aA} (h:K t):f33.ent K t:=⟨t,⟨rfl,⟨rfl,⟨rfl,⟨rfl,⟨rfl,⟨rfl,slQ (Rds.self (enc:=aN)) (⟨rfl,⟨rfl,⟨rfl,⟨rfl,⟨rfl,⟨rfl,h⟩⟩⟩⟩⟩⟩)⟩⟩⟩⟩⟩⟩⟩
def f33.args (a:aA):List D:=[.agg [.str a.1.1,.str a.1.2.1,.int .i64 a.1.2.2.1,.int .i64 a.1.2.2.2.1.1,.int .i64 a.1.2.2.2.1.2.1,.int .i64 a.1.2.2.2.1.2.2,.slice .ro 2 a.1.2.2.2.2.1.length (gl aN a.1.2.2.2.2.1),.str a.1.2.2.2.2.2.1,.str a.1.2.2.2.2.2.2.1,.int .i64 a.1.2.2.2.2.2.2.2,.int .i64 a.2.1,.str a.2.2.1,.int .i64 a.2.2.2]]
def f33.blks (a:aA):List (List D):=[]
def f33.res (a:aA):List D:=[.bool (dC a)]
def f33.blks' (a:aA):List (List D):=[]
def f33.C:aU:=FnC f33.args f33.blks (fun _=>True) f33.res f33.blks'
end Go.Abs

/- interregnum/quota.Waits -/
namespace Go.Abs
open Go
set_option linter.unusedVariables false
def f33.kills (a:aA):List fU:=[]
def f33.cuts (a:aA):List (Nat×Σ β:Type,β→Tm):=[]
def f33.af (a:aA):AF:=AF.mk (.seq (.region [oT 1 0 .box [0],
 ⟨(some 2),1,.move,[.c (.bool false)],none⟩])
 (.seq (.region [oT 3 2 (.fieldAddr 11) [1],
 oT 4 3 (.load false 1) [3],
 ⟨(some 5),4,(.bin .eql),[.t 4,.c (.str ByteArray.empty)],none⟩,
 oT 2 5 .move [5]])
 (.ret)))
 [.tmp 2] 0 5
def f33.env:Env:=[]
def f33.tree (a:aA):Prop:=((a.2.2.1.toList==ByteArray.empty.toList)=(dC a))∧True
def f33.vc (a:aA):Prop:=((a.2.2.1.toList==ByteArray.empty.toList)=dC a)
set_option maxRecDepth 100000 in
set_option maxHeartbeats 2000000 in
theorem f33.of (a:aA) (h:f33.vc a):f33.tree a:=⟨h,trivial⟩
theorem f33.eq (a:aA):(f33.af a).gives f33.env (f33.args a) (f33.blks a) (f33.res a) (f33.blks' a)=f33.tree a:=by kernel_rfl
end Go.Abs

/- What queues bear: what the code asks is so. -/
namespace Go.Abs
open Go
theorem aH9 {a b:ByteArray}:(a.toList==b.toList)=decide (a=b):=by
 rw [Bool.eq_iff_iff,beq_iff_eq,toList_inj,decide_eq_true_eq]

theorem f33.ok (a:aS) (_:True):f33.vc a:=aH9

end Go.Abs
