/- Functions, and what the code asks of them: PAgent. -/
import Derived.KernelRfl
import Derived.Test.YtcmjinkfgbadoabLabelsNilP4
import Derived.Test.YtcmjinkfgbadoabLabelsNilP5
import Derived.Test.YtcmjinkfgbadoabLabelsNilP6
import Derived.Test.YtcmjinkfgbadoabLabelsNilP7
set_option maxRecDepth 100000
set_option maxHeartbeats 4000000
set_option linter.unusedVariables false
set_option linter.unusedSimpArgs false
set_option linter.unusedSectionVars false
namespace Go.Abs
open Go
set_option linter.unusedVariables false
set_option linter.unusedVariables false
def f200.args (a:ByteArray):List D:=[.str a]
def f200.blks (a:ByteArray):List (List D):=[]
def f200.res (a:ByteArray):List D:=[.bool ((fun _:ByteArray=>false) a)]
def f200.blks' (a:ByteArray):List (List D):=[]
def f200.C:aP:=FnC f200.args f200.blks (fun _=>True) f200.res f200.blks'
def f200.kills (a:ByteArray):List Hint:=[]
def f200.cuts (a:ByteArray):List (Nat×Σ β:Type,β→Tm):=[]
def f200.af (a:ByteArray):AF:=AF.mk (.seq (.region [⟨(some 2),0,.move,[.c (.bool false)],none⟩])
 (.seq (.region [mT 3 1 0,
 mT 4 2 0,
 oT 5 3 (.bin .neq) [3,4],
 mT 2 4 5])
 (.ret)))
 [.tmp 2] 0 5
def f200.env:Env:=[]
def f200.tree (a:ByteArray):Prop:=((!(a.toList==a.toList))=((fun _:ByteArray=>false) a))∧True
def f200.vc (a:ByteArray):Prop:=((!(a.toList==a.toList))=(fun _:ByteArray=>false) a)
theorem f200.of (a:ByteArray) (h:f200.vc a):f200.tree a:=⟨h,trivial⟩
theorem f200.eq (a:ByteArray):(f200.af a).gives f200.env (f200.args a) (f200.blks a) (f200.res a) (f200.blks' a)=f200.tree a:=by kernel_rfl
theorem f200.ok (a:ByteArray) (_:True):f200.vc a:=by
 unfold f200.vc
 simp
set_option linter.unusedVariables false
set_option linter.unusedVariables false
set_option linter.unusedVariables false
set_option linter.unusedVariables false
set_option linter.unusedVariables false
set_option linter.unusedVariables false
end Go.Abs
