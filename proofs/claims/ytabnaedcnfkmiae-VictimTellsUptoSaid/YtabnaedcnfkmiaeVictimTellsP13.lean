/- Functions, and what the code asks of them: PAgent3. -/
import Derived.KernelRfl
import Derived.Test.YtabnaedcnfkmiaeVictimTellsP3
import Derived.Test.YtabnaedcnfkmiaeVictimTellsP4
import Derived.Test.YtabnaedcnfkmiaeVictimTellsP5
import Derived.Test.YtabnaedcnfkmiaeVictimTellsP8
import Derived.Test.YtabnaedcnfkmiaeVictimTellsP9
import Derived.Test.YtabnaedcnfkmiaeVictimTellsP11
import Derived.Test.YtabnaedcnfkmiaeVictimTellsP12
set_option linter.unusedVariables false
set_option linter.unusedSimpArgs false
-- interregnum/interregnumref15.Right
namespace Go.Abs
open Go
end Go.Abs

-- interregnum/interregnumref11.Free
namespace Go.Abs
open Go
def f365.ent (K:(aC×(List (aA)))→Prop) (t:aC×(List (aA))):Prop:=∃ c:aC×(List (aA)),(t.1.1.1=c.1.1.1)∧(t.1.1.2.1.1=c.1.1.2.1.1)∧(t.1.1.2.1.2.1=c.1.1.2.1.2.1)∧(t.1.1.2.1.2.2=c.1.1.2.1.2.2)∧SlQ t.1.1.2.2.length c.1.1.2.2.length (gl aE t.1.1.2.2) (gl aE c.1.1.2.2) ((t.1.2.1=c.1.2.1)∧(t.1.2.2=c.1.2.2)∧SlQ t.2.length c.2.length (gl aB t.2) (gl aB c.2) (K c))
theorem f365.ei {K:(aC×(List (aA)))→Prop} {t:aC×(List (aA))} (h:K t):f365.ent K t:=⟨t,⟨rfl,⟨rfl,⟨rfl,⟨rfl,slQ (Rds.self (enc:=aE)) (⟨rfl,⟨rfl,slQ (Rds.self (enc:=aB)) (h)⟩⟩)⟩⟩⟩⟩⟩
def f365.args (a:aC×(List (aA))):List D:=[.agg [.str a.1.1.1,.int .i64 a.1.1.2.1.1,.int .i64 a.1.1.2.1.2.1,.int .i64 a.1.1.2.1.2.2,.slice .ro 2 a.1.1.2.2.length (gl aE a.1.1.2.2),.bool a.1.2.1,.int .i64 a.1.2.2],.slice .ro 13 a.2.length (gl aB a.2)]
def f365.blks (a:aC×(List (aA))):List (List D):=[]
def f365.res (a:aC×(List (aA))):List D:=[.agg [.int .i64 (((aX a).1).1),.int .i64 (((aX a).1).2.1),.int .i64 (((aX a).1).2.2)],.int .i64 ((aX a).2)]
def f365.blks' (a:aC×(List (aA))):List (List D):=[]
def f365.C:aM:=FnC f365.args f365.blks (fun a=>fK a) f365.res f365.blks'
end Go.Abs

/- interregnum/interregnumref15.Right -/
namespace Go.Abs
open Go
set_option linter.unusedVariables false
end Go.Abs

-- interregnum/agent.Of
namespace Go.Abs
open Go
end Go.Abs

/- interregnum/agent.Of -/
namespace Go.Abs
open Go
set_option linter.unusedVariables false
end Go.Abs

-- interregnum/interregnumref24.Of
namespace Go.Abs
open Go
end Go.Abs

/- interregnum/interregnumref24.Of -/
namespace Go.Abs
open Go
set_option linter.unusedVariables false
end Go.Abs

/- States and the orders that they tell: what the code asks is so. -/
namespace Go.Abs
open Go
end Go.Abs
