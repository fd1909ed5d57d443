/- Functions, and what the code asks of them: PAgent2. -/
import Derived.KernelRfl
import Derived.Test.YtabnaedcnfkmiaeVictimTellsP3
import Derived.Test.YtabnaedcnfkmiaeVictimTellsP4
import Derived.Test.YtabnaedcnfkmiaeVictimTellsP5
import Derived.Test.YtabnaedcnfkmiaeVictimTellsP8
import Derived.Test.YtabnaedcnfkmiaeVictimTellsP9
import Derived.Test.YtabnaedcnfkmiaeVictimTellsP11
set_option linter.unusedVariables false
set_option linter.unusedSimpArgs false
/- States,and the orders that they tell. -/
namespace Go.Abs
open Go
end Go.Abs

-- interregnum/agent.Of$1
namespace Go.Abs
open Go
end Go.Abs

/- interregnum/agent.Of$1 -/
namespace Go.Abs
open Go
set_option linter.unusedVariables false
end Go.Abs

-- interregnum/gen1.machine$1
namespace Go.Abs
open Go
end Go.Abs

/- interregnum/gen1.machine$1 -/
namespace Go.Abs
open Go
set_option linter.unusedVariables false
end Go.Abs

-- interregnum/gen1.queue$1
namespace Go.Abs
open Go
end Go.Abs

/- interregnum/gen1.queue$1 -/
namespace Go.Abs
open Go
set_option linter.unusedVariables false
end Go.Abs

-- slices.IndexFunc[[]interregnum/api.Machine,interregnum/api.Machine]
namespace Go.Abs
open Go
end Go.Abs

/- slices.IndexFunc[[]interregnum/api.Machine,interregnum/api.Machine] -/
namespace Go.Abs
open Go
set_option linter.unusedVariables false
end Go.Abs

-- slices.IndexFunc[[]interregnum/api.Machine,interregnum/api.Machine]#1
namespace Go.Abs
open Go
end Go.Abs

/- slices.IndexFunc[[]interregnum/api.Machine,interregnum/api.Machine]#1 -/
namespace Go.Abs
open Go
set_option linter.unusedVariables false
end Go.Abs

-- slices.IndexFunc[[]interregnum/api.Queue,interregnum/api.Queue]
namespace Go.Abs
open Go
end Go.Abs

/- slices.IndexFunc[[]interregnum/api.Queue,interregnum/api.Queue] -/
namespace Go.Abs
open Go
set_option linter.unusedVariables false
end Go.Abs

-- interregnum/gen1.machine
namespace Go.Abs
open Go
end Go.Abs

/- interregnum/gen1.machine -/
namespace Go.Abs
open Go
set_option linter.unusedVariables false
end Go.Abs

-- interregnum/gen1.queue
namespace Go.Abs
open Go
end Go.Abs

/- interregnum/gen1.queue -/
namespace Go.Abs
open Go
set_option linter.unusedVariables false
end Go.Abs

-- interregnum/interregnumref15.machine
namespace Go.Abs
open Go
end Go.Abs

/- interregnum/interregnumref15.machine -/
namespace Go.Abs
open Go
set_option linter.unusedVariables false
end Go.Abs

-- interregnum/interregnumref15.queue
namespace Go.Abs
open Go
end Go.Abs

/- interregnum/interregnumref15.queue -/
namespace Go.Abs
open Go
set_option linter.unusedVariables false
end Go.Abs

-- interregnum/gen1.stands
namespace Go.Abs
open Go
end Go.Abs

/- interregnum/gen1.stands -/
namespace Go.Abs
open Go
set_option linter.unusedVariables false
end Go.Abs

-- interregnum/interregnumref15.bound
namespace Go.Abs
open Go
end Go.Abs

-- interregnum/interregnumref04.Has
namespace Go.Abs
open Go
def f360.ent (K:((List (aH))×(List (aH)))→Prop) (t:(List (aH))×(List (aH))):Prop:=∃ c:(List (aH))×(List (aH)),SlQ t.1.length c.1.length (gl aE t.1) (gl aE c.1) (SlQ t.2.length c.2.length (gl aE t.2) (gl aE c.2) (K c))
theorem f360.ei {K:((List (aH))×(List (aH)))→Prop} {t:(List (aH))×(List (aH))} (h:K t):f360.ent K t:=⟨t,slQ (Rds.self (enc:=aE)) (slQ (Rds.self (enc:=aE)) (h))⟩
def f360.args (a:(List (aH))×(List (aH))):List D:=[.slice .ro 2 a.1.length (gl aE a.1),.slice .ro 2 a.2.length (gl aE a.2)]
def f360.blks (a:(List (aH))×(List (aH))):List (List D):=[]
def f360.res (a:(List (aH))×(List (aH))):List D:=[.bool (eW a)]
def f360.blks' (a:(List (aH))×(List (aH))):List (List D):=[]
def f360.C:aM:=FnC f360.args f360.blks (fun a=>kM a) f360.res f360.blks'
end Go.Abs

/- interregnum/interregnumref15.bound -/
namespace Go.Abs
open Go
set_option linter.unusedVariables false
end Go.Abs

-- interregnum/gen1.machines
namespace Go.Abs
open Go
end Go.Abs

/- interregnum/gen1.machines -/
namespace Go.Abs
open Go
set_option linter.unusedVariables false
end Go.Abs

-- interregnum/gen1.queues
namespace Go.Abs
open Go
end Go.Abs

/- interregnum/gen1.queues -/
namespace Go.Abs
open Go
set_option linter.unusedVariables false
end Go.Abs

-- interregnum/gen1.jobs
namespace Go.Abs
open Go
end Go.Abs

/- interregnum/gen1.jobs -/
namespace Go.Abs
open Go
set_option linter.unusedVariables false
end Go.Abs

-- interregnum/gen1.Right
namespace Go.Abs
open Go
end Go.Abs

/- interregnum/gen1.Right -/
namespace Go.Abs
open Go
set_option linter.unusedVariables false
end Go.Abs

/- States: what the code asks is so. -/
namespace Go.Abs
open Go
end Go.Abs
