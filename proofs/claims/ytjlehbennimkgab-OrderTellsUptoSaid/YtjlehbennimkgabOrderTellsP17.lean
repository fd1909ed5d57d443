/- Functions, and what the code asks of them: PRef11. -/
import Derived.KernelRfl
import Derived.Test.YtjlehbennimkgabOrderTellsP4
import Derived.Test.YtjlehbennimkgabOrderTellsP5
import Derived.Test.YtjlehbennimkgabOrderTellsP6
import Derived.Test.YtjlehbennimkgabOrderTellsP9
import Derived.Test.YtjlehbennimkgabOrderTellsP10
import Derived.Test.YtjlehbennimkgabOrderTellsP12
import Derived.Test.YtjlehbennimkgabOrderTellsP13
import Derived.Test.YtjlehbennimkgabOrderTellsP14
set_option linter.unusedVariables false
set_option linter.unusedSimpArgs false
/- Texts,one by one. -/
namespace Go.Abs
open Go
end Go.Abs

-- interregnum/interregnumref11.Texts
namespace Go.Abs
open Go
end Go.Abs

/- interregnum/interregnumref11.Texts -/
namespace Go.Abs
open Go
set_option linter.unusedVariables false
end Go.Abs

-- interregnum/interregnumref11.Why
namespace Go.Abs
open Go
end Go.Abs

/- interregnum/interregnumref11.Why -/
namespace Go.Abs
open Go
set_option linter.unusedVariables false
end Go.Abs

/- The document's answer for what a machine can take. -/
namespace Go.Abs
open Go

theorem p9 {α:Type} [Inhabited α] {l:List α} {i:Nat} (h:i < l.length):l.take (i+1)=l.take i++[l.getD i default]:=by
 rw [eC h,List.take_succ_eq_append_getElem h]

end Go.Abs
