/- Functions, and what the code asks of them: PRef11. -/
import Derived.KernelRfl
import Derived.Test.YtjlehbennimkgaaIdentNamesP3
import Derived.Test.YtjlehbennimkgaaIdentNamesP4
import Derived.Test.YtjlehbennimkgaaIdentNamesP5
import Derived.Test.YtjlehbennimkgaaIdentNamesP8
import Derived.Test.YtjlehbennimkgaaIdentNamesP10
import Derived.Test.YtjlehbennimkgaaIdentNamesP12
import Derived.Test.YtjlehbennimkgaaIdentNamesP13
import Derived.Test.YtjlehbennimkgaaIdentNamesP14
set_option linter.unusedVariables false
set_option linter.unusedSimpArgs false
/- Texts,one by one. -/
namespace Go.Abs
open Go
end Go.Abs

-- interregnum/interregnumref11.Texts
namespace Go.Abs
open Go
end Go.Abs

/- interregnum/interregnumref11.Texts -/
namespace Go.Abs
open Go
set_option linter.unusedVariables false
end Go.Abs

-- interregnum/interregnumref11.Why
namespace Go.Abs
open Go
end Go.Abs

/- interregnum/interregnumref11.Why -/
namespace Go.Abs
open Go
set_option linter.unusedVariables false
end Go.Abs

/- The document's answer for what a machine can take. -/
namespace Go.Abs
open Go

theorem t9 {α:Type} [Inhabited α] {l:List α} {i:Nat} (h:i < l.length):l.take (i+1)=l.take i++[l.getD i default]:=by
 rw [oP h,List.take_succ_eq_append_getElem h]

end Go.Abs
