/- Functions, and what the code asks of them: PRef11. -/
import Derived.KernelRfl
import Derived.Test.YtjlehbennimkgaaIdentLabelsP4
import Derived.Test.YtjlehbennimkgaaIdentLabelsP5
import Derived.Test.YtjlehbennimkgaaIdentLabelsP6
import Derived.Test.YtjlehbennimkgaaIdentLabelsP9
import Derived.Test.YtjlehbennimkgaaIdentLabelsP11
import Derived.Test.YtjlehbennimkgaaIdentLabelsP13
import Derived.Test.YtjlehbennimkgaaIdentLabelsP14
import Derived.Test.YtjlehbennimkgaaIdentLabelsP15
set_option linter.unusedVariables false
set_option linter.unusedSimpArgs false
/- Texts,one by one. -/
namespace Go.Abs
open Go
end Go.Abs

-- interregnum/interregnumref11.Texts
namespace Go.Abs
open Go
end Go.Abs

/- interregnum/interregnumref11.Texts -/
namespace Go.Abs
open Go
set_option linter.unusedVariables false
end Go.Abs

-- interregnum/interregnumref11.Why
namespace Go.Abs
open Go
end Go.Abs

/- interregnum/interregnumref11.Why -/
namespace Go.Abs
open Go
set_option linter.unusedVariables false
end Go.Abs

/- The document's answer for what a machine can take. -/
namespace Go.Abs
open Go

theorem l8 {α:Type} [Inhabited α] {l:List α} {i:Nat} (h:i < l.length):l.take (i+1)=l.take i++[l.getD i default]:=by
 rw [fB h,List.take_succ_eq_append_getElem h]

end Go.Abs
