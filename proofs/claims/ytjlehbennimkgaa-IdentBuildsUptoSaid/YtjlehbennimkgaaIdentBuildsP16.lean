/- Functions, and what the code asks of them: PRef11. -/
import Derived.KernelRfl
import Derived.Test.YtjlehbennimkgaaIdentBuildsP4
import Derived.Test.YtjlehbennimkgaaIdentBuildsP5
import Derived.Test.YtjlehbennimkgaaIdentBuildsP6
import Derived.Test.YtjlehbennimkgaaIdentBuildsP9
import Derived.Test.YtjlehbennimkgaaIdentBuildsP11
import Derived.Test.YtjlehbennimkgaaIdentBuildsP13
import Derived.Test.YtjlehbennimkgaaIdentBuildsP14
import Derived.Test.YtjlehbennimkgaaIdentBuildsP15
set_option linter.unusedVariables false
set_option linter.unusedSimpArgs false
/- Texts,one by one. -/
namespace Go.Abs
open Go
end Go.Abs

-- interregnum/interregnumref11.Texts
namespace Go.Abs
open Go
end Go.Abs

/- interregnum/interregnumref11.Texts -/
namespace Go.Abs
open Go
set_option linter.unusedVariables false
end Go.Abs

-- interregnum/interregnumref11.Why
namespace Go.Abs
open Go
end Go.Abs

/- interregnum/interregnumref11.Why -/
namespace Go.Abs
open Go
set_option linter.unusedVariables false
end Go.Abs

/- The document's answer for what a machine can take. -/
namespace Go.Abs
open Go

theorem uW {α:Type} [Inhabited α] {l:List α} {i:Nat} (h:i < l.length):l.take (i+1)=l.take i++[l.getD i default]:=by
 rw [oQ h,List.take_succ_eq_append_getElem h]

end Go.Abs
