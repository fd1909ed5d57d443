/- Functions, and what the code asks of them: PFeas. -/
import Derived.Test.YtcmjinkfgbadoabLabelsPlaysP5
import Derived.Test.YtcmjinkfgbadoabLabelsPlaysP6
import Derived.Test.YtcmjinkfgbadoabLabelsPlaysP7
import Derived.Test.YtcmjinkfgbadoabLabelsPlaysP8
set_option linter.unusedVariables false
set_option linter.unusedSimpArgs false
set_option linter.unusedSectionVars false
namespace Go.Abs
open Go
def rT (a:List iQ×iQ):Bool:=a.1.any fun x=>decide (x=a.2)
def tL (a:List iQ×List iQ):Prop:=L20 a.1∧L20 a.2
def eU (a:List iQ×List iQ):Bool:=a.2.all fun w=>rT (a.1,w)
theorem uD {a:List iQ×List iQ}:eU a=true↔∀ i,i < a.2.length→rT (a.1,a.2.getD i default)=true:=by
 unfold eU
 rw [List.all_eq_true]
 constructor
 ·exact fun h i hi=>h _ (qI hi)
 ·intro h x hx
  obtain ⟨i,hi,rfl⟩:=List.mem_iff_getElem.1 hx
  have:=h i hi
  rwa [List.getD_eq_getElem?_getD,List.getElem?_eq_getElem hi] at this
end Go.Abs
