/- Functions, and what the code asks of them: PAgentLaw. -/
import Derived.KernelRfl
import Derived.Test.YtabnaedcnfkmiadBc41c1e0a
import Derived.Test.YtabnaedcnfkmiadB8cd9c866
import Derived.Test.YtabnaedcnfkmiadBa212655c
import Derived.Test.YtabnaedcnfkmiadB0ed4d7e1
import Derived.Test.YtabnaedcnfkmiadB887addbd
import Derived.Test.YtabnaedcnfkmiadB8cf22718
import Derived.Test.YtabnaedcnfkmiadBa628de06
import Derived.Test.YtabnaedcnfkmiadB9baf0615
import Derived.Test.YtabnaedcnfkmiadB30b1f4ec
set_option linter.unusedVariables false
set_option linter.unusedSimpArgs false
-- interregnum/interregnumlaw24.AgentStamps
namespace Go.Abs
open Go
end Go.Abs

/- interregnum/interregnumlaw24.AgentStamps -/
namespace Go.Abs
open Go
set_option linter.unusedVariables false
end Go.Abs

-- interregnum/interregnumlaw24.AgentPlays
namespace Go.Abs
open Go
end Go.Abs

/- interregnum/interregnumlaw24.AgentPlays -/
namespace Go.Abs
open Go
set_option linter.unusedVariables false
end Go.Abs

-- interregnum/interregnumlaw24.AgentLatest
namespace Go.Abs
open Go
end Go.Abs

/- interregnum/interregnumlaw24.AgentLatest -/
namespace Go.Abs
open Go
set_option linter.unusedVariables false
end Go.Abs

/- The laws of layer 24. -/
namespace Go.Abs
open Go
theorem item_of_size {l : List TItem} (h : k_sl_interregnumref24_Item.size l ≤ 1048576) : items_pre l := by
  have h2 : (l.map k_interregnumref24_Item.size).sum + 1 ≤ 1048576 := h
  have h3 := sum_len k_interregnumref24_Item.size (fun x => Nat.le_add_left 1 _) l
  refine ⟨by unfold L20; omega,fun x hx => ?_⟩
  have h1 : k_interregnumref24_Item.size x ≤ (l.map k_interregnumref24_Item.size).sum := sum_mem _ hx
  have h4 : x.1.size + 1 + (1 + (1 + (1 + (1 + 1) + 1))) + 1 = k_interregnumref24_Item.size x := rfl
  unfold name_pre
  omega
theorem ord_of_size {o : TOrd} (h : k_interregnumref24_Order.size o ≤ 1048576) : ord_pre o := by
  have h : o.1.size + 1 + (1 + (1 + 1) + 1 + (1 + (1 + 1) + 1 + k_sl_interregnumref24_Item.size o.2.2.2)) + 1 ≤ 1048576 := h
  exact ⟨by unfold name_pre; omega,item_of_size (by omega)⟩
end Go.Abs
