/- Functions, and what the code asks of them: PRead. -/
import Derived.KernelRfl
import Derived.Test.YtabnaedcnfkmiacB7e6054c4
import Derived.Test.YtabnaedcnfkmiacB60e70101
import Derived.Test.YtabnaedcnfkmiacBc17a7ca1
import Derived.Test.YtabnaedcnfkmiacB5b36f845
set_option linter.unusedVariables false
set_option linter.unusedSimpArgs false
/- Machines, queues and tasks, read from bytes. -/
namespace Go.Abs
open Go

/-- Bytes, how far they are read, the first error. -/
abbrev TRd := ByteArray × Int × Int
section
variable (txt : TRd → ByteArray × TRd)
end
def zNode : TNode := (ByteArray.empty, (0, 0, 0), [])
def zQueue : TQueue := (ByteArray.empty, (0, 0, 0))
def zTask : TTask := (ByteArray.empty, ByteArray.empty, 0, (0, 0, 0), [], ByteArray.empty, ByteArray.empty, 0)
def sameNode (a : TNode × TNode) : Bool := decide (a.1 = a.2)
def sameTask (a : TTask × TTask) : Bool := decide ((a.1.1 = a.2.1 ∧ a.1.2.1 = a.2.2.1 ∧ a.1.2.2.1 = a.2.2.2.1 ∧ a.1.2.2.2.1 = a.2.2.2.2.1) ∧ a.1.2.2.2.2 = a.2.2.2.2.2)
end Go.Abs

-- (*interregnum/model.reader).number
namespace Go.Abs
open Go
end Go.Abs

/- (*interregnum/model.reader).number -/
namespace Go.Abs
open Go
set_option linter.unusedVariables false
end Go.Abs

-- (*interregnum/interregnumref05.Reader).Number
namespace Go.Abs
open Go
end Go.Abs

/- (*interregnum/interregnumref05.Reader).Number -/
namespace Go.Abs
open Go
set_option linter.unusedVariables false
end Go.Abs

-- (*interregnum/model.reader).text
namespace Go.Abs
open Go
end Go.Abs

/- (*interregnum/model.reader).text -/
namespace Go.Abs
open Go
set_option linter.unusedVariables false
end Go.Abs

-- (*interregnum/interregnumref05.Reader).Text
namespace Go.Abs
open Go
end Go.Abs

/- (*interregnum/interregnumref05.Reader).Text -/
namespace Go.Abs
open Go
set_option linter.unusedVariables false
end Go.Abs

-- (*interregnum/model.reader).amount
namespace Go.Abs
open Go
end Go.Abs

/- (*interregnum/model.reader).amount -/
namespace Go.Abs
open Go
set_option linter.unusedVariables false
end Go.Abs

-- (*interregnum/interregnumref05.Reader).amount
namespace Go.Abs
open Go
end Go.Abs

/- (*interregnum/interregnumref05.Reader).amount -/
namespace Go.Abs
open Go
set_option linter.unusedVariables false
end Go.Abs

-- (*interregnum/model.reader).labels
namespace Go.Abs
open Go
end Go.Abs

/- (*interregnum/model.reader).labels -/
namespace Go.Abs
open Go
set_option linter.unusedVariables false
end Go.Abs

-- (*interregnum/interregnumref05.Reader).labels
namespace Go.Abs
open Go
end Go.Abs

/- (*interregnum/interregnumref05.Reader).labels -/
namespace Go.Abs
open Go
set_option linter.unusedVariables false
end Go.Abs

-- (*interregnum/model.reader).end
namespace Go.Abs
open Go
end Go.Abs

/- (*interregnum/model.reader).end -/
namespace Go.Abs
open Go
set_option linter.unusedVariables false
end Go.Abs

-- (*interregnum/interregnumref05.Reader).done
namespace Go.Abs
open Go
end Go.Abs

/- (*interregnum/interregnumref05.Reader).done -/
namespace Go.Abs
open Go
set_option linter.unusedVariables false
end Go.Abs

-- interregnum/model.TakeNode
namespace Go.Abs
open Go
end Go.Abs

/- interregnum/model.TakeNode -/
namespace Go.Abs
open Go
set_option linter.unusedVariables false
end Go.Abs

-- interregnum/model.TakeQueue
namespace Go.Abs
open Go
end Go.Abs

/- interregnum/model.TakeQueue -/
namespace Go.Abs
open Go
set_option linter.unusedVariables false
end Go.Abs

-- interregnum/model.TakeTask
namespace Go.Abs
open Go
end Go.Abs

/- interregnum/model.TakeTask -/
namespace Go.Abs
open Go
set_option linter.unusedVariables false
end Go.Abs

-- (*interregnum/interregnumref05.Reader).Node
namespace Go.Abs
open Go
end Go.Abs

/- (*interregnum/interregnumref05.Reader).Node -/
namespace Go.Abs
open Go
set_option linter.unusedVariables false
end Go.Abs

-- (*interregnum/interregnumref05.Reader).Queue
namespace Go.Abs
open Go
end Go.Abs

/- (*interregnum/interregnumref05.Reader).Queue -/
namespace Go.Abs
open Go
set_option linter.unusedVariables false
end Go.Abs

-- (*interregnum/interregnumref05.Reader).Task
namespace Go.Abs
open Go
end Go.Abs

/- (*interregnum/interregnumref05.Reader).Task -/
namespace Go.Abs
open Go
set_option linter.unusedVariables false
end Go.Abs

-- interregnum/interregnumlaw05.place
namespace Go.Abs
open Go
end Go.Abs

/- interregnum/interregnumlaw05.place -/
namespace Go.Abs
open Go
set_option linter.unusedVariables false
end Go.Abs

-- interregnum/interregnumref04.Same
namespace Go.Abs
open Go
end Go.Abs

/- interregnum/interregnumref04.Same -/
namespace Go.Abs
open Go
set_option linter.unusedVariables false
end Go.Abs

-- interregnum/interregnumref05.SameNode
namespace Go.Abs
open Go
end Go.Abs

/- interregnum/interregnumref05.SameNode -/
namespace Go.Abs
open Go
set_option linter.unusedVariables false
end Go.Abs

-- interregnum/interregnumref05.SameTask
namespace Go.Abs
open Go
end Go.Abs

/- interregnum/interregnumref05.SameTask -/
namespace Go.Abs
open Go
set_option linter.unusedVariables false
end Go.Abs

/- Readers: what the code asks of them. -/
namespace Go.Abs
open Go
theorem list_ext {α : Type} [Inhabited α] {l m : List α} (h : l.length = m.length) (k : ∀ i, i < l.length → l.getD i default = m.getD i default) : l = m := by
  apply List.ext_getElem h
  intro i h1 h2
  have := k i h1
  simpa [List.getD_eq_getElem?_getD, h1, h2] using this

theorem res_ext {a b : TRes} : a = b ↔ a.1 = b.1 ∧ a.2.1 = b.2.1 ∧ a.2.2 = b.2.2 := ⟨fun h => by rw [h]; exact ⟨rfl, rfl, rfl⟩, fun h => Prod.ext h.1 (Prod.ext h.2.1 h.2.2)⟩

theorem not_true {b : Bool} (h : ¬ b = true) : false = b := by cases b <;> simp_all

theorem sameTask_iff {a : TTask × TTask} : sameTask a = true ↔ a.1.1 = a.2.1 ∧ a.1.2.1 = a.2.2.1 ∧ a.1.2.2.1 = a.2.2.2.1 ∧ a.1.2.2.2.1 = a.2.2.2.2.1 ∧ a.1.2.2.2.2.1 = a.2.2.2.2.2.1 ∧ a.1.2.2.2.2.2.1 = a.2.2.2.2.2.2.1 ∧ a.1.2.2.2.2.2.2.1 = a.2.2.2.2.2.2.2.1 ∧ a.1.2.2.2.2.2.2.2 = a.2.2.2.2.2.2.2.2 := by
  unfold sameTask
  rw [decide_eq_true_iff]
  exact ⟨fun h => ⟨h.1.1, h.1.2.1, h.1.2.2.1, h.1.2.2.2, by rw [h.2], by rw [h.2], by rw [h.2], by rw [h.2]⟩, fun h => ⟨⟨h.1, h.2.1, h.2.2.1, h.2.2.2.1⟩, Prod.ext h.2.2.2.2.1 (Prod.ext h.2.2.2.2.2.1 (Prod.ext h.2.2.2.2.2.2.1 h.2.2.2.2.2.2.2))⟩⟩

theorem sameTask_eq {a b : TTask} : sameTask (a, b) = true ↔ a = b := by
  rw [sameTask_iff]
  exact ⟨fun h => Prod.ext h.1 (Prod.ext h.2.1 (Prod.ext h.2.2.1 (Prod.ext h.2.2.2.1 (Prod.ext h.2.2.2.2.1 (Prod.ext h.2.2.2.2.2.1 (Prod.ext h.2.2.2.2.2.2.1 h.2.2.2.2.2.2.2)))))), fun h => by rw [h]; simp⟩
theorem sameNode_eq {a b : TNode} : sameNode (a, b) = true ↔ a = b := by unfold sameNode; simp

end Go.Abs
