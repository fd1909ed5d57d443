/- Functions, and what the code asks of them: PReadLaw0. -/
import Derived.Test.YtabnaedcnfkmiacB7e6054c4
import Derived.Test.YtabnaedcnfkmiacBa9d44343
import Derived.Test.YtabnaedcnfkmiacB60e70101
import Derived.Test.YtabnaedcnfkmiacBc17a7ca1
import Derived.Test.YtabnaedcnfkmiacB5b36f845
import Derived.Test.YtabnaedcnfkmiacB148fe987
set_option linter.unusedVariables false
set_option linter.unusedSimpArgs false
/- What readers read, in plain words. -/
namespace Go.Abs
open Go

/-- If nothing went wrong: what was read are these bytes. -/
def Reads_ (r s : TRd) (bs : ByteArray) : Prop := s.1 = r.1 ∧ (s.2.2 = 0 → r.2.2 = 0 ∧ 0 ≤ r.2.1 ∧ r.2.1 ≤ s.2.1 ∧ s.2.1 ≤ r.1.size ∧ subB r.1 r.2.1 s.2.1 = bs)

theorem Reads_.trans {r s t : TRd} {x y : ByteArray} (h : Reads_ r s x) (k : Reads_ s t y) : Reads_ r t (x ++ y) := by
  obtain ⟨h1, h2⟩ := h
  obtain ⟨k1, k2⟩ := k
  refine ⟨k1.trans h1, fun e => ?_⟩
  obtain ⟨a1, a2, a3, a4, a5⟩ := k2 e
  obtain ⟨b1, b2, b3, b4, b5⟩ := h2 a1
  rw [h1] at a4 a5
  refine ⟨b1, b2, by omega, a4, ?_⟩
  rw [← b5, ← a5, subB_app b2 b3 a3 a4]

/-- From i on these bytes stand. -/
def At (b : ByteArray) (i : Int) (bs : ByteArray) : Prop := ∃ x y, b = x ++ bs ++ y ∧ i = (x.size : Int)
theorem At.left {b : ByteArray} {i : Int} {p q : ByteArray} (h : At b i (p ++ q)) : At b i p := by
  obtain ⟨x, y, rfl, rfl⟩ := h
  exact ⟨x, q ++ y, by simp only [app_assoc], rfl⟩
theorem At.right {b : ByteArray} {i : Int} {p q : ByteArray} (h : At b i (p ++ q)) : At b (i + p.size) q := by
  obtain ⟨x, y, rfl, rfl⟩ := h
  exact ⟨x ++ p, y, by simp only [app_assoc], by rw [size_app]; omega⟩
theorem At.more {b c : ByteArray} {i : Int} {p : ByteArray} (h : At b i p) : At (b ++ c) i p := by
  obtain ⟨x, y, rfl, rfl⟩ := h
  exact ⟨x, y ++ c, by simp only [app_assoc], rfl⟩

/-- Two readers that have come as far. -/
def Sim (r s : TRd) : Prop := r.1 = s.1 ∧ r.2.2 = s.2.2 ∧ (r.2.2 = 0 → r.2.1 = s.2.1)
theorem Sim.refl (r : TRd) : Sim r r := ⟨rfl, rfl, fun _ => rfl⟩
theorem Sim.eq {r s : TRd} (h : Sim r s) (e : r.2.2 = 0) : r = s := Prod.ext h.1 (Prod.ext (h.2.2 e) h.2.1)
end Go.Abs
