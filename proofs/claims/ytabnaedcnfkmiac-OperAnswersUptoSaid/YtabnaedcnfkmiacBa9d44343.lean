/- Functions, and what the code asks of them: PPackLaw. -/
import Derived.KernelRfl
import Derived.Test.YtabnaedcnfkmiacB7e6054c4
set_option linter.unusedVariables false
set_option linter.unusedSimpArgs false
/- Layer 1: what is put is what is taken. -/
namespace Go.Abs
open Go

theorem bAtN_lt {b : ByteArray} {i : Nat} (h : i < b.size) : bAtN b i = ((b.data.toList[i]'(by rw [data_length]; exact h)).toNat : Int) := by
  unfold bAtN
  rw [nth_toList h]
theorem bAtN_app (a b : ByteArray) (i : Nat) : bAtN (a ++ b) i = if i < a.size then bAtN a i else bAtN b (i - a.size) := by
  unfold bAtN
  rw [data_app, nth_app, data_length]
  split <;> rfl
/-- The bytes from i on are those of l. -/
def Sub (b : ByteArray) (i : Nat) (l : List UInt8) : Prop := ∀ j, j < l.length → bAtN b (i + j) = ((nth l j 0).toNat : Int)

theorem Sub.left {b : ByteArray} {i : Nat} {l m : List UInt8} (h : Sub b i (l ++ m)) : Sub b i l := fun j hj => by
  have := h j (by rw [List.length_append]; omega)
  rw [nth_app, if_pos hj] at this
  exact this
theorem Sub.last {b : ByteArray} {i : Nat} {l : List UInt8} {c : UInt8} (h : Sub b i (l ++ [c])) : bAtN b (i + l.length) = (c.toNat : Int) := by
  have := h l.length (by simp)
  rw [nth_app, if_neg (by omega), Nat.sub_self] at this
  exact this

theorem bytes_eq {a b : ByteArray} (h : a.size = b.size) (hi : ∀ i, i < a.size → bAtN a i = bAtN b i) : a = b := by
  apply bytes_ext
  apply List.ext_getElem
  · rw [data_length, data_length, h]
  · intro i h1 h2
    rw [data_length] at h1 h2
    have := hi i h1
    rw [bAtN_lt h1, bAtN_lt h2] at this
    exact UInt8.toNat_inj.1 (by omega)

theorem bAtN_sub {b : ByteArray} {lo hi : Int} (h : (0 : Int) ≤ lo ∧ lo ≤ hi ∧ hi ≤ (b.size : Int)) {i : Nat} (h1 : (i : Int) < hi - lo) : bAtN (subB b lo hi) i = bAtN b (lo.toNat + i) := by
  have := bAt_sub h (i := (i : Int)) (by omega) h1
  rw [bAtN_eq, bAtN_eq, Int.toNat_natCast, show (lo + (i : Int)).toNat = lo.toNat + i from by omega] at this
  exact this

theorem subB_app {b : ByteArray} {x y z : Int} (h0 : 0 ≤ x) (h1 : x ≤ y) (h2 : y ≤ z) (h3 : z ≤ b.size) : subB b x y ++ subB b y z = subB b x z := by
  have s1 := RdB.size_sub (b := b) (lo := x) (hi := y) ⟨by omega, by omega, by omega⟩
  have s2 := RdB.size_sub (b := b) (lo := y) (hi := z) ⟨by omega, by omega, by omega⟩
  have s3 := RdB.size_sub (b := b) (lo := x) (hi := z) ⟨by omega, by omega, by omega⟩
  refine bytes_eq (by rw [size_app, s1, s2, s3]; omega) fun i hi => ?_
  rw [size_app, s1, s2] at hi
  rw [bAtN_app, s1, bAtN_sub (lo := x) (hi := z) ⟨by omega, by omega, by omega⟩ (by omega)]
  split
  · rw [bAtN_sub ⟨by omega, by omega, by omega⟩ (by omega)]
  · rw [bAtN_sub ⟨by omega, by omega, by omega⟩ (by omega)]
    congr 1
    omega

end Go.Abs

-- interregnum/interregnumlaw01.awake
namespace Go.Abs
open Go
end Go.Abs

/- interregnum/interregnumlaw01.awake -/
namespace Go.Abs
open Go
set_option linter.unusedVariables false
end Go.Abs

-- interregnum/interregnumlaw01.PackOrders
namespace Go.Abs
open Go
end Go.Abs

/- interregnum/interregnumlaw01.PackOrders -/
namespace Go.Abs
open Go
set_option linter.unusedVariables false
end Go.Abs

-- interregnum/interregnumlaw01.PackPuts
namespace Go.Abs
open Go
end Go.Abs

/- interregnum/interregnumlaw01.PackPuts -/
namespace Go.Abs
open Go
set_option linter.unusedVariables false
end Go.Abs

-- interregnum/interregnumlaw01.PackRuns
namespace Go.Abs
open Go
end Go.Abs

/- interregnum/interregnumlaw01.PackRuns -/
namespace Go.Abs
open Go
set_option linter.unusedVariables false
end Go.Abs

-- interregnum/interregnumlaw01.PackTakes
namespace Go.Abs
open Go
end Go.Abs

/- interregnum/interregnumlaw01.PackTakes -/
namespace Go.Abs
open Go
set_option linter.unusedVariables false
end Go.Abs

-- interregnum/interregnumlaw01.PackBack
namespace Go.Abs
open Go
end Go.Abs

/- interregnum/interregnumlaw01.PackBack -/
namespace Go.Abs
open Go
set_option linter.unusedVariables false
end Go.Abs

-- interregnum/interregnumlaw01.PackOne
namespace Go.Abs
open Go
end Go.Abs

/- interregnum/interregnumlaw01.PackOne -/
namespace Go.Abs
open Go
set_option linter.unusedVariables false
end Go.Abs

/- Layer 1: the laws. -/
namespace Go.Abs
open Go
theorem sum_ge {α : Type} (f : α → Nat) (l : List α) (h : ∀ a ∈ l, 1 ≤ f a) : l.length ≤ (l.map f).sum := by
  induction l with
  | nil => simp
  | cons a l ih =>
    have h1 := h a (by simp)
    have h2 := ih fun b hb => h b (by simp [hb])
    simp only [List.length_cons, List.map_cons, List.sum_cons]
    omega

theorem at_mem {α : Type} [Inhabited α] {l : List α} {i : Int} (h0 : 0 ≤ i) (h : i < l.length) : at_ l i ∈ l := by
  have hl : i.toNat < l.length := by omega
  unfold at_
  rw [List.getD_eq_getElem?_getD, List.getElem?_eq_getElem hl]
  exact List.getElem_mem hl

end Go.Abs
