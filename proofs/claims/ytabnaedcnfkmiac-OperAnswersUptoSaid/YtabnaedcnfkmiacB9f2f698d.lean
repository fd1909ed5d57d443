/- Functions, and what the code asks of them: POper2. -/
import Derived.Test.YtabnaedcnfkmiacB7e6054c4
import Derived.Test.YtabnaedcnfkmiacBa9d44343
import Derived.Test.YtabnaedcnfkmiacB60e70101
import Derived.Test.YtabnaedcnfkmiacBc17a7ca1
import Derived.Test.YtabnaedcnfkmiacB5b36f845
import Derived.Test.YtabnaedcnfkmiacB684c205b
import Derived.Test.YtabnaedcnfkmiacB148fe987
import Derived.Test.YtabnaedcnfkmiacB0d7a5282
import Derived.Test.YtabnaedcnfkmiacB62d12b27
import Derived.Test.YtabnaedcnfkmiacB4f5a4d4d
set_option linter.unusedVariables false
set_option linter.unusedSimpArgs false
/- Operations, acts and answers: what the code asks of them. -/
namespace Go.Abs
open Go
theorem f275.ok (a : Unit) (_ : True) : f275.vc a := by
  have hr : rightO (9, (ByteArray.empty, (0, 0, 0), []), (ByteArray.empty, (0, 0, 0)), (ByteArray.empty, ByteArray.empty, 0, (0, 0, 0), [], ByteArray.empty, ByteArray.empty, 0), ByteArray.empty) = true := by decide +kernel
  have e : encO (9, (ByteArray.empty, (0, 0, 0), []), (ByteArray.empty, (0, 0, 0)), (ByteArray.empty, ByteArray.empty, 0, (0, 0, 0), [], ByteArray.empty, ByteArray.empty, 0), ByteArray.empty) = (⟨#[1, 9]⟩, 0) := by
    unfold encO
    rw [if_pos hr]
    refine Prod.ext (bytes_ext ?_) rfl
    decide +kernel
  have op : op_pre (9, (ByteArray.empty, (0, 0, 0), []), (ByteArray.empty, (0, 0, 0)), (ByteArray.empty, ByteArray.empty, 0, (0, 0, 0), [], ByteArray.empty, ByteArray.empty, 0), ByteArray.empty) :=
    ⟨⟨Nat.zero_le _, fun x hx => absurd hx List.not_mem_nil⟩, Nat.zero_le _, ⟨Nat.zero_le _, Nat.zero_le _, fun x hx => absurd hx List.not_mem_nil, Nat.zero_le _, Nat.zero_le _⟩, Nat.zero_le _, Nat.zero_le _, Nat.zero_le _⟩
  unfold f275.vc
  rw [e]
  refine ⟨⟨op, Nat.zero_le _⟩, fun _ => ⟨fun _ => ⟨by decide, fun _ => ⟨op, fun _ => ⟨⟨Nat.le_of_ble_eq_true rfl, Nat.le_of_ble_eq_true rfl⟩, ?_⟩, fun c => absurd hr c⟩, fun c => absurd (by decide) c⟩, fun c => absurd (by decide) c⟩, fun c => absurd rfl c⟩
  have : textA (1, f275.s0, f275.s1) = f275.s2 := bytes_ext (by decide +kernel)
  rw [this]
  simp [lawTrue]

theorem f280.ok (a : TAct) (h : textA_pre a) : f280.vc a := by
  obtain ⟨h1, h2⟩ := h
  have e1 : wordA 1 ++ ⟨#[32]⟩ = f280.s3 := bytes_ext (by decide +kernel)
  have e2 : wordA 2 ++ ⟨#[32]⟩ = f280.s5 := bytes_ext (by decide +kernel)
  have e3 : wordA 3 ++ ⟨#[32]⟩ = f280.s7 := bytes_ext (by decide +kernel)
  have e4 : (⟨#[63]⟩ : ByteArray) ++ ⟨#[32]⟩ = f280.s8 := bytes_ext (by decide +kernel)
  have z1 : f280.s3.size ≤ 10 := Nat.le_of_ble_eq_true rfl
  have z2 : f280.s5.size ≤ 10 := Nat.le_of_ble_eq_true rfl
  have z3 : f280.s7.size ≤ 10 := Nat.le_of_ble_eq_true rfl
  have z4 : f280.s8.size ≤ 10 := Nat.le_of_ble_eq_true rfl
  have z5 : f280.s2.size ≤ 10 := Nat.le_of_ble_eq_true rfl
  have hs : f280.s2 = ⟨#[32]⟩ := rfl
  unfold f280.vc textA
  simp only [size_app]
  refine ⟨fun c => ⟨by omega, by omega, by omega, ?_⟩, fun c1 => ⟨fun c => ⟨by omega, by omega, by omega, ?_⟩, fun c2 => ⟨fun c => ⟨by omega, by omega, by omega, ?_⟩, fun c3 => ⟨by omega, by omega, by omega, ?_⟩⟩⟩⟩
  · rw [c, e1, hs]
  · rw [c, e2, hs]
  · rw [c, e3, hs]
  · have : wordA a.1 = ⟨#[63]⟩ := by unfold wordA; rw [if_neg c1, if_neg c2, if_neg c3]
    rw [this, e4, hs]

theorem f281.ok (a : TAct) (h : textA_pre a) : f281.vc a := by
  obtain ⟨h1, h2⟩ := h
  have z5 : f281.s4.size ≤ 10 := Nat.le_of_ble_eq_true rfl
  have z6 : f281.s5.size ≤ 10 := Nat.le_of_ble_eq_true rfl
  have hs : f281.s4 = ⟨#[32]⟩ := rfl
  have e4 : (⟨#[63]⟩ : ByteArray) ++ ⟨#[32]⟩ = f281.s5 := bytes_ext (by decide +kernel)
  have out : (a.1 < 0 ∨ 4 ≤ a.1) → wordA a.1 = ⟨#[63]⟩ := fun hh => by unfold wordA; rw [if_neg (by omega), if_neg (by omega), if_neg (by omega)]
  have inn : 0 ≤ a.1 → a.1 < 4 → at_ [f281.s0, f281.s1, f281.s2, f281.s3] a.1 = wordA a.1 ∧ (wordA a.1).size ≤ 10 := fun h0 h4 => by
    have : a.1 = 0 ∨ a.1 = 1 ∨ a.1 = 2 ∨ a.1 = 3 := by omega
    rcases this with e | e | e | e <;> rw [e] <;> exact ⟨rfl, Nat.le_of_ble_eq_true rfl⟩
  have hl : (List.length [f281.s0, f281.s1, f281.s2, f281.s3] : Int) = 4 := rfl
  unfold f281.vc textA
  rw [hl]
  simp only [size_app]
  have rest : (a.1 < 0 ∨ 4 ≤ a.1) → f281.s5.size + a.2.1.size ≤ 9223372036854775807 ∧ f281.s5.size + a.2.1.size + f281.s4.size ≤ 9223372036854775807 ∧ f281.s5.size + a.2.1.size + f281.s4.size + a.2.2.size ≤ 9223372036854775807 ∧ f281.s5 ++ a.2.1 ++ f281.s4 ++ a.2.2 = wordA a.1 ++ ⟨#[32]⟩ ++ a.2.1 ++ ⟨#[32]⟩ ++ a.2.2 := fun hh => by
    refine ⟨by omega, by omega, by omega, ?_⟩
    rw [out hh, e4, hs]
  refine ⟨fun c => ⟨fun d => ?_, fun d => rest (.inr (by omega))⟩, fun c => rest (.inl (by omega))⟩
  obtain ⟨i1, i2⟩ := inn c d
  rw [i1, hs]
  rw [hs] at z5
  exact ⟨c, d, by omega, by omega, by omega, by omega, rfl⟩

theorem act_ext {x y : TAct} : x = y ↔ x.1 = y.1 ∧ x.2.1 = y.2.1 ∧ x.2.2 = y.2.2 := ⟨fun h => by rw [h]; exact ⟨rfl, rfl, rfl⟩, fun h => Prod.ext h.1 (Prod.ext h.2.1 h.2.2)⟩
theorem sameActs_iff {l m : List TAct} : sameActs (l, m) = true ↔ l = m := by unfold sameActs; simp

theorem f315.ok (a : List TAct × List TAct) (h : acts_pre a) : f315.vc a := by
  obtain ⟨l, m⟩ := a
  have h1 : l.length ≤ 1048576 := h.1
  have sf : l ≠ m → false = sameActs (l, m) := fun hne => not_true fun e => hne (sameActs_iff.1 e)
  refine ⟨fun c => sf fun e => c (by rw [e]), fun c => ?_⟩
  have hlen : l.length = m.length := by have := Classical.not_not.1 c; simp only at this; omega
  refine ⟨fun i => 0 ≤ i ∧ ∀ j : Nat, (j : Int) < i → j < l.length → l.getD j default = m.getD j default, fun i => ((l.length : Int) - i).toNat, ⟨Int.le_refl _, fun j hj => by omega⟩, fun i hi => ⟨fun c => ?_, fun c => ?_⟩⟩
  · obtain ⟨h2, h3⟩ := hi
    simp only at c ⊢
    refine ⟨h2, c, h2, by omega, fun d => sf fun e => d (by rw [e]; exact ⟨rfl, rfl, rfl⟩), fun d => ⟨by omega, by omega, ⟨by omega, fun j hj hl => ?_⟩, by omega⟩⟩
    rcases Int.lt_or_le (j : Int) i with h4 | h4
    · exact h3 j h4 hl
    · have d := Classical.not_not.1 d
      have e : j = i.toNat := by omega
      rw [at_getD, at_getD] at d
      rw [e]
      exact act_ext.2 d
  · simp only at c ⊢
    exact (sameActs_iff.2 (list_ext hlen fun j hj => hi.2 j (by omega) hj)).symm
theorem f316.ok (a : List TAct × List TAct) (h : acts_pre a) : f316.vc a := f315.ok a h

theorem f282.ok (a : TAns × TAns) (h : ans_pre a) : f282.vc a := by
  refine ⟨fun c => ⟨h, ?_⟩, fun c => ?_⟩ <;> unfold sameAns <;> simp [c]
theorem f283.ok (a : TAns × TAns) (h : ans_pre a) : f283.vc a := f282.ok a h

end Go.Abs
