/- Functions, and what the code asks of them: POper2. -/
import Derived.Test.YtabnaedcnfkmiadBd8fd2cd1
import Derived.Test.YtabnaedcnfkmiadB52acd6fd
import Derived.Test.YtabnaedcnfkmiadB9d8ef233
import Derived.Test.YtabnaedcnfkmiadB39145e0b
import Derived.Test.YtabnaedcnfkmiadB642c4290
import Derived.Test.YtabnaedcnfkmiadBbb4ede3d
import Derived.Test.YtabnaedcnfkmiadB67e51113
import Derived.Test.YtabnaedcnfkmiadBf591c1e4
import Derived.Test.YtabnaedcnfkmiadB79829176
import Derived.Test.YtabnaedcnfkmiadB8ae3107f
set_option linter.unusedVariables false
set_option linter.unusedSimpArgs false
/- Operations, acts and answers: what the code asks of them. -/
namespace Go.Abs
open Go

theorem few6_iff {o : TOp} : few6 o = true ↔ labs5 o.2.1.2.2 = true ∧ labs5 o.2.2.2.1.2.2.2.2.1 = true ∧ o.2.1.1.size + o.2.2.1.1.size + o.2.2.2.1.1.size + o.2.2.2.1.2.1.size + o.2.2.2.1.2.2.2.2.2.1.size + o.2.2.2.1.2.2.2.2.2.2.1.size + o.2.2.2.2.size ≤ 5000 := by
  unfold few6
  simp only [Bool.and_eq_true, decide_eq_true_eq, and_assoc]

theorem f276.ok (a : TOp) (h : op_pre a) : f276.vc a := by
  obtain ⟨h1, h2, h3, h4, h5, h6⟩ := h
  obtain ⟨p1, p2⟩ := h1
  obtain ⟨t1, t2, t3, t4, t5⟩ := h3
  unfold queue_pre at h2
  unfold name_pre at p1 h2 h4 t1 t2 t4 t5
  have ff : (¬ few6 a = true) → false = few6 a := not_true
  refine ⟨fun c => ff fun e => ?_, fun c1 => ⟨fun c => ff fun e => ?_, fun c2 => ⟨by omega, by omega, by omega, by omega, by omega, by omega, by omega, by omega, by omega, by omega, by omega, by omega, fun c => ff fun e => ?_, fun c3 => ?_⟩⟩⟩
  · have := (labs5_iff.1 (few6_iff.1 e).1).1; omega
  · have := (labs5_iff.1 (few6_iff.1 e).2.1).1; omega
  · have := (few6_iff.1 e).2.2; omega
  refine ⟨fun y => 0 ≤ y ∧ y ≤ (a.2.1.2.2.length : Int) ∧ (∀ i, i < y.toNat → (a.2.1.2.2.getD i default).1.size + (a.2.1.2.2.getD i default).2.size ≤ 1000), fun y => a.2.1.2.2.length - y.toNat, ⟨by omega, by omega, fun i hi => by simp at hi⟩, fun y hy => ?_⟩
  obtain ⟨g0, g1, g2⟩ := hy
  refine ⟨fun hlt => ?_, fun hge => ?_⟩
  · obtain ⟨n1, n2⟩ := p2 _ (at_mem g0 hlt)
    refine ⟨g0, hlt, g0, hlt, by omega, by omega, fun d => ff fun hh => ?_, fun d => ⟨by omega, by omega, ⟨by omega, by omega, fun i hi => ?_⟩, by simp only; omega⟩⟩
    · have := (labs5_iff.1 (few6_iff.1 hh).1).2 y.toNat (by omega)
      rw [← at_getD] at this
      omega
    · by_cases he : i = y.toNat
      · subst he
        rw [← at_getD]
        omega
      · exact g2 i (by omega)
  refine ⟨fun y => 0 ≤ y ∧ y ≤ (a.2.2.2.1.2.2.2.2.1.length : Int) ∧ (∀ i, i < y.toNat → (a.2.2.2.1.2.2.2.2.1.getD i default).1.size + (a.2.2.2.1.2.2.2.2.1.getD i default).2.size ≤ 1000), fun y => a.2.2.2.1.2.2.2.2.1.length - y.toNat, ⟨by omega, by omega, fun i hi => by simp at hi⟩, fun z hz => ?_⟩
  obtain ⟨k0, k1, k2⟩ := hz
  refine ⟨fun hlt => ?_, fun hge2 => ?_⟩
  · obtain ⟨n1, n2⟩ := t3 _ (at_mem k0 hlt)
    refine ⟨k0, hlt, k0, hlt, by omega, by omega, fun d => ff fun hh => ?_, fun d => ⟨by omega, by omega, ⟨by omega, by omega, fun i hi => ?_⟩, by simp only; omega⟩⟩
    · have := (labs5_iff.1 (few6_iff.1 hh).2.1).2 z.toNat (by omega)
      rw [← at_getD] at this
      omega
    · by_cases he : i = z.toNat
      · subst he
        rw [← at_getD]
        omega
      · exact k2 i (by omega)
  · symm
    rw [few6_iff, labs5_iff, labs5_iff]
    exact ⟨⟨by omega, fun i hi => g2 i (by omega)⟩, ⟨by omega, fun i hi => k2 i (by omega)⟩, by omega⟩

theorem f275.ok (a : Unit) (_ : True) : f275.vc a := by
  have hr : rightO (9, (ByteArray.empty, (0, 0, 0), []), (ByteArray.empty, (0, 0, 0)), (ByteArray.empty, ByteArray.empty, 0, (0, 0, 0), [], ByteArray.empty, ByteArray.empty, 0), ByteArray.empty) = true := by decide +kernel
  have e : encO (9, (ByteArray.empty, (0, 0, 0), []), (ByteArray.empty, (0, 0, 0)), (ByteArray.empty, ByteArray.empty, 0, (0, 0, 0), [], ByteArray.empty, ByteArray.empty, 0), ByteArray.empty) = (⟨#[1, 9]⟩, 0) := by
    unfold encO
    rw [if_pos hr]
    refine Prod.ext (bytes_ext ?_) rfl
    decide +kernel
  have op : op_pre (9, (ByteArray.empty, (0, 0, 0), []), (ByteArray.empty, (0, 0, 0)), (ByteArray.empty, ByteArray.empty, 0, (0, 0, 0), [], ByteArray.empty, ByteArray.empty, 0), ByteArray.empty) :=
    ⟨⟨Nat.zero_le _, fun x hx => absurd hx List.not_mem_nil⟩, Nat.zero_le _, ⟨Nat.zero_le _, Nat.zero_le _, fun x hx => absurd hx List.not_mem_nil, Nat.zero_le _, Nat.zero_le _⟩, Nat.zero_le _, Nat.zero_le _, Nat.zero_le _⟩
  unfold f275.vc
  rw [e]
  refine ⟨⟨op, Nat.zero_le _⟩, fun _ => ⟨fun _ => ⟨by decide, fun _ => ⟨op, fun _ => ⟨⟨Nat.le_of_ble_eq_true rfl, Nat.le_of_ble_eq_true rfl⟩, ?_⟩, fun c => absurd hr c⟩, fun c => absurd (by decide) c⟩, fun c => absurd (by decide) c⟩, fun c => absurd rfl c⟩
  have : textA (1, f275.s0, f275.s1) = f275.s2 := bytes_ext (by decide +kernel)
  rw [this]
  simp [lawTrue]

theorem f280.ok (a : TAct) (h : textA_pre a) : f280.vc a := by
  obtain ⟨h1, h2⟩ := h
  have e1 : wordA 1 ++ ⟨#[32]⟩ = f280.s3 := bytes_ext (by decide +kernel)
  have e2 : wordA 2 ++ ⟨#[32]⟩ = f280.s5 := bytes_ext (by decide +kernel)
  have e3 : wordA 3 ++ ⟨#[32]⟩ = f280.s7 := bytes_ext (by decide +kernel)
  have e4 : (⟨#[63]⟩ : ByteArray) ++ ⟨#[32]⟩ = f280.s8 := bytes_ext (by decide +kernel)
  have z1 : f280.s3.size ≤ 10 := Nat.le_of_ble_eq_true rfl
  have z2 : f280.s5.size ≤ 10 := Nat.le_of_ble_eq_true rfl
  have z3 : f280.s7.size ≤ 10 := Nat.le_of_ble_eq_true rfl
  have z4 : f280.s8.size ≤ 10 := Nat.le_of_ble_eq_true rfl
  have z5 : f280.s2.size ≤ 10 := Nat.le_of_ble_eq_true rfl
  have hs : f280.s2 = ⟨#[32]⟩ := rfl
  unfold f280.vc textA
  simp only [size_app]
  refine ⟨fun c => ⟨by omega, by omega, by omega, ?_⟩, fun c1 => ⟨fun c => ⟨by omega, by omega, by omega, ?_⟩, fun c2 => ⟨fun c => ⟨by omega, by omega, by omega, ?_⟩, fun c3 => ⟨by omega, by omega, by omega, ?_⟩⟩⟩⟩
  · rw [c, e1, hs]
  · rw [c, e2, hs]
  · rw [c, e3, hs]
  · have : wordA a.1 = ⟨#[63]⟩ := by unfold wordA; rw [if_neg c1, if_neg c2, if_neg c3]
    rw [this, e4, hs]

end Go.Abs
