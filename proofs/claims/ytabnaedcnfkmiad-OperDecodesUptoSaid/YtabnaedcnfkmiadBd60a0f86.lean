/- Functions, and what the code asks of them: POper2. -/
import Derived.Test.YtabnaedcnfkmiadB15aca7b2
import Derived.Test.YtabnaedcnfkmiadB27e40858
import Derived.Test.YtabnaedcnfkmiadBf865c446
import Derived.Test.YtabnaedcnfkmiadB81a2baaf
import Derived.Test.YtabnaedcnfkmiadB2f972113
import Derived.Test.YtabnaedcnfkmiadB0380ec47
import Derived.Test.YtabnaedcnfkmiadBe4d41b4d
import Derived.Test.YtabnaedcnfkmiadB1fc6eb47
import Derived.Test.YtabnaedcnfkmiadB76144e94
import Derived.Test.YtabnaedcnfkmiadB20cda62e
set_option linter.unusedVariables false
set_option linter.unusedSimpArgs false
/- Operations,acts and answers: what the code asks of them. -/
namespace Go.Abs
open Go
theorem f275.ok (a : Unit) (_ : True) : f275.vc a := by
  have hr : rightO (9,(ByteArray.empty,(0,0,0),[]),(ByteArray.empty,(0,0,0)),(ByteArray.empty,ByteArray.empty,0,(0,0,0),[],ByteArray.empty,ByteArray.empty,0),ByteArray.empty) = true := by decide +kernel
  have e : encO (9,(ByteArray.empty,(0,0,0),[]),(ByteArray.empty,(0,0,0)),(ByteArray.empty,ByteArray.empty,0,(0,0,0),[],ByteArray.empty,ByteArray.empty,0),ByteArray.empty) = (⟨#[1,9]⟩,0) := by
    unfold encO
    rw [if_pos hr]
    refine Prod.ext (bytes_ext ?_) rfl
    decide +kernel
  have op : op_pre (9,(ByteArray.empty,(0,0,0),[]),(ByteArray.empty,(0,0,0)),(ByteArray.empty,ByteArray.empty,0,(0,0,0),[],ByteArray.empty,ByteArray.empty,0),ByteArray.empty) :=
    ⟨⟨Nat.zero_le _,fun x hx => absurd hx List.not_mem_nil⟩,Nat.zero_le _,⟨Nat.zero_le _,Nat.zero_le _,fun x hx => absurd hx List.not_mem_nil,Nat.zero_le _,Nat.zero_le _⟩,Nat.zero_le _,Nat.zero_le _,Nat.zero_le _⟩
  unfold f275.vc
  rw [e]
  refine ⟨⟨op,Nat.zero_le _⟩,fun _ => ⟨fun _ => ⟨by decide,fun _ => ⟨op,fun _ => ⟨⟨Nat.le_of_ble_eq_true rfl,Nat.le_of_ble_eq_true rfl⟩,?_⟩,fun c => absurd hr c⟩,fun c => absurd (by decide) c⟩,fun c => absurd (by decide) c⟩,fun c => absurd rfl c⟩
  have : textA (1,f275.s0,f275.s1) = f275.s2 := bytes_ext (by decide +kernel)
  rw [this]
  simp [lawTrue]

theorem f280.ok (a : TAct) (h : textA_pre a) : f280.vc a := by
  obtain ⟨h1,h2⟩ := h
  have e1 : wordA 1 ++ ⟨#[32]⟩ = f280.s3 := bytes_ext (by decide +kernel)
  have e2 : wordA 2 ++ ⟨#[32]⟩ = f280.s5 := bytes_ext (by decide +kernel)
  have e3 : wordA 3 ++ ⟨#[32]⟩ = f280.s7 := bytes_ext (by decide +kernel)
  have e4 : (⟨#[63]⟩ : ByteArray) ++ ⟨#[32]⟩ = f280.s8 := bytes_ext (by decide +kernel)
  have z1 : f280.s3.size ≤ 10 := Nat.le_of_ble_eq_true rfl
  have z2 : f280.s5.size ≤ 10 := Nat.le_of_ble_eq_true rfl
  have z3 : f280.s7.size ≤ 10 := Nat.le_of_ble_eq_true rfl
  have z4 : f280.s8.size ≤ 10 := Nat.le_of_ble_eq_true rfl
  have z5 : f280.s2.size ≤ 10 := Nat.le_of_ble_eq_true rfl
  have hs : f280.s2 = ⟨#[32]⟩ := rfl
  unfold f280.vc textA
  simp only [size_app]
  refine ⟨fun c => ⟨by omega,by omega,by omega,?_⟩,fun c1 => ⟨fun c => ⟨by omega,by omega,by omega,?_⟩,fun c2 => ⟨fun c => ⟨by omega,by omega,by omega,?_⟩,fun c3 => ⟨by omega,by omega,by omega,?_⟩⟩⟩⟩
  · rw [c,e1,hs]
  · rw [c,e2,hs]
  · rw [c,e3,hs]
  · have : wordA a.1 = ⟨#[63]⟩ := by unfold wordA; rw [if_neg c1,if_neg c2,if_neg c3]
    rw [this,e4,hs]

end Go.Abs
