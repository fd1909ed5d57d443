/- Functions, and what the code asks of them: PPackLaw. -/
import Derived.KernelRfl
import Derived.Test.YtabnaedcnfkmiadB15aca7b2
set_option linter.unusedVariables false
set_option linter.unusedSimpArgs false
/- Layer 1: what is put is what is taken. -/
namespace Go.Abs
open Go

theorem bAtN_lt {b : ByteArray} {i : Nat} (h : i < b.size) : bAtN b i = ((b.data.toList[i]'(by rw [data_length]; exact h)).toNat : Int) := by
  unfold bAtN
  rw [nth_toList h]
theorem bAtN_app (a b : ByteArray) (i : Nat) : bAtN (a ++ b) i = if i < a.size then bAtN a i else bAtN b (i - a.size) := by
  unfold bAtN
  rw [data_app,nth_app,data_length]
  split <;> rfl
theorem bAtN_mk (l : List UInt8) (i : Nat) : bAtN ⟨l.toArray⟩ i = ((nth l i 0).toNat : Int) := rfl

def Sub (b : ByteArray) (i : Nat) (l : List UInt8) : Prop := ∀ j,j < l.length → bAtN b (i + j) = ((nth l j 0).toNat : Int)

theorem Sub.left {b : ByteArray} {i : Nat} {l m : List UInt8} (h : Sub b i (l ++ m)) : Sub b i l := fun j hj => by
  have := h j (by rw [List.length_append]; omega)
  rw [nth_app,if_pos hj] at this
  exact this
theorem Sub.last {b : ByteArray} {i : Nat} {l : List UInt8} {c : UInt8} (h : Sub b i (l ++ [c])) : bAtN b (i + l.length) = (c.toNat : Int) := by
  have := h l.length (by simp)
  rw [nth_app,if_neg (by omega),Nat.sub_self] at this
  exact this

theorem toNat_ofNat_lt {n : Nat} (h : n < 256) : (UInt8.ofNat n).toNat = n := by
  rw [UInt8.toNat_ofNat']
  omega

theorem bytes_eq {a b : ByteArray} (h : a.size = b.size) (hi : ∀ i,i < a.size → bAtN a i = bAtN b i) : a = b := by
  apply bytes_ext
  apply List.ext_getElem
  · rw [data_length,data_length,h]
  · intro i h1 h2
    rw [data_length] at h1 h2
    have := hi i h1
    rw [bAtN_lt h1,bAtN_lt h2] at this
    exact UInt8.toNat_inj.1 (by omega)

theorem bAtN_sub {b : ByteArray} {lo hi : Int} (h : (0 : Int) ≤ lo ∧ lo ≤ hi ∧ hi ≤ (b.size : Int)) {i : Nat} (h1 : (i : Int) < hi - lo) : bAtN (subB b lo hi) i = bAtN b (lo.toNat + i) := by
  have := bAt_sub h (i := (i : Int)) (by omega) h1
  rw [bAtN_eq,bAtN_eq,Int.toNat_natCast,show (lo + (i : Int)).toNat = lo.toNat + i from by omega] at this
  exact this

theorem subB_app {b : ByteArray} {x y z : Int} (h0 : 0 ≤ x) (h1 : x ≤ y) (h2 : y ≤ z) (h3 : z ≤ b.size) : subB b x y ++ subB b y z = subB b x z := by
  have s1 := RdB.size_sub (b := b) (lo := x) (hi := y) ⟨by omega,by omega,by omega⟩
  have s2 := RdB.size_sub (b := b) (lo := y) (hi := z) ⟨by omega,by omega,by omega⟩
  have s3 := RdB.size_sub (b := b) (lo := x) (hi := z) ⟨by omega,by omega,by omega⟩
  refine bytes_eq (by rw [size_app,s1,s2,s3]; omega) fun i hi => ?_
  rw [size_app,s1,s2] at hi
  rw [bAtN_app,s1,bAtN_sub (lo := x) (hi := z) ⟨by omega,by omega,by omega⟩ (by omega)]
  split
  · rw [bAtN_sub ⟨by omega,by omega,by omega⟩ (by omega)]
  · rw [bAtN_sub ⟨by omega,by omega,by omega⟩ (by omega)]
    congr 1
    omega

theorem val_hi (b : ByteArray) (i k : Nat) : val b i (k + 1) = bAtN b i * 256 ^ k + val b (i + 1) k := by
  induction k with
  | zero => simp [val]
  | succ k ih =>
    rw [val,ih,val,Int.pow_succ,Int.add_mul,Int.mul_assoc,Int.add_assoc,show i + (k + 1) = i + 1 + k from by omega]

theorem be_val {b : ByteArray} (i : Nat) : ∀ k,i + k ≤ b.size → ∀ j,j < k → ((nth (be k (val b i k).toNat) j 0).toNat : Int) = bAtN b (i + j)
  | 0,_,j,hj => by omega
  | k + 1,h,j,hj => by
    have h0 := val_nonneg b i k
    have hc := u8bN b (i + k)
    have e1 : (val b i (k + 1)).toNat / 256 = (val b i k).toNat := by simp only [val]; omega
    have e2 : UInt8.ofNat (val b i (k + 1)).toNat = UInt8.ofNat (bAtN b (i + k)).toNat := by
      apply UInt8.toNat_inj.1
      rw [UInt8.toNat_ofNat',UInt8.toNat_ofNat']
      simp only [val]
      omega
    rw [be,e1,e2,nth_app,be_length]
    split
    · rename_i hlt
      exact be_val i k (by omega) j hlt
    · have : j = k := by omega
      subst this
      simp only [Nat.sub_self,nth]
      rw [toNat_ofNat_lt (by omega)]
      omega

theorem takeN_ok {b : ByteArray} {i : Int} (h : (takeN (b,i)).2.2 = 0) :
    0 ≤ i ∧ i < (takeN (b,i)).2.1 ∧ (takeN (b,i)).2.1 ≤ b.size ∧ num (takeN (b,i)).1.toNat = subB b i (takeN (b,i)).2.1 := by
  have hk := u8b b i
  unfold takeN at h ⊢
  simp only at h ⊢
  split at h
  · simp at h
  · split at h
    · simp at h
    · split at h
      · simp at h
      · split at h
        · simp at h
        · split at h
          · simp at h
          · rename_i c1 c2 c3 c4 c5
            rw [if_neg c1,if_neg c2,if_neg c3,if_neg c4,if_neg c5]
            simp only
            refine ⟨by omega,by omega,by omega,?_⟩
            have hb := be_val (b := b) (i.toNat + 1) (bAt b i).toNat (by omega)
            have hn : nb (val b (i.toNat + 1) (bAt b i).toNat).toNat = (bAt b i).toNat := by
              have v0 := val_nonneg b (i.toNat + 1) (bAt b i).toNat
              have v1 := val_lt b (i.toNat + 1) (bAt b i).toNat
              have a1 : nb (val b (i.toNat + 1) (bAt b i).toNat).toNat ≤ (bAt b i).toNat := nb_le.2 (by
                have : ((256 ^ (bAt b i).toNat : Nat) : Int) = (256 : Int) ^ (bAt b i).toNat := by rw [Int.natCast_pow]; rfl
                omega)
              rcases Nat.eq_or_lt_of_le a1 with e | e
              · exact e
              · exfalso
                obtain ⟨k,hk'⟩ : ∃ k,(bAt b i).toNat = k + 1 := ⟨(bAt b i).toNat - 1,by omega⟩
                have a2 := nb_le.1 (show nb (val b (i.toNat + 1) (bAt b i).toNat).toNat ≤ k by omega)
                rw [hk',val_hi] at a2
                have v2 := val_nonneg b (i.toNat + 1 + 1) k
                have f0 : bAtN b (i.toNat + 1) ≠ 0 := fun hz => c5 ⟨by omega,by
                  rw [bAtN_eq,show (i + 1).toNat = i.toNat + 1 from by omega]; exact hz⟩
                have f1 := u8bN b (i.toNat + 1)
                have f2 : (256 : Int) ^ k ≤ bAtN b (i.toNat + 1) * 256 ^ k := by
                  have hp : (0 : Int) < 256 ^ k := Int.pow_pos (by decide)
                  have : 1 * (256 : Int) ^ k ≤ bAtN b (i.toNat + 1) * 256 ^ k := Int.mul_le_mul_of_nonneg_right (by omega) (by omega)
                  omega
                have f3 : ((256 ^ k : Nat) : Int) = (256 : Int) ^ k := by rw [Int.natCast_pow]; rfl
                omega
            have hs := RdB.size_sub (b := b) (lo := i) (hi := i + 1 + bAt b i) ⟨by omega,by omega,by omega⟩
            refine bytes_eq (by rw [num_size,hn,hs]; omega) fun j hj => ?_
            rw [num_size,hn] at hj
            rw [bAtN_sub ⟨by omega,by omega,by omega⟩ (by omega)]
            unfold num
            rw [bAtN_mk,hn]
            cases j with
            | zero =>
              simp only [nth]
              rw [toNat_ofNat_lt (by omega),Nat.add_zero,← bAtN_eq]
              omega
            | succ j =>
              simp only [nth]
              rw [hb j (by omega),show i.toNat + (j + 1) = i.toNat + 1 + j from by omega]

end Go.Abs

-- interregnum/interregnumlaw01.awake
namespace Go.Abs
open Go
end Go.Abs

/- interregnum/interregnumlaw01.awake -/
namespace Go.Abs
open Go
set_option linter.unusedVariables false
end Go.Abs

-- interregnum/interregnumlaw01.PackOrders
namespace Go.Abs
open Go
end Go.Abs

/- interregnum/interregnumlaw01.PackOrders -/
namespace Go.Abs
open Go
set_option linter.unusedVariables false
end Go.Abs

-- interregnum/interregnumlaw01.PackPuts
namespace Go.Abs
open Go
end Go.Abs

/- interregnum/interregnumlaw01.PackPuts -/
namespace Go.Abs
open Go
set_option linter.unusedVariables false
end Go.Abs

-- interregnum/interregnumlaw01.PackRuns
namespace Go.Abs
open Go
end Go.Abs

/- interregnum/interregnumlaw01.PackRuns -/
namespace Go.Abs
open Go
set_option linter.unusedVariables false
end Go.Abs

-- interregnum/interregnumlaw01.PackTakes
namespace Go.Abs
open Go
end Go.Abs

/- interregnum/interregnumlaw01.PackTakes -/
namespace Go.Abs
open Go
set_option linter.unusedVariables false
end Go.Abs

-- interregnum/interregnumlaw01.PackBack
namespace Go.Abs
open Go
end Go.Abs

/- interregnum/interregnumlaw01.PackBack -/
namespace Go.Abs
open Go
set_option linter.unusedVariables false
end Go.Abs

-- interregnum/interregnumlaw01.PackOne
namespace Go.Abs
open Go
end Go.Abs

/- interregnum/interregnumlaw01.PackOne -/
namespace Go.Abs
open Go
set_option linter.unusedVariables false
end Go.Abs

/- Layer 1: the laws. -/
namespace Go.Abs
open Go
theorem at_mem {α : Type} [Inhabited α] {l : List α} {i : Int} (h0 : 0 ≤ i) (h : i < l.length) : at_ l i ∈ l := by
  have hl : i.toNat < l.length := by omega
  unfold at_
  rw [List.getD_eq_getElem?_getD,List.getElem?_eq_getElem hl]
  exact List.getElem_mem hl

theorem takeText_ok {b : ByteArray} {i m : Int} (h : (takeText (b,i,m)).2.2 = 0) :
    i < (takeText (b,i,m)).2.1 ∧ (takeText (b,i,m)).2.1 ≤ b.size ∧ 0 ≤ i ∧ ((takeText (b,i,m)).1.size : Int) ≤ m ∧ num (takeText (b,i,m)).1.size ++ (takeText (b,i,m)).1 = subB b i (takeText (b,i,m)).2.1 := by
  obtain ⟨b1,b2,b3,b4⟩ := takeN_bd (b,i)
  simp only at b4
  by_cases hz : (takeN (b,i)).2.2 = 0
  · obtain ⟨t1,t2,t3,t4⟩ := takeN_ok hz
    unfold takeText at h ⊢
    simp only at h ⊢
    generalize takeN (b,i) = t at *
    split at h
    · simp at h
    · rename_i c1
      rw [if_neg (by rw [hz]; simp)] at h
      rw [if_neg c1,if_neg (by rw [hz]; simp)]
      split at h
      · simp at h
      · rename_i c2
        rw [if_neg c2]
        split at h
        · simp at h
        · rename_i c3
          rw [if_neg c3]
          simp only
          have s1 := RdB.size_sub (b := b) (lo := t.2.1) (hi := t.2.1 + t.1) ⟨by omega,by omega,by omega⟩
          have s2 : (subB b t.2.1 (t.2.1 + t.1)).size = t.1.toNat := by rw [s1]; omega
          refine ⟨by omega,by omega,by omega,by omega,?_⟩
          rw [s2,t4,subB_app (by omega) (by omega) (by omega) (by omega)]
  · exfalso
    unfold takeText at h
    simp only at h
    split at h
    · simp at h
    · exact hz h

end Go.Abs
