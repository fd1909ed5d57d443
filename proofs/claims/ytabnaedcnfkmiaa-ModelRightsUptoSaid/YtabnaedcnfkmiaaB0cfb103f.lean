/- Functions, and what the code asks of them. -/
import Derived.KernelRfl
import Derived.Test.YtabnaedcnfkmiaaA2
set_option linter.unusedVariables false
set_option linter.unusedSimpArgs false
/- What is asked, in plain words: the lemmas by which a printed text goes from the one to the other. -/
namespace Go.Abs
open Go

/-- What a law answers. -/
def lawTrue {α : Type} (_ : α) : Bool := true

def Let {α : Type} (v : α) (T : α → Prop) : Prop := T v

/-- A bool and what it says. -/
structure Cnd (b : Bool) (p : Prop) : Prop where
  iff : b = true ↔ p

theorem toList_data (a : ByteArray) : a.toList = a.data.toList := by
  have key : ∀ (n i : Nat) (r : List UInt8), a.size - i = n → ByteArray.toList.loop a i r = r.reverse ++ a.data.toList.drop i := by
    intro n
    induction n with
    | zero =>
      intro i r h
      rw [ByteArray.toList.loop]
      have h1 : ¬ i < a.size := by omega
      rw [if_neg h1, List.drop_eq_nil_of_le (by rw [Array.length_toList]; show a.size ≤ i; omega), List.append_nil]
    | succ n ih =>
      intro i r h
      rw [ByteArray.toList.loop]
      have h1 : i < a.size := by omega
      have h2 : i < a.data.toList.length := by rw [Array.length_toList]; exact h1
      rw [if_pos h1, ih (i + 1) _ (by omega), List.reverse_cons, List.append_assoc, List.drop_eq_getElem_cons h2]
      congr 2
      have h3 : a.get! i = a.data.toList[i] := by
        show a.data[i]! = _
        have h4 : i < a.data.size := h1
        rw [getElem!_pos a.data i h4]
        simp
      rw [h3]
      rfl
  unfold ByteArray.toList
  rw [key _ 0 [] rfl]
  simp

theorem bytes_ext {a b : ByteArray} (h : a.data.toList = b.data.toList) : a = b := by
  cases a; cases b
  simp only [ByteArray.mk.injEq]
  exact Array.toList_inj.1 h

theorem toList_inj {a b : ByteArray} : a.toList = b.toList ↔ a = b := by
  rw [toList_data, toList_data]
  exact ⟨bytes_ext, fun h => by rw [h]⟩

def sLt (a b : ByteArray) : Prop := Op.bytesLess a.toList b.toList = true
def sLe (a b : ByteArray) : Prop := sLt a b ∨ a = b

namespace Cnd
variable {p q : Prop}
theorem b {c : Bool} : Cnd c (c = true) := ⟨Iff.rfl⟩
theorem tt : Cnd true True := ⟨by simp⟩
theorem ff : Cnd false False := ⟨by simp⟩
theorem dec [Decidable p] : Cnd (decide p) p := ⟨decide_eq_true_iff⟩
theorem eq {α : Type} [BEq α] [LawfulBEq α] {x y : α} : Cnd (x == y) (x = y) := ⟨beq_iff_eq⟩
theorem ne {α : Type} [BEq α] [LawfulBEq α] {x y : α} : Cnd (x != y) (¬ x = y) := ⟨bne_iff_ne⟩
theorem seq {x y : ByteArray} : Cnd (x.toList == y.toList) (x = y) := ⟨by rw [beq_iff_eq, toList_inj]⟩
theorem not {c : Bool} (h : Cnd c p) : Cnd (!c) (¬ (p)) := ⟨by rw [← h.iff]; cases c <;> simp⟩
theorem and {b c : Bool} (h : Cnd b p) (k : Cnd c q) : Cnd (b && c) ((p) ∧ (q)) := ⟨by rw [← h.iff, ← k.iff, Bool.and_eq_true]⟩
theorem or {b c : Bool} (h : Cnd b p) (k : Cnd c q) : Cnd (b || c) ((p) ∨ (q)) := ⟨by rw [← h.iff, ← k.iff, Bool.or_eq_true]⟩
theorem ix {i n : Int} : Cnd (decide ((0 : Int) ≤ i) && decide (i < n)) ((0 : Int) ≤ i ∧ i < n) := ⟨by simp⟩
theorem sl {l h n : Int} : Cnd (decide ((0 : Int) ≤ l) && decide (l ≤ h) && decide (h ≤ n) && (h == h)) ((0 : Int) ≤ l ∧ l ≤ h ∧ h ≤ n) := ⟨by simp [and_assoc]⟩
theorem sl4 {l h n m : Int} : Cnd (decide ((0 : Int) ≤ l) && decide (l ≤ h) && decide (h ≤ n) && (m == h)) ((0 : Int) ≤ l ∧ l ≤ h ∧ h ≤ n ∧ m = h) := ⟨by simp [and_assoc]⟩
theorem ss {l h n : Int} : Cnd (decide ((0 : Int) ≤ l) && decide (l ≤ h) && decide (h ≤ n)) ((0 : Int) ≤ l ∧ l ≤ h ∧ h ≤ n) := ⟨by simp [and_assoc]⟩
theorem ble {x y : Nat} : Cnd (Nat.ble x y) (x ≤ y) := ⟨by rw [Nat.ble_eq]⟩
theorem beq {x y : Nat} : Cnd (Nat.beq x y) (x = y) := ⟨by rw [Nat.beq_eq]⟩
theorem sl_ {x y : ByteArray} : Cnd (Op.bytesLess x.toList y.toList) (sLt x y) := ⟨Iff.rfl⟩
theorem sle {x y : ByteArray} : Cnd (Op.bytesLess x.toList y.toList || x.toList == y.toList) (sLe x y) := ⟨by unfold sLe sLt; rw [Bool.or_eq_true, beq_iff_eq, toList_inj]⟩
end Cnd

theorem br {b : Bool} {c p q p' q' : Prop} (h : (c → p') ∧ (¬ (c) → q')) (hc : Cnd b c) (f : c → p' → p) (g : ¬ (c) → q' → q) : Br b p q := by
  cases b with
  | true => exact f (hc.iff.1 rfl) (h.1 (hc.iff.1 rfl))
  | false =>
    have hn : ¬ c := fun h => by have := hc.iff.2 h; cases this
    exact g hn (h.2 hn)

theorem brT {b : Bool} {c p q : Prop} (hc : Cnd b c) (h : c) (t : p) : Br b p q := by
  have := hc.iff.2 h
  subst this
  exact t

theorem brF {b : Bool} {c p q : Prop} (hc : Cnd b c) (h : ¬ (c)) (t : q) : Br b p q := by
  cases b with
  | true => exact absurd (hc.iff.1 rfl) h
  | false => exact t

theorem chk {b : Bool} {c p p' : Prop} (h2 : p') (hc : Cnd b c) (h1 : c) (f : c → p' → p) : Br b p False := by
  have := hc.iff.2 h1
  subst this
  exact f h1 h2

theorem chk0 {b : Bool} {c p : Prop} (hc : Cnd b c) (h1 : c) (t : p) : Br b p False := chk t hc h1 fun _ h => h

theorem wrap_id {k : IntKind} {e : Int} (h : (if k.signed then -(2 ^ (k.bits - 1) : Int) else 0) ≤ e) (h' : e ≤ (if k.signed then (2 ^ (k.bits - 1) : Int) else 2 ^ k.bits) - 1) : k.wrap e = e := by
  cases k <;> simp [IntKind.wrap, IntKind.signed, IntKind.bits] at h h' ⊢ <;> (try split) <;> omega

namespace wrapK
variable {e : Int} {T : Int → Prop} {V : Prop}
theorem i8 (h : -128 ≤ e ∧ e ≤ 127 ∧ V) (f : -128 ≤ e → e ≤ 127 → V → T e) : Let (IntKind.i8.wrap e) T := by
  unfold Let; rw [wrap_id (by unfold IntKind.signed IntKind.bits; simp; omega) (by unfold IntKind.signed IntKind.bits; simp; omega)]; exact f h.1 h.2.1 h.2.2
theorem i16 (h : -32768 ≤ e ∧ e ≤ 32767 ∧ V) (f : -32768 ≤ e → e ≤ 32767 → V → T e) : Let (IntKind.i16.wrap e) T := by
  unfold Let; rw [wrap_id (by unfold IntKind.signed IntKind.bits; simp; omega) (by unfold IntKind.signed IntKind.bits; simp; omega)]; exact f h.1 h.2.1 h.2.2
theorem i32 (h : -2147483648 ≤ e ∧ e ≤ 2147483647 ∧ V) (f : -2147483648 ≤ e → e ≤ 2147483647 → V → T e) : Let (IntKind.i32.wrap e) T := by
  unfold Let; rw [wrap_id (by unfold IntKind.signed IntKind.bits; simp; omega) (by unfold IntKind.signed IntKind.bits; simp; omega)]; exact f h.1 h.2.1 h.2.2
theorem i64 (h : -9223372036854775808 ≤ e ∧ e ≤ 9223372036854775807 ∧ V) (f : -9223372036854775808 ≤ e → e ≤ 9223372036854775807 → V → T e) : Let (IntKind.i64.wrap e) T := by
  unfold Let; rw [wrap_id (by unfold IntKind.signed IntKind.bits; simp; omega) (by unfold IntKind.signed IntKind.bits; simp; omega)]; exact f h.1 h.2.1 h.2.2
theorem u8 (h : 0 ≤ e ∧ e ≤ 255 ∧ V) (f : 0 ≤ e → e ≤ 255 → V → T e) : Let (IntKind.u8.wrap e) T := by
  unfold Let; rw [wrap_id (by unfold IntKind.signed IntKind.bits; simp; omega) (by unfold IntKind.signed IntKind.bits; simp; omega)]; exact f h.1 h.2.1 h.2.2
theorem u16 (h : 0 ≤ e ∧ e ≤ 65535 ∧ V) (f : 0 ≤ e → e ≤ 65535 → V → T e) : Let (IntKind.u16.wrap e) T := by
  unfold Let; rw [wrap_id (by unfold IntKind.signed IntKind.bits; simp; omega) (by unfold IntKind.signed IntKind.bits; simp; omega)]; exact f h.1 h.2.1 h.2.2
theorem u32 (h : 0 ≤ e ∧ e ≤ 4294967295 ∧ V) (f : 0 ≤ e → e ≤ 4294967295 → V → T e) : Let (IntKind.u32.wrap e) T := by
  unfold Let; rw [wrap_id (by unfold IntKind.signed IntKind.bits; simp; omega) (by unfold IntKind.signed IntKind.bits; simp; omega)]; exact f h.1 h.2.1 h.2.2
theorem u64 (h : 0 ≤ e ∧ e ≤ 18446744073709551615 ∧ V) (f : 0 ≤ e → e ≤ 18446744073709551615 → V → T e) : Let (IntKind.u64.wrap e) T := by
  unfold Let; rw [wrap_id (by unfold IntKind.signed IntKind.bits; simp; omega) (by unfold IntKind.signed IntKind.bits; simp; omega)]; exact f h.1 h.2.1 h.2.2
end wrapK

namespace wrapR
variable {e : Int} {T : Int → Prop}
theorem i64 (h : (0 : Int) ≤ e ∧ e ≤ 255) (t : T e) : Let (IntKind.i64.wrap e) T := wrapK.i64 (V := True) ⟨by omega, by omega, trivial⟩ (fun _ _ _ => t)
theorem u64 (h : (0 : Int) ≤ e ∧ e ≤ 255) (t : T e) : Let (IntKind.u64.wrap e) T := wrapK.u64 (V := True) ⟨by omega, by omega, trivial⟩ (fun _ _ _ => t)
theorem i32 (h : (0 : Int) ≤ e ∧ e ≤ 255) (t : T e) : Let (IntKind.i32.wrap e) T := wrapK.i32 (V := True) ⟨by omega, by omega, trivial⟩ (fun _ _ _ => t)
theorem u32 (h : (0 : Int) ≤ e ∧ e ≤ 255) (t : T e) : Let (IntKind.u32.wrap e) T := wrapK.u32 (V := True) ⟨by omega, by omega, trivial⟩ (fun _ _ _ => t)
end wrapR

theorem fdivK {x c : Int} {T : Int → Prop} (hc : 0 ≤ c) (t : T (x / c)) : Let (Int.fdiv x c) T := by
  unfold Let; rw [Int.fdiv_eq_ediv_of_nonneg _ hc]; exact t

theorem modK {x y : Int} {T : Int → Prop} (hx : 0 ≤ x) (t : T (x % y)) : Let (Int.tmod x y) T := by
  unfold Let; rw [Int.tmod_eq_emod_of_nonneg hx]; exact t

namespace divK
variable {x y : Int} {T : Int → Prop}
theorem le (hx : 0 ≤ x) (hy : 0 < y) : 0 ≤ x / y ∧ x / y ≤ x := ⟨Int.ediv_nonneg hx (Int.le_of_lt hy), Int.ediv_le_self _ hx⟩
theorem i64 (hx : 0 ≤ x) (h : x ≤ 9223372036854775807) (hy : 0 < y) (t : T (x / y)) : Let (IntKind.i64.wrap (Int.tdiv x y)) T := by
  have := le hx hy
  rw [Int.tdiv_eq_ediv_of_nonneg hx]
  exact wrapK.i64 (V := True) ⟨by omega, by omega, trivial⟩ (fun _ _ _ => t)
theorem u64 (hx : 0 ≤ x) (h : x ≤ 18446744073709551615) (hy : 0 < y) (t : T (x / y)) : Let (IntKind.u64.wrap (Int.tdiv x y)) T := by
  have := le hx hy
  rw [Int.tdiv_eq_ediv_of_nonneg hx]
  exact wrapK.u64 (V := True) ⟨by omega, by omega, trivial⟩ (fun _ _ _ => t)
theorem u32 (hx : 0 ≤ x) (h : x ≤ 4294967295) (hy : 0 < y) (t : T (x / y)) : Let (IntKind.u32.wrap (Int.tdiv x y)) T := by
  have := le hx hy
  rw [Int.tdiv_eq_ediv_of_nonneg hx]
  exact wrapK.u32 (V := True) ⟨by omega, by omega, trivial⟩ (fun _ _ _ => t)
end divK

theorem room_of {k b : Nat} (h : k ≤ 1073741824) (hb : b ≤ 131072) : room (k * b) := by
  have : k * b ≤ 1073741824 * 131072 := Nat.mul_le_mul h hb
  unfold room
  omega

theorem room_ofI {c : Int} {b : Nat} (h : c ≤ 1073741824) (hb : b ≤ 131072) : room (Int.toNat c * b) := room_of (by omega) hb

/-- A byte of a text. -/
def bAtN (s : ByteArray) (n : Nat) : Int := ((nth s.data.toList n 0).toNat : Int)
def bAt (s : ByteArray) (i : Int) : Int := ((nth s.data.toList i.toNat 0).toNat : Int)
def at_ {α : Type} [Inhabited α] (l : List α) (i : Int) : α := l.getD i.toNat default
def mx (a b : Int) : Int := bif decide (a < b) then b else a
def mn (a b : Int) : Int := bif decide (b < a) then b else a
def by1 (c : Int) : ByteArray := ⟨#[UInt8.ofNat c.toNat]⟩
def byz (n : Nat) : ByteArray := ⟨(List.replicate n 0).toArray⟩
def subB (b : ByteArray) (lo hi : Int) : ByteArray := b.extract lo.toNat hi.toNat
def subL {α : Type} (l : List α) (lo hi : Int) : List α := (l.drop lo.toNat).take (hi - lo).toNat

theorem DEqs.symmLen {l m : List D} (h : DEqs l m) : l.length = m.length := h.1

/-- A slice's elements read as a list. -/
def Rds {α : Type} [Inhabited α] (enc : α → List D) (n : Nat) (g : Nat → List D) (l : List α) : Prop := n = l.length ∧ ∀ i, i < l.length → DEqs (g i) (gl enc l i)
/-- A slice of bytes reads as bytes. -/
def RdB (n : Nat) (g : Nat → List D) (b : ByteArray) : Prop := n = b.size ∧ ∀ i, i < b.size → DEqs (g i) (gstr b i)

namespace Rds
variable {α : Type} [Inhabited α] {enc : α → List D} {n m : Nat} {g h : Nat → List D} {l l' : List α}
theorem self : Rds enc l.length (gl enc l) l := ⟨rfl, fun _ _ => DEqs.refl _⟩
theorem nil : Rds enc 0 g [] := ⟨rfl, fun i h => absurd h (Nat.not_lt_zero i)⟩
theorem one {cs : List D} {x : α} (h : DEqs cs (enc x)) : Rds enc 1 (fun _ => cs) [x] := ⟨rfl, fun i hi => by
  have : i = 0 := by simp at hi; exact hi
  subst this
  exact h⟩
theorem getD_app (l l' : List α) (i : Nat) : (l ++ l').getD i default = if i < l.length then l.getD i default else l'.getD (i - l.length) default := by
  simp only [List.getD_eq_getElem?_getD, List.getElem?_append]
  split <;> rfl
theorem rep {x : α} : Rds enc n (fun _ => enc x) (List.replicate n x) := ⟨by simp, fun i hi => by
  rw [List.length_replicate] at hi
  have : gl enc (List.replicate n x) i = enc x := by simp [gl, List.getD_eq_getElem?_getD, hi]
  rw [this]
  exact DEqs.refl _⟩
theorem app (p : Rds enc n g l) (q : Rds enc m h l') : Rds enc (n + m) (gapp g n h) (l ++ l') := ⟨by rw [p.1, q.1, List.length_append], fun i hi => by
  rw [List.length_append] at hi
  have e : gl enc (l ++ l') i = if i < l.length then gl enc l i else gl enc l' (i - l.length) := by
    unfold gl
    rw [getD_app]
    split <;> rfl
  rw [e]
  unfold gapp
  by_cases h1 : i < n
  · have : Nat.blt i n = true := by rw [Nat.blt_eq]; exact h1
    rw [this, if_pos (by rw [← p.1]; exact h1)]
    exact p.2 i (by rw [← p.1]; exact h1)
  · have : Nat.blt i n = false := by rw [← Bool.not_eq_true, Nat.blt_eq]; exact h1
    rw [this, if_neg (by rw [← p.1]; exact h1), p.1]
    exact q.2 (i - l.length) (by rw [p.1] at h1; omega)⟩
theorem sub {lo hi : Int} (p : Rds enc n g l) (h : (0 : Int) ≤ lo ∧ lo ≤ hi ∧ hi ≤ (n : Int)) : Rds enc (Int.toNat (hi - lo)) (gsub g (Int.toNat lo)) (subL l lo hi) := by
  have hn := p.1
  refine ⟨by simp only [subL, List.length_take, List.length_drop]; omega, fun i hi' => ?_⟩
  simp only [subL, List.length_take, List.length_drop] at hi'
  have e : gl enc (subL l lo hi) i = gl enc l (i + Int.toNat lo) := by
    unfold gl subL
    simp only [List.getD_eq_getElem?_getD, List.getElem?_take, List.getElem?_drop]
    rw [if_pos (by omega), Nat.add_comm]
  rw [e]
  exact p.2 (i + Int.toNat lo) (by omega)
theorem to (p : Rds enc n g l) (h : l = l') : Rds enc n g l' := h ▸ p
theorem deq {t : Tag} {z : Nat} (p : Rds enc n g l) : DEq (.slice t z n g) (.slice .ro z l.length (gl enc l)) := by
  obtain ⟨h1, h2⟩ := p
  subst h1
  exact .slice t .ro z _ g _ (.inr rfl) (fun i hi => (h2 i hi).1) fun i hi => (h2 i hi).2
theorem row (h : n = l.length ∧ ∀ i, i < l.length → g i = gl enc l i) : Rds enc n g l := ⟨h.1, fun i hi => by rw [h.2 i hi]; exact DEqs.refl _⟩
end Rds

theorem u8r (x : UInt8) : (0 : Int) ≤ (x.toNat : Int) ∧ (x.toNat : Int) ≤ 255 := ⟨by omega, by have := x.toNat_lt; omega⟩
theorem u8w (e : Int) : (0 : Int) ≤ IntKind.u8.wrap e ∧ IntKind.u8.wrap e ≤ 255 := by simp [IntKind.wrap, IntKind.signed, IntKind.bits]; omega
theorem u8b (s : ByteArray) (i : Int) : (0 : Int) ≤ bAt s i ∧ bAt s i ≤ 255 := u8r _
theorem u8bN (s : ByteArray) (i : Nat) : (0 : Int) ≤ bAtN s i ∧ bAtN s i ≤ 255 := u8r _

theorem nth_toList {s : ByteArray} {i : Nat} (h : i < s.size) : nth s.data.toList i 0 = s.data.toList[i]'(by rw [Array.length_toList]; exact h) := nth_lt _ _ (by rw [Array.length_toList]; exact h)

theorem nth_app {α : Type} (l m : List α) (d : α) (j : Nat) : nth (l ++ m) j d = if j < l.length then nth l j d else nth m (j - l.length) d := by
  induction l generalizing j with
  | nil => simp
  | cons a l ih => cases j with
    | zero => simp [nth]
    | succ j => simp only [List.cons_append, nth, ih, List.length_cons, Nat.add_lt_add_iff_right, Nat.add_sub_add_right]

theorem nth_getD {α : Type} (l : List α) (d : α) (j : Nat) : nth l j d = l.getD j d := by
  induction l generalizing j with
  | nil => simp [nth]
  | cons a l ih => cases j with
    | zero => simp [nth]
    | succ j => simp [nth, ih]

theorem size_app (a b : ByteArray) : (a ++ b).size = a.size + b.size := ByteArray.size_append
theorem data_app (a b : ByteArray) : (a ++ b).data.toList = a.data.toList ++ b.data.toList := by rw [ByteArray.data_append, Array.toList_append]

namespace RdB
variable {n m : Nat} {g h : Nat → List D} {b b' : ByteArray}
theorem self : RdB b.size (gstr b) b := ⟨rfl, fun _ _ => DEqs.refl _⟩
theorem nil : RdB 0 g ByteArray.empty := ⟨rfl, fun i h => absurd h (Nat.not_lt_zero i)⟩
theorem one {c : Int} (h : (0 : Int) ≤ c ∧ c ≤ 255) : RdB 1 (fun _ => [.int .u8 c]) (by1 c) := ⟨rfl, fun i hi => by
  have : i = 0 := by
    have h2 : (by1 c).size = 1 := rfl
    omega
  subst this
  have : gstr (by1 c) 0 = [.int .u8 c] := by
    have e : ((UInt8.ofNat c.toNat).toNat : Int) = c := by
      rw [UInt8.toNat_ofNat']
      omega
    show [D.int .u8 ((UInt8.ofNat c.toNat).toNat : Int)] = _
    rw [e]
  rw [this]
  exact DEqs.refl _⟩
theorem size_byz : (byz n).size = n := by simp [byz, ByteArray.size]
theorem rep : RdB n (fun _ => [.int .u8 0]) (byz n) := ⟨size_byz.symm, fun i hi => by
  rw [size_byz] at hi
  have : gstr (byz n) i = [.int .u8 0] := by
    show [D.int .u8 ((nth (byz n).data.toList i 0).toNat : Int)] = _
    rw [nth_getD]
    simp [byz, List.getD_eq_getElem?_getD, hi]
  rw [this]
  exact DEqs.refl _⟩
theorem app (p : RdB n g b) (q : RdB m h b') : RdB (n + m) (gapp g n h) (b ++ b') := ⟨by rw [p.1, q.1, size_app], fun i hi => by
  rw [size_app] at hi
  have e : gstr (b ++ b') i = if i < b.size then gstr b i else gstr b' (i - b.size) := by
    unfold gstr
    rw [data_app, nth_app, Array.length_toList]
    show _ = if i < b.data.size then _ else [D.int .u8 ((nth b'.data.toList (i - b.data.size) 0).toNat : Int)]
    split <;> rfl
  rw [e]
  unfold gapp
  by_cases h1 : i < n
  · have : Nat.blt i n = true := by rw [Nat.blt_eq]; exact h1
    rw [this, if_pos (by rw [← p.1]; exact h1)]
    exact p.2 i (by rw [← p.1]; exact h1)
  · have : Nat.blt i n = false := by rw [← Bool.not_eq_true, Nat.blt_eq]; exact h1
    rw [this, if_neg (by rw [← p.1]; exact h1), p.1]
    exact q.2 (i - b.size) (by rw [p.1] at h1; omega)⟩
theorem size_sub {lo hi : Int} (h : (0 : Int) ≤ lo ∧ lo ≤ hi ∧ hi ≤ (b.size : Int)) : (subB b lo hi).size = Int.toNat (hi - lo) := by
  simp only [subB, ByteArray.size_extract]
  omega
theorem sub {lo hi : Int} (p : RdB n g b) (h : (0 : Int) ≤ lo ∧ lo ≤ hi ∧ hi ≤ (n : Int)) : RdB (Int.toNat (hi - lo)) (gsub g (Int.toNat lo)) (subB b lo hi) := by
  have hn := p.1
  have hs := size_sub (b := b) (lo := lo) (hi := hi) (by rw [← hn]; exact h)
  refine ⟨hs.symm, fun i hi' => ?_⟩
  rw [hs] at hi'
  have e : gstr (subB b lo hi) i = gstr b (i + Int.toNat lo) := by
    unfold gstr subB
    rw [ByteArray.data_extract, nth_getD, nth_getD]
    simp only [List.getD_eq_getElem?_getD, Array.getElem?_toList, Array.getElem?_extract]
    have hb : b.data.size = b.size := rfl
    rw [if_pos (by omega), Nat.add_comm]
  rw [e]
  exact p.2 (i + Int.toNat lo) (by omega)
theorem to (p : RdB n g b) (h : b = b') : RdB n g b' := h ▸ p
theorem deq {t : Tag} (p : RdB n g b) : DEq (.slice t 1 n g) (.slice .ro 1 b.size (gstr b)) := by
  obtain ⟨h1, h2⟩ := p
  subst h1
  exact .slice t .ro 1 _ g _ (.inr rfl) (fun i hi => (h2 i hi).1) fun i hi => (h2 i hi).2
theorem at_ (p : RdB n g b) {i : Nat} (hi : i < n) : g i = [.int .u8 ((nth b.data.toList i 0).toNat : Int)] := by
  have h1 := p.2 i (by rw [← p.1]; exact hi)
  have h2 : (g i).length = 1 := h1.1
  have h3 := h1.2 0
  match hg : g i, h2 with
  | [d], _ =>
    rw [hg] at h3
    have h4 : DEq d (.int .u8 ((nth b.data.toList i 0).toNat : Int)) := h3
    cases h4
    rfl
theorem bytes (p : RdB n g b) : Bytes n g := fun i hi => ⟨nth b.data.toList i 0, p.at_ hi⟩
theorem text (p : RdB n g b) : textOf n g = b := by
  have key : ∀ k, k ≤ n → gbytes g k = b.data.toList.take k := by
    intro k
    induction k with
    | zero => intro _; simp [gbytes]
    | succ k ih =>
      intro hk
      have hlt : k < b.data.toList.length := by rw [Array.length_toList]; show k < b.size; rw [← p.1]; omega
      rw [gbytes, ih (by omega), p.at_ (by omega), List.take_succ_eq_append_getElem hlt]
      congr 2
      show UInt8.ofNat (Int.toNat ((nth b.data.toList k 0).toNat : Int)) = _
      rw [Int.toNat_natCast, UInt8.ofNat_toNat, nth_lt _ _ hlt]
  apply bytes_ext
  show (gbytes g n).toArray.toList = _
  rw [key n (Nat.le_refl _), List.take_of_length_le (by rw [Array.length_toList]; show b.size ≤ n; rw [p.1]; exact Nat.le_refl _)]
end RdB

theorem slK {p q k : Prop} (h : p ∧ q) (r : k) : p ∧ q ∧ k := ⟨h.1, h.2, r⟩
theorem numR {α : Type} [Inhabited α] {enc : α → List D} (g : Nat → List D) {n : Nat} {l : List α} (h : Rds enc n g l) : n = l.length := h.1
theorem numB (g : Nat → List D) {n : Nat} {b : ByteArray} (h : RdB n g b) : n = b.size := h.1

theorem b2s {n : Nat} {g : Nat → List D} {b : ByteArray} {V : Prop} {T : ByteArray → Prop} (h : V) (p : RdB n g b) (f : V → T b) : Bytes n g ∧ Let (textOf n g) T :=
  ⟨p.bytes, by unfold Let; rw [p.text]; exact f h⟩

end Go.Abs

-- the types of the program as data
namespace Go.Abs
open Go
def e_u64 (x : Int) : List D := [.int .u64 x]
def k_u64 : Codec (Int) := intC .u64
def e_i64 (x : Int) : List D := [.int .i64 x]
def k_i64 : Codec (Int) := intC .i64
def e_u8 (x : Int) : List D := [.int .u8 x]
def k_u8 : Codec (Int) := intC .u8
def e_bytes (x : ByteArray) : List D := [.slice .ro 1 x.size (gstr x)]
def e_str (x : ByteArray) : List D := [.str x]
def k_str : Codec (ByteArray) := strC
def e_bool (x : Bool) : List D := [.bool x]
def k_bool : Codec (Bool) := boolC
def e_sl_u64 (x : List (Int)) : List D := [.slice .ro 1 x.length (gl e_u64 x)]
def k_sl_u64 : Codec (List (Int)) := sliceC k_u64
def e_i32 (x : Int) : List D := [.int .i32 x]
def k_i32 : Codec (Int) := intC .i32
abbrev T_api_Label : Type := ByteArray × ByteArray
def e_api_Label (x : T_api_Label) : List D := [.str x.1, .str x.2]
def k_api_Label : Codec (T_api_Label) := aggC (pairC k_str k_str)
def e_sl_api_Label (x : List (T_api_Label)) : List D := [.slice .ro 2 x.length (gl e_api_Label x)]
def k_sl_api_Label : Codec (List (T_api_Label)) := sliceC k_api_Label
abbrev T_ar3_i64 : Type := Int × Int × Int
def e_ar3_i64 (x : T_ar3_i64) : List D := [.int .i64 x.1, .int .i64 x.2.1, .int .i64 x.2.2]
def k_ar3_i64 : Codec (T_ar3_i64) := aggC (pairC k_i64 (pairC k_i64 k_i64))
abbrev T_api_Node : Type := ByteArray × T_ar3_i64 × (List (T_api_Label))
def e_api_Node (x : T_api_Node) : List D := [.str x.1, .int .i64 x.2.1.1, .int .i64 x.2.1.2.1, .int .i64 x.2.1.2.2, .slice .ro 2 x.2.2.length (gl e_api_Label x.2.2)]
def k_api_Node : Codec (T_api_Node) := aggC (pairC k_str (pairC k_ar3_i64 k_sl_api_Label))
abbrev T_api_Queue : Type := ByteArray × T_ar3_i64
def e_api_Queue (x : T_api_Queue) : List D := [.str x.1, .int .i64 x.2.1, .int .i64 x.2.2.1, .int .i64 x.2.2.2]
def k_api_Queue : Codec (T_api_Queue) := aggC (pairC k_str k_ar3_i64)
abbrev T_api_Task : Type := ByteArray × ByteArray × Int × T_ar3_i64 × (List (T_api_Label)) × ByteArray × ByteArray × Int
def e_api_Task (x : T_api_Task) : List D := [.str x.1, .str x.2.1, .int .i64 x.2.2.1, .int .i64 x.2.2.2.1.1, .int .i64 x.2.2.2.1.2.1, .int .i64 x.2.2.2.1.2.2, .slice .ro 2 x.2.2.2.2.1.length (gl e_api_Label x.2.2.2.2.1), .str x.2.2.2.2.2.1, .str x.2.2.2.2.2.2.1, .int .i64 x.2.2.2.2.2.2.2]
def k_api_Task : Codec (T_api_Task) := aggC (pairC k_str (pairC k_str (pairC k_i64 (pairC k_ar3_i64 (pairC k_sl_api_Label (pairC k_str (pairC k_str k_i64)))))))
def e_sl_ar3_i64 (x : List (T_ar3_i64)) : List D := [.slice .ro 3 x.length (gl e_ar3_i64 x)]
def k_sl_ar3_i64 : Codec (List (T_ar3_i64)) := sliceC k_ar3_i64
abbrev T_api_Job : Type := T_api_Task × Int × ByteArray × Int
def e_api_Job (x : T_api_Job) : List D := [.str x.1.1, .str x.1.2.1, .int .i64 x.1.2.2.1, .int .i64 x.1.2.2.2.1.1, .int .i64 x.1.2.2.2.1.2.1, .int .i64 x.1.2.2.2.1.2.2, .slice .ro 2 x.1.2.2.2.2.1.length (gl e_api_Label x.1.2.2.2.2.1), .str x.1.2.2.2.2.2.1, .str x.1.2.2.2.2.2.2.1, .int .i64 x.1.2.2.2.2.2.2.2, .int .i64 x.2.1, .str x.2.2.1, .int .i64 x.2.2.2]
def k_api_Job : Codec (T_api_Job) := aggC (pairC k_api_Task (pairC k_i64 (pairC k_str k_i64)))
def e_sl_api_Job (x : List (T_api_Job)) : List D := [.slice .ro 13 x.length (gl e_api_Job x)]
def k_sl_api_Job : Codec (List (T_api_Job)) := sliceC k_api_Job
end Go.Abs

/- Layer 1: numbers and texts as bytes. -/
namespace Go.Abs
open Go

/-- How many bits a number has. -/
def blen (n : Nat) : Nat := if n = 0 then 0 else n.log2 + 1
/-- How many bytes a number has. -/
def nb (n : Nat) : Nat := (blen n + 7) / 8
/-- The k lowest bytes, the greatest first. -/
def be : Nat → Nat → List UInt8
  | 0, _ => []
  | k + 1, n => be k (n / 256) ++ [UInt8.ofNat n]
def num (n : Nat) : ByteArray := ⟨(UInt8.ofNat (nb n) :: be (nb n) n).toArray⟩
/-- The number that k bytes from i on are. -/
def val (b : ByteArray) (i : Nat) : Nat → Int
  | 0 => 0
  | k + 1 => val b i k * 256 + bAtN b (i + k)

def U64 (n : Int) : Prop := 0 ≤ n ∧ n ≤ 18446744073709551615

def len64_pre (a : Int) : Prop := U64 a
def len64 (a : Int) : Int := (blen a.toNat : Int)
def own_pre (a : ByteArray) : Prop := a.size ≤ 536870912
def ownB (a : ByteArray) : ByteArray := a
def put_pre (a : ByteArray × Int) : Prop := a.1.size ≤ 536870912 ∧ U64 a.2
def putB (a : ByteArray × Int) : ByteArray := a.1 ++ num a.2.toNat
def putText_pre (a : ByteArray × ByteArray) : Prop := a.1.size ≤ 268435456 ∧ a.2.size ≤ 268435456
def putText (a : ByteArray × ByteArray) : ByteArray := a.1 ++ num a.2.size ++ a.2
def num_pre (a : Int) : Prop := U64 a
def numS (a : Int) : ByteArray := num a.toNat
def text_pre (a : ByteArray) : Prop := a.size ≤ 268435456
def textS (a : ByteArray) : ByteArray := num a.size ++ a
def take_pre (a : ByteArray × Int) : Prop := a.1.size ≤ 536870912
def takeN (a : ByteArray × Int) : Int × Int × Int :=
  if a.2 < 0 ∨ (a.1.size : Int) < a.2 then (0, 0, 1) else
  if a.2 = (a.1.size : Int) then (0, 0, 2) else
  if 8 < bAt a.1 a.2 then (0, 0, 3) else
  if (a.1.size : Int) - a.2 - 1 < bAt a.1 a.2 then (0, 0, 2) else
  if 0 < bAt a.1 a.2 ∧ bAt a.1 (a.2 + 1) = 0 then (0, 0, 3) else
  (val a.1 (a.2.toNat + 1) (bAt a.1 a.2).toNat, a.2 + 1 + bAt a.1 a.2, 0)
def takeText_pre (a : ByteArray × Int × Int) : Prop := a.1.size ≤ 536870912 ∧ a.2.2 ≤ 9223372036854775807
def takeText (a : ByteArray × Int × Int) : ByteArray × Int × Int :=
  if a.2.2 < 0 then (ByteArray.empty, 0, 1) else
  if (takeN (a.1, a.2.1)).2.2 ≠ 0 then (ByteArray.empty, 0, (takeN (a.1, a.2.1)).2.2) else
  if a.2.2 < (takeN (a.1, a.2.1)).1 then (ByteArray.empty, 0, 4) else
  if (a.1.size : Int) - (takeN (a.1, a.2.1)).2.1 < (takeN (a.1, a.2.1)).1 then (ByteArray.empty, 0, 2) else
  (subB a.1 (takeN (a.1, a.2.1)).2.1 ((takeN (a.1, a.2.1)).2.1 + (takeN (a.1, a.2.1)).1), (takeN (a.1, a.2.1)).2.1 + (takeN (a.1, a.2.1)).1, 0)

end Go.Abs

/- Signs in texts. -/
namespace Go.Abs
open Go

/-- Each byte is a sign of its own. -/
def Ascii (s : ByteArray) : Prop := ∀ x ∈ s.data.toList, x.toNat < 128
/-- The signs that may stand in a name: a-z, 0-9, and '-'. -/
def ltr (x : UInt8) : Bool := (97 ≤ x && x ≤ 122) || (48 ≤ x && x ≤ 57) || x == 45
def sgn (r : Int) : Bool := (0 ≤ r && r < 128) && ltr r.toNat.toUInt8

def rune_pre (a : ByteArray × Int) : Prop := Ascii a.1 ∧ a.1.size ≤ 1073741824 ∧ 0 ≤ a.2 ∧ a.2 ≤ 1114111
/-- strings.IndexRune in a text of such bytes. -/
def ixRune (a : ByteArray × Int) : Int := if 0 ≤ a.2 ∧ a.2 < 128 then ixB a else -1
def hasRune (a : ByteArray × Int) : Bool := decide (0 ≤ ixRune a)
def odd_pre (r : Int) : Prop := 0 ≤ r ∧ r ≤ 1114111
def oddR (r : Int) : Bool := !sgn r
def text_pre30 (s : ByteArray) : Prop := s.size ≤ 1073741824
/-- The place of the first sign that can't stand in a name. -/
def ixOdd (l : List UInt8) : Int := match l.findIdx? (fun x => !ltr x) with
  | some i => i
  | none => -1
def indexOdd (a : ByteArray × Bool) : Int := ixOdd a.1.data.toList
def indexOddT (s : ByteArray) : Int := ixOdd s.data.toList
def hasOdd (s : ByteArray) : Bool := decide (0 ≤ ixOdd s.data.toList)
def ixOdd_pre (a : ByteArray × Bool) : Prop := a.1.size ≤ 1073741824 ∧ a.2 = true
end Go.Abs

-- internal/bytealg.IndexByteString
namespace Go.Abs
open Go
def f79.args (a : ByteArray × Int) : List D := [.str a.1, .int .u8 a.2]
def f79.blks (a : ByteArray × Int) : List (List D) := []
def f79.res (a : ByteArray × Int) : List D := [.int .i64 (ixB a)]
def f79.blks' (a : ByteArray × Int) : List (List D) := []
def f79.C : Contract := FnC f79.args f79.blks (fun _ => True) f79.res f79.blks'
end Go.Abs

-- internal/stringslite.IndexByte
namespace Go.Abs
open Go
def f78.args (a : ByteArray × Int) : List D := [.str a.1, .int .u8 a.2]
def f78.blks (a : ByteArray × Int) : List (List D) := []
def f78.res (a : ByteArray × Int) : List D := [.int .i64 (ixB a)]
def f78.blks' (a : ByteArray × Int) : List (List D) := []
def f78.C : Contract := FnC f78.args f78.blks (fun _ => True) f78.res f78.blks'
end Go.Abs

/- internal/stringslite.IndexByte -/
namespace Go.Abs
open Go
set_option linter.unusedVariables false
def f78.kills (a : ByteArray × Int) : List Hint := []
def f78.cuts (a : ByteArray × Int) : List (Nat × Σ β : Type, β → Tm) := []
def f78.af (a : ByteArray × Int) : AF := AF.mk (.seq (.region [⟨(some 4), 0, .move, [.c (.int .i64 (0))], none⟩])
 (.seq (.region [⟨(some 5), 1, .move, [.t 0], none⟩,
  ⟨(some 6), 2, .move, [.t 1], none⟩,
  ⟨(some 7), 3, (.call false 79), [.t 5, .t 6], none⟩,
  ⟨(some 4), 7, .move, [.t 7], none⟩])
 (.ret)))
  [.tmp 4] 0 6
def f78.env : Env := [(79, f79.C)]
def f78.tree (a : ByteArray × Int) : Prop := ∃ c1 : ByteArray × Int, (a.1 = c1.1) ∧ (a.2 = c1.2) ∧ True ∧ ((ixB c1) = (ixB a)) ∧ True
def f78.vc (a : ByteArray × Int) : Prop := ((ixB (a.1, a.2)) = ixB a)
set_option maxRecDepth 100000 in
set_option maxHeartbeats 2000000 in
theorem f78.of (a : ByteArray × Int) (h : f78.vc a) : f78.tree a := ⟨(a.1, a.2), ⟨rfl, ⟨rfl, ⟨trivial, ⟨h, trivial⟩⟩⟩⟩⟩
theorem f78.eq (a : ByteArray × Int) : (f78.af a).gives f78.env (f78.args a) (f78.blks a) (f78.res a) (f78.blks' a) = f78.tree a := by kernel_rfl
end Go.Abs

-- strings.IndexByte
namespace Go.Abs
open Go
def f74.args (a : ByteArray × Int) : List D := [.str a.1, .int .u8 a.2]
def f74.blks (a : ByteArray × Int) : List (List D) := []
def f74.res (a : ByteArray × Int) : List D := [.int .i64 (ixB a)]
def f74.blks' (a : ByteArray × Int) : List (List D) := []
def f74.C : Contract := FnC f74.args f74.blks (fun _ => True) f74.res f74.blks'
end Go.Abs

/- strings.IndexByte -/
namespace Go.Abs
open Go
set_option linter.unusedVariables false
def f74.kills (a : ByteArray × Int) : List Hint := []
def f74.cuts (a : ByteArray × Int) : List (Nat × Σ β : Type, β → Tm) := []
def f74.af (a : ByteArray × Int) : AF := AF.mk (.seq (.region [⟨(some 4), 0, .move, [.c (.int .i64 (0))], none⟩])
 (.seq (.region [⟨(some 5), 1, .move, [.t 0], none⟩,
  ⟨(some 6), 2, .move, [.t 1], none⟩,
  ⟨(some 7), 3, (.call false 78), [.t 5, .t 6], none⟩,
  ⟨(some 4), 7, .move, [.t 7], none⟩])
 (.ret)))
  [.tmp 4] 0 6
def f74.env : Env := [(78, f78.C)]
def f74.tree (a : ByteArray × Int) : Prop := ∃ c1 : ByteArray × Int, (a.1 = c1.1) ∧ (a.2 = c1.2) ∧ True ∧ ((ixB c1) = (ixB a)) ∧ True
def f74.vc (a : ByteArray × Int) : Prop := ((ixB (a.1, a.2)) = ixB a)
set_option maxRecDepth 100000 in
set_option maxHeartbeats 2000000 in
theorem f74.of (a : ByteArray × Int) (h : f74.vc a) : f74.tree a := ⟨(a.1, a.2), ⟨rfl, ⟨rfl, ⟨trivial, ⟨h, trivial⟩⟩⟩⟩⟩
theorem f74.eq (a : ByteArray × Int) : (f74.af a).gives f74.env (f74.args a) (f74.blks a) (f74.res a) (f74.blks' a) = f74.tree a := by kernel_rfl
end Go.Abs

-- unicode/utf8.ValidRune
namespace Go.Abs
open Go
def f75.args (a : Int) : List D := [.int .i32 a]
def f75.blks (a : Int) : List (List D) := []
def f75.res (a : Int) : List D := [.bool ((fun r : Int => decide (0 ≤ r ∧ r < 55296 ∨ 57343 < r ∧ r ≤ 1114111)) a)]
def f75.blks' (a : Int) : List (List D) := []
def f75.C : Contract := FnC f75.args f75.blks (fun _ => True) f75.res f75.blks'
end Go.Abs

/- unicode/utf8.ValidRune -/
namespace Go.Abs
open Go
set_option linter.unusedVariables false
def f75.kills (a : Int) : List Hint := []
def f75.cuts (a : Int) : List (Nat × Σ β : Type, β → Tm) := []
def f75.af (a : Int) : AF := AF.mk (.seq (.region [⟨(some 2), 0, .move, [.c (.bool false)], none⟩])
 (.seq (.block 0 (.seq (.region [⟨(some 4), 1, .move, [.t 0], none⟩,
  ⟨(some 5), 2, (.bin .leq), [.c (.int .i32 (0)), .t 4], none⟩,
  ⟨(some 6), 3, .move, [.t 5], none⟩,
  ⟨(some 7), 4, .move, [.t 0], (some (6, true))⟩,
  ⟨(some 8), 5, (.bin .lss), [.t 7, .c (.int .i32 (55296))], (some (6, true))⟩,
  ⟨(some 9), 6, .pick, [.t 6, .t 8, .c (.bool false)], none⟩,
  ⟨(some 3), 7, .move, [.t 9], none⟩])
 (.cond (.t 3) (.seq (.region [⟨(some 2), 8, .move, [.c (.bool true)], none⟩])
 (.ret)) (.seq (.region [⟨(some 11), 9, .move, [.t 0], none⟩,
  ⟨(some 12), 10, (.bin .lss), [.c (.int .i32 (57343)), .t 11], none⟩,
  ⟨(some 13), 11, .move, [.t 12], none⟩,
  ⟨(some 14), 12, .move, [.t 0], (some (13, true))⟩,
  ⟨(some 15), 13, (.bin .leq), [.t 14, .c (.int .i32 (1114111))], (some (13, true))⟩,
  ⟨(some 16), 14, .pick, [.t 13, .t 15, .c (.bool false)], none⟩,
  ⟨(some 10), 15, .move, [.t 16], none⟩])
 (.cond (.t 10) (.seq (.region [⟨(some 2), 16, .move, [.c (.bool true)], none⟩])
 (.ret)) (.skip))))))
 (.seq (.region [⟨(some 2), 17, .move, [.c (.bool false)], none⟩])
 (.ret))))
  [.tmp 2] 0 16
def f75.env : Env := []
def f75.tree (a : Int) : Prop := Br (decide ((0 : Int) ≤ a)) (Br (decide (a < (55296 : Int))) ((true = ((fun r : Int => decide (0 ≤ r ∧ r < 55296 ∨ 57343 < r ∧ r ≤ 1114111)) a)) ∧ True) (Br (decide ((57343 : Int) < a)) (Br (decide (a ≤ (1114111 : Int))) ((true = ((fun r : Int => decide (0 ≤ r ∧ r < 55296 ∨ 57343 < r ∧ r ≤ 1114111)) a)) ∧ True) ((false = ((fun r : Int => decide (0 ≤ r ∧ r < 55296 ∨ 57343 < r ∧ r ≤ 1114111)) a)) ∧ True)) ((false = ((fun r : Int => decide (0 ≤ r ∧ r < 55296 ∨ 57343 < r ∧ r ≤ 1114111)) a)) ∧ True))) (Br (decide ((57343 : Int) < a)) (Br (decide (a ≤ (1114111 : Int))) ((true = ((fun r : Int => decide (0 ≤ r ∧ r < 55296 ∨ 57343 < r ∧ r ≤ 1114111)) a)) ∧ True) ((false = ((fun r : Int => decide (0 ≤ r ∧ r < 55296 ∨ 57343 < r ∧ r ≤ 1114111)) a)) ∧ True)) ((false = ((fun r : Int => decide (0 ≤ r ∧ r < 55296 ∨ 57343 < r ∧ r ≤ 1114111)) a)) ∧ True))
def f75.vc (a : Int) : Prop := (((0 : Int) ≤ a → ((a < (55296 : Int) → (true = (fun r : Int => decide (0 ≤ r ∧ r < 55296 ∨ 57343 < r ∧ r ≤ 1114111)) a)) ∧ (¬ (a < (55296 : Int)) → (((57343 : Int) < a → ((a ≤ (1114111 : Int) → (true = (fun r : Int => decide (0 ≤ r ∧ r < 55296 ∨ 57343 < r ∧ r ≤ 1114111)) a)) ∧ (¬ (a ≤ (1114111 : Int)) → (false = (fun r : Int => decide (0 ≤ r ∧ r < 55296 ∨ 57343 < r ∧ r ≤ 1114111)) a)))) ∧ (¬ ((57343 : Int) < a) → (false = (fun r : Int => decide (0 ≤ r ∧ r < 55296 ∨ 57343 < r ∧ r ≤ 1114111)) a)))))) ∧ (¬ ((0 : Int) ≤ a) → (((57343 : Int) < a → ((a ≤ (1114111 : Int) → (true = (fun r : Int => decide (0 ≤ r ∧ r < 55296 ∨ 57343 < r ∧ r ≤ 1114111)) a)) ∧ (¬ (a ≤ (1114111 : Int)) → (false = (fun r : Int => decide (0 ≤ r ∧ r < 55296 ∨ 57343 < r ∧ r ≤ 1114111)) a)))) ∧ (¬ ((57343 : Int) < a) → (false = (fun r : Int => decide (0 ≤ r ∧ r < 55296 ∨ 57343 < r ∧ r ≤ 1114111)) a)))))
set_option maxRecDepth 100000 in
set_option maxHeartbeats 2000000 in
theorem f75.of (a : Int) (h : f75.vc a) : f75.tree a := br h Cnd.dec (fun h1 k30 => br k30 Cnd.dec (fun h3 k17 => ⟨k17, trivial⟩) (fun h4 k18 => br k18 Cnd.dec (fun h6 k15 => br k15 Cnd.dec (fun h8 k12 => ⟨k12, trivial⟩) (fun h9 k13 => ⟨k13, trivial⟩)) (fun h7 k16 => ⟨k16, trivial⟩))) (fun h2 k31 => br k31 Cnd.dec (fun h19 k28 => br k28 Cnd.dec (fun h21 k25 => ⟨k25, trivial⟩) (fun h22 k26 => ⟨k26, trivial⟩)) (fun h20 k29 => ⟨k29, trivial⟩))
theorem f75.eq (a : Int) : (f75.af a).gives f75.env (f75.args a) (f75.blks a) (f75.res a) (f75.blks' a) = f75.tree a := by kernel_rfl
end Go.Abs

-- strings.IndexRune
namespace Go.Abs
open Go
def f73.args (a : ByteArray × Int) : List D := [.str a.1, .int .i32 a.2]
def f73.blks (a : ByteArray × Int) : List (List D) := []
def f73.res (a : ByteArray × Int) : List D := [.int .i64 (ixRune a)]
def f73.blks' (a : ByteArray × Int) : List (List D) := []
def f73.C : Contract := FnC f73.args f73.blks (fun a => rune_pre a) f73.res f73.blks'
end Go.Abs

/- strings.IndexRune -/
namespace Go.Abs
open Go
set_option linter.unusedVariables false
def f73.kills (a : ByteArray × Int) : List Hint := [.tell Int (fun x => ⟨[.dead, .dead, .dead, .dead, .dead, .dead, .dead, .dead, .dead, .dead, .dead, .dead, .dead, .dead, .dead, .dead, .dead, .dead, .dead, .dead, .dead, .dead, .dead, .dead, .dead, .dead, .dead, .dead, .dead, .dead, .dead, .dead, .dead, .dead, .dead, .dead, .dead, .dead, .dead, .dead, .dead, .dead, .dead, .dead, .dead, .dead, .dead, .dead, .dead, .dead, .dead, .dead, .dead, .dead, .dead, .dead, .dead, .dead, .dead, .dead, .dead, .dead, .dead, .dead, .dead, .dead, .dead, .dead, .dead, .dead, .dead, .dead, .dead, .dead, .dead, .dead, .dead, .dead, .dead, .dead, .dead, .dead, .dead, .dead, .dead, .dead, .dead, .dead, .dead, .dead, .dead, .dead, .dead, .dead, .dead, .dead, .dead, .dead, .dead, .dead, .dead, .dead, .dead, .dead, .dead, .dead, .dead, .dead, .dead, .dead, .dead, .dead, .dead, .dead, .dead, .dead, .dead, .dead, .dead, .dead, .dead, .dead, .dead, .dead, .dead, .dead, .dead, .dead, .dead, .dead, .dead, .dead, .dead, .dead, .dead, .dead, .dead, .dead, .dead, .dead, .dead, .dead, .dead, .dead, .dead, .dead, .dead, .dead, .dead, .dead, .dead, .dead, .dead, .dead, .dead, .dead, .dead, .dead, .dead, .dead, .dead, .dead, .dead, .dead, .dead, .dead, .dead, .dead, .dead, .dead, .dead, .dead, .dead, .dead, .dead, .ptr 20 0, .dead, .dead, .dead, .dead, .dead, .dead, .dead, .dead, .dead, .dead, .dead], [(20, false, [.dead, .str a.1, .int .i64 x])], []⟩),
  .unroll 1 [1, 2, 3, 4, 5, 6, 10, 11, 12, 13, 14, 15, 16, 17, 18, 19, 20, 21, 22, 23, 24, 25, 26, 27, 28, 29, 30, 31, 32, 33, 34, 35, 36, 37, 38, 39, 40, 41, 42, 43, 44, 45, 46, 47, 48, 49, 50, 51, 52, 53, 54, 55, 56, 57, 58, 59, 60, 61, 62, 63, 64, 65, 66, 67, 68, 69, 70, 71, 72, 73, 74, 75, 76, 77, 78, 79, 80, 81, 82, 83, 84, 85, 86, 87, 88, 89, 90, 91, 92, 93, 94, 95, 96, 97, 98, 99, 100, 101, 102, 103, 104, 105, 106, 107, 108, 109, 110, 111, 112, 113, 114, 115, 116, 117, 118, 119, 120, 121, 122, 123, 124, 125, 126, 127, 128, 129, 130, 131, 132, 133, 134, 135, 136, 137, 138, 139, 140, 141, 142, 143, 144, 145, 146, 147, 148, 149, 150, 151, 152, 153, 154, 155, 156, 157, 158, 159, 160, 161, 162, 163, 164, 165, 166, 167, 168, 169, 170, 171, 172, 173, 174, 175, 176, 177, 178, 179, 180, 181, 182, 183, 184, 185, 186] [] [],
  .unroll 0 [] [] [],
  .unroll 0 [] [] [],
  .unroll 0 [] [] []]
def f73.cuts (a : ByteArray × Int) : List (Nat × Σ β : Type, β → Tm) := [(21, ⟨Unit, fun x => ⟨[], [], []⟩⟩)]
def f73.af (a : ByteArray × Int) : AF := AF.mk (.seq (.region [⟨(some 4), 0, .move, [.c (.int .i64 (0))], none⟩])
 (.block 0 (.seq (.region [⟨(some 161), 1, .move, [.t 1], none⟩,
  ⟨(some 162), 2, (.bin .leq), [.c (.int .i32 (0)), .t 161], none⟩,
  ⟨(some 163), 3, .move, [.t 162], none⟩,
  ⟨(some 164), 4, .move, [.t 1], (some (163, true))⟩,
  ⟨(some 165), 5, (.bin .lss), [.t 164, .c (.int .i32 (128))], (some (163, true))⟩,
  ⟨(some 166), 6, .pick, [.t 163, .t 165, .c (.bool false)], none⟩,
  ⟨(some 160), 7, .move, [.t 166], none⟩])
 (.cond (.t 160) (.seq (.region [⟨(some 167), 8, .move, [.t 0], none⟩,
  ⟨(some 168), 9, .move, [.t 1], none⟩,
  ⟨(some 169), 10, (.conv (.int .u8)), [.t 168], none⟩,
  ⟨(some 170), 11, (.call false 74), [.t 167, .t 169], none⟩,
  ⟨(some 4), 15, .move, [.t 170], none⟩])
 (.ret)) (.seq (.region [⟨(some 172), 16, .move, [.t 1], none⟩,
  ⟨(some 173), 17, (.bin .eql), [.t 172, .c (.int .i32 (65533))], none⟩,
  ⟨(some 171), 18, .move, [.t 173], none⟩])
 (.cond (.t 171) (.seq (.seq (.region [⟨(some 174), 19, .move, [.t 0], none⟩,
  ⟨(some 175), 20, .iterStr, [.t 174], none⟩])
 (.block 9 (.loopT Int (fun x => ⟨[.dead, .dead, .dead, .dead, .dead, .dead, .dead, .dead, .dead, .dead, .dead, .dead, .dead, .dead, .dead, .dead, .dead, .dead, .dead, .dead, .dead, .dead, .dead, .dead, .dead, .dead, .dead, .dead, .dead, .dead, .dead, .dead, .dead, .dead, .dead, .dead, .dead, .dead, .dead, .dead, .dead, .dead, .dead, .dead, .dead, .dead, .dead, .dead, .dead, .dead, .dead, .dead, .dead, .dead, .dead, .dead, .dead, .dead, .dead, .dead, .dead, .dead, .dead, .dead, .dead, .dead, .dead, .dead, .dead, .dead, .dead, .dead, .dead, .dead, .dead, .dead, .dead, .dead, .dead, .dead, .dead, .dead, .dead, .dead, .dead, .dead, .dead, .dead, .dead, .dead, .dead, .dead, .dead, .dead, .dead, .dead, .dead, .dead, .dead, .dead, .dead, .dead, .dead, .dead, .dead, .dead, .dead, .dead, .dead, .dead, .dead, .dead, .dead, .dead, .dead, .dead, .dead, .dead, .dead, .dead, .dead, .dead, .dead, .dead, .dead, .dead, .dead, .dead, .dead, .dead, .dead, .dead, .dead, .dead, .dead, .dead, .dead, .dead, .dead, .dead, .dead, .dead, .dead, .dead, .dead, .dead, .dead, .dead, .dead, .dead, .dead, .dead, .dead, .dead, .dead, .dead, .dead, .dead, .dead, .dead, .dead, .dead, .dead, .dead, .dead, .dead, .dead, .dead, .dead, .dead, .dead, .dead, .dead, .dead, .dead, .ptr 20 0, .dead, .dead, .dead, .dead, .dead, .dead, .dead, .dead, .dead, .dead, .dead], [(20, false, [.dead, .str a.1, .int .i64 x])], []⟩) 21 31 (.seq (.region [⟨(some 176), 21, .nextStr, [.t 175], none⟩,
  ⟨(some 177), 22, (.extract 0), [.t 176], none⟩])
 (.seq (.cond (.t 177) (.skip) (.exit 9))
 (.block 10 (.seq (.region [⟨(some 178), 23, (.extract 1), [.t 176], none⟩,
  ⟨(some 179), 24, (.extract 2), [.t 176], none⟩,
  ⟨(some 5), 25, .move, [.t 178], none⟩,
  ⟨(some 6), 26, .move, [.t 179], none⟩])
 (.seq (.region [⟨(some 180), 27, .move, [.t 6], none⟩,
  ⟨(some 181), 28, (.bin .eql), [.t 180, .c (.int .i32 (65533))], none⟩])
 (.cond (.t 181) (.seq (.region [⟨(some 182), 29, .move, [.t 5], none⟩,
  ⟨(some 4), 30, .move, [.t 182], none⟩])
 (.ret)) (.skip))))))))))
 (.seq (.region [⟨(some 4), 31, .move, [.c (.int .i64 (-1))], none⟩])
 (.ret))) (.seq (.region [⟨(some 184), 32, .move, [.t 1], none⟩,
  ⟨(some 185), 33, (.call false 75), [.t 184], none⟩,
  ⟨(some 186), 37, (.un .not), [.t 185], none⟩,
  ⟨(some 183), 38, .move, [.t 186], none⟩])
 (.cond (.t 183) (.seq (.region [⟨(some 4), 39, .move, [.c (.int .i64 (-1))], none⟩])
 (.ret)) (.seq (.region [⟨(some 17), 40, .move, [.t 1], none⟩,
  ⟨(some 18), 41, (.conv .r2s), [.t 17], none⟩,
  ⟨(some 7), 42, .move, [.t 18], none⟩])
 (.seq (.region [⟨(some 19), 43, .move, [.t 7], none⟩,
  ⟨(some 20), 44, (.len true), [.t 19], none⟩,
  ⟨(some 21), 45, (.bin .sub), [.t 20, .c (.int .i64 (1))], none⟩,
  ⟨(some 8), 46, .move, [.t 21], none⟩])
 (.seq (.region [⟨(some 22), 47, .move, [.t 8], none⟩,
  ⟨(some 9), 48, .move, [.t 22], none⟩])
 (.seq (.region [⟨(some 10), 49, .move, [.c (.int .i64 (0))], none⟩])
 (.seq (.block 1 (.loop 1 [1, 2, 3, 4, 5, 6, 10, 11, 12, 13, 14, 15, 16, 17, 18, 19, 20, 21, 22, 23, 24, 25, 26, 27, 28, 29, 30, 31, 32, 33, 34, 35, 36, 37, 38, 39, 40, 41, 42, 43, 44, 45, 46, 47, 48, 49, 50, 51, 52, 53, 54, 55, 56, 57, 58, 59, 60, 61, 62, 63, 64, 65, 66, 67, 68, 69, 70, 71, 72, 73, 74, 75, 76, 77, 78, 79, 80, 81, 82, 83, 84, 85, 86, 87, 88, 89, 90, 91, 92, 93, 94, 95, 96, 97, 98, 99, 100, 101, 102, 103, 104, 105, 106, 107, 108, 109, 110, 111, 112, 113, 114, 115, 116, 117, 118, 119, 120, 121, 122, 123, 124, 125, 126, 127, 128, 129, 130, 131, 132, 133, 134, 135, 136, 137, 138, 139, 140, 141, 142, 143, 144, 145, 146, 147, 148, 149, 150, 151, 152, 153, 154, 155, 156, 157, 158, 159, 160, 161, 162, 163, 164, 165, 166, 167, 168, 169, 170, 171, 172, 173, 174, 175, 176, 177, 178, 179, 180, 181, 182, 183, 184, 185, 186] [] [] 50 140 (.seq (.seq (.region [⟨(some 23), 50, .move, [.t 9], none⟩,
  ⟨(some 24), 51, .move, [.t 0], none⟩,
  ⟨(some 25), 52, (.len true), [.t 24], none⟩,
  ⟨(some 26), 53, (.bin .lss), [.t 23, .t 25], none⟩])
 (.cond (.t 26) (.skip) (.exit 1)))
 (.block 2 (.seq (.seq (.region [⟨(some 27), 54, .move, [.t 0], none⟩,
  ⟨(some 28), 55, .move, [.t 9], none⟩,
  ⟨(some 29), 56, .indexStr, [.t 27, .t 28], none⟩,
  ⟨(some 30), 57, .move, [.t 7], none⟩,
  ⟨(some 31), 58, .move, [.t 8], none⟩,
  ⟨(some 32), 59, .indexStr, [.t 30, .t 31], none⟩,
  ⟨(some 33), 60, (.bin .neq), [.t 29, .t 32], none⟩])
 (.cond (.t 33) (.seq (.region [⟨(some 34), 61, .move, [.t 0], none⟩,
  ⟨(some 35), 62, .move, [.t 9], none⟩,
  ⟨(some 36), 63, (.bin .add), [.t 35, .c (.int .i64 (1))], none⟩,
  ⟨(some 37), 64, (.sliceStr true false), [.t 34, .t 36], none⟩,
  ⟨(some 38), 65, .move, [.t 7], none⟩,
  ⟨(some 39), 66, .move, [.t 8], none⟩,
  ⟨(some 40), 67, .indexStr, [.t 38, .t 39], none⟩,
  ⟨(some 41), 68, (.call false 74), [.t 37, .t 40], none⟩,
  ⟨(some 11), 72, .move, [.t 41], none⟩])
 (.seq (.seq (.region [⟨(some 42), 73, .move, [.t 11], none⟩,
  ⟨(some 43), 74, (.bin .lss), [.t 42, .c (.int .i64 (0))], none⟩])
 (.cond (.t 43) (.seq (.region [⟨(some 4), 75, .move, [.c (.int .i64 (-1))], none⟩])
 (.ret)) (.skip)))
 (.region [⟨(some 44), 76, .move, [.t 9], none⟩,
  ⟨(some 45), 77, .move, [.t 11], none⟩,
  ⟨(some 46), 78, (.bin .add), [.t 45, .c (.int .i64 (1))], none⟩,
  ⟨(some 47), 79, (.bin .add), [.t 44, .t 46], none⟩,
  ⟨(some 9), 80, .move, [.t 47], none⟩]))) (.skip)))
 (.seq (.cut Unit (fun x => ⟨[], [], []⟩)) (.seq (.seq (.region [⟨(some 12), 81, .move, [.c (.int .i64 (1))], none⟩])
 (.block 3 (.loop 0 [] [] [] 82 100 (.seq (.seq (.region [⟨(some 48), 82, .move, [.t 12], none⟩,
  ⟨(some 49), 83, .move, [.t 7], none⟩,
  ⟨(some 50), 84, (.len true), [.t 49], none⟩,
  ⟨(some 51), 85, (.bin .lss), [.t 48, .t 50], none⟩])
 (.cond (.t 51) (.skip) (.exit 3)))
 (.seq (.block 4 (.seq (.region [⟨(some 54), 86, .move, [.t 0], none⟩,
  ⟨(some 55), 87, .move, [.t 9], none⟩,
  ⟨(some 56), 88, .move, [.t 12], none⟩,
  ⟨(some 57), 89, (.bin .sub), [.t 55, .t 56], none⟩,
  ⟨(some 58), 90, .indexStr, [.t 54, .t 57], none⟩,
  ⟨(some 59), 91, .move, [.t 7], none⟩,
  ⟨(some 60), 92, .move, [.t 8], none⟩,
  ⟨(some 61), 93, .move, [.t 12], none⟩,
  ⟨(some 62), 94, (.bin .sub), [.t 60, .t 61], none⟩,
  ⟨(some 63), 95, .indexStr, [.t 59, .t 62], none⟩,
  ⟨(some 64), 96, (.bin .neq), [.t 58, .t 63], none⟩])
 (.cond (.t 64) (.stuck) (.skip))))
 (.region [⟨(some 52), 97, .move, [.t 12], none⟩,
  ⟨(some 53), 98, (.bin .add), [.t 52, .c (.int .i64 (1))], none⟩,
  ⟨(some 12), 99, .move, [.t 53], none⟩]))))))
 (.seq (.seq (.region [⟨(some 65), 100, .move, [.t 9], none⟩,
  ⟨(some 66), 101, .move, [.t 8], none⟩,
  ⟨(some 67), 102, (.bin .sub), [.t 65, .t 66], none⟩,
  ⟨(some 4), 103, .move, [.t 67], none⟩])
 (.ret))
 (.seq (.skip)
 (.seq (.region [⟨(some 68), 104, .move, [.t 10], none⟩,
  ⟨(some 69), 105, (.bin .add), [.t 68, .c (.int .i64 (1))], none⟩,
  ⟨(some 10), 106, .move, [.t 69], none⟩])
 (.seq (.region [⟨(some 70), 107, .move, [.t 9], none⟩,
  ⟨(some 71), 108, (.bin .add), [.t 70, .c (.int .i64 (1))], none⟩,
  ⟨(some 9), 109, .move, [.t 71], none⟩])
 (.seq (.region [⟨(some 72), 110, .move, [.c (.bool true)], none⟩,
  ⟨(some 73), 111, .move, [.t 10], (some (72, true))⟩,
  ⟨(some 74), 112, .move, [.t 9], (some (72, true))⟩,
  ⟨(some 75), 113, (.call false 76), [.t 74], (some (72, true))⟩,
  ⟨(some 76), 117, (.bin .gtr), [.t 73, .t 75], (some (72, true))⟩,
  ⟨(some 77), 118, .pick, [.t 72, .t 76, .c (.bool false)], none⟩,
  ⟨(some 78), 119, .move, [.t 77], none⟩,
  ⟨(some 79), 120, .move, [.t 9], (some (78, true))⟩,
  ⟨(some 80), 121, .move, [.t 0], (some (78, true))⟩,
  ⟨(some 81), 122, (.len true), [.t 80], (some (78, true))⟩,
  ⟨(some 82), 123, (.bin .lss), [.t 79, .t 81], (some (78, true))⟩,
  ⟨(some 83), 124, .pick, [.t 78, .t 82, .c (.bool false)], none⟩,
  ⟨(some 84), 125, .move, [.t 83], none⟩,
  ⟨(some 85), 126, .move, [.c (.bool false)], (some (84, false))⟩,
  ⟨(some 86), 127, .move, [.t 10], (some (85, true))⟩,
  ⟨(some 87), 128, .move, [.t 9], (some (85, true))⟩,
  ⟨(some 88), 129, (.bin .shr), [.t 87, .c (.int .u64 (4))], (some (85, true))⟩,
  ⟨(some 89), 130, (.bin .add), [.c (.int .i64 (4)), .t 88], (some (85, true))⟩,
  ⟨(some 90), 131, (.bin .geq), [.t 86, .t 89], (some (85, true))⟩,
  ⟨(some 91), 132, .pick, [.t 85, .t 90, .c (.bool false)], (some (84, false))⟩,
  ⟨(some 92), 133, .move, [.t 91], (some (84, false))⟩,
  ⟨(some 93), 134, .move, [.t 9], (some (92, true))⟩,
  ⟨(some 94), 135, .move, [.t 0], (some (92, true))⟩,
  ⟨(some 95), 136, (.len true), [.t 94], (some (92, true))⟩,
  ⟨(some 96), 137, (.bin .lss), [.t 93, .t 95], (some (92, true))⟩,
  ⟨(some 97), 138, .pick, [.t 92, .t 96, .c (.bool false)], (some (84, false))⟩,
  ⟨(some 98), 139, .pick, [.t 84, .c (.bool true), .t 97], none⟩])
 (.cond (.t 98) (.stuck) (.skip))))))))))))))
 (.seq (.seq (.region [⟨(some 4), 140, .move, [.c (.int .i64 (-1))], none⟩])
 (.ret))
 (.seq (.skip)
 (.seq (.cond (.c (.bool true)) (.seq (.region [⟨(some 99), 141, .move, [.t 0], none⟩,
  ⟨(some 100), 142, .move, [.t 9], none⟩,
  ⟨(some 101), 143, .move, [.t 8], none⟩,
  ⟨(some 102), 144, (.bin .sub), [.t 100, .t 101], none⟩,
  ⟨(some 103), 145, (.sliceStr true false), [.t 99, .t 102], none⟩,
  ⟨(some 104), 146, .move, [.t 1], none⟩,
  ⟨(some 105), 147, (.conv .r2s), [.t 104], none⟩,
  ⟨(some 106), 148, (.call false 77), [.t 103, .t 105], none⟩,
  ⟨(some 13), 152, .move, [.t 106], none⟩])
 (.seq (.region [⟨(some 107), 153, .move, [.t 13], none⟩,
  ⟨(some 108), 154, (.bin .geq), [.t 107, .c (.int .i64 (0))], none⟩])
 (.cond (.t 108) (.seq (.region [⟨(some 109), 155, .move, [.t 9], none⟩,
  ⟨(some 110), 156, .move, [.t 13], none⟩,
  ⟨(some 111), 157, (.bin .add), [.t 109, .t 110], none⟩,
  ⟨(some 112), 158, .move, [.t 8], none⟩,
  ⟨(some 113), 159, (.bin .sub), [.t 111, .t 112], none⟩,
  ⟨(some 4), 160, .move, [.t 113], none⟩])
 (.ret)) (.skip)))) (.seq (.region [⟨(some 114), 161, .move, [.t 7], none⟩,
  ⟨(some 115), 162, .move, [.t 8], none⟩,
  ⟨(some 116), 163, .indexStr, [.t 114, .t 115], none⟩,
  ⟨(some 14), 164, .move, [.t 116], none⟩])
 (.seq (.region [⟨(some 117), 165, .move, [.t 7], none⟩,
  ⟨(some 118), 166, .move, [.t 8], none⟩,
  ⟨(some 119), 167, (.bin .sub), [.t 118, .c (.int .i64 (1))], none⟩,
  ⟨(some 120), 168, .indexStr, [.t 117, .t 119], none⟩,
  ⟨(some 15), 169, .move, [.t 120], none⟩])
 (.seq (.skip)
 (.block 5 (.loop 0 [] [] [] 170 213 (.seq (.seq (.region [⟨(some 121), 170, .move, [.t 9], none⟩,
  ⟨(some 122), 171, .move, [.t 0], none⟩,
  ⟨(some 123), 172, (.len true), [.t 122], none⟩,
  ⟨(some 124), 173, (.bin .lss), [.t 121, .t 123], none⟩])
 (.cond (.t 124) (.skip) (.exit 5)))
 (.seq (.block 6 (.seq (.region [⟨(some 127), 174, .move, [.t 0], none⟩,
  ⟨(some 128), 175, .move, [.t 9], none⟩,
  ⟨(some 129), 176, .indexStr, [.t 127, .t 128], none⟩,
  ⟨(some 130), 177, .move, [.t 14], none⟩,
  ⟨(some 131), 178, (.bin .eql), [.t 129, .t 130], none⟩,
  ⟨(some 132), 179, .move, [.t 131], none⟩,
  ⟨(some 133), 180, .move, [.t 0], (some (132, true))⟩,
  ⟨(some 134), 181, .move, [.t 9], (some (132, true))⟩,
  ⟨(some 135), 182, (.bin .sub), [.t 134, .c (.int .i64 (1))], (some (132, true))⟩,
  ⟨(some 136), 183, .indexStr, [.t 133, .t 135], (some (132, true))⟩,
  ⟨(some 137), 184, .move, [.t 15], (some (132, true))⟩,
  ⟨(some 138), 185, (.bin .eql), [.t 136, .t 137], (some (132, true))⟩,
  ⟨(some 139), 186, .pick, [.t 132, .t 138, .c (.bool false)], none⟩])
 (.cond (.t 139) (.seq (.seq (.region [⟨(some 16), 187, .move, [.c (.int .i64 (2))], none⟩])
 (.block 7 (.loop 0 [] [] [] 188 206 (.seq (.seq (.region [⟨(some 140), 188, .move, [.t 16], none⟩,
  ⟨(some 141), 189, .move, [.t 7], none⟩,
  ⟨(some 142), 190, (.len true), [.t 141], none⟩,
  ⟨(some 143), 191, (.bin .lss), [.t 140, .t 142], none⟩])
 (.cond (.t 143) (.skip) (.exit 7)))
 (.seq (.block 8 (.seq (.region [⟨(some 146), 192, .move, [.t 0], none⟩,
  ⟨(some 147), 193, .move, [.t 9], none⟩,
  ⟨(some 148), 194, .move, [.t 16], none⟩,
  ⟨(some 149), 195, (.bin .sub), [.t 147, .t 148], none⟩,
  ⟨(some 150), 196, .indexStr, [.t 146, .t 149], none⟩,
  ⟨(some 151), 197, .move, [.t 7], none⟩,
  ⟨(some 152), 198, .move, [.t 8], none⟩,
  ⟨(some 153), 199, .move, [.t 16], none⟩,
  ⟨(some 154), 200, (.bin .sub), [.t 152, .t 153], none⟩,
  ⟨(some 155), 201, .indexStr, [.t 151, .t 154], none⟩,
  ⟨(some 156), 202, (.bin .neq), [.t 150, .t 155], none⟩])
 (.cond (.t 156) (.exit 6) (.skip))))
 (.region [⟨(some 144), 203, .move, [.t 16], none⟩,
  ⟨(some 145), 204, (.bin .add), [.t 144, .c (.int .i64 (1))], none⟩,
  ⟨(some 16), 205, .move, [.t 145], none⟩]))))))
 (.seq (.region [⟨(some 157), 206, .move, [.t 9], none⟩,
  ⟨(some 158), 207, .move, [.t 8], none⟩,
  ⟨(some 159), 208, (.bin .sub), [.t 157, .t 158], none⟩,
  ⟨(some 4), 209, .move, [.t 159], none⟩])
 (.ret))) (.skip))))
 (.region [⟨(some 125), 210, .move, [.t 9], none⟩,
  ⟨(some 126), 211, (.bin .add), [.t 125, .c (.int .i64 (1))], none⟩,
  ⟨(some 9), 212, .move, [.t 126], none⟩])))))))))
 (.seq (.region [⟨(some 4), 213, .move, [.c (.int .i64 (-1))], none⟩])
 (.ret))))))))))))))))))
  [.tmp 4] 0 185
def f73.env : Env := [(74, f74.C), (75, f75.C)]
def f73.tree (a : ByteArray × Int) : Prop := Br (decide ((0 : Int) ≤ a.2)) (Br (decide (a.2 < (128 : Int))) (∃ c5 : ByteArray × Int, (a.1 = c5.1) ∧ ((IntKind.u8.wrap a.2) = c5.2) ∧ True ∧ ((ixB c5) = (ixRune a)) ∧ True) (Br (a.2 == (65533 : Int)) (∃ (I11 : Int → Prop) (μ12 : Int → Nat), (∃ x10 : Int, (a.1 = a.1) ∧ ((0 : Int) = x10) ∧ I11 x10) ∧ ∀ y13 : Int, I11 y13 → (Br (decide ((0 : Int) ≤ y13) && decide (y13 < (a.1.size : Int))) (Br (((Utf8.decode a.1 (Int.toNat y13)).1 : Int) == (65533 : Int)) ((y13 = (ixRune a)) ∧ True) (∃ x19 : Int, (a.1 = a.1) ∧ ((y13 + ((Utf8.decode a.1 (Int.toNat y13)).2 : Int)) = x19) ∧ I11 x19 ∧ μ12 x19 < μ12 y13)) (((-1 : Int) = (ixRune a)) ∧ True))) (∃ c29 : Int, (a.2 = c29) ∧ True ∧ Br (!((fun r : Int => decide (0 ≤ r ∧ r < 55296 ∨ 57343 < r ∧ r ≤ 1114111)) c29)) (((-1 : Int) = (ixRune a)) ∧ True) (Let (IntKind.i64.wrap (((Utf8.encode a.2).size : Int) - (1 : Int))) (fun v33 : Int => Br (decide (v33 < (a.1.size : Int))) (Br (decide ((0 : Int) ≤ v33) && decide (v33 < (a.1.size : Int))) (Br (decide ((0 : Int) ≤ v33) && decide (v33 < ((Utf8.encode a.2).size : Int))) (Br ((bAt a.1 v33) != (bAt (Utf8.encode a.2) v33)) (Let (IntKind.i64.wrap (v33 + (1 : Int))) (fun v40 : Int => Br (decide ((0 : Int) ≤ v40) && decide (v40 ≤ (a.1.size : Int)) && decide ((a.1.size : Int) ≤ (a.1.size : Int))) (Br (decide ((0 : Int) ≤ v33) && decide (v33 < ((Utf8.encode a.2).size : Int))) (∃ c43 : ByteArray × Int, ((subB a.1 v40 (a.1.size : Int)) = c43.1) ∧ ((bAt (Utf8.encode a.2) v33) = c43.2) ∧ True ∧ Br (decide ((ixB c43) < (0 : Int))) (((-1 : Int) = (ixRune a)) ∧ True) (Let (IntKind.i64.wrap ((ixB c43) + (1 : Int))) (fun v47 : Int => Let (IntKind.i64.wrap (v33 + v47)) (fun v48 : Int => ∃ x : Unit, False)))) False) False)) (∃ x : Unit, False)) False) False) (((-1 : Int) = (ixRune a)) ∧ True)))))) (Br (a.2 == (65533 : Int)) (∃ (I83 : Int → Prop) (μ84 : Int → Nat), (∃ x82 : Int, (a.1 = a.1) ∧ ((0 : Int) = x82) ∧ I83 x82) ∧ ∀ y85 : Int, I83 y85 → (Br (decide ((0 : Int) ≤ y85) && decide (y85 < (a.1.size : Int))) (Br (((Utf8.decode a.1 (Int.toNat y85)).1 : Int) == (65533 : Int)) ((y85 = (ixRune a)) ∧ True) (∃ x91 : Int, (a.1 = a.1) ∧ ((y85 + ((Utf8.decode a.1 (Int.toNat y85)).2 : Int)) = x91) ∧ I83 x91 ∧ μ84 x91 < μ84 y85)) (((-1 : Int) = (ixRune a)) ∧ True))) (∃ c101 : Int, (a.2 = c101) ∧ True ∧ Br (!((fun r : Int => decide (0 ≤ r ∧ r < 55296 ∨ 57343 < r ∧ r ≤ 1114111)) c101)) (((-1 : Int) = (ixRune a)) ∧ True) (Let (IntKind.i64.wrap (((Utf8.encode a.2).size : Int) - (1 : Int))) (fun v105 : Int => Br (decide (v105 < (a.1.size : Int))) (Br (decide ((0 : Int) ≤ v105) && decide (v105 < (a.1.size : Int))) (Br (decide ((0 : Int) ≤ v105) && decide (v105 < ((Utf8.encode a.2).size : Int))) (Br ((bAt a.1 v105) != (bAt (Utf8.encode a.2) v105)) (Let (IntKind.i64.wrap (v105 + (1 : Int))) (fun v112 : Int => Br (decide ((0 : Int) ≤ v112) && decide (v112 ≤ (a.1.size : Int)) && decide ((a.1.size : Int) ≤ (a.1.size : Int))) (Br (decide ((0 : Int) ≤ v105) && decide (v105 < ((Utf8.encode a.2).size : Int))) (∃ c115 : ByteArray × Int, ((subB a.1 v112 (a.1.size : Int)) = c115.1) ∧ ((bAt (Utf8.encode a.2) v105) = c115.2) ∧ True ∧ Br (decide ((ixB c115) < (0 : Int))) (((-1 : Int) = (ixRune a)) ∧ True) (Let (IntKind.i64.wrap ((ixB c115) + (1 : Int))) (fun v119 : Int => Let (IntKind.i64.wrap (v105 + v119)) (fun v120 : Int => ∃ x : Unit, False)))) False) False)) (∃ x : Unit, False)) False) False) (((-1 : Int) = (ixRune a)) ∧ True)))))
def f73.vc (a : ByteArray × Int) : Prop := (((0 : Int) ≤ a.2 → ((a.2 < (128 : Int) → ((ixB (a.1, IntKind.u8.wrap a.2)) = ixRune a)) ∧ (¬ (a.2 < (128 : Int)) → ((a.2 = (65533 : Int) → (∃ (I11 : Int → Prop) (μ12 : Int → Nat), I11 (0 : Int) ∧ ∀ y13 : Int, I11 y13 → (((0 : Int) ≤ y13 ∧ y13 < (a.1.size : Int) → ((((Utf8.decode a.1 (Int.toNat y13)).1 : Int) = (65533 : Int) → (y13 = ixRune a)) ∧ (¬ (((Utf8.decode a.1 (Int.toNat y13)).1 : Int) = (65533 : Int)) → (I11 (y13 + ((Utf8.decode a.1 (Int.toNat y13)).2 : Int)) ∧ μ12 (y13 + ((Utf8.decode a.1 (Int.toNat y13)).2 : Int)) < μ12 y13)))) ∧ (¬ ((0 : Int) ≤ y13 ∧ y13 < (a.1.size : Int)) → ((-1 : Int) = ixRune a))))) ∧ (¬ (a.2 = (65533 : Int)) → ((¬ (((fun r : Int => decide (0 ≤ r ∧ r < 55296 ∨ 57343 < r ∧ r ≤ 1114111)) (a.2)) = true) → ((-1 : Int) = ixRune a)) ∧ (¬ (¬ (((fun r : Int => decide (0 ≤ r ∧ r < 55296 ∨ 57343 < r ∧ r ≤ 1114111)) (a.2)) = true)) → (-9223372036854775808 ≤ (((Utf8.encode a.2).size : Int) - (1 : Int)) ∧ (((Utf8.encode a.2).size : Int) - (1 : Int)) ≤ 9223372036854775807 ∧ (((((Utf8.encode a.2).size : Int) - (1 : Int)) < (a.1.size : Int) → ((0 : Int) ≤ (((Utf8.encode a.2).size : Int) - (1 : Int)) ∧ (((Utf8.encode a.2).size : Int) - (1 : Int)) < (a.1.size : Int) ∧ ((0 : Int) ≤ (((Utf8.encode a.2).size : Int) - (1 : Int)) ∧ (((Utf8.encode a.2).size : Int) - (1 : Int)) < ((Utf8.encode a.2).size : Int) ∧ ((¬ (bAt a.1 (((Utf8.encode a.2).size : Int) - (1 : Int))) = (bAt (Utf8.encode a.2) (((Utf8.encode a.2).size : Int) - (1 : Int))) → (-9223372036854775808 ≤ ((((Utf8.encode a.2).size : Int) - (1 : Int)) + (1 : Int)) ∧ ((((Utf8.encode a.2).size : Int) - (1 : Int)) + (1 : Int)) ≤ 9223372036854775807 ∧ ((0 : Int) ≤ ((((Utf8.encode a.2).size : Int) - (1 : Int)) + (1 : Int)) ∧ ((((Utf8.encode a.2).size : Int) - (1 : Int)) + (1 : Int)) ≤ (a.1.size : Int) ∧ ((0 : Int) ≤ (((Utf8.encode a.2).size : Int) - (1 : Int)) ∧ (((Utf8.encode a.2).size : Int) - (1 : Int)) < ((Utf8.encode a.2).size : Int) ∧ (((ixB (subB a.1 ((((Utf8.encode a.2).size : Int) - (1 : Int)) + (1 : Int)) (a.1.size : Int), bAt (Utf8.encode a.2) (((Utf8.encode a.2).size : Int) - (1 : Int)))) < (0 : Int) → ((-1 : Int) = ixRune a)) ∧ (¬ ((ixB (subB a.1 ((((Utf8.encode a.2).size : Int) - (1 : Int)) + (1 : Int)) (a.1.size : Int), bAt (Utf8.encode a.2) (((Utf8.encode a.2).size : Int) - (1 : Int)))) < (0 : Int)) → (-9223372036854775808 ≤ ((ixB (subB a.1 ((((Utf8.encode a.2).size : Int) - (1 : Int)) + (1 : Int)) (a.1.size : Int), bAt (Utf8.encode a.2) (((Utf8.encode a.2).size : Int) - (1 : Int)))) + (1 : Int)) ∧ ((ixB (subB a.1 ((((Utf8.encode a.2).size : Int) - (1 : Int)) + (1 : Int)) (a.1.size : Int), bAt (Utf8.encode a.2) (((Utf8.encode a.2).size : Int) - (1 : Int)))) + (1 : Int)) ≤ 9223372036854775807 ∧ (-9223372036854775808 ≤ ((((Utf8.encode a.2).size : Int) - (1 : Int)) + ((ixB (subB a.1 ((((Utf8.encode a.2).size : Int) - (1 : Int)) + (1 : Int)) (a.1.size : Int), bAt (Utf8.encode a.2) (((Utf8.encode a.2).size : Int) - (1 : Int)))) + (1 : Int))) ∧ ((((Utf8.encode a.2).size : Int) - (1 : Int)) + ((ixB (subB a.1 ((((Utf8.encode a.2).size : Int) - (1 : Int)) + (1 : Int)) (a.1.size : Int), bAt (Utf8.encode a.2) (((Utf8.encode a.2).size : Int) - (1 : Int)))) + (1 : Int))) ≤ 9223372036854775807 ∧ False)))))))) ∧ (¬ (¬ (bAt a.1 (((Utf8.encode a.2).size : Int) - (1 : Int))) = (bAt (Utf8.encode a.2) (((Utf8.encode a.2).size : Int) - (1 : Int)))) → False))))) ∧ (¬ ((((Utf8.encode a.2).size : Int) - (1 : Int)) < (a.1.size : Int)) → ((-1 : Int) = ixRune a))))))))))) ∧ (¬ ((0 : Int) ≤ a.2) → ((a.2 = (65533 : Int) → (∃ (I83 : Int → Prop) (μ84 : Int → Nat), I83 (0 : Int) ∧ ∀ y85 : Int, I83 y85 → (((0 : Int) ≤ y85 ∧ y85 < (a.1.size : Int) → ((((Utf8.decode a.1 (Int.toNat y85)).1 : Int) = (65533 : Int) → (y85 = ixRune a)) ∧ (¬ (((Utf8.decode a.1 (Int.toNat y85)).1 : Int) = (65533 : Int)) → (I83 (y85 + ((Utf8.decode a.1 (Int.toNat y85)).2 : Int)) ∧ μ84 (y85 + ((Utf8.decode a.1 (Int.toNat y85)).2 : Int)) < μ84 y85)))) ∧ (¬ ((0 : Int) ≤ y85 ∧ y85 < (a.1.size : Int)) → ((-1 : Int) = ixRune a))))) ∧ (¬ (a.2 = (65533 : Int)) → ((¬ (((fun r : Int => decide (0 ≤ r ∧ r < 55296 ∨ 57343 < r ∧ r ≤ 1114111)) (a.2)) = true) → ((-1 : Int) = ixRune a)) ∧ (¬ (¬ (((fun r : Int => decide (0 ≤ r ∧ r < 55296 ∨ 57343 < r ∧ r ≤ 1114111)) (a.2)) = true)) → (-9223372036854775808 ≤ (((Utf8.encode a.2).size : Int) - (1 : Int)) ∧ (((Utf8.encode a.2).size : Int) - (1 : Int)) ≤ 9223372036854775807 ∧ (((((Utf8.encode a.2).size : Int) - (1 : Int)) < (a.1.size : Int) → ((0 : Int) ≤ (((Utf8.encode a.2).size : Int) - (1 : Int)) ∧ (((Utf8.encode a.2).size : Int) - (1 : Int)) < (a.1.size : Int) ∧ ((0 : Int) ≤ (((Utf8.encode a.2).size : Int) - (1 : Int)) ∧ (((Utf8.encode a.2).size : Int) - (1 : Int)) < ((Utf8.encode a.2).size : Int) ∧ ((¬ (bAt a.1 (((Utf8.encode a.2).size : Int) - (1 : Int))) = (bAt (Utf8.encode a.2) (((Utf8.encode a.2).size : Int) - (1 : Int))) → (-9223372036854775808 ≤ ((((Utf8.encode a.2).size : Int) - (1 : Int)) + (1 : Int)) ∧ ((((Utf8.encode a.2).size : Int) - (1 : Int)) + (1 : Int)) ≤ 9223372036854775807 ∧ ((0 : Int) ≤ ((((Utf8.encode a.2).size : Int) - (1 : Int)) + (1 : Int)) ∧ ((((Utf8.encode a.2).size : Int) - (1 : Int)) + (1 : Int)) ≤ (a.1.size : Int) ∧ ((0 : Int) ≤ (((Utf8.encode a.2).size : Int) - (1 : Int)) ∧ (((Utf8.encode a.2).size : Int) - (1 : Int)) < ((Utf8.encode a.2).size : Int) ∧ (((ixB (subB a.1 ((((Utf8.encode a.2).size : Int) - (1 : Int)) + (1 : Int)) (a.1.size : Int), bAt (Utf8.encode a.2) (((Utf8.encode a.2).size : Int) - (1 : Int)))) < (0 : Int) → ((-1 : Int) = ixRune a)) ∧ (¬ ((ixB (subB a.1 ((((Utf8.encode a.2).size : Int) - (1 : Int)) + (1 : Int)) (a.1.size : Int), bAt (Utf8.encode a.2) (((Utf8.encode a.2).size : Int) - (1 : Int)))) < (0 : Int)) → (-9223372036854775808 ≤ ((ixB (subB a.1 ((((Utf8.encode a.2).size : Int) - (1 : Int)) + (1 : Int)) (a.1.size : Int), bAt (Utf8.encode a.2) (((Utf8.encode a.2).size : Int) - (1 : Int)))) + (1 : Int)) ∧ ((ixB (subB a.1 ((((Utf8.encode a.2).size : Int) - (1 : Int)) + (1 : Int)) (a.1.size : Int), bAt (Utf8.encode a.2) (((Utf8.encode a.2).size : Int) - (1 : Int)))) + (1 : Int)) ≤ 9223372036854775807 ∧ (-9223372036854775808 ≤ ((((Utf8.encode a.2).size : Int) - (1 : Int)) + ((ixB (subB a.1 ((((Utf8.encode a.2).size : Int) - (1 : Int)) + (1 : Int)) (a.1.size : Int), bAt (Utf8.encode a.2) (((Utf8.encode a.2).size : Int) - (1 : Int)))) + (1 : Int))) ∧ ((((Utf8.encode a.2).size : Int) - (1 : Int)) + ((ixB (subB a.1 ((((Utf8.encode a.2).size : Int) - (1 : Int)) + (1 : Int)) (a.1.size : Int), bAt (Utf8.encode a.2) (((Utf8.encode a.2).size : Int) - (1 : Int)))) + (1 : Int))) ≤ 9223372036854775807 ∧ False)))))))) ∧ (¬ (¬ (bAt a.1 (((Utf8.encode a.2).size : Int) - (1 : Int))) = (bAt (Utf8.encode a.2) (((Utf8.encode a.2).size : Int) - (1 : Int)))) → False))))) ∧ (¬ ((((Utf8.encode a.2).size : Int) - (1 : Int)) < (a.1.size : Int)) → ((-1 : Int) = ixRune a))))))))))
set_option maxRecDepth 100000 in
set_option maxHeartbeats 2000000 in
theorem f73.of (a : ByteArray × Int) (h : f73.vc a) : f73.tree a := br h Cnd.dec (fun h1 k150 => br k150 Cnd.dec (fun h3 k78 => ⟨(a.1, IntKind.u8.wrap a.2), ⟨rfl, ⟨rfl, ⟨trivial, ⟨k78, trivial⟩⟩⟩⟩⟩) (fun h4 k79 => br k79 Cnd.eq (fun h8 k76 => Exists.elim k76 (fun I11 h26_ => Exists.elim h26_ (fun μ12 h26 => ⟨I11, μ12, ⟨(0 : Int), ⟨rfl, ⟨rfl, h26.1⟩⟩⟩, fun y13 h28 => br (h26.2 y13 h28) Cnd.ix (fun h14 k24 => br k24 Cnd.eq (fun h16 k21 => ⟨k21, trivial⟩) (fun h17 k22 => ⟨y13 + ((Utf8.decode a.1 (Int.toNat y13)).2 : Int), ⟨rfl, ⟨rfl, k22⟩⟩⟩)) (fun h15 k25 => ⟨k25, trivial⟩)⟩))) (fun h9 k77 => ⟨a.2, ⟨rfl, ⟨trivial, br k77 (Cnd.not Cnd.b) (fun h30 k73 => ⟨k73, trivial⟩) (fun h31 k74 => wrapK.i64 k74 (fun h70 h71 k72 => br k72 Cnd.dec (fun h34 k68 => chk k68.2.2 Cnd.ix ⟨k68.1, k68.2.1⟩ (fun h36 k66 => chk k66.2.2 Cnd.ix ⟨k66.1, k66.2.1⟩ (fun h37 k65 => br k65 Cnd.ne (fun h38 k63 => wrapK.i64 k63 (fun h60 h61 k62 => chk k62.2.2 Cnd.ss ⟨k62.1, k62.2.1, (Int.le_refl _)⟩ (fun h41 k59 => chk k59.2.2 Cnd.ix ⟨k59.1, k59.2.1⟩ (fun h42 k58 => ⟨(subB a.1 ((((Utf8.encode a.2).size : Int) - (1 : Int)) + (1 : Int)) (a.1.size : Int), bAt (Utf8.encode a.2) (((Utf8.encode a.2).size : Int) - (1 : Int))), ⟨rfl, ⟨rfl, ⟨trivial, br k58 Cnd.dec (fun h44 k55 => ⟨k55, trivial⟩) (fun h45 k56 => wrapK.i64 k56 (fun h52 h53 k54 => wrapK.i64 k54 (fun h49 h50 k51 => False.elim (k51))))⟩⟩⟩⟩)))) (fun h39 k64 => False.elim (k64))))) (fun h35 k69 => ⟨k69, trivial⟩)))⟩⟩⟩))) (fun h2 k151 => br k151 Cnd.eq (fun h80 k148 => Exists.elim k148 (fun I83 h98_ => Exists.elim h98_ (fun μ84 h98 => ⟨I83, μ84, ⟨(0 : Int), ⟨rfl, ⟨rfl, h98.1⟩⟩⟩, fun y85 h100 => br (h98.2 y85 h100) Cnd.ix (fun h86 k96 => br k96 Cnd.eq (fun h88 k93 => ⟨k93, trivial⟩) (fun h89 k94 => ⟨y85 + ((Utf8.decode a.1 (Int.toNat y85)).2 : Int), ⟨rfl, ⟨rfl, k94⟩⟩⟩)) (fun h87 k97 => ⟨k97, trivial⟩)⟩))) (fun h81 k149 => ⟨a.2, ⟨rfl, ⟨trivial, br k149 (Cnd.not Cnd.b) (fun h102 k145 => ⟨k145, trivial⟩) (fun h103 k146 => wrapK.i64 k146 (fun h142 h143 k144 => br k144 Cnd.dec (fun h106 k140 => chk k140.2.2 Cnd.ix ⟨k140.1, k140.2.1⟩ (fun h108 k138 => chk k138.2.2 Cnd.ix ⟨k138.1, k138.2.1⟩ (fun h109 k137 => br k137 Cnd.ne (fun h110 k135 => wrapK.i64 k135 (fun h132 h133 k134 => chk k134.2.2 Cnd.ss ⟨k134.1, k134.2.1, (Int.le_refl _)⟩ (fun h113 k131 => chk k131.2.2 Cnd.ix ⟨k131.1, k131.2.1⟩ (fun h114 k130 => ⟨(subB a.1 ((((Utf8.encode a.2).size : Int) - (1 : Int)) + (1 : Int)) (a.1.size : Int), bAt (Utf8.encode a.2) (((Utf8.encode a.2).size : Int) - (1 : Int))), ⟨rfl, ⟨rfl, ⟨trivial, br k130 Cnd.dec (fun h116 k127 => ⟨k127, trivial⟩) (fun h117 k128 => wrapK.i64 k128 (fun h124 h125 k126 => wrapK.i64 k126 (fun h121 h122 k123 => False.elim (k123))))⟩⟩⟩⟩)))) (fun h111 k136 => False.elim (k136))))) (fun h107 k141 => ⟨k141, trivial⟩)))⟩⟩⟩))
theorem f73.eq (a : ByteArray × Int) : (f73.af a).gives f73.env (f73.args a) (f73.blks a) (f73.res a) (f73.blks' a) = f73.tree a := by kernel_rfl
end Go.Abs

-- strings.ContainsRune
namespace Go.Abs
open Go
def f71.args (a : ByteArray × Int) : List D := [.str a.1, .int .i32 a.2]
def f71.blks (a : ByteArray × Int) : List (List D) := []
def f71.res (a : ByteArray × Int) : List D := [.bool (hasRune a)]
def f71.blks' (a : ByteArray × Int) : List (List D) := []
def f71.C : Contract := FnC f71.args f71.blks (fun a => rune_pre a) f71.res f71.blks'
end Go.Abs

/- strings.ContainsRune -/
namespace Go.Abs
open Go
set_option linter.unusedVariables false
def f71.kills (a : ByteArray × Int) : List Hint := []
def f71.cuts (a : ByteArray × Int) : List (Nat × Σ β : Type, β → Tm) := []
def f71.af (a : ByteArray × Int) : AF := AF.mk (.seq (.region [⟨(some 4), 0, .move, [.c (.bool false)], none⟩])
 (.seq (.region [⟨(some 5), 1, .move, [.t 0], none⟩,
  ⟨(some 6), 2, .move, [.t 1], none⟩,
  ⟨(some 7), 3, (.call false 73), [.t 5, .t 6], none⟩,
  ⟨(some 8), 7, (.bin .geq), [.t 7, .c (.int .i64 (0))], none⟩,
  ⟨(some 4), 8, .move, [.t 8], none⟩])
 (.ret)))
  [.tmp 4] 0 7
def f71.env : Env := [(73, f73.C)]
def f71.tree (a : ByteArray × Int) : Prop := ∃ c1 : ByteArray × Int, (a.1 = c1.1) ∧ (a.2 = c1.2) ∧ (rune_pre c1) ∧ ((decide ((0 : Int) ≤ (ixRune c1))) = (hasRune a)) ∧ True
def f71.vc (a : ByteArray × Int) : Prop := (rune_pre (a.1, a.2) ∧ (decide ((0 : Int) ≤ (ixRune (a.1, a.2))) = hasRune a))
set_option maxRecDepth 100000 in
set_option maxHeartbeats 2000000 in
theorem f71.of (a : ByteArray × Int) (h : f71.vc a) : f71.tree a := ⟨(a.1, a.2), ⟨rfl, ⟨rfl, ⟨h.1, ⟨h.2, trivial⟩⟩⟩⟩⟩
theorem f71.eq (a : ByteArray × Int) : (f71.af a).gives f71.env (f71.args a) (f71.blks a) (f71.res a) (f71.blks' a) = f71.tree a := by kernel_rfl
end Go.Abs

-- interregnum/ident.odd
namespace Go.Abs
open Go
def f67.args (a : Int) : List D := [.int .i32 a]
def f67.blks (a : Int) : List (List D) := []
def f67.res (a : Int) : List D := [.bool (oddR a)]
def f67.blks' (a : Int) : List (List D) := []
def f67.C : Contract := FnC f67.args f67.blks (fun a => odd_pre a) f67.res f67.blks'
end Go.Abs

/- interregnum/ident.odd -/
namespace Go.Abs
open Go
set_option linter.unusedVariables false
def f67.s0 : ByteArray := ⟨#[97, 98, 99, 100, 101, 102, 103, 104, 105, 106, 107, 108, 109, 110, 111, 112, 113, 114, 115, 116, 117, 118, 119, 120, 121, 122, 48, 49, 50, 51, 52, 53, 54, 55, 56, 57, 45]⟩
def f67.kills (a : Int) : List Hint := []
def f67.cuts (a : Int) : List (Nat × Σ β : Type, β → Tm) := []
def f67.af (a : Int) : AF := AF.mk (.seq (.region [⟨(some 2), 0, .move, [.c (.bool false)], none⟩])
 (.seq (.region [⟨(some 3), 1, .move, [.t 0], none⟩,
  ⟨(some 4), 2, (.call false 71), [.c (.str f67.s0), .t 3], none⟩,
  ⟨(some 5), 6, (.un .not), [.t 4], none⟩,
  ⟨(some 2), 7, .move, [.t 5], none⟩])
 (.ret)))
  [.tmp 2] 0 5
def f67.env : Env := [(71, f71.C)]
def f67.tree (a : Int) : Prop := ∃ c1 : ByteArray × Int, (f67.s0 = c1.1) ∧ (a = c1.2) ∧ (rune_pre c1) ∧ ((!(hasRune c1)) = (oddR a)) ∧ True
def f67.vc (a : Int) : Prop := (rune_pre (f67.s0, a) ∧ ((!(hasRune (f67.s0, a))) = oddR a))
set_option maxRecDepth 100000 in
set_option maxHeartbeats 2000000 in
theorem f67.of (a : Int) (h : f67.vc a) : f67.tree a := ⟨(f67.s0, a), ⟨rfl, ⟨rfl, ⟨h.1, ⟨h.2, trivial⟩⟩⟩⟩⟩
theorem f67.eq (a : Int) : (f67.af a).gives f67.env (f67.args a) (f67.blks a) (f67.res a) (f67.blks' a) = f67.tree a := by kernel_rfl
end Go.Abs

-- strings.indexFunc
namespace Go.Abs
open Go
def f72.args (a : ByteArray × Bool) : List D := [.str a.1, .fn 67 [], .bool a.2]
def f72.blks (a : ByteArray × Bool) : List (List D) := []
def f72.res (a : ByteArray × Bool) : List D := [.int .i64 (indexOdd a)]
def f72.blks' (a : ByteArray × Bool) : List (List D) := []
def f72.C : Contract := FnC f72.args f72.blks (fun a => ixOdd_pre a) f72.res f72.blks'
end Go.Abs

/- strings.indexFunc -/
namespace Go.Abs
open Go
set_option linter.unusedVariables false
def f72.kills (a : ByteArray × Bool) : List Hint := [.tell Int (fun x => ⟨[.dead, .fn 67 [], .bool a.2, .dead, .dead, .dead, .dead, .dead, .dead, .dead, .ptr 2 0, .dead, .dead, .dead, .dead, .dead, .dead, .dead, .dead, .dead, .dead], [(2, false, [.dead, .str a.1, .int .i64 x])], []⟩)]
def f72.cuts (a : ByteArray × Bool) : List (Nat × Σ β : Type, β → Tm) := []
def f72.af (a : ByteArray × Bool) : AF := AF.mk (.seq (.region [⟨(some 6), 0, .move, [.c (.int .i64 (0))], none⟩])
 (.seq (.seq (.region [⟨(some 9), 1, .move, [.t 0], none⟩,
  ⟨(some 10), 2, .iterStr, [.t 9], none⟩])
 (.block 0 (.loopT Int (fun x => ⟨[.dead, .fn 67 [], .bool a.2, .dead, .dead, .dead, .dead, .dead, .dead, .dead, .ptr 2 0, .dead, .dead, .dead, .dead, .dead, .dead, .dead, .dead, .dead, .dead], [(2, false, [.dead, .str a.1, .int .i64 x])], []⟩) 3 19 (.seq (.region [⟨(some 11), 3, .nextStr, [.t 10], none⟩,
  ⟨(some 12), 4, (.extract 0), [.t 11], none⟩])
 (.seq (.cond (.t 12) (.skip) (.exit 0))
 (.block 1 (.seq (.region [⟨(some 13), 5, (.extract 1), [.t 11], none⟩,
  ⟨(some 14), 6, (.extract 2), [.t 11], none⟩,
  ⟨(some 7), 7, .move, [.t 13], none⟩,
  ⟨(some 8), 8, .move, [.t 14], none⟩])
 (.seq (.region [⟨(some 15), 9, .move, [.t 1], none⟩,
  ⟨(some 16), 10, .move, [.t 8], none⟩,
  ⟨(some 17), 11, (.callv false), [.t 15, .t 16], none⟩,
  ⟨(some 18), 15, .move, [.t 2], none⟩,
  ⟨(some 19), 16, (.binB false), [.t 17, .t 18], none⟩])
 (.cond (.t 19) (.seq (.region [⟨(some 20), 17, .move, [.t 7], none⟩,
  ⟨(some 6), 18, .move, [.t 20], none⟩])
 (.ret)) (.skip))))))))))
 (.seq (.region [⟨(some 6), 19, .move, [.c (.int .i64 (-1))], none⟩])
 (.ret))))
  [.tmp 6] 0 18
def f72.env : Env := [(67, f67.C)]
def f72.tree (a : ByteArray × Bool) : Prop := ∃ (I2 : Int → Prop) (μ3 : Int → Nat), (∃ x1 : Int, (DEqs [] []) ∧ (a.2 = a.2) ∧ (a.1 = a.1) ∧ ((0 : Int) = x1) ∧ I2 x1) ∧ ∀ y4 : Int, I2 y4 → (Br (decide ((0 : Int) ≤ y4) && decide (y4 < (a.1.size : Int))) (∃ c7 : Int, (((Utf8.decode a.1 (Int.toNat y4)).1 : Int) = c7) ∧ (odd_pre c7) ∧ Br ((oddR c7) == a.2) ((y4 = (indexOdd a)) ∧ True) (∃ x11 : Int, (DEqs [] []) ∧ (a.2 = a.2) ∧ (a.1 = a.1) ∧ ((y4 + ((Utf8.decode a.1 (Int.toNat y4)).2 : Int)) = x11) ∧ I2 x11 ∧ μ3 x11 < μ3 y4)) (((-1 : Int) = (indexOdd a)) ∧ True))
def f72.vc (a : ByteArray × Bool) : Prop := (∃ (I2 : Int → Prop) (μ3 : Int → Nat), I2 (0 : Int) ∧ ∀ y4 : Int, I2 y4 → (((0 : Int) ≤ y4 ∧ y4 < (a.1.size : Int) → (odd_pre ((Utf8.decode a.1 (Int.toNat y4)).1 : Int) ∧ ((((oddR ((Utf8.decode a.1 (Int.toNat y4)).1 : Int)) == a.2) = true → (y4 = indexOdd a)) ∧ (¬ (((oddR ((Utf8.decode a.1 (Int.toNat y4)).1 : Int)) == a.2) = true) → (I2 (y4 + ((Utf8.decode a.1 (Int.toNat y4)).2 : Int)) ∧ μ3 (y4 + ((Utf8.decode a.1 (Int.toNat y4)).2 : Int)) < μ3 y4))))) ∧ (¬ ((0 : Int) ≤ y4 ∧ y4 < (a.1.size : Int)) → ((-1 : Int) = indexOdd a))))
set_option maxRecDepth 100000 in
set_option maxHeartbeats 2000000 in
theorem f72.of (a : ByteArray × Bool) (h : f72.vc a) : f72.tree a := Exists.elim h (fun I2 h19_ => Exists.elim h19_ (fun μ3 h19 => ⟨I2, μ3, ⟨(0 : Int), ⟨(DEqs.refl _), ⟨rfl, ⟨rfl, ⟨rfl, h19.1⟩⟩⟩⟩⟩, fun y4 h21 => br (h19.2 y4 h21) Cnd.ix (fun h5 k17 => ⟨((Utf8.decode a.1 (Int.toNat y4)).1 : Int), ⟨rfl, ⟨k17.1, br k17.2 Cnd.b (fun h8 k13 => ⟨k13, trivial⟩) (fun h9 k14 => ⟨y4 + ((Utf8.decode a.1 (Int.toNat y4)).2 : Int), ⟨(DEqs.refl _), ⟨rfl, ⟨rfl, ⟨rfl, k14⟩⟩⟩⟩⟩)⟩⟩⟩) (fun h6 k18 => ⟨k18, trivial⟩)⟩))
theorem f72.eq (a : ByteArray × Bool) : (f72.af a).gives f72.env (f72.args a) (f72.blks a) (f72.res a) (f72.blks' a) = f72.tree a := by kernel_rfl
end Go.Abs

-- strings.IndexFunc
namespace Go.Abs
open Go
def f70.args (a : ByteArray) : List D := [.str a, .fn 67 []]
def f70.blks (a : ByteArray) : List (List D) := []
def f70.res (a : ByteArray) : List D := [.int .i64 (indexOddT a)]
def f70.blks' (a : ByteArray) : List (List D) := []
def f70.C : Contract := FnC f70.args f70.blks (fun a => text_pre30 a) f70.res f70.blks'
end Go.Abs

/- strings.IndexFunc -/
namespace Go.Abs
open Go
set_option linter.unusedVariables false
def f70.kills (a : ByteArray) : List Hint := []
def f70.cuts (a : ByteArray) : List (Nat × Σ β : Type, β → Tm) := []
def f70.af (a : ByteArray) : AF := AF.mk (.seq (.region [⟨(some 4), 0, .move, [.c (.int .i64 (0))], none⟩])
 (.seq (.region [⟨(some 5), 1, .move, [.t 0], none⟩,
  ⟨(some 6), 2, .move, [.t 1], none⟩,
  ⟨(some 7), 3, (.call false 72), [.t 5, .t 6, .c (.bool true)], none⟩,
  ⟨(some 4), 7, .move, [.t 7], none⟩])
 (.ret)))
  [.tmp 4] 0 6
def f70.env : Env := [(72, f72.C)]
def f70.tree (a : ByteArray) : Prop := ∃ c1 : ByteArray × Bool, (a = c1.1) ∧ (DEqs [] []) ∧ (true = c1.2) ∧ (ixOdd_pre c1) ∧ ((indexOdd c1) = (indexOddT a)) ∧ True
def f70.vc (a : ByteArray) : Prop := (ixOdd_pre (a, true) ∧ ((indexOdd (a, true)) = indexOddT a))
set_option maxRecDepth 100000 in
set_option maxHeartbeats 2000000 in
theorem f70.of (a : ByteArray) (h : f70.vc a) : f70.tree a := ⟨(a, true), ⟨rfl, ⟨(DEqs.refl _), ⟨rfl, ⟨h.1, ⟨h.2, trivial⟩⟩⟩⟩⟩⟩
theorem f70.eq (a : ByteArray) : (f70.af a).gives f70.env (f70.args a) (f70.blks a) (f70.res a) (f70.blks' a) = f70.tree a := by kernel_rfl
end Go.Abs

-- strings.ContainsFunc
namespace Go.Abs
open Go
def f66.args (a : ByteArray) : List D := [.str a, .fn 67 []]
def f66.blks (a : ByteArray) : List (List D) := []
def f66.res (a : ByteArray) : List D := [.bool (hasOdd a)]
def f66.blks' (a : ByteArray) : List (List D) := []
def f66.C : Contract := FnC f66.args f66.blks (fun a => text_pre30 a) f66.res f66.blks'
end Go.Abs

/- strings.ContainsFunc -/
namespace Go.Abs
open Go
set_option linter.unusedVariables false
def f66.kills (a : ByteArray) : List Hint := []
def f66.cuts (a : ByteArray) : List (Nat × Σ β : Type, β → Tm) := []
def f66.af (a : ByteArray) : AF := AF.mk (.seq (.region [⟨(some 4), 0, .move, [.c (.bool false)], none⟩])
 (.seq (.region [⟨(some 5), 1, .move, [.t 0], none⟩,
  ⟨(some 6), 2, .move, [.t 1], none⟩,
  ⟨(some 7), 3, (.call false 70), [.t 5, .t 6], none⟩,
  ⟨(some 8), 7, (.bin .geq), [.t 7, .c (.int .i64 (0))], none⟩,
  ⟨(some 4), 8, .move, [.t 8], none⟩])
 (.ret)))
  [.tmp 4] 0 7
def f66.env : Env := [(70, f70.C)]
def f66.tree (a : ByteArray) : Prop := ∃ c1 : ByteArray, (a = c1) ∧ (DEqs [] []) ∧ (text_pre30 c1) ∧ ((decide ((0 : Int) ≤ (indexOddT c1))) = (hasOdd a)) ∧ True
def f66.vc (a : ByteArray) : Prop := (text_pre30 a ∧ (decide ((0 : Int) ≤ (indexOddT a)) = hasOdd a))
set_option maxRecDepth 100000 in
set_option maxHeartbeats 2000000 in
theorem f66.of (a : ByteArray) (h : f66.vc a) : f66.tree a := ⟨a, ⟨rfl, ⟨(DEqs.refl _), ⟨h.1, ⟨h.2, trivial⟩⟩⟩⟩⟩
theorem f66.eq (a : ByteArray) : (f66.af a).gives f66.env (f66.args a) (f66.blks a) (f66.res a) (f66.blks' a) = f66.tree a := by kernel_rfl
end Go.Abs

/- Names, labels, amounts, machines, queues, tasks: what can be, and their bytes. -/
namespace Go.Abs
open Go

abbrev TRes := Int × Int × Int
abbrev TLbl := ByteArray × ByteArray
abbrev TNode := ByteArray × TRes × List TLbl
abbrev TQueue := ByteArray × TRes
abbrev TTask := ByteArray × ByteArray × Int × TRes × List TLbl × ByteArray × ByteArray × Int
abbrev TJob := TTask × Int × ByteArray × Int

def slt (a b : ByteArray) : Bool := Op.bytesLess a.toList b.toList
def nameB (s : ByteArray) : Bool := decide (1 ≤ s.size ∧ s.size ≤ 16) && (nth s.data.toList 0 0 != 45) && s.data.toList.all ltr
def okN (n : Int) : Bool := decide (0 ≤ n ∧ n ≤ 1048576)
def rightB (r : TRes) : Bool := okN r.1 && okN r.2.1 && okN r.2.2
/-- Label i can stand there. -/
def lblAt (l : List TLbl) (i : Nat) : Bool := nameB (l.getD i default).1 && nameB (l.getD i default).2 && (i == 0 || slt (l.getD (i - 1) default).1 (l.getD i default).1)
def labelsB (l : List TLbl) : Bool := decide (l.length ≤ 4) && (List.range l.length).all (lblAt l)
def nodeB (n : TNode) : Bool := nameB n.1 && rightB n.2.1 && labelsB n.2.2
def queueB (q : TQueue) : Bool := nameB q.1 && rightB q.2
def maybeB (s : ByteArray) : Bool := s.size == 0 || nameB s
def sizeB (g : ByteArray) (n : Int) : Bool := if g.size = 0 then n == 0 else decide (2 ≤ n ∧ n ≤ 4)
def taskB (t : TTask) : Bool := nameB t.1 && nameB t.2.1 && decide (0 ≤ t.2.2.1 ∧ t.2.2.1 ≤ 9) && rightB t.2.2.2.1 && labelsB t.2.2.2.2.1 && maybeB t.2.2.2.2.2.1 && maybeB t.2.2.2.2.2.2.1 && sizeB t.2.2.2.2.2.2.1 t.2.2.2.2.2.2.2

def S28 (b : ByteArray) : Prop := b.size ≤ 268435456
def S27 (b : ByteArray) : Prop := b.size ≤ 134217728
def name_pre (s : ByteArray) : Prop := s.size ≤ 1073741824
def lbls_pre (l : List TLbl) : Prop := ∀ x ∈ l, x.1.size ≤ 1073741824 ∧ x.2.size ≤ 1073741824
def node_pre (n : TNode) : Prop := name_pre n.1 ∧ lbls_pre n.2.2
def queue_pre (q : TQueue) : Prop := name_pre q.1
def task_pre (t : TTask) : Prop := name_pre t.1 ∧ name_pre t.2.1 ∧ lbls_pre t.2.2.2.2.1 ∧ name_pre t.2.2.2.2.2.1 ∧ name_pre t.2.2.2.2.2.2.1

def amtS (r : TRes) : ByteArray := num r.1.toNat ++ num r.2.1.toNat ++ num r.2.2.toNat
def lblsS0 : List TLbl → ByteArray
  | [] => ByteArray.empty
  | x :: l => textS x.1 ++ textS x.2 ++ lblsS0 l
def lblsS (l : List TLbl) : ByteArray := num l.length ++ lblsS0 l
def nodeS0 (n : TNode) : ByteArray := textS n.1 ++ amtS n.2.1 ++ lblsS n.2.2
def queueS0 (q : TQueue) : ByteArray := textS q.1 ++ amtS q.2
def taskS0 (t : TTask) : ByteArray := textS t.1 ++ textS t.2.1 ++ num t.2.2.1.toNat ++ amtS t.2.2.2.1 ++ lblsS t.2.2.2.2.1 ++ textS t.2.2.2.2.2.1 ++ textS t.2.2.2.2.2.2.1 ++ num t.2.2.2.2.2.2.2.toNat
def nodeS (n : TNode) : ByteArray := if nodeB n = true then nodeS0 n else ByteArray.empty
def queueS (q : TQueue) : ByteArray := if queueB q = true then queueS0 q else ByteArray.empty
def taskS (t : TTask) : ByteArray := if taskB t = true then taskS0 t else ByteArray.empty

def same_pre (b : ByteArray) : Prop := S28 b
def sameB (b : ByteArray) : ByteArray := b
def number_pre (n : Int) : Prop := 0 ≤ n ∧ n ≤ 9223372036854775807
def amt_pre (r : TRes) : Prop := rightB r = true
def lblsS_pre (l : List TLbl) : Prop := labelsB l = true
def putAmt_pre (a : ByteArray × TRes) : Prop := S28 a.1 ∧ rightB a.2 = true
def putAmt (a : ByteArray × TRes) : ByteArray := a.1 ++ amtS a.2
def putLbls_pre (a : ByteArray × List TLbl) : Prop := S27 a.1 ∧ labelsB a.2 = true
def putLbls (a : ByteArray × List TLbl) : ByteArray := a.1 ++ lblsS a.2
def putNode_pre (a : ByteArray × TNode) : Prop := a.1.size ≤ 67108864 ∧ node_pre a.2
def putNode (a : ByteArray × TNode) : ByteArray := a.1 ++ nodeS a.2
def putQueue_pre (a : ByteArray × TQueue) : Prop := a.1.size ≤ 67108864 ∧ queue_pre a.2
def putQueue (a : ByteArray × TQueue) : ByteArray := a.1 ++ queueS a.2
def putTask_pre (a : ByteArray × TTask) : Prop := a.1.size ≤ 67108864 ∧ task_pre a.2
def putTask (a : ByteArray × TTask) : ByteArray := a.1 ++ taskS a.2

/-- What the laws of layer 5 look at. -/
def labs5 (l : List TLbl) : Bool := decide (l.length ≤ 100) && (List.range l.length).all fun i => decide ((l.getD i default).1.size + (l.getD i default).2.size ≤ 1000)
def few5 (a : TNode × TQueue × TTask) : Bool := labs5 a.1.2.2 && labs5 a.2.2.2.2.2.2.1 && decide (a.1.1.size + a.2.1.1.size + a.2.2.1.size + a.2.2.2.1.size + a.2.2.2.2.2.2.2.1.size + a.2.2.2.2.2.2.2.2.1.size < 5000)
def few5_pre (a : TNode × TQueue × TTask) : Prop := node_pre a.1 ∧ queue_pre a.2.1 ∧ task_pre a.2.2
end Go.Abs

-- interregnum/ident.Name
namespace Go.Abs
open Go
def f48.args (a : ByteArray) : List D := [.str a]
def f48.blks (a : ByteArray) : List (List D) := []
def f48.res (a : ByteArray) : List D := [.bool (nameB a)]
def f48.blks' (a : ByteArray) : List (List D) := []
def f48.C : Contract := FnC f48.args f48.blks (fun a => name_pre a) f48.res f48.blks'
end Go.Abs

/- interregnum/ident.Name -/
namespace Go.Abs
open Go
set_option linter.unusedVariables false
def f48.kills (a : ByteArray) : List Hint := []
def f48.cuts (a : ByteArray) : List (Nat × Σ β : Type, β → Tm) := []
def f48.af (a : ByteArray) : AF := AF.mk (.seq (.region [⟨(some 2), 0, .move, [.c (.bool false)], none⟩])
 (.seq (.region [⟨(some 3), 1, .move, [.t 0], none⟩,
  ⟨(some 4), 2, (.bin .neq), [.t 3, .c (.str ByteArray.empty)], none⟩,
  ⟨(some 5), 3, .move, [.t 4], none⟩,
  ⟨(some 6), 4, .move, [.t 0], (some (5, true))⟩,
  ⟨(some 7), 5, (.len true), [.t 6], (some (5, true))⟩,
  ⟨(some 8), 6, (.bin .leq), [.t 7, .c (.int .i64 (16))], (some (5, true))⟩,
  ⟨(some 9), 7, .pick, [.t 5, .t 8, .c (.bool false)], none⟩,
  ⟨(some 10), 8, .move, [.t 9], none⟩,
  ⟨(some 11), 9, .move, [.t 0], (some (10, true))⟩,
  ⟨(some 12), 10, .indexStr, [.t 11, .c (.int .i64 (0))], (some (10, true))⟩,
  ⟨(some 13), 11, (.bin .neq), [.t 12, .c (.int .u8 (45))], (some (10, true))⟩,
  ⟨(some 14), 12, .pick, [.t 10, .t 13, .c (.bool false)], none⟩,
  ⟨(some 15), 13, .move, [.t 14], none⟩,
  ⟨(some 16), 14, .move, [.t 0], (some (15, true))⟩,
  ⟨(some 17), 15, (.call false 66), [.t 16, .c (.fn 67 [])], (some (15, true))⟩,
  ⟨(some 18), 19, (.un .not), [.t 17], (some (15, true))⟩,
  ⟨(some 19), 20, .pick, [.t 15, .t 18, .c (.bool false)], none⟩,
  ⟨(some 2), 21, .move, [.t 19], none⟩])
 (.ret)))
  [.tmp 2] 0 19
def f48.env : Env := [(66, f66.C)]
def f48.tree (a : ByteArray) : Prop := Br (!(a.toList == ByteArray.empty.toList)) (Br (decide ((a.size : Int) ≤ (16 : Int))) (Br (decide ((0 : Int) ≤ (0 : Int)) && decide ((0 : Int) < (a.size : Int))) (Br ((bAt a (0 : Int)) != (45 : Int)) (∃ c8 : ByteArray, (a = c8) ∧ (DEqs [] []) ∧ (text_pre30 c8) ∧ ((!(hasOdd c8)) = (nameB a)) ∧ True) ((false = (nameB a)) ∧ True)) False) ((false = (nameB a)) ∧ True)) ((false = (nameB a)) ∧ True)
def f48.vc (a : ByteArray) : Prop := ((¬ (a = ByteArray.empty) → (((a.size : Int) ≤ (16 : Int) → ((0 : Int) < (a.size : Int) ∧ ((¬ (bAt a (0 : Int)) = (45 : Int) → (text_pre30 a ∧ ((!(hasOdd a)) = nameB a))) ∧ (¬ (¬ (bAt a (0 : Int)) = (45 : Int)) → (false = nameB a))))) ∧ (¬ ((a.size : Int) ≤ (16 : Int)) → (false = nameB a)))) ∧ (¬ (¬ (a = ByteArray.empty)) → (false = nameB a)))
set_option maxRecDepth 100000 in
set_option maxHeartbeats 2000000 in
theorem f48.of (a : ByteArray) (h : f48.vc a) : f48.tree a := br h (Cnd.not Cnd.seq) (fun h1 k19 => br k19 Cnd.dec (fun h3 k16 => chk k16.2 Cnd.ix ⟨(by decide), k16.1⟩ (fun h5 k14 => br k14 Cnd.ne (fun h6 k12 => ⟨a, ⟨rfl, ⟨(DEqs.refl _), ⟨k12.1, ⟨k12.2, trivial⟩⟩⟩⟩⟩) (fun h7 k13 => ⟨k13, trivial⟩))) (fun h4 k17 => ⟨k17, trivial⟩)) (fun h2 k20 => ⟨k20, trivial⟩)
theorem f48.eq (a : ByteArray) : (f48.af a).gives f48.env (f48.args a) (f48.blks a) (f48.res a) (f48.blks' a) = f48.tree a := by kernel_rfl
end Go.Abs

-- interregnum/res.Right
namespace Go.Abs
open Go
def f49.args (a : T_ar3_i64) : List D := [.agg [.int .i64 a.1, .int .i64 a.2.1, .int .i64 a.2.2]]
def f49.blks (a : T_ar3_i64) : List (List D) := []
def f49.res (a : T_ar3_i64) : List D := [.bool (rightB a)]
def f49.blks' (a : T_ar3_i64) : List (List D) := []
def f49.C : Contract := FnC f49.args f49.blks (fun _ => True) f49.res f49.blks'
end Go.Abs

/- interregnum/res.Right -/
namespace Go.Abs
open Go
set_option linter.unusedVariables false
def f49.kills (a : T_ar3_i64) : List Hint := [.unroll 4 [0, 1, 2, 3, 4, 7, 8, 9, 10, 11, 14, 15] [] []]
def f49.cuts (a : T_ar3_i64) : List (Nat × Σ β : Type, β → Tm) := []
def f49.af (a : T_ar3_i64) : AF := AF.mk (.seq (.region [⟨(some 1), 0, .box, [.t 0], none⟩,
  ⟨(some 2), 1, .move, [.c (.bool false)], none⟩])
 (.seq (.seq (.region [⟨(some 5), 2, (.load true 3), [.t 1], none⟩,
  ⟨(some 6), 3, .move, [.c (.int .i64 (0))], none⟩])
 (.block 0 (.loop 4 [0, 1, 2, 3, 4, 7, 8, 9, 10, 11, 14, 15] [] [] 4 16 (.seq (.region [⟨(some 7), 4, (.bin .lss), [.t 6, .c (.int .i64 (3))], none⟩])
 (.seq (.cond (.t 7) (.skip) (.exit 0))
 (.seq (.block 1 (.seq (.region [⟨(some 8), 5, (.indexArr false 1 3), [.t 5, .t 6], none⟩,
  ⟨(some 4), 6, .move, [.t 8], none⟩])
 (.seq (.region [⟨(some 9), 7, .move, [.t 4], none⟩,
  ⟨(some 10), 8, (.bin .lss), [.t 9, .c (.int .i64 (0))], none⟩,
  ⟨(some 11), 9, .move, [.t 10], none⟩,
  ⟨(some 12), 10, .move, [.t 4], (some (11, false))⟩,
  ⟨(some 13), 11, (.bin .gtr), [.t 12, .c (.int .i64 (1048576))], (some (11, false))⟩,
  ⟨(some 14), 12, .pick, [.t 11, .c (.bool true), .t 13], none⟩])
 (.cond (.t 14) (.seq (.region [⟨(some 2), 13, .move, [.c (.bool false)], none⟩])
 (.ret)) (.skip)))))
 (.region [⟨(some 15), 14, (.bin .add), [.t 6, .c (.int .i64 (1))], none⟩,
  ⟨(some 6), 15, .move, [.t 15], none⟩])))))))
 (.seq (.region [⟨(some 2), 16, .move, [.c (.bool true)], none⟩])
 (.ret))))
  [.tmp 2] 0 15
def f49.env : Env := []
def f49.tree (a : T_ar3_i64) : Prop := Br (decide (a.1 < (0 : Int))) ((false = (rightB a)) ∧ True) (Br (decide ((1048576 : Int) < a.1)) ((false = (rightB a)) ∧ True) (Br (decide (a.2.1 < (0 : Int))) ((false = (rightB a)) ∧ True) (Br (decide ((1048576 : Int) < a.2.1)) ((false = (rightB a)) ∧ True) (Br (decide (a.2.2 < (0 : Int))) ((false = (rightB a)) ∧ True) (Br (decide ((1048576 : Int) < a.2.2)) ((false = (rightB a)) ∧ True) ((true = (rightB a)) ∧ True))))))
def f49.vc (a : T_ar3_i64) : Prop := ((a.1 < (0 : Int) → (false = rightB a)) ∧ (¬ (a.1 < (0 : Int)) → (((1048576 : Int) < a.1 → (false = rightB a)) ∧ (¬ ((1048576 : Int) < a.1) → ((a.2.1 < (0 : Int) → (false = rightB a)) ∧ (¬ (a.2.1 < (0 : Int)) → (((1048576 : Int) < a.2.1 → (false = rightB a)) ∧ (¬ ((1048576 : Int) < a.2.1) → ((a.2.2 < (0 : Int) → (false = rightB a)) ∧ (¬ (a.2.2 < (0 : Int)) → (((1048576 : Int) < a.2.2 → (false = rightB a)) ∧ (¬ ((1048576 : Int) < a.2.2) → (true = rightB a)))))))))))))
set_option maxRecDepth 100000 in
set_option maxHeartbeats 2000000 in
theorem f49.of (a : T_ar3_i64) (h : f49.vc a) : f49.tree a := br h Cnd.dec (fun h1 k30 => ⟨k30, trivial⟩) (fun h2 k31 => br k31 Cnd.dec (fun h4 k28 => ⟨k28, trivial⟩) (fun h5 k29 => br k29 Cnd.dec (fun h7 k26 => ⟨k26, trivial⟩) (fun h8 k27 => br k27 Cnd.dec (fun h10 k24 => ⟨k24, trivial⟩) (fun h11 k25 => br k25 Cnd.dec (fun h13 k22 => ⟨k22, trivial⟩) (fun h14 k23 => br k23 Cnd.dec (fun h16 k20 => ⟨k20, trivial⟩) (fun h17 k21 => ⟨k21, trivial⟩))))))
theorem f49.eq (a : T_ar3_i64) : (f49.af a).gives f49.env (f49.args a) (f49.blks a) (f49.res a) (f49.blks' a) = f49.tree a := by kernel_rfl
end Go.Abs

-- interregnum/model.Queue
namespace Go.Abs
open Go
def f25.args (a : T_api_Queue) : List D := [.agg [.str a.1, .int .i64 a.2.1, .int .i64 a.2.2.1, .int .i64 a.2.2.2]]
def f25.blks (a : T_api_Queue) : List (List D) := []
def f25.res (a : T_api_Queue) : List D := [.bool (queueB a)]
def f25.blks' (a : T_api_Queue) : List (List D) := []
def f25.C : Contract := FnC f25.args f25.blks (fun a => queue_pre a) f25.res f25.blks'
end Go.Abs

/- interregnum/model.Queue -/
namespace Go.Abs
open Go
set_option linter.unusedVariables false
def f25.kills (a : T_api_Queue) : List Hint := []
def f25.cuts (a : T_api_Queue) : List (Nat × Σ β : Type, β → Tm) := []
def f25.af (a : T_api_Queue) : AF := AF.mk (.seq (.region [⟨(some 1), 0, .box, [.t 0], none⟩,
  ⟨(some 2), 1, .move, [.c (.bool false)], none⟩])
 (.seq (.region [⟨(some 3), 2, (.fieldAddr 0), [.t 1], none⟩,
  ⟨(some 4), 3, (.load false 1), [.t 3], none⟩,
  ⟨(some 5), 4, (.call false 48), [.t 4], none⟩,
  ⟨(some 6), 8, .move, [.t 5], none⟩,
  ⟨(some 7), 9, (.fieldAddr 1), [.t 1], (some (6, true))⟩,
  ⟨(some 8), 10, (.load true 3), [.t 7], (some (6, true))⟩,
  ⟨(some 9), 11, (.call false 49), [.t 8], (some (6, true))⟩,
  ⟨(some 10), 15, .pick, [.t 6, .t 9, .c (.bool false)], none⟩,
  ⟨(some 2), 16, .move, [.t 10], none⟩])
 (.ret)))
  [.tmp 2] 0 10
def f25.env : Env := [(48, f48.C), (49, f49.C)]
def f25.tree (a : T_api_Queue) : Prop := ∃ c1 : ByteArray, (a.1 = c1) ∧ (name_pre c1) ∧ Br (nameB c1) (∃ c4 : T_ar3_i64, (a.2.1 = c4.1) ∧ (a.2.2.1 = c4.2.1) ∧ (a.2.2.2 = c4.2.2) ∧ True ∧ ((rightB c4) = (queueB a)) ∧ True) ((false = (queueB a)) ∧ True)
def f25.vc (a : T_api_Queue) : Prop := (name_pre a.1 ∧ (((nameB (a.1)) = true → ((rightB (a.2)) = queueB a)) ∧ (¬ ((nameB (a.1)) = true) → (false = queueB a))))
set_option maxRecDepth 100000 in
set_option maxHeartbeats 2000000 in
theorem f25.of (a : T_api_Queue) (h : f25.vc a) : f25.tree a := ⟨a.1, ⟨rfl, ⟨h.1, br h.2 Cnd.b (fun h2 k8 => ⟨a.2, ⟨rfl, ⟨rfl, ⟨rfl, ⟨trivial, ⟨k8, trivial⟩⟩⟩⟩⟩⟩) (fun h3 k9 => ⟨k9, trivial⟩)⟩⟩⟩
theorem f25.eq (a : T_api_Queue) : (f25.af a).gives f25.env (f25.args a) (f25.blks a) (f25.res a) (f25.blks' a) = f25.tree a := by kernel_rfl
end Go.Abs

-- interregnum/model.same
namespace Go.Abs
open Go
def f60.args (a : ByteArray) : List D := [.slice .ro 1 a.size (gstr a)]
def f60.blks (a : ByteArray) : List (List D) := []
def f60.res (a : ByteArray) : List D := [.slice (.own 0) 1 ((sameB a).size) (gstr (sameB a))]
def f60.blks' (a : ByteArray) : List (List D) := []
def f60.C : Contract := FnC f60.args f60.blks (fun a => same_pre a) f60.res f60.blks'
end Go.Abs

/- interregnum/model.same -/
namespace Go.Abs
open Go
set_option linter.unusedVariables false
def f60.kills (a : ByteArray) : List Hint := []
def f60.cuts (a : ByteArray) : List (Nat × Σ β : Type, β → Tm) := []
def f60.af (a : ByteArray) : AF := AF.mk (.seq (.region [⟨(some 2), 0, (.nilSl 1), [], none⟩])
 (.seq (.region [⟨(some 3), 1, (.buildSlice 1 0 [.int .u8 (0)] []), [], none⟩,
  ⟨(some 4), 2, .move, [.t 0], none⟩,
  ⟨(some 5), 3, (.append 1 1), [.t 3, .t 4], none⟩,
  ⟨(some 2), 4, .move, [.t 5], none⟩])
 (.ret)))
  [.tmp 2] 0 5
def f60.env : Env := []
def f60.tree (a : ByteArray) : Prop := (room ((0 + a.size) * 1)) ∧ (((0 + a.size) = (0 + a.size)) ∧ ((0 + a.size) = ((sameB a).size)) ∧ (∀ i, i < ((sameB a).size) → DEqs ((gapp (fun j => List.take 1 (List.drop (j * 1) [])) 0 (gstr a)) i) ((gstr (sameB a)) i)) ∧ True)
def f60.vc (a : ByteArray) : Prop := (0 + a.size ≤ 1073741824 ∧ (ByteArray.empty ++ a = sameB a))
set_option maxRecDepth 100000 in
set_option maxHeartbeats 2000000 in
theorem f60.of (a : ByteArray) (h : f60.vc a) : f60.tree a := ⟨(room_of h.1 (by decide)), ⟨rfl, slK (RdB.to (RdB.app RdB.nil RdB.self) h.2) (trivial)⟩⟩
theorem f60.eq (a : ByteArray) : (f60.af a).gives f60.env (f60.args a) (f60.blks a) (f60.res a) (f60.blks' a) = f60.tree a := by kernel_rfl
end Go.Abs

-- math/bits.Len64
namespace Go.Abs
open Go
def f45.args (a : Int) : List D := [.int .u64 a]
def f45.blks (a : Int) : List (List D) := []
def f45.res (a : Int) : List D := [.int .i64 (len64 a)]
def f45.blks' (a : Int) : List (List D) := []
def f45.C : Contract := FnC f45.args f45.blks (fun a => len64_pre a) f45.res f45.blks'
end Go.Abs

/- math/bits.Len64 -/
namespace Go.Abs
open Go
set_option linter.unusedVariables false
def f45.s0 : ByteArray := ⟨#[0, 1, 2, 2, 3, 3, 3, 3, 4, 4, 4, 4, 4, 4, 4, 4, 5, 5, 5, 5, 5, 5, 5, 5, 5, 5, 5, 5, 5, 5, 5, 5, 6, 6, 6, 6, 6, 6, 6, 6, 6, 6, 6, 6, 6, 6, 6, 6, 6, 6, 6, 6, 6, 6, 6, 6, 6, 6, 6, 6, 6, 6, 6, 6, 7, 7, 7, 7, 7, 7, 7, 7, 7, 7, 7, 7, 7, 7, 7, 7, 7, 7, 7, 7, 7, 7, 7, 7, 7, 7, 7, 7, 7, 7, 7, 7, 7, 7, 7, 7, 7, 7, 7, 7, 7, 7, 7, 7, 7, 7, 7, 7, 7, 7, 7, 7, 7, 7, 7, 7, 7, 7, 7, 7, 7, 7, 7, 7, 8, 8, 8, 8, 8, 8, 8, 8, 8, 8, 8, 8, 8, 8, 8, 8, 8, 8, 8, 8, 8, 8, 8, 8, 8, 8, 8, 8, 8, 8, 8, 8, 8, 8, 8, 8, 8, 8, 8, 8, 8, 8, 8, 8, 8, 8, 8, 8, 8, 8, 8, 8, 8, 8, 8, 8, 8, 8, 8, 8, 8, 8, 8, 8, 8, 8, 8, 8, 8, 8, 8, 8, 8, 8, 8, 8, 8, 8, 8, 8, 8, 8, 8, 8, 8, 8, 8, 8, 8, 8, 8, 8, 8, 8, 8, 8, 8, 8, 8, 8, 8, 8, 8, 8, 8, 8, 8, 8, 8, 8, 8, 8, 8, 8, 8, 8, 8, 8, 8, 8, 8, 8, 8, 8, 8, 8, 8, 8]⟩
def f45.kills (a : Int) : List Hint := []
def f45.cuts (a : Int) : List (Nat × Σ β : Type, β → Tm) := []
def f45.af (a : Int) : AF := AF.mk (.seq (.region [⟨(some 2), 0, .move, [.c (.int .i64 (0))], none⟩])
 (.seq (.seq (.region [⟨(some 3), 1, .move, [.t 0], none⟩,
  ⟨(some 4), 2, (.bin .geq), [.t 3, .c (.int .u64 (4294967296))], none⟩])
 (.cond (.t 4) (.seq (.region [⟨(some 5), 3, .move, [.t 0], none⟩,
  ⟨(some 6), 4, (.bin .shr), [.t 5, .c (.int .u64 (32))], none⟩,
  ⟨(some 0), 5, .move, [.t 6], none⟩])
 (.region [⟨(some 2), 6, .move, [.c (.int .i64 (32))], none⟩])) (.skip)))
 (.seq (.seq (.region [⟨(some 7), 7, .move, [.t 0], none⟩,
  ⟨(some 8), 8, (.bin .geq), [.t 7, .c (.int .u64 (65536))], none⟩])
 (.cond (.t 8) (.seq (.region [⟨(some 9), 9, .move, [.t 0], none⟩,
  ⟨(some 10), 10, (.bin .shr), [.t 9, .c (.int .u64 (16))], none⟩,
  ⟨(some 0), 11, .move, [.t 10], none⟩])
 (.region [⟨(some 11), 12, .move, [.t 2], none⟩,
  ⟨(some 12), 13, (.bin .add), [.t 11, .c (.int .i64 (16))], none⟩,
  ⟨(some 2), 14, .move, [.t 12], none⟩])) (.skip)))
 (.seq (.seq (.region [⟨(some 13), 15, .move, [.t 0], none⟩,
  ⟨(some 14), 16, (.bin .geq), [.t 13, .c (.int .u64 (256))], none⟩])
 (.cond (.t 14) (.seq (.region [⟨(some 15), 17, .move, [.t 0], none⟩,
  ⟨(some 16), 18, (.bin .shr), [.t 15, .c (.int .u64 (8))], none⟩,
  ⟨(some 0), 19, .move, [.t 16], none⟩])
 (.region [⟨(some 17), 20, .move, [.t 2], none⟩,
  ⟨(some 18), 21, (.bin .add), [.t 17, .c (.int .i64 (8))], none⟩,
  ⟨(some 2), 22, .move, [.t 18], none⟩])) (.skip)))
 (.seq (.region [⟨(some 19), 23, .move, [.t 2], none⟩,
  ⟨(some 20), 24, .move, [.t 0], none⟩,
  ⟨(some 21), 25, (.conv (.int .u8)), [.t 20], none⟩,
  ⟨(some 22), 26, .indexStr, [.c (.str f45.s0), .t 21], none⟩,
  ⟨(some 23), 27, (.conv (.int .i64)), [.t 22], none⟩,
  ⟨(some 24), 28, (.bin .add), [.t 19, .t 23], none⟩,
  ⟨(some 2), 29, .move, [.t 24], none⟩])
 (.ret))))))
  [.tmp 2] 0 24
def f45.env : Env := []
def f45.tree (a : Int) : Prop := Br (decide ((4294967296 : Int) ≤ a)) (Let (Int.fdiv a 4294967296) (fun v3 : Int => Br (decide ((65536 : Int) ≤ v3)) (Let (Int.fdiv v3 65536) (fun v6 : Int => Br (decide ((256 : Int) ≤ v6)) (Let (Int.fdiv v6 256) (fun v9 : Int => Br (decide ((0 : Int) ≤ (IntKind.u8.wrap v9)) && decide ((IntKind.u8.wrap v9) < (256 : Int))) (Let (IntKind.i64.wrap (bAt f45.s0 (IntKind.u8.wrap v9))) (fun v11 : Int => Let (IntKind.i64.wrap ((56 : Int) + v11)) (fun v12 : Int => (v12 = (len64 a)) ∧ True))) False)) (Br (decide ((0 : Int) ≤ (IntKind.u8.wrap v6)) && decide ((IntKind.u8.wrap v6) < (256 : Int))) (Let (IntKind.i64.wrap (bAt f45.s0 (IntKind.u8.wrap v6))) (fun v22 : Int => Let (IntKind.i64.wrap ((48 : Int) + v22)) (fun v23 : Int => (v23 = (len64 a)) ∧ True))) False))) (Br (decide ((256 : Int) ≤ v3)) (Let (Int.fdiv v3 256) (fun v36 : Int => Br (decide ((0 : Int) ≤ (IntKind.u8.wrap v36)) && decide ((IntKind.u8.wrap v36) < (256 : Int))) (Let (IntKind.i64.wrap (bAt f45.s0 (IntKind.u8.wrap v36))) (fun v38 : Int => Let (IntKind.i64.wrap ((40 : Int) + v38)) (fun v39 : Int => (v39 = (len64 a)) ∧ True))) False)) (Br (decide ((0 : Int) ≤ (IntKind.u8.wrap v3)) && decide ((IntKind.u8.wrap v3) < (256 : Int))) (Let (IntKind.i64.wrap (bAt f45.s0 (IntKind.u8.wrap v3))) (fun v49 : Int => Let (IntKind.i64.wrap ((32 : Int) + v49)) (fun v50 : Int => (v50 = (len64 a)) ∧ True))) False)))) (Br (decide ((65536 : Int) ≤ a)) (Let (Int.fdiv a 65536) (fun v65 : Int => Br (decide ((256 : Int) ≤ v65)) (Let (Int.fdiv v65 256) (fun v68 : Int => Br (decide ((0 : Int) ≤ (IntKind.u8.wrap v68)) && decide ((IntKind.u8.wrap v68) < (256 : Int))) (Let (IntKind.i64.wrap (bAt f45.s0 (IntKind.u8.wrap v68))) (fun v70 : Int => Let (IntKind.i64.wrap ((24 : Int) + v70)) (fun v71 : Int => (v71 = (len64 a)) ∧ True))) False)) (Br (decide ((0 : Int) ≤ (IntKind.u8.wrap v65)) && decide ((IntKind.u8.wrap v65) < (256 : Int))) (Let (IntKind.i64.wrap (bAt f45.s0 (IntKind.u8.wrap v65))) (fun v81 : Int => Let (IntKind.i64.wrap ((16 : Int) + v81)) (fun v82 : Int => (v82 = (len64 a)) ∧ True))) False))) (Br (decide ((256 : Int) ≤ a)) (Let (Int.fdiv a 256) (fun v95 : Int => Br (decide ((0 : Int) ≤ (IntKind.u8.wrap v95)) && decide ((IntKind.u8.wrap v95) < (256 : Int))) (Let (IntKind.i64.wrap (bAt f45.s0 (IntKind.u8.wrap v95))) (fun v97 : Int => Let (IntKind.i64.wrap ((8 : Int) + v97)) (fun v98 : Int => (v98 = (len64 a)) ∧ True))) False)) (Br (decide ((0 : Int) ≤ (IntKind.u8.wrap a)) && decide ((IntKind.u8.wrap a) < (256 : Int))) (Let (IntKind.i64.wrap (bAt f45.s0 (IntKind.u8.wrap a))) (fun v108 : Int => Let (IntKind.i64.wrap ((0 : Int) + v108)) (fun v109 : Int => (v109 = (len64 a)) ∧ True))) False)))
def f45.vc (a : Int) : Prop := (((4294967296 : Int) ≤ a → (((65536 : Int) ≤ (a / 4294967296) → (((256 : Int) ≤ ((a / 4294967296) / 65536) → ((0 : Int) ≤ (IntKind.u8.wrap (((a / 4294967296) / 65536) / 256)) ∧ (IntKind.u8.wrap (((a / 4294967296) / 65536) / 256)) < (256 : Int) ∧ (-9223372036854775808 ≤ ((56 : Int) + (bAt f45.s0 (IntKind.u8.wrap (((a / 4294967296) / 65536) / 256)))) ∧ ((56 : Int) + (bAt f45.s0 (IntKind.u8.wrap (((a / 4294967296) / 65536) / 256)))) ≤ 9223372036854775807 ∧ (((56 : Int) + (bAt f45.s0 (IntKind.u8.wrap (((a / 4294967296) / 65536) / 256)))) = len64 a)))) ∧ (¬ ((256 : Int) ≤ ((a / 4294967296) / 65536)) → ((0 : Int) ≤ (IntKind.u8.wrap ((a / 4294967296) / 65536)) ∧ (IntKind.u8.wrap ((a / 4294967296) / 65536)) < (256 : Int) ∧ (-9223372036854775808 ≤ ((48 : Int) + (bAt f45.s0 (IntKind.u8.wrap ((a / 4294967296) / 65536)))) ∧ ((48 : Int) + (bAt f45.s0 (IntKind.u8.wrap ((a / 4294967296) / 65536)))) ≤ 9223372036854775807 ∧ (((48 : Int) + (bAt f45.s0 (IntKind.u8.wrap ((a / 4294967296) / 65536)))) = len64 a)))))) ∧ (¬ ((65536 : Int) ≤ (a / 4294967296)) → (((256 : Int) ≤ (a / 4294967296) → ((0 : Int) ≤ (IntKind.u8.wrap ((a / 4294967296) / 256)) ∧ (IntKind.u8.wrap ((a / 4294967296) / 256)) < (256 : Int) ∧ (-9223372036854775808 ≤ ((40 : Int) + (bAt f45.s0 (IntKind.u8.wrap ((a / 4294967296) / 256)))) ∧ ((40 : Int) + (bAt f45.s0 (IntKind.u8.wrap ((a / 4294967296) / 256)))) ≤ 9223372036854775807 ∧ (((40 : Int) + (bAt f45.s0 (IntKind.u8.wrap ((a / 4294967296) / 256)))) = len64 a)))) ∧ (¬ ((256 : Int) ≤ (a / 4294967296)) → ((0 : Int) ≤ (IntKind.u8.wrap (a / 4294967296)) ∧ (IntKind.u8.wrap (a / 4294967296)) < (256 : Int) ∧ (-9223372036854775808 ≤ ((32 : Int) + (bAt f45.s0 (IntKind.u8.wrap (a / 4294967296)))) ∧ ((32 : Int) + (bAt f45.s0 (IntKind.u8.wrap (a / 4294967296)))) ≤ 9223372036854775807 ∧ (((32 : Int) + (bAt f45.s0 (IntKind.u8.wrap (a / 4294967296)))) = len64 a)))))))) ∧ (¬ ((4294967296 : Int) ≤ a) → (((65536 : Int) ≤ a → (((256 : Int) ≤ (a / 65536) → ((0 : Int) ≤ (IntKind.u8.wrap ((a / 65536) / 256)) ∧ (IntKind.u8.wrap ((a / 65536) / 256)) < (256 : Int) ∧ (-9223372036854775808 ≤ ((24 : Int) + (bAt f45.s0 (IntKind.u8.wrap ((a / 65536) / 256)))) ∧ ((24 : Int) + (bAt f45.s0 (IntKind.u8.wrap ((a / 65536) / 256)))) ≤ 9223372036854775807 ∧ (((24 : Int) + (bAt f45.s0 (IntKind.u8.wrap ((a / 65536) / 256)))) = len64 a)))) ∧ (¬ ((256 : Int) ≤ (a / 65536)) → ((0 : Int) ≤ (IntKind.u8.wrap (a / 65536)) ∧ (IntKind.u8.wrap (a / 65536)) < (256 : Int) ∧ (-9223372036854775808 ≤ ((16 : Int) + (bAt f45.s0 (IntKind.u8.wrap (a / 65536)))) ∧ ((16 : Int) + (bAt f45.s0 (IntKind.u8.wrap (a / 65536)))) ≤ 9223372036854775807 ∧ (((16 : Int) + (bAt f45.s0 (IntKind.u8.wrap (a / 65536)))) = len64 a)))))) ∧ (¬ ((65536 : Int) ≤ a) → (((256 : Int) ≤ a → ((0 : Int) ≤ (IntKind.u8.wrap (a / 256)) ∧ (IntKind.u8.wrap (a / 256)) < (256 : Int) ∧ (-9223372036854775808 ≤ ((8 : Int) + (bAt f45.s0 (IntKind.u8.wrap (a / 256)))) ∧ ((8 : Int) + (bAt f45.s0 (IntKind.u8.wrap (a / 256)))) ≤ 9223372036854775807 ∧ (((8 : Int) + (bAt f45.s0 (IntKind.u8.wrap (a / 256)))) = len64 a)))) ∧ (¬ ((256 : Int) ≤ a) → ((0 : Int) ≤ (IntKind.u8.wrap a) ∧ (IntKind.u8.wrap a) < (256 : Int) ∧ (-9223372036854775808 ≤ ((0 : Int) + (bAt f45.s0 (IntKind.u8.wrap a))) ∧ ((0 : Int) + (bAt f45.s0 (IntKind.u8.wrap a))) ≤ 9223372036854775807 ∧ (((0 : Int) + (bAt f45.s0 (IntKind.u8.wrap a))) = len64 a)))))))))
set_option maxRecDepth 100000 in
set_option maxHeartbeats 2000000 in
theorem f45.of (a : Int) (h : f45.vc a) : f45.tree a := br h Cnd.dec (fun h1 k122 => fdivK (by decide) (br k122 Cnd.dec (fun h4 k61 => fdivK (by decide) (br k61 Cnd.dec (fun h7 k32 => fdivK (by decide) (chk k32.2.2 Cnd.ix ⟨k32.1, k32.2.1⟩ (fun h10 k20 => wrapR.i64 (u8b _ _) (wrapK.i64 k20 (fun h14 h15 k16 => ⟨k16, trivial⟩))))) (fun h8 k33 => chk k33.2.2 Cnd.ix ⟨k33.1, k33.2.1⟩ (fun h21 k31 => wrapR.i64 (u8b _ _) (wrapK.i64 k31 (fun h25 h26 k27 => ⟨k27, trivial⟩)))))) (fun h5 k62 => br k62 Cnd.dec (fun h34 k59 => fdivK (by decide) (chk k59.2.2 Cnd.ix ⟨k59.1, k59.2.1⟩ (fun h37 k47 => wrapR.i64 (u8b _ _) (wrapK.i64 k47 (fun h41 h42 k43 => ⟨k43, trivial⟩))))) (fun h35 k60 => chk k60.2.2 Cnd.ix ⟨k60.1, k60.2.1⟩ (fun h48 k58 => wrapR.i64 (u8b _ _) (wrapK.i64 k58 (fun h52 h53 k54 => ⟨k54, trivial⟩))))))) (fun h2 k123 => br k123 Cnd.dec (fun h63 k120 => fdivK (by decide) (br k120 Cnd.dec (fun h66 k91 => fdivK (by decide) (chk k91.2.2 Cnd.ix ⟨k91.1, k91.2.1⟩ (fun h69 k79 => wrapR.i64 (u8b _ _) (wrapK.i64 k79 (fun h73 h74 k75 => ⟨k75, trivial⟩))))) (fun h67 k92 => chk k92.2.2 Cnd.ix ⟨k92.1, k92.2.1⟩ (fun h80 k90 => wrapR.i64 (u8b _ _) (wrapK.i64 k90 (fun h84 h85 k86 => ⟨k86, trivial⟩)))))) (fun h64 k121 => br k121 Cnd.dec (fun h93 k118 => fdivK (by decide) (chk k118.2.2 Cnd.ix ⟨k118.1, k118.2.1⟩ (fun h96 k106 => wrapR.i64 (u8b _ _) (wrapK.i64 k106 (fun h100 h101 k102 => ⟨k102, trivial⟩))))) (fun h94 k119 => chk k119.2.2 Cnd.ix ⟨k119.1, k119.2.1⟩ (fun h107 k117 => wrapR.i64 (u8b _ _) (wrapK.i64 k117 (fun h111 h112 k113 => ⟨k113, trivial⟩))))))
theorem f45.eq (a : Int) : (f45.af a).gives f45.env (f45.args a) (f45.blks a) (f45.res a) (f45.blks' a) = f45.tree a := by kernel_rfl
end Go.Abs

-- interregnum/pack.own
namespace Go.Abs
open Go
def f46.args (a : ByteArray) : List D := [.slice .ro 1 a.size (gstr a)]
def f46.blks (a : ByteArray) : List (List D) := []
def f46.res (a : ByteArray) : List D := [.slice (.own 0) 1 ((ownB a).size) (gstr (ownB a))]
def f46.blks' (a : ByteArray) : List (List D) := []
def f46.C : Contract := FnC f46.args f46.blks (fun a => own_pre a) f46.res f46.blks'
end Go.Abs

/- interregnum/pack.own -/
namespace Go.Abs
open Go
set_option linter.unusedVariables false
def f46.kills (a : ByteArray) : List Hint := []
def f46.cuts (a : ByteArray) : List (Nat × Σ β : Type, β → Tm) := []
def f46.af (a : ByteArray) : AF := AF.mk (.seq (.region [⟨(some 2), 0, (.nilSl 1), [], none⟩])
 (.seq (.region [⟨(some 3), 1, .move, [.t 0], none⟩,
  ⟨(some 4), 2, (.len false), [.t 3], none⟩,
  ⟨(some 5), 3, (.bin .add), [.t 4, .c (.int .i64 (9))], none⟩,
  ⟨(some 6), 4, (.makeSlice [.int .u8 (0)] 1), [.c (.int .i64 (0)), .t 5], none⟩,
  ⟨(some 7), 5, .move, [.t 0], none⟩,
  ⟨(some 8), 6, (.append 1 1), [.t 6, .t 7], none⟩,
  ⟨(some 2), 7, .move, [.t 8], none⟩])
 (.ret)))
  [.tmp 2] 0 8
def f46.env : Env := []
def f46.tree (a : ByteArray) : Prop := Let (IntKind.i64.wrap ((a.size : Int) + (9 : Int))) (fun v1 : Int => ((0 : Int) ≤ (0 : Int) ∧ (0 : Int) ≤ v1 ∧ room (Int.toNat v1 * 1)) ∧ ((0 = 0 ∧ room ((0 + a.size) * 1)) ∧ (((0 + a.size) = (0 + a.size)) ∧ ((0 + a.size) = ((ownB a).size)) ∧ (∀ i, i < ((ownB a).size) → DEqs ((gapp (fun _ => [.int .u8 (0 : Int)]) 0 (gstr a)) i) ((gstr (ownB a)) i)) ∧ True)))
def f46.vc (a : ByteArray) : Prop := (-9223372036854775808 ≤ ((a.size : Int) + (9 : Int)) ∧ ((a.size : Int) + (9 : Int)) ≤ 9223372036854775807 ∧ ((0 : Int) ≤ ((a.size : Int) + (9 : Int)) ∧ ((a.size : Int) + (9 : Int)) ≤ 1073741824 ∧ (0 + a.size ≤ 1073741824 ∧ (ByteArray.empty ++ a = ownB a))))
set_option maxRecDepth 100000 in
set_option maxHeartbeats 2000000 in
theorem f46.of (a : ByteArray) (h : f46.vc a) : f46.tree a := wrapK.i64 h (fun h3 h4 k5 => ⟨⟨(by decide), k5.1, room_ofI k5.2.1 (by decide)⟩, ⟨⟨rfl, (room_of k5.2.2.1 (by decide))⟩, ⟨rfl, slK (RdB.to (RdB.app RdB.nil RdB.self) k5.2.2.2) (trivial)⟩⟩⟩)
theorem f46.eq (a : ByteArray) : (f46.af a).gives f46.env (f46.args a) (f46.blks a) (f46.res a) (f46.blks' a) = f46.tree a := by kernel_rfl
end Go.Abs

-- interregnum/pack.Put
namespace Go.Abs
open Go
def f14.args (a : ByteArray × Int) : List D := [.slice .ro 1 a.1.size (gstr a.1), .int .u64 a.2]
def f14.blks (a : ByteArray × Int) : List (List D) := []
def f14.res (a : ByteArray × Int) : List D := [.slice (.own 0) 1 ((putB a).size) (gstr (putB a))]
def f14.blks' (a : ByteArray × Int) : List (List D) := []
def f14.C : Contract := FnC f14.args f14.blks (fun a => put_pre a) f14.res f14.blks'
end Go.Abs

/- interregnum/pack.Put -/
namespace Go.Abs
open Go
set_option linter.unusedVariables false
def f14.kills (a : ByteArray × Int) : List Hint := [.tell (ByteArray × Int) (fun x => ⟨[.dead, .int .u64 a.2, .dead, .dead, .dead, .dead, .slice (.own 10) 1 x.1.size (gstr x.1), .int .i64 x.2, .dead, .dead, .dead, .dead, .dead, .dead, .dead, .dead, .dead, .dead, .dead, .dead, .dead, .dead, .dead, .dead, .dead, .dead, .dead, .dead, .dead, .dead, .dead, .dead, .dead], [], [(10, 1, x.1.size)]⟩)]
def f14.cuts (a : ByteArray × Int) : List (Nat × Σ β : Type, β → Tm) := []
def f14.af (a : ByteArray × Int) : AF := AF.mk (.seq (.region [⟨(some 4), 0, (.nilSl 1), [], none⟩])
 (.seq (.region [⟨(some 8), 1, .move, [.t 1], none⟩,
  ⟨(some 9), 2, (.call false 45), [.t 8], none⟩,
  ⟨(some 10), 6, (.bin .add), [.t 9, .c (.int .i64 (7))], none⟩,
  ⟨(some 11), 7, (.bin .quo), [.t 10, .c (.int .i64 (8))], none⟩,
  ⟨(some 5), 8, .move, [.t 11], none⟩])
 (.seq (.region [⟨(some 12), 9, .move, [.t 0], none⟩,
  ⟨(some 13), 10, (.call false 46), [.t 12], none⟩,
  ⟨(some 14), 14, .move, [.t 5], none⟩,
  ⟨(some 15), 15, (.conv (.int .u8)), [.t 14], none⟩,
  ⟨(some 16), 16, (.buildSlice 1 1 [.int .u8 (0)] [(0, 1)]), [.t 15], none⟩,
  ⟨(some 17), 17, (.append 1 1), [.t 13, .t 16], none⟩,
  ⟨(some 6), 18, .move, [.t 17], none⟩])
 (.seq (.seq (.region [⟨(some 18), 19, .move, [.t 5], none⟩,
  ⟨(some 19), 20, (.bin .sub), [.t 18, .c (.int .i64 (1))], none⟩,
  ⟨(some 7), 21, .move, [.t 19], none⟩])
 (.block 0 (.loopT (ByteArray × Int) (fun x => ⟨[.dead, .int .u64 a.2, .dead, .dead, .dead, .dead, .slice (.own 10) 1 x.1.size (gstr x.1), .int .i64 x.2, .dead, .dead, .dead, .dead, .dead, .dead, .dead, .dead, .dead, .dead, .dead, .dead, .dead, .dead, .dead, .dead, .dead, .dead, .dead, .dead, .dead, .dead, .dead, .dead, .dead], [], [(10, 1, x.1.size)]⟩) 22 36 (.seq (.seq (.region [⟨(some 20), 22, .move, [.t 7], none⟩,
  ⟨(some 21), 23, (.bin .geq), [.t 20, .c (.int .i64 (0))], none⟩])
 (.cond (.t 21) (.skip) (.exit 0)))
 (.seq (.block 1 (.region [⟨(some 24), 24, .move, [.t 6], none⟩,
  ⟨(some 25), 25, .move, [.t 1], none⟩,
  ⟨(some 26), 26, .move, [.t 7], none⟩,
  ⟨(some 27), 27, (.bin .mul), [.c (.int .i64 (8)), .t 26], none⟩,
  ⟨(some 28), 28, (.bin .shr), [.t 25, .t 27], none⟩,
  ⟨(some 29), 29, (.conv (.int .u8)), [.t 28], none⟩,
  ⟨(some 30), 30, (.buildSlice 1 1 [.int .u8 (0)] [(0, 1)]), [.t 29], none⟩,
  ⟨(some 31), 31, (.append 1 1), [.t 24, .t 30], none⟩,
  ⟨(some 6), 32, .move, [.t 31], none⟩]))
 (.region [⟨(some 22), 33, .move, [.t 7], none⟩,
  ⟨(some 23), 34, (.bin .sub), [.t 22, .c (.int .i64 (1))], none⟩,
  ⟨(some 7), 35, .move, [.t 23], none⟩]))))))
 (.seq (.region [⟨(some 32), 36, .move, [.t 6], none⟩,
  ⟨(some 4), 37, .move, [.t 32], none⟩])
 (.ret))))))
  [.tmp 4] 0 31
def f14.env : Env := [(45, f45.C), (46, f46.C)]
def f14.tree (a : ByteArray × Int) : Prop := ∃ c1 : Int, (a.2 = c1) ∧ (len64_pre c1) ∧ Let (IntKind.i64.wrap ((len64 c1) + (7 : Int))) (fun v2 : Int => Let (IntKind.i64.wrap (Int.tdiv v2 (8 : Int))) (fun v3 : Int => ∃ c4 : ByteArray, (a.1.size = c4.size) ∧ (∀ i, i < c4.size → DEqs ((gstr a.1) i) ((gstr c4) i)) ∧ (own_pre c4) ∧ (((ownB c4).size) = ((ownB c4).size) ∧ room ((((ownB c4).size) + 1) * 1)) ∧ (Let (IntKind.i64.wrap (v3 - (1 : Int))) (fun v5 : Int => ∃ (I7 : (ByteArray × Int) → Prop) (μ8 : (ByteArray × Int) → Nat), (∃ x6 : ByteArray × Int, (a.2 = a.2) ∧ ((((ownB c4).size) + 1) = x6.1.size) ∧ (∀ i, i < x6.1.size → DEqs ((gapp (gstr (ownB c4)) ((ownB c4).size) (fun _ => [.int .u8 (IntKind.u8.wrap v3)])) i) ((gstr x6.1) i)) ∧ (v5 = x6.2) ∧ ((((ownB c4).size) + 1) = x6.1.size) ∧ I7 x6) ∧ ∀ y9 : ByteArray × Int, I7 y9 → (Br (decide ((0 : Int) ≤ y9.2)) (Let (IntKind.i64.wrap ((8 : Int) * y9.2)) (fun v12 : Int => Br (decide ((0 : Int) ≤ v12)) (Let (Int.fdiv a.2 (2 ^ min (Int.toNat v12) 64)) (fun v14 : Int => (y9.1.size = y9.1.size ∧ room ((y9.1.size + 1) * 1)) ∧ (Let (IntKind.i64.wrap (y9.2 - (1 : Int))) (fun v15 : Int => ∃ x16 : ByteArray × Int, (a.2 = a.2) ∧ ((y9.1.size + 1) = x16.1.size) ∧ (∀ i, i < x16.1.size → DEqs ((gapp (gstr y9.1) y9.1.size (fun _ => [.int .u8 (IntKind.u8.wrap v14)])) i) ((gstr x16.1) i)) ∧ (v15 = x16.2) ∧ ((y9.1.size + 1) = x16.1.size) ∧ I7 x16 ∧ μ8 x16 < μ8 y9)))) False)) ((y9.1.size = y9.1.size) ∧ (y9.1.size = ((putB a).size)) ∧ (∀ i, i < ((putB a).size) → DEqs ((gstr y9.1) i) ((gstr (putB a)) i)) ∧ True))))))
def f14.vc (a : ByteArray × Int) : Prop := (len64_pre a.2 ∧ (-9223372036854775808 ≤ ((len64 (a.2)) + (7 : Int)) ∧ ((len64 (a.2)) + (7 : Int)) ≤ 9223372036854775807 ∧ (0 ≤ ((len64 (a.2)) + (7 : Int)) ∧ ((len64 (a.2)) + (7 : Int)) ≤ 9223372036854775807 ∧ (own_pre a.1 ∧ (((ownB (a.1)).size) + 1 ≤ 1073741824 ∧ (-9223372036854775808 ≤ ((((len64 (a.2)) + (7 : Int)) / (8 : Int)) - (1 : Int)) ∧ ((((len64 (a.2)) + (7 : Int)) / (8 : Int)) - (1 : Int)) ≤ 9223372036854775807 ∧ (∃ (I7 : (ByteArray × Int) → Prop) (μ8 : (ByteArray × Int) → Nat), I7 ((ownB (a.1)) ++ (by1 (IntKind.u8.wrap (((len64 (a.2)) + (7 : Int)) / (8 : Int)))), ((((len64 (a.2)) + (7 : Int)) / (8 : Int)) - (1 : Int))) ∧ ∀ y9 : ByteArray × Int, I7 y9 → (((0 : Int) ≤ y9.2 → (-9223372036854775808 ≤ ((8 : Int) * y9.2) ∧ ((8 : Int) * y9.2) ≤ 9223372036854775807 ∧ (((0 : Int) ≤ ((8 : Int) * y9.2)) ∧ (y9.1.size + 1 ≤ 1073741824 ∧ (-9223372036854775808 ≤ (y9.2 - (1 : Int)) ∧ (y9.2 - (1 : Int)) ≤ 9223372036854775807 ∧ (I7 (y9.1 ++ (by1 (IntKind.u8.wrap (a.2 / (2 ^ min (Int.toNat ((8 : Int) * y9.2)) 64)))), (y9.2 - (1 : Int))) ∧ μ8 (y9.1 ++ (by1 (IntKind.u8.wrap (a.2 / (2 ^ min (Int.toNat ((8 : Int) * y9.2)) 64)))), (y9.2 - (1 : Int))) < μ8 y9)))))) ∧ (¬ ((0 : Int) ≤ y9.2) → (y9.1 = putB a))))))))))
set_option maxRecDepth 100000 in
set_option maxHeartbeats 2000000 in
theorem f14.of (a : ByteArray × Int) (h : f14.vc a) : f14.tree a := ⟨a.2, ⟨rfl, ⟨h.1, wrapK.i64 h.2 (fun h35 h36 k37 => divK.i64 k37.1 k37.2.1 (by decide) (⟨a.1, slK RdB.self (⟨k37.2.2.1, ⟨⟨rfl, (room_of k37.2.2.2.1 (by decide))⟩, wrapK.i64 k37.2.2.2.2 (fun h31 h32 k33 => Exists.elim k33 (fun I7 h28_ => Exists.elim h28_ (fun μ8 h28 => ⟨I7, μ8, ⟨((ownB (a.1)) ++ (by1 (IntKind.u8.wrap (((len64 (a.2)) + (7 : Int)) / (8 : Int)))), ((((len64 (a.2)) + (7 : Int)) / (8 : Int)) - (1 : Int))), ⟨rfl, slK (RdB.app RdB.self (RdB.one (by first | exact u8w _ | exact u8b _ _ | exact u8bN _ _ | decide | omega))) (⟨rfl, ⟨(numB (gapp (gstr (ownB (a.1))) ((ownB (a.1)).size) (fun _ => [.int .u8 (IntKind.u8.wrap (((len64 (a.2)) + (7 : Int)) / (8 : Int)))])) (RdB.app RdB.self (RdB.one (by first | exact u8w _ | exact u8b _ _ | exact u8bN _ _ | decide | omega)))), h28.1⟩⟩)⟩⟩, fun y9 h30 => br (h28.2 y9 h30) Cnd.dec (fun h10 k26 => wrapK.i64 k26 (fun h22 h23 k24 => chk k24.2 Cnd.dec k24.1 (fun h13 k21 => fdivK (Int.le_of_lt (Int.pow_pos (by decide))) (⟨⟨rfl, (room_of k21.1 (by decide))⟩, wrapK.i64 k21.2 (fun h18 h19 k20 => ⟨(y9.1 ++ (by1 (IntKind.u8.wrap (a.2 / (2 ^ min (Int.toNat ((8 : Int) * y9.2)) 64)))), (y9.2 - (1 : Int))), ⟨rfl, slK (RdB.app RdB.self (RdB.one (by first | exact u8w _ | exact u8b _ _ | exact u8bN _ _ | decide | omega))) (⟨rfl, ⟨(numB (gapp (gstr y9.1) y9.1.size (fun _ => [.int .u8 (IntKind.u8.wrap (a.2 / (2 ^ min (Int.toNat ((8 : Int) * y9.2)) 64)))])) (RdB.app RdB.self (RdB.one (by first | exact u8w _ | exact u8b _ _ | exact u8bN _ _ | decide | omega)))), k20⟩⟩)⟩⟩)⟩)))) (fun h11 k27 => ⟨rfl, slK (RdB.to RdB.self k27) (trivial)⟩)⟩)))⟩⟩)⟩))⟩⟩⟩
theorem f14.eq (a : ByteArray × Int) : (f14.af a).gives f14.env (f14.args a) (f14.blks a) (f14.res a) (f14.blks' a) = f14.tree a := by kernel_rfl
end Go.Abs

-- interregnum/pack.PutText
namespace Go.Abs
open Go
def f16.args (a : ByteArray × ByteArray) : List D := [.slice .ro 1 a.1.size (gstr a.1), .str a.2]
def f16.blks (a : ByteArray × ByteArray) : List (List D) := []
def f16.res (a : ByteArray × ByteArray) : List D := [.slice (.own 0) 1 ((putText a).size) (gstr (putText a))]
def f16.blks' (a : ByteArray × ByteArray) : List (List D) := []
def f16.C : Contract := FnC f16.args f16.blks (fun a => putText_pre a) f16.res f16.blks'
end Go.Abs

/- interregnum/pack.PutText -/
namespace Go.Abs
open Go
set_option linter.unusedVariables false
def f16.kills (a : ByteArray × ByteArray) : List Hint := []
def f16.cuts (a : ByteArray × ByteArray) : List (Nat × Σ β : Type, β → Tm) := []
def f16.af (a : ByteArray × ByteArray) : AF := AF.mk (.seq (.region [⟨(some 4), 0, (.nilSl 1), [], none⟩])
 (.seq (.region [⟨(some 5), 1, .move, [.t 0], none⟩,
  ⟨(some 6), 2, .move, [.t 1], none⟩,
  ⟨(some 7), 3, (.len true), [.t 6], none⟩,
  ⟨(some 8), 4, (.conv (.int .u64)), [.t 7], none⟩,
  ⟨(some 9), 5, (.call false 14), [.t 5, .t 8], none⟩,
  ⟨(some 10), 9, .move, [.t 1], none⟩,
  ⟨(some 11), 10, (.append 1 1), [.t 9, .t 10], none⟩,
  ⟨(some 4), 11, .move, [.t 11], none⟩])
 (.ret)))
  [.tmp 4] 0 10
def f16.env : Env := [(14, f14.C)]
def f16.tree (a : ByteArray × ByteArray) : Prop := Let (IntKind.u64.wrap (a.2.size : Int)) (fun v1 : Int => ∃ c2 : ByteArray × Int, (a.1.size = c2.1.size) ∧ (∀ i, i < c2.1.size → DEqs ((gstr a.1) i) ((gstr c2.1) i)) ∧ (v1 = c2.2) ∧ (put_pre c2) ∧ (((putB c2).size) = ((putB c2).size) ∧ room ((((putB c2).size) + a.2.size) * 1)) ∧ (((((putB c2).size) + a.2.size) = (((putB c2).size) + a.2.size)) ∧ ((((putB c2).size) + a.2.size) = ((putText a).size)) ∧ (∀ i, i < ((putText a).size) → DEqs ((gapp (gstr (putB c2)) ((putB c2).size) (gstr a.2)) i) ((gstr (putText a)) i)) ∧ True))
def f16.vc (a : ByteArray × ByteArray) : Prop := (0 ≤ (a.2.size : Int) ∧ (a.2.size : Int) ≤ 18446744073709551615 ∧ (put_pre (a.1, (a.2.size : Int)) ∧ (((putB (a.1, (a.2.size : Int))).size) + a.2.size ≤ 1073741824 ∧ ((putB (a.1, (a.2.size : Int))) ++ a.2 = putText a))))
set_option maxRecDepth 100000 in
set_option maxHeartbeats 2000000 in
theorem f16.of (a : ByteArray × ByteArray) (h : f16.vc a) : f16.tree a := wrapK.u64 h (fun h5 h6 k7 => ⟨(a.1, (a.2.size : Int)), slK RdB.self (⟨rfl, ⟨k7.1, ⟨⟨rfl, (room_of k7.2.1 (by decide))⟩, ⟨rfl, slK (RdB.to (RdB.app RdB.self RdB.self) k7.2.2) (trivial)⟩⟩⟩⟩)⟩)
theorem f16.eq (a : ByteArray × ByteArray) : (f16.af a).gives f16.env (f16.args a) (f16.blks a) (f16.res a) (f16.blks' a) = f16.tree a := by kernel_rfl
end Go.Abs

-- interregnum/model.putAmount
namespace Go.Abs
open Go
def f62.args (a : ByteArray × T_ar3_i64) : List D := [.slice .ro 1 a.1.size (gstr a.1), .agg [.int .i64 a.2.1, .int .i64 a.2.2.1, .int .i64 a.2.2.2]]
def f62.blks (a : ByteArray × T_ar3_i64) : List (List D) := []
def f62.res (a : ByteArray × T_ar3_i64) : List D := [.slice .ro 1 ((putAmt a).size) (gstr (putAmt a))]
def f62.blks' (a : ByteArray × T_ar3_i64) : List (List D) := []
def f62.C : Contract := FnC f62.args f62.blks (fun a => putAmt_pre a) f62.res f62.blks'
end Go.Abs

/- interregnum/model.putAmount -/
namespace Go.Abs
open Go
set_option linter.unusedVariables false
def f62.kills (a : ByteArray × T_ar3_i64) : List Hint := [.unroll 4 [1, 2, 3, 4, 5, 6, 9, 10, 11, 12, 13, 14, 15, 16] [] [1]]
def f62.cuts (a : ByteArray × T_ar3_i64) : List (Nat × Σ β : Type, β → Tm) := []
def f62.af (a : ByteArray × T_ar3_i64) : AF := AF.mk (.seq (.region [⟨(some 3), 0, .box, [.t 1], none⟩,
  ⟨(some 4), 1, (.nilSl 1), [], none⟩])
 (.seq (.seq (.region [⟨(some 7), 2, (.load true 3), [.t 3], none⟩,
  ⟨(some 8), 3, .move, [.c (.int .i64 (0))], none⟩])
 (.block 0 (.loop 4 [1, 2, 3, 4, 5, 6, 9, 10, 11, 12, 13, 14, 15, 16] [] [1] 4 17 (.seq (.region [⟨(some 9), 4, (.bin .lss), [.t 8, .c (.int .i64 (3))], none⟩])
 (.seq (.cond (.t 9) (.skip) (.exit 0))
 (.seq (.block 1 (.seq (.region [⟨(some 10), 5, (.indexArr false 1 3), [.t 7, .t 8], none⟩,
  ⟨(some 6), 6, .move, [.t 10], none⟩])
 (.region [⟨(some 11), 7, .move, [.t 0], none⟩,
  ⟨(some 12), 8, .move, [.t 6], none⟩,
  ⟨(some 13), 9, (.conv (.int .u64)), [.t 12], none⟩,
  ⟨(some 14), 10, (.call false 14), [.t 11, .t 13], none⟩,
  ⟨(some 0), 14, .move, [.t 14], none⟩])))
 (.region [⟨(some 15), 15, (.bin .add), [.t 8, .c (.int .i64 (1))], none⟩,
  ⟨(some 8), 16, .move, [.t 15], none⟩])))))))
 (.seq (.region [⟨(some 16), 17, .move, [.t 0], none⟩,
  ⟨(some 4), 18, .move, [.t 16], none⟩])
 (.ret))))
  [.tmp 4] 0 15
def f62.env : Env := [(14, f14.C)]
def f62.tree (a : ByteArray × T_ar3_i64) : Prop := Let (IntKind.u64.wrap a.2.1) (fun v1 : Int => ∃ c2 : ByteArray × Int, (a.1.size = c2.1.size) ∧ (∀ i, i < c2.1.size → DEqs ((gstr a.1) i) ((gstr c2.1) i)) ∧ (v1 = c2.2) ∧ (put_pre c2) ∧ Let (IntKind.u64.wrap a.2.2.1) (fun v3 : Int => ∃ c4 : ByteArray × Int, (((putB c2).size) = c4.1.size) ∧ (∀ i, i < c4.1.size → DEqs ((gstr (putB c2)) i) ((gstr c4.1) i)) ∧ (v3 = c4.2) ∧ (put_pre c4) ∧ Let (IntKind.u64.wrap a.2.2.2) (fun v5 : Int => ∃ c6 : ByteArray × Int, (((putB c4).size) = c6.1.size) ∧ (∀ i, i < c6.1.size → DEqs ((gstr (putB c4)) i) ((gstr c6.1) i)) ∧ (v5 = c6.2) ∧ (put_pre c6) ∧ (((putB c6).size) = ((putAmt a).size)) ∧ (∀ i, i < ((putAmt a).size) → DEqs ((gstr (putB c6)) i) ((gstr (putAmt a)) i)) ∧ True)))
def f62.vc (a : ByteArray × T_ar3_i64) : Prop := (0 ≤ a.2.1 ∧ a.2.1 ≤ 18446744073709551615 ∧ (put_pre (a.1, (a.2.1)) ∧ (0 ≤ a.2.2.1 ∧ a.2.2.1 ≤ 18446744073709551615 ∧ (put_pre ((putB (a.1, (a.2.1))), (a.2.2.1)) ∧ (0 ≤ a.2.2.2 ∧ a.2.2.2 ≤ 18446744073709551615 ∧ (put_pre ((putB ((putB (a.1, (a.2.1))), (a.2.2.1))), (a.2.2.2)) ∧ ((putB ((putB ((putB (a.1, (a.2.1))), (a.2.2.1))), (a.2.2.2))) = putAmt a)))))))
set_option maxRecDepth 100000 in
set_option maxHeartbeats 2000000 in
theorem f62.of (a : ByteArray × T_ar3_i64) (h : f62.vc a) : f62.tree a := wrapK.u64 h (fun h17 h18 k19 => ⟨(a.1, (a.2.1)), slK RdB.self (⟨rfl, ⟨k19.1, wrapK.u64 k19.2 (fun h13 h14 k15 => ⟨((putB (a.1, (a.2.1))), (a.2.2.1)), slK RdB.self (⟨rfl, ⟨k15.1, wrapK.u64 k15.2 (fun h9 h10 k11 => ⟨((putB ((putB (a.1, (a.2.1))), (a.2.2.1))), (a.2.2.2)), slK RdB.self (⟨rfl, ⟨k11.1, slK (RdB.to RdB.self k11.2) (trivial)⟩⟩)⟩)⟩⟩)⟩)⟩⟩)⟩)
theorem f62.eq (a : ByteArray × T_ar3_i64) : (f62.af a).gives f62.env (f62.args a) (f62.blks a) (f62.res a) (f62.blks' a) = f62.tree a := by kernel_rfl
end Go.Abs

-- interregnum/model.PutQueue
namespace Go.Abs
open Go
def f41.args (a : ByteArray × T_api_Queue) : List D := [.slice .ro 1 a.1.size (gstr a.1), .agg [.str a.2.1, .int .i64 a.2.2.1, .int .i64 a.2.2.2.1, .int .i64 a.2.2.2.2]]
def f41.blks (a : ByteArray × T_api_Queue) : List (List D) := []
def f41.res (a : ByteArray × T_api_Queue) : List D := [.slice .ro 1 ((putQueue a).size) (gstr (putQueue a))]
def f41.blks' (a : ByteArray × T_api_Queue) : List (List D) := []
def f41.C : Contract := FnC f41.args f41.blks (fun a => putQueue_pre a) f41.res f41.blks'
end Go.Abs

/- interregnum/model.PutQueue -/
namespace Go.Abs
open Go
set_option linter.unusedVariables false
def f41.kills (a : ByteArray × T_api_Queue) : List Hint := []
def f41.cuts (a : ByteArray × T_api_Queue) : List (Nat × Σ β : Type, β → Tm) := []
def f41.af (a : ByteArray × T_api_Queue) : AF := AF.mk (.seq (.region [⟨(some 3), 0, .box, [.t 1], none⟩,
  ⟨(some 4), 1, (.nilSl 1), [], none⟩])
 (.seq (.seq (.region [⟨(some 5), 2, (.load true 4), [.t 3], none⟩,
  ⟨(some 6), 3, (.call false 25), [.t 5], none⟩,
  ⟨(some 7), 7, (.un .not), [.t 6], none⟩])
 (.cond (.t 7) (.seq (.region [⟨(some 8), 8, .move, [.t 0], none⟩,
  ⟨(some 9), 9, (.call false 60), [.t 8], none⟩,
  ⟨(some 4), 13, .move, [.t 9], none⟩])
 (.ret)) (.skip)))
 (.seq (.region [⟨(some 10), 14, .move, [.t 0], none⟩,
  ⟨(some 11), 15, (.fieldAddr 0), [.t 3], none⟩,
  ⟨(some 12), 16, (.load false 1), [.t 11], none⟩,
  ⟨(some 13), 17, (.call false 16), [.t 10, .t 12], none⟩,
  ⟨(some 14), 21, (.fieldAddr 1), [.t 3], none⟩,
  ⟨(some 15), 22, (.load true 3), [.t 14], none⟩,
  ⟨(some 16), 23, (.call false 62), [.t 13, .t 15], none⟩,
  ⟨(some 4), 27, .move, [.t 16], none⟩])
 (.ret))))
  [.tmp 4] 0 15
def f41.env : Env := [(25, f25.C), (60, f60.C), (16, f16.C), (62, f62.C)]
def f41.tree (a : ByteArray × T_api_Queue) : Prop := ∃ c1 : T_api_Queue, (a.2.1 = c1.1) ∧ (a.2.2.1 = c1.2.1) ∧ (a.2.2.2.1 = c1.2.2.1) ∧ (a.2.2.2.2 = c1.2.2.2) ∧ (queue_pre c1) ∧ Br (!(queueB c1)) (∃ c4 : ByteArray, (a.1.size = c4.size) ∧ (∀ i, i < c4.size → DEqs ((gstr a.1) i) ((gstr c4) i)) ∧ (same_pre c4) ∧ (((sameB c4).size) = ((sameB c4).size)) ∧ (((sameB c4).size) = ((putQueue a).size)) ∧ (∀ i, i < ((putQueue a).size) → DEqs ((gstr (sameB c4)) i) ((gstr (putQueue a)) i)) ∧ True) (∃ c7 : ByteArray × ByteArray, (a.1.size = c7.1.size) ∧ (∀ i, i < c7.1.size → DEqs ((gstr a.1) i) ((gstr c7.1) i)) ∧ (a.2.1 = c7.2) ∧ (putText_pre c7) ∧ ∃ c8 : ByteArray × T_ar3_i64, (((putText c7).size) = c8.1.size) ∧ (∀ i, i < c8.1.size → DEqs ((gstr (putText c7)) i) ((gstr c8.1) i)) ∧ (a.2.2.1 = c8.2.1) ∧ (a.2.2.2.1 = c8.2.2.1) ∧ (a.2.2.2.2 = c8.2.2.2) ∧ (putAmt_pre c8) ∧ (((putAmt c8).size) = ((putQueue a).size)) ∧ (∀ i, i < ((putQueue a).size) → DEqs ((gstr (putAmt c8)) i) ((gstr (putQueue a)) i)) ∧ True)
def f41.vc (a : ByteArray × T_api_Queue) : Prop := (queue_pre a.2 ∧ ((¬ ((queueB (a.2)) = true) → (same_pre a.1 ∧ ((sameB (a.1)) = putQueue a))) ∧ (¬ (¬ ((queueB (a.2)) = true)) → (putText_pre (a.1, a.2.1) ∧ (putAmt_pre ((putText (a.1, a.2.1)), a.2.2) ∧ ((putAmt ((putText (a.1, a.2.1)), a.2.2)) = putQueue a))))))
set_option maxRecDepth 100000 in
set_option maxHeartbeats 2000000 in
theorem f41.of (a : ByteArray × T_api_Queue) (h : f41.vc a) : f41.tree a := ⟨a.2, ⟨rfl, ⟨rfl, ⟨rfl, ⟨rfl, ⟨h.1, br h.2 (Cnd.not Cnd.b) (fun h2 k12 => ⟨a.1, slK RdB.self (⟨k12.1, ⟨rfl, slK (RdB.to RdB.self k12.2) (trivial)⟩⟩)⟩) (fun h3 k13 => ⟨(a.1, a.2.1), slK RdB.self (⟨rfl, ⟨k13.1, ⟨((putText (a.1, a.2.1)), a.2.2), slK RdB.self (⟨rfl, ⟨rfl, ⟨rfl, ⟨k13.2.1, slK (RdB.to RdB.self k13.2.2) (trivial)⟩⟩⟩⟩)⟩⟩⟩)⟩)⟩⟩⟩⟩⟩⟩
theorem f41.eq (a : ByteArray × T_api_Queue) : (f41.af a).gives f41.env (f41.args a) (f41.blks a) (f41.res a) (f41.blks' a) = f41.tree a := by kernel_rfl
end Go.Abs

-- interregnum/interregnumlaw05.awake
namespace Go.Abs
open Go
def f22.args (a : Unit) : List D := []
def f22.blks (a : Unit) : List (List D) := []
def f22.res (a : Unit) : List D := [.bool (lawTrue a)]
def f22.blks' (a : Unit) : List (List D) := []
def f22.C : Contract := FnC f22.args f22.blks (fun _ => True) f22.res f22.blks'
end Go.Abs

/- interregnum/interregnumlaw05.awake -/
namespace Go.Abs
open Go
set_option linter.unusedVariables false
def f22.s0 : ByteArray := ⟨#[113]⟩
def f22.kills (a : Unit) : List Hint := []
def f22.cuts (a : Unit) : List (Nat × Σ β : Type, β → Tm) := []
def f22.af (a : Unit) : AF := AF.mk (.seq (.region [⟨(some 0), 0, .move, [.c (.bool false)], none⟩])
 (.seq (.region [⟨(some 2), 1, (.build [.int .i64 (0), .int .i64 (0), .int .i64 (0)] [(0, 1)]), [.c (.int .i64 (1))], none⟩,
  ⟨(some 3), 2, (.build [.str ByteArray.empty, .int .i64 (0), .int .i64 (0), .int .i64 (0)] [(0, 1), (1, 3)]), [.c (.str f22.s0), .t 2], none⟩,
  ⟨(some 4), 3, (.call false 41), [.c (.slice .full 1 0 gnil), .t 3], none⟩,
  ⟨(some 1), 7, .move, [.t 4], none⟩])
 (.seq (.region [⟨(some 5), 8, (.build [.str ByteArray.empty, .int .i64 (0), .int .i64 (0), .int .i64 (0)] [(0, 1)]), [.c (.str f22.s0)], none⟩,
  ⟨(some 6), 9, (.call false 25), [.t 5], none⟩,
  ⟨(some 7), 13, .move, [.t 6], none⟩,
  ⟨(some 8), 14, .move, [.t 1], (some (7, true))⟩,
  ⟨(some 9), 15, (.len false), [.t 8], (some (7, true))⟩,
  ⟨(some 10), 16, (.bin .eql), [.t 9, .c (.int .i64 (7))], (some (7, true))⟩,
  ⟨(some 11), 17, .pick, [.t 7, .t 10, .c (.bool false)], none⟩,
  ⟨(some 12), 18, .move, [.t 11], none⟩,
  ⟨(some 13), 19, .move, [.t 1], (some (12, true))⟩,
  ⟨(some 14), 20, (.indexAddr 1 none), [.t 13, .c (.int .i64 (2))], (some (12, true))⟩,
  ⟨(some 15), 21, (.load false 1), [.t 14], (some (12, true))⟩,
  ⟨(some 16), 22, (.bin .eql), [.t 15, .c (.int .u8 (113))], (some (12, true))⟩,
  ⟨(some 17), 23, .pick, [.t 12, .t 16, .c (.bool false)], none⟩,
  ⟨(some 0), 24, .move, [.t 17], none⟩])
 (.ret))))
  [.tmp 0] 0 18
def f22.env : Env := [(41, f41.C), (25, f25.C)]
def f22.tree (a : Unit) : Prop := ∃ c1 : ByteArray × T_api_Queue, (0 = c1.1.size) ∧ (∀ i, i < c1.1.size → DEqs (gnil i) ((gstr c1.1) i)) ∧ (f22.s0 = c1.2.1) ∧ ((1 : Int) = c1.2.2.1) ∧ ((0 : Int) = c1.2.2.2.1) ∧ ((0 : Int) = c1.2.2.2.2) ∧ (putQueue_pre c1) ∧ ∃ c2 : T_api_Queue, (f22.s0 = c2.1) ∧ ((0 : Int) = c2.2.1) ∧ ((0 : Int) = c2.2.2.1) ∧ ((0 : Int) = c2.2.2.2) ∧ (queue_pre c2) ∧ Br (queueB c2) (Br (((putQueue c1).size : Int) == (7 : Int)) (Br (decide ((0 : Int) ≤ (2 : Int)) && decide ((2 : Int) < ((putQueue c1).size : Int))) ((((bAt (putQueue c1) (2 : Int)) == (113 : Int)) = (lawTrue a)) ∧ True) False) ((false = (lawTrue a)) ∧ True)) ((false = (lawTrue a)) ∧ True)
def f22.vc (a : Unit) : Prop := (putQueue_pre (ByteArray.empty, (f22.s0, ((1 : Int), (0 : Int), (0 : Int)))) ∧ (queue_pre (f22.s0, ((0 : Int), (0 : Int), (0 : Int))) ∧ (((queueB (f22.s0, ((0 : Int), (0 : Int), (0 : Int)))) = true → ((((putQueue (ByteArray.empty, (f22.s0, ((1 : Int), (0 : Int), (0 : Int))))).size : Int) = (7 : Int) → ((2 : Int) < ((putQueue (ByteArray.empty, (f22.s0, ((1 : Int), (0 : Int), (0 : Int))))).size : Int) ∧ (((bAt (putQueue (ByteArray.empty, (f22.s0, ((1 : Int), (0 : Int), (0 : Int))))) (2 : Int)) == (113 : Int)) = lawTrue a))) ∧ (¬ (((putQueue (ByteArray.empty, (f22.s0, ((1 : Int), (0 : Int), (0 : Int))))).size : Int) = (7 : Int)) → (false = lawTrue a)))) ∧ (¬ ((queueB (f22.s0, ((0 : Int), (0 : Int), (0 : Int)))) = true) → (false = lawTrue a)))))
set_option maxRecDepth 100000 in
set_option maxHeartbeats 2000000 in
theorem f22.of (a : Unit) (h : f22.vc a) : f22.tree a := ⟨(ByteArray.empty, (f22.s0, ((1 : Int), (0 : Int), (0 : Int)))), slK RdB.nil (⟨rfl, ⟨rfl, ⟨rfl, ⟨rfl, ⟨h.1, ⟨(f22.s0, ((0 : Int), (0 : Int), (0 : Int))), ⟨rfl, ⟨rfl, ⟨rfl, ⟨rfl, ⟨h.2.1, br h.2.2 Cnd.b (fun h3 k14 => br k14 Cnd.eq (fun h5 k11 => chk k11.2 Cnd.ix ⟨(by decide), k11.1⟩ (fun h7 k9 => ⟨k9, trivial⟩)) (fun h6 k12 => ⟨k12, trivial⟩)) (fun h4 k15 => ⟨k15, trivial⟩)⟩⟩⟩⟩⟩⟩⟩⟩⟩⟩⟩)⟩
theorem f22.eq (a : Unit) : (f22.af a).gives f22.env (f22.args a) (f22.blks a) (f22.res a) (f22.blks' a) = f22.tree a := by kernel_rfl
end Go.Abs

-- interregnum/interregnumlaw05.labels
namespace Go.Abs
open Go
def f47.args (a : List (T_api_Label)) : List D := [.slice .ro 2 a.length (gl e_api_Label a)]
def f47.blks (a : List (T_api_Label)) : List (List D) := []
def f47.res (a : List (T_api_Label)) : List D := [.bool (labs5 a)]
def f47.blks' (a : List (T_api_Label)) : List (List D) := []
def f47.C : Contract := FnC f47.args f47.blks (fun a => lbls_pre a) f47.res f47.blks'
end Go.Abs

/- interregnum/interregnumlaw05.labels -/
namespace Go.Abs
open Go
set_option linter.unusedVariables false
def f47.kills (a : List (T_api_Label)) : List Hint := [.tell Int (fun x => ⟨[.slice .ro 2 a.length (gl e_api_Label a), .dead, .dead, .dead, .dead, .dead, .dead, .dead, .int .i64 (a.length : Int), .int .i64 x, .dead, .dead, .dead, .dead, .dead, .dead, .dead, .dead, .dead, .dead, .dead, .dead, .dead, .dead, .dead, .dead, .dead], [], []⟩)]
def f47.cuts (a : List (T_api_Label)) : List (Nat × Σ β : Type, β → Tm) := []
def f47.af (a : List (T_api_Label)) : AF := AF.mk (.seq (.region [⟨(some 2), 0, .move, [.c (.bool false)], none⟩])
 (.seq (.seq (.region [⟨(some 4), 1, .move, [.t 0], none⟩,
  ⟨(some 5), 2, (.len false), [.t 4], none⟩,
  ⟨(some 6), 3, (.bin .gtr), [.t 5, .c (.int .i64 (100))], none⟩])
 (.cond (.t 6) (.seq (.region [⟨(some 2), 4, .move, [.c (.bool false)], none⟩])
 (.ret)) (.skip)))
 (.seq (.seq (.region [⟨(some 7), 5, .move, [.t 0], none⟩,
  ⟨(some 8), 6, (.len false), [.t 7], none⟩,
  ⟨(some 9), 7, .move, [.c (.int .i64 (0))], none⟩])
 (.block 0 (.loopT Int (fun x => ⟨[.slice .ro 2 a.length (gl e_api_Label a), .dead, .dead, .dead, .dead, .dead, .dead, .dead, .int .i64 (a.length : Int), .int .i64 x, .dead, .dead, .dead, .dead, .dead, .dead, .dead, .dead, .dead, .dead, .dead, .dead, .dead, .dead, .dead, .dead, .dead], [], []⟩) 8 28 (.seq (.region [⟨(some 10), 8, (.bin .lss), [.t 9, .t 8], none⟩])
 (.seq (.cond (.t 10) (.skip) (.exit 0))
 (.seq (.block 1 (.seq (.region [⟨(some 11), 9, .move, [.t 9], none⟩,
  ⟨(some 3), 10, .move, [.t 11], none⟩])
 (.seq (.region [⟨(some 12), 11, .move, [.t 0], none⟩,
  ⟨(some 13), 12, .move, [.t 3], none⟩,
  ⟨(some 14), 13, (.indexAddr 2 none), [.t 12, .t 13], none⟩,
  ⟨(some 15), 14, (.fieldAddr 0), [.t 14], none⟩,
  ⟨(some 16), 15, (.load false 1), [.t 15], none⟩,
  ⟨(some 17), 16, (.len true), [.t 16], none⟩,
  ⟨(some 18), 17, .move, [.t 0], none⟩,
  ⟨(some 19), 18, .move, [.t 3], none⟩,
  ⟨(some 20), 19, (.indexAddr 2 none), [.t 18, .t 19], none⟩,
  ⟨(some 21), 20, (.fieldAddr 1), [.t 20], none⟩,
  ⟨(some 22), 21, (.load false 1), [.t 21], none⟩,
  ⟨(some 23), 22, (.len true), [.t 22], none⟩,
  ⟨(some 24), 23, (.bin .add), [.t 17, .t 23], none⟩,
  ⟨(some 25), 24, (.bin .gtr), [.t 24, .c (.int .i64 (1000))], none⟩])
 (.cond (.t 25) (.seq (.region [⟨(some 2), 25, .move, [.c (.bool false)], none⟩])
 (.ret)) (.skip)))))
 (.region [⟨(some 26), 26, (.bin .add), [.t 9, .c (.int .i64 (1))], none⟩,
  ⟨(some 9), 27, .move, [.t 26], none⟩])))))))
 (.seq (.region [⟨(some 2), 28, .move, [.c (.bool true)], none⟩])
 (.ret)))))
  [.tmp 2] 0 26
def f47.env : Env := []
def f47.tree (a : List (T_api_Label)) : Prop := Br (decide ((100 : Int) < (a.length : Int))) ((false = (labs5 a)) ∧ True) (∃ (I5 : Int → Prop) (μ6 : Int → Nat), (∃ x4 : Int, (a.length = a.length) ∧ (∀ i, i < a.length → DEqs ((gl e_api_Label a) i) ((gl e_api_Label a) i)) ∧ ((a.length : Int) = (a.length : Int)) ∧ ((0 : Int) = x4) ∧ I5 x4) ∧ ∀ y7 : Int, I5 y7 → (Br (decide (y7 < (a.length : Int))) (Br (decide ((0 : Int) ≤ y7) && decide (y7 < (a.length : Int))) (Br (decide ((0 : Int) ≤ y7) && decide (y7 < (a.length : Int))) (Let (IntKind.i64.wrap ((((at_ a y7).1).size : Int) + (((at_ a y7).2).size : Int))) (fun v12 : Int => Br (decide ((1000 : Int) < v12)) ((false = (labs5 a)) ∧ True) (Let (IntKind.i64.wrap (y7 + (1 : Int))) (fun v16 : Int => ∃ x17 : Int, (a.length = a.length) ∧ (∀ i, i < a.length → DEqs ((gl e_api_Label a) i) ((gl e_api_Label a) i)) ∧ ((a.length : Int) = (a.length : Int)) ∧ (v16 = x17) ∧ I5 x17 ∧ μ6 x17 < μ6 y7)))) False) False) ((true = (labs5 a)) ∧ True)))
def f47.vc (a : List (T_api_Label)) : Prop := (((100 : Int) < (a.length : Int) → (false = labs5 a)) ∧ (¬ ((100 : Int) < (a.length : Int)) → (∃ (I5 : Int → Prop) (μ6 : Int → Nat), I5 (0 : Int) ∧ ∀ y7 : Int, I5 y7 → ((y7 < (a.length : Int) → ((0 : Int) ≤ y7 ∧ y7 < (a.length : Int) ∧ ((0 : Int) ≤ y7 ∧ y7 < (a.length : Int) ∧ (-9223372036854775808 ≤ ((((at_ a y7).1).size : Int) + (((at_ a y7).2).size : Int)) ∧ ((((at_ a y7).1).size : Int) + (((at_ a y7).2).size : Int)) ≤ 9223372036854775807 ∧ (((1000 : Int) < ((((at_ a y7).1).size : Int) + (((at_ a y7).2).size : Int)) → (false = labs5 a)) ∧ (¬ ((1000 : Int) < ((((at_ a y7).1).size : Int) + (((at_ a y7).2).size : Int))) → (-9223372036854775808 ≤ (y7 + (1 : Int)) ∧ (y7 + (1 : Int)) ≤ 9223372036854775807 ∧ (I5 (y7 + (1 : Int)) ∧ μ6 (y7 + (1 : Int)) < μ6 y7)))))))) ∧ (¬ (y7 < (a.length : Int)) → (true = labs5 a))))))
set_option maxRecDepth 100000 in
set_option maxHeartbeats 2000000 in
theorem f47.of (a : List (T_api_Label)) (h : f47.vc a) : f47.tree a := br h Cnd.dec (fun h1 k35 => ⟨k35, trivial⟩) (fun h2 k36 => Exists.elim k36 (fun I5 h32_ => Exists.elim h32_ (fun μ6 h32 => ⟨I5, μ6, ⟨(0 : Int), slK (Rds.self (enc := e_api_Label)) (⟨rfl, ⟨rfl, h32.1⟩⟩)⟩, fun y7 h34 => br (h32.2 y7 h34) Cnd.dec (fun h8 k30 => chk k30.2.2 Cnd.ix ⟨k30.1, k30.2.1⟩ (fun h10 k28 => chk k28.2.2 Cnd.ix ⟨k28.1, k28.2.1⟩ (fun h11 k27 => wrapK.i64 k27 (fun h24 h25 k26 => br k26 Cnd.dec (fun h13 k22 => ⟨k22, trivial⟩) (fun h14 k23 => wrapK.i64 k23 (fun h19 h20 k21 => ⟨(y7 + (1 : Int)), slK (Rds.self (enc := e_api_Label)) (⟨rfl, ⟨rfl, k21⟩⟩)⟩)))))) (fun h9 k31 => ⟨k31, trivial⟩)⟩)))
theorem f47.eq (a : List (T_api_Label)) : (f47.af a).gives f47.env (f47.args a) (f47.blks a) (f47.res a) (f47.blks' a) = f47.tree a := by kernel_rfl
end Go.Abs

-- interregnum/interregnumlaw05.few
namespace Go.Abs
open Go
def f23.args (a : T_api_Node × T_api_Queue × T_api_Task) : List D := [.agg [.str a.1.1, .int .i64 a.1.2.1.1, .int .i64 a.1.2.1.2.1, .int .i64 a.1.2.1.2.2, .slice .ro 2 a.1.2.2.length (gl e_api_Label a.1.2.2)], .agg [.str a.2.1.1, .int .i64 a.2.1.2.1, .int .i64 a.2.1.2.2.1, .int .i64 a.2.1.2.2.2], .agg [.str a.2.2.1, .str a.2.2.2.1, .int .i64 a.2.2.2.2.1, .int .i64 a.2.2.2.2.2.1.1, .int .i64 a.2.2.2.2.2.1.2.1, .int .i64 a.2.2.2.2.2.1.2.2, .slice .ro 2 a.2.2.2.2.2.2.1.length (gl e_api_Label a.2.2.2.2.2.2.1), .str a.2.2.2.2.2.2.2.1, .str a.2.2.2.2.2.2.2.2.1, .int .i64 a.2.2.2.2.2.2.2.2.2]]
def f23.blks (a : T_api_Node × T_api_Queue × T_api_Task) : List (List D) := []
def f23.res (a : T_api_Node × T_api_Queue × T_api_Task) : List D := [.bool (few5 a)]
def f23.blks' (a : T_api_Node × T_api_Queue × T_api_Task) : List (List D) := []
def f23.C : Contract := FnC f23.args f23.blks (fun a => few5_pre a) f23.res f23.blks'
end Go.Abs

/- interregnum/interregnumlaw05.few -/
namespace Go.Abs
open Go
set_option linter.unusedVariables false
def f23.kills (a : T_api_Node × T_api_Queue × T_api_Task) : List Hint := []
def f23.cuts (a : T_api_Node × T_api_Queue × T_api_Task) : List (Nat × Σ β : Type, β → Tm) := []
def f23.af (a : T_api_Node × T_api_Queue × T_api_Task) : AF := AF.mk (.seq (.region [⟨(some 3), 0, .box, [.t 0], none⟩,
  ⟨(some 4), 1, .box, [.t 1], none⟩,
  ⟨(some 5), 2, .box, [.t 2], none⟩,
  ⟨(some 6), 3, .move, [.c (.bool false)], none⟩])
 (.seq (.region [⟨(some 7), 4, (.fieldAddr 4), [.t 3], none⟩,
  ⟨(some 8), 5, (.load false 1), [.t 7], none⟩,
  ⟨(some 9), 6, (.call false 47), [.t 8], none⟩,
  ⟨(some 10), 10, .move, [.t 9], none⟩,
  ⟨(some 11), 11, (.fieldAddr 6), [.t 5], (some (10, true))⟩,
  ⟨(some 12), 12, (.load false 1), [.t 11], (some (10, true))⟩,
  ⟨(some 13), 13, (.call false 47), [.t 12], (some (10, true))⟩,
  ⟨(some 14), 17, .pick, [.t 10, .t 13, .c (.bool false)], none⟩,
  ⟨(some 15), 18, .move, [.t 14], none⟩,
  ⟨(some 16), 19, (.fieldAddr 0), [.t 3], (some (15, true))⟩,
  ⟨(some 17), 20, (.load false 1), [.t 16], (some (15, true))⟩,
  ⟨(some 18), 21, (.len true), [.t 17], (some (15, true))⟩,
  ⟨(some 19), 22, (.fieldAddr 0), [.t 4], (some (15, true))⟩,
  ⟨(some 20), 23, (.load false 1), [.t 19], (some (15, true))⟩,
  ⟨(some 21), 24, (.len true), [.t 20], (some (15, true))⟩,
  ⟨(some 22), 25, (.bin .add), [.t 18, .t 21], (some (15, true))⟩,
  ⟨(some 23), 26, (.fieldAddr 0), [.t 5], (some (15, true))⟩,
  ⟨(some 24), 27, (.load false 1), [.t 23], (some (15, true))⟩,
  ⟨(some 25), 28, (.len true), [.t 24], (some (15, true))⟩,
  ⟨(some 26), 29, (.bin .add), [.t 22, .t 25], (some (15, true))⟩,
  ⟨(some 27), 30, (.fieldAddr 1), [.t 5], (some (15, true))⟩,
  ⟨(some 28), 31, (.load false 1), [.t 27], (some (15, true))⟩,
  ⟨(some 29), 32, (.len true), [.t 28], (some (15, true))⟩,
  ⟨(some 30), 33, (.bin .add), [.t 26, .t 29], (some (15, true))⟩,
  ⟨(some 31), 34, (.fieldAddr 7), [.t 5], (some (15, true))⟩,
  ⟨(some 32), 35, (.load false 1), [.t 31], (some (15, true))⟩,
  ⟨(some 33), 36, (.len true), [.t 32], (some (15, true))⟩,
  ⟨(some 34), 37, (.bin .add), [.t 30, .t 33], (some (15, true))⟩,
  ⟨(some 35), 38, (.fieldAddr 8), [.t 5], (some (15, true))⟩,
  ⟨(some 36), 39, (.load false 1), [.t 35], (some (15, true))⟩,
  ⟨(some 37), 40, (.len true), [.t 36], (some (15, true))⟩,
  ⟨(some 38), 41, (.bin .add), [.t 34, .t 37], (some (15, true))⟩,
  ⟨(some 39), 42, (.bin .lss), [.t 38, .c (.int .i64 (5000))], (some (15, true))⟩,
  ⟨(some 40), 43, .pick, [.t 15, .t 39, .c (.bool false)], none⟩,
  ⟨(some 6), 44, .move, [.t 40], none⟩])
 (.ret)))
  [.tmp 6] 0 38
def f23.env : Env := [(47, f47.C)]
def f23.tree (a : T_api_Node × T_api_Queue × T_api_Task) : Prop := ∃ c1 : List (T_api_Label), (a.1.2.2.length = c1.length) ∧ (∀ i, i < c1.length → DEqs ((gl e_api_Label a.1.2.2) i) ((gl e_api_Label c1) i)) ∧ (lbls_pre c1) ∧ Br (labs5 c1) (∃ c4 : List (T_api_Label), (a.2.2.2.2.2.2.1.length = c4.length) ∧ (∀ i, i < c4.length → DEqs ((gl e_api_Label a.2.2.2.2.2.2.1) i) ((gl e_api_Label c4) i)) ∧ (lbls_pre c4) ∧ Br (labs5 c4) (Let (IntKind.i64.wrap ((a.1.1.size : Int) + (a.2.1.1.size : Int))) (fun v7 : Int => Let (IntKind.i64.wrap (v7 + (a.2.2.1.size : Int))) (fun v8 : Int => Let (IntKind.i64.wrap (v8 + (a.2.2.2.1.size : Int))) (fun v9 : Int => Let (IntKind.i64.wrap (v9 + (a.2.2.2.2.2.2.2.1.size : Int))) (fun v10 : Int => Let (IntKind.i64.wrap (v10 + (a.2.2.2.2.2.2.2.2.1.size : Int))) (fun v11 : Int => ((decide (v11 < (5000 : Int))) = (few5 a)) ∧ True)))))) ((false = (few5 a)) ∧ True)) ((false = (few5 a)) ∧ True)
def f23.vc (a : T_api_Node × T_api_Queue × T_api_Task) : Prop := (lbls_pre a.1.2.2 ∧ (((labs5 (a.1.2.2)) = true → (lbls_pre a.2.2.2.2.2.2.1 ∧ (((labs5 (a.2.2.2.2.2.2.1)) = true → (-9223372036854775808 ≤ ((a.1.1.size : Int) + (a.2.1.1.size : Int)) ∧ ((a.1.1.size : Int) + (a.2.1.1.size : Int)) ≤ 9223372036854775807 ∧ (-9223372036854775808 ≤ (((a.1.1.size : Int) + (a.2.1.1.size : Int)) + (a.2.2.1.size : Int)) ∧ (((a.1.1.size : Int) + (a.2.1.1.size : Int)) + (a.2.2.1.size : Int)) ≤ 9223372036854775807 ∧ (-9223372036854775808 ≤ ((((a.1.1.size : Int) + (a.2.1.1.size : Int)) + (a.2.2.1.size : Int)) + (a.2.2.2.1.size : Int)) ∧ ((((a.1.1.size : Int) + (a.2.1.1.size : Int)) + (a.2.2.1.size : Int)) + (a.2.2.2.1.size : Int)) ≤ 9223372036854775807 ∧ (-9223372036854775808 ≤ (((((a.1.1.size : Int) + (a.2.1.1.size : Int)) + (a.2.2.1.size : Int)) + (a.2.2.2.1.size : Int)) + (a.2.2.2.2.2.2.2.1.size : Int)) ∧ (((((a.1.1.size : Int) + (a.2.1.1.size : Int)) + (a.2.2.1.size : Int)) + (a.2.2.2.1.size : Int)) + (a.2.2.2.2.2.2.2.1.size : Int)) ≤ 9223372036854775807 ∧ (-9223372036854775808 ≤ ((((((a.1.1.size : Int) + (a.2.1.1.size : Int)) + (a.2.2.1.size : Int)) + (a.2.2.2.1.size : Int)) + (a.2.2.2.2.2.2.2.1.size : Int)) + (a.2.2.2.2.2.2.2.2.1.size : Int)) ∧ ((((((a.1.1.size : Int) + (a.2.1.1.size : Int)) + (a.2.2.1.size : Int)) + (a.2.2.2.1.size : Int)) + (a.2.2.2.2.2.2.2.1.size : Int)) + (a.2.2.2.2.2.2.2.2.1.size : Int)) ≤ 9223372036854775807 ∧ (decide (((((((a.1.1.size : Int) + (a.2.1.1.size : Int)) + (a.2.2.1.size : Int)) + (a.2.2.2.1.size : Int)) + (a.2.2.2.2.2.2.2.1.size : Int)) + (a.2.2.2.2.2.2.2.2.1.size : Int)) < (5000 : Int)) = few5 a))))))) ∧ (¬ ((labs5 (a.2.2.2.2.2.2.1)) = true) → (false = few5 a))))) ∧ (¬ ((labs5 (a.1.2.2)) = true) → (false = few5 a))))
set_option maxRecDepth 100000 in
set_option maxHeartbeats 2000000 in
theorem f23.of (a : T_api_Node × T_api_Queue × T_api_Task) (h : f23.vc a) : f23.tree a := ⟨a.1.2.2, slK (Rds.self (enc := e_api_Label)) (⟨h.1, br h.2 Cnd.b (fun h2 k33 => ⟨a.2.2.2.2.2.2.1, slK (Rds.self (enc := e_api_Label)) (⟨k33.1, br k33.2 Cnd.b (fun h5 k29 => wrapK.i64 k29 (fun h25 h26 k27 => wrapK.i64 k27 (fun h22 h23 k24 => wrapK.i64 k24 (fun h19 h20 k21 => wrapK.i64 k21 (fun h16 h17 k18 => wrapK.i64 k18 (fun h13 h14 k15 => ⟨k15, trivial⟩)))))) (fun h6 k30 => ⟨k30, trivial⟩)⟩)⟩) (fun h3 k34 => ⟨k34, trivial⟩)⟩)⟩
theorem f23.eq (a : T_api_Node × T_api_Queue × T_api_Task) : (f23.af a).gives f23.env (f23.args a) (f23.blks a) (f23.res a) (f23.blks' a) = f23.tree a := by kernel_rfl
end Go.Abs

-- interregnum/ident.Labels
namespace Go.Abs
open Go
def f50.args (a : List (T_api_Label)) : List D := [.slice .ro 2 a.length (gl e_api_Label a)]
def f50.blks (a : List (T_api_Label)) : List (List D) := []
def f50.res (a : List (T_api_Label)) : List D := [.bool (labelsB a)]
def f50.blks' (a : List (T_api_Label)) : List (List D) := []
def f50.C : Contract := FnC f50.args f50.blks (fun a => lbls_pre a) f50.res f50.blks'
end Go.Abs

/- interregnum/ident.Labels -/
namespace Go.Abs
open Go
set_option linter.unusedVariables false
def f50.kills (a : List (T_api_Label)) : List Hint := [.tell (ByteArray × Int) (fun x => ⟨[.dead, .dead, .dead, .str x.1, .dead, .dead, .dead, .dead, .dead, .slice .ro 2 a.length (gl e_api_Label a), .int .i64 (a.length : Int), .int .i64 x.2, .dead, .dead, .dead, .dead, .dead, .dead, .dead, .dead, .dead, .dead, .dead, .dead, .dead, .dead, .dead, .dead, .dead, .dead, .dead, .dead, .dead, .dead, .dead, .dead, .dead, .dead, .dead], [], []⟩)]
def f50.cuts (a : List (T_api_Label)) : List (Nat × Σ β : Type, β → Tm) := []
def f50.af (a : List (T_api_Label)) : AF := AF.mk (.seq (.region [⟨(some 2), 0, .move, [.c (.bool false)], none⟩])
 (.seq (.seq (.region [⟨(some 6), 1, .move, [.t 0], none⟩,
  ⟨(some 7), 2, (.len false), [.t 6], none⟩,
  ⟨(some 8), 3, (.bin .gtr), [.t 7, .c (.int .i64 (4))], none⟩])
 (.cond (.t 8) (.seq (.region [⟨(some 2), 4, .move, [.c (.bool false)], none⟩])
 (.ret)) (.skip)))
 (.seq (.region [⟨(some 3), 5, .move, [.c (.str ByteArray.empty)], none⟩])
 (.seq (.seq (.region [⟨(some 9), 6, .move, [.t 0], none⟩,
  ⟨(some 10), 7, (.len false), [.t 9], none⟩,
  ⟨(some 11), 8, .move, [.c (.int .i64 (0))], none⟩])
 (.block 0 (.loopT (ByteArray × Int) (fun x => ⟨[.dead, .dead, .dead, .str x.1, .dead, .dead, .dead, .dead, .dead, .slice .ro 2 a.length (gl e_api_Label a), .int .i64 (a.length : Int), .int .i64 x.2, .dead, .dead, .dead, .dead, .dead, .dead, .dead, .dead, .dead, .dead, .dead, .dead, .dead, .dead, .dead, .dead, .dead, .dead, .dead, .dead, .dead, .dead, .dead, .dead, .dead, .dead, .dead], [], []⟩) 9 50 (.seq (.region [⟨(some 12), 9, (.bin .lss), [.t 11, .t 10], none⟩])
 (.seq (.cond (.t 12) (.skip) (.exit 0))
 (.seq (.block 1 (.seq (.region [⟨(some 13), 10, .move, [.t 11], none⟩,
  ⟨(some 14), 11, (.indexAddr 2 none), [.t 9, .t 11], none⟩,
  ⟨(some 15), 12, (.load true 2), [.t 14], none⟩,
  ⟨(some 5), 13, (.alloc [.str ByteArray.empty, .str ByteArray.empty]), [], none⟩,
  ⟨(some 4), 16, .move, [.t 13], none⟩,
  ⟨none, 17, (.store 2), [.t 5, .t 15], none⟩])
 (.seq (.seq (.region [⟨(some 16), 18, (.fieldAddr 0), [.t 5], none⟩,
  ⟨(some 17), 19, (.load false 1), [.t 16], none⟩,
  ⟨(some 18), 20, (.call false 48), [.t 17], none⟩,
  ⟨(some 19), 24, (.un .not), [.t 18], none⟩,
  ⟨(some 20), 25, .move, [.t 19], none⟩,
  ⟨(some 21), 26, (.fieldAddr 1), [.t 5], (some (20, false))⟩,
  ⟨(some 22), 27, (.load false 1), [.t 21], (some (20, false))⟩,
  ⟨(some 23), 28, (.call false 48), [.t 22], (some (20, false))⟩,
  ⟨(some 24), 32, (.un .not), [.t 23], (some (20, false))⟩,
  ⟨(some 25), 33, .pick, [.t 20, .c (.bool true), .t 24], none⟩,
  ⟨(some 26), 34, .move, [.t 25], none⟩,
  ⟨(some 27), 35, .move, [.t 4], (some (26, false))⟩,
  ⟨(some 28), 36, (.bin .gtr), [.t 27, .c (.int .i64 (0))], (some (26, false))⟩,
  ⟨(some 29), 37, .move, [.t 28], (some (26, false))⟩,
  ⟨(some 30), 38, (.fieldAddr 0), [.t 5], (some (29, true))⟩,
  ⟨(some 31), 39, (.load false 1), [.t 30], (some (29, true))⟩,
  ⟨(some 32), 40, .move, [.t 3], (some (29, true))⟩,
  ⟨(some 33), 41, (.bin .leq), [.t 31, .t 32], (some (29, true))⟩,
  ⟨(some 34), 42, .pick, [.t 29, .t 33, .c (.bool false)], (some (26, false))⟩,
  ⟨(some 35), 43, .pick, [.t 26, .c (.bool true), .t 34], none⟩])
 (.cond (.t 35) (.seq (.region [⟨(some 2), 44, .move, [.c (.bool false)], none⟩])
 (.ret)) (.skip)))
 (.region [⟨(some 36), 45, (.fieldAddr 0), [.t 5], none⟩,
  ⟨(some 37), 46, (.load false 1), [.t 36], none⟩,
  ⟨(some 3), 47, .move, [.t 37], none⟩]))))
 (.region [⟨(some 38), 48, (.bin .add), [.t 11, .c (.int .i64 (1))], none⟩,
  ⟨(some 11), 49, .move, [.t 38], none⟩])))))))
 (.seq (.region [⟨(some 2), 50, .move, [.c (.bool true)], none⟩])
 (.ret))))))
  [.tmp 2] 0 38
def f50.env : Env := [(48, f48.C)]
def f50.tree (a : List (T_api_Label)) : Prop := Br (decide ((4 : Int) < (a.length : Int))) ((false = (labelsB a)) ∧ True) (∃ (I5 : (ByteArray × Int) → Prop) (μ6 : (ByteArray × Int) → Nat), (∃ x4 : ByteArray × Int, (ByteArray.empty = x4.1) ∧ (a.length = a.length) ∧ (∀ i, i < a.length → DEqs ((gl e_api_Label a) i) ((gl e_api_Label a) i)) ∧ ((a.length : Int) = (a.length : Int)) ∧ ((0 : Int) = x4.2) ∧ I5 x4) ∧ ∀ y7 : ByteArray × Int, I5 y7 → (Br (decide (y7.2 < (a.length : Int))) (Br (decide ((0 : Int) ≤ y7.2) && decide (y7.2 < (a.length : Int))) (∃ c11 : ByteArray, (((at_ a y7.2).1) = c11) ∧ (name_pre c11) ∧ Br (!(nameB c11)) ((false = (labelsB a)) ∧ True) (∃ c15 : ByteArray, (((at_ a y7.2).2) = c15) ∧ (name_pre c15) ∧ Br (!(nameB c15)) ((false = (labelsB a)) ∧ True) (Br (decide ((0 : Int) < y7.2)) (Br (Op.bytesLess ((at_ a y7.2).1).toList y7.1.toList || ((at_ a y7.2).1).toList == y7.1.toList) ((false = (labelsB a)) ∧ True) (Let (IntKind.i64.wrap (y7.2 + (1 : Int))) (fun v24 : Int => ∃ x25 : ByteArray × Int, (((at_ a y7.2).1) = x25.1) ∧ (a.length = a.length) ∧ (∀ i, i < a.length → DEqs ((gl e_api_Label a) i) ((gl e_api_Label a) i)) ∧ ((a.length : Int) = (a.length : Int)) ∧ (v24 = x25.2) ∧ I5 x25 ∧ μ6 x25 < μ6 y7))) (Let (IntKind.i64.wrap (y7.2 + (1 : Int))) (fun v32 : Int => ∃ x33 : ByteArray × Int, (((at_ a y7.2).1) = x33.1) ∧ (a.length = a.length) ∧ (∀ i, i < a.length → DEqs ((gl e_api_Label a) i) ((gl e_api_Label a) i)) ∧ ((a.length : Int) = (a.length : Int)) ∧ (v32 = x33.2) ∧ I5 x33 ∧ μ6 x33 < μ6 y7))))) False) ((true = (labelsB a)) ∧ True)))
def f50.vc (a : List (T_api_Label)) : Prop := (((4 : Int) < (a.length : Int) → (false = labelsB a)) ∧ (¬ ((4 : Int) < (a.length : Int)) → (∃ (I5 : (ByteArray × Int) → Prop) (μ6 : (ByteArray × Int) → Nat), I5 (ByteArray.empty, (0 : Int)) ∧ ∀ y7 : ByteArray × Int, I5 y7 → ((y7.2 < (a.length : Int) → ((0 : Int) ≤ y7.2 ∧ y7.2 < (a.length : Int) ∧ (name_pre ((at_ a y7.2).1) ∧ ((¬ ((nameB ((at_ a y7.2).1)) = true) → (false = labelsB a)) ∧ (¬ (¬ ((nameB ((at_ a y7.2).1)) = true)) → (name_pre ((at_ a y7.2).2) ∧ ((¬ ((nameB ((at_ a y7.2).2)) = true) → (false = labelsB a)) ∧ (¬ (¬ ((nameB ((at_ a y7.2).2)) = true)) → (((0 : Int) < y7.2 → ((sLe ((at_ a y7.2).1) y7.1 → (false = labelsB a)) ∧ (¬ (sLe ((at_ a y7.2).1) y7.1) → (-9223372036854775808 ≤ (y7.2 + (1 : Int)) ∧ (y7.2 + (1 : Int)) ≤ 9223372036854775807 ∧ (I5 ((at_ a y7.2).1, (y7.2 + (1 : Int))) ∧ μ6 ((at_ a y7.2).1, (y7.2 + (1 : Int))) < μ6 y7))))) ∧ (¬ ((0 : Int) < y7.2) → (-9223372036854775808 ≤ (y7.2 + (1 : Int)) ∧ (y7.2 + (1 : Int)) ≤ 9223372036854775807 ∧ (I5 ((at_ a y7.2).1, (y7.2 + (1 : Int))) ∧ μ6 ((at_ a y7.2).1, (y7.2 + (1 : Int))) < μ6 y7)))))))))))) ∧ (¬ (y7.2 < (a.length : Int)) → (true = labelsB a))))))
set_option maxRecDepth 100000 in
set_option maxHeartbeats 2000000 in
theorem f50.of (a : List (T_api_Label)) (h : f50.vc a) : f50.tree a := br h Cnd.dec (fun h1 k53 => ⟨k53, trivial⟩) (fun h2 k54 => Exists.elim k54 (fun I5 h50_ => Exists.elim h50_ (fun μ6 h50 => ⟨I5, μ6, ⟨(ByteArray.empty, (0 : Int)), ⟨rfl, slK (Rds.self (enc := e_api_Label)) (⟨rfl, ⟨rfl, h50.1⟩⟩)⟩⟩, fun y7 h52 => br (h50.2 y7 h52) Cnd.dec (fun h8 k48 => chk k48.2.2 Cnd.ix ⟨k48.1, k48.2.1⟩ (fun h10 k46 => ⟨(at_ a y7.2).1, ⟨rfl, ⟨k46.1, br k46.2 (Cnd.not Cnd.b) (fun h12 k43 => ⟨k43, trivial⟩) (fun h13 k44 => ⟨(at_ a y7.2).2, ⟨rfl, ⟨k44.1, br k44.2 (Cnd.not Cnd.b) (fun h16 k40 => ⟨k40, trivial⟩) (fun h17 k41 => br k41 Cnd.dec (fun h19 k38 => br k38 Cnd.sle (fun h21 k30 => ⟨k30, trivial⟩) (fun h22 k31 => wrapK.i64 k31 (fun h27 h28 k29 => ⟨((at_ a y7.2).1, (y7.2 + (1 : Int))), ⟨rfl, slK (Rds.self (enc := e_api_Label)) (⟨rfl, ⟨rfl, k29⟩⟩)⟩⟩))) (fun h20 k39 => wrapK.i64 k39 (fun h35 h36 k37 => ⟨((at_ a y7.2).1, (y7.2 + (1 : Int))), ⟨rfl, slK (Rds.self (enc := e_api_Label)) (⟨rfl, ⟨rfl, k37⟩⟩)⟩⟩)))⟩⟩⟩)⟩⟩⟩)) (fun h9 k49 => ⟨k49, trivial⟩)⟩)))
theorem f50.eq (a : List (T_api_Label)) : (f50.af a).gives f50.env (f50.args a) (f50.blks a) (f50.res a) (f50.blks' a) = f50.tree a := by kernel_rfl
end Go.Abs

-- interregnum/model.Node
namespace Go.Abs
open Go
def f35.args (a : T_api_Node) : List D := [.agg [.str a.1, .int .i64 a.2.1.1, .int .i64 a.2.1.2.1, .int .i64 a.2.1.2.2, .slice .ro 2 a.2.2.length (gl e_api_Label a.2.2)]]
def f35.blks (a : T_api_Node) : List (List D) := []
def f35.res (a : T_api_Node) : List D := [.bool (nodeB a)]
def f35.blks' (a : T_api_Node) : List (List D) := []
def f35.C : Contract := FnC f35.args f35.blks (fun a => node_pre a) f35.res f35.blks'
end Go.Abs

/- interregnum/model.Node -/
namespace Go.Abs
open Go
set_option linter.unusedVariables false
def f35.kills (a : T_api_Node) : List Hint := []
def f35.cuts (a : T_api_Node) : List (Nat × Σ β : Type, β → Tm) := []
def f35.af (a : T_api_Node) : AF := AF.mk (.seq (.region [⟨(some 1), 0, .box, [.t 0], none⟩,
  ⟨(some 2), 1, .move, [.c (.bool false)], none⟩])
 (.seq (.region [⟨(some 3), 2, (.fieldAddr 0), [.t 1], none⟩,
  ⟨(some 4), 3, (.load false 1), [.t 3], none⟩,
  ⟨(some 5), 4, (.call false 48), [.t 4], none⟩,
  ⟨(some 6), 8, .move, [.t 5], none⟩,
  ⟨(some 7), 9, (.fieldAddr 1), [.t 1], (some (6, true))⟩,
  ⟨(some 8), 10, (.load true 3), [.t 7], (some (6, true))⟩,
  ⟨(some 9), 11, (.call false 49), [.t 8], (some (6, true))⟩,
  ⟨(some 10), 15, .pick, [.t 6, .t 9, .c (.bool false)], none⟩,
  ⟨(some 11), 16, .move, [.t 10], none⟩,
  ⟨(some 12), 17, (.fieldAddr 4), [.t 1], (some (11, true))⟩,
  ⟨(some 13), 18, (.load false 1), [.t 12], (some (11, true))⟩,
  ⟨(some 14), 19, (.call false 50), [.t 13], (some (11, true))⟩,
  ⟨(some 15), 23, .pick, [.t 11, .t 14, .c (.bool false)], none⟩,
  ⟨(some 2), 24, .move, [.t 15], none⟩])
 (.ret)))
  [.tmp 2] 0 15
def f35.env : Env := [(48, f48.C), (49, f49.C), (50, f50.C)]
def f35.tree (a : T_api_Node) : Prop := ∃ c1 : ByteArray, (a.1 = c1) ∧ (name_pre c1) ∧ Br (nameB c1) (∃ c4 : T_ar3_i64, (a.2.1.1 = c4.1) ∧ (a.2.1.2.1 = c4.2.1) ∧ (a.2.1.2.2 = c4.2.2) ∧ True ∧ Br (rightB c4) (∃ c7 : List (T_api_Label), (a.2.2.length = c7.length) ∧ (∀ i, i < c7.length → DEqs ((gl e_api_Label a.2.2) i) ((gl e_api_Label c7) i)) ∧ (lbls_pre c7) ∧ ((labelsB c7) = (nodeB a)) ∧ True) ((false = (nodeB a)) ∧ True)) ((false = (nodeB a)) ∧ True)
def f35.vc (a : T_api_Node) : Prop := (name_pre a.1 ∧ (((nameB (a.1)) = true → (((rightB (a.2.1)) = true → (lbls_pre a.2.2 ∧ ((labelsB (a.2.2)) = nodeB a))) ∧ (¬ ((rightB (a.2.1)) = true) → (false = nodeB a)))) ∧ (¬ ((nameB (a.1)) = true) → (false = nodeB a))))
set_option maxRecDepth 100000 in
set_option maxHeartbeats 2000000 in
theorem f35.of (a : T_api_Node) (h : f35.vc a) : f35.tree a := ⟨a.1, ⟨rfl, ⟨h.1, br h.2 Cnd.b (fun h2 k15 => ⟨a.2.1, ⟨rfl, ⟨rfl, ⟨rfl, ⟨trivial, br k15 Cnd.b (fun h5 k11 => ⟨a.2.2, slK (Rds.self (enc := e_api_Label)) (⟨k11.1, ⟨k11.2, trivial⟩⟩)⟩) (fun h6 k12 => ⟨k12, trivial⟩)⟩⟩⟩⟩⟩) (fun h3 k16 => ⟨k16, trivial⟩)⟩⟩⟩
theorem f35.eq (a : T_api_Node) : (f35.af a).gives f35.env (f35.args a) (f35.blks a) (f35.res a) (f35.blks' a) = f35.tree a := by kernel_rfl
end Go.Abs

-- interregnum/interregnumref04.Name
namespace Go.Abs
open Go
def f58.args (a : ByteArray) : List D := [.str a]
def f58.blks (a : ByteArray) : List (List D) := []
def f58.res (a : ByteArray) : List D := [.bool (nameB a)]
def f58.blks' (a : ByteArray) : List (List D) := []
def f58.C : Contract := FnC f58.args f58.blks (fun a => name_pre a) f58.res f58.blks'
end Go.Abs

/- interregnum/interregnumref04.Name -/
namespace Go.Abs
open Go
set_option linter.unusedVariables false
def f58.kills (a : ByteArray) : List Hint := [.tell Int (fun x => ⟨[.str a, .dead, .dead, .int .i64 x, .dead, .dead, .dead, .dead, .dead, .dead, .dead, .dead, .dead, .dead, .dead, .dead, .dead, .dead, .dead, .dead, .dead, .dead, .dead, .dead, .dead, .dead, .dead, .dead, .dead, .dead, .dead, .dead, .dead, .dead, .dead, .dead, .dead, .dead, .dead, .dead, .dead, .dead, .dead, .dead, .dead], [], []⟩)]
def f58.cuts (a : ByteArray) : List (Nat × Σ β : Type, β → Tm) := []
def f58.af (a : ByteArray) : AF := AF.mk (.seq (.region [⟨(some 2), 0, .move, [.c (.bool false)], none⟩])
 (.seq (.seq (.region [⟨(some 5), 1, .move, [.t 0], none⟩,
  ⟨(some 6), 2, (.len true), [.t 5], none⟩,
  ⟨(some 7), 3, (.bin .lss), [.t 6, .c (.int .i64 (1))], none⟩,
  ⟨(some 8), 4, .move, [.t 7], none⟩,
  ⟨(some 9), 5, .move, [.t 0], (some (8, false))⟩,
  ⟨(some 10), 6, (.len true), [.t 9], (some (8, false))⟩,
  ⟨(some 11), 7, (.bin .gtr), [.t 10, .c (.int .i64 (16))], (some (8, false))⟩,
  ⟨(some 12), 8, .pick, [.t 8, .c (.bool true), .t 11], none⟩,
  ⟨(some 13), 9, .move, [.t 12], none⟩,
  ⟨(some 14), 10, .move, [.t 0], (some (13, false))⟩,
  ⟨(some 15), 11, .indexStr, [.t 14, .c (.int .i64 (0))], (some (13, false))⟩,
  ⟨(some 16), 12, (.bin .eql), [.t 15, .c (.int .u8 (45))], (some (13, false))⟩,
  ⟨(some 17), 13, .pick, [.t 13, .c (.bool true), .t 16], none⟩])
 (.cond (.t 17) (.seq (.region [⟨(some 2), 14, .move, [.c (.bool false)], none⟩])
 (.ret)) (.skip)))
 (.seq (.seq (.region [⟨(some 3), 15, .move, [.c (.int .i64 (0))], none⟩])
 (.block 0 (.loopT Int (fun x => ⟨[.str a, .dead, .dead, .int .i64 x, .dead, .dead, .dead, .dead, .dead, .dead, .dead, .dead, .dead, .dead, .dead, .dead, .dead, .dead, .dead, .dead, .dead, .dead, .dead, .dead, .dead, .dead, .dead, .dead, .dead, .dead, .dead, .dead, .dead, .dead, .dead, .dead, .dead, .dead, .dead, .dead, .dead, .dead, .dead, .dead, .dead], [], []⟩) 16 46 (.seq (.seq (.region [⟨(some 18), 16, .move, [.t 3], none⟩,
  ⟨(some 19), 17, .move, [.t 0], none⟩,
  ⟨(some 20), 18, (.len true), [.t 19], none⟩,
  ⟨(some 21), 19, (.bin .lss), [.t 18, .t 20], none⟩])
 (.cond (.t 21) (.skip) (.exit 0)))
 (.seq (.block 1 (.seq (.region [⟨(some 24), 20, .move, [.t 0], none⟩,
  ⟨(some 25), 21, .move, [.t 3], none⟩,
  ⟨(some 26), 22, .indexStr, [.t 24, .t 25], none⟩,
  ⟨(some 4), 23, .move, [.t 26], none⟩])
 (.seq (.region [⟨(some 27), 24, .move, [.t 4], none⟩,
  ⟨(some 28), 25, (.bin .lss), [.t 27, .c (.int .u8 (97))], none⟩,
  ⟨(some 29), 26, .move, [.t 28], none⟩,
  ⟨(some 30), 27, .move, [.t 4], (some (29, false))⟩,
  ⟨(some 31), 28, (.bin .gtr), [.t 30, .c (.int .u8 (122))], (some (29, false))⟩,
  ⟨(some 32), 29, .pick, [.t 29, .c (.bool true), .t 31], none⟩,
  ⟨(some 33), 30, .move, [.t 32], none⟩,
  ⟨(some 34), 31, .move, [.t 4], (some (33, true))⟩,
  ⟨(some 35), 32, (.bin .lss), [.t 34, .c (.int .u8 (48))], (some (33, true))⟩,
  ⟨(some 36), 33, .move, [.t 35], (some (33, true))⟩,
  ⟨(some 37), 34, .move, [.t 4], (some (36, false))⟩,
  ⟨(some 38), 35, (.bin .gtr), [.t 37, .c (.int .u8 (57))], (some (36, false))⟩,
  ⟨(some 39), 36, .pick, [.t 36, .c (.bool true), .t 38], (some (33, true))⟩,
  ⟨(some 40), 37, .pick, [.t 33, .t 39, .c (.bool false)], none⟩,
  ⟨(some 41), 38, .move, [.t 40], none⟩,
  ⟨(some 42), 39, .move, [.t 4], (some (41, true))⟩,
  ⟨(some 43), 40, (.bin .neq), [.t 42, .c (.int .u8 (45))], (some (41, true))⟩,
  ⟨(some 44), 41, .pick, [.t 41, .t 43, .c (.bool false)], none⟩])
 (.cond (.t 44) (.seq (.region [⟨(some 2), 42, .move, [.c (.bool false)], none⟩])
 (.ret)) (.skip)))))
 (.region [⟨(some 22), 43, .move, [.t 3], none⟩,
  ⟨(some 23), 44, (.bin .add), [.t 22, .c (.int .i64 (1))], none⟩,
  ⟨(some 3), 45, .move, [.t 23], none⟩]))))))
 (.seq (.region [⟨(some 2), 46, .move, [.c (.bool true)], none⟩])
 (.ret)))))
  [.tmp 2] 0 44
def f58.env : Env := []
def f58.tree (a : ByteArray) : Prop := Br (decide ((a.size : Int) < (1 : Int))) ((false = (nameB a)) ∧ True) (Br (decide ((16 : Int) < (a.size : Int))) ((false = (nameB a)) ∧ True) (Br (decide ((0 : Int) ≤ (0 : Int)) && decide ((0 : Int) < (a.size : Int))) (Br ((bAt a (0 : Int)) == (45 : Int)) ((false = (nameB a)) ∧ True) (∃ (I12 : Int → Prop) (μ13 : Int → Nat), (∃ x11 : Int, (a = a) ∧ ((0 : Int) = x11) ∧ I12 x11) ∧ ∀ y14 : Int, I12 y14 → (Br (decide (y14 < (a.size : Int))) (Br (decide ((0 : Int) ≤ y14) && decide (y14 < (a.size : Int))) (Br (decide ((bAt a y14) < (97 : Int))) (Br (decide ((bAt a y14) < (48 : Int))) (Br ((bAt a y14) != (45 : Int)) ((false = (nameB a)) ∧ True) (Let (IntKind.i64.wrap (y14 + (1 : Int))) (fun v25 : Int => ∃ x26 : Int, (a = a) ∧ (v25 = x26) ∧ I12 x26 ∧ μ13 x26 < μ13 y14))) (Br (decide ((57 : Int) < (bAt a y14))) (Br ((bAt a y14) != (45 : Int)) ((false = (nameB a)) ∧ True) (Let (IntKind.i64.wrap (y14 + (1 : Int))) (fun v38 : Int => ∃ x39 : Int, (a = a) ∧ (v38 = x39) ∧ I12 x39 ∧ μ13 x39 < μ13 y14))) (Let (IntKind.i64.wrap (y14 + (1 : Int))) (fun v46 : Int => ∃ x47 : Int, (a = a) ∧ (v46 = x47) ∧ I12 x47 ∧ μ13 x47 < μ13 y14)))) (Br (decide ((122 : Int) < (bAt a y14))) (Br (decide ((bAt a y14) < (48 : Int))) (Br ((bAt a y14) != (45 : Int)) ((false = (nameB a)) ∧ True) (Let (IntKind.i64.wrap (y14 + (1 : Int))) (fun v63 : Int => ∃ x64 : Int, (a = a) ∧ (v63 = x64) ∧ I12 x64 ∧ μ13 x64 < μ13 y14))) (Br (decide ((57 : Int) < (bAt a y14))) (Br ((bAt a y14) != (45 : Int)) ((false = (nameB a)) ∧ True) (Let (IntKind.i64.wrap (y14 + (1 : Int))) (fun v76 : Int => ∃ x77 : Int, (a = a) ∧ (v76 = x77) ∧ I12 x77 ∧ μ13 x77 < μ13 y14))) (Let (IntKind.i64.wrap (y14 + (1 : Int))) (fun v84 : Int => ∃ x85 : Int, (a = a) ∧ (v84 = x85) ∧ I12 x85 ∧ μ13 x85 < μ13 y14)))) (Let (IntKind.i64.wrap (y14 + (1 : Int))) (fun v94 : Int => ∃ x95 : Int, (a = a) ∧ (v94 = x95) ∧ I12 x95 ∧ μ13 x95 < μ13 y14)))) False) ((true = (nameB a)) ∧ True)))) False))
def f58.vc (a : ByteArray) : Prop := (((a.size : Int) < (1 : Int) → (false = nameB a)) ∧ (¬ ((a.size : Int) < (1 : Int)) → (((16 : Int) < (a.size : Int) → (false = nameB a)) ∧ (¬ ((16 : Int) < (a.size : Int)) → ((0 : Int) < (a.size : Int) ∧ (((bAt a (0 : Int)) = (45 : Int) → (false = nameB a)) ∧ (¬ ((bAt a (0 : Int)) = (45 : Int)) → (∃ (I12 : Int → Prop) (μ13 : Int → Nat), I12 (0 : Int) ∧ ∀ y14 : Int, I12 y14 → ((y14 < (a.size : Int) → ((0 : Int) ≤ y14 ∧ y14 < (a.size : Int) ∧ (((bAt a y14) < (97 : Int) → (((bAt a y14) < (48 : Int) → ((¬ (bAt a y14) = (45 : Int) → (false = nameB a)) ∧ (¬ (¬ (bAt a y14) = (45 : Int)) → (-9223372036854775808 ≤ (y14 + (1 : Int)) ∧ (y14 + (1 : Int)) ≤ 9223372036854775807 ∧ (I12 (y14 + (1 : Int)) ∧ μ13 (y14 + (1 : Int)) < μ13 y14))))) ∧ (¬ ((bAt a y14) < (48 : Int)) → (((57 : Int) < (bAt a y14) → ((¬ (bAt a y14) = (45 : Int) → (false = nameB a)) ∧ (¬ (¬ (bAt a y14) = (45 : Int)) → (-9223372036854775808 ≤ (y14 + (1 : Int)) ∧ (y14 + (1 : Int)) ≤ 9223372036854775807 ∧ (I12 (y14 + (1 : Int)) ∧ μ13 (y14 + (1 : Int)) < μ13 y14))))) ∧ (¬ ((57 : Int) < (bAt a y14)) → (-9223372036854775808 ≤ (y14 + (1 : Int)) ∧ (y14 + (1 : Int)) ≤ 9223372036854775807 ∧ (I12 (y14 + (1 : Int)) ∧ μ13 (y14 + (1 : Int)) < μ13 y14))))))) ∧ (¬ ((bAt a y14) < (97 : Int)) → (((122 : Int) < (bAt a y14) → (((bAt a y14) < (48 : Int) → ((¬ (bAt a y14) = (45 : Int) → (false = nameB a)) ∧ (¬ (¬ (bAt a y14) = (45 : Int)) → (-9223372036854775808 ≤ (y14 + (1 : Int)) ∧ (y14 + (1 : Int)) ≤ 9223372036854775807 ∧ (I12 (y14 + (1 : Int)) ∧ μ13 (y14 + (1 : Int)) < μ13 y14))))) ∧ (¬ ((bAt a y14) < (48 : Int)) → (((57 : Int) < (bAt a y14) → ((¬ (bAt a y14) = (45 : Int) → (false = nameB a)) ∧ (¬ (¬ (bAt a y14) = (45 : Int)) → (-9223372036854775808 ≤ (y14 + (1 : Int)) ∧ (y14 + (1 : Int)) ≤ 9223372036854775807 ∧ (I12 (y14 + (1 : Int)) ∧ μ13 (y14 + (1 : Int)) < μ13 y14))))) ∧ (¬ ((57 : Int) < (bAt a y14)) → (-9223372036854775808 ≤ (y14 + (1 : Int)) ∧ (y14 + (1 : Int)) ≤ 9223372036854775807 ∧ (I12 (y14 + (1 : Int)) ∧ μ13 (y14 + (1 : Int)) < μ13 y14))))))) ∧ (¬ ((122 : Int) < (bAt a y14)) → (-9223372036854775808 ≤ (y14 + (1 : Int)) ∧ (y14 + (1 : Int)) ≤ 9223372036854775807 ∧ (I12 (y14 + (1 : Int)) ∧ μ13 (y14 + (1 : Int)) < μ13 y14)))))))) ∧ (¬ (y14 < (a.size : Int)) → (true = nameB a)))))))))))
set_option maxRecDepth 100000 in
set_option maxHeartbeats 2000000 in
theorem f58.of (a : ByteArray) (h : f58.vc a) : f58.tree a := br h Cnd.dec (fun h1 k116 => ⟨k116, trivial⟩) (fun h2 k117 => br k117 Cnd.dec (fun h4 k114 => ⟨k114, trivial⟩) (fun h5 k115 => chk k115.2 Cnd.ix ⟨(by decide), k115.1⟩ (fun h7 k113 => br k113 Cnd.eq (fun h8 k111 => ⟨k111, trivial⟩) (fun h9 k112 => Exists.elim k112 (fun I12 h108_ => Exists.elim h108_ (fun μ13 h108 => ⟨I12, μ13, ⟨(0 : Int), ⟨rfl, ⟨rfl, h108.1⟩⟩⟩, fun y14 h110 => br (h108.2 y14 h110) Cnd.dec (fun h15 k106 => chk k106.2.2 Cnd.ix ⟨k106.1, k106.2.1⟩ (fun h17 k104 => br k104 Cnd.dec (fun h18 k102 => br k102 Cnd.dec (fun h20 k54 => br k54 Cnd.ne (fun h22 k31 => ⟨k31, trivial⟩) (fun h23 k32 => wrapK.i64 k32 (fun h28 h29 k30 => ⟨(y14 + (1 : Int)), ⟨rfl, ⟨rfl, k30⟩⟩⟩))) (fun h21 k55 => br k55 Cnd.dec (fun h33 k52 => br k52 Cnd.ne (fun h35 k44 => ⟨k44, trivial⟩) (fun h36 k45 => wrapK.i64 k45 (fun h41 h42 k43 => ⟨(y14 + (1 : Int)), ⟨rfl, ⟨rfl, k43⟩⟩⟩))) (fun h34 k53 => wrapK.i64 k53 (fun h49 h50 k51 => ⟨(y14 + (1 : Int)), ⟨rfl, ⟨rfl, k51⟩⟩⟩)))) (fun h19 k103 => br k103 Cnd.dec (fun h56 k100 => br k100 Cnd.dec (fun h58 k92 => br k92 Cnd.ne (fun h60 k69 => ⟨k69, trivial⟩) (fun h61 k70 => wrapK.i64 k70 (fun h66 h67 k68 => ⟨(y14 + (1 : Int)), ⟨rfl, ⟨rfl, k68⟩⟩⟩))) (fun h59 k93 => br k93 Cnd.dec (fun h71 k90 => br k90 Cnd.ne (fun h73 k82 => ⟨k82, trivial⟩) (fun h74 k83 => wrapK.i64 k83 (fun h79 h80 k81 => ⟨(y14 + (1 : Int)), ⟨rfl, ⟨rfl, k81⟩⟩⟩))) (fun h72 k91 => wrapK.i64 k91 (fun h87 h88 k89 => ⟨(y14 + (1 : Int)), ⟨rfl, ⟨rfl, k89⟩⟩⟩)))) (fun h57 k101 => wrapK.i64 k101 (fun h97 h98 k99 => ⟨(y14 + (1 : Int)), ⟨rfl, ⟨rfl, k99⟩⟩⟩))))) (fun h16 k107 => ⟨k107, trivial⟩)⟩))))))
theorem f58.eq (a : ByteArray) : (f58.af a).gives f58.env (f58.args a) (f58.blks a) (f58.res a) (f58.blks' a) = f58.tree a := by kernel_rfl
end Go.Abs

-- interregnum/interregnumref03.Right
namespace Go.Abs
open Go
def f55.args (a : T_ar3_i64) : List D := [.agg [.int .i64 a.1, .int .i64 a.2.1, .int .i64 a.2.2]]
def f55.blks (a : T_ar3_i64) : List (List D) := []
def f55.res (a : T_ar3_i64) : List D := [.bool (rightB a)]
def f55.blks' (a : T_ar3_i64) : List (List D) := []
def f55.C : Contract := FnC f55.args f55.blks (fun _ => True) f55.res f55.blks'
end Go.Abs

/- interregnum/interregnumref03.Right -/
namespace Go.Abs
open Go
set_option linter.unusedVariables false
def f55.kills (a : T_ar3_i64) : List Hint := [.unroll 4 [0, 2, 4, 5, 6, 7, 8, 9, 10, 11, 12, 17] [0] []]
def f55.cuts (a : T_ar3_i64) : List (Nat × Σ β : Type, β → Tm) := []
def f55.af (a : T_ar3_i64) : AF := AF.mk (.seq (.region [⟨(some 1), 0, .box, [.t 0], none⟩,
  ⟨(some 2), 1, .move, [.c (.bool false)], none⟩])
 (.seq (.seq (.region [⟨(some 3), 2, .move, [.c (.int .i64 (0))], none⟩])
 (.block 0 (.loop 4 [0, 2, 4, 5, 6, 7, 8, 9, 10, 11, 12, 17] [0] [] 3 19 (.seq (.seq (.region [⟨(some 4), 3, .move, [.t 3], none⟩,
  ⟨(some 5), 4, (.bin .lss), [.t 4, .c (.int .i64 (3))], none⟩])
 (.cond (.t 5) (.skip) (.exit 0)))
 (.seq (.block 1 (.seq (.region [⟨(some 8), 5, .move, [.t 3], none⟩,
  ⟨(some 9), 6, (.indexAddr 1 (some 3)), [.t 1, .t 8], none⟩,
  ⟨(some 10), 7, (.load false 1), [.t 9], none⟩,
  ⟨(some 11), 8, (.bin .lss), [.t 10, .c (.int .i64 (0))], none⟩,
  ⟨(some 12), 9, .move, [.t 11], none⟩,
  ⟨(some 13), 10, .move, [.t 3], (some (12, false))⟩,
  ⟨(some 14), 11, (.indexAddr 1 (some 3)), [.t 1, .t 13], (some (12, false))⟩,
  ⟨(some 15), 12, (.load false 1), [.t 14], (some (12, false))⟩,
  ⟨(some 16), 13, (.bin .gtr), [.t 15, .c (.int .i64 (1048576))], (some (12, false))⟩,
  ⟨(some 17), 14, .pick, [.t 12, .c (.bool true), .t 16], none⟩])
 (.cond (.t 17) (.seq (.region [⟨(some 2), 15, .move, [.c (.bool false)], none⟩])
 (.ret)) (.skip))))
 (.region [⟨(some 6), 16, .move, [.t 3], none⟩,
  ⟨(some 7), 17, (.bin .add), [.t 6, .c (.int .i64 (1))], none⟩,
  ⟨(some 3), 18, .move, [.t 7], none⟩]))))))
 (.seq (.region [⟨(some 2), 19, .move, [.c (.bool true)], none⟩])
 (.ret))))
  [.tmp 2] 0 17
def f55.env : Env := []
def f55.tree (a : T_ar3_i64) : Prop := Br (decide (a.1 < (0 : Int))) ((false = (rightB a)) ∧ True) (Br (decide ((1048576 : Int) < a.1)) ((false = (rightB a)) ∧ True) (Br (decide (a.2.1 < (0 : Int))) ((false = (rightB a)) ∧ True) (Br (decide ((1048576 : Int) < a.2.1)) ((false = (rightB a)) ∧ True) (Br (decide (a.2.2 < (0 : Int))) ((false = (rightB a)) ∧ True) (Br (decide ((1048576 : Int) < a.2.2)) ((false = (rightB a)) ∧ True) ((true = (rightB a)) ∧ True))))))
def f55.vc (a : T_ar3_i64) : Prop := ((a.1 < (0 : Int) → (false = rightB a)) ∧ (¬ (a.1 < (0 : Int)) → (((1048576 : Int) < a.1 → (false = rightB a)) ∧ (¬ ((1048576 : Int) < a.1) → ((a.2.1 < (0 : Int) → (false = rightB a)) ∧ (¬ (a.2.1 < (0 : Int)) → (((1048576 : Int) < a.2.1 → (false = rightB a)) ∧ (¬ ((1048576 : Int) < a.2.1) → ((a.2.2 < (0 : Int) → (false = rightB a)) ∧ (¬ (a.2.2 < (0 : Int)) → (((1048576 : Int) < a.2.2 → (false = rightB a)) ∧ (¬ ((1048576 : Int) < a.2.2) → (true = rightB a)))))))))))))
set_option maxRecDepth 100000 in
set_option maxHeartbeats 2000000 in
theorem f55.of (a : T_ar3_i64) (h : f55.vc a) : f55.tree a := br h Cnd.dec (fun h1 k30 => ⟨k30, trivial⟩) (fun h2 k31 => br k31 Cnd.dec (fun h4 k28 => ⟨k28, trivial⟩) (fun h5 k29 => br k29 Cnd.dec (fun h7 k26 => ⟨k26, trivial⟩) (fun h8 k27 => br k27 Cnd.dec (fun h10 k24 => ⟨k24, trivial⟩) (fun h11 k25 => br k25 Cnd.dec (fun h13 k22 => ⟨k22, trivial⟩) (fun h14 k23 => br k23 Cnd.dec (fun h16 k20 => ⟨k20, trivial⟩) (fun h17 k21 => ⟨k21, trivial⟩))))))
theorem f55.eq (a : T_ar3_i64) : (f55.af a).gives f55.env (f55.args a) (f55.blks a) (f55.res a) (f55.blks' a) = f55.tree a := by kernel_rfl
end Go.Abs

-- interregnum/interregnumref04.Labels
namespace Go.Abs
open Go
def f59.args (a : List (T_api_Label)) : List D := [.slice .ro 2 a.length (gl e_api_Label a)]
def f59.blks (a : List (T_api_Label)) : List (List D) := []
def f59.res (a : List (T_api_Label)) : List D := [.bool (labelsB a)]
def f59.blks' (a : List (T_api_Label)) : List (List D) := []
def f59.C : Contract := FnC f59.args f59.blks (fun a => lbls_pre a) f59.res f59.blks'
end Go.Abs

/- interregnum/interregnumref04.Labels -/
namespace Go.Abs
open Go
set_option linter.unusedVariables false
def f59.kills (a : List (T_api_Label)) : List Hint := [.tell Int (fun x => ⟨[.slice .ro 2 a.length (gl e_api_Label a), .dead, .dead, .dead, .dead, .dead, .dead, .dead, .int .i64 (a.length : Int), .int .i64 x, .dead, .dead, .dead, .dead, .dead, .dead, .dead, .dead, .dead, .dead, .dead, .dead, .dead, .dead, .dead, .dead, .dead, .dead, .dead, .dead, .dead, .dead, .dead, .dead, .dead, .dead, .dead, .dead, .dead, .dead, .dead, .dead, .dead, .dead, .dead, .dead, .dead], [], []⟩)]
def f59.cuts (a : List (T_api_Label)) : List (Nat × Σ β : Type, β → Tm) := []
def f59.af (a : List (T_api_Label)) : AF := AF.mk (.seq (.region [⟨(some 2), 0, .move, [.c (.bool false)], none⟩])
 (.seq (.seq (.region [⟨(some 4), 1, .move, [.t 0], none⟩,
  ⟨(some 5), 2, (.len false), [.t 4], none⟩,
  ⟨(some 6), 3, (.bin .gtr), [.t 5, .c (.int .i64 (4))], none⟩])
 (.cond (.t 6) (.seq (.region [⟨(some 2), 4, .move, [.c (.bool false)], none⟩])
 (.ret)) (.skip)))
 (.seq (.seq (.region [⟨(some 7), 5, .move, [.t 0], none⟩,
  ⟨(some 8), 6, (.len false), [.t 7], none⟩,
  ⟨(some 9), 7, .move, [.c (.int .i64 (0))], none⟩])
 (.block 0 (.loopT Int (fun x => ⟨[.slice .ro 2 a.length (gl e_api_Label a), .dead, .dead, .dead, .dead, .dead, .dead, .dead, .int .i64 (a.length : Int), .int .i64 x, .dead, .dead, .dead, .dead, .dead, .dead, .dead, .dead, .dead, .dead, .dead, .dead, .dead, .dead, .dead, .dead, .dead, .dead, .dead, .dead, .dead, .dead, .dead, .dead, .dead, .dead, .dead, .dead, .dead, .dead, .dead, .dead, .dead, .dead, .dead, .dead, .dead], [], []⟩) 8 54 (.seq (.region [⟨(some 10), 8, (.bin .lss), [.t 9, .t 8], none⟩])
 (.seq (.cond (.t 10) (.skip) (.exit 0))
 (.seq (.block 1 (.seq (.region [⟨(some 11), 9, .move, [.t 9], none⟩,
  ⟨(some 3), 10, .move, [.t 11], none⟩])
 (.seq (.region [⟨(some 12), 11, .move, [.t 0], none⟩,
  ⟨(some 13), 12, .move, [.t 3], none⟩,
  ⟨(some 14), 13, (.indexAddr 2 none), [.t 12, .t 13], none⟩,
  ⟨(some 15), 14, (.fieldAddr 0), [.t 14], none⟩,
  ⟨(some 16), 15, (.load false 1), [.t 15], none⟩,
  ⟨(some 17), 16, (.call false 58), [.t 16], none⟩,
  ⟨(some 18), 20, (.un .not), [.t 17], none⟩,
  ⟨(some 19), 21, .move, [.t 18], none⟩,
  ⟨(some 20), 22, .move, [.t 0], (some (19, false))⟩,
  ⟨(some 21), 23, .move, [.t 3], (some (19, false))⟩,
  ⟨(some 22), 24, (.indexAddr 2 none), [.t 20, .t 21], (some (19, false))⟩,
  ⟨(some 23), 25, (.fieldAddr 1), [.t 22], (some (19, false))⟩,
  ⟨(some 24), 26, (.load false 1), [.t 23], (some (19, false))⟩,
  ⟨(some 25), 27, (.call false 58), [.t 24], (some (19, false))⟩,
  ⟨(some 26), 31, (.un .not), [.t 25], (some (19, false))⟩,
  ⟨(some 27), 32, .pick, [.t 19, .c (.bool true), .t 26], none⟩,
  ⟨(some 28), 33, .move, [.t 27], none⟩,
  ⟨(some 29), 34, .move, [.t 3], (some (28, false))⟩,
  ⟨(some 30), 35, (.bin .gtr), [.t 29, .c (.int .i64 (0))], (some (28, false))⟩,
  ⟨(some 31), 36, .move, [.t 30], (some (28, false))⟩,
  ⟨(some 32), 37, .move, [.t 0], (some (31, true))⟩,
  ⟨(some 33), 38, .move, [.t 3], (some (31, true))⟩,
  ⟨(some 34), 39, (.bin .sub), [.t 33, .c (.int .i64 (1))], (some (31, true))⟩,
  ⟨(some 35), 40, (.indexAddr 2 none), [.t 32, .t 34], (some (31, true))⟩,
  ⟨(some 36), 41, (.fieldAddr 0), [.t 35], (some (31, true))⟩,
  ⟨(some 37), 42, (.load false 1), [.t 36], (some (31, true))⟩,
  ⟨(some 38), 43, .move, [.t 0], (some (31, true))⟩,
  ⟨(some 39), 44, .move, [.t 3], (some (31, true))⟩,
  ⟨(some 40), 45, (.indexAddr 2 none), [.t 38, .t 39], (some (31, true))⟩,
  ⟨(some 41), 46, (.fieldAddr 0), [.t 40], (some (31, true))⟩,
  ⟨(some 42), 47, (.load false 1), [.t 41], (some (31, true))⟩,
  ⟨(some 43), 48, (.bin .geq), [.t 37, .t 42], (some (31, true))⟩,
  ⟨(some 44), 49, .pick, [.t 31, .t 43, .c (.bool false)], (some (28, false))⟩,
  ⟨(some 45), 50, .pick, [.t 28, .c (.bool true), .t 44], none⟩])
 (.cond (.t 45) (.seq (.region [⟨(some 2), 51, .move, [.c (.bool false)], none⟩])
 (.ret)) (.skip)))))
 (.region [⟨(some 46), 52, (.bin .add), [.t 9, .c (.int .i64 (1))], none⟩,
  ⟨(some 9), 53, .move, [.t 46], none⟩])))))))
 (.seq (.region [⟨(some 2), 54, .move, [.c (.bool true)], none⟩])
 (.ret)))))
  [.tmp 2] 0 46
def f59.env : Env := [(58, f58.C)]
def f59.tree (a : List (T_api_Label)) : Prop := Br (decide ((4 : Int) < (a.length : Int))) ((false = (labelsB a)) ∧ True) (∃ (I5 : Int → Prop) (μ6 : Int → Nat), (∃ x4 : Int, (a.length = a.length) ∧ (∀ i, i < a.length → DEqs ((gl e_api_Label a) i) ((gl e_api_Label a) i)) ∧ ((a.length : Int) = (a.length : Int)) ∧ ((0 : Int) = x4) ∧ I5 x4) ∧ ∀ y7 : Int, I5 y7 → (Br (decide (y7 < (a.length : Int))) (Br (decide ((0 : Int) ≤ y7) && decide (y7 < (a.length : Int))) (∃ c11 : ByteArray, (((at_ a y7).1) = c11) ∧ (name_pre c11) ∧ Br (!(nameB c11)) ((false = (labelsB a)) ∧ True) (Br (decide ((0 : Int) ≤ y7) && decide (y7 < (a.length : Int))) (∃ c16 : ByteArray, (((at_ a y7).2) = c16) ∧ (name_pre c16) ∧ Br (!(nameB c16)) ((false = (labelsB a)) ∧ True) (Br (decide ((0 : Int) < y7)) (Let (IntKind.i64.wrap (y7 - (1 : Int))) (fun v22 : Int => Br (decide ((0 : Int) ≤ v22) && decide (v22 < (a.length : Int))) (Br (decide ((0 : Int) ≤ y7) && decide (y7 < (a.length : Int))) (Br (!(Op.bytesLess ((at_ a v22).1).toList ((at_ a y7).1).toList)) ((false = (labelsB a)) ∧ True) (Let (IntKind.i64.wrap (y7 + (1 : Int))) (fun v28 : Int => ∃ x29 : Int, (a.length = a.length) ∧ (∀ i, i < a.length → DEqs ((gl e_api_Label a) i) ((gl e_api_Label a) i)) ∧ ((a.length : Int) = (a.length : Int)) ∧ (v28 = x29) ∧ I5 x29 ∧ μ6 x29 < μ6 y7))) False) False)) (Let (IntKind.i64.wrap (y7 + (1 : Int))) (fun v41 : Int => ∃ x42 : Int, (a.length = a.length) ∧ (∀ i, i < a.length → DEqs ((gl e_api_Label a) i) ((gl e_api_Label a) i)) ∧ ((a.length : Int) = (a.length : Int)) ∧ (v41 = x42) ∧ I5 x42 ∧ μ6 x42 < μ6 y7)))) False)) False) ((true = (labelsB a)) ∧ True)))
def f59.vc (a : List (T_api_Label)) : Prop := (((4 : Int) < (a.length : Int) → (false = labelsB a)) ∧ (¬ ((4 : Int) < (a.length : Int)) → (∃ (I5 : Int → Prop) (μ6 : Int → Nat), I5 (0 : Int) ∧ ∀ y7 : Int, I5 y7 → ((y7 < (a.length : Int) → ((0 : Int) ≤ y7 ∧ y7 < (a.length : Int) ∧ (name_pre ((at_ a y7).1) ∧ ((¬ ((nameB ((at_ a y7).1)) = true) → (false = labelsB a)) ∧ (¬ (¬ ((nameB ((at_ a y7).1)) = true)) → ((0 : Int) ≤ y7 ∧ y7 < (a.length : Int) ∧ (name_pre ((at_ a y7).2) ∧ ((¬ ((nameB ((at_ a y7).2)) = true) → (false = labelsB a)) ∧ (¬ (¬ ((nameB ((at_ a y7).2)) = true)) → (((0 : Int) < y7 → (-9223372036854775808 ≤ (y7 - (1 : Int)) ∧ (y7 - (1 : Int)) ≤ 9223372036854775807 ∧ ((0 : Int) ≤ (y7 - (1 : Int)) ∧ (y7 - (1 : Int)) < (a.length : Int) ∧ ((0 : Int) ≤ y7 ∧ y7 < (a.length : Int) ∧ ((¬ sLt ((at_ a (y7 - (1 : Int))).1) ((at_ a y7).1) → (false = labelsB a)) ∧ (¬ (¬ sLt ((at_ a (y7 - (1 : Int))).1) ((at_ a y7).1)) → (-9223372036854775808 ≤ (y7 + (1 : Int)) ∧ (y7 + (1 : Int)) ≤ 9223372036854775807 ∧ (I5 (y7 + (1 : Int)) ∧ μ6 (y7 + (1 : Int)) < μ6 y7)))))))) ∧ (¬ ((0 : Int) < y7) → (-9223372036854775808 ≤ (y7 + (1 : Int)) ∧ (y7 + (1 : Int)) ≤ 9223372036854775807 ∧ (I5 (y7 + (1 : Int)) ∧ μ6 (y7 + (1 : Int)) < μ6 y7))))))))))))) ∧ (¬ (y7 < (a.length : Int)) → (true = labelsB a))))))
set_option maxRecDepth 100000 in
set_option maxHeartbeats 2000000 in
theorem f59.of (a : List (T_api_Label)) (h : f59.vc a) : f59.tree a := br h Cnd.dec (fun h1 k63 => ⟨k63, trivial⟩) (fun h2 k64 => Exists.elim k64 (fun I5 h60_ => Exists.elim h60_ (fun μ6 h60 => ⟨I5, μ6, ⟨(0 : Int), slK (Rds.self (enc := e_api_Label)) (⟨rfl, ⟨rfl, h60.1⟩⟩)⟩, fun y7 h62 => br (h60.2 y7 h62) Cnd.dec (fun h8 k58 => chk k58.2.2 Cnd.ix ⟨k58.1, k58.2.1⟩ (fun h10 k56 => ⟨(at_ a y7).1, ⟨rfl, ⟨k56.1, br k56.2 (Cnd.not Cnd.b) (fun h12 k53 => ⟨k53, trivial⟩) (fun h13 k54 => chk k54.2.2 Cnd.ix ⟨k54.1, k54.2.1⟩ (fun h15 k52 => ⟨(at_ a y7).2, ⟨rfl, ⟨k52.1, br k52.2 (Cnd.not Cnd.b) (fun h17 k49 => ⟨k49, trivial⟩) (fun h18 k50 => br k50 Cnd.dec (fun h20 k47 => wrapK.i64 k47 (fun h38 h39 k40 => chk k40.2.2 Cnd.ix ⟨k40.1, k40.2.1⟩ (fun h23 k37 => chk k37.2.2 Cnd.ix ⟨k37.1, k37.2.1⟩ (fun h24 k36 => br k36 (Cnd.not Cnd.sl_) (fun h25 k34 => ⟨k34, trivial⟩) (fun h26 k35 => wrapK.i64 k35 (fun h31 h32 k33 => ⟨(y7 + (1 : Int)), slK (Rds.self (enc := e_api_Label)) (⟨rfl, ⟨rfl, k33⟩⟩)⟩)))))) (fun h21 k48 => wrapK.i64 k48 (fun h44 h45 k46 => ⟨(y7 + (1 : Int)), slK (Rds.self (enc := e_api_Label)) (⟨rfl, ⟨rfl, k46⟩⟩)⟩)))⟩⟩⟩))⟩⟩⟩)) (fun h9 k59 => ⟨k59, trivial⟩)⟩)))
theorem f59.eq (a : List (T_api_Label)) : (f59.af a).gives f59.env (f59.args a) (f59.blks a) (f59.res a) (f59.blks' a) = f59.tree a := by kernel_rfl
end Go.Abs

-- interregnum/interregnumref05.Node
namespace Go.Abs
open Go
def f36.args (a : T_api_Node) : List D := [.agg [.str a.1, .int .i64 a.2.1.1, .int .i64 a.2.1.2.1, .int .i64 a.2.1.2.2, .slice .ro 2 a.2.2.length (gl e_api_Label a.2.2)]]
def f36.blks (a : T_api_Node) : List (List D) := []
def f36.res (a : T_api_Node) : List D := [.bool (nodeB a)]
def f36.blks' (a : T_api_Node) : List (List D) := []
def f36.C : Contract := FnC f36.args f36.blks (fun a => node_pre a) f36.res f36.blks'
end Go.Abs

/- interregnum/interregnumref05.Node -/
namespace Go.Abs
open Go
set_option linter.unusedVariables false
def f36.kills (a : T_api_Node) : List Hint := []
def f36.cuts (a : T_api_Node) : List (Nat × Σ β : Type, β → Tm) := []
def f36.af (a : T_api_Node) : AF := AF.mk (.seq (.region [⟨(some 1), 0, .box, [.t 0], none⟩,
  ⟨(some 2), 1, .move, [.c (.bool false)], none⟩])
 (.seq (.region [⟨(some 3), 2, (.fieldAddr 0), [.t 1], none⟩,
  ⟨(some 4), 3, (.load false 1), [.t 3], none⟩,
  ⟨(some 5), 4, (.call false 58), [.t 4], none⟩,
  ⟨(some 6), 8, .move, [.t 5], none⟩,
  ⟨(some 7), 9, (.fieldAddr 1), [.t 1], (some (6, true))⟩,
  ⟨(some 8), 10, (.load true 3), [.t 7], (some (6, true))⟩,
  ⟨(some 9), 11, (.call false 55), [.t 8], (some (6, true))⟩,
  ⟨(some 10), 15, .pick, [.t 6, .t 9, .c (.bool false)], none⟩,
  ⟨(some 11), 16, .move, [.t 10], none⟩,
  ⟨(some 12), 17, (.fieldAddr 4), [.t 1], (some (11, true))⟩,
  ⟨(some 13), 18, (.load false 1), [.t 12], (some (11, true))⟩,
  ⟨(some 14), 19, (.call false 59), [.t 13], (some (11, true))⟩,
  ⟨(some 15), 23, .pick, [.t 11, .t 14, .c (.bool false)], none⟩,
  ⟨(some 2), 24, .move, [.t 15], none⟩])
 (.ret)))
  [.tmp 2] 0 15
def f36.env : Env := [(58, f58.C), (55, f55.C), (59, f59.C)]
def f36.tree (a : T_api_Node) : Prop := ∃ c1 : ByteArray, (a.1 = c1) ∧ (name_pre c1) ∧ Br (nameB c1) (∃ c4 : T_ar3_i64, (a.2.1.1 = c4.1) ∧ (a.2.1.2.1 = c4.2.1) ∧ (a.2.1.2.2 = c4.2.2) ∧ True ∧ Br (rightB c4) (∃ c7 : List (T_api_Label), (a.2.2.length = c7.length) ∧ (∀ i, i < c7.length → DEqs ((gl e_api_Label a.2.2) i) ((gl e_api_Label c7) i)) ∧ (lbls_pre c7) ∧ ((labelsB c7) = (nodeB a)) ∧ True) ((false = (nodeB a)) ∧ True)) ((false = (nodeB a)) ∧ True)
def f36.vc (a : T_api_Node) : Prop := (name_pre a.1 ∧ (((nameB (a.1)) = true → (((rightB (a.2.1)) = true → (lbls_pre a.2.2 ∧ ((labelsB (a.2.2)) = nodeB a))) ∧ (¬ ((rightB (a.2.1)) = true) → (false = nodeB a)))) ∧ (¬ ((nameB (a.1)) = true) → (false = nodeB a))))
set_option maxRecDepth 100000 in
set_option maxHeartbeats 2000000 in
theorem f36.of (a : T_api_Node) (h : f36.vc a) : f36.tree a := ⟨a.1, ⟨rfl, ⟨h.1, br h.2 Cnd.b (fun h2 k15 => ⟨a.2.1, ⟨rfl, ⟨rfl, ⟨rfl, ⟨trivial, br k15 Cnd.b (fun h5 k11 => ⟨a.2.2, slK (Rds.self (enc := e_api_Label)) (⟨k11.1, ⟨k11.2, trivial⟩⟩)⟩) (fun h6 k12 => ⟨k12, trivial⟩)⟩⟩⟩⟩⟩) (fun h3 k16 => ⟨k16, trivial⟩)⟩⟩⟩
theorem f36.eq (a : T_api_Node) : (f36.af a).gives f36.env (f36.args a) (f36.blks a) (f36.res a) (f36.blks' a) = f36.tree a := by kernel_rfl
end Go.Abs

-- interregnum/interregnumref05.Queue
namespace Go.Abs
open Go
def f37.args (a : T_api_Queue) : List D := [.agg [.str a.1, .int .i64 a.2.1, .int .i64 a.2.2.1, .int .i64 a.2.2.2]]
def f37.blks (a : T_api_Queue) : List (List D) := []
def f37.res (a : T_api_Queue) : List D := [.bool (queueB a)]
def f37.blks' (a : T_api_Queue) : List (List D) := []
def f37.C : Contract := FnC f37.args f37.blks (fun a => queue_pre a) f37.res f37.blks'
end Go.Abs

/- interregnum/interregnumref05.Queue -/
namespace Go.Abs
open Go
set_option linter.unusedVariables false
def f37.kills (a : T_api_Queue) : List Hint := []
def f37.cuts (a : T_api_Queue) : List (Nat × Σ β : Type, β → Tm) := []
def f37.af (a : T_api_Queue) : AF := AF.mk (.seq (.region [⟨(some 1), 0, .box, [.t 0], none⟩,
  ⟨(some 2), 1, .move, [.c (.bool false)], none⟩])
 (.seq (.region [⟨(some 3), 2, (.fieldAddr 0), [.t 1], none⟩,
  ⟨(some 4), 3, (.load false 1), [.t 3], none⟩,
  ⟨(some 5), 4, (.call false 58), [.t 4], none⟩,
  ⟨(some 6), 8, .move, [.t 5], none⟩,
  ⟨(some 7), 9, (.fieldAddr 1), [.t 1], (some (6, true))⟩,
  ⟨(some 8), 10, (.load true 3), [.t 7], (some (6, true))⟩,
  ⟨(some 9), 11, (.call false 55), [.t 8], (some (6, true))⟩,
  ⟨(some 10), 15, .pick, [.t 6, .t 9, .c (.bool false)], none⟩,
  ⟨(some 2), 16, .move, [.t 10], none⟩])
 (.ret)))
  [.tmp 2] 0 10
def f37.env : Env := [(58, f58.C), (55, f55.C)]
def f37.tree (a : T_api_Queue) : Prop := ∃ c1 : ByteArray, (a.1 = c1) ∧ (name_pre c1) ∧ Br (nameB c1) (∃ c4 : T_ar3_i64, (a.2.1 = c4.1) ∧ (a.2.2.1 = c4.2.1) ∧ (a.2.2.2 = c4.2.2) ∧ True ∧ ((rightB c4) = (queueB a)) ∧ True) ((false = (queueB a)) ∧ True)
def f37.vc (a : T_api_Queue) : Prop := (name_pre a.1 ∧ (((nameB (a.1)) = true → ((rightB (a.2)) = queueB a)) ∧ (¬ ((nameB (a.1)) = true) → (false = queueB a))))
set_option maxRecDepth 100000 in
set_option maxHeartbeats 2000000 in
theorem f37.of (a : T_api_Queue) (h : f37.vc a) : f37.tree a := ⟨a.1, ⟨rfl, ⟨h.1, br h.2 Cnd.b (fun h2 k8 => ⟨a.2, ⟨rfl, ⟨rfl, ⟨rfl, ⟨trivial, ⟨k8, trivial⟩⟩⟩⟩⟩⟩) (fun h3 k9 => ⟨k9, trivial⟩)⟩⟩⟩
theorem f37.eq (a : T_api_Queue) : (f37.af a).gives f37.env (f37.args a) (f37.blks a) (f37.res a) (f37.blks' a) = f37.tree a := by kernel_rfl
end Go.Abs

-- interregnum/model.maybe
namespace Go.Abs
open Go
def f51.args (a : ByteArray) : List D := [.str a]
def f51.blks (a : ByteArray) : List (List D) := []
def f51.res (a : ByteArray) : List D := [.bool (maybeB a)]
def f51.blks' (a : ByteArray) : List (List D) := []
def f51.C : Contract := FnC f51.args f51.blks (fun a => name_pre a) f51.res f51.blks'
end Go.Abs

/- interregnum/model.maybe -/
namespace Go.Abs
open Go
set_option linter.unusedVariables false
def f51.kills (a : ByteArray) : List Hint := []
def f51.cuts (a : ByteArray) : List (Nat × Σ β : Type, β → Tm) := []
def f51.af (a : ByteArray) : AF := AF.mk (.seq (.region [⟨(some 2), 0, .move, [.c (.bool false)], none⟩])
 (.seq (.region [⟨(some 3), 1, .move, [.t 0], none⟩,
  ⟨(some 4), 2, (.bin .eql), [.t 3, .c (.str ByteArray.empty)], none⟩,
  ⟨(some 5), 3, .move, [.t 4], none⟩,
  ⟨(some 6), 4, .move, [.t 0], (some (5, false))⟩,
  ⟨(some 7), 5, (.call false 48), [.t 6], (some (5, false))⟩,
  ⟨(some 8), 9, .pick, [.t 5, .c (.bool true), .t 7], none⟩,
  ⟨(some 2), 10, .move, [.t 8], none⟩])
 (.ret)))
  [.tmp 2] 0 8
def f51.env : Env := [(48, f48.C)]
def f51.tree (a : ByteArray) : Prop := Br (a.toList == ByteArray.empty.toList) ((true = (maybeB a)) ∧ True) (∃ c4 : ByteArray, (a = c4) ∧ (name_pre c4) ∧ ((nameB c4) = (maybeB a)) ∧ True)
def f51.vc (a : ByteArray) : Prop := ((a = ByteArray.empty → (true = maybeB a)) ∧ (¬ (a = ByteArray.empty) → (name_pre a ∧ ((nameB a) = maybeB a))))
set_option maxRecDepth 100000 in
set_option maxHeartbeats 2000000 in
theorem f51.of (a : ByteArray) (h : f51.vc a) : f51.tree a := br h Cnd.seq (fun h1 k7 => ⟨k7, trivial⟩) (fun h2 k8 => ⟨a, ⟨rfl, ⟨k8.1, ⟨k8.2, trivial⟩⟩⟩⟩)
theorem f51.eq (a : ByteArray) : (f51.af a).gives f51.env (f51.args a) (f51.blks a) (f51.res a) (f51.blks' a) = f51.tree a := by kernel_rfl
end Go.Abs

-- interregnum/model.Task
namespace Go.Abs
open Go
def f24.args (a : T_api_Task) : List D := [.agg [.str a.1, .str a.2.1, .int .i64 a.2.2.1, .int .i64 a.2.2.2.1.1, .int .i64 a.2.2.2.1.2.1, .int .i64 a.2.2.2.1.2.2, .slice .ro 2 a.2.2.2.2.1.length (gl e_api_Label a.2.2.2.2.1), .str a.2.2.2.2.2.1, .str a.2.2.2.2.2.2.1, .int .i64 a.2.2.2.2.2.2.2]]
def f24.blks (a : T_api_Task) : List (List D) := []
def f24.res (a : T_api_Task) : List D := [.bool (taskB a)]
def f24.blks' (a : T_api_Task) : List (List D) := []
def f24.C : Contract := FnC f24.args f24.blks (fun a => task_pre a) f24.res f24.blks'
end Go.Abs

/- interregnum/model.Task -/
namespace Go.Abs
open Go
set_option linter.unusedVariables false
def f24.kills (a : T_api_Task) : List Hint := []
def f24.cuts (a : T_api_Task) : List (Nat × Σ β : Type, β → Tm) := []
def f24.af (a : T_api_Task) : AF := AF.mk (.seq (.region [⟨(some 1), 0, .box, [.t 0], none⟩,
  ⟨(some 2), 1, .move, [.c (.bool false)], none⟩])
 (.seq (.block 0 (.seq (.region [⟨(some 4), 2, (.fieldAddr 0), [.t 1], none⟩,
  ⟨(some 5), 3, (.load false 1), [.t 4], none⟩,
  ⟨(some 6), 4, (.call false 48), [.t 5], none⟩,
  ⟨(some 7), 8, (.un .not), [.t 6], none⟩,
  ⟨(some 8), 9, .move, [.t 7], none⟩,
  ⟨(some 9), 10, (.fieldAddr 1), [.t 1], (some (8, false))⟩,
  ⟨(some 10), 11, (.load false 1), [.t 9], (some (8, false))⟩,
  ⟨(some 11), 12, (.call false 48), [.t 10], (some (8, false))⟩,
  ⟨(some 12), 16, (.un .not), [.t 11], (some (8, false))⟩,
  ⟨(some 13), 17, .pick, [.t 8, .c (.bool true), .t 12], none⟩,
  ⟨(some 3), 18, .move, [.t 13], none⟩])
 (.cond (.t 3) (.seq (.region [⟨(some 2), 19, .move, [.c (.bool false)], none⟩])
 (.ret)) (.seq (.region [⟨(some 15), 20, (.fieldAddr 2), [.t 1], none⟩,
  ⟨(some 16), 21, (.load false 1), [.t 15], none⟩,
  ⟨(some 17), 22, (.bin .lss), [.t 16, .c (.int .i64 (0))], none⟩,
  ⟨(some 18), 23, .move, [.t 17], none⟩,
  ⟨(some 19), 24, (.fieldAddr 2), [.t 1], (some (18, false))⟩,
  ⟨(some 20), 25, (.load false 1), [.t 19], (some (18, false))⟩,
  ⟨(some 21), 26, (.bin .gtr), [.t 20, .c (.int .i64 (9))], (some (18, false))⟩,
  ⟨(some 22), 27, .pick, [.t 18, .c (.bool true), .t 21], none⟩,
  ⟨(some 23), 28, .move, [.t 22], none⟩,
  ⟨(some 24), 29, (.fieldAddr 3), [.t 1], (some (23, false))⟩,
  ⟨(some 25), 30, (.load true 3), [.t 24], (some (23, false))⟩,
  ⟨(some 26), 31, (.call false 49), [.t 25], (some (23, false))⟩,
  ⟨(some 27), 35, (.un .not), [.t 26], (some (23, false))⟩,
  ⟨(some 28), 36, .pick, [.t 23, .c (.bool true), .t 27], none⟩,
  ⟨(some 14), 37, .move, [.t 28], none⟩])
 (.cond (.t 14) (.seq (.region [⟨(some 2), 38, .move, [.c (.bool false)], none⟩])
 (.ret)) (.seq (.region [⟨(some 30), 39, (.fieldAddr 6), [.t 1], none⟩,
  ⟨(some 31), 40, (.load false 1), [.t 30], none⟩,
  ⟨(some 32), 41, (.call false 50), [.t 31], none⟩,
  ⟨(some 33), 45, (.un .not), [.t 32], none⟩,
  ⟨(some 34), 46, .move, [.t 33], none⟩,
  ⟨(some 35), 47, (.fieldAddr 7), [.t 1], (some (34, false))⟩,
  ⟨(some 36), 48, (.load false 1), [.t 35], (some (34, false))⟩,
  ⟨(some 37), 49, (.call false 51), [.t 36], (some (34, false))⟩,
  ⟨(some 38), 53, (.un .not), [.t 37], (some (34, false))⟩,
  ⟨(some 39), 54, .pick, [.t 34, .c (.bool true), .t 38], none⟩,
  ⟨(some 40), 55, .move, [.t 39], none⟩,
  ⟨(some 41), 56, (.fieldAddr 8), [.t 1], (some (40, false))⟩,
  ⟨(some 42), 57, (.load false 1), [.t 41], (some (40, false))⟩,
  ⟨(some 43), 58, (.call false 51), [.t 42], (some (40, false))⟩,
  ⟨(some 44), 62, (.un .not), [.t 43], (some (40, false))⟩,
  ⟨(some 45), 63, .pick, [.t 40, .c (.bool true), .t 44], none⟩,
  ⟨(some 29), 64, .move, [.t 45], none⟩])
 (.cond (.t 29) (.seq (.region [⟨(some 2), 65, .move, [.c (.bool false)], none⟩])
 (.ret)) (.seq (.region [⟨(some 47), 66, (.fieldAddr 8), [.t 1], none⟩,
  ⟨(some 48), 67, (.load false 1), [.t 47], none⟩,
  ⟨(some 49), 68, (.bin .eql), [.t 48, .c (.str ByteArray.empty)], none⟩,
  ⟨(some 46), 69, .move, [.t 49], none⟩])
 (.cond (.t 46) (.seq (.region [⟨(some 50), 70, (.fieldAddr 9), [.t 1], none⟩,
  ⟨(some 51), 71, (.load false 1), [.t 50], none⟩,
  ⟨(some 52), 72, (.bin .eql), [.t 51, .c (.int .i64 (0))], none⟩,
  ⟨(some 2), 73, .move, [.t 52], none⟩])
 (.ret)) (.skip))))))))))
 (.seq (.region [⟨(some 53), 74, (.fieldAddr 9), [.t 1], none⟩,
  ⟨(some 54), 75, (.load false 1), [.t 53], none⟩,
  ⟨(some 55), 76, (.bin .geq), [.t 54, .c (.int .i64 (2))], none⟩,
  ⟨(some 56), 77, .move, [.t 55], none⟩,
  ⟨(some 57), 78, (.fieldAddr 9), [.t 1], (some (56, true))⟩,
  ⟨(some 58), 79, (.load false 1), [.t 57], (some (56, true))⟩,
  ⟨(some 59), 80, (.bin .leq), [.t 58, .c (.int .i64 (4))], (some (56, true))⟩,
  ⟨(some 60), 81, .pick, [.t 56, .t 59, .c (.bool false)], none⟩,
  ⟨(some 2), 82, .move, [.t 60], none⟩])
 (.ret))))
  [.tmp 2] 0 60
def f24.env : Env := [(48, f48.C), (49, f49.C), (50, f50.C), (51, f51.C)]
def f24.tree (a : T_api_Task) : Prop := ∃ c1 : ByteArray, (a.1 = c1) ∧ (name_pre c1) ∧ Br (!(nameB c1)) ((false = (taskB a)) ∧ True) (∃ c5 : ByteArray, (a.2.1 = c5) ∧ (name_pre c5) ∧ Br (!(nameB c5)) ((false = (taskB a)) ∧ True) (Br (decide (a.2.2.1 < (0 : Int))) ((false = (taskB a)) ∧ True) (Br (decide ((9 : Int) < a.2.2.1)) ((false = (taskB a)) ∧ True) (∃ c15 : T_ar3_i64, (a.2.2.2.1.1 = c15.1) ∧ (a.2.2.2.1.2.1 = c15.2.1) ∧ (a.2.2.2.1.2.2 = c15.2.2) ∧ True ∧ Br (!(rightB c15)) ((false = (taskB a)) ∧ True) (∃ c19 : List (T_api_Label), (a.2.2.2.2.1.length = c19.length) ∧ (∀ i, i < c19.length → DEqs ((gl e_api_Label a.2.2.2.2.1) i) ((gl e_api_Label c19) i)) ∧ (lbls_pre c19) ∧ Br (!(labelsB c19)) ((false = (taskB a)) ∧ True) (∃ c23 : ByteArray, (a.2.2.2.2.2.1 = c23) ∧ (name_pre c23) ∧ Br (!(maybeB c23)) ((false = (taskB a)) ∧ True) (∃ c27 : ByteArray, (a.2.2.2.2.2.2.1 = c27) ∧ (name_pre c27) ∧ Br (!(maybeB c27)) ((false = (taskB a)) ∧ True) (Br (a.2.2.2.2.2.2.1.toList == ByteArray.empty.toList) (((a.2.2.2.2.2.2.2 == (0 : Int)) = (taskB a)) ∧ True) (Br (decide ((2 : Int) ≤ a.2.2.2.2.2.2.2)) (((decide (a.2.2.2.2.2.2.2 ≤ (4 : Int))) = (taskB a)) ∧ True) ((false = (taskB a)) ∧ True))))))))))
def f24.vc (a : T_api_Task) : Prop := (name_pre a.1 ∧ ((¬ ((nameB (a.1)) = true) → (false = taskB a)) ∧ (¬ (¬ ((nameB (a.1)) = true)) → (name_pre a.2.1 ∧ ((¬ ((nameB (a.2.1)) = true) → (false = taskB a)) ∧ (¬ (¬ ((nameB (a.2.1)) = true)) → ((a.2.2.1 < (0 : Int) → (false = taskB a)) ∧ (¬ (a.2.2.1 < (0 : Int)) → (((9 : Int) < a.2.2.1 → (false = taskB a)) ∧ (¬ ((9 : Int) < a.2.2.1) → ((¬ ((rightB (a.2.2.2.1)) = true) → (false = taskB a)) ∧ (¬ (¬ ((rightB (a.2.2.2.1)) = true)) → (lbls_pre a.2.2.2.2.1 ∧ ((¬ ((labelsB (a.2.2.2.2.1)) = true) → (false = taskB a)) ∧ (¬ (¬ ((labelsB (a.2.2.2.2.1)) = true)) → (name_pre a.2.2.2.2.2.1 ∧ ((¬ ((maybeB (a.2.2.2.2.2.1)) = true) → (false = taskB a)) ∧ (¬ (¬ ((maybeB (a.2.2.2.2.2.1)) = true)) → (name_pre a.2.2.2.2.2.2.1 ∧ ((¬ ((maybeB (a.2.2.2.2.2.2.1)) = true) → (false = taskB a)) ∧ (¬ (¬ ((maybeB (a.2.2.2.2.2.2.1)) = true)) → ((a.2.2.2.2.2.2.1 = ByteArray.empty → ((a.2.2.2.2.2.2.2 == (0 : Int)) = taskB a)) ∧ (¬ (a.2.2.2.2.2.2.1 = ByteArray.empty) → (((2 : Int) ≤ a.2.2.2.2.2.2.2 → (decide (a.2.2.2.2.2.2.2 ≤ (4 : Int)) = taskB a)) ∧ (¬ ((2 : Int) ≤ a.2.2.2.2.2.2.2) → (false = taskB a))))))))))))))))))))))))))
set_option maxRecDepth 100000 in
set_option maxHeartbeats 2000000 in
theorem f24.of (a : T_api_Task) (h : f24.vc a) : f24.tree a := ⟨a.1, ⟨rfl, ⟨h.1, br h.2 (Cnd.not Cnd.b) (fun h2 k61 => ⟨k61, trivial⟩) (fun h3 k62 => ⟨a.2.1, ⟨rfl, ⟨k62.1, br k62.2 (Cnd.not Cnd.b) (fun h6 k58 => ⟨k58, trivial⟩) (fun h7 k59 => br k59 Cnd.dec (fun h9 k56 => ⟨k56, trivial⟩) (fun h10 k57 => br k57 Cnd.dec (fun h12 k54 => ⟨k54, trivial⟩) (fun h13 k55 => ⟨a.2.2.2.1, ⟨rfl, ⟨rfl, ⟨rfl, ⟨trivial, br k55 (Cnd.not Cnd.b) (fun h16 k51 => ⟨k51, trivial⟩) (fun h17 k52 => ⟨a.2.2.2.2.1, slK (Rds.self (enc := e_api_Label)) (⟨k52.1, br k52.2 (Cnd.not Cnd.b) (fun h20 k48 => ⟨k48, trivial⟩) (fun h21 k49 => ⟨a.2.2.2.2.2.1, ⟨rfl, ⟨k49.1, br k49.2 (Cnd.not Cnd.b) (fun h24 k45 => ⟨k45, trivial⟩) (fun h25 k46 => ⟨a.2.2.2.2.2.2.1, ⟨rfl, ⟨k46.1, br k46.2 (Cnd.not Cnd.b) (fun h28 k42 => ⟨k42, trivial⟩) (fun h29 k43 => br k43 Cnd.seq (fun h31 k40 => ⟨k40, trivial⟩) (fun h32 k41 => br k41 Cnd.dec (fun h34 k38 => ⟨k38, trivial⟩) (fun h35 k39 => ⟨k39, trivial⟩)))⟩⟩⟩)⟩⟩⟩)⟩)⟩)⟩⟩⟩⟩⟩)))⟩⟩⟩)⟩⟩⟩
theorem f24.eq (a : T_api_Task) : (f24.af a).gives f24.env (f24.args a) (f24.blks a) (f24.res a) (f24.blks' a) = f24.tree a := by kernel_rfl
end Go.Abs

-- interregnum/interregnumref05.Task
namespace Go.Abs
open Go
def f38.args (a : T_api_Task) : List D := [.agg [.str a.1, .str a.2.1, .int .i64 a.2.2.1, .int .i64 a.2.2.2.1.1, .int .i64 a.2.2.2.1.2.1, .int .i64 a.2.2.2.1.2.2, .slice .ro 2 a.2.2.2.2.1.length (gl e_api_Label a.2.2.2.2.1), .str a.2.2.2.2.2.1, .str a.2.2.2.2.2.2.1, .int .i64 a.2.2.2.2.2.2.2]]
def f38.blks (a : T_api_Task) : List (List D) := []
def f38.res (a : T_api_Task) : List D := [.bool (taskB a)]
def f38.blks' (a : T_api_Task) : List (List D) := []
def f38.C : Contract := FnC f38.args f38.blks (fun a => task_pre a) f38.res f38.blks'
end Go.Abs

/- interregnum/interregnumref05.Task -/
namespace Go.Abs
open Go
set_option linter.unusedVariables false
def f38.kills (a : T_api_Task) : List Hint := []
def f38.cuts (a : T_api_Task) : List (Nat × Σ β : Type, β → Tm) := []
def f38.af (a : T_api_Task) : AF := AF.mk (.seq (.region [⟨(some 1), 0, .box, [.t 0], none⟩,
  ⟨(some 2), 1, .move, [.c (.bool false)], none⟩])
 (.seq (.seq (.region [⟨(some 3), 2, (.fieldAddr 0), [.t 1], none⟩,
  ⟨(some 4), 3, (.load false 1), [.t 3], none⟩,
  ⟨(some 5), 4, (.call false 58), [.t 4], none⟩,
  ⟨(some 6), 8, (.un .not), [.t 5], none⟩,
  ⟨(some 7), 9, .move, [.t 6], none⟩,
  ⟨(some 8), 10, (.fieldAddr 1), [.t 1], (some (7, false))⟩,
  ⟨(some 9), 11, (.load false 1), [.t 8], (some (7, false))⟩,
  ⟨(some 10), 12, (.call false 58), [.t 9], (some (7, false))⟩,
  ⟨(some 11), 16, (.un .not), [.t 10], (some (7, false))⟩,
  ⟨(some 12), 17, .pick, [.t 7, .c (.bool true), .t 11], none⟩,
  ⟨(some 13), 18, .move, [.t 12], none⟩,
  ⟨(some 14), 19, (.fieldAddr 2), [.t 1], (some (13, false))⟩,
  ⟨(some 15), 20, (.load false 1), [.t 14], (some (13, false))⟩,
  ⟨(some 16), 21, (.bin .lss), [.t 15, .c (.int .i64 (0))], (some (13, false))⟩,
  ⟨(some 17), 22, .pick, [.t 13, .c (.bool true), .t 16], none⟩,
  ⟨(some 18), 23, .move, [.t 17], none⟩,
  ⟨(some 19), 24, (.fieldAddr 2), [.t 1], (some (18, false))⟩,
  ⟨(some 20), 25, (.load false 1), [.t 19], (some (18, false))⟩,
  ⟨(some 21), 26, (.bin .gtr), [.t 20, .c (.int .i64 (9))], (some (18, false))⟩,
  ⟨(some 22), 27, .pick, [.t 18, .c (.bool true), .t 21], none⟩,
  ⟨(some 23), 28, .move, [.t 22], none⟩,
  ⟨(some 24), 29, (.fieldAddr 3), [.t 1], (some (23, false))⟩,
  ⟨(some 25), 30, (.load true 3), [.t 24], (some (23, false))⟩,
  ⟨(some 26), 31, (.call false 55), [.t 25], (some (23, false))⟩,
  ⟨(some 27), 35, (.un .not), [.t 26], (some (23, false))⟩,
  ⟨(some 28), 36, .pick, [.t 23, .c (.bool true), .t 27], none⟩,
  ⟨(some 29), 37, .move, [.t 28], none⟩,
  ⟨(some 30), 38, (.fieldAddr 6), [.t 1], (some (29, false))⟩,
  ⟨(some 31), 39, (.load false 1), [.t 30], (some (29, false))⟩,
  ⟨(some 32), 40, (.call false 59), [.t 31], (some (29, false))⟩,
  ⟨(some 33), 44, (.un .not), [.t 32], (some (29, false))⟩,
  ⟨(some 34), 45, .pick, [.t 29, .c (.bool true), .t 33], none⟩])
 (.cond (.t 34) (.seq (.region [⟨(some 2), 46, .move, [.c (.bool false)], none⟩])
 (.ret)) (.skip)))
 (.seq (.seq (.region [⟨(some 35), 47, (.fieldAddr 7), [.t 1], none⟩,
  ⟨(some 36), 48, (.load false 1), [.t 35], none⟩,
  ⟨(some 37), 49, (.bin .neq), [.t 36, .c (.str ByteArray.empty)], none⟩,
  ⟨(some 38), 50, .move, [.t 37], none⟩,
  ⟨(some 39), 51, (.fieldAddr 7), [.t 1], (some (38, true))⟩,
  ⟨(some 40), 52, (.load false 1), [.t 39], (some (38, true))⟩,
  ⟨(some 41), 53, (.call false 58), [.t 40], (some (38, true))⟩,
  ⟨(some 42), 57, (.un .not), [.t 41], (some (38, true))⟩,
  ⟨(some 43), 58, .pick, [.t 38, .t 42, .c (.bool false)], none⟩])
 (.cond (.t 43) (.seq (.region [⟨(some 2), 59, .move, [.c (.bool false)], none⟩])
 (.ret)) (.skip)))
 (.seq (.seq (.region [⟨(some 44), 60, (.fieldAddr 8), [.t 1], none⟩,
  ⟨(some 45), 61, (.load false 1), [.t 44], none⟩,
  ⟨(some 46), 62, (.bin .eql), [.t 45, .c (.str ByteArray.empty)], none⟩])
 (.cond (.t 46) (.seq (.region [⟨(some 47), 63, (.fieldAddr 9), [.t 1], none⟩,
  ⟨(some 48), 64, (.load false 1), [.t 47], none⟩,
  ⟨(some 49), 65, (.bin .eql), [.t 48, .c (.int .i64 (0))], none⟩,
  ⟨(some 2), 66, .move, [.t 49], none⟩])
 (.ret)) (.skip)))
 (.seq (.region [⟨(some 50), 67, (.fieldAddr 8), [.t 1], none⟩,
  ⟨(some 51), 68, (.load false 1), [.t 50], none⟩,
  ⟨(some 52), 69, (.call false 58), [.t 51], none⟩,
  ⟨(some 53), 73, .move, [.t 52], none⟩,
  ⟨(some 54), 74, (.fieldAddr 9), [.t 1], (some (53, true))⟩,
  ⟨(some 55), 75, (.load false 1), [.t 54], (some (53, true))⟩,
  ⟨(some 56), 76, (.bin .geq), [.t 55, .c (.int .i64 (2))], (some (53, true))⟩,
  ⟨(some 57), 77, .pick, [.t 53, .t 56, .c (.bool false)], none⟩,
  ⟨(some 58), 78, .move, [.t 57], none⟩,
  ⟨(some 59), 79, (.fieldAddr 9), [.t 1], (some (58, true))⟩,
  ⟨(some 60), 80, (.load false 1), [.t 59], (some (58, true))⟩,
  ⟨(some 61), 81, (.bin .leq), [.t 60, .c (.int .i64 (4))], (some (58, true))⟩,
  ⟨(some 62), 82, .pick, [.t 58, .t 61, .c (.bool false)], none⟩,
  ⟨(some 2), 83, .move, [.t 62], none⟩])
 (.ret))))))
  [.tmp 2] 0 62
def f38.env : Env := [(58, f58.C), (55, f55.C), (59, f59.C)]
def f38.tree (a : T_api_Task) : Prop := ∃ c1 : ByteArray, (a.1 = c1) ∧ (name_pre c1) ∧ Br (!(nameB c1)) ((false = (taskB a)) ∧ True) (∃ c5 : ByteArray, (a.2.1 = c5) ∧ (name_pre c5) ∧ Br (!(nameB c5)) ((false = (taskB a)) ∧ True) (Br (decide (a.2.2.1 < (0 : Int))) ((false = (taskB a)) ∧ True) (Br (decide ((9 : Int) < a.2.2.1)) ((false = (taskB a)) ∧ True) (∃ c15 : T_ar3_i64, (a.2.2.2.1.1 = c15.1) ∧ (a.2.2.2.1.2.1 = c15.2.1) ∧ (a.2.2.2.1.2.2 = c15.2.2) ∧ True ∧ Br (!(rightB c15)) ((false = (taskB a)) ∧ True) (∃ c19 : List (T_api_Label), (a.2.2.2.2.1.length = c19.length) ∧ (∀ i, i < c19.length → DEqs ((gl e_api_Label a.2.2.2.2.1) i) ((gl e_api_Label c19) i)) ∧ (lbls_pre c19) ∧ Br (!(labelsB c19)) ((false = (taskB a)) ∧ True) (Br (!(a.2.2.2.2.2.1.toList == ByteArray.empty.toList)) (∃ c25 : ByteArray, (a.2.2.2.2.2.1 = c25) ∧ (name_pre c25) ∧ Br (!(nameB c25)) ((false = (taskB a)) ∧ True) (Br (a.2.2.2.2.2.2.1.toList == ByteArray.empty.toList) (((a.2.2.2.2.2.2.2 == (0 : Int)) = (taskB a)) ∧ True) (∃ c32 : ByteArray, (a.2.2.2.2.2.2.1 = c32) ∧ (name_pre c32) ∧ Br (nameB c32) (Br (decide ((2 : Int) ≤ a.2.2.2.2.2.2.2)) (((decide (a.2.2.2.2.2.2.2 ≤ (4 : Int))) = (taskB a)) ∧ True) ((false = (taskB a)) ∧ True)) ((false = (taskB a)) ∧ True)))) (Br (a.2.2.2.2.2.2.1.toList == ByteArray.empty.toList) (((a.2.2.2.2.2.2.2 == (0 : Int)) = (taskB a)) ∧ True) (∃ c53 : ByteArray, (a.2.2.2.2.2.2.1 = c53) ∧ (name_pre c53) ∧ Br (nameB c53) (Br (decide ((2 : Int) ≤ a.2.2.2.2.2.2.2)) (((decide (a.2.2.2.2.2.2.2 ≤ (4 : Int))) = (taskB a)) ∧ True) ((false = (taskB a)) ∧ True)) ((false = (taskB a)) ∧ True)))))))))
def f38.vc (a : T_api_Task) : Prop := (name_pre a.1 ∧ ((¬ ((nameB (a.1)) = true) → (false = taskB a)) ∧ (¬ (¬ ((nameB (a.1)) = true)) → (name_pre a.2.1 ∧ ((¬ ((nameB (a.2.1)) = true) → (false = taskB a)) ∧ (¬ (¬ ((nameB (a.2.1)) = true)) → ((a.2.2.1 < (0 : Int) → (false = taskB a)) ∧ (¬ (a.2.2.1 < (0 : Int)) → (((9 : Int) < a.2.2.1 → (false = taskB a)) ∧ (¬ ((9 : Int) < a.2.2.1) → ((¬ ((rightB (a.2.2.2.1)) = true) → (false = taskB a)) ∧ (¬ (¬ ((rightB (a.2.2.2.1)) = true)) → (lbls_pre a.2.2.2.2.1 ∧ ((¬ ((labelsB (a.2.2.2.2.1)) = true) → (false = taskB a)) ∧ (¬ (¬ ((labelsB (a.2.2.2.2.1)) = true)) → ((¬ (a.2.2.2.2.2.1 = ByteArray.empty) → (name_pre a.2.2.2.2.2.1 ∧ ((¬ ((nameB (a.2.2.2.2.2.1)) = true) → (false = taskB a)) ∧ (¬ (¬ ((nameB (a.2.2.2.2.2.1)) = true)) → ((a.2.2.2.2.2.2.1 = ByteArray.empty → ((a.2.2.2.2.2.2.2 == (0 : Int)) = taskB a)) ∧ (¬ (a.2.2.2.2.2.2.1 = ByteArray.empty) → (name_pre a.2.2.2.2.2.2.1 ∧ (((nameB (a.2.2.2.2.2.2.1)) = true → (((2 : Int) ≤ a.2.2.2.2.2.2.2 → (decide (a.2.2.2.2.2.2.2 ≤ (4 : Int)) = taskB a)) ∧ (¬ ((2 : Int) ≤ a.2.2.2.2.2.2.2) → (false = taskB a)))) ∧ (¬ ((nameB (a.2.2.2.2.2.2.1)) = true) → (false = taskB a)))))))))) ∧ (¬ (¬ (a.2.2.2.2.2.1 = ByteArray.empty)) → ((a.2.2.2.2.2.2.1 = ByteArray.empty → ((a.2.2.2.2.2.2.2 == (0 : Int)) = taskB a)) ∧ (¬ (a.2.2.2.2.2.2.1 = ByteArray.empty) → (name_pre a.2.2.2.2.2.2.1 ∧ (((nameB (a.2.2.2.2.2.2.1)) = true → (((2 : Int) ≤ a.2.2.2.2.2.2.2 → (decide (a.2.2.2.2.2.2.2 ≤ (4 : Int)) = taskB a)) ∧ (¬ ((2 : Int) ≤ a.2.2.2.2.2.2.2) → (false = taskB a)))) ∧ (¬ ((nameB (a.2.2.2.2.2.2.1)) = true) → (false = taskB a)))))))))))))))))))))))
set_option maxRecDepth 100000 in
set_option maxHeartbeats 2000000 in
theorem f38.of (a : T_api_Task) (h : f38.vc a) : f38.tree a := ⟨a.1, ⟨rfl, ⟨h.1, br h.2 (Cnd.not Cnd.b) (fun h2 k83 => ⟨k83, trivial⟩) (fun h3 k84 => ⟨a.2.1, ⟨rfl, ⟨k84.1, br k84.2 (Cnd.not Cnd.b) (fun h6 k80 => ⟨k80, trivial⟩) (fun h7 k81 => br k81 Cnd.dec (fun h9 k78 => ⟨k78, trivial⟩) (fun h10 k79 => br k79 Cnd.dec (fun h12 k76 => ⟨k76, trivial⟩) (fun h13 k77 => ⟨a.2.2.2.1, ⟨rfl, ⟨rfl, ⟨rfl, ⟨trivial, br k77 (Cnd.not Cnd.b) (fun h16 k73 => ⟨k73, trivial⟩) (fun h17 k74 => ⟨a.2.2.2.2.1, slK (Rds.self (enc := e_api_Label)) (⟨k74.1, br k74.2 (Cnd.not Cnd.b) (fun h20 k70 => ⟨k70, trivial⟩) (fun h21 k71 => br k71 (Cnd.not Cnd.seq) (fun h23 k68 => ⟨a.2.2.2.2.2.1, ⟨rfl, ⟨k68.1, br k68.2 (Cnd.not Cnd.b) (fun h26 k47 => ⟨k47, trivial⟩) (fun h27 k48 => br k48 Cnd.seq (fun h29 k45 => ⟨k45, trivial⟩) (fun h30 k46 => ⟨a.2.2.2.2.2.2.1, ⟨rfl, ⟨k46.1, br k46.2 Cnd.b (fun h33 k42 => br k42 Cnd.dec (fun h35 k39 => ⟨k39, trivial⟩) (fun h36 k40 => ⟨k40, trivial⟩)) (fun h34 k43 => ⟨k43, trivial⟩)⟩⟩⟩))⟩⟩⟩) (fun h24 k69 => br k69 Cnd.seq (fun h50 k66 => ⟨k66, trivial⟩) (fun h51 k67 => ⟨a.2.2.2.2.2.2.1, ⟨rfl, ⟨k67.1, br k67.2 Cnd.b (fun h54 k63 => br k63 Cnd.dec (fun h56 k60 => ⟨k60, trivial⟩) (fun h57 k61 => ⟨k61, trivial⟩)) (fun h55 k64 => ⟨k64, trivial⟩)⟩⟩⟩)))⟩)⟩)⟩⟩⟩⟩⟩)))⟩⟩⟩)⟩⟩⟩
theorem f38.eq (a : T_api_Task) : (f38.af a).gives f38.env (f38.args a) (f38.blks a) (f38.res a) (f38.blks' a) = f38.tree a := by kernel_rfl
end Go.Abs

-- interregnum/model.putLabels
namespace Go.Abs
open Go
def f61.args (a : ByteArray × (List (T_api_Label))) : List D := [.slice .ro 1 a.1.size (gstr a.1), .slice .ro 2 a.2.length (gl e_api_Label a.2)]
def f61.blks (a : ByteArray × (List (T_api_Label))) : List (List D) := []
def f61.res (a : ByteArray × (List (T_api_Label))) : List D := [.slice .ro 1 ((putLbls a).size) (gstr (putLbls a))]
def f61.blks' (a : ByteArray × (List (T_api_Label))) : List (List D) := []
def f61.C : Contract := FnC f61.args f61.blks (fun a => putLbls_pre a) f61.res f61.blks'
end Go.Abs

/- interregnum/model.putLabels -/
namespace Go.Abs
open Go
set_option linter.unusedVariables false
def f61.kills (a : ByteArray × (List (T_api_Label))) : List Hint := [.tell (ByteArray × Int) (fun x => ⟨[.slice .ro 1 x.1.size (gstr x.1), .dead, .dead, .dead, .dead, .dead, .dead, .dead, .dead, .dead, .dead, .dead, .slice .ro 2 a.2.length (gl e_api_Label a.2), .int .i64 (a.2.length : Int), .int .i64 x.2, .dead, .dead, .dead, .dead, .dead, .dead, .dead, .dead, .dead, .dead, .dead, .dead], [], []⟩)]
def f61.cuts (a : ByteArray × (List (T_api_Label))) : List (Nat × Σ β : Type, β → Tm) := []
def f61.af (a : ByteArray × (List (T_api_Label))) : AF := AF.mk (.seq (.region [⟨(some 4), 0, (.nilSl 1), [], none⟩])
 (.seq (.region [⟨(some 7), 1, .move, [.t 0], none⟩,
  ⟨(some 8), 2, .move, [.t 1], none⟩,
  ⟨(some 9), 3, (.len false), [.t 8], none⟩,
  ⟨(some 10), 4, (.conv (.int .u64)), [.t 9], none⟩,
  ⟨(some 11), 5, (.call false 14), [.t 7, .t 10], none⟩,
  ⟨(some 0), 9, .move, [.t 11], none⟩])
 (.seq (.seq (.region [⟨(some 12), 10, .move, [.t 1], none⟩,
  ⟨(some 13), 11, (.len false), [.t 12], none⟩,
  ⟨(some 14), 12, .move, [.c (.int .i64 (0))], none⟩])
 (.block 0 (.loopT (ByteArray × Int) (fun x => ⟨[.slice .ro 1 x.1.size (gstr x.1), .dead, .dead, .dead, .dead, .dead, .dead, .dead, .dead, .dead, .dead, .dead, .slice .ro 2 a.2.length (gl e_api_Label a.2), .int .i64 (a.2.length : Int), .int .i64 x.2, .dead, .dead, .dead, .dead, .dead, .dead, .dead, .dead, .dead, .dead, .dead, .dead], [], []⟩) 13 36 (.seq (.region [⟨(some 15), 13, (.bin .lss), [.t 14, .t 13], none⟩])
 (.seq (.cond (.t 15) (.skip) (.exit 0))
 (.seq (.block 1 (.seq (.region [⟨(some 16), 14, (.indexAddr 2 none), [.t 12, .t 14], none⟩,
  ⟨(some 17), 15, (.load true 2), [.t 16], none⟩,
  ⟨(some 6), 16, (.alloc [.str ByteArray.empty, .str ByteArray.empty]), [], none⟩,
  ⟨none, 19, (.store 2), [.t 6, .t 17], none⟩])
 (.region [⟨(some 18), 20, .move, [.t 0], none⟩,
  ⟨(some 19), 21, (.fieldAddr 0), [.t 6], none⟩,
  ⟨(some 20), 22, (.load false 1), [.t 19], none⟩,
  ⟨(some 21), 23, (.call false 16), [.t 18, .t 20], none⟩,
  ⟨(some 22), 27, (.fieldAddr 1), [.t 6], none⟩,
  ⟨(some 23), 28, (.load false 1), [.t 22], none⟩,
  ⟨(some 24), 29, (.call false 16), [.t 21, .t 23], none⟩,
  ⟨(some 0), 33, .move, [.t 24], none⟩])))
 (.region [⟨(some 25), 34, (.bin .add), [.t 14, .c (.int .i64 (1))], none⟩,
  ⟨(some 14), 35, .move, [.t 25], none⟩])))))))
 (.seq (.region [⟨(some 26), 36, .move, [.t 0], none⟩,
  ⟨(some 4), 37, .move, [.t 26], none⟩])
 (.ret)))))
  [.tmp 4] 0 25
def f61.env : Env := [(14, f14.C), (16, f16.C)]
def f61.tree (a : ByteArray × (List (T_api_Label))) : Prop := Let (IntKind.u64.wrap (a.2.length : Int)) (fun v1 : Int => ∃ c2 : ByteArray × Int, (a.1.size = c2.1.size) ∧ (∀ i, i < c2.1.size → DEqs ((gstr a.1) i) ((gstr c2.1) i)) ∧ (v1 = c2.2) ∧ (put_pre c2) ∧ ∃ (I4 : (ByteArray × Int) → Prop) (μ5 : (ByteArray × Int) → Nat), (∃ x3 : ByteArray × Int, (((putB c2).size) = x3.1.size) ∧ (∀ i, i < x3.1.size → DEqs ((gstr (putB c2)) i) ((gstr x3.1) i)) ∧ (a.2.length = a.2.length) ∧ (∀ i, i < a.2.length → DEqs ((gl e_api_Label a.2) i) ((gl e_api_Label a.2) i)) ∧ ((a.2.length : Int) = (a.2.length : Int)) ∧ ((0 : Int) = x3.2) ∧ I4 x3) ∧ ∀ y6 : ByteArray × Int, I4 y6 → (Br (decide (y6.2 < (a.2.length : Int))) (Br (decide ((0 : Int) ≤ y6.2) && decide (y6.2 < (a.2.length : Int))) (∃ c10 : ByteArray × ByteArray, (y6.1.size = c10.1.size) ∧ (∀ i, i < c10.1.size → DEqs ((gstr y6.1) i) ((gstr c10.1) i)) ∧ (((at_ a.2 y6.2).1) = c10.2) ∧ (putText_pre c10) ∧ ∃ c11 : ByteArray × ByteArray, (((putText c10).size) = c11.1.size) ∧ (∀ i, i < c11.1.size → DEqs ((gstr (putText c10)) i) ((gstr c11.1) i)) ∧ (((at_ a.2 y6.2).2) = c11.2) ∧ (putText_pre c11) ∧ Let (IntKind.i64.wrap (y6.2 + (1 : Int))) (fun v12 : Int => ∃ x13 : ByteArray × Int, (((putText c11).size) = x13.1.size) ∧ (∀ i, i < x13.1.size → DEqs ((gstr (putText c11)) i) ((gstr x13.1) i)) ∧ (a.2.length = a.2.length) ∧ (∀ i, i < a.2.length → DEqs ((gl e_api_Label a.2) i) ((gl e_api_Label a.2) i)) ∧ ((a.2.length : Int) = (a.2.length : Int)) ∧ (v12 = x13.2) ∧ I4 x13 ∧ μ5 x13 < μ5 y6)) False) ((y6.1.size = ((putLbls a).size)) ∧ (∀ i, i < ((putLbls a).size) → DEqs ((gstr y6.1) i) ((gstr (putLbls a)) i)) ∧ True)))
def f61.vc (a : ByteArray × (List (T_api_Label))) : Prop := (0 ≤ (a.2.length : Int) ∧ (a.2.length : Int) ≤ 18446744073709551615 ∧ (put_pre (a.1, (a.2.length : Int)) ∧ (∃ (I4 : (ByteArray × Int) → Prop) (μ5 : (ByteArray × Int) → Nat), I4 ((putB (a.1, (a.2.length : Int))), (0 : Int)) ∧ ∀ y6 : ByteArray × Int, I4 y6 → ((y6.2 < (a.2.length : Int) → ((0 : Int) ≤ y6.2 ∧ y6.2 < (a.2.length : Int) ∧ (putText_pre (y6.1, (at_ a.2 y6.2).1) ∧ (putText_pre ((putText (y6.1, (at_ a.2 y6.2).1)), (at_ a.2 y6.2).2) ∧ (-9223372036854775808 ≤ (y6.2 + (1 : Int)) ∧ (y6.2 + (1 : Int)) ≤ 9223372036854775807 ∧ (I4 ((putText ((putText (y6.1, (at_ a.2 y6.2).1)), (at_ a.2 y6.2).2)), (y6.2 + (1 : Int))) ∧ μ5 ((putText ((putText (y6.1, (at_ a.2 y6.2).1)), (at_ a.2 y6.2).2)), (y6.2 + (1 : Int))) < μ5 y6)))))) ∧ (¬ (y6.2 < (a.2.length : Int)) → (y6.1 = putLbls a))))))
set_option maxRecDepth 100000 in
set_option maxHeartbeats 2000000 in
theorem f61.of (a : ByteArray × (List (T_api_Label))) (h : f61.vc a) : f61.tree a := wrapK.u64 h (fun h28 h29 k30 => ⟨(a.1, (a.2.length : Int)), slK RdB.self (⟨rfl, ⟨k30.1, Exists.elim k30.2 (fun I4 h24_ => Exists.elim h24_ (fun μ5 h24 => ⟨I4, μ5, ⟨((putB (a.1, (a.2.length : Int))), (0 : Int)), slK RdB.self (slK (Rds.self (enc := e_api_Label)) (⟨rfl, ⟨rfl, h24.1⟩⟩))⟩, fun y6 h26 => br (h24.2 y6 h26) Cnd.dec (fun h7 k22 => chk k22.2.2 Cnd.ix ⟨k22.1, k22.2.1⟩ (fun h9 k20 => ⟨(y6.1, (at_ a.2 y6.2).1), slK RdB.self (⟨rfl, ⟨k20.1, ⟨((putText (y6.1, (at_ a.2 y6.2).1)), (at_ a.2 y6.2).2), slK RdB.self (⟨rfl, ⟨k20.2.1, wrapK.i64 k20.2.2 (fun h15 h16 k17 => ⟨((putText ((putText (y6.1, (at_ a.2 y6.2).1)), (at_ a.2 y6.2).2)), (y6.2 + (1 : Int))), slK RdB.self (slK (Rds.self (enc := e_api_Label)) (⟨rfl, ⟨rfl, k17⟩⟩))⟩)⟩⟩)⟩⟩⟩)⟩)) (fun h8 k23 => slK (RdB.to RdB.self k23) (trivial))⟩))⟩⟩)⟩)
theorem f61.eq (a : ByteArray × (List (T_api_Label))) : (f61.af a).gives f61.env (f61.args a) (f61.blks a) (f61.res a) (f61.blks' a) = f61.tree a := by kernel_rfl
end Go.Abs

-- interregnum/model.PutNode
namespace Go.Abs
open Go
def f39.args (a : ByteArray × T_api_Node) : List D := [.slice .ro 1 a.1.size (gstr a.1), .agg [.str a.2.1, .int .i64 a.2.2.1.1, .int .i64 a.2.2.1.2.1, .int .i64 a.2.2.1.2.2, .slice .ro 2 a.2.2.2.length (gl e_api_Label a.2.2.2)]]
def f39.blks (a : ByteArray × T_api_Node) : List (List D) := []
def f39.res (a : ByteArray × T_api_Node) : List D := [.slice .ro 1 ((putNode a).size) (gstr (putNode a))]
def f39.blks' (a : ByteArray × T_api_Node) : List (List D) := []
def f39.C : Contract := FnC f39.args f39.blks (fun a => putNode_pre a) f39.res f39.blks'
end Go.Abs

/- interregnum/model.PutNode -/
namespace Go.Abs
open Go
set_option linter.unusedVariables false
def f39.kills (a : ByteArray × T_api_Node) : List Hint := []
def f39.cuts (a : ByteArray × T_api_Node) : List (Nat × Σ β : Type, β → Tm) := []
def f39.af (a : ByteArray × T_api_Node) : AF := AF.mk (.seq (.region [⟨(some 3), 0, .box, [.t 1], none⟩,
  ⟨(some 4), 1, (.nilSl 1), [], none⟩])
 (.seq (.seq (.region [⟨(some 5), 2, (.load true 5), [.t 3], none⟩,
  ⟨(some 6), 3, (.call false 35), [.t 5], none⟩,
  ⟨(some 7), 7, (.un .not), [.t 6], none⟩])
 (.cond (.t 7) (.seq (.region [⟨(some 8), 8, .move, [.t 0], none⟩,
  ⟨(some 9), 9, (.call false 60), [.t 8], none⟩,
  ⟨(some 4), 13, .move, [.t 9], none⟩])
 (.ret)) (.skip)))
 (.seq (.region [⟨(some 10), 14, .move, [.t 0], none⟩,
  ⟨(some 11), 15, (.fieldAddr 0), [.t 3], none⟩,
  ⟨(some 12), 16, (.load false 1), [.t 11], none⟩,
  ⟨(some 13), 17, (.call false 16), [.t 10, .t 12], none⟩,
  ⟨(some 14), 21, (.fieldAddr 1), [.t 3], none⟩,
  ⟨(some 15), 22, (.load true 3), [.t 14], none⟩,
  ⟨(some 16), 23, (.call false 62), [.t 13, .t 15], none⟩,
  ⟨(some 17), 27, (.fieldAddr 4), [.t 3], none⟩,
  ⟨(some 18), 28, (.load false 1), [.t 17], none⟩,
  ⟨(some 19), 29, (.call false 61), [.t 16, .t 18], none⟩,
  ⟨(some 4), 33, .move, [.t 19], none⟩])
 (.ret))))
  [.tmp 4] 0 18
def f39.env : Env := [(35, f35.C), (60, f60.C), (16, f16.C), (62, f62.C), (61, f61.C)]
def f39.tree (a : ByteArray × T_api_Node) : Prop := ∃ c1 : T_api_Node, (a.2.1 = c1.1) ∧ (a.2.2.1.1 = c1.2.1.1) ∧ (a.2.2.1.2.1 = c1.2.1.2.1) ∧ (a.2.2.1.2.2 = c1.2.1.2.2) ∧ (a.2.2.2.length = c1.2.2.length) ∧ (∀ i, i < c1.2.2.length → DEqs ((gl e_api_Label a.2.2.2) i) ((gl e_api_Label c1.2.2) i)) ∧ (node_pre c1) ∧ Br (!(nodeB c1)) (∃ c4 : ByteArray, (a.1.size = c4.size) ∧ (∀ i, i < c4.size → DEqs ((gstr a.1) i) ((gstr c4) i)) ∧ (same_pre c4) ∧ (((sameB c4).size) = ((sameB c4).size)) ∧ (((sameB c4).size) = ((putNode a).size)) ∧ (∀ i, i < ((putNode a).size) → DEqs ((gstr (sameB c4)) i) ((gstr (putNode a)) i)) ∧ True) (∃ c7 : ByteArray × ByteArray, (a.1.size = c7.1.size) ∧ (∀ i, i < c7.1.size → DEqs ((gstr a.1) i) ((gstr c7.1) i)) ∧ (a.2.1 = c7.2) ∧ (putText_pre c7) ∧ ∃ c8 : ByteArray × T_ar3_i64, (((putText c7).size) = c8.1.size) ∧ (∀ i, i < c8.1.size → DEqs ((gstr (putText c7)) i) ((gstr c8.1) i)) ∧ (a.2.2.1.1 = c8.2.1) ∧ (a.2.2.1.2.1 = c8.2.2.1) ∧ (a.2.2.1.2.2 = c8.2.2.2) ∧ (putAmt_pre c8) ∧ ∃ c9 : ByteArray × (List (T_api_Label)), (((putAmt c8).size) = c9.1.size) ∧ (∀ i, i < c9.1.size → DEqs ((gstr (putAmt c8)) i) ((gstr c9.1) i)) ∧ (a.2.2.2.length = c9.2.length) ∧ (∀ i, i < c9.2.length → DEqs ((gl e_api_Label a.2.2.2) i) ((gl e_api_Label c9.2) i)) ∧ (putLbls_pre c9) ∧ (((putLbls c9).size) = ((putNode a).size)) ∧ (∀ i, i < ((putNode a).size) → DEqs ((gstr (putLbls c9)) i) ((gstr (putNode a)) i)) ∧ True)
def f39.vc (a : ByteArray × T_api_Node) : Prop := (node_pre a.2 ∧ ((¬ ((nodeB (a.2)) = true) → (same_pre a.1 ∧ ((sameB (a.1)) = putNode a))) ∧ (¬ (¬ ((nodeB (a.2)) = true)) → (putText_pre (a.1, a.2.1) ∧ (putAmt_pre ((putText (a.1, a.2.1)), a.2.2.1) ∧ (putLbls_pre ((putAmt ((putText (a.1, a.2.1)), a.2.2.1)), a.2.2.2) ∧ ((putLbls ((putAmt ((putText (a.1, a.2.1)), a.2.2.1)), a.2.2.2)) = putNode a)))))))
set_option maxRecDepth 100000 in
set_option maxHeartbeats 2000000 in
theorem f39.of (a : ByteArray × T_api_Node) (h : f39.vc a) : f39.tree a := ⟨a.2, ⟨rfl, ⟨rfl, ⟨rfl, ⟨rfl, slK (Rds.self (enc := e_api_Label)) (⟨h.1, br h.2 (Cnd.not Cnd.b) (fun h2 k14 => ⟨a.1, slK RdB.self (⟨k14.1, ⟨rfl, slK (RdB.to RdB.self k14.2) (trivial)⟩⟩)⟩) (fun h3 k15 => ⟨(a.1, a.2.1), slK RdB.self (⟨rfl, ⟨k15.1, ⟨((putText (a.1, a.2.1)), a.2.2.1), slK RdB.self (⟨rfl, ⟨rfl, ⟨rfl, ⟨k15.2.1, ⟨((putAmt ((putText (a.1, a.2.1)), a.2.2.1)), a.2.2.2), slK RdB.self (slK (Rds.self (enc := e_api_Label)) (⟨k15.2.2.1, slK (RdB.to RdB.self k15.2.2.2) (trivial)⟩))⟩⟩⟩⟩⟩)⟩⟩⟩)⟩)⟩)⟩⟩⟩⟩⟩
theorem f39.eq (a : ByteArray × T_api_Node) : (f39.af a).gives f39.env (f39.args a) (f39.blks a) (f39.res a) (f39.blks' a) = f39.tree a := by kernel_rfl
end Go.Abs

-- interregnum/interregnumref01.Number
namespace Go.Abs
open Go
def f15.args (a : Int) : List D := [.int .u64 a]
def f15.blks (a : Int) : List (List D) := []
def f15.res (a : Int) : List D := [.str (numS a)]
def f15.blks' (a : Int) : List (List D) := []
def f15.C : Contract := FnC f15.args f15.blks (fun a => num_pre a) f15.res f15.blks'
end Go.Abs

/- interregnum/interregnumref01.Number -/
namespace Go.Abs
open Go
set_option linter.unusedVariables false
def f15.kills (a : Int) : List Hint := [.tell (Int × ByteArray) (fun x => ⟨[.int .u64 x.1, .dead, .dead, .str x.2, .dead, .dead, .dead, .dead, .dead, .dead, .dead, .dead, .dead, .dead, .dead, .dead, .dead, .dead, .dead, .dead, .dead, .dead], [], []⟩)]
def f15.cuts (a : Int) : List (Nat × Σ β : Type, β → Tm) := []
def f15.af (a : Int) : AF := AF.mk (.seq (.region [⟨(some 2), 0, .move, [.c (.str ByteArray.empty)], none⟩])
 (.seq (.region [⟨(some 3), 1, .move, [.c (.str ByteArray.empty)], none⟩])
 (.seq (.block 0 (.loopT (Int × ByteArray) (fun x => ⟨[.int .u64 x.1, .dead, .dead, .str x.2, .dead, .dead, .dead, .dead, .dead, .dead, .dead, .dead, .dead, .dead, .dead, .dead, .dead, .dead, .dead, .dead, .dead, .dead], [], []⟩) 2 15 (.seq (.seq (.region [⟨(some 4), 2, .move, [.t 0], none⟩,
  ⟨(some 5), 3, (.bin .gtr), [.t 4, .c (.int .u64 (0))], none⟩])
 (.cond (.t 5) (.skip) (.exit 0)))
 (.block 1 (.seq (.region [⟨(some 6), 4, .move, [.t 0], none⟩,
  ⟨(some 7), 5, (.bin .rem), [.t 6, .c (.int .u64 (256))], none⟩,
  ⟨(some 8), 6, (.conv (.int .u8)), [.t 7], none⟩,
  ⟨(some 9), 7, (.buildSlice 1 1 [.int .u8 (0)] [(0, 1)]), [.t 8], none⟩,
  ⟨(some 10), 8, (.conv .b2s), [.t 9], none⟩,
  ⟨(some 11), 9, .move, [.t 3], none⟩,
  ⟨(some 12), 10, (.bin .add), [.t 10, .t 11], none⟩,
  ⟨(some 3), 11, .move, [.t 12], none⟩])
 (.region [⟨(some 13), 12, .move, [.t 0], none⟩,
  ⟨(some 14), 13, (.bin .quo), [.t 13, .c (.int .u64 (256))], none⟩,
  ⟨(some 0), 14, .move, [.t 14], none⟩]))))))
 (.seq (.region [⟨(some 15), 15, .move, [.t 3], none⟩,
  ⟨(some 16), 16, (.len true), [.t 15], none⟩,
  ⟨(some 17), 17, (.conv (.int .u8)), [.t 16], none⟩,
  ⟨(some 18), 18, (.buildSlice 1 1 [.int .u8 (0)] [(0, 1)]), [.t 17], none⟩,
  ⟨(some 19), 19, (.conv .b2s), [.t 18], none⟩,
  ⟨(some 20), 20, .move, [.t 3], none⟩,
  ⟨(some 21), 21, (.bin .add), [.t 19, .t 20], none⟩,
  ⟨(some 2), 22, .move, [.t 21], none⟩])
 (.ret)))))
  [.tmp 2] 0 21
def f15.env : Env := []
def f15.tree (a : Int) : Prop := ∃ (I2 : (Int × ByteArray) → Prop) (μ3 : (Int × ByteArray) → Nat), (∃ x1 : Int × ByteArray, (a = x1.1) ∧ (ByteArray.empty = x1.2) ∧ I2 x1) ∧ ∀ y4 : Int × ByteArray, I2 y4 → (Br (decide ((0 : Int) < y4.1)) (Let (Int.tmod y4.1 (256 : Int)) (fun v7 : Int => Bytes 1 (fun _ => [.int .u8 (IntKind.u8.wrap v7)]) ∧ Let (textOf 1 (fun _ => [.int .u8 (IntKind.u8.wrap v7)])) (fun v8 : ByteArray => Br (Nat.ble (v8.size + y4.2.size) 9223372036854775807) (Let (IntKind.u64.wrap (Int.tdiv y4.1 (256 : Int))) (fun v10 : Int => ∃ x11 : Int × ByteArray, (v10 = x11.1) ∧ ((v8 ++ y4.2) = x11.2) ∧ I2 x11 ∧ μ3 x11 < μ3 y4)) False))) (Bytes 1 (fun _ => [.int .u8 (IntKind.u8.wrap (y4.2.size : Int))]) ∧ Let (textOf 1 (fun _ => [.int .u8 (IntKind.u8.wrap (y4.2.size : Int))])) (fun v14 : ByteArray => Br (Nat.ble (v14.size + y4.2.size) 9223372036854775807) (((v14 ++ y4.2) = (numS a)) ∧ True) False)))
def f15.vc (a : Int) : Prop := (∃ (I2 : (Int × ByteArray) → Prop) (μ3 : (Int × ByteArray) → Nat), I2 (a, ByteArray.empty) ∧ ∀ y4 : Int × ByteArray, I2 y4 → (((0 : Int) < y4.1 → (0 ≤ y4.1 ∧ (((by1 (IntKind.u8.wrap (y4.1 % (256 : Int)))).size + y4.2.size ≤ 9223372036854775807) ∧ (0 ≤ y4.1 ∧ y4.1 ≤ 18446744073709551615 ∧ (I2 ((y4.1 / (256 : Int)), (by1 (IntKind.u8.wrap (y4.1 % (256 : Int)))) ++ y4.2) ∧ μ3 ((y4.1 / (256 : Int)), (by1 (IntKind.u8.wrap (y4.1 % (256 : Int)))) ++ y4.2) < μ3 y4))))) ∧ (¬ ((0 : Int) < y4.1) → (((by1 (IntKind.u8.wrap (y4.2.size : Int))).size + y4.2.size ≤ 9223372036854775807) ∧ ((by1 (IntKind.u8.wrap (y4.2.size : Int))) ++ y4.2 = numS a)))))
set_option maxRecDepth 100000 in
set_option maxHeartbeats 2000000 in
theorem f15.of (a : Int) (h : f15.vc a) : f15.tree a := Exists.elim h (fun I2 h20_ => Exists.elim h20_ (fun μ3 h20 => ⟨I2, μ3, ⟨(a, ByteArray.empty), ⟨rfl, ⟨rfl, h20.1⟩⟩⟩, fun y4 h22 => br (h20.2 y4 h22) Cnd.dec (fun h5 k18 => modK k18.1 (b2s k18.2 (RdB.one (by first | exact u8w _ | exact u8b _ _ | exact u8bN _ _ | decide | omega)) (fun h => chk h.2 Cnd.ble h.1 (fun h9 k13 => divK.u64 k13.1 k13.2.1 (by decide) (⟨((y4.1 / (256 : Int)), (by1 (IntKind.u8.wrap (y4.1 % (256 : Int)))) ++ y4.2), ⟨rfl, ⟨rfl, k13.2.2⟩⟩⟩))))) (fun h6 k19 => b2s k19 (RdB.one (by first | exact u8w _ | exact u8b _ _ | exact u8bN _ _ | decide | omega)) (fun h => chk h.2 Cnd.ble h.1 (fun h15 k17 => ⟨k17, trivial⟩)))⟩))
theorem f15.eq (a : Int) : (f15.af a).gives f15.env (f15.args a) (f15.blks a) (f15.res a) (f15.blks' a) = f15.tree a := by kernel_rfl
end Go.Abs

-- interregnum/interregnumref01.Text
namespace Go.Abs
open Go
def f17.args (a : ByteArray) : List D := [.str a]
def f17.blks (a : ByteArray) : List (List D) := []
def f17.res (a : ByteArray) : List D := [.str (textS a)]
def f17.blks' (a : ByteArray) : List (List D) := []
def f17.C : Contract := FnC f17.args f17.blks (fun a => text_pre a) f17.res f17.blks'
end Go.Abs

/- interregnum/interregnumref01.Text -/
namespace Go.Abs
open Go
set_option linter.unusedVariables false
def f17.kills (a : ByteArray) : List Hint := []
def f17.cuts (a : ByteArray) : List (Nat × Σ β : Type, β → Tm) := []
def f17.af (a : ByteArray) : AF := AF.mk (.seq (.region [⟨(some 2), 0, .move, [.c (.str ByteArray.empty)], none⟩])
 (.seq (.region [⟨(some 3), 1, .move, [.t 0], none⟩,
  ⟨(some 4), 2, (.len true), [.t 3], none⟩,
  ⟨(some 5), 3, (.conv (.int .u64)), [.t 4], none⟩,
  ⟨(some 6), 4, (.call false 15), [.t 5], none⟩,
  ⟨(some 7), 8, .move, [.t 0], none⟩,
  ⟨(some 8), 9, (.bin .add), [.t 6, .t 7], none⟩,
  ⟨(some 2), 10, .move, [.t 8], none⟩])
 (.ret)))
  [.tmp 2] 0 8
def f17.env : Env := [(15, f15.C)]
def f17.tree (a : ByteArray) : Prop := Let (IntKind.u64.wrap (a.size : Int)) (fun v1 : Int => ∃ c2 : Int, (v1 = c2) ∧ (num_pre c2) ∧ Br (Nat.ble ((numS c2).size + a.size) 9223372036854775807) ((((numS c2) ++ a) = (textS a)) ∧ True) False)
def f17.vc (a : ByteArray) : Prop := (0 ≤ (a.size : Int) ∧ (a.size : Int) ≤ 18446744073709551615 ∧ (num_pre (a.size : Int) ∧ (((numS (a.size : Int)).size + a.size ≤ 9223372036854775807) ∧ ((numS (a.size : Int)) ++ a = textS a))))
set_option maxRecDepth 100000 in
set_option maxHeartbeats 2000000 in
theorem f17.of (a : ByteArray) (h : f17.vc a) : f17.tree a := wrapK.u64 h (fun h7 h8 k9 => ⟨(a.size : Int), ⟨rfl, ⟨k9.1, chk k9.2.2 Cnd.ble k9.2.1 (fun h3 k5 => ⟨k5, trivial⟩)⟩⟩⟩)
theorem f17.eq (a : ByteArray) : (f17.af a).gives f17.env (f17.args a) (f17.blks a) (f17.res a) (f17.blks' a) = f17.tree a := by kernel_rfl
end Go.Abs

-- interregnum/interregnumref05.number
namespace Go.Abs
open Go
def f65.args (a : Int) : List D := [.int .i64 a]
def f65.blks (a : Int) : List (List D) := []
def f65.res (a : Int) : List D := [.str (numS a)]
def f65.blks' (a : Int) : List (List D) := []
def f65.C : Contract := FnC f65.args f65.blks (fun a => number_pre a) f65.res f65.blks'
end Go.Abs

/- interregnum/interregnumref05.number -/
namespace Go.Abs
open Go
set_option linter.unusedVariables false
def f65.kills (a : Int) : List Hint := []
def f65.cuts (a : Int) : List (Nat × Σ β : Type, β → Tm) := []
def f65.af (a : Int) : AF := AF.mk (.seq (.region [⟨(some 2), 0, .move, [.c (.str ByteArray.empty)], none⟩])
 (.seq (.region [⟨(some 3), 1, .move, [.t 0], none⟩,
  ⟨(some 4), 2, (.conv (.int .u64)), [.t 3], none⟩,
  ⟨(some 5), 3, (.call false 15), [.t 4], none⟩,
  ⟨(some 2), 7, .move, [.t 5], none⟩])
 (.ret)))
  [.tmp 2] 0 5
def f65.env : Env := [(15, f15.C)]
def f65.tree (a : Int) : Prop := Let (IntKind.u64.wrap a) (fun v1 : Int => ∃ c2 : Int, (v1 = c2) ∧ (num_pre c2) ∧ ((numS c2) = (numS a)) ∧ True)
def f65.vc (a : Int) : Prop := (0 ≤ a ∧ a ≤ 18446744073709551615 ∧ (num_pre a ∧ ((numS a) = numS a)))
set_option maxRecDepth 100000 in
set_option maxHeartbeats 2000000 in
theorem f65.of (a : Int) (h : f65.vc a) : f65.tree a := wrapK.u64 h (fun h5 h6 k7 => ⟨a, ⟨rfl, ⟨k7.1, ⟨k7.2, trivial⟩⟩⟩⟩)
theorem f65.eq (a : Int) : (f65.af a).gives f65.env (f65.args a) (f65.blks a) (f65.res a) (f65.blks' a) = f65.tree a := by kernel_rfl
end Go.Abs

-- interregnum/interregnumref05.amount
namespace Go.Abs
open Go
def f63.args (a : T_ar3_i64) : List D := [.agg [.int .i64 a.1, .int .i64 a.2.1, .int .i64 a.2.2]]
def f63.blks (a : T_ar3_i64) : List (List D) := []
def f63.res (a : T_ar3_i64) : List D := [.str (amtS a)]
def f63.blks' (a : T_ar3_i64) : List (List D) := []
def f63.C : Contract := FnC f63.args f63.blks (fun a => amt_pre a) f63.res f63.blks'
end Go.Abs

/- interregnum/interregnumref05.amount -/
namespace Go.Abs
open Go
set_option linter.unusedVariables false
def f63.kills (a : T_ar3_i64) : List Hint := []
def f63.cuts (a : T_ar3_i64) : List (Nat × Σ β : Type, β → Tm) := []
def f63.af (a : T_ar3_i64) : AF := AF.mk (.seq (.region [⟨(some 1), 0, .box, [.t 0], none⟩,
  ⟨(some 2), 1, .move, [.c (.str ByteArray.empty)], none⟩])
 (.seq (.region [⟨(some 3), 2, (.indexAddr 1 (some 3)), [.t 1, .c (.int .i64 (0))], none⟩,
  ⟨(some 4), 3, (.load false 1), [.t 3], none⟩,
  ⟨(some 5), 4, (.call false 65), [.t 4], none⟩,
  ⟨(some 6), 8, (.indexAddr 1 (some 3)), [.t 1, .c (.int .i64 (1))], none⟩,
  ⟨(some 7), 9, (.load false 1), [.t 6], none⟩,
  ⟨(some 8), 10, (.call false 65), [.t 7], none⟩,
  ⟨(some 9), 14, (.bin .add), [.t 5, .t 8], none⟩,
  ⟨(some 10), 15, (.indexAddr 1 (some 3)), [.t 1, .c (.int .i64 (2))], none⟩,
  ⟨(some 11), 16, (.load false 1), [.t 10], none⟩,
  ⟨(some 12), 17, (.call false 65), [.t 11], none⟩,
  ⟨(some 13), 21, (.bin .add), [.t 9, .t 12], none⟩,
  ⟨(some 2), 22, .move, [.t 13], none⟩])
 (.ret)))
  [.tmp 2] 0 13
def f63.env : Env := [(65, f65.C)]
def f63.tree (a : T_ar3_i64) : Prop := ∃ c1 : Int, (a.1 = c1) ∧ (number_pre c1) ∧ ∃ c2 : Int, (a.2.1 = c2) ∧ (number_pre c2) ∧ Br (Nat.ble ((numS c1).size + (numS c2).size) 9223372036854775807) (∃ c4 : Int, (a.2.2 = c4) ∧ (number_pre c4) ∧ Br (Nat.ble (((numS c1) ++ (numS c2)).size + (numS c4).size) 9223372036854775807) (((((numS c1) ++ (numS c2)) ++ (numS c4)) = (amtS a)) ∧ True) False) False
def f63.vc (a : T_ar3_i64) : Prop := (number_pre a.1 ∧ (number_pre a.2.1 ∧ (((numS (a.1)).size + (numS (a.2.1)).size ≤ 9223372036854775807) ∧ (number_pre a.2.2 ∧ ((((numS (a.1)) ++ (numS (a.2.1))).size + (numS (a.2.2)).size ≤ 9223372036854775807) ∧ (((numS (a.1)) ++ (numS (a.2.1))) ++ (numS (a.2.2)) = amtS a))))))
set_option maxRecDepth 100000 in
set_option maxHeartbeats 2000000 in
theorem f63.of (a : T_ar3_i64) (h : f63.vc a) : f63.tree a := ⟨a.1, ⟨rfl, ⟨h.1, ⟨a.2.1, ⟨rfl, ⟨h.2.1, chk h.2.2.2 Cnd.ble h.2.2.1 (fun h3 k9 => ⟨a.2.2, ⟨rfl, ⟨k9.1, chk k9.2.2 Cnd.ble k9.2.1 (fun h5 k7 => ⟨k7, trivial⟩)⟩⟩⟩)⟩⟩⟩⟩⟩⟩
theorem f63.eq (a : T_ar3_i64) : (f63.af a).gives f63.env (f63.args a) (f63.blks a) (f63.res a) (f63.blks' a) = f63.tree a := by kernel_rfl
end Go.Abs

-- interregnum/interregnumref05.labels
namespace Go.Abs
open Go
def f64.args (a : List (T_api_Label)) : List D := [.slice .ro 2 a.length (gl e_api_Label a)]
def f64.blks (a : List (T_api_Label)) : List (List D) := []
def f64.res (a : List (T_api_Label)) : List D := [.str (lblsS a)]
def f64.blks' (a : List (T_api_Label)) : List (List D) := []
def f64.C : Contract := FnC f64.args f64.blks (fun a => lblsS_pre a) f64.res f64.blks'
end Go.Abs

/- interregnum/interregnumref05.labels -/
namespace Go.Abs
open Go
set_option linter.unusedVariables false
def f64.kills (a : List (T_api_Label)) : List Hint := [.tell (ByteArray × Int) (fun x => ⟨[.slice .ro 2 a.length (gl e_api_Label a), .dead, .dead, .str x.1, .dead, .dead, .dead, .dead, .dead, .int .i64 (a.length : Int), .int .i64 x.2, .dead, .dead, .dead, .dead, .dead, .dead, .dead, .dead, .dead, .dead, .dead, .dead, .dead, .dead, .dead, .dead, .dead, .dead, .dead], [], []⟩)]
def f64.cuts (a : List (T_api_Label)) : List (Nat × Σ β : Type, β → Tm) := []
def f64.af (a : List (T_api_Label)) : AF := AF.mk (.seq (.region [⟨(some 2), 0, .move, [.c (.str ByteArray.empty)], none⟩])
 (.seq (.region [⟨(some 5), 1, .move, [.t 0], none⟩,
  ⟨(some 6), 2, (.len false), [.t 5], none⟩,
  ⟨(some 7), 3, (.call false 65), [.t 6], none⟩,
  ⟨(some 3), 7, .move, [.t 7], none⟩])
 (.seq (.seq (.region [⟨(some 8), 8, .move, [.t 0], none⟩,
  ⟨(some 9), 9, (.len false), [.t 8], none⟩,
  ⟨(some 10), 10, .move, [.c (.int .i64 (0))], none⟩])
 (.block 0 (.loopT (ByteArray × Int) (fun x => ⟨[.slice .ro 2 a.length (gl e_api_Label a), .dead, .dead, .str x.1, .dead, .dead, .dead, .dead, .dead, .int .i64 (a.length : Int), .int .i64 x.2, .dead, .dead, .dead, .dead, .dead, .dead, .dead, .dead, .dead, .dead, .dead, .dead, .dead, .dead, .dead, .dead, .dead, .dead, .dead], [], []⟩) 11 38 (.seq (.region [⟨(some 11), 11, (.bin .lss), [.t 10, .t 9], none⟩])
 (.seq (.cond (.t 11) (.skip) (.exit 0))
 (.seq (.block 1 (.seq (.region [⟨(some 12), 12, .move, [.t 10], none⟩,
  ⟨(some 4), 13, .move, [.t 12], none⟩])
 (.region [⟨(some 13), 14, .move, [.t 3], none⟩,
  ⟨(some 14), 15, .move, [.t 0], none⟩,
  ⟨(some 15), 16, .move, [.t 4], none⟩,
  ⟨(some 16), 17, (.indexAddr 2 none), [.t 14, .t 15], none⟩,
  ⟨(some 17), 18, (.fieldAddr 0), [.t 16], none⟩,
  ⟨(some 18), 19, (.load false 1), [.t 17], none⟩,
  ⟨(some 19), 20, (.call false 17), [.t 18], none⟩,
  ⟨(some 20), 24, (.bin .add), [.t 13, .t 19], none⟩,
  ⟨(some 21), 25, .move, [.t 0], none⟩,
  ⟨(some 22), 26, .move, [.t 4], none⟩,
  ⟨(some 23), 27, (.indexAddr 2 none), [.t 21, .t 22], none⟩,
  ⟨(some 24), 28, (.fieldAddr 1), [.t 23], none⟩,
  ⟨(some 25), 29, (.load false 1), [.t 24], none⟩,
  ⟨(some 26), 30, (.call false 17), [.t 25], none⟩,
  ⟨(some 27), 34, (.bin .add), [.t 20, .t 26], none⟩,
  ⟨(some 3), 35, .move, [.t 27], none⟩])))
 (.region [⟨(some 28), 36, (.bin .add), [.t 10, .c (.int .i64 (1))], none⟩,
  ⟨(some 10), 37, .move, [.t 28], none⟩])))))))
 (.seq (.region [⟨(some 29), 38, .move, [.t 3], none⟩,
  ⟨(some 2), 39, .move, [.t 29], none⟩])
 (.ret)))))
  [.tmp 2] 0 29
def f64.env : Env := [(65, f65.C), (17, f17.C)]
def f64.tree (a : List (T_api_Label)) : Prop := ∃ c1 : Int, ((a.length : Int) = c1) ∧ (number_pre c1) ∧ ∃ (I3 : (ByteArray × Int) → Prop) (μ4 : (ByteArray × Int) → Nat), (∃ x2 : ByteArray × Int, (a.length = a.length) ∧ (∀ i, i < a.length → DEqs ((gl e_api_Label a) i) ((gl e_api_Label a) i)) ∧ ((numS c1) = x2.1) ∧ ((a.length : Int) = (a.length : Int)) ∧ ((0 : Int) = x2.2) ∧ I3 x2) ∧ ∀ y5 : ByteArray × Int, I3 y5 → (Br (decide (y5.2 < (a.length : Int))) (Br (decide ((0 : Int) ≤ y5.2) && decide (y5.2 < (a.length : Int))) (∃ c9 : ByteArray, (((at_ a y5.2).1) = c9) ∧ (text_pre c9) ∧ Br (Nat.ble (y5.1.size + (textS c9).size) 9223372036854775807) (Br (decide ((0 : Int) ≤ y5.2) && decide (y5.2 < (a.length : Int))) (∃ c12 : ByteArray, (((at_ a y5.2).2) = c12) ∧ (text_pre c12) ∧ Br (Nat.ble ((y5.1 ++ (textS c9)).size + (textS c12).size) 9223372036854775807) (Let (IntKind.i64.wrap (y5.2 + (1 : Int))) (fun v14 : Int => ∃ x15 : ByteArray × Int, (a.length = a.length) ∧ (∀ i, i < a.length → DEqs ((gl e_api_Label a) i) ((gl e_api_Label a) i)) ∧ (((y5.1 ++ (textS c9)) ++ (textS c12)) = x15.1) ∧ ((a.length : Int) = (a.length : Int)) ∧ (v14 = x15.2) ∧ I3 x15 ∧ μ4 x15 < μ4 y5)) False) False) False) False) ((y5.1 = (lblsS a)) ∧ True))
def f64.vc (a : List (T_api_Label)) : Prop := (number_pre (a.length : Int) ∧ (∃ (I3 : (ByteArray × Int) → Prop) (μ4 : (ByteArray × Int) → Nat), I3 ((numS (a.length : Int)), (0 : Int)) ∧ ∀ y5 : ByteArray × Int, I3 y5 → ((y5.2 < (a.length : Int) → ((0 : Int) ≤ y5.2 ∧ y5.2 < (a.length : Int) ∧ (text_pre ((at_ a y5.2).1) ∧ ((y5.1.size + (textS ((at_ a y5.2).1)).size ≤ 9223372036854775807) ∧ ((0 : Int) ≤ y5.2 ∧ y5.2 < (a.length : Int) ∧ (text_pre ((at_ a y5.2).2) ∧ (((y5.1 ++ (textS ((at_ a y5.2).1))).size + (textS ((at_ a y5.2).2)).size ≤ 9223372036854775807) ∧ (-9223372036854775808 ≤ (y5.2 + (1 : Int)) ∧ (y5.2 + (1 : Int)) ≤ 9223372036854775807 ∧ (I3 ((y5.1 ++ (textS ((at_ a y5.2).1))) ++ (textS ((at_ a y5.2).2)), (y5.2 + (1 : Int))) ∧ μ4 ((y5.1 ++ (textS ((at_ a y5.2).1))) ++ (textS ((at_ a y5.2).2)), (y5.2 + (1 : Int))) < μ4 y5))))))))) ∧ (¬ (y5.2 < (a.length : Int)) → (y5.1 = lblsS a)))))
set_option maxRecDepth 100000 in
set_option maxHeartbeats 2000000 in
theorem f64.of (a : List (T_api_Label)) (h : f64.vc a) : f64.tree a := ⟨(a.length : Int), ⟨rfl, ⟨h.1, Exists.elim h.2 (fun I3 h29_ => Exists.elim h29_ (fun μ4 h29 => ⟨I3, μ4, ⟨((numS (a.length : Int)), (0 : Int)), slK (Rds.self (enc := e_api_Label)) (⟨rfl, ⟨rfl, ⟨rfl, h29.1⟩⟩⟩)⟩, fun y5 h31 => br (h29.2 y5 h31) Cnd.dec (fun h6 k27 => chk k27.2.2 Cnd.ix ⟨k27.1, k27.2.1⟩ (fun h8 k25 => ⟨(at_ a y5.2).1, ⟨rfl, ⟨k25.1, chk k25.2.2 Cnd.ble k25.2.1 (fun h10 k23 => chk k23.2.2 Cnd.ix ⟨k23.1, k23.2.1⟩ (fun h11 k22 => ⟨(at_ a y5.2).2, ⟨rfl, ⟨k22.1, chk k22.2.2 Cnd.ble k22.2.1 (fun h13 k20 => wrapK.i64 k20 (fun h17 h18 k19 => ⟨((y5.1 ++ (textS ((at_ a y5.2).1))) ++ (textS ((at_ a y5.2).2)), (y5.2 + (1 : Int))), slK (Rds.self (enc := e_api_Label)) (⟨rfl, ⟨rfl, ⟨rfl, k19⟩⟩⟩)⟩))⟩⟩⟩))⟩⟩⟩)) (fun h7 k28 => ⟨k28, trivial⟩)⟩))⟩⟩⟩
theorem f64.eq (a : List (T_api_Label)) : (f64.af a).gives f64.env (f64.args a) (f64.blks a) (f64.res a) (f64.blks' a) = f64.tree a := by kernel_rfl
end Go.Abs

-- interregnum/interregnumref05.NodeBytes
namespace Go.Abs
open Go
def f40.args (a : T_api_Node) : List D := [.agg [.str a.1, .int .i64 a.2.1.1, .int .i64 a.2.1.2.1, .int .i64 a.2.1.2.2, .slice .ro 2 a.2.2.length (gl e_api_Label a.2.2)]]
def f40.blks (a : T_api_Node) : List (List D) := []
def f40.res (a : T_api_Node) : List D := [.str (nodeS a)]
def f40.blks' (a : T_api_Node) : List (List D) := []
def f40.C : Contract := FnC f40.args f40.blks (fun a => node_pre a) f40.res f40.blks'
end Go.Abs

/- interregnum/interregnumref05.NodeBytes -/
namespace Go.Abs
open Go
set_option linter.unusedVariables false
def f40.kills (a : T_api_Node) : List Hint := []
def f40.cuts (a : T_api_Node) : List (Nat × Σ β : Type, β → Tm) := []
def f40.af (a : T_api_Node) : AF := AF.mk (.seq (.region [⟨(some 1), 0, .box, [.t 0], none⟩,
  ⟨(some 2), 1, .move, [.c (.str ByteArray.empty)], none⟩])
 (.seq (.seq (.region [⟨(some 3), 2, (.load true 5), [.t 1], none⟩,
  ⟨(some 4), 3, (.call false 36), [.t 3], none⟩,
  ⟨(some 5), 7, (.un .not), [.t 4], none⟩])
 (.cond (.t 5) (.seq (.region [⟨(some 2), 8, .move, [.c (.str ByteArray.empty)], none⟩])
 (.ret)) (.skip)))
 (.seq (.region [⟨(some 6), 9, (.fieldAddr 0), [.t 1], none⟩,
  ⟨(some 7), 10, (.load false 1), [.t 6], none⟩,
  ⟨(some 8), 11, (.call false 17), [.t 7], none⟩,
  ⟨(some 9), 15, (.fieldAddr 1), [.t 1], none⟩,
  ⟨(some 10), 16, (.load true 3), [.t 9], none⟩,
  ⟨(some 11), 17, (.call false 63), [.t 10], none⟩,
  ⟨(some 12), 21, (.bin .add), [.t 8, .t 11], none⟩,
  ⟨(some 13), 22, (.fieldAddr 4), [.t 1], none⟩,
  ⟨(some 14), 23, (.load false 1), [.t 13], none⟩,
  ⟨(some 15), 24, (.call false 64), [.t 14], none⟩,
  ⟨(some 16), 28, (.bin .add), [.t 12, .t 15], none⟩,
  ⟨(some 2), 29, .move, [.t 16], none⟩])
 (.ret))))
  [.tmp 2] 0 16
def f40.env : Env := [(36, f36.C), (17, f17.C), (63, f63.C), (64, f64.C)]
def f40.tree (a : T_api_Node) : Prop := ∃ c1 : T_api_Node, (a.1 = c1.1) ∧ (a.2.1.1 = c1.2.1.1) ∧ (a.2.1.2.1 = c1.2.1.2.1) ∧ (a.2.1.2.2 = c1.2.1.2.2) ∧ (a.2.2.length = c1.2.2.length) ∧ (∀ i, i < c1.2.2.length → DEqs ((gl e_api_Label a.2.2) i) ((gl e_api_Label c1.2.2) i)) ∧ (node_pre c1) ∧ Br (!(nodeB c1)) ((ByteArray.empty = (nodeS a)) ∧ True) (∃ c5 : ByteArray, (a.1 = c5) ∧ (text_pre c5) ∧ ∃ c6 : T_ar3_i64, (a.2.1.1 = c6.1) ∧ (a.2.1.2.1 = c6.2.1) ∧ (a.2.1.2.2 = c6.2.2) ∧ (amt_pre c6) ∧ Br (Nat.ble ((textS c5).size + (amtS c6).size) 9223372036854775807) (∃ c8 : List (T_api_Label), (a.2.2.length = c8.length) ∧ (∀ i, i < c8.length → DEqs ((gl e_api_Label a.2.2) i) ((gl e_api_Label c8) i)) ∧ (lblsS_pre c8) ∧ Br (Nat.ble (((textS c5) ++ (amtS c6)).size + (lblsS c8).size) 9223372036854775807) (((((textS c5) ++ (amtS c6)) ++ (lblsS c8)) = (nodeS a)) ∧ True) False) False)
def f40.vc (a : T_api_Node) : Prop := (node_pre a ∧ ((¬ ((nodeB a) = true) → (ByteArray.empty = nodeS a)) ∧ (¬ (¬ ((nodeB a) = true)) → (text_pre a.1 ∧ (amt_pre a.2.1 ∧ (((textS (a.1)).size + (amtS (a.2.1)).size ≤ 9223372036854775807) ∧ (lblsS_pre a.2.2 ∧ ((((textS (a.1)) ++ (amtS (a.2.1))).size + (lblsS (a.2.2)).size ≤ 9223372036854775807) ∧ (((textS (a.1)) ++ (amtS (a.2.1))) ++ (lblsS (a.2.2)) = nodeS a)))))))))
set_option maxRecDepth 100000 in
set_option maxHeartbeats 2000000 in
theorem f40.of (a : T_api_Node) (h : f40.vc a) : f40.tree a := ⟨a, ⟨rfl, ⟨rfl, ⟨rfl, ⟨rfl, slK (Rds.self (enc := e_api_Label)) (⟨h.1, br h.2 (Cnd.not Cnd.b) (fun h2 k16 => ⟨k16, trivial⟩) (fun h3 k17 => ⟨a.1, ⟨rfl, ⟨k17.1, ⟨a.2.1, ⟨rfl, ⟨rfl, ⟨rfl, ⟨k17.2.1, chk k17.2.2.2 Cnd.ble k17.2.2.1 (fun h7 k13 => ⟨a.2.2, slK (Rds.self (enc := e_api_Label)) (⟨k13.1, chk k13.2.2 Cnd.ble k13.2.1 (fun h9 k11 => ⟨k11, trivial⟩)⟩)⟩)⟩⟩⟩⟩⟩⟩⟩⟩)⟩)⟩⟩⟩⟩⟩
theorem f40.eq (a : T_api_Node) : (f40.af a).gives f40.env (f40.args a) (f40.blks a) (f40.res a) (f40.blks' a) = f40.tree a := by kernel_rfl
end Go.Abs

-- interregnum/interregnumref05.QueueBytes
namespace Go.Abs
open Go
def f42.args (a : T_api_Queue) : List D := [.agg [.str a.1, .int .i64 a.2.1, .int .i64 a.2.2.1, .int .i64 a.2.2.2]]
def f42.blks (a : T_api_Queue) : List (List D) := []
def f42.res (a : T_api_Queue) : List D := [.str (queueS a)]
def f42.blks' (a : T_api_Queue) : List (List D) := []
def f42.C : Contract := FnC f42.args f42.blks (fun a => queue_pre a) f42.res f42.blks'
end Go.Abs

/- interregnum/interregnumref05.QueueBytes -/
namespace Go.Abs
open Go
set_option linter.unusedVariables false
def f42.kills (a : T_api_Queue) : List Hint := []
def f42.cuts (a : T_api_Queue) : List (Nat × Σ β : Type, β → Tm) := []
def f42.af (a : T_api_Queue) : AF := AF.mk (.seq (.region [⟨(some 1), 0, .box, [.t 0], none⟩,
  ⟨(some 2), 1, .move, [.c (.str ByteArray.empty)], none⟩])
 (.seq (.seq (.region [⟨(some 3), 2, (.load true 4), [.t 1], none⟩,
  ⟨(some 4), 3, (.call false 37), [.t 3], none⟩,
  ⟨(some 5), 7, (.un .not), [.t 4], none⟩])
 (.cond (.t 5) (.seq (.region [⟨(some 2), 8, .move, [.c (.str ByteArray.empty)], none⟩])
 (.ret)) (.skip)))
 (.seq (.region [⟨(some 6), 9, (.fieldAddr 0), [.t 1], none⟩,
  ⟨(some 7), 10, (.load false 1), [.t 6], none⟩,
  ⟨(some 8), 11, (.call false 17), [.t 7], none⟩,
  ⟨(some 9), 15, (.fieldAddr 1), [.t 1], none⟩,
  ⟨(some 10), 16, (.load true 3), [.t 9], none⟩,
  ⟨(some 11), 17, (.call false 63), [.t 10], none⟩,
  ⟨(some 12), 21, (.bin .add), [.t 8, .t 11], none⟩,
  ⟨(some 2), 22, .move, [.t 12], none⟩])
 (.ret))))
  [.tmp 2] 0 12
def f42.env : Env := [(37, f37.C), (17, f17.C), (63, f63.C)]
def f42.tree (a : T_api_Queue) : Prop := ∃ c1 : T_api_Queue, (a.1 = c1.1) ∧ (a.2.1 = c1.2.1) ∧ (a.2.2.1 = c1.2.2.1) ∧ (a.2.2.2 = c1.2.2.2) ∧ (queue_pre c1) ∧ Br (!(queueB c1)) ((ByteArray.empty = (queueS a)) ∧ True) (∃ c5 : ByteArray, (a.1 = c5) ∧ (text_pre c5) ∧ ∃ c6 : T_ar3_i64, (a.2.1 = c6.1) ∧ (a.2.2.1 = c6.2.1) ∧ (a.2.2.2 = c6.2.2) ∧ (amt_pre c6) ∧ Br (Nat.ble ((textS c5).size + (amtS c6).size) 9223372036854775807) ((((textS c5) ++ (amtS c6)) = (queueS a)) ∧ True) False)
def f42.vc (a : T_api_Queue) : Prop := (queue_pre a ∧ ((¬ ((queueB a) = true) → (ByteArray.empty = queueS a)) ∧ (¬ (¬ ((queueB a) = true)) → (text_pre a.1 ∧ (amt_pre a.2 ∧ (((textS (a.1)).size + (amtS (a.2)).size ≤ 9223372036854775807) ∧ ((textS (a.1)) ++ (amtS (a.2)) = queueS a)))))))
set_option maxRecDepth 100000 in
set_option maxHeartbeats 2000000 in
theorem f42.of (a : T_api_Queue) (h : f42.vc a) : f42.tree a := ⟨a, ⟨rfl, ⟨rfl, ⟨rfl, ⟨rfl, ⟨h.1, br h.2 (Cnd.not Cnd.b) (fun h2 k12 => ⟨k12, trivial⟩) (fun h3 k13 => ⟨a.1, ⟨rfl, ⟨k13.1, ⟨a.2, ⟨rfl, ⟨rfl, ⟨rfl, ⟨k13.2.1, chk k13.2.2.2 Cnd.ble k13.2.2.1 (fun h7 k9 => ⟨k9, trivial⟩)⟩⟩⟩⟩⟩⟩⟩⟩)⟩⟩⟩⟩⟩⟩
theorem f42.eq (a : T_api_Queue) : (f42.af a).gives f42.env (f42.args a) (f42.blks a) (f42.res a) (f42.blks' a) = f42.tree a := by kernel_rfl
end Go.Abs

-- interregnum/model.PutTask
namespace Go.Abs
open Go
def f43.args (a : ByteArray × T_api_Task) : List D := [.slice .ro 1 a.1.size (gstr a.1), .agg [.str a.2.1, .str a.2.2.1, .int .i64 a.2.2.2.1, .int .i64 a.2.2.2.2.1.1, .int .i64 a.2.2.2.2.1.2.1, .int .i64 a.2.2.2.2.1.2.2, .slice .ro 2 a.2.2.2.2.2.1.length (gl e_api_Label a.2.2.2.2.2.1), .str a.2.2.2.2.2.2.1, .str a.2.2.2.2.2.2.2.1, .int .i64 a.2.2.2.2.2.2.2.2]]
def f43.blks (a : ByteArray × T_api_Task) : List (List D) := []
def f43.res (a : ByteArray × T_api_Task) : List D := [.slice .ro 1 ((putTask a).size) (gstr (putTask a))]
def f43.blks' (a : ByteArray × T_api_Task) : List (List D) := []
def f43.C : Contract := FnC f43.args f43.blks (fun a => putTask_pre a) f43.res f43.blks'
end Go.Abs

/- interregnum/model.PutTask -/
namespace Go.Abs
open Go
set_option linter.unusedVariables false
def f43.kills (a : ByteArray × T_api_Task) : List Hint := []
def f43.cuts (a : ByteArray × T_api_Task) : List (Nat × Σ β : Type, β → Tm) := []
def f43.af (a : ByteArray × T_api_Task) : AF := AF.mk (.seq (.region [⟨(some 3), 0, .box, [.t 1], none⟩,
  ⟨(some 4), 1, (.nilSl 1), [], none⟩])
 (.seq (.seq (.region [⟨(some 5), 2, (.load true 10), [.t 3], none⟩,
  ⟨(some 6), 3, (.call false 24), [.t 5], none⟩,
  ⟨(some 7), 7, (.un .not), [.t 6], none⟩])
 (.cond (.t 7) (.seq (.region [⟨(some 8), 8, .move, [.t 0], none⟩,
  ⟨(some 9), 9, (.call false 60), [.t 8], none⟩,
  ⟨(some 4), 13, .move, [.t 9], none⟩])
 (.ret)) (.skip)))
 (.seq (.region [⟨(some 10), 14, .move, [.t 0], none⟩,
  ⟨(some 11), 15, (.fieldAddr 0), [.t 3], none⟩,
  ⟨(some 12), 16, (.load false 1), [.t 11], none⟩,
  ⟨(some 13), 17, (.call false 16), [.t 10, .t 12], none⟩,
  ⟨(some 14), 21, (.fieldAddr 1), [.t 3], none⟩,
  ⟨(some 15), 22, (.load false 1), [.t 14], none⟩,
  ⟨(some 16), 23, (.call false 16), [.t 13, .t 15], none⟩,
  ⟨(some 0), 27, .move, [.t 16], none⟩])
 (.seq (.region [⟨(some 17), 28, .move, [.t 0], none⟩,
  ⟨(some 18), 29, (.fieldAddr 2), [.t 3], none⟩,
  ⟨(some 19), 30, (.load false 1), [.t 18], none⟩,
  ⟨(some 20), 31, (.conv (.int .u64)), [.t 19], none⟩,
  ⟨(some 21), 32, (.call false 14), [.t 17, .t 20], none⟩,
  ⟨(some 22), 36, (.fieldAddr 3), [.t 3], none⟩,
  ⟨(some 23), 37, (.load true 3), [.t 22], none⟩,
  ⟨(some 24), 38, (.call false 62), [.t 21, .t 23], none⟩,
  ⟨(some 0), 42, .move, [.t 24], none⟩])
 (.seq (.region [⟨(some 25), 43, .move, [.t 0], none⟩,
  ⟨(some 26), 44, (.fieldAddr 6), [.t 3], none⟩,
  ⟨(some 27), 45, (.load false 1), [.t 26], none⟩,
  ⟨(some 28), 46, (.call false 61), [.t 25, .t 27], none⟩,
  ⟨(some 29), 50, (.fieldAddr 7), [.t 3], none⟩,
  ⟨(some 30), 51, (.load false 1), [.t 29], none⟩,
  ⟨(some 31), 52, (.call false 16), [.t 28, .t 30], none⟩,
  ⟨(some 32), 56, (.fieldAddr 8), [.t 3], none⟩,
  ⟨(some 33), 57, (.load false 1), [.t 32], none⟩,
  ⟨(some 34), 58, (.call false 16), [.t 31, .t 33], none⟩,
  ⟨(some 0), 62, .move, [.t 34], none⟩])
 (.seq (.region [⟨(some 35), 63, .move, [.t 0], none⟩,
  ⟨(some 36), 64, (.fieldAddr 9), [.t 3], none⟩,
  ⟨(some 37), 65, (.load false 1), [.t 36], none⟩,
  ⟨(some 38), 66, (.conv (.int .u64)), [.t 37], none⟩,
  ⟨(some 39), 67, (.call false 14), [.t 35, .t 38], none⟩,
  ⟨(some 4), 71, .move, [.t 39], none⟩])
 (.ret)))))))
  [.tmp 4] 0 38
def f43.env : Env := [(24, f24.C), (60, f60.C), (16, f16.C), (14, f14.C), (62, f62.C), (61, f61.C)]
def f43.tree (a : ByteArray × T_api_Task) : Prop := ∃ c1 : T_api_Task, (a.2.1 = c1.1) ∧ (a.2.2.1 = c1.2.1) ∧ (a.2.2.2.1 = c1.2.2.1) ∧ (a.2.2.2.2.1.1 = c1.2.2.2.1.1) ∧ (a.2.2.2.2.1.2.1 = c1.2.2.2.1.2.1) ∧ (a.2.2.2.2.1.2.2 = c1.2.2.2.1.2.2) ∧ (a.2.2.2.2.2.1.length = c1.2.2.2.2.1.length) ∧ (∀ i, i < c1.2.2.2.2.1.length → DEqs ((gl e_api_Label a.2.2.2.2.2.1) i) ((gl e_api_Label c1.2.2.2.2.1) i)) ∧ (a.2.2.2.2.2.2.1 = c1.2.2.2.2.2.1) ∧ (a.2.2.2.2.2.2.2.1 = c1.2.2.2.2.2.2.1) ∧ (a.2.2.2.2.2.2.2.2 = c1.2.2.2.2.2.2.2) ∧ (task_pre c1) ∧ Br (!(taskB c1)) (∃ c4 : ByteArray, (a.1.size = c4.size) ∧ (∀ i, i < c4.size → DEqs ((gstr a.1) i) ((gstr c4) i)) ∧ (same_pre c4) ∧ (((sameB c4).size) = ((sameB c4).size)) ∧ (((sameB c4).size) = ((putTask a).size)) ∧ (∀ i, i < ((putTask a).size) → DEqs ((gstr (sameB c4)) i) ((gstr (putTask a)) i)) ∧ True) (∃ c7 : ByteArray × ByteArray, (a.1.size = c7.1.size) ∧ (∀ i, i < c7.1.size → DEqs ((gstr a.1) i) ((gstr c7.1) i)) ∧ (a.2.1 = c7.2) ∧ (putText_pre c7) ∧ ∃ c8 : ByteArray × ByteArray, (((putText c7).size) = c8.1.size) ∧ (∀ i, i < c8.1.size → DEqs ((gstr (putText c7)) i) ((gstr c8.1) i)) ∧ (a.2.2.1 = c8.2) ∧ (putText_pre c8) ∧ Let (IntKind.u64.wrap a.2.2.2.1) (fun v9 : Int => ∃ c10 : ByteArray × Int, (((putText c8).size) = c10.1.size) ∧ (∀ i, i < c10.1.size → DEqs ((gstr (putText c8)) i) ((gstr c10.1) i)) ∧ (v9 = c10.2) ∧ (put_pre c10) ∧ ∃ c11 : ByteArray × T_ar3_i64, (((putB c10).size) = c11.1.size) ∧ (∀ i, i < c11.1.size → DEqs ((gstr (putB c10)) i) ((gstr c11.1) i)) ∧ (a.2.2.2.2.1.1 = c11.2.1) ∧ (a.2.2.2.2.1.2.1 = c11.2.2.1) ∧ (a.2.2.2.2.1.2.2 = c11.2.2.2) ∧ (putAmt_pre c11) ∧ ∃ c12 : ByteArray × (List (T_api_Label)), (((putAmt c11).size) = c12.1.size) ∧ (∀ i, i < c12.1.size → DEqs ((gstr (putAmt c11)) i) ((gstr c12.1) i)) ∧ (a.2.2.2.2.2.1.length = c12.2.length) ∧ (∀ i, i < c12.2.length → DEqs ((gl e_api_Label a.2.2.2.2.2.1) i) ((gl e_api_Label c12.2) i)) ∧ (putLbls_pre c12) ∧ ∃ c13 : ByteArray × ByteArray, (((putLbls c12).size) = c13.1.size) ∧ (∀ i, i < c13.1.size → DEqs ((gstr (putLbls c12)) i) ((gstr c13.1) i)) ∧ (a.2.2.2.2.2.2.1 = c13.2) ∧ (putText_pre c13) ∧ ∃ c14 : ByteArray × ByteArray, (((putText c13).size) = c14.1.size) ∧ (∀ i, i < c14.1.size → DEqs ((gstr (putText c13)) i) ((gstr c14.1) i)) ∧ (a.2.2.2.2.2.2.2.1 = c14.2) ∧ (putText_pre c14) ∧ Let (IntKind.u64.wrap a.2.2.2.2.2.2.2.2) (fun v15 : Int => ∃ c16 : ByteArray × Int, (((putText c14).size) = c16.1.size) ∧ (∀ i, i < c16.1.size → DEqs ((gstr (putText c14)) i) ((gstr c16.1) i)) ∧ (v15 = c16.2) ∧ (put_pre c16) ∧ (((putB c16).size) = ((putB c16).size)) ∧ (((putB c16).size) = ((putTask a).size)) ∧ (∀ i, i < ((putTask a).size) → DEqs ((gstr (putB c16)) i) ((gstr (putTask a)) i)) ∧ True)))
def f43.vc (a : ByteArray × T_api_Task) : Prop := (task_pre a.2 ∧ ((¬ ((taskB (a.2)) = true) → (same_pre a.1 ∧ ((sameB (a.1)) = putTask a))) ∧ (¬ (¬ ((taskB (a.2)) = true)) → (putText_pre (a.1, a.2.1) ∧ (putText_pre ((putText (a.1, a.2.1)), a.2.2.1) ∧ (0 ≤ a.2.2.2.1 ∧ a.2.2.2.1 ≤ 18446744073709551615 ∧ (put_pre ((putText ((putText (a.1, a.2.1)), a.2.2.1)), (a.2.2.2.1)) ∧ (putAmt_pre ((putB ((putText ((putText (a.1, a.2.1)), a.2.2.1)), (a.2.2.2.1))), a.2.2.2.2.1) ∧ (putLbls_pre ((putAmt ((putB ((putText ((putText (a.1, a.2.1)), a.2.2.1)), (a.2.2.2.1))), a.2.2.2.2.1)), a.2.2.2.2.2.1) ∧ (putText_pre ((putLbls ((putAmt ((putB ((putText ((putText (a.1, a.2.1)), a.2.2.1)), (a.2.2.2.1))), a.2.2.2.2.1)), a.2.2.2.2.2.1)), a.2.2.2.2.2.2.1) ∧ (putText_pre ((putText ((putLbls ((putAmt ((putB ((putText ((putText (a.1, a.2.1)), a.2.2.1)), (a.2.2.2.1))), a.2.2.2.2.1)), a.2.2.2.2.2.1)), a.2.2.2.2.2.2.1)), a.2.2.2.2.2.2.2.1) ∧ (0 ≤ a.2.2.2.2.2.2.2.2 ∧ a.2.2.2.2.2.2.2.2 ≤ 18446744073709551615 ∧ (put_pre ((putText ((putText ((putLbls ((putAmt ((putB ((putText ((putText (a.1, a.2.1)), a.2.2.1)), (a.2.2.2.1))), a.2.2.2.2.1)), a.2.2.2.2.2.1)), a.2.2.2.2.2.2.1)), a.2.2.2.2.2.2.2.1)), (a.2.2.2.2.2.2.2.2)) ∧ ((putB ((putText ((putText ((putLbls ((putAmt ((putB ((putText ((putText (a.1, a.2.1)), a.2.2.1)), (a.2.2.2.1))), a.2.2.2.2.1)), a.2.2.2.2.2.1)), a.2.2.2.2.2.2.1)), a.2.2.2.2.2.2.2.1)), (a.2.2.2.2.2.2.2.2))) = putTask a))))))))))))))
set_option maxRecDepth 100000 in
set_option maxHeartbeats 2000000 in
theorem f43.of (a : ByteArray × T_api_Task) (h : f43.vc a) : f43.tree a := ⟨a.2, ⟨rfl, ⟨rfl, ⟨rfl, ⟨rfl, ⟨rfl, ⟨rfl, slK (Rds.self (enc := e_api_Label)) (⟨rfl, ⟨rfl, ⟨rfl, ⟨h.1, br h.2 (Cnd.not Cnd.b) (fun h2 k32 => ⟨a.1, slK RdB.self (⟨k32.1, ⟨rfl, slK (RdB.to RdB.self k32.2) (trivial)⟩⟩)⟩) (fun h3 k33 => ⟨(a.1, a.2.1), slK RdB.self (⟨rfl, ⟨k33.1, ⟨((putText (a.1, a.2.1)), a.2.2.1), slK RdB.self (⟨rfl, ⟨k33.2.1, wrapK.u64 k33.2.2 (fun h27 h28 k29 => ⟨((putText ((putText (a.1, a.2.1)), a.2.2.1)), (a.2.2.2.1)), slK RdB.self (⟨rfl, ⟨k29.1, ⟨((putB ((putText ((putText (a.1, a.2.1)), a.2.2.1)), (a.2.2.2.1))), a.2.2.2.2.1), slK RdB.self (⟨rfl, ⟨rfl, ⟨rfl, ⟨k29.2.1, ⟨((putAmt ((putB ((putText ((putText (a.1, a.2.1)), a.2.2.1)), (a.2.2.2.1))), a.2.2.2.2.1)), a.2.2.2.2.2.1), slK RdB.self (slK (Rds.self (enc := e_api_Label)) (⟨k29.2.2.1, ⟨((putLbls ((putAmt ((putB ((putText ((putText (a.1, a.2.1)), a.2.2.1)), (a.2.2.2.1))), a.2.2.2.2.1)), a.2.2.2.2.2.1)), a.2.2.2.2.2.2.1), slK RdB.self (⟨rfl, ⟨k29.2.2.2.1, ⟨((putText ((putLbls ((putAmt ((putB ((putText ((putText (a.1, a.2.1)), a.2.2.1)), (a.2.2.2.1))), a.2.2.2.2.1)), a.2.2.2.2.2.1)), a.2.2.2.2.2.2.1)), a.2.2.2.2.2.2.2.1), slK RdB.self (⟨rfl, ⟨k29.2.2.2.2.1, wrapK.u64 k29.2.2.2.2.2 (fun h19 h20 k21 => ⟨((putText ((putText ((putLbls ((putAmt ((putB ((putText ((putText (a.1, a.2.1)), a.2.2.1)), (a.2.2.2.1))), a.2.2.2.2.1)), a.2.2.2.2.2.1)), a.2.2.2.2.2.2.1)), a.2.2.2.2.2.2.2.1)), (a.2.2.2.2.2.2.2.2)), slK RdB.self (⟨rfl, ⟨k21.1, ⟨rfl, slK (RdB.to RdB.self k21.2) (trivial)⟩⟩⟩)⟩)⟩⟩)⟩⟩⟩)⟩⟩))⟩⟩⟩⟩⟩)⟩⟩⟩)⟩)⟩⟩)⟩⟩⟩)⟩)⟩⟩⟩⟩)⟩⟩⟩⟩⟩⟩⟩
theorem f43.eq (a : ByteArray × T_api_Task) : (f43.af a).gives f43.env (f43.args a) (f43.blks a) (f43.res a) (f43.blks' a) = f43.tree a := by kernel_rfl
end Go.Abs

-- interregnum/interregnumref05.TaskBytes
namespace Go.Abs
open Go
def f44.args (a : T_api_Task) : List D := [.agg [.str a.1, .str a.2.1, .int .i64 a.2.2.1, .int .i64 a.2.2.2.1.1, .int .i64 a.2.2.2.1.2.1, .int .i64 a.2.2.2.1.2.2, .slice .ro 2 a.2.2.2.2.1.length (gl e_api_Label a.2.2.2.2.1), .str a.2.2.2.2.2.1, .str a.2.2.2.2.2.2.1, .int .i64 a.2.2.2.2.2.2.2]]
def f44.blks (a : T_api_Task) : List (List D) := []
def f44.res (a : T_api_Task) : List D := [.str (taskS a)]
def f44.blks' (a : T_api_Task) : List (List D) := []
def f44.C : Contract := FnC f44.args f44.blks (fun a => task_pre a) f44.res f44.blks'
end Go.Abs

/- interregnum/interregnumref05.TaskBytes -/
namespace Go.Abs
open Go
set_option linter.unusedVariables false
def f44.kills (a : T_api_Task) : List Hint := []
def f44.cuts (a : T_api_Task) : List (Nat × Σ β : Type, β → Tm) := []
def f44.af (a : T_api_Task) : AF := AF.mk (.seq (.region [⟨(some 1), 0, .box, [.t 0], none⟩,
  ⟨(some 2), 1, .move, [.c (.str ByteArray.empty)], none⟩])
 (.seq (.seq (.region [⟨(some 4), 2, (.load true 10), [.t 1], none⟩,
  ⟨(some 5), 3, (.call false 38), [.t 4], none⟩,
  ⟨(some 6), 7, (.un .not), [.t 5], none⟩])
 (.cond (.t 6) (.seq (.region [⟨(some 2), 8, .move, [.c (.str ByteArray.empty)], none⟩])
 (.ret)) (.skip)))
 (.seq (.region [⟨(some 7), 9, (.fieldAddr 0), [.t 1], none⟩,
  ⟨(some 8), 10, (.load false 1), [.t 7], none⟩,
  ⟨(some 9), 11, (.call false 17), [.t 8], none⟩,
  ⟨(some 10), 15, (.fieldAddr 1), [.t 1], none⟩,
  ⟨(some 11), 16, (.load false 1), [.t 10], none⟩,
  ⟨(some 12), 17, (.call false 17), [.t 11], none⟩,
  ⟨(some 13), 21, (.bin .add), [.t 9, .t 12], none⟩,
  ⟨(some 14), 22, (.fieldAddr 2), [.t 1], none⟩,
  ⟨(some 15), 23, (.load false 1), [.t 14], none⟩,
  ⟨(some 16), 24, (.call false 65), [.t 15], none⟩,
  ⟨(some 17), 28, (.bin .add), [.t 13, .t 16], none⟩,
  ⟨(some 18), 29, (.fieldAddr 3), [.t 1], none⟩,
  ⟨(some 19), 30, (.load true 3), [.t 18], none⟩,
  ⟨(some 20), 31, (.call false 63), [.t 19], none⟩,
  ⟨(some 21), 35, (.bin .add), [.t 17, .t 20], none⟩,
  ⟨(some 22), 36, (.fieldAddr 6), [.t 1], none⟩,
  ⟨(some 23), 37, (.load false 1), [.t 22], none⟩,
  ⟨(some 24), 38, (.call false 64), [.t 23], none⟩,
  ⟨(some 25), 42, (.bin .add), [.t 21, .t 24], none⟩,
  ⟨(some 3), 43, .move, [.t 25], none⟩])
 (.seq (.region [⟨(some 26), 44, .move, [.t 3], none⟩,
  ⟨(some 27), 45, (.fieldAddr 7), [.t 1], none⟩,
  ⟨(some 28), 46, (.load false 1), [.t 27], none⟩,
  ⟨(some 29), 47, (.call false 17), [.t 28], none⟩,
  ⟨(some 30), 51, (.bin .add), [.t 26, .t 29], none⟩,
  ⟨(some 31), 52, (.fieldAddr 8), [.t 1], none⟩,
  ⟨(some 32), 53, (.load false 1), [.t 31], none⟩,
  ⟨(some 33), 54, (.call false 17), [.t 32], none⟩,
  ⟨(some 34), 58, (.bin .add), [.t 30, .t 33], none⟩,
  ⟨(some 35), 59, (.fieldAddr 9), [.t 1], none⟩,
  ⟨(some 36), 60, (.load false 1), [.t 35], none⟩,
  ⟨(some 37), 61, (.call false 65), [.t 36], none⟩,
  ⟨(some 38), 65, (.bin .add), [.t 34, .t 37], none⟩,
  ⟨(some 2), 66, .move, [.t 38], none⟩])
 (.ret)))))
  [.tmp 2] 0 38
def f44.env : Env := [(38, f38.C), (17, f17.C), (65, f65.C), (63, f63.C), (64, f64.C)]
def f44.tree (a : T_api_Task) : Prop := ∃ c1 : T_api_Task, (a.1 = c1.1) ∧ (a.2.1 = c1.2.1) ∧ (a.2.2.1 = c1.2.2.1) ∧ (a.2.2.2.1.1 = c1.2.2.2.1.1) ∧ (a.2.2.2.1.2.1 = c1.2.2.2.1.2.1) ∧ (a.2.2.2.1.2.2 = c1.2.2.2.1.2.2) ∧ (a.2.2.2.2.1.length = c1.2.2.2.2.1.length) ∧ (∀ i, i < c1.2.2.2.2.1.length → DEqs ((gl e_api_Label a.2.2.2.2.1) i) ((gl e_api_Label c1.2.2.2.2.1) i)) ∧ (a.2.2.2.2.2.1 = c1.2.2.2.2.2.1) ∧ (a.2.2.2.2.2.2.1 = c1.2.2.2.2.2.2.1) ∧ (a.2.2.2.2.2.2.2 = c1.2.2.2.2.2.2.2) ∧ (task_pre c1) ∧ Br (!(taskB c1)) ((ByteArray.empty = (taskS a)) ∧ True) (∃ c5 : ByteArray, (a.1 = c5) ∧ (text_pre c5) ∧ ∃ c6 : ByteArray, (a.2.1 = c6) ∧ (text_pre c6) ∧ Br (Nat.ble ((textS c5).size + (textS c6).size) 9223372036854775807) (∃ c8 : Int, (a.2.2.1 = c8) ∧ (number_pre c8) ∧ Br (Nat.ble (((textS c5) ++ (textS c6)).size + (numS c8).size) 9223372036854775807) (∃ c10 : T_ar3_i64, (a.2.2.2.1.1 = c10.1) ∧ (a.2.2.2.1.2.1 = c10.2.1) ∧ (a.2.2.2.1.2.2 = c10.2.2) ∧ (amt_pre c10) ∧ Br (Nat.ble ((((textS c5) ++ (textS c6)) ++ (numS c8)).size + (amtS c10).size) 9223372036854775807) (∃ c12 : List (T_api_Label), (a.2.2.2.2.1.length = c12.length) ∧ (∀ i, i < c12.length → DEqs ((gl e_api_Label a.2.2.2.2.1) i) ((gl e_api_Label c12) i)) ∧ (lblsS_pre c12) ∧ Br (Nat.ble (((((textS c5) ++ (textS c6)) ++ (numS c8)) ++ (amtS c10)).size + (lblsS c12).size) 9223372036854775807) (∃ c14 : ByteArray, (a.2.2.2.2.2.1 = c14) ∧ (text_pre c14) ∧ Br (Nat.ble ((((((textS c5) ++ (textS c6)) ++ (numS c8)) ++ (amtS c10)) ++ (lblsS c12)).size + (textS c14).size) 9223372036854775807) (∃ c16 : ByteArray, (a.2.2.2.2.2.2.1 = c16) ∧ (text_pre c16) ∧ Br (Nat.ble (((((((textS c5) ++ (textS c6)) ++ (numS c8)) ++ (amtS c10)) ++ (lblsS c12)) ++ (textS c14)).size + (textS c16).size) 9223372036854775807) (∃ c18 : Int, (a.2.2.2.2.2.2.2 = c18) ∧ (number_pre c18) ∧ Br (Nat.ble ((((((((textS c5) ++ (textS c6)) ++ (numS c8)) ++ (amtS c10)) ++ (lblsS c12)) ++ (textS c14)) ++ (textS c16)).size + (numS c18).size) 9223372036854775807) ((((((((((textS c5) ++ (textS c6)) ++ (numS c8)) ++ (amtS c10)) ++ (lblsS c12)) ++ (textS c14)) ++ (textS c16)) ++ (numS c18)) = (taskS a)) ∧ True) False) False) False) False) False) False) False)
def f44.vc (a : T_api_Task) : Prop := (task_pre a ∧ ((¬ ((taskB a) = true) → (ByteArray.empty = taskS a)) ∧ (¬ (¬ ((taskB a) = true)) → (text_pre a.1 ∧ (text_pre a.2.1 ∧ (((textS (a.1)).size + (textS (a.2.1)).size ≤ 9223372036854775807) ∧ (number_pre a.2.2.1 ∧ ((((textS (a.1)) ++ (textS (a.2.1))).size + (numS (a.2.2.1)).size ≤ 9223372036854775807) ∧ (amt_pre a.2.2.2.1 ∧ (((((textS (a.1)) ++ (textS (a.2.1))) ++ (numS (a.2.2.1))).size + (amtS (a.2.2.2.1)).size ≤ 9223372036854775807) ∧ (lblsS_pre a.2.2.2.2.1 ∧ ((((((textS (a.1)) ++ (textS (a.2.1))) ++ (numS (a.2.2.1))) ++ (amtS (a.2.2.2.1))).size + (lblsS (a.2.2.2.2.1)).size ≤ 9223372036854775807) ∧ (text_pre a.2.2.2.2.2.1 ∧ (((((((textS (a.1)) ++ (textS (a.2.1))) ++ (numS (a.2.2.1))) ++ (amtS (a.2.2.2.1))) ++ (lblsS (a.2.2.2.2.1))).size + (textS (a.2.2.2.2.2.1)).size ≤ 9223372036854775807) ∧ (text_pre a.2.2.2.2.2.2.1 ∧ ((((((((textS (a.1)) ++ (textS (a.2.1))) ++ (numS (a.2.2.1))) ++ (amtS (a.2.2.2.1))) ++ (lblsS (a.2.2.2.2.1))) ++ (textS (a.2.2.2.2.2.1))).size + (textS (a.2.2.2.2.2.2.1)).size ≤ 9223372036854775807) ∧ (number_pre a.2.2.2.2.2.2.2 ∧ (((((((((textS (a.1)) ++ (textS (a.2.1))) ++ (numS (a.2.2.1))) ++ (amtS (a.2.2.2.1))) ++ (lblsS (a.2.2.2.2.1))) ++ (textS (a.2.2.2.2.2.1))) ++ (textS (a.2.2.2.2.2.2.1))).size + (numS (a.2.2.2.2.2.2.2)).size ≤ 9223372036854775807) ∧ ((((((((textS (a.1)) ++ (textS (a.2.1))) ++ (numS (a.2.2.1))) ++ (amtS (a.2.2.2.1))) ++ (lblsS (a.2.2.2.2.1))) ++ (textS (a.2.2.2.2.2.1))) ++ (textS (a.2.2.2.2.2.2.1))) ++ (numS (a.2.2.2.2.2.2.2)) = taskS a)))))))))))))))))))
set_option maxRecDepth 100000 in
set_option maxHeartbeats 2000000 in
theorem f44.of (a : T_api_Task) (h : f44.vc a) : f44.tree a := ⟨a, ⟨rfl, ⟨rfl, ⟨rfl, ⟨rfl, ⟨rfl, ⟨rfl, slK (Rds.self (enc := e_api_Label)) (⟨rfl, ⟨rfl, ⟨rfl, ⟨h.1, br h.2 (Cnd.not Cnd.b) (fun h2 k36 => ⟨k36, trivial⟩) (fun h3 k37 => ⟨a.1, ⟨rfl, ⟨k37.1, ⟨a.2.1, ⟨rfl, ⟨k37.2.1, chk k37.2.2.2 Cnd.ble k37.2.2.1 (fun h7 k33 => ⟨a.2.2.1, ⟨rfl, ⟨k33.1, chk k33.2.2 Cnd.ble k33.2.1 (fun h9 k31 => ⟨a.2.2.2.1, ⟨rfl, ⟨rfl, ⟨rfl, ⟨k31.1, chk k31.2.2 Cnd.ble k31.2.1 (fun h11 k29 => ⟨a.2.2.2.2.1, slK (Rds.self (enc := e_api_Label)) (⟨k29.1, chk k29.2.2 Cnd.ble k29.2.1 (fun h13 k27 => ⟨a.2.2.2.2.2.1, ⟨rfl, ⟨k27.1, chk k27.2.2 Cnd.ble k27.2.1 (fun h15 k25 => ⟨a.2.2.2.2.2.2.1, ⟨rfl, ⟨k25.1, chk k25.2.2 Cnd.ble k25.2.1 (fun h17 k23 => ⟨a.2.2.2.2.2.2.2, ⟨rfl, ⟨k23.1, chk k23.2.2 Cnd.ble k23.2.1 (fun h19 k21 => ⟨k21, trivial⟩)⟩⟩⟩)⟩⟩⟩)⟩⟩⟩)⟩)⟩)⟩⟩⟩⟩⟩)⟩⟩⟩)⟩⟩⟩⟩⟩⟩)⟩⟩⟩⟩)⟩⟩⟩⟩⟩⟩⟩
theorem f44.eq (a : T_api_Task) : (f44.af a).gives f44.env (f44.args a) (f44.blks a) (f44.res a) (f44.blks' a) = f44.tree a := by kernel_rfl
end Go.Abs

-- interregnum/interregnumlaw05.ModelRights
namespace Go.Abs
open Go
def f12.wf (a : ByteArray × T_api_Node × T_api_Queue × T_api_Task) : Prop := k_str.ok a.1 ∧ k_api_Node.ok a.2.1 ∧ k_api_Queue.ok a.2.2.1 ∧ k_api_Task.ok a.2.2.2
def f12.size (a : ByteArray × T_api_Node × T_api_Queue × T_api_Task) : Nat := k_str.size a.1 + (k_api_Node.size a.2.1 + (k_api_Queue.size a.2.2.1 + (k_api_Task.size a.2.2.2)))
def f12.lpre (a : ByteArray × T_api_Node × T_api_Queue × T_api_Task) : Prop := f12.wf a ∧ f12.size a ≤ 1048576
def f12.args (a : ByteArray × T_api_Node × T_api_Queue × T_api_Task) : List D := [.str a.1, .agg [.str a.2.1.1, .int .i64 a.2.1.2.1.1, .int .i64 a.2.1.2.1.2.1, .int .i64 a.2.1.2.1.2.2, .slice .ro 2 a.2.1.2.2.length (gl e_api_Label a.2.1.2.2)], .agg [.str a.2.2.1.1, .int .i64 a.2.2.1.2.1, .int .i64 a.2.2.1.2.2.1, .int .i64 a.2.2.1.2.2.2], .agg [.str a.2.2.2.1, .str a.2.2.2.2.1, .int .i64 a.2.2.2.2.2.1, .int .i64 a.2.2.2.2.2.2.1.1, .int .i64 a.2.2.2.2.2.2.1.2.1, .int .i64 a.2.2.2.2.2.2.1.2.2, .slice .ro 2 a.2.2.2.2.2.2.2.1.length (gl e_api_Label a.2.2.2.2.2.2.2.1), .str a.2.2.2.2.2.2.2.2.1, .str a.2.2.2.2.2.2.2.2.2.1, .int .i64 a.2.2.2.2.2.2.2.2.2.2]]
def f12.blks (a : ByteArray × T_api_Node × T_api_Queue × T_api_Task) : List (List D) := []
def f12.res (a : ByteArray × T_api_Node × T_api_Queue × T_api_Task) : List D := [.bool (lawTrue a)]
def f12.blks' (a : ByteArray × T_api_Node × T_api_Queue × T_api_Task) : List (List D) := []
def f12.C : Contract := FnC f12.args f12.blks (fun a => f12.lpre a) f12.res f12.blks'
end Go.Abs
