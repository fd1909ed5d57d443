/- Functions, and what the code asks of them. -/
import Derived.KernelRfl
import Derived.Lib.TrimU
import Derived.Test.YtabnaedcnfkmiaaA2
set_option linter.unusedVariables false
set_option linter.unusedSimpArgs false
/- What is asked, in plain words: the lemmas by which a printed text goes from the one to the other. -/
namespace Go.Abs
open Go

/-- What a law answers. -/
def lawTrue {α : Type} (_ : α) : Bool := true

def Let {α : Type} (v : α) (T : α → Prop) : Prop := T v

/-- A bool and what it says. -/
structure Cnd (b : Bool) (p : Prop) : Prop where
  iff : b = true ↔ p

theorem toList_data (a : ByteArray) : a.toList = a.data.toList := by
  have key : ∀ (n i : Nat) (r : List UInt8), a.size - i = n → ByteArray.toList.loop a i r = r.reverse ++ a.data.toList.drop i := by
    intro n
    induction n with
    | zero =>
      intro i r h
      rw [ByteArray.toList.loop]
      have h1 : ¬ i < a.size := by omega
      rw [if_neg h1, List.drop_eq_nil_of_le (by rw [Array.length_toList]; show a.size ≤ i; omega), List.append_nil]
    | succ n ih =>
      intro i r h
      rw [ByteArray.toList.loop]
      have h1 : i < a.size := by omega
      have h2 : i < a.data.toList.length := by rw [Array.length_toList]; exact h1
      rw [if_pos h1, ih (i + 1) _ (by omega), List.reverse_cons, List.append_assoc, List.drop_eq_getElem_cons h2]
      congr 2
      have h3 : a.get! i = a.data.toList[i] := by
        show a.data[i]! = _
        have h4 : i < a.data.size := h1
        rw [getElem!_pos a.data i h4]
        simp
      rw [h3]
      rfl
  unfold ByteArray.toList
  rw [key _ 0 [] rfl]
  simp

theorem bytes_ext {a b : ByteArray} (h : a.data.toList = b.data.toList) : a = b := by
  cases a; cases b
  simp only [ByteArray.mk.injEq]
  exact Array.toList_inj.1 h

theorem toList_inj {a b : ByteArray} : a.toList = b.toList ↔ a = b := by
  rw [toList_data, toList_data]
  exact ⟨bytes_ext, fun h => by rw [h]⟩

def sLt (a b : ByteArray) : Prop := Op.bytesLess a.toList b.toList = true
def sLe (a b : ByteArray) : Prop := sLt a b ∨ a = b

namespace Cnd
variable {p q : Prop}
theorem b {c : Bool} : Cnd c (c = true) := ⟨Iff.rfl⟩
theorem tt : Cnd true True := ⟨by simp⟩
theorem ff : Cnd false False := ⟨by simp⟩
theorem dec [Decidable p] : Cnd (decide p) p := ⟨decide_eq_true_iff⟩
theorem eq {α : Type} [BEq α] [LawfulBEq α] {x y : α} : Cnd (x == y) (x = y) := ⟨beq_iff_eq⟩
theorem ne {α : Type} [BEq α] [LawfulBEq α] {x y : α} : Cnd (x != y) (¬ x = y) := ⟨bne_iff_ne⟩
theorem seq {x y : ByteArray} : Cnd (x.toList == y.toList) (x = y) := ⟨by rw [beq_iff_eq, toList_inj]⟩
theorem not {c : Bool} (h : Cnd c p) : Cnd (!c) (¬ (p)) := ⟨by rw [← h.iff]; cases c <;> simp⟩
theorem and {b c : Bool} (h : Cnd b p) (k : Cnd c q) : Cnd (b && c) ((p) ∧ (q)) := ⟨by rw [← h.iff, ← k.iff, Bool.and_eq_true]⟩
theorem or {b c : Bool} (h : Cnd b p) (k : Cnd c q) : Cnd (b || c) ((p) ∨ (q)) := ⟨by rw [← h.iff, ← k.iff, Bool.or_eq_true]⟩
theorem ix {i n : Int} : Cnd (decide ((0 : Int) ≤ i) && decide (i < n)) ((0 : Int) ≤ i ∧ i < n) := ⟨by simp⟩
theorem sl {l h n : Int} : Cnd (decide ((0 : Int) ≤ l) && decide (l ≤ h) && decide (h ≤ n) && (h == h)) ((0 : Int) ≤ l ∧ l ≤ h ∧ h ≤ n) := ⟨by simp [and_assoc]⟩
theorem sl4 {l h n m : Int} : Cnd (decide ((0 : Int) ≤ l) && decide (l ≤ h) && decide (h ≤ n) && (m == h)) ((0 : Int) ≤ l ∧ l ≤ h ∧ h ≤ n ∧ m = h) := ⟨by simp [and_assoc]⟩
theorem ss {l h n : Int} : Cnd (decide ((0 : Int) ≤ l) && decide (l ≤ h) && decide (h ≤ n)) ((0 : Int) ≤ l ∧ l ≤ h ∧ h ≤ n) := ⟨by simp [and_assoc]⟩
theorem ble {x y : Nat} : Cnd (Nat.ble x y) (x ≤ y) := ⟨by rw [Nat.ble_eq]⟩
theorem beq {x y : Nat} : Cnd (Nat.beq x y) (x = y) := ⟨by rw [Nat.beq_eq]⟩
theorem sl_ {x y : ByteArray} : Cnd (Op.bytesLess x.toList y.toList) (sLt x y) := ⟨Iff.rfl⟩
theorem sle {x y : ByteArray} : Cnd (Op.bytesLess x.toList y.toList || x.toList == y.toList) (sLe x y) := ⟨by unfold sLe sLt; rw [Bool.or_eq_true, beq_iff_eq, toList_inj]⟩
end Cnd

theorem br {b : Bool} {c p q p' q' : Prop} (h : (c → p') ∧ (¬ (c) → q')) (hc : Cnd b c) (f : c → p' → p) (g : ¬ (c) → q' → q) : Br b p q := by
  cases b with
  | true => exact f (hc.iff.1 rfl) (h.1 (hc.iff.1 rfl))
  | false =>
    have hn : ¬ c := fun h => by have := hc.iff.2 h; cases this
    exact g hn (h.2 hn)

theorem brT {b : Bool} {c p q : Prop} (hc : Cnd b c) (h : c) (t : p) : Br b p q := by
  have := hc.iff.2 h
  subst this
  exact t

theorem brF {b : Bool} {c p q : Prop} (hc : Cnd b c) (h : ¬ (c)) (t : q) : Br b p q := by
  cases b with
  | true => exact absurd (hc.iff.1 rfl) h
  | false => exact t

theorem chk {b : Bool} {c p p' : Prop} (h2 : p') (hc : Cnd b c) (h1 : c) (f : c → p' → p) : Br b p False := by
  have := hc.iff.2 h1
  subst this
  exact f h1 h2

theorem chk0 {b : Bool} {c p : Prop} (hc : Cnd b c) (h1 : c) (t : p) : Br b p False := chk t hc h1 fun _ h => h

theorem wrap_id {k : IntKind} {e : Int} (h : (if k.signed then -(2 ^ (k.bits - 1) : Int) else 0) ≤ e) (h' : e ≤ (if k.signed then (2 ^ (k.bits - 1) : Int) else 2 ^ k.bits) - 1) : k.wrap e = e := by
  cases k <;> simp [IntKind.wrap, IntKind.signed, IntKind.bits] at h h' ⊢ <;> (try split) <;> omega

namespace wrapK
variable {e : Int} {T : Int → Prop} {V : Prop}
theorem i8 (h : -128 ≤ e ∧ e ≤ 127 ∧ V) (f : -128 ≤ e → e ≤ 127 → V → T e) : Let (IntKind.i8.wrap e) T := by
  unfold Let; rw [wrap_id (by unfold IntKind.signed IntKind.bits; simp; omega) (by unfold IntKind.signed IntKind.bits; simp; omega)]; exact f h.1 h.2.1 h.2.2
theorem i16 (h : -32768 ≤ e ∧ e ≤ 32767 ∧ V) (f : -32768 ≤ e → e ≤ 32767 → V → T e) : Let (IntKind.i16.wrap e) T := by
  unfold Let; rw [wrap_id (by unfold IntKind.signed IntKind.bits; simp; omega) (by unfold IntKind.signed IntKind.bits; simp; omega)]; exact f h.1 h.2.1 h.2.2
theorem i32 (h : -2147483648 ≤ e ∧ e ≤ 2147483647 ∧ V) (f : -2147483648 ≤ e → e ≤ 2147483647 → V → T e) : Let (IntKind.i32.wrap e) T := by
  unfold Let; rw [wrap_id (by unfold IntKind.signed IntKind.bits; simp; omega) (by unfold IntKind.signed IntKind.bits; simp; omega)]; exact f h.1 h.2.1 h.2.2
theorem i64 (h : -9223372036854775808 ≤ e ∧ e ≤ 9223372036854775807 ∧ V) (f : -9223372036854775808 ≤ e → e ≤ 9223372036854775807 → V → T e) : Let (IntKind.i64.wrap e) T := by
  unfold Let; rw [wrap_id (by unfold IntKind.signed IntKind.bits; simp; omega) (by unfold IntKind.signed IntKind.bits; simp; omega)]; exact f h.1 h.2.1 h.2.2
theorem u8 (h : 0 ≤ e ∧ e ≤ 255 ∧ V) (f : 0 ≤ e → e ≤ 255 → V → T e) : Let (IntKind.u8.wrap e) T := by
  unfold Let; rw [wrap_id (by unfold IntKind.signed IntKind.bits; simp; omega) (by unfold IntKind.signed IntKind.bits; simp; omega)]; exact f h.1 h.2.1 h.2.2
theorem u16 (h : 0 ≤ e ∧ e ≤ 65535 ∧ V) (f : 0 ≤ e → e ≤ 65535 → V → T e) : Let (IntKind.u16.wrap e) T := by
  unfold Let; rw [wrap_id (by unfold IntKind.signed IntKind.bits; simp; omega) (by unfold IntKind.signed IntKind.bits; simp; omega)]; exact f h.1 h.2.1 h.2.2
theorem u32 (h : 0 ≤ e ∧ e ≤ 4294967295 ∧ V) (f : 0 ≤ e → e ≤ 4294967295 → V → T e) : Let (IntKind.u32.wrap e) T := by
  unfold Let; rw [wrap_id (by unfold IntKind.signed IntKind.bits; simp; omega) (by unfold IntKind.signed IntKind.bits; simp; omega)]; exact f h.1 h.2.1 h.2.2
theorem u64 (h : 0 ≤ e ∧ e ≤ 18446744073709551615 ∧ V) (f : 0 ≤ e → e ≤ 18446744073709551615 → V → T e) : Let (IntKind.u64.wrap e) T := by
  unfold Let; rw [wrap_id (by unfold IntKind.signed IntKind.bits; simp; omega) (by unfold IntKind.signed IntKind.bits; simp; omega)]; exact f h.1 h.2.1 h.2.2
end wrapK

namespace wrapR
variable {e : Int} {T : Int → Prop}
theorem i64 (h : (0 : Int) ≤ e ∧ e ≤ 255) (t : T e) : Let (IntKind.i64.wrap e) T := wrapK.i64 (V := True) ⟨by omega, by omega, trivial⟩ (fun _ _ _ => t)
theorem u64 (h : (0 : Int) ≤ e ∧ e ≤ 255) (t : T e) : Let (IntKind.u64.wrap e) T := wrapK.u64 (V := True) ⟨by omega, by omega, trivial⟩ (fun _ _ _ => t)
theorem i32 (h : (0 : Int) ≤ e ∧ e ≤ 255) (t : T e) : Let (IntKind.i32.wrap e) T := wrapK.i32 (V := True) ⟨by omega, by omega, trivial⟩ (fun _ _ _ => t)
theorem u32 (h : (0 : Int) ≤ e ∧ e ≤ 255) (t : T e) : Let (IntKind.u32.wrap e) T := wrapK.u32 (V := True) ⟨by omega, by omega, trivial⟩ (fun _ _ _ => t)
end wrapR

theorem fdivK {x c : Int} {T : Int → Prop} (hc : 0 ≤ c) (t : T (x / c)) : Let (Int.fdiv x c) T := by
  unfold Let; rw [Int.fdiv_eq_ediv_of_nonneg _ hc]; exact t

theorem modK {x y : Int} {T : Int → Prop} (hx : 0 ≤ x) (t : T (x % y)) : Let (Int.tmod x y) T := by
  unfold Let; rw [Int.tmod_eq_emod_of_nonneg hx]; exact t

namespace divK
variable {x y : Int} {T : Int → Prop}
theorem le (hx : 0 ≤ x) (hy : 0 < y) : 0 ≤ x / y ∧ x / y ≤ x := ⟨Int.ediv_nonneg hx (Int.le_of_lt hy), Int.ediv_le_self _ hx⟩
theorem i64 (hx : 0 ≤ x) (h : x ≤ 9223372036854775807) (hy : 0 < y) (t : T (x / y)) : Let (IntKind.i64.wrap (Int.tdiv x y)) T := by
  have := le hx hy
  rw [Int.tdiv_eq_ediv_of_nonneg hx]
  exact wrapK.i64 (V := True) ⟨by omega, by omega, trivial⟩ (fun _ _ _ => t)
theorem u64 (hx : 0 ≤ x) (h : x ≤ 18446744073709551615) (hy : 0 < y) (t : T (x / y)) : Let (IntKind.u64.wrap (Int.tdiv x y)) T := by
  have := le hx hy
  rw [Int.tdiv_eq_ediv_of_nonneg hx]
  exact wrapK.u64 (V := True) ⟨by omega, by omega, trivial⟩ (fun _ _ _ => t)
theorem u32 (hx : 0 ≤ x) (h : x ≤ 4294967295) (hy : 0 < y) (t : T (x / y)) : Let (IntKind.u32.wrap (Int.tdiv x y)) T := by
  have := le hx hy
  rw [Int.tdiv_eq_ediv_of_nonneg hx]
  exact wrapK.u32 (V := True) ⟨by omega, by omega, trivial⟩ (fun _ _ _ => t)
end divK

theorem room_of {k b : Nat} (h : k ≤ 1073741824) (hb : b ≤ 131072) : room (k * b) := by
  have : k * b ≤ 1073741824 * 131072 := Nat.mul_le_mul h hb
  unfold room
  omega

theorem room_ofI {c : Int} {b : Nat} (h : c ≤ 1073741824) (hb : b ≤ 131072) : room (Int.toNat c * b) := room_of (by omega) hb

/-- A byte of a text. -/
def bAtN (s : ByteArray) (n : Nat) : Int := ((nth s.data.toList n 0).toNat : Int)
def bAt (s : ByteArray) (i : Int) : Int := ((nth s.data.toList i.toNat 0).toNat : Int)
def at_ {α : Type} [Inhabited α] (l : List α) (i : Int) : α := l.getD i.toNat default
def mx (a b : Int) : Int := bif decide (a < b) then b else a
def mn (a b : Int) : Int := bif decide (b < a) then b else a
def by1 (c : Int) : ByteArray := ⟨#[UInt8.ofNat c.toNat]⟩
def byz (n : Nat) : ByteArray := ⟨(List.replicate n 0).toArray⟩
def subB (b : ByteArray) (lo hi : Int) : ByteArray := b.extract lo.toNat hi.toNat
def subL {α : Type} (l : List α) (lo hi : Int) : List α := (l.drop lo.toNat).take (hi - lo).toNat

theorem DEqs.symmLen {l m : List D} (h : DEqs l m) : l.length = m.length := h.1

/-- A slice's elements read as a list. -/
def Rds {α : Type} [Inhabited α] (enc : α → List D) (n : Nat) (g : Nat → List D) (l : List α) : Prop := n = l.length ∧ ∀ i, i < l.length → DEqs (g i) (gl enc l i)
/-- A slice of bytes reads as bytes. -/
def RdB (n : Nat) (g : Nat → List D) (b : ByteArray) : Prop := n = b.size ∧ ∀ i, i < b.size → DEqs (g i) (gstr b i)

namespace Rds
variable {α : Type} [Inhabited α] {enc : α → List D} {n m : Nat} {g h : Nat → List D} {l l' : List α}
theorem self : Rds enc l.length (gl enc l) l := ⟨rfl, fun _ _ => DEqs.refl _⟩
theorem nil : Rds enc 0 g [] := ⟨rfl, fun i h => absurd h (Nat.not_lt_zero i)⟩
theorem one {cs : List D} {x : α} (h : DEqs cs (enc x)) : Rds enc 1 (fun _ => cs) [x] := ⟨rfl, fun i hi => by
  have : i = 0 := by simp at hi; exact hi
  subst this
  exact h⟩
theorem getD_app (l l' : List α) (i : Nat) : (l ++ l').getD i default = if i < l.length then l.getD i default else l'.getD (i - l.length) default := by
  simp only [List.getD_eq_getElem?_getD, List.getElem?_append]
  split <;> rfl
theorem rep {x : α} : Rds enc n (fun _ => enc x) (List.replicate n x) := ⟨by simp, fun i hi => by
  rw [List.length_replicate] at hi
  have : gl enc (List.replicate n x) i = enc x := by simp [gl, List.getD_eq_getElem?_getD, hi]
  rw [this]
  exact DEqs.refl _⟩
theorem app (p : Rds enc n g l) (q : Rds enc m h l') : Rds enc (n + m) (gapp g n h) (l ++ l') := ⟨by rw [p.1, q.1, List.length_append], fun i hi => by
  rw [List.length_append] at hi
  have e : gl enc (l ++ l') i = if i < l.length then gl enc l i else gl enc l' (i - l.length) := by
    unfold gl
    rw [getD_app]
    split <;> rfl
  rw [e]
  unfold gapp
  by_cases h1 : i < n
  · have : Nat.blt i n = true := by rw [Nat.blt_eq]; exact h1
    rw [this, if_pos (by rw [← p.1]; exact h1)]
    exact p.2 i (by rw [← p.1]; exact h1)
  · have : Nat.blt i n = false := by rw [← Bool.not_eq_true, Nat.blt_eq]; exact h1
    rw [this, if_neg (by rw [← p.1]; exact h1), p.1]
    exact q.2 (i - l.length) (by rw [p.1] at h1; omega)⟩
theorem sub {lo hi : Int} (p : Rds enc n g l) (h : (0 : Int) ≤ lo ∧ lo ≤ hi ∧ hi ≤ (n : Int)) : Rds enc (Int.toNat (hi - lo)) (gsub g (Int.toNat lo)) (subL l lo hi) := by
  have hn := p.1
  refine ⟨by simp only [subL, List.length_take, List.length_drop]; omega, fun i hi' => ?_⟩
  simp only [subL, List.length_take, List.length_drop] at hi'
  have e : gl enc (subL l lo hi) i = gl enc l (i + Int.toNat lo) := by
    unfold gl subL
    simp only [List.getD_eq_getElem?_getD, List.getElem?_take, List.getElem?_drop]
    rw [if_pos (by omega), Nat.add_comm]
  rw [e]
  exact p.2 (i + Int.toNat lo) (by omega)
theorem to (p : Rds enc n g l) (h : l = l') : Rds enc n g l' := h ▸ p
theorem deq {t : Tag} {z : Nat} (p : Rds enc n g l) : DEq (.slice t z n g) (.slice .ro z l.length (gl enc l)) := by
  obtain ⟨h1, h2⟩ := p
  subst h1
  exact .slice t .ro z _ g _ (.inr rfl) (fun i hi => (h2 i hi).1) fun i hi => (h2 i hi).2
theorem row (h : n = l.length ∧ ∀ i, i < l.length → g i = gl enc l i) : Rds enc n g l := ⟨h.1, fun i hi => by rw [h.2 i hi]; exact DEqs.refl _⟩
end Rds

theorem u8r (x : UInt8) : (0 : Int) ≤ (x.toNat : Int) ∧ (x.toNat : Int) ≤ 255 := ⟨by omega, by have := x.toNat_lt; omega⟩
theorem u8w (e : Int) : (0 : Int) ≤ IntKind.u8.wrap e ∧ IntKind.u8.wrap e ≤ 255 := by simp [IntKind.wrap, IntKind.signed, IntKind.bits]; omega
theorem u8b (s : ByteArray) (i : Int) : (0 : Int) ≤ bAt s i ∧ bAt s i ≤ 255 := u8r _
theorem u8bN (s : ByteArray) (i : Nat) : (0 : Int) ≤ bAtN s i ∧ bAtN s i ≤ 255 := u8r _

theorem nth_toList {s : ByteArray} {i : Nat} (h : i < s.size) : nth s.data.toList i 0 = s.data.toList[i]'(by rw [Array.length_toList]; exact h) := nth_lt _ _ (by rw [Array.length_toList]; exact h)

theorem nth_app {α : Type} (l m : List α) (d : α) (j : Nat) : nth (l ++ m) j d = if j < l.length then nth l j d else nth m (j - l.length) d := by
  induction l generalizing j with
  | nil => simp
  | cons a l ih => cases j with
    | zero => simp [nth]
    | succ j => simp only [List.cons_append, nth, ih, List.length_cons, Nat.add_lt_add_iff_right, Nat.add_sub_add_right]

theorem nth_getD {α : Type} (l : List α) (d : α) (j : Nat) : nth l j d = l.getD j d := by
  induction l generalizing j with
  | nil => simp [nth]
  | cons a l ih => cases j with
    | zero => simp [nth]
    | succ j => simp [nth, ih]

theorem size_app (a b : ByteArray) : (a ++ b).size = a.size + b.size := ByteArray.size_append
theorem data_app (a b : ByteArray) : (a ++ b).data.toList = a.data.toList ++ b.data.toList := by rw [ByteArray.data_append, Array.toList_append]

namespace RdB
variable {n m : Nat} {g h : Nat → List D} {b b' : ByteArray}
theorem self : RdB b.size (gstr b) b := ⟨rfl, fun _ _ => DEqs.refl _⟩
theorem nil : RdB 0 g ByteArray.empty := ⟨rfl, fun i h => absurd h (Nat.not_lt_zero i)⟩
theorem one {c : Int} (h : (0 : Int) ≤ c ∧ c ≤ 255) : RdB 1 (fun _ => [.int .u8 c]) (by1 c) := ⟨rfl, fun i hi => by
  have : i = 0 := by
    have h2 : (by1 c).size = 1 := rfl
    omega
  subst this
  have : gstr (by1 c) 0 = [.int .u8 c] := by
    have e : ((UInt8.ofNat c.toNat).toNat : Int) = c := by
      rw [UInt8.toNat_ofNat']
      omega
    show [D.int .u8 ((UInt8.ofNat c.toNat).toNat : Int)] = _
    rw [e]
  rw [this]
  exact DEqs.refl _⟩
theorem size_byz : (byz n).size = n := by simp [byz, ByteArray.size]
theorem rep : RdB n (fun _ => [.int .u8 0]) (byz n) := ⟨size_byz.symm, fun i hi => by
  rw [size_byz] at hi
  have : gstr (byz n) i = [.int .u8 0] := by
    show [D.int .u8 ((nth (byz n).data.toList i 0).toNat : Int)] = _
    rw [nth_getD]
    simp [byz, List.getD_eq_getElem?_getD, hi]
  rw [this]
  exact DEqs.refl _⟩
theorem app (p : RdB n g b) (q : RdB m h b') : RdB (n + m) (gapp g n h) (b ++ b') := ⟨by rw [p.1, q.1, size_app], fun i hi => by
  rw [size_app] at hi
  have e : gstr (b ++ b') i = if i < b.size then gstr b i else gstr b' (i - b.size) := by
    unfold gstr
    rw [data_app, nth_app, Array.length_toList]
    show _ = if i < b.data.size then _ else [D.int .u8 ((nth b'.data.toList (i - b.data.size) 0).toNat : Int)]
    split <;> rfl
  rw [e]
  unfold gapp
  by_cases h1 : i < n
  · have : Nat.blt i n = true := by rw [Nat.blt_eq]; exact h1
    rw [this, if_pos (by rw [← p.1]; exact h1)]
    exact p.2 i (by rw [← p.1]; exact h1)
  · have : Nat.blt i n = false := by rw [← Bool.not_eq_true, Nat.blt_eq]; exact h1
    rw [this, if_neg (by rw [← p.1]; exact h1), p.1]
    exact q.2 (i - b.size) (by rw [p.1] at h1; omega)⟩
theorem size_sub {lo hi : Int} (h : (0 : Int) ≤ lo ∧ lo ≤ hi ∧ hi ≤ (b.size : Int)) : (subB b lo hi).size = Int.toNat (hi - lo) := by
  simp only [subB, ByteArray.size_extract]
  omega
theorem sub {lo hi : Int} (p : RdB n g b) (h : (0 : Int) ≤ lo ∧ lo ≤ hi ∧ hi ≤ (n : Int)) : RdB (Int.toNat (hi - lo)) (gsub g (Int.toNat lo)) (subB b lo hi) := by
  have hn := p.1
  have hs := size_sub (b := b) (lo := lo) (hi := hi) (by rw [← hn]; exact h)
  refine ⟨hs.symm, fun i hi' => ?_⟩
  rw [hs] at hi'
  have e : gstr (subB b lo hi) i = gstr b (i + Int.toNat lo) := by
    unfold gstr subB
    rw [ByteArray.data_extract, nth_getD, nth_getD]
    simp only [List.getD_eq_getElem?_getD, Array.getElem?_toList, Array.getElem?_extract]
    have hb : b.data.size = b.size := rfl
    rw [if_pos (by omega), Nat.add_comm]
  rw [e]
  exact p.2 (i + Int.toNat lo) (by omega)
theorem to (p : RdB n g b) (h : b = b') : RdB n g b' := h ▸ p
theorem deq {t : Tag} (p : RdB n g b) : DEq (.slice t 1 n g) (.slice .ro 1 b.size (gstr b)) := by
  obtain ⟨h1, h2⟩ := p
  subst h1
  exact .slice t .ro 1 _ g _ (.inr rfl) (fun i hi => (h2 i hi).1) fun i hi => (h2 i hi).2
theorem at_ (p : RdB n g b) {i : Nat} (hi : i < n) : g i = [.int .u8 ((nth b.data.toList i 0).toNat : Int)] := by
  have h1 := p.2 i (by rw [← p.1]; exact hi)
  have h2 : (g i).length = 1 := h1.1
  have h3 := h1.2 0
  match hg : g i, h2 with
  | [d], _ =>
    rw [hg] at h3
    have h4 : DEq d (.int .u8 ((nth b.data.toList i 0).toNat : Int)) := h3
    cases h4
    rfl
theorem bytes (p : RdB n g b) : Bytes n g := fun i hi => ⟨nth b.data.toList i 0, p.at_ hi⟩
theorem text (p : RdB n g b) : textOf n g = b := by
  have key : ∀ k, k ≤ n → gbytes g k = b.data.toList.take k := by
    intro k
    induction k with
    | zero => intro _; simp [gbytes]
    | succ k ih =>
      intro hk
      have hlt : k < b.data.toList.length := by rw [Array.length_toList]; show k < b.size; rw [← p.1]; omega
      rw [gbytes, ih (by omega), p.at_ (by omega), List.take_succ_eq_append_getElem hlt]
      congr 2
      show UInt8.ofNat (Int.toNat ((nth b.data.toList k 0).toNat : Int)) = _
      rw [Int.toNat_natCast, UInt8.ofNat_toNat, nth_lt _ _ hlt]
  apply bytes_ext
  show (gbytes g n).toArray.toList = _
  rw [key n (Nat.le_refl _), List.take_of_length_le (by rw [Array.length_toList]; show b.size ≤ n; rw [p.1]; exact Nat.le_refl _)]
end RdB

theorem slK {p q k : Prop} (h : p ∧ q) (r : k) : p ∧ q ∧ k := ⟨h.1, h.2, r⟩
theorem numR {α : Type} [Inhabited α] {enc : α → List D} (g : Nat → List D) {n : Nat} {l : List α} (h : Rds enc n g l) : n = l.length := h.1
theorem numB (g : Nat → List D) {n : Nat} {b : ByteArray} (h : RdB n g b) : n = b.size := h.1

theorem b2s {n : Nat} {g : Nat → List D} {b : ByteArray} {V : Prop} {T : ByteArray → Prop} (h : V) (p : RdB n g b) (f : V → T b) : Bytes n g ∧ Let (textOf n g) T :=
  ⟨p.bytes, by unfold Let; rw [p.text]; exact f h⟩

end Go.Abs

-- the types of the program as data
namespace Go.Abs
open Go
def e_u64 (x : Int) : List D := [.int .u64 x]
def k_u64 : Codec (Int) := intC .u64
def e_i64 (x : Int) : List D := [.int .i64 x]
def k_i64 : Codec (Int) := intC .i64
def e_u8 (x : Int) : List D := [.int .u8 x]
def k_u8 : Codec (Int) := intC .u8
def e_bytes (x : ByteArray) : List D := [.slice .ro 1 x.size (gstr x)]
def e_str (x : ByteArray) : List D := [.str x]
def k_str : Codec (ByteArray) := strC
def e_bool (x : Bool) : List D := [.bool x]
def k_bool : Codec (Bool) := boolC
def e_sl_u64 (x : List (Int)) : List D := [.slice .ro 1 x.length (gl e_u64 x)]
def k_sl_u64 : Codec (List (Int)) := sliceC k_u64
def e_i32 (x : Int) : List D := [.int .i32 x]
def k_i32 : Codec (Int) := intC .i32
abbrev T_api_Label : Type := ByteArray × ByteArray
def e_api_Label (x : T_api_Label) : List D := [.str x.1, .str x.2]
def k_api_Label : Codec (T_api_Label) := aggC (pairC k_str k_str)
def e_sl_api_Label (x : List (T_api_Label)) : List D := [.slice .ro 2 x.length (gl e_api_Label x)]
def k_sl_api_Label : Codec (List (T_api_Label)) := sliceC k_api_Label
abbrev T_ar3_i64 : Type := Int × Int × Int
def e_ar3_i64 (x : T_ar3_i64) : List D := [.int .i64 x.1, .int .i64 x.2.1, .int .i64 x.2.2]
def k_ar3_i64 : Codec (T_ar3_i64) := aggC (pairC k_i64 (pairC k_i64 k_i64))
abbrev T_api_Node : Type := ByteArray × T_ar3_i64 × (List (T_api_Label))
def e_api_Node (x : T_api_Node) : List D := [.str x.1, .int .i64 x.2.1.1, .int .i64 x.2.1.2.1, .int .i64 x.2.1.2.2, .slice .ro 2 x.2.2.length (gl e_api_Label x.2.2)]
def k_api_Node : Codec (T_api_Node) := aggC (pairC k_str (pairC k_ar3_i64 k_sl_api_Label))
abbrev T_api_Queue : Type := ByteArray × T_ar3_i64
def e_api_Queue (x : T_api_Queue) : List D := [.str x.1, .int .i64 x.2.1, .int .i64 x.2.2.1, .int .i64 x.2.2.2]
def k_api_Queue : Codec (T_api_Queue) := aggC (pairC k_str k_ar3_i64)
abbrev T_api_Task : Type := ByteArray × ByteArray × Int × T_ar3_i64 × (List (T_api_Label)) × ByteArray × ByteArray × Int
def e_api_Task (x : T_api_Task) : List D := [.str x.1, .str x.2.1, .int .i64 x.2.2.1, .int .i64 x.2.2.2.1.1, .int .i64 x.2.2.2.1.2.1, .int .i64 x.2.2.2.1.2.2, .slice .ro 2 x.2.2.2.2.1.length (gl e_api_Label x.2.2.2.2.1), .str x.2.2.2.2.2.1, .str x.2.2.2.2.2.2.1, .int .i64 x.2.2.2.2.2.2.2]
def k_api_Task : Codec (T_api_Task) := aggC (pairC k_str (pairC k_str (pairC k_i64 (pairC k_ar3_i64 (pairC k_sl_api_Label (pairC k_str (pairC k_str k_i64)))))))
def e_sl_ar3_i64 (x : List (T_ar3_i64)) : List D := [.slice .ro 3 x.length (gl e_ar3_i64 x)]
def k_sl_ar3_i64 : Codec (List (T_ar3_i64)) := sliceC k_ar3_i64
abbrev T_api_Job : Type := T_api_Task × Int × ByteArray × Int
def e_api_Job (x : T_api_Job) : List D := [.str x.1.1, .str x.1.2.1, .int .i64 x.1.2.2.1, .int .i64 x.1.2.2.2.1.1, .int .i64 x.1.2.2.2.1.2.1, .int .i64 x.1.2.2.2.1.2.2, .slice .ro 2 x.1.2.2.2.2.1.length (gl e_api_Label x.1.2.2.2.2.1), .str x.1.2.2.2.2.2.1, .str x.1.2.2.2.2.2.2.1, .int .i64 x.1.2.2.2.2.2.2.2, .int .i64 x.2.1, .str x.2.2.1, .int .i64 x.2.2.2]
def k_api_Job : Codec (T_api_Job) := aggC (pairC k_api_Task (pairC k_i64 (pairC k_str k_i64)))
def e_sl_api_Job (x : List (T_api_Job)) : List D := [.slice .ro 13 x.length (gl e_api_Job x)]
def k_sl_api_Job : Codec (List (T_api_Job)) := sliceC k_api_Job
end Go.Abs

/- Layer 1: numbers and texts as bytes. -/
namespace Go.Abs
open Go

/-- How many bits a number has. -/
def blen (n : Nat) : Nat := if n = 0 then 0 else n.log2 + 1
/-- How many bytes a number has. -/
def nb (n : Nat) : Nat := (blen n + 7) / 8
/-- The k lowest bytes, the greatest first. -/
def be : Nat → Nat → List UInt8
  | 0, _ => []
  | k + 1, n => be k (n / 256) ++ [UInt8.ofNat n]
def num (n : Nat) : ByteArray := ⟨(UInt8.ofNat (nb n) :: be (nb n) n).toArray⟩
/-- The number that k bytes from i on are. -/
def val (b : ByteArray) (i : Nat) : Nat → Int
  | 0 => 0
  | k + 1 => val b i k * 256 + bAtN b (i + k)

def U64 (n : Int) : Prop := 0 ≤ n ∧ n ≤ 18446744073709551615

def len64_pre (a : Int) : Prop := U64 a
def len64 (a : Int) : Int := (blen a.toNat : Int)
def own_pre (a : ByteArray) : Prop := a.size ≤ 536870912
def ownB (a : ByteArray) : ByteArray := a
def put_pre (a : ByteArray × Int) : Prop := a.1.size ≤ 536870912 ∧ U64 a.2
def putB (a : ByteArray × Int) : ByteArray := a.1 ++ num a.2.toNat
def putText_pre (a : ByteArray × ByteArray) : Prop := a.1.size ≤ 268435456 ∧ a.2.size ≤ 268435456
def putText (a : ByteArray × ByteArray) : ByteArray := a.1 ++ num a.2.size ++ a.2
def num_pre (a : Int) : Prop := U64 a
def numS (a : Int) : ByteArray := num a.toNat
def text_pre (a : ByteArray) : Prop := a.size ≤ 268435456
def textS (a : ByteArray) : ByteArray := num a.size ++ a
def take_pre (a : ByteArray × Int) : Prop := a.1.size ≤ 536870912
def takeN (a : ByteArray × Int) : Int × Int × Int :=
  if a.2 < 0 ∨ (a.1.size : Int) < a.2 then (0, 0, 1) else
  if a.2 = (a.1.size : Int) then (0, 0, 2) else
  if 8 < bAt a.1 a.2 then (0, 0, 3) else
  if (a.1.size : Int) - a.2 - 1 < bAt a.1 a.2 then (0, 0, 2) else
  if 0 < bAt a.1 a.2 ∧ bAt a.1 (a.2 + 1) = 0 then (0, 0, 3) else
  (val a.1 (a.2.toNat + 1) (bAt a.1 a.2).toNat, a.2 + 1 + bAt a.1 a.2, 0)
def takeText_pre (a : ByteArray × Int × Int) : Prop := a.1.size ≤ 536870912 ∧ a.2.2 ≤ 9223372036854775807
def takeText (a : ByteArray × Int × Int) : ByteArray × Int × Int :=
  if a.2.2 < 0 then (ByteArray.empty, 0, 1) else
  if (takeN (a.1, a.2.1)).2.2 ≠ 0 then (ByteArray.empty, 0, (takeN (a.1, a.2.1)).2.2) else
  if a.2.2 < (takeN (a.1, a.2.1)).1 then (ByteArray.empty, 0, 4) else
  if (a.1.size : Int) - (takeN (a.1, a.2.1)).2.1 < (takeN (a.1, a.2.1)).1 then (ByteArray.empty, 0, 2) else
  (subB a.1 (takeN (a.1, a.2.1)).2.1 ((takeN (a.1, a.2.1)).2.1 + (takeN (a.1, a.2.1)).1), (takeN (a.1, a.2.1)).2.1 + (takeN (a.1, a.2.1)).1, 0)

end Go.Abs

/- Signs in texts. -/
namespace Go.Abs
open Go

/-- Each byte is a sign of its own. -/
def Ascii (s : ByteArray) : Prop := ∀ x ∈ s.data.toList, x.toNat < 128
/-- The signs that may stand in a name: a-z, 0-9, and '-'. -/
def ltr (x : UInt8) : Bool := (97 ≤ x && x ≤ 122) || (48 ≤ x && x ≤ 57) || x == 45
def sgn (r : Int) : Bool := (0 ≤ r && r < 128) && ltr r.toNat.toUInt8

def rune_pre (a : ByteArray × Int) : Prop := Ascii a.1 ∧ a.1.size ≤ 1073741824 ∧ 0 ≤ a.2 ∧ a.2 ≤ 1114111
/-- strings.IndexRune in a text of such bytes. -/
def ixRune (a : ByteArray × Int) : Int := if 0 ≤ a.2 ∧ a.2 < 128 then ixB a else -1
def hasRune (a : ByteArray × Int) : Bool := decide (0 ≤ ixRune a)
def odd_pre (r : Int) : Prop := 0 ≤ r ∧ r ≤ 1114111
def oddR (r : Int) : Bool := !sgn r
def text_pre30 (s : ByteArray) : Prop := s.size ≤ 1073741824
/-- The place of the first sign that can't stand in a name. -/
def ixOdd (l : List UInt8) : Int := match l.findIdx? (fun x => !ltr x) with
  | some i => i
  | none => -1
def indexOdd (a : ByteArray × Bool) : Int := ixOdd a.1.data.toList
def indexOddT (s : ByteArray) : Int := ixOdd s.data.toList
def hasOdd (s : ByteArray) : Bool := decide (0 ≤ ixOdd s.data.toList)
def ixOdd_pre (a : ByteArray × Bool) : Prop := a.1.size ≤ 1073741824 ∧ a.2 = true
end Go.Abs

-- internal/bytealg.IndexByteString
namespace Go.Abs
open Go
def f79.args (a : ByteArray × Int) : List D := [.str a.1, .int .u8 a.2]
def f79.blks (a : ByteArray × Int) : List (List D) := []
def f79.res (a : ByteArray × Int) : List D := [.int .i64 (ixB a)]
def f79.blks' (a : ByteArray × Int) : List (List D) := []
def f79.C : Contract := FnC f79.args f79.blks (fun _ => True) f79.res f79.blks'
end Go.Abs

-- internal/stringslite.IndexByte
namespace Go.Abs
open Go
def f78.args (a : ByteArray × Int) : List D := [.str a.1, .int .u8 a.2]
def f78.blks (a : ByteArray × Int) : List (List D) := []
def f78.res (a : ByteArray × Int) : List D := [.int .i64 (ixB a)]
def f78.blks' (a : ByteArray × Int) : List (List D) := []
def f78.C : Contract := FnC f78.args f78.blks (fun _ => True) f78.res f78.blks'
end Go.Abs

/- internal/stringslite.IndexByte -/
namespace Go.Abs
open Go
set_option linter.unusedVariables false
def f78.kills (a : ByteArray × Int) : List Hint := []
def f78.cuts (a : ByteArray × Int) : List (Nat × Σ β : Type, β → Tm) := []
def f78.af (a : ByteArray × Int) : AF := AF.mk (.seq (.region [⟨(some 4), 0, .move, [.c (.int .i64 (0))], none⟩])
 (.seq (.region [⟨(some 5), 1, .move, [.t 0], none⟩,
  ⟨(some 6), 2, .move, [.t 1], none⟩,
  ⟨(some 7), 3, (.call false 79), [.t 5, .t 6], none⟩,
  ⟨(some 4), 7, .move, [.t 7], none⟩])
 (.ret)))
  [.tmp 4] 0 6
def f78.env : Env := [(79, f79.C)]
def f78.tree (a : ByteArray × Int) : Prop := ∃ c1 : ByteArray × Int, (a.1 = c1.1) ∧ (a.2 = c1.2) ∧ True ∧ ((ixB c1) = (ixB a)) ∧ True
def f78.vc (a : ByteArray × Int) : Prop := ((ixB (a.1, a.2)) = ixB a)
set_option maxRecDepth 100000 in
set_option maxHeartbeats 2000000 in
theorem f78.of (a : ByteArray × Int) (h : f78.vc a) : f78.tree a := ⟨(a.1, a.2), ⟨rfl, ⟨rfl, ⟨trivial, ⟨h, trivial⟩⟩⟩⟩⟩
theorem f78.eq (a : ByteArray × Int) : (f78.af a).gives f78.env (f78.args a) (f78.blks a) (f78.res a) (f78.blks' a) = f78.tree a := by kernel_rfl
end Go.Abs

-- strings.IndexByte
namespace Go.Abs
open Go
def f74.args (a : ByteArray × Int) : List D := [.str a.1, .int .u8 a.2]
def f74.blks (a : ByteArray × Int) : List (List D) := []
def f74.res (a : ByteArray × Int) : List D := [.int .i64 (ixB a)]
def f74.blks' (a : ByteArray × Int) : List (List D) := []
def f74.C : Contract := FnC f74.args f74.blks (fun _ => True) f74.res f74.blks'
end Go.Abs

/- strings.IndexByte -/
namespace Go.Abs
open Go
set_option linter.unusedVariables false
def f74.kills (a : ByteArray × Int) : List Hint := []
def f74.cuts (a : ByteArray × Int) : List (Nat × Σ β : Type, β → Tm) := []
def f74.af (a : ByteArray × Int) : AF := AF.mk (.seq (.region [⟨(some 4), 0, .move, [.c (.int .i64 (0))], none⟩])
 (.seq (.region [⟨(some 5), 1, .move, [.t 0], none⟩,
  ⟨(some 6), 2, .move, [.t 1], none⟩,
  ⟨(some 7), 3, (.call false 78), [.t 5, .t 6], none⟩,
  ⟨(some 4), 7, .move, [.t 7], none⟩])
 (.ret)))
  [.tmp 4] 0 6
def f74.env : Env := [(78, f78.C)]
def f74.tree (a : ByteArray × Int) : Prop := ∃ c1 : ByteArray × Int, (a.1 = c1.1) ∧ (a.2 = c1.2) ∧ True ∧ ((ixB c1) = (ixB a)) ∧ True
def f74.vc (a : ByteArray × Int) : Prop := ((ixB (a.1, a.2)) = ixB a)
set_option maxRecDepth 100000 in
set_option maxHeartbeats 2000000 in
theorem f74.of (a : ByteArray × Int) (h : f74.vc a) : f74.tree a := ⟨(a.1, a.2), ⟨rfl, ⟨rfl, ⟨trivial, ⟨h, trivial⟩⟩⟩⟩⟩
theorem f74.eq (a : ByteArray × Int) : (f74.af a).gives f74.env (f74.args a) (f74.blks a) (f74.res a) (f74.blks' a) = f74.tree a := by kernel_rfl
end Go.Abs

-- unicode/utf8.ValidRune
namespace Go.Abs
open Go
def f75.args (a : Int) : List D := [.int .i32 a]
def f75.blks (a : Int) : List (List D) := []
def f75.res (a : Int) : List D := [.bool ((fun r : Int => decide (0 ≤ r ∧ r < 55296 ∨ 57343 < r ∧ r ≤ 1114111)) a)]
def f75.blks' (a : Int) : List (List D) := []
def f75.C : Contract := FnC f75.args f75.blks (fun _ => True) f75.res f75.blks'
end Go.Abs

/- unicode/utf8.ValidRune -/
namespace Go.Abs
open Go
set_option linter.unusedVariables false
def f75.kills (a : Int) : List Hint := []
def f75.cuts (a : Int) : List (Nat × Σ β : Type, β → Tm) := []
def f75.af (a : Int) : AF := AF.mk (.seq (.region [⟨(some 2), 0, .move, [.c (.bool false)], none⟩])
 (.seq (.block 0 (.seq (.region [⟨(some 4), 1, .move, [.t 0], none⟩,
  ⟨(some 5), 2, (.bin .leq), [.c (.int .i32 (0)), .t 4], none⟩,
  ⟨(some 6), 3, .move, [.t 5], none⟩,
  ⟨(some 7), 4, .move, [.t 0], (some (6, true))⟩,
  ⟨(some 8), 5, (.bin .lss), [.t 7, .c (.int .i32 (55296))], (some (6, true))⟩,
  ⟨(some 9), 6, .pick, [.t 6, .t 8, .c (.bool false)], none⟩,
  ⟨(some 3), 7, .move, [.t 9], none⟩])
 (.cond (.t 3) (.seq (.region [⟨(some 2), 8, .move, [.c (.bool true)], none⟩])
 (.ret)) (.seq (.region [⟨(some 11), 9, .move, [.t 0], none⟩,
  ⟨(some 12), 10, (.bin .lss), [.c (.int .i32 (57343)), .t 11], none⟩,
  ⟨(some 13), 11, .move, [.t 12], none⟩,
  ⟨(some 14), 12, .move, [.t 0], (some (13, true))⟩,
  ⟨(some 15), 13, (.bin .leq), [.t 14, .c (.int .i32 (1114111))], (some (13, true))⟩,
  ⟨(some 16), 14, .pick, [.t 13, .t 15, .c (.bool false)], none⟩,
  ⟨(some 10), 15, .move, [.t 16], none⟩])
 (.cond (.t 10) (.seq (.region [⟨(some 2), 16, .move, [.c (.bool true)], none⟩])
 (.ret)) (.skip))))))
 (.seq (.region [⟨(some 2), 17, .move, [.c (.bool false)], none⟩])
 (.ret))))
  [.tmp 2] 0 16
def f75.env : Env := []
def f75.tree (a : Int) : Prop := Br (decide ((0 : Int) ≤ a)) (Br (decide (a < (55296 : Int))) ((true = ((fun r : Int => decide (0 ≤ r ∧ r < 55296 ∨ 57343 < r ∧ r ≤ 1114111)) a)) ∧ True) (Br (decide ((57343 : Int) < a)) (Br (decide (a ≤ (1114111 : Int))) ((true = ((fun r : Int => decide (0 ≤ r ∧ r < 55296 ∨ 57343 < r ∧ r ≤ 1114111)) a)) ∧ True) ((false = ((fun r : Int => decide (0 ≤ r ∧ r < 55296 ∨ 57343 < r ∧ r ≤ 1114111)) a)) ∧ True)) ((false = ((fun r : Int => decide (0 ≤ r ∧ r < 55296 ∨ 57343 < r ∧ r ≤ 1114111)) a)) ∧ True))) (Br (decide ((57343 : Int) < a)) (Br (decide (a ≤ (1114111 : Int))) ((true = ((fun r : Int => decide (0 ≤ r ∧ r < 55296 ∨ 57343 < r ∧ r ≤ 1114111)) a)) ∧ True) ((false = ((fun r : Int => decide (0 ≤ r ∧ r < 55296 ∨ 57343 < r ∧ r ≤ 1114111)) a)) ∧ True)) ((false = ((fun r : Int => decide (0 ≤ r ∧ r < 55296 ∨ 57343 < r ∧ r ≤ 1114111)) a)) ∧ True))
def f75.vc (a : Int) : Prop := (((0 : Int) ≤ a → ((a < (55296 : Int) → (true = (fun r : Int => decide (0 ≤ r ∧ r < 55296 ∨ 57343 < r ∧ r ≤ 1114111)) a)) ∧ (¬ (a < (55296 : Int)) → (((57343 : Int) < a → ((a ≤ (1114111 : Int) → (true = (fun r : Int => decide (0 ≤ r ∧ r < 55296 ∨ 57343 < r ∧ r ≤ 1114111)) a)) ∧ (¬ (a ≤ (1114111 : Int)) → (false = (fun r : Int => decide (0 ≤ r ∧ r < 55296 ∨ 57343 < r ∧ r ≤ 1114111)) a)))) ∧ (¬ ((57343 : Int) < a) → (false = (fun r : Int => decide (0 ≤ r ∧ r < 55296 ∨ 57343 < r ∧ r ≤ 1114111)) a)))))) ∧ (¬ ((0 : Int) ≤ a) → (((57343 : Int) < a → ((a ≤ (1114111 : Int) → (true = (fun r : Int => decide (0 ≤ r ∧ r < 55296 ∨ 57343 < r ∧ r ≤ 1114111)) a)) ∧ (¬ (a ≤ (1114111 : Int)) → (false = (fun r : Int => decide (0 ≤ r ∧ r < 55296 ∨ 57343 < r ∧ r ≤ 1114111)) a)))) ∧ (¬ ((57343 : Int) < a) → (false = (fun r : Int => decide (0 ≤ r ∧ r < 55296 ∨ 57343 < r ∧ r ≤ 1114111)) a)))))
set_option maxRecDepth 100000 in
set_option maxHeartbeats 2000000 in
theorem f75.of (a : Int) (h : f75.vc a) : f75.tree a := br h Cnd.dec (fun h1 k30 => br k30 Cnd.dec (fun h3 k17 => ⟨k17, trivial⟩) (fun h4 k18 => br k18 Cnd.dec (fun h6 k15 => br k15 Cnd.dec (fun h8 k12 => ⟨k12, trivial⟩) (fun h9 k13 => ⟨k13, trivial⟩)) (fun h7 k16 => ⟨k16, trivial⟩))) (fun h2 k31 => br k31 Cnd.dec (fun h19 k28 => br k28 Cnd.dec (fun h21 k25 => ⟨k25, trivial⟩) (fun h22 k26 => ⟨k26, trivial⟩)) (fun h20 k29 => ⟨k29, trivial⟩))
theorem f75.eq (a : Int) : (f75.af a).gives f75.env (f75.args a) (f75.blks a) (f75.res a) (f75.blks' a) = f75.tree a := by kernel_rfl
end Go.Abs

-- strings.IndexRune
namespace Go.Abs
open Go
def f73.args (a : ByteArray × Int) : List D := [.str a.1, .int .i32 a.2]
def f73.blks (a : ByteArray × Int) : List (List D) := []
def f73.res (a : ByteArray × Int) : List D := [.int .i64 (ixRune a)]
def f73.blks' (a : ByteArray × Int) : List (List D) := []
def f73.C : Contract := FnC f73.args f73.blks (fun a => rune_pre a) f73.res f73.blks'
end Go.Abs

/- strings.IndexRune -/
namespace Go.Abs
open Go
set_option linter.unusedVariables false
def f73.kills (a : ByteArray × Int) : List Hint := [.tell Int (fun x => ⟨[.dead, .dead, .dead, .dead, .dead, .dead, .dead, .dead, .dead, .dead, .dead, .dead, .dead, .dead, .dead, .dead, .dead, .dead, .dead, .dead, .dead, .dead, .dead, .dead, .dead, .dead, .dead, .dead, .dead, .dead, .dead, .dead, .dead, .dead, .dead, .dead, .dead, .dead, .dead, .dead, .dead, .dead, .dead, .dead, .dead, .dead, .dead, .dead, .dead, .dead, .dead, .dead, .dead, .dead, .dead, .dead, .dead, .dead, .dead, .dead, .dead, .dead, .dead, .dead, .dead, .dead, .dead, .dead, .dead, .dead, .dead, .dead, .dead, .dead, .dead, .dead, .dead, .dead, .dead, .dead, .dead, .dead, .dead, .dead, .dead, .dead, .dead, .dead, .dead, .dead, .dead, .dead, .dead, .dead, .dead, .dead, .dead, .dead, .dead, .dead, .dead, .dead, .dead, .dead, .dead, .dead, .dead, .dead, .dead, .dead, .dead, .dead, .dead, .dead, .dead, .dead, .dead, .dead, .dead, .dead, .dead, .dead, .dead, .dead, .dead, .dead, .dead, .dead, .dead, .dead, .dead, .dead, .dead, .dead, .dead, .dead, .dead, .dead, .dead, .dead, .dead, .dead, .dead, .dead, .dead, .dead, .dead, .dead, .dead, .dead, .dead, .dead, .dead, .dead, .dead, .dead, .dead, .dead, .dead, .dead, .dead, .dead, .dead, .dead, .dead, .dead, .dead, .dead, .dead, .dead, .dead, .dead, .dead, .dead, .dead, .ptr 20 0, .dead, .dead, .dead, .dead, .dead, .dead, .dead, .dead, .dead, .dead, .dead], [(20, false, [.dead, .str a.1, .int .i64 x])], []⟩),
  .unroll 1 [1, 2, 3, 4, 5, 6, 10, 11, 12, 13, 14, 15, 16, 17, 18, 19, 20, 21, 22, 23, 24, 25, 26, 27, 28, 29, 30, 31, 32, 33, 34, 35, 36, 37, 38, 39, 40, 41, 42, 43, 44, 45, 46, 47, 48, 49, 50, 51, 52, 53, 54, 55, 56, 57, 58, 59, 60, 61, 62, 63, 64, 65, 66, 67, 68, 69, 70, 71, 72, 73, 74, 75, 76, 77, 78, 79, 80, 81, 82, 83, 84, 85, 86, 87, 88, 89, 90, 91, 92, 93, 94, 95, 96, 97, 98, 99, 100, 101, 102, 103, 104, 105, 106, 107, 108, 109, 110, 111, 112, 113, 114, 115, 116, 117, 118, 119, 120, 121, 122, 123, 124, 125, 126, 127, 128, 129, 130, 131, 132, 133, 134, 135, 136, 137, 138, 139, 140, 141, 142, 143, 144, 145, 146, 147, 148, 149, 150, 151, 152, 153, 154, 155, 156, 157, 158, 159, 160, 161, 162, 163, 164, 165, 166, 167, 168, 169, 170, 171, 172, 173, 174, 175, 176, 177, 178, 179, 180, 181, 182, 183, 184, 185, 186] [] [],
  .unroll 0 [] [] [],
  .unroll 0 [] [] [],
  .unroll 0 [] [] []]
def f73.cuts (a : ByteArray × Int) : List (Nat × Σ β : Type, β → Tm) := [(21, ⟨Unit, fun x => ⟨[], [], []⟩⟩)]
def f73.af (a : ByteArray × Int) : AF := AF.mk (.seq (.region [⟨(some 4), 0, .move, [.c (.int .i64 (0))], none⟩])
 (.block 0 (.seq (.region [⟨(some 161), 1, .move, [.t 1], none⟩,
  ⟨(some 162), 2, (.bin .leq), [.c (.int .i32 (0)), .t 161], none⟩,
  ⟨(some 163), 3, .move, [.t 162], none⟩,
  ⟨(some 164), 4, .move, [.t 1], (some (163, true))⟩,
  ⟨(some 165), 5, (.bin .lss), [.t 164, .c (.int .i32 (128))], (some (163, true))⟩,
  ⟨(some 166), 6, .pick, [.t 163, .t 165, .c (.bool false)], none⟩,
  ⟨(some 160), 7, .move, [.t 166], none⟩])
 (.cond (.t 160) (.seq (.region [⟨(some 167), 8, .move, [.t 0], none⟩,
  ⟨(some 168), 9, .move, [.t 1], none⟩,
  ⟨(some 169), 10, (.conv (.int .u8)), [.t 168], none⟩,
  ⟨(some 170), 11, (.call false 74), [.t 167, .t 169], none⟩,
  ⟨(some 4), 15, .move, [.t 170], none⟩])
 (.ret)) (.seq (.region [⟨(some 172), 16, .move, [.t 1], none⟩,
  ⟨(some 173), 17, (.bin .eql), [.t 172, .c (.int .i32 (65533))], none⟩,
  ⟨(some 171), 18, .move, [.t 173], none⟩])
 (.cond (.t 171) (.seq (.seq (.region [⟨(some 174), 19, .move, [.t 0], none⟩,
  ⟨(some 175), 20, .iterStr, [.t 174], none⟩])
 (.block 9 (.loopT Int (fun x => ⟨[.dead, .dead, .dead, .dead, .dead, .dead, .dead, .dead, .dead, .dead, .dead, .dead, .dead, .dead, .dead, .dead, .dead, .dead, .dead, .dead, .dead, .dead, .dead, .dead, .dead, .dead, .dead, .dead, .dead, .dead, .dead, .dead, .dead, .dead, .dead, .dead, .dead, .dead, .dead, .dead, .dead, .dead, .dead, .dead, .dead, .dead, .dead, .dead, .dead, .dead, .dead, .dead, .dead, .dead, .dead, .dead, .dead, .dead, .dead, .dead, .dead, .dead, .dead, .dead, .dead, .dead, .dead, .dead, .dead, .dead, .dead, .dead, .dead, .dead, .dead, .dead, .dead, .dead, .dead, .dead, .dead, .dead, .dead, .dead, .dead, .dead, .dead, .dead, .dead, .dead, .dead, .dead, .dead, .dead, .dead, .dead, .dead, .dead, .dead, .dead, .dead, .dead, .dead, .dead, .dead, .dead, .dead, .dead, .dead, .dead, .dead, .dead, .dead, .dead, .dead, .dead, .dead, .dead, .dead, .dead, .dead, .dead, .dead, .dead, .dead, .dead, .dead, .dead, .dead, .dead, .dead, .dead, .dead, .dead, .dead, .dead, .dead, .dead, .dead, .dead, .dead, .dead, .dead, .dead, .dead, .dead, .dead, .dead, .dead, .dead, .dead, .dead, .dead, .dead, .dead, .dead, .dead, .dead, .dead, .dead, .dead, .dead, .dead, .dead, .dead, .dead, .dead, .dead, .dead, .dead, .dead, .dead, .dead, .dead, .dead, .ptr 20 0, .dead, .dead, .dead, .dead, .dead, .dead, .dead, .dead, .dead, .dead, .dead], [(20, false, [.dead, .str a.1, .int .i64 x])], []⟩) 21 31 (.seq (.region [⟨(some 176), 21, .nextStr, [.t 175], none⟩,
  ⟨(some 177), 22, (.extract 0), [.t 176], none⟩])
 (.seq (.cond (.t 177) (.skip) (.exit 9))
 (.block 10 (.seq (.region [⟨(some 178), 23, (.extract 1), [.t 176], none⟩,
  ⟨(some 179), 24, (.extract 2), [.t 176], none⟩,
  ⟨(some 5), 25, .move, [.t 178], none⟩,
  ⟨(some 6), 26, .move, [.t 179], none⟩])
 (.seq (.region [⟨(some 180), 27, .move, [.t 6], none⟩,
  ⟨(some 181), 28, (.bin .eql), [.t 180, .c (.int .i32 (65533))], none⟩])
 (.cond (.t 181) (.seq (.region [⟨(some 182), 29, .move, [.t 5], none⟩,
  ⟨(some 4), 30, .move, [.t 182], none⟩])
 (.ret)) (.skip))))))))))
 (.seq (.region [⟨(some 4), 31, .move, [.c (.int .i64 (-1))], none⟩])
 (.ret))) (.seq (.region [⟨(some 184), 32, .move, [.t 1], none⟩,
  ⟨(some 185), 33, (.call false 75), [.t 184], none⟩,
  ⟨(some 186), 37, (.un .not), [.t 185], none⟩,
  ⟨(some 183), 38, .move, [.t 186], none⟩])
 (.cond (.t 183) (.seq (.region [⟨(some 4), 39, .move, [.c (.int .i64 (-1))], none⟩])
 (.ret)) (.seq (.region [⟨(some 17), 40, .move, [.t 1], none⟩,
  ⟨(some 18), 41, (.conv .r2s), [.t 17], none⟩,
  ⟨(some 7), 42, .move, [.t 18], none⟩])
 (.seq (.region [⟨(some 19), 43, .move, [.t 7], none⟩,
  ⟨(some 20), 44, (.len true), [.t 19], none⟩,
  ⟨(some 21), 45, (.bin .sub), [.t 20, .c (.int .i64 (1))], none⟩,
  ⟨(some 8), 46, .move, [.t 21], none⟩])
 (.seq (.region [⟨(some 22), 47, .move, [.t 8], none⟩,
  ⟨(some 9), 48, .move, [.t 22], none⟩])
 (.seq (.region [⟨(some 10), 49, .move, [.c (.int .i64 (0))], none⟩])
 (.seq (.block 1 (.loop 1 [1, 2, 3, 4, 5, 6, 10, 11, 12, 13, 14, 15, 16, 17, 18, 19, 20, 21, 22, 23, 24, 25, 26, 27, 28, 29, 30, 31, 32, 33, 34, 35, 36, 37, 38, 39, 40, 41, 42, 43, 44, 45, 46, 47, 48, 49, 50, 51, 52, 53, 54, 55, 56, 57, 58, 59, 60, 61, 62, 63, 64, 65, 66, 67, 68, 69, 70, 71, 72, 73, 74, 75, 76, 77, 78, 79, 80, 81, 82, 83, 84, 85, 86, 87, 88, 89, 90, 91, 92, 93, 94, 95, 96, 97, 98, 99, 100, 101, 102, 103, 104, 105, 106, 107, 108, 109, 110, 111, 112, 113, 114, 115, 116, 117, 118, 119, 120, 121, 122, 123, 124, 125, 126, 127, 128, 129, 130, 131, 132, 133, 134, 135, 136, 137, 138, 139, 140, 141, 142, 143, 144, 145, 146, 147, 148, 149, 150, 151, 152, 153, 154, 155, 156, 157, 158, 159, 160, 161, 162, 163, 164, 165, 166, 167, 168, 169, 170, 171, 172, 173, 174, 175, 176, 177, 178, 179, 180, 181, 182, 183, 184, 185, 186] [] [] 50 140 (.seq (.seq (.region [⟨(some 23), 50, .move, [.t 9], none⟩,
  ⟨(some 24), 51, .move, [.t 0], none⟩,
  ⟨(some 25), 52, (.len true), [.t 24], none⟩,
  ⟨(some 26), 53, (.bin .lss), [.t 23, .t 25], none⟩])
 (.cond (.t 26) (.skip) (.exit 1)))
 (.block 2 (.seq (.seq (.region [⟨(some 27), 54, .move, [.t 0], none⟩,
  ⟨(some 28), 55, .move, [.t 9], none⟩,
  ⟨(some 29), 56, .indexStr, [.t 27, .t 28], none⟩,
  ⟨(some 30), 57, .move, [.t 7], none⟩,
  ⟨(some 31), 58, .move, [.t 8], none⟩,
  ⟨(some 32), 59, .indexStr, [.t 30, .t 31], none⟩,
  ⟨(some 33), 60, (.bin .neq), [.t 29, .t 32], none⟩])
 (.cond (.t 33) (.seq (.region [⟨(some 34), 61, .move, [.t 0], none⟩,
  ⟨(some 35), 62, .move, [.t 9], none⟩,
  ⟨(some 36), 63, (.bin .add), [.t 35, .c (.int .i64 (1))], none⟩,
  ⟨(some 37), 64, (.sliceStr true false), [.t 34, .t 36], none⟩,
  ⟨(some 38), 65, .move, [.t 7], none⟩,
  ⟨(some 39), 66, .move, [.t 8], none⟩,
  ⟨(some 40), 67, .indexStr, [.t 38, .t 39], none⟩,
  ⟨(some 41), 68, (.call false 74), [.t 37, .t 40], none⟩,
  ⟨(some 11), 72, .move, [.t 41], none⟩])
 (.seq (.seq (.region [⟨(some 42), 73, .move, [.t 11], none⟩,
  ⟨(some 43), 74, (.bin .lss), [.t 42, .c (.int .i64 (0))], none⟩])
 (.cond (.t 43) (.seq (.region [⟨(some 4), 75, .move, [.c (.int .i64 (-1))], none⟩])
 (.ret)) (.skip)))
 (.region [⟨(some 44), 76, .move, [.t 9], none⟩,
  ⟨(some 45), 77, .move, [.t 11], none⟩,
  ⟨(some 46), 78, (.bin .add), [.t 45, .c (.int .i64 (1))], none⟩,
  ⟨(some 47), 79, (.bin .add), [.t 44, .t 46], none⟩,
  ⟨(some 9), 80, .move, [.t 47], none⟩]))) (.skip)))
 (.seq (.cut Unit (fun x => ⟨[], [], []⟩)) (.seq (.seq (.region [⟨(some 12), 81, .move, [.c (.int .i64 (1))], none⟩])
 (.block 3 (.loop 0 [] [] [] 82 100 (.seq (.seq (.region [⟨(some 48), 82, .move, [.t 12], none⟩,
  ⟨(some 49), 83, .move, [.t 7], none⟩,
  ⟨(some 50), 84, (.len true), [.t 49], none⟩,
  ⟨(some 51), 85, (.bin .lss), [.t 48, .t 50], none⟩])
 (.cond (.t 51) (.skip) (.exit 3)))
 (.seq (.block 4 (.seq (.region [⟨(some 54), 86, .move, [.t 0], none⟩,
  ⟨(some 55), 87, .move, [.t 9], none⟩,
  ⟨(some 56), 88, .move, [.t 12], none⟩,
  ⟨(some 57), 89, (.bin .sub), [.t 55, .t 56], none⟩,
  ⟨(some 58), 90, .indexStr, [.t 54, .t 57], none⟩,
  ⟨(some 59), 91, .move, [.t 7], none⟩,
  ⟨(some 60), 92, .move, [.t 8], none⟩,
  ⟨(some 61), 93, .move, [.t 12], none⟩,
  ⟨(some 62), 94, (.bin .sub), [.t 60, .t 61], none⟩,
  ⟨(some 63), 95, .indexStr, [.t 59, .t 62], none⟩,
  ⟨(some 64), 96, (.bin .neq), [.t 58, .t 63], none⟩])
 (.cond (.t 64) (.stuck) (.skip))))
 (.region [⟨(some 52), 97, .move, [.t 12], none⟩,
  ⟨(some 53), 98, (.bin .add), [.t 52, .c (.int .i64 (1))], none⟩,
  ⟨(some 12), 99, .move, [.t 53], none⟩]))))))
 (.seq (.seq (.region [⟨(some 65), 100, .move, [.t 9], none⟩,
  ⟨(some 66), 101, .move, [.t 8], none⟩,
  ⟨(some 67), 102, (.bin .sub), [.t 65, .t 66], none⟩,
  ⟨(some 4), 103, .move, [.t 67], none⟩])
 (.ret))
 (.seq (.skip)
 (.seq (.region [⟨(some 68), 104, .move, [.t 10], none⟩,
  ⟨(some 69), 105, (.bin .add), [.t 68, .c (.int .i64 (1))], none⟩,
  ⟨(some 10), 106, .move, [.t 69], none⟩])
 (.seq (.region [⟨(some 70), 107, .move, [.t 9], none⟩,
  ⟨(some 71), 108, (.bin .add), [.t 70, .c (.int .i64 (1))], none⟩,
  ⟨(some 9), 109, .move, [.t 71], none⟩])
 (.seq (.region [⟨(some 72), 110, .move, [.c (.bool true)], none⟩,
  ⟨(some 73), 111, .move, [.t 10], (some (72, true))⟩,
  ⟨(some 74), 112, .move, [.t 9], (some (72, true))⟩,
  ⟨(some 75), 113, (.call false 76), [.t 74], (some (72, true))⟩,
  ⟨(some 76), 117, (.bin .gtr), [.t 73, .t 75], (some (72, true))⟩,
  ⟨(some 77), 118, .pick, [.t 72, .t 76, .c (.bool false)], none⟩,
  ⟨(some 78), 119, .move, [.t 77], none⟩,
  ⟨(some 79), 120, .move, [.t 9], (some (78, true))⟩,
  ⟨(some 80), 121, .move, [.t 0], (some (78, true))⟩,
  ⟨(some 81), 122, (.len true), [.t 80], (some (78, true))⟩,
  ⟨(some 82), 123, (.bin .lss), [.t 79, .t 81], (some (78, true))⟩,
  ⟨(some 83), 124, .pick, [.t 78, .t 82, .c (.bool false)], none⟩,
  ⟨(some 84), 125, .move, [.t 83], none⟩,
  ⟨(some 85), 126, .move, [.c (.bool false)], (some (84, false))⟩,
  ⟨(some 86), 127, .move, [.t 10], (some (85, true))⟩,
  ⟨(some 87), 128, .move, [.t 9], (some (85, true))⟩,
  ⟨(some 88), 129, (.bin .shr), [.t 87, .c (.int .u64 (4))], (some (85, true))⟩,
  ⟨(some 89), 130, (.bin .add), [.c (.int .i64 (4)), .t 88], (some (85, true))⟩,
  ⟨(some 90), 131, (.bin .geq), [.t 86, .t 89], (some (85, true))⟩,
  ⟨(some 91), 132, .pick, [.t 85, .t 90, .c (.bool false)], (some (84, false))⟩,
  ⟨(some 92), 133, .move, [.t 91], (some (84, false))⟩,
  ⟨(some 93), 134, .move, [.t 9], (some (92, true))⟩,
  ⟨(some 94), 135, .move, [.t 0], (some (92, true))⟩,
  ⟨(some 95), 136, (.len true), [.t 94], (some (92, true))⟩,
  ⟨(some 96), 137, (.bin .lss), [.t 93, .t 95], (some (92, true))⟩,
  ⟨(some 97), 138, .pick, [.t 92, .t 96, .c (.bool false)], (some (84, false))⟩,
  ⟨(some 98), 139, .pick, [.t 84, .c (.bool true), .t 97], none⟩])
 (.cond (.t 98) (.stuck) (.skip))))))))))))))
 (.seq (.seq (.region [⟨(some 4), 140, .move, [.c (.int .i64 (-1))], none⟩])
 (.ret))
 (.seq (.skip)
 (.seq (.cond (.c (.bool true)) (.seq (.region [⟨(some 99), 141, .move, [.t 0], none⟩,
  ⟨(some 100), 142, .move, [.t 9], none⟩,
  ⟨(some 101), 143, .move, [.t 8], none⟩,
  ⟨(some 102), 144, (.bin .sub), [.t 100, .t 101], none⟩,
  ⟨(some 103), 145, (.sliceStr true false), [.t 99, .t 102], none⟩,
  ⟨(some 104), 146, .move, [.t 1], none⟩,
  ⟨(some 105), 147, (.conv .r2s), [.t 104], none⟩,
  ⟨(some 106), 148, (.call false 77), [.t 103, .t 105], none⟩,
  ⟨(some 13), 152, .move, [.t 106], none⟩])
 (.seq (.region [⟨(some 107), 153, .move, [.t 13], none⟩,
  ⟨(some 108), 154, (.bin .geq), [.t 107, .c (.int .i64 (0))], none⟩])
 (.cond (.t 108) (.seq (.region [⟨(some 109), 155, .move, [.t 9], none⟩,
  ⟨(some 110), 156, .move, [.t 13], none⟩,
  ⟨(some 111), 157, (.bin .add), [.t 109, .t 110], none⟩,
  ⟨(some 112), 158, .move, [.t 8], none⟩,
  ⟨(some 113), 159, (.bin .sub), [.t 111, .t 112], none⟩,
  ⟨(some 4), 160, .move, [.t 113], none⟩])
 (.ret)) (.skip)))) (.seq (.region [⟨(some 114), 161, .move, [.t 7], none⟩,
  ⟨(some 115), 162, .move, [.t 8], none⟩,
  ⟨(some 116), 163, .indexStr, [.t 114, .t 115], none⟩,
  ⟨(some 14), 164, .move, [.t 116], none⟩])
 (.seq (.region [⟨(some 117), 165, .move, [.t 7], none⟩,
  ⟨(some 118), 166, .move, [.t 8], none⟩,
  ⟨(some 119), 167, (.bin .sub), [.t 118, .c (.int .i64 (1))], none⟩,
  ⟨(some 120), 168, .indexStr, [.t 117, .t 119], none⟩,
  ⟨(some 15), 169, .move, [.t 120], none⟩])
 (.seq (.skip)
 (.block 5 (.loop 0 [] [] [] 170 213 (.seq (.seq (.region [⟨(some 121), 170, .move, [.t 9], none⟩,
  ⟨(some 122), 171, .move, [.t 0], none⟩,
  ⟨(some 123), 172, (.len true), [.t 122], none⟩,
  ⟨(some 124), 173, (.bin .lss), [.t 121, .t 123], none⟩])
 (.cond (.t 124) (.skip) (.exit 5)))
 (.seq (.block 6 (.seq (.region [⟨(some 127), 174, .move, [.t 0], none⟩,
  ⟨(some 128), 175, .move, [.t 9], none⟩,
  ⟨(some 129), 176, .indexStr, [.t 127, .t 128], none⟩,
  ⟨(some 130), 177, .move, [.t 14], none⟩,
  ⟨(some 131), 178, (.bin .eql), [.t 129, .t 130], none⟩,
  ⟨(some 132), 179, .move, [.t 131], none⟩,
  ⟨(some 133), 180, .move, [.t 0], (some (132, true))⟩,
  ⟨(some 134), 181, .move, [.t 9], (some (132, true))⟩,
  ⟨(some 135), 182, (.bin .sub), [.t 134, .c (.int .i64 (1))], (some (132, true))⟩,
  ⟨(some 136), 183, .indexStr, [.t 133, .t 135], (some (132, true))⟩,
  ⟨(some 137), 184, .move, [.t 15], (some (132, true))⟩,
  ⟨(some 138), 185, (.bin .eql), [.t 136, .t 137], (some (132, true))⟩,
  ⟨(some 139), 186, .pick, [.t 132, .t 138, .c (.bool false)], none⟩])
 (.cond (.t 139) (.seq (.seq (.region [⟨(some 16), 187, .move, [.c (.int .i64 (2))], none⟩])
 (.block 7 (.loop 0 [] [] [] 188 206 (.seq (.seq (.region [⟨(some 140), 188, .move, [.t 16], none⟩,
  ⟨(some 141), 189, .move, [.t 7], none⟩,
  ⟨(some 142), 190, (.len true), [.t 141], none⟩,
  ⟨(some 143), 191, (.bin .lss), [.t 140, .t 142], none⟩])
 (.cond (.t 143) (.skip) (.exit 7)))
 (.seq (.block 8 (.seq (.region [⟨(some 146), 192, .move, [.t 0], none⟩,
  ⟨(some 147), 193, .move, [.t 9], none⟩,
  ⟨(some 148), 194, .move, [.t 16], none⟩,
  ⟨(some 149), 195, (.bin .sub), [.t 147, .t 148], none⟩,
  ⟨(some 150), 196, .indexStr, [.t 146, .t 149], none⟩,
  ⟨(some 151), 197, .move, [.t 7], none⟩,
  ⟨(some 152), 198, .move, [.t 8], none⟩,
  ⟨(some 153), 199, .move, [.t 16], none⟩,
  ⟨(some 154), 200, (.bin .sub), [.t 152, .t 153], none⟩,
  ⟨(some 155), 201, .indexStr, [.t 151, .t 154], none⟩,
  ⟨(some 156), 202, (.bin .neq), [.t 150, .t 155], none⟩])
 (.cond (.t 156) (.exit 6) (.skip))))
 (.region [⟨(some 144), 203, .move, [.t 16], none⟩,
  ⟨(some 145), 204, (.bin .add), [.t 144, .c (.int .i64 (1))], none⟩,
  ⟨(some 16), 205, .move, [.t 145], none⟩]))))))
 (.seq (.region [⟨(some 157), 206, .move, [.t 9], none⟩,
  ⟨(some 158), 207, .move, [.t 8], none⟩,
  ⟨(some 159), 208, (.bin .sub), [.t 157, .t 158], none⟩,
  ⟨(some 4), 209, .move, [.t 159], none⟩])
 (.ret))) (.skip))))
 (.region [⟨(some 125), 210, .move, [.t 9], none⟩,
  ⟨(some 126), 211, (.bin .add), [.t 125, .c (.int .i64 (1))], none⟩,
  ⟨(some 9), 212, .move, [.t 126], none⟩])))))))))
 (.seq (.region [⟨(some 4), 213, .move, [.c (.int .i64 (-1))], none⟩])
 (.ret))))))))))))))))))
  [.tmp 4] 0 185
def f73.env : Env := [(74, f74.C), (75, f75.C)]
def f73.tree (a : ByteArray × Int) : Prop := Br (decide ((0 : Int) ≤ a.2)) (Br (decide (a.2 < (128 : Int))) (∃ c5 : ByteArray × Int, (a.1 = c5.1) ∧ ((IntKind.u8.wrap a.2) = c5.2) ∧ True ∧ ((ixB c5) = (ixRune a)) ∧ True) (Br (a.2 == (65533 : Int)) (∃ (I11 : Int → Prop) (μ12 : Int → Nat), (∃ x10 : Int, (a.1 = a.1) ∧ ((0 : Int) = x10) ∧ I11 x10) ∧ ∀ y13 : Int, I11 y13 → (Br (decide ((0 : Int) ≤ y13) && decide (y13 < (a.1.size : Int))) (Br (((Utf8.decode a.1 (Int.toNat y13)).1 : Int) == (65533 : Int)) ((y13 = (ixRune a)) ∧ True) (∃ x19 : Int, (a.1 = a.1) ∧ ((y13 + ((Utf8.decode a.1 (Int.toNat y13)).2 : Int)) = x19) ∧ I11 x19 ∧ μ12 x19 < μ12 y13)) (((-1 : Int) = (ixRune a)) ∧ True))) (∃ c29 : Int, (a.2 = c29) ∧ True ∧ Br (!((fun r : Int => decide (0 ≤ r ∧ r < 55296 ∨ 57343 < r ∧ r ≤ 1114111)) c29)) (((-1 : Int) = (ixRune a)) ∧ True) (Let (IntKind.i64.wrap (((Utf8.encode a.2).size : Int) - (1 : Int))) (fun v33 : Int => Br (decide (v33 < (a.1.size : Int))) (Br (decide ((0 : Int) ≤ v33) && decide (v33 < (a.1.size : Int))) (Br (decide ((0 : Int) ≤ v33) && decide (v33 < ((Utf8.encode a.2).size : Int))) (Br ((bAt a.1 v33) != (bAt (Utf8.encode a.2) v33)) (Let (IntKind.i64.wrap (v33 + (1 : Int))) (fun v40 : Int => Br (decide ((0 : Int) ≤ v40) && decide (v40 ≤ (a.1.size : Int)) && decide ((a.1.size : Int) ≤ (a.1.size : Int))) (Br (decide ((0 : Int) ≤ v33) && decide (v33 < ((Utf8.encode a.2).size : Int))) (∃ c43 : ByteArray × Int, ((subB a.1 v40 (a.1.size : Int)) = c43.1) ∧ ((bAt (Utf8.encode a.2) v33) = c43.2) ∧ True ∧ Br (decide ((ixB c43) < (0 : Int))) (((-1 : Int) = (ixRune a)) ∧ True) (Let (IntKind.i64.wrap ((ixB c43) + (1 : Int))) (fun v47 : Int => Let (IntKind.i64.wrap (v33 + v47)) (fun v48 : Int => ∃ x : Unit, False)))) False) False)) (∃ x : Unit, False)) False) False) (((-1 : Int) = (ixRune a)) ∧ True)))))) (Br (a.2 == (65533 : Int)) (∃ (I83 : Int → Prop) (μ84 : Int → Nat), (∃ x82 : Int, (a.1 = a.1) ∧ ((0 : Int) = x82) ∧ I83 x82) ∧ ∀ y85 : Int, I83 y85 → (Br (decide ((0 : Int) ≤ y85) && decide (y85 < (a.1.size : Int))) (Br (((Utf8.decode a.1 (Int.toNat y85)).1 : Int) == (65533 : Int)) ((y85 = (ixRune a)) ∧ True) (∃ x91 : Int, (a.1 = a.1) ∧ ((y85 + ((Utf8.decode a.1 (Int.toNat y85)).2 : Int)) = x91) ∧ I83 x91 ∧ μ84 x91 < μ84 y85)) (((-1 : Int) = (ixRune a)) ∧ True))) (∃ c101 : Int, (a.2 = c101) ∧ True ∧ Br (!((fun r : Int => decide (0 ≤ r ∧ r < 55296 ∨ 57343 < r ∧ r ≤ 1114111)) c101)) (((-1 : Int) = (ixRune a)) ∧ True) (Let (IntKind.i64.wrap (((Utf8.encode a.2).size : Int) - (1 : Int))) (fun v105 : Int => Br (decide (v105 < (a.1.size : Int))) (Br (decide ((0 : Int) ≤ v105) && decide (v105 < (a.1.size : Int))) (Br (decide ((0 : Int) ≤ v105) && decide (v105 < ((Utf8.encode a.2).size : Int))) (Br ((bAt a.1 v105) != (bAt (Utf8.encode a.2) v105)) (Let (IntKind.i64.wrap (v105 + (1 : Int))) (fun v112 : Int => Br (decide ((0 : Int) ≤ v112) && decide (v112 ≤ (a.1.size : Int)) && decide ((a.1.size : Int) ≤ (a.1.size : Int))) (Br (decide ((0 : Int) ≤ v105) && decide (v105 < ((Utf8.encode a.2).size : Int))) (∃ c115 : ByteArray × Int, ((subB a.1 v112 (a.1.size : Int)) = c115.1) ∧ ((bAt (Utf8.encode a.2) v105) = c115.2) ∧ True ∧ Br (decide ((ixB c115) < (0 : Int))) (((-1 : Int) = (ixRune a)) ∧ True) (Let (IntKind.i64.wrap ((ixB c115) + (1 : Int))) (fun v119 : Int => Let (IntKind.i64.wrap (v105 + v119)) (fun v120 : Int => ∃ x : Unit, False)))) False) False)) (∃ x : Unit, False)) False) False) (((-1 : Int) = (ixRune a)) ∧ True)))))
def f73.vc (a : ByteArray × Int) : Prop := (((0 : Int) ≤ a.2 → ((a.2 < (128 : Int) → ((ixB (a.1, IntKind.u8.wrap a.2)) = ixRune a)) ∧ (¬ (a.2 < (128 : Int)) → ((a.2 = (65533 : Int) → (∃ (I11 : Int → Prop) (μ12 : Int → Nat), I11 (0 : Int) ∧ ∀ y13 : Int, I11 y13 → (((0 : Int) ≤ y13 ∧ y13 < (a.1.size : Int) → ((((Utf8.decode a.1 (Int.toNat y13)).1 : Int) = (65533 : Int) → (y13 = ixRune a)) ∧ (¬ (((Utf8.decode a.1 (Int.toNat y13)).1 : Int) = (65533 : Int)) → (I11 (y13 + ((Utf8.decode a.1 (Int.toNat y13)).2 : Int)) ∧ μ12 (y13 + ((Utf8.decode a.1 (Int.toNat y13)).2 : Int)) < μ12 y13)))) ∧ (¬ ((0 : Int) ≤ y13 ∧ y13 < (a.1.size : Int)) → ((-1 : Int) = ixRune a))))) ∧ (¬ (a.2 = (65533 : Int)) → ((¬ (((fun r : Int => decide (0 ≤ r ∧ r < 55296 ∨ 57343 < r ∧ r ≤ 1114111)) (a.2)) = true) → ((-1 : Int) = ixRune a)) ∧ (¬ (¬ (((fun r : Int => decide (0 ≤ r ∧ r < 55296 ∨ 57343 < r ∧ r ≤ 1114111)) (a.2)) = true)) → (-9223372036854775808 ≤ (((Utf8.encode a.2).size : Int) - (1 : Int)) ∧ (((Utf8.encode a.2).size : Int) - (1 : Int)) ≤ 9223372036854775807 ∧ (((((Utf8.encode a.2).size : Int) - (1 : Int)) < (a.1.size : Int) → ((0 : Int) ≤ (((Utf8.encode a.2).size : Int) - (1 : Int)) ∧ (((Utf8.encode a.2).size : Int) - (1 : Int)) < (a.1.size : Int) ∧ ((0 : Int) ≤ (((Utf8.encode a.2).size : Int) - (1 : Int)) ∧ (((Utf8.encode a.2).size : Int) - (1 : Int)) < ((Utf8.encode a.2).size : Int) ∧ ((¬ (bAt a.1 (((Utf8.encode a.2).size : Int) - (1 : Int))) = (bAt (Utf8.encode a.2) (((Utf8.encode a.2).size : Int) - (1 : Int))) → (-9223372036854775808 ≤ ((((Utf8.encode a.2).size : Int) - (1 : Int)) + (1 : Int)) ∧ ((((Utf8.encode a.2).size : Int) - (1 : Int)) + (1 : Int)) ≤ 9223372036854775807 ∧ ((0 : Int) ≤ ((((Utf8.encode a.2).size : Int) - (1 : Int)) + (1 : Int)) ∧ ((((Utf8.encode a.2).size : Int) - (1 : Int)) + (1 : Int)) ≤ (a.1.size : Int) ∧ ((0 : Int) ≤ (((Utf8.encode a.2).size : Int) - (1 : Int)) ∧ (((Utf8.encode a.2).size : Int) - (1 : Int)) < ((Utf8.encode a.2).size : Int) ∧ (((ixB (subB a.1 ((((Utf8.encode a.2).size : Int) - (1 : Int)) + (1 : Int)) (a.1.size : Int), bAt (Utf8.encode a.2) (((Utf8.encode a.2).size : Int) - (1 : Int)))) < (0 : Int) → ((-1 : Int) = ixRune a)) ∧ (¬ ((ixB (subB a.1 ((((Utf8.encode a.2).size : Int) - (1 : Int)) + (1 : Int)) (a.1.size : Int), bAt (Utf8.encode a.2) (((Utf8.encode a.2).size : Int) - (1 : Int)))) < (0 : Int)) → (-9223372036854775808 ≤ ((ixB (subB a.1 ((((Utf8.encode a.2).size : Int) - (1 : Int)) + (1 : Int)) (a.1.size : Int), bAt (Utf8.encode a.2) (((Utf8.encode a.2).size : Int) - (1 : Int)))) + (1 : Int)) ∧ ((ixB (subB a.1 ((((Utf8.encode a.2).size : Int) - (1 : Int)) + (1 : Int)) (a.1.size : Int), bAt (Utf8.encode a.2) (((Utf8.encode a.2).size : Int) - (1 : Int)))) + (1 : Int)) ≤ 9223372036854775807 ∧ (-9223372036854775808 ≤ ((((Utf8.encode a.2).size : Int) - (1 : Int)) + ((ixB (subB a.1 ((((Utf8.encode a.2).size : Int) - (1 : Int)) + (1 : Int)) (a.1.size : Int), bAt (Utf8.encode a.2) (((Utf8.encode a.2).size : Int) - (1 : Int)))) + (1 : Int))) ∧ ((((Utf8.encode a.2).size : Int) - (1 : Int)) + ((ixB (subB a.1 ((((Utf8.encode a.2).size : Int) - (1 : Int)) + (1 : Int)) (a.1.size : Int), bAt (Utf8.encode a.2) (((Utf8.encode a.2).size : Int) - (1 : Int)))) + (1 : Int))) ≤ 9223372036854775807 ∧ False)))))))) ∧ (¬ (¬ (bAt a.1 (((Utf8.encode a.2).size : Int) - (1 : Int))) = (bAt (Utf8.encode a.2) (((Utf8.encode a.2).size : Int) - (1 : Int)))) → False))))) ∧ (¬ ((((Utf8.encode a.2).size : Int) - (1 : Int)) < (a.1.size : Int)) → ((-1 : Int) = ixRune a))))))))))) ∧ (¬ ((0 : Int) ≤ a.2) → ((a.2 = (65533 : Int) → (∃ (I83 : Int → Prop) (μ84 : Int → Nat), I83 (0 : Int) ∧ ∀ y85 : Int, I83 y85 → (((0 : Int) ≤ y85 ∧ y85 < (a.1.size : Int) → ((((Utf8.decode a.1 (Int.toNat y85)).1 : Int) = (65533 : Int) → (y85 = ixRune a)) ∧ (¬ (((Utf8.decode a.1 (Int.toNat y85)).1 : Int) = (65533 : Int)) → (I83 (y85 + ((Utf8.decode a.1 (Int.toNat y85)).2 : Int)) ∧ μ84 (y85 + ((Utf8.decode a.1 (Int.toNat y85)).2 : Int)) < μ84 y85)))) ∧ (¬ ((0 : Int) ≤ y85 ∧ y85 < (a.1.size : Int)) → ((-1 : Int) = ixRune a))))) ∧ (¬ (a.2 = (65533 : Int)) → ((¬ (((fun r : Int => decide (0 ≤ r ∧ r < 55296 ∨ 57343 < r ∧ r ≤ 1114111)) (a.2)) = true) → ((-1 : Int) = ixRune a)) ∧ (¬ (¬ (((fun r : Int => decide (0 ≤ r ∧ r < 55296 ∨ 57343 < r ∧ r ≤ 1114111)) (a.2)) = true)) → (-9223372036854775808 ≤ (((Utf8.encode a.2).size : Int) - (1 : Int)) ∧ (((Utf8.encode a.2).size : Int) - (1 : Int)) ≤ 9223372036854775807 ∧ (((((Utf8.encode a.2).size : Int) - (1 : Int)) < (a.1.size : Int) → ((0 : Int) ≤ (((Utf8.encode a.2).size : Int) - (1 : Int)) ∧ (((Utf8.encode a.2).size : Int) - (1 : Int)) < (a.1.size : Int) ∧ ((0 : Int) ≤ (((Utf8.encode a.2).size : Int) - (1 : Int)) ∧ (((Utf8.encode a.2).size : Int) - (1 : Int)) < ((Utf8.encode a.2).size : Int) ∧ ((¬ (bAt a.1 (((Utf8.encode a.2).size : Int) - (1 : Int))) = (bAt (Utf8.encode a.2) (((Utf8.encode a.2).size : Int) - (1 : Int))) → (-9223372036854775808 ≤ ((((Utf8.encode a.2).size : Int) - (1 : Int)) + (1 : Int)) ∧ ((((Utf8.encode a.2).size : Int) - (1 : Int)) + (1 : Int)) ≤ 9223372036854775807 ∧ ((0 : Int) ≤ ((((Utf8.encode a.2).size : Int) - (1 : Int)) + (1 : Int)) ∧ ((((Utf8.encode a.2).size : Int) - (1 : Int)) + (1 : Int)) ≤ (a.1.size : Int) ∧ ((0 : Int) ≤ (((Utf8.encode a.2).size : Int) - (1 : Int)) ∧ (((Utf8.encode a.2).size : Int) - (1 : Int)) < ((Utf8.encode a.2).size : Int) ∧ (((ixB (subB a.1 ((((Utf8.encode a.2).size : Int) - (1 : Int)) + (1 : Int)) (a.1.size : Int), bAt (Utf8.encode a.2) (((Utf8.encode a.2).size : Int) - (1 : Int)))) < (0 : Int) → ((-1 : Int) = ixRune a)) ∧ (¬ ((ixB (subB a.1 ((((Utf8.encode a.2).size : Int) - (1 : Int)) + (1 : Int)) (a.1.size : Int), bAt (Utf8.encode a.2) (((Utf8.encode a.2).size : Int) - (1 : Int)))) < (0 : Int)) → (-9223372036854775808 ≤ ((ixB (subB a.1 ((((Utf8.encode a.2).size : Int) - (1 : Int)) + (1 : Int)) (a.1.size : Int), bAt (Utf8.encode a.2) (((Utf8.encode a.2).size : Int) - (1 : Int)))) + (1 : Int)) ∧ ((ixB (subB a.1 ((((Utf8.encode a.2).size : Int) - (1 : Int)) + (1 : Int)) (a.1.size : Int), bAt (Utf8.encode a.2) (((Utf8.encode a.2).size : Int) - (1 : Int)))) + (1 : Int)) ≤ 9223372036854775807 ∧ (-9223372036854775808 ≤ ((((Utf8.encode a.2).size : Int) - (1 : Int)) + ((ixB (subB a.1 ((((Utf8.encode a.2).size : Int) - (1 : Int)) + (1 : Int)) (a.1.size : Int), bAt (Utf8.encode a.2) (((Utf8.encode a.2).size : Int) - (1 : Int)))) + (1 : Int))) ∧ ((((Utf8.encode a.2).size : Int) - (1 : Int)) + ((ixB (subB a.1 ((((Utf8.encode a.2).size : Int) - (1 : Int)) + (1 : Int)) (a.1.size : Int), bAt (Utf8.encode a.2) (((Utf8.encode a.2).size : Int) - (1 : Int)))) + (1 : Int))) ≤ 9223372036854775807 ∧ False)))))))) ∧ (¬ (¬ (bAt a.1 (((Utf8.encode a.2).size : Int) - (1 : Int))) = (bAt (Utf8.encode a.2) (((Utf8.encode a.2).size : Int) - (1 : Int)))) → False))))) ∧ (¬ ((((Utf8.encode a.2).size : Int) - (1 : Int)) < (a.1.size : Int)) → ((-1 : Int) = ixRune a))))))))))
set_option maxRecDepth 100000 in
set_option maxHeartbeats 2000000 in
theorem f73.of (a : ByteArray × Int) (h : f73.vc a) : f73.tree a := br h Cnd.dec (fun h1 k150 => br k150 Cnd.dec (fun h3 k78 => ⟨(a.1, IntKind.u8.wrap a.2), ⟨rfl, ⟨rfl, ⟨trivial, ⟨k78, trivial⟩⟩⟩⟩⟩) (fun h4 k79 => br k79 Cnd.eq (fun h8 k76 => Exists.elim k76 (fun I11 h26_ => Exists.elim h26_ (fun μ12 h26 => ⟨I11, μ12, ⟨(0 : Int), ⟨rfl, ⟨rfl, h26.1⟩⟩⟩, fun y13 h28 => br (h26.2 y13 h28) Cnd.ix (fun h14 k24 => br k24 Cnd.eq (fun h16 k21 => ⟨k21, trivial⟩) (fun h17 k22 => ⟨y13 + ((Utf8.decode a.1 (Int.toNat y13)).2 : Int), ⟨rfl, ⟨rfl, k22⟩⟩⟩)) (fun h15 k25 => ⟨k25, trivial⟩)⟩))) (fun h9 k77 => ⟨a.2, ⟨rfl, ⟨trivial, br k77 (Cnd.not Cnd.b) (fun h30 k73 => ⟨k73, trivial⟩) (fun h31 k74 => wrapK.i64 k74 (fun h70 h71 k72 => br k72 Cnd.dec (fun h34 k68 => chk k68.2.2 Cnd.ix ⟨k68.1, k68.2.1⟩ (fun h36 k66 => chk k66.2.2 Cnd.ix ⟨k66.1, k66.2.1⟩ (fun h37 k65 => br k65 Cnd.ne (fun h38 k63 => wrapK.i64 k63 (fun h60 h61 k62 => chk k62.2.2 Cnd.ss ⟨k62.1, k62.2.1, (Int.le_refl _)⟩ (fun h41 k59 => chk k59.2.2 Cnd.ix ⟨k59.1, k59.2.1⟩ (fun h42 k58 => ⟨(subB a.1 ((((Utf8.encode a.2).size : Int) - (1 : Int)) + (1 : Int)) (a.1.size : Int), bAt (Utf8.encode a.2) (((Utf8.encode a.2).size : Int) - (1 : Int))), ⟨rfl, ⟨rfl, ⟨trivial, br k58 Cnd.dec (fun h44 k55 => ⟨k55, trivial⟩) (fun h45 k56 => wrapK.i64 k56 (fun h52 h53 k54 => wrapK.i64 k54 (fun h49 h50 k51 => False.elim (k51))))⟩⟩⟩⟩)))) (fun h39 k64 => False.elim (k64))))) (fun h35 k69 => ⟨k69, trivial⟩)))⟩⟩⟩))) (fun h2 k151 => br k151 Cnd.eq (fun h80 k148 => Exists.elim k148 (fun I83 h98_ => Exists.elim h98_ (fun μ84 h98 => ⟨I83, μ84, ⟨(0 : Int), ⟨rfl, ⟨rfl, h98.1⟩⟩⟩, fun y85 h100 => br (h98.2 y85 h100) Cnd.ix (fun h86 k96 => br k96 Cnd.eq (fun h88 k93 => ⟨k93, trivial⟩) (fun h89 k94 => ⟨y85 + ((Utf8.decode a.1 (Int.toNat y85)).2 : Int), ⟨rfl, ⟨rfl, k94⟩⟩⟩)) (fun h87 k97 => ⟨k97, trivial⟩)⟩))) (fun h81 k149 => ⟨a.2, ⟨rfl, ⟨trivial, br k149 (Cnd.not Cnd.b) (fun h102 k145 => ⟨k145, trivial⟩) (fun h103 k146 => wrapK.i64 k146 (fun h142 h143 k144 => br k144 Cnd.dec (fun h106 k140 => chk k140.2.2 Cnd.ix ⟨k140.1, k140.2.1⟩ (fun h108 k138 => chk k138.2.2 Cnd.ix ⟨k138.1, k138.2.1⟩ (fun h109 k137 => br k137 Cnd.ne (fun h110 k135 => wrapK.i64 k135 (fun h132 h133 k134 => chk k134.2.2 Cnd.ss ⟨k134.1, k134.2.1, (Int.le_refl _)⟩ (fun h113 k131 => chk k131.2.2 Cnd.ix ⟨k131.1, k131.2.1⟩ (fun h114 k130 => ⟨(subB a.1 ((((Utf8.encode a.2).size : Int) - (1 : Int)) + (1 : Int)) (a.1.size : Int), bAt (Utf8.encode a.2) (((Utf8.encode a.2).size : Int) - (1 : Int))), ⟨rfl, ⟨rfl, ⟨trivial, br k130 Cnd.dec (fun h116 k127 => ⟨k127, trivial⟩) (fun h117 k128 => wrapK.i64 k128 (fun h124 h125 k126 => wrapK.i64 k126 (fun h121 h122 k123 => False.elim (k123))))⟩⟩⟩⟩)))) (fun h111 k136 => False.elim (k136))))) (fun h107 k141 => ⟨k141, trivial⟩)))⟩⟩⟩))
theorem f73.eq (a : ByteArray × Int) : (f73.af a).gives f73.env (f73.args a) (f73.blks a) (f73.res a) (f73.blks' a) = f73.tree a := by kernel_rfl
end Go.Abs

-- strings.ContainsRune
namespace Go.Abs
open Go
def f71.args (a : ByteArray × Int) : List D := [.str a.1, .int .i32 a.2]
def f71.blks (a : ByteArray × Int) : List (List D) := []
def f71.res (a : ByteArray × Int) : List D := [.bool (hasRune a)]
def f71.blks' (a : ByteArray × Int) : List (List D) := []
def f71.C : Contract := FnC f71.args f71.blks (fun a => rune_pre a) f71.res f71.blks'
end Go.Abs

/- strings.ContainsRune -/
namespace Go.Abs
open Go
set_option linter.unusedVariables false
def f71.kills (a : ByteArray × Int) : List Hint := []
def f71.cuts (a : ByteArray × Int) : List (Nat × Σ β : Type, β → Tm) := []
def f71.af (a : ByteArray × Int) : AF := AF.mk (.seq (.region [⟨(some 4), 0, .move, [.c (.bool false)], none⟩])
 (.seq (.region [⟨(some 5), 1, .move, [.t 0], none⟩,
  ⟨(some 6), 2, .move, [.t 1], none⟩,
  ⟨(some 7), 3, (.call false 73), [.t 5, .t 6], none⟩,
  ⟨(some 8), 7, (.bin .geq), [.t 7, .c (.int .i64 (0))], none⟩,
  ⟨(some 4), 8, .move, [.t 8], none⟩])
 (.ret)))
  [.tmp 4] 0 7
def f71.env : Env := [(73, f73.C)]
def f71.tree (a : ByteArray × Int) : Prop := ∃ c1 : ByteArray × Int, (a.1 = c1.1) ∧ (a.2 = c1.2) ∧ (rune_pre c1) ∧ ((decide ((0 : Int) ≤ (ixRune c1))) = (hasRune a)) ∧ True
def f71.vc (a : ByteArray × Int) : Prop := (rune_pre (a.1, a.2) ∧ (decide ((0 : Int) ≤ (ixRune (a.1, a.2))) = hasRune a))
set_option maxRecDepth 100000 in
set_option maxHeartbeats 2000000 in
theorem f71.of (a : ByteArray × Int) (h : f71.vc a) : f71.tree a := ⟨(a.1, a.2), ⟨rfl, ⟨rfl, ⟨h.1, ⟨h.2, trivial⟩⟩⟩⟩⟩
theorem f71.eq (a : ByteArray × Int) : (f71.af a).gives f71.env (f71.args a) (f71.blks a) (f71.res a) (f71.blks' a) = f71.tree a := by kernel_rfl
end Go.Abs

-- interregnum/ident.odd
namespace Go.Abs
open Go
def f67.args (a : Int) : List D := [.int .i32 a]
def f67.blks (a : Int) : List (List D) := []
def f67.res (a : Int) : List D := [.bool (oddR a)]
def f67.blks' (a : Int) : List (List D) := []
def f67.C : Contract := FnC f67.args f67.blks (fun a => odd_pre a) f67.res f67.blks'
end Go.Abs

/- interregnum/ident.odd -/
namespace Go.Abs
open Go
set_option linter.unusedVariables false
def f67.s0 : ByteArray := ⟨#[97, 98, 99, 100, 101, 102, 103, 104, 105, 106, 107, 108, 109, 110, 111, 112, 113, 114, 115, 116, 117, 118, 119, 120, 121, 122, 48, 49, 50, 51, 52, 53, 54, 55, 56, 57, 45]⟩
def f67.kills (a : Int) : List Hint := []
def f67.cuts (a : Int) : List (Nat × Σ β : Type, β → Tm) := []
def f67.af (a : Int) : AF := AF.mk (.seq (.region [⟨(some 2), 0, .move, [.c (.bool false)], none⟩])
 (.seq (.region [⟨(some 3), 1, .move, [.t 0], none⟩,
  ⟨(some 4), 2, (.call false 71), [.c (.str f67.s0), .t 3], none⟩,
  ⟨(some 5), 6, (.un .not), [.t 4], none⟩,
  ⟨(some 2), 7, .move, [.t 5], none⟩])
 (.ret)))
  [.tmp 2] 0 5
def f67.env : Env := [(71, f71.C)]
def f67.tree (a : Int) : Prop := ∃ c1 : ByteArray × Int, (f67.s0 = c1.1) ∧ (a = c1.2) ∧ (rune_pre c1) ∧ ((!(hasRune c1)) = (oddR a)) ∧ True
def f67.vc (a : Int) : Prop := (rune_pre (f67.s0, a) ∧ ((!(hasRune (f67.s0, a))) = oddR a))
set_option maxRecDepth 100000 in
set_option maxHeartbeats 2000000 in
theorem f67.of (a : Int) (h : f67.vc a) : f67.tree a := ⟨(f67.s0, a), ⟨rfl, ⟨rfl, ⟨h.1, ⟨h.2, trivial⟩⟩⟩⟩⟩
theorem f67.eq (a : Int) : (f67.af a).gives f67.env (f67.args a) (f67.blks a) (f67.res a) (f67.blks' a) = f67.tree a := by kernel_rfl
end Go.Abs

-- strings.indexFunc
namespace Go.Abs
open Go
def f72.args (a : ByteArray × Bool) : List D := [.str a.1, .fn 67 [], .bool a.2]
def f72.blks (a : ByteArray × Bool) : List (List D) := []
def f72.res (a : ByteArray × Bool) : List D := [.int .i64 (indexOdd a)]
def f72.blks' (a : ByteArray × Bool) : List (List D) := []
def f72.C : Contract := FnC f72.args f72.blks (fun a => ixOdd_pre a) f72.res f72.blks'
end Go.Abs

/- strings.indexFunc -/
namespace Go.Abs
open Go
set_option linter.unusedVariables false
def f72.kills (a : ByteArray × Bool) : List Hint := [.tell Int (fun x => ⟨[.dead, .fn 67 [], .bool a.2, .dead, .dead, .dead, .dead, .dead, .dead, .dead, .ptr 2 0, .dead, .dead, .dead, .dead, .dead, .dead, .dead, .dead, .dead, .dead], [(2, false, [.dead, .str a.1, .int .i64 x])], []⟩)]
def f72.cuts (a : ByteArray × Bool) : List (Nat × Σ β : Type, β → Tm) := []
def f72.af (a : ByteArray × Bool) : AF := AF.mk (.seq (.region [⟨(some 6), 0, .move, [.c (.int .i64 (0))], none⟩])
 (.seq (.seq (.region [⟨(some 9), 1, .move, [.t 0], none⟩,
  ⟨(some 10), 2, .iterStr, [.t 9], none⟩])
 (.block 0 (.loopT Int (fun x => ⟨[.dead, .fn 67 [], .bool a.2, .dead, .dead, .dead, .dead, .dead, .dead, .dead, .ptr 2 0, .dead, .dead, .dead, .dead, .dead, .dead, .dead, .dead, .dead, .dead], [(2, false, [.dead, .str a.1, .int .i64 x])], []⟩) 3 19 (.seq (.region [⟨(some 11), 3, .nextStr, [.t 10], none⟩,
  ⟨(some 12), 4, (.extract 0), [.t 11], none⟩])
 (.seq (.cond (.t 12) (.skip) (.exit 0))
 (.block 1 (.seq (.region [⟨(some 13), 5, (.extract 1), [.t 11], none⟩,
  ⟨(some 14), 6, (.extract 2), [.t 11], none⟩,
  ⟨(some 7), 7, .move, [.t 13], none⟩,
  ⟨(some 8), 8, .move, [.t 14], none⟩])
 (.seq (.region [⟨(some 15), 9, .move, [.t 1], none⟩,
  ⟨(some 16), 10, .move, [.t 8], none⟩,
  ⟨(some 17), 11, (.callv false), [.t 15, .t 16], none⟩,
  ⟨(some 18), 15, .move, [.t 2], none⟩,
  ⟨(some 19), 16, (.binB false), [.t 17, .t 18], none⟩])
 (.cond (.t 19) (.seq (.region [⟨(some 20), 17, .move, [.t 7], none⟩,
  ⟨(some 6), 18, .move, [.t 20], none⟩])
 (.ret)) (.skip))))))))))
 (.seq (.region [⟨(some 6), 19, .move, [.c (.int .i64 (-1))], none⟩])
 (.ret))))
  [.tmp 6] 0 18
def f72.env : Env := [(67, f67.C)]
def f72.tree (a : ByteArray × Bool) : Prop := ∃ (I2 : Int → Prop) (μ3 : Int → Nat), (∃ x1 : Int, (DEqs [] []) ∧ (a.2 = a.2) ∧ (a.1 = a.1) ∧ ((0 : Int) = x1) ∧ I2 x1) ∧ ∀ y4 : Int, I2 y4 → (Br (decide ((0 : Int) ≤ y4) && decide (y4 < (a.1.size : Int))) (∃ c7 : Int, (((Utf8.decode a.1 (Int.toNat y4)).1 : Int) = c7) ∧ (odd_pre c7) ∧ Br ((oddR c7) == a.2) ((y4 = (indexOdd a)) ∧ True) (∃ x11 : Int, (DEqs [] []) ∧ (a.2 = a.2) ∧ (a.1 = a.1) ∧ ((y4 + ((Utf8.decode a.1 (Int.toNat y4)).2 : Int)) = x11) ∧ I2 x11 ∧ μ3 x11 < μ3 y4)) (((-1 : Int) = (indexOdd a)) ∧ True))
def f72.vc (a : ByteArray × Bool) : Prop := (∃ (I2 : Int → Prop) (μ3 : Int → Nat), I2 (0 : Int) ∧ ∀ y4 : Int, I2 y4 → (((0 : Int) ≤ y4 ∧ y4 < (a.1.size : Int) → (odd_pre ((Utf8.decode a.1 (Int.toNat y4)).1 : Int) ∧ ((((oddR ((Utf8.decode a.1 (Int.toNat y4)).1 : Int)) == a.2) = true → (y4 = indexOdd a)) ∧ (¬ (((oddR ((Utf8.decode a.1 (Int.toNat y4)).1 : Int)) == a.2) = true) → (I2 (y4 + ((Utf8.decode a.1 (Int.toNat y4)).2 : Int)) ∧ μ3 (y4 + ((Utf8.decode a.1 (Int.toNat y4)).2 : Int)) < μ3 y4))))) ∧ (¬ ((0 : Int) ≤ y4 ∧ y4 < (a.1.size : Int)) → ((-1 : Int) = indexOdd a))))
set_option maxRecDepth 100000 in
set_option maxHeartbeats 2000000 in
theorem f72.of (a : ByteArray × Bool) (h : f72.vc a) : f72.tree a := Exists.elim h (fun I2 h19_ => Exists.elim h19_ (fun μ3 h19 => ⟨I2, μ3, ⟨(0 : Int), ⟨(DEqs.refl _), ⟨rfl, ⟨rfl, ⟨rfl, h19.1⟩⟩⟩⟩⟩, fun y4 h21 => br (h19.2 y4 h21) Cnd.ix (fun h5 k17 => ⟨((Utf8.decode a.1 (Int.toNat y4)).1 : Int), ⟨rfl, ⟨k17.1, br k17.2 Cnd.b (fun h8 k13 => ⟨k13, trivial⟩) (fun h9 k14 => ⟨y4 + ((Utf8.decode a.1 (Int.toNat y4)).2 : Int), ⟨(DEqs.refl _), ⟨rfl, ⟨rfl, ⟨rfl, k14⟩⟩⟩⟩⟩)⟩⟩⟩) (fun h6 k18 => ⟨k18, trivial⟩)⟩))
theorem f72.eq (a : ByteArray × Bool) : (f72.af a).gives f72.env (f72.args a) (f72.blks a) (f72.res a) (f72.blks' a) = f72.tree a := by kernel_rfl
end Go.Abs

-- strings.IndexFunc
namespace Go.Abs
open Go
def f70.args (a : ByteArray) : List D := [.str a, .fn 67 []]
def f70.blks (a : ByteArray) : List (List D) := []
def f70.res (a : ByteArray) : List D := [.int .i64 (indexOddT a)]
def f70.blks' (a : ByteArray) : List (List D) := []
def f70.C : Contract := FnC f70.args f70.blks (fun a => text_pre30 a) f70.res f70.blks'
end Go.Abs

/- strings.IndexFunc -/
namespace Go.Abs
open Go
set_option linter.unusedVariables false
def f70.kills (a : ByteArray) : List Hint := []
def f70.cuts (a : ByteArray) : List (Nat × Σ β : Type, β → Tm) := []
def f70.af (a : ByteArray) : AF := AF.mk (.seq (.region [⟨(some 4), 0, .move, [.c (.int .i64 (0))], none⟩])
 (.seq (.region [⟨(some 5), 1, .move, [.t 0], none⟩,
  ⟨(some 6), 2, .move, [.t 1], none⟩,
  ⟨(some 7), 3, (.call false 72), [.t 5, .t 6, .c (.bool true)], none⟩,
  ⟨(some 4), 7, .move, [.t 7], none⟩])
 (.ret)))
  [.tmp 4] 0 6
def f70.env : Env := [(72, f72.C)]
def f70.tree (a : ByteArray) : Prop := ∃ c1 : ByteArray × Bool, (a = c1.1) ∧ (DEqs [] []) ∧ (true = c1.2) ∧ (ixOdd_pre c1) ∧ ((indexOdd c1) = (indexOddT a)) ∧ True
def f70.vc (a : ByteArray) : Prop := (ixOdd_pre (a, true) ∧ ((indexOdd (a, true)) = indexOddT a))
set_option maxRecDepth 100000 in
set_option maxHeartbeats 2000000 in
theorem f70.of (a : ByteArray) (h : f70.vc a) : f70.tree a := ⟨(a, true), ⟨rfl, ⟨(DEqs.refl _), ⟨rfl, ⟨h.1, ⟨h.2, trivial⟩⟩⟩⟩⟩⟩
theorem f70.eq (a : ByteArray) : (f70.af a).gives f70.env (f70.args a) (f70.blks a) (f70.res a) (f70.blks' a) = f70.tree a := by kernel_rfl
end Go.Abs

-- strings.ContainsFunc
namespace Go.Abs
open Go
def f66.args (a : ByteArray) : List D := [.str a, .fn 67 []]
def f66.blks (a : ByteArray) : List (List D) := []
def f66.res (a : ByteArray) : List D := [.bool (hasOdd a)]
def f66.blks' (a : ByteArray) : List (List D) := []
def f66.C : Contract := FnC f66.args f66.blks (fun a => text_pre30 a) f66.res f66.blks'
end Go.Abs

/- strings.ContainsFunc -/
namespace Go.Abs
open Go
set_option linter.unusedVariables false
def f66.kills (a : ByteArray) : List Hint := []
def f66.cuts (a : ByteArray) : List (Nat × Σ β : Type, β → Tm) := []
def f66.af (a : ByteArray) : AF := AF.mk (.seq (.region [⟨(some 4), 0, .move, [.c (.bool false)], none⟩])
 (.seq (.region [⟨(some 5), 1, .move, [.t 0], none⟩,
  ⟨(some 6), 2, .move, [.t 1], none⟩,
  ⟨(some 7), 3, (.call false 70), [.t 5, .t 6], none⟩,
  ⟨(some 8), 7, (.bin .geq), [.t 7, .c (.int .i64 (0))], none⟩,
  ⟨(some 4), 8, .move, [.t 8], none⟩])
 (.ret)))
  [.tmp 4] 0 7
def f66.env : Env := [(70, f70.C)]
def f66.tree (a : ByteArray) : Prop := ∃ c1 : ByteArray, (a = c1) ∧ (DEqs [] []) ∧ (text_pre30 c1) ∧ ((decide ((0 : Int) ≤ (indexOddT c1))) = (hasOdd a)) ∧ True
def f66.vc (a : ByteArray) : Prop := (text_pre30 a ∧ (decide ((0 : Int) ≤ (indexOddT a)) = hasOdd a))
set_option maxRecDepth 100000 in
set_option maxHeartbeats 2000000 in
theorem f66.of (a : ByteArray) (h : f66.vc a) : f66.tree a := ⟨a, ⟨rfl, ⟨(DEqs.refl _), ⟨h.1, ⟨h.2, trivial⟩⟩⟩⟩⟩
theorem f66.eq (a : ByteArray) : (f66.af a).gives f66.env (f66.args a) (f66.blks a) (f66.res a) (f66.blks' a) = f66.tree a := by kernel_rfl
end Go.Abs

/- Names, labels, amounts, machines, queues, tasks: what can be, and their bytes. -/
namespace Go.Abs
open Go

abbrev TRes := Int × Int × Int
abbrev TLbl := ByteArray × ByteArray
abbrev TNode := ByteArray × TRes × List TLbl
abbrev TQueue := ByteArray × TRes
abbrev TTask := ByteArray × ByteArray × Int × TRes × List TLbl × ByteArray × ByteArray × Int
abbrev TJob := TTask × Int × ByteArray × Int

def slt (a b : ByteArray) : Bool := Op.bytesLess a.toList b.toList
def nameB (s : ByteArray) : Bool := decide (1 ≤ s.size ∧ s.size ≤ 16) && (nth s.data.toList 0 0 != 45) && s.data.toList.all ltr
def okN (n : Int) : Bool := decide (0 ≤ n ∧ n ≤ 1048576)
def rightB (r : TRes) : Bool := okN r.1 && okN r.2.1 && okN r.2.2
/-- Label i can stand there. -/
def lblAt (l : List TLbl) (i : Nat) : Bool := nameB (l.getD i default).1 && nameB (l.getD i default).2 && (i == 0 || slt (l.getD (i - 1) default).1 (l.getD i default).1)
def labelsB (l : List TLbl) : Bool := decide (l.length ≤ 4) && (List.range l.length).all (lblAt l)
def nodeB (n : TNode) : Bool := nameB n.1 && rightB n.2.1 && labelsB n.2.2
def queueB (q : TQueue) : Bool := nameB q.1 && rightB q.2
def maybeB (s : ByteArray) : Bool := s.size == 0 || nameB s
def sizeB (g : ByteArray) (n : Int) : Bool := if g.size = 0 then n == 0 else decide (2 ≤ n ∧ n ≤ 4)
def taskB (t : TTask) : Bool := nameB t.1 && nameB t.2.1 && decide (0 ≤ t.2.2.1 ∧ t.2.2.1 ≤ 9) && rightB t.2.2.2.1 && labelsB t.2.2.2.2.1 && maybeB t.2.2.2.2.2.1 && maybeB t.2.2.2.2.2.2.1 && sizeB t.2.2.2.2.2.2.1 t.2.2.2.2.2.2.2

def S28 (b : ByteArray) : Prop := b.size ≤ 268435456
def S27 (b : ByteArray) : Prop := b.size ≤ 134217728
def name_pre (s : ByteArray) : Prop := s.size ≤ 1073741824
def lbls_pre (l : List TLbl) : Prop := ∀ x ∈ l, x.1.size ≤ 1073741824 ∧ x.2.size ≤ 1073741824
def node_pre (n : TNode) : Prop := name_pre n.1 ∧ lbls_pre n.2.2
def queue_pre (q : TQueue) : Prop := name_pre q.1
def task_pre (t : TTask) : Prop := name_pre t.1 ∧ name_pre t.2.1 ∧ lbls_pre t.2.2.2.2.1 ∧ name_pre t.2.2.2.2.2.1 ∧ name_pre t.2.2.2.2.2.2.1

def amtS (r : TRes) : ByteArray := num r.1.toNat ++ num r.2.1.toNat ++ num r.2.2.toNat
def lblsS0 : List TLbl → ByteArray
  | [] => ByteArray.empty
  | x :: l => textS x.1 ++ textS x.2 ++ lblsS0 l
def lblsS (l : List TLbl) : ByteArray := num l.length ++ lblsS0 l
def nodeS0 (n : TNode) : ByteArray := textS n.1 ++ amtS n.2.1 ++ lblsS n.2.2
def queueS0 (q : TQueue) : ByteArray := textS q.1 ++ amtS q.2
def taskS0 (t : TTask) : ByteArray := textS t.1 ++ textS t.2.1 ++ num t.2.2.1.toNat ++ amtS t.2.2.2.1 ++ lblsS t.2.2.2.2.1 ++ textS t.2.2.2.2.2.1 ++ textS t.2.2.2.2.2.2.1 ++ num t.2.2.2.2.2.2.2.toNat
def nodeS (n : TNode) : ByteArray := if nodeB n = true then nodeS0 n else ByteArray.empty
def queueS (q : TQueue) : ByteArray := if queueB q = true then queueS0 q else ByteArray.empty
def taskS (t : TTask) : ByteArray := if taskB t = true then taskS0 t else ByteArray.empty

def same_pre (b : ByteArray) : Prop := S28 b
def sameB (b : ByteArray) : ByteArray := b
def number_pre (n : Int) : Prop := 0 ≤ n ∧ n ≤ 9223372036854775807
def amt_pre (r : TRes) : Prop := rightB r = true
def lblsS_pre (l : List TLbl) : Prop := labelsB l = true
def putAmt_pre (a : ByteArray × TRes) : Prop := S28 a.1 ∧ rightB a.2 = true
def putAmt (a : ByteArray × TRes) : ByteArray := a.1 ++ amtS a.2
def putLbls_pre (a : ByteArray × List TLbl) : Prop := S27 a.1 ∧ labelsB a.2 = true
def putLbls (a : ByteArray × List TLbl) : ByteArray := a.1 ++ lblsS a.2
def putNode_pre (a : ByteArray × TNode) : Prop := a.1.size ≤ 67108864 ∧ node_pre a.2
def putNode (a : ByteArray × TNode) : ByteArray := a.1 ++ nodeS a.2
def putQueue_pre (a : ByteArray × TQueue) : Prop := a.1.size ≤ 67108864 ∧ queue_pre a.2
def putQueue (a : ByteArray × TQueue) : ByteArray := a.1 ++ queueS a.2
def putTask_pre (a : ByteArray × TTask) : Prop := a.1.size ≤ 67108864 ∧ task_pre a.2
def putTask (a : ByteArray × TTask) : ByteArray := a.1 ++ taskS a.2

/-- What the laws of layer 5 look at. -/
def labs5 (l : List TLbl) : Bool := decide (l.length ≤ 100) && (List.range l.length).all fun i => decide ((l.getD i default).1.size + (l.getD i default).2.size ≤ 1000)
def few5 (a : TNode × TQueue × TTask) : Bool := labs5 a.1.2.2 && labs5 a.2.2.2.2.2.2.1 && decide (a.1.1.size + a.2.1.1.size + a.2.2.1.size + a.2.2.2.1.size + a.2.2.2.2.2.2.2.1.size + a.2.2.2.2.2.2.2.2.1.size < 5000)
def few5_pre (a : TNode × TQueue × TTask) : Prop := node_pre a.1 ∧ queue_pre a.2.1 ∧ task_pre a.2.2
end Go.Abs

-- interregnum/ident.Name
namespace Go.Abs
open Go
def f48.args (a : ByteArray) : List D := [.str a]
def f48.blks (a : ByteArray) : List (List D) := []
def f48.res (a : ByteArray) : List D := [.bool (nameB a)]
def f48.blks' (a : ByteArray) : List (List D) := []
def f48.C : Contract := FnC f48.args f48.blks (fun a => name_pre a) f48.res f48.blks'
end Go.Abs

/- interregnum/ident.Name -/
namespace Go.Abs
open Go
set_option linter.unusedVariables false
def f48.kills (a : ByteArray) : List Hint := []
def f48.cuts (a : ByteArray) : List (Nat × Σ β : Type, β → Tm) := []
def f48.af (a : ByteArray) : AF := AF.mk (.seq (.region [⟨(some 2), 0, .move, [.c (.bool false)], none⟩])
 (.seq (.region [⟨(some 3), 1, .move, [.t 0], none⟩,
  ⟨(some 4), 2, (.bin .neq), [.t 3, .c (.str ByteArray.empty)], none⟩,
  ⟨(some 5), 3, .move, [.t 4], none⟩,
  ⟨(some 6), 4, .move, [.t 0], (some (5, true))⟩,
  ⟨(some 7), 5, (.len true), [.t 6], (some (5, true))⟩,
  ⟨(some 8), 6, (.bin .leq), [.t 7, .c (.int .i64 (16))], (some (5, true))⟩,
  ⟨(some 9), 7, .pick, [.t 5, .t 8, .c (.bool false)], none⟩,
  ⟨(some 10), 8, .move, [.t 9], none⟩,
  ⟨(some 11), 9, .move, [.t 0], (some (10, true))⟩,
  ⟨(some 12), 10, .indexStr, [.t 11, .c (.int .i64 (0))], (some (10, true))⟩,
  ⟨(some 13), 11, (.bin .neq), [.t 12, .c (.int .u8 (45))], (some (10, true))⟩,
  ⟨(some 14), 12, .pick, [.t 10, .t 13, .c (.bool false)], none⟩,
  ⟨(some 15), 13, .move, [.t 14], none⟩,
  ⟨(some 16), 14, .move, [.t 0], (some (15, true))⟩,
  ⟨(some 17), 15, (.call false 66), [.t 16, .c (.fn 67 [])], (some (15, true))⟩,
  ⟨(some 18), 19, (.un .not), [.t 17], (some (15, true))⟩,
  ⟨(some 19), 20, .pick, [.t 15, .t 18, .c (.bool false)], none⟩,
  ⟨(some 2), 21, .move, [.t 19], none⟩])
 (.ret)))
  [.tmp 2] 0 19
def f48.env : Env := [(66, f66.C)]
def f48.tree (a : ByteArray) : Prop := Br (!(a.toList == ByteArray.empty.toList)) (Br (decide ((a.size : Int) ≤ (16 : Int))) (Br (decide ((0 : Int) ≤ (0 : Int)) && decide ((0 : Int) < (a.size : Int))) (Br ((bAt a (0 : Int)) != (45 : Int)) (∃ c8 : ByteArray, (a = c8) ∧ (DEqs [] []) ∧ (text_pre30 c8) ∧ ((!(hasOdd c8)) = (nameB a)) ∧ True) ((false = (nameB a)) ∧ True)) False) ((false = (nameB a)) ∧ True)) ((false = (nameB a)) ∧ True)
def f48.vc (a : ByteArray) : Prop := ((¬ (a = ByteArray.empty) → (((a.size : Int) ≤ (16 : Int) → ((0 : Int) < (a.size : Int) ∧ ((¬ (bAt a (0 : Int)) = (45 : Int) → (text_pre30 a ∧ ((!(hasOdd a)) = nameB a))) ∧ (¬ (¬ (bAt a (0 : Int)) = (45 : Int)) → (false = nameB a))))) ∧ (¬ ((a.size : Int) ≤ (16 : Int)) → (false = nameB a)))) ∧ (¬ (¬ (a = ByteArray.empty)) → (false = nameB a)))
set_option maxRecDepth 100000 in
set_option maxHeartbeats 2000000 in
theorem f48.of (a : ByteArray) (h : f48.vc a) : f48.tree a := br h (Cnd.not Cnd.seq) (fun h1 k19 => br k19 Cnd.dec (fun h3 k16 => chk k16.2 Cnd.ix ⟨(by decide), k16.1⟩ (fun h5 k14 => br k14 Cnd.ne (fun h6 k12 => ⟨a, ⟨rfl, ⟨(DEqs.refl _), ⟨k12.1, ⟨k12.2, trivial⟩⟩⟩⟩⟩) (fun h7 k13 => ⟨k13, trivial⟩))) (fun h4 k17 => ⟨k17, trivial⟩)) (fun h2 k20 => ⟨k20, trivial⟩)
theorem f48.eq (a : ByteArray) : (f48.af a).gives f48.env (f48.args a) (f48.blks a) (f48.res a) (f48.blks' a) = f48.tree a := by kernel_rfl
end Go.Abs

-- interregnum/res.Right
namespace Go.Abs
open Go
def f49.args (a : T_ar3_i64) : List D := [.agg [.int .i64 a.1, .int .i64 a.2.1, .int .i64 a.2.2]]
def f49.blks (a : T_ar3_i64) : List (List D) := []
def f49.res (a : T_ar3_i64) : List D := [.bool (rightB a)]
def f49.blks' (a : T_ar3_i64) : List (List D) := []
def f49.C : Contract := FnC f49.args f49.blks (fun _ => True) f49.res f49.blks'
end Go.Abs

/- interregnum/res.Right -/
namespace Go.Abs
open Go
set_option linter.unusedVariables false
def f49.kills (a : T_ar3_i64) : List Hint := [.unroll 4 [0, 1, 2, 3, 4, 7, 8, 9, 10, 11, 14, 15] [] []]
def f49.cuts (a : T_ar3_i64) : List (Nat × Σ β : Type, β → Tm) := []
def f49.af (a : T_ar3_i64) : AF := AF.mk (.seq (.region [⟨(some 1), 0, .box, [.t 0], none⟩,
  ⟨(some 2), 1, .move, [.c (.bool false)], none⟩])
 (.seq (.seq (.region [⟨(some 5), 2, (.load true 3), [.t 1], none⟩,
  ⟨(some 6), 3, .move, [.c (.int .i64 (0))], none⟩])
 (.block 0 (.loop 4 [0, 1, 2, 3, 4, 7, 8, 9, 10, 11, 14, 15] [] [] 4 16 (.seq (.region [⟨(some 7), 4, (.bin .lss), [.t 6, .c (.int .i64 (3))], none⟩])
 (.seq (.cond (.t 7) (.skip) (.exit 0))
 (.seq (.block 1 (.seq (.region [⟨(some 8), 5, (.indexArr false 1 3), [.t 5, .t 6], none⟩,
  ⟨(some 4), 6, .move, [.t 8], none⟩])
 (.seq (.region [⟨(some 9), 7, .move, [.t 4], none⟩,
  ⟨(some 10), 8, (.bin .lss), [.t 9, .c (.int .i64 (0))], none⟩,
  ⟨(some 11), 9, .move, [.t 10], none⟩,
  ⟨(some 12), 10, .move, [.t 4], (some (11, false))⟩,
  ⟨(some 13), 11, (.bin .gtr), [.t 12, .c (.int .i64 (1048576))], (some (11, false))⟩,
  ⟨(some 14), 12, .pick, [.t 11, .c (.bool true), .t 13], none⟩])
 (.cond (.t 14) (.seq (.region [⟨(some 2), 13, .move, [.c (.bool false)], none⟩])
 (.ret)) (.skip)))))
 (.region [⟨(some 15), 14, (.bin .add), [.t 6, .c (.int .i64 (1))], none⟩,
  ⟨(some 6), 15, .move, [.t 15], none⟩])))))))
 (.seq (.region [⟨(some 2), 16, .move, [.c (.bool true)], none⟩])
 (.ret))))
  [.tmp 2] 0 15
def f49.env : Env := []
def f49.tree (a : T_ar3_i64) : Prop := Br (decide (a.1 < (0 : Int))) ((false = (rightB a)) ∧ True) (Br (decide ((1048576 : Int) < a.1)) ((false = (rightB a)) ∧ True) (Br (decide (a.2.1 < (0 : Int))) ((false = (rightB a)) ∧ True) (Br (decide ((1048576 : Int) < a.2.1)) ((false = (rightB a)) ∧ True) (Br (decide (a.2.2 < (0 : Int))) ((false = (rightB a)) ∧ True) (Br (decide ((1048576 : Int) < a.2.2)) ((false = (rightB a)) ∧ True) ((true = (rightB a)) ∧ True))))))
def f49.vc (a : T_ar3_i64) : Prop := ((a.1 < (0 : Int) → (false = rightB a)) ∧ (¬ (a.1 < (0 : Int)) → (((1048576 : Int) < a.1 → (false = rightB a)) ∧ (¬ ((1048576 : Int) < a.1) → ((a.2.1 < (0 : Int) → (false = rightB a)) ∧ (¬ (a.2.1 < (0 : Int)) → (((1048576 : Int) < a.2.1 → (false = rightB a)) ∧ (¬ ((1048576 : Int) < a.2.1) → ((a.2.2 < (0 : Int) → (false = rightB a)) ∧ (¬ (a.2.2 < (0 : Int)) → (((1048576 : Int) < a.2.2 → (false = rightB a)) ∧ (¬ ((1048576 : Int) < a.2.2) → (true = rightB a)))))))))))))
set_option maxRecDepth 100000 in
set_option maxHeartbeats 2000000 in
theorem f49.of (a : T_ar3_i64) (h : f49.vc a) : f49.tree a := br h Cnd.dec (fun h1 k30 => ⟨k30, trivial⟩) (fun h2 k31 => br k31 Cnd.dec (fun h4 k28 => ⟨k28, trivial⟩) (fun h5 k29 => br k29 Cnd.dec (fun h7 k26 => ⟨k26, trivial⟩) (fun h8 k27 => br k27 Cnd.dec (fun h10 k24 => ⟨k24, trivial⟩) (fun h11 k25 => br k25 Cnd.dec (fun h13 k22 => ⟨k22, trivial⟩) (fun h14 k23 => br k23 Cnd.dec (fun h16 k20 => ⟨k20, trivial⟩) (fun h17 k21 => ⟨k21, trivial⟩))))))
theorem f49.eq (a : T_ar3_i64) : (f49.af a).gives f49.env (f49.args a) (f49.blks a) (f49.res a) (f49.blks' a) = f49.tree a := by kernel_rfl
end Go.Abs

-- interregnum/model.Queue
namespace Go.Abs
open Go
def f25.args (a : T_api_Queue) : List D := [.agg [.str a.1, .int .i64 a.2.1, .int .i64 a.2.2.1, .int .i64 a.2.2.2]]
def f25.blks (a : T_api_Queue) : List (List D) := []
def f25.res (a : T_api_Queue) : List D := [.bool (queueB a)]
def f25.blks' (a : T_api_Queue) : List (List D) := []
def f25.C : Contract := FnC f25.args f25.blks (fun a => queue_pre a) f25.res f25.blks'
end Go.Abs

/- interregnum/model.Queue -/
namespace Go.Abs
open Go
set_option linter.unusedVariables false
def f25.kills (a : T_api_Queue) : List Hint := []
def f25.cuts (a : T_api_Queue) : List (Nat × Σ β : Type, β → Tm) := []
def f25.af (a : T_api_Queue) : AF := AF.mk (.seq (.region [⟨(some 1), 0, .box, [.t 0], none⟩,
  ⟨(some 2), 1, .move, [.c (.bool false)], none⟩])
 (.seq (.region [⟨(some 3), 2, (.fieldAddr 0), [.t 1], none⟩,
  ⟨(some 4), 3, (.load false 1), [.t 3], none⟩,
  ⟨(some 5), 4, (.call false 48), [.t 4], none⟩,
  ⟨(some 6), 8, .move, [.t 5], none⟩,
  ⟨(some 7), 9, (.fieldAddr 1), [.t 1], (some (6, true))⟩,
  ⟨(some 8), 10, (.load true 3), [.t 7], (some (6, true))⟩,
  ⟨(some 9), 11, (.call false 49), [.t 8], (some (6, true))⟩,
  ⟨(some 10), 15, .pick, [.t 6, .t 9, .c (.bool false)], none⟩,
  ⟨(some 2), 16, .move, [.t 10], none⟩])
 (.ret)))
  [.tmp 2] 0 10
def f25.env : Env := [(48, f48.C), (49, f49.C)]
def f25.tree (a : T_api_Queue) : Prop := ∃ c1 : ByteArray, (a.1 = c1) ∧ (name_pre c1) ∧ Br (nameB c1) (∃ c4 : T_ar3_i64, (a.2.1 = c4.1) ∧ (a.2.2.1 = c4.2.1) ∧ (a.2.2.2 = c4.2.2) ∧ True ∧ ((rightB c4) = (queueB a)) ∧ True) ((false = (queueB a)) ∧ True)
def f25.vc (a : T_api_Queue) : Prop := (name_pre a.1 ∧ (((nameB (a.1)) = true → ((rightB (a.2)) = queueB a)) ∧ (¬ ((nameB (a.1)) = true) → (false = queueB a))))
set_option maxRecDepth 100000 in
set_option maxHeartbeats 2000000 in
theorem f25.of (a : T_api_Queue) (h : f25.vc a) : f25.tree a := ⟨a.1, ⟨rfl, ⟨h.1, br h.2 Cnd.b (fun h2 k8 => ⟨a.2, ⟨rfl, ⟨rfl, ⟨rfl, ⟨trivial, ⟨k8, trivial⟩⟩⟩⟩⟩⟩) (fun h3 k9 => ⟨k9, trivial⟩)⟩⟩⟩
theorem f25.eq (a : T_api_Queue) : (f25.af a).gives f25.env (f25.args a) (f25.blks a) (f25.res a) (f25.blks' a) = f25.tree a := by kernel_rfl
end Go.Abs

-- interregnum/model.same
namespace Go.Abs
open Go
def f60.args (a : ByteArray) : List D := [.slice .ro 1 a.size (gstr a)]
def f60.blks (a : ByteArray) : List (List D) := []
def f60.res (a : ByteArray) : List D := [.slice (.own 0) 1 ((sameB a).size) (gstr (sameB a))]
def f60.blks' (a : ByteArray) : List (List D) := []
def f60.C : Contract := FnC f60.args f60.blks (fun a => same_pre a) f60.res f60.blks'
end Go.Abs

/- interregnum/model.same -/
namespace Go.Abs
open Go
set_option linter.unusedVariables false
def f60.kills (a : ByteArray) : List Hint := []
def f60.cuts (a : ByteArray) : List (Nat × Σ β : Type, β → Tm) := []
def f60.af (a : ByteArray) : AF := AF.mk (.seq (.region [⟨(some 2), 0, (.nilSl 1), [], none⟩])
 (.seq (.region [⟨(some 3), 1, (.buildSlice 1 0 [.int .u8 (0)] []), [], none⟩,
  ⟨(some 4), 2, .move, [.t 0], none⟩,
  ⟨(some 5), 3, (.append 1 1), [.t 3, .t 4], none⟩,
  ⟨(some 2), 4, .move, [.t 5], none⟩])
 (.ret)))
  [.tmp 2] 0 5
def f60.env : Env := []
def f60.tree (a : ByteArray) : Prop := (room ((0 + a.size) * 1)) ∧ (((0 + a.size) = (0 + a.size)) ∧ ((0 + a.size) = ((sameB a).size)) ∧ (∀ i, i < ((sameB a).size) → DEqs ((gapp (fun j => List.take 1 (List.drop (j * 1) [])) 0 (gstr a)) i) ((gstr (sameB a)) i)) ∧ True)
def f60.vc (a : ByteArray) : Prop := (0 + a.size ≤ 1073741824 ∧ (ByteArray.empty ++ a = sameB a))
set_option maxRecDepth 100000 in
set_option maxHeartbeats 2000000 in
theorem f60.of (a : ByteArray) (h : f60.vc a) : f60.tree a := ⟨(room_of h.1 (by decide)), ⟨rfl, slK (RdB.to (RdB.app RdB.nil RdB.self) h.2) (trivial)⟩⟩
theorem f60.eq (a : ByteArray) : (f60.af a).gives f60.env (f60.args a) (f60.blks a) (f60.res a) (f60.blks' a) = f60.tree a := by kernel_rfl
end Go.Abs

-- math/bits.Len64
namespace Go.Abs
open Go
def f45.args (a : Int) : List D := [.int .u64 a]
def f45.blks (a : Int) : List (List D) := []
def f45.res (a : Int) : List D := [.int .i64 (len64 a)]
def f45.blks' (a : Int) : List (List D) := []
def f45.C : Contract := FnC f45.args f45.blks (fun a => len64_pre a) f45.res f45.blks'
end Go.Abs

/- math/bits.Len64 -/
namespace Go.Abs
open Go
set_option linter.unusedVariables false
def f45.s0 : ByteArray := ⟨#[0, 1, 2, 2, 3, 3, 3, 3, 4, 4, 4, 4, 4, 4, 4, 4, 5, 5, 5, 5, 5, 5, 5, 5, 5, 5, 5, 5, 5, 5, 5, 5, 6, 6, 6, 6, 6, 6, 6, 6, 6, 6, 6, 6, 6, 6, 6, 6, 6, 6, 6, 6, 6, 6, 6, 6, 6, 6, 6, 6, 6, 6, 6, 6, 7, 7, 7, 7, 7, 7, 7, 7, 7, 7, 7, 7, 7, 7, 7, 7, 7, 7, 7, 7, 7, 7, 7, 7, 7, 7, 7, 7, 7, 7, 7, 7, 7, 7, 7, 7, 7, 7, 7, 7, 7, 7, 7, 7, 7, 7, 7, 7, 7, 7, 7, 7, 7, 7, 7, 7, 7, 7, 7, 7, 7, 7, 7, 7, 8, 8, 8, 8, 8, 8, 8, 8, 8, 8, 8, 8, 8, 8, 8, 8, 8, 8, 8, 8, 8, 8, 8, 8, 8, 8, 8, 8, 8, 8, 8, 8, 8, 8, 8, 8, 8, 8, 8, 8, 8, 8, 8, 8, 8, 8, 8, 8, 8, 8, 8, 8, 8, 8, 8, 8, 8, 8, 8, 8, 8, 8, 8, 8, 8, 8, 8, 8, 8, 8, 8, 8, 8, 8, 8, 8, 8, 8, 8, 8, 8, 8, 8, 8, 8, 8, 8, 8, 8, 8, 8, 8, 8, 8, 8, 8, 8, 8, 8, 8, 8, 8, 8, 8, 8, 8, 8, 8, 8, 8, 8, 8, 8, 8, 8, 8, 8, 8, 8, 8, 8, 8, 8, 8, 8, 8, 8, 8]⟩
def f45.kills (a : Int) : List Hint := []
def f45.cuts (a : Int) : List (Nat × Σ β : Type, β → Tm) := []
def f45.af (a : Int) : AF := AF.mk (.seq (.region [⟨(some 2), 0, .move, [.c (.int .i64 (0))], none⟩])
 (.seq (.seq (.region [⟨(some 3), 1, .move, [.t 0], none⟩,
  ⟨(some 4), 2, (.bin .geq), [.t 3, .c (.int .u64 (4294967296))], none⟩])
 (.cond (.t 4) (.seq (.region [⟨(some 5), 3, .move, [.t 0], none⟩,
  ⟨(some 6), 4, (.bin .shr), [.t 5, .c (.int .u64 (32))], none⟩,
  ⟨(some 0), 5, .move, [.t 6], none⟩])
 (.region [⟨(some 2), 6, .move, [.c (.int .i64 (32))], none⟩])) (.skip)))
 (.seq (.seq (.region [⟨(some 7), 7, .move, [.t 0], none⟩,
  ⟨(some 8), 8, (.bin .geq), [.t 7, .c (.int .u64 (65536))], none⟩])
 (.cond (.t 8) (.seq (.region [⟨(some 9), 9, .move, [.t 0], none⟩,
  ⟨(some 10), 10, (.bin .shr), [.t 9, .c (.int .u64 (16))], none⟩,
  ⟨(some 0), 11, .move, [.t 10], none⟩])
 (.region [⟨(some 11), 12, .move, [.t 2], none⟩,
  ⟨(some 12), 13, (.bin .add), [.t 11, .c (.int .i64 (16))], none⟩,
  ⟨(some 2), 14, .move, [.t 12], none⟩])) (.skip)))
 (.seq (.seq (.region [⟨(some 13), 15, .move, [.t 0], none⟩,
  ⟨(some 14), 16, (.bin .geq), [.t 13, .c (.int .u64 (256))], none⟩])
 (.cond (.t 14) (.seq (.region [⟨(some 15), 17, .move, [.t 0], none⟩,
  ⟨(some 16), 18, (.bin .shr), [.t 15, .c (.int .u64 (8))], none⟩,
  ⟨(some 0), 19, .move, [.t 16], none⟩])
 (.region [⟨(some 17), 20, .move, [.t 2], none⟩,
  ⟨(some 18), 21, (.bin .add), [.t 17, .c (.int .i64 (8))], none⟩,
  ⟨(some 2), 22, .move, [.t 18], none⟩])) (.skip)))
 (.seq (.region [⟨(some 19), 23, .move, [.t 2], none⟩,
  ⟨(some 20), 24, .move, [.t 0], none⟩,
  ⟨(some 21), 25, (.conv (.int .u8)), [.t 20], none⟩,
  ⟨(some 22), 26, .indexStr, [.c (.str f45.s0), .t 21], none⟩,
  ⟨(some 23), 27, (.conv (.int .i64)), [.t 22], none⟩,
  ⟨(some 24), 28, (.bin .add), [.t 19, .t 23], none⟩,
  ⟨(some 2), 29, .move, [.t 24], none⟩])
 (.ret))))))
  [.tmp 2] 0 24
def f45.env : Env := []
def f45.tree (a : Int) : Prop := Br (decide ((4294967296 : Int) ≤ a)) (Let (Int.fdiv a 4294967296) (fun v3 : Int => Br (decide ((65536 : Int) ≤ v3)) (Let (Int.fdiv v3 65536) (fun v6 : Int => Br (decide ((256 : Int) ≤ v6)) (Let (Int.fdiv v6 256) (fun v9 : Int => Br (decide ((0 : Int) ≤ (IntKind.u8.wrap v9)) && decide ((IntKind.u8.wrap v9) < (256 : Int))) (Let (IntKind.i64.wrap (bAt f45.s0 (IntKind.u8.wrap v9))) (fun v11 : Int => Let (IntKind.i64.wrap ((56 : Int) + v11)) (fun v12 : Int => (v12 = (len64 a)) ∧ True))) False)) (Br (decide ((0 : Int) ≤ (IntKind.u8.wrap v6)) && decide ((IntKind.u8.wrap v6) < (256 : Int))) (Let (IntKind.i64.wrap (bAt f45.s0 (IntKind.u8.wrap v6))) (fun v22 : Int => Let (IntKind.i64.wrap ((48 : Int) + v22)) (fun v23 : Int => (v23 = (len64 a)) ∧ True))) False))) (Br (decide ((256 : Int) ≤ v3)) (Let (Int.fdiv v3 256) (fun v36 : Int => Br (decide ((0 : Int) ≤ (IntKind.u8.wrap v36)) && decide ((IntKind.u8.wrap v36) < (256 : Int))) (Let (IntKind.i64.wrap (bAt f45.s0 (IntKind.u8.wrap v36))) (fun v38 : Int => Let (IntKind.i64.wrap ((40 : Int) + v38)) (fun v39 : Int => (v39 = (len64 a)) ∧ True))) False)) (Br (decide ((0 : Int) ≤ (IntKind.u8.wrap v3)) && decide ((IntKind.u8.wrap v3) < (256 : Int))) (Let (IntKind.i64.wrap (bAt f45.s0 (IntKind.u8.wrap v3))) (fun v49 : Int => Let (IntKind.i64.wrap ((32 : Int) + v49)) (fun v50 : Int => (v50 = (len64 a)) ∧ True))) False)))) (Br (decide ((65536 : Int) ≤ a)) (Let (Int.fdiv a 65536) (fun v65 : Int => Br (decide ((256 : Int) ≤ v65)) (Let (Int.fdiv v65 256) (fun v68 : Int => Br (decide ((0 : Int) ≤ (IntKind.u8.wrap v68)) && decide ((IntKind.u8.wrap v68) < (256 : Int))) (Let (IntKind.i64.wrap (bAt f45.s0 (IntKind.u8.wrap v68))) (fun v70 : Int => Let (IntKind.i64.wrap ((24 : Int) + v70)) (fun v71 : Int => (v71 = (len64 a)) ∧ True))) False)) (Br (decide ((0 : Int) ≤ (IntKind.u8.wrap v65)) && decide ((IntKind.u8.wrap v65) < (256 : Int))) (Let (IntKind.i64.wrap (bAt f45.s0 (IntKind.u8.wrap v65))) (fun v81 : Int => Let (IntKind.i64.wrap ((16 : Int) + v81)) (fun v82 : Int => (v82 = (len64 a)) ∧ True))) False))) (Br (decide ((256 : Int) ≤ a)) (Let (Int.fdiv a 256) (fun v95 : Int => Br (decide ((0 : Int) ≤ (IntKind.u8.wrap v95)) && decide ((IntKind.u8.wrap v95) < (256 : Int))) (Let (IntKind.i64.wrap (bAt f45.s0 (IntKind.u8.wrap v95))) (fun v97 : Int => Let (IntKind.i64.wrap ((8 : Int) + v97)) (fun v98 : Int => (v98 = (len64 a)) ∧ True))) False)) (Br (decide ((0 : Int) ≤ (IntKind.u8.wrap a)) && decide ((IntKind.u8.wrap a) < (256 : Int))) (Let (IntKind.i64.wrap (bAt f45.s0 (IntKind.u8.wrap a))) (fun v108 : Int => Let (IntKind.i64.wrap ((0 : Int) + v108)) (fun v109 : Int => (v109 = (len64 a)) ∧ True))) False)))
def f45.vc (a : Int) : Prop := (((4294967296 : Int) ≤ a → (((65536 : Int) ≤ (a / 4294967296) → (((256 : Int) ≤ ((a / 4294967296) / 65536) → ((0 : Int) ≤ (IntKind.u8.wrap (((a / 4294967296) / 65536) / 256)) ∧ (IntKind.u8.wrap (((a / 4294967296) / 65536) / 256)) < (256 : Int) ∧ (-9223372036854775808 ≤ ((56 : Int) + (bAt f45.s0 (IntKind.u8.wrap (((a / 4294967296) / 65536) / 256)))) ∧ ((56 : Int) + (bAt f45.s0 (IntKind.u8.wrap (((a / 4294967296) / 65536) / 256)))) ≤ 9223372036854775807 ∧ (((56 : Int) + (bAt f45.s0 (IntKind.u8.wrap (((a / 4294967296) / 65536) / 256)))) = len64 a)))) ∧ (¬ ((256 : Int) ≤ ((a / 4294967296) / 65536)) → ((0 : Int) ≤ (IntKind.u8.wrap ((a / 4294967296) / 65536)) ∧ (IntKind.u8.wrap ((a / 4294967296) / 65536)) < (256 : Int) ∧ (-9223372036854775808 ≤ ((48 : Int) + (bAt f45.s0 (IntKind.u8.wrap ((a / 4294967296) / 65536)))) ∧ ((48 : Int) + (bAt f45.s0 (IntKind.u8.wrap ((a / 4294967296) / 65536)))) ≤ 9223372036854775807 ∧ (((48 : Int) + (bAt f45.s0 (IntKind.u8.wrap ((a / 4294967296) / 65536)))) = len64 a)))))) ∧ (¬ ((65536 : Int) ≤ (a / 4294967296)) → (((256 : Int) ≤ (a / 4294967296) → ((0 : Int) ≤ (IntKind.u8.wrap ((a / 4294967296) / 256)) ∧ (IntKind.u8.wrap ((a / 4294967296) / 256)) < (256 : Int) ∧ (-9223372036854775808 ≤ ((40 : Int) + (bAt f45.s0 (IntKind.u8.wrap ((a / 4294967296) / 256)))) ∧ ((40 : Int) + (bAt f45.s0 (IntKind.u8.wrap ((a / 4294967296) / 256)))) ≤ 9223372036854775807 ∧ (((40 : Int) + (bAt f45.s0 (IntKind.u8.wrap ((a / 4294967296) / 256)))) = len64 a)))) ∧ (¬ ((256 : Int) ≤ (a / 4294967296)) → ((0 : Int) ≤ (IntKind.u8.wrap (a / 4294967296)) ∧ (IntKind.u8.wrap (a / 4294967296)) < (256 : Int) ∧ (-9223372036854775808 ≤ ((32 : Int) + (bAt f45.s0 (IntKind.u8.wrap (a / 4294967296)))) ∧ ((32 : Int) + (bAt f45.s0 (IntKind.u8.wrap (a / 4294967296)))) ≤ 9223372036854775807 ∧ (((32 : Int) + (bAt f45.s0 (IntKind.u8.wrap (a / 4294967296)))) = len64 a)))))))) ∧ (¬ ((4294967296 : Int) ≤ a) → (((65536 : Int) ≤ a → (((256 : Int) ≤ (a / 65536) → ((0 : Int) ≤ (IntKind.u8.wrap ((a / 65536) / 256)) ∧ (IntKind.u8.wrap ((a / 65536) / 256)) < (256 : Int) ∧ (-9223372036854775808 ≤ ((24 : Int) + (bAt f45.s0 (IntKind.u8.wrap ((a / 65536) / 256)))) ∧ ((24 : Int) + (bAt f45.s0 (IntKind.u8.wrap ((a / 65536) / 256)))) ≤ 9223372036854775807 ∧ (((24 : Int) + (bAt f45.s0 (IntKind.u8.wrap ((a / 65536) / 256)))) = len64 a)))) ∧ (¬ ((256 : Int) ≤ (a / 65536)) → ((0 : Int) ≤ (IntKind.u8.wrap (a / 65536)) ∧ (IntKind.u8.wrap (a / 65536)) < (256 : Int) ∧ (-9223372036854775808 ≤ ((16 : Int) + (bAt f45.s0 (IntKind.u8.wrap (a / 65536)))) ∧ ((16 : Int) + (bAt f45.s0 (IntKind.u8.wrap (a / 65536)))) ≤ 9223372036854775807 ∧ (((16 : Int) + (bAt f45.s0 (IntKind.u8.wrap (a / 65536)))) = len64 a)))))) ∧ (¬ ((65536 : Int) ≤ a) → (((256 : Int) ≤ a → ((0 : Int) ≤ (IntKind.u8.wrap (a / 256)) ∧ (IntKind.u8.wrap (a / 256)) < (256 : Int) ∧ (-9223372036854775808 ≤ ((8 : Int) + (bAt f45.s0 (IntKind.u8.wrap (a / 256)))) ∧ ((8 : Int) + (bAt f45.s0 (IntKind.u8.wrap (a / 256)))) ≤ 9223372036854775807 ∧ (((8 : Int) + (bAt f45.s0 (IntKind.u8.wrap (a / 256)))) = len64 a)))) ∧ (¬ ((256 : Int) ≤ a) → ((0 : Int) ≤ (IntKind.u8.wrap a) ∧ (IntKind.u8.wrap a) < (256 : Int) ∧ (-9223372036854775808 ≤ ((0 : Int) + (bAt f45.s0 (IntKind.u8.wrap a))) ∧ ((0 : Int) + (bAt f45.s0 (IntKind.u8.wrap a))) ≤ 9223372036854775807 ∧ (((0 : Int) + (bAt f45.s0 (IntKind.u8.wrap a))) = len64 a)))))))))
set_option maxRecDepth 100000 in
set_option maxHeartbeats 2000000 in
theorem f45.of (a : Int) (h : f45.vc a) : f45.tree a := br h Cnd.dec (fun h1 k122 => fdivK (by decide) (br k122 Cnd.dec (fun h4 k61 => fdivK (by decide) (br k61 Cnd.dec (fun h7 k32 => fdivK (by decide) (chk k32.2.2 Cnd.ix ⟨k32.1, k32.2.1⟩ (fun h10 k20 => wrapR.i64 (u8b _ _) (wrapK.i64 k20 (fun h14 h15 k16 => ⟨k16, trivial⟩))))) (fun h8 k33 => chk k33.2.2 Cnd.ix ⟨k33.1, k33.2.1⟩ (fun h21 k31 => wrapR.i64 (u8b _ _) (wrapK.i64 k31 (fun h25 h26 k27 => ⟨k27, trivial⟩)))))) (fun h5 k62 => br k62 Cnd.dec (fun h34 k59 => fdivK (by decide) (chk k59.2.2 Cnd.ix ⟨k59.1, k59.2.1⟩ (fun h37 k47 => wrapR.i64 (u8b _ _) (wrapK.i64 k47 (fun h41 h42 k43 => ⟨k43, trivial⟩))))) (fun h35 k60 => chk k60.2.2 Cnd.ix ⟨k60.1, k60.2.1⟩ (fun h48 k58 => wrapR.i64 (u8b _ _) (wrapK.i64 k58 (fun h52 h53 k54 => ⟨k54, trivial⟩))))))) (fun h2 k123 => br k123 Cnd.dec (fun h63 k120 => fdivK (by decide) (br k120 Cnd.dec (fun h66 k91 => fdivK (by decide) (chk k91.2.2 Cnd.ix ⟨k91.1, k91.2.1⟩ (fun h69 k79 => wrapR.i64 (u8b _ _) (wrapK.i64 k79 (fun h73 h74 k75 => ⟨k75, trivial⟩))))) (fun h67 k92 => chk k92.2.2 Cnd.ix ⟨k92.1, k92.2.1⟩ (fun h80 k90 => wrapR.i64 (u8b _ _) (wrapK.i64 k90 (fun h84 h85 k86 => ⟨k86, trivial⟩)))))) (fun h64 k121 => br k121 Cnd.dec (fun h93 k118 => fdivK (by decide) (chk k118.2.2 Cnd.ix ⟨k118.1, k118.2.1⟩ (fun h96 k106 => wrapR.i64 (u8b _ _) (wrapK.i64 k106 (fun h100 h101 k102 => ⟨k102, trivial⟩))))) (fun h94 k119 => chk k119.2.2 Cnd.ix ⟨k119.1, k119.2.1⟩ (fun h107 k117 => wrapR.i64 (u8b _ _) (wrapK.i64 k117 (fun h111 h112 k113 => ⟨k113, trivial⟩))))))
theorem f45.eq (a : Int) : (f45.af a).gives f45.env (f45.args a) (f45.blks a) (f45.res a) (f45.blks' a) = f45.tree a := by kernel_rfl
end Go.Abs

-- interregnum/pack.own
namespace Go.Abs
open Go
def f46.args (a : ByteArray) : List D := [.slice .ro 1 a.size (gstr a)]
def f46.blks (a : ByteArray) : List (List D) := []
def f46.res (a : ByteArray) : List D := [.slice (.own 0) 1 ((ownB a).size) (gstr (ownB a))]
def f46.blks' (a : ByteArray) : List (List D) := []
def f46.C : Contract := FnC f46.args f46.blks (fun a => own_pre a) f46.res f46.blks'
end Go.Abs

/- interregnum/pack.own -/
namespace Go.Abs
open Go
set_option linter.unusedVariables false
def f46.kills (a : ByteArray) : List Hint := []
def f46.cuts (a : ByteArray) : List (Nat × Σ β : Type, β → Tm) := []
def f46.af (a : ByteArray) : AF := AF.mk (.seq (.region [⟨(some 2), 0, (.nilSl 1), [], none⟩])
 (.seq (.region [⟨(some 3), 1, .move, [.t 0], none⟩,
  ⟨(some 4), 2, (.len false), [.t 3], none⟩,
  ⟨(some 5), 3, (.bin .add), [.t 4, .c (.int .i64 (9))], none⟩,
  ⟨(some 6), 4, (.makeSlice [.int .u8 (0)] 1), [.c (.int .i64 (0)), .t 5], none⟩,
  ⟨(some 7), 5, .move, [.t 0], none⟩,
  ⟨(some 8), 6, (.append 1 1), [.t 6, .t 7], none⟩,
  ⟨(some 2), 7, .move, [.t 8], none⟩])
 (.ret)))
  [.tmp 2] 0 8
def f46.env : Env := []
def f46.tree (a : ByteArray) : Prop := Let (IntKind.i64.wrap ((a.size : Int) + (9 : Int))) (fun v1 : Int => ((0 : Int) ≤ (0 : Int) ∧ (0 : Int) ≤ v1 ∧ room (Int.toNat v1 * 1)) ∧ ((0 = 0 ∧ room ((0 + a.size) * 1)) ∧ (((0 + a.size) = (0 + a.size)) ∧ ((0 + a.size) = ((ownB a).size)) ∧ (∀ i, i < ((ownB a).size) → DEqs ((gapp (fun _ => [.int .u8 (0 : Int)]) 0 (gstr a)) i) ((gstr (ownB a)) i)) ∧ True)))
def f46.vc (a : ByteArray) : Prop := (-9223372036854775808 ≤ ((a.size : Int) + (9 : Int)) ∧ ((a.size : Int) + (9 : Int)) ≤ 9223372036854775807 ∧ ((0 : Int) ≤ ((a.size : Int) + (9 : Int)) ∧ ((a.size : Int) + (9 : Int)) ≤ 1073741824 ∧ (0 + a.size ≤ 1073741824 ∧ (ByteArray.empty ++ a = ownB a))))
set_option maxRecDepth 100000 in
set_option maxHeartbeats 2000000 in
theorem f46.of (a : ByteArray) (h : f46.vc a) : f46.tree a := wrapK.i64 h (fun h3 h4 k5 => ⟨⟨(by decide), k5.1, room_ofI k5.2.1 (by decide)⟩, ⟨⟨rfl, (room_of k5.2.2.1 (by decide))⟩, ⟨rfl, slK (RdB.to (RdB.app RdB.nil RdB.self) k5.2.2.2) (trivial)⟩⟩⟩)
theorem f46.eq (a : ByteArray) : (f46.af a).gives f46.env (f46.args a) (f46.blks a) (f46.res a) (f46.blks' a) = f46.tree a := by kernel_rfl
end Go.Abs

-- interregnum/pack.Put
namespace Go.Abs
open Go
def f14.args (a : ByteArray × Int) : List D := [.slice .ro 1 a.1.size (gstr a.1), .int .u64 a.2]
def f14.blks (a : ByteArray × Int) : List (List D) := []
def f14.res (a : ByteArray × Int) : List D := [.slice (.own 0) 1 ((putB a).size) (gstr (putB a))]
def f14.blks' (a : ByteArray × Int) : List (List D) := []
def f14.C : Contract := FnC f14.args f14.blks (fun a => put_pre a) f14.res f14.blks'
end Go.Abs

/- interregnum/pack.Put -/
namespace Go.Abs
open Go
set_option linter.unusedVariables false
def f14.kills (a : ByteArray × Int) : List Hint := [.tell (ByteArray × Int) (fun x => ⟨[.dead, .int .u64 a.2, .dead, .dead, .dead, .dead, .slice (.own 10) 1 x.1.size (gstr x.1), .int .i64 x.2, .dead, .dead, .dead, .dead, .dead, .dead, .dead, .dead, .dead, .dead, .dead, .dead, .dead, .dead, .dead, .dead, .dead, .dead, .dead, .dead, .dead, .dead, .dead, .dead, .dead], [], [(10, 1, x.1.size)]⟩)]
def f14.cuts (a : ByteArray × Int) : List (Nat × Σ β : Type, β → Tm) := []
def f14.af (a : ByteArray × Int) : AF := AF.mk (.seq (.region [⟨(some 4), 0, (.nilSl 1), [], none⟩])
 (.seq (.region [⟨(some 8), 1, .move, [.t 1], none⟩,
  ⟨(some 9), 2, (.call false 45), [.t 8], none⟩,
  ⟨(some 10), 6, (.bin .add), [.t 9, .c (.int .i64 (7))], none⟩,
  ⟨(some 11), 7, (.bin .quo), [.t 10, .c (.int .i64 (8))], none⟩,
  ⟨(some 5), 8, .move, [.t 11], none⟩])
 (.seq (.region [⟨(some 12), 9, .move, [.t 0], none⟩,
  ⟨(some 13), 10, (.call false 46), [.t 12], none⟩,
  ⟨(some 14), 14, .move, [.t 5], none⟩,
  ⟨(some 15), 15, (.conv (.int .u8)), [.t 14], none⟩,
  ⟨(some 16), 16, (.buildSlice 1 1 [.int .u8 (0)] [(0, 1)]), [.t 15], none⟩,
  ⟨(some 17), 17, (.append 1 1), [.t 13, .t 16], none⟩,
  ⟨(some 6), 18, .move, [.t 17], none⟩])
 (.seq (.seq (.region [⟨(some 18), 19, .move, [.t 5], none⟩,
  ⟨(some 19), 20, (.bin .sub), [.t 18, .c (.int .i64 (1))], none⟩,
  ⟨(some 7), 21, .move, [.t 19], none⟩])
 (.block 0 (.loopT (ByteArray × Int) (fun x => ⟨[.dead, .int .u64 a.2, .dead, .dead, .dead, .dead, .slice (.own 10) 1 x.1.size (gstr x.1), .int .i64 x.2, .dead, .dead, .dead, .dead, .dead, .dead, .dead, .dead, .dead, .dead, .dead, .dead, .dead, .dead, .dead, .dead, .dead, .dead, .dead, .dead, .dead, .dead, .dead, .dead, .dead], [], [(10, 1, x.1.size)]⟩) 22 36 (.seq (.seq (.region [⟨(some 20), 22, .move, [.t 7], none⟩,
  ⟨(some 21), 23, (.bin .geq), [.t 20, .c (.int .i64 (0))], none⟩])
 (.cond (.t 21) (.skip) (.exit 0)))
 (.seq (.block 1 (.region [⟨(some 24), 24, .move, [.t 6], none⟩,
  ⟨(some 25), 25, .move, [.t 1], none⟩,
  ⟨(some 26), 26, .move, [.t 7], none⟩,
  ⟨(some 27), 27, (.bin .mul), [.c (.int .i64 (8)), .t 26], none⟩,
  ⟨(some 28), 28, (.bin .shr), [.t 25, .t 27], none⟩,
  ⟨(some 29), 29, (.conv (.int .u8)), [.t 28], none⟩,
  ⟨(some 30), 30, (.buildSlice 1 1 [.int .u8 (0)] [(0, 1)]), [.t 29], none⟩,
  ⟨(some 31), 31, (.append 1 1), [.t 24, .t 30], none⟩,
  ⟨(some 6), 32, .move, [.t 31], none⟩]))
 (.region [⟨(some 22), 33, .move, [.t 7], none⟩,
  ⟨(some 23), 34, (.bin .sub), [.t 22, .c (.int .i64 (1))], none⟩,
  ⟨(some 7), 35, .move, [.t 23], none⟩]))))))
 (.seq (.region [⟨(some 32), 36, .move, [.t 6], none⟩,
  ⟨(some 4), 37, .move, [.t 32], none⟩])
 (.ret))))))
  [.tmp 4] 0 31
def f14.env : Env := [(45, f45.C), (46, f46.C)]
def f14.tree (a : ByteArray × Int) : Prop := ∃ c1 : Int, (a.2 = c1) ∧ (len64_pre c1) ∧ Let (IntKind.i64.wrap ((len64 c1) + (7 : Int))) (fun v2 : Int => Let (IntKind.i64.wrap (Int.tdiv v2 (8 : Int))) (fun v3 : Int => ∃ c4 : ByteArray, (a.1.size = c4.size) ∧ (∀ i, i < c4.size → DEqs ((gstr a.1) i) ((gstr c4) i)) ∧ (own_pre c4) ∧ (((ownB c4).size) = ((ownB c4).size) ∧ room ((((ownB c4).size) + 1) * 1)) ∧ (Let (IntKind.i64.wrap (v3 - (1 : Int))) (fun v5 : Int => ∃ (I7 : (ByteArray × Int) → Prop) (μ8 : (ByteArray × Int) → Nat), (∃ x6 : ByteArray × Int, (a.2 = a.2) ∧ ((((ownB c4).size) + 1) = x6.1.size) ∧ (∀ i, i < x6.1.size → DEqs ((gapp (gstr (ownB c4)) ((ownB c4).size) (fun _ => [.int .u8 (IntKind.u8.wrap v3)])) i) ((gstr x6.1) i)) ∧ (v5 = x6.2) ∧ ((((ownB c4).size) + 1) = x6.1.size) ∧ I7 x6) ∧ ∀ y9 : ByteArray × Int, I7 y9 → (Br (decide ((0 : Int) ≤ y9.2)) (Let (IntKind.i64.wrap ((8 : Int) * y9.2)) (fun v12 : Int => Br (decide ((0 : Int) ≤ v12)) (Let (Int.fdiv a.2 (2 ^ min (Int.toNat v12) 64)) (fun v14 : Int => (y9.1.size = y9.1.size ∧ room ((y9.1.size + 1) * 1)) ∧ (Let (IntKind.i64.wrap (y9.2 - (1 : Int))) (fun v15 : Int => ∃ x16 : ByteArray × Int, (a.2 = a.2) ∧ ((y9.1.size + 1) = x16.1.size) ∧ (∀ i, i < x16.1.size → DEqs ((gapp (gstr y9.1) y9.1.size (fun _ => [.int .u8 (IntKind.u8.wrap v14)])) i) ((gstr x16.1) i)) ∧ (v15 = x16.2) ∧ ((y9.1.size + 1) = x16.1.size) ∧ I7 x16 ∧ μ8 x16 < μ8 y9)))) False)) ((y9.1.size = y9.1.size) ∧ (y9.1.size = ((putB a).size)) ∧ (∀ i, i < ((putB a).size) → DEqs ((gstr y9.1) i) ((gstr (putB a)) i)) ∧ True))))))
def f14.vc (a : ByteArray × Int) : Prop := (len64_pre a.2 ∧ (-9223372036854775808 ≤ ((len64 (a.2)) + (7 : Int)) ∧ ((len64 (a.2)) + (7 : Int)) ≤ 9223372036854775807 ∧ (0 ≤ ((len64 (a.2)) + (7 : Int)) ∧ ((len64 (a.2)) + (7 : Int)) ≤ 9223372036854775807 ∧ (own_pre a.1 ∧ (((ownB (a.1)).size) + 1 ≤ 1073741824 ∧ (-9223372036854775808 ≤ ((((len64 (a.2)) + (7 : Int)) / (8 : Int)) - (1 : Int)) ∧ ((((len64 (a.2)) + (7 : Int)) / (8 : Int)) - (1 : Int)) ≤ 9223372036854775807 ∧ (∃ (I7 : (ByteArray × Int) → Prop) (μ8 : (ByteArray × Int) → Nat), I7 ((ownB (a.1)) ++ (by1 (IntKind.u8.wrap (((len64 (a.2)) + (7 : Int)) / (8 : Int)))), ((((len64 (a.2)) + (7 : Int)) / (8 : Int)) - (1 : Int))) ∧ ∀ y9 : ByteArray × Int, I7 y9 → (((0 : Int) ≤ y9.2 → (-9223372036854775808 ≤ ((8 : Int) * y9.2) ∧ ((8 : Int) * y9.2) ≤ 9223372036854775807 ∧ (((0 : Int) ≤ ((8 : Int) * y9.2)) ∧ (y9.1.size + 1 ≤ 1073741824 ∧ (-9223372036854775808 ≤ (y9.2 - (1 : Int)) ∧ (y9.2 - (1 : Int)) ≤ 9223372036854775807 ∧ (I7 (y9.1 ++ (by1 (IntKind.u8.wrap (a.2 / (2 ^ min (Int.toNat ((8 : Int) * y9.2)) 64)))), (y9.2 - (1 : Int))) ∧ μ8 (y9.1 ++ (by1 (IntKind.u8.wrap (a.2 / (2 ^ min (Int.toNat ((8 : Int) * y9.2)) 64)))), (y9.2 - (1 : Int))) < μ8 y9)))))) ∧ (¬ ((0 : Int) ≤ y9.2) → (y9.1 = putB a))))))))))
set_option maxRecDepth 100000 in
set_option maxHeartbeats 2000000 in
theorem f14.of (a : ByteArray × Int) (h : f14.vc a) : f14.tree a := ⟨a.2, ⟨rfl, ⟨h.1, wrapK.i64 h.2 (fun h35 h36 k37 => divK.i64 k37.1 k37.2.1 (by decide) (⟨a.1, slK RdB.self (⟨k37.2.2.1, ⟨⟨rfl, (room_of k37.2.2.2.1 (by decide))⟩, wrapK.i64 k37.2.2.2.2 (fun h31 h32 k33 => Exists.elim k33 (fun I7 h28_ => Exists.elim h28_ (fun μ8 h28 => ⟨I7, μ8, ⟨((ownB (a.1)) ++ (by1 (IntKind.u8.wrap (((len64 (a.2)) + (7 : Int)) / (8 : Int)))), ((((len64 (a.2)) + (7 : Int)) / (8 : Int)) - (1 : Int))), ⟨rfl, slK (RdB.app RdB.self (RdB.one (by first | exact u8w _ | exact u8b _ _ | exact u8bN _ _ | decide | omega))) (⟨rfl, ⟨(numB (gapp (gstr (ownB (a.1))) ((ownB (a.1)).size) (fun _ => [.int .u8 (IntKind.u8.wrap (((len64 (a.2)) + (7 : Int)) / (8 : Int)))])) (RdB.app RdB.self (RdB.one (by first | exact u8w _ | exact u8b _ _ | exact u8bN _ _ | decide | omega)))), h28.1⟩⟩)⟩⟩, fun y9 h30 => br (h28.2 y9 h30) Cnd.dec (fun h10 k26 => wrapK.i64 k26 (fun h22 h23 k24 => chk k24.2 Cnd.dec k24.1 (fun h13 k21 => fdivK (Int.le_of_lt (Int.pow_pos (by decide))) (⟨⟨rfl, (room_of k21.1 (by decide))⟩, wrapK.i64 k21.2 (fun h18 h19 k20 => ⟨(y9.1 ++ (by1 (IntKind.u8.wrap (a.2 / (2 ^ min (Int.toNat ((8 : Int) * y9.2)) 64)))), (y9.2 - (1 : Int))), ⟨rfl, slK (RdB.app RdB.self (RdB.one (by first | exact u8w _ | exact u8b _ _ | exact u8bN _ _ | decide | omega))) (⟨rfl, ⟨(numB (gapp (gstr y9.1) y9.1.size (fun _ => [.int .u8 (IntKind.u8.wrap (a.2 / (2 ^ min (Int.toNat ((8 : Int) * y9.2)) 64)))])) (RdB.app RdB.self (RdB.one (by first | exact u8w _ | exact u8b _ _ | exact u8bN _ _ | decide | omega)))), k20⟩⟩)⟩⟩)⟩)))) (fun h11 k27 => ⟨rfl, slK (RdB.to RdB.self k27) (trivial)⟩)⟩)))⟩⟩)⟩))⟩⟩⟩
theorem f14.eq (a : ByteArray × Int) : (f14.af a).gives f14.env (f14.args a) (f14.blks a) (f14.res a) (f14.blks' a) = f14.tree a := by kernel_rfl
end Go.Abs

-- interregnum/pack.PutText
namespace Go.Abs
open Go
def f16.args (a : ByteArray × ByteArray) : List D := [.slice .ro 1 a.1.size (gstr a.1), .str a.2]
def f16.blks (a : ByteArray × ByteArray) : List (List D) := []
def f16.res (a : ByteArray × ByteArray) : List D := [.slice (.own 0) 1 ((putText a).size) (gstr (putText a))]
def f16.blks' (a : ByteArray × ByteArray) : List (List D) := []
def f16.C : Contract := FnC f16.args f16.blks (fun a => putText_pre a) f16.res f16.blks'
end Go.Abs

/- interregnum/pack.PutText -/
namespace Go.Abs
open Go
set_option linter.unusedVariables false
def f16.kills (a : ByteArray × ByteArray) : List Hint := []
def f16.cuts (a : ByteArray × ByteArray) : List (Nat × Σ β : Type, β → Tm) := []
def f16.af (a : ByteArray × ByteArray) : AF := AF.mk (.seq (.region [⟨(some 4), 0, (.nilSl 1), [], none⟩])
 (.seq (.region [⟨(some 5), 1, .move, [.t 0], none⟩,
  ⟨(some 6), 2, .move, [.t 1], none⟩,
  ⟨(some 7), 3, (.len true), [.t 6], none⟩,
  ⟨(some 8), 4, (.conv (.int .u64)), [.t 7], none⟩,
  ⟨(some 9), 5, (.call false 14), [.t 5, .t 8], none⟩,
  ⟨(some 10), 9, .move, [.t 1], none⟩,
  ⟨(some 11), 10, (.append 1 1), [.t 9, .t 10], none⟩,
  ⟨(some 4), 11, .move, [.t 11], none⟩])
 (.ret)))
  [.tmp 4] 0 10
def f16.env : Env := [(14, f14.C)]
def f16.tree (a : ByteArray × ByteArray) : Prop := Let (IntKind.u64.wrap (a.2.size : Int)) (fun v1 : Int => ∃ c2 : ByteArray × Int, (a.1.size = c2.1.size) ∧ (∀ i, i < c2.1.size → DEqs ((gstr a.1) i) ((gstr c2.1) i)) ∧ (v1 = c2.2) ∧ (put_pre c2) ∧ (((putB c2).size) = ((putB c2).size) ∧ room ((((putB c2).size) + a.2.size) * 1)) ∧ (((((putB c2).size) + a.2.size) = (((putB c2).size) + a.2.size)) ∧ ((((putB c2).size) + a.2.size) = ((putText a).size)) ∧ (∀ i, i < ((putText a).size) → DEqs ((gapp (gstr (putB c2)) ((putB c2).size) (gstr a.2)) i) ((gstr (putText a)) i)) ∧ True))
def f16.vc (a : ByteArray × ByteArray) : Prop := (0 ≤ (a.2.size : Int) ∧ (a.2.size : Int) ≤ 18446744073709551615 ∧ (put_pre (a.1, (a.2.size : Int)) ∧ (((putB (a.1, (a.2.size : Int))).size) + a.2.size ≤ 1073741824 ∧ ((putB (a.1, (a.2.size : Int))) ++ a.2 = putText a))))
set_option maxRecDepth 100000 in
set_option maxHeartbeats 2000000 in
theorem f16.of (a : ByteArray × ByteArray) (h : f16.vc a) : f16.tree a := wrapK.u64 h (fun h5 h6 k7 => ⟨(a.1, (a.2.size : Int)), slK RdB.self (⟨rfl, ⟨k7.1, ⟨⟨rfl, (room_of k7.2.1 (by decide))⟩, ⟨rfl, slK (RdB.to (RdB.app RdB.self RdB.self) k7.2.2) (trivial)⟩⟩⟩⟩)⟩)
theorem f16.eq (a : ByteArray × ByteArray) : (f16.af a).gives f16.env (f16.args a) (f16.blks a) (f16.res a) (f16.blks' a) = f16.tree a := by kernel_rfl
end Go.Abs

-- interregnum/model.putAmount
namespace Go.Abs
open Go
def f62.args (a : ByteArray × T_ar3_i64) : List D := [.slice .ro 1 a.1.size (gstr a.1), .agg [.int .i64 a.2.1, .int .i64 a.2.2.1, .int .i64 a.2.2.2]]
def f62.blks (a : ByteArray × T_ar3_i64) : List (List D) := []
def f62.res (a : ByteArray × T_ar3_i64) : List D := [.slice .ro 1 ((putAmt a).size) (gstr (putAmt a))]
def f62.blks' (a : ByteArray × T_ar3_i64) : List (List D) := []
def f62.C : Contract := FnC f62.args f62.blks (fun a => putAmt_pre a) f62.res f62.blks'
end Go.Abs

/- interregnum/model.putAmount -/
namespace Go.Abs
open Go
set_option linter.unusedVariables false
def f62.kills (a : ByteArray × T_ar3_i64) : List Hint := [.unroll 4 [1, 2, 3, 4, 5, 6, 9, 10, 11, 12, 13, 14, 15, 16] [] [1]]
def f62.cuts (a : ByteArray × T_ar3_i64) : List (Nat × Σ β : Type, β → Tm) := []
def f62.af (a : ByteArray × T_ar3_i64) : AF := AF.mk (.seq (.region [⟨(some 3), 0, .box, [.t 1], none⟩,
  ⟨(some 4), 1, (.nilSl 1), [], none⟩])
 (.seq (.seq (.region [⟨(some 7), 2, (.load true 3), [.t 3], none⟩,
  ⟨(some 8), 3, .move, [.c (.int .i64 (0))], none⟩])
 (.block 0 (.loop 4 [1, 2, 3, 4, 5, 6, 9, 10, 11, 12, 13, 14, 15, 16] [] [1] 4 17 (.seq (.region [⟨(some 9), 4, (.bin .lss), [.t 8, .c (.int .i64 (3))], none⟩])
 (.seq (.cond (.t 9) (.skip) (.exit 0))
 (.seq (.block 1 (.seq (.region [⟨(some 10), 5, (.indexArr false 1 3), [.t 7, .t 8], none⟩,
  ⟨(some 6), 6, .move, [.t 10], none⟩])
 (.region [⟨(some 11), 7, .move, [.t 0], none⟩,
  ⟨(some 12), 8, .move, [.t 6], none⟩,
  ⟨(some 13), 9, (.conv (.int .u64)), [.t 12], none⟩,
  ⟨(some 14), 10, (.call false 14), [.t 11, .t 13], none⟩,
  ⟨(some 0), 14, .move, [.t 14], none⟩])))
 (.region [⟨(some 15), 15, (.bin .add), [.t 8, .c (.int .i64 (1))], none⟩,
  ⟨(some 8), 16, .move, [.t 15], none⟩])))))))
 (.seq (.region [⟨(some 16), 17, .move, [.t 0], none⟩,
  ⟨(some 4), 18, .move, [.t 16], none⟩])
 (.ret))))
  [.tmp 4] 0 15
def f62.env : Env := [(14, f14.C)]
def f62.tree (a : ByteArray × T_ar3_i64) : Prop := Let (IntKind.u64.wrap a.2.1) (fun v1 : Int => ∃ c2 : ByteArray × Int, (a.1.size = c2.1.size) ∧ (∀ i, i < c2.1.size → DEqs ((gstr a.1) i) ((gstr c2.1) i)) ∧ (v1 = c2.2) ∧ (put_pre c2) ∧ Let (IntKind.u64.wrap a.2.2.1) (fun v3 : Int => ∃ c4 : ByteArray × Int, (((putB c2).size) = c4.1.size) ∧ (∀ i, i < c4.1.size → DEqs ((gstr (putB c2)) i) ((gstr c4.1) i)) ∧ (v3 = c4.2) ∧ (put_pre c4) ∧ Let (IntKind.u64.wrap a.2.2.2) (fun v5 : Int => ∃ c6 : ByteArray × Int, (((putB c4).size) = c6.1.size) ∧ (∀ i, i < c6.1.size → DEqs ((gstr (putB c4)) i) ((gstr c6.1) i)) ∧ (v5 = c6.2) ∧ (put_pre c6) ∧ (((putB c6).size) = ((putAmt a).size)) ∧ (∀ i, i < ((putAmt a).size) → DEqs ((gstr (putB c6)) i) ((gstr (putAmt a)) i)) ∧ True)))
def f62.vc (a : ByteArray × T_ar3_i64) : Prop := (0 ≤ a.2.1 ∧ a.2.1 ≤ 18446744073709551615 ∧ (put_pre (a.1, (a.2.1)) ∧ (0 ≤ a.2.2.1 ∧ a.2.2.1 ≤ 18446744073709551615 ∧ (put_pre ((putB (a.1, (a.2.1))), (a.2.2.1)) ∧ (0 ≤ a.2.2.2 ∧ a.2.2.2 ≤ 18446744073709551615 ∧ (put_pre ((putB ((putB (a.1, (a.2.1))), (a.2.2.1))), (a.2.2.2)) ∧ ((putB ((putB ((putB (a.1, (a.2.1))), (a.2.2.1))), (a.2.2.2))) = putAmt a)))))))
set_option maxRecDepth 100000 in
set_option maxHeartbeats 2000000 in
theorem f62.of (a : ByteArray × T_ar3_i64) (h : f62.vc a) : f62.tree a := wrapK.u64 h (fun h17 h18 k19 => ⟨(a.1, (a.2.1)), slK RdB.self (⟨rfl, ⟨k19.1, wrapK.u64 k19.2 (fun h13 h14 k15 => ⟨((putB (a.1, (a.2.1))), (a.2.2.1)), slK RdB.self (⟨rfl, ⟨k15.1, wrapK.u64 k15.2 (fun h9 h10 k11 => ⟨((putB ((putB (a.1, (a.2.1))), (a.2.2.1))), (a.2.2.2)), slK RdB.self (⟨rfl, ⟨k11.1, slK (RdB.to RdB.self k11.2) (trivial)⟩⟩)⟩)⟩⟩)⟩)⟩⟩)⟩)
theorem f62.eq (a : ByteArray × T_ar3_i64) : (f62.af a).gives f62.env (f62.args a) (f62.blks a) (f62.res a) (f62.blks' a) = f62.tree a := by kernel_rfl
end Go.Abs

-- interregnum/model.PutQueue
namespace Go.Abs
open Go
def f41.args (a : ByteArray × T_api_Queue) : List D := [.slice .ro 1 a.1.size (gstr a.1), .agg [.str a.2.1, .int .i64 a.2.2.1, .int .i64 a.2.2.2.1, .int .i64 a.2.2.2.2]]
def f41.blks (a : ByteArray × T_api_Queue) : List (List D) := []
def f41.res (a : ByteArray × T_api_Queue) : List D := [.slice .ro 1 ((putQueue a).size) (gstr (putQueue a))]
def f41.blks' (a : ByteArray × T_api_Queue) : List (List D) := []
def f41.C : Contract := FnC f41.args f41.blks (fun a => putQueue_pre a) f41.res f41.blks'
end Go.Abs

/- interregnum/model.PutQueue -/
namespace Go.Abs
open Go
set_option linter.unusedVariables false
def f41.kills (a : ByteArray × T_api_Queue) : List Hint := []
def f41.cuts (a : ByteArray × T_api_Queue) : List (Nat × Σ β : Type, β → Tm) := []
def f41.af (a : ByteArray × T_api_Queue) : AF := AF.mk (.seq (.region [⟨(some 3), 0, .box, [.t 1], none⟩,
  ⟨(some 4), 1, (.nilSl 1), [], none⟩])
 (.seq (.seq (.region [⟨(some 5), 2, (.load true 4), [.t 3], none⟩,
  ⟨(some 6), 3, (.call false 25), [.t 5], none⟩,
  ⟨(some 7), 7, (.un .not), [.t 6], none⟩])
 (.cond (.t 7) (.seq (.region [⟨(some 8), 8, .move, [.t 0], none⟩,
  ⟨(some 9), 9, (.call false 60), [.t 8], none⟩,
  ⟨(some 4), 13, .move, [.t 9], none⟩])
 (.ret)) (.skip)))
 (.seq (.region [⟨(some 10), 14, .move, [.t 0], none⟩,
  ⟨(some 11), 15, (.fieldAddr 0), [.t 3], none⟩,
  ⟨(some 12), 16, (.load false 1), [.t 11], none⟩,
  ⟨(some 13), 17, (.call false 16), [.t 10, .t 12], none⟩,
  ⟨(some 14), 21, (.fieldAddr 1), [.t 3], none⟩,
  ⟨(some 15), 22, (.load true 3), [.t 14], none⟩,
  ⟨(some 16), 23, (.call false 62), [.t 13, .t 15], none⟩,
  ⟨(some 4), 27, .move, [.t 16], none⟩])
 (.ret))))
  [.tmp 4] 0 15
def f41.env : Env := [(25, f25.C), (60, f60.C), (16, f16.C), (62, f62.C)]
def f41.tree (a : ByteArray × T_api_Queue) : Prop := ∃ c1 : T_api_Queue, (a.2.1 = c1.1) ∧ (a.2.2.1 = c1.2.1) ∧ (a.2.2.2.1 = c1.2.2.1) ∧ (a.2.2.2.2 = c1.2.2.2) ∧ (queue_pre c1) ∧ Br (!(queueB c1)) (∃ c4 : ByteArray, (a.1.size = c4.size) ∧ (∀ i, i < c4.size → DEqs ((gstr a.1) i) ((gstr c4) i)) ∧ (same_pre c4) ∧ (((sameB c4).size) = ((sameB c4).size)) ∧ (((sameB c4).size) = ((putQueue a).size)) ∧ (∀ i, i < ((putQueue a).size) → DEqs ((gstr (sameB c4)) i) ((gstr (putQueue a)) i)) ∧ True) (∃ c7 : ByteArray × ByteArray, (a.1.size = c7.1.size) ∧ (∀ i, i < c7.1.size → DEqs ((gstr a.1) i) ((gstr c7.1) i)) ∧ (a.2.1 = c7.2) ∧ (putText_pre c7) ∧ ∃ c8 : ByteArray × T_ar3_i64, (((putText c7).size) = c8.1.size) ∧ (∀ i, i < c8.1.size → DEqs ((gstr (putText c7)) i) ((gstr c8.1) i)) ∧ (a.2.2.1 = c8.2.1) ∧ (a.2.2.2.1 = c8.2.2.1) ∧ (a.2.2.2.2 = c8.2.2.2) ∧ (putAmt_pre c8) ∧ (((putAmt c8).size) = ((putQueue a).size)) ∧ (∀ i, i < ((putQueue a).size) → DEqs ((gstr (putAmt c8)) i) ((gstr (putQueue a)) i)) ∧ True)
def f41.vc (a : ByteArray × T_api_Queue) : Prop := (queue_pre a.2 ∧ ((¬ ((queueB (a.2)) = true) → (same_pre a.1 ∧ ((sameB (a.1)) = putQueue a))) ∧ (¬ (¬ ((queueB (a.2)) = true)) → (putText_pre (a.1, a.2.1) ∧ (putAmt_pre ((putText (a.1, a.2.1)), a.2.2) ∧ ((putAmt ((putText (a.1, a.2.1)), a.2.2)) = putQueue a))))))
set_option maxRecDepth 100000 in
set_option maxHeartbeats 2000000 in
theorem f41.of (a : ByteArray × T_api_Queue) (h : f41.vc a) : f41.tree a := ⟨a.2, ⟨rfl, ⟨rfl, ⟨rfl, ⟨rfl, ⟨h.1, br h.2 (Cnd.not Cnd.b) (fun h2 k12 => ⟨a.1, slK RdB.self (⟨k12.1, ⟨rfl, slK (RdB.to RdB.self k12.2) (trivial)⟩⟩)⟩) (fun h3 k13 => ⟨(a.1, a.2.1), slK RdB.self (⟨rfl, ⟨k13.1, ⟨((putText (a.1, a.2.1)), a.2.2), slK RdB.self (⟨rfl, ⟨rfl, ⟨rfl, ⟨k13.2.1, slK (RdB.to RdB.self k13.2.2) (trivial)⟩⟩⟩⟩)⟩⟩⟩)⟩)⟩⟩⟩⟩⟩⟩
theorem f41.eq (a : ByteArray × T_api_Queue) : (f41.af a).gives f41.env (f41.args a) (f41.blks a) (f41.res a) (f41.blks' a) = f41.tree a := by kernel_rfl
end Go.Abs

-- interregnum/interregnumlaw05.awake
namespace Go.Abs
open Go
def f22.args (a : Unit) : List D := []
def f22.blks (a : Unit) : List (List D) := []
def f22.res (a : Unit) : List D := [.bool (lawTrue a)]
def f22.blks' (a : Unit) : List (List D) := []
def f22.C : Contract := FnC f22.args f22.blks (fun _ => True) f22.res f22.blks'
end Go.Abs

/- interregnum/interregnumlaw05.awake -/
namespace Go.Abs
open Go
set_option linter.unusedVariables false
def f22.s0 : ByteArray := ⟨#[113]⟩
def f22.kills (a : Unit) : List Hint := []
def f22.cuts (a : Unit) : List (Nat × Σ β : Type, β → Tm) := []
def f22.af (a : Unit) : AF := AF.mk (.seq (.region [⟨(some 0), 0, .move, [.c (.bool false)], none⟩])
 (.seq (.region [⟨(some 2), 1, (.build [.int .i64 (0), .int .i64 (0), .int .i64 (0)] [(0, 1)]), [.c (.int .i64 (1))], none⟩,
  ⟨(some 3), 2, (.build [.str ByteArray.empty, .int .i64 (0), .int .i64 (0), .int .i64 (0)] [(0, 1), (1, 3)]), [.c (.str f22.s0), .t 2], none⟩,
  ⟨(some 4), 3, (.call false 41), [.c (.slice .full 1 0 gnil), .t 3], none⟩,
  ⟨(some 1), 7, .move, [.t 4], none⟩])
 (.seq (.region [⟨(some 5), 8, (.build [.str ByteArray.empty, .int .i64 (0), .int .i64 (0), .int .i64 (0)] [(0, 1)]), [.c (.str f22.s0)], none⟩,
  ⟨(some 6), 9, (.call false 25), [.t 5], none⟩,
  ⟨(some 7), 13, .move, [.t 6], none⟩,
  ⟨(some 8), 14, .move, [.t 1], (some (7, true))⟩,
  ⟨(some 9), 15, (.len false), [.t 8], (some (7, true))⟩,
  ⟨(some 10), 16, (.bin .eql), [.t 9, .c (.int .i64 (7))], (some (7, true))⟩,
  ⟨(some 11), 17, .pick, [.t 7, .t 10, .c (.bool false)], none⟩,
  ⟨(some 12), 18, .move, [.t 11], none⟩,
  ⟨(some 13), 19, .move, [.t 1], (some (12, true))⟩,
  ⟨(some 14), 20, (.indexAddr 1 none), [.t 13, .c (.int .i64 (2))], (some (12, true))⟩,
  ⟨(some 15), 21, (.load false 1), [.t 14], (some (12, true))⟩,
  ⟨(some 16), 22, (.bin .eql), [.t 15, .c (.int .u8 (113))], (some (12, true))⟩,
  ⟨(some 17), 23, .pick, [.t 12, .t 16, .c (.bool false)], none⟩,
  ⟨(some 0), 24, .move, [.t 17], none⟩])
 (.ret))))
  [.tmp 0] 0 18
def f22.env : Env := [(41, f41.C), (25, f25.C)]
def f22.tree (a : Unit) : Prop := ∃ c1 : ByteArray × T_api_Queue, (0 = c1.1.size) ∧ (∀ i, i < c1.1.size → DEqs (gnil i) ((gstr c1.1) i)) ∧ (f22.s0 = c1.2.1) ∧ ((1 : Int) = c1.2.2.1) ∧ ((0 : Int) = c1.2.2.2.1) ∧ ((0 : Int) = c1.2.2.2.2) ∧ (putQueue_pre c1) ∧ ∃ c2 : T_api_Queue, (f22.s0 = c2.1) ∧ ((0 : Int) = c2.2.1) ∧ ((0 : Int) = c2.2.2.1) ∧ ((0 : Int) = c2.2.2.2) ∧ (queue_pre c2) ∧ Br (queueB c2) (Br (((putQueue c1).size : Int) == (7 : Int)) (Br (decide ((0 : Int) ≤ (2 : Int)) && decide ((2 : Int) < ((putQueue c1).size : Int))) ((((bAt (putQueue c1) (2 : Int)) == (113 : Int)) = (lawTrue a)) ∧ True) False) ((false = (lawTrue a)) ∧ True)) ((false = (lawTrue a)) ∧ True)
def f22.vc (a : Unit) : Prop := (putQueue_pre (ByteArray.empty, (f22.s0, ((1 : Int), (0 : Int), (0 : Int)))) ∧ (queue_pre (f22.s0, ((0 : Int), (0 : Int), (0 : Int))) ∧ (((queueB (f22.s0, ((0 : Int), (0 : Int), (0 : Int)))) = true → ((((putQueue (ByteArray.empty, (f22.s0, ((1 : Int), (0 : Int), (0 : Int))))).size : Int) = (7 : Int) → ((2 : Int) < ((putQueue (ByteArray.empty, (f22.s0, ((1 : Int), (0 : Int), (0 : Int))))).size : Int) ∧ (((bAt (putQueue (ByteArray.empty, (f22.s0, ((1 : Int), (0 : Int), (0 : Int))))) (2 : Int)) == (113 : Int)) = lawTrue a))) ∧ (¬ (((putQueue (ByteArray.empty, (f22.s0, ((1 : Int), (0 : Int), (0 : Int))))).size : Int) = (7 : Int)) → (false = lawTrue a)))) ∧ (¬ ((queueB (f22.s0, ((0 : Int), (0 : Int), (0 : Int)))) = true) → (false = lawTrue a)))))
set_option maxRecDepth 100000 in
set_option maxHeartbeats 2000000 in
theorem f22.of (a : Unit) (h : f22.vc a) : f22.tree a := ⟨(ByteArray.empty, (f22.s0, ((1 : Int), (0 : Int), (0 : Int)))), slK RdB.nil (⟨rfl, ⟨rfl, ⟨rfl, ⟨rfl, ⟨h.1, ⟨(f22.s0, ((0 : Int), (0 : Int), (0 : Int))), ⟨rfl, ⟨rfl, ⟨rfl, ⟨rfl, ⟨h.2.1, br h.2.2 Cnd.b (fun h3 k14 => br k14 Cnd.eq (fun h5 k11 => chk k11.2 Cnd.ix ⟨(by decide), k11.1⟩ (fun h7 k9 => ⟨k9, trivial⟩)) (fun h6 k12 => ⟨k12, trivial⟩)) (fun h4 k15 => ⟨k15, trivial⟩)⟩⟩⟩⟩⟩⟩⟩⟩⟩⟩⟩)⟩
theorem f22.eq (a : Unit) : (f22.af a).gives f22.env (f22.args a) (f22.blks a) (f22.res a) (f22.blks' a) = f22.tree a := by kernel_rfl
end Go.Abs

-- interregnum/interregnumlaw05.labels
namespace Go.Abs
open Go
def f47.args (a : List (T_api_Label)) : List D := [.slice .ro 2 a.length (gl e_api_Label a)]
def f47.blks (a : List (T_api_Label)) : List (List D) := []
def f47.res (a : List (T_api_Label)) : List D := [.bool (labs5 a)]
def f47.blks' (a : List (T_api_Label)) : List (List D) := []
def f47.C : Contract := FnC f47.args f47.blks (fun a => lbls_pre a) f47.res f47.blks'
end Go.Abs

/- interregnum/interregnumlaw05.labels -/
namespace Go.Abs
open Go
set_option linter.unusedVariables false
def f47.kills (a : List (T_api_Label)) : List Hint := [.tell Int (fun x => ⟨[.slice .ro 2 a.length (gl e_api_Label a), .dead, .dead, .dead, .dead, .dead, .dead, .dead, .int .i64 (a.length : Int), .int .i64 x, .dead, .dead, .dead, .dead, .dead, .dead, .dead, .dead, .dead, .dead, .dead, .dead, .dead, .dead, .dead, .dead, .dead], [], []⟩)]
def f47.cuts (a : List (T_api_Label)) : List (Nat × Σ β : Type, β → Tm) := []
def f47.af (a : List (T_api_Label)) : AF := AF.mk (.seq (.region [⟨(some 2), 0, .move, [.c (.bool false)], none⟩])
 (.seq (.seq (.region [⟨(some 4), 1, .move, [.t 0], none⟩,
  ⟨(some 5), 2, (.len false), [.t 4], none⟩,
  ⟨(some 6), 3, (.bin .gtr), [.t 5, .c (.int .i64 (100))], none⟩])
 (.cond (.t 6) (.seq (.region [⟨(some 2), 4, .move, [.c (.bool false)], none⟩])
 (.ret)) (.skip)))
 (.seq (.seq (.region [⟨(some 7), 5, .move, [.t 0], none⟩,
  ⟨(some 8), 6, (.len false), [.t 7], none⟩,
  ⟨(some 9), 7, .move, [.c (.int .i64 (0))], none⟩])
 (.block 0 (.loopT Int (fun x => ⟨[.slice .ro 2 a.length (gl e_api_Label a), .dead, .dead, .dead, .dead, .dead, .dead, .dead, .int .i64 (a.length : Int), .int .i64 x, .dead, .dead, .dead, .dead, .dead, .dead, .dead, .dead, .dead, .dead, .dead, .dead, .dead, .dead, .dead, .dead, .dead], [], []⟩) 8 28 (.seq (.region [⟨(some 10), 8, (.bin .lss), [.t 9, .t 8], none⟩])
 (.seq (.cond (.t 10) (.skip) (.exit 0))
 (.seq (.block 1 (.seq (.region [⟨(some 11), 9, .move, [.t 9], none⟩,
  ⟨(some 3), 10, .move, [.t 11], none⟩])
 (.seq (.region [⟨(some 12), 11, .move, [.t 0], none⟩,
  ⟨(some 13), 12, .move, [.t 3], none⟩,
  ⟨(some 14), 13, (.indexAddr 2 none), [.t 12, .t 13], none⟩,
  ⟨(some 15), 14, (.fieldAddr 0), [.t 14], none⟩,
  ⟨(some 16), 15, (.load false 1), [.t 15], none⟩,
  ⟨(some 17), 16, (.len true), [.t 16], none⟩,
  ⟨(some 18), 17, .move, [.t 0], none⟩,
  ⟨(some 19), 18, .move, [.t 3], none⟩,
  ⟨(some 20), 19, (.indexAddr 2 none), [.t 18, .t 19], none⟩,
  ⟨(some 21), 20, (.fieldAddr 1), [.t 20], none⟩,
  ⟨(some 22), 21, (.load false 1), [.t 21], none⟩,
  ⟨(some 23), 22, (.len true), [.t 22], none⟩,
  ⟨(some 24), 23, (.bin .add), [.t 17, .t 23], none⟩,
  ⟨(some 25), 24, (.bin .gtr), [.t 24, .c (.int .i64 (1000))], none⟩])
 (.cond (.t 25) (.seq (.region [⟨(some 2), 25, .move, [.c (.bool false)], none⟩])
 (.ret)) (.skip)))))
 (.region [⟨(some 26), 26, (.bin .add), [.t 9, .c (.int .i64 (1))], none⟩,
  ⟨(some 9), 27, .move, [.t 26], none⟩])))))))
 (.seq (.region [⟨(some 2), 28, .move, [.c (.bool true)], none⟩])
 (.ret)))))
  [.tmp 2] 0 26
def f47.env : Env := []
def f47.tree (a : List (T_api_Label)) : Prop := Br (decide ((100 : Int) < (a.length : Int))) ((false = (labs5 a)) ∧ True) (∃ (I5 : Int → Prop) (μ6 : Int → Nat), (∃ x4 : Int, (a.length = a.length) ∧ (∀ i, i < a.length → DEqs ((gl e_api_Label a) i) ((gl e_api_Label a) i)) ∧ ((a.length : Int) = (a.length : Int)) ∧ ((0 : Int) = x4) ∧ I5 x4) ∧ ∀ y7 : Int, I5 y7 → (Br (decide (y7 < (a.length : Int))) (Br (decide ((0 : Int) ≤ y7) && decide (y7 < (a.length : Int))) (Br (decide ((0 : Int) ≤ y7) && decide (y7 < (a.length : Int))) (Let (IntKind.i64.wrap ((((at_ a y7).1).size : Int) + (((at_ a y7).2).size : Int))) (fun v12 : Int => Br (decide ((1000 : Int) < v12)) ((false = (labs5 a)) ∧ True) (Let (IntKind.i64.wrap (y7 + (1 : Int))) (fun v16 : Int => ∃ x17 : Int, (a.length = a.length) ∧ (∀ i, i < a.length → DEqs ((gl e_api_Label a) i) ((gl e_api_Label a) i)) ∧ ((a.length : Int) = (a.length : Int)) ∧ (v16 = x17) ∧ I5 x17 ∧ μ6 x17 < μ6 y7)))) False) False) ((true = (labs5 a)) ∧ True)))
def f47.vc (a : List (T_api_Label)) : Prop := (((100 : Int) < (a.length : Int) → (false = labs5 a)) ∧ (¬ ((100 : Int) < (a.length : Int)) → (∃ (I5 : Int → Prop) (μ6 : Int → Nat), I5 (0 : Int) ∧ ∀ y7 : Int, I5 y7 → ((y7 < (a.length : Int) → ((0 : Int) ≤ y7 ∧ y7 < (a.length : Int) ∧ ((0 : Int) ≤ y7 ∧ y7 < (a.length : Int) ∧ (-9223372036854775808 ≤ ((((at_ a y7).1).size : Int) + (((at_ a y7).2).size : Int)) ∧ ((((at_ a y7).1).size : Int) + (((at_ a y7).2).size : Int)) ≤ 9223372036854775807 ∧ (((1000 : Int) < ((((at_ a y7).1).size : Int) + (((at_ a y7).2).size : Int)) → (false = labs5 a)) ∧ (¬ ((1000 : Int) < ((((at_ a y7).1).size : Int) + (((at_ a y7).2).size : Int))) → (-9223372036854775808 ≤ (y7 + (1 : Int)) ∧ (y7 + (1 : Int)) ≤ 9223372036854775807 ∧ (I5 (y7 + (1 : Int)) ∧ μ6 (y7 + (1 : Int)) < μ6 y7)))))))) ∧ (¬ (y7 < (a.length : Int)) → (true = labs5 a))))))
set_option maxRecDepth 100000 in
set_option maxHeartbeats 2000000 in
theorem f47.of (a : List (T_api_Label)) (h : f47.vc a) : f47.tree a := br h Cnd.dec (fun h1 k35 => ⟨k35, trivial⟩) (fun h2 k36 => Exists.elim k36 (fun I5 h32_ => Exists.elim h32_ (fun μ6 h32 => ⟨I5, μ6, ⟨(0 : Int), slK (Rds.self (enc := e_api_Label)) (⟨rfl, ⟨rfl, h32.1⟩⟩)⟩, fun y7 h34 => br (h32.2 y7 h34) Cnd.dec (fun h8 k30 => chk k30.2.2 Cnd.ix ⟨k30.1, k30.2.1⟩ (fun h10 k28 => chk k28.2.2 Cnd.ix ⟨k28.1, k28.2.1⟩ (fun h11 k27 => wrapK.i64 k27 (fun h24 h25 k26 => br k26 Cnd.dec (fun h13 k22 => ⟨k22, trivial⟩) (fun h14 k23 => wrapK.i64 k23 (fun h19 h20 k21 => ⟨(y7 + (1 : Int)), slK (Rds.self (enc := e_api_Label)) (⟨rfl, ⟨rfl, k21⟩⟩)⟩)))))) (fun h9 k31 => ⟨k31, trivial⟩)⟩)))
theorem f47.eq (a : List (T_api_Label)) : (f47.af a).gives f47.env (f47.args a) (f47.blks a) (f47.res a) (f47.blks' a) = f47.tree a := by kernel_rfl
end Go.Abs

-- interregnum/interregnumlaw05.few
namespace Go.Abs
open Go
def f23.args (a : T_api_Node × T_api_Queue × T_api_Task) : List D := [.agg [.str a.1.1, .int .i64 a.1.2.1.1, .int .i64 a.1.2.1.2.1, .int .i64 a.1.2.1.2.2, .slice .ro 2 a.1.2.2.length (gl e_api_Label a.1.2.2)], .agg [.str a.2.1.1, .int .i64 a.2.1.2.1, .int .i64 a.2.1.2.2.1, .int .i64 a.2.1.2.2.2], .agg [.str a.2.2.1, .str a.2.2.2.1, .int .i64 a.2.2.2.2.1, .int .i64 a.2.2.2.2.2.1.1, .int .i64 a.2.2.2.2.2.1.2.1, .int .i64 a.2.2.2.2.2.1.2.2, .slice .ro 2 a.2.2.2.2.2.2.1.length (gl e_api_Label a.2.2.2.2.2.2.1), .str a.2.2.2.2.2.2.2.1, .str a.2.2.2.2.2.2.2.2.1, .int .i64 a.2.2.2.2.2.2.2.2.2]]
def f23.blks (a : T_api_Node × T_api_Queue × T_api_Task) : List (List D) := []
def f23.res (a : T_api_Node × T_api_Queue × T_api_Task) : List D := [.bool (few5 a)]
def f23.blks' (a : T_api_Node × T_api_Queue × T_api_Task) : List (List D) := []
def f23.C : Contract := FnC f23.args f23.blks (fun a => few5_pre a) f23.res f23.blks'
end Go.Abs

/- interregnum/interregnumlaw05.few -/
namespace Go.Abs
open Go
set_option linter.unusedVariables false
def f23.kills (a : T_api_Node × T_api_Queue × T_api_Task) : List Hint := []
def f23.cuts (a : T_api_Node × T_api_Queue × T_api_Task) : List (Nat × Σ β : Type, β → Tm) := []
def f23.af (a : T_api_Node × T_api_Queue × T_api_Task) : AF := AF.mk (.seq (.region [⟨(some 3), 0, .box, [.t 0], none⟩,
  ⟨(some 4), 1, .box, [.t 1], none⟩,
  ⟨(some 5), 2, .box, [.t 2], none⟩,
  ⟨(some 6), 3, .move, [.c (.bool false)], none⟩])
 (.seq (.region [⟨(some 7), 4, (.fieldAddr 4), [.t 3], none⟩,
  ⟨(some 8), 5, (.load false 1), [.t 7], none⟩,
  ⟨(some 9), 6, (.call false 47), [.t 8], none⟩,
  ⟨(some 10), 10, .move, [.t 9], none⟩,
  ⟨(some 11), 11, (.fieldAddr 6), [.t 5], (some (10, true))⟩,
  ⟨(some 12), 12, (.load false 1), [.t 11], (some (10, true))⟩,
  ⟨(some 13), 13, (.call false 47), [.t 12], (some (10, true))⟩,
  ⟨(some 14), 17, .pick, [.t 10, .t 13, .c (.bool false)], none⟩,
  ⟨(some 15), 18, .move, [.t 14], none⟩,
  ⟨(some 16), 19, (.fieldAddr 0), [.t 3], (some (15, true))⟩,
  ⟨(some 17), 20, (.load false 1), [.t 16], (some (15, true))⟩,
  ⟨(some 18), 21, (.len true), [.t 17], (some (15, true))⟩,
  ⟨(some 19), 22, (.fieldAddr 0), [.t 4], (some (15, true))⟩,
  ⟨(some 20), 23, (.load false 1), [.t 19], (some (15, true))⟩,
  ⟨(some 21), 24, (.len true), [.t 20], (some (15, true))⟩,
  ⟨(some 22), 25, (.bin .add), [.t 18, .t 21], (some (15, true))⟩,
  ⟨(some 23), 26, (.fieldAddr 0), [.t 5], (some (15, true))⟩,
  ⟨(some 24), 27, (.load false 1), [.t 23], (some (15, true))⟩,
  ⟨(some 25), 28, (.len true), [.t 24], (some (15, true))⟩,
  ⟨(some 26), 29, (.bin .add), [.t 22, .t 25], (some (15, true))⟩,
  ⟨(some 27), 30, (.fieldAddr 1), [.t 5], (some (15, true))⟩,
  ⟨(some 28), 31, (.load false 1), [.t 27], (some (15, true))⟩,
  ⟨(some 29), 32, (.len true), [.t 28], (some (15, true))⟩,
  ⟨(some 30), 33, (.bin .add), [.t 26, .t 29], (some (15, true))⟩,
  ⟨(some 31), 34, (.fieldAddr 7), [.t 5], (some (15, true))⟩,
  ⟨(some 32), 35, (.load false 1), [.t 31], (some (15, true))⟩,
  ⟨(some 33), 36, (.len true), [.t 32], (some (15, true))⟩,
  ⟨(some 34), 37, (.bin .add), [.t 30, .t 33], (some (15, true))⟩,
  ⟨(some 35), 38, (.fieldAddr 8), [.t 5], (some (15, true))⟩,
  ⟨(some 36), 39, (.load false 1), [.t 35], (some (15, true))⟩,
  ⟨(some 37), 40, (.len true), [.t 36], (some (15, true))⟩,
  ⟨(some 38), 41, (.bin .add), [.t 34, .t 37], (some (15, true))⟩,
  ⟨(some 39), 42, (.bin .lss), [.t 38, .c (.int .i64 (5000))], (some (15, true))⟩,
  ⟨(some 40), 43, .pick, [.t 15, .t 39, .c (.bool false)], none⟩,
  ⟨(some 6), 44, .move, [.t 40], none⟩])
 (.ret)))
  [.tmp 6] 0 38
def f23.env : Env := [(47, f47.C)]
def f23.tree (a : T_api_Node × T_api_Queue × T_api_Task) : Prop := ∃ c1 : List (T_api_Label), (a.1.2.2.length = c1.length) ∧ (∀ i, i < c1.length → DEqs ((gl e_api_Label a.1.2.2) i) ((gl e_api_Label c1) i)) ∧ (lbls_pre c1) ∧ Br (labs5 c1) (∃ c4 : List (T_api_Label), (a.2.2.2.2.2.2.1.length = c4.length) ∧ (∀ i, i < c4.length → DEqs ((gl e_api_Label a.2.2.2.2.2.2.1) i) ((gl e_api_Label c4) i)) ∧ (lbls_pre c4) ∧ Br (labs5 c4) (Let (IntKind.i64.wrap ((a.1.1.size : Int) + (a.2.1.1.size : Int))) (fun v7 : Int => Let (IntKind.i64.wrap (v7 + (a.2.2.1.size : Int))) (fun v8 : Int => Let (IntKind.i64.wrap (v8 + (a.2.2.2.1.size : Int))) (fun v9 : Int => Let (IntKind.i64.wrap (v9 + (a.2.2.2.2.2.2.2.1.size : Int))) (fun v10 : Int => Let (IntKind.i64.wrap (v10 + (a.2.2.2.2.2.2.2.2.1.size : Int))) (fun v11 : Int => ((decide (v11 < (5000 : Int))) = (few5 a)) ∧ True)))))) ((false = (few5 a)) ∧ True)) ((false = (few5 a)) ∧ True)
def f23.vc (a : T_api_Node × T_api_Queue × T_api_Task) : Prop := (lbls_pre a.1.2.2 ∧ (((labs5 (a.1.2.2)) = true → (lbls_pre a.2.2.2.2.2.2.1 ∧ (((labs5 (a.2.2.2.2.2.2.1)) = true → (-9223372036854775808 ≤ ((a.1.1.size : Int) + (a.2.1.1.size : Int)) ∧ ((a.1.1.size : Int) + (a.2.1.1.size : Int)) ≤ 9223372036854775807 ∧ (-9223372036854775808 ≤ (((a.1.1.size : Int) + (a.2.1.1.size : Int)) + (a.2.2.1.size : Int)) ∧ (((a.1.1.size : Int) + (a.2.1.1.size : Int)) + (a.2.2.1.size : Int)) ≤ 9223372036854775807 ∧ (-9223372036854775808 ≤ ((((a.1.1.size : Int) + (a.2.1.1.size : Int)) + (a.2.2.1.size : Int)) + (a.2.2.2.1.size : Int)) ∧ ((((a.1.1.size : Int) + (a.2.1.1.size : Int)) + (a.2.2.1.size : Int)) + (a.2.2.2.1.size : Int)) ≤ 9223372036854775807 ∧ (-9223372036854775808 ≤ (((((a.1.1.size : Int) + (a.2.1.1.size : Int)) + (a.2.2.1.size : Int)) + (a.2.2.2.1.size : Int)) + (a.2.2.2.2.2.2.2.1.size : Int)) ∧ (((((a.1.1.size : Int) + (a.2.1.1.size : Int)) + (a.2.2.1.size : Int)) + (a.2.2.2.1.size : Int)) + (a.2.2.2.2.2.2.2.1.size : Int)) ≤ 9223372036854775807 ∧ (-9223372036854775808 ≤ ((((((a.1.1.size : Int) + (a.2.1.1.size : Int)) + (a.2.2.1.size : Int)) + (a.2.2.2.1.size : Int)) + (a.2.2.2.2.2.2.2.1.size : Int)) + (a.2.2.2.2.2.2.2.2.1.size : Int)) ∧ ((((((a.1.1.size : Int) + (a.2.1.1.size : Int)) + (a.2.2.1.size : Int)) + (a.2.2.2.1.size : Int)) + (a.2.2.2.2.2.2.2.1.size : Int)) + (a.2.2.2.2.2.2.2.2.1.size : Int)) ≤ 9223372036854775807 ∧ (decide (((((((a.1.1.size : Int) + (a.2.1.1.size : Int)) + (a.2.2.1.size : Int)) + (a.2.2.2.1.size : Int)) + (a.2.2.2.2.2.2.2.1.size : Int)) + (a.2.2.2.2.2.2.2.2.1.size : Int)) < (5000 : Int)) = few5 a))))))) ∧ (¬ ((labs5 (a.2.2.2.2.2.2.1)) = true) → (false = few5 a))))) ∧ (¬ ((labs5 (a.1.2.2)) = true) → (false = few5 a))))
set_option maxRecDepth 100000 in
set_option maxHeartbeats 2000000 in
theorem f23.of (a : T_api_Node × T_api_Queue × T_api_Task) (h : f23.vc a) : f23.tree a := ⟨a.1.2.2, slK (Rds.self (enc := e_api_Label)) (⟨h.1, br h.2 Cnd.b (fun h2 k33 => ⟨a.2.2.2.2.2.2.1, slK (Rds.self (enc := e_api_Label)) (⟨k33.1, br k33.2 Cnd.b (fun h5 k29 => wrapK.i64 k29 (fun h25 h26 k27 => wrapK.i64 k27 (fun h22 h23 k24 => wrapK.i64 k24 (fun h19 h20 k21 => wrapK.i64 k21 (fun h16 h17 k18 => wrapK.i64 k18 (fun h13 h14 k15 => ⟨k15, trivial⟩)))))) (fun h6 k30 => ⟨k30, trivial⟩)⟩)⟩) (fun h3 k34 => ⟨k34, trivial⟩)⟩)⟩
theorem f23.eq (a : T_api_Node × T_api_Queue × T_api_Task) : (f23.af a).gives f23.env (f23.args a) (f23.blks a) (f23.res a) (f23.blks' a) = f23.tree a := by kernel_rfl
end Go.Abs

-- interregnum/ident.Labels
namespace Go.Abs
open Go
def f50.args (a : List (T_api_Label)) : List D := [.slice .ro 2 a.length (gl e_api_Label a)]
def f50.blks (a : List (T_api_Label)) : List (List D) := []
def f50.res (a : List (T_api_Label)) : List D := [.bool (labelsB a)]
def f50.blks' (a : List (T_api_Label)) : List (List D) := []
def f50.C : Contract := FnC f50.args f50.blks (fun a => lbls_pre a) f50.res f50.blks'
end Go.Abs

/- interregnum/ident.Labels -/
namespace Go.Abs
open Go
set_option linter.unusedVariables false
def f50.kills (a : List (T_api_Label)) : List Hint := [.tell (ByteArray × Int) (fun x => ⟨[.dead, .dead, .dead, .str x.1, .dead, .dead, .dead, .dead, .dead, .slice .ro 2 a.length (gl e_api_Label a), .int .i64 (a.length : Int), .int .i64 x.2, .dead, .dead, .dead, .dead, .dead, .dead, .dead, .dead, .dead, .dead, .dead, .dead, .dead, .dead, .dead, .dead, .dead, .dead, .dead, .dead, .dead, .dead, .dead, .dead, .dead, .dead, .dead], [], []⟩)]
def f50.cuts (a : List (T_api_Label)) : List (Nat × Σ β : Type, β → Tm) := []
def f50.af (a : List (T_api_Label)) : AF := AF.mk (.seq (.region [⟨(some 2), 0, .move, [.c (.bool false)], none⟩])
 (.seq (.seq (.region [⟨(some 6), 1, .move, [.t 0], none⟩,
  ⟨(some 7), 2, (.len false), [.t 6], none⟩,
  ⟨(some 8), 3, (.bin .gtr), [.t 7, .c (.int .i64 (4))], none⟩])
 (.cond (.t 8) (.seq (.region [⟨(some 2), 4, .move, [.c (.bool false)], none⟩])
 (.ret)) (.skip)))
 (.seq (.region [⟨(some 3), 5, .move, [.c (.str ByteArray.empty)], none⟩])
 (.seq (.seq (.region [⟨(some 9), 6, .move, [.t 0], none⟩,
  ⟨(some 10), 7, (.len false), [.t 9], none⟩,
  ⟨(some 11), 8, .move, [.c (.int .i64 (0))], none⟩])
 (.block 0 (.loopT (ByteArray × Int) (fun x => ⟨[.dead, .dead, .dead, .str x.1, .dead, .dead, .dead, .dead, .dead, .slice .ro 2 a.length (gl e_api_Label a), .int .i64 (a.length : Int), .int .i64 x.2, .dead, .dead, .dead, .dead, .dead, .dead, .dead, .dead, .dead, .dead, .dead, .dead, .dead, .dead, .dead, .dead, .dead, .dead, .dead, .dead, .dead, .dead, .dead, .dead, .dead, .dead, .dead], [], []⟩) 9 50 (.seq (.region [⟨(some 12), 9, (.bin .lss), [.t 11, .t 10], none⟩])
 (.seq (.cond (.t 12) (.skip) (.exit 0))
 (.seq (.block 1 (.seq (.region [⟨(some 13), 10, .move, [.t 11], none⟩,
  ⟨(some 14), 11, (.indexAddr 2 none), [.t 9, .t 11], none⟩,
  ⟨(some 15), 12, (.load true 2), [.t 14], none⟩,
  ⟨(some 5), 13, (.alloc [.str ByteArray.empty, .str ByteArray.empty]), [], none⟩,
  ⟨(some 4), 16, .move, [.t 13], none⟩,
  ⟨none, 17, (.store 2), [.t 5, .t 15], none⟩])
 (.seq (.seq (.region [⟨(some 16), 18, (.fieldAddr 0), [.t 5], none⟩,
  ⟨(some 17), 19, (.load false 1), [.t 16], none⟩,
  ⟨(some 18), 20, (.call false 48), [.t 17], none⟩,
  ⟨(some 19), 24, (.un .not), [.t 18], none⟩,
  ⟨(some 20), 25, .move, [.t 19], none⟩,
  ⟨(some 21), 26, (.fieldAddr 1), [.t 5], (some (20, false))⟩,
  ⟨(some 22), 27, (.load false 1), [.t 21], (some (20, false))⟩,
  ⟨(some 23), 28, (.call false 48), [.t 22], (some (20, false))⟩,
  ⟨(some 24), 32, (.un .not), [.t 23], (some (20, false))⟩,
  ⟨(some 25), 33, .pick, [.t 20, .c (.bool true), .t 24], none⟩,
  ⟨(some 26), 34, .move, [.t 25], none⟩,
  ⟨(some 27), 35, .move, [.t 4], (some (26, false))⟩,
  ⟨(some 28), 36, (.bin .gtr), [.t 27, .c (.int .i64 (0))], (some (26, false))⟩,
  ⟨(some 29), 37, .move, [.t 28], (some (26, false))⟩,
  ⟨(some 30), 38, (.fieldAddr 0), [.t 5], (some (29, true))⟩,
  ⟨(some 31), 39, (.load false 1), [.t 30], (some (29, true))⟩,
  ⟨(some 32), 40, .move, [.t 3], (some (29, true))⟩,
  ⟨(some 33), 41, (.bin .leq), [.t 31, .t 32], (some (29, true))⟩,
  ⟨(some 34), 42, .pick, [.t 29, .t 33, .c (.bool false)], (some (26, false))⟩,
  ⟨(some 35), 43, .pick, [.t 26, .c (.bool true), .t 34], none⟩])
 (.cond (.t 35) (.seq (.region [⟨(some 2), 44, .move, [.c (.bool false)], none⟩])
 (.ret)) (.skip)))
 (.region [⟨(some 36), 45, (.fieldAddr 0), [.t 5], none⟩,
  ⟨(some 37), 46, (.load false 1), [.t 36], none⟩,
  ⟨(some 3), 47, .move, [.t 37], none⟩]))))
 (.region [⟨(some 38), 48, (.bin .add), [.t 11, .c (.int .i64 (1))], none⟩,
  ⟨(some 11), 49, .move, [.t 38], none⟩])))))))
 (.seq (.region [⟨(some 2), 50, .move, [.c (.bool true)], none⟩])
 (.ret))))))
  [.tmp 2] 0 38
def f50.env : Env := [(48, f48.C)]
def f50.tree (a : List (T_api_Label)) : Prop := Br (decide ((4 : Int) < (a.length : Int))) ((false = (labelsB a)) ∧ True) (∃ (I5 : (ByteArray × Int) → Prop) (μ6 : (ByteArray × Int) → Nat), (∃ x4 : ByteArray × Int, (ByteArray.empty = x4.1) ∧ (a.length = a.length) ∧ (∀ i, i < a.length → DEqs ((gl e_api_Label a) i) ((gl e_api_Label a) i)) ∧ ((a.length : Int) = (a.length : Int)) ∧ ((0 : Int) = x4.2) ∧ I5 x4) ∧ ∀ y7 : ByteArray × Int, I5 y7 → (Br (decide (y7.2 < (a.length : Int))) (Br (decide ((0 : Int) ≤ y7.2) && decide (y7.2 < (a.length : Int))) (∃ c11 : ByteArray, (((at_ a y7.2).1) = c11) ∧ (name_pre c11) ∧ Br (!(nameB c11)) ((false = (labelsB a)) ∧ True) (∃ c15 : ByteArray, (((at_ a y7.2).2) = c15) ∧ (name_pre c15) ∧ Br (!(nameB c15)) ((false = (labelsB a)) ∧ True) (Br (decide ((0 : Int) < y7.2)) (Br (Op.bytesLess ((at_ a y7.2).1).toList y7.1.toList || ((at_ a y7.2).1).toList == y7.1.toList) ((false = (labelsB a)) ∧ True) (Let (IntKind.i64.wrap (y7.2 + (1 : Int))) (fun v24 : Int => ∃ x25 : ByteArray × Int, (((at_ a y7.2).1) = x25.1) ∧ (a.length = a.length) ∧ (∀ i, i < a.length → DEqs ((gl e_api_Label a) i) ((gl e_api_Label a) i)) ∧ ((a.length : Int) = (a.length : Int)) ∧ (v24 = x25.2) ∧ I5 x25 ∧ μ6 x25 < μ6 y7))) (Let (IntKind.i64.wrap (y7.2 + (1 : Int))) (fun v32 : Int => ∃ x33 : ByteArray × Int, (((at_ a y7.2).1) = x33.1) ∧ (a.length = a.length) ∧ (∀ i, i < a.length → DEqs ((gl e_api_Label a) i) ((gl e_api_Label a) i)) ∧ ((a.length : Int) = (a.length : Int)) ∧ (v32 = x33.2) ∧ I5 x33 ∧ μ6 x33 < μ6 y7))))) False) ((true = (labelsB a)) ∧ True)))
def f50.vc (a : List (T_api_Label)) : Prop := (((4 : Int) < (a.length : Int) → (false = labelsB a)) ∧ (¬ ((4 : Int) < (a.length : Int)) → (∃ (I5 : (ByteArray × Int) → Prop) (μ6 : (ByteArray × Int) → Nat), I5 (ByteArray.empty, (0 : Int)) ∧ ∀ y7 : ByteArray × Int, I5 y7 → ((y7.2 < (a.length : Int) → ((0 : Int) ≤ y7.2 ∧ y7.2 < (a.length : Int) ∧ (name_pre ((at_ a y7.2).1) ∧ ((¬ ((nameB ((at_ a y7.2).1)) = true) → (false = labelsB a)) ∧ (¬ (¬ ((nameB ((at_ a y7.2).1)) = true)) → (name_pre ((at_ a y7.2).2) ∧ ((¬ ((nameB ((at_ a y7.2).2)) = true) → (false = labelsB a)) ∧ (¬ (¬ ((nameB ((at_ a y7.2).2)) = true)) → (((0 : Int) < y7.2 → ((sLe ((at_ a y7.2).1) y7.1 → (false = labelsB a)) ∧ (¬ (sLe ((at_ a y7.2).1) y7.1) → (-9223372036854775808 ≤ (y7.2 + (1 : Int)) ∧ (y7.2 + (1 : Int)) ≤ 9223372036854775807 ∧ (I5 ((at_ a y7.2).1, (y7.2 + (1 : Int))) ∧ μ6 ((at_ a y7.2).1, (y7.2 + (1 : Int))) < μ6 y7))))) ∧ (¬ ((0 : Int) < y7.2) → (-9223372036854775808 ≤ (y7.2 + (1 : Int)) ∧ (y7.2 + (1 : Int)) ≤ 9223372036854775807 ∧ (I5 ((at_ a y7.2).1, (y7.2 + (1 : Int))) ∧ μ6 ((at_ a y7.2).1, (y7.2 + (1 : Int))) < μ6 y7)))))))))))) ∧ (¬ (y7.2 < (a.length : Int)) → (true = labelsB a))))))
set_option maxRecDepth 100000 in
set_option maxHeartbeats 2000000 in
theorem f50.of (a : List (T_api_Label)) (h : f50.vc a) : f50.tree a := br h Cnd.dec (fun h1 k53 => ⟨k53, trivial⟩) (fun h2 k54 => Exists.elim k54 (fun I5 h50_ => Exists.elim h50_ (fun μ6 h50 => ⟨I5, μ6, ⟨(ByteArray.empty, (0 : Int)), ⟨rfl, slK (Rds.self (enc := e_api_Label)) (⟨rfl, ⟨rfl, h50.1⟩⟩)⟩⟩, fun y7 h52 => br (h50.2 y7 h52) Cnd.dec (fun h8 k48 => chk k48.2.2 Cnd.ix ⟨k48.1, k48.2.1⟩ (fun h10 k46 => ⟨(at_ a y7.2).1, ⟨rfl, ⟨k46.1, br k46.2 (Cnd.not Cnd.b) (fun h12 k43 => ⟨k43, trivial⟩) (fun h13 k44 => ⟨(at_ a y7.2).2, ⟨rfl, ⟨k44.1, br k44.2 (Cnd.not Cnd.b) (fun h16 k40 => ⟨k40, trivial⟩) (fun h17 k41 => br k41 Cnd.dec (fun h19 k38 => br k38 Cnd.sle (fun h21 k30 => ⟨k30, trivial⟩) (fun h22 k31 => wrapK.i64 k31 (fun h27 h28 k29 => ⟨((at_ a y7.2).1, (y7.2 + (1 : Int))), ⟨rfl, slK (Rds.self (enc := e_api_Label)) (⟨rfl, ⟨rfl, k29⟩⟩)⟩⟩))) (fun h20 k39 => wrapK.i64 k39 (fun h35 h36 k37 => ⟨((at_ a y7.2).1, (y7.2 + (1 : Int))), ⟨rfl, slK (Rds.self (enc := e_api_Label)) (⟨rfl, ⟨rfl, k37⟩⟩)⟩⟩)))⟩⟩⟩)⟩⟩⟩)) (fun h9 k49 => ⟨k49, trivial⟩)⟩)))
theorem f50.eq (a : List (T_api_Label)) : (f50.af a).gives f50.env (f50.args a) (f50.blks a) (f50.res a) (f50.blks' a) = f50.tree a := by kernel_rfl
end Go.Abs

-- interregnum/model.maybe
namespace Go.Abs
open Go
def f51.args (a : ByteArray) : List D := [.str a]
def f51.blks (a : ByteArray) : List (List D) := []
def f51.res (a : ByteArray) : List D := [.bool (maybeB a)]
def f51.blks' (a : ByteArray) : List (List D) := []
def f51.C : Contract := FnC f51.args f51.blks (fun a => name_pre a) f51.res f51.blks'
end Go.Abs

/- interregnum/model.maybe -/
namespace Go.Abs
open Go
set_option linter.unusedVariables false
def f51.kills (a : ByteArray) : List Hint := []
def f51.cuts (a : ByteArray) : List (Nat × Σ β : Type, β → Tm) := []
def f51.af (a : ByteArray) : AF := AF.mk (.seq (.region [⟨(some 2), 0, .move, [.c (.bool false)], none⟩])
 (.seq (.region [⟨(some 3), 1, .move, [.t 0], none⟩,
  ⟨(some 4), 2, (.bin .eql), [.t 3, .c (.str ByteArray.empty)], none⟩,
  ⟨(some 5), 3, .move, [.t 4], none⟩,
  ⟨(some 6), 4, .move, [.t 0], (some (5, false))⟩,
  ⟨(some 7), 5, (.call false 48), [.t 6], (some (5, false))⟩,
  ⟨(some 8), 9, .pick, [.t 5, .c (.bool true), .t 7], none⟩,
  ⟨(some 2), 10, .move, [.t 8], none⟩])
 (.ret)))
  [.tmp 2] 0 8
def f51.env : Env := [(48, f48.C)]
def f51.tree (a : ByteArray) : Prop := Br (a.toList == ByteArray.empty.toList) ((true = (maybeB a)) ∧ True) (∃ c4 : ByteArray, (a = c4) ∧ (name_pre c4) ∧ ((nameB c4) = (maybeB a)) ∧ True)
def f51.vc (a : ByteArray) : Prop := ((a = ByteArray.empty → (true = maybeB a)) ∧ (¬ (a = ByteArray.empty) → (name_pre a ∧ ((nameB a) = maybeB a))))
set_option maxRecDepth 100000 in
set_option maxHeartbeats 2000000 in
theorem f51.of (a : ByteArray) (h : f51.vc a) : f51.tree a := br h Cnd.seq (fun h1 k7 => ⟨k7, trivial⟩) (fun h2 k8 => ⟨a, ⟨rfl, ⟨k8.1, ⟨k8.2, trivial⟩⟩⟩⟩)
theorem f51.eq (a : ByteArray) : (f51.af a).gives f51.env (f51.args a) (f51.blks a) (f51.res a) (f51.blks' a) = f51.tree a := by kernel_rfl
end Go.Abs

-- interregnum/model.Task
namespace Go.Abs
open Go
def f24.args (a : T_api_Task) : List D := [.agg [.str a.1, .str a.2.1, .int .i64 a.2.2.1, .int .i64 a.2.2.2.1.1, .int .i64 a.2.2.2.1.2.1, .int .i64 a.2.2.2.1.2.2, .slice .ro 2 a.2.2.2.2.1.length (gl e_api_Label a.2.2.2.2.1), .str a.2.2.2.2.2.1, .str a.2.2.2.2.2.2.1, .int .i64 a.2.2.2.2.2.2.2]]
def f24.blks (a : T_api_Task) : List (List D) := []
def f24.res (a : T_api_Task) : List D := [.bool (taskB a)]
def f24.blks' (a : T_api_Task) : List (List D) := []
def f24.C : Contract := FnC f24.args f24.blks (fun a => task_pre a) f24.res f24.blks'
end Go.Abs

/- interregnum/model.Task -/
namespace Go.Abs
open Go
set_option linter.unusedVariables false
def f24.kills (a : T_api_Task) : List Hint := []
def f24.cuts (a : T_api_Task) : List (Nat × Σ β : Type, β → Tm) := []
def f24.af (a : T_api_Task) : AF := AF.mk (.seq (.region [⟨(some 1), 0, .box, [.t 0], none⟩,
  ⟨(some 2), 1, .move, [.c (.bool false)], none⟩])
 (.seq (.block 0 (.seq (.region [⟨(some 4), 2, (.fieldAddr 0), [.t 1], none⟩,
  ⟨(some 5), 3, (.load false 1), [.t 4], none⟩,
  ⟨(some 6), 4, (.call false 48), [.t 5], none⟩,
  ⟨(some 7), 8, (.un .not), [.t 6], none⟩,
  ⟨(some 8), 9, .move, [.t 7], none⟩,
  ⟨(some 9), 10, (.fieldAddr 1), [.t 1], (some (8, false))⟩,
  ⟨(some 10), 11, (.load false 1), [.t 9], (some (8, false))⟩,
  ⟨(some 11), 12, (.call false 48), [.t 10], (some (8, false))⟩,
  ⟨(some 12), 16, (.un .not), [.t 11], (some (8, false))⟩,
  ⟨(some 13), 17, .pick, [.t 8, .c (.bool true), .t 12], none⟩,
  ⟨(some 3), 18, .move, [.t 13], none⟩])
 (.cond (.t 3) (.seq (.region [⟨(some 2), 19, .move, [.c (.bool false)], none⟩])
 (.ret)) (.seq (.region [⟨(some 15), 20, (.fieldAddr 2), [.t 1], none⟩,
  ⟨(some 16), 21, (.load false 1), [.t 15], none⟩,
  ⟨(some 17), 22, (.bin .lss), [.t 16, .c (.int .i64 (0))], none⟩,
  ⟨(some 18), 23, .move, [.t 17], none⟩,
  ⟨(some 19), 24, (.fieldAddr 2), [.t 1], (some (18, false))⟩,
  ⟨(some 20), 25, (.load false 1), [.t 19], (some (18, false))⟩,
  ⟨(some 21), 26, (.bin .gtr), [.t 20, .c (.int .i64 (9))], (some (18, false))⟩,
  ⟨(some 22), 27, .pick, [.t 18, .c (.bool true), .t 21], none⟩,
  ⟨(some 23), 28, .move, [.t 22], none⟩,
  ⟨(some 24), 29, (.fieldAddr 3), [.t 1], (some (23, false))⟩,
  ⟨(some 25), 30, (.load true 3), [.t 24], (some (23, false))⟩,
  ⟨(some 26), 31, (.call false 49), [.t 25], (some (23, false))⟩,
  ⟨(some 27), 35, (.un .not), [.t 26], (some (23, false))⟩,
  ⟨(some 28), 36, .pick, [.t 23, .c (.bool true), .t 27], none⟩,
  ⟨(some 14), 37, .move, [.t 28], none⟩])
 (.cond (.t 14) (.seq (.region [⟨(some 2), 38, .move, [.c (.bool false)], none⟩])
 (.ret)) (.seq (.region [⟨(some 30), 39, (.fieldAddr 6), [.t 1], none⟩,
  ⟨(some 31), 40, (.load false 1), [.t 30], none⟩,
  ⟨(some 32), 41, (.call false 50), [.t 31], none⟩,
  ⟨(some 33), 45, (.un .not), [.t 32], none⟩,
  ⟨(some 34), 46, .move, [.t 33], none⟩,
  ⟨(some 35), 47, (.fieldAddr 7), [.t 1], (some (34, false))⟩,
  ⟨(some 36), 48, (.load false 1), [.t 35], (some (34, false))⟩,
  ⟨(some 37), 49, (.call false 51), [.t 36], (some (34, false))⟩,
  ⟨(some 38), 53, (.un .not), [.t 37], (some (34, false))⟩,
  ⟨(some 39), 54, .pick, [.t 34, .c (.bool true), .t 38], none⟩,
  ⟨(some 40), 55, .move, [.t 39], none⟩,
  ⟨(some 41), 56, (.fieldAddr 8), [.t 1], (some (40, false))⟩,
  ⟨(some 42), 57, (.load false 1), [.t 41], (some (40, false))⟩,
  ⟨(some 43), 58, (.call false 51), [.t 42], (some (40, false))⟩,
  ⟨(some 44), 62, (.un .not), [.t 43], (some (40, false))⟩,
  ⟨(some 45), 63, .pick, [.t 40, .c (.bool true), .t 44], none⟩,
  ⟨(some 29), 64, .move, [.t 45], none⟩])
 (.cond (.t 29) (.seq (.region [⟨(some 2), 65, .move, [.c (.bool false)], none⟩])
 (.ret)) (.seq (.region [⟨(some 47), 66, (.fieldAddr 8), [.t 1], none⟩,
  ⟨(some 48), 67, (.load false 1), [.t 47], none⟩,
  ⟨(some 49), 68, (.bin .eql), [.t 48, .c (.str ByteArray.empty)], none⟩,
  ⟨(some 46), 69, .move, [.t 49], none⟩])
 (.cond (.t 46) (.seq (.region [⟨(some 50), 70, (.fieldAddr 9), [.t 1], none⟩,
  ⟨(some 51), 71, (.load false 1), [.t 50], none⟩,
  ⟨(some 52), 72, (.bin .eql), [.t 51, .c (.int .i64 (0))], none⟩,
  ⟨(some 2), 73, .move, [.t 52], none⟩])
 (.ret)) (.skip))))))))))
 (.seq (.region [⟨(some 53), 74, (.fieldAddr 9), [.t 1], none⟩,
  ⟨(some 54), 75, (.load false 1), [.t 53], none⟩,
  ⟨(some 55), 76, (.bin .geq), [.t 54, .c (.int .i64 (2))], none⟩,
  ⟨(some 56), 77, .move, [.t 55], none⟩,
  ⟨(some 57), 78, (.fieldAddr 9), [.t 1], (some (56, true))⟩,
  ⟨(some 58), 79, (.load false 1), [.t 57], (some (56, true))⟩,
  ⟨(some 59), 80, (.bin .leq), [.t 58, .c (.int .i64 (4))], (some (56, true))⟩,
  ⟨(some 60), 81, .pick, [.t 56, .t 59, .c (.bool false)], none⟩,
  ⟨(some 2), 82, .move, [.t 60], none⟩])
 (.ret))))
  [.tmp 2] 0 60
def f24.env : Env := [(48, f48.C), (49, f49.C), (50, f50.C), (51, f51.C)]
def f24.tree (a : T_api_Task) : Prop := ∃ c1 : ByteArray, (a.1 = c1) ∧ (name_pre c1) ∧ Br (!(nameB c1)) ((false = (taskB a)) ∧ True) (∃ c5 : ByteArray, (a.2.1 = c5) ∧ (name_pre c5) ∧ Br (!(nameB c5)) ((false = (taskB a)) ∧ True) (Br (decide (a.2.2.1 < (0 : Int))) ((false = (taskB a)) ∧ True) (Br (decide ((9 : Int) < a.2.2.1)) ((false = (taskB a)) ∧ True) (∃ c15 : T_ar3_i64, (a.2.2.2.1.1 = c15.1) ∧ (a.2.2.2.1.2.1 = c15.2.1) ∧ (a.2.2.2.1.2.2 = c15.2.2) ∧ True ∧ Br (!(rightB c15)) ((false = (taskB a)) ∧ True) (∃ c19 : List (T_api_Label), (a.2.2.2.2.1.length = c19.length) ∧ (∀ i, i < c19.length → DEqs ((gl e_api_Label a.2.2.2.2.1) i) ((gl e_api_Label c19) i)) ∧ (lbls_pre c19) ∧ Br (!(labelsB c19)) ((false = (taskB a)) ∧ True) (∃ c23 : ByteArray, (a.2.2.2.2.2.1 = c23) ∧ (name_pre c23) ∧ Br (!(maybeB c23)) ((false = (taskB a)) ∧ True) (∃ c27 : ByteArray, (a.2.2.2.2.2.2.1 = c27) ∧ (name_pre c27) ∧ Br (!(maybeB c27)) ((false = (taskB a)) ∧ True) (Br (a.2.2.2.2.2.2.1.toList == ByteArray.empty.toList) (((a.2.2.2.2.2.2.2 == (0 : Int)) = (taskB a)) ∧ True) (Br (decide ((2 : Int) ≤ a.2.2.2.2.2.2.2)) (((decide (a.2.2.2.2.2.2.2 ≤ (4 : Int))) = (taskB a)) ∧ True) ((false = (taskB a)) ∧ True))))))))))
def f24.vc (a : T_api_Task) : Prop := (name_pre a.1 ∧ ((¬ ((nameB (a.1)) = true) → (false = taskB a)) ∧ (¬ (¬ ((nameB (a.1)) = true)) → (name_pre a.2.1 ∧ ((¬ ((nameB (a.2.1)) = true) → (false = taskB a)) ∧ (¬ (¬ ((nameB (a.2.1)) = true)) → ((a.2.2.1 < (0 : Int) → (false = taskB a)) ∧ (¬ (a.2.2.1 < (0 : Int)) → (((9 : Int) < a.2.2.1 → (false = taskB a)) ∧ (¬ ((9 : Int) < a.2.2.1) → ((¬ ((rightB (a.2.2.2.1)) = true) → (false = taskB a)) ∧ (¬ (¬ ((rightB (a.2.2.2.1)) = true)) → (lbls_pre a.2.2.2.2.1 ∧ ((¬ ((labelsB (a.2.2.2.2.1)) = true) → (false = taskB a)) ∧ (¬ (¬ ((labelsB (a.2.2.2.2.1)) = true)) → (name_pre a.2.2.2.2.2.1 ∧ ((¬ ((maybeB (a.2.2.2.2.2.1)) = true) → (false = taskB a)) ∧ (¬ (¬ ((maybeB (a.2.2.2.2.2.1)) = true)) → (name_pre a.2.2.2.2.2.2.1 ∧ ((¬ ((maybeB (a.2.2.2.2.2.2.1)) = true) → (false = taskB a)) ∧ (¬ (¬ ((maybeB (a.2.2.2.2.2.2.1)) = true)) → ((a.2.2.2.2.2.2.1 = ByteArray.empty → ((a.2.2.2.2.2.2.2 == (0 : Int)) = taskB a)) ∧ (¬ (a.2.2.2.2.2.2.1 = ByteArray.empty) → (((2 : Int) ≤ a.2.2.2.2.2.2.2 → (decide (a.2.2.2.2.2.2.2 ≤ (4 : Int)) = taskB a)) ∧ (¬ ((2 : Int) ≤ a.2.2.2.2.2.2.2) → (false = taskB a))))))))))))))))))))))))))
set_option maxRecDepth 100000 in
set_option maxHeartbeats 2000000 in
theorem f24.of (a : T_api_Task) (h : f24.vc a) : f24.tree a := ⟨a.1, ⟨rfl, ⟨h.1, br h.2 (Cnd.not Cnd.b) (fun h2 k61 => ⟨k61, trivial⟩) (fun h3 k62 => ⟨a.2.1, ⟨rfl, ⟨k62.1, br k62.2 (Cnd.not Cnd.b) (fun h6 k58 => ⟨k58, trivial⟩) (fun h7 k59 => br k59 Cnd.dec (fun h9 k56 => ⟨k56, trivial⟩) (fun h10 k57 => br k57 Cnd.dec (fun h12 k54 => ⟨k54, trivial⟩) (fun h13 k55 => ⟨a.2.2.2.1, ⟨rfl, ⟨rfl, ⟨rfl, ⟨trivial, br k55 (Cnd.not Cnd.b) (fun h16 k51 => ⟨k51, trivial⟩) (fun h17 k52 => ⟨a.2.2.2.2.1, slK (Rds.self (enc := e_api_Label)) (⟨k52.1, br k52.2 (Cnd.not Cnd.b) (fun h20 k48 => ⟨k48, trivial⟩) (fun h21 k49 => ⟨a.2.2.2.2.2.1, ⟨rfl, ⟨k49.1, br k49.2 (Cnd.not Cnd.b) (fun h24 k45 => ⟨k45, trivial⟩) (fun h25 k46 => ⟨a.2.2.2.2.2.2.1, ⟨rfl, ⟨k46.1, br k46.2 (Cnd.not Cnd.b) (fun h28 k42 => ⟨k42, trivial⟩) (fun h29 k43 => br k43 Cnd.seq (fun h31 k40 => ⟨k40, trivial⟩) (fun h32 k41 => br k41 Cnd.dec (fun h34 k38 => ⟨k38, trivial⟩) (fun h35 k39 => ⟨k39, trivial⟩)))⟩⟩⟩)⟩⟩⟩)⟩)⟩)⟩⟩⟩⟩⟩)))⟩⟩⟩)⟩⟩⟩
theorem f24.eq (a : T_api_Task) : (f24.af a).gives f24.env (f24.args a) (f24.blks a) (f24.res a) (f24.blks' a) = f24.tree a := by kernel_rfl
end Go.Abs

-- interregnum/interregnumlaw05.ModelGangs
namespace Go.Abs
open Go
def f7.wf (a : T_api_Task × ByteArray × Int) : Prop := k_api_Task.ok a.1 ∧ k_str.ok a.2.1 ∧ k_i64.ok a.2.2
def f7.size (a : T_api_Task × ByteArray × Int) : Nat := k_api_Task.size a.1 + (k_str.size a.2.1 + (k_i64.size a.2.2))
def f7.lpre (a : T_api_Task × ByteArray × Int) : Prop := f7.wf a ∧ f7.size a ≤ 1048576
def f7.args (a : T_api_Task × ByteArray × Int) : List D := [.agg [.str a.1.1, .str a.1.2.1, .int .i64 a.1.2.2.1, .int .i64 a.1.2.2.2.1.1, .int .i64 a.1.2.2.2.1.2.1, .int .i64 a.1.2.2.2.1.2.2, .slice .ro 2 a.1.2.2.2.2.1.length (gl e_api_Label a.1.2.2.2.2.1), .str a.1.2.2.2.2.2.1, .str a.1.2.2.2.2.2.2.1, .int .i64 a.1.2.2.2.2.2.2.2], .str a.2.1, .int .i64 a.2.2]
def f7.blks (a : T_api_Task × ByteArray × Int) : List (List D) := []
def f7.res (a : T_api_Task × ByteArray × Int) : List D := [.bool (lawTrue a)]
def f7.blks' (a : T_api_Task × ByteArray × Int) : List (List D) := []
def f7.C : Contract := FnC f7.args f7.blks (fun a => f7.lpre a) f7.res f7.blks'
end Go.Abs

/- interregnum/interregnumlaw05.ModelGangs -/
namespace Go.Abs
open Go
set_option linter.unusedVariables false
def f7.kills (a : T_api_Task × ByteArray × Int) : List Hint := []
def f7.cuts (a : T_api_Task × ByteArray × Int) : List (Nat × Σ β : Type, β → Tm) := []
def f7.af (a : T_api_Task × ByteArray × Int) : AF := AF.mk (.seq (.region [⟨(some 3), 0, .box, [.t 0], none⟩,
  ⟨(some 6), 1, .move, [.c (.bool false)], none⟩])
 (.seq (.seq (.region [⟨(some 8), 2, (.call false 22), [], none⟩,
  ⟨(some 9), 6, (.un .not), [.t 8], none⟩,
  ⟨(some 10), 7, .move, [.t 9], none⟩,
  ⟨(some 11), 8, (.build [.str ByteArray.empty, .int .i64 (0), .int .i64 (0), .int .i64 (0), .slice .full 2 0 gnil] []), [], (some (10, false))⟩,
  ⟨(some 12), 9, (.build [.str ByteArray.empty, .int .i64 (0), .int .i64 (0), .int .i64 (0)] []), [], (some (10, false))⟩,
  ⟨(some 13), 10, (.load true 10), [.t 3], (some (10, false))⟩,
  ⟨(some 14), 11, (.call false 23), [.t 11, .t 12, .t 13], (some (10, false))⟩,
  ⟨(some 15), 15, (.un .not), [.t 14], (some (10, false))⟩,
  ⟨(some 16), 16, .pick, [.t 10, .c (.bool true), .t 15], none⟩,
  ⟨(some 17), 17, .move, [.t 16], none⟩,
  ⟨(some 18), 18, .move, [.t 1], (some (17, false))⟩,
  ⟨(some 19), 19, (.len true), [.t 18], (some (17, false))⟩,
  ⟨(some 20), 20, (.bin .gtr), [.t 19, .c (.int .i64 (1000))], (some (17, false))⟩,
  ⟨(some 21), 21, .pick, [.t 17, .c (.bool true), .t 20], none⟩,
  ⟨(some 22), 22, .move, [.t 21], none⟩,
  ⟨(some 23), 23, (.load true 10), [.t 3], (some (22, false))⟩,
  ⟨(some 24), 24, (.call false 24), [.t 23], (some (22, false))⟩,
  ⟨(some 25), 28, (.un .not), [.t 24], (some (22, false))⟩,
  ⟨(some 26), 29, .pick, [.t 22, .c (.bool true), .t 25], none⟩])
 (.cond (.t 26) (.seq (.region [⟨(some 27), 30, (.call false 22), [], none⟩,
  ⟨(some 6), 34, .move, [.t 27], none⟩])
 (.ret)) (.skip)))
 (.seq (.region [⟨(some 28), 35, (.fieldAddr 8), [.t 3], none⟩,
  ⟨none, 36, (.store 1), [.t 28, .c (.str ByteArray.empty)], none⟩,
  ⟨(some 29), 37, (.fieldAddr 9), [.t 3], none⟩,
  ⟨none, 38, (.store 1), [.t 29, .c (.int .i64 (0))], none⟩])
 (.seq (.seq (.region [⟨(some 30), 39, (.load true 10), [.t 3], none⟩,
  ⟨(some 31), 40, (.call false 24), [.t 30], none⟩,
  ⟨(some 32), 44, (.un .not), [.t 31], none⟩])
 (.cond (.t 32) (.seq (.region [⟨(some 6), 45, .move, [.c (.bool false)], none⟩])
 (.ret)) (.skip)))
 (.seq (.region [⟨(some 33), 46, .move, [.t 2], none⟩,
  ⟨(some 34), 47, (.fieldAddr 9), [.t 3], none⟩,
  ⟨none, 48, (.store 1), [.t 34, .t 33], none⟩])
 (.seq (.seq (.region [⟨(some 35), 49, (.load true 10), [.t 3], none⟩,
  ⟨(some 36), 50, (.call false 24), [.t 35], none⟩,
  ⟨(some 37), 54, .move, [.t 2], none⟩,
  ⟨(some 38), 55, (.bin .eql), [.t 37, .c (.int .i64 (0))], none⟩,
  ⟨(some 39), 56, (.binB true), [.t 36, .t 38], none⟩])
 (.cond (.t 39) (.seq (.region [⟨(some 6), 57, .move, [.c (.bool false)], none⟩])
 (.ret)) (.skip)))
 (.seq (.region [⟨(some 40), 58, .move, [.t 1], none⟩,
  ⟨(some 41), 59, (.fieldAddr 8), [.t 3], none⟩,
  ⟨none, 60, (.store 1), [.t 41, .t 40], none⟩])
 (.seq (.region [⟨(some 42), 61, .move, [.t 1], none⟩,
  ⟨(some 43), 62, (.build [.str ByteArray.empty, .int .i64 (0), .int .i64 (0), .int .i64 (0)] [(0, 1)]), [.t 42], none⟩,
  ⟨(some 44), 63, (.call false 25), [.t 43], none⟩,
  ⟨(some 7), 67, .move, [.t 44], none⟩])
 (.seq (.seq (.region [⟨(some 45), 68, .move, [.t 1], none⟩,
  ⟨(some 46), 69, (.bin .eql), [.t 45, .c (.str ByteArray.empty)], none⟩])
 (.cond (.t 46) (.seq (.region [⟨(some 47), 70, (.load true 10), [.t 3], none⟩,
  ⟨(some 48), 71, (.call false 24), [.t 47], none⟩,
  ⟨(some 49), 75, .move, [.t 2], none⟩,
  ⟨(some 50), 76, (.bin .eql), [.t 49, .c (.int .i64 (0))], none⟩,
  ⟨(some 51), 77, (.binB false), [.t 48, .t 50], none⟩,
  ⟨(some 6), 78, .move, [.t 51], none⟩])
 (.ret)) (.skip)))
 (.seq (.region [⟨(some 52), 79, (.load true 10), [.t 3], none⟩,
  ⟨(some 53), 80, (.call false 24), [.t 52], none⟩,
  ⟨(some 54), 84, .move, [.t 7], none⟩,
  ⟨(some 55), 85, .move, [.t 54], none⟩,
  ⟨(some 56), 86, .move, [.t 2], (some (55, true))⟩,
  ⟨(some 57), 87, (.bin .geq), [.t 56, .c (.int .i64 (2))], (some (55, true))⟩,
  ⟨(some 58), 88, .pick, [.t 55, .t 57, .c (.bool false)], none⟩,
  ⟨(some 59), 89, .move, [.t 58], none⟩,
  ⟨(some 60), 90, .move, [.t 2], (some (59, true))⟩,
  ⟨(some 61), 91, (.bin .leq), [.t 60, .c (.int .i64 (4))], (some (59, true))⟩,
  ⟨(some 62), 92, .pick, [.t 59, .t 61, .c (.bool false)], none⟩,
  ⟨(some 63), 93, (.binB false), [.t 53, .t 62], none⟩,
  ⟨(some 6), 94, .move, [.t 63], none⟩])
 (.ret)))))))))))
  [.tmp 6] 0 61
def f7.env : Env := [(22, f22.C), (23, f23.C), (24, f24.C), (25, f25.C)]
def f7.tree (a : T_api_Task × ByteArray × Int) : Prop := ∃ c1 : Unit, True ∧ Br (!(lawTrue c1)) (∃ c4 : Unit, True ∧ ((lawTrue c4) = (lawTrue a)) ∧ True) (∃ c7 : T_api_Node × T_api_Queue × T_api_Task, (ByteArray.empty = c7.1.1) ∧ ((0 : Int) = c7.1.2.1.1) ∧ ((0 : Int) = c7.1.2.1.2.1) ∧ ((0 : Int) = c7.1.2.1.2.2) ∧ (0 = c7.1.2.2.length) ∧ (∀ i, i < c7.1.2.2.length → DEqs (gnil i) ((gl e_api_Label c7.1.2.2) i)) ∧ (ByteArray.empty = c7.2.1.1) ∧ ((0 : Int) = c7.2.1.2.1) ∧ ((0 : Int) = c7.2.1.2.2.1) ∧ ((0 : Int) = c7.2.1.2.2.2) ∧ (a.1.1 = c7.2.2.1) ∧ (a.1.2.1 = c7.2.2.2.1) ∧ (a.1.2.2.1 = c7.2.2.2.2.1) ∧ (a.1.2.2.2.1.1 = c7.2.2.2.2.2.1.1) ∧ (a.1.2.2.2.1.2.1 = c7.2.2.2.2.2.1.2.1) ∧ (a.1.2.2.2.1.2.2 = c7.2.2.2.2.2.1.2.2) ∧ (a.1.2.2.2.2.1.length = c7.2.2.2.2.2.2.1.length) ∧ (∀ i, i < c7.2.2.2.2.2.2.1.length → DEqs ((gl e_api_Label a.1.2.2.2.2.1) i) ((gl e_api_Label c7.2.2.2.2.2.2.1) i)) ∧ (a.1.2.2.2.2.2.1 = c7.2.2.2.2.2.2.2.1) ∧ (a.1.2.2.2.2.2.2.1 = c7.2.2.2.2.2.2.2.2.1) ∧ (a.1.2.2.2.2.2.2.2 = c7.2.2.2.2.2.2.2.2.2) ∧ (few5_pre c7) ∧ Br (!(few5 c7)) (∃ c10 : Unit, True ∧ ((lawTrue c10) = (lawTrue a)) ∧ True) (Br (decide ((1000 : Int) < (a.2.1.size : Int))) (∃ c15 : Unit, True ∧ ((lawTrue c15) = (lawTrue a)) ∧ True) (∃ c18 : T_api_Task, (a.1.1 = c18.1) ∧ (a.1.2.1 = c18.2.1) ∧ (a.1.2.2.1 = c18.2.2.1) ∧ (a.1.2.2.2.1.1 = c18.2.2.2.1.1) ∧ (a.1.2.2.2.1.2.1 = c18.2.2.2.1.2.1) ∧ (a.1.2.2.2.1.2.2 = c18.2.2.2.1.2.2) ∧ (a.1.2.2.2.2.1.length = c18.2.2.2.2.1.length) ∧ (∀ i, i < c18.2.2.2.2.1.length → DEqs ((gl e_api_Label a.1.2.2.2.2.1) i) ((gl e_api_Label c18.2.2.2.2.1) i)) ∧ (a.1.2.2.2.2.2.1 = c18.2.2.2.2.2.1) ∧ (a.1.2.2.2.2.2.2.1 = c18.2.2.2.2.2.2.1) ∧ (a.1.2.2.2.2.2.2.2 = c18.2.2.2.2.2.2.2) ∧ (task_pre c18) ∧ Br (!(taskB c18)) (∃ c21 : Unit, True ∧ ((lawTrue c21) = (lawTrue a)) ∧ True) (∃ c24 : T_api_Task, (a.1.1 = c24.1) ∧ (a.1.2.1 = c24.2.1) ∧ (a.1.2.2.1 = c24.2.2.1) ∧ (a.1.2.2.2.1.1 = c24.2.2.2.1.1) ∧ (a.1.2.2.2.1.2.1 = c24.2.2.2.1.2.1) ∧ (a.1.2.2.2.1.2.2 = c24.2.2.2.1.2.2) ∧ (a.1.2.2.2.2.1.length = c24.2.2.2.2.1.length) ∧ (∀ i, i < c24.2.2.2.2.1.length → DEqs ((gl e_api_Label a.1.2.2.2.2.1) i) ((gl e_api_Label c24.2.2.2.2.1) i)) ∧ (a.1.2.2.2.2.2.1 = c24.2.2.2.2.2.1) ∧ (ByteArray.empty = c24.2.2.2.2.2.2.1) ∧ ((0 : Int) = c24.2.2.2.2.2.2.2) ∧ (task_pre c24) ∧ Br (!(taskB c24)) ((false = (lawTrue a)) ∧ True) (∃ c28 : T_api_Task, (a.1.1 = c28.1) ∧ (a.1.2.1 = c28.2.1) ∧ (a.1.2.2.1 = c28.2.2.1) ∧ (a.1.2.2.2.1.1 = c28.2.2.2.1.1) ∧ (a.1.2.2.2.1.2.1 = c28.2.2.2.1.2.1) ∧ (a.1.2.2.2.1.2.2 = c28.2.2.2.1.2.2) ∧ (a.1.2.2.2.2.1.length = c28.2.2.2.2.1.length) ∧ (∀ i, i < c28.2.2.2.2.1.length → DEqs ((gl e_api_Label a.1.2.2.2.2.1) i) ((gl e_api_Label c28.2.2.2.2.1) i)) ∧ (a.1.2.2.2.2.2.1 = c28.2.2.2.2.2.1) ∧ (ByteArray.empty = c28.2.2.2.2.2.2.1) ∧ (a.2.2 = c28.2.2.2.2.2.2.2) ∧ (task_pre c28) ∧ Br (!((taskB c28) == (a.2.2 == (0 : Int)))) ((false = (lawTrue a)) ∧ True) (∃ c32 : T_api_Queue, (a.2.1 = c32.1) ∧ ((0 : Int) = c32.2.1) ∧ ((0 : Int) = c32.2.2.1) ∧ ((0 : Int) = c32.2.2.2) ∧ (queue_pre c32) ∧ Br (a.2.1.toList == ByteArray.empty.toList) (∃ c35 : T_api_Task, (a.1.1 = c35.1) ∧ (a.1.2.1 = c35.2.1) ∧ (a.1.2.2.1 = c35.2.2.1) ∧ (a.1.2.2.2.1.1 = c35.2.2.2.1.1) ∧ (a.1.2.2.2.1.2.1 = c35.2.2.2.1.2.1) ∧ (a.1.2.2.2.1.2.2 = c35.2.2.2.1.2.2) ∧ (a.1.2.2.2.2.1.length = c35.2.2.2.2.1.length) ∧ (∀ i, i < c35.2.2.2.2.1.length → DEqs ((gl e_api_Label a.1.2.2.2.2.1) i) ((gl e_api_Label c35.2.2.2.2.1) i)) ∧ (a.1.2.2.2.2.2.1 = c35.2.2.2.2.2.1) ∧ (a.2.1 = c35.2.2.2.2.2.2.1) ∧ (a.2.2 = c35.2.2.2.2.2.2.2) ∧ (task_pre c35) ∧ (((taskB c35) == (a.2.2 == (0 : Int))) = (lawTrue a)) ∧ True) (∃ c38 : T_api_Task, (a.1.1 = c38.1) ∧ (a.1.2.1 = c38.2.1) ∧ (a.1.2.2.1 = c38.2.2.1) ∧ (a.1.2.2.2.1.1 = c38.2.2.2.1.1) ∧ (a.1.2.2.2.1.2.1 = c38.2.2.2.1.2.1) ∧ (a.1.2.2.2.1.2.2 = c38.2.2.2.1.2.2) ∧ (a.1.2.2.2.2.1.length = c38.2.2.2.2.1.length) ∧ (∀ i, i < c38.2.2.2.2.1.length → DEqs ((gl e_api_Label a.1.2.2.2.2.1) i) ((gl e_api_Label c38.2.2.2.2.1) i)) ∧ (a.1.2.2.2.2.2.1 = c38.2.2.2.2.2.1) ∧ (a.2.1 = c38.2.2.2.2.2.2.1) ∧ (a.2.2 = c38.2.2.2.2.2.2.2) ∧ (task_pre c38) ∧ Br (queueB c32) (Br (decide ((2 : Int) ≤ a.2.2)) ((((taskB c38) == (decide (a.2.2 ≤ (4 : Int)))) = (lawTrue a)) ∧ True) ((((taskB c38) == false) = (lawTrue a)) ∧ True)) ((((taskB c38) == false) = (lawTrue a)) ∧ True))))))))
def f7.vc (a : T_api_Task × ByteArray × Int) : Prop := ((¬ ((lawTrue ()) = true) → ((lawTrue ()) = lawTrue a)) ∧ (¬ (¬ ((lawTrue ()) = true)) → (few5_pre ((ByteArray.empty, ((0 : Int), (0 : Int), (0 : Int)), []), (ByteArray.empty, ((0 : Int), (0 : Int), (0 : Int))), a.1) ∧ ((¬ ((few5 ((ByteArray.empty, ((0 : Int), (0 : Int), (0 : Int)), []), (ByteArray.empty, ((0 : Int), (0 : Int), (0 : Int))), a.1)) = true) → ((lawTrue ()) = lawTrue a)) ∧ (¬ (¬ ((few5 ((ByteArray.empty, ((0 : Int), (0 : Int), (0 : Int)), []), (ByteArray.empty, ((0 : Int), (0 : Int), (0 : Int))), a.1)) = true)) → (((1000 : Int) < (a.2.1.size : Int) → ((lawTrue ()) = lawTrue a)) ∧ (¬ ((1000 : Int) < (a.2.1.size : Int)) → (task_pre a.1 ∧ ((¬ ((taskB (a.1)) = true) → ((lawTrue ()) = lawTrue a)) ∧ (¬ (¬ ((taskB (a.1)) = true)) → (task_pre (a.1.1, a.1.2.1, a.1.2.2.1, a.1.2.2.2.1, a.1.2.2.2.2.1, a.1.2.2.2.2.2.1, ByteArray.empty, (0 : Int)) ∧ ((¬ ((taskB (a.1.1, a.1.2.1, a.1.2.2.1, a.1.2.2.2.1, a.1.2.2.2.2.1, a.1.2.2.2.2.2.1, ByteArray.empty, (0 : Int))) = true) → (false = lawTrue a)) ∧ (¬ (¬ ((taskB (a.1.1, a.1.2.1, a.1.2.2.1, a.1.2.2.2.1, a.1.2.2.2.2.1, a.1.2.2.2.2.2.1, ByteArray.empty, (0 : Int))) = true)) → (task_pre (a.1.1, a.1.2.1, a.1.2.2.1, a.1.2.2.2.1, a.1.2.2.2.2.1, a.1.2.2.2.2.2.1, ByteArray.empty, a.2.2) ∧ (((!((taskB (a.1.1, a.1.2.1, a.1.2.2.1, a.1.2.2.2.1, a.1.2.2.2.2.1, a.1.2.2.2.2.2.1, ByteArray.empty, a.2.2)) == (a.2.2 == (0 : Int)))) = true → (false = lawTrue a)) ∧ (¬ ((!((taskB (a.1.1, a.1.2.1, a.1.2.2.1, a.1.2.2.2.1, a.1.2.2.2.2.1, a.1.2.2.2.2.2.1, ByteArray.empty, a.2.2)) == (a.2.2 == (0 : Int)))) = true) → (queue_pre (a.2.1, ((0 : Int), (0 : Int), (0 : Int))) ∧ ((a.2.1 = ByteArray.empty → (task_pre (a.1.1, a.1.2.1, a.1.2.2.1, a.1.2.2.2.1, a.1.2.2.2.2.1, a.1.2.2.2.2.2.1, a.2.1, a.2.2) ∧ (((taskB (a.1.1, a.1.2.1, a.1.2.2.1, a.1.2.2.2.1, a.1.2.2.2.2.1, a.1.2.2.2.2.2.1, a.2.1, a.2.2)) == (a.2.2 == (0 : Int))) = lawTrue a))) ∧ (¬ (a.2.1 = ByteArray.empty) → (task_pre (a.1.1, a.1.2.1, a.1.2.2.1, a.1.2.2.2.1, a.1.2.2.2.2.1, a.1.2.2.2.2.2.1, a.2.1, a.2.2) ∧ (((queueB (a.2.1, ((0 : Int), (0 : Int), (0 : Int)))) = true → (((2 : Int) ≤ a.2.2 → (((taskB (a.1.1, a.1.2.1, a.1.2.2.1, a.1.2.2.2.1, a.1.2.2.2.2.1, a.1.2.2.2.2.2.1, a.2.1, a.2.2)) == (decide (a.2.2 ≤ (4 : Int)))) = lawTrue a)) ∧ (¬ ((2 : Int) ≤ a.2.2) → (((taskB (a.1.1, a.1.2.1, a.1.2.2.1, a.1.2.2.2.1, a.1.2.2.2.2.1, a.1.2.2.2.2.2.1, a.2.1, a.2.2)) == false) = lawTrue a)))) ∧ (¬ ((queueB (a.2.1, ((0 : Int), (0 : Int), (0 : Int)))) = true) → (((taskB (a.1.1, a.1.2.1, a.1.2.2.1, a.1.2.2.2.1, a.1.2.2.2.2.1, a.1.2.2.2.2.2.1, a.2.1, a.2.2)) == false) = lawTrue a)))))))))))))))))))))))
set_option maxRecDepth 100000 in
set_option maxHeartbeats 2000000 in
theorem f7.of (a : T_api_Task × ByteArray × Int) (h : f7.vc a) : f7.tree a := ⟨(), ⟨trivial, br h (Cnd.not Cnd.b) (fun h2 k68 => ⟨(), ⟨trivial, ⟨k68, trivial⟩⟩⟩) (fun h3 k69 => ⟨((ByteArray.empty, ((0 : Int), (0 : Int), (0 : Int)), []), (ByteArray.empty, ((0 : Int), (0 : Int), (0 : Int))), a.1), ⟨rfl, ⟨rfl, ⟨rfl, ⟨rfl, slK (Rds.nil (enc := e_api_Label)) (⟨rfl, ⟨rfl, ⟨rfl, ⟨rfl, ⟨rfl, ⟨rfl, ⟨rfl, ⟨rfl, ⟨rfl, ⟨rfl, slK (Rds.self (enc := e_api_Label)) (⟨rfl, ⟨rfl, ⟨rfl, ⟨k69.1, br k69.2 (Cnd.not Cnd.b) (fun h8 k65 => ⟨(), ⟨trivial, ⟨k65, trivial⟩⟩⟩) (fun h9 k66 => br k66 Cnd.dec (fun h13 k63 => ⟨(), ⟨trivial, ⟨k63, trivial⟩⟩⟩) (fun h14 k64 => ⟨a.1, ⟨rfl, ⟨rfl, ⟨rfl, ⟨rfl, ⟨rfl, ⟨rfl, slK (Rds.self (enc := e_api_Label)) (⟨rfl, ⟨rfl, ⟨rfl, ⟨k64.1, br k64.2 (Cnd.not Cnd.b) (fun h19 k60 => ⟨(), ⟨trivial, ⟨k60, trivial⟩⟩⟩) (fun h20 k61 => ⟨(a.1.1, a.1.2.1, a.1.2.2.1, a.1.2.2.2.1, a.1.2.2.2.2.1, a.1.2.2.2.2.2.1, ByteArray.empty, (0 : Int)), ⟨rfl, ⟨rfl, ⟨rfl, ⟨rfl, ⟨rfl, ⟨rfl, slK (Rds.self (enc := e_api_Label)) (⟨rfl, ⟨rfl, ⟨rfl, ⟨k61.1, br k61.2 (Cnd.not Cnd.b) (fun h25 k57 => ⟨k57, trivial⟩) (fun h26 k58 => ⟨(a.1.1, a.1.2.1, a.1.2.2.1, a.1.2.2.2.1, a.1.2.2.2.2.1, a.1.2.2.2.2.2.1, ByteArray.empty, a.2.2), ⟨rfl, ⟨rfl, ⟨rfl, ⟨rfl, ⟨rfl, ⟨rfl, slK (Rds.self (enc := e_api_Label)) (⟨rfl, ⟨rfl, ⟨rfl, ⟨k58.1, br k58.2 Cnd.b (fun h29 k54 => ⟨k54, trivial⟩) (fun h30 k55 => ⟨(a.2.1, ((0 : Int), (0 : Int), (0 : Int))), ⟨rfl, ⟨rfl, ⟨rfl, ⟨rfl, ⟨k55.1, br k55.2 Cnd.seq (fun h33 k51 => ⟨(a.1.1, a.1.2.1, a.1.2.2.1, a.1.2.2.2.1, a.1.2.2.2.2.1, a.1.2.2.2.2.2.1, a.2.1, a.2.2), ⟨rfl, ⟨rfl, ⟨rfl, ⟨rfl, ⟨rfl, ⟨rfl, slK (Rds.self (enc := e_api_Label)) (⟨rfl, ⟨rfl, ⟨rfl, ⟨k51.1, ⟨k51.2, trivial⟩⟩⟩⟩⟩)⟩⟩⟩⟩⟩⟩⟩) (fun h34 k52 => ⟨(a.1.1, a.1.2.1, a.1.2.2.1, a.1.2.2.2.1, a.1.2.2.2.2.1, a.1.2.2.2.2.2.1, a.2.1, a.2.2), ⟨rfl, ⟨rfl, ⟨rfl, ⟨rfl, ⟨rfl, ⟨rfl, slK (Rds.self (enc := e_api_Label)) (⟨rfl, ⟨rfl, ⟨rfl, ⟨k52.1, br k52.2 Cnd.b (fun h39 k48 => br k48 Cnd.dec (fun h41 k45 => ⟨k45, trivial⟩) (fun h42 k46 => ⟨k46, trivial⟩)) (fun h40 k49 => ⟨k49, trivial⟩)⟩⟩⟩⟩)⟩⟩⟩⟩⟩⟩⟩)⟩⟩⟩⟩⟩⟩)⟩⟩⟩⟩)⟩⟩⟩⟩⟩⟩⟩)⟩⟩⟩⟩)⟩⟩⟩⟩⟩⟩⟩)⟩⟩⟩⟩)⟩⟩⟩⟩⟩⟩⟩))⟩⟩⟩⟩)⟩⟩⟩⟩⟩⟩⟩⟩⟩⟩)⟩⟩⟩⟩⟩)⟩⟩
theorem f7.eq (a : T_api_Task × ByteArray × Int) : (f7.af a).gives f7.env (f7.args a) (f7.blks a) (f7.res a) (f7.blks' a) = f7.tree a := by kernel_rfl
end Go.Abs

/- Layer 1: plain facts on numbers' bytes. -/
namespace Go.Abs
open Go

theorem mk_data (l : List UInt8) : (ByteArray.mk l.toArray).data.toList = l := rfl
theorem mk_size (l : List UInt8) : (ByteArray.mk l.toArray).size = l.length := by simp [ByteArray.size]
theorem by1_data (c : Int) : (by1 c).data.toList = [UInt8.ofNat c.toNat] := rfl
theorem by1_size (c : Int) : (by1 c).size = 1 := rfl
theorem empty_data : ByteArray.empty.data.toList = [] := rfl
theorem empty_app (b : ByteArray) : ByteArray.empty ++ b = b := bytes_ext (by rw [data_app, empty_data, List.nil_append])
theorem app_empty (b : ByteArray) : b ++ ByteArray.empty = b := bytes_ext (by rw [data_app, empty_data, List.append_nil])
theorem app_assoc (a b c : ByteArray) : a ++ b ++ c = a ++ (b ++ c) := bytes_ext (by simp only [data_app, List.append_assoc])
theorem data_length (b : ByteArray) : b.data.toList.length = b.size := by rw [Array.length_toList]; rfl
theorem empty_size : ByteArray.empty.size = 0 := rfl

theorem be_length (k n : Nat) : (be k n).length = k := by
  induction k generalizing n with
  | zero => rfl
  | succ k ih => simp [be, ih]

theorem be_hi (k n : Nat) : be (k + 1) n = UInt8.ofNat (n / 256 ^ k) :: be k n := by
  induction k generalizing n with
  | zero => simp [be]
  | succ k ih =>
    rw [be, ih, List.cons_append, Nat.div_div_eq_div_mul, ← Nat.pow_succ']
    rfl

theorem nb_le {n k : Nat} : nb n ≤ k ↔ n < 256 ^ k := by
  have e : (256 : Nat) ^ k = 2 ^ (8 * k) := by rw [Nat.pow_mul]
  rw [e]
  unfold nb blen
  split
  · rename_i h
    subst h
    exact ⟨fun _ => Nat.pow_pos (by decide), fun _ => by omega⟩
  · rename_i h
    rw [← Nat.log2_lt h]
    omega

theorem nb_zero : nb 0 = 0 := by simp [nb, blen]
theorem nb_pos {n : Nat} (h : n ≠ 0) : 0 < nb n := by
  rcases Nat.eq_zero_or_pos (nb n) with h1 | h1
  · have := nb_le.1 (Nat.le_of_eq h1)
    simp at this
    exact absurd this h
  · exact h1
theorem nb_eight {n : Nat} (h : n < 2 ^ 64) : nb n ≤ 8 := nb_le.2 (Nat.lt_of_lt_of_eq h (by decide))
theorem num_data (n : Nat) : (num n).data.toList = UInt8.ofNat (nb n) :: be (nb n) n := rfl
theorem num_size (n : Nat) : (num n).size = nb n + 1 := by rw [← data_length, num_data, List.length_cons, be_length]
theorem U64.lt {n : Int} (h : U64 n) : n.toNat < 2 ^ 64 := by obtain ⟨h1, h2⟩ := h; omega
theorem ofNat_wrap {e : Int} (h : 0 ≤ e) : UInt8.ofNat (IntKind.u8.wrap e).toNat = UInt8.ofNat e.toNat := by
  apply UInt8.toNat_inj.1
  rw [UInt8.toNat_ofNat', UInt8.toNat_ofNat']
  simp [IntKind.wrap, IntKind.signed, IntKind.bits]
  omega

theorem val_nonneg (b : ByteArray) (i k : Nat) : 0 ≤ val b i k := by
  induction k with
  | zero => exact Int.le_refl 0
  | succ k ih => have := (u8bN b (i + k)).1; simp only [val]; omega
theorem val_lt (b : ByteArray) (i k : Nat) : val b i k < 256 ^ k := by
  induction k with
  | zero => exact (by decide : (0 : Int) < 1)
  | succ k ih =>
    have h1 := (u8bN b (i + k)).2
    simp only [val]
    rw [Int.pow_succ]
    omega
theorem val_bd {b : ByteArray} {i k : Nat} (h : k ≤ 8) : val b i k ≤ 18446744073709551615 := by
  have h1 := val_lt b i k
  have h2 : (256 : Int) ^ k ≤ 256 ^ 8 := by
    have h4 : (256 : Nat) ^ k ≤ 256 ^ 8 := Nat.pow_le_pow_right (by decide) h
    have h5 : ((256 ^ k : Nat) : Int) ≤ ((256 ^ 8 : Nat) : Int) := Int.ofNat_le.2 h4
    rw [Int.natCast_pow, Int.natCast_pow] at h5
    exact h5
  have h3 : (256 : Int) ^ 8 = 18446744073709551616 := by decide
  omega

theorem takeN_bd (a : ByteArray × Int) : 0 ≤ (takeN a).1 ∧ (takeN a).1 ≤ 18446744073709551615 ∧ 0 ≤ (takeN a).2.1 ∧ (takeN a).2.1 ≤ a.1.size := by
  unfold takeN
  have hb := u8b a.1 a.2
  split
  · simp
  · split
    · simp
    · split
      · simp
      · split
        · simp
        · split
          · simp
          · simp only
            refine ⟨val_nonneg _ _ _, val_bd (by omega), by omega, by omega⟩

theorem bAtN_eq {b : ByteArray} {i : Int} : bAt b i = bAtN b i.toNat := rfl
theorem bAt_sub {b : ByteArray} {lo hi i : Int} (h : (0 : Int) ≤ lo ∧ lo ≤ hi ∧ hi ≤ (b.size : Int)) (h0 : 0 ≤ i) (h1 : i < hi - lo) : bAt (subB b lo hi) i = bAt b (lo + i) := by
  unfold bAt subB
  rw [ByteArray.data_extract, nth_getD, nth_getD]
  simp only [List.getD_eq_getElem?_getD, Array.getElem?_toList, Array.getElem?_extract]
  have hb : b.data.size = b.size := rfl
  rw [if_pos (by omega), show Int.toNat (lo + i) = lo.toNat + i.toNat from by omega]

/-- n << 8 | c -/
theorem shl_or {n c : Int} (h0 : 0 ≤ n) (h1 : n < 72057594037927936) (h2 : 0 ≤ c) (h3 : c ≤ 255) :
    IntKind.u64.wrap ((BitVec.ofInt 64 (IntKind.u64.wrap (n * 256)) ||| BitVec.ofInt 64 c).toNat : Int) = n * 256 + c := by
  obtain ⟨n, rfl⟩ := Int.eq_ofNat_of_zero_le h0
  obtain ⟨c, rfl⟩ := Int.eq_ofNat_of_zero_le h2
  have e1 : IntKind.u64.wrap ((n : Int) * 256) = ((n * 256 : Nat) : Int) := by
    rw [wrap_id (by simp [IntKind.signed]; omega) (by simp [IntKind.signed, IntKind.bits]; omega)]
    simp
  rw [e1, BitVec.ofInt_natCast, BitVec.ofInt_natCast, BitVec.toNat_or, BitVec.toNat_ofNat, BitVec.toNat_ofNat, Nat.mod_eq_of_lt (by omega), Nat.mod_eq_of_lt (by omega)]
  have e2 : n * 256 ||| c = n * 256 + c := by
    have := Nat.two_pow_add_eq_or_of_lt (i := 8) (b := c) (by omega) n
    rw [show n * 256 = 2 ^ 8 * n from by omega, this]
  rw [e2, wrap_id (by simp [IntKind.signed]; omega) (by simp [IntKind.signed, IntKind.bits]; omega)]
  simp

end Go.Abs

/- Signs in texts: what the code asks is so. -/
namespace Go.Abs
open Go

theorem u8wrap {c : Int} (h0 : 0 ≤ c) (h1 : c ≤ 255) : IntKind.u8.wrap c = c := wrap_id (by simpa [IntKind.signed] using h0) (by simp [IntKind.signed, IntKind.bits]; omega)

theorem ixB_no {l : List UInt8} {c : UInt8} (h : ∀ x ∈ l, x ≠ c) : Lib.indexByte l c = -1 := by
  induction l with
  | nil => rfl
  | cons b l ih =>
    have hb : (b == c) = false := by simpa using h b (by simp)
    simp [Lib.indexByte, hb, ih (fun x hx => h x (List.mem_cons_of_mem _ hx))]

theorem ixB_iff {l : List UInt8} {c : UInt8} : 0 ≤ Lib.indexByte l c ↔ c ∈ l := by
  induction l with
  | nil => simp [Lib.indexByte]
  | cons b l ih =>
    have := Lib.indexByte_ge l c
    unfold Lib.indexByte
    by_cases hb : b = c
    · subst hb; simp
    · have : (b == c) = false := by simpa using hb
      rw [this]
      simp only [Bool.false_eq_true, if_false, List.mem_cons, ← ih]
      split
      · rename_i h1
        have h1 : Lib.indexByte l c = -1 := by simpa using h1
        constructor
        · intro h; omega
        · rintro (h | h)
          · exact absurd h.symm hb
          · omega
      · rename_i h1
        have h1 : ¬ Lib.indexByte l c = -1 := by simpa using h1
        constructor
        · intro _; right; omega
        · intro _; omega

theorem bAt_mem {s : ByteArray} {i : Int} (h0 : 0 ≤ i) (h1 : i < (s.size : Int)) : ∃ x ∈ s.data.toList, bAt s i = (x.toNat : Int) := by
  have h2 : i.toNat < s.data.toList.length := by rw [Array.length_toList]; show i.toNat < s.size; omega
  exact ⟨s.data.toList[i.toNat], List.getElem_mem h2, by unfold bAt; rw [nth_lt _ _ h2]⟩

theorem bAt_u8 (s : ByteArray) (i : Int) : (bAt s i).toNat.toUInt8 = nth s.data.toList i.toNat 0 := by
  unfold bAt
  simp

theorem get_bAt {s : ByteArray} {p : Nat} (h : p < s.size) : ((s[p]'h).toNat : Int) = bAt s (p : Int) := by
  have h2 : p < s.data.toList.length := by rw [Array.length_toList]; exact h
  unfold bAt
  rw [Int.toNat_natCast, nth_lt _ _ h2]
  rfl

theorem enc_last {r : Int} (h : 128 ≤ r) (hv : Utf8.valid r = true) : 1 ≤ (Utf8.encode r).size ∧ (Utf8.encode r).size ≤ 4 ∧ 128 ≤ bAt (Utf8.encode r) (((Utf8.encode r).size : Int) - 1) := by
  have hn : ¬ r.toNat < 128 := by omega
  unfold Utf8.encode
  simp only [hv, if_true, hn, if_false]
  split
  · refine ⟨Nat.le_of_ble_eq_true rfl, Nat.le_of_ble_eq_true rfl, ?_⟩
    show (128 : Int) ≤ ((UInt8.ofNat (0x80 + r.toNat % 64)).toNat : Int)
    simp only [UInt8.toNat_ofNat']
    omega
  · split
    · refine ⟨Nat.le_of_ble_eq_true rfl, Nat.le_of_ble_eq_true rfl, ?_⟩
      show (128 : Int) ≤ ((UInt8.ofNat (0x80 + r.toNat % 64)).toNat : Int)
      simp only [UInt8.toNat_ofNat']
      omega
    · refine ⟨Nat.le_of_ble_eq_true rfl, Nat.le_of_ble_eq_true rfl, ?_⟩
      show (128 : Int) ≤ ((UInt8.ofNat (0x80 + r.toNat % 64)).toNat : Int)
      simp only [UInt8.toNat_ofNat']
      omega

theorem f74.ok (a : ByteArray × Int) (_ : True) : f74.vc a := by
  exact rfl

theorem f78.ok (a : ByteArray × Int) (_ : True) : f78.vc a := by
  exact rfl

theorem f75.ok (a : Int) (_ : True) : f75.vc a := by
  unfold f75.vc
  refine ⟨fun h0 => ⟨fun h1 => ?_, fun h1 => ⟨fun h2 => ⟨fun h3 => ?_, fun h3 => ?_⟩, fun h2 => ?_⟩⟩, fun h0 => ⟨fun h2 => ⟨fun h3 => ?_, fun h3 => ?_⟩, fun h2 => ?_⟩⟩
  all_goals first | (symm; rw [decide_eq_true_eq]; omega) | (symm; rw [decide_eq_false_iff_not]; omega)

theorem asc_lt {s : ByteArray} (h : Ascii s) {i : Int} (h0 : 0 ≤ i) (h1 : i < (s.size : Int)) : bAt s i < 128 := by
  obtain ⟨x, hx, e⟩ := bAt_mem h0 h1
  have := h x hx
  omega

theorem f73.ok (a : ByteArray × Int) (h : rune_pre a) : f73.vc a := by
  obtain ⟨s, r⟩ := a
  obtain ⟨ha, hs, h0, h1⟩ := h
  simp only at ha hs h0 h1
  have hi := u8b s
  unfold f73.vc
  simp only
  refine ⟨fun _ => ⟨fun h2 => ?_, fun h2 => ?_⟩, fun h => absurd h0 h⟩
  · unfold ixRune
    rw [if_pos ⟨h0, h2⟩, u8wrap h0 (by omega)]
  · have hr : ixRune (s, r) = -1 := by
      unfold ixRune
      rw [if_neg (by simp only; omega)]
    rw [hr]
    refine ⟨fun h3 => ?_, fun h3 => ⟨fun _ => rfl, fun hv => ?_⟩⟩
    · refine ⟨fun y => 0 ≤ y ∧ y ≤ (s.size : Int), fun y => (s.size - y.toNat), ⟨by omega, by omega⟩, fun y hy => ⟨fun hlt => ?_, fun _ => rfl⟩⟩
      have hp : y.toNat < s.size := by omega
      have hd := decode_ascii s y.toNat hp (by
        have := asc_lt ha hlt.1 hlt.2
        rw [show y = ((y.toNat : Nat) : Int) from by omega, ← get_bAt hp] at this
        omega)
      have hb : ((s[y.toNat]'hp).toNat : Int) < 128 := by
        have := asc_lt ha hlt.1 hlt.2
        rw [show y = ((y.toNat : Nat) : Int) from by omega, ← get_bAt hp] at this
        exact this
      rw [hd]
      simp only
      refine ⟨fun h => by omega, fun _ => ⟨⟨by omega, by omega⟩, by omega⟩⟩
    · have hval : Utf8.valid r = true := by
        have hv := Classical.not_not.1 hv
        rw [decide_eq_true_eq] at hv
        unfold Utf8.valid
        simp only [Bool.or_eq_true, Bool.and_eq_true, decide_eq_true_eq]
        omega
      obtain ⟨e1, e2, e3⟩ := enc_last (by omega) hval
      have e4 := u8b (Utf8.encode r) (((Utf8.encode r).size : Int) - 1)
      generalize hE : Utf8.encode r = E at *
      have hno : ∀ l : List UInt8, (∀ x ∈ l, x.toNat < 128) → Lib.indexByte l (bAt E ((E.size : Int) - 1)).toNat.toUInt8 = -1 := fun l hl => ixB_no fun x hx e => by
        have h5 := hl x hx
        rw [e] at h5
        simp only [Nat.toUInt8_eq, UInt8.toNat_ofNat'] at h5
        omega
      refine ⟨by omega, by omega, fun hlt => ⟨by omega, hlt, by omega, by omega, fun hne => ⟨by omega, by omega, by omega, by omega, by omega, by omega, fun _ => rfl, fun hix => ?_⟩, fun heq => ?_⟩, fun _ => rfl⟩
      · refine absurd ?_ hix
        have : ixB (subB s ((E.size : Int) - 1 + 1) (s.size : Int), bAt E ((E.size : Int) - 1)) = -1 := hno _ fun x hx => ha x (by
          simp only [subB, ByteArray.data_extract, Array.toList_extract] at hx
          exact List.mem_of_mem_drop (List.mem_of_mem_take hx))
        omega
      · have heq := Classical.not_not.1 heq
        have := asc_lt ha (i := (E.size : Int) - 1) (by omega) hlt
        omega

theorem f71.ok (a : ByteArray × Int) (h : rune_pre a) : f71.vc a := ⟨h, rfl⟩

theorem letters_ok : ∀ x : Fin 256, (nth f67.s0.data.toList 0 0 = nth f67.s0.data.toList 0 0) ∧ (UInt8.ofNat x.1 ∈ f67.s0.data.toList ↔ ltr (UInt8.ofNat x.1) = true) := by decide +kernel

theorem letters_ascii : Ascii f67.s0 := by
  intro x hx
  have : ∀ x ∈ f67.s0.data.toList, x.toNat < 128 := by decide +kernel
  exact this x hx

theorem f67.ok (a : Int) (h : odd_pre a) : f67.vc a := by
  obtain ⟨h0, h1⟩ := h
  refine ⟨⟨letters_ascii, Nat.le_of_ble_eq_true rfl, h0, h1⟩, ?_⟩
  unfold oddR hasRune ixRune sgn
  congr 1
  by_cases h2 : a < 128
  · rw [if_pos ⟨h0, h2⟩]
    have e : ((0 ≤ a && a < 128 : Bool)) = true := by simp [h0, h2]
    rw [e, Bool.true_and]
    have := (letters_ok ⟨a.toNat, by omega⟩).2
    have e2 : UInt8.ofNat a.toNat = a.toNat.toUInt8 := rfl
    simp only at this
    rw [e2] at this
    unfold ixB
    simp only
    rw [Bool.eq_iff_iff, decide_eq_true_eq, ixB_iff, this]
  · rw [if_neg (by simp only; omega)]
    have e : ((0 ≤ a && a < 128 : Bool)) = false := by simp; omega
    rw [e, Bool.false_and]
    rfl

/-- A rune that is odd, at a place: the byte there is odd. -/
theorem odd_at {s : ByteArray} {p : Nat} (h : p < s.size) : oddR ((Utf8.decode s p).1 : Int) = !ltr (s[p]'h) ∧ (ltr (s[p]'h) = true → (Utf8.decode s p).2 = 1) := by
  by_cases ha : (s[p]'h).toNat < 128
  · rw [decode_ascii s p h ha]
    refine ⟨?_, fun _ => rfl⟩
    unfold oddR sgn
    have e : ((0 ≤ ((s[p]'h).toNat : Int) && ((s[p]'h).toNat : Int) < 128 : Bool)) = true := by simp; omega
    rw [e]
    simp
  · obtain ⟨h1, _⟩ := decode_high s p h (by omega)
    have hl : ltr (s[p]'h) = false := by
      cases hh : ltr (s[p]'h) with
      | false => rfl
      | true =>
        unfold ltr at hh
        simp only [Bool.or_eq_true, Bool.and_eq_true, decide_eq_true_eq, beq_iff_eq, UInt8.le_iff_toNat_le] at hh
        rcases hh with (⟨_, hh⟩ | ⟨_, hh⟩) | hh
        · simp at hh; omega
        · simp at hh; omega
        · rw [hh] at ha; simp at ha
    rw [hl]
    refine ⟨?_, fun h => by cases h⟩
    unfold oddR sgn
    have e : ((0 ≤ ((Utf8.decode s p).1 : Int) && ((Utf8.decode s p).1 : Int) < 128 : Bool)) = false := by simp; omega
    rw [e]
    rfl

theorem ixOdd_none {l : List UInt8} (h : ∀ (i : Nat) (x : UInt8), l[i]? = some x → ltr x = true) : ixOdd l = -1 := by
  unfold ixOdd
  rw [List.findIdx?_eq_none_iff.2 fun x hx => by
    obtain ⟨i, hi⟩ := List.getElem?_of_mem hx
    simp [h i x hi]]

theorem ixOdd_some {l : List UInt8} {p : Nat} {y : UInt8} (h : ∀ (i : Nat) (x : UInt8), i < p → l[i]? = some x → ltr x = true) (hy : l[p]? = some y) (hp : ltr y = false) : ixOdd l = (p : Int) := by
  have hlt : p < l.length := (List.getElem?_eq_some_iff.1 hy).1
  unfold ixOdd
  have : l.findIdx? (fun x => !ltr x) = some p := by
    rw [List.findIdx?_eq_some_iff_getElem]
    refine ⟨hlt, ?_, fun j hj => ?_⟩
    · rw [(List.getElem?_eq_some_iff.1 hy).2, hp]; rfl
    · rw [h j _ hj (List.getElem?_eq_getElem (by omega))]; simp
  rw [this]

theorem f72.ok (a : ByteArray × Bool) (h : ixOdd_pre a) : f72.vc a := by
  obtain ⟨s, b⟩ := a
  obtain ⟨hs, hb⟩ := h
  simp only at hs hb
  subst hb
  have hlen : s.data.toList.length = s.size := by rw [Array.length_toList]; rfl
  refine ⟨fun y => 0 ≤ y ∧ y ≤ (s.size : Int) ∧ ∀ (i : Nat) (x : UInt8), i < y.toNat → s.data.toList[i]? = some x → ltr x = true, fun y => s.size - y.toNat, ⟨by omega, by omega, fun i x hi => by simp at hi⟩, fun y hy => ?_⟩
  obtain ⟨h0, h1, h2⟩ := hy
  refine ⟨fun hlt => ⟨⟨by omega, ?_⟩, fun ho => ?_, fun ho => ?_⟩, fun hge => ?_⟩
  · have := Lib.rune_le s y.toNat
    simp only
    omega
  all_goals try (have hp : y.toNat < s.size := by simp only at hlt; omega)
  · obtain ⟨h3, _⟩ := odd_at hp
    simp only [h3] at ho
    have ho : ltr (s[y.toNat]'hp) = false := by simpa using ho
    unfold indexOdd
    simp only
    rw [ixOdd_some h2 (y := s[y.toNat]'hp) (by rw [List.getElem?_eq_getElem (by omega)]; rfl) ho]
    omega
  · obtain ⟨h3, h4⟩ := odd_at hp
    simp only [h3] at ho
    have ho : ltr (s[y.toNat]'hp) = true := by simpa using ho
    simp only
    rw [h4 ho]
    refine ⟨⟨by omega, by simp only at hlt; omega, fun i x hi hx => ?_⟩, by omega⟩
    by_cases he : i = y.toNat
    · subst he
      rw [List.getElem?_eq_getElem (by omega)] at hx
      cases hx
      exact ho
    · exact h2 i x (by omega) hx
  · unfold indexOdd
    simp only
    rw [ixOdd_none fun i x hx => h2 i x (by
      have := (List.getElem?_eq_some_iff.1 hx).1
      simp only at hge
      omega) hx]

theorem f70.ok (a : ByteArray) (h : text_pre30 a) : f70.vc a := ⟨⟨h, rfl⟩, rfl⟩

theorem f66.ok (a : ByteArray) (h : text_pre30 a) : f66.vc a := ⟨h, rfl⟩

end Go.Abs

/- Names, labels, bytes of tasks: plain facts. -/
namespace Go.Abs
open Go

theorem less_irrefl : ∀ x : List UInt8, Op.bytesLess x x = false
  | [] => rfl
  | a :: x => by
    have h : (a < a) = False := by simp
    simp [Op.bytesLess, less_irrefl x]

theorem less_tri : ∀ x y : List UInt8, Op.bytesLess x y = true ∨ x = y ∨ Op.bytesLess y x = true
  | [], [] => .inr (.inl rfl)
  | [], _ :: _ => .inl rfl
  | _ :: _, [] => .inr (.inr rfl)
  | a :: x, b :: y => by
    simp only [Op.bytesLess, Bool.or_eq_true, Bool.and_eq_true, decide_eq_true_eq, beq_iff_eq, List.cons.injEq]
    rcases Nat.lt_trichotomy a.toNat b.toNat with h | h | h
    · exact .inl (.inl (UInt8.lt_iff_toNat_lt.2 h))
    · have h : a = b := UInt8.toNat_inj.1 h
      subst h
      rcases less_tri x y with h | h | h
      · exact .inl (.inr ⟨rfl, h⟩)
      · exact .inr (.inl ⟨rfl, h⟩)
      · exact .inr (.inr (.inr ⟨rfl, h⟩))
    · exact .inr (.inr (.inl (UInt8.lt_iff_toNat_lt.2 h)))

theorem less_trans : ∀ {x y z : List UInt8}, Op.bytesLess x y = true → Op.bytesLess y z = true → Op.bytesLess x z = true
  | [], [], _, h, _ => by cases h
  | [], _ :: _, [], _, h => by cases h
  | [], _ :: _, _ :: _, _, _ => rfl
  | _ :: _, [], _, h, _ => by cases h
  | _ :: _, _ :: _, [], _, h => by cases h
  | a :: x, b :: y, c :: z, h, k => by
    simp only [Op.bytesLess, Bool.or_eq_true, Bool.and_eq_true, decide_eq_true_eq, beq_iff_eq] at h k ⊢
    rcases h with h | ⟨rfl, h⟩ <;> rcases k with k | ⟨rfl, k⟩
    · exact .inl (UInt8.lt_trans h k)
    · exact .inl h
    · exact .inl k
    · exact .inr ⟨rfl, less_trans h k⟩

theorem less_asymm {x y : List UInt8} (h : Op.bytesLess x y = true) : Op.bytesLess y x = false := by
  cases hh : Op.bytesLess y x with
  | false => rfl
  | true => rw [← less_irrefl x, less_trans h hh]

theorem slt_iff {a b : ByteArray} : slt a b = true ↔ sLt a b := Iff.rfl
theorem slt_not {a b : ByteArray} : slt a b = false ↔ sLe b a := by
  unfold slt sLe sLt
  constructor
  · intro h
    rcases less_tri a.toList b.toList with h1 | h1 | h1
    · rw [h] at h1; cases h1
    · exact .inr (toList_inj.1 h1.symm)
    · exact .inl h1
  · rintro (h | rfl)
    · exact less_asymm h
    · exact less_irrefl _

theorem ltr_iff (x : UInt8) : ltr x = true ↔ (97 ≤ x.toNat ∧ x.toNat ≤ 122) ∨ (48 ≤ x.toNat ∧ x.toNat ≤ 57) ∨ x.toNat = 45 := by
  unfold ltr
  simp only [Bool.or_eq_true, Bool.and_eq_true, decide_eq_true_eq, beq_iff_eq, UInt8.le_iff_toNat_le, or_assoc]
  have : x = 45 ↔ x.toNat = 45 := ⟨fun h => by subst h; rfl, fun h => UInt8.toNat_inj.1 h⟩
  rw [this]
  rfl

theorem size_zero {a : ByteArray} : a = ByteArray.empty ↔ a.size = 0 := ⟨fun h => by subst h; rfl, fun h => bytes_ext (by
  have := data_length a
  rw [h] at this
  rw [List.length_eq_zero_iff.1 this]; rfl)⟩

/-- A name, told by its bytes. -/
theorem nameB_iff {s : ByteArray} : nameB s = true ↔ 1 ≤ s.size ∧ s.size ≤ 16 ∧ bAt s 0 ≠ 45 ∧ ∀ (i : Nat) (x : UInt8), s.data.toList[i]? = some x → ltr x = true := by
  unfold nameB
  have e : nth s.data.toList 0 0 ≠ 45 ↔ bAt s 0 ≠ 45 := by
    unfold bAt
    have : nth s.data.toList (Int.toNat 0) 0 = 45 ↔ (nth s.data.toList (Int.toNat 0) 0).toNat = 45 := ⟨fun h => by rw [h]; rfl, fun h => UInt8.toNat_inj.1 h⟩
    show nth s.data.toList (Int.toNat 0) 0 ≠ 45 ↔ _
    rw [Ne, this]
    omega
  simp only [Bool.and_eq_true, decide_eq_true_eq, bne_iff_ne, List.all_eq_true, e, and_assoc]
  constructor
  · rintro ⟨h1, h2, h3, h4⟩
    exact ⟨h1, h2, h3, fun i x hx => h4 x (List.mem_of_getElem? hx)⟩
  · rintro ⟨h1, h2, h3, h4⟩
    exact ⟨h1, h2, h3, fun x hx => by
      obtain ⟨i, hi⟩ := List.getElem?_of_mem hx
      exact h4 i x hi⟩

theorem ixOdd_neg {l : List UInt8} : ixOdd l < 0 ↔ ∀ (i : Nat) (x : UInt8), l[i]? = some x → ltr x = true := by
  unfold ixOdd
  constructor
  · intro h i x hx
    cases hf : l.findIdx? (fun x => !ltr x) with
    | none =>
      have := List.findIdx?_eq_none_iff.1 hf x (List.mem_of_getElem? hx)
      simpa using this
    | some j => rw [hf] at h; simp only at h; omega
  · intro h
    rw [List.findIdx?_eq_none_iff.2 fun x hx => by
      obtain ⟨i, hi⟩ := List.getElem?_of_mem hx
      simp [h i x hi]]
    decide

theorem hasOdd_not {s : ByteArray} : hasOdd s = false ↔ ∀ (i : Nat) (x : UInt8), s.data.toList[i]? = some x → ltr x = true := by
  unfold hasOdd
  rw [decide_eq_false_iff_not, ← ixOdd_neg]
  omega

theorem at_getD {α : Type} [Inhabited α] (l : List α) (i : Int) : at_ l i = l.getD i.toNat default := rfl

theorem labelsB_iff {l : List TLbl} : labelsB l = true ↔ l.length ≤ 4 ∧ ∀ i, i < l.length → lblAt l i = true := by
  unfold labelsB
  simp only [Bool.and_eq_true, decide_eq_true_eq, List.all_eq_true, List.mem_range]

theorem getD_mem {α : Type} [Inhabited α] {l : List α} {i : Nat} (h : i < l.length) : l.getD i default ∈ l := by
  rw [List.getD_eq_getElem?_getD, List.getElem?_eq_getElem h]
  exact List.getElem_mem h

theorem at_mem {α : Type} [Inhabited α] {l : List α} {i : Int} (h0 : 0 ≤ i) (h : i < (l.length : Int)) : at_ l i ∈ l := getD_mem (by omega)

theorem rightB_iff {r : TRes} : rightB r = true ↔ (0 ≤ r.1 ∧ r.1 ≤ 1048576) ∧ (0 ≤ r.2.1 ∧ r.2.1 ≤ 1048576) ∧ (0 ≤ r.2.2 ∧ r.2.2 ≤ 1048576) := by
  unfold rightB okN
  simp only [Bool.and_eq_true, decide_eq_true_eq, and_assoc]

theorem nodeB_iff {n : TNode} : nodeB n = true ↔ nameB n.1 = true ∧ rightB n.2.1 = true ∧ labelsB n.2.2 = true := by
  unfold nodeB
  simp only [Bool.and_eq_true, and_assoc]
theorem queueB_iff {n : TQueue} : queueB n = true ↔ nameB n.1 = true ∧ rightB n.2 = true := by
  unfold queueB
  simp only [Bool.and_eq_true]
theorem taskB_iff {t : TTask} : taskB t = true ↔ nameB t.1 = true ∧ nameB t.2.1 = true ∧ (0 ≤ t.2.2.1 ∧ t.2.2.1 ≤ 9) ∧ rightB t.2.2.2.1 = true ∧ labelsB t.2.2.2.2.1 = true ∧ maybeB t.2.2.2.2.2.1 = true ∧ maybeB t.2.2.2.2.2.2.1 = true ∧ sizeB t.2.2.2.2.2.2.1 t.2.2.2.2.2.2.2 = true := by
  unfold taskB
  simp only [Bool.and_eq_true, decide_eq_true_eq, and_assoc]

theorem name_size {s : ByteArray} (h : nameB s = true) : s.size ≤ 16 := (nameB_iff.1 h).2.1
theorem maybe_size {s : ByteArray} (h : maybeB s = true) : s.size ≤ 16 := by
  unfold maybeB at h
  simp only [Bool.or_eq_true, beq_iff_eq] at h
  rcases h with h | h
  · omega
  · exact name_size h
theorem lbl_size {l : List TLbl} (h : labelsB l = true) : ∀ x ∈ l, x.1.size ≤ 16 ∧ x.2.size ≤ 16 := fun x hx => by
  obtain ⟨i, hi, rfl⟩ := List.mem_iff_getElem.1 hx
  have := (labelsB_iff.1 h).2 i hi
  unfold lblAt at this
  simp only [Bool.and_eq_true] at this
  rw [List.getD_eq_getElem?_getD, List.getElem?_eq_getElem hi] at this
  exact ⟨name_size this.1.1, name_size this.1.2⟩

theorem num_small {n : Nat} (h : n < 2 ^ 64) : (num n).size ≤ 9 := by
  rw [num_size]
  have := nb_eight h
  omega
theorem app_size (a b : ByteArray) : (a ++ b).size = a.size + b.size := by simp
theorem textS_size {s : ByteArray} (h : s.size ≤ 268435456) : (textS s).size ≤ 9 + s.size := by
  unfold textS
  rw [app_size]
  have := num_small (n := s.size) (by omega)
  omega
theorem amtS_size {r : TRes} (h : rightB r = true) : (amtS r).size ≤ 27 := by
  obtain ⟨h1, h2, h3⟩ := rightB_iff.1 h
  unfold amtS
  rw [app_size, app_size]
  have a := num_small (n := r.1.toNat) (by omega)
  have b := num_small (n := r.2.1.toNat) (by omega)
  have c := num_small (n := r.2.2.toNat) (by omega)
  omega
theorem lblsS0_size {l : List TLbl} (h : ∀ x ∈ l, x.1.size ≤ 16 ∧ x.2.size ≤ 16) : (lblsS0 l).size ≤ 50 * l.length := by
  induction l with
  | nil => exact Nat.le_refl _
  | cons x l ih =>
    have h1 := h x (by simp)
    have h2 := ih fun y hy => h y (List.mem_cons_of_mem _ hy)
    have a := textS_size (s := x.1) (by omega)
    have b := textS_size (s := x.2) (by omega)
    simp only [lblsS0, app_size, List.length_cons]
    omega
theorem lblsS_size {l : List TLbl} (h : labelsB l = true) : (lblsS l).size ≤ 209 := by
  have h1 := lblsS0_size (lbl_size h)
  have h2 := (labelsB_iff.1 h).1
  have h3 := num_small (n := l.length) (by omega)
  unfold lblsS
  rw [app_size]
  omega

theorem lblsS0_app (l m : List TLbl) : lblsS0 (l ++ m) = lblsS0 l ++ lblsS0 m := by
  induction l with
  | nil => simp only [List.nil_append, lblsS0, empty_app]
  | cons x l ih => simp only [List.cons_append, lblsS0, ih, app_assoc]

theorem lblsS0_take {l : List TLbl} {i : Nat} (h : i < l.length) : lblsS0 (l.take (i + 1)) = lblsS0 (l.take i) ++ textS (l.getD i default).1 ++ textS (l.getD i default).2 := by
  rw [List.take_add_one, lblsS0_app, List.getD_eq_getElem?_getD, List.getElem?_eq_getElem h]
  simp only [Option.toList_some, lblsS0, Option.getD_some, app_empty, app_assoc]

theorem nodeS0_size {n : TNode} (h : nodeB n = true) : (nodeS0 n).size ≤ 300 := by
  obtain ⟨h1, h2, h3⟩ := nodeB_iff.1 h
  have a := name_size h1
  have b := textS_size (s := n.1) (by omega)
  have c := amtS_size h2
  have d := lblsS_size h3
  unfold nodeS0
  rw [app_size, app_size]
  omega
theorem queueS0_size {n : TQueue} (h : queueB n = true) : (queueS0 n).size ≤ 100 := by
  obtain ⟨h1, h2⟩ := queueB_iff.1 h
  have a := name_size h1
  have b := textS_size (s := n.1) (by omega)
  have c := amtS_size h2
  unfold queueS0
  rw [app_size]
  omega
theorem sizeB_iff {g : ByteArray} {n : Int} : sizeB g n = true ↔ (g.size = 0 ∧ n = 0) ∨ (g.size ≠ 0 ∧ 2 ≤ n ∧ n ≤ 4) := by
  unfold sizeB
  split
  · rename_i h; simp [h]
  · rename_i h; simp [h]
theorem taskS0_size {t : TTask} (h : taskB t = true) : (taskS0 t).size ≤ 500 := by
  obtain ⟨h1, h2, h3, h4, h5, h6, h7, h8⟩ := taskB_iff.1 h
  have a1 := name_size h1
  have a2 := name_size h2
  have a6 := maybe_size h6
  have a7 := maybe_size h7
  have b1 := textS_size (s := t.1) (by omega)
  have b2 := textS_size (s := t.2.1) (by omega)
  have b3 := num_small (n := t.2.2.1.toNat) (by omega)
  have b4 := amtS_size h4
  have b5 := lblsS_size h5
  have b6 := textS_size (s := t.2.2.2.2.2.1) (by omega)
  have b7 := textS_size (s := t.2.2.2.2.2.2.1) (by omega)
  have b8 := num_small (n := t.2.2.2.2.2.2.2.toNat) (by rcases sizeB_iff.1 h8 with h | h <;> omega)
  unfold taskS0
  simp only [app_size]
  omega

end Go.Abs

-- interregnum/interregnumref01.Number
namespace Go.Abs
open Go
def f15.args (a : Int) : List D := [.int .u64 a]
def f15.blks (a : Int) : List (List D) := []
def f15.res (a : Int) : List D := [.str (numS a)]
def f15.blks' (a : Int) : List (List D) := []
def f15.C : Contract := FnC f15.args f15.blks (fun a => num_pre a) f15.res f15.blks'
end Go.Abs

/- interregnum/interregnumref01.Number -/
namespace Go.Abs
open Go
set_option linter.unusedVariables false
def f15.kills (a : Int) : List Hint := [.tell (Int × ByteArray) (fun x => ⟨[.int .u64 x.1, .dead, .dead, .str x.2, .dead, .dead, .dead, .dead, .dead, .dead, .dead, .dead, .dead, .dead, .dead, .dead, .dead, .dead, .dead, .dead, .dead, .dead], [], []⟩)]
def f15.cuts (a : Int) : List (Nat × Σ β : Type, β → Tm) := []
def f15.af (a : Int) : AF := AF.mk (.seq (.region [⟨(some 2), 0, .move, [.c (.str ByteArray.empty)], none⟩])
 (.seq (.region [⟨(some 3), 1, .move, [.c (.str ByteArray.empty)], none⟩])
 (.seq (.block 0 (.loopT (Int × ByteArray) (fun x => ⟨[.int .u64 x.1, .dead, .dead, .str x.2, .dead, .dead, .dead, .dead, .dead, .dead, .dead, .dead, .dead, .dead, .dead, .dead, .dead, .dead, .dead, .dead, .dead, .dead], [], []⟩) 2 15 (.seq (.seq (.region [⟨(some 4), 2, .move, [.t 0], none⟩,
  ⟨(some 5), 3, (.bin .gtr), [.t 4, .c (.int .u64 (0))], none⟩])
 (.cond (.t 5) (.skip) (.exit 0)))
 (.block 1 (.seq (.region [⟨(some 6), 4, .move, [.t 0], none⟩,
  ⟨(some 7), 5, (.bin .rem), [.t 6, .c (.int .u64 (256))], none⟩,
  ⟨(some 8), 6, (.conv (.int .u8)), [.t 7], none⟩,
  ⟨(some 9), 7, (.buildSlice 1 1 [.int .u8 (0)] [(0, 1)]), [.t 8], none⟩,
  ⟨(some 10), 8, (.conv .b2s), [.t 9], none⟩,
  ⟨(some 11), 9, .move, [.t 3], none⟩,
  ⟨(some 12), 10, (.bin .add), [.t 10, .t 11], none⟩,
  ⟨(some 3), 11, .move, [.t 12], none⟩])
 (.region [⟨(some 13), 12, .move, [.t 0], none⟩,
  ⟨(some 14), 13, (.bin .quo), [.t 13, .c (.int .u64 (256))], none⟩,
  ⟨(some 0), 14, .move, [.t 14], none⟩]))))))
 (.seq (.region [⟨(some 15), 15, .move, [.t 3], none⟩,
  ⟨(some 16), 16, (.len true), [.t 15], none⟩,
  ⟨(some 17), 17, (.conv (.int .u8)), [.t 16], none⟩,
  ⟨(some 18), 18, (.buildSlice 1 1 [.int .u8 (0)] [(0, 1)]), [.t 17], none⟩,
  ⟨(some 19), 19, (.conv .b2s), [.t 18], none⟩,
  ⟨(some 20), 20, .move, [.t 3], none⟩,
  ⟨(some 21), 21, (.bin .add), [.t 19, .t 20], none⟩,
  ⟨(some 2), 22, .move, [.t 21], none⟩])
 (.ret)))))
  [.tmp 2] 0 21
def f15.env : Env := []
def f15.tree (a : Int) : Prop := ∃ (I2 : (Int × ByteArray) → Prop) (μ3 : (Int × ByteArray) → Nat), (∃ x1 : Int × ByteArray, (a = x1.1) ∧ (ByteArray.empty = x1.2) ∧ I2 x1) ∧ ∀ y4 : Int × ByteArray, I2 y4 → (Br (decide ((0 : Int) < y4.1)) (Let (Int.tmod y4.1 (256 : Int)) (fun v7 : Int => Bytes 1 (fun _ => [.int .u8 (IntKind.u8.wrap v7)]) ∧ Let (textOf 1 (fun _ => [.int .u8 (IntKind.u8.wrap v7)])) (fun v8 : ByteArray => Br (Nat.ble (v8.size + y4.2.size) 9223372036854775807) (Let (IntKind.u64.wrap (Int.tdiv y4.1 (256 : Int))) (fun v10 : Int => ∃ x11 : Int × ByteArray, (v10 = x11.1) ∧ ((v8 ++ y4.2) = x11.2) ∧ I2 x11 ∧ μ3 x11 < μ3 y4)) False))) (Bytes 1 (fun _ => [.int .u8 (IntKind.u8.wrap (y4.2.size : Int))]) ∧ Let (textOf 1 (fun _ => [.int .u8 (IntKind.u8.wrap (y4.2.size : Int))])) (fun v14 : ByteArray => Br (Nat.ble (v14.size + y4.2.size) 9223372036854775807) (((v14 ++ y4.2) = (numS a)) ∧ True) False)))
def f15.vc (a : Int) : Prop := (∃ (I2 : (Int × ByteArray) → Prop) (μ3 : (Int × ByteArray) → Nat), I2 (a, ByteArray.empty) ∧ ∀ y4 : Int × ByteArray, I2 y4 → (((0 : Int) < y4.1 → (0 ≤ y4.1 ∧ (((by1 (IntKind.u8.wrap (y4.1 % (256 : Int)))).size + y4.2.size ≤ 9223372036854775807) ∧ (0 ≤ y4.1 ∧ y4.1 ≤ 18446744073709551615 ∧ (I2 ((y4.1 / (256 : Int)), (by1 (IntKind.u8.wrap (y4.1 % (256 : Int)))) ++ y4.2) ∧ μ3 ((y4.1 / (256 : Int)), (by1 (IntKind.u8.wrap (y4.1 % (256 : Int)))) ++ y4.2) < μ3 y4))))) ∧ (¬ ((0 : Int) < y4.1) → (((by1 (IntKind.u8.wrap (y4.2.size : Int))).size + y4.2.size ≤ 9223372036854775807) ∧ ((by1 (IntKind.u8.wrap (y4.2.size : Int))) ++ y4.2 = numS a)))))
set_option maxRecDepth 100000 in
set_option maxHeartbeats 2000000 in
theorem f15.of (a : Int) (h : f15.vc a) : f15.tree a := Exists.elim h (fun I2 h20_ => Exists.elim h20_ (fun μ3 h20 => ⟨I2, μ3, ⟨(a, ByteArray.empty), ⟨rfl, ⟨rfl, h20.1⟩⟩⟩, fun y4 h22 => br (h20.2 y4 h22) Cnd.dec (fun h5 k18 => modK k18.1 (b2s k18.2 (RdB.one (by first | exact u8w _ | exact u8b _ _ | exact u8bN _ _ | decide | omega)) (fun h => chk h.2 Cnd.ble h.1 (fun h9 k13 => divK.u64 k13.1 k13.2.1 (by decide) (⟨((y4.1 / (256 : Int)), (by1 (IntKind.u8.wrap (y4.1 % (256 : Int)))) ++ y4.2), ⟨rfl, ⟨rfl, k13.2.2⟩⟩⟩))))) (fun h6 k19 => b2s k19 (RdB.one (by first | exact u8w _ | exact u8b _ _ | exact u8bN _ _ | decide | omega)) (fun h => chk h.2 Cnd.ble h.1 (fun h15 k17 => ⟨k17, trivial⟩)))⟩))
theorem f15.eq (a : Int) : (f15.af a).gives f15.env (f15.args a) (f15.blks a) (f15.res a) (f15.blks' a) = f15.tree a := by kernel_rfl
end Go.Abs

-- interregnum/interregnumref01.Text
namespace Go.Abs
open Go
def f17.args (a : ByteArray) : List D := [.str a]
def f17.blks (a : ByteArray) : List (List D) := []
def f17.res (a : ByteArray) : List D := [.str (textS a)]
def f17.blks' (a : ByteArray) : List (List D) := []
def f17.C : Contract := FnC f17.args f17.blks (fun a => text_pre a) f17.res f17.blks'
end Go.Abs

/- interregnum/interregnumref01.Text -/
namespace Go.Abs
open Go
set_option linter.unusedVariables false
def f17.kills (a : ByteArray) : List Hint := []
def f17.cuts (a : ByteArray) : List (Nat × Σ β : Type, β → Tm) := []
def f17.af (a : ByteArray) : AF := AF.mk (.seq (.region [⟨(some 2), 0, .move, [.c (.str ByteArray.empty)], none⟩])
 (.seq (.region [⟨(some 3), 1, .move, [.t 0], none⟩,
  ⟨(some 4), 2, (.len true), [.t 3], none⟩,
  ⟨(some 5), 3, (.conv (.int .u64)), [.t 4], none⟩,
  ⟨(some 6), 4, (.call false 15), [.t 5], none⟩,
  ⟨(some 7), 8, .move, [.t 0], none⟩,
  ⟨(some 8), 9, (.bin .add), [.t 6, .t 7], none⟩,
  ⟨(some 2), 10, .move, [.t 8], none⟩])
 (.ret)))
  [.tmp 2] 0 8
def f17.env : Env := [(15, f15.C)]
def f17.tree (a : ByteArray) : Prop := Let (IntKind.u64.wrap (a.size : Int)) (fun v1 : Int => ∃ c2 : Int, (v1 = c2) ∧ (num_pre c2) ∧ Br (Nat.ble ((numS c2).size + a.size) 9223372036854775807) ((((numS c2) ++ a) = (textS a)) ∧ True) False)
def f17.vc (a : ByteArray) : Prop := (0 ≤ (a.size : Int) ∧ (a.size : Int) ≤ 18446744073709551615 ∧ (num_pre (a.size : Int) ∧ (((numS (a.size : Int)).size + a.size ≤ 9223372036854775807) ∧ ((numS (a.size : Int)) ++ a = textS a))))
set_option maxRecDepth 100000 in
set_option maxHeartbeats 2000000 in
theorem f17.of (a : ByteArray) (h : f17.vc a) : f17.tree a := wrapK.u64 h (fun h7 h8 k9 => ⟨(a.size : Int), ⟨rfl, ⟨k9.1, chk k9.2.2 Cnd.ble k9.2.1 (fun h3 k5 => ⟨k5, trivial⟩)⟩⟩⟩)
theorem f17.eq (a : ByteArray) : (f17.af a).gives f17.env (f17.args a) (f17.blks a) (f17.res a) (f17.blks' a) = f17.tree a := by kernel_rfl
end Go.Abs

-- interregnum/pack.Take
namespace Go.Abs
open Go
def f18.args (a : ByteArray × Int) : List D := [.slice .ro 1 a.1.size (gstr a.1), .int .i64 a.2]
def f18.blks (a : ByteArray × Int) : List (List D) := []
def f18.res (a : ByteArray × Int) : List D := [.int .u64 ((takeN a).1), .int .i64 ((takeN a).2.1), .int .i64 ((takeN a).2.2)]
def f18.blks' (a : ByteArray × Int) : List (List D) := []
def f18.C : Contract := FnC f18.args f18.blks (fun a => take_pre a) f18.res f18.blks'
end Go.Abs

/- interregnum/pack.Take -/
namespace Go.Abs
open Go
set_option linter.unusedVariables false
def f18.kills (a : ByteArray × Int) : List Hint := [.tell (Int × Int × ByteArray × Int × Int) (fun x => ⟨[.dead, .int .i64 a.2, .dead, .dead, .dead, .dead, .dead, .dead, .int .i64 x.1, .int .u64 x.2.1, .dead, .dead, .dead, .dead, .dead, .dead, .dead, .dead, .dead, .dead, .dead, .dead, .dead, .dead, .dead, .dead, .dead, .dead, .dead, .dead, .dead, .dead, .dead, .dead, .dead, .dead, .dead, .dead, .dead, .dead, .dead, .dead, .dead, .dead, .dead, .dead, .dead, .dead, .dead, .dead, .slice .ro 1 x.2.2.1.size (gstr x.2.2.1), .int .i64 x.2.2.2.1, .int .i64 x.2.2.2.2, .dead, .dead, .dead, .dead, .dead, .dead, .dead, .dead, .dead, .dead, .dead, .dead, .dead, .dead], [], []⟩)]
def f18.cuts (a : ByteArray × Int) : List (Nat × Σ β : Type, β → Tm) := []
def f18.af (a : ByteArray × Int) : AF := AF.mk (.seq (.region [⟨(some 4), 0, .move, [.c (.int .u64 (0))], none⟩,
  ⟨(some 5), 1, .move, [.c (.int .i64 (0))], none⟩,
  ⟨(some 6), 2, .move, [.c (.int .i64 (0))], none⟩])
 (.seq (.seq (.region [⟨(some 12), 3, .move, [.t 1], none⟩,
  ⟨(some 13), 4, (.bin .lss), [.t 12, .c (.int .i64 (0))], none⟩,
  ⟨(some 14), 5, .move, [.t 13], none⟩,
  ⟨(some 15), 6, .move, [.t 1], (some (14, false))⟩,
  ⟨(some 16), 7, .move, [.t 0], (some (14, false))⟩,
  ⟨(some 17), 8, (.len false), [.t 16], (some (14, false))⟩,
  ⟨(some 18), 9, (.bin .gtr), [.t 15, .t 17], (some (14, false))⟩,
  ⟨(some 19), 10, .pick, [.t 14, .c (.bool true), .t 18], none⟩])
 (.cond (.t 19) (.seq (.region [⟨(some 4), 11, .move, [.c (.int .u64 (0))], none⟩,
  ⟨(some 5), 12, .move, [.c (.int .i64 (0))], none⟩,
  ⟨(some 6), 13, .move, [.c (.int .i64 (1))], none⟩])
 (.ret)) (.skip)))
 (.seq (.region [⟨(some 20), 14, .move, [.t 0], none⟩,
  ⟨(some 21), 15, .move, [.t 1], none⟩,
  ⟨(some 22), 16, (.sliceSl 1 true false false), [.t 20, .t 21], none⟩,
  ⟨(some 7), 17, .move, [.t 22], none⟩])
 (.seq (.seq (.region [⟨(some 23), 18, .move, [.t 7], none⟩,
  ⟨(some 24), 19, (.len false), [.t 23], none⟩,
  ⟨(some 25), 20, (.bin .eql), [.t 24, .c (.int .i64 (0))], none⟩])
 (.cond (.t 25) (.seq (.region [⟨(some 4), 21, .move, [.c (.int .u64 (0))], none⟩,
  ⟨(some 5), 22, .move, [.c (.int .i64 (0))], none⟩,
  ⟨(some 6), 23, .move, [.c (.int .i64 (2))], none⟩])
 (.ret)) (.skip)))
 (.seq (.region [⟨(some 26), 24, .move, [.t 7], none⟩,
  ⟨(some 27), 25, (.indexAddr 1 none), [.t 26, .c (.int .i64 (0))], none⟩,
  ⟨(some 28), 26, (.load false 1), [.t 27], none⟩,
  ⟨(some 29), 27, (.conv (.int .i64)), [.t 28], none⟩,
  ⟨(some 8), 28, .move, [.t 29], none⟩])
 (.seq (.block 0 (.seq (.region [⟨(some 31), 29, .move, [.t 8], none⟩,
  ⟨(some 32), 30, (.bin .gtr), [.t 31, .c (.int .i64 (8))], none⟩,
  ⟨(some 30), 31, .move, [.t 32], none⟩])
 (.cond (.t 30) (.seq (.region [⟨(some 4), 32, .move, [.c (.int .u64 (0))], none⟩,
  ⟨(some 5), 33, .move, [.c (.int .i64 (0))], none⟩,
  ⟨(some 6), 34, .move, [.c (.int .i64 (3))], none⟩])
 (.ret)) (.seq (.region [⟨(some 34), 35, .move, [.t 7], none⟩,
  ⟨(some 35), 36, (.len false), [.t 34], none⟩,
  ⟨(some 36), 37, .move, [.t 8], none⟩,
  ⟨(some 37), 38, (.bin .leq), [.t 35, .t 36], none⟩,
  ⟨(some 33), 39, .move, [.t 37], none⟩])
 (.cond (.t 33) (.seq (.region [⟨(some 4), 40, .move, [.c (.int .u64 (0))], none⟩,
  ⟨(some 5), 41, .move, [.c (.int .i64 (0))], none⟩,
  ⟨(some 6), 42, .move, [.c (.int .i64 (2))], none⟩])
 (.ret)) (.seq (.region [⟨(some 39), 43, .move, [.t 8], none⟩,
  ⟨(some 40), 44, (.bin .gtr), [.t 39, .c (.int .i64 (0))], none⟩,
  ⟨(some 41), 45, .move, [.t 40], none⟩,
  ⟨(some 42), 46, .move, [.t 7], (some (41, true))⟩,
  ⟨(some 43), 47, (.indexAddr 1 none), [.t 42, .c (.int .i64 (1))], (some (41, true))⟩,
  ⟨(some 44), 48, (.load false 1), [.t 43], (some (41, true))⟩,
  ⟨(some 45), 49, (.bin .eql), [.t 44, .c (.int .u8 (0))], (some (41, true))⟩,
  ⟨(some 46), 50, .pick, [.t 41, .t 45, .c (.bool false)], none⟩,
  ⟨(some 38), 51, .move, [.t 46], none⟩])
 (.cond (.t 38) (.seq (.region [⟨(some 4), 52, .move, [.c (.int .u64 (0))], none⟩,
  ⟨(some 5), 53, .move, [.c (.int .i64 (0))], none⟩,
  ⟨(some 6), 54, .move, [.c (.int .i64 (3))], none⟩])
 (.ret)) (.skip))))))))
 (.seq (.region [⟨(some 9), 55, .move, [.c (.int .u64 (0))], none⟩])
 (.seq (.seq (.region [⟨(some 47), 56, .move, [.t 7], none⟩,
  ⟨(some 48), 57, .move, [.t 8], none⟩,
  ⟨(some 49), 58, (.bin .add), [.t 48, .c (.int .i64 (1))], none⟩,
  ⟨(some 50), 59, (.sliceSl 1 true true false), [.t 47, .c (.int .i64 (1)), .t 49], none⟩,
  ⟨(some 51), 60, (.len false), [.t 50], none⟩,
  ⟨(some 52), 61, .move, [.c (.int .i64 (0))], none⟩])
 (.block 1 (.loopT (Int × Int × ByteArray × Int × Int) (fun x => ⟨[.dead, .int .i64 a.2, .dead, .dead, .dead, .dead, .dead, .dead, .int .i64 x.1, .int .u64 x.2.1, .dead, .dead, .dead, .dead, .dead, .dead, .dead, .dead, .dead, .dead, .dead, .dead, .dead, .dead, .dead, .dead, .dead, .dead, .dead, .dead, .dead, .dead, .dead, .dead, .dead, .dead, .dead, .dead, .dead, .dead, .dead, .dead, .dead, .dead, .dead, .dead, .dead, .dead, .dead, .dead, .slice .ro 1 x.2.2.1.size (gstr x.2.2.1), .int .i64 x.2.2.2.1, .int .i64 x.2.2.2.2, .dead, .dead, .dead, .dead, .dead, .dead, .dead, .dead, .dead, .dead, .dead, .dead, .dead, .dead], [], []⟩) 62 74 (.seq (.region [⟨(some 53), 62, (.bin .lss), [.t 52, .t 51], none⟩])
 (.seq (.cond (.t 53) (.skip) (.exit 1))
 (.seq (.block 2 (.seq (.region [⟨(some 54), 63, (.indexAddr 1 none), [.t 50, .t 52], none⟩,
  ⟨(some 55), 64, (.load false 1), [.t 54], none⟩,
  ⟨(some 11), 65, .move, [.t 55], none⟩])
 (.region [⟨(some 56), 66, .move, [.t 9], none⟩,
  ⟨(some 57), 67, (.bin .shl), [.t 56, .c (.int .u64 (8))], none⟩,
  ⟨(some 58), 68, .move, [.t 11], none⟩,
  ⟨(some 59), 69, (.conv (.int .u64)), [.t 58], none⟩,
  ⟨(some 60), 70, (.bin .or), [.t 57, .t 59], none⟩,
  ⟨(some 9), 71, .move, [.t 60], none⟩])))
 (.region [⟨(some 61), 72, (.bin .add), [.t 52, .c (.int .i64 (1))], none⟩,
  ⟨(some 52), 73, .move, [.t 61], none⟩])))))))
 (.seq (.region [⟨(some 62), 74, .move, [.t 9], none⟩,
  ⟨(some 63), 75, .move, [.t 1], none⟩,
  ⟨(some 64), 76, .move, [.t 8], none⟩,
  ⟨(some 65), 77, (.bin .add), [.t 63, .t 64], none⟩,
  ⟨(some 66), 78, (.bin .add), [.t 65, .c (.int .i64 (1))], none⟩,
  ⟨(some 4), 79, .move, [.t 62], none⟩,
  ⟨(some 5), 80, .move, [.t 66], none⟩,
  ⟨(some 6), 81, .move, [.c (.int .i64 (0))], none⟩])
 (.ret))))))))))
  [.tmp 4, .tmp 5, .tmp 6] 0 65
def f18.env : Env := []
def f18.tree (a : ByteArray × Int) : Prop := Br (decide (a.2 < (0 : Int))) (((0 : Int) = ((takeN a).1)) ∧ ((0 : Int) = ((takeN a).2.1)) ∧ ((1 : Int) = ((takeN a).2.2)) ∧ True) (Br (decide ((a.1.size : Int) < a.2)) (((0 : Int) = ((takeN a).1)) ∧ ((0 : Int) = ((takeN a).2.1)) ∧ ((1 : Int) = ((takeN a).2.2)) ∧ True) (Br (decide ((0 : Int) ≤ a.2) && decide (a.2 ≤ (a.1.size : Int)) && decide ((a.1.size : Int) ≤ (a.1.size : Int)) && ((a.1.size : Int) == (a.1.size : Int))) (Br ((Int.toNat ((a.1.size : Int) - a.2) : Int) == (0 : Int)) (((0 : Int) = ((takeN a).1)) ∧ ((0 : Int) = ((takeN a).2.1)) ∧ ((2 : Int) = ((takeN a).2.2)) ∧ True) (Br (decide ((0 : Int) ≤ (0 : Int)) && decide ((0 : Int) < (Int.toNat ((a.1.size : Int) - a.2) : Int))) (Let (IntKind.i64.wrap (bAtN a.1 (Int.toNat (0 : Int) + (Int.toNat a.2)))) (fun v12 : Int => Br (decide ((8 : Int) < v12)) (((0 : Int) = ((takeN a).1)) ∧ ((0 : Int) = ((takeN a).2.1)) ∧ ((3 : Int) = ((takeN a).2.2)) ∧ True) (Br (decide ((Int.toNat ((a.1.size : Int) - a.2) : Int) ≤ v12)) (((0 : Int) = ((takeN a).1)) ∧ ((0 : Int) = ((takeN a).2.1)) ∧ ((2 : Int) = ((takeN a).2.2)) ∧ True) (Br (decide ((0 : Int) < v12)) (Br (decide ((0 : Int) ≤ (1 : Int)) && decide ((1 : Int) < (Int.toNat ((a.1.size : Int) - a.2) : Int))) (Br ((bAtN a.1 (Int.toNat (1 : Int) + (Int.toNat a.2))) == (0 : Int)) (((0 : Int) = ((takeN a).1)) ∧ ((0 : Int) = ((takeN a).2.1)) ∧ ((3 : Int) = ((takeN a).2.2)) ∧ True) (Let (IntKind.i64.wrap (v12 + (1 : Int))) (fun v25 : Int => Br (decide ((0 : Int) ≤ (1 : Int)) && decide ((1 : Int) ≤ v25) && decide (v25 ≤ (Int.toNat ((a.1.size : Int) - a.2) : Int)) && (v25 == v25)) (∃ (I28 : (Int × Int × ByteArray × Int × Int) → Prop) (μ29 : (Int × Int × ByteArray × Int × Int) → Nat), (∃ x27 : Int × Int × ByteArray × Int × Int, (a.2 = a.2) ∧ (v12 = x27.1) ∧ ((0 : Int) = x27.2.1) ∧ ((Int.toNat (v25 - (1 : Int))) = x27.2.2.1.size) ∧ (∀ i, i < x27.2.2.1.size → DEqs ((gsub (gsub (gstr a.1) (Int.toNat a.2)) 1) i) ((gstr x27.2.2.1) i)) ∧ ((Int.toNat (v25 - (1 : Int)) : Int) = x27.2.2.2.1) ∧ ((0 : Int) = x27.2.2.2.2) ∧ I28 x27) ∧ ∀ y30 : Int × Int × ByteArray × Int × Int, I28 y30 → (Br (decide (y30.2.2.2.2 < y30.2.2.2.1)) (Br (decide ((0 : Int) ≤ y30.2.2.2.2) && decide (y30.2.2.2.2 < (y30.2.2.1.size : Int))) (Let (IntKind.u64.wrap (bAt y30.2.2.1 y30.2.2.2.2)) (fun v34 : Int => Let (IntKind.i64.wrap (y30.2.2.2.2 + (1 : Int))) (fun v35 : Int => ∃ x36 : Int × Int × ByteArray × Int × Int, (a.2 = a.2) ∧ (y30.1 = x36.1) ∧ ((IntKind.u64.wrap ((BitVec.ofInt 64 (IntKind.u64.wrap (y30.2.1 * 256)) ||| BitVec.ofInt 64 v34).toNat : Int)) = x36.2.1) ∧ (y30.2.2.1.size = x36.2.2.1.size) ∧ (∀ i, i < x36.2.2.1.size → DEqs ((gstr y30.2.2.1) i) ((gstr x36.2.2.1) i)) ∧ (y30.2.2.2.1 = x36.2.2.2.1) ∧ (v35 = x36.2.2.2.2) ∧ I28 x36 ∧ μ29 x36 < μ29 y30))) False) (Let (IntKind.i64.wrap (a.2 + y30.1)) (fun v45 : Int => Let (IntKind.i64.wrap (v45 + (1 : Int))) (fun v46 : Int => (y30.2.1 = ((takeN a).1)) ∧ (v46 = ((takeN a).2.1)) ∧ ((0 : Int) = ((takeN a).2.2)) ∧ True))))) False))) False) (Let (IntKind.i64.wrap (v12 + (1 : Int))) (fun v66 : Int => Br (decide ((0 : Int) ≤ (1 : Int)) && decide ((1 : Int) ≤ v66) && decide (v66 ≤ (Int.toNat ((a.1.size : Int) - a.2) : Int)) && (v66 == v66)) (∃ (I69 : (Int × Int × ByteArray × Int × Int) → Prop) (μ70 : (Int × Int × ByteArray × Int × Int) → Nat), (∃ x68 : Int × Int × ByteArray × Int × Int, (a.2 = a.2) ∧ (v12 = x68.1) ∧ ((0 : Int) = x68.2.1) ∧ ((Int.toNat (v66 - (1 : Int))) = x68.2.2.1.size) ∧ (∀ i, i < x68.2.2.1.size → DEqs ((gsub (gsub (gstr a.1) (Int.toNat a.2)) 1) i) ((gstr x68.2.2.1) i)) ∧ ((Int.toNat (v66 - (1 : Int)) : Int) = x68.2.2.2.1) ∧ ((0 : Int) = x68.2.2.2.2) ∧ I69 x68) ∧ ∀ y71 : Int × Int × ByteArray × Int × Int, I69 y71 → (Br (decide (y71.2.2.2.2 < y71.2.2.2.1)) (Br (decide ((0 : Int) ≤ y71.2.2.2.2) && decide (y71.2.2.2.2 < (y71.2.2.1.size : Int))) (Let (IntKind.u64.wrap (bAt y71.2.2.1 y71.2.2.2.2)) (fun v75 : Int => Let (IntKind.i64.wrap (y71.2.2.2.2 + (1 : Int))) (fun v76 : Int => ∃ x77 : Int × Int × ByteArray × Int × Int, (a.2 = a.2) ∧ (y71.1 = x77.1) ∧ ((IntKind.u64.wrap ((BitVec.ofInt 64 (IntKind.u64.wrap (y71.2.1 * 256)) ||| BitVec.ofInt 64 v75).toNat : Int)) = x77.2.1) ∧ (y71.2.2.1.size = x77.2.2.1.size) ∧ (∀ i, i < x77.2.2.1.size → DEqs ((gstr y71.2.2.1) i) ((gstr x77.2.2.1) i)) ∧ (y71.2.2.2.1 = x77.2.2.2.1) ∧ (v76 = x77.2.2.2.2) ∧ I69 x77 ∧ μ70 x77 < μ70 y71))) False) (Let (IntKind.i64.wrap (a.2 + y71.1)) (fun v86 : Int => Let (IntKind.i64.wrap (v86 + (1 : Int))) (fun v87 : Int => (y71.2.1 = ((takeN a).1)) ∧ (v87 = ((takeN a).2.1)) ∧ ((0 : Int) = ((takeN a).2.2)) ∧ True))))) False)))))) False)) False))
def f18.vc (a : ByteArray × Int) : Prop := ((a.2 < (0 : Int) → (((0 : Int), (0 : Int), (1 : Int)) = takeN a)) ∧ (¬ (a.2 < (0 : Int)) → (((a.1.size : Int) < a.2 → (((0 : Int), (0 : Int), (1 : Int)) = takeN a)) ∧ (¬ ((a.1.size : Int) < a.2) → ((0 : Int) ≤ a.2 ∧ a.2 ≤ (a.1.size : Int) ∧ (((Int.toNat ((a.1.size : Int) - a.2) : Int) = (0 : Int) → (((0 : Int), (0 : Int), (2 : Int)) = takeN a)) ∧ (¬ ((Int.toNat ((a.1.size : Int) - a.2) : Int) = (0 : Int)) → ((0 : Int) < (Int.toNat ((a.1.size : Int) - a.2) : Int) ∧ (((8 : Int) < (bAtN a.1 (Int.toNat (0 : Int) + (Int.toNat a.2))) → (((0 : Int), (0 : Int), (3 : Int)) = takeN a)) ∧ (¬ ((8 : Int) < (bAtN a.1 (Int.toNat (0 : Int) + (Int.toNat a.2)))) → (((Int.toNat ((a.1.size : Int) - a.2) : Int) ≤ (bAtN a.1 (Int.toNat (0 : Int) + (Int.toNat a.2))) → (((0 : Int), (0 : Int), (2 : Int)) = takeN a)) ∧ (¬ ((Int.toNat ((a.1.size : Int) - a.2) : Int) ≤ (bAtN a.1 (Int.toNat (0 : Int) + (Int.toNat a.2)))) → (((0 : Int) < (bAtN a.1 (Int.toNat (0 : Int) + (Int.toNat a.2))) → ((1 : Int) < (Int.toNat ((a.1.size : Int) - a.2) : Int) ∧ (((bAtN a.1 (Int.toNat (1 : Int) + (Int.toNat a.2))) = (0 : Int) → (((0 : Int), (0 : Int), (3 : Int)) = takeN a)) ∧ (¬ ((bAtN a.1 (Int.toNat (1 : Int) + (Int.toNat a.2))) = (0 : Int)) → (-9223372036854775808 ≤ ((bAtN a.1 (Int.toNat (0 : Int) + (Int.toNat a.2))) + (1 : Int)) ∧ ((bAtN a.1 (Int.toNat (0 : Int) + (Int.toNat a.2))) + (1 : Int)) ≤ 9223372036854775807 ∧ ((1 : Int) ≤ ((bAtN a.1 (Int.toNat (0 : Int) + (Int.toNat a.2))) + (1 : Int)) ∧ ((bAtN a.1 (Int.toNat (0 : Int) + (Int.toNat a.2))) + (1 : Int)) ≤ (Int.toNat ((a.1.size : Int) - a.2) : Int) ∧ (∃ (I28 : (Int × Int × ByteArray × Int × Int) → Prop) (μ29 : (Int × Int × ByteArray × Int × Int) → Nat), I28 ((bAtN a.1 (Int.toNat (0 : Int) + (Int.toNat a.2))), (0 : Int), (subB (subB a.1 a.2 (a.1.size : Int)) (1 : Int) ((bAtN a.1 (Int.toNat (0 : Int) + (Int.toNat a.2))) + (1 : Int))), (Int.toNat (((bAtN a.1 (Int.toNat (0 : Int) + (Int.toNat a.2))) + (1 : Int)) - (1 : Int)) : Int), (0 : Int)) ∧ ∀ y30 : Int × Int × ByteArray × Int × Int, I28 y30 → ((y30.2.2.2.2 < y30.2.2.2.1 → ((0 : Int) ≤ y30.2.2.2.2 ∧ y30.2.2.2.2 < (y30.2.2.1.size : Int) ∧ (-9223372036854775808 ≤ (y30.2.2.2.2 + (1 : Int)) ∧ (y30.2.2.2.2 + (1 : Int)) ≤ 9223372036854775807 ∧ (I28 (y30.1, IntKind.u64.wrap ((BitVec.ofInt 64 (IntKind.u64.wrap (y30.2.1 * 256)) ||| BitVec.ofInt 64 (bAt y30.2.2.1 y30.2.2.2.2)).toNat : Int), y30.2.2.1, y30.2.2.2.1, (y30.2.2.2.2 + (1 : Int))) ∧ μ29 (y30.1, IntKind.u64.wrap ((BitVec.ofInt 64 (IntKind.u64.wrap (y30.2.1 * 256)) ||| BitVec.ofInt 64 (bAt y30.2.2.1 y30.2.2.2.2)).toNat : Int), y30.2.2.1, y30.2.2.2.1, (y30.2.2.2.2 + (1 : Int))) < μ29 y30)))) ∧ (¬ (y30.2.2.2.2 < y30.2.2.2.1) → (-9223372036854775808 ≤ (a.2 + y30.1) ∧ (a.2 + y30.1) ≤ 9223372036854775807 ∧ (-9223372036854775808 ≤ ((a.2 + y30.1) + (1 : Int)) ∧ ((a.2 + y30.1) + (1 : Int)) ≤ 9223372036854775807 ∧ ((y30.2.1, ((a.2 + y30.1) + (1 : Int)), (0 : Int)) = takeN a)))))))))))) ∧ (¬ ((0 : Int) < (bAtN a.1 (Int.toNat (0 : Int) + (Int.toNat a.2)))) → (-9223372036854775808 ≤ ((bAtN a.1 (Int.toNat (0 : Int) + (Int.toNat a.2))) + (1 : Int)) ∧ ((bAtN a.1 (Int.toNat (0 : Int) + (Int.toNat a.2))) + (1 : Int)) ≤ 9223372036854775807 ∧ ((1 : Int) ≤ ((bAtN a.1 (Int.toNat (0 : Int) + (Int.toNat a.2))) + (1 : Int)) ∧ ((bAtN a.1 (Int.toNat (0 : Int) + (Int.toNat a.2))) + (1 : Int)) ≤ (Int.toNat ((a.1.size : Int) - a.2) : Int) ∧ (∃ (I69 : (Int × Int × ByteArray × Int × Int) → Prop) (μ70 : (Int × Int × ByteArray × Int × Int) → Nat), I69 ((bAtN a.1 (Int.toNat (0 : Int) + (Int.toNat a.2))), (0 : Int), (subB (subB a.1 a.2 (a.1.size : Int)) (1 : Int) ((bAtN a.1 (Int.toNat (0 : Int) + (Int.toNat a.2))) + (1 : Int))), (Int.toNat (((bAtN a.1 (Int.toNat (0 : Int) + (Int.toNat a.2))) + (1 : Int)) - (1 : Int)) : Int), (0 : Int)) ∧ ∀ y71 : Int × Int × ByteArray × Int × Int, I69 y71 → ((y71.2.2.2.2 < y71.2.2.2.1 → ((0 : Int) ≤ y71.2.2.2.2 ∧ y71.2.2.2.2 < (y71.2.2.1.size : Int) ∧ (-9223372036854775808 ≤ (y71.2.2.2.2 + (1 : Int)) ∧ (y71.2.2.2.2 + (1 : Int)) ≤ 9223372036854775807 ∧ (I69 (y71.1, IntKind.u64.wrap ((BitVec.ofInt 64 (IntKind.u64.wrap (y71.2.1 * 256)) ||| BitVec.ofInt 64 (bAt y71.2.2.1 y71.2.2.2.2)).toNat : Int), y71.2.2.1, y71.2.2.2.1, (y71.2.2.2.2 + (1 : Int))) ∧ μ70 (y71.1, IntKind.u64.wrap ((BitVec.ofInt 64 (IntKind.u64.wrap (y71.2.1 * 256)) ||| BitVec.ofInt 64 (bAt y71.2.2.1 y71.2.2.2.2)).toNat : Int), y71.2.2.1, y71.2.2.2.1, (y71.2.2.2.2 + (1 : Int))) < μ70 y71)))) ∧ (¬ (y71.2.2.2.2 < y71.2.2.2.1) → (-9223372036854775808 ≤ (a.2 + y71.1) ∧ (a.2 + y71.1) ≤ 9223372036854775807 ∧ (-9223372036854775808 ≤ ((a.2 + y71.1) + (1 : Int)) ∧ ((a.2 + y71.1) + (1 : Int)) ≤ 9223372036854775807 ∧ ((y71.2.1, ((a.2 + y71.1) + (1 : Int)), (0 : Int)) = takeN a))))))))))))))))))))))
set_option maxRecDepth 100000 in
set_option maxHeartbeats 2000000 in
theorem f18.of (a : ByteArray × Int) (h : f18.vc a) : f18.tree a := br h Cnd.dec (fun h1 k119 => ⟨(congrArg (fun x : Int × Int × Int => x.1) k119 :), ⟨(congrArg (fun x : Int × Int × Int => x.2.1) k119 :), ⟨(congrArg (fun x : Int × Int × Int => x.2.2) k119 :), trivial⟩⟩⟩) (fun h2 k120 => br k120 Cnd.dec (fun h4 k117 => ⟨(congrArg (fun x : Int × Int × Int => x.1) k117 :), ⟨(congrArg (fun x : Int × Int × Int => x.2.1) k117 :), ⟨(congrArg (fun x : Int × Int × Int => x.2.2) k117 :), trivial⟩⟩⟩) (fun h5 k118 => chk k118.2.2 Cnd.sl ⟨k118.1, k118.2.1, (Int.le_refl _)⟩ (fun h7 k116 => br k116 Cnd.eq (fun h8 k114 => ⟨(congrArg (fun x : Int × Int × Int => x.1) k114 :), ⟨(congrArg (fun x : Int × Int × Int => x.2.1) k114 :), ⟨(congrArg (fun x : Int × Int × Int => x.2.2) k114 :), trivial⟩⟩⟩) (fun h9 k115 => chk k115.2 Cnd.ix ⟨(by decide), k115.1⟩ (fun h11 k113 => wrapR.i64 (u8bN _ _) (br k113 Cnd.dec (fun h13 k108 => ⟨(congrArg (fun x : Int × Int × Int => x.1) k108 :), ⟨(congrArg (fun x : Int × Int × Int => x.2.1) k108 :), ⟨(congrArg (fun x : Int × Int × Int => x.2.2) k108 :), trivial⟩⟩⟩) (fun h14 k109 => br k109 Cnd.dec (fun h16 k106 => ⟨(congrArg (fun x : Int × Int × Int => x.1) k106 :), ⟨(congrArg (fun x : Int × Int × Int => x.2.1) k106 :), ⟨(congrArg (fun x : Int × Int × Int => x.2.2) k106 :), trivial⟩⟩⟩) (fun h17 k107 => br k107 Cnd.dec (fun h19 k104 => chk k104.2 Cnd.ix ⟨(by decide), k104.1⟩ (fun h21 k65 => br k65 Cnd.eq (fun h22 k63 => ⟨(congrArg (fun x : Int × Int × Int => x.1) k63 :), ⟨(congrArg (fun x : Int × Int × Int => x.2.1) k63 :), ⟨(congrArg (fun x : Int × Int × Int => x.2.2) k63 :), trivial⟩⟩⟩) (fun h23 k64 => wrapK.i64 k64 (fun h60 h61 k62 => chk k62.2.2 Cnd.sl ⟨(by decide), k62.1, k62.2.1⟩ (fun h26 k59 => Exists.elim k59 (fun I28 h56_ => Exists.elim h56_ (fun μ29 h56 => ⟨I28, μ29, ⟨((bAtN a.1 (Int.toNat (0 : Int) + (Int.toNat a.2))), (0 : Int), (subB (subB a.1 a.2 (a.1.size : Int)) (1 : Int) ((bAtN a.1 (Int.toNat (0 : Int) + (Int.toNat a.2))) + (1 : Int))), (Int.toNat (((bAtN a.1 (Int.toNat (0 : Int) + (Int.toNat a.2))) + (1 : Int)) - (1 : Int)) : Int), (0 : Int)), ⟨rfl, ⟨rfl, ⟨rfl, slK (RdB.sub (RdB.sub RdB.self h7) h26) (⟨rfl, ⟨rfl, h56.1⟩⟩)⟩⟩⟩⟩, fun y30 h58 => br (h56.2 y30 h58) Cnd.dec (fun h31 k54 => chk k54.2.2 Cnd.ix ⟨k54.1, k54.2.1⟩ (fun h33 k44 => wrapR.u64 (u8b _ _) (wrapK.i64 k44 (fun h38 h39 k40 => ⟨(y30.1, IntKind.u64.wrap ((BitVec.ofInt 64 (IntKind.u64.wrap (y30.2.1 * 256)) ||| BitVec.ofInt 64 (bAt y30.2.2.1 y30.2.2.2.2)).toNat : Int), y30.2.2.1, y30.2.2.2.1, (y30.2.2.2.2 + (1 : Int))), ⟨rfl, ⟨rfl, ⟨rfl, slK RdB.self (⟨rfl, ⟨rfl, k40⟩⟩)⟩⟩⟩⟩)))) (fun h32 k55 => wrapK.i64 k55 (fun h51 h52 k53 => wrapK.i64 k53 (fun h48 h49 k50 => ⟨(congrArg (fun x : Int × Int × Int => x.1) k50 :), ⟨(congrArg (fun x : Int × Int × Int => x.2.1) k50 :), ⟨(congrArg (fun x : Int × Int × Int => x.2.2) k50 :), trivial⟩⟩⟩)))⟩))))))) (fun h20 k105 => wrapK.i64 k105 (fun h101 h102 k103 => chk k103.2.2 Cnd.sl ⟨(by decide), k103.1, k103.2.1⟩ (fun h67 k100 => Exists.elim k100 (fun I69 h97_ => Exists.elim h97_ (fun μ70 h97 => ⟨I69, μ70, ⟨((bAtN a.1 (Int.toNat (0 : Int) + (Int.toNat a.2))), (0 : Int), (subB (subB a.1 a.2 (a.1.size : Int)) (1 : Int) ((bAtN a.1 (Int.toNat (0 : Int) + (Int.toNat a.2))) + (1 : Int))), (Int.toNat (((bAtN a.1 (Int.toNat (0 : Int) + (Int.toNat a.2))) + (1 : Int)) - (1 : Int)) : Int), (0 : Int)), ⟨rfl, ⟨rfl, ⟨rfl, slK (RdB.sub (RdB.sub RdB.self h7) h67) (⟨rfl, ⟨rfl, h97.1⟩⟩)⟩⟩⟩⟩, fun y71 h99 => br (h97.2 y71 h99) Cnd.dec (fun h72 k95 => chk k95.2.2 Cnd.ix ⟨k95.1, k95.2.1⟩ (fun h74 k85 => wrapR.u64 (u8b _ _) (wrapK.i64 k85 (fun h79 h80 k81 => ⟨(y71.1, IntKind.u64.wrap ((BitVec.ofInt 64 (IntKind.u64.wrap (y71.2.1 * 256)) ||| BitVec.ofInt 64 (bAt y71.2.2.1 y71.2.2.2.2)).toNat : Int), y71.2.2.1, y71.2.2.2.1, (y71.2.2.2.2 + (1 : Int))), ⟨rfl, ⟨rfl, ⟨rfl, slK RdB.self (⟨rfl, ⟨rfl, k81⟩⟩)⟩⟩⟩⟩)))) (fun h73 k96 => wrapK.i64 k96 (fun h92 h93 k94 => wrapK.i64 k94 (fun h89 h90 k91 => ⟨(congrArg (fun x : Int × Int × Int => x.1) k91 :), ⟨(congrArg (fun x : Int × Int × Int => x.2.1) k91 :), ⟨(congrArg (fun x : Int × Int × Int => x.2.2) k91 :), trivial⟩⟩⟩)))⟩)))))))))))))
theorem f18.eq (a : ByteArray × Int) : (f18.af a).gives f18.env (f18.args a) (f18.blks a) (f18.res a) (f18.blks' a) = f18.tree a := by kernel_rfl
end Go.Abs

-- interregnum/interregnumref01.Take
namespace Go.Abs
open Go
def f19.args (a : ByteArray × Int) : List D := [.str a.1, .int .i64 a.2]
def f19.blks (a : ByteArray × Int) : List (List D) := []
def f19.res (a : ByteArray × Int) : List D := [.int .u64 ((takeN a).1), .int .i64 ((takeN a).2.1), .int .i64 ((takeN a).2.2)]
def f19.blks' (a : ByteArray × Int) : List (List D) := []
def f19.C : Contract := FnC f19.args f19.blks (fun a => take_pre a) f19.res f19.blks'
end Go.Abs

/- interregnum/interregnumref01.Take -/
namespace Go.Abs
open Go
set_option linter.unusedVariables false
def f19.kills (a : ByteArray × Int) : List Hint := [.tell (Int × Int × Int) (fun x => ⟨[.str a.1, .int .i64 a.2, .dead, .dead, .dead, .dead, .dead, .int .i64 x.1, .int .u64 x.2.1, .int .i64 x.2.2, .dead, .dead, .dead, .dead, .dead, .dead, .dead, .dead, .dead, .dead, .dead, .dead, .dead, .dead, .dead, .dead, .dead, .dead, .dead, .dead, .dead, .dead, .dead, .dead, .dead, .dead, .dead, .dead, .dead, .dead, .dead, .dead, .dead, .dead, .dead, .dead, .dead, .dead, .dead, .dead, .dead, .dead, .dead, .dead, .dead, .dead, .dead, .dead, .dead, .dead, .dead, .dead, .dead], [], []⟩)]
def f19.cuts (a : ByteArray × Int) : List (Nat × Σ β : Type, β → Tm) := []
def f19.af (a : ByteArray × Int) : AF := AF.mk (.seq (.region [⟨(some 4), 0, .move, [.c (.int .u64 (0))], none⟩,
  ⟨(some 5), 1, .move, [.c (.int .i64 (0))], none⟩,
  ⟨(some 6), 2, .move, [.c (.int .i64 (0))], none⟩])
 (.seq (.seq (.region [⟨(some 11), 3, .move, [.t 1], none⟩,
  ⟨(some 12), 4, (.bin .lss), [.t 11, .c (.int .i64 (0))], none⟩,
  ⟨(some 13), 5, .move, [.t 12], none⟩,
  ⟨(some 14), 6, .move, [.t 1], (some (13, false))⟩,
  ⟨(some 15), 7, .move, [.t 0], (some (13, false))⟩,
  ⟨(some 16), 8, (.len true), [.t 15], (some (13, false))⟩,
  ⟨(some 17), 9, (.bin .gtr), [.t 14, .t 16], (some (13, false))⟩,
  ⟨(some 18), 10, .pick, [.t 13, .c (.bool true), .t 17], none⟩])
 (.cond (.t 18) (.seq (.region [⟨(some 4), 11, .move, [.c (.int .u64 (0))], none⟩,
  ⟨(some 5), 12, .move, [.c (.int .i64 (0))], none⟩,
  ⟨(some 6), 13, .move, [.c (.int .i64 (1))], none⟩])
 (.ret)) (.skip)))
 (.seq (.seq (.region [⟨(some 19), 14, .move, [.t 1], none⟩,
  ⟨(some 20), 15, .move, [.t 0], none⟩,
  ⟨(some 21), 16, (.len true), [.t 20], none⟩,
  ⟨(some 22), 17, (.bin .eql), [.t 19, .t 21], none⟩])
 (.cond (.t 22) (.seq (.region [⟨(some 4), 18, .move, [.c (.int .u64 (0))], none⟩,
  ⟨(some 5), 19, .move, [.c (.int .i64 (0))], none⟩,
  ⟨(some 6), 20, .move, [.c (.int .i64 (2))], none⟩])
 (.ret)) (.skip)))
 (.seq (.region [⟨(some 23), 21, .move, [.t 0], none⟩,
  ⟨(some 24), 22, .move, [.t 1], none⟩,
  ⟨(some 25), 23, .indexStr, [.t 23, .t 24], none⟩,
  ⟨(some 26), 24, (.conv (.int .i64)), [.t 25], none⟩,
  ⟨(some 7), 25, .move, [.t 26], none⟩])
 (.seq (.seq (.region [⟨(some 27), 26, .move, [.t 7], none⟩,
  ⟨(some 28), 27, (.bin .gtr), [.t 27, .c (.int .i64 (8))], none⟩])
 (.cond (.t 28) (.seq (.region [⟨(some 4), 28, .move, [.c (.int .u64 (0))], none⟩,
  ⟨(some 5), 29, .move, [.c (.int .i64 (0))], none⟩,
  ⟨(some 6), 30, .move, [.c (.int .i64 (3))], none⟩])
 (.ret)) (.skip)))
 (.seq (.seq (.region [⟨(some 29), 31, .move, [.t 0], none⟩,
  ⟨(some 30), 32, (.len true), [.t 29], none⟩,
  ⟨(some 31), 33, .move, [.t 1], none⟩,
  ⟨(some 32), 34, (.bin .sub), [.t 30, .t 31], none⟩,
  ⟨(some 33), 35, (.bin .sub), [.t 32, .c (.int .i64 (1))], none⟩,
  ⟨(some 34), 36, .move, [.t 7], none⟩,
  ⟨(some 35), 37, (.bin .lss), [.t 33, .t 34], none⟩])
 (.cond (.t 35) (.seq (.region [⟨(some 4), 38, .move, [.c (.int .u64 (0))], none⟩,
  ⟨(some 5), 39, .move, [.c (.int .i64 (0))], none⟩,
  ⟨(some 6), 40, .move, [.c (.int .i64 (2))], none⟩])
 (.ret)) (.skip)))
 (.seq (.region [⟨(some 8), 41, .move, [.c (.int .u64 (0))], none⟩])
 (.seq (.seq (.region [⟨(some 9), 42, .move, [.c (.int .i64 (0))], none⟩])
 (.block 0 (.loopT (Int × Int × Int) (fun x => ⟨[.str a.1, .int .i64 a.2, .dead, .dead, .dead, .dead, .dead, .int .i64 x.1, .int .u64 x.2.1, .int .i64 x.2.2, .dead, .dead, .dead, .dead, .dead, .dead, .dead, .dead, .dead, .dead, .dead, .dead, .dead, .dead, .dead, .dead, .dead, .dead, .dead, .dead, .dead, .dead, .dead, .dead, .dead, .dead, .dead, .dead, .dead, .dead, .dead, .dead, .dead, .dead, .dead, .dead, .dead, .dead, .dead, .dead, .dead, .dead, .dead, .dead, .dead, .dead, .dead, .dead, .dead, .dead, .dead, .dead, .dead], [], []⟩) 43 71 (.seq (.seq (.region [⟨(some 36), 43, .move, [.t 9], none⟩,
  ⟨(some 37), 44, .move, [.t 7], none⟩,
  ⟨(some 38), 45, (.bin .lss), [.t 36, .t 37], none⟩])
 (.cond (.t 38) (.skip) (.exit 0)))
 (.seq (.block 1 (.seq (.region [⟨(some 41), 46, .move, [.t 0], none⟩,
  ⟨(some 42), 47, .move, [.t 1], none⟩,
  ⟨(some 43), 48, (.bin .add), [.t 42, .c (.int .i64 (1))], none⟩,
  ⟨(some 44), 49, .move, [.t 9], none⟩,
  ⟨(some 45), 50, (.bin .add), [.t 43, .t 44], none⟩,
  ⟨(some 46), 51, .indexStr, [.t 41, .t 45], none⟩,
  ⟨(some 10), 52, .move, [.t 46], none⟩])
 (.seq (.seq (.region [⟨(some 47), 53, .move, [.t 9], none⟩,
  ⟨(some 48), 54, (.bin .eql), [.t 47, .c (.int .i64 (0))], none⟩,
  ⟨(some 49), 55, .move, [.t 48], none⟩,
  ⟨(some 50), 56, .move, [.t 10], (some (49, true))⟩,
  ⟨(some 51), 57, (.bin .eql), [.t 50, .c (.int .u8 (0))], (some (49, true))⟩,
  ⟨(some 52), 58, .pick, [.t 49, .t 51, .c (.bool false)], none⟩])
 (.cond (.t 52) (.seq (.region [⟨(some 4), 59, .move, [.c (.int .u64 (0))], none⟩,
  ⟨(some 5), 60, .move, [.c (.int .i64 (0))], none⟩,
  ⟨(some 6), 61, .move, [.c (.int .i64 (3))], none⟩])
 (.ret)) (.skip)))
 (.region [⟨(some 53), 62, .move, [.t 8], none⟩,
  ⟨(some 54), 63, (.bin .mul), [.t 53, .c (.int .u64 (256))], none⟩,
  ⟨(some 55), 64, .move, [.t 10], none⟩,
  ⟨(some 56), 65, (.conv (.int .u64)), [.t 55], none⟩,
  ⟨(some 57), 66, (.bin .add), [.t 54, .t 56], none⟩,
  ⟨(some 8), 67, .move, [.t 57], none⟩]))))
 (.region [⟨(some 39), 68, .move, [.t 9], none⟩,
  ⟨(some 40), 69, (.bin .add), [.t 39, .c (.int .i64 (1))], none⟩,
  ⟨(some 9), 70, .move, [.t 40], none⟩]))))))
 (.seq (.region [⟨(some 58), 71, .move, [.t 8], none⟩,
  ⟨(some 59), 72, .move, [.t 1], none⟩,
  ⟨(some 60), 73, (.bin .add), [.t 59, .c (.int .i64 (1))], none⟩,
  ⟨(some 61), 74, .move, [.t 7], none⟩,
  ⟨(some 62), 75, (.bin .add), [.t 60, .t 61], none⟩,
  ⟨(some 4), 76, .move, [.t 58], none⟩,
  ⟨(some 5), 77, .move, [.t 62], none⟩,
  ⟨(some 6), 78, .move, [.c (.int .i64 (0))], none⟩])
 (.ret))))))))))
  [.tmp 4, .tmp 5, .tmp 6] 0 61
def f19.env : Env := []
def f19.tree (a : ByteArray × Int) : Prop := Br (decide (a.2 < (0 : Int))) (((0 : Int) = ((takeN a).1)) ∧ ((0 : Int) = ((takeN a).2.1)) ∧ ((1 : Int) = ((takeN a).2.2)) ∧ True) (Br (decide ((a.1.size : Int) < a.2)) (((0 : Int) = ((takeN a).1)) ∧ ((0 : Int) = ((takeN a).2.1)) ∧ ((1 : Int) = ((takeN a).2.2)) ∧ True) (Br (a.2 == (a.1.size : Int)) (((0 : Int) = ((takeN a).1)) ∧ ((0 : Int) = ((takeN a).2.1)) ∧ ((2 : Int) = ((takeN a).2.2)) ∧ True) (Br (decide ((0 : Int) ≤ a.2) && decide (a.2 < (a.1.size : Int))) (Let (IntKind.i64.wrap (bAt a.1 a.2)) (fun v11 : Int => Br (decide ((8 : Int) < v11)) (((0 : Int) = ((takeN a).1)) ∧ ((0 : Int) = ((takeN a).2.1)) ∧ ((3 : Int) = ((takeN a).2.2)) ∧ True) (Let (IntKind.i64.wrap ((a.1.size : Int) - a.2)) (fun v15 : Int => Let (IntKind.i64.wrap (v15 - (1 : Int))) (fun v16 : Int => Br (decide (v16 < v11)) (((0 : Int) = ((takeN a).1)) ∧ ((0 : Int) = ((takeN a).2.1)) ∧ ((2 : Int) = ((takeN a).2.2)) ∧ True) (∃ (I21 : (Int × Int × Int) → Prop) (μ22 : (Int × Int × Int) → Nat), (∃ x20 : Int × Int × Int, (a.1 = a.1) ∧ (a.2 = a.2) ∧ (v11 = x20.1) ∧ ((0 : Int) = x20.2.1) ∧ ((0 : Int) = x20.2.2) ∧ I21 x20) ∧ ∀ y23 : Int × Int × Int, I21 y23 → (Br (decide (y23.2.2 < y23.1)) (Let (IntKind.i64.wrap (a.2 + (1 : Int))) (fun v26 : Int => Let (IntKind.i64.wrap (v26 + y23.2.2)) (fun v27 : Int => Br (decide ((0 : Int) ≤ v27) && decide (v27 < (a.1.size : Int))) (Br (y23.2.2 == (0 : Int)) (Br ((bAt a.1 v27) == (0 : Int)) (((0 : Int) = ((takeN a).1)) ∧ ((0 : Int) = ((takeN a).2.1)) ∧ ((3 : Int) = ((takeN a).2.2)) ∧ True) (Let (IntKind.u64.wrap (y23.2.1 * (256 : Int))) (fun v34 : Int => Let (IntKind.u64.wrap (bAt a.1 v27)) (fun v35 : Int => Let (IntKind.u64.wrap (v34 + v35)) (fun v36 : Int => Let (IntKind.i64.wrap (y23.2.2 + (1 : Int))) (fun v37 : Int => ∃ x38 : Int × Int × Int, (a.1 = a.1) ∧ (a.2 = a.2) ∧ (y23.1 = x38.1) ∧ (v36 = x38.2.1) ∧ (v37 = x38.2.2) ∧ I21 x38 ∧ μ22 x38 < μ22 y23)))))) (Let (IntKind.u64.wrap (y23.2.1 * (256 : Int))) (fun v54 : Int => Let (IntKind.u64.wrap (bAt a.1 v27)) (fun v55 : Int => Let (IntKind.u64.wrap (v54 + v55)) (fun v56 : Int => Let (IntKind.i64.wrap (y23.2.2 + (1 : Int))) (fun v57 : Int => ∃ x58 : Int × Int × Int, (a.1 = a.1) ∧ (a.2 = a.2) ∧ (y23.1 = x58.1) ∧ (v56 = x58.2.1) ∧ (v57 = x58.2.2) ∧ I21 x58 ∧ μ22 x58 < μ22 y23)))))) False))) (Let (IntKind.i64.wrap (a.2 + (1 : Int))) (fun v81 : Int => Let (IntKind.i64.wrap (v81 + y23.1)) (fun v82 : Int => (y23.2.1 = ((takeN a).1)) ∧ (v82 = ((takeN a).2.1)) ∧ ((0 : Int) = ((takeN a).2.2)) ∧ True)))))))))) False)))
def f19.vc (a : ByteArray × Int) : Prop := ((a.2 < (0 : Int) → (((0 : Int), (0 : Int), (1 : Int)) = takeN a)) ∧ (¬ (a.2 < (0 : Int)) → (((a.1.size : Int) < a.2 → (((0 : Int), (0 : Int), (1 : Int)) = takeN a)) ∧ (¬ ((a.1.size : Int) < a.2) → ((a.2 = (a.1.size : Int) → (((0 : Int), (0 : Int), (2 : Int)) = takeN a)) ∧ (¬ (a.2 = (a.1.size : Int)) → ((0 : Int) ≤ a.2 ∧ a.2 < (a.1.size : Int) ∧ (((8 : Int) < (bAt a.1 a.2) → (((0 : Int), (0 : Int), (3 : Int)) = takeN a)) ∧ (¬ ((8 : Int) < (bAt a.1 a.2)) → (-9223372036854775808 ≤ ((a.1.size : Int) - a.2) ∧ ((a.1.size : Int) - a.2) ≤ 9223372036854775807 ∧ (-9223372036854775808 ≤ (((a.1.size : Int) - a.2) - (1 : Int)) ∧ (((a.1.size : Int) - a.2) - (1 : Int)) ≤ 9223372036854775807 ∧ (((((a.1.size : Int) - a.2) - (1 : Int)) < (bAt a.1 a.2) → (((0 : Int), (0 : Int), (2 : Int)) = takeN a)) ∧ (¬ ((((a.1.size : Int) - a.2) - (1 : Int)) < (bAt a.1 a.2)) → (∃ (I21 : (Int × Int × Int) → Prop) (μ22 : (Int × Int × Int) → Nat), I21 ((bAt a.1 a.2), (0 : Int), (0 : Int)) ∧ ∀ y23 : Int × Int × Int, I21 y23 → ((y23.2.2 < y23.1 → (-9223372036854775808 ≤ (a.2 + (1 : Int)) ∧ (a.2 + (1 : Int)) ≤ 9223372036854775807 ∧ (-9223372036854775808 ≤ ((a.2 + (1 : Int)) + y23.2.2) ∧ ((a.2 + (1 : Int)) + y23.2.2) ≤ 9223372036854775807 ∧ ((0 : Int) ≤ ((a.2 + (1 : Int)) + y23.2.2) ∧ ((a.2 + (1 : Int)) + y23.2.2) < (a.1.size : Int) ∧ ((y23.2.2 = (0 : Int) → (((bAt a.1 ((a.2 + (1 : Int)) + y23.2.2)) = (0 : Int) → (((0 : Int), (0 : Int), (3 : Int)) = takeN a)) ∧ (¬ ((bAt a.1 ((a.2 + (1 : Int)) + y23.2.2)) = (0 : Int)) → (0 ≤ (y23.2.1 * (256 : Int)) ∧ (y23.2.1 * (256 : Int)) ≤ 18446744073709551615 ∧ (0 ≤ ((y23.2.1 * (256 : Int)) + (bAt a.1 ((a.2 + (1 : Int)) + y23.2.2))) ∧ ((y23.2.1 * (256 : Int)) + (bAt a.1 ((a.2 + (1 : Int)) + y23.2.2))) ≤ 18446744073709551615 ∧ (-9223372036854775808 ≤ (y23.2.2 + (1 : Int)) ∧ (y23.2.2 + (1 : Int)) ≤ 9223372036854775807 ∧ (I21 (y23.1, ((y23.2.1 * (256 : Int)) + (bAt a.1 ((a.2 + (1 : Int)) + y23.2.2))), (y23.2.2 + (1 : Int))) ∧ μ22 (y23.1, ((y23.2.1 * (256 : Int)) + (bAt a.1 ((a.2 + (1 : Int)) + y23.2.2))), (y23.2.2 + (1 : Int))) < μ22 y23))))))) ∧ (¬ (y23.2.2 = (0 : Int)) → (0 ≤ (y23.2.1 * (256 : Int)) ∧ (y23.2.1 * (256 : Int)) ≤ 18446744073709551615 ∧ (0 ≤ ((y23.2.1 * (256 : Int)) + (bAt a.1 ((a.2 + (1 : Int)) + y23.2.2))) ∧ ((y23.2.1 * (256 : Int)) + (bAt a.1 ((a.2 + (1 : Int)) + y23.2.2))) ≤ 18446744073709551615 ∧ (-9223372036854775808 ≤ (y23.2.2 + (1 : Int)) ∧ (y23.2.2 + (1 : Int)) ≤ 9223372036854775807 ∧ (I21 (y23.1, ((y23.2.1 * (256 : Int)) + (bAt a.1 ((a.2 + (1 : Int)) + y23.2.2))), (y23.2.2 + (1 : Int))) ∧ μ22 (y23.1, ((y23.2.1 * (256 : Int)) + (bAt a.1 ((a.2 + (1 : Int)) + y23.2.2))), (y23.2.2 + (1 : Int))) < μ22 y23)))))))))) ∧ (¬ (y23.2.2 < y23.1) → (-9223372036854775808 ≤ (a.2 + (1 : Int)) ∧ (a.2 + (1 : Int)) ≤ 9223372036854775807 ∧ (-9223372036854775808 ≤ ((a.2 + (1 : Int)) + y23.1) ∧ ((a.2 + (1 : Int)) + y23.1) ≤ 9223372036854775807 ∧ ((y23.2.1, ((a.2 + (1 : Int)) + y23.1), (0 : Int)) = takeN a)))))))))))))))))))
set_option maxRecDepth 100000 in
set_option maxHeartbeats 2000000 in
theorem f19.of (a : ByteArray × Int) (h : f19.vc a) : f19.tree a := br h Cnd.dec (fun h1 k113 => ⟨(congrArg (fun x : Int × Int × Int => x.1) k113 :), ⟨(congrArg (fun x : Int × Int × Int => x.2.1) k113 :), ⟨(congrArg (fun x : Int × Int × Int => x.2.2) k113 :), trivial⟩⟩⟩) (fun h2 k114 => br k114 Cnd.dec (fun h4 k111 => ⟨(congrArg (fun x : Int × Int × Int => x.1) k111 :), ⟨(congrArg (fun x : Int × Int × Int => x.2.1) k111 :), ⟨(congrArg (fun x : Int × Int × Int => x.2.2) k111 :), trivial⟩⟩⟩) (fun h5 k112 => br k112 Cnd.eq (fun h7 k109 => ⟨(congrArg (fun x : Int × Int × Int => x.1) k109 :), ⟨(congrArg (fun x : Int × Int × Int => x.2.1) k109 :), ⟨(congrArg (fun x : Int × Int × Int => x.2.2) k109 :), trivial⟩⟩⟩) (fun h8 k110 => chk k110.2.2 Cnd.ix ⟨k110.1, k110.2.1⟩ (fun h10 k108 => wrapR.i64 (u8b _ _) (br k108 Cnd.dec (fun h12 k103 => ⟨(congrArg (fun x : Int × Int × Int => x.1) k103 :), ⟨(congrArg (fun x : Int × Int × Int => x.2.1) k103 :), ⟨(congrArg (fun x : Int × Int × Int => x.2.2) k103 :), trivial⟩⟩⟩) (fun h13 k104 => wrapK.i64 k104 (fun h100 h101 k102 => wrapK.i64 k102 (fun h97 h98 k99 => br k99 Cnd.dec (fun h17 k95 => ⟨(congrArg (fun x : Int × Int × Int => x.1) k95 :), ⟨(congrArg (fun x : Int × Int × Int => x.2.1) k95 :), ⟨(congrArg (fun x : Int × Int × Int => x.2.2) k95 :), trivial⟩⟩⟩) (fun h18 k96 => Exists.elim k96 (fun I21 h92_ => Exists.elim h92_ (fun μ22 h92 => ⟨I21, μ22, ⟨((bAt a.1 a.2), (0 : Int), (0 : Int)), ⟨rfl, ⟨rfl, ⟨rfl, ⟨rfl, ⟨rfl, h92.1⟩⟩⟩⟩⟩⟩, fun y23 h94 => br (h92.2 y23 h94) Cnd.dec (fun h24 k90 => wrapK.i64 k90 (fun h78 h79 k80 => wrapK.i64 k80 (fun h75 h76 k77 => chk k77.2.2 Cnd.ix ⟨k77.1, k77.2.1⟩ (fun h28 k74 => br k74 Cnd.eq (fun h29 k72 => br k72 Cnd.eq (fun h31 k52 => ⟨(congrArg (fun x : Int × Int × Int => x.1) k52 :), ⟨(congrArg (fun x : Int × Int × Int => x.2.1) k52 :), ⟨(congrArg (fun x : Int × Int × Int => x.2.2) k52 :), trivial⟩⟩⟩) (fun h32 k53 => wrapK.u64 k53 (fun h49 h50 k51 => wrapR.u64 (u8b _ _) (wrapK.u64 k51 (fun h43 h44 k45 => wrapK.i64 k45 (fun h40 h41 k42 => ⟨(y23.1, ((y23.2.1 * (256 : Int)) + (bAt a.1 ((a.2 + (1 : Int)) + y23.2.2))), (y23.2.2 + (1 : Int))), ⟨rfl, ⟨rfl, ⟨rfl, ⟨rfl, ⟨rfl, k42⟩⟩⟩⟩⟩⟩)))))) (fun h30 k73 => wrapK.u64 k73 (fun h69 h70 k71 => wrapR.u64 (u8b _ _) (wrapK.u64 k71 (fun h63 h64 k65 => wrapK.i64 k65 (fun h60 h61 k62 => ⟨(y23.1, ((y23.2.1 * (256 : Int)) + (bAt a.1 ((a.2 + (1 : Int)) + y23.2.2))), (y23.2.2 + (1 : Int))), ⟨rfl, ⟨rfl, ⟨rfl, ⟨rfl, ⟨rfl, k62⟩⟩⟩⟩⟩⟩))))))))) (fun h25 k91 => wrapK.i64 k91 (fun h87 h88 k89 => wrapK.i64 k89 (fun h84 h85 k86 => ⟨(congrArg (fun x : Int × Int × Int => x.1) k86 :), ⟨(congrArg (fun x : Int × Int × Int => x.2.1) k86 :), ⟨(congrArg (fun x : Int × Int × Int => x.2.2) k86 :), trivial⟩⟩⟩)))⟩)))))))))))
theorem f19.eq (a : ByteArray × Int) : (f19.af a).gives f19.env (f19.args a) (f19.blks a) (f19.res a) (f19.blks' a) = f19.tree a := by kernel_rfl
end Go.Abs

-- interregnum/pack.TakeText
namespace Go.Abs
open Go
def f20.args (a : ByteArray × Int × Int) : List D := [.slice .ro 1 a.1.size (gstr a.1), .int .i64 a.2.1, .int .i64 a.2.2]
def f20.blks (a : ByteArray × Int × Int) : List (List D) := []
def f20.res (a : ByteArray × Int × Int) : List D := [.str ((takeText a).1), .int .i64 ((takeText a).2.1), .int .i64 ((takeText a).2.2)]
def f20.blks' (a : ByteArray × Int × Int) : List (List D) := []
def f20.C : Contract := FnC f20.args f20.blks (fun a => takeText_pre a) f20.res f20.blks'
end Go.Abs

/- interregnum/pack.TakeText -/
namespace Go.Abs
open Go
set_option linter.unusedVariables false
def f20.kills (a : ByteArray × Int × Int) : List Hint := []
def f20.cuts (a : ByteArray × Int × Int) : List (Nat × Σ β : Type, β → Tm) := []
def f20.af (a : ByteArray × Int × Int) : AF := AF.mk (.seq (.region [⟨(some 6), 0, .move, [.c (.str ByteArray.empty)], none⟩,
  ⟨(some 7), 1, .move, [.c (.int .i64 (0))], none⟩,
  ⟨(some 8), 2, .move, [.c (.int .i64 (0))], none⟩])
 (.seq (.seq (.region [⟨(some 12), 3, .move, [.t 2], none⟩,
  ⟨(some 13), 4, (.bin .lss), [.t 12, .c (.int .i64 (0))], none⟩])
 (.cond (.t 13) (.seq (.region [⟨(some 6), 5, .move, [.c (.str ByteArray.empty)], none⟩,
  ⟨(some 7), 6, .move, [.c (.int .i64 (0))], none⟩,
  ⟨(some 8), 7, .move, [.c (.int .i64 (1))], none⟩])
 (.ret)) (.skip)))
 (.seq (.region [⟨(some 15), 8, .move, [.t 0], none⟩,
  ⟨(some 16), 9, .move, [.t 1], none⟩,
  ⟨(some 17), 10, (.call false 18), [.t 15, .t 16], none⟩,
  ⟨(some 14), 14, .move, [.t 17], none⟩,
  ⟨(some 18), 15, (.extract 0), [.t 14], none⟩,
  ⟨(some 19), 16, (.extract 1), [.t 14], none⟩,
  ⟨(some 20), 17, (.extract 2), [.t 14], none⟩,
  ⟨(some 9), 18, .move, [.t 18], none⟩,
  ⟨(some 10), 19, .move, [.t 19], none⟩,
  ⟨(some 11), 20, .move, [.t 20], none⟩])
 (.seq (.block 0 (.seq (.region [⟨(some 22), 21, .move, [.t 11], none⟩,
  ⟨(some 23), 22, (.bin .neq), [.t 22, .c (.int .i64 (0))], none⟩,
  ⟨(some 21), 23, .move, [.t 23], none⟩])
 (.cond (.t 21) (.seq (.region [⟨(some 24), 24, .move, [.t 11], none⟩,
  ⟨(some 6), 25, .move, [.c (.str ByteArray.empty)], none⟩,
  ⟨(some 7), 26, .move, [.c (.int .i64 (0))], none⟩,
  ⟨(some 8), 27, .move, [.t 24], none⟩])
 (.ret)) (.seq (.region [⟨(some 26), 28, .move, [.t 9], none⟩,
  ⟨(some 27), 29, .move, [.t 2], none⟩,
  ⟨(some 28), 30, (.conv (.int .u64)), [.t 27], none⟩,
  ⟨(some 29), 31, (.bin .gtr), [.t 26, .t 28], none⟩,
  ⟨(some 25), 32, .move, [.t 29], none⟩])
 (.cond (.t 25) (.seq (.region [⟨(some 6), 33, .move, [.c (.str ByteArray.empty)], none⟩,
  ⟨(some 7), 34, .move, [.c (.int .i64 (0))], none⟩,
  ⟨(some 8), 35, .move, [.c (.int .i64 (4))], none⟩])
 (.ret)) (.seq (.region [⟨(some 31), 36, .move, [.t 9], none⟩,
  ⟨(some 32), 37, .move, [.t 0], none⟩,
  ⟨(some 33), 38, (.len false), [.t 32], none⟩,
  ⟨(some 34), 39, .move, [.t 10], none⟩,
  ⟨(some 35), 40, (.bin .sub), [.t 33, .t 34], none⟩,
  ⟨(some 36), 41, (.conv (.int .u64)), [.t 35], none⟩,
  ⟨(some 37), 42, (.bin .gtr), [.t 31, .t 36], none⟩,
  ⟨(some 30), 43, .move, [.t 37], none⟩])
 (.cond (.t 30) (.seq (.region [⟨(some 6), 44, .move, [.c (.str ByteArray.empty)], none⟩,
  ⟨(some 7), 45, .move, [.c (.int .i64 (0))], none⟩,
  ⟨(some 8), 46, .move, [.c (.int .i64 (2))], none⟩])
 (.ret)) (.skip))))))))
 (.seq (.region [⟨(some 38), 47, .move, [.t 0], none⟩,
  ⟨(some 39), 48, .move, [.t 10], none⟩,
  ⟨(some 40), 49, .move, [.t 10], none⟩,
  ⟨(some 41), 50, .move, [.t 9], none⟩,
  ⟨(some 42), 51, (.conv (.int .i64)), [.t 41], none⟩,
  ⟨(some 43), 52, (.bin .add), [.t 40, .t 42], none⟩,
  ⟨(some 44), 53, (.sliceSl 1 true true false), [.t 38, .t 39, .t 43], none⟩,
  ⟨(some 45), 54, (.conv .b2s), [.t 44], none⟩,
  ⟨(some 46), 55, .move, [.t 10], none⟩,
  ⟨(some 47), 56, .move, [.t 9], none⟩,
  ⟨(some 48), 57, (.conv (.int .i64)), [.t 47], none⟩,
  ⟨(some 49), 58, (.bin .add), [.t 46, .t 48], none⟩,
  ⟨(some 6), 59, .move, [.t 45], none⟩,
  ⟨(some 7), 60, .move, [.t 49], none⟩,
  ⟨(some 8), 61, .move, [.c (.int .i64 (0))], none⟩])
 (.ret))))))
  [.tmp 6, .tmp 7, .tmp 8] 0 47
def f20.env : Env := [(18, f18.C)]
def f20.tree (a : ByteArray × Int × Int) : Prop := Br (decide (a.2.2 < (0 : Int))) ((ByteArray.empty = ((takeText a).1)) ∧ ((0 : Int) = ((takeText a).2.1)) ∧ ((1 : Int) = ((takeText a).2.2)) ∧ True) (∃ c4 : ByteArray × Int, (a.1.size = c4.1.size) ∧ (∀ i, i < c4.1.size → DEqs ((gstr a.1) i) ((gstr c4.1) i)) ∧ (a.2.1 = c4.2) ∧ (take_pre c4) ∧ Br (((takeN c4).2.2) != (0 : Int)) ((ByteArray.empty = ((takeText a).1)) ∧ ((0 : Int) = ((takeText a).2.1)) ∧ (((takeN c4).2.2) = ((takeText a).2.2)) ∧ True) (Let (IntKind.u64.wrap a.2.2) (fun v8 : Int => Br (decide (v8 < ((takeN c4).1))) ((ByteArray.empty = ((takeText a).1)) ∧ ((0 : Int) = ((takeText a).2.1)) ∧ ((4 : Int) = ((takeText a).2.2)) ∧ True) (Let (IntKind.i64.wrap ((a.1.size : Int) - ((takeN c4).2.1))) (fun v12 : Int => Let (IntKind.u64.wrap v12) (fun v13 : Int => Br (decide (v13 < ((takeN c4).1))) ((ByteArray.empty = ((takeText a).1)) ∧ ((0 : Int) = ((takeText a).2.1)) ∧ ((2 : Int) = ((takeText a).2.2)) ∧ True) (Let (IntKind.i64.wrap ((takeN c4).1)) (fun v17 : Int => Let (IntKind.i64.wrap (((takeN c4).2.1) + v17)) (fun v18 : Int => Br (decide ((0 : Int) ≤ ((takeN c4).2.1)) && decide (((takeN c4).2.1) ≤ v18) && decide (v18 ≤ (a.1.size : Int)) && (v18 == v18)) (Bytes (Int.toNat (v18 - ((takeN c4).2.1))) (gsub (gstr a.1) (Int.toNat ((takeN c4).2.1))) ∧ Let (textOf (Int.toNat (v18 - ((takeN c4).2.1))) (gsub (gstr a.1) (Int.toNat ((takeN c4).2.1)))) (fun v20 : ByteArray => Let (IntKind.i64.wrap ((takeN c4).1)) (fun v21 : Int => Let (IntKind.i64.wrap (((takeN c4).2.1) + v21)) (fun v22 : Int => (v20 = ((takeText a).1)) ∧ (v22 = ((takeText a).2.1)) ∧ ((0 : Int) = ((takeText a).2.2)) ∧ True)))) False)))))))))
def f20.vc (a : ByteArray × Int × Int) : Prop := ((a.2.2 < (0 : Int) → ((ByteArray.empty, (0 : Int), (1 : Int)) = takeText a)) ∧ (¬ (a.2.2 < (0 : Int)) → (take_pre (a.1, a.2.1) ∧ ((¬ ((takeN (a.1, a.2.1)).2.2) = (0 : Int) → ((ByteArray.empty, (0 : Int), (takeN (a.1, a.2.1)).2.2) = takeText a)) ∧ (¬ (¬ ((takeN (a.1, a.2.1)).2.2) = (0 : Int)) → (0 ≤ a.2.2 ∧ a.2.2 ≤ 18446744073709551615 ∧ (((a.2.2) < ((takeN (a.1, a.2.1)).1) → ((ByteArray.empty, (0 : Int), (4 : Int)) = takeText a)) ∧ (¬ ((a.2.2) < ((takeN (a.1, a.2.1)).1)) → (-9223372036854775808 ≤ ((a.1.size : Int) - ((takeN (a.1, a.2.1)).2.1)) ∧ ((a.1.size : Int) - ((takeN (a.1, a.2.1)).2.1)) ≤ 9223372036854775807 ∧ (0 ≤ ((a.1.size : Int) - ((takeN (a.1, a.2.1)).2.1)) ∧ ((a.1.size : Int) - ((takeN (a.1, a.2.1)).2.1)) ≤ 18446744073709551615 ∧ ((((a.1.size : Int) - ((takeN (a.1, a.2.1)).2.1)) < ((takeN (a.1, a.2.1)).1) → ((ByteArray.empty, (0 : Int), (2 : Int)) = takeText a)) ∧ (¬ (((a.1.size : Int) - ((takeN (a.1, a.2.1)).2.1)) < ((takeN (a.1, a.2.1)).1)) → (-9223372036854775808 ≤ ((takeN (a.1, a.2.1)).1) ∧ ((takeN (a.1, a.2.1)).1) ≤ 9223372036854775807 ∧ (-9223372036854775808 ≤ (((takeN (a.1, a.2.1)).2.1) + ((takeN (a.1, a.2.1)).1)) ∧ (((takeN (a.1, a.2.1)).2.1) + ((takeN (a.1, a.2.1)).1)) ≤ 9223372036854775807 ∧ ((0 : Int) ≤ ((takeN (a.1, a.2.1)).2.1) ∧ ((takeN (a.1, a.2.1)).2.1) ≤ (((takeN (a.1, a.2.1)).2.1) + ((takeN (a.1, a.2.1)).1)) ∧ (((takeN (a.1, a.2.1)).2.1) + ((takeN (a.1, a.2.1)).1)) ≤ (a.1.size : Int) ∧ (-9223372036854775808 ≤ ((takeN (a.1, a.2.1)).1) ∧ ((takeN (a.1, a.2.1)).1) ≤ 9223372036854775807 ∧ (-9223372036854775808 ≤ (((takeN (a.1, a.2.1)).2.1) + ((takeN (a.1, a.2.1)).1)) ∧ (((takeN (a.1, a.2.1)).2.1) + ((takeN (a.1, a.2.1)).1)) ≤ 9223372036854775807 ∧ (((subB a.1 ((takeN (a.1, a.2.1)).2.1) (((takeN (a.1, a.2.1)).2.1) + ((takeN (a.1, a.2.1)).1))), (((takeN (a.1, a.2.1)).2.1) + ((takeN (a.1, a.2.1)).1)), (0 : Int)) = takeText a))))))))))))))))))
set_option maxRecDepth 100000 in
set_option maxHeartbeats 2000000 in
theorem f20.of (a : ByteArray × Int × Int) (h : f20.vc a) : f20.tree a := br h Cnd.dec (fun h1 k53 => ⟨(congrArg (fun x : ByteArray × Int × Int => x.1) k53 :), ⟨(congrArg (fun x : ByteArray × Int × Int => x.2.1) k53 :), ⟨(congrArg (fun x : ByteArray × Int × Int => x.2.2) k53 :), trivial⟩⟩⟩) (fun h2 k54 => ⟨(a.1, a.2.1), slK RdB.self (⟨rfl, ⟨k54.1, br k54.2 Cnd.ne (fun h5 k50 => ⟨(congrArg (fun x : ByteArray × Int × Int => x.1) k50 :), ⟨(congrArg (fun x : ByteArray × Int × Int => x.2.1) k50 :), ⟨(congrArg (fun x : ByteArray × Int × Int => x.2.2) k50 :), trivial⟩⟩⟩) (fun h6 k51 => wrapK.u64 k51 (fun h47 h48 k49 => br k49 Cnd.dec (fun h9 k45 => ⟨(congrArg (fun x : ByteArray × Int × Int => x.1) k45 :), ⟨(congrArg (fun x : ByteArray × Int × Int => x.2.1) k45 :), ⟨(congrArg (fun x : ByteArray × Int × Int => x.2.2) k45 :), trivial⟩⟩⟩) (fun h10 k46 => wrapK.i64 k46 (fun h42 h43 k44 => wrapK.u64 k44 (fun h39 h40 k41 => br k41 Cnd.dec (fun h14 k37 => ⟨(congrArg (fun x : ByteArray × Int × Int => x.1) k37 :), ⟨(congrArg (fun x : ByteArray × Int × Int => x.2.1) k37 :), ⟨(congrArg (fun x : ByteArray × Int × Int => x.2.2) k37 :), trivial⟩⟩⟩) (fun h15 k38 => wrapK.i64 k38 (fun h34 h35 k36 => wrapK.i64 k36 (fun h31 h32 k33 => chk k33.2.2.2 Cnd.sl ⟨k33.1, k33.2.1, k33.2.2.1⟩ (fun h19 k30 => b2s k30 (RdB.sub RdB.self h19) (fun h => wrapK.i64 h (fun h27 h28 k29 => wrapK.i64 k29 (fun h24 h25 k26 => ⟨(congrArg (fun x : ByteArray × Int × Int => x.1) k26 :), ⟨(congrArg (fun x : ByteArray × Int × Int => x.2.1) k26 :), ⟨(congrArg (fun x : ByteArray × Int × Int => x.2.2) k26 :), trivial⟩⟩⟩))))))))))))⟩⟩)⟩)
theorem f20.eq (a : ByteArray × Int × Int) : (f20.af a).gives f20.env (f20.args a) (f20.blks a) (f20.res a) (f20.blks' a) = f20.tree a := by kernel_rfl
end Go.Abs

-- interregnum/interregnumref01.TakeText
namespace Go.Abs
open Go
def f21.args (a : ByteArray × Int × Int) : List D := [.str a.1, .int .i64 a.2.1, .int .i64 a.2.2]
def f21.blks (a : ByteArray × Int × Int) : List (List D) := []
def f21.res (a : ByteArray × Int × Int) : List D := [.str ((takeText a).1), .int .i64 ((takeText a).2.1), .int .i64 ((takeText a).2.2)]
def f21.blks' (a : ByteArray × Int × Int) : List (List D) := []
def f21.C : Contract := FnC f21.args f21.blks (fun a => takeText_pre a) f21.res f21.blks'
end Go.Abs
