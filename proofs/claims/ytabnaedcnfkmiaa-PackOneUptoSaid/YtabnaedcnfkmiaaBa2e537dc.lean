/- Functions, and what the code asks of them. -/
import Derived.KernelRfl
import Derived.Test.YtabnaedcnfkmiaaA2
set_option linter.unusedVariables false
set_option linter.unusedSimpArgs false
/- What is asked, in plain words: the lemmas by which a printed text goes from the one to the other. -/
namespace Go.Abs
open Go

/-- What a law answers. -/
def lawTrue {α : Type} (_ : α) : Bool := true

def Let {α : Type} (v : α) (T : α → Prop) : Prop := T v

/-- A bool and what it says. -/
structure Cnd (b : Bool) (p : Prop) : Prop where
  iff : b = true ↔ p

theorem toList_data (a : ByteArray) : a.toList = a.data.toList := by
  have key : ∀ (n i : Nat) (r : List UInt8), a.size - i = n → ByteArray.toList.loop a i r = r.reverse ++ a.data.toList.drop i := by
    intro n
    induction n with
    | zero =>
      intro i r h
      rw [ByteArray.toList.loop]
      have h1 : ¬ i < a.size := by omega
      rw [if_neg h1, List.drop_eq_nil_of_le (by rw [Array.length_toList]; show a.size ≤ i; omega), List.append_nil]
    | succ n ih =>
      intro i r h
      rw [ByteArray.toList.loop]
      have h1 : i < a.size := by omega
      have h2 : i < a.data.toList.length := by rw [Array.length_toList]; exact h1
      rw [if_pos h1, ih (i + 1) _ (by omega), List.reverse_cons, List.append_assoc, List.drop_eq_getElem_cons h2]
      congr 2
      have h3 : a.get! i = a.data.toList[i] := by
        show a.data[i]! = _
        have h4 : i < a.data.size := h1
        rw [getElem!_pos a.data i h4]
        simp
      rw [h3]
      rfl
  unfold ByteArray.toList
  rw [key _ 0 [] rfl]
  simp

theorem bytes_ext {a b : ByteArray} (h : a.data.toList = b.data.toList) : a = b := by
  cases a; cases b
  simp only [ByteArray.mk.injEq]
  exact Array.toList_inj.1 h

theorem toList_inj {a b : ByteArray} : a.toList = b.toList ↔ a = b := by
  rw [toList_data, toList_data]
  exact ⟨bytes_ext, fun h => by rw [h]⟩

def sLt (a b : ByteArray) : Prop := Op.bytesLess a.toList b.toList = true
def sLe (a b : ByteArray) : Prop := sLt a b ∨ a = b

namespace Cnd
variable {p q : Prop}
theorem b {c : Bool} : Cnd c (c = true) := ⟨Iff.rfl⟩
theorem tt : Cnd true True := ⟨by simp⟩
theorem ff : Cnd false False := ⟨by simp⟩
theorem dec [Decidable p] : Cnd (decide p) p := ⟨decide_eq_true_iff⟩
theorem eq {α : Type} [BEq α] [LawfulBEq α] {x y : α} : Cnd (x == y) (x = y) := ⟨beq_iff_eq⟩
theorem ne {α : Type} [BEq α] [LawfulBEq α] {x y : α} : Cnd (x != y) (¬ x = y) := ⟨bne_iff_ne⟩
theorem seq {x y : ByteArray} : Cnd (x.toList == y.toList) (x = y) := ⟨by rw [beq_iff_eq, toList_inj]⟩
theorem not {c : Bool} (h : Cnd c p) : Cnd (!c) (¬ (p)) := ⟨by rw [← h.iff]; cases c <;> simp⟩
theorem and {b c : Bool} (h : Cnd b p) (k : Cnd c q) : Cnd (b && c) ((p) ∧ (q)) := ⟨by rw [← h.iff, ← k.iff, Bool.and_eq_true]⟩
theorem or {b c : Bool} (h : Cnd b p) (k : Cnd c q) : Cnd (b || c) ((p) ∨ (q)) := ⟨by rw [← h.iff, ← k.iff, Bool.or_eq_true]⟩
theorem ix {i n : Int} : Cnd (decide ((0 : Int) ≤ i) && decide (i < n)) ((0 : Int) ≤ i ∧ i < n) := ⟨by simp⟩
theorem sl {l h n : Int} : Cnd (decide ((0 : Int) ≤ l) && decide (l ≤ h) && decide (h ≤ n) && (h == h)) ((0 : Int) ≤ l ∧ l ≤ h ∧ h ≤ n) := ⟨by simp [and_assoc]⟩
theorem sl4 {l h n m : Int} : Cnd (decide ((0 : Int) ≤ l) && decide (l ≤ h) && decide (h ≤ n) && (m == h)) ((0 : Int) ≤ l ∧ l ≤ h ∧ h ≤ n ∧ m = h) := ⟨by simp [and_assoc]⟩
theorem ss {l h n : Int} : Cnd (decide ((0 : Int) ≤ l) && decide (l ≤ h) && decide (h ≤ n)) ((0 : Int) ≤ l ∧ l ≤ h ∧ h ≤ n) := ⟨by simp [and_assoc]⟩
theorem ble {x y : Nat} : Cnd (Nat.ble x y) (x ≤ y) := ⟨by rw [Nat.ble_eq]⟩
theorem sl_ {x y : ByteArray} : Cnd (Op.bytesLess x.toList y.toList) (sLt x y) := ⟨Iff.rfl⟩
theorem sle {x y : ByteArray} : Cnd (Op.bytesLess x.toList y.toList || x.toList == y.toList) (sLe x y) := ⟨by unfold sLe sLt; rw [Bool.or_eq_true, beq_iff_eq, toList_inj]⟩
end Cnd

theorem br {b : Bool} {c p q p' q' : Prop} (hc : Cnd b c) (f : c → p' → p) (g : ¬ (c) → q' → q) (h : (c → p') ∧ (¬ (c) → q')) : Br b p q := by
  cases b with
  | true => exact f (hc.iff.1 rfl) (h.1 (hc.iff.1 rfl))
  | false =>
    have hn : ¬ c := fun h => by have := hc.iff.2 h; cases this
    exact g hn (h.2 hn)

theorem brT {b : Bool} {c p q : Prop} (hc : Cnd b c) (h : c) (t : p) : Br b p q := by
  have := hc.iff.2 h
  subst this
  exact t

theorem brF {b : Bool} {c p q : Prop} (hc : Cnd b c) (h : ¬ (c)) (t : q) : Br b p q := by
  cases b with
  | true => exact absurd (hc.iff.1 rfl) h
  | false => exact t

theorem chk {b : Bool} {c p p' : Prop} (hc : Cnd b c) (f : c → p' → p) (h : (c) ∧ p') : Br b p False := by
  have := hc.iff.2 h.1
  subst this
  exact f h.1 h.2

theorem wrap_id {k : IntKind} {e : Int} (h : (if k.signed then -(2 ^ (k.bits - 1) : Int) else 0) ≤ e) (h' : e ≤ (if k.signed then (2 ^ (k.bits - 1) : Int) else 2 ^ k.bits) - 1) : k.wrap e = e := by
  cases k <;> simp [IntKind.wrap, IntKind.signed, IntKind.bits] at h h' ⊢ <;> (try split) <;> omega

namespace wrapK
variable {e : Int} {T : Int → Prop} {V : Prop}
theorem i8 (f : -128 ≤ e → e ≤ 127 → V → T e) (h : -128 ≤ e ∧ e ≤ 127 ∧ V) : Let (IntKind.i8.wrap e) T := by
  unfold Let; rw [wrap_id (by unfold IntKind.signed IntKind.bits; simp; omega) (by unfold IntKind.signed IntKind.bits; simp; omega)]; exact f h.1 h.2.1 h.2.2
theorem i16 (f : -32768 ≤ e → e ≤ 32767 → V → T e) (h : -32768 ≤ e ∧ e ≤ 32767 ∧ V) : Let (IntKind.i16.wrap e) T := by
  unfold Let; rw [wrap_id (by unfold IntKind.signed IntKind.bits; simp; omega) (by unfold IntKind.signed IntKind.bits; simp; omega)]; exact f h.1 h.2.1 h.2.2
theorem i32 (f : -2147483648 ≤ e → e ≤ 2147483647 → V → T e) (h : -2147483648 ≤ e ∧ e ≤ 2147483647 ∧ V) : Let (IntKind.i32.wrap e) T := by
  unfold Let; rw [wrap_id (by unfold IntKind.signed IntKind.bits; simp; omega) (by unfold IntKind.signed IntKind.bits; simp; omega)]; exact f h.1 h.2.1 h.2.2
theorem i64 (f : -9223372036854775808 ≤ e → e ≤ 9223372036854775807 → V → T e) (h : -9223372036854775808 ≤ e ∧ e ≤ 9223372036854775807 ∧ V) : Let (IntKind.i64.wrap e) T := by
  unfold Let; rw [wrap_id (by unfold IntKind.signed IntKind.bits; simp; omega) (by unfold IntKind.signed IntKind.bits; simp; omega)]; exact f h.1 h.2.1 h.2.2
theorem u8 (f : 0 ≤ e → e ≤ 255 → V → T e) (h : 0 ≤ e ∧ e ≤ 255 ∧ V) : Let (IntKind.u8.wrap e) T := by
  unfold Let; rw [wrap_id (by unfold IntKind.signed IntKind.bits; simp; omega) (by unfold IntKind.signed IntKind.bits; simp; omega)]; exact f h.1 h.2.1 h.2.2
theorem u16 (f : 0 ≤ e → e ≤ 65535 → V → T e) (h : 0 ≤ e ∧ e ≤ 65535 ∧ V) : Let (IntKind.u16.wrap e) T := by
  unfold Let; rw [wrap_id (by unfold IntKind.signed IntKind.bits; simp; omega) (by unfold IntKind.signed IntKind.bits; simp; omega)]; exact f h.1 h.2.1 h.2.2
theorem u32 (f : 0 ≤ e → e ≤ 4294967295 → V → T e) (h : 0 ≤ e ∧ e ≤ 4294967295 ∧ V) : Let (IntKind.u32.wrap e) T := by
  unfold Let; rw [wrap_id (by unfold IntKind.signed IntKind.bits; simp; omega) (by unfold IntKind.signed IntKind.bits; simp; omega)]; exact f h.1 h.2.1 h.2.2
theorem u64 (f : 0 ≤ e → e ≤ 18446744073709551615 → V → T e) (h : 0 ≤ e ∧ e ≤ 18446744073709551615 ∧ V) : Let (IntKind.u64.wrap e) T := by
  unfold Let; rw [wrap_id (by unfold IntKind.signed IntKind.bits; simp; omega) (by unfold IntKind.signed IntKind.bits; simp; omega)]; exact f h.1 h.2.1 h.2.2
end wrapK

namespace wrapR
variable {e : Int} {T : Int → Prop}
theorem i64 (h : (0 : Int) ≤ e ∧ e ≤ 255) (t : T e) : Let (IntKind.i64.wrap e) T := wrapK.i64 (V := True) (fun _ _ _ => t) ⟨by omega, by omega, trivial⟩
theorem u64 (h : (0 : Int) ≤ e ∧ e ≤ 255) (t : T e) : Let (IntKind.u64.wrap e) T := wrapK.u64 (V := True) (fun _ _ _ => t) ⟨by omega, by omega, trivial⟩
theorem i32 (h : (0 : Int) ≤ e ∧ e ≤ 255) (t : T e) : Let (IntKind.i32.wrap e) T := wrapK.i32 (V := True) (fun _ _ _ => t) ⟨by omega, by omega, trivial⟩
theorem u32 (h : (0 : Int) ≤ e ∧ e ≤ 255) (t : T e) : Let (IntKind.u32.wrap e) T := wrapK.u32 (V := True) (fun _ _ _ => t) ⟨by omega, by omega, trivial⟩
end wrapR

theorem fdivK {x c : Int} {T : Int → Prop} (hc : 0 ≤ c) (t : T (x / c)) : Let (Int.fdiv x c) T := by
  unfold Let; rw [Int.fdiv_eq_ediv_of_nonneg _ hc]; exact t

theorem modK {x y : Int} {T : Int → Prop} (hx : 0 ≤ x) (t : T (x % y)) : Let (Int.tmod x y) T := by
  unfold Let; rw [Int.tmod_eq_emod_of_nonneg hx]; exact t

namespace divK
variable {x y : Int} {T : Int → Prop}
theorem le (hx : 0 ≤ x) (hy : 0 < y) : 0 ≤ x / y ∧ x / y ≤ x := ⟨Int.ediv_nonneg hx (Int.le_of_lt hy), Int.ediv_le_self _ hx⟩
theorem i64 (hx : 0 ≤ x) (h : x ≤ 9223372036854775807) (hy : 0 < y) (t : T (x / y)) : Let (IntKind.i64.wrap (Int.tdiv x y)) T := by
  have := le hx hy
  rw [Int.tdiv_eq_ediv_of_nonneg hx]
  exact wrapK.i64 (V := True) (fun _ _ _ => t) ⟨by omega, by omega, trivial⟩
theorem u64 (hx : 0 ≤ x) (h : x ≤ 18446744073709551615) (hy : 0 < y) (t : T (x / y)) : Let (IntKind.u64.wrap (Int.tdiv x y)) T := by
  have := le hx hy
  rw [Int.tdiv_eq_ediv_of_nonneg hx]
  exact wrapK.u64 (V := True) (fun _ _ _ => t) ⟨by omega, by omega, trivial⟩
theorem u32 (hx : 0 ≤ x) (h : x ≤ 4294967295) (hy : 0 < y) (t : T (x / y)) : Let (IntKind.u32.wrap (Int.tdiv x y)) T := by
  have := le hx hy
  rw [Int.tdiv_eq_ediv_of_nonneg hx]
  exact wrapK.u32 (V := True) (fun _ _ _ => t) ⟨by omega, by omega, trivial⟩
end divK

theorem room_of {k b : Nat} (h : k ≤ 1073741824) (hb : b ≤ 131072) : room (k * b) := by
  have : k * b ≤ 1073741824 * 131072 := Nat.mul_le_mul h hb
  unfold room
  omega

theorem room_ofI {c : Int} {b : Nat} (h : c ≤ 1073741824) (hb : b ≤ 131072) : room (Int.toNat c * b) := room_of (by omega) hb

/-- A byte of a text. -/
def bAtN (s : ByteArray) (n : Nat) : Int := ((nth s.data.toList n 0).toNat : Int)
def bAt (s : ByteArray) (i : Int) : Int := ((nth s.data.toList i.toNat 0).toNat : Int)
def at_ {α : Type} [Inhabited α] (l : List α) (i : Int) : α := l.getD i.toNat default
def mx (a b : Int) : Int := bif decide (a < b) then b else a
def mn (a b : Int) : Int := bif decide (b < a) then b else a
def by1 (c : Int) : ByteArray := ⟨#[UInt8.ofNat c.toNat]⟩
def byz (n : Nat) : ByteArray := ⟨(List.replicate n 0).toArray⟩
def subB (b : ByteArray) (lo hi : Int) : ByteArray := b.extract lo.toNat hi.toNat
def subL {α : Type} (l : List α) (lo hi : Int) : List α := (l.drop lo.toNat).take (hi - lo).toNat

theorem DEqs.symmLen {l m : List D} (h : DEqs l m) : l.length = m.length := h.1

/-- A slice's elements read as a list. -/
def Rds {α : Type} [Inhabited α] (enc : α → List D) (n : Nat) (g : Nat → List D) (l : List α) : Prop := n = l.length ∧ ∀ i, i < l.length → DEqs (g i) (gl enc l i)
/-- A slice of bytes reads as bytes. -/
def RdB (n : Nat) (g : Nat → List D) (b : ByteArray) : Prop := n = b.size ∧ ∀ i, i < b.size → DEqs (g i) (gstr b i)

namespace Rds
variable {α : Type} [Inhabited α] {enc : α → List D} {n m : Nat} {g h : Nat → List D} {l l' : List α}
theorem self : Rds enc l.length (gl enc l) l := ⟨rfl, fun _ _ => DEqs.refl _⟩
theorem nil : Rds enc 0 g [] := ⟨rfl, fun i h => absurd h (Nat.not_lt_zero i)⟩
theorem one {cs : List D} {x : α} (h : DEqs cs (enc x)) : Rds enc 1 (fun _ => cs) [x] := ⟨rfl, fun i hi => by
  have : i = 0 := by simp at hi; exact hi
  subst this
  exact h⟩
theorem getD_app (l l' : List α) (i : Nat) : (l ++ l').getD i default = if i < l.length then l.getD i default else l'.getD (i - l.length) default := by
  simp only [List.getD_eq_getElem?_getD, List.getElem?_append]
  split <;> rfl
theorem rep {x : α} : Rds enc n (fun _ => enc x) (List.replicate n x) := ⟨by simp, fun i hi => by
  rw [List.length_replicate] at hi
  have : gl enc (List.replicate n x) i = enc x := by simp [gl, List.getD_eq_getElem?_getD, hi]
  rw [this]
  exact DEqs.refl _⟩
theorem app (p : Rds enc n g l) (q : Rds enc m h l') : Rds enc (n + m) (gapp g n h) (l ++ l') := ⟨by rw [p.1, q.1, List.length_append], fun i hi => by
  rw [List.length_append] at hi
  have e : gl enc (l ++ l') i = if i < l.length then gl enc l i else gl enc l' (i - l.length) := by
    unfold gl
    rw [getD_app]
    split <;> rfl
  rw [e]
  unfold gapp
  by_cases h1 : i < n
  · have : Nat.blt i n = true := by rw [Nat.blt_eq]; exact h1
    rw [this, if_pos (by rw [← p.1]; exact h1)]
    exact p.2 i (by rw [← p.1]; exact h1)
  · have : Nat.blt i n = false := by rw [← Bool.not_eq_true, Nat.blt_eq]; exact h1
    rw [this, if_neg (by rw [← p.1]; exact h1), p.1]
    exact q.2 (i - l.length) (by rw [p.1] at h1; omega)⟩
theorem sub {lo hi : Int} (p : Rds enc n g l) (h : (0 : Int) ≤ lo ∧ lo ≤ hi ∧ hi ≤ (n : Int)) : Rds enc (Int.toNat (hi - lo)) (gsub g (Int.toNat lo)) (subL l lo hi) := by
  have hn := p.1
  refine ⟨by simp only [subL, List.length_take, List.length_drop]; omega, fun i hi' => ?_⟩
  simp only [subL, List.length_take, List.length_drop] at hi'
  have e : gl enc (subL l lo hi) i = gl enc l (i + Int.toNat lo) := by
    unfold gl subL
    simp only [List.getD_eq_getElem?_getD, List.getElem?_take, List.getElem?_drop]
    rw [if_pos (by omega), Nat.add_comm]
  rw [e]
  exact p.2 (i + Int.toNat lo) (by omega)
theorem to (p : Rds enc n g l) (h : l = l') : Rds enc n g l' := h ▸ p
theorem deq {t : Tag} {z : Nat} (p : Rds enc n g l) : DEq (.slice t z n g) (.slice .ro z l.length (gl enc l)) := by
  obtain ⟨h1, h2⟩ := p
  subst h1
  exact .slice t .ro z _ g _ (.inr rfl) (fun i hi => (h2 i hi).1) fun i hi => (h2 i hi).2
theorem row (h : n = l.length ∧ ∀ i, i < l.length → g i = gl enc l i) : Rds enc n g l := ⟨h.1, fun i hi => by rw [h.2 i hi]; exact DEqs.refl _⟩
end Rds

theorem u8r (x : UInt8) : (0 : Int) ≤ (x.toNat : Int) ∧ (x.toNat : Int) ≤ 255 := ⟨by omega, by have := x.toNat_lt; omega⟩
theorem u8w (e : Int) : (0 : Int) ≤ IntKind.u8.wrap e ∧ IntKind.u8.wrap e ≤ 255 := by simp [IntKind.wrap, IntKind.signed, IntKind.bits]; omega
theorem u8b (s : ByteArray) (i : Int) : (0 : Int) ≤ bAt s i ∧ bAt s i ≤ 255 := u8r _
theorem u8bN (s : ByteArray) (i : Nat) : (0 : Int) ≤ bAtN s i ∧ bAtN s i ≤ 255 := u8r _

theorem nth_toList {s : ByteArray} {i : Nat} (h : i < s.size) : nth s.data.toList i 0 = s.data.toList[i]'(by rw [Array.length_toList]; exact h) := nth_lt _ _ (by rw [Array.length_toList]; exact h)

theorem nth_app {α : Type} (l m : List α) (d : α) (j : Nat) : nth (l ++ m) j d = if j < l.length then nth l j d else nth m (j - l.length) d := by
  induction l generalizing j with
  | nil => simp
  | cons a l ih => cases j with
    | zero => simp [nth]
    | succ j => simp only [List.cons_append, nth, ih, List.length_cons, Nat.add_lt_add_iff_right, Nat.add_sub_add_right]

theorem nth_getD {α : Type} (l : List α) (d : α) (j : Nat) : nth l j d = l.getD j d := by
  induction l generalizing j with
  | nil => simp [nth]
  | cons a l ih => cases j with
    | zero => simp [nth]
    | succ j => simp [nth, ih]

theorem size_app (a b : ByteArray) : (a ++ b).size = a.size + b.size := ByteArray.size_append
theorem data_app (a b : ByteArray) : (a ++ b).data.toList = a.data.toList ++ b.data.toList := by rw [ByteArray.data_append, Array.toList_append]

namespace RdB
variable {n m : Nat} {g h : Nat → List D} {b b' : ByteArray}
theorem self : RdB b.size (gstr b) b := ⟨rfl, fun _ _ => DEqs.refl _⟩
theorem nil : RdB 0 g ByteArray.empty := ⟨rfl, fun i h => absurd h (Nat.not_lt_zero i)⟩
theorem one {c : Int} (h : (0 : Int) ≤ c ∧ c ≤ 255) : RdB 1 (fun _ => [.int .u8 c]) (by1 c) := ⟨rfl, fun i hi => by
  have : i = 0 := by
    have h2 : (by1 c).size = 1 := rfl
    omega
  subst this
  have : gstr (by1 c) 0 = [.int .u8 c] := by
    have e : ((UInt8.ofNat c.toNat).toNat : Int) = c := by
      rw [UInt8.toNat_ofNat']
      omega
    show [D.int .u8 ((UInt8.ofNat c.toNat).toNat : Int)] = _
    rw [e]
  rw [this]
  exact DEqs.refl _⟩
theorem size_byz : (byz n).size = n := by simp [byz, ByteArray.size]
theorem rep : RdB n (fun _ => [.int .u8 0]) (byz n) := ⟨size_byz.symm, fun i hi => by
  rw [size_byz] at hi
  have : gstr (byz n) i = [.int .u8 0] := by
    show [D.int .u8 ((nth (byz n).data.toList i 0).toNat : Int)] = _
    rw [nth_getD]
    simp [byz, List.getD_eq_getElem?_getD, hi]
  rw [this]
  exact DEqs.refl _⟩
theorem app (p : RdB n g b) (q : RdB m h b') : RdB (n + m) (gapp g n h) (b ++ b') := ⟨by rw [p.1, q.1, size_app], fun i hi => by
  rw [size_app] at hi
  have e : gstr (b ++ b') i = if i < b.size then gstr b i else gstr b' (i - b.size) := by
    unfold gstr
    rw [data_app, nth_app, Array.length_toList]
    show _ = if i < b.data.size then _ else [D.int .u8 ((nth b'.data.toList (i - b.data.size) 0).toNat : Int)]
    split <;> rfl
  rw [e]
  unfold gapp
  by_cases h1 : i < n
  · have : Nat.blt i n = true := by rw [Nat.blt_eq]; exact h1
    rw [this, if_pos (by rw [← p.1]; exact h1)]
    exact p.2 i (by rw [← p.1]; exact h1)
  · have : Nat.blt i n = false := by rw [← Bool.not_eq_true, Nat.blt_eq]; exact h1
    rw [this, if_neg (by rw [← p.1]; exact h1), p.1]
    exact q.2 (i - b.size) (by rw [p.1] at h1; omega)⟩
theorem size_sub {lo hi : Int} (h : (0 : Int) ≤ lo ∧ lo ≤ hi ∧ hi ≤ (b.size : Int)) : (subB b lo hi).size = Int.toNat (hi - lo) := by
  simp only [subB, ByteArray.size_extract]
  omega
theorem sub {lo hi : Int} (p : RdB n g b) (h : (0 : Int) ≤ lo ∧ lo ≤ hi ∧ hi ≤ (n : Int)) : RdB (Int.toNat (hi - lo)) (gsub g (Int.toNat lo)) (subB b lo hi) := by
  have hn := p.1
  have hs := size_sub (b := b) (lo := lo) (hi := hi) (by rw [← hn]; exact h)
  refine ⟨hs.symm, fun i hi' => ?_⟩
  rw [hs] at hi'
  have e : gstr (subB b lo hi) i = gstr b (i + Int.toNat lo) := by
    unfold gstr subB
    rw [ByteArray.data_extract, nth_getD, nth_getD]
    simp only [List.getD_eq_getElem?_getD, Array.getElem?_toList, Array.getElem?_extract]
    have hb : b.data.size = b.size := rfl
    rw [if_pos (by omega), Nat.add_comm]
  rw [e]
  exact p.2 (i + Int.toNat lo) (by omega)
theorem to (p : RdB n g b) (h : b = b') : RdB n g b' := h ▸ p
theorem deq {t : Tag} (p : RdB n g b) : DEq (.slice t 1 n g) (.slice .ro 1 b.size (gstr b)) := by
  obtain ⟨h1, h2⟩ := p
  subst h1
  exact .slice t .ro 1 _ g _ (.inr rfl) (fun i hi => (h2 i hi).1) fun i hi => (h2 i hi).2
theorem at_ (p : RdB n g b) {i : Nat} (hi : i < n) : g i = [.int .u8 ((nth b.data.toList i 0).toNat : Int)] := by
  have h1 := p.2 i (by rw [← p.1]; exact hi)
  have h2 : (g i).length = 1 := h1.1
  have h3 := h1.2 0
  match hg : g i, h2 with
  | [d], _ =>
    rw [hg] at h3
    have h4 : DEq d (.int .u8 ((nth b.data.toList i 0).toNat : Int)) := h3
    cases h4
    rfl
theorem bytes (p : RdB n g b) : Bytes n g := fun i hi => ⟨nth b.data.toList i 0, p.at_ hi⟩
theorem text (p : RdB n g b) : textOf n g = b := by
  have key : ∀ k, k ≤ n → gbytes g k = b.data.toList.take k := by
    intro k
    induction k with
    | zero => intro _; simp [gbytes]
    | succ k ih =>
      intro hk
      have hlt : k < b.data.toList.length := by rw [Array.length_toList]; show k < b.size; rw [← p.1]; omega
      rw [gbytes, ih (by omega), p.at_ (by omega), List.take_succ_eq_append_getElem hlt]
      congr 2
      show UInt8.ofNat (Int.toNat ((nth b.data.toList k 0).toNat : Int)) = _
      rw [Int.toNat_natCast, UInt8.ofNat_toNat, nth_lt _ _ hlt]
  apply bytes_ext
  show (gbytes g n).toArray.toList = _
  rw [key n (Nat.le_refl _), List.take_of_length_le (by rw [Array.length_toList]; show b.size ≤ n; rw [p.1]; exact Nat.le_refl _)]
end RdB

theorem slK {p q k : Prop} (h : p ∧ q) (r : k) : p ∧ q ∧ k := ⟨h.1, h.2, r⟩
theorem slN {p q : Prop} (h : p ∧ q) : p := h.1

theorem b2s {n : Nat} {g : Nat → List D} {b : ByteArray} {V : Prop} {T : ByteArray → Prop} (p : RdB n g b) (f : V → T b) (h : V) : Bytes n g ∧ Let (textOf n g) T :=
  ⟨p.bytes, by unfold Let; rw [p.text]; exact f h⟩

end Go.Abs

-- the types of the program as data
namespace Go.Abs
open Go
def e_u64 (x : Int) : List D := [.int .u64 x]
def k_u64 : Codec (Int) := intC .u64
def e_i64 (x : Int) : List D := [.int .i64 x]
def k_i64 : Codec (Int) := intC .i64
def e_u8 (x : Int) : List D := [.int .u8 x]
def k_u8 : Codec (Int) := intC .u8
def e_bytes (x : ByteArray) : List D := [.slice .ro 1 x.size (gstr x)]
def e_str (x : ByteArray) : List D := [.str x]
def k_str : Codec (ByteArray) := strC
def e_bool (x : Bool) : List D := [.bool x]
def k_bool : Codec (Bool) := boolC
def e_sl_u64 (x : List (Int)) : List D := [.slice .ro 1 x.length (gl e_u64 x)]
def k_sl_u64 : Codec (List (Int)) := sliceC k_u64
end Go.Abs

/- Layer 1: numbers and texts as bytes. -/
namespace Go.Abs
open Go

/-- How many bits a number has. -/
def blen (n : Nat) : Nat := if n = 0 then 0 else n.log2 + 1
/-- How many bytes a number has. -/
def nb (n : Nat) : Nat := (blen n + 7) / 8
/-- The k lowest bytes, the greatest first. -/
def be : Nat → Nat → List UInt8
  | 0, _ => []
  | k + 1, n => be k (n / 256) ++ [UInt8.ofNat n]
def num (n : Nat) : ByteArray := ⟨(UInt8.ofNat (nb n) :: be (nb n) n).toArray⟩
/-- The number that k bytes from i on are. -/
def val (b : ByteArray) (i : Nat) : Nat → Int
  | 0 => 0
  | k + 1 => val b i k * 256 + bAtN b (i + k)

def U64 (n : Int) : Prop := 0 ≤ n ∧ n ≤ 18446744073709551615

def len64_pre (a : Int) : Prop := U64 a
def len64 (a : Int) : Int := (blen a.toNat : Int)
def own_pre (a : ByteArray) : Prop := a.size ≤ 536870912
def ownB (a : ByteArray) : ByteArray := a
def put_pre (a : ByteArray × Int) : Prop := a.1.size ≤ 536870912 ∧ U64 a.2
def putB (a : ByteArray × Int) : ByteArray := a.1 ++ num a.2.toNat
def putText_pre (a : ByteArray × ByteArray) : Prop := a.1.size ≤ 268435456 ∧ a.2.size ≤ 268435456
def putText (a : ByteArray × ByteArray) : ByteArray := a.1 ++ num a.2.size ++ a.2
def num_pre (a : Int) : Prop := U64 a
def numS (a : Int) : ByteArray := num a.toNat
def text_pre (a : ByteArray) : Prop := a.size ≤ 268435456
def textS (a : ByteArray) : ByteArray := num a.size ++ a
def take_pre (a : ByteArray × Int) : Prop := a.1.size ≤ 536870912
def takeN (a : ByteArray × Int) : Int × Int × Int :=
  if a.2 < 0 ∨ (a.1.size : Int) < a.2 then (0, 0, 1) else
  if a.2 = (a.1.size : Int) then (0, 0, 2) else
  if 8 < bAt a.1 a.2 then (0, 0, 3) else
  if (a.1.size : Int) - a.2 - 1 < bAt a.1 a.2 then (0, 0, 2) else
  if 0 < bAt a.1 a.2 ∧ bAt a.1 (a.2 + 1) = 0 then (0, 0, 3) else
  (val a.1 (a.2.toNat + 1) (bAt a.1 a.2).toNat, a.2 + 1 + bAt a.1 a.2, 0)
def takeText_pre (a : ByteArray × Int × Int) : Prop := a.1.size ≤ 536870912 ∧ a.2.2 ≤ 9223372036854775807
def takeText (a : ByteArray × Int × Int) : ByteArray × Int × Int :=
  if a.2.2 < 0 then (ByteArray.empty, 0, 1) else
  if (takeN (a.1, a.2.1)).2.2 ≠ 0 then (ByteArray.empty, 0, (takeN (a.1, a.2.1)).2.2) else
  if a.2.2 < (takeN (a.1, a.2.1)).1 then (ByteArray.empty, 0, 4) else
  if (a.1.size : Int) - (takeN (a.1, a.2.1)).2.1 < (takeN (a.1, a.2.1)).1 then (ByteArray.empty, 0, 2) else
  (subB a.1 (takeN (a.1, a.2.1)).2.1 ((takeN (a.1, a.2.1)).2.1 + (takeN (a.1, a.2.1)).1), (takeN (a.1, a.2.1)).2.1 + (takeN (a.1, a.2.1)).1, 0)

end Go.Abs

-- math/bits.Len64
namespace Go.Abs
open Go
def f45.args (a : Int) : List D := [.int .u64 a]
def f45.blks (a : Int) : List (List D) := []
def f45.res (a : Int) : List D := [.int .i64 (len64 a)]
def f45.blks' (a : Int) : List (List D) := []
def f45.C : Contract := FnC f45.args f45.blks (fun a => len64_pre a) f45.res f45.blks'
end Go.Abs

/- math/bits.Len64 -/
namespace Go.Abs
open Go
set_option linter.unusedVariables false
def f45.s0 : ByteArray := ⟨#[0, 1, 2, 2, 3, 3, 3, 3, 4, 4, 4, 4, 4, 4, 4, 4, 5, 5, 5, 5, 5, 5, 5, 5, 5, 5, 5, 5, 5, 5, 5, 5, 6, 6, 6, 6, 6, 6, 6, 6, 6, 6, 6, 6, 6, 6, 6, 6, 6, 6, 6, 6, 6, 6, 6, 6, 6, 6, 6, 6, 6, 6, 6, 6, 7, 7, 7, 7, 7, 7, 7, 7, 7, 7, 7, 7, 7, 7, 7, 7, 7, 7, 7, 7, 7, 7, 7, 7, 7, 7, 7, 7, 7, 7, 7, 7, 7, 7, 7, 7, 7, 7, 7, 7, 7, 7, 7, 7, 7, 7, 7, 7, 7, 7, 7, 7, 7, 7, 7, 7, 7, 7, 7, 7, 7, 7, 7, 7, 8, 8, 8, 8, 8, 8, 8, 8, 8, 8, 8, 8, 8, 8, 8, 8, 8, 8, 8, 8, 8, 8, 8, 8, 8, 8, 8, 8, 8, 8, 8, 8, 8, 8, 8, 8, 8, 8, 8, 8, 8, 8, 8, 8, 8, 8, 8, 8, 8, 8, 8, 8, 8, 8, 8, 8, 8, 8, 8, 8, 8, 8, 8, 8, 8, 8, 8, 8, 8, 8, 8, 8, 8, 8, 8, 8, 8, 8, 8, 8, 8, 8, 8, 8, 8, 8, 8, 8, 8, 8, 8, 8, 8, 8, 8, 8, 8, 8, 8, 8, 8, 8, 8, 8, 8, 8, 8, 8, 8, 8, 8, 8, 8, 8, 8, 8, 8, 8, 8, 8, 8, 8, 8, 8, 8, 8, 8, 8]⟩
def f45.kills (a : Int) : List Hint := []
def f45.cuts (a : Int) : List (Nat × Σ β : Type, β → Tm) := []
def f45.af (a : Int) : AF := AF.mk (.seq (.region [⟨(some 2), 0, .move, [.c (.int .i64 (0))], none⟩])
 (.seq (.seq (.region [⟨(some 3), 1, .move, [.t 0], none⟩,
  ⟨(some 4), 2, (.bin .geq), [.t 3, .c (.int .u64 (4294967296))], none⟩])
 (.cond (.t 4) (.seq (.region [⟨(some 5), 3, .move, [.t 0], none⟩,
  ⟨(some 6), 4, (.bin .shr), [.t 5, .c (.int .u64 (32))], none⟩,
  ⟨(some 0), 5, .move, [.t 6], none⟩])
 (.region [⟨(some 2), 6, .move, [.c (.int .i64 (32))], none⟩])) (.skip)))
 (.seq (.seq (.region [⟨(some 7), 7, .move, [.t 0], none⟩,
  ⟨(some 8), 8, (.bin .geq), [.t 7, .c (.int .u64 (65536))], none⟩])
 (.cond (.t 8) (.seq (.region [⟨(some 9), 9, .move, [.t 0], none⟩,
  ⟨(some 10), 10, (.bin .shr), [.t 9, .c (.int .u64 (16))], none⟩,
  ⟨(some 0), 11, .move, [.t 10], none⟩])
 (.region [⟨(some 11), 12, .move, [.t 2], none⟩,
  ⟨(some 12), 13, (.bin .add), [.t 11, .c (.int .i64 (16))], none⟩,
  ⟨(some 2), 14, .move, [.t 12], none⟩])) (.skip)))
 (.seq (.seq (.region [⟨(some 13), 15, .move, [.t 0], none⟩,
  ⟨(some 14), 16, (.bin .geq), [.t 13, .c (.int .u64 (256))], none⟩])
 (.cond (.t 14) (.seq (.region [⟨(some 15), 17, .move, [.t 0], none⟩,
  ⟨(some 16), 18, (.bin .shr), [.t 15, .c (.int .u64 (8))], none⟩,
  ⟨(some 0), 19, .move, [.t 16], none⟩])
 (.region [⟨(some 17), 20, .move, [.t 2], none⟩,
  ⟨(some 18), 21, (.bin .add), [.t 17, .c (.int .i64 (8))], none⟩,
  ⟨(some 2), 22, .move, [.t 18], none⟩])) (.skip)))
 (.seq (.region [⟨(some 19), 23, .move, [.t 2], none⟩,
  ⟨(some 20), 24, .move, [.t 0], none⟩,
  ⟨(some 21), 25, (.conv (.int .u8)), [.t 20], none⟩,
  ⟨(some 22), 26, .indexStr, [.c (.str f45.s0), .t 21], none⟩,
  ⟨(some 23), 27, (.conv (.int .i64)), [.t 22], none⟩,
  ⟨(some 24), 28, (.bin .add), [.t 19, .t 23], none⟩,
  ⟨(some 2), 29, .move, [.t 24], none⟩])
 (.ret))))))
  [.tmp 2] 0 24
def f45.env : Env := []
def f45.tree (a : Int) : Prop := Br (decide ((4294967296 : Int) ≤ a)) (Let (Int.fdiv a 4294967296) (fun v3 : Int => Br (decide ((65536 : Int) ≤ v3)) (Let (Int.fdiv v3 65536) (fun v6 : Int => Br (decide ((256 : Int) ≤ v6)) (Let (Int.fdiv v6 256) (fun v9 : Int => Br (decide ((0 : Int) ≤ (IntKind.u8.wrap v9)) && decide ((IntKind.u8.wrap v9) < (256 : Int))) (Let (IntKind.i64.wrap (bAt f45.s0 (IntKind.u8.wrap v9))) (fun v11 : Int => Let (IntKind.i64.wrap ((56 : Int) + v11)) (fun v12 : Int => (v12 = (len64 a)) ∧ True))) False)) (Br (decide ((0 : Int) ≤ (IntKind.u8.wrap v6)) && decide ((IntKind.u8.wrap v6) < (256 : Int))) (Let (IntKind.i64.wrap (bAt f45.s0 (IntKind.u8.wrap v6))) (fun v22 : Int => Let (IntKind.i64.wrap ((48 : Int) + v22)) (fun v23 : Int => (v23 = (len64 a)) ∧ True))) False))) (Br (decide ((256 : Int) ≤ v3)) (Let (Int.fdiv v3 256) (fun v36 : Int => Br (decide ((0 : Int) ≤ (IntKind.u8.wrap v36)) && decide ((IntKind.u8.wrap v36) < (256 : Int))) (Let (IntKind.i64.wrap (bAt f45.s0 (IntKind.u8.wrap v36))) (fun v38 : Int => Let (IntKind.i64.wrap ((40 : Int) + v38)) (fun v39 : Int => (v39 = (len64 a)) ∧ True))) False)) (Br (decide ((0 : Int) ≤ (IntKind.u8.wrap v3)) && decide ((IntKind.u8.wrap v3) < (256 : Int))) (Let (IntKind.i64.wrap (bAt f45.s0 (IntKind.u8.wrap v3))) (fun v49 : Int => Let (IntKind.i64.wrap ((32 : Int) + v49)) (fun v50 : Int => (v50 = (len64 a)) ∧ True))) False)))) (Br (decide ((65536 : Int) ≤ a)) (Let (Int.fdiv a 65536) (fun v65 : Int => Br (decide ((256 : Int) ≤ v65)) (Let (Int.fdiv v65 256) (fun v68 : Int => Br (decide ((0 : Int) ≤ (IntKind.u8.wrap v68)) && decide ((IntKind.u8.wrap v68) < (256 : Int))) (Let (IntKind.i64.wrap (bAt f45.s0 (IntKind.u8.wrap v68))) (fun v70 : Int => Let (IntKind.i64.wrap ((24 : Int) + v70)) (fun v71 : Int => (v71 = (len64 a)) ∧ True))) False)) (Br (decide ((0 : Int) ≤ (IntKind.u8.wrap v65)) && decide ((IntKind.u8.wrap v65) < (256 : Int))) (Let (IntKind.i64.wrap (bAt f45.s0 (IntKind.u8.wrap v65))) (fun v81 : Int => Let (IntKind.i64.wrap ((16 : Int) + v81)) (fun v82 : Int => (v82 = (len64 a)) ∧ True))) False))) (Br (decide ((256 : Int) ≤ a)) (Let (Int.fdiv a 256) (fun v95 : Int => Br (decide ((0 : Int) ≤ (IntKind.u8.wrap v95)) && decide ((IntKind.u8.wrap v95) < (256 : Int))) (Let (IntKind.i64.wrap (bAt f45.s0 (IntKind.u8.wrap v95))) (fun v97 : Int => Let (IntKind.i64.wrap ((8 : Int) + v97)) (fun v98 : Int => (v98 = (len64 a)) ∧ True))) False)) (Br (decide ((0 : Int) ≤ (IntKind.u8.wrap a)) && decide ((IntKind.u8.wrap a) < (256 : Int))) (Let (IntKind.i64.wrap (bAt f45.s0 (IntKind.u8.wrap a))) (fun v108 : Int => Let (IntKind.i64.wrap ((0 : Int) + v108)) (fun v109 : Int => (v109 = (len64 a)) ∧ True))) False)))
def f45.vc (a : Int) : Prop := (((4294967296 : Int) ≤ a → (((65536 : Int) ≤ (a / 4294967296) → (((256 : Int) ≤ ((a / 4294967296) / 65536) → ((0 : Int) ≤ (IntKind.u8.wrap (((a / 4294967296) / 65536) / 256)) ∧ (IntKind.u8.wrap (((a / 4294967296) / 65536) / 256)) < (256 : Int) ∧ (-9223372036854775808 ≤ ((56 : Int) + (bAt f45.s0 (IntKind.u8.wrap (((a / 4294967296) / 65536) / 256)))) ∧ ((56 : Int) + (bAt f45.s0 (IntKind.u8.wrap (((a / 4294967296) / 65536) / 256)))) ≤ 9223372036854775807 ∧ (((56 : Int) + (bAt f45.s0 (IntKind.u8.wrap (((a / 4294967296) / 65536) / 256)))) = len64 a)))) ∧ (¬ ((256 : Int) ≤ ((a / 4294967296) / 65536)) → ((0 : Int) ≤ (IntKind.u8.wrap ((a / 4294967296) / 65536)) ∧ (IntKind.u8.wrap ((a / 4294967296) / 65536)) < (256 : Int) ∧ (-9223372036854775808 ≤ ((48 : Int) + (bAt f45.s0 (IntKind.u8.wrap ((a / 4294967296) / 65536)))) ∧ ((48 : Int) + (bAt f45.s0 (IntKind.u8.wrap ((a / 4294967296) / 65536)))) ≤ 9223372036854775807 ∧ (((48 : Int) + (bAt f45.s0 (IntKind.u8.wrap ((a / 4294967296) / 65536)))) = len64 a)))))) ∧ (¬ ((65536 : Int) ≤ (a / 4294967296)) → (((256 : Int) ≤ (a / 4294967296) → ((0 : Int) ≤ (IntKind.u8.wrap ((a / 4294967296) / 256)) ∧ (IntKind.u8.wrap ((a / 4294967296) / 256)) < (256 : Int) ∧ (-9223372036854775808 ≤ ((40 : Int) + (bAt f45.s0 (IntKind.u8.wrap ((a / 4294967296) / 256)))) ∧ ((40 : Int) + (bAt f45.s0 (IntKind.u8.wrap ((a / 4294967296) / 256)))) ≤ 9223372036854775807 ∧ (((40 : Int) + (bAt f45.s0 (IntKind.u8.wrap ((a / 4294967296) / 256)))) = len64 a)))) ∧ (¬ ((256 : Int) ≤ (a / 4294967296)) → ((0 : Int) ≤ (IntKind.u8.wrap (a / 4294967296)) ∧ (IntKind.u8.wrap (a / 4294967296)) < (256 : Int) ∧ (-9223372036854775808 ≤ ((32 : Int) + (bAt f45.s0 (IntKind.u8.wrap (a / 4294967296)))) ∧ ((32 : Int) + (bAt f45.s0 (IntKind.u8.wrap (a / 4294967296)))) ≤ 9223372036854775807 ∧ (((32 : Int) + (bAt f45.s0 (IntKind.u8.wrap (a / 4294967296)))) = len64 a)))))))) ∧ (¬ ((4294967296 : Int) ≤ a) → (((65536 : Int) ≤ a → (((256 : Int) ≤ (a / 65536) → ((0 : Int) ≤ (IntKind.u8.wrap ((a / 65536) / 256)) ∧ (IntKind.u8.wrap ((a / 65536) / 256)) < (256 : Int) ∧ (-9223372036854775808 ≤ ((24 : Int) + (bAt f45.s0 (IntKind.u8.wrap ((a / 65536) / 256)))) ∧ ((24 : Int) + (bAt f45.s0 (IntKind.u8.wrap ((a / 65536) / 256)))) ≤ 9223372036854775807 ∧ (((24 : Int) + (bAt f45.s0 (IntKind.u8.wrap ((a / 65536) / 256)))) = len64 a)))) ∧ (¬ ((256 : Int) ≤ (a / 65536)) → ((0 : Int) ≤ (IntKind.u8.wrap (a / 65536)) ∧ (IntKind.u8.wrap (a / 65536)) < (256 : Int) ∧ (-9223372036854775808 ≤ ((16 : Int) + (bAt f45.s0 (IntKind.u8.wrap (a / 65536)))) ∧ ((16 : Int) + (bAt f45.s0 (IntKind.u8.wrap (a / 65536)))) ≤ 9223372036854775807 ∧ (((16 : Int) + (bAt f45.s0 (IntKind.u8.wrap (a / 65536)))) = len64 a)))))) ∧ (¬ ((65536 : Int) ≤ a) → (((256 : Int) ≤ a → ((0 : Int) ≤ (IntKind.u8.wrap (a / 256)) ∧ (IntKind.u8.wrap (a / 256)) < (256 : Int) ∧ (-9223372036854775808 ≤ ((8 : Int) + (bAt f45.s0 (IntKind.u8.wrap (a / 256)))) ∧ ((8 : Int) + (bAt f45.s0 (IntKind.u8.wrap (a / 256)))) ≤ 9223372036854775807 ∧ (((8 : Int) + (bAt f45.s0 (IntKind.u8.wrap (a / 256)))) = len64 a)))) ∧ (¬ ((256 : Int) ≤ a) → ((0 : Int) ≤ (IntKind.u8.wrap a) ∧ (IntKind.u8.wrap a) < (256 : Int) ∧ (-9223372036854775808 ≤ ((0 : Int) + (bAt f45.s0 (IntKind.u8.wrap a))) ∧ ((0 : Int) + (bAt f45.s0 (IntKind.u8.wrap a))) ≤ 9223372036854775807 ∧ (((0 : Int) + (bAt f45.s0 (IntKind.u8.wrap a))) = len64 a)))))))))
set_option maxRecDepth 100000 in
set_option maxHeartbeats 2000000 in
theorem f45.of (a : Int) (h : f45.vc a) : f45.tree a := br Cnd.dec (fun h1 k122 => fdivK (by decide) (br Cnd.dec (fun h4 k61 => fdivK (by decide) (br Cnd.dec (fun h7 k32 => fdivK (by decide) (chk Cnd.ix (fun h10 k20 => wrapR.i64 (u8b _ _) (wrapK.i64 (fun h14 h15 k16 => ⟨k16, trivial⟩) k20)) ⟨⟨k32.1, k32.2.1⟩, k32.2.2⟩)) (fun h8 k33 => chk Cnd.ix (fun h21 k31 => wrapR.i64 (u8b _ _) (wrapK.i64 (fun h25 h26 k27 => ⟨k27, trivial⟩) k31)) ⟨⟨k33.1, k33.2.1⟩, k33.2.2⟩) k61)) (fun h5 k62 => br Cnd.dec (fun h34 k59 => fdivK (by decide) (chk Cnd.ix (fun h37 k47 => wrapR.i64 (u8b _ _) (wrapK.i64 (fun h41 h42 k43 => ⟨k43, trivial⟩) k47)) ⟨⟨k59.1, k59.2.1⟩, k59.2.2⟩)) (fun h35 k60 => chk Cnd.ix (fun h48 k58 => wrapR.i64 (u8b _ _) (wrapK.i64 (fun h52 h53 k54 => ⟨k54, trivial⟩) k58)) ⟨⟨k60.1, k60.2.1⟩, k60.2.2⟩) k62) k122)) (fun h2 k123 => br Cnd.dec (fun h63 k120 => fdivK (by decide) (br Cnd.dec (fun h66 k91 => fdivK (by decide) (chk Cnd.ix (fun h69 k79 => wrapR.i64 (u8b _ _) (wrapK.i64 (fun h73 h74 k75 => ⟨k75, trivial⟩) k79)) ⟨⟨k91.1, k91.2.1⟩, k91.2.2⟩)) (fun h67 k92 => chk Cnd.ix (fun h80 k90 => wrapR.i64 (u8b _ _) (wrapK.i64 (fun h84 h85 k86 => ⟨k86, trivial⟩) k90)) ⟨⟨k92.1, k92.2.1⟩, k92.2.2⟩) k120)) (fun h64 k121 => br Cnd.dec (fun h93 k118 => fdivK (by decide) (chk Cnd.ix (fun h96 k106 => wrapR.i64 (u8b _ _) (wrapK.i64 (fun h100 h101 k102 => ⟨k102, trivial⟩) k106)) ⟨⟨k118.1, k118.2.1⟩, k118.2.2⟩)) (fun h94 k119 => chk Cnd.ix (fun h107 k117 => wrapR.i64 (u8b _ _) (wrapK.i64 (fun h111 h112 k113 => ⟨k113, trivial⟩) k117)) ⟨⟨k119.1, k119.2.1⟩, k119.2.2⟩) k121) k123) h
theorem f45.eq (a : Int) : (f45.af a).gives f45.env (f45.args a) (f45.blks a) (f45.res a) (f45.blks' a) = f45.tree a := by kernel_rfl
end Go.Abs

-- interregnum/pack.own
namespace Go.Abs
open Go
def f46.args (a : ByteArray) : List D := [.slice .ro 1 a.size (gstr a)]
def f46.blks (a : ByteArray) : List (List D) := []
def f46.res (a : ByteArray) : List D := [.slice (.own 0) 1 ((ownB a).size) (gstr (ownB a))]
def f46.blks' (a : ByteArray) : List (List D) := []
def f46.C : Contract := FnC f46.args f46.blks (fun a => own_pre a) f46.res f46.blks'
end Go.Abs

/- interregnum/pack.own -/
namespace Go.Abs
open Go
set_option linter.unusedVariables false
def f46.kills (a : ByteArray) : List Hint := []
def f46.cuts (a : ByteArray) : List (Nat × Σ β : Type, β → Tm) := []
def f46.af (a : ByteArray) : AF := AF.mk (.seq (.region [⟨(some 2), 0, (.nilSl 1), [], none⟩])
 (.seq (.region [⟨(some 3), 1, .move, [.t 0], none⟩,
  ⟨(some 4), 2, (.len false), [.t 3], none⟩,
  ⟨(some 5), 3, (.bin .add), [.t 4, .c (.int .i64 (9))], none⟩,
  ⟨(some 6), 4, (.makeSlice [.int .u8 (0)] 1), [.c (.int .i64 (0)), .t 5], none⟩,
  ⟨(some 7), 5, .move, [.t 0], none⟩,
  ⟨(some 8), 6, (.append 1 1), [.t 6, .t 7], none⟩,
  ⟨(some 2), 7, .move, [.t 8], none⟩])
 (.ret)))
  [.tmp 2] 0 8
def f46.env : Env := []
def f46.tree (a : ByteArray) : Prop := Let (IntKind.i64.wrap ((a.size : Int) + (9 : Int))) (fun v1 : Int => ((0 : Int) ≤ (0 : Int) ∧ (0 : Int) ≤ v1 ∧ room (Int.toNat v1 * 1)) ∧ ((0 = 0 ∧ room ((0 + a.size) * 1)) ∧ (((0 + a.size) = (0 + a.size)) ∧ ((0 + a.size) = ((ownB a).size)) ∧ (∀ i, i < ((ownB a).size) → DEqs ((gapp (fun _ => [.int .u8 (0 : Int)]) 0 (gstr a)) i) ((gstr (ownB a)) i)) ∧ True)))
def f46.vc (a : ByteArray) : Prop := (-9223372036854775808 ≤ ((a.size : Int) + (9 : Int)) ∧ ((a.size : Int) + (9 : Int)) ≤ 9223372036854775807 ∧ ((0 : Int) ≤ ((a.size : Int) + (9 : Int)) ∧ ((a.size : Int) + (9 : Int)) ≤ 1073741824 ∧ (0 + a.size ≤ 1073741824 ∧ (ByteArray.empty ++ a = ownB a))))
set_option maxRecDepth 100000 in
set_option maxHeartbeats 2000000 in
theorem f46.of (a : ByteArray) (h : f46.vc a) : f46.tree a := wrapK.i64 (fun h3 h4 k5 => ⟨⟨(by decide), k5.1, room_ofI k5.2.1 (by decide)⟩, ⟨⟨rfl, (room_of k5.2.2.1 (by decide))⟩, ⟨rfl, slK (RdB.to (RdB.app RdB.nil RdB.self) k5.2.2.2) (trivial)⟩⟩⟩) h
theorem f46.eq (a : ByteArray) : (f46.af a).gives f46.env (f46.args a) (f46.blks a) (f46.res a) (f46.blks' a) = f46.tree a := by kernel_rfl
end Go.Abs

-- interregnum/pack.Put
namespace Go.Abs
open Go
def f14.args (a : ByteArray × Int) : List D := [.slice .ro 1 a.1.size (gstr a.1), .int .u64 a.2]
def f14.blks (a : ByteArray × Int) : List (List D) := []
def f14.res (a : ByteArray × Int) : List D := [.slice (.own 0) 1 ((putB a).size) (gstr (putB a))]
def f14.blks' (a : ByteArray × Int) : List (List D) := []
def f14.C : Contract := FnC f14.args f14.blks (fun a => put_pre a) f14.res f14.blks'
end Go.Abs

/- interregnum/pack.Put -/
namespace Go.Abs
open Go
set_option linter.unusedVariables false
def f14.kills (a : ByteArray × Int) : List Hint := [.tell (ByteArray × Int) (fun x => ⟨[.dead, .int .u64 a.2, .dead, .dead, .dead, .dead, .slice (.own 10) 1 x.1.size (gstr x.1), .int .i64 x.2, .dead, .dead, .dead, .dead, .dead, .dead, .dead, .dead, .dead, .dead, .dead, .dead, .dead, .dead, .dead, .dead, .dead, .dead, .dead, .dead, .dead, .dead, .dead, .dead, .dead], [], [(10, 1, x.1.size)]⟩)]
def f14.cuts (a : ByteArray × Int) : List (Nat × Σ β : Type, β → Tm) := []
def f14.af (a : ByteArray × Int) : AF := AF.mk (.seq (.region [⟨(some 4), 0, (.nilSl 1), [], none⟩])
 (.seq (.region [⟨(some 8), 1, .move, [.t 1], none⟩,
  ⟨(some 9), 2, (.call false 45), [.t 8], none⟩,
  ⟨(some 10), 6, (.bin .add), [.t 9, .c (.int .i64 (7))], none⟩,
  ⟨(some 11), 7, (.bin .quo), [.t 10, .c (.int .i64 (8))], none⟩,
  ⟨(some 5), 8, .move, [.t 11], none⟩])
 (.seq (.region [⟨(some 12), 9, .move, [.t 0], none⟩,
  ⟨(some 13), 10, (.call false 46), [.t 12], none⟩,
  ⟨(some 14), 14, .move, [.t 5], none⟩,
  ⟨(some 15), 15, (.conv (.int .u8)), [.t 14], none⟩,
  ⟨(some 16), 16, (.buildSlice 1 1 [.int .u8 (0)] [(0, 1)]), [.t 15], none⟩,
  ⟨(some 17), 17, (.append 1 1), [.t 13, .t 16], none⟩,
  ⟨(some 6), 18, .move, [.t 17], none⟩])
 (.seq (.seq (.region [⟨(some 18), 19, .move, [.t 5], none⟩,
  ⟨(some 19), 20, (.bin .sub), [.t 18, .c (.int .i64 (1))], none⟩,
  ⟨(some 7), 21, .move, [.t 19], none⟩])
 (.block 0 (.loopT (ByteArray × Int) (fun x => ⟨[.dead, .int .u64 a.2, .dead, .dead, .dead, .dead, .slice (.own 10) 1 x.1.size (gstr x.1), .int .i64 x.2, .dead, .dead, .dead, .dead, .dead, .dead, .dead, .dead, .dead, .dead, .dead, .dead, .dead, .dead, .dead, .dead, .dead, .dead, .dead, .dead, .dead, .dead, .dead, .dead, .dead], [], [(10, 1, x.1.size)]⟩) 22 36 (.seq (.seq (.region [⟨(some 20), 22, .move, [.t 7], none⟩,
  ⟨(some 21), 23, (.bin .geq), [.t 20, .c (.int .i64 (0))], none⟩])
 (.cond (.t 21) (.skip) (.exit 0)))
 (.seq (.block 1 (.region [⟨(some 24), 24, .move, [.t 6], none⟩,
  ⟨(some 25), 25, .move, [.t 1], none⟩,
  ⟨(some 26), 26, .move, [.t 7], none⟩,
  ⟨(some 27), 27, (.bin .mul), [.c (.int .i64 (8)), .t 26], none⟩,
  ⟨(some 28), 28, (.bin .shr), [.t 25, .t 27], none⟩,
  ⟨(some 29), 29, (.conv (.int .u8)), [.t 28], none⟩,
  ⟨(some 30), 30, (.buildSlice 1 1 [.int .u8 (0)] [(0, 1)]), [.t 29], none⟩,
  ⟨(some 31), 31, (.append 1 1), [.t 24, .t 30], none⟩,
  ⟨(some 6), 32, .move, [.t 31], none⟩]))
 (.region [⟨(some 22), 33, .move, [.t 7], none⟩,
  ⟨(some 23), 34, (.bin .sub), [.t 22, .c (.int .i64 (1))], none⟩,
  ⟨(some 7), 35, .move, [.t 23], none⟩]))))))
 (.seq (.region [⟨(some 32), 36, .move, [.t 6], none⟩,
  ⟨(some 4), 37, .move, [.t 32], none⟩])
 (.ret))))))
  [.tmp 4] 0 31
def f14.env : Env := [(45, f45.C), (46, f46.C)]
def f14.tree (a : ByteArray × Int) : Prop := ∃ c1 : Int, (a.2 = c1) ∧ (len64_pre c1) ∧ Let (IntKind.i64.wrap ((len64 c1) + (7 : Int))) (fun v2 : Int => Let (IntKind.i64.wrap (Int.tdiv v2 (8 : Int))) (fun v3 : Int => ∃ c4 : ByteArray, (a.1.size = c4.size) ∧ (∀ i, i < c4.size → DEqs ((gstr a.1) i) ((gstr c4) i)) ∧ (own_pre c4) ∧ (((ownB c4).size) = ((ownB c4).size) ∧ room ((((ownB c4).size) + 1) * 1)) ∧ (Let (IntKind.i64.wrap (v3 - (1 : Int))) (fun v5 : Int => ∃ (I7 : (ByteArray × Int) → Prop) (μ8 : (ByteArray × Int) → Nat), (∃ x6 : ByteArray × Int, (a.2 = a.2) ∧ ((((ownB c4).size) + 1) = x6.1.size) ∧ (∀ i, i < x6.1.size → DEqs ((gapp (gstr (ownB c4)) ((ownB c4).size) (fun _ => [.int .u8 (IntKind.u8.wrap v3)])) i) ((gstr x6.1) i)) ∧ (v5 = x6.2) ∧ ((((ownB c4).size) + 1) = x6.1.size) ∧ I7 x6) ∧ ∀ y9 : ByteArray × Int, I7 y9 → (Br (decide ((0 : Int) ≤ y9.2)) (Let (IntKind.i64.wrap ((8 : Int) * y9.2)) (fun v12 : Int => Br (decide ((0 : Int) ≤ v12)) (Let (Int.fdiv a.2 (2 ^ min (Int.toNat v12) 64)) (fun v14 : Int => (y9.1.size = y9.1.size ∧ room ((y9.1.size + 1) * 1)) ∧ (Let (IntKind.i64.wrap (y9.2 - (1 : Int))) (fun v15 : Int => ∃ x16 : ByteArray × Int, (a.2 = a.2) ∧ ((y9.1.size + 1) = x16.1.size) ∧ (∀ i, i < x16.1.size → DEqs ((gapp (gstr y9.1) y9.1.size (fun _ => [.int .u8 (IntKind.u8.wrap v14)])) i) ((gstr x16.1) i)) ∧ (v15 = x16.2) ∧ ((y9.1.size + 1) = x16.1.size) ∧ I7 x16 ∧ μ8 x16 < μ8 y9)))) False)) ((y9.1.size = y9.1.size) ∧ (y9.1.size = ((putB a).size)) ∧ (∀ i, i < ((putB a).size) → DEqs ((gstr y9.1) i) ((gstr (putB a)) i)) ∧ True))))))
def f14.vc (a : ByteArray × Int) : Prop := (len64_pre a.2 ∧ (-9223372036854775808 ≤ ((len64 (a.2)) + (7 : Int)) ∧ ((len64 (a.2)) + (7 : Int)) ≤ 9223372036854775807 ∧ (0 ≤ ((len64 (a.2)) + (7 : Int)) ∧ ((len64 (a.2)) + (7 : Int)) ≤ 9223372036854775807 ∧ (own_pre a.1 ∧ (((ownB (a.1)).size) + 1 ≤ 1073741824 ∧ (-9223372036854775808 ≤ ((((len64 (a.2)) + (7 : Int)) / (8 : Int)) - (1 : Int)) ∧ ((((len64 (a.2)) + (7 : Int)) / (8 : Int)) - (1 : Int)) ≤ 9223372036854775807 ∧ (∃ (I7 : (ByteArray × Int) → Prop) (μ8 : (ByteArray × Int) → Nat), I7 ((ownB (a.1)) ++ (by1 (IntKind.u8.wrap (((len64 (a.2)) + (7 : Int)) / (8 : Int)))), ((((len64 (a.2)) + (7 : Int)) / (8 : Int)) - (1 : Int))) ∧ ∀ y9 : ByteArray × Int, I7 y9 → (((0 : Int) ≤ y9.2 → (-9223372036854775808 ≤ ((8 : Int) * y9.2) ∧ ((8 : Int) * y9.2) ≤ 9223372036854775807 ∧ (((0 : Int) ≤ ((8 : Int) * y9.2)) ∧ (y9.1.size + 1 ≤ 1073741824 ∧ (-9223372036854775808 ≤ (y9.2 - (1 : Int)) ∧ (y9.2 - (1 : Int)) ≤ 9223372036854775807 ∧ (I7 (y9.1 ++ (by1 (IntKind.u8.wrap (a.2 / (2 ^ min (Int.toNat ((8 : Int) * y9.2)) 64)))), (y9.2 - (1 : Int))) ∧ μ8 (y9.1 ++ (by1 (IntKind.u8.wrap (a.2 / (2 ^ min (Int.toNat ((8 : Int) * y9.2)) 64)))), (y9.2 - (1 : Int))) < μ8 y9)))))) ∧ (¬ ((0 : Int) ≤ y9.2) → (y9.1 = putB a))))))))))
set_option maxRecDepth 100000 in
set_option maxHeartbeats 2000000 in
theorem f14.of (a : ByteArray × Int) (h : f14.vc a) : f14.tree a := ⟨a.2, ⟨rfl, ⟨h.1, wrapK.i64 (fun h35 h36 k37 => divK.i64 k37.1 k37.2.1 (by decide) (⟨a.1, slK RdB.self (⟨k37.2.2.1, ⟨⟨rfl, (room_of k37.2.2.2.1 (by decide))⟩, wrapK.i64 (fun h31 h32 k33 => Exists.elim k33 (fun I7 h28_ => Exists.elim h28_ (fun μ8 h28 => ⟨I7, μ8, ⟨((ownB (a.1)) ++ (by1 (IntKind.u8.wrap (((len64 (a.2)) + (7 : Int)) / (8 : Int)))), ((((len64 (a.2)) + (7 : Int)) / (8 : Int)) - (1 : Int))), ⟨rfl, slK (RdB.app RdB.self (RdB.one (by first | exact u8w _ | exact u8b _ _ | exact u8bN _ _ | decide | omega))) (⟨rfl, ⟨(slN (RdB.app RdB.self (RdB.one (by first | exact u8w _ | exact u8b _ _ | exact u8bN _ _ | decide | omega)))), h28.1⟩⟩)⟩⟩, fun y9 h30 => br Cnd.dec (fun h10 k26 => wrapK.i64 (fun h22 h23 k24 => chk Cnd.dec (fun h13 k21 => fdivK (Int.le_of_lt (Int.pow_pos (by decide))) (⟨⟨rfl, (room_of k21.1 (by decide))⟩, wrapK.i64 (fun h18 h19 k20 => ⟨(y9.1 ++ (by1 (IntKind.u8.wrap (a.2 / (2 ^ min (Int.toNat ((8 : Int) * y9.2)) 64)))), (y9.2 - (1 : Int))), ⟨rfl, slK (RdB.app RdB.self (RdB.one (by first | exact u8w _ | exact u8b _ _ | exact u8bN _ _ | decide | omega))) (⟨rfl, ⟨(slN (RdB.app RdB.self (RdB.one (by first | exact u8w _ | exact u8b _ _ | exact u8bN _ _ | decide | omega)))), k20⟩⟩)⟩⟩) k21.2⟩)) k24) k26) (fun h11 k27 => ⟨rfl, slK (RdB.to RdB.self k27) (trivial)⟩) (h28.2 y9 h30)⟩))) k37.2.2.2.2⟩⟩)⟩)) h.2⟩⟩⟩
theorem f14.eq (a : ByteArray × Int) : (f14.af a).gives f14.env (f14.args a) (f14.blks a) (f14.res a) (f14.blks' a) = f14.tree a := by kernel_rfl
end Go.Abs

-- interregnum/interregnumlaw01.awake
namespace Go.Abs
open Go
def f13.args (a : Unit) : List D := []
def f13.blks (a : Unit) : List (List D) := []
def f13.res (a : Unit) : List D := [.bool (lawTrue a)]
def f13.blks' (a : Unit) : List (List D) := []
def f13.C : Contract := FnC f13.args f13.blks (fun _ => True) f13.res f13.blks'
end Go.Abs

/- interregnum/interregnumlaw01.awake -/
namespace Go.Abs
open Go
set_option linter.unusedVariables false
def f13.kills (a : Unit) : List Hint := []
def f13.cuts (a : Unit) : List (Nat × Σ β : Type, β → Tm) := []
def f13.af (a : Unit) : AF := AF.mk (.seq (.region [⟨(some 0), 0, .move, [.c (.bool false)], none⟩])
 (.seq (.region [⟨(some 2), 1, (.call false 14), [.c (.slice .full 1 0 gnil), .c (.int .u64 (300))], none⟩,
  ⟨(some 1), 5, .move, [.t 2], none⟩])
 (.seq (.region [⟨(some 3), 6, .move, [.t 1], none⟩,
  ⟨(some 4), 7, (.len false), [.t 3], none⟩,
  ⟨(some 5), 8, (.bin .eql), [.t 4, .c (.int .i64 (3))], none⟩,
  ⟨(some 6), 9, .move, [.t 5], none⟩,
  ⟨(some 7), 10, .move, [.t 1], (some (6, true))⟩,
  ⟨(some 8), 11, (.indexAddr 1 none), [.t 7, .c (.int .i64 (0))], (some (6, true))⟩,
  ⟨(some 9), 12, (.load false 1), [.t 8], (some (6, true))⟩,
  ⟨(some 10), 13, (.bin .eql), [.t 9, .c (.int .u8 (2))], (some (6, true))⟩,
  ⟨(some 11), 14, .pick, [.t 6, .t 10, .c (.bool false)], none⟩,
  ⟨(some 12), 15, .move, [.t 11], none⟩,
  ⟨(some 13), 16, .move, [.t 1], (some (12, true))⟩,
  ⟨(some 14), 17, (.indexAddr 1 none), [.t 13, .c (.int .i64 (1))], (some (12, true))⟩,
  ⟨(some 15), 18, (.load false 1), [.t 14], (some (12, true))⟩,
  ⟨(some 16), 19, (.bin .eql), [.t 15, .c (.int .u8 (1))], (some (12, true))⟩,
  ⟨(some 17), 20, .pick, [.t 12, .t 16, .c (.bool false)], none⟩,
  ⟨(some 18), 21, .move, [.t 17], none⟩,
  ⟨(some 19), 22, .move, [.t 1], (some (18, true))⟩,
  ⟨(some 20), 23, (.indexAddr 1 none), [.t 19, .c (.int .i64 (2))], (some (18, true))⟩,
  ⟨(some 21), 24, (.load false 1), [.t 20], (some (18, true))⟩,
  ⟨(some 22), 25, (.bin .eql), [.t 21, .c (.int .u8 (44))], (some (18, true))⟩,
  ⟨(some 23), 26, .pick, [.t 18, .t 22, .c (.bool false)], none⟩,
  ⟨(some 0), 27, .move, [.t 23], none⟩])
 (.ret))))
  [.tmp 0] 0 24
def f13.env : Env := [(14, f14.C)]
def f13.tree (a : Unit) : Prop := ∃ c1 : ByteArray × Int, (0 = c1.1.size) ∧ (∀ i, i < c1.1.size → DEqs (gnil i) ((gstr c1.1) i)) ∧ ((300 : Int) = c1.2) ∧ (put_pre c1) ∧ Br (((putB c1).size : Int) == (3 : Int)) (Br (decide ((0 : Int) ≤ (0 : Int)) && decide ((0 : Int) < ((putB c1).size : Int))) (Br ((bAt (putB c1) (0 : Int)) == (2 : Int)) (Br (decide ((0 : Int) ≤ (1 : Int)) && decide ((1 : Int) < ((putB c1).size : Int))) (Br ((bAt (putB c1) (1 : Int)) == (1 : Int)) (Br (decide ((0 : Int) ≤ (2 : Int)) && decide ((2 : Int) < ((putB c1).size : Int))) ((((bAt (putB c1) (2 : Int)) == (44 : Int)) = (lawTrue a)) ∧ True) False) ((false = (lawTrue a)) ∧ True)) False) ((false = (lawTrue a)) ∧ True)) False) ((false = (lawTrue a)) ∧ True)
def f13.vc (a : Unit) : Prop := (put_pre (ByteArray.empty, (300 : Int)) ∧ ((((putB (ByteArray.empty, (300 : Int))).size : Int) = (3 : Int) → ((0 : Int) < ((putB (ByteArray.empty, (300 : Int))).size : Int) ∧ (((bAt (putB (ByteArray.empty, (300 : Int))) (0 : Int)) = (2 : Int) → ((1 : Int) < ((putB (ByteArray.empty, (300 : Int))).size : Int) ∧ (((bAt (putB (ByteArray.empty, (300 : Int))) (1 : Int)) = (1 : Int) → ((2 : Int) < ((putB (ByteArray.empty, (300 : Int))).size : Int) ∧ (((bAt (putB (ByteArray.empty, (300 : Int))) (2 : Int)) == (44 : Int)) = lawTrue a))) ∧ (¬ ((bAt (putB (ByteArray.empty, (300 : Int))) (1 : Int)) = (1 : Int)) → (false = lawTrue a))))) ∧ (¬ ((bAt (putB (ByteArray.empty, (300 : Int))) (0 : Int)) = (2 : Int)) → (false = lawTrue a))))) ∧ (¬ (((putB (ByteArray.empty, (300 : Int))).size : Int) = (3 : Int)) → (false = lawTrue a))))
set_option maxRecDepth 100000 in
set_option maxHeartbeats 2000000 in
theorem f13.of (a : Unit) (h : f13.vc a) : f13.tree a := ⟨(ByteArray.empty, (300 : Int)), slK RdB.nil (⟨rfl, ⟨h.1, br Cnd.eq (fun h2 k22 => chk Cnd.ix (fun h4 k20 => br Cnd.eq (fun h5 k18 => chk Cnd.ix (fun h7 k16 => br Cnd.eq (fun h8 k14 => chk Cnd.ix (fun h10 k12 => ⟨k12, trivial⟩) ⟨⟨(by decide), k14.1⟩, k14.2⟩) (fun h9 k15 => ⟨k15, trivial⟩) k16) ⟨⟨(by decide), k18.1⟩, k18.2⟩) (fun h6 k19 => ⟨k19, trivial⟩) k20) ⟨⟨(by decide), k22.1⟩, k22.2⟩) (fun h3 k23 => ⟨k23, trivial⟩) h.2⟩⟩)⟩
theorem f13.eq (a : Unit) : (f13.af a).gives f13.env (f13.args a) (f13.blks a) (f13.res a) (f13.blks' a) = f13.tree a := by kernel_rfl
end Go.Abs

-- interregnum/pack.Take
namespace Go.Abs
open Go
def f18.args (a : ByteArray × Int) : List D := [.slice .ro 1 a.1.size (gstr a.1), .int .i64 a.2]
def f18.blks (a : ByteArray × Int) : List (List D) := []
def f18.res (a : ByteArray × Int) : List D := [.int .u64 ((takeN a).1), .int .i64 ((takeN a).2.1), .int .i64 ((takeN a).2.2)]
def f18.blks' (a : ByteArray × Int) : List (List D) := []
def f18.C : Contract := FnC f18.args f18.blks (fun a => take_pre a) f18.res f18.blks'
end Go.Abs

/- interregnum/pack.Take -/
namespace Go.Abs
open Go
set_option linter.unusedVariables false
def f18.kills (a : ByteArray × Int) : List Hint := [.tell (Int × Int × ByteArray × Int × Int) (fun x => ⟨[.dead, .int .i64 a.2, .dead, .dead, .dead, .dead, .dead, .dead, .int .i64 x.1, .int .u64 x.2.1, .dead, .dead, .dead, .dead, .dead, .dead, .dead, .dead, .dead, .dead, .dead, .dead, .dead, .dead, .dead, .dead, .dead, .dead, .dead, .dead, .dead, .dead, .dead, .dead, .dead, .dead, .dead, .dead, .dead, .dead, .dead, .dead, .dead, .dead, .dead, .dead, .dead, .dead, .dead, .dead, .slice .ro 1 x.2.2.1.size (gstr x.2.2.1), .int .i64 x.2.2.2.1, .int .i64 x.2.2.2.2, .dead, .dead, .dead, .dead, .dead, .dead, .dead, .dead, .dead, .dead, .dead, .dead, .dead, .dead], [], []⟩)]
def f18.cuts (a : ByteArray × Int) : List (Nat × Σ β : Type, β → Tm) := []
def f18.af (a : ByteArray × Int) : AF := AF.mk (.seq (.region [⟨(some 4), 0, .move, [.c (.int .u64 (0))], none⟩,
  ⟨(some 5), 1, .move, [.c (.int .i64 (0))], none⟩,
  ⟨(some 6), 2, .move, [.c (.int .i64 (0))], none⟩])
 (.seq (.seq (.region [⟨(some 12), 3, .move, [.t 1], none⟩,
  ⟨(some 13), 4, (.bin .lss), [.t 12, .c (.int .i64 (0))], none⟩,
  ⟨(some 14), 5, .move, [.t 13], none⟩,
  ⟨(some 15), 6, .move, [.t 1], (some (14, false))⟩,
  ⟨(some 16), 7, .move, [.t 0], (some (14, false))⟩,
  ⟨(some 17), 8, (.len false), [.t 16], (some (14, false))⟩,
  ⟨(some 18), 9, (.bin .gtr), [.t 15, .t 17], (some (14, false))⟩,
  ⟨(some 19), 10, .pick, [.t 14, .c (.bool true), .t 18], none⟩])
 (.cond (.t 19) (.seq (.region [⟨(some 4), 11, .move, [.c (.int .u64 (0))], none⟩,
  ⟨(some 5), 12, .move, [.c (.int .i64 (0))], none⟩,
  ⟨(some 6), 13, .move, [.c (.int .i64 (1))], none⟩])
 (.ret)) (.skip)))
 (.seq (.region [⟨(some 20), 14, .move, [.t 0], none⟩,
  ⟨(some 21), 15, .move, [.t 1], none⟩,
  ⟨(some 22), 16, (.sliceSl 1 true false false), [.t 20, .t 21], none⟩,
  ⟨(some 7), 17, .move, [.t 22], none⟩])
 (.seq (.seq (.region [⟨(some 23), 18, .move, [.t 7], none⟩,
  ⟨(some 24), 19, (.len false), [.t 23], none⟩,
  ⟨(some 25), 20, (.bin .eql), [.t 24, .c (.int .i64 (0))], none⟩])
 (.cond (.t 25) (.seq (.region [⟨(some 4), 21, .move, [.c (.int .u64 (0))], none⟩,
  ⟨(some 5), 22, .move, [.c (.int .i64 (0))], none⟩,
  ⟨(some 6), 23, .move, [.c (.int .i64 (2))], none⟩])
 (.ret)) (.skip)))
 (.seq (.region [⟨(some 26), 24, .move, [.t 7], none⟩,
  ⟨(some 27), 25, (.indexAddr 1 none), [.t 26, .c (.int .i64 (0))], none⟩,
  ⟨(some 28), 26, (.load false 1), [.t 27], none⟩,
  ⟨(some 29), 27, (.conv (.int .i64)), [.t 28], none⟩,
  ⟨(some 8), 28, .move, [.t 29], none⟩])
 (.seq (.block 0 (.seq (.region [⟨(some 31), 29, .move, [.t 8], none⟩,
  ⟨(some 32), 30, (.bin .gtr), [.t 31, .c (.int .i64 (8))], none⟩,
  ⟨(some 30), 31, .move, [.t 32], none⟩])
 (.cond (.t 30) (.seq (.region [⟨(some 4), 32, .move, [.c (.int .u64 (0))], none⟩,
  ⟨(some 5), 33, .move, [.c (.int .i64 (0))], none⟩,
  ⟨(some 6), 34, .move, [.c (.int .i64 (3))], none⟩])
 (.ret)) (.seq (.region [⟨(some 34), 35, .move, [.t 7], none⟩,
  ⟨(some 35), 36, (.len false), [.t 34], none⟩,
  ⟨(some 36), 37, .move, [.t 8], none⟩,
  ⟨(some 37), 38, (.bin .leq), [.t 35, .t 36], none⟩,
  ⟨(some 33), 39, .move, [.t 37], none⟩])
 (.cond (.t 33) (.seq (.region [⟨(some 4), 40, .move, [.c (.int .u64 (0))], none⟩,
  ⟨(some 5), 41, .move, [.c (.int .i64 (0))], none⟩,
  ⟨(some 6), 42, .move, [.c (.int .i64 (2))], none⟩])
 (.ret)) (.seq (.region [⟨(some 39), 43, .move, [.t 8], none⟩,
  ⟨(some 40), 44, (.bin .gtr), [.t 39, .c (.int .i64 (0))], none⟩,
  ⟨(some 41), 45, .move, [.t 40], none⟩,
  ⟨(some 42), 46, .move, [.t 7], (some (41, true))⟩,
  ⟨(some 43), 47, (.indexAddr 1 none), [.t 42, .c (.int .i64 (1))], (some (41, true))⟩,
  ⟨(some 44), 48, (.load false 1), [.t 43], (some (41, true))⟩,
  ⟨(some 45), 49, (.bin .eql), [.t 44, .c (.int .u8 (0))], (some (41, true))⟩,
  ⟨(some 46), 50, .pick, [.t 41, .t 45, .c (.bool false)], none⟩,
  ⟨(some 38), 51, .move, [.t 46], none⟩])
 (.cond (.t 38) (.seq (.region [⟨(some 4), 52, .move, [.c (.int .u64 (0))], none⟩,
  ⟨(some 5), 53, .move, [.c (.int .i64 (0))], none⟩,
  ⟨(some 6), 54, .move, [.c (.int .i64 (3))], none⟩])
 (.ret)) (.skip))))))))
 (.seq (.region [⟨(some 9), 55, .move, [.c (.int .u64 (0))], none⟩])
 (.seq (.seq (.region [⟨(some 47), 56, .move, [.t 7], none⟩,
  ⟨(some 48), 57, .move, [.t 8], none⟩,
  ⟨(some 49), 58, (.bin .add), [.t 48, .c (.int .i64 (1))], none⟩,
  ⟨(some 50), 59, (.sliceSl 1 true true false), [.t 47, .c (.int .i64 (1)), .t 49], none⟩,
  ⟨(some 51), 60, (.len false), [.t 50], none⟩,
  ⟨(some 52), 61, .move, [.c (.int .i64 (0))], none⟩])
 (.block 1 (.loopT (Int × Int × ByteArray × Int × Int) (fun x => ⟨[.dead, .int .i64 a.2, .dead, .dead, .dead, .dead, .dead, .dead, .int .i64 x.1, .int .u64 x.2.1, .dead, .dead, .dead, .dead, .dead, .dead, .dead, .dead, .dead, .dead, .dead, .dead, .dead, .dead, .dead, .dead, .dead, .dead, .dead, .dead, .dead, .dead, .dead, .dead, .dead, .dead, .dead, .dead, .dead, .dead, .dead, .dead, .dead, .dead, .dead, .dead, .dead, .dead, .dead, .dead, .slice .ro 1 x.2.2.1.size (gstr x.2.2.1), .int .i64 x.2.2.2.1, .int .i64 x.2.2.2.2, .dead, .dead, .dead, .dead, .dead, .dead, .dead, .dead, .dead, .dead, .dead, .dead, .dead, .dead], [], []⟩) 62 74 (.seq (.region [⟨(some 53), 62, (.bin .lss), [.t 52, .t 51], none⟩])
 (.seq (.cond (.t 53) (.skip) (.exit 1))
 (.seq (.block 2 (.seq (.region [⟨(some 54), 63, (.indexAddr 1 none), [.t 50, .t 52], none⟩,
  ⟨(some 55), 64, (.load false 1), [.t 54], none⟩,
  ⟨(some 11), 65, .move, [.t 55], none⟩])
 (.region [⟨(some 56), 66, .move, [.t 9], none⟩,
  ⟨(some 57), 67, (.bin .shl), [.t 56, .c (.int .u64 (8))], none⟩,
  ⟨(some 58), 68, .move, [.t 11], none⟩,
  ⟨(some 59), 69, (.conv (.int .u64)), [.t 58], none⟩,
  ⟨(some 60), 70, (.bin .or), [.t 57, .t 59], none⟩,
  ⟨(some 9), 71, .move, [.t 60], none⟩])))
 (.region [⟨(some 61), 72, (.bin .add), [.t 52, .c (.int .i64 (1))], none⟩,
  ⟨(some 52), 73, .move, [.t 61], none⟩])))))))
 (.seq (.region [⟨(some 62), 74, .move, [.t 9], none⟩,
  ⟨(some 63), 75, .move, [.t 1], none⟩,
  ⟨(some 64), 76, .move, [.t 8], none⟩,
  ⟨(some 65), 77, (.bin .add), [.t 63, .t 64], none⟩,
  ⟨(some 66), 78, (.bin .add), [.t 65, .c (.int .i64 (1))], none⟩,
  ⟨(some 4), 79, .move, [.t 62], none⟩,
  ⟨(some 5), 80, .move, [.t 66], none⟩,
  ⟨(some 6), 81, .move, [.c (.int .i64 (0))], none⟩])
 (.ret))))))))))
  [.tmp 4, .tmp 5, .tmp 6] 0 65
def f18.env : Env := []
def f18.tree (a : ByteArray × Int) : Prop := Br (decide (a.2 < (0 : Int))) (((0 : Int) = ((takeN a).1)) ∧ ((0 : Int) = ((takeN a).2.1)) ∧ ((1 : Int) = ((takeN a).2.2)) ∧ True) (Br (decide ((a.1.size : Int) < a.2)) (((0 : Int) = ((takeN a).1)) ∧ ((0 : Int) = ((takeN a).2.1)) ∧ ((1 : Int) = ((takeN a).2.2)) ∧ True) (Br (decide ((0 : Int) ≤ a.2) && decide (a.2 ≤ (a.1.size : Int)) && decide ((a.1.size : Int) ≤ (a.1.size : Int)) && ((a.1.size : Int) == (a.1.size : Int))) (Br ((Int.toNat ((a.1.size : Int) - a.2) : Int) == (0 : Int)) (((0 : Int) = ((takeN a).1)) ∧ ((0 : Int) = ((takeN a).2.1)) ∧ ((2 : Int) = ((takeN a).2.2)) ∧ True) (Br (decide ((0 : Int) ≤ (0 : Int)) && decide ((0 : Int) < (Int.toNat ((a.1.size : Int) - a.2) : Int))) (Let (IntKind.i64.wrap (bAtN a.1 (Int.toNat (0 : Int) + (Int.toNat a.2)))) (fun v12 : Int => Br (decide ((8 : Int) < v12)) (((0 : Int) = ((takeN a).1)) ∧ ((0 : Int) = ((takeN a).2.1)) ∧ ((3 : Int) = ((takeN a).2.2)) ∧ True) (Br (decide ((Int.toNat ((a.1.size : Int) - a.2) : Int) ≤ v12)) (((0 : Int) = ((takeN a).1)) ∧ ((0 : Int) = ((takeN a).2.1)) ∧ ((2 : Int) = ((takeN a).2.2)) ∧ True) (Br (decide ((0 : Int) < v12)) (Br (decide ((0 : Int) ≤ (1 : Int)) && decide ((1 : Int) < (Int.toNat ((a.1.size : Int) - a.2) : Int))) (Br ((bAtN a.1 (Int.toNat (1 : Int) + (Int.toNat a.2))) == (0 : Int)) (((0 : Int) = ((takeN a).1)) ∧ ((0 : Int) = ((takeN a).2.1)) ∧ ((3 : Int) = ((takeN a).2.2)) ∧ True) (Let (IntKind.i64.wrap (v12 + (1 : Int))) (fun v25 : Int => Br (decide ((0 : Int) ≤ (1 : Int)) && decide ((1 : Int) ≤ v25) && decide (v25 ≤ (Int.toNat ((a.1.size : Int) - a.2) : Int)) && (v25 == v25)) (∃ (I28 : (Int × Int × ByteArray × Int × Int) → Prop) (μ29 : (Int × Int × ByteArray × Int × Int) → Nat), (∃ x27 : Int × Int × ByteArray × Int × Int, (a.2 = a.2) ∧ (v12 = x27.1) ∧ ((0 : Int) = x27.2.1) ∧ ((Int.toNat (v25 - (1 : Int))) = x27.2.2.1.size) ∧ (∀ i, i < x27.2.2.1.size → DEqs ((gsub (gsub (gstr a.1) (Int.toNat a.2)) 1) i) ((gstr x27.2.2.1) i)) ∧ ((Int.toNat (v25 - (1 : Int)) : Int) = x27.2.2.2.1) ∧ ((0 : Int) = x27.2.2.2.2) ∧ I28 x27) ∧ ∀ y30 : Int × Int × ByteArray × Int × Int, I28 y30 → (Br (decide (y30.2.2.2.2 < y30.2.2.2.1)) (Br (decide ((0 : Int) ≤ y30.2.2.2.2) && decide (y30.2.2.2.2 < (y30.2.2.1.size : Int))) (Let (IntKind.u64.wrap (bAt y30.2.2.1 y30.2.2.2.2)) (fun v34 : Int => Let (IntKind.i64.wrap (y30.2.2.2.2 + (1 : Int))) (fun v35 : Int => ∃ x36 : Int × Int × ByteArray × Int × Int, (a.2 = a.2) ∧ (y30.1 = x36.1) ∧ ((IntKind.u64.wrap ((BitVec.ofInt 64 (IntKind.u64.wrap (y30.2.1 * 256)) ||| BitVec.ofInt 64 v34).toNat : Int)) = x36.2.1) ∧ (y30.2.2.1.size = x36.2.2.1.size) ∧ (∀ i, i < x36.2.2.1.size → DEqs ((gstr y30.2.2.1) i) ((gstr x36.2.2.1) i)) ∧ (y30.2.2.2.1 = x36.2.2.2.1) ∧ (v35 = x36.2.2.2.2) ∧ I28 x36 ∧ μ29 x36 < μ29 y30))) False) (Let (IntKind.i64.wrap (a.2 + y30.1)) (fun v45 : Int => Let (IntKind.i64.wrap (v45 + (1 : Int))) (fun v46 : Int => (y30.2.1 = ((takeN a).1)) ∧ (v46 = ((takeN a).2.1)) ∧ ((0 : Int) = ((takeN a).2.2)) ∧ True))))) False))) False) (Let (IntKind.i64.wrap (v12 + (1 : Int))) (fun v66 : Int => Br (decide ((0 : Int) ≤ (1 : Int)) && decide ((1 : Int) ≤ v66) && decide (v66 ≤ (Int.toNat ((a.1.size : Int) - a.2) : Int)) && (v66 == v66)) (∃ (I69 : (Int × Int × ByteArray × Int × Int) → Prop) (μ70 : (Int × Int × ByteArray × Int × Int) → Nat), (∃ x68 : Int × Int × ByteArray × Int × Int, (a.2 = a.2) ∧ (v12 = x68.1) ∧ ((0 : Int) = x68.2.1) ∧ ((Int.toNat (v66 - (1 : Int))) = x68.2.2.1.size) ∧ (∀ i, i < x68.2.2.1.size → DEqs ((gsub (gsub (gstr a.1) (Int.toNat a.2)) 1) i) ((gstr x68.2.2.1) i)) ∧ ((Int.toNat (v66 - (1 : Int)) : Int) = x68.2.2.2.1) ∧ ((0 : Int) = x68.2.2.2.2) ∧ I69 x68) ∧ ∀ y71 : Int × Int × ByteArray × Int × Int, I69 y71 → (Br (decide (y71.2.2.2.2 < y71.2.2.2.1)) (Br (decide ((0 : Int) ≤ y71.2.2.2.2) && decide (y71.2.2.2.2 < (y71.2.2.1.size : Int))) (Let (IntKind.u64.wrap (bAt y71.2.2.1 y71.2.2.2.2)) (fun v75 : Int => Let (IntKind.i64.wrap (y71.2.2.2.2 + (1 : Int))) (fun v76 : Int => ∃ x77 : Int × Int × ByteArray × Int × Int, (a.2 = a.2) ∧ (y71.1 = x77.1) ∧ ((IntKind.u64.wrap ((BitVec.ofInt 64 (IntKind.u64.wrap (y71.2.1 * 256)) ||| BitVec.ofInt 64 v75).toNat : Int)) = x77.2.1) ∧ (y71.2.2.1.size = x77.2.2.1.size) ∧ (∀ i, i < x77.2.2.1.size → DEqs ((gstr y71.2.2.1) i) ((gstr x77.2.2.1) i)) ∧ (y71.2.2.2.1 = x77.2.2.2.1) ∧ (v76 = x77.2.2.2.2) ∧ I69 x77 ∧ μ70 x77 < μ70 y71))) False) (Let (IntKind.i64.wrap (a.2 + y71.1)) (fun v86 : Int => Let (IntKind.i64.wrap (v86 + (1 : Int))) (fun v87 : Int => (y71.2.1 = ((takeN a).1)) ∧ (v87 = ((takeN a).2.1)) ∧ ((0 : Int) = ((takeN a).2.2)) ∧ True))))) False)))))) False)) False))
def f18.vc (a : ByteArray × Int) : Prop := ((a.2 < (0 : Int) → (((0 : Int), (0 : Int), (1 : Int)) = takeN a)) ∧ (¬ (a.2 < (0 : Int)) → (((a.1.size : Int) < a.2 → (((0 : Int), (0 : Int), (1 : Int)) = takeN a)) ∧ (¬ ((a.1.size : Int) < a.2) → ((0 : Int) ≤ a.2 ∧ a.2 ≤ (a.1.size : Int) ∧ (((Int.toNat ((a.1.size : Int) - a.2) : Int) = (0 : Int) → (((0 : Int), (0 : Int), (2 : Int)) = takeN a)) ∧ (¬ ((Int.toNat ((a.1.size : Int) - a.2) : Int) = (0 : Int)) → ((0 : Int) < (Int.toNat ((a.1.size : Int) - a.2) : Int) ∧ (((8 : Int) < (bAtN a.1 (Int.toNat (0 : Int) + (Int.toNat a.2))) → (((0 : Int), (0 : Int), (3 : Int)) = takeN a)) ∧ (¬ ((8 : Int) < (bAtN a.1 (Int.toNat (0 : Int) + (Int.toNat a.2)))) → (((Int.toNat ((a.1.size : Int) - a.2) : Int) ≤ (bAtN a.1 (Int.toNat (0 : Int) + (Int.toNat a.2))) → (((0 : Int), (0 : Int), (2 : Int)) = takeN a)) ∧ (¬ ((Int.toNat ((a.1.size : Int) - a.2) : Int) ≤ (bAtN a.1 (Int.toNat (0 : Int) + (Int.toNat a.2)))) → (((0 : Int) < (bAtN a.1 (Int.toNat (0 : Int) + (Int.toNat a.2))) → ((1 : Int) < (Int.toNat ((a.1.size : Int) - a.2) : Int) ∧ (((bAtN a.1 (Int.toNat (1 : Int) + (Int.toNat a.2))) = (0 : Int) → (((0 : Int), (0 : Int), (3 : Int)) = takeN a)) ∧ (¬ ((bAtN a.1 (Int.toNat (1 : Int) + (Int.toNat a.2))) = (0 : Int)) → (-9223372036854775808 ≤ ((bAtN a.1 (Int.toNat (0 : Int) + (Int.toNat a.2))) + (1 : Int)) ∧ ((bAtN a.1 (Int.toNat (0 : Int) + (Int.toNat a.2))) + (1 : Int)) ≤ 9223372036854775807 ∧ ((1 : Int) ≤ ((bAtN a.1 (Int.toNat (0 : Int) + (Int.toNat a.2))) + (1 : Int)) ∧ ((bAtN a.1 (Int.toNat (0 : Int) + (Int.toNat a.2))) + (1 : Int)) ≤ (Int.toNat ((a.1.size : Int) - a.2) : Int) ∧ (∃ (I28 : (Int × Int × ByteArray × Int × Int) → Prop) (μ29 : (Int × Int × ByteArray × Int × Int) → Nat), I28 ((bAtN a.1 (Int.toNat (0 : Int) + (Int.toNat a.2))), (0 : Int), (subB (subB a.1 a.2 (a.1.size : Int)) (1 : Int) ((bAtN a.1 (Int.toNat (0 : Int) + (Int.toNat a.2))) + (1 : Int))), (Int.toNat (((bAtN a.1 (Int.toNat (0 : Int) + (Int.toNat a.2))) + (1 : Int)) - (1 : Int)) : Int), (0 : Int)) ∧ ∀ y30 : Int × Int × ByteArray × Int × Int, I28 y30 → ((y30.2.2.2.2 < y30.2.2.2.1 → ((0 : Int) ≤ y30.2.2.2.2 ∧ y30.2.2.2.2 < (y30.2.2.1.size : Int) ∧ (-9223372036854775808 ≤ (y30.2.2.2.2 + (1 : Int)) ∧ (y30.2.2.2.2 + (1 : Int)) ≤ 9223372036854775807 ∧ (I28 (y30.1, IntKind.u64.wrap ((BitVec.ofInt 64 (IntKind.u64.wrap (y30.2.1 * 256)) ||| BitVec.ofInt 64 (bAt y30.2.2.1 y30.2.2.2.2)).toNat : Int), y30.2.2.1, y30.2.2.2.1, (y30.2.2.2.2 + (1 : Int))) ∧ μ29 (y30.1, IntKind.u64.wrap ((BitVec.ofInt 64 (IntKind.u64.wrap (y30.2.1 * 256)) ||| BitVec.ofInt 64 (bAt y30.2.2.1 y30.2.2.2.2)).toNat : Int), y30.2.2.1, y30.2.2.2.1, (y30.2.2.2.2 + (1 : Int))) < μ29 y30)))) ∧ (¬ (y30.2.2.2.2 < y30.2.2.2.1) → (-9223372036854775808 ≤ (a.2 + y30.1) ∧ (a.2 + y30.1) ≤ 9223372036854775807 ∧ (-9223372036854775808 ≤ ((a.2 + y30.1) + (1 : Int)) ∧ ((a.2 + y30.1) + (1 : Int)) ≤ 9223372036854775807 ∧ ((y30.2.1, ((a.2 + y30.1) + (1 : Int)), (0 : Int)) = takeN a)))))))))))) ∧ (¬ ((0 : Int) < (bAtN a.1 (Int.toNat (0 : Int) + (Int.toNat a.2)))) → (-9223372036854775808 ≤ ((bAtN a.1 (Int.toNat (0 : Int) + (Int.toNat a.2))) + (1 : Int)) ∧ ((bAtN a.1 (Int.toNat (0 : Int) + (Int.toNat a.2))) + (1 : Int)) ≤ 9223372036854775807 ∧ ((1 : Int) ≤ ((bAtN a.1 (Int.toNat (0 : Int) + (Int.toNat a.2))) + (1 : Int)) ∧ ((bAtN a.1 (Int.toNat (0 : Int) + (Int.toNat a.2))) + (1 : Int)) ≤ (Int.toNat ((a.1.size : Int) - a.2) : Int) ∧ (∃ (I69 : (Int × Int × ByteArray × Int × Int) → Prop) (μ70 : (Int × Int × ByteArray × Int × Int) → Nat), I69 ((bAtN a.1 (Int.toNat (0 : Int) + (Int.toNat a.2))), (0 : Int), (subB (subB a.1 a.2 (a.1.size : Int)) (1 : Int) ((bAtN a.1 (Int.toNat (0 : Int) + (Int.toNat a.2))) + (1 : Int))), (Int.toNat (((bAtN a.1 (Int.toNat (0 : Int) + (Int.toNat a.2))) + (1 : Int)) - (1 : Int)) : Int), (0 : Int)) ∧ ∀ y71 : Int × Int × ByteArray × Int × Int, I69 y71 → ((y71.2.2.2.2 < y71.2.2.2.1 → ((0 : Int) ≤ y71.2.2.2.2 ∧ y71.2.2.2.2 < (y71.2.2.1.size : Int) ∧ (-9223372036854775808 ≤ (y71.2.2.2.2 + (1 : Int)) ∧ (y71.2.2.2.2 + (1 : Int)) ≤ 9223372036854775807 ∧ (I69 (y71.1, IntKind.u64.wrap ((BitVec.ofInt 64 (IntKind.u64.wrap (y71.2.1 * 256)) ||| BitVec.ofInt 64 (bAt y71.2.2.1 y71.2.2.2.2)).toNat : Int), y71.2.2.1, y71.2.2.2.1, (y71.2.2.2.2 + (1 : Int))) ∧ μ70 (y71.1, IntKind.u64.wrap ((BitVec.ofInt 64 (IntKind.u64.wrap (y71.2.1 * 256)) ||| BitVec.ofInt 64 (bAt y71.2.2.1 y71.2.2.2.2)).toNat : Int), y71.2.2.1, y71.2.2.2.1, (y71.2.2.2.2 + (1 : Int))) < μ70 y71)))) ∧ (¬ (y71.2.2.2.2 < y71.2.2.2.1) → (-9223372036854775808 ≤ (a.2 + y71.1) ∧ (a.2 + y71.1) ≤ 9223372036854775807 ∧ (-9223372036854775808 ≤ ((a.2 + y71.1) + (1 : Int)) ∧ ((a.2 + y71.1) + (1 : Int)) ≤ 9223372036854775807 ∧ ((y71.2.1, ((a.2 + y71.1) + (1 : Int)), (0 : Int)) = takeN a))))))))))))))))))))))
set_option maxRecDepth 100000 in
set_option maxHeartbeats 2000000 in
theorem f18.of (a : ByteArray × Int) (h : f18.vc a) : f18.tree a := br Cnd.dec (fun h1 k119 => ⟨(congrArg (fun x : Int × Int × Int => x.1) k119 :), ⟨(congrArg (fun x : Int × Int × Int => x.2.1) k119 :), ⟨(congrArg (fun x : Int × Int × Int => x.2.2) k119 :), trivial⟩⟩⟩) (fun h2 k120 => br Cnd.dec (fun h4 k117 => ⟨(congrArg (fun x : Int × Int × Int => x.1) k117 :), ⟨(congrArg (fun x : Int × Int × Int => x.2.1) k117 :), ⟨(congrArg (fun x : Int × Int × Int => x.2.2) k117 :), trivial⟩⟩⟩) (fun h5 k118 => chk Cnd.sl (fun h7 k116 => br Cnd.eq (fun h8 k114 => ⟨(congrArg (fun x : Int × Int × Int => x.1) k114 :), ⟨(congrArg (fun x : Int × Int × Int => x.2.1) k114 :), ⟨(congrArg (fun x : Int × Int × Int => x.2.2) k114 :), trivial⟩⟩⟩) (fun h9 k115 => chk Cnd.ix (fun h11 k113 => wrapR.i64 (u8bN _ _) (br Cnd.dec (fun h13 k108 => ⟨(congrArg (fun x : Int × Int × Int => x.1) k108 :), ⟨(congrArg (fun x : Int × Int × Int => x.2.1) k108 :), ⟨(congrArg (fun x : Int × Int × Int => x.2.2) k108 :), trivial⟩⟩⟩) (fun h14 k109 => br Cnd.dec (fun h16 k106 => ⟨(congrArg (fun x : Int × Int × Int => x.1) k106 :), ⟨(congrArg (fun x : Int × Int × Int => x.2.1) k106 :), ⟨(congrArg (fun x : Int × Int × Int => x.2.2) k106 :), trivial⟩⟩⟩) (fun h17 k107 => br Cnd.dec (fun h19 k104 => chk Cnd.ix (fun h21 k65 => br Cnd.eq (fun h22 k63 => ⟨(congrArg (fun x : Int × Int × Int => x.1) k63 :), ⟨(congrArg (fun x : Int × Int × Int => x.2.1) k63 :), ⟨(congrArg (fun x : Int × Int × Int => x.2.2) k63 :), trivial⟩⟩⟩) (fun h23 k64 => wrapK.i64 (fun h60 h61 k62 => chk Cnd.sl (fun h26 k59 => Exists.elim k59 (fun I28 h56_ => Exists.elim h56_ (fun μ29 h56 => ⟨I28, μ29, ⟨((bAtN a.1 (Int.toNat (0 : Int) + (Int.toNat a.2))), (0 : Int), (subB (subB a.1 a.2 (a.1.size : Int)) (1 : Int) ((bAtN a.1 (Int.toNat (0 : Int) + (Int.toNat a.2))) + (1 : Int))), (Int.toNat (((bAtN a.1 (Int.toNat (0 : Int) + (Int.toNat a.2))) + (1 : Int)) - (1 : Int)) : Int), (0 : Int)), ⟨rfl, ⟨rfl, ⟨rfl, slK (RdB.sub (RdB.sub RdB.self h7) h26) (⟨rfl, ⟨rfl, h56.1⟩⟩)⟩⟩⟩⟩, fun y30 h58 => br Cnd.dec (fun h31 k54 => chk Cnd.ix (fun h33 k44 => wrapR.u64 (u8b _ _) (wrapK.i64 (fun h38 h39 k40 => ⟨(y30.1, IntKind.u64.wrap ((BitVec.ofInt 64 (IntKind.u64.wrap (y30.2.1 * 256)) ||| BitVec.ofInt 64 (bAt y30.2.2.1 y30.2.2.2.2)).toNat : Int), y30.2.2.1, y30.2.2.2.1, (y30.2.2.2.2 + (1 : Int))), ⟨rfl, ⟨rfl, ⟨rfl, slK RdB.self (⟨rfl, ⟨rfl, k40⟩⟩)⟩⟩⟩⟩) k44)) ⟨⟨k54.1, k54.2.1⟩, k54.2.2⟩) (fun h32 k55 => wrapK.i64 (fun h51 h52 k53 => wrapK.i64 (fun h48 h49 k50 => ⟨(congrArg (fun x : Int × Int × Int => x.1) k50 :), ⟨(congrArg (fun x : Int × Int × Int => x.2.1) k50 :), ⟨(congrArg (fun x : Int × Int × Int => x.2.2) k50 :), trivial⟩⟩⟩) k53) k55) (h56.2 y30 h58)⟩))) ⟨⟨(by decide), k62.1, k62.2.1⟩, k62.2.2⟩) k64) k65) ⟨⟨(by decide), k104.1⟩, k104.2⟩) (fun h20 k105 => wrapK.i64 (fun h101 h102 k103 => chk Cnd.sl (fun h67 k100 => Exists.elim k100 (fun I69 h97_ => Exists.elim h97_ (fun μ70 h97 => ⟨I69, μ70, ⟨((bAtN a.1 (Int.toNat (0 : Int) + (Int.toNat a.2))), (0 : Int), (subB (subB a.1 a.2 (a.1.size : Int)) (1 : Int) ((bAtN a.1 (Int.toNat (0 : Int) + (Int.toNat a.2))) + (1 : Int))), (Int.toNat (((bAtN a.1 (Int.toNat (0 : Int) + (Int.toNat a.2))) + (1 : Int)) - (1 : Int)) : Int), (0 : Int)), ⟨rfl, ⟨rfl, ⟨rfl, slK (RdB.sub (RdB.sub RdB.self h7) h67) (⟨rfl, ⟨rfl, h97.1⟩⟩)⟩⟩⟩⟩, fun y71 h99 => br Cnd.dec (fun h72 k95 => chk Cnd.ix (fun h74 k85 => wrapR.u64 (u8b _ _) (wrapK.i64 (fun h79 h80 k81 => ⟨(y71.1, IntKind.u64.wrap ((BitVec.ofInt 64 (IntKind.u64.wrap (y71.2.1 * 256)) ||| BitVec.ofInt 64 (bAt y71.2.2.1 y71.2.2.2.2)).toNat : Int), y71.2.2.1, y71.2.2.2.1, (y71.2.2.2.2 + (1 : Int))), ⟨rfl, ⟨rfl, ⟨rfl, slK RdB.self (⟨rfl, ⟨rfl, k81⟩⟩)⟩⟩⟩⟩) k85)) ⟨⟨k95.1, k95.2.1⟩, k95.2.2⟩) (fun h73 k96 => wrapK.i64 (fun h92 h93 k94 => wrapK.i64 (fun h89 h90 k91 => ⟨(congrArg (fun x : Int × Int × Int => x.1) k91 :), ⟨(congrArg (fun x : Int × Int × Int => x.2.1) k91 :), ⟨(congrArg (fun x : Int × Int × Int => x.2.2) k91 :), trivial⟩⟩⟩) k94) k96) (h97.2 y71 h99)⟩))) ⟨⟨(by decide), k103.1, k103.2.1⟩, k103.2.2⟩) k105) k107) k109) k113)) ⟨⟨(by decide), k115.1⟩, k115.2⟩) k116) ⟨⟨k118.1, k118.2.1, (Int.le_refl _)⟩, k118.2.2⟩) k120) h
theorem f18.eq (a : ByteArray × Int) : (f18.af a).gives f18.env (f18.args a) (f18.blks a) (f18.res a) (f18.blks' a) = f18.tree a := by kernel_rfl
end Go.Abs

-- interregnum/pack.TakeText
namespace Go.Abs
open Go
def f20.args (a : ByteArray × Int × Int) : List D := [.slice .ro 1 a.1.size (gstr a.1), .int .i64 a.2.1, .int .i64 a.2.2]
def f20.blks (a : ByteArray × Int × Int) : List (List D) := []
def f20.res (a : ByteArray × Int × Int) : List D := [.str ((takeText a).1), .int .i64 ((takeText a).2.1), .int .i64 ((takeText a).2.2)]
def f20.blks' (a : ByteArray × Int × Int) : List (List D) := []
def f20.C : Contract := FnC f20.args f20.blks (fun a => takeText_pre a) f20.res f20.blks'
end Go.Abs

/- interregnum/pack.TakeText -/
namespace Go.Abs
open Go
set_option linter.unusedVariables false
def f20.kills (a : ByteArray × Int × Int) : List Hint := []
def f20.cuts (a : ByteArray × Int × Int) : List (Nat × Σ β : Type, β → Tm) := []
def f20.af (a : ByteArray × Int × Int) : AF := AF.mk (.seq (.region [⟨(some 6), 0, .move, [.c (.str ByteArray.empty)], none⟩,
  ⟨(some 7), 1, .move, [.c (.int .i64 (0))], none⟩,
  ⟨(some 8), 2, .move, [.c (.int .i64 (0))], none⟩])
 (.seq (.seq (.region [⟨(some 12), 3, .move, [.t 2], none⟩,
  ⟨(some 13), 4, (.bin .lss), [.t 12, .c (.int .i64 (0))], none⟩])
 (.cond (.t 13) (.seq (.region [⟨(some 6), 5, .move, [.c (.str ByteArray.empty)], none⟩,
  ⟨(some 7), 6, .move, [.c (.int .i64 (0))], none⟩,
  ⟨(some 8), 7, .move, [.c (.int .i64 (1))], none⟩])
 (.ret)) (.skip)))
 (.seq (.region [⟨(some 15), 8, .move, [.t 0], none⟩,
  ⟨(some 16), 9, .move, [.t 1], none⟩,
  ⟨(some 17), 10, (.call false 18), [.t 15, .t 16], none⟩,
  ⟨(some 14), 14, .move, [.t 17], none⟩,
  ⟨(some 18), 15, (.extract 0), [.t 14], none⟩,
  ⟨(some 19), 16, (.extract 1), [.t 14], none⟩,
  ⟨(some 20), 17, (.extract 2), [.t 14], none⟩,
  ⟨(some 9), 18, .move, [.t 18], none⟩,
  ⟨(some 10), 19, .move, [.t 19], none⟩,
  ⟨(some 11), 20, .move, [.t 20], none⟩])
 (.seq (.block 0 (.seq (.region [⟨(some 22), 21, .move, [.t 11], none⟩,
  ⟨(some 23), 22, (.bin .neq), [.t 22, .c (.int .i64 (0))], none⟩,
  ⟨(some 21), 23, .move, [.t 23], none⟩])
 (.cond (.t 21) (.seq (.region [⟨(some 24), 24, .move, [.t 11], none⟩,
  ⟨(some 6), 25, .move, [.c (.str ByteArray.empty)], none⟩,
  ⟨(some 7), 26, .move, [.c (.int .i64 (0))], none⟩,
  ⟨(some 8), 27, .move, [.t 24], none⟩])
 (.ret)) (.seq (.region [⟨(some 26), 28, .move, [.t 9], none⟩,
  ⟨(some 27), 29, .move, [.t 2], none⟩,
  ⟨(some 28), 30, (.conv (.int .u64)), [.t 27], none⟩,
  ⟨(some 29), 31, (.bin .gtr), [.t 26, .t 28], none⟩,
  ⟨(some 25), 32, .move, [.t 29], none⟩])
 (.cond (.t 25) (.seq (.region [⟨(some 6), 33, .move, [.c (.str ByteArray.empty)], none⟩,
  ⟨(some 7), 34, .move, [.c (.int .i64 (0))], none⟩,
  ⟨(some 8), 35, .move, [.c (.int .i64 (4))], none⟩])
 (.ret)) (.seq (.region [⟨(some 31), 36, .move, [.t 9], none⟩,
  ⟨(some 32), 37, .move, [.t 0], none⟩,
  ⟨(some 33), 38, (.len false), [.t 32], none⟩,
  ⟨(some 34), 39, .move, [.t 10], none⟩,
  ⟨(some 35), 40, (.bin .sub), [.t 33, .t 34], none⟩,
  ⟨(some 36), 41, (.conv (.int .u64)), [.t 35], none⟩,
  ⟨(some 37), 42, (.bin .gtr), [.t 31, .t 36], none⟩,
  ⟨(some 30), 43, .move, [.t 37], none⟩])
 (.cond (.t 30) (.seq (.region [⟨(some 6), 44, .move, [.c (.str ByteArray.empty)], none⟩,
  ⟨(some 7), 45, .move, [.c (.int .i64 (0))], none⟩,
  ⟨(some 8), 46, .move, [.c (.int .i64 (2))], none⟩])
 (.ret)) (.skip))))))))
 (.seq (.region [⟨(some 38), 47, .move, [.t 0], none⟩,
  ⟨(some 39), 48, .move, [.t 10], none⟩,
  ⟨(some 40), 49, .move, [.t 10], none⟩,
  ⟨(some 41), 50, .move, [.t 9], none⟩,
  ⟨(some 42), 51, (.conv (.int .i64)), [.t 41], none⟩,
  ⟨(some 43), 52, (.bin .add), [.t 40, .t 42], none⟩,
  ⟨(some 44), 53, (.sliceSl 1 true true false), [.t 38, .t 39, .t 43], none⟩,
  ⟨(some 45), 54, (.conv .b2s), [.t 44], none⟩,
  ⟨(some 46), 55, .move, [.t 10], none⟩,
  ⟨(some 47), 56, .move, [.t 9], none⟩,
  ⟨(some 48), 57, (.conv (.int .i64)), [.t 47], none⟩,
  ⟨(some 49), 58, (.bin .add), [.t 46, .t 48], none⟩,
  ⟨(some 6), 59, .move, [.t 45], none⟩,
  ⟨(some 7), 60, .move, [.t 49], none⟩,
  ⟨(some 8), 61, .move, [.c (.int .i64 (0))], none⟩])
 (.ret))))))
  [.tmp 6, .tmp 7, .tmp 8] 0 47
def f20.env : Env := [(18, f18.C)]
def f20.tree (a : ByteArray × Int × Int) : Prop := Br (decide (a.2.2 < (0 : Int))) ((ByteArray.empty = ((takeText a).1)) ∧ ((0 : Int) = ((takeText a).2.1)) ∧ ((1 : Int) = ((takeText a).2.2)) ∧ True) (∃ c4 : ByteArray × Int, (a.1.size = c4.1.size) ∧ (∀ i, i < c4.1.size → DEqs ((gstr a.1) i) ((gstr c4.1) i)) ∧ (a.2.1 = c4.2) ∧ (take_pre c4) ∧ Br (((takeN c4).2.2) != (0 : Int)) ((ByteArray.empty = ((takeText a).1)) ∧ ((0 : Int) = ((takeText a).2.1)) ∧ (((takeN c4).2.2) = ((takeText a).2.2)) ∧ True) (Let (IntKind.u64.wrap a.2.2) (fun v8 : Int => Br (decide (v8 < ((takeN c4).1))) ((ByteArray.empty = ((takeText a).1)) ∧ ((0 : Int) = ((takeText a).2.1)) ∧ ((4 : Int) = ((takeText a).2.2)) ∧ True) (Let (IntKind.i64.wrap ((a.1.size : Int) - ((takeN c4).2.1))) (fun v12 : Int => Let (IntKind.u64.wrap v12) (fun v13 : Int => Br (decide (v13 < ((takeN c4).1))) ((ByteArray.empty = ((takeText a).1)) ∧ ((0 : Int) = ((takeText a).2.1)) ∧ ((2 : Int) = ((takeText a).2.2)) ∧ True) (Let (IntKind.i64.wrap ((takeN c4).1)) (fun v17 : Int => Let (IntKind.i64.wrap (((takeN c4).2.1) + v17)) (fun v18 : Int => Br (decide ((0 : Int) ≤ ((takeN c4).2.1)) && decide (((takeN c4).2.1) ≤ v18) && decide (v18 ≤ (a.1.size : Int)) && (v18 == v18)) (Bytes (Int.toNat (v18 - ((takeN c4).2.1))) (gsub (gstr a.1) (Int.toNat ((takeN c4).2.1))) ∧ Let (textOf (Int.toNat (v18 - ((takeN c4).2.1))) (gsub (gstr a.1) (Int.toNat ((takeN c4).2.1)))) (fun v20 : ByteArray => Let (IntKind.i64.wrap ((takeN c4).1)) (fun v21 : Int => Let (IntKind.i64.wrap (((takeN c4).2.1) + v21)) (fun v22 : Int => (v20 = ((takeText a).1)) ∧ (v22 = ((takeText a).2.1)) ∧ ((0 : Int) = ((takeText a).2.2)) ∧ True)))) False)))))))))
def f20.vc (a : ByteArray × Int × Int) : Prop := ((a.2.2 < (0 : Int) → ((ByteArray.empty, (0 : Int), (1 : Int)) = takeText a)) ∧ (¬ (a.2.2 < (0 : Int)) → (take_pre (a.1, a.2.1) ∧ ((¬ ((takeN (a.1, a.2.1)).2.2) = (0 : Int) → ((ByteArray.empty, (0 : Int), (takeN (a.1, a.2.1)).2.2) = takeText a)) ∧ (¬ (¬ ((takeN (a.1, a.2.1)).2.2) = (0 : Int)) → (0 ≤ a.2.2 ∧ a.2.2 ≤ 18446744073709551615 ∧ (((a.2.2) < ((takeN (a.1, a.2.1)).1) → ((ByteArray.empty, (0 : Int), (4 : Int)) = takeText a)) ∧ (¬ ((a.2.2) < ((takeN (a.1, a.2.1)).1)) → (-9223372036854775808 ≤ ((a.1.size : Int) - ((takeN (a.1, a.2.1)).2.1)) ∧ ((a.1.size : Int) - ((takeN (a.1, a.2.1)).2.1)) ≤ 9223372036854775807 ∧ (0 ≤ ((a.1.size : Int) - ((takeN (a.1, a.2.1)).2.1)) ∧ ((a.1.size : Int) - ((takeN (a.1, a.2.1)).2.1)) ≤ 18446744073709551615 ∧ ((((a.1.size : Int) - ((takeN (a.1, a.2.1)).2.1)) < ((takeN (a.1, a.2.1)).1) → ((ByteArray.empty, (0 : Int), (2 : Int)) = takeText a)) ∧ (¬ (((a.1.size : Int) - ((takeN (a.1, a.2.1)).2.1)) < ((takeN (a.1, a.2.1)).1)) → (-9223372036854775808 ≤ ((takeN (a.1, a.2.1)).1) ∧ ((takeN (a.1, a.2.1)).1) ≤ 9223372036854775807 ∧ (-9223372036854775808 ≤ (((takeN (a.1, a.2.1)).2.1) + ((takeN (a.1, a.2.1)).1)) ∧ (((takeN (a.1, a.2.1)).2.1) + ((takeN (a.1, a.2.1)).1)) ≤ 9223372036854775807 ∧ ((0 : Int) ≤ ((takeN (a.1, a.2.1)).2.1) ∧ ((takeN (a.1, a.2.1)).2.1) ≤ (((takeN (a.1, a.2.1)).2.1) + ((takeN (a.1, a.2.1)).1)) ∧ (((takeN (a.1, a.2.1)).2.1) + ((takeN (a.1, a.2.1)).1)) ≤ (a.1.size : Int) ∧ (-9223372036854775808 ≤ ((takeN (a.1, a.2.1)).1) ∧ ((takeN (a.1, a.2.1)).1) ≤ 9223372036854775807 ∧ (-9223372036854775808 ≤ (((takeN (a.1, a.2.1)).2.1) + ((takeN (a.1, a.2.1)).1)) ∧ (((takeN (a.1, a.2.1)).2.1) + ((takeN (a.1, a.2.1)).1)) ≤ 9223372036854775807 ∧ (((subB a.1 ((takeN (a.1, a.2.1)).2.1) (((takeN (a.1, a.2.1)).2.1) + ((takeN (a.1, a.2.1)).1))), (((takeN (a.1, a.2.1)).2.1) + ((takeN (a.1, a.2.1)).1)), (0 : Int)) = takeText a))))))))))))))))))
set_option maxRecDepth 100000 in
set_option maxHeartbeats 2000000 in
theorem f20.of (a : ByteArray × Int × Int) (h : f20.vc a) : f20.tree a := br Cnd.dec (fun h1 k53 => ⟨(congrArg (fun x : ByteArray × Int × Int => x.1) k53 :), ⟨(congrArg (fun x : ByteArray × Int × Int => x.2.1) k53 :), ⟨(congrArg (fun x : ByteArray × Int × Int => x.2.2) k53 :), trivial⟩⟩⟩) (fun h2 k54 => ⟨(a.1, a.2.1), slK RdB.self (⟨rfl, ⟨k54.1, br Cnd.ne (fun h5 k50 => ⟨(congrArg (fun x : ByteArray × Int × Int => x.1) k50 :), ⟨(congrArg (fun x : ByteArray × Int × Int => x.2.1) k50 :), ⟨(congrArg (fun x : ByteArray × Int × Int => x.2.2) k50 :), trivial⟩⟩⟩) (fun h6 k51 => wrapK.u64 (fun h47 h48 k49 => br Cnd.dec (fun h9 k45 => ⟨(congrArg (fun x : ByteArray × Int × Int => x.1) k45 :), ⟨(congrArg (fun x : ByteArray × Int × Int => x.2.1) k45 :), ⟨(congrArg (fun x : ByteArray × Int × Int => x.2.2) k45 :), trivial⟩⟩⟩) (fun h10 k46 => wrapK.i64 (fun h42 h43 k44 => wrapK.u64 (fun h39 h40 k41 => br Cnd.dec (fun h14 k37 => ⟨(congrArg (fun x : ByteArray × Int × Int => x.1) k37 :), ⟨(congrArg (fun x : ByteArray × Int × Int => x.2.1) k37 :), ⟨(congrArg (fun x : ByteArray × Int × Int => x.2.2) k37 :), trivial⟩⟩⟩) (fun h15 k38 => wrapK.i64 (fun h34 h35 k36 => wrapK.i64 (fun h31 h32 k33 => chk Cnd.sl (fun h19 k30 => b2s (RdB.sub RdB.self h19) (fun h => wrapK.i64 (fun h27 h28 k29 => wrapK.i64 (fun h24 h25 k26 => ⟨(congrArg (fun x : ByteArray × Int × Int => x.1) k26 :), ⟨(congrArg (fun x : ByteArray × Int × Int => x.2.1) k26 :), ⟨(congrArg (fun x : ByteArray × Int × Int => x.2.2) k26 :), trivial⟩⟩⟩) k29) h) k30) ⟨⟨k33.1, k33.2.1, k33.2.2.1⟩, k33.2.2.2⟩) k36) k38) k41) k44) k46) k49) k51) k54.2⟩⟩)⟩) h
theorem f20.eq (a : ByteArray × Int × Int) : (f20.af a).gives f20.env (f20.args a) (f20.blks a) (f20.res a) (f20.blks' a) = f20.tree a := by kernel_rfl
end Go.Abs

-- interregnum/pack.PutText
namespace Go.Abs
open Go
def f16.args (a : ByteArray × ByteArray) : List D := [.slice .ro 1 a.1.size (gstr a.1), .str a.2]
def f16.blks (a : ByteArray × ByteArray) : List (List D) := []
def f16.res (a : ByteArray × ByteArray) : List D := [.slice (.own 0) 1 ((putText a).size) (gstr (putText a))]
def f16.blks' (a : ByteArray × ByteArray) : List (List D) := []
def f16.C : Contract := FnC f16.args f16.blks (fun a => putText_pre a) f16.res f16.blks'
end Go.Abs

/- interregnum/pack.PutText -/
namespace Go.Abs
open Go
set_option linter.unusedVariables false
def f16.kills (a : ByteArray × ByteArray) : List Hint := []
def f16.cuts (a : ByteArray × ByteArray) : List (Nat × Σ β : Type, β → Tm) := []
def f16.af (a : ByteArray × ByteArray) : AF := AF.mk (.seq (.region [⟨(some 4), 0, (.nilSl 1), [], none⟩])
 (.seq (.region [⟨(some 5), 1, .move, [.t 0], none⟩,
  ⟨(some 6), 2, .move, [.t 1], none⟩,
  ⟨(some 7), 3, (.len true), [.t 6], none⟩,
  ⟨(some 8), 4, (.conv (.int .u64)), [.t 7], none⟩,
  ⟨(some 9), 5, (.call false 14), [.t 5, .t 8], none⟩,
  ⟨(some 10), 9, .move, [.t 1], none⟩,
  ⟨(some 11), 10, (.append 1 1), [.t 9, .t 10], none⟩,
  ⟨(some 4), 11, .move, [.t 11], none⟩])
 (.ret)))
  [.tmp 4] 0 10
def f16.env : Env := [(14, f14.C)]
def f16.tree (a : ByteArray × ByteArray) : Prop := Let (IntKind.u64.wrap (a.2.size : Int)) (fun v1 : Int => ∃ c2 : ByteArray × Int, (a.1.size = c2.1.size) ∧ (∀ i, i < c2.1.size → DEqs ((gstr a.1) i) ((gstr c2.1) i)) ∧ (v1 = c2.2) ∧ (put_pre c2) ∧ (((putB c2).size) = ((putB c2).size) ∧ room ((((putB c2).size) + a.2.size) * 1)) ∧ (((((putB c2).size) + a.2.size) = (((putB c2).size) + a.2.size)) ∧ ((((putB c2).size) + a.2.size) = ((putText a).size)) ∧ (∀ i, i < ((putText a).size) → DEqs ((gapp (gstr (putB c2)) ((putB c2).size) (gstr a.2)) i) ((gstr (putText a)) i)) ∧ True))
def f16.vc (a : ByteArray × ByteArray) : Prop := (0 ≤ (a.2.size : Int) ∧ (a.2.size : Int) ≤ 18446744073709551615 ∧ (put_pre (a.1, (a.2.size : Int)) ∧ (((putB (a.1, (a.2.size : Int))).size) + a.2.size ≤ 1073741824 ∧ ((putB (a.1, (a.2.size : Int))) ++ a.2 = putText a))))
set_option maxRecDepth 100000 in
set_option maxHeartbeats 2000000 in
theorem f16.of (a : ByteArray × ByteArray) (h : f16.vc a) : f16.tree a := wrapK.u64 (fun h5 h6 k7 => ⟨(a.1, (a.2.size : Int)), slK RdB.self (⟨rfl, ⟨k7.1, ⟨⟨rfl, (room_of k7.2.1 (by decide))⟩, ⟨rfl, slK (RdB.to (RdB.app RdB.self RdB.self) k7.2.2) (trivial)⟩⟩⟩⟩)⟩) h
theorem f16.eq (a : ByteArray × ByteArray) : (f16.af a).gives f16.env (f16.args a) (f16.blks a) (f16.res a) (f16.blks' a) = f16.tree a := by kernel_rfl
end Go.Abs

-- interregnum/interregnumlaw01.PackOne
namespace Go.Abs
open Go
def f6.wf (a : ByteArray × Int × Int) : Prop := k_str.ok a.1 ∧ k_i64.ok a.2.1 ∧ k_i64.ok a.2.2
def f6.size (a : ByteArray × Int × Int) : Nat := k_str.size a.1 + (k_i64.size a.2.1 + (k_i64.size a.2.2))
def f6.lpre (a : ByteArray × Int × Int) : Prop := f6.wf a ∧ f6.size a ≤ 1048576
def f6.args (a : ByteArray × Int × Int) : List D := [.str a.1, .int .i64 a.2.1, .int .i64 a.2.2]
def f6.blks (a : ByteArray × Int × Int) : List (List D) := []
def f6.res (a : ByteArray × Int × Int) : List D := [.bool (lawTrue a)]
def f6.blks' (a : ByteArray × Int × Int) : List (List D) := []
def f6.C : Contract := FnC f6.args f6.blks (fun a => f6.lpre a) f6.res f6.blks'
end Go.Abs

/- interregnum/interregnumlaw01.PackOne -/
namespace Go.Abs
open Go
set_option linter.unusedVariables false
def f6.kills (a : ByteArray × Int × Int) : List Hint := []
def f6.cuts (a : ByteArray × Int × Int) : List (Nat × Σ β : Type, β → Tm) := []
def f6.af (a : ByteArray × Int × Int) : AF := AF.mk (.seq (.region [⟨(some 6), 0, .move, [.c (.bool false)], none⟩])
 (.seq (.seq (.region [⟨(some 13), 1, (.call false 13), [], none⟩,
  ⟨(some 14), 5, (.un .not), [.t 13], none⟩])
 (.cond (.t 14) (.seq (.region [⟨(some 6), 6, .move, [.c (.bool false)], none⟩])
 (.ret)) (.skip)))
 (.seq (.region [⟨(some 16), 7, .move, [.t 0], none⟩,
  ⟨(some 17), 8, (.conv .s2b), [.t 16], none⟩,
  ⟨(some 18), 9, .move, [.t 1], none⟩,
  ⟨(some 19), 10, (.call false 18), [.t 17, .t 18], none⟩,
  ⟨(some 15), 14, .move, [.t 19], none⟩,
  ⟨(some 20), 15, (.extract 0), [.t 15], none⟩,
  ⟨(some 21), 16, (.extract 1), [.t 15], none⟩,
  ⟨(some 22), 17, (.extract 2), [.t 15], none⟩,
  ⟨(some 7), 18, .move, [.t 20], none⟩,
  ⟨(some 8), 19, .move, [.t 21], none⟩,
  ⟨(some 9), 20, .move, [.t 22], none⟩])
 (.seq (.region [⟨(some 24), 21, .move, [.t 0], none⟩,
  ⟨(some 25), 22, (.conv .s2b), [.t 24], none⟩,
  ⟨(some 26), 23, .move, [.t 1], none⟩,
  ⟨(some 27), 24, .move, [.t 2], none⟩,
  ⟨(some 28), 25, (.call false 20), [.t 25, .t 26, .t 27], none⟩,
  ⟨(some 23), 29, .move, [.t 28], none⟩,
  ⟨(some 29), 30, (.extract 0), [.t 23], none⟩,
  ⟨(some 30), 31, (.extract 1), [.t 23], none⟩,
  ⟨(some 31), 32, (.extract 2), [.t 23], none⟩,
  ⟨(some 10), 33, .move, [.t 29], none⟩,
  ⟨(some 11), 34, .move, [.t 30], none⟩,
  ⟨(some 12), 35, .move, [.t 31], none⟩])
 (.seq (.seq (.region [⟨(some 32), 36, .move, [.t 9], none⟩,
  ⟨(some 33), 37, (.bin .eql), [.t 32, .c (.int .i64 (0))], none⟩,
  ⟨(some 34), 38, .move, [.t 33], none⟩,
  ⟨(some 35), 39, .move, [.t 8], (some (34, true))⟩,
  ⟨(some 36), 40, .move, [.t 1], (some (34, true))⟩,
  ⟨(some 37), 41, (.bin .leq), [.t 35, .t 36], (some (34, true))⟩,
  ⟨(some 38), 42, .move, [.t 37], (some (34, true))⟩,
  ⟨(some 39), 43, .move, [.t 8], (some (38, false))⟩,
  ⟨(some 40), 44, .move, [.t 0], (some (38, false))⟩,
  ⟨(some 41), 45, (.len true), [.t 40], (some (38, false))⟩,
  ⟨(some 42), 46, (.bin .gtr), [.t 39, .t 41], (some (38, false))⟩,
  ⟨(some 43), 47, .pick, [.t 38, .c (.bool true), .t 42], (some (34, true))⟩,
  ⟨(some 44), 48, .move, [.t 43], (some (34, true))⟩,
  ⟨(some 45), 49, .move, [.t 7], (some (44, false))⟩,
  ⟨(some 46), 50, (.call false 14), [.c (.slice .full 1 0 gnil), .t 45], (some (44, false))⟩,
  ⟨(some 47), 54, (.conv .b2s), [.t 46], (some (44, false))⟩,
  ⟨(some 48), 55, .move, [.t 0], (some (44, false))⟩,
  ⟨(some 49), 56, .move, [.t 1], (some (44, false))⟩,
  ⟨(some 50), 57, .move, [.t 8], (some (44, false))⟩,
  ⟨(some 51), 58, (.sliceStr true true), [.t 48, .t 49, .t 50], (some (44, false))⟩,
  ⟨(some 52), 59, (.bin .neq), [.t 47, .t 51], (some (44, false))⟩,
  ⟨(some 53), 60, .pick, [.t 44, .c (.bool true), .t 52], (some (34, true))⟩,
  ⟨(some 54), 61, .pick, [.t 34, .t 53, .c (.bool false)], none⟩])
 (.cond (.t 54) (.seq (.region [⟨(some 6), 62, .move, [.c (.bool false)], none⟩])
 (.ret)) (.skip)))
 (.seq (.seq (.region [⟨(some 55), 63, .move, [.t 12], none⟩,
  ⟨(some 56), 64, (.bin .eql), [.t 55, .c (.int .i64 (0))], none⟩,
  ⟨(some 57), 65, .move, [.t 56], none⟩,
  ⟨(some 58), 66, .move, [.t 11], (some (57, true))⟩,
  ⟨(some 59), 67, .move, [.t 1], (some (57, true))⟩,
  ⟨(some 60), 68, (.bin .leq), [.t 58, .t 59], (some (57, true))⟩,
  ⟨(some 61), 69, .move, [.t 60], (some (57, true))⟩,
  ⟨(some 62), 70, .move, [.t 11], (some (61, false))⟩,
  ⟨(some 63), 71, .move, [.t 0], (some (61, false))⟩,
  ⟨(some 64), 72, (.len true), [.t 63], (some (61, false))⟩,
  ⟨(some 65), 73, (.bin .gtr), [.t 62, .t 64], (some (61, false))⟩,
  ⟨(some 66), 74, .pick, [.t 61, .c (.bool true), .t 65], (some (57, true))⟩,
  ⟨(some 67), 75, .move, [.t 66], (some (57, true))⟩,
  ⟨(some 68), 76, .move, [.t 10], (some (67, false))⟩,
  ⟨(some 69), 77, (.call false 16), [.c (.slice .full 1 0 gnil), .t 68], (some (67, false))⟩,
  ⟨(some 70), 81, (.conv .b2s), [.t 69], (some (67, false))⟩,
  ⟨(some 71), 82, .move, [.t 0], (some (67, false))⟩,
  ⟨(some 72), 83, .move, [.t 1], (some (67, false))⟩,
  ⟨(some 73), 84, .move, [.t 11], (some (67, false))⟩,
  ⟨(some 74), 85, (.sliceStr true true), [.t 71, .t 72, .t 73], (some (67, false))⟩,
  ⟨(some 75), 86, (.bin .neq), [.t 70, .t 74], (some (67, false))⟩,
  ⟨(some 76), 87, .pick, [.t 67, .c (.bool true), .t 75], (some (57, true))⟩,
  ⟨(some 77), 88, .move, [.t 76], (some (57, true))⟩,
  ⟨(some 78), 89, .move, [.t 10], (some (77, false))⟩,
  ⟨(some 79), 90, (.len true), [.t 78], (some (77, false))⟩,
  ⟨(some 80), 91, .move, [.t 2], (some (77, false))⟩,
  ⟨(some 81), 92, (.bin .gtr), [.t 79, .t 80], (some (77, false))⟩,
  ⟨(some 82), 93, .pick, [.t 77, .c (.bool true), .t 81], (some (57, true))⟩,
  ⟨(some 83), 94, .pick, [.t 57, .t 82, .c (.bool false)], none⟩])
 (.cond (.t 83) (.seq (.region [⟨(some 6), 95, .move, [.c (.bool false)], none⟩])
 (.ret)) (.skip)))
 (.seq (.region [⟨(some 84), 96, .move, [.t 9], none⟩,
  ⟨(some 85), 97, (.bin .eql), [.t 84, .c (.int .i64 (0))], none⟩,
  ⟨(some 86), 98, .move, [.t 85], none⟩,
  ⟨(some 87), 99, .move, [.t 7], (some (86, false))⟩,
  ⟨(some 88), 100, (.bin .eql), [.t 87, .c (.int .u64 (0))], (some (86, false))⟩,
  ⟨(some 89), 101, .move, [.t 88], (some (86, false))⟩,
  ⟨(some 90), 102, .move, [.t 8], (some (89, true))⟩,
  ⟨(some 91), 103, (.bin .eql), [.t 90, .c (.int .i64 (0))], (some (89, true))⟩,
  ⟨(some 92), 104, .pick, [.t 89, .t 91, .c (.bool false)], (some (86, false))⟩,
  ⟨(some 93), 105, .pick, [.t 86, .c (.bool true), .t 92], none⟩,
  ⟨(some 94), 106, .move, [.t 93], none⟩,
  ⟨(some 95), 107, .move, [.t 12], (some (94, true))⟩,
  ⟨(some 96), 108, (.bin .eql), [.t 95, .c (.int .i64 (0))], (some (94, true))⟩,
  ⟨(some 97), 109, .move, [.t 96], (some (94, true))⟩,
  ⟨(some 98), 110, .move, [.t 10], (some (97, false))⟩,
  ⟨(some 99), 111, (.bin .eql), [.t 98, .c (.str ByteArray.empty)], (some (97, false))⟩,
  ⟨(some 100), 112, .move, [.t 99], (some (97, false))⟩,
  ⟨(some 101), 113, .move, [.t 11], (some (100, true))⟩,
  ⟨(some 102), 114, (.bin .eql), [.t 101, .c (.int .i64 (0))], (some (100, true))⟩,
  ⟨(some 103), 115, .pick, [.t 100, .t 102, .c (.bool false)], (some (97, false))⟩,
  ⟨(some 104), 116, .pick, [.t 97, .c (.bool true), .t 103], (some (94, true))⟩,
  ⟨(some 105), 117, .pick, [.t 94, .t 104, .c (.bool false)], none⟩,
  ⟨(some 6), 118, .move, [.t 105], none⟩])
 (.ret))))))))
  [.tmp 6] 0 103
def f6.env : Env := [(13, f13.C), (18, f18.C), (20, f20.C), (14, f14.C), (16, f16.C)]
def f6.tree (a : ByteArray × Int × Int) : Prop := ∃ c1 : Unit, True ∧ Br (!(lawTrue c1)) ((false = (lawTrue a)) ∧ True) (∃ c5 : ByteArray × Int, (a.1.size = c5.1.size) ∧ (∀ i, i < c5.1.size → DEqs ((gstr a.1) i) ((gstr c5.1) i)) ∧ (a.2.1 = c5.2) ∧ (take_pre c5) ∧ ∃ c6 : ByteArray × Int × Int, (a.1.size = c6.1.size) ∧ (∀ i, i < c6.1.size → DEqs ((gstr a.1) i) ((gstr c6.1) i)) ∧ (a.2.1 = c6.2.1) ∧ (a.2.2 = c6.2.2) ∧ (takeText_pre c6) ∧ Br (((takeN c5).2.2) == (0 : Int)) (Br (decide (((takeN c5).2.1) ≤ a.2.1)) ((false = (lawTrue a)) ∧ True) (Br (decide ((a.1.size : Int) < ((takeN c5).2.1))) ((false = (lawTrue a)) ∧ True) (∃ c15 : ByteArray × Int, (0 = c15.1.size) ∧ (∀ i, i < c15.1.size → DEqs (gnil i) ((gstr c15.1) i)) ∧ (((takeN c5).1) = c15.2) ∧ (put_pre c15) ∧ Bytes ((putB c15).size) (gstr (putB c15)) ∧ Let (textOf ((putB c15).size) (gstr (putB c15))) (fun v16 : ByteArray => Br (decide ((0 : Int) ≤ a.2.1) && decide (a.2.1 ≤ ((takeN c5).2.1)) && decide (((takeN c5).2.1) ≤ (a.1.size : Int))) (Br (!(v16.toList == (subB a.1 a.2.1 ((takeN c5).2.1)).toList)) ((false = (lawTrue a)) ∧ True) (Br (((takeText c6).2.2) == (0 : Int)) (Br (decide (((takeText c6).2.1) ≤ a.2.1)) ((false = (lawTrue a)) ∧ True) (Br (decide ((a.1.size : Int) < ((takeText c6).2.1))) ((false = (lawTrue a)) ∧ True) (∃ c29 : ByteArray × ByteArray, (0 = c29.1.size) ∧ (∀ i, i < c29.1.size → DEqs (gnil i) ((gstr c29.1) i)) ∧ (((takeText c6).1) = c29.2) ∧ (putText_pre c29) ∧ Bytes ((putText c29).size) (gstr (putText c29)) ∧ Let (textOf ((putText c29).size) (gstr (putText c29))) (fun v30 : ByteArray => Br (decide ((0 : Int) ≤ a.2.1) && decide (a.2.1 ≤ ((takeText c6).2.1)) && decide (((takeText c6).2.1) ≤ (a.1.size : Int))) (Br (!(v30.toList == (subB a.1 a.2.1 ((takeText c6).2.1)).toList)) ((false = (lawTrue a)) ∧ True) (Br (decide (a.2.2 < (((takeText c6).1).size : Int))) ((false = (lawTrue a)) ∧ True) (Br (((takeN c5).2.2) == (0 : Int)) (Br (((takeText c6).2.2) == (0 : Int)) ((true = (lawTrue a)) ∧ True) (Br (((takeText c6).1).toList == ByteArray.empty.toList) (((((takeText c6).2.1) == (0 : Int)) = (lawTrue a)) ∧ True) ((false = (lawTrue a)) ∧ True))) (Br (((takeN c5).1) == (0 : Int)) (Br (((takeN c5).2.1) == (0 : Int)) (Br (((takeText c6).2.2) == (0 : Int)) ((true = (lawTrue a)) ∧ True) (Br (((takeText c6).1).toList == ByteArray.empty.toList) (((((takeText c6).2.1) == (0 : Int)) = (lawTrue a)) ∧ True) ((false = (lawTrue a)) ∧ True))) ((false = (lawTrue a)) ∧ True)) ((false = (lawTrue a)) ∧ True))))) False)))) (Br (((takeN c5).2.2) == (0 : Int)) (Br (((takeText c6).2.2) == (0 : Int)) ((true = (lawTrue a)) ∧ True) (Br (((takeText c6).1).toList == ByteArray.empty.toList) (((((takeText c6).2.1) == (0 : Int)) = (lawTrue a)) ∧ True) ((false = (lawTrue a)) ∧ True))) (Br (((takeN c5).1) == (0 : Int)) (Br (((takeN c5).2.1) == (0 : Int)) (Br (((takeText c6).2.2) == (0 : Int)) ((true = (lawTrue a)) ∧ True) (Br (((takeText c6).1).toList == ByteArray.empty.toList) (((((takeText c6).2.1) == (0 : Int)) = (lawTrue a)) ∧ True) ((false = (lawTrue a)) ∧ True))) ((false = (lawTrue a)) ∧ True)) ((false = (lawTrue a)) ∧ True))))) False)))) (Br (((takeText c6).2.2) == (0 : Int)) (Br (decide (((takeText c6).2.1) ≤ a.2.1)) ((false = (lawTrue a)) ∧ True) (Br (decide ((a.1.size : Int) < ((takeText c6).2.1))) ((false = (lawTrue a)) ∧ True) (∃ c114 : ByteArray × ByteArray, (0 = c114.1.size) ∧ (∀ i, i < c114.1.size → DEqs (gnil i) ((gstr c114.1) i)) ∧ (((takeText c6).1) = c114.2) ∧ (putText_pre c114) ∧ Bytes ((putText c114).size) (gstr (putText c114)) ∧ Let (textOf ((putText c114).size) (gstr (putText c114))) (fun v115 : ByteArray => Br (decide ((0 : Int) ≤ a.2.1) && decide (a.2.1 ≤ ((takeText c6).2.1)) && decide (((takeText c6).2.1) ≤ (a.1.size : Int))) (Br (!(v115.toList == (subB a.1 a.2.1 ((takeText c6).2.1)).toList)) ((false = (lawTrue a)) ∧ True) (Br (decide (a.2.2 < (((takeText c6).1).size : Int))) ((false = (lawTrue a)) ∧ True) (Br (((takeN c5).2.2) == (0 : Int)) (Br (((takeText c6).2.2) == (0 : Int)) ((true = (lawTrue a)) ∧ True) (Br (((takeText c6).1).toList == ByteArray.empty.toList) (((((takeText c6).2.1) == (0 : Int)) = (lawTrue a)) ∧ True) ((false = (lawTrue a)) ∧ True))) (Br (((takeN c5).1) == (0 : Int)) (Br (((takeN c5).2.1) == (0 : Int)) (Br (((takeText c6).2.2) == (0 : Int)) ((true = (lawTrue a)) ∧ True) (Br (((takeText c6).1).toList == ByteArray.empty.toList) (((((takeText c6).2.1) == (0 : Int)) = (lawTrue a)) ∧ True) ((false = (lawTrue a)) ∧ True))) ((false = (lawTrue a)) ∧ True)) ((false = (lawTrue a)) ∧ True))))) False)))) (Br (((takeN c5).2.2) == (0 : Int)) (Br (((takeText c6).2.2) == (0 : Int)) ((true = (lawTrue a)) ∧ True) (Br (((takeText c6).1).toList == ByteArray.empty.toList) (((((takeText c6).2.1) == (0 : Int)) = (lawTrue a)) ∧ True) ((false = (lawTrue a)) ∧ True))) (Br (((takeN c5).1) == (0 : Int)) (Br (((takeN c5).2.1) == (0 : Int)) (Br (((takeText c6).2.2) == (0 : Int)) ((true = (lawTrue a)) ∧ True) (Br (((takeText c6).1).toList == ByteArray.empty.toList) (((((takeText c6).2.1) == (0 : Int)) = (lawTrue a)) ∧ True) ((false = (lawTrue a)) ∧ True))) ((false = (lawTrue a)) ∧ True)) ((false = (lawTrue a)) ∧ True)))))
def f6.vc (a : ByteArray × Int × Int) : Prop := ((¬ ((lawTrue ()) = true) → (false = lawTrue a)) ∧ (¬ (¬ ((lawTrue ()) = true)) → (take_pre (a.1, a.2.1) ∧ (takeText_pre (a.1, a.2.1, a.2.2) ∧ ((((takeN (a.1, a.2.1)).2.2) = (0 : Int) → ((((takeN (a.1, a.2.1)).2.1) ≤ a.2.1 → (false = lawTrue a)) ∧ (¬ (((takeN (a.1, a.2.1)).2.1) ≤ a.2.1) → (((a.1.size : Int) < ((takeN (a.1, a.2.1)).2.1) → (false = lawTrue a)) ∧ (¬ ((a.1.size : Int) < ((takeN (a.1, a.2.1)).2.1)) → (put_pre (ByteArray.empty, (takeN (a.1, a.2.1)).1) ∧ ((0 : Int) ≤ a.2.1 ∧ a.2.1 ≤ ((takeN (a.1, a.2.1)).2.1) ∧ ((takeN (a.1, a.2.1)).2.1) ≤ (a.1.size : Int) ∧ ((¬ ((putB (ByteArray.empty, (takeN (a.1, a.2.1)).1)) = (subB a.1 a.2.1 ((takeN (a.1, a.2.1)).2.1))) → (false = lawTrue a)) ∧ (¬ (¬ ((putB (ByteArray.empty, (takeN (a.1, a.2.1)).1)) = (subB a.1 a.2.1 ((takeN (a.1, a.2.1)).2.1)))) → ((((takeText (a.1, a.2.1, a.2.2)).2.2) = (0 : Int) → ((((takeText (a.1, a.2.1, a.2.2)).2.1) ≤ a.2.1 → (false = lawTrue a)) ∧ (¬ (((takeText (a.1, a.2.1, a.2.2)).2.1) ≤ a.2.1) → (((a.1.size : Int) < ((takeText (a.1, a.2.1, a.2.2)).2.1) → (false = lawTrue a)) ∧ (¬ ((a.1.size : Int) < ((takeText (a.1, a.2.1, a.2.2)).2.1)) → (putText_pre (ByteArray.empty, (takeText (a.1, a.2.1, a.2.2)).1) ∧ ((0 : Int) ≤ a.2.1 ∧ a.2.1 ≤ ((takeText (a.1, a.2.1, a.2.2)).2.1) ∧ ((takeText (a.1, a.2.1, a.2.2)).2.1) ≤ (a.1.size : Int) ∧ ((¬ ((putText (ByteArray.empty, (takeText (a.1, a.2.1, a.2.2)).1)) = (subB a.1 a.2.1 ((takeText (a.1, a.2.1, a.2.2)).2.1))) → (false = lawTrue a)) ∧ (¬ (¬ ((putText (ByteArray.empty, (takeText (a.1, a.2.1, a.2.2)).1)) = (subB a.1 a.2.1 ((takeText (a.1, a.2.1, a.2.2)).2.1)))) → ((a.2.2 < (((takeText (a.1, a.2.1, a.2.2)).1).size : Int) → (false = lawTrue a)) ∧ (¬ (a.2.2 < (((takeText (a.1, a.2.1, a.2.2)).1).size : Int)) → (true = lawTrue a)))))))))))) ∧ (¬ (((takeText (a.1, a.2.1, a.2.2)).2.2) = (0 : Int)) → ((((takeText (a.1, a.2.1, a.2.2)).1) = ByteArray.empty → ((((takeText (a.1, a.2.1, a.2.2)).2.1) == (0 : Int)) = lawTrue a)) ∧ (¬ (((takeText (a.1, a.2.1, a.2.2)).1) = ByteArray.empty) → (false = lawTrue a)))))))))))))) ∧ (¬ (((takeN (a.1, a.2.1)).2.2) = (0 : Int)) → ((((takeText (a.1, a.2.1, a.2.2)).2.2) = (0 : Int) → ((((takeText (a.1, a.2.1, a.2.2)).2.1) ≤ a.2.1 → (false = lawTrue a)) ∧ (¬ (((takeText (a.1, a.2.1, a.2.2)).2.1) ≤ a.2.1) → (((a.1.size : Int) < ((takeText (a.1, a.2.1, a.2.2)).2.1) → (false = lawTrue a)) ∧ (¬ ((a.1.size : Int) < ((takeText (a.1, a.2.1, a.2.2)).2.1)) → (putText_pre (ByteArray.empty, (takeText (a.1, a.2.1, a.2.2)).1) ∧ ((0 : Int) ≤ a.2.1 ∧ a.2.1 ≤ ((takeText (a.1, a.2.1, a.2.2)).2.1) ∧ ((takeText (a.1, a.2.1, a.2.2)).2.1) ≤ (a.1.size : Int) ∧ ((¬ ((putText (ByteArray.empty, (takeText (a.1, a.2.1, a.2.2)).1)) = (subB a.1 a.2.1 ((takeText (a.1, a.2.1, a.2.2)).2.1))) → (false = lawTrue a)) ∧ (¬ (¬ ((putText (ByteArray.empty, (takeText (a.1, a.2.1, a.2.2)).1)) = (subB a.1 a.2.1 ((takeText (a.1, a.2.1, a.2.2)).2.1)))) → ((a.2.2 < (((takeText (a.1, a.2.1, a.2.2)).1).size : Int) → (false = lawTrue a)) ∧ (¬ (a.2.2 < (((takeText (a.1, a.2.1, a.2.2)).1).size : Int)) → ((((takeN (a.1, a.2.1)).1) = (0 : Int) → ((((takeN (a.1, a.2.1)).2.1) = (0 : Int) → (true = lawTrue a)) ∧ (¬ (((takeN (a.1, a.2.1)).2.1) = (0 : Int)) → (false = lawTrue a)))) ∧ (¬ (((takeN (a.1, a.2.1)).1) = (0 : Int)) → (false = lawTrue a)))))))))))))) ∧ (¬ (((takeText (a.1, a.2.1, a.2.2)).2.2) = (0 : Int)) → ((((takeN (a.1, a.2.1)).1) = (0 : Int) → ((((takeN (a.1, a.2.1)).2.1) = (0 : Int) → ((((takeText (a.1, a.2.1, a.2.2)).1) = ByteArray.empty → ((((takeText (a.1, a.2.1, a.2.2)).2.1) == (0 : Int)) = lawTrue a)) ∧ (¬ (((takeText (a.1, a.2.1, a.2.2)).1) = ByteArray.empty) → (false = lawTrue a)))) ∧ (¬ (((takeN (a.1, a.2.1)).2.1) = (0 : Int)) → (false = lawTrue a)))) ∧ (¬ (((takeN (a.1, a.2.1)).1) = (0 : Int)) → (false = lawTrue a)))))))))))
set_option maxRecDepth 100000 in
set_option maxHeartbeats 2000000 in
theorem f6.of (a : ByteArray × Int × Int) (h : f6.vc a) : f6.tree a := ⟨(), ⟨trivial, br (Cnd.not Cnd.b) (fun h2 k187 => ⟨k187, trivial⟩) (fun h3 k188 => ⟨(a.1, a.2.1), slK RdB.self (⟨rfl, ⟨k188.1, ⟨(a.1, a.2.1, a.2.2), slK RdB.self (⟨rfl, ⟨rfl, ⟨k188.2.1, br Cnd.eq (fun h7 k183 => br Cnd.dec (fun h9 k104 => ⟨k104, trivial⟩) (fun h10 k105 => br Cnd.dec (fun h12 k102 => ⟨k102, trivial⟩) (fun h13 k103 => ⟨(ByteArray.empty, (takeN (a.1, a.2.1)).1), slK RdB.nil (⟨rfl, ⟨k103.1, b2s RdB.self (fun h => chk Cnd.ss (fun h17 k100 => br (Cnd.not Cnd.seq) (fun h18 k98 => ⟨k98, trivial⟩) (fun h19 k99 => br Cnd.eq (fun h21 k96 => br Cnd.dec (fun h23 k70 => ⟨k70, trivial⟩) (fun h24 k71 => br Cnd.dec (fun h26 k68 => ⟨k68, trivial⟩) (fun h27 k69 => ⟨(ByteArray.empty, (takeText (a.1, a.2.1, a.2.2)).1), slK RdB.nil (⟨rfl, ⟨k69.1, b2s RdB.self (fun h => chk Cnd.ss (fun h31 k66 => br (Cnd.not Cnd.seq) (fun h32 k64 => ⟨k64, trivial⟩) (fun h33 k65 => br Cnd.dec (fun h35 k62 => ⟨k62, trivial⟩) (fun h36 k63 => brT Cnd.eq h7 (brT Cnd.eq h21 (⟨k63, trivial⟩))) k65) k66) ⟨⟨h.1, h.2.1, h.2.2.1⟩, h.2.2.2⟩) k69.2⟩⟩)⟩) k71) k96) (fun h22 k97 => brT Cnd.eq h7 (brF Cnd.eq h22 (br Cnd.seq (fun h73 k77 => ⟨k77, trivial⟩) (fun h74 k78 => ⟨k78, trivial⟩) k97))) k99) k100) ⟨⟨h.1, h.2.1, h.2.2.1⟩, h.2.2.2⟩) k103.2⟩⟩)⟩) k105) k183) (fun h8 k184 => br Cnd.eq (fun h106 k181 => br Cnd.dec (fun h108 k155 => ⟨k155, trivial⟩) (fun h109 k156 => br Cnd.dec (fun h111 k153 => ⟨k153, trivial⟩) (fun h112 k154 => ⟨(ByteArray.empty, (takeText (a.1, a.2.1, a.2.2)).1), slK RdB.nil (⟨rfl, ⟨k154.1, b2s RdB.self (fun h => chk Cnd.ss (fun h116 k151 => br (Cnd.not Cnd.seq) (fun h117 k149 => ⟨k149, trivial⟩) (fun h118 k150 => br Cnd.dec (fun h120 k147 => ⟨k147, trivial⟩) (fun h121 k148 => brF Cnd.eq h8 (br Cnd.eq (fun h130 k145 => br Cnd.eq (fun h132 k142 => brT Cnd.eq h106 (⟨k142, trivial⟩)) (fun h133 k143 => ⟨k143, trivial⟩) k145) (fun h131 k146 => ⟨k146, trivial⟩) k148)) k150) k151) ⟨⟨h.1, h.2.1, h.2.2.1⟩, h.2.2.2⟩) k154.2⟩⟩)⟩) k156) k181) (fun h107 k182 => brF Cnd.eq h8 (br Cnd.eq (fun h164 k179 => br Cnd.eq (fun h166 k176 => brF Cnd.eq h107 (br Cnd.seq (fun h169 k173 => ⟨k173, trivial⟩) (fun h170 k174 => ⟨k174, trivial⟩) k176)) (fun h167 k177 => ⟨k177, trivial⟩) k179) (fun h165 k180 => ⟨k180, trivial⟩) k182)) k184) k188.2.2⟩⟩⟩)⟩⟩⟩)⟩) h⟩⟩
theorem f6.eq (a : ByteArray × Int × Int) : (f6.af a).gives f6.env (f6.args a) (f6.blks a) (f6.res a) (f6.blks' a) = f6.tree a := by kernel_rfl
end Go.Abs

/- Layer 1: plain facts on numbers' bytes. -/
namespace Go.Abs
open Go

theorem mk_data (l : List UInt8) : (ByteArray.mk l.toArray).data.toList = l := rfl
theorem mk_size (l : List UInt8) : (ByteArray.mk l.toArray).size = l.length := by simp [ByteArray.size]
theorem by1_data (c : Int) : (by1 c).data.toList = [UInt8.ofNat c.toNat] := rfl
theorem by1_size (c : Int) : (by1 c).size = 1 := rfl
theorem empty_data : ByteArray.empty.data.toList = [] := rfl
theorem empty_app (b : ByteArray) : ByteArray.empty ++ b = b := bytes_ext (by rw [data_app, empty_data, List.nil_append])
theorem app_empty (b : ByteArray) : b ++ ByteArray.empty = b := bytes_ext (by rw [data_app, empty_data, List.append_nil])
theorem app_assoc (a b c : ByteArray) : a ++ b ++ c = a ++ (b ++ c) := bytes_ext (by simp only [data_app, List.append_assoc])
theorem data_length (b : ByteArray) : b.data.toList.length = b.size := by rw [Array.length_toList]; rfl
theorem empty_size : ByteArray.empty.size = 0 := rfl

theorem be_length (k n : Nat) : (be k n).length = k := by
  induction k generalizing n with
  | zero => rfl
  | succ k ih => simp [be, ih]

theorem be_hi (k n : Nat) : be (k + 1) n = UInt8.ofNat (n / 256 ^ k) :: be k n := by
  induction k generalizing n with
  | zero => simp [be]
  | succ k ih =>
    rw [be, ih, List.cons_append, Nat.div_div_eq_div_mul, ← Nat.pow_succ']
    rfl

theorem nb_le {n k : Nat} : nb n ≤ k ↔ n < 256 ^ k := by
  have e : (256 : Nat) ^ k = 2 ^ (8 * k) := by rw [Nat.pow_mul]
  rw [e]
  unfold nb blen
  split
  · rename_i h
    subst h
    exact ⟨fun _ => Nat.pow_pos (by decide), fun _ => by omega⟩
  · rename_i h
    rw [← Nat.log2_lt h]
    omega

theorem nb_zero : nb 0 = 0 := by simp [nb, blen]
theorem nb_pos {n : Nat} (h : n ≠ 0) : 0 < nb n := by
  rcases Nat.eq_zero_or_pos (nb n) with h1 | h1
  · have := nb_le.1 (Nat.le_of_eq h1)
    simp at this
    exact absurd this h
  · exact h1
theorem nb_eight {n : Nat} (h : n < 2 ^ 64) : nb n ≤ 8 := nb_le.2 (Nat.lt_of_lt_of_eq h (by decide))
theorem num_data (n : Nat) : (num n).data.toList = UInt8.ofNat (nb n) :: be (nb n) n := rfl
theorem num_size (n : Nat) : (num n).size = nb n + 1 := by rw [← data_length, num_data, List.length_cons, be_length]
theorem U64.lt {n : Int} (h : U64 n) : n.toNat < 2 ^ 64 := by obtain ⟨h1, h2⟩ := h; omega
theorem ofNat_wrap {e : Int} (h : 0 ≤ e) : UInt8.ofNat (IntKind.u8.wrap e).toNat = UInt8.ofNat e.toNat := by
  apply UInt8.toNat_inj.1
  rw [UInt8.toNat_ofNat', UInt8.toNat_ofNat']
  simp [IntKind.wrap, IntKind.signed, IntKind.bits]
  omega

theorem val_nonneg (b : ByteArray) (i k : Nat) : 0 ≤ val b i k := by
  induction k with
  | zero => exact Int.le_refl 0
  | succ k ih => have := (u8bN b (i + k)).1; simp only [val]; omega
theorem val_lt (b : ByteArray) (i k : Nat) : val b i k < 256 ^ k := by
  induction k with
  | zero => exact (by decide : (0 : Int) < 1)
  | succ k ih =>
    have h1 := (u8bN b (i + k)).2
    simp only [val]
    rw [Int.pow_succ]
    omega
theorem val_bd {b : ByteArray} {i k : Nat} (h : k ≤ 8) : val b i k ≤ 18446744073709551615 := by
  have h1 := val_lt b i k
  have h2 : (256 : Int) ^ k ≤ 256 ^ 8 := by
    have h4 : (256 : Nat) ^ k ≤ 256 ^ 8 := Nat.pow_le_pow_right (by decide) h
    have h5 : ((256 ^ k : Nat) : Int) ≤ ((256 ^ 8 : Nat) : Int) := Int.ofNat_le.2 h4
    rw [Int.natCast_pow, Int.natCast_pow] at h5
    exact h5
  have h3 : (256 : Int) ^ 8 = 18446744073709551616 := by decide
  omega

theorem takeN_bd (a : ByteArray × Int) : 0 ≤ (takeN a).1 ∧ (takeN a).1 ≤ 18446744073709551615 ∧ 0 ≤ (takeN a).2.1 ∧ (takeN a).2.1 ≤ a.1.size := by
  unfold takeN
  have hb := u8b a.1 a.2
  split
  · simp
  · split
    · simp
    · split
      · simp
      · split
        · simp
        · split
          · simp
          · simp only
            refine ⟨val_nonneg _ _ _, val_bd (by omega), by omega, by omega⟩

theorem bAtN_eq {b : ByteArray} {i : Int} : bAt b i = bAtN b i.toNat := rfl
theorem bAt_sub {b : ByteArray} {lo hi i : Int} (h : (0 : Int) ≤ lo ∧ lo ≤ hi ∧ hi ≤ (b.size : Int)) (h0 : 0 ≤ i) (h1 : i < hi - lo) : bAt (subB b lo hi) i = bAt b (lo + i) := by
  unfold bAt subB
  rw [ByteArray.data_extract, nth_getD, nth_getD]
  simp only [List.getD_eq_getElem?_getD, Array.getElem?_toList, Array.getElem?_extract]
  have hb : b.data.size = b.size := rfl
  rw [if_pos (by omega), show Int.toNat (lo + i) = lo.toNat + i.toNat from by omega]

/-- n << 8 | c -/
theorem shl_or {n c : Int} (h0 : 0 ≤ n) (h1 : n < 72057594037927936) (h2 : 0 ≤ c) (h3 : c ≤ 255) :
    IntKind.u64.wrap ((BitVec.ofInt 64 (IntKind.u64.wrap (n * 256)) ||| BitVec.ofInt 64 c).toNat : Int) = n * 256 + c := by
  obtain ⟨n, rfl⟩ := Int.eq_ofNat_of_zero_le h0
  obtain ⟨c, rfl⟩ := Int.eq_ofNat_of_zero_le h2
  have e1 : IntKind.u64.wrap ((n : Int) * 256) = ((n * 256 : Nat) : Int) := by
    rw [wrap_id (by simp [IntKind.signed]; omega) (by simp [IntKind.signed, IntKind.bits]; omega)]
    simp
  rw [e1, BitVec.ofInt_natCast, BitVec.ofInt_natCast, BitVec.toNat_or, BitVec.toNat_ofNat, BitVec.toNat_ofNat, Nat.mod_eq_of_lt (by omega), Nat.mod_eq_of_lt (by omega)]
  have e2 : n * 256 ||| c = n * 256 + c := by
    have := Nat.two_pow_add_eq_or_of_lt (i := 8) (b := c) (by omega) n
    rw [show n * 256 = 2 ^ 8 * n from by omega, this]
  rw [e2, wrap_id (by simp [IntKind.signed]; omega) (by simp [IntKind.signed, IntKind.bits]; omega)]
  simp

end Go.Abs

-- interregnum/interregnumref01.Number
namespace Go.Abs
open Go
def f15.args (a : Int) : List D := [.int .u64 a]
def f15.blks (a : Int) : List (List D) := []
def f15.res (a : Int) : List D := [.str (numS a)]
def f15.blks' (a : Int) : List (List D) := []
def f15.C : Contract := FnC f15.args f15.blks (fun a => num_pre a) f15.res f15.blks'
end Go.Abs

/- interregnum/interregnumref01.Number -/
namespace Go.Abs
open Go
set_option linter.unusedVariables false
def f15.kills (a : Int) : List Hint := [.tell (Int × ByteArray) (fun x => ⟨[.int .u64 x.1, .dead, .dead, .str x.2, .dead, .dead, .dead, .dead, .dead, .dead, .dead, .dead, .dead, .dead, .dead, .dead, .dead, .dead, .dead, .dead, .dead, .dead], [], []⟩)]
def f15.cuts (a : Int) : List (Nat × Σ β : Type, β → Tm) := []
def f15.af (a : Int) : AF := AF.mk (.seq (.region [⟨(some 2), 0, .move, [.c (.str ByteArray.empty)], none⟩])
 (.seq (.region [⟨(some 3), 1, .move, [.c (.str ByteArray.empty)], none⟩])
 (.seq (.block 0 (.loopT (Int × ByteArray) (fun x => ⟨[.int .u64 x.1, .dead, .dead, .str x.2, .dead, .dead, .dead, .dead, .dead, .dead, .dead, .dead, .dead, .dead, .dead, .dead, .dead, .dead, .dead, .dead, .dead, .dead], [], []⟩) 2 15 (.seq (.seq (.region [⟨(some 4), 2, .move, [.t 0], none⟩,
  ⟨(some 5), 3, (.bin .gtr), [.t 4, .c (.int .u64 (0))], none⟩])
 (.cond (.t 5) (.skip) (.exit 0)))
 (.block 1 (.seq (.region [⟨(some 6), 4, .move, [.t 0], none⟩,
  ⟨(some 7), 5, (.bin .rem), [.t 6, .c (.int .u64 (256))], none⟩,
  ⟨(some 8), 6, (.conv (.int .u8)), [.t 7], none⟩,
  ⟨(some 9), 7, (.buildSlice 1 1 [.int .u8 (0)] [(0, 1)]), [.t 8], none⟩,
  ⟨(some 10), 8, (.conv .b2s), [.t 9], none⟩,
  ⟨(some 11), 9, .move, [.t 3], none⟩,
  ⟨(some 12), 10, (.bin .add), [.t 10, .t 11], none⟩,
  ⟨(some 3), 11, .move, [.t 12], none⟩])
 (.region [⟨(some 13), 12, .move, [.t 0], none⟩,
  ⟨(some 14), 13, (.bin .quo), [.t 13, .c (.int .u64 (256))], none⟩,
  ⟨(some 0), 14, .move, [.t 14], none⟩]))))))
 (.seq (.region [⟨(some 15), 15, .move, [.t 3], none⟩,
  ⟨(some 16), 16, (.len true), [.t 15], none⟩,
  ⟨(some 17), 17, (.conv (.int .u8)), [.t 16], none⟩,
  ⟨(some 18), 18, (.buildSlice 1 1 [.int .u8 (0)] [(0, 1)]), [.t 17], none⟩,
  ⟨(some 19), 19, (.conv .b2s), [.t 18], none⟩,
  ⟨(some 20), 20, .move, [.t 3], none⟩,
  ⟨(some 21), 21, (.bin .add), [.t 19, .t 20], none⟩,
  ⟨(some 2), 22, .move, [.t 21], none⟩])
 (.ret)))))
  [.tmp 2] 0 21
def f15.env : Env := []
def f15.tree (a : Int) : Prop := ∃ (I2 : (Int × ByteArray) → Prop) (μ3 : (Int × ByteArray) → Nat), (∃ x1 : Int × ByteArray, (a = x1.1) ∧ (ByteArray.empty = x1.2) ∧ I2 x1) ∧ ∀ y4 : Int × ByteArray, I2 y4 → (Br (decide ((0 : Int) < y4.1)) (Let (Int.tmod y4.1 (256 : Int)) (fun v7 : Int => Bytes 1 (fun _ => [.int .u8 (IntKind.u8.wrap v7)]) ∧ Let (textOf 1 (fun _ => [.int .u8 (IntKind.u8.wrap v7)])) (fun v8 : ByteArray => Br (Nat.ble (v8.size + y4.2.size) 9223372036854775807) (Let (IntKind.u64.wrap (Int.tdiv y4.1 (256 : Int))) (fun v10 : Int => ∃ x11 : Int × ByteArray, (v10 = x11.1) ∧ ((v8 ++ y4.2) = x11.2) ∧ I2 x11 ∧ μ3 x11 < μ3 y4)) False))) (Bytes 1 (fun _ => [.int .u8 (IntKind.u8.wrap (y4.2.size : Int))]) ∧ Let (textOf 1 (fun _ => [.int .u8 (IntKind.u8.wrap (y4.2.size : Int))])) (fun v14 : ByteArray => Br (Nat.ble (v14.size + y4.2.size) 9223372036854775807) (((v14 ++ y4.2) = (numS a)) ∧ True) False)))
def f15.vc (a : Int) : Prop := (∃ (I2 : (Int × ByteArray) → Prop) (μ3 : (Int × ByteArray) → Nat), I2 (a, ByteArray.empty) ∧ ∀ y4 : Int × ByteArray, I2 y4 → (((0 : Int) < y4.1 → (0 ≤ y4.1 ∧ (((by1 (IntKind.u8.wrap (y4.1 % (256 : Int)))).size + y4.2.size ≤ 9223372036854775807) ∧ (0 ≤ y4.1 ∧ y4.1 ≤ 18446744073709551615 ∧ (I2 ((y4.1 / (256 : Int)), (by1 (IntKind.u8.wrap (y4.1 % (256 : Int)))) ++ y4.2) ∧ μ3 ((y4.1 / (256 : Int)), (by1 (IntKind.u8.wrap (y4.1 % (256 : Int)))) ++ y4.2) < μ3 y4))))) ∧ (¬ ((0 : Int) < y4.1) → (((by1 (IntKind.u8.wrap (y4.2.size : Int))).size + y4.2.size ≤ 9223372036854775807) ∧ ((by1 (IntKind.u8.wrap (y4.2.size : Int))) ++ y4.2 = numS a)))))
set_option maxRecDepth 100000 in
set_option maxHeartbeats 2000000 in
theorem f15.of (a : Int) (h : f15.vc a) : f15.tree a := Exists.elim h (fun I2 h20_ => Exists.elim h20_ (fun μ3 h20 => ⟨I2, μ3, ⟨(a, ByteArray.empty), ⟨rfl, ⟨rfl, h20.1⟩⟩⟩, fun y4 h22 => br Cnd.dec (fun h5 k18 => modK k18.1 (b2s (RdB.one (by first | exact u8w _ | exact u8b _ _ | exact u8bN _ _ | decide | omega)) (fun h => chk Cnd.ble (fun h9 k13 => divK.u64 k13.1 k13.2.1 (by decide) (⟨((y4.1 / (256 : Int)), (by1 (IntKind.u8.wrap (y4.1 % (256 : Int)))) ++ y4.2), ⟨rfl, ⟨rfl, k13.2.2⟩⟩⟩)) h) k18.2)) (fun h6 k19 => b2s (RdB.one (by first | exact u8w _ | exact u8b _ _ | exact u8bN _ _ | decide | omega)) (fun h => chk Cnd.ble (fun h15 k17 => ⟨k17, trivial⟩) h) k19) (h20.2 y4 h22)⟩))
theorem f15.eq (a : Int) : (f15.af a).gives f15.env (f15.args a) (f15.blks a) (f15.res a) (f15.blks' a) = f15.tree a := by kernel_rfl
end Go.Abs

-- interregnum/interregnumref01.Text
namespace Go.Abs
open Go
def f17.args (a : ByteArray) : List D := [.str a]
def f17.blks (a : ByteArray) : List (List D) := []
def f17.res (a : ByteArray) : List D := [.str (textS a)]
def f17.blks' (a : ByteArray) : List (List D) := []
def f17.C : Contract := FnC f17.args f17.blks (fun a => text_pre a) f17.res f17.blks'
end Go.Abs

/- interregnum/interregnumref01.Text -/
namespace Go.Abs
open Go
set_option linter.unusedVariables false
def f17.kills (a : ByteArray) : List Hint := []
def f17.cuts (a : ByteArray) : List (Nat × Σ β : Type, β → Tm) := []
def f17.af (a : ByteArray) : AF := AF.mk (.seq (.region [⟨(some 2), 0, .move, [.c (.str ByteArray.empty)], none⟩])
 (.seq (.region [⟨(some 3), 1, .move, [.t 0], none⟩,
  ⟨(some 4), 2, (.len true), [.t 3], none⟩,
  ⟨(some 5), 3, (.conv (.int .u64)), [.t 4], none⟩,
  ⟨(some 6), 4, (.call false 15), [.t 5], none⟩,
  ⟨(some 7), 8, .move, [.t 0], none⟩,
  ⟨(some 8), 9, (.bin .add), [.t 6, .t 7], none⟩,
  ⟨(some 2), 10, .move, [.t 8], none⟩])
 (.ret)))
  [.tmp 2] 0 8
def f17.env : Env := [(15, f15.C)]
def f17.tree (a : ByteArray) : Prop := Let (IntKind.u64.wrap (a.size : Int)) (fun v1 : Int => ∃ c2 : Int, (v1 = c2) ∧ (num_pre c2) ∧ Br (Nat.ble ((numS c2).size + a.size) 9223372036854775807) ((((numS c2) ++ a) = (textS a)) ∧ True) False)
def f17.vc (a : ByteArray) : Prop := (0 ≤ (a.size : Int) ∧ (a.size : Int) ≤ 18446744073709551615 ∧ (num_pre (a.size : Int) ∧ (((numS (a.size : Int)).size + a.size ≤ 9223372036854775807) ∧ ((numS (a.size : Int)) ++ a = textS a))))
set_option maxRecDepth 100000 in
set_option maxHeartbeats 2000000 in
theorem f17.of (a : ByteArray) (h : f17.vc a) : f17.tree a := wrapK.u64 (fun h7 h8 k9 => ⟨(a.size : Int), ⟨rfl, ⟨k9.1, chk Cnd.ble (fun h3 k5 => ⟨k5, trivial⟩) k9.2⟩⟩⟩) h
theorem f17.eq (a : ByteArray) : (f17.af a).gives f17.env (f17.args a) (f17.blks a) (f17.res a) (f17.blks' a) = f17.tree a := by kernel_rfl
end Go.Abs

-- interregnum/interregnumref01.Take
namespace Go.Abs
open Go
def f19.args (a : ByteArray × Int) : List D := [.str a.1, .int .i64 a.2]
def f19.blks (a : ByteArray × Int) : List (List D) := []
def f19.res (a : ByteArray × Int) : List D := [.int .u64 ((takeN a).1), .int .i64 ((takeN a).2.1), .int .i64 ((takeN a).2.2)]
def f19.blks' (a : ByteArray × Int) : List (List D) := []
def f19.C : Contract := FnC f19.args f19.blks (fun a => take_pre a) f19.res f19.blks'
end Go.Abs

/- interregnum/interregnumref01.Take -/
namespace Go.Abs
open Go
set_option linter.unusedVariables false
def f19.kills (a : ByteArray × Int) : List Hint := [.tell (Int × Int × Int) (fun x => ⟨[.str a.1, .int .i64 a.2, .dead, .dead, .dead, .dead, .dead, .int .i64 x.1, .int .u64 x.2.1, .int .i64 x.2.2, .dead, .dead, .dead, .dead, .dead, .dead, .dead, .dead, .dead, .dead, .dead, .dead, .dead, .dead, .dead, .dead, .dead, .dead, .dead, .dead, .dead, .dead, .dead, .dead, .dead, .dead, .dead, .dead, .dead, .dead, .dead, .dead, .dead, .dead, .dead, .dead, .dead, .dead, .dead, .dead, .dead, .dead, .dead, .dead, .dead, .dead, .dead, .dead, .dead, .dead, .dead, .dead, .dead], [], []⟩)]
def f19.cuts (a : ByteArray × Int) : List (Nat × Σ β : Type, β → Tm) := []
def f19.af (a : ByteArray × Int) : AF := AF.mk (.seq (.region [⟨(some 4), 0, .move, [.c (.int .u64 (0))], none⟩,
  ⟨(some 5), 1, .move, [.c (.int .i64 (0))], none⟩,
  ⟨(some 6), 2, .move, [.c (.int .i64 (0))], none⟩])
 (.seq (.seq (.region [⟨(some 11), 3, .move, [.t 1], none⟩,
  ⟨(some 12), 4, (.bin .lss), [.t 11, .c (.int .i64 (0))], none⟩,
  ⟨(some 13), 5, .move, [.t 12], none⟩,
  ⟨(some 14), 6, .move, [.t 1], (some (13, false))⟩,
  ⟨(some 15), 7, .move, [.t 0], (some (13, false))⟩,
  ⟨(some 16), 8, (.len true), [.t 15], (some (13, false))⟩,
  ⟨(some 17), 9, (.bin .gtr), [.t 14, .t 16], (some (13, false))⟩,
  ⟨(some 18), 10, .pick, [.t 13, .c (.bool true), .t 17], none⟩])
 (.cond (.t 18) (.seq (.region [⟨(some 4), 11, .move, [.c (.int .u64 (0))], none⟩,
  ⟨(some 5), 12, .move, [.c (.int .i64 (0))], none⟩,
  ⟨(some 6), 13, .move, [.c (.int .i64 (1))], none⟩])
 (.ret)) (.skip)))
 (.seq (.seq (.region [⟨(some 19), 14, .move, [.t 1], none⟩,
  ⟨(some 20), 15, .move, [.t 0], none⟩,
  ⟨(some 21), 16, (.len true), [.t 20], none⟩,
  ⟨(some 22), 17, (.bin .eql), [.t 19, .t 21], none⟩])
 (.cond (.t 22) (.seq (.region [⟨(some 4), 18, .move, [.c (.int .u64 (0))], none⟩,
  ⟨(some 5), 19, .move, [.c (.int .i64 (0))], none⟩,
  ⟨(some 6), 20, .move, [.c (.int .i64 (2))], none⟩])
 (.ret)) (.skip)))
 (.seq (.region [⟨(some 23), 21, .move, [.t 0], none⟩,
  ⟨(some 24), 22, .move, [.t 1], none⟩,
  ⟨(some 25), 23, .indexStr, [.t 23, .t 24], none⟩,
  ⟨(some 26), 24, (.conv (.int .i64)), [.t 25], none⟩,
  ⟨(some 7), 25, .move, [.t 26], none⟩])
 (.seq (.seq (.region [⟨(some 27), 26, .move, [.t 7], none⟩,
  ⟨(some 28), 27, (.bin .gtr), [.t 27, .c (.int .i64 (8))], none⟩])
 (.cond (.t 28) (.seq (.region [⟨(some 4), 28, .move, [.c (.int .u64 (0))], none⟩,
  ⟨(some 5), 29, .move, [.c (.int .i64 (0))], none⟩,
  ⟨(some 6), 30, .move, [.c (.int .i64 (3))], none⟩])
 (.ret)) (.skip)))
 (.seq (.seq (.region [⟨(some 29), 31, .move, [.t 0], none⟩,
  ⟨(some 30), 32, (.len true), [.t 29], none⟩,
  ⟨(some 31), 33, .move, [.t 1], none⟩,
  ⟨(some 32), 34, (.bin .sub), [.t 30, .t 31], none⟩,
  ⟨(some 33), 35, (.bin .sub), [.t 32, .c (.int .i64 (1))], none⟩,
  ⟨(some 34), 36, .move, [.t 7], none⟩,
  ⟨(some 35), 37, (.bin .lss), [.t 33, .t 34], none⟩])
 (.cond (.t 35) (.seq (.region [⟨(some 4), 38, .move, [.c (.int .u64 (0))], none⟩,
  ⟨(some 5), 39, .move, [.c (.int .i64 (0))], none⟩,
  ⟨(some 6), 40, .move, [.c (.int .i64 (2))], none⟩])
 (.ret)) (.skip)))
 (.seq (.region [⟨(some 8), 41, .move, [.c (.int .u64 (0))], none⟩])
 (.seq (.seq (.region [⟨(some 9), 42, .move, [.c (.int .i64 (0))], none⟩])
 (.block 0 (.loopT (Int × Int × Int) (fun x => ⟨[.str a.1, .int .i64 a.2, .dead, .dead, .dead, .dead, .dead, .int .i64 x.1, .int .u64 x.2.1, .int .i64 x.2.2, .dead, .dead, .dead, .dead, .dead, .dead, .dead, .dead, .dead, .dead, .dead, .dead, .dead, .dead, .dead, .dead, .dead, .dead, .dead, .dead, .dead, .dead, .dead, .dead, .dead, .dead, .dead, .dead, .dead, .dead, .dead, .dead, .dead, .dead, .dead, .dead, .dead, .dead, .dead, .dead, .dead, .dead, .dead, .dead, .dead, .dead, .dead, .dead, .dead, .dead, .dead, .dead, .dead], [], []⟩) 43 71 (.seq (.seq (.region [⟨(some 36), 43, .move, [.t 9], none⟩,
  ⟨(some 37), 44, .move, [.t 7], none⟩,
  ⟨(some 38), 45, (.bin .lss), [.t 36, .t 37], none⟩])
 (.cond (.t 38) (.skip) (.exit 0)))
 (.seq (.block 1 (.seq (.region [⟨(some 41), 46, .move, [.t 0], none⟩,
  ⟨(some 42), 47, .move, [.t 1], none⟩,
  ⟨(some 43), 48, (.bin .add), [.t 42, .c (.int .i64 (1))], none⟩,
  ⟨(some 44), 49, .move, [.t 9], none⟩,
  ⟨(some 45), 50, (.bin .add), [.t 43, .t 44], none⟩,
  ⟨(some 46), 51, .indexStr, [.t 41, .t 45], none⟩,
  ⟨(some 10), 52, .move, [.t 46], none⟩])
 (.seq (.seq (.region [⟨(some 47), 53, .move, [.t 9], none⟩,
  ⟨(some 48), 54, (.bin .eql), [.t 47, .c (.int .i64 (0))], none⟩,
  ⟨(some 49), 55, .move, [.t 48], none⟩,
  ⟨(some 50), 56, .move, [.t 10], (some (49, true))⟩,
  ⟨(some 51), 57, (.bin .eql), [.t 50, .c (.int .u8 (0))], (some (49, true))⟩,
  ⟨(some 52), 58, .pick, [.t 49, .t 51, .c (.bool false)], none⟩])
 (.cond (.t 52) (.seq (.region [⟨(some 4), 59, .move, [.c (.int .u64 (0))], none⟩,
  ⟨(some 5), 60, .move, [.c (.int .i64 (0))], none⟩,
  ⟨(some 6), 61, .move, [.c (.int .i64 (3))], none⟩])
 (.ret)) (.skip)))
 (.region [⟨(some 53), 62, .move, [.t 8], none⟩,
  ⟨(some 54), 63, (.bin .mul), [.t 53, .c (.int .u64 (256))], none⟩,
  ⟨(some 55), 64, .move, [.t 10], none⟩,
  ⟨(some 56), 65, (.conv (.int .u64)), [.t 55], none⟩,
  ⟨(some 57), 66, (.bin .add), [.t 54, .t 56], none⟩,
  ⟨(some 8), 67, .move, [.t 57], none⟩]))))
 (.region [⟨(some 39), 68, .move, [.t 9], none⟩,
  ⟨(some 40), 69, (.bin .add), [.t 39, .c (.int .i64 (1))], none⟩,
  ⟨(some 9), 70, .move, [.t 40], none⟩]))))))
 (.seq (.region [⟨(some 58), 71, .move, [.t 8], none⟩,
  ⟨(some 59), 72, .move, [.t 1], none⟩,
  ⟨(some 60), 73, (.bin .add), [.t 59, .c (.int .i64 (1))], none⟩,
  ⟨(some 61), 74, .move, [.t 7], none⟩,
  ⟨(some 62), 75, (.bin .add), [.t 60, .t 61], none⟩,
  ⟨(some 4), 76, .move, [.t 58], none⟩,
  ⟨(some 5), 77, .move, [.t 62], none⟩,
  ⟨(some 6), 78, .move, [.c (.int .i64 (0))], none⟩])
 (.ret))))))))))
  [.tmp 4, .tmp 5, .tmp 6] 0 61
def f19.env : Env := []
def f19.tree (a : ByteArray × Int) : Prop := Br (decide (a.2 < (0 : Int))) (((0 : Int) = ((takeN a).1)) ∧ ((0 : Int) = ((takeN a).2.1)) ∧ ((1 : Int) = ((takeN a).2.2)) ∧ True) (Br (decide ((a.1.size : Int) < a.2)) (((0 : Int) = ((takeN a).1)) ∧ ((0 : Int) = ((takeN a).2.1)) ∧ ((1 : Int) = ((takeN a).2.2)) ∧ True) (Br (a.2 == (a.1.size : Int)) (((0 : Int) = ((takeN a).1)) ∧ ((0 : Int) = ((takeN a).2.1)) ∧ ((2 : Int) = ((takeN a).2.2)) ∧ True) (Br (decide ((0 : Int) ≤ a.2) && decide (a.2 < (a.1.size : Int))) (Let (IntKind.i64.wrap (bAt a.1 a.2)) (fun v11 : Int => Br (decide ((8 : Int) < v11)) (((0 : Int) = ((takeN a).1)) ∧ ((0 : Int) = ((takeN a).2.1)) ∧ ((3 : Int) = ((takeN a).2.2)) ∧ True) (Let (IntKind.i64.wrap ((a.1.size : Int) - a.2)) (fun v15 : Int => Let (IntKind.i64.wrap (v15 - (1 : Int))) (fun v16 : Int => Br (decide (v16 < v11)) (((0 : Int) = ((takeN a).1)) ∧ ((0 : Int) = ((takeN a).2.1)) ∧ ((2 : Int) = ((takeN a).2.2)) ∧ True) (∃ (I21 : (Int × Int × Int) → Prop) (μ22 : (Int × Int × Int) → Nat), (∃ x20 : Int × Int × Int, (a.1 = a.1) ∧ (a.2 = a.2) ∧ (v11 = x20.1) ∧ ((0 : Int) = x20.2.1) ∧ ((0 : Int) = x20.2.2) ∧ I21 x20) ∧ ∀ y23 : Int × Int × Int, I21 y23 → (Br (decide (y23.2.2 < y23.1)) (Let (IntKind.i64.wrap (a.2 + (1 : Int))) (fun v26 : Int => Let (IntKind.i64.wrap (v26 + y23.2.2)) (fun v27 : Int => Br (decide ((0 : Int) ≤ v27) && decide (v27 < (a.1.size : Int))) (Br (y23.2.2 == (0 : Int)) (Br ((bAt a.1 v27) == (0 : Int)) (((0 : Int) = ((takeN a).1)) ∧ ((0 : Int) = ((takeN a).2.1)) ∧ ((3 : Int) = ((takeN a).2.2)) ∧ True) (Let (IntKind.u64.wrap (y23.2.1 * (256 : Int))) (fun v34 : Int => Let (IntKind.u64.wrap (bAt a.1 v27)) (fun v35 : Int => Let (IntKind.u64.wrap (v34 + v35)) (fun v36 : Int => Let (IntKind.i64.wrap (y23.2.2 + (1 : Int))) (fun v37 : Int => ∃ x38 : Int × Int × Int, (a.1 = a.1) ∧ (a.2 = a.2) ∧ (y23.1 = x38.1) ∧ (v36 = x38.2.1) ∧ (v37 = x38.2.2) ∧ I21 x38 ∧ μ22 x38 < μ22 y23)))))) (Let (IntKind.u64.wrap (y23.2.1 * (256 : Int))) (fun v54 : Int => Let (IntKind.u64.wrap (bAt a.1 v27)) (fun v55 : Int => Let (IntKind.u64.wrap (v54 + v55)) (fun v56 : Int => Let (IntKind.i64.wrap (y23.2.2 + (1 : Int))) (fun v57 : Int => ∃ x58 : Int × Int × Int, (a.1 = a.1) ∧ (a.2 = a.2) ∧ (y23.1 = x58.1) ∧ (v56 = x58.2.1) ∧ (v57 = x58.2.2) ∧ I21 x58 ∧ μ22 x58 < μ22 y23)))))) False))) (Let (IntKind.i64.wrap (a.2 + (1 : Int))) (fun v81 : Int => Let (IntKind.i64.wrap (v81 + y23.1)) (fun v82 : Int => (y23.2.1 = ((takeN a).1)) ∧ (v82 = ((takeN a).2.1)) ∧ ((0 : Int) = ((takeN a).2.2)) ∧ True)))))))))) False)))
def f19.vc (a : ByteArray × Int) : Prop := ((a.2 < (0 : Int) → (((0 : Int), (0 : Int), (1 : Int)) = takeN a)) ∧ (¬ (a.2 < (0 : Int)) → (((a.1.size : Int) < a.2 → (((0 : Int), (0 : Int), (1 : Int)) = takeN a)) ∧ (¬ ((a.1.size : Int) < a.2) → ((a.2 = (a.1.size : Int) → (((0 : Int), (0 : Int), (2 : Int)) = takeN a)) ∧ (¬ (a.2 = (a.1.size : Int)) → ((0 : Int) ≤ a.2 ∧ a.2 < (a.1.size : Int) ∧ (((8 : Int) < (bAt a.1 a.2) → (((0 : Int), (0 : Int), (3 : Int)) = takeN a)) ∧ (¬ ((8 : Int) < (bAt a.1 a.2)) → (-9223372036854775808 ≤ ((a.1.size : Int) - a.2) ∧ ((a.1.size : Int) - a.2) ≤ 9223372036854775807 ∧ (-9223372036854775808 ≤ (((a.1.size : Int) - a.2) - (1 : Int)) ∧ (((a.1.size : Int) - a.2) - (1 : Int)) ≤ 9223372036854775807 ∧ (((((a.1.size : Int) - a.2) - (1 : Int)) < (bAt a.1 a.2) → (((0 : Int), (0 : Int), (2 : Int)) = takeN a)) ∧ (¬ ((((a.1.size : Int) - a.2) - (1 : Int)) < (bAt a.1 a.2)) → (∃ (I21 : (Int × Int × Int) → Prop) (μ22 : (Int × Int × Int) → Nat), I21 ((bAt a.1 a.2), (0 : Int), (0 : Int)) ∧ ∀ y23 : Int × Int × Int, I21 y23 → ((y23.2.2 < y23.1 → (-9223372036854775808 ≤ (a.2 + (1 : Int)) ∧ (a.2 + (1 : Int)) ≤ 9223372036854775807 ∧ (-9223372036854775808 ≤ ((a.2 + (1 : Int)) + y23.2.2) ∧ ((a.2 + (1 : Int)) + y23.2.2) ≤ 9223372036854775807 ∧ ((0 : Int) ≤ ((a.2 + (1 : Int)) + y23.2.2) ∧ ((a.2 + (1 : Int)) + y23.2.2) < (a.1.size : Int) ∧ ((y23.2.2 = (0 : Int) → (((bAt a.1 ((a.2 + (1 : Int)) + y23.2.2)) = (0 : Int) → (((0 : Int), (0 : Int), (3 : Int)) = takeN a)) ∧ (¬ ((bAt a.1 ((a.2 + (1 : Int)) + y23.2.2)) = (0 : Int)) → (0 ≤ (y23.2.1 * (256 : Int)) ∧ (y23.2.1 * (256 : Int)) ≤ 18446744073709551615 ∧ (0 ≤ ((y23.2.1 * (256 : Int)) + (bAt a.1 ((a.2 + (1 : Int)) + y23.2.2))) ∧ ((y23.2.1 * (256 : Int)) + (bAt a.1 ((a.2 + (1 : Int)) + y23.2.2))) ≤ 18446744073709551615 ∧ (-9223372036854775808 ≤ (y23.2.2 + (1 : Int)) ∧ (y23.2.2 + (1 : Int)) ≤ 9223372036854775807 ∧ (I21 (y23.1, ((y23.2.1 * (256 : Int)) + (bAt a.1 ((a.2 + (1 : Int)) + y23.2.2))), (y23.2.2 + (1 : Int))) ∧ μ22 (y23.1, ((y23.2.1 * (256 : Int)) + (bAt a.1 ((a.2 + (1 : Int)) + y23.2.2))), (y23.2.2 + (1 : Int))) < μ22 y23))))))) ∧ (¬ (y23.2.2 = (0 : Int)) → (0 ≤ (y23.2.1 * (256 : Int)) ∧ (y23.2.1 * (256 : Int)) ≤ 18446744073709551615 ∧ (0 ≤ ((y23.2.1 * (256 : Int)) + (bAt a.1 ((a.2 + (1 : Int)) + y23.2.2))) ∧ ((y23.2.1 * (256 : Int)) + (bAt a.1 ((a.2 + (1 : Int)) + y23.2.2))) ≤ 18446744073709551615 ∧ (-9223372036854775808 ≤ (y23.2.2 + (1 : Int)) ∧ (y23.2.2 + (1 : Int)) ≤ 9223372036854775807 ∧ (I21 (y23.1, ((y23.2.1 * (256 : Int)) + (bAt a.1 ((a.2 + (1 : Int)) + y23.2.2))), (y23.2.2 + (1 : Int))) ∧ μ22 (y23.1, ((y23.2.1 * (256 : Int)) + (bAt a.1 ((a.2 + (1 : Int)) + y23.2.2))), (y23.2.2 + (1 : Int))) < μ22 y23)))))))))) ∧ (¬ (y23.2.2 < y23.1) → (-9223372036854775808 ≤ (a.2 + (1 : Int)) ∧ (a.2 + (1 : Int)) ≤ 9223372036854775807 ∧ (-9223372036854775808 ≤ ((a.2 + (1 : Int)) + y23.1) ∧ ((a.2 + (1 : Int)) + y23.1) ≤ 9223372036854775807 ∧ ((y23.2.1, ((a.2 + (1 : Int)) + y23.1), (0 : Int)) = takeN a)))))))))))))))))))
set_option maxRecDepth 100000 in
set_option maxHeartbeats 2000000 in
theorem f19.of (a : ByteArray × Int) (h : f19.vc a) : f19.tree a := br Cnd.dec (fun h1 k113 => ⟨(congrArg (fun x : Int × Int × Int => x.1) k113 :), ⟨(congrArg (fun x : Int × Int × Int => x.2.1) k113 :), ⟨(congrArg (fun x : Int × Int × Int => x.2.2) k113 :), trivial⟩⟩⟩) (fun h2 k114 => br Cnd.dec (fun h4 k111 => ⟨(congrArg (fun x : Int × Int × Int => x.1) k111 :), ⟨(congrArg (fun x : Int × Int × Int => x.2.1) k111 :), ⟨(congrArg (fun x : Int × Int × Int => x.2.2) k111 :), trivial⟩⟩⟩) (fun h5 k112 => br Cnd.eq (fun h7 k109 => ⟨(congrArg (fun x : Int × Int × Int => x.1) k109 :), ⟨(congrArg (fun x : Int × Int × Int => x.2.1) k109 :), ⟨(congrArg (fun x : Int × Int × Int => x.2.2) k109 :), trivial⟩⟩⟩) (fun h8 k110 => chk Cnd.ix (fun h10 k108 => wrapR.i64 (u8b _ _) (br Cnd.dec (fun h12 k103 => ⟨(congrArg (fun x : Int × Int × Int => x.1) k103 :), ⟨(congrArg (fun x : Int × Int × Int => x.2.1) k103 :), ⟨(congrArg (fun x : Int × Int × Int => x.2.2) k103 :), trivial⟩⟩⟩) (fun h13 k104 => wrapK.i64 (fun h100 h101 k102 => wrapK.i64 (fun h97 h98 k99 => br Cnd.dec (fun h17 k95 => ⟨(congrArg (fun x : Int × Int × Int => x.1) k95 :), ⟨(congrArg (fun x : Int × Int × Int => x.2.1) k95 :), ⟨(congrArg (fun x : Int × Int × Int => x.2.2) k95 :), trivial⟩⟩⟩) (fun h18 k96 => Exists.elim k96 (fun I21 h92_ => Exists.elim h92_ (fun μ22 h92 => ⟨I21, μ22, ⟨((bAt a.1 a.2), (0 : Int), (0 : Int)), ⟨rfl, ⟨rfl, ⟨rfl, ⟨rfl, ⟨rfl, h92.1⟩⟩⟩⟩⟩⟩, fun y23 h94 => br Cnd.dec (fun h24 k90 => wrapK.i64 (fun h78 h79 k80 => wrapK.i64 (fun h75 h76 k77 => chk Cnd.ix (fun h28 k74 => br Cnd.eq (fun h29 k72 => br Cnd.eq (fun h31 k52 => ⟨(congrArg (fun x : Int × Int × Int => x.1) k52 :), ⟨(congrArg (fun x : Int × Int × Int => x.2.1) k52 :), ⟨(congrArg (fun x : Int × Int × Int => x.2.2) k52 :), trivial⟩⟩⟩) (fun h32 k53 => wrapK.u64 (fun h49 h50 k51 => wrapR.u64 (u8b _ _) (wrapK.u64 (fun h43 h44 k45 => wrapK.i64 (fun h40 h41 k42 => ⟨(y23.1, ((y23.2.1 * (256 : Int)) + (bAt a.1 ((a.2 + (1 : Int)) + y23.2.2))), (y23.2.2 + (1 : Int))), ⟨rfl, ⟨rfl, ⟨rfl, ⟨rfl, ⟨rfl, k42⟩⟩⟩⟩⟩⟩) k45) k51)) k53) k72) (fun h30 k73 => wrapK.u64 (fun h69 h70 k71 => wrapR.u64 (u8b _ _) (wrapK.u64 (fun h63 h64 k65 => wrapK.i64 (fun h60 h61 k62 => ⟨(y23.1, ((y23.2.1 * (256 : Int)) + (bAt a.1 ((a.2 + (1 : Int)) + y23.2.2))), (y23.2.2 + (1 : Int))), ⟨rfl, ⟨rfl, ⟨rfl, ⟨rfl, ⟨rfl, k62⟩⟩⟩⟩⟩⟩) k65) k71)) k73) k74) ⟨⟨k77.1, k77.2.1⟩, k77.2.2⟩) k80) k90) (fun h25 k91 => wrapK.i64 (fun h87 h88 k89 => wrapK.i64 (fun h84 h85 k86 => ⟨(congrArg (fun x : Int × Int × Int => x.1) k86 :), ⟨(congrArg (fun x : Int × Int × Int => x.2.1) k86 :), ⟨(congrArg (fun x : Int × Int × Int => x.2.2) k86 :), trivial⟩⟩⟩) k89) k91) (h92.2 y23 h94)⟩))) k99) k102) k104) k108)) ⟨⟨k110.1, k110.2.1⟩, k110.2.2⟩) k112) k114) h
theorem f19.eq (a : ByteArray × Int) : (f19.af a).gives f19.env (f19.args a) (f19.blks a) (f19.res a) (f19.blks' a) = f19.tree a := by kernel_rfl
end Go.Abs

-- interregnum/interregnumref01.TakeText
namespace Go.Abs
open Go
def f21.args (a : ByteArray × Int × Int) : List D := [.str a.1, .int .i64 a.2.1, .int .i64 a.2.2]
def f21.blks (a : ByteArray × Int × Int) : List (List D) := []
def f21.res (a : ByteArray × Int × Int) : List D := [.str ((takeText a).1), .int .i64 ((takeText a).2.1), .int .i64 ((takeText a).2.2)]
def f21.blks' (a : ByteArray × Int × Int) : List (List D) := []
def f21.C : Contract := FnC f21.args f21.blks (fun a => takeText_pre a) f21.res f21.blks'
end Go.Abs

/- interregnum/interregnumref01.TakeText -/
namespace Go.Abs
open Go
set_option linter.unusedVariables false
def f21.kills (a : ByteArray × Int × Int) : List Hint := []
def f21.cuts (a : ByteArray × Int × Int) : List (Nat × Σ β : Type, β → Tm) := []
def f21.af (a : ByteArray × Int × Int) : AF := AF.mk (.seq (.region [⟨(some 6), 0, .move, [.c (.str ByteArray.empty)], none⟩,
  ⟨(some 7), 1, .move, [.c (.int .i64 (0))], none⟩,
  ⟨(some 8), 2, .move, [.c (.int .i64 (0))], none⟩])
 (.seq (.seq (.region [⟨(some 12), 3, .move, [.t 2], none⟩,
  ⟨(some 13), 4, (.bin .lss), [.t 12, .c (.int .i64 (0))], none⟩])
 (.cond (.t 13) (.seq (.region [⟨(some 6), 5, .move, [.c (.str ByteArray.empty)], none⟩,
  ⟨(some 7), 6, .move, [.c (.int .i64 (0))], none⟩,
  ⟨(some 8), 7, .move, [.c (.int .i64 (1))], none⟩])
 (.ret)) (.skip)))
 (.seq (.region [⟨(some 15), 8, .move, [.t 0], none⟩,
  ⟨(some 16), 9, .move, [.t 1], none⟩,
  ⟨(some 17), 10, (.call false 19), [.t 15, .t 16], none⟩,
  ⟨(some 14), 14, .move, [.t 17], none⟩,
  ⟨(some 18), 15, (.extract 0), [.t 14], none⟩,
  ⟨(some 19), 16, (.extract 1), [.t 14], none⟩,
  ⟨(some 20), 17, (.extract 2), [.t 14], none⟩,
  ⟨(some 9), 18, .move, [.t 18], none⟩,
  ⟨(some 10), 19, .move, [.t 19], none⟩,
  ⟨(some 11), 20, .move, [.t 20], none⟩])
 (.seq (.seq (.region [⟨(some 21), 21, .move, [.t 11], none⟩,
  ⟨(some 22), 22, (.bin .neq), [.t 21, .c (.int .i64 (0))], none⟩])
 (.cond (.t 22) (.seq (.region [⟨(some 23), 23, .move, [.t 11], none⟩,
  ⟨(some 6), 24, .move, [.c (.str ByteArray.empty)], none⟩,
  ⟨(some 7), 25, .move, [.c (.int .i64 (0))], none⟩,
  ⟨(some 8), 26, .move, [.t 23], none⟩])
 (.ret)) (.skip)))
 (.seq (.seq (.region [⟨(some 24), 27, .move, [.t 9], none⟩,
  ⟨(some 25), 28, .move, [.t 2], none⟩,
  ⟨(some 26), 29, (.conv (.int .u64)), [.t 25], none⟩,
  ⟨(some 27), 30, (.bin .gtr), [.t 24, .t 26], none⟩])
 (.cond (.t 27) (.seq (.region [⟨(some 6), 31, .move, [.c (.str ByteArray.empty)], none⟩,
  ⟨(some 7), 32, .move, [.c (.int .i64 (0))], none⟩,
  ⟨(some 8), 33, .move, [.c (.int .i64 (4))], none⟩])
 (.ret)) (.skip)))
 (.seq (.seq (.region [⟨(some 28), 34, .move, [.t 0], none⟩,
  ⟨(some 29), 35, (.len true), [.t 28], none⟩,
  ⟨(some 30), 36, .move, [.t 10], none⟩,
  ⟨(some 31), 37, (.bin .sub), [.t 29, .t 30], none⟩,
  ⟨(some 32), 38, (.conv (.int .u64)), [.t 31], none⟩,
  ⟨(some 33), 39, .move, [.t 9], none⟩,
  ⟨(some 34), 40, (.bin .lss), [.t 32, .t 33], none⟩])
 (.cond (.t 34) (.seq (.region [⟨(some 6), 41, .move, [.c (.str ByteArray.empty)], none⟩,
  ⟨(some 7), 42, .move, [.c (.int .i64 (0))], none⟩,
  ⟨(some 8), 43, .move, [.c (.int .i64 (2))], none⟩])
 (.ret)) (.skip)))
 (.seq (.region [⟨(some 35), 44, .move, [.t 0], none⟩,
  ⟨(some 36), 45, .move, [.t 10], none⟩,
  ⟨(some 37), 46, .move, [.t 10], none⟩,
  ⟨(some 38), 47, .move, [.t 9], none⟩,
  ⟨(some 39), 48, (.conv (.int .i64)), [.t 38], none⟩,
  ⟨(some 40), 49, (.bin .add), [.t 37, .t 39], none⟩,
  ⟨(some 41), 50, (.sliceStr true true), [.t 35, .t 36, .t 40], none⟩,
  ⟨(some 42), 51, .move, [.t 10], none⟩,
  ⟨(some 43), 52, .move, [.t 9], none⟩,
  ⟨(some 44), 53, (.conv (.int .i64)), [.t 43], none⟩,
  ⟨(some 45), 54, (.bin .add), [.t 42, .t 44], none⟩,
  ⟨(some 6), 55, .move, [.t 41], none⟩,
  ⟨(some 7), 56, .move, [.t 45], none⟩,
  ⟨(some 8), 57, .move, [.c (.int .i64 (0))], none⟩])
 (.ret))))))))
  [.tmp 6, .tmp 7, .tmp 8] 0 43
def f21.env : Env := [(19, f19.C)]
def f21.tree (a : ByteArray × Int × Int) : Prop := Br (decide (a.2.2 < (0 : Int))) ((ByteArray.empty = ((takeText a).1)) ∧ ((0 : Int) = ((takeText a).2.1)) ∧ ((1 : Int) = ((takeText a).2.2)) ∧ True) (∃ c4 : ByteArray × Int, (a.1 = c4.1) ∧ (a.2.1 = c4.2) ∧ (take_pre c4) ∧ Br (((takeN c4).2.2) != (0 : Int)) ((ByteArray.empty = ((takeText a).1)) ∧ ((0 : Int) = ((takeText a).2.1)) ∧ (((takeN c4).2.2) = ((takeText a).2.2)) ∧ True) (Let (IntKind.u64.wrap a.2.2) (fun v8 : Int => Br (decide (v8 < ((takeN c4).1))) ((ByteArray.empty = ((takeText a).1)) ∧ ((0 : Int) = ((takeText a).2.1)) ∧ ((4 : Int) = ((takeText a).2.2)) ∧ True) (Let (IntKind.i64.wrap ((a.1.size : Int) - ((takeN c4).2.1))) (fun v12 : Int => Let (IntKind.u64.wrap v12) (fun v13 : Int => Br (decide (v13 < ((takeN c4).1))) ((ByteArray.empty = ((takeText a).1)) ∧ ((0 : Int) = ((takeText a).2.1)) ∧ ((2 : Int) = ((takeText a).2.2)) ∧ True) (Let (IntKind.i64.wrap ((takeN c4).1)) (fun v17 : Int => Let (IntKind.i64.wrap (((takeN c4).2.1) + v17)) (fun v18 : Int => Br (decide ((0 : Int) ≤ ((takeN c4).2.1)) && decide (((takeN c4).2.1) ≤ v18) && decide (v18 ≤ (a.1.size : Int))) (Let (IntKind.i64.wrap ((takeN c4).1)) (fun v20 : Int => Let (IntKind.i64.wrap (((takeN c4).2.1) + v20)) (fun v21 : Int => ((subB a.1 ((takeN c4).2.1) v18) = ((takeText a).1)) ∧ (v21 = ((takeText a).2.1)) ∧ ((0 : Int) = ((takeText a).2.2)) ∧ True))) False)))))))))
def f21.vc (a : ByteArray × Int × Int) : Prop := ((a.2.2 < (0 : Int) → ((ByteArray.empty, (0 : Int), (1 : Int)) = takeText a)) ∧ (¬ (a.2.2 < (0 : Int)) → (take_pre (a.1, a.2.1) ∧ ((¬ ((takeN (a.1, a.2.1)).2.2) = (0 : Int) → ((ByteArray.empty, (0 : Int), (takeN (a.1, a.2.1)).2.2) = takeText a)) ∧ (¬ (¬ ((takeN (a.1, a.2.1)).2.2) = (0 : Int)) → (0 ≤ a.2.2 ∧ a.2.2 ≤ 18446744073709551615 ∧ (((a.2.2) < ((takeN (a.1, a.2.1)).1) → ((ByteArray.empty, (0 : Int), (4 : Int)) = takeText a)) ∧ (¬ ((a.2.2) < ((takeN (a.1, a.2.1)).1)) → (-9223372036854775808 ≤ ((a.1.size : Int) - ((takeN (a.1, a.2.1)).2.1)) ∧ ((a.1.size : Int) - ((takeN (a.1, a.2.1)).2.1)) ≤ 9223372036854775807 ∧ (0 ≤ ((a.1.size : Int) - ((takeN (a.1, a.2.1)).2.1)) ∧ ((a.1.size : Int) - ((takeN (a.1, a.2.1)).2.1)) ≤ 18446744073709551615 ∧ ((((a.1.size : Int) - ((takeN (a.1, a.2.1)).2.1)) < ((takeN (a.1, a.2.1)).1) → ((ByteArray.empty, (0 : Int), (2 : Int)) = takeText a)) ∧ (¬ (((a.1.size : Int) - ((takeN (a.1, a.2.1)).2.1)) < ((takeN (a.1, a.2.1)).1)) → (-9223372036854775808 ≤ ((takeN (a.1, a.2.1)).1) ∧ ((takeN (a.1, a.2.1)).1) ≤ 9223372036854775807 ∧ (-9223372036854775808 ≤ (((takeN (a.1, a.2.1)).2.1) + ((takeN (a.1, a.2.1)).1)) ∧ (((takeN (a.1, a.2.1)).2.1) + ((takeN (a.1, a.2.1)).1)) ≤ 9223372036854775807 ∧ ((0 : Int) ≤ ((takeN (a.1, a.2.1)).2.1) ∧ ((takeN (a.1, a.2.1)).2.1) ≤ (((takeN (a.1, a.2.1)).2.1) + ((takeN (a.1, a.2.1)).1)) ∧ (((takeN (a.1, a.2.1)).2.1) + ((takeN (a.1, a.2.1)).1)) ≤ (a.1.size : Int) ∧ (-9223372036854775808 ≤ ((takeN (a.1, a.2.1)).1) ∧ ((takeN (a.1, a.2.1)).1) ≤ 9223372036854775807 ∧ (-9223372036854775808 ≤ (((takeN (a.1, a.2.1)).2.1) + ((takeN (a.1, a.2.1)).1)) ∧ (((takeN (a.1, a.2.1)).2.1) + ((takeN (a.1, a.2.1)).1)) ≤ 9223372036854775807 ∧ ((subB a.1 ((takeN (a.1, a.2.1)).2.1) (((takeN (a.1, a.2.1)).2.1) + ((takeN (a.1, a.2.1)).1)), (((takeN (a.1, a.2.1)).2.1) + ((takeN (a.1, a.2.1)).1)), (0 : Int)) = takeText a))))))))))))))))))
set_option maxRecDepth 100000 in
set_option maxHeartbeats 2000000 in
theorem f21.of (a : ByteArray × Int × Int) (h : f21.vc a) : f21.tree a := br Cnd.dec (fun h1 k52 => ⟨(congrArg (fun x : ByteArray × Int × Int => x.1) k52 :), ⟨(congrArg (fun x : ByteArray × Int × Int => x.2.1) k52 :), ⟨(congrArg (fun x : ByteArray × Int × Int => x.2.2) k52 :), trivial⟩⟩⟩) (fun h2 k53 => ⟨(a.1, a.2.1), ⟨rfl, ⟨rfl, ⟨k53.1, br Cnd.ne (fun h5 k49 => ⟨(congrArg (fun x : ByteArray × Int × Int => x.1) k49 :), ⟨(congrArg (fun x : ByteArray × Int × Int => x.2.1) k49 :), ⟨(congrArg (fun x : ByteArray × Int × Int => x.2.2) k49 :), trivial⟩⟩⟩) (fun h6 k50 => wrapK.u64 (fun h46 h47 k48 => br Cnd.dec (fun h9 k44 => ⟨(congrArg (fun x : ByteArray × Int × Int => x.1) k44 :), ⟨(congrArg (fun x : ByteArray × Int × Int => x.2.1) k44 :), ⟨(congrArg (fun x : ByteArray × Int × Int => x.2.2) k44 :), trivial⟩⟩⟩) (fun h10 k45 => wrapK.i64 (fun h41 h42 k43 => wrapK.u64 (fun h38 h39 k40 => br Cnd.dec (fun h14 k36 => ⟨(congrArg (fun x : ByteArray × Int × Int => x.1) k36 :), ⟨(congrArg (fun x : ByteArray × Int × Int => x.2.1) k36 :), ⟨(congrArg (fun x : ByteArray × Int × Int => x.2.2) k36 :), trivial⟩⟩⟩) (fun h15 k37 => wrapK.i64 (fun h33 h34 k35 => wrapK.i64 (fun h30 h31 k32 => chk Cnd.ss (fun h19 k29 => wrapK.i64 (fun h26 h27 k28 => wrapK.i64 (fun h23 h24 k25 => ⟨(congrArg (fun x : ByteArray × Int × Int => x.1) k25 :), ⟨(congrArg (fun x : ByteArray × Int × Int => x.2.1) k25 :), ⟨(congrArg (fun x : ByteArray × Int × Int => x.2.2) k25 :), trivial⟩⟩⟩) k28) k29) ⟨⟨k32.1, k32.2.1, k32.2.2.1⟩, k32.2.2.2⟩) k35) k37) k40) k43) k45) k48) k50) k53.2⟩⟩⟩⟩) h
theorem f21.eq (a : ByteArray × Int × Int) : (f21.af a).gives f21.env (f21.args a) (f21.blks a) (f21.res a) (f21.blks' a) = f21.tree a := by kernel_rfl
end Go.Abs

/- Layer 1: what the code asks is so. -/
namespace Go.Abs
open Go

theorem f46.ok (a : ByteArray) (h : own_pre a) : f46.vc a := by
  unfold own_pre at h
  refine ⟨?_, ?_, ?_, ?_, ?_, empty_app a⟩ <;> omega

/-- The table of lengths. -/
theorem tab_ok : ∀ x : Fin 256, nth f45.s0.data.toList x.1 0 = UInt8.ofNat (blen x.1) := by decide +kernel

theorem tab (x : Nat) (h : x < 256) : bAt f45.s0 (IntKind.u8.wrap (x : Int)) = (blen x : Int) := by
  have h1 : IntKind.u8.wrap (x : Int) = (x : Int) := wrap_id (by simp [IntKind.signed]) (by simp [IntKind.signed, IntKind.bits]; omega)
  have h2 : nth f45.s0.data.toList x 0 = UInt8.ofNat (blen x) := tab_ok ⟨x, h⟩
  unfold bAt
  rw [h1, Int.toNat_natCast, h2, UInt8.toNat_ofNat']
  have : blen x ≤ 8 := by
    unfold blen
    split
    · omega
    · rename_i h0
      have := (Nat.log2_lt h0 (k := 8)).2 (by omega)
      omega
  omega

theorem blen_div {n k : Nat} (h : 2 ^ k ≤ n) : blen n = k + blen (n / 2 ^ k) := by
  have hp : 0 < 2 ^ k := Nat.pow_pos (by decide)
  have h1 : n / 2 ^ k ≠ 0 := by
    have := (Nat.le_div_iff_mul_le hp (x := 1) (y := n)).2 (by omega)
    omega
  have h0 : n ≠ 0 := by omega
  unfold blen
  rw [if_neg h0, if_neg h1]
  have e : n.log2 = k + (n / 2 ^ k).log2 := by
    have a1 : 2 ^ (n / 2 ^ k).log2 ≤ n / 2 ^ k := (Nat.le_log2 h1).1 (Nat.le_refl _)
    have a2 : n / 2 ^ k < 2 ^ ((n / 2 ^ k).log2 + 1) := (Nat.log2_lt h1).1 (Nat.lt_succ_self _)
    have b1 : 2 ^ (k + (n / 2 ^ k).log2) ≤ n := by
      rw [Nat.pow_add, Nat.mul_comm]
      exact (Nat.le_div_iff_mul_le hp).1 a1
    have b2 : n < 2 ^ (k + (n / 2 ^ k).log2 + 1) := by
      rw [Nat.add_assoc, Nat.pow_add, Nat.mul_comm]
      exact (Nat.div_lt_iff_lt_mul hp).1 a2
    have c1 := (Nat.le_log2 h0).2 b1
    have c2 := (Nat.log2_lt h0).2 b2
    omega
  omega

theorem f45.ok (a : Int) (h : len64_pre a) : f45.vc a := by
  obtain ⟨h0, h1⟩ := h
  obtain ⟨n, rfl⟩ := Int.eq_ofNat_of_zero_le h0
  have key : ∀ (x : Nat) (k : Nat) (c : Int), x < 256 → len64 (n : Int) = k + blen x → (k : Int) = c → k ≤ 64 → (0 : Int) ≤ (IntKind.u8.wrap (x : Int)) ∧ (IntKind.u8.wrap (x : Int)) < (256 : Int) ∧ -9223372036854775808 ≤ (c + (bAt f45.s0 (IntKind.u8.wrap (x : Int)))) ∧ (c + (bAt f45.s0 (IntKind.u8.wrap (x : Int)))) ≤ 9223372036854775807 ∧ (c + (bAt f45.s0 (IntKind.u8.wrap (x : Int)))) = len64 (n : Int) := by
    intro x k c hx hl hk hk'
    have h3 := u8w (x : Int)
    have h4 := u8b f45.s0 (IntKind.u8.wrap (x : Int))
    have h5 := tab x hx
    refine ⟨h3.1, by omega, by omega, by omega, by rw [hl, h5, ← hk]⟩
  have l64 : len64 (n : Int) = (blen n : Int) := by simp [len64]
  have d32 : ((n : Int) / 4294967296) = ((n / 4294967296 : Nat) : Int) := by simp
  have d16 : ∀ m : Nat, ((m : Int) / 65536) = ((m / 65536 : Nat) : Int) := fun m => by simp
  have d8 : ∀ m : Nat, ((m : Int) / 256) = ((m / 256 : Nat) : Int) := fun m => by simp
  have b32 : ∀ m : Nat, 4294967296 ≤ m → blen m = 32 + blen (m / 4294967296) := fun m hm => blen_div (k := 32) hm
  have b16 : ∀ m : Nat, 65536 ≤ m → blen m = 16 + blen (m / 65536) := fun m hm => blen_div (k := 16) hm
  have b8 : ∀ m : Nat, 256 ≤ m → blen m = 8 + blen (m / 256) := fun m hm => blen_div (k := 8) hm
  unfold f45.vc
  rw [d32, d16, d16]
  rw [d8, d8, d8, d8]
  refine ⟨fun h2 => ⟨fun h3 => ⟨fun h4 => ?_, fun h4 => ?_⟩, fun h3 => ⟨fun h4 => ?_, fun h4 => ?_⟩⟩, fun h2 => ⟨fun h3 => ⟨fun h4 => ?_, fun h4 => ?_⟩, fun h3 => ⟨fun h4 => ?_, fun h4 => ?_⟩⟩⟩
  · exact key _ 56 _ (by omega) (by rw [l64, b32 n (by omega), b16 _ (by omega), b8 _ (by omega)]; omega) rfl (by omega)
  · exact key _ 48 _ (by omega) (by rw [l64, b32 n (by omega), b16 _ (by omega)]; omega) rfl (by omega)
  · exact key _ 40 _ (by omega) (by rw [l64, b32 n (by omega), b8 _ (by omega)]; omega) rfl (by omega)
  · exact key _ 32 _ (by omega) (by rw [l64, b32 n (by omega)]; omega) rfl (by omega)
  · exact key _ 24 _ (by omega) (by rw [l64, b16 n (by omega), b8 _ (by omega)]; omega) rfl (by omega)
  · exact key _ 16 _ (by omega) (by rw [l64, b16 n (by omega)]; omega) rfl (by omega)
  · exact key _ 8 _ (by omega) (by rw [l64, b8 n (by omega)]; omega) rfl (by omega)
  · exact key _ 0 _ (by omega) (by rw [l64]; omega) rfl (by omega)

theorem len64_nb {a : Int} (h : U64 a) : 0 ≤ len64 a ∧ len64 a ≤ 64 ∧ (len64 a + 7) / 8 = (nb a.toNat : Int) := by
  have h1 := nb_eight h.lt
  unfold len64
  unfold nb at h1 ⊢
  omega

theorem pow28 (k : Nat) : (2 : Int) ^ (8 * k) = ((256 ^ k : Nat) : Int) := by
  have h : ((2 ^ (8 * k) : Nat) : Int) = ((256 ^ k : Nat) : Int) := by rw [Nat.pow_mul]
  rw [← h, Int.natCast_pow]
  rfl

theorem f14.ok (a : ByteArray × Int) (h : put_pre a) : f14.vc a := by
  obtain ⟨h1, h2⟩ := h
  obtain ⟨l1, l2, l3⟩ := len64_nb h2
  have h8 := nb_eight h2.lt
  obtain ⟨u1, u2⟩ := h2
  obtain ⟨b, n⟩ := a
  simp only at *
  unfold f14.vc
  simp only [l3, ownB]
  refine ⟨⟨u1, u2⟩, by omega, by omega, by omega, by omega, h1, by omega, by omega, by omega,
    fun y => -1 ≤ y.2 ∧ y.2 < nb n.toNat ∧ y.1.data.toList = b.data.toList ++ UInt8.ofNat (nb n.toNat) :: be ((nb n.toNat : Int) - 1 - y.2).toNat (n.toNat / 256 ^ (y.2 + 1).toNat), fun y => (y.2 + 1).toNat, ?_, ?_⟩
  · refine ⟨by omega, by omega, ?_⟩
    rw [data_app, by1_data, ofNat_wrap (by omega), Int.toNat_natCast]
    congr 2
    rw [show ((nb n.toNat : Int) - 1 - ((nb n.toNat : Int) - 1)).toNat = 0 from by omega]
    rfl
  · rintro ⟨o, i⟩ ⟨i1, i2, i3⟩
    simp only at i1 i2 i3 ⊢
    have hs : o.size ≤ b.size + 10 := by
      rw [← data_length, i3, List.length_append, List.length_cons, be_length, data_length]
      omega
    refine ⟨fun hi => ⟨by omega, by omega, by omega, by omega, by omega, by omega, ⟨by omega, by omega, ?_⟩, by omega⟩, fun hi => ?_⟩
    · rw [data_app, by1_data, i3]
      have e1 : min (Int.toNat (8 * i)) 64 = 8 * i.toNat := by omega
      have e2 : (n / 2 ^ (8 * i.toNat) : Int) = ((n.toNat / 256 ^ i.toNat : Nat) : Int) := by
        rw [pow28]
        obtain ⟨m, rfl⟩ := Int.eq_ofNat_of_zero_le u1
        simp
      rw [e1, e2, ofNat_wrap (Int.natCast_nonneg _), Int.toNat_natCast]
      rw [show ((nb n.toNat : Int) - 1 - (i - 1)).toNat = ((nb n.toNat : Int) - 1 - i).toNat + 1 from by omega, show (i - 1 + 1).toNat = i.toNat from by omega, be]
      rw [show (i + 1).toNat = i.toNat + 1 from by omega, Nat.div_div_eq_div_mul, ← Nat.pow_succ]
      simp
    · have : i = -1 := by omega
      subst this
      apply bytes_ext
      show _ = (b ++ num n.toNat).data.toList
      rw [data_app, num_data, i3]
      simp

theorem f15.ok (a : Int) (h : num_pre a) : f15.vc a := by
  obtain ⟨u1, u2⟩ := h
  have h8 := nb_eight (n := a.toNat) (by omega)
  unfold f15.vc
  refine ⟨fun y => ∃ j, y.1 = ((a.toNat / 256 ^ j : Nat) : Int) ∧ y.2.data.toList = be j a.toNat ∧ j ≤ nb a.toNat, fun y => y.1.toNat, ⟨0, by simp; omega, rfl, by omega⟩, ?_⟩
  rintro ⟨n, s⟩ ⟨j, i1, i2, i3⟩
  simp only at i1 i2 i3 ⊢
  have hs : s.size = j := by rw [← data_length, i2, be_length]
  have hle : a.toNat / 256 ^ j ≤ a.toNat := Nat.div_le_self _ _
  refine ⟨fun hn => ⟨by omega, by rw [by1_size]; omega, by omega, by omega, ⟨j + 1, ?_, ?_, ?_⟩, ?_⟩, fun hn => ⟨by rw [by1_size]; omega, ?_⟩⟩
  · rw [i1, Nat.pow_succ, ← Nat.div_div_eq_div_mul]
    simp
  · rw [data_app, by1_data, i2, be_hi, ofNat_wrap (Int.emod_nonneg _ (by decide))]
    have : UInt8.ofNat (n % 256).toNat = UInt8.ofNat (a.toNat / 256 ^ j) := by
      apply UInt8.toNat_inj.1
      rw [UInt8.toNat_ofNat', UInt8.toNat_ofNat', i1]
      omega
    rw [this]
    rfl
  · have : ¬ nb a.toNat ≤ j := fun hh => by
      have := nb_le.1 hh
      rw [Nat.div_eq_of_lt this] at i1
      omega
    omega
  · omega
  · have hz : a.toNat / 256 ^ j = 0 := by
      generalize a.toNat / 256 ^ j = q at i1 ⊢
      omega
    have : a.toNat < 256 ^ j := (Nat.div_eq_zero_iff_lt (Nat.pow_pos (by decide))).1 hz
    have hj : j = nb a.toNat := by have := nb_le.2 this; omega
    apply bytes_ext
    show _ = (num a.toNat).data.toList
    rw [data_app, by1_data, num_data, i2, ofNat_wrap (by omega), hs, hj]
    simp

/-- Two ways to say where the numbers end. -/
theorem f19.ok (a : ByteArray × Int) (h : take_pre a) : f19.vc a := by
  unfold take_pre at h
  obtain ⟨b, i⟩ := a
  simp only at h
  have hk := u8b b i
  have ht : ∀ x, x = takeN (b, i) ↔ x = takeN (b, i) := fun _ => Iff.rfl
  unfold f19.vc
  simp only
  refine ⟨fun c1 => ?_, fun c1 => ⟨fun c2 => ?_, fun c2 => ⟨fun c3 => ?_, fun c3 => ⟨by omega, by omega, fun c4 => ?_, fun c4 => ⟨by omega, by omega, by omega, by omega, fun c5 => ?_, fun c5 => ?_⟩⟩⟩⟩⟩
  · simp [takeN, c1]
  · simp [takeN, c2]
  · subst c3; simp [takeN]
  · simp [takeN, c1, c2, c3, c4]
  · simp [takeN, c1, c2, c3, c4, c5]
  · refine ⟨fun y => y.1 = bAt b i ∧ 0 ≤ y.2.2 ∧ y.2.2 ≤ y.1 ∧ y.2.1 = val b (i.toNat + 1) y.2.2.toNat ∧ (0 < y.2.2 → bAt b (i + 1) ≠ 0), fun y => (y.1 - y.2.2).toNat, ⟨rfl, Int.le_refl _, by simp only; omega, rfl, by simp⟩, ?_⟩
    rintro ⟨k, n, j⟩ ⟨e1, j1, j2, e2, j3⟩
    simp only at e1 e2 j1 j2 j3 ⊢
    subst e1 e2
    have hv := val_lt b (i.toNat + 1) j.toNat
    have hv0 := val_nonneg b (i.toNat + 1) j.toNat
    have hc := u8b b (i + 1 + j)
    have hs : bAt b (i + 1 + j) = bAtN b (i.toNat + 1 + j.toNat) := by
      unfold bAt bAtN
      rw [show (i + 1 + j).toNat = i.toNat + 1 + j.toNat from by omega]
    have hp : j < bAt b i → val b (i.toNat + 1) j.toNat < 72057594037927936 := fun hj => by
      have h2 : (256 : Int) ^ j.toNat ≤ 256 ^ 7 := by
        have h4 : (256 : Nat) ^ j.toNat ≤ 256 ^ 7 := Nat.pow_le_pow_right (by decide) (by omega)
        have h5 : ((256 ^ j.toNat : Nat) : Int) ≤ ((256 ^ 7 : Nat) : Int) := Int.ofNat_le.2 h4
        rw [Int.natCast_pow, Int.natCast_pow] at h5
        exact h5
      have h3 : (256 : Int) ^ 7 = 72057594037927936 := by decide
      omega
    have next : val b (i.toNat + 1) (j + 1).toNat = val b (i.toNat + 1) j.toNat * 256 + bAt b (i + 1 + j) := by
      rw [show (j + 1).toNat = j.toNat + 1 from by omega, hs]
      rfl
    refine ⟨fun hj => ⟨by omega, by omega, by omega, by omega, by omega, by omega, fun e0 => ⟨fun e1 => ?_, fun e1 => ?_⟩, fun e0 => ?_⟩, fun hj => ⟨by omega, by omega, by omega, by omega, ?_⟩⟩
    · subst e0
      have hz : bAt b (i + 1) = 0 := by rw [← e1, show i + 1 + 0 = i + 1 from by omega]
      simp [takeN, c1, c2, c3, c4, c5, hz]
      omega
    · have := hp hj
      subst e0
      refine ⟨by omega, by omega, by omega, by omega, by omega, by omega, ⟨rfl, by omega, by omega, next.symm, fun _ => ?_⟩, by omega⟩
      rw [show i + 1 = i + 1 + 0 from by omega]
      exact e1
    · have := hp hj
      exact ⟨by omega, by omega, by omega, by omega, by omega, by omega, ⟨rfl, by omega, by omega, next.symm, fun _ => j3 (by omega)⟩, by omega⟩
    · have hj' : j = bAt b i := by omega
      have hx : ¬ (0 < bAt b i ∧ bAt b (i + 1) = 0) := fun ⟨x1, x2⟩ => j3 (by omega) x2
      unfold takeN
      simp only
      rw [if_neg (by omega), if_neg c3, if_neg c4, if_neg c5, if_neg hx, hj']

theorem f18.ok (a : ByteArray × Int) (h : take_pre a) : f18.vc a := by
  unfold take_pre at h
  obtain ⟨b, i⟩ := a
  simp only at h
  have hk := u8b b i
  have hkk : bAtN b (Int.toNat (0 : Int) + Int.toNat i) = bAt b i := by
    unfold bAt bAtN
    simp
  have loop : ∀ (c1 : ¬ i < 0) (c2 : ¬ (b.size : Int) < i) (c3 : ¬ i = b.size) (c4 : ¬ 8 < bAt b i) (c5 : ¬ (b.size : Int) - i - 1 < bAt b i) (c6 : ¬ (0 < bAt b i ∧ bAt b (i + 1) = 0)), True := fun _ _ _ _ _ _ => trivial
  have h1 : 0 ≤ i → i < b.size → bAtN b (Int.toNat (1 : Int) + Int.toNat i) = bAt b (i + 1) := fun _ _ => by
    unfold bAt bAtN
    rw [show (i + 1).toNat = Int.toNat 1 + i.toNat from by omega]
  unfold f18.vc
  simp only [hkk]
  have key : ∀ (c1 : ¬ i < 0) (c2 : ¬ (b.size : Int) < i) (c3 : ¬ i = b.size) (c4 : ¬ 8 < bAt b i) (c5 : ¬ (b.size : Int) - i - 1 < bAt b i) (c6 : ¬ (0 < bAt b i ∧ bAt b (i + 1) = 0)),
      ∃ (I : (Int × Int × ByteArray × Int × Int) → Prop) (μ : (Int × Int × ByteArray × Int × Int) → Nat), I (bAt b i, 0, subB (subB b i b.size) 1 (bAt b i + 1), (Int.toNat (bAt b i + 1 - 1) : Int), 0) ∧ ∀ y, I y → (y.2.2.2.2 < y.2.2.2.1 → 0 ≤ y.2.2.2.2 ∧ y.2.2.2.2 < (y.2.2.1.size : Int) ∧ -9223372036854775808 ≤ (y.2.2.2.2 + (1 : Int)) ∧ (y.2.2.2.2 + (1 : Int)) ≤ 9223372036854775807 ∧
        I (y.1, IntKind.u64.wrap ((BitVec.ofInt 64 (IntKind.u64.wrap (y.2.1 * 256)) ||| BitVec.ofInt 64 (bAt y.2.2.1 y.2.2.2.2)).toNat : Int), y.2.2.1, y.2.2.2.1, (y.2.2.2.2 + (1 : Int))) ∧ μ (y.1, IntKind.u64.wrap ((BitVec.ofInt 64 (IntKind.u64.wrap (y.2.1 * 256)) ||| BitVec.ofInt 64 (bAt y.2.2.1 y.2.2.2.2)).toNat : Int), y.2.2.1, y.2.2.2.1, (y.2.2.2.2 + (1 : Int))) < μ y) ∧
        (¬ y.2.2.2.2 < y.2.2.2.1 → -9223372036854775808 ≤ (i + y.1) ∧ (i + y.1) ≤ 9223372036854775807 ∧ -9223372036854775808 ≤ ((i + y.1) + (1 : Int)) ∧ ((i + y.1) + (1 : Int)) ≤ 9223372036854775807 ∧ (y.2.1, ((i + y.1) + (1 : Int)), (0 : Int)) = takeN (b, i)) := by
    intro c1 c2 c3 c4 c5 c6
    have s1 : (subB b i b.size).size = Int.toNat (b.size - i) := RdB.size_sub ⟨by omega, by omega, by omega⟩
    have s2 : (subB (subB b i b.size) 1 (bAt b i + 1)).size = (bAt b i).toNat := by
      rw [RdB.size_sub ⟨by omega, by omega, by rw [s1]; omega⟩]
      omega
    refine ⟨fun y => y.1 = bAt b i ∧ y.2.2.1 = subB (subB b i b.size) 1 (bAt b i + 1) ∧ y.2.2.2.1 = bAt b i ∧ 0 ≤ y.2.2.2.2 ∧ y.2.2.2.2 ≤ bAt b i ∧ y.2.1 = val b (i.toNat + 1) y.2.2.2.2.toNat, fun y => (y.2.2.2.1 - y.2.2.2.2).toNat, ⟨rfl, rfl, by simp only; omega, by simp, by simp only; omega, rfl⟩, ?_⟩
    rintro ⟨m, n, r, k, j⟩ ⟨e1, e2, e3, j1, j2, e4⟩
    simp only at e1 e2 e3 e4 j1 j2 ⊢
    subst e1 e2 e3 e4
    have hv0 := val_nonneg b (i.toNat + 1) j.toNat
    have hv := val_lt b (i.toNat + 1) j.toNat
    refine ⟨fun hj => ?_, fun hj => ⟨by omega, by omega, by omega, by omega, ?_⟩⟩
    · have hp : val b (i.toNat + 1) j.toNat < 72057594037927936 := by
        have h2 : (256 : Int) ^ j.toNat ≤ 256 ^ 7 := by
          have h4 : (256 : Nat) ^ j.toNat ≤ 256 ^ 7 := Nat.pow_le_pow_right (by decide) (by omega)
          have h5 : ((256 ^ j.toNat : Nat) : Int) ≤ ((256 ^ 7 : Nat) : Int) := Int.ofNat_le.2 h4
          rw [Int.natCast_pow, Int.natCast_pow] at h5
          exact h5
        have h3 : (256 : Int) ^ 7 = 72057594037927936 := by decide
        omega
      have e3 : bAt (subB (subB b i b.size) 1 (bAt b i + 1)) j = bAtN b (i.toNat + 1 + j.toNat) := by
        rw [bAt_sub ⟨by omega, by omega, by rw [s1]; omega⟩ (by omega) (by omega), bAt_sub ⟨by omega, by omega, by omega⟩ (by omega) (by omega), bAtN_eq]
        rw [show (i + (1 + j)).toNat = i.toNat + 1 + j.toNat from by omega]
      have hc := u8bN b (i.toNat + 1 + j.toNat)
      rw [e3, shl_or hv0 hp hc.1 hc.2]
      refine ⟨by omega, by rw [s2]; omega, by omega, by omega, ⟨rfl, rfl, rfl, by omega, by omega, ?_⟩, by omega⟩
      rw [show (j + 1).toNat = j.toNat + 1 from by omega]
      rfl
    · have hj' : j = bAt b i := by omega
      unfold takeN
      simp only
      rw [if_neg (by omega), if_neg c3, if_neg c4, if_neg c5, if_neg c6, hj', show i + bAt b i + 1 = i + 1 + bAt b i from by omega]
  refine ⟨fun c1 => ?_, fun c1 => ⟨fun c2 => ?_, fun c2 => ⟨by omega, by omega, fun c3 => ?_, fun c3 => ⟨by omega, fun c4 => ?_, fun c4 => ⟨fun c5 => ?_, fun c5 => ⟨fun c6 => ⟨by omega, fun c7 => ?_, fun c7 => ⟨by omega, by omega, by omega, by omega, ?_⟩⟩, fun c6 => ⟨by omega, by omega, by omega, by omega, ?_⟩⟩⟩⟩⟩⟩⟩
  · simp [takeN, c1]
  · simp [takeN, c2]
  · have : i = b.size := by omega
    subst this; simp [takeN]
  · unfold takeN
    simp only
    rw [if_neg (by omega), if_neg (by omega), if_pos c4]
  · unfold takeN
    simp only
    rw [if_neg (by omega), if_neg (by omega), if_neg c4, if_pos (by omega)]
  · rw [h1 (by omega) (by omega)] at c7
    unfold takeN
    simp only
    rw [if_neg (by omega), if_neg (by omega), if_neg c4, if_neg (by omega), if_pos ⟨c6, c7⟩]
  · rw [h1 (by omega) (by omega)] at c7
    exact key c1 c2 (by omega) c4 (by omega) (fun x => c7 x.2)
  · exact key c1 c2 (by omega) c4 (by omega) (fun x => c6 x.1)

theorem putB_size (a : ByteArray × Int) : (putB a).size = a.1.size + (nb a.2.toNat + 1) := by unfold putB; rw [size_app, num_size]

theorem f16.ok (a : ByteArray × ByteArray) (h : putText_pre a) : f16.vc a := by
  obtain ⟨h1, h2⟩ := h
  have h8 := nb_eight (n := a.2.size) (by omega)
  refine ⟨by omega, by omega, ⟨by simp only; omega, by simp only; omega, by simp only; omega⟩, ?_, ?_⟩
  · rw [putB_size]
    simp only [Int.toNat_natCast]
    omega
  · unfold putB putText
    simp only [Int.toNat_natCast]

theorem f17.ok (a : ByteArray) (h : text_pre a) : f17.vc a := by
  unfold text_pre at h
  have h8 := nb_eight (n := a.size) (by omega)
  refine ⟨by omega, by omega, ⟨by omega, by omega⟩, ?_, ?_⟩
  · unfold numS
    rw [num_size]
    simp only [Int.toNat_natCast]
    omega
  · unfold numS textS
    simp only [Int.toNat_natCast]

theorem f20.ok (a : ByteArray × Int × Int) (h : takeText_pre a) : f20.vc a := by
  obtain ⟨h1, h2⟩ := h
  obtain ⟨b1, b2, b3, b4⟩ := takeN_bd (a.1, a.2.1)
  unfold f20.vc takeText
  simp only at b4
  generalize takeN (a.1, a.2.1) = t at *
  refine ⟨fun c1 => by rw [if_pos c1], fun c1 => ⟨h1, ?_, ?_⟩⟩
  · intro c2
    rw [if_neg c1, if_pos c2]
  · intro c2
    refine ⟨by omega, by omega, fun c3 => by rw [if_neg c1, if_neg c2, if_pos c3], fun c3 => ⟨by omega, by omega, by omega, by omega, fun c4 => by rw [if_neg c1, if_neg c2, if_neg c3, if_pos c4], fun c4 => ?_⟩⟩
    refine ⟨by omega, by omega, by omega, by omega, by omega, by omega, by omega, by omega, by omega, by omega, by omega, ?_⟩
    rw [if_neg c1, if_neg c2, if_neg c3, if_neg c4]

theorem f21.ok (a : ByteArray × Int × Int) (h : takeText_pre a) : f21.vc a := by
  obtain ⟨h1, h2⟩ := h
  obtain ⟨b1, b2, b3, b4⟩ := takeN_bd (a.1, a.2.1)
  unfold f21.vc takeText
  simp only at b4
  generalize takeN (a.1, a.2.1) = t at *
  refine ⟨fun c1 => by rw [if_pos c1], fun c1 => ⟨h1, ?_, ?_⟩⟩
  · intro c2
    rw [if_neg c1, if_pos c2]
  · intro c2
    refine ⟨by omega, by omega, fun c3 => by rw [if_neg c1, if_neg c2, if_pos c3], fun c3 => ⟨by omega, by omega, by omega, by omega, fun c4 => by rw [if_neg c1, if_neg c2, if_neg c3, if_pos c4], fun c4 => ?_⟩⟩
    refine ⟨by omega, by omega, by omega, by omega, by omega, by omega, by omega, by omega, by omega, by omega, by omega, ?_⟩
    rw [if_neg c1, if_neg c2, if_neg c3, if_neg c4]

end Go.Abs

/- Layer 1: what is put is what is taken. -/
namespace Go.Abs
open Go

theorem bAtN_lt {b : ByteArray} {i : Nat} (h : i < b.size) : bAtN b i = ((b.data.toList[i]'(by rw [data_length]; exact h)).toNat : Int) := by
  unfold bAtN
  rw [nth_toList h]
theorem bAtN_app (a b : ByteArray) (i : Nat) : bAtN (a ++ b) i = if i < a.size then bAtN a i else bAtN b (i - a.size) := by
  unfold bAtN
  rw [data_app, nth_app, data_length]
  split <;> rfl
theorem bAtN_mk (l : List UInt8) (i : Nat) : bAtN ⟨l.toArray⟩ i = ((nth l i 0).toNat : Int) := rfl

/-- The bytes from i on are those of l. -/
def Sub (b : ByteArray) (i : Nat) (l : List UInt8) : Prop := ∀ j, j < l.length → bAtN b (i + j) = ((nth l j 0).toNat : Int)

theorem Sub.left {b : ByteArray} {i : Nat} {l m : List UInt8} (h : Sub b i (l ++ m)) : Sub b i l := fun j hj => by
  have := h j (by rw [List.length_append]; omega)
  rw [nth_app, if_pos hj] at this
  exact this
theorem Sub.last {b : ByteArray} {i : Nat} {l : List UInt8} {c : UInt8} (h : Sub b i (l ++ [c])) : bAtN b (i + l.length) = (c.toNat : Int) := by
  have := h l.length (by simp)
  rw [nth_app, if_neg (by omega), Nat.sub_self] at this
  exact this

theorem val_be {b : ByteArray} {i : Nat} : ∀ {k n : Nat}, Sub b i (be k n) → val b i k = ((n % 256 ^ k : Nat) : Int)
  | 0, n, _ => by simp [val, Nat.mod_one]
  | k + 1, n, h => by
    have h1 := val_be (k := k) (n := n / 256) h.left
    have h2 := h.last
    rw [be_length, UInt8.toNat_ofNat'] at h2
    simp only [val, h1, h2]
    have : n % 256 ^ (k + 1) = n / 256 % 256 ^ k * 256 + n % 256 := by
      rw [Nat.pow_succ, Nat.mul_comm (256 ^ k) 256, Nat.mod_mul]
      omega
    rw [this]
    simp

theorem sub_mid (x y z : ByteArray) : Sub (x ++ y ++ z) x.size y.data.toList := fun j hj => by
  rw [data_length] at hj
  rw [bAtN_app, if_pos (by rw [size_app]; omega), bAtN_app, if_neg (by omega), Nat.add_sub_cancel_left]
  rfl

theorem sub_tail {b : ByteArray} {i : Nat} {c : UInt8} {l : List UInt8} (h : Sub b i (c :: l)) : bAtN b i = (c.toNat : Int) ∧ Sub b (i + 1) l :=
  ⟨h 0 (by simp), fun j hj => by
    have := h (j + 1) (by simpa using hj)
    rw [show i + (j + 1) = i + 1 + j from by omega] at this
    exact this⟩

theorem nb_first {n : Nat} (h : 0 < nb n) : 0 < n / 256 ^ (nb n - 1) ∧ n / 256 ^ (nb n - 1) < 256 := by
  have h1 : n < 256 ^ nb n := nb_le.1 (Nat.le_refl _)
  have h2 : ¬ n < 256 ^ (nb n - 1) := fun hh => by have := nb_le.2 hh; omega
  have hp : 0 < 256 ^ (nb n - 1) := Nat.pow_pos (by decide)
  refine ⟨Nat.div_pos (by omega) hp, (Nat.div_lt_iff_lt_mul hp).2 ?_⟩
  have e : 256 ^ nb n = 256 * 256 ^ (nb n - 1) := by rw [← Nat.pow_succ']; congr 1; omega
  omega

theorem toNat_ofNat_lt {n : Nat} (h : n < 256) : (UInt8.ofNat n).toNat = n := by
  rw [UInt8.toNat_ofNat']
  omega

theorem takeN_num (x y : ByteArray) {n : Nat} (h : n < 2 ^ 64) : takeN (x ++ num n ++ y, (x.size : Int)) = ((n : Int), (x.size : Int) + 1 + nb n, 0) := by
  have h8 := nb_eight h
  have hs := sub_mid x (num n) y
  rw [num_data] at hs
  obtain ⟨h0, h1⟩ := sub_tail hs
  rw [toNat_ofNat_lt (by omega)] at h0
  have hb : bAt (x ++ num n ++ y) (x.size : Int) = (nb n : Int) := by rw [bAtN_eq, Int.toNat_natCast, h0]
  have hsz : (x ++ num n ++ y).size = x.size + (nb n + 1) + y.size := by rw [size_app, size_app, num_size]
  have hv : val (x ++ num n ++ y) (x.size + 1) (nb n) = (n : Int) := by
    rw [val_be h1, Nat.mod_eq_of_lt (nb_le.1 (Nat.le_refl _))]
  have hz : ¬ (0 < bAt (x ++ num n ++ y) (x.size : Int) ∧ bAt (x ++ num n ++ y) ((x.size : Int) + 1) = 0) := fun ⟨z1, z2⟩ => by
    rw [hb] at z1
    have hn : 0 < nb n := by omega
    obtain ⟨k, hk⟩ : ∃ k, nb n = k + 1 := ⟨nb n - 1, by omega⟩
    rw [hk, be_hi] at h1
    have h2 := (sub_tail h1).1
    rw [bAtN_eq, show ((x.size : Int) + 1).toNat = x.size + 1 from by omega, h2] at z2
    obtain ⟨f1, f2⟩ := nb_first hn
    rw [hk, Nat.add_sub_cancel] at f1 f2
    rw [toNat_ofNat_lt f2] at z2
    omega
  unfold takeN
  simp only [hb] at hz ⊢
  rw [if_neg (by rw [hsz]; omega), if_neg (by rw [hsz]; omega), if_neg (by omega), if_neg (by rw [hsz]; omega), if_neg hz, Int.toNat_natCast, Int.toNat_natCast, hv]

theorem bytes_eq {a b : ByteArray} (h : a.size = b.size) (hi : ∀ i, i < a.size → bAtN a i = bAtN b i) : a = b := by
  apply bytes_ext
  apply List.ext_getElem
  · rw [data_length, data_length, h]
  · intro i h1 h2
    rw [data_length] at h1 h2
    have := hi i h1
    rw [bAtN_lt h1, bAtN_lt h2] at this
    exact UInt8.toNat_inj.1 (by omega)

theorem bAtN_sub {b : ByteArray} {lo hi : Int} (h : (0 : Int) ≤ lo ∧ lo ≤ hi ∧ hi ≤ (b.size : Int)) {i : Nat} (h1 : (i : Int) < hi - lo) : bAtN (subB b lo hi) i = bAtN b (lo.toNat + i) := by
  have := bAt_sub h (i := (i : Int)) (by omega) h1
  rw [bAtN_eq, bAtN_eq, Int.toNat_natCast, show (lo + (i : Int)).toNat = lo.toNat + i from by omega] at this
  exact this

theorem subB_all (b : ByteArray) : subB b 0 (b.size : Int) = b := by
  have hs := RdB.size_sub (b := b) (lo := 0) (hi := b.size) ⟨by omega, by omega, by omega⟩
  refine bytes_eq (by rw [hs]; omega) fun i hi => ?_
  rw [hs] at hi
  rw [bAtN_sub ⟨by omega, by omega, by omega⟩ (by omega)]
  simp

theorem subB_app {b : ByteArray} {x y z : Int} (h0 : 0 ≤ x) (h1 : x ≤ y) (h2 : y ≤ z) (h3 : z ≤ b.size) : subB b x y ++ subB b y z = subB b x z := by
  have s1 := RdB.size_sub (b := b) (lo := x) (hi := y) ⟨by omega, by omega, by omega⟩
  have s2 := RdB.size_sub (b := b) (lo := y) (hi := z) ⟨by omega, by omega, by omega⟩
  have s3 := RdB.size_sub (b := b) (lo := x) (hi := z) ⟨by omega, by omega, by omega⟩
  refine bytes_eq (by rw [size_app, s1, s2, s3]; omega) fun i hi => ?_
  rw [size_app, s1, s2] at hi
  rw [bAtN_app, s1, bAtN_sub (lo := x) (hi := z) ⟨by omega, by omega, by omega⟩ (by omega)]
  split
  · rw [bAtN_sub ⟨by omega, by omega, by omega⟩ (by omega)]
  · rw [bAtN_sub ⟨by omega, by omega, by omega⟩ (by omega)]
    congr 1
    omega

theorem val_hi (b : ByteArray) (i k : Nat) : val b i (k + 1) = bAtN b i * 256 ^ k + val b (i + 1) k := by
  induction k with
  | zero => simp [val]
  | succ k ih =>
    rw [val, ih, val, Int.pow_succ, Int.add_mul, Int.mul_assoc, Int.add_assoc, show i + (k + 1) = i + 1 + k from by omega]

theorem be_val {b : ByteArray} (i : Nat) : ∀ k, i + k ≤ b.size → ∀ j, j < k → ((nth (be k (val b i k).toNat) j 0).toNat : Int) = bAtN b (i + j)
  | 0, _, j, hj => by omega
  | k + 1, h, j, hj => by
    have h0 := val_nonneg b i k
    have hc := u8bN b (i + k)
    have e1 : (val b i (k + 1)).toNat / 256 = (val b i k).toNat := by simp only [val]; omega
    have e2 : UInt8.ofNat (val b i (k + 1)).toNat = UInt8.ofNat (bAtN b (i + k)).toNat := by
      apply UInt8.toNat_inj.1
      rw [UInt8.toNat_ofNat', UInt8.toNat_ofNat']
      simp only [val]
      omega
    rw [be, e1, e2, nth_app, be_length]
    split
    · rename_i hlt
      exact be_val i k (by omega) j hlt
    · have : j = k := by omega
      subst this
      simp only [Nat.sub_self, nth]
      rw [toNat_ofNat_lt (by omega)]
      omega

/-- What is taken is a number's bytes. -/
theorem takeN_ok {b : ByteArray} {i : Int} (h : (takeN (b, i)).2.2 = 0) :
    0 ≤ i ∧ i < (takeN (b, i)).2.1 ∧ (takeN (b, i)).2.1 ≤ b.size ∧ num (takeN (b, i)).1.toNat = subB b i (takeN (b, i)).2.1 := by
  have hk := u8b b i
  unfold takeN at h ⊢
  simp only at h ⊢
  split at h
  · simp at h
  · split at h
    · simp at h
    · split at h
      · simp at h
      · split at h
        · simp at h
        · split at h
          · simp at h
          · rename_i c1 c2 c3 c4 c5
            rw [if_neg c1, if_neg c2, if_neg c3, if_neg c4, if_neg c5]
            simp only
            refine ⟨by omega, by omega, by omega, ?_⟩
            have hb := be_val (b := b) (i.toNat + 1) (bAt b i).toNat (by omega)
            have hn : nb (val b (i.toNat + 1) (bAt b i).toNat).toNat = (bAt b i).toNat := by
              have v0 := val_nonneg b (i.toNat + 1) (bAt b i).toNat
              have v1 := val_lt b (i.toNat + 1) (bAt b i).toNat
              have a1 : nb (val b (i.toNat + 1) (bAt b i).toNat).toNat ≤ (bAt b i).toNat := nb_le.2 (by
                have : ((256 ^ (bAt b i).toNat : Nat) : Int) = (256 : Int) ^ (bAt b i).toNat := by rw [Int.natCast_pow]; rfl
                omega)
              rcases Nat.eq_or_lt_of_le a1 with e | e
              · exact e
              · exfalso
                obtain ⟨k, hk'⟩ : ∃ k, (bAt b i).toNat = k + 1 := ⟨(bAt b i).toNat - 1, by omega⟩
                have a2 := nb_le.1 (show nb (val b (i.toNat + 1) (bAt b i).toNat).toNat ≤ k by omega)
                rw [hk', val_hi] at a2
                have v2 := val_nonneg b (i.toNat + 1 + 1) k
                have f0 : bAtN b (i.toNat + 1) ≠ 0 := fun hz => c5 ⟨by omega, by
                  rw [bAtN_eq, show (i + 1).toNat = i.toNat + 1 from by omega]; exact hz⟩
                have f1 := u8bN b (i.toNat + 1)
                have f2 : (256 : Int) ^ k ≤ bAtN b (i.toNat + 1) * 256 ^ k := by
                  have hp : (0 : Int) < 256 ^ k := Int.pow_pos (by decide)
                  have : 1 * (256 : Int) ^ k ≤ bAtN b (i.toNat + 1) * 256 ^ k := Int.mul_le_mul_of_nonneg_right (by omega) (by omega)
                  omega
                have f3 : ((256 ^ k : Nat) : Int) = (256 : Int) ^ k := by rw [Int.natCast_pow]; rfl
                omega
            have hs := RdB.size_sub (b := b) (lo := i) (hi := i + 1 + bAt b i) ⟨by omega, by omega, by omega⟩
            refine bytes_eq (by rw [num_size, hn, hs]; omega) fun j hj => ?_
            rw [num_size, hn] at hj
            rw [bAtN_sub ⟨by omega, by omega, by omega⟩ (by omega)]
            unfold num
            rw [bAtN_mk, hn]
            cases j with
            | zero =>
              simp only [nth]
              rw [toNat_ofNat_lt (by omega), Nat.add_zero, ← bAtN_eq]
              omega
            | succ j =>
              simp only [nth]
              rw [hb j (by omega), show i.toNat + (j + 1) = i.toNat + 1 + j from by omega]

theorem takeN_no {b : ByteArray} {i : Int} (h : (takeN (b, i)).2.2 ≠ 0) : (takeN (b, i)).1 = 0 ∧ (takeN (b, i)).2.1 = 0 := by
  unfold takeN at h ⊢
  simp only at h ⊢
  split
  · simp
  · split
    · simp
    · split
      · simp
      · split
        · simp
        · split
          · simp
          · rename_i c1 c2 c3 c4 c5
            rw [if_neg c1, if_neg c2, if_neg c3, if_neg c4, if_neg c5] at h
            simp at h

/-- Numbers' bytes stand in the numbers' order. -/
theorem less_be {k : Nat} : ∀ {n m : Nat} {x y : List UInt8}, n < 256 ^ k → m < 256 ^ k → Op.bytesLess (be k n ++ x) (be k m ++ y) = (decide (n < m) || (decide (n = m) && Op.bytesLess x y)) := by
  induction k with
  | zero =>
    intro n m x y hn hm
    have e1 : n = 0 := by simpa using hn
    have e2 : m = 0 := by simpa using hm
    subst e1 e2
    simp [be]
  | succ k ih =>
    intro n m x y hn hm
    rw [be_hi, be_hi, List.cons_append, List.cons_append, Op.bytesLess]
    have hp : 0 < 256 ^ k := Nat.pow_pos (by decide)
    have hn1 : n / 256 ^ k < 256 := (Nat.div_lt_iff_lt_mul hp).2 (by rw [← Nat.pow_succ']; exact hn)
    have hm1 : m / 256 ^ k < 256 := (Nat.div_lt_iff_lt_mul hp).2 (by rw [← Nat.pow_succ']; exact hm)
    have low : ∀ n : Nat, be k n = be k (n % 256 ^ k) := by
      intro n
      clear ih hn hm hn1 hm1 hp
      induction k generalizing n with
      | zero => rfl
      | succ k ihk =>
        rw [be, be, ihk (n / 256), ihk (n % 256 ^ (k + 1) / 256)]
        have e1 : n % 256 ^ (k + 1) / 256 % 256 ^ k = n / 256 % 256 ^ k := by
          rw [Nat.pow_succ, Nat.mul_comm, Nat.mod_mul_right_div_self, Nat.mod_mod]
        have e2 : UInt8.ofNat (n % 256 ^ (k + 1)) = UInt8.ofNat n := by
          apply UInt8.toNat_inj.1
          rw [UInt8.toNat_ofNat', UInt8.toNat_ofNat', Nat.pow_succ, show (2 : Nat) ^ 8 = 256 from rfl, Nat.mod_mul_left_mod]
        rw [e1, e2]
    rw [low n, low m, ih (Nat.mod_lt _ hp) (Nat.mod_lt _ hp)]
    have dn := Nat.div_add_mod n (256 ^ k)
    have dm := Nat.div_add_mod m (256 ^ k)
    have c1 : (UInt8.ofNat (n / 256 ^ k) < UInt8.ofNat (m / 256 ^ k)) ↔ n / 256 ^ k < m / 256 ^ k := by
      rw [UInt8.lt_iff_toNat_lt, toNat_ofNat_lt hn1, toNat_ofNat_lt hm1]
    have c2 : (UInt8.ofNat (n / 256 ^ k) == UInt8.ofNat (m / 256 ^ k)) = decide (n / 256 ^ k = m / 256 ^ k) := by
      rw [Bool.eq_iff_iff, beq_iff_eq, decide_eq_true_iff, ← UInt8.toNat_inj, toNat_ofNat_lt hn1, toNat_ofNat_lt hm1]
    rw [c2]
    simp only [c1]
    rcases Nat.lt_trichotomy (n / 256 ^ k) (m / 256 ^ k) with h | h | h
    · have hlt : n < m := by
        have := Nat.mul_le_mul_left (256 ^ k) (show n / 256 ^ k + 1 ≤ m / 256 ^ k by omega)
        have := Nat.mod_lt n hp
        rw [Nat.mul_add, Nat.mul_one] at *
        omega
      simp [h, hlt]
    · have h1 : ¬ (n / 256 ^ k < m / 256 ^ k) := by omega
      have h2 : (n % 256 ^ k < m % 256 ^ k) ↔ n < m := by rw [← dn, ← dm, h]; simp
      have h3 : (n % 256 ^ k = m % 256 ^ k) ↔ n = m := by
        constructor
        · intro e; rw [← dn, ← dm, h, e]
        · intro e; rw [e]
      simp [h, h2, h3]
    · have hgt : m < n := by
        have := Nat.mul_le_mul_left (256 ^ k) (show m / 256 ^ k + 1 ≤ n / 256 ^ k by omega)
        have := Nat.mod_lt m hp
        rw [Nat.mul_add, Nat.mul_one] at *
        omega
      have h1 : ¬ (n / 256 ^ k < m / 256 ^ k) := by omega
      have h2 : ¬ (n / 256 ^ k = m / 256 ^ k) := by omega
      have h3 : ¬ n < m := by omega
      have h4 : ¬ n = m := by omega
      simp [h1, h2, h3, h4]

theorem num_less {n m : Nat} (hn : n < 2 ^ 64) (hm : m < 2 ^ 64) : Op.bytesLess (num n).toList (num m).toList = decide (n < m) := by
  have n8 := nb_eight hn
  have m8 := nb_eight hm
  rw [toList_data, toList_data, num_data, num_data, Op.bytesLess]
  have c1 : (UInt8.ofNat (nb n) < UInt8.ofNat (nb m)) ↔ nb n < nb m := by
    rw [UInt8.lt_iff_toNat_lt, toNat_ofNat_lt (by omega), toNat_ofNat_lt (by omega)]
  have c2 : (UInt8.ofNat (nb n) == UInt8.ofNat (nb m)) = decide (nb n = nb m) := by
    rw [Bool.eq_iff_iff, beq_iff_eq, decide_eq_true_iff, ← UInt8.toNat_inj, toNat_ofNat_lt (by omega), toNat_ofNat_lt (by omega)]
  rw [c2]
  simp only [c1]
  have bn : n < 256 ^ nb n := nb_le.1 (Nat.le_refl _)
  have bm : m < 256 ^ nb m := nb_le.1 (Nat.le_refl _)
  rcases Nat.lt_trichotomy (nb n) (nb m) with h | h | h
  · have : n < m := by
      rcases Nat.lt_or_ge n m with h1 | h1
      · exact h1
      · have := nb_le.2 (Nat.lt_of_le_of_lt h1 bn)
        omega
    simp [h, this]
  · have h1 := less_be (x := []) (y := []) bn (h ▸ bm)
    rw [List.append_nil, List.append_nil] at h1
    rw [← h, h1]
    simp [Op.bytesLess]
  · have : ¬ n < m := fun hlt => by
      have := nb_le.2 (Nat.lt_trans hlt bm)
      omega
    have h1 : ¬ nb n < nb m := by omega
    have h2 : ¬ nb n = nb m := by omega
    simp [h1, h2, this]

theorem num_inj {n m : Nat} (hn : n < 2 ^ 64) (hm : m < 2 ^ 64) : num n = num m ↔ n = m := by
  constructor
  · intro h
    have h1 := num_less hn hm
    have h2 := num_less hm hn
    rw [h] at h1 h2
    rw [h1] at h2
    rcases Nat.lt_trichotomy n m with h3 | h3 | h3
    · simp [h3] at h2; omega
    · exact h3
    · simp [h3] at h2; omega
  · intro h; rw [h]

end Go.Abs

-- interregnum/interregnumlaw01.PackOrders
namespace Go.Abs
open Go
def f1.wf (a : Int × Int) : Prop := k_u64.ok a.1 ∧ k_u64.ok a.2
def f1.size (a : Int × Int) : Nat := k_u64.size a.1 + k_u64.size a.2
def f1.lpre (a : Int × Int) : Prop := f1.wf a ∧ f1.size a ≤ 1048576
def f1.args (a : Int × Int) : List D := [.int .u64 a.1, .int .u64 a.2]
def f1.blks (a : Int × Int) : List (List D) := []
def f1.res (a : Int × Int) : List D := [.bool (lawTrue a)]
def f1.blks' (a : Int × Int) : List (List D) := []
def f1.C : Contract := FnC f1.args f1.blks (fun a => f1.lpre a) f1.res f1.blks'
end Go.Abs

/- interregnum/interregnumlaw01.PackOrders -/
namespace Go.Abs
open Go
set_option linter.unusedVariables false
def f1.kills (a : Int × Int) : List Hint := []
def f1.cuts (a : Int × Int) : List (Nat × Σ β : Type, β → Tm) := []
def f1.af (a : Int × Int) : AF := AF.mk (.seq (.region [⟨(some 4), 0, .move, [.c (.bool false)], none⟩])
 (.seq (.seq (.region [⟨(some 7), 1, (.call false 13), [], none⟩,
  ⟨(some 8), 5, (.un .not), [.t 7], none⟩])
 (.cond (.t 8) (.seq (.region [⟨(some 4), 6, .move, [.c (.bool false)], none⟩])
 (.ret)) (.skip)))
 (.seq (.region [⟨(some 9), 7, .move, [.t 0], none⟩,
  ⟨(some 10), 8, (.call false 14), [.c (.slice .full 1 0 gnil), .t 9], none⟩,
  ⟨(some 11), 12, (.conv .b2s), [.t 10], none⟩,
  ⟨(some 12), 13, .move, [.t 1], none⟩,
  ⟨(some 13), 14, (.call false 14), [.c (.slice .full 1 0 gnil), .t 12], none⟩,
  ⟨(some 14), 18, (.conv .b2s), [.t 13], none⟩,
  ⟨(some 5), 19, .move, [.t 11], none⟩,
  ⟨(some 6), 20, .move, [.t 14], none⟩])
 (.seq (.region [⟨(some 15), 21, .move, [.t 5], none⟩,
  ⟨(some 16), 22, .move, [.t 6], none⟩,
  ⟨(some 17), 23, (.bin .lss), [.t 15, .t 16], none⟩,
  ⟨(some 18), 24, .move, [.t 0], none⟩,
  ⟨(some 19), 25, .move, [.t 1], none⟩,
  ⟨(some 20), 26, (.bin .lss), [.t 18, .t 19], none⟩,
  ⟨(some 21), 27, (.binB false), [.t 17, .t 20], none⟩,
  ⟨(some 22), 28, .move, [.t 21], none⟩,
  ⟨(some 23), 29, .move, [.t 5], (some (22, true))⟩,
  ⟨(some 24), 30, .move, [.t 6], (some (22, true))⟩,
  ⟨(some 25), 31, (.bin .eql), [.t 23, .t 24], (some (22, true))⟩,
  ⟨(some 26), 32, .move, [.t 0], (some (22, true))⟩,
  ⟨(some 27), 33, .move, [.t 1], (some (22, true))⟩,
  ⟨(some 28), 34, (.bin .eql), [.t 26, .t 27], (some (22, true))⟩,
  ⟨(some 29), 35, (.binB false), [.t 25, .t 28], (some (22, true))⟩,
  ⟨(some 30), 36, .pick, [.t 22, .t 29, .c (.bool false)], none⟩,
  ⟨(some 4), 37, .move, [.t 30], none⟩])
 (.ret)))))
  [.tmp 4] 0 29
def f1.env : Env := [(13, f13.C), (14, f14.C)]
def f1.tree (a : Int × Int) : Prop := ∃ c1 : Unit, True ∧ Br (!(lawTrue c1)) ((false = (lawTrue a)) ∧ True) (∃ c5 : ByteArray × Int, (0 = c5.1.size) ∧ (∀ i, i < c5.1.size → DEqs (gnil i) ((gstr c5.1) i)) ∧ (a.1 = c5.2) ∧ (put_pre c5) ∧ Bytes ((putB c5).size) (gstr (putB c5)) ∧ Let (textOf ((putB c5).size) (gstr (putB c5))) (fun v6 : ByteArray => ∃ c7 : ByteArray × Int, (0 = c7.1.size) ∧ (∀ i, i < c7.1.size → DEqs (gnil i) ((gstr c7.1) i)) ∧ (a.2 = c7.2) ∧ (put_pre c7) ∧ Bytes ((putB c7).size) (gstr (putB c7)) ∧ Let (textOf ((putB c7).size) (gstr (putB c7))) (fun v8 : ByteArray => Br ((Op.bytesLess v6.toList v8.toList) == (decide (a.1 < a.2))) ((((v6.toList == v8.toList) == (a.1 == a.2)) = (lawTrue a)) ∧ True) ((false = (lawTrue a)) ∧ True))))
def f1.vc (a : Int × Int) : Prop := ((¬ ((lawTrue ()) = true) → (false = lawTrue a)) ∧ (¬ (¬ ((lawTrue ()) = true)) → (put_pre (ByteArray.empty, a.1) ∧ (put_pre (ByteArray.empty, a.2) ∧ ((((Op.bytesLess (putB (ByteArray.empty, a.1)).toList (putB (ByteArray.empty, a.2)).toList) == (decide (a.1 < a.2))) = true → ((((putB (ByteArray.empty, a.1)).toList == (putB (ByteArray.empty, a.2)).toList) == (a.1 == a.2)) = lawTrue a)) ∧ (¬ (((Op.bytesLess (putB (ByteArray.empty, a.1)).toList (putB (ByteArray.empty, a.2)).toList) == (decide (a.1 < a.2))) = true) → (false = lawTrue a)))))))
set_option maxRecDepth 100000 in
set_option maxHeartbeats 2000000 in
theorem f1.of (a : Int × Int) (h : f1.vc a) : f1.tree a := ⟨(), ⟨trivial, br (Cnd.not Cnd.b) (fun h2 k17 => ⟨k17, trivial⟩) (fun h3 k18 => ⟨(ByteArray.empty, a.1), slK RdB.nil (⟨rfl, ⟨k18.1, b2s RdB.self (fun h => ⟨(ByteArray.empty, a.2), slK RdB.nil (⟨rfl, ⟨h.1, b2s RdB.self (fun h => br Cnd.b (fun h9 k13 => ⟨k13, trivial⟩) (fun h10 k14 => ⟨k14, trivial⟩) h) h.2⟩⟩)⟩) k18.2⟩⟩)⟩) h⟩⟩
theorem f1.eq (a : Int × Int) : (f1.af a).gives f1.env (f1.args a) (f1.blks a) (f1.res a) (f1.blks' a) = f1.tree a := by kernel_rfl
end Go.Abs

-- interregnum/interregnumlaw01.PackPuts
namespace Go.Abs
open Go
def f2.wf (a : ByteArray × Int × ByteArray) : Prop := k_str.ok a.1 ∧ k_u64.ok a.2.1 ∧ k_str.ok a.2.2
def f2.size (a : ByteArray × Int × ByteArray) : Nat := k_str.size a.1 + (k_u64.size a.2.1 + (k_str.size a.2.2))
def f2.lpre (a : ByteArray × Int × ByteArray) : Prop := f2.wf a ∧ f2.size a ≤ 1048576
def f2.args (a : ByteArray × Int × ByteArray) : List D := [.str a.1, .int .u64 a.2.1, .str a.2.2]
def f2.blks (a : ByteArray × Int × ByteArray) : List (List D) := []
def f2.res (a : ByteArray × Int × ByteArray) : List D := [.bool (lawTrue a)]
def f2.blks' (a : ByteArray × Int × ByteArray) : List (List D) := []
def f2.C : Contract := FnC f2.args f2.blks (fun a => f2.lpre a) f2.res f2.blks'
end Go.Abs

/- interregnum/interregnumlaw01.PackPuts -/
namespace Go.Abs
open Go
set_option linter.unusedVariables false
def f2.kills (a : ByteArray × Int × ByteArray) : List Hint := []
def f2.cuts (a : ByteArray × Int × ByteArray) : List (Nat × Σ β : Type, β → Tm) := []
def f2.af (a : ByteArray × Int × ByteArray) : AF := AF.mk (.seq (.region [⟨(some 6), 0, .move, [.c (.bool false)], none⟩])
 (.seq (.seq (.region [⟨(some 7), 1, (.call false 13), [], none⟩,
  ⟨(some 8), 5, (.un .not), [.t 7], none⟩])
 (.cond (.t 8) (.seq (.region [⟨(some 6), 6, .move, [.c (.bool false)], none⟩])
 (.ret)) (.skip)))
 (.seq (.region [⟨(some 9), 7, .move, [.t 0], none⟩,
  ⟨(some 10), 8, (.conv .s2b), [.t 9], none⟩,
  ⟨(some 11), 9, .move, [.t 1], none⟩,
  ⟨(some 12), 10, (.call false 14), [.t 10, .t 11], none⟩,
  ⟨(some 13), 14, (.conv .b2s), [.t 12], none⟩,
  ⟨(some 14), 15, .move, [.t 0], none⟩,
  ⟨(some 15), 16, .move, [.t 1], none⟩,
  ⟨(some 16), 17, (.call false 15), [.t 15], none⟩,
  ⟨(some 17), 21, (.bin .add), [.t 14, .t 16], none⟩,
  ⟨(some 18), 22, (.bin .eql), [.t 13, .t 17], none⟩,
  ⟨(some 19), 23, .move, [.t 18], none⟩,
  ⟨(some 20), 24, .move, [.t 0], (some (19, true))⟩,
  ⟨(some 21), 25, (.conv .s2b), [.t 20], (some (19, true))⟩,
  ⟨(some 22), 26, .move, [.t 2], (some (19, true))⟩,
  ⟨(some 23), 27, (.call false 16), [.t 21, .t 22], (some (19, true))⟩,
  ⟨(some 24), 31, (.conv .b2s), [.t 23], (some (19, true))⟩,
  ⟨(some 25), 32, .move, [.t 0], (some (19, true))⟩,
  ⟨(some 26), 33, .move, [.t 2], (some (19, true))⟩,
  ⟨(some 27), 34, (.call false 17), [.t 26], (some (19, true))⟩,
  ⟨(some 28), 38, (.bin .add), [.t 25, .t 27], (some (19, true))⟩,
  ⟨(some 29), 39, (.bin .eql), [.t 24, .t 28], (some (19, true))⟩,
  ⟨(some 30), 40, .pick, [.t 19, .t 29, .c (.bool false)], none⟩,
  ⟨(some 6), 41, .move, [.t 30], none⟩])
 (.ret))))
  [.tmp 6] 0 28
def f2.env : Env := [(13, f13.C), (14, f14.C), (15, f15.C), (16, f16.C), (17, f17.C)]
def f2.tree (a : ByteArray × Int × ByteArray) : Prop := ∃ c1 : Unit, True ∧ Br (!(lawTrue c1)) ((false = (lawTrue a)) ∧ True) (∃ c5 : ByteArray × Int, (a.1.size = c5.1.size) ∧ (∀ i, i < c5.1.size → DEqs ((gstr a.1) i) ((gstr c5.1) i)) ∧ (a.2.1 = c5.2) ∧ (put_pre c5) ∧ Bytes ((putB c5).size) (gstr (putB c5)) ∧ Let (textOf ((putB c5).size) (gstr (putB c5))) (fun v6 : ByteArray => ∃ c7 : Int, (a.2.1 = c7) ∧ (num_pre c7) ∧ Br (Nat.ble (a.1.size + (numS c7).size) 9223372036854775807) (Br (v6.toList == (a.1 ++ (numS c7)).toList) (∃ c11 : ByteArray × ByteArray, (a.1.size = c11.1.size) ∧ (∀ i, i < c11.1.size → DEqs ((gstr a.1) i) ((gstr c11.1) i)) ∧ (a.2.2 = c11.2) ∧ (putText_pre c11) ∧ Bytes ((putText c11).size) (gstr (putText c11)) ∧ Let (textOf ((putText c11).size) (gstr (putText c11))) (fun v12 : ByteArray => ∃ c13 : ByteArray, (a.2.2 = c13) ∧ (text_pre c13) ∧ Br (Nat.ble (a.1.size + (textS c13).size) 9223372036854775807) (((v12.toList == (a.1 ++ (textS c13)).toList) = (lawTrue a)) ∧ True) False)) ((false = (lawTrue a)) ∧ True)) False))
def f2.vc (a : ByteArray × Int × ByteArray) : Prop := ((¬ ((lawTrue ()) = true) → (false = lawTrue a)) ∧ (¬ (¬ ((lawTrue ()) = true)) → (put_pre (a.1, a.2.1) ∧ (num_pre a.2.1 ∧ ((a.1.size + (numS (a.2.1)).size ≤ 9223372036854775807) ∧ (((putB (a.1, a.2.1)) = (a.1 ++ (numS (a.2.1))) → (putText_pre (a.1, a.2.2) ∧ (text_pre a.2.2 ∧ ((a.1.size + (textS (a.2.2)).size ≤ 9223372036854775807) ∧ (((putText (a.1, a.2.2)).toList == (a.1 ++ (textS (a.2.2))).toList) = lawTrue a))))) ∧ (¬ ((putB (a.1, a.2.1)) = (a.1 ++ (numS (a.2.1)))) → (false = lawTrue a))))))))
set_option maxRecDepth 100000 in
set_option maxHeartbeats 2000000 in
theorem f2.of (a : ByteArray × Int × ByteArray) (h : f2.vc a) : f2.tree a := ⟨(), ⟨trivial, br (Cnd.not Cnd.b) (fun h2 k25 => ⟨k25, trivial⟩) (fun h3 k26 => ⟨(a.1, a.2.1), slK RdB.self (⟨rfl, ⟨k26.1, b2s RdB.self (fun h => ⟨a.2.1, ⟨rfl, ⟨h.1, chk Cnd.ble (fun h8 k22 => br Cnd.seq (fun h9 k20 => ⟨(a.1, a.2.2), slK RdB.self (⟨rfl, ⟨k20.1, b2s RdB.self (fun h => ⟨a.2.2, ⟨rfl, ⟨h.1, chk Cnd.ble (fun h14 k16 => ⟨k16, trivial⟩) h.2⟩⟩⟩) k20.2⟩⟩)⟩) (fun h10 k21 => ⟨k21, trivial⟩) k22) h.2⟩⟩⟩) k26.2⟩⟩)⟩) h⟩⟩
theorem f2.eq (a : ByteArray × Int × ByteArray) : (f2.af a).gives f2.env (f2.args a) (f2.blks a) (f2.res a) (f2.blks' a) = f2.tree a := by kernel_rfl
end Go.Abs

-- interregnum/interregnumlaw01.PackRuns
namespace Go.Abs
open Go
def f3.wf (a : (List (Int)) × ByteArray) : Prop := k_sl_u64.ok a.1 ∧ k_str.ok a.2
def f3.size (a : (List (Int)) × ByteArray) : Nat := k_sl_u64.size a.1 + k_str.size a.2
def f3.lpre (a : (List (Int)) × ByteArray) : Prop := f3.wf a ∧ f3.size a ≤ 1048576
def f3.args (a : (List (Int)) × ByteArray) : List D := [.slice .ro 1 a.1.length (gl e_u64 a.1), .str a.2]
def f3.blks (a : (List (Int)) × ByteArray) : List (List D) := []
def f3.res (a : (List (Int)) × ByteArray) : List D := [.bool (lawTrue a)]
def f3.blks' (a : (List (Int)) × ByteArray) : List (List D) := []
def f3.C : Contract := FnC f3.args f3.blks (fun a => f3.lpre a) f3.res f3.blks'
end Go.Abs

/- interregnum/interregnumlaw01.PackRuns -/
namespace Go.Abs
open Go
set_option linter.unusedVariables false
def f3.kills (a : (List (Int)) × ByteArray) : List Hint := [.tell (ByteArray × Int) (fun x => ⟨[.slice .ro 1 a.1.length (gl e_u64 a.1), .str a.2, .dead, .dead, .dead, .slice .ro 1 a.2.size (gstr a.2), .slice .ro 1 x.1.size (gstr x.1), .dead, .dead, .dead, .dead, .dead, .dead, .dead, .dead, .dead, .dead, .dead, .dead, .dead, .dead, .dead, .dead, .dead, .dead, .dead, .dead, .dead, .dead, .dead, .int .i64 (a.1.length : Int), .int .i64 x.2, .dead, .dead, .dead, .dead, .dead, .dead, .dead, .dead, .dead, .dead, .dead, .dead, .dead, .dead, .dead, .dead, .dead, .dead, .dead, .dead, .dead, .dead, .dead, .dead, .dead, .dead, .dead, .dead, .dead, .dead, .dead, .dead, .dead, .dead, .dead, .dead, .dead, .dead, .dead, .dead, .dead, .dead, .dead, .dead, .dead, .dead, .dead, .dead, .dead, .dead], [], []⟩),
  .tell (ByteArray × Int × Int) (fun x => ⟨[.slice .ro 1 a.1.length (gl e_u64 a.1), .str a.2, .dead, .dead, .dead, .slice .ro 1 a.2.size (gstr a.2), .slice .ro 1 x.1.size (gstr x.1), .dead, .int .i64 x.2.1, .dead, .dead, .dead, .dead, .dead, .dead, .dead, .dead, .dead, .dead, .dead, .dead, .dead, .dead, .dead, .dead, .dead, .dead, .dead, .dead, .dead, .dead, .dead, .dead, .dead, .dead, .dead, .dead, .dead, .dead, .dead, .dead, .dead, .dead, .dead, .int .i64 (a.1.length : Int), .int .i64 x.2.2, .dead, .dead, .dead, .dead, .dead, .dead, .dead, .dead, .dead, .dead, .dead, .dead, .dead, .dead, .dead, .dead, .dead, .dead, .dead, .dead, .dead, .dead, .dead, .dead, .dead, .dead, .dead, .dead, .dead, .dead, .dead, .dead, .dead, .dead, .dead, .dead], [], []⟩)]
def f3.cuts (a : (List (Int)) × ByteArray) : List (Nat × Σ β : Type, β → Tm) := []
def f3.af (a : (List (Int)) × ByteArray) : AF := AF.mk (.seq (.region [⟨(some 4), 0, .move, [.c (.bool false)], none⟩])
 (.seq (.seq (.region [⟨(some 13), 1, (.call false 13), [], none⟩,
  ⟨(some 14), 5, (.un .not), [.t 13], none⟩,
  ⟨(some 15), 6, .move, [.t 14], none⟩,
  ⟨(some 16), 7, .move, [.t 0], (some (15, false))⟩,
  ⟨(some 17), 8, (.len false), [.t 16], (some (15, false))⟩,
  ⟨(some 18), 9, (.bin .gtr), [.t 17, .c (.int .i64 (1000))], (some (15, false))⟩,
  ⟨(some 19), 10, .pick, [.t 15, .c (.bool true), .t 18], none⟩,
  ⟨(some 20), 11, .move, [.t 19], none⟩,
  ⟨(some 21), 12, .move, [.t 1], (some (20, false))⟩,
  ⟨(some 22), 13, (.len true), [.t 21], (some (20, false))⟩,
  ⟨(some 23), 14, (.bin .gtr), [.t 22, .c (.int .i64 (1000))], (some (20, false))⟩,
  ⟨(some 24), 15, .pick, [.t 20, .c (.bool true), .t 23], none⟩])
 (.cond (.t 24) (.seq (.region [⟨(some 25), 16, (.call false 13), [], none⟩,
  ⟨(some 4), 20, .move, [.t 25], none⟩])
 (.ret)) (.skip)))
 (.seq (.region [⟨(some 26), 21, .move, [.t 1], none⟩,
  ⟨(some 27), 22, (.conv .s2b), [.t 26], none⟩,
  ⟨(some 5), 23, .move, [.t 27], none⟩])
 (.seq (.region [⟨(some 28), 24, .move, [.t 5], none⟩,
  ⟨(some 6), 25, .move, [.t 28], none⟩])
 (.seq (.seq (.region [⟨(some 29), 26, .move, [.t 0], none⟩,
  ⟨(some 30), 27, (.len false), [.t 29], none⟩,
  ⟨(some 31), 28, .move, [.c (.int .i64 (0))], none⟩])
 (.block 0 (.loopT (ByteArray × Int) (fun x => ⟨[.slice .ro 1 a.1.length (gl e_u64 a.1), .str a.2, .dead, .dead, .dead, .slice .ro 1 a.2.size (gstr a.2), .slice .ro 1 x.1.size (gstr x.1), .dead, .dead, .dead, .dead, .dead, .dead, .dead, .dead, .dead, .dead, .dead, .dead, .dead, .dead, .dead, .dead, .dead, .dead, .dead, .dead, .dead, .dead, .dead, .int .i64 (a.1.length : Int), .int .i64 x.2, .dead, .dead, .dead, .dead, .dead, .dead, .dead, .dead, .dead, .dead, .dead, .dead, .dead, .dead, .dead, .dead, .dead, .dead, .dead, .dead, .dead, .dead, .dead, .dead, .dead, .dead, .dead, .dead, .dead, .dead, .dead, .dead, .dead, .dead, .dead, .dead, .dead, .dead, .dead, .dead, .dead, .dead, .dead, .dead, .dead, .dead, .dead, .dead, .dead, .dead], [], []⟩) 29 44 (.seq (.region [⟨(some 32), 29, (.bin .lss), [.t 31, .t 30], none⟩])
 (.seq (.cond (.t 32) (.skip) (.exit 0))
 (.seq (.block 1 (.seq (.region [⟨(some 33), 30, .move, [.t 31], none⟩,
  ⟨(some 7), 31, .move, [.t 33], none⟩])
 (.region [⟨(some 34), 32, .move, [.t 6], none⟩,
  ⟨(some 35), 33, .move, [.t 0], none⟩,
  ⟨(some 36), 34, .move, [.t 7], none⟩,
  ⟨(some 37), 35, (.indexAddr 1 none), [.t 35, .t 36], none⟩,
  ⟨(some 38), 36, (.load false 1), [.t 37], none⟩,
  ⟨(some 39), 37, (.call false 14), [.t 34, .t 38], none⟩,
  ⟨(some 6), 41, .move, [.t 39], none⟩])))
 (.region [⟨(some 40), 42, (.bin .add), [.t 31, .c (.int .i64 (1))], none⟩,
  ⟨(some 31), 43, .move, [.t 40], none⟩])))))))
 (.seq (.region [⟨(some 41), 44, .move, [.t 1], none⟩,
  ⟨(some 42), 45, (.len true), [.t 41], none⟩,
  ⟨(some 8), 46, .move, [.t 42], none⟩])
 (.seq (.seq (.region [⟨(some 43), 47, .move, [.t 0], none⟩,
  ⟨(some 44), 48, (.len false), [.t 43], none⟩,
  ⟨(some 45), 49, .move, [.c (.int .i64 (0))], none⟩])
 (.block 2 (.loopT (ByteArray × Int × Int) (fun x => ⟨[.slice .ro 1 a.1.length (gl e_u64 a.1), .str a.2, .dead, .dead, .dead, .slice .ro 1 a.2.size (gstr a.2), .slice .ro 1 x.1.size (gstr x.1), .dead, .int .i64 x.2.1, .dead, .dead, .dead, .dead, .dead, .dead, .dead, .dead, .dead, .dead, .dead, .dead, .dead, .dead, .dead, .dead, .dead, .dead, .dead, .dead, .dead, .dead, .dead, .dead, .dead, .dead, .dead, .dead, .dead, .dead, .dead, .dead, .dead, .dead, .dead, .int .i64 (a.1.length : Int), .int .i64 x.2.2, .dead, .dead, .dead, .dead, .dead, .dead, .dead, .dead, .dead, .dead, .dead, .dead, .dead, .dead, .dead, .dead, .dead, .dead, .dead, .dead, .dead, .dead, .dead, .dead, .dead, .dead, .dead, .dead, .dead, .dead, .dead, .dead, .dead, .dead, .dead, .dead], [], []⟩) 50 86 (.seq (.region [⟨(some 46), 50, (.bin .lss), [.t 45, .t 44], none⟩])
 (.seq (.cond (.t 46) (.skip) (.exit 2))
 (.seq (.block 3 (.seq (.region [⟨(some 47), 51, .move, [.t 45], none⟩,
  ⟨(some 9), 52, .move, [.t 47], none⟩])
 (.seq (.region [⟨(some 49), 53, .move, [.t 6], none⟩,
  ⟨(some 50), 54, .move, [.t 8], none⟩,
  ⟨(some 51), 55, (.call false 18), [.t 49, .t 50], none⟩,
  ⟨(some 48), 59, .move, [.t 51], none⟩,
  ⟨(some 52), 60, (.extract 0), [.t 48], none⟩,
  ⟨(some 53), 61, (.extract 1), [.t 48], none⟩,
  ⟨(some 54), 62, (.extract 2), [.t 48], none⟩,
  ⟨(some 10), 63, .move, [.t 52], none⟩,
  ⟨(some 11), 64, .move, [.t 53], none⟩,
  ⟨(some 12), 65, .move, [.t 54], none⟩])
 (.seq (.seq (.region [⟨(some 55), 66, .move, [.t 12], none⟩,
  ⟨(some 56), 67, (.bin .neq), [.t 55, .c (.int .i64 (0))], none⟩,
  ⟨(some 57), 68, .move, [.t 56], none⟩,
  ⟨(some 58), 69, .move, [.t 10], (some (57, false))⟩,
  ⟨(some 59), 70, .move, [.t 0], (some (57, false))⟩,
  ⟨(some 60), 71, .move, [.t 9], (some (57, false))⟩,
  ⟨(some 61), 72, (.indexAddr 1 none), [.t 59, .t 60], (some (57, false))⟩,
  ⟨(some 62), 73, (.load false 1), [.t 61], (some (57, false))⟩,
  ⟨(some 63), 74, (.bin .neq), [.t 58, .t 62], (some (57, false))⟩,
  ⟨(some 64), 75, .pick, [.t 57, .c (.bool true), .t 63], none⟩,
  ⟨(some 65), 76, .move, [.t 64], none⟩,
  ⟨(some 66), 77, .move, [.t 11], (some (65, false))⟩,
  ⟨(some 67), 78, .move, [.t 8], (some (65, false))⟩,
  ⟨(some 68), 79, (.bin .leq), [.t 66, .t 67], (some (65, false))⟩,
  ⟨(some 69), 80, .pick, [.t 65, .c (.bool true), .t 68], none⟩])
 (.cond (.t 69) (.seq (.region [⟨(some 4), 81, .move, [.c (.bool false)], none⟩])
 (.ret)) (.skip)))
 (.region [⟨(some 70), 82, .move, [.t 11], none⟩,
  ⟨(some 8), 83, .move, [.t 70], none⟩])))))
 (.region [⟨(some 71), 84, (.bin .add), [.t 45, .c (.int .i64 (1))], none⟩,
  ⟨(some 45), 85, .move, [.t 71], none⟩])))))))
 (.seq (.region [⟨(some 72), 86, .move, [.t 8], none⟩,
  ⟨(some 73), 87, .move, [.t 6], none⟩,
  ⟨(some 74), 88, (.len false), [.t 73], none⟩,
  ⟨(some 75), 89, (.bin .eql), [.t 72, .t 74], none⟩,
  ⟨(some 76), 90, .move, [.t 75], none⟩,
  ⟨(some 77), 91, .move, [.t 5], (some (76, true))⟩,
  ⟨(some 78), 92, (.conv .b2s), [.t 77], (some (76, true))⟩,
  ⟨(some 79), 93, .move, [.t 1], (some (76, true))⟩,
  ⟨(some 80), 94, (.bin .eql), [.t 78, .t 79], (some (76, true))⟩,
  ⟨(some 81), 95, .pick, [.t 76, .t 80, .c (.bool false)], none⟩,
  ⟨(some 4), 96, .move, [.t 81], none⟩])
 (.ret)))))))))
  [.tmp 4] 0 80
def f3.env : Env := [(13, f13.C), (14, f14.C), (18, f18.C)]
def f3.tree (a : (List (Int)) × ByteArray) : Prop := ∃ c1 : Unit, True ∧ Br (!(lawTrue c1)) (∃ c4 : Unit, True ∧ ((lawTrue c4) = (lawTrue a)) ∧ True) (Br (decide ((1000 : Int) < (a.1.length : Int))) (∃ c9 : Unit, True ∧ ((lawTrue c9) = (lawTrue a)) ∧ True) (Br (decide ((1000 : Int) < (a.2.size : Int))) (∃ c14 : Unit, True ∧ ((lawTrue c14) = (lawTrue a)) ∧ True) (∃ (I18 : (ByteArray × Int) → Prop) (μ19 : (ByteArray × Int) → Nat), (∃ x17 : ByteArray × Int, (a.1.length = a.1.length) ∧ (∀ i, i < a.1.length → DEqs ((gl e_u64 a.1) i) ((gl e_u64 a.1) i)) ∧ (a.2 = a.2) ∧ (a.2.size = a.2.size) ∧ (∀ i, i < a.2.size → DEqs ((gstr a.2) i) ((gstr a.2) i)) ∧ (a.2.size = x17.1.size) ∧ (∀ i, i < x17.1.size → DEqs ((gstr a.2) i) ((gstr x17.1) i)) ∧ ((a.1.length : Int) = (a.1.length : Int)) ∧ ((0 : Int) = x17.2) ∧ I18 x17) ∧ ∀ y20 : ByteArray × Int, I18 y20 → (Br (decide (y20.2 < (a.1.length : Int))) (Br (decide ((0 : Int) ≤ y20.2) && decide (y20.2 < (a.1.length : Int))) (∃ c24 : ByteArray × Int, (y20.1.size = c24.1.size) ∧ (∀ i, i < c24.1.size → DEqs ((gstr y20.1) i) ((gstr c24.1) i)) ∧ ((at_ a.1 y20.2) = c24.2) ∧ (put_pre c24) ∧ Let (IntKind.i64.wrap (y20.2 + (1 : Int))) (fun v25 : Int => ∃ x26 : ByteArray × Int, (a.1.length = a.1.length) ∧ (∀ i, i < a.1.length → DEqs ((gl e_u64 a.1) i) ((gl e_u64 a.1) i)) ∧ (a.2 = a.2) ∧ (a.2.size = a.2.size) ∧ (∀ i, i < a.2.size → DEqs ((gstr a.2) i) ((gstr a.2) i)) ∧ (((putB c24).size) = x26.1.size) ∧ (∀ i, i < x26.1.size → DEqs ((gstr (putB c24)) i) ((gstr x26.1) i)) ∧ ((a.1.length : Int) = (a.1.length : Int)) ∧ (v25 = x26.2) ∧ I18 x26 ∧ μ19 x26 < μ19 y20)) False) (∃ (I34 : (ByteArray × Int × Int) → Prop) (μ35 : (ByteArray × Int × Int) → Nat), (∃ x33 : ByteArray × Int × Int, (a.1.length = a.1.length) ∧ (∀ i, i < a.1.length → DEqs ((gl e_u64 a.1) i) ((gl e_u64 a.1) i)) ∧ (a.2 = a.2) ∧ (a.2.size = a.2.size) ∧ (∀ i, i < a.2.size → DEqs ((gstr a.2) i) ((gstr a.2) i)) ∧ (y20.1.size = x33.1.size) ∧ (∀ i, i < x33.1.size → DEqs ((gstr y20.1) i) ((gstr x33.1) i)) ∧ ((a.2.size : Int) = x33.2.1) ∧ ((a.1.length : Int) = (a.1.length : Int)) ∧ ((0 : Int) = x33.2.2) ∧ I34 x33) ∧ ∀ y36 : ByteArray × Int × Int, I34 y36 → (Br (decide (y36.2.2 < (a.1.length : Int))) (∃ c39 : ByteArray × Int, (y36.1.size = c39.1.size) ∧ (∀ i, i < c39.1.size → DEqs ((gstr y36.1) i) ((gstr c39.1) i)) ∧ (y36.2.1 = c39.2) ∧ (take_pre c39) ∧ Br (((takeN c39).2.2) != (0 : Int)) ((false = (lawTrue a)) ∧ True) (Br (decide ((0 : Int) ≤ y36.2.2) && decide (y36.2.2 < (a.1.length : Int))) (Br (((takeN c39).1) != (at_ a.1 y36.2.2)) ((false = (lawTrue a)) ∧ True) (Br (decide (((takeN c39).2.1) ≤ y36.2.1)) ((false = (lawTrue a)) ∧ True) (Let (IntKind.i64.wrap (y36.2.2 + (1 : Int))) (fun v50 : Int => ∃ x51 : ByteArray × Int × Int, (a.1.length = a.1.length) ∧ (∀ i, i < a.1.length → DEqs ((gl e_u64 a.1) i) ((gl e_u64 a.1) i)) ∧ (a.2 = a.2) ∧ (a.2.size = a.2.size) ∧ (∀ i, i < a.2.size → DEqs ((gstr a.2) i) ((gstr a.2) i)) ∧ (y36.1.size = x51.1.size) ∧ (∀ i, i < x51.1.size → DEqs ((gstr y36.1) i) ((gstr x51.1) i)) ∧ (((takeN c39).2.1) = x51.2.1) ∧ ((a.1.length : Int) = (a.1.length : Int)) ∧ (v50 = x51.2.2) ∧ I34 x51 ∧ μ35 x51 < μ35 y36)))) False)) (Br (y36.2.1 == (y36.1.size : Int)) (Bytes a.2.size (gstr a.2) ∧ Let (textOf a.2.size (gstr a.2)) (fun v66 : ByteArray => ((v66.toList == a.2.toList) = (lawTrue a)) ∧ True)) ((false = (lawTrue a)) ∧ True))))))))
def f3.vc (a : (List (Int)) × ByteArray) : Prop := ((¬ ((lawTrue ()) = true) → ((lawTrue ()) = lawTrue a)) ∧ (¬ (¬ ((lawTrue ()) = true)) → (((1000 : Int) < (a.1.length : Int) → ((lawTrue ()) = lawTrue a)) ∧ (¬ ((1000 : Int) < (a.1.length : Int)) → (((1000 : Int) < (a.2.size : Int) → ((lawTrue ()) = lawTrue a)) ∧ (¬ ((1000 : Int) < (a.2.size : Int)) → (∃ (I18 : (ByteArray × Int) → Prop) (μ19 : (ByteArray × Int) → Nat), I18 (a.2, (0 : Int)) ∧ ∀ y20 : ByteArray × Int, I18 y20 → ((y20.2 < (a.1.length : Int) → ((0 : Int) ≤ y20.2 ∧ y20.2 < (a.1.length : Int) ∧ (put_pre (y20.1, at_ a.1 y20.2) ∧ (-9223372036854775808 ≤ (y20.2 + (1 : Int)) ∧ (y20.2 + (1 : Int)) ≤ 9223372036854775807 ∧ (I18 ((putB (y20.1, at_ a.1 y20.2)), (y20.2 + (1 : Int))) ∧ μ19 ((putB (y20.1, at_ a.1 y20.2)), (y20.2 + (1 : Int))) < μ19 y20))))) ∧ (¬ (y20.2 < (a.1.length : Int)) → (∃ (I34 : (ByteArray × Int × Int) → Prop) (μ35 : (ByteArray × Int × Int) → Nat), I34 (y20.1, (a.2.size : Int), (0 : Int)) ∧ ∀ y36 : ByteArray × Int × Int, I34 y36 → ((y36.2.2 < (a.1.length : Int) → (take_pre (y36.1, y36.2.1) ∧ ((¬ ((takeN (y36.1, y36.2.1)).2.2) = (0 : Int) → (false = lawTrue a)) ∧ (¬ (¬ ((takeN (y36.1, y36.2.1)).2.2) = (0 : Int)) → ((0 : Int) ≤ y36.2.2 ∧ y36.2.2 < (a.1.length : Int) ∧ ((¬ ((takeN (y36.1, y36.2.1)).1) = (at_ a.1 y36.2.2) → (false = lawTrue a)) ∧ (¬ (¬ ((takeN (y36.1, y36.2.1)).1) = (at_ a.1 y36.2.2)) → ((((takeN (y36.1, y36.2.1)).2.1) ≤ y36.2.1 → (false = lawTrue a)) ∧ (¬ (((takeN (y36.1, y36.2.1)).2.1) ≤ y36.2.1) → (-9223372036854775808 ≤ (y36.2.2 + (1 : Int)) ∧ (y36.2.2 + (1 : Int)) ≤ 9223372036854775807 ∧ (I34 (y36.1, (takeN (y36.1, y36.2.1)).2.1, (y36.2.2 + (1 : Int))) ∧ μ35 (y36.1, (takeN (y36.1, y36.2.1)).2.1, (y36.2.2 + (1 : Int))) < μ35 y36))))))))))) ∧ (¬ (y36.2.2 < (a.1.length : Int)) → ((y36.2.1 = (y36.1.size : Int) → (((a.2).toList == a.2.toList) = lawTrue a)) ∧ (¬ (y36.2.1 = (y36.1.size : Int)) → (false = lawTrue a)))))))))))))))
set_option maxRecDepth 100000 in
set_option maxHeartbeats 2000000 in
theorem f3.of (a : (List (Int)) × ByteArray) (h : f3.vc a) : f3.tree a := ⟨(), ⟨trivial, br (Cnd.not Cnd.b) (fun h2 k85 => ⟨(), ⟨trivial, ⟨k85, trivial⟩⟩⟩) (fun h3 k86 => br Cnd.dec (fun h7 k83 => ⟨(), ⟨trivial, ⟨k83, trivial⟩⟩⟩) (fun h8 k84 => br Cnd.dec (fun h12 k81 => ⟨(), ⟨trivial, ⟨k81, trivial⟩⟩⟩) (fun h13 k82 => Exists.elim k82 (fun I18 h78_ => Exists.elim h78_ (fun μ19 h78 => ⟨I18, μ19, ⟨(a.2, (0 : Int)), slK Rds.self (⟨rfl, slK RdB.self (slK RdB.self (⟨rfl, ⟨rfl, h78.1⟩⟩))⟩)⟩, fun y20 h80 => br Cnd.dec (fun h21 k76 => chk Cnd.ix (fun h23 k32 => ⟨(y20.1, at_ a.1 y20.2), slK RdB.self (⟨rfl, ⟨k32.1, wrapK.i64 (fun h28 h29 k30 => ⟨((putB (y20.1, at_ a.1 y20.2)), (y20.2 + (1 : Int))), slK Rds.self (⟨rfl, slK RdB.self (slK RdB.self (⟨rfl, ⟨rfl, k30⟩⟩))⟩)⟩) k32.2⟩⟩)⟩) ⟨⟨k76.1, k76.2.1⟩, k76.2.2⟩) (fun h22 k77 => Exists.elim k77 (fun I34 h73_ => Exists.elim h73_ (fun μ35 h73 => ⟨I34, μ35, ⟨(y20.1, (a.2.size : Int), (0 : Int)), slK Rds.self (⟨rfl, slK RdB.self (slK RdB.self (⟨rfl, ⟨rfl, ⟨rfl, h73.1⟩⟩⟩))⟩)⟩, fun y36 h75 => br Cnd.dec (fun h37 k71 => ⟨(y36.1, y36.2.1), slK RdB.self (⟨rfl, ⟨k71.1, br Cnd.ne (fun h40 k61 => ⟨k61, trivial⟩) (fun h41 k62 => chk Cnd.ix (fun h43 k60 => br Cnd.ne (fun h44 k58 => ⟨k58, trivial⟩) (fun h45 k59 => br Cnd.dec (fun h47 k56 => ⟨k56, trivial⟩) (fun h48 k57 => wrapK.i64 (fun h53 h54 k55 => ⟨(y36.1, (takeN (y36.1, y36.2.1)).2.1, (y36.2.2 + (1 : Int))), slK Rds.self (⟨rfl, slK RdB.self (slK RdB.self (⟨rfl, ⟨rfl, ⟨rfl, k55⟩⟩⟩))⟩)⟩) k57) k59) k60) ⟨⟨k62.1, k62.2.1⟩, k62.2.2⟩) k71.2⟩⟩)⟩) (fun h38 k72 => br Cnd.eq (fun h64 k69 => b2s RdB.self (fun h => ⟨h, trivial⟩) k69) (fun h65 k70 => ⟨k70, trivial⟩) k72) (h73.2 y36 h75)⟩))) (h78.2 y20 h80)⟩))) k84) k86) h⟩⟩
theorem f3.eq (a : (List (Int)) × ByteArray) : (f3.af a).gives f3.env (f3.args a) (f3.blks a) (f3.res a) (f3.blks' a) = f3.tree a := by kernel_rfl
end Go.Abs

-- interregnum/interregnumlaw01.PackTakes
namespace Go.Abs
open Go
def f4.wf (a : ByteArray × Int × Int) : Prop := k_str.ok a.1 ∧ k_i64.ok a.2.1 ∧ k_i64.ok a.2.2
def f4.size (a : ByteArray × Int × Int) : Nat := k_str.size a.1 + (k_i64.size a.2.1 + (k_i64.size a.2.2))
def f4.lpre (a : ByteArray × Int × Int) : Prop := f4.wf a ∧ f4.size a ≤ 1048576
def f4.args (a : ByteArray × Int × Int) : List D := [.str a.1, .int .i64 a.2.1, .int .i64 a.2.2]
def f4.blks (a : ByteArray × Int × Int) : List (List D) := []
def f4.res (a : ByteArray × Int × Int) : List D := [.bool (lawTrue a)]
def f4.blks' (a : ByteArray × Int × Int) : List (List D) := []
def f4.C : Contract := FnC f4.args f4.blks (fun a => f4.lpre a) f4.res f4.blks'
end Go.Abs

/- interregnum/interregnumlaw01.PackTakes -/
namespace Go.Abs
open Go
set_option linter.unusedVariables false
def f4.kills (a : ByteArray × Int × Int) : List Hint := []
def f4.cuts (a : ByteArray × Int × Int) : List (Nat × Σ β : Type, β → Tm) := []
def f4.af (a : ByteArray × Int × Int) : AF := AF.mk (.seq (.region [⟨(some 6), 0, .move, [.c (.bool false)], none⟩])
 (.seq (.seq (.region [⟨(some 19), 1, (.call false 13), [], none⟩,
  ⟨(some 20), 5, (.un .not), [.t 19], none⟩])
 (.cond (.t 20) (.seq (.region [⟨(some 6), 6, .move, [.c (.bool false)], none⟩])
 (.ret)) (.skip)))
 (.seq (.region [⟨(some 22), 7, .move, [.t 0], none⟩,
  ⟨(some 23), 8, (.conv .s2b), [.t 22], none⟩,
  ⟨(some 24), 9, .move, [.t 1], none⟩,
  ⟨(some 25), 10, (.call false 18), [.t 23, .t 24], none⟩,
  ⟨(some 21), 14, .move, [.t 25], none⟩,
  ⟨(some 26), 15, (.extract 0), [.t 21], none⟩,
  ⟨(some 27), 16, (.extract 1), [.t 21], none⟩,
  ⟨(some 28), 17, (.extract 2), [.t 21], none⟩,
  ⟨(some 7), 18, .move, [.t 26], none⟩,
  ⟨(some 8), 19, .move, [.t 27], none⟩,
  ⟨(some 9), 20, .move, [.t 28], none⟩])
 (.seq (.region [⟨(some 30), 21, .move, [.t 0], none⟩,
  ⟨(some 31), 22, .move, [.t 1], none⟩,
  ⟨(some 32), 23, (.call false 19), [.t 30, .t 31], none⟩,
  ⟨(some 29), 27, .move, [.t 32], none⟩,
  ⟨(some 33), 28, (.extract 0), [.t 29], none⟩,
  ⟨(some 34), 29, (.extract 1), [.t 29], none⟩,
  ⟨(some 35), 30, (.extract 2), [.t 29], none⟩,
  ⟨(some 10), 31, .move, [.t 33], none⟩,
  ⟨(some 11), 32, .move, [.t 34], none⟩,
  ⟨(some 12), 33, .move, [.t 35], none⟩])
 (.seq (.region [⟨(some 37), 34, .move, [.t 0], none⟩,
  ⟨(some 38), 35, (.conv .s2b), [.t 37], none⟩,
  ⟨(some 39), 36, .move, [.t 1], none⟩,
  ⟨(some 40), 37, .move, [.t 2], none⟩,
  ⟨(some 41), 38, (.call false 20), [.t 38, .t 39, .t 40], none⟩,
  ⟨(some 36), 42, .move, [.t 41], none⟩,
  ⟨(some 42), 43, (.extract 0), [.t 36], none⟩,
  ⟨(some 43), 44, (.extract 1), [.t 36], none⟩,
  ⟨(some 44), 45, (.extract 2), [.t 36], none⟩,
  ⟨(some 13), 46, .move, [.t 42], none⟩,
  ⟨(some 14), 47, .move, [.t 43], none⟩,
  ⟨(some 15), 48, .move, [.t 44], none⟩])
 (.seq (.region [⟨(some 46), 49, .move, [.t 0], none⟩,
  ⟨(some 47), 50, .move, [.t 1], none⟩,
  ⟨(some 48), 51, .move, [.t 2], none⟩,
  ⟨(some 49), 52, (.call false 21), [.t 46, .t 47, .t 48], none⟩,
  ⟨(some 45), 56, .move, [.t 49], none⟩,
  ⟨(some 50), 57, (.extract 0), [.t 45], none⟩,
  ⟨(some 51), 58, (.extract 1), [.t 45], none⟩,
  ⟨(some 52), 59, (.extract 2), [.t 45], none⟩,
  ⟨(some 16), 60, .move, [.t 50], none⟩,
  ⟨(some 17), 61, .move, [.t 51], none⟩,
  ⟨(some 18), 62, .move, [.t 52], none⟩])
 (.seq (.region [⟨(some 53), 63, .move, [.t 7], none⟩,
  ⟨(some 54), 64, .move, [.t 10], none⟩,
  ⟨(some 55), 65, (.bin .eql), [.t 53, .t 54], none⟩,
  ⟨(some 56), 66, .move, [.t 55], none⟩,
  ⟨(some 57), 67, .move, [.t 8], (some (56, true))⟩,
  ⟨(some 58), 68, .move, [.t 11], (some (56, true))⟩,
  ⟨(some 59), 69, (.bin .eql), [.t 57, .t 58], (some (56, true))⟩,
  ⟨(some 60), 70, .pick, [.t 56, .t 59, .c (.bool false)], none⟩,
  ⟨(some 61), 71, .move, [.t 60], none⟩,
  ⟨(some 62), 72, .move, [.t 9], (some (61, true))⟩,
  ⟨(some 63), 73, .move, [.t 12], (some (61, true))⟩,
  ⟨(some 64), 74, (.bin .eql), [.t 62, .t 63], (some (61, true))⟩,
  ⟨(some 65), 75, .pick, [.t 61, .t 64, .c (.bool false)], none⟩,
  ⟨(some 66), 76, .move, [.t 65], none⟩,
  ⟨(some 67), 77, .move, [.t 13], (some (66, true))⟩,
  ⟨(some 68), 78, .move, [.t 16], (some (66, true))⟩,
  ⟨(some 69), 79, (.bin .eql), [.t 67, .t 68], (some (66, true))⟩,
  ⟨(some 70), 80, .pick, [.t 66, .t 69, .c (.bool false)], none⟩,
  ⟨(some 71), 81, .move, [.t 70], none⟩,
  ⟨(some 72), 82, .move, [.t 14], (some (71, true))⟩,
  ⟨(some 73), 83, .move, [.t 17], (some (71, true))⟩,
  ⟨(some 74), 84, (.bin .eql), [.t 72, .t 73], (some (71, true))⟩,
  ⟨(some 75), 85, .pick, [.t 71, .t 74, .c (.bool false)], none⟩,
  ⟨(some 76), 86, .move, [.t 75], none⟩,
  ⟨(some 77), 87, .move, [.t 15], (some (76, true))⟩,
  ⟨(some 78), 88, .move, [.t 18], (some (76, true))⟩,
  ⟨(some 79), 89, (.bin .eql), [.t 77, .t 78], (some (76, true))⟩,
  ⟨(some 80), 90, .pick, [.t 76, .t 79, .c (.bool false)], none⟩,
  ⟨(some 6), 91, .move, [.t 80], none⟩])
 (.ret))))))))
  [.tmp 6] 0 78
def f4.env : Env := [(13, f13.C), (18, f18.C), (19, f19.C), (20, f20.C), (21, f21.C)]
def f4.tree (a : ByteArray × Int × Int) : Prop := ∃ c1 : Unit, True ∧ Br (!(lawTrue c1)) ((false = (lawTrue a)) ∧ True) (∃ c5 : ByteArray × Int, (a.1.size = c5.1.size) ∧ (∀ i, i < c5.1.size → DEqs ((gstr a.1) i) ((gstr c5.1) i)) ∧ (a.2.1 = c5.2) ∧ (take_pre c5) ∧ ∃ c6 : ByteArray × Int, (a.1 = c6.1) ∧ (a.2.1 = c6.2) ∧ (take_pre c6) ∧ ∃ c7 : ByteArray × Int × Int, (a.1.size = c7.1.size) ∧ (∀ i, i < c7.1.size → DEqs ((gstr a.1) i) ((gstr c7.1) i)) ∧ (a.2.1 = c7.2.1) ∧ (a.2.2 = c7.2.2) ∧ (takeText_pre c7) ∧ ∃ c8 : ByteArray × Int × Int, (a.1 = c8.1) ∧ (a.2.1 = c8.2.1) ∧ (a.2.2 = c8.2.2) ∧ (takeText_pre c8) ∧ Br (((takeN c5).1) == ((takeN c6).1)) (Br (((takeN c5).2.1) == ((takeN c6).2.1)) (Br (((takeN c5).2.2) == ((takeN c6).2.2)) (Br (((takeText c7).1).toList == ((takeText c8).1).toList) (Br (((takeText c7).2.1) == ((takeText c8).2.1)) (((((takeText c7).2.2) == ((takeText c8).2.2)) = (lawTrue a)) ∧ True) ((false = (lawTrue a)) ∧ True)) ((false = (lawTrue a)) ∧ True)) ((false = (lawTrue a)) ∧ True)) ((false = (lawTrue a)) ∧ True)) ((false = (lawTrue a)) ∧ True))
def f4.vc (a : ByteArray × Int × Int) : Prop := ((¬ ((lawTrue ()) = true) → (false = lawTrue a)) ∧ (¬ (¬ ((lawTrue ()) = true)) → (take_pre (a.1, a.2.1) ∧ (take_pre (a.1, a.2.1) ∧ (takeText_pre (a.1, a.2.1, a.2.2) ∧ (takeText_pre (a.1, a.2.1, a.2.2) ∧ ((((takeN (a.1, a.2.1)).1) = ((takeN (a.1, a.2.1)).1) → ((((takeN (a.1, a.2.1)).2.1) = ((takeN (a.1, a.2.1)).2.1) → ((((takeN (a.1, a.2.1)).2.2) = ((takeN (a.1, a.2.1)).2.2) → ((((takeText (a.1, a.2.1, a.2.2)).1) = ((takeText (a.1, a.2.1, a.2.2)).1) → ((((takeText (a.1, a.2.1, a.2.2)).2.1) = ((takeText (a.1, a.2.1, a.2.2)).2.1) → ((((takeText (a.1, a.2.1, a.2.2)).2.2) == ((takeText (a.1, a.2.1, a.2.2)).2.2)) = lawTrue a)) ∧ (¬ (((takeText (a.1, a.2.1, a.2.2)).2.1) = ((takeText (a.1, a.2.1, a.2.2)).2.1)) → (false = lawTrue a)))) ∧ (¬ (((takeText (a.1, a.2.1, a.2.2)).1) = ((takeText (a.1, a.2.1, a.2.2)).1)) → (false = lawTrue a)))) ∧ (¬ (((takeN (a.1, a.2.1)).2.2) = ((takeN (a.1, a.2.1)).2.2)) → (false = lawTrue a)))) ∧ (¬ (((takeN (a.1, a.2.1)).2.1) = ((takeN (a.1, a.2.1)).2.1)) → (false = lawTrue a)))) ∧ (¬ (((takeN (a.1, a.2.1)).1) = ((takeN (a.1, a.2.1)).1)) → (false = lawTrue a)))))))))
set_option maxRecDepth 100000 in
set_option maxHeartbeats 2000000 in
theorem f4.of (a : ByteArray × Int × Int) (h : f4.vc a) : f4.tree a := ⟨(), ⟨trivial, br (Cnd.not Cnd.b) (fun h2 k39 => ⟨k39, trivial⟩) (fun h3 k40 => ⟨(a.1, a.2.1), slK RdB.self (⟨rfl, ⟨k40.1, ⟨(a.1, a.2.1), ⟨rfl, ⟨rfl, ⟨k40.2.1, ⟨(a.1, a.2.1, a.2.2), slK RdB.self (⟨rfl, ⟨rfl, ⟨k40.2.2.1, ⟨(a.1, a.2.1, a.2.2), ⟨rfl, ⟨rfl, ⟨rfl, ⟨k40.2.2.2.1, br Cnd.eq (fun h9 k33 => br Cnd.eq (fun h11 k30 => br Cnd.eq (fun h13 k27 => br Cnd.seq (fun h15 k24 => br Cnd.eq (fun h17 k21 => ⟨k21, trivial⟩) (fun h18 k22 => ⟨k22, trivial⟩) k24) (fun h16 k25 => ⟨k25, trivial⟩) k27) (fun h14 k28 => ⟨k28, trivial⟩) k30) (fun h12 k31 => ⟨k31, trivial⟩) k33) (fun h10 k34 => ⟨k34, trivial⟩) k40.2.2.2.2⟩⟩⟩⟩⟩⟩⟩⟩)⟩⟩⟩⟩⟩⟩⟩)⟩) h⟩⟩
theorem f4.eq (a : ByteArray × Int × Int) : (f4.af a).gives f4.env (f4.args a) (f4.blks a) (f4.res a) (f4.blks' a) = f4.tree a := by kernel_rfl
end Go.Abs

-- interregnum/interregnumlaw01.PackBack
namespace Go.Abs
open Go
def f5.wf (a : ByteArray × Int × ByteArray × ByteArray × Int) : Prop := k_str.ok a.1 ∧ k_u64.ok a.2.1 ∧ k_str.ok a.2.2.1 ∧ k_str.ok a.2.2.2.1 ∧ k_u64.ok a.2.2.2.2
def f5.size (a : ByteArray × Int × ByteArray × ByteArray × Int) : Nat := k_str.size a.1 + (k_u64.size a.2.1 + (k_str.size a.2.2.1 + (k_str.size a.2.2.2.1 + (k_u64.size a.2.2.2.2))))
def f5.lpre (a : ByteArray × Int × ByteArray × ByteArray × Int) : Prop := f5.wf a ∧ f5.size a ≤ 1048576
def f5.args (a : ByteArray × Int × ByteArray × ByteArray × Int) : List D := [.str a.1, .int .u64 a.2.1, .str a.2.2.1, .str a.2.2.2.1, .int .u64 a.2.2.2.2]
def f5.blks (a : ByteArray × Int × ByteArray × ByteArray × Int) : List (List D) := []
def f5.res (a : ByteArray × Int × ByteArray × ByteArray × Int) : List D := [.bool (lawTrue a)]
def f5.blks' (a : ByteArray × Int × ByteArray × ByteArray × Int) : List (List D) := []
def f5.C : Contract := FnC f5.args f5.blks (fun a => f5.lpre a) f5.res f5.blks'
end Go.Abs

/- interregnum/interregnumlaw01.PackBack -/
namespace Go.Abs
open Go
set_option linter.unusedVariables false
def f5.kills (a : ByteArray × Int × ByteArray × ByteArray × Int) : List Hint := []
def f5.cuts (a : ByteArray × Int × ByteArray × ByteArray × Int) : List (Nat × Σ β : Type, β → Tm) := []
def f5.af (a : ByteArray × Int × ByteArray × ByteArray × Int) : AF := AF.mk (.seq (.region [⟨(some 10), 0, .move, [.c (.bool false)], none⟩])
 (.seq (.seq (.region [⟨(some 23), 1, (.call false 13), [], none⟩,
  ⟨(some 24), 5, (.un .not), [.t 23], none⟩])
 (.cond (.t 24) (.seq (.region [⟨(some 10), 6, .move, [.c (.bool false)], none⟩])
 (.ret)) (.skip)))
 (.seq (.region [⟨(some 25), 7, .move, [.t 0], none⟩,
  ⟨(some 26), 8, (.conv .s2b), [.t 25], none⟩,
  ⟨(some 27), 9, .move, [.t 1], none⟩,
  ⟨(some 28), 10, (.call false 14), [.t 26, .t 27], none⟩,
  ⟨(some 29), 14, .move, [.t 0], none⟩,
  ⟨(some 30), 15, (.conv .s2b), [.t 29], none⟩,
  ⟨(some 31), 16, .move, [.t 2], none⟩,
  ⟨(some 32), 17, (.call false 16), [.t 30, .t 31], none⟩,
  ⟨(some 11), 21, .move, [.t 28], none⟩,
  ⟨(some 12), 22, .move, [.t 32], none⟩])
 (.seq (.region [⟨(some 33), 23, .move, [.t 11], none⟩,
  ⟨(some 34), 24, (.len false), [.t 33], none⟩,
  ⟨(some 35), 25, .move, [.t 0], none⟩,
  ⟨(some 36), 26, (.len true), [.t 35], none⟩,
  ⟨(some 37), 27, (.bin .sub), [.t 34, .t 36], none⟩,
  ⟨(some 13), 28, .move, [.t 37], none⟩])
 (.seq (.seq (.region [⟨(some 38), 29, .move, [.t 13], none⟩,
  ⟨(some 39), 30, (.bin .lss), [.t 38, .c (.int .i64 (1))], none⟩,
  ⟨(some 40), 31, .move, [.t 39], none⟩,
  ⟨(some 41), 32, .move, [.t 13], (some (40, false))⟩,
  ⟨(some 42), 33, (.bin .gtr), [.t 41, .c (.int .i64 (9))], (some (40, false))⟩,
  ⟨(some 43), 34, .pick, [.t 40, .c (.bool true), .t 42], none⟩])
 (.cond (.t 43) (.seq (.region [⟨(some 10), 35, .move, [.c (.bool false)], none⟩])
 (.ret)) (.skip)))
 (.seq (.region [⟨(some 45), 36, .move, [.t 11], none⟩,
  ⟨(some 46), 37, .move, [.t 11], none⟩,
  ⟨(some 47), 38, (.len false), [.t 46], none⟩,
  ⟨(some 48), 39, .move, [.t 11], none⟩,
  ⟨(some 49), 40, (.len false), [.t 48], none⟩,
  ⟨(some 50), 41, (.sliceSl 1 false true true), [.t 45, .t 47, .t 49], none⟩,
  ⟨(some 51), 42, .move, [.t 3], none⟩,
  ⟨(some 52), 43, (.append 1 1), [.t 50, .t 51], none⟩,
  ⟨(some 53), 44, .move, [.t 0], none⟩,
  ⟨(some 54), 45, (.len true), [.t 53], none⟩,
  ⟨(some 55), 46, (.call false 18), [.t 52, .t 54], none⟩,
  ⟨(some 44), 50, .move, [.t 55], none⟩,
  ⟨(some 56), 51, (.extract 0), [.t 44], none⟩,
  ⟨(some 57), 52, (.extract 1), [.t 44], none⟩,
  ⟨(some 58), 53, (.extract 2), [.t 44], none⟩,
  ⟨(some 14), 54, .move, [.t 56], none⟩,
  ⟨(some 15), 55, .move, [.t 57], none⟩,
  ⟨(some 16), 56, .move, [.t 58], none⟩])
 (.seq (.region [⟨(some 60), 57, .move, [.t 12], none⟩,
  ⟨(some 61), 58, .move, [.t 12], none⟩,
  ⟨(some 62), 59, (.len false), [.t 61], none⟩,
  ⟨(some 63), 60, .move, [.t 12], none⟩,
  ⟨(some 64), 61, (.len false), [.t 63], none⟩,
  ⟨(some 65), 62, (.sliceSl 1 false true true), [.t 60, .t 62, .t 64], none⟩,
  ⟨(some 66), 63, .move, [.t 3], none⟩,
  ⟨(some 67), 64, (.append 1 1), [.t 65, .t 66], none⟩,
  ⟨(some 68), 65, .move, [.t 0], none⟩,
  ⟨(some 69), 66, (.len true), [.t 68], none⟩,
  ⟨(some 70), 67, .move, [.t 2], none⟩,
  ⟨(some 71), 68, (.len true), [.t 70], none⟩,
  ⟨(some 72), 69, (.call false 20), [.t 67, .t 69, .t 71], none⟩,
  ⟨(some 59), 73, .move, [.t 72], none⟩,
  ⟨(some 73), 74, (.extract 0), [.t 59], none⟩,
  ⟨(some 74), 75, (.extract 1), [.t 59], none⟩,
  ⟨(some 75), 76, (.extract 2), [.t 59], none⟩,
  ⟨(some 17), 77, .move, [.t 73], none⟩,
  ⟨(some 18), 78, .move, [.t 74], none⟩,
  ⟨(some 19), 79, .move, [.t 75], none⟩])
 (.seq (.region [⟨(some 77), 80, .move, [.t 11], none⟩,
  ⟨(some 78), 81, .move, [.t 0], none⟩,
  ⟨(some 79), 82, (.len true), [.t 78], none⟩,
  ⟨(some 80), 83, .move, [.t 4], none⟩,
  ⟨(some 81), 84, .move, [.t 13], none⟩,
  ⟨(some 82), 85, (.conv (.int .u64)), [.t 81], none⟩,
  ⟨(some 83), 86, (.bin .rem), [.t 80, .t 82], none⟩,
  ⟨(some 84), 87, (.conv (.int .i64)), [.t 83], none⟩,
  ⟨(some 85), 88, (.bin .add), [.t 79, .t 84], none⟩,
  ⟨(some 86), 89, (.sliceSl 1 false true false), [.t 77, .t 85], none⟩,
  ⟨(some 87), 90, .move, [.t 0], none⟩,
  ⟨(some 88), 91, (.len true), [.t 87], none⟩,
  ⟨(some 89), 92, (.call false 18), [.t 86, .t 88], none⟩,
  ⟨(some 76), 96, .move, [.t 89], none⟩,
  ⟨(some 90), 97, (.extract 0), [.t 76], none⟩,
  ⟨(some 91), 98, (.extract 1), [.t 76], none⟩,
  ⟨(some 92), 99, (.extract 2), [.t 76], none⟩,
  ⟨(some 20), 100, .move, [.t 90], none⟩,
  ⟨(some 21), 101, .move, [.t 91], none⟩,
  ⟨(some 22), 102, .move, [.t 92], none⟩])
 (.seq (.region [⟨(some 93), 103, .move, [.t 14], none⟩,
  ⟨(some 94), 104, .move, [.t 1], none⟩,
  ⟨(some 95), 105, (.bin .eql), [.t 93, .t 94], none⟩,
  ⟨(some 96), 106, .move, [.t 95], none⟩,
  ⟨(some 97), 107, .move, [.t 15], (some (96, true))⟩,
  ⟨(some 98), 108, .move, [.t 11], (some (96, true))⟩,
  ⟨(some 99), 109, (.len false), [.t 98], (some (96, true))⟩,
  ⟨(some 100), 110, (.bin .eql), [.t 97, .t 99], (some (96, true))⟩,
  ⟨(some 101), 111, .pick, [.t 96, .t 100, .c (.bool false)], none⟩,
  ⟨(some 102), 112, .move, [.t 101], none⟩,
  ⟨(some 103), 113, .move, [.t 16], (some (102, true))⟩,
  ⟨(some 104), 114, (.bin .eql), [.t 103, .c (.int .i64 (0))], (some (102, true))⟩,
  ⟨(some 105), 115, .pick, [.t 102, .t 104, .c (.bool false)], none⟩,
  ⟨(some 106), 116, .move, [.t 105], none⟩,
  ⟨(some 107), 117, .move, [.t 17], (some (106, true))⟩,
  ⟨(some 108), 118, .move, [.t 2], (some (106, true))⟩,
  ⟨(some 109), 119, (.bin .eql), [.t 107, .t 108], (some (106, true))⟩,
  ⟨(some 110), 120, .pick, [.t 106, .t 109, .c (.bool false)], none⟩,
  ⟨(some 111), 121, .move, [.t 110], none⟩,
  ⟨(some 112), 122, .move, [.t 18], (some (111, true))⟩,
  ⟨(some 113), 123, .move, [.t 12], (some (111, true))⟩,
  ⟨(some 114), 124, (.len false), [.t 113], (some (111, true))⟩,
  ⟨(some 115), 125, (.bin .eql), [.t 112, .t 114], (some (111, true))⟩,
  ⟨(some 116), 126, .pick, [.t 111, .t 115, .c (.bool false)], none⟩,
  ⟨(some 117), 127, .move, [.t 116], none⟩,
  ⟨(some 118), 128, .move, [.t 19], (some (117, true))⟩,
  ⟨(some 119), 129, (.bin .eql), [.t 118, .c (.int .i64 (0))], (some (117, true))⟩,
  ⟨(some 120), 130, .pick, [.t 117, .t 119, .c (.bool false)], none⟩,
  ⟨(some 121), 131, .move, [.t 120], none⟩,
  ⟨(some 122), 132, .move, [.t 22], (some (121, true))⟩,
  ⟨(some 123), 133, (.bin .eql), [.t 122, .c (.int .i64 (2))], (some (121, true))⟩,
  ⟨(some 124), 134, .pick, [.t 121, .t 123, .c (.bool false)], none⟩,
  ⟨(some 10), 135, .move, [.t 124], none⟩])
 (.ret))))))))))
  [.tmp 10] 0 120
def f5.env : Env := [(13, f13.C), (14, f14.C), (16, f16.C), (18, f18.C), (20, f20.C)]
def f5.tree (a : ByteArray × Int × ByteArray × ByteArray × Int) : Prop := ∃ c1 : Unit, True ∧ Br (!(lawTrue c1)) ((false = (lawTrue a)) ∧ True) (∃ c5 : ByteArray × Int, (a.1.size = c5.1.size) ∧ (∀ i, i < c5.1.size → DEqs ((gstr a.1) i) ((gstr c5.1) i)) ∧ (a.2.1 = c5.2) ∧ (put_pre c5) ∧ ∃ c6 : ByteArray × ByteArray, (a.1.size = c6.1.size) ∧ (∀ i, i < c6.1.size → DEqs ((gstr a.1) i) ((gstr c6.1) i)) ∧ (a.2.2.1 = c6.2) ∧ (putText_pre c6) ∧ Let (IntKind.i64.wrap (((putB c5).size : Int) - (a.1.size : Int))) (fun v7 : Int => Br (decide (v7 < (1 : Int))) ((false = (lawTrue a)) ∧ True) (Br (decide ((9 : Int) < v7)) ((false = (lawTrue a)) ∧ True) (Br (decide ((0 : Int) ≤ (0 : Int)) && decide ((0 : Int) ≤ ((putB c5).size : Int)) && decide (((putB c5).size : Int) ≤ ((putB c5).size : Int)) && (((putB c5).size : Int) == ((putB c5).size : Int))) ((room (((Int.toNat (((putB c5).size : Int) - (0 : Int))) + a.2.2.2.1.size) * 1)) ∧ (∃ c15 : ByteArray × Int, (((Int.toNat (((putB c5).size : Int) - (0 : Int))) + a.2.2.2.1.size) = c15.1.size) ∧ (∀ i, i < c15.1.size → DEqs ((gapp (gsub (gstr (putB c5)) 0) (Int.toNat (((putB c5).size : Int) - (0 : Int))) (gstr a.2.2.2.1)) i) ((gstr c15.1) i)) ∧ ((a.1.size : Int) = c15.2) ∧ (take_pre c15) ∧ Br (decide ((0 : Int) ≤ (0 : Int)) && decide ((0 : Int) ≤ ((putText c6).size : Int)) && decide (((putText c6).size : Int) ≤ ((putText c6).size : Int)) && (((putText c6).size : Int) == ((putText c6).size : Int))) ((room (((Int.toNat (((putText c6).size : Int) - (0 : Int))) + a.2.2.2.1.size) * 1)) ∧ (∃ c17 : ByteArray × Int × Int, (((Int.toNat (((putText c6).size : Int) - (0 : Int))) + a.2.2.2.1.size) = c17.1.size) ∧ (∀ i, i < c17.1.size → DEqs ((gapp (gsub (gstr (putText c6)) 0) (Int.toNat (((putText c6).size : Int) - (0 : Int))) (gstr a.2.2.2.1)) i) ((gstr c17.1) i)) ∧ ((a.1.size : Int) = c17.2.1) ∧ ((a.2.2.1.size : Int) = c17.2.2) ∧ (takeText_pre c17) ∧ Let (IntKind.u64.wrap v7) (fun v18 : Int => Br (!(v18 == 0)) (Let (Int.tmod a.2.2.2.2 v18) (fun v19 : Int => Let (IntKind.i64.wrap v19) (fun v20 : Int => Let (IntKind.i64.wrap ((a.1.size : Int) + v20)) (fun v21 : Int => Br (decide ((0 : Int) ≤ (0 : Int)) && decide ((0 : Int) ≤ v21) && decide (v21 ≤ ((putB c5).size : Int)) && (v21 == v21)) (∃ c23 : ByteArray × Int, ((Int.toNat (v21 - (0 : Int))) = c23.1.size) ∧ (∀ i, i < c23.1.size → DEqs ((gsub (gstr (putB c5)) 0) i) ((gstr c23.1) i)) ∧ ((a.1.size : Int) = c23.2) ∧ (take_pre c23) ∧ Br (((takeN c15).1) == a.2.1) (Br (((takeN c15).2.1) == ((putB c5).size : Int)) (Br (((takeN c15).2.2) == (0 : Int)) (Br (((takeText c17).1).toList == a.2.2.1.toList) (Br (((takeText c17).2.1) == ((putText c6).size : Int)) (Br (((takeText c17).2.2) == (0 : Int)) (((((takeN c23).2.2) == (2 : Int)) = (lawTrue a)) ∧ True) ((false = (lawTrue a)) ∧ True)) ((false = (lawTrue a)) ∧ True)) ((false = (lawTrue a)) ∧ True)) ((false = (lawTrue a)) ∧ True)) ((false = (lawTrue a)) ∧ True)) ((false = (lawTrue a)) ∧ True)) False)))) False))) False)) False))))
def f5.vc (a : ByteArray × Int × ByteArray × ByteArray × Int) : Prop := ((¬ ((lawTrue ()) = true) → (false = lawTrue a)) ∧ (¬ (¬ ((lawTrue ()) = true)) → (put_pre (a.1, a.2.1) ∧ (putText_pre (a.1, a.2.2.1) ∧ (-9223372036854775808 ≤ (((putB (a.1, a.2.1)).size : Int) - (a.1.size : Int)) ∧ (((putB (a.1, a.2.1)).size : Int) - (a.1.size : Int)) ≤ 9223372036854775807 ∧ (((((putB (a.1, a.2.1)).size : Int) - (a.1.size : Int)) < (1 : Int) → (false = lawTrue a)) ∧ (¬ ((((putB (a.1, a.2.1)).size : Int) - (a.1.size : Int)) < (1 : Int)) → (((9 : Int) < (((putB (a.1, a.2.1)).size : Int) - (a.1.size : Int)) → (false = lawTrue a)) ∧ (¬ ((9 : Int) < (((putB (a.1, a.2.1)).size : Int) - (a.1.size : Int))) → ((Int.toNat (((putB (a.1, a.2.1)).size : Int) - (0 : Int))) + a.2.2.2.1.size ≤ 1073741824 ∧ (take_pre ((subB (putB (a.1, a.2.1)) (0 : Int) ((putB (a.1, a.2.1)).size : Int)) ++ a.2.2.2.1, (a.1.size : Int)) ∧ ((Int.toNat (((putText (a.1, a.2.2.1)).size : Int) - (0 : Int))) + a.2.2.2.1.size ≤ 1073741824 ∧ (takeText_pre ((subB (putText (a.1, a.2.2.1)) (0 : Int) ((putText (a.1, a.2.2.1)).size : Int)) ++ a.2.2.2.1, (a.1.size : Int), (a.2.2.1.size : Int)) ∧ (0 ≤ (((putB (a.1, a.2.1)).size : Int) - (a.1.size : Int)) ∧ (((putB (a.1, a.2.1)).size : Int) - (a.1.size : Int)) ≤ 18446744073709551615 ∧ (0 ≤ a.2.2.2.2 ∧ 0 < (((putB (a.1, a.2.1)).size : Int) - (a.1.size : Int)) ∧ (-9223372036854775808 ≤ (a.2.2.2.2 % (((putB (a.1, a.2.1)).size : Int) - (a.1.size : Int))) ∧ (a.2.2.2.2 % (((putB (a.1, a.2.1)).size : Int) - (a.1.size : Int))) ≤ 9223372036854775807 ∧ (-9223372036854775808 ≤ ((a.1.size : Int) + (a.2.2.2.2 % (((putB (a.1, a.2.1)).size : Int) - (a.1.size : Int)))) ∧ ((a.1.size : Int) + (a.2.2.2.2 % (((putB (a.1, a.2.1)).size : Int) - (a.1.size : Int)))) ≤ 9223372036854775807 ∧ ((0 : Int) ≤ ((a.1.size : Int) + (a.2.2.2.2 % (((putB (a.1, a.2.1)).size : Int) - (a.1.size : Int)))) ∧ ((a.1.size : Int) + (a.2.2.2.2 % (((putB (a.1, a.2.1)).size : Int) - (a.1.size : Int)))) ≤ ((putB (a.1, a.2.1)).size : Int) ∧ (take_pre ((subB (putB (a.1, a.2.1)) (0 : Int) ((a.1.size : Int) + (a.2.2.2.2 % (((putB (a.1, a.2.1)).size : Int) - (a.1.size : Int))))), (a.1.size : Int)) ∧ ((((takeN ((subB (putB (a.1, a.2.1)) (0 : Int) ((putB (a.1, a.2.1)).size : Int)) ++ a.2.2.2.1, (a.1.size : Int))).1) = a.2.1 → ((((takeN ((subB (putB (a.1, a.2.1)) (0 : Int) ((putB (a.1, a.2.1)).size : Int)) ++ a.2.2.2.1, (a.1.size : Int))).2.1) = ((putB (a.1, a.2.1)).size : Int) → ((((takeN ((subB (putB (a.1, a.2.1)) (0 : Int) ((putB (a.1, a.2.1)).size : Int)) ++ a.2.2.2.1, (a.1.size : Int))).2.2) = (0 : Int) → ((((takeText ((subB (putText (a.1, a.2.2.1)) (0 : Int) ((putText (a.1, a.2.2.1)).size : Int)) ++ a.2.2.2.1, (a.1.size : Int), (a.2.2.1.size : Int))).1) = a.2.2.1 → ((((takeText ((subB (putText (a.1, a.2.2.1)) (0 : Int) ((putText (a.1, a.2.2.1)).size : Int)) ++ a.2.2.2.1, (a.1.size : Int), (a.2.2.1.size : Int))).2.1) = ((putText (a.1, a.2.2.1)).size : Int) → ((((takeText ((subB (putText (a.1, a.2.2.1)) (0 : Int) ((putText (a.1, a.2.2.1)).size : Int)) ++ a.2.2.2.1, (a.1.size : Int), (a.2.2.1.size : Int))).2.2) = (0 : Int) → ((((takeN ((subB (putB (a.1, a.2.1)) (0 : Int) ((a.1.size : Int) + (a.2.2.2.2 % (((putB (a.1, a.2.1)).size : Int) - (a.1.size : Int))))), (a.1.size : Int))).2.2) == (2 : Int)) = lawTrue a)) ∧ (¬ (((takeText ((subB (putText (a.1, a.2.2.1)) (0 : Int) ((putText (a.1, a.2.2.1)).size : Int)) ++ a.2.2.2.1, (a.1.size : Int), (a.2.2.1.size : Int))).2.2) = (0 : Int)) → (false = lawTrue a)))) ∧ (¬ (((takeText ((subB (putText (a.1, a.2.2.1)) (0 : Int) ((putText (a.1, a.2.2.1)).size : Int)) ++ a.2.2.2.1, (a.1.size : Int), (a.2.2.1.size : Int))).2.1) = ((putText (a.1, a.2.2.1)).size : Int)) → (false = lawTrue a)))) ∧ (¬ (((takeText ((subB (putText (a.1, a.2.2.1)) (0 : Int) ((putText (a.1, a.2.2.1)).size : Int)) ++ a.2.2.2.1, (a.1.size : Int), (a.2.2.1.size : Int))).1) = a.2.2.1) → (false = lawTrue a)))) ∧ (¬ (((takeN ((subB (putB (a.1, a.2.1)) (0 : Int) ((putB (a.1, a.2.1)).size : Int)) ++ a.2.2.2.1, (a.1.size : Int))).2.2) = (0 : Int)) → (false = lawTrue a)))) ∧ (¬ (((takeN ((subB (putB (a.1, a.2.1)) (0 : Int) ((putB (a.1, a.2.1)).size : Int)) ++ a.2.2.2.1, (a.1.size : Int))).2.1) = ((putB (a.1, a.2.1)).size : Int)) → (false = lawTrue a)))) ∧ (¬ (((takeN ((subB (putB (a.1, a.2.1)) (0 : Int) ((putB (a.1, a.2.1)).size : Int)) ++ a.2.2.2.1, (a.1.size : Int))).1) = a.2.1) → (false = lawTrue a))))))))))))))))))))))
set_option maxRecDepth 100000 in
set_option maxHeartbeats 2000000 in
theorem f5.of (a : ByteArray × Int × ByteArray × ByteArray × Int) (h : f5.vc a) : f5.tree a := ⟨(), ⟨trivial, br (Cnd.not Cnd.b) (fun h2 k79 => ⟨k79, trivial⟩) (fun h3 k80 => ⟨(a.1, a.2.1), slK RdB.self (⟨rfl, ⟨k80.1, ⟨(a.1, a.2.2.1), slK RdB.self (⟨rfl, ⟨k80.2.1, wrapK.i64 (fun h74 h75 k76 => br Cnd.dec (fun h8 k72 => ⟨k72, trivial⟩) (fun h9 k73 => br Cnd.dec (fun h11 k70 => ⟨k70, trivial⟩) (fun h12 k71 => chk Cnd.sl (fun h14 k69 => ⟨(room_of k69.1 (by decide)), ⟨((subB (putB (a.1, a.2.1)) (0 : Int) ((putB (a.1, a.2.1)).size : Int)) ++ a.2.2.2.1, (a.1.size : Int)), slK (RdB.app (RdB.sub RdB.self h14) RdB.self) (⟨rfl, ⟨k69.2.1, chk Cnd.sl (fun h16 k67 => ⟨(room_of k67.1 (by decide)), ⟨((subB (putText (a.1, a.2.2.1)) (0 : Int) ((putText (a.1, a.2.2.1)).size : Int)) ++ a.2.2.2.1, (a.1.size : Int), (a.2.2.1.size : Int)), slK (RdB.app (RdB.sub RdB.self h16) RdB.self) (⟨rfl, ⟨rfl, ⟨k67.2.1, wrapK.u64 (fun h63 h64 k65 => chk (Cnd.not Cnd.eq) (fun _ h => h) ⟨(by have := k65.2.1; omega), modK k65.1 (wrapK.i64 (fun h60 h61 k62 => wrapK.i64 (fun h57 h58 k59 => chk Cnd.sl (fun h22 k56 => ⟨((subB (putB (a.1, a.2.1)) (0 : Int) ((a.1.size : Int) + (a.2.2.2.2 % (((putB (a.1, a.2.1)).size : Int) - (a.1.size : Int))))), (a.1.size : Int)), slK (RdB.sub RdB.self h22) (⟨rfl, ⟨k56.1, br Cnd.eq (fun h24 k53 => br Cnd.eq (fun h26 k50 => br Cnd.eq (fun h28 k47 => br Cnd.seq (fun h30 k44 => br Cnd.eq (fun h32 k41 => br Cnd.eq (fun h34 k38 => ⟨k38, trivial⟩) (fun h35 k39 => ⟨k39, trivial⟩) k41) (fun h33 k42 => ⟨k42, trivial⟩) k44) (fun h31 k45 => ⟨k45, trivial⟩) k47) (fun h29 k48 => ⟨k48, trivial⟩) k50) (fun h27 k51 => ⟨k51, trivial⟩) k53) (fun h25 k54 => ⟨k54, trivial⟩) k56.2⟩⟩)⟩) ⟨⟨(by decide), k59.1, k59.2.1⟩, k59.2.2⟩) k62) k65.2.2)⟩) k67.2.2⟩⟩⟩)⟩⟩) ⟨⟨(by decide), (Int.natCast_nonneg _), (Int.le_refl _)⟩, k69.2.2⟩⟩⟩)⟩⟩) ⟨⟨(by decide), (Int.natCast_nonneg _), (Int.le_refl _)⟩, k71⟩) k73) k76) k80.2.2⟩⟩)⟩⟩⟩)⟩) h⟩⟩
theorem f5.eq (a : ByteArray × Int × ByteArray × ByteArray × Int) : (f5.af a).gives f5.env (f5.args a) (f5.blks a) (f5.res a) (f5.blks' a) = f5.tree a := by kernel_rfl
end Go.Abs

/- Layer 1: the laws. -/
namespace Go.Abs
open Go

theorem num300 : num 300 = ⟨#[2, 1, 44]⟩ := by
  have h : nb 300 = 2 := by
    have h1 := (nb_le (n := 300) (k := 2)).2 (by decide)
    have h2 : ¬ nb 300 ≤ 1 := fun h => by have := nb_le.1 h; omega
    omega
  unfold num
  rw [h]
  rfl

theorem f13.ok (a : Unit) (h : True) : f13.vc a := by
  have e : putB (ByteArray.empty, (300 : Int)) = ⟨#[2, 1, 44]⟩ := by
    unfold putB
    rw [empty_app]
    exact num300
  unfold f13.vc
  rw [e]
  refine ⟨⟨by simp [ByteArray.size], by decide, by decide⟩, fun _ => ⟨by decide, fun _ => ⟨by decide, fun _ => ⟨by decide, rfl⟩, fun h => absurd (by decide) h⟩, fun h => absurd (by decide) h⟩, fun h => absurd (by decide) h⟩

theorem wf_u64 {n : Int} (h : (Lit.int .u64 n).wf = true) : U64 n := by
  simp [Lit.wf, IntKind.min, IntKind.max, IntKind.signed, IntKind.bits] at h
  exact ⟨by omega, by omega⟩
theorem wf_i64 {n : Int} (h : (Lit.int .i64 n).wf = true) : -9223372036854775808 ≤ n ∧ n ≤ 9223372036854775807 := by
  simp [Lit.wf, IntKind.min, IntKind.max, IntKind.signed, IntKind.bits] at h
  exact ⟨by omega, by omega⟩

theorem f4.ok (a : ByteArray × Int × Int) (h : f4.lpre a) : f4.vc a := by
  obtain ⟨⟨_, h2, h3⟩, hs⟩ := h
  have hs : a.1.size + 1 + (1 + 1) ≤ 1048576 := hs
  have h3 := wf_i64 h3
  unfold f4.vc
  have t : take_pre (a.1, a.2.1) := by unfold take_pre; simp only; omega
  have tt : takeText_pre (a.1, a.2.1, a.2.2) := ⟨by simp only; omega, by simp only; omega⟩
  refine ⟨fun h => absurd rfl h, fun _ => ⟨t, t, tt, tt, ⟨fun _ => ⟨fun _ => ⟨fun _ => ⟨fun _ => ⟨fun _ => by simp [lawTrue], ?_⟩, ?_⟩, ?_⟩, ?_⟩, ?_⟩⟩⟩
  all_goals exact fun h => absurd rfl h

theorem f1.ok (a : Int × Int) (h : f1.lpre a) : f1.vc a := by
  obtain ⟨⟨h1, h2⟩, _⟩ := h
  have u1 := wf_u64 h1
  have u2 := wf_u64 h2
  have e : ∀ n : Int, putB (ByteArray.empty, n) = num n.toNat := fun n => by unfold putB; rw [empty_app]
  have hlt : decide (a.1 < a.2) = decide (a.1.toNat < a.2.toNat) := by
    obtain ⟨x1, x2⟩ := u1
    obtain ⟨y1, y2⟩ := u2
    rw [decide_eq_decide]
    omega
  have heq : ((num a.1.toNat).toList == (num a.2.toNat).toList) = (a.1 == a.2) := by
    rw [Bool.eq_iff_iff, beq_iff_eq, beq_iff_eq, toList_inj, num_inj u1.lt u2.lt]
    obtain ⟨x1, x2⟩ := u1
    obtain ⟨y1, y2⟩ := u2
    omega
  unfold f1.vc
  rw [e, e, num_less u1.lt u2.lt, hlt, heq]
  refine ⟨fun h => absurd rfl h, fun _ => ⟨⟨by simp [empty_size], u1⟩, ⟨by simp [empty_size], u2⟩, fun _ => by simp [lawTrue], fun h => absurd (by simp) h⟩⟩

theorem f2.ok (a : ByteArray × Int × ByteArray) (h : f2.lpre a) : f2.vc a := by
  obtain ⟨⟨_, h2, _⟩, hs⟩ := h
  have hs : a.1.size + 1 + (1 + (a.2.2.size + 1)) ≤ 1048576 := hs
  have u := wf_u64 h2
  have n8 := nb_eight u.lt
  have m8 := nb_eight (n := a.2.2.size) (by omega)
  have s1 : (numS a.2.1).size = nb a.2.1.toNat + 1 := num_size _
  have s2 : (textS a.2.2).size = nb a.2.2.size + 1 + a.2.2.size := by unfold textS; rw [size_app, num_size]
  refine ⟨fun h => absurd rfl h, fun _ => ⟨⟨by simp only; omega, u⟩, u, by omega, fun _ => ⟨⟨by simp only; omega, by simp only; omega⟩, by unfold text_pre; omega, by omega, ?_⟩, fun h => absurd rfl h⟩⟩
  have : putText (a.1, a.2.2) = a.1 ++ textS a.2.2 := by unfold putText textS; rw [app_assoc]
  rw [this]
  simp [lawTrue]

theorem sum_ge {α : Type} (f : α → Nat) (l : List α) (h : ∀ a ∈ l, 1 ≤ f a) : l.length ≤ (l.map f).sum := by
  induction l with
  | nil => simp
  | cons a l ih =>
    have h1 := h a (by simp)
    have h2 := ih fun b hb => h b (by simp [hb])
    simp only [List.length_cons, List.map_cons, List.sum_cons]
    omega

/-- Numbers one behind the other. -/
def nums (l : List Int) : ByteArray := l.foldr (fun n b => num n.toNat ++ b) ByteArray.empty
theorem nums_snoc (l : List Int) (n : Int) : nums (l ++ [n]) = nums l ++ num n.toNat := by
  induction l with
  | nil => simp only [nums, List.nil_append, List.foldr]; rw [app_empty, empty_app]
  | cons a l ih =>
    have e : nums ((a :: l) ++ [n]) = num a.toNat ++ nums (l ++ [n]) := rfl
    rw [e, ih, ← app_assoc]
    rfl
theorem nums_size {l : List Int} (h : ∀ n ∈ l, U64 n) : (nums l).size ≤ 9 * l.length := by
  induction l with
  | nil => exact Nat.le_refl 0
  | cons a l ih =>
    have h1 := nb_eight (h a (by simp)).lt
    have h2 := ih fun n hn => h n (by simp [hn])
    have e : nums (a :: l) = num a.toNat ++ nums l := rfl
    rw [e, size_app, num_size, List.length_cons]
    omega
theorem nums_split (l : List Int) (k : Nat) : nums l = nums (l.take k) ++ nums (l.drop k) := by
  induction l generalizing k with
  | nil => cases k <;> rfl
  | cons a l ih =>
    cases k with
    | zero => exact (empty_app _).symm
    | succ k =>
      have e : nums (a :: l) = num a.toNat ++ nums l := rfl
      rw [e, ih k, ← app_assoc]
      rfl
theorem drop_at {l : List Int} {i : Int} (h0 : 0 ≤ i) (h : i < l.length) : l.drop i.toNat = at_ l i :: l.drop (i.toNat + 1) := by
  have hl : i.toNat < l.length := by omega
  rw [List.drop_eq_getElem_cons hl]
  congr 1
  unfold at_
  rw [List.getD_eq_getElem?_getD, List.getElem?_eq_getElem hl]
  rfl
theorem take_at {l : List Int} {i : Int} (h0 : 0 ≤ i) (h : i < l.length) : l.take (i + 1).toNat = l.take i.toNat ++ [at_ l i] := by
  have hl : i.toNat < l.length := by omega
  rw [show (i + 1).toNat = i.toNat + 1 from by omega, List.take_succ_eq_append_getElem hl]
  congr 2
  unfold at_
  rw [List.getD_eq_getElem?_getD, List.getElem?_eq_getElem hl]
  rfl
theorem at_mem {α : Type} [Inhabited α] {l : List α} {i : Int} (h0 : 0 ≤ i) (h : i < l.length) : at_ l i ∈ l := by
  have hl : i.toNat < l.length := by omega
  unfold at_
  rw [List.getD_eq_getElem?_getD, List.getElem?_eq_getElem hl]
  exact List.getElem_mem hl

theorem f3.ok (a : List Int × ByteArray) (h : f3.lpre a) : f3.vc a := by
  obtain ⟨⟨h1, _⟩, _⟩ := h
  obtain ⟨l, b⟩ := a
  have hu : ∀ n ∈ l, U64 n := fun n hn => wf_u64 (h1 n hn)
  unfold f3.vc
  simp only
  refine ⟨fun h => absurd rfl h, fun _ => ⟨fun _ => rfl, fun c1 => ⟨fun _ => rfl, fun c2 => ?_⟩⟩⟩
  refine ⟨fun y => 0 ≤ y.2 ∧ y.2 ≤ l.length ∧ y.1 = b ++ nums (l.take y.2.toNat), fun y => (l.length - y.2).toNat, ⟨by simp, by simp, by simp only [Int.toNat_zero, List.take_zero]; exact (app_empty _).symm⟩, ?_⟩
  rintro ⟨o, i⟩ ⟨i0, i1, e⟩
  simp only at i0 i1 e ⊢
  have hsz : ∀ k, (b ++ nums (l.take k)).size ≤ 10000 := fun k => by
    have := nums_size (l := l.take k) fun n hn => hu n (List.mem_of_mem_take hn)
    have hk : (l.take k).length ≤ l.length := by rw [List.length_take]; omega
    rw [size_app]
    omega
  subst e
  refine ⟨fun hi => ⟨by omega, by omega, ⟨Nat.le_trans (hsz _) (by decide), hu _ (at_mem i0 hi)⟩, by omega, by omega, ⟨by omega, by omega, ?_⟩, by omega⟩, fun hi => ?_⟩
  · unfold putB
    simp only
    rw [take_at i0 hi, nums_snoc, app_assoc]
  · have hi' : i = l.length := by omega
    subst hi'
    rw [Int.toNat_natCast, List.take_length]
    have hall := hsz l.length
    rw [List.take_length] at hall
    refine ⟨fun y => y.1 = b ++ nums l ∧ 0 ≤ y.2.2 ∧ y.2.2 ≤ l.length ∧ y.2.1 = ((b ++ nums (l.take y.2.2.toNat)).size : Int), fun y => (l.length - y.2.2).toNat, ⟨rfl, Int.le_refl _, by simp, by simp only [Int.toNat_zero, List.take_zero]; rw [show nums ([] : List Int) = ByteArray.empty from rfl, app_empty]⟩, ?_⟩
    rintro ⟨o, p, i⟩ ⟨e1, i0, i1, e2⟩
    simp only at e1 i0 i1 e2 ⊢
    subst e1 e2
    refine ⟨fun hi => ⟨Nat.le_trans hall (by decide), ?_⟩, fun hi => ?_⟩
    · have hm := hu _ (at_mem i0 hi)
      have e3 : b ++ nums l = (b ++ nums (l.take i.toNat)) ++ num (at_ l i).toNat ++ nums (l.drop (i.toNat + 1)) := by
        have e4 := nums_split l i.toNat
        rw [drop_at i0 hi] at e4
        have e5 : nums (at_ l i :: l.drop (i.toNat + 1)) = num (at_ l i).toNat ++ nums (l.drop (i.toNat + 1)) := rfl
        rw [e5] at e4
        rw [app_assoc, app_assoc, ← e4]
      have e6 : (b ++ nums (l.take (i + 1).toNat)).size = (b ++ nums (l.take i.toNat)).size + (nb (at_ l i).toNat + 1) := by
        rw [take_at i0 hi, nums_snoc, ← app_assoc, size_app, num_size]
      have ht := takeN_num (b ++ nums (l.take i.toNat)) (nums (l.drop (i.toNat + 1))) hm.lt
      rw [← e3] at ht
      rw [ht]
      simp only
      refine ⟨fun h => absurd trivial h, fun _ => ⟨by omega, by omega, fun h => absurd (by have := hm.1; omega) h, fun _ => ⟨fun h => by omega, fun _ => ⟨by omega, by omega, ⟨by first | rfl | trivial, by omega, by omega, by omega⟩, by omega⟩⟩⟩⟩
    · have hi' : i = l.length := by omega
      subst hi'
      rw [Int.toNat_natCast, List.take_length]
      exact ⟨fun _ => by simp [lawTrue], fun h => absurd rfl h⟩

theorem f5.ok (a : ByteArray × Int × ByteArray × ByteArray × Int) (h : f5.lpre a) : f5.vc a := by
  obtain ⟨⟨_, h2, _, _, h5⟩, hs⟩ := h
  obtain ⟨x, n, s, y, c⟩ := a
  have hs : x.size + 1 + (1 + (s.size + 1 + (y.size + 1 + 1))) ≤ 1048576 := hs
  have u := wf_u64 h2
  have v := wf_u64 h5
  obtain ⟨v1, v2⟩ := v
  have n8 := nb_eight u.lt
  have m8 := nb_eight (n := s.size) (by omega)
  unfold f5.vc
  simp only at *
  have hp : putB (x, n) = x ++ num n.toNat := rfl
  have hq : putText (x, s) = x ++ num s.size ++ s := rfl
  have sp : (x ++ num n.toNat).size = x.size + (nb n.toNat + 1) := by rw [size_app, num_size]
  have sq : (x ++ num s.size ++ s).size = x.size + (nb s.size + 1) + s.size := by rw [size_app, size_app, num_size]
  rw [hp, hq, subB_all, subB_all]
  have t1 := takeN_num x y u.lt
  have t2 : takeText (x ++ num s.size ++ s ++ y, (x.size : Int), (s.size : Int)) = (s, (x.size : Int) + 1 + nb s.size + s.size, 0) := by
    have t := takeN_num x (s ++ y) (n := s.size) (by omega)
    rw [← app_assoc] at t
    have hz : (x ++ num s.size ++ s ++ y).size = x.size + (nb s.size + 1) + s.size + y.size := by rw [size_app, sq]
    unfold takeText
    simp only [t]
    rw [if_neg (by omega), if_neg (by simp), if_neg (by omega), if_neg (by rw [hz]; omega)]
    congr 1
    have hss := RdB.size_sub (b := x ++ num s.size ++ s ++ y) (lo := (x.size : Int) + 1 + nb s.size) (hi := (x.size : Int) + 1 + nb s.size + s.size) ⟨by omega, by omega, by rw [hz]; omega⟩
    refine bytes_eq (by rw [hss]; omega) fun i hi => ?_
    rw [hss] at hi
    have hpre : (x ++ num s.size).size = x.size + (nb s.size + 1) := by rw [size_app, num_size]
    rw [bAtN_sub ⟨by omega, by omega, by rw [hz]; omega⟩ (by omega), bAtN_app, if_pos (by rw [sq]; omega), bAtN_app, if_neg (by rw [hpre]; omega), hpre]
    congr 1
    omega
  have hk : ((x ++ num n.toNat).size : Int) - x.size = (nb n.toNat : Int) + 1 := by rw [sp]; omega
  have hm0 := Int.emod_nonneg c (show (nb n.toNat : Int) + 1 ≠ 0 by omega)
  have hm1 := Int.emod_lt_of_pos c (show (0 : Int) < (nb n.toNat : Int) + 1 by omega)
  have t3 : ∀ q : Int, 0 ≤ q → q < (nb n.toNat : Int) + 1 → (takeN (subB (x ++ num n.toNat) 0 ((x.size : Int) + q), (x.size : Int))).2.2 = 2 := fun q q0 q1 => by
    have hz := RdB.size_sub (b := x ++ num n.toNat) (lo := 0) (hi := (x.size : Int) + q) ⟨by omega, by omega, by rw [sp]; omega⟩
    unfold takeN
    simp only [hz]
    rw [if_neg (by omega)]
    by_cases q2 : q = 0
    · subst q2
      rw [if_pos (by omega)]
    · rw [if_neg (by omega)]
      have hb : bAt (subB (x ++ num n.toNat) 0 ((x.size : Int) + q)) (x.size : Int) = (nb n.toNat : Int) := by
        rw [bAt_sub ⟨by omega, by omega, by rw [sp]; omega⟩ (by omega) (by omega), bAtN_eq, show (0 + (x.size : Int)).toNat = x.size from by omega, bAtN_app, if_neg (by omega), Nat.sub_self]
        unfold num
        rw [bAtN_mk]
        simp only [nth]
        rw [toNat_ofNat_lt (by omega)]
      rw [hb, if_neg (by omega), if_pos (by omega)]
  rw [hk, t1, t2, t3 _ hm0 hm1]
  simp only
  have p1 : ∀ q : Int, 0 ≤ q → q < (nb n.toNat : Int) + 1 → (subB (x ++ num n.toNat) 0 ((x.size : Int) + q)).size ≤ 536870912 := fun q q0 q1 => by
    rw [RdB.size_sub ⟨by omega, by omega, by rw [sp]; omega⟩]
    omega
  have z1 : (x ++ num n.toNat ++ y).size ≤ 536870912 := by rw [size_app, sp]; omega
  have z2 : (x ++ num s.size ++ s ++ y).size ≤ 536870912 := by rw [size_app, sq]; omega
  obtain ⟨u1, u2⟩ := u
  refine ⟨fun h => absurd rfl h, fun _ => ⟨⟨by simp only; omega, u1, u2⟩, ⟨by simp only; omega, by simp only; omega⟩, by omega, by omega, fun h => absurd h (by omega), fun _ => ⟨fun h => absurd h (by omega), fun _ =>
    ⟨by rw [sp]; omega, z1, by rw [sq]; omega, ⟨z2, by simp only; omega⟩, by omega, by omega, v1, by omega, by omega, by omega, by omega, by omega, by omega, by rw [sp]; omega, p1 _ hm0 hm1, ?_, ?_⟩⟩⟩⟩
  · intro _
    refine ⟨fun _ => ⟨fun _ => ⟨fun _ => ⟨fun _ => ⟨fun _ => rfl, fun h => absurd trivial h⟩, fun h => absurd ?_ h⟩, fun h => absurd trivial h⟩, fun h => absurd trivial h⟩, fun h => absurd ?_ h⟩
    · rw [sq]; omega
    · rw [sp]; omega
  · intro h
    exact absurd (by omega) h

theorem takeText_ok {b : ByteArray} {i m : Int} (h : (takeText (b, i, m)).2.2 = 0) :
    i < (takeText (b, i, m)).2.1 ∧ (takeText (b, i, m)).2.1 ≤ b.size ∧ 0 ≤ i ∧ ((takeText (b, i, m)).1.size : Int) ≤ m ∧ num (takeText (b, i, m)).1.size ++ (takeText (b, i, m)).1 = subB b i (takeText (b, i, m)).2.1 := by
  obtain ⟨b1, b2, b3, b4⟩ := takeN_bd (b, i)
  simp only at b4
  by_cases hz : (takeN (b, i)).2.2 = 0
  · obtain ⟨t1, t2, t3, t4⟩ := takeN_ok hz
    unfold takeText at h ⊢
    simp only at h ⊢
    generalize takeN (b, i) = t at *
    split at h
    · simp at h
    · rename_i c1
      rw [if_neg (by rw [hz]; simp)] at h
      rw [if_neg c1, if_neg (by rw [hz]; simp)]
      split at h
      · simp at h
      · rename_i c2
        rw [if_neg c2]
        split at h
        · simp at h
        · rename_i c3
          rw [if_neg c3]
          simp only
          have s1 := RdB.size_sub (b := b) (lo := t.2.1) (hi := t.2.1 + t.1) ⟨by omega, by omega, by omega⟩
          have s2 : (subB b t.2.1 (t.2.1 + t.1)).size = t.1.toNat := by rw [s1]; omega
          refine ⟨by omega, by omega, by omega, by omega, ?_⟩
          rw [s2, t4, subB_app (by omega) (by omega) (by omega) (by omega)]
  · exfalso
    unfold takeText at h
    simp only at h
    split at h
    · simp at h
    · exact hz h

theorem takeText_no {b : ByteArray} {i m : Int} (h : (takeText (b, i, m)).2.2 ≠ 0) : (takeText (b, i, m)).1 = ByteArray.empty ∧ (takeText (b, i, m)).2.1 = 0 := by
  unfold takeText at h ⊢
  simp only at h ⊢
  split
  · simp
  · split
    · simp
    · split
      · simp
      · split
        · simp
        · rename_i c1 c2 c3 c4
          rw [if_neg c1, if_neg c2, if_neg c3, if_neg c4] at h
          simp at h

theorem f6.ok (a : ByteArray × Int × Int) (h : f6.lpre a) : f6.vc a := by
  obtain ⟨⟨_, h2, h3⟩, hs⟩ := h
  obtain ⟨b, i, m⟩ := a
  have hs : b.size + 1 + (1 + 1) ≤ 1048576 := hs
  have w3 := wf_i64 h3
  have bd := takeN_bd (b, i)
  have ok1 := takeN_ok (b := b) (i := i)
  have no1 := takeN_no (b := b) (i := i)
  have ok2 := takeText_ok (b := b) (i := i) (m := m)
  have no2 := takeText_no (b := b) (i := i) (m := m)
  have tp : take_pre (b, i) := by unfold take_pre; simp only; omega
  have ttp : takeText_pre (b, i, m) := ⟨by simp only; omega, w3.2⟩
  have e1 : ∀ n : Int, putB (ByteArray.empty, n) = num n.toNat := fun n => by unfold putB; rw [empty_app]
  have e2 : ∀ s : ByteArray, putText (ByteArray.empty, s) = num s.size ++ s := fun s => by unfold putText; rw [empty_app]
  unfold f6.vc
  simp only at *
  rw [e1, e2]
  generalize takeN (b, i) = t at *
  generalize takeText (b, i, m) = q at *
  have pp : t.2.2 = 0 → put_pre (ByteArray.empty, t.1) := fun _ => ⟨by simp [empty_size], bd.1, bd.2.1⟩
  have pq : q.2.2 = 0 → putText_pre (ByteArray.empty, q.1) := fun hq => by
    obtain ⟨q1, q2, q3, q4, q5⟩ := ok2 hq
    have hsz : (num q.1.size ++ q.1).size = (subB b i q.2.1).size := by rw [q5]
    rw [size_app, num_size, RdB.size_sub ⟨by omega, by omega, by omega⟩] at hsz
    exact ⟨by simp [empty_size], by simp only; omega⟩
  refine ⟨fun h => absurd rfl h, fun _ => ⟨tp, ttp, fun c1 => ?_, fun c1 => ?_⟩⟩
  · obtain ⟨t1, t2, t3, t4⟩ := ok1 c1
    refine ⟨fun h => by omega, fun _ => ⟨fun h => by omega, fun _ => ⟨pp c1, by omega, by omega, by omega, fun h => absurd t4 h, fun _ => ⟨fun c2 => ?_, fun c2 => ?_⟩⟩⟩⟩
    · obtain ⟨q1, q2, q3, q4, q5⟩ := ok2 c2
      exact ⟨fun h => by omega, fun _ => ⟨fun h => by omega, fun _ => ⟨pq c2, by omega, by omega, by omega, fun h => absurd q5 h, fun _ => ⟨fun h => by omega, fun _ => rfl⟩⟩⟩⟩
    · obtain ⟨n1, n2⟩ := no2 c2
      exact ⟨fun _ => by rw [n2]; rfl, fun h => absurd n1 h⟩
  · obtain ⟨m1, m2⟩ := no1 c1
    refine ⟨fun c2 => ?_, fun c2 => ?_⟩
    · obtain ⟨q1, q2, q3, q4, q5⟩ := ok2 c2
      exact ⟨fun h => by omega, fun _ => ⟨fun h => by omega, fun _ => ⟨pq c2, by omega, by omega, by omega, fun h => absurd q5 h, fun _ => ⟨fun h => by omega, fun _ => ⟨fun _ => ⟨fun _ => rfl, fun h => absurd m2 h⟩, fun h => absurd m1 h⟩⟩⟩⟩⟩
    · obtain ⟨n1, n2⟩ := no2 c2
      exact ⟨fun _ => ⟨fun _ => ⟨fun _ => by rw [n2]; rfl, fun h => absurd n1 h⟩, fun h => absurd m2 h⟩, fun h => absurd m1 h⟩

end Go.Abs
