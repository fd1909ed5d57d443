/- Functions, and what the code asks of them: PPack. -/
import Derived.KernelRfl
import Derived.Test.YtabnaedcnfkmiadA2
set_option linter.unusedVariables false
set_option linter.unusedSimpArgs false
/- What is asked,in plain words: the lemmas by which a printed text goes from the one to the other. -/
namespace Go.Abs
open Go

def lawTrue {α : Type} (_ : α) : Bool := true

def Let {α : Type} (v : α) (T : α → Prop) : Prop := T v

structure Cnd (b : Bool) (p : Prop) : Prop where
  iff : b = true ↔ p

theorem toList_data (a : ByteArray) : a.toList = a.data.toList := by
  have key : ∀ (n i : Nat) (r : List UInt8),a.size - i = n → ByteArray.toList.loop a i r = r.reverse ++ a.data.toList.drop i := by
    intro n
    induction n with
    | zero =>
      intro i r h
      rw [ByteArray.toList.loop]
      have h1 : ¬ i < a.size := by omega
      rw [if_neg h1,List.drop_eq_nil_of_le (by rw [Array.length_toList]; show a.size ≤ i; omega),List.append_nil]
    | succ n ih =>
      intro i r h
      rw [ByteArray.toList.loop]
      have h1 : i < a.size := by omega
      have h2 : i < a.data.toList.length := by rw [Array.length_toList]; exact h1
      rw [if_pos h1,ih (i + 1) _ (by omega),List.reverse_cons,List.append_assoc,List.drop_eq_getElem_cons h2]
      congr 2
      have h3 : a.get! i = a.data.toList[i] := by
        show a.data[i]! = _
        have h4 : i < a.data.size := h1
        rw [getElem!_pos a.data i h4]
        simp
      rw [h3]
      rfl
  unfold ByteArray.toList
  rw [key _ 0 [] rfl]
  simp

theorem bytes_ext {a b : ByteArray} (h : a.data.toList = b.data.toList) : a = b := by
  cases a; cases b
  simp only [ByteArray.mk.injEq]
  exact Array.toList_inj.1 h

theorem toList_inj {a b : ByteArray} : a.toList = b.toList ↔ a = b := by
  rw [toList_data,toList_data]
  exact ⟨bytes_ext,fun h => by rw [h]⟩

def sLt (a b : ByteArray) : Prop := Op.bytesLess a.toList b.toList = true
def sLe (a b : ByteArray) : Prop := sLt a b ∨ a = b

namespace Cnd
variable {p q : Prop}
theorem b {c : Bool} : Cnd c (c = true) := ⟨Iff.rfl⟩
theorem tt : Cnd true True := ⟨by simp⟩
theorem ff : Cnd false False := ⟨by simp⟩
theorem dec [Decidable p] : Cnd (decide p) p := ⟨decide_eq_true_iff⟩
theorem eq {α : Type} [BEq α] [LawfulBEq α] {x y : α} : Cnd (x == y) (x = y) := ⟨beq_iff_eq⟩
theorem ne {α : Type} [BEq α] [LawfulBEq α] {x y : α} : Cnd (x != y) (¬ x = y) := ⟨bne_iff_ne⟩
theorem seq {x y : ByteArray} : Cnd (x.toList == y.toList) (x = y) := ⟨by rw [beq_iff_eq,toList_inj]⟩
theorem not {c : Bool} (h : Cnd c p) : Cnd (!c) (¬ (p)) := ⟨by rw [← h.iff]; cases c <;> simp⟩
theorem and {b c : Bool} (h : Cnd b p) (k : Cnd c q) : Cnd (b && c) ((p) ∧ (q)) := ⟨by rw [← h.iff,← k.iff,Bool.and_eq_true]⟩
theorem or {b c : Bool} (h : Cnd b p) (k : Cnd c q) : Cnd (b || c) ((p) ∨ (q)) := ⟨by rw [← h.iff,← k.iff,Bool.or_eq_true]⟩
theorem ix {i n : Int} : Cnd (decide ((0 : Int) ≤ i) && decide (i < n)) ((0 : Int) ≤ i ∧ i < n) := ⟨by simp⟩
theorem sl {l h n : Int} : Cnd (decide ((0 : Int) ≤ l) && decide (l ≤ h) && decide (h ≤ n) && (h == h)) ((0 : Int) ≤ l ∧ l ≤ h ∧ h ≤ n) := ⟨by simp [and_assoc]⟩
theorem sl4 {l h n m : Int} : Cnd (decide ((0 : Int) ≤ l) && decide (l ≤ h) && decide (h ≤ n) && (m == h)) ((0 : Int) ≤ l ∧ l ≤ h ∧ h ≤ n ∧ m = h) := ⟨by simp [and_assoc]⟩
theorem ss {l h n : Int} : Cnd (decide ((0 : Int) ≤ l) && decide (l ≤ h) && decide (h ≤ n)) ((0 : Int) ≤ l ∧ l ≤ h ∧ h ≤ n) := ⟨by simp [and_assoc]⟩
theorem ble {x y : Nat} : Cnd (Nat.ble x y) (x ≤ y) := ⟨by rw [Nat.ble_eq]⟩
theorem beq {x y : Nat} : Cnd (Nat.beq x y) (x = y) := ⟨by rw [Nat.beq_eq]⟩
theorem sl_ {x y : ByteArray} : Cnd (Op.bytesLess x.toList y.toList) (sLt x y) := ⟨Iff.rfl⟩
theorem sle {x y : ByteArray} : Cnd (Op.bytesLess x.toList y.toList || x.toList == y.toList) (sLe x y) := ⟨by unfold sLe sLt; rw [Bool.or_eq_true,beq_iff_eq,toList_inj]⟩
end Cnd

theorem br {b : Bool} {c p q p' q' : Prop} (h : (c → p') ∧ (¬ (c) → q')) (hc : Cnd b c) (f : c → p' → p) (g : ¬ (c) → q' → q) : Br b p q := by
  cases b with
  | true => exact f (hc.iff.1 rfl) (h.1 (hc.iff.1 rfl))
  | false =>
    have hn : ¬ c := fun h => by have := hc.iff.2 h; cases this
    exact g hn (h.2 hn)

theorem brT {b : Bool} {c p q : Prop} (hc : Cnd b c) (h : c) (t : p) : Br b p q := by
  have := hc.iff.2 h
  subst this
  exact t

theorem brF {b : Bool} {c p q : Prop} (hc : Cnd b c) (h : ¬ (c)) (t : q) : Br b p q := by
  cases b with
  | true => exact absurd (hc.iff.1 rfl) h
  | false => exact t

theorem chk {b : Bool} {c p p' : Prop} (h2 : p') (hc : Cnd b c) (h1 : c) (f : c → p' → p) : Br b p False := by
  have := hc.iff.2 h1
  subst this
  exact f h1 h2

theorem wrap_id {k : IntKind} {e : Int} (h : (if k.signed then -(2 ^ (k.bits - 1) : Int) else 0) ≤ e) (h' : e ≤ (if k.signed then (2 ^ (k.bits - 1) : Int) else 2 ^ k.bits) - 1) : k.wrap e = e := by
  cases k <;> simp [IntKind.wrap,IntKind.signed,IntKind.bits] at h h' ⊢ <;> (try split) <;> omega

namespace wrapK
variable {e : Int} {T : Int → Prop} {V : Prop}
theorem i8 (h : -128 ≤ e ∧ e ≤ 127 ∧ V) (f : -128 ≤ e → e ≤ 127 → V → T e) : Let (IntKind.i8.wrap e) T := by
  unfold Let; rw [wrap_id (by unfold IntKind.signed IntKind.bits; simp; omega) (by unfold IntKind.signed IntKind.bits; simp; omega)]; exact f h.1 h.2.1 h.2.2
theorem i16 (h : -32768 ≤ e ∧ e ≤ 32767 ∧ V) (f : -32768 ≤ e → e ≤ 32767 → V → T e) : Let (IntKind.i16.wrap e) T := by
  unfold Let; rw [wrap_id (by unfold IntKind.signed IntKind.bits; simp; omega) (by unfold IntKind.signed IntKind.bits; simp; omega)]; exact f h.1 h.2.1 h.2.2
theorem i32 (h : -2147483648 ≤ e ∧ e ≤ 2147483647 ∧ V) (f : -2147483648 ≤ e → e ≤ 2147483647 → V → T e) : Let (IntKind.i32.wrap e) T := by
  unfold Let; rw [wrap_id (by unfold IntKind.signed IntKind.bits; simp; omega) (by unfold IntKind.signed IntKind.bits; simp; omega)]; exact f h.1 h.2.1 h.2.2
theorem i64 (h : -9223372036854775808 ≤ e ∧ e ≤ 9223372036854775807 ∧ V) (f : -9223372036854775808 ≤ e → e ≤ 9223372036854775807 → V → T e) : Let (IntKind.i64.wrap e) T := by
  unfold Let; rw [wrap_id (by unfold IntKind.signed IntKind.bits; simp; omega) (by unfold IntKind.signed IntKind.bits; simp; omega)]; exact f h.1 h.2.1 h.2.2
theorem u8 (h : 0 ≤ e ∧ e ≤ 255 ∧ V) (f : 0 ≤ e → e ≤ 255 → V → T e) : Let (IntKind.u8.wrap e) T := by
  unfold Let; rw [wrap_id (by unfold IntKind.signed IntKind.bits; simp; omega) (by unfold IntKind.signed IntKind.bits; simp; omega)]; exact f h.1 h.2.1 h.2.2
theorem u16 (h : 0 ≤ e ∧ e ≤ 65535 ∧ V) (f : 0 ≤ e → e ≤ 65535 → V → T e) : Let (IntKind.u16.wrap e) T := by
  unfold Let; rw [wrap_id (by unfold IntKind.signed IntKind.bits; simp; omega) (by unfold IntKind.signed IntKind.bits; simp; omega)]; exact f h.1 h.2.1 h.2.2
theorem u32 (h : 0 ≤ e ∧ e ≤ 4294967295 ∧ V) (f : 0 ≤ e → e ≤ 4294967295 → V → T e) : Let (IntKind.u32.wrap e) T := by
  unfold Let; rw [wrap_id (by unfold IntKind.signed IntKind.bits; simp; omega) (by unfold IntKind.signed IntKind.bits; simp; omega)]; exact f h.1 h.2.1 h.2.2
theorem u64 (h : 0 ≤ e ∧ e ≤ 18446744073709551615 ∧ V) (f : 0 ≤ e → e ≤ 18446744073709551615 → V → T e) : Let (IntKind.u64.wrap e) T := by
  unfold Let; rw [wrap_id (by unfold IntKind.signed IntKind.bits; simp; omega) (by unfold IntKind.signed IntKind.bits; simp; omega)]; exact f h.1 h.2.1 h.2.2
end wrapK

namespace wrapR
variable {e : Int} {T : Int → Prop}
theorem i64 (h : (0 : Int) ≤ e ∧ e ≤ 255) (t : T e) : Let (IntKind.i64.wrap e) T := wrapK.i64 (V := True) ⟨by omega,by omega,trivial⟩ (fun _ _ _ => t)
theorem u64 (h : (0 : Int) ≤ e ∧ e ≤ 255) (t : T e) : Let (IntKind.u64.wrap e) T := wrapK.u64 (V := True) ⟨by omega,by omega,trivial⟩ (fun _ _ _ => t)
theorem i32 (h : (0 : Int) ≤ e ∧ e ≤ 255) (t : T e) : Let (IntKind.i32.wrap e) T := wrapK.i32 (V := True) ⟨by omega,by omega,trivial⟩ (fun _ _ _ => t)
theorem u32 (h : (0 : Int) ≤ e ∧ e ≤ 255) (t : T e) : Let (IntKind.u32.wrap e) T := wrapK.u32 (V := True) ⟨by omega,by omega,trivial⟩ (fun _ _ _ => t)
end wrapR

theorem fdivK {x c : Int} {T : Int → Prop} (hc : 0 ≤ c) (t : T (x / c)) : Let (Int.fdiv x c) T := by
  unfold Let; rw [Int.fdiv_eq_ediv_of_nonneg _ hc]; exact t

namespace divK
variable {x y : Int} {T : Int → Prop}
theorem le (hx : 0 ≤ x) (hy : 0 < y) : 0 ≤ x / y ∧ x / y ≤ x := ⟨Int.ediv_nonneg hx (Int.le_of_lt hy),Int.ediv_le_self _ hx⟩
theorem i64 (hx : 0 ≤ x) (h : x ≤ 9223372036854775807) (hy : 0 < y) (t : T (x / y)) : Let (IntKind.i64.wrap (Int.tdiv x y)) T := by
  have := le hx hy
  rw [Int.tdiv_eq_ediv_of_nonneg hx]
  exact wrapK.i64 (V := True) ⟨by omega,by omega,trivial⟩ (fun _ _ _ => t)
theorem u64 (hx : 0 ≤ x) (h : x ≤ 18446744073709551615) (hy : 0 < y) (t : T (x / y)) : Let (IntKind.u64.wrap (Int.tdiv x y)) T := by
  have := le hx hy
  rw [Int.tdiv_eq_ediv_of_nonneg hx]
  exact wrapK.u64 (V := True) ⟨by omega,by omega,trivial⟩ (fun _ _ _ => t)
theorem u32 (hx : 0 ≤ x) (h : x ≤ 4294967295) (hy : 0 < y) (t : T (x / y)) : Let (IntKind.u32.wrap (Int.tdiv x y)) T := by
  have := le hx hy
  rw [Int.tdiv_eq_ediv_of_nonneg hx]
  exact wrapK.u32 (V := True) ⟨by omega,by omega,trivial⟩ (fun _ _ _ => t)
end divK

theorem room_of {k b : Nat} (h : k ≤ 1073741824) (hb : b ≤ 131072) : room (k * b) := by
  have : k * b ≤ 1073741824 * 131072 := Nat.mul_le_mul h hb
  unfold room
  omega

theorem room_ofI {c : Int} {b : Nat} (h : c ≤ 1073741824) (hb : b ≤ 131072) : room (Int.toNat c * b) := room_of (by omega) hb

def bAtN (s : ByteArray) (n : Nat) : Int := ((nth s.data.toList n 0).toNat : Int)
def bAt (s : ByteArray) (i : Int) : Int := ((nth s.data.toList i.toNat 0).toNat : Int)
def at_ {α : Type} [Inhabited α] (l : List α) (i : Int) : α := l.getD i.toNat default
def mx (a b : Int) : Int := bif decide (a < b) then b else a
def by1 (c : Int) : ByteArray := ⟨#[UInt8.ofNat c.toNat]⟩
def byz (n : Nat) : ByteArray := ⟨(List.replicate n 0).toArray⟩
def subB (b : ByteArray) (lo hi : Int) : ByteArray := b.extract lo.toNat hi.toNat
def subL {α : Type} (l : List α) (lo hi : Int) : List α := (l.drop lo.toNat).take (hi - lo).toNat

def Rds {α : Type} [Inhabited α] (enc : α → List D) (n : Nat) (g : Nat → List D) (l : List α) : Prop := n = l.length ∧ ∀ i,i < l.length → DEqs (g i) (gl enc l i)
def RdB (n : Nat) (g : Nat → List D) (b : ByteArray) : Prop := n = b.size ∧ ∀ i,i < b.size → DEqs (g i) (gstr b i)

namespace Rds
variable {α : Type} [Inhabited α] {enc : α → List D} {n m : Nat} {g h : Nat → List D} {l l' : List α}
theorem self : Rds enc l.length (gl enc l) l := ⟨rfl,fun _ _ => DEqs.refl _⟩
theorem nil : Rds enc 0 g [] := ⟨rfl,fun i h => absurd h (Nat.not_lt_zero i)⟩
theorem one {cs : List D} {x : α} (h : DEqs cs (enc x)) : Rds enc 1 (fun _ => cs) [x] := ⟨rfl,fun i hi => by
  have : i = 0 := by simp at hi; exact hi
  subst this
  exact h⟩
theorem getD_app (l l' : List α) (i : Nat) : (l ++ l').getD i default = if i < l.length then l.getD i default else l'.getD (i - l.length) default := by
  simp only [List.getD_eq_getElem?_getD,List.getElem?_append]
  split <;> rfl
theorem rep {x : α} : Rds enc n (fun _ => enc x) (List.replicate n x) := ⟨by simp,fun i hi => by
  rw [List.length_replicate] at hi
  have : gl enc (List.replicate n x) i = enc x := by simp [gl,List.getD_eq_getElem?_getD,hi]
  rw [this]
  exact DEqs.refl _⟩
theorem app (p : Rds enc n g l) (q : Rds enc m h l') : Rds enc (n + m) (gapp g n h) (l ++ l') := ⟨by rw [p.1,q.1,List.length_append],fun i hi => by
  rw [List.length_append] at hi
  have e : gl enc (l ++ l') i = if i < l.length then gl enc l i else gl enc l' (i - l.length) := by
    unfold gl
    rw [getD_app]
    split <;> rfl
  rw [e]
  unfold gapp
  by_cases h1 : i < n
  · have : Nat.blt i n = true := by rw [Nat.blt_eq]; exact h1
    rw [this,if_pos (by rw [← p.1]; exact h1)]
    exact p.2 i (by rw [← p.1]; exact h1)
  · have : Nat.blt i n = false := by rw [← Bool.not_eq_true,Nat.blt_eq]; exact h1
    rw [this,if_neg (by rw [← p.1]; exact h1),p.1]
    exact q.2 (i - l.length) (by rw [p.1] at h1; omega)⟩
theorem sub {lo hi : Int} (p : Rds enc n g l) (h : (0 : Int) ≤ lo ∧ lo ≤ hi ∧ hi ≤ (n : Int)) : Rds enc (Int.toNat (hi - lo)) (gsub g (Int.toNat lo)) (subL l lo hi) := by
  have hn := p.1
  refine ⟨by simp only [subL,List.length_take,List.length_drop]; omega,fun i hi' => ?_⟩
  simp only [subL,List.length_take,List.length_drop] at hi'
  have e : gl enc (subL l lo hi) i = gl enc l (i + Int.toNat lo) := by
    unfold gl subL
    simp only [List.getD_eq_getElem?_getD,List.getElem?_take,List.getElem?_drop]
    rw [if_pos (by omega),Nat.add_comm]
  rw [e]
  exact p.2 (i + Int.toNat lo) (by omega)
theorem to (p : Rds enc n g l) (h : l = l') : Rds enc n g l' := h ▸ p
theorem deq {t : Tag} {z : Nat} (p : Rds enc n g l) : DEq (.slice t z n g) (.slice .ro z l.length (gl enc l)) := by
  obtain ⟨h1,h2⟩ := p
  subst h1
  exact .slice t .ro z _ g _ (.inr rfl) (fun i hi => (h2 i hi).1) fun i hi => (h2 i hi).2
theorem row (h : n = l.length ∧ ∀ i,i < l.length → g i = gl enc l i) : Rds enc n g l := ⟨h.1,fun i hi => by rw [h.2 i hi]; exact DEqs.refl _⟩
end Rds

theorem u8r (x : UInt8) : (0 : Int) ≤ (x.toNat : Int) ∧ (x.toNat : Int) ≤ 255 := ⟨by omega,by have := x.toNat_lt; omega⟩
theorem u8w (e : Int) : (0 : Int) ≤ IntKind.u8.wrap e ∧ IntKind.u8.wrap e ≤ 255 := by simp [IntKind.wrap,IntKind.signed,IntKind.bits]; omega
theorem u8b (s : ByteArray) (i : Int) : (0 : Int) ≤ bAt s i ∧ bAt s i ≤ 255 := u8r _
theorem u8bN (s : ByteArray) (i : Nat) : (0 : Int) ≤ bAtN s i ∧ bAtN s i ≤ 255 := u8r _

theorem nth_toList {s : ByteArray} {i : Nat} (h : i < s.size) : nth s.data.toList i 0 = s.data.toList[i]'(by rw [Array.length_toList]; exact h) := nth_lt _ _ (by rw [Array.length_toList]; exact h)

theorem nth_app {α : Type} (l m : List α) (d : α) (j : Nat) : nth (l ++ m) j d = if j < l.length then nth l j d else nth m (j - l.length) d := by
  induction l generalizing j with
  | nil => simp
  | cons a l ih => cases j with
    | zero => simp [nth]
    | succ j => simp only [List.cons_append,nth,ih,List.length_cons,Nat.add_lt_add_iff_right,Nat.add_sub_add_right]

theorem nth_getD {α : Type} (l : List α) (d : α) (j : Nat) : nth l j d = l.getD j d := by
  induction l generalizing j with
  | nil => simp [nth]
  | cons a l ih => cases j with
    | zero => simp [nth]
    | succ j => simp [nth,ih]

theorem size_app (a b : ByteArray) : (a ++ b).size = a.size + b.size := ByteArray.size_append
theorem data_app (a b : ByteArray) : (a ++ b).data.toList = a.data.toList ++ b.data.toList := by rw [ByteArray.data_append,Array.toList_append]

namespace RdB
variable {n m : Nat} {g h : Nat → List D} {b b' : ByteArray}
theorem self : RdB b.size (gstr b) b := ⟨rfl,fun _ _ => DEqs.refl _⟩
theorem nil : RdB 0 g ByteArray.empty := ⟨rfl,fun i h => absurd h (Nat.not_lt_zero i)⟩
theorem one {c : Int} (h : (0 : Int) ≤ c ∧ c ≤ 255) : RdB 1 (fun _ => [.int .u8 c]) (by1 c) := ⟨rfl,fun i hi => by
  have : i = 0 := by
    have h2 : (by1 c).size = 1 := rfl
    omega
  subst this
  have : gstr (by1 c) 0 = [.int .u8 c] := by
    have e : ((UInt8.ofNat c.toNat).toNat : Int) = c := by
      rw [UInt8.toNat_ofNat']
      omega
    show [D.int .u8 ((UInt8.ofNat c.toNat).toNat : Int)] = _
    rw [e]
  rw [this]
  exact DEqs.refl _⟩
theorem size_byz : (byz n).size = n := by simp [byz,ByteArray.size]
theorem rep : RdB n (fun _ => [.int .u8 0]) (byz n) := ⟨size_byz.symm,fun i hi => by
  rw [size_byz] at hi
  have : gstr (byz n) i = [.int .u8 0] := by
    show [D.int .u8 ((nth (byz n).data.toList i 0).toNat : Int)] = _
    rw [nth_getD]
    simp [byz,List.getD_eq_getElem?_getD,hi]
  rw [this]
  exact DEqs.refl _⟩
theorem app (p : RdB n g b) (q : RdB m h b') : RdB (n + m) (gapp g n h) (b ++ b') := ⟨by rw [p.1,q.1,size_app],fun i hi => by
  rw [size_app] at hi
  have e : gstr (b ++ b') i = if i < b.size then gstr b i else gstr b' (i - b.size) := by
    unfold gstr
    rw [data_app,nth_app,Array.length_toList]
    show _ = if i < b.data.size then _ else [D.int .u8 ((nth b'.data.toList (i - b.data.size) 0).toNat : Int)]
    split <;> rfl
  rw [e]
  unfold gapp
  by_cases h1 : i < n
  · have : Nat.blt i n = true := by rw [Nat.blt_eq]; exact h1
    rw [this,if_pos (by rw [← p.1]; exact h1)]
    exact p.2 i (by rw [← p.1]; exact h1)
  · have : Nat.blt i n = false := by rw [← Bool.not_eq_true,Nat.blt_eq]; exact h1
    rw [this,if_neg (by rw [← p.1]; exact h1),p.1]
    exact q.2 (i - b.size) (by rw [p.1] at h1; omega)⟩
theorem size_sub {lo hi : Int} (h : (0 : Int) ≤ lo ∧ lo ≤ hi ∧ hi ≤ (b.size : Int)) : (subB b lo hi).size = Int.toNat (hi - lo) := by
  simp only [subB,ByteArray.size_extract]
  omega
theorem sub {lo hi : Int} (p : RdB n g b) (h : (0 : Int) ≤ lo ∧ lo ≤ hi ∧ hi ≤ (n : Int)) : RdB (Int.toNat (hi - lo)) (gsub g (Int.toNat lo)) (subB b lo hi) := by
  have hn := p.1
  have hs := size_sub (b := b) (lo := lo) (hi := hi) (by rw [← hn]; exact h)
  refine ⟨hs.symm,fun i hi' => ?_⟩
  rw [hs] at hi'
  have e : gstr (subB b lo hi) i = gstr b (i + Int.toNat lo) := by
    unfold gstr subB
    rw [ByteArray.data_extract,nth_getD,nth_getD]
    simp only [List.getD_eq_getElem?_getD,Array.getElem?_toList,Array.getElem?_extract]
    have hb : b.data.size = b.size := rfl
    rw [if_pos (by omega),Nat.add_comm]
  rw [e]
  exact p.2 (i + Int.toNat lo) (by omega)
theorem to (p : RdB n g b) (h : b = b') : RdB n g b' := h ▸ p
theorem deq {t : Tag} (p : RdB n g b) : DEq (.slice t 1 n g) (.slice .ro 1 b.size (gstr b)) := by
  obtain ⟨h1,h2⟩ := p
  subst h1
  exact .slice t .ro 1 _ g _ (.inr rfl) (fun i hi => (h2 i hi).1) fun i hi => (h2 i hi).2
theorem at_ (p : RdB n g b) {i : Nat} (hi : i < n) : g i = [.int .u8 ((nth b.data.toList i 0).toNat : Int)] := by
  have h1 := p.2 i (by rw [← p.1]; exact hi)
  have h2 : (g i).length = 1 := h1.1
  have h3 := h1.2 0
  match hg : g i,h2 with
  | [d],_ =>
    rw [hg] at h3
    have h4 : DEq d (.int .u8 ((nth b.data.toList i 0).toNat : Int)) := h3
    cases h4
    rfl
theorem bytes (p : RdB n g b) : Bytes n g := fun i hi => ⟨nth b.data.toList i 0,p.at_ hi⟩
theorem text (p : RdB n g b) : textOf n g = b := by
  have key : ∀ k,k ≤ n → gbytes g k = b.data.toList.take k := by
    intro k
    induction k with
    | zero => intro _; simp [gbytes]
    | succ k ih =>
      intro hk
      have hlt : k < b.data.toList.length := by rw [Array.length_toList]; show k < b.size; rw [← p.1]; omega
      rw [gbytes,ih (by omega),p.at_ (by omega),List.take_succ_eq_append_getElem hlt]
      congr 2
      show UInt8.ofNat (Int.toNat ((nth b.data.toList k 0).toNat : Int)) = _
      rw [Int.toNat_natCast,UInt8.ofNat_toNat,nth_lt _ _ hlt]
  apply bytes_ext
  show (gbytes g n).toArray.toList = _
  rw [key n (Nat.le_refl _),List.take_of_length_le (by rw [Array.length_toList]; show b.size ≤ n; rw [p.1]; exact Nat.le_refl _)]
end RdB

theorem slK {p q k : Prop} (h : p ∧ q) (r : k) : p ∧ q ∧ k := ⟨h.1,h.2,r⟩
theorem numR {α : Type} [Inhabited α] {enc : α → List D} (g : Nat → List D) {n : Nat} {l : List α} (h : Rds enc n g l) : n = l.length := h.1
theorem numB (g : Nat → List D) {n : Nat} {b : ByteArray} (h : RdB n g b) : n = b.size := h.1

theorem b2s {n : Nat} {g : Nat → List D} {b : ByteArray} {V : Prop} {T : ByteArray → Prop} (h : V) (p : RdB n g b) (f : V → T b) : Bytes n g ∧ Let (textOf n g) T :=
  ⟨p.bytes,by unfold Let; rw [p.text]; exact f h⟩

end Go.Abs

/- Layer 1: numbers and texts as bytes. -/
namespace Go.Abs
open Go

def blen (n : Nat) : Nat := if n = 0 then 0 else n.log2 + 1
def nb (n : Nat) : Nat := (blen n + 7) / 8
def be : Nat → Nat → List UInt8
  | 0,_ => []
  | k + 1,n => be k (n / 256) ++ [UInt8.ofNat n]
def num (n : Nat) : ByteArray := ⟨(UInt8.ofNat (nb n) :: be (nb n) n).toArray⟩
def val (b : ByteArray) (i : Nat) : Nat → Int
  | 0 => 0
  | k + 1 => val b i k * 256 + bAtN b (i + k)

def U64 (n : Int) : Prop := 0 ≤ n ∧ n ≤ 18446744073709551615

def len64_pre (a : Int) : Prop := U64 a
def len64 (a : Int) : Int := (blen a.toNat : Int)
def own_pre (a : ByteArray) : Prop := a.size ≤ 536870912
def ownB (a : ByteArray) : ByteArray := a
def put_pre (a : ByteArray × Int) : Prop := a.1.size ≤ 536870912 ∧ U64 a.2
def putB (a : ByteArray × Int) : ByteArray := a.1 ++ num a.2.toNat
def putText_pre (a : ByteArray × ByteArray) : Prop := a.1.size ≤ 268435456 ∧ a.2.size ≤ 268435456
def putText (a : ByteArray × ByteArray) : ByteArray := a.1 ++ num a.2.size ++ a.2
def numS (a : Int) : ByteArray := num a.toNat
def textS (a : ByteArray) : ByteArray := num a.size ++ a
def take_pre (a : ByteArray × Int) : Prop := a.1.size ≤ 536870912
def takeN (a : ByteArray × Int) : Int × Int × Int :=
  if a.2 < 0 ∨ (a.1.size : Int) < a.2 then (0,0,1) else
  if a.2 = (a.1.size : Int) then (0,0,2) else
  if 8 < bAt a.1 a.2 then (0,0,3) else
  if (a.1.size : Int) - a.2 - 1 < bAt a.1 a.2 then (0,0,2) else
  if 0 < bAt a.1 a.2 ∧ bAt a.1 (a.2 + 1) = 0 then (0,0,3) else
  (val a.1 (a.2.toNat + 1) (bAt a.1 a.2).toNat,a.2 + 1 + bAt a.1 a.2,0)
def takeText_pre (a : ByteArray × Int × Int) : Prop := a.1.size ≤ 536870912 ∧ a.2.2 ≤ 9223372036854775807
def takeText (a : ByteArray × Int × Int) : ByteArray × Int × Int :=
  if a.2.2 < 0 then (ByteArray.empty,0,1) else
  if (takeN (a.1,a.2.1)).2.2 ≠ 0 then (ByteArray.empty,0,(takeN (a.1,a.2.1)).2.2) else
  if a.2.2 < (takeN (a.1,a.2.1)).1 then (ByteArray.empty,0,4) else
  if (a.1.size : Int) - (takeN (a.1,a.2.1)).2.1 < (takeN (a.1,a.2.1)).1 then (ByteArray.empty,0,2) else
  (subB a.1 (takeN (a.1,a.2.1)).2.1 ((takeN (a.1,a.2.1)).2.1 + (takeN (a.1,a.2.1)).1),(takeN (a.1,a.2.1)).2.1 + (takeN (a.1,a.2.1)).1,0)

end Go.Abs

/- Layer 1: plain facts on numbers' bytes. -/
namespace Go.Abs
open Go
theorem by1_data (c : Int) : (by1 c).data.toList = [UInt8.ofNat c.toNat] := rfl
theorem empty_data : ByteArray.empty.data.toList = [] := rfl
theorem empty_app (b : ByteArray) : ByteArray.empty ++ b = b := bytes_ext (by rw [data_app,empty_data,List.nil_append])
theorem app_empty (b : ByteArray) : b ++ ByteArray.empty = b := bytes_ext (by rw [data_app,empty_data,List.append_nil])
theorem app_assoc (a b c : ByteArray) : a ++ b ++ c = a ++ (b ++ c) := bytes_ext (by simp only [data_app,List.append_assoc])
theorem data_length (b : ByteArray) : b.data.toList.length = b.size := by rw [Array.length_toList]; rfl
theorem be_length (k n : Nat) : (be k n).length = k := by
  induction k generalizing n with
  | zero => rfl
  | succ k ih => simp [be,ih]

theorem nb_le {n k : Nat} : nb n ≤ k ↔ n < 256 ^ k := by
  have e : (256 : Nat) ^ k = 2 ^ (8 * k) := by rw [Nat.pow_mul]
  rw [e]
  unfold nb blen
  split
  · rename_i h
    subst h
    exact ⟨fun _ => Nat.pow_pos (by decide),fun _ => by omega⟩
  · rename_i h
    rw [← Nat.log2_lt h]
    omega

theorem nb_eight {n : Nat} (h : n < 2 ^ 64) : nb n ≤ 8 := nb_le.2 (Nat.lt_of_lt_of_eq h (by decide))
theorem num_data (n : Nat) : (num n).data.toList = UInt8.ofNat (nb n) :: be (nb n) n := rfl
theorem num_size (n : Nat) : (num n).size = nb n + 1 := by rw [← data_length,num_data,List.length_cons,be_length]
theorem U64.lt {n : Int} (h : U64 n) : n.toNat < 2 ^ 64 := by obtain ⟨h1,h2⟩ := h; omega
theorem ofNat_wrap {e : Int} (h : 0 ≤ e) : UInt8.ofNat (IntKind.u8.wrap e).toNat = UInt8.ofNat e.toNat := by
  apply UInt8.toNat_inj.1
  rw [UInt8.toNat_ofNat',UInt8.toNat_ofNat']
  simp [IntKind.wrap,IntKind.signed,IntKind.bits]
  omega

theorem val_nonneg (b : ByteArray) (i k : Nat) : 0 ≤ val b i k := by
  induction k with
  | zero => exact Int.le_refl 0
  | succ k ih => have := (u8bN b (i + k)).1; simp only [val]; omega
theorem val_lt (b : ByteArray) (i k : Nat) : val b i k < 256 ^ k := by
  induction k with
  | zero => exact (by decide : (0 : Int) < 1)
  | succ k ih =>
    have h1 := (u8bN b (i + k)).2
    simp only [val]
    rw [Int.pow_succ]
    omega
theorem val_bd {b : ByteArray} {i k : Nat} (h : k ≤ 8) : val b i k ≤ 18446744073709551615 := by
  have h1 := val_lt b i k
  have h2 : (256 : Int) ^ k ≤ 256 ^ 8 := by
    have h4 : (256 : Nat) ^ k ≤ 256 ^ 8 := Nat.pow_le_pow_right (by decide) h
    have h5 : ((256 ^ k : Nat) : Int) ≤ ((256 ^ 8 : Nat) : Int) := Int.ofNat_le.2 h4
    rw [Int.natCast_pow,Int.natCast_pow] at h5
    exact h5
  have h3 : (256 : Int) ^ 8 = 18446744073709551616 := by decide
  omega

theorem takeN_bd (a : ByteArray × Int) : 0 ≤ (takeN a).1 ∧ (takeN a).1 ≤ 18446744073709551615 ∧ 0 ≤ (takeN a).2.1 ∧ (takeN a).2.1 ≤ a.1.size := by
  unfold takeN
  have hb := u8b a.1 a.2
  split
  · simp
  · split
    · simp
    · split
      · simp
      · split
        · simp
        · split
          · simp
          · simp only
            refine ⟨val_nonneg _ _ _,val_bd (by omega),by omega,by omega⟩

theorem bAtN_eq {b : ByteArray} {i : Int} : bAt b i = bAtN b i.toNat := rfl
theorem bAt_sub {b : ByteArray} {lo hi i : Int} (h : (0 : Int) ≤ lo ∧ lo ≤ hi ∧ hi ≤ (b.size : Int)) (h0 : 0 ≤ i) (h1 : i < hi - lo) : bAt (subB b lo hi) i = bAt b (lo + i) := by
  unfold bAt subB
  rw [ByteArray.data_extract,nth_getD,nth_getD]
  simp only [List.getD_eq_getElem?_getD,Array.getElem?_toList,Array.getElem?_extract]
  have hb : b.data.size = b.size := rfl
  rw [if_pos (by omega),show Int.toNat (lo + i) = lo.toNat + i.toNat from by omega]

theorem shl_or {n c : Int} (h0 : 0 ≤ n) (h1 : n < 72057594037927936) (h2 : 0 ≤ c) (h3 : c ≤ 255) :
    IntKind.u64.wrap ((BitVec.ofInt 64 (IntKind.u64.wrap (n * 256)) ||| BitVec.ofInt 64 c).toNat : Int) = n * 256 + c := by
  obtain ⟨n,rfl⟩ := Int.eq_ofNat_of_zero_le h0
  obtain ⟨c,rfl⟩ := Int.eq_ofNat_of_zero_le h2
  have e1 : IntKind.u64.wrap ((n : Int) * 256) = ((n * 256 : Nat) : Int) := by
    rw [wrap_id (by simp [IntKind.signed]; omega) (by simp [IntKind.signed,IntKind.bits]; omega)]
    simp
  rw [e1,BitVec.ofInt_natCast,BitVec.ofInt_natCast,BitVec.toNat_or,BitVec.toNat_ofNat,BitVec.toNat_ofNat,Nat.mod_eq_of_lt (by omega),Nat.mod_eq_of_lt (by omega)]
  have e2 : n * 256 ||| c = n * 256 + c := by
    have := Nat.two_pow_add_eq_or_of_lt (i := 8) (b := c) (by omega) n
    rw [show n * 256 = 2 ^ 8 * n from by omega,this]
  rw [e2,wrap_id (by simp [IntKind.signed]; omega) (by simp [IntKind.signed,IntKind.bits]; omega)]
  simp

end Go.Abs

-- the types of the program as data
namespace Go.Abs
open Go
def k_u64 : Codec (Int) := intC .u64
def k_i64 : Codec (Int) := intC .i64
def k_u8 : Codec (Int) := intC .u8
def k_str : Codec (ByteArray) := strC
def k_bool : Codec (Bool) := boolC
def k_i32 : Codec (Int) := intC .i32
abbrev T_api_Label : Type := ByteArray × ByteArray
def e_api_Label (x : T_api_Label) : List D := [.str x.1,.str x.2]
def k_api_Label : Codec (T_api_Label) := aggC (pairC k_str k_str)
def k_sl_api_Label : Codec (List (T_api_Label)) := sliceC k_api_Label
abbrev T_ar3_i64 : Type := Int × Int × Int
def k_ar3_i64 : Codec (T_ar3_i64) := aggC (pairC k_i64 (pairC k_i64 k_i64))
abbrev T_api_Node : Type := ByteArray × T_ar3_i64 × (List (T_api_Label))
def k_api_Node : Codec (T_api_Node) := aggC (pairC k_str (pairC k_ar3_i64 k_sl_api_Label))
abbrev T_api_Queue : Type := ByteArray × T_ar3_i64
def k_api_Queue : Codec (T_api_Queue) := aggC (pairC k_str k_ar3_i64)
abbrev T_api_Task : Type := ByteArray × ByteArray × Int × T_ar3_i64 × (List (T_api_Label)) × ByteArray × ByteArray × Int
def k_api_Task : Codec (T_api_Task) := aggC (pairC k_str (pairC k_str (pairC k_i64 (pairC k_ar3_i64 (pairC k_sl_api_Label (pairC k_str (pairC k_str k_i64)))))))
def k_sl_ar3_i64 : Codec (List (T_ar3_i64)) := sliceC k_ar3_i64
abbrev T_api_Job : Type := T_api_Task × Int × ByteArray × Int
def k_api_Job : Codec (T_api_Job) := aggC (pairC k_api_Task (pairC k_i64 (pairC k_str k_i64)))
def k_sl_api_Job : Codec (List (T_api_Job)) := sliceC k_api_Job
abbrev T_api_Machine : Type := T_api_Node × Bool × Int
def k_api_Machine : Codec (T_api_Machine) := aggC (pairC k_api_Node (pairC k_bool k_i64))
def k_sl_api_Machine : Codec (List (T_api_Machine)) := sliceC k_api_Machine
abbrev T_model_reader : Type := ByteArray × Int × Int
abbrev T_interregnumref05_Reader : Type := ByteArray × Int × Int
def k_interregnumref05_Reader : Codec (T_interregnumref05_Reader) := aggC (pairC k_str (pairC k_i64 k_i64))
abbrev T_api_Op : Type := Int × T_api_Node × T_api_Queue × T_api_Task × ByteArray
def k_api_Op : Codec (T_api_Op) := aggC (pairC k_i64 (pairC k_api_Node (pairC k_api_Queue (pairC k_api_Task k_str))))
abbrev T_api_Act : Type := Int × ByteArray × ByteArray
def k_api_Act : Codec (T_api_Act) := aggC (pairC k_i64 (pairC k_str k_str))
end Go.Abs

-- interregnum/pack.Put
namespace Go.Abs
open Go
def f14.args (a : ByteArray × Int) : List D := [.slice .ro 1 a.1.size (gstr a.1),.int .u64 a.2]
def f14.blks (a : ByteArray × Int) : List (List D) := []
def f14.res (a : ByteArray × Int) : List D := [.slice (.own 0) 1 ((putB a).size) (gstr (putB a))]
def f14.blks' (a : ByteArray × Int) : List (List D) := []
def f14.C : Contract := FnC f14.args f14.blks (fun a => put_pre a) f14.res f14.blks'
end Go.Abs

-- math/bits.Len64
namespace Go.Abs
open Go
def f45.args (a : Int) : List D := [.int .u64 a]
def f45.blks (a : Int) : List (List D) := []
def f45.res (a : Int) : List D := [.int .i64 (len64 a)]
def f45.blks' (a : Int) : List (List D) := []
def f45.C : Contract := FnC f45.args f45.blks (fun a => len64_pre a) f45.res f45.blks'
end Go.Abs

-- interregnum/pack.own
namespace Go.Abs
open Go
def f46.args (a : ByteArray) : List D := [.slice .ro 1 a.size (gstr a)]
def f46.blks (a : ByteArray) : List (List D) := []
def f46.res (a : ByteArray) : List D := [.slice (.own 0) 1 ((ownB a).size) (gstr (ownB a))]
def f46.blks' (a : ByteArray) : List (List D) := []
def f46.C : Contract := FnC f46.args f46.blks (fun a => own_pre a) f46.res f46.blks'
end Go.Abs

/- interregnum/pack.Put -/
namespace Go.Abs
open Go
set_option linter.unusedVariables false
def f14.kills (a : ByteArray × Int) : List Hint := [.tell (ByteArray × Int) (fun x => ⟨[.dead,.int .u64 a.2,.dead,.dead,.dead,.dead,.slice (.own 10) 1 x.1.size (gstr x.1),.int .i64 x.2,.dead,.dead,.dead,.dead,.dead,.dead,.dead,.dead,.dead,.dead,.dead,.dead,.dead,.dead,.dead,.dead,.dead,.dead,.dead,.dead,.dead,.dead,.dead,.dead,.dead],[],[(10,1,x.1.size)]⟩)]
def f14.cuts (a : ByteArray × Int) : List (Nat × Σ β : Type,β→Tm) := []
def f14.af (a : ByteArray × Int) : AF := AF.mk (.seq (.region [⟨(some 4),0,(.nilSl 1),[],none⟩])
 (.seq (.region [⟨(some 8),1,.move,[.t 1],none⟩,
 ⟨(some 9),2,(.call false 45),[.t 8],none⟩,
 ⟨(some 10),6,(.bin .add),[.t 9,.c (.int .i64 (7))],none⟩,
 ⟨(some 11),7,(.bin .quo),[.t 10,.c (.int .i64 (8))],none⟩,
 ⟨(some 5),8,.move,[.t 11],none⟩])
 (.seq (.region [⟨(some 12),9,.move,[.t 0],none⟩,
 ⟨(some 13),10,(.call false 46),[.t 12],none⟩,
 ⟨(some 14),14,.move,[.t 5],none⟩,
 ⟨(some 15),15,(.conv (.int .u8)),[.t 14],none⟩,
 ⟨(some 16),16,(.buildSlice 1 1 [.int .u8 (0)] [(0,1)]),[.t 15],none⟩,
 ⟨(some 17),17,(.append 1 1),[.t 13,.t 16],none⟩,
 ⟨(some 6),18,.move,[.t 17],none⟩])
 (.seq (.seq (.region [⟨(some 18),19,.move,[.t 5],none⟩,
 ⟨(some 19),20,(.bin .sub),[.t 18,.c (.int .i64 (1))],none⟩,
 ⟨(some 7),21,.move,[.t 19],none⟩])
 (.block 0 (.loopT (ByteArray × Int) (fun x => ⟨[.dead,.int .u64 a.2,.dead,.dead,.dead,.dead,.slice (.own 10) 1 x.1.size (gstr x.1),.int .i64 x.2,.dead,.dead,.dead,.dead,.dead,.dead,.dead,.dead,.dead,.dead,.dead,.dead,.dead,.dead,.dead,.dead,.dead,.dead,.dead,.dead,.dead,.dead,.dead,.dead,.dead],[],[(10,1,x.1.size)]⟩) 22 36 (.seq (.seq (.region [⟨(some 20),22,.move,[.t 7],none⟩,
 ⟨(some 21),23,(.bin .geq),[.t 20,.c (.int .i64 (0))],none⟩])
 (.cond (.t 21) (.skip) (.exit 0)))
 (.seq (.block 1 (.region [⟨(some 24),24,.move,[.t 6],none⟩,
 ⟨(some 25),25,.move,[.t 1],none⟩,
 ⟨(some 26),26,.move,[.t 7],none⟩,
 ⟨(some 27),27,(.bin .mul),[.c (.int .i64 (8)),.t 26],none⟩,
 ⟨(some 28),28,(.bin .shr),[.t 25,.t 27],none⟩,
 ⟨(some 29),29,(.conv (.int .u8)),[.t 28],none⟩,
 ⟨(some 30),30,(.buildSlice 1 1 [.int .u8 (0)] [(0,1)]),[.t 29],none⟩,
 ⟨(some 31),31,(.append 1 1),[.t 24,.t 30],none⟩,
 ⟨(some 6),32,.move,[.t 31],none⟩]))
 (.region [⟨(some 22),33,.move,[.t 7],none⟩,
 ⟨(some 23),34,(.bin .sub),[.t 22,.c (.int .i64 (1))],none⟩,
 ⟨(some 7),35,.move,[.t 23],none⟩]))))))
 (.seq (.region [⟨(some 32),36,.move,[.t 6],none⟩,
 ⟨(some 4),37,.move,[.t 32],none⟩])
 (.ret))))))
 [.tmp 4] 0 31
def f14.env : Env := [(45,f45.C),(46,f46.C)]
def f14.tree (a : ByteArray × Int) : Prop := ∃ c1 : Int,(a.2 = c1)∧(len64_pre c1)∧Let (IntKind.i64.wrap ((len64 c1) + (7 : Int))) (fun v2 : Int => Let (IntKind.i64.wrap (Int.tdiv v2 (8 : Int))) (fun v3 : Int => ∃ c4 : ByteArray,(a.1.size = c4.size)∧(∀ i,i < c4.size→DEqs ((gstr a.1) i) ((gstr c4) i))∧(own_pre c4)∧(((ownB c4).size) = ((ownB c4).size)∧room ((((ownB c4).size) + 1) * 1))∧(Let (IntKind.i64.wrap (v3 - (1 : Int))) (fun v5 : Int => ∃ (I7 : (ByteArray × Int)→Prop) (μ8 : (ByteArray × Int)→Nat),(∃ x6 : ByteArray × Int,(a.2 = a.2)∧((((ownB c4).size) + 1) = x6.1.size)∧(∀ i,i < x6.1.size→DEqs ((gapp (gstr (ownB c4)) ((ownB c4).size) (fun _ => [.int .u8 (IntKind.u8.wrap v3)])) i) ((gstr x6.1) i))∧(v5 = x6.2)∧((((ownB c4).size) + 1) = x6.1.size)∧I7 x6)∧∀ y9 : ByteArray × Int,I7 y9→(Br (decide ((0 : Int)≤y9.2)) (Let (IntKind.i64.wrap ((8 : Int) * y9.2)) (fun v12 : Int => Br (decide ((0 : Int)≤v12)) (Let (Int.fdiv a.2 (2 ^ min (Int.toNat v12) 64)) (fun v14 : Int => (y9.1.size = y9.1.size∧room ((y9.1.size + 1) * 1))∧(Let (IntKind.i64.wrap (y9.2 - (1 : Int))) (fun v15 : Int => ∃ x16 : ByteArray × Int,(a.2 = a.2)∧((y9.1.size + 1) = x16.1.size)∧(∀ i,i < x16.1.size→DEqs ((gapp (gstr y9.1) y9.1.size (fun _ => [.int .u8 (IntKind.u8.wrap v14)])) i) ((gstr x16.1) i))∧(v15 = x16.2)∧((y9.1.size + 1) = x16.1.size)∧I7 x16∧μ8 x16 < μ8 y9)))) False)) ((y9.1.size = y9.1.size)∧(y9.1.size = ((putB a).size))∧(∀ i,i < ((putB a).size)→DEqs ((gstr y9.1) i) ((gstr (putB a)) i))∧True))))))
def f14.vc (a : ByteArray × Int) : Prop := (len64_pre a.2∧(-9223372036854775808≤((len64 (a.2)) + (7 : Int))∧((len64 (a.2)) + (7 : Int))≤9223372036854775807∧(0≤((len64 (a.2)) + (7 : Int))∧((len64 (a.2)) + (7 : Int))≤9223372036854775807∧(own_pre a.1∧(((ownB (a.1)).size) + 1≤1073741824∧(-9223372036854775808≤((((len64 (a.2)) + (7 : Int)) / (8 : Int)) - (1 : Int))∧((((len64 (a.2)) + (7 : Int)) / (8 : Int)) - (1 : Int))≤9223372036854775807∧(∃ (I7 : (ByteArray × Int)→Prop) (μ8 : (ByteArray × Int)→Nat),I7 ((ownB (a.1)) ++ (by1 (IntKind.u8.wrap (((len64 (a.2)) + (7 : Int)) / (8 : Int)))),((((len64 (a.2)) + (7 : Int)) / (8 : Int)) - (1 : Int)))∧∀ y9 : ByteArray × Int,I7 y9→(((0 : Int)≤y9.2→(-9223372036854775808≤((8 : Int) * y9.2)∧((8 : Int) * y9.2)≤9223372036854775807∧(((0 : Int)≤((8 : Int) * y9.2))∧(y9.1.size + 1≤1073741824∧(-9223372036854775808≤(y9.2 - (1 : Int))∧(y9.2 - (1 : Int))≤9223372036854775807∧(I7 (y9.1 ++ (by1 (IntKind.u8.wrap (a.2 / (2 ^ min (Int.toNat ((8 : Int) * y9.2)) 64)))),(y9.2 - (1 : Int)))∧μ8 (y9.1 ++ (by1 (IntKind.u8.wrap (a.2 / (2 ^ min (Int.toNat ((8 : Int) * y9.2)) 64)))),(y9.2 - (1 : Int))) < μ8 y9))))))∧(¬ ((0 : Int)≤y9.2)→(y9.1 = putB a))))))))))
set_option maxRecDepth 100000 in
set_option maxHeartbeats 2000000 in
theorem f14.of (a : ByteArray × Int) (h : f14.vc a) : f14.tree a := ⟨a.2,⟨rfl,⟨h.1,wrapK.i64 h.2 (fun h35 h36 k37 => divK.i64 k37.1 k37.2.1 (by decide) (⟨a.1,slK RdB.self (⟨k37.2.2.1,⟨⟨rfl,(room_of k37.2.2.2.1 (by decide))⟩,wrapK.i64 k37.2.2.2.2 (fun h31 h32 k33 => Exists.elim k33 (fun I7 h28_ => Exists.elim h28_ (fun μ8 h28 => ⟨I7,μ8,⟨((ownB (a.1)) ++ (by1 (IntKind.u8.wrap (((len64 (a.2)) + (7 : Int)) / (8 : Int)))),((((len64 (a.2)) + (7 : Int)) / (8 : Int)) - (1 : Int))),⟨rfl,slK (RdB.app RdB.self (RdB.one (by first | exact u8w _ | exact u8b _ _ | exact u8bN _ _ | decide | omega))) (⟨rfl,⟨(numB (gapp (gstr (ownB (a.1))) ((ownB (a.1)).size) (fun _ => [.int .u8 (IntKind.u8.wrap (((len64 (a.2)) + (7 : Int)) / (8 : Int)))])) (RdB.app RdB.self (RdB.one (by first | exact u8w _ | exact u8b _ _ | exact u8bN _ _ | decide | omega)))),h28.1⟩⟩)⟩⟩,fun y9 h30 => br (h28.2 y9 h30) Cnd.dec (fun h10 k26 => wrapK.i64 k26 (fun h22 h23 k24 => chk k24.2 Cnd.dec k24.1 (fun h13 k21 => fdivK (Int.le_of_lt (Int.pow_pos (by decide))) (⟨⟨rfl,(room_of k21.1 (by decide))⟩,wrapK.i64 k21.2 (fun h18 h19 k20 => ⟨(y9.1 ++ (by1 (IntKind.u8.wrap (a.2 / (2 ^ min (Int.toNat ((8 : Int) * y9.2)) 64)))),(y9.2 - (1 : Int))),⟨rfl,slK (RdB.app RdB.self (RdB.one (by first | exact u8w _ | exact u8b _ _ | exact u8bN _ _ | decide | omega))) (⟨rfl,⟨(numB (gapp (gstr y9.1) y9.1.size (fun _ => [.int .u8 (IntKind.u8.wrap (a.2 / (2 ^ min (Int.toNat ((8 : Int) * y9.2)) 64)))])) (RdB.app RdB.self (RdB.one (by first | exact u8w _ | exact u8b _ _ | exact u8bN _ _ | decide | omega)))),k20⟩⟩)⟩⟩)⟩)))) (fun h11 k27 => ⟨rfl,slK (RdB.to RdB.self k27) (trivial)⟩)⟩)))⟩⟩)⟩))⟩⟩⟩
theorem f14.eq (a : ByteArray × Int) : (f14.af a).gives f14.env (f14.args a) (f14.blks a) (f14.res a) (f14.blks' a) = f14.tree a := by kernel_rfl
end Go.Abs

-- interregnum/interregnumref01.Number
namespace Go.Abs
open Go
end Go.Abs

/- interregnum/interregnumref01.Number -/
namespace Go.Abs
open Go
set_option linter.unusedVariables false
end Go.Abs

-- interregnum/pack.PutText
namespace Go.Abs
open Go
def f16.args (a : ByteArray × ByteArray) : List D := [.slice .ro 1 a.1.size (gstr a.1),.str a.2]
def f16.blks (a : ByteArray × ByteArray) : List (List D) := []
def f16.res (a : ByteArray × ByteArray) : List D := [.slice (.own 0) 1 ((putText a).size) (gstr (putText a))]
def f16.blks' (a : ByteArray × ByteArray) : List (List D) := []
def f16.C : Contract := FnC f16.args f16.blks (fun a => putText_pre a) f16.res f16.blks'
end Go.Abs

/- interregnum/pack.PutText -/
namespace Go.Abs
open Go
set_option linter.unusedVariables false
def f16.kills (a : ByteArray × ByteArray) : List Hint := []
def f16.cuts (a : ByteArray × ByteArray) : List (Nat × Σ β : Type,β→Tm) := []
def f16.af (a : ByteArray × ByteArray) : AF := AF.mk (.seq (.region [⟨(some 4),0,(.nilSl 1),[],none⟩])
 (.seq (.region [⟨(some 5),1,.move,[.t 0],none⟩,
 ⟨(some 6),2,.move,[.t 1],none⟩,
 ⟨(some 7),3,(.len true),[.t 6],none⟩,
 ⟨(some 8),4,(.conv (.int .u64)),[.t 7],none⟩,
 ⟨(some 9),5,(.call false 14),[.t 5,.t 8],none⟩,
 ⟨(some 10),9,.move,[.t 1],none⟩,
 ⟨(some 11),10,(.append 1 1),[.t 9,.t 10],none⟩,
 ⟨(some 4),11,.move,[.t 11],none⟩])
 (.ret)))
 [.tmp 4] 0 10
def f16.env : Env := [(14,f14.C)]
def f16.tree (a : ByteArray × ByteArray) : Prop := Let (IntKind.u64.wrap (a.2.size : Int)) (fun v1 : Int => ∃ c2 : ByteArray × Int,(a.1.size = c2.1.size)∧(∀ i,i < c2.1.size→DEqs ((gstr a.1) i) ((gstr c2.1) i))∧(v1 = c2.2)∧(put_pre c2)∧(((putB c2).size) = ((putB c2).size)∧room ((((putB c2).size) + a.2.size) * 1))∧(((((putB c2).size) + a.2.size) = (((putB c2).size) + a.2.size))∧((((putB c2).size) + a.2.size) = ((putText a).size))∧(∀ i,i < ((putText a).size)→DEqs ((gapp (gstr (putB c2)) ((putB c2).size) (gstr a.2)) i) ((gstr (putText a)) i))∧True))
def f16.vc (a : ByteArray × ByteArray) : Prop := (0≤(a.2.size : Int)∧(a.2.size : Int)≤18446744073709551615∧(put_pre (a.1,(a.2.size : Int))∧(((putB (a.1,(a.2.size : Int))).size) + a.2.size≤1073741824∧((putB (a.1,(a.2.size : Int))) ++ a.2 = putText a))))
set_option maxRecDepth 100000 in
set_option maxHeartbeats 2000000 in
theorem f16.of (a : ByteArray × ByteArray) (h : f16.vc a) : f16.tree a := wrapK.u64 h (fun h5 h6 k7 => ⟨(a.1,(a.2.size : Int)),slK RdB.self (⟨rfl,⟨k7.1,⟨⟨rfl,(room_of k7.2.1 (by decide))⟩,⟨rfl,slK (RdB.to (RdB.app RdB.self RdB.self) k7.2.2) (trivial)⟩⟩⟩⟩)⟩)
theorem f16.eq (a : ByteArray × ByteArray) : (f16.af a).gives f16.env (f16.args a) (f16.blks a) (f16.res a) (f16.blks' a) = f16.tree a := by kernel_rfl
end Go.Abs

-- interregnum/interregnumref01.Text
namespace Go.Abs
open Go
end Go.Abs

/- interregnum/interregnumref01.Text -/
namespace Go.Abs
open Go
set_option linter.unusedVariables false
end Go.Abs

-- interregnum/pack.Take
namespace Go.Abs
open Go
def f18.args (a : ByteArray × Int) : List D := [.slice .ro 1 a.1.size (gstr a.1),.int .i64 a.2]
def f18.blks (a : ByteArray × Int) : List (List D) := []
def f18.res (a : ByteArray × Int) : List D := [.int .u64 ((takeN a).1),.int .i64 ((takeN a).2.1),.int .i64 ((takeN a).2.2)]
def f18.blks' (a : ByteArray × Int) : List (List D) := []
def f18.C : Contract := FnC f18.args f18.blks (fun a => take_pre a) f18.res f18.blks'
end Go.Abs

/- interregnum/pack.Take -/
namespace Go.Abs
open Go
set_option linter.unusedVariables false
def f18.kills (a : ByteArray × Int) : List Hint := [.tell (Int × Int × ByteArray × Int × Int) (fun x => ⟨[.dead,.int .i64 a.2,.dead,.dead,.dead,.dead,.dead,.dead,.int .i64 x.1,.int .u64 x.2.1,.dead,.dead,.dead,.dead,.dead,.dead,.dead,.dead,.dead,.dead,.dead,.dead,.dead,.dead,.dead,.dead,.dead,.dead,.dead,.dead,.dead,.dead,.dead,.dead,.dead,.dead,.dead,.dead,.dead,.dead,.dead,.dead,.dead,.dead,.dead,.dead,.dead,.dead,.dead,.dead,.slice .ro 1 x.2.2.1.size (gstr x.2.2.1),.int .i64 x.2.2.2.1,.int .i64 x.2.2.2.2,.dead,.dead,.dead,.dead,.dead,.dead,.dead,.dead,.dead,.dead,.dead,.dead,.dead,.dead],[],[]⟩)]
def f18.cuts (a : ByteArray × Int) : List (Nat × Σ β : Type,β→Tm) := []
def f18.af (a : ByteArray × Int) : AF := AF.mk (.seq (.region [⟨(some 4),0,.move,[.c (.int .u64 (0))],none⟩,
 ⟨(some 5),1,.move,[.c (.int .i64 (0))],none⟩,
 ⟨(some 6),2,.move,[.c (.int .i64 (0))],none⟩])
 (.seq (.seq (.region [⟨(some 12),3,.move,[.t 1],none⟩,
 ⟨(some 13),4,(.bin .lss),[.t 12,.c (.int .i64 (0))],none⟩,
 ⟨(some 14),5,.move,[.t 13],none⟩,
 ⟨(some 15),6,.move,[.t 1],(some (14,false))⟩,
 ⟨(some 16),7,.move,[.t 0],(some (14,false))⟩,
 ⟨(some 17),8,(.len false),[.t 16],(some (14,false))⟩,
 ⟨(some 18),9,(.bin .gtr),[.t 15,.t 17],(some (14,false))⟩,
 ⟨(some 19),10,.pick,[.t 14,.c (.bool true),.t 18],none⟩])
 (.cond (.t 19) (.seq (.region [⟨(some 4),11,.move,[.c (.int .u64 (0))],none⟩,
 ⟨(some 5),12,.move,[.c (.int .i64 (0))],none⟩,
 ⟨(some 6),13,.move,[.c (.int .i64 (1))],none⟩])
 (.ret)) (.skip)))
 (.seq (.region [⟨(some 20),14,.move,[.t 0],none⟩,
 ⟨(some 21),15,.move,[.t 1],none⟩,
 ⟨(some 22),16,(.sliceSl 1 true false false),[.t 20,.t 21],none⟩,
 ⟨(some 7),17,.move,[.t 22],none⟩])
 (.seq (.seq (.region [⟨(some 23),18,.move,[.t 7],none⟩,
 ⟨(some 24),19,(.len false),[.t 23],none⟩,
 ⟨(some 25),20,(.bin .eql),[.t 24,.c (.int .i64 (0))],none⟩])
 (.cond (.t 25) (.seq (.region [⟨(some 4),21,.move,[.c (.int .u64 (0))],none⟩,
 ⟨(some 5),22,.move,[.c (.int .i64 (0))],none⟩,
 ⟨(some 6),23,.move,[.c (.int .i64 (2))],none⟩])
 (.ret)) (.skip)))
 (.seq (.region [⟨(some 26),24,.move,[.t 7],none⟩,
 ⟨(some 27),25,(.indexAddr 1 none),[.t 26,.c (.int .i64 (0))],none⟩,
 ⟨(some 28),26,(.load false 1),[.t 27],none⟩,
 ⟨(some 29),27,(.conv (.int .i64)),[.t 28],none⟩,
 ⟨(some 8),28,.move,[.t 29],none⟩])
 (.seq (.block 0 (.seq (.region [⟨(some 31),29,.move,[.t 8],none⟩,
 ⟨(some 32),30,(.bin .gtr),[.t 31,.c (.int .i64 (8))],none⟩,
 ⟨(some 30),31,.move,[.t 32],none⟩])
 (.cond (.t 30) (.seq (.region [⟨(some 4),32,.move,[.c (.int .u64 (0))],none⟩,
 ⟨(some 5),33,.move,[.c (.int .i64 (0))],none⟩,
 ⟨(some 6),34,.move,[.c (.int .i64 (3))],none⟩])
 (.ret)) (.seq (.region [⟨(some 34),35,.move,[.t 7],none⟩,
 ⟨(some 35),36,(.len false),[.t 34],none⟩,
 ⟨(some 36),37,.move,[.t 8],none⟩,
 ⟨(some 37),38,(.bin .leq),[.t 35,.t 36],none⟩,
 ⟨(some 33),39,.move,[.t 37],none⟩])
 (.cond (.t 33) (.seq (.region [⟨(some 4),40,.move,[.c (.int .u64 (0))],none⟩,
 ⟨(some 5),41,.move,[.c (.int .i64 (0))],none⟩,
 ⟨(some 6),42,.move,[.c (.int .i64 (2))],none⟩])
 (.ret)) (.seq (.region [⟨(some 39),43,.move,[.t 8],none⟩,
 ⟨(some 40),44,(.bin .gtr),[.t 39,.c (.int .i64 (0))],none⟩,
 ⟨(some 41),45,.move,[.t 40],none⟩,
 ⟨(some 42),46,.move,[.t 7],(some (41,true))⟩,
 ⟨(some 43),47,(.indexAddr 1 none),[.t 42,.c (.int .i64 (1))],(some (41,true))⟩,
 ⟨(some 44),48,(.load false 1),[.t 43],(some (41,true))⟩,
 ⟨(some 45),49,(.bin .eql),[.t 44,.c (.int .u8 (0))],(some (41,true))⟩,
 ⟨(some 46),50,.pick,[.t 41,.t 45,.c (.bool false)],none⟩,
 ⟨(some 38),51,.move,[.t 46],none⟩])
 (.cond (.t 38) (.seq (.region [⟨(some 4),52,.move,[.c (.int .u64 (0))],none⟩,
 ⟨(some 5),53,.move,[.c (.int .i64 (0))],none⟩,
 ⟨(some 6),54,.move,[.c (.int .i64 (3))],none⟩])
 (.ret)) (.skip))))))))
 (.seq (.region [⟨(some 9),55,.move,[.c (.int .u64 (0))],none⟩])
 (.seq (.seq (.region [⟨(some 47),56,.move,[.t 7],none⟩,
 ⟨(some 48),57,.move,[.t 8],none⟩,
 ⟨(some 49),58,(.bin .add),[.t 48,.c (.int .i64 (1))],none⟩,
 ⟨(some 50),59,(.sliceSl 1 true true false),[.t 47,.c (.int .i64 (1)),.t 49],none⟩,
 ⟨(some 51),60,(.len false),[.t 50],none⟩,
 ⟨(some 52),61,.move,[.c (.int .i64 (0))],none⟩])
 (.block 1 (.loopT (Int × Int × ByteArray × Int × Int) (fun x => ⟨[.dead,.int .i64 a.2,.dead,.dead,.dead,.dead,.dead,.dead,.int .i64 x.1,.int .u64 x.2.1,.dead,.dead,.dead,.dead,.dead,.dead,.dead,.dead,.dead,.dead,.dead,.dead,.dead,.dead,.dead,.dead,.dead,.dead,.dead,.dead,.dead,.dead,.dead,.dead,.dead,.dead,.dead,.dead,.dead,.dead,.dead,.dead,.dead,.dead,.dead,.dead,.dead,.dead,.dead,.dead,.slice .ro 1 x.2.2.1.size (gstr x.2.2.1),.int .i64 x.2.2.2.1,.int .i64 x.2.2.2.2,.dead,.dead,.dead,.dead,.dead,.dead,.dead,.dead,.dead,.dead,.dead,.dead,.dead,.dead],[],[]⟩) 62 74 (.seq (.region [⟨(some 53),62,(.bin .lss),[.t 52,.t 51],none⟩])
 (.seq (.cond (.t 53) (.skip) (.exit 1))
 (.seq (.block 2 (.seq (.region [⟨(some 54),63,(.indexAddr 1 none),[.t 50,.t 52],none⟩,
 ⟨(some 55),64,(.load false 1),[.t 54],none⟩,
 ⟨(some 11),65,.move,[.t 55],none⟩])
 (.region [⟨(some 56),66,.move,[.t 9],none⟩,
 ⟨(some 57),67,(.bin .shl),[.t 56,.c (.int .u64 (8))],none⟩,
 ⟨(some 58),68,.move,[.t 11],none⟩,
 ⟨(some 59),69,(.conv (.int .u64)),[.t 58],none⟩,
 ⟨(some 60),70,(.bin .or),[.t 57,.t 59],none⟩,
 ⟨(some 9),71,.move,[.t 60],none⟩])))
 (.region [⟨(some 61),72,(.bin .add),[.t 52,.c (.int .i64 (1))],none⟩,
 ⟨(some 52),73,.move,[.t 61],none⟩])))))))
 (.seq (.region [⟨(some 62),74,.move,[.t 9],none⟩,
 ⟨(some 63),75,.move,[.t 1],none⟩,
 ⟨(some 64),76,.move,[.t 8],none⟩,
 ⟨(some 65),77,(.bin .add),[.t 63,.t 64],none⟩,
 ⟨(some 66),78,(.bin .add),[.t 65,.c (.int .i64 (1))],none⟩,
 ⟨(some 4),79,.move,[.t 62],none⟩,
 ⟨(some 5),80,.move,[.t 66],none⟩,
 ⟨(some 6),81,.move,[.c (.int .i64 (0))],none⟩])
 (.ret))))))))))
 [.tmp 4,.tmp 5,.tmp 6] 0 65
def f18.env : Env := []
def f18.tree (a : ByteArray × Int) : Prop := Br (decide (a.2 < (0 : Int))) (((0 : Int) = ((takeN a).1))∧((0 : Int) = ((takeN a).2.1))∧((1 : Int) = ((takeN a).2.2))∧True) (Br (decide ((a.1.size : Int) < a.2)) (((0 : Int) = ((takeN a).1))∧((0 : Int) = ((takeN a).2.1))∧((1 : Int) = ((takeN a).2.2))∧True) (Br (decide ((0 : Int)≤a.2) && decide (a.2≤(a.1.size : Int)) && decide ((a.1.size : Int)≤(a.1.size : Int)) && ((a.1.size : Int) == (a.1.size : Int))) (Br ((Int.toNat ((a.1.size : Int) - a.2) : Int) == (0 : Int)) (((0 : Int) = ((takeN a).1))∧((0 : Int) = ((takeN a).2.1))∧((2 : Int) = ((takeN a).2.2))∧True) (Br (decide ((0 : Int)≤(0 : Int)) && decide ((0 : Int) < (Int.toNat ((a.1.size : Int) - a.2) : Int))) (Let (IntKind.i64.wrap (bAtN a.1 (Int.toNat (0 : Int) + (Int.toNat a.2)))) (fun v12 : Int => Br (decide ((8 : Int) < v12)) (((0 : Int) = ((takeN a).1))∧((0 : Int) = ((takeN a).2.1))∧((3 : Int) = ((takeN a).2.2))∧True) (Br (decide ((Int.toNat ((a.1.size : Int) - a.2) : Int)≤v12)) (((0 : Int) = ((takeN a).1))∧((0 : Int) = ((takeN a).2.1))∧((2 : Int) = ((takeN a).2.2))∧True) (Br (decide ((0 : Int) < v12)) (Br (decide ((0 : Int)≤(1 : Int)) && decide ((1 : Int) < (Int.toNat ((a.1.size : Int) - a.2) : Int))) (Br ((bAtN a.1 (Int.toNat (1 : Int) + (Int.toNat a.2))) == (0 : Int)) (((0 : Int) = ((takeN a).1))∧((0 : Int) = ((takeN a).2.1))∧((3 : Int) = ((takeN a).2.2))∧True) (Let (IntKind.i64.wrap (v12 + (1 : Int))) (fun v25 : Int => Br (decide ((0 : Int)≤(1 : Int)) && decide ((1 : Int)≤v25) && decide (v25≤(Int.toNat ((a.1.size : Int) - a.2) : Int)) && (v25 == v25)) (∃ (I28 : (Int × Int × ByteArray × Int × Int)→Prop) (μ29 : (Int × Int × ByteArray × Int × Int)→Nat),(∃ x27 : Int × Int × ByteArray × Int × Int,(a.2 = a.2)∧(v12 = x27.1)∧((0 : Int) = x27.2.1)∧((Int.toNat (v25 - (1 : Int))) = x27.2.2.1.size)∧(∀ i,i < x27.2.2.1.size→DEqs ((gsub (gsub (gstr a.1) (Int.toNat a.2)) 1) i) ((gstr x27.2.2.1) i))∧((Int.toNat (v25 - (1 : Int)) : Int) = x27.2.2.2.1)∧((0 : Int) = x27.2.2.2.2)∧I28 x27)∧∀ y30 : Int × Int × ByteArray × Int × Int,I28 y30→(Br (decide (y30.2.2.2.2 < y30.2.2.2.1)) (Br (decide ((0 : Int)≤y30.2.2.2.2) && decide (y30.2.2.2.2 < (y30.2.2.1.size : Int))) (Let (IntKind.u64.wrap (bAt y30.2.2.1 y30.2.2.2.2)) (fun v34 : Int => Let (IntKind.i64.wrap (y30.2.2.2.2 + (1 : Int))) (fun v35 : Int => ∃ x36 : Int × Int × ByteArray × Int × Int,(a.2 = a.2)∧(y30.1 = x36.1)∧((IntKind.u64.wrap ((BitVec.ofInt 64 (IntKind.u64.wrap (y30.2.1 * 256)) ||| BitVec.ofInt 64 v34).toNat : Int)) = x36.2.1)∧(y30.2.2.1.size = x36.2.2.1.size)∧(∀ i,i < x36.2.2.1.size→DEqs ((gstr y30.2.2.1) i) ((gstr x36.2.2.1) i))∧(y30.2.2.2.1 = x36.2.2.2.1)∧(v35 = x36.2.2.2.2)∧I28 x36∧μ29 x36 < μ29 y30))) False) (Let (IntKind.i64.wrap (a.2 + y30.1)) (fun v45 : Int => Let (IntKind.i64.wrap (v45 + (1 : Int))) (fun v46 : Int => (y30.2.1 = ((takeN a).1))∧(v46 = ((takeN a).2.1))∧((0 : Int) = ((takeN a).2.2))∧True))))) False))) False) (Let (IntKind.i64.wrap (v12 + (1 : Int))) (fun v66 : Int => Br (decide ((0 : Int)≤(1 : Int)) && decide ((1 : Int)≤v66) && decide (v66≤(Int.toNat ((a.1.size : Int) - a.2) : Int)) && (v66 == v66)) (∃ (I69 : (Int × Int × ByteArray × Int × Int)→Prop) (μ70 : (Int × Int × ByteArray × Int × Int)→Nat),(∃ x68 : Int × Int × ByteArray × Int × Int,(a.2 = a.2)∧(v12 = x68.1)∧((0 : Int) = x68.2.1)∧((Int.toNat (v66 - (1 : Int))) = x68.2.2.1.size)∧(∀ i,i < x68.2.2.1.size→DEqs ((gsub (gsub (gstr a.1) (Int.toNat a.2)) 1) i) ((gstr x68.2.2.1) i))∧((Int.toNat (v66 - (1 : Int)) : Int) = x68.2.2.2.1)∧((0 : Int) = x68.2.2.2.2)∧I69 x68)∧∀ y71 : Int × Int × ByteArray × Int × Int,I69 y71→(Br (decide (y71.2.2.2.2 < y71.2.2.2.1)) (Br (decide ((0 : Int)≤y71.2.2.2.2) && decide (y71.2.2.2.2 < (y71.2.2.1.size : Int))) (Let (IntKind.u64.wrap (bAt y71.2.2.1 y71.2.2.2.2)) (fun v75 : Int => Let (IntKind.i64.wrap (y71.2.2.2.2 + (1 : Int))) (fun v76 : Int => ∃ x77 : Int × Int × ByteArray × Int × Int,(a.2 = a.2)∧(y71.1 = x77.1)∧((IntKind.u64.wrap ((BitVec.ofInt 64 (IntKind.u64.wrap (y71.2.1 * 256)) ||| BitVec.ofInt 64 v75).toNat : Int)) = x77.2.1)∧(y71.2.2.1.size = x77.2.2.1.size)∧(∀ i,i < x77.2.2.1.size→DEqs ((gstr y71.2.2.1) i) ((gstr x77.2.2.1) i))∧(y71.2.2.2.1 = x77.2.2.2.1)∧(v76 = x77.2.2.2.2)∧I69 x77∧μ70 x77 < μ70 y71))) False) (Let (IntKind.i64.wrap (a.2 + y71.1)) (fun v86 : Int => Let (IntKind.i64.wrap (v86 + (1 : Int))) (fun v87 : Int => (y71.2.1 = ((takeN a).1))∧(v87 = ((takeN a).2.1))∧((0 : Int) = ((takeN a).2.2))∧True))))) False)))))) False)) False))
def f18.vc (a : ByteArray × Int) : Prop := ((a.2 < (0 : Int)→(((0 : Int),(0 : Int),(1 : Int)) = takeN a))∧(¬ (a.2 < (0 : Int))→(((a.1.size : Int) < a.2→(((0 : Int),(0 : Int),(1 : Int)) = takeN a))∧(¬ ((a.1.size : Int) < a.2)→((0 : Int)≤a.2∧a.2≤(a.1.size : Int)∧(((Int.toNat ((a.1.size : Int) - a.2) : Int) = (0 : Int)→(((0 : Int),(0 : Int),(2 : Int)) = takeN a))∧(¬ ((Int.toNat ((a.1.size : Int) - a.2) : Int) = (0 : Int))→((0 : Int) < (Int.toNat ((a.1.size : Int) - a.2) : Int)∧(((8 : Int) < (bAtN a.1 (Int.toNat (0 : Int) + (Int.toNat a.2)))→(((0 : Int),(0 : Int),(3 : Int)) = takeN a))∧(¬ ((8 : Int) < (bAtN a.1 (Int.toNat (0 : Int) + (Int.toNat a.2))))→(((Int.toNat ((a.1.size : Int) - a.2) : Int)≤(bAtN a.1 (Int.toNat (0 : Int) + (Int.toNat a.2)))→(((0 : Int),(0 : Int),(2 : Int)) = takeN a))∧(¬ ((Int.toNat ((a.1.size : Int) - a.2) : Int)≤(bAtN a.1 (Int.toNat (0 : Int) + (Int.toNat a.2))))→(((0 : Int) < (bAtN a.1 (Int.toNat (0 : Int) + (Int.toNat a.2)))→((1 : Int) < (Int.toNat ((a.1.size : Int) - a.2) : Int)∧(((bAtN a.1 (Int.toNat (1 : Int) + (Int.toNat a.2))) = (0 : Int)→(((0 : Int),(0 : Int),(3 : Int)) = takeN a))∧(¬ ((bAtN a.1 (Int.toNat (1 : Int) + (Int.toNat a.2))) = (0 : Int))→(-9223372036854775808≤((bAtN a.1 (Int.toNat (0 : Int) + (Int.toNat a.2))) + (1 : Int))∧((bAtN a.1 (Int.toNat (0 : Int) + (Int.toNat a.2))) + (1 : Int))≤9223372036854775807∧((1 : Int)≤((bAtN a.1 (Int.toNat (0 : Int) + (Int.toNat a.2))) + (1 : Int))∧((bAtN a.1 (Int.toNat (0 : Int) + (Int.toNat a.2))) + (1 : Int))≤(Int.toNat ((a.1.size : Int) - a.2) : Int)∧(∃ (I28 : (Int × Int × ByteArray × Int × Int)→Prop) (μ29 : (Int × Int × ByteArray × Int × Int)→Nat),I28 ((bAtN a.1 (Int.toNat (0 : Int) + (Int.toNat a.2))),(0 : Int),(subB (subB a.1 a.2 (a.1.size : Int)) (1 : Int) ((bAtN a.1 (Int.toNat (0 : Int) + (Int.toNat a.2))) + (1 : Int))),(Int.toNat (((bAtN a.1 (Int.toNat (0 : Int) + (Int.toNat a.2))) + (1 : Int)) - (1 : Int)) : Int),(0 : Int))∧∀ y30 : Int × Int × ByteArray × Int × Int,I28 y30→((y30.2.2.2.2 < y30.2.2.2.1→((0 : Int)≤y30.2.2.2.2∧y30.2.2.2.2 < (y30.2.2.1.size : Int)∧(-9223372036854775808≤(y30.2.2.2.2 + (1 : Int))∧(y30.2.2.2.2 + (1 : Int))≤9223372036854775807∧(I28 (y30.1,IntKind.u64.wrap ((BitVec.ofInt 64 (IntKind.u64.wrap (y30.2.1 * 256)) ||| BitVec.ofInt 64 (bAt y30.2.2.1 y30.2.2.2.2)).toNat : Int),y30.2.2.1,y30.2.2.2.1,(y30.2.2.2.2 + (1 : Int)))∧μ29 (y30.1,IntKind.u64.wrap ((BitVec.ofInt 64 (IntKind.u64.wrap (y30.2.1 * 256)) ||| BitVec.ofInt 64 (bAt y30.2.2.1 y30.2.2.2.2)).toNat : Int),y30.2.2.1,y30.2.2.2.1,(y30.2.2.2.2 + (1 : Int))) < μ29 y30))))∧(¬ (y30.2.2.2.2 < y30.2.2.2.1)→(-9223372036854775808≤(a.2 + y30.1)∧(a.2 + y30.1)≤9223372036854775807∧(-9223372036854775808≤((a.2 + y30.1) + (1 : Int))∧((a.2 + y30.1) + (1 : Int))≤9223372036854775807∧((y30.2.1,((a.2 + y30.1) + (1 : Int)),(0 : Int)) = takeN a))))))))))))∧(¬ ((0 : Int) < (bAtN a.1 (Int.toNat (0 : Int) + (Int.toNat a.2))))→(-9223372036854775808≤((bAtN a.1 (Int.toNat (0 : Int) + (Int.toNat a.2))) + (1 : Int))∧((bAtN a.1 (Int.toNat (0 : Int) + (Int.toNat a.2))) + (1 : Int))≤9223372036854775807∧((1 : Int)≤((bAtN a.1 (Int.toNat (0 : Int) + (Int.toNat a.2))) + (1 : Int))∧((bAtN a.1 (Int.toNat (0 : Int) + (Int.toNat a.2))) + (1 : Int))≤(Int.toNat ((a.1.size : Int) - a.2) : Int)∧(∃ (I69 : (Int × Int × ByteArray × Int × Int)→Prop) (μ70 : (Int × Int × ByteArray × Int × Int)→Nat),I69 ((bAtN a.1 (Int.toNat (0 : Int) + (Int.toNat a.2))),(0 : Int),(subB (subB a.1 a.2 (a.1.size : Int)) (1 : Int) ((bAtN a.1 (Int.toNat (0 : Int) + (Int.toNat a.2))) + (1 : Int))),(Int.toNat (((bAtN a.1 (Int.toNat (0 : Int) + (Int.toNat a.2))) + (1 : Int)) - (1 : Int)) : Int),(0 : Int))∧∀ y71 : Int × Int × ByteArray × Int × Int,I69 y71→((y71.2.2.2.2 < y71.2.2.2.1→((0 : Int)≤y71.2.2.2.2∧y71.2.2.2.2 < (y71.2.2.1.size : Int)∧(-9223372036854775808≤(y71.2.2.2.2 + (1 : Int))∧(y71.2.2.2.2 + (1 : Int))≤9223372036854775807∧(I69 (y71.1,IntKind.u64.wrap ((BitVec.ofInt 64 (IntKind.u64.wrap (y71.2.1 * 256)) ||| BitVec.ofInt 64 (bAt y71.2.2.1 y71.2.2.2.2)).toNat : Int),y71.2.2.1,y71.2.2.2.1,(y71.2.2.2.2 + (1 : Int)))∧μ70 (y71.1,IntKind.u64.wrap ((BitVec.ofInt 64 (IntKind.u64.wrap (y71.2.1 * 256)) ||| BitVec.ofInt 64 (bAt y71.2.2.1 y71.2.2.2.2)).toNat : Int),y71.2.2.1,y71.2.2.2.1,(y71.2.2.2.2 + (1 : Int))) < μ70 y71))))∧(¬ (y71.2.2.2.2 < y71.2.2.2.1)→(-9223372036854775808≤(a.2 + y71.1)∧(a.2 + y71.1)≤9223372036854775807∧(-9223372036854775808≤((a.2 + y71.1) + (1 : Int))∧((a.2 + y71.1) + (1 : Int))≤9223372036854775807∧((y71.2.1,((a.2 + y71.1) + (1 : Int)),(0 : Int)) = takeN a))))))))))))))))))))))
set_option maxRecDepth 100000 in
set_option maxHeartbeats 2000000 in
theorem f18.of (a : ByteArray × Int) (h : f18.vc a) : f18.tree a := br h Cnd.dec (fun h1 k119 => ⟨(congrArg (fun x : Int × Int × Int => x.1) k119 :),⟨(congrArg (fun x : Int × Int × Int => x.2.1) k119 :),⟨(congrArg (fun x : Int × Int × Int => x.2.2) k119 :),trivial⟩⟩⟩) (fun h2 k120 => br k120 Cnd.dec (fun h4 k117 => ⟨(congrArg (fun x : Int × Int × Int => x.1) k117 :),⟨(congrArg (fun x : Int × Int × Int => x.2.1) k117 :),⟨(congrArg (fun x : Int × Int × Int => x.2.2) k117 :),trivial⟩⟩⟩) (fun h5 k118 => chk k118.2.2 Cnd.sl ⟨k118.1,k118.2.1,(Int.le_refl _)⟩ (fun h7 k116 => br k116 Cnd.eq (fun h8 k114 => ⟨(congrArg (fun x : Int × Int × Int => x.1) k114 :),⟨(congrArg (fun x : Int × Int × Int => x.2.1) k114 :),⟨(congrArg (fun x : Int × Int × Int => x.2.2) k114 :),trivial⟩⟩⟩) (fun h9 k115 => chk k115.2 Cnd.ix ⟨(by decide),k115.1⟩ (fun h11 k113 => wrapR.i64 (u8bN _ _) (br k113 Cnd.dec (fun h13 k108 => ⟨(congrArg (fun x : Int × Int × Int => x.1) k108 :),⟨(congrArg (fun x : Int × Int × Int => x.2.1) k108 :),⟨(congrArg (fun x : Int × Int × Int => x.2.2) k108 :),trivial⟩⟩⟩) (fun h14 k109 => br k109 Cnd.dec (fun h16 k106 => ⟨(congrArg (fun x : Int × Int × Int => x.1) k106 :),⟨(congrArg (fun x : Int × Int × Int => x.2.1) k106 :),⟨(congrArg (fun x : Int × Int × Int => x.2.2) k106 :),trivial⟩⟩⟩) (fun h17 k107 => br k107 Cnd.dec (fun h19 k104 => chk k104.2 Cnd.ix ⟨(by decide),k104.1⟩ (fun h21 k65 => br k65 Cnd.eq (fun h22 k63 => ⟨(congrArg (fun x : Int × Int × Int => x.1) k63 :),⟨(congrArg (fun x : Int × Int × Int => x.2.1) k63 :),⟨(congrArg (fun x : Int × Int × Int => x.2.2) k63 :),trivial⟩⟩⟩) (fun h23 k64 => wrapK.i64 k64 (fun h60 h61 k62 => chk k62.2.2 Cnd.sl ⟨(by decide),k62.1,k62.2.1⟩ (fun h26 k59 => Exists.elim k59 (fun I28 h56_ => Exists.elim h56_ (fun μ29 h56 => ⟨I28,μ29,⟨((bAtN a.1 (Int.toNat (0 : Int) + (Int.toNat a.2))),(0 : Int),(subB (subB a.1 a.2 (a.1.size : Int)) (1 : Int) ((bAtN a.1 (Int.toNat (0 : Int) + (Int.toNat a.2))) + (1 : Int))),(Int.toNat (((bAtN a.1 (Int.toNat (0 : Int) + (Int.toNat a.2))) + (1 : Int)) - (1 : Int)) : Int),(0 : Int)),⟨rfl,⟨rfl,⟨rfl,slK (RdB.sub (RdB.sub RdB.self h7) h26) (⟨rfl,⟨rfl,h56.1⟩⟩)⟩⟩⟩⟩,fun y30 h58 => br (h56.2 y30 h58) Cnd.dec (fun h31 k54 => chk k54.2.2 Cnd.ix ⟨k54.1,k54.2.1⟩ (fun h33 k44 => wrapR.u64 (u8b _ _) (wrapK.i64 k44 (fun h38 h39 k40 => ⟨(y30.1,IntKind.u64.wrap ((BitVec.ofInt 64 (IntKind.u64.wrap (y30.2.1 * 256)) ||| BitVec.ofInt 64 (bAt y30.2.2.1 y30.2.2.2.2)).toNat : Int),y30.2.2.1,y30.2.2.2.1,(y30.2.2.2.2 + (1 : Int))),⟨rfl,⟨rfl,⟨rfl,slK RdB.self (⟨rfl,⟨rfl,k40⟩⟩)⟩⟩⟩⟩)))) (fun h32 k55 => wrapK.i64 k55 (fun h51 h52 k53 => wrapK.i64 k53 (fun h48 h49 k50 => ⟨(congrArg (fun x : Int × Int × Int => x.1) k50 :),⟨(congrArg (fun x : Int × Int × Int => x.2.1) k50 :),⟨(congrArg (fun x : Int × Int × Int => x.2.2) k50 :),trivial⟩⟩⟩)))⟩))))))) (fun h20 k105 => wrapK.i64 k105 (fun h101 h102 k103 => chk k103.2.2 Cnd.sl ⟨(by decide),k103.1,k103.2.1⟩ (fun h67 k100 => Exists.elim k100 (fun I69 h97_ => Exists.elim h97_ (fun μ70 h97 => ⟨I69,μ70,⟨((bAtN a.1 (Int.toNat (0 : Int) + (Int.toNat a.2))),(0 : Int),(subB (subB a.1 a.2 (a.1.size : Int)) (1 : Int) ((bAtN a.1 (Int.toNat (0 : Int) + (Int.toNat a.2))) + (1 : Int))),(Int.toNat (((bAtN a.1 (Int.toNat (0 : Int) + (Int.toNat a.2))) + (1 : Int)) - (1 : Int)) : Int),(0 : Int)),⟨rfl,⟨rfl,⟨rfl,slK (RdB.sub (RdB.sub RdB.self h7) h67) (⟨rfl,⟨rfl,h97.1⟩⟩)⟩⟩⟩⟩,fun y71 h99 => br (h97.2 y71 h99) Cnd.dec (fun h72 k95 => chk k95.2.2 Cnd.ix ⟨k95.1,k95.2.1⟩ (fun h74 k85 => wrapR.u64 (u8b _ _) (wrapK.i64 k85 (fun h79 h80 k81 => ⟨(y71.1,IntKind.u64.wrap ((BitVec.ofInt 64 (IntKind.u64.wrap (y71.2.1 * 256)) ||| BitVec.ofInt 64 (bAt y71.2.2.1 y71.2.2.2.2)).toNat : Int),y71.2.2.1,y71.2.2.2.1,(y71.2.2.2.2 + (1 : Int))),⟨rfl,⟨rfl,⟨rfl,slK RdB.self (⟨rfl,⟨rfl,k81⟩⟩)⟩⟩⟩⟩)))) (fun h73 k96 => wrapK.i64 k96 (fun h92 h93 k94 => wrapK.i64 k94 (fun h89 h90 k91 => ⟨(congrArg (fun x : Int × Int × Int => x.1) k91 :),⟨(congrArg (fun x : Int × Int × Int => x.2.1) k91 :),⟨(congrArg (fun x : Int × Int × Int => x.2.2) k91 :),trivial⟩⟩⟩)))⟩)))))))))))))
theorem f18.eq (a : ByteArray × Int) : (f18.af a).gives f18.env (f18.args a) (f18.blks a) (f18.res a) (f18.blks' a) = f18.tree a := by kernel_rfl
end Go.Abs

-- interregnum/interregnumref01.Take
namespace Go.Abs
open Go
def f19.args (a : ByteArray × Int) : List D := [.str a.1,.int .i64 a.2]
def f19.blks (a : ByteArray × Int) : List (List D) := []
def f19.res (a : ByteArray × Int) : List D := [.int .u64 ((takeN a).1),.int .i64 ((takeN a).2.1),.int .i64 ((takeN a).2.2)]
def f19.blks' (a : ByteArray × Int) : List (List D) := []
def f19.C : Contract := FnC f19.args f19.blks (fun a => take_pre a) f19.res f19.blks'
end Go.Abs

/- interregnum/interregnumref01.Take -/
namespace Go.Abs
open Go
set_option linter.unusedVariables false
def f19.kills (a : ByteArray × Int) : List Hint := [.tell (Int × Int × Int) (fun x => ⟨[.str a.1,.int .i64 a.2,.dead,.dead,.dead,.dead,.dead,.int .i64 x.1,.int .u64 x.2.1,.int .i64 x.2.2,.dead,.dead,.dead,.dead,.dead,.dead,.dead,.dead,.dead,.dead,.dead,.dead,.dead,.dead,.dead,.dead,.dead,.dead,.dead,.dead,.dead,.dead,.dead,.dead,.dead,.dead,.dead,.dead,.dead,.dead,.dead,.dead,.dead,.dead,.dead,.dead,.dead,.dead,.dead,.dead,.dead,.dead,.dead,.dead,.dead,.dead,.dead,.dead,.dead,.dead,.dead,.dead,.dead],[],[]⟩)]
def f19.cuts (a : ByteArray × Int) : List (Nat × Σ β : Type,β→Tm) := []
def f19.af (a : ByteArray × Int) : AF := AF.mk (.seq (.region [⟨(some 4),0,.move,[.c (.int .u64 (0))],none⟩,
 ⟨(some 5),1,.move,[.c (.int .i64 (0))],none⟩,
 ⟨(some 6),2,.move,[.c (.int .i64 (0))],none⟩])
 (.seq (.seq (.region [⟨(some 11),3,.move,[.t 1],none⟩,
 ⟨(some 12),4,(.bin .lss),[.t 11,.c (.int .i64 (0))],none⟩,
 ⟨(some 13),5,.move,[.t 12],none⟩,
 ⟨(some 14),6,.move,[.t 1],(some (13,false))⟩,
 ⟨(some 15),7,.move,[.t 0],(some (13,false))⟩,
 ⟨(some 16),8,(.len true),[.t 15],(some (13,false))⟩,
 ⟨(some 17),9,(.bin .gtr),[.t 14,.t 16],(some (13,false))⟩,
 ⟨(some 18),10,.pick,[.t 13,.c (.bool true),.t 17],none⟩])
 (.cond (.t 18) (.seq (.region [⟨(some 4),11,.move,[.c (.int .u64 (0))],none⟩,
 ⟨(some 5),12,.move,[.c (.int .i64 (0))],none⟩,
 ⟨(some 6),13,.move,[.c (.int .i64 (1))],none⟩])
 (.ret)) (.skip)))
 (.seq (.seq (.region [⟨(some 19),14,.move,[.t 1],none⟩,
 ⟨(some 20),15,.move,[.t 0],none⟩,
 ⟨(some 21),16,(.len true),[.t 20],none⟩,
 ⟨(some 22),17,(.bin .eql),[.t 19,.t 21],none⟩])
 (.cond (.t 22) (.seq (.region [⟨(some 4),18,.move,[.c (.int .u64 (0))],none⟩,
 ⟨(some 5),19,.move,[.c (.int .i64 (0))],none⟩,
 ⟨(some 6),20,.move,[.c (.int .i64 (2))],none⟩])
 (.ret)) (.skip)))
 (.seq (.region [⟨(some 23),21,.move,[.t 0],none⟩,
 ⟨(some 24),22,.move,[.t 1],none⟩,
 ⟨(some 25),23,.indexStr,[.t 23,.t 24],none⟩,
 ⟨(some 26),24,(.conv (.int .i64)),[.t 25],none⟩,
 ⟨(some 7),25,.move,[.t 26],none⟩])
 (.seq (.seq (.region [⟨(some 27),26,.move,[.t 7],none⟩,
 ⟨(some 28),27,(.bin .gtr),[.t 27,.c (.int .i64 (8))],none⟩])
 (.cond (.t 28) (.seq (.region [⟨(some 4),28,.move,[.c (.int .u64 (0))],none⟩,
 ⟨(some 5),29,.move,[.c (.int .i64 (0))],none⟩,
 ⟨(some 6),30,.move,[.c (.int .i64 (3))],none⟩])
 (.ret)) (.skip)))
 (.seq (.seq (.region [⟨(some 29),31,.move,[.t 0],none⟩,
 ⟨(some 30),32,(.len true),[.t 29],none⟩,
 ⟨(some 31),33,.move,[.t 1],none⟩,
 ⟨(some 32),34,(.bin .sub),[.t 30,.t 31],none⟩,
 ⟨(some 33),35,(.bin .sub),[.t 32,.c (.int .i64 (1))],none⟩,
 ⟨(some 34),36,.move,[.t 7],none⟩,
 ⟨(some 35),37,(.bin .lss),[.t 33,.t 34],none⟩])
 (.cond (.t 35) (.seq (.region [⟨(some 4),38,.move,[.c (.int .u64 (0))],none⟩,
 ⟨(some 5),39,.move,[.c (.int .i64 (0))],none⟩,
 ⟨(some 6),40,.move,[.c (.int .i64 (2))],none⟩])
 (.ret)) (.skip)))
 (.seq (.region [⟨(some 8),41,.move,[.c (.int .u64 (0))],none⟩])
 (.seq (.seq (.region [⟨(some 9),42,.move,[.c (.int .i64 (0))],none⟩])
 (.block 0 (.loopT (Int × Int × Int) (fun x => ⟨[.str a.1,.int .i64 a.2,.dead,.dead,.dead,.dead,.dead,.int .i64 x.1,.int .u64 x.2.1,.int .i64 x.2.2,.dead,.dead,.dead,.dead,.dead,.dead,.dead,.dead,.dead,.dead,.dead,.dead,.dead,.dead,.dead,.dead,.dead,.dead,.dead,.dead,.dead,.dead,.dead,.dead,.dead,.dead,.dead,.dead,.dead,.dead,.dead,.dead,.dead,.dead,.dead,.dead,.dead,.dead,.dead,.dead,.dead,.dead,.dead,.dead,.dead,.dead,.dead,.dead,.dead,.dead,.dead,.dead,.dead],[],[]⟩) 43 71 (.seq (.seq (.region [⟨(some 36),43,.move,[.t 9],none⟩,
 ⟨(some 37),44,.move,[.t 7],none⟩,
 ⟨(some 38),45,(.bin .lss),[.t 36,.t 37],none⟩])
 (.cond (.t 38) (.skip) (.exit 0)))
 (.seq (.block 1 (.seq (.region [⟨(some 41),46,.move,[.t 0],none⟩,
 ⟨(some 42),47,.move,[.t 1],none⟩,
 ⟨(some 43),48,(.bin .add),[.t 42,.c (.int .i64 (1))],none⟩,
 ⟨(some 44),49,.move,[.t 9],none⟩,
 ⟨(some 45),50,(.bin .add),[.t 43,.t 44],none⟩,
 ⟨(some 46),51,.indexStr,[.t 41,.t 45],none⟩,
 ⟨(some 10),52,.move,[.t 46],none⟩])
 (.seq (.seq (.region [⟨(some 47),53,.move,[.t 9],none⟩,
 ⟨(some 48),54,(.bin .eql),[.t 47,.c (.int .i64 (0))],none⟩,
 ⟨(some 49),55,.move,[.t 48],none⟩,
 ⟨(some 50),56,.move,[.t 10],(some (49,true))⟩,
 ⟨(some 51),57,(.bin .eql),[.t 50,.c (.int .u8 (0))],(some (49,true))⟩,
 ⟨(some 52),58,.pick,[.t 49,.t 51,.c (.bool false)],none⟩])
 (.cond (.t 52) (.seq (.region [⟨(some 4),59,.move,[.c (.int .u64 (0))],none⟩,
 ⟨(some 5),60,.move,[.c (.int .i64 (0))],none⟩,
 ⟨(some 6),61,.move,[.c (.int .i64 (3))],none⟩])
 (.ret)) (.skip)))
 (.region [⟨(some 53),62,.move,[.t 8],none⟩,
 ⟨(some 54),63,(.bin .mul),[.t 53,.c (.int .u64 (256))],none⟩,
 ⟨(some 55),64,.move,[.t 10],none⟩,
 ⟨(some 56),65,(.conv (.int .u64)),[.t 55],none⟩,
 ⟨(some 57),66,(.bin .add),[.t 54,.t 56],none⟩,
 ⟨(some 8),67,.move,[.t 57],none⟩]))))
 (.region [⟨(some 39),68,.move,[.t 9],none⟩,
 ⟨(some 40),69,(.bin .add),[.t 39,.c (.int .i64 (1))],none⟩,
 ⟨(some 9),70,.move,[.t 40],none⟩]))))))
 (.seq (.region [⟨(some 58),71,.move,[.t 8],none⟩,
 ⟨(some 59),72,.move,[.t 1],none⟩,
 ⟨(some 60),73,(.bin .add),[.t 59,.c (.int .i64 (1))],none⟩,
 ⟨(some 61),74,.move,[.t 7],none⟩,
 ⟨(some 62),75,(.bin .add),[.t 60,.t 61],none⟩,
 ⟨(some 4),76,.move,[.t 58],none⟩,
 ⟨(some 5),77,.move,[.t 62],none⟩,
 ⟨(some 6),78,.move,[.c (.int .i64 (0))],none⟩])
 (.ret))))))))))
 [.tmp 4,.tmp 5,.tmp 6] 0 61
def f19.env : Env := []
def f19.tree (a : ByteArray × Int) : Prop := Br (decide (a.2 < (0 : Int))) (((0 : Int) = ((takeN a).1))∧((0 : Int) = ((takeN a).2.1))∧((1 : Int) = ((takeN a).2.2))∧True) (Br (decide ((a.1.size : Int) < a.2)) (((0 : Int) = ((takeN a).1))∧((0 : Int) = ((takeN a).2.1))∧((1 : Int) = ((takeN a).2.2))∧True) (Br (a.2 == (a.1.size : Int)) (((0 : Int) = ((takeN a).1))∧((0 : Int) = ((takeN a).2.1))∧((2 : Int) = ((takeN a).2.2))∧True) (Br (decide ((0 : Int)≤a.2) && decide (a.2 < (a.1.size : Int))) (Let (IntKind.i64.wrap (bAt a.1 a.2)) (fun v11 : Int => Br (decide ((8 : Int) < v11)) (((0 : Int) = ((takeN a).1))∧((0 : Int) = ((takeN a).2.1))∧((3 : Int) = ((takeN a).2.2))∧True) (Let (IntKind.i64.wrap ((a.1.size : Int) - a.2)) (fun v15 : Int => Let (IntKind.i64.wrap (v15 - (1 : Int))) (fun v16 : Int => Br (decide (v16 < v11)) (((0 : Int) = ((takeN a).1))∧((0 : Int) = ((takeN a).2.1))∧((2 : Int) = ((takeN a).2.2))∧True) (∃ (I21 : (Int × Int × Int)→Prop) (μ22 : (Int × Int × Int)→Nat),(∃ x20 : Int × Int × Int,(a.1 = a.1)∧(a.2 = a.2)∧(v11 = x20.1)∧((0 : Int) = x20.2.1)∧((0 : Int) = x20.2.2)∧I21 x20)∧∀ y23 : Int × Int × Int,I21 y23→(Br (decide (y23.2.2 < y23.1)) (Let (IntKind.i64.wrap (a.2 + (1 : Int))) (fun v26 : Int => Let (IntKind.i64.wrap (v26 + y23.2.2)) (fun v27 : Int => Br (decide ((0 : Int)≤v27) && decide (v27 < (a.1.size : Int))) (Br (y23.2.2 == (0 : Int)) (Br ((bAt a.1 v27) == (0 : Int)) (((0 : Int) = ((takeN a).1))∧((0 : Int) = ((takeN a).2.1))∧((3 : Int) = ((takeN a).2.2))∧True) (Let (IntKind.u64.wrap (y23.2.1 * (256 : Int))) (fun v34 : Int => Let (IntKind.u64.wrap (bAt a.1 v27)) (fun v35 : Int => Let (IntKind.u64.wrap (v34 + v35)) (fun v36 : Int => Let (IntKind.i64.wrap (y23.2.2 + (1 : Int))) (fun v37 : Int => ∃ x38 : Int × Int × Int,(a.1 = a.1)∧(a.2 = a.2)∧(y23.1 = x38.1)∧(v36 = x38.2.1)∧(v37 = x38.2.2)∧I21 x38∧μ22 x38 < μ22 y23)))))) (Let (IntKind.u64.wrap (y23.2.1 * (256 : Int))) (fun v54 : Int => Let (IntKind.u64.wrap (bAt a.1 v27)) (fun v55 : Int => Let (IntKind.u64.wrap (v54 + v55)) (fun v56 : Int => Let (IntKind.i64.wrap (y23.2.2 + (1 : Int))) (fun v57 : Int => ∃ x58 : Int × Int × Int,(a.1 = a.1)∧(a.2 = a.2)∧(y23.1 = x58.1)∧(v56 = x58.2.1)∧(v57 = x58.2.2)∧I21 x58∧μ22 x58 < μ22 y23)))))) False))) (Let (IntKind.i64.wrap (a.2 + (1 : Int))) (fun v81 : Int => Let (IntKind.i64.wrap (v81 + y23.1)) (fun v82 : Int => (y23.2.1 = ((takeN a).1))∧(v82 = ((takeN a).2.1))∧((0 : Int) = ((takeN a).2.2))∧True)))))))))) False)))
def f19.vc (a : ByteArray × Int) : Prop := ((a.2 < (0 : Int)→(((0 : Int),(0 : Int),(1 : Int)) = takeN a))∧(¬ (a.2 < (0 : Int))→(((a.1.size : Int) < a.2→(((0 : Int),(0 : Int),(1 : Int)) = takeN a))∧(¬ ((a.1.size : Int) < a.2)→((a.2 = (a.1.size : Int)→(((0 : Int),(0 : Int),(2 : Int)) = takeN a))∧(¬ (a.2 = (a.1.size : Int))→((0 : Int)≤a.2∧a.2 < (a.1.size : Int)∧(((8 : Int) < (bAt a.1 a.2)→(((0 : Int),(0 : Int),(3 : Int)) = takeN a))∧(¬ ((8 : Int) < (bAt a.1 a.2))→(-9223372036854775808≤((a.1.size : Int) - a.2)∧((a.1.size : Int) - a.2)≤9223372036854775807∧(-9223372036854775808≤(((a.1.size : Int) - a.2) - (1 : Int))∧(((a.1.size : Int) - a.2) - (1 : Int))≤9223372036854775807∧(((((a.1.size : Int) - a.2) - (1 : Int)) < (bAt a.1 a.2)→(((0 : Int),(0 : Int),(2 : Int)) = takeN a))∧(¬ ((((a.1.size : Int) - a.2) - (1 : Int)) < (bAt a.1 a.2))→(∃ (I21 : (Int × Int × Int)→Prop) (μ22 : (Int × Int × Int)→Nat),I21 ((bAt a.1 a.2),(0 : Int),(0 : Int))∧∀ y23 : Int × Int × Int,I21 y23→((y23.2.2 < y23.1→(-9223372036854775808≤(a.2 + (1 : Int))∧(a.2 + (1 : Int))≤9223372036854775807∧(-9223372036854775808≤((a.2 + (1 : Int)) + y23.2.2)∧((a.2 + (1 : Int)) + y23.2.2)≤9223372036854775807∧((0 : Int)≤((a.2 + (1 : Int)) + y23.2.2)∧((a.2 + (1 : Int)) + y23.2.2) < (a.1.size : Int)∧((y23.2.2 = (0 : Int)→(((bAt a.1 ((a.2 + (1 : Int)) + y23.2.2)) = (0 : Int)→(((0 : Int),(0 : Int),(3 : Int)) = takeN a))∧(¬ ((bAt a.1 ((a.2 + (1 : Int)) + y23.2.2)) = (0 : Int))→(0≤(y23.2.1 * (256 : Int))∧(y23.2.1 * (256 : Int))≤18446744073709551615∧(0≤((y23.2.1 * (256 : Int)) + (bAt a.1 ((a.2 + (1 : Int)) + y23.2.2)))∧((y23.2.1 * (256 : Int)) + (bAt a.1 ((a.2 + (1 : Int)) + y23.2.2)))≤18446744073709551615∧(-9223372036854775808≤(y23.2.2 + (1 : Int))∧(y23.2.2 + (1 : Int))≤9223372036854775807∧(I21 (y23.1,((y23.2.1 * (256 : Int)) + (bAt a.1 ((a.2 + (1 : Int)) + y23.2.2))),(y23.2.2 + (1 : Int)))∧μ22 (y23.1,((y23.2.1 * (256 : Int)) + (bAt a.1 ((a.2 + (1 : Int)) + y23.2.2))),(y23.2.2 + (1 : Int))) < μ22 y23)))))))∧(¬ (y23.2.2 = (0 : Int))→(0≤(y23.2.1 * (256 : Int))∧(y23.2.1 * (256 : Int))≤18446744073709551615∧(0≤((y23.2.1 * (256 : Int)) + (bAt a.1 ((a.2 + (1 : Int)) + y23.2.2)))∧((y23.2.1 * (256 : Int)) + (bAt a.1 ((a.2 + (1 : Int)) + y23.2.2)))≤18446744073709551615∧(-9223372036854775808≤(y23.2.2 + (1 : Int))∧(y23.2.2 + (1 : Int))≤9223372036854775807∧(I21 (y23.1,((y23.2.1 * (256 : Int)) + (bAt a.1 ((a.2 + (1 : Int)) + y23.2.2))),(y23.2.2 + (1 : Int)))∧μ22 (y23.1,((y23.2.1 * (256 : Int)) + (bAt a.1 ((a.2 + (1 : Int)) + y23.2.2))),(y23.2.2 + (1 : Int))) < μ22 y23))))))))))∧(¬ (y23.2.2 < y23.1)→(-9223372036854775808≤(a.2 + (1 : Int))∧(a.2 + (1 : Int))≤9223372036854775807∧(-9223372036854775808≤((a.2 + (1 : Int)) + y23.1)∧((a.2 + (1 : Int)) + y23.1)≤9223372036854775807∧((y23.2.1,((a.2 + (1 : Int)) + y23.1),(0 : Int)) = takeN a)))))))))))))))))))
set_option maxRecDepth 100000 in
set_option maxHeartbeats 2000000 in
theorem f19.of (a : ByteArray × Int) (h : f19.vc a) : f19.tree a := br h Cnd.dec (fun h1 k113 => ⟨(congrArg (fun x : Int × Int × Int => x.1) k113 :),⟨(congrArg (fun x : Int × Int × Int => x.2.1) k113 :),⟨(congrArg (fun x : Int × Int × Int => x.2.2) k113 :),trivial⟩⟩⟩) (fun h2 k114 => br k114 Cnd.dec (fun h4 k111 => ⟨(congrArg (fun x : Int × Int × Int => x.1) k111 :),⟨(congrArg (fun x : Int × Int × Int => x.2.1) k111 :),⟨(congrArg (fun x : Int × Int × Int => x.2.2) k111 :),trivial⟩⟩⟩) (fun h5 k112 => br k112 Cnd.eq (fun h7 k109 => ⟨(congrArg (fun x : Int × Int × Int => x.1) k109 :),⟨(congrArg (fun x : Int × Int × Int => x.2.1) k109 :),⟨(congrArg (fun x : Int × Int × Int => x.2.2) k109 :),trivial⟩⟩⟩) (fun h8 k110 => chk k110.2.2 Cnd.ix ⟨k110.1,k110.2.1⟩ (fun h10 k108 => wrapR.i64 (u8b _ _) (br k108 Cnd.dec (fun h12 k103 => ⟨(congrArg (fun x : Int × Int × Int => x.1) k103 :),⟨(congrArg (fun x : Int × Int × Int => x.2.1) k103 :),⟨(congrArg (fun x : Int × Int × Int => x.2.2) k103 :),trivial⟩⟩⟩) (fun h13 k104 => wrapK.i64 k104 (fun h100 h101 k102 => wrapK.i64 k102 (fun h97 h98 k99 => br k99 Cnd.dec (fun h17 k95 => ⟨(congrArg (fun x : Int × Int × Int => x.1) k95 :),⟨(congrArg (fun x : Int × Int × Int => x.2.1) k95 :),⟨(congrArg (fun x : Int × Int × Int => x.2.2) k95 :),trivial⟩⟩⟩) (fun h18 k96 => Exists.elim k96 (fun I21 h92_ => Exists.elim h92_ (fun μ22 h92 => ⟨I21,μ22,⟨((bAt a.1 a.2),(0 : Int),(0 : Int)),⟨rfl,⟨rfl,⟨rfl,⟨rfl,⟨rfl,h92.1⟩⟩⟩⟩⟩⟩,fun y23 h94 => br (h92.2 y23 h94) Cnd.dec (fun h24 k90 => wrapK.i64 k90 (fun h78 h79 k80 => wrapK.i64 k80 (fun h75 h76 k77 => chk k77.2.2 Cnd.ix ⟨k77.1,k77.2.1⟩ (fun h28 k74 => br k74 Cnd.eq (fun h29 k72 => br k72 Cnd.eq (fun h31 k52 => ⟨(congrArg (fun x : Int × Int × Int => x.1) k52 :),⟨(congrArg (fun x : Int × Int × Int => x.2.1) k52 :),⟨(congrArg (fun x : Int × Int × Int => x.2.2) k52 :),trivial⟩⟩⟩) (fun h32 k53 => wrapK.u64 k53 (fun h49 h50 k51 => wrapR.u64 (u8b _ _) (wrapK.u64 k51 (fun h43 h44 k45 => wrapK.i64 k45 (fun h40 h41 k42 => ⟨(y23.1,((y23.2.1 * (256 : Int)) + (bAt a.1 ((a.2 + (1 : Int)) + y23.2.2))),(y23.2.2 + (1 : Int))),⟨rfl,⟨rfl,⟨rfl,⟨rfl,⟨rfl,k42⟩⟩⟩⟩⟩⟩)))))) (fun h30 k73 => wrapK.u64 k73 (fun h69 h70 k71 => wrapR.u64 (u8b _ _) (wrapK.u64 k71 (fun h63 h64 k65 => wrapK.i64 k65 (fun h60 h61 k62 => ⟨(y23.1,((y23.2.1 * (256 : Int)) + (bAt a.1 ((a.2 + (1 : Int)) + y23.2.2))),(y23.2.2 + (1 : Int))),⟨rfl,⟨rfl,⟨rfl,⟨rfl,⟨rfl,k62⟩⟩⟩⟩⟩⟩))))))))) (fun h25 k91 => wrapK.i64 k91 (fun h87 h88 k89 => wrapK.i64 k89 (fun h84 h85 k86 => ⟨(congrArg (fun x : Int × Int × Int => x.1) k86 :),⟨(congrArg (fun x : Int × Int × Int => x.2.1) k86 :),⟨(congrArg (fun x : Int × Int × Int => x.2.2) k86 :),trivial⟩⟩⟩)))⟩)))))))))))
theorem f19.eq (a : ByteArray × Int) : (f19.af a).gives f19.env (f19.args a) (f19.blks a) (f19.res a) (f19.blks' a) = f19.tree a := by kernel_rfl
end Go.Abs

-- interregnum/pack.TakeText
namespace Go.Abs
open Go
def f20.args (a : ByteArray × Int × Int) : List D := [.slice .ro 1 a.1.size (gstr a.1),.int .i64 a.2.1,.int .i64 a.2.2]
def f20.blks (a : ByteArray × Int × Int) : List (List D) := []
def f20.res (a : ByteArray × Int × Int) : List D := [.str ((takeText a).1),.int .i64 ((takeText a).2.1),.int .i64 ((takeText a).2.2)]
def f20.blks' (a : ByteArray × Int × Int) : List (List D) := []
def f20.C : Contract := FnC f20.args f20.blks (fun a => takeText_pre a) f20.res f20.blks'
end Go.Abs

/- interregnum/pack.TakeText -/
namespace Go.Abs
open Go
set_option linter.unusedVariables false
def f20.kills (a : ByteArray × Int × Int) : List Hint := []
def f20.cuts (a : ByteArray × Int × Int) : List (Nat × Σ β : Type,β→Tm) := []
def f20.af (a : ByteArray × Int × Int) : AF := AF.mk (.seq (.region [⟨(some 6),0,.move,[.c (.str ByteArray.empty)],none⟩,
 ⟨(some 7),1,.move,[.c (.int .i64 (0))],none⟩,
 ⟨(some 8),2,.move,[.c (.int .i64 (0))],none⟩])
 (.seq (.seq (.region [⟨(some 12),3,.move,[.t 2],none⟩,
 ⟨(some 13),4,(.bin .lss),[.t 12,.c (.int .i64 (0))],none⟩])
 (.cond (.t 13) (.seq (.region [⟨(some 6),5,.move,[.c (.str ByteArray.empty)],none⟩,
 ⟨(some 7),6,.move,[.c (.int .i64 (0))],none⟩,
 ⟨(some 8),7,.move,[.c (.int .i64 (1))],none⟩])
 (.ret)) (.skip)))
 (.seq (.region [⟨(some 15),8,.move,[.t 0],none⟩,
 ⟨(some 16),9,.move,[.t 1],none⟩,
 ⟨(some 17),10,(.call false 18),[.t 15,.t 16],none⟩,
 ⟨(some 14),14,.move,[.t 17],none⟩,
 ⟨(some 18),15,(.extract 0),[.t 14],none⟩,
 ⟨(some 19),16,(.extract 1),[.t 14],none⟩,
 ⟨(some 20),17,(.extract 2),[.t 14],none⟩,
 ⟨(some 9),18,.move,[.t 18],none⟩,
 ⟨(some 10),19,.move,[.t 19],none⟩,
 ⟨(some 11),20,.move,[.t 20],none⟩])
 (.seq (.block 0 (.seq (.region [⟨(some 22),21,.move,[.t 11],none⟩,
 ⟨(some 23),22,(.bin .neq),[.t 22,.c (.int .i64 (0))],none⟩,
 ⟨(some 21),23,.move,[.t 23],none⟩])
 (.cond (.t 21) (.seq (.region [⟨(some 24),24,.move,[.t 11],none⟩,
 ⟨(some 6),25,.move,[.c (.str ByteArray.empty)],none⟩,
 ⟨(some 7),26,.move,[.c (.int .i64 (0))],none⟩,
 ⟨(some 8),27,.move,[.t 24],none⟩])
 (.ret)) (.seq (.region [⟨(some 26),28,.move,[.t 9],none⟩,
 ⟨(some 27),29,.move,[.t 2],none⟩,
 ⟨(some 28),30,(.conv (.int .u64)),[.t 27],none⟩,
 ⟨(some 29),31,(.bin .gtr),[.t 26,.t 28],none⟩,
 ⟨(some 25),32,.move,[.t 29],none⟩])
 (.cond (.t 25) (.seq (.region [⟨(some 6),33,.move,[.c (.str ByteArray.empty)],none⟩,
 ⟨(some 7),34,.move,[.c (.int .i64 (0))],none⟩,
 ⟨(some 8),35,.move,[.c (.int .i64 (4))],none⟩])
 (.ret)) (.seq (.region [⟨(some 31),36,.move,[.t 9],none⟩,
 ⟨(some 32),37,.move,[.t 0],none⟩,
 ⟨(some 33),38,(.len false),[.t 32],none⟩,
 ⟨(some 34),39,.move,[.t 10],none⟩,
 ⟨(some 35),40,(.bin .sub),[.t 33,.t 34],none⟩,
 ⟨(some 36),41,(.conv (.int .u64)),[.t 35],none⟩,
 ⟨(some 37),42,(.bin .gtr),[.t 31,.t 36],none⟩,
 ⟨(some 30),43,.move,[.t 37],none⟩])
 (.cond (.t 30) (.seq (.region [⟨(some 6),44,.move,[.c (.str ByteArray.empty)],none⟩,
 ⟨(some 7),45,.move,[.c (.int .i64 (0))],none⟩,
 ⟨(some 8),46,.move,[.c (.int .i64 (2))],none⟩])
 (.ret)) (.skip))))))))
 (.seq (.region [⟨(some 38),47,.move,[.t 0],none⟩,
 ⟨(some 39),48,.move,[.t 10],none⟩,
 ⟨(some 40),49,.move,[.t 10],none⟩,
 ⟨(some 41),50,.move,[.t 9],none⟩,
 ⟨(some 42),51,(.conv (.int .i64)),[.t 41],none⟩,
 ⟨(some 43),52,(.bin .add),[.t 40,.t 42],none⟩,
 ⟨(some 44),53,(.sliceSl 1 true true false),[.t 38,.t 39,.t 43],none⟩,
 ⟨(some 45),54,(.conv .b2s),[.t 44],none⟩,
 ⟨(some 46),55,.move,[.t 10],none⟩,
 ⟨(some 47),56,.move,[.t 9],none⟩,
 ⟨(some 48),57,(.conv (.int .i64)),[.t 47],none⟩,
 ⟨(some 49),58,(.bin .add),[.t 46,.t 48],none⟩,
 ⟨(some 6),59,.move,[.t 45],none⟩,
 ⟨(some 7),60,.move,[.t 49],none⟩,
 ⟨(some 8),61,.move,[.c (.int .i64 (0))],none⟩])
 (.ret))))))
 [.tmp 6,.tmp 7,.tmp 8] 0 47
def f20.env : Env := [(18,f18.C)]
def f20.tree (a : ByteArray × Int × Int) : Prop := Br (decide (a.2.2 < (0 : Int))) ((ByteArray.empty = ((takeText a).1))∧((0 : Int) = ((takeText a).2.1))∧((1 : Int) = ((takeText a).2.2))∧True) (∃ c4 : ByteArray × Int,(a.1.size = c4.1.size)∧(∀ i,i < c4.1.size→DEqs ((gstr a.1) i) ((gstr c4.1) i))∧(a.2.1 = c4.2)∧(take_pre c4)∧Br (((takeN c4).2.2) != (0 : Int)) ((ByteArray.empty = ((takeText a).1))∧((0 : Int) = ((takeText a).2.1))∧(((takeN c4).2.2) = ((takeText a).2.2))∧True) (Let (IntKind.u64.wrap a.2.2) (fun v8 : Int => Br (decide (v8 < ((takeN c4).1))) ((ByteArray.empty = ((takeText a).1))∧((0 : Int) = ((takeText a).2.1))∧((4 : Int) = ((takeText a).2.2))∧True) (Let (IntKind.i64.wrap ((a.1.size : Int) - ((takeN c4).2.1))) (fun v12 : Int => Let (IntKind.u64.wrap v12) (fun v13 : Int => Br (decide (v13 < ((takeN c4).1))) ((ByteArray.empty = ((takeText a).1))∧((0 : Int) = ((takeText a).2.1))∧((2 : Int) = ((takeText a).2.2))∧True) (Let (IntKind.i64.wrap ((takeN c4).1)) (fun v17 : Int => Let (IntKind.i64.wrap (((takeN c4).2.1) + v17)) (fun v18 : Int => Br (decide ((0 : Int)≤((takeN c4).2.1)) && decide (((takeN c4).2.1)≤v18) && decide (v18≤(a.1.size : Int)) && (v18 == v18)) (Bytes (Int.toNat (v18 - ((takeN c4).2.1))) (gsub (gstr a.1) (Int.toNat ((takeN c4).2.1)))∧Let (textOf (Int.toNat (v18 - ((takeN c4).2.1))) (gsub (gstr a.1) (Int.toNat ((takeN c4).2.1)))) (fun v20 : ByteArray => Let (IntKind.i64.wrap ((takeN c4).1)) (fun v21 : Int => Let (IntKind.i64.wrap (((takeN c4).2.1) + v21)) (fun v22 : Int => (v20 = ((takeText a).1))∧(v22 = ((takeText a).2.1))∧((0 : Int) = ((takeText a).2.2))∧True)))) False)))))))))
def f20.vc (a : ByteArray × Int × Int) : Prop := ((a.2.2 < (0 : Int)→((ByteArray.empty,(0 : Int),(1 : Int)) = takeText a))∧(¬ (a.2.2 < (0 : Int))→(take_pre (a.1,a.2.1)∧((¬ ((takeN (a.1,a.2.1)).2.2) = (0 : Int)→((ByteArray.empty,(0 : Int),(takeN (a.1,a.2.1)).2.2) = takeText a))∧(¬ (¬ ((takeN (a.1,a.2.1)).2.2) = (0 : Int))→(0≤a.2.2∧a.2.2≤18446744073709551615∧(((a.2.2) < ((takeN (a.1,a.2.1)).1)→((ByteArray.empty,(0 : Int),(4 : Int)) = takeText a))∧(¬ ((a.2.2) < ((takeN (a.1,a.2.1)).1))→(-9223372036854775808≤((a.1.size : Int) - ((takeN (a.1,a.2.1)).2.1))∧((a.1.size : Int) - ((takeN (a.1,a.2.1)).2.1))≤9223372036854775807∧(0≤((a.1.size : Int) - ((takeN (a.1,a.2.1)).2.1))∧((a.1.size : Int) - ((takeN (a.1,a.2.1)).2.1))≤18446744073709551615∧((((a.1.size : Int) - ((takeN (a.1,a.2.1)).2.1)) < ((takeN (a.1,a.2.1)).1)→((ByteArray.empty,(0 : Int),(2 : Int)) = takeText a))∧(¬ (((a.1.size : Int) - ((takeN (a.1,a.2.1)).2.1)) < ((takeN (a.1,a.2.1)).1))→(-9223372036854775808≤((takeN (a.1,a.2.1)).1)∧((takeN (a.1,a.2.1)).1)≤9223372036854775807∧(-9223372036854775808≤(((takeN (a.1,a.2.1)).2.1) + ((takeN (a.1,a.2.1)).1))∧(((takeN (a.1,a.2.1)).2.1) + ((takeN (a.1,a.2.1)).1))≤9223372036854775807∧((0 : Int)≤((takeN (a.1,a.2.1)).2.1)∧((takeN (a.1,a.2.1)).2.1)≤(((takeN (a.1,a.2.1)).2.1) + ((takeN (a.1,a.2.1)).1))∧(((takeN (a.1,a.2.1)).2.1) + ((takeN (a.1,a.2.1)).1))≤(a.1.size : Int)∧(-9223372036854775808≤((takeN (a.1,a.2.1)).1)∧((takeN (a.1,a.2.1)).1)≤9223372036854775807∧(-9223372036854775808≤(((takeN (a.1,a.2.1)).2.1) + ((takeN (a.1,a.2.1)).1))∧(((takeN (a.1,a.2.1)).2.1) + ((takeN (a.1,a.2.1)).1))≤9223372036854775807∧(((subB a.1 ((takeN (a.1,a.2.1)).2.1) (((takeN (a.1,a.2.1)).2.1) + ((takeN (a.1,a.2.1)).1))),(((takeN (a.1,a.2.1)).2.1) + ((takeN (a.1,a.2.1)).1)),(0 : Int)) = takeText a))))))))))))))))))
set_option maxRecDepth 100000 in
set_option maxHeartbeats 2000000 in
theorem f20.of (a : ByteArray × Int × Int) (h : f20.vc a) : f20.tree a := br h Cnd.dec (fun h1 k53 => ⟨(congrArg (fun x : ByteArray × Int × Int => x.1) k53 :),⟨(congrArg (fun x : ByteArray × Int × Int => x.2.1) k53 :),⟨(congrArg (fun x : ByteArray × Int × Int => x.2.2) k53 :),trivial⟩⟩⟩) (fun h2 k54 => ⟨(a.1,a.2.1),slK RdB.self (⟨rfl,⟨k54.1,br k54.2 Cnd.ne (fun h5 k50 => ⟨(congrArg (fun x : ByteArray × Int × Int => x.1) k50 :),⟨(congrArg (fun x : ByteArray × Int × Int => x.2.1) k50 :),⟨(congrArg (fun x : ByteArray × Int × Int => x.2.2) k50 :),trivial⟩⟩⟩) (fun h6 k51 => wrapK.u64 k51 (fun h47 h48 k49 => br k49 Cnd.dec (fun h9 k45 => ⟨(congrArg (fun x : ByteArray × Int × Int => x.1) k45 :),⟨(congrArg (fun x : ByteArray × Int × Int => x.2.1) k45 :),⟨(congrArg (fun x : ByteArray × Int × Int => x.2.2) k45 :),trivial⟩⟩⟩) (fun h10 k46 => wrapK.i64 k46 (fun h42 h43 k44 => wrapK.u64 k44 (fun h39 h40 k41 => br k41 Cnd.dec (fun h14 k37 => ⟨(congrArg (fun x : ByteArray × Int × Int => x.1) k37 :),⟨(congrArg (fun x : ByteArray × Int × Int => x.2.1) k37 :),⟨(congrArg (fun x : ByteArray × Int × Int => x.2.2) k37 :),trivial⟩⟩⟩) (fun h15 k38 => wrapK.i64 k38 (fun h34 h35 k36 => wrapK.i64 k36 (fun h31 h32 k33 => chk k33.2.2.2 Cnd.sl ⟨k33.1,k33.2.1,k33.2.2.1⟩ (fun h19 k30 => b2s k30 (RdB.sub RdB.self h19) (fun h => wrapK.i64 h (fun h27 h28 k29 => wrapK.i64 k29 (fun h24 h25 k26 => ⟨(congrArg (fun x : ByteArray × Int × Int => x.1) k26 :),⟨(congrArg (fun x : ByteArray × Int × Int => x.2.1) k26 :),⟨(congrArg (fun x : ByteArray × Int × Int => x.2.2) k26 :),trivial⟩⟩⟩))))))))))))⟩⟩)⟩)
theorem f20.eq (a : ByteArray × Int × Int) : (f20.af a).gives f20.env (f20.args a) (f20.blks a) (f20.res a) (f20.blks' a) = f20.tree a := by kernel_rfl
end Go.Abs

-- interregnum/interregnumref01.TakeText
namespace Go.Abs
open Go
def f21.args (a : ByteArray × Int × Int) : List D := [.str a.1,.int .i64 a.2.1,.int .i64 a.2.2]
def f21.blks (a : ByteArray × Int × Int) : List (List D) := []
def f21.res (a : ByteArray × Int × Int) : List D := [.str ((takeText a).1),.int .i64 ((takeText a).2.1),.int .i64 ((takeText a).2.2)]
def f21.blks' (a : ByteArray × Int × Int) : List (List D) := []
def f21.C : Contract := FnC f21.args f21.blks (fun a => takeText_pre a) f21.res f21.blks'
end Go.Abs

/- interregnum/interregnumref01.TakeText -/
namespace Go.Abs
open Go
set_option linter.unusedVariables false
def f21.kills (a : ByteArray × Int × Int) : List Hint := []
def f21.cuts (a : ByteArray × Int × Int) : List (Nat × Σ β : Type,β→Tm) := []
def f21.af (a : ByteArray × Int × Int) : AF := AF.mk (.seq (.region [⟨(some 6),0,.move,[.c (.str ByteArray.empty)],none⟩,
 ⟨(some 7),1,.move,[.c (.int .i64 (0))],none⟩,
 ⟨(some 8),2,.move,[.c (.int .i64 (0))],none⟩])
 (.seq (.seq (.region [⟨(some 12),3,.move,[.t 2],none⟩,
 ⟨(some 13),4,(.bin .lss),[.t 12,.c (.int .i64 (0))],none⟩])
 (.cond (.t 13) (.seq (.region [⟨(some 6),5,.move,[.c (.str ByteArray.empty)],none⟩,
 ⟨(some 7),6,.move,[.c (.int .i64 (0))],none⟩,
 ⟨(some 8),7,.move,[.c (.int .i64 (1))],none⟩])
 (.ret)) (.skip)))
 (.seq (.region [⟨(some 15),8,.move,[.t 0],none⟩,
 ⟨(some 16),9,.move,[.t 1],none⟩,
 ⟨(some 17),10,(.call false 19),[.t 15,.t 16],none⟩,
 ⟨(some 14),14,.move,[.t 17],none⟩,
 ⟨(some 18),15,(.extract 0),[.t 14],none⟩,
 ⟨(some 19),16,(.extract 1),[.t 14],none⟩,
 ⟨(some 20),17,(.extract 2),[.t 14],none⟩,
 ⟨(some 9),18,.move,[.t 18],none⟩,
 ⟨(some 10),19,.move,[.t 19],none⟩,
 ⟨(some 11),20,.move,[.t 20],none⟩])
 (.seq (.seq (.region [⟨(some 21),21,.move,[.t 11],none⟩,
 ⟨(some 22),22,(.bin .neq),[.t 21,.c (.int .i64 (0))],none⟩])
 (.cond (.t 22) (.seq (.region [⟨(some 23),23,.move,[.t 11],none⟩,
 ⟨(some 6),24,.move,[.c (.str ByteArray.empty)],none⟩,
 ⟨(some 7),25,.move,[.c (.int .i64 (0))],none⟩,
 ⟨(some 8),26,.move,[.t 23],none⟩])
 (.ret)) (.skip)))
 (.seq (.seq (.region [⟨(some 24),27,.move,[.t 9],none⟩,
 ⟨(some 25),28,.move,[.t 2],none⟩,
 ⟨(some 26),29,(.conv (.int .u64)),[.t 25],none⟩,
 ⟨(some 27),30,(.bin .gtr),[.t 24,.t 26],none⟩])
 (.cond (.t 27) (.seq (.region [⟨(some 6),31,.move,[.c (.str ByteArray.empty)],none⟩,
 ⟨(some 7),32,.move,[.c (.int .i64 (0))],none⟩,
 ⟨(some 8),33,.move,[.c (.int .i64 (4))],none⟩])
 (.ret)) (.skip)))
 (.seq (.seq (.region [⟨(some 28),34,.move,[.t 0],none⟩,
 ⟨(some 29),35,(.len true),[.t 28],none⟩,
 ⟨(some 30),36,.move,[.t 10],none⟩,
 ⟨(some 31),37,(.bin .sub),[.t 29,.t 30],none⟩,
 ⟨(some 32),38,(.conv (.int .u64)),[.t 31],none⟩,
 ⟨(some 33),39,.move,[.t 9],none⟩,
 ⟨(some 34),40,(.bin .lss),[.t 32,.t 33],none⟩])
 (.cond (.t 34) (.seq (.region [⟨(some 6),41,.move,[.c (.str ByteArray.empty)],none⟩,
 ⟨(some 7),42,.move,[.c (.int .i64 (0))],none⟩,
 ⟨(some 8),43,.move,[.c (.int .i64 (2))],none⟩])
 (.ret)) (.skip)))
 (.seq (.region [⟨(some 35),44,.move,[.t 0],none⟩,
 ⟨(some 36),45,.move,[.t 10],none⟩,
 ⟨(some 37),46,.move,[.t 10],none⟩,
 ⟨(some 38),47,.move,[.t 9],none⟩,
 ⟨(some 39),48,(.conv (.int .i64)),[.t 38],none⟩,
 ⟨(some 40),49,(.bin .add),[.t 37,.t 39],none⟩,
 ⟨(some 41),50,(.sliceStr true true),[.t 35,.t 36,.t 40],none⟩,
 ⟨(some 42),51,.move,[.t 10],none⟩,
 ⟨(some 43),52,.move,[.t 9],none⟩,
 ⟨(some 44),53,(.conv (.int .i64)),[.t 43],none⟩,
 ⟨(some 45),54,(.bin .add),[.t 42,.t 44],none⟩,
 ⟨(some 6),55,.move,[.t 41],none⟩,
 ⟨(some 7),56,.move,[.t 45],none⟩,
 ⟨(some 8),57,.move,[.c (.int .i64 (0))],none⟩])
 (.ret))))))))
 [.tmp 6,.tmp 7,.tmp 8] 0 43
def f21.env : Env := [(19,f19.C)]
def f21.tree (a : ByteArray × Int × Int) : Prop := Br (decide (a.2.2 < (0 : Int))) ((ByteArray.empty = ((takeText a).1))∧((0 : Int) = ((takeText a).2.1))∧((1 : Int) = ((takeText a).2.2))∧True) (∃ c4 : ByteArray × Int,(a.1 = c4.1)∧(a.2.1 = c4.2)∧(take_pre c4)∧Br (((takeN c4).2.2) != (0 : Int)) ((ByteArray.empty = ((takeText a).1))∧((0 : Int) = ((takeText a).2.1))∧(((takeN c4).2.2) = ((takeText a).2.2))∧True) (Let (IntKind.u64.wrap a.2.2) (fun v8 : Int => Br (decide (v8 < ((takeN c4).1))) ((ByteArray.empty = ((takeText a).1))∧((0 : Int) = ((takeText a).2.1))∧((4 : Int) = ((takeText a).2.2))∧True) (Let (IntKind.i64.wrap ((a.1.size : Int) - ((takeN c4).2.1))) (fun v12 : Int => Let (IntKind.u64.wrap v12) (fun v13 : Int => Br (decide (v13 < ((takeN c4).1))) ((ByteArray.empty = ((takeText a).1))∧((0 : Int) = ((takeText a).2.1))∧((2 : Int) = ((takeText a).2.2))∧True) (Let (IntKind.i64.wrap ((takeN c4).1)) (fun v17 : Int => Let (IntKind.i64.wrap (((takeN c4).2.1) + v17)) (fun v18 : Int => Br (decide ((0 : Int)≤((takeN c4).2.1)) && decide (((takeN c4).2.1)≤v18) && decide (v18≤(a.1.size : Int))) (Let (IntKind.i64.wrap ((takeN c4).1)) (fun v20 : Int => Let (IntKind.i64.wrap (((takeN c4).2.1) + v20)) (fun v21 : Int => ((subB a.1 ((takeN c4).2.1) v18) = ((takeText a).1))∧(v21 = ((takeText a).2.1))∧((0 : Int) = ((takeText a).2.2))∧True))) False)))))))))
def f21.vc (a : ByteArray × Int × Int) : Prop := ((a.2.2 < (0 : Int)→((ByteArray.empty,(0 : Int),(1 : Int)) = takeText a))∧(¬ (a.2.2 < (0 : Int))→(take_pre (a.1,a.2.1)∧((¬ ((takeN (a.1,a.2.1)).2.2) = (0 : Int)→((ByteArray.empty,(0 : Int),(takeN (a.1,a.2.1)).2.2) = takeText a))∧(¬ (¬ ((takeN (a.1,a.2.1)).2.2) = (0 : Int))→(0≤a.2.2∧a.2.2≤18446744073709551615∧(((a.2.2) < ((takeN (a.1,a.2.1)).1)→((ByteArray.empty,(0 : Int),(4 : Int)) = takeText a))∧(¬ ((a.2.2) < ((takeN (a.1,a.2.1)).1))→(-9223372036854775808≤((a.1.size : Int) - ((takeN (a.1,a.2.1)).2.1))∧((a.1.size : Int) - ((takeN (a.1,a.2.1)).2.1))≤9223372036854775807∧(0≤((a.1.size : Int) - ((takeN (a.1,a.2.1)).2.1))∧((a.1.size : Int) - ((takeN (a.1,a.2.1)).2.1))≤18446744073709551615∧((((a.1.size : Int) - ((takeN (a.1,a.2.1)).2.1)) < ((takeN (a.1,a.2.1)).1)→((ByteArray.empty,(0 : Int),(2 : Int)) = takeText a))∧(¬ (((a.1.size : Int) - ((takeN (a.1,a.2.1)).2.1)) < ((takeN (a.1,a.2.1)).1))→(-9223372036854775808≤((takeN (a.1,a.2.1)).1)∧((takeN (a.1,a.2.1)).1)≤9223372036854775807∧(-9223372036854775808≤(((takeN (a.1,a.2.1)).2.1) + ((takeN (a.1,a.2.1)).1))∧(((takeN (a.1,a.2.1)).2.1) + ((takeN (a.1,a.2.1)).1))≤9223372036854775807∧((0 : Int)≤((takeN (a.1,a.2.1)).2.1)∧((takeN (a.1,a.2.1)).2.1)≤(((takeN (a.1,a.2.1)).2.1) + ((takeN (a.1,a.2.1)).1))∧(((takeN (a.1,a.2.1)).2.1) + ((takeN (a.1,a.2.1)).1))≤(a.1.size : Int)∧(-9223372036854775808≤((takeN (a.1,a.2.1)).1)∧((takeN (a.1,a.2.1)).1)≤9223372036854775807∧(-9223372036854775808≤(((takeN (a.1,a.2.1)).2.1) + ((takeN (a.1,a.2.1)).1))∧(((takeN (a.1,a.2.1)).2.1) + ((takeN (a.1,a.2.1)).1))≤9223372036854775807∧((subB a.1 ((takeN (a.1,a.2.1)).2.1) (((takeN (a.1,a.2.1)).2.1) + ((takeN (a.1,a.2.1)).1)),(((takeN (a.1,a.2.1)).2.1) + ((takeN (a.1,a.2.1)).1)),(0 : Int)) = takeText a))))))))))))))))))
set_option maxRecDepth 100000 in
set_option maxHeartbeats 2000000 in
theorem f21.of (a : ByteArray × Int × Int) (h : f21.vc a) : f21.tree a := br h Cnd.dec (fun h1 k52 => ⟨(congrArg (fun x : ByteArray × Int × Int => x.1) k52 :),⟨(congrArg (fun x : ByteArray × Int × Int => x.2.1) k52 :),⟨(congrArg (fun x : ByteArray × Int × Int => x.2.2) k52 :),trivial⟩⟩⟩) (fun h2 k53 => ⟨(a.1,a.2.1),⟨rfl,⟨rfl,⟨k53.1,br k53.2 Cnd.ne (fun h5 k49 => ⟨(congrArg (fun x : ByteArray × Int × Int => x.1) k49 :),⟨(congrArg (fun x : ByteArray × Int × Int => x.2.1) k49 :),⟨(congrArg (fun x : ByteArray × Int × Int => x.2.2) k49 :),trivial⟩⟩⟩) (fun h6 k50 => wrapK.u64 k50 (fun h46 h47 k48 => br k48 Cnd.dec (fun h9 k44 => ⟨(congrArg (fun x : ByteArray × Int × Int => x.1) k44 :),⟨(congrArg (fun x : ByteArray × Int × Int => x.2.1) k44 :),⟨(congrArg (fun x : ByteArray × Int × Int => x.2.2) k44 :),trivial⟩⟩⟩) (fun h10 k45 => wrapK.i64 k45 (fun h41 h42 k43 => wrapK.u64 k43 (fun h38 h39 k40 => br k40 Cnd.dec (fun h14 k36 => ⟨(congrArg (fun x : ByteArray × Int × Int => x.1) k36 :),⟨(congrArg (fun x : ByteArray × Int × Int => x.2.1) k36 :),⟨(congrArg (fun x : ByteArray × Int × Int => x.2.2) k36 :),trivial⟩⟩⟩) (fun h15 k37 => wrapK.i64 k37 (fun h33 h34 k35 => wrapK.i64 k35 (fun h30 h31 k32 => chk k32.2.2.2 Cnd.ss ⟨k32.1,k32.2.1,k32.2.2.1⟩ (fun h19 k29 => wrapK.i64 k29 (fun h26 h27 k28 => wrapK.i64 k28 (fun h23 h24 k25 => ⟨(congrArg (fun x : ByteArray × Int × Int => x.1) k25 :),⟨(congrArg (fun x : ByteArray × Int × Int => x.2.1) k25 :),⟨(congrArg (fun x : ByteArray × Int × Int => x.2.2) k25 :),trivial⟩⟩⟩)))))))))))⟩⟩⟩⟩)
theorem f21.eq (a : ByteArray × Int × Int) : (f21.af a).gives f21.env (f21.args a) (f21.blks a) (f21.res a) (f21.blks' a) = f21.tree a := by kernel_rfl
end Go.Abs

/- math/bits.Len64 -/
namespace Go.Abs
open Go
set_option linter.unusedVariables false
def f45.s0 : ByteArray := ⟨#[0,1,2,2,3,3,3,3,4,4,4,4,4,4,4,4,5,5,5,5,5,5,5,5,5,5,5,5,5,5,5,5,6,6,6,6,6,6,6,6,6,6,6,6,6,6,6,6,6,6,6,6,6,6,6,6,6,6,6,6,6,6,6,6,7,7,7,7,7,7,7,7,7,7,7,7,7,7,7,7,7,7,7,7,7,7,7,7,7,7,7,7,7,7,7,7,7,7,7,7,7,7,7,7,7,7,7,7,7,7,7,7,7,7,7,7,7,7,7,7,7,7,7,7,7,7,7,7,8,8,8,8,8,8,8,8,8,8,8,8,8,8,8,8,8,8,8,8,8,8,8,8,8,8,8,8,8,8,8,8,8,8,8,8,8,8,8,8,8,8,8,8,8,8,8,8,8,8,8,8,8,8,8,8,8,8,8,8,8,8,8,8,8,8,8,8,8,8,8,8,8,8,8,8,8,8,8,8,8,8,8,8,8,8,8,8,8,8,8,8,8,8,8,8,8,8,8,8,8,8,8,8,8,8,8,8,8,8,8,8,8,8,8,8,8,8,8,8,8,8,8,8,8,8,8,8]⟩
def f45.kills (a : Int) : List Hint := []
def f45.cuts (a : Int) : List (Nat × Σ β : Type,β→Tm) := []
def f45.af (a : Int) : AF := AF.mk (.seq (.region [⟨(some 2),0,.move,[.c (.int .i64 (0))],none⟩])
 (.seq (.seq (.region [⟨(some 3),1,.move,[.t 0],none⟩,
 ⟨(some 4),2,(.bin .geq),[.t 3,.c (.int .u64 (4294967296))],none⟩])
 (.cond (.t 4) (.seq (.region [⟨(some 5),3,.move,[.t 0],none⟩,
 ⟨(some 6),4,(.bin .shr),[.t 5,.c (.int .u64 (32))],none⟩,
 ⟨(some 0),5,.move,[.t 6],none⟩])
 (.region [⟨(some 2),6,.move,[.c (.int .i64 (32))],none⟩])) (.skip)))
 (.seq (.seq (.region [⟨(some 7),7,.move,[.t 0],none⟩,
 ⟨(some 8),8,(.bin .geq),[.t 7,.c (.int .u64 (65536))],none⟩])
 (.cond (.t 8) (.seq (.region [⟨(some 9),9,.move,[.t 0],none⟩,
 ⟨(some 10),10,(.bin .shr),[.t 9,.c (.int .u64 (16))],none⟩,
 ⟨(some 0),11,.move,[.t 10],none⟩])
 (.region [⟨(some 11),12,.move,[.t 2],none⟩,
 ⟨(some 12),13,(.bin .add),[.t 11,.c (.int .i64 (16))],none⟩,
 ⟨(some 2),14,.move,[.t 12],none⟩])) (.skip)))
 (.seq (.seq (.region [⟨(some 13),15,.move,[.t 0],none⟩,
 ⟨(some 14),16,(.bin .geq),[.t 13,.c (.int .u64 (256))],none⟩])
 (.cond (.t 14) (.seq (.region [⟨(some 15),17,.move,[.t 0],none⟩,
 ⟨(some 16),18,(.bin .shr),[.t 15,.c (.int .u64 (8))],none⟩,
 ⟨(some 0),19,.move,[.t 16],none⟩])
 (.region [⟨(some 17),20,.move,[.t 2],none⟩,
 ⟨(some 18),21,(.bin .add),[.t 17,.c (.int .i64 (8))],none⟩,
 ⟨(some 2),22,.move,[.t 18],none⟩])) (.skip)))
 (.seq (.region [⟨(some 19),23,.move,[.t 2],none⟩,
 ⟨(some 20),24,.move,[.t 0],none⟩,
 ⟨(some 21),25,(.conv (.int .u8)),[.t 20],none⟩,
 ⟨(some 22),26,.indexStr,[.c (.str f45.s0),.t 21],none⟩,
 ⟨(some 23),27,(.conv (.int .i64)),[.t 22],none⟩,
 ⟨(some 24),28,(.bin .add),[.t 19,.t 23],none⟩,
 ⟨(some 2),29,.move,[.t 24],none⟩])
 (.ret))))))
 [.tmp 2] 0 24
def f45.env : Env := []
def f45.tree (a : Int) : Prop := Br (decide ((4294967296 : Int)≤a)) (Let (Int.fdiv a 4294967296) (fun v3 : Int => Br (decide ((65536 : Int)≤v3)) (Let (Int.fdiv v3 65536) (fun v6 : Int => Br (decide ((256 : Int)≤v6)) (Let (Int.fdiv v6 256) (fun v9 : Int => Br (decide ((0 : Int)≤(IntKind.u8.wrap v9)) && decide ((IntKind.u8.wrap v9) < (256 : Int))) (Let (IntKind.i64.wrap (bAt f45.s0 (IntKind.u8.wrap v9))) (fun v11 : Int => Let (IntKind.i64.wrap ((56 : Int) + v11)) (fun v12 : Int => (v12 = (len64 a))∧True))) False)) (Br (decide ((0 : Int)≤(IntKind.u8.wrap v6)) && decide ((IntKind.u8.wrap v6) < (256 : Int))) (Let (IntKind.i64.wrap (bAt f45.s0 (IntKind.u8.wrap v6))) (fun v22 : Int => Let (IntKind.i64.wrap ((48 : Int) + v22)) (fun v23 : Int => (v23 = (len64 a))∧True))) False))) (Br (decide ((256 : Int)≤v3)) (Let (Int.fdiv v3 256) (fun v36 : Int => Br (decide ((0 : Int)≤(IntKind.u8.wrap v36)) && decide ((IntKind.u8.wrap v36) < (256 : Int))) (Let (IntKind.i64.wrap (bAt f45.s0 (IntKind.u8.wrap v36))) (fun v38 : Int => Let (IntKind.i64.wrap ((40 : Int) + v38)) (fun v39 : Int => (v39 = (len64 a))∧True))) False)) (Br (decide ((0 : Int)≤(IntKind.u8.wrap v3)) && decide ((IntKind.u8.wrap v3) < (256 : Int))) (Let (IntKind.i64.wrap (bAt f45.s0 (IntKind.u8.wrap v3))) (fun v49 : Int => Let (IntKind.i64.wrap ((32 : Int) + v49)) (fun v50 : Int => (v50 = (len64 a))∧True))) False)))) (Br (decide ((65536 : Int)≤a)) (Let (Int.fdiv a 65536) (fun v65 : Int => Br (decide ((256 : Int)≤v65)) (Let (Int.fdiv v65 256) (fun v68 : Int => Br (decide ((0 : Int)≤(IntKind.u8.wrap v68)) && decide ((IntKind.u8.wrap v68) < (256 : Int))) (Let (IntKind.i64.wrap (bAt f45.s0 (IntKind.u8.wrap v68))) (fun v70 : Int => Let (IntKind.i64.wrap ((24 : Int) + v70)) (fun v71 : Int => (v71 = (len64 a))∧True))) False)) (Br (decide ((0 : Int)≤(IntKind.u8.wrap v65)) && decide ((IntKind.u8.wrap v65) < (256 : Int))) (Let (IntKind.i64.wrap (bAt f45.s0 (IntKind.u8.wrap v65))) (fun v81 : Int => Let (IntKind.i64.wrap ((16 : Int) + v81)) (fun v82 : Int => (v82 = (len64 a))∧True))) False))) (Br (decide ((256 : Int)≤a)) (Let (Int.fdiv a 256) (fun v95 : Int => Br (decide ((0 : Int)≤(IntKind.u8.wrap v95)) && decide ((IntKind.u8.wrap v95) < (256 : Int))) (Let (IntKind.i64.wrap (bAt f45.s0 (IntKind.u8.wrap v95))) (fun v97 : Int => Let (IntKind.i64.wrap ((8 : Int) + v97)) (fun v98 : Int => (v98 = (len64 a))∧True))) False)) (Br (decide ((0 : Int)≤(IntKind.u8.wrap a)) && decide ((IntKind.u8.wrap a) < (256 : Int))) (Let (IntKind.i64.wrap (bAt f45.s0 (IntKind.u8.wrap a))) (fun v108 : Int => Let (IntKind.i64.wrap ((0 : Int) + v108)) (fun v109 : Int => (v109 = (len64 a))∧True))) False)))
def f45.vc (a : Int) : Prop := (((4294967296 : Int)≤a→(((65536 : Int)≤(a / 4294967296)→(((256 : Int)≤((a / 4294967296) / 65536)→((0 : Int)≤(IntKind.u8.wrap (((a / 4294967296) / 65536) / 256))∧(IntKind.u8.wrap (((a / 4294967296) / 65536) / 256)) < (256 : Int)∧(-9223372036854775808≤((56 : Int) + (bAt f45.s0 (IntKind.u8.wrap (((a / 4294967296) / 65536) / 256))))∧((56 : Int) + (bAt f45.s0 (IntKind.u8.wrap (((a / 4294967296) / 65536) / 256))))≤9223372036854775807∧(((56 : Int) + (bAt f45.s0 (IntKind.u8.wrap (((a / 4294967296) / 65536) / 256)))) = len64 a))))∧(¬ ((256 : Int)≤((a / 4294967296) / 65536))→((0 : Int)≤(IntKind.u8.wrap ((a / 4294967296) / 65536))∧(IntKind.u8.wrap ((a / 4294967296) / 65536)) < (256 : Int)∧(-9223372036854775808≤((48 : Int) + (bAt f45.s0 (IntKind.u8.wrap ((a / 4294967296) / 65536))))∧((48 : Int) + (bAt f45.s0 (IntKind.u8.wrap ((a / 4294967296) / 65536))))≤9223372036854775807∧(((48 : Int) + (bAt f45.s0 (IntKind.u8.wrap ((a / 4294967296) / 65536)))) = len64 a))))))∧(¬ ((65536 : Int)≤(a / 4294967296))→(((256 : Int)≤(a / 4294967296)→((0 : Int)≤(IntKind.u8.wrap ((a / 4294967296) / 256))∧(IntKind.u8.wrap ((a / 4294967296) / 256)) < (256 : Int)∧(-9223372036854775808≤((40 : Int) + (bAt f45.s0 (IntKind.u8.wrap ((a / 4294967296) / 256))))∧((40 : Int) + (bAt f45.s0 (IntKind.u8.wrap ((a / 4294967296) / 256))))≤9223372036854775807∧(((40 : Int) + (bAt f45.s0 (IntKind.u8.wrap ((a / 4294967296) / 256)))) = len64 a))))∧(¬ ((256 : Int)≤(a / 4294967296))→((0 : Int)≤(IntKind.u8.wrap (a / 4294967296))∧(IntKind.u8.wrap (a / 4294967296)) < (256 : Int)∧(-9223372036854775808≤((32 : Int) + (bAt f45.s0 (IntKind.u8.wrap (a / 4294967296))))∧((32 : Int) + (bAt f45.s0 (IntKind.u8.wrap (a / 4294967296))))≤9223372036854775807∧(((32 : Int) + (bAt f45.s0 (IntKind.u8.wrap (a / 4294967296)))) = len64 a))))))))∧(¬ ((4294967296 : Int)≤a)→(((65536 : Int)≤a→(((256 : Int)≤(a / 65536)→((0 : Int)≤(IntKind.u8.wrap ((a / 65536) / 256))∧(IntKind.u8.wrap ((a / 65536) / 256)) < (256 : Int)∧(-9223372036854775808≤((24 : Int) + (bAt f45.s0 (IntKind.u8.wrap ((a / 65536) / 256))))∧((24 : Int) + (bAt f45.s0 (IntKind.u8.wrap ((a / 65536) / 256))))≤9223372036854775807∧(((24 : Int) + (bAt f45.s0 (IntKind.u8.wrap ((a / 65536) / 256)))) = len64 a))))∧(¬ ((256 : Int)≤(a / 65536))→((0 : Int)≤(IntKind.u8.wrap (a / 65536))∧(IntKind.u8.wrap (a / 65536)) < (256 : Int)∧(-9223372036854775808≤((16 : Int) + (bAt f45.s0 (IntKind.u8.wrap (a / 65536))))∧((16 : Int) + (bAt f45.s0 (IntKind.u8.wrap (a / 65536))))≤9223372036854775807∧(((16 : Int) + (bAt f45.s0 (IntKind.u8.wrap (a / 65536)))) = len64 a))))))∧(¬ ((65536 : Int)≤a)→(((256 : Int)≤a→((0 : Int)≤(IntKind.u8.wrap (a / 256))∧(IntKind.u8.wrap (a / 256)) < (256 : Int)∧(-9223372036854775808≤((8 : Int) + (bAt f45.s0 (IntKind.u8.wrap (a / 256))))∧((8 : Int) + (bAt f45.s0 (IntKind.u8.wrap (a / 256))))≤9223372036854775807∧(((8 : Int) + (bAt f45.s0 (IntKind.u8.wrap (a / 256)))) = len64 a))))∧(¬ ((256 : Int)≤a)→((0 : Int)≤(IntKind.u8.wrap a)∧(IntKind.u8.wrap a) < (256 : Int)∧(-9223372036854775808≤((0 : Int) + (bAt f45.s0 (IntKind.u8.wrap a)))∧((0 : Int) + (bAt f45.s0 (IntKind.u8.wrap a)))≤9223372036854775807∧(((0 : Int) + (bAt f45.s0 (IntKind.u8.wrap a))) = len64 a)))))))))
set_option maxRecDepth 100000 in
set_option maxHeartbeats 2000000 in
theorem f45.of (a : Int) (h : f45.vc a) : f45.tree a := br h Cnd.dec (fun h1 k122 => fdivK (by decide) (br k122 Cnd.dec (fun h4 k61 => fdivK (by decide) (br k61 Cnd.dec (fun h7 k32 => fdivK (by decide) (chk k32.2.2 Cnd.ix ⟨k32.1,k32.2.1⟩ (fun h10 k20 => wrapR.i64 (u8b _ _) (wrapK.i64 k20 (fun h14 h15 k16 => ⟨k16,trivial⟩))))) (fun h8 k33 => chk k33.2.2 Cnd.ix ⟨k33.1,k33.2.1⟩ (fun h21 k31 => wrapR.i64 (u8b _ _) (wrapK.i64 k31 (fun h25 h26 k27 => ⟨k27,trivial⟩)))))) (fun h5 k62 => br k62 Cnd.dec (fun h34 k59 => fdivK (by decide) (chk k59.2.2 Cnd.ix ⟨k59.1,k59.2.1⟩ (fun h37 k47 => wrapR.i64 (u8b _ _) (wrapK.i64 k47 (fun h41 h42 k43 => ⟨k43,trivial⟩))))) (fun h35 k60 => chk k60.2.2 Cnd.ix ⟨k60.1,k60.2.1⟩ (fun h48 k58 => wrapR.i64 (u8b _ _) (wrapK.i64 k58 (fun h52 h53 k54 => ⟨k54,trivial⟩))))))) (fun h2 k123 => br k123 Cnd.dec (fun h63 k120 => fdivK (by decide) (br k120 Cnd.dec (fun h66 k91 => fdivK (by decide) (chk k91.2.2 Cnd.ix ⟨k91.1,k91.2.1⟩ (fun h69 k79 => wrapR.i64 (u8b _ _) (wrapK.i64 k79 (fun h73 h74 k75 => ⟨k75,trivial⟩))))) (fun h67 k92 => chk k92.2.2 Cnd.ix ⟨k92.1,k92.2.1⟩ (fun h80 k90 => wrapR.i64 (u8b _ _) (wrapK.i64 k90 (fun h84 h85 k86 => ⟨k86,trivial⟩)))))) (fun h64 k121 => br k121 Cnd.dec (fun h93 k118 => fdivK (by decide) (chk k118.2.2 Cnd.ix ⟨k118.1,k118.2.1⟩ (fun h96 k106 => wrapR.i64 (u8b _ _) (wrapK.i64 k106 (fun h100 h101 k102 => ⟨k102,trivial⟩))))) (fun h94 k119 => chk k119.2.2 Cnd.ix ⟨k119.1,k119.2.1⟩ (fun h107 k117 => wrapR.i64 (u8b _ _) (wrapK.i64 k117 (fun h111 h112 k113 => ⟨k113,trivial⟩))))))
theorem f45.eq (a : Int) : (f45.af a).gives f45.env (f45.args a) (f45.blks a) (f45.res a) (f45.blks' a) = f45.tree a := by kernel_rfl
end Go.Abs

/- interregnum/pack.own -/
namespace Go.Abs
open Go
set_option linter.unusedVariables false
def f46.kills (a : ByteArray) : List Hint := []
def f46.cuts (a : ByteArray) : List (Nat × Σ β : Type,β→Tm) := []
def f46.af (a : ByteArray) : AF := AF.mk (.seq (.region [⟨(some 2),0,(.nilSl 1),[],none⟩])
 (.seq (.region [⟨(some 3),1,.move,[.t 0],none⟩,
 ⟨(some 4),2,(.len false),[.t 3],none⟩,
 ⟨(some 5),3,(.bin .add),[.t 4,.c (.int .i64 (9))],none⟩,
 ⟨(some 6),4,(.makeSlice [.int .u8 (0)] 1),[.c (.int .i64 (0)),.t 5],none⟩,
 ⟨(some 7),5,.move,[.t 0],none⟩,
 ⟨(some 8),6,(.append 1 1),[.t 6,.t 7],none⟩,
 ⟨(some 2),7,.move,[.t 8],none⟩])
 (.ret)))
 [.tmp 2] 0 8
def f46.env : Env := []
def f46.tree (a : ByteArray) : Prop := Let (IntKind.i64.wrap ((a.size : Int) + (9 : Int))) (fun v1 : Int => ((0 : Int)≤(0 : Int)∧(0 : Int)≤v1∧room (Int.toNat v1 * 1))∧((0 = 0∧room ((0 + a.size) * 1))∧(((0 + a.size) = (0 + a.size))∧((0 + a.size) = ((ownB a).size))∧(∀ i,i < ((ownB a).size)→DEqs ((gapp (fun _ => [.int .u8 (0 : Int)]) 0 (gstr a)) i) ((gstr (ownB a)) i))∧True)))
def f46.vc (a : ByteArray) : Prop := (-9223372036854775808≤((a.size : Int) + (9 : Int))∧((a.size : Int) + (9 : Int))≤9223372036854775807∧((0 : Int)≤((a.size : Int) + (9 : Int))∧((a.size : Int) + (9 : Int))≤1073741824∧(0 + a.size≤1073741824∧(ByteArray.empty ++ a = ownB a))))
set_option maxRecDepth 100000 in
set_option maxHeartbeats 2000000 in
theorem f46.of (a : ByteArray) (h : f46.vc a) : f46.tree a := wrapK.i64 h (fun h3 h4 k5 => ⟨⟨(by decide),k5.1,room_ofI k5.2.1 (by decide)⟩,⟨⟨rfl,(room_of k5.2.2.1 (by decide))⟩,⟨rfl,slK (RdB.to (RdB.app RdB.nil RdB.self) k5.2.2.2) (trivial)⟩⟩⟩)
theorem f46.eq (a : ByteArray) : (f46.af a).gives f46.env (f46.args a) (f46.blks a) (f46.res a) (f46.blks' a) = f46.tree a := by kernel_rfl
end Go.Abs

/- Layer 1: what the code asks is so. -/
namespace Go.Abs
open Go

theorem f46.ok (a : ByteArray) (h : own_pre a) : f46.vc a := by
  unfold own_pre at h
  refine ⟨?_,?_,?_,?_,?_,empty_app a⟩ <;> omega

theorem tab_ok : ∀ x : Fin 256,nth f45.s0.data.toList x.1 0 = UInt8.ofNat (blen x.1) := by decide +kernel

theorem tab (x : Nat) (h : x < 256) : bAt f45.s0 (IntKind.u8.wrap (x : Int)) = (blen x : Int) := by
  have h1 : IntKind.u8.wrap (x : Int) = (x : Int) := wrap_id (by simp [IntKind.signed]) (by simp [IntKind.signed,IntKind.bits]; omega)
  have h2 : nth f45.s0.data.toList x 0 = UInt8.ofNat (blen x) := tab_ok ⟨x,h⟩
  unfold bAt
  rw [h1,Int.toNat_natCast,h2,UInt8.toNat_ofNat']
  have : blen x ≤ 8 := by
    unfold blen
    split
    · omega
    · rename_i h0
      have := (Nat.log2_lt h0 (k := 8)).2 (by omega)
      omega
  omega

theorem blen_div {n k : Nat} (h : 2 ^ k ≤ n) : blen n = k + blen (n / 2 ^ k) := by
  have hp : 0 < 2 ^ k := Nat.pow_pos (by decide)
  have h1 : n / 2 ^ k ≠ 0 := by
    have := (Nat.le_div_iff_mul_le hp (x := 1) (y := n)).2 (by omega)
    omega
  have h0 : n ≠ 0 := by omega
  unfold blen
  rw [if_neg h0,if_neg h1]
  have e : n.log2 = k + (n / 2 ^ k).log2 := by
    have a1 : 2 ^ (n / 2 ^ k).log2 ≤ n / 2 ^ k := (Nat.le_log2 h1).1 (Nat.le_refl _)
    have a2 : n / 2 ^ k < 2 ^ ((n / 2 ^ k).log2 + 1) := (Nat.log2_lt h1).1 (Nat.lt_succ_self _)
    have b1 : 2 ^ (k + (n / 2 ^ k).log2) ≤ n := by
      rw [Nat.pow_add,Nat.mul_comm]
      exact (Nat.le_div_iff_mul_le hp).1 a1
    have b2 : n < 2 ^ (k + (n / 2 ^ k).log2 + 1) := by
      rw [Nat.add_assoc,Nat.pow_add,Nat.mul_comm]
      exact (Nat.div_lt_iff_lt_mul hp).1 a2
    have c1 := (Nat.le_log2 h0).2 b1
    have c2 := (Nat.log2_lt h0).2 b2
    omega
  omega

theorem f45.ok (a : Int) (h : len64_pre a) : f45.vc a := by
  obtain ⟨h0,h1⟩ := h
  obtain ⟨n,rfl⟩ := Int.eq_ofNat_of_zero_le h0
  have key : ∀ (x : Nat) (k : Nat) (c : Int),x < 256 → len64 (n : Int) = k + blen x → (k : Int) = c → k ≤ 64 → (0 : Int) ≤ (IntKind.u8.wrap (x : Int)) ∧ (IntKind.u8.wrap (x : Int)) < (256 : Int) ∧ -9223372036854775808 ≤ (c + (bAt f45.s0 (IntKind.u8.wrap (x : Int)))) ∧ (c + (bAt f45.s0 (IntKind.u8.wrap (x : Int)))) ≤ 9223372036854775807 ∧ (c + (bAt f45.s0 (IntKind.u8.wrap (x : Int)))) = len64 (n : Int) := by
    intro x k c hx hl hk hk'
    have h3 := u8w (x : Int)
    have h4 := u8b f45.s0 (IntKind.u8.wrap (x : Int))
    have h5 := tab x hx
    refine ⟨h3.1,by omega,by omega,by omega,by rw [hl,h5,← hk]⟩
  have l64 : len64 (n : Int) = (blen n : Int) := by simp [len64]
  have d32 : ((n : Int) / 4294967296) = ((n / 4294967296 : Nat) : Int) := by simp
  have d16 : ∀ m : Nat,((m : Int) / 65536) = ((m / 65536 : Nat) : Int) := fun m => by simp
  have d8 : ∀ m : Nat,((m : Int) / 256) = ((m / 256 : Nat) : Int) := fun m => by simp
  have b32 : ∀ m : Nat,4294967296 ≤ m → blen m = 32 + blen (m / 4294967296) := fun m hm => blen_div (k := 32) hm
  have b16 : ∀ m : Nat,65536 ≤ m → blen m = 16 + blen (m / 65536) := fun m hm => blen_div (k := 16) hm
  have b8 : ∀ m : Nat,256 ≤ m → blen m = 8 + blen (m / 256) := fun m hm => blen_div (k := 8) hm
  unfold f45.vc
  rw [d32,d16,d16]
  rw [d8,d8,d8,d8]
  refine ⟨fun h2 => ⟨fun h3 => ⟨fun h4 => ?_,fun h4 => ?_⟩,fun h3 => ⟨fun h4 => ?_,fun h4 => ?_⟩⟩,fun h2 => ⟨fun h3 => ⟨fun h4 => ?_,fun h4 => ?_⟩,fun h3 => ⟨fun h4 => ?_,fun h4 => ?_⟩⟩⟩
  · exact key _ 56 _ (by omega) (by rw [l64,b32 n (by omega),b16 _ (by omega),b8 _ (by omega)]; omega) rfl (by omega)
  · exact key _ 48 _ (by omega) (by rw [l64,b32 n (by omega),b16 _ (by omega)]; omega) rfl (by omega)
  · exact key _ 40 _ (by omega) (by rw [l64,b32 n (by omega),b8 _ (by omega)]; omega) rfl (by omega)
  · exact key _ 32 _ (by omega) (by rw [l64,b32 n (by omega)]; omega) rfl (by omega)
  · exact key _ 24 _ (by omega) (by rw [l64,b16 n (by omega),b8 _ (by omega)]; omega) rfl (by omega)
  · exact key _ 16 _ (by omega) (by rw [l64,b16 n (by omega)]; omega) rfl (by omega)
  · exact key _ 8 _ (by omega) (by rw [l64,b8 n (by omega)]; omega) rfl (by omega)
  · exact key _ 0 _ (by omega) (by rw [l64]; omega) rfl (by omega)

theorem len64_nb {a : Int} (h : U64 a) : 0 ≤ len64 a ∧ len64 a ≤ 64 ∧ (len64 a + 7) / 8 = (nb a.toNat : Int) := by
  have h1 := nb_eight h.lt
  unfold len64
  unfold nb at h1 ⊢
  omega

theorem pow28 (k : Nat) : (2 : Int) ^ (8 * k) = ((256 ^ k : Nat) : Int) := by
  have h : ((2 ^ (8 * k) : Nat) : Int) = ((256 ^ k : Nat) : Int) := by rw [Nat.pow_mul]
  rw [← h,Int.natCast_pow]
  rfl

theorem f14.ok (a : ByteArray × Int) (h : put_pre a) : f14.vc a := by
  obtain ⟨h1,h2⟩ := h
  obtain ⟨l1,l2,l3⟩ := len64_nb h2
  have h8 := nb_eight h2.lt
  obtain ⟨u1,u2⟩ := h2
  obtain ⟨b,n⟩ := a
  simp only at *
  unfold f14.vc
  simp only [l3,ownB]
  refine ⟨⟨u1,u2⟩,by omega,by omega,by omega,by omega,h1,by omega,by omega,by omega,
    fun y => -1 ≤ y.2 ∧ y.2 < nb n.toNat ∧ y.1.data.toList = b.data.toList ++ UInt8.ofNat (nb n.toNat) :: be ((nb n.toNat : Int) - 1 - y.2).toNat (n.toNat / 256 ^ (y.2 + 1).toNat),fun y => (y.2 + 1).toNat,?_,?_⟩
  · refine ⟨by omega,by omega,?_⟩
    rw [data_app,by1_data,ofNat_wrap (by omega),Int.toNat_natCast]
    congr 2
    rw [show ((nb n.toNat : Int) - 1 - ((nb n.toNat : Int) - 1)).toNat = 0 from by omega]
    rfl
  · rintro ⟨o,i⟩ ⟨i1,i2,i3⟩
    simp only at i1 i2 i3 ⊢
    have hs : o.size ≤ b.size + 10 := by
      rw [← data_length,i3,List.length_append,List.length_cons,be_length,data_length]
      omega
    refine ⟨fun hi => ⟨by omega,by omega,by omega,by omega,by omega,by omega,⟨by omega,by omega,?_⟩,by omega⟩,fun hi => ?_⟩
    · rw [data_app,by1_data,i3]
      have e1 : min (Int.toNat (8 * i)) 64 = 8 * i.toNat := by omega
      have e2 : (n / 2 ^ (8 * i.toNat) : Int) = ((n.toNat / 256 ^ i.toNat : Nat) : Int) := by
        rw [pow28]
        obtain ⟨m,rfl⟩ := Int.eq_ofNat_of_zero_le u1
        simp
      rw [e1,e2,ofNat_wrap (Int.natCast_nonneg _),Int.toNat_natCast]
      rw [show ((nb n.toNat : Int) - 1 - (i - 1)).toNat = ((nb n.toNat : Int) - 1 - i).toNat + 1 from by omega,show (i - 1 + 1).toNat = i.toNat from by omega,be]
      rw [show (i + 1).toNat = i.toNat + 1 from by omega,Nat.div_div_eq_div_mul,← Nat.pow_succ]
      simp
    · have : i = -1 := by omega
      subst this
      apply bytes_ext
      show _ = (b ++ num n.toNat).data.toList
      rw [data_app,num_data,i3]
      simp

theorem f19.ok (a : ByteArray × Int) (h : take_pre a) : f19.vc a := by
  unfold take_pre at h
  obtain ⟨b,i⟩ := a
  simp only at h
  have hk := u8b b i
  have ht : ∀ x,x = takeN (b,i) ↔ x = takeN (b,i) := fun _ => Iff.rfl
  unfold f19.vc
  simp only
  refine ⟨fun c1 => ?_,fun c1 => ⟨fun c2 => ?_,fun c2 => ⟨fun c3 => ?_,fun c3 => ⟨by omega,by omega,fun c4 => ?_,fun c4 => ⟨by omega,by omega,by omega,by omega,fun c5 => ?_,fun c5 => ?_⟩⟩⟩⟩⟩
  · simp [takeN,c1]
  · simp [takeN,c2]
  · subst c3; simp [takeN]
  · simp [takeN,c1,c2,c3,c4]
  · simp [takeN,c1,c2,c3,c4,c5]
  · refine ⟨fun y => y.1 = bAt b i ∧ 0 ≤ y.2.2 ∧ y.2.2 ≤ y.1 ∧ y.2.1 = val b (i.toNat + 1) y.2.2.toNat ∧ (0 < y.2.2 → bAt b (i + 1) ≠ 0),fun y => (y.1 - y.2.2).toNat,⟨rfl,Int.le_refl _,by simp only; omega,rfl,by simp⟩,?_⟩
    rintro ⟨k,n,j⟩ ⟨e1,j1,j2,e2,j3⟩
    simp only at e1 e2 j1 j2 j3 ⊢
    subst e1 e2
    have hv := val_lt b (i.toNat + 1) j.toNat
    have hv0 := val_nonneg b (i.toNat + 1) j.toNat
    have hc := u8b b (i + 1 + j)
    have hs : bAt b (i + 1 + j) = bAtN b (i.toNat + 1 + j.toNat) := by
      unfold bAt bAtN
      rw [show (i + 1 + j).toNat = i.toNat + 1 + j.toNat from by omega]
    have hp : j < bAt b i → val b (i.toNat + 1) j.toNat < 72057594037927936 := fun hj => by
      have h2 : (256 : Int) ^ j.toNat ≤ 256 ^ 7 := by
        have h4 : (256 : Nat) ^ j.toNat ≤ 256 ^ 7 := Nat.pow_le_pow_right (by decide) (by omega)
        have h5 : ((256 ^ j.toNat : Nat) : Int) ≤ ((256 ^ 7 : Nat) : Int) := Int.ofNat_le.2 h4
        rw [Int.natCast_pow,Int.natCast_pow] at h5
        exact h5
      have h3 : (256 : Int) ^ 7 = 72057594037927936 := by decide
      omega
    have next : val b (i.toNat + 1) (j + 1).toNat = val b (i.toNat + 1) j.toNat * 256 + bAt b (i + 1 + j) := by
      rw [show (j + 1).toNat = j.toNat + 1 from by omega,hs]
      rfl
    refine ⟨fun hj => ⟨by omega,by omega,by omega,by omega,by omega,by omega,fun e0 => ⟨fun e1 => ?_,fun e1 => ?_⟩,fun e0 => ?_⟩,fun hj => ⟨by omega,by omega,by omega,by omega,?_⟩⟩
    · subst e0
      have hz : bAt b (i + 1) = 0 := by rw [← e1,show i + 1 + 0 = i + 1 from by omega]
      simp [takeN,c1,c2,c3,c4,c5,hz]
      omega
    · have := hp hj
      subst e0
      refine ⟨by omega,by omega,by omega,by omega,by omega,by omega,⟨rfl,by omega,by omega,next.symm,fun _ => ?_⟩,by omega⟩
      rw [show i + 1 = i + 1 + 0 from by omega]
      exact e1
    · have := hp hj
      exact ⟨by omega,by omega,by omega,by omega,by omega,by omega,⟨rfl,by omega,by omega,next.symm,fun _ => j3 (by omega)⟩,by omega⟩
    · have hj' : j = bAt b i := by omega
      have hx : ¬ (0 < bAt b i ∧ bAt b (i + 1) = 0) := fun ⟨x1,x2⟩ => j3 (by omega) x2
      unfold takeN
      simp only
      rw [if_neg (by omega),if_neg c3,if_neg c4,if_neg c5,if_neg hx,hj']

theorem f18.ok (a : ByteArray × Int) (h : take_pre a) : f18.vc a := by
  unfold take_pre at h
  obtain ⟨b,i⟩ := a
  simp only at h
  have hk := u8b b i
  have hkk : bAtN b (Int.toNat (0 : Int) + Int.toNat i) = bAt b i := by
    unfold bAt bAtN
    simp
  have loop : ∀ (c1 : ¬ i < 0) (c2 : ¬ (b.size : Int) < i) (c3 : ¬ i = b.size) (c4 : ¬ 8 < bAt b i) (c5 : ¬ (b.size : Int) - i - 1 < bAt b i) (c6 : ¬ (0 < bAt b i ∧ bAt b (i + 1) = 0)),True := fun _ _ _ _ _ _ => trivial
  have h1 : 0 ≤ i → i < b.size → bAtN b (Int.toNat (1 : Int) + Int.toNat i) = bAt b (i + 1) := fun _ _ => by
    unfold bAt bAtN
    rw [show (i + 1).toNat = Int.toNat 1 + i.toNat from by omega]
  unfold f18.vc
  simp only [hkk]
  have key : ∀ (c1 : ¬ i < 0) (c2 : ¬ (b.size : Int) < i) (c3 : ¬ i = b.size) (c4 : ¬ 8 < bAt b i) (c5 : ¬ (b.size : Int) - i - 1 < bAt b i) (c6 : ¬ (0 < bAt b i ∧ bAt b (i + 1) = 0)),
      ∃ (I : (Int × Int × ByteArray × Int × Int) → Prop) (μ : (Int × Int × ByteArray × Int × Int) → Nat),I (bAt b i,0,subB (subB b i b.size) 1 (bAt b i + 1),(Int.toNat (bAt b i + 1 - 1) : Int),0) ∧ ∀ y,I y → (y.2.2.2.2 < y.2.2.2.1 → 0 ≤ y.2.2.2.2 ∧ y.2.2.2.2 < (y.2.2.1.size : Int) ∧ -9223372036854775808 ≤ (y.2.2.2.2 + (1 : Int)) ∧ (y.2.2.2.2 + (1 : Int)) ≤ 9223372036854775807 ∧
        I (y.1,IntKind.u64.wrap ((BitVec.ofInt 64 (IntKind.u64.wrap (y.2.1 * 256)) ||| BitVec.ofInt 64 (bAt y.2.2.1 y.2.2.2.2)).toNat : Int),y.2.2.1,y.2.2.2.1,(y.2.2.2.2 + (1 : Int))) ∧ μ (y.1,IntKind.u64.wrap ((BitVec.ofInt 64 (IntKind.u64.wrap (y.2.1 * 256)) ||| BitVec.ofInt 64 (bAt y.2.2.1 y.2.2.2.2)).toNat : Int),y.2.2.1,y.2.2.2.1,(y.2.2.2.2 + (1 : Int))) < μ y) ∧
        (¬ y.2.2.2.2 < y.2.2.2.1 → -9223372036854775808 ≤ (i + y.1) ∧ (i + y.1) ≤ 9223372036854775807 ∧ -9223372036854775808 ≤ ((i + y.1) + (1 : Int)) ∧ ((i + y.1) + (1 : Int)) ≤ 9223372036854775807 ∧ (y.2.1,((i + y.1) + (1 : Int)),(0 : Int)) = takeN (b,i)) := by
    intro c1 c2 c3 c4 c5 c6
    have s1 : (subB b i b.size).size = Int.toNat (b.size - i) := RdB.size_sub ⟨by omega,by omega,by omega⟩
    have s2 : (subB (subB b i b.size) 1 (bAt b i + 1)).size = (bAt b i).toNat := by
      rw [RdB.size_sub ⟨by omega,by omega,by rw [s1]; omega⟩]
      omega
    refine ⟨fun y => y.1 = bAt b i ∧ y.2.2.1 = subB (subB b i b.size) 1 (bAt b i + 1) ∧ y.2.2.2.1 = bAt b i ∧ 0 ≤ y.2.2.2.2 ∧ y.2.2.2.2 ≤ bAt b i ∧ y.2.1 = val b (i.toNat + 1) y.2.2.2.2.toNat,fun y => (y.2.2.2.1 - y.2.2.2.2).toNat,⟨rfl,rfl,by simp only; omega,by simp,by simp only; omega,rfl⟩,?_⟩
    rintro ⟨m,n,r,k,j⟩ ⟨e1,e2,e3,j1,j2,e4⟩
    simp only at e1 e2 e3 e4 j1 j2 ⊢
    subst e1 e2 e3 e4
    have hv0 := val_nonneg b (i.toNat + 1) j.toNat
    have hv := val_lt b (i.toNat + 1) j.toNat
    refine ⟨fun hj => ?_,fun hj => ⟨by omega,by omega,by omega,by omega,?_⟩⟩
    · have hp : val b (i.toNat + 1) j.toNat < 72057594037927936 := by
        have h2 : (256 : Int) ^ j.toNat ≤ 256 ^ 7 := by
          have h4 : (256 : Nat) ^ j.toNat ≤ 256 ^ 7 := Nat.pow_le_pow_right (by decide) (by omega)
          have h5 : ((256 ^ j.toNat : Nat) : Int) ≤ ((256 ^ 7 : Nat) : Int) := Int.ofNat_le.2 h4
          rw [Int.natCast_pow,Int.natCast_pow] at h5
          exact h5
        have h3 : (256 : Int) ^ 7 = 72057594037927936 := by decide
        omega
      have e3 : bAt (subB (subB b i b.size) 1 (bAt b i + 1)) j = bAtN b (i.toNat + 1 + j.toNat) := by
        rw [bAt_sub ⟨by omega,by omega,by rw [s1]; omega⟩ (by omega) (by omega),bAt_sub ⟨by omega,by omega,by omega⟩ (by omega) (by omega),bAtN_eq]
        rw [show (i + (1 + j)).toNat = i.toNat + 1 + j.toNat from by omega]
      have hc := u8bN b (i.toNat + 1 + j.toNat)
      rw [e3,shl_or hv0 hp hc.1 hc.2]
      refine ⟨by omega,by rw [s2]; omega,by omega,by omega,⟨rfl,rfl,rfl,by omega,by omega,?_⟩,by omega⟩
      rw [show (j + 1).toNat = j.toNat + 1 from by omega]
      rfl
    · have hj' : j = bAt b i := by omega
      unfold takeN
      simp only
      rw [if_neg (by omega),if_neg c3,if_neg c4,if_neg c5,if_neg c6,hj',show i + bAt b i + 1 = i + 1 + bAt b i from by omega]
  refine ⟨fun c1 => ?_,fun c1 => ⟨fun c2 => ?_,fun c2 => ⟨by omega,by omega,fun c3 => ?_,fun c3 => ⟨by omega,fun c4 => ?_,fun c4 => ⟨fun c5 => ?_,fun c5 => ⟨fun c6 => ⟨by omega,fun c7 => ?_,fun c7 => ⟨by omega,by omega,by omega,by omega,?_⟩⟩,fun c6 => ⟨by omega,by omega,by omega,by omega,?_⟩⟩⟩⟩⟩⟩⟩
  · simp [takeN,c1]
  · simp [takeN,c2]
  · have : i = b.size := by omega
    subst this; simp [takeN]
  · unfold takeN
    simp only
    rw [if_neg (by omega),if_neg (by omega),if_pos c4]
  · unfold takeN
    simp only
    rw [if_neg (by omega),if_neg (by omega),if_neg c4,if_pos (by omega)]
  · rw [h1 (by omega) (by omega)] at c7
    unfold takeN
    simp only
    rw [if_neg (by omega),if_neg (by omega),if_neg c4,if_neg (by omega),if_pos ⟨c6,c7⟩]
  · rw [h1 (by omega) (by omega)] at c7
    exact key c1 c2 (by omega) c4 (by omega) (fun x => c7 x.2)
  · exact key c1 c2 (by omega) c4 (by omega) (fun x => c6 x.1)

theorem putB_size (a : ByteArray × Int) : (putB a).size = a.1.size + (nb a.2.toNat + 1) := by unfold putB; rw [size_app,num_size]

theorem f16.ok (a : ByteArray × ByteArray) (h : putText_pre a) : f16.vc a := by
  obtain ⟨h1,h2⟩ := h
  have h8 := nb_eight (n := a.2.size) (by omega)
  refine ⟨by omega,by omega,⟨by simp only; omega,by simp only; omega,by simp only; omega⟩,?_,?_⟩
  · rw [putB_size]
    simp only [Int.toNat_natCast]
    omega
  · unfold putB putText
    simp only [Int.toNat_natCast]

theorem f20.ok (a : ByteArray × Int × Int) (h : takeText_pre a) : f20.vc a := by
  obtain ⟨h1,h2⟩ := h
  obtain ⟨b1,b2,b3,b4⟩ := takeN_bd (a.1,a.2.1)
  unfold f20.vc takeText
  simp only at b4
  generalize takeN (a.1,a.2.1) = t at *
  refine ⟨fun c1 => by rw [if_pos c1],fun c1 => ⟨h1,?_,?_⟩⟩
  · intro c2
    rw [if_neg c1,if_pos c2]
  · intro c2
    refine ⟨by omega,by omega,fun c3 => by rw [if_neg c1,if_neg c2,if_pos c3],fun c3 => ⟨by omega,by omega,by omega,by omega,fun c4 => by rw [if_neg c1,if_neg c2,if_neg c3,if_pos c4],fun c4 => ?_⟩⟩
    refine ⟨by omega,by omega,by omega,by omega,by omega,by omega,by omega,by omega,by omega,by omega,by omega,?_⟩
    rw [if_neg c1,if_neg c2,if_neg c3,if_neg c4]

theorem f21.ok (a : ByteArray × Int × Int) (h : takeText_pre a) : f21.vc a := by
  obtain ⟨h1,h2⟩ := h
  obtain ⟨b1,b2,b3,b4⟩ := takeN_bd (a.1,a.2.1)
  unfold f21.vc takeText
  simp only at b4
  generalize takeN (a.1,a.2.1) = t at *
  refine ⟨fun c1 => by rw [if_pos c1],fun c1 => ⟨h1,?_,?_⟩⟩
  · intro c2
    rw [if_neg c1,if_pos c2]
  · intro c2
    refine ⟨by omega,by omega,fun c3 => by rw [if_neg c1,if_neg c2,if_pos c3],fun c3 => ⟨by omega,by omega,by omega,by omega,fun c4 => by rw [if_neg c1,if_neg c2,if_neg c3,if_pos c4],fun c4 => ?_⟩⟩
    refine ⟨by omega,by omega,by omega,by omega,by omega,by omega,by omega,by omega,by omega,by omega,by omega,?_⟩
    rw [if_neg c1,if_neg c2,if_neg c3,if_neg c4]

end Go.Abs
