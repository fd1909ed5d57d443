/- Functions, and what the code asks of them: PReadLaw. -/
import Derived.KernelRfl
import Derived.Test.YtabnaedcnfkmiacBf2d90475
import Derived.Test.YtabnaedcnfkmiacBc6d675b3
import Derived.Test.YtabnaedcnfkmiacB6cf658f3
import Derived.Test.YtabnaedcnfkmiacB15b57a28
import Derived.Test.YtabnaedcnfkmiacBeeb34091
import Derived.Test.YtabnaedcnfkmiacB1eafa8ca
import Derived.Test.YtabnaedcnfkmiacB7fbf62de
set_option linter.unusedVariables false
set_option linter.unusedSimpArgs false
/- What readers read, in plain words. -/
namespace Go.Abs
open Go

/-- If nothing went wrong: what was read are these bytes. -/
def Reads_ (r s : TRd) (bs : ByteArray) : Prop := s.1 = r.1 ∧ (s.2.2 = 0 → r.2.2 = 0 ∧ 0 ≤ r.2.1 ∧ r.2.1 ≤ s.2.1 ∧ s.2.1 ≤ r.1.size ∧ subB r.1 r.2.1 s.2.1 = bs)

theorem Reads_.trans {r s t : TRd} {x y : ByteArray} (h : Reads_ r s x) (k : Reads_ s t y) : Reads_ r t (x ++ y) := by
  obtain ⟨h1, h2⟩ := h
  obtain ⟨k1, k2⟩ := k
  refine ⟨k1.trans h1, fun e => ?_⟩
  obtain ⟨a1, a2, a3, a4, a5⟩ := k2 e
  obtain ⟨b1, b2, b3, b4, b5⟩ := h2 a1
  rw [h1] at a4 a5
  refine ⟨b1, b2, by omega, a4, ?_⟩
  rw [← b5, ← a5, subB_app b2 b3 a3 a4]

theorem reads_num {a : TRd × Int × Int} (h : a.2.2 ≠ 0) : Reads_ a.1 (rdNum a).2 (num (rdNum a).1.toNat) := by
  refine ⟨rdNum_b a, ?_⟩
  unfold rdNum
  split
  · rename_i c; exact fun e => absurd e c
  split
  · rename_i c; exact fun e => absurd e c
  split
  · exact fun e => absurd e h
  · rename_i c1 c2 c3
    intro _
    obtain ⟨t1, t2, t3, t4⟩ := takeN_ok (Classical.not_not.1 c2)
    exact ⟨Classical.not_not.1 c1, t1, Int.le_of_lt t2, t3, t4.symm⟩

theorem reads_text (r : TRd) : Reads_ r (rdText r).2 (textS (rdText r).1) := by
  refine ⟨rdText_b r, ?_⟩
  unfold rdText
  split
  · rename_i c; exact fun e => absurd e c
  · rename_i c
    intro e
    obtain ⟨t1, t2, t3, t4, t5⟩ := takeText_ok e
    exact ⟨Classical.not_not.1 c, t3, Int.le_of_lt t1, t2, t5.symm⟩

theorem reads_amt (r : TRd) : Reads_ r (rdAmt r).2 (amtS (rdAmt r).1) := by
  have h1 := reads_num (a := (r, 1048576, 3)) (show (3 : Int) ≠ 0 by decide)
  have h2 := reads_num (a := ((rdN20 r).2, 1048576, 3)) (show (3 : Int) ≠ 0 by decide)
  have h3 := reads_num (a := ((rdN20 (rdN20 r).2).2, 1048576, 3)) (show (3 : Int) ≠ 0 by decide)
  exact (h1.trans h2).trans h3

theorem reads_loop : ∀ (n : Nat) (out : List TLbl) (r : TRd), ∃ l, (lblLoop rdText n out r).1 = out ++ l ∧ l.length = n ∧ ((lblLoop rdText n out r).2.2.2 = 0 → n = 0 ∨ Reads_ r (lblLoop rdText n out r).2 (lblsS0 l))
  | 0, out, r => ⟨[], by simp [lblLoop], rfl, fun _ => .inl rfl⟩
  | n + 1, out, r => by
    obtain ⟨l, h1, h2, h3⟩ := reads_loop n (out ++ [((rdText r).1, (rdText (rdText r).2).1)]) (rdText (rdText r).2).2
    refine ⟨((rdText r).1, (rdText (rdText r).2).1) :: l, ?_, by rw [List.length_cons, h2], fun e => .inr ?_⟩
    · rw [lblLoop, h1]; simp
    · rw [lblLoop] at e ⊢
      have k1 := (reads_text r).trans (reads_text (rdText r).2)
      rcases h3 e with h3 | h3
      · subst h3
        have : l = [] := List.length_eq_zero_iff.1 h2
        subst this
        rw [lblLoop]
        show Reads_ r _ (textS _ ++ textS _ ++ lblsS0 [])
        rw [show lblsS0 [] = ByteArray.empty from rfl, app_empty]
        exact k1
      · exact k1.trans h3

theorem reads_lbls (r : TRd) : Reads_ r (lblsP rdText r).2 (lblsS (lblsP rdText r).1) := by
  have h1 := reads_num (a := (r, 4, 4)) (show (4 : Int) ≠ 0 by decide)
  obtain ⟨l, k1, k2, k3⟩ := reads_loop (rdNum (r, 4, 4)).1.toNat [] (rdNum (r, 4, 4)).2
  rw [List.nil_append] at k1
  have hb := lblsP_b rdText_b r
  refine ⟨hb, fun e => ?_⟩
  have hl : (lblsP rdText r).1 = l := k1
  have e1 : lblsS (lblsP rdText r).1 = num (rdNum (r, 4, 4)).1.toNat ++ lblsS0 l := by rw [hl]; unfold lblsS; rw [k2]
  rw [e1]
  rcases k3 e with k3 | k3
  · have hl0 : l = [] := List.length_eq_zero_iff.1 (k2.trans k3)
    have e2 : (lblsP rdText r).2 = (rdNum (r, 4, 4)).2 := by unfold lblsP; rw [k3]; rfl
    rw [e2, hl0, show lblsS0 [] = ByteArray.empty from rfl, app_empty]
    rw [e2] at e
    exact h1.2 e
  · exact (h1.trans k3).2 e

theorem reads_node (r : TRd) : Reads_ r (nodeP rdText r).2 (nodeS0 (nodeP rdText r).1) := ((reads_text r).trans (reads_amt _)).trans (reads_lbls _)
theorem reads_queue (r : TRd) : Reads_ r (queueP rdText r).2 (queueS0 (queueP rdText r).1) := (reads_text r).trans (reads_amt _)
theorem reads_task (r : TRd) : Reads_ r (taskP rdText r).2 (taskS0 (taskP rdText r).1) :=
  (((((((reads_text r).trans (reads_text _)).trans (reads_num (a := (_, 1048576, 3)) (show (3 : Int) ≠ 0 by decide))).trans (reads_amt _)).trans (reads_lbls _)).trans (reads_text _)).trans (reads_text _)).trans (reads_num (a := (_, 1048576, 3)) (show (3 : Int) ≠ 0 by decide))

/-- What is taken can be, and its bytes are those that were read. -/
def One {α : Type} (take : ByteArray × Int → α × Int × Int) (ok : α → Bool) (bytes : α → ByteArray) : Prop :=
  ∀ b i, (take (b, i)).2.2 = 0 → ok (take (b, i)).1 = true ∧ 0 ≤ i ∧ i ≤ (take (b, i)).2.1 ∧ (take (b, i)).2.1 ≤ b.size ∧ subB b i (take (b, i)).2.1 = bytes (take (b, i)).1

theorem end_one {α : Type} {z : α} {p : α × TRd} {ok : Bool} (h : (endP z p ok).2.2 = 0) : p.2.2.2 = 0 ∧ ok = true ∧ endP z p ok = (p.1, p.2.2.1, 0) := by
  unfold endP at h ⊢
  unfold rdEnd at h ⊢
  simp only at h ⊢
  by_cases c : p.2.2.2 = 0
  · by_cases d : ok = true
    · simp [c, d]
    · simp [c, d] at h
  · simp [c] at h

theorem one_of {α : Type} {z : α} {P : TRd → α × TRd} {ok : α → Bool} {bytes : α → ByteArray} (h : ∀ r, Reads_ r (P r).2 (bytes (P r).1)) : One (fun a => endP z (P (a.1, a.2, 0)) (ok (P (a.1, a.2, 0)).1)) ok bytes := fun b i e => by
  obtain ⟨h1, h2, h3⟩ := end_one e
  obtain ⟨k1, k2, k3, k4, k5⟩ := (h (b, i, 0)).2 h1
  have h3 : (fun a : ByteArray × Int => endP z (P (a.1, a.2, 0)) (ok (P (a.1, a.2, 0)).1)) (b, i) = _ := h3
  rw [h3]
  exact ⟨h2, k2, k3, k4, k5⟩

theorem node_one : One takeNode nodeB nodeS0 := one_of (P := nodeP rdText) reads_node
theorem queue_one : One takeQueue queueB queueS0 := one_of (P := queueP rdText) reads_queue
theorem task_one : One takeTask taskB taskS0 := one_of (P := taskP rdText) reads_task

/-- From i on these bytes stand. -/
def At (b : ByteArray) (i : Int) (bs : ByteArray) : Prop := ∃ x y, b = x ++ bs ++ y ∧ i = (x.size : Int)
theorem At.left {b : ByteArray} {i : Int} {p q : ByteArray} (h : At b i (p ++ q)) : At b i p := by
  obtain ⟨x, y, rfl, rfl⟩ := h
  exact ⟨x, q ++ y, by simp only [app_assoc], rfl⟩
theorem At.right {b : ByteArray} {i : Int} {p q : ByteArray} (h : At b i (p ++ q)) : At b (i + p.size) q := by
  obtain ⟨x, y, rfl, rfl⟩ := h
  exact ⟨x ++ p, y, by simp only [app_assoc], by rw [size_app]; omega⟩
theorem At.more {b c : ByteArray} {i : Int} {p : ByteArray} (h : At b i p) : At (b ++ c) i p := by
  obtain ⟨x, y, rfl, rfl⟩ := h
  exact ⟨x, y ++ c, by simp only [app_assoc], rfl⟩

/-- Two readers that have come as far. -/
def Sim (r s : TRd) : Prop := r.1 = s.1 ∧ r.2.2 = s.2.2 ∧ (r.2.2 = 0 → r.2.1 = s.2.1)
theorem Sim.refl (r : TRd) : Sim r r := ⟨rfl, rfl, fun _ => rfl⟩
theorem Sim.eq {r s : TRd} (h : Sim r s) (e : r.2.2 = 0) : r = s := Prod.ext h.1 (Prod.ext (h.2.2 e) h.2.1)
end Go.Abs

-- interregnum/interregnumlaw05.ModelTakes
namespace Go.Abs
open Go
end Go.Abs

/- interregnum/interregnumlaw05.ModelTakes -/
namespace Go.Abs
open Go
set_option linter.unusedVariables false
end Go.Abs

-- interregnum/interregnumlaw05.ModelBack
namespace Go.Abs
open Go
end Go.Abs

/- interregnum/interregnumlaw05.ModelBack -/
namespace Go.Abs
open Go
set_option linter.unusedVariables false
end Go.Abs

-- interregnum/interregnumlaw05.ModelOne
namespace Go.Abs
open Go
def f268.wf (a : ByteArray × Int) : Prop := k_str.ok a.1 ∧ k_i64.ok a.2
def f268.size (a : ByteArray × Int) : Nat := k_str.size a.1 + k_i64.size a.2
def f268.lpre (a : ByteArray × Int) : Prop := f268.wf a ∧ f268.size a ≤ 1048576
def f268.args (a : ByteArray × Int) : List D := [.str a.1, .int .i64 a.2]
def f268.blks (a : ByteArray × Int) : List (List D) := []
def f268.res (a : ByteArray × Int) : List D := [.bool (lawTrue a)]
def f268.blks' (a : ByteArray × Int) : List (List D) := []
def f268.C : Contract := FnC f268.args f268.blks (fun a => f268.lpre a) f268.res f268.blks'
end Go.Abs

/- interregnum/interregnumlaw05.ModelOne -/
namespace Go.Abs
open Go
set_option linter.unusedVariables false
def f268.kills (a : ByteArray × Int) : List Hint := []
def f268.cuts (a : ByteArray × Int) : List (Nat × Σ β : Type, β → Tm) := []
def f268.af (a : ByteArray × Int) : AF := AF.mk (.seq (.region [⟨(some 4), 0, .move, [.c (.bool false)], none⟩])
 (.seq (.seq (.region [⟨(some 14), 1, (.call false 22), [], none⟩,
  ⟨(some 15), 5, (.un .not), [.t 14], none⟩])
 (.cond (.t 15) (.seq (.region [⟨(some 4), 6, .move, [.c (.bool false)], none⟩])
 (.ret)) (.skip)))
 (.seq (.region [⟨(some 17), 7, .move, [.t 0], none⟩,
  ⟨(some 18), 8, (.conv .s2b), [.t 17], none⟩,
  ⟨(some 19), 9, .move, [.t 1], none⟩,
  ⟨(some 20), 10, (.call false 284), [.t 18, .t 19], none⟩,
  ⟨(some 16), 14, .move, [.t 20], none⟩,
  ⟨(some 21), 15, (.extract 0), [.t 16], none⟩,
  ⟨(some 22), 16, (.extract 1), [.t 16], none⟩,
  ⟨(some 23), 17, (.extract 2), [.t 16], none⟩,
  ⟨(some 5), 18, (.alloc [.str ByteArray.empty, .int .i64 (0), .int .i64 (0), .int .i64 (0), .slice (.own 0) 2 0 gnil]), [], none⟩,
  ⟨none, 24, (.store 5), [.t 5, .t 21], none⟩,
  ⟨(some 6), 25, .move, [.t 22], none⟩,
  ⟨(some 7), 26, .move, [.t 23], none⟩])
 (.seq (.region [⟨(some 25), 27, .move, [.t 0], none⟩,
  ⟨(some 26), 28, (.conv .s2b), [.t 25], none⟩,
  ⟨(some 27), 29, .move, [.t 1], none⟩,
  ⟨(some 28), 30, (.call false 285), [.t 26, .t 27], none⟩,
  ⟨(some 24), 34, .move, [.t 28], none⟩,
  ⟨(some 29), 35, (.extract 0), [.t 24], none⟩,
  ⟨(some 30), 36, (.extract 1), [.t 24], none⟩,
  ⟨(some 31), 37, (.extract 2), [.t 24], none⟩,
  ⟨(some 8), 38, (.alloc [.str ByteArray.empty, .int .i64 (0), .int .i64 (0), .int .i64 (0)]), [], none⟩,
  ⟨none, 43, (.store 4), [.t 8, .t 29], none⟩,
  ⟨(some 9), 44, .move, [.t 30], none⟩,
  ⟨(some 10), 45, .move, [.t 31], none⟩])
 (.seq (.region [⟨(some 33), 46, .move, [.t 0], none⟩,
  ⟨(some 34), 47, (.conv .s2b), [.t 33], none⟩,
  ⟨(some 35), 48, .move, [.t 1], none⟩,
  ⟨(some 36), 49, (.call false 286), [.t 34, .t 35], none⟩,
  ⟨(some 32), 53, .move, [.t 36], none⟩,
  ⟨(some 37), 54, (.extract 0), [.t 32], none⟩,
  ⟨(some 38), 55, (.extract 1), [.t 32], none⟩,
  ⟨(some 39), 56, (.extract 2), [.t 32], none⟩,
  ⟨(some 11), 57, (.alloc [.str ByteArray.empty, .str ByteArray.empty, .int .i64 (0), .int .i64 (0), .int .i64 (0), .int .i64 (0), .slice (.own 0) 2 0 gnil, .str ByteArray.empty, .str ByteArray.empty, .int .i64 (0)]), [], none⟩,
  ⟨none, 68, (.store 10), [.t 11, .t 37], none⟩,
  ⟨(some 12), 69, .move, [.t 38], none⟩,
  ⟨(some 13), 70, .move, [.t 39], none⟩])
 (.seq (.seq (.region [⟨(some 40), 71, .move, [.t 7], none⟩,
  ⟨(some 41), 72, (.bin .eql), [.t 40, .c (.int .i64 (0))], none⟩,
  ⟨(some 42), 73, .move, [.t 41], none⟩,
  ⟨(some 43), 74, .move, [.t 6], (some (42, true))⟩,
  ⟨(some 44), 75, .move, [.t 0], (some (42, true))⟩,
  ⟨(some 45), 76, (.len true), [.t 44], (some (42, true))⟩,
  ⟨(some 46), 77, (.bin .gtr), [.t 43, .t 45], (some (42, true))⟩,
  ⟨(some 47), 78, .move, [.t 46], (some (42, true))⟩,
  ⟨(some 48), 79, (.load true 5), [.t 5], (some (47, false))⟩,
  ⟨(some 49), 80, (.call false 35), [.t 48], (some (47, false))⟩,
  ⟨(some 50), 84, (.un .not), [.t 49], (some (47, false))⟩,
  ⟨(some 51), 85, .pick, [.t 47, .c (.bool true), .t 50], (some (42, true))⟩,
  ⟨(some 52), 86, .move, [.t 51], (some (42, true))⟩,
  ⟨(some 53), 87, (.load true 5), [.t 5], (some (52, false))⟩,
  ⟨(some 54), 88, (.call false 39), [.c (.slice .full 1 0 gnil), .t 53], (some (52, false))⟩,
  ⟨(some 55), 92, (.conv .b2s), [.t 54], (some (52, false))⟩,
  ⟨(some 56), 93, .move, [.t 0], (some (52, false))⟩,
  ⟨(some 57), 94, .move, [.t 1], (some (52, false))⟩,
  ⟨(some 58), 95, .move, [.t 6], (some (52, false))⟩,
  ⟨(some 59), 96, (.sliceStr true true), [.t 56, .t 57, .t 58], (some (52, false))⟩,
  ⟨(some 60), 97, (.bin .neq), [.t 55, .t 59], (some (52, false))⟩,
  ⟨(some 61), 98, .pick, [.t 52, .c (.bool true), .t 60], (some (42, true))⟩,
  ⟨(some 62), 99, .pick, [.t 42, .t 61, .c (.bool false)], none⟩])
 (.cond (.t 62) (.seq (.region [⟨(some 4), 100, .move, [.c (.bool false)], none⟩])
 (.ret)) (.skip)))
 (.seq (.seq (.region [⟨(some 63), 101, .move, [.t 10], none⟩,
  ⟨(some 64), 102, (.bin .eql), [.t 63, .c (.int .i64 (0))], none⟩,
  ⟨(some 65), 103, .move, [.t 64], none⟩,
  ⟨(some 66), 104, .move, [.t 9], (some (65, true))⟩,
  ⟨(some 67), 105, .move, [.t 0], (some (65, true))⟩,
  ⟨(some 68), 106, (.len true), [.t 67], (some (65, true))⟩,
  ⟨(some 69), 107, (.bin .gtr), [.t 66, .t 68], (some (65, true))⟩,
  ⟨(some 70), 108, .move, [.t 69], (some (65, true))⟩,
  ⟨(some 71), 109, (.load true 4), [.t 8], (some (70, false))⟩,
  ⟨(some 72), 110, (.call false 25), [.t 71], (some (70, false))⟩,
  ⟨(some 73), 114, (.un .not), [.t 72], (some (70, false))⟩,
  ⟨(some 74), 115, .pick, [.t 70, .c (.bool true), .t 73], (some (65, true))⟩,
  ⟨(some 75), 116, .move, [.t 74], (some (65, true))⟩,
  ⟨(some 76), 117, (.load true 4), [.t 8], (some (75, false))⟩,
  ⟨(some 77), 118, (.call false 41), [.c (.slice .full 1 0 gnil), .t 76], (some (75, false))⟩,
  ⟨(some 78), 122, (.conv .b2s), [.t 77], (some (75, false))⟩,
  ⟨(some 79), 123, .move, [.t 0], (some (75, false))⟩,
  ⟨(some 80), 124, .move, [.t 1], (some (75, false))⟩,
  ⟨(some 81), 125, .move, [.t 9], (some (75, false))⟩,
  ⟨(some 82), 126, (.sliceStr true true), [.t 79, .t 80, .t 81], (some (75, false))⟩,
  ⟨(some 83), 127, (.bin .neq), [.t 78, .t 82], (some (75, false))⟩,
  ⟨(some 84), 128, .pick, [.t 75, .c (.bool true), .t 83], (some (65, true))⟩,
  ⟨(some 85), 129, .pick, [.t 65, .t 84, .c (.bool false)], none⟩])
 (.cond (.t 85) (.seq (.region [⟨(some 4), 130, .move, [.c (.bool false)], none⟩])
 (.ret)) (.skip)))
 (.seq (.region [⟨(some 86), 131, .move, [.t 13], none⟩,
  ⟨(some 87), 132, (.bin .neq), [.t 86, .c (.int .i64 (0))], none⟩,
  ⟨(some 88), 133, .move, [.t 87], none⟩,
  ⟨(some 89), 134, .move, [.t 12], (some (88, false))⟩,
  ⟨(some 90), 135, .move, [.t 0], (some (88, false))⟩,
  ⟨(some 91), 136, (.len true), [.t 90], (some (88, false))⟩,
  ⟨(some 92), 137, (.bin .leq), [.t 89, .t 91], (some (88, false))⟩,
  ⟨(some 93), 138, .move, [.t 92], (some (88, false))⟩,
  ⟨(some 94), 139, (.load true 10), [.t 11], (some (93, true))⟩,
  ⟨(some 95), 140, (.call false 24), [.t 94], (some (93, true))⟩,
  ⟨(some 96), 144, .pick, [.t 93, .t 95, .c (.bool false)], (some (88, false))⟩,
  ⟨(some 97), 145, .move, [.t 96], (some (88, false))⟩,
  ⟨(some 98), 146, (.load true 10), [.t 11], (some (97, true))⟩,
  ⟨(some 99), 147, (.call false 43), [.c (.slice .full 1 0 gnil), .t 98], (some (97, true))⟩,
  ⟨(some 100), 151, (.conv .b2s), [.t 99], (some (97, true))⟩,
  ⟨(some 101), 152, .move, [.t 0], (some (97, true))⟩,
  ⟨(some 102), 153, .move, [.t 1], (some (97, true))⟩,
  ⟨(some 103), 154, .move, [.t 12], (some (97, true))⟩,
  ⟨(some 104), 155, (.sliceStr true true), [.t 101, .t 102, .t 103], (some (97, true))⟩,
  ⟨(some 105), 156, (.bin .eql), [.t 100, .t 104], (some (97, true))⟩,
  ⟨(some 106), 157, .pick, [.t 97, .t 105, .c (.bool false)], (some (88, false))⟩,
  ⟨(some 107), 158, .pick, [.t 88, .c (.bool true), .t 106], none⟩,
  ⟨(some 4), 159, .move, [.t 107], none⟩])
 (.ret)))))))))
  [.tmp 4] 0 106
def f268.env : Env := [(22, f22.C), (284, f284.C), (285, f285.C), (286, f286.C), (35, f35.C), (39, f39.C), (25, f25.C), (41, f41.C), (24, f24.C), (43, f43.C)]
def f268.tree (a : ByteArray × Int) : Prop := ∃ c1 : Unit, True ∧ Br (!(lawTrue c1)) ((false = (lawTrue a)) ∧ True) (∃ c5 : ByteArray × Int, (a.1.size = c5.1.size) ∧ (∀ i, i < c5.1.size → DEqs ((gstr a.1) i) ((gstr c5.1) i)) ∧ (a.2 = c5.2) ∧ (takes_pre c5) ∧ ∃ c6 : ByteArray × Int, (a.1.size = c6.1.size) ∧ (∀ i, i < c6.1.size → DEqs ((gstr a.1) i) ((gstr c6.1) i)) ∧ (a.2 = c6.2) ∧ (takes_pre c6) ∧ ∃ c7 : ByteArray × Int, (a.1.size = c7.1.size) ∧ (∀ i, i < c7.1.size → DEqs ((gstr a.1) i) ((gstr c7.1) i)) ∧ (a.2 = c7.2) ∧ (takes_pre c7) ∧ Br (((takeNode c5).2.2) == (0 : Int)) (Br (decide ((a.1.size : Int) < ((takeNode c5).2.1))) ((false = (lawTrue a)) ∧ True) (∃ c13 : T_api_Node, ((((takeNode c5).1).1) = c13.1) ∧ (((((takeNode c5).1).2.1).1) = c13.2.1.1) ∧ (((((takeNode c5).1).2.1).2.1) = c13.2.1.2.1) ∧ (((((takeNode c5).1).2.1).2.2) = c13.2.1.2.2) ∧ (((((takeNode c5).1).2.2).length) = c13.2.2.length) ∧ (∀ i, i < c13.2.2.length → DEqs ((gl e_api_Label (((takeNode c5).1).2.2)) i) ((gl e_api_Label c13.2.2) i)) ∧ (node_pre c13) ∧ Br (!(nodeB c13)) ((false = (lawTrue a)) ∧ True) (∃ c17 : ByteArray × T_api_Node, (0 = c17.1.size) ∧ (∀ i, i < c17.1.size → DEqs (gnil i) ((gstr c17.1) i)) ∧ ((((takeNode c5).1).1) = c17.2.1) ∧ (((((takeNode c5).1).2.1).1) = c17.2.2.1.1) ∧ (((((takeNode c5).1).2.1).2.1) = c17.2.2.1.2.1) ∧ (((((takeNode c5).1).2.1).2.2) = c17.2.2.1.2.2) ∧ (((((takeNode c5).1).2.2).length) = c17.2.2.2.length) ∧ (∀ i, i < c17.2.2.2.length → DEqs ((gl e_api_Label (((takeNode c5).1).2.2)) i) ((gl e_api_Label c17.2.2.2) i)) ∧ (putNode_pre c17) ∧ Bytes ((putNode c17).size) (gstr (putNode c17)) ∧ Let (textOf ((putNode c17).size) (gstr (putNode c17))) (fun v18 : ByteArray => Br (decide ((0 : Int) ≤ a.2) && decide (a.2 ≤ ((takeNode c5).2.1)) && decide (((takeNode c5).2.1) ≤ (a.1.size : Int))) (Br (!(v18.toList == (subB a.1 a.2 ((takeNode c5).2.1)).toList)) ((false = (lawTrue a)) ∧ True) (Br (((takeQueue c6).2.2) == (0 : Int)) (Br (decide ((a.1.size : Int) < ((takeQueue c6).2.1))) ((false = (lawTrue a)) ∧ True) (∃ c28 : T_api_Queue, ((((takeQueue c6).1).1) = c28.1) ∧ (((((takeQueue c6).1).2).1) = c28.2.1) ∧ (((((takeQueue c6).1).2).2.1) = c28.2.2.1) ∧ (((((takeQueue c6).1).2).2.2) = c28.2.2.2) ∧ (queue_pre c28) ∧ Br (!(queueB c28)) ((false = (lawTrue a)) ∧ True) (∃ c32 : ByteArray × T_api_Queue, (0 = c32.1.size) ∧ (∀ i, i < c32.1.size → DEqs (gnil i) ((gstr c32.1) i)) ∧ ((((takeQueue c6).1).1) = c32.2.1) ∧ (((((takeQueue c6).1).2).1) = c32.2.2.1) ∧ (((((takeQueue c6).1).2).2.1) = c32.2.2.2.1) ∧ (((((takeQueue c6).1).2).2.2) = c32.2.2.2.2) ∧ (putQueue_pre c32) ∧ Bytes ((putQueue c32).size) (gstr (putQueue c32)) ∧ Let (textOf ((putQueue c32).size) (gstr (putQueue c32))) (fun v33 : ByteArray => Br (decide ((0 : Int) ≤ a.2) && decide (a.2 ≤ ((takeQueue c6).2.1)) && decide (((takeQueue c6).2.1) ≤ (a.1.size : Int))) (Br (!(v33.toList == (subB a.1 a.2 ((takeQueue c6).2.1)).toList)) ((false = (lawTrue a)) ∧ True) (Br (((takeTask c7).2.2) != (0 : Int)) ((true = (lawTrue a)) ∧ True) (Br (decide (((takeTask c7).2.1) ≤ (a.1.size : Int))) (∃ c43 : T_api_Task, ((((takeTask c7).1).1) = c43.1) ∧ ((((takeTask c7).1).2.1) = c43.2.1) ∧ ((((takeTask c7).1).2.2.1) = c43.2.2.1) ∧ (((((takeTask c7).1).2.2.2.1).1) = c43.2.2.2.1.1) ∧ (((((takeTask c7).1).2.2.2.1).2.1) = c43.2.2.2.1.2.1) ∧ (((((takeTask c7).1).2.2.2.1).2.2) = c43.2.2.2.1.2.2) ∧ (((((takeTask c7).1).2.2.2.2.1).length) = c43.2.2.2.2.1.length) ∧ (∀ i, i < c43.2.2.2.2.1.length → DEqs ((gl e_api_Label (((takeTask c7).1).2.2.2.2.1)) i) ((gl e_api_Label c43.2.2.2.2.1) i)) ∧ ((((takeTask c7).1).2.2.2.2.2.1) = c43.2.2.2.2.2.1) ∧ ((((takeTask c7).1).2.2.2.2.2.2.1) = c43.2.2.2.2.2.2.1) ∧ ((((takeTask c7).1).2.2.2.2.2.2.2) = c43.2.2.2.2.2.2.2) ∧ (task_pre c43) ∧ Br (taskB c43) (∃ c46 : ByteArray × T_api_Task, (0 = c46.1.size) ∧ (∀ i, i < c46.1.size → DEqs (gnil i) ((gstr c46.1) i)) ∧ ((((takeTask c7).1).1) = c46.2.1) ∧ ((((takeTask c7).1).2.1) = c46.2.2.1) ∧ ((((takeTask c7).1).2.2.1) = c46.2.2.2.1) ∧ (((((takeTask c7).1).2.2.2.1).1) = c46.2.2.2.2.1.1) ∧ (((((takeTask c7).1).2.2.2.1).2.1) = c46.2.2.2.2.1.2.1) ∧ (((((takeTask c7).1).2.2.2.1).2.2) = c46.2.2.2.2.1.2.2) ∧ (((((takeTask c7).1).2.2.2.2.1).length) = c46.2.2.2.2.2.1.length) ∧ (∀ i, i < c46.2.2.2.2.2.1.length → DEqs ((gl e_api_Label (((takeTask c7).1).2.2.2.2.1)) i) ((gl e_api_Label c46.2.2.2.2.2.1) i)) ∧ ((((takeTask c7).1).2.2.2.2.2.1) = c46.2.2.2.2.2.2.1) ∧ ((((takeTask c7).1).2.2.2.2.2.2.1) = c46.2.2.2.2.2.2.2.1) ∧ ((((takeTask c7).1).2.2.2.2.2.2.2) = c46.2.2.2.2.2.2.2.2) ∧ (putTask_pre c46) ∧ Bytes ((putTask c46).size) (gstr (putTask c46)) ∧ Let (textOf ((putTask c46).size) (gstr (putTask c46))) (fun v47 : ByteArray => Br (decide ((0 : Int) ≤ a.2) && decide (a.2 ≤ ((takeTask c7).2.1)) && decide (((takeTask c7).2.1) ≤ (a.1.size : Int))) (((v47.toList == (subB a.1 a.2 ((takeTask c7).2.1)).toList) = (lawTrue a)) ∧ True) False)) ((false = (lawTrue a)) ∧ True)) ((false = (lawTrue a)) ∧ True)))) False)))) (Br (((takeTask c7).2.2) != (0 : Int)) ((true = (lawTrue a)) ∧ True) (Br (decide (((takeTask c7).2.1) ≤ (a.1.size : Int))) (∃ c75 : T_api_Task, ((((takeTask c7).1).1) = c75.1) ∧ ((((takeTask c7).1).2.1) = c75.2.1) ∧ ((((takeTask c7).1).2.2.1) = c75.2.2.1) ∧ (((((takeTask c7).1).2.2.2.1).1) = c75.2.2.2.1.1) ∧ (((((takeTask c7).1).2.2.2.1).2.1) = c75.2.2.2.1.2.1) ∧ (((((takeTask c7).1).2.2.2.1).2.2) = c75.2.2.2.1.2.2) ∧ (((((takeTask c7).1).2.2.2.2.1).length) = c75.2.2.2.2.1.length) ∧ (∀ i, i < c75.2.2.2.2.1.length → DEqs ((gl e_api_Label (((takeTask c7).1).2.2.2.2.1)) i) ((gl e_api_Label c75.2.2.2.2.1) i)) ∧ ((((takeTask c7).1).2.2.2.2.2.1) = c75.2.2.2.2.2.1) ∧ ((((takeTask c7).1).2.2.2.2.2.2.1) = c75.2.2.2.2.2.2.1) ∧ ((((takeTask c7).1).2.2.2.2.2.2.2) = c75.2.2.2.2.2.2.2) ∧ (task_pre c75) ∧ Br (taskB c75) (∃ c78 : ByteArray × T_api_Task, (0 = c78.1.size) ∧ (∀ i, i < c78.1.size → DEqs (gnil i) ((gstr c78.1) i)) ∧ ((((takeTask c7).1).1) = c78.2.1) ∧ ((((takeTask c7).1).2.1) = c78.2.2.1) ∧ ((((takeTask c7).1).2.2.1) = c78.2.2.2.1) ∧ (((((takeTask c7).1).2.2.2.1).1) = c78.2.2.2.2.1.1) ∧ (((((takeTask c7).1).2.2.2.1).2.1) = c78.2.2.2.2.1.2.1) ∧ (((((takeTask c7).1).2.2.2.1).2.2) = c78.2.2.2.2.1.2.2) ∧ (((((takeTask c7).1).2.2.2.2.1).length) = c78.2.2.2.2.2.1.length) ∧ (∀ i, i < c78.2.2.2.2.2.1.length → DEqs ((gl e_api_Label (((takeTask c7).1).2.2.2.2.1)) i) ((gl e_api_Label c78.2.2.2.2.2.1) i)) ∧ ((((takeTask c7).1).2.2.2.2.2.1) = c78.2.2.2.2.2.2.1) ∧ ((((takeTask c7).1).2.2.2.2.2.2.1) = c78.2.2.2.2.2.2.2.1) ∧ ((((takeTask c7).1).2.2.2.2.2.2.2) = c78.2.2.2.2.2.2.2.2) ∧ (putTask_pre c78) ∧ Bytes ((putTask c78).size) (gstr (putTask c78)) ∧ Let (textOf ((putTask c78).size) (gstr (putTask c78))) (fun v79 : ByteArray => Br (decide ((0 : Int) ≤ a.2) && decide (a.2 ≤ ((takeTask c7).2.1)) && decide (((takeTask c7).2.1) ≤ (a.1.size : Int))) (((v79.toList == (subB a.1 a.2 ((takeTask c7).2.1)).toList) = (lawTrue a)) ∧ True) False)) ((false = (lawTrue a)) ∧ True)) ((false = (lawTrue a)) ∧ True))))) False)))) (Br (((takeQueue c6).2.2) == (0 : Int)) (Br (decide ((a.1.size : Int) < ((takeQueue c6).2.1))) ((false = (lawTrue a)) ∧ True) (∃ c109 : T_api_Queue, ((((takeQueue c6).1).1) = c109.1) ∧ (((((takeQueue c6).1).2).1) = c109.2.1) ∧ (((((takeQueue c6).1).2).2.1) = c109.2.2.1) ∧ (((((takeQueue c6).1).2).2.2) = c109.2.2.2) ∧ (queue_pre c109) ∧ Br (!(queueB c109)) ((false = (lawTrue a)) ∧ True) (∃ c113 : ByteArray × T_api_Queue, (0 = c113.1.size) ∧ (∀ i, i < c113.1.size → DEqs (gnil i) ((gstr c113.1) i)) ∧ ((((takeQueue c6).1).1) = c113.2.1) ∧ (((((takeQueue c6).1).2).1) = c113.2.2.1) ∧ (((((takeQueue c6).1).2).2.1) = c113.2.2.2.1) ∧ (((((takeQueue c6).1).2).2.2) = c113.2.2.2.2) ∧ (putQueue_pre c113) ∧ Bytes ((putQueue c113).size) (gstr (putQueue c113)) ∧ Let (textOf ((putQueue c113).size) (gstr (putQueue c113))) (fun v114 : ByteArray => Br (decide ((0 : Int) ≤ a.2) && decide (a.2 ≤ ((takeQueue c6).2.1)) && decide (((takeQueue c6).2.1) ≤ (a.1.size : Int))) (Br (!(v114.toList == (subB a.1 a.2 ((takeQueue c6).2.1)).toList)) ((false = (lawTrue a)) ∧ True) (Br (((takeTask c7).2.2) != (0 : Int)) ((true = (lawTrue a)) ∧ True) (Br (decide (((takeTask c7).2.1) ≤ (a.1.size : Int))) (∃ c124 : T_api_Task, ((((takeTask c7).1).1) = c124.1) ∧ ((((takeTask c7).1).2.1) = c124.2.1) ∧ ((((takeTask c7).1).2.2.1) = c124.2.2.1) ∧ (((((takeTask c7).1).2.2.2.1).1) = c124.2.2.2.1.1) ∧ (((((takeTask c7).1).2.2.2.1).2.1) = c124.2.2.2.1.2.1) ∧ (((((takeTask c7).1).2.2.2.1).2.2) = c124.2.2.2.1.2.2) ∧ (((((takeTask c7).1).2.2.2.2.1).length) = c124.2.2.2.2.1.length) ∧ (∀ i, i < c124.2.2.2.2.1.length → DEqs ((gl e_api_Label (((takeTask c7).1).2.2.2.2.1)) i) ((gl e_api_Label c124.2.2.2.2.1) i)) ∧ ((((takeTask c7).1).2.2.2.2.2.1) = c124.2.2.2.2.2.1) ∧ ((((takeTask c7).1).2.2.2.2.2.2.1) = c124.2.2.2.2.2.2.1) ∧ ((((takeTask c7).1).2.2.2.2.2.2.2) = c124.2.2.2.2.2.2.2) ∧ (task_pre c124) ∧ Br (taskB c124) (∃ c127 : ByteArray × T_api_Task, (0 = c127.1.size) ∧ (∀ i, i < c127.1.size → DEqs (gnil i) ((gstr c127.1) i)) ∧ ((((takeTask c7).1).1) = c127.2.1) ∧ ((((takeTask c7).1).2.1) = c127.2.2.1) ∧ ((((takeTask c7).1).2.2.1) = c127.2.2.2.1) ∧ (((((takeTask c7).1).2.2.2.1).1) = c127.2.2.2.2.1.1) ∧ (((((takeTask c7).1).2.2.2.1).2.1) = c127.2.2.2.2.1.2.1) ∧ (((((takeTask c7).1).2.2.2.1).2.2) = c127.2.2.2.2.1.2.2) ∧ (((((takeTask c7).1).2.2.2.2.1).length) = c127.2.2.2.2.2.1.length) ∧ (∀ i, i < c127.2.2.2.2.2.1.length → DEqs ((gl e_api_Label (((takeTask c7).1).2.2.2.2.1)) i) ((gl e_api_Label c127.2.2.2.2.2.1) i)) ∧ ((((takeTask c7).1).2.2.2.2.2.1) = c127.2.2.2.2.2.2.1) ∧ ((((takeTask c7).1).2.2.2.2.2.2.1) = c127.2.2.2.2.2.2.2.1) ∧ ((((takeTask c7).1).2.2.2.2.2.2.2) = c127.2.2.2.2.2.2.2.2) ∧ (putTask_pre c127) ∧ Bytes ((putTask c127).size) (gstr (putTask c127)) ∧ Let (textOf ((putTask c127).size) (gstr (putTask c127))) (fun v128 : ByteArray => Br (decide ((0 : Int) ≤ a.2) && decide (a.2 ≤ ((takeTask c7).2.1)) && decide (((takeTask c7).2.1) ≤ (a.1.size : Int))) (((v128.toList == (subB a.1 a.2 ((takeTask c7).2.1)).toList) = (lawTrue a)) ∧ True) False)) ((false = (lawTrue a)) ∧ True)) ((false = (lawTrue a)) ∧ True)))) False)))) (Br (((takeTask c7).2.2) != (0 : Int)) ((true = (lawTrue a)) ∧ True) (Br (decide (((takeTask c7).2.1) ≤ (a.1.size : Int))) (∃ c156 : T_api_Task, ((((takeTask c7).1).1) = c156.1) ∧ ((((takeTask c7).1).2.1) = c156.2.1) ∧ ((((takeTask c7).1).2.2.1) = c156.2.2.1) ∧ (((((takeTask c7).1).2.2.2.1).1) = c156.2.2.2.1.1) ∧ (((((takeTask c7).1).2.2.2.1).2.1) = c156.2.2.2.1.2.1) ∧ (((((takeTask c7).1).2.2.2.1).2.2) = c156.2.2.2.1.2.2) ∧ (((((takeTask c7).1).2.2.2.2.1).length) = c156.2.2.2.2.1.length) ∧ (∀ i, i < c156.2.2.2.2.1.length → DEqs ((gl e_api_Label (((takeTask c7).1).2.2.2.2.1)) i) ((gl e_api_Label c156.2.2.2.2.1) i)) ∧ ((((takeTask c7).1).2.2.2.2.2.1) = c156.2.2.2.2.2.1) ∧ ((((takeTask c7).1).2.2.2.2.2.2.1) = c156.2.2.2.2.2.2.1) ∧ ((((takeTask c7).1).2.2.2.2.2.2.2) = c156.2.2.2.2.2.2.2) ∧ (task_pre c156) ∧ Br (taskB c156) (∃ c159 : ByteArray × T_api_Task, (0 = c159.1.size) ∧ (∀ i, i < c159.1.size → DEqs (gnil i) ((gstr c159.1) i)) ∧ ((((takeTask c7).1).1) = c159.2.1) ∧ ((((takeTask c7).1).2.1) = c159.2.2.1) ∧ ((((takeTask c7).1).2.2.1) = c159.2.2.2.1) ∧ (((((takeTask c7).1).2.2.2.1).1) = c159.2.2.2.2.1.1) ∧ (((((takeTask c7).1).2.2.2.1).2.1) = c159.2.2.2.2.1.2.1) ∧ (((((takeTask c7).1).2.2.2.1).2.2) = c159.2.2.2.2.1.2.2) ∧ (((((takeTask c7).1).2.2.2.2.1).length) = c159.2.2.2.2.2.1.length) ∧ (∀ i, i < c159.2.2.2.2.2.1.length → DEqs ((gl e_api_Label (((takeTask c7).1).2.2.2.2.1)) i) ((gl e_api_Label c159.2.2.2.2.2.1) i)) ∧ ((((takeTask c7).1).2.2.2.2.2.1) = c159.2.2.2.2.2.2.1) ∧ ((((takeTask c7).1).2.2.2.2.2.2.1) = c159.2.2.2.2.2.2.2.1) ∧ ((((takeTask c7).1).2.2.2.2.2.2.2) = c159.2.2.2.2.2.2.2.2) ∧ (putTask_pre c159) ∧ Bytes ((putTask c159).size) (gstr (putTask c159)) ∧ Let (textOf ((putTask c159).size) (gstr (putTask c159))) (fun v160 : ByteArray => Br (decide ((0 : Int) ≤ a.2) && decide (a.2 ≤ ((takeTask c7).2.1)) && decide (((takeTask c7).2.1) ≤ (a.1.size : Int))) (((v160.toList == (subB a.1 a.2 ((takeTask c7).2.1)).toList) = (lawTrue a)) ∧ True) False)) ((false = (lawTrue a)) ∧ True)) ((false = (lawTrue a)) ∧ True)))))
def f268.vc (a : ByteArray × Int) : Prop := ((¬ ((lawTrue ()) = true) → (false = lawTrue a)) ∧ (¬ (¬ ((lawTrue ()) = true)) → (takes_pre (a.1, a.2) ∧ (takes_pre (a.1, a.2) ∧ (takes_pre (a.1, a.2) ∧ ((((takeNode (a.1, a.2)).2.2) = (0 : Int) → (((a.1.size : Int) < ((takeNode (a.1, a.2)).2.1) → (false = lawTrue a)) ∧ (¬ ((a.1.size : Int) < ((takeNode (a.1, a.2)).2.1)) → (node_pre ((takeNode (a.1, a.2)).1) ∧ ((¬ ((nodeB ((takeNode (a.1, a.2)).1)) = true) → (false = lawTrue a)) ∧ (¬ (¬ ((nodeB ((takeNode (a.1, a.2)).1)) = true)) → (putNode_pre (ByteArray.empty, ((takeNode (a.1, a.2)).1)) ∧ ((0 : Int) ≤ a.2 ∧ a.2 ≤ ((takeNode (a.1, a.2)).2.1) ∧ ((takeNode (a.1, a.2)).2.1) ≤ (a.1.size : Int) ∧ ((¬ ((putNode (ByteArray.empty, ((takeNode (a.1, a.2)).1))) = (subB a.1 a.2 ((takeNode (a.1, a.2)).2.1))) → (false = lawTrue a)) ∧ (¬ (¬ ((putNode (ByteArray.empty, ((takeNode (a.1, a.2)).1))) = (subB a.1 a.2 ((takeNode (a.1, a.2)).2.1)))) → ((((takeQueue (a.1, a.2)).2.2) = (0 : Int) → (((a.1.size : Int) < ((takeQueue (a.1, a.2)).2.1) → (false = lawTrue a)) ∧ (¬ ((a.1.size : Int) < ((takeQueue (a.1, a.2)).2.1)) → (queue_pre ((takeQueue (a.1, a.2)).1) ∧ ((¬ ((queueB ((takeQueue (a.1, a.2)).1)) = true) → (false = lawTrue a)) ∧ (¬ (¬ ((queueB ((takeQueue (a.1, a.2)).1)) = true)) → (putQueue_pre (ByteArray.empty, ((takeQueue (a.1, a.2)).1)) ∧ ((0 : Int) ≤ a.2 ∧ a.2 ≤ ((takeQueue (a.1, a.2)).2.1) ∧ ((takeQueue (a.1, a.2)).2.1) ≤ (a.1.size : Int) ∧ ((¬ ((putQueue (ByteArray.empty, ((takeQueue (a.1, a.2)).1))) = (subB a.1 a.2 ((takeQueue (a.1, a.2)).2.1))) → (false = lawTrue a)) ∧ (¬ (¬ ((putQueue (ByteArray.empty, ((takeQueue (a.1, a.2)).1))) = (subB a.1 a.2 ((takeQueue (a.1, a.2)).2.1)))) → ((¬ ((takeTask (a.1, a.2)).2.2) = (0 : Int) → (true = lawTrue a)) ∧ (¬ (¬ ((takeTask (a.1, a.2)).2.2) = (0 : Int)) → ((((takeTask (a.1, a.2)).2.1) ≤ (a.1.size : Int) → (task_pre ((takeTask (a.1, a.2)).1) ∧ (((taskB ((takeTask (a.1, a.2)).1)) = true → (putTask_pre (ByteArray.empty, ((takeTask (a.1, a.2)).1)) ∧ ((0 : Int) ≤ a.2 ∧ a.2 ≤ ((takeTask (a.1, a.2)).2.1) ∧ ((takeTask (a.1, a.2)).2.1) ≤ (a.1.size : Int) ∧ (((putTask (ByteArray.empty, ((takeTask (a.1, a.2)).1))).toList == (subB a.1 a.2 ((takeTask (a.1, a.2)).2.1)).toList) = lawTrue a)))) ∧ (¬ ((taskB ((takeTask (a.1, a.2)).1)) = true) → (false = lawTrue a))))) ∧ (¬ (((takeTask (a.1, a.2)).2.1) ≤ (a.1.size : Int)) → (false = lawTrue a))))))))))))))) ∧ (¬ (((takeQueue (a.1, a.2)).2.2) = (0 : Int)) → ((¬ ((takeTask (a.1, a.2)).2.2) = (0 : Int) → (true = lawTrue a)) ∧ (¬ (¬ ((takeTask (a.1, a.2)).2.2) = (0 : Int)) → ((((takeTask (a.1, a.2)).2.1) ≤ (a.1.size : Int) → (task_pre ((takeTask (a.1, a.2)).1) ∧ (((taskB ((takeTask (a.1, a.2)).1)) = true → (putTask_pre (ByteArray.empty, ((takeTask (a.1, a.2)).1)) ∧ ((0 : Int) ≤ a.2 ∧ a.2 ≤ ((takeTask (a.1, a.2)).2.1) ∧ ((takeTask (a.1, a.2)).2.1) ≤ (a.1.size : Int) ∧ (((putTask (ByteArray.empty, ((takeTask (a.1, a.2)).1))).toList == (subB a.1 a.2 ((takeTask (a.1, a.2)).2.1)).toList) = lawTrue a)))) ∧ (¬ ((taskB ((takeTask (a.1, a.2)).1)) = true) → (false = lawTrue a))))) ∧ (¬ (((takeTask (a.1, a.2)).2.1) ≤ (a.1.size : Int)) → (false = lawTrue a))))))))))))))))) ∧ (¬ (((takeNode (a.1, a.2)).2.2) = (0 : Int)) → ((((takeQueue (a.1, a.2)).2.2) = (0 : Int) → (((a.1.size : Int) < ((takeQueue (a.1, a.2)).2.1) → (false = lawTrue a)) ∧ (¬ ((a.1.size : Int) < ((takeQueue (a.1, a.2)).2.1)) → (queue_pre ((takeQueue (a.1, a.2)).1) ∧ ((¬ ((queueB ((takeQueue (a.1, a.2)).1)) = true) → (false = lawTrue a)) ∧ (¬ (¬ ((queueB ((takeQueue (a.1, a.2)).1)) = true)) → (putQueue_pre (ByteArray.empty, ((takeQueue (a.1, a.2)).1)) ∧ ((0 : Int) ≤ a.2 ∧ a.2 ≤ ((takeQueue (a.1, a.2)).2.1) ∧ ((takeQueue (a.1, a.2)).2.1) ≤ (a.1.size : Int) ∧ ((¬ ((putQueue (ByteArray.empty, ((takeQueue (a.1, a.2)).1))) = (subB a.1 a.2 ((takeQueue (a.1, a.2)).2.1))) → (false = lawTrue a)) ∧ (¬ (¬ ((putQueue (ByteArray.empty, ((takeQueue (a.1, a.2)).1))) = (subB a.1 a.2 ((takeQueue (a.1, a.2)).2.1)))) → ((¬ ((takeTask (a.1, a.2)).2.2) = (0 : Int) → (true = lawTrue a)) ∧ (¬ (¬ ((takeTask (a.1, a.2)).2.2) = (0 : Int)) → ((((takeTask (a.1, a.2)).2.1) ≤ (a.1.size : Int) → (task_pre ((takeTask (a.1, a.2)).1) ∧ (((taskB ((takeTask (a.1, a.2)).1)) = true → (putTask_pre (ByteArray.empty, ((takeTask (a.1, a.2)).1)) ∧ ((0 : Int) ≤ a.2 ∧ a.2 ≤ ((takeTask (a.1, a.2)).2.1) ∧ ((takeTask (a.1, a.2)).2.1) ≤ (a.1.size : Int) ∧ (((putTask (ByteArray.empty, ((takeTask (a.1, a.2)).1))).toList == (subB a.1 a.2 ((takeTask (a.1, a.2)).2.1)).toList) = lawTrue a)))) ∧ (¬ ((taskB ((takeTask (a.1, a.2)).1)) = true) → (false = lawTrue a))))) ∧ (¬ (((takeTask (a.1, a.2)).2.1) ≤ (a.1.size : Int)) → (false = lawTrue a))))))))))))))) ∧ (¬ (((takeQueue (a.1, a.2)).2.2) = (0 : Int)) → ((¬ ((takeTask (a.1, a.2)).2.2) = (0 : Int) → (true = lawTrue a)) ∧ (¬ (¬ ((takeTask (a.1, a.2)).2.2) = (0 : Int)) → ((((takeTask (a.1, a.2)).2.1) ≤ (a.1.size : Int) → (task_pre ((takeTask (a.1, a.2)).1) ∧ (((taskB ((takeTask (a.1, a.2)).1)) = true → (putTask_pre (ByteArray.empty, ((takeTask (a.1, a.2)).1)) ∧ ((0 : Int) ≤ a.2 ∧ a.2 ≤ ((takeTask (a.1, a.2)).2.1) ∧ ((takeTask (a.1, a.2)).2.1) ≤ (a.1.size : Int) ∧ (((putTask (ByteArray.empty, ((takeTask (a.1, a.2)).1))).toList == (subB a.1 a.2 ((takeTask (a.1, a.2)).2.1)).toList) = lawTrue a)))) ∧ (¬ ((taskB ((takeTask (a.1, a.2)).1)) = true) → (false = lawTrue a))))) ∧ (¬ (((takeTask (a.1, a.2)).2.1) ≤ (a.1.size : Int)) → (false = lawTrue a))))))))))))))
set_option maxRecDepth 100000 in
set_option maxHeartbeats 2000000 in
theorem f268.of (a : ByteArray × Int) (h : f268.vc a) : f268.tree a := ⟨(), ⟨trivial, br h (Cnd.not Cnd.b) (fun h2 k181 => ⟨k181, trivial⟩) (fun h3 k182 => ⟨(a.1, a.2), slK RdB.self (⟨rfl, ⟨k182.1, ⟨(a.1, a.2), slK RdB.self (⟨rfl, ⟨k182.2.1, ⟨(a.1, a.2), slK RdB.self (⟨rfl, ⟨k182.2.2.1, br k182.2.2.2 Cnd.eq (fun h8 k176 => br k176 Cnd.dec (fun h10 k102 => ⟨k102, trivial⟩) (fun h11 k103 => ⟨((takeNode (a.1, a.2)).1), ⟨rfl, ⟨rfl, ⟨rfl, ⟨rfl, slK (Rds.self (enc := e_api_Label)) (⟨k103.1, br k103.2 (Cnd.not Cnd.b) (fun h14 k99 => ⟨k99, trivial⟩) (fun h15 k100 => ⟨(ByteArray.empty, ((takeNode (a.1, a.2)).1)), slK RdB.nil (⟨rfl, ⟨rfl, ⟨rfl, ⟨rfl, slK (Rds.self (enc := e_api_Label)) (⟨k100.1, b2s k100.2 RdB.self (fun h => chk h.2.2.2 Cnd.ss ⟨h.1, h.2.1, h.2.2.1⟩ (fun h19 k97 => br k97 (Cnd.not Cnd.seq) (fun h20 k95 => ⟨k95, trivial⟩) (fun h21 k96 => br k96 Cnd.eq (fun h23 k93 => br k93 Cnd.dec (fun h25 k68 => ⟨k68, trivial⟩) (fun h26 k69 => ⟨((takeQueue (a.1, a.2)).1), ⟨rfl, ⟨rfl, ⟨rfl, ⟨rfl, ⟨k69.1, br k69.2 (Cnd.not Cnd.b) (fun h29 k65 => ⟨k65, trivial⟩) (fun h30 k66 => ⟨(ByteArray.empty, ((takeQueue (a.1, a.2)).1)), slK RdB.nil (⟨rfl, ⟨rfl, ⟨rfl, ⟨rfl, ⟨k66.1, b2s k66.2 RdB.self (fun h => chk h.2.2.2 Cnd.ss ⟨h.1, h.2.1, h.2.2.1⟩ (fun h34 k63 => br k63 (Cnd.not Cnd.seq) (fun h35 k61 => ⟨k61, trivial⟩) (fun h36 k62 => br k62 Cnd.ne (fun h38 k59 => ⟨k59, trivial⟩) (fun h39 k60 => br k60 Cnd.dec (fun h41 k57 => ⟨((takeTask (a.1, a.2)).1), ⟨rfl, ⟨rfl, ⟨rfl, ⟨rfl, ⟨rfl, ⟨rfl, slK (Rds.self (enc := e_api_Label)) (⟨rfl, ⟨rfl, ⟨rfl, ⟨k57.1, br k57.2 Cnd.b (fun h44 k53 => ⟨(ByteArray.empty, ((takeTask (a.1, a.2)).1)), slK RdB.nil (⟨rfl, ⟨rfl, ⟨rfl, ⟨rfl, ⟨rfl, ⟨rfl, slK (Rds.self (enc := e_api_Label)) (⟨rfl, ⟨rfl, ⟨rfl, ⟨k53.1, b2s k53.2 RdB.self (fun h => chk h.2.2.2 Cnd.ss ⟨h.1, h.2.1, h.2.2.1⟩ (fun h48 k50 => ⟨k50, trivial⟩))⟩⟩⟩⟩)⟩⟩⟩⟩⟩⟩)⟩) (fun h45 k54 => ⟨k54, trivial⟩)⟩⟩⟩⟩)⟩⟩⟩⟩⟩⟩⟩) (fun h42 k58 => ⟨k58, trivial⟩)))))⟩⟩⟩⟩⟩)⟩)⟩⟩⟩⟩⟩⟩)) (fun h24 k94 => br k94 Cnd.ne (fun h70 k91 => ⟨k91, trivial⟩) (fun h71 k92 => br k92 Cnd.dec (fun h73 k89 => ⟨((takeTask (a.1, a.2)).1), ⟨rfl, ⟨rfl, ⟨rfl, ⟨rfl, ⟨rfl, ⟨rfl, slK (Rds.self (enc := e_api_Label)) (⟨rfl, ⟨rfl, ⟨rfl, ⟨k89.1, br k89.2 Cnd.b (fun h76 k85 => ⟨(ByteArray.empty, ((takeTask (a.1, a.2)).1)), slK RdB.nil (⟨rfl, ⟨rfl, ⟨rfl, ⟨rfl, ⟨rfl, ⟨rfl, slK (Rds.self (enc := e_api_Label)) (⟨rfl, ⟨rfl, ⟨rfl, ⟨k85.1, b2s k85.2 RdB.self (fun h => chk h.2.2.2 Cnd.ss ⟨h.1, h.2.1, h.2.2.1⟩ (fun h80 k82 => ⟨k82, trivial⟩))⟩⟩⟩⟩)⟩⟩⟩⟩⟩⟩)⟩) (fun h77 k86 => ⟨k86, trivial⟩)⟩⟩⟩⟩)⟩⟩⟩⟩⟩⟩⟩) (fun h74 k90 => ⟨k90, trivial⟩))))))⟩)⟩⟩⟩⟩)⟩)⟩)⟩⟩⟩⟩⟩)) (fun h9 k177 => br k177 Cnd.eq (fun h104 k174 => br k174 Cnd.dec (fun h106 k149 => ⟨k149, trivial⟩) (fun h107 k150 => ⟨((takeQueue (a.1, a.2)).1), ⟨rfl, ⟨rfl, ⟨rfl, ⟨rfl, ⟨k150.1, br k150.2 (Cnd.not Cnd.b) (fun h110 k146 => ⟨k146, trivial⟩) (fun h111 k147 => ⟨(ByteArray.empty, ((takeQueue (a.1, a.2)).1)), slK RdB.nil (⟨rfl, ⟨rfl, ⟨rfl, ⟨rfl, ⟨k147.1, b2s k147.2 RdB.self (fun h => chk h.2.2.2 Cnd.ss ⟨h.1, h.2.1, h.2.2.1⟩ (fun h115 k144 => br k144 (Cnd.not Cnd.seq) (fun h116 k142 => ⟨k142, trivial⟩) (fun h117 k143 => br k143 Cnd.ne (fun h119 k140 => ⟨k140, trivial⟩) (fun h120 k141 => br k141 Cnd.dec (fun h122 k138 => ⟨((takeTask (a.1, a.2)).1), ⟨rfl, ⟨rfl, ⟨rfl, ⟨rfl, ⟨rfl, ⟨rfl, slK (Rds.self (enc := e_api_Label)) (⟨rfl, ⟨rfl, ⟨rfl, ⟨k138.1, br k138.2 Cnd.b (fun h125 k134 => ⟨(ByteArray.empty, ((takeTask (a.1, a.2)).1)), slK RdB.nil (⟨rfl, ⟨rfl, ⟨rfl, ⟨rfl, ⟨rfl, ⟨rfl, slK (Rds.self (enc := e_api_Label)) (⟨rfl, ⟨rfl, ⟨rfl, ⟨k134.1, b2s k134.2 RdB.self (fun h => chk h.2.2.2 Cnd.ss ⟨h.1, h.2.1, h.2.2.1⟩ (fun h129 k131 => ⟨k131, trivial⟩))⟩⟩⟩⟩)⟩⟩⟩⟩⟩⟩)⟩) (fun h126 k135 => ⟨k135, trivial⟩)⟩⟩⟩⟩)⟩⟩⟩⟩⟩⟩⟩) (fun h123 k139 => ⟨k139, trivial⟩)))))⟩⟩⟩⟩⟩)⟩)⟩⟩⟩⟩⟩⟩)) (fun h105 k175 => br k175 Cnd.ne (fun h151 k172 => ⟨k172, trivial⟩) (fun h152 k173 => br k173 Cnd.dec (fun h154 k170 => ⟨((takeTask (a.1, a.2)).1), ⟨rfl, ⟨rfl, ⟨rfl, ⟨rfl, ⟨rfl, ⟨rfl, slK (Rds.self (enc := e_api_Label)) (⟨rfl, ⟨rfl, ⟨rfl, ⟨k170.1, br k170.2 Cnd.b (fun h157 k166 => ⟨(ByteArray.empty, ((takeTask (a.1, a.2)).1)), slK RdB.nil (⟨rfl, ⟨rfl, ⟨rfl, ⟨rfl, ⟨rfl, ⟨rfl, slK (Rds.self (enc := e_api_Label)) (⟨rfl, ⟨rfl, ⟨rfl, ⟨k166.1, b2s k166.2 RdB.self (fun h => chk h.2.2.2 Cnd.ss ⟨h.1, h.2.1, h.2.2.1⟩ (fun h161 k163 => ⟨k163, trivial⟩))⟩⟩⟩⟩)⟩⟩⟩⟩⟩⟩)⟩) (fun h158 k167 => ⟨k167, trivial⟩)⟩⟩⟩⟩)⟩⟩⟩⟩⟩⟩⟩) (fun h155 k171 => ⟨k171, trivial⟩))))⟩⟩)⟩⟩⟩)⟩⟩⟩)⟩)⟩⟩
theorem f268.eq (a : ByteArray × Int) : (f268.af a).gives f268.env (f268.args a) (f268.blks a) (f268.res a) (f268.blks' a) = f268.tree a := by kernel_rfl
end Go.Abs

/- The laws ModelTakes, ModelBack, ModelOne. -/
namespace Go.Abs
open Go
theorem nodeS_ok {n : TNode} (h : nodeB n = true) : nodeS n = nodeS0 n := by unfold nodeS; rw [if_pos h]
theorem queueS_ok {n : TQueue} (h : queueB n = true) : queueS n = queueS0 n := by unfold queueS; rw [if_pos h]
theorem taskS_ok {n : TTask} (h : taskB n = true) : taskS n = taskS0 n := by unfold taskS; rw [if_pos h]
theorem node_pre_ok {n : TNode} (h : nodeB n = true) : node_pre n := by
  obtain ⟨h1, _, h3⟩ := nodeB_iff.1 h
  exact ⟨Nat.le_trans (name_size h1) (by decide), fun x hx => by have := lbl_size h3 x hx; omega⟩
theorem queue_pre_ok {n : TQueue} (h : queueB n = true) : queue_pre n := Nat.le_trans (name_size (queueB_iff.1 h).1) (by decide)
theorem task_pre_ok {n : TTask} (h : taskB n = true) : task_pre n := by
  obtain ⟨h1, h2, _, _, h5, h6, h7, _⟩ := taskB_iff.1 h
  exact ⟨Nat.le_trans (name_size h1) (by decide), Nat.le_trans (name_size h2) (by decide), fun x hx => by have := lbl_size h5 x hx; omega, Nat.le_trans (maybe_size h6) (by decide), Nat.le_trans (maybe_size h7) (by decide)⟩

theorem f268.ok (a : ByteArray × Int) (h : f268.lpre a) : f268.vc a := by
  obtain ⟨_, hs⟩ := h
  obtain ⟨b, i⟩ := a
  have hs : b.size + 1 + 1 ≤ 1048576 := hs
  have ht : takes_pre (b, i) := show b.size ≤ 536870912 by omega
  have ez : ByteArray.empty.size ≤ 67108864 := Nat.zero_le _
  have T : ¬ ¬ (takeTask (b, i)).2.2 = 0 → ((takeTask (b, i)).2.1 ≤ (b.size : Int) → task_pre (takeTask (b, i)).1 ∧ (taskB (takeTask (b, i)).1 = true → putTask_pre (ByteArray.empty, (takeTask (b, i)).1) ∧ (0 : Int) ≤ i ∧ i ≤ (takeTask (b, i)).2.1 ∧ (takeTask (b, i)).2.1 ≤ (b.size : Int) ∧ ((putTask (ByteArray.empty, (takeTask (b, i)).1)).toList == (subB b i (takeTask (b, i)).2.1).toList) = lawTrue (b, i)) ∧ (¬ taskB (takeTask (b, i)).1 = true → false = lawTrue (b, i))) ∧
      (¬ (takeTask (b, i)).2.1 ≤ (b.size : Int) → false = lawTrue (b, i)) := fun e => by
    obtain ⟨o1, o2, o3, o4, o5⟩ := task_one b i (Classical.not_not.1 e)
    refine ⟨fun _ => ⟨task_pre_ok o1, fun _ => ⟨⟨ez, task_pre_ok o1⟩, o2, o3, o4, ?_⟩, fun c => absurd o1 c⟩, fun c => absurd o4 c⟩
    unfold putTask
    simp only
    rw [empty_app, taskS_ok o1, o5]
    simp [lawTrue]
  have T0 : (¬ (takeTask (b, i)).2.2 = 0 → true = lawTrue (b, i)) := fun _ => rfl
  have Q := fun e : (takeQueue (b, i)).2.2 = 0 => queue_one b i e
  have N := fun e : (takeNode (b, i)).2.2 = 0 => node_one b i e
  have Q1 : ((takeQueue (b, i)).2.2 = 0 → ((b.size : Int) < (takeQueue (b, i)).2.1 → false = lawTrue (b, i)) ∧ (¬ (b.size : Int) < (takeQueue (b, i)).2.1 → queue_pre (takeQueue (b, i)).1 ∧ (¬ queueB (takeQueue (b, i)).1 = true → false = lawTrue (b, i)) ∧ (¬ ¬ queueB (takeQueue (b, i)).1 = true → putQueue_pre (ByteArray.empty, (takeQueue (b, i)).1) ∧ (0 : Int) ≤ i ∧ i ≤ (takeQueue (b, i)).2.1 ∧ (takeQueue (b, i)).2.1 ≤ (b.size : Int) ∧
      (¬ putQueue (ByteArray.empty, (takeQueue (b, i)).1) = subB b i (takeQueue (b, i)).2.1 → false = lawTrue (b, i)) ∧ (¬ ¬ putQueue (ByteArray.empty, (takeQueue (b, i)).1) = subB b i (takeQueue (b, i)).2.1 → (¬ (takeTask (b, i)).2.2 = 0 → true = lawTrue (b, i)) ∧ (¬ ¬ (takeTask (b, i)).2.2 = 0 → ((takeTask (b, i)).2.1 ≤ (b.size : Int) → task_pre (takeTask (b, i)).1 ∧ (taskB (takeTask (b, i)).1 = true → putTask_pre (ByteArray.empty, (takeTask (b, i)).1) ∧ (0 : Int) ≤ i ∧ i ≤ (takeTask (b, i)).2.1 ∧ (takeTask (b, i)).2.1 ≤ (b.size : Int) ∧ ((putTask (ByteArray.empty, (takeTask (b, i)).1)).toList == (subB b i (takeTask (b, i)).2.1).toList) = lawTrue (b, i)) ∧ (¬ taskB (takeTask (b, i)).1 = true → false = lawTrue (b, i))) ∧
      (¬ (takeTask (b, i)).2.1 ≤ (b.size : Int) → false = lawTrue (b, i))))))) := fun e => by
    obtain ⟨o1, o2, o3, o4, o5⟩ := Q e
    refine ⟨fun c => absurd c (by omega), fun _ => ⟨queue_pre_ok o1, fun c => absurd o1 c, fun _ => ⟨⟨ez, queue_pre_ok o1⟩, o2, o3, o4, fun c => absurd ?_ c, fun _ => ⟨T0, T⟩⟩⟩⟩
    unfold putQueue
    simp only
    rw [empty_app, queueS_ok o1, o5]
  refine ⟨fun c => absurd rfl c, fun _ => ⟨ht, ht, ht, fun e => ?_, fun _ => ⟨Q1, fun _ => ⟨T0, T⟩⟩⟩⟩
  obtain ⟨o1, o2, o3, o4, o5⟩ := N e
  refine ⟨fun c => absurd c (by show ¬ (b.size : Int) < (takeNode (b, i)).2.1; omega), fun _ => ⟨node_pre_ok o1, fun c => absurd o1 c, fun _ => ⟨⟨ez, node_pre_ok o1⟩, o2, o3, o4, fun c => absurd ?_ c, fun _ => ⟨Q1, fun _ => ⟨T0, T⟩⟩⟩⟩⟩
  unfold putNode
  simp only
  rw [empty_app, nodeS_ok o1, o5]

end Go.Abs
