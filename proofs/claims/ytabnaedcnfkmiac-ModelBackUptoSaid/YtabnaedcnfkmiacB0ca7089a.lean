/- Functions, and what the code asks of them: PReadLaw. -/
import Derived.KernelRfl
import Derived.Test.YtabnaedcnfkmiacB2ec74511
import Derived.Test.YtabnaedcnfkmiacB31998077
import Derived.Test.YtabnaedcnfkmiacBd61faba8
import Derived.Test.YtabnaedcnfkmiacB444ad5fe
import Derived.Test.YtabnaedcnfkmiacBcedf235b
import Derived.Test.YtabnaedcnfkmiacB9689545e
import Derived.Test.YtabnaedcnfkmiacB82ff385e
set_option linter.unusedVariables false
set_option linter.unusedSimpArgs false
/- What readers read, in plain words. -/
namespace Go.Abs
open Go

/-- If nothing went wrong: what was read are these bytes. -/
def Reads_ (r s : TRd) (bs : ByteArray) : Prop := s.1 = r.1 ∧ (s.2.2 = 0 → r.2.2 = 0 ∧ 0 ≤ r.2.1 ∧ r.2.1 ≤ s.2.1 ∧ s.2.1 ≤ r.1.size ∧ subB r.1 r.2.1 s.2.1 = bs)

theorem Reads_.trans {r s t : TRd} {x y : ByteArray} (h : Reads_ r s x) (k : Reads_ s t y) : Reads_ r t (x ++ y) := by
  obtain ⟨h1, h2⟩ := h
  obtain ⟨k1, k2⟩ := k
  refine ⟨k1.trans h1, fun e => ?_⟩
  obtain ⟨a1, a2, a3, a4, a5⟩ := k2 e
  obtain ⟨b1, b2, b3, b4, b5⟩ := h2 a1
  rw [h1] at a4 a5
  refine ⟨b1, b2, by omega, a4, ?_⟩
  rw [← b5, ← a5, subB_app b2 b3 a3 a4]

theorem reads_num {a : TRd × Int × Int} (h : a.2.2 ≠ 0) : Reads_ a.1 (rdNum a).2 (num (rdNum a).1.toNat) := by
  refine ⟨rdNum_b a, ?_⟩
  unfold rdNum
  split
  · rename_i c; exact fun e => absurd e c
  split
  · rename_i c; exact fun e => absurd e c
  split
  · exact fun e => absurd e h
  · rename_i c1 c2 c3
    intro _
    obtain ⟨t1, t2, t3, t4⟩ := takeN_ok (Classical.not_not.1 c2)
    exact ⟨Classical.not_not.1 c1, t1, Int.le_of_lt t2, t3, t4.symm⟩

theorem reads_text (r : TRd) : Reads_ r (rdText r).2 (textS (rdText r).1) := by
  refine ⟨rdText_b r, ?_⟩
  unfold rdText
  split
  · rename_i c; exact fun e => absurd e c
  · rename_i c
    intro e
    obtain ⟨t1, t2, t3, t4, t5⟩ := takeText_ok e
    exact ⟨Classical.not_not.1 c, t3, Int.le_of_lt t1, t2, t5.symm⟩

theorem reads_amt (r : TRd) : Reads_ r (rdAmt r).2 (amtS (rdAmt r).1) := by
  have h1 := reads_num (a := (r, 1048576, 3)) (show (3 : Int) ≠ 0 by decide)
  have h2 := reads_num (a := ((rdN20 r).2, 1048576, 3)) (show (3 : Int) ≠ 0 by decide)
  have h3 := reads_num (a := ((rdN20 (rdN20 r).2).2, 1048576, 3)) (show (3 : Int) ≠ 0 by decide)
  exact (h1.trans h2).trans h3

theorem reads_loop : ∀ (n : Nat) (out : List TLbl) (r : TRd), ∃ l, (lblLoop rdText n out r).1 = out ++ l ∧ l.length = n ∧ ((lblLoop rdText n out r).2.2.2 = 0 → n = 0 ∨ Reads_ r (lblLoop rdText n out r).2 (lblsS0 l))
  | 0, out, r => ⟨[], by simp [lblLoop], rfl, fun _ => .inl rfl⟩
  | n + 1, out, r => by
    obtain ⟨l, h1, h2, h3⟩ := reads_loop n (out ++ [((rdText r).1, (rdText (rdText r).2).1)]) (rdText (rdText r).2).2
    refine ⟨((rdText r).1, (rdText (rdText r).2).1) :: l, ?_, by rw [List.length_cons, h2], fun e => .inr ?_⟩
    · rw [lblLoop, h1]; simp
    · rw [lblLoop] at e ⊢
      have k1 := (reads_text r).trans (reads_text (rdText r).2)
      rcases h3 e with h3 | h3
      · subst h3
        have : l = [] := List.length_eq_zero_iff.1 h2
        subst this
        rw [lblLoop]
        show Reads_ r _ (textS _ ++ textS _ ++ lblsS0 [])
        rw [show lblsS0 [] = ByteArray.empty from rfl, app_empty]
        exact k1
      · exact k1.trans h3

theorem reads_lbls (r : TRd) : Reads_ r (lblsP rdText r).2 (lblsS (lblsP rdText r).1) := by
  have h1 := reads_num (a := (r, 4, 4)) (show (4 : Int) ≠ 0 by decide)
  obtain ⟨l, k1, k2, k3⟩ := reads_loop (rdNum (r, 4, 4)).1.toNat [] (rdNum (r, 4, 4)).2
  rw [List.nil_append] at k1
  have hb := lblsP_b rdText_b r
  refine ⟨hb, fun e => ?_⟩
  have hl : (lblsP rdText r).1 = l := k1
  have e1 : lblsS (lblsP rdText r).1 = num (rdNum (r, 4, 4)).1.toNat ++ lblsS0 l := by rw [hl]; unfold lblsS; rw [k2]
  rw [e1]
  rcases k3 e with k3 | k3
  · have hl0 : l = [] := List.length_eq_zero_iff.1 (k2.trans k3)
    have e2 : (lblsP rdText r).2 = (rdNum (r, 4, 4)).2 := by unfold lblsP; rw [k3]; rfl
    rw [e2, hl0, show lblsS0 [] = ByteArray.empty from rfl, app_empty]
    rw [e2] at e
    exact h1.2 e
  · exact (h1.trans k3).2 e

theorem reads_node (r : TRd) : Reads_ r (nodeP rdText r).2 (nodeS0 (nodeP rdText r).1) := ((reads_text r).trans (reads_amt _)).trans (reads_lbls _)
theorem reads_queue (r : TRd) : Reads_ r (queueP rdText r).2 (queueS0 (queueP rdText r).1) := (reads_text r).trans (reads_amt _)
theorem reads_task (r : TRd) : Reads_ r (taskP rdText r).2 (taskS0 (taskP rdText r).1) :=
  (((((((reads_text r).trans (reads_text _)).trans (reads_num (a := (_, 1048576, 3)) (show (3 : Int) ≠ 0 by decide))).trans (reads_amt _)).trans (reads_lbls _)).trans (reads_text _)).trans (reads_text _)).trans (reads_num (a := (_, 1048576, 3)) (show (3 : Int) ≠ 0 by decide))

/-- What is taken can be, and its bytes are those that were read. -/
def One {α : Type} (take : ByteArray × Int → α × Int × Int) (ok : α → Bool) (bytes : α → ByteArray) : Prop :=
  ∀ b i, (take (b, i)).2.2 = 0 → ok (take (b, i)).1 = true ∧ 0 ≤ i ∧ i ≤ (take (b, i)).2.1 ∧ (take (b, i)).2.1 ≤ b.size ∧ subB b i (take (b, i)).2.1 = bytes (take (b, i)).1

theorem end_one {α : Type} {z : α} {p : α × TRd} {ok : Bool} (h : (endP z p ok).2.2 = 0) : p.2.2.2 = 0 ∧ ok = true ∧ endP z p ok = (p.1, p.2.2.1, 0) := by
  unfold endP at h ⊢
  unfold rdEnd at h ⊢
  simp only at h ⊢
  by_cases c : p.2.2.2 = 0
  · by_cases d : ok = true
    · simp [c, d]
    · simp [c, d] at h
  · simp [c] at h

theorem one_of {α : Type} {z : α} {P : TRd → α × TRd} {ok : α → Bool} {bytes : α → ByteArray} (h : ∀ r, Reads_ r (P r).2 (bytes (P r).1)) : One (fun a => endP z (P (a.1, a.2, 0)) (ok (P (a.1, a.2, 0)).1)) ok bytes := fun b i e => by
  obtain ⟨h1, h2, h3⟩ := end_one e
  obtain ⟨k1, k2, k3, k4, k5⟩ := (h (b, i, 0)).2 h1
  have h3 : (fun a : ByteArray × Int => endP z (P (a.1, a.2, 0)) (ok (P (a.1, a.2, 0)).1)) (b, i) = _ := h3
  rw [h3]
  exact ⟨h2, k2, k3, k4, k5⟩

theorem node_one : One takeNode nodeB nodeS0 := one_of (P := nodeP rdText) reads_node
theorem queue_one : One takeQueue queueB queueS0 := one_of (P := queueP rdText) reads_queue
theorem task_one : One takeTask taskB taskS0 := one_of (P := taskP rdText) reads_task

/-- From i on these bytes stand. -/
def At (b : ByteArray) (i : Int) (bs : ByteArray) : Prop := ∃ x y, b = x ++ bs ++ y ∧ i = (x.size : Int)
theorem At.left {b : ByteArray} {i : Int} {p q : ByteArray} (h : At b i (p ++ q)) : At b i p := by
  obtain ⟨x, y, rfl, rfl⟩ := h
  exact ⟨x, q ++ y, by simp only [app_assoc], rfl⟩
theorem At.right {b : ByteArray} {i : Int} {p q : ByteArray} (h : At b i (p ++ q)) : At b (i + p.size) q := by
  obtain ⟨x, y, rfl, rfl⟩ := h
  exact ⟨x ++ p, y, by simp only [app_assoc], by rw [size_app]; omega⟩
theorem At.more {b c : ByteArray} {i : Int} {p : ByteArray} (h : At b i p) : At (b ++ c) i p := by
  obtain ⟨x, y, rfl, rfl⟩ := h
  exact ⟨x, y ++ c, by simp only [app_assoc], rfl⟩

theorem num_back {b : ByteArray} {i : Int} {n m e : Int} (h : At b i (num n.toNat)) (h0 : 0 ≤ n) (h1 : n ≤ m) (h2 : m ≤ 1048576) : rdNum ((b, i, 0), m, e) = (n, (b, i + (num n.toNat).size, 0)) := by
  obtain ⟨x, y, rfl, rfl⟩ := h
  have t := takeN_num x y (n := n.toNat) (by omega)
  unfold rdNum
  simp only [t]
  rw [if_neg (by simp), if_neg (by simp), if_neg (by omega), num_size]
  congr 1
  · omega
  · congr 2; omega

theorem takeText_back {b : ByteArray} {i m : Int} {s : ByteArray} (h : At b i (textS s)) (hm : (s.size : Int) ≤ m) (hs : s.size ≤ 268435456) : takeText (b, i, m) = (s, i + (textS s).size, 0) := by
  obtain ⟨x, y, rfl, rfl⟩ := h
  unfold textS
  rw [← app_assoc]
  have t := takeN_num x (s ++ y) (n := s.size) (by omega)
  rw [← app_assoc] at t
  have hz : (x ++ num s.size ++ s ++ y).size = x.size + (nb s.size + 1) + s.size + y.size := by rw [size_app, size_app, size_app, num_size]
  unfold takeText
  simp only [t]
  rw [if_neg (by omega), if_neg (by simp), if_neg (by omega), if_neg (by rw [hz]; omega)]
  have hss := RdB.size_sub (b := x ++ num s.size ++ s ++ y) (lo := (x.size : Int) + 1 + nb s.size) (hi := (x.size : Int) + 1 + nb s.size + s.size) ⟨by omega, by omega, by rw [hz]; omega⟩
  have e1 : subB (x ++ num s.size ++ s ++ y) ((x.size : Int) + 1 + nb s.size) ((x.size : Int) + 1 + nb s.size + s.size) = s := by
    refine bytes_eq (by rw [hss]; omega) fun j hj => ?_
    rw [hss] at hj
    have hpre : (x ++ num s.size).size = x.size + (nb s.size + 1) := by rw [size_app, num_size]
    rw [bAtN_sub ⟨by omega, by omega, by rw [hz]; omega⟩ (by omega), bAtN_app, if_pos (by rw [size_app, hpre]; omega), bAtN_app, if_neg (by rw [hpre]; omega), hpre]
    congr 1
    omega
  rw [e1, size_app, num_size]
  congr 2
  omega

theorem text_back {b : ByteArray} {i : Int} {s : ByteArray} (h : At b i (textS s)) (hs : s.size ≤ 16) : rdText (b, i, 0) = (s, (b, i + (textS s).size, 0)) := by
  unfold rdText
  rw [if_neg (by simp)]
  simp only [takeText_back (m := 16) h (by omega) (by omega)]

theorem amt_back {b : ByteArray} {i : Int} {a : TRes} (h : At b i (amtS a)) (ha : rightB a = true) : rdAmt (b, i, 0) = (a, (b, i + (amtS a).size, 0)) := by
  obtain ⟨h1, h2, h3⟩ := rightB_iff.1 ha
  unfold amtS at h
  have e1 := num_back (e := 3) h.left.left h1.1 h1.2 (by decide)
  have e2 := num_back (e := 3) h.left.right h2.1 h2.2 (by decide)
  have e3 := num_back (e := 3) h.right h3.1 h3.2 (by decide)
  unfold rdAmt rdN20
  rw [e1]
  simp only
  rw [e2]
  simp only
  rw [show i + ((num a.1.toNat).size : Int) + ((num a.2.1.toNat).size : Int) = i + ((num a.1.toNat ++ num a.2.1.toNat).size : Int) from by rw [size_app]; omega, e3]
  simp only
  congr 2
  unfold amtS
  rw [size_app (num a.1.toNat ++ num a.2.1.toNat)]
  congr 1
  omega

theorem loop_back {b : ByteArray} : ∀ (l out : List TLbl) (i : Int), At b i (lblsS0 l) → (∀ x ∈ l, x.1.size ≤ 16 ∧ x.2.size ≤ 16) → lblLoop rdText l.length out (b, i, 0) = (out ++ l, (b, i + (lblsS0 l).size, 0))
  | [], out, i, _, _ => by simp [lblLoop, lblsS0, empty_size]
  | x :: l, out, i, h, hs => by
    have hx := hs x (by simp)
    have h : At b i (textS x.1 ++ textS x.2 ++ lblsS0 l) := h
    have e1 := text_back h.left.left hx.1
    have e2 := text_back h.left.right hx.2
    have ih := loop_back l (out ++ [x]) _ h.right fun y hy => hs y (List.mem_cons_of_mem _ hy)
    rw [List.length_cons, lblLoop, e1]
    simp only
    rw [e2]
    simp only
    rw [show i + ((textS x.1).size : Int) + ((textS x.2).size : Int) = i + ((textS x.1 ++ textS x.2).size : Int) from by rw [size_app]; omega, ih]
    refine Prod.ext (by simp) ?_
    simp only [lblsS0]
    rw [size_app (textS x.1 ++ textS x.2)]
    congr 2
    omega

theorem lbls_back {b : ByteArray} {i : Int} {l : List TLbl} (h : At b i (lblsS l)) (hl : labelsB l = true) : lblsP rdText (b, i, 0) = (l, (b, i + (lblsS l).size, 0)) := by
  have h4 := (labelsB_iff.1 hl).1
  unfold lblsS at h
  have e1 := num_back (n := (l.length : Int)) (m := 4) (e := 4) (by rw [Int.toNat_natCast]; exact h.left) (by omega) (by omega) (by decide)
  rw [Int.toNat_natCast] at e1
  have e2 := loop_back l [] _ h.right (lbl_size hl)
  unfold lblsP
  rw [e1]
  simp only [Int.toNat_natCast]
  rw [e2, List.nil_append]
  unfold lblsS
  rw [size_app]
  congr 3
  omega

theorem node_back0 {b : ByteArray} {i : Int} {n : TNode} (h : At b i (nodeS0 n)) (hn : nodeB n = true) : nodeP rdText (b, i, 0) = (n, (b, i + (nodeS0 n).size, 0)) := by
  obtain ⟨h1, h2, h3⟩ := nodeB_iff.1 hn
  unfold nodeS0 at h
  have e1 := text_back h.left.left (name_size h1)
  have e2 := amt_back h.left.right h2
  have e3 := lbls_back h.right h3
  unfold nodeP
  simp only [e1, e2]
  rw [show i + ((textS n.1).size : Int) + ((amtS n.2.1).size : Int) = i + ((textS n.1 ++ amtS n.2.1).size : Int) from by rw [size_app]; omega, e3]
  unfold nodeS0
  rw [size_app (textS n.1 ++ amtS n.2.1)]
  refine Prod.ext rfl ?_
  simp only [Prod.mk.injEq, true_and, and_true]
  omega

theorem queue_back0 {b : ByteArray} {i : Int} {n : TQueue} (h : At b i (queueS0 n)) (hn : queueB n = true) : queueP rdText (b, i, 0) = (n, (b, i + (queueS0 n).size, 0)) := by
  obtain ⟨h1, h2⟩ := queueB_iff.1 hn
  unfold queueS0 at h
  have e1 := text_back h.left (name_size h1)
  have e2 := amt_back h.right h2
  unfold queueP
  simp only [e1, e2]
  unfold queueS0
  rw [size_app]
  refine Prod.ext rfl ?_
  simp only [Prod.mk.injEq, true_and, and_true]
  omega

theorem task_back0 {b : ByteArray} {i : Int} {n : TTask} (h : At b i (taskS0 n)) (hn : taskB n = true) : taskP rdText (b, i, 0) = (n, (b, i + (taskS0 n).size, 0)) := by
  obtain ⟨t1, t2, t3, t4, t5, t6, t7, t8⟩ := taskB_iff.1 hn
  have t8 := sizeB_iff.1 t8
  unfold taskS0 at h
  have e8 := num_back (e := 3) (m := 1048576) h.right (by omega) (by omega) (by decide)
  have e7 := text_back h.left.right (maybe_size t7)
  have e6 := text_back h.left.left.right (maybe_size t6)
  have e5 := lbls_back h.left.left.left.right t5
  have e4 := amt_back h.left.left.left.left.right t4
  have e3 := num_back (e := 3) (m := 1048576) h.left.left.left.left.left.right (by omega) (by omega) (by decide)
  have e2 := text_back h.left.left.left.left.left.left.right (name_size t2)
  have e1 := text_back h.left.left.left.left.left.left.left (name_size t1)
  unfold taskP rdN20
  have s : ∀ (j : Int) (p q : ByteArray), j + ((p ++ q).size : Int) = j + (p.size : Int) + (q.size : Int) := fun j p q => by rw [size_app]; omega
  simp only [s] at e1 e2 e3 e4 e5 e6 e7 e8
  simp only [e1, e2, e3, e4, e5, e6, e7, e8]
  unfold taskS0
  simp only [s]

/-- What was put is taken as it was. -/
def Back {α : Type} (take : ByteArray × Int → α × Int × Int) (ok : α → Bool) (bytes : α → ByteArray) : Prop :=
  ∀ b i n, At b i (bytes n) → ok n = true → take (b, i) = (n, i + (bytes n).size, 0)

theorem back_of {α : Type} {z : α} {P : TRd → α × TRd} {ok : α → Bool} {bytes : α → ByteArray} (h : ∀ b i n, At b i (bytes n) → ok n = true → P (b, i, 0) = (n, (b, i + (bytes n).size, 0))) : Back (fun a => endP z (P (a.1, a.2, 0)) (ok (P (a.1, a.2, 0)).1)) ok bytes := fun b i n h1 h2 => by
  simp only [h b i n h1 h2]
  unfold endP rdEnd
  simp [h2]

theorem node_back : Back takeNode nodeB nodeS0 := back_of (P := nodeP rdText) fun _ _ _ => node_back0
theorem queue_back : Back takeQueue queueB queueS0 := back_of (P := queueP rdText) fun _ _ _ => queue_back0
theorem task_back : Back takeTask taskB taskS0 := back_of (P := taskP rdText) fun _ _ _ => task_back0

theorem subB_cut {b : ByteArray} {i : Int} (h0 : 0 ≤ i) (h : i ≤ b.size) : b = subB b 0 i ++ subB b i b.size := by rw [subB_app (Int.le_refl _) h0 h (Int.le_refl _), subB_all]
theorem subB_size {b : ByteArray} {i j : Int} (h0 : 0 ≤ i) (h : i ≤ j) (h2 : j ≤ b.size) : ((subB b i j).size : Int) = j - i := by rw [RdB.size_sub ⟨h0, h, h2⟩]; omega

/-- Cut off it isn't taken. -/
theorem cut_off {α : Type} {take : ByteArray × Int → α × Int × Int} {ok : α → Bool} {bytes : α → ByteArray} (h1 : One take ok bytes) (h2 : Back take ok bytes) {x : ByteArray} {n : α} (hn : ok n = true) {c : Int} (c0 : 0 ≤ c) (c1 : c < (bytes n).size) :
    ¬ (take (subB (x ++ bytes n) 0 (x.size + c), (x.size : Int))).2.2 = 0 := fun e => by
  obtain ⟨o1, o2, o3, o4, o5⟩ := h1 _ _ e
  have hz : (x ++ bytes n).size = x.size + (bytes n).size := size_app _ _
  have hs : ((subB (x ++ bytes n) 0 (x.size + c)).size : Int) = x.size + c := by rw [subB_size (Int.le_refl _) (by omega) (by omega)]; omega
  have hAt : At (subB (x ++ bytes n) 0 (x.size + c)) (x.size : Int) (bytes (take (subB (x ++ bytes n) 0 (x.size + c), (x.size : Int))).1) := by
    refine ⟨subB (subB (x ++ bytes n) 0 (x.size + c)) 0 x.size, subB (subB (x ++ bytes n) 0 (x.size + c)) (take (subB (x ++ bytes n) 0 (x.size + c), (x.size : Int))).2.1 (subB (x ++ bytes n) 0 (x.size + c)).size, ?_, ?_⟩
    · rw [← o5, subB_app (Int.le_refl _) o2 o3 o4, subB_app (Int.le_refl _) (by omega) o4 (Int.le_refl _), subB_all]
    · rw [subB_size (Int.le_refl _) (by omega) (by omega)]; omega
  have hA2 := hAt.more (c := subB (x ++ bytes n) (x.size + c) (x ++ bytes n).size)
  rw [← subB_cut (by omega) (by omega)] at hA2
  have b1 := h2 _ _ _ hA2 o1
  have b2 := h2 (x ++ bytes n) x.size n ⟨x, ByteArray.empty, by rw [app_empty], rfl⟩ hn
  rw [b1] at b2
  have b3 := congrArg (fun t => t.2.1) b2
  simp only at b3
  have b4 := congrArg ByteArray.size o5
  have b5 := subB_size o2 o3 o4
  omega

/-- Two readers that have come as far. -/
def Sim (r s : TRd) : Prop := r.1 = s.1 ∧ r.2.2 = s.2.2 ∧ (r.2.2 = 0 → r.2.1 = s.2.1)
theorem Sim.refl (r : TRd) : Sim r r := ⟨rfl, rfl, fun _ => rfl⟩
theorem Sim.eq {r s : TRd} (h : Sim r s) (e : r.2.2 = 0) : r = s := Prod.ext h.1 (Prod.ext (h.2.2 e) h.2.1)
end Go.Abs

-- interregnum/interregnumlaw05.ModelTakes
namespace Go.Abs
open Go
end Go.Abs

/- interregnum/interregnumlaw05.ModelTakes -/
namespace Go.Abs
open Go
set_option linter.unusedVariables false
end Go.Abs

-- interregnum/interregnumlaw05.ModelBack
namespace Go.Abs
open Go
def f267.wf (a : ByteArray × T_api_Node × T_api_Queue × T_api_Task × ByteArray × Int) : Prop := k_str.ok a.1 ∧ k_api_Node.ok a.2.1 ∧ k_api_Queue.ok a.2.2.1 ∧ k_api_Task.ok a.2.2.2.1 ∧ k_str.ok a.2.2.2.2.1 ∧ k_u64.ok a.2.2.2.2.2
def f267.size (a : ByteArray × T_api_Node × T_api_Queue × T_api_Task × ByteArray × Int) : Nat := k_str.size a.1 + (k_api_Node.size a.2.1 + (k_api_Queue.size a.2.2.1 + (k_api_Task.size a.2.2.2.1 + (k_str.size a.2.2.2.2.1 + (k_u64.size a.2.2.2.2.2)))))
def f267.lpre (a : ByteArray × T_api_Node × T_api_Queue × T_api_Task × ByteArray × Int) : Prop := f267.wf a ∧ f267.size a ≤ 1048576
def f267.args (a : ByteArray × T_api_Node × T_api_Queue × T_api_Task × ByteArray × Int) : List D := [.str a.1, .agg [.str a.2.1.1, .int .i64 a.2.1.2.1.1, .int .i64 a.2.1.2.1.2.1, .int .i64 a.2.1.2.1.2.2, .slice .ro 2 a.2.1.2.2.length (gl e_api_Label a.2.1.2.2)], .agg [.str a.2.2.1.1, .int .i64 a.2.2.1.2.1, .int .i64 a.2.2.1.2.2.1, .int .i64 a.2.2.1.2.2.2], .agg [.str a.2.2.2.1.1, .str a.2.2.2.1.2.1, .int .i64 a.2.2.2.1.2.2.1, .int .i64 a.2.2.2.1.2.2.2.1.1, .int .i64 a.2.2.2.1.2.2.2.1.2.1, .int .i64 a.2.2.2.1.2.2.2.1.2.2, .slice .ro 2 a.2.2.2.1.2.2.2.2.1.length (gl e_api_Label a.2.2.2.1.2.2.2.2.1), .str a.2.2.2.1.2.2.2.2.2.1, .str a.2.2.2.1.2.2.2.2.2.2.1, .int .i64 a.2.2.2.1.2.2.2.2.2.2.2], .str a.2.2.2.2.1, .int .u64 a.2.2.2.2.2]
def f267.blks (a : ByteArray × T_api_Node × T_api_Queue × T_api_Task × ByteArray × Int) : List (List D) := []
def f267.res (a : ByteArray × T_api_Node × T_api_Queue × T_api_Task × ByteArray × Int) : List D := [.bool (lawTrue a)]
def f267.blks' (a : ByteArray × T_api_Node × T_api_Queue × T_api_Task × ByteArray × Int) : List (List D) := []
def f267.C : Contract := FnC f267.args f267.blks (fun a => f267.lpre a) f267.res f267.blks'
end Go.Abs

/- interregnum/interregnumlaw05.ModelBack -/
namespace Go.Abs
open Go
set_option linter.unusedVariables false
def f267.kills (a : ByteArray × T_api_Node × T_api_Queue × T_api_Task × ByteArray × Int) : List Hint := []
def f267.cuts (a : ByteArray × T_api_Node × T_api_Queue × T_api_Task × ByteArray × Int) : List (Nat × Σ β : Type, β → Tm) := []
def f267.af (a : ByteArray × T_api_Node × T_api_Queue × T_api_Task × ByteArray × Int) : AF := AF.mk (.seq (.region [⟨(some 7), 0, .box, [.t 1], none⟩,
  ⟨(some 8), 1, .box, [.t 2], none⟩,
  ⟨(some 9), 2, .box, [.t 3], none⟩,
  ⟨(some 12), 3, .move, [.c (.bool false)], none⟩])
 (.seq (.seq (.region [⟨(some 35), 4, (.call false 22), [], none⟩,
  ⟨(some 36), 8, (.un .not), [.t 35], none⟩,
  ⟨(some 37), 9, .move, [.t 36], none⟩,
  ⟨(some 38), 10, (.load true 5), [.t 7], (some (37, false))⟩,
  ⟨(some 39), 11, (.load true 4), [.t 8], (some (37, false))⟩,
  ⟨(some 40), 12, (.load true 10), [.t 9], (some (37, false))⟩,
  ⟨(some 41), 13, (.call false 23), [.t 38, .t 39, .t 40], (some (37, false))⟩,
  ⟨(some 42), 17, (.un .not), [.t 41], (some (37, false))⟩,
  ⟨(some 43), 18, .pick, [.t 37, .c (.bool true), .t 42], none⟩])
 (.cond (.t 43) (.seq (.region [⟨(some 44), 19, (.call false 22), [], none⟩,
  ⟨(some 12), 23, .move, [.t 44], none⟩])
 (.ret)) (.skip)))
 (.seq (.region [⟨(some 45), 24, .move, [.t 0], none⟩,
  ⟨(some 46), 25, (.len true), [.t 45], none⟩,
  ⟨(some 13), 26, .move, [.t 46], none⟩])
 (.seq (.region [⟨(some 47), 27, .move, [.t 0], none⟩,
  ⟨(some 48), 28, (.conv .s2b), [.t 47], none⟩,
  ⟨(some 49), 29, (.load true 5), [.t 7], none⟩,
  ⟨(some 50), 30, (.call false 39), [.t 48, .t 49], none⟩,
  ⟨(some 51), 34, .move, [.t 0], none⟩,
  ⟨(some 52), 35, (.conv .s2b), [.t 51], none⟩,
  ⟨(some 53), 36, (.load true 4), [.t 8], none⟩,
  ⟨(some 54), 37, (.call false 41), [.t 52, .t 53], none⟩,
  ⟨(some 55), 41, .move, [.t 0], none⟩,
  ⟨(some 56), 42, (.conv .s2b), [.t 55], none⟩,
  ⟨(some 57), 43, (.load true 10), [.t 9], none⟩,
  ⟨(some 58), 44, (.call false 43), [.t 56, .t 57], none⟩,
  ⟨(some 14), 48, .move, [.t 50], none⟩,
  ⟨(some 15), 49, .move, [.t 54], none⟩,
  ⟨(some 16), 50, .move, [.t 58], none⟩])
 (.seq (.seq (.region [⟨(some 59), 51, (.load true 5), [.t 7], none⟩,
  ⟨(some 60), 52, (.call false 35), [.t 59], none⟩])
 (.cond (.t 60) (.seq (.region [⟨(some 62), 56, .move, [.t 14], none⟩,
  ⟨(some 63), 57, .move, [.t 14], none⟩,
  ⟨(some 64), 58, (.len false), [.t 63], none⟩,
  ⟨(some 65), 59, .move, [.t 14], none⟩,
  ⟨(some 66), 60, (.len false), [.t 65], none⟩,
  ⟨(some 67), 61, (.sliceSl 1 false true true), [.t 62, .t 64, .t 66], none⟩,
  ⟨(some 68), 62, .move, [.t 4], none⟩,
  ⟨(some 69), 63, (.append 1 1), [.t 67, .t 68], none⟩,
  ⟨(some 70), 64, .move, [.t 13], none⟩,
  ⟨(some 71), 65, (.call false 284), [.t 69, .t 70], none⟩,
  ⟨(some 61), 69, .move, [.t 71], none⟩,
  ⟨(some 72), 70, (.extract 0), [.t 61], none⟩,
  ⟨(some 73), 71, (.extract 1), [.t 61], none⟩,
  ⟨(some 74), 72, (.extract 2), [.t 61], none⟩,
  ⟨(some 17), 73, (.alloc [.str ByteArray.empty, .int .i64 (0), .int .i64 (0), .int .i64 (0), .slice (.own 0) 2 0 gnil]), [], none⟩,
  ⟨none, 79, (.store 5), [.t 17, .t 72], none⟩,
  ⟨(some 18), 80, .move, [.t 73], none⟩,
  ⟨(some 19), 81, .move, [.t 74], none⟩])
 (.seq (.region [⟨(some 76), 82, .move, [.t 14], none⟩,
  ⟨(some 77), 83, .move, [.t 13], none⟩,
  ⟨(some 78), 84, .move, [.t 5], none⟩,
  ⟨(some 79), 85, .move, [.t 14], none⟩,
  ⟨(some 80), 86, (.len false), [.t 79], none⟩,
  ⟨(some 81), 87, .move, [.t 13], none⟩,
  ⟨(some 82), 88, (.bin .sub), [.t 80, .t 81], none⟩,
  ⟨(some 83), 89, (.conv (.int .u64)), [.t 82], none⟩,
  ⟨(some 84), 90, (.bin .rem), [.t 78, .t 83], none⟩,
  ⟨(some 85), 91, (.conv (.int .i64)), [.t 84], none⟩,
  ⟨(some 86), 92, (.bin .add), [.t 77, .t 85], none⟩,
  ⟨(some 87), 93, (.sliceSl 1 false true false), [.t 76, .t 86], none⟩,
  ⟨(some 88), 94, .move, [.t 13], none⟩,
  ⟨(some 89), 95, (.call false 284), [.t 87, .t 88], none⟩,
  ⟨(some 75), 99, .move, [.t 89], none⟩,
  ⟨(some 90), 100, (.extract 0), [.t 75], none⟩,
  ⟨(some 91), 101, (.extract 1), [.t 75], none⟩,
  ⟨(some 92), 102, (.extract 2), [.t 75], none⟩,
  ⟨(some 20), 103, (.alloc [.str ByteArray.empty, .int .i64 (0), .int .i64 (0), .int .i64 (0), .slice (.own 0) 2 0 gnil]), [], none⟩,
  ⟨none, 109, (.store 5), [.t 20, .t 90], none⟩,
  ⟨(some 21), 110, .move, [.t 91], none⟩,
  ⟨(some 22), 111, .move, [.t 92], none⟩])
 (.seq (.region [⟨(some 93), 112, .move, [.t 19], none⟩,
  ⟨(some 94), 113, (.bin .neq), [.t 93, .c (.int .i64 (0))], none⟩,
  ⟨(some 95), 114, .move, [.t 94], none⟩,
  ⟨(some 96), 115, .move, [.t 18], (some (95, false))⟩,
  ⟨(some 97), 116, .move, [.t 14], (some (95, false))⟩,
  ⟨(some 98), 117, (.len false), [.t 97], (some (95, false))⟩,
  ⟨(some 99), 118, (.bin .neq), [.t 96, .t 98], (some (95, false))⟩,
  ⟨(some 100), 119, .pick, [.t 95, .c (.bool true), .t 99], none⟩,
  ⟨(some 101), 120, .move, [.t 100], none⟩,
  ⟨(some 102), 121, (.load true 5), [.t 17], (some (101, false))⟩,
  ⟨(some 103), 122, (.load true 5), [.t 7], (some (101, false))⟩,
  ⟨(some 104), 123, (.call false 287), [.t 102, .t 103], (some (101, false))⟩,
  ⟨(some 105), 127, (.un .not), [.t 104], (some (101, false))⟩,
  ⟨(some 106), 128, .pick, [.t 101, .c (.bool true), .t 105], none⟩,
  ⟨(some 107), 129, .move, [.t 106], none⟩,
  ⟨(some 108), 130, .move, [.t 22], (some (107, false))⟩,
  ⟨(some 109), 131, (.bin .eql), [.t 108, .c (.int .i64 (0))], (some (107, false))⟩,
  ⟨(some 110), 132, .pick, [.t 107, .c (.bool true), .t 109], none⟩])
 (.cond (.t 110) (.seq (.region [⟨(some 12), 133, .move, [.c (.bool false)], none⟩])
 (.ret)) (.skip))))) (.skip)))
 (.seq (.seq (.region [⟨(some 111), 134, (.load true 4), [.t 8], none⟩,
  ⟨(some 112), 135, (.call false 25), [.t 111], none⟩])
 (.cond (.t 112) (.seq (.region [⟨(some 114), 139, .move, [.t 15], none⟩,
  ⟨(some 115), 140, .move, [.t 15], none⟩,
  ⟨(some 116), 141, (.len false), [.t 115], none⟩,
  ⟨(some 117), 142, .move, [.t 15], none⟩,
  ⟨(some 118), 143, (.len false), [.t 117], none⟩,
  ⟨(some 119), 144, (.sliceSl 1 false true true), [.t 114, .t 116, .t 118], none⟩,
  ⟨(some 120), 145, .move, [.t 4], none⟩,
  ⟨(some 121), 146, (.append 1 1), [.t 119, .t 120], none⟩,
  ⟨(some 122), 147, .move, [.t 13], none⟩,
  ⟨(some 123), 148, (.call false 285), [.t 121, .t 122], none⟩,
  ⟨(some 113), 152, .move, [.t 123], none⟩,
  ⟨(some 124), 153, (.extract 0), [.t 113], none⟩,
  ⟨(some 125), 154, (.extract 1), [.t 113], none⟩,
  ⟨(some 126), 155, (.extract 2), [.t 113], none⟩,
  ⟨(some 23), 156, (.alloc [.str ByteArray.empty, .int .i64 (0), .int .i64 (0), .int .i64 (0)]), [], none⟩,
  ⟨none, 161, (.store 4), [.t 23, .t 124], none⟩,
  ⟨(some 24), 162, .move, [.t 125], none⟩,
  ⟨(some 25), 163, .move, [.t 126], none⟩])
 (.seq (.region [⟨(some 128), 164, .move, [.t 15], none⟩,
  ⟨(some 129), 165, .move, [.t 13], none⟩,
  ⟨(some 130), 166, .move, [.t 5], none⟩,
  ⟨(some 131), 167, .move, [.t 15], none⟩,
  ⟨(some 132), 168, (.len false), [.t 131], none⟩,
  ⟨(some 133), 169, .move, [.t 13], none⟩,
  ⟨(some 134), 170, (.bin .sub), [.t 132, .t 133], none⟩,
  ⟨(some 135), 171, (.conv (.int .u64)), [.t 134], none⟩,
  ⟨(some 136), 172, (.bin .rem), [.t 130, .t 135], none⟩,
  ⟨(some 137), 173, (.conv (.int .i64)), [.t 136], none⟩,
  ⟨(some 138), 174, (.bin .add), [.t 129, .t 137], none⟩,
  ⟨(some 139), 175, (.sliceSl 1 false true false), [.t 128, .t 138], none⟩,
  ⟨(some 140), 176, .move, [.t 13], none⟩,
  ⟨(some 141), 177, (.call false 285), [.t 139, .t 140], none⟩,
  ⟨(some 127), 181, .move, [.t 141], none⟩,
  ⟨(some 142), 182, (.extract 0), [.t 127], none⟩,
  ⟨(some 143), 183, (.extract 1), [.t 127], none⟩,
  ⟨(some 144), 184, (.extract 2), [.t 127], none⟩,
  ⟨(some 26), 185, (.alloc [.str ByteArray.empty, .int .i64 (0), .int .i64 (0), .int .i64 (0)]), [], none⟩,
  ⟨none, 190, (.store 4), [.t 26, .t 142], none⟩,
  ⟨(some 27), 191, .move, [.t 143], none⟩,
  ⟨(some 28), 192, .move, [.t 144], none⟩])
 (.seq (.region [⟨(some 145), 193, .move, [.t 25], none⟩,
  ⟨(some 146), 194, (.bin .neq), [.t 145, .c (.int .i64 (0))], none⟩,
  ⟨(some 147), 195, .move, [.t 146], none⟩,
  ⟨(some 148), 196, .move, [.t 24], (some (147, false))⟩,
  ⟨(some 149), 197, .move, [.t 15], (some (147, false))⟩,
  ⟨(some 150), 198, (.len false), [.t 149], (some (147, false))⟩,
  ⟨(some 151), 199, (.bin .neq), [.t 148, .t 150], (some (147, false))⟩,
  ⟨(some 152), 200, .pick, [.t 147, .c (.bool true), .t 151], none⟩,
  ⟨(some 153), 201, .move, [.t 152], none⟩,
  ⟨(some 154), 202, (.load true 4), [.t 23], (some (153, false))⟩,
  ⟨(some 155), 203, (.load true 4), [.t 8], (some (153, false))⟩,
  ⟨(some 156), 204, (.eqAgg true [2, 0, 0, 0]), [.t 154, .t 155], (some (153, false))⟩,
  ⟨(some 157), 205, .pick, [.t 153, .c (.bool true), .t 156], none⟩,
  ⟨(some 158), 206, .move, [.t 157], none⟩,
  ⟨(some 159), 207, .move, [.t 28], (some (158, false))⟩,
  ⟨(some 160), 208, (.bin .eql), [.t 159, .c (.int .i64 (0))], (some (158, false))⟩,
  ⟨(some 161), 209, .pick, [.t 158, .c (.bool true), .t 160], none⟩])
 (.cond (.t 161) (.seq (.region [⟨(some 12), 210, .move, [.c (.bool false)], none⟩])
 (.ret)) (.skip))))) (.skip)))
 (.seq (.seq (.region [⟨(some 162), 211, (.load true 10), [.t 9], none⟩,
  ⟨(some 163), 212, (.call false 24), [.t 162], none⟩])
 (.cond (.t 163) (.seq (.region [⟨(some 165), 216, .move, [.t 16], none⟩,
  ⟨(some 166), 217, .move, [.t 16], none⟩,
  ⟨(some 167), 218, (.len false), [.t 166], none⟩,
  ⟨(some 168), 219, .move, [.t 16], none⟩,
  ⟨(some 169), 220, (.len false), [.t 168], none⟩,
  ⟨(some 170), 221, (.sliceSl 1 false true true), [.t 165, .t 167, .t 169], none⟩,
  ⟨(some 171), 222, .move, [.t 4], none⟩,
  ⟨(some 172), 223, (.append 1 1), [.t 170, .t 171], none⟩,
  ⟨(some 173), 224, .move, [.t 13], none⟩,
  ⟨(some 174), 225, (.call false 286), [.t 172, .t 173], none⟩,
  ⟨(some 164), 229, .move, [.t 174], none⟩,
  ⟨(some 175), 230, (.extract 0), [.t 164], none⟩,
  ⟨(some 176), 231, (.extract 1), [.t 164], none⟩,
  ⟨(some 177), 232, (.extract 2), [.t 164], none⟩,
  ⟨(some 29), 233, (.alloc [.str ByteArray.empty, .str ByteArray.empty, .int .i64 (0), .int .i64 (0), .int .i64 (0), .int .i64 (0), .slice (.own 0) 2 0 gnil, .str ByteArray.empty, .str ByteArray.empty, .int .i64 (0)]), [], none⟩,
  ⟨none, 244, (.store 10), [.t 29, .t 175], none⟩,
  ⟨(some 30), 245, .move, [.t 176], none⟩,
  ⟨(some 31), 246, .move, [.t 177], none⟩])
 (.seq (.region [⟨(some 179), 247, .move, [.t 16], none⟩,
  ⟨(some 180), 248, .move, [.t 13], none⟩,
  ⟨(some 181), 249, .move, [.t 5], none⟩,
  ⟨(some 182), 250, .move, [.t 16], none⟩,
  ⟨(some 183), 251, (.len false), [.t 182], none⟩,
  ⟨(some 184), 252, .move, [.t 13], none⟩,
  ⟨(some 185), 253, (.bin .sub), [.t 183, .t 184], none⟩,
  ⟨(some 186), 254, (.conv (.int .u64)), [.t 185], none⟩,
  ⟨(some 187), 255, (.bin .rem), [.t 181, .t 186], none⟩,
  ⟨(some 188), 256, (.conv (.int .i64)), [.t 187], none⟩,
  ⟨(some 189), 257, (.bin .add), [.t 180, .t 188], none⟩,
  ⟨(some 190), 258, (.sliceSl 1 false true false), [.t 179, .t 189], none⟩,
  ⟨(some 191), 259, .move, [.t 13], none⟩,
  ⟨(some 192), 260, (.call false 286), [.t 190, .t 191], none⟩,
  ⟨(some 178), 264, .move, [.t 192], none⟩,
  ⟨(some 193), 265, (.extract 0), [.t 178], none⟩,
  ⟨(some 194), 266, (.extract 1), [.t 178], none⟩,
  ⟨(some 195), 267, (.extract 2), [.t 178], none⟩,
  ⟨(some 32), 268, (.alloc [.str ByteArray.empty, .str ByteArray.empty, .int .i64 (0), .int .i64 (0), .int .i64 (0), .int .i64 (0), .slice (.own 0) 2 0 gnil, .str ByteArray.empty, .str ByteArray.empty, .int .i64 (0)]), [], none⟩,
  ⟨none, 279, (.store 10), [.t 32, .t 193], none⟩,
  ⟨(some 33), 280, .move, [.t 194], none⟩,
  ⟨(some 34), 281, .move, [.t 195], none⟩])
 (.seq (.region [⟨(some 196), 282, .move, [.t 31], none⟩,
  ⟨(some 197), 283, (.bin .neq), [.t 196, .c (.int .i64 (0))], none⟩,
  ⟨(some 198), 284, .move, [.t 197], none⟩,
  ⟨(some 199), 285, .move, [.t 30], (some (198, false))⟩,
  ⟨(some 200), 286, .move, [.t 16], (some (198, false))⟩,
  ⟨(some 201), 287, (.len false), [.t 200], (some (198, false))⟩,
  ⟨(some 202), 288, (.bin .neq), [.t 199, .t 201], (some (198, false))⟩,
  ⟨(some 203), 289, .pick, [.t 198, .c (.bool true), .t 202], none⟩,
  ⟨(some 204), 290, .move, [.t 203], none⟩,
  ⟨(some 205), 291, (.load true 10), [.t 29], (some (204, false))⟩,
  ⟨(some 206), 292, (.load true 10), [.t 9], (some (204, false))⟩,
  ⟨(some 207), 293, (.call false 290), [.t 205, .t 206], (some (204, false))⟩,
  ⟨(some 208), 297, (.un .not), [.t 207], (some (204, false))⟩,
  ⟨(some 209), 298, .pick, [.t 204, .c (.bool true), .t 208], none⟩,
  ⟨(some 210), 299, .move, [.t 209], none⟩,
  ⟨(some 211), 300, .move, [.t 34], (some (210, false))⟩,
  ⟨(some 212), 301, (.bin .eql), [.t 211, .c (.int .i64 (0))], (some (210, false))⟩,
  ⟨(some 213), 302, .pick, [.t 210, .c (.bool true), .t 212], none⟩])
 (.cond (.t 213) (.seq (.region [⟨(some 12), 303, .move, [.c (.bool false)], none⟩])
 (.ret)) (.skip))))) (.skip)))
 (.seq (.region [⟨(some 12), 304, .move, [.c (.bool true)], none⟩])
 (.ret)))))))))
  [.tmp 12] 0 208
def f267.env : Env := [(22, f22.C), (23, f23.C), (39, f39.C), (41, f41.C), (43, f43.C), (35, f35.C), (284, f284.C), (287, f287.C), (25, f25.C), (285, f285.C), (24, f24.C), (286, f286.C), (290, f290.C)]
def f267.tree (a : ByteArray × T_api_Node × T_api_Queue × T_api_Task × ByteArray × Int) : Prop := ∃ c1 : Unit, True ∧ Br (!(lawTrue c1)) (∃ c4 : Unit, True ∧ ((lawTrue c4) = (lawTrue a)) ∧ True) (∃ c7 : T_api_Node × T_api_Queue × T_api_Task, (a.2.1.1 = c7.1.1) ∧ (a.2.1.2.1.1 = c7.1.2.1.1) ∧ (a.2.1.2.1.2.1 = c7.1.2.1.2.1) ∧ (a.2.1.2.1.2.2 = c7.1.2.1.2.2) ∧ (a.2.1.2.2.length = c7.1.2.2.length) ∧ (∀ i, i < c7.1.2.2.length → DEqs ((gl e_api_Label a.2.1.2.2) i) ((gl e_api_Label c7.1.2.2) i)) ∧ (a.2.2.1.1 = c7.2.1.1) ∧ (a.2.2.1.2.1 = c7.2.1.2.1) ∧ (a.2.2.1.2.2.1 = c7.2.1.2.2.1) ∧ (a.2.2.1.2.2.2 = c7.2.1.2.2.2) ∧ (a.2.2.2.1.1 = c7.2.2.1) ∧ (a.2.2.2.1.2.1 = c7.2.2.2.1) ∧ (a.2.2.2.1.2.2.1 = c7.2.2.2.2.1) ∧ (a.2.2.2.1.2.2.2.1.1 = c7.2.2.2.2.2.1.1) ∧ (a.2.2.2.1.2.2.2.1.2.1 = c7.2.2.2.2.2.1.2.1) ∧ (a.2.2.2.1.2.2.2.1.2.2 = c7.2.2.2.2.2.1.2.2) ∧ (a.2.2.2.1.2.2.2.2.1.length = c7.2.2.2.2.2.2.1.length) ∧ (∀ i, i < c7.2.2.2.2.2.2.1.length → DEqs ((gl e_api_Label a.2.2.2.1.2.2.2.2.1) i) ((gl e_api_Label c7.2.2.2.2.2.2.1) i)) ∧ (a.2.2.2.1.2.2.2.2.2.1 = c7.2.2.2.2.2.2.2.1) ∧ (a.2.2.2.1.2.2.2.2.2.2.1 = c7.2.2.2.2.2.2.2.2.1) ∧ (a.2.2.2.1.2.2.2.2.2.2.2 = c7.2.2.2.2.2.2.2.2.2) ∧ (few5_pre c7) ∧ Br (!(few5 c7)) (∃ c10 : Unit, True ∧ ((lawTrue c10) = (lawTrue a)) ∧ True) (∃ c13 : ByteArray × T_api_Node, (a.1.size = c13.1.size) ∧ (∀ i, i < c13.1.size → DEqs ((gstr a.1) i) ((gstr c13.1) i)) ∧ (a.2.1.1 = c13.2.1) ∧ (a.2.1.2.1.1 = c13.2.2.1.1) ∧ (a.2.1.2.1.2.1 = c13.2.2.1.2.1) ∧ (a.2.1.2.1.2.2 = c13.2.2.1.2.2) ∧ (a.2.1.2.2.length = c13.2.2.2.length) ∧ (∀ i, i < c13.2.2.2.length → DEqs ((gl e_api_Label a.2.1.2.2) i) ((gl e_api_Label c13.2.2.2) i)) ∧ (putNode_pre c13) ∧ ∃ c14 : ByteArray × T_api_Queue, (a.1.size = c14.1.size) ∧ (∀ i, i < c14.1.size → DEqs ((gstr a.1) i) ((gstr c14.1) i)) ∧ (a.2.2.1.1 = c14.2.1) ∧ (a.2.2.1.2.1 = c14.2.2.1) ∧ (a.2.2.1.2.2.1 = c14.2.2.2.1) ∧ (a.2.2.1.2.2.2 = c14.2.2.2.2) ∧ (putQueue_pre c14) ∧ ∃ c15 : ByteArray × T_api_Task, (a.1.size = c15.1.size) ∧ (∀ i, i < c15.1.size → DEqs ((gstr a.1) i) ((gstr c15.1) i)) ∧ (a.2.2.2.1.1 = c15.2.1) ∧ (a.2.2.2.1.2.1 = c15.2.2.1) ∧ (a.2.2.2.1.2.2.1 = c15.2.2.2.1) ∧ (a.2.2.2.1.2.2.2.1.1 = c15.2.2.2.2.1.1) ∧ (a.2.2.2.1.2.2.2.1.2.1 = c15.2.2.2.2.1.2.1) ∧ (a.2.2.2.1.2.2.2.1.2.2 = c15.2.2.2.2.1.2.2) ∧ (a.2.2.2.1.2.2.2.2.1.length = c15.2.2.2.2.2.1.length) ∧ (∀ i, i < c15.2.2.2.2.2.1.length → DEqs ((gl e_api_Label a.2.2.2.1.2.2.2.2.1) i) ((gl e_api_Label c15.2.2.2.2.2.1) i)) ∧ (a.2.2.2.1.2.2.2.2.2.1 = c15.2.2.2.2.2.2.1) ∧ (a.2.2.2.1.2.2.2.2.2.2.1 = c15.2.2.2.2.2.2.2.1) ∧ (a.2.2.2.1.2.2.2.2.2.2.2 = c15.2.2.2.2.2.2.2.2) ∧ (putTask_pre c15) ∧ ∃ c16 : T_api_Node, (a.2.1.1 = c16.1) ∧ (a.2.1.2.1.1 = c16.2.1.1) ∧ (a.2.1.2.1.2.1 = c16.2.1.2.1) ∧ (a.2.1.2.1.2.2 = c16.2.1.2.2) ∧ (a.2.1.2.2.length = c16.2.2.length) ∧ (∀ i, i < c16.2.2.length → DEqs ((gl e_api_Label a.2.1.2.2) i) ((gl e_api_Label c16.2.2) i)) ∧ (node_pre c16) ∧ Br (nodeB c16) (Br (decide ((0 : Int) ≤ (0 : Int)) && decide ((0 : Int) ≤ ((putNode c13).size : Int)) && decide (((putNode c13).size : Int) ≤ ((putNode c13).size : Int)) && (((putNode c13).size : Int) == ((putNode c13).size : Int))) ((room (((Int.toNat (((putNode c13).size : Int) - (0 : Int))) + a.2.2.2.2.1.size) * 1)) ∧ (∃ c20 : ByteArray × Int, (((Int.toNat (((putNode c13).size : Int) - (0 : Int))) + a.2.2.2.2.1.size) = c20.1.size) ∧ (∀ i, i < c20.1.size → DEqs ((gapp (gsub (gstr (putNode c13)) 0) (Int.toNat (((putNode c13).size : Int) - (0 : Int))) (gstr a.2.2.2.2.1)) i) ((gstr c20.1) i)) ∧ ((a.1.size : Int) = c20.2) ∧ (takes_pre c20) ∧ Let (IntKind.i64.wrap (((putNode c13).size : Int) - (a.1.size : Int))) (fun v21 : Int => Let (IntKind.u64.wrap v21) (fun v22 : Int => Br (!(v22 == 0)) (Let (Int.tmod a.2.2.2.2.2 v22) (fun v23 : Int => Let (IntKind.i64.wrap v23) (fun v24 : Int => Let (IntKind.i64.wrap ((a.1.size : Int) + v24)) (fun v25 : Int => Br (decide ((0 : Int) ≤ (0 : Int)) && decide ((0 : Int) ≤ v25) && decide (v25 ≤ ((putNode c13).size : Int)) && (v25 == v25)) (∃ c27 : ByteArray × Int, ((Int.toNat (v25 - (0 : Int))) = c27.1.size) ∧ (∀ i, i < c27.1.size → DEqs ((gsub (gstr (putNode c13)) 0) i) ((gstr c27.1) i)) ∧ ((a.1.size : Int) = c27.2) ∧ (takes_pre c27) ∧ Br (((takeNode c20).2.2) != (0 : Int)) ((false = (lawTrue a)) ∧ True) (Br (((takeNode c20).2.1) != ((putNode c13).size : Int)) ((false = (lawTrue a)) ∧ True) (∃ c34 : T_api_Node × T_api_Node, ((((takeNode c20).1).1) = c34.1.1) ∧ (((((takeNode c20).1).2.1).1) = c34.1.2.1.1) ∧ (((((takeNode c20).1).2.1).2.1) = c34.1.2.1.2.1) ∧ (((((takeNode c20).1).2.1).2.2) = c34.1.2.1.2.2) ∧ (((((takeNode c20).1).2.2).length) = c34.1.2.2.length) ∧ (∀ i, i < c34.1.2.2.length → DEqs ((gl e_api_Label (((takeNode c20).1).2.2)) i) ((gl e_api_Label c34.1.2.2) i)) ∧ (a.2.1.1 = c34.2.1) ∧ (a.2.1.2.1.1 = c34.2.2.1.1) ∧ (a.2.1.2.1.2.1 = c34.2.2.1.2.1) ∧ (a.2.1.2.1.2.2 = c34.2.2.1.2.2) ∧ (a.2.1.2.2.length = c34.2.2.2.length) ∧ (∀ i, i < c34.2.2.2.length → DEqs ((gl e_api_Label a.2.1.2.2) i) ((gl e_api_Label c34.2.2.2) i)) ∧ (sameNode_pre c34) ∧ Br (!(sameNode c34)) ((false = (lawTrue a)) ∧ True) (Br (((takeNode c27).2.2) == (0 : Int)) ((false = (lawTrue a)) ∧ True) (∃ c41 : T_api_Queue, (a.2.2.1.1 = c41.1) ∧ (a.2.2.1.2.1 = c41.2.1) ∧ (a.2.2.1.2.2.1 = c41.2.2.1) ∧ (a.2.2.1.2.2.2 = c41.2.2.2) ∧ (queue_pre c41) ∧ Br (queueB c41) (Br (decide ((0 : Int) ≤ (0 : Int)) && decide ((0 : Int) ≤ ((putQueue c14).size : Int)) && decide (((putQueue c14).size : Int) ≤ ((putQueue c14).size : Int)) && (((putQueue c14).size : Int) == ((putQueue c14).size : Int))) ((room (((Int.toNat (((putQueue c14).size : Int) - (0 : Int))) + a.2.2.2.2.1.size) * 1)) ∧ (∃ c45 : ByteArray × Int, (((Int.toNat (((putQueue c14).size : Int) - (0 : Int))) + a.2.2.2.2.1.size) = c45.1.size) ∧ (∀ i, i < c45.1.size → DEqs ((gapp (gsub (gstr (putQueue c14)) 0) (Int.toNat (((putQueue c14).size : Int) - (0 : Int))) (gstr a.2.2.2.2.1)) i) ((gstr c45.1) i)) ∧ ((a.1.size : Int) = c45.2) ∧ (takes_pre c45) ∧ Let (IntKind.i64.wrap (((putQueue c14).size : Int) - (a.1.size : Int))) (fun v46 : Int => Let (IntKind.u64.wrap v46) (fun v47 : Int => Br (!(v47 == 0)) (Let (Int.tmod a.2.2.2.2.2 v47) (fun v48 : Int => Let (IntKind.i64.wrap v48) (fun v49 : Int => Let (IntKind.i64.wrap ((a.1.size : Int) + v49)) (fun v50 : Int => Br (decide ((0 : Int) ≤ (0 : Int)) && decide ((0 : Int) ≤ v50) && decide (v50 ≤ ((putQueue c14).size : Int)) && (v50 == v50)) (∃ c52 : ByteArray × Int, ((Int.toNat (v50 - (0 : Int))) = c52.1.size) ∧ (∀ i, i < c52.1.size → DEqs ((gsub (gstr (putQueue c14)) 0) i) ((gstr c52.1) i)) ∧ ((a.1.size : Int) = c52.2) ∧ (takes_pre c52) ∧ Br (((takeQueue c45).2.2) != (0 : Int)) ((false = (lawTrue a)) ∧ True) (Br (((takeQueue c45).2.1) != ((putQueue c14).size : Int)) ((false = (lawTrue a)) ∧ True) (Br (!(((((takeQueue c45).1).1).toList == a.2.2.1.1.toList) && ((((((takeQueue c45).1).2).1) == a.2.2.1.2.1) && ((((((takeQueue c45).1).2).2.1) == a.2.2.1.2.2.1) && (((((takeQueue c45).1).2).2.2) == a.2.2.1.2.2.2))))) ((false = (lawTrue a)) ∧ True) (Br (((takeQueue c52).2.2) == (0 : Int)) ((false = (lawTrue a)) ∧ True) (∃ c65 : T_api_Task, (a.2.2.2.1.1 = c65.1) ∧ (a.2.2.2.1.2.1 = c65.2.1) ∧ (a.2.2.2.1.2.2.1 = c65.2.2.1) ∧ (a.2.2.2.1.2.2.2.1.1 = c65.2.2.2.1.1) ∧ (a.2.2.2.1.2.2.2.1.2.1 = c65.2.2.2.1.2.1) ∧ (a.2.2.2.1.2.2.2.1.2.2 = c65.2.2.2.1.2.2) ∧ (a.2.2.2.1.2.2.2.2.1.length = c65.2.2.2.2.1.length) ∧ (∀ i, i < c65.2.2.2.2.1.length → DEqs ((gl e_api_Label a.2.2.2.1.2.2.2.2.1) i) ((gl e_api_Label c65.2.2.2.2.1) i)) ∧ (a.2.2.2.1.2.2.2.2.2.1 = c65.2.2.2.2.2.1) ∧ (a.2.2.2.1.2.2.2.2.2.2.1 = c65.2.2.2.2.2.2.1) ∧ (a.2.2.2.1.2.2.2.2.2.2.2 = c65.2.2.2.2.2.2.2) ∧ (task_pre c65) ∧ Br (taskB c65) (Br (decide ((0 : Int) ≤ (0 : Int)) && decide ((0 : Int) ≤ ((putTask c15).size : Int)) && decide (((putTask c15).size : Int) ≤ ((putTask c15).size : Int)) && (((putTask c15).size : Int) == ((putTask c15).size : Int))) ((room (((Int.toNat (((putTask c15).size : Int) - (0 : Int))) + a.2.2.2.2.1.size) * 1)) ∧ (∃ c69 : ByteArray × Int, (((Int.toNat (((putTask c15).size : Int) - (0 : Int))) + a.2.2.2.2.1.size) = c69.1.size) ∧ (∀ i, i < c69.1.size → DEqs ((gapp (gsub (gstr (putTask c15)) 0) (Int.toNat (((putTask c15).size : Int) - (0 : Int))) (gstr a.2.2.2.2.1)) i) ((gstr c69.1) i)) ∧ ((a.1.size : Int) = c69.2) ∧ (takes_pre c69) ∧ Let (IntKind.i64.wrap (((putTask c15).size : Int) - (a.1.size : Int))) (fun v70 : Int => Let (IntKind.u64.wrap v70) (fun v71 : Int => Br (!(v71 == 0)) (Let (Int.tmod a.2.2.2.2.2 v71) (fun v72 : Int => Let (IntKind.i64.wrap v72) (fun v73 : Int => Let (IntKind.i64.wrap ((a.1.size : Int) + v73)) (fun v74 : Int => Br (decide ((0 : Int) ≤ (0 : Int)) && decide ((0 : Int) ≤ v74) && decide (v74 ≤ ((putTask c15).size : Int)) && (v74 == v74)) (∃ c76 : ByteArray × Int, ((Int.toNat (v74 - (0 : Int))) = c76.1.size) ∧ (∀ i, i < c76.1.size → DEqs ((gsub (gstr (putTask c15)) 0) i) ((gstr c76.1) i)) ∧ ((a.1.size : Int) = c76.2) ∧ (takes_pre c76) ∧ Br (((takeTask c69).2.2) != (0 : Int)) ((false = (lawTrue a)) ∧ True) (Br (((takeTask c69).2.1) != ((putTask c15).size : Int)) ((false = (lawTrue a)) ∧ True) (∃ c83 : T_api_Task × T_api_Task, ((((takeTask c69).1).1) = c83.1.1) ∧ ((((takeTask c69).1).2.1) = c83.1.2.1) ∧ ((((takeTask c69).1).2.2.1) = c83.1.2.2.1) ∧ (((((takeTask c69).1).2.2.2.1).1) = c83.1.2.2.2.1.1) ∧ (((((takeTask c69).1).2.2.2.1).2.1) = c83.1.2.2.2.1.2.1) ∧ (((((takeTask c69).1).2.2.2.1).2.2) = c83.1.2.2.2.1.2.2) ∧ (((((takeTask c69).1).2.2.2.2.1).length) = c83.1.2.2.2.2.1.length) ∧ (∀ i, i < c83.1.2.2.2.2.1.length → DEqs ((gl e_api_Label (((takeTask c69).1).2.2.2.2.1)) i) ((gl e_api_Label c83.1.2.2.2.2.1) i)) ∧ ((((takeTask c69).1).2.2.2.2.2.1) = c83.1.2.2.2.2.2.1) ∧ ((((takeTask c69).1).2.2.2.2.2.2.1) = c83.1.2.2.2.2.2.2.1) ∧ ((((takeTask c69).1).2.2.2.2.2.2.2) = c83.1.2.2.2.2.2.2.2) ∧ (a.2.2.2.1.1 = c83.2.1) ∧ (a.2.2.2.1.2.1 = c83.2.2.1) ∧ (a.2.2.2.1.2.2.1 = c83.2.2.2.1) ∧ (a.2.2.2.1.2.2.2.1.1 = c83.2.2.2.2.1.1) ∧ (a.2.2.2.1.2.2.2.1.2.1 = c83.2.2.2.2.1.2.1) ∧ (a.2.2.2.1.2.2.2.1.2.2 = c83.2.2.2.2.1.2.2) ∧ (a.2.2.2.1.2.2.2.2.1.length = c83.2.2.2.2.2.1.length) ∧ (∀ i, i < c83.2.2.2.2.2.1.length → DEqs ((gl e_api_Label a.2.2.2.1.2.2.2.2.1) i) ((gl e_api_Label c83.2.2.2.2.2.1) i)) ∧ (a.2.2.2.1.2.2.2.2.2.1 = c83.2.2.2.2.2.2.1) ∧ (a.2.2.2.1.2.2.2.2.2.2.1 = c83.2.2.2.2.2.2.2.1) ∧ (a.2.2.2.1.2.2.2.2.2.2.2 = c83.2.2.2.2.2.2.2.2) ∧ (sameTask_pre c83) ∧ Br (!(sameTask c83)) ((false = (lawTrue a)) ∧ True) (Br (((takeTask c76).2.2) == (0 : Int)) ((false = (lawTrue a)) ∧ True) ((true = (lawTrue a)) ∧ True))))) False)))) False)))) False) ((true = (lawTrue a)) ∧ True)))))) False)))) False)))) False) (∃ c144 : T_api_Task, (a.2.2.2.1.1 = c144.1) ∧ (a.2.2.2.1.2.1 = c144.2.1) ∧ (a.2.2.2.1.2.2.1 = c144.2.2.1) ∧ (a.2.2.2.1.2.2.2.1.1 = c144.2.2.2.1.1) ∧ (a.2.2.2.1.2.2.2.1.2.1 = c144.2.2.2.1.2.1) ∧ (a.2.2.2.1.2.2.2.1.2.2 = c144.2.2.2.1.2.2) ∧ (a.2.2.2.1.2.2.2.2.1.length = c144.2.2.2.2.1.length) ∧ (∀ i, i < c144.2.2.2.2.1.length → DEqs ((gl e_api_Label a.2.2.2.1.2.2.2.2.1) i) ((gl e_api_Label c144.2.2.2.2.1) i)) ∧ (a.2.2.2.1.2.2.2.2.2.1 = c144.2.2.2.2.2.1) ∧ (a.2.2.2.1.2.2.2.2.2.2.1 = c144.2.2.2.2.2.2.1) ∧ (a.2.2.2.1.2.2.2.2.2.2.2 = c144.2.2.2.2.2.2.2) ∧ (task_pre c144) ∧ Br (taskB c144) (Br (decide ((0 : Int) ≤ (0 : Int)) && decide ((0 : Int) ≤ ((putTask c15).size : Int)) && decide (((putTask c15).size : Int) ≤ ((putTask c15).size : Int)) && (((putTask c15).size : Int) == ((putTask c15).size : Int))) ((room (((Int.toNat (((putTask c15).size : Int) - (0 : Int))) + a.2.2.2.2.1.size) * 1)) ∧ (∃ c148 : ByteArray × Int, (((Int.toNat (((putTask c15).size : Int) - (0 : Int))) + a.2.2.2.2.1.size) = c148.1.size) ∧ (∀ i, i < c148.1.size → DEqs ((gapp (gsub (gstr (putTask c15)) 0) (Int.toNat (((putTask c15).size : Int) - (0 : Int))) (gstr a.2.2.2.2.1)) i) ((gstr c148.1) i)) ∧ ((a.1.size : Int) = c148.2) ∧ (takes_pre c148) ∧ Let (IntKind.i64.wrap (((putTask c15).size : Int) - (a.1.size : Int))) (fun v149 : Int => Let (IntKind.u64.wrap v149) (fun v150 : Int => Br (!(v150 == 0)) (Let (Int.tmod a.2.2.2.2.2 v150) (fun v151 : Int => Let (IntKind.i64.wrap v151) (fun v152 : Int => Let (IntKind.i64.wrap ((a.1.size : Int) + v152)) (fun v153 : Int => Br (decide ((0 : Int) ≤ (0 : Int)) && decide ((0 : Int) ≤ v153) && decide (v153 ≤ ((putTask c15).size : Int)) && (v153 == v153)) (∃ c155 : ByteArray × Int, ((Int.toNat (v153 - (0 : Int))) = c155.1.size) ∧ (∀ i, i < c155.1.size → DEqs ((gsub (gstr (putTask c15)) 0) i) ((gstr c155.1) i)) ∧ ((a.1.size : Int) = c155.2) ∧ (takes_pre c155) ∧ Br (((takeTask c148).2.2) != (0 : Int)) ((false = (lawTrue a)) ∧ True) (Br (((takeTask c148).2.1) != ((putTask c15).size : Int)) ((false = (lawTrue a)) ∧ True) (∃ c162 : T_api_Task × T_api_Task, ((((takeTask c148).1).1) = c162.1.1) ∧ ((((takeTask c148).1).2.1) = c162.1.2.1) ∧ ((((takeTask c148).1).2.2.1) = c162.1.2.2.1) ∧ (((((takeTask c148).1).2.2.2.1).1) = c162.1.2.2.2.1.1) ∧ (((((takeTask c148).1).2.2.2.1).2.1) = c162.1.2.2.2.1.2.1) ∧ (((((takeTask c148).1).2.2.2.1).2.2) = c162.1.2.2.2.1.2.2) ∧ (((((takeTask c148).1).2.2.2.2.1).length) = c162.1.2.2.2.2.1.length) ∧ (∀ i, i < c162.1.2.2.2.2.1.length → DEqs ((gl e_api_Label (((takeTask c148).1).2.2.2.2.1)) i) ((gl e_api_Label c162.1.2.2.2.2.1) i)) ∧ ((((takeTask c148).1).2.2.2.2.2.1) = c162.1.2.2.2.2.2.1) ∧ ((((takeTask c148).1).2.2.2.2.2.2.1) = c162.1.2.2.2.2.2.2.1) ∧ ((((takeTask c148).1).2.2.2.2.2.2.2) = c162.1.2.2.2.2.2.2.2) ∧ (a.2.2.2.1.1 = c162.2.1) ∧ (a.2.2.2.1.2.1 = c162.2.2.1) ∧ (a.2.2.2.1.2.2.1 = c162.2.2.2.1) ∧ (a.2.2.2.1.2.2.2.1.1 = c162.2.2.2.2.1.1) ∧ (a.2.2.2.1.2.2.2.1.2.1 = c162.2.2.2.2.1.2.1) ∧ (a.2.2.2.1.2.2.2.1.2.2 = c162.2.2.2.2.1.2.2) ∧ (a.2.2.2.1.2.2.2.2.1.length = c162.2.2.2.2.2.1.length) ∧ (∀ i, i < c162.2.2.2.2.2.1.length → DEqs ((gl e_api_Label a.2.2.2.1.2.2.2.2.1) i) ((gl e_api_Label c162.2.2.2.2.2.1) i)) ∧ (a.2.2.2.1.2.2.2.2.2.1 = c162.2.2.2.2.2.2.1) ∧ (a.2.2.2.1.2.2.2.2.2.2.1 = c162.2.2.2.2.2.2.2.1) ∧ (a.2.2.2.1.2.2.2.2.2.2.2 = c162.2.2.2.2.2.2.2.2) ∧ (sameTask_pre c162) ∧ Br (!(sameTask c162)) ((false = (lawTrue a)) ∧ True) (Br (((takeTask c155).2.2) == (0 : Int)) ((false = (lawTrue a)) ∧ True) ((true = (lawTrue a)) ∧ True))))) False)))) False)))) False) ((true = (lawTrue a)) ∧ True))))))) False)))) False)))) False) (∃ c227 : T_api_Queue, (a.2.2.1.1 = c227.1) ∧ (a.2.2.1.2.1 = c227.2.1) ∧ (a.2.2.1.2.2.1 = c227.2.2.1) ∧ (a.2.2.1.2.2.2 = c227.2.2.2) ∧ (queue_pre c227) ∧ Br (queueB c227) (Br (decide ((0 : Int) ≤ (0 : Int)) && decide ((0 : Int) ≤ ((putQueue c14).size : Int)) && decide (((putQueue c14).size : Int) ≤ ((putQueue c14).size : Int)) && (((putQueue c14).size : Int) == ((putQueue c14).size : Int))) ((room (((Int.toNat (((putQueue c14).size : Int) - (0 : Int))) + a.2.2.2.2.1.size) * 1)) ∧ (∃ c231 : ByteArray × Int, (((Int.toNat (((putQueue c14).size : Int) - (0 : Int))) + a.2.2.2.2.1.size) = c231.1.size) ∧ (∀ i, i < c231.1.size → DEqs ((gapp (gsub (gstr (putQueue c14)) 0) (Int.toNat (((putQueue c14).size : Int) - (0 : Int))) (gstr a.2.2.2.2.1)) i) ((gstr c231.1) i)) ∧ ((a.1.size : Int) = c231.2) ∧ (takes_pre c231) ∧ Let (IntKind.i64.wrap (((putQueue c14).size : Int) - (a.1.size : Int))) (fun v232 : Int => Let (IntKind.u64.wrap v232) (fun v233 : Int => Br (!(v233 == 0)) (Let (Int.tmod a.2.2.2.2.2 v233) (fun v234 : Int => Let (IntKind.i64.wrap v234) (fun v235 : Int => Let (IntKind.i64.wrap ((a.1.size : Int) + v235)) (fun v236 : Int => Br (decide ((0 : Int) ≤ (0 : Int)) && decide ((0 : Int) ≤ v236) && decide (v236 ≤ ((putQueue c14).size : Int)) && (v236 == v236)) (∃ c238 : ByteArray × Int, ((Int.toNat (v236 - (0 : Int))) = c238.1.size) ∧ (∀ i, i < c238.1.size → DEqs ((gsub (gstr (putQueue c14)) 0) i) ((gstr c238.1) i)) ∧ ((a.1.size : Int) = c238.2) ∧ (takes_pre c238) ∧ Br (((takeQueue c231).2.2) != (0 : Int)) ((false = (lawTrue a)) ∧ True) (Br (((takeQueue c231).2.1) != ((putQueue c14).size : Int)) ((false = (lawTrue a)) ∧ True) (Br (!(((((takeQueue c231).1).1).toList == a.2.2.1.1.toList) && ((((((takeQueue c231).1).2).1) == a.2.2.1.2.1) && ((((((takeQueue c231).1).2).2.1) == a.2.2.1.2.2.1) && (((((takeQueue c231).1).2).2.2) == a.2.2.1.2.2.2))))) ((false = (lawTrue a)) ∧ True) (Br (((takeQueue c238).2.2) == (0 : Int)) ((false = (lawTrue a)) ∧ True) (∃ c251 : T_api_Task, (a.2.2.2.1.1 = c251.1) ∧ (a.2.2.2.1.2.1 = c251.2.1) ∧ (a.2.2.2.1.2.2.1 = c251.2.2.1) ∧ (a.2.2.2.1.2.2.2.1.1 = c251.2.2.2.1.1) ∧ (a.2.2.2.1.2.2.2.1.2.1 = c251.2.2.2.1.2.1) ∧ (a.2.2.2.1.2.2.2.1.2.2 = c251.2.2.2.1.2.2) ∧ (a.2.2.2.1.2.2.2.2.1.length = c251.2.2.2.2.1.length) ∧ (∀ i, i < c251.2.2.2.2.1.length → DEqs ((gl e_api_Label a.2.2.2.1.2.2.2.2.1) i) ((gl e_api_Label c251.2.2.2.2.1) i)) ∧ (a.2.2.2.1.2.2.2.2.2.1 = c251.2.2.2.2.2.1) ∧ (a.2.2.2.1.2.2.2.2.2.2.1 = c251.2.2.2.2.2.2.1) ∧ (a.2.2.2.1.2.2.2.2.2.2.2 = c251.2.2.2.2.2.2.2) ∧ (task_pre c251) ∧ Br (taskB c251) (Br (decide ((0 : Int) ≤ (0 : Int)) && decide ((0 : Int) ≤ ((putTask c15).size : Int)) && decide (((putTask c15).size : Int) ≤ ((putTask c15).size : Int)) && (((putTask c15).size : Int) == ((putTask c15).size : Int))) ((room (((Int.toNat (((putTask c15).size : Int) - (0 : Int))) + a.2.2.2.2.1.size) * 1)) ∧ (∃ c255 : ByteArray × Int, (((Int.toNat (((putTask c15).size : Int) - (0 : Int))) + a.2.2.2.2.1.size) = c255.1.size) ∧ (∀ i, i < c255.1.size → DEqs ((gapp (gsub (gstr (putTask c15)) 0) (Int.toNat (((putTask c15).size : Int) - (0 : Int))) (gstr a.2.2.2.2.1)) i) ((gstr c255.1) i)) ∧ ((a.1.size : Int) = c255.2) ∧ (takes_pre c255) ∧ Let (IntKind.i64.wrap (((putTask c15).size : Int) - (a.1.size : Int))) (fun v256 : Int => Let (IntKind.u64.wrap v256) (fun v257 : Int => Br (!(v257 == 0)) (Let (Int.tmod a.2.2.2.2.2 v257) (fun v258 : Int => Let (IntKind.i64.wrap v258) (fun v259 : Int => Let (IntKind.i64.wrap ((a.1.size : Int) + v259)) (fun v260 : Int => Br (decide ((0 : Int) ≤ (0 : Int)) && decide ((0 : Int) ≤ v260) && decide (v260 ≤ ((putTask c15).size : Int)) && (v260 == v260)) (∃ c262 : ByteArray × Int, ((Int.toNat (v260 - (0 : Int))) = c262.1.size) ∧ (∀ i, i < c262.1.size → DEqs ((gsub (gstr (putTask c15)) 0) i) ((gstr c262.1) i)) ∧ ((a.1.size : Int) = c262.2) ∧ (takes_pre c262) ∧ Br (((takeTask c255).2.2) != (0 : Int)) ((false = (lawTrue a)) ∧ True) (Br (((takeTask c255).2.1) != ((putTask c15).size : Int)) ((false = (lawTrue a)) ∧ True) (∃ c269 : T_api_Task × T_api_Task, ((((takeTask c255).1).1) = c269.1.1) ∧ ((((takeTask c255).1).2.1) = c269.1.2.1) ∧ ((((takeTask c255).1).2.2.1) = c269.1.2.2.1) ∧ (((((takeTask c255).1).2.2.2.1).1) = c269.1.2.2.2.1.1) ∧ (((((takeTask c255).1).2.2.2.1).2.1) = c269.1.2.2.2.1.2.1) ∧ (((((takeTask c255).1).2.2.2.1).2.2) = c269.1.2.2.2.1.2.2) ∧ (((((takeTask c255).1).2.2.2.2.1).length) = c269.1.2.2.2.2.1.length) ∧ (∀ i, i < c269.1.2.2.2.2.1.length → DEqs ((gl e_api_Label (((takeTask c255).1).2.2.2.2.1)) i) ((gl e_api_Label c269.1.2.2.2.2.1) i)) ∧ ((((takeTask c255).1).2.2.2.2.2.1) = c269.1.2.2.2.2.2.1) ∧ ((((takeTask c255).1).2.2.2.2.2.2.1) = c269.1.2.2.2.2.2.2.1) ∧ ((((takeTask c255).1).2.2.2.2.2.2.2) = c269.1.2.2.2.2.2.2.2) ∧ (a.2.2.2.1.1 = c269.2.1) ∧ (a.2.2.2.1.2.1 = c269.2.2.1) ∧ (a.2.2.2.1.2.2.1 = c269.2.2.2.1) ∧ (a.2.2.2.1.2.2.2.1.1 = c269.2.2.2.2.1.1) ∧ (a.2.2.2.1.2.2.2.1.2.1 = c269.2.2.2.2.1.2.1) ∧ (a.2.2.2.1.2.2.2.1.2.2 = c269.2.2.2.2.1.2.2) ∧ (a.2.2.2.1.2.2.2.2.1.length = c269.2.2.2.2.2.1.length) ∧ (∀ i, i < c269.2.2.2.2.2.1.length → DEqs ((gl e_api_Label a.2.2.2.1.2.2.2.2.1) i) ((gl e_api_Label c269.2.2.2.2.2.1) i)) ∧ (a.2.2.2.1.2.2.2.2.2.1 = c269.2.2.2.2.2.2.1) ∧ (a.2.2.2.1.2.2.2.2.2.2.1 = c269.2.2.2.2.2.2.2.1) ∧ (a.2.2.2.1.2.2.2.2.2.2.2 = c269.2.2.2.2.2.2.2.2) ∧ (sameTask_pre c269) ∧ Br (!(sameTask c269)) ((false = (lawTrue a)) ∧ True) (Br (((takeTask c262).2.2) == (0 : Int)) ((false = (lawTrue a)) ∧ True) ((true = (lawTrue a)) ∧ True))))) False)))) False)))) False) ((true = (lawTrue a)) ∧ True)))))) False)))) False)))) False) (∃ c330 : T_api_Task, (a.2.2.2.1.1 = c330.1) ∧ (a.2.2.2.1.2.1 = c330.2.1) ∧ (a.2.2.2.1.2.2.1 = c330.2.2.1) ∧ (a.2.2.2.1.2.2.2.1.1 = c330.2.2.2.1.1) ∧ (a.2.2.2.1.2.2.2.1.2.1 = c330.2.2.2.1.2.1) ∧ (a.2.2.2.1.2.2.2.1.2.2 = c330.2.2.2.1.2.2) ∧ (a.2.2.2.1.2.2.2.2.1.length = c330.2.2.2.2.1.length) ∧ (∀ i, i < c330.2.2.2.2.1.length → DEqs ((gl e_api_Label a.2.2.2.1.2.2.2.2.1) i) ((gl e_api_Label c330.2.2.2.2.1) i)) ∧ (a.2.2.2.1.2.2.2.2.2.1 = c330.2.2.2.2.2.1) ∧ (a.2.2.2.1.2.2.2.2.2.2.1 = c330.2.2.2.2.2.2.1) ∧ (a.2.2.2.1.2.2.2.2.2.2.2 = c330.2.2.2.2.2.2.2) ∧ (task_pre c330) ∧ Br (taskB c330) (Br (decide ((0 : Int) ≤ (0 : Int)) && decide ((0 : Int) ≤ ((putTask c15).size : Int)) && decide (((putTask c15).size : Int) ≤ ((putTask c15).size : Int)) && (((putTask c15).size : Int) == ((putTask c15).size : Int))) ((room (((Int.toNat (((putTask c15).size : Int) - (0 : Int))) + a.2.2.2.2.1.size) * 1)) ∧ (∃ c334 : ByteArray × Int, (((Int.toNat (((putTask c15).size : Int) - (0 : Int))) + a.2.2.2.2.1.size) = c334.1.size) ∧ (∀ i, i < c334.1.size → DEqs ((gapp (gsub (gstr (putTask c15)) 0) (Int.toNat (((putTask c15).size : Int) - (0 : Int))) (gstr a.2.2.2.2.1)) i) ((gstr c334.1) i)) ∧ ((a.1.size : Int) = c334.2) ∧ (takes_pre c334) ∧ Let (IntKind.i64.wrap (((putTask c15).size : Int) - (a.1.size : Int))) (fun v335 : Int => Let (IntKind.u64.wrap v335) (fun v336 : Int => Br (!(v336 == 0)) (Let (Int.tmod a.2.2.2.2.2 v336) (fun v337 : Int => Let (IntKind.i64.wrap v337) (fun v338 : Int => Let (IntKind.i64.wrap ((a.1.size : Int) + v338)) (fun v339 : Int => Br (decide ((0 : Int) ≤ (0 : Int)) && decide ((0 : Int) ≤ v339) && decide (v339 ≤ ((putTask c15).size : Int)) && (v339 == v339)) (∃ c341 : ByteArray × Int, ((Int.toNat (v339 - (0 : Int))) = c341.1.size) ∧ (∀ i, i < c341.1.size → DEqs ((gsub (gstr (putTask c15)) 0) i) ((gstr c341.1) i)) ∧ ((a.1.size : Int) = c341.2) ∧ (takes_pre c341) ∧ Br (((takeTask c334).2.2) != (0 : Int)) ((false = (lawTrue a)) ∧ True) (Br (((takeTask c334).2.1) != ((putTask c15).size : Int)) ((false = (lawTrue a)) ∧ True) (∃ c348 : T_api_Task × T_api_Task, ((((takeTask c334).1).1) = c348.1.1) ∧ ((((takeTask c334).1).2.1) = c348.1.2.1) ∧ ((((takeTask c334).1).2.2.1) = c348.1.2.2.1) ∧ (((((takeTask c334).1).2.2.2.1).1) = c348.1.2.2.2.1.1) ∧ (((((takeTask c334).1).2.2.2.1).2.1) = c348.1.2.2.2.1.2.1) ∧ (((((takeTask c334).1).2.2.2.1).2.2) = c348.1.2.2.2.1.2.2) ∧ (((((takeTask c334).1).2.2.2.2.1).length) = c348.1.2.2.2.2.1.length) ∧ (∀ i, i < c348.1.2.2.2.2.1.length → DEqs ((gl e_api_Label (((takeTask c334).1).2.2.2.2.1)) i) ((gl e_api_Label c348.1.2.2.2.2.1) i)) ∧ ((((takeTask c334).1).2.2.2.2.2.1) = c348.1.2.2.2.2.2.1) ∧ ((((takeTask c334).1).2.2.2.2.2.2.1) = c348.1.2.2.2.2.2.2.1) ∧ ((((takeTask c334).1).2.2.2.2.2.2.2) = c348.1.2.2.2.2.2.2.2) ∧ (a.2.2.2.1.1 = c348.2.1) ∧ (a.2.2.2.1.2.1 = c348.2.2.1) ∧ (a.2.2.2.1.2.2.1 = c348.2.2.2.1) ∧ (a.2.2.2.1.2.2.2.1.1 = c348.2.2.2.2.1.1) ∧ (a.2.2.2.1.2.2.2.1.2.1 = c348.2.2.2.2.1.2.1) ∧ (a.2.2.2.1.2.2.2.1.2.2 = c348.2.2.2.2.1.2.2) ∧ (a.2.2.2.1.2.2.2.2.1.length = c348.2.2.2.2.2.1.length) ∧ (∀ i, i < c348.2.2.2.2.2.1.length → DEqs ((gl e_api_Label a.2.2.2.1.2.2.2.2.1) i) ((gl e_api_Label c348.2.2.2.2.2.1) i)) ∧ (a.2.2.2.1.2.2.2.2.2.1 = c348.2.2.2.2.2.2.1) ∧ (a.2.2.2.1.2.2.2.2.2.2.1 = c348.2.2.2.2.2.2.2.1) ∧ (a.2.2.2.1.2.2.2.2.2.2.2 = c348.2.2.2.2.2.2.2.2) ∧ (sameTask_pre c348) ∧ Br (!(sameTask c348)) ((false = (lawTrue a)) ∧ True) (Br (((takeTask c341).2.2) == (0 : Int)) ((false = (lawTrue a)) ∧ True) ((true = (lawTrue a)) ∧ True))))) False)))) False)))) False) ((true = (lawTrue a)) ∧ True)))))
def f267.vc (a : ByteArray × T_api_Node × T_api_Queue × T_api_Task × ByteArray × Int) : Prop := ((¬ ((lawTrue ()) = true) → ((lawTrue ()) = lawTrue a)) ∧ (¬ (¬ ((lawTrue ()) = true)) → (few5_pre (a.2.1, a.2.2.1, a.2.2.2.1) ∧ ((¬ ((few5 (a.2.1, a.2.2.1, a.2.2.2.1)) = true) → ((lawTrue ()) = lawTrue a)) ∧ (¬ (¬ ((few5 (a.2.1, a.2.2.1, a.2.2.2.1)) = true)) → (putNode_pre (a.1, a.2.1) ∧ (putQueue_pre (a.1, a.2.2.1) ∧ (putTask_pre (a.1, a.2.2.2.1) ∧ (node_pre a.2.1 ∧ (((nodeB (a.2.1)) = true → ((Int.toNat (((putNode (a.1, a.2.1)).size : Int) - (0 : Int))) + a.2.2.2.2.1.size ≤ 1073741824 ∧ (takes_pre ((subB (putNode (a.1, a.2.1)) (0 : Int) ((putNode (a.1, a.2.1)).size : Int)) ++ a.2.2.2.2.1, (a.1.size : Int)) ∧ (-9223372036854775808 ≤ (((putNode (a.1, a.2.1)).size : Int) - (a.1.size : Int)) ∧ (((putNode (a.1, a.2.1)).size : Int) - (a.1.size : Int)) ≤ 9223372036854775807 ∧ (0 ≤ (((putNode (a.1, a.2.1)).size : Int) - (a.1.size : Int)) ∧ (((putNode (a.1, a.2.1)).size : Int) - (a.1.size : Int)) ≤ 18446744073709551615 ∧ (0 ≤ a.2.2.2.2.2 ∧ 0 < (((putNode (a.1, a.2.1)).size : Int) - (a.1.size : Int)) ∧ (-9223372036854775808 ≤ (a.2.2.2.2.2 % (((putNode (a.1, a.2.1)).size : Int) - (a.1.size : Int))) ∧ (a.2.2.2.2.2 % (((putNode (a.1, a.2.1)).size : Int) - (a.1.size : Int))) ≤ 9223372036854775807 ∧ (-9223372036854775808 ≤ ((a.1.size : Int) + (a.2.2.2.2.2 % (((putNode (a.1, a.2.1)).size : Int) - (a.1.size : Int)))) ∧ ((a.1.size : Int) + (a.2.2.2.2.2 % (((putNode (a.1, a.2.1)).size : Int) - (a.1.size : Int)))) ≤ 9223372036854775807 ∧ ((0 : Int) ≤ ((a.1.size : Int) + (a.2.2.2.2.2 % (((putNode (a.1, a.2.1)).size : Int) - (a.1.size : Int)))) ∧ ((a.1.size : Int) + (a.2.2.2.2.2 % (((putNode (a.1, a.2.1)).size : Int) - (a.1.size : Int)))) ≤ ((putNode (a.1, a.2.1)).size : Int) ∧ (takes_pre ((subB (putNode (a.1, a.2.1)) (0 : Int) ((a.1.size : Int) + (a.2.2.2.2.2 % (((putNode (a.1, a.2.1)).size : Int) - (a.1.size : Int))))), (a.1.size : Int)) ∧ ((¬ ((takeNode ((subB (putNode (a.1, a.2.1)) (0 : Int) ((putNode (a.1, a.2.1)).size : Int)) ++ a.2.2.2.2.1, (a.1.size : Int))).2.2) = (0 : Int) → (false = lawTrue a)) ∧ (¬ (¬ ((takeNode ((subB (putNode (a.1, a.2.1)) (0 : Int) ((putNode (a.1, a.2.1)).size : Int)) ++ a.2.2.2.2.1, (a.1.size : Int))).2.2) = (0 : Int)) → ((¬ ((takeNode ((subB (putNode (a.1, a.2.1)) (0 : Int) ((putNode (a.1, a.2.1)).size : Int)) ++ a.2.2.2.2.1, (a.1.size : Int))).2.1) = ((putNode (a.1, a.2.1)).size : Int) → (false = lawTrue a)) ∧ (¬ (¬ ((takeNode ((subB (putNode (a.1, a.2.1)) (0 : Int) ((putNode (a.1, a.2.1)).size : Int)) ++ a.2.2.2.2.1, (a.1.size : Int))).2.1) = ((putNode (a.1, a.2.1)).size : Int)) → (sameNode_pre (((takeNode ((subB (putNode (a.1, a.2.1)) (0 : Int) ((putNode (a.1, a.2.1)).size : Int)) ++ a.2.2.2.2.1, (a.1.size : Int))).1), a.2.1) ∧ ((¬ ((sameNode (((takeNode ((subB (putNode (a.1, a.2.1)) (0 : Int) ((putNode (a.1, a.2.1)).size : Int)) ++ a.2.2.2.2.1, (a.1.size : Int))).1), a.2.1)) = true) → (false = lawTrue a)) ∧ (¬ (¬ ((sameNode (((takeNode ((subB (putNode (a.1, a.2.1)) (0 : Int) ((putNode (a.1, a.2.1)).size : Int)) ++ a.2.2.2.2.1, (a.1.size : Int))).1), a.2.1)) = true)) → ((((takeNode ((subB (putNode (a.1, a.2.1)) (0 : Int) ((a.1.size : Int) + (a.2.2.2.2.2 % (((putNode (a.1, a.2.1)).size : Int) - (a.1.size : Int))))), (a.1.size : Int))).2.2) = (0 : Int) → (false = lawTrue a)) ∧ (¬ (((takeNode ((subB (putNode (a.1, a.2.1)) (0 : Int) ((a.1.size : Int) + (a.2.2.2.2.2 % (((putNode (a.1, a.2.1)).size : Int) - (a.1.size : Int))))), (a.1.size : Int))).2.2) = (0 : Int)) → (queue_pre a.2.2.1 ∧ (((queueB (a.2.2.1)) = true → ((Int.toNat (((putQueue (a.1, a.2.2.1)).size : Int) - (0 : Int))) + a.2.2.2.2.1.size ≤ 1073741824 ∧ (takes_pre ((subB (putQueue (a.1, a.2.2.1)) (0 : Int) ((putQueue (a.1, a.2.2.1)).size : Int)) ++ a.2.2.2.2.1, (a.1.size : Int)) ∧ (-9223372036854775808 ≤ (((putQueue (a.1, a.2.2.1)).size : Int) - (a.1.size : Int)) ∧ (((putQueue (a.1, a.2.2.1)).size : Int) - (a.1.size : Int)) ≤ 9223372036854775807 ∧ (0 ≤ (((putQueue (a.1, a.2.2.1)).size : Int) - (a.1.size : Int)) ∧ (((putQueue (a.1, a.2.2.1)).size : Int) - (a.1.size : Int)) ≤ 18446744073709551615 ∧ (0 ≤ a.2.2.2.2.2 ∧ 0 < (((putQueue (a.1, a.2.2.1)).size : Int) - (a.1.size : Int)) ∧ (-9223372036854775808 ≤ (a.2.2.2.2.2 % (((putQueue (a.1, a.2.2.1)).size : Int) - (a.1.size : Int))) ∧ (a.2.2.2.2.2 % (((putQueue (a.1, a.2.2.1)).size : Int) - (a.1.size : Int))) ≤ 9223372036854775807 ∧ (-9223372036854775808 ≤ ((a.1.size : Int) + (a.2.2.2.2.2 % (((putQueue (a.1, a.2.2.1)).size : Int) - (a.1.size : Int)))) ∧ ((a.1.size : Int) + (a.2.2.2.2.2 % (((putQueue (a.1, a.2.2.1)).size : Int) - (a.1.size : Int)))) ≤ 9223372036854775807 ∧ ((0 : Int) ≤ ((a.1.size : Int) + (a.2.2.2.2.2 % (((putQueue (a.1, a.2.2.1)).size : Int) - (a.1.size : Int)))) ∧ ((a.1.size : Int) + (a.2.2.2.2.2 % (((putQueue (a.1, a.2.2.1)).size : Int) - (a.1.size : Int)))) ≤ ((putQueue (a.1, a.2.2.1)).size : Int) ∧ (takes_pre ((subB (putQueue (a.1, a.2.2.1)) (0 : Int) ((a.1.size : Int) + (a.2.2.2.2.2 % (((putQueue (a.1, a.2.2.1)).size : Int) - (a.1.size : Int))))), (a.1.size : Int)) ∧ ((¬ ((takeQueue ((subB (putQueue (a.1, a.2.2.1)) (0 : Int) ((putQueue (a.1, a.2.2.1)).size : Int)) ++ a.2.2.2.2.1, (a.1.size : Int))).2.2) = (0 : Int) → (false = lawTrue a)) ∧ (¬ (¬ ((takeQueue ((subB (putQueue (a.1, a.2.2.1)) (0 : Int) ((putQueue (a.1, a.2.2.1)).size : Int)) ++ a.2.2.2.2.1, (a.1.size : Int))).2.2) = (0 : Int)) → ((¬ ((takeQueue ((subB (putQueue (a.1, a.2.2.1)) (0 : Int) ((putQueue (a.1, a.2.2.1)).size : Int)) ++ a.2.2.2.2.1, (a.1.size : Int))).2.1) = ((putQueue (a.1, a.2.2.1)).size : Int) → (false = lawTrue a)) ∧ (¬ (¬ ((takeQueue ((subB (putQueue (a.1, a.2.2.1)) (0 : Int) ((putQueue (a.1, a.2.2.1)).size : Int)) ++ a.2.2.2.2.1, (a.1.size : Int))).2.1) = ((putQueue (a.1, a.2.2.1)).size : Int)) → ((¬ ((((takeQueue ((subB (putQueue (a.1, a.2.2.1)) (0 : Int) ((putQueue (a.1, a.2.2.1)).size : Int)) ++ a.2.2.2.2.1, (a.1.size : Int))).1).1) = a.2.2.1.1 ∧ ((((takeQueue ((subB (putQueue (a.1, a.2.2.1)) (0 : Int) ((putQueue (a.1, a.2.2.1)).size : Int)) ++ a.2.2.2.2.1, (a.1.size : Int))).1).2).1) = a.2.2.1.2.1 ∧ ((((takeQueue ((subB (putQueue (a.1, a.2.2.1)) (0 : Int) ((putQueue (a.1, a.2.2.1)).size : Int)) ++ a.2.2.2.2.1, (a.1.size : Int))).1).2).2.1) = a.2.2.1.2.2.1 ∧ ((((takeQueue ((subB (putQueue (a.1, a.2.2.1)) (0 : Int) ((putQueue (a.1, a.2.2.1)).size : Int)) ++ a.2.2.2.2.1, (a.1.size : Int))).1).2).2.2) = a.2.2.1.2.2.2) → (false = lawTrue a)) ∧ (¬ (¬ ((((takeQueue ((subB (putQueue (a.1, a.2.2.1)) (0 : Int) ((putQueue (a.1, a.2.2.1)).size : Int)) ++ a.2.2.2.2.1, (a.1.size : Int))).1).1) = a.2.2.1.1 ∧ ((((takeQueue ((subB (putQueue (a.1, a.2.2.1)) (0 : Int) ((putQueue (a.1, a.2.2.1)).size : Int)) ++ a.2.2.2.2.1, (a.1.size : Int))).1).2).1) = a.2.2.1.2.1 ∧ ((((takeQueue ((subB (putQueue (a.1, a.2.2.1)) (0 : Int) ((putQueue (a.1, a.2.2.1)).size : Int)) ++ a.2.2.2.2.1, (a.1.size : Int))).1).2).2.1) = a.2.2.1.2.2.1 ∧ ((((takeQueue ((subB (putQueue (a.1, a.2.2.1)) (0 : Int) ((putQueue (a.1, a.2.2.1)).size : Int)) ++ a.2.2.2.2.1, (a.1.size : Int))).1).2).2.2) = a.2.2.1.2.2.2)) → ((((takeQueue ((subB (putQueue (a.1, a.2.2.1)) (0 : Int) ((a.1.size : Int) + (a.2.2.2.2.2 % (((putQueue (a.1, a.2.2.1)).size : Int) - (a.1.size : Int))))), (a.1.size : Int))).2.2) = (0 : Int) → (false = lawTrue a)) ∧ (¬ (((takeQueue ((subB (putQueue (a.1, a.2.2.1)) (0 : Int) ((a.1.size : Int) + (a.2.2.2.2.2 % (((putQueue (a.1, a.2.2.1)).size : Int) - (a.1.size : Int))))), (a.1.size : Int))).2.2) = (0 : Int)) → (task_pre a.2.2.2.1 ∧ (((taskB (a.2.2.2.1)) = true → ((Int.toNat (((putTask (a.1, a.2.2.2.1)).size : Int) - (0 : Int))) + a.2.2.2.2.1.size ≤ 1073741824 ∧ (takes_pre ((subB (putTask (a.1, a.2.2.2.1)) (0 : Int) ((putTask (a.1, a.2.2.2.1)).size : Int)) ++ a.2.2.2.2.1, (a.1.size : Int)) ∧ (-9223372036854775808 ≤ (((putTask (a.1, a.2.2.2.1)).size : Int) - (a.1.size : Int)) ∧ (((putTask (a.1, a.2.2.2.1)).size : Int) - (a.1.size : Int)) ≤ 9223372036854775807 ∧ (0 ≤ (((putTask (a.1, a.2.2.2.1)).size : Int) - (a.1.size : Int)) ∧ (((putTask (a.1, a.2.2.2.1)).size : Int) - (a.1.size : Int)) ≤ 18446744073709551615 ∧ (0 ≤ a.2.2.2.2.2 ∧ 0 < (((putTask (a.1, a.2.2.2.1)).size : Int) - (a.1.size : Int)) ∧ (-9223372036854775808 ≤ (a.2.2.2.2.2 % (((putTask (a.1, a.2.2.2.1)).size : Int) - (a.1.size : Int))) ∧ (a.2.2.2.2.2 % (((putTask (a.1, a.2.2.2.1)).size : Int) - (a.1.size : Int))) ≤ 9223372036854775807 ∧ (-9223372036854775808 ≤ ((a.1.size : Int) + (a.2.2.2.2.2 % (((putTask (a.1, a.2.2.2.1)).size : Int) - (a.1.size : Int)))) ∧ ((a.1.size : Int) + (a.2.2.2.2.2 % (((putTask (a.1, a.2.2.2.1)).size : Int) - (a.1.size : Int)))) ≤ 9223372036854775807 ∧ ((0 : Int) ≤ ((a.1.size : Int) + (a.2.2.2.2.2 % (((putTask (a.1, a.2.2.2.1)).size : Int) - (a.1.size : Int)))) ∧ ((a.1.size : Int) + (a.2.2.2.2.2 % (((putTask (a.1, a.2.2.2.1)).size : Int) - (a.1.size : Int)))) ≤ ((putTask (a.1, a.2.2.2.1)).size : Int) ∧ (takes_pre ((subB (putTask (a.1, a.2.2.2.1)) (0 : Int) ((a.1.size : Int) + (a.2.2.2.2.2 % (((putTask (a.1, a.2.2.2.1)).size : Int) - (a.1.size : Int))))), (a.1.size : Int)) ∧ ((¬ ((takeTask ((subB (putTask (a.1, a.2.2.2.1)) (0 : Int) ((putTask (a.1, a.2.2.2.1)).size : Int)) ++ a.2.2.2.2.1, (a.1.size : Int))).2.2) = (0 : Int) → (false = lawTrue a)) ∧ (¬ (¬ ((takeTask ((subB (putTask (a.1, a.2.2.2.1)) (0 : Int) ((putTask (a.1, a.2.2.2.1)).size : Int)) ++ a.2.2.2.2.1, (a.1.size : Int))).2.2) = (0 : Int)) → ((¬ ((takeTask ((subB (putTask (a.1, a.2.2.2.1)) (0 : Int) ((putTask (a.1, a.2.2.2.1)).size : Int)) ++ a.2.2.2.2.1, (a.1.size : Int))).2.1) = ((putTask (a.1, a.2.2.2.1)).size : Int) → (false = lawTrue a)) ∧ (¬ (¬ ((takeTask ((subB (putTask (a.1, a.2.2.2.1)) (0 : Int) ((putTask (a.1, a.2.2.2.1)).size : Int)) ++ a.2.2.2.2.1, (a.1.size : Int))).2.1) = ((putTask (a.1, a.2.2.2.1)).size : Int)) → (sameTask_pre (((takeTask ((subB (putTask (a.1, a.2.2.2.1)) (0 : Int) ((putTask (a.1, a.2.2.2.1)).size : Int)) ++ a.2.2.2.2.1, (a.1.size : Int))).1), a.2.2.2.1) ∧ ((¬ ((sameTask (((takeTask ((subB (putTask (a.1, a.2.2.2.1)) (0 : Int) ((putTask (a.1, a.2.2.2.1)).size : Int)) ++ a.2.2.2.2.1, (a.1.size : Int))).1), a.2.2.2.1)) = true) → (false = lawTrue a)) ∧ (¬ (¬ ((sameTask (((takeTask ((subB (putTask (a.1, a.2.2.2.1)) (0 : Int) ((putTask (a.1, a.2.2.2.1)).size : Int)) ++ a.2.2.2.2.1, (a.1.size : Int))).1), a.2.2.2.1)) = true)) → ((((takeTask ((subB (putTask (a.1, a.2.2.2.1)) (0 : Int) ((a.1.size : Int) + (a.2.2.2.2.2 % (((putTask (a.1, a.2.2.2.1)).size : Int) - (a.1.size : Int))))), (a.1.size : Int))).2.2) = (0 : Int) → (false = lawTrue a)) ∧ (¬ (((takeTask ((subB (putTask (a.1, a.2.2.2.1)) (0 : Int) ((a.1.size : Int) + (a.2.2.2.2.2 % (((putTask (a.1, a.2.2.2.1)).size : Int) - (a.1.size : Int))))), (a.1.size : Int))).2.2) = (0 : Int)) → (true = lawTrue a)))))))))))))))))))) ∧ (¬ ((taskB (a.2.2.2.1)) = true) → (true = lawTrue a)))))))))))))))))))))) ∧ (¬ ((queueB (a.2.2.1)) = true) → (task_pre a.2.2.2.1 ∧ (((taskB (a.2.2.2.1)) = true → ((Int.toNat (((putTask (a.1, a.2.2.2.1)).size : Int) - (0 : Int))) + a.2.2.2.2.1.size ≤ 1073741824 ∧ (takes_pre ((subB (putTask (a.1, a.2.2.2.1)) (0 : Int) ((putTask (a.1, a.2.2.2.1)).size : Int)) ++ a.2.2.2.2.1, (a.1.size : Int)) ∧ (-9223372036854775808 ≤ (((putTask (a.1, a.2.2.2.1)).size : Int) - (a.1.size : Int)) ∧ (((putTask (a.1, a.2.2.2.1)).size : Int) - (a.1.size : Int)) ≤ 9223372036854775807 ∧ (0 ≤ (((putTask (a.1, a.2.2.2.1)).size : Int) - (a.1.size : Int)) ∧ (((putTask (a.1, a.2.2.2.1)).size : Int) - (a.1.size : Int)) ≤ 18446744073709551615 ∧ (0 ≤ a.2.2.2.2.2 ∧ 0 < (((putTask (a.1, a.2.2.2.1)).size : Int) - (a.1.size : Int)) ∧ (-9223372036854775808 ≤ (a.2.2.2.2.2 % (((putTask (a.1, a.2.2.2.1)).size : Int) - (a.1.size : Int))) ∧ (a.2.2.2.2.2 % (((putTask (a.1, a.2.2.2.1)).size : Int) - (a.1.size : Int))) ≤ 9223372036854775807 ∧ (-9223372036854775808 ≤ ((a.1.size : Int) + (a.2.2.2.2.2 % (((putTask (a.1, a.2.2.2.1)).size : Int) - (a.1.size : Int)))) ∧ ((a.1.size : Int) + (a.2.2.2.2.2 % (((putTask (a.1, a.2.2.2.1)).size : Int) - (a.1.size : Int)))) ≤ 9223372036854775807 ∧ ((0 : Int) ≤ ((a.1.size : Int) + (a.2.2.2.2.2 % (((putTask (a.1, a.2.2.2.1)).size : Int) - (a.1.size : Int)))) ∧ ((a.1.size : Int) + (a.2.2.2.2.2 % (((putTask (a.1, a.2.2.2.1)).size : Int) - (a.1.size : Int)))) ≤ ((putTask (a.1, a.2.2.2.1)).size : Int) ∧ (takes_pre ((subB (putTask (a.1, a.2.2.2.1)) (0 : Int) ((a.1.size : Int) + (a.2.2.2.2.2 % (((putTask (a.1, a.2.2.2.1)).size : Int) - (a.1.size : Int))))), (a.1.size : Int)) ∧ ((¬ ((takeTask ((subB (putTask (a.1, a.2.2.2.1)) (0 : Int) ((putTask (a.1, a.2.2.2.1)).size : Int)) ++ a.2.2.2.2.1, (a.1.size : Int))).2.2) = (0 : Int) → (false = lawTrue a)) ∧ (¬ (¬ ((takeTask ((subB (putTask (a.1, a.2.2.2.1)) (0 : Int) ((putTask (a.1, a.2.2.2.1)).size : Int)) ++ a.2.2.2.2.1, (a.1.size : Int))).2.2) = (0 : Int)) → ((¬ ((takeTask ((subB (putTask (a.1, a.2.2.2.1)) (0 : Int) ((putTask (a.1, a.2.2.2.1)).size : Int)) ++ a.2.2.2.2.1, (a.1.size : Int))).2.1) = ((putTask (a.1, a.2.2.2.1)).size : Int) → (false = lawTrue a)) ∧ (¬ (¬ ((takeTask ((subB (putTask (a.1, a.2.2.2.1)) (0 : Int) ((putTask (a.1, a.2.2.2.1)).size : Int)) ++ a.2.2.2.2.1, (a.1.size : Int))).2.1) = ((putTask (a.1, a.2.2.2.1)).size : Int)) → (sameTask_pre (((takeTask ((subB (putTask (a.1, a.2.2.2.1)) (0 : Int) ((putTask (a.1, a.2.2.2.1)).size : Int)) ++ a.2.2.2.2.1, (a.1.size : Int))).1), a.2.2.2.1) ∧ ((¬ ((sameTask (((takeTask ((subB (putTask (a.1, a.2.2.2.1)) (0 : Int) ((putTask (a.1, a.2.2.2.1)).size : Int)) ++ a.2.2.2.2.1, (a.1.size : Int))).1), a.2.2.2.1)) = true) → (false = lawTrue a)) ∧ (¬ (¬ ((sameTask (((takeTask ((subB (putTask (a.1, a.2.2.2.1)) (0 : Int) ((putTask (a.1, a.2.2.2.1)).size : Int)) ++ a.2.2.2.2.1, (a.1.size : Int))).1), a.2.2.2.1)) = true)) → ((((takeTask ((subB (putTask (a.1, a.2.2.2.1)) (0 : Int) ((a.1.size : Int) + (a.2.2.2.2.2 % (((putTask (a.1, a.2.2.2.1)).size : Int) - (a.1.size : Int))))), (a.1.size : Int))).2.2) = (0 : Int) → (false = lawTrue a)) ∧ (¬ (((takeTask ((subB (putTask (a.1, a.2.2.2.1)) (0 : Int) ((a.1.size : Int) + (a.2.2.2.2.2 % (((putTask (a.1, a.2.2.2.1)).size : Int) - (a.1.size : Int))))), (a.1.size : Int))).2.2) = (0 : Int)) → (true = lawTrue a)))))))))))))))))))) ∧ (¬ ((taskB (a.2.2.2.1)) = true) → (true = lawTrue a)))))))))))))))))))))))))) ∧ (¬ ((nodeB (a.2.1)) = true) → (queue_pre a.2.2.1 ∧ (((queueB (a.2.2.1)) = true → ((Int.toNat (((putQueue (a.1, a.2.2.1)).size : Int) - (0 : Int))) + a.2.2.2.2.1.size ≤ 1073741824 ∧ (takes_pre ((subB (putQueue (a.1, a.2.2.1)) (0 : Int) ((putQueue (a.1, a.2.2.1)).size : Int)) ++ a.2.2.2.2.1, (a.1.size : Int)) ∧ (-9223372036854775808 ≤ (((putQueue (a.1, a.2.2.1)).size : Int) - (a.1.size : Int)) ∧ (((putQueue (a.1, a.2.2.1)).size : Int) - (a.1.size : Int)) ≤ 9223372036854775807 ∧ (0 ≤ (((putQueue (a.1, a.2.2.1)).size : Int) - (a.1.size : Int)) ∧ (((putQueue (a.1, a.2.2.1)).size : Int) - (a.1.size : Int)) ≤ 18446744073709551615 ∧ (0 ≤ a.2.2.2.2.2 ∧ 0 < (((putQueue (a.1, a.2.2.1)).size : Int) - (a.1.size : Int)) ∧ (-9223372036854775808 ≤ (a.2.2.2.2.2 % (((putQueue (a.1, a.2.2.1)).size : Int) - (a.1.size : Int))) ∧ (a.2.2.2.2.2 % (((putQueue (a.1, a.2.2.1)).size : Int) - (a.1.size : Int))) ≤ 9223372036854775807 ∧ (-9223372036854775808 ≤ ((a.1.size : Int) + (a.2.2.2.2.2 % (((putQueue (a.1, a.2.2.1)).size : Int) - (a.1.size : Int)))) ∧ ((a.1.size : Int) + (a.2.2.2.2.2 % (((putQueue (a.1, a.2.2.1)).size : Int) - (a.1.size : Int)))) ≤ 9223372036854775807 ∧ ((0 : Int) ≤ ((a.1.size : Int) + (a.2.2.2.2.2 % (((putQueue (a.1, a.2.2.1)).size : Int) - (a.1.size : Int)))) ∧ ((a.1.size : Int) + (a.2.2.2.2.2 % (((putQueue (a.1, a.2.2.1)).size : Int) - (a.1.size : Int)))) ≤ ((putQueue (a.1, a.2.2.1)).size : Int) ∧ (takes_pre ((subB (putQueue (a.1, a.2.2.1)) (0 : Int) ((a.1.size : Int) + (a.2.2.2.2.2 % (((putQueue (a.1, a.2.2.1)).size : Int) - (a.1.size : Int))))), (a.1.size : Int)) ∧ ((¬ ((takeQueue ((subB (putQueue (a.1, a.2.2.1)) (0 : Int) ((putQueue (a.1, a.2.2.1)).size : Int)) ++ a.2.2.2.2.1, (a.1.size : Int))).2.2) = (0 : Int) → (false = lawTrue a)) ∧ (¬ (¬ ((takeQueue ((subB (putQueue (a.1, a.2.2.1)) (0 : Int) ((putQueue (a.1, a.2.2.1)).size : Int)) ++ a.2.2.2.2.1, (a.1.size : Int))).2.2) = (0 : Int)) → ((¬ ((takeQueue ((subB (putQueue (a.1, a.2.2.1)) (0 : Int) ((putQueue (a.1, a.2.2.1)).size : Int)) ++ a.2.2.2.2.1, (a.1.size : Int))).2.1) = ((putQueue (a.1, a.2.2.1)).size : Int) → (false = lawTrue a)) ∧ (¬ (¬ ((takeQueue ((subB (putQueue (a.1, a.2.2.1)) (0 : Int) ((putQueue (a.1, a.2.2.1)).size : Int)) ++ a.2.2.2.2.1, (a.1.size : Int))).2.1) = ((putQueue (a.1, a.2.2.1)).size : Int)) → ((¬ ((((takeQueue ((subB (putQueue (a.1, a.2.2.1)) (0 : Int) ((putQueue (a.1, a.2.2.1)).size : Int)) ++ a.2.2.2.2.1, (a.1.size : Int))).1).1) = a.2.2.1.1 ∧ ((((takeQueue ((subB (putQueue (a.1, a.2.2.1)) (0 : Int) ((putQueue (a.1, a.2.2.1)).size : Int)) ++ a.2.2.2.2.1, (a.1.size : Int))).1).2).1) = a.2.2.1.2.1 ∧ ((((takeQueue ((subB (putQueue (a.1, a.2.2.1)) (0 : Int) ((putQueue (a.1, a.2.2.1)).size : Int)) ++ a.2.2.2.2.1, (a.1.size : Int))).1).2).2.1) = a.2.2.1.2.2.1 ∧ ((((takeQueue ((subB (putQueue (a.1, a.2.2.1)) (0 : Int) ((putQueue (a.1, a.2.2.1)).size : Int)) ++ a.2.2.2.2.1, (a.1.size : Int))).1).2).2.2) = a.2.2.1.2.2.2) → (false = lawTrue a)) ∧ (¬ (¬ ((((takeQueue ((subB (putQueue (a.1, a.2.2.1)) (0 : Int) ((putQueue (a.1, a.2.2.1)).size : Int)) ++ a.2.2.2.2.1, (a.1.size : Int))).1).1) = a.2.2.1.1 ∧ ((((takeQueue ((subB (putQueue (a.1, a.2.2.1)) (0 : Int) ((putQueue (a.1, a.2.2.1)).size : Int)) ++ a.2.2.2.2.1, (a.1.size : Int))).1).2).1) = a.2.2.1.2.1 ∧ ((((takeQueue ((subB (putQueue (a.1, a.2.2.1)) (0 : Int) ((putQueue (a.1, a.2.2.1)).size : Int)) ++ a.2.2.2.2.1, (a.1.size : Int))).1).2).2.1) = a.2.2.1.2.2.1 ∧ ((((takeQueue ((subB (putQueue (a.1, a.2.2.1)) (0 : Int) ((putQueue (a.1, a.2.2.1)).size : Int)) ++ a.2.2.2.2.1, (a.1.size : Int))).1).2).2.2) = a.2.2.1.2.2.2)) → ((((takeQueue ((subB (putQueue (a.1, a.2.2.1)) (0 : Int) ((a.1.size : Int) + (a.2.2.2.2.2 % (((putQueue (a.1, a.2.2.1)).size : Int) - (a.1.size : Int))))), (a.1.size : Int))).2.2) = (0 : Int) → (false = lawTrue a)) ∧ (¬ (((takeQueue ((subB (putQueue (a.1, a.2.2.1)) (0 : Int) ((a.1.size : Int) + (a.2.2.2.2.2 % (((putQueue (a.1, a.2.2.1)).size : Int) - (a.1.size : Int))))), (a.1.size : Int))).2.2) = (0 : Int)) → (task_pre a.2.2.2.1 ∧ (((taskB (a.2.2.2.1)) = true → ((Int.toNat (((putTask (a.1, a.2.2.2.1)).size : Int) - (0 : Int))) + a.2.2.2.2.1.size ≤ 1073741824 ∧ (takes_pre ((subB (putTask (a.1, a.2.2.2.1)) (0 : Int) ((putTask (a.1, a.2.2.2.1)).size : Int)) ++ a.2.2.2.2.1, (a.1.size : Int)) ∧ (-9223372036854775808 ≤ (((putTask (a.1, a.2.2.2.1)).size : Int) - (a.1.size : Int)) ∧ (((putTask (a.1, a.2.2.2.1)).size : Int) - (a.1.size : Int)) ≤ 9223372036854775807 ∧ (0 ≤ (((putTask (a.1, a.2.2.2.1)).size : Int) - (a.1.size : Int)) ∧ (((putTask (a.1, a.2.2.2.1)).size : Int) - (a.1.size : Int)) ≤ 18446744073709551615 ∧ (0 ≤ a.2.2.2.2.2 ∧ 0 < (((putTask (a.1, a.2.2.2.1)).size : Int) - (a.1.size : Int)) ∧ (-9223372036854775808 ≤ (a.2.2.2.2.2 % (((putTask (a.1, a.2.2.2.1)).size : Int) - (a.1.size : Int))) ∧ (a.2.2.2.2.2 % (((putTask (a.1, a.2.2.2.1)).size : Int) - (a.1.size : Int))) ≤ 9223372036854775807 ∧ (-9223372036854775808 ≤ ((a.1.size : Int) + (a.2.2.2.2.2 % (((putTask (a.1, a.2.2.2.1)).size : Int) - (a.1.size : Int)))) ∧ ((a.1.size : Int) + (a.2.2.2.2.2 % (((putTask (a.1, a.2.2.2.1)).size : Int) - (a.1.size : Int)))) ≤ 9223372036854775807 ∧ ((0 : Int) ≤ ((a.1.size : Int) + (a.2.2.2.2.2 % (((putTask (a.1, a.2.2.2.1)).size : Int) - (a.1.size : Int)))) ∧ ((a.1.size : Int) + (a.2.2.2.2.2 % (((putTask (a.1, a.2.2.2.1)).size : Int) - (a.1.size : Int)))) ≤ ((putTask (a.1, a.2.2.2.1)).size : Int) ∧ (takes_pre ((subB (putTask (a.1, a.2.2.2.1)) (0 : Int) ((a.1.size : Int) + (a.2.2.2.2.2 % (((putTask (a.1, a.2.2.2.1)).size : Int) - (a.1.size : Int))))), (a.1.size : Int)) ∧ ((¬ ((takeTask ((subB (putTask (a.1, a.2.2.2.1)) (0 : Int) ((putTask (a.1, a.2.2.2.1)).size : Int)) ++ a.2.2.2.2.1, (a.1.size : Int))).2.2) = (0 : Int) → (false = lawTrue a)) ∧ (¬ (¬ ((takeTask ((subB (putTask (a.1, a.2.2.2.1)) (0 : Int) ((putTask (a.1, a.2.2.2.1)).size : Int)) ++ a.2.2.2.2.1, (a.1.size : Int))).2.2) = (0 : Int)) → ((¬ ((takeTask ((subB (putTask (a.1, a.2.2.2.1)) (0 : Int) ((putTask (a.1, a.2.2.2.1)).size : Int)) ++ a.2.2.2.2.1, (a.1.size : Int))).2.1) = ((putTask (a.1, a.2.2.2.1)).size : Int) → (false = lawTrue a)) ∧ (¬ (¬ ((takeTask ((subB (putTask (a.1, a.2.2.2.1)) (0 : Int) ((putTask (a.1, a.2.2.2.1)).size : Int)) ++ a.2.2.2.2.1, (a.1.size : Int))).2.1) = ((putTask (a.1, a.2.2.2.1)).size : Int)) → (sameTask_pre (((takeTask ((subB (putTask (a.1, a.2.2.2.1)) (0 : Int) ((putTask (a.1, a.2.2.2.1)).size : Int)) ++ a.2.2.2.2.1, (a.1.size : Int))).1), a.2.2.2.1) ∧ ((¬ ((sameTask (((takeTask ((subB (putTask (a.1, a.2.2.2.1)) (0 : Int) ((putTask (a.1, a.2.2.2.1)).size : Int)) ++ a.2.2.2.2.1, (a.1.size : Int))).1), a.2.2.2.1)) = true) → (false = lawTrue a)) ∧ (¬ (¬ ((sameTask (((takeTask ((subB (putTask (a.1, a.2.2.2.1)) (0 : Int) ((putTask (a.1, a.2.2.2.1)).size : Int)) ++ a.2.2.2.2.1, (a.1.size : Int))).1), a.2.2.2.1)) = true)) → ((((takeTask ((subB (putTask (a.1, a.2.2.2.1)) (0 : Int) ((a.1.size : Int) + (a.2.2.2.2.2 % (((putTask (a.1, a.2.2.2.1)).size : Int) - (a.1.size : Int))))), (a.1.size : Int))).2.2) = (0 : Int) → (false = lawTrue a)) ∧ (¬ (((takeTask ((subB (putTask (a.1, a.2.2.2.1)) (0 : Int) ((a.1.size : Int) + (a.2.2.2.2.2 % (((putTask (a.1, a.2.2.2.1)).size : Int) - (a.1.size : Int))))), (a.1.size : Int))).2.2) = (0 : Int)) → (true = lawTrue a)))))))))))))))))))) ∧ (¬ ((taskB (a.2.2.2.1)) = true) → (true = lawTrue a)))))))))))))))))))))) ∧ (¬ ((queueB (a.2.2.1)) = true) → (task_pre a.2.2.2.1 ∧ (((taskB (a.2.2.2.1)) = true → ((Int.toNat (((putTask (a.1, a.2.2.2.1)).size : Int) - (0 : Int))) + a.2.2.2.2.1.size ≤ 1073741824 ∧ (takes_pre ((subB (putTask (a.1, a.2.2.2.1)) (0 : Int) ((putTask (a.1, a.2.2.2.1)).size : Int)) ++ a.2.2.2.2.1, (a.1.size : Int)) ∧ (-9223372036854775808 ≤ (((putTask (a.1, a.2.2.2.1)).size : Int) - (a.1.size : Int)) ∧ (((putTask (a.1, a.2.2.2.1)).size : Int) - (a.1.size : Int)) ≤ 9223372036854775807 ∧ (0 ≤ (((putTask (a.1, a.2.2.2.1)).size : Int) - (a.1.size : Int)) ∧ (((putTask (a.1, a.2.2.2.1)).size : Int) - (a.1.size : Int)) ≤ 18446744073709551615 ∧ (0 ≤ a.2.2.2.2.2 ∧ 0 < (((putTask (a.1, a.2.2.2.1)).size : Int) - (a.1.size : Int)) ∧ (-9223372036854775808 ≤ (a.2.2.2.2.2 % (((putTask (a.1, a.2.2.2.1)).size : Int) - (a.1.size : Int))) ∧ (a.2.2.2.2.2 % (((putTask (a.1, a.2.2.2.1)).size : Int) - (a.1.size : Int))) ≤ 9223372036854775807 ∧ (-9223372036854775808 ≤ ((a.1.size : Int) + (a.2.2.2.2.2 % (((putTask (a.1, a.2.2.2.1)).size : Int) - (a.1.size : Int)))) ∧ ((a.1.size : Int) + (a.2.2.2.2.2 % (((putTask (a.1, a.2.2.2.1)).size : Int) - (a.1.size : Int)))) ≤ 9223372036854775807 ∧ ((0 : Int) ≤ ((a.1.size : Int) + (a.2.2.2.2.2 % (((putTask (a.1, a.2.2.2.1)).size : Int) - (a.1.size : Int)))) ∧ ((a.1.size : Int) + (a.2.2.2.2.2 % (((putTask (a.1, a.2.2.2.1)).size : Int) - (a.1.size : Int)))) ≤ ((putTask (a.1, a.2.2.2.1)).size : Int) ∧ (takes_pre ((subB (putTask (a.1, a.2.2.2.1)) (0 : Int) ((a.1.size : Int) + (a.2.2.2.2.2 % (((putTask (a.1, a.2.2.2.1)).size : Int) - (a.1.size : Int))))), (a.1.size : Int)) ∧ ((¬ ((takeTask ((subB (putTask (a.1, a.2.2.2.1)) (0 : Int) ((putTask (a.1, a.2.2.2.1)).size : Int)) ++ a.2.2.2.2.1, (a.1.size : Int))).2.2) = (0 : Int) → (false = lawTrue a)) ∧ (¬ (¬ ((takeTask ((subB (putTask (a.1, a.2.2.2.1)) (0 : Int) ((putTask (a.1, a.2.2.2.1)).size : Int)) ++ a.2.2.2.2.1, (a.1.size : Int))).2.2) = (0 : Int)) → ((¬ ((takeTask ((subB (putTask (a.1, a.2.2.2.1)) (0 : Int) ((putTask (a.1, a.2.2.2.1)).size : Int)) ++ a.2.2.2.2.1, (a.1.size : Int))).2.1) = ((putTask (a.1, a.2.2.2.1)).size : Int) → (false = lawTrue a)) ∧ (¬ (¬ ((takeTask ((subB (putTask (a.1, a.2.2.2.1)) (0 : Int) ((putTask (a.1, a.2.2.2.1)).size : Int)) ++ a.2.2.2.2.1, (a.1.size : Int))).2.1) = ((putTask (a.1, a.2.2.2.1)).size : Int)) → (sameTask_pre (((takeTask ((subB (putTask (a.1, a.2.2.2.1)) (0 : Int) ((putTask (a.1, a.2.2.2.1)).size : Int)) ++ a.2.2.2.2.1, (a.1.size : Int))).1), a.2.2.2.1) ∧ ((¬ ((sameTask (((takeTask ((subB (putTask (a.1, a.2.2.2.1)) (0 : Int) ((putTask (a.1, a.2.2.2.1)).size : Int)) ++ a.2.2.2.2.1, (a.1.size : Int))).1), a.2.2.2.1)) = true) → (false = lawTrue a)) ∧ (¬ (¬ ((sameTask (((takeTask ((subB (putTask (a.1, a.2.2.2.1)) (0 : Int) ((putTask (a.1, a.2.2.2.1)).size : Int)) ++ a.2.2.2.2.1, (a.1.size : Int))).1), a.2.2.2.1)) = true)) → ((((takeTask ((subB (putTask (a.1, a.2.2.2.1)) (0 : Int) ((a.1.size : Int) + (a.2.2.2.2.2 % (((putTask (a.1, a.2.2.2.1)).size : Int) - (a.1.size : Int))))), (a.1.size : Int))).2.2) = (0 : Int) → (false = lawTrue a)) ∧ (¬ (((takeTask ((subB (putTask (a.1, a.2.2.2.1)) (0 : Int) ((a.1.size : Int) + (a.2.2.2.2.2 % (((putTask (a.1, a.2.2.2.1)).size : Int) - (a.1.size : Int))))), (a.1.size : Int))).2.2) = (0 : Int)) → (true = lawTrue a)))))))))))))))))))) ∧ (¬ ((taskB (a.2.2.2.1)) = true) → (true = lawTrue a))))))))))))))))))
set_option maxRecDepth 100000 in
set_option maxHeartbeats 2000000 in
theorem f267.of (a : ByteArray × T_api_Node × T_api_Queue × T_api_Task × ByteArray × Int) (h : f267.vc a) : f267.tree a := ⟨(), ⟨trivial, br h (Cnd.not Cnd.b) (fun h2 k397 => ⟨(), ⟨trivial, ⟨k397, trivial⟩⟩⟩) (fun h3 k398 => ⟨(a.2.1, a.2.2.1, a.2.2.2.1), ⟨rfl, ⟨rfl, ⟨rfl, ⟨rfl, slK (Rds.self (enc := e_api_Label)) (⟨rfl, ⟨rfl, ⟨rfl, ⟨rfl, ⟨rfl, ⟨rfl, ⟨rfl, ⟨rfl, ⟨rfl, ⟨rfl, slK (Rds.self (enc := e_api_Label)) (⟨rfl, ⟨rfl, ⟨rfl, ⟨k398.1, br k398.2 (Cnd.not Cnd.b) (fun h8 k394 => ⟨(), ⟨trivial, ⟨k394, trivial⟩⟩⟩) (fun h9 k395 => ⟨(a.1, a.2.1), slK RdB.self (⟨rfl, ⟨rfl, ⟨rfl, ⟨rfl, slK (Rds.self (enc := e_api_Label)) (⟨k395.1, ⟨(a.1, a.2.2.1), slK RdB.self (⟨rfl, ⟨rfl, ⟨rfl, ⟨rfl, ⟨k395.2.1, ⟨(a.1, a.2.2.2.1), slK RdB.self (⟨rfl, ⟨rfl, ⟨rfl, ⟨rfl, ⟨rfl, ⟨rfl, slK (Rds.self (enc := e_api_Label)) (⟨rfl, ⟨rfl, ⟨rfl, ⟨k395.2.2.1, ⟨a.2.1, ⟨rfl, ⟨rfl, ⟨rfl, ⟨rfl, slK (Rds.self (enc := e_api_Label)) (⟨k395.2.2.2.1, br k395.2.2.2.2 Cnd.b (fun h17 k388 => chk k388 Cnd.sl ⟨(by decide), (Int.natCast_nonneg _), (Int.le_refl _)⟩ (fun h19 k226 => ⟨(room_of k226.1 (by decide)), ⟨((subB (putNode (a.1, a.2.1)) (0 : Int) ((putNode (a.1, a.2.1)).size : Int)) ++ a.2.2.2.2.1, (a.1.size : Int)), slK (RdB.app (RdB.sub RdB.self h19) RdB.self) (⟨rfl, ⟨k226.2.1, wrapK.i64 k226.2.2 (fun h222 h223 k224 => wrapK.u64 k224 (fun h219 h220 k221 => chk0 (Cnd.not Cnd.eq) (by have := k221.2.1; omega) (modK k221.1 (wrapK.i64 k221.2.2 (fun h216 h217 k218 => wrapK.i64 k218 (fun h213 h214 k215 => chk k215.2.2 Cnd.sl ⟨(by decide), k215.1, k215.2.1⟩ (fun h26 k212 => ⟨((subB (putNode (a.1, a.2.1)) (0 : Int) ((a.1.size : Int) + (a.2.2.2.2.2 % (((putNode (a.1, a.2.1)).size : Int) - (a.1.size : Int))))), (a.1.size : Int)), slK (RdB.sub RdB.self h26) (⟨rfl, ⟨k212.1, br k212.2 Cnd.ne (fun h28 k209 => ⟨k209, trivial⟩) (fun h29 k210 => br k210 Cnd.ne (fun h31 k207 => ⟨k207, trivial⟩) (fun h32 k208 => ⟨(((takeNode ((subB (putNode (a.1, a.2.1)) (0 : Int) ((putNode (a.1, a.2.1)).size : Int)) ++ a.2.2.2.2.1, (a.1.size : Int))).1), a.2.1), ⟨rfl, ⟨rfl, ⟨rfl, ⟨rfl, slK (Rds.self (enc := e_api_Label)) (⟨rfl, ⟨rfl, ⟨rfl, ⟨rfl, slK (Rds.self (enc := e_api_Label)) (⟨k208.1, br k208.2 (Cnd.not Cnd.b) (fun h35 k204 => ⟨k204, trivial⟩) (fun h36 k205 => br k205 Cnd.eq (fun h38 k202 => ⟨k202, trivial⟩) (fun h39 k203 => ⟨a.2.2.1, ⟨rfl, ⟨rfl, ⟨rfl, ⟨rfl, ⟨k203.1, br k203.2 Cnd.b (fun h42 k199 => chk k199 Cnd.sl ⟨(by decide), (Int.natCast_nonneg _), (Int.le_refl _)⟩ (fun h44 k143 => ⟨(room_of k143.1 (by decide)), ⟨((subB (putQueue (a.1, a.2.2.1)) (0 : Int) ((putQueue (a.1, a.2.2.1)).size : Int)) ++ a.2.2.2.2.1, (a.1.size : Int)), slK (RdB.app (RdB.sub RdB.self h44) RdB.self) (⟨rfl, ⟨k143.2.1, wrapK.i64 k143.2.2 (fun h139 h140 k141 => wrapK.u64 k141 (fun h136 h137 k138 => chk0 (Cnd.not Cnd.eq) (by have := k138.2.1; omega) (modK k138.1 (wrapK.i64 k138.2.2 (fun h133 h134 k135 => wrapK.i64 k135 (fun h130 h131 k132 => chk k132.2.2 Cnd.sl ⟨(by decide), k132.1, k132.2.1⟩ (fun h51 k129 => ⟨((subB (putQueue (a.1, a.2.2.1)) (0 : Int) ((a.1.size : Int) + (a.2.2.2.2.2 % (((putQueue (a.1, a.2.2.1)).size : Int) - (a.1.size : Int))))), (a.1.size : Int)), slK (RdB.sub RdB.self h51) (⟨rfl, ⟨k129.1, br k129.2 Cnd.ne (fun h53 k126 => ⟨k126, trivial⟩) (fun h54 k127 => br k127 Cnd.ne (fun h56 k124 => ⟨k124, trivial⟩) (fun h57 k125 => br k125 (Cnd.not (Cnd.and Cnd.seq (Cnd.and Cnd.eq (Cnd.and Cnd.eq Cnd.eq)))) (fun h59 k122 => ⟨k122, trivial⟩) (fun h60 k123 => br k123 Cnd.eq (fun h62 k120 => ⟨k120, trivial⟩) (fun h63 k121 => ⟨a.2.2.2.1, ⟨rfl, ⟨rfl, ⟨rfl, ⟨rfl, ⟨rfl, ⟨rfl, slK (Rds.self (enc := e_api_Label)) (⟨rfl, ⟨rfl, ⟨rfl, ⟨k121.1, br k121.2 Cnd.b (fun h66 k117 => chk k117 Cnd.sl ⟨(by decide), (Int.natCast_nonneg _), (Int.le_refl _)⟩ (fun h68 k115 => ⟨(room_of k115.1 (by decide)), ⟨((subB (putTask (a.1, a.2.2.2.1)) (0 : Int) ((putTask (a.1, a.2.2.2.1)).size : Int)) ++ a.2.2.2.2.1, (a.1.size : Int)), slK (RdB.app (RdB.sub RdB.self h68) RdB.self) (⟨rfl, ⟨k115.2.1, wrapK.i64 k115.2.2 (fun h111 h112 k113 => wrapK.u64 k113 (fun h108 h109 k110 => chk0 (Cnd.not Cnd.eq) (by have := k110.2.1; omega) (modK k110.1 (wrapK.i64 k110.2.2 (fun h105 h106 k107 => wrapK.i64 k107 (fun h102 h103 k104 => chk k104.2.2 Cnd.sl ⟨(by decide), k104.1, k104.2.1⟩ (fun h75 k101 => ⟨((subB (putTask (a.1, a.2.2.2.1)) (0 : Int) ((a.1.size : Int) + (a.2.2.2.2.2 % (((putTask (a.1, a.2.2.2.1)).size : Int) - (a.1.size : Int))))), (a.1.size : Int)), slK (RdB.sub RdB.self h75) (⟨rfl, ⟨k101.1, br k101.2 Cnd.ne (fun h77 k98 => ⟨k98, trivial⟩) (fun h78 k99 => br k99 Cnd.ne (fun h80 k96 => ⟨k96, trivial⟩) (fun h81 k97 => ⟨(((takeTask ((subB (putTask (a.1, a.2.2.2.1)) (0 : Int) ((putTask (a.1, a.2.2.2.1)).size : Int)) ++ a.2.2.2.2.1, (a.1.size : Int))).1), a.2.2.2.1), ⟨rfl, ⟨rfl, ⟨rfl, ⟨rfl, ⟨rfl, ⟨rfl, slK (Rds.self (enc := e_api_Label)) (⟨rfl, ⟨rfl, ⟨rfl, ⟨rfl, ⟨rfl, ⟨rfl, ⟨rfl, ⟨rfl, ⟨rfl, slK (Rds.self (enc := e_api_Label)) (⟨rfl, ⟨rfl, ⟨rfl, ⟨k97.1, br k97.2 (Cnd.not Cnd.b) (fun h84 k93 => ⟨k93, trivial⟩) (fun h85 k94 => br k94 Cnd.eq (fun h87 k91 => ⟨k91, trivial⟩) (fun h88 k92 => ⟨k92, trivial⟩))⟩⟩⟩⟩)⟩⟩⟩⟩⟩⟩⟩⟩⟩)⟩⟩⟩⟩⟩⟩⟩))⟩⟩)⟩)))))))⟩⟩)⟩⟩)) (fun h67 k118 => ⟨k118, trivial⟩)⟩⟩⟩⟩)⟩⟩⟩⟩⟩⟩⟩))))⟩⟩)⟩)))))))⟩⟩)⟩⟩)) (fun h43 k200 => ⟨a.2.2.2.1, ⟨rfl, ⟨rfl, ⟨rfl, ⟨rfl, ⟨rfl, ⟨rfl, slK (Rds.self (enc := e_api_Label)) (⟨rfl, ⟨rfl, ⟨rfl, ⟨k200.1, br k200.2 Cnd.b (fun h145 k196 => chk k196 Cnd.sl ⟨(by decide), (Int.natCast_nonneg _), (Int.le_refl _)⟩ (fun h147 k194 => ⟨(room_of k194.1 (by decide)), ⟨((subB (putTask (a.1, a.2.2.2.1)) (0 : Int) ((putTask (a.1, a.2.2.2.1)).size : Int)) ++ a.2.2.2.2.1, (a.1.size : Int)), slK (RdB.app (RdB.sub RdB.self h147) RdB.self) (⟨rfl, ⟨k194.2.1, wrapK.i64 k194.2.2 (fun h190 h191 k192 => wrapK.u64 k192 (fun h187 h188 k189 => chk0 (Cnd.not Cnd.eq) (by have := k189.2.1; omega) (modK k189.1 (wrapK.i64 k189.2.2 (fun h184 h185 k186 => wrapK.i64 k186 (fun h181 h182 k183 => chk k183.2.2 Cnd.sl ⟨(by decide), k183.1, k183.2.1⟩ (fun h154 k180 => ⟨((subB (putTask (a.1, a.2.2.2.1)) (0 : Int) ((a.1.size : Int) + (a.2.2.2.2.2 % (((putTask (a.1, a.2.2.2.1)).size : Int) - (a.1.size : Int))))), (a.1.size : Int)), slK (RdB.sub RdB.self h154) (⟨rfl, ⟨k180.1, br k180.2 Cnd.ne (fun h156 k177 => ⟨k177, trivial⟩) (fun h157 k178 => br k178 Cnd.ne (fun h159 k175 => ⟨k175, trivial⟩) (fun h160 k176 => ⟨(((takeTask ((subB (putTask (a.1, a.2.2.2.1)) (0 : Int) ((putTask (a.1, a.2.2.2.1)).size : Int)) ++ a.2.2.2.2.1, (a.1.size : Int))).1), a.2.2.2.1), ⟨rfl, ⟨rfl, ⟨rfl, ⟨rfl, ⟨rfl, ⟨rfl, slK (Rds.self (enc := e_api_Label)) (⟨rfl, ⟨rfl, ⟨rfl, ⟨rfl, ⟨rfl, ⟨rfl, ⟨rfl, ⟨rfl, ⟨rfl, slK (Rds.self (enc := e_api_Label)) (⟨rfl, ⟨rfl, ⟨rfl, ⟨k176.1, br k176.2 (Cnd.not Cnd.b) (fun h163 k172 => ⟨k172, trivial⟩) (fun h164 k173 => br k173 Cnd.eq (fun h166 k170 => ⟨k170, trivial⟩) (fun h167 k171 => ⟨k171, trivial⟩))⟩⟩⟩⟩)⟩⟩⟩⟩⟩⟩⟩⟩⟩)⟩⟩⟩⟩⟩⟩⟩))⟩⟩)⟩)))))))⟩⟩)⟩⟩)) (fun h146 k197 => ⟨k197, trivial⟩)⟩⟩⟩⟩)⟩⟩⟩⟩⟩⟩⟩)⟩⟩⟩⟩⟩⟩))⟩)⟩⟩⟩⟩)⟩⟩⟩⟩⟩))⟩⟩)⟩)))))))⟩⟩)⟩⟩)) (fun h18 k389 => ⟨a.2.2.1, ⟨rfl, ⟨rfl, ⟨rfl, ⟨rfl, ⟨k389.1, br k389.2 Cnd.b (fun h228 k385 => chk k385 Cnd.sl ⟨(by decide), (Int.natCast_nonneg _), (Int.le_refl _)⟩ (fun h230 k329 => ⟨(room_of k329.1 (by decide)), ⟨((subB (putQueue (a.1, a.2.2.1)) (0 : Int) ((putQueue (a.1, a.2.2.1)).size : Int)) ++ a.2.2.2.2.1, (a.1.size : Int)), slK (RdB.app (RdB.sub RdB.self h230) RdB.self) (⟨rfl, ⟨k329.2.1, wrapK.i64 k329.2.2 (fun h325 h326 k327 => wrapK.u64 k327 (fun h322 h323 k324 => chk0 (Cnd.not Cnd.eq) (by have := k324.2.1; omega) (modK k324.1 (wrapK.i64 k324.2.2 (fun h319 h320 k321 => wrapK.i64 k321 (fun h316 h317 k318 => chk k318.2.2 Cnd.sl ⟨(by decide), k318.1, k318.2.1⟩ (fun h237 k315 => ⟨((subB (putQueue (a.1, a.2.2.1)) (0 : Int) ((a.1.size : Int) + (a.2.2.2.2.2 % (((putQueue (a.1, a.2.2.1)).size : Int) - (a.1.size : Int))))), (a.1.size : Int)), slK (RdB.sub RdB.self h237) (⟨rfl, ⟨k315.1, br k315.2 Cnd.ne (fun h239 k312 => ⟨k312, trivial⟩) (fun h240 k313 => br k313 Cnd.ne (fun h242 k310 => ⟨k310, trivial⟩) (fun h243 k311 => br k311 (Cnd.not (Cnd.and Cnd.seq (Cnd.and Cnd.eq (Cnd.and Cnd.eq Cnd.eq)))) (fun h245 k308 => ⟨k308, trivial⟩) (fun h246 k309 => br k309 Cnd.eq (fun h248 k306 => ⟨k306, trivial⟩) (fun h249 k307 => ⟨a.2.2.2.1, ⟨rfl, ⟨rfl, ⟨rfl, ⟨rfl, ⟨rfl, ⟨rfl, slK (Rds.self (enc := e_api_Label)) (⟨rfl, ⟨rfl, ⟨rfl, ⟨k307.1, br k307.2 Cnd.b (fun h252 k303 => chk k303 Cnd.sl ⟨(by decide), (Int.natCast_nonneg _), (Int.le_refl _)⟩ (fun h254 k301 => ⟨(room_of k301.1 (by decide)), ⟨((subB (putTask (a.1, a.2.2.2.1)) (0 : Int) ((putTask (a.1, a.2.2.2.1)).size : Int)) ++ a.2.2.2.2.1, (a.1.size : Int)), slK (RdB.app (RdB.sub RdB.self h254) RdB.self) (⟨rfl, ⟨k301.2.1, wrapK.i64 k301.2.2 (fun h297 h298 k299 => wrapK.u64 k299 (fun h294 h295 k296 => chk0 (Cnd.not Cnd.eq) (by have := k296.2.1; omega) (modK k296.1 (wrapK.i64 k296.2.2 (fun h291 h292 k293 => wrapK.i64 k293 (fun h288 h289 k290 => chk k290.2.2 Cnd.sl ⟨(by decide), k290.1, k290.2.1⟩ (fun h261 k287 => ⟨((subB (putTask (a.1, a.2.2.2.1)) (0 : Int) ((a.1.size : Int) + (a.2.2.2.2.2 % (((putTask (a.1, a.2.2.2.1)).size : Int) - (a.1.size : Int))))), (a.1.size : Int)), slK (RdB.sub RdB.self h261) (⟨rfl, ⟨k287.1, br k287.2 Cnd.ne (fun h263 k284 => ⟨k284, trivial⟩) (fun h264 k285 => br k285 Cnd.ne (fun h266 k282 => ⟨k282, trivial⟩) (fun h267 k283 => ⟨(((takeTask ((subB (putTask (a.1, a.2.2.2.1)) (0 : Int) ((putTask (a.1, a.2.2.2.1)).size : Int)) ++ a.2.2.2.2.1, (a.1.size : Int))).1), a.2.2.2.1), ⟨rfl, ⟨rfl, ⟨rfl, ⟨rfl, ⟨rfl, ⟨rfl, slK (Rds.self (enc := e_api_Label)) (⟨rfl, ⟨rfl, ⟨rfl, ⟨rfl, ⟨rfl, ⟨rfl, ⟨rfl, ⟨rfl, ⟨rfl, slK (Rds.self (enc := e_api_Label)) (⟨rfl, ⟨rfl, ⟨rfl, ⟨k283.1, br k283.2 (Cnd.not Cnd.b) (fun h270 k279 => ⟨k279, trivial⟩) (fun h271 k280 => br k280 Cnd.eq (fun h273 k277 => ⟨k277, trivial⟩) (fun h274 k278 => ⟨k278, trivial⟩))⟩⟩⟩⟩)⟩⟩⟩⟩⟩⟩⟩⟩⟩)⟩⟩⟩⟩⟩⟩⟩))⟩⟩)⟩)))))))⟩⟩)⟩⟩)) (fun h253 k304 => ⟨k304, trivial⟩)⟩⟩⟩⟩)⟩⟩⟩⟩⟩⟩⟩))))⟩⟩)⟩)))))))⟩⟩)⟩⟩)) (fun h229 k386 => ⟨a.2.2.2.1, ⟨rfl, ⟨rfl, ⟨rfl, ⟨rfl, ⟨rfl, ⟨rfl, slK (Rds.self (enc := e_api_Label)) (⟨rfl, ⟨rfl, ⟨rfl, ⟨k386.1, br k386.2 Cnd.b (fun h331 k382 => chk k382 Cnd.sl ⟨(by decide), (Int.natCast_nonneg _), (Int.le_refl _)⟩ (fun h333 k380 => ⟨(room_of k380.1 (by decide)), ⟨((subB (putTask (a.1, a.2.2.2.1)) (0 : Int) ((putTask (a.1, a.2.2.2.1)).size : Int)) ++ a.2.2.2.2.1, (a.1.size : Int)), slK (RdB.app (RdB.sub RdB.self h333) RdB.self) (⟨rfl, ⟨k380.2.1, wrapK.i64 k380.2.2 (fun h376 h377 k378 => wrapK.u64 k378 (fun h373 h374 k375 => chk0 (Cnd.not Cnd.eq) (by have := k375.2.1; omega) (modK k375.1 (wrapK.i64 k375.2.2 (fun h370 h371 k372 => wrapK.i64 k372 (fun h367 h368 k369 => chk k369.2.2 Cnd.sl ⟨(by decide), k369.1, k369.2.1⟩ (fun h340 k366 => ⟨((subB (putTask (a.1, a.2.2.2.1)) (0 : Int) ((a.1.size : Int) + (a.2.2.2.2.2 % (((putTask (a.1, a.2.2.2.1)).size : Int) - (a.1.size : Int))))), (a.1.size : Int)), slK (RdB.sub RdB.self h340) (⟨rfl, ⟨k366.1, br k366.2 Cnd.ne (fun h342 k363 => ⟨k363, trivial⟩) (fun h343 k364 => br k364 Cnd.ne (fun h345 k361 => ⟨k361, trivial⟩) (fun h346 k362 => ⟨(((takeTask ((subB (putTask (a.1, a.2.2.2.1)) (0 : Int) ((putTask (a.1, a.2.2.2.1)).size : Int)) ++ a.2.2.2.2.1, (a.1.size : Int))).1), a.2.2.2.1), ⟨rfl, ⟨rfl, ⟨rfl, ⟨rfl, ⟨rfl, ⟨rfl, slK (Rds.self (enc := e_api_Label)) (⟨rfl, ⟨rfl, ⟨rfl, ⟨rfl, ⟨rfl, ⟨rfl, ⟨rfl, ⟨rfl, ⟨rfl, slK (Rds.self (enc := e_api_Label)) (⟨rfl, ⟨rfl, ⟨rfl, ⟨k362.1, br k362.2 (Cnd.not Cnd.b) (fun h349 k358 => ⟨k358, trivial⟩) (fun h350 k359 => br k359 Cnd.eq (fun h352 k356 => ⟨k356, trivial⟩) (fun h353 k357 => ⟨k357, trivial⟩))⟩⟩⟩⟩)⟩⟩⟩⟩⟩⟩⟩⟩⟩)⟩⟩⟩⟩⟩⟩⟩))⟩⟩)⟩)))))))⟩⟩)⟩⟩)) (fun h332 k383 => ⟨k383, trivial⟩)⟩⟩⟩⟩)⟩⟩⟩⟩⟩⟩⟩)⟩⟩⟩⟩⟩⟩)⟩)⟩⟩⟩⟩⟩⟩⟩⟩⟩)⟩⟩⟩⟩⟩⟩)⟩⟩⟩⟩⟩⟩)⟩⟩)⟩⟩⟩⟩)⟩)⟩⟩⟩⟩)⟩⟩⟩⟩⟩⟩⟩⟩⟩⟩)⟩⟩⟩⟩⟩)⟩⟩
theorem f267.eq (a : ByteArray × T_api_Node × T_api_Queue × T_api_Task × ByteArray × Int) : (f267.af a).gives f267.env (f267.args a) (f267.blks a) (f267.res a) (f267.blks' a) = f267.tree a := by kernel_rfl
end Go.Abs

-- interregnum/interregnumlaw05.ModelOne
namespace Go.Abs
open Go
end Go.Abs

/- interregnum/interregnumlaw05.ModelOne -/
namespace Go.Abs
open Go
set_option linter.unusedVariables false
end Go.Abs

/- The laws ModelTakes, ModelBack, ModelOne. -/
namespace Go.Abs
open Go
theorem nodeS_ok {n : TNode} (h : nodeB n = true) : nodeS n = nodeS0 n := by unfold nodeS; rw [if_pos h]
theorem queueS_ok {n : TQueue} (h : queueB n = true) : queueS n = queueS0 n := by unfold queueS; rw [if_pos h]
theorem taskS_ok {n : TTask} (h : taskB n = true) : taskS n = taskS0 n := by unfold taskS; rw [if_pos h]
theorem num_pos (n : Nat) : 0 < (num n).size := by rw [num_size]; omega
theorem textS_pos (s : ByteArray) : 0 < (textS s).size := by unfold textS; have := num_pos s.size; rw [size_app]; omega

/-- What is asked of one kind. -/
theorem blk {α : Type} {take : ByteArray × Int → α × Int × Int} {ok : α → Bool} {bytes : α → ByteArray} (h1 : One take ok bytes) (h2 : Back take ok bytes) {x y : ByteArray} {n : α} (hn : ok n = true) (hx : x.size ≤ 1048576) (hy : y.size ≤ 1048576) (hb : (bytes n).size ≤ 500) (h0 : 0 < (bytes n).size) {c : Int} (hc : 0 ≤ c) :
    take ((x ++ bytes n) ++ y, (x.size : Int)) = (n, ((x ++ bytes n).size : Int), 0) ∧ ¬ (take (subB (x ++ bytes n) 0 ((x.size : Int) + c % (((x ++ bytes n).size : Int) - (x.size : Int))), (x.size : Int))).2.2 = 0 ∧
    (0 < ((x ++ bytes n).size : Int) - (x.size : Int) ∧ ((x ++ bytes n).size : Int) - (x.size : Int) ≤ 500) ∧ 0 ≤ c % (((x ++ bytes n).size : Int) - (x.size : Int)) ∧ (x.size : Int) + c % (((x ++ bytes n).size : Int) - (x.size : Int)) ≤ ((x ++ bytes n).size : Int) ∧ takes_pre (subB (x ++ bytes n) 0 ((x.size : Int) + c % (((x ++ bytes n).size : Int) - (x.size : Int))), (x.size : Int)) ∧ takes_pre ((x ++ bytes n) ++ y, (x.size : Int)) := by
  have hz : ((x ++ bytes n).size : Int) = x.size + (bytes n).size := by rw [size_app]; omega
  have hd : ((x ++ bytes n).size : Int) - (x.size : Int) = (bytes n).size := by omega
  rw [hd]
  have b1 : 0 ≤ c % ((bytes n).size : Int) := Int.emod_nonneg _ (by omega)
  have b2 : c % ((bytes n).size : Int) < (bytes n).size := Int.emod_lt_of_pos _ (by omega)
  have e1 := h2 ((x ++ bytes n) ++ y) x.size n ⟨x, y, rfl, rfl⟩ hn
  rw [show (x.size : Int) + ((bytes n).size : Int) = ((x ++ bytes n).size : Int) from by omega] at e1
  have s1 := subB_size (b := x ++ bytes n) (i := 0) (j := (x.size : Int) + c % ((bytes n).size : Int)) (Int.le_refl _) (by omega) (by omega)
  refine ⟨e1, cut_off h1 h2 hn b1 b2, by omega, b1, by omega, ?_, ?_⟩
  · unfold takes_pre; simp only; omega
  · unfold takes_pre; simp only; rw [size_app]; omega

theorem lbl_L20 {l : List TLbl} (h : labelsB l = true) : l.length ≤ 1048576 := Nat.le_trans (labelsB_iff.1 h).1 (by decide)

theorem split_ {N A Q : Prop} (hq : Q) (hn : Q → N → A) : (N → A) ∧ (¬ N → Q) := ⟨hn hq, fun _ => hq⟩

set_option maxHeartbeats 1000000 in
theorem f267.ok (a : ByteArray × TNode × TQueue × TTask × ByteArray × Int) (h : f267.lpre a) : f267.vc a := by
  obtain ⟨⟨_, _, _, _, _, hc⟩, hs⟩ := h
  obtain ⟨x, n, q, t, y, c⟩ := a
  have hs : x.size + 1 + (k_api_Node.size n + (k_api_Queue.size q + (k_api_Task.size t + (y.size + 1 + 1)))) ≤ 1048576 := hs
  have hc := wf_u64 (n := c) hc
  obtain ⟨c1, c2⟩ := hc
  have pn := node_of_size (n := n) (by omega)
  have pq := queue_of_size (n := q) (by omega)
  have pt := task_of_size (t := t) (by omega)
  have hx : x.size ≤ 1048576 := by omega
  have hy : y.size ≤ 1048576 := by omega
  unfold f267.vc
  simp only [subB_all, Int.sub_zero]
  refine ⟨fun _ => rfl, fun _ => ⟨⟨pn, pq, pt⟩, fun _ => rfl, fun _ => ⟨⟨by show x.size ≤ _; omega, pn⟩, ⟨by show x.size ≤ _; omega, pq⟩, ⟨by show x.size ≤ _; omega, pt⟩, pn, ?_⟩⟩⟩
  refine split_ ⟨pq, split_ ⟨pt, fun ht => ?_, fun _ => rfl⟩ fun T hq => ?_⟩ fun Q hn => ?_
  · have e : putTask (x, t) = x ++ taskS0 t := by unfold putTask; rw [taskS_ok ht]
    rw [e]
    have h0 : 0 < (taskS0 t).size := by unfold taskS0; simp only [size_app]; have := textS_pos t.1; omega
    obtain ⟨k1, k2, k3, k4, k5, k6, k7⟩ := blk task_one task_back ht hx hy (taskS0_size ht) h0 c1
    have k8 : Int.toNat ((x ++ taskS0 t).size : Int) + y.size ≤ 1073741824 := by have := taskS0_size ht; rw [size_app]; omega
    rw [k1]
    exact ⟨k8, k7, by omega, by omega, by omega, by omega, c1, k3.1, by omega, by have := Int.emod_lt_of_pos c k3.1; omega, by omega, by omega, by omega, k5, k6, fun d => absurd rfl d, fun _ => ⟨fun d => absurd rfl d, fun _ => ⟨⟨lbl_L20 (taskB_iff.1 ht).2.2.2.2.1, lbl_L20 (taskB_iff.1 ht).2.2.2.2.1⟩, fun d => absurd (sameTask_eq.2 rfl) d, fun _ => ⟨fun d => absurd d k2, fun _ => rfl⟩⟩⟩⟩
  · have e : putQueue (x, q) = x ++ queueS0 q := by unfold putQueue; rw [queueS_ok hq]
    rw [e]
    have h0 : 0 < (queueS0 q).size := by unfold queueS0; simp only [size_app]; have := textS_pos q.1; omega
    have hz := queueS0_size hq
    obtain ⟨k1, k2, k3, k4, k5, k6, k7⟩ := blk queue_one queue_back hq hx hy (by omega) h0 c1
    have k8 : Int.toNat ((x ++ queueS0 q).size : Int) + y.size ≤ 1073741824 := by rw [size_app]; omega
    rw [k1]
    exact ⟨k8, k7, by omega, by omega, by omega, by omega, c1, k3.1, by omega, by have := Int.emod_lt_of_pos c k3.1; omega, by omega, by omega, by omega, k5, k6, fun d => absurd rfl d, fun _ => ⟨fun d => absurd rfl d, fun _ => ⟨fun d => absurd ⟨rfl, rfl, rfl, rfl⟩ d, fun _ => ⟨fun d => absurd d k2, fun _ => T⟩⟩⟩⟩
  have e : putNode (x, n) = x ++ nodeS0 n := by unfold putNode; rw [nodeS_ok hn]
  rw [e]
  have h0 : 0 < (nodeS0 n).size := by unfold nodeS0; simp only [size_app]; have := textS_pos n.1; omega
  have hz := nodeS0_size hn
  obtain ⟨k1, k2, k3, k4, k5, k6, k7⟩ := blk node_one node_back hn hx hy (by omega) h0 c1
  have k8 : Int.toNat ((x ++ nodeS0 n).size : Int) + y.size ≤ 1073741824 := by rw [size_app]; omega
  rw [k1]
  exact ⟨k8, k7, by omega, by omega, by omega, by omega, c1, k3.1, by omega, by have := Int.emod_lt_of_pos c k3.1; omega, by omega, by omega, by omega, k5, k6, fun d => absurd rfl d, fun _ => ⟨fun d => absurd rfl d, fun _ => ⟨⟨lbl_L20 (nodeB_iff.1 hn).2.2, lbl_L20 (nodeB_iff.1 hn).2.2⟩, fun d => absurd (sameNode_eq.2 rfl) d, fun _ => ⟨fun d => absurd d k2, fun _ => Q⟩⟩⟩⟩

end Go.Abs
