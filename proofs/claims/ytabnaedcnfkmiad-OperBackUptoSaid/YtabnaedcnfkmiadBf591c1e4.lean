/- Functions, and what the code asks of them: PReadLaw0. -/
import Derived.Test.YtabnaedcnfkmiadBd8fd2cd1
import Derived.Test.YtabnaedcnfkmiadB52acd6fd
import Derived.Test.YtabnaedcnfkmiadB9d8ef233
import Derived.Test.YtabnaedcnfkmiadB39145e0b
import Derived.Test.YtabnaedcnfkmiadB642c4290
import Derived.Test.YtabnaedcnfkmiadB67e51113
set_option linter.unusedVariables false
set_option linter.unusedSimpArgs false
/- What readers read, in plain words. -/
namespace Go.Abs
open Go

/-- If nothing went wrong: what was read are these bytes. -/
def Reads_ (r s : TRd) (bs : ByteArray) : Prop := s.1 = r.1 ∧ (s.2.2 = 0 → r.2.2 = 0 ∧ 0 ≤ r.2.1 ∧ r.2.1 ≤ s.2.1 ∧ s.2.1 ≤ r.1.size ∧ subB r.1 r.2.1 s.2.1 = bs)

theorem Reads_.trans {r s t : TRd} {x y : ByteArray} (h : Reads_ r s x) (k : Reads_ s t y) : Reads_ r t (x ++ y) := by
  obtain ⟨h1, h2⟩ := h
  obtain ⟨k1, k2⟩ := k
  refine ⟨k1.trans h1, fun e => ?_⟩
  obtain ⟨a1, a2, a3, a4, a5⟩ := k2 e
  obtain ⟨b1, b2, b3, b4, b5⟩ := h2 a1
  rw [h1] at a4 a5
  refine ⟨b1, b2, by omega, a4, ?_⟩
  rw [← b5, ← a5, subB_app b2 b3 a3 a4]

theorem reads_num {a : TRd × Int × Int} (h : a.2.2 ≠ 0) : Reads_ a.1 (rdNum a).2 (num (rdNum a).1.toNat) := by
  refine ⟨rdNum_b a, ?_⟩
  unfold rdNum
  split
  · rename_i c; exact fun e => absurd e c
  split
  · rename_i c; exact fun e => absurd e c
  split
  · exact fun e => absurd e h
  · rename_i c1 c2 c3
    intro _
    obtain ⟨t1, t2, t3, t4⟩ := takeN_ok (Classical.not_not.1 c2)
    exact ⟨Classical.not_not.1 c1, t1, Int.le_of_lt t2, t3, t4.symm⟩

theorem reads_text (r : TRd) : Reads_ r (rdText r).2 (textS (rdText r).1) := by
  refine ⟨rdText_b r, ?_⟩
  unfold rdText
  split
  · rename_i c; exact fun e => absurd e c
  · rename_i c
    intro e
    obtain ⟨t1, t2, t3, t4, t5⟩ := takeText_ok e
    exact ⟨Classical.not_not.1 c, t3, Int.le_of_lt t1, t2, t5.symm⟩

theorem reads_amt (r : TRd) : Reads_ r (rdAmt r).2 (amtS (rdAmt r).1) := by
  have h1 := reads_num (a := (r, 1048576, 3)) (show (3 : Int) ≠ 0 by decide)
  have h2 := reads_num (a := ((rdN20 r).2, 1048576, 3)) (show (3 : Int) ≠ 0 by decide)
  have h3 := reads_num (a := ((rdN20 (rdN20 r).2).2, 1048576, 3)) (show (3 : Int) ≠ 0 by decide)
  exact (h1.trans h2).trans h3

theorem reads_loop : ∀ (n : Nat) (out : List TLbl) (r : TRd), ∃ l, (lblLoop rdText n out r).1 = out ++ l ∧ l.length = n ∧ ((lblLoop rdText n out r).2.2.2 = 0 → n = 0 ∨ Reads_ r (lblLoop rdText n out r).2 (lblsS0 l))
  | 0, out, r => ⟨[], by simp [lblLoop], rfl, fun _ => .inl rfl⟩
  | n + 1, out, r => by
    obtain ⟨l, h1, h2, h3⟩ := reads_loop n (out ++ [((rdText r).1, (rdText (rdText r).2).1)]) (rdText (rdText r).2).2
    refine ⟨((rdText r).1, (rdText (rdText r).2).1) :: l, ?_, by rw [List.length_cons, h2], fun e => .inr ?_⟩
    · rw [lblLoop, h1]; simp
    · rw [lblLoop] at e ⊢
      have k1 := (reads_text r).trans (reads_text (rdText r).2)
      rcases h3 e with h3 | h3
      · subst h3
        have : l = [] := List.length_eq_zero_iff.1 h2
        subst this
        rw [lblLoop]
        show Reads_ r _ (textS _ ++ textS _ ++ lblsS0 [])
        rw [show lblsS0 [] = ByteArray.empty from rfl, app_empty]
        exact k1
      · exact k1.trans h3

theorem reads_lbls (r : TRd) : Reads_ r (lblsP rdText r).2 (lblsS (lblsP rdText r).1) := by
  have h1 := reads_num (a := (r, 4, 4)) (show (4 : Int) ≠ 0 by decide)
  obtain ⟨l, k1, k2, k3⟩ := reads_loop (rdNum (r, 4, 4)).1.toNat [] (rdNum (r, 4, 4)).2
  rw [List.nil_append] at k1
  have hb := lblsP_b rdText_b r
  refine ⟨hb, fun e => ?_⟩
  have hl : (lblsP rdText r).1 = l := k1
  have e1 : lblsS (lblsP rdText r).1 = num (rdNum (r, 4, 4)).1.toNat ++ lblsS0 l := by rw [hl]; unfold lblsS; rw [k2]
  rw [e1]
  rcases k3 e with k3 | k3
  · have hl0 : l = [] := List.length_eq_zero_iff.1 (k2.trans k3)
    have e2 : (lblsP rdText r).2 = (rdNum (r, 4, 4)).2 := by unfold lblsP; rw [k3]; rfl
    rw [e2, hl0, show lblsS0 [] = ByteArray.empty from rfl, app_empty]
    rw [e2] at e
    exact h1.2 e
  · exact (h1.trans k3).2 e

theorem reads_node (r : TRd) : Reads_ r (nodeP rdText r).2 (nodeS0 (nodeP rdText r).1) := ((reads_text r).trans (reads_amt _)).trans (reads_lbls _)
theorem reads_queue (r : TRd) : Reads_ r (queueP rdText r).2 (queueS0 (queueP rdText r).1) := (reads_text r).trans (reads_amt _)
theorem reads_task (r : TRd) : Reads_ r (taskP rdText r).2 (taskS0 (taskP rdText r).1) :=
  (((((((reads_text r).trans (reads_text _)).trans (reads_num (a := (_, 1048576, 3)) (show (3 : Int) ≠ 0 by decide))).trans (reads_amt _)).trans (reads_lbls _)).trans (reads_text _)).trans (reads_text _)).trans (reads_num (a := (_, 1048576, 3)) (show (3 : Int) ≠ 0 by decide))

/-- What is taken can be, and its bytes are those that were read. -/
def One {α : Type} (take : ByteArray × Int → α × Int × Int) (ok : α → Bool) (bytes : α → ByteArray) : Prop :=
  ∀ b i, (take (b, i)).2.2 = 0 → ok (take (b, i)).1 = true ∧ 0 ≤ i ∧ i ≤ (take (b, i)).2.1 ∧ (take (b, i)).2.1 ≤ b.size ∧ subB b i (take (b, i)).2.1 = bytes (take (b, i)).1

theorem end_one {α : Type} {z : α} {p : α × TRd} {ok : Bool} (h : (endP z p ok).2.2 = 0) : p.2.2.2 = 0 ∧ ok = true ∧ endP z p ok = (p.1, p.2.2.1, 0) := by
  unfold endP at h ⊢
  unfold rdEnd at h ⊢
  simp only at h ⊢
  by_cases c : p.2.2.2 = 0
  · by_cases d : ok = true
    · simp [c, d]
    · simp [c, d] at h
  · simp [c] at h

theorem one_of {α : Type} {z : α} {P : TRd → α × TRd} {ok : α → Bool} {bytes : α → ByteArray} (h : ∀ r, Reads_ r (P r).2 (bytes (P r).1)) : One (fun a => endP z (P (a.1, a.2, 0)) (ok (P (a.1, a.2, 0)).1)) ok bytes := fun b i e => by
  obtain ⟨h1, h2, h3⟩ := end_one e
  obtain ⟨k1, k2, k3, k4, k5⟩ := (h (b, i, 0)).2 h1
  have h3 : (fun a : ByteArray × Int => endP z (P (a.1, a.2, 0)) (ok (P (a.1, a.2, 0)).1)) (b, i) = _ := h3
  rw [h3]
  exact ⟨h2, k2, k3, k4, k5⟩

theorem node_one : One takeNode nodeB nodeS0 := one_of (P := nodeP rdText) reads_node
theorem queue_one : One takeQueue queueB queueS0 := one_of (P := queueP rdText) reads_queue
theorem task_one : One takeTask taskB taskS0 := one_of (P := taskP rdText) reads_task

/-- From i on these bytes stand. -/
def At (b : ByteArray) (i : Int) (bs : ByteArray) : Prop := ∃ x y, b = x ++ bs ++ y ∧ i = (x.size : Int)
theorem At.left {b : ByteArray} {i : Int} {p q : ByteArray} (h : At b i (p ++ q)) : At b i p := by
  obtain ⟨x, y, rfl, rfl⟩ := h
  exact ⟨x, q ++ y, by simp only [app_assoc], rfl⟩
theorem At.right {b : ByteArray} {i : Int} {p q : ByteArray} (h : At b i (p ++ q)) : At b (i + p.size) q := by
  obtain ⟨x, y, rfl, rfl⟩ := h
  exact ⟨x ++ p, y, by simp only [app_assoc], by rw [size_app]; omega⟩
theorem At.more {b c : ByteArray} {i : Int} {p : ByteArray} (h : At b i p) : At (b ++ c) i p := by
  obtain ⟨x, y, rfl, rfl⟩ := h
  exact ⟨x, y ++ c, by simp only [app_assoc], rfl⟩

theorem num_back {b : ByteArray} {i : Int} {n m e : Int} (h : At b i (num n.toNat)) (h0 : 0 ≤ n) (h1 : n ≤ m) (h2 : m ≤ 1048576) : rdNum ((b, i, 0), m, e) = (n, (b, i + (num n.toNat).size, 0)) := by
  obtain ⟨x, y, rfl, rfl⟩ := h
  have t := takeN_num x y (n := n.toNat) (by omega)
  unfold rdNum
  simp only [t]
  rw [if_neg (by simp), if_neg (by simp), if_neg (by omega), num_size]
  congr 1
  · omega
  · congr 2; omega

theorem takeText_back {b : ByteArray} {i m : Int} {s : ByteArray} (h : At b i (textS s)) (hm : (s.size : Int) ≤ m) (hs : s.size ≤ 268435456) : takeText (b, i, m) = (s, i + (textS s).size, 0) := by
  obtain ⟨x, y, rfl, rfl⟩ := h
  unfold textS
  rw [← app_assoc]
  have t := takeN_num x (s ++ y) (n := s.size) (by omega)
  rw [← app_assoc] at t
  have hz : (x ++ num s.size ++ s ++ y).size = x.size + (nb s.size + 1) + s.size + y.size := by rw [size_app, size_app, size_app, num_size]
  unfold takeText
  simp only [t]
  rw [if_neg (by omega), if_neg (by simp), if_neg (by omega), if_neg (by rw [hz]; omega)]
  have hss := RdB.size_sub (b := x ++ num s.size ++ s ++ y) (lo := (x.size : Int) + 1 + nb s.size) (hi := (x.size : Int) + 1 + nb s.size + s.size) ⟨by omega, by omega, by rw [hz]; omega⟩
  have e1 : subB (x ++ num s.size ++ s ++ y) ((x.size : Int) + 1 + nb s.size) ((x.size : Int) + 1 + nb s.size + s.size) = s := by
    refine bytes_eq (by rw [hss]; omega) fun j hj => ?_
    rw [hss] at hj
    have hpre : (x ++ num s.size).size = x.size + (nb s.size + 1) := by rw [size_app, num_size]
    rw [bAtN_sub ⟨by omega, by omega, by rw [hz]; omega⟩ (by omega), bAtN_app, if_pos (by rw [size_app, hpre]; omega), bAtN_app, if_neg (by rw [hpre]; omega), hpre]
    congr 1
    omega
  rw [e1, size_app, num_size]
  congr 2
  omega

theorem text_back {b : ByteArray} {i : Int} {s : ByteArray} (h : At b i (textS s)) (hs : s.size ≤ 16) : rdText (b, i, 0) = (s, (b, i + (textS s).size, 0)) := by
  unfold rdText
  rw [if_neg (by simp)]
  simp only [takeText_back (m := 16) h (by omega) (by omega)]

theorem amt_back {b : ByteArray} {i : Int} {a : TRes} (h : At b i (amtS a)) (ha : rightB a = true) : rdAmt (b, i, 0) = (a, (b, i + (amtS a).size, 0)) := by
  obtain ⟨h1, h2, h3⟩ := rightB_iff.1 ha
  unfold amtS at h
  have e1 := num_back (e := 3) h.left.left h1.1 h1.2 (by decide)
  have e2 := num_back (e := 3) h.left.right h2.1 h2.2 (by decide)
  have e3 := num_back (e := 3) h.right h3.1 h3.2 (by decide)
  unfold rdAmt rdN20
  rw [e1]
  simp only
  rw [e2]
  simp only
  rw [show i + ((num a.1.toNat).size : Int) + ((num a.2.1.toNat).size : Int) = i + ((num a.1.toNat ++ num a.2.1.toNat).size : Int) from by rw [size_app]; omega, e3]
  simp only
  congr 2
  unfold amtS
  rw [size_app (num a.1.toNat ++ num a.2.1.toNat)]
  congr 1
  omega

theorem loop_back {b : ByteArray} : ∀ (l out : List TLbl) (i : Int), At b i (lblsS0 l) → (∀ x ∈ l, x.1.size ≤ 16 ∧ x.2.size ≤ 16) → lblLoop rdText l.length out (b, i, 0) = (out ++ l, (b, i + (lblsS0 l).size, 0))
  | [], out, i, _, _ => by simp [lblLoop, lblsS0, empty_size]
  | x :: l, out, i, h, hs => by
    have hx := hs x (by simp)
    have h : At b i (textS x.1 ++ textS x.2 ++ lblsS0 l) := h
    have e1 := text_back h.left.left hx.1
    have e2 := text_back h.left.right hx.2
    have ih := loop_back l (out ++ [x]) _ h.right fun y hy => hs y (List.mem_cons_of_mem _ hy)
    rw [List.length_cons, lblLoop, e1]
    simp only
    rw [e2]
    simp only
    rw [show i + ((textS x.1).size : Int) + ((textS x.2).size : Int) = i + ((textS x.1 ++ textS x.2).size : Int) from by rw [size_app]; omega, ih]
    refine Prod.ext (by simp) ?_
    simp only [lblsS0]
    rw [size_app (textS x.1 ++ textS x.2)]
    congr 2
    omega

theorem lbls_back {b : ByteArray} {i : Int} {l : List TLbl} (h : At b i (lblsS l)) (hl : labelsB l = true) : lblsP rdText (b, i, 0) = (l, (b, i + (lblsS l).size, 0)) := by
  have h4 := (labelsB_iff.1 hl).1
  unfold lblsS at h
  have e1 := num_back (n := (l.length : Int)) (m := 4) (e := 4) (by rw [Int.toNat_natCast]; exact h.left) (by omega) (by omega) (by decide)
  rw [Int.toNat_natCast] at e1
  have e2 := loop_back l [] _ h.right (lbl_size hl)
  unfold lblsP
  rw [e1]
  simp only [Int.toNat_natCast]
  rw [e2, List.nil_append]
  unfold lblsS
  rw [size_app]
  congr 3
  omega

theorem node_back0 {b : ByteArray} {i : Int} {n : TNode} (h : At b i (nodeS0 n)) (hn : nodeB n = true) : nodeP rdText (b, i, 0) = (n, (b, i + (nodeS0 n).size, 0)) := by
  obtain ⟨h1, h2, h3⟩ := nodeB_iff.1 hn
  unfold nodeS0 at h
  have e1 := text_back h.left.left (name_size h1)
  have e2 := amt_back h.left.right h2
  have e3 := lbls_back h.right h3
  unfold nodeP
  simp only [e1, e2]
  rw [show i + ((textS n.1).size : Int) + ((amtS n.2.1).size : Int) = i + ((textS n.1 ++ amtS n.2.1).size : Int) from by rw [size_app]; omega, e3]
  unfold nodeS0
  rw [size_app (textS n.1 ++ amtS n.2.1)]
  refine Prod.ext rfl ?_
  simp only [Prod.mk.injEq, true_and, and_true]
  omega

theorem queue_back0 {b : ByteArray} {i : Int} {n : TQueue} (h : At b i (queueS0 n)) (hn : queueB n = true) : queueP rdText (b, i, 0) = (n, (b, i + (queueS0 n).size, 0)) := by
  obtain ⟨h1, h2⟩ := queueB_iff.1 hn
  unfold queueS0 at h
  have e1 := text_back h.left (name_size h1)
  have e2 := amt_back h.right h2
  unfold queueP
  simp only [e1, e2]
  unfold queueS0
  rw [size_app]
  refine Prod.ext rfl ?_
  simp only [Prod.mk.injEq, true_and, and_true]
  omega

theorem task_back0 {b : ByteArray} {i : Int} {n : TTask} (h : At b i (taskS0 n)) (hn : taskB n = true) : taskP rdText (b, i, 0) = (n, (b, i + (taskS0 n).size, 0)) := by
  obtain ⟨t1, t2, t3, t4, t5, t6, t7, t8⟩ := taskB_iff.1 hn
  have t8 := sizeB_iff.1 t8
  unfold taskS0 at h
  have e8 := num_back (e := 3) (m := 1048576) h.right (by omega) (by omega) (by decide)
  have e7 := text_back h.left.right (maybe_size t7)
  have e6 := text_back h.left.left.right (maybe_size t6)
  have e5 := lbls_back h.left.left.left.right t5
  have e4 := amt_back h.left.left.left.left.right t4
  have e3 := num_back (e := 3) (m := 1048576) h.left.left.left.left.left.right (by omega) (by omega) (by decide)
  have e2 := text_back h.left.left.left.left.left.left.right (name_size t2)
  have e1 := text_back h.left.left.left.left.left.left.left (name_size t1)
  unfold taskP rdN20
  have s : ∀ (j : Int) (p q : ByteArray), j + ((p ++ q).size : Int) = j + (p.size : Int) + (q.size : Int) := fun j p q => by rw [size_app]; omega
  simp only [s] at e1 e2 e3 e4 e5 e6 e7 e8
  simp only [e1, e2, e3, e4, e5, e6, e7, e8]
  unfold taskS0
  simp only [s]

/-- What was put is taken as it was. -/
def Back {α : Type} (take : ByteArray × Int → α × Int × Int) (ok : α → Bool) (bytes : α → ByteArray) : Prop :=
  ∀ b i n, At b i (bytes n) → ok n = true → take (b, i) = (n, i + (bytes n).size, 0)

theorem back_of {α : Type} {z : α} {P : TRd → α × TRd} {ok : α → Bool} {bytes : α → ByteArray} (h : ∀ b i n, At b i (bytes n) → ok n = true → P (b, i, 0) = (n, (b, i + (bytes n).size, 0))) : Back (fun a => endP z (P (a.1, a.2, 0)) (ok (P (a.1, a.2, 0)).1)) ok bytes := fun b i n h1 h2 => by
  simp only [h b i n h1 h2]
  unfold endP rdEnd
  simp [h2]

theorem node_back : Back takeNode nodeB nodeS0 := back_of (P := nodeP rdText) fun _ _ _ => node_back0
theorem queue_back : Back takeQueue queueB queueS0 := back_of (P := queueP rdText) fun _ _ _ => queue_back0
theorem task_back : Back takeTask taskB taskS0 := back_of (P := taskP rdText) fun _ _ _ => task_back0

theorem subB_cut {b : ByteArray} {i : Int} (h0 : 0 ≤ i) (h : i ≤ b.size) : b = subB b 0 i ++ subB b i b.size := by rw [subB_app (Int.le_refl _) h0 h (Int.le_refl _), subB_all]
theorem subB_size {b : ByteArray} {i j : Int} (h0 : 0 ≤ i) (h : i ≤ j) (h2 : j ≤ b.size) : ((subB b i j).size : Int) = j - i := by rw [RdB.size_sub ⟨h0, h, h2⟩]; omega

/-- Cut off it isn't taken. -/
theorem cut_off {α : Type} {take : ByteArray × Int → α × Int × Int} {ok : α → Bool} {bytes : α → ByteArray} (h1 : One take ok bytes) (h2 : Back take ok bytes) {x : ByteArray} {n : α} (hn : ok n = true) {c : Int} (c0 : 0 ≤ c) (c1 : c < (bytes n).size) :
    ¬ (take (subB (x ++ bytes n) 0 (x.size + c), (x.size : Int))).2.2 = 0 := fun e => by
  obtain ⟨o1, o2, o3, o4, o5⟩ := h1 _ _ e
  have hz : (x ++ bytes n).size = x.size + (bytes n).size := size_app _ _
  have hs : ((subB (x ++ bytes n) 0 (x.size + c)).size : Int) = x.size + c := by rw [subB_size (Int.le_refl _) (by omega) (by omega)]; omega
  have hAt : At (subB (x ++ bytes n) 0 (x.size + c)) (x.size : Int) (bytes (take (subB (x ++ bytes n) 0 (x.size + c), (x.size : Int))).1) := by
    refine ⟨subB (subB (x ++ bytes n) 0 (x.size + c)) 0 x.size, subB (subB (x ++ bytes n) 0 (x.size + c)) (take (subB (x ++ bytes n) 0 (x.size + c), (x.size : Int))).2.1 (subB (x ++ bytes n) 0 (x.size + c)).size, ?_, ?_⟩
    · rw [← o5, subB_app (Int.le_refl _) o2 o3 o4, subB_app (Int.le_refl _) (by omega) o4 (Int.le_refl _), subB_all]
    · rw [subB_size (Int.le_refl _) (by omega) (by omega)]; omega
  have hA2 := hAt.more (c := subB (x ++ bytes n) (x.size + c) (x ++ bytes n).size)
  rw [← subB_cut (by omega) (by omega)] at hA2
  have b1 := h2 _ _ _ hA2 o1
  have b2 := h2 (x ++ bytes n) x.size n ⟨x, ByteArray.empty, by rw [app_empty], rfl⟩ hn
  rw [b1] at b2
  have b3 := congrArg (fun t => t.2.1) b2
  simp only at b3
  have b4 := congrArg ByteArray.size o5
  have b5 := subB_size o2 o3 o4
  omega

/-- Two readers that have come as far. -/
def Sim (r s : TRd) : Prop := r.1 = s.1 ∧ r.2.2 = s.2.2 ∧ (r.2.2 = 0 → r.2.1 = s.2.1)
theorem Sim.refl (r : TRd) : Sim r r := ⟨rfl, rfl, fun _ => rfl⟩
theorem Sim.eq {r s : TRd} (h : Sim r s) (e : r.2.2 = 0) : r = s := Prod.ext h.1 (Prod.ext (h.2.2 e) h.2.1)
end Go.Abs
