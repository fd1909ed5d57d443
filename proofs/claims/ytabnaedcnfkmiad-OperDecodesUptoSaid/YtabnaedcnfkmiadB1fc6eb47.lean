/- Functions, and what the code asks of them: PReadLaw0. -/
import Derived.Test.YtabnaedcnfkmiadB15aca7b2
import Derived.Test.YtabnaedcnfkmiadB27e40858
import Derived.Test.YtabnaedcnfkmiadBf865c446
import Derived.Test.YtabnaedcnfkmiadB81a2baaf
import Derived.Test.YtabnaedcnfkmiadB2f972113
import Derived.Test.YtabnaedcnfkmiadBe4d41b4d
set_option linter.unusedVariables false
set_option linter.unusedSimpArgs false
/- What readers read,in plain words. -/
namespace Go.Abs
open Go

def Reads_ (r s : TRd) (bs : ByteArray) : Prop := s.1 = r.1 ∧ (s.2.2 = 0 → r.2.2 = 0 ∧ 0 ≤ r.2.1 ∧ r.2.1 ≤ s.2.1 ∧ s.2.1 ≤ r.1.size ∧ subB r.1 r.2.1 s.2.1 = bs)

theorem Reads_.trans {r s t : TRd} {x y : ByteArray} (h : Reads_ r s x) (k : Reads_ s t y) : Reads_ r t (x ++ y) := by
  obtain ⟨h1,h2⟩ := h
  obtain ⟨k1,k2⟩ := k
  refine ⟨k1.trans h1,fun e => ?_⟩
  obtain ⟨a1,a2,a3,a4,a5⟩ := k2 e
  obtain ⟨b1,b2,b3,b4,b5⟩ := h2 a1
  rw [h1] at a4 a5
  refine ⟨b1,b2,by omega,a4,?_⟩
  rw [← b5,← a5,subB_app b2 b3 a3 a4]

theorem reads_num {a : TRd × Int × Int} (h : a.2.2 ≠ 0) : Reads_ a.1 (rdNum a).2 (num (rdNum a).1.toNat) := by
  refine ⟨rdNum_b a,?_⟩
  unfold rdNum
  split
  · rename_i c; exact fun e => absurd e c
  split
  · rename_i c; exact fun e => absurd e c
  split
  · exact fun e => absurd e h
  · rename_i c1 c2 c3
    intro _
    obtain ⟨t1,t2,t3,t4⟩ := takeN_ok (Classical.not_not.1 c2)
    exact ⟨Classical.not_not.1 c1,t1,Int.le_of_lt t2,t3,t4.symm⟩

theorem reads_text (r : TRd) : Reads_ r (rdText r).2 (textS (rdText r).1) := by
  refine ⟨rdText_b r,?_⟩
  unfold rdText
  split
  · rename_i c; exact fun e => absurd e c
  · rename_i c
    intro e
    obtain ⟨t1,t2,t3,t4,t5⟩ := takeText_ok e
    exact ⟨Classical.not_not.1 c,t3,Int.le_of_lt t1,t2,t5.symm⟩

theorem reads_amt (r : TRd) : Reads_ r (rdAmt r).2 (amtS (rdAmt r).1) := by
  have h1 := reads_num (a := (r,1048576,3)) (show (3 : Int) ≠ 0 by decide)
  have h2 := reads_num (a := ((rdN20 r).2,1048576,3)) (show (3 : Int) ≠ 0 by decide)
  have h3 := reads_num (a := ((rdN20 (rdN20 r).2).2,1048576,3)) (show (3 : Int) ≠ 0 by decide)
  exact (h1.trans h2).trans h3

theorem reads_loop : ∀ (n : Nat) (out : List TLbl) (r : TRd),∃ l,(lblLoop rdText n out r).1 = out ++ l ∧ l.length = n ∧ ((lblLoop rdText n out r).2.2.2 = 0 → n = 0 ∨ Reads_ r (lblLoop rdText n out r).2 (lblsS0 l))
  | 0,out,r => ⟨[],by simp [lblLoop],rfl,fun _ => .inl rfl⟩
  | n + 1,out,r => by
    obtain ⟨l,h1,h2,h3⟩ := reads_loop n (out ++ [((rdText r).1,(rdText (rdText r).2).1)]) (rdText (rdText r).2).2
    refine ⟨((rdText r).1,(rdText (rdText r).2).1) :: l,?_,by rw [List.length_cons,h2],fun e => .inr ?_⟩
    · rw [lblLoop,h1]; simp
    · rw [lblLoop] at e ⊢
      have k1 := (reads_text r).trans (reads_text (rdText r).2)
      rcases h3 e with h3 | h3
      · subst h3
        have : l = [] := List.length_eq_zero_iff.1 h2
        subst this
        rw [lblLoop]
        show Reads_ r _ (textS _ ++ textS _ ++ lblsS0 [])
        rw [show lblsS0 [] = ByteArray.empty from rfl,app_empty]
        exact k1
      · exact k1.trans h3

theorem reads_lbls (r : TRd) : Reads_ r (lblsP rdText r).2 (lblsS (lblsP rdText r).1) := by
  have h1 := reads_num (a := (r,4,4)) (show (4 : Int) ≠ 0 by decide)
  obtain ⟨l,k1,k2,k3⟩ := reads_loop (rdNum (r,4,4)).1.toNat [] (rdNum (r,4,4)).2
  rw [List.nil_append] at k1
  have hb := lblsP_b rdText_b r
  refine ⟨hb,fun e => ?_⟩
  have hl : (lblsP rdText r).1 = l := k1
  have e1 : lblsS (lblsP rdText r).1 = num (rdNum (r,4,4)).1.toNat ++ lblsS0 l := by rw [hl]; unfold lblsS; rw [k2]
  rw [e1]
  rcases k3 e with k3 | k3
  · have hl0 : l = [] := List.length_eq_zero_iff.1 (k2.trans k3)
    have e2 : (lblsP rdText r).2 = (rdNum (r,4,4)).2 := by unfold lblsP; rw [k3]; rfl
    rw [e2,hl0,show lblsS0 [] = ByteArray.empty from rfl,app_empty]
    rw [e2] at e
    exact h1.2 e
  · exact (h1.trans k3).2 e

theorem reads_node (r : TRd) : Reads_ r (nodeP rdText r).2 (nodeS0 (nodeP rdText r).1) := ((reads_text r).trans (reads_amt _)).trans (reads_lbls _)
theorem reads_queue (r : TRd) : Reads_ r (queueP rdText r).2 (queueS0 (queueP rdText r).1) := (reads_text r).trans (reads_amt _)
theorem reads_task (r : TRd) : Reads_ r (taskP rdText r).2 (taskS0 (taskP rdText r).1) :=
  (((((((reads_text r).trans (reads_text _)).trans (reads_num (a := (_,1048576,3)) (show (3 : Int) ≠ 0 by decide))).trans (reads_amt _)).trans (reads_lbls _)).trans (reads_text _)).trans (reads_text _)).trans (reads_num (a := (_,1048576,3)) (show (3 : Int) ≠ 0 by decide))

def One {α : Type} (take : ByteArray × Int → α × Int × Int) (ok : α → Bool) (bytes : α → ByteArray) : Prop :=
  ∀ b i,(take (b,i)).2.2 = 0 → ok (take (b,i)).1 = true ∧ 0 ≤ i ∧ i ≤ (take (b,i)).2.1 ∧ (take (b,i)).2.1 ≤ b.size ∧ subB b i (take (b,i)).2.1 = bytes (take (b,i)).1

theorem end_one {α : Type} {z : α} {p : α × TRd} {ok : Bool} (h : (endP z p ok).2.2 = 0) : p.2.2.2 = 0 ∧ ok = true ∧ endP z p ok = (p.1,p.2.2.1,0) := by
  unfold endP at h ⊢
  unfold rdEnd at h ⊢
  simp only at h ⊢
  by_cases c : p.2.2.2 = 0
  · by_cases d : ok = true
    · simp [c,d]
    · simp [c,d] at h
  · simp [c] at h

theorem one_of {α : Type} {z : α} {P : TRd → α × TRd} {ok : α → Bool} {bytes : α → ByteArray} (h : ∀ r,Reads_ r (P r).2 (bytes (P r).1)) : One (fun a => endP z (P (a.1,a.2,0)) (ok (P (a.1,a.2,0)).1)) ok bytes := fun b i e => by
  obtain ⟨h1,h2,h3⟩ := end_one e
  obtain ⟨k1,k2,k3,k4,k5⟩ := (h (b,i,0)).2 h1
  have h3 : (fun a : ByteArray × Int => endP z (P (a.1,a.2,0)) (ok (P (a.1,a.2,0)).1)) (b,i) = _ := h3
  rw [h3]
  exact ⟨h2,k2,k3,k4,k5⟩

theorem node_one : One takeNode nodeB nodeS0 := one_of (P := nodeP rdText) reads_node
theorem queue_one : One takeQueue queueB queueS0 := one_of (P := queueP rdText) reads_queue
theorem task_one : One takeTask taskB taskS0 := one_of (P := taskP rdText) reads_task

def At (b : ByteArray) (i : Int) (bs : ByteArray) : Prop := ∃ x y,b = x ++ bs ++ y ∧ i = (x.size : Int)
theorem At.left {b : ByteArray} {i : Int} {p q : ByteArray} (h : At b i (p ++ q)) : At b i p := by
  obtain ⟨x,y,rfl,rfl⟩ := h
  exact ⟨x,q ++ y,by simp only [app_assoc],rfl⟩
theorem At.right {b : ByteArray} {i : Int} {p q : ByteArray} (h : At b i (p ++ q)) : At b (i + p.size) q := by
  obtain ⟨x,y,rfl,rfl⟩ := h
  exact ⟨x ++ p,y,by simp only [app_assoc],by rw [size_app]; omega⟩
theorem At.more {b c : ByteArray} {i : Int} {p : ByteArray} (h : At b i p) : At (b ++ c) i p := by
  obtain ⟨x,y,rfl,rfl⟩ := h
  exact ⟨x,y ++ c,by simp only [app_assoc],rfl⟩

theorem subB_size {b : ByteArray} {i j : Int} (h0 : 0 ≤ i) (h : i ≤ j) (h2 : j ≤ b.size) : ((subB b i j).size : Int) = j - i := by rw [RdB.size_sub ⟨h0,h,h2⟩]; omega

def Sim (r s : TRd) : Prop := r.1 = s.1 ∧ r.2.2 = s.2.2 ∧ (r.2.2 = 0 → r.2.1 = s.2.1)
theorem Sim.refl (r : TRd) : Sim r r := ⟨rfl,rfl,fun _ => rfl⟩
theorem Sim.eq {r s : TRd} (h : Sim r s) (e : r.2.2 = 0) : r = s := Prod.ext h.1 (Prod.ext (h.2.2 e) h.2.1)
theorem sim_num {r s : TRd} (h : Sim r s) (m e : Int) : (rdNum (r,m,e)).1 = (rdNum (s,m,e)).1 ∧ Sim (rdNum (r,m,e)).2 (rdNum (s,m,e)).2 := by
  by_cases c : r.2.2 = 0
  · rw [h.eq c]; exact ⟨rfl,Sim.refl _⟩
  · have d : s.2.2 ≠ 0 := by rw [← h.2.1]; exact c
    unfold rdNum
    simp only
    rw [if_pos c,if_pos d]
    exact ⟨rfl,h⟩
theorem sim_text {r s : TRd} (h : Sim r s) : (rdText r).1 = (rfT s).1 ∧ Sim (rdText r).2 (rfT s).2 := by
  unfold rfT rfText
  by_cases c : r.2.2 = 0
  · rw [h.eq c]
    rw [h.eq c] at c
    unfold rdText
    simp only
    rw [if_neg (not_not_intro c),if_neg (not_not_intro c)]
    refine ⟨rfl,rfl,rfl,fun e => ?_⟩
    simp only at e ⊢
    rw [if_pos e]
  · have d : s.2.2 ≠ 0 := by rw [← h.2.1]; exact c
    unfold rdText
    simp only
    rw [if_pos c,if_pos d]
    exact ⟨rfl,h⟩
theorem sim_amt {r s : TRd} (h : Sim r s) : (rdAmt r).1 = (rdAmt s).1 ∧ Sim (rdAmt r).2 (rdAmt s).2 := by
  have h1 := sim_num h 1048576 3
  have h2 := sim_num h1.2 1048576 3
  have h3 := sim_num h2.2 1048576 3
  exact ⟨Prod.ext h1.1 (Prod.ext h2.1 h3.1),h3.2⟩
theorem sim_loop : ∀ (n : Nat) (out : List TLbl) {r s : TRd},Sim r s → (lblLoop rdText n out r).1 = (lblLoop rfT n out s).1 ∧ Sim (lblLoop rdText n out r).2 (lblLoop rfT n out s).2
  | 0,_,_,_,h => ⟨rfl,h⟩
  | n + 1,out,r,s,h => by
    have h1 := sim_text h
    have h2 := sim_text h1.2
    rw [lblLoop,lblLoop,h1.1,h2.1]
    exact sim_loop n _ h2.2
theorem sim_lbls {r s : TRd} (h : Sim r s) : (lblsP rdText r).1 = (lblsP rfT s).1 ∧ Sim (lblsP rdText r).2 (lblsP rfT s).2 := by
  have h1 := sim_num h 4 4
  unfold lblsP
  rw [h1.1]
  exact sim_loop _ _ h1.2
theorem sim_node {r s : TRd} (h : Sim r s) : (nodeP rdText r).1 = (nodeP rfT s).1 ∧ Sim (nodeP rdText r).2 (nodeP rfT s).2 := by
  have h1 := sim_text h
  have h2 := sim_amt h1.2
  have h3 := sim_lbls h2.2
  exact ⟨Prod.ext h1.1 (Prod.ext h2.1 h3.1),h3.2⟩
theorem sim_queue {r s : TRd} (h : Sim r s) : (queueP rdText r).1 = (queueP rfT s).1 ∧ Sim (queueP rdText r).2 (queueP rfT s).2 := by
  have h1 := sim_text h
  have h2 := sim_amt h1.2
  exact ⟨Prod.ext h1.1 h2.1,h2.2⟩
theorem sim_task {r s : TRd} (h : Sim r s) : (taskP rdText r).1 = (taskP rfT s).1 ∧ Sim (taskP rdText r).2 (taskP rfT s).2 := by
  have h1 := sim_text h
  have h2 := sim_text h1.2
  have h3 := sim_num h2.2 1048576 3
  have h4 := sim_amt h3.2
  have h5 := sim_lbls h4.2
  have h6 := sim_text h5.2
  have h7 := sim_text h6.2
  have h8 := sim_num h7.2 1048576 3
  exact ⟨Prod.ext h1.1 (Prod.ext h2.1 (Prod.ext h3.1 (Prod.ext h4.1 (Prod.ext h5.1 (Prod.ext h6.1 (Prod.ext h7.1 h8.1)))))),h8.2⟩

theorem end_sim {α : Type} {z : α} {p q : α × TRd} {ok : Bool} (h1 : p.1 = q.1) (h2 : Sim p.2 q.2) : (endP z p ok).1 = (doneP z q ok).1 ∧ (place5 ((endP z p ok).2.1,(endP z p ok).2.2,(doneP z q ok).2)).1 = true := by
  obtain ⟨b1,b2,b3⟩ := h2
  unfold endP doneP rdEnd rfDone place5
  simp only
  by_cases c : p.2.2.2 = 0
  · have d : q.2.2.2 = 0 := by rw [← b2]; exact c
    by_cases o : ok = true
    · simp [c,d,o,h1,b3 c]
    · simp [c,d,o]
  · have d : ¬ q.2.2.2 = 0 := by rw [← b2]; exact c
    simp [c,d,b2]

end Go.Abs
