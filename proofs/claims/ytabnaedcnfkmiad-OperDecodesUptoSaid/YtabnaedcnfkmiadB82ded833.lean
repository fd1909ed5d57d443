/- Functions, and what the code asks of them: POperLaw2. -/
import Derived.Test.YtabnaedcnfkmiadB15aca7b2
import Derived.Test.YtabnaedcnfkmiadB27e40858
import Derived.Test.YtabnaedcnfkmiadBf865c446
import Derived.Test.YtabnaedcnfkmiadB81a2baaf
import Derived.Test.YtabnaedcnfkmiadB2f972113
import Derived.Test.YtabnaedcnfkmiadB0380ec47
import Derived.Test.YtabnaedcnfkmiadBe4d41b4d
import Derived.Test.YtabnaedcnfkmiadB1fc6eb47
import Derived.Test.YtabnaedcnfkmiadB76144e94
import Derived.Test.YtabnaedcnfkmiadB20cda62e
import Derived.Test.YtabnaedcnfkmiadBd60a0f86
import Derived.Test.YtabnaedcnfkmiadB0d80fd98
set_option linter.unusedVariables false
set_option linter.unusedSimpArgs false
/- The reference of layer 6 reads operations as the program does. -/
namespace Go.Abs
open Go

theorem done_bNode {α : Type} {z : α} {p : α × TRd} {ok : Bool} : (doneP z p ok).2.1 = p.2.1 := by
  unfold doneP rfDone
  split
  · split
    · rfl
    · rfl
  · split
    · rfl
    · rfl
theorem rfNode_b (r : TRd) : (rfNode r).2.1 = r.1 := by
  unfold rfNode
  rw [done_bNode]
  have := (sim_node (Sim.refl r)).2.1
  rw [← this]
  exact (reads_node r).1
theorem done_bQueue {α : Type} {z : α} {p : α × TRd} {ok : Bool} : (doneP z p ok).2.1 = p.2.1 := by
  unfold doneP rfDone
  split
  · split
    · rfl
    · rfl
  · split
    · rfl
    · rfl
theorem rfQueue_b (r : TRd) : (rfQueue r).2.1 = r.1 := by
  unfold rfQueue
  rw [done_bQueue]
  have := (sim_queue (Sim.refl r)).2.1
  rw [← this]
  exact (reads_queue r).1
theorem done_bTask {α : Type} {z : α} {p : α × TRd} {ok : Bool} : (doneP z p ok).2.1 = p.2.1 := by
  unfold doneP rfDone
  split
  · split
    · rfl
    · rfl
  · split
    · rfl
    · rfl
theorem rfTask_b (r : TRd) : (rfTask r).2.1 = r.1 := by
  unfold rfTask
  rw [done_bTask]
  have := (sim_task (Sim.refl r)).2.1
  rw [← this]
  exact (reads_task r).1

def opOf (z : Int × ByteArray × Int × Int × Int × (List (T_api_Label)) × ByteArray × Int × Int × Int × ByteArray × ByteArray × Int × Int × Int × Int × (List (T_api_Label)) × ByteArray × ByteArray × Int × ByteArray) : TOp := (z.1,(z.2.1,(z.2.2.1,z.2.2.2.1,z.2.2.2.2.1),z.2.2.2.2.2.1),(z.2.2.2.2.2.2.1,(z.2.2.2.2.2.2.2.1,z.2.2.2.2.2.2.2.2.1,z.2.2.2.2.2.2.2.2.2.1)),(z.2.2.2.2.2.2.2.2.2.2.1,z.2.2.2.2.2.2.2.2.2.2.2.1,z.2.2.2.2.2.2.2.2.2.2.2.2.1,(z.2.2.2.2.2.2.2.2.2.2.2.2.2.1,z.2.2.2.2.2.2.2.2.2.2.2.2.2.2.1,z.2.2.2.2.2.2.2.2.2.2.2.2.2.2.2.1),z.2.2.2.2.2.2.2.2.2.2.2.2.2.2.2.2.1,z.2.2.2.2.2.2.2.2.2.2.2.2.2.2.2.2.2.1,z.2.2.2.2.2.2.2.2.2.2.2.2.2.2.2.2.2.2.1,z.2.2.2.2.2.2.2.2.2.2.2.2.2.2.2.2.2.2.2.1),z.2.2.2.2.2.2.2.2.2.2.2.2.2.2.2.2.2.2.2.2)
def fin50 (a : ByteArray) (i e : Int) (o : TOp) : Prop := (if e = 0 ∧ ¬ i = (a.size : Int) then (zOp,(3 : Int)) else if ¬ e = 0 then (zOp,e) else (o,0)) = decO a

theorem fin_err {a : ByteArray} {i e : Int} {o : TOp} (h : ¬ e = 0) (d : decO a = (zOp,e)) : fin50 a i e o := by
  unfold fin50
  rw [if_neg (fun hh => h hh.1),if_pos h,d]

theorem dec_k {a : ByteArray} {k i : Int} (h : takeN (a,0) = (k,i,0)) (h9 : k ≤ 9) (T : Int × Int × TOp) (hT : takesO ((k,zNode,zQueue,zTask,ByteArray.empty),a,i) = T) {j e : Int} {o : TOp} (h1 : ¬ e = 0 → T.2.1 = e) (h2 : e = 0 → T = (j,0,o)) : fin50 a j e o := by
  have hd : decO a = if ¬ T.2.1 = 0 then (zOp,T.2.1) else if ¬ T.1 = (a.size : Int) then (zOp,3) else (T.2.2,0) := by
    unfold decO decBody
    rw [h]
    simp only
    rw [if_neg (by simp),if_neg (by omega),hT]
  unfold fin50
  rw [hd]
  by_cases c : e = 0
  · rw [h2 c]
    by_cases d : j = (a.size : Int) <;> simp [c,d]
  · have := h1 c
    simp [c,this]

theorem node_same (b : ByteArray) (i : Int) : (takeNode (b,i)).1 = (rfNode (b,i,0)).1 ∧ (¬ (rfNode (b,i,0)).2.2.2 = 0 → (takeNode (b,i)).2.2 = (rfNode (b,i,0)).2.2.2) ∧ ((rfNode (b,i,0)).2.2.2 = 0 → (takeNode (b,i)).2.2 = 0 ∧ (takeNode (b,i)).2.1 = (rfNode (b,i,0)).2.2.1) := by
  have n := sim_node (Sim.refl (b,i,0))
  have en := end_sim (z := zNode) (ok := nodeB (nodeP rdText (b,i,0)).1) n.1 n.2
  have e1 : (takeNode (b,i)).1 = (rfNode (b,i,0)).1 := by unfold rfNode; rw [← n.1]; exact en.1
  have e2 : (place5 ((takeNode (b,i)).2.1,(takeNode (b,i)).2.2,(rfNode (b,i,0)).2)).1 = true := by unfold rfNode; rw [← n.1]; exact en.2
  unfold place5 at e2
  simp only at e2
  refine ⟨e1,fun c => ?_,fun c => ?_⟩
  · rw [if_pos c,decide_eq_true_iff] at e2; exact e2.1
  · rw [if_neg (not_not_intro c),decide_eq_true_iff] at e2; exact e2
theorem queue_same (b : ByteArray) (i : Int) : (takeQueue (b,i)).1 = (rfQueue (b,i,0)).1 ∧ (¬ (rfQueue (b,i,0)).2.2.2 = 0 → (takeQueue (b,i)).2.2 = (rfQueue (b,i,0)).2.2.2) ∧ ((rfQueue (b,i,0)).2.2.2 = 0 → (takeQueue (b,i)).2.2 = 0 ∧ (takeQueue (b,i)).2.1 = (rfQueue (b,i,0)).2.2.1) := by
  have n := sim_queue (Sim.refl (b,i,0))
  have en := end_sim (z := zQueue) (ok := queueB (queueP rdText (b,i,0)).1) n.1 n.2
  have e1 : (takeQueue (b,i)).1 = (rfQueue (b,i,0)).1 := by unfold rfQueue; rw [← n.1]; exact en.1
  have e2 : (place5 ((takeQueue (b,i)).2.1,(takeQueue (b,i)).2.2,(rfQueue (b,i,0)).2)).1 = true := by unfold rfQueue; rw [← n.1]; exact en.2
  unfold place5 at e2
  simp only at e2
  refine ⟨e1,fun c => ?_,fun c => ?_⟩
  · rw [if_pos c,decide_eq_true_iff] at e2; exact e2.1
  · rw [if_neg (not_not_intro c),decide_eq_true_iff] at e2; exact e2
theorem task_same (b : ByteArray) (i : Int) : (takeTask (b,i)).1 = (rfTask (b,i,0)).1 ∧ (¬ (rfTask (b,i,0)).2.2.2 = 0 → (takeTask (b,i)).2.2 = (rfTask (b,i,0)).2.2.2) ∧ ((rfTask (b,i,0)).2.2.2 = 0 → (takeTask (b,i)).2.2 = 0 ∧ (takeTask (b,i)).2.1 = (rfTask (b,i,0)).2.2.1) := by
  have n := sim_task (Sim.refl (b,i,0))
  have en := end_sim (z := zTask) (ok := taskB (taskP rdText (b,i,0)).1) n.1 n.2
  have e1 : (takeTask (b,i)).1 = (rfTask (b,i,0)).1 := by unfold rfTask; rw [← n.1]; exact en.1
  have e2 : (place5 ((takeTask (b,i)).2.1,(takeTask (b,i)).2.2,(rfTask (b,i,0)).2)).1 = true := by unfold rfTask; rw [← n.1]; exact en.2
  unfold place5 at e2
  simp only at e2
  refine ⟨e1,fun c => ?_,fun c => ?_⟩
  · rw [if_pos c,decide_eq_true_iff] at e2; exact e2.1
  · rw [if_neg (not_not_intro c),decide_eq_true_iff] at e2; exact e2

set_option maxHeartbeats 4000000 in
theorem f350.ok (a : ByteArray) (h : decO_pre a) : f350.vc a := by
  have p0 : rd_pre (a,(0 : Int),(0 : Int)) := h
  have hb := takeN_bd (a,0)
  -- the number
  have hN : (rdNum ((a,0,0),9,3)) = if ¬ (takeN (a,0)).2.2 = 0 then (0,(a,0,(takeN (a,0)).2.2)) else if 9 < (takeN (a,0)).1 then (0,(a,0,3)) else ((takeN (a,0)).1,(a,(takeN (a,0)).2.1,0)) := by
    unfold rdNum
    simp only [ne_eq,not_true_eq_false,if_false]
  let J : ByteArray × Int × Int × Int → Prop := fun y => y.1 = a ∧ ((¬ y.2.2.1 = 0 ∧ y.2.2.2 = 0 ∧ decO a = (zOp,y.2.2.1)) ∨ (y.2.2.1 = 0 ∧ takeN (a,0) = (y.2.2.2,y.2.1,0) ∧ 1 ≤ y.2.2.2 ∧ y.2.2.2 ≤ 9))
  have hJ : ((rdNum ((a,0,0),9,3)).2.2.2 = 0 → ((rdNum ((a,0,0),9,3)).1 = 0 → J ((rdNum ((a,0,0),9,3)).2.1,(rdNum ((a,0,0),9,3)).2.2.1,3,(rdNum ((a,0,0),9,3)).1)) ∧ (¬ (rdNum ((a,0,0),9,3)).1 = 0 → J ((rdNum ((a,0,0),9,3)).2.1,(rdNum ((a,0,0),9,3)).2.2.1,(rdNum ((a,0,0),9,3)).2.2.2,(rdNum ((a,0,0),9,3)).1))) ∧
      (¬ (rdNum ((a,0,0),9,3)).2.2.2 = 0 → J ((rdNum ((a,0,0),9,3)).2.1,(rdNum ((a,0,0),9,3)).2.2.1,(rdNum ((a,0,0),9,3)).2.2.2,(rdNum ((a,0,0),9,3)).1)) := by
    rw [hN]
    have d1 : ¬ (takeN (a,0)).2.2 = 0 → decO a = (zOp,(takeN (a,0)).2.2) := fun c => by unfold decO; rw [if_pos c]
    have d2 : (takeN (a,0)).2.2 = 0 → 9 < (takeN (a,0)).1 → decO a = (zOp,3) := fun c d => by unfold decO; rw [if_neg (not_not_intro c),if_pos d]
    have d3 : (takeN (a,0)).2.2 = 0 → (takeN (a,0)).1 = 0 → decO a = (zOp,3) := fun c d => by
      unfold decO decBody
      rw [if_neg (not_not_intro c),if_neg (by omega),d]
      rfl
    by_cases c : (takeN (a,0)).2.2 = 0
    · rw [if_neg (not_not_intro c)]
      by_cases e : 9 < (takeN (a,0)).1
      · rw [if_pos e]
        exact ⟨fun x => absurd x (show ¬ (3 : Int) = 0 by decide),fun _ => ⟨rfl,.inl ⟨show ¬ (3 : Int) = 0 by decide,rfl,d2 c e⟩⟩⟩
      · rw [if_neg e]
        refine ⟨fun _ => ⟨fun z => ⟨rfl,.inl ⟨show ¬ (3 : Int) = 0 by decide,z,d3 c z⟩⟩,fun z => ⟨rfl,.inr ⟨rfl,Prod.ext rfl (Prod.ext rfl c),?_,?_⟩⟩⟩,fun x => absurd rfl x⟩
        · simp only at z ⊢; simp only at hb; omega
        · simp only; omega
    · rw [if_pos c]
      exact ⟨fun x => absurd x c,fun _ => ⟨rfl,.inl ⟨c,rfl,d1 c⟩⟩⟩
  unfold f350.vc
  refine ⟨⟨p0,⟨show (0 : Int) ≤ 9 by decide,show (9 : Int) ≤ 1048576 by decide⟩,show (3 : Int) ≠ 0 by decide⟩,J,hJ,fun y hy => ?_⟩
  obtain ⟨b,i,e,k⟩ := y
  obtain ⟨rfl,hy⟩ := hy
  simp only at hy
  have pr : rd_pre (b,i,e) := h
  have hok : e = 0 ∨ k = 0 ∧ ¬ e = 0 := by
    rcases hy with ⟨h1,h2,_⟩ | ⟨h1,_⟩
    · exact .inr ⟨h2,h1⟩
    · exact .inl h1
  refine ⟨fun y => y.1 = b ∧ fin50 b y.2.1 y.2.2.1 (opOf y.2.2.2),⟨fun c => ⟨pr,rfNode_b _,?_⟩,fun c1 => ⟨fun c => ⟨pr,rfQueue_b _,?_⟩,fun c3 => ⟨fun c => ⟨pr,rfTask_b _,?_⟩,fun c5 => ⟨fun c => ⟨rfl,?_⟩,fun c9 => ⟨fun c => ⟨rfl,?_⟩,fun c0 => ⟨pre_rf pr,fun c => ⟨name16 (rfT_size _),fun d => ⟨rfText_b _,?_⟩,fun d => ⟨rfText_b _,?_⟩⟩,fun c => ⟨rfText_b _,?_⟩⟩⟩⟩⟩⟩⟩,fun y hy => ?_⟩
  · have e0 : e = 0 := by simp only at c; omega
    subst e0
    have hy := hy.resolve_left (fun hh => hh.1 rfl)
    obtain ⟨s1,s2,s3⟩ := node_same b i
    refine dec_k hy.2.1 hy.2.2.2 _ rfl (fun g => ?_) (fun g => ?_)
    · unfold takesO; simp only; rw [if_pos c]; exact s2 g
    · obtain ⟨s4,s5⟩ := s3 g
      unfold takesO opOf; simp only; rw [if_pos c,s1,s4,s5]; rfl
  · have e0 : e = 0 := by simp only at c; omega
    subst e0
    have hy := hy.resolve_left (fun hh => hh.1 rfl)
    obtain ⟨s1,s2,s3⟩ := queue_same b i
    refine dec_k hy.2.1 hy.2.2.2 _ rfl (fun g => ?_) (fun g => ?_)
    · unfold takesO; simp only; rw [if_neg c1,if_pos c]; exact s2 g
    · obtain ⟨s4,s5⟩ := s3 g
      unfold takesO opOf; simp only; rw [if_neg c1,if_pos c,s1,s4,s5]; rfl
  · have e0 : e = 0 := by simp only at c; omega
    subst e0
    have hy := hy.resolve_left (fun hh => hh.1 rfl)
    obtain ⟨s1,s2,s3⟩ := task_same b i
    refine dec_k hy.2.1 hy.2.2.2 _ rfl (fun g => ?_) (fun g => ?_)
    · unfold takesO; simp only; rw [if_neg c1,if_neg c3,if_pos c]; exact s2 g
    · obtain ⟨s4,s5⟩ := s3 g
      unfold takesO opOf; simp only; rw [if_neg c1,if_neg c3,if_pos c,s1,s4,s5]; rfl
  · have e0 : e = 0 := by simp only at c; omega
    subst e0
    have hy := hy.resolve_left (fun hh => hh.1 rfl)
    have cn : ¬ namedB k = true := fun hh => by have := named_iff.1 hh; simp only at c; omega
    refine dec_k hy.2.1 hy.2.2.2 _ rfl (fun g => absurd rfl g) (fun g => ?_)
    unfold takesO opOf; simp only; rw [if_neg c1,if_neg c3,if_neg c5,if_neg cn,if_pos c]; rfl
  · have hy := hy.resolve_right (fun hh => by simp only at c; omega)
    exact fin_err hy.1 hy.2.2
  · have e0 : e = 0 := by simp only at c0; omega
    subst e0
    have hy := hy.resolve_left (fun hh => hh.1 rfl)
    have cn : namedB k = true := named_iff.2 (by simp only at c1 c3 c5 c9 c0; omega)
    have w : rfText ((b,i,(0 : Int)),(16 : Int)) = ((takeText (b,i,16)).1,(b,if (takeText (b,i,16)).2.2 = 0 then (takeText (b,i,16)).2.1 else i,(takeText (b,i,16)).2.2)) := rfl
    simp only [w] at c d ⊢
    refine dec_k hy.2.1 hy.2.2.2 _ rfl (fun g => ?_) (fun g => absurd g (by decide))
    unfold takesO; simp only; rw [if_neg c1,if_neg c3,if_neg c5,if_pos cn,if_pos ⟨c,d⟩]
  · have e0 : e = 0 := by simp only at c0; omega
    subst e0
    have hy := hy.resolve_left (fun hh => hh.1 rfl)
    have cn : namedB k = true := named_iff.2 (by simp only at c1 c3 c5 c9 c0; omega)
    have w : rfText ((b,i,(0 : Int)),(16 : Int)) = ((takeText (b,i,16)).1,(b,if (takeText (b,i,16)).2.2 = 0 then (takeText (b,i,16)).2.1 else i,(takeText (b,i,16)).2.2)) := rfl
    simp only [w] at c d ⊢
    refine dec_k hy.2.1 hy.2.2.2 _ rfl (fun g => absurd c g) (fun g => ?_)
    unfold takesO opOf; simp only; rw [if_neg c1,if_neg c3,if_neg c5,if_pos cn,if_neg (fun hh => d hh.2),if_pos c,c]; rfl
  · have e0 : e = 0 := by simp only at c0; omega
    subst e0
    have hy := hy.resolve_left (fun hh => hh.1 rfl)
    have cn : namedB k = true := named_iff.2 (by simp only at c1 c3 c5 c9 c0; omega)
    have w : rfText ((b,i,(0 : Int)),(16 : Int)) = ((takeText (b,i,16)).1,(b,if (takeText (b,i,16)).2.2 = 0 then (takeText (b,i,16)).2.1 else i,(takeText (b,i,16)).2.2)) := rfl
    simp only [w] at c ⊢
    refine dec_k hy.2.1 hy.2.2.2 _ rfl (fun g => ?_) (fun g => absurd g c)
    unfold takesO; simp only; rw [if_neg c1,if_neg c3,if_neg c5,if_pos cn,if_neg (fun hh => c hh.1)]
  · obtain ⟨q1,q2⟩ := hy
    unfold fin50 at q2
    refine ⟨fun y => (if ¬ y.2.2.1 = 0 then (zOp,y.2.2.1) else (opOf y.2.2.2,0)) = decO b,⟨fun c => ⟨fun d => ?_,fun d => ?_⟩,fun c => ?_⟩,fun z hz => ⟨fun c => ?_,fun c => ?_⟩⟩
    · rw [if_pos ⟨c,d⟩] at q2; exact q2
    · rw [if_neg (fun hh => d hh.2),if_neg (not_not_intro c)] at q2
      simp only
      rw [if_neg (not_not_intro c)]
      exact q2
    · rw [if_neg (fun hh => c hh.1),if_pos c] at q2
      simp only
      rw [if_pos c]
      exact q2
    · simp only at hz; rw [if_pos c] at hz; exact hz
    · simp only at hz; rw [if_neg c] at hz; exact hz

end Go.Abs
