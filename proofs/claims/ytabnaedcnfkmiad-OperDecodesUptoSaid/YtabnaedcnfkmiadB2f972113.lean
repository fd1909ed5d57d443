/- Functions, and what the code asks of them: PModel2. -/
import Derived.KernelRfl
import Derived.Test.YtabnaedcnfkmiadB15aca7b2
import Derived.Test.YtabnaedcnfkmiadBf865c446
import Derived.Test.YtabnaedcnfkmiadB81a2baaf
set_option linter.unusedVariables false
set_option linter.unusedSimpArgs false
-- interregnum/model.PutNode
namespace Go.Abs
open Go
def f39.args (a : ByteArray × T_api_Node) : List D := [.slice .ro 1 a.1.size (gstr a.1),.agg [.str a.2.1,.int .i64 a.2.2.1.1,.int .i64 a.2.2.1.2.1,.int .i64 a.2.2.1.2.2,.slice .ro 2 a.2.2.2.length (gl e_api_Label a.2.2.2)]]
def f39.blks (a : ByteArray × T_api_Node) : List (List D) := []
def f39.res (a : ByteArray × T_api_Node) : List D := [.slice .ro 1 ((putNode a).size) (gstr (putNode a))]
def f39.blks' (a : ByteArray × T_api_Node) : List (List D) := []
def f39.C : Contract := FnC f39.args f39.blks (fun a => putNode_pre a) f39.res f39.blks'
end Go.Abs

-- interregnum/model.same
namespace Go.Abs
open Go
def f60.args (a : ByteArray) : List D := [.slice .ro 1 a.size (gstr a)]
def f60.blks (a : ByteArray) : List (List D) := []
def f60.res (a : ByteArray) : List D := [.slice (.own 0) 1 ((sameB a).size) (gstr (sameB a))]
def f60.blks' (a : ByteArray) : List (List D) := []
def f60.C : Contract := FnC f60.args f60.blks (fun a => same_pre a) f60.res f60.blks'
end Go.Abs

-- interregnum/model.putAmount
namespace Go.Abs
open Go
def f62.args (a : ByteArray × T_ar3_i64) : List D := [.slice .ro 1 a.1.size (gstr a.1),.agg [.int .i64 a.2.1,.int .i64 a.2.2.1,.int .i64 a.2.2.2]]
def f62.blks (a : ByteArray × T_ar3_i64) : List (List D) := []
def f62.res (a : ByteArray × T_ar3_i64) : List D := [.slice .ro 1 ((putAmt a).size) (gstr (putAmt a))]
def f62.blks' (a : ByteArray × T_ar3_i64) : List (List D) := []
def f62.C : Contract := FnC f62.args f62.blks (fun a => putAmt_pre a) f62.res f62.blks'
end Go.Abs

-- interregnum/model.putLabels
namespace Go.Abs
open Go
def f61.args (a : ByteArray × (List (T_api_Label))) : List D := [.slice .ro 1 a.1.size (gstr a.1),.slice .ro 2 a.2.length (gl e_api_Label a.2)]
def f61.blks (a : ByteArray × (List (T_api_Label))) : List (List D) := []
def f61.res (a : ByteArray × (List (T_api_Label))) : List D := [.slice .ro 1 ((putLbls a).size) (gstr (putLbls a))]
def f61.blks' (a : ByteArray × (List (T_api_Label))) : List (List D) := []
def f61.C : Contract := FnC f61.args f61.blks (fun a => putLbls_pre a) f61.res f61.blks'
end Go.Abs

/- interregnum/model.PutNode -/
namespace Go.Abs
open Go
set_option linter.unusedVariables false
def f39.kills (a : ByteArray × T_api_Node) : List Hint := []
def f39.cuts (a : ByteArray × T_api_Node) : List (Nat × Σ β : Type,β→Tm) := []
def f39.af (a : ByteArray × T_api_Node) : AF := AF.mk (.seq (.region [⟨(some 3),0,.box,[.t 1],none⟩,
 ⟨(some 4),1,(.nilSl 1),[],none⟩])
 (.seq (.seq (.region [⟨(some 5),2,(.load true 5),[.t 3],none⟩,
 ⟨(some 6),3,(.call false 35),[.t 5],none⟩,
 ⟨(some 7),7,(.un .not),[.t 6],none⟩])
 (.cond (.t 7) (.seq (.region [⟨(some 8),8,.move,[.t 0],none⟩,
 ⟨(some 9),9,(.call false 60),[.t 8],none⟩,
 ⟨(some 4),13,.move,[.t 9],none⟩])
 (.ret)) (.skip)))
 (.seq (.region [⟨(some 10),14,.move,[.t 0],none⟩,
 ⟨(some 11),15,(.fieldAddr 0),[.t 3],none⟩,
 ⟨(some 12),16,(.load false 1),[.t 11],none⟩,
 ⟨(some 13),17,(.call false 16),[.t 10,.t 12],none⟩,
 ⟨(some 14),21,(.fieldAddr 1),[.t 3],none⟩,
 ⟨(some 15),22,(.load true 3),[.t 14],none⟩,
 ⟨(some 16),23,(.call false 62),[.t 13,.t 15],none⟩,
 ⟨(some 17),27,(.fieldAddr 4),[.t 3],none⟩,
 ⟨(some 18),28,(.load false 1),[.t 17],none⟩,
 ⟨(some 19),29,(.call false 61),[.t 16,.t 18],none⟩,
 ⟨(some 4),33,.move,[.t 19],none⟩])
 (.ret))))
 [.tmp 4] 0 18
def f39.env : Env := [(35,f35.C),(60,f60.C),(16,f16.C),(62,f62.C),(61,f61.C)]
def f39.tree (a : ByteArray × T_api_Node) : Prop := ∃ c1 : T_api_Node,(a.2.1 = c1.1)∧(a.2.2.1.1 = c1.2.1.1)∧(a.2.2.1.2.1 = c1.2.1.2.1)∧(a.2.2.1.2.2 = c1.2.1.2.2)∧(a.2.2.2.length = c1.2.2.length)∧(∀ i,i < c1.2.2.length→DEqs ((gl e_api_Label a.2.2.2) i) ((gl e_api_Label c1.2.2) i))∧(node_pre c1)∧Br (!(nodeB c1)) (∃ c4 : ByteArray,(a.1.size = c4.size)∧(∀ i,i < c4.size→DEqs ((gstr a.1) i) ((gstr c4) i))∧(same_pre c4)∧(((sameB c4).size) = ((sameB c4).size))∧(((sameB c4).size) = ((putNode a).size))∧(∀ i,i < ((putNode a).size)→DEqs ((gstr (sameB c4)) i) ((gstr (putNode a)) i))∧True) (∃ c7 : ByteArray × ByteArray,(a.1.size = c7.1.size)∧(∀ i,i < c7.1.size→DEqs ((gstr a.1) i) ((gstr c7.1) i))∧(a.2.1 = c7.2)∧(putText_pre c7)∧∃ c8 : ByteArray × T_ar3_i64,(((putText c7).size) = c8.1.size)∧(∀ i,i < c8.1.size→DEqs ((gstr (putText c7)) i) ((gstr c8.1) i))∧(a.2.2.1.1 = c8.2.1)∧(a.2.2.1.2.1 = c8.2.2.1)∧(a.2.2.1.2.2 = c8.2.2.2)∧(putAmt_pre c8)∧∃ c9 : ByteArray × (List (T_api_Label)),(((putAmt c8).size) = c9.1.size)∧(∀ i,i < c9.1.size→DEqs ((gstr (putAmt c8)) i) ((gstr c9.1) i))∧(a.2.2.2.length = c9.2.length)∧(∀ i,i < c9.2.length→DEqs ((gl e_api_Label a.2.2.2) i) ((gl e_api_Label c9.2) i))∧(putLbls_pre c9)∧(((putLbls c9).size) = ((putNode a).size))∧(∀ i,i < ((putNode a).size)→DEqs ((gstr (putLbls c9)) i) ((gstr (putNode a)) i))∧True)
def f39.vc (a : ByteArray × T_api_Node) : Prop := (node_pre a.2∧((¬ ((nodeB (a.2)) = true)→(same_pre a.1∧((sameB (a.1)) = putNode a)))∧(¬ (¬ ((nodeB (a.2)) = true))→(putText_pre (a.1,a.2.1)∧(putAmt_pre ((putText (a.1,a.2.1)),a.2.2.1)∧(putLbls_pre ((putAmt ((putText (a.1,a.2.1)),a.2.2.1)),a.2.2.2)∧((putLbls ((putAmt ((putText (a.1,a.2.1)),a.2.2.1)),a.2.2.2)) = putNode a)))))))
set_option maxRecDepth 100000 in
set_option maxHeartbeats 2000000 in
theorem f39.of (a : ByteArray × T_api_Node) (h : f39.vc a) : f39.tree a := ⟨a.2,⟨rfl,⟨rfl,⟨rfl,⟨rfl,slK (Rds.self (enc := e_api_Label)) (⟨h.1,br h.2 (Cnd.not Cnd.b) (fun h2 k14 => ⟨a.1,slK RdB.self (⟨k14.1,⟨rfl,slK (RdB.to RdB.self k14.2) (trivial)⟩⟩)⟩) (fun h3 k15 => ⟨(a.1,a.2.1),slK RdB.self (⟨rfl,⟨k15.1,⟨((putText (a.1,a.2.1)),a.2.2.1),slK RdB.self (⟨rfl,⟨rfl,⟨rfl,⟨k15.2.1,⟨((putAmt ((putText (a.1,a.2.1)),a.2.2.1)),a.2.2.2),slK RdB.self (slK (Rds.self (enc := e_api_Label)) (⟨k15.2.2.1,slK (RdB.to RdB.self k15.2.2.2) (trivial)⟩))⟩⟩⟩⟩⟩)⟩⟩⟩)⟩)⟩)⟩⟩⟩⟩⟩
theorem f39.eq (a : ByteArray × T_api_Node) : (f39.af a).gives f39.env (f39.args a) (f39.blks a) (f39.res a) (f39.blks' a) = f39.tree a := by kernel_rfl
end Go.Abs

-- interregnum/interregnumref05.NodeBytes
namespace Go.Abs
open Go
end Go.Abs

-- interregnum/interregnumref05.amount
namespace Go.Abs
open Go
end Go.Abs

-- interregnum/interregnumref05.labels
namespace Go.Abs
open Go
end Go.Abs

/- interregnum/interregnumref05.NodeBytes -/
namespace Go.Abs
open Go
set_option linter.unusedVariables false
end Go.Abs

-- interregnum/model.PutQueue
namespace Go.Abs
open Go
def f41.args (a : ByteArray × T_api_Queue) : List D := [.slice .ro 1 a.1.size (gstr a.1),.agg [.str a.2.1,.int .i64 a.2.2.1,.int .i64 a.2.2.2.1,.int .i64 a.2.2.2.2]]
def f41.blks (a : ByteArray × T_api_Queue) : List (List D) := []
def f41.res (a : ByteArray × T_api_Queue) : List D := [.slice .ro 1 ((putQueue a).size) (gstr (putQueue a))]
def f41.blks' (a : ByteArray × T_api_Queue) : List (List D) := []
def f41.C : Contract := FnC f41.args f41.blks (fun a => putQueue_pre a) f41.res f41.blks'
end Go.Abs

/- interregnum/model.PutQueue -/
namespace Go.Abs
open Go
set_option linter.unusedVariables false
def f41.kills (a : ByteArray × T_api_Queue) : List Hint := []
def f41.cuts (a : ByteArray × T_api_Queue) : List (Nat × Σ β : Type,β→Tm) := []
def f41.af (a : ByteArray × T_api_Queue) : AF := AF.mk (.seq (.region [⟨(some 3),0,.box,[.t 1],none⟩,
 ⟨(some 4),1,(.nilSl 1),[],none⟩])
 (.seq (.seq (.region [⟨(some 5),2,(.load true 4),[.t 3],none⟩,
 ⟨(some 6),3,(.call false 25),[.t 5],none⟩,
 ⟨(some 7),7,(.un .not),[.t 6],none⟩])
 (.cond (.t 7) (.seq (.region [⟨(some 8),8,.move,[.t 0],none⟩,
 ⟨(some 9),9,(.call false 60),[.t 8],none⟩,
 ⟨(some 4),13,.move,[.t 9],none⟩])
 (.ret)) (.skip)))
 (.seq (.region [⟨(some 10),14,.move,[.t 0],none⟩,
 ⟨(some 11),15,(.fieldAddr 0),[.t 3],none⟩,
 ⟨(some 12),16,(.load false 1),[.t 11],none⟩,
 ⟨(some 13),17,(.call false 16),[.t 10,.t 12],none⟩,
 ⟨(some 14),21,(.fieldAddr 1),[.t 3],none⟩,
 ⟨(some 15),22,(.load true 3),[.t 14],none⟩,
 ⟨(some 16),23,(.call false 62),[.t 13,.t 15],none⟩,
 ⟨(some 4),27,.move,[.t 16],none⟩])
 (.ret))))
 [.tmp 4] 0 15
def f41.env : Env := [(25,f25.C),(60,f60.C),(16,f16.C),(62,f62.C)]
def f41.tree (a : ByteArray × T_api_Queue) : Prop := ∃ c1 : T_api_Queue,(a.2.1 = c1.1)∧(a.2.2.1 = c1.2.1)∧(a.2.2.2.1 = c1.2.2.1)∧(a.2.2.2.2 = c1.2.2.2)∧(queue_pre c1)∧Br (!(queueB c1)) (∃ c4 : ByteArray,(a.1.size = c4.size)∧(∀ i,i < c4.size→DEqs ((gstr a.1) i) ((gstr c4) i))∧(same_pre c4)∧(((sameB c4).size) = ((sameB c4).size))∧(((sameB c4).size) = ((putQueue a).size))∧(∀ i,i < ((putQueue a).size)→DEqs ((gstr (sameB c4)) i) ((gstr (putQueue a)) i))∧True) (∃ c7 : ByteArray × ByteArray,(a.1.size = c7.1.size)∧(∀ i,i < c7.1.size→DEqs ((gstr a.1) i) ((gstr c7.1) i))∧(a.2.1 = c7.2)∧(putText_pre c7)∧∃ c8 : ByteArray × T_ar3_i64,(((putText c7).size) = c8.1.size)∧(∀ i,i < c8.1.size→DEqs ((gstr (putText c7)) i) ((gstr c8.1) i))∧(a.2.2.1 = c8.2.1)∧(a.2.2.2.1 = c8.2.2.1)∧(a.2.2.2.2 = c8.2.2.2)∧(putAmt_pre c8)∧(((putAmt c8).size) = ((putQueue a).size))∧(∀ i,i < ((putQueue a).size)→DEqs ((gstr (putAmt c8)) i) ((gstr (putQueue a)) i))∧True)
def f41.vc (a : ByteArray × T_api_Queue) : Prop := (queue_pre a.2∧((¬ ((queueB (a.2)) = true)→(same_pre a.1∧((sameB (a.1)) = putQueue a)))∧(¬ (¬ ((queueB (a.2)) = true))→(putText_pre (a.1,a.2.1)∧(putAmt_pre ((putText (a.1,a.2.1)),a.2.2)∧((putAmt ((putText (a.1,a.2.1)),a.2.2)) = putQueue a))))))
set_option maxRecDepth 100000 in
set_option maxHeartbeats 2000000 in
theorem f41.of (a : ByteArray × T_api_Queue) (h : f41.vc a) : f41.tree a := ⟨a.2,⟨rfl,⟨rfl,⟨rfl,⟨rfl,⟨h.1,br h.2 (Cnd.not Cnd.b) (fun h2 k12 => ⟨a.1,slK RdB.self (⟨k12.1,⟨rfl,slK (RdB.to RdB.self k12.2) (trivial)⟩⟩)⟩) (fun h3 k13 => ⟨(a.1,a.2.1),slK RdB.self (⟨rfl,⟨k13.1,⟨((putText (a.1,a.2.1)),a.2.2),slK RdB.self (⟨rfl,⟨rfl,⟨rfl,⟨k13.2.1,slK (RdB.to RdB.self k13.2.2) (trivial)⟩⟩⟩⟩)⟩⟩⟩)⟩)⟩⟩⟩⟩⟩⟩
theorem f41.eq (a : ByteArray × T_api_Queue) : (f41.af a).gives f41.env (f41.args a) (f41.blks a) (f41.res a) (f41.blks' a) = f41.tree a := by kernel_rfl
end Go.Abs

-- interregnum/interregnumref05.QueueBytes
namespace Go.Abs
open Go
end Go.Abs

/- interregnum/interregnumref05.QueueBytes -/
namespace Go.Abs
open Go
set_option linter.unusedVariables false
end Go.Abs

-- interregnum/model.PutTask
namespace Go.Abs
open Go
def f43.args (a : ByteArray × T_api_Task) : List D := [.slice .ro 1 a.1.size (gstr a.1),.agg [.str a.2.1,.str a.2.2.1,.int .i64 a.2.2.2.1,.int .i64 a.2.2.2.2.1.1,.int .i64 a.2.2.2.2.1.2.1,.int .i64 a.2.2.2.2.1.2.2,.slice .ro 2 a.2.2.2.2.2.1.length (gl e_api_Label a.2.2.2.2.2.1),.str a.2.2.2.2.2.2.1,.str a.2.2.2.2.2.2.2.1,.int .i64 a.2.2.2.2.2.2.2.2]]
def f43.blks (a : ByteArray × T_api_Task) : List (List D) := []
def f43.res (a : ByteArray × T_api_Task) : List D := [.slice .ro 1 ((putTask a).size) (gstr (putTask a))]
def f43.blks' (a : ByteArray × T_api_Task) : List (List D) := []
def f43.C : Contract := FnC f43.args f43.blks (fun a => putTask_pre a) f43.res f43.blks'
end Go.Abs

/- interregnum/model.PutTask -/
namespace Go.Abs
open Go
set_option linter.unusedVariables false
def f43.kills (a : ByteArray × T_api_Task) : List Hint := []
def f43.cuts (a : ByteArray × T_api_Task) : List (Nat × Σ β : Type,β→Tm) := []
def f43.af (a : ByteArray × T_api_Task) : AF := AF.mk (.seq (.region [⟨(some 3),0,.box,[.t 1],none⟩,
 ⟨(some 4),1,(.nilSl 1),[],none⟩])
 (.seq (.seq (.region [⟨(some 5),2,(.load true 10),[.t 3],none⟩,
 ⟨(some 6),3,(.call false 24),[.t 5],none⟩,
 ⟨(some 7),7,(.un .not),[.t 6],none⟩])
 (.cond (.t 7) (.seq (.region [⟨(some 8),8,.move,[.t 0],none⟩,
 ⟨(some 9),9,(.call false 60),[.t 8],none⟩,
 ⟨(some 4),13,.move,[.t 9],none⟩])
 (.ret)) (.skip)))
 (.seq (.region [⟨(some 10),14,.move,[.t 0],none⟩,
 ⟨(some 11),15,(.fieldAddr 0),[.t 3],none⟩,
 ⟨(some 12),16,(.load false 1),[.t 11],none⟩,
 ⟨(some 13),17,(.call false 16),[.t 10,.t 12],none⟩,
 ⟨(some 14),21,(.fieldAddr 1),[.t 3],none⟩,
 ⟨(some 15),22,(.load false 1),[.t 14],none⟩,
 ⟨(some 16),23,(.call false 16),[.t 13,.t 15],none⟩,
 ⟨(some 0),27,.move,[.t 16],none⟩])
 (.seq (.region [⟨(some 17),28,.move,[.t 0],none⟩,
 ⟨(some 18),29,(.fieldAddr 2),[.t 3],none⟩,
 ⟨(some 19),30,(.load false 1),[.t 18],none⟩,
 ⟨(some 20),31,(.conv (.int .u64)),[.t 19],none⟩,
 ⟨(some 21),32,(.call false 14),[.t 17,.t 20],none⟩,
 ⟨(some 22),36,(.fieldAddr 3),[.t 3],none⟩,
 ⟨(some 23),37,(.load true 3),[.t 22],none⟩,
 ⟨(some 24),38,(.call false 62),[.t 21,.t 23],none⟩,
 ⟨(some 0),42,.move,[.t 24],none⟩])
 (.seq (.region [⟨(some 25),43,.move,[.t 0],none⟩,
 ⟨(some 26),44,(.fieldAddr 6),[.t 3],none⟩,
 ⟨(some 27),45,(.load false 1),[.t 26],none⟩,
 ⟨(some 28),46,(.call false 61),[.t 25,.t 27],none⟩,
 ⟨(some 29),50,(.fieldAddr 7),[.t 3],none⟩,
 ⟨(some 30),51,(.load false 1),[.t 29],none⟩,
 ⟨(some 31),52,(.call false 16),[.t 28,.t 30],none⟩,
 ⟨(some 32),56,(.fieldAddr 8),[.t 3],none⟩,
 ⟨(some 33),57,(.load false 1),[.t 32],none⟩,
 ⟨(some 34),58,(.call false 16),[.t 31,.t 33],none⟩,
 ⟨(some 0),62,.move,[.t 34],none⟩])
 (.seq (.region [⟨(some 35),63,.move,[.t 0],none⟩,
 ⟨(some 36),64,(.fieldAddr 9),[.t 3],none⟩,
 ⟨(some 37),65,(.load false 1),[.t 36],none⟩,
 ⟨(some 38),66,(.conv (.int .u64)),[.t 37],none⟩,
 ⟨(some 39),67,(.call false 14),[.t 35,.t 38],none⟩,
 ⟨(some 4),71,.move,[.t 39],none⟩])
 (.ret)))))))
 [.tmp 4] 0 38
def f43.env : Env := [(24,f24.C),(60,f60.C),(16,f16.C),(14,f14.C),(62,f62.C),(61,f61.C)]
def f43.tree (a : ByteArray × T_api_Task) : Prop := ∃ c1 : T_api_Task,(a.2.1 = c1.1)∧(a.2.2.1 = c1.2.1)∧(a.2.2.2.1 = c1.2.2.1)∧(a.2.2.2.2.1.1 = c1.2.2.2.1.1)∧(a.2.2.2.2.1.2.1 = c1.2.2.2.1.2.1)∧(a.2.2.2.2.1.2.2 = c1.2.2.2.1.2.2)∧(a.2.2.2.2.2.1.length = c1.2.2.2.2.1.length)∧(∀ i,i < c1.2.2.2.2.1.length→DEqs ((gl e_api_Label a.2.2.2.2.2.1) i) ((gl e_api_Label c1.2.2.2.2.1) i))∧(a.2.2.2.2.2.2.1 = c1.2.2.2.2.2.1)∧(a.2.2.2.2.2.2.2.1 = c1.2.2.2.2.2.2.1)∧(a.2.2.2.2.2.2.2.2 = c1.2.2.2.2.2.2.2)∧(task_pre c1)∧Br (!(taskB c1)) (∃ c4 : ByteArray,(a.1.size = c4.size)∧(∀ i,i < c4.size→DEqs ((gstr a.1) i) ((gstr c4) i))∧(same_pre c4)∧(((sameB c4).size) = ((sameB c4).size))∧(((sameB c4).size) = ((putTask a).size))∧(∀ i,i < ((putTask a).size)→DEqs ((gstr (sameB c4)) i) ((gstr (putTask a)) i))∧True) (∃ c7 : ByteArray × ByteArray,(a.1.size = c7.1.size)∧(∀ i,i < c7.1.size→DEqs ((gstr a.1) i) ((gstr c7.1) i))∧(a.2.1 = c7.2)∧(putText_pre c7)∧∃ c8 : ByteArray × ByteArray,(((putText c7).size) = c8.1.size)∧(∀ i,i < c8.1.size→DEqs ((gstr (putText c7)) i) ((gstr c8.1) i))∧(a.2.2.1 = c8.2)∧(putText_pre c8)∧Let (IntKind.u64.wrap a.2.2.2.1) (fun v9 : Int => ∃ c10 : ByteArray × Int,(((putText c8).size) = c10.1.size)∧(∀ i,i < c10.1.size→DEqs ((gstr (putText c8)) i) ((gstr c10.1) i))∧(v9 = c10.2)∧(put_pre c10)∧∃ c11 : ByteArray × T_ar3_i64,(((putB c10).size) = c11.1.size)∧(∀ i,i < c11.1.size→DEqs ((gstr (putB c10)) i) ((gstr c11.1) i))∧(a.2.2.2.2.1.1 = c11.2.1)∧(a.2.2.2.2.1.2.1 = c11.2.2.1)∧(a.2.2.2.2.1.2.2 = c11.2.2.2)∧(putAmt_pre c11)∧∃ c12 : ByteArray × (List (T_api_Label)),(((putAmt c11).size) = c12.1.size)∧(∀ i,i < c12.1.size→DEqs ((gstr (putAmt c11)) i) ((gstr c12.1) i))∧(a.2.2.2.2.2.1.length = c12.2.length)∧(∀ i,i < c12.2.length→DEqs ((gl e_api_Label a.2.2.2.2.2.1) i) ((gl e_api_Label c12.2) i))∧(putLbls_pre c12)∧∃ c13 : ByteArray × ByteArray,(((putLbls c12).size) = c13.1.size)∧(∀ i,i < c13.1.size→DEqs ((gstr (putLbls c12)) i) ((gstr c13.1) i))∧(a.2.2.2.2.2.2.1 = c13.2)∧(putText_pre c13)∧∃ c14 : ByteArray × ByteArray,(((putText c13).size) = c14.1.size)∧(∀ i,i < c14.1.size→DEqs ((gstr (putText c13)) i) ((gstr c14.1) i))∧(a.2.2.2.2.2.2.2.1 = c14.2)∧(putText_pre c14)∧Let (IntKind.u64.wrap a.2.2.2.2.2.2.2.2) (fun v15 : Int => ∃ c16 : ByteArray × Int,(((putText c14).size) = c16.1.size)∧(∀ i,i < c16.1.size→DEqs ((gstr (putText c14)) i) ((gstr c16.1) i))∧(v15 = c16.2)∧(put_pre c16)∧(((putB c16).size) = ((putB c16).size))∧(((putB c16).size) = ((putTask a).size))∧(∀ i,i < ((putTask a).size)→DEqs ((gstr (putB c16)) i) ((gstr (putTask a)) i))∧True)))
def f43.vc (a : ByteArray × T_api_Task) : Prop := (task_pre a.2∧((¬ ((taskB (a.2)) = true)→(same_pre a.1∧((sameB (a.1)) = putTask a)))∧(¬ (¬ ((taskB (a.2)) = true))→(putText_pre (a.1,a.2.1)∧(putText_pre ((putText (a.1,a.2.1)),a.2.2.1)∧(0≤a.2.2.2.1∧a.2.2.2.1≤18446744073709551615∧(put_pre ((putText ((putText (a.1,a.2.1)),a.2.2.1)),(a.2.2.2.1))∧(putAmt_pre ((putB ((putText ((putText (a.1,a.2.1)),a.2.2.1)),(a.2.2.2.1))),a.2.2.2.2.1)∧(putLbls_pre ((putAmt ((putB ((putText ((putText (a.1,a.2.1)),a.2.2.1)),(a.2.2.2.1))),a.2.2.2.2.1)),a.2.2.2.2.2.1)∧(putText_pre ((putLbls ((putAmt ((putB ((putText ((putText (a.1,a.2.1)),a.2.2.1)),(a.2.2.2.1))),a.2.2.2.2.1)),a.2.2.2.2.2.1)),a.2.2.2.2.2.2.1)∧(putText_pre ((putText ((putLbls ((putAmt ((putB ((putText ((putText (a.1,a.2.1)),a.2.2.1)),(a.2.2.2.1))),a.2.2.2.2.1)),a.2.2.2.2.2.1)),a.2.2.2.2.2.2.1)),a.2.2.2.2.2.2.2.1)∧(0≤a.2.2.2.2.2.2.2.2∧a.2.2.2.2.2.2.2.2≤18446744073709551615∧(put_pre ((putText ((putText ((putLbls ((putAmt ((putB ((putText ((putText (a.1,a.2.1)),a.2.2.1)),(a.2.2.2.1))),a.2.2.2.2.1)),a.2.2.2.2.2.1)),a.2.2.2.2.2.2.1)),a.2.2.2.2.2.2.2.1)),(a.2.2.2.2.2.2.2.2))∧((putB ((putText ((putText ((putLbls ((putAmt ((putB ((putText ((putText (a.1,a.2.1)),a.2.2.1)),(a.2.2.2.1))),a.2.2.2.2.1)),a.2.2.2.2.2.1)),a.2.2.2.2.2.2.1)),a.2.2.2.2.2.2.2.1)),(a.2.2.2.2.2.2.2.2))) = putTask a))))))))))))))
set_option maxRecDepth 100000 in
set_option maxHeartbeats 2000000 in
theorem f43.of (a : ByteArray × T_api_Task) (h : f43.vc a) : f43.tree a := ⟨a.2,⟨rfl,⟨rfl,⟨rfl,⟨rfl,⟨rfl,⟨rfl,slK (Rds.self (enc := e_api_Label)) (⟨rfl,⟨rfl,⟨rfl,⟨h.1,br h.2 (Cnd.not Cnd.b) (fun h2 k32 => ⟨a.1,slK RdB.self (⟨k32.1,⟨rfl,slK (RdB.to RdB.self k32.2) (trivial)⟩⟩)⟩) (fun h3 k33 => ⟨(a.1,a.2.1),slK RdB.self (⟨rfl,⟨k33.1,⟨((putText (a.1,a.2.1)),a.2.2.1),slK RdB.self (⟨rfl,⟨k33.2.1,wrapK.u64 k33.2.2 (fun h27 h28 k29 => ⟨((putText ((putText (a.1,a.2.1)),a.2.2.1)),(a.2.2.2.1)),slK RdB.self (⟨rfl,⟨k29.1,⟨((putB ((putText ((putText (a.1,a.2.1)),a.2.2.1)),(a.2.2.2.1))),a.2.2.2.2.1),slK RdB.self (⟨rfl,⟨rfl,⟨rfl,⟨k29.2.1,⟨((putAmt ((putB ((putText ((putText (a.1,a.2.1)),a.2.2.1)),(a.2.2.2.1))),a.2.2.2.2.1)),a.2.2.2.2.2.1),slK RdB.self (slK (Rds.self (enc := e_api_Label)) (⟨k29.2.2.1,⟨((putLbls ((putAmt ((putB ((putText ((putText (a.1,a.2.1)),a.2.2.1)),(a.2.2.2.1))),a.2.2.2.2.1)),a.2.2.2.2.2.1)),a.2.2.2.2.2.2.1),slK RdB.self (⟨rfl,⟨k29.2.2.2.1,⟨((putText ((putLbls ((putAmt ((putB ((putText ((putText (a.1,a.2.1)),a.2.2.1)),(a.2.2.2.1))),a.2.2.2.2.1)),a.2.2.2.2.2.1)),a.2.2.2.2.2.2.1)),a.2.2.2.2.2.2.2.1),slK RdB.self (⟨rfl,⟨k29.2.2.2.2.1,wrapK.u64 k29.2.2.2.2.2 (fun h19 h20 k21 => ⟨((putText ((putText ((putLbls ((putAmt ((putB ((putText ((putText (a.1,a.2.1)),a.2.2.1)),(a.2.2.2.1))),a.2.2.2.2.1)),a.2.2.2.2.2.1)),a.2.2.2.2.2.2.1)),a.2.2.2.2.2.2.2.1)),(a.2.2.2.2.2.2.2.2)),slK RdB.self (⟨rfl,⟨k21.1,⟨rfl,slK (RdB.to RdB.self k21.2) (trivial)⟩⟩⟩)⟩)⟩⟩)⟩⟩⟩)⟩⟩))⟩⟩⟩⟩⟩)⟩⟩⟩)⟩)⟩⟩)⟩⟩⟩)⟩)⟩⟩⟩⟩)⟩⟩⟩⟩⟩⟩⟩
theorem f43.eq (a : ByteArray × T_api_Task) : (f43.af a).gives f43.env (f43.args a) (f43.blks a) (f43.res a) (f43.blks' a) = f43.tree a := by kernel_rfl
end Go.Abs

-- interregnum/interregnumref05.TaskBytes
namespace Go.Abs
open Go
end Go.Abs

-- interregnum/interregnumref05.number
namespace Go.Abs
open Go
end Go.Abs

/- interregnum/interregnumref05.TaskBytes -/
namespace Go.Abs
open Go
set_option linter.unusedVariables false
end Go.Abs

/- interregnum/model.same -/
namespace Go.Abs
open Go
set_option linter.unusedVariables false
def f60.kills (a : ByteArray) : List Hint := []
def f60.cuts (a : ByteArray) : List (Nat × Σ β : Type,β→Tm) := []
def f60.af (a : ByteArray) : AF := AF.mk (.seq (.region [⟨(some 2),0,(.nilSl 1),[],none⟩])
 (.seq (.region [⟨(some 3),1,(.buildSlice 1 0 [.int .u8 (0)] []),[],none⟩,
 ⟨(some 4),2,.move,[.t 0],none⟩,
 ⟨(some 5),3,(.append 1 1),[.t 3,.t 4],none⟩,
 ⟨(some 2),4,.move,[.t 5],none⟩])
 (.ret)))
 [.tmp 2] 0 5
def f60.env : Env := []
def f60.tree (a : ByteArray) : Prop := (room ((0 + a.size) * 1))∧(((0 + a.size) = (0 + a.size))∧((0 + a.size) = ((sameB a).size))∧(∀ i,i < ((sameB a).size)→DEqs ((gapp (fun j => List.take 1 (List.drop (j * 1) [])) 0 (gstr a)) i) ((gstr (sameB a)) i))∧True)
def f60.vc (a : ByteArray) : Prop := (0 + a.size≤1073741824∧(ByteArray.empty ++ a = sameB a))
set_option maxRecDepth 100000 in
set_option maxHeartbeats 2000000 in
theorem f60.of (a : ByteArray) (h : f60.vc a) : f60.tree a := ⟨(room_of h.1 (by decide)),⟨rfl,slK (RdB.to (RdB.app RdB.nil RdB.self) h.2) (trivial)⟩⟩
theorem f60.eq (a : ByteArray) : (f60.af a).gives f60.env (f60.args a) (f60.blks a) (f60.res a) (f60.blks' a) = f60.tree a := by kernel_rfl
end Go.Abs

/- interregnum/model.putLabels -/
namespace Go.Abs
open Go
set_option linter.unusedVariables false
def f61.kills (a : ByteArray × (List (T_api_Label))) : List Hint := [.tell (ByteArray × Int) (fun x => ⟨[.slice .ro 1 x.1.size (gstr x.1),.dead,.dead,.dead,.dead,.dead,.dead,.dead,.dead,.dead,.dead,.dead,.slice .ro 2 a.2.length (gl e_api_Label a.2),.int .i64 (a.2.length : Int),.int .i64 x.2,.dead,.dead,.dead,.dead,.dead,.dead,.dead,.dead,.dead,.dead,.dead,.dead],[],[]⟩)]
def f61.cuts (a : ByteArray × (List (T_api_Label))) : List (Nat × Σ β : Type,β→Tm) := []
def f61.af (a : ByteArray × (List (T_api_Label))) : AF := AF.mk (.seq (.region [⟨(some 4),0,(.nilSl 1),[],none⟩])
 (.seq (.region [⟨(some 7),1,.move,[.t 0],none⟩,
 ⟨(some 8),2,.move,[.t 1],none⟩,
 ⟨(some 9),3,(.len false),[.t 8],none⟩,
 ⟨(some 10),4,(.conv (.int .u64)),[.t 9],none⟩,
 ⟨(some 11),5,(.call false 14),[.t 7,.t 10],none⟩,
 ⟨(some 0),9,.move,[.t 11],none⟩])
 (.seq (.seq (.region [⟨(some 12),10,.move,[.t 1],none⟩,
 ⟨(some 13),11,(.len false),[.t 12],none⟩,
 ⟨(some 14),12,.move,[.c (.int .i64 (0))],none⟩])
 (.block 0 (.loopT (ByteArray × Int) (fun x => ⟨[.slice .ro 1 x.1.size (gstr x.1),.dead,.dead,.dead,.dead,.dead,.dead,.dead,.dead,.dead,.dead,.dead,.slice .ro 2 a.2.length (gl e_api_Label a.2),.int .i64 (a.2.length : Int),.int .i64 x.2,.dead,.dead,.dead,.dead,.dead,.dead,.dead,.dead,.dead,.dead,.dead,.dead],[],[]⟩) 13 36 (.seq (.region [⟨(some 15),13,(.bin .lss),[.t 14,.t 13],none⟩])
 (.seq (.cond (.t 15) (.skip) (.exit 0))
 (.seq (.block 1 (.seq (.region [⟨(some 16),14,(.indexAddr 2 none),[.t 12,.t 14],none⟩,
 ⟨(some 17),15,(.load true 2),[.t 16],none⟩,
 ⟨(some 6),16,(.alloc [.str ByteArray.empty,.str ByteArray.empty]),[],none⟩,
 ⟨none,19,(.store 2),[.t 6,.t 17],none⟩])
 (.region [⟨(some 18),20,.move,[.t 0],none⟩,
 ⟨(some 19),21,(.fieldAddr 0),[.t 6],none⟩,
 ⟨(some 20),22,(.load false 1),[.t 19],none⟩,
 ⟨(some 21),23,(.call false 16),[.t 18,.t 20],none⟩,
 ⟨(some 22),27,(.fieldAddr 1),[.t 6],none⟩,
 ⟨(some 23),28,(.load false 1),[.t 22],none⟩,
 ⟨(some 24),29,(.call false 16),[.t 21,.t 23],none⟩,
 ⟨(some 0),33,.move,[.t 24],none⟩])))
 (.region [⟨(some 25),34,(.bin .add),[.t 14,.c (.int .i64 (1))],none⟩,
 ⟨(some 14),35,.move,[.t 25],none⟩])))))))
 (.seq (.region [⟨(some 26),36,.move,[.t 0],none⟩,
 ⟨(some 4),37,.move,[.t 26],none⟩])
 (.ret)))))
 [.tmp 4] 0 25
def f61.env : Env := [(14,f14.C),(16,f16.C)]
def f61.tree (a : ByteArray × (List (T_api_Label))) : Prop := Let (IntKind.u64.wrap (a.2.length : Int)) (fun v1 : Int => ∃ c2 : ByteArray × Int,(a.1.size = c2.1.size)∧(∀ i,i < c2.1.size→DEqs ((gstr a.1) i) ((gstr c2.1) i))∧(v1 = c2.2)∧(put_pre c2)∧∃ (I4 : (ByteArray × Int)→Prop) (μ5 : (ByteArray × Int)→Nat),(∃ x3 : ByteArray × Int,(((putB c2).size) = x3.1.size)∧(∀ i,i < x3.1.size→DEqs ((gstr (putB c2)) i) ((gstr x3.1) i))∧(a.2.length = a.2.length)∧(∀ i,i < a.2.length→DEqs ((gl e_api_Label a.2) i) ((gl e_api_Label a.2) i))∧((a.2.length : Int) = (a.2.length : Int))∧((0 : Int) = x3.2)∧I4 x3)∧∀ y6 : ByteArray × Int,I4 y6→(Br (decide (y6.2 < (a.2.length : Int))) (Br (decide ((0 : Int)≤y6.2) && decide (y6.2 < (a.2.length : Int))) (∃ c10 : ByteArray × ByteArray,(y6.1.size = c10.1.size)∧(∀ i,i < c10.1.size→DEqs ((gstr y6.1) i) ((gstr c10.1) i))∧(((at_ a.2 y6.2).1) = c10.2)∧(putText_pre c10)∧∃ c11 : ByteArray × ByteArray,(((putText c10).size) = c11.1.size)∧(∀ i,i < c11.1.size→DEqs ((gstr (putText c10)) i) ((gstr c11.1) i))∧(((at_ a.2 y6.2).2) = c11.2)∧(putText_pre c11)∧Let (IntKind.i64.wrap (y6.2 + (1 : Int))) (fun v12 : Int => ∃ x13 : ByteArray × Int,(((putText c11).size) = x13.1.size)∧(∀ i,i < x13.1.size→DEqs ((gstr (putText c11)) i) ((gstr x13.1) i))∧(a.2.length = a.2.length)∧(∀ i,i < a.2.length→DEqs ((gl e_api_Label a.2) i) ((gl e_api_Label a.2) i))∧((a.2.length : Int) = (a.2.length : Int))∧(v12 = x13.2)∧I4 x13∧μ5 x13 < μ5 y6)) False) ((y6.1.size = ((putLbls a).size))∧(∀ i,i < ((putLbls a).size)→DEqs ((gstr y6.1) i) ((gstr (putLbls a)) i))∧True)))
def f61.vc (a : ByteArray × (List (T_api_Label))) : Prop := (0≤(a.2.length : Int)∧(a.2.length : Int)≤18446744073709551615∧(put_pre (a.1,(a.2.length : Int))∧(∃ (I4 : (ByteArray × Int)→Prop) (μ5 : (ByteArray × Int)→Nat),I4 ((putB (a.1,(a.2.length : Int))),(0 : Int))∧∀ y6 : ByteArray × Int,I4 y6→((y6.2 < (a.2.length : Int)→((0 : Int)≤y6.2∧y6.2 < (a.2.length : Int)∧(putText_pre (y6.1,(at_ a.2 y6.2).1)∧(putText_pre ((putText (y6.1,(at_ a.2 y6.2).1)),(at_ a.2 y6.2).2)∧(-9223372036854775808≤(y6.2 + (1 : Int))∧(y6.2 + (1 : Int))≤9223372036854775807∧(I4 ((putText ((putText (y6.1,(at_ a.2 y6.2).1)),(at_ a.2 y6.2).2)),(y6.2 + (1 : Int)))∧μ5 ((putText ((putText (y6.1,(at_ a.2 y6.2).1)),(at_ a.2 y6.2).2)),(y6.2 + (1 : Int))) < μ5 y6))))))∧(¬ (y6.2 < (a.2.length : Int))→(y6.1 = putLbls a))))))
set_option maxRecDepth 100000 in
set_option maxHeartbeats 2000000 in
theorem f61.of (a : ByteArray × (List (T_api_Label))) (h : f61.vc a) : f61.tree a := wrapK.u64 h (fun h28 h29 k30 => ⟨(a.1,(a.2.length : Int)),slK RdB.self (⟨rfl,⟨k30.1,Exists.elim k30.2 (fun I4 h24_ => Exists.elim h24_ (fun μ5 h24 => ⟨I4,μ5,⟨((putB (a.1,(a.2.length : Int))),(0 : Int)),slK RdB.self (slK (Rds.self (enc := e_api_Label)) (⟨rfl,⟨rfl,h24.1⟩⟩))⟩,fun y6 h26 => br (h24.2 y6 h26) Cnd.dec (fun h7 k22 => chk k22.2.2 Cnd.ix ⟨k22.1,k22.2.1⟩ (fun h9 k20 => ⟨(y6.1,(at_ a.2 y6.2).1),slK RdB.self (⟨rfl,⟨k20.1,⟨((putText (y6.1,(at_ a.2 y6.2).1)),(at_ a.2 y6.2).2),slK RdB.self (⟨rfl,⟨k20.2.1,wrapK.i64 k20.2.2 (fun h15 h16 k17 => ⟨((putText ((putText (y6.1,(at_ a.2 y6.2).1)),(at_ a.2 y6.2).2)),(y6.2 + (1 : Int))),slK RdB.self (slK (Rds.self (enc := e_api_Label)) (⟨rfl,⟨rfl,k17⟩⟩))⟩)⟩⟩)⟩⟩⟩)⟩)) (fun h8 k23 => slK (RdB.to RdB.self k23) (trivial))⟩))⟩⟩)⟩)
theorem f61.eq (a : ByteArray × (List (T_api_Label))) : (f61.af a).gives f61.env (f61.args a) (f61.blks a) (f61.res a) (f61.blks' a) = f61.tree a := by kernel_rfl
end Go.Abs

/- interregnum/model.putAmount -/
namespace Go.Abs
open Go
set_option linter.unusedVariables false
def f62.kills (a : ByteArray × T_ar3_i64) : List Hint := [.unroll 4 [1,2,3,4,5,6,9,10,11,12,13,14,15,16] [] [1]]
def f62.cuts (a : ByteArray × T_ar3_i64) : List (Nat × Σ β : Type,β→Tm) := []
def f62.af (a : ByteArray × T_ar3_i64) : AF := AF.mk (.seq (.region [⟨(some 3),0,.box,[.t 1],none⟩,
 ⟨(some 4),1,(.nilSl 1),[],none⟩])
 (.seq (.seq (.region [⟨(some 7),2,(.load true 3),[.t 3],none⟩,
 ⟨(some 8),3,.move,[.c (.int .i64 (0))],none⟩])
 (.block 0 (.loop 4 [1,2,3,4,5,6,9,10,11,12,13,14,15,16] [] [1] 4 17 (.seq (.region [⟨(some 9),4,(.bin .lss),[.t 8,.c (.int .i64 (3))],none⟩])
 (.seq (.cond (.t 9) (.skip) (.exit 0))
 (.seq (.block 1 (.seq (.region [⟨(some 10),5,(.indexArr false 1 3),[.t 7,.t 8],none⟩,
 ⟨(some 6),6,.move,[.t 10],none⟩])
 (.region [⟨(some 11),7,.move,[.t 0],none⟩,
 ⟨(some 12),8,.move,[.t 6],none⟩,
 ⟨(some 13),9,(.conv (.int .u64)),[.t 12],none⟩,
 ⟨(some 14),10,(.call false 14),[.t 11,.t 13],none⟩,
 ⟨(some 0),14,.move,[.t 14],none⟩])))
 (.region [⟨(some 15),15,(.bin .add),[.t 8,.c (.int .i64 (1))],none⟩,
 ⟨(some 8),16,.move,[.t 15],none⟩])))))))
 (.seq (.region [⟨(some 16),17,.move,[.t 0],none⟩,
 ⟨(some 4),18,.move,[.t 16],none⟩])
 (.ret))))
 [.tmp 4] 0 15
def f62.env : Env := [(14,f14.C)]
def f62.tree (a : ByteArray × T_ar3_i64) : Prop := Let (IntKind.u64.wrap a.2.1) (fun v1 : Int => ∃ c2 : ByteArray × Int,(a.1.size = c2.1.size)∧(∀ i,i < c2.1.size→DEqs ((gstr a.1) i) ((gstr c2.1) i))∧(v1 = c2.2)∧(put_pre c2)∧Let (IntKind.u64.wrap a.2.2.1) (fun v3 : Int => ∃ c4 : ByteArray × Int,(((putB c2).size) = c4.1.size)∧(∀ i,i < c4.1.size→DEqs ((gstr (putB c2)) i) ((gstr c4.1) i))∧(v3 = c4.2)∧(put_pre c4)∧Let (IntKind.u64.wrap a.2.2.2) (fun v5 : Int => ∃ c6 : ByteArray × Int,(((putB c4).size) = c6.1.size)∧(∀ i,i < c6.1.size→DEqs ((gstr (putB c4)) i) ((gstr c6.1) i))∧(v5 = c6.2)∧(put_pre c6)∧(((putB c6).size) = ((putAmt a).size))∧(∀ i,i < ((putAmt a).size)→DEqs ((gstr (putB c6)) i) ((gstr (putAmt a)) i))∧True)))
def f62.vc (a : ByteArray × T_ar3_i64) : Prop := (0≤a.2.1∧a.2.1≤18446744073709551615∧(put_pre (a.1,(a.2.1))∧(0≤a.2.2.1∧a.2.2.1≤18446744073709551615∧(put_pre ((putB (a.1,(a.2.1))),(a.2.2.1))∧(0≤a.2.2.2∧a.2.2.2≤18446744073709551615∧(put_pre ((putB ((putB (a.1,(a.2.1))),(a.2.2.1))),(a.2.2.2))∧((putB ((putB ((putB (a.1,(a.2.1))),(a.2.2.1))),(a.2.2.2))) = putAmt a)))))))
set_option maxRecDepth 100000 in
set_option maxHeartbeats 2000000 in
theorem f62.of (a : ByteArray × T_ar3_i64) (h : f62.vc a) : f62.tree a := wrapK.u64 h (fun h17 h18 k19 => ⟨(a.1,(a.2.1)),slK RdB.self (⟨rfl,⟨k19.1,wrapK.u64 k19.2 (fun h13 h14 k15 => ⟨((putB (a.1,(a.2.1))),(a.2.2.1)),slK RdB.self (⟨rfl,⟨k15.1,wrapK.u64 k15.2 (fun h9 h10 k11 => ⟨((putB ((putB (a.1,(a.2.1))),(a.2.2.1))),(a.2.2.2)),slK RdB.self (⟨rfl,⟨k11.1,slK (RdB.to RdB.self k11.2) (trivial)⟩⟩)⟩)⟩⟩)⟩)⟩⟩)⟩)
theorem f62.eq (a : ByteArray × T_ar3_i64) : (f62.af a).gives f62.env (f62.args a) (f62.blks a) (f62.res a) (f62.blks' a) = f62.tree a := by kernel_rfl
end Go.Abs

/- interregnum/interregnumref05.amount -/
namespace Go.Abs
open Go
set_option linter.unusedVariables false
end Go.Abs

/- interregnum/interregnumref05.labels -/
namespace Go.Abs
open Go
set_option linter.unusedVariables false
end Go.Abs

/- interregnum/interregnumref05.number -/
namespace Go.Abs
open Go
set_option linter.unusedVariables false
end Go.Abs

-- interregnum/interregnumlaw05.awake
namespace Go.Abs
open Go
end Go.Abs

/- interregnum/interregnumlaw05.awake -/
namespace Go.Abs
open Go
set_option linter.unusedVariables false
end Go.Abs

-- interregnum/interregnumlaw05.few
namespace Go.Abs
open Go
end Go.Abs

-- interregnum/interregnumlaw05.labels
namespace Go.Abs
open Go
end Go.Abs

/- interregnum/interregnumlaw05.few -/
namespace Go.Abs
open Go
set_option linter.unusedVariables false
end Go.Abs

/- interregnum/interregnumlaw05.labels -/
namespace Go.Abs
open Go
set_option linter.unusedVariables false
end Go.Abs

/- Bytes of tasks: what the code asks is so. -/
namespace Go.Abs
open Go

theorem f60.ok (a : ByteArray) (h : same_pre a) : f60.vc a := by
  unfold same_pre S28 at h
  exact ⟨by omega,empty_app a⟩

theorem numS_size {n : Int} (h : 0 ≤ n ∧ n ≤ 1048576) : (numS n).size ≤ 9 := num_small (by omega)

theorem f62.ok (a : ByteArray × TRes) (h : putAmt_pre a) : f62.vc a := by
  obtain ⟨h0,h⟩ := h
  obtain ⟨h1,h2,h3⟩ := rightB_iff.1 h
  unfold S28 at h0
  have s1 := numS_size h1
  have s2 := numS_size h2
  have s3 := numS_size h3
  unfold numS at s1 s2 s3
  refine ⟨by omega,by omega,⟨by simp only; omega,by simp only; unfold U64; omega⟩,by omega,by omega,⟨?_,by simp only; unfold U64; omega⟩,by omega,by omega,⟨?_,by simp only; unfold U64; omega⟩,?_⟩
  · simp only [putB,app_size]; omega
  · simp only [putB,app_size]; omega
  · simp only [putB,putAmt,amtS,app_assoc]

theorem f61.ok (a : ByteArray × List TLbl) (h : putLbls_pre a) : f61.vc a := by
  obtain ⟨p,a⟩ := a
  obtain ⟨h0,h⟩ := h
  simp only at h0 h
  unfold S27 at h0
  have hl := (labelsB_iff.1 h).1
  have hz := lbl_size h
  refine ⟨by simp only; omega,by simp only; omega,⟨by simp only; omega,by simp only; unfold U64; omega⟩,fun y => 0 ≤ y.2 ∧ y.2 ≤ (a.length : Int) ∧ y.1 = p ++ (num a.length ++ lblsS0 (a.take y.2.toNat)),fun y => a.length - y.2.toNat,⟨by simp only; omega,by simp only; omega,?_⟩,fun y hy => ?_⟩
  · simp [lblsS0,putB]
  · obtain ⟨b,y⟩ := y
    obtain ⟨g0,g1,g2⟩ := hy
    simp only at g0 g1 g2 ⊢
    refine ⟨fun hlt => ?_,fun hge => ?_⟩
    · have hm := hz _ (at_mem g0 hlt)
      have z1 := textS_size (s := (at_ a y).1) (by omega)
      have z2 := textS_size (s := (at_ a y).2) (by omega)
      have hb : b.size ≤ 300 + p.size := by
        subst g2
        have := lblsS0_size (l := a.take y.toNat) (fun x hx => hz x (List.mem_of_mem_take hx))
        have e := num_small (n := a.length) (by omega)
        rw [List.length_take] at this
        rw [app_size,app_size]
        omega
      have et : ∀ (b s : ByteArray),putText (b,s) = b ++ textS s := fun b s => by unfold putText textS; rw [app_assoc]
      refine ⟨g0,hlt,⟨by simp only; omega,by simp only; omega⟩,⟨?_,by simp only; omega⟩,by omega,by omega,⟨by omega,by omega,?_⟩,by omega⟩
      · simp only [et,app_size]; omega
      · rw [show (y + 1).toNat = y.toNat + 1 from by omega,lblsS0_take (by omega),et,et,g2,at_getD]
        simp only [app_assoc]
    · rw [g2,List.take_of_length_le (by omega)]
      rfl

theorem putText_eq (b s : ByteArray) : putText (b,s) = b ++ textS s := by unfold putText textS; rw [app_assoc]

theorem f39.ok (a : ByteArray × TNode) (h : putNode_pre a) : f39.vc a := by
  obtain ⟨p,n⟩ := a
  obtain ⟨h0,h1⟩ := h
  simp only at h0 h1
  refine ⟨h1,fun c => ⟨by show p.size ≤ _; omega,?_⟩,fun c => ?_⟩
  · unfold putNode nodeS sameB
    simp only
    rw [if_neg c,app_empty]
  · have c : nodeB n = true := Classical.not_not.1 c
    obtain ⟨n1,n2,n3⟩ := nodeB_iff.1 c
    have a1 := name_size n1
    have a2 := textS_size (s := n.1) (by omega)
    have a3 := amtS_size n2
    refine ⟨⟨by simp only; omega,by simp only; omega⟩,⟨?_,n2⟩,⟨?_,n3⟩,?_⟩
    · simp only [putText_eq]; unfold S28; rw [app_size]; omega
    · simp only [putText_eq,putAmt]; unfold S27; rw [app_size,app_size]; omega
    · simp only [putText_eq,putAmt,putLbls,putNode,nodeS,nodeS0,c,if_true,app_assoc]

theorem f41.ok (a : ByteArray × TQueue) (h : putQueue_pre a) : f41.vc a := by
  obtain ⟨p,n⟩ := a
  obtain ⟨h0,h1⟩ := h
  simp only at h0 h1
  refine ⟨h1,fun c => ⟨by show p.size ≤ _; omega,?_⟩,fun c => ?_⟩
  · unfold putQueue queueS sameB
    simp only
    rw [if_neg c,app_empty]
  · have c : queueB n = true := Classical.not_not.1 c
    obtain ⟨n1,n2⟩ := queueB_iff.1 c
    have a1 := name_size n1
    have a2 := textS_size (s := n.1) (by omega)
    refine ⟨⟨by simp only; omega,by simp only; omega⟩,⟨?_,n2⟩,?_⟩
    · simp only [putText_eq]; unfold S28; rw [app_size]; omega
    · simp only [putText_eq,putAmt,putQueue,queueS,queueS0,c,if_true,app_assoc]

theorem f43.ok (a : ByteArray × TTask) (h : putTask_pre a) : f43.vc a := by
  obtain ⟨p,t⟩ := a
  obtain ⟨h0,h1⟩ := h
  simp only at h0 h1
  refine ⟨h1,fun c => ⟨by show p.size ≤ _; omega,?_⟩,fun c => ?_⟩
  · unfold putTask taskS sameB
    simp only
    rw [if_neg c,app_empty]
  · have c : taskB t = true := Classical.not_not.1 c
    obtain ⟨h1,h2,h3,h4,h5,h6,h7,h8⟩ := taskB_iff.1 c
    have a1 := name_size h1
    have a2 := name_size h2
    have a6 := maybe_size h6
    have a7 := maybe_size h7
    have b1 := textS_size (s := t.1) (by omega)
    have b2 := textS_size (s := t.2.1) (by omega)
    have b3 := num_small (n := t.2.2.1.toNat) (by omega)
    have b4 := amtS_size h4
    have b5 := lblsS_size h5
    have b6 := textS_size (s := t.2.2.2.2.2.1) (by omega)
    have b7 := textS_size (s := t.2.2.2.2.2.2.1) (by omega)
    have hn : 0 ≤ t.2.2.2.2.2.2.2 ∧ t.2.2.2.2.2.2.2 ≤ 4 := by rcases sizeB_iff.1 h8 with h | h <;> omega
    refine ⟨⟨by simp only; omega,by simp only; omega⟩,⟨?_,by simp only; omega⟩,h3.1,by simp only; omega,⟨?_,by simp only; unfold U64; omega⟩,⟨?_,h4⟩,⟨?_,h5⟩,⟨?_,by simp only; omega⟩,⟨?_,by simp only; omega⟩,hn.1,by simp only; omega,⟨?_,by simp only; unfold U64; omega⟩,?_⟩
    all_goals try (simp only [putText_eq,putAmt,putLbls,putB,S28,S27,app_size]; omega)
    simp only [putText_eq,putAmt,putLbls,putB,putTask,taskS,taskS0,c,if_true,app_assoc]

end Go.Abs
