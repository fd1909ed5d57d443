/- Functions, and what the code asks of them: PVictLaw. -/
import Derived.KernelRfl
import Derived.Test.YtabnaedcnfkmiadBbd9324c0
import Derived.Test.YtabnaedcnfkmiadB225f5658
import Derived.Test.YtabnaedcnfkmiadB6ae69969
import Derived.Test.YtabnaedcnfkmiadBff102aa7
import Derived.Test.YtabnaedcnfkmiadB9ddb1808
import Derived.Test.YtabnaedcnfkmiadB214306d5
import Derived.Test.YtabnaedcnfkmiadB2a5bb328
import Derived.Test.YtabnaedcnfkmiadB6e0c57cf
import Derived.Test.YtabnaedcnfkmiadBb3515cf1
import Derived.Test.YtabnaedcnfkmiadBe4f5f397
import Derived.Test.YtabnaedcnfkmiadBc82b9d7c
set_option linter.unusedVariables false
set_option linter.unusedSimpArgs false
-- interregnum/interregnumlaw13.awake
namespace Go.Abs
open Go
def f352.args (a : Unit) : List D := []
def f352.blks (a : Unit) : List (List D) := []
def f352.res (a : Unit) : List D := [.bool (lawTrue a)]
def f352.blks' (a : Unit) : List (List D) := []
def f352.C : Contract := FnC f352.args f352.blks (fun _ => True) f352.res f352.blks'
end Go.Abs

/- interregnum/interregnumlaw13.awake -/
namespace Go.Abs
open Go
set_option linter.unusedVariables false
def f352.s0 : ByteArray := ⟨#[110]⟩
def f352.s1 : ByteArray := ⟨#[97]⟩
def f352.s2 : ByteArray := ⟨#[113]⟩
def f352.s3 : ByteArray := ⟨#[116]⟩
def f352.kills (a : Unit) : List Hint := []
def f352.cuts (a : Unit) : List (Nat × Σ β : Type,β→Tm) := []
def f352.af (a : Unit) : AF := AF.mk (.seq (.region [⟨(some 0),0,.move,[.c (.bool false)],none⟩])
 (.seq (.region [⟨(some 5),1,(.build [.int .i64 (0),.int .i64 (0),.int .i64 (0)] [(0,1)]),[.c (.int .i64 (4))],none⟩,
 ⟨(some 6),2,(.build [.str ByteArray.empty,.int .i64 (0),.int .i64 (0),.int .i64 (0),.slice .full 2 0 gnil] [(0,1),(1,3)]),[.c (.str f352.s0),.t 5],none⟩,
 ⟨(some 7),3,(.build [.str ByteArray.empty,.int .i64 (0),.int .i64 (0),.int .i64 (0),.slice .full 2 0 gnil,.bool false,.int .i64 (0)] [(0,5),(5,1)]),[.t 6,.c (.bool true)],none⟩,
 oT 1 4 (.alloc [.str ByteArray.empty,.int .i64 (0),.int .i64 (0),.int .i64 (0),.slice (.own 0) 2 0 gnil,.bool false,.int .i64 (0)]) [],
 ⟨none,12,(.store 7),[.t 1,.t 7],none⟩])
 (.seq (.region [⟨(some 8),13,(.build [.int .i64 (0),.int .i64 (0),.int .i64 (0)] [(0,1)]),[.c (.int .i64 (4))],none⟩,
 ⟨(some 9),14,(.build [.str ByteArray.empty,.str ByteArray.empty,.int .i64 (0),.int .i64 (0),.int .i64 (0),.int .i64 (0),.slice .full 2 0 gnil,.str ByteArray.empty,.str ByteArray.empty,.int .i64 (0)] [(0,1),(1,1),(3,3)]),[.c (.str f352.s1),.c (.str f352.s2),.t 8],none⟩,
 ⟨(some 10),15,(.build [.str ByteArray.empty,.str ByteArray.empty,.int .i64 (0),.int .i64 (0),.int .i64 (0),.int .i64 (0),.slice .full 2 0 gnil,.str ByteArray.empty,.str ByteArray.empty,.int .i64 (0),.int .i64 (0),.str ByteArray.empty,.int .i64 (0)] [(0,10),(11,1)]),[.t 9,.c (.str f352.s0)],none⟩,
 oT 11 16 (.buildSlice 13 1 [.str ByteArray.empty,.str ByteArray.empty,.int .i64 (0),.int .i64 (0),.int .i64 (0),.int .i64 (0),.slice .full 2 0 gnil,.str ByteArray.empty,.str ByteArray.empty,.int .i64 (0),.int .i64 (0),.str ByteArray.empty,.int .i64 (0)] [(0,13)]) [10],
 oT 2 17 .move [11]])
 (.seq (.region [oT 13 18 (.load true 7) [1],
 oT 14 19 .move [2],
 ⟨(some 15),20,(.build [.int .i64 (0),.int .i64 (0),.int .i64 (0)] [(0,1)]),[.c (.int .i64 (1))],none⟩,
 ⟨(some 16),21,(.build [.str ByteArray.empty,.str ByteArray.empty,.int .i64 (0),.int .i64 (0),.int .i64 (0),.int .i64 (0),.slice .full 2 0 gnil,.str ByteArray.empty,.str ByteArray.empty,.int .i64 (0)] [(0,1),(1,1),(2,1),(3,3)]),[.c (.str f352.s3),.c (.str f352.s2),.c (.int .i64 (1)),.t 15],none⟩,
 oT 17 22 (.call false 355) [13,14,16],
 oT 12 26 .move [17],
 oT 18 27 (.extract 0) [12],
 oT 19 28 (.extract 1) [12],
 oT 3 29 .move [18],
 oT 4 30 .move [19]])
 (.seq (.region [oT 20 31 .move [4],
 oT 21 32 .move [20],
 oG 22 33 .move [3] 21 true,
 oG 23 34 (.len false) [22] 21 true,
 ⟨(some 24),35,(.bin .eql),[.t 23,.c (.int .i64 (1))],(some (21,true))⟩,
 ⟨(some 25),36,.pick,[.t 21,.t 24,.c (.bool false)],none⟩,
 oT 26 37 .move [25],
 oG 27 38 .move [3] 26 true,
 ⟨(some 28),39,(.indexAddr 1 none),[.t 27,.c (.int .i64 (0))],(some (26,true))⟩,
 oG 29 40 (.load false 1) [28] 26 true,
 ⟨(some 30),41,(.bin .eql),[.t 29,.c (.str f352.s1)],(some (26,true))⟩,
 ⟨(some 31),42,.pick,[.t 26,.t 30,.c (.bool false)],none⟩,
 oT 0 43 .move [31]])
 (.ret))))))
 [.tmp 0] 0 32
def f352.env : Env := [(355,f355.C)]
def f352.tree (a : Unit) : Prop := ∃ c1 : T_api_Machine × (List (T_api_Job)) × T_api_Task,(f352.s0 = c1.1.1.1)∧((4 : Int) = c1.1.1.2.1.1)∧((0 : Int) = c1.1.1.2.1.2.1)∧((0 : Int) = c1.1.1.2.1.2.2)∧SlQ 0 c1.1.1.2.2.length gnil (gl e_api_Label c1.1.1.2.2) ((true = c1.1.2.1)∧((0 : Int) = c1.1.2.2)∧SlQ 1 c1.2.1.length (fun _ => [.str f352.s1,.str f352.s2,.int .i64 (0 : Int),.int .i64 (4 : Int),.int .i64 (0 : Int),.int .i64 (0 : Int),.slice .ro 2 0 gnil,.str ByteArray.empty,.str ByteArray.empty,.int .i64 (0 : Int),.int .i64 (0 : Int),.str f352.s0,.int .i64 (0 : Int)]) (gl e_api_Job c1.2.1) ((f352.s3 = c1.2.2.1)∧(f352.s2 = c1.2.2.2.1)∧((1 : Int) = c1.2.2.2.2.1)∧((1 : Int) = c1.2.2.2.2.2.1.1)∧((0 : Int) = c1.2.2.2.2.2.1.2.1)∧((0 : Int) = c1.2.2.2.2.2.1.2.2)∧SlQ 0 c1.2.2.2.2.2.2.1.length gnil (gl e_api_Label c1.2.2.2.2.2.2.1) ((ByteArray.empty = c1.2.2.2.2.2.2.2.1)∧(ByteArray.empty = c1.2.2.2.2.2.2.2.2.1)∧((0 : Int) = c1.2.2.2.2.2.2.2.2.2)∧(why_pre c1)∧Br ((planV c1).2) (Br ((((planV c1).1).length : Int) == (1 : Int)) (Br (decide ((0 : Int)≤(0 : Int)) && decide ((0 : Int) < (((planV c1).1).length : Int))) ((((at_ ((planV c1).1) (0 : Int)).toList == f352.s1.toList) = (lawTrue a))∧True) False) ((false = (lawTrue a))∧True)) ((false = (lawTrue a))∧True))))
def f352.vc (a : Unit) : Prop := (why_pre (((f352.s0,((4 : Int),(0 : Int),(0 : Int)),[]),true,(0 : Int)),[((f352.s1,f352.s2,(0 : Int),((4 : Int),(0 : Int),(0 : Int)),[],ByteArray.empty,ByteArray.empty,(0 : Int)),(0 : Int),f352.s0,(0 : Int))],(f352.s3,f352.s2,(1 : Int),((1 : Int),(0 : Int),(0 : Int)),[],ByteArray.empty,ByteArray.empty,(0 : Int)))∧((((planV (((f352.s0,((4 : Int),(0 : Int),(0 : Int)),[]),true,(0 : Int)),[((f352.s1,f352.s2,(0 : Int),((4 : Int),(0 : Int),(0 : Int)),[],ByteArray.empty,ByteArray.empty,(0 : Int)),(0 : Int),f352.s0,(0 : Int))],(f352.s3,f352.s2,(1 : Int),((1 : Int),(0 : Int),(0 : Int)),[],ByteArray.empty,ByteArray.empty,(0 : Int)))).2) = true→(((((planV (((f352.s0,((4 : Int),(0 : Int),(0 : Int)),[]),true,(0 : Int)),[((f352.s1,f352.s2,(0 : Int),((4 : Int),(0 : Int),(0 : Int)),[],ByteArray.empty,ByteArray.empty,(0 : Int)),(0 : Int),f352.s0,(0 : Int))],(f352.s3,f352.s2,(1 : Int),((1 : Int),(0 : Int),(0 : Int)),[],ByteArray.empty,ByteArray.empty,(0 : Int)))).1).length : Int) = (1 : Int)→((0 : Int) < (((planV (((f352.s0,((4 : Int),(0 : Int),(0 : Int)),[]),true,(0 : Int)),[((f352.s1,f352.s2,(0 : Int),((4 : Int),(0 : Int),(0 : Int)),[],ByteArray.empty,ByteArray.empty,(0 : Int)),(0 : Int),f352.s0,(0 : Int))],(f352.s3,f352.s2,(1 : Int),((1 : Int),(0 : Int),(0 : Int)),[],ByteArray.empty,ByteArray.empty,(0 : Int)))).1).length : Int)∧(((at_ ((planV (((f352.s0,((4 : Int),(0 : Int),(0 : Int)),[]),true,(0 : Int)),[((f352.s1,f352.s2,(0 : Int),((4 : Int),(0 : Int),(0 : Int)),[],ByteArray.empty,ByteArray.empty,(0 : Int)),(0 : Int),f352.s0,(0 : Int))],(f352.s3,f352.s2,(1 : Int),((1 : Int),(0 : Int),(0 : Int)),[],ByteArray.empty,ByteArray.empty,(0 : Int)))).1) (0 : Int)).toList == f352.s1.toList) = lawTrue a)))∧(¬ ((((planV (((f352.s0,((4 : Int),(0 : Int),(0 : Int)),[]),true,(0 : Int)),[((f352.s1,f352.s2,(0 : Int),((4 : Int),(0 : Int),(0 : Int)),[],ByteArray.empty,ByteArray.empty,(0 : Int)),(0 : Int),f352.s0,(0 : Int))],(f352.s3,f352.s2,(1 : Int),((1 : Int),(0 : Int),(0 : Int)),[],ByteArray.empty,ByteArray.empty,(0 : Int)))).1).length : Int) = (1 : Int))→(false = lawTrue a))))∧(¬ (((planV (((f352.s0,((4 : Int),(0 : Int),(0 : Int)),[]),true,(0 : Int)),[((f352.s1,f352.s2,(0 : Int),((4 : Int),(0 : Int),(0 : Int)),[],ByteArray.empty,ByteArray.empty,(0 : Int)),(0 : Int),f352.s0,(0 : Int))],(f352.s3,f352.s2,(1 : Int),((1 : Int),(0 : Int),(0 : Int)),[],ByteArray.empty,ByteArray.empty,(0 : Int)))).2) = true)→(false = lawTrue a))))
set_option maxRecDepth 100000 in
set_option maxHeartbeats 2000000 in
theorem f352.of (a : Unit) (h : f352.vc a) : f352.tree a := ⟨(((f352.s0,((4 : Int),(0 : Int),(0 : Int)),[]),true,(0 : Int)),[((f352.s1,f352.s2,(0 : Int),((4 : Int),(0 : Int),(0 : Int)),[],ByteArray.empty,ByteArray.empty,(0 : Int)),(0 : Int),f352.s0,(0 : Int))],(f352.s3,f352.s2,(1 : Int),((1 : Int),(0 : Int),(0 : Int)),[],ByteArray.empty,ByteArray.empty,(0 : Int))),⟨rfl,⟨rfl,⟨rfl,⟨rfl,slQ (Rds.nil (enc := e_api_Label)) (⟨rfl,⟨rfl,slQ (Rds.one (enc := e_api_Job) (DEqs.cons (DEq.refl _) (DEqs.cons (DEq.refl _) (DEqs.cons (DEq.refl _) (DEqs.cons (DEq.refl _) (DEqs.cons (DEq.refl _) (DEqs.cons (DEq.refl _) (DEqs.cons ((Rds.nil (enc := e_api_Label))).deq (DEqs.cons (DEq.refl _) (DEqs.cons (DEq.refl _) (DEqs.cons (DEq.refl _) (DEqs.cons (DEq.refl _) (DEqs.cons (DEq.refl _) (DEqs.cons (DEq.refl _) DEqs.nil)))))))))))))) (⟨rfl,⟨rfl,⟨rfl,⟨rfl,⟨rfl,⟨rfl,slQ (Rds.nil (enc := e_api_Label)) (⟨rfl,⟨rfl,⟨rfl,⟨h.1,br h.2 Cnd.b (fun h2 k13 => br k13 Cnd.eq (fun h4 k10 => chk k10.2 Cnd.ix ⟨(by decide),k10.1⟩ (fun h6 k8 => ⟨k8,trivial⟩)) (fun h5 k11 => ⟨k11,trivial⟩)) (fun h3 k14 => ⟨k14,trivial⟩)⟩⟩⟩⟩)⟩⟩⟩⟩⟩⟩)⟩⟩)⟩⟩⟩⟩⟩
theorem f352.eq (a : Unit) : (f352.af a).gives f352.env (f352.args a) (f352.blks a) (f352.res a) (f352.blks' a) = f352.tree a := by kernel_rfl
end Go.Abs

-- interregnum/interregnumlaw13.VictimRoom
namespace Go.Abs
open Go
def f340.wf (a : T_api_Machine × (List (T_api_Job)) × T_api_Task) : Prop := k_api_Machine.ok a.1∧k_sl_api_Job.ok a.2.1∧k_api_Task.ok a.2.2
def f340.size (a : T_api_Machine × (List (T_api_Job)) × T_api_Task) : Nat := k_api_Machine.size a.1 + (k_sl_api_Job.size a.2.1 + (k_api_Task.size a.2.2))
def f340.lpre (a : T_api_Machine × (List (T_api_Job)) × T_api_Task) : Prop := f340.wf a∧f340.size a≤1048576
def f340.args (a : T_api_Machine × (List (T_api_Job)) × T_api_Task) : List D := [.agg [.str a.1.1.1,.int .i64 a.1.1.2.1.1,.int .i64 a.1.1.2.1.2.1,.int .i64 a.1.1.2.1.2.2,.slice .ro 2 a.1.1.2.2.length (gl e_api_Label a.1.1.2.2),.bool a.1.2.1,.int .i64 a.1.2.2],.slice .ro 13 a.2.1.length (gl e_api_Job a.2.1),.agg [.str a.2.2.1,.str a.2.2.2.1,.int .i64 a.2.2.2.2.1,.int .i64 a.2.2.2.2.2.1.1,.int .i64 a.2.2.2.2.2.1.2.1,.int .i64 a.2.2.2.2.2.1.2.2,.slice .ro 2 a.2.2.2.2.2.2.1.length (gl e_api_Label a.2.2.2.2.2.2.1),.str a.2.2.2.2.2.2.2.1,.str a.2.2.2.2.2.2.2.2.1,.int .i64 a.2.2.2.2.2.2.2.2.2]]
def f340.blks (a : T_api_Machine × (List (T_api_Job)) × T_api_Task) : List (List D) := []
def f340.res (a : T_api_Machine × (List (T_api_Job)) × T_api_Task) : List D := [.bool (lawTrue a)]
def f340.blks' (a : T_api_Machine × (List (T_api_Job)) × T_api_Task) : List (List D) := []
def f340.C : Contract := FnC f340.args f340.blks (fun a => f340.lpre a) f340.res f340.blks'
end Go.Abs

/- interregnum/interregnumlaw13.VictimRoom -/
namespace Go.Abs
open Go
set_option linter.unusedVariables false
def f340.S0 (a : T_api_Machine × (List (T_api_Job)) × T_api_Task) (x : (List (ByteArray)) × Int × Int) : Tm := ⟨[.dead,.slice .ro 13 a.2.1.length (gl e_api_Job a.2.1),.dead,.ptr 0 0,.dead,.ptr 1 0,.dead,.slice .ro 1 x.1.length (gl e_str x.1),.dead,.dead,.dead,.dead,.dead,.dead,.dead,.dead,.dead,.dead,.dead,.dead,.dead,.dead,.dead,.dead,.dead,.dead,.dead,.dead,.dead,.dead,.dead,.dead,.dead,.dead,.dead,.dead,.dead,.dead,.dead,.dead,.dead,.dead,.dead,.dead,.dead,.dead,.dead,.dead,.dead,.dead,.dead,.dead,.dead,.dead,.dead,.dead,.dead,.dead,.dead,.dead,.dead,.dead,.dead,.dead,.dead,.dead,.dead,.dead,.dead,.dead,.dead,.int .i64 x.2.1,.int .i64 x.2.2,.dead,.dead,.dead,.dead,.dead,.dead,.dead,.dead,.dead,.dead,.dead,.dead,.dead,.dead,.dead,.dead,.dead,.dead,.dead,.dead,.dead,.dead,.dead,.dead,.dead,.dead,.dead,.dead,.dead,.dead,.dead,.dead,.dead,.dead,.dead,.dead,.dead,.dead,.dead,.dead,.dead,.dead,.dead,.dead,.dead,.dead,.dead],[(0,false,[.str a.1.1.1,.int .i64 a.1.1.2.1.1,.int .i64 a.1.1.2.1.2.1,.int .i64 a.1.1.2.1.2.2,.slice .ro 2 a.1.1.2.2.length (gl e_api_Label a.1.1.2.2),.bool a.1.2.1,.int .i64 a.1.2.2]),(1,false,[.str a.2.2.1,.str a.2.2.2.1,.int .i64 a.2.2.2.2.1,.int .i64 a.2.2.2.2.2.1.1,.int .i64 a.2.2.2.2.2.1.2.1,.int .i64 a.2.2.2.2.2.1.2.2,.slice .ro 2 a.2.2.2.2.2.2.1.length (gl e_api_Label a.2.2.2.2.2.2.1),.str a.2.2.2.2.2.2.2.1,.str a.2.2.2.2.2.2.2.2.1,.int .i64 a.2.2.2.2.2.2.2.2.2])],[]⟩
def f340.S1 (a : T_api_Machine × (List (T_api_Job)) × T_api_Task) (x : (List (ByteArray)) × Int × Bool × Int × Int × Int) : Tm := ⟨[.dead,.slice .ro 13 a.2.1.length (gl e_api_Job a.2.1),.dead,.ptr 0 0,.dead,.ptr 1 0,.dead,.slice .ro 1 x.1.length (gl e_str x.1),.dead,.int .i64 x.2.1,.bool x.2.2.1,.dead,.dead,.dead,.dead,.dead,.dead,.dead,.dead,.dead,.dead,.dead,.dead,.dead,.dead,.dead,.dead,.dead,.dead,.dead,.dead,.dead,.dead,.dead,.dead,.dead,.dead,.dead,.dead,.dead,.dead,.dead,.dead,.dead,.dead,.dead,.dead,.dead,.dead,.dead,.dead,.dead,.dead,.dead,.dead,.dead,.dead,.dead,.dead,.dead,.dead,.dead,.dead,.dead,.dead,.dead,.dead,.dead,.dead,.dead,.dead,.int .i64 x.2.2.2.1,.int .i64 x.2.2.2.2.1,.dead,.dead,.dead,.int .i64 (a.2.1.length : Int),.int .i64 x.2.2.2.2.2,.dead,.dead,.dead,.dead,.dead,.dead,.dead,.dead,.dead,.dead,.dead,.dead,.dead,.dead,.dead,.dead,.dead,.dead,.dead,.dead,.dead,.dead,.dead,.dead,.dead,.dead,.dead,.dead,.dead,.dead,.dead,.dead,.dead,.dead,.dead,.dead,.dead,.dead,.dead,.dead,.dead,.dead],[(0,false,[.str a.1.1.1,.int .i64 a.1.1.2.1.1,.int .i64 a.1.1.2.1.2.1,.int .i64 a.1.1.2.1.2.2,.slice .ro 2 a.1.1.2.2.length (gl e_api_Label a.1.1.2.2),.bool a.1.2.1,.int .i64 a.1.2.2]),(1,false,[.str a.2.2.1,.str a.2.2.2.1,.int .i64 a.2.2.2.2.1,.int .i64 a.2.2.2.2.2.1.1,.int .i64 a.2.2.2.2.2.1.2.1,.int .i64 a.2.2.2.2.2.1.2.2,.slice .ro 2 a.2.2.2.2.2.2.1.length (gl e_api_Label a.2.2.2.2.2.2.1),.str a.2.2.2.2.2.2.2.1,.str a.2.2.2.2.2.2.2.2.1,.int .i64 a.2.2.2.2.2.2.2.2.2])],[]⟩
def f340.kills (a : T_api_Machine × (List (T_api_Job)) × T_api_Task) : List Hint := [.tell ((List (ByteArray)) × Int × Int) (f340.S0 a),
 .tell ((List (ByteArray)) × Int × Bool × Int × Int × Int) (f340.S1 a)]
def f340.cuts (a : T_api_Machine × (List (T_api_Job)) × T_api_Task) : List (Nat × Σ β : Type,β→Tm) := []
def f340.af (a : T_api_Machine × (List (T_api_Job)) × T_api_Task) : AF := AF.mk (.seq (.region [oT 3 0 .box [0],
 oT 5 1 .box [2],
 ⟨(some 6),2,.move,[.c (.bool false)],none⟩])
 (.seq (.seq (.region [oT 12 3 (.call false 352) [],
 oT 13 7 (.un .not) [12],
 oT 14 8 .move [13],
 oG 15 9 (.load true 7) [3] 14 false,
 oG 16 10 (.buildSlice 7 1 [.str ByteArray.empty,.int .i64 (0),.int .i64 (0),.int .i64 (0),.slice .full 2 0 gnil,.bool false,.int .i64 (0)] [(0,7)]) [15] 14 false,
 oG 17 11 .move [1] 14 false,
 oG 18 12 (.load true 10) [5] 14 false,
 oG 19 13 (.call false 353) [16,17,18] 14 false,
 oG 20 17 (.un .not) [19] 14 false,
 ⟨(some 21),18,.pick,[.t 14,.c (.bool true),.t 20],none⟩,
 oT 22 19 .move [21],
 oG 23 20 .move [1] 22 false,
 oG 24 21 (.call false 354) [23] 22 false,
 oG 25 25 (.un .not) [24] 22 false,
 ⟨(some 26),26,.pick,[.t 22,.c (.bool true),.t 25],none⟩])
 (.cond (.t 26) (.seq (.region [oT 27 27 (.call false 352) [],
 oT 6 31 .move [27]])
 (.ret)) (.skip)))
 (.seq (.region [oT 29 32 (.load true 7) [3],
 oT 30 33 .move [1],
 oT 31 34 (.load true 10) [5],
 oT 32 35 (.call false 355) [29,30,31],
 oT 28 39 .move [32],
 oT 33 40 (.extract 0) [28],
 oT 34 41 (.extract 1) [28],
 oT 7 42 .move [33],
 oT 8 43 .move [34]])
 (.seq (.seq (.region [oT 35 44 .move [8],
 oT 36 45 (.un .not) [35]])
 (.cond (.t 36) (.seq (.region [oT 37 46 .move [7],
 oT 38 47 (.len false) [37],
 ⟨(some 39),48,(.bin .eql),[.t 38,.c (.int .i64 (0))],none⟩,
 oT 40 49 .move [39],
 oG 41 50 (.load true 7) [3] 40 true,
 oG 42 51 .move [1] 40 true,
 oG 43 52 (.load true 10) [5] 40 true,
 oG 44 53 (.call false 111) [41,42,43] 40 true,
 ⟨(some 45),57,(.bin .neq),[.t 44,.c (.int .i64 (0))],(some (40,true))⟩,
 ⟨(some 46),58,.pick,[.t 40,.t 45,.c (.bool false)],none⟩,
 oT 6 59 .move [46]])
 (.ret)) (.skip)))
 (.seq (.seq (.region [oT 47 60 (.load true 7) [3],
 oT 48 61 .move [1],
 oT 49 62 .move [7],
 oT 50 63 (.call false 356) [48,49],
 oT 51 67 (.load true 10) [5],
 oT 52 68 (.call false 111) [47,50,51],
 ⟨(some 53),72,(.bin .neq),[.t 52,.c (.int .i64 (0))],none⟩])
 (.cond (.t 53) (.seq (.region [⟨(some 6),73,.move,[.c (.bool false)],none⟩])
 (.ret)) (.skip)))
 (.seq (.seq (.region [oT 54 74 .move [7],
 oT 55 75 (.len false) [54],
 ⟨(some 56),76,(.bin .gtr),[.t 55,.c (.int .i64 (0))],none⟩,
 oT 57 77 .move [56],
 oG 58 78 (.load true 7) [3] 57 true,
 oG 59 79 .move [1] 57 true,
 oG 60 80 .move [7] 57 true,
 oG 61 81 .move [7] 57 true,
 oG 62 82 (.len false) [61] 57 true,
 ⟨(some 63),83,(.bin .sub),[.t 62,.c (.int .i64 (1))],(some (57,true))⟩,
 oG 64 84 (.sliceSl 1 false true false) [60,63] 57 true,
 oG 65 85 (.call false 356) [59,64] 57 true,
 oG 66 89 (.load true 10) [5] 57 true,
 oG 67 90 (.call false 111) [58,65,66] 57 true,
 ⟨(some 68),94,(.bin .neq),[.t 67,.c (.int .i64 (4))],(some (57,true))⟩,
 ⟨(some 69),95,.pick,[.t 57,.t 68,.c (.bool false)],none⟩])
 (.cond (.t 69) (.seq (.region [⟨(some 6),96,.move,[.c (.bool false)],none⟩])
 (.ret)) (.skip)))
 (.seq (.seq (.region [oT 70 97 .move [7],
 oT 71 98 (.len false) [70],
 ⟨(some 72),99,.move,[.c (.int .i64 (0))],none⟩])
 (.block 0 (.loopT ((List (ByteArray)) × Int × Int) (f340.S0 a) 100 154 (.seq (.region [oT 73 100 (.bin .lss) [72,71]])
 (.seq (.cond (.t 73) (.skip) (.exit 0))
 (.seq (.block 1 (.seq (.region [oT 74 101 .move [72],
 oT 9 102 .move [74]])
 (.seq (.region [⟨(some 10),103,.move,[.c (.bool false)],none⟩])
 (.seq (.seq (.region [oT 75 104 .move [1],
 oT 76 105 (.len false) [75],
 ⟨(some 77),106,.move,[.c (.int .i64 (0))],none⟩])
 (.block 2 (.loopT ((List (ByteArray)) × Int × Bool × Int × Int × Int) (f340.S1 a) 107 149 (.seq (.region [oT 78 107 (.bin .lss) [77,76]])
 (.seq (.cond (.t 78) (.skip) (.exit 2))
 (.seq (.block 3 (.seq (.region [oT 79 108 .move [77],
 oT 11 109 .move [79]])
 (.region [oT 80 110 .move [10],
 oT 81 111 .move [80],
 oG 82 112 .move [1] 81 false,
 oG 83 113 .move [11] 81 false,
 oG 84 114 (.indexAddr 13 none) [82,83] 81 false,
 oG 85 115 (.fieldAddr 0) [84] 81 false,
 oG 86 116 (.fieldAddr 0) [85] 81 false,
 oG 87 117 (.load false 1) [86] 81 false,
 oG 88 118 .move [7] 81 false,
 oG 89 119 .move [9] 81 false,
 oG 90 120 (.indexAddr 1 none) [88,89] 81 false,
 oG 91 121 (.load false 1) [90] 81 false,
 oG 92 122 (.bin .eql) [87,91] 81 false,
 oG 93 123 .move [92] 81 false,
 oG 94 124 .move [1] 93 true,
 oG 95 125 .move [11] 93 true,
 oG 96 126 (.indexAddr 13 none) [94,95] 93 true,
 oG 97 127 (.fieldAddr 11) [96] 93 true,
 oG 98 128 (.load false 1) [97] 93 true,
 oG 99 129 (.fieldAddr 0) [3] 93 true,
 oG 100 130 (.fieldAddr 0) [99] 93 true,
 oG 101 131 (.load false 1) [100] 93 true,
 oG 102 132 (.bin .eql) [98,101] 93 true,
 ⟨(some 103),133,.pick,[.t 93,.t 102,.c (.bool false)],(some (81,false))⟩,
 oG 104 134 .move [103] 81 false,
 oG 105 135 .move [1] 104 true,
 oG 106 136 .move [11] 104 true,
 oG 107 137 (.indexAddr 13 none) [105,106] 104 true,
 oG 108 138 (.fieldAddr 0) [107] 104 true,
 oG 109 139 (.fieldAddr 2) [108] 104 true,
 oG 110 140 (.load false 1) [109] 104 true,
 oG 111 141 (.fieldAddr 2) [5] 104 true,
 oG 112 142 (.load false 1) [111] 104 true,
 oG 113 143 (.bin .lss) [110,112] 104 true,
 ⟨(some 114),144,.pick,[.t 104,.t 113,.c (.bool false)],(some (81,false))⟩,
 ⟨(some 115),145,.pick,[.t 81,.c (.bool true),.t 114],none⟩,
 oT 10 146 .move [115]])))
 (.region [⟨(some 116),147,(.bin .add),[.t 77,.c (.int .i64 (1))],none⟩,
 oT 77 148 .move [116]])))))))
 (.seq (.region [oT 117 149 .move [10],
 oT 118 150 (.un .not) [117]])
 (.cond (.t 118) (.seq (.region [⟨(some 6),151,.move,[.c (.bool false)],none⟩])
 (.ret)) (.skip)))))))
 (.region [⟨(some 119),152,(.bin .add),[.t 72,.c (.int .i64 (1))],none⟩,
 oT 72 153 .move [119]])))))))
 (.seq (.region [⟨(some 6),154,.move,[.c (.bool true)],none⟩])
 (.ret)))))))))
 [.tmp 6] 0 117
def f340.env : Env := [(352,f352.C),(353,f353.C),(354,f354.C),(355,f355.C),(111,f111.C),(356,f356.C)]
def f340.tree (a : T_api_Machine × (List (T_api_Job)) × T_api_Task) : Prop := ∃ c1 : Unit,True∧Br (!(lawTrue c1)) (∃ c4 : Unit,True∧((lawTrue c4) = (lawTrue a))∧True) (∃ c7 : (List (T_api_Machine)) × (List (T_api_Job)) × T_api_Task,SlQ 1 c7.1.length (fun _ => [.str a.1.1.1,.int .i64 a.1.1.2.1.1,.int .i64 a.1.1.2.1.2.1,.int .i64 a.1.1.2.1.2.2,.slice .ro 2 a.1.1.2.2.length (gl e_api_Label a.1.1.2.2),.bool a.1.2.1,.int .i64 a.1.2.2]) (gl e_api_Machine c7.1) (SlQ a.2.1.length c7.2.1.length (gl e_api_Job a.2.1) (gl e_api_Job c7.2.1) ((a.2.2.1 = c7.2.2.1)∧(a.2.2.2.1 = c7.2.2.2.1)∧(a.2.2.2.2.1 = c7.2.2.2.2.1)∧(a.2.2.2.2.2.1.1 = c7.2.2.2.2.2.1.1)∧(a.2.2.2.2.2.1.2.1 = c7.2.2.2.2.2.1.2.1)∧(a.2.2.2.2.2.1.2.2 = c7.2.2.2.2.2.1.2.2)∧SlQ a.2.2.2.2.2.2.1.length c7.2.2.2.2.2.2.1.length (gl e_api_Label a.2.2.2.2.2.2.1) (gl e_api_Label c7.2.2.2.2.2.2.1) ((a.2.2.2.2.2.2.2.1 = c7.2.2.2.2.2.2.2.1)∧(a.2.2.2.2.2.2.2.2.1 = c7.2.2.2.2.2.2.2.2.1)∧(a.2.2.2.2.2.2.2.2.2 = c7.2.2.2.2.2.2.2.2.2)∧(few13_pre c7)∧Br (!(few13 c7)) (∃ c10 : Unit,True∧((lawTrue c10) = (lawTrue a))∧True) (∃ c13 : List (T_api_Job),SlQ a.2.1.length c13.length (gl e_api_Job a.2.1) (gl e_api_Job c13) ((names_pre c13)∧Br (!(unlikeV c13)) (∃ c16 : Unit,True∧((lawTrue c16) = (lawTrue a))∧True) (∃ c19 : T_api_Machine × (List (T_api_Job)) × T_api_Task,(a.1.1.1 = c19.1.1.1)∧(a.1.1.2.1.1 = c19.1.1.2.1.1)∧(a.1.1.2.1.2.1 = c19.1.1.2.1.2.1)∧(a.1.1.2.1.2.2 = c19.1.1.2.1.2.2)∧SlQ a.1.1.2.2.length c19.1.1.2.2.length (gl e_api_Label a.1.1.2.2) (gl e_api_Label c19.1.1.2.2) ((a.1.2.1 = c19.1.2.1)∧(a.1.2.2 = c19.1.2.2)∧SlQ a.2.1.length c19.2.1.length (gl e_api_Job a.2.1) (gl e_api_Job c19.2.1) ((a.2.2.1 = c19.2.2.1)∧(a.2.2.2.1 = c19.2.2.2.1)∧(a.2.2.2.2.1 = c19.2.2.2.2.1)∧(a.2.2.2.2.2.1.1 = c19.2.2.2.2.2.1.1)∧(a.2.2.2.2.2.1.2.1 = c19.2.2.2.2.2.1.2.1)∧(a.2.2.2.2.2.1.2.2 = c19.2.2.2.2.2.1.2.2)∧SlQ a.2.2.2.2.2.2.1.length c19.2.2.2.2.2.2.1.length (gl e_api_Label a.2.2.2.2.2.2.1) (gl e_api_Label c19.2.2.2.2.2.2.1) ((a.2.2.2.2.2.2.2.1 = c19.2.2.2.2.2.2.2.1)∧(a.2.2.2.2.2.2.2.2.1 = c19.2.2.2.2.2.2.2.2.1)∧(a.2.2.2.2.2.2.2.2.2 = c19.2.2.2.2.2.2.2.2.2)∧(why_pre c19)∧Br (!((planV c19).2)) (Br ((((planV c19).1).length : Int) == (0 : Int)) (∃ c24 : T_api_Machine × (List (T_api_Job)) × T_api_Task,(a.1.1.1 = c24.1.1.1)∧(a.1.1.2.1.1 = c24.1.1.2.1.1)∧(a.1.1.2.1.2.1 = c24.1.1.2.1.2.1)∧(a.1.1.2.1.2.2 = c24.1.1.2.1.2.2)∧SlQ a.1.1.2.2.length c24.1.1.2.2.length (gl e_api_Label a.1.1.2.2) (gl e_api_Label c24.1.1.2.2) ((a.1.2.1 = c24.1.2.1)∧(a.1.2.2 = c24.1.2.2)∧SlQ a.2.1.length c24.2.1.length (gl e_api_Job a.2.1) (gl e_api_Job c24.2.1) ((a.2.2.1 = c24.2.2.1)∧(a.2.2.2.1 = c24.2.2.2.1)∧(a.2.2.2.2.1 = c24.2.2.2.2.1)∧(a.2.2.2.2.2.1.1 = c24.2.2.2.2.2.1.1)∧(a.2.2.2.2.2.1.2.1 = c24.2.2.2.2.2.1.2.1)∧(a.2.2.2.2.2.1.2.2 = c24.2.2.2.2.2.1.2.2)∧SlQ a.2.2.2.2.2.2.1.length c24.2.2.2.2.2.2.1.length (gl e_api_Label a.2.2.2.2.2.2.1) (gl e_api_Label c24.2.2.2.2.2.2.1) ((a.2.2.2.2.2.2.2.1 = c24.2.2.2.2.2.2.2.1)∧(a.2.2.2.2.2.2.2.2.1 = c24.2.2.2.2.2.2.2.2.1)∧(a.2.2.2.2.2.2.2.2.2 = c24.2.2.2.2.2.2.2.2.2)∧(why_pre c24)∧(((whyR c24) != (0 : Int)) = (lawTrue a))∧True)))) ((false = (lawTrue a))∧True)) (∃ c30 : (List (T_api_Job)) × (List (ByteArray)),SlQ a.2.1.length c30.1.length (gl e_api_Job a.2.1) (gl e_api_Job c30.1) (SlQ (((planV c19).1).length) c30.2.length (gl e_str ((planV c19).1)) (gl e_str c30.2) ((without_pre c30)∧∃ c31 : T_api_Machine × (List (T_api_Job)) × T_api_Task,(a.1.1.1 = c31.1.1.1)∧(a.1.1.2.1.1 = c31.1.1.2.1.1)∧(a.1.1.2.1.2.1 = c31.1.1.2.1.2.1)∧(a.1.1.2.1.2.2 = c31.1.1.2.1.2.2)∧SlQ a.1.1.2.2.length c31.1.1.2.2.length (gl e_api_Label a.1.1.2.2) (gl e_api_Label c31.1.1.2.2) ((a.1.2.1 = c31.1.2.1)∧(a.1.2.2 = c31.1.2.2)∧SlQ ((withoutV c30).length) c31.2.1.length (gl e_api_Job (withoutV c30)) (gl e_api_Job c31.2.1) ((a.2.2.1 = c31.2.2.1)∧(a.2.2.2.1 = c31.2.2.2.1)∧(a.2.2.2.2.1 = c31.2.2.2.2.1)∧(a.2.2.2.2.2.1.1 = c31.2.2.2.2.2.1.1)∧(a.2.2.2.2.2.1.2.1 = c31.2.2.2.2.2.1.2.1)∧(a.2.2.2.2.2.1.2.2 = c31.2.2.2.2.2.1.2.2)∧SlQ a.2.2.2.2.2.2.1.length c31.2.2.2.2.2.2.1.length (gl e_api_Label a.2.2.2.2.2.2.1) (gl e_api_Label c31.2.2.2.2.2.2.1) ((a.2.2.2.2.2.2.2.1 = c31.2.2.2.2.2.2.2.1)∧(a.2.2.2.2.2.2.2.2.1 = c31.2.2.2.2.2.2.2.2.1)∧(a.2.2.2.2.2.2.2.2.2 = c31.2.2.2.2.2.2.2.2.2)∧(why_pre c31)∧Br ((whyR c31) != (0 : Int)) ((false = (lawTrue a))∧True) (Br (decide ((0 : Int) < (((planV c19).1).length : Int))) (Let (IntKind.i64.wrap ((((planV c19).1).length : Int) - (1 : Int))) (fun v37 : Int => Br (decide ((0 : Int)≤(0 : Int)) && decide ((0 : Int)≤v37) && decide (v37≤(((planV c19).1).length : Int)) && (v37 == v37)) (∃ c39 : (List (T_api_Job)) × (List (ByteArray)),SlQ a.2.1.length c39.1.length (gl e_api_Job a.2.1) (gl e_api_Job c39.1) (SlQ (Int.toNat (v37 - (0 : Int))) c39.2.length (gsub (gl e_str ((planV c19).1)) 0) (gl e_str c39.2) ((without_pre c39)∧∃ c40 : T_api_Machine × (List (T_api_Job)) × T_api_Task,(a.1.1.1 = c40.1.1.1)∧(a.1.1.2.1.1 = c40.1.1.2.1.1)∧(a.1.1.2.1.2.1 = c40.1.1.2.1.2.1)∧(a.1.1.2.1.2.2 = c40.1.1.2.1.2.2)∧SlQ a.1.1.2.2.length c40.1.1.2.2.length (gl e_api_Label a.1.1.2.2) (gl e_api_Label c40.1.1.2.2) ((a.1.2.1 = c40.1.2.1)∧(a.1.2.2 = c40.1.2.2)∧SlQ ((withoutV c39).length) c40.2.1.length (gl e_api_Job (withoutV c39)) (gl e_api_Job c40.2.1) ((a.2.2.1 = c40.2.2.1)∧(a.2.2.2.1 = c40.2.2.2.1)∧(a.2.2.2.2.1 = c40.2.2.2.2.1)∧(a.2.2.2.2.2.1.1 = c40.2.2.2.2.2.1.1)∧(a.2.2.2.2.2.1.2.1 = c40.2.2.2.2.2.1.2.1)∧(a.2.2.2.2.2.1.2.2 = c40.2.2.2.2.2.1.2.2)∧SlQ a.2.2.2.2.2.2.1.length c40.2.2.2.2.2.2.1.length (gl e_api_Label a.2.2.2.2.2.2.1) (gl e_api_Label c40.2.2.2.2.2.2.1) ((a.2.2.2.2.2.2.2.1 = c40.2.2.2.2.2.2.2.1)∧(a.2.2.2.2.2.2.2.2.1 = c40.2.2.2.2.2.2.2.2.1)∧(a.2.2.2.2.2.2.2.2.2 = c40.2.2.2.2.2.2.2.2.2)∧(why_pre c40)∧Br ((whyR c40) != (4 : Int)) ((false = (lawTrue a))∧True) (∃ (I45 : ((List (ByteArray)) × Int × Int)→Prop) (μ46 : ((List (ByteArray)) × Int × Int)→Nat),(∃ x44 : (List (ByteArray)) × Int × Int,SlS e_api_Job a.2.1 (SlQ (((planV c19).1).length) x44.1.length (gl e_str ((planV c19).1)) (gl e_str x44.1) (((((planV c19).1).length : Int) = x44.2.1)∧((0 : Int) = x44.2.2)∧(a.1.1.1 = a.1.1.1)∧(a.1.1.2.1.1 = a.1.1.2.1.1)∧(a.1.1.2.1.2.1 = a.1.1.2.1.2.1)∧(a.1.1.2.1.2.2 = a.1.1.2.1.2.2)∧SlS e_api_Label a.1.1.2.2 ((a.1.2.1 = a.1.2.1)∧(a.1.2.2 = a.1.2.2)∧(a.2.2.1 = a.2.2.1)∧(a.2.2.2.1 = a.2.2.2.1)∧(a.2.2.2.2.1 = a.2.2.2.2.1)∧(a.2.2.2.2.2.1.1 = a.2.2.2.2.2.1.1)∧(a.2.2.2.2.2.1.2.1 = a.2.2.2.2.2.1.2.1)∧(a.2.2.2.2.2.1.2.2 = a.2.2.2.2.2.1.2.2)∧SlS e_api_Label a.2.2.2.2.2.2.1 ((a.2.2.2.2.2.2.2.1 = a.2.2.2.2.2.2.2.1)∧(a.2.2.2.2.2.2.2.2.1 = a.2.2.2.2.2.2.2.2.1)∧(a.2.2.2.2.2.2.2.2.2 = a.2.2.2.2.2.2.2.2.2)∧I45 x44)))))∧∀ y47 : (List (ByteArray)) × Int × Int,I45 y47→(Br (decide (y47.2.2 < y47.2.1)) (∃ (I51 : ((List (ByteArray)) × Int × Bool × Int × Int × Int)→Prop) (μ52 : ((List (ByteArray)) × Int × Bool × Int × Int × Int)→Nat),(∃ x50 : (List (ByteArray)) × Int × Bool × Int × Int × Int,SlS e_api_Job a.2.1 (SlQ y47.1.length x50.1.length (gl e_str y47.1) (gl e_str x50.1) ((y47.2.2 = x50.2.1)∧(false = x50.2.2.1)∧(y47.2.1 = x50.2.2.2.1)∧(y47.2.2 = x50.2.2.2.2.1)∧((a.2.1.length : Int) = (a.2.1.length : Int))∧((0 : Int) = x50.2.2.2.2.2)∧(a.1.1.1 = a.1.1.1)∧(a.1.1.2.1.1 = a.1.1.2.1.1)∧(a.1.1.2.1.2.1 = a.1.1.2.1.2.1)∧(a.1.1.2.1.2.2 = a.1.1.2.1.2.2)∧SlS e_api_Label a.1.1.2.2 ((a.1.2.1 = a.1.2.1)∧(a.1.2.2 = a.1.2.2)∧(a.2.2.1 = a.2.2.1)∧(a.2.2.2.1 = a.2.2.2.1)∧(a.2.2.2.2.1 = a.2.2.2.2.1)∧(a.2.2.2.2.2.1.1 = a.2.2.2.2.2.1.1)∧(a.2.2.2.2.2.1.2.1 = a.2.2.2.2.2.1.2.1)∧(a.2.2.2.2.2.1.2.2 = a.2.2.2.2.2.1.2.2)∧SlS e_api_Label a.2.2.2.2.2.2.1 ((a.2.2.2.2.2.2.2.1 = a.2.2.2.2.2.2.2.1)∧(a.2.2.2.2.2.2.2.2.1 = a.2.2.2.2.2.2.2.2.1)∧(a.2.2.2.2.2.2.2.2.2 = a.2.2.2.2.2.2.2.2.2)∧I51 x50)))))∧∀ y53 : (List (ByteArray)) × Int × Bool × Int × Int × Int,I51 y53→(Br (decide (y53.2.2.2.2.2 < (a.2.1.length : Int))) (Br y53.2.2.1 (Let (IntKind.i64.wrap (y53.2.2.2.2.2 + (1 : Int))) (fun v58 : Int => ∃ x59 : (List (ByteArray)) × Int × Bool × Int × Int × Int,SlS e_api_Job a.2.1 (SlQ y53.1.length x59.1.length (gl e_str y53.1) (gl e_str x59.1) ((y53.2.1 = x59.2.1)∧(true = x59.2.2.1)∧(y53.2.2.2.1 = x59.2.2.2.1)∧(y53.2.2.2.2.1 = x59.2.2.2.2.1)∧((a.2.1.length : Int) = (a.2.1.length : Int))∧(v58 = x59.2.2.2.2.2)∧(a.1.1.1 = a.1.1.1)∧(a.1.1.2.1.1 = a.1.1.2.1.1)∧(a.1.1.2.1.2.1 = a.1.1.2.1.2.1)∧(a.1.1.2.1.2.2 = a.1.1.2.1.2.2)∧SlS e_api_Label a.1.1.2.2 ((a.1.2.1 = a.1.2.1)∧(a.1.2.2 = a.1.2.2)∧(a.2.2.1 = a.2.2.1)∧(a.2.2.2.1 = a.2.2.2.1)∧(a.2.2.2.2.1 = a.2.2.2.2.1)∧(a.2.2.2.2.2.1.1 = a.2.2.2.2.2.1.1)∧(a.2.2.2.2.2.1.2.1 = a.2.2.2.2.2.1.2.1)∧(a.2.2.2.2.2.1.2.2 = a.2.2.2.2.2.1.2.2)∧SlS e_api_Label a.2.2.2.2.2.2.1 ((a.2.2.2.2.2.2.2.1 = a.2.2.2.2.2.2.2.1)∧(a.2.2.2.2.2.2.2.2.1 = a.2.2.2.2.2.2.2.2.1)∧(a.2.2.2.2.2.2.2.2.2 = a.2.2.2.2.2.2.2.2.2)∧I51 x59∧μ52 x59 < μ52 y53)))))) (Br (decide ((0 : Int)≤y53.2.2.2.2.2) && decide (y53.2.2.2.2.2 < (a.2.1.length : Int))) (Br (decide ((0 : Int)≤y53.2.1) && decide (y53.2.1 < (y53.1.length : Int))) (Br ((((at_ a.2.1 y53.2.2.2.2.2).1).1).toList == (at_ y53.1 y53.2.1).toList) (Br (decide ((0 : Int)≤y53.2.2.2.2.2) && decide (y53.2.2.2.2.2 < (a.2.1.length : Int))) (Br (((at_ a.2.1 y53.2.2.2.2.2).2.2.1).toList == a.1.1.1.toList) (Br (decide ((0 : Int)≤y53.2.2.2.2.2) && decide (y53.2.2.2.2.2 < (a.2.1.length : Int))) (Let (IntKind.i64.wrap (y53.2.2.2.2.2 + (1 : Int))) (fun v72 : Int => ∃ x73 : (List (ByteArray)) × Int × Bool × Int × Int × Int,SlS e_api_Job a.2.1 (SlQ y53.1.length x73.1.length (gl e_str y53.1) (gl e_str x73.1) ((y53.2.1 = x73.2.1)∧((decide ((((at_ a.2.1 y53.2.2.2.2.2).1).2.2.1) < a.2.2.2.2.1)) = x73.2.2.1)∧(y53.2.2.2.1 = x73.2.2.2.1)∧(y53.2.2.2.2.1 = x73.2.2.2.2.1)∧((a.2.1.length : Int) = (a.2.1.length : Int))∧(v72 = x73.2.2.2.2.2)∧(a.1.1.1 = a.1.1.1)∧(a.1.1.2.1.1 = a.1.1.2.1.1)∧(a.1.1.2.1.2.1 = a.1.1.2.1.2.1)∧(a.1.1.2.1.2.2 = a.1.1.2.1.2.2)∧SlS e_api_Label a.1.1.2.2 ((a.1.2.1 = a.1.2.1)∧(a.1.2.2 = a.1.2.2)∧(a.2.2.1 = a.2.2.1)∧(a.2.2.2.1 = a.2.2.2.1)∧(a.2.2.2.2.1 = a.2.2.2.2.1)∧(a.2.2.2.2.2.1.1 = a.2.2.2.2.2.1.1)∧(a.2.2.2.2.2.1.2.1 = a.2.2.2.2.2.1.2.1)∧(a.2.2.2.2.2.1.2.2 = a.2.2.2.2.2.1.2.2)∧SlS e_api_Label a.2.2.2.2.2.2.1 ((a.2.2.2.2.2.2.2.1 = a.2.2.2.2.2.2.2.1)∧(a.2.2.2.2.2.2.2.2.1 = a.2.2.2.2.2.2.2.2.1)∧(a.2.2.2.2.2.2.2.2.2 = a.2.2.2.2.2.2.2.2.2)∧I51 x73∧μ52 x73 < μ52 y53)))))) False) (Let (IntKind.i64.wrap (y53.2.2.2.2.2 + (1 : Int))) (fun v79 : Int => ∃ x80 : (List (ByteArray)) × Int × Bool × Int × Int × Int,SlS e_api_Job a.2.1 (SlQ y53.1.length x80.1.length (gl e_str y53.1) (gl e_str x80.1) ((y53.2.1 = x80.2.1)∧(false = x80.2.2.1)∧(y53.2.2.2.1 = x80.2.2.2.1)∧(y53.2.2.2.2.1 = x80.2.2.2.2.1)∧((a.2.1.length : Int) = (a.2.1.length : Int))∧(v79 = x80.2.2.2.2.2)∧(a.1.1.1 = a.1.1.1)∧(a.1.1.2.1.1 = a.1.1.2.1.1)∧(a.1.1.2.1.2.1 = a.1.1.2.1.2.1)∧(a.1.1.2.1.2.2 = a.1.1.2.1.2.2)∧SlS e_api_Label a.1.1.2.2 ((a.1.2.1 = a.1.2.1)∧(a.1.2.2 = a.1.2.2)∧(a.2.2.1 = a.2.2.1)∧(a.2.2.2.1 = a.2.2.2.1)∧(a.2.2.2.2.1 = a.2.2.2.2.1)∧(a.2.2.2.2.2.1.1 = a.2.2.2.2.2.1.1)∧(a.2.2.2.2.2.1.2.1 = a.2.2.2.2.2.1.2.1)∧(a.2.2.2.2.2.1.2.2 = a.2.2.2.2.2.1.2.2)∧SlS e_api_Label a.2.2.2.2.2.2.1 ((a.2.2.2.2.2.2.2.1 = a.2.2.2.2.2.2.2.1)∧(a.2.2.2.2.2.2.2.2.1 = a.2.2.2.2.2.2.2.2.1)∧(a.2.2.2.2.2.2.2.2.2 = a.2.2.2.2.2.2.2.2.2)∧I51 x80∧μ52 x80 < μ52 y53))))))) False) (Let (IntKind.i64.wrap (y53.2.2.2.2.2 + (1 : Int))) (fun v88 : Int => ∃ x89 : (List (ByteArray)) × Int × Bool × Int × Int × Int,SlS e_api_Job a.2.1 (SlQ y53.1.length x89.1.length (gl e_str y53.1) (gl e_str x89.1) ((y53.2.1 = x89.2.1)∧(false = x89.2.2.1)∧(y53.2.2.2.1 = x89.2.2.2.1)∧(y53.2.2.2.2.1 = x89.2.2.2.2.1)∧((a.2.1.length : Int) = (a.2.1.length : Int))∧(v88 = x89.2.2.2.2.2)∧(a.1.1.1 = a.1.1.1)∧(a.1.1.2.1.1 = a.1.1.2.1.1)∧(a.1.1.2.1.2.1 = a.1.1.2.1.2.1)∧(a.1.1.2.1.2.2 = a.1.1.2.1.2.2)∧SlS e_api_Label a.1.1.2.2 ((a.1.2.1 = a.1.2.1)∧(a.1.2.2 = a.1.2.2)∧(a.2.2.1 = a.2.2.1)∧(a.2.2.2.1 = a.2.2.2.1)∧(a.2.2.2.2.1 = a.2.2.2.2.1)∧(a.2.2.2.2.2.1.1 = a.2.2.2.2.2.1.1)∧(a.2.2.2.2.2.1.2.1 = a.2.2.2.2.2.1.2.1)∧(a.2.2.2.2.2.1.2.2 = a.2.2.2.2.2.1.2.2)∧SlS e_api_Label a.2.2.2.2.2.2.1 ((a.2.2.2.2.2.2.2.1 = a.2.2.2.2.2.2.2.1)∧(a.2.2.2.2.2.2.2.2.1 = a.2.2.2.2.2.2.2.2.1)∧(a.2.2.2.2.2.2.2.2.2 = a.2.2.2.2.2.2.2.2.2)∧I51 x89∧μ52 x89 < μ52 y53))))))) False) False)) (Br (!y53.2.2.1) ((false = (lawTrue a))∧True) (Let (IntKind.i64.wrap (y53.2.2.2.2.1 + (1 : Int))) (fun v103 : Int => ∃ x104 : (List (ByteArray)) × Int × Int,SlS e_api_Job a.2.1 (SlQ y53.1.length x104.1.length (gl e_str y53.1) (gl e_str x104.1) ((y53.2.2.2.1 = x104.2.1)∧(v103 = x104.2.2)∧(a.1.1.1 = a.1.1.1)∧(a.1.1.2.1.1 = a.1.1.2.1.1)∧(a.1.1.2.1.2.1 = a.1.1.2.1.2.1)∧(a.1.1.2.1.2.2 = a.1.1.2.1.2.2)∧SlS e_api_Label a.1.1.2.2 ((a.1.2.1 = a.1.2.1)∧(a.1.2.2 = a.1.2.2)∧(a.2.2.1 = a.2.2.1)∧(a.2.2.2.1 = a.2.2.2.1)∧(a.2.2.2.2.1 = a.2.2.2.2.1)∧(a.2.2.2.2.2.1.1 = a.2.2.2.2.2.1.1)∧(a.2.2.2.2.2.1.2.1 = a.2.2.2.2.2.1.2.1)∧(a.2.2.2.2.2.1.2.2 = a.2.2.2.2.2.1.2.2)∧SlS e_api_Label a.2.2.2.2.2.2.1 ((a.2.2.2.2.2.2.2.1 = a.2.2.2.2.2.2.2.1)∧(a.2.2.2.2.2.2.2.2.1 = a.2.2.2.2.2.2.2.2.1)∧(a.2.2.2.2.2.2.2.2.2 = a.2.2.2.2.2.2.2.2.2)∧I45 x104∧μ46 x104 < μ46 y47))))))))) ((true = (lawTrue a))∧True))))))))) False)) (∃ (I131 : ((List (ByteArray)) × Int × Int)→Prop) (μ132 : ((List (ByteArray)) × Int × Int)→Nat),(∃ x130 : (List (ByteArray)) × Int × Int,SlS e_api_Job a.2.1 (SlQ (((planV c19).1).length) x130.1.length (gl e_str ((planV c19).1)) (gl e_str x130.1) (((((planV c19).1).length : Int) = x130.2.1)∧((0 : Int) = x130.2.2)∧(a.1.1.1 = a.1.1.1)∧(a.1.1.2.1.1 = a.1.1.2.1.1)∧(a.1.1.2.1.2.1 = a.1.1.2.1.2.1)∧(a.1.1.2.1.2.2 = a.1.1.2.1.2.2)∧SlS e_api_Label a.1.1.2.2 ((a.1.2.1 = a.1.2.1)∧(a.1.2.2 = a.1.2.2)∧(a.2.2.1 = a.2.2.1)∧(a.2.2.2.1 = a.2.2.2.1)∧(a.2.2.2.2.1 = a.2.2.2.2.1)∧(a.2.2.2.2.2.1.1 = a.2.2.2.2.2.1.1)∧(a.2.2.2.2.2.1.2.1 = a.2.2.2.2.2.1.2.1)∧(a.2.2.2.2.2.1.2.2 = a.2.2.2.2.2.1.2.2)∧SlS e_api_Label a.2.2.2.2.2.2.1 ((a.2.2.2.2.2.2.2.1 = a.2.2.2.2.2.2.2.1)∧(a.2.2.2.2.2.2.2.2.1 = a.2.2.2.2.2.2.2.2.1)∧(a.2.2.2.2.2.2.2.2.2 = a.2.2.2.2.2.2.2.2.2)∧I131 x130)))))∧∀ y133 : (List (ByteArray)) × Int × Int,I131 y133→(Br (decide (y133.2.2 < y133.2.1)) (∃ (I137 : ((List (ByteArray)) × Int × Bool × Int × Int × Int)→Prop) (μ138 : ((List (ByteArray)) × Int × Bool × Int × Int × Int)→Nat),(∃ x136 : (List (ByteArray)) × Int × Bool × Int × Int × Int,SlS e_api_Job a.2.1 (SlQ y133.1.length x136.1.length (gl e_str y133.1) (gl e_str x136.1) ((y133.2.2 = x136.2.1)∧(false = x136.2.2.1)∧(y133.2.1 = x136.2.2.2.1)∧(y133.2.2 = x136.2.2.2.2.1)∧((a.2.1.length : Int) = (a.2.1.length : Int))∧((0 : Int) = x136.2.2.2.2.2)∧(a.1.1.1 = a.1.1.1)∧(a.1.1.2.1.1 = a.1.1.2.1.1)∧(a.1.1.2.1.2.1 = a.1.1.2.1.2.1)∧(a.1.1.2.1.2.2 = a.1.1.2.1.2.2)∧SlS e_api_Label a.1.1.2.2 ((a.1.2.1 = a.1.2.1)∧(a.1.2.2 = a.1.2.2)∧(a.2.2.1 = a.2.2.1)∧(a.2.2.2.1 = a.2.2.2.1)∧(a.2.2.2.2.1 = a.2.2.2.2.1)∧(a.2.2.2.2.2.1.1 = a.2.2.2.2.2.1.1)∧(a.2.2.2.2.2.1.2.1 = a.2.2.2.2.2.1.2.1)∧(a.2.2.2.2.2.1.2.2 = a.2.2.2.2.2.1.2.2)∧SlS e_api_Label a.2.2.2.2.2.2.1 ((a.2.2.2.2.2.2.2.1 = a.2.2.2.2.2.2.2.1)∧(a.2.2.2.2.2.2.2.2.1 = a.2.2.2.2.2.2.2.2.1)∧(a.2.2.2.2.2.2.2.2.2 = a.2.2.2.2.2.2.2.2.2)∧I137 x136)))))∧∀ y139 : (List (ByteArray)) × Int × Bool × Int × Int × Int,I137 y139→(Br (decide (y139.2.2.2.2.2 < (a.2.1.length : Int))) (Br y139.2.2.1 (Let (IntKind.i64.wrap (y139.2.2.2.2.2 + (1 : Int))) (fun v144 : Int => ∃ x145 : (List (ByteArray)) × Int × Bool × Int × Int × Int,SlS e_api_Job a.2.1 (SlQ y139.1.length x145.1.length (gl e_str y139.1) (gl e_str x145.1) ((y139.2.1 = x145.2.1)∧(true = x145.2.2.1)∧(y139.2.2.2.1 = x145.2.2.2.1)∧(y139.2.2.2.2.1 = x145.2.2.2.2.1)∧((a.2.1.length : Int) = (a.2.1.length : Int))∧(v144 = x145.2.2.2.2.2)∧(a.1.1.1 = a.1.1.1)∧(a.1.1.2.1.1 = a.1.1.2.1.1)∧(a.1.1.2.1.2.1 = a.1.1.2.1.2.1)∧(a.1.1.2.1.2.2 = a.1.1.2.1.2.2)∧SlS e_api_Label a.1.1.2.2 ((a.1.2.1 = a.1.2.1)∧(a.1.2.2 = a.1.2.2)∧(a.2.2.1 = a.2.2.1)∧(a.2.2.2.1 = a.2.2.2.1)∧(a.2.2.2.2.1 = a.2.2.2.2.1)∧(a.2.2.2.2.2.1.1 = a.2.2.2.2.2.1.1)∧(a.2.2.2.2.2.1.2.1 = a.2.2.2.2.2.1.2.1)∧(a.2.2.2.2.2.1.2.2 = a.2.2.2.2.2.1.2.2)∧SlS e_api_Label a.2.2.2.2.2.2.1 ((a.2.2.2.2.2.2.2.1 = a.2.2.2.2.2.2.2.1)∧(a.2.2.2.2.2.2.2.2.1 = a.2.2.2.2.2.2.2.2.1)∧(a.2.2.2.2.2.2.2.2.2 = a.2.2.2.2.2.2.2.2.2)∧I137 x145∧μ138 x145 < μ138 y139)))))) (Br (decide ((0 : Int)≤y139.2.2.2.2.2) && decide (y139.2.2.2.2.2 < (a.2.1.length : Int))) (Br (decide ((0 : Int)≤y139.2.1) && decide (y139.2.1 < (y139.1.length : Int))) (Br ((((at_ a.2.1 y139.2.2.2.2.2).1).1).toList == (at_ y139.1 y139.2.1).toList) (Br (decide ((0 : Int)≤y139.2.2.2.2.2) && decide (y139.2.2.2.2.2 < (a.2.1.length : Int))) (Br (((at_ a.2.1 y139.2.2.2.2.2).2.2.1).toList == a.1.1.1.toList) (Br (decide ((0 : Int)≤y139.2.2.2.2.2) && decide (y139.2.2.2.2.2 < (a.2.1.length : Int))) (Let (IntKind.i64.wrap (y139.2.2.2.2.2 + (1 : Int))) (fun v158 : Int => ∃ x159 : (List (ByteArray)) × Int × Bool × Int × Int × Int,SlS e_api_Job a.2.1 (SlQ y139.1.length x159.1.length (gl e_str y139.1) (gl e_str x159.1) ((y139.2.1 = x159.2.1)∧((decide ((((at_ a.2.1 y139.2.2.2.2.2).1).2.2.1) < a.2.2.2.2.1)) = x159.2.2.1)∧(y139.2.2.2.1 = x159.2.2.2.1)∧(y139.2.2.2.2.1 = x159.2.2.2.2.1)∧((a.2.1.length : Int) = (a.2.1.length : Int))∧(v158 = x159.2.2.2.2.2)∧(a.1.1.1 = a.1.1.1)∧(a.1.1.2.1.1 = a.1.1.2.1.1)∧(a.1.1.2.1.2.1 = a.1.1.2.1.2.1)∧(a.1.1.2.1.2.2 = a.1.1.2.1.2.2)∧SlS e_api_Label a.1.1.2.2 ((a.1.2.1 = a.1.2.1)∧(a.1.2.2 = a.1.2.2)∧(a.2.2.1 = a.2.2.1)∧(a.2.2.2.1 = a.2.2.2.1)∧(a.2.2.2.2.1 = a.2.2.2.2.1)∧(a.2.2.2.2.2.1.1 = a.2.2.2.2.2.1.1)∧(a.2.2.2.2.2.1.2.1 = a.2.2.2.2.2.1.2.1)∧(a.2.2.2.2.2.1.2.2 = a.2.2.2.2.2.1.2.2)∧SlS e_api_Label a.2.2.2.2.2.2.1 ((a.2.2.2.2.2.2.2.1 = a.2.2.2.2.2.2.2.1)∧(a.2.2.2.2.2.2.2.2.1 = a.2.2.2.2.2.2.2.2.1)∧(a.2.2.2.2.2.2.2.2.2 = a.2.2.2.2.2.2.2.2.2)∧I137 x159∧μ138 x159 < μ138 y139)))))) False) (Let (IntKind.i64.wrap (y139.2.2.2.2.2 + (1 : Int))) (fun v165 : Int => ∃ x166 : (List (ByteArray)) × Int × Bool × Int × Int × Int,SlS e_api_Job a.2.1 (SlQ y139.1.length x166.1.length (gl e_str y139.1) (gl e_str x166.1) ((y139.2.1 = x166.2.1)∧(false = x166.2.2.1)∧(y139.2.2.2.1 = x166.2.2.2.1)∧(y139.2.2.2.2.1 = x166.2.2.2.2.1)∧((a.2.1.length : Int) = (a.2.1.length : Int))∧(v165 = x166.2.2.2.2.2)∧(a.1.1.1 = a.1.1.1)∧(a.1.1.2.1.1 = a.1.1.2.1.1)∧(a.1.1.2.1.2.1 = a.1.1.2.1.2.1)∧(a.1.1.2.1.2.2 = a.1.1.2.1.2.2)∧SlS e_api_Label a.1.1.2.2 ((a.1.2.1 = a.1.2.1)∧(a.1.2.2 = a.1.2.2)∧(a.2.2.1 = a.2.2.1)∧(a.2.2.2.1 = a.2.2.2.1)∧(a.2.2.2.2.1 = a.2.2.2.2.1)∧(a.2.2.2.2.2.1.1 = a.2.2.2.2.2.1.1)∧(a.2.2.2.2.2.1.2.1 = a.2.2.2.2.2.1.2.1)∧(a.2.2.2.2.2.1.2.2 = a.2.2.2.2.2.1.2.2)∧SlS e_api_Label a.2.2.2.2.2.2.1 ((a.2.2.2.2.2.2.2.1 = a.2.2.2.2.2.2.2.1)∧(a.2.2.2.2.2.2.2.2.1 = a.2.2.2.2.2.2.2.2.1)∧(a.2.2.2.2.2.2.2.2.2 = a.2.2.2.2.2.2.2.2.2)∧I137 x166∧μ138 x166 < μ138 y139))))))) False) (Let (IntKind.i64.wrap (y139.2.2.2.2.2 + (1 : Int))) (fun v174 : Int => ∃ x175 : (List (ByteArray)) × Int × Bool × Int × Int × Int,SlS e_api_Job a.2.1 (SlQ y139.1.length x175.1.length (gl e_str y139.1) (gl e_str x175.1) ((y139.2.1 = x175.2.1)∧(false = x175.2.2.1)∧(y139.2.2.2.1 = x175.2.2.2.1)∧(y139.2.2.2.2.1 = x175.2.2.2.2.1)∧((a.2.1.length : Int) = (a.2.1.length : Int))∧(v174 = x175.2.2.2.2.2)∧(a.1.1.1 = a.1.1.1)∧(a.1.1.2.1.1 = a.1.1.2.1.1)∧(a.1.1.2.1.2.1 = a.1.1.2.1.2.1)∧(a.1.1.2.1.2.2 = a.1.1.2.1.2.2)∧SlS e_api_Label a.1.1.2.2 ((a.1.2.1 = a.1.2.1)∧(a.1.2.2 = a.1.2.2)∧(a.2.2.1 = a.2.2.1)∧(a.2.2.2.1 = a.2.2.2.1)∧(a.2.2.2.2.1 = a.2.2.2.2.1)∧(a.2.2.2.2.2.1.1 = a.2.2.2.2.2.1.1)∧(a.2.2.2.2.2.1.2.1 = a.2.2.2.2.2.1.2.1)∧(a.2.2.2.2.2.1.2.2 = a.2.2.2.2.2.1.2.2)∧SlS e_api_Label a.2.2.2.2.2.2.1 ((a.2.2.2.2.2.2.2.1 = a.2.2.2.2.2.2.2.1)∧(a.2.2.2.2.2.2.2.2.1 = a.2.2.2.2.2.2.2.2.1)∧(a.2.2.2.2.2.2.2.2.2 = a.2.2.2.2.2.2.2.2.2)∧I137 x175∧μ138 x175 < μ138 y139))))))) False) False)) (Br (!y139.2.2.1) ((false = (lawTrue a))∧True) (Let (IntKind.i64.wrap (y139.2.2.2.2.1 + (1 : Int))) (fun v189 : Int => ∃ x190 : (List (ByteArray)) × Int × Int,SlS e_api_Job a.2.1 (SlQ y139.1.length x190.1.length (gl e_str y139.1) (gl e_str x190.1) ((y139.2.2.2.1 = x190.2.1)∧(v189 = x190.2.2)∧(a.1.1.1 = a.1.1.1)∧(a.1.1.2.1.1 = a.1.1.2.1.1)∧(a.1.1.2.1.2.1 = a.1.1.2.1.2.1)∧(a.1.1.2.1.2.2 = a.1.1.2.1.2.2)∧SlS e_api_Label a.1.1.2.2 ((a.1.2.1 = a.1.2.1)∧(a.1.2.2 = a.1.2.2)∧(a.2.2.1 = a.2.2.1)∧(a.2.2.2.1 = a.2.2.2.1)∧(a.2.2.2.2.1 = a.2.2.2.2.1)∧(a.2.2.2.2.2.1.1 = a.2.2.2.2.2.1.1)∧(a.2.2.2.2.2.1.2.1 = a.2.2.2.2.2.1.2.1)∧(a.2.2.2.2.2.1.2.2 = a.2.2.2.2.2.1.2.2)∧SlS e_api_Label a.2.2.2.2.2.2.1 ((a.2.2.2.2.2.2.2.1 = a.2.2.2.2.2.2.2.1)∧(a.2.2.2.2.2.2.2.2.1 = a.2.2.2.2.2.2.2.2.1)∧(a.2.2.2.2.2.2.2.2.2 = a.2.2.2.2.2.2.2.2.2)∧I131 x190∧μ132 x190 < μ132 y133))))))))) ((true = (lawTrue a))∧True))))))))))))))))))))
def f340.vc (a : T_api_Machine × (List (T_api_Job)) × T_api_Task) : Prop := ((¬ ((lawTrue ()) = true)→((lawTrue ()) = lawTrue a))∧(¬ (¬ ((lawTrue ()) = true))→(few13_pre ([a.1],a.2.1,a.2.2)∧((¬ ((few13 ([a.1],a.2.1,a.2.2)) = true)→((lawTrue ()) = lawTrue a))∧(¬ (¬ ((few13 ([a.1],a.2.1,a.2.2)) = true))→(names_pre a.2.1∧((¬ ((unlikeV (a.2.1)) = true)→((lawTrue ()) = lawTrue a))∧(¬ (¬ ((unlikeV (a.2.1)) = true))→(why_pre (a.1,a.2.1,a.2.2)∧((¬ (((planV (a.1,a.2.1,a.2.2)).2) = true)→(((((planV (a.1,a.2.1,a.2.2)).1).length : Int) = (0 : Int)→(why_pre (a.1,a.2.1,a.2.2)∧(((whyR (a.1,a.2.1,a.2.2)) != (0 : Int)) = lawTrue a)))∧(¬ ((((planV (a.1,a.2.1,a.2.2)).1).length : Int) = (0 : Int))→(false = lawTrue a))))∧(¬ (¬ (((planV (a.1,a.2.1,a.2.2)).2) = true))→(without_pre (a.2.1,(planV (a.1,a.2.1,a.2.2)).1)∧(why_pre (a.1,(withoutV (a.2.1,(planV (a.1,a.2.1,a.2.2)).1)),a.2.2)∧((¬ (whyR (a.1,(withoutV (a.2.1,(planV (a.1,a.2.1,a.2.2)).1)),a.2.2)) = (0 : Int)→(false = lawTrue a))∧(¬ (¬ (whyR (a.1,(withoutV (a.2.1,(planV (a.1,a.2.1,a.2.2)).1)),a.2.2)) = (0 : Int))→(((0 : Int) < (((planV (a.1,a.2.1,a.2.2)).1).length : Int)→(-9223372036854775808≤((((planV (a.1,a.2.1,a.2.2)).1).length : Int) - (1 : Int))∧((((planV (a.1,a.2.1,a.2.2)).1).length : Int) - (1 : Int))≤9223372036854775807∧((0 : Int)≤((((planV (a.1,a.2.1,a.2.2)).1).length : Int) - (1 : Int))∧((((planV (a.1,a.2.1,a.2.2)).1).length : Int) - (1 : Int))≤(((planV (a.1,a.2.1,a.2.2)).1).length : Int)∧(without_pre (a.2.1,(subL ((planV (a.1,a.2.1,a.2.2)).1) (0 : Int) ((((planV (a.1,a.2.1,a.2.2)).1).length : Int) - (1 : Int))))∧(why_pre (a.1,(withoutV (a.2.1,(subL ((planV (a.1,a.2.1,a.2.2)).1) (0 : Int) ((((planV (a.1,a.2.1,a.2.2)).1).length : Int) - (1 : Int))))),a.2.2)∧((¬ (whyR (a.1,(withoutV (a.2.1,(subL ((planV (a.1,a.2.1,a.2.2)).1) (0 : Int) ((((planV (a.1,a.2.1,a.2.2)).1).length : Int) - (1 : Int))))),a.2.2)) = (4 : Int)→(false = lawTrue a))∧(¬ (¬ (whyR (a.1,(withoutV (a.2.1,(subL ((planV (a.1,a.2.1,a.2.2)).1) (0 : Int) ((((planV (a.1,a.2.1,a.2.2)).1).length : Int) - (1 : Int))))),a.2.2)) = (4 : Int))→(∃ (I45 : ((List (ByteArray)) × Int × Int)→Prop) (μ46 : ((List (ByteArray)) × Int × Int)→Nat),I45 ((planV (a.1,a.2.1,a.2.2)).1,(((planV (a.1,a.2.1,a.2.2)).1).length : Int),(0 : Int))∧∀ y47 : (List (ByteArray)) × Int × Int,I45 y47→((y47.2.2 < y47.2.1→(∃ (I51 : ((List (ByteArray)) × Int × Bool × Int × Int × Int)→Prop) (μ52 : ((List (ByteArray)) × Int × Bool × Int × Int × Int)→Nat),I51 (y47.1,y47.2.2,false,y47.2.1,y47.2.2,(0 : Int))∧∀ y53 : (List (ByteArray)) × Int × Bool × Int × Int × Int,I51 y53→((y53.2.2.2.2.2 < (a.2.1.length : Int)→((y53.2.2.1 = true→(-9223372036854775808≤(y53.2.2.2.2.2 + (1 : Int))∧(y53.2.2.2.2.2 + (1 : Int))≤9223372036854775807∧(I51 (y53.1,y53.2.1,true,y53.2.2.2.1,y53.2.2.2.2.1,(y53.2.2.2.2.2 + (1 : Int)))∧μ52 (y53.1,y53.2.1,true,y53.2.2.2.1,y53.2.2.2.2.1,(y53.2.2.2.2.2 + (1 : Int))) < μ52 y53)))∧(¬ (y53.2.2.1 = true)→((0 : Int)≤y53.2.2.2.2.2∧y53.2.2.2.2.2 < (a.2.1.length : Int)∧((0 : Int)≤y53.2.1∧y53.2.1 < (y53.1.length : Int)∧(((((at_ a.2.1 y53.2.2.2.2.2).1).1) = (at_ y53.1 y53.2.1)→((0 : Int)≤y53.2.2.2.2.2∧y53.2.2.2.2.2 < (a.2.1.length : Int)∧((((at_ a.2.1 y53.2.2.2.2.2).2.2.1) = a.1.1.1→((0 : Int)≤y53.2.2.2.2.2∧y53.2.2.2.2.2 < (a.2.1.length : Int)∧(-9223372036854775808≤(y53.2.2.2.2.2 + (1 : Int))∧(y53.2.2.2.2.2 + (1 : Int))≤9223372036854775807∧(I51 (y53.1,y53.2.1,decide ((((at_ a.2.1 y53.2.2.2.2.2).1).2.2.1) < a.2.2.2.2.1),y53.2.2.2.1,y53.2.2.2.2.1,(y53.2.2.2.2.2 + (1 : Int)))∧μ52 (y53.1,y53.2.1,decide ((((at_ a.2.1 y53.2.2.2.2.2).1).2.2.1) < a.2.2.2.2.1),y53.2.2.2.1,y53.2.2.2.2.1,(y53.2.2.2.2.2 + (1 : Int))) < μ52 y53))))∧(¬ (((at_ a.2.1 y53.2.2.2.2.2).2.2.1) = a.1.1.1)→(-9223372036854775808≤(y53.2.2.2.2.2 + (1 : Int))∧(y53.2.2.2.2.2 + (1 : Int))≤9223372036854775807∧(I51 (y53.1,y53.2.1,false,y53.2.2.2.1,y53.2.2.2.2.1,(y53.2.2.2.2.2 + (1 : Int)))∧μ52 (y53.1,y53.2.1,false,y53.2.2.2.1,y53.2.2.2.2.1,(y53.2.2.2.2.2 + (1 : Int))) < μ52 y53))))))∧(¬ ((((at_ a.2.1 y53.2.2.2.2.2).1).1) = (at_ y53.1 y53.2.1))→(-9223372036854775808≤(y53.2.2.2.2.2 + (1 : Int))∧(y53.2.2.2.2.2 + (1 : Int))≤9223372036854775807∧(I51 (y53.1,y53.2.1,false,y53.2.2.2.1,y53.2.2.2.2.1,(y53.2.2.2.2.2 + (1 : Int)))∧μ52 (y53.1,y53.2.1,false,y53.2.2.2.1,y53.2.2.2.2.1,(y53.2.2.2.2.2 + (1 : Int))) < μ52 y53)))))))))∧(¬ (y53.2.2.2.2.2 < (a.2.1.length : Int))→((¬ (y53.2.2.1 = true)→(false = lawTrue a))∧(¬ (¬ (y53.2.2.1 = true))→(-9223372036854775808≤(y53.2.2.2.2.1 + (1 : Int))∧(y53.2.2.2.2.1 + (1 : Int))≤9223372036854775807∧(I45 (y53.1,y53.2.2.2.1,(y53.2.2.2.2.1 + (1 : Int)))∧μ46 (y53.1,y53.2.2.2.1,(y53.2.2.2.2.1 + (1 : Int))) < μ46 y47))))))))∧(¬ (y47.2.2 < y47.2.1)→(true = lawTrue a)))))))))))∧(¬ ((0 : Int) < (((planV (a.1,a.2.1,a.2.2)).1).length : Int))→(∃ (I131 : ((List (ByteArray)) × Int × Int)→Prop) (μ132 : ((List (ByteArray)) × Int × Int)→Nat),I131 ((planV (a.1,a.2.1,a.2.2)).1,(((planV (a.1,a.2.1,a.2.2)).1).length : Int),(0 : Int))∧∀ y133 : (List (ByteArray)) × Int × Int,I131 y133→((y133.2.2 < y133.2.1→(∃ (I137 : ((List (ByteArray)) × Int × Bool × Int × Int × Int)→Prop) (μ138 : ((List (ByteArray)) × Int × Bool × Int × Int × Int)→Nat),I137 (y133.1,y133.2.2,false,y133.2.1,y133.2.2,(0 : Int))∧∀ y139 : (List (ByteArray)) × Int × Bool × Int × Int × Int,I137 y139→((y139.2.2.2.2.2 < (a.2.1.length : Int)→((y139.2.2.1 = true→(-9223372036854775808≤(y139.2.2.2.2.2 + (1 : Int))∧(y139.2.2.2.2.2 + (1 : Int))≤9223372036854775807∧(I137 (y139.1,y139.2.1,true,y139.2.2.2.1,y139.2.2.2.2.1,(y139.2.2.2.2.2 + (1 : Int)))∧μ138 (y139.1,y139.2.1,true,y139.2.2.2.1,y139.2.2.2.2.1,(y139.2.2.2.2.2 + (1 : Int))) < μ138 y139)))∧(¬ (y139.2.2.1 = true)→((0 : Int)≤y139.2.2.2.2.2∧y139.2.2.2.2.2 < (a.2.1.length : Int)∧((0 : Int)≤y139.2.1∧y139.2.1 < (y139.1.length : Int)∧(((((at_ a.2.1 y139.2.2.2.2.2).1).1) = (at_ y139.1 y139.2.1)→((0 : Int)≤y139.2.2.2.2.2∧y139.2.2.2.2.2 < (a.2.1.length : Int)∧((((at_ a.2.1 y139.2.2.2.2.2).2.2.1) = a.1.1.1→((0 : Int)≤y139.2.2.2.2.2∧y139.2.2.2.2.2 < (a.2.1.length : Int)∧(-9223372036854775808≤(y139.2.2.2.2.2 + (1 : Int))∧(y139.2.2.2.2.2 + (1 : Int))≤9223372036854775807∧(I137 (y139.1,y139.2.1,decide ((((at_ a.2.1 y139.2.2.2.2.2).1).2.2.1) < a.2.2.2.2.1),y139.2.2.2.1,y139.2.2.2.2.1,(y139.2.2.2.2.2 + (1 : Int)))∧μ138 (y139.1,y139.2.1,decide ((((at_ a.2.1 y139.2.2.2.2.2).1).2.2.1) < a.2.2.2.2.1),y139.2.2.2.1,y139.2.2.2.2.1,(y139.2.2.2.2.2 + (1 : Int))) < μ138 y139))))∧(¬ (((at_ a.2.1 y139.2.2.2.2.2).2.2.1) = a.1.1.1)→(-9223372036854775808≤(y139.2.2.2.2.2 + (1 : Int))∧(y139.2.2.2.2.2 + (1 : Int))≤9223372036854775807∧(I137 (y139.1,y139.2.1,false,y139.2.2.2.1,y139.2.2.2.2.1,(y139.2.2.2.2.2 + (1 : Int)))∧μ138 (y139.1,y139.2.1,false,y139.2.2.2.1,y139.2.2.2.2.1,(y139.2.2.2.2.2 + (1 : Int))) < μ138 y139))))))∧(¬ ((((at_ a.2.1 y139.2.2.2.2.2).1).1) = (at_ y139.1 y139.2.1))→(-9223372036854775808≤(y139.2.2.2.2.2 + (1 : Int))∧(y139.2.2.2.2.2 + (1 : Int))≤9223372036854775807∧(I137 (y139.1,y139.2.1,false,y139.2.2.2.1,y139.2.2.2.2.1,(y139.2.2.2.2.2 + (1 : Int)))∧μ138 (y139.1,y139.2.1,false,y139.2.2.2.1,y139.2.2.2.2.1,(y139.2.2.2.2.2 + (1 : Int))) < μ138 y139)))))))))∧(¬ (y139.2.2.2.2.2 < (a.2.1.length : Int))→((¬ (y139.2.2.1 = true)→(false = lawTrue a))∧(¬ (¬ (y139.2.2.1 = true))→(-9223372036854775808≤(y139.2.2.2.2.1 + (1 : Int))∧(y139.2.2.2.2.1 + (1 : Int))≤9223372036854775807∧(I131 (y139.1,y139.2.2.2.1,(y139.2.2.2.2.1 + (1 : Int)))∧μ132 (y139.1,y139.2.2.2.1,(y139.2.2.2.2.1 + (1 : Int))) < μ132 y133))))))))∧(¬ (y133.2.2 < y133.2.1)→(true = lawTrue a)))))))))))))))))))))
set_option maxRecDepth 100000 in
set_option maxHeartbeats 2000000 in
theorem f340.of (a : T_api_Machine × (List (T_api_Job)) × T_api_Task) (h : f340.vc a) : f340.tree a := ⟨(),⟨trivial,br h (Cnd.not Cnd.b) (fun h2 k223 => ⟨(),⟨trivial,⟨k223,trivial⟩⟩⟩) (fun h3 k224 => ⟨([a.1],a.2.1,a.2.2),slQ (Rds.one (enc := e_api_Machine) (DEqs.refl _)) (slQ (Rds.self (enc := e_api_Job)) (⟨rfl,⟨rfl,⟨rfl,⟨rfl,⟨rfl,⟨rfl,slQ (Rds.self (enc := e_api_Label)) (⟨rfl,⟨rfl,⟨rfl,⟨k224.1,br k224.2 (Cnd.not Cnd.b) (fun h8 k220 => ⟨(),⟨trivial,⟨k220,trivial⟩⟩⟩) (fun h9 k221 => ⟨a.2.1,slQ (Rds.self (enc := e_api_Job)) (⟨k221.1,br k221.2 (Cnd.not Cnd.b) (fun h14 k217 => ⟨(),⟨trivial,⟨k217,trivial⟩⟩⟩) (fun h15 k218 => ⟨(a.1,a.2.1,a.2.2),⟨rfl,⟨rfl,⟨rfl,⟨rfl,slQ (Rds.self (enc := e_api_Label)) (⟨rfl,⟨rfl,slQ (Rds.self (enc := e_api_Job)) (⟨rfl,⟨rfl,⟨rfl,⟨rfl,⟨rfl,⟨rfl,slQ (Rds.self (enc := e_api_Label)) (⟨rfl,⟨rfl,⟨rfl,⟨k218.1,br k218.2 (Cnd.not Cnd.b) (fun h20 k214 => br k214 Cnd.eq (fun h22 k28 => ⟨(a.1,a.2.1,a.2.2),⟨rfl,⟨rfl,⟨rfl,⟨rfl,slQ (Rds.self (enc := e_api_Label)) (⟨rfl,⟨rfl,slQ (Rds.self (enc := e_api_Job)) (⟨rfl,⟨rfl,⟨rfl,⟨rfl,⟨rfl,⟨rfl,slQ (Rds.self (enc := e_api_Label)) (⟨rfl,⟨rfl,⟨rfl,⟨k28.1,⟨k28.2,trivial⟩⟩⟩⟩⟩)⟩⟩⟩⟩⟩⟩)⟩⟩)⟩⟩⟩⟩⟩) (fun h23 k29 => ⟨k29,trivial⟩)) (fun h21 k215 => ⟨(a.2.1,(planV (a.1,a.2.1,a.2.2)).1),slQ (Rds.self (enc := e_api_Job)) (slQ (Rds.self (enc := e_str)) (⟨k215.1,⟨(a.1,(withoutV (a.2.1,(planV (a.1,a.2.1,a.2.2)).1)),a.2.2),⟨rfl,⟨rfl,⟨rfl,⟨rfl,slQ (Rds.self (enc := e_api_Label)) (⟨rfl,⟨rfl,slQ (Rds.self (enc := e_api_Job)) (⟨rfl,⟨rfl,⟨rfl,⟨rfl,⟨rfl,⟨rfl,slQ (Rds.self (enc := e_api_Label)) (⟨rfl,⟨rfl,⟨rfl,⟨k215.2.1,br k215.2.2 Cnd.ne (fun h32 k210 => ⟨k210,trivial⟩) (fun h33 k211 => br k211 Cnd.dec (fun h35 k208 => wrapK.i64 k208 (fun h127 h128 k129 => chk k129.2.2 Cnd.sl ⟨(by decide),k129.1,k129.2.1⟩ (fun h38 k126 => ⟨(a.2.1,(subL ((planV (a.1,a.2.1,a.2.2)).1) (0 : Int) ((((planV (a.1,a.2.1,a.2.2)).1).length : Int) - (1 : Int)))),slQ (Rds.self (enc := e_api_Job)) (slQ (Rds.sub (enc := e_str) (Rds.self (enc := e_str)) h38) (⟨k126.1,⟨(a.1,(withoutV (a.2.1,(subL ((planV (a.1,a.2.1,a.2.2)).1) (0 : Int) ((((planV (a.1,a.2.1,a.2.2)).1).length : Int) - (1 : Int))))),a.2.2),⟨rfl,⟨rfl,⟨rfl,⟨rfl,slQ (Rds.self (enc := e_api_Label)) (⟨rfl,⟨rfl,slQ (Rds.self (enc := e_api_Job)) (⟨rfl,⟨rfl,⟨rfl,⟨rfl,⟨rfl,⟨rfl,slQ (Rds.self (enc := e_api_Label)) (⟨rfl,⟨rfl,⟨rfl,⟨k126.2.1,br k126.2.2 Cnd.ne (fun h41 k122 => ⟨k122,trivial⟩) (fun h42 k123 => Exists.elim k123 (fun I45 h119_ => Exists.elim h119_ (fun μ46 h119 => ⟨I45,μ46,⟨((planV (a.1,a.2.1,a.2.2)).1,(((planV (a.1,a.2.1,a.2.2)).1).length : Int),(0 : Int)),SlS.mk  (slQ (Rds.self (enc := e_str)) (⟨rfl,⟨rfl,⟨rfl,⟨rfl,⟨rfl,⟨rfl,SlS.mk  (⟨rfl,⟨rfl,⟨rfl,⟨rfl,⟨rfl,⟨rfl,⟨rfl,⟨rfl,SlS.mk  (⟨rfl,⟨rfl,⟨rfl,h119.1⟩⟩⟩)⟩⟩⟩⟩⟩⟩⟩⟩)⟩⟩⟩⟩⟩⟩))⟩,fun y47 h121 => br (h119.2 y47 h121) Cnd.dec (fun h48 k117 => Exists.elim k117 (fun I51 h113_ => Exists.elim h113_ (fun μ52 h113 => ⟨I51,μ52,⟨(y47.1,y47.2.2,false,y47.2.1,y47.2.2,(0 : Int)),SlS.mk  (slQ (Rds.self (enc := e_str)) (⟨rfl,⟨rfl,⟨rfl,⟨rfl,⟨rfl,⟨rfl,⟨rfl,⟨rfl,⟨rfl,⟨rfl,SlS.mk  (⟨rfl,⟨rfl,⟨rfl,⟨rfl,⟨rfl,⟨rfl,⟨rfl,⟨rfl,SlS.mk  (⟨rfl,⟨rfl,⟨rfl,h113.1⟩⟩⟩)⟩⟩⟩⟩⟩⟩⟩⟩)⟩⟩⟩⟩⟩⟩⟩⟩⟩⟩))⟩,fun y53 h115 => br (h113.2 y53 h115) Cnd.dec (fun h54 k111 => br k111 Cnd.b (fun h56 k98 => wrapK.i64 k98 (fun h61 h62 k63 => ⟨(y53.1,y53.2.1,true,y53.2.2.2.1,y53.2.2.2.2.1,(y53.2.2.2.2.2 + (1 : Int))),SlS.mk  (slQ (Rds.self (enc := e_str)) (⟨rfl,⟨rfl,⟨rfl,⟨rfl,⟨rfl,⟨rfl,⟨rfl,⟨rfl,⟨rfl,⟨rfl,SlS.mk  (⟨rfl,⟨rfl,⟨rfl,⟨rfl,⟨rfl,⟨rfl,⟨rfl,⟨rfl,SlS.mk  (⟨rfl,⟨rfl,⟨rfl,k63⟩⟩⟩)⟩⟩⟩⟩⟩⟩⟩⟩)⟩⟩⟩⟩⟩⟩⟩⟩⟩⟩))⟩)) (fun h57 k99 => chk k99.2.2 Cnd.ix ⟨k99.1,k99.2.1⟩ (fun h64 k97 => chk k97.2.2 Cnd.ix ⟨k97.1,k97.2.1⟩ (fun h65 k96 => br k96 Cnd.seq (fun h66 k94 => chk k94.2.2 Cnd.ix ⟨k94.1,k94.2.1⟩ (fun h68 k87 => br k87 Cnd.seq (fun h69 k85 => chk k85.2.2 Cnd.ix ⟨k85.1,k85.2.1⟩ (fun h71 k78 => wrapK.i64 k78 (fun h75 h76 k77 => ⟨(y53.1,y53.2.1,decide ((((at_ a.2.1 y53.2.2.2.2.2).1).2.2.1) < a.2.2.2.2.1),y53.2.2.2.1,y53.2.2.2.2.1,(y53.2.2.2.2.2 + (1 : Int))),SlS.mk  (slQ (Rds.self (enc := e_str)) (⟨rfl,⟨rfl,⟨rfl,⟨rfl,⟨rfl,⟨rfl,⟨rfl,⟨rfl,⟨rfl,⟨rfl,SlS.mk  (⟨rfl,⟨rfl,⟨rfl,⟨rfl,⟨rfl,⟨rfl,⟨rfl,⟨rfl,SlS.mk  (⟨rfl,⟨rfl,⟨rfl,k77⟩⟩⟩)⟩⟩⟩⟩⟩⟩⟩⟩)⟩⟩⟩⟩⟩⟩⟩⟩⟩⟩))⟩))) (fun h70 k86 => wrapK.i64 k86 (fun h82 h83 k84 => ⟨(y53.1,y53.2.1,false,y53.2.2.2.1,y53.2.2.2.2.1,(y53.2.2.2.2.2 + (1 : Int))),SlS.mk  (slQ (Rds.self (enc := e_str)) (⟨rfl,⟨rfl,⟨rfl,⟨rfl,⟨rfl,⟨rfl,⟨rfl,⟨rfl,⟨rfl,⟨rfl,SlS.mk  (⟨rfl,⟨rfl,⟨rfl,⟨rfl,⟨rfl,⟨rfl,⟨rfl,⟨rfl,SlS.mk  (⟨rfl,⟨rfl,⟨rfl,k84⟩⟩⟩)⟩⟩⟩⟩⟩⟩⟩⟩)⟩⟩⟩⟩⟩⟩⟩⟩⟩⟩))⟩)))) (fun h67 k95 => wrapK.i64 k95 (fun h91 h92 k93 => ⟨(y53.1,y53.2.1,false,y53.2.2.2.1,y53.2.2.2.2.1,(y53.2.2.2.2.2 + (1 : Int))),SlS.mk  (slQ (Rds.self (enc := e_str)) (⟨rfl,⟨rfl,⟨rfl,⟨rfl,⟨rfl,⟨rfl,⟨rfl,⟨rfl,⟨rfl,⟨rfl,SlS.mk  (⟨rfl,⟨rfl,⟨rfl,⟨rfl,⟨rfl,⟨rfl,⟨rfl,⟨rfl,SlS.mk  (⟨rfl,⟨rfl,⟨rfl,k93⟩⟩⟩)⟩⟩⟩⟩⟩⟩⟩⟩)⟩⟩⟩⟩⟩⟩⟩⟩⟩⟩))⟩)))))) (fun h55 k112 => br k112 (Cnd.not Cnd.b) (fun h100 k109 => ⟨k109,trivial⟩) (fun h101 k110 => wrapK.i64 k110 (fun h106 h107 k108 => ⟨(y53.1,y53.2.2.2.1,(y53.2.2.2.2.1 + (1 : Int))),SlS.mk  (slQ (Rds.self (enc := e_str)) (⟨rfl,⟨rfl,⟨rfl,⟨rfl,⟨rfl,⟨rfl,SlS.mk  (⟨rfl,⟨rfl,⟨rfl,⟨rfl,⟨rfl,⟨rfl,⟨rfl,⟨rfl,SlS.mk  (⟨rfl,⟨rfl,⟨rfl,k108⟩⟩⟩)⟩⟩⟩⟩⟩⟩⟩⟩)⟩⟩⟩⟩⟩⟩))⟩)))⟩))) (fun h49 k118 => ⟨k118,trivial⟩)⟩)))⟩⟩⟩⟩)⟩⟩⟩⟩⟩⟩)⟩⟩)⟩⟩⟩⟩⟩⟩))⟩))) (fun h36 k209 => Exists.elim k209 (fun I131 h205_ => Exists.elim h205_ (fun μ132 h205 => ⟨I131,μ132,⟨((planV (a.1,a.2.1,a.2.2)).1,(((planV (a.1,a.2.1,a.2.2)).1).length : Int),(0 : Int)),SlS.mk  (slQ (Rds.self (enc := e_str)) (⟨rfl,⟨rfl,⟨rfl,⟨rfl,⟨rfl,⟨rfl,SlS.mk  (⟨rfl,⟨rfl,⟨rfl,⟨rfl,⟨rfl,⟨rfl,⟨rfl,⟨rfl,SlS.mk  (⟨rfl,⟨rfl,⟨rfl,h205.1⟩⟩⟩)⟩⟩⟩⟩⟩⟩⟩⟩)⟩⟩⟩⟩⟩⟩))⟩,fun y133 h207 => br (h205.2 y133 h207) Cnd.dec (fun h134 k203 => Exists.elim k203 (fun I137 h199_ => Exists.elim h199_ (fun μ138 h199 => ⟨I137,μ138,⟨(y133.1,y133.2.2,false,y133.2.1,y133.2.2,(0 : Int)),SlS.mk  (slQ (Rds.self (enc := e_str)) (⟨rfl,⟨rfl,⟨rfl,⟨rfl,⟨rfl,⟨rfl,⟨rfl,⟨rfl,⟨rfl,⟨rfl,SlS.mk  (⟨rfl,⟨rfl,⟨rfl,⟨rfl,⟨rfl,⟨rfl,⟨rfl,⟨rfl,SlS.mk  (⟨rfl,⟨rfl,⟨rfl,h199.1⟩⟩⟩)⟩⟩⟩⟩⟩⟩⟩⟩)⟩⟩⟩⟩⟩⟩⟩⟩⟩⟩))⟩,fun y139 h201 => br (h199.2 y139 h201) Cnd.dec (fun h140 k197 => br k197 Cnd.b (fun h142 k184 => wrapK.i64 k184 (fun h147 h148 k149 => ⟨(y139.1,y139.2.1,true,y139.2.2.2.1,y139.2.2.2.2.1,(y139.2.2.2.2.2 + (1 : Int))),SlS.mk  (slQ (Rds.self (enc := e_str)) (⟨rfl,⟨rfl,⟨rfl,⟨rfl,⟨rfl,⟨rfl,⟨rfl,⟨rfl,⟨rfl,⟨rfl,SlS.mk  (⟨rfl,⟨rfl,⟨rfl,⟨rfl,⟨rfl,⟨rfl,⟨rfl,⟨rfl,SlS.mk  (⟨rfl,⟨rfl,⟨rfl,k149⟩⟩⟩)⟩⟩⟩⟩⟩⟩⟩⟩)⟩⟩⟩⟩⟩⟩⟩⟩⟩⟩))⟩)) (fun h143 k185 => chk k185.2.2 Cnd.ix ⟨k185.1,k185.2.1⟩ (fun h150 k183 => chk k183.2.2 Cnd.ix ⟨k183.1,k183.2.1⟩ (fun h151 k182 => br k182 Cnd.seq (fun h152 k180 => chk k180.2.2 Cnd.ix ⟨k180.1,k180.2.1⟩ (fun h154 k173 => br k173 Cnd.seq (fun h155 k171 => chk k171.2.2 Cnd.ix ⟨k171.1,k171.2.1⟩ (fun h157 k164 => wrapK.i64 k164 (fun h161 h162 k163 => ⟨(y139.1,y139.2.1,decide ((((at_ a.2.1 y139.2.2.2.2.2).1).2.2.1) < a.2.2.2.2.1),y139.2.2.2.1,y139.2.2.2.2.1,(y139.2.2.2.2.2 + (1 : Int))),SlS.mk  (slQ (Rds.self (enc := e_str)) (⟨rfl,⟨rfl,⟨rfl,⟨rfl,⟨rfl,⟨rfl,⟨rfl,⟨rfl,⟨rfl,⟨rfl,SlS.mk  (⟨rfl,⟨rfl,⟨rfl,⟨rfl,⟨rfl,⟨rfl,⟨rfl,⟨rfl,SlS.mk  (⟨rfl,⟨rfl,⟨rfl,k163⟩⟩⟩)⟩⟩⟩⟩⟩⟩⟩⟩)⟩⟩⟩⟩⟩⟩⟩⟩⟩⟩))⟩))) (fun h156 k172 => wrapK.i64 k172 (fun h168 h169 k170 => ⟨(y139.1,y139.2.1,false,y139.2.2.2.1,y139.2.2.2.2.1,(y139.2.2.2.2.2 + (1 : Int))),SlS.mk  (slQ (Rds.self (enc := e_str)) (⟨rfl,⟨rfl,⟨rfl,⟨rfl,⟨rfl,⟨rfl,⟨rfl,⟨rfl,⟨rfl,⟨rfl,SlS.mk  (⟨rfl,⟨rfl,⟨rfl,⟨rfl,⟨rfl,⟨rfl,⟨rfl,⟨rfl,SlS.mk  (⟨rfl,⟨rfl,⟨rfl,k170⟩⟩⟩)⟩⟩⟩⟩⟩⟩⟩⟩)⟩⟩⟩⟩⟩⟩⟩⟩⟩⟩))⟩)))) (fun h153 k181 => wrapK.i64 k181 (fun h177 h178 k179 => ⟨(y139.1,y139.2.1,false,y139.2.2.2.1,y139.2.2.2.2.1,(y139.2.2.2.2.2 + (1 : Int))),SlS.mk  (slQ (Rds.self (enc := e_str)) (⟨rfl,⟨rfl,⟨rfl,⟨rfl,⟨rfl,⟨rfl,⟨rfl,⟨rfl,⟨rfl,⟨rfl,SlS.mk  (⟨rfl,⟨rfl,⟨rfl,⟨rfl,⟨rfl,⟨rfl,⟨rfl,⟨rfl,SlS.mk  (⟨rfl,⟨rfl,⟨rfl,k179⟩⟩⟩)⟩⟩⟩⟩⟩⟩⟩⟩)⟩⟩⟩⟩⟩⟩⟩⟩⟩⟩))⟩)))))) (fun h141 k198 => br k198 (Cnd.not Cnd.b) (fun h186 k195 => ⟨k195,trivial⟩) (fun h187 k196 => wrapK.i64 k196 (fun h192 h193 k194 => ⟨(y139.1,y139.2.2.2.1,(y139.2.2.2.2.1 + (1 : Int))),SlS.mk  (slQ (Rds.self (enc := e_str)) (⟨rfl,⟨rfl,⟨rfl,⟨rfl,⟨rfl,⟨rfl,SlS.mk  (⟨rfl,⟨rfl,⟨rfl,⟨rfl,⟨rfl,⟨rfl,⟨rfl,⟨rfl,SlS.mk  (⟨rfl,⟨rfl,⟨rfl,k194⟩⟩⟩)⟩⟩⟩⟩⟩⟩⟩⟩)⟩⟩⟩⟩⟩⟩))⟩)))⟩))) (fun h135 k204 => ⟨k204,trivial⟩)⟩))))⟩⟩⟩⟩)⟩⟩⟩⟩⟩⟩)⟩⟩)⟩⟩⟩⟩⟩⟩))⟩)⟩⟩⟩⟩)⟩⟩⟩⟩⟩⟩)⟩⟩)⟩⟩⟩⟩⟩)⟩)⟩)⟩⟩⟩⟩)⟩⟩⟩⟩⟩⟩))⟩)⟩⟩
theorem f340.eq (a : T_api_Machine × (List (T_api_Job)) × T_api_Task) : (f340.af a).gives f340.env (f340.args a) (f340.blks a) (f340.res a) (f340.blks' a) = f340.tree a := by kernel_rfl
end Go.Abs

-- interregnum/interregnumlaw13.VictimRanks
namespace Go.Abs
open Go
end Go.Abs

/- interregnum/interregnumlaw13.VictimRanks -/
namespace Go.Abs
open Go
set_option linter.unusedVariables false
end Go.Abs

/- The laws of layer 13. -/
namespace Go.Abs
open Go

def ndL (l : List TJob) : List TRes := l.map fun j => j.1.2.2.2.1

theorem nodup_map {α β : Type} (f : α → β) {l : List α} (h : (l.map f).Nodup) : l.Nodup := List.Pairwise.of_map f (fun _ _ hne e => hne (e ▸ rfl)) h

theorem goK_some {need : TRes} : ∀ {L : List TJob} {free : TRes} {k : Nat},goK need free L = some k → 1 ≤ k ∧ k ≤ L.length ∧ fitsR (need,addV free (sumV (ndL (L.take k)))) = true ∧ ∀ i,1 ≤ i → i < k → ¬ fitsR (need,addV free (sumV (ndL (L.take i)))) = true
  | [],_,_,h => by cases h
  | j :: L,free,k,h => by
    rw [goK] at h
    split at h
    · cases h
    · rename_i c
      have c := add_val (Classical.not_not.1 c)
      rw [c] at h
      split at h
      · rename_i hf
        cases h
        refine ⟨Nat.le_refl _,by simp,?_,fun i h1 h2 => by omega⟩
        simp only [List.take_succ_cons,List.take_zero,ndL,List.map_cons,List.map_nil,sumV]
        rw [addV_zero]
        exact hf
      · rename_i hf
        cases hr : goK need (addV free j.1.2.2.2.1) L with
        | none => rw [hr] at h; cases h
        | some k' =>
          rw [hr,Option.map_some,Option.some.injEq] at h
          subst h
          obtain ⟨h1,h2,h3,h4⟩ := goK_some hr
          have step : ∀ i,addV free (sumV (ndL ((j :: L).take (i + 1)))) = addV (addV free j.1.2.2.2.1) (sumV (ndL (L.take i))) := fun i => by
            rw [addV_assoc]
            rfl
          refine ⟨by omega,by simp only [List.length_cons]; omega,by rw [step]; exact h3,fun i e1 e2 => ?_⟩
          obtain ⟨i',rfl⟩ : ∃ i',i = i' + 1 := ⟨i - 1,by omega⟩
          rw [step]
          by_cases h0 : i' = 0
          · subst h0
            simp only [List.take_zero,ndL,List.map_nil,sumV]
            rw [addV_zero]
            exact hf
          · exact h4 i' (by omega) (by omega)

theorem insL_perm {α : Type} (lt : α → α → Bool) (x : α) : ∀ l,(insL lt x l).Perm (x :: l)
  | [] => List.Perm.refl _
  | y :: l => by
    simp only [insL]
    split
    · exact ((insL_perm lt x l).cons y).trans (List.Perm.swap x y l)
    · exact List.Perm.refl _
theorem sortS_perm {α : Type} (lt : α → α → Bool) : ∀ l,(sortS lt l).Perm l
  | [] => List.Perm.refl _
  | x :: l => (insL_perm lt x _).trans ((sortS_perm lt l).cons x)

theorem sumV_perm {l m : List TRes} (h : l.Perm m) : sumV l = sumV m := by
  induction h with
  | nil => rfl
  | cons x _ ih => simp only [sumV,ih]
  | swap x y l =>
    simp only [sumV]
    rw [← addV_assoc,← addV_assoc,addV_comm y x]
  | trans _ _ h1 h2 => exact h1.trans h2

theorem why_four {m : TMach} {l : List TJob} {t : TTask} : whyR (m,l,t) = 4 ↔
    ((freeR (m,l)).2 = 0 ∧ nodeB m.1 = true ∧ taskB t = true) ∧ m.2.1 = true ∧ hasAll (m.1.2.2,t.2.2.2.2.1) = true ∧ ¬ anyBother (l,m,t) = true ∧ ¬ fitsR (t.2.2.2.1,(freeR (m,l)).1) = true := by
  unfold whyR
  simp only
  split
  · rename_i h; exact ⟨fun hh => absurd hh (by decide),fun hh => absurd hh.1 h⟩
  · rename_i h
    split
    · rename_i h1; exact ⟨fun hh => absurd hh (by decide),fun hh => absurd hh.2.1 h1⟩
    · rename_i h1
      split
      · rename_i h2; exact ⟨fun hh => absurd hh (by decide),fun hh => absurd hh.2.2.1 h2⟩
      · rename_i h2
        split
        · rename_i h3; exact ⟨fun hh => absurd hh (by decide),fun hh => absurd h3 hh.2.2.2.1⟩
        · rename_i h3
          split
          · rename_i h4
            exact ⟨fun _ => ⟨Classical.not_not.1 h,Classical.not_not.1 h1,Classical.not_not.1 h2,h3,h4⟩,fun _ => rfl⟩
          · rename_i h4; exact ⟨fun hh => absurd hh (by decide),fun hh => absurd hh.2.2.2.2 h4⟩

theorem withoutV_sub (l : List TJob) (ns : List ByteArray) : (withoutV (l,ns)).Sublist l := List.filter_sublist

theorem free_without {m : TMach} {jobs T : List TJob} (hu : unlikeV jobs = true) (h : (freeR (m,jobs)).2 = 0) (hT : ∀ j ∈ T,j ∈ jobs ∧ j.2.2.1 = m.1.1) (hn : (T.map fun j => j.1.1).Nodup) :
    (freeR (m,withoutV (jobs,namesV T))).2 = 0 ∧ (freeR (m,withoutV (jobs,namesV T))).1 = addV (freeR (m,jobs)).1 (sumV (ndL T)) := by
  obtain ⟨h1,_⟩ := free_sub (withoutV_sub jobs (namesV T)) h
  refine ⟨h1,?_⟩
  rw [free_val h1,free_val h]
  simp only
  have uq : ∀ x ∈ jobs,∀ y ∈ jobs,x.1.1 = y.1.1 → x = y := by
    intro x hx y hy e
    obtain ⟨i,hi,rfl⟩ := List.mem_iff_getElem.1 hx
    obtain ⟨k,hk,rfl⟩ := List.mem_iff_getElem.1 hy
    rcases Nat.lt_trichotomy i k with hh | hh | hh
    · have := unlike_iff.1 hu k i hh hk
      rw [getD_of hi,getD_of hk] at this
      exact absurd e.symm this
    · subst hh; rfl
    · have := unlike_iff.1 hu i k hh hi
      rw [getD_of hi,getD_of hk] at this
      exact absurd e this
  have nd : (jobs.map fun j => j.1.1).Nodup := of_decide_eq_true hu
  have e1 : (bindL jobs m.1.1).Perm (bindL (jobs.filter fun j => (namesV T).any fun n => decide (n = j.1.1)) m.1.1 ++ bindL (withoutV (jobs,namesV T)) m.1.1) := by
    rw [← bindL_app]
    unfold bindL withoutV
    refine List.Perm.map _ (List.Perm.filter _ ?_)
    exact (List.filter_append_perm (fun j : TJob => (namesV T).any fun n => decide (n = j.1.1)) jobs).symm
  have e2 : (bindL (jobs.filter fun j => (namesV T).any fun n => decide (n = j.1.1)) m.1.1).Perm (ndL T) := by
    unfold bindL ndL
    refine List.Perm.map _ ?_
    have ndj : jobs.Nodup := nodup_map _ nd
    refine (List.perm_ext_iff_of_nodup ((ndj.filter _).filter _) (nodup_map _ hn)).2 fun x => ?_
    rw [List.mem_filter,List.mem_filter]
    constructor
    · rintro ⟨⟨hx,hx2⟩,_⟩
      rw [List.any_eq_true] at hx2
      obtain ⟨n,hn1,hn2⟩ := hx2
      obtain ⟨y,hy,rfl⟩ := List.mem_map.1 hn1
      have := uq x hx y (hT y hy).1 (of_decide_eq_true hn2).symm
      rw [this]
      exact hy
    · intro hx
      exact ⟨⟨(hT x hx).1,List.any_eq_true.2 ⟨x.1.1,List.mem_map.2 ⟨x,hx,rfl⟩,decide_eq_true rfl⟩⟩,decide_eq_true (hT x hx).2⟩
  have e3 : sumV (bindL jobs m.1.1) = addV (sumV (ndL T)) (sumV (bindL (withoutV (jobs,namesV T)) m.1.1)) := by
    rw [sumV_perm e1,sumV_app,sumV_perm e2]
  rw [e3]
  simp only [subV,addV,Prod.mk.injEq]
  omega

theorem weak_mem {a : TMach × List TJob × TTask} {j : TJob} (h : j ∈ weakS a) : j ∈ a.2.1 ∧ j.2.2.1 = a.1.1.1 ∧ j.1.2.2.1 < a.2.2.2.2.1 := by
  have := (sortS_mem weakW).1 h
  obtain ⟨h1,h2⟩ := List.mem_filter.1 this
  exact ⟨h1,of_decide_eq_true h2⟩

theorem weak_nodup {a : TMach × List TJob × TTask} (hu : unlikeV a.2.1 = true) : ((weakS a).map fun j => j.1.1).Nodup := by
  have nd : (a.2.1.map fun j => j.1.1).Nodup := of_decide_eq_true hu
  have : ((weakL a).map fun j => j.1.1).Nodup := nd.sublist (List.filter_sublist.map _)
  exact ((sortS_perm ltW (weakL a)).map _).nodup_iff.2 this

theorem why_gone {m : TMach} {jobs : List TJob} {t : TTask} (hu : unlikeV jobs = true) (h : whyR (m,jobs,t) = 4) (i : Nat) :
    whyR (m,withoutV (jobs,namesV ((weakS (m,jobs,t)).take i)),t) = if fitsR (t.2.2.2.1,addV (freeR (m,jobs)).1 (sumV (ndL ((weakS (m,jobs,t)).take i)))) = true then 0 else 4 := by
  obtain ⟨⟨c1,c2,c3⟩,c4,c5,c6,c7⟩ := why_four.1 h
  obtain ⟨f1,f2⟩ := free_without (m := m) (T := (weakS (m,jobs,t)).take i) hu c1 (fun j hj => by
    obtain ⟨h1,h2,_⟩ := weak_mem (List.mem_of_mem_take hj)
    exact ⟨h1,h2⟩) ((weak_nodup (a := (m,jobs,t)) hu).sublist ((List.take_sublist _ _).map _))
  have nb := any_sub (withoutV_sub jobs (namesV ((weakS (m,jobs,t)).take i))) c6
  split
  · rename_i hf
    exact why_zero.2 ⟨⟨f1,c2,c3⟩,c4,c5,nb,by rw [f2]; exact hf⟩
  · rename_i hf
    exact why_four.2 ⟨⟨f1,c2,c3⟩,c4,c5,nb,by rw [f2]; exact hf⟩

theorem plan_no {m : TMach} {jobs : List TJob} {t : TTask} (h : ¬ (planV (m,jobs,t)).2 = true) : (planV (m,jobs,t)).1 = [] ∧ ¬ whyR (m,jobs,t) = 0 := by
  unfold planV at h ⊢
  unfold goneV at h ⊢
  simp only at h ⊢
  split at h
  · exact absurd rfl h
  · rename_i c
    rw [if_neg c]
    split at h
    · rename_i c2
      rw [if_pos c2]
      exact ⟨rfl,c⟩
    · rename_i c2
      rw [if_neg c2]
      split at h
      · exact absurd rfl h
      · exact ⟨rfl,c⟩

theorem plan_yes {m : TMach} {jobs : List TJob} {t : TTask} (h : (planV (m,jobs,t)).2 = true) : (whyR (m,jobs,t) = 0 ∧ (planV (m,jobs,t)).1 = []) ∨
    (whyR (m,jobs,t) = 4 ∧ ∃ k,goK t.2.2.2.1 (freeR (m,jobs)).1 (weakS (m,jobs,t)) = some k ∧ (planV (m,jobs,t)).1 = namesV ((weakS (m,jobs,t)).take k)) := by
  unfold planV at h ⊢
  unfold goneV at h ⊢
  simp only at h ⊢
  split at h
  · rename_i c
    rw [if_pos c]
    exact .inl ⟨c,rfl⟩
  · rename_i c
    rw [if_neg c]
    split at h
    · cases h
    · rename_i c2
      rw [if_neg c2]
      split at h
      · rename_i k hg
        exact .inr ⟨Classical.not_not.1 c2,k,hg,rfl⟩
      · cases h

theorem f352.ok (a : Unit) (_ : True) : f352.vc a := by
  have e1 : planV (((f352.s0,((4 : Int),(0 : Int),(0 : Int)),[]),true,(0 : Int)),[((f352.s1,f352.s2,(0 : Int),((4 : Int),(0 : Int),(0 : Int)),[],ByteArray.empty,ByteArray.empty,(0 : Int)),(0 : Int),f352.s0,(0 : Int))],(f352.s3,f352.s2,(1 : Int),((1 : Int),(0 : Int),(0 : Int)),[],ByteArray.empty,ByteArray.empty,(0 : Int))) = ([f352.s1],true) := by decide +kernel
  unfold f352.vc
  rw [e1]
  refine ⟨⟨Nat.le_of_ble_eq_true rfl,⟨?_,?_⟩,⟨?_,?_,?_,?_,?_⟩,Nat.le_of_ble_eq_true rfl,Nat.le_of_ble_eq_true rfl⟩,fun _ => ⟨fun _ => ⟨by decide,show (f352.s1.toList == f352.s1.toList) = true from beq_self_eq_true _⟩,fun c => absurd rfl c⟩,fun c => absurd rfl c⟩ <;> first | exact Nat.le_of_ble_eq_true rfl | exact fun x hx => absurd hx List.not_mem_nil

theorem vict_pre {m : TMach} {l : List TJob} {t : TTask} (hs : k_api_Machine.size m + (k_sl_api_Job.size l + k_api_Task.size t) ≤ 1048576) : why_pre (m,l,t) ∧ few13_pre ([m],l,t) := by
  obtain ⟨hm,hml⟩ := mach_of_size (m := m) (by omega)
  have hj := jobs_of_size (l := l) (by omega)
  have ht := task_of_size (t := t) (by omega)
  have hw := wants_of_size (t := t) (by omega)
  exact ⟨⟨hj,hm,ht,hml,hw⟩,by unfold L20; simp,hj,hw,fun x hx => by rw [List.mem_singleton.1 hx]; exact ⟨hm.1,hml⟩⟩

set_option maxHeartbeats 2000000 in
theorem f340.ok (a : TMach × List TJob × TTask) (h : f340.lpre a) : f340.vc a := by
  obtain ⟨_,hs⟩ := h
  obtain ⟨m,l,t⟩ := a
  obtain ⟨hp,hf⟩ := vict_pre hs
  have hj : l.length ≤ 1048576 := hp.1
  refine ⟨fun _ => rfl,fun _ => ⟨hf,fun _ => rfl,fun _ => ⟨hp.1,fun _ => rfl,fun hu => ⟨hp,fun hno => ?_,fun hok => ?_⟩⟩⟩⟩
  · obtain ⟨e1,e2⟩ := plan_no hno
    refine ⟨fun _ => ⟨hp,?_⟩,fun c => absurd ?_ c⟩
    · exact bne_iff_ne.2 e2
    · simp only at e1 ⊢
      rw [e1]
      rfl
  · have hu := Classical.not_not.1 hu
    have hok := Classical.not_not.1 hok
    simp only at hu hok ⊢
    -- the names,of which jobs they are
    obtain ⟨T,hT,hTn,hin,hz,hl⟩ : ∃ T : List TJob,(planV (m,l,t)).1 = namesV T ∧ T.length ≤ l.length ∧ (∀ j ∈ T,j ∈ l ∧ j.2.2.1 = m.1.1 ∧ j.1.2.2.1 < t.2.2.1) ∧ whyR (m,withoutV (l,namesV T),t) = 0 ∧ (0 < T.length → whyR (m,withoutV (l,namesV (T.take (T.length - 1))),t) = 4) := by
      rcases plan_yes hok with ⟨h1,h2⟩ | ⟨h1,k,h2,h3⟩
      · refine ⟨[],h2,by simp,by simp,?_,by simp⟩
        have : withoutV (l,namesV []) = l := by unfold withoutV namesV; simp
        rw [this]
        exact h1
      · obtain ⟨k1,k2,k3,k4⟩ := goK_some h2
        have hw := weak_len (m,l,t)
        simp only at hw
        refine ⟨_,h3,by rw [List.length_take]; omega,fun j hj => weak_mem (List.mem_of_mem_take hj),?_,fun _ => ?_⟩
        · rw [why_gone hu h1 k,if_pos k3]
        · rw [List.length_take,Nat.min_eq_left k2,List.take_take,Nat.min_eq_left (by omega),why_gone hu h1 (k - 1)]
          by_cases h0 : k = 1
          · subst h0
            rw [if_neg]
            have := (why_four.1 h1).2.2.2.2
            simp only [Nat.sub_self,List.take_zero,ndL,List.map_nil,sumV]
            rw [addV_zero]
            exact this
          · rw [if_neg (k4 (k - 1) (by omega) (by omega))]
    generalize hP : (planV (m,l,t)).1 = P at *
    subst hT
    have hPl : (namesV T).length = T.length := by unfold namesV; simp
    have hwo : ∀ ns,(withoutV (l,ns)).length ≤ l.length := fun ns => (withoutV_sub l ns).length_le
    have hlast : subL (namesV T) (0 : Int) (((namesV T).length : Int) - 1) = namesV (T.take (T.length - 1)) := by
      unfold subL namesV
      simp only [Int.toNat_zero,List.drop_zero,List.map_take,List.length_map]
      congr 1
      omega
    refine ⟨⟨hj,by show (namesV T).length ≤ 1048576; omega⟩,⟨Nat.le_trans (hwo _) hj,hp.2⟩,fun c => absurd hz c,fun _ => ⟨fun c0 => ⟨by omega,by omega,by omega,by omega,⟨hj,?_⟩,⟨Nat.le_trans (hwo _) hj,hp.2⟩,fun c => absurd ?_ c,fun _ => ?_⟩,fun c0 => ?_⟩⟩
    · rw [hlast]
      unfold L20 namesV
      rw [List.length_map,List.length_take]
      omega
    · rw [hlast]
      exact hl (by omega)
    all_goals
      refine ⟨fun y => y.1 = namesV T ∧ y.2.1 = ((namesV T).length : Int) ∧ 0 ≤ y.2.2 ∧ y.2.2 ≤ ((namesV T).length : Int),fun y => (((namesV T).length : Int) - y.2.2).toNat,⟨rfl,rfl,by simp only; omega,by simp only; omega⟩,fun y hy => ?_⟩
      obtain ⟨y1,y2,i⟩ := y
      obtain ⟨g1,g2,g3,g4⟩ := hy
      simp only at g1 g2 g3 g4 ⊢
      subst g1; subst g2
      refine ⟨fun hlt => ?_,fun _ => rfl⟩
      -- the job of that name
      have hti : i.toNat < T.length := by omega
      obtain ⟨q1,q2,q3⟩ := hin (T.getD i.toNat default) (getD_mem hti)
      have hname : at_ (namesV T) i = (T.getD i.toNat default).1.1 := by
        unfold at_ namesV
        rw [getD_of (by rw [List.length_map]; exact hti),getD_of hti,List.getElem_map]
      obtain ⟨q,hq,hqe⟩ := List.mem_iff_getElem.1 q1
      have hq0 : l.getD q default = T.getD i.toNat default := by rw [getD_of hq]; exact hqe
      refine ⟨fun z => z.1 = namesV T ∧ z.2.1 = i ∧ z.2.2.2.1 = ((namesV T).length : Int) ∧ z.2.2.2.2.1 = i ∧ 0 ≤ z.2.2.2.2.2 ∧ z.2.2.2.2.2 ≤ (l.length : Int) ∧ (q < z.2.2.2.2.2.toNat → z.2.2.1 = true),fun z => ((l.length : Int) - z.2.2.2.2.2).toNat,⟨rfl,rfl,rfl,rfl,by simp only; omega,by simp only; omega,fun hh => by simp at hh⟩,fun z hz2 => ?_⟩
      obtain ⟨z1,z2,f,z4,z5,k⟩ := z
      obtain ⟨e1,e2,e3,e4,e5,e6,e7⟩ := hz2
      simp only at e1 e2 e3 e4 e5 e6 e7 ⊢
      subst e1; subst e2; subst e3; subst e4
      have found : k < (l.length : Int) → q = k.toNat → (at_ l k).1.1 = at_ (namesV T) z5 ∧ (at_ l k).2.2.1 = m.1.1 ∧ (at_ l k).1.2.2.1 < t.2.2.1 := fun _ hqk => by
        have : at_ l k = T.getD z5.toNat default := by rw [at_nat,← hqk]; exact hq0
        rw [this,hname]
        exact ⟨rfl,q2,q3⟩
      refine ⟨fun c => ⟨fun cf => ⟨by omega,by omega,⟨by trivial,by trivial,by trivial,by trivial,by omega,by omega,fun _ => by trivial⟩,by omega⟩,fun cf => ⟨by omega,by omega,by omega,by omega,fun cn => ⟨by omega,by omega,fun cb => ⟨by omega,by omega,by omega,by omega,⟨by trivial,by trivial,by trivial,by trivial,by omega,by omega,fun hh => ?_⟩,by omega⟩,fun cb => ⟨by omega,by omega,⟨by trivial,by trivial,by trivial,by trivial,by omega,by omega,fun hh => ?_⟩,by omega⟩⟩,fun cn => ⟨by omega,by omega,⟨by trivial,by trivial,by trivial,by trivial,by omega,by omega,fun hh => ?_⟩,by omega⟩⟩⟩,fun c => ⟨fun cf => ?_,fun cf => ⟨by omega,by omega,⟨by trivial,by trivial,by omega,by omega⟩,by omega⟩⟩⟩
      · by_cases hqk : q = k.toNat
        · exact decide_eq_true (found c hqk).2.2
        · exact absurd (e7 (by omega)) cf
      · by_cases hqk : q = k.toNat
        · exact absurd (found c hqk).2.1 cb
        · exact absurd (e7 (by omega)) cf
      · by_cases hqk : q = k.toNat
        · exact absurd (found c hqk).1 cn
        · exact absurd (e7 (by omega)) cf
      · exact absurd (e7 (by omega)) cf

end Go.Abs
