/- Functions, and what the code asks of them: PVictLaw. -/
import Derived.KernelRfl
import Derived.Test.YtabnaedcnfkmiaeB87fed3ff
import Derived.Test.YtabnaedcnfkmiaeBcda9c1b8
import Derived.Test.YtabnaedcnfkmiaeBd5e994aa
import Derived.Test.YtabnaedcnfkmiaeB2313a1b0
import Derived.Test.YtabnaedcnfkmiaeBd55ed18f
import Derived.Test.YtabnaedcnfkmiaeB2973f156
import Derived.Test.YtabnaedcnfkmiaeB7e0a5441
import Derived.Test.YtabnaedcnfkmiaeBf7d404a1
import Derived.Test.YtabnaedcnfkmiaeB497d9414
import Derived.Test.YtabnaedcnfkmiaeB3288b60d
import Derived.Test.YtabnaedcnfkmiaeB875207ab
set_option linter.unusedVariables false
set_option linter.unusedSimpArgs false
-- interregnum/interregnumlaw13.awake
namespace Go.Abs
open Go
def f352.args (a : Unit) : List D := []
def f352.blks (a : Unit) : List (List D) := []
def f352.res (a : Unit) : List D := [.bool (lawTrue a)]
def f352.blks' (a : Unit) : List (List D) := []
def f352.C : Contract := FnC f352.args f352.blks (fun _ => True) f352.res f352.blks'
end Go.Abs

/- interregnum/interregnumlaw13.awake -/
namespace Go.Abs
open Go
set_option linter.unusedVariables false
def f352.s0 : ByteArray := ⟨#[110]⟩
def f352.s1 : ByteArray := ⟨#[97]⟩
def f352.s2 : ByteArray := ⟨#[113]⟩
def f352.s3 : ByteArray := ⟨#[116]⟩
def f352.kills (a : Unit) : List Hint := []
def f352.cuts (a : Unit) : List (Nat × Σ β : Type,β→Tm) := []
def f352.af (a : Unit) : AF := AF.mk (.seq (.region [⟨(some 0),0,.move,[.c (.bool false)],none⟩])
 (.seq (.region [⟨(some 5),1,(.build [.int .i64 (0),.int .i64 (0),.int .i64 (0)] [(0,1)]),[.c (.int .i64 (4))],none⟩,
 ⟨(some 6),2,(.build [.str ByteArray.empty,.int .i64 (0),.int .i64 (0),.int .i64 (0),.slice .full 2 0 gnil] [(0,1),(1,3)]),[.c (.str f352.s0),.t 5],none⟩,
 ⟨(some 7),3,(.build [.str ByteArray.empty,.int .i64 (0),.int .i64 (0),.int .i64 (0),.slice .full 2 0 gnil,.bool false,.int .i64 (0)] [(0,5),(5,1)]),[.t 6,.c (.bool true)],none⟩,
 oT 1 4 (.alloc [.str ByteArray.empty,.int .i64 (0),.int .i64 (0),.int .i64 (0),.slice (.own 0) 2 0 gnil,.bool false,.int .i64 (0)]) [],
 ⟨none,12,(.store 7),[.t 1,.t 7],none⟩])
 (.seq (.region [⟨(some 8),13,(.build [.int .i64 (0),.int .i64 (0),.int .i64 (0)] [(0,1)]),[.c (.int .i64 (4))],none⟩,
 ⟨(some 9),14,(.build [.str ByteArray.empty,.str ByteArray.empty,.int .i64 (0),.int .i64 (0),.int .i64 (0),.int .i64 (0),.slice .full 2 0 gnil,.str ByteArray.empty,.str ByteArray.empty,.int .i64 (0)] [(0,1),(1,1),(3,3)]),[.c (.str f352.s1),.c (.str f352.s2),.t 8],none⟩,
 ⟨(some 10),15,(.build [.str ByteArray.empty,.str ByteArray.empty,.int .i64 (0),.int .i64 (0),.int .i64 (0),.int .i64 (0),.slice .full 2 0 gnil,.str ByteArray.empty,.str ByteArray.empty,.int .i64 (0),.int .i64 (0),.str ByteArray.empty,.int .i64 (0)] [(0,10),(11,1)]),[.t 9,.c (.str f352.s0)],none⟩,
 oT 11 16 (.buildSlice 13 1 [.str ByteArray.empty,.str ByteArray.empty,.int .i64 (0),.int .i64 (0),.int .i64 (0),.int .i64 (0),.slice .full 2 0 gnil,.str ByteArray.empty,.str ByteArray.empty,.int .i64 (0),.int .i64 (0),.str ByteArray.empty,.int .i64 (0)] [(0,13)]) [10],
 oT 2 17 .move [11]])
 (.seq (.region [oT 13 18 (.load true 7) [1],
 oT 14 19 .move [2],
 ⟨(some 15),20,(.build [.int .i64 (0),.int .i64 (0),.int .i64 (0)] [(0,1)]),[.c (.int .i64 (1))],none⟩,
 ⟨(some 16),21,(.build [.str ByteArray.empty,.str ByteArray.empty,.int .i64 (0),.int .i64 (0),.int .i64 (0),.int .i64 (0),.slice .full 2 0 gnil,.str ByteArray.empty,.str ByteArray.empty,.int .i64 (0)] [(0,1),(1,1),(2,1),(3,3)]),[.c (.str f352.s3),.c (.str f352.s2),.c (.int .i64 (1)),.t 15],none⟩,
 oT 17 22 (.call false 355) [13,14,16],
 oT 12 26 .move [17],
 oT 18 27 (.extract 0) [12],
 oT 19 28 (.extract 1) [12],
 oT 3 29 .move [18],
 oT 4 30 .move [19]])
 (.seq (.region [oT 20 31 .move [4],
 oT 21 32 .move [20],
 oG 22 33 .move [3] 21 true,
 oG 23 34 (.len false) [22] 21 true,
 ⟨(some 24),35,(.bin .eql),[.t 23,.c (.int .i64 (1))],(some (21,true))⟩,
 ⟨(some 25),36,.pick,[.t 21,.t 24,.c (.bool false)],none⟩,
 oT 26 37 .move [25],
 oG 27 38 .move [3] 26 true,
 ⟨(some 28),39,(.indexAddr 1 none),[.t 27,.c (.int .i64 (0))],(some (26,true))⟩,
 oG 29 40 (.load false 1) [28] 26 true,
 ⟨(some 30),41,(.bin .eql),[.t 29,.c (.str f352.s1)],(some (26,true))⟩,
 ⟨(some 31),42,.pick,[.t 26,.t 30,.c (.bool false)],none⟩,
 oT 0 43 .move [31]])
 (.ret))))))
 [.tmp 0] 0 32
def f352.env : Env := [(355,f355.C)]
def f352.tree (a : Unit) : Prop := ∃ c1 : T_api_Machine × (List (T_api_Job)) × T_api_Task,(f352.s0 = c1.1.1.1)∧((4 : Int) = c1.1.1.2.1.1)∧((0 : Int) = c1.1.1.2.1.2.1)∧((0 : Int) = c1.1.1.2.1.2.2)∧SlQ 0 c1.1.1.2.2.length gnil (gl e_api_Label c1.1.1.2.2) ((true = c1.1.2.1)∧((0 : Int) = c1.1.2.2)∧SlQ 1 c1.2.1.length (fun _ => [.str f352.s1,.str f352.s2,.int .i64 (0 : Int),.int .i64 (4 : Int),.int .i64 (0 : Int),.int .i64 (0 : Int),.slice .ro 2 0 gnil,.str ByteArray.empty,.str ByteArray.empty,.int .i64 (0 : Int),.int .i64 (0 : Int),.str f352.s0,.int .i64 (0 : Int)]) (gl e_api_Job c1.2.1) ((f352.s3 = c1.2.2.1)∧(f352.s2 = c1.2.2.2.1)∧((1 : Int) = c1.2.2.2.2.1)∧((1 : Int) = c1.2.2.2.2.2.1.1)∧((0 : Int) = c1.2.2.2.2.2.1.2.1)∧((0 : Int) = c1.2.2.2.2.2.1.2.2)∧SlQ 0 c1.2.2.2.2.2.2.1.length gnil (gl e_api_Label c1.2.2.2.2.2.2.1) ((ByteArray.empty = c1.2.2.2.2.2.2.2.1)∧(ByteArray.empty = c1.2.2.2.2.2.2.2.2.1)∧((0 : Int) = c1.2.2.2.2.2.2.2.2.2)∧(why_pre c1)∧Br ((planV c1).2) (Br ((((planV c1).1).length : Int) == (1 : Int)) (Br (decide ((0 : Int)≤(0 : Int)) && decide ((0 : Int) < (((planV c1).1).length : Int))) ((((at_ ((planV c1).1) (0 : Int)).toList == f352.s1.toList) = (lawTrue a))∧True) False) ((false = (lawTrue a))∧True)) ((false = (lawTrue a))∧True))))
def f352.vc (a : Unit) : Prop := (why_pre (((f352.s0,((4 : Int),(0 : Int),(0 : Int)),[]),true,(0 : Int)),[((f352.s1,f352.s2,(0 : Int),((4 : Int),(0 : Int),(0 : Int)),[],ByteArray.empty,ByteArray.empty,(0 : Int)),(0 : Int),f352.s0,(0 : Int))],(f352.s3,f352.s2,(1 : Int),((1 : Int),(0 : Int),(0 : Int)),[],ByteArray.empty,ByteArray.empty,(0 : Int)))∧((((planV (((f352.s0,((4 : Int),(0 : Int),(0 : Int)),[]),true,(0 : Int)),[((f352.s1,f352.s2,(0 : Int),((4 : Int),(0 : Int),(0 : Int)),[],ByteArray.empty,ByteArray.empty,(0 : Int)),(0 : Int),f352.s0,(0 : Int))],(f352.s3,f352.s2,(1 : Int),((1 : Int),(0 : Int),(0 : Int)),[],ByteArray.empty,ByteArray.empty,(0 : Int)))).2) = true→(((((planV (((f352.s0,((4 : Int),(0 : Int),(0 : Int)),[]),true,(0 : Int)),[((f352.s1,f352.s2,(0 : Int),((4 : Int),(0 : Int),(0 : Int)),[],ByteArray.empty,ByteArray.empty,(0 : Int)),(0 : Int),f352.s0,(0 : Int))],(f352.s3,f352.s2,(1 : Int),((1 : Int),(0 : Int),(0 : Int)),[],ByteArray.empty,ByteArray.empty,(0 : Int)))).1).length : Int) = (1 : Int)→((0 : Int) < (((planV (((f352.s0,((4 : Int),(0 : Int),(0 : Int)),[]),true,(0 : Int)),[((f352.s1,f352.s2,(0 : Int),((4 : Int),(0 : Int),(0 : Int)),[],ByteArray.empty,ByteArray.empty,(0 : Int)),(0 : Int),f352.s0,(0 : Int))],(f352.s3,f352.s2,(1 : Int),((1 : Int),(0 : Int),(0 : Int)),[],ByteArray.empty,ByteArray.empty,(0 : Int)))).1).length : Int)∧(((at_ ((planV (((f352.s0,((4 : Int),(0 : Int),(0 : Int)),[]),true,(0 : Int)),[((f352.s1,f352.s2,(0 : Int),((4 : Int),(0 : Int),(0 : Int)),[],ByteArray.empty,ByteArray.empty,(0 : Int)),(0 : Int),f352.s0,(0 : Int))],(f352.s3,f352.s2,(1 : Int),((1 : Int),(0 : Int),(0 : Int)),[],ByteArray.empty,ByteArray.empty,(0 : Int)))).1) (0 : Int)).toList == f352.s1.toList) = lawTrue a)))∧(¬ ((((planV (((f352.s0,((4 : Int),(0 : Int),(0 : Int)),[]),true,(0 : Int)),[((f352.s1,f352.s2,(0 : Int),((4 : Int),(0 : Int),(0 : Int)),[],ByteArray.empty,ByteArray.empty,(0 : Int)),(0 : Int),f352.s0,(0 : Int))],(f352.s3,f352.s2,(1 : Int),((1 : Int),(0 : Int),(0 : Int)),[],ByteArray.empty,ByteArray.empty,(0 : Int)))).1).length : Int) = (1 : Int))→(false = lawTrue a))))∧(¬ (((planV (((f352.s0,((4 : Int),(0 : Int),(0 : Int)),[]),true,(0 : Int)),[((f352.s1,f352.s2,(0 : Int),((4 : Int),(0 : Int),(0 : Int)),[],ByteArray.empty,ByteArray.empty,(0 : Int)),(0 : Int),f352.s0,(0 : Int))],(f352.s3,f352.s2,(1 : Int),((1 : Int),(0 : Int),(0 : Int)),[],ByteArray.empty,ByteArray.empty,(0 : Int)))).2) = true)→(false = lawTrue a))))
set_option maxRecDepth 100000 in
set_option maxHeartbeats 2000000 in
theorem f352.of (a : Unit) (h : f352.vc a) : f352.tree a := ⟨(((f352.s0,((4 : Int),(0 : Int),(0 : Int)),[]),true,(0 : Int)),[((f352.s1,f352.s2,(0 : Int),((4 : Int),(0 : Int),(0 : Int)),[],ByteArray.empty,ByteArray.empty,(0 : Int)),(0 : Int),f352.s0,(0 : Int))],(f352.s3,f352.s2,(1 : Int),((1 : Int),(0 : Int),(0 : Int)),[],ByteArray.empty,ByteArray.empty,(0 : Int))),⟨rfl,⟨rfl,⟨rfl,⟨rfl,slQ (Rds.nil (enc := e_api_Label)) (⟨rfl,⟨rfl,slQ (Rds.one (enc := e_api_Job) (DEqs.cons (DEq.refl _) (DEqs.cons (DEq.refl _) (DEqs.cons (DEq.refl _) (DEqs.cons (DEq.refl _) (DEqs.cons (DEq.refl _) (DEqs.cons (DEq.refl _) (DEqs.cons ((Rds.nil (enc := e_api_Label))).deq (DEqs.cons (DEq.refl _) (DEqs.cons (DEq.refl _) (DEqs.cons (DEq.refl _) (DEqs.cons (DEq.refl _) (DEqs.cons (DEq.refl _) (DEqs.cons (DEq.refl _) DEqs.nil)))))))))))))) (⟨rfl,⟨rfl,⟨rfl,⟨rfl,⟨rfl,⟨rfl,slQ (Rds.nil (enc := e_api_Label)) (⟨rfl,⟨rfl,⟨rfl,⟨h.1,br h.2 Cnd.b (fun h2 k13 => br k13 Cnd.eq (fun h4 k10 => chk k10.2 Cnd.ix ⟨(by decide),k10.1⟩ (fun h6 k8 => ⟨k8,trivial⟩)) (fun h5 k11 => ⟨k11,trivial⟩)) (fun h3 k14 => ⟨k14,trivial⟩)⟩⟩⟩⟩)⟩⟩⟩⟩⟩⟩)⟩⟩)⟩⟩⟩⟩⟩
theorem f352.eq (a : Unit) : (f352.af a).gives f352.env (f352.args a) (f352.blks a) (f352.res a) (f352.blks' a) = f352.tree a := by kernel_rfl
end Go.Abs

-- interregnum/interregnumlaw13.VictimRoom
namespace Go.Abs
open Go
end Go.Abs

/- interregnum/interregnumlaw13.VictimRoom -/
namespace Go.Abs
open Go
set_option linter.unusedVariables false
end Go.Abs

-- interregnum/interregnumlaw13.VictimRanks
namespace Go.Abs
open Go
def f371.wf (a : T_api_Machine × (List (T_api_Job)) × T_api_Task) : Prop := k_api_Machine.ok a.1∧k_sl_api_Job.ok a.2.1∧k_api_Task.ok a.2.2
def f371.size (a : T_api_Machine × (List (T_api_Job)) × T_api_Task) : Nat := k_api_Machine.size a.1 + (k_sl_api_Job.size a.2.1 + (k_api_Task.size a.2.2))
def f371.lpre (a : T_api_Machine × (List (T_api_Job)) × T_api_Task) : Prop := f371.wf a∧f371.size a≤1048576
def f371.args (a : T_api_Machine × (List (T_api_Job)) × T_api_Task) : List D := [.agg [.str a.1.1.1,.int .i64 a.1.1.2.1.1,.int .i64 a.1.1.2.1.2.1,.int .i64 a.1.1.2.1.2.2,.slice .ro 2 a.1.1.2.2.length (gl e_api_Label a.1.1.2.2),.bool a.1.2.1,.int .i64 a.1.2.2],.slice .ro 13 a.2.1.length (gl e_api_Job a.2.1),.agg [.str a.2.2.1,.str a.2.2.2.1,.int .i64 a.2.2.2.2.1,.int .i64 a.2.2.2.2.2.1.1,.int .i64 a.2.2.2.2.2.1.2.1,.int .i64 a.2.2.2.2.2.1.2.2,.slice .ro 2 a.2.2.2.2.2.2.1.length (gl e_api_Label a.2.2.2.2.2.2.1),.str a.2.2.2.2.2.2.2.1,.str a.2.2.2.2.2.2.2.2.1,.int .i64 a.2.2.2.2.2.2.2.2.2]]
def f371.blks (a : T_api_Machine × (List (T_api_Job)) × T_api_Task) : List (List D) := []
def f371.res (a : T_api_Machine × (List (T_api_Job)) × T_api_Task) : List D := [.bool (lawTrue a)]
def f371.blks' (a : T_api_Machine × (List (T_api_Job)) × T_api_Task) : List (List D) := []
def f371.C : Contract := FnC f371.args f371.blks (fun a => f371.lpre a) f371.res f371.blks'
end Go.Abs

/- interregnum/interregnumlaw13.VictimRanks -/
namespace Go.Abs
open Go
set_option linter.unusedVariables false
def f371.S0 (a : T_api_Machine × (List (T_api_Job)) × T_api_Task) (x : Int) : Tm := ⟨[.dead,.slice .ro 13 a.2.1.length (gl e_api_Job a.2.1),.dead,.ptr 0 0,.dead,.ptr 1 0,.dead,.ptr 26 0,.ptr 37 0,.dead,.dead,.dead,.dead,.dead,.dead,.dead,.dead,.dead,.dead,.dead,.dead,.dead,.dead,.dead,.dead,.dead,.dead,.dead,.dead,.dead,.dead,.dead,.int .i64 (a.2.1.length : Int),.int .i64 x,.dead,.dead,.dead,.dead,.dead,.dead,.dead,.dead,.dead,.dead,.dead,.dead,.dead,.dead,.dead,.dead,.dead,.dead,.dead,.dead,.dead,.dead,.dead,.dead,.dead,.dead,.dead,.dead,.dead,.dead,.dead,.dead,.dead,.dead,.dead,.dead,.dead,.dead,.dead,.dead,.dead,.dead,.dead,.dead,.dead,.dead,.dead,.dead],[(0,false,[.str a.1.1.1,.int .i64 a.1.1.2.1.1,.int .i64 a.1.1.2.1.2.1,.int .i64 a.1.1.2.1.2.2,.slice .ro 2 a.1.1.2.2.length (gl e_api_Label a.1.1.2.2),.bool a.1.2.1,.int .i64 a.1.2.2]),(1,false,[.str a.2.2.1,.str a.2.2.2.1,.int .i64 a.2.2.2.2.1,.int .i64 a.2.2.2.2.2.1.1,.int .i64 a.2.2.2.2.2.1.2.1,.int .i64 a.2.2.2.2.2.1.2.2,.slice .ro 2 a.2.2.2.2.2.2.1.length (gl e_api_Label a.2.2.2.2.2.2.1),.str a.2.2.2.2.2.2.2.1,.str a.2.2.2.2.2.2.2.2.1,.int .i64 a.2.2.2.2.2.2.2.2.2]),(26,false,[.str a.2.2.1,.str a.2.2.2.1,.int .i64 (0 : Int),.int .i64 a.2.2.2.2.2.1.1,.int .i64 a.2.2.2.2.2.1.2.1,.int .i64 a.2.2.2.2.2.1.2.2,.slice .ro 2 a.2.2.2.2.2.2.1.length (gl e_api_Label a.2.2.2.2.2.2.1),.str a.2.2.2.2.2.2.2.1,.str a.2.2.2.2.2.2.2.2.1,.int .i64 a.2.2.2.2.2.2.2.2.2]),(37,false,[.str a.2.2.1,.str a.2.2.2.1,.int .i64 (9 : Int),.int .i64 a.2.2.2.2.2.1.1,.int .i64 a.2.2.2.2.2.1.2.1,.int .i64 a.2.2.2.2.2.1.2.2,.slice .ro 2 a.2.2.2.2.2.2.1.length (gl e_api_Label a.2.2.2.2.2.2.1),.str a.2.2.2.2.2.2.2.1,.str a.2.2.2.2.2.2.2.2.1,.int .i64 a.2.2.2.2.2.2.2.2.2])],[]⟩
def f371.kills (a : T_api_Machine × (List (T_api_Job)) × T_api_Task) : List Hint := [.tell Int (f371.S0 a)]
def f371.cuts (a : T_api_Machine × (List (T_api_Job)) × T_api_Task) : List (Nat × Σ β : Type,β→Tm) := []
def f371.af (a : T_api_Machine × (List (T_api_Job)) × T_api_Task) : AF := AF.mk (.seq (.region [oT 3 0 .box [0],
 oT 5 1 .box [2],
 ⟨(some 6),2,.move,[.c (.bool false)],none⟩])
 (.seq (.seq (.region [oT 16 3 (.call false 352) [],
 oT 17 7 (.un .not) [16],
 oT 18 8 .move [17],
 oG 19 9 (.load true 7) [3] 18 false,
 oG 20 10 (.buildSlice 7 1 [.str ByteArray.empty,.int .i64 (0),.int .i64 (0),.int .i64 (0),.slice .full 2 0 gnil,.bool false,.int .i64 (0)] [(0,7)]) [19] 18 false,
 oG 21 11 .move [1] 18 false,
 oG 22 12 (.load true 10) [5] 18 false,
 oG 23 13 (.call false 353) [20,21,22] 18 false,
 oG 24 17 (.un .not) [23] 18 false,
 ⟨(some 25),18,.pick,[.t 18,.c (.bool true),.t 24],none⟩])
 (.cond (.t 25) (.seq (.region [oT 26 19 (.call false 352) [],
 oT 6 23 .move [26]])
 (.ret)) (.skip)))
 (.seq (.orders [[oT 27 24 (.load true 10) [5],oT 28 25 (.load true 10) [5],oT 7 26 (.alloc [.str ByteArray.empty,.str ByteArray.empty,.int .i64 (0),.int .i64 (0),.int .i64 (0),.int .i64 (0),.slice (.own 0) 2 0 gnil,.str ByteArray.empty,.str ByteArray.empty,.int .i64 (0)]) [],oT 8 37 (.alloc [.str ByteArray.empty,.str ByteArray.empty,.int .i64 (0),.int .i64 (0),.int .i64 (0),.int .i64 (0),.slice (.own 0) 2 0 gnil,.str ByteArray.empty,.str ByteArray.empty,.int .i64 (0)]) [],⟨none,48,(.store 10),[.t 7,.t 27],none⟩,⟨none,49,(.store 10),[.t 8,.t 28],none⟩],
 [oT 27 24 (.load true 10) [5],oT 7 26 (.alloc [.str ByteArray.empty,.str ByteArray.empty,.int .i64 (0),.int .i64 (0),.int .i64 (0),.int .i64 (0),.slice (.own 0) 2 0 gnil,.str ByteArray.empty,.str ByteArray.empty,.int .i64 (0)]) [],oT 8 37 (.alloc [.str ByteArray.empty,.str ByteArray.empty,.int .i64 (0),.int .i64 (0),.int .i64 (0),.int .i64 (0),.slice (.own 0) 2 0 gnil,.str ByteArray.empty,.str ByteArray.empty,.int .i64 (0)]) [],⟨none,48,(.store 10),[.t 7,.t 27],none⟩,oT 28 25 (.load true 10) [5],⟨none,49,(.store 10),[.t 8,.t 28],none⟩]])
 (.seq (.region [oT 29 50 (.fieldAddr 2) [7],
 ⟨none,51,(.store 1),[.t 29,.c (.int .i64 (0))],none⟩])
 (.seq (.region [oT 30 52 (.fieldAddr 2) [8],
 ⟨none,53,(.store 1),[.t 30,.c (.int .i64 (9))],none⟩])
 (.seq (.seq (.region [oT 31 54 .move [1],
 oT 32 55 (.len false) [31],
 ⟨(some 33),56,.move,[.c (.int .i64 (0))],none⟩])
 (.block 0 (.loopT Int (f371.S0 a) 57 70 (.seq (.region [oT 34 57 (.bin .lss) [33,32]])
 (.seq (.cond (.t 34) (.skip) (.exit 0))
 (.seq (.block 1 (.seq (.region [oT 35 58 .move [33],
 oT 9 59 .move [35]])
 (.seq (.region [oT 36 60 .move [1],
 oT 37 61 .move [9],
 oT 38 62 (.indexAddr 13 none) [36,37],
 oT 39 63 (.fieldAddr 0) [38],
 oT 40 64 (.fieldAddr 2) [39],
 oT 41 65 (.load false 1) [40],
 ⟨(some 42),66,(.bin .lss),[.t 41,.c (.int .i64 (0))],none⟩])
 (.cond (.t 42) (.seq (.region [⟨(some 6),67,.move,[.c (.bool true)],none⟩])
 (.ret)) (.skip)))))
 (.region [⟨(some 43),68,(.bin .add),[.t 33,.c (.int .i64 (1))],none⟩,
 oT 33 69 .move [43]])))))))
 (.seq (.region [oT 45 70 (.load true 7) [3],
 oT 46 71 .move [1],
 oT 47 72 (.load true 10) [7],
 oT 48 73 (.call false 355) [45,46,47],
 oT 44 77 .move [48],
 oT 49 78 (.extract 0) [44],
 oT 50 79 (.extract 1) [44],
 oT 10 80 .move [49],
 oT 11 81 .move [50]])
 (.seq (.seq (.region [oT 51 82 .move [10],
 oT 52 83 (.len false) [51],
 ⟨(some 53),84,(.bin .neq),[.t 52,.c (.int .i64 (0))],none⟩,
 oT 54 85 .move [53],
 oG 55 86 .move [11] 54 false,
 oG 56 87 (.load true 7) [3] 54 false,
 oG 57 88 .move [1] 54 false,
 oG 58 89 (.load true 10) [7] 54 false,
 oG 59 90 (.call false 111) [56,57,58] 54 false,
 ⟨(some 60),94,(.bin .eql),[.t 59,.c (.int .i64 (0))],(some (54,false))⟩,
 oG 61 95 (.binB true) [55,60] 54 false,
 ⟨(some 62),96,.pick,[.t 54,.c (.bool true),.t 61],none⟩])
 (.cond (.t 62) (.seq (.region [⟨(some 6),97,.move,[.c (.bool false)],none⟩])
 (.ret)) (.skip)))
 (.seq (.region [oT 64 98 (.load true 7) [3],
 oT 65 99 .move [1],
 oT 66 100 (.load true 10) [5],
 oT 67 101 (.call false 355) [64,65,66],
 oT 63 105 .move [67],
 oT 68 106 (.extract 0) [63],
 oT 69 107 (.extract 1) [63],
 oT 12 108 .move [68],
 oT 13 109 .move [69]])
 (.seq (.region [oT 71 110 (.load true 7) [3],
 oT 72 111 .move [1],
 oT 73 112 (.load true 10) [8],
 oT 74 113 (.call false 355) [71,72,73],
 oT 70 117 .move [74],
 oT 75 118 (.extract 0) [70],
 oT 76 119 (.extract 1) [70],
 oT 14 120 .move [75],
 oT 15 121 .move [76]])
 (.seq (.region [oT 77 122 .move [13],
 oT 78 123 (.un .not) [77],
 oT 79 124 .move [78],
 oG 80 125 .move [15] 79 false,
 ⟨(some 81),126,.pick,[.t 79,.c (.bool true),.t 80],none⟩,
 oT 6 127 .move [81]])
 (.ret))))))))))))
 [.tmp 6] 0 79
def f371.env : Env := [(352,f352.C),(353,f353.C),(355,f355.C),(111,f111.C)]
def f371.tree (a : T_api_Machine × (List (T_api_Job)) × T_api_Task) : Prop := ∃ c1 : Unit,True∧Br (!(lawTrue c1)) (∃ c4 : Unit,True∧((lawTrue c4) = (lawTrue a))∧True) (∃ c7 : (List (T_api_Machine)) × (List (T_api_Job)) × T_api_Task,SlQ 1 c7.1.length (fun _ => [.str a.1.1.1,.int .i64 a.1.1.2.1.1,.int .i64 a.1.1.2.1.2.1,.int .i64 a.1.1.2.1.2.2,.slice .ro 2 a.1.1.2.2.length (gl e_api_Label a.1.1.2.2),.bool a.1.2.1,.int .i64 a.1.2.2]) (gl e_api_Machine c7.1) (SlQ a.2.1.length c7.2.1.length (gl e_api_Job a.2.1) (gl e_api_Job c7.2.1) ((a.2.2.1 = c7.2.2.1)∧(a.2.2.2.1 = c7.2.2.2.1)∧(a.2.2.2.2.1 = c7.2.2.2.2.1)∧(a.2.2.2.2.2.1.1 = c7.2.2.2.2.2.1.1)∧(a.2.2.2.2.2.1.2.1 = c7.2.2.2.2.2.1.2.1)∧(a.2.2.2.2.2.1.2.2 = c7.2.2.2.2.2.1.2.2)∧SlQ a.2.2.2.2.2.2.1.length c7.2.2.2.2.2.2.1.length (gl e_api_Label a.2.2.2.2.2.2.1) (gl e_api_Label c7.2.2.2.2.2.2.1) ((a.2.2.2.2.2.2.2.1 = c7.2.2.2.2.2.2.2.1)∧(a.2.2.2.2.2.2.2.2.1 = c7.2.2.2.2.2.2.2.2.1)∧(a.2.2.2.2.2.2.2.2.2 = c7.2.2.2.2.2.2.2.2.2)∧(few13_pre c7)∧Br (!(few13 c7)) (∃ c10 : Unit,True∧((lawTrue c10) = (lawTrue a))∧True) ((∃ (I14 : Int→Prop) (μ15 : Int→Nat),(∃ x13 : Int,SlS e_api_Job a.2.1 (((a.2.1.length : Int) = (a.2.1.length : Int))∧((0 : Int) = x13)∧(a.1.1.1 = a.1.1.1)∧(a.1.1.2.1.1 = a.1.1.2.1.1)∧(a.1.1.2.1.2.1 = a.1.1.2.1.2.1)∧(a.1.1.2.1.2.2 = a.1.1.2.1.2.2)∧SlS e_api_Label a.1.1.2.2 ((a.1.2.1 = a.1.2.1)∧(a.1.2.2 = a.1.2.2)∧(a.2.2.1 = a.2.2.1)∧(a.2.2.2.1 = a.2.2.2.1)∧(a.2.2.2.2.1 = a.2.2.2.2.1)∧(a.2.2.2.2.2.1.1 = a.2.2.2.2.2.1.1)∧(a.2.2.2.2.2.1.2.1 = a.2.2.2.2.2.1.2.1)∧(a.2.2.2.2.2.1.2.2 = a.2.2.2.2.2.1.2.2)∧SlS e_api_Label a.2.2.2.2.2.2.1 ((a.2.2.2.2.2.2.2.1 = a.2.2.2.2.2.2.2.1)∧(a.2.2.2.2.2.2.2.2.1 = a.2.2.2.2.2.2.2.2.1)∧(a.2.2.2.2.2.2.2.2.2 = a.2.2.2.2.2.2.2.2.2)∧(a.2.2.1 = a.2.2.1)∧(a.2.2.2.1 = a.2.2.2.1)∧((0 : Int) = (0 : Int))∧(a.2.2.2.2.2.1.1 = a.2.2.2.2.2.1.1)∧(a.2.2.2.2.2.1.2.1 = a.2.2.2.2.2.1.2.1)∧(a.2.2.2.2.2.1.2.2 = a.2.2.2.2.2.1.2.2)∧SlS e_api_Label a.2.2.2.2.2.2.1 ((a.2.2.2.2.2.2.2.1 = a.2.2.2.2.2.2.2.1)∧(a.2.2.2.2.2.2.2.2.1 = a.2.2.2.2.2.2.2.2.1)∧(a.2.2.2.2.2.2.2.2.2 = a.2.2.2.2.2.2.2.2.2)∧(a.2.2.1 = a.2.2.1)∧(a.2.2.2.1 = a.2.2.2.1)∧((9 : Int) = (9 : Int))∧(a.2.2.2.2.2.1.1 = a.2.2.2.2.2.1.1)∧(a.2.2.2.2.2.1.2.1 = a.2.2.2.2.2.1.2.1)∧(a.2.2.2.2.2.1.2.2 = a.2.2.2.2.2.1.2.2)∧SlS e_api_Label a.2.2.2.2.2.2.1 ((a.2.2.2.2.2.2.2.1 = a.2.2.2.2.2.2.2.1)∧(a.2.2.2.2.2.2.2.2.1 = a.2.2.2.2.2.2.2.2.1)∧(a.2.2.2.2.2.2.2.2.2 = a.2.2.2.2.2.2.2.2.2)∧I14 x13))))))∧∀ y16 : Int,I14 y16→(Br (decide (y16 < (a.2.1.length : Int))) (Br (decide ((0 : Int)≤y16) && decide (y16 < (a.2.1.length : Int))) (Br (decide ((((at_ a.2.1 y16).1).2.2.1) < (0 : Int))) ((true = (lawTrue a))∧True) (Let (IntKind.i64.wrap (y16 + (1 : Int))) (fun v23 : Int => ∃ x24 : Int,SlS e_api_Job a.2.1 (((a.2.1.length : Int) = (a.2.1.length : Int))∧(v23 = x24)∧(a.1.1.1 = a.1.1.1)∧(a.1.1.2.1.1 = a.1.1.2.1.1)∧(a.1.1.2.1.2.1 = a.1.1.2.1.2.1)∧(a.1.1.2.1.2.2 = a.1.1.2.1.2.2)∧SlS e_api_Label a.1.1.2.2 ((a.1.2.1 = a.1.2.1)∧(a.1.2.2 = a.1.2.2)∧(a.2.2.1 = a.2.2.1)∧(a.2.2.2.1 = a.2.2.2.1)∧(a.2.2.2.2.1 = a.2.2.2.2.1)∧(a.2.2.2.2.2.1.1 = a.2.2.2.2.2.1.1)∧(a.2.2.2.2.2.1.2.1 = a.2.2.2.2.2.1.2.1)∧(a.2.2.2.2.2.1.2.2 = a.2.2.2.2.2.1.2.2)∧SlS e_api_Label a.2.2.2.2.2.2.1 ((a.2.2.2.2.2.2.2.1 = a.2.2.2.2.2.2.2.1)∧(a.2.2.2.2.2.2.2.2.1 = a.2.2.2.2.2.2.2.2.1)∧(a.2.2.2.2.2.2.2.2.2 = a.2.2.2.2.2.2.2.2.2)∧(a.2.2.1 = a.2.2.1)∧(a.2.2.2.1 = a.2.2.2.1)∧((0 : Int) = (0 : Int))∧(a.2.2.2.2.2.1.1 = a.2.2.2.2.2.1.1)∧(a.2.2.2.2.2.1.2.1 = a.2.2.2.2.2.1.2.1)∧(a.2.2.2.2.2.1.2.2 = a.2.2.2.2.2.1.2.2)∧SlS e_api_Label a.2.2.2.2.2.2.1 ((a.2.2.2.2.2.2.2.1 = a.2.2.2.2.2.2.2.1)∧(a.2.2.2.2.2.2.2.2.1 = a.2.2.2.2.2.2.2.2.1)∧(a.2.2.2.2.2.2.2.2.2 = a.2.2.2.2.2.2.2.2.2)∧(a.2.2.1 = a.2.2.1)∧(a.2.2.2.1 = a.2.2.2.1)∧((9 : Int) = (9 : Int))∧(a.2.2.2.2.2.1.1 = a.2.2.2.2.2.1.1)∧(a.2.2.2.2.2.1.2.1 = a.2.2.2.2.2.1.2.1)∧(a.2.2.2.2.2.1.2.2 = a.2.2.2.2.2.1.2.2)∧SlS e_api_Label a.2.2.2.2.2.2.1 ((a.2.2.2.2.2.2.2.1 = a.2.2.2.2.2.2.2.1)∧(a.2.2.2.2.2.2.2.2.1 = a.2.2.2.2.2.2.2.2.1)∧(a.2.2.2.2.2.2.2.2.2 = a.2.2.2.2.2.2.2.2.2)∧I14 x24∧μ15 x24 < μ15 y16)))))))) False) (∃ c32 : T_api_Machine × (List (T_api_Job)) × T_api_Task,(a.1.1.1 = c32.1.1.1)∧(a.1.1.2.1.1 = c32.1.1.2.1.1)∧(a.1.1.2.1.2.1 = c32.1.1.2.1.2.1)∧(a.1.1.2.1.2.2 = c32.1.1.2.1.2.2)∧SlQ a.1.1.2.2.length c32.1.1.2.2.length (gl e_api_Label a.1.1.2.2) (gl e_api_Label c32.1.1.2.2) ((a.1.2.1 = c32.1.2.1)∧(a.1.2.2 = c32.1.2.2)∧SlQ a.2.1.length c32.2.1.length (gl e_api_Job a.2.1) (gl e_api_Job c32.2.1) ((a.2.2.1 = c32.2.2.1)∧(a.2.2.2.1 = c32.2.2.2.1)∧((0 : Int) = c32.2.2.2.2.1)∧(a.2.2.2.2.2.1.1 = c32.2.2.2.2.2.1.1)∧(a.2.2.2.2.2.1.2.1 = c32.2.2.2.2.2.1.2.1)∧(a.2.2.2.2.2.1.2.2 = c32.2.2.2.2.2.1.2.2)∧SlQ a.2.2.2.2.2.2.1.length c32.2.2.2.2.2.2.1.length (gl e_api_Label a.2.2.2.2.2.2.1) (gl e_api_Label c32.2.2.2.2.2.2.1) ((a.2.2.2.2.2.2.2.1 = c32.2.2.2.2.2.2.2.1)∧(a.2.2.2.2.2.2.2.2.1 = c32.2.2.2.2.2.2.2.2.1)∧(a.2.2.2.2.2.2.2.2.2 = c32.2.2.2.2.2.2.2.2.2)∧(why_pre c32)∧Br ((((planV c32).1).length : Int) != (0 : Int)) ((false = (lawTrue a))∧True) (∃ c36 : T_api_Machine × (List (T_api_Job)) × T_api_Task,(a.1.1.1 = c36.1.1.1)∧(a.1.1.2.1.1 = c36.1.1.2.1.1)∧(a.1.1.2.1.2.1 = c36.1.1.2.1.2.1)∧(a.1.1.2.1.2.2 = c36.1.1.2.1.2.2)∧SlQ a.1.1.2.2.length c36.1.1.2.2.length (gl e_api_Label a.1.1.2.2) (gl e_api_Label c36.1.1.2.2) ((a.1.2.1 = c36.1.2.1)∧(a.1.2.2 = c36.1.2.2)∧SlQ a.2.1.length c36.2.1.length (gl e_api_Job a.2.1) (gl e_api_Job c36.2.1) ((a.2.2.1 = c36.2.2.1)∧(a.2.2.2.1 = c36.2.2.2.1)∧((0 : Int) = c36.2.2.2.2.1)∧(a.2.2.2.2.2.1.1 = c36.2.2.2.2.2.1.1)∧(a.2.2.2.2.2.1.2.1 = c36.2.2.2.2.2.1.2.1)∧(a.2.2.2.2.2.1.2.2 = c36.2.2.2.2.2.1.2.2)∧SlQ a.2.2.2.2.2.2.1.length c36.2.2.2.2.2.2.1.length (gl e_api_Label a.2.2.2.2.2.2.1) (gl e_api_Label c36.2.2.2.2.2.2.1) ((a.2.2.2.2.2.2.2.1 = c36.2.2.2.2.2.2.2.1)∧(a.2.2.2.2.2.2.2.2.1 = c36.2.2.2.2.2.2.2.2.1)∧(a.2.2.2.2.2.2.2.2.2 = c36.2.2.2.2.2.2.2.2.2)∧(why_pre c36)∧Br (!(((planV c32).2) == ((whyR c36) == (0 : Int)))) ((false = (lawTrue a))∧True) (∃ c40 : T_api_Machine × (List (T_api_Job)) × T_api_Task,(a.1.1.1 = c40.1.1.1)∧(a.1.1.2.1.1 = c40.1.1.2.1.1)∧(a.1.1.2.1.2.1 = c40.1.1.2.1.2.1)∧(a.1.1.2.1.2.2 = c40.1.1.2.1.2.2)∧SlQ a.1.1.2.2.length c40.1.1.2.2.length (gl e_api_Label a.1.1.2.2) (gl e_api_Label c40.1.1.2.2) ((a.1.2.1 = c40.1.2.1)∧(a.1.2.2 = c40.1.2.2)∧SlQ a.2.1.length c40.2.1.length (gl e_api_Job a.2.1) (gl e_api_Job c40.2.1) ((a.2.2.1 = c40.2.2.1)∧(a.2.2.2.1 = c40.2.2.2.1)∧(a.2.2.2.2.1 = c40.2.2.2.2.1)∧(a.2.2.2.2.2.1.1 = c40.2.2.2.2.2.1.1)∧(a.2.2.2.2.2.1.2.1 = c40.2.2.2.2.2.1.2.1)∧(a.2.2.2.2.2.1.2.2 = c40.2.2.2.2.2.1.2.2)∧SlQ a.2.2.2.2.2.2.1.length c40.2.2.2.2.2.2.1.length (gl e_api_Label a.2.2.2.2.2.2.1) (gl e_api_Label c40.2.2.2.2.2.2.1) ((a.2.2.2.2.2.2.2.1 = c40.2.2.2.2.2.2.2.1)∧(a.2.2.2.2.2.2.2.2.1 = c40.2.2.2.2.2.2.2.2.1)∧(a.2.2.2.2.2.2.2.2.2 = c40.2.2.2.2.2.2.2.2.2)∧(why_pre c40)∧∃ c41 : T_api_Machine × (List (T_api_Job)) × T_api_Task,(a.1.1.1 = c41.1.1.1)∧(a.1.1.2.1.1 = c41.1.1.2.1.1)∧(a.1.1.2.1.2.1 = c41.1.1.2.1.2.1)∧(a.1.1.2.1.2.2 = c41.1.1.2.1.2.2)∧SlQ a.1.1.2.2.length c41.1.1.2.2.length (gl e_api_Label a.1.1.2.2) (gl e_api_Label c41.1.1.2.2) ((a.1.2.1 = c41.1.2.1)∧(a.1.2.2 = c41.1.2.2)∧SlQ a.2.1.length c41.2.1.length (gl e_api_Job a.2.1) (gl e_api_Job c41.2.1) ((a.2.2.1 = c41.2.2.1)∧(a.2.2.2.1 = c41.2.2.2.1)∧((9 : Int) = c41.2.2.2.2.1)∧(a.2.2.2.2.2.1.1 = c41.2.2.2.2.2.1.1)∧(a.2.2.2.2.2.1.2.1 = c41.2.2.2.2.2.1.2.1)∧(a.2.2.2.2.2.1.2.2 = c41.2.2.2.2.2.1.2.2)∧SlQ a.2.2.2.2.2.2.1.length c41.2.2.2.2.2.2.1.length (gl e_api_Label a.2.2.2.2.2.2.1) (gl e_api_Label c41.2.2.2.2.2.2.1) ((a.2.2.2.2.2.2.2.1 = c41.2.2.2.2.2.2.2.1)∧(a.2.2.2.2.2.2.2.2.1 = c41.2.2.2.2.2.2.2.2.1)∧(a.2.2.2.2.2.2.2.2.2 = c41.2.2.2.2.2.2.2.2.2)∧(why_pre c41)∧Br (!((planV c40).2)) ((true = (lawTrue a))∧True) ((((planV c41).2) = (lawTrue a))∧True))))))))))))))))))∧(∃ (I14 : Int→Prop) (μ15 : Int→Nat),(∃ x13 : Int,SlS e_api_Job a.2.1 (((a.2.1.length : Int) = (a.2.1.length : Int))∧((0 : Int) = x13)∧(a.1.1.1 = a.1.1.1)∧(a.1.1.2.1.1 = a.1.1.2.1.1)∧(a.1.1.2.1.2.1 = a.1.1.2.1.2.1)∧(a.1.1.2.1.2.2 = a.1.1.2.1.2.2)∧SlS e_api_Label a.1.1.2.2 ((a.1.2.1 = a.1.2.1)∧(a.1.2.2 = a.1.2.2)∧(a.2.2.1 = a.2.2.1)∧(a.2.2.2.1 = a.2.2.2.1)∧(a.2.2.2.2.1 = a.2.2.2.2.1)∧(a.2.2.2.2.2.1.1 = a.2.2.2.2.2.1.1)∧(a.2.2.2.2.2.1.2.1 = a.2.2.2.2.2.1.2.1)∧(a.2.2.2.2.2.1.2.2 = a.2.2.2.2.2.1.2.2)∧SlS e_api_Label a.2.2.2.2.2.2.1 ((a.2.2.2.2.2.2.2.1 = a.2.2.2.2.2.2.2.1)∧(a.2.2.2.2.2.2.2.2.1 = a.2.2.2.2.2.2.2.2.1)∧(a.2.2.2.2.2.2.2.2.2 = a.2.2.2.2.2.2.2.2.2)∧(a.2.2.1 = a.2.2.1)∧(a.2.2.2.1 = a.2.2.2.1)∧((0 : Int) = (0 : Int))∧(a.2.2.2.2.2.1.1 = a.2.2.2.2.2.1.1)∧(a.2.2.2.2.2.1.2.1 = a.2.2.2.2.2.1.2.1)∧(a.2.2.2.2.2.1.2.2 = a.2.2.2.2.2.1.2.2)∧SlS e_api_Label a.2.2.2.2.2.2.1 ((a.2.2.2.2.2.2.2.1 = a.2.2.2.2.2.2.2.1)∧(a.2.2.2.2.2.2.2.2.1 = a.2.2.2.2.2.2.2.2.1)∧(a.2.2.2.2.2.2.2.2.2 = a.2.2.2.2.2.2.2.2.2)∧(a.2.2.1 = a.2.2.1)∧(a.2.2.2.1 = a.2.2.2.1)∧((9 : Int) = (9 : Int))∧(a.2.2.2.2.2.1.1 = a.2.2.2.2.2.1.1)∧(a.2.2.2.2.2.1.2.1 = a.2.2.2.2.2.1.2.1)∧(a.2.2.2.2.2.1.2.2 = a.2.2.2.2.2.1.2.2)∧SlS e_api_Label a.2.2.2.2.2.2.1 ((a.2.2.2.2.2.2.2.1 = a.2.2.2.2.2.2.2.1)∧(a.2.2.2.2.2.2.2.2.1 = a.2.2.2.2.2.2.2.2.1)∧(a.2.2.2.2.2.2.2.2.2 = a.2.2.2.2.2.2.2.2.2)∧I14 x13))))))∧∀ y16 : Int,I14 y16→(Br (decide (y16 < (a.2.1.length : Int))) (Br (decide ((0 : Int)≤y16) && decide (y16 < (a.2.1.length : Int))) (Br (decide ((((at_ a.2.1 y16).1).2.2.1) < (0 : Int))) ((true = (lawTrue a))∧True) (Let (IntKind.i64.wrap (y16 + (1 : Int))) (fun v23 : Int => ∃ x24 : Int,SlS e_api_Job a.2.1 (((a.2.1.length : Int) = (a.2.1.length : Int))∧(v23 = x24)∧(a.1.1.1 = a.1.1.1)∧(a.1.1.2.1.1 = a.1.1.2.1.1)∧(a.1.1.2.1.2.1 = a.1.1.2.1.2.1)∧(a.1.1.2.1.2.2 = a.1.1.2.1.2.2)∧SlS e_api_Label a.1.1.2.2 ((a.1.2.1 = a.1.2.1)∧(a.1.2.2 = a.1.2.2)∧(a.2.2.1 = a.2.2.1)∧(a.2.2.2.1 = a.2.2.2.1)∧(a.2.2.2.2.1 = a.2.2.2.2.1)∧(a.2.2.2.2.2.1.1 = a.2.2.2.2.2.1.1)∧(a.2.2.2.2.2.1.2.1 = a.2.2.2.2.2.1.2.1)∧(a.2.2.2.2.2.1.2.2 = a.2.2.2.2.2.1.2.2)∧SlS e_api_Label a.2.2.2.2.2.2.1 ((a.2.2.2.2.2.2.2.1 = a.2.2.2.2.2.2.2.1)∧(a.2.2.2.2.2.2.2.2.1 = a.2.2.2.2.2.2.2.2.1)∧(a.2.2.2.2.2.2.2.2.2 = a.2.2.2.2.2.2.2.2.2)∧(a.2.2.1 = a.2.2.1)∧(a.2.2.2.1 = a.2.2.2.1)∧((0 : Int) = (0 : Int))∧(a.2.2.2.2.2.1.1 = a.2.2.2.2.2.1.1)∧(a.2.2.2.2.2.1.2.1 = a.2.2.2.2.2.1.2.1)∧(a.2.2.2.2.2.1.2.2 = a.2.2.2.2.2.1.2.2)∧SlS e_api_Label a.2.2.2.2.2.2.1 ((a.2.2.2.2.2.2.2.1 = a.2.2.2.2.2.2.2.1)∧(a.2.2.2.2.2.2.2.2.1 = a.2.2.2.2.2.2.2.2.1)∧(a.2.2.2.2.2.2.2.2.2 = a.2.2.2.2.2.2.2.2.2)∧(a.2.2.1 = a.2.2.1)∧(a.2.2.2.1 = a.2.2.2.1)∧((9 : Int) = (9 : Int))∧(a.2.2.2.2.2.1.1 = a.2.2.2.2.2.1.1)∧(a.2.2.2.2.2.1.2.1 = a.2.2.2.2.2.1.2.1)∧(a.2.2.2.2.2.1.2.2 = a.2.2.2.2.2.1.2.2)∧SlS e_api_Label a.2.2.2.2.2.2.1 ((a.2.2.2.2.2.2.2.1 = a.2.2.2.2.2.2.2.1)∧(a.2.2.2.2.2.2.2.2.1 = a.2.2.2.2.2.2.2.2.1)∧(a.2.2.2.2.2.2.2.2.2 = a.2.2.2.2.2.2.2.2.2)∧I14 x24∧μ15 x24 < μ15 y16)))))))) False) (∃ c32 : T_api_Machine × (List (T_api_Job)) × T_api_Task,(a.1.1.1 = c32.1.1.1)∧(a.1.1.2.1.1 = c32.1.1.2.1.1)∧(a.1.1.2.1.2.1 = c32.1.1.2.1.2.1)∧(a.1.1.2.1.2.2 = c32.1.1.2.1.2.2)∧SlQ a.1.1.2.2.length c32.1.1.2.2.length (gl e_api_Label a.1.1.2.2) (gl e_api_Label c32.1.1.2.2) ((a.1.2.1 = c32.1.2.1)∧(a.1.2.2 = c32.1.2.2)∧SlQ a.2.1.length c32.2.1.length (gl e_api_Job a.2.1) (gl e_api_Job c32.2.1) ((a.2.2.1 = c32.2.2.1)∧(a.2.2.2.1 = c32.2.2.2.1)∧((0 : Int) = c32.2.2.2.2.1)∧(a.2.2.2.2.2.1.1 = c32.2.2.2.2.2.1.1)∧(a.2.2.2.2.2.1.2.1 = c32.2.2.2.2.2.1.2.1)∧(a.2.2.2.2.2.1.2.2 = c32.2.2.2.2.2.1.2.2)∧SlQ a.2.2.2.2.2.2.1.length c32.2.2.2.2.2.2.1.length (gl e_api_Label a.2.2.2.2.2.2.1) (gl e_api_Label c32.2.2.2.2.2.2.1) ((a.2.2.2.2.2.2.2.1 = c32.2.2.2.2.2.2.2.1)∧(a.2.2.2.2.2.2.2.2.1 = c32.2.2.2.2.2.2.2.2.1)∧(a.2.2.2.2.2.2.2.2.2 = c32.2.2.2.2.2.2.2.2.2)∧(why_pre c32)∧Br ((((planV c32).1).length : Int) != (0 : Int)) ((false = (lawTrue a))∧True) (∃ c36 : T_api_Machine × (List (T_api_Job)) × T_api_Task,(a.1.1.1 = c36.1.1.1)∧(a.1.1.2.1.1 = c36.1.1.2.1.1)∧(a.1.1.2.1.2.1 = c36.1.1.2.1.2.1)∧(a.1.1.2.1.2.2 = c36.1.1.2.1.2.2)∧SlQ a.1.1.2.2.length c36.1.1.2.2.length (gl e_api_Label a.1.1.2.2) (gl e_api_Label c36.1.1.2.2) ((a.1.2.1 = c36.1.2.1)∧(a.1.2.2 = c36.1.2.2)∧SlQ a.2.1.length c36.2.1.length (gl e_api_Job a.2.1) (gl e_api_Job c36.2.1) ((a.2.2.1 = c36.2.2.1)∧(a.2.2.2.1 = c36.2.2.2.1)∧((0 : Int) = c36.2.2.2.2.1)∧(a.2.2.2.2.2.1.1 = c36.2.2.2.2.2.1.1)∧(a.2.2.2.2.2.1.2.1 = c36.2.2.2.2.2.1.2.1)∧(a.2.2.2.2.2.1.2.2 = c36.2.2.2.2.2.1.2.2)∧SlQ a.2.2.2.2.2.2.1.length c36.2.2.2.2.2.2.1.length (gl e_api_Label a.2.2.2.2.2.2.1) (gl e_api_Label c36.2.2.2.2.2.2.1) ((a.2.2.2.2.2.2.2.1 = c36.2.2.2.2.2.2.2.1)∧(a.2.2.2.2.2.2.2.2.1 = c36.2.2.2.2.2.2.2.2.1)∧(a.2.2.2.2.2.2.2.2.2 = c36.2.2.2.2.2.2.2.2.2)∧(why_pre c36)∧Br (!(((planV c32).2) == ((whyR c36) == (0 : Int)))) ((false = (lawTrue a))∧True) (∃ c40 : T_api_Machine × (List (T_api_Job)) × T_api_Task,(a.1.1.1 = c40.1.1.1)∧(a.1.1.2.1.1 = c40.1.1.2.1.1)∧(a.1.1.2.1.2.1 = c40.1.1.2.1.2.1)∧(a.1.1.2.1.2.2 = c40.1.1.2.1.2.2)∧SlQ a.1.1.2.2.length c40.1.1.2.2.length (gl e_api_Label a.1.1.2.2) (gl e_api_Label c40.1.1.2.2) ((a.1.2.1 = c40.1.2.1)∧(a.1.2.2 = c40.1.2.2)∧SlQ a.2.1.length c40.2.1.length (gl e_api_Job a.2.1) (gl e_api_Job c40.2.1) ((a.2.2.1 = c40.2.2.1)∧(a.2.2.2.1 = c40.2.2.2.1)∧(a.2.2.2.2.1 = c40.2.2.2.2.1)∧(a.2.2.2.2.2.1.1 = c40.2.2.2.2.2.1.1)∧(a.2.2.2.2.2.1.2.1 = c40.2.2.2.2.2.1.2.1)∧(a.2.2.2.2.2.1.2.2 = c40.2.2.2.2.2.1.2.2)∧SlQ a.2.2.2.2.2.2.1.length c40.2.2.2.2.2.2.1.length (gl e_api_Label a.2.2.2.2.2.2.1) (gl e_api_Label c40.2.2.2.2.2.2.1) ((a.2.2.2.2.2.2.2.1 = c40.2.2.2.2.2.2.2.1)∧(a.2.2.2.2.2.2.2.2.1 = c40.2.2.2.2.2.2.2.2.1)∧(a.2.2.2.2.2.2.2.2.2 = c40.2.2.2.2.2.2.2.2.2)∧(why_pre c40)∧∃ c41 : T_api_Machine × (List (T_api_Job)) × T_api_Task,(a.1.1.1 = c41.1.1.1)∧(a.1.1.2.1.1 = c41.1.1.2.1.1)∧(a.1.1.2.1.2.1 = c41.1.1.2.1.2.1)∧(a.1.1.2.1.2.2 = c41.1.1.2.1.2.2)∧SlQ a.1.1.2.2.length c41.1.1.2.2.length (gl e_api_Label a.1.1.2.2) (gl e_api_Label c41.1.1.2.2) ((a.1.2.1 = c41.1.2.1)∧(a.1.2.2 = c41.1.2.2)∧SlQ a.2.1.length c41.2.1.length (gl e_api_Job a.2.1) (gl e_api_Job c41.2.1) ((a.2.2.1 = c41.2.2.1)∧(a.2.2.2.1 = c41.2.2.2.1)∧((9 : Int) = c41.2.2.2.2.1)∧(a.2.2.2.2.2.1.1 = c41.2.2.2.2.2.1.1)∧(a.2.2.2.2.2.1.2.1 = c41.2.2.2.2.2.1.2.1)∧(a.2.2.2.2.2.1.2.2 = c41.2.2.2.2.2.1.2.2)∧SlQ a.2.2.2.2.2.2.1.length c41.2.2.2.2.2.2.1.length (gl e_api_Label a.2.2.2.2.2.2.1) (gl e_api_Label c41.2.2.2.2.2.2.1) ((a.2.2.2.2.2.2.2.1 = c41.2.2.2.2.2.2.2.1)∧(a.2.2.2.2.2.2.2.2.1 = c41.2.2.2.2.2.2.2.2.1)∧(a.2.2.2.2.2.2.2.2.2 = c41.2.2.2.2.2.2.2.2.2)∧(why_pre c41)∧Br (!((planV c40).2)) ((true = (lawTrue a))∧True) ((((planV c41).2) = (lawTrue a))∧True)))))))))))))))))))))))
def f371.vc (a : T_api_Machine × (List (T_api_Job)) × T_api_Task) : Prop := ((¬ ((lawTrue ()) = true)→((lawTrue ()) = lawTrue a))∧(¬ (¬ ((lawTrue ()) = true))→(few13_pre ([a.1],a.2.1,a.2.2)∧((¬ ((few13 ([a.1],a.2.1,a.2.2)) = true)→((lawTrue ()) = lawTrue a))∧(¬ (¬ ((few13 ([a.1],a.2.1,a.2.2)) = true))→(∃ (I14 : Int→Prop) (μ15 : Int→Nat),I14 (0 : Int)∧∀ y16 : Int,I14 y16→((y16 < (a.2.1.length : Int)→((0 : Int)≤y16∧y16 < (a.2.1.length : Int)∧(((((at_ a.2.1 y16).1).2.2.1) < (0 : Int)→(true = lawTrue a))∧(¬ ((((at_ a.2.1 y16).1).2.2.1) < (0 : Int))→(-9223372036854775808≤(y16 + (1 : Int))∧(y16 + (1 : Int))≤9223372036854775807∧(I14 (y16 + (1 : Int))∧μ15 (y16 + (1 : Int)) < μ15 y16))))))∧(¬ (y16 < (a.2.1.length : Int))→(why_pre (a.1,a.2.1,(a.2.2.1,a.2.2.2.1,(0 : Int),a.2.2.2.2.2.1,a.2.2.2.2.2.2.1,a.2.2.2.2.2.2.2.1,a.2.2.2.2.2.2.2.2.1,a.2.2.2.2.2.2.2.2.2))∧((¬ (((planV (a.1,a.2.1,(a.2.2.1,a.2.2.2.1,(0 : Int),a.2.2.2.2.2.1,a.2.2.2.2.2.2.1,a.2.2.2.2.2.2.2.1,a.2.2.2.2.2.2.2.2.1,a.2.2.2.2.2.2.2.2.2))).1).length : Int) = (0 : Int)→(false = lawTrue a))∧(¬ (¬ (((planV (a.1,a.2.1,(a.2.2.1,a.2.2.2.1,(0 : Int),a.2.2.2.2.2.1,a.2.2.2.2.2.2.1,a.2.2.2.2.2.2.2.1,a.2.2.2.2.2.2.2.2.1,a.2.2.2.2.2.2.2.2.2))).1).length : Int) = (0 : Int))→(why_pre (a.1,a.2.1,(a.2.2.1,a.2.2.2.1,(0 : Int),a.2.2.2.2.2.1,a.2.2.2.2.2.2.1,a.2.2.2.2.2.2.2.1,a.2.2.2.2.2.2.2.2.1,a.2.2.2.2.2.2.2.2.2))∧(((!(((planV (a.1,a.2.1,(a.2.2.1,a.2.2.2.1,(0 : Int),a.2.2.2.2.2.1,a.2.2.2.2.2.2.1,a.2.2.2.2.2.2.2.1,a.2.2.2.2.2.2.2.2.1,a.2.2.2.2.2.2.2.2.2))).2) == ((whyR (a.1,a.2.1,(a.2.2.1,a.2.2.2.1,(0 : Int),a.2.2.2.2.2.1,a.2.2.2.2.2.2.1,a.2.2.2.2.2.2.2.1,a.2.2.2.2.2.2.2.2.1,a.2.2.2.2.2.2.2.2.2))) == (0 : Int)))) = true→(false = lawTrue a))∧(¬ ((!(((planV (a.1,a.2.1,(a.2.2.1,a.2.2.2.1,(0 : Int),a.2.2.2.2.2.1,a.2.2.2.2.2.2.1,a.2.2.2.2.2.2.2.1,a.2.2.2.2.2.2.2.2.1,a.2.2.2.2.2.2.2.2.2))).2) == ((whyR (a.1,a.2.1,(a.2.2.1,a.2.2.2.1,(0 : Int),a.2.2.2.2.2.1,a.2.2.2.2.2.2.1,a.2.2.2.2.2.2.2.1,a.2.2.2.2.2.2.2.2.1,a.2.2.2.2.2.2.2.2.2))) == (0 : Int)))) = true)→(why_pre (a.1,a.2.1,a.2.2)∧(why_pre (a.1,a.2.1,(a.2.2.1,a.2.2.2.1,(9 : Int),a.2.2.2.2.2.1,a.2.2.2.2.2.2.1,a.2.2.2.2.2.2.2.1,a.2.2.2.2.2.2.2.2.1,a.2.2.2.2.2.2.2.2.2))∧((¬ (((planV (a.1,a.2.1,a.2.2)).2) = true)→(true = lawTrue a))∧(¬ (¬ (((planV (a.1,a.2.1,a.2.2)).2) = true))→((planV (a.1,a.2.1,(a.2.2.1,a.2.2.2.1,(9 : Int),a.2.2.2.2.2.1,a.2.2.2.2.2.2.1,a.2.2.2.2.2.2.2.1,a.2.2.2.2.2.2.2.2.1,a.2.2.2.2.2.2.2.2.2))).2 = lawTrue a)))))))))))))))))))
set_option maxRecDepth 100000 in
set_option maxHeartbeats 2000000 in
theorem f371.of (a : T_api_Machine × (List (T_api_Job)) × T_api_Task) (h : f371.vc a) : f371.tree a := ⟨(),⟨trivial,br h (Cnd.not Cnd.b) (fun h2 k64 => ⟨(),⟨trivial,⟨k64,trivial⟩⟩⟩) (fun h3 k65 => ⟨([a.1],a.2.1,a.2.2),slQ (Rds.one (enc := e_api_Machine) (DEqs.refl _)) (slQ (Rds.self (enc := e_api_Job)) (⟨rfl,⟨rfl,⟨rfl,⟨rfl,⟨rfl,⟨rfl,slQ (Rds.self (enc := e_api_Label)) (⟨rfl,⟨rfl,⟨rfl,⟨k65.1,br k65.2 (Cnd.not Cnd.b) (fun h8 k61 => ⟨(),⟨trivial,⟨k61,trivial⟩⟩⟩) (fun h9 k62 => ⟨Exists.elim k62 (fun I14 h58_ => Exists.elim h58_ (fun μ15 h58 => ⟨I14,μ15,⟨(0 : Int),SlS.mk  (⟨rfl,⟨rfl,⟨rfl,⟨rfl,⟨rfl,⟨rfl,SlS.mk  (⟨rfl,⟨rfl,⟨rfl,⟨rfl,⟨rfl,⟨rfl,⟨rfl,⟨rfl,SlS.mk  (⟨rfl,⟨rfl,⟨rfl,⟨rfl,⟨rfl,⟨rfl,⟨rfl,⟨rfl,⟨rfl,SlS.mk  (⟨rfl,⟨rfl,⟨rfl,⟨rfl,⟨rfl,⟨rfl,⟨rfl,⟨rfl,⟨rfl,SlS.mk  (⟨rfl,⟨rfl,⟨rfl,h58.1⟩⟩⟩)⟩⟩⟩⟩⟩⟩⟩⟩⟩)⟩⟩⟩⟩⟩⟩⟩⟩⟩)⟩⟩⟩⟩⟩⟩⟩⟩)⟩⟩⟩⟩⟩⟩)⟩,fun y16 h60 => br (h58.2 y16 h60) Cnd.dec (fun h17 k56 => chk k56.2.2 Cnd.ix ⟨k56.1,k56.2.1⟩ (fun h19 k31 => br k31 Cnd.dec (fun h20 k29 => ⟨k29,trivial⟩) (fun h21 k30 => wrapK.i64 k30 (fun h26 h27 k28 => ⟨(y16 + (1 : Int)),SlS.mk  (⟨rfl,⟨rfl,⟨rfl,⟨rfl,⟨rfl,⟨rfl,SlS.mk  (⟨rfl,⟨rfl,⟨rfl,⟨rfl,⟨rfl,⟨rfl,⟨rfl,⟨rfl,SlS.mk  (⟨rfl,⟨rfl,⟨rfl,⟨rfl,⟨rfl,⟨rfl,⟨rfl,⟨rfl,⟨rfl,SlS.mk  (⟨rfl,⟨rfl,⟨rfl,⟨rfl,⟨rfl,⟨rfl,⟨rfl,⟨rfl,⟨rfl,SlS.mk  (⟨rfl,⟨rfl,⟨rfl,k28⟩⟩⟩)⟩⟩⟩⟩⟩⟩⟩⟩⟩)⟩⟩⟩⟩⟩⟩⟩⟩⟩)⟩⟩⟩⟩⟩⟩⟩⟩)⟩⟩⟩⟩⟩⟩)⟩)))) (fun h18 k57 => ⟨(a.1,a.2.1,(a.2.2.1,a.2.2.2.1,(0 : Int),a.2.2.2.2.2.1,a.2.2.2.2.2.2.1,a.2.2.2.2.2.2.2.1,a.2.2.2.2.2.2.2.2.1,a.2.2.2.2.2.2.2.2.2)),⟨rfl,⟨rfl,⟨rfl,⟨rfl,slQ (Rds.self (enc := e_api_Label)) (⟨rfl,⟨rfl,slQ (Rds.self (enc := e_api_Job)) (⟨rfl,⟨rfl,⟨rfl,⟨rfl,⟨rfl,⟨rfl,slQ (Rds.self (enc := e_api_Label)) (⟨rfl,⟨rfl,⟨rfl,⟨k57.1,br k57.2 Cnd.ne (fun h33 k53 => ⟨k53,trivial⟩) (fun h34 k54 => ⟨(a.1,a.2.1,(a.2.2.1,a.2.2.2.1,(0 : Int),a.2.2.2.2.2.1,a.2.2.2.2.2.2.1,a.2.2.2.2.2.2.2.1,a.2.2.2.2.2.2.2.2.1,a.2.2.2.2.2.2.2.2.2)),⟨rfl,⟨rfl,⟨rfl,⟨rfl,slQ (Rds.self (enc := e_api_Label)) (⟨rfl,⟨rfl,slQ (Rds.self (enc := e_api_Job)) (⟨rfl,⟨rfl,⟨rfl,⟨rfl,⟨rfl,⟨rfl,slQ (Rds.self (enc := e_api_Label)) (⟨rfl,⟨rfl,⟨rfl,⟨k54.1,br k54.2 Cnd.b (fun h37 k50 => ⟨k50,trivial⟩) (fun h38 k51 => ⟨(a.1,a.2.1,a.2.2),⟨rfl,⟨rfl,⟨rfl,⟨rfl,slQ (Rds.self (enc := e_api_Label)) (⟨rfl,⟨rfl,slQ (Rds.self (enc := e_api_Job)) (⟨rfl,⟨rfl,⟨rfl,⟨rfl,⟨rfl,⟨rfl,slQ (Rds.self (enc := e_api_Label)) (⟨rfl,⟨rfl,⟨rfl,⟨k51.1,⟨(a.1,a.2.1,(a.2.2.1,a.2.2.2.1,(9 : Int),a.2.2.2.2.2.1,a.2.2.2.2.2.2.1,a.2.2.2.2.2.2.2.1,a.2.2.2.2.2.2.2.2.1,a.2.2.2.2.2.2.2.2.2)),⟨rfl,⟨rfl,⟨rfl,⟨rfl,slQ (Rds.self (enc := e_api_Label)) (⟨rfl,⟨rfl,slQ (Rds.self (enc := e_api_Job)) (⟨rfl,⟨rfl,⟨rfl,⟨rfl,⟨rfl,⟨rfl,slQ (Rds.self (enc := e_api_Label)) (⟨rfl,⟨rfl,⟨rfl,⟨k51.2.1,br k51.2.2 (Cnd.not Cnd.b) (fun h42 k46 => ⟨k46,trivial⟩) (fun h43 k47 => ⟨k47,trivial⟩)⟩⟩⟩⟩)⟩⟩⟩⟩⟩⟩)⟩⟩)⟩⟩⟩⟩⟩⟩⟩⟩⟩)⟩⟩⟩⟩⟩⟩)⟩⟩)⟩⟩⟩⟩⟩)⟩⟩⟩⟩)⟩⟩⟩⟩⟩⟩)⟩⟩)⟩⟩⟩⟩⟩)⟩⟩⟩⟩)⟩⟩⟩⟩⟩⟩)⟩⟩)⟩⟩⟩⟩⟩)⟩)),Exists.elim k62 (fun I14 h58_ => Exists.elim h58_ (fun μ15 h58 => ⟨I14,μ15,⟨(0 : Int),SlS.mk  (⟨rfl,⟨rfl,⟨rfl,⟨rfl,⟨rfl,⟨rfl,SlS.mk  (⟨rfl,⟨rfl,⟨rfl,⟨rfl,⟨rfl,⟨rfl,⟨rfl,⟨rfl,SlS.mk  (⟨rfl,⟨rfl,⟨rfl,⟨rfl,⟨rfl,⟨rfl,⟨rfl,⟨rfl,⟨rfl,SlS.mk  (⟨rfl,⟨rfl,⟨rfl,⟨rfl,⟨rfl,⟨rfl,⟨rfl,⟨rfl,⟨rfl,SlS.mk  (⟨rfl,⟨rfl,⟨rfl,h58.1⟩⟩⟩)⟩⟩⟩⟩⟩⟩⟩⟩⟩)⟩⟩⟩⟩⟩⟩⟩⟩⟩)⟩⟩⟩⟩⟩⟩⟩⟩)⟩⟩⟩⟩⟩⟩)⟩,fun y16 h60 => br (h58.2 y16 h60) Cnd.dec (fun h17 k56 => chk k56.2.2 Cnd.ix ⟨k56.1,k56.2.1⟩ (fun h19 k31 => br k31 Cnd.dec (fun h20 k29 => ⟨k29,trivial⟩) (fun h21 k30 => wrapK.i64 k30 (fun h26 h27 k28 => ⟨(y16 + (1 : Int)),SlS.mk  (⟨rfl,⟨rfl,⟨rfl,⟨rfl,⟨rfl,⟨rfl,SlS.mk  (⟨rfl,⟨rfl,⟨rfl,⟨rfl,⟨rfl,⟨rfl,⟨rfl,⟨rfl,SlS.mk  (⟨rfl,⟨rfl,⟨rfl,⟨rfl,⟨rfl,⟨rfl,⟨rfl,⟨rfl,⟨rfl,SlS.mk  (⟨rfl,⟨rfl,⟨rfl,⟨rfl,⟨rfl,⟨rfl,⟨rfl,⟨rfl,⟨rfl,SlS.mk  (⟨rfl,⟨rfl,⟨rfl,k28⟩⟩⟩)⟩⟩⟩⟩⟩⟩⟩⟩⟩)⟩⟩⟩⟩⟩⟩⟩⟩⟩)⟩⟩⟩⟩⟩⟩⟩⟩)⟩⟩⟩⟩⟩⟩)⟩)))) (fun h18 k57 => ⟨(a.1,a.2.1,(a.2.2.1,a.2.2.2.1,(0 : Int),a.2.2.2.2.2.1,a.2.2.2.2.2.2.1,a.2.2.2.2.2.2.2.1,a.2.2.2.2.2.2.2.2.1,a.2.2.2.2.2.2.2.2.2)),⟨rfl,⟨rfl,⟨rfl,⟨rfl,slQ (Rds.self (enc := e_api_Label)) (⟨rfl,⟨rfl,slQ (Rds.self (enc := e_api_Job)) (⟨rfl,⟨rfl,⟨rfl,⟨rfl,⟨rfl,⟨rfl,slQ (Rds.self (enc := e_api_Label)) (⟨rfl,⟨rfl,⟨rfl,⟨k57.1,br k57.2 Cnd.ne (fun h33 k53 => ⟨k53,trivial⟩) (fun h34 k54 => ⟨(a.1,a.2.1,(a.2.2.1,a.2.2.2.1,(0 : Int),a.2.2.2.2.2.1,a.2.2.2.2.2.2.1,a.2.2.2.2.2.2.2.1,a.2.2.2.2.2.2.2.2.1,a.2.2.2.2.2.2.2.2.2)),⟨rfl,⟨rfl,⟨rfl,⟨rfl,slQ (Rds.self (enc := e_api_Label)) (⟨rfl,⟨rfl,slQ (Rds.self (enc := e_api_Job)) (⟨rfl,⟨rfl,⟨rfl,⟨rfl,⟨rfl,⟨rfl,slQ (Rds.self (enc := e_api_Label)) (⟨rfl,⟨rfl,⟨rfl,⟨k54.1,br k54.2 Cnd.b (fun h37 k50 => ⟨k50,trivial⟩) (fun h38 k51 => ⟨(a.1,a.2.1,a.2.2),⟨rfl,⟨rfl,⟨rfl,⟨rfl,slQ (Rds.self (enc := e_api_Label)) (⟨rfl,⟨rfl,slQ (Rds.self (enc := e_api_Job)) (⟨rfl,⟨rfl,⟨rfl,⟨rfl,⟨rfl,⟨rfl,slQ (Rds.self (enc := e_api_Label)) (⟨rfl,⟨rfl,⟨rfl,⟨k51.1,⟨(a.1,a.2.1,(a.2.2.1,a.2.2.2.1,(9 : Int),a.2.2.2.2.2.1,a.2.2.2.2.2.2.1,a.2.2.2.2.2.2.2.1,a.2.2.2.2.2.2.2.2.1,a.2.2.2.2.2.2.2.2.2)),⟨rfl,⟨rfl,⟨rfl,⟨rfl,slQ (Rds.self (enc := e_api_Label)) (⟨rfl,⟨rfl,slQ (Rds.self (enc := e_api_Job)) (⟨rfl,⟨rfl,⟨rfl,⟨rfl,⟨rfl,⟨rfl,slQ (Rds.self (enc := e_api_Label)) (⟨rfl,⟨rfl,⟨rfl,⟨k51.2.1,br k51.2.2 (Cnd.not Cnd.b) (fun h42 k46 => ⟨k46,trivial⟩) (fun h43 k47 => ⟨k47,trivial⟩)⟩⟩⟩⟩)⟩⟩⟩⟩⟩⟩)⟩⟩)⟩⟩⟩⟩⟩⟩⟩⟩⟩)⟩⟩⟩⟩⟩⟩)⟩⟩)⟩⟩⟩⟩⟩)⟩⟩⟩⟩)⟩⟩⟩⟩⟩⟩)⟩⟩)⟩⟩⟩⟩⟩)⟩⟩⟩⟩)⟩⟩⟩⟩⟩⟩)⟩⟩)⟩⟩⟩⟩⟩)⟩))⟩)⟩⟩⟩⟩)⟩⟩⟩⟩⟩⟩))⟩)⟩⟩
theorem f371.eq (a : T_api_Machine × (List (T_api_Job)) × T_api_Task) : (f371.af a).gives f371.env (f371.args a) (f371.blks a) (f371.res a) (f371.blks' a) = f371.tree a := by kernel_rfl
end Go.Abs

/- The laws of layer 13. -/
namespace Go.Abs
open Go
theorem goK_app {need : TRes} : ∀ {A B : List TJob} {free : TRes} {k : Nat},goK need free A = some k → goK need free (A ++ B) = some k
  | [],_,_,_,h => by cases h
  | j :: A,B,free,k,h => by
    rw [List.cons_append,goK]
    rw [goK] at h
    split at h
    · cases h
    · rename_i c
      rw [if_neg c]
      split at h
      · rename_i hf
        rw [if_pos hf]
        exact h
      · rename_i hf
        rw [if_neg hf]
        cases hr : goK need (addR (free,j.1.2.2.2.1)).1 A with
        | none => rw [hr] at h; cases h
        | some k' =>
          rw [hr] at h
          rw [goK_app hr]
          exact h

theorem why_four {m : TMach} {l : List TJob} {t : TTask} : whyR (m,l,t) = 4 ↔
    ((freeR (m,l)).2 = 0 ∧ nodeB m.1 = true ∧ taskB t = true) ∧ m.2.1 = true ∧ hasAll (m.1.2.2,t.2.2.2.2.1) = true ∧ ¬ anyBother (l,m,t) = true ∧ ¬ fitsR (t.2.2.2.1,(freeR (m,l)).1) = true := by
  unfold whyR
  simp only
  split
  · rename_i h; exact ⟨fun hh => absurd hh (by decide),fun hh => absurd hh.1 h⟩
  · rename_i h
    split
    · rename_i h1; exact ⟨fun hh => absurd hh (by decide),fun hh => absurd hh.2.1 h1⟩
    · rename_i h1
      split
      · rename_i h2; exact ⟨fun hh => absurd hh (by decide),fun hh => absurd hh.2.2.1 h2⟩
      · rename_i h2
        split
        · rename_i h3; exact ⟨fun hh => absurd hh (by decide),fun hh => absurd h3 hh.2.2.2.1⟩
        · rename_i h3
          split
          · rename_i h4
            exact ⟨fun _ => ⟨Classical.not_not.1 h,Classical.not_not.1 h1,Classical.not_not.1 h2,h3,h4⟩,fun _ => rfl⟩
          · rename_i h4; exact ⟨fun hh => absurd hh (by decide),fun hh => absurd hh.2.2.2.2 h4⟩

theorem plan_yes {m : TMach} {jobs : List TJob} {t : TTask} (h : (planV (m,jobs,t)).2 = true) : (whyR (m,jobs,t) = 0 ∧ (planV (m,jobs,t)).1 = []) ∨
    (whyR (m,jobs,t) = 4 ∧ ∃ k,goK t.2.2.2.1 (freeR (m,jobs)).1 (weakS (m,jobs,t)) = some k ∧ (planV (m,jobs,t)).1 = namesV ((weakS (m,jobs,t)).take k)) := by
  unfold planV at h ⊢
  unfold goneV at h ⊢
  simp only at h ⊢
  split at h
  · rename_i c
    rw [if_pos c]
    exact .inl ⟨c,rfl⟩
  · rename_i c
    rw [if_neg c]
    split at h
    · cases h
    · rename_i c2
      rw [if_neg c2]
      split at h
      · rename_i k hg
        exact .inr ⟨Classical.not_not.1 c2,k,hg,rfl⟩
      · cases h

theorem plan_of {m : TMach} {jobs : List TJob} {t : TTask} {k : Nat} (h : whyR (m,jobs,t) = 4) (hg : goK t.2.2.2.1 (freeR (m,jobs)).1 (weakS (m,jobs,t)) = some k) : (planV (m,jobs,t)).2 = true := by
  unfold planV goneV
  simp only
  rw [if_neg (by rw [h]; decide),if_neg (by rw [h]; decide),hg]

theorem f352.ok (a : Unit) (_ : True) : f352.vc a := by
  have e1 : planV (((f352.s0,((4 : Int),(0 : Int),(0 : Int)),[]),true,(0 : Int)),[((f352.s1,f352.s2,(0 : Int),((4 : Int),(0 : Int),(0 : Int)),[],ByteArray.empty,ByteArray.empty,(0 : Int)),(0 : Int),f352.s0,(0 : Int))],(f352.s3,f352.s2,(1 : Int),((1 : Int),(0 : Int),(0 : Int)),[],ByteArray.empty,ByteArray.empty,(0 : Int))) = ([f352.s1],true) := by decide +kernel
  unfold f352.vc
  rw [e1]
  refine ⟨⟨Nat.le_of_ble_eq_true rfl,⟨?_,?_⟩,⟨?_,?_,?_,?_,?_⟩,Nat.le_of_ble_eq_true rfl,Nat.le_of_ble_eq_true rfl⟩,fun _ => ⟨fun _ => ⟨by decide,show (f352.s1.toList == f352.s1.toList) = true from beq_self_eq_true _⟩,fun c => absurd rfl c⟩,fun c => absurd rfl c⟩ <;> first | exact Nat.le_of_ble_eq_true rfl | exact fun x hx => absurd hx List.not_mem_nil

theorem vict_pre {m : TMach} {l : List TJob} {t : TTask} (hs : k_api_Machine.size m + (k_sl_api_Job.size l + k_api_Task.size t) ≤ 1048576) : why_pre (m,l,t) ∧ few13_pre ([m],l,t) := by
  obtain ⟨hm,hml⟩ := mach_of_size (m := m) (by omega)
  have hj := jobs_of_size (l := l) (by omega)
  have ht := task_of_size (t := t) (by omega)
  have hw := wants_of_size (t := t) (by omega)
  exact ⟨⟨hj,hm,ht,hml,hw⟩,by unfold L20; simp,hj,hw,fun x hx => by rw [List.mem_singleton.1 hx]; exact ⟨hm.1,hml⟩⟩

theorem weak_prefix {m : TMach} {jobs : List TJob} {t t' : TTask} (h : t.2.2.1 ≤ t'.2.2.1) : ∃ R,weakS (m,jobs,t') = weakS (m,jobs,t) ++ R := by
  have hw : weakL (m,jobs,t) = (weakL (m,jobs,t')).filter fun j => decide (j.1.2.2.1 < t.2.2.1) := by
    unfold weakL
    rw [List.filter_filter]
    refine List.filter_congr fun j _ => ?_
    rw [← Bool.decide_and,decide_eq_decide]
    simp only
    constructor
    · rintro ⟨h1,h2⟩; exact ⟨h2,h1,by omega⟩
    · rintro ⟨h1,h2,_⟩; exact ⟨h2,h1⟩
  have sd := sortS_sd weakW (weakL (m,jobs,t'))
  have fe := sortS_fe weakW (weakL (m,jobs,t'))
  have cut : ∀ S : List TJob,Sd ltW S → ∃ R,S = S.filter (fun j => decide (j.1.2.2.1 < t.2.2.1)) ++ R := by
    intro S hS
    induction S with
    | nil => exact ⟨[],rfl⟩
    | cons x S ih =>
      obtain ⟨hx,hS'⟩ := List.pairwise_cons.1 hS
      by_cases hc : x.1.2.2.1 < t.2.2.1
      · obtain ⟨R,hR⟩ := ih hS'
        refine ⟨R,?_⟩
        rw [List.filter_cons_of_pos (by simpa using hc),List.cons_append,← hR]
      · refine ⟨x :: S,?_⟩
        have : (x :: S).filter (fun j => decide (j.1.2.2.1 < t.2.2.1)) = [] := by
          rw [List.filter_eq_nil_iff]
          intro y hy
          rcases List.mem_cons.1 hy with rfl | hy
          · simpa using hc
          · have := (ltW_false y x).1 (hx y hy)
            simp only [decide_eq_true_eq]
            omega
        rw [this]
        rfl
  obtain ⟨R,hR⟩ := cut _ sd
  refine ⟨R,?_⟩
  have : weakS (m,jobs,t) = (sortS ltW (weakL (m,jobs,t'))).filter (fun j => decide (j.1.2.2.1 < t.2.2.1)) := by
    unfold weakS
    refine (sortS_eq weakW (sd.filter _) ?_).symm
    rw [hw]
    intro z
    rw [List.filter_filter,List.filter_filter]
    have := congrArg (List.filter fun j : TJob => decide (j.1.2.2.1 < t.2.2.1)) (fe z)
    rw [List.filter_filter,List.filter_filter] at this
    simpa only [Bool.and_comm] using this
  rw [this]
  exact hR

theorem task_rank {t : TTask} {p : Int} (h0 : 0 ≤ p) (h9 : p ≤ 9) (h : taskB t = true) : taskB (t.1,t.2.1,p,t.2.2.2.1,t.2.2.2.2.1,t.2.2.2.2.2.1,t.2.2.2.2.2.2.1,t.2.2.2.2.2.2.2) = true := by
  obtain ⟨h1,h2,_,h4⟩ := taskB_iff.1 h
  exact taskB_iff.2 ⟨h1,h2,⟨h0,h9⟩,h4⟩

theorem why_rank {m : TMach} {jobs : List TJob} {t : TTask} {p : Int} (h : taskB (t.1,t.2.1,p,t.2.2.2.1,t.2.2.2.2.1,t.2.2.2.2.2.1,t.2.2.2.2.2.2.1,t.2.2.2.2.2.2.2) = taskB t) :
    whyR (m,jobs,(t.1,t.2.1,p,t.2.2.2.1,t.2.2.2.2.1,t.2.2.2.2.2.1,t.2.2.2.2.2.2.1,t.2.2.2.2.2.2.2)) = whyR (m,jobs,t) := by
  have hb : anyBother (jobs,m,(t.1,t.2.1,p,t.2.2.2.1,t.2.2.2.2.1,t.2.2.2.2.2.1,t.2.2.2.2.2.2.1,t.2.2.2.2.2.2.2)) = anyBother (jobs,m,t) := rfl
  unfold whyR
  simp only
  rw [h,hb]

theorem f371.ok (a : TMach × List TJob × TTask) (h : f371.lpre a) : f371.vc a := by
  obtain ⟨_,hs⟩ := h
  obtain ⟨m,l,t⟩ := a
  obtain ⟨hp,hf⟩ := vict_pre hs
  have hj : l.length ≤ 1048576 := hp.1
  have hpp : ∀ p : Int,why_pre (m,l,(t.1,t.2.1,p,t.2.2.2.1,t.2.2.2.2.1,t.2.2.2.2.2.1,t.2.2.2.2.2.2.1,t.2.2.2.2.2.2.2)) := fun p => hp
  refine ⟨fun _ => rfl,fun _ => ⟨hf,fun _ => rfl,fun _ => ?_⟩⟩
  refine ⟨fun y => 0 ≤ y ∧ y ≤ (l.length : Int) ∧ ∀ k,k < y.toNat → 0 ≤ (l.getD k default).1.2.2.1,fun y => l.length - y.toNat,⟨by omega,by omega,fun k hk => by simp at hk⟩,fun y hy => ?_⟩
  obtain ⟨g0,g1,g2⟩ := hy
  simp only
  refine ⟨fun hlt => ⟨g0,hlt,fun _ => rfl,fun c => ⟨by omega,by omega,⟨by omega,by omega,fun k hk => ?_⟩,by omega⟩⟩,fun hge => ?_⟩
  · by_cases he : k = y.toNat
    · subst he
      rw [← at_nat]
      omega
    · exact g2 k (by omega)
  · have nn : ∀ j ∈ l,0 ≤ j.1.2.2.1 := by
      intro j hj
      obtain ⟨i,hi,rfl⟩ := List.mem_iff_getElem.1 hj
      have := g2 i (by omega)
      rwa [getD_of hi] at this
    -- nobody goes for rank 0
    have w0 : weakS (m,l,(t.1,t.2.1,(0 : Int),t.2.2.2.1,t.2.2.2.2.1,t.2.2.2.2.2.1,t.2.2.2.2.2.2.1,t.2.2.2.2.2.2.2)) = [] := by
      unfold weakS weakL
      rw [List.filter_eq_nil_iff.2]
      · rfl
      · intro j hj
        have := nn j hj
        simp only [decide_eq_true_eq]
        omega
    have p0 : planV (m,l,(t.1,t.2.1,(0 : Int),t.2.2.2.1,t.2.2.2.2.1,t.2.2.2.2.2.1,t.2.2.2.2.2.2.1,t.2.2.2.2.2.2.2)) = ([],decide (whyR (m,l,(t.1,t.2.1,(0 : Int),t.2.2.2.1,t.2.2.2.2.1,t.2.2.2.2.2.1,t.2.2.2.2.2.2.1,t.2.2.2.2.2.2.2)) = 0)) := by
      unfold planV goneV
      simp only
      rw [w0]
      by_cases c : whyR (m,l,(t.1,t.2.1,(0 : Int),t.2.2.2.1,t.2.2.2.2.1,t.2.2.2.2.2.1,t.2.2.2.2.2.2.1,t.2.2.2.2.2.2.2)) = 0
      · rw [if_pos c,decide_eq_true c]
        rfl
      · rw [if_neg c,decide_eq_false c]
        split <;> rfl
    refine ⟨hpp 0,fun c => absurd (by rw [p0]; rfl) c,fun _ => ⟨hpp 0,fun c => ?_,fun _ => ⟨hp,hpp 9,fun _ => rfl,fun hok => ?_⟩⟩⟩
    · exfalso
      rw [p0] at c
      simp only at c
      revert c
      generalize whyR _ = x
      by_cases hx : x = 0 <;> simp [hx]
    · have hok := Classical.not_not.1 hok
      show _ = true
      rcases plan_yes hok with ⟨h1,_⟩ | ⟨h1,k,h2,_⟩
      · have ht := (why_zero.1 h1).1.2.2
        have e := why_rank (m := m) (jobs := l) (t := t) (p := 9) (by rw [task_rank (by decide) (by decide) ht,ht])
        unfold planV goneV
        simp only
        rw [e,if_pos h1]
      · have ht := (why_four.1 h1).1.2.2
        have e := why_rank (m := m) (jobs := l) (t := t) (p := 9) (by rw [task_rank (by decide) (by decide) ht,ht])
        obtain ⟨R,hR⟩ := weak_prefix (m := m) (jobs := l) (t := t) (t' := (t.1,t.2.1,(9 : Int),t.2.2.2.1,t.2.2.2.2.1,t.2.2.2.2.2.1,t.2.2.2.2.2.2.1,t.2.2.2.2.2.2.2)) (taskB_iff.1 ht).2.2.1.2
        refine plan_of (k := k) (e.trans h1) ?_
        rw [hR]
        exact goK_app h2
end Go.Abs
