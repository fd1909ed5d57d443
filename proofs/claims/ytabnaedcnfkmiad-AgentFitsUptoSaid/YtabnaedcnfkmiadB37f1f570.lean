/- Functions, and what the code asks of them: PAgent3. -/
import Derived.KernelRfl
import Derived.Test.YtabnaedcnfkmiadB4c9c6f61
import Derived.Test.YtabnaedcnfkmiadB75c84e37
import Derived.Test.YtabnaedcnfkmiadB0354929c
import Derived.Test.YtabnaedcnfkmiadBe6284447
import Derived.Test.YtabnaedcnfkmiadB8bdfae8a
import Derived.Test.YtabnaedcnfkmiadB076b0d39
import Derived.Test.YtabnaedcnfkmiadB282b9394
set_option linter.unusedVariables false
set_option linter.unusedSimpArgs false
-- interregnum/interregnumref15.Right
namespace Go.Abs
open Go
end Go.Abs

-- interregnum/interregnumref11.Free
namespace Go.Abs
open Go
end Go.Abs

/- interregnum/interregnumref15.Right -/
namespace Go.Abs
open Go
set_option linter.unusedVariables false
end Go.Abs

-- interregnum/agent.Of
namespace Go.Abs
open Go
def f341.args (a : T_api_State × ByteArray × T_ar3_i64) : List D := [.agg [.int .i64 a.1.1,.int .i64 a.1.2.1,.slice .ro 7 a.1.2.2.1.length (gl e_api_Machine a.1.2.2.1),.slice .ro 4 a.1.2.2.2.1.length (gl e_api_Queue a.1.2.2.2.1),.slice .ro 13 a.1.2.2.2.2.length (gl e_api_Job a.1.2.2.2.2)],.str a.2.1,.agg [.int .i64 a.2.2.1,.int .i64 a.2.2.2.1,.int .i64 a.2.2.2.2]]
def f341.blks (a : T_api_State × ByteArray × T_ar3_i64) : List (List D) := []
def f341.res (a : T_api_State × ByteArray × T_ar3_i64) : List D := [.agg [.str (((ofA a).1).1),.int .i64 ((((ofA a).1).2.1).1),.int .i64 ((((ofA a).1).2.1).2.1),.int .i64 ((((ofA a).1).2.1).2.2),.int .i64 ((((ofA a).1).2.2.1).1),.int .i64 ((((ofA a).1).2.2.1).2.1),.int .i64 ((((ofA a).1).2.2.1).2.2),.slice .ro 6 ((((ofA a).1).2.2.2).length) (gl e_agent_Item (((ofA a).1).2.2.2))],.int .i64 ((ofA a).2)]
def f341.blks' (a : T_api_State × ByteArray × T_ar3_i64) : List (List D) := []
def f341.C : Contract := FnC f341.args f341.blks (fun a => of_pre a) f341.res f341.blks'
end Go.Abs

/- interregnum/agent.Of -/
namespace Go.Abs
open Go
set_option linter.unusedVariables false
def f341.S0 (a : T_api_State × ByteArray × T_ar3_i64) (x : Int × ByteArray × Int × Int × Int × Int × Int × Int × (List (T_agent_Item))) : Tm := ⟨[.dead,.dead,.dead,.dead,.ptr 1 0,.dead,.ptr 3 0,.dead,.dead,.ptr 45 0,.dead,.dead,.dead,.dead,.dead,.dead,.dead,.dead,.dead,.dead,.dead,.dead,.dead,.dead,.dead,.dead,.dead,.dead,.dead,.dead,.dead,.dead,.dead,.dead,.slice .ro 13 a.1.2.2.2.2.length (gl e_api_Job a.1.2.2.2.2),.int .i64 (a.1.2.2.2.2.length : Int),.int .i64 x.1,.dead,.dead,.dead,.dead,.dead,.dead,.dead,.dead,.dead,.dead,.dead,.dead,.dead,.dead,.dead,.dead,.dead,.dead,.dead,.dead,.dead,.dead,.dead,.dead,.dead],[(1,true,[.str a.2.1]),(3,false,[.str ByteArray.empty,.int .i64 (0 : Int),.int .i64 (0 : Int),.int .i64 (0 : Int),.int .i64 (0 : Int),.int .i64 (0 : Int),.int .i64 (0 : Int),.slice (.own 11) 6 0 gnil]),(45,false,[.str x.2.1,.int .i64 x.2.2.1,.int .i64 x.2.2.2.1,.int .i64 x.2.2.2.2.1,.int .i64 x.2.2.2.2.2.1,.int .i64 x.2.2.2.2.2.2.1,.int .i64 x.2.2.2.2.2.2.2.1,.slice (.own 55) 6 x.2.2.2.2.2.2.2.2.length (gl e_agent_Item x.2.2.2.2.2.2.2.2)])],[(11,6,0),(55,6,x.2.2.2.2.2.2.2.2.length)]⟩
def f341.kills (a : T_api_State × ByteArray × T_ar3_i64) : List Hint := [.tell (Int × ByteArray × Int × Int × Int × Int × Int × Int × (List (T_agent_Item))) (f341.S0 a)]
def f341.cuts (a : T_api_State × ByteArray × T_ar3_i64) : List (Nat × Σ β : Type,β→Tm) := [(45008000008,⟨Unit,fun x => ⟨[],[],[]⟩⟩)]
def f341.af (a : T_api_State × ByteArray × T_ar3_i64) : AF := AF.mk (.seq (.region [oT 3 0 .box [0],
 oT 4 1 .box [1],
 oT 5 2 .box [2],
 oT 6 3 (.alloc [.str ByteArray.empty,.int .i64 (0),.int .i64 (0),.int .i64 (0),.int .i64 (0),.int .i64 (0),.int .i64 (0),.slice (.own 0) 6 0 gnil]) [],
 ⟨(some 7),12,.move,[.c (.int .i64 (0))],none⟩])
 (.seq (.seq (.region [oT 12 13 (.load true 5) [3],
 oT 13 14 (.call false 357) [12],
 oT 14 18 (.un .not) [13]])
 (.cond (.t 14) (.seq (.region [oT 15 19 (.build [.str ByteArray.empty,.int .i64 (0),.int .i64 (0),.int .i64 (0),.int .i64 (0),.int .i64 (0),.int .i64 (0),.slice .full 6 0 gnil] []) [],
 ⟨none,20,(.store 8),[.t 6,.t 15],none⟩,
 ⟨(some 7),21,.move,[.c (.int .i64 (1))],none⟩])
 (.ret)) (.skip)))
 (.seq (.region [oT 16 22 (.fieldAddr 2) [3],
 oT 17 23 (.load false 1) [16],
 oT 18 24 (.mkfunc 358 0) [4],
 oT 19 25 (.call false 203) [17,18],
 oT 8 29 .move [19]])
 (.seq (.seq (.region [oT 20 30 .move [8],
 ⟨(some 21),31,(.bin .lss),[.t 20,.c (.int .i64 (0))],none⟩])
 (.cond (.t 21) (.seq (.region [oT 22 32 (.build [.str ByteArray.empty,.int .i64 (0),.int .i64 (0),.int .i64 (0),.int .i64 (0),.int .i64 (0),.int .i64 (0),.slice .full 6 0 gnil] []) [],
 ⟨none,33,(.store 8),[.t 6,.t 22],none⟩,
 ⟨(some 7),34,.move,[.c (.int .i64 (7))],none⟩])
 (.ret)) (.skip)))
 (.seq (.region [oT 23 35 (.load false 1) [4],
 oT 24 36 (.load true 3) [5],
 oT 25 37 (.fieldAddr 2) [3],
 oT 26 38 (.load false 1) [25],
 oT 27 39 .move [8],
 oT 28 40 (.indexAddr 7 none) [26,27],
 oT 29 41 (.fieldAddr 0) [28],
 oT 30 42 (.fieldAddr 1) [29],
 oT 31 43 (.load true 3) [30],
 oT 32 44 (.build [.str ByteArray.empty,.int .i64 (0),.int .i64 (0),.int .i64 (0),.int .i64 (0),.int .i64 (0),.int .i64 (0),.slice .full 6 0 gnil] [(0,1),(1,3),(4,3)]) [23,24,31],
 oT 9 45 (.alloc [.str ByteArray.empty,.int .i64 (0),.int .i64 (0),.int .i64 (0),.int .i64 (0),.int .i64 (0),.int .i64 (0),.slice (.own 0) 6 0 gnil]) [],
 ⟨none,54,(.store 8),[.t 9,.t 32],none⟩])
 (.seq (.adopt 55 45 7) (.seq (.seq (.region [oT 33 56 (.fieldAddr 4) [3],
 oT 34 57 (.load false 1) [33],
 oT 35 58 (.len false) [34],
 ⟨(some 36),59,.move,[.c (.int .i64 (0))],none⟩])
 (.block 0 (.loopT (Int × ByteArray × Int × Int × Int × Int × Int × Int × (List (T_agent_Item))) (f341.S0 a) 60 101 (.seq (.region [oT 37 60 (.bin .lss) [36,35]])
 (.seq (.cond (.t 37) (.skip) (.exit 0))
 (.seq (.block 1 (.seq (.region [oT 38 61 (.indexAddr 13 none) [34,36],
 oT 39 62 (.load true 13) [38],
 oT 11 63 (.alloc [.str ByteArray.empty,.str ByteArray.empty,.int .i64 (0),.int .i64 (0),.int .i64 (0),.int .i64 (0),.slice (.own 0) 2 0 gnil,.str ByteArray.empty,.str ByteArray.empty,.int .i64 (0),.int .i64 (0),.str ByteArray.empty,.int .i64 (0)]) [],
 ⟨none,77,(.store 13),[.t 11,.t 39],none⟩])
 (.seq (.region [oT 40 78 (.fieldAddr 11) [11],
 oT 41 79 (.load false 1) [40],
 oT 42 80 (.load false 1) [4],
 oT 43 81 (.bin .eql) [41,42]])
 (.cond (.t 43) (.region [oT 44 82 (.fieldAddr 7) [9],
 oT 45 83 (.load false 1) [44],
 oT 46 84 (.fieldAddr 0) [11],
 oT 47 85 (.fieldAddr 0) [46],
 oT 48 86 (.load false 1) [47],
 oT 49 87 (.fieldAddr 10) [11],
 oT 50 88 (.load false 1) [49],
 oT 51 89 (.fieldAddr 12) [11],
 oT 52 90 (.load false 1) [51],
 oT 53 91 (.fieldAddr 0) [11],
 oT 54 92 (.fieldAddr 3) [53],
 oT 55 93 (.load true 3) [54],
 oT 56 94 (.build [.str ByteArray.empty,.int .i64 (0),.int .i64 (0),.int .i64 (0),.int .i64 (0),.int .i64 (0)] [(0,1),(1,1),(2,1),(3,3)]) [48,50,52,55],
 oT 57 95 (.buildSlice 6 1 [.str ByteArray.empty,.int .i64 (0),.int .i64 (0),.int .i64 (0),.int .i64 (0),.int .i64 (0)] [(0,6)]) [56],
 oT 58 96 (.append 6 56) [45,57],
 oT 59 97 (.fieldAddr 7) [9],
 ⟨none,98,(.store 1),[.t 59,.t 58],none⟩]) (.skip)))))
 (.region [⟨(some 60),99,(.bin .add),[.t 36,.c (.int .i64 (1))],none⟩,
 oT 36 100 .move [60]])))))))
 (.seq (.region [oT 61 101 (.load true 8) [9],
 ⟨none,102,(.store 8),[.t 6,.t 61],none⟩,
 ⟨(some 7),103,.move,[.c (.int .i64 (0))],none⟩])
 (.ret)))))))))
 [.cell 6 true 8,.tmp 7] 0 59
def f341.env : Env := [(357,f357.C),(203,f1203.C)]
def f341.tree (a : T_api_State × ByteArray × T_ar3_i64) : Prop := ∃ c1 : T_api_State,(a.1.1 = c1.1)∧(a.1.2.1 = c1.2.1)∧SlQ a.1.2.2.1.length c1.2.2.1.length (gl e_api_Machine a.1.2.2.1) (gl e_api_Machine c1.2.2.1) (SlQ a.1.2.2.2.1.length c1.2.2.2.1.length (gl e_api_Queue a.1.2.2.2.1) (gl e_api_Queue c1.2.2.2.1) (SlQ a.1.2.2.2.2.length c1.2.2.2.2.length (gl e_api_Job a.1.2.2.2.2) (gl e_api_Job c1.2.2.2.2) ((state_pre c1)∧Br (!(stateB c1)) ((ByteArray.empty = (((ofA a).1).1))∧((0 : Int) = ((((ofA a).1).2.1).1))∧((0 : Int) = ((((ofA a).1).2.1).2.1))∧((0 : Int) = ((((ofA a).1).2.1).2.2))∧((0 : Int) = ((((ofA a).1).2.2.1).1))∧((0 : Int) = ((((ofA a).1).2.2.1).2.1))∧((0 : Int) = ((((ofA a).1).2.2.1).2.2))∧SlQ 0 ((((ofA a).1).2.2.2).length) gnil (gl e_agent_Item (((ofA a).1).2.2.2)) (((1 : Int) = ((ofA a).2))∧True)) (∃ c5 : (List (T_api_Machine)) × ByteArray,SlQ a.1.2.2.1.length c5.1.length (gl e_api_Machine a.1.2.2.1) (gl e_api_Machine c5.1) ((DEqs [.eptr [.str a.2.1]] [.eptr [.str c5.2]])∧(LL20 c5)∧Br (decide ((ixMach c5) < (0 : Int))) ((ByteArray.empty = (((ofA a).1).1))∧((0 : Int) = ((((ofA a).1).2.1).1))∧((0 : Int) = ((((ofA a).1).2.1).2.1))∧((0 : Int) = ((((ofA a).1).2.1).2.2))∧((0 : Int) = ((((ofA a).1).2.2.1).1))∧((0 : Int) = ((((ofA a).1).2.2.1).2.1))∧((0 : Int) = ((((ofA a).1).2.2.1).2.2))∧SlQ 0 ((((ofA a).1).2.2.2).length) gnil (gl e_agent_Item (((ofA a).1).2.2.2)) (((7 : Int) = ((ofA a).2))∧True)) (Br (decide ((0 : Int)≤(ixMach c5)) && decide ((ixMach c5) < (a.1.2.2.1.length : Int))) (∃ (I11 : (Int × ByteArray × Int × Int × Int × Int × Int × Int × (List (T_agent_Item)))→Prop) (μ12 : (Int × ByteArray × Int × Int × Int × Int × Int × Int × (List (T_agent_Item)))→Nat),(∃ x10 : Int × ByteArray × Int × Int × Int × Int × Int × Int × (List (T_agent_Item)),SlS e_api_Job a.1.2.2.2.2 (((a.1.2.2.2.2.length : Int) = (a.1.2.2.2.2.length : Int))∧((0 : Int) = x10.1)∧(a.2.1 = a.2.1)∧(ByteArray.empty = ByteArray.empty)∧((0 : Int) = (0 : Int))∧((0 : Int) = (0 : Int))∧((0 : Int) = (0 : Int))∧((0 : Int) = (0 : Int))∧((0 : Int) = (0 : Int))∧((0 : Int) = (0 : Int))∧SlQ 0 0 gnil gnil ((a.2.1 = x10.2.1)∧(a.2.2.1 = x10.2.2.1)∧(a.2.2.2.1 = x10.2.2.2.1)∧(a.2.2.2.2 = x10.2.2.2.2.1)∧(((((at_ a.1.2.2.1 (ixMach c5)).1).2.1).1) = x10.2.2.2.2.2.1)∧(((((at_ a.1.2.2.1 (ixMach c5)).1).2.1).2.1) = x10.2.2.2.2.2.2.1)∧(((((at_ a.1.2.2.1 (ixMach c5)).1).2.1).2.2) = x10.2.2.2.2.2.2.2.1)∧SlQ 0 x10.2.2.2.2.2.2.2.2.length gnil (gl e_agent_Item x10.2.2.2.2.2.2.2.2) ((0 = 0)∧(0 = x10.2.2.2.2.2.2.2.2.length)∧I11 x10))))∧∀ y13 : Int × ByteArray × Int × Int × Int × Int × Int × Int × (List (T_agent_Item)),I11 y13→(Br (decide (y13.1 < (a.1.2.2.2.2.length : Int))) (Br (decide ((0 : Int)≤y13.1) && decide (y13.1 < (a.1.2.2.2.2.length : Int))) (Br (((at_ a.1.2.2.2.2 y13.1).2.2.1).toList == a.2.1.toList) ((y13.2.2.2.2.2.2.2.2.length = y13.2.2.2.2.2.2.2.2.length∧room ((y13.2.2.2.2.2.2.2.2.length + 1) * 56))∧(Let (IntKind.i64.wrap (y13.1 + (1 : Int))) (fun v19 : Int => ∃ x20 : Int × ByteArray × Int × Int × Int × Int × Int × Int × (List (T_agent_Item)),SlS e_api_Job a.1.2.2.2.2 (((a.1.2.2.2.2.length : Int) = (a.1.2.2.2.2.length : Int))∧(v19 = x20.1)∧(a.2.1 = a.2.1)∧(ByteArray.empty = ByteArray.empty)∧((0 : Int) = (0 : Int))∧((0 : Int) = (0 : Int))∧((0 : Int) = (0 : Int))∧((0 : Int) = (0 : Int))∧((0 : Int) = (0 : Int))∧((0 : Int) = (0 : Int))∧SlQ 0 0 gnil gnil ((y13.2.1 = x20.2.1)∧(y13.2.2.1 = x20.2.2.1)∧(y13.2.2.2.1 = x20.2.2.2.1)∧(y13.2.2.2.2.1 = x20.2.2.2.2.1)∧(y13.2.2.2.2.2.1 = x20.2.2.2.2.2.1)∧(y13.2.2.2.2.2.2.1 = x20.2.2.2.2.2.2.1)∧(y13.2.2.2.2.2.2.2.1 = x20.2.2.2.2.2.2.2.1)∧SlQ (y13.2.2.2.2.2.2.2.2.length + 1) x20.2.2.2.2.2.2.2.2.length (gapp (gl e_agent_Item y13.2.2.2.2.2.2.2.2) y13.2.2.2.2.2.2.2.2.length (fun _ => [.str (((at_ a.1.2.2.2.2 y13.1).1).1),.int .i64 ((at_ a.1.2.2.2.2 y13.1).2.1),.int .i64 ((at_ a.1.2.2.2.2 y13.1).2.2.2),.int .i64 ((((at_ a.1.2.2.2.2 y13.1).1).2.2.2.1).1),.int .i64 ((((at_ a.1.2.2.2.2 y13.1).1).2.2.2.1).2.1),.int .i64 ((((at_ a.1.2.2.2.2 y13.1).1).2.2.2.1).2.2)])) (gl e_agent_Item x20.2.2.2.2.2.2.2.2) ((0 = 0)∧((y13.2.2.2.2.2.2.2.2.length + 1) = x20.2.2.2.2.2.2.2.2.length)∧I11 x20∧μ12 x20 < μ12 y13)))))) (Let (IntKind.i64.wrap (y13.1 + (1 : Int))) (fun v25 : Int => ∃ x26 : Int × ByteArray × Int × Int × Int × Int × Int × Int × (List (T_agent_Item)),SlS e_api_Job a.1.2.2.2.2 (((a.1.2.2.2.2.length : Int) = (a.1.2.2.2.2.length : Int))∧(v25 = x26.1)∧(a.2.1 = a.2.1)∧(ByteArray.empty = ByteArray.empty)∧((0 : Int) = (0 : Int))∧((0 : Int) = (0 : Int))∧((0 : Int) = (0 : Int))∧((0 : Int) = (0 : Int))∧((0 : Int) = (0 : Int))∧((0 : Int) = (0 : Int))∧SlQ 0 0 gnil gnil ((y13.2.1 = x26.2.1)∧(y13.2.2.1 = x26.2.2.1)∧(y13.2.2.2.1 = x26.2.2.2.1)∧(y13.2.2.2.2.1 = x26.2.2.2.2.1)∧(y13.2.2.2.2.2.1 = x26.2.2.2.2.2.1)∧(y13.2.2.2.2.2.2.1 = x26.2.2.2.2.2.2.1)∧(y13.2.2.2.2.2.2.2.1 = x26.2.2.2.2.2.2.2.1)∧SlQ y13.2.2.2.2.2.2.2.2.length x26.2.2.2.2.2.2.2.2.length (gl e_agent_Item y13.2.2.2.2.2.2.2.2) (gl e_agent_Item x26.2.2.2.2.2.2.2.2) ((0 = 0)∧(y13.2.2.2.2.2.2.2.2.length = x26.2.2.2.2.2.2.2.2.length)∧I11 x26∧μ12 x26 < μ12 y13)))))) False) ((y13.2.1 = (((ofA a).1).1))∧(y13.2.2.1 = ((((ofA a).1).2.1).1))∧(y13.2.2.2.1 = ((((ofA a).1).2.1).2.1))∧(y13.2.2.2.2.1 = ((((ofA a).1).2.1).2.2))∧(y13.2.2.2.2.2.1 = ((((ofA a).1).2.2.1).1))∧(y13.2.2.2.2.2.2.1 = ((((ofA a).1).2.2.1).2.1))∧(y13.2.2.2.2.2.2.2.1 = ((((ofA a).1).2.2.1).2.2))∧SlQ y13.2.2.2.2.2.2.2.2.length ((((ofA a).1).2.2.2).length) (gl e_agent_Item y13.2.2.2.2.2.2.2.2) (gl e_agent_Item (((ofA a).1).2.2.2)) (((0 : Int) = ((ofA a).2))∧True)))) False))))))
def f341.vc (a : T_api_State × ByteArray × T_ar3_i64) : Prop := (state_pre a.1∧((¬ ((stateB (a.1)) = true)→(((ByteArray.empty,((0 : Int),(0 : Int),(0 : Int)),((0 : Int),(0 : Int),(0 : Int)),[]),(1 : Int)) = ofA a))∧(¬ (¬ ((stateB (a.1)) = true))→(LL20 (a.1.2.2.1,a.2.1)∧(((ixMach (a.1.2.2.1,a.2.1)) < (0 : Int)→(((ByteArray.empty,((0 : Int),(0 : Int),(0 : Int)),((0 : Int),(0 : Int),(0 : Int)),[]),(7 : Int)) = ofA a))∧(¬ ((ixMach (a.1.2.2.1,a.2.1)) < (0 : Int))→((0 : Int)≤(ixMach (a.1.2.2.1,a.2.1))∧(ixMach (a.1.2.2.1,a.2.1)) < (a.1.2.2.1.length : Int)∧(∃ (I11 : (Int × ByteArray × Int × Int × Int × Int × Int × Int × (List (T_agent_Item)))→Prop) (μ12 : (Int × ByteArray × Int × Int × Int × Int × Int × Int × (List (T_agent_Item)))→Nat),I11 ((0 : Int),a.2.1,a.2.2.1,a.2.2.2.1,a.2.2.2.2,(((at_ a.1.2.2.1 (ixMach (a.1.2.2.1,a.2.1))).1).2.1).1,(((at_ a.1.2.2.1 (ixMach (a.1.2.2.1,a.2.1))).1).2.1).2.1,(((at_ a.1.2.2.1 (ixMach (a.1.2.2.1,a.2.1))).1).2.1).2.2,[])∧∀ y13 : Int × ByteArray × Int × Int × Int × Int × Int × Int × (List (T_agent_Item)),I11 y13→((y13.1 < (a.1.2.2.2.2.length : Int)→((0 : Int)≤y13.1∧y13.1 < (a.1.2.2.2.2.length : Int)∧((((at_ a.1.2.2.2.2 y13.1).2.2.1) = a.2.1→(y13.2.2.2.2.2.2.2.2.length + 1≤1073741824∧(-9223372036854775808≤(y13.1 + (1 : Int))∧(y13.1 + (1 : Int))≤9223372036854775807∧(I11 ((y13.1 + (1 : Int)),y13.2.1,y13.2.2.1,y13.2.2.2.1,y13.2.2.2.2.1,y13.2.2.2.2.2.1,y13.2.2.2.2.2.2.1,y13.2.2.2.2.2.2.2.1,y13.2.2.2.2.2.2.2.2 ++ ([(((at_ a.1.2.2.2.2 y13.1).1).1,(at_ a.1.2.2.2.2 y13.1).2.1,(at_ a.1.2.2.2.2 y13.1).2.2.2,(((at_ a.1.2.2.2.2 y13.1).1).2.2.2.1))]))∧μ12 ((y13.1 + (1 : Int)),y13.2.1,y13.2.2.1,y13.2.2.2.1,y13.2.2.2.2.1,y13.2.2.2.2.2.1,y13.2.2.2.2.2.2.1,y13.2.2.2.2.2.2.2.1,y13.2.2.2.2.2.2.2.2 ++ ([(((at_ a.1.2.2.2.2 y13.1).1).1,(at_ a.1.2.2.2.2 y13.1).2.1,(at_ a.1.2.2.2.2 y13.1).2.2.2,(((at_ a.1.2.2.2.2 y13.1).1).2.2.2.1))])) < μ12 y13))))∧(¬ (((at_ a.1.2.2.2.2 y13.1).2.2.1) = a.2.1)→(-9223372036854775808≤(y13.1 + (1 : Int))∧(y13.1 + (1 : Int))≤9223372036854775807∧(I11 ((y13.1 + (1 : Int)),y13.2.1,y13.2.2.1,y13.2.2.2.1,y13.2.2.2.2.1,y13.2.2.2.2.2.1,y13.2.2.2.2.2.2.1,y13.2.2.2.2.2.2.2.1,y13.2.2.2.2.2.2.2.2)∧μ12 ((y13.1 + (1 : Int)),y13.2.1,y13.2.2.1,y13.2.2.2.1,y13.2.2.2.2.1,y13.2.2.2.2.2.1,y13.2.2.2.2.2.2.1,y13.2.2.2.2.2.2.2.1,y13.2.2.2.2.2.2.2.2) < μ12 y13))))))∧(¬ (y13.1 < (a.1.2.2.2.2.length : Int))→(((y13.2.1,(y13.2.2.1,y13.2.2.2.1,y13.2.2.2.2.1),(y13.2.2.2.2.2.1,y13.2.2.2.2.2.2.1,y13.2.2.2.2.2.2.2.1),y13.2.2.2.2.2.2.2.2),(0 : Int)) = ofA a)))))))))))
set_option maxRecDepth 100000 in
set_option maxHeartbeats 2000000 in
theorem f341.of (a : T_api_State × ByteArray × T_ar3_i64) (h : f341.vc a) : f341.tree a := ⟨a.1,⟨rfl,⟨rfl,slQ (Rds.self (enc := e_api_Machine)) (slQ (Rds.self (enc := e_api_Queue)) (slQ (Rds.self (enc := e_api_Job)) (⟨h.1,br h.2 (Cnd.not Cnd.b) (fun h2 k44 => ⟨(congrArg (fun x : T_agent_Order × Int => x.1.1) k44 :),⟨(congrArg (fun x : T_agent_Order × Int => x.1.2.1.1) k44 :),⟨(congrArg (fun x : T_agent_Order × Int => x.1.2.1.2.1) k44 :),⟨(congrArg (fun x : T_agent_Order × Int => x.1.2.1.2.2) k44 :),⟨(congrArg (fun x : T_agent_Order × Int => x.1.2.2.1.1) k44 :),⟨(congrArg (fun x : T_agent_Order × Int => x.1.2.2.1.2.1) k44 :),⟨(congrArg (fun x : T_agent_Order × Int => x.1.2.2.1.2.2) k44 :),slQ (Rds.to (Rds.nil (enc := e_agent_Item)) (congrArg (fun x : T_agent_Order × Int => x.1.2.2.2) k44 :)) (⟨(congrArg (fun x : T_agent_Order × Int => x.2) k44 :),trivial⟩)⟩⟩⟩⟩⟩⟩⟩) (fun h3 k45 => ⟨(a.1.2.2.1,a.2.1),slQ (Rds.self (enc := e_api_Machine)) (⟨(DEqs.refl _),⟨k45.1,br k45.2 Cnd.dec (fun h6 k41 => ⟨(congrArg (fun x : T_agent_Order × Int => x.1.1) k41 :),⟨(congrArg (fun x : T_agent_Order × Int => x.1.2.1.1) k41 :),⟨(congrArg (fun x : T_agent_Order × Int => x.1.2.1.2.1) k41 :),⟨(congrArg (fun x : T_agent_Order × Int => x.1.2.1.2.2) k41 :),⟨(congrArg (fun x : T_agent_Order × Int => x.1.2.2.1.1) k41 :),⟨(congrArg (fun x : T_agent_Order × Int => x.1.2.2.1.2.1) k41 :),⟨(congrArg (fun x : T_agent_Order × Int => x.1.2.2.1.2.2) k41 :),slQ (Rds.to (Rds.nil (enc := e_agent_Item)) (congrArg (fun x : T_agent_Order × Int => x.1.2.2.2) k41 :)) (⟨(congrArg (fun x : T_agent_Order × Int => x.2) k41 :),trivial⟩)⟩⟩⟩⟩⟩⟩⟩) (fun h7 k42 => chk k42.2.2 Cnd.ix ⟨k42.1,k42.2.1⟩ (fun h9 k40 => Exists.elim k40 (fun I11 h37_ => Exists.elim h37_ (fun μ12 h37 => ⟨I11,μ12,⟨((0 : Int),a.2.1,a.2.2.1,a.2.2.2.1,a.2.2.2.2,(((at_ a.1.2.2.1 (ixMach (a.1.2.2.1,a.2.1))).1).2.1).1,(((at_ a.1.2.2.1 (ixMach (a.1.2.2.1,a.2.1))).1).2.1).2.1,(((at_ a.1.2.2.1 (ixMach (a.1.2.2.1,a.2.1))).1).2.1).2.2,[]),SlS.mk  (⟨rfl,⟨rfl,⟨rfl,⟨rfl,⟨rfl,⟨rfl,⟨rfl,⟨rfl,⟨rfl,⟨rfl,slQ ⟨rfl,fun _ _ => DEqs.refl _⟩ (⟨rfl,⟨rfl,⟨rfl,⟨rfl,⟨rfl,⟨rfl,⟨rfl,slQ (Rds.nil (enc := e_agent_Item)) (⟨rfl,⟨(numR gnil (Rds.nil (enc := e_agent_Item))),h37.1⟩⟩)⟩⟩⟩⟩⟩⟩⟩)⟩⟩⟩⟩⟩⟩⟩⟩⟩⟩)⟩,fun y13 h39 => br (h37.2 y13 h39) Cnd.dec (fun h14 k35 => chk k35.2.2 Cnd.ix ⟨k35.1,k35.2.1⟩ (fun h16 k33 => br k33 Cnd.seq (fun h17 k31 => ⟨⟨rfl,(room_of k31.1 (by decide))⟩,wrapK.i64 k31.2 (fun h22 h23 k24 => ⟨((y13.1 + (1 : Int)),y13.2.1,y13.2.2.1,y13.2.2.2.1,y13.2.2.2.2.1,y13.2.2.2.2.2.1,y13.2.2.2.2.2.2.1,y13.2.2.2.2.2.2.2.1,y13.2.2.2.2.2.2.2.2 ++ ([(((at_ a.1.2.2.2.2 y13.1).1).1,(at_ a.1.2.2.2.2 y13.1).2.1,(at_ a.1.2.2.2.2 y13.1).2.2.2,(((at_ a.1.2.2.2.2 y13.1).1).2.2.2.1))])),SlS.mk  (⟨rfl,⟨rfl,⟨rfl,⟨rfl,⟨rfl,⟨rfl,⟨rfl,⟨rfl,⟨rfl,⟨rfl,slQ ⟨rfl,fun _ _ => DEqs.refl _⟩ (⟨rfl,⟨rfl,⟨rfl,⟨rfl,⟨rfl,⟨rfl,⟨rfl,slQ (Rds.app (enc := e_agent_Item) (Rds.self (enc := e_agent_Item)) (Rds.one (enc := e_agent_Item) (DEqs.refl _))) (⟨rfl,⟨(numR (gapp (gl e_agent_Item y13.2.2.2.2.2.2.2.2) y13.2.2.2.2.2.2.2.2.length (fun _ => [.str (((at_ a.1.2.2.2.2 y13.1).1).1),.int .i64 ((at_ a.1.2.2.2.2 y13.1).2.1),.int .i64 ((at_ a.1.2.2.2.2 y13.1).2.2.2),.int .i64 ((((at_ a.1.2.2.2.2 y13.1).1).2.2.2.1).1),.int .i64 ((((at_ a.1.2.2.2.2 y13.1).1).2.2.2.1).2.1),.int .i64 ((((at_ a.1.2.2.2.2 y13.1).1).2.2.2.1).2.2)])) (Rds.app (enc := e_agent_Item) (Rds.self (enc := e_agent_Item)) (Rds.one (enc := e_agent_Item) (DEqs.refl _)))),k24⟩⟩)⟩⟩⟩⟩⟩⟩⟩)⟩⟩⟩⟩⟩⟩⟩⟩⟩⟩)⟩)⟩) (fun h18 k32 => wrapK.i64 k32 (fun h28 h29 k30 => ⟨((y13.1 + (1 : Int)),y13.2.1,y13.2.2.1,y13.2.2.2.1,y13.2.2.2.2.1,y13.2.2.2.2.2.1,y13.2.2.2.2.2.2.1,y13.2.2.2.2.2.2.2.1,y13.2.2.2.2.2.2.2.2),SlS.mk  (⟨rfl,⟨rfl,⟨rfl,⟨rfl,⟨rfl,⟨rfl,⟨rfl,⟨rfl,⟨rfl,⟨rfl,slQ ⟨rfl,fun _ _ => DEqs.refl _⟩ (⟨rfl,⟨rfl,⟨rfl,⟨rfl,⟨rfl,⟨rfl,⟨rfl,slQ (Rds.self (enc := e_agent_Item)) (⟨rfl,⟨(numR (gl e_agent_Item y13.2.2.2.2.2.2.2.2) (Rds.self (enc := e_agent_Item))),k30⟩⟩)⟩⟩⟩⟩⟩⟩⟩)⟩⟩⟩⟩⟩⟩⟩⟩⟩⟩)⟩)))) (fun h15 k36 => ⟨(congrArg (fun x : T_agent_Order × Int => x.1.1) k36 :),⟨(congrArg (fun x : T_agent_Order × Int => x.1.2.1.1) k36 :),⟨(congrArg (fun x : T_agent_Order × Int => x.1.2.1.2.1) k36 :),⟨(congrArg (fun x : T_agent_Order × Int => x.1.2.1.2.2) k36 :),⟨(congrArg (fun x : T_agent_Order × Int => x.1.2.2.1.1) k36 :),⟨(congrArg (fun x : T_agent_Order × Int => x.1.2.2.1.2.1) k36 :),⟨(congrArg (fun x : T_agent_Order × Int => x.1.2.2.1.2.2) k36 :),slQ (Rds.to (Rds.self (enc := e_agent_Item)) (congrArg (fun x : T_agent_Order × Int => x.1.2.2.2) k36 :)) (⟨(congrArg (fun x : T_agent_Order × Int => x.2) k36 :),trivial⟩)⟩⟩⟩⟩⟩⟩⟩)⟩))))⟩⟩)⟩)⟩)))⟩⟩⟩
theorem f341.eq (a : T_api_State × ByteArray × T_ar3_i64) : (f341.af a).gives f341.env (f341.args a) (f341.blks a) (f341.res a) (f341.blks' a) = f341.tree a := by kernel_rfl
end Go.Abs

-- interregnum/interregnumref24.Of
namespace Go.Abs
open Go
end Go.Abs

/- interregnum/interregnumref24.Of -/
namespace Go.Abs
open Go
set_option linter.unusedVariables false
end Go.Abs

/- States and the orders that they tell: what the code asks is so. -/
namespace Go.Abs
open Go
theorem ofItems_yes {l : List TJob} {n : ByteArray} {i : Int} (h0 : 0 ≤ i) (h : i < (l.length : Int)) (e : (at_ l i).2.2.1 = n) : ofItems (l.take (i + 1).toNat) n = ofItems (l.take i.toNat) n ++ [((at_ l i).1.1,(at_ l i).2.1,(at_ l i).2.2.2,(at_ l i).1.2.2.2.1)] := by
  rw [take_at' h0 h]
  simp [ofItems,e]
theorem ofItems_no {l : List TJob} {n : ByteArray} {i : Int} (h0 : 0 ≤ i) (h : i < (l.length : Int)) (e : ¬ (at_ l i).2.2.1 = n) : ofItems (l.take (i + 1).toNat) n = ofItems (l.take i.toNat) n := by
  rw [take_at' h0 h]
  simp [ofItems,e]
theorem ofItems_len {l : List TJob} {n : ByteArray} (i : Nat) : (ofItems (l.take i) n).length ≤ i := by
  unfold ofItems
  rw [List.length_map]
  refine Nat.le_trans (List.length_filter_le _ _) ?_
  rw [List.length_take]
  omega

theorem of_val {s : TState} {n : ByteArray} {st : TRes} (h1 : stateB s = true) (h2 : ¬ machR (s,n) < 0) : ofA (s,n,st) = ((n,st,(at_ s.2.2.1 (machR (s,n))).1.2.1,ofItems s.2.2.2.2 n),0) := by
  unfold ofA
  rw [if_neg (not_not_intro h1),if_neg h2]
  rfl
theorem of_none {s : TState} {n : ByteArray} {st : TRes} (h1 : stateB s = true) (h2 : machR (s,n) < 0) : ofA (s,n,st) = ((ByteArray.empty,(0,0,0),(0,0,0),[]),7) := by
  unfold ofA
  rw [if_neg (not_not_intro h1),if_pos h2]
theorem of_bad {s : TState} {n : ByteArray} {st : TRes} (h1 : ¬ stateB s = true) : ofA (s,n,st) = ((ByteArray.empty,(0,0,0),(0,0,0),[]),1) := by
  unfold ofA
  rw [if_pos h1]

theorem f341.ok (a : TState × ByteArray × TRes) (h : of_pre a) : f341.vc a := by
  obtain ⟨s,n,s1,s2,s3⟩ := a
  have h : state_pre s := h
  have hl : s.2.2.2.2.length ≤ 1048576 := h.2.2.1
  unfold f341.vc
  refine ⟨h,fun c => (of_bad c).symm,fun c1 => ⟨h.1.1,fun c => (of_none (Classical.not_not.1 c1) c).symm,fun c2 => ?_⟩⟩
  obtain ⟨m0,m1,_⟩ := ixP_range _ _ c2
  refine ⟨m0,m1,fun y => (0 ≤ y.1 ∧ y.1 ≤ (s.2.2.2.2.length : Int)) ∧ y.2 = (n,s1,s2,s3,((at_ s.2.2.1 (ixMach (s.2.2.1,n))).1.2.1).1,((at_ s.2.2.1 (ixMach (s.2.2.1,n))).1.2.1).2.1,((at_ s.2.2.1 (ixMach (s.2.2.1,n))).1.2.1).2.2,ofItems (s.2.2.2.2.take y.1.toNat) n),fun y => s.2.2.2.2.length - y.1.toNat,⟨⟨Int.le_refl _,by simp⟩,rfl⟩,fun y hy => ?_⟩
  obtain ⟨i,y⟩ := y
  simp only at hy
  obtain ⟨⟨g0,g1⟩,rfl⟩ := hy
  have hlen := ofItems_len (l := s.2.2.2.2) (n := n) i.toNat
  simp only
  refine ⟨fun hlt => ⟨g0,hlt,fun d => ⟨by omega,by omega,by omega,⟨⟨by omega,by omega⟩,?_⟩,by omega⟩,fun d => ⟨by omega,by omega,⟨⟨by omega,by omega⟩,?_⟩,by omega⟩⟩,fun hge => ?_⟩
  · rw [ofItems_yes g0 hlt d]
  · rw [ofItems_no g0 hlt d]
  · rw [List.take_of_length_le (by omega)]
    exact (of_val (st := (s1,s2,s3)) (Classical.not_not.1 c1) c2).symm

end Go.Abs
