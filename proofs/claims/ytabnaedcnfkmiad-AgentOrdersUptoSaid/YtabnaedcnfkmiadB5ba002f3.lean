/- Functions, and what the code asks of them: PAgentLaw2. -/
import Derived.KernelRfl
import Derived.Test.YtabnaedcnfkmiadBc41c1e0a
import Derived.Test.YtabnaedcnfkmiadB8cd9c866
import Derived.Test.YtabnaedcnfkmiadBa212655c
import Derived.Test.YtabnaedcnfkmiadB0ed4d7e1
import Derived.Test.YtabnaedcnfkmiadB887addbd
import Derived.Test.YtabnaedcnfkmiadB8cf22718
import Derived.Test.YtabnaedcnfkmiadBa628de06
import Derived.Test.YtabnaedcnfkmiadB9baf0615
import Derived.Test.YtabnaedcnfkmiadB30b1f4ec
import Derived.Test.YtabnaedcnfkmiadB76552271
import Derived.Test.YtabnaedcnfkmiadB1a3d7548
import Derived.Test.YtabnaedcnfkmiadB51ea2591
set_option linter.unusedVariables false
set_option linter.unusedSimpArgs false
-- interregnum/interregnumlaw24.AgentOrders
namespace Go.Abs
open Go
def f331.wf (a : T_ar3_i64 × T_ar3_i64 × T_interregnumref24_Order × T_api_State × ByteArray) : Prop := k_ar3_i64.ok a.1∧k_ar3_i64.ok a.2.1∧k_interregnumref24_Order.ok a.2.2.1∧k_api_State.ok a.2.2.2.1∧k_str.ok a.2.2.2.2
def f331.size (a : T_ar3_i64 × T_ar3_i64 × T_interregnumref24_Order × T_api_State × ByteArray) : Nat := k_ar3_i64.size a.1 + (k_ar3_i64.size a.2.1 + (k_interregnumref24_Order.size a.2.2.1 + (k_api_State.size a.2.2.2.1 + (k_str.size a.2.2.2.2))))
def f331.lpre (a : T_ar3_i64 × T_ar3_i64 × T_interregnumref24_Order × T_api_State × ByteArray) : Prop := f331.wf a∧f331.size a≤1048576
def f331.args (a : T_ar3_i64 × T_ar3_i64 × T_interregnumref24_Order × T_api_State × ByteArray) : List D := [.agg [.int .i64 a.1.1,.int .i64 a.1.2.1,.int .i64 a.1.2.2],.agg [.int .i64 a.2.1.1,.int .i64 a.2.1.2.1,.int .i64 a.2.1.2.2],.agg [.str a.2.2.1.1,.int .i64 a.2.2.1.2.1.1,.int .i64 a.2.2.1.2.1.2.1,.int .i64 a.2.2.1.2.1.2.2,.int .i64 a.2.2.1.2.2.1.1,.int .i64 a.2.2.1.2.2.1.2.1,.int .i64 a.2.2.1.2.2.1.2.2,.slice .ro 6 a.2.2.1.2.2.2.length (gl e_interregnumref24_Item a.2.2.1.2.2.2)],.agg [.int .i64 a.2.2.2.1.1,.int .i64 a.2.2.2.1.2.1,.slice .ro 7 a.2.2.2.1.2.2.1.length (gl e_api_Machine a.2.2.2.1.2.2.1),.slice .ro 4 a.2.2.2.1.2.2.2.1.length (gl e_api_Queue a.2.2.2.1.2.2.2.1),.slice .ro 13 a.2.2.2.1.2.2.2.2.length (gl e_api_Job a.2.2.2.1.2.2.2.2)],.str a.2.2.2.2]
def f331.blks (a : T_ar3_i64 × T_ar3_i64 × T_interregnumref24_Order × T_api_State × ByteArray) : List (List D) := []
def f331.res (a : T_ar3_i64 × T_ar3_i64 × T_interregnumref24_Order × T_api_State × ByteArray) : List D := [.bool (lawTrue a)]
def f331.blks' (a : T_ar3_i64 × T_ar3_i64 × T_interregnumref24_Order × T_api_State × ByteArray) : List (List D) := []
def f331.C : Contract := FnC f331.args f331.blks (fun a => f331.lpre a) f331.res f331.blks'
end Go.Abs

/- interregnum/interregnumlaw24.AgentOrders -/
namespace Go.Abs
open Go
set_option linter.unusedVariables false
def f331.kills (a : T_ar3_i64 × T_ar3_i64 × T_interregnumref24_Order × T_api_State × ByteArray) : List Hint := []
def f331.cuts (a : T_ar3_i64 × T_ar3_i64 × T_interregnumref24_Order × T_api_State × ByteArray) : List (Nat × Σ β : Type,β→Tm) := []
def f331.af (a : T_ar3_i64 × T_ar3_i64 × T_interregnumref24_Order × T_api_State × ByteArray) : AF := AF.mk (.seq (.region [oT 5 0 .box [0],
 oT 6 1 .box [1],
 oT 7 2 .box [2],
 oT 8 3 .box [3],
 ⟨(some 10),4,.move,[.c (.bool false)],none⟩])
 (.seq (.seq (.region [oT 15 5 (.call false 98) [],
 oT 16 9 (.un .not) [15],
 oT 17 10 .move [16],
 oG 18 11 (.load true 8) [7] 17 false,
 oG 19 12 (.buildSlice 8 1 [.str ByteArray.empty,.int .i64 (0),.int .i64 (0),.int .i64 (0),.int .i64 (0),.int .i64 (0),.int .i64 (0),.slice .full 6 0 gnil] [(0,8)]) [18] 17 false,
 oG 20 13 (.call false 100) [19] 17 false,
 oG 21 17 (.un .not) [20] 17 false,
 ⟨(some 22),18,.pick,[.t 17,.c (.bool true),.t 21],none⟩,
 oT 23 19 .move [22],
 oG 24 20 (.fieldAddr 4) [8] 23 false,
 oG 25 21 (.load false 1) [24] 23 false,
 oG 26 22 (.len false) [25] 23 false,
 ⟨(some 27),23,(.bin .gtr),[.t 26,.c (.int .i64 (100))],(some (23,false))⟩,
 ⟨(some 28),24,.pick,[.t 23,.c (.bool true),.t 27],none⟩,
 oT 29 25 .move [28],
 oG 30 26 (.fieldAddr 2) [8] 29 false,
 oG 31 27 (.load false 1) [30] 29 false,
 oG 32 28 (.len false) [31] 29 false,
 ⟨(some 33),29,(.bin .gtr),[.t 32,.c (.int .i64 (40))],(some (29,false))⟩,
 ⟨(some 34),30,.pick,[.t 29,.c (.bool true),.t 33],none⟩,
 oT 35 31 .move [34],
 oG 36 32 (.fieldAddr 3) [8] 35 false,
 oG 37 33 (.load false 1) [36] 35 false,
 oG 38 34 (.len false) [37] 35 false,
 ⟨(some 39),35,(.bin .gtr),[.t 38,.c (.int .i64 (40))],(some (35,false))⟩,
 ⟨(some 40),36,.pick,[.t 35,.c (.bool true),.t 39],none⟩])
 (.cond (.t 40) (.seq (.region [oT 41 37 (.call false 98) [],
 oT 10 41 .move [41]])
 (.ret)) (.skip)))
 (.seq (.region [oT 43 42 (.load true 5) [8],
 oT 44 43 .move [4],
 oT 45 44 (.load true 3) [5],
 oT 46 45 (.call false 341) [43,44,45],
 oT 42 49 .move [46],
 oT 47 50 (.extract 0) [42],
 oT 48 51 (.extract 1) [42],
 oT 11 52 (.alloc [.str ByteArray.empty,.int .i64 (0),.int .i64 (0),.int .i64 (0),.int .i64 (0),.int .i64 (0),.int .i64 (0),.slice (.own 0) 6 0 gnil]) [],
 ⟨none,61,(.store 8),[.t 11,.t 47],none⟩,
 oT 12 62 .move [48]])
 (.seq (.region [oT 50 63 (.load true 5) [8],
 oT 51 64 .move [4],
 oT 52 65 (.load true 3) [5],
 oT 53 66 (.call false 342) [50,51,52],
 oT 49 70 .move [53],
 oT 54 71 (.extract 0) [49],
 oT 55 72 (.extract 1) [49],
 oT 13 73 (.alloc [.str ByteArray.empty,.int .i64 (0),.int .i64 (0),.int .i64 (0),.int .i64 (0),.int .i64 (0),.int .i64 (0),.slice (.own 0) 6 0 gnil]) [],
 ⟨none,82,(.store 8),[.t 13,.t 54],none⟩,
 oT 14 83 .move [55]])
 (.seq (.region [oT 56 84 (.load true 3) [5],
 oT 57 85 (.load true 3) [6],
 oT 58 86 (.call false 99) [56,57],
 oT 59 90 (.load true 3) [5],
 oT 60 91 (.load true 3) [6],
 oT 61 92 (.call false 123) [59,60],
 oT 62 96 (.bin .eql) [58,61],
 oT 63 97 .move [62],
 oG 64 98 (.load true 8) [7] 63 true,
 oG 65 99 (.call false 103) [64] 63 true,
 oG 66 103 (.call false 108) [65] 63 true,
 oG 67 107 (.load true 8) [7] 63 true,
 oG 68 108 (.call false 122) [67] 63 true,
 oG 69 112 (.binB false) [66,68] 63 true,
 ⟨(some 70),113,.pick,[.t 63,.t 69,.c (.bool false)],none⟩,
 oT 71 114 .move [70],
 oG 72 115 .move [12] 71 true,
 oG 73 116 .move [14] 71 true,
 oG 74 117 (.bin .eql) [72,73] 71 true,
 ⟨(some 75),118,.pick,[.t 71,.t 74,.c (.bool false)],none⟩,
 oT 76 119 .move [75],
 oG 77 120 (.fieldAddr 0) [11] 76 true,
 oG 78 121 (.load false 1) [77] 76 true,
 oG 79 122 (.fieldAddr 0) [13] 76 true,
 oG 80 123 (.load false 1) [79] 76 true,
 oG 81 124 (.bin .eql) [78,80] 76 true,
 ⟨(some 82),125,.pick,[.t 76,.t 81,.c (.bool false)],none⟩,
 oT 83 126 .move [82],
 oG 84 127 (.fieldAddr 1) [11] 83 true,
 oG 85 128 (.load true 3) [84] 83 true,
 oG 86 129 (.fieldAddr 1) [13] 83 true,
 oG 87 130 (.load true 3) [86] 83 true,
 oG 88 131 (.eqAgg false [0,0,0]) [85,87] 83 true,
 ⟨(some 89),132,.pick,[.t 83,.t 88,.c (.bool false)],none⟩,
 oT 90 133 .move [89],
 oG 91 134 (.fieldAddr 4) [11] 90 true,
 oG 92 135 (.load true 3) [91] 90 true,
 oG 93 136 (.fieldAddr 4) [13] 90 true,
 oG 94 137 (.load true 3) [93] 90 true,
 oG 95 138 (.eqAgg false [0,0,0]) [92,94] 90 true,
 ⟨(some 96),139,.pick,[.t 90,.t 95,.c (.bool false)],none⟩,
 oT 97 140 .move [96],
 oG 98 141 (.fieldAddr 7) [11] 97 true,
 oG 99 142 (.load false 1) [98] 97 true,
 oG 100 143 (.fieldAddr 7) [13] 97 true,
 oG 101 144 (.load false 1) [100] 97 true,
 oG 102 145 (.call false 105) [99,101] 97 true,
 ⟨(some 103),149,.pick,[.t 97,.t 102,.c (.bool false)],none⟩,
 oT 10 150 .move [103]])
 (.ret))))))
 [.tmp 10] 0 99
def f331.env : Env := [(98,f98.C),(100,f100.C),(341,f341.C),(342,f342.C),(99,f99.C),(123,f123.C),(103,f103.C),(108,f108.C),(122,f122.C),(105,f105.C)]
def f331.tree (a : T_ar3_i64 × T_ar3_i64 × T_interregnumref24_Order × T_api_State × ByteArray) : Prop := ∃ c1 : Unit,True∧Br (!(lawTrue c1)) (∃ c4 : Unit,True∧((lawTrue c4) = (lawTrue a))∧True) (∃ c7 : List (T_interregnumref24_Order),SlQ 1 c7.length (fun _ => [.str a.2.2.1.1,.int .i64 a.2.2.1.2.1.1,.int .i64 a.2.2.1.2.1.2.1,.int .i64 a.2.2.1.2.1.2.2,.int .i64 a.2.2.1.2.2.1.1,.int .i64 a.2.2.1.2.2.1.2.1,.int .i64 a.2.2.1.2.2.1.2.2,.slice .ro 6 a.2.2.1.2.2.2.length (gl e_interregnumref24_Item a.2.2.1.2.2.2)]) (gl e_interregnumref24_Order c7) ((few24_pre c7)∧Br (!(few24 c7)) (∃ c10 : Unit,True∧((lawTrue c10) = (lawTrue a))∧True) (Br (decide ((100 : Int) < (a.2.2.2.1.2.2.2.2.length : Int))) (∃ c15 : Unit,True∧((lawTrue c15) = (lawTrue a))∧True) (Br (decide ((40 : Int) < (a.2.2.2.1.2.2.1.length : Int))) (∃ c20 : Unit,True∧((lawTrue c20) = (lawTrue a))∧True) (Br (decide ((40 : Int) < (a.2.2.2.1.2.2.2.1.length : Int))) (∃ c25 : Unit,True∧((lawTrue c25) = (lawTrue a))∧True) (∃ c28 : T_api_State × ByteArray × T_ar3_i64,(a.2.2.2.1.1 = c28.1.1)∧(a.2.2.2.1.2.1 = c28.1.2.1)∧SlQ a.2.2.2.1.2.2.1.length c28.1.2.2.1.length (gl e_api_Machine a.2.2.2.1.2.2.1) (gl e_api_Machine c28.1.2.2.1) (SlQ a.2.2.2.1.2.2.2.1.length c28.1.2.2.2.1.length (gl e_api_Queue a.2.2.2.1.2.2.2.1) (gl e_api_Queue c28.1.2.2.2.1) (SlQ a.2.2.2.1.2.2.2.2.length c28.1.2.2.2.2.length (gl e_api_Job a.2.2.2.1.2.2.2.2) (gl e_api_Job c28.1.2.2.2.2) ((a.2.2.2.2 = c28.2.1)∧(a.1.1 = c28.2.2.1)∧(a.1.2.1 = c28.2.2.2.1)∧(a.1.2.2 = c28.2.2.2.2)∧(of_pre c28)∧∃ c29 : T_api_State × ByteArray × (Int × Int × Int),(a.2.2.2.1.1 = c29.1.1)∧(a.2.2.2.1.2.1 = c29.1.2.1)∧SlQ a.2.2.2.1.2.2.1.length c29.1.2.2.1.length (gl e_api_Machine a.2.2.2.1.2.2.1) (gl e_api_Machine c29.1.2.2.1) (SlQ a.2.2.2.1.2.2.2.1.length c29.1.2.2.2.1.length (gl e_api_Queue a.2.2.2.1.2.2.2.1) (gl e_api_Queue c29.1.2.2.2.1) (SlQ a.2.2.2.1.2.2.2.2.length c29.1.2.2.2.2.length (gl e_api_Job a.2.2.2.1.2.2.2.2) (gl e_api_Job c29.1.2.2.2.2) ((a.2.2.2.2 = c29.2.1)∧(a.1.1 = c29.2.2.1)∧(a.1.2.1 = c29.2.2.2.1)∧(a.1.2.2 = c29.2.2.2.2)∧(of_pre c29)∧∃ c30 : T_ar3_i64 × T_ar3_i64,(a.1.1 = c30.1.1)∧(a.1.2.1 = c30.1.2.1)∧(a.1.2.2 = c30.1.2.2)∧(a.2.1.1 = c30.2.1)∧(a.2.1.2.1 = c30.2.2.1)∧(a.2.1.2.2 = c30.2.2.2)∧True∧∃ c31 : (Int × Int × Int) × (Int × Int × Int),(a.1.1 = c31.1.1)∧(a.1.2.1 = c31.1.2.1)∧(a.1.2.2 = c31.1.2.2)∧(a.2.1.1 = c31.2.1)∧(a.2.1.2.1 = c31.2.2.1)∧(a.2.1.2.2 = c31.2.2.2)∧True∧Br ((cmpS c30) == (cmpS c31)) (∃ c34 : T_interregnumref24_Order,(a.2.2.1.1 = c34.1)∧(a.2.2.1.2.1.1 = c34.2.1.1)∧(a.2.2.1.2.1.2.1 = c34.2.1.2.1)∧(a.2.2.1.2.1.2.2 = c34.2.1.2.2)∧(a.2.2.1.2.2.1.1 = c34.2.2.1.1)∧(a.2.2.1.2.2.1.2.1 = c34.2.2.1.2.1)∧(a.2.2.1.2.2.1.2.2 = c34.2.2.1.2.2)∧SlQ a.2.2.1.2.2.2.length c34.2.2.2.length (gl e_interregnumref24_Item a.2.2.1.2.2.2) (gl e_interregnumref24_Item c34.2.2.2) ((ord_pre c34)∧∃ c35 : T_agent_Order,(((madeA c34).1) = c35.1)∧((((madeA c34).2.1).1) = c35.2.1.1)∧((((madeA c34).2.1).2.1) = c35.2.1.2.1)∧((((madeA c34).2.1).2.2) = c35.2.1.2.2)∧((((madeA c34).2.2.1).1) = c35.2.2.1.1)∧((((madeA c34).2.2.1).2.1) = c35.2.2.1.2.1)∧((((madeA c34).2.2.1).2.2) = c35.2.2.1.2.2)∧SlQ (((madeA c34).2.2.2).length) c35.2.2.2.length (gl e_agent_Item ((madeA c34).2.2.2)) (gl e_agent_Item c35.2.2.2) ((ord_pre c35)∧∃ c36 : T_interregnumref24_Order,(a.2.2.1.1 = c36.1)∧(a.2.2.1.2.1.1 = c36.2.1.1)∧(a.2.2.1.2.1.2.1 = c36.2.1.2.1)∧(a.2.2.1.2.1.2.2 = c36.2.1.2.2)∧(a.2.2.1.2.2.1.1 = c36.2.2.1.1)∧(a.2.2.1.2.2.1.2.1 = c36.2.2.1.2.1)∧(a.2.2.1.2.2.1.2.2 = c36.2.2.1.2.2)∧SlQ a.2.2.1.2.2.2.length c36.2.2.2.length (gl e_interregnumref24_Item a.2.2.1.2.2.2) (gl e_interregnumref24_Item c36.2.2.2) ((ord_pre c36)∧Br ((ordB c35) == (ordB c36)) (Br (((ofA c28).2) == ((ofA c29).2)) (Br ((((ofA c28).1).1).toList == (((ofA c29).1).1).toList) (Br ((((((ofA c28).1).2.1).1) == ((((ofA c29).1).2.1).1)) && ((((((ofA c28).1).2.1).2.1) == ((((ofA c29).1).2.1).2.1)) && (((((ofA c28).1).2.1).2.2) == ((((ofA c29).1).2.1).2.2)))) (Br ((((((ofA c28).1).2.2.1).1) == ((((ofA c29).1).2.2.1).1)) && ((((((ofA c28).1).2.2.1).2.1) == ((((ofA c29).1).2.2.1).2.1)) && (((((ofA c28).1).2.2.1).2.2) == ((((ofA c29).1).2.2.1).2.2)))) (∃ c47 : (List (T_agent_Item)) × (List (T_interregnumref24_Item)),SlQ ((((ofA c28).1).2.2.2).length) c47.1.length (gl e_agent_Item (((ofA c28).1).2.2.2)) (gl e_agent_Item c47.1) (SlQ ((((ofA c29).1).2.2.2).length) c47.2.length (gl e_interregnumref24_Item (((ofA c29).1).2.2.2)) (gl e_interregnumref24_Item c47.2) ((sameI_pre c47)∧((sameI c47) = (lawTrue a))∧True))) ((false = (lawTrue a))∧True)) ((false = (lawTrue a))∧True)) ((false = (lawTrue a))∧True)) ((false = (lawTrue a))∧True)) ((false = (lawTrue a))∧True))))) ((false = (lawTrue a))∧True)))))))))))))
def f331.vc (a : T_ar3_i64 × T_ar3_i64 × T_interregnumref24_Order × T_api_State × ByteArray) : Prop := ((¬ ((lawTrue ()) = true)→((lawTrue ()) = lawTrue a))∧(¬ (¬ ((lawTrue ()) = true))→(few24_pre ([a.2.2.1])∧((¬ ((few24 ([a.2.2.1])) = true)→((lawTrue ()) = lawTrue a))∧(¬ (¬ ((few24 ([a.2.2.1])) = true))→(((100 : Int) < (a.2.2.2.1.2.2.2.2.length : Int)→((lawTrue ()) = lawTrue a))∧(¬ ((100 : Int) < (a.2.2.2.1.2.2.2.2.length : Int))→(((40 : Int) < (a.2.2.2.1.2.2.1.length : Int)→((lawTrue ()) = lawTrue a))∧(¬ ((40 : Int) < (a.2.2.2.1.2.2.1.length : Int))→(((40 : Int) < (a.2.2.2.1.2.2.2.1.length : Int)→((lawTrue ()) = lawTrue a))∧(¬ ((40 : Int) < (a.2.2.2.1.2.2.2.1.length : Int))→(of_pre (a.2.2.2.1,a.2.2.2.2,a.1)∧(of_pre (a.2.2.2.1,a.2.2.2.2,a.1)∧(((cmpS (a.1,a.2.1)) = (cmpS (a.1,a.2.1))→(ord_pre a.2.2.1∧(ord_pre (madeA (a.2.2.1))∧(ord_pre a.2.2.1∧((((ordB (madeA (a.2.2.1))) == (ordB (a.2.2.1))) = true→((((ofA (a.2.2.2.1,a.2.2.2.2,a.1)).2) = ((ofA (a.2.2.2.1,a.2.2.2.2,a.1)).2)→(((((ofA (a.2.2.2.1,a.2.2.2.2,a.1)).1).1) = (((ofA (a.2.2.2.1,a.2.2.2.2,a.1)).1).1)→((((((ofA (a.2.2.2.1,a.2.2.2.2,a.1)).1).2.1).1) = ((((ofA (a.2.2.2.1,a.2.2.2.2,a.1)).1).2.1).1)∧((((ofA (a.2.2.2.1,a.2.2.2.2,a.1)).1).2.1).2.1) = ((((ofA (a.2.2.2.1,a.2.2.2.2,a.1)).1).2.1).2.1)∧((((ofA (a.2.2.2.1,a.2.2.2.2,a.1)).1).2.1).2.2) = ((((ofA (a.2.2.2.1,a.2.2.2.2,a.1)).1).2.1).2.2)→((((((ofA (a.2.2.2.1,a.2.2.2.2,a.1)).1).2.2.1).1) = ((((ofA (a.2.2.2.1,a.2.2.2.2,a.1)).1).2.2.1).1)∧((((ofA (a.2.2.2.1,a.2.2.2.2,a.1)).1).2.2.1).2.1) = ((((ofA (a.2.2.2.1,a.2.2.2.2,a.1)).1).2.2.1).2.1)∧((((ofA (a.2.2.2.1,a.2.2.2.2,a.1)).1).2.2.1).2.2) = ((((ofA (a.2.2.2.1,a.2.2.2.2,a.1)).1).2.2.1).2.2)→(sameI_pre (((ofA (a.2.2.2.1,a.2.2.2.2,a.1)).1).2.2.2,((ofA (a.2.2.2.1,a.2.2.2.2,a.1)).1).2.2.2)∧((sameI (((ofA (a.2.2.2.1,a.2.2.2.2,a.1)).1).2.2.2,((ofA (a.2.2.2.1,a.2.2.2.2,a.1)).1).2.2.2)) = lawTrue a)))∧(¬ (((((ofA (a.2.2.2.1,a.2.2.2.2,a.1)).1).2.2.1).1) = ((((ofA (a.2.2.2.1,a.2.2.2.2,a.1)).1).2.2.1).1)∧((((ofA (a.2.2.2.1,a.2.2.2.2,a.1)).1).2.2.1).2.1) = ((((ofA (a.2.2.2.1,a.2.2.2.2,a.1)).1).2.2.1).2.1)∧((((ofA (a.2.2.2.1,a.2.2.2.2,a.1)).1).2.2.1).2.2) = ((((ofA (a.2.2.2.1,a.2.2.2.2,a.1)).1).2.2.1).2.2))→(false = lawTrue a))))∧(¬ (((((ofA (a.2.2.2.1,a.2.2.2.2,a.1)).1).2.1).1) = ((((ofA (a.2.2.2.1,a.2.2.2.2,a.1)).1).2.1).1)∧((((ofA (a.2.2.2.1,a.2.2.2.2,a.1)).1).2.1).2.1) = ((((ofA (a.2.2.2.1,a.2.2.2.2,a.1)).1).2.1).2.1)∧((((ofA (a.2.2.2.1,a.2.2.2.2,a.1)).1).2.1).2.2) = ((((ofA (a.2.2.2.1,a.2.2.2.2,a.1)).1).2.1).2.2))→(false = lawTrue a))))∧(¬ ((((ofA (a.2.2.2.1,a.2.2.2.2,a.1)).1).1) = (((ofA (a.2.2.2.1,a.2.2.2.2,a.1)).1).1))→(false = lawTrue a))))∧(¬ (((ofA (a.2.2.2.1,a.2.2.2.2,a.1)).2) = ((ofA (a.2.2.2.1,a.2.2.2.2,a.1)).2))→(false = lawTrue a))))∧(¬ (((ordB (madeA (a.2.2.1))) == (ordB (a.2.2.1))) = true)→(false = lawTrue a)))))))∧(¬ ((cmpS (a.1,a.2.1)) = (cmpS (a.1,a.2.1)))→(false = lawTrue a))))))))))))))))
set_option maxRecDepth 100000 in
set_option maxHeartbeats 2000000 in
theorem f331.of (a : T_ar3_i64 × T_ar3_i64 × T_interregnumref24_Order × T_api_State × ByteArray) (h : f331.vc a) : f331.tree a := ⟨(),⟨trivial,br h (Cnd.not Cnd.b) (fun h2 k84 => ⟨(),⟨trivial,⟨k84,trivial⟩⟩⟩) (fun h3 k85 => ⟨[a.2.2.1],slQ (Rds.one (enc := e_interregnumref24_Order) (DEqs.refl _)) (⟨k85.1,br k85.2 (Cnd.not Cnd.b) (fun h8 k81 => ⟨(),⟨trivial,⟨k81,trivial⟩⟩⟩) (fun h9 k82 => br k82 Cnd.dec (fun h13 k79 => ⟨(),⟨trivial,⟨k79,trivial⟩⟩⟩) (fun h14 k80 => br k80 Cnd.dec (fun h18 k77 => ⟨(),⟨trivial,⟨k77,trivial⟩⟩⟩) (fun h19 k78 => br k78 Cnd.dec (fun h23 k75 => ⟨(),⟨trivial,⟨k75,trivial⟩⟩⟩) (fun h24 k76 => ⟨(a.2.2.2.1,a.2.2.2.2,a.1),⟨rfl,⟨rfl,slQ (Rds.self (enc := e_api_Machine)) (slQ (Rds.self (enc := e_api_Queue)) (slQ (Rds.self (enc := e_api_Job)) (⟨rfl,⟨rfl,⟨rfl,⟨rfl,⟨k76.1,⟨(a.2.2.2.1,a.2.2.2.2,a.1),⟨rfl,⟨rfl,slQ (Rds.self (enc := e_api_Machine)) (slQ (Rds.self (enc := e_api_Queue)) (slQ (Rds.self (enc := e_api_Job)) (⟨rfl,⟨rfl,⟨rfl,⟨rfl,⟨k76.2.1,⟨(a.1,a.2.1),⟨rfl,⟨rfl,⟨rfl,⟨rfl,⟨rfl,⟨rfl,⟨trivial,⟨(a.1,a.2.1),⟨rfl,⟨rfl,⟨rfl,⟨rfl,⟨rfl,⟨rfl,⟨trivial,br k76.2.2 Cnd.eq (fun h32 k69 => ⟨a.2.2.1,⟨rfl,⟨rfl,⟨rfl,⟨rfl,⟨rfl,⟨rfl,⟨rfl,slQ (Rds.self (enc := e_interregnumref24_Item)) (⟨k69.1,⟨(madeA (a.2.2.1)),⟨rfl,⟨rfl,⟨rfl,⟨rfl,⟨rfl,⟨rfl,⟨rfl,slQ (Rds.self (enc := e_agent_Item)) (⟨k69.2.1,⟨a.2.2.1,⟨rfl,⟨rfl,⟨rfl,⟨rfl,⟨rfl,⟨rfl,⟨rfl,slQ (Rds.self (enc := e_interregnumref24_Item)) (⟨k69.2.2.1,br k69.2.2.2 Cnd.b (fun h37 k63 => br k63 Cnd.eq (fun h39 k60 => br k60 Cnd.seq (fun h41 k57 => br k57 (Cnd.and Cnd.eq (Cnd.and Cnd.eq Cnd.eq)) (fun h43 k54 => br k54 (Cnd.and Cnd.eq (Cnd.and Cnd.eq Cnd.eq)) (fun h45 k51 => ⟨(((ofA (a.2.2.2.1,a.2.2.2.2,a.1)).1).2.2.2,((ofA (a.2.2.2.1,a.2.2.2.2,a.1)).1).2.2.2),slQ (Rds.self (enc := e_agent_Item)) (slQ (Rds.self (enc := e_interregnumref24_Item)) (⟨k51.1,⟨k51.2,trivial⟩⟩))⟩) (fun h46 k52 => ⟨k52,trivial⟩)) (fun h44 k55 => ⟨k55,trivial⟩)) (fun h42 k58 => ⟨k58,trivial⟩)) (fun h40 k61 => ⟨k61,trivial⟩)) (fun h38 k64 => ⟨k64,trivial⟩)⟩)⟩⟩⟩⟩⟩⟩⟩⟩⟩)⟩⟩⟩⟩⟩⟩⟩⟩⟩)⟩⟩⟩⟩⟩⟩⟩⟩) (fun h33 k70 => ⟨k70,trivial⟩)⟩⟩⟩⟩⟩⟩⟩⟩⟩⟩⟩⟩⟩⟩⟩⟩⟩⟩⟩⟩⟩)))⟩⟩⟩⟩⟩⟩⟩⟩)))⟩⟩⟩))))⟩)⟩)⟩⟩
theorem f331.eq (a : T_ar3_i64 × T_ar3_i64 × T_interregnumref24_Order × T_api_State × ByteArray) : (f331.af a).gives f331.env (f331.args a) (f331.blks a) (f331.res a) (f331.blks' a) = f331.tree a := by kernel_rfl
end Go.Abs

-- interregnum/interregnumlaw24.AgentFits
namespace Go.Abs
open Go
end Go.Abs

/- interregnum/interregnumlaw24.AgentFits -/
namespace Go.Abs
open Go
set_option linter.unusedVariables false
end Go.Abs

/- The laws of layer 24 that reach states. -/
namespace Go.Abs
open Go

theorem job_of_size {j : TJob} (h : k_api_Job.size j ≤ 1048576) : job_pre j := by
  have h1 : k_api_Task.size j.1 + (1 + (j.2.2.1.size + 1 + 1)) + 1 ≤ 1048576 := h
  exact ⟨task_of_size (by omega),wants_of_size (t := j.1) (by omega),by unfold name_pre; omega⟩
theorem state_of_size {s : TState} (h : k_api_State.size s ≤ 1048576) : state_pre s := by
  have h : 1 + (1 + ((s.2.2.1.map k_api_Machine.size).sum + 1 + ((s.2.2.2.1.map k_api_Queue.size).sum + 1 + ((s.2.2.2.2.map k_api_Job.size).sum + 1)))) + 1 ≤ 1048576 := h
  have h1 := sum_len k_api_Machine.size (fun x => Nat.le_add_left 1 _) s.2.2.1
  have h2 := sum_len k_api_Queue.size (fun x => Nat.le_add_left 1 _) s.2.2.2.1
  have h3 := sum_len k_api_Job.size (fun x => Nat.le_add_left 1 _) s.2.2.2.2
  refine ⟨⟨by unfold L20; omega,fun m hm => ?_⟩,⟨by unfold L20; omega,fun q hq => ?_⟩,by unfold L20; omega,fun j hj => ?_⟩
  · have : k_api_Machine.size m ≤ (s.2.2.1.map k_api_Machine.size).sum := sum_mem _ hm
    exact mach_of_size (by omega)
  · have : k_api_Queue.size q ≤ (s.2.2.2.1.map k_api_Queue.size).sum := sum_mem _ hq
    exact queue_of_size (by omega)
  · have : k_api_Job.size j ≤ (s.2.2.2.2.map k_api_Job.size).sum := sum_mem _ hj
    exact job_of_size (by omega)

theorem of_items_len {s : TState} {n : ByteArray} {st : TRes} (h : state_pre s) : L20 (ofA (s,n,st)).1.2.2.2 := by
  have hl : s.2.2.2.2.length ≤ 1048576 := h.2.2.1
  by_cases h1 : stateB s = true
  · by_cases h2 : machR (s,n) < 0
    · rw [of_none h1 h2]; exact Nat.zero_le _
    · rw [of_val h1 h2]
      have := ofItems_len (l := s.2.2.2.2) (n := n) s.2.2.2.2.length
      rw [List.take_length] at this
      show (ofItems s.2.2.2.2 n).length ≤ 1048576
      omega
  · rw [of_bad h1]; exact Nat.zero_le _

theorem f331.ok (a : TRes × TRes × TOrd × TState × ByteArray) (h : f331.lpre a) : f331.vc a := by
  obtain ⟨_,hs⟩ := h
  obtain ⟨x,y,o,s,n⟩ := a
  have hs : k_ar3_i64.size x + (k_ar3_i64.size y + (k_interregnumref24_Order.size o + (k_api_State.size s + (n.size + 1)))) ≤ 1048576 := hs
  have ho := ord_of_size (o := o) (by omega)
  have hst := state_of_size (s := s) (by omega)
  have hi := of_items_len (n := n) (st := x) hst
  unfold f331.vc
  simp only [lawTrue,madeA]
  generalize ofA (s,n,x) = T at *
  refine ⟨fun _ => trivial,fun _ => ⟨⟨by simp [L20],fun o' ho' => by rw [List.mem_singleton] at ho'; rw [ho']; exact ho⟩,fun _ => trivial,fun _ => ⟨fun _ => trivial,fun _ => ⟨fun _ => trivial,fun _ => ⟨fun _ => trivial,fun _ => ⟨hst,hst,fun _ => ⟨ho,ho,ho,fun _ => ?_,fun c => absurd (by simp) c⟩,fun c => absurd trivial c⟩⟩⟩⟩⟩⟩
  refine ⟨fun _ => ⟨fun _ => ⟨fun _ => ⟨fun _ => ⟨⟨hi,hi⟩,by simp [sameI]⟩,fun c => absurd ⟨trivial,trivial,trivial⟩ c⟩,fun c => absurd ⟨trivial,trivial,trivial⟩ c⟩,fun c => absurd trivial c⟩,fun c => absurd trivial c⟩

end Go.Abs
