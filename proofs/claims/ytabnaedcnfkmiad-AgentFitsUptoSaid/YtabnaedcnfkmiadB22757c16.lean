/- Functions, and what the code asks of them: PAgentLaw2. -/
import Derived.KernelRfl
import Derived.Test.YtabnaedcnfkmiadB4c9c6f61
import Derived.Test.YtabnaedcnfkmiadB75c84e37
import Derived.Test.YtabnaedcnfkmiadB0354929c
import Derived.Test.YtabnaedcnfkmiadBfd83db68
import Derived.Test.YtabnaedcnfkmiadBd51596f7
import Derived.Test.YtabnaedcnfkmiadBe6284447
import Derived.Test.YtabnaedcnfkmiadB8bdfae8a
import Derived.Test.YtabnaedcnfkmiadB24cb6fd3
import Derived.Test.YtabnaedcnfkmiadB076b0d39
import Derived.Test.YtabnaedcnfkmiadBcb3b2eb4
import Derived.Test.YtabnaedcnfkmiadB282b9394
import Derived.Test.YtabnaedcnfkmiadB37f1f570
set_option linter.unusedVariables false
set_option linter.unusedSimpArgs false
-- interregnum/interregnumlaw24.AgentOrders
namespace Go.Abs
open Go
end Go.Abs

/- interregnum/interregnumlaw24.AgentOrders -/
namespace Go.Abs
open Go
set_option linter.unusedVariables false
end Go.Abs

-- interregnum/interregnumlaw24.AgentFits
namespace Go.Abs
open Go
def f332.wf (a : T_api_State × T_ar3_i64 × (List (T_interregnumref24_Order))) : Prop := k_api_State.ok a.1∧k_ar3_i64.ok a.2.1∧k_sl_interregnumref24_Order.ok a.2.2
def f332.size (a : T_api_State × T_ar3_i64 × (List (T_interregnumref24_Order))) : Nat := k_api_State.size a.1 + (k_ar3_i64.size a.2.1 + (k_sl_interregnumref24_Order.size a.2.2))
def f332.lpre (a : T_api_State × T_ar3_i64 × (List (T_interregnumref24_Order))) : Prop := f332.wf a∧f332.size a≤1048576
def f332.args (a : T_api_State × T_ar3_i64 × (List (T_interregnumref24_Order))) : List D := [.agg [.int .i64 a.1.1,.int .i64 a.1.2.1,.slice .ro 7 a.1.2.2.1.length (gl e_api_Machine a.1.2.2.1),.slice .ro 4 a.1.2.2.2.1.length (gl e_api_Queue a.1.2.2.2.1),.slice .ro 13 a.1.2.2.2.2.length (gl e_api_Job a.1.2.2.2.2)],.agg [.int .i64 a.2.1.1,.int .i64 a.2.1.2.1,.int .i64 a.2.1.2.2],.slice .ro 8 a.2.2.length (gl e_interregnumref24_Order a.2.2)]
def f332.blks (a : T_api_State × T_ar3_i64 × (List (T_interregnumref24_Order))) : List (List D) := []
def f332.res (a : T_api_State × T_ar3_i64 × (List (T_interregnumref24_Order))) : List D := [.bool (lawTrue a)]
def f332.blks' (a : T_api_State × T_ar3_i64 × (List (T_interregnumref24_Order))) : List (List D) := []
def f332.C : Contract := FnC f332.args f332.blks (fun a => f332.lpre a) f332.res f332.blks'
end Go.Abs

/- interregnum/interregnumlaw24.AgentFits -/
namespace Go.Abs
open Go
set_option linter.unusedVariables false
def f332.s0 : ByteArray := ⟨#[110,48]⟩
def f332.S0 (a : T_api_State × T_ar3_i64 × (List (T_interregnumref24_Order))) (x : Int) : Tm := ⟨[.dead,.dead,.slice .ro 8 a.2.2.length (gl e_interregnumref24_Order a.2.2),.ptr 0 0,.ptr 1 0,.dead,.dead,.dead,.dead,.dead,.dead,.dead,.dead,.dead,.dead,.dead,.dead,.dead,.dead,.dead,.dead,.dead,.dead,.dead,.dead,.dead,.dead,.dead,.dead,.dead,.dead,.dead,.dead,.dead,.dead,.dead,.dead,.dead,.dead,.dead,.dead,.dead,.dead,.dead,.dead,.dead,.dead,.dead,.dead,.int .i64 (a.1.2.2.1.length : Int),.int .i64 x,.dead,.dead,.dead,.dead,.dead,.dead,.dead,.dead,.dead,.dead,.dead,.dead,.dead,.dead,.dead,.dead,.dead,.dead,.dead,.dead,.dead,.dead,.dead,.dead,.dead,.dead,.dead,.dead,.dead,.dead,.dead,.dead,.dead,.dead,.dead,.dead,.dead,.dead,.dead,.dead,.dead,.dead,.dead,.dead,.dead,.dead,.dead,.dead,.dead,.dead,.dead,.dead,.dead,.dead,.dead,.dead,.dead,.dead,.dead,.dead,.dead,.dead,.dead,.dead,.dead,.dead,.dead,.dead,.dead,.dead,.dead,.dead,.dead,.dead,.dead,.dead,.dead,.dead,.dead,.dead,.dead,.dead,.dead,.dead,.dead,.dead,.dead,.dead,.dead,.dead,.dead,.dead,.dead],[(0,false,[.int .i64 a.1.1,.int .i64 a.1.2.1,.slice .ro 7 a.1.2.2.1.length (gl e_api_Machine a.1.2.2.1),.slice .ro 4 a.1.2.2.2.1.length (gl e_api_Queue a.1.2.2.2.1),.slice .ro 13 a.1.2.2.2.2.length (gl e_api_Job a.1.2.2.2.2)]),(1,false,[.int .i64 a.2.1.1,.int .i64 a.2.1.2.1,.int .i64 a.2.1.2.2])],[]⟩
def f332.S1 (a : T_api_State × T_ar3_i64 × (List (T_interregnumref24_Order))) (x : Int × ByteArray × Int × Int × Int × (List (T_agent_Item)) × Int × Int × Int) : Tm := ⟨[.dead,.dead,.slice .ro 8 a.2.2.length (gl e_interregnumref24_Order a.2.2),.dead,.dead,.dead,.dead,.dead,.dead,.dead,.ptr 93 0,.ptr 98 0,.dead,.dead,.dead,.dead,.dead,.dead,.dead,.dead,.dead,.dead,.dead,.dead,.dead,.dead,.dead,.dead,.dead,.dead,.dead,.dead,.dead,.dead,.dead,.dead,.dead,.dead,.dead,.dead,.dead,.dead,.dead,.dead,.dead,.dead,.dead,.dead,.dead,.dead,.dead,.dead,.dead,.dead,.dead,.dead,.dead,.dead,.dead,.dead,.dead,.dead,.dead,.dead,.dead,.dead,.dead,.dead,.dead,.dead,.dead,.dead,.dead,.dead,.dead,.dead,.dead,.dead,.dead,.dead,.dead,.dead,.int .i64 (a.2.2.length : Int),.int .i64 x.1,.dead,.dead,.dead,.dead,.dead,.dead,.dead,.dead,.dead,.dead,.dead,.dead,.dead,.dead,.dead,.dead,.dead,.dead,.dead,.dead,.dead,.dead,.dead,.dead,.dead,.dead,.dead,.dead,.dead,.dead,.dead,.dead,.dead,.dead,.dead,.dead,.dead,.dead,.dead,.dead,.dead,.dead,.dead,.dead,.dead,.dead,.dead,.dead,.dead,.dead,.dead,.dead,.dead,.dead,.dead,.dead,.dead,.dead,.dead,.dead],[(93,false,[.str x.2.1,.int .i64 x.2.2.1,.int .i64 x.2.2.2.1,.int .i64 x.2.2.2.2.1,.slice .ro 6 x.2.2.2.2.2.1.length (gl e_agent_Item x.2.2.2.2.2.1)]),(98,false,[.int .i64 x.2.2.2.2.2.2.1,.int .i64 x.2.2.2.2.2.2.2.1,.int .i64 x.2.2.2.2.2.2.2.2])],[]⟩
def f332.S2 (a : T_api_State × T_ar3_i64 × (List (T_interregnumref24_Order))) (x : (List (T_ar3_i64)) × (List (T_agent_Item)) × Int × Int × Int × ByteArray × Int × Int × Int × (List (T_agent_Item)) × Int × Int × Int × Int × Int × Int) : Tm := ⟨[.dead,.dead,.slice .ro 8 a.2.2.length (gl e_interregnumref24_Order a.2.2),.dead,.dead,.dead,.dead,.dead,.dead,.dead,.ptr 93 0,.ptr 98 0,.dead,.ptr 114 0,.dead,.dead,.slice (.own 150) 3 x.1.length (gl e_ar3_i64 x.1),.slice .ro 6 x.2.1.length (gl e_agent_Item x.2.1),.dead,.dead,.dead,.dead,.dead,.dead,.dead,.dead,.dead,.dead,.dead,.dead,.dead,.dead,.dead,.dead,.dead,.dead,.dead,.dead,.dead,.dead,.dead,.dead,.dead,.dead,.dead,.dead,.dead,.dead,.dead,.dead,.dead,.dead,.dead,.dead,.dead,.dead,.dead,.dead,.dead,.dead,.dead,.dead,.dead,.dead,.dead,.dead,.dead,.dead,.dead,.dead,.dead,.dead,.dead,.dead,.dead,.dead,.dead,.dead,.dead,.dead,.dead,.dead,.int .i64 (a.2.2.length : Int),.int .i64 x.2.2.1,.dead,.dead,.dead,.dead,.dead,.dead,.dead,.dead,.dead,.dead,.dead,.dead,.dead,.dead,.dead,.dead,.dead,.dead,.dead,.dead,.dead,.dead,.dead,.dead,.dead,.int .i64 x.2.2.2.1,.int .i64 x.2.2.2.2.1,.dead,.dead,.dead,.dead,.dead,.dead,.dead,.dead,.dead,.dead,.dead,.dead,.dead,.dead,.dead,.dead,.dead,.dead,.dead,.dead,.dead,.dead,.dead,.dead,.dead,.dead,.dead,.dead,.dead,.dead,.dead,.dead,.dead],[(93,false,[.str x.2.2.2.2.2.1,.int .i64 x.2.2.2.2.2.2.1,.int .i64 x.2.2.2.2.2.2.2.1,.int .i64 x.2.2.2.2.2.2.2.2.1,.slice .ro 6 x.2.2.2.2.2.2.2.2.2.1.length (gl e_agent_Item x.2.2.2.2.2.2.2.2.2.1)]),(98,false,[.int .i64 x.2.2.2.2.2.2.2.2.2.2.1,.int .i64 x.2.2.2.2.2.2.2.2.2.2.2.1,.int .i64 x.2.2.2.2.2.2.2.2.2.2.2.2.1]),(114,false,[.int .i64 x.2.2.2.2.2.2.2.2.2.2.2.2.2.1,.int .i64 x.2.2.2.2.2.2.2.2.2.2.2.2.2.2.1,.int .i64 x.2.2.2.2.2.2.2.2.2.2.2.2.2.2.2])],[(150,3,x.1.length)]⟩
def f332.kills (a : T_api_State × T_ar3_i64 × (List (T_interregnumref24_Order))) : List Hint := [.tell Int (f332.S0 a),
 .tell (Int × ByteArray × Int × Int × Int × (List (T_agent_Item)) × Int × Int × Int) (f332.S1 a),
 .tell ((List (T_ar3_i64)) × (List (T_agent_Item)) × Int × Int × Int × ByteArray × Int × Int × Int × (List (T_agent_Item)) × Int × Int × Int × Int × Int × Int) (f332.S2 a)]
def f332.cuts (a : T_api_State × T_ar3_i64 × (List (T_interregnumref24_Order))) : List (Nat × Σ β : Type,β→Tm) := []
def f332.af (a : T_api_State × T_ar3_i64 × (List (T_interregnumref24_Order))) : AF := AF.mk (.seq (.region [oT 3 0 .box [0],
 oT 4 1 .box [1],
 ⟨(some 6),2,.move,[.c (.bool false)],none⟩])
 (.seq (.seq (.region [oT 21 3 (.call false 98) [],
 oT 22 7 (.un .not) [21],
 oT 23 8 .move [22],
 oG 24 9 .move [2] 23 false,
 oG 25 10 (.call false 100) [24] 23 false,
 oG 26 14 (.un .not) [25] 23 false,
 ⟨(some 27),15,.pick,[.t 23,.c (.bool true),.t 26],none⟩,
 oT 28 16 .move [27],
 oG 29 17 (.fieldAddr 4) [3] 28 false,
 oG 30 18 (.load false 1) [29] 28 false,
 oG 31 19 (.len false) [30] 28 false,
 ⟨(some 32),20,(.bin .gtr),[.t 31,.c (.int .i64 (100))],(some (28,false))⟩,
 ⟨(some 33),21,.pick,[.t 28,.c (.bool true),.t 32],none⟩,
 oT 34 22 .move [33],
 oG 35 23 (.fieldAddr 2) [3] 34 false,
 oG 36 24 (.load false 1) [35] 34 false,
 oG 37 25 (.len false) [36] 34 false,
 ⟨(some 38),26,(.bin .gtr),[.t 37,.c (.int .i64 (40))],(some (34,false))⟩,
 ⟨(some 39),27,.pick,[.t 34,.c (.bool true),.t 38],none⟩,
 oT 40 28 .move [39],
 oG 41 29 (.fieldAddr 3) [3] 40 false,
 oG 42 30 (.load false 1) [41] 40 false,
 oG 43 31 (.len false) [42] 40 false,
 ⟨(some 44),32,(.bin .gtr),[.t 43,.c (.int .i64 (40))],(some (40,false))⟩,
 ⟨(some 45),33,.pick,[.t 40,.c (.bool true),.t 44],none⟩])
 (.cond (.t 45) (.seq (.region [oT 46 34 (.call false 98) [],
 oT 6 38 .move [46]])
 (.ret)) (.skip)))
 (.seq (.seq (.region [oT 47 39 (.fieldAddr 2) [3],
 oT 48 40 (.load false 1) [47],
 oT 49 41 (.len false) [48],
 ⟨(some 50),42,.move,[.c (.int .i64 (0))],none⟩])
 (.block 0 (.loopT Int (f332.S0 a) 43 93 (.seq (.region [oT 51 43 (.bin .lss) [50,49]])
 (.seq (.cond (.t 51) (.skip) (.exit 0))
 (.seq (.block 1 (.seq (.region [oT 52 44 .move [50],
 oT 7 45 .move [52]])
 (.seq (.region [oT 54 46 (.load true 5) [3],
 oT 55 47 (.fieldAddr 2) [3],
 oT 56 48 (.load false 1) [55],
 oT 57 49 .move [7],
 oT 58 50 (.indexAddr 7 none) [56,57],
 oT 59 51 (.fieldAddr 0) [58],
 oT 60 52 (.fieldAddr 0) [59],
 oT 61 53 (.load false 1) [60],
 oT 62 54 (.load true 3) [4],
 oT 63 55 (.call false 341) [54,61,62],
 oT 53 59 .move [63],
 oT 64 60 (.extract 0) [53],
 oT 65 61 (.extract 1) [53],
 oT 8 62 (.alloc [.str ByteArray.empty,.int .i64 (0),.int .i64 (0),.int .i64 (0),.int .i64 (0),.int .i64 (0),.int .i64 (0),.slice (.own 0) 6 0 gnil]) [],
 ⟨none,71,(.store 8),[.t 8,.t 64],none⟩,
 oT 9 72 .move [65]])
 (.seq (.seq (.region [oT 66 73 .move [9],
 ⟨(some 67),74,(.bin .eql),[.t 66,.c (.int .i64 (0))],none⟩,
 oT 68 75 .move [67],
 oG 69 76 (.load true 8) [8] 68 true,
 oG 70 77 (.call false 108) [69] 68 true,
 oG 71 81 (.un .not) [70] 68 true,
 ⟨(some 72),82,.pick,[.t 68,.t 71,.c (.bool false)],none⟩])
 (.cond (.t 72) (.seq (.region [⟨(some 6),83,.move,[.c (.bool false)],none⟩])
 (.ret)) (.skip)))
 (.seq (.region [oT 73 84 .move [9],
 ⟨(some 74),85,(.bin .neq),[.t 73,.c (.int .i64 (0))],none⟩,
 oT 75 86 .move [74],
 oG 76 87 .move [9] 75 true,
 ⟨(some 77),88,(.bin .neq),[.t 76,.c (.int .i64 (1))],(some (75,true))⟩,
 ⟨(some 78),89,.pick,[.t 75,.t 77,.c (.bool false)],none⟩])
 (.cond (.t 78) (.seq (.region [⟨(some 6),90,.move,[.c (.bool false)],none⟩])
 (.ret)) (.skip)))))))
 (.region [⟨(some 79),91,(.bin .add),[.t 50,.c (.int .i64 (1))],none⟩,
 oT 50 92 .move [79]])))))))
 (.seq (.region [⟨(some 80),93,(.call false 101),[.c (.str f332.s0)],none⟩,
 oT 10 97 .move [80]])
 (.seq (.region [oT 11 98 (.alloc [.int .i64 (0),.int .i64 (0),.int .i64 (0)]) []])
 (.seq (.seq (.region [oT 81 102 .move [2],
 oT 82 103 (.len false) [81],
 ⟨(some 83),104,.move,[.c (.int .i64 (0))],none⟩])
 (.block 2 (.loopT (Int × ByteArray × Int × Int × Int × (List (T_agent_Item)) × Int × Int × Int) (f332.S1 a) 105 216 (.seq (.region [oT 84 105 (.bin .lss) [83,82]])
 (.seq (.cond (.t 84) (.skip) (.exit 2))
 (.seq (.block 3 (.seq (.region [oT 85 106 .move [83],
 oT 12 107 .move [85]])
 (.seq (.region [oT 86 108 .move [10],
 oT 87 109 (.call true 107) [86],
 oT 88 113 (.field true 1 3) [87],
 oT 13 114 (.alloc [.int .i64 (0),.int .i64 (0),.int .i64 (0)]) [],
 ⟨none,118,(.store 3),[.t 13,.t 88],none⟩])
 (.seq (.region [oT 90 119 .move [10],
 oT 91 120 .move [2],
 oT 92 121 .move [12],
 oT 93 122 (.indexAddr 8 none) [91,92],
 oT 94 123 (.load true 8) [93],
 oT 95 124 (.call false 103) [94],
 oT 96 128 (.call true 102) [90,95],
 oT 89 132 .move [96],
 oT 97 133 (.extract 0) [89],
 oT 98 134 (.extract 1) [89],
 oT 14 135 (.alloc [.str ByteArray.empty,.int .i64 (0),.int .i64 (0),.int .i64 (0)]) [],
 ⟨none,140,(.store 4),[.t 14,.t 97],none⟩,
 oT 15 141 .move [98]])
 (.seq (.seq (.region [oT 99 142 .move [15],
 ⟨(some 100),143,(.bin .eql),[.t 99,.c (.int .i64 (0))],none⟩])
 (.cond (.t 100) (.region [oT 101 144 .move [2],
 oT 102 145 .move [12],
 oT 103 146 (.indexAddr 8 none) [101,102],
 oT 104 147 (.fieldAddr 4) [103],
 oT 105 148 (.load true 3) [104],
 ⟨none,149,(.store 3),[.t 11,.t 105],none⟩]) (.skip)))
 (.seq (.region [oT 16 150 (.nilSl 3) []])
 (.seq (.region [oT 106 151 .move [10],
 oT 107 152 (.call true 106) [106],
 oT 17 156 .move [107]])
 (.seq (.seq (.region [oT 108 157 .move [17],
 oT 109 158 (.len false) [108],
 ⟨(some 110),159,.move,[.c (.int .i64 (0))],none⟩])
 (.block 4 (.loopT ((List (T_ar3_i64)) × (List (T_agent_Item)) × Int × Int × Int × ByteArray × Int × Int × Int × (List (T_agent_Item)) × Int × Int × Int × Int × Int × Int) (f332.S2 a) 160 174 (.seq (.region [oT 111 160 (.bin .lss) [110,109]])
 (.seq (.cond (.t 111) (.skip) (.exit 4))
 (.seq (.block 5 (.seq (.region [oT 112 161 .move [110],
 oT 18 162 .move [112]])
 (.region [oT 113 163 .move [16],
 oT 114 164 .move [17],
 oT 115 165 .move [18],
 oT 116 166 (.indexAddr 6 none) [114,115],
 oT 117 167 (.fieldAddr 3) [116],
 oT 118 168 (.load true 3) [117],
 oT 119 169 (.buildSlice 3 1 [.int .i64 (0),.int .i64 (0),.int .i64 (0)] [(0,3)]) [118],
 oT 120 170 (.append 3 24) [113,119],
 oT 16 171 .move [120]])))
 (.region [⟨(some 121),172,(.bin .add),[.t 110,.c (.int .i64 (1))],none⟩,
 oT 110 173 .move [121]])))))))
 (.seq (.region [oT 123 174 .move [16],
 oT 124 175 (.call false 52) [123],
 oT 122 179 .move [124],
 oT 125 180 (.extract 0) [122],
 oT 126 181 (.extract 1) [122],
 oT 19 182 (.alloc [.int .i64 (0),.int .i64 (0),.int .i64 (0)]) [],
 ⟨none,186,(.store 3),[.t 19,.t 125],none⟩,
 oT 20 187 .move [126]])
 (.seq (.orders [[oT 127 188 .move [20],⟨(some 128),189,(.bin .neq),[.t 127,.c (.int .i64 (0))],none⟩,oT 129 190 .move [128],oG 130 191 (.load true 3) [19] 129 false,oG 131 192 (.load true 3) [11] 129 false,oG 132 193 (.call false 34) [130,131] 129 false,oG 133 197 (.un .not) [132] 129 false,⟨(some 134),198,.pick,[.t 129,.c (.bool true),.t 133],none⟩,oT 135 199 .move [134],oG 136 200 .move [10] 135 false,oG 137 201 (.call true 107) [136] 135 false,oG 138 205 (.field true 1 3) [137] 135 false,oG 139 206 (.load true 3) [13] 135 false,oG 140 207 (.call false 99) [138,139] 135 false,⟨(some 141),211,(.bin .lss),[.t 140,.c (.int .i64 (0))],(some (135,false))⟩,⟨(some 142),212,.pick,[.t 135,.c (.bool true),.t 141],none⟩],
 [oT 127 188 .move [20],⟨(some 128),189,(.bin .neq),[.t 127,.c (.int .i64 (0))],none⟩,oT 129 190 .move [128],oG 130 191 (.load true 3) [19] 129 false,oG 131 192 (.load true 3) [11] 129 false,oG 132 193 (.call false 34) [130,131] 129 false,oG 133 197 (.un .not) [132] 129 false,⟨(some 134),198,.pick,[.t 129,.c (.bool true),.t 133],none⟩,oT 135 199 .move [134],oG 136 200 .move [10] 135 false,oG 139 206 (.load true 3) [13] 135 false,oG 137 201 (.call true 107) [136] 135 false,oG 138 205 (.field true 1 3) [137] 135 false,oG 140 207 (.call false 99) [138,139] 135 false,⟨(some 141),211,(.bin .lss),[.t 140,.c (.int .i64 (0))],(some (135,false))⟩,⟨(some 142),212,.pick,[.t 135,.c (.bool true),.t 141],none⟩]])
 (.cond (.t 142) (.seq (.region [⟨(some 6),213,.move,[.c (.bool false)],none⟩])
 (.ret)) (.skip))))))))))))
 (.region [⟨(some 143),214,(.bin .add),[.t 83,.c (.int .i64 (1))],none⟩,
 oT 83 215 .move [143]])))))))
 (.seq (.region [⟨(some 6),216,.move,[.c (.bool true)],none⟩])
 (.ret))))))))
 [.tmp 6] 0 141
def f332.env : Env := [(98,f98.C),(100,f100.C),(341,f341.C),(108,f108.C),(101,f101.C),(107,f107.C),(103,f103.C),(102,f102.C),(106,f106.C),(52,f52.C),(34,f34.C),(99,f99.C)]
def f332.tree (a : T_api_State × T_ar3_i64 × (List (T_interregnumref24_Order))) : Prop := ∃ c1 : Unit,True∧Br (!(lawTrue c1)) (∃ c4 : Unit,True∧((lawTrue c4) = (lawTrue a))∧True) (∃ c7 : List (T_interregnumref24_Order),SlQ a.2.2.length c7.length (gl e_interregnumref24_Order a.2.2) (gl e_interregnumref24_Order c7) ((few24_pre c7)∧Br (!(few24 c7)) (∃ c10 : Unit,True∧((lawTrue c10) = (lawTrue a))∧True) (Br (decide ((100 : Int) < (a.1.2.2.2.2.length : Int))) (∃ c15 : Unit,True∧((lawTrue c15) = (lawTrue a))∧True) (Br (decide ((40 : Int) < (a.1.2.2.1.length : Int))) (∃ c20 : Unit,True∧((lawTrue c20) = (lawTrue a))∧True) (Br (decide ((40 : Int) < (a.1.2.2.2.1.length : Int))) (∃ c25 : Unit,True∧((lawTrue c25) = (lawTrue a))∧True) (∃ (I29 : Int→Prop) (μ30 : Int→Nat),(∃ x28 : Int,SlS e_interregnumref24_Order a.2.2 (((a.1.2.2.1.length : Int) = (a.1.2.2.1.length : Int))∧((0 : Int) = x28)∧(a.1.1 = a.1.1)∧(a.1.2.1 = a.1.2.1)∧SlS e_api_Machine a.1.2.2.1 (SlS e_api_Queue a.1.2.2.2.1 (SlS e_api_Job a.1.2.2.2.2 ((a.2.1.1 = a.2.1.1)∧(a.2.1.2.1 = a.2.1.2.1)∧(a.2.1.2.2 = a.2.1.2.2)∧I29 x28)))))∧∀ y31 : Int,I29 y31→(Br (decide (y31 < (a.1.2.2.1.length : Int))) (Br (decide ((0 : Int)≤y31) && decide (y31 < (a.1.2.2.1.length : Int))) (∃ c35 : T_api_State × ByteArray × T_ar3_i64,(a.1.1 = c35.1.1)∧(a.1.2.1 = c35.1.2.1)∧SlQ a.1.2.2.1.length c35.1.2.2.1.length (gl e_api_Machine a.1.2.2.1) (gl e_api_Machine c35.1.2.2.1) (SlQ a.1.2.2.2.1.length c35.1.2.2.2.1.length (gl e_api_Queue a.1.2.2.2.1) (gl e_api_Queue c35.1.2.2.2.1) (SlQ a.1.2.2.2.2.length c35.1.2.2.2.2.length (gl e_api_Job a.1.2.2.2.2) (gl e_api_Job c35.1.2.2.2.2) (((((at_ a.1.2.2.1 y31).1).1) = c35.2.1)∧(a.2.1.1 = c35.2.2.1)∧(a.2.1.2.1 = c35.2.2.2.1)∧(a.2.1.2.2 = c35.2.2.2.2)∧(of_pre c35)∧Br (((ofA c35).2) == (0 : Int)) (∃ c38 : T_agent_Order,((((ofA c35).1).1) = c38.1)∧(((((ofA c35).1).2.1).1) = c38.2.1.1)∧(((((ofA c35).1).2.1).2.1) = c38.2.1.2.1)∧(((((ofA c35).1).2.1).2.2) = c38.2.1.2.2)∧(((((ofA c35).1).2.2.1).1) = c38.2.2.1.1)∧(((((ofA c35).1).2.2.1).2.1) = c38.2.2.1.2.1)∧(((((ofA c35).1).2.2.1).2.2) = c38.2.2.1.2.2)∧SlQ ((((ofA c35).1).2.2.2).length) c38.2.2.2.length (gl e_agent_Item (((ofA c35).1).2.2.2)) (gl e_agent_Item c38.2.2.2) ((ord_pre c38)∧Br (!(ordB c38)) ((false = (lawTrue a))∧True) (Br (((ofA c35).2) != (0 : Int)) (Br (((ofA c35).2) != (1 : Int)) ((false = (lawTrue a))∧True) (Let (IntKind.i64.wrap (y31 + (1 : Int))) (fun v45 : Int => ∃ x46 : Int,SlS e_interregnumref24_Order a.2.2 (((a.1.2.2.1.length : Int) = (a.1.2.2.1.length : Int))∧(v45 = x46)∧(a.1.1 = a.1.1)∧(a.1.2.1 = a.1.2.1)∧SlS e_api_Machine a.1.2.2.1 (SlS e_api_Queue a.1.2.2.2.1 (SlS e_api_Job a.1.2.2.2.2 ((a.2.1.1 = a.2.1.1)∧(a.2.1.2.1 = a.2.1.2.1)∧(a.2.1.2.2 = a.2.1.2.2)∧I29 x46∧μ30 x46 < μ30 y31))))))) (Let (IntKind.i64.wrap (y31 + (1 : Int))) (fun v53 : Int => ∃ x54 : Int,SlS e_interregnumref24_Order a.2.2 (((a.1.2.2.1.length : Int) = (a.1.2.2.1.length : Int))∧(v53 = x54)∧(a.1.1 = a.1.1)∧(a.1.2.1 = a.1.2.1)∧SlS e_api_Machine a.1.2.2.1 (SlS e_api_Queue a.1.2.2.2.1 (SlS e_api_Job a.1.2.2.2.2 ((a.2.1.1 = a.2.1.1)∧(a.2.1.2.1 = a.2.1.2.1)∧(a.2.1.2.2 = a.2.1.2.2)∧I29 x54∧μ30 x54 < μ30 y31))))))))) (Br (((ofA c35).2) != (0 : Int)) (Br (((ofA c35).2) != (1 : Int)) ((false = (lawTrue a))∧True) (Let (IntKind.i64.wrap (y31 + (1 : Int))) (fun v65 : Int => ∃ x66 : Int,SlS e_interregnumref24_Order a.2.2 (((a.1.2.2.1.length : Int) = (a.1.2.2.1.length : Int))∧(v65 = x66)∧(a.1.1 = a.1.1)∧(a.1.2.1 = a.1.2.1)∧SlS e_api_Machine a.1.2.2.1 (SlS e_api_Queue a.1.2.2.2.1 (SlS e_api_Job a.1.2.2.2.2 ((a.2.1.1 = a.2.1.1)∧(a.2.1.2.1 = a.2.1.2.1)∧(a.2.1.2.2 = a.2.1.2.2)∧I29 x66∧μ30 x66 < μ30 y31))))))) (Let (IntKind.i64.wrap (y31 + (1 : Int))) (fun v73 : Int => ∃ x74 : Int,SlS e_interregnumref24_Order a.2.2 (((a.1.2.2.1.length : Int) = (a.1.2.2.1.length : Int))∧(v73 = x74)∧(a.1.1 = a.1.1)∧(a.1.2.1 = a.1.2.1)∧SlS e_api_Machine a.1.2.2.1 (SlS e_api_Queue a.1.2.2.2.1 (SlS e_api_Job a.1.2.2.2.2 ((a.2.1.1 = a.2.1.1)∧(a.2.1.2.1 = a.2.1.2.1)∧(a.2.1.2.2 = a.2.1.2.2)∧I29 x74∧μ30 x74 < μ30 y31))))))))))) False) (∃ c83 : ByteArray,(f332.s0 = c83)∧True∧∃ (I85 : (Int × ByteArray × Int × Int × Int × (List (T_agent_Item)) × Int × Int × Int)→Prop) (μ86 : (Int × ByteArray × Int × Int × Int × (List (T_agent_Item)) × Int × Int × Int)→Nat),(∃ x84 : Int × ByteArray × Int × Int × Int × (List (T_agent_Item)) × Int × Int × Int,SlS e_interregnumref24_Order a.2.2 (((a.2.2.length : Int) = (a.2.2.length : Int))∧((0 : Int) = x84.1)∧(((newA c83).1) = x84.2.1)∧((((newA c83).2.1).1) = x84.2.2.1)∧((((newA c83).2.1).2.1) = x84.2.2.2.1)∧((((newA c83).2.1).2.2) = x84.2.2.2.2.1)∧SlQ (((newA c83).2.2).length) x84.2.2.2.2.2.1.length (gl e_agent_Item ((newA c83).2.2)) (gl e_agent_Item x84.2.2.2.2.2.1) (((0 : Int) = x84.2.2.2.2.2.2.1)∧((0 : Int) = x84.2.2.2.2.2.2.2.1)∧((0 : Int) = x84.2.2.2.2.2.2.2.2)∧I85 x84)))∧∀ y87 : Int × ByteArray × Int × Int × Int × (List (T_agent_Item)) × Int × Int × Int,I85 y87→(Br (decide (y87.1 < (a.2.2.length : Int))) (∃ c90 : T_agent_Agent,(y87.2.1 = c90.1)∧(y87.2.2.1 = c90.2.1.1)∧(y87.2.2.2.1 = c90.2.1.2.1)∧(y87.2.2.2.2.1 = c90.2.1.2.2)∧SlQ y87.2.2.2.2.2.1.length c90.2.2.length (gl e_agent_Item y87.2.2.2.2.2.1) (gl e_agent_Item c90.2.2) (True∧Br (decide ((0 : Int)≤y87.1) && decide (y87.1 < (a.2.2.length : Int))) (∃ c92 : T_interregnumref24_Order,(((at_ a.2.2 y87.1).1) = c92.1)∧((((at_ a.2.2 y87.1).2.1).1) = c92.2.1.1)∧((((at_ a.2.2 y87.1).2.1).2.1) = c92.2.1.2.1)∧((((at_ a.2.2 y87.1).2.1).2.2) = c92.2.1.2.2)∧((((at_ a.2.2 y87.1).2.2.1).1) = c92.2.2.1.1)∧((((at_ a.2.2 y87.1).2.2.1).2.1) = c92.2.2.1.2.1)∧((((at_ a.2.2 y87.1).2.2.1).2.2) = c92.2.2.1.2.2)∧SlQ (((at_ a.2.2 y87.1).2.2.2).length) c92.2.2.2.length (gl e_interregnumref24_Item ((at_ a.2.2 y87.1).2.2.2)) (gl e_interregnumref24_Item c92.2.2.2) ((ord_pre c92)∧∃ c93 : T_agent_Agent × T_agent_Order,(((madeA c92).1) = c93.2.1)∧((((madeA c92).2.1).1) = c93.2.2.1.1)∧((((madeA c92).2.1).2.1) = c93.2.2.1.2.1)∧((((madeA c92).2.1).2.2) = c93.2.2.1.2.2)∧((((madeA c92).2.2.1).1) = c93.2.2.2.1.1)∧((((madeA c92).2.2.1).2.1) = c93.2.2.2.1.2.1)∧((((madeA c92).2.2.1).2.2) = c93.2.2.2.1.2.2)∧SlQ (((madeA c92).2.2.2).length) c93.2.2.2.2.length (gl e_agent_Item ((madeA c92).2.2.2)) (gl e_agent_Item c93.2.2.2.2) (((((reportA c90).2).1) = c93.1.1)∧(((((reportA c90).2).2.1).1) = c93.1.2.1.1)∧(((((reportA c90).2).2.1).2.1) = c93.1.2.1.2.1)∧(((((reportA c90).2).2.1).2.2) = c93.1.2.1.2.2)∧SlQ ((((reportA c90).2).2.2).length) c93.1.2.2.length (gl e_agent_Item (((reportA c90).2).2.2)) (gl e_agent_Item c93.1.2.2) ((takeA_pre c93)∧Br (((takeA c93).2.1) == (0 : Int)) (Br (decide ((0 : Int)≤y87.1) && decide (y87.1 < (a.2.2.length : Int))) (∃ c97 : T_agent_Agent,((((takeA c93).2.2).1) = c97.1)∧(((((takeA c93).2.2).2.1).1) = c97.2.1.1)∧(((((takeA c93).2.2).2.1).2.1) = c97.2.1.2.1)∧(((((takeA c93).2.2).2.1).2.2) = c97.2.1.2.2)∧SlQ ((((takeA c93).2.2).2.2).length) c97.2.2.length (gl e_agent_Item (((takeA c93).2.2).2.2)) (gl e_agent_Item c97.2.2) ((runA_pre c97)∧∃ (I99 : ((List (T_ar3_i64)) × (List (T_agent_Item)) × Int × Int × Int × ByteArray × Int × Int × Int × (List (T_agent_Item)) × Int × Int × Int × Int × Int × Int)→Prop) (μ100 : ((List (T_ar3_i64)) × (List (T_agent_Item)) × Int × Int × Int × ByteArray × Int × Int × Int × (List (T_agent_Item)) × Int × Int × Int × Int × Int × Int)→Nat),(∃ x98 : (List (T_ar3_i64)) × (List (T_agent_Item)) × Int × Int × Int × ByteArray × Int × Int × Int × (List (T_agent_Item)) × Int × Int × Int × Int × Int × Int,SlS e_interregnumref24_Order a.2.2 (SlQ 0 x98.1.length gnil (gl e_ar3_i64 x98.1) (SlQ (((runningA c97).1).length) x98.2.1.length (gl e_agent_Item ((runningA c97).1)) (gl e_agent_Item x98.2.1) (((a.2.2.length : Int) = (a.2.2.length : Int))∧(y87.1 = x98.2.2.1)∧((((runningA c97).1).length : Int) = x98.2.2.2.1)∧((0 : Int) = x98.2.2.2.2.1)∧((((runningA c97).2).1) = x98.2.2.2.2.2.1)∧(((((runningA c97).2).2.1).1) = x98.2.2.2.2.2.2.1)∧(((((runningA c97).2).2.1).2.1) = x98.2.2.2.2.2.2.2.1)∧(((((runningA c97).2).2.1).2.2) = x98.2.2.2.2.2.2.2.2.1)∧SlQ ((((runningA c97).2).2.2).length) x98.2.2.2.2.2.2.2.2.2.1.length (gl e_agent_Item (((runningA c97).2).2.2)) (gl e_agent_Item x98.2.2.2.2.2.2.2.2.2.1) (((((at_ a.2.2 y87.1).2.2.1).1) = x98.2.2.2.2.2.2.2.2.2.2.1)∧((((at_ a.2.2 y87.1).2.2.1).2.1) = x98.2.2.2.2.2.2.2.2.2.2.2.1)∧((((at_ a.2.2 y87.1).2.2.1).2.2) = x98.2.2.2.2.2.2.2.2.2.2.2.2.1)∧(((((reportA c90).1).2).1) = x98.2.2.2.2.2.2.2.2.2.2.2.2.2.1)∧(((((reportA c90).1).2).2.1) = x98.2.2.2.2.2.2.2.2.2.2.2.2.2.2.1)∧(((((reportA c90).1).2).2.2) = x98.2.2.2.2.2.2.2.2.2.2.2.2.2.2.2)∧(0 = x98.1.length)∧I99 x98)))))∧∀ y101 : (List (T_ar3_i64)) × (List (T_agent_Item)) × Int × Int × Int × ByteArray × Int × Int × Int × (List (T_agent_Item)) × Int × Int × Int × Int × Int × Int,I99 y101→(Br (decide (y101.2.2.2.2.1 < y101.2.2.2.1)) (Br (decide ((0 : Int)≤y101.2.2.2.2.1) && decide (y101.2.2.2.2.1 < (y101.2.1.length : Int))) ((y101.1.length = y101.1.length∧room ((y101.1.length + 1) * 24))∧(Let (IntKind.i64.wrap (y101.2.2.2.2.1 + (1 : Int))) (fun v105 : Int => ∃ x106 : (List (T_ar3_i64)) × (List (T_agent_Item)) × Int × Int × Int × ByteArray × Int × Int × Int × (List (T_agent_Item)) × Int × Int × Int × Int × Int × Int,SlS e_interregnumref24_Order a.2.2 (SlQ (y101.1.length + 1) x106.1.length (gapp (gl e_ar3_i64 y101.1) y101.1.length (fun _ => [.int .i64 (((at_ y101.2.1 y101.2.2.2.2.1).2.2.2).1),.int .i64 (((at_ y101.2.1 y101.2.2.2.2.1).2.2.2).2.1),.int .i64 (((at_ y101.2.1 y101.2.2.2.2.1).2.2.2).2.2)])) (gl e_ar3_i64 x106.1) (SlQ y101.2.1.length x106.2.1.length (gl e_agent_Item y101.2.1) (gl e_agent_Item x106.2.1) (((a.2.2.length : Int) = (a.2.2.length : Int))∧(y101.2.2.1 = x106.2.2.1)∧(y101.2.2.2.1 = x106.2.2.2.1)∧(v105 = x106.2.2.2.2.1)∧(y101.2.2.2.2.2.1 = x106.2.2.2.2.2.1)∧(y101.2.2.2.2.2.2.1 = x106.2.2.2.2.2.2.1)∧(y101.2.2.2.2.2.2.2.1 = x106.2.2.2.2.2.2.2.1)∧(y101.2.2.2.2.2.2.2.2.1 = x106.2.2.2.2.2.2.2.2.1)∧SlQ y101.2.2.2.2.2.2.2.2.2.1.length x106.2.2.2.2.2.2.2.2.2.1.length (gl e_agent_Item y101.2.2.2.2.2.2.2.2.2.1) (gl e_agent_Item x106.2.2.2.2.2.2.2.2.2.1) ((y101.2.2.2.2.2.2.2.2.2.2.1 = x106.2.2.2.2.2.2.2.2.2.2.1)∧(y101.2.2.2.2.2.2.2.2.2.2.2.1 = x106.2.2.2.2.2.2.2.2.2.2.2.1)∧(y101.2.2.2.2.2.2.2.2.2.2.2.2.1 = x106.2.2.2.2.2.2.2.2.2.2.2.2.1)∧(y101.2.2.2.2.2.2.2.2.2.2.2.2.2.1 = x106.2.2.2.2.2.2.2.2.2.2.2.2.2.1)∧(y101.2.2.2.2.2.2.2.2.2.2.2.2.2.2.1 = x106.2.2.2.2.2.2.2.2.2.2.2.2.2.2.1)∧(y101.2.2.2.2.2.2.2.2.2.2.2.2.2.2.2 = x106.2.2.2.2.2.2.2.2.2.2.2.2.2.2.2)∧((y101.1.length + 1) = x106.1.length)∧I99 x106∧μ100 x106 < μ100 y101))))))) False) (∃ c112 : List (T_ar3_i64),SlQ y101.1.length c112.length (gl e_ar3_i64 y101.1) (gl e_ar3_i64 c112) ((L20 c112)∧(Br (((sumR c112).2) != (0 : Int)) ((false = (lawTrue a))∧True) (∃ c116 : T_ar3_i64 × T_ar3_i64,((((sumR c112).1).1) = c116.1.1)∧((((sumR c112).1).2.1) = c116.1.2.1)∧((((sumR c112).1).2.2) = c116.1.2.2)∧(y101.2.2.2.2.2.2.2.2.2.2.1 = c116.2.1)∧(y101.2.2.2.2.2.2.2.2.2.2.2.1 = c116.2.2.1)∧(y101.2.2.2.2.2.2.2.2.2.2.2.2.1 = c116.2.2.2)∧True∧Br (!(fitsR c116)) ((false = (lawTrue a))∧True) (∃ c120 : T_agent_Agent,(y101.2.2.2.2.2.1 = c120.1)∧(y101.2.2.2.2.2.2.1 = c120.2.1.1)∧(y101.2.2.2.2.2.2.2.1 = c120.2.1.2.1)∧(y101.2.2.2.2.2.2.2.2.1 = c120.2.1.2.2)∧SlQ y101.2.2.2.2.2.2.2.2.2.1.length c120.2.2.length (gl e_agent_Item y101.2.2.2.2.2.2.2.2.2.1) (gl e_agent_Item c120.2.2) (True∧∃ c121 : T_ar3_i64 × T_ar3_i64,(((((reportA c120).1).2).1) = c121.1.1)∧(((((reportA c120).1).2).2.1) = c121.1.2.1)∧(((((reportA c120).1).2).2.2) = c121.1.2.2)∧(y101.2.2.2.2.2.2.2.2.2.2.2.2.2.1 = c121.2.1)∧(y101.2.2.2.2.2.2.2.2.2.2.2.2.2.2.1 = c121.2.2.1)∧(y101.2.2.2.2.2.2.2.2.2.2.2.2.2.2.2 = c121.2.2.2)∧True∧Br (decide ((cmpS c121) < (0 : Int))) ((false = (lawTrue a))∧True) (Let (IntKind.i64.wrap (y101.2.2.1 + (1 : Int))) (fun v125 : Int => ∃ x126 : Int × ByteArray × Int × Int × Int × (List (T_agent_Item)) × Int × Int × Int,SlS e_interregnumref24_Order a.2.2 (((a.2.2.length : Int) = (a.2.2.length : Int))∧(v125 = x126.1)∧((((reportA c120).2).1) = x126.2.1)∧(((((reportA c120).2).2.1).1) = x126.2.2.1)∧(((((reportA c120).2).2.1).2.1) = x126.2.2.2.1)∧(((((reportA c120).2).2.1).2.2) = x126.2.2.2.2.1)∧SlQ ((((reportA c120).2).2.2).length) x126.2.2.2.2.2.1.length (gl e_agent_Item (((reportA c120).2).2.2)) (gl e_agent_Item x126.2.2.2.2.2.1) ((y101.2.2.2.2.2.2.2.2.2.2.1 = x126.2.2.2.2.2.2.1)∧(y101.2.2.2.2.2.2.2.2.2.2.2.1 = x126.2.2.2.2.2.2.2.1)∧(y101.2.2.2.2.2.2.2.2.2.2.2.2.1 = x126.2.2.2.2.2.2.2.2)∧I85 x126∧μ86 x126 < μ86 y87))))))))∧(Br (((sumR c112).2) != (0 : Int)) ((false = (lawTrue a))∧True) (∃ c116 : T_ar3_i64 × T_ar3_i64,((((sumR c112).1).1) = c116.1.1)∧((((sumR c112).1).2.1) = c116.1.2.1)∧((((sumR c112).1).2.2) = c116.1.2.2)∧(y101.2.2.2.2.2.2.2.2.2.2.1 = c116.2.1)∧(y101.2.2.2.2.2.2.2.2.2.2.2.1 = c116.2.2.1)∧(y101.2.2.2.2.2.2.2.2.2.2.2.2.1 = c116.2.2.2)∧True∧Br (!(fitsR c116)) ((false = (lawTrue a))∧True) (∃ c120 : T_agent_Agent,(y101.2.2.2.2.2.1 = c120.1)∧(y101.2.2.2.2.2.2.1 = c120.2.1.1)∧(y101.2.2.2.2.2.2.2.1 = c120.2.1.2.1)∧(y101.2.2.2.2.2.2.2.2.1 = c120.2.1.2.2)∧SlQ y101.2.2.2.2.2.2.2.2.2.1.length c120.2.2.length (gl e_agent_Item y101.2.2.2.2.2.2.2.2.2.1) (gl e_agent_Item c120.2.2) (True∧∃ c121 : T_ar3_i64 × T_ar3_i64,(((((reportA c120).1).2).1) = c121.1.1)∧(((((reportA c120).1).2).2.1) = c121.1.2.1)∧(((((reportA c120).1).2).2.2) = c121.1.2.2)∧(y101.2.2.2.2.2.2.2.2.2.2.2.2.2.1 = c121.2.1)∧(y101.2.2.2.2.2.2.2.2.2.2.2.2.2.2.1 = c121.2.2.1)∧(y101.2.2.2.2.2.2.2.2.2.2.2.2.2.2.2 = c121.2.2.2)∧True∧Br (decide ((cmpS c121) < (0 : Int))) ((false = (lawTrue a))∧True) (Let (IntKind.i64.wrap (y101.2.2.1 + (1 : Int))) (fun v125 : Int => ∃ x126 : Int × ByteArray × Int × Int × Int × (List (T_agent_Item)) × Int × Int × Int,SlS e_interregnumref24_Order a.2.2 (((a.2.2.length : Int) = (a.2.2.length : Int))∧(v125 = x126.1)∧((((reportA c120).2).1) = x126.2.1)∧(((((reportA c120).2).2.1).1) = x126.2.2.1)∧(((((reportA c120).2).2.1).2.1) = x126.2.2.2.1)∧(((((reportA c120).2).2.1).2.2) = x126.2.2.2.2.1)∧SlQ ((((reportA c120).2).2.2).length) x126.2.2.2.2.2.1.length (gl e_agent_Item (((reportA c120).2).2.2)) (gl e_agent_Item x126.2.2.2.2.2.1) ((y101.2.2.2.2.2.2.2.2.2.2.1 = x126.2.2.2.2.2.2.1)∧(y101.2.2.2.2.2.2.2.2.2.2.2.1 = x126.2.2.2.2.2.2.2.1)∧(y101.2.2.2.2.2.2.2.2.2.2.2.2.1 = x126.2.2.2.2.2.2.2.2)∧I85 x126∧μ86 x126 < μ86 y87))))))))))))) False) (∃ c148 : T_agent_Agent,((((takeA c93).2.2).1) = c148.1)∧(((((takeA c93).2.2).2.1).1) = c148.2.1.1)∧(((((takeA c93).2.2).2.1).2.1) = c148.2.1.2.1)∧(((((takeA c93).2.2).2.1).2.2) = c148.2.1.2.2)∧SlQ ((((takeA c93).2.2).2.2).length) c148.2.2.length (gl e_agent_Item (((takeA c93).2.2).2.2)) (gl e_agent_Item c148.2.2) ((runA_pre c148)∧∃ (I150 : ((List (T_ar3_i64)) × (List (T_agent_Item)) × Int × Int × Int × ByteArray × Int × Int × Int × (List (T_agent_Item)) × Int × Int × Int × Int × Int × Int)→Prop) (μ151 : ((List (T_ar3_i64)) × (List (T_agent_Item)) × Int × Int × Int × ByteArray × Int × Int × Int × (List (T_agent_Item)) × Int × Int × Int × Int × Int × Int)→Nat),(∃ x149 : (List (T_ar3_i64)) × (List (T_agent_Item)) × Int × Int × Int × ByteArray × Int × Int × Int × (List (T_agent_Item)) × Int × Int × Int × Int × Int × Int,SlS e_interregnumref24_Order a.2.2 (SlQ 0 x149.1.length gnil (gl e_ar3_i64 x149.1) (SlQ (((runningA c148).1).length) x149.2.1.length (gl e_agent_Item ((runningA c148).1)) (gl e_agent_Item x149.2.1) (((a.2.2.length : Int) = (a.2.2.length : Int))∧(y87.1 = x149.2.2.1)∧((((runningA c148).1).length : Int) = x149.2.2.2.1)∧((0 : Int) = x149.2.2.2.2.1)∧((((runningA c148).2).1) = x149.2.2.2.2.2.1)∧(((((runningA c148).2).2.1).1) = x149.2.2.2.2.2.2.1)∧(((((runningA c148).2).2.1).2.1) = x149.2.2.2.2.2.2.2.1)∧(((((runningA c148).2).2.1).2.2) = x149.2.2.2.2.2.2.2.2.1)∧SlQ ((((runningA c148).2).2.2).length) x149.2.2.2.2.2.2.2.2.2.1.length (gl e_agent_Item (((runningA c148).2).2.2)) (gl e_agent_Item x149.2.2.2.2.2.2.2.2.2.1) ((y87.2.2.2.2.2.2.1 = x149.2.2.2.2.2.2.2.2.2.2.1)∧(y87.2.2.2.2.2.2.2.1 = x149.2.2.2.2.2.2.2.2.2.2.2.1)∧(y87.2.2.2.2.2.2.2.2 = x149.2.2.2.2.2.2.2.2.2.2.2.2.1)∧(((((reportA c90).1).2).1) = x149.2.2.2.2.2.2.2.2.2.2.2.2.2.1)∧(((((reportA c90).1).2).2.1) = x149.2.2.2.2.2.2.2.2.2.2.2.2.2.2.1)∧(((((reportA c90).1).2).2.2) = x149.2.2.2.2.2.2.2.2.2.2.2.2.2.2.2)∧(0 = x149.1.length)∧I150 x149)))))∧∀ y152 : (List (T_ar3_i64)) × (List (T_agent_Item)) × Int × Int × Int × ByteArray × Int × Int × Int × (List (T_agent_Item)) × Int × Int × Int × Int × Int × Int,I150 y152→(Br (decide (y152.2.2.2.2.1 < y152.2.2.2.1)) (Br (decide ((0 : Int)≤y152.2.2.2.2.1) && decide (y152.2.2.2.2.1 < (y152.2.1.length : Int))) ((y152.1.length = y152.1.length∧room ((y152.1.length + 1) * 24))∧(Let (IntKind.i64.wrap (y152.2.2.2.2.1 + (1 : Int))) (fun v156 : Int => ∃ x157 : (List (T_ar3_i64)) × (List (T_agent_Item)) × Int × Int × Int × ByteArray × Int × Int × Int × (List (T_agent_Item)) × Int × Int × Int × Int × Int × Int,SlS e_interregnumref24_Order a.2.2 (SlQ (y152.1.length + 1) x157.1.length (gapp (gl e_ar3_i64 y152.1) y152.1.length (fun _ => [.int .i64 (((at_ y152.2.1 y152.2.2.2.2.1).2.2.2).1),.int .i64 (((at_ y152.2.1 y152.2.2.2.2.1).2.2.2).2.1),.int .i64 (((at_ y152.2.1 y152.2.2.2.2.1).2.2.2).2.2)])) (gl e_ar3_i64 x157.1) (SlQ y152.2.1.length x157.2.1.length (gl e_agent_Item y152.2.1) (gl e_agent_Item x157.2.1) (((a.2.2.length : Int) = (a.2.2.length : Int))∧(y152.2.2.1 = x157.2.2.1)∧(y152.2.2.2.1 = x157.2.2.2.1)∧(v156 = x157.2.2.2.2.1)∧(y152.2.2.2.2.2.1 = x157.2.2.2.2.2.1)∧(y152.2.2.2.2.2.2.1 = x157.2.2.2.2.2.2.1)∧(y152.2.2.2.2.2.2.2.1 = x157.2.2.2.2.2.2.2.1)∧(y152.2.2.2.2.2.2.2.2.1 = x157.2.2.2.2.2.2.2.2.1)∧SlQ y152.2.2.2.2.2.2.2.2.2.1.length x157.2.2.2.2.2.2.2.2.2.1.length (gl e_agent_Item y152.2.2.2.2.2.2.2.2.2.1) (gl e_agent_Item x157.2.2.2.2.2.2.2.2.2.1) ((y152.2.2.2.2.2.2.2.2.2.2.1 = x157.2.2.2.2.2.2.2.2.2.2.1)∧(y152.2.2.2.2.2.2.2.2.2.2.2.1 = x157.2.2.2.2.2.2.2.2.2.2.2.1)∧(y152.2.2.2.2.2.2.2.2.2.2.2.2.1 = x157.2.2.2.2.2.2.2.2.2.2.2.2.1)∧(y152.2.2.2.2.2.2.2.2.2.2.2.2.2.1 = x157.2.2.2.2.2.2.2.2.2.2.2.2.2.1)∧(y152.2.2.2.2.2.2.2.2.2.2.2.2.2.2.1 = x157.2.2.2.2.2.2.2.2.2.2.2.2.2.2.1)∧(y152.2.2.2.2.2.2.2.2.2.2.2.2.2.2.2 = x157.2.2.2.2.2.2.2.2.2.2.2.2.2.2.2)∧((y152.1.length + 1) = x157.1.length)∧I150 x157∧μ151 x157 < μ151 y152))))))) False) (∃ c163 : List (T_ar3_i64),SlQ y152.1.length c163.length (gl e_ar3_i64 y152.1) (gl e_ar3_i64 c163) ((L20 c163)∧(Br (((sumR c163).2) != (0 : Int)) ((false = (lawTrue a))∧True) (∃ c167 : T_ar3_i64 × T_ar3_i64,((((sumR c163).1).1) = c167.1.1)∧((((sumR c163).1).2.1) = c167.1.2.1)∧((((sumR c163).1).2.2) = c167.1.2.2)∧(y152.2.2.2.2.2.2.2.2.2.2.1 = c167.2.1)∧(y152.2.2.2.2.2.2.2.2.2.2.2.1 = c167.2.2.1)∧(y152.2.2.2.2.2.2.2.2.2.2.2.2.1 = c167.2.2.2)∧True∧Br (!(fitsR c167)) ((false = (lawTrue a))∧True) (∃ c171 : T_agent_Agent,(y152.2.2.2.2.2.1 = c171.1)∧(y152.2.2.2.2.2.2.1 = c171.2.1.1)∧(y152.2.2.2.2.2.2.2.1 = c171.2.1.2.1)∧(y152.2.2.2.2.2.2.2.2.1 = c171.2.1.2.2)∧SlQ y152.2.2.2.2.2.2.2.2.2.1.length c171.2.2.length (gl e_agent_Item y152.2.2.2.2.2.2.2.2.2.1) (gl e_agent_Item c171.2.2) (True∧∃ c172 : T_ar3_i64 × T_ar3_i64,(((((reportA c171).1).2).1) = c172.1.1)∧(((((reportA c171).1).2).2.1) = c172.1.2.1)∧(((((reportA c171).1).2).2.2) = c172.1.2.2)∧(y152.2.2.2.2.2.2.2.2.2.2.2.2.2.1 = c172.2.1)∧(y152.2.2.2.2.2.2.2.2.2.2.2.2.2.2.1 = c172.2.2.1)∧(y152.2.2.2.2.2.2.2.2.2.2.2.2.2.2.2 = c172.2.2.2)∧True∧Br (decide ((cmpS c172) < (0 : Int))) ((false = (lawTrue a))∧True) (Let (IntKind.i64.wrap (y152.2.2.1 + (1 : Int))) (fun v176 : Int => ∃ x177 : Int × ByteArray × Int × Int × Int × (List (T_agent_Item)) × Int × Int × Int,SlS e_interregnumref24_Order a.2.2 (((a.2.2.length : Int) = (a.2.2.length : Int))∧(v176 = x177.1)∧((((reportA c171).2).1) = x177.2.1)∧(((((reportA c171).2).2.1).1) = x177.2.2.1)∧(((((reportA c171).2).2.1).2.1) = x177.2.2.2.1)∧(((((reportA c171).2).2.1).2.2) = x177.2.2.2.2.1)∧SlQ ((((reportA c171).2).2.2).length) x177.2.2.2.2.2.1.length (gl e_agent_Item (((reportA c171).2).2.2)) (gl e_agent_Item x177.2.2.2.2.2.1) ((y152.2.2.2.2.2.2.2.2.2.2.1 = x177.2.2.2.2.2.2.1)∧(y152.2.2.2.2.2.2.2.2.2.2.2.1 = x177.2.2.2.2.2.2.2.1)∧(y152.2.2.2.2.2.2.2.2.2.2.2.2.1 = x177.2.2.2.2.2.2.2.2)∧I85 x177∧μ86 x177 < μ86 y87))))))))∧(Br (((sumR c163).2) != (0 : Int)) ((false = (lawTrue a))∧True) (∃ c167 : T_ar3_i64 × T_ar3_i64,((((sumR c163).1).1) = c167.1.1)∧((((sumR c163).1).2.1) = c167.1.2.1)∧((((sumR c163).1).2.2) = c167.1.2.2)∧(y152.2.2.2.2.2.2.2.2.2.2.1 = c167.2.1)∧(y152.2.2.2.2.2.2.2.2.2.2.2.1 = c167.2.2.1)∧(y152.2.2.2.2.2.2.2.2.2.2.2.2.1 = c167.2.2.2)∧True∧Br (!(fitsR c167)) ((false = (lawTrue a))∧True) (∃ c171 : T_agent_Agent,(y152.2.2.2.2.2.1 = c171.1)∧(y152.2.2.2.2.2.2.1 = c171.2.1.1)∧(y152.2.2.2.2.2.2.2.1 = c171.2.1.2.1)∧(y152.2.2.2.2.2.2.2.2.1 = c171.2.1.2.2)∧SlQ y152.2.2.2.2.2.2.2.2.2.1.length c171.2.2.length (gl e_agent_Item y152.2.2.2.2.2.2.2.2.2.1) (gl e_agent_Item c171.2.2) (True∧∃ c172 : T_ar3_i64 × T_ar3_i64,(((((reportA c171).1).2).1) = c172.1.1)∧(((((reportA c171).1).2).2.1) = c172.1.2.1)∧(((((reportA c171).1).2).2.2) = c172.1.2.2)∧(y152.2.2.2.2.2.2.2.2.2.2.2.2.2.1 = c172.2.1)∧(y152.2.2.2.2.2.2.2.2.2.2.2.2.2.2.1 = c172.2.2.1)∧(y152.2.2.2.2.2.2.2.2.2.2.2.2.2.2.2 = c172.2.2.2)∧True∧Br (decide ((cmpS c172) < (0 : Int))) ((false = (lawTrue a))∧True) (Let (IntKind.i64.wrap (y152.2.2.1 + (1 : Int))) (fun v176 : Int => ∃ x177 : Int × ByteArray × Int × Int × Int × (List (T_agent_Item)) × Int × Int × Int,SlS e_interregnumref24_Order a.2.2 (((a.2.2.length : Int) = (a.2.2.length : Int))∧(v176 = x177.1)∧((((reportA c171).2).1) = x177.2.1)∧(((((reportA c171).2).2.1).1) = x177.2.2.1)∧(((((reportA c171).2).2.1).2.1) = x177.2.2.2.1)∧(((((reportA c171).2).2.1).2.2) = x177.2.2.2.2.1)∧SlQ ((((reportA c171).2).2.2).length) x177.2.2.2.2.2.1.length (gl e_agent_Item (((reportA c171).2).2.2)) (gl e_agent_Item x177.2.2.2.2.2.1) ((y152.2.2.2.2.2.2.2.2.2.2.1 = x177.2.2.2.2.2.2.1)∧(y152.2.2.2.2.2.2.2.2.2.2.2.1 = x177.2.2.2.2.2.2.2.1)∧(y152.2.2.2.2.2.2.2.2.2.2.2.2.1 = x177.2.2.2.2.2.2.2.2)∧I85 x177∧μ86 x177 < μ86 y87))))))))))))))))) False)) ((true = (lawTrue a))∧True))))))))))
def f332.vc (a : T_api_State × T_ar3_i64 × (List (T_interregnumref24_Order))) : Prop := ((¬ ((lawTrue ()) = true)→((lawTrue ()) = lawTrue a))∧(¬ (¬ ((lawTrue ()) = true))→(few24_pre a.2.2∧((¬ ((few24 (a.2.2)) = true)→((lawTrue ()) = lawTrue a))∧(¬ (¬ ((few24 (a.2.2)) = true))→(((100 : Int) < (a.1.2.2.2.2.length : Int)→((lawTrue ()) = lawTrue a))∧(¬ ((100 : Int) < (a.1.2.2.2.2.length : Int))→(((40 : Int) < (a.1.2.2.1.length : Int)→((lawTrue ()) = lawTrue a))∧(¬ ((40 : Int) < (a.1.2.2.1.length : Int))→(((40 : Int) < (a.1.2.2.2.1.length : Int)→((lawTrue ()) = lawTrue a))∧(¬ ((40 : Int) < (a.1.2.2.2.1.length : Int))→(∃ (I29 : Int→Prop) (μ30 : Int→Nat),I29 (0 : Int)∧∀ y31 : Int,I29 y31→((y31 < (a.1.2.2.1.length : Int)→((0 : Int)≤y31∧y31 < (a.1.2.2.1.length : Int)∧(of_pre (a.1,((at_ a.1.2.2.1 y31).1).1,a.2.1)∧((((ofA (a.1,((at_ a.1.2.2.1 y31).1).1,a.2.1)).2) = (0 : Int)→(ord_pre ((ofA (a.1,((at_ a.1.2.2.1 y31).1).1,a.2.1)).1)∧((¬ ((ordB ((ofA (a.1,((at_ a.1.2.2.1 y31).1).1,a.2.1)).1)) = true)→(false = lawTrue a))∧(¬ (¬ ((ordB ((ofA (a.1,((at_ a.1.2.2.1 y31).1).1,a.2.1)).1)) = true))→(-9223372036854775808≤(y31 + (1 : Int))∧(y31 + (1 : Int))≤9223372036854775807∧(I29 (y31 + (1 : Int))∧μ30 (y31 + (1 : Int)) < μ30 y31))))))∧(¬ (((ofA (a.1,((at_ a.1.2.2.1 y31).1).1,a.2.1)).2) = (0 : Int))→((¬ ((ofA (a.1,((at_ a.1.2.2.1 y31).1).1,a.2.1)).2) = (1 : Int)→(false = lawTrue a))∧(¬ (¬ ((ofA (a.1,((at_ a.1.2.2.1 y31).1).1,a.2.1)).2) = (1 : Int))→(-9223372036854775808≤(y31 + (1 : Int))∧(y31 + (1 : Int))≤9223372036854775807∧(I29 (y31 + (1 : Int))∧μ30 (y31 + (1 : Int)) < μ30 y31)))))))))∧(¬ (y31 < (a.1.2.2.1.length : Int))→(∃ (I85 : (Int × ByteArray × Int × Int × Int × (List (T_agent_Item)) × Int × Int × Int)→Prop) (μ86 : (Int × ByteArray × Int × Int × Int × (List (T_agent_Item)) × Int × Int × Int)→Nat),I85 ((0 : Int),(newA (f332.s0)).1,((newA (f332.s0)).2.1).1,((newA (f332.s0)).2.1).2.1,((newA (f332.s0)).2.1).2.2,(newA (f332.s0)).2.2,(0 : Int),(0 : Int),(0 : Int))∧∀ y87 : Int × ByteArray × Int × Int × Int × (List (T_agent_Item)) × Int × Int × Int,I85 y87→((y87.1 < (a.2.2.length : Int)→((0 : Int)≤y87.1∧y87.1 < (a.2.2.length : Int)∧(ord_pre (at_ a.2.2 y87.1)∧(takeA_pre (((reportA (y87.2.1,(y87.2.2.1,y87.2.2.2.1,y87.2.2.2.2.1),y87.2.2.2.2.2.1)).2),(madeA (at_ a.2.2 y87.1)))∧((((takeA (((reportA (y87.2.1,(y87.2.2.1,y87.2.2.2.1,y87.2.2.2.2.1),y87.2.2.2.2.2.1)).2),(madeA (at_ a.2.2 y87.1)))).2.1) = (0 : Int)→((0 : Int)≤y87.1∧y87.1 < (a.2.2.length : Int)∧(runA_pre ((takeA (((reportA (y87.2.1,(y87.2.2.1,y87.2.2.2.1,y87.2.2.2.2.1),y87.2.2.2.2.2.1)).2),(madeA (at_ a.2.2 y87.1)))).2.2)∧(∃ (I99 : ((List (T_ar3_i64)) × (List (T_agent_Item)) × Int × Int × Int × ByteArray × Int × Int × Int × (List (T_agent_Item)) × Int × Int × Int × Int × Int × Int)→Prop) (μ100 : ((List (T_ar3_i64)) × (List (T_agent_Item)) × Int × Int × Int × ByteArray × Int × Int × Int × (List (T_agent_Item)) × Int × Int × Int × Int × Int × Int)→Nat),I99 ([],(runningA ((takeA (((reportA (y87.2.1,(y87.2.2.1,y87.2.2.2.1,y87.2.2.2.2.1),y87.2.2.2.2.2.1)).2),(madeA (at_ a.2.2 y87.1)))).2.2)).1,y87.1,(((runningA ((takeA (((reportA (y87.2.1,(y87.2.2.1,y87.2.2.2.1,y87.2.2.2.2.1),y87.2.2.2.2.2.1)).2),(madeA (at_ a.2.2 y87.1)))).2.2)).1).length : Int),(0 : Int),((runningA ((takeA (((reportA (y87.2.1,(y87.2.2.1,y87.2.2.2.1,y87.2.2.2.2.1),y87.2.2.2.2.2.1)).2),(madeA (at_ a.2.2 y87.1)))).2.2)).2).1,(((runningA ((takeA (((reportA (y87.2.1,(y87.2.2.1,y87.2.2.2.1,y87.2.2.2.2.1),y87.2.2.2.2.2.1)).2),(madeA (at_ a.2.2 y87.1)))).2.2)).2).2.1).1,(((runningA ((takeA (((reportA (y87.2.1,(y87.2.2.1,y87.2.2.2.1,y87.2.2.2.2.1),y87.2.2.2.2.2.1)).2),(madeA (at_ a.2.2 y87.1)))).2.2)).2).2.1).2.1,(((runningA ((takeA (((reportA (y87.2.1,(y87.2.2.1,y87.2.2.2.1,y87.2.2.2.2.1),y87.2.2.2.2.2.1)).2),(madeA (at_ a.2.2 y87.1)))).2.2)).2).2.1).2.2,((runningA ((takeA (((reportA (y87.2.1,(y87.2.2.1,y87.2.2.2.1,y87.2.2.2.2.1),y87.2.2.2.2.2.1)).2),(madeA (at_ a.2.2 y87.1)))).2.2)).2).2.2,((at_ a.2.2 y87.1).2.2.1).1,((at_ a.2.2 y87.1).2.2.1).2.1,((at_ a.2.2 y87.1).2.2.1).2.2,(((reportA (y87.2.1,(y87.2.2.1,y87.2.2.2.1,y87.2.2.2.2.1),y87.2.2.2.2.2.1)).1).2).1,(((reportA (y87.2.1,(y87.2.2.1,y87.2.2.2.1,y87.2.2.2.2.1),y87.2.2.2.2.2.1)).1).2).2.1,(((reportA (y87.2.1,(y87.2.2.1,y87.2.2.2.1,y87.2.2.2.2.1),y87.2.2.2.2.2.1)).1).2).2.2)∧∀ y101 : (List (T_ar3_i64)) × (List (T_agent_Item)) × Int × Int × Int × ByteArray × Int × Int × Int × (List (T_agent_Item)) × Int × Int × Int × Int × Int × Int,I99 y101→((y101.2.2.2.2.1 < y101.2.2.2.1→((0 : Int)≤y101.2.2.2.2.1∧y101.2.2.2.2.1 < (y101.2.1.length : Int)∧(y101.1.length + 1≤1073741824∧(-9223372036854775808≤(y101.2.2.2.2.1 + (1 : Int))∧(y101.2.2.2.2.1 + (1 : Int))≤9223372036854775807∧(I99 (y101.1 ++ ([((at_ y101.2.1 y101.2.2.2.2.1).2.2.2)]),y101.2.1,y101.2.2.1,y101.2.2.2.1,(y101.2.2.2.2.1 + (1 : Int)),y101.2.2.2.2.2.1,y101.2.2.2.2.2.2.1,y101.2.2.2.2.2.2.2.1,y101.2.2.2.2.2.2.2.2.1,y101.2.2.2.2.2.2.2.2.2.1,y101.2.2.2.2.2.2.2.2.2.2.1,y101.2.2.2.2.2.2.2.2.2.2.2.1,y101.2.2.2.2.2.2.2.2.2.2.2.2.1,y101.2.2.2.2.2.2.2.2.2.2.2.2.2.1,y101.2.2.2.2.2.2.2.2.2.2.2.2.2.2.1,y101.2.2.2.2.2.2.2.2.2.2.2.2.2.2.2)∧μ100 (y101.1 ++ ([((at_ y101.2.1 y101.2.2.2.2.1).2.2.2)]),y101.2.1,y101.2.2.1,y101.2.2.2.1,(y101.2.2.2.2.1 + (1 : Int)),y101.2.2.2.2.2.1,y101.2.2.2.2.2.2.1,y101.2.2.2.2.2.2.2.1,y101.2.2.2.2.2.2.2.2.1,y101.2.2.2.2.2.2.2.2.2.1,y101.2.2.2.2.2.2.2.2.2.2.1,y101.2.2.2.2.2.2.2.2.2.2.2.1,y101.2.2.2.2.2.2.2.2.2.2.2.2.1,y101.2.2.2.2.2.2.2.2.2.2.2.2.2.1,y101.2.2.2.2.2.2.2.2.2.2.2.2.2.2.1,y101.2.2.2.2.2.2.2.2.2.2.2.2.2.2.2) < μ100 y101)))))∧(¬ (y101.2.2.2.2.1 < y101.2.2.2.1)→(L20 y101.1∧((¬ ((sumR (y101.1)).2) = (0 : Int)→(false = lawTrue a))∧(¬ (¬ ((sumR (y101.1)).2) = (0 : Int))→((¬ ((fitsR (((sumR (y101.1)).1),(y101.2.2.2.2.2.2.2.2.2.2.1,y101.2.2.2.2.2.2.2.2.2.2.2.1,y101.2.2.2.2.2.2.2.2.2.2.2.2.1))) = true)→(false = lawTrue a))∧(¬ (¬ ((fitsR (((sumR (y101.1)).1),(y101.2.2.2.2.2.2.2.2.2.2.1,y101.2.2.2.2.2.2.2.2.2.2.2.1,y101.2.2.2.2.2.2.2.2.2.2.2.2.1))) = true))→(((cmpS ((((reportA (y101.2.2.2.2.2.1,(y101.2.2.2.2.2.2.1,y101.2.2.2.2.2.2.2.1,y101.2.2.2.2.2.2.2.2.1),y101.2.2.2.2.2.2.2.2.2.1)).1).2),y101.2.2.2.2.2.2.2.2.2.2.2.2.2)) < (0 : Int)→(false = lawTrue a))∧(¬ ((cmpS ((((reportA (y101.2.2.2.2.2.1,(y101.2.2.2.2.2.2.1,y101.2.2.2.2.2.2.2.1,y101.2.2.2.2.2.2.2.2.1),y101.2.2.2.2.2.2.2.2.2.1)).1).2),y101.2.2.2.2.2.2.2.2.2.2.2.2.2)) < (0 : Int))→(-9223372036854775808≤(y101.2.2.1 + (1 : Int))∧(y101.2.2.1 + (1 : Int))≤9223372036854775807∧(I85 ((y101.2.2.1 + (1 : Int)),((reportA (y101.2.2.2.2.2.1,(y101.2.2.2.2.2.2.1,y101.2.2.2.2.2.2.2.1,y101.2.2.2.2.2.2.2.2.1),y101.2.2.2.2.2.2.2.2.2.1)).2).1,(((reportA (y101.2.2.2.2.2.1,(y101.2.2.2.2.2.2.1,y101.2.2.2.2.2.2.2.1,y101.2.2.2.2.2.2.2.2.1),y101.2.2.2.2.2.2.2.2.2.1)).2).2.1).1,(((reportA (y101.2.2.2.2.2.1,(y101.2.2.2.2.2.2.1,y101.2.2.2.2.2.2.2.1,y101.2.2.2.2.2.2.2.2.1),y101.2.2.2.2.2.2.2.2.2.1)).2).2.1).2.1,(((reportA (y101.2.2.2.2.2.1,(y101.2.2.2.2.2.2.1,y101.2.2.2.2.2.2.2.1,y101.2.2.2.2.2.2.2.2.1),y101.2.2.2.2.2.2.2.2.2.1)).2).2.1).2.2,((reportA (y101.2.2.2.2.2.1,(y101.2.2.2.2.2.2.1,y101.2.2.2.2.2.2.2.1,y101.2.2.2.2.2.2.2.2.1),y101.2.2.2.2.2.2.2.2.2.1)).2).2.2,y101.2.2.2.2.2.2.2.2.2.2.1,y101.2.2.2.2.2.2.2.2.2.2.2.1,y101.2.2.2.2.2.2.2.2.2.2.2.2.1)∧μ86 ((y101.2.2.1 + (1 : Int)),((reportA (y101.2.2.2.2.2.1,(y101.2.2.2.2.2.2.1,y101.2.2.2.2.2.2.2.1,y101.2.2.2.2.2.2.2.2.1),y101.2.2.2.2.2.2.2.2.2.1)).2).1,(((reportA (y101.2.2.2.2.2.1,(y101.2.2.2.2.2.2.1,y101.2.2.2.2.2.2.2.1,y101.2.2.2.2.2.2.2.2.1),y101.2.2.2.2.2.2.2.2.2.1)).2).2.1).1,(((reportA (y101.2.2.2.2.2.1,(y101.2.2.2.2.2.2.1,y101.2.2.2.2.2.2.2.1,y101.2.2.2.2.2.2.2.2.1),y101.2.2.2.2.2.2.2.2.2.1)).2).2.1).2.1,(((reportA (y101.2.2.2.2.2.1,(y101.2.2.2.2.2.2.1,y101.2.2.2.2.2.2.2.1,y101.2.2.2.2.2.2.2.2.1),y101.2.2.2.2.2.2.2.2.2.1)).2).2.1).2.2,((reportA (y101.2.2.2.2.2.1,(y101.2.2.2.2.2.2.1,y101.2.2.2.2.2.2.2.1,y101.2.2.2.2.2.2.2.2.1),y101.2.2.2.2.2.2.2.2.2.1)).2).2.2,y101.2.2.2.2.2.2.2.2.2.2.1,y101.2.2.2.2.2.2.2.2.2.2.2.1,y101.2.2.2.2.2.2.2.2.2.2.2.2.1) < μ86 y87)))))))))))))))∧(¬ (((takeA (((reportA (y87.2.1,(y87.2.2.1,y87.2.2.2.1,y87.2.2.2.2.1),y87.2.2.2.2.2.1)).2),(madeA (at_ a.2.2 y87.1)))).2.1) = (0 : Int))→(runA_pre ((takeA (((reportA (y87.2.1,(y87.2.2.1,y87.2.2.2.1,y87.2.2.2.2.1),y87.2.2.2.2.2.1)).2),(madeA (at_ a.2.2 y87.1)))).2.2)∧(∃ (I150 : ((List (T_ar3_i64)) × (List (T_agent_Item)) × Int × Int × Int × ByteArray × Int × Int × Int × (List (T_agent_Item)) × Int × Int × Int × Int × Int × Int)→Prop) (μ151 : ((List (T_ar3_i64)) × (List (T_agent_Item)) × Int × Int × Int × ByteArray × Int × Int × Int × (List (T_agent_Item)) × Int × Int × Int × Int × Int × Int)→Nat),I150 ([],(runningA ((takeA (((reportA (y87.2.1,(y87.2.2.1,y87.2.2.2.1,y87.2.2.2.2.1),y87.2.2.2.2.2.1)).2),(madeA (at_ a.2.2 y87.1)))).2.2)).1,y87.1,(((runningA ((takeA (((reportA (y87.2.1,(y87.2.2.1,y87.2.2.2.1,y87.2.2.2.2.1),y87.2.2.2.2.2.1)).2),(madeA (at_ a.2.2 y87.1)))).2.2)).1).length : Int),(0 : Int),((runningA ((takeA (((reportA (y87.2.1,(y87.2.2.1,y87.2.2.2.1,y87.2.2.2.2.1),y87.2.2.2.2.2.1)).2),(madeA (at_ a.2.2 y87.1)))).2.2)).2).1,(((runningA ((takeA (((reportA (y87.2.1,(y87.2.2.1,y87.2.2.2.1,y87.2.2.2.2.1),y87.2.2.2.2.2.1)).2),(madeA (at_ a.2.2 y87.1)))).2.2)).2).2.1).1,(((runningA ((takeA (((reportA (y87.2.1,(y87.2.2.1,y87.2.2.2.1,y87.2.2.2.2.1),y87.2.2.2.2.2.1)).2),(madeA (at_ a.2.2 y87.1)))).2.2)).2).2.1).2.1,(((runningA ((takeA (((reportA (y87.2.1,(y87.2.2.1,y87.2.2.2.1,y87.2.2.2.2.1),y87.2.2.2.2.2.1)).2),(madeA (at_ a.2.2 y87.1)))).2.2)).2).2.1).2.2,((runningA ((takeA (((reportA (y87.2.1,(y87.2.2.1,y87.2.2.2.1,y87.2.2.2.2.1),y87.2.2.2.2.2.1)).2),(madeA (at_ a.2.2 y87.1)))).2.2)).2).2.2,y87.2.2.2.2.2.2.1,y87.2.2.2.2.2.2.2.1,y87.2.2.2.2.2.2.2.2,(((reportA (y87.2.1,(y87.2.2.1,y87.2.2.2.1,y87.2.2.2.2.1),y87.2.2.2.2.2.1)).1).2).1,(((reportA (y87.2.1,(y87.2.2.1,y87.2.2.2.1,y87.2.2.2.2.1),y87.2.2.2.2.2.1)).1).2).2.1,(((reportA (y87.2.1,(y87.2.2.1,y87.2.2.2.1,y87.2.2.2.2.1),y87.2.2.2.2.2.1)).1).2).2.2)∧∀ y152 : (List (T_ar3_i64)) × (List (T_agent_Item)) × Int × Int × Int × ByteArray × Int × Int × Int × (List (T_agent_Item)) × Int × Int × Int × Int × Int × Int,I150 y152→((y152.2.2.2.2.1 < y152.2.2.2.1→((0 : Int)≤y152.2.2.2.2.1∧y152.2.2.2.2.1 < (y152.2.1.length : Int)∧(y152.1.length + 1≤1073741824∧(-9223372036854775808≤(y152.2.2.2.2.1 + (1 : Int))∧(y152.2.2.2.2.1 + (1 : Int))≤9223372036854775807∧(I150 (y152.1 ++ ([((at_ y152.2.1 y152.2.2.2.2.1).2.2.2)]),y152.2.1,y152.2.2.1,y152.2.2.2.1,(y152.2.2.2.2.1 + (1 : Int)),y152.2.2.2.2.2.1,y152.2.2.2.2.2.2.1,y152.2.2.2.2.2.2.2.1,y152.2.2.2.2.2.2.2.2.1,y152.2.2.2.2.2.2.2.2.2.1,y152.2.2.2.2.2.2.2.2.2.2.1,y152.2.2.2.2.2.2.2.2.2.2.2.1,y152.2.2.2.2.2.2.2.2.2.2.2.2.1,y152.2.2.2.2.2.2.2.2.2.2.2.2.2.1,y152.2.2.2.2.2.2.2.2.2.2.2.2.2.2.1,y152.2.2.2.2.2.2.2.2.2.2.2.2.2.2.2)∧μ151 (y152.1 ++ ([((at_ y152.2.1 y152.2.2.2.2.1).2.2.2)]),y152.2.1,y152.2.2.1,y152.2.2.2.1,(y152.2.2.2.2.1 + (1 : Int)),y152.2.2.2.2.2.1,y152.2.2.2.2.2.2.1,y152.2.2.2.2.2.2.2.1,y152.2.2.2.2.2.2.2.2.1,y152.2.2.2.2.2.2.2.2.2.1,y152.2.2.2.2.2.2.2.2.2.2.1,y152.2.2.2.2.2.2.2.2.2.2.2.1,y152.2.2.2.2.2.2.2.2.2.2.2.2.1,y152.2.2.2.2.2.2.2.2.2.2.2.2.2.1,y152.2.2.2.2.2.2.2.2.2.2.2.2.2.2.1,y152.2.2.2.2.2.2.2.2.2.2.2.2.2.2.2) < μ151 y152)))))∧(¬ (y152.2.2.2.2.1 < y152.2.2.2.1)→(L20 y152.1∧((¬ ((sumR (y152.1)).2) = (0 : Int)→(false = lawTrue a))∧(¬ (¬ ((sumR (y152.1)).2) = (0 : Int))→((¬ ((fitsR (((sumR (y152.1)).1),(y152.2.2.2.2.2.2.2.2.2.2.1,y152.2.2.2.2.2.2.2.2.2.2.2.1,y152.2.2.2.2.2.2.2.2.2.2.2.2.1))) = true)→(false = lawTrue a))∧(¬ (¬ ((fitsR (((sumR (y152.1)).1),(y152.2.2.2.2.2.2.2.2.2.2.1,y152.2.2.2.2.2.2.2.2.2.2.2.1,y152.2.2.2.2.2.2.2.2.2.2.2.2.1))) = true))→(((cmpS ((((reportA (y152.2.2.2.2.2.1,(y152.2.2.2.2.2.2.1,y152.2.2.2.2.2.2.2.1,y152.2.2.2.2.2.2.2.2.1),y152.2.2.2.2.2.2.2.2.2.1)).1).2),y152.2.2.2.2.2.2.2.2.2.2.2.2.2)) < (0 : Int)→(false = lawTrue a))∧(¬ ((cmpS ((((reportA (y152.2.2.2.2.2.1,(y152.2.2.2.2.2.2.1,y152.2.2.2.2.2.2.2.1,y152.2.2.2.2.2.2.2.2.1),y152.2.2.2.2.2.2.2.2.2.1)).1).2),y152.2.2.2.2.2.2.2.2.2.2.2.2.2)) < (0 : Int))→(-9223372036854775808≤(y152.2.2.1 + (1 : Int))∧(y152.2.2.1 + (1 : Int))≤9223372036854775807∧(I85 ((y152.2.2.1 + (1 : Int)),((reportA (y152.2.2.2.2.2.1,(y152.2.2.2.2.2.2.1,y152.2.2.2.2.2.2.2.1,y152.2.2.2.2.2.2.2.2.1),y152.2.2.2.2.2.2.2.2.2.1)).2).1,(((reportA (y152.2.2.2.2.2.1,(y152.2.2.2.2.2.2.1,y152.2.2.2.2.2.2.2.1,y152.2.2.2.2.2.2.2.2.1),y152.2.2.2.2.2.2.2.2.2.1)).2).2.1).1,(((reportA (y152.2.2.2.2.2.1,(y152.2.2.2.2.2.2.1,y152.2.2.2.2.2.2.2.1,y152.2.2.2.2.2.2.2.2.1),y152.2.2.2.2.2.2.2.2.2.1)).2).2.1).2.1,(((reportA (y152.2.2.2.2.2.1,(y152.2.2.2.2.2.2.1,y152.2.2.2.2.2.2.2.1,y152.2.2.2.2.2.2.2.2.1),y152.2.2.2.2.2.2.2.2.2.1)).2).2.1).2.2,((reportA (y152.2.2.2.2.2.1,(y152.2.2.2.2.2.2.1,y152.2.2.2.2.2.2.2.1,y152.2.2.2.2.2.2.2.2.1),y152.2.2.2.2.2.2.2.2.2.1)).2).2.2,y152.2.2.2.2.2.2.2.2.2.2.1,y152.2.2.2.2.2.2.2.2.2.2.2.1,y152.2.2.2.2.2.2.2.2.2.2.2.2.1)∧μ86 ((y152.2.2.1 + (1 : Int)),((reportA (y152.2.2.2.2.2.1,(y152.2.2.2.2.2.2.1,y152.2.2.2.2.2.2.2.1,y152.2.2.2.2.2.2.2.2.1),y152.2.2.2.2.2.2.2.2.2.1)).2).1,(((reportA (y152.2.2.2.2.2.1,(y152.2.2.2.2.2.2.1,y152.2.2.2.2.2.2.2.1,y152.2.2.2.2.2.2.2.2.1),y152.2.2.2.2.2.2.2.2.2.1)).2).2.1).1,(((reportA (y152.2.2.2.2.2.1,(y152.2.2.2.2.2.2.1,y152.2.2.2.2.2.2.2.1,y152.2.2.2.2.2.2.2.2.1),y152.2.2.2.2.2.2.2.2.2.1)).2).2.1).2.1,(((reportA (y152.2.2.2.2.2.1,(y152.2.2.2.2.2.2.1,y152.2.2.2.2.2.2.2.1,y152.2.2.2.2.2.2.2.2.1),y152.2.2.2.2.2.2.2.2.2.1)).2).2.1).2.2,((reportA (y152.2.2.2.2.2.1,(y152.2.2.2.2.2.2.1,y152.2.2.2.2.2.2.2.1,y152.2.2.2.2.2.2.2.2.1),y152.2.2.2.2.2.2.2.2.2.1)).2).2.2,y152.2.2.2.2.2.2.2.2.2.2.1,y152.2.2.2.2.2.2.2.2.2.2.2.1,y152.2.2.2.2.2.2.2.2.2.2.2.2.1) < μ86 y87)))))))))))))))))))∧(¬ (y87.1 < (a.2.2.length : Int))→(true = lawTrue a))))))))))))))))))
set_option maxRecDepth 100000 in
set_option maxHeartbeats 2000000 in
theorem f332.of (a : T_api_State × T_ar3_i64 × (List (T_interregnumref24_Order))) (h : f332.vc a) : f332.tree a := ⟨(),⟨trivial,br h (Cnd.not Cnd.b) (fun h2 k225 => ⟨(),⟨trivial,⟨k225,trivial⟩⟩⟩) (fun h3 k226 => ⟨a.2.2,slQ (Rds.self (enc := e_interregnumref24_Order)) (⟨k226.1,br k226.2 (Cnd.not Cnd.b) (fun h8 k222 => ⟨(),⟨trivial,⟨k222,trivial⟩⟩⟩) (fun h9 k223 => br k223 Cnd.dec (fun h13 k220 => ⟨(),⟨trivial,⟨k220,trivial⟩⟩⟩) (fun h14 k221 => br k221 Cnd.dec (fun h18 k218 => ⟨(),⟨trivial,⟨k218,trivial⟩⟩⟩) (fun h19 k219 => br k219 Cnd.dec (fun h23 k216 => ⟨(),⟨trivial,⟨k216,trivial⟩⟩⟩) (fun h24 k217 => Exists.elim k217 (fun I29 h213_ => Exists.elim h213_ (fun μ30 h213 => ⟨I29,μ30,⟨(0 : Int),SlS.mk  (⟨rfl,⟨rfl,⟨rfl,⟨rfl,SlS.mk  (SlS.mk  (SlS.mk  (⟨rfl,⟨rfl,⟨rfl,h213.1⟩⟩⟩)))⟩⟩⟩⟩)⟩,fun y31 h215 => br (h213.2 y31 h215) Cnd.dec (fun h32 k211 => chk k211.2.2 Cnd.ix ⟨k211.1,k211.2.1⟩ (fun h34 k82 => ⟨(a.1,((at_ a.1.2.2.1 y31).1).1,a.2.1),⟨rfl,⟨rfl,slQ (Rds.self (enc := e_api_Machine)) (slQ (Rds.self (enc := e_api_Queue)) (slQ (Rds.self (enc := e_api_Job)) (⟨rfl,⟨rfl,⟨rfl,⟨rfl,⟨k82.1,br k82.2 Cnd.eq (fun h36 k79 => ⟨((ofA (a.1,((at_ a.1.2.2.1 y31).1).1,a.2.1)).1),⟨rfl,⟨rfl,⟨rfl,⟨rfl,⟨rfl,⟨rfl,⟨rfl,slQ (Rds.self (enc := e_agent_Item)) (⟨k79.1,br k79.2 (Cnd.not Cnd.b) (fun h39 k59 => ⟨k59,trivial⟩) (fun h40 k60 => brF Cnd.ne (fun hn => hn h36) (wrapK.i64 k60 (fun h56 h57 k58 => ⟨(y31 + (1 : Int)),SlS.mk  (⟨rfl,⟨rfl,⟨rfl,⟨rfl,SlS.mk  (SlS.mk  (SlS.mk  (⟨rfl,⟨rfl,⟨rfl,k58⟩⟩⟩)))⟩⟩⟩⟩)⟩)))⟩)⟩⟩⟩⟩⟩⟩⟩⟩) (fun h37 k80 => brT Cnd.ne h37 (br k80 Cnd.ne (fun h62 k71 => ⟨k71,trivial⟩) (fun h63 k72 => wrapK.i64 k72 (fun h68 h69 k70 => ⟨(y31 + (1 : Int)),SlS.mk  (⟨rfl,⟨rfl,⟨rfl,⟨rfl,SlS.mk  (SlS.mk  (SlS.mk  (⟨rfl,⟨rfl,⟨rfl,k70⟩⟩⟩)))⟩⟩⟩⟩)⟩))))⟩⟩⟩⟩⟩)))⟩⟩⟩)) (fun h33 k212 => ⟨f332.s0,⟨rfl,⟨trivial,Exists.elim k212 (fun I85 h207_ => Exists.elim h207_ (fun μ86 h207 => ⟨I85,μ86,⟨((0 : Int),(newA (f332.s0)).1,((newA (f332.s0)).2.1).1,((newA (f332.s0)).2.1).2.1,((newA (f332.s0)).2.1).2.2,(newA (f332.s0)).2.2,(0 : Int),(0 : Int),(0 : Int)),SlS.mk  (⟨rfl,⟨rfl,⟨rfl,⟨rfl,⟨rfl,⟨rfl,slQ (Rds.self (enc := e_agent_Item)) (⟨rfl,⟨rfl,⟨rfl,h207.1⟩⟩⟩)⟩⟩⟩⟩⟩⟩)⟩,fun y87 h209 => br (h207.2 y87 h209) Cnd.dec (fun h88 k205 => ⟨(y87.2.1,(y87.2.2.1,y87.2.2.2.1,y87.2.2.2.2.1),y87.2.2.2.2.2.1),⟨rfl,⟨rfl,⟨rfl,⟨rfl,slQ (Rds.self (enc := e_agent_Item)) (⟨trivial,chk k205.2.2 Cnd.ix ⟨k205.1,k205.2.1⟩ (fun h91 k202 => ⟨(at_ a.2.2 y87.1),⟨rfl,⟨rfl,⟨rfl,⟨rfl,⟨rfl,⟨rfl,⟨rfl,slQ (Rds.self (enc := e_interregnumref24_Item)) (⟨k202.1,⟨(((reportA (y87.2.1,(y87.2.2.1,y87.2.2.2.1,y87.2.2.2.2.1),y87.2.2.2.2.2.1)).2),(madeA (at_ a.2.2 y87.1))),⟨rfl,⟨rfl,⟨rfl,⟨rfl,⟨rfl,⟨rfl,⟨rfl,slQ (Rds.self (enc := e_agent_Item)) (⟨rfl,⟨rfl,⟨rfl,⟨rfl,slQ (Rds.self (enc := e_agent_Item)) (⟨k202.2.1,br k202.2.2 Cnd.eq (fun h94 k198 => chk k198.2.2 Cnd.ix ⟨k198.1,k198.2.1⟩ (fun h96 k147 => ⟨((takeA (((reportA (y87.2.1,(y87.2.2.1,y87.2.2.2.1,y87.2.2.2.2.1),y87.2.2.2.2.2.1)).2),(madeA (at_ a.2.2 y87.1)))).2.2),⟨rfl,⟨rfl,⟨rfl,⟨rfl,slQ (Rds.self (enc := e_agent_Item)) (⟨k147.1,Exists.elim k147.2 (fun I99 h143_ => Exists.elim h143_ (fun μ100 h143 => ⟨I99,μ100,⟨([],(runningA ((takeA (((reportA (y87.2.1,(y87.2.2.1,y87.2.2.2.1,y87.2.2.2.2.1),y87.2.2.2.2.2.1)).2),(madeA (at_ a.2.2 y87.1)))).2.2)).1,y87.1,(((runningA ((takeA (((reportA (y87.2.1,(y87.2.2.1,y87.2.2.2.1,y87.2.2.2.2.1),y87.2.2.2.2.2.1)).2),(madeA (at_ a.2.2 y87.1)))).2.2)).1).length : Int),(0 : Int),((runningA ((takeA (((reportA (y87.2.1,(y87.2.2.1,y87.2.2.2.1,y87.2.2.2.2.1),y87.2.2.2.2.2.1)).2),(madeA (at_ a.2.2 y87.1)))).2.2)).2).1,(((runningA ((takeA (((reportA (y87.2.1,(y87.2.2.1,y87.2.2.2.1,y87.2.2.2.2.1),y87.2.2.2.2.2.1)).2),(madeA (at_ a.2.2 y87.1)))).2.2)).2).2.1).1,(((runningA ((takeA (((reportA (y87.2.1,(y87.2.2.1,y87.2.2.2.1,y87.2.2.2.2.1),y87.2.2.2.2.2.1)).2),(madeA (at_ a.2.2 y87.1)))).2.2)).2).2.1).2.1,(((runningA ((takeA (((reportA (y87.2.1,(y87.2.2.1,y87.2.2.2.1,y87.2.2.2.2.1),y87.2.2.2.2.2.1)).2),(madeA (at_ a.2.2 y87.1)))).2.2)).2).2.1).2.2,((runningA ((takeA (((reportA (y87.2.1,(y87.2.2.1,y87.2.2.2.1,y87.2.2.2.2.1),y87.2.2.2.2.2.1)).2),(madeA (at_ a.2.2 y87.1)))).2.2)).2).2.2,((at_ a.2.2 y87.1).2.2.1).1,((at_ a.2.2 y87.1).2.2.1).2.1,((at_ a.2.2 y87.1).2.2.1).2.2,(((reportA (y87.2.1,(y87.2.2.1,y87.2.2.2.1,y87.2.2.2.2.1),y87.2.2.2.2.2.1)).1).2).1,(((reportA (y87.2.1,(y87.2.2.1,y87.2.2.2.1,y87.2.2.2.2.1),y87.2.2.2.2.2.1)).1).2).2.1,(((reportA (y87.2.1,(y87.2.2.1,y87.2.2.2.1,y87.2.2.2.2.1),y87.2.2.2.2.2.1)).1).2).2.2),SlS.mk  (slQ (Rds.nil (enc := e_ar3_i64)) (slQ (Rds.self (enc := e_agent_Item)) (⟨rfl,⟨rfl,⟨rfl,⟨rfl,⟨rfl,⟨rfl,⟨rfl,⟨rfl,slQ (Rds.self (enc := e_agent_Item)) (⟨rfl,⟨rfl,⟨rfl,⟨rfl,⟨rfl,⟨rfl,⟨(numR gnil (Rds.nil (enc := e_ar3_i64))),h143.1⟩⟩⟩⟩⟩⟩⟩)⟩⟩⟩⟩⟩⟩⟩⟩)))⟩,fun y101 h145 => br (h143.2 y101 h145) Cnd.dec (fun h102 k141 => chk k141.2.2 Cnd.ix ⟨k141.1,k141.2.1⟩ (fun h104 k111 => ⟨⟨rfl,(room_of k111.1 (by decide))⟩,wrapK.i64 k111.2 (fun h108 h109 k110 => ⟨(y101.1 ++ ([((at_ y101.2.1 y101.2.2.2.2.1).2.2.2)]),y101.2.1,y101.2.2.1,y101.2.2.2.1,(y101.2.2.2.2.1 + (1 : Int)),y101.2.2.2.2.2.1,y101.2.2.2.2.2.2.1,y101.2.2.2.2.2.2.2.1,y101.2.2.2.2.2.2.2.2.1,y101.2.2.2.2.2.2.2.2.2.1,y101.2.2.2.2.2.2.2.2.2.2.1,y101.2.2.2.2.2.2.2.2.2.2.2.1,y101.2.2.2.2.2.2.2.2.2.2.2.2.1,y101.2.2.2.2.2.2.2.2.2.2.2.2.2.1,y101.2.2.2.2.2.2.2.2.2.2.2.2.2.2.1,y101.2.2.2.2.2.2.2.2.2.2.2.2.2.2.2),SlS.mk  (slQ (Rds.app (enc := e_ar3_i64) (Rds.self (enc := e_ar3_i64)) (Rds.one (enc := e_ar3_i64) (DEqs.refl _))) (slQ (Rds.self (enc := e_agent_Item)) (⟨rfl,⟨rfl,⟨rfl,⟨rfl,⟨rfl,⟨rfl,⟨rfl,⟨rfl,slQ (Rds.self (enc := e_agent_Item)) (⟨rfl,⟨rfl,⟨rfl,⟨rfl,⟨rfl,⟨rfl,⟨(numR (gapp (gl e_ar3_i64 y101.1) y101.1.length (fun _ => [.int .i64 (((at_ y101.2.1 y101.2.2.2.2.1).2.2.2).1),.int .i64 (((at_ y101.2.1 y101.2.2.2.2.1).2.2.2).2.1),.int .i64 (((at_ y101.2.1 y101.2.2.2.2.1).2.2.2).2.2)])) (Rds.app (enc := e_ar3_i64) (Rds.self (enc := e_ar3_i64)) (Rds.one (enc := e_ar3_i64) (DEqs.refl _)))),k110⟩⟩⟩⟩⟩⟩⟩)⟩⟩⟩⟩⟩⟩⟩⟩)))⟩)⟩)) (fun h103 k142 => ⟨y101.1,slQ (Rds.self (enc := e_ar3_i64)) (⟨k142.1,⟨br k142.2 Cnd.ne (fun h113 k138 => ⟨k138,trivial⟩) (fun h114 k139 => ⟨(((sumR (y101.1)).1),(y101.2.2.2.2.2.2.2.2.2.2.1,y101.2.2.2.2.2.2.2.2.2.2.2.1,y101.2.2.2.2.2.2.2.2.2.2.2.2.1)),⟨rfl,⟨rfl,⟨rfl,⟨rfl,⟨rfl,⟨rfl,⟨trivial,br k139 (Cnd.not Cnd.b) (fun h117 k135 => ⟨k135,trivial⟩) (fun h118 k136 => ⟨(y101.2.2.2.2.2.1,(y101.2.2.2.2.2.2.1,y101.2.2.2.2.2.2.2.1,y101.2.2.2.2.2.2.2.2.1),y101.2.2.2.2.2.2.2.2.2.1),⟨rfl,⟨rfl,⟨rfl,⟨rfl,slQ (Rds.self (enc := e_agent_Item)) (⟨trivial,⟨((((reportA (y101.2.2.2.2.2.1,(y101.2.2.2.2.2.2.1,y101.2.2.2.2.2.2.2.1,y101.2.2.2.2.2.2.2.2.1),y101.2.2.2.2.2.2.2.2.2.1)).1).2),y101.2.2.2.2.2.2.2.2.2.2.2.2.2),⟨rfl,⟨rfl,⟨rfl,⟨rfl,⟨rfl,⟨rfl,⟨trivial,br k136 Cnd.dec (fun h122 k131 => ⟨k131,trivial⟩) (fun h123 k132 => wrapK.i64 k132 (fun h128 h129 k130 => ⟨((y101.2.2.1 + (1 : Int)),((reportA (y101.2.2.2.2.2.1,(y101.2.2.2.2.2.2.1,y101.2.2.2.2.2.2.2.1,y101.2.2.2.2.2.2.2.2.1),y101.2.2.2.2.2.2.2.2.2.1)).2).1,(((reportA (y101.2.2.2.2.2.1,(y101.2.2.2.2.2.2.1,y101.2.2.2.2.2.2.2.1,y101.2.2.2.2.2.2.2.2.1),y101.2.2.2.2.2.2.2.2.2.1)).2).2.1).1,(((reportA (y101.2.2.2.2.2.1,(y101.2.2.2.2.2.2.1,y101.2.2.2.2.2.2.2.1,y101.2.2.2.2.2.2.2.2.1),y101.2.2.2.2.2.2.2.2.2.1)).2).2.1).2.1,(((reportA (y101.2.2.2.2.2.1,(y101.2.2.2.2.2.2.1,y101.2.2.2.2.2.2.2.1,y101.2.2.2.2.2.2.2.2.1),y101.2.2.2.2.2.2.2.2.2.1)).2).2.1).2.2,((reportA (y101.2.2.2.2.2.1,(y101.2.2.2.2.2.2.1,y101.2.2.2.2.2.2.2.1,y101.2.2.2.2.2.2.2.2.1),y101.2.2.2.2.2.2.2.2.2.1)).2).2.2,y101.2.2.2.2.2.2.2.2.2.2.1,y101.2.2.2.2.2.2.2.2.2.2.2.1,y101.2.2.2.2.2.2.2.2.2.2.2.2.1),SlS.mk  (⟨rfl,⟨rfl,⟨rfl,⟨rfl,⟨rfl,⟨rfl,slQ (Rds.self (enc := e_agent_Item)) (⟨rfl,⟨rfl,⟨rfl,k130⟩⟩⟩)⟩⟩⟩⟩⟩⟩)⟩))⟩⟩⟩⟩⟩⟩⟩⟩⟩)⟩⟩⟩⟩⟩)⟩⟩⟩⟩⟩⟩⟩⟩),br k142.2 Cnd.ne (fun h113 k138 => ⟨k138,trivial⟩) (fun h114 k139 => ⟨(((sumR (y101.1)).1),(y101.2.2.2.2.2.2.2.2.2.2.1,y101.2.2.2.2.2.2.2.2.2.2.2.1,y101.2.2.2.2.2.2.2.2.2.2.2.2.1)),⟨rfl,⟨rfl,⟨rfl,⟨rfl,⟨rfl,⟨rfl,⟨trivial,br k139 (Cnd.not Cnd.b) (fun h117 k135 => ⟨k135,trivial⟩) (fun h118 k136 => ⟨(y101.2.2.2.2.2.1,(y101.2.2.2.2.2.2.1,y101.2.2.2.2.2.2.2.1,y101.2.2.2.2.2.2.2.2.1),y101.2.2.2.2.2.2.2.2.2.1),⟨rfl,⟨rfl,⟨rfl,⟨rfl,slQ (Rds.self (enc := e_agent_Item)) (⟨trivial,⟨((((reportA (y101.2.2.2.2.2.1,(y101.2.2.2.2.2.2.1,y101.2.2.2.2.2.2.2.1,y101.2.2.2.2.2.2.2.2.1),y101.2.2.2.2.2.2.2.2.2.1)).1).2),y101.2.2.2.2.2.2.2.2.2.2.2.2.2),⟨rfl,⟨rfl,⟨rfl,⟨rfl,⟨rfl,⟨rfl,⟨trivial,br k136 Cnd.dec (fun h122 k131 => ⟨k131,trivial⟩) (fun h123 k132 => wrapK.i64 k132 (fun h128 h129 k130 => ⟨((y101.2.2.1 + (1 : Int)),((reportA (y101.2.2.2.2.2.1,(y101.2.2.2.2.2.2.1,y101.2.2.2.2.2.2.2.1,y101.2.2.2.2.2.2.2.2.1),y101.2.2.2.2.2.2.2.2.2.1)).2).1,(((reportA (y101.2.2.2.2.2.1,(y101.2.2.2.2.2.2.1,y101.2.2.2.2.2.2.2.1,y101.2.2.2.2.2.2.2.2.1),y101.2.2.2.2.2.2.2.2.2.1)).2).2.1).1,(((reportA (y101.2.2.2.2.2.1,(y101.2.2.2.2.2.2.1,y101.2.2.2.2.2.2.2.1,y101.2.2.2.2.2.2.2.2.1),y101.2.2.2.2.2.2.2.2.2.1)).2).2.1).2.1,(((reportA (y101.2.2.2.2.2.1,(y101.2.2.2.2.2.2.1,y101.2.2.2.2.2.2.2.1,y101.2.2.2.2.2.2.2.2.1),y101.2.2.2.2.2.2.2.2.2.1)).2).2.1).2.2,((reportA (y101.2.2.2.2.2.1,(y101.2.2.2.2.2.2.1,y101.2.2.2.2.2.2.2.1,y101.2.2.2.2.2.2.2.2.1),y101.2.2.2.2.2.2.2.2.2.1)).2).2.2,y101.2.2.2.2.2.2.2.2.2.2.1,y101.2.2.2.2.2.2.2.2.2.2.2.1,y101.2.2.2.2.2.2.2.2.2.2.2.2.1),SlS.mk  (⟨rfl,⟨rfl,⟨rfl,⟨rfl,⟨rfl,⟨rfl,slQ (Rds.self (enc := e_agent_Item)) (⟨rfl,⟨rfl,⟨rfl,k130⟩⟩⟩)⟩⟩⟩⟩⟩⟩)⟩))⟩⟩⟩⟩⟩⟩⟩⟩⟩)⟩⟩⟩⟩⟩)⟩⟩⟩⟩⟩⟩⟩⟩)⟩⟩)⟩)⟩))⟩)⟩⟩⟩⟩⟩)) (fun h95 k199 => ⟨((takeA (((reportA (y87.2.1,(y87.2.2.1,y87.2.2.2.1,y87.2.2.2.2.1),y87.2.2.2.2.2.1)).2),(madeA (at_ a.2.2 y87.1)))).2.2),⟨rfl,⟨rfl,⟨rfl,⟨rfl,slQ (Rds.self (enc := e_agent_Item)) (⟨k199.1,Exists.elim k199.2 (fun I150 h194_ => Exists.elim h194_ (fun μ151 h194 => ⟨I150,μ151,⟨([],(runningA ((takeA (((reportA (y87.2.1,(y87.2.2.1,y87.2.2.2.1,y87.2.2.2.2.1),y87.2.2.2.2.2.1)).2),(madeA (at_ a.2.2 y87.1)))).2.2)).1,y87.1,(((runningA ((takeA (((reportA (y87.2.1,(y87.2.2.1,y87.2.2.2.1,y87.2.2.2.2.1),y87.2.2.2.2.2.1)).2),(madeA (at_ a.2.2 y87.1)))).2.2)).1).length : Int),(0 : Int),((runningA ((takeA (((reportA (y87.2.1,(y87.2.2.1,y87.2.2.2.1,y87.2.2.2.2.1),y87.2.2.2.2.2.1)).2),(madeA (at_ a.2.2 y87.1)))).2.2)).2).1,(((runningA ((takeA (((reportA (y87.2.1,(y87.2.2.1,y87.2.2.2.1,y87.2.2.2.2.1),y87.2.2.2.2.2.1)).2),(madeA (at_ a.2.2 y87.1)))).2.2)).2).2.1).1,(((runningA ((takeA (((reportA (y87.2.1,(y87.2.2.1,y87.2.2.2.1,y87.2.2.2.2.1),y87.2.2.2.2.2.1)).2),(madeA (at_ a.2.2 y87.1)))).2.2)).2).2.1).2.1,(((runningA ((takeA (((reportA (y87.2.1,(y87.2.2.1,y87.2.2.2.1,y87.2.2.2.2.1),y87.2.2.2.2.2.1)).2),(madeA (at_ a.2.2 y87.1)))).2.2)).2).2.1).2.2,((runningA ((takeA (((reportA (y87.2.1,(y87.2.2.1,y87.2.2.2.1,y87.2.2.2.2.1),y87.2.2.2.2.2.1)).2),(madeA (at_ a.2.2 y87.1)))).2.2)).2).2.2,y87.2.2.2.2.2.2.1,y87.2.2.2.2.2.2.2.1,y87.2.2.2.2.2.2.2.2,(((reportA (y87.2.1,(y87.2.2.1,y87.2.2.2.1,y87.2.2.2.2.1),y87.2.2.2.2.2.1)).1).2).1,(((reportA (y87.2.1,(y87.2.2.1,y87.2.2.2.1,y87.2.2.2.2.1),y87.2.2.2.2.2.1)).1).2).2.1,(((reportA (y87.2.1,(y87.2.2.1,y87.2.2.2.1,y87.2.2.2.2.1),y87.2.2.2.2.2.1)).1).2).2.2),SlS.mk  (slQ (Rds.nil (enc := e_ar3_i64)) (slQ (Rds.self (enc := e_agent_Item)) (⟨rfl,⟨rfl,⟨rfl,⟨rfl,⟨rfl,⟨rfl,⟨rfl,⟨rfl,slQ (Rds.self (enc := e_agent_Item)) (⟨rfl,⟨rfl,⟨rfl,⟨rfl,⟨rfl,⟨rfl,⟨(numR gnil (Rds.nil (enc := e_ar3_i64))),h194.1⟩⟩⟩⟩⟩⟩⟩)⟩⟩⟩⟩⟩⟩⟩⟩)))⟩,fun y152 h196 => br (h194.2 y152 h196) Cnd.dec (fun h153 k192 => chk k192.2.2 Cnd.ix ⟨k192.1,k192.2.1⟩ (fun h155 k162 => ⟨⟨rfl,(room_of k162.1 (by decide))⟩,wrapK.i64 k162.2 (fun h159 h160 k161 => ⟨(y152.1 ++ ([((at_ y152.2.1 y152.2.2.2.2.1).2.2.2)]),y152.2.1,y152.2.2.1,y152.2.2.2.1,(y152.2.2.2.2.1 + (1 : Int)),y152.2.2.2.2.2.1,y152.2.2.2.2.2.2.1,y152.2.2.2.2.2.2.2.1,y152.2.2.2.2.2.2.2.2.1,y152.2.2.2.2.2.2.2.2.2.1,y152.2.2.2.2.2.2.2.2.2.2.1,y152.2.2.2.2.2.2.2.2.2.2.2.1,y152.2.2.2.2.2.2.2.2.2.2.2.2.1,y152.2.2.2.2.2.2.2.2.2.2.2.2.2.1,y152.2.2.2.2.2.2.2.2.2.2.2.2.2.2.1,y152.2.2.2.2.2.2.2.2.2.2.2.2.2.2.2),SlS.mk  (slQ (Rds.app (enc := e_ar3_i64) (Rds.self (enc := e_ar3_i64)) (Rds.one (enc := e_ar3_i64) (DEqs.refl _))) (slQ (Rds.self (enc := e_agent_Item)) (⟨rfl,⟨rfl,⟨rfl,⟨rfl,⟨rfl,⟨rfl,⟨rfl,⟨rfl,slQ (Rds.self (enc := e_agent_Item)) (⟨rfl,⟨rfl,⟨rfl,⟨rfl,⟨rfl,⟨rfl,⟨(numR (gapp (gl e_ar3_i64 y152.1) y152.1.length (fun _ => [.int .i64 (((at_ y152.2.1 y152.2.2.2.2.1).2.2.2).1),.int .i64 (((at_ y152.2.1 y152.2.2.2.2.1).2.2.2).2.1),.int .i64 (((at_ y152.2.1 y152.2.2.2.2.1).2.2.2).2.2)])) (Rds.app (enc := e_ar3_i64) (Rds.self (enc := e_ar3_i64)) (Rds.one (enc := e_ar3_i64) (DEqs.refl _)))),k161⟩⟩⟩⟩⟩⟩⟩)⟩⟩⟩⟩⟩⟩⟩⟩)))⟩)⟩)) (fun h154 k193 => ⟨y152.1,slQ (Rds.self (enc := e_ar3_i64)) (⟨k193.1,⟨br k193.2 Cnd.ne (fun h164 k189 => ⟨k189,trivial⟩) (fun h165 k190 => ⟨(((sumR (y152.1)).1),(y152.2.2.2.2.2.2.2.2.2.2.1,y152.2.2.2.2.2.2.2.2.2.2.2.1,y152.2.2.2.2.2.2.2.2.2.2.2.2.1)),⟨rfl,⟨rfl,⟨rfl,⟨rfl,⟨rfl,⟨rfl,⟨trivial,br k190 (Cnd.not Cnd.b) (fun h168 k186 => ⟨k186,trivial⟩) (fun h169 k187 => ⟨(y152.2.2.2.2.2.1,(y152.2.2.2.2.2.2.1,y152.2.2.2.2.2.2.2.1,y152.2.2.2.2.2.2.2.2.1),y152.2.2.2.2.2.2.2.2.2.1),⟨rfl,⟨rfl,⟨rfl,⟨rfl,slQ (Rds.self (enc := e_agent_Item)) (⟨trivial,⟨((((reportA (y152.2.2.2.2.2.1,(y152.2.2.2.2.2.2.1,y152.2.2.2.2.2.2.2.1,y152.2.2.2.2.2.2.2.2.1),y152.2.2.2.2.2.2.2.2.2.1)).1).2),y152.2.2.2.2.2.2.2.2.2.2.2.2.2),⟨rfl,⟨rfl,⟨rfl,⟨rfl,⟨rfl,⟨rfl,⟨trivial,br k187 Cnd.dec (fun h173 k182 => ⟨k182,trivial⟩) (fun h174 k183 => wrapK.i64 k183 (fun h179 h180 k181 => ⟨((y152.2.2.1 + (1 : Int)),((reportA (y152.2.2.2.2.2.1,(y152.2.2.2.2.2.2.1,y152.2.2.2.2.2.2.2.1,y152.2.2.2.2.2.2.2.2.1),y152.2.2.2.2.2.2.2.2.2.1)).2).1,(((reportA (y152.2.2.2.2.2.1,(y152.2.2.2.2.2.2.1,y152.2.2.2.2.2.2.2.1,y152.2.2.2.2.2.2.2.2.1),y152.2.2.2.2.2.2.2.2.2.1)).2).2.1).1,(((reportA (y152.2.2.2.2.2.1,(y152.2.2.2.2.2.2.1,y152.2.2.2.2.2.2.2.1,y152.2.2.2.2.2.2.2.2.1),y152.2.2.2.2.2.2.2.2.2.1)).2).2.1).2.1,(((reportA (y152.2.2.2.2.2.1,(y152.2.2.2.2.2.2.1,y152.2.2.2.2.2.2.2.1,y152.2.2.2.2.2.2.2.2.1),y152.2.2.2.2.2.2.2.2.2.1)).2).2.1).2.2,((reportA (y152.2.2.2.2.2.1,(y152.2.2.2.2.2.2.1,y152.2.2.2.2.2.2.2.1,y152.2.2.2.2.2.2.2.2.1),y152.2.2.2.2.2.2.2.2.2.1)).2).2.2,y152.2.2.2.2.2.2.2.2.2.2.1,y152.2.2.2.2.2.2.2.2.2.2.2.1,y152.2.2.2.2.2.2.2.2.2.2.2.2.1),SlS.mk  (⟨rfl,⟨rfl,⟨rfl,⟨rfl,⟨rfl,⟨rfl,slQ (Rds.self (enc := e_agent_Item)) (⟨rfl,⟨rfl,⟨rfl,k181⟩⟩⟩)⟩⟩⟩⟩⟩⟩)⟩))⟩⟩⟩⟩⟩⟩⟩⟩⟩)⟩⟩⟩⟩⟩)⟩⟩⟩⟩⟩⟩⟩⟩),br k193.2 Cnd.ne (fun h164 k189 => ⟨k189,trivial⟩) (fun h165 k190 => ⟨(((sumR (y152.1)).1),(y152.2.2.2.2.2.2.2.2.2.2.1,y152.2.2.2.2.2.2.2.2.2.2.2.1,y152.2.2.2.2.2.2.2.2.2.2.2.2.1)),⟨rfl,⟨rfl,⟨rfl,⟨rfl,⟨rfl,⟨rfl,⟨trivial,br k190 (Cnd.not Cnd.b) (fun h168 k186 => ⟨k186,trivial⟩) (fun h169 k187 => ⟨(y152.2.2.2.2.2.1,(y152.2.2.2.2.2.2.1,y152.2.2.2.2.2.2.2.1,y152.2.2.2.2.2.2.2.2.1),y152.2.2.2.2.2.2.2.2.2.1),⟨rfl,⟨rfl,⟨rfl,⟨rfl,slQ (Rds.self (enc := e_agent_Item)) (⟨trivial,⟨((((reportA (y152.2.2.2.2.2.1,(y152.2.2.2.2.2.2.1,y152.2.2.2.2.2.2.2.1,y152.2.2.2.2.2.2.2.2.1),y152.2.2.2.2.2.2.2.2.2.1)).1).2),y152.2.2.2.2.2.2.2.2.2.2.2.2.2),⟨rfl,⟨rfl,⟨rfl,⟨rfl,⟨rfl,⟨rfl,⟨trivial,br k187 Cnd.dec (fun h173 k182 => ⟨k182,trivial⟩) (fun h174 k183 => wrapK.i64 k183 (fun h179 h180 k181 => ⟨((y152.2.2.1 + (1 : Int)),((reportA (y152.2.2.2.2.2.1,(y152.2.2.2.2.2.2.1,y152.2.2.2.2.2.2.2.1,y152.2.2.2.2.2.2.2.2.1),y152.2.2.2.2.2.2.2.2.2.1)).2).1,(((reportA (y152.2.2.2.2.2.1,(y152.2.2.2.2.2.2.1,y152.2.2.2.2.2.2.2.1,y152.2.2.2.2.2.2.2.2.1),y152.2.2.2.2.2.2.2.2.2.1)).2).2.1).1,(((reportA (y152.2.2.2.2.2.1,(y152.2.2.2.2.2.2.1,y152.2.2.2.2.2.2.2.1,y152.2.2.2.2.2.2.2.2.1),y152.2.2.2.2.2.2.2.2.2.1)).2).2.1).2.1,(((reportA (y152.2.2.2.2.2.1,(y152.2.2.2.2.2.2.1,y152.2.2.2.2.2.2.2.1,y152.2.2.2.2.2.2.2.2.1),y152.2.2.2.2.2.2.2.2.2.1)).2).2.1).2.2,((reportA (y152.2.2.2.2.2.1,(y152.2.2.2.2.2.2.1,y152.2.2.2.2.2.2.2.1,y152.2.2.2.2.2.2.2.2.1),y152.2.2.2.2.2.2.2.2.2.1)).2).2.2,y152.2.2.2.2.2.2.2.2.2.2.1,y152.2.2.2.2.2.2.2.2.2.2.2.1,y152.2.2.2.2.2.2.2.2.2.2.2.2.1),SlS.mk  (⟨rfl,⟨rfl,⟨rfl,⟨rfl,⟨rfl,⟨rfl,slQ (Rds.self (enc := e_agent_Item)) (⟨rfl,⟨rfl,⟨rfl,k181⟩⟩⟩)⟩⟩⟩⟩⟩⟩)⟩))⟩⟩⟩⟩⟩⟩⟩⟩⟩)⟩⟩⟩⟩⟩)⟩⟩⟩⟩⟩⟩⟩⟩)⟩⟩)⟩)⟩))⟩)⟩⟩⟩⟩⟩)⟩)⟩⟩⟩⟩)⟩⟩⟩⟩⟩⟩⟩⟩⟩)⟩⟩⟩⟩⟩⟩⟩⟩)⟩)⟩⟩⟩⟩⟩) (fun h89 k206 => ⟨k206,trivial⟩)⟩))⟩⟩⟩)⟩))))))⟩)⟩)⟩⟩
theorem f332.eq (a : T_api_State × T_ar3_i64 × (List (T_interregnumref24_Order))) : (f332.af a).gives f332.env (f332.args a) (f332.blks a) (f332.res a) (f332.blks' a) = f332.tree a := by kernel_rfl
end Go.Abs

/- The laws of layer 24 that reach states. -/
namespace Go.Abs
open Go

theorem job_of_size {j : TJob} (h : k_api_Job.size j ≤ 1048576) : job_pre j := by
  have h1 : k_api_Task.size j.1 + (1 + (j.2.2.1.size + 1 + 1)) + 1 ≤ 1048576 := h
  exact ⟨task_of_size (by omega),wants_of_size (t := j.1) (by omega),by unfold name_pre; omega⟩
theorem state_of_size {s : TState} (h : k_api_State.size s ≤ 1048576) : state_pre s := by
  have h : 1 + (1 + ((s.2.2.1.map k_api_Machine.size).sum + 1 + ((s.2.2.2.1.map k_api_Queue.size).sum + 1 + ((s.2.2.2.2.map k_api_Job.size).sum + 1)))) + 1 ≤ 1048576 := h
  have h1 := sum_len k_api_Machine.size (fun x => Nat.le_add_left 1 _) s.2.2.1
  have h2 := sum_len k_api_Queue.size (fun x => Nat.le_add_left 1 _) s.2.2.2.1
  have h3 := sum_len k_api_Job.size (fun x => Nat.le_add_left 1 _) s.2.2.2.2
  refine ⟨⟨by unfold L20; omega,fun m hm => ?_⟩,⟨by unfold L20; omega,fun q hq => ?_⟩,by unfold L20; omega,fun j hj => ?_⟩
  · have : k_api_Machine.size m ≤ (s.2.2.1.map k_api_Machine.size).sum := sum_mem _ hm
    exact mach_of_size (by omega)
  · have : k_api_Queue.size q ≤ (s.2.2.2.1.map k_api_Queue.size).sum := sum_mem _ hq
    exact queue_of_size (by omega)
  · have : k_api_Job.size j ≤ (s.2.2.2.2.map k_api_Job.size).sum := sum_mem _ hj
    exact job_of_size (by omega)

theorem of_items_len {s : TState} {n : ByteArray} {st : TRes} (h : state_pre s) : L20 (ofA (s,n,st)).1.2.2.2 := by
  have hl : s.2.2.2.2.length ≤ 1048576 := h.2.2.1
  by_cases h1 : stateB s = true
  · by_cases h2 : machR (s,n) < 0
    · rw [of_none h1 h2]; exact Nat.zero_le _
    · rw [of_val h1 h2]
      have := ofItems_len (l := s.2.2.2.2) (n := n) s.2.2.2.2.length
      rw [List.take_length] at this
      show (ofItems s.2.2.2.2 n).length ≤ 1048576
      omega
  · rw [of_bad h1]; exact Nat.zero_le _

theorem fits_of_free {m : TMach} {l : List TJob} (h : (freeR (m,l)).2 = 0) : (sumR (bindL l m.1.1)).2 = 0 ∧ fitsR ((sumR (bindL l m.1.1)).1,m.1.2.1) = true := by
  obtain ⟨h1,h2⟩ := free_ok.1 h
  obtain ⟨_,_,h3⟩ := sub_ok.1 h2
  refine ⟨h1,?_⟩
  obtain ⟨⟨a1,_⟩,⟨a2,_⟩,⟨a3,_⟩⟩ := rightB_iff.1 h3
  simp only [subV] at a1 a2 a3
  exact decide_eq_true (by simp only; exact ⟨by omega,by omega,by omega⟩)

theorem needs_ofItems (l : List TJob) (n : ByteArray) : needs (ofItems l n) = bindL l n := by
  simp [needs,ofItems,bindL,List.map_map,Function.comp_def]

theorem seq_ofItems {n : ByteArray} : ∀ (l : List TJob) (last : Int),l.Pairwise (fun x y => x.2.1 < y.2.1) → (∀ j ∈ l,last < j.2.1 ∧ nameB j.1.1 = true ∧ (j.2.2.1 = n → 1 ≤ j.2.2.2)) → seqB last (ofItems l n) = true
  | [],_,_,_ => rfl
  | j :: l,last,hp,h => by
    obtain ⟨h1,h2⟩ := List.pairwise_cons.1 hp
    obtain ⟨a1,a2,a3⟩ := h j (by simp)
    by_cases hn : j.2.2.1 = n
    · have e : ofItems (j :: l) n = (j.1.1,j.2.1,j.2.2.2,j.1.2.2.2.1) :: ofItems l n := by simp [ofItems,hn]
      rw [e]
      exact seq_cons.2 ⟨a2,a1,a3 hn,seq_ofItems l _ h2 fun k hk => ⟨h1 k hk,(h k (by simp [hk])).2⟩⟩
    · have e : ofItems (j :: l) n = ofItems l n := by simp [ofItems,hn]
      rw [e]
      exact seq_ofItems l _ h2 fun k hk => h k (by simp [hk])

theorem jobAt_get {s : TState} {i : Nat} (h : i < s.2.2.2.2.length) : jobAt s i = s.2.2.2.2[i] := by simp [jobAt,h]

theorem jobs_rise {s : TState} (h : ∀ i,i < s.2.2.2.2.length → jobOk s i = true) : ∀ k i : Nat,i < k → k < s.2.2.2.2.length → (jobAt s i).2.1 < (jobAt s k).2.1
  | 0,i,h1,_ => absurd h1 (Nat.not_lt_zero _)
  | k + 1,i,h1,h2 => by
    have h3 := (jobOk_iff.1 (h (k + 1) h2)).2.1.1
    rw [if_neg (Nat.succ_ne_zero k),Nat.add_sub_cancel] at h3
    by_cases hi : i = k
    · rw [hi]; exact h3
    · exact Int.lt_trans (jobs_rise h k i (by omega) (by omega)) h3

theorem name_task {t : TTask} (h : taskB t = true) : nameB t.1 = true := (taskB_iff.1 h).1

theorem of_right {s : TState} {n : ByteArray} {st : TRes} (h1 : stateB s = true) (h2 : ¬ machR (s,n) < 0) : ordB (ofA (s,n,st)).1 = true := by
  rw [of_val h1 h2]
  obtain ⟨m0,m1,m2⟩ := ixP_range _ _ h2
  obtain ⟨_,hM,_,hJ⟩ := stateB_iff.1 h1
  have hj := (jobsB_iff.1 hJ).1
  have hm := machOk_iff.1 ((machsB_iff.1 hM).1 (machR (s,n)).toNat (by have m1 : machR (s,n) < (s.2.2.1.length : Int) := m1; have m0 : 0 ≤ machR (s,n) := m0; omega))
  have hname : (at_ s.2.2.1 (machR (s,n))).1.1 = n := of_decide_eq_true m2
  obtain ⟨hn,_,_,hfree⟩ := hm
  have hn : nodeB (at_ s.2.2.1 (machR (s,n))).1 = true := hn
  have hfree : (freeR (at_ s.2.2.1 (machR (s,n)),s.2.2.2.2)).2 = 0 := hfree
  obtain ⟨f1,f2⟩ := fits_of_free hfree
  rw [hname] at f1 f2
  simp only [nodeB,Bool.and_eq_true] at hn
  obtain ⟨⟨n1,n2⟩,_⟩ := hn
  rw [hname] at n1
  have hne : ¬ n = ByteArray.empty := fun e => by rw [e] at n1; exact absurd n1 (by decide +kernel)
  have hpw : s.2.2.2.2.Pairwise (fun x y => x.2.1 < y.2.1) := List.pairwise_iff_getElem.2 fun i k hi hk hik => by
    have := jobs_rise hj k i hik hk
    rw [jobAt_get hi,jobAt_get hk] at this
    exact this
  have hall : ∀ j ∈ s.2.2.2.2,0 < j.2.1 ∧ nameB j.1.1 = true ∧ (j.2.2.1 = n → 1 ≤ j.2.2.2) := fun j hjm => by
    obtain ⟨i,hi,rfl⟩ := List.mem_iff_getElem.1 hjm
    have hk := jobOk_iff.1 (hj i hi)
    rw [jobAt_get hi] at hk
    obtain ⟨k1,k2,_,k4⟩ := hk
    refine ⟨?_,name_task k1,fun e => ?_⟩
    · by_cases h0 : i = 0
      · have := k2.1; rw [if_pos h0] at this; exact this
      · have h3 := jobs_rise hj i 0 (by omega) hi
        have h4 := (jobOk_iff.1 (hj 0 (by omega))).2.1.1
        rw [if_pos rfl] at h4
        rw [jobAt_get hi] at h3
        omega
    · rcases k4 with k4 | k4
      · exact absurd (e.symm.trans k4) hne
      · have := (standsN_iff.1 k4).2.2.1
        rw [jobAt_get hi] at this
        exact this
  have hnd : (s.2.2.2.2.map fun j => j.1.1).Nodup := by
    refine List.pairwise_map.2 (List.pairwise_iff_getElem.2 fun i k hi hk hik e => ?_)
    have e1 := (jobOk_iff.1 (hj i hi)).2.2.1.1
    have e2 := (jobOk_iff.1 (hj k hk)).2.2.1.1
    rw [jobAt_get hi] at e1
    rw [jobAt_get hk] at e2
    rw [e] at e1
    have := e1.symm.trans e2
    omega
  have hnd2 : ((ofItems s.2.2.2.2 n).map (·.1)).Nodup := by
    have e : (ofItems s.2.2.2.2 n).map (·.1) = (s.2.2.2.2.filter fun j => decide (j.2.2.1 = n)).map fun j => j.1.1 := by simp [ofItems,List.map_map,Function.comp_def]
    rw [e]
    exact (List.Sublist.map _ List.filter_sublist).nodup hnd
  unfold ordB
  simp only
  rw [n1,n2,seq_ofItems _ _ hpw hall,decide_eq_true hnd2,needs_ofItems,decide_eq_true f1,f2]
  rfl

theorem machR_found {s : TState} {i : Int} (h0 : 0 ≤ i) (h : i < (s.2.2.1.length : Int)) : ¬ machR (s,(at_ s.2.2.1 i).1.1) < 0 := by
  rw [machR_eq]
  unfold ixP
  cases e : s.2.2.1.findIdx? (fun m => isMach (m,(at_ s.2.2.1 i).1.1)) with
  | none =>
    rw [List.findIdx?_eq_none_iff] at e
    have := e _ (at_mem h0 h)
    simp [isMach] at this
  | some k => simp only; omega

theorem take_facts (g : TAg) (o : TOrd) : ((takeA (g,o)).2.1 = 0 → (takeA (g,o)).2.2.2.2 = o.2.2.2 ∧ ordB o = true) ∧ (¬ (takeA (g,o)).2.1 = 0 → (takeA (g,o)).2.2 = g) ∧ ¬ cmpS ((takeA (g,o)).2.2.2.1,g.2.1) < 0 := by
  unfold takeA
  simp only
  split
  · exact ⟨fun c => absurd (show (1 : Int) = 0 from c) (by decide),fun _ => rfl,by rw [cmp_self]; decide⟩
  · rename_i hc
    split
    · exact ⟨fun c => absurd (show (12 : Int) = 0 from c) (by decide),fun _ => rfl,by simp only; rw [cmp_self]; decide⟩
    · rename_i h2
      exact ⟨fun _ => ⟨rfl,(Classical.not_not.1 hc).1⟩,fun c => absurd rfl c,h2⟩

theorem ord_sum {o : TOrd} (h : ordB o = true) : (sumR (needs o.2.2.2)).2 = 0 ∧ fitsR ((sumR (needs o.2.2.2)).1,o.2.2.1) = true := by
  simp only [ordB,Bool.and_eq_true,decide_eq_true_eq] at h
  exact ⟨h.1.2,h.2⟩

theorem of_ord_pre {s : TState} {n : ByteArray} {st : TRes} (h : state_pre s) (hn : name_pre n) : ord_pre (ofA (s,n,st)).1 := by
  refine ⟨?_,of_items_len h,?_⟩
  · by_cases h1 : stateB s = true
    · by_cases h2 : machR (s,n) < 0
      · rw [of_none h1 h2]; exact Nat.zero_le _
      · rw [of_val h1 h2]; exact hn
    · rw [of_bad h1]; exact Nat.zero_le _
  · by_cases h1 : stateB s = true
    · by_cases h2 : machR (s,n) < 0
      · rw [of_none h1 h2]; intro x hx; cases hx
      · rw [of_val h1 h2]
        intro x hx
        obtain ⟨j,hj,rfl⟩ := List.mem_map.1 hx
        exact (h.2.2.2 _ (List.mem_filter.1 hj).1).1.1
    · rw [of_bad h1]; intro x hx; cases hx

theorem f332.ok (a : TState × TRes × List TOrd) (h : f332.lpre a) : f332.vc a := by
  obtain ⟨_,hs⟩ := h
  obtain ⟨s,st,l⟩ := a
  have hs : k_api_State.size s + (k_ar3_i64.size st + k_sl_interregnumref24_Order.size l) ≤ 1048576 := hs
  have hf := ords_of_size (l := l) (by omega)
  have hst := state_of_size (s := s) (by omega)
  have hl : l.length ≤ 1048576 := hf.1
  have hm : s.2.2.1.length ≤ 1048576 := hst.1.1
  unfold f332.vc
  simp only [lawTrue,madeA,reportA,runningA]
  refine ⟨fun _ => trivial,fun _ => ⟨hf,fun _ => trivial,fun _ => ⟨fun _ => trivial,fun _ => ⟨fun _ => trivial,fun _ => ⟨fun _ => trivial,fun _ => ?_⟩⟩⟩⟩⟩
  refine ⟨fun i => 0 ≤ i ∧ i ≤ (s.2.2.1.length : Int),fun i => s.2.2.1.length - i.toNat,⟨Int.le_refl _,by simp⟩,fun i hi => ?_⟩
  obtain ⟨g0,g1⟩ := hi
  refine ⟨fun hlt => ⟨g0,hlt,hst,fun e0 => ⟨of_ord_pre hst (hst.1.2 _ (at_mem g0 hlt)).1.1,fun c => ?_,fun _ => ⟨by omega,by omega,⟨by omega,by omega⟩,by simp only; omega⟩⟩,fun e0 => ⟨fun c => ?_,fun _ => ⟨by omega,by omega,⟨by omega,by omega⟩,by simp only; omega⟩⟩⟩,fun hge => ?_⟩
  · exfalso
    have hne := machR_found (s := s) g0 hlt
    by_cases h1 : stateB s = true
    · exact c (of_right h1 hne)
    · rw [of_bad h1] at e0
      exact absurd (show (1 : Int) = 0 from e0) (by decide)
  · exfalso
    have hne := machR_found (s := s) g0 hlt
    by_cases h1 : stateB s = true
    · rw [of_val h1 hne] at e0
      exact e0 rfl
    · rw [of_bad h1] at c
      exact c rfl
  · refine ⟨fun y => (0 ≤ y.1 ∧ y.1 ≤ (l.length : Int) ∧ L20 y.2.2.2.2.2.1) ∧ (sumR (needs y.2.2.2.2.2.1)).2 = 0 ∧ fitsR ((sumR (needs y.2.2.2.2.2.1)).1,y.2.2.2.2.2.2) = true,fun y => l.length - y.1.toNat,⟨⟨Int.le_refl _,by simp,Nat.zero_le _⟩,rfl,by decide +kernel⟩,fun y hy => ?_⟩
    obtain ⟨i,n,s1,s2,s3,it,c1,c2,c3⟩ := y
    simp only at hy
    obtain ⟨⟨i0,i1,i2⟩,hfit0⟩ := hy
    simp only
    refine ⟨fun il => ?_,fun _ => trivial⟩
    have ho := hf.2 _ (at_mem i0 il)
    obtain ⟨_,_,p3⟩ := take_props (n,(s1,s2,s3),it) (at_ l i) i2 ho
    obtain ⟨t1,t2,t3⟩ := take_facts (n,(s1,s2,s3),it) (at_ l i)
    generalize takeA ((n,(s1,s2,s3),it),at_ l i) = T at *
    obtain ⟨⟨r1,r2,r3,r4⟩,e,n',⟨q1,q2,q3⟩,it'⟩ := T
    simp only at t1 t2 t3 p3 ⊢
    have hp3 : it'.length ≤ 1048576 := p3
    refine ⟨i0,il,ho,ho,fun e0 => ⟨i0,il,p3,?_⟩,fun e0 => ⟨p3,?_⟩⟩
    · obtain ⟨u1,u2⟩ := t1 e0
      have hfit : (sumR (needs it')).2 = 0 ∧ fitsR ((sumR (needs it')).1,((at_ l i).2.2.1.1,(at_ l i).2.2.1.2.1,(at_ l i).2.2.1.2.2)) = true := by
        rw [u1]; exact ord_sum u2
      refine ⟨fun y => (0 ≤ y.2.2.2.2.1 ∧ y.2.2.2.2.1 ≤ (it'.length : Int)) ∧ y = (needs (it'.take y.2.2.2.2.1.toNat),it',i,(it'.length : Int),y.2.2.2.2.1,n',q1,q2,q3,it',(at_ l i).2.2.1.1,(at_ l i).2.2.1.2.1,(at_ l i).2.2.1.2.2,s1,s2,s3),fun y => it'.length - y.2.2.2.2.1.toNat,⟨⟨Int.le_refl _,by simp⟩,rfl⟩,fun y hy => ?_⟩
      obtain ⟨⟨k0,k1⟩,e⟩ := hy
      generalize y.2.2.2.2.1 = k at k0 k1 e
      subst e
      have hnl : (needs (it'.take k.toNat)).length = k.toNat := by simp [needs]; omega
      simp only
      refine ⟨fun kl => ⟨k0,kl,by omega,by omega,by omega,⟨⟨by omega,by omega⟩,?_⟩,by omega⟩,fun kg => ?_⟩
      · rw [needs_step k0 kl]
      · rw [List.take_of_length_le (by omega)]
        exact ⟨by show (needs it').length ≤ 1048576; simp [needs]; omega,fun c => absurd hfit.1 c,fun _ => ⟨fun c => absurd hfit.2 c,fun _ => ⟨fun c => absurd c t3,fun _ => ⟨by omega,by omega,⟨⟨by omega,by omega,p3⟩,hfit⟩,by omega⟩⟩⟩⟩
    · have u := t2 e0
      have hfit : (sumR (needs it')).2 = 0 ∧ fitsR ((sumR (needs it')).1,(c1,c2,c3)) = true := by
        have : it' = it := congrArg (fun g : TAg => g.2.2) u
        rw [this]; exact hfit0
      refine ⟨fun y => (0 ≤ y.2.2.2.2.1 ∧ y.2.2.2.2.1 ≤ (it'.length : Int)) ∧ y = (needs (it'.take y.2.2.2.2.1.toNat),it',i,(it'.length : Int),y.2.2.2.2.1,n',q1,q2,q3,it',c1,c2,c3,s1,s2,s3),fun y => it'.length - y.2.2.2.2.1.toNat,⟨⟨Int.le_refl _,by simp⟩,rfl⟩,fun y hy => ?_⟩
      obtain ⟨⟨k0,k1⟩,e⟩ := hy
      generalize y.2.2.2.2.1 = k at k0 k1 e
      subst e
      have hnl : (needs (it'.take k.toNat)).length = k.toNat := by simp [needs]; omega
      simp only
      refine ⟨fun kl => ⟨k0,kl,by omega,by omega,by omega,⟨⟨by omega,by omega⟩,?_⟩,by omega⟩,fun kg => ?_⟩
      · rw [needs_step k0 kl]
      · rw [List.take_of_length_le (by omega)]
        exact ⟨by show (needs it').length ≤ 1048576; simp [needs]; omega,fun c => absurd hfit.1 c,fun _ => ⟨fun c => absurd hfit.2 c,fun _ => ⟨fun c => absurd c t3,fun _ => ⟨by omega,by omega,⟨⟨by omega,by omega,p3⟩,hfit⟩,by omega⟩⟩⟩⟩
end Go.Abs
