/- Functions, and what the code asks of them: PAgent3. -/
import Derived.KernelRfl
import Derived.Test.YtabnaedcnfkmiadBc41c1e0a
import Derived.Test.YtabnaedcnfkmiadB8cd9c866
import Derived.Test.YtabnaedcnfkmiadBa212655c
import Derived.Test.YtabnaedcnfkmiadB8cf22718
import Derived.Test.YtabnaedcnfkmiadBa628de06
import Derived.Test.YtabnaedcnfkmiadB30b1f4ec
import Derived.Test.YtabnaedcnfkmiadB1a3d7548
set_option linter.unusedVariables false
set_option linter.unusedSimpArgs false
-- interregnum/interregnumref15.Right
namespace Go.Abs
open Go
def f359.args (a : T_api_State) : List D := [.agg [.int .i64 a.1,.int .i64 a.2.1,.slice .ro 7 a.2.2.1.length (gl e_api_Machine a.2.2.1),.slice .ro 4 a.2.2.2.1.length (gl e_api_Queue a.2.2.2.1),.slice .ro 13 a.2.2.2.2.length (gl e_api_Job a.2.2.2.2)]]
def f359.blks (a : T_api_State) : List (List D) := []
def f359.res (a : T_api_State) : List D := [.bool (stateB a)]
def f359.blks' (a : T_api_State) : List (List D) := []
def f359.C : Contract := FnC f359.args f359.blks (fun a => state_pre a) f359.res f359.blks'
end Go.Abs

-- interregnum/interregnumref11.Free
namespace Go.Abs
open Go
def f365.args (a : T_api_Machine × (List (T_api_Job))) : List D := [.agg [.str a.1.1.1,.int .i64 a.1.1.2.1.1,.int .i64 a.1.1.2.1.2.1,.int .i64 a.1.1.2.1.2.2,.slice .ro 2 a.1.1.2.2.length (gl e_api_Label a.1.1.2.2),.bool a.1.2.1,.int .i64 a.1.2.2],.slice .ro 13 a.2.length (gl e_api_Job a.2)]
def f365.blks (a : T_api_Machine × (List (T_api_Job))) : List (List D) := []
def f365.res (a : T_api_Machine × (List (T_api_Job))) : List D := [.agg [.int .i64 (((freeR a).1).1),.int .i64 (((freeR a).1).2.1),.int .i64 (((freeR a).1).2.2)],.int .i64 ((freeR a).2)]
def f365.blks' (a : T_api_Machine × (List (T_api_Job))) : List (List D) := []
def f365.C : Contract := FnC f365.args f365.blks (fun a => free_pre a) f365.res f365.blks'
end Go.Abs

/- interregnum/interregnumref15.Right -/
namespace Go.Abs
open Go
set_option linter.unusedVariables false
def f359.S0 (a : T_api_State) (x : Int) : Tm := ⟨[.dead,.ptr 0 0,.dead,.int .i64 (1073741824 : Int),.dead,.dead,.dead,.dead,.dead,.dead,.dead,.dead,.dead,.dead,.dead,.dead,.dead,.dead,.dead,.dead,.dead,.dead,.dead,.dead,.dead,.dead,.dead,.dead,.dead,.dead,.dead,.dead,.dead,.dead,.dead,.dead,.dead,.dead,.dead,.dead,.dead,.dead,.dead,.dead,.dead,.dead,.dead,.dead,.dead,.dead,.dead,.dead,.dead,.dead,.int .i64 (a.2.2.1.length : Int),.int .i64 x,.dead,.dead,.dead,.dead,.dead,.dead,.dead,.dead,.dead,.dead,.dead,.dead,.dead,.dead,.dead,.dead,.dead,.dead,.dead,.dead,.dead,.dead,.dead,.dead,.dead,.dead,.dead,.dead,.dead,.dead,.dead,.dead,.dead,.dead,.dead,.dead,.dead,.dead,.dead,.dead,.dead,.dead,.dead,.dead,.dead,.dead,.dead,.dead,.dead,.dead,.dead,.dead,.dead,.dead,.dead,.dead,.dead,.dead,.dead,.dead,.dead,.dead,.dead,.dead,.dead,.dead,.dead,.dead,.dead,.dead,.dead,.dead,.dead,.dead,.dead,.dead,.dead,.dead,.dead,.dead,.dead,.dead,.dead,.dead,.dead,.dead,.dead,.dead,.dead,.dead,.dead,.dead,.dead,.dead,.dead,.dead,.dead,.dead,.dead,.dead,.dead,.dead,.dead,.dead,.dead,.dead,.dead,.dead,.dead,.dead,.dead,.dead,.dead,.dead,.dead,.dead,.dead,.dead,.dead,.dead,.dead,.dead,.dead,.dead,.dead,.dead,.dead,.dead,.dead,.dead,.dead,.dead,.dead,.dead,.dead,.dead,.dead,.dead,.dead,.dead,.dead,.dead,.dead,.dead,.dead,.dead,.dead,.dead,.dead,.dead,.dead,.dead,.dead,.dead,.dead,.dead,.dead,.dead,.dead,.dead,.dead,.dead,.dead,.dead,.dead,.dead,.dead,.dead,.dead,.dead,.dead,.dead,.dead,.dead,.dead,.dead,.dead,.dead,.dead,.dead],[(0,false,[.int .i64 a.1,.int .i64 a.2.1,.slice .ro 7 a.2.2.1.length (gl e_api_Machine a.2.2.1),.slice .ro 4 a.2.2.2.1.length (gl e_api_Queue a.2.2.2.1),.slice .ro 13 a.2.2.2.2.length (gl e_api_Job a.2.2.2.2)])],[]⟩
def f359.S1 (a : T_api_State) (x : Int) : Tm := ⟨[.dead,.ptr 0 0,.dead,.dead,.dead,.dead,.dead,.dead,.dead,.dead,.dead,.dead,.dead,.dead,.dead,.dead,.dead,.dead,.dead,.dead,.dead,.dead,.dead,.dead,.dead,.dead,.dead,.dead,.dead,.dead,.dead,.dead,.dead,.dead,.dead,.dead,.dead,.dead,.dead,.dead,.dead,.dead,.dead,.dead,.dead,.dead,.dead,.dead,.dead,.dead,.dead,.dead,.dead,.dead,.dead,.dead,.dead,.dead,.dead,.dead,.dead,.dead,.dead,.dead,.dead,.dead,.dead,.dead,.dead,.dead,.dead,.dead,.dead,.dead,.dead,.dead,.dead,.dead,.dead,.dead,.dead,.dead,.dead,.dead,.dead,.dead,.dead,.dead,.dead,.dead,.dead,.dead,.dead,.dead,.dead,.dead,.dead,.dead,.dead,.dead,.dead,.dead,.dead,.dead,.dead,.dead,.dead,.dead,.dead,.int .i64 (a.2.2.2.1.length : Int),.int .i64 x,.dead,.dead,.dead,.dead,.dead,.dead,.dead,.dead,.dead,.dead,.dead,.dead,.dead,.dead,.dead,.dead,.dead,.dead,.dead,.dead,.dead,.dead,.dead,.dead,.dead,.dead,.dead,.dead,.dead,.dead,.dead,.dead,.dead,.dead,.dead,.dead,.dead,.dead,.dead,.dead,.dead,.dead,.dead,.dead,.dead,.dead,.dead,.dead,.dead,.dead,.dead,.dead,.dead,.dead,.dead,.dead,.dead,.dead,.dead,.dead,.dead,.dead,.dead,.dead,.dead,.dead,.dead,.dead,.dead,.dead,.dead,.dead,.dead,.dead,.dead,.dead,.dead,.dead,.dead,.dead,.dead,.dead,.dead,.dead,.dead,.dead,.dead,.dead,.dead,.dead,.dead,.dead,.dead,.dead,.dead,.dead,.dead,.dead,.dead,.dead,.dead,.dead,.dead,.dead,.dead,.dead,.dead,.dead,.dead,.dead,.dead,.dead,.dead,.dead,.dead,.dead,.dead,.dead,.dead,.dead,.dead,.dead,.dead,.dead,.dead],[(0,false,[.int .i64 a.1,.int .i64 a.2.1,.slice .ro 7 a.2.2.1.length (gl e_api_Machine a.2.2.1),.slice .ro 4 a.2.2.2.1.length (gl e_api_Queue a.2.2.2.1),.slice .ro 13 a.2.2.2.2.length (gl e_api_Job a.2.2.2.2)])],[]⟩
def f359.S2 (a : T_api_State) (x : Int) : Tm := ⟨[.dead,.ptr 0 0,.dead,.dead,.dead,.dead,.dead,.dead,.dead,.dead,.dead,.dead,.dead,.dead,.dead,.dead,.dead,.dead,.dead,.dead,.dead,.dead,.dead,.dead,.dead,.dead,.dead,.dead,.dead,.dead,.dead,.dead,.dead,.dead,.dead,.dead,.dead,.dead,.dead,.dead,.dead,.dead,.dead,.dead,.dead,.dead,.dead,.dead,.dead,.dead,.dead,.dead,.dead,.dead,.dead,.dead,.dead,.dead,.dead,.dead,.dead,.dead,.dead,.dead,.dead,.dead,.dead,.dead,.dead,.dead,.dead,.dead,.dead,.dead,.dead,.dead,.dead,.dead,.dead,.dead,.dead,.dead,.dead,.dead,.dead,.dead,.dead,.dead,.dead,.dead,.dead,.dead,.dead,.dead,.dead,.dead,.dead,.dead,.dead,.dead,.dead,.dead,.dead,.dead,.dead,.dead,.dead,.dead,.dead,.dead,.dead,.dead,.dead,.dead,.dead,.dead,.dead,.dead,.dead,.dead,.dead,.dead,.dead,.dead,.dead,.dead,.dead,.dead,.dead,.dead,.dead,.dead,.dead,.dead,.dead,.dead,.dead,.dead,.dead,.dead,.dead,.dead,.dead,.dead,.dead,.dead,.dead,.dead,.dead,.dead,.dead,.dead,.dead,.dead,.dead,.dead,.dead,.int .i64 (a.2.2.2.2.length : Int),.int .i64 x,.dead,.dead,.dead,.dead,.dead,.dead,.dead,.dead,.dead,.dead,.dead,.dead,.dead,.dead,.dead,.dead,.dead,.dead,.dead,.dead,.dead,.dead,.dead,.dead,.dead,.dead,.dead,.dead,.dead,.dead,.dead,.dead,.dead,.dead,.dead,.dead,.dead,.dead,.dead,.dead,.dead,.dead,.dead,.dead,.dead,.dead,.dead,.dead,.dead,.dead,.dead,.dead,.dead,.dead,.dead,.dead,.dead,.dead,.dead,.dead,.dead,.dead,.dead,.dead,.dead,.dead,.dead,.dead,.dead,.dead,.dead,.dead,.dead,.dead,.dead,.dead,.dead],[(0,false,[.int .i64 a.1,.int .i64 a.2.1,.slice .ro 7 a.2.2.1.length (gl e_api_Machine a.2.2.1),.slice .ro 4 a.2.2.2.1.length (gl e_api_Queue a.2.2.2.1),.slice .ro 13 a.2.2.2.2.length (gl e_api_Job a.2.2.2.2)])],[]⟩
def f359.kills (a : T_api_State) : List Hint := [.tell Int (f359.S0 a),
 .tell Int (f359.S1 a),
 .tell Int (f359.S2 a)]
def f359.cuts (a : T_api_State) : List (Nat × Σ β : Type,β→Tm) := []
def f359.af (a : T_api_State) : AF := AF.mk (.seq (.region [oT 1 0 .box [0],
 ⟨(some 2),1,.move,[.c (.bool false)],none⟩])
 (.seq (.region [⟨(some 3),2,.move,[.c (.int .i64 (1073741824))],none⟩])
 (.seq (.seq (.region [oT 14 3 (.fieldAddr 0) [1],
 oT 15 4 (.load false 1) [14],
 ⟨(some 16),5,(.bin .lss),[.t 15,.c (.int .i64 (0))],none⟩,
 oT 17 6 .move [16],
 oG 18 7 (.fieldAddr 0) [1] 17 false,
 oG 19 8 (.load false 1) [18] 17 false,
 oG 20 9 .move [3] 17 false,
 oG 21 10 (.bin .gtr) [19,20] 17 false,
 ⟨(some 22),11,.pick,[.t 17,.c (.bool true),.t 21],none⟩,
 oT 23 12 .move [22],
 oG 24 13 (.fieldAddr 1) [1] 23 false,
 oG 25 14 (.load false 1) [24] 23 false,
 ⟨(some 26),15,(.bin .lss),[.t 25,.c (.int .i64 (1))],(some (23,false))⟩,
 ⟨(some 27),16,.pick,[.t 23,.c (.bool true),.t 26],none⟩,
 oT 28 17 .move [27],
 oG 29 18 (.fieldAddr 1) [1] 28 false,
 oG 30 19 (.load false 1) [29] 28 false,
 oG 31 20 .move [3] 28 false,
 oG 32 21 (.bin .gtr) [30,31] 28 false,
 ⟨(some 33),22,.pick,[.t 28,.c (.bool true),.t 32],none⟩,
 oT 34 23 .move [33],
 oG 35 24 (.fieldAddr 2) [1] 34 false,
 oG 36 25 (.load false 1) [35] 34 false,
 oG 37 26 (.len false) [36] 34 false,
 ⟨(some 38),27,(.bin .gtr),[.t 37,.c (.int .i64 (16))],(some (34,false))⟩,
 ⟨(some 39),28,.pick,[.t 34,.c (.bool true),.t 38],none⟩,
 oT 40 29 .move [39],
 oG 41 30 (.fieldAddr 3) [1] 40 false,
 oG 42 31 (.load false 1) [41] 40 false,
 oG 43 32 (.len false) [42] 40 false,
 ⟨(some 44),33,(.bin .gtr),[.t 43,.c (.int .i64 (8))],(some (40,false))⟩,
 ⟨(some 45),34,.pick,[.t 40,.c (.bool true),.t 44],none⟩,
 oT 46 35 .move [45],
 oG 47 36 (.fieldAddr 4) [1] 46 false,
 oG 48 37 (.load false 1) [47] 46 false,
 oG 49 38 (.len false) [48] 46 false,
 ⟨(some 50),39,(.bin .gtr),[.t 49,.c (.int .i64 (48))],(some (46,false))⟩,
 ⟨(some 51),40,.pick,[.t 46,.c (.bool true),.t 50],none⟩])
 (.cond (.t 51) (.seq (.region [⟨(some 2),41,.move,[.c (.bool false)],none⟩])
 (.ret)) (.skip)))
 (.seq (.seq (.region [oT 52 42 (.fieldAddr 2) [1],
 oT 53 43 (.load false 1) [52],
 oT 54 44 (.len false) [53],
 ⟨(some 55),45,.move,[.c (.int .i64 (0))],none⟩])
 (.block 0 (.loopT Int (f359.S0 a) 46 122 (.seq (.region [oT 56 46 (.bin .lss) [55,54]])
 (.seq (.cond (.t 56) (.skip) (.exit 0))
 (.seq (.block 1 (.seq (.region [oT 57 47 .move [55],
 oT 4 48 .move [57]])
 (.seq (.region [oT 58 49 (.fieldAddr 2) [1],
 oT 59 50 (.load false 1) [58],
 oT 60 51 .move [4],
 oT 61 52 (.indexAddr 7 none) [59,60],
 oT 62 53 (.load true 7) [61],
 oT 5 54 (.alloc [.str ByteArray.empty,.int .i64 (0),.int .i64 (0),.int .i64 (0),.slice (.own 0) 2 0 gnil,.bool false,.int .i64 (0)]) [],
 ⟨none,62,(.store 7),[.t 5,.t 62],none⟩])
 (.seq (.seq (.region [oT 63 63 (.fieldAddr 0) [5],
 oT 64 64 (.load true 5) [63],
 oT 65 65 (.call false 36) [64],
 oT 66 69 (.un .not) [65],
 oT 67 70 .move [66],
 oG 68 71 (.fieldAddr 6) [5] 67 false,
 oG 69 72 (.load false 1) [68] 67 false,
 ⟨(some 70),73,(.bin .lss),[.t 69,.c (.int .i64 (0))],(some (67,false))⟩,
 ⟨(some 71),74,.pick,[.t 67,.c (.bool true),.t 70],none⟩,
 oT 72 75 .move [71],
 oG 73 76 (.fieldAddr 6) [5] 72 false,
 oG 74 77 (.load false 1) [73] 72 false,
 oG 75 78 .move [3] 72 false,
 ⟨(some 76),79,(.bin .add),[.t 75,.c (.int .i64 (4))],(some (72,false))⟩,
 oG 77 80 (.bin .gtr) [74,76] 72 false,
 ⟨(some 78),81,.pick,[.t 72,.c (.bool true),.t 77],none⟩,
 oT 79 82 .move [78],
 oG 80 83 .move [4] 79 false,
 ⟨(some 81),84,(.bin .gtr),[.t 80,.c (.int .i64 (0))],(some (79,false))⟩,
 oG 82 85 .move [81] 79 false,
 oG 83 86 (.fieldAddr 2) [1] 82 true,
 oG 84 87 (.load false 1) [83] 82 true,
 oG 85 88 .move [4] 82 true,
 ⟨(some 86),89,(.bin .sub),[.t 85,.c (.int .i64 (1))],(some (82,true))⟩,
 oG 87 90 (.indexAddr 7 none) [84,86] 82 true,
 oG 88 91 (.fieldAddr 0) [87] 82 true,
 oG 89 92 (.fieldAddr 0) [88] 82 true,
 oG 90 93 (.load false 1) [89] 82 true,
 oG 91 94 (.fieldAddr 0) [5] 82 true,
 oG 92 95 (.fieldAddr 0) [91] 82 true,
 oG 93 96 (.load false 1) [92] 82 true,
 oG 94 97 (.bin .geq) [90,93] 82 true,
 ⟨(some 95),98,.pick,[.t 82,.t 94,.c (.bool false)],(some (79,false))⟩,
 ⟨(some 96),99,.pick,[.t 79,.c (.bool true),.t 95],none⟩])
 (.cond (.t 96) (.seq (.region [⟨(some 2),100,.move,[.c (.bool false)],none⟩])
 (.ret)) (.skip)))
 (.seq (.region [oT 98 101 (.load true 7) [5],
 oT 99 102 (.fieldAddr 4) [1],
 oT 100 103 (.load false 1) [99],
 oT 101 104 (.call false 365) [98,100],
 oT 97 108 .move [101],
 oT 102 109 (.extract 0) [97],
 oT 103 110 (.extract 1) [97],
 oT 6 111 (.alloc [.int .i64 (0),.int .i64 (0),.int .i64 (0)]) [],
 ⟨none,115,(.store 3),[.t 6,.t 102],none⟩,
 oT 7 116 .move [103]])
 (.seq (.region [oT 104 117 .move [7],
 ⟨(some 105),118,(.bin .neq),[.t 104,.c (.int .i64 (0))],none⟩])
 (.cond (.t 105) (.seq (.region [⟨(some 2),119,.move,[.c (.bool false)],none⟩])
 (.ret)) (.skip))))))))
 (.region [⟨(some 106),120,(.bin .add),[.t 55,.c (.int .i64 (1))],none⟩,
 oT 55 121 .move [106]])))))))
 (.seq (.seq (.region [oT 107 122 (.fieldAddr 3) [1],
 oT 108 123 (.load false 1) [107],
 oT 109 124 (.len false) [108],
 ⟨(some 110),125,.move,[.c (.int .i64 (0))],none⟩])
 (.block 2 (.loopT Int (f359.S1 a) 126 195 (.seq (.region [oT 111 126 (.bin .lss) [110,109]])
 (.seq (.cond (.t 111) (.skip) (.exit 2))
 (.seq (.block 3 (.seq (.region [oT 112 127 .move [110],
 oT 8 128 .move [112]])
 (.seq (.region [oT 113 129 (.fieldAddr 3) [1],
 oT 114 130 (.load false 1) [113],
 oT 115 131 .move [8],
 oT 116 132 (.indexAddr 4 none) [114,115],
 oT 117 133 (.load true 4) [116],
 oT 9 134 (.alloc [.str ByteArray.empty,.int .i64 (0),.int .i64 (0),.int .i64 (0)]) [],
 ⟨none,139,(.store 4),[.t 9,.t 117],none⟩])
 (.seq (.seq (.region [oT 118 140 (.load true 4) [9],
 oT 119 141 (.call false 37) [118],
 oT 120 145 (.un .not) [119],
 oT 121 146 .move [120],
 oG 122 147 .move [8] 121 false,
 ⟨(some 123),148,(.bin .gtr),[.t 122,.c (.int .i64 (0))],(some (121,false))⟩,
 oG 124 149 .move [123] 121 false,
 oG 125 150 (.fieldAddr 3) [1] 124 true,
 oG 126 151 (.load false 1) [125] 124 true,
 oG 127 152 .move [8] 124 true,
 ⟨(some 128),153,(.bin .sub),[.t 127,.c (.int .i64 (1))],(some (124,true))⟩,
 oG 129 154 (.indexAddr 4 none) [126,128] 124 true,
 oG 130 155 (.fieldAddr 0) [129] 124 true,
 oG 131 156 (.load false 1) [130] 124 true,
 oG 132 157 (.fieldAddr 0) [9] 124 true,
 oG 133 158 (.load false 1) [132] 124 true,
 oG 134 159 (.bin .geq) [131,133] 124 true,
 ⟨(some 135),160,.pick,[.t 124,.t 134,.c (.bool false)],(some (121,false))⟩,
 ⟨(some 136),161,.pick,[.t 121,.c (.bool true),.t 135],none⟩])
 (.cond (.t 136) (.seq (.region [⟨(some 2),162,.move,[.c (.bool false)],none⟩])
 (.ret)) (.skip)))
 (.seq (.region [oT 138 163 (.fieldAddr 4) [1],
 oT 139 164 (.load false 1) [138],
 oT 140 165 (.fieldAddr 0) [9],
 oT 141 166 (.load false 1) [140],
 oT 142 167 (.call false 28) [139,141],
 oT 137 171 .move [142],
 oT 143 172 (.extract 0) [137],
 oT 144 173 (.extract 1) [137],
 oT 10 174 (.alloc [.int .i64 (0),.int .i64 (0),.int .i64 (0)]) [],
 ⟨none,178,(.store 3),[.t 10,.t 143],none⟩,
 oT 11 179 .move [144]])
 (.seq (.region [oT 145 180 .move [11],
 ⟨(some 146),181,(.bin .neq),[.t 145,.c (.int .i64 (0))],none⟩,
 oT 147 182 .move [146],
 oG 148 183 (.load true 3) [10] 147 false,
 oG 149 184 (.fieldAddr 1) [9] 147 false,
 oG 150 185 (.load true 3) [149] 147 false,
 oG 151 186 (.call false 131) [148,150] 147 false,
 oG 152 190 (.un .not) [151] 147 false,
 ⟨(some 153),191,.pick,[.t 147,.c (.bool true),.t 152],none⟩])
 (.cond (.t 153) (.seq (.region [⟨(some 2),192,.move,[.c (.bool false)],none⟩])
 (.ret)) (.skip))))))))
 (.region [⟨(some 154),193,(.bin .add),[.t 110,.c (.int .i64 (1))],none⟩,
 oT 110 194 .move [154]])))))))
 (.seq (.seq (.region [oT 155 195 (.fieldAddr 4) [1],
 oT 156 196 (.load false 1) [155],
 oT 157 197 (.len false) [156],
 ⟨(some 158),198,.move,[.c (.int .i64 (0))],none⟩])
 (.block 4 (.loopT Int (f359.S2 a) 199 307 (.seq (.region [oT 159 199 (.bin .lss) [158,157]])
 (.seq (.cond (.t 159) (.skip) (.exit 4))
 (.seq (.block 5 (.seq (.region [oT 160 200 .move [158],
 oT 12 201 .move [160]])
 (.seq (.region [oT 161 202 (.fieldAddr 4) [1],
 oT 162 203 (.load false 1) [161],
 oT 163 204 .move [12],
 oT 164 205 (.indexAddr 13 none) [162,163],
 oT 165 206 (.load true 13) [164],
 oT 13 207 (.alloc [.str ByteArray.empty,.str ByteArray.empty,.int .i64 (0),.int .i64 (0),.int .i64 (0),.int .i64 (0),.slice (.own 0) 2 0 gnil,.str ByteArray.empty,.str ByteArray.empty,.int .i64 (0),.int .i64 (0),.str ByteArray.empty,.int .i64 (0)]) [],
 ⟨none,221,(.store 13),[.t 13,.t 165],none⟩])
 (.seq (.seq (.region [oT 166 222 (.fieldAddr 0) [13],
 oT 167 223 (.load true 10) [166],
 oT 168 224 (.call false 38) [167],
 oT 169 228 (.un .not) [168],
 oT 170 229 .move [169],
 oG 171 230 (.fieldAddr 10) [13] 170 false,
 oG 172 231 (.load false 1) [171] 170 false,
 ⟨(some 173),232,(.bin .lss),[.t 172,.c (.int .i64 (1))],(some (170,false))⟩,
 ⟨(some 174),233,.pick,[.t 170,.c (.bool true),.t 173],none⟩,
 oT 175 234 .move [174],
 oG 176 235 (.fieldAddr 10) [13] 175 false,
 oG 177 236 (.load false 1) [176] 175 false,
 oG 178 237 (.fieldAddr 1) [1] 175 false,
 oG 179 238 (.load false 1) [178] 175 false,
 oG 180 239 (.bin .geq) [177,179] 175 false,
 ⟨(some 181),240,.pick,[.t 175,.c (.bool true),.t 180],none⟩,
 oT 182 241 .move [181],
 oG 183 242 .move [12] 182 false,
 ⟨(some 184),243,(.bin .gtr),[.t 183,.c (.int .i64 (0))],(some (182,false))⟩,
 oG 185 244 .move [184] 182 false,
 oG 186 245 (.fieldAddr 4) [1] 185 true,
 oG 187 246 (.load false 1) [186] 185 true,
 oG 188 247 .move [12] 185 true,
 ⟨(some 189),248,(.bin .sub),[.t 188,.c (.int .i64 (1))],(some (185,true))⟩,
 oG 190 249 (.indexAddr 13 none) [187,189] 185 true,
 oG 191 250 (.fieldAddr 10) [190] 185 true,
 oG 192 251 (.load false 1) [191] 185 true,
 oG 193 252 (.fieldAddr 10) [13] 185 true,
 oG 194 253 (.load false 1) [193] 185 true,
 oG 195 254 (.bin .geq) [192,194] 185 true,
 ⟨(some 196),255,.pick,[.t 185,.t 195,.c (.bool false)],(some (182,false))⟩,
 ⟨(some 197),256,.pick,[.t 182,.c (.bool true),.t 196],none⟩,
 oT 198 257 .move [197],
 oG 199 258 (.fieldAddr 12) [13] 198 false,
 oG 200 259 (.load false 1) [199] 198 false,
 ⟨(some 201),260,(.bin .lss),[.t 200,.c (.int .i64 (0))],(some (198,false))⟩,
 ⟨(some 202),261,.pick,[.t 198,.c (.bool true),.t 201],none⟩,
 oT 203 262 .move [202],
 oG 204 263 (.fieldAddr 12) [13] 203 false,
 oG 205 264 (.load false 1) [204] 203 false,
 ⟨(some 206),265,(.bin .gtr),[.t 205,.c (.int .i64 (1099511627776))],(some (203,false))⟩,
 ⟨(some 207),266,.pick,[.t 203,.c (.bool true),.t 206],none⟩])
 (.cond (.t 207) (.seq (.region [⟨(some 2),267,.move,[.c (.bool false)],none⟩])
 (.ret)) (.skip)))
 (.seq (.region [oT 208 268 (.fieldAddr 4) [1],
 oT 209 269 (.load false 1) [208],
 oT 210 270 (.fieldAddr 0) [13],
 oT 211 271 (.fieldAddr 0) [210],
 oT 212 272 (.load false 1) [211],
 oT 213 273 (.call false 32) [209,212],
 oT 214 277 .move [12],
 oT 215 278 (.bin .neq) [213,214],
 oT 216 279 .move [215],
 oG 217 280 (.load true 5) [1] 216 false,
 oG 218 281 (.fieldAddr 0) [13] 216 false,
 oG 219 282 (.fieldAddr 1) [218] 216 false,
 oG 220 283 (.load false 1) [219] 216 false,
 oG 221 284 (.call false 366) [217,220] 216 false,
 ⟨(some 222),288,(.bin .lss),[.t 221,.c (.int .i64 (0))],(some (216,false))⟩,
 ⟨(some 223),289,.pick,[.t 216,.c (.bool true),.t 222],none⟩,
 oT 224 290 .move [223],
 oG 225 291 (.fieldAddr 11) [13] 224 false,
 oG 226 292 (.load false 1) [225] 224 false,
 ⟨(some 227),293,(.bin .neq),[.t 226,.c (.str ByteArray.empty)],(some (224,false))⟩,
 oG 228 294 .move [227] 224 false,
 oG 229 295 (.load true 5) [1] 228 true,
 oG 230 296 .move [12] 228 true,
 oG 231 297 (.call false 367) [229,230] 228 true,
 oG 232 301 (.un .not) [231] 228 true,
 ⟨(some 233),302,.pick,[.t 228,.t 232,.c (.bool false)],(some (224,false))⟩,
 ⟨(some 234),303,.pick,[.t 224,.c (.bool true),.t 233],none⟩])
 (.cond (.t 234) (.seq (.region [⟨(some 2),304,.move,[.c (.bool false)],none⟩])
 (.ret)) (.skip)))))))
 (.region [⟨(some 235),305,(.bin .add),[.t 158,.c (.int .i64 (1))],none⟩,
 oT 158 306 .move [235]])))))))
 (.seq (.region [⟨(some 2),307,.move,[.c (.bool true)],none⟩])
 (.ret))))))))
 [.tmp 2] 0 235
def f359.env : Env := [(36,f36.C),(365,f365.C),(37,f37.C),(28,f28.C),(131,f131.C),(38,f38.C),(32,f32.C),(366,f366.C),(367,f367.C)]
def f359.tree (a : T_api_State) : Prop := Br (decide (a.1 < (0 : Int))) ((false = (stateB a))∧True) (Br (decide ((1073741824 : Int) < a.1)) ((false = (stateB a))∧True) (Br (decide (a.2.1 < (1 : Int))) ((false = (stateB a))∧True) (Br (decide ((1073741824 : Int) < a.2.1)) ((false = (stateB a))∧True) (Br (decide ((16 : Int) < (a.2.2.1.length : Int))) ((false = (stateB a))∧True) (Br (decide ((8 : Int) < (a.2.2.2.1.length : Int))) ((false = (stateB a))∧True) (Br (decide ((48 : Int) < (a.2.2.2.2.length : Int))) ((false = (stateB a))∧True) (∃ (I23 : Int→Prop) (μ24 : Int→Nat),(∃ x22 : Int,((1073741824 : Int) = (1073741824 : Int))∧((a.2.2.1.length : Int) = (a.2.2.1.length : Int))∧((0 : Int) = x22)∧(a.1 = a.1)∧(a.2.1 = a.2.1)∧SlS e_api_Machine a.2.2.1 (SlS e_api_Queue a.2.2.2.1 (SlS e_api_Job a.2.2.2.2 (I23 x22))))∧∀ y25 : Int,I23 y25→(Br (decide (y25 < (a.2.2.1.length : Int))) (Br (decide ((0 : Int)≤y25) && decide (y25 < (a.2.2.1.length : Int))) (∃ c29 : T_api_Node,((((at_ a.2.2.1 y25).1).1) = c29.1)∧(((((at_ a.2.2.1 y25).1).2.1).1) = c29.2.1.1)∧(((((at_ a.2.2.1 y25).1).2.1).2.1) = c29.2.1.2.1)∧(((((at_ a.2.2.1 y25).1).2.1).2.2) = c29.2.1.2.2)∧SlQ ((((at_ a.2.2.1 y25).1).2.2).length) c29.2.2.length (gl e_api_Label (((at_ a.2.2.1 y25).1).2.2)) (gl e_api_Label c29.2.2) ((node_pre c29)∧Br (!(nodeB c29)) ((false = (stateB a))∧True) (Br (decide (((at_ a.2.2.1 y25).2.2) < (0 : Int))) ((false = (stateB a))∧True) (Br (decide ((1073741828 : Int) < ((at_ a.2.2.1 y25).2.2))) ((false = (stateB a))∧True) (Br (decide ((0 : Int) < y25)) (Let (IntKind.i64.wrap (y25 - (1 : Int))) (fun v41 : Int => Br (decide ((0 : Int)≤v41) && decide (v41 < (a.2.2.1.length : Int))) (Br (!(Op.bytesLess (((at_ a.2.2.1 v41).1).1).toList (((at_ a.2.2.1 y25).1).1).toList)) ((false = (stateB a))∧True) (∃ c46 : T_api_Machine × (List (T_api_Job)),((((at_ a.2.2.1 y25).1).1) = c46.1.1.1)∧(((((at_ a.2.2.1 y25).1).2.1).1) = c46.1.1.2.1.1)∧(((((at_ a.2.2.1 y25).1).2.1).2.1) = c46.1.1.2.1.2.1)∧(((((at_ a.2.2.1 y25).1).2.1).2.2) = c46.1.1.2.1.2.2)∧SlQ ((((at_ a.2.2.1 y25).1).2.2).length) c46.1.1.2.2.length (gl e_api_Label (((at_ a.2.2.1 y25).1).2.2)) (gl e_api_Label c46.1.1.2.2) ((((at_ a.2.2.1 y25).2.1) = c46.1.2.1)∧(((at_ a.2.2.1 y25).2.2) = c46.1.2.2)∧SlQ a.2.2.2.2.length c46.2.length (gl e_api_Job a.2.2.2.2) (gl e_api_Job c46.2) ((free_pre c46)∧Br (((freeR c46).2) != (0 : Int)) ((false = (stateB a))∧True) (Let (IntKind.i64.wrap (y25 + (1 : Int))) (fun v50 : Int => ∃ x51 : Int,((1073741824 : Int) = (1073741824 : Int))∧((a.2.2.1.length : Int) = (a.2.2.1.length : Int))∧(v50 = x51)∧(a.1 = a.1)∧(a.2.1 = a.2.1)∧SlS e_api_Machine a.2.2.1 (SlS e_api_Queue a.2.2.2.1 (SlS e_api_Job a.2.2.2.2 (I23 x51∧μ24 x51 < μ24 y25))))))))) False)) (∃ c65 : T_api_Machine × (List (T_api_Job)),((((at_ a.2.2.1 y25).1).1) = c65.1.1.1)∧(((((at_ a.2.2.1 y25).1).2.1).1) = c65.1.1.2.1.1)∧(((((at_ a.2.2.1 y25).1).2.1).2.1) = c65.1.1.2.1.2.1)∧(((((at_ a.2.2.1 y25).1).2.1).2.2) = c65.1.1.2.1.2.2)∧SlQ ((((at_ a.2.2.1 y25).1).2.2).length) c65.1.1.2.2.length (gl e_api_Label (((at_ a.2.2.1 y25).1).2.2)) (gl e_api_Label c65.1.1.2.2) ((((at_ a.2.2.1 y25).2.1) = c65.1.2.1)∧(((at_ a.2.2.1 y25).2.2) = c65.1.2.2)∧SlQ a.2.2.2.2.length c65.2.length (gl e_api_Job a.2.2.2.2) (gl e_api_Job c65.2) ((free_pre c65)∧Br (((freeR c65).2) != (0 : Int)) ((false = (stateB a))∧True) (Let (IntKind.i64.wrap (y25 + (1 : Int))) (fun v69 : Int => ∃ x70 : Int,((1073741824 : Int) = (1073741824 : Int))∧((a.2.2.1.length : Int) = (a.2.2.1.length : Int))∧(v69 = x70)∧(a.1 = a.1)∧(a.2.1 = a.2.1)∧SlS e_api_Machine a.2.2.1 (SlS e_api_Queue a.2.2.2.1 (SlS e_api_Job a.2.2.2.2 (I23 x70∧μ24 x70 < μ24 y25))))))))))))) False) (∃ (I89 : Int→Prop) (μ90 : Int→Nat),(∃ x88 : Int,((a.2.2.2.1.length : Int) = (a.2.2.2.1.length : Int))∧((0 : Int) = x88)∧(a.1 = a.1)∧(a.2.1 = a.2.1)∧SlS e_api_Machine a.2.2.1 (SlS e_api_Queue a.2.2.2.1 (SlS e_api_Job a.2.2.2.2 (I89 x88))))∧∀ y91 : Int,I89 y91→(Br (decide (y91 < (a.2.2.2.1.length : Int))) (Br (decide ((0 : Int)≤y91) && decide (y91 < (a.2.2.2.1.length : Int))) (∃ c95 : T_api_Queue,(((at_ a.2.2.2.1 y91).1) = c95.1)∧((((at_ a.2.2.2.1 y91).2).1) = c95.2.1)∧((((at_ a.2.2.2.1 y91).2).2.1) = c95.2.2.1)∧((((at_ a.2.2.2.1 y91).2).2.2) = c95.2.2.2)∧(queue_pre c95)∧Br (!(queueB c95)) ((false = (stateB a))∧True) (Br (decide ((0 : Int) < y91)) (Let (IntKind.i64.wrap (y91 - (1 : Int))) (fun v101 : Int => Br (decide ((0 : Int)≤v101) && decide (v101 < (a.2.2.2.1.length : Int))) (Br (!(Op.bytesLess ((at_ a.2.2.2.1 v101).1).toList ((at_ a.2.2.2.1 y91).1).toList)) ((false = (stateB a))∧True) (∃ c106 : (List (T_api_Job)) × ByteArray,SlQ a.2.2.2.2.length c106.1.length (gl e_api_Job a.2.2.2.2) (gl e_api_Job c106.1) ((((at_ a.2.2.2.1 y91).1) = c106.2)∧(used_pre c106)∧Br (((usedR c106).2) != (0 : Int)) ((false = (stateB a))∧True) (∃ c110 : T_ar3_i64 × T_ar3_i64,((((usedR c106).1).1) = c110.1.1)∧((((usedR c106).1).2.1) = c110.1.2.1)∧((((usedR c106).1).2.2) = c110.1.2.2)∧((((at_ a.2.2.2.1 y91).2).1) = c110.2.1)∧((((at_ a.2.2.2.1 y91).2).2.1) = c110.2.2.1)∧((((at_ a.2.2.2.1 y91).2).2.2) = c110.2.2.2)∧True∧Br (!(fitsR c110)) ((false = (stateB a))∧True) (Let (IntKind.i64.wrap (y91 + (1 : Int))) (fun v114 : Int => ∃ x115 : Int,((a.2.2.2.1.length : Int) = (a.2.2.2.1.length : Int))∧(v114 = x115)∧(a.1 = a.1)∧(a.2.1 = a.2.1)∧SlS e_api_Machine a.2.2.1 (SlS e_api_Queue a.2.2.2.1 (SlS e_api_Job a.2.2.2.2 (I89 x115∧μ90 x115 < μ90 y91))))))))) False)) (∃ c132 : (List (T_api_Job)) × ByteArray,SlQ a.2.2.2.2.length c132.1.length (gl e_api_Job a.2.2.2.2) (gl e_api_Job c132.1) ((((at_ a.2.2.2.1 y91).1) = c132.2)∧(used_pre c132)∧Br (((usedR c132).2) != (0 : Int)) ((false = (stateB a))∧True) (∃ c136 : T_ar3_i64 × T_ar3_i64,((((usedR c132).1).1) = c136.1.1)∧((((usedR c132).1).2.1) = c136.1.2.1)∧((((usedR c132).1).2.2) = c136.1.2.2)∧((((at_ a.2.2.2.1 y91).2).1) = c136.2.1)∧((((at_ a.2.2.2.1 y91).2).2.1) = c136.2.2.1)∧((((at_ a.2.2.2.1 y91).2).2.2) = c136.2.2.2)∧True∧Br (!(fitsR c136)) ((false = (stateB a))∧True) (Let (IntKind.i64.wrap (y91 + (1 : Int))) (fun v140 : Int => ∃ x141 : Int,((a.2.2.2.1.length : Int) = (a.2.2.2.1.length : Int))∧(v140 = x141)∧(a.1 = a.1)∧(a.2.1 = a.2.1)∧SlS e_api_Machine a.2.2.1 (SlS e_api_Queue a.2.2.2.1 (SlS e_api_Job a.2.2.2.2 (I89 x141∧μ90 x141 < μ90 y91)))))))))) False) (∃ (I159 : Int→Prop) (μ160 : Int→Nat),(∃ x158 : Int,((a.2.2.2.2.length : Int) = (a.2.2.2.2.length : Int))∧((0 : Int) = x158)∧(a.1 = a.1)∧(a.2.1 = a.2.1)∧SlS e_api_Machine a.2.2.1 (SlS e_api_Queue a.2.2.2.1 (SlS e_api_Job a.2.2.2.2 (I159 x158))))∧∀ y161 : Int,I159 y161→(Br (decide (y161 < (a.2.2.2.2.length : Int))) (Br (decide ((0 : Int)≤y161) && decide (y161 < (a.2.2.2.2.length : Int))) (∃ c165 : T_api_Task,((((at_ a.2.2.2.2 y161).1).1) = c165.1)∧((((at_ a.2.2.2.2 y161).1).2.1) = c165.2.1)∧((((at_ a.2.2.2.2 y161).1).2.2.1) = c165.2.2.1)∧(((((at_ a.2.2.2.2 y161).1).2.2.2.1).1) = c165.2.2.2.1.1)∧(((((at_ a.2.2.2.2 y161).1).2.2.2.1).2.1) = c165.2.2.2.1.2.1)∧(((((at_ a.2.2.2.2 y161).1).2.2.2.1).2.2) = c165.2.2.2.1.2.2)∧SlQ ((((at_ a.2.2.2.2 y161).1).2.2.2.2.1).length) c165.2.2.2.2.1.length (gl e_api_Label (((at_ a.2.2.2.2 y161).1).2.2.2.2.1)) (gl e_api_Label c165.2.2.2.2.1) (((((at_ a.2.2.2.2 y161).1).2.2.2.2.2.1) = c165.2.2.2.2.2.1)∧((((at_ a.2.2.2.2 y161).1).2.2.2.2.2.2.1) = c165.2.2.2.2.2.2.1)∧((((at_ a.2.2.2.2 y161).1).2.2.2.2.2.2.2) = c165.2.2.2.2.2.2.2)∧(task_pre c165)∧Br (!(taskB c165)) ((false = (stateB a))∧True) (Br (decide (((at_ a.2.2.2.2 y161).2.1) < (1 : Int))) ((false = (stateB a))∧True) (Br (decide (a.2.1≤((at_ a.2.2.2.2 y161).2.1))) ((false = (stateB a))∧True) (Br (decide ((0 : Int) < y161)) (Let (IntKind.i64.wrap (y161 - (1 : Int))) (fun v177 : Int => Br (decide ((0 : Int)≤v177) && decide (v177 < (a.2.2.2.2.length : Int))) (Br (decide (((at_ a.2.2.2.2 y161).2.1)≤((at_ a.2.2.2.2 v177).2.1))) ((false = (stateB a))∧True) (Br (decide (((at_ a.2.2.2.2 y161).2.2.2) < (0 : Int))) ((false = (stateB a))∧True) (Br (decide ((1099511627776 : Int) < ((at_ a.2.2.2.2 y161).2.2.2))) ((false = (stateB a))∧True) (∃ c188 : (List (T_api_Job)) × ByteArray,SlQ a.2.2.2.2.length c188.1.length (gl e_api_Job a.2.2.2.2) (gl e_api_Job c188.1) (((((at_ a.2.2.2.2 y161).1).1) = c188.2)∧(find_pre c188)∧Br ((findR c188) != y161) ((false = (stateB a))∧True) (∃ c192 : T_api_State × ByteArray,(a.1 = c192.1.1)∧(a.2.1 = c192.1.2.1)∧SlQ a.2.2.1.length c192.1.2.2.1.length (gl e_api_Machine a.2.2.1) (gl e_api_Machine c192.1.2.2.1) (SlQ a.2.2.2.1.length c192.1.2.2.2.1.length (gl e_api_Queue a.2.2.2.1) (gl e_api_Queue c192.1.2.2.2.1) (SlQ a.2.2.2.2.length c192.1.2.2.2.2.length (gl e_api_Job a.2.2.2.2) (gl e_api_Job c192.1.2.2.2.2) (((((at_ a.2.2.2.2 y161).1).2.1) = c192.2)∧(machR_pre c192)∧Br (decide ((queueR c192) < (0 : Int))) ((false = (stateB a))∧True) (Br (!(((at_ a.2.2.2.2 y161).2.2.1).toList == ByteArray.empty.toList)) (∃ c198 : T_api_State × Int,(a.1 = c198.1.1)∧(a.2.1 = c198.1.2.1)∧SlQ a.2.2.1.length c198.1.2.2.1.length (gl e_api_Machine a.2.2.1) (gl e_api_Machine c198.1.2.2.1) (SlQ a.2.2.2.1.length c198.1.2.2.2.1.length (gl e_api_Queue a.2.2.2.1) (gl e_api_Queue c198.1.2.2.2.1) (SlQ a.2.2.2.2.length c198.1.2.2.2.2.length (gl e_api_Job a.2.2.2.2) (gl e_api_Job c198.1.2.2.2.2) ((y161 = c198.2)∧(stands_pre c198)∧Br (!(standsB c198)) ((false = (stateB a))∧True) (Let (IntKind.i64.wrap (y161 + (1 : Int))) (fun v202 : Int => ∃ x203 : Int,((a.2.2.2.2.length : Int) = (a.2.2.2.2.length : Int))∧(v202 = x203)∧(a.1 = a.1)∧(a.2.1 = a.2.1)∧SlS e_api_Machine a.2.2.1 (SlS e_api_Queue a.2.2.2.1 (SlS e_api_Job a.2.2.2.2 (I159 x203∧μ160 x203 < μ160 y161))))))))) (Let (IntKind.i64.wrap (y161 + (1 : Int))) (fun v211 : Int => ∃ x212 : Int,((a.2.2.2.2.length : Int) = (a.2.2.2.2.length : Int))∧(v211 = x212)∧(a.1 = a.1)∧(a.2.1 = a.2.1)∧SlS e_api_Machine a.2.2.1 (SlS e_api_Queue a.2.2.2.1 (SlS e_api_Job a.2.2.2.2 (I159 x212∧μ160 x212 < μ160 y161))))))))))))))) False)) (Br (decide (((at_ a.2.2.2.2 y161).2.2.2) < (0 : Int))) ((false = (stateB a))∧True) (Br (decide ((1099511627776 : Int) < ((at_ a.2.2.2.2 y161).2.2.2))) ((false = (stateB a))∧True) (∃ c241 : (List (T_api_Job)) × ByteArray,SlQ a.2.2.2.2.length c241.1.length (gl e_api_Job a.2.2.2.2) (gl e_api_Job c241.1) (((((at_ a.2.2.2.2 y161).1).1) = c241.2)∧(find_pre c241)∧Br ((findR c241) != y161) ((false = (stateB a))∧True) (∃ c245 : T_api_State × ByteArray,(a.1 = c245.1.1)∧(a.2.1 = c245.1.2.1)∧SlQ a.2.2.1.length c245.1.2.2.1.length (gl e_api_Machine a.2.2.1) (gl e_api_Machine c245.1.2.2.1) (SlQ a.2.2.2.1.length c245.1.2.2.2.1.length (gl e_api_Queue a.2.2.2.1) (gl e_api_Queue c245.1.2.2.2.1) (SlQ a.2.2.2.2.length c245.1.2.2.2.2.length (gl e_api_Job a.2.2.2.2) (gl e_api_Job c245.1.2.2.2.2) (((((at_ a.2.2.2.2 y161).1).2.1) = c245.2)∧(machR_pre c245)∧Br (decide ((queueR c245) < (0 : Int))) ((false = (stateB a))∧True) (Br (!(((at_ a.2.2.2.2 y161).2.2.1).toList == ByteArray.empty.toList)) (∃ c251 : T_api_State × Int,(a.1 = c251.1.1)∧(a.2.1 = c251.1.2.1)∧SlQ a.2.2.1.length c251.1.2.2.1.length (gl e_api_Machine a.2.2.1) (gl e_api_Machine c251.1.2.2.1) (SlQ a.2.2.2.1.length c251.1.2.2.2.1.length (gl e_api_Queue a.2.2.2.1) (gl e_api_Queue c251.1.2.2.2.1) (SlQ a.2.2.2.2.length c251.1.2.2.2.2.length (gl e_api_Job a.2.2.2.2) (gl e_api_Job c251.1.2.2.2.2) ((y161 = c251.2)∧(stands_pre c251)∧Br (!(standsB c251)) ((false = (stateB a))∧True) (Let (IntKind.i64.wrap (y161 + (1 : Int))) (fun v255 : Int => ∃ x256 : Int,((a.2.2.2.2.length : Int) = (a.2.2.2.2.length : Int))∧(v255 = x256)∧(a.1 = a.1)∧(a.2.1 = a.2.1)∧SlS e_api_Machine a.2.2.1 (SlS e_api_Queue a.2.2.2.1 (SlS e_api_Job a.2.2.2.2 (I159 x256∧μ160 x256 < μ160 y161))))))))) (Let (IntKind.i64.wrap (y161 + (1 : Int))) (fun v264 : Int => ∃ x265 : Int,((a.2.2.2.2.length : Int) = (a.2.2.2.2.length : Int))∧(v264 = x265)∧(a.1 = a.1)∧(a.2.1 = a.2.1)∧SlS e_api_Machine a.2.2.1 (SlS e_api_Queue a.2.2.2.1 (SlS e_api_Job a.2.2.2.2 (I159 x265∧μ160 x265 < μ160 y161))))))))))))))))))) False) ((true = (stateB a))∧True)))))))))))))
def f359.vc (a : T_api_State) : Prop := ((a.1 < (0 : Int)→(false = stateB a))∧(¬ (a.1 < (0 : Int))→(((1073741824 : Int) < a.1→(false = stateB a))∧(¬ ((1073741824 : Int) < a.1)→((a.2.1 < (1 : Int)→(false = stateB a))∧(¬ (a.2.1 < (1 : Int))→(((1073741824 : Int) < a.2.1→(false = stateB a))∧(¬ ((1073741824 : Int) < a.2.1)→(((16 : Int) < (a.2.2.1.length : Int)→(false = stateB a))∧(¬ ((16 : Int) < (a.2.2.1.length : Int))→(((8 : Int) < (a.2.2.2.1.length : Int)→(false = stateB a))∧(¬ ((8 : Int) < (a.2.2.2.1.length : Int))→(((48 : Int) < (a.2.2.2.2.length : Int)→(false = stateB a))∧(¬ ((48 : Int) < (a.2.2.2.2.length : Int))→(∃ (I23 : Int→Prop) (μ24 : Int→Nat),I23 (0 : Int)∧∀ y25 : Int,I23 y25→((y25 < (a.2.2.1.length : Int)→((0 : Int)≤y25∧y25 < (a.2.2.1.length : Int)∧(node_pre ((at_ a.2.2.1 y25).1)∧((¬ ((nodeB ((at_ a.2.2.1 y25).1)) = true)→(false = stateB a))∧(¬ (¬ ((nodeB ((at_ a.2.2.1 y25).1)) = true))→((((at_ a.2.2.1 y25).2.2) < (0 : Int)→(false = stateB a))∧(¬ (((at_ a.2.2.1 y25).2.2) < (0 : Int))→(((1073741828 : Int) < ((at_ a.2.2.1 y25).2.2)→(false = stateB a))∧(¬ ((1073741828 : Int) < ((at_ a.2.2.1 y25).2.2))→(((0 : Int) < y25→(-9223372036854775808≤(y25 - (1 : Int))∧(y25 - (1 : Int))≤9223372036854775807∧((0 : Int)≤(y25 - (1 : Int))∧(y25 - (1 : Int)) < (a.2.2.1.length : Int)∧((¬ sLt (((at_ a.2.2.1 (y25 - (1 : Int))).1).1) (((at_ a.2.2.1 y25).1).1)→(false = stateB a))∧(¬ (¬ sLt (((at_ a.2.2.1 (y25 - (1 : Int))).1).1) (((at_ a.2.2.1 y25).1).1))→(free_pre ((((at_ a.2.2.1 y25).1),(at_ a.2.2.1 y25).2.1,(at_ a.2.2.1 y25).2.2),a.2.2.2.2)∧((¬ ((freeR ((((at_ a.2.2.1 y25).1),(at_ a.2.2.1 y25).2.1,(at_ a.2.2.1 y25).2.2),a.2.2.2.2)).2) = (0 : Int)→(false = stateB a))∧(¬ (¬ ((freeR ((((at_ a.2.2.1 y25).1),(at_ a.2.2.1 y25).2.1,(at_ a.2.2.1 y25).2.2),a.2.2.2.2)).2) = (0 : Int))→(-9223372036854775808≤(y25 + (1 : Int))∧(y25 + (1 : Int))≤9223372036854775807∧(I23 (y25 + (1 : Int))∧μ24 (y25 + (1 : Int)) < μ24 y25))))))))))∧(¬ ((0 : Int) < y25)→(free_pre ((((at_ a.2.2.1 y25).1),(at_ a.2.2.1 y25).2.1,(at_ a.2.2.1 y25).2.2),a.2.2.2.2)∧((¬ ((freeR ((((at_ a.2.2.1 y25).1),(at_ a.2.2.1 y25).2.1,(at_ a.2.2.1 y25).2.2),a.2.2.2.2)).2) = (0 : Int)→(false = stateB a))∧(¬ (¬ ((freeR ((((at_ a.2.2.1 y25).1),(at_ a.2.2.1 y25).2.1,(at_ a.2.2.1 y25).2.2),a.2.2.2.2)).2) = (0 : Int))→(-9223372036854775808≤(y25 + (1 : Int))∧(y25 + (1 : Int))≤9223372036854775807∧(I23 (y25 + (1 : Int))∧μ24 (y25 + (1 : Int)) < μ24 y25))))))))))))))))∧(¬ (y25 < (a.2.2.1.length : Int))→(∃ (I89 : Int→Prop) (μ90 : Int→Nat),I89 (0 : Int)∧∀ y91 : Int,I89 y91→((y91 < (a.2.2.2.1.length : Int)→((0 : Int)≤y91∧y91 < (a.2.2.2.1.length : Int)∧(queue_pre (at_ a.2.2.2.1 y91)∧((¬ ((queueB (at_ a.2.2.2.1 y91)) = true)→(false = stateB a))∧(¬ (¬ ((queueB (at_ a.2.2.2.1 y91)) = true))→(((0 : Int) < y91→(-9223372036854775808≤(y91 - (1 : Int))∧(y91 - (1 : Int))≤9223372036854775807∧((0 : Int)≤(y91 - (1 : Int))∧(y91 - (1 : Int)) < (a.2.2.2.1.length : Int)∧((¬ sLt ((at_ a.2.2.2.1 (y91 - (1 : Int))).1) ((at_ a.2.2.2.1 y91).1)→(false = stateB a))∧(¬ (¬ sLt ((at_ a.2.2.2.1 (y91 - (1 : Int))).1) ((at_ a.2.2.2.1 y91).1))→(used_pre (a.2.2.2.2,(at_ a.2.2.2.1 y91).1)∧((¬ ((usedR (a.2.2.2.2,(at_ a.2.2.2.1 y91).1)).2) = (0 : Int)→(false = stateB a))∧(¬ (¬ ((usedR (a.2.2.2.2,(at_ a.2.2.2.1 y91).1)).2) = (0 : Int))→((¬ ((fitsR (((usedR (a.2.2.2.2,(at_ a.2.2.2.1 y91).1)).1),((at_ a.2.2.2.1 y91).2))) = true)→(false = stateB a))∧(¬ (¬ ((fitsR (((usedR (a.2.2.2.2,(at_ a.2.2.2.1 y91).1)).1),((at_ a.2.2.2.1 y91).2))) = true))→(-9223372036854775808≤(y91 + (1 : Int))∧(y91 + (1 : Int))≤9223372036854775807∧(I89 (y91 + (1 : Int))∧μ90 (y91 + (1 : Int)) < μ90 y91))))))))))))∧(¬ ((0 : Int) < y91)→(used_pre (a.2.2.2.2,(at_ a.2.2.2.1 y91).1)∧((¬ ((usedR (a.2.2.2.2,(at_ a.2.2.2.1 y91).1)).2) = (0 : Int)→(false = stateB a))∧(¬ (¬ ((usedR (a.2.2.2.2,(at_ a.2.2.2.1 y91).1)).2) = (0 : Int))→((¬ ((fitsR (((usedR (a.2.2.2.2,(at_ a.2.2.2.1 y91).1)).1),((at_ a.2.2.2.1 y91).2))) = true)→(false = stateB a))∧(¬ (¬ ((fitsR (((usedR (a.2.2.2.2,(at_ a.2.2.2.1 y91).1)).1),((at_ a.2.2.2.1 y91).2))) = true))→(-9223372036854775808≤(y91 + (1 : Int))∧(y91 + (1 : Int))≤9223372036854775807∧(I89 (y91 + (1 : Int))∧μ90 (y91 + (1 : Int)) < μ90 y91))))))))))))))∧(¬ (y91 < (a.2.2.2.1.length : Int))→(∃ (I159 : Int→Prop) (μ160 : Int→Nat),I159 (0 : Int)∧∀ y161 : Int,I159 y161→((y161 < (a.2.2.2.2.length : Int)→((0 : Int)≤y161∧y161 < (a.2.2.2.2.length : Int)∧(task_pre ((at_ a.2.2.2.2 y161).1)∧((¬ ((taskB ((at_ a.2.2.2.2 y161).1)) = true)→(false = stateB a))∧(¬ (¬ ((taskB ((at_ a.2.2.2.2 y161).1)) = true))→((((at_ a.2.2.2.2 y161).2.1) < (1 : Int)→(false = stateB a))∧(¬ (((at_ a.2.2.2.2 y161).2.1) < (1 : Int))→((a.2.1≤((at_ a.2.2.2.2 y161).2.1)→(false = stateB a))∧(¬ (a.2.1≤((at_ a.2.2.2.2 y161).2.1))→(((0 : Int) < y161→(-9223372036854775808≤(y161 - (1 : Int))∧(y161 - (1 : Int))≤9223372036854775807∧((0 : Int)≤(y161 - (1 : Int))∧(y161 - (1 : Int)) < (a.2.2.2.2.length : Int)∧((((at_ a.2.2.2.2 y161).2.1)≤((at_ a.2.2.2.2 (y161 - (1 : Int))).2.1)→(false = stateB a))∧(¬ (((at_ a.2.2.2.2 y161).2.1)≤((at_ a.2.2.2.2 (y161 - (1 : Int))).2.1))→((((at_ a.2.2.2.2 y161).2.2.2) < (0 : Int)→(false = stateB a))∧(¬ (((at_ a.2.2.2.2 y161).2.2.2) < (0 : Int))→(((1099511627776 : Int) < ((at_ a.2.2.2.2 y161).2.2.2)→(false = stateB a))∧(¬ ((1099511627776 : Int) < ((at_ a.2.2.2.2 y161).2.2.2))→(find_pre (a.2.2.2.2,((at_ a.2.2.2.2 y161).1).1)∧((¬ (findR (a.2.2.2.2,((at_ a.2.2.2.2 y161).1).1)) = y161→(false = stateB a))∧(¬ (¬ (findR (a.2.2.2.2,((at_ a.2.2.2.2 y161).1).1)) = y161)→(machR_pre (a,((at_ a.2.2.2.2 y161).1).2.1)∧(((queueR (a,((at_ a.2.2.2.2 y161).1).2.1)) < (0 : Int)→(false = stateB a))∧(¬ ((queueR (a,((at_ a.2.2.2.2 y161).1).2.1)) < (0 : Int))→((¬ (((at_ a.2.2.2.2 y161).2.2.1) = ByteArray.empty)→(stands_pre (a,y161)∧((¬ ((standsB (a,y161)) = true)→(false = stateB a))∧(¬ (¬ ((standsB (a,y161)) = true))→(-9223372036854775808≤(y161 + (1 : Int))∧(y161 + (1 : Int))≤9223372036854775807∧(I159 (y161 + (1 : Int))∧μ160 (y161 + (1 : Int)) < μ160 y161))))))∧(¬ (¬ (((at_ a.2.2.2.2 y161).2.2.1) = ByteArray.empty))→(-9223372036854775808≤(y161 + (1 : Int))∧(y161 + (1 : Int))≤9223372036854775807∧(I159 (y161 + (1 : Int))∧μ160 (y161 + (1 : Int)) < μ160 y161)))))))))))))))))))∧(¬ ((0 : Int) < y161)→((((at_ a.2.2.2.2 y161).2.2.2) < (0 : Int)→(false = stateB a))∧(¬ (((at_ a.2.2.2.2 y161).2.2.2) < (0 : Int))→(((1099511627776 : Int) < ((at_ a.2.2.2.2 y161).2.2.2)→(false = stateB a))∧(¬ ((1099511627776 : Int) < ((at_ a.2.2.2.2 y161).2.2.2))→(find_pre (a.2.2.2.2,((at_ a.2.2.2.2 y161).1).1)∧((¬ (findR (a.2.2.2.2,((at_ a.2.2.2.2 y161).1).1)) = y161→(false = stateB a))∧(¬ (¬ (findR (a.2.2.2.2,((at_ a.2.2.2.2 y161).1).1)) = y161)→(machR_pre (a,((at_ a.2.2.2.2 y161).1).2.1)∧(((queueR (a,((at_ a.2.2.2.2 y161).1).2.1)) < (0 : Int)→(false = stateB a))∧(¬ ((queueR (a,((at_ a.2.2.2.2 y161).1).2.1)) < (0 : Int))→((¬ (((at_ a.2.2.2.2 y161).2.2.1) = ByteArray.empty)→(stands_pre (a,y161)∧((¬ ((standsB (a,y161)) = true)→(false = stateB a))∧(¬ (¬ ((standsB (a,y161)) = true))→(-9223372036854775808≤(y161 + (1 : Int))∧(y161 + (1 : Int))≤9223372036854775807∧(I159 (y161 + (1 : Int))∧μ160 (y161 + (1 : Int)) < μ160 y161))))))∧(¬ (¬ (((at_ a.2.2.2.2 y161).2.2.1) = ByteArray.empty))→(-9223372036854775808≤(y161 + (1 : Int))∧(y161 + (1 : Int))≤9223372036854775807∧(I159 (y161 + (1 : Int))∧μ160 (y161 + (1 : Int)) < μ160 y161)))))))))))))))))))))))))∧(¬ (y161 < (a.2.2.2.2.length : Int))→(true = stateB a))))))))))))))))))))))))
set_option maxRecDepth 100000 in
set_option maxHeartbeats 2000000 in
theorem f359.of (a : T_api_State) (h : f359.vc a) : f359.tree a := br h Cnd.dec (fun h1 k320 => ⟨k320,trivial⟩) (fun h2 k321 => br k321 Cnd.dec (fun h4 k318 => ⟨k318,trivial⟩) (fun h5 k319 => br k319 Cnd.dec (fun h7 k316 => ⟨k316,trivial⟩) (fun h8 k317 => br k317 Cnd.dec (fun h10 k314 => ⟨k314,trivial⟩) (fun h11 k315 => br k315 Cnd.dec (fun h13 k312 => ⟨k312,trivial⟩) (fun h14 k313 => br k313 Cnd.dec (fun h16 k310 => ⟨k310,trivial⟩) (fun h17 k311 => br k311 Cnd.dec (fun h19 k308 => ⟨k308,trivial⟩) (fun h20 k309 => Exists.elim k309 (fun I23 h305_ => Exists.elim h305_ (fun μ24 h305 => ⟨I23,μ24,⟨(0 : Int),⟨rfl,⟨rfl,⟨rfl,⟨rfl,⟨rfl,SlS.mk  (SlS.mk  (SlS.mk  (h305.1)))⟩⟩⟩⟩⟩⟩,fun y25 h307 => br (h305.2 y25 h307) Cnd.dec (fun h26 k303 => chk k303.2.2 Cnd.ix ⟨k303.1,k303.2.1⟩ (fun h28 k87 => ⟨((at_ a.2.2.1 y25).1),⟨rfl,⟨rfl,⟨rfl,⟨rfl,slQ (Rds.self (enc := e_api_Label)) (⟨k87.1,br k87.2 (Cnd.not Cnd.b) (fun h30 k84 => ⟨k84,trivial⟩) (fun h31 k85 => br k85 Cnd.dec (fun h33 k82 => ⟨k82,trivial⟩) (fun h34 k83 => br k83 Cnd.dec (fun h36 k80 => ⟨k80,trivial⟩) (fun h37 k81 => br k81 Cnd.dec (fun h39 k78 => wrapK.i64 k78 (fun h62 h63 k64 => chk k64.2.2 Cnd.ix ⟨k64.1,k64.2.1⟩ (fun h42 k61 => br k61 (Cnd.not Cnd.sl_) (fun h43 k59 => ⟨k59,trivial⟩) (fun h44 k60 => ⟨((((at_ a.2.2.1 y25).1),(at_ a.2.2.1 y25).2.1,(at_ a.2.2.1 y25).2.2),a.2.2.2.2),⟨rfl,⟨rfl,⟨rfl,⟨rfl,slQ (Rds.self (enc := e_api_Label)) (⟨rfl,⟨rfl,slQ (Rds.self (enc := e_api_Job)) (⟨k60.1,br k60.2 Cnd.ne (fun h47 k56 => ⟨k56,trivial⟩) (fun h48 k57 => wrapK.i64 k57 (fun h53 h54 k55 => ⟨(y25 + (1 : Int)),⟨rfl,⟨rfl,⟨rfl,⟨rfl,⟨rfl,SlS.mk  (SlS.mk  (SlS.mk  (k55)))⟩⟩⟩⟩⟩⟩))⟩)⟩⟩)⟩⟩⟩⟩⟩)))) (fun h40 k79 => ⟨((((at_ a.2.2.1 y25).1),(at_ a.2.2.1 y25).2.1,(at_ a.2.2.1 y25).2.2),a.2.2.2.2),⟨rfl,⟨rfl,⟨rfl,⟨rfl,slQ (Rds.self (enc := e_api_Label)) (⟨rfl,⟨rfl,slQ (Rds.self (enc := e_api_Job)) (⟨k79.1,br k79.2 Cnd.ne (fun h66 k75 => ⟨k75,trivial⟩) (fun h67 k76 => wrapK.i64 k76 (fun h72 h73 k74 => ⟨(y25 + (1 : Int)),⟨rfl,⟨rfl,⟨rfl,⟨rfl,⟨rfl,SlS.mk  (SlS.mk  (SlS.mk  (k74)))⟩⟩⟩⟩⟩⟩))⟩)⟩⟩)⟩⟩⟩⟩⟩))))⟩)⟩⟩⟩⟩⟩)) (fun h27 k304 => Exists.elim k304 (fun I89 h300_ => Exists.elim h300_ (fun μ90 h300 => ⟨I89,μ90,⟨(0 : Int),⟨rfl,⟨rfl,⟨rfl,⟨rfl,SlS.mk  (SlS.mk  (SlS.mk  (h300.1)))⟩⟩⟩⟩⟩,fun y91 h302 => br (h300.2 y91 h302) Cnd.dec (fun h92 k298 => chk k298.2.2 Cnd.ix ⟨k298.1,k298.2.1⟩ (fun h94 k157 => ⟨(at_ a.2.2.2.1 y91),⟨rfl,⟨rfl,⟨rfl,⟨rfl,⟨k157.1,br k157.2 (Cnd.not Cnd.b) (fun h96 k154 => ⟨k154,trivial⟩) (fun h97 k155 => br k155 Cnd.dec (fun h99 k152 => wrapK.i64 k152 (fun h129 h130 k131 => chk k131.2.2 Cnd.ix ⟨k131.1,k131.2.1⟩ (fun h102 k128 => br k128 (Cnd.not Cnd.sl_) (fun h103 k126 => ⟨k126,trivial⟩) (fun h104 k127 => ⟨(a.2.2.2.2,(at_ a.2.2.2.1 y91).1),slQ (Rds.self (enc := e_api_Job)) (⟨rfl,⟨k127.1,br k127.2 Cnd.ne (fun h107 k123 => ⟨k123,trivial⟩) (fun h108 k124 => ⟨(((usedR (a.2.2.2.2,(at_ a.2.2.2.1 y91).1)).1),((at_ a.2.2.2.1 y91).2)),⟨rfl,⟨rfl,⟨rfl,⟨rfl,⟨rfl,⟨rfl,⟨trivial,br k124 (Cnd.not Cnd.b) (fun h111 k120 => ⟨k120,trivial⟩) (fun h112 k121 => wrapK.i64 k121 (fun h117 h118 k119 => ⟨(y91 + (1 : Int)),⟨rfl,⟨rfl,⟨rfl,⟨rfl,SlS.mk  (SlS.mk  (SlS.mk  (k119)))⟩⟩⟩⟩⟩))⟩⟩⟩⟩⟩⟩⟩⟩)⟩⟩)⟩)))) (fun h100 k153 => ⟨(a.2.2.2.2,(at_ a.2.2.2.1 y91).1),slQ (Rds.self (enc := e_api_Job)) (⟨rfl,⟨k153.1,br k153.2 Cnd.ne (fun h133 k149 => ⟨k149,trivial⟩) (fun h134 k150 => ⟨(((usedR (a.2.2.2.2,(at_ a.2.2.2.1 y91).1)).1),((at_ a.2.2.2.1 y91).2)),⟨rfl,⟨rfl,⟨rfl,⟨rfl,⟨rfl,⟨rfl,⟨trivial,br k150 (Cnd.not Cnd.b) (fun h137 k146 => ⟨k146,trivial⟩) (fun h138 k147 => wrapK.i64 k147 (fun h143 h144 k145 => ⟨(y91 + (1 : Int)),⟨rfl,⟨rfl,⟨rfl,⟨rfl,SlS.mk  (SlS.mk  (SlS.mk  (k145)))⟩⟩⟩⟩⟩))⟩⟩⟩⟩⟩⟩⟩⟩)⟩⟩)⟩))⟩⟩⟩⟩⟩⟩)) (fun h93 k299 => Exists.elim k299 (fun I159 h295_ => Exists.elim h295_ (fun μ160 h295 => ⟨I159,μ160,⟨(0 : Int),⟨rfl,⟨rfl,⟨rfl,⟨rfl,SlS.mk  (SlS.mk  (SlS.mk  (h295.1)))⟩⟩⟩⟩⟩,fun y161 h297 => br (h295.2 y161 h297) Cnd.dec (fun h162 k293 => chk k293.2.2 Cnd.ix ⟨k293.1,k293.2.1⟩ (fun h164 k291 => ⟨((at_ a.2.2.2.2 y161).1),⟨rfl,⟨rfl,⟨rfl,⟨rfl,⟨rfl,⟨rfl,slQ (Rds.self (enc := e_api_Label)) (⟨rfl,⟨rfl,⟨rfl,⟨k291.1,br k291.2 (Cnd.not Cnd.b) (fun h166 k288 => ⟨k288,trivial⟩) (fun h167 k289 => br k289 Cnd.dec (fun h169 k286 => ⟨k286,trivial⟩) (fun h170 k287 => br k287 Cnd.dec (fun h172 k284 => ⟨k284,trivial⟩) (fun h173 k285 => br k285 Cnd.dec (fun h175 k282 => wrapK.i64 k282 (fun h232 h233 k234 => chk k234.2.2 Cnd.ix ⟨k234.1,k234.2.1⟩ (fun h178 k231 => br k231 Cnd.dec (fun h179 k229 => ⟨k229,trivial⟩) (fun h180 k230 => br k230 Cnd.dec (fun h182 k227 => ⟨k227,trivial⟩) (fun h183 k228 => br k228 Cnd.dec (fun h185 k225 => ⟨k225,trivial⟩) (fun h186 k226 => ⟨(a.2.2.2.2,((at_ a.2.2.2.2 y161).1).1),slQ (Rds.self (enc := e_api_Job)) (⟨rfl,⟨k226.1,br k226.2 Cnd.ne (fun h189 k222 => ⟨k222,trivial⟩) (fun h190 k223 => ⟨(a,((at_ a.2.2.2.2 y161).1).2.1),⟨rfl,⟨rfl,slQ (Rds.self (enc := e_api_Machine)) (slQ (Rds.self (enc := e_api_Queue)) (slQ (Rds.self (enc := e_api_Job)) (⟨rfl,⟨k223.1,br k223.2 Cnd.dec (fun h193 k219 => ⟨k219,trivial⟩) (fun h194 k220 => br k220 (Cnd.not Cnd.seq) (fun h196 k217 => ⟨(a,y161),⟨rfl,⟨rfl,slQ (Rds.self (enc := e_api_Machine)) (slQ (Rds.self (enc := e_api_Queue)) (slQ (Rds.self (enc := e_api_Job)) (⟨rfl,⟨k217.1,br k217.2 (Cnd.not Cnd.b) (fun h199 k208 => ⟨k208,trivial⟩) (fun h200 k209 => wrapK.i64 k209 (fun h205 h206 k207 => ⟨(y161 + (1 : Int)),⟨rfl,⟨rfl,⟨rfl,⟨rfl,SlS.mk  (SlS.mk  (SlS.mk  (k207)))⟩⟩⟩⟩⟩))⟩⟩)))⟩⟩⟩) (fun h197 k218 => wrapK.i64 k218 (fun h214 h215 k216 => ⟨(y161 + (1 : Int)),⟨rfl,⟨rfl,⟨rfl,⟨rfl,SlS.mk  (SlS.mk  (SlS.mk  (k216)))⟩⟩⟩⟩⟩)))⟩⟩)))⟩⟩⟩)⟩⟩)⟩)))))) (fun h176 k283 => br k283 Cnd.dec (fun h235 k280 => ⟨k280,trivial⟩) (fun h236 k281 => br k281 Cnd.dec (fun h238 k278 => ⟨k278,trivial⟩) (fun h239 k279 => ⟨(a.2.2.2.2,((at_ a.2.2.2.2 y161).1).1),slQ (Rds.self (enc := e_api_Job)) (⟨rfl,⟨k279.1,br k279.2 Cnd.ne (fun h242 k275 => ⟨k275,trivial⟩) (fun h243 k276 => ⟨(a,((at_ a.2.2.2.2 y161).1).2.1),⟨rfl,⟨rfl,slQ (Rds.self (enc := e_api_Machine)) (slQ (Rds.self (enc := e_api_Queue)) (slQ (Rds.self (enc := e_api_Job)) (⟨rfl,⟨k276.1,br k276.2 Cnd.dec (fun h246 k272 => ⟨k272,trivial⟩) (fun h247 k273 => br k273 (Cnd.not Cnd.seq) (fun h249 k270 => ⟨(a,y161),⟨rfl,⟨rfl,slQ (Rds.self (enc := e_api_Machine)) (slQ (Rds.self (enc := e_api_Queue)) (slQ (Rds.self (enc := e_api_Job)) (⟨rfl,⟨k270.1,br k270.2 (Cnd.not Cnd.b) (fun h252 k261 => ⟨k261,trivial⟩) (fun h253 k262 => wrapK.i64 k262 (fun h258 h259 k260 => ⟨(y161 + (1 : Int)),⟨rfl,⟨rfl,⟨rfl,⟨rfl,SlS.mk  (SlS.mk  (SlS.mk  (k260)))⟩⟩⟩⟩⟩))⟩⟩)))⟩⟩⟩) (fun h250 k271 => wrapK.i64 k271 (fun h267 h268 k269 => ⟨(y161 + (1 : Int)),⟨rfl,⟨rfl,⟨rfl,⟨rfl,SlS.mk  (SlS.mk  (SlS.mk  (k269)))⟩⟩⟩⟩⟩)))⟩⟩)))⟩⟩⟩)⟩⟩)⟩))))))⟩⟩⟩⟩)⟩⟩⟩⟩⟩⟩⟩)) (fun h163 k294 => ⟨k294,trivial⟩)⟩)))⟩)))⟩)))))))))
theorem f359.eq (a : T_api_State) : (f359.af a).gives f359.env (f359.args a) (f359.blks a) (f359.res a) (f359.blks' a) = f359.tree a := by kernel_rfl
end Go.Abs

-- interregnum/agent.Of
namespace Go.Abs
open Go
def f341.args (a : T_api_State × ByteArray × T_ar3_i64) : List D := [.agg [.int .i64 a.1.1,.int .i64 a.1.2.1,.slice .ro 7 a.1.2.2.1.length (gl e_api_Machine a.1.2.2.1),.slice .ro 4 a.1.2.2.2.1.length (gl e_api_Queue a.1.2.2.2.1),.slice .ro 13 a.1.2.2.2.2.length (gl e_api_Job a.1.2.2.2.2)],.str a.2.1,.agg [.int .i64 a.2.2.1,.int .i64 a.2.2.2.1,.int .i64 a.2.2.2.2]]
def f341.blks (a : T_api_State × ByteArray × T_ar3_i64) : List (List D) := []
def f341.res (a : T_api_State × ByteArray × T_ar3_i64) : List D := [.agg [.str (((ofA a).1).1),.int .i64 ((((ofA a).1).2.1).1),.int .i64 ((((ofA a).1).2.1).2.1),.int .i64 ((((ofA a).1).2.1).2.2),.int .i64 ((((ofA a).1).2.2.1).1),.int .i64 ((((ofA a).1).2.2.1).2.1),.int .i64 ((((ofA a).1).2.2.1).2.2),.slice .ro 6 ((((ofA a).1).2.2.2).length) (gl e_agent_Item (((ofA a).1).2.2.2))],.int .i64 ((ofA a).2)]
def f341.blks' (a : T_api_State × ByteArray × T_ar3_i64) : List (List D) := []
def f341.C : Contract := FnC f341.args f341.blks (fun a => of_pre a) f341.res f341.blks'
end Go.Abs

/- interregnum/agent.Of -/
namespace Go.Abs
open Go
set_option linter.unusedVariables false
def f341.S0 (a : T_api_State × ByteArray × T_ar3_i64) (x : Int × ByteArray × Int × Int × Int × Int × Int × Int × (List (T_agent_Item))) : Tm := ⟨[.dead,.dead,.dead,.dead,.ptr 1 0,.dead,.ptr 3 0,.dead,.dead,.ptr 45 0,.dead,.dead,.dead,.dead,.dead,.dead,.dead,.dead,.dead,.dead,.dead,.dead,.dead,.dead,.dead,.dead,.dead,.dead,.dead,.dead,.dead,.dead,.dead,.dead,.slice .ro 13 a.1.2.2.2.2.length (gl e_api_Job a.1.2.2.2.2),.int .i64 (a.1.2.2.2.2.length : Int),.int .i64 x.1,.dead,.dead,.dead,.dead,.dead,.dead,.dead,.dead,.dead,.dead,.dead,.dead,.dead,.dead,.dead,.dead,.dead,.dead,.dead,.dead,.dead,.dead,.dead,.dead,.dead],[(1,true,[.str a.2.1]),(3,false,[.str ByteArray.empty,.int .i64 (0 : Int),.int .i64 (0 : Int),.int .i64 (0 : Int),.int .i64 (0 : Int),.int .i64 (0 : Int),.int .i64 (0 : Int),.slice (.own 11) 6 0 gnil]),(45,false,[.str x.2.1,.int .i64 x.2.2.1,.int .i64 x.2.2.2.1,.int .i64 x.2.2.2.2.1,.int .i64 x.2.2.2.2.2.1,.int .i64 x.2.2.2.2.2.2.1,.int .i64 x.2.2.2.2.2.2.2.1,.slice (.own 55) 6 x.2.2.2.2.2.2.2.2.length (gl e_agent_Item x.2.2.2.2.2.2.2.2)])],[(11,6,0),(55,6,x.2.2.2.2.2.2.2.2.length)]⟩
def f341.kills (a : T_api_State × ByteArray × T_ar3_i64) : List Hint := [.tell (Int × ByteArray × Int × Int × Int × Int × Int × Int × (List (T_agent_Item))) (f341.S0 a)]
def f341.cuts (a : T_api_State × ByteArray × T_ar3_i64) : List (Nat × Σ β : Type,β→Tm) := [(45008000008,⟨Unit,fun x => ⟨[],[],[]⟩⟩)]
def f341.af (a : T_api_State × ByteArray × T_ar3_i64) : AF := AF.mk (.seq (.region [oT 3 0 .box [0],
 oT 4 1 .box [1],
 oT 5 2 .box [2],
 oT 6 3 (.alloc [.str ByteArray.empty,.int .i64 (0),.int .i64 (0),.int .i64 (0),.int .i64 (0),.int .i64 (0),.int .i64 (0),.slice (.own 0) 6 0 gnil]) [],
 ⟨(some 7),12,.move,[.c (.int .i64 (0))],none⟩])
 (.seq (.seq (.region [oT 12 13 (.load true 5) [3],
 oT 13 14 (.call false 357) [12],
 oT 14 18 (.un .not) [13]])
 (.cond (.t 14) (.seq (.region [oT 15 19 (.build [.str ByteArray.empty,.int .i64 (0),.int .i64 (0),.int .i64 (0),.int .i64 (0),.int .i64 (0),.int .i64 (0),.slice .full 6 0 gnil] []) [],
 ⟨none,20,(.store 8),[.t 6,.t 15],none⟩,
 ⟨(some 7),21,.move,[.c (.int .i64 (1))],none⟩])
 (.ret)) (.skip)))
 (.seq (.region [oT 16 22 (.fieldAddr 2) [3],
 oT 17 23 (.load false 1) [16],
 oT 18 24 (.mkfunc 358 0) [4],
 oT 19 25 (.call false 203) [17,18],
 oT 8 29 .move [19]])
 (.seq (.seq (.region [oT 20 30 .move [8],
 ⟨(some 21),31,(.bin .lss),[.t 20,.c (.int .i64 (0))],none⟩])
 (.cond (.t 21) (.seq (.region [oT 22 32 (.build [.str ByteArray.empty,.int .i64 (0),.int .i64 (0),.int .i64 (0),.int .i64 (0),.int .i64 (0),.int .i64 (0),.slice .full 6 0 gnil] []) [],
 ⟨none,33,(.store 8),[.t 6,.t 22],none⟩,
 ⟨(some 7),34,.move,[.c (.int .i64 (7))],none⟩])
 (.ret)) (.skip)))
 (.seq (.region [oT 23 35 (.load false 1) [4],
 oT 24 36 (.load true 3) [5],
 oT 25 37 (.fieldAddr 2) [3],
 oT 26 38 (.load false 1) [25],
 oT 27 39 .move [8],
 oT 28 40 (.indexAddr 7 none) [26,27],
 oT 29 41 (.fieldAddr 0) [28],
 oT 30 42 (.fieldAddr 1) [29],
 oT 31 43 (.load true 3) [30],
 oT 32 44 (.build [.str ByteArray.empty,.int .i64 (0),.int .i64 (0),.int .i64 (0),.int .i64 (0),.int .i64 (0),.int .i64 (0),.slice .full 6 0 gnil] [(0,1),(1,3),(4,3)]) [23,24,31],
 oT 9 45 (.alloc [.str ByteArray.empty,.int .i64 (0),.int .i64 (0),.int .i64 (0),.int .i64 (0),.int .i64 (0),.int .i64 (0),.slice (.own 0) 6 0 gnil]) [],
 ⟨none,54,(.store 8),[.t 9,.t 32],none⟩])
 (.seq (.adopt 55 45 7) (.seq (.seq (.region [oT 33 56 (.fieldAddr 4) [3],
 oT 34 57 (.load false 1) [33],
 oT 35 58 (.len false) [34],
 ⟨(some 36),59,.move,[.c (.int .i64 (0))],none⟩])
 (.block 0 (.loopT (Int × ByteArray × Int × Int × Int × Int × Int × Int × (List (T_agent_Item))) (f341.S0 a) 60 101 (.seq (.region [oT 37 60 (.bin .lss) [36,35]])
 (.seq (.cond (.t 37) (.skip) (.exit 0))
 (.seq (.block 1 (.seq (.region [oT 38 61 (.indexAddr 13 none) [34,36],
 oT 39 62 (.load true 13) [38],
 oT 11 63 (.alloc [.str ByteArray.empty,.str ByteArray.empty,.int .i64 (0),.int .i64 (0),.int .i64 (0),.int .i64 (0),.slice (.own 0) 2 0 gnil,.str ByteArray.empty,.str ByteArray.empty,.int .i64 (0),.int .i64 (0),.str ByteArray.empty,.int .i64 (0)]) [],
 ⟨none,77,(.store 13),[.t 11,.t 39],none⟩])
 (.seq (.region [oT 40 78 (.fieldAddr 11) [11],
 oT 41 79 (.load false 1) [40],
 oT 42 80 (.load false 1) [4],
 oT 43 81 (.bin .eql) [41,42]])
 (.cond (.t 43) (.region [oT 44 82 (.fieldAddr 7) [9],
 oT 45 83 (.load false 1) [44],
 oT 46 84 (.fieldAddr 0) [11],
 oT 47 85 (.fieldAddr 0) [46],
 oT 48 86 (.load false 1) [47],
 oT 49 87 (.fieldAddr 10) [11],
 oT 50 88 (.load false 1) [49],
 oT 51 89 (.fieldAddr 12) [11],
 oT 52 90 (.load false 1) [51],
 oT 53 91 (.fieldAddr 0) [11],
 oT 54 92 (.fieldAddr 3) [53],
 oT 55 93 (.load true 3) [54],
 oT 56 94 (.build [.str ByteArray.empty,.int .i64 (0),.int .i64 (0),.int .i64 (0),.int .i64 (0),.int .i64 (0)] [(0,1),(1,1),(2,1),(3,3)]) [48,50,52,55],
 oT 57 95 (.buildSlice 6 1 [.str ByteArray.empty,.int .i64 (0),.int .i64 (0),.int .i64 (0),.int .i64 (0),.int .i64 (0)] [(0,6)]) [56],
 oT 58 96 (.append 6 56) [45,57],
 oT 59 97 (.fieldAddr 7) [9],
 ⟨none,98,(.store 1),[.t 59,.t 58],none⟩]) (.skip)))))
 (.region [⟨(some 60),99,(.bin .add),[.t 36,.c (.int .i64 (1))],none⟩,
 oT 36 100 .move [60]])))))))
 (.seq (.region [oT 61 101 (.load true 8) [9],
 ⟨none,102,(.store 8),[.t 6,.t 61],none⟩,
 ⟨(some 7),103,.move,[.c (.int .i64 (0))],none⟩])
 (.ret)))))))))
 [.cell 6 true 8,.tmp 7] 0 59
def f341.env : Env := [(357,f357.C),(203,f1203.C)]
def f341.tree (a : T_api_State × ByteArray × T_ar3_i64) : Prop := ∃ c1 : T_api_State,(a.1.1 = c1.1)∧(a.1.2.1 = c1.2.1)∧SlQ a.1.2.2.1.length c1.2.2.1.length (gl e_api_Machine a.1.2.2.1) (gl e_api_Machine c1.2.2.1) (SlQ a.1.2.2.2.1.length c1.2.2.2.1.length (gl e_api_Queue a.1.2.2.2.1) (gl e_api_Queue c1.2.2.2.1) (SlQ a.1.2.2.2.2.length c1.2.2.2.2.length (gl e_api_Job a.1.2.2.2.2) (gl e_api_Job c1.2.2.2.2) ((state_pre c1)∧Br (!(stateB c1)) ((ByteArray.empty = (((ofA a).1).1))∧((0 : Int) = ((((ofA a).1).2.1).1))∧((0 : Int) = ((((ofA a).1).2.1).2.1))∧((0 : Int) = ((((ofA a).1).2.1).2.2))∧((0 : Int) = ((((ofA a).1).2.2.1).1))∧((0 : Int) = ((((ofA a).1).2.2.1).2.1))∧((0 : Int) = ((((ofA a).1).2.2.1).2.2))∧SlQ 0 ((((ofA a).1).2.2.2).length) gnil (gl e_agent_Item (((ofA a).1).2.2.2)) (((1 : Int) = ((ofA a).2))∧True)) (∃ c5 : (List (T_api_Machine)) × ByteArray,SlQ a.1.2.2.1.length c5.1.length (gl e_api_Machine a.1.2.2.1) (gl e_api_Machine c5.1) ((DEqs [.eptr [.str a.2.1]] [.eptr [.str c5.2]])∧(LL20 c5)∧Br (decide ((ixMach c5) < (0 : Int))) ((ByteArray.empty = (((ofA a).1).1))∧((0 : Int) = ((((ofA a).1).2.1).1))∧((0 : Int) = ((((ofA a).1).2.1).2.1))∧((0 : Int) = ((((ofA a).1).2.1).2.2))∧((0 : Int) = ((((ofA a).1).2.2.1).1))∧((0 : Int) = ((((ofA a).1).2.2.1).2.1))∧((0 : Int) = ((((ofA a).1).2.2.1).2.2))∧SlQ 0 ((((ofA a).1).2.2.2).length) gnil (gl e_agent_Item (((ofA a).1).2.2.2)) (((7 : Int) = ((ofA a).2))∧True)) (Br (decide ((0 : Int)≤(ixMach c5)) && decide ((ixMach c5) < (a.1.2.2.1.length : Int))) (∃ (I11 : (Int × ByteArray × Int × Int × Int × Int × Int × Int × (List (T_agent_Item)))→Prop) (μ12 : (Int × ByteArray × Int × Int × Int × Int × Int × Int × (List (T_agent_Item)))→Nat),(∃ x10 : Int × ByteArray × Int × Int × Int × Int × Int × Int × (List (T_agent_Item)),SlS e_api_Job a.1.2.2.2.2 (((a.1.2.2.2.2.length : Int) = (a.1.2.2.2.2.length : Int))∧((0 : Int) = x10.1)∧(a.2.1 = a.2.1)∧(ByteArray.empty = ByteArray.empty)∧((0 : Int) = (0 : Int))∧((0 : Int) = (0 : Int))∧((0 : Int) = (0 : Int))∧((0 : Int) = (0 : Int))∧((0 : Int) = (0 : Int))∧((0 : Int) = (0 : Int))∧SlQ 0 0 gnil gnil ((a.2.1 = x10.2.1)∧(a.2.2.1 = x10.2.2.1)∧(a.2.2.2.1 = x10.2.2.2.1)∧(a.2.2.2.2 = x10.2.2.2.2.1)∧(((((at_ a.1.2.2.1 (ixMach c5)).1).2.1).1) = x10.2.2.2.2.2.1)∧(((((at_ a.1.2.2.1 (ixMach c5)).1).2.1).2.1) = x10.2.2.2.2.2.2.1)∧(((((at_ a.1.2.2.1 (ixMach c5)).1).2.1).2.2) = x10.2.2.2.2.2.2.2.1)∧SlQ 0 x10.2.2.2.2.2.2.2.2.length gnil (gl e_agent_Item x10.2.2.2.2.2.2.2.2) ((0 = 0)∧(0 = x10.2.2.2.2.2.2.2.2.length)∧I11 x10))))∧∀ y13 : Int × ByteArray × Int × Int × Int × Int × Int × Int × (List (T_agent_Item)),I11 y13→(Br (decide (y13.1 < (a.1.2.2.2.2.length : Int))) (Br (decide ((0 : Int)≤y13.1) && decide (y13.1 < (a.1.2.2.2.2.length : Int))) (Br (((at_ a.1.2.2.2.2 y13.1).2.2.1).toList == a.2.1.toList) ((y13.2.2.2.2.2.2.2.2.length = y13.2.2.2.2.2.2.2.2.length∧room ((y13.2.2.2.2.2.2.2.2.length + 1) * 56))∧(Let (IntKind.i64.wrap (y13.1 + (1 : Int))) (fun v19 : Int => ∃ x20 : Int × ByteArray × Int × Int × Int × Int × Int × Int × (List (T_agent_Item)),SlS e_api_Job a.1.2.2.2.2 (((a.1.2.2.2.2.length : Int) = (a.1.2.2.2.2.length : Int))∧(v19 = x20.1)∧(a.2.1 = a.2.1)∧(ByteArray.empty = ByteArray.empty)∧((0 : Int) = (0 : Int))∧((0 : Int) = (0 : Int))∧((0 : Int) = (0 : Int))∧((0 : Int) = (0 : Int))∧((0 : Int) = (0 : Int))∧((0 : Int) = (0 : Int))∧SlQ 0 0 gnil gnil ((y13.2.1 = x20.2.1)∧(y13.2.2.1 = x20.2.2.1)∧(y13.2.2.2.1 = x20.2.2.2.1)∧(y13.2.2.2.2.1 = x20.2.2.2.2.1)∧(y13.2.2.2.2.2.1 = x20.2.2.2.2.2.1)∧(y13.2.2.2.2.2.2.1 = x20.2.2.2.2.2.2.1)∧(y13.2.2.2.2.2.2.2.1 = x20.2.2.2.2.2.2.2.1)∧SlQ (y13.2.2.2.2.2.2.2.2.length + 1) x20.2.2.2.2.2.2.2.2.length (gapp (gl e_agent_Item y13.2.2.2.2.2.2.2.2) y13.2.2.2.2.2.2.2.2.length (fun _ => [.str (((at_ a.1.2.2.2.2 y13.1).1).1),.int .i64 ((at_ a.1.2.2.2.2 y13.1).2.1),.int .i64 ((at_ a.1.2.2.2.2 y13.1).2.2.2),.int .i64 ((((at_ a.1.2.2.2.2 y13.1).1).2.2.2.1).1),.int .i64 ((((at_ a.1.2.2.2.2 y13.1).1).2.2.2.1).2.1),.int .i64 ((((at_ a.1.2.2.2.2 y13.1).1).2.2.2.1).2.2)])) (gl e_agent_Item x20.2.2.2.2.2.2.2.2) ((0 = 0)∧((y13.2.2.2.2.2.2.2.2.length + 1) = x20.2.2.2.2.2.2.2.2.length)∧I11 x20∧μ12 x20 < μ12 y13)))))) (Let (IntKind.i64.wrap (y13.1 + (1 : Int))) (fun v25 : Int => ∃ x26 : Int × ByteArray × Int × Int × Int × Int × Int × Int × (List (T_agent_Item)),SlS e_api_Job a.1.2.2.2.2 (((a.1.2.2.2.2.length : Int) = (a.1.2.2.2.2.length : Int))∧(v25 = x26.1)∧(a.2.1 = a.2.1)∧(ByteArray.empty = ByteArray.empty)∧((0 : Int) = (0 : Int))∧((0 : Int) = (0 : Int))∧((0 : Int) = (0 : Int))∧((0 : Int) = (0 : Int))∧((0 : Int) = (0 : Int))∧((0 : Int) = (0 : Int))∧SlQ 0 0 gnil gnil ((y13.2.1 = x26.2.1)∧(y13.2.2.1 = x26.2.2.1)∧(y13.2.2.2.1 = x26.2.2.2.1)∧(y13.2.2.2.2.1 = x26.2.2.2.2.1)∧(y13.2.2.2.2.2.1 = x26.2.2.2.2.2.1)∧(y13.2.2.2.2.2.2.1 = x26.2.2.2.2.2.2.1)∧(y13.2.2.2.2.2.2.2.1 = x26.2.2.2.2.2.2.2.1)∧SlQ y13.2.2.2.2.2.2.2.2.length x26.2.2.2.2.2.2.2.2.length (gl e_agent_Item y13.2.2.2.2.2.2.2.2) (gl e_agent_Item x26.2.2.2.2.2.2.2.2) ((0 = 0)∧(y13.2.2.2.2.2.2.2.2.length = x26.2.2.2.2.2.2.2.2.length)∧I11 x26∧μ12 x26 < μ12 y13)))))) False) ((y13.2.1 = (((ofA a).1).1))∧(y13.2.2.1 = ((((ofA a).1).2.1).1))∧(y13.2.2.2.1 = ((((ofA a).1).2.1).2.1))∧(y13.2.2.2.2.1 = ((((ofA a).1).2.1).2.2))∧(y13.2.2.2.2.2.1 = ((((ofA a).1).2.2.1).1))∧(y13.2.2.2.2.2.2.1 = ((((ofA a).1).2.2.1).2.1))∧(y13.2.2.2.2.2.2.2.1 = ((((ofA a).1).2.2.1).2.2))∧SlQ y13.2.2.2.2.2.2.2.2.length ((((ofA a).1).2.2.2).length) (gl e_agent_Item y13.2.2.2.2.2.2.2.2) (gl e_agent_Item (((ofA a).1).2.2.2)) (((0 : Int) = ((ofA a).2))∧True)))) False))))))
def f341.vc (a : T_api_State × ByteArray × T_ar3_i64) : Prop := (state_pre a.1∧((¬ ((stateB (a.1)) = true)→(((ByteArray.empty,((0 : Int),(0 : Int),(0 : Int)),((0 : Int),(0 : Int),(0 : Int)),[]),(1 : Int)) = ofA a))∧(¬ (¬ ((stateB (a.1)) = true))→(LL20 (a.1.2.2.1,a.2.1)∧(((ixMach (a.1.2.2.1,a.2.1)) < (0 : Int)→(((ByteArray.empty,((0 : Int),(0 : Int),(0 : Int)),((0 : Int),(0 : Int),(0 : Int)),[]),(7 : Int)) = ofA a))∧(¬ ((ixMach (a.1.2.2.1,a.2.1)) < (0 : Int))→((0 : Int)≤(ixMach (a.1.2.2.1,a.2.1))∧(ixMach (a.1.2.2.1,a.2.1)) < (a.1.2.2.1.length : Int)∧(∃ (I11 : (Int × ByteArray × Int × Int × Int × Int × Int × Int × (List (T_agent_Item)))→Prop) (μ12 : (Int × ByteArray × Int × Int × Int × Int × Int × Int × (List (T_agent_Item)))→Nat),I11 ((0 : Int),a.2.1,a.2.2.1,a.2.2.2.1,a.2.2.2.2,(((at_ a.1.2.2.1 (ixMach (a.1.2.2.1,a.2.1))).1).2.1).1,(((at_ a.1.2.2.1 (ixMach (a.1.2.2.1,a.2.1))).1).2.1).2.1,(((at_ a.1.2.2.1 (ixMach (a.1.2.2.1,a.2.1))).1).2.1).2.2,[])∧∀ y13 : Int × ByteArray × Int × Int × Int × Int × Int × Int × (List (T_agent_Item)),I11 y13→((y13.1 < (a.1.2.2.2.2.length : Int)→((0 : Int)≤y13.1∧y13.1 < (a.1.2.2.2.2.length : Int)∧((((at_ a.1.2.2.2.2 y13.1).2.2.1) = a.2.1→(y13.2.2.2.2.2.2.2.2.length + 1≤1073741824∧(-9223372036854775808≤(y13.1 + (1 : Int))∧(y13.1 + (1 : Int))≤9223372036854775807∧(I11 ((y13.1 + (1 : Int)),y13.2.1,y13.2.2.1,y13.2.2.2.1,y13.2.2.2.2.1,y13.2.2.2.2.2.1,y13.2.2.2.2.2.2.1,y13.2.2.2.2.2.2.2.1,y13.2.2.2.2.2.2.2.2 ++ ([(((at_ a.1.2.2.2.2 y13.1).1).1,(at_ a.1.2.2.2.2 y13.1).2.1,(at_ a.1.2.2.2.2 y13.1).2.2.2,(((at_ a.1.2.2.2.2 y13.1).1).2.2.2.1))]))∧μ12 ((y13.1 + (1 : Int)),y13.2.1,y13.2.2.1,y13.2.2.2.1,y13.2.2.2.2.1,y13.2.2.2.2.2.1,y13.2.2.2.2.2.2.1,y13.2.2.2.2.2.2.2.1,y13.2.2.2.2.2.2.2.2 ++ ([(((at_ a.1.2.2.2.2 y13.1).1).1,(at_ a.1.2.2.2.2 y13.1).2.1,(at_ a.1.2.2.2.2 y13.1).2.2.2,(((at_ a.1.2.2.2.2 y13.1).1).2.2.2.1))])) < μ12 y13))))∧(¬ (((at_ a.1.2.2.2.2 y13.1).2.2.1) = a.2.1)→(-9223372036854775808≤(y13.1 + (1 : Int))∧(y13.1 + (1 : Int))≤9223372036854775807∧(I11 ((y13.1 + (1 : Int)),y13.2.1,y13.2.2.1,y13.2.2.2.1,y13.2.2.2.2.1,y13.2.2.2.2.2.1,y13.2.2.2.2.2.2.1,y13.2.2.2.2.2.2.2.1,y13.2.2.2.2.2.2.2.2)∧μ12 ((y13.1 + (1 : Int)),y13.2.1,y13.2.2.1,y13.2.2.2.1,y13.2.2.2.2.1,y13.2.2.2.2.2.1,y13.2.2.2.2.2.2.1,y13.2.2.2.2.2.2.2.1,y13.2.2.2.2.2.2.2.2) < μ12 y13))))))∧(¬ (y13.1 < (a.1.2.2.2.2.length : Int))→(((y13.2.1,(y13.2.2.1,y13.2.2.2.1,y13.2.2.2.2.1),(y13.2.2.2.2.2.1,y13.2.2.2.2.2.2.1,y13.2.2.2.2.2.2.2.1),y13.2.2.2.2.2.2.2.2),(0 : Int)) = ofA a)))))))))))
set_option maxRecDepth 100000 in
set_option maxHeartbeats 2000000 in
theorem f341.of (a : T_api_State × ByteArray × T_ar3_i64) (h : f341.vc a) : f341.tree a := ⟨a.1,⟨rfl,⟨rfl,slQ (Rds.self (enc := e_api_Machine)) (slQ (Rds.self (enc := e_api_Queue)) (slQ (Rds.self (enc := e_api_Job)) (⟨h.1,br h.2 (Cnd.not Cnd.b) (fun h2 k44 => ⟨(congrArg (fun x : T_agent_Order × Int => x.1.1) k44 :),⟨(congrArg (fun x : T_agent_Order × Int => x.1.2.1.1) k44 :),⟨(congrArg (fun x : T_agent_Order × Int => x.1.2.1.2.1) k44 :),⟨(congrArg (fun x : T_agent_Order × Int => x.1.2.1.2.2) k44 :),⟨(congrArg (fun x : T_agent_Order × Int => x.1.2.2.1.1) k44 :),⟨(congrArg (fun x : T_agent_Order × Int => x.1.2.2.1.2.1) k44 :),⟨(congrArg (fun x : T_agent_Order × Int => x.1.2.2.1.2.2) k44 :),slQ (Rds.to (Rds.nil (enc := e_agent_Item)) (congrArg (fun x : T_agent_Order × Int => x.1.2.2.2) k44 :)) (⟨(congrArg (fun x : T_agent_Order × Int => x.2) k44 :),trivial⟩)⟩⟩⟩⟩⟩⟩⟩) (fun h3 k45 => ⟨(a.1.2.2.1,a.2.1),slQ (Rds.self (enc := e_api_Machine)) (⟨(DEqs.refl _),⟨k45.1,br k45.2 Cnd.dec (fun h6 k41 => ⟨(congrArg (fun x : T_agent_Order × Int => x.1.1) k41 :),⟨(congrArg (fun x : T_agent_Order × Int => x.1.2.1.1) k41 :),⟨(congrArg (fun x : T_agent_Order × Int => x.1.2.1.2.1) k41 :),⟨(congrArg (fun x : T_agent_Order × Int => x.1.2.1.2.2) k41 :),⟨(congrArg (fun x : T_agent_Order × Int => x.1.2.2.1.1) k41 :),⟨(congrArg (fun x : T_agent_Order × Int => x.1.2.2.1.2.1) k41 :),⟨(congrArg (fun x : T_agent_Order × Int => x.1.2.2.1.2.2) k41 :),slQ (Rds.to (Rds.nil (enc := e_agent_Item)) (congrArg (fun x : T_agent_Order × Int => x.1.2.2.2) k41 :)) (⟨(congrArg (fun x : T_agent_Order × Int => x.2) k41 :),trivial⟩)⟩⟩⟩⟩⟩⟩⟩) (fun h7 k42 => chk k42.2.2 Cnd.ix ⟨k42.1,k42.2.1⟩ (fun h9 k40 => Exists.elim k40 (fun I11 h37_ => Exists.elim h37_ (fun μ12 h37 => ⟨I11,μ12,⟨((0 : Int),a.2.1,a.2.2.1,a.2.2.2.1,a.2.2.2.2,(((at_ a.1.2.2.1 (ixMach (a.1.2.2.1,a.2.1))).1).2.1).1,(((at_ a.1.2.2.1 (ixMach (a.1.2.2.1,a.2.1))).1).2.1).2.1,(((at_ a.1.2.2.1 (ixMach (a.1.2.2.1,a.2.1))).1).2.1).2.2,[]),SlS.mk  (⟨rfl,⟨rfl,⟨rfl,⟨rfl,⟨rfl,⟨rfl,⟨rfl,⟨rfl,⟨rfl,⟨rfl,slQ ⟨rfl,fun _ _ => DEqs.refl _⟩ (⟨rfl,⟨rfl,⟨rfl,⟨rfl,⟨rfl,⟨rfl,⟨rfl,slQ (Rds.nil (enc := e_agent_Item)) (⟨rfl,⟨(numR gnil (Rds.nil (enc := e_agent_Item))),h37.1⟩⟩)⟩⟩⟩⟩⟩⟩⟩)⟩⟩⟩⟩⟩⟩⟩⟩⟩⟩)⟩,fun y13 h39 => br (h37.2 y13 h39) Cnd.dec (fun h14 k35 => chk k35.2.2 Cnd.ix ⟨k35.1,k35.2.1⟩ (fun h16 k33 => br k33 Cnd.seq (fun h17 k31 => ⟨⟨rfl,(room_of k31.1 (by decide))⟩,wrapK.i64 k31.2 (fun h22 h23 k24 => ⟨((y13.1 + (1 : Int)),y13.2.1,y13.2.2.1,y13.2.2.2.1,y13.2.2.2.2.1,y13.2.2.2.2.2.1,y13.2.2.2.2.2.2.1,y13.2.2.2.2.2.2.2.1,y13.2.2.2.2.2.2.2.2 ++ ([(((at_ a.1.2.2.2.2 y13.1).1).1,(at_ a.1.2.2.2.2 y13.1).2.1,(at_ a.1.2.2.2.2 y13.1).2.2.2,(((at_ a.1.2.2.2.2 y13.1).1).2.2.2.1))])),SlS.mk  (⟨rfl,⟨rfl,⟨rfl,⟨rfl,⟨rfl,⟨rfl,⟨rfl,⟨rfl,⟨rfl,⟨rfl,slQ ⟨rfl,fun _ _ => DEqs.refl _⟩ (⟨rfl,⟨rfl,⟨rfl,⟨rfl,⟨rfl,⟨rfl,⟨rfl,slQ (Rds.app (enc := e_agent_Item) (Rds.self (enc := e_agent_Item)) (Rds.one (enc := e_agent_Item) (DEqs.refl _))) (⟨rfl,⟨(numR (gapp (gl e_agent_Item y13.2.2.2.2.2.2.2.2) y13.2.2.2.2.2.2.2.2.length (fun _ => [.str (((at_ a.1.2.2.2.2 y13.1).1).1),.int .i64 ((at_ a.1.2.2.2.2 y13.1).2.1),.int .i64 ((at_ a.1.2.2.2.2 y13.1).2.2.2),.int .i64 ((((at_ a.1.2.2.2.2 y13.1).1).2.2.2.1).1),.int .i64 ((((at_ a.1.2.2.2.2 y13.1).1).2.2.2.1).2.1),.int .i64 ((((at_ a.1.2.2.2.2 y13.1).1).2.2.2.1).2.2)])) (Rds.app (enc := e_agent_Item) (Rds.self (enc := e_agent_Item)) (Rds.one (enc := e_agent_Item) (DEqs.refl _)))),k24⟩⟩)⟩⟩⟩⟩⟩⟩⟩)⟩⟩⟩⟩⟩⟩⟩⟩⟩⟩)⟩)⟩) (fun h18 k32 => wrapK.i64 k32 (fun h28 h29 k30 => ⟨((y13.1 + (1 : Int)),y13.2.1,y13.2.2.1,y13.2.2.2.1,y13.2.2.2.2.1,y13.2.2.2.2.2.1,y13.2.2.2.2.2.2.1,y13.2.2.2.2.2.2.2.1,y13.2.2.2.2.2.2.2.2),SlS.mk  (⟨rfl,⟨rfl,⟨rfl,⟨rfl,⟨rfl,⟨rfl,⟨rfl,⟨rfl,⟨rfl,⟨rfl,slQ ⟨rfl,fun _ _ => DEqs.refl _⟩ (⟨rfl,⟨rfl,⟨rfl,⟨rfl,⟨rfl,⟨rfl,⟨rfl,slQ (Rds.self (enc := e_agent_Item)) (⟨rfl,⟨(numR (gl e_agent_Item y13.2.2.2.2.2.2.2.2) (Rds.self (enc := e_agent_Item))),k30⟩⟩)⟩⟩⟩⟩⟩⟩⟩)⟩⟩⟩⟩⟩⟩⟩⟩⟩⟩)⟩)))) (fun h15 k36 => ⟨(congrArg (fun x : T_agent_Order × Int => x.1.1) k36 :),⟨(congrArg (fun x : T_agent_Order × Int => x.1.2.1.1) k36 :),⟨(congrArg (fun x : T_agent_Order × Int => x.1.2.1.2.1) k36 :),⟨(congrArg (fun x : T_agent_Order × Int => x.1.2.1.2.2) k36 :),⟨(congrArg (fun x : T_agent_Order × Int => x.1.2.2.1.1) k36 :),⟨(congrArg (fun x : T_agent_Order × Int => x.1.2.2.1.2.1) k36 :),⟨(congrArg (fun x : T_agent_Order × Int => x.1.2.2.1.2.2) k36 :),slQ (Rds.to (Rds.self (enc := e_agent_Item)) (congrArg (fun x : T_agent_Order × Int => x.1.2.2.2) k36 :)) (⟨(congrArg (fun x : T_agent_Order × Int => x.2) k36 :),trivial⟩)⟩⟩⟩⟩⟩⟩⟩)⟩))))⟩⟩)⟩)⟩)))⟩⟩⟩
theorem f341.eq (a : T_api_State × ByteArray × T_ar3_i64) : (f341.af a).gives f341.env (f341.args a) (f341.blks a) (f341.res a) (f341.blks' a) = f341.tree a := by kernel_rfl
end Go.Abs

-- interregnum/interregnumref24.Of
namespace Go.Abs
open Go
def f342.args (a : T_api_State × ByteArray × (Int × Int × Int)) : List D := [.agg [.int .i64 a.1.1,.int .i64 a.1.2.1,.slice .ro 7 a.1.2.2.1.length (gl e_api_Machine a.1.2.2.1),.slice .ro 4 a.1.2.2.2.1.length (gl e_api_Queue a.1.2.2.2.1),.slice .ro 13 a.1.2.2.2.2.length (gl e_api_Job a.1.2.2.2.2)],.str a.2.1,.agg [.int .i64 a.2.2.1,.int .i64 a.2.2.2.1,.int .i64 a.2.2.2.2]]
def f342.blks (a : T_api_State × ByteArray × (Int × Int × Int)) : List (List D) := []
def f342.res (a : T_api_State × ByteArray × (Int × Int × Int)) : List D := [.agg [.str (((ofA a).1).1),.int .i64 ((((ofA a).1).2.1).1),.int .i64 ((((ofA a).1).2.1).2.1),.int .i64 ((((ofA a).1).2.1).2.2),.int .i64 ((((ofA a).1).2.2.1).1),.int .i64 ((((ofA a).1).2.2.1).2.1),.int .i64 ((((ofA a).1).2.2.1).2.2),.slice .ro 6 ((((ofA a).1).2.2.2).length) (gl e_interregnumref24_Item (((ofA a).1).2.2.2))],.int .i64 ((ofA a).2)]
def f342.blks' (a : T_api_State × ByteArray × (Int × Int × Int)) : List (List D) := []
def f342.C : Contract := FnC f342.args f342.blks (fun a => of_pre a) f342.res f342.blks'
end Go.Abs

/- interregnum/interregnumref24.Of -/
namespace Go.Abs
open Go
set_option linter.unusedVariables false
def f342.S0 (a : T_api_State × ByteArray × (Int × Int × Int)) (x : Int × ByteArray × Int × Int × Int × Int × Int × Int × (List (T_interregnumref24_Item))) : Tm := ⟨[.dead,.str a.2.1,.dead,.ptr 0 0,.dead,.ptr 1 0,.ptr 2 0,.dead,.dead,.dead,.dead,.dead,.dead,.dead,.dead,.dead,.dead,.dead,.int .i64 (a.1.2.2.1.length : Int),.int .i64 x.1,.dead,.dead,.dead,.dead,.dead,.dead,.dead,.dead,.dead,.dead,.dead,.dead,.dead,.dead,.dead,.dead,.dead,.dead,.dead,.dead,.dead,.dead,.dead,.dead,.dead,.dead,.dead,.dead,.dead,.dead,.dead,.dead,.dead,.dead,.dead,.dead,.dead,.dead,.dead,.dead,.dead,.dead,.dead,.dead,.dead,.dead,.dead,.dead,.dead,.dead,.dead,.dead,.dead,.dead,.dead,.dead],[(0,false,[.int .i64 a.1.1,.int .i64 a.1.2.1,.slice .ro 7 a.1.2.2.1.length (gl e_api_Machine a.1.2.2.1),.slice .ro 4 a.1.2.2.2.1.length (gl e_api_Queue a.1.2.2.2.1),.slice .ro 13 a.1.2.2.2.2.length (gl e_api_Job a.1.2.2.2.2)]),(1,false,[.int .i64 a.2.2.1,.int .i64 a.2.2.2.1,.int .i64 a.2.2.2.2]),(2,false,[.str x.2.1,.int .i64 x.2.2.1,.int .i64 x.2.2.2.1,.int .i64 x.2.2.2.2.1,.int .i64 x.2.2.2.2.2.1,.int .i64 x.2.2.2.2.2.2.1,.int .i64 x.2.2.2.2.2.2.2.1,.slice (.own 10) 6 x.2.2.2.2.2.2.2.2.length (gl e_interregnumref24_Item x.2.2.2.2.2.2.2.2)])],[(10,6,x.2.2.2.2.2.2.2.2.length)]⟩
def f342.S1 (a : T_api_State × ByteArray × (Int × Int × Int)) (x : Int × ByteArray × Int × Int × Int × Int × Int × Int × (List (T_interregnumref24_Item)) × ByteArray × Int × Int × Int × Int × Int × Int × (List (T_interregnumref24_Item))) : Tm := ⟨[.dead,.str a.2.1,.dead,.ptr 0 0,.dead,.dead,.ptr 2 0,.dead,.dead,.ptr 47 0,.dead,.dead,.dead,.dead,.dead,.dead,.dead,.dead,.dead,.dead,.dead,.dead,.dead,.dead,.dead,.dead,.dead,.dead,.dead,.dead,.dead,.dead,.dead,.dead,.dead,.dead,.dead,.dead,.dead,.dead,.dead,.dead,.dead,.int .i64 (a.1.2.2.2.2.length : Int),.int .i64 x.1,.dead,.dead,.dead,.dead,.dead,.dead,.dead,.dead,.dead,.dead,.dead,.dead,.dead,.dead,.dead,.dead,.dead,.dead,.dead,.dead,.dead,.dead,.dead,.dead,.dead,.dead,.dead,.dead,.dead,.dead,.dead],[(0,false,[.int .i64 a.1.1,.int .i64 a.1.2.1,.slice .ro 7 a.1.2.2.1.length (gl e_api_Machine a.1.2.2.1),.slice .ro 4 a.1.2.2.2.1.length (gl e_api_Queue a.1.2.2.2.1),.slice .ro 13 a.1.2.2.2.2.length (gl e_api_Job a.1.2.2.2.2)]),(2,false,[.str x.2.1,.int .i64 x.2.2.1,.int .i64 x.2.2.2.1,.int .i64 x.2.2.2.2.1,.int .i64 x.2.2.2.2.2.1,.int .i64 x.2.2.2.2.2.2.1,.int .i64 x.2.2.2.2.2.2.2.1,.slice (.own 10) 6 x.2.2.2.2.2.2.2.2.1.length (gl e_interregnumref24_Item x.2.2.2.2.2.2.2.2.1)]),(47,false,[.str x.2.2.2.2.2.2.2.2.2.1,.int .i64 x.2.2.2.2.2.2.2.2.2.2.1,.int .i64 x.2.2.2.2.2.2.2.2.2.2.2.1,.int .i64 x.2.2.2.2.2.2.2.2.2.2.2.2.1,.int .i64 x.2.2.2.2.2.2.2.2.2.2.2.2.2.1,.int .i64 x.2.2.2.2.2.2.2.2.2.2.2.2.2.2.1,.int .i64 x.2.2.2.2.2.2.2.2.2.2.2.2.2.2.2.1,.slice (.own 57) 6 x.2.2.2.2.2.2.2.2.2.2.2.2.2.2.2.2.length (gl e_interregnumref24_Item x.2.2.2.2.2.2.2.2.2.2.2.2.2.2.2.2)])],[(10,6,x.2.2.2.2.2.2.2.2.1.length),(57,6,x.2.2.2.2.2.2.2.2.2.2.2.2.2.2.2.2.length)]⟩
def f342.kills (a : T_api_State × ByteArray × (Int × Int × Int)) : List Hint := [.tell (Int × ByteArray × Int × Int × Int × Int × Int × Int × (List (T_interregnumref24_Item))) (f342.S0 a),
 .tell (Int × ByteArray × Int × Int × Int × Int × Int × Int × (List (T_interregnumref24_Item)) × ByteArray × Int × Int × Int × Int × Int × Int × (List (T_interregnumref24_Item))) (f342.S1 a)]
def f342.cuts (a : T_api_State × ByteArray × (Int × Int × Int)) : List (Nat × Σ β : Type,β→Tm) := [(47008000012,⟨Unit,fun x => ⟨[],[],[]⟩⟩)]
def f342.af (a : T_api_State × ByteArray × (Int × Int × Int)) : AF := AF.mk (.seq (.region [oT 3 0 .box [0],
 oT 5 1 .box [2],
 oT 6 2 (.alloc [.str ByteArray.empty,.int .i64 (0),.int .i64 (0),.int .i64 (0),.int .i64 (0),.int .i64 (0),.int .i64 (0),.slice (.own 0) 6 0 gnil]) [],
 ⟨(some 7),11,.move,[.c (.int .i64 (0))],none⟩])
 (.seq (.seq (.region [oT 12 12 (.load true 5) [3],
 oT 13 13 (.call false 359) [12],
 oT 14 17 (.un .not) [13]])
 (.cond (.t 14) (.seq (.region [oT 15 18 (.build [.str ByteArray.empty,.int .i64 (0),.int .i64 (0),.int .i64 (0),.int .i64 (0),.int .i64 (0),.int .i64 (0),.slice .full 6 0 gnil] []) [],
 ⟨none,19,(.store 8),[.t 6,.t 15],none⟩,
 ⟨(some 7),20,.move,[.c (.int .i64 (1))],none⟩])
 (.ret)) (.skip)))
 (.seq (.seq (.region [oT 16 21 (.fieldAddr 2) [3],
 oT 17 22 (.load false 1) [16],
 oT 18 23 (.len false) [17],
 ⟨(some 19),24,.move,[.c (.int .i64 (0))],none⟩])
 (.block 0 (.loopT (Int × ByteArray × Int × Int × Int × Int × Int × Int × (List (T_interregnumref24_Item))) (f342.S0 a) 25 113 (.seq (.region [oT 20 25 (.bin .lss) [19,18]])
 (.seq (.cond (.t 20) (.skip) (.exit 0))
 (.seq (.block 1 (.seq (.region [oT 21 26 .move [19],
 oT 8 27 .move [21]])
 (.seq (.seq (.region [oT 22 28 (.fieldAddr 2) [3],
 oT 23 29 (.load false 1) [22],
 oT 24 30 .move [8],
 oT 25 31 (.indexAddr 7 none) [23,24],
 oT 26 32 (.fieldAddr 0) [25],
 oT 27 33 (.fieldAddr 0) [26],
 oT 28 34 (.load false 1) [27],
 oT 29 35 .move [1],
 oT 30 36 (.bin .neq) [28,29]])
 (.cond (.t 30) (.exit 1) (.skip)))
 (.seq (.region [oT 31 37 .move [1],
 oT 32 38 (.load true 3) [5],
 oT 33 39 (.fieldAddr 2) [3],
 oT 34 40 (.load false 1) [33],
 oT 35 41 .move [8],
 oT 36 42 (.indexAddr 7 none) [34,35],
 oT 37 43 (.fieldAddr 0) [36],
 oT 38 44 (.fieldAddr 1) [37],
 oT 39 45 (.load true 3) [38],
 oT 40 46 (.build [.str ByteArray.empty,.int .i64 (0),.int .i64 (0),.int .i64 (0),.int .i64 (0),.int .i64 (0),.int .i64 (0),.slice .full 6 0 gnil] [(0,1),(1,3),(4,3)]) [31,32,39],
 oT 9 47 (.alloc [.str ByteArray.empty,.int .i64 (0),.int .i64 (0),.int .i64 (0),.int .i64 (0),.int .i64 (0),.int .i64 (0),.slice (.own 0) 6 0 gnil]) [],
 ⟨none,56,(.store 8),[.t 9,.t 40],none⟩])
 (.seq (.adopt 57 47 7) (.seq (.seq (.region [oT 41 58 (.fieldAddr 4) [3],
 oT 42 59 (.load false 1) [41],
 oT 43 60 (.len false) [42],
 ⟨(some 44),61,.move,[.c (.int .i64 (0))],none⟩])
 (.block 2 (.loopT (Int × ByteArray × Int × Int × Int × Int × Int × Int × (List (T_interregnumref24_Item)) × ByteArray × Int × Int × Int × Int × Int × Int × (List (T_interregnumref24_Item))) (f342.S1 a) 62 108 (.seq (.region [oT 45 62 (.bin .lss) [44,43]])
 (.seq (.cond (.t 45) (.skip) (.exit 2))
 (.seq (.block 3 (.seq (.region [oT 46 63 .move [44],
 oT 10 64 .move [46]])
 (.seq (.region [oT 47 65 (.fieldAddr 4) [3],
 oT 48 66 (.load false 1) [47],
 oT 49 67 .move [10],
 oT 50 68 (.indexAddr 13 none) [48,49],
 oT 51 69 (.load true 13) [50],
 oT 11 70 (.alloc [.str ByteArray.empty,.str ByteArray.empty,.int .i64 (0),.int .i64 (0),.int .i64 (0),.int .i64 (0),.slice (.own 0) 2 0 gnil,.str ByteArray.empty,.str ByteArray.empty,.int .i64 (0),.int .i64 (0),.str ByteArray.empty,.int .i64 (0)]) [],
 ⟨none,84,(.store 13),[.t 11,.t 51],none⟩])
 (.seq (.region [oT 52 85 (.fieldAddr 11) [11],
 oT 53 86 (.load false 1) [52],
 oT 54 87 .move [1],
 oT 55 88 (.bin .eql) [53,54]])
 (.cond (.t 55) (.region [oT 56 89 (.fieldAddr 7) [9],
 oT 57 90 (.load false 1) [56],
 oT 58 91 (.fieldAddr 0) [11],
 oT 59 92 (.fieldAddr 0) [58],
 oT 60 93 (.load false 1) [59],
 oT 61 94 (.fieldAddr 10) [11],
 oT 62 95 (.load false 1) [61],
 oT 63 96 (.fieldAddr 12) [11],
 oT 64 97 (.load false 1) [63],
 oT 65 98 (.fieldAddr 0) [11],
 oT 66 99 (.fieldAddr 3) [65],
 oT 67 100 (.load true 3) [66],
 oT 68 101 (.build [.str ByteArray.empty,.int .i64 (0),.int .i64 (0),.int .i64 (0),.int .i64 (0),.int .i64 (0)] [(0,1),(1,1),(2,1),(3,3)]) [60,62,64,67],
 oT 69 102 (.buildSlice 6 1 [.str ByteArray.empty,.int .i64 (0),.int .i64 (0),.int .i64 (0),.int .i64 (0),.int .i64 (0)] [(0,6)]) [68],
 oT 70 103 (.append 6 56) [57,69],
 oT 71 104 (.fieldAddr 7) [9],
 ⟨none,105,(.store 1),[.t 71,.t 70],none⟩]) (.skip))))))
 (.region [⟨(some 72),106,(.bin .add),[.t 44,.c (.int .i64 (1))],none⟩,
 oT 44 107 .move [72]])))))))
 (.seq (.region [oT 73 108 (.load true 8) [9],
 ⟨none,109,(.store 8),[.t 6,.t 73],none⟩,
 ⟨(some 7),110,.move,[.c (.int .i64 (0))],none⟩])
 (.ret))))))))
 (.region [⟨(some 74),111,(.bin .add),[.t 19,.c (.int .i64 (1))],none⟩,
 oT 19 112 .move [74]])))))))
 (.seq (.region [oT 75 113 (.build [.str ByteArray.empty,.int .i64 (0),.int .i64 (0),.int .i64 (0),.int .i64 (0),.int .i64 (0),.int .i64 (0),.slice .full 6 0 gnil] []) [],
 ⟨none,114,(.store 8),[.t 6,.t 75],none⟩,
 ⟨(some 7),115,.move,[.c (.int .i64 (7))],none⟩])
 (.ret)))))
 [.cell 6 true 8,.tmp 7] 0 73
def f342.env : Env := [(359,f359.C)]
def f342.tree (a : T_api_State × ByteArray × (Int × Int × Int)) : Prop := ∃ c1 : T_api_State,(a.1.1 = c1.1)∧(a.1.2.1 = c1.2.1)∧SlQ a.1.2.2.1.length c1.2.2.1.length (gl e_api_Machine a.1.2.2.1) (gl e_api_Machine c1.2.2.1) (SlQ a.1.2.2.2.1.length c1.2.2.2.1.length (gl e_api_Queue a.1.2.2.2.1) (gl e_api_Queue c1.2.2.2.1) (SlQ a.1.2.2.2.2.length c1.2.2.2.2.length (gl e_api_Job a.1.2.2.2.2) (gl e_api_Job c1.2.2.2.2) ((state_pre c1)∧Br (!(stateB c1)) ((ByteArray.empty = (((ofA a).1).1))∧((0 : Int) = ((((ofA a).1).2.1).1))∧((0 : Int) = ((((ofA a).1).2.1).2.1))∧((0 : Int) = ((((ofA a).1).2.1).2.2))∧((0 : Int) = ((((ofA a).1).2.2.1).1))∧((0 : Int) = ((((ofA a).1).2.2.1).2.1))∧((0 : Int) = ((((ofA a).1).2.2.1).2.2))∧SlQ 0 ((((ofA a).1).2.2.2).length) gnil (gl e_interregnumref24_Item (((ofA a).1).2.2.2)) (((1 : Int) = ((ofA a).2))∧True)) (∃ (I6 : (Int × ByteArray × Int × Int × Int × Int × Int × Int × (List (T_interregnumref24_Item)))→Prop) (μ7 : (Int × ByteArray × Int × Int × Int × Int × Int × Int × (List (T_interregnumref24_Item)))→Nat),(∃ x5 : Int × ByteArray × Int × Int × Int × Int × Int × Int × (List (T_interregnumref24_Item)),(a.2.1 = a.2.1)∧((a.1.2.2.1.length : Int) = (a.1.2.2.1.length : Int))∧((0 : Int) = x5.1)∧(a.1.1 = a.1.1)∧(a.1.2.1 = a.1.2.1)∧SlS e_api_Machine a.1.2.2.1 (SlS e_api_Queue a.1.2.2.2.1 (SlS e_api_Job a.1.2.2.2.2 ((a.2.2.1 = a.2.2.1)∧(a.2.2.2.1 = a.2.2.2.1)∧(a.2.2.2.2 = a.2.2.2.2)∧(ByteArray.empty = x5.2.1)∧((0 : Int) = x5.2.2.1)∧((0 : Int) = x5.2.2.2.1)∧((0 : Int) = x5.2.2.2.2.1)∧((0 : Int) = x5.2.2.2.2.2.1)∧((0 : Int) = x5.2.2.2.2.2.2.1)∧((0 : Int) = x5.2.2.2.2.2.2.2.1)∧SlQ 0 x5.2.2.2.2.2.2.2.2.length gnil (gl e_interregnumref24_Item x5.2.2.2.2.2.2.2.2) ((0 = x5.2.2.2.2.2.2.2.2.length)∧I6 x5)))))∧∀ y8 : Int × ByteArray × Int × Int × Int × Int × Int × Int × (List (T_interregnumref24_Item)),I6 y8→(Br (decide (y8.1 < (a.1.2.2.1.length : Int))) (Br (decide ((0 : Int)≤y8.1) && decide (y8.1 < (a.1.2.2.1.length : Int))) (Br (!((((at_ a.1.2.2.1 y8.1).1).1).toList == a.2.1.toList)) (Let (IntKind.i64.wrap (y8.1 + (1 : Int))) (fun v14 : Int => ∃ x15 : Int × ByteArray × Int × Int × Int × Int × Int × Int × (List (T_interregnumref24_Item)),(a.2.1 = a.2.1)∧((a.1.2.2.1.length : Int) = (a.1.2.2.1.length : Int))∧(v14 = x15.1)∧(a.1.1 = a.1.1)∧(a.1.2.1 = a.1.2.1)∧SlS e_api_Machine a.1.2.2.1 (SlS e_api_Queue a.1.2.2.2.1 (SlS e_api_Job a.1.2.2.2.2 ((a.2.2.1 = a.2.2.1)∧(a.2.2.2.1 = a.2.2.2.1)∧(a.2.2.2.2 = a.2.2.2.2)∧(y8.2.1 = x15.2.1)∧(y8.2.2.1 = x15.2.2.1)∧(y8.2.2.2.1 = x15.2.2.2.1)∧(y8.2.2.2.2.1 = x15.2.2.2.2.1)∧(y8.2.2.2.2.2.1 = x15.2.2.2.2.2.1)∧(y8.2.2.2.2.2.2.1 = x15.2.2.2.2.2.2.1)∧(y8.2.2.2.2.2.2.2.1 = x15.2.2.2.2.2.2.2.1)∧SlQ y8.2.2.2.2.2.2.2.2.length x15.2.2.2.2.2.2.2.2.length (gl e_interregnumref24_Item y8.2.2.2.2.2.2.2.2) (gl e_interregnumref24_Item x15.2.2.2.2.2.2.2.2) ((y8.2.2.2.2.2.2.2.2.length = x15.2.2.2.2.2.2.2.2.length)∧I6 x15∧μ7 x15 < μ7 y8)))))) (Br (decide ((0 : Int)≤y8.1) && decide (y8.1 < (a.1.2.2.1.length : Int))) (∃ (I22 : (Int × ByteArray × Int × Int × Int × Int × Int × Int × (List (T_interregnumref24_Item)) × ByteArray × Int × Int × Int × Int × Int × Int × (List (T_interregnumref24_Item)))→Prop) (μ23 : (Int × ByteArray × Int × Int × Int × Int × Int × Int × (List (T_interregnumref24_Item)) × ByteArray × Int × Int × Int × Int × Int × Int × (List (T_interregnumref24_Item)))→Nat),(∃ x21 : Int × ByteArray × Int × Int × Int × Int × Int × Int × (List (T_interregnumref24_Item)) × ByteArray × Int × Int × Int × Int × Int × Int × (List (T_interregnumref24_Item)),(a.2.1 = a.2.1)∧((a.1.2.2.2.2.length : Int) = (a.1.2.2.2.2.length : Int))∧((0 : Int) = x21.1)∧(a.1.1 = a.1.1)∧(a.1.2.1 = a.1.2.1)∧SlS e_api_Machine a.1.2.2.1 (SlS e_api_Queue a.1.2.2.2.1 (SlS e_api_Job a.1.2.2.2.2 ((y8.2.1 = x21.2.1)∧(y8.2.2.1 = x21.2.2.1)∧(y8.2.2.2.1 = x21.2.2.2.1)∧(y8.2.2.2.2.1 = x21.2.2.2.2.1)∧(y8.2.2.2.2.2.1 = x21.2.2.2.2.2.1)∧(y8.2.2.2.2.2.2.1 = x21.2.2.2.2.2.2.1)∧(y8.2.2.2.2.2.2.2.1 = x21.2.2.2.2.2.2.2.1)∧SlQ y8.2.2.2.2.2.2.2.2.length x21.2.2.2.2.2.2.2.2.1.length (gl e_interregnumref24_Item y8.2.2.2.2.2.2.2.2) (gl e_interregnumref24_Item x21.2.2.2.2.2.2.2.2.1) ((a.2.1 = x21.2.2.2.2.2.2.2.2.2.1)∧(a.2.2.1 = x21.2.2.2.2.2.2.2.2.2.2.1)∧(a.2.2.2.1 = x21.2.2.2.2.2.2.2.2.2.2.2.1)∧(a.2.2.2.2 = x21.2.2.2.2.2.2.2.2.2.2.2.2.1)∧(((((at_ a.1.2.2.1 y8.1).1).2.1).1) = x21.2.2.2.2.2.2.2.2.2.2.2.2.2.1)∧(((((at_ a.1.2.2.1 y8.1).1).2.1).2.1) = x21.2.2.2.2.2.2.2.2.2.2.2.2.2.2.1)∧(((((at_ a.1.2.2.1 y8.1).1).2.1).2.2) = x21.2.2.2.2.2.2.2.2.2.2.2.2.2.2.2.1)∧SlQ 0 x21.2.2.2.2.2.2.2.2.2.2.2.2.2.2.2.2.length gnil (gl e_interregnumref24_Item x21.2.2.2.2.2.2.2.2.2.2.2.2.2.2.2.2) ((y8.2.2.2.2.2.2.2.2.length = x21.2.2.2.2.2.2.2.2.1.length)∧(0 = x21.2.2.2.2.2.2.2.2.2.2.2.2.2.2.2.2.length)∧I22 x21))))))∧∀ y24 : Int × ByteArray × Int × Int × Int × Int × Int × Int × (List (T_interregnumref24_Item)) × ByteArray × Int × Int × Int × Int × Int × Int × (List (T_interregnumref24_Item)),I22 y24→(Br (decide (y24.1 < (a.1.2.2.2.2.length : Int))) (Br (decide ((0 : Int)≤y24.1) && decide (y24.1 < (a.1.2.2.2.2.length : Int))) (Br (((at_ a.1.2.2.2.2 y24.1).2.2.1).toList == a.2.1.toList) ((y24.2.2.2.2.2.2.2.2.2.2.2.2.2.2.2.2.length = y24.2.2.2.2.2.2.2.2.2.2.2.2.2.2.2.2.length∧room ((y24.2.2.2.2.2.2.2.2.2.2.2.2.2.2.2.2.length + 1) * 56))∧(Let (IntKind.i64.wrap (y24.1 + (1 : Int))) (fun v30 : Int => ∃ x31 : Int × ByteArray × Int × Int × Int × Int × Int × Int × (List (T_interregnumref24_Item)) × ByteArray × Int × Int × Int × Int × Int × Int × (List (T_interregnumref24_Item)),(a.2.1 = a.2.1)∧((a.1.2.2.2.2.length : Int) = (a.1.2.2.2.2.length : Int))∧(v30 = x31.1)∧(a.1.1 = a.1.1)∧(a.1.2.1 = a.1.2.1)∧SlS e_api_Machine a.1.2.2.1 (SlS e_api_Queue a.1.2.2.2.1 (SlS e_api_Job a.1.2.2.2.2 ((y24.2.1 = x31.2.1)∧(y24.2.2.1 = x31.2.2.1)∧(y24.2.2.2.1 = x31.2.2.2.1)∧(y24.2.2.2.2.1 = x31.2.2.2.2.1)∧(y24.2.2.2.2.2.1 = x31.2.2.2.2.2.1)∧(y24.2.2.2.2.2.2.1 = x31.2.2.2.2.2.2.1)∧(y24.2.2.2.2.2.2.2.1 = x31.2.2.2.2.2.2.2.1)∧SlQ y24.2.2.2.2.2.2.2.2.1.length x31.2.2.2.2.2.2.2.2.1.length (gl e_interregnumref24_Item y24.2.2.2.2.2.2.2.2.1) (gl e_interregnumref24_Item x31.2.2.2.2.2.2.2.2.1) ((y24.2.2.2.2.2.2.2.2.2.1 = x31.2.2.2.2.2.2.2.2.2.1)∧(y24.2.2.2.2.2.2.2.2.2.2.1 = x31.2.2.2.2.2.2.2.2.2.2.1)∧(y24.2.2.2.2.2.2.2.2.2.2.2.1 = x31.2.2.2.2.2.2.2.2.2.2.2.1)∧(y24.2.2.2.2.2.2.2.2.2.2.2.2.1 = x31.2.2.2.2.2.2.2.2.2.2.2.2.1)∧(y24.2.2.2.2.2.2.2.2.2.2.2.2.2.1 = x31.2.2.2.2.2.2.2.2.2.2.2.2.2.1)∧(y24.2.2.2.2.2.2.2.2.2.2.2.2.2.2.1 = x31.2.2.2.2.2.2.2.2.2.2.2.2.2.2.1)∧(y24.2.2.2.2.2.2.2.2.2.2.2.2.2.2.2.1 = x31.2.2.2.2.2.2.2.2.2.2.2.2.2.2.2.1)∧SlQ (y24.2.2.2.2.2.2.2.2.2.2.2.2.2.2.2.2.length + 1) x31.2.2.2.2.2.2.2.2.2.2.2.2.2.2.2.2.length (gapp (gl e_interregnumref24_Item y24.2.2.2.2.2.2.2.2.2.2.2.2.2.2.2.2) y24.2.2.2.2.2.2.2.2.2.2.2.2.2.2.2.2.length (fun _ => [.str (((at_ a.1.2.2.2.2 y24.1).1).1),.int .i64 ((at_ a.1.2.2.2.2 y24.1).2.1),.int .i64 ((at_ a.1.2.2.2.2 y24.1).2.2.2),.int .i64 ((((at_ a.1.2.2.2.2 y24.1).1).2.2.2.1).1),.int .i64 ((((at_ a.1.2.2.2.2 y24.1).1).2.2.2.1).2.1),.int .i64 ((((at_ a.1.2.2.2.2 y24.1).1).2.2.2.1).2.2)])) (gl e_interregnumref24_Item x31.2.2.2.2.2.2.2.2.2.2.2.2.2.2.2.2) ((y24.2.2.2.2.2.2.2.2.1.length = x31.2.2.2.2.2.2.2.2.1.length)∧((y24.2.2.2.2.2.2.2.2.2.2.2.2.2.2.2.2.length + 1) = x31.2.2.2.2.2.2.2.2.2.2.2.2.2.2.2.2.length)∧I22 x31∧μ23 x31 < μ23 y24)))))))) (Let (IntKind.i64.wrap (y24.1 + (1 : Int))) (fun v36 : Int => ∃ x37 : Int × ByteArray × Int × Int × Int × Int × Int × Int × (List (T_interregnumref24_Item)) × ByteArray × Int × Int × Int × Int × Int × Int × (List (T_interregnumref24_Item)),(a.2.1 = a.2.1)∧((a.1.2.2.2.2.length : Int) = (a.1.2.2.2.2.length : Int))∧(v36 = x37.1)∧(a.1.1 = a.1.1)∧(a.1.2.1 = a.1.2.1)∧SlS e_api_Machine a.1.2.2.1 (SlS e_api_Queue a.1.2.2.2.1 (SlS e_api_Job a.1.2.2.2.2 ((y24.2.1 = x37.2.1)∧(y24.2.2.1 = x37.2.2.1)∧(y24.2.2.2.1 = x37.2.2.2.1)∧(y24.2.2.2.2.1 = x37.2.2.2.2.1)∧(y24.2.2.2.2.2.1 = x37.2.2.2.2.2.1)∧(y24.2.2.2.2.2.2.1 = x37.2.2.2.2.2.2.1)∧(y24.2.2.2.2.2.2.2.1 = x37.2.2.2.2.2.2.2.1)∧SlQ y24.2.2.2.2.2.2.2.2.1.length x37.2.2.2.2.2.2.2.2.1.length (gl e_interregnumref24_Item y24.2.2.2.2.2.2.2.2.1) (gl e_interregnumref24_Item x37.2.2.2.2.2.2.2.2.1) ((y24.2.2.2.2.2.2.2.2.2.1 = x37.2.2.2.2.2.2.2.2.2.1)∧(y24.2.2.2.2.2.2.2.2.2.2.1 = x37.2.2.2.2.2.2.2.2.2.2.1)∧(y24.2.2.2.2.2.2.2.2.2.2.2.1 = x37.2.2.2.2.2.2.2.2.2.2.2.1)∧(y24.2.2.2.2.2.2.2.2.2.2.2.2.1 = x37.2.2.2.2.2.2.2.2.2.2.2.2.1)∧(y24.2.2.2.2.2.2.2.2.2.2.2.2.2.1 = x37.2.2.2.2.2.2.2.2.2.2.2.2.2.1)∧(y24.2.2.2.2.2.2.2.2.2.2.2.2.2.2.1 = x37.2.2.2.2.2.2.2.2.2.2.2.2.2.2.1)∧(y24.2.2.2.2.2.2.2.2.2.2.2.2.2.2.2.1 = x37.2.2.2.2.2.2.2.2.2.2.2.2.2.2.2.1)∧SlQ y24.2.2.2.2.2.2.2.2.2.2.2.2.2.2.2.2.length x37.2.2.2.2.2.2.2.2.2.2.2.2.2.2.2.2.length (gl e_interregnumref24_Item y24.2.2.2.2.2.2.2.2.2.2.2.2.2.2.2.2) (gl e_interregnumref24_Item x37.2.2.2.2.2.2.2.2.2.2.2.2.2.2.2.2) ((y24.2.2.2.2.2.2.2.2.1.length = x37.2.2.2.2.2.2.2.2.1.length)∧(y24.2.2.2.2.2.2.2.2.2.2.2.2.2.2.2.2.length = x37.2.2.2.2.2.2.2.2.2.2.2.2.2.2.2.2.length)∧I22 x37∧μ23 x37 < μ23 y24)))))))) False) ((y24.2.2.2.2.2.2.2.2.2.1 = (((ofA a).1).1))∧(y24.2.2.2.2.2.2.2.2.2.2.1 = ((((ofA a).1).2.1).1))∧(y24.2.2.2.2.2.2.2.2.2.2.2.1 = ((((ofA a).1).2.1).2.1))∧(y24.2.2.2.2.2.2.2.2.2.2.2.2.1 = ((((ofA a).1).2.1).2.2))∧(y24.2.2.2.2.2.2.2.2.2.2.2.2.2.1 = ((((ofA a).1).2.2.1).1))∧(y24.2.2.2.2.2.2.2.2.2.2.2.2.2.2.1 = ((((ofA a).1).2.2.1).2.1))∧(y24.2.2.2.2.2.2.2.2.2.2.2.2.2.2.2.1 = ((((ofA a).1).2.2.1).2.2))∧SlQ y24.2.2.2.2.2.2.2.2.2.2.2.2.2.2.2.2.length ((((ofA a).1).2.2.2).length) (gl e_interregnumref24_Item y24.2.2.2.2.2.2.2.2.2.2.2.2.2.2.2.2) (gl e_interregnumref24_Item (((ofA a).1).2.2.2)) (((0 : Int) = ((ofA a).2))∧True)))) False)) False) ((ByteArray.empty = (((ofA a).1).1))∧((0 : Int) = ((((ofA a).1).2.1).1))∧((0 : Int) = ((((ofA a).1).2.1).2.1))∧((0 : Int) = ((((ofA a).1).2.1).2.2))∧((0 : Int) = ((((ofA a).1).2.2.1).1))∧((0 : Int) = ((((ofA a).1).2.2.1).2.1))∧((0 : Int) = ((((ofA a).1).2.2.1).2.2))∧SlQ 0 ((((ofA a).1).2.2.2).length) gnil (gl e_interregnumref24_Item (((ofA a).1).2.2.2)) (((7 : Int) = ((ofA a).2))∧True)))))))
def f342.vc (a : T_api_State × ByteArray × (Int × Int × Int)) : Prop := (state_pre a.1∧((¬ ((stateB (a.1)) = true)→(((ByteArray.empty,((0 : Int),(0 : Int),(0 : Int)),((0 : Int),(0 : Int),(0 : Int)),[]),(1 : Int)) = ofA a))∧(¬ (¬ ((stateB (a.1)) = true))→(∃ (I6 : (Int × ByteArray × Int × Int × Int × Int × Int × Int × (List (T_interregnumref24_Item)))→Prop) (μ7 : (Int × ByteArray × Int × Int × Int × Int × Int × Int × (List (T_interregnumref24_Item)))→Nat),I6 ((0 : Int),ByteArray.empty,(0 : Int),(0 : Int),(0 : Int),(0 : Int),(0 : Int),(0 : Int),[])∧∀ y8 : Int × ByteArray × Int × Int × Int × Int × Int × Int × (List (T_interregnumref24_Item)),I6 y8→((y8.1 < (a.1.2.2.1.length : Int)→((0 : Int)≤y8.1∧y8.1 < (a.1.2.2.1.length : Int)∧((¬ ((((at_ a.1.2.2.1 y8.1).1).1) = a.2.1)→(-9223372036854775808≤(y8.1 + (1 : Int))∧(y8.1 + (1 : Int))≤9223372036854775807∧(I6 ((y8.1 + (1 : Int)),y8.2.1,y8.2.2.1,y8.2.2.2.1,y8.2.2.2.2.1,y8.2.2.2.2.2.1,y8.2.2.2.2.2.2.1,y8.2.2.2.2.2.2.2.1,y8.2.2.2.2.2.2.2.2)∧μ7 ((y8.1 + (1 : Int)),y8.2.1,y8.2.2.1,y8.2.2.2.1,y8.2.2.2.2.1,y8.2.2.2.2.2.1,y8.2.2.2.2.2.2.1,y8.2.2.2.2.2.2.2.1,y8.2.2.2.2.2.2.2.2) < μ7 y8)))∧(¬ (¬ ((((at_ a.1.2.2.1 y8.1).1).1) = a.2.1))→((0 : Int)≤y8.1∧y8.1 < (a.1.2.2.1.length : Int)∧(∃ (I22 : (Int × ByteArray × Int × Int × Int × Int × Int × Int × (List (T_interregnumref24_Item)) × ByteArray × Int × Int × Int × Int × Int × Int × (List (T_interregnumref24_Item)))→Prop) (μ23 : (Int × ByteArray × Int × Int × Int × Int × Int × Int × (List (T_interregnumref24_Item)) × ByteArray × Int × Int × Int × Int × Int × Int × (List (T_interregnumref24_Item)))→Nat),I22 ((0 : Int),y8.2.1,y8.2.2.1,y8.2.2.2.1,y8.2.2.2.2.1,y8.2.2.2.2.2.1,y8.2.2.2.2.2.2.1,y8.2.2.2.2.2.2.2.1,y8.2.2.2.2.2.2.2.2,a.2.1,a.2.2.1,a.2.2.2.1,a.2.2.2.2,(((at_ a.1.2.2.1 y8.1).1).2.1).1,(((at_ a.1.2.2.1 y8.1).1).2.1).2.1,(((at_ a.1.2.2.1 y8.1).1).2.1).2.2,[])∧∀ y24 : Int × ByteArray × Int × Int × Int × Int × Int × Int × (List (T_interregnumref24_Item)) × ByteArray × Int × Int × Int × Int × Int × Int × (List (T_interregnumref24_Item)),I22 y24→((y24.1 < (a.1.2.2.2.2.length : Int)→((0 : Int)≤y24.1∧y24.1 < (a.1.2.2.2.2.length : Int)∧((((at_ a.1.2.2.2.2 y24.1).2.2.1) = a.2.1→(y24.2.2.2.2.2.2.2.2.2.2.2.2.2.2.2.2.length + 1≤1073741824∧(-9223372036854775808≤(y24.1 + (1 : Int))∧(y24.1 + (1 : Int))≤9223372036854775807∧(I22 ((y24.1 + (1 : Int)),y24.2.1,y24.2.2.1,y24.2.2.2.1,y24.2.2.2.2.1,y24.2.2.2.2.2.1,y24.2.2.2.2.2.2.1,y24.2.2.2.2.2.2.2.1,y24.2.2.2.2.2.2.2.2.1,y24.2.2.2.2.2.2.2.2.2.1,y24.2.2.2.2.2.2.2.2.2.2.1,y24.2.2.2.2.2.2.2.2.2.2.2.1,y24.2.2.2.2.2.2.2.2.2.2.2.2.1,y24.2.2.2.2.2.2.2.2.2.2.2.2.2.1,y24.2.2.2.2.2.2.2.2.2.2.2.2.2.2.1,y24.2.2.2.2.2.2.2.2.2.2.2.2.2.2.2.1,y24.2.2.2.2.2.2.2.2.2.2.2.2.2.2.2.2 ++ ([(((at_ a.1.2.2.2.2 y24.1).1).1,(at_ a.1.2.2.2.2 y24.1).2.1,(at_ a.1.2.2.2.2 y24.1).2.2.2,(((at_ a.1.2.2.2.2 y24.1).1).2.2.2.1))]))∧μ23 ((y24.1 + (1 : Int)),y24.2.1,y24.2.2.1,y24.2.2.2.1,y24.2.2.2.2.1,y24.2.2.2.2.2.1,y24.2.2.2.2.2.2.1,y24.2.2.2.2.2.2.2.1,y24.2.2.2.2.2.2.2.2.1,y24.2.2.2.2.2.2.2.2.2.1,y24.2.2.2.2.2.2.2.2.2.2.1,y24.2.2.2.2.2.2.2.2.2.2.2.1,y24.2.2.2.2.2.2.2.2.2.2.2.2.1,y24.2.2.2.2.2.2.2.2.2.2.2.2.2.1,y24.2.2.2.2.2.2.2.2.2.2.2.2.2.2.1,y24.2.2.2.2.2.2.2.2.2.2.2.2.2.2.2.1,y24.2.2.2.2.2.2.2.2.2.2.2.2.2.2.2.2 ++ ([(((at_ a.1.2.2.2.2 y24.1).1).1,(at_ a.1.2.2.2.2 y24.1).2.1,(at_ a.1.2.2.2.2 y24.1).2.2.2,(((at_ a.1.2.2.2.2 y24.1).1).2.2.2.1))])) < μ23 y24))))∧(¬ (((at_ a.1.2.2.2.2 y24.1).2.2.1) = a.2.1)→(-9223372036854775808≤(y24.1 + (1 : Int))∧(y24.1 + (1 : Int))≤9223372036854775807∧(I22 ((y24.1 + (1 : Int)),y24.2.1,y24.2.2.1,y24.2.2.2.1,y24.2.2.2.2.1,y24.2.2.2.2.2.1,y24.2.2.2.2.2.2.1,y24.2.2.2.2.2.2.2.1,y24.2.2.2.2.2.2.2.2.1,y24.2.2.2.2.2.2.2.2.2.1,y24.2.2.2.2.2.2.2.2.2.2.1,y24.2.2.2.2.2.2.2.2.2.2.2.1,y24.2.2.2.2.2.2.2.2.2.2.2.2.1,y24.2.2.2.2.2.2.2.2.2.2.2.2.2.1,y24.2.2.2.2.2.2.2.2.2.2.2.2.2.2.1,y24.2.2.2.2.2.2.2.2.2.2.2.2.2.2.2.1,y24.2.2.2.2.2.2.2.2.2.2.2.2.2.2.2.2)∧μ23 ((y24.1 + (1 : Int)),y24.2.1,y24.2.2.1,y24.2.2.2.1,y24.2.2.2.2.1,y24.2.2.2.2.2.1,y24.2.2.2.2.2.2.1,y24.2.2.2.2.2.2.2.1,y24.2.2.2.2.2.2.2.2.1,y24.2.2.2.2.2.2.2.2.2.1,y24.2.2.2.2.2.2.2.2.2.2.1,y24.2.2.2.2.2.2.2.2.2.2.2.1,y24.2.2.2.2.2.2.2.2.2.2.2.2.1,y24.2.2.2.2.2.2.2.2.2.2.2.2.2.1,y24.2.2.2.2.2.2.2.2.2.2.2.2.2.2.1,y24.2.2.2.2.2.2.2.2.2.2.2.2.2.2.2.1,y24.2.2.2.2.2.2.2.2.2.2.2.2.2.2.2.2) < μ23 y24))))))∧(¬ (y24.1 < (a.1.2.2.2.2.length : Int))→(((y24.2.2.2.2.2.2.2.2.2.1,(y24.2.2.2.2.2.2.2.2.2.2.1,y24.2.2.2.2.2.2.2.2.2.2.2.1,y24.2.2.2.2.2.2.2.2.2.2.2.2.1),(y24.2.2.2.2.2.2.2.2.2.2.2.2.2.1,y24.2.2.2.2.2.2.2.2.2.2.2.2.2.2.1,y24.2.2.2.2.2.2.2.2.2.2.2.2.2.2.2.1),y24.2.2.2.2.2.2.2.2.2.2.2.2.2.2.2.2),(0 : Int)) = ofA a)))))))))∧(¬ (y8.1 < (a.1.2.2.1.length : Int))→(((ByteArray.empty,((0 : Int),(0 : Int),(0 : Int)),((0 : Int),(0 : Int),(0 : Int)),[]),(7 : Int)) = ofA a)))))))
set_option maxRecDepth 100000 in
set_option maxHeartbeats 2000000 in
theorem f342.of (a : T_api_State × ByteArray × (Int × Int × Int)) (h : f342.vc a) : f342.tree a := ⟨a.1,⟨rfl,⟨rfl,slQ (Rds.self (enc := e_api_Machine)) (slQ (Rds.self (enc := e_api_Queue)) (slQ (Rds.self (enc := e_api_Job)) (⟨h.1,br h.2 (Cnd.not Cnd.b) (fun h2 k61 => ⟨(congrArg (fun x : T_interregnumref24_Order × Int => x.1.1) k61 :),⟨(congrArg (fun x : T_interregnumref24_Order × Int => x.1.2.1.1) k61 :),⟨(congrArg (fun x : T_interregnumref24_Order × Int => x.1.2.1.2.1) k61 :),⟨(congrArg (fun x : T_interregnumref24_Order × Int => x.1.2.1.2.2) k61 :),⟨(congrArg (fun x : T_interregnumref24_Order × Int => x.1.2.2.1.1) k61 :),⟨(congrArg (fun x : T_interregnumref24_Order × Int => x.1.2.2.1.2.1) k61 :),⟨(congrArg (fun x : T_interregnumref24_Order × Int => x.1.2.2.1.2.2) k61 :),slQ (Rds.to (Rds.nil (enc := e_interregnumref24_Item)) (congrArg (fun x : T_interregnumref24_Order × Int => x.1.2.2.2) k61 :)) (⟨(congrArg (fun x : T_interregnumref24_Order × Int => x.2) k61 :),trivial⟩)⟩⟩⟩⟩⟩⟩⟩) (fun h3 k62 => Exists.elim k62 (fun I6 h58_ => Exists.elim h58_ (fun μ7 h58 => ⟨I6,μ7,⟨((0 : Int),ByteArray.empty,(0 : Int),(0 : Int),(0 : Int),(0 : Int),(0 : Int),(0 : Int),[]),⟨rfl,⟨rfl,⟨rfl,⟨rfl,⟨rfl,SlS.mk  (SlS.mk  (SlS.mk  (⟨rfl,⟨rfl,⟨rfl,⟨rfl,⟨rfl,⟨rfl,⟨rfl,⟨rfl,⟨rfl,⟨rfl,slQ (Rds.nil (enc := e_interregnumref24_Item)) (⟨(numR gnil (Rds.nil (enc := e_interregnumref24_Item))),h58.1⟩)⟩⟩⟩⟩⟩⟩⟩⟩⟩⟩)))⟩⟩⟩⟩⟩⟩,fun y8 h60 => br (h58.2 y8 h60) Cnd.dec (fun h9 k56 => chk k56.2.2 Cnd.ix ⟨k56.1,k56.2.1⟩ (fun h11 k54 => br k54 (Cnd.not Cnd.seq) (fun h12 k52 => wrapK.i64 k52 (fun h17 h18 k19 => ⟨((y8.1 + (1 : Int)),y8.2.1,y8.2.2.1,y8.2.2.2.1,y8.2.2.2.2.1,y8.2.2.2.2.2.1,y8.2.2.2.2.2.2.1,y8.2.2.2.2.2.2.2.1,y8.2.2.2.2.2.2.2.2),⟨rfl,⟨rfl,⟨rfl,⟨rfl,⟨rfl,SlS.mk  (SlS.mk  (SlS.mk  (⟨rfl,⟨rfl,⟨rfl,⟨rfl,⟨rfl,⟨rfl,⟨rfl,⟨rfl,⟨rfl,⟨rfl,slQ (Rds.self (enc := e_interregnumref24_Item)) (⟨(numR (gl e_interregnumref24_Item y8.2.2.2.2.2.2.2.2) (Rds.self (enc := e_interregnumref24_Item))),k19⟩)⟩⟩⟩⟩⟩⟩⟩⟩⟩⟩)))⟩⟩⟩⟩⟩⟩)) (fun h13 k53 => chk k53.2.2 Cnd.ix ⟨k53.1,k53.2.1⟩ (fun h20 k51 => Exists.elim k51 (fun I22 h48_ => Exists.elim h48_ (fun μ23 h48 => ⟨I22,μ23,⟨((0 : Int),y8.2.1,y8.2.2.1,y8.2.2.2.1,y8.2.2.2.2.1,y8.2.2.2.2.2.1,y8.2.2.2.2.2.2.1,y8.2.2.2.2.2.2.2.1,y8.2.2.2.2.2.2.2.2,a.2.1,a.2.2.1,a.2.2.2.1,a.2.2.2.2,(((at_ a.1.2.2.1 y8.1).1).2.1).1,(((at_ a.1.2.2.1 y8.1).1).2.1).2.1,(((at_ a.1.2.2.1 y8.1).1).2.1).2.2,[]),⟨rfl,⟨rfl,⟨rfl,⟨rfl,⟨rfl,SlS.mk  (SlS.mk  (SlS.mk  (⟨rfl,⟨rfl,⟨rfl,⟨rfl,⟨rfl,⟨rfl,⟨rfl,slQ (Rds.self (enc := e_interregnumref24_Item)) (⟨rfl,⟨rfl,⟨rfl,⟨rfl,⟨rfl,⟨rfl,⟨rfl,slQ (Rds.nil (enc := e_interregnumref24_Item)) (⟨(numR (gl e_interregnumref24_Item y8.2.2.2.2.2.2.2.2) (Rds.self (enc := e_interregnumref24_Item))),⟨(numR gnil (Rds.nil (enc := e_interregnumref24_Item))),h48.1⟩⟩)⟩⟩⟩⟩⟩⟩⟩)⟩⟩⟩⟩⟩⟩⟩)))⟩⟩⟩⟩⟩⟩,fun y24 h50 => br (h48.2 y24 h50) Cnd.dec (fun h25 k46 => chk k46.2.2 Cnd.ix ⟨k46.1,k46.2.1⟩ (fun h27 k44 => br k44 Cnd.seq (fun h28 k42 => ⟨⟨rfl,(room_of k42.1 (by decide))⟩,wrapK.i64 k42.2 (fun h33 h34 k35 => ⟨((y24.1 + (1 : Int)),y24.2.1,y24.2.2.1,y24.2.2.2.1,y24.2.2.2.2.1,y24.2.2.2.2.2.1,y24.2.2.2.2.2.2.1,y24.2.2.2.2.2.2.2.1,y24.2.2.2.2.2.2.2.2.1,y24.2.2.2.2.2.2.2.2.2.1,y24.2.2.2.2.2.2.2.2.2.2.1,y24.2.2.2.2.2.2.2.2.2.2.2.1,y24.2.2.2.2.2.2.2.2.2.2.2.2.1,y24.2.2.2.2.2.2.2.2.2.2.2.2.2.1,y24.2.2.2.2.2.2.2.2.2.2.2.2.2.2.1,y24.2.2.2.2.2.2.2.2.2.2.2.2.2.2.2.1,y24.2.2.2.2.2.2.2.2.2.2.2.2.2.2.2.2 ++ ([(((at_ a.1.2.2.2.2 y24.1).1).1,(at_ a.1.2.2.2.2 y24.1).2.1,(at_ a.1.2.2.2.2 y24.1).2.2.2,(((at_ a.1.2.2.2.2 y24.1).1).2.2.2.1))])),⟨rfl,⟨rfl,⟨rfl,⟨rfl,⟨rfl,SlS.mk  (SlS.mk  (SlS.mk  (⟨rfl,⟨rfl,⟨rfl,⟨rfl,⟨rfl,⟨rfl,⟨rfl,slQ (Rds.self (enc := e_interregnumref24_Item)) (⟨rfl,⟨rfl,⟨rfl,⟨rfl,⟨rfl,⟨rfl,⟨rfl,slQ (Rds.app (enc := e_interregnumref24_Item) (Rds.self (enc := e_interregnumref24_Item)) (Rds.one (enc := e_interregnumref24_Item) (DEqs.refl _))) (⟨(numR (gl e_interregnumref24_Item y24.2.2.2.2.2.2.2.2.1) (Rds.self (enc := e_interregnumref24_Item))),⟨(numR (gapp (gl e_interregnumref24_Item y24.2.2.2.2.2.2.2.2.2.2.2.2.2.2.2.2) y24.2.2.2.2.2.2.2.2.2.2.2.2.2.2.2.2.length (fun _ => [.str (((at_ a.1.2.2.2.2 y24.1).1).1),.int .i64 ((at_ a.1.2.2.2.2 y24.1).2.1),.int .i64 ((at_ a.1.2.2.2.2 y24.1).2.2.2),.int .i64 ((((at_ a.1.2.2.2.2 y24.1).1).2.2.2.1).1),.int .i64 ((((at_ a.1.2.2.2.2 y24.1).1).2.2.2.1).2.1),.int .i64 ((((at_ a.1.2.2.2.2 y24.1).1).2.2.2.1).2.2)])) (Rds.app (enc := e_interregnumref24_Item) (Rds.self (enc := e_interregnumref24_Item)) (Rds.one (enc := e_interregnumref24_Item) (DEqs.refl _)))),k35⟩⟩)⟩⟩⟩⟩⟩⟩⟩)⟩⟩⟩⟩⟩⟩⟩)))⟩⟩⟩⟩⟩⟩)⟩) (fun h29 k43 => wrapK.i64 k43 (fun h39 h40 k41 => ⟨((y24.1 + (1 : Int)),y24.2.1,y24.2.2.1,y24.2.2.2.1,y24.2.2.2.2.1,y24.2.2.2.2.2.1,y24.2.2.2.2.2.2.1,y24.2.2.2.2.2.2.2.1,y24.2.2.2.2.2.2.2.2.1,y24.2.2.2.2.2.2.2.2.2.1,y24.2.2.2.2.2.2.2.2.2.2.1,y24.2.2.2.2.2.2.2.2.2.2.2.1,y24.2.2.2.2.2.2.2.2.2.2.2.2.1,y24.2.2.2.2.2.2.2.2.2.2.2.2.2.1,y24.2.2.2.2.2.2.2.2.2.2.2.2.2.2.1,y24.2.2.2.2.2.2.2.2.2.2.2.2.2.2.2.1,y24.2.2.2.2.2.2.2.2.2.2.2.2.2.2.2.2),⟨rfl,⟨rfl,⟨rfl,⟨rfl,⟨rfl,SlS.mk  (SlS.mk  (SlS.mk  (⟨rfl,⟨rfl,⟨rfl,⟨rfl,⟨rfl,⟨rfl,⟨rfl,slQ (Rds.self (enc := e_interregnumref24_Item)) (⟨rfl,⟨rfl,⟨rfl,⟨rfl,⟨rfl,⟨rfl,⟨rfl,slQ (Rds.self (enc := e_interregnumref24_Item)) (⟨(numR (gl e_interregnumref24_Item y24.2.2.2.2.2.2.2.2.1) (Rds.self (enc := e_interregnumref24_Item))),⟨(numR (gl e_interregnumref24_Item y24.2.2.2.2.2.2.2.2.2.2.2.2.2.2.2.2) (Rds.self (enc := e_interregnumref24_Item))),k41⟩⟩)⟩⟩⟩⟩⟩⟩⟩)⟩⟩⟩⟩⟩⟩⟩)))⟩⟩⟩⟩⟩⟩)))) (fun h26 k47 => ⟨(congrArg (fun x : T_interregnumref24_Order × Int => x.1.1) k47 :),⟨(congrArg (fun x : T_interregnumref24_Order × Int => x.1.2.1.1) k47 :),⟨(congrArg (fun x : T_interregnumref24_Order × Int => x.1.2.1.2.1) k47 :),⟨(congrArg (fun x : T_interregnumref24_Order × Int => x.1.2.1.2.2) k47 :),⟨(congrArg (fun x : T_interregnumref24_Order × Int => x.1.2.2.1.1) k47 :),⟨(congrArg (fun x : T_interregnumref24_Order × Int => x.1.2.2.1.2.1) k47 :),⟨(congrArg (fun x : T_interregnumref24_Order × Int => x.1.2.2.1.2.2) k47 :),slQ (Rds.to (Rds.self (enc := e_interregnumref24_Item)) (congrArg (fun x : T_interregnumref24_Order × Int => x.1.2.2.2) k47 :)) (⟨(congrArg (fun x : T_interregnumref24_Order × Int => x.2) k47 :),trivial⟩)⟩⟩⟩⟩⟩⟩⟩)⟩)))))) (fun h10 k57 => ⟨(congrArg (fun x : T_interregnumref24_Order × Int => x.1.1) k57 :),⟨(congrArg (fun x : T_interregnumref24_Order × Int => x.1.2.1.1) k57 :),⟨(congrArg (fun x : T_interregnumref24_Order × Int => x.1.2.1.2.1) k57 :),⟨(congrArg (fun x : T_interregnumref24_Order × Int => x.1.2.1.2.2) k57 :),⟨(congrArg (fun x : T_interregnumref24_Order × Int => x.1.2.2.1.1) k57 :),⟨(congrArg (fun x : T_interregnumref24_Order × Int => x.1.2.2.1.2.1) k57 :),⟨(congrArg (fun x : T_interregnumref24_Order × Int => x.1.2.2.1.2.2) k57 :),slQ (Rds.to (Rds.nil (enc := e_interregnumref24_Item)) (congrArg (fun x : T_interregnumref24_Order × Int => x.1.2.2.2) k57 :)) (⟨(congrArg (fun x : T_interregnumref24_Order × Int => x.2) k57 :),trivial⟩)⟩⟩⟩⟩⟩⟩⟩)⟩)))⟩)))⟩⟩⟩
theorem f342.eq (a : T_api_State × ByteArray × (Int × Int × Int)) : (f342.af a).gives f342.env (f342.args a) (f342.blks a) (f342.res a) (f342.blks' a) = f342.tree a := by kernel_rfl
end Go.Abs

/- States and the orders that they tell: what the code asks is so. -/
namespace Go.Abs
open Go

theorem name_pos {n : ByteArray} (h : nameB n = true) : slt ByteArray.empty n = true := by
  have h1 : 1 ≤ n.size := by
    simp only [nameB,Bool.and_eq_true,decide_eq_true_eq] at h
    omega
  have h2 : n.toList ≠ [] := fun e => by
    have h3 : n.toList.length = n.size := by rw [toList_data,Array.length_toList]; rfl
    rw [e] at h3
    have h3 : 0 = n.size := h3
    omega
  unfold slt
  cases hn : n.toList with
  | nil => exact absurd hn h2
  | cons x l =>
    have : ByteArray.empty.toList = [] := by rw [toList_data]; rfl
    rw [this]
    rfl

theorem ofItems_yes {l : List TJob} {n : ByteArray} {i : Int} (h0 : 0 ≤ i) (h : i < (l.length : Int)) (e : (at_ l i).2.2.1 = n) : ofItems (l.take (i + 1).toNat) n = ofItems (l.take i.toNat) n ++ [((at_ l i).1.1,(at_ l i).2.1,(at_ l i).2.2.2,(at_ l i).1.2.2.2.1)] := by
  rw [take_at' h0 h]
  simp [ofItems,e]
theorem ofItems_no {l : List TJob} {n : ByteArray} {i : Int} (h0 : 0 ≤ i) (h : i < (l.length : Int)) (e : ¬ (at_ l i).2.2.1 = n) : ofItems (l.take (i + 1).toNat) n = ofItems (l.take i.toNat) n := by
  rw [take_at' h0 h]
  simp [ofItems,e]
theorem ofItems_len {l : List TJob} {n : ByteArray} (i : Nat) : (ofItems (l.take i) n).length ≤ i := by
  unfold ofItems
  rw [List.length_map]
  refine Nat.le_trans (List.length_filter_le _ _) ?_
  rw [List.length_take]
  omega

theorem of_val {s : TState} {n : ByteArray} {st : TRes} (h1 : stateB s = true) (h2 : ¬ machR (s,n) < 0) : ofA (s,n,st) = ((n,st,(at_ s.2.2.1 (machR (s,n))).1.2.1,ofItems s.2.2.2.2 n),0) := by
  unfold ofA
  rw [if_neg (not_not_intro h1),if_neg h2]
  rfl
theorem of_none {s : TState} {n : ByteArray} {st : TRes} (h1 : stateB s = true) (h2 : machR (s,n) < 0) : ofA (s,n,st) = ((ByteArray.empty,(0,0,0),(0,0,0),[]),7) := by
  unfold ofA
  rw [if_neg (not_not_intro h1),if_pos h2]
theorem of_bad {s : TState} {n : ByteArray} {st : TRes} (h1 : ¬ stateB s = true) : ofA (s,n,st) = ((ByteArray.empty,(0,0,0),(0,0,0),[]),1) := by
  unfold ofA
  rw [if_pos h1]

theorem f341.ok (a : TState × ByteArray × TRes) (h : of_pre a) : f341.vc a := by
  obtain ⟨s,n,s1,s2,s3⟩ := a
  have h : state_pre s := h
  have hl : s.2.2.2.2.length ≤ 1048576 := h.2.2.1
  unfold f341.vc
  refine ⟨h,fun c => (of_bad c).symm,fun c1 => ⟨h.1.1,fun c => (of_none (Classical.not_not.1 c1) c).symm,fun c2 => ?_⟩⟩
  obtain ⟨m0,m1,_⟩ := ixP_range _ _ c2
  refine ⟨m0,m1,fun y => (0 ≤ y.1 ∧ y.1 ≤ (s.2.2.2.2.length : Int)) ∧ y.2 = (n,s1,s2,s3,((at_ s.2.2.1 (ixMach (s.2.2.1,n))).1.2.1).1,((at_ s.2.2.1 (ixMach (s.2.2.1,n))).1.2.1).2.1,((at_ s.2.2.1 (ixMach (s.2.2.1,n))).1.2.1).2.2,ofItems (s.2.2.2.2.take y.1.toNat) n),fun y => s.2.2.2.2.length - y.1.toNat,⟨⟨Int.le_refl _,by simp⟩,rfl⟩,fun y hy => ?_⟩
  obtain ⟨i,y⟩ := y
  simp only at hy
  obtain ⟨⟨g0,g1⟩,rfl⟩ := hy
  have hlen := ofItems_len (l := s.2.2.2.2) (n := n) i.toNat
  simp only
  refine ⟨fun hlt => ⟨g0,hlt,fun d => ⟨by omega,by omega,by omega,⟨⟨by omega,by omega⟩,?_⟩,by omega⟩,fun d => ⟨by omega,by omega,⟨⟨by omega,by omega⟩,?_⟩,by omega⟩⟩,fun hge => ?_⟩
  · rw [ofItems_yes g0 hlt d]
  · rw [ofItems_no g0 hlt d]
  · rw [List.take_of_length_le (by omega)]
    exact (of_val (st := (s1,s2,s3)) (Classical.not_not.1 c1) c2).symm

theorem f342.ok (a : TState × ByteArray × TRes) (h : of_pre a) : f342.vc a := by
  obtain ⟨s,n,s1,s2,s3⟩ := a
  have h : state_pre s := h
  have hl : s.2.2.2.2.length ≤ 1048576 := h.2.2.1
  have hm : s.2.2.1.length ≤ 1048576 := h.1.1
  unfold f342.vc
  refine ⟨h,fun c => (of_bad c).symm,fun c1 => ?_⟩
  refine ⟨fun y => (0 ≤ y.1 ∧ y.1 ≤ (s.2.2.1.length : Int)) ∧ ∀ q : Nat,q < y.1.toNat → isMach (s.2.2.1.getD q default,n) = false,fun y => s.2.2.1.length - y.1.toNat,⟨⟨Int.le_refl _,by simp⟩,fun q hq => by simp at hq⟩,fun y hy => ?_⟩
  obtain ⟨k,y⟩ := y
  simp only at hy
  obtain ⟨⟨k0,k1⟩,k2⟩ := hy
  simp only
  refine ⟨fun hlt => ⟨k0,hlt,fun d => ⟨by omega,by omega,⟨⟨by omega,by omega⟩,fun q hq => ?_⟩,by omega⟩,fun d => ⟨k0,hlt,?_⟩⟩,fun hge => ?_⟩
  · by_cases hqk : q = k.toNat
    · subst hqk; exact decide_eq_false d
    · exact k2 q (by omega)
  · have d := Classical.not_not.1 d
    have hk : k = machR (s,n) := ixP_loop (fun m => isMach (m,n)) _ k k0 hlt k2 (decide_eq_true d)
    refine ⟨fun y => (0 ≤ y.1 ∧ y.1 ≤ (s.2.2.2.2.length : Int)) ∧ y.2.2.2.2.2.2.2.2.2 = (n,s1,s2,s3,((at_ s.2.2.1 k).1.2.1).1,((at_ s.2.2.1 k).1.2.1).2.1,((at_ s.2.2.1 k).1.2.1).2.2,ofItems (s.2.2.2.2.take y.1.toNat) n),fun y => s.2.2.2.2.length - y.1.toNat,⟨⟨Int.le_refl _,by simp⟩,rfl⟩,fun y hy => ?_⟩
    obtain ⟨i,y1,y2,y3,y4,y5,y6,y7,y8,y⟩ := y
    simp only at hy
    obtain ⟨⟨g0,g1⟩,rfl⟩ := hy
    have hlen := ofItems_len (l := s.2.2.2.2) (n := n) i.toNat
    simp only
    refine ⟨fun hlt => ⟨g0,hlt,fun d => ⟨by omega,by omega,by omega,⟨⟨by omega,by omega⟩,?_⟩,by omega⟩,fun d => ⟨by omega,by omega,⟨⟨by omega,by omega⟩,?_⟩,by omega⟩⟩,fun hge => ?_⟩
    · rw [ofItems_yes g0 hlt d]
    · rw [ofItems_no g0 hlt d]
    · rw [List.take_of_length_le (by omega),hk]
      exact (of_val (st := (s1,s2,s3)) (Classical.not_not.1 c1) (by rw [← hk]; omega)).symm
  · have : -1 = machR (s,n) := ixP_end (fun m => isMach (m,n)) _ fun q hq => k2 q (by have hq : q < s.2.2.1.length := hq; omega)
    exact (of_none (s := s) (st := (s1,s2,s3)) (Classical.not_not.1 c1) (by omega)).symm

theorem f359.ok (a : TState) (h : state_pre a) : f359.vc a := by
  have hM : a.2.2.1.length ≤ 1048576 := h.1.1
  have hQ : a.2.2.2.1.length ≤ 1048576 := h.2.1.1
  have hJ : a.2.2.2.2.length ≤ 1048576 := h.2.2.1
  have nm : ∀ i : Nat,i < a.2.2.1.length → ¬ machOk a i = true → false = stateB a := fun i hi hn => no_of fun hh => hn ((machsB_iff.1 (stateB_iff.1 hh).2.1).1 i hi)
  have nq : ∀ i : Nat,i < a.2.2.2.1.length → ¬ queueOk a i = true → false = stateB a := fun i hi hn => no_of fun hh => hn ((queuesB_iff.1 (stateB_iff.1 hh).2.2.1).1 i hi)
  have nj : ∀ i : Nat,i < a.2.2.2.2.length → ¬ jobOk a i = true → false = stateB a := fun i hi hn => no_of fun hh => hn ((jobsB_iff.1 (stateB_iff.1 hh).2.2.2).1 i hi)
  unfold f359.vc
  refine ⟨fun c => no_of fun hh => ?_,fun c1 => ⟨fun c => no_of fun hh => ?_,fun c2 => ⟨fun c => no_of fun hh => ?_,fun c3 => ⟨fun c => no_of fun hh => ?_,fun c4 => ⟨fun c => no_of fun hh => ?_,fun c5 => ⟨fun c => no_of fun hh => ?_,fun c6 => ⟨fun c => no_of fun hh => ?_,fun c7 => ?_⟩⟩⟩⟩⟩⟩⟩
  · have := (stateB_iff.1 hh).1; omega
  · have := (stateB_iff.1 hh).1; omega
  · have := (stateB_iff.1 hh).1; omega
  · have := (stateB_iff.1 hh).1; omega
  · have := (machsB_iff.1 (stateB_iff.1 hh).2.1).2; omega
  · have := (queuesB_iff.1 (stateB_iff.1 hh).2.2.1).2; omega
  · have := (jobsB_iff.1 (stateB_iff.1 hh).2.2.2).2; omega
  refine ⟨fun i => (0 ≤ i ∧ i ≤ (a.2.2.1.length : Int)) ∧ ∀ q : Nat,q < i.toNat → machOk a q = true,fun i => a.2.2.1.length - i.toNat,⟨⟨Int.le_refl _,by simp⟩,fun q hq => by simp at hq⟩,fun i hi => ?_⟩
  obtain ⟨⟨g0,g1⟩,g2⟩ := hi
  simp only
  refine ⟨fun hlt => ⟨g0,hlt,(h.1.2 _ (at_mem g0 hlt)).1,fun c => nm _ (by omega) fun hh => c (machOk_iff.1 hh).1,fun d1 => ⟨fun c => nm i.toNat (by omega) fun hh => ?_,fun d2 => ⟨fun c => nm i.toNat (by omega) fun hh => ?_,fun d3 => ?_⟩⟩⟩,fun hge => ?_⟩
  · have h1 := (machOk_iff.1 hh).2.1.1
    have c : (machAt a i.toNat).2.2 < 0 := c
    omega
  · have h1 := (machOk_iff.1 hh).2.1.2
    have c : 1073741828 < (machAt a i.toNat).2.2 := c
    omega
  · have d1 := Classical.not_not.1 d1
    refine share (r := slt (if i.toNat = 0 then ByteArray.empty else (machAt a (i.toNat - 1)).1.1) (machAt a i.toNat).1.1 = true) (fun k => ⟨by omega,by omega,by omega,by omega,fun q => nm i.toNat (by omega) fun hh => q ?_,fun q => ?_⟩) (fun k => ?_) fun hs => ⟨h.2.2.1,fun c => nm i.toNat (by omega) fun hh => c (machOk_iff.1 hh).2.2.2,fun d5 => ⟨by omega,by omega,⟨⟨by omega,by omega⟩,fun q hq => ?_⟩,by omega⟩⟩
    · have := (machOk_iff.1 hh).2.2.1
      rw [if_neg (by omega),show i.toNat - 1 = (i - 1).toNat from by omega] at this
      exact slt_iff.1 this
    · rw [if_neg (by omega),show i.toNat - 1 = (i - 1).toNat from by omega]
      exact slt_iff.2 (Classical.not_not.1 q)
    · rw [if_pos (by omega)]
      have d1 : nodeB (machAt a i.toNat).1 = true := d1
      simp only [nodeB,Bool.and_eq_true] at d1
      exact name_pos d1.1.1
    · by_cases hqi : q = i.toNat
      · subst hqi
        have d2 : ¬ (machAt a i.toNat).2.2 < 0 := d2
        have d3 : ¬ 1073741828 < (machAt a i.toNat).2.2 := d3
        exact machOk_iff.2 ⟨d1,⟨by omega,by omega⟩,hs,Classical.not_not.1 d5⟩
      · exact g2 q (by omega)
  have okM : machsB a = true := machsB_iff.2 ⟨fun q hq => g2 q (by omega),by omega⟩
  clear g0 g1 g2 hge
  refine ⟨fun i => (0 ≤ i ∧ i ≤ (a.2.2.2.1.length : Int)) ∧ ∀ q : Nat,q < i.toNat → queueOk a q = true,fun i => a.2.2.2.1.length - i.toNat,⟨⟨Int.le_refl _,by simp⟩,fun q hq => by simp at hq⟩,fun i hi => ?_⟩
  obtain ⟨⟨g0,g1⟩,g2⟩ := hi
  simp only
  refine ⟨fun hlt => ⟨g0,hlt,h.2.1.2 _ (at_mem g0 hlt),fun c => nq i.toNat (by omega) fun hh => c (queueOk_iff.1 hh).1,fun d1 => ?_⟩,fun hge => ?_⟩
  · have d1 := Classical.not_not.1 d1
    refine share (r := slt (if i.toNat = 0 then ByteArray.empty else (queueAt a (i.toNat - 1)).1) (queueAt a i.toNat).1 = true) (fun k => ⟨by omega,by omega,by omega,by omega,fun q => nq i.toNat (by omega) fun hh => q ?_,fun q => ?_⟩) (fun k => ?_) fun hs => ⟨h.2.2.1,fun c => nq i.toNat (by omega) fun hh => c (queueOk_iff.1 hh).2.2.1,fun d5 => ⟨fun c => nq i.toNat (by omega) fun hh => c (queueOk_iff.1 hh).2.2.2,fun d6 => ⟨by omega,by omega,⟨⟨by omega,by omega⟩,fun q hq => ?_⟩,by omega⟩⟩⟩
    · have := (queueOk_iff.1 hh).2.1
      rw [if_neg (by omega),show i.toNat - 1 = (i - 1).toNat from by omega] at this
      exact slt_iff.1 this
    · rw [if_neg (by omega),show i.toNat - 1 = (i - 1).toNat from by omega]
      exact slt_iff.2 (Classical.not_not.1 q)
    · rw [if_pos (by omega)]
      have d1 : queueB (queueAt a i.toNat) = true := d1
      simp only [queueB,Bool.and_eq_true] at d1
      exact name_pos d1.1
    · by_cases hqi : q = i.toNat
      · subst hqi
        exact queueOk_iff.2 ⟨d1,hs,Classical.not_not.1 d5,Classical.not_not.1 d6⟩
      · exact g2 q (by omega)
  have okQ : queuesB a = true := queuesB_iff.2 ⟨fun q hq => g2 q (by omega),by omega⟩
  clear g0 g1 g2 hge
  refine ⟨fun i => (0 ≤ i ∧ i ≤ (a.2.2.2.2.length : Int)) ∧ ∀ q : Nat,q < i.toNat → jobOk a q = true ∧ 1 ≤ (jobAt a q).2.1,fun i => a.2.2.2.2.length - i.toNat,⟨⟨Int.le_refl _,by simp⟩,fun q hq => by simp at hq⟩,fun i hi => ?_⟩
  obtain ⟨⟨g0,g1⟩,g2⟩ := hi
  simp only
  generalize hlast : (if i.toNat = 0 then 0 else (jobAt a (i.toNat - 1)).2.1) = last
  have seq : ∀ hh : jobOk a i.toNat = true,last < (at_ a.2.2.2.2 i).2.1 ∧ (at_ a.2.2.2.2 i).2.1 < a.2.1 ∧ 0 ≤ (at_ a.2.2.2.2 i).2.2.2 ∧ (at_ a.2.2.2.2 i).2.2.2 ≤ 1099511627776 := fun hh => by
    have := (jobOk_iff.1 hh).2.1
    rw [hlast] at this
    exact this
  have last0 : 0 ≤ last := by
    rw [← hlast]
    split
    · exact Int.le_refl _
    · have := (g2 (i.toNat - 1) (by omega)).2
      omega
  have fin : i < (a.2.2.2.2.length : Int) → 1 ≤ (at_ a.2.2.2.2 i).2.1 → jobOk a i.toNat = true → -9223372036854775808 ≤ (i + (1 : Int)) ∧ (i + (1 : Int)) ≤ 9223372036854775807 ∧ (((0 ≤ i + 1 ∧ i + 1 ≤ (a.2.2.2.2.length : Int)) ∧ ∀ q : Nat,q < (i + 1).toNat → jobOk a q = true ∧ 1 ≤ (jobAt a q).2.1) ∧ a.2.2.2.2.length - (i + 1).toNat < a.2.2.2.2.length - i.toNat) := fun hlt h1 hj => by
    refine ⟨by omega,by omega,⟨⟨by omega,by omega⟩,fun q hq => ?_⟩,by omega⟩
    by_cases hqi : q = i.toNat
    · subst hqi; exact ⟨hj,h1⟩
    · exact g2 q (by omega)
  refine ⟨fun hlt => ⟨g0,hlt,(h.2.2.2 _ (at_mem g0 hlt)).1,fun c => nj i.toNat (by omega) fun hh => c (jobOk_iff.1 hh).1,fun d1 => ⟨fun c => nj i.toNat (by omega) fun hh => by have := seq hh; omega,fun d2 => ⟨fun c => nj i.toNat (by omega) fun hh => by have := seq hh; omega,fun d3 => ?_⟩⟩⟩,fun hge => ?_⟩
  · refine share (r := last < (at_ a.2.2.2.2 i).2.1) (fun k => ⟨by omega,by omega,by omega,by omega,fun q => nj i.toNat (by omega) fun hh => ?_,fun q => ?_⟩) (fun k => ?_) fun hs => ⟨fun c => nj i.toNat (by omega) fun hh => by have := seq hh; omega,fun c4 => ⟨fun c => nj i.toNat (by omega) fun hh => by have := seq hh; omega,fun c5 => ⟨h.2.2.1,fun c => nj i.toNat (by omega) fun hh => c ?_,fun c6 => ⟨h,fun c => nj i.toNat (by omega) fun hh => ?_,fun c7 =>
      ⟨fun c8 => ⟨⟨h,g0,hlt⟩,fun c => nj i.toNat (by omega) fun hh => c ?_,fun c9 => fin hlt (by omega) ?_⟩,fun c8 => fin hlt (by omega) ?_⟩⟩⟩⟩⟩
    · have h1 := (seq hh).1
      rw [if_neg (by omega),show i.toNat - 1 = (i - 1).toNat from by omega] at hlast
      have q : (at_ a.2.2.2.2 i).2.1 ≤ (jobAt a (i - 1).toNat).2.1 := q
      omega
    · rw [if_neg (by omega),show i.toNat - 1 = (i - 1).toNat from by omega] at hlast
      have q : ¬ (at_ a.2.2.2.2 i).2.1 ≤ (jobAt a (i - 1).toNat).2.1 := q
      omega
    · rw [if_pos (by omega)] at hlast
      omega
    · have h2 : findR (a.2.2.2.2,(at_ a.2.2.2.2 i).1.1) = ((i.toNat : Nat) : Int) := (jobOk_iff.1 hh).2.2.1.1
      omega
    · have h2 : 0 ≤ queueR (a,(at_ a.2.2.2.2 i).1.2.1) := (jobOk_iff.1 hh).2.2.1.2
      omega
    · rcases (jobOk_iff.1 hh).2.2.2 with h3 | h3
      · exact absurd h3 c8
      · exact h3
    · have c6 := Classical.not_not.1 c6
      refine jobOk_iff.2 ⟨Classical.not_not.1 d1,?_,⟨?_,?_⟩,.inr (Classical.not_not.1 c9)⟩
      · rw [hlast]; exact ⟨by show last < (at_ a.2.2.2.2 i).2.1; omega,by show (at_ a.2.2.2.2 i).2.1 < a.2.1; omega,by show 0 ≤ (at_ a.2.2.2.2 i).2.2.2; omega,by show (at_ a.2.2.2.2 i).2.2.2 ≤ _; omega⟩
      · show findR (a.2.2.2.2,(at_ a.2.2.2.2 i).1.1) = ((i.toNat : Nat) : Int); omega
      · show 0 ≤ queueR (a,(at_ a.2.2.2.2 i).1.2.1); omega
    · have c6 := Classical.not_not.1 c6
      refine jobOk_iff.2 ⟨Classical.not_not.1 d1,?_,⟨?_,?_⟩,.inl (Classical.not_not.1 c8)⟩
      · rw [hlast]; exact ⟨by show last < (at_ a.2.2.2.2 i).2.1; omega,by show (at_ a.2.2.2.2 i).2.1 < a.2.1; omega,by show 0 ≤ (at_ a.2.2.2.2 i).2.2.2; omega,by show (at_ a.2.2.2.2 i).2.2.2 ≤ _; omega⟩
      · show findR (a.2.2.2.2,(at_ a.2.2.2.2 i).1.1) = ((i.toNat : Nat) : Int); omega
      · show 0 ≤ queueR (a,(at_ a.2.2.2.2 i).1.2.1); omega
  · exact (stateB_iff.2 ⟨⟨by omega,by omega,by omega,by omega⟩,okM,okQ,jobsB_iff.2 ⟨fun q hq => (g2 q (by omega)).1,by omega⟩⟩).symm
end Go.Abs
