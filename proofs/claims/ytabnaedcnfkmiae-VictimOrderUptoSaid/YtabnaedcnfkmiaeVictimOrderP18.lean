/- Functions, and what the code asks of them: PVictLaw2. -/
import Derived.KernelRfl
import Derived.Test.YtabnaedcnfkmiaeVictimOrderP3
import Derived.Test.YtabnaedcnfkmiaeVictimOrderP4
import Derived.Test.YtabnaedcnfkmiaeVictimOrderP5
import Derived.Test.YtabnaedcnfkmiaeVictimOrderP6
import Derived.Test.YtabnaedcnfkmiaeVictimOrderP7
import Derived.Test.YtabnaedcnfkmiaeVictimOrderP8
import Derived.Test.YtabnaedcnfkmiaeVictimOrderP9
import Derived.Test.YtabnaedcnfkmiaeVictimOrderP10
import Derived.Test.YtabnaedcnfkmiaeVictimOrderP11
import Derived.Test.YtabnaedcnfkmiaeVictimOrderP12
import Derived.Test.YtabnaedcnfkmiaeVictimOrderP13
import Derived.Test.YtabnaedcnfkmiaeVictimOrderP14
import Derived.Test.YtabnaedcnfkmiaeVictimOrderP15
import Derived.Test.YtabnaedcnfkmiaeVictimOrderP16
import Derived.Test.YtabnaedcnfkmiaeVictimOrderP17
set_option linter.unusedVariables false
set_option linter.unusedSimpArgs false
-- interregnum/interregnumlaw13.VictimTells
namespace Go.Abs
open Go
end Go.Abs

/- interregnum/interregnumlaw13.VictimTells -/
namespace Go.Abs
open Go
set_option linter.unusedVariables false
end Go.Abs

-- interregnum/interregnumlaw13.VictimFewest
namespace Go.Abs
open Go
end Go.Abs

/- interregnum/interregnumlaw13.VictimFewest -/
namespace Go.Abs
open Go
set_option linter.unusedVariables false
end Go.Abs

-- interregnum/interregnumlaw13.VictimOrder
namespace Go.Abs
open Go
def f378.wf (a : (List (aC)) × (List (aB)) × aG) : Prop := d9.ok a.1∧fO.ok a.2.1∧fN.ok a.2.2
def f378.size (a : (List (aC)) × (List (aB)) × aG) : Nat := d9.size a.1 + (fO.size a.2.1 + (fN.size a.2.2))
def f378.lpre (a : (List (aC)) × (List (aB)) × aG) : Prop := f378.wf a∧f378.size a≤1048576
def f378.args (a : (List (aC)) × (List (aB)) × aG) : List D := [.slice .ro 7 a.1.length (gl aK a.1),.slice .ro 13 a.2.1.length (gl aA a.2.1),.agg [.str a.2.2.1,.str a.2.2.2.1,.int .i64 a.2.2.2.2.1,.int .i64 a.2.2.2.2.2.1.1,.int .i64 a.2.2.2.2.2.1.2.1,.int .i64 a.2.2.2.2.2.1.2.2,.slice .ro 2 a.2.2.2.2.2.2.1.length (gl aD a.2.2.2.2.2.2.1),.str a.2.2.2.2.2.2.2.1,.str a.2.2.2.2.2.2.2.2.1,.int .i64 a.2.2.2.2.2.2.2.2.2]]
def f378.blks (a : (List (aC)) × (List (aB)) × aG) : List (List D) := []
def f378.res (a : (List (aC)) × (List (aB)) × aG) : List D := [.bool (bC a)]
def f378.blks' (a : (List (aC)) × (List (aB)) × aG) : List (List D) := []
def f378.C : aM := FnC f378.args f378.blks (fun a => f378.lpre a) f378.res f378.blks'
end Go.Abs

/- interregnum/interregnumlaw13.VictimOrder -/
namespace Go.Abs
open Go
set_option linter.unusedVariables false
def f378.S0 (a : (List (aC)) × (List (aB)) × aG) (x : (List (aB)) × Int) : Tm := ⟨[.slice .ro 7 a.1.length (gl aK a.1),.slice .ro 13 a.2.1.length (gl aA a.2.1),.dead,.dead,.dead,.ptr 0 0,.dead,.slice (.own 22) 13 x.1.length (gl aA x.1),.int .i64 x.2,.dead,.dead,.dead,.dead,.dead,.dead,.dead,.dead,.dead,.dead,.dead,.dead,.dead,.dead,.dead,.dead,.dead,.dead,.dead,.dead,.dead,.dead,.dead,.dead,.dead,.dead,.dead,.dead,.dead,.dead,.dead,.dead,.dead,.dead,.dead,.dead,.dead,.dead,.dead,.dead,.dead,.dead,.dead,.dead,.dead,.dead,.dead,.dead,.dead,.dead,.dead,.dead,.dead,.dead,.dead,.dead,.dead,.dead,.dead,.dead,.dead,.dead,.dead,.dead,.dead,.dead,.dead,.dead,.dead,.dead,.dead,.dead,.dead,.dead,.dead,.dead,.dead,.dead,.dead,.dead,.dead,.dead,.dead,.dead,.dead,.dead,.dead,.dead,.dead,.dead,.dead,.dead,.dead,.dead,.dead,.dead,.dead,.dead,.dead,.dead,.dead,.dead,.dead,.dead,.dead,.dead,.dead,.dead,.dead,.dead,.dead,.dead,.dead,.dead,.dead,.dead,.dead,.dead,.dead,.dead,.dead,.dead,.dead,.dead,.dead,.dead,.dead,.dead,.dead,.dead,.dead,.dead,.dead,.dead,.dead,.dead,.dead,.dead,.dead,.dead,.dead,.dead,.dead],[(0,false,[.str a.2.2.1,.str a.2.2.2.1,.int .i64 a.2.2.2.2.1,.int .i64 a.2.2.2.2.2.1.1,.int .i64 a.2.2.2.2.2.1.2.1,.int .i64 a.2.2.2.2.2.1.2.2,.slice .ro 2 a.2.2.2.2.2.2.1.length (gl aD a.2.2.2.2.2.2.1),.str a.2.2.2.2.2.2.2.1,.str a.2.2.2.2.2.2.2.2.1,.int .i64 a.2.2.2.2.2.2.2.2.2])],[(22,13,x.1.length)]⟩
def f378.S1 (a : (List (aC)) × (List (aB)) × aG) (x : (List (aB)) × Int × Int) : Tm := ⟨[.slice .ro 7 a.1.length (gl aK a.1),.slice .ro 13 a.2.1.length (gl aA a.2.1),.dead,.dead,.dead,.ptr 0 0,.dead,.slice (.own 22) 13 x.1.length (gl aA x.1),.int .i64 x.2.1,.int .i64 x.2.2,.dead,.dead,.dead,.dead,.dead,.dead,.dead,.dead,.dead,.dead,.dead,.dead,.dead,.dead,.dead,.dead,.dead,.dead,.dead,.dead,.dead,.dead,.dead,.dead,.dead,.dead,.dead,.dead,.dead,.dead,.dead,.dead,.dead,.dead,.dead,.dead,.dead,.dead,.dead,.dead,.dead,.dead,.dead,.dead,.dead,.dead,.dead,.dead,.dead,.dead,.dead,.dead,.dead,.dead,.dead,.dead,.dead,.dead,.dead,.dead,.dead,.dead,.dead,.dead,.dead,.dead,.dead,.dead,.dead,.dead,.dead,.dead,.dead,.dead,.dead,.dead,.dead,.dead,.dead,.dead,.dead,.dead,.dead,.dead,.dead,.dead,.dead,.dead,.dead,.dead,.dead,.dead,.dead,.dead,.dead,.dead,.dead,.dead,.dead,.dead,.dead,.dead,.dead,.dead,.dead,.dead,.dead,.dead,.dead,.dead,.dead,.dead,.dead,.dead,.dead,.dead,.dead,.dead,.dead,.dead,.dead,.dead,.dead,.dead,.dead,.dead,.dead,.dead,.dead,.dead,.dead,.dead,.dead,.dead,.dead,.dead,.dead,.dead,.dead,.dead,.dead,.dead],[(0,false,[.str a.2.2.1,.str a.2.2.2.1,.int .i64 a.2.2.2.2.1,.int .i64 a.2.2.2.2.2.1.1,.int .i64 a.2.2.2.2.2.1.2.1,.int .i64 a.2.2.2.2.2.1.2.2,.slice .ro 2 a.2.2.2.2.2.2.1.length (gl aD a.2.2.2.2.2.2.1),.str a.2.2.2.2.2.2.2.1,.str a.2.2.2.2.2.2.2.2.1,.int .i64 a.2.2.2.2.2.2.2.2.2])],[(22,13,x.1.length)]⟩
def f378.S2 (a : (List (aC)) × (List (aB)) × aG) (x : (List (aB)) × (List (aC)) × Int) : Tm := ⟨[.slice .ro 7 a.1.length (gl aK a.1),.slice .ro 13 a.2.1.length (gl aA a.2.1),.dead,.dead,.dead,.ptr 0 0,.dead,.slice (.own 22) 13 x.1.length (gl aA x.1),.dead,.dead,.slice (.own 59) 7 x.2.1.length (gl aK x.2.1),.int .i64 x.2.2,.dead,.dead,.dead,.dead,.dead,.dead,.dead,.dead,.dead,.dead,.dead,.dead,.dead,.dead,.dead,.dead,.dead,.dead,.dead,.dead,.dead,.dead,.dead,.dead,.dead,.dead,.dead,.dead,.dead,.dead,.dead,.dead,.dead,.dead,.dead,.dead,.dead,.dead,.dead,.dead,.dead,.dead,.dead,.dead,.dead,.dead,.dead,.dead,.dead,.dead,.dead,.dead,.dead,.dead,.dead,.dead,.dead,.dead,.dead,.dead,.dead,.dead,.dead,.dead,.dead,.dead,.dead,.dead,.dead,.dead,.dead,.dead,.dead,.dead,.dead,.dead,.dead,.dead,.dead,.dead,.dead,.dead,.dead,.dead,.dead,.dead,.dead,.dead,.dead,.dead,.dead,.dead,.dead,.dead,.dead,.dead,.dead,.dead,.dead,.dead,.dead,.dead,.dead,.dead,.dead,.dead,.dead,.dead,.dead,.dead,.dead,.dead,.dead,.dead,.dead,.dead,.dead,.dead,.dead,.dead,.dead,.dead,.dead,.dead,.dead,.dead,.dead,.dead,.dead,.dead,.dead,.dead,.dead,.dead,.dead,.dead,.dead,.dead,.dead,.dead],[(0,false,[.str a.2.2.1,.str a.2.2.2.1,.int .i64 a.2.2.2.2.1,.int .i64 a.2.2.2.2.2.1.1,.int .i64 a.2.2.2.2.2.1.2.1,.int .i64 a.2.2.2.2.2.1.2.2,.slice .ro 2 a.2.2.2.2.2.2.1.length (gl aD a.2.2.2.2.2.2.1),.str a.2.2.2.2.2.2.2.1,.str a.2.2.2.2.2.2.2.2.1,.int .i64 a.2.2.2.2.2.2.2.2.2])],[(22,13,x.1.length),(59,7,x.2.1.length)]⟩
def f378.S3 (a : (List (aC)) × (List (aB)) × aG) (x : (List (aB)) × (List (aC)) × Int × Int) : Tm := ⟨[.slice .ro 7 a.1.length (gl aK a.1),.slice .ro 13 a.2.1.length (gl aA a.2.1),.dead,.dead,.dead,.ptr 0 0,.dead,.slice (.own 22) 13 x.1.length (gl aA x.1),.dead,.dead,.slice (.own 59) 7 x.2.1.length (gl aK x.2.1),.int .i64 x.2.2.1,.int .i64 x.2.2.2,.dead,.dead,.dead,.dead,.dead,.dead,.dead,.dead,.dead,.dead,.dead,.dead,.dead,.dead,.dead,.dead,.dead,.dead,.dead,.dead,.dead,.dead,.dead,.dead,.dead,.dead,.dead,.dead,.dead,.dead,.dead,.dead,.dead,.dead,.dead,.dead,.dead,.dead,.dead,.dead,.dead,.dead,.dead,.dead,.dead,.dead,.dead,.dead,.dead,.dead,.dead,.dead,.dead,.dead,.dead,.dead,.dead,.dead,.dead,.dead,.dead,.dead,.dead,.dead,.dead,.dead,.dead,.dead,.dead,.dead,.dead,.dead,.dead,.dead,.dead,.dead,.dead,.dead,.dead,.dead,.dead,.dead,.dead,.dead,.dead,.dead,.dead,.dead,.dead,.dead,.dead,.dead,.dead,.dead,.dead,.dead,.dead,.dead,.dead,.dead,.dead,.dead,.dead,.dead,.dead,.dead,.dead,.dead,.dead,.dead,.dead,.dead,.dead,.dead,.dead,.dead,.dead,.dead,.dead,.dead,.dead,.dead,.dead,.dead,.dead,.dead,.dead,.dead,.dead,.dead,.dead,.dead,.dead,.dead,.dead,.dead,.dead,.dead,.dead],[(0,false,[.str a.2.2.1,.str a.2.2.2.1,.int .i64 a.2.2.2.2.1,.int .i64 a.2.2.2.2.2.1.1,.int .i64 a.2.2.2.2.2.1.2.1,.int .i64 a.2.2.2.2.2.1.2.2,.slice .ro 2 a.2.2.2.2.2.2.1.length (gl aD a.2.2.2.2.2.2.1),.str a.2.2.2.2.2.2.2.1,.str a.2.2.2.2.2.2.2.2.1,.int .i64 a.2.2.2.2.2.2.2.2.2])],[(22,13,x.1.length),(59,7,x.2.1.length)]⟩
def f378.S4 (a : (List (aC)) × (List (aB)) × aG) (x : (List (aB)) × (List (aC)) × Int) : Tm := ⟨[.slice .ro 7 a.1.length (gl aK a.1),.slice .ro 13 a.2.1.length (gl aA a.2.1),.dead,.dead,.dead,.ptr 0 0,.dead,.slice (.own 22) 13 x.1.length (gl aA x.1),.dead,.dead,.slice (.own 59) 7 x.2.1.length (gl aK x.2.1),.dead,.dead,.dead,.dead,.dead,.dead,.dead,.dead,.dead,.dead,.dead,.dead,.dead,.dead,.dead,.dead,.dead,.dead,.dead,.dead,.dead,.dead,.dead,.dead,.dead,.dead,.dead,.dead,.dead,.dead,.dead,.dead,.dead,.dead,.dead,.dead,.dead,.dead,.dead,.dead,.dead,.dead,.dead,.dead,.dead,.dead,.dead,.dead,.dead,.dead,.dead,.dead,.dead,.dead,.dead,.dead,.dead,.dead,.dead,.dead,.dead,.dead,.dead,.dead,.dead,.dead,.dead,.dead,.dead,.dead,.dead,.dead,.dead,.dead,.dead,.dead,.dead,.dead,.dead,.dead,.dead,.dead,.dead,.int .i64 (a.2.1.length : Int),.int .i64 x.2.2,.dead,.dead,.dead,.dead,.dead,.dead,.dead,.dead,.dead,.dead,.dead,.dead,.dead,.dead,.dead,.dead,.dead,.dead,.dead,.dead,.dead,.dead,.dead,.dead,.dead,.dead,.dead,.dead,.dead,.dead,.dead,.dead,.dead,.dead,.dead,.dead,.dead,.dead,.dead,.dead,.dead,.dead,.dead,.dead,.dead,.dead,.dead,.dead,.dead,.dead,.dead,.dead,.dead,.dead,.dead,.dead],[(0,false,[.str a.2.2.1,.str a.2.2.2.1,.int .i64 a.2.2.2.2.1,.int .i64 a.2.2.2.2.2.1.1,.int .i64 a.2.2.2.2.2.1.2.1,.int .i64 a.2.2.2.2.2.1.2.2,.slice .ro 2 a.2.2.2.2.2.2.1.length (gl aD a.2.2.2.2.2.2.1),.str a.2.2.2.2.2.2.2.1,.str a.2.2.2.2.2.2.2.2.1,.int .i64 a.2.2.2.2.2.2.2.2.2])],[(22,13,x.1.length),(59,7,x.2.1.length)]⟩
def f378.kills (a : (List (aC)) × (List (aB)) × aG) : List dB := [.tell ((List (aB)) × Int) (f378.S0 a),
 .tell ((List (aB)) × Int × Int) (f378.S1 a),
 .tell ((List (aB)) × (List (aC)) × Int) (f378.S2 a),
 .tell ((List (aB)) × (List (aC)) × Int × Int) (f378.S3 a),
 .tell ((List (aB)) × (List (aC)) × Int) (f378.S4 a),
 .unroll 4 [2,3,4,6,8,9,11,12,14,15,16,17,18,19,20,21,22,23,24,25,26,27,28,29,30,31,32,33,34,35,36,37,38,39,40,41,42,43,44,45,46,47,48,49,50,51,52,53,54,55,56,57,58,59,60,61,62,63,64,65,66,67,68,69,70,71,72,73,74,75,76,77,78,79,80,81,82,83,84,85,86,87,88,89,90,91,92,93,96,97,99,100,101,102,103,104,105,106,107,108,109,110,111,112,113,114,115,116,117,118,119,120,121,122,123,124,125,126,127,128,129,130,131,132,133,134,135,136,137,138,139,140,141,142,143,144,145,146,147,148,149,150,151] [0] [22,59]]
def f378.cuts (a : (List (aC)) × (List (aB)) × aG) : List (Nat × Σ β : Type,β→Tm) := []
def f378.af (a : (List (aC)) × (List (aB)) × aG) : AF := AF.mk (.seq (.region [oT 5 0 .box [2],
 ⟨(some 6),1,.move,[.c (.bool false)],none⟩])
 (.seq (.seq (.region [oT 21 2 (.call false 352) [],
 oT 22 6 (.un .not) [21],
 oT 23 7 .move [22],
 oG 24 8 .move [0] 23 false,
 oG 25 9 .move [1] 23 false,
 oG 26 10 (.load true 10) [5] 23 false,
 oG 27 11 (.call false 353) [24,25,26] 23 false,
 oG 28 15 (.un .not) [27] 23 false,
 ⟨(some 29),16,.pick,[.t 23,.c (.bool true),.t 28],none⟩])
 (.cond (.t 29) (.seq (.region [oT 30 17 (.call false 352) [],
 oT 6 21 .move [30]])
 (.ret)) (.skip)))
 (.seq (.region [oT 7 22 (.nilSl 13) []])
 (.seq (.seq (.region [oT 31 23 .move [1],
 oT 32 24 (.len false) [31],
 ⟨(some 33),25,(.bin .sub),[.t 32,.c (.int .i64 (1))],none⟩,
 oT 8 26 .move [33]])
 (.block 0 (.loopT ((List (aB)) × Int) (f378.S0 a) 27 59 (.seq (.seq (.region [oT 34 27 .move [8],
 ⟨(some 35),28,(.bin .geq),[.t 34,.c (.int .i64 (0))],none⟩])
 (.cond (.t 35) (.skip) (.exit 0)))
 (.seq (.block 1 (.seq (.seq (.region [⟨(some 9),29,.move,[.c (.int .i64 (0))],none⟩])
 (.block 2 (.loopT ((List (aB)) × Int × Int) (f378.S1 a) 30 48 (.seq (.seq (.region [oT 38 30 .move [9],
 oT 39 31 .move [8],
 oT 40 32 (.bin .lss) [38,39]])
 (.cond (.t 40) (.skip) (.exit 2)))
 (.seq (.block 3 (.seq (.region [oT 43 33 .move [1],
 oT 44 34 .move [8],
 oT 45 35 (.indexAddr 13 none) [43,44],
 oT 46 36 (.fieldAddr 10) [45],
 oT 47 37 (.load false 1) [46],
 oT 48 38 .move [1],
 oT 49 39 .move [9],
 oT 50 40 (.indexAddr 13 none) [48,49],
 oT 51 41 (.fieldAddr 10) [50],
 oT 52 42 (.load false 1) [51],
 oT 53 43 (.bin .eql) [47,52]])
 (.cond (.t 53) (.seq (.region [⟨(some 6),44,.move,[.c (.bool true)],none⟩])
 (.ret)) (.skip))))
 (.region [oT 41 45 .move [9],
 ⟨(some 42),46,(.bin .add),[.t 41,.c (.int .i64 (1))],none⟩,
 oT 9 47 .move [42]]))))))
 (.region [oT 54 48 .move [7],
 oT 55 49 .move [1],
 oT 56 50 .move [8],
 oT 57 51 (.indexAddr 13 none) [55,56],
 oT 58 52 (.load true 13) [57],
 oT 59 53 (.buildSlice 13 1 [.str ByteArray.empty,.str ByteArray.empty,.int .i64 (0),.int .i64 (0),.int .i64 (0),.int .i64 (0),.slice .full 2 0 cN,.str ByteArray.empty,.str ByteArray.empty,.int .i64 (0),.int .i64 (0),.str ByteArray.empty,.int .i64 (0)] [(0,13)]) [58],
 oT 60 54 (.append 13 160) [54,59],
 oT 7 55 .move [60]])))
 (.region [oT 36 56 .move [8],
 ⟨(some 37),57,(.bin .sub),[.t 36,.c (.int .i64 (1))],none⟩,
 oT 8 58 .move [37]]))))))
 (.seq (.region [oT 10 59 (.nilSl 7) []])
 (.seq (.seq (.region [oT 61 60 .move [0],
 oT 62 61 (.len false) [61],
 ⟨(some 63),62,(.bin .sub),[.t 62,.c (.int .i64 (1))],none⟩,
 oT 11 63 .move [63]])
 (.block 4 (.loopT ((List (aB)) × (List (aC)) × Int) (f378.S2 a) 64 98 (.seq (.seq (.region [oT 64 64 .move [11],
 ⟨(some 65),65,(.bin .geq),[.t 64,.c (.int .i64 (0))],none⟩])
 (.cond (.t 65) (.skip) (.exit 4)))
 (.seq (.block 5 (.seq (.seq (.region [⟨(some 12),66,.move,[.c (.int .i64 (0))],none⟩])
 (.block 6 (.loopT ((List (aB)) × (List (aC)) × Int × Int) (f378.S3 a) 67 87 (.seq (.seq (.region [oT 68 67 .move [12],
 oT 69 68 .move [11],
 oT 70 69 (.bin .lss) [68,69]])
 (.cond (.t 70) (.skip) (.exit 6)))
 (.seq (.block 7 (.seq (.region [oT 73 70 .move [0],
 oT 74 71 .move [11],
 oT 75 72 (.indexAddr 7 none) [73,74],
 oT 76 73 (.fieldAddr 0) [75],
 oT 77 74 (.fieldAddr 0) [76],
 oT 78 75 (.load false 1) [77],
 oT 79 76 .move [0],
 oT 80 77 .move [12],
 oT 81 78 (.indexAddr 7 none) [79,80],
 oT 82 79 (.fieldAddr 0) [81],
 oT 83 80 (.fieldAddr 0) [82],
 oT 84 81 (.load false 1) [83],
 oT 85 82 (.bin .eql) [78,84]])
 (.cond (.t 85) (.seq (.region [⟨(some 6),83,.move,[.c (.bool true)],none⟩])
 (.ret)) (.skip))))
 (.region [oT 71 84 .move [12],
 ⟨(some 72),85,(.bin .add),[.t 71,.c (.int .i64 (1))],none⟩,
 oT 12 86 .move [72]]))))))
 (.region [oT 86 87 .move [10],
 oT 87 88 .move [0],
 oT 88 89 .move [11],
 oT 89 90 (.indexAddr 7 none) [87,88],
 oT 90 91 (.load true 7) [89],
 oT 91 92 (.buildSlice 7 1 [.str ByteArray.empty,.int .i64 (0),.int .i64 (0),.int .i64 (0),.slice .full 2 0 cN,.bool false,.int .i64 (0)] [(0,7)]) [90],
 oT 92 93 (.append 7 80) [86,91],
 oT 10 94 .move [92]])))
 (.region [oT 66 95 .move [11],
 ⟨(some 67),96,(.bin .sub),[.t 66,.c (.int .i64 (1))],none⟩,
 oT 11 97 .move [67]]))))))
 (.seq (.seq (.region [oT 93 98 .move [1],
 oT 94 99 (.len false) [93],
 ⟨(some 95),100,.move,[.c (.int .i64 (0))],none⟩])
 (.block 8 (.loopT ((List (aB)) × (List (aC)) × Int) (f378.S4 a) 101 133 (.seq (.region [oT 96 101 (.bin .lss) [95,94]])
 (.seq (.cond (.t 96) (.skip) (.exit 8))
 (.seq (.block 9 (.seq (.region [oT 97 102 .move [95],
 oT 13 103 .move [97]])
 (.seq (.region [⟨(some 98),104,.move,[.c (.int .i64 (0))],none⟩])
 (.block 10 (.loop 4 [2,3,4,6,8,9,11,12,14,15,16,17,18,19,20,21,22,23,24,25,26,27,28,29,30,31,32,33,34,35,36,37,38,39,40,41,42,43,44,45,46,47,48,49,50,51,52,53,54,55,56,57,58,59,60,61,62,63,64,65,66,67,68,69,70,71,72,73,74,75,76,77,78,79,80,81,82,83,84,85,86,87,88,89,90,91,92,93,96,97,99,100,101,102,103,104,105,106,107,108,109,110,111,112,113,114,115,116,117,118,119,120,121,122,123,124,125,126,127,128,129,130,131,132,133,134,135,136,137,138,139,140,141,142,143,144,145,146,147,148,149,150,151] [0] [22,59] 105 131 (.seq (.region [⟨(some 99),105,(.bin .lss),[.t 98,.c (.int .i64 (3))],none⟩])
 (.seq (.cond (.t 99) (.skip) (.exit 10))
 (.seq (.block 11 (.seq (.region [oT 100 106 .move [98],
 oT 14 107 .move [100]])
 (.seq (.region [oT 101 108 .move [1],
 oT 102 109 .move [13],
 oT 103 110 .move [14],
 oT 104 111 (.indexAddr 13 none) [101,102],
 oT 105 112 (.fieldAddr 0) [104],
 oT 106 113 (.fieldAddr 3) [105],
 oT 107 114 (.indexAddr 1 (some 3)) [106,103],
 oT 108 115 (.load false 1) [107],
 ⟨(some 109),116,(.bin .lss),[.t 108,.c (.int .i64 (0))],none⟩,
 oT 110 117 .move [109],
 oG 111 118 .move [1] 110 false,
 oG 112 119 .move [13] 110 false,
 oG 113 120 .move [14] 110 false,
 oG 114 121 (.indexAddr 13 none) [111,112] 110 false,
 oG 115 122 (.fieldAddr 0) [114] 110 false,
 oG 116 123 (.fieldAddr 3) [115] 110 false,
 oG 117 124 (.indexAddr 1 (some 3)) [116,113] 110 false,
 oG 118 125 (.load false 1) [117] 110 false,
 ⟨(some 119),126,(.bin .gtr),[.t 118,.c (.int .i64 (1048576))],(some (110,false))⟩,
 ⟨(some 120),127,.pick,[.t 110,.c (.bool true),.t 119],none⟩])
 (.cond (.t 120) (.seq (.region [⟨(some 6),128,.move,[.c (.bool true)],none⟩])
 (.ret)) (.skip)))))
 (.region [⟨(some 121),129,(.bin .add),[.t 98,.c (.int .i64 (1))],none⟩,
 oT 98 130 .move [121]])))))))))
 (.region [⟨(some 122),131,(.bin .add),[.t 95,.c (.int .i64 (1))],none⟩,
 oT 95 132 .move [122]])))))))
 (.seq (.region [oT 124 133 .move [0],
 oT 125 134 .move [1],
 oT 126 135 (.load true 10) [5],
 oT 127 136 (.call false 227) [124,125,126],
 oT 123 140 .move [127],
 oT 128 141 (.extract 0) [123],
 oT 129 142 (.extract 1) [123],
 oT 130 143 (.extract 2) [123],
 oT 15 144 .move [128],
 oT 16 145 .move [129],
 oT 17 146 .move [130]])
 (.seq (.region [oT 132 147 .move [10],
 oT 133 148 .move [7],
 oT 134 149 (.load true 10) [5],
 oT 135 150 (.call false 227) [132,133,134],
 oT 131 154 .move [135],
 oT 136 155 (.extract 0) [131],
 oT 137 156 (.extract 1) [131],
 oT 138 157 (.extract 2) [131],
 oT 18 158 .move [136],
 oT 19 159 .move [137],
 oT 20 160 .move [138]])
 (.seq (.region [oT 139 161 .move [15],
 oT 140 162 .move [18],
 oT 141 163 (.bin .eql) [139,140],
 oT 142 164 .move [141],
 oG 143 165 .move [17] 142 true,
 oG 144 166 .move [20] 142 true,
 oG 145 167 (.binB false) [143,144] 142 true,
 ⟨(some 146),168,.pick,[.t 142,.t 145,.c (.bool false)],none⟩,
 oT 147 169 .move [146],
 oG 148 170 .move [16] 147 true,
 oG 149 171 .move [19] 147 true,
 oG 150 172 (.call false 150) [148,149] 147 true,
 ⟨(some 151),176,.pick,[.t 147,.t 150,.c (.bool false)],none⟩,
 oT 6 177 .move [151]])
 (.ret)))))))))))
 [.tmp 6] 0 149
def f378.env : Env := [(352,f352.C),(353,f353.C),(227,f227.C),(150,f150.C)]
def f378.tree (a : (List (aC)) × (List (aB)) × aG) : Prop := ∃ c1 : Unit,True∧Br (!(bC c1)) (∃ c4 : Unit,True∧((bC c4) = (bC a))∧True) (∃ c7 : (List (aC)) × (List (aB)) × aG,SlQ a.1.length c7.1.length (gl aK a.1) (gl aK c7.1) (SlQ a.2.1.length c7.2.1.length (gl aA a.2.1) (gl aA c7.2.1) ((a.2.2.1 = c7.2.2.1)∧(a.2.2.2.1 = c7.2.2.2.1)∧(a.2.2.2.2.1 = c7.2.2.2.2.1)∧(a.2.2.2.2.2.1.1 = c7.2.2.2.2.2.1.1)∧(a.2.2.2.2.2.1.2.1 = c7.2.2.2.2.2.1.2.1)∧(a.2.2.2.2.2.1.2.2 = c7.2.2.2.2.2.1.2.2)∧SlQ a.2.2.2.2.2.2.1.length c7.2.2.2.2.2.2.1.length (gl aD a.2.2.2.2.2.2.1) (gl aD c7.2.2.2.2.2.2.1) ((a.2.2.2.2.2.2.2.1 = c7.2.2.2.2.2.2.2.1)∧(a.2.2.2.2.2.2.2.2.1 = c7.2.2.2.2.2.2.2.2.1)∧(a.2.2.2.2.2.2.2.2.2 = c7.2.2.2.2.2.2.2.2.2)∧(kH c7)∧Br (!(f7 c7)) (∃ c10 : Unit,True∧((bC c10) = (bC a))∧True) (Let (IntKind.i64.wrap ((a.2.1.length : Int) - (1 : Int))) (fun v13 : Int => ∃ (I15 : ((List (aB)) × Int)→Prop) (μ16 : ((List (aB)) × Int)→Nat),(∃ x14 : (List (aB)) × Int,SlS aK a.1 (SlS aA a.2.1 (SlQ 0 x14.1.length cN (gl aA x14.1) ((v13 = x14.2)∧(a.2.2.1 = a.2.2.1)∧(a.2.2.2.1 = a.2.2.2.1)∧(a.2.2.2.2.1 = a.2.2.2.2.1)∧(a.2.2.2.2.2.1.1 = a.2.2.2.2.2.1.1)∧(a.2.2.2.2.2.1.2.1 = a.2.2.2.2.2.1.2.1)∧(a.2.2.2.2.2.1.2.2 = a.2.2.2.2.2.1.2.2)∧SlS aD a.2.2.2.2.2.2.1 ((a.2.2.2.2.2.2.2.1 = a.2.2.2.2.2.2.2.1)∧(a.2.2.2.2.2.2.2.2.1 = a.2.2.2.2.2.2.2.2.1)∧(a.2.2.2.2.2.2.2.2.2 = a.2.2.2.2.2.2.2.2.2)∧(0 = x14.1.length)∧I15 x14)))))∧∀ y17 : (List (aB)) × Int,I15 y17→(Br (decide ((0 : Int)≤y17.2)) (∃ (I21 : ((List (aB)) × Int × Int)→Prop) (μ22 : ((List (aB)) × Int × Int)→Nat),(∃ x20 : (List (aB)) × Int × Int,SlS aK a.1 (SlS aA a.2.1 (SlQ y17.1.length x20.1.length (gl aA y17.1) (gl aA x20.1) ((y17.2 = x20.2.1)∧((0 : Int) = x20.2.2)∧(a.2.2.1 = a.2.2.1)∧(a.2.2.2.1 = a.2.2.2.1)∧(a.2.2.2.2.1 = a.2.2.2.2.1)∧(a.2.2.2.2.2.1.1 = a.2.2.2.2.2.1.1)∧(a.2.2.2.2.2.1.2.1 = a.2.2.2.2.2.1.2.1)∧(a.2.2.2.2.2.1.2.2 = a.2.2.2.2.2.1.2.2)∧SlS aD a.2.2.2.2.2.2.1 ((a.2.2.2.2.2.2.2.1 = a.2.2.2.2.2.2.2.1)∧(a.2.2.2.2.2.2.2.2.1 = a.2.2.2.2.2.2.2.2.1)∧(a.2.2.2.2.2.2.2.2.2 = a.2.2.2.2.2.2.2.2.2)∧(y17.1.length = x20.1.length)∧I21 x20)))))∧∀ y23 : (List (aB)) × Int × Int,I21 y23→(Br (decide (y23.2.2 < y23.2.1)) (Br (decide ((0 : Int)≤y23.2.1) && decide (y23.2.1 < (a.2.1.length : Int))) (Br (decide ((0 : Int)≤y23.2.2) && decide (y23.2.2 < (a.2.1.length : Int))) (Br (((at_ a.2.1 y23.2.1).2.1) == ((at_ a.2.1 y23.2.2).2.1)) ((true = (bC a))∧True) (Let (IntKind.i64.wrap (y23.2.2 + (1 : Int))) (fun v31 : Int => ∃ x32 : (List (aB)) × Int × Int,SlS aK a.1 (SlS aA a.2.1 (SlQ y23.1.length x32.1.length (gl aA y23.1) (gl aA x32.1) ((y23.2.1 = x32.2.1)∧(v31 = x32.2.2)∧(a.2.2.1 = a.2.2.1)∧(a.2.2.2.1 = a.2.2.2.1)∧(a.2.2.2.2.1 = a.2.2.2.2.1)∧(a.2.2.2.2.2.1.1 = a.2.2.2.2.2.1.1)∧(a.2.2.2.2.2.1.2.1 = a.2.2.2.2.2.1.2.1)∧(a.2.2.2.2.2.1.2.2 = a.2.2.2.2.2.1.2.2)∧SlS aD a.2.2.2.2.2.2.1 ((a.2.2.2.2.2.2.2.1 = a.2.2.2.2.2.2.2.1)∧(a.2.2.2.2.2.2.2.2.1 = a.2.2.2.2.2.2.2.2.1)∧(a.2.2.2.2.2.2.2.2.2 = a.2.2.2.2.2.2.2.2.2)∧(y23.1.length = x32.1.length)∧I21 x32∧μ22 x32 < μ22 y23))))))) False) False) (Br (decide ((0 : Int)≤y23.2.1) && decide (y23.2.1 < (a.2.1.length : Int))) ((y23.1.length = y23.1.length∧qA ((y23.1.length + 1) * 160))∧(Let (IntKind.i64.wrap (y23.2.1 - (1 : Int))) (fun v42 : Int => ∃ x43 : (List (aB)) × Int,SlS aK a.1 (SlS aA a.2.1 (SlQ (y23.1.length + 1) x43.1.length (f3 (gl aA y23.1) y23.1.length (fun _ => [.str (((at_ a.2.1 y23.2.1).1).1),.str (((at_ a.2.1 y23.2.1).1).2.1),.int .i64 (((at_ a.2.1 y23.2.1).1).2.2.1),.int .i64 ((((at_ a.2.1 y23.2.1).1).2.2.2.1).1),.int .i64 ((((at_ a.2.1 y23.2.1).1).2.2.2.1).2.1),.int .i64 ((((at_ a.2.1 y23.2.1).1).2.2.2.1).2.2),.slice .ro 2 ((((at_ a.2.1 y23.2.1).1).2.2.2.2.1).length) (gl aD (((at_ a.2.1 y23.2.1).1).2.2.2.2.1)),.str (((at_ a.2.1 y23.2.1).1).2.2.2.2.2.1),.str (((at_ a.2.1 y23.2.1).1).2.2.2.2.2.2.1),.int .i64 (((at_ a.2.1 y23.2.1).1).2.2.2.2.2.2.2),.int .i64 ((at_ a.2.1 y23.2.1).2.1),.str ((at_ a.2.1 y23.2.1).2.2.1),.int .i64 ((at_ a.2.1 y23.2.1).2.2.2)])) (gl aA x43.1) ((v42 = x43.2)∧(a.2.2.1 = a.2.2.1)∧(a.2.2.2.1 = a.2.2.2.1)∧(a.2.2.2.2.1 = a.2.2.2.2.1)∧(a.2.2.2.2.2.1.1 = a.2.2.2.2.2.1.1)∧(a.2.2.2.2.2.1.2.1 = a.2.2.2.2.2.1.2.1)∧(a.2.2.2.2.2.1.2.2 = a.2.2.2.2.2.1.2.2)∧SlS aD a.2.2.2.2.2.2.1 ((a.2.2.2.2.2.2.2.1 = a.2.2.2.2.2.2.2.1)∧(a.2.2.2.2.2.2.2.2.1 = a.2.2.2.2.2.2.2.2.1)∧(a.2.2.2.2.2.2.2.2.2 = a.2.2.2.2.2.2.2.2.2)∧((y23.1.length + 1) = x43.1.length)∧I15 x43∧μ16 x43 < μ16 y17))))))) False))) (Let (IntKind.i64.wrap ((a.1.length : Int) - (1 : Int))) (fun v54 : Int => ∃ (I56 : ((List (aB)) × (List (aC)) × Int)→Prop) (μ57 : ((List (aB)) × (List (aC)) × Int)→Nat),(∃ x55 : (List (aB)) × (List (aC)) × Int,SlS aK a.1 (SlS aA a.2.1 (SlQ y17.1.length x55.1.length (gl aA y17.1) (gl aA x55.1) (SlQ 0 x55.2.1.length cN (gl aK x55.2.1) ((v54 = x55.2.2)∧(a.2.2.1 = a.2.2.1)∧(a.2.2.2.1 = a.2.2.2.1)∧(a.2.2.2.2.1 = a.2.2.2.2.1)∧(a.2.2.2.2.2.1.1 = a.2.2.2.2.2.1.1)∧(a.2.2.2.2.2.1.2.1 = a.2.2.2.2.2.1.2.1)∧(a.2.2.2.2.2.1.2.2 = a.2.2.2.2.2.1.2.2)∧SlS aD a.2.2.2.2.2.2.1 ((a.2.2.2.2.2.2.2.1 = a.2.2.2.2.2.2.2.1)∧(a.2.2.2.2.2.2.2.2.1 = a.2.2.2.2.2.2.2.2.1)∧(a.2.2.2.2.2.2.2.2.2 = a.2.2.2.2.2.2.2.2.2)∧(y17.1.length = x55.1.length)∧(0 = x55.2.1.length)∧I56 x55))))))∧∀ y58 : (List (aB)) × (List (aC)) × Int,I56 y58→(Br (decide ((0 : Int)≤y58.2.2)) (∃ (I62 : ((List (aB)) × (List (aC)) × Int × Int)→Prop) (μ63 : ((List (aB)) × (List (aC)) × Int × Int)→Nat),(∃ x61 : (List (aB)) × (List (aC)) × Int × Int,SlS aK a.1 (SlS aA a.2.1 (SlQ y58.1.length x61.1.length (gl aA y58.1) (gl aA x61.1) (SlQ y58.2.1.length x61.2.1.length (gl aK y58.2.1) (gl aK x61.2.1) ((y58.2.2 = x61.2.2.1)∧((0 : Int) = x61.2.2.2)∧(a.2.2.1 = a.2.2.1)∧(a.2.2.2.1 = a.2.2.2.1)∧(a.2.2.2.2.1 = a.2.2.2.2.1)∧(a.2.2.2.2.2.1.1 = a.2.2.2.2.2.1.1)∧(a.2.2.2.2.2.1.2.1 = a.2.2.2.2.2.1.2.1)∧(a.2.2.2.2.2.1.2.2 = a.2.2.2.2.2.1.2.2)∧SlS aD a.2.2.2.2.2.2.1 ((a.2.2.2.2.2.2.2.1 = a.2.2.2.2.2.2.2.1)∧(a.2.2.2.2.2.2.2.2.1 = a.2.2.2.2.2.2.2.2.1)∧(a.2.2.2.2.2.2.2.2.2 = a.2.2.2.2.2.2.2.2.2)∧(y58.1.length = x61.1.length)∧(y58.2.1.length = x61.2.1.length)∧I62 x61))))))∧∀ y64 : (List (aB)) × (List (aC)) × Int × Int,I62 y64→(Br (decide (y64.2.2.2 < y64.2.2.1)) (Br (decide ((0 : Int)≤y64.2.2.1) && decide (y64.2.2.1 < (a.1.length : Int))) (Br (decide ((0 : Int)≤y64.2.2.2) && decide (y64.2.2.2 < (a.1.length : Int))) (Br ((((at_ a.1 y64.2.2.1).1).1).toList == (((at_ a.1 y64.2.2.2).1).1).toList) ((true = (bC a))∧True) (Let (IntKind.i64.wrap (y64.2.2.2 + (1 : Int))) (fun v72 : Int => ∃ x73 : (List (aB)) × (List (aC)) × Int × Int,SlS aK a.1 (SlS aA a.2.1 (SlQ y64.1.length x73.1.length (gl aA y64.1) (gl aA x73.1) (SlQ y64.2.1.length x73.2.1.length (gl aK y64.2.1) (gl aK x73.2.1) ((y64.2.2.1 = x73.2.2.1)∧(v72 = x73.2.2.2)∧(a.2.2.1 = a.2.2.1)∧(a.2.2.2.1 = a.2.2.2.1)∧(a.2.2.2.2.1 = a.2.2.2.2.1)∧(a.2.2.2.2.2.1.1 = a.2.2.2.2.2.1.1)∧(a.2.2.2.2.2.1.2.1 = a.2.2.2.2.2.1.2.1)∧(a.2.2.2.2.2.1.2.2 = a.2.2.2.2.2.1.2.2)∧SlS aD a.2.2.2.2.2.2.1 ((a.2.2.2.2.2.2.2.1 = a.2.2.2.2.2.2.2.1)∧(a.2.2.2.2.2.2.2.2.1 = a.2.2.2.2.2.2.2.2.1)∧(a.2.2.2.2.2.2.2.2.2 = a.2.2.2.2.2.2.2.2.2)∧(y64.1.length = x73.1.length)∧(y64.2.1.length = x73.2.1.length)∧I62 x73∧μ63 x73 < μ63 y64)))))))) False) False) (Br (decide ((0 : Int)≤y64.2.2.1) && decide (y64.2.2.1 < (a.1.length : Int))) ((y64.2.1.length = y64.2.1.length∧qA ((y64.2.1.length + 1) * 80))∧(Let (IntKind.i64.wrap (y64.2.2.1 - (1 : Int))) (fun v83 : Int => ∃ x84 : (List (aB)) × (List (aC)) × Int,SlS aK a.1 (SlS aA a.2.1 (SlQ y64.1.length x84.1.length (gl aA y64.1) (gl aA x84.1) (SlQ (y64.2.1.length + 1) x84.2.1.length (f3 (gl aK y64.2.1) y64.2.1.length (fun _ => [.str (((at_ a.1 y64.2.2.1).1).1),.int .i64 ((((at_ a.1 y64.2.2.1).1).2.1).1),.int .i64 ((((at_ a.1 y64.2.2.1).1).2.1).2.1),.int .i64 ((((at_ a.1 y64.2.2.1).1).2.1).2.2),.slice .ro 2 ((((at_ a.1 y64.2.2.1).1).2.2).length) (gl aD (((at_ a.1 y64.2.2.1).1).2.2)),.bool ((at_ a.1 y64.2.2.1).2.1),.int .i64 ((at_ a.1 y64.2.2.1).2.2)])) (gl aK x84.2.1) ((v83 = x84.2.2)∧(a.2.2.1 = a.2.2.1)∧(a.2.2.2.1 = a.2.2.2.1)∧(a.2.2.2.2.1 = a.2.2.2.2.1)∧(a.2.2.2.2.2.1.1 = a.2.2.2.2.2.1.1)∧(a.2.2.2.2.2.1.2.1 = a.2.2.2.2.2.1.2.1)∧(a.2.2.2.2.2.1.2.2 = a.2.2.2.2.2.1.2.2)∧SlS aD a.2.2.2.2.2.2.1 ((a.2.2.2.2.2.2.2.1 = a.2.2.2.2.2.2.2.1)∧(a.2.2.2.2.2.2.2.2.1 = a.2.2.2.2.2.2.2.2.1)∧(a.2.2.2.2.2.2.2.2.2 = a.2.2.2.2.2.2.2.2.2)∧(y64.1.length = x84.1.length)∧((y64.2.1.length + 1) = x84.2.1.length)∧I56 x84∧μ57 x84 < μ57 y58)))))))) False))) (∃ (I96 : ((List (aB)) × (List (aC)) × Int)→Prop) (μ97 : ((List (aB)) × (List (aC)) × Int)→Nat),(∃ x95 : (List (aB)) × (List (aC)) × Int,SlS aK a.1 (SlS aA a.2.1 (SlQ y58.1.length x95.1.length (gl aA y58.1) (gl aA x95.1) (SlQ y58.2.1.length x95.2.1.length (gl aK y58.2.1) (gl aK x95.2.1) (((a.2.1.length : Int) = (a.2.1.length : Int))∧((0 : Int) = x95.2.2)∧(a.2.2.1 = a.2.2.1)∧(a.2.2.2.1 = a.2.2.2.1)∧(a.2.2.2.2.1 = a.2.2.2.2.1)∧(a.2.2.2.2.2.1.1 = a.2.2.2.2.2.1.1)∧(a.2.2.2.2.2.1.2.1 = a.2.2.2.2.2.1.2.1)∧(a.2.2.2.2.2.1.2.2 = a.2.2.2.2.2.1.2.2)∧SlS aD a.2.2.2.2.2.2.1 ((a.2.2.2.2.2.2.2.1 = a.2.2.2.2.2.2.2.1)∧(a.2.2.2.2.2.2.2.2.1 = a.2.2.2.2.2.2.2.2.1)∧(a.2.2.2.2.2.2.2.2.2 = a.2.2.2.2.2.2.2.2.2)∧(y58.1.length = x95.1.length)∧(y58.2.1.length = x95.2.1.length)∧I96 x95))))))∧∀ y98 : (List (aB)) × (List (aC)) × Int,I96 y98→(Br (decide (y98.2.2 < (a.2.1.length : Int))) (Br (decide ((0 : Int)≤y98.2.2) && decide (y98.2.2 < (a.2.1.length : Int))) (Br (decide (((((at_ a.2.1 y98.2.2).1).2.2.2.1).1) < (0 : Int))) ((true = (bC a))∧True) (Br (decide ((0 : Int)≤y98.2.2) && decide (y98.2.2 < (a.2.1.length : Int))) (Br (decide ((1048576 : Int) < ((((at_ a.2.1 y98.2.2).1).2.2.2.1).1))) ((true = (bC a))∧True) (Br (decide ((0 : Int)≤y98.2.2) && decide (y98.2.2 < (a.2.1.length : Int))) (Br (decide (((((at_ a.2.1 y98.2.2).1).2.2.2.1).2.1) < (0 : Int))) ((true = (bC a))∧True) (Br (decide ((0 : Int)≤y98.2.2) && decide (y98.2.2 < (a.2.1.length : Int))) (Br (decide ((1048576 : Int) < ((((at_ a.2.1 y98.2.2).1).2.2.2.1).2.1))) ((true = (bC a))∧True) (Br (decide ((0 : Int)≤y98.2.2) && decide (y98.2.2 < (a.2.1.length : Int))) (Br (decide (((((at_ a.2.1 y98.2.2).1).2.2.2.1).2.2) < (0 : Int))) ((true = (bC a))∧True) (Br (decide ((0 : Int)≤y98.2.2) && decide (y98.2.2 < (a.2.1.length : Int))) (Br (decide ((1048576 : Int) < ((((at_ a.2.1 y98.2.2).1).2.2.2.1).2.2))) ((true = (bC a))∧True) (Let (IntKind.i64.wrap (y98.2.2 + (1 : Int))) (fun v125 : Int => ∃ x126 : (List (aB)) × (List (aC)) × Int,SlS aK a.1 (SlS aA a.2.1 (SlQ y98.1.length x126.1.length (gl aA y98.1) (gl aA x126.1) (SlQ y98.2.1.length x126.2.1.length (gl aK y98.2.1) (gl aK x126.2.1) (((a.2.1.length : Int) = (a.2.1.length : Int))∧(v125 = x126.2.2)∧(a.2.2.1 = a.2.2.1)∧(a.2.2.2.1 = a.2.2.2.1)∧(a.2.2.2.2.1 = a.2.2.2.2.1)∧(a.2.2.2.2.2.1.1 = a.2.2.2.2.2.1.1)∧(a.2.2.2.2.2.1.2.1 = a.2.2.2.2.2.1.2.1)∧(a.2.2.2.2.2.1.2.2 = a.2.2.2.2.2.1.2.2)∧SlS aD a.2.2.2.2.2.2.1 ((a.2.2.2.2.2.2.2.1 = a.2.2.2.2.2.2.2.1)∧(a.2.2.2.2.2.2.2.2.1 = a.2.2.2.2.2.2.2.2.1)∧(a.2.2.2.2.2.2.2.2.2 = a.2.2.2.2.2.2.2.2.2)∧(y98.1.length = x126.1.length)∧(y98.2.1.length = x126.2.1.length)∧I96 x126∧μ97 x126 < μ97 y98)))))))) False)) False)) False)) False)) False)) False) (∃ c149 : (List (aC)) × (List (aB)) × aG,SlQ a.1.length c149.1.length (gl aK a.1) (gl aK c149.1) (SlQ a.2.1.length c149.2.1.length (gl aA a.2.1) (gl aA c149.2.1) ((a.2.2.1 = c149.2.2.1)∧(a.2.2.2.1 = c149.2.2.2.1)∧(a.2.2.2.2.1 = c149.2.2.2.2.1)∧(a.2.2.2.2.2.1.1 = c149.2.2.2.2.2.1.1)∧(a.2.2.2.2.2.1.2.1 = c149.2.2.2.2.2.1.2.1)∧(a.2.2.2.2.2.1.2.2 = c149.2.2.2.2.2.1.2.2)∧SlQ a.2.2.2.2.2.2.1.length c149.2.2.2.2.2.2.1.length (gl aD a.2.2.2.2.2.2.1) (gl aD c149.2.2.2.2.2.2.1) ((a.2.2.2.2.2.2.2.1 = c149.2.2.2.2.2.2.2.1)∧(a.2.2.2.2.2.2.2.2.1 = c149.2.2.2.2.2.2.2.2.1)∧(a.2.2.2.2.2.2.2.2.2 = c149.2.2.2.2.2.2.2.2.2)∧(fC c149)∧∃ jT : (List (aC)) × (List (aB)) × aG,SlQ y98.2.1.length jT.1.length (gl aK y98.2.1) (gl aK jT.1) (SlQ y98.1.length jT.2.1.length (gl aA y98.1) (gl aA jT.2.1) ((a.2.2.1 = jT.2.2.1)∧(a.2.2.2.1 = jT.2.2.2.1)∧(a.2.2.2.2.1 = jT.2.2.2.2.1)∧(a.2.2.2.2.2.1.1 = jT.2.2.2.2.2.1.1)∧(a.2.2.2.2.2.1.2.1 = jT.2.2.2.2.2.1.2.1)∧(a.2.2.2.2.2.1.2.2 = jT.2.2.2.2.2.1.2.2)∧SlQ a.2.2.2.2.2.2.1.length jT.2.2.2.2.2.2.1.length (gl aD a.2.2.2.2.2.2.1) (gl aD jT.2.2.2.2.2.2.1) ((a.2.2.2.2.2.2.2.1 = jT.2.2.2.2.2.2.2.1)∧(a.2.2.2.2.2.2.2.2.1 = jT.2.2.2.2.2.2.2.2.1)∧(a.2.2.2.2.2.2.2.2.2 = jT.2.2.2.2.2.2.2.2.2)∧(fC jT)∧Br (((a8 c149).1).toList == ((a8 jT).1).toList) (Br (((a8 c149).2.2) == ((a8 jT).2.2)) (∃ c155 : (List (ByteArray)) × (List (ByteArray)),SlQ (((a8 c149).2.1).length) c155.1.length (gl cR ((a8 c149).2.1)) (gl cR c155.1) (SlQ (((a8 jT).2.1).length) c155.2.length (gl cR ((a8 jT).2.1)) (gl cR c155.2) ((nU c155)∧((gY c155) = (bC a))∧True))) ((false = (bC a))∧True)) ((false = (bC a))∧True))))))))))))))))))))
def f378.vc (a : (List (aC)) × (List (aB)) × aG) : Prop := ((¬ ((bC ()) = true)→((bC ()) = bC a))∧(¬ (¬ ((bC ()) = true))→(kH (a.1,a.2.1,a.2.2)∧((¬ ((f7 (a.1,a.2.1,a.2.2)) = true)→((bC ()) = bC a))∧(¬ (¬ ((f7 (a.1,a.2.1,a.2.2)) = true))→(-9223372036854775808≤((a.2.1.length : Int) - (1 : Int))∧((a.2.1.length : Int) - (1 : Int))≤9223372036854775807∧(∃ (I15 : ((List (aB)) × Int)→Prop) (μ16 : ((List (aB)) × Int)→Nat),I15 ([],((a.2.1.length : Int) - (1 : Int)))∧∀ y17 : (List (aB)) × Int,I15 y17→(((0 : Int)≤y17.2→(∃ (I21 : ((List (aB)) × Int × Int)→Prop) (μ22 : ((List (aB)) × Int × Int)→Nat),I21 (y17.1,y17.2,(0 : Int))∧∀ y23 : (List (aB)) × Int × Int,I21 y23→((y23.2.2 < y23.2.1→((0 : Int)≤y23.2.1∧y23.2.1 < (a.2.1.length : Int)∧((0 : Int)≤y23.2.2∧y23.2.2 < (a.2.1.length : Int)∧((((at_ a.2.1 y23.2.1).2.1) = ((at_ a.2.1 y23.2.2).2.1)→(true = bC a))∧(¬ (((at_ a.2.1 y23.2.1).2.1) = ((at_ a.2.1 y23.2.2).2.1))→(-9223372036854775808≤(y23.2.2 + (1 : Int))∧(y23.2.2 + (1 : Int))≤9223372036854775807∧(I21 (y23.1,y23.2.1,(y23.2.2 + (1 : Int)))∧μ22 (y23.1,y23.2.1,(y23.2.2 + (1 : Int))) < μ22 y23)))))))∧(¬ (y23.2.2 < y23.2.1)→((0 : Int)≤y23.2.1∧y23.2.1 < (a.2.1.length : Int)∧(y23.1.length + 1≤1073741824∧(-9223372036854775808≤(y23.2.1 - (1 : Int))∧(y23.2.1 - (1 : Int))≤9223372036854775807∧(I15 (y23.1 ++ ([(((at_ a.2.1 y23.2.1).1),(at_ a.2.1 y23.2.1).2.1,(at_ a.2.1 y23.2.1).2.2.1,(at_ a.2.1 y23.2.1).2.2.2)]),(y23.2.1 - (1 : Int)))∧μ16 (y23.1 ++ ([(((at_ a.2.1 y23.2.1).1),(at_ a.2.1 y23.2.1).2.1,(at_ a.2.1 y23.2.1).2.2.1,(at_ a.2.1 y23.2.1).2.2.2)]),(y23.2.1 - (1 : Int))) < μ16 y17))))))))∧(¬ ((0 : Int)≤y17.2)→(-9223372036854775808≤((a.1.length : Int) - (1 : Int))∧((a.1.length : Int) - (1 : Int))≤9223372036854775807∧(∃ (I56 : ((List (aB)) × (List (aC)) × Int)→Prop) (μ57 : ((List (aB)) × (List (aC)) × Int)→Nat),I56 (y17.1,[],((a.1.length : Int) - (1 : Int)))∧∀ y58 : (List (aB)) × (List (aC)) × Int,I56 y58→(((0 : Int)≤y58.2.2→(∃ (I62 : ((List (aB)) × (List (aC)) × Int × Int)→Prop) (μ63 : ((List (aB)) × (List (aC)) × Int × Int)→Nat),I62 (y58.1,y58.2.1,y58.2.2,(0 : Int))∧∀ y64 : (List (aB)) × (List (aC)) × Int × Int,I62 y64→((y64.2.2.2 < y64.2.2.1→((0 : Int)≤y64.2.2.1∧y64.2.2.1 < (a.1.length : Int)∧((0 : Int)≤y64.2.2.2∧y64.2.2.2 < (a.1.length : Int)∧(((((at_ a.1 y64.2.2.1).1).1) = (((at_ a.1 y64.2.2.2).1).1)→(true = bC a))∧(¬ ((((at_ a.1 y64.2.2.1).1).1) = (((at_ a.1 y64.2.2.2).1).1))→(-9223372036854775808≤(y64.2.2.2 + (1 : Int))∧(y64.2.2.2 + (1 : Int))≤9223372036854775807∧(I62 (y64.1,y64.2.1,y64.2.2.1,(y64.2.2.2 + (1 : Int)))∧μ63 (y64.1,y64.2.1,y64.2.2.1,(y64.2.2.2 + (1 : Int))) < μ63 y64)))))))∧(¬ (y64.2.2.2 < y64.2.2.1)→((0 : Int)≤y64.2.2.1∧y64.2.2.1 < (a.1.length : Int)∧(y64.2.1.length + 1≤1073741824∧(-9223372036854775808≤(y64.2.2.1 - (1 : Int))∧(y64.2.2.1 - (1 : Int))≤9223372036854775807∧(I56 (y64.1,y64.2.1 ++ ([(((at_ a.1 y64.2.2.1).1),(at_ a.1 y64.2.2.1).2.1,(at_ a.1 y64.2.2.1).2.2)]),(y64.2.2.1 - (1 : Int)))∧μ57 (y64.1,y64.2.1 ++ ([(((at_ a.1 y64.2.2.1).1),(at_ a.1 y64.2.2.1).2.1,(at_ a.1 y64.2.2.1).2.2)]),(y64.2.2.1 - (1 : Int))) < μ57 y58))))))))∧(¬ ((0 : Int)≤y58.2.2)→(∃ (I96 : ((List (aB)) × (List (aC)) × Int)→Prop) (μ97 : ((List (aB)) × (List (aC)) × Int)→Nat),I96 (y58.1,y58.2.1,(0 : Int))∧∀ y98 : (List (aB)) × (List (aC)) × Int,I96 y98→((y98.2.2 < (a.2.1.length : Int)→((0 : Int)≤y98.2.2∧y98.2.2 < (a.2.1.length : Int)∧((((((at_ a.2.1 y98.2.2).1).2.2.2.1).1) < (0 : Int)→(true = bC a))∧(¬ (((((at_ a.2.1 y98.2.2).1).2.2.2.1).1) < (0 : Int))→((0 : Int)≤y98.2.2∧y98.2.2 < (a.2.1.length : Int)∧(((1048576 : Int) < ((((at_ a.2.1 y98.2.2).1).2.2.2.1).1)→(true = bC a))∧(¬ ((1048576 : Int) < ((((at_ a.2.1 y98.2.2).1).2.2.2.1).1))→((0 : Int)≤y98.2.2∧y98.2.2 < (a.2.1.length : Int)∧((((((at_ a.2.1 y98.2.2).1).2.2.2.1).2.1) < (0 : Int)→(true = bC a))∧(¬ (((((at_ a.2.1 y98.2.2).1).2.2.2.1).2.1) < (0 : Int))→((0 : Int)≤y98.2.2∧y98.2.2 < (a.2.1.length : Int)∧(((1048576 : Int) < ((((at_ a.2.1 y98.2.2).1).2.2.2.1).2.1)→(true = bC a))∧(¬ ((1048576 : Int) < ((((at_ a.2.1 y98.2.2).1).2.2.2.1).2.1))→((0 : Int)≤y98.2.2∧y98.2.2 < (a.2.1.length : Int)∧((((((at_ a.2.1 y98.2.2).1).2.2.2.1).2.2) < (0 : Int)→(true = bC a))∧(¬ (((((at_ a.2.1 y98.2.2).1).2.2.2.1).2.2) < (0 : Int))→((0 : Int)≤y98.2.2∧y98.2.2 < (a.2.1.length : Int)∧(((1048576 : Int) < ((((at_ a.2.1 y98.2.2).1).2.2.2.1).2.2)→(true = bC a))∧(¬ ((1048576 : Int) < ((((at_ a.2.1 y98.2.2).1).2.2.2.1).2.2))→(-9223372036854775808≤(y98.2.2 + (1 : Int))∧(y98.2.2 + (1 : Int))≤9223372036854775807∧(I96 (y98.1,y98.2.1,(y98.2.2 + (1 : Int)))∧μ97 (y98.1,y98.2.1,(y98.2.2 + (1 : Int))) < μ97 y98)))))))))))))))))))))∧(¬ (y98.2.2 < (a.2.1.length : Int))→(fC (a.1,a.2.1,a.2.2)∧(fC (y98.2.1,y98.1,a.2.2)∧((((a8 (a.1,a.2.1,a.2.2)).1) = ((a8 (y98.2.1,y98.1,a.2.2)).1)→(((((a8 (a.1,a.2.1,a.2.2)).2.2) == ((a8 (y98.2.1,y98.1,a.2.2)).2.2)) = true→(nU ((a8 (a.1,a.2.1,a.2.2)).2.1,(a8 (y98.2.1,y98.1,a.2.2)).2.1)∧((gY ((a8 (a.1,a.2.1,a.2.2)).2.1,(a8 (y98.2.1,y98.1,a.2.2)).2.1)) = bC a)))∧(¬ ((((a8 (a.1,a.2.1,a.2.2)).2.2) == ((a8 (y98.2.1,y98.1,a.2.2)).2.2)) = true)→(false = bC a))))∧(¬ (((a8 (a.1,a.2.1,a.2.2)).1) = ((a8 (y98.2.1,y98.1,a.2.2)).1))→(false = bC a)))))))))))))))))))))
set_option maxRecDepth 100000 in
set_option maxHeartbeats 2000000 in
theorem f378.of (a : (List (aC)) × (List (aB)) × aG) (h : f378.vc a) : f378.tree a := ⟨(),⟨trivial,br h (Cnd.not Cnd.b) (fun h2 k190 => ⟨(),⟨trivial,⟨k190,trivial⟩⟩⟩) (fun h3 k191 => ⟨(a.1,a.2.1,a.2.2),slQ (Rds.self (enc := aK)) (slQ (Rds.self (enc := aA)) (⟨rfl,⟨rfl,⟨rfl,⟨rfl,⟨rfl,⟨rfl,slQ (Rds.self (enc := aD)) (⟨rfl,⟨rfl,⟨rfl,⟨k191.1,br k191.2 (Cnd.not Cnd.b) (fun h8 k187 => ⟨(),⟨trivial,⟨k187,trivial⟩⟩⟩) (fun h9 k188 => wrapK.i64 k188 (fun h184 h185 k186 => Exists.elim k186 (fun I15 h181_ => Exists.elim h181_ (fun μ16 h181 => ⟨I15,μ16,⟨([],((a.2.1.length : Int) - (1 : Int))),SlS.mk  (SlS.mk  (slQ (Rds.nil (enc := aA)) (⟨rfl,⟨rfl,⟨rfl,⟨rfl,⟨rfl,⟨rfl,⟨rfl,SlS.mk  (⟨rfl,⟨rfl,⟨rfl,⟨(bJ cN (Rds.nil (enc := aA))),h181.1⟩⟩⟩⟩)⟩⟩⟩⟩⟩⟩⟩)))⟩,fun y17 h183 => br (h181.2 y17 h183) Cnd.dec (fun h18 k179 => Exists.elim k179 (fun I21 h51_ => Exists.elim h51_ (fun μ22 h51 => ⟨I21,μ22,⟨(y17.1,y17.2,(0 : Int)),SlS.mk  (SlS.mk  (slQ (Rds.self (enc := aA)) (⟨rfl,⟨rfl,⟨rfl,⟨rfl,⟨rfl,⟨rfl,⟨rfl,⟨rfl,SlS.mk  (⟨rfl,⟨rfl,⟨rfl,⟨(bJ (gl aA y17.1) (Rds.self (enc := aA))),h51.1⟩⟩⟩⟩)⟩⟩⟩⟩⟩⟩⟩⟩)))⟩,fun y23 h53 => br (h51.2 y23 h53) Cnd.dec (fun h24 k49 => chk k49.2.2 Cnd.ix ⟨k49.1,k49.2.1⟩ (fun h26 k40 => chk k40.2.2 Cnd.ix ⟨k40.1,k40.2.1⟩ (fun h27 k39 => br k39 Cnd.eq (fun h28 k37 => ⟨k37,trivial⟩) (fun h29 k38 => wrapK.i64 k38 (fun h34 h35 k36 => ⟨(y23.1,y23.2.1,(y23.2.2 + (1 : Int))),SlS.mk  (SlS.mk  (slQ (Rds.self (enc := aA)) (⟨rfl,⟨rfl,⟨rfl,⟨rfl,⟨rfl,⟨rfl,⟨rfl,⟨rfl,SlS.mk  (⟨rfl,⟨rfl,⟨rfl,⟨(bJ (gl aA y23.1) (Rds.self (enc := aA))),k36⟩⟩⟩⟩)⟩⟩⟩⟩⟩⟩⟩⟩)))⟩))))) (fun h25 k50 => chk k50.2.2 Cnd.ix ⟨k50.1,k50.2.1⟩ (fun h41 k48 => ⟨⟨rfl,(nS k48.1 (by decide))⟩,wrapK.i64 k48.2 (fun h45 h46 k47 => ⟨(y23.1 ++ ([(((at_ a.2.1 y23.2.1).1),(at_ a.2.1 y23.2.1).2.1,(at_ a.2.1 y23.2.1).2.2.1,(at_ a.2.1 y23.2.1).2.2.2)]),(y23.2.1 - (1 : Int))),SlS.mk  (SlS.mk  (slQ (Rds.app (enc := aA) (Rds.self (enc := aA)) (Rds.one (enc := aA) (DEqs.refl _))) (⟨rfl,⟨rfl,⟨rfl,⟨rfl,⟨rfl,⟨rfl,⟨rfl,SlS.mk  (⟨rfl,⟨rfl,⟨rfl,⟨(bJ (f3 (gl aA y23.1) y23.1.length (fun _ => [.str (((at_ a.2.1 y23.2.1).1).1),.str (((at_ a.2.1 y23.2.1).1).2.1),.int .i64 (((at_ a.2.1 y23.2.1).1).2.2.1),.int .i64 ((((at_ a.2.1 y23.2.1).1).2.2.2.1).1),.int .i64 ((((at_ a.2.1 y23.2.1).1).2.2.2.1).2.1),.int .i64 ((((at_ a.2.1 y23.2.1).1).2.2.2.1).2.2),.slice .ro 2 ((((at_ a.2.1 y23.2.1).1).2.2.2.2.1).length) (gl aD (((at_ a.2.1 y23.2.1).1).2.2.2.2.1)),.str (((at_ a.2.1 y23.2.1).1).2.2.2.2.2.1),.str (((at_ a.2.1 y23.2.1).1).2.2.2.2.2.2.1),.int .i64 (((at_ a.2.1 y23.2.1).1).2.2.2.2.2.2.2),.int .i64 ((at_ a.2.1 y23.2.1).2.1),.str ((at_ a.2.1 y23.2.1).2.2.1),.int .i64 ((at_ a.2.1 y23.2.1).2.2.2)])) (Rds.app (enc := aA) (Rds.self (enc := aA)) (Rds.one (enc := aA) (DEqs.refl _)))),k47⟩⟩⟩⟩)⟩⟩⟩⟩⟩⟩⟩)))⟩)⟩))⟩))) (fun h19 k180 => wrapK.i64 k180 (fun h176 h177 k178 => Exists.elim k178 (fun I56 h173_ => Exists.elim h173_ (fun μ57 h173 => ⟨I56,μ57,⟨(y17.1,[],((a.1.length : Int) - (1 : Int))),SlS.mk  (SlS.mk  (slQ (Rds.self (enc := aA)) (slQ (Rds.nil (enc := aK)) (⟨rfl,⟨rfl,⟨rfl,⟨rfl,⟨rfl,⟨rfl,⟨rfl,SlS.mk  (⟨rfl,⟨rfl,⟨rfl,⟨(bJ (gl aA y17.1) (Rds.self (enc := aA))),⟨(bJ cN (Rds.nil (enc := aK))),h173.1⟩⟩⟩⟩⟩)⟩⟩⟩⟩⟩⟩⟩))))⟩,fun y58 h175 => br (h173.2 y58 h175) Cnd.dec (fun h59 k171 => Exists.elim k171 (fun I62 h92_ => Exists.elim h92_ (fun μ63 h92 => ⟨I62,μ63,⟨(y58.1,y58.2.1,y58.2.2,(0 : Int)),SlS.mk  (SlS.mk  (slQ (Rds.self (enc := aA)) (slQ (Rds.self (enc := aK)) (⟨rfl,⟨rfl,⟨rfl,⟨rfl,⟨rfl,⟨rfl,⟨rfl,⟨rfl,SlS.mk  (⟨rfl,⟨rfl,⟨rfl,⟨(bJ (gl aA y58.1) (Rds.self (enc := aA))),⟨(bJ (gl aK y58.2.1) (Rds.self (enc := aK))),h92.1⟩⟩⟩⟩⟩)⟩⟩⟩⟩⟩⟩⟩⟩))))⟩,fun y64 h94 => br (h92.2 y64 h94) Cnd.dec (fun h65 k90 => chk k90.2.2 Cnd.ix ⟨k90.1,k90.2.1⟩ (fun h67 k81 => chk k81.2.2 Cnd.ix ⟨k81.1,k81.2.1⟩ (fun h68 k80 => br k80 Cnd.seq (fun h69 k78 => ⟨k78,trivial⟩) (fun h70 k79 => wrapK.i64 k79 (fun h75 h76 k77 => ⟨(y64.1,y64.2.1,y64.2.2.1,(y64.2.2.2 + (1 : Int))),SlS.mk  (SlS.mk  (slQ (Rds.self (enc := aA)) (slQ (Rds.self (enc := aK)) (⟨rfl,⟨rfl,⟨rfl,⟨rfl,⟨rfl,⟨rfl,⟨rfl,⟨rfl,SlS.mk  (⟨rfl,⟨rfl,⟨rfl,⟨(bJ (gl aA y64.1) (Rds.self (enc := aA))),⟨(bJ (gl aK y64.2.1) (Rds.self (enc := aK))),k77⟩⟩⟩⟩⟩)⟩⟩⟩⟩⟩⟩⟩⟩))))⟩))))) (fun h66 k91 => chk k91.2.2 Cnd.ix ⟨k91.1,k91.2.1⟩ (fun h82 k89 => ⟨⟨rfl,(nS k89.1 (by decide))⟩,wrapK.i64 k89.2 (fun h86 h87 k88 => ⟨(y64.1,y64.2.1 ++ ([(((at_ a.1 y64.2.2.1).1),(at_ a.1 y64.2.2.1).2.1,(at_ a.1 y64.2.2.1).2.2)]),(y64.2.2.1 - (1 : Int))),SlS.mk  (SlS.mk  (slQ (Rds.self (enc := aA)) (slQ (Rds.app (enc := aK) (Rds.self (enc := aK)) (Rds.one (enc := aK) (DEqs.refl _))) (⟨rfl,⟨rfl,⟨rfl,⟨rfl,⟨rfl,⟨rfl,⟨rfl,SlS.mk  (⟨rfl,⟨rfl,⟨rfl,⟨(bJ (gl aA y64.1) (Rds.self (enc := aA))),⟨(bJ (f3 (gl aK y64.2.1) y64.2.1.length (fun _ => [.str (((at_ a.1 y64.2.2.1).1).1),.int .i64 ((((at_ a.1 y64.2.2.1).1).2.1).1),.int .i64 ((((at_ a.1 y64.2.2.1).1).2.1).2.1),.int .i64 ((((at_ a.1 y64.2.2.1).1).2.1).2.2),.slice .ro 2 ((((at_ a.1 y64.2.2.1).1).2.2).length) (gl aD (((at_ a.1 y64.2.2.1).1).2.2)),.bool ((at_ a.1 y64.2.2.1).2.1),.int .i64 ((at_ a.1 y64.2.2.1).2.2)])) (Rds.app (enc := aK) (Rds.self (enc := aK)) (Rds.one (enc := aK) (DEqs.refl _)))),k88⟩⟩⟩⟩⟩)⟩⟩⟩⟩⟩⟩⟩))))⟩)⟩))⟩))) (fun h60 k172 => Exists.elim k172 (fun I96 h168_ => Exists.elim h168_ (fun μ97 h168 => ⟨I96,μ97,⟨(y58.1,y58.2.1,(0 : Int)),SlS.mk  (SlS.mk  (slQ (Rds.self (enc := aA)) (slQ (Rds.self (enc := aK)) (⟨rfl,⟨rfl,⟨rfl,⟨rfl,⟨rfl,⟨rfl,⟨rfl,⟨rfl,SlS.mk  (⟨rfl,⟨rfl,⟨rfl,⟨(bJ (gl aA y58.1) (Rds.self (enc := aA))),⟨(bJ (gl aK y58.2.1) (Rds.self (enc := aK))),h168.1⟩⟩⟩⟩⟩)⟩⟩⟩⟩⟩⟩⟩⟩))))⟩,fun y98 h170 => br (h168.2 y98 h170) Cnd.dec (fun h99 k166 => chk k166.2.2 Cnd.ix ⟨k166.1,k166.2.1⟩ (fun h101 k148 => br k148 Cnd.dec (fun h102 k146 => ⟨k146,trivial⟩) (fun h103 k147 => chk k147.2.2 Cnd.ix ⟨k147.1,k147.2.1⟩ (fun h105 k145 => br k145 Cnd.dec (fun h106 k143 => ⟨k143,trivial⟩) (fun h107 k144 => chk k144.2.2 Cnd.ix ⟨k144.1,k144.2.1⟩ (fun h109 k142 => br k142 Cnd.dec (fun h110 k140 => ⟨k140,trivial⟩) (fun h111 k141 => chk k141.2.2 Cnd.ix ⟨k141.1,k141.2.1⟩ (fun h113 k139 => br k139 Cnd.dec (fun h114 k137 => ⟨k137,trivial⟩) (fun h115 k138 => chk k138.2.2 Cnd.ix ⟨k138.1,k138.2.1⟩ (fun h117 k136 => br k136 Cnd.dec (fun h118 k134 => ⟨k134,trivial⟩) (fun h119 k135 => chk k135.2.2 Cnd.ix ⟨k135.1,k135.2.1⟩ (fun h121 k133 => br k133 Cnd.dec (fun h122 k131 => ⟨k131,trivial⟩) (fun h123 k132 => wrapK.i64 k132 (fun h128 h129 k130 => ⟨(y98.1,y98.2.1,(y98.2.2 + (1 : Int))),SlS.mk  (SlS.mk  (slQ (Rds.self (enc := aA)) (slQ (Rds.self (enc := aK)) (⟨rfl,⟨rfl,⟨rfl,⟨rfl,⟨rfl,⟨rfl,⟨rfl,⟨rfl,SlS.mk  (⟨rfl,⟨rfl,⟨rfl,⟨(bJ (gl aA y98.1) (Rds.self (enc := aA))),⟨(bJ (gl aK y98.2.1) (Rds.self (enc := aK))),k130⟩⟩⟩⟩⟩)⟩⟩⟩⟩⟩⟩⟩⟩))))⟩)))))))))))))) (fun h100 k167 => ⟨(a.1,a.2.1,a.2.2),slQ (Rds.self (enc := aK)) (slQ (Rds.self (enc := aA)) (⟨rfl,⟨rfl,⟨rfl,⟨rfl,⟨rfl,⟨rfl,slQ (Rds.self (enc := aD)) (⟨rfl,⟨rfl,⟨rfl,⟨k167.1,⟨(y98.2.1,y98.1,a.2.2),slQ (Rds.self (enc := aK)) (slQ (Rds.self (enc := aA)) (⟨rfl,⟨rfl,⟨rfl,⟨rfl,⟨rfl,⟨rfl,slQ (Rds.self (enc := aD)) (⟨rfl,⟨rfl,⟨rfl,⟨k167.2.1,br k167.2.2 Cnd.seq (fun h151 k162 => br k162 Cnd.b (fun h153 k159 => ⟨((a8 (a.1,a.2.1,a.2.2)).2.1,(a8 (y98.2.1,y98.1,a.2.2)).2.1),slQ (Rds.self (enc := cR)) (slQ (Rds.self (enc := cR)) (⟨k159.1,⟨k159.2,trivial⟩⟩))⟩) (fun h154 k160 => ⟨k160,trivial⟩)) (fun h152 k163 => ⟨k163,trivial⟩)⟩⟩⟩⟩)⟩⟩⟩⟩⟩⟩))⟩⟩⟩⟩⟩)⟩⟩⟩⟩⟩⟩))⟩)⟩)))⟩))))⟩))))⟩⟩⟩⟩)⟩⟩⟩⟩⟩⟩))⟩)⟩⟩
theorem f378.eq (a : (List (aC)) × (List (aB)) × aG) : (f378.af a).gives f378.env (f378.args a) (f378.blks a) (f378.res a) (f378.blks' a) = f378.tree a := by kernel_rfl
end Go.Abs

/- The laws of the machine from which jobs go. -/
namespace Go.Abs
open Go

theorem aDV {l : List bO} {jobs : List bZ} {t : bT} (hs : d9.size l + (fO.size jobs + fN.size t) ≤ 1048576) : fC (l,jobs,t) ∧ kH (l,jobs,t) := by
 have h2 : (l.map d6.size).sum + 1 = d9.size l := rfl
 have h3 := x7 d6.size (fun x => Nat.le_add_left 1 _) l
 have hj := yA (l := jobs) (by omega)
 have ht := yI (t := t) (by omega)
 have hw := vN (t := t) (by omega)
 have hl : L20 l := by unfold L20; omega
 have hm : ∀ m ∈ l,iF m.1 ∧ L20 m.1.2.2 := fun m hm => xV (by
  have h1 : d6.size m ≤ (l.map d6.size).sum := aCI _ hm
  omega)
 exact ⟨⟨hl,fun m hx => ⟨hj,(hm m hx).1,ht,(hm m hx).2,hw⟩⟩,hl,hj,hw,fun m hx => ⟨(hm m hx).1.1,(hm m hx).2⟩⟩

theorem qF {a : List bO × List bZ × bT} (h : L20 a.2.1) : L20 (a8 a).2.1 := by
 by_cases hn : bI a = []
 ·unfold a8
  rw [hn]
  exact Nat.zero_le _
 ·rw [oD hn]
  unfold L20 eZ
  simp only [List.length_map]
  exact qR h _ (f227.ok.minV_mem hn)

theorem aB4 (l : List ByteArray) : gY (l,l) = true := decide_eq_true rfl

def ltO (x y : b8) : Prop := (x.2.length : Int) < y.2.length ∨ ((x.2.length : Int) = y.2.length ∧ (dY x < dY y ∨ (dY x = dY y ∧ sLt x.1 y.1)))

theorem ltO.trans {x y z : b8} (h1 : ltO x y) (h2 : ltO y z) : ltO x z := by
 unfold ltO at *
 rcases h1 with h1 | ⟨e1,h1 | ⟨f1,h1⟩⟩ <;> rcases h2 with h2 | ⟨e2,h2 | ⟨f2,h2⟩⟩
 ·exact .inl (by omega)
 ·exact .inl (by omega)
 ·exact .inl (by omega)
 ·exact .inl (by omega)
 ·exact .inr ⟨by omega,.inl (by omega)⟩
 ·exact .inr ⟨by omega,.inl (by omega)⟩
 ·exact .inl (by omega)
 ·exact .inr ⟨by omega,.inl (by omega)⟩
 ·exact .inr ⟨by omega,.inr ⟨by omega,o9 h1 h2⟩⟩

theorem ltO.irr (x : b8) : ¬ ltO x x := by
 unfold ltO
 rintro (h | ⟨_,h | ⟨_,h⟩⟩)
 ·omega
 ·omega
 ·have := kA x.1.toList
  unfold sLt at h
  rw [this] at h
  cases h

theorem ltO.tri {x y : b8} (h1 : ¬ ltO x y) (h2 : ¬ ltO y x) : x.1 = y.1 := by
 unfold ltO at *
 have e1 : (x.2.length : Int) = y.2.length := by
  rcases Int.lt_trichotomy (x.2.length : Int) y.2.length with h | h | h
  ·exact absurd (.inl h) h1
  ·exact h
  ·exact absurd (.inl h) h2
 have e2 : dY x = dY y := by
  rcases Int.lt_trichotomy (dY x) (dY y) with h | h | h
  ·exact absurd (.inr ⟨e1,.inl h⟩) h1
  ·exact h
  ·exact absurd (.inr ⟨e1.symm,.inl h⟩) h2
 rcases t8 x.1.toList y.1.toList with h | h | h
 ·exact absurd (.inr ⟨e1,.inr ⟨e2,h⟩⟩) h1
 ·exact toList_inj.1 h
 ·exact absurd (.inr ⟨e1.symm,.inr ⟨e2.symm,h⟩⟩) h2

theorem oQ : ∀ (l : List b8) (m : b8),∀ o ∈ m :: l,¬ ltO o (eT m l)
 | [],m,o,h => by
  rw [List.mem_singleton.1 h]
  exact ltO.irr _
 | x :: l,m,o,h => by
  rw [eT]
  have ih := oQ l (if fG (x,m) < 0 then x else m)
  by_cases c : fG (x,m) < 0
  ·rw [if_pos c] at ih ⊢
   rcases List.mem_cons.1 h with h | h
   ·subst h
    exact fun hh => ih x (List.mem_cons_self ..) (ltO.trans ((o6 x o).1 c) hh)
   ·exact ih o h
  ·rw [if_neg c] at ih ⊢
   rcases List.mem_cons.1 h with h | h
   ·subst h
    exact ih o (List.mem_cons_self ..)
   ·rcases List.mem_cons.1 h with h | h
    ·subst h
     intro hh
     have hm := ih m (List.mem_cons_self ..)
     -- o is not ahead of m; what is behind the wO isn't before it
     by_cases q : ltO m o
     ·exact hm (q.trans hh)
     ·have e := ltO.tri q (fun hh2 => c ((o6 o m).2 hh2))
      exact hm (ltO_kin e q (fun hh2 => c ((o6 o m).2 hh2)) hh)
    ·exact ih o (List.mem_cons_of_mem _ h)
where
 ltO_kin {m o z : b8} (e : m.1 = o.1) (h1 : ¬ ltO m o) (h2 : ¬ ltO o m) (h : ltO o z) : ltO m z := by
  unfold ltO at *
  have e1 : (m.2.length : Int) = o.2.length := by
   rcases Int.lt_trichotomy (m.2.length : Int) o.2.length with h | h | h
   ·exact absurd (.inl h) h1
   ·exact h
   ·exact absurd (.inl h) h2
  have e2 : dY m = dY o := by
   rcases Int.lt_trichotomy (dY m) (dY o) with h | h | h
   ·exact absurd (.inr ⟨e1,.inl h⟩) h1
   ·exact h
   ·exact absurd (.inr ⟨e1.symm,.inl h⟩) h2
  rw [e1,e2,e]
  exact h

theorem uH {l : List b8} {o : b8} (h : o ∈ l) : ¬ ltO o (iN l) := by
 cases l with
 | nil => cases h
 | cons x l => exact oQ l x o h

theorem tO {a : List bO × List bZ × bT} {o : b8} : o ∈ bI a ↔ ∃ m ∈ a.1,(aZ (m,a.2)).2 = true ∧ o = (m.1.1,(aZ (m,a.2)).1) := by
 unfold bI
 rw [List.mem_map]
 constructor
 ·rintro ⟨m,hm,rfl⟩
  exact ⟨m,(List.mem_filter.1 hm).1,(List.mem_filter.1 hm).2,rfl⟩
 ·rintro ⟨m,hm,h,rfl⟩
  exact ⟨m,List.mem_filter.2 ⟨hm,h⟩,rfl⟩

theorem wU {a : List bO × List bZ × bT} (h : bI a = []) : a8 a = (ByteArray.empty,[],false) := by
 unfold a8
 rw [h]

structure RevI {α β : Type} [Inhabited α] (f : α → β) (l out : List α) (i : Int) : Prop where
 lo : -1 ≤ i
 hi : i < (l.length : Int)
 out : out = (l.drop (i + 1).toNat).reverse
 ne : ∀ j k : Nat,k < j → j < l.length → i < (j : Int) → f (l.getD j default) ≠ f (l.getD k default)

theorem RevI.init {α β : Type} [Inhabited α] (f : α → β) (l : List α) : RevI f l [] ((l.length : Int) - 1) := by
 refine ⟨by omega,by omega,?_,fun j k _ h2 h3 => by omega⟩
 rw [List.drop_of_length_le (by omega)]
 rfl

theorem RevI.step {α β : Type} [Inhabited α] {f : α → β} {l out : List α} {i : Int} (h : RevI f l out i) (h0 : 0 ≤ i) (hn : ∀ k : Nat,k < i.toNat → f (at_ l i) ≠ f (l.getD k default)) : RevI f l (out ++ [at_ l i]) (i - 1) := by
 have hi := h.hi
 refine ⟨by omega,by omega,?_,fun j k h1 h2 h3 => ?_⟩
 ·rw [h.out,show (i - 1 + 1).toNat = i.toNat from by omega,List.drop_eq_getElem_cons (i := i.toNat) (by omega),List.reverse_cons,show (i + 1).toNat = i.toNat + 1 from by omega]
  unfold at_
  rw [iA (by omega)]
 ·by_cases e : i = (j : Int)
  ·subst e
   exact hn k (by omega)
  ·exact h.ne j k h1 h2 (by omega)

theorem RevI.done {α β : Type} [Inhabited α] {f : α → β} {l out : List α} {i : Int} (h : RevI f l out i) (hi : ¬ 0 ≤ i) : out = l.reverse ∧ (l.map f).Nodup := by
 have lo := h.lo
 have e : i = -1 := by omega
 subst e
 refine ⟨h.out,?_⟩
 refine List.pairwise_iff_getElem.2 fun k j hk hj hkj e => ?_
 rw [List.length_map] at hk hj
 rw [List.getElem_map,List.getElem_map] at e
 refine h.ne j k hkj hj (by omega) ?_
 rw [iA hj,iA hk]
 exact e.symm

theorem aFO (jobs : List bZ) (n : ByteArray) : (gA jobs.reverse n).Perm (gA jobs n) := ((List.reverse_perm jobs).filter _).map _

theorem aA3 (m : bO) (jobs : List bZ) : ((bR (m,jobs.reverse)).2 = 0 ↔ (bR (m,jobs)).2 = 0) ∧ ((bR (m,jobs)).2 = 0 → bR (m,jobs.reverse) = bR (m,jobs)) := by
 have hp := aFO jobs m.1.1
 have hs : (eN (gA jobs.reverse m.1.1)).2 = 0 ↔ (eN (gA jobs m.1.1)).2 = 0 := by
  rw [zA,zA,rB hp]
  constructor
  ·rintro ⟨h1,h2⟩
   exact ⟨fun x hx => h1 x (hp.mem_iff.2 hx),h2⟩
  ·rintro ⟨h1,h2⟩
   exact ⟨fun x hx => h1 x (hp.mem_iff.1 hx),h2⟩
 have h1 : (bR (m,jobs.reverse)).2 = 0 ↔ (bR (m,jobs)).2 = 0 := by
  rw [wY,wY,hs]
  refine and_congr_right fun h => ?_
  rw [uA h,uA (hs.2 h),rB hp]
 refine ⟨h1,fun h => ?_⟩
 rw [zM h,zM (h1.2 h),rB hp]

theorem tU {m : bO} {l : List bZ} {t : bT} (h : ¬ (bR (m,l)).2 = 0) : fE (m,l,t) = 5 := by
 unfold fE
 exact if_pos fun hh => h hh.1

theorem aG9 (m : bO) (jobs : List bZ) (t : bT) : fE (m,jobs.reverse,t) = fE (m,jobs,t) := by
 obtain ⟨h1,h2⟩ := aA3 m jobs
 by_cases h : (bR (m,jobs)).2 = 0
 ·have e : eE (jobs.reverse,m,t) = eE (jobs,m,t) := by
   unfold eE
   exact List.any_reverse
  unfold fE
  simp only
  rw [h2 h,e]
 ·rw [tU h,tU (fun hh => h (h1.1 hh))]

theorem tS {α : Type} {p : α → Bool} : ∀ {l : List α},(l.Pairwise fun x y => ¬ (p x = true ∧ p y = true)) → (l.filter p).reverse = l.filter p
 | [],_ => rfl
 | x :: l,h => by
  obtain ⟨h1,h2⟩ := List.pairwise_cons.1 h
  by_cases c : p x = true
  ·have e : l.filter p = [] := List.filter_eq_nil_iff.2 fun y hy hh => h1 y hy ⟨c,hh⟩
   rw [List.filter_cons_of_pos c,e]
   rfl
  ·rw [List.filter_cons_of_neg c]
   exact tS h2

theorem aF4 {L : List bZ} (h : (L.map fun j : bZ => j.2.1).Nodup) : bP ltW L.reverse = bP ltW L := by
 refine (pO gP (kG gP L) ((iK gP L).trans fun z => ?_)).symm
 rw [List.filter_reverse]
 refine (tS ?_).symm
 refine List.Pairwise.imp ?_ (List.Pairwise.of_map _ (fun _ _ h => h) h)
 rintro x y hne ⟨h1,h2⟩
 refine hne ?_
 obtain ⟨a1,a2⟩ := sU.1 h1
 obtain ⟨b1,b2⟩ := sU.1 h2
 rw [← Bool.not_eq_true,xL] at a1 a2 b1 b2
 omega

theorem aEI {m : bO} {jobs : List bZ} {t : bT} (h : (jobs.map fun j : bZ => j.2.1).Nodup) : eG (m,jobs.reverse,t) = eG (m,jobs,t) := by
 unfold eG oN
 simp only
 rw [List.filter_reverse]
 exact aF4 (h.sublist (List.filter_sublist.map _))

theorem aFK {m : bO} {jobs : List bZ} {t : bT} (h : (jobs.map fun j : bZ => j.2.1).Nodup) : aZ (m,jobs.reverse,t) = aZ (m,jobs,t) := by
 unfold aZ
 simp only
 rw [aG9,aEI h]
 by_cases c : fE (m,jobs,t) = 0
 ·rw [if_pos c,if_pos c]
 ·rw [if_neg c,if_neg c]
  by_cases c4 : fE (m,jobs,t) = 4
  ·rw [if_neg (not_not_intro c4),if_neg (not_not_intro c4),(aA3 m jobs).2 (aF9.1 c4).1.1]
  ·rw [if_pos c4,if_pos c4]

theorem aCB {l : List bO} {jobs : List bZ} {t : bT} (hm : (l.map fun m : bO => m.1.1).Nodup) (h : (jobs.map fun j : bZ => j.2.1).Nodup) : a8 (l,jobs,t) = a8 (l.reverse,jobs.reverse,t) := by
 have e : bI (l.reverse,jobs.reverse,t) = (bI (l,jobs,t)).reverse := by
  unfold bI
  simp only
  rw [← List.map_reverse,← List.filter_reverse]
  simp only [aFK h]
 by_cases hn : bI (l,jobs,t) = []
 ·rw [wU hn,wU (by rw [e,hn]; rfl)]
 ·have hn2 : bI (l.reverse,jobs.reverse,t) ≠ [] := by rw [e]; exact fun hh => hn (List.reverse_eq_nil_iff.1 hh)
  have q1 := f227.ok.minV_mem hn
  have q2 := f227.ok.minV_mem hn2
  rw [e,List.mem_reverse] at q2
  have n1 := uH q2
  have n2 := uH (l := bI (l.reverse,jobs.reverse,t)) (o := iN (bI (l,jobs,t))) (by rw [e,List.mem_reverse]; exact q1)
  rw [e] at n2
  have e1 := ltO.tri n2 n1
  obtain ⟨m1,hm1,_,f1⟩ := tO.1 q1
  obtain ⟨m2,hm2,_,f2⟩ := tO.1 q2
  rw [f1,f2] at e1
  have em : m1 = m2 := by
   obtain ⟨i,hi,r1⟩ := List.mem_iff_getElem.1 hm1
   obtain ⟨k,hk,r2⟩ := List.mem_iff_getElem.1 hm2
   by_cases hik : i = k
   ·subst hik
    exact r1.symm.trans r2
   ·have hp := List.pairwise_iff_getElem.1 hm
    rcases Nat.lt_or_gt_of_ne hik with hh | hh
    ·have := hp i k (by rw [List.length_map]; exact hi) (by rw [List.length_map]; exact hk) hh
     rw [List.getElem_map,List.getElem_map,r1,r2] at this
     exact absurd e1 this
    ·have := hp k i (by rw [List.length_map]; exact hk) (by rw [List.length_map]; exact hi) hh
     rw [List.getElem_map,List.getElem_map,r1,r2] at this
     exact absurd e1.symm this
  rw [oD hn,oD hn2,e,f1,f2,em]

theorem f378.ok (a : List bO × List bZ × bT) (h : f378.lpre a) : f378.vc a := by
 obtain ⟨_,hs⟩ := h
 obtain ⟨l,jobs,t⟩ := a
 obtain ⟨hc,hf⟩ := aDV hs
 have h1 : l.length ≤ 1048576 := hc.1
 have hj : L20 jobs := hf.2.1
 have hj1 : jobs.length ≤ 1048576 := hj
 have rl : ∀ {α β : Type} [Inhabited α] {f : α → β} {l out : List α} {i : Int},RevI f l out i → out.length ≤ l.length := fun h => by
  rw [h.out,List.length_reverse,List.length_drop]
  omega
 refine ⟨fun _ => rfl,fun _ => ⟨hf,fun _ => rfl,fun _ => ⟨by simp only; omega,by simp only; omega,fun y => RevI (fun j : bZ => j.2.1) jobs y.1 y.2,fun y => (y.2 + 1).toNat,RevI.init _ _,fun y hy => ?_⟩⟩⟩
 obtain ⟨out,i⟩ := y
 have hy : RevI (fun j : bZ => j.2.1) jobs out i := hy
 have q0 := hy.lo
 have q1 := hy.hi
 have q2 := rl hy
 simp only
 refine ⟨fun hi => ?_,fun hi => ?_⟩
 ·refine ⟨fun z => z.1 = out ∧ z.2.1 = i ∧ 0 ≤ z.2.2 ∧ z.2.2 ≤ i ∧ ∀ k : Nat,k < z.2.2.toNat → (at_ jobs i).2.1 ≠ (jobs.getD k default).2.1,fun z => i.toNat - z.2.2.toNat,⟨rfl,rfl,by simp only; omega,by simp only; omega,fun k hk => by simp at hk⟩,fun z hz => ?_⟩
  obtain ⟨out',i',k⟩ := z
  obtain ⟨e1,e2,z0,z1,z2⟩ := hz
  simp only at e1 e2 z0 z1 z2 ⊢
  subst e1; subst e2
  refine ⟨fun hk => ⟨hi,q1,z0,by omega,fun _ => rfl,fun c => ⟨by omega,by omega,⟨rfl,rfl,by omega,by omega,fun j hj => ?_⟩,by omega⟩⟩,fun hk => ⟨hi,q1,by omega,by omega,by omega,hy.step hi fun j hj => z2 j (by omega),by omega⟩⟩
  by_cases he : j = k.toNat
  ·subst he
   exact c
  ·exact z2 j (by omega)
 ·obtain ⟨eo,hnj⟩ := hy.done hi
  refine ⟨by omega,by omega,fun y => y.1 = jobs.reverse ∧ RevI (fun m : bO => m.1.1) l y.2.1 y.2.2,fun y => (y.2.2 + 1).toNat,⟨eo,RevI.init _ _⟩,fun y hy => ?_⟩
  obtain ⟨outj,outm,i⟩ := y
  obtain ⟨ej,hy⟩ := hy
  have hy : RevI (fun m : bO => m.1.1) l outm i := hy
  have q0 := hy.lo
  have q1 := hy.hi
  have q2 := rl hy
  simp only at ej ⊢
  subst ej
  refine ⟨fun hi => ?_,fun hi => ?_⟩
  ·refine ⟨fun z => z.1 = jobs.reverse ∧ z.2.1 = outm ∧ z.2.2.1 = i ∧ 0 ≤ z.2.2.2 ∧ z.2.2.2 ≤ i ∧ ∀ k : Nat,k < z.2.2.2.toNat → (at_ l i).1.1 ≠ (l.getD k default).1.1,fun z => i.toNat - z.2.2.2.toNat,⟨rfl,rfl,rfl,by simp only; omega,by simp only; omega,fun k hk => by simp at hk⟩,fun z hz => ?_⟩
   obtain ⟨outj',out',i',k⟩ := z
   obtain ⟨e0,e1,e2,z0,z1,z2⟩ := hz
   simp only at e0 e1 e2 z0 z1 z2 ⊢
   subst e0; subst e1; subst e2
   refine ⟨fun hk => ⟨hi,q1,z0,by omega,fun _ => rfl,fun c => ⟨by omega,by omega,⟨rfl,rfl,rfl,by omega,by omega,fun j hj => ?_⟩,by omega⟩⟩,fun hk => ⟨hi,q1,by omega,by omega,by omega,⟨rfl,hy.step (show 0 ≤ i' from hi) fun j (hj : j < i'.toNat) => z2 j (by have hk : ¬ k < i' := hk; omega)⟩,by omega⟩⟩
   by_cases he : j = k.toNat
   ·subst he
    exact c
   ·exact z2 j (by omega)
  ·obtain ⟨em,hnm⟩ := hy.done hi
   subst em
   refine ⟨fun y => y.1 = jobs.reverse ∧ y.2.1 = l.reverse ∧ 0 ≤ y.2.2 ∧ y.2.2 ≤ (jobs.length : Int),fun y => jobs.length - y.2.2.toNat,⟨rfl,rfl,by simp only; omega,by simp only; omega⟩,fun y hy => ?_⟩
   obtain ⟨oj,om,i⟩ := y
   obtain ⟨e1,e2,z0,z1⟩ := hy
   simp only at e1 e2 z0 z1 ⊢
   subst e1; subst e2
   refine ⟨fun hlt => ⟨z0,hlt,fun _ => rfl,fun _ => ⟨z0,hlt,fun _ => rfl,fun _ => ⟨z0,hlt,fun _ => rfl,fun _ => ⟨z0,hlt,fun _ => rfl,fun _ => ⟨z0,hlt,fun _ => rfl,fun _ => ⟨z0,hlt,fun _ => rfl,fun _ => ⟨by omega,by omega,⟨rfl,rfl,by omega,by omega⟩,by omega⟩⟩⟩⟩⟩⟩⟩,fun _ => ?_⟩
   have hr : fC (l.reverse,jobs.reverse,t) := by
    refine ⟨by unfold L20; rw [List.length_reverse]; exact h1,fun m hm => ?_⟩
    obtain ⟨_,w2,w3,w4,w5⟩ := hc.2 m (List.mem_reverse.1 hm)
    exact ⟨by unfold L20; rw [List.length_reverse]; exact hj1,w2,w3,w4,w5⟩
   refine ⟨hc,hr,?_⟩
   rw [← aCB hnm hnj]
   exact ⟨fun _ => ⟨fun _ => ⟨⟨qF hj,qF hj⟩,aB4 _⟩,fun c => absurd (beq_self_eq_true _) c⟩,fun c => absurd rfl c⟩
end Go.Abs
