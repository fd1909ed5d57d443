/- Functions, and what the code asks of them: POrdLaw2. -/
import Derived.KernelRfl
import Derived.Test.YtjlehbennimkgabOrderOnceP4
import Derived.Test.YtjlehbennimkgabOrderOnceP5
import Derived.Test.YtjlehbennimkgabOrderOnceP6
import Derived.Test.YtjlehbennimkgabOrderOnceP7
import Derived.Test.YtjlehbennimkgabOrderOnceP8
import Derived.Test.YtjlehbennimkgabOrderOnceP9
import Derived.Test.YtjlehbennimkgabOrderOnceP10
import Derived.Test.YtjlehbennimkgabOrderOnceP11
import Derived.Test.YtjlehbennimkgabOrderOnceP12
import Derived.Test.YtjlehbennimkgabOrderOnceP14
import Derived.Test.YtjlehbennimkgabOrderOnceP15
import Derived.Test.YtjlehbennimkgabOrderOnceP17
import Derived.Test.YtjlehbennimkgabOrderOnceP18
import Derived.Test.YtjlehbennimkgabOrderOnceP19
import Derived.Test.YtjlehbennimkgabOrderOnceP20
import Derived.Test.YtjlehbennimkgabOrderOnceP21
set_option maxRecDepth 100000
set_option maxHeartbeats 4000000
set_option linter.unusedVariables false
set_option linter.unusedSimpArgs false
-- interregnum/interregnumlaw14.OrderOnce
namespace Go.Abs
open Go
def f80.wf (a:List (aB)):Prop:=fK.ok a
def f80.size (a:List (aB)):Nat:=fK.size a
def f80.lpre (a:List (aB)):Prop:=f80.wf a∧f80.size a≤1048576
def f80.args (a:List (aB)):List D:=[.slice .ro 13 a.length (gl aD a)]
def f80.blks (a:List (aB)):List (List D):=[]
def f80.res (a:List (aB)):List D:=[.bool (a9 a)]
def f80.blks' (a:List (aB)):List (List D):=[]
def f80.C:aX:=FnC f80.args f80.blks (fun a=>f80.lpre a) f80.res f80.blks'
set_option linter.unusedVariables false
def f80.S0 (a:List (aB)) (x:(List (List (Int)))×Int×Int×(List (Int))):Tm:=⟨[.slice .ro 13 a.length (gl aD a),.dead,.dead,.slice .ro 1 x.1.length (gl aL x.1),.msl 1000027 1 x.2.2.2.length,.dead,.dead,.dead,.dead,.dead,.dead,.dead,.dead,.dead,.dead,.dead,.dead,.dead,.dead,.dead,.dead,.dead,.dead,.int .i64 x.2.1,.int .i64 x.2.2.1,.dead,.dead,.dead,.dead,.dead,.dead,.dead,.dead,.dead,.dead,.dead,.dead,.dead,.dead,.dead,.dead,.dead,.dead,.dead,.dead,.dead,.dead,.dead,.dead,.dead,.dead,.dead,.dead,.dead,.dead,.dead,.dead,.dead,.dead,.dead,.dead,.dead,.dead,.dead,.dead,.dead,.dead,.dead,.dead,.dead,.dead,.dead,.dead,.dead,.dead,.dead,.dead,.dead,.dead,.dead,.dead,.dead,.dead,.dead,.dead,.dead,.dead,.dead,.dead,.dead,.dead,.dead,.dead,.dead,.dead,.dead,.dead,.dead,.dead,.dead,.dead,.dead,.dead,.dead,.dead,.dead,.dead,.dead,.dead,.dead,.dead,.dead,.dead,.dead,.dead,.dead,.dead,.dead,.dead,.dead,.dead,.dead,.dead,.dead,.dead,.dead,.dead,.dead,.dead,.dead,.dead,.dead,.dead,.dead,.dead,.dead,.dead,.dead,.dead,.dead],[(1000027,false,[.dead,.arr true 1 x.2.2.2.length (gl aC x.2.2.2)])],[]⟩
def f80.S1 (a:List (aB)) (x:(List (List (Int)))×Int×Int×Int×Int×Int×(List (Int))):Tm:=⟨[.slice .ro 13 a.length (gl aD a),.dead,.dead,.slice .ro 1 x.1.length (gl aL x.1),.msl 1000027 1 x.2.2.2.2.2.2.length,.int .i64 x.2.1,.dead,.dead,.dead,.dead,.dead,.dead,.dead,.dead,.dead,.dead,.dead,.dead,.dead,.dead,.dead,.dead,.dead,.int .i64 x.2.2.1,.int .i64 x.2.2.2.1,.dead,.dead,.dead,.dead,.dead,.dead,.dead,.dead,.dead,.dead,.dead,.dead,.int .i64 x.2.2.2.2.1,.int .i64 x.2.2.2.2.2.1,.dead,.dead,.dead,.dead,.dead,.dead,.dead,.dead,.dead,.dead,.dead,.dead,.dead,.dead,.dead,.dead,.dead,.dead,.dead,.dead,.dead,.dead,.dead,.dead,.dead,.dead,.dead,.dead,.dead,.dead,.dead,.dead,.dead,.dead,.dead,.dead,.dead,.dead,.dead,.dead,.dead,.dead,.dead,.dead,.dead,.dead,.dead,.dead,.dead,.dead,.dead,.dead,.dead,.dead,.dead,.dead,.dead,.dead,.dead,.dead,.dead,.dead,.dead,.dead,.dead,.dead,.dead,.dead,.dead,.dead,.dead,.dead,.dead,.dead,.dead,.dead,.dead,.dead,.dead,.dead,.dead,.dead,.dead,.dead,.dead,.dead,.dead,.dead,.dead,.dead,.dead,.dead,.dead,.dead,.dead,.dead,.dead,.dead,.dead,.dead,.dead],[(1000027,false,[.dead,.arr true 1 x.2.2.2.2.2.2.length (gl aC x.2.2.2.2.2.2)])],[]⟩
def f80.S2 (a:List (aB)) (x:Int×(List (Int))):Tm:=⟨[.slice .ro 13 a.length (gl aD a),.dead,.dead,.dead,.msl 1000027 1 x.2.length,.dead,.dead,.dead,.dead,.dead,.dead,.dead,.dead,.dead,.dead,.dead,.dead,.dead,.dead,.dead,.dead,.dead,.dead,.dead,.dead,.dead,.dead,.dead,.dead,.dead,.dead,.dead,.dead,.dead,.dead,.dead,.dead,.dead,.dead,.dead,.dead,.dead,.dead,.dead,.dead,.dead,.dead,.dead,.dead,.dead,.dead,.dead,.dead,.dead,.dead,.dead,.dead,.dead,.dead,.dead,.dead,.dead,.dead,.dead,.dead,.dead,.dead,.dead,.dead,.dead,.dead,.dead,.dead,.dead,.dead,.dead,.dead,.dead,.dead,.dead,.dead,.dead,.dead,.dead,.dead,.dead,.dead,.dead,.dead,.dead,.dead,.dead,.dead,.dead,.dead,.dead,.dead,.dead,.dead,.dead,.dead,.dead,.dead,.dead,.dead,.dead,.int .i64 (a.length:Int),.int .i64 x.1,.dead,.dead,.dead,.dead,.dead,.dead,.dead,.dead,.dead,.dead,.dead,.dead,.dead,.dead,.dead,.dead,.dead,.dead,.dead,.dead,.dead,.dead,.dead,.dead,.dead,.dead,.dead,.dead,.dead,.dead,.dead,.dead],[(1000027,false,[.dead,.arr true 1 x.2.length (gl aC x.2)])],[]⟩
def f80.kills (a:List (aB)):List iX:=[.tell ((List (List (Int)))×Int×Int×(List (Int))) (f80.S0 a),
 .tell ((List (List (Int)))×Int×Int×Int×Int×Int×(List (Int))) (f80.S1 a),
 .tell (Int×(List (Int))) (f80.S2 a)]
def f80.cuts (a:List (aB)):List (Nat×Σ β:Type,β→Tm):=[(999999,⟨Unit,fun x=>⟨[],[],[]⟩⟩)]
def f80.af (a:List (aB)):AF:=AF.mk (.seq (.region [⟨(some 2),1000000,.move,[.c (.bool false)],none⟩])
 (.seq (.seq (.region [oR 9 1 (.call false 91) [],
 oR 10 5 (.un .not) [9],
 oR 11 6 .move [10],
 oG 12 1000007 .move [0] 11 false,
 oG 13 1000008 (.call true 92) [12] 11 false,
 oG 14 1000012 (.un .not) [13] 11 false,
 ⟨(some 15),1000013,.pick,[.t 11,.c (.bool true),.t 14],none⟩])
 (.cond (.t 15) (.seq (.region [oR 16 14 (.call false 91) [],
 oR 2 18 .move [16]])
 (.ret)) (.skip)))
 (.seq (.region [oR 17 19 .move [0],
 oR 18 20 (.call true 93) [17],
 oR 3 24 .move [18]])
 (.seq (.region [oR 19 25 .move [0],
 oR 20 26 (.len false) [19],
 oR 21 27 (.makeSlice [.int .i64 (0)] 8) [20,20],
 oR 4 28 .move [21]])
 (.seq (.seq (.region [oR 22 29 .move [3],
 oR 23 30 (.len false) [22],
 ⟨(some 24),1000031,.move,[.c (.int .i64 (0))],none⟩])
 (.block 0 (.loopT ((List (List (Int)))×Int×Int×(List (Int))) (f80.S0 a) 1000032 1000120 (.seq (.region [oR 25 32 (.bin .lss) [24,23]])
 (.seq (.cond (.t 25) (.skip) (.exit 0))
 (.seq (.block 1 (.seq (.region [oR 26 33 .move [24],
 oR 5 34 .move [26]])
 (.seq (.seq (.region [oR 27 35 .move [3],
 oR 28 36 .move [5],
 oR 29 37 (.indexAddr 1 none) [27,28],
 oR 30 38 (.load false 1) [29],
 oR 31 39 (.len false) [30],
 ⟨(some 32),1000040,(.bin .eql),[.t 31,.c (.int .i64 (0))],none⟩])
 (.cond (.t 32) (.seq (.region [⟨(some 2),1000041,.move,[.c (.bool false)],none⟩])
 (.ret)) (.skip)))
 (.seq (.region [oR 33 42 .move [3],
 oR 34 43 .move [5],
 oR 35 44 (.indexAddr 1 none) [33,34],
 oR 36 45 (.load false 1) [35],
 oR 37 46 (.len false) [36],
 ⟨(some 38),1000047,.move,[.c (.int .i64 (0))],none⟩])
 (.block 2 (.loopT ((List (List (Int)))×Int×Int×Int×Int×Int×(List (Int))) (f80.S1 a) 1000048 1000118 (.seq (.region [oR 39 48 (.bin .lss) [38,37]])
 (.seq (.cond (.t 39) (.skip) (.exit 2))
 (.seq (.block 3 (.seq (.region [oR 40 49 .move [38],
 oR 6 50 .move [40]])
 (.seq (.region [oR 41 51 .move [3],
 oR 42 52 .move [5],
 oR 43 53 (.indexAddr 1 none) [41,42],
 oR 44 54 (.load false 1) [43],
 oR 45 55 .move [6],
 oR 46 56 (.indexAddr 1 none) [44,45],
 oR 47 57 (.load false 1) [46],
 oR 7 58 .move [47]])
 (.seq (.seq (.region [oR 48 59 .move [7],
 ⟨(some 49),1000060,(.bin .lss),[.t 48,.c (.int .i64 (0))],none⟩,
 oR 50 61 .move [49],
 oG 51 1000062 .move [7] 50 false,
 oG 52 1000063 .move [0] 50 false,
 oG 53 1000064 (.len false) [52] 50 false,
 oG 54 1000065 (.bin .geq) [51,53] 50 false,
 ⟨(some 55),1000066,.pick,[.t 50,.c (.bool true),.t 54],none⟩,
 oR 56 67 .move [55],
 oG 57 1000068 .move [0] 56 false,
 oG 58 1000069 .move [7] 56 false,
 oG 59 1000070 (.indexAddr 13 none) [57,58] 56 false,
 oG 60 1000071 (.fieldAddr 11) [59] 56 false,
 oG 61 1000072 (.load false 1) [60] 56 false,
 ⟨(some 62),1000073,(.bin .neq),[.t 61,.c (.str ByteArray.empty)],(some (56,false))⟩,
 ⟨(some 63),1000074,.pick,[.t 56,.c (.bool true),.t 62],none⟩,
 oR 64 75 .move [63],
 oG 65 1000076 .move [0] 64 false,
 oG 66 1000077 .move [7] 64 false,
 oG 67 1000078 (.indexAddr 13 none) [65,66] 64 false,
 oG 68 1000079 (.fieldAddr 0) [67] 64 false,
 oG 69 1000080 (.fieldAddr 8) [68] 64 false,
 oG 70 1000081 (.load false 1) [69] 64 false,
 oG 71 1000082 .move [0] 64 false,
 oG 72 1000083 .move [3] 64 false,
 oG 73 1000084 .move [5] 64 false,
 oG 74 1000085 (.indexAddr 1 none) [72,73] 64 false,
 oG 75 1000086 (.load false 1) [74] 64 false,
 ⟨(some 76),1000087,(.indexAddr 1 none),[.t 75,.c (.int .i64 (0))],(some (64,false))⟩,
 oG 77 1000088 (.load false 1) [76] 64 false,
 oG 78 1000089 (.indexAddr 13 none) [71,77] 64 false,
 oG 79 1000090 (.fieldAddr 0) [78] 64 false,
 oG 80 1000091 (.fieldAddr 8) [79] 64 false,
 oG 81 1000092 (.load false 1) [80] 64 false,
 oG 82 1000093 (.bin .neq) [70,81] 64 false,
 ⟨(some 83),1000094,.pick,[.t 64,.c (.bool true),.t 82],none⟩,
 oR 84 95 .move [83],
 oG 85 1000096 .move [6] 84 false,
 ⟨(some 86),1000097,(.bin .gtr),[.t 85,.c (.int .i64 (0))],(some (84,false))⟩,
 oG 87 1000098 .move [86] 84 false,
 oG 88 1000099 .move [0] 87 true,
 oG 89 1000100 .move [7] 87 true,
 oG 90 1000101 (.indexAddr 13 none) [88,89] 87 true,
 oG 91 1000102 (.fieldAddr 0) [90] 87 true,
 oG 92 1000103 (.fieldAddr 8) [91] 87 true,
 oG 93 1000104 (.load false 1) [92] 87 true,
 ⟨(some 94),1000105,(.bin .eql),[.t 93,.c (.str ByteArray.empty)],(some (87,true))⟩,
 ⟨(some 95),1000106,.pick,[.t 87,.t 94,.c (.bool false)],(some (84,false))⟩,
 ⟨(some 96),1000107,.pick,[.t 84,.c (.bool true),.t 95],none⟩])
 (.cond (.t 96) (.seq (.region [⟨(some 2),1000108,.move,[.c (.bool false)],none⟩])
 (.ret)) (.skip)))
 (.region [oR 97 109 .move [4],
 oR 98 110 .move [7],
 oR 99 111 (.indexAddr 1 none) [97,98],
 oR 100 112 (.load false 1) [99],
 ⟨(some 101),1000113,(.bin .add),[.t 100,.c (.int .i64 (1))],none⟩,
 oR 102 114 (.indexAddr 1 none) [97,98],
 ⟨none,1000115,(.store 1),[.t 102,.t 101],none⟩])))))
 (.region [⟨(some 103),1000116,(.bin .add),[.t 38,.c (.int .i64 (1))],none⟩,
 oR 38 117 .move [103]]))))))))))
 (.region [⟨(some 104),1000118,(.bin .add),[.t 24,.c (.int .i64 (1))],none⟩,
 oR 24 119 .move [104]])))))))
 (.seq (.seq (.region [oR 105 120 .move [0],
 oR 106 121 (.len false) [105],
 ⟨(some 107),1000122,.move,[.c (.int .i64 (0))],none⟩])
 (.block 4 (.loopT (Int×(List (Int))) (f80.S2 a) 1000123 1000158 (.seq (.region [oR 108 123 (.bin .lss) [107,106]])
 (.seq (.cond (.t 108) (.skip) (.exit 4))
 (.seq (.block 5 (.seq (.region [oR 109 124 .move [107],
 oR 8 125 .move [109]])
 (.seq (.region [oR 110 126 .move [4],
 oR 111 127 .move [8],
 oR 112 128 (.indexAddr 1 none) [110,111],
 oR 113 129 (.load false 1) [112],
 ⟨(some 114),1000130,(.bin .gtr),[.t 113,.c (.int .i64 (1))],none⟩,
 oR 115 131 .move [114],
 oG 116 1000132 .move [4] 115 false,
 oG 117 1000133 .move [8] 115 false,
 oG 118 1000134 (.indexAddr 1 none) [116,117] 115 false,
 oG 119 1000135 (.load false 1) [118] 115 false,
 ⟨(some 120),1000136,(.bin .eql),[.t 119,.c (.int .i64 (0))],(some (115,false))⟩,
 oG 121 1000137 .move [120] 115 false,
 oG 122 1000138 .move [0] 121 true,
 oG 123 1000139 .move [8] 121 true,
 oG 124 1000140 (.indexAddr 13 none) [122,123] 121 true,
 oG 125 1000141 (.fieldAddr 11) [124] 121 true,
 oG 126 1000142 (.load false 1) [125] 121 true,
 ⟨(some 127),1000143,(.bin .eql),[.t 126,.c (.str ByteArray.empty)],(some (121,true))⟩,
 ⟨(some 128),1000144,.pick,[.t 121,.t 127,.c (.bool false)],(some (115,false))⟩,
 oG 129 1000145 .move [128] 115 false,
 oG 130 1000146 .move [0] 129 true,
 oG 131 1000147 .move [8] 129 true,
 oG 132 1000148 (.indexAddr 13 none) [130,131] 129 true,
 oG 133 1000149 (.fieldAddr 0) [132] 129 true,
 oG 134 1000150 (.fieldAddr 8) [133] 129 true,
 oG 135 1000151 (.load false 1) [134] 129 true,
 ⟨(some 136),1000152,(.bin .eql),[.t 135,.c (.str ByteArray.empty)],(some (129,true))⟩,
 ⟨(some 137),1000153,.pick,[.t 129,.t 136,.c (.bool false)],(some (115,false))⟩,
 ⟨(some 138),1000154,.pick,[.t 115,.c (.bool true),.t 137],none⟩])
 (.cond (.t 138) (.seq (.region [⟨(some 2),1000155,.move,[.c (.bool false)],none⟩])
 (.ret)) (.skip)))))
 (.region [⟨(some 139),1000156,(.bin .add),[.t 107,.c (.int .i64 (1))],none⟩,
 oR 107 157 .move [139]])))))))
 (.seq (.region [⟨(some 2),1000158,.move,[.c (.bool true)],none⟩])
 (.ret))))))))
 [.tmp 2] 0 139
def f80.env:Env:=[(91,f91.C),(92,f92.C),(93,f93.C)]
def f80.tree (a:List (aB)):Prop:=∃ c1:Unit,True∧Br (!(a9 c1)) (∃ c4:Unit,True∧((a9 c4)=(a9 a))∧True) (f92.ent (fun c7=>(L20 c7)∧Br (!(i4 c7)) (∃ c10:Unit,True∧((a9 c10)=(a9 a))∧True) (f93.ent (fun c13=>(gA c13)∧((0:Int)≤(a.length:Int)∧(a.length:Int)≤(a.length:Int)∧iD (Int.toNat (a.length:Int) * 8))∧(∃ (I15:((List (List (Int)))×Int×Int×(List (Int)))→Prop) (μ16:((List (List (Int)))×Int×Int×(List (Int)))→Nat),(∃ x14:(List (List (Int)))×Int×Int×(List (Int)),SlS aD a (SlQ ((bK c13).length) x14.1.length (gl aL (bK c13)) (gl aL x14.1) (((Int.toNat (a.length:Int))=x14.2.2.2.length)∧(((bK c13).length:Int)=x14.2.1)∧((0:Int)=x14.2.2.1)∧SlQ (Int.toNat (a.length:Int)) x14.2.2.2.length (fun _=>[.int .i64 (0:Int)]) (gl aC x14.2.2.2) (I15 x14))))∧∀ y17:(List (List (Int)))×Int×Int×(List (Int)),I15 y17→(Br (decide (y17.2.2.1 < y17.2.1)) (Br (decide ((0:Int)≤y17.2.2.1)&&decide (y17.2.2.1 < (y17.1.length:Int))) (Br (((at_ y17.1 y17.2.2.1).length:Int)==(0:Int)) ((false=(a9 a))∧True) (Br (decide ((0:Int)≤y17.2.2.1)&&decide (y17.2.2.1 < (y17.1.length:Int))) (∃ (I26:((List (List (Int)))×Int×Int×Int×Int×Int×(List (Int)))→Prop) (μ27:((List (List (Int)))×Int×Int×Int×Int×Int×(List (Int)))→Nat),(∃ x25:(List (List (Int)))×Int×Int×Int×Int×Int×(List (Int)),SlS aD a (SlQ y17.1.length x25.1.length (gl aL y17.1) (gl aL x25.1) ((y17.2.2.2.length=x25.2.2.2.2.2.2.length)∧(y17.2.2.1=x25.2.1)∧(y17.2.1=x25.2.2.1)∧(y17.2.2.1=x25.2.2.2.1)∧(((at_ y17.1 y17.2.2.1).length:Int)=x25.2.2.2.2.1)∧((0:Int)=x25.2.2.2.2.2.1)∧SlQ y17.2.2.2.length x25.2.2.2.2.2.2.length (gl aC y17.2.2.2) (gl aC x25.2.2.2.2.2.2) (I26 x25))))∧∀ y28:(List (List (Int)))×Int×Int×Int×Int×Int×(List (Int)),I26 y28→(Br (decide (y28.2.2.2.2.2.1 < y28.2.2.2.2.1)) (Br (decide ((0:Int)≤y28.2.1)&&decide (y28.2.1 < (y28.1.length:Int))) (Br (decide ((0:Int)≤y28.2.2.2.2.2.1)&&decide (y28.2.2.2.2.2.1 < ((at_ y28.1 y28.2.1).length:Int))) (Br (decide ((at_ (at_ y28.1 y28.2.1) y28.2.2.2.2.2.1) < (0:Int))) ((false=(a9 a))∧True) (Br (decide ((a.length:Int)≤(at_ (at_ y28.1 y28.2.1) y28.2.2.2.2.2.1))) ((false=(a9 a))∧True) (Br (decide ((0:Int)≤(at_ (at_ y28.1 y28.2.1) y28.2.2.2.2.2.1))&&decide ((at_ (at_ y28.1 y28.2.1) y28.2.2.2.2.2.1) < (a.length:Int))) (Br (!(((at_ a (at_ (at_ y28.1 y28.2.1) y28.2.2.2.2.2.1)).2.2.1).toList==ByteArray.empty.toList)) ((false=(a9 a))∧True) (Br (decide ((0:Int)≤(at_ (at_ y28.1 y28.2.1) y28.2.2.2.2.2.1))&&decide ((at_ (at_ y28.1 y28.2.1) y28.2.2.2.2.2.1) < (a.length:Int))) (Br (decide ((0:Int)≤y28.2.1)&&decide (y28.2.1 < (y28.1.length:Int))) (Br (decide ((0:Int)≤(0:Int))&&decide ((0:Int) < ((at_ y28.1 y28.2.1).length:Int))) (Br (decide ((0:Int)≤(at_ (at_ y28.1 y28.2.1) (0:Int)))&&decide ((at_ (at_ y28.1 y28.2.1) (0:Int)) < (a.length:Int))) (Br (!((((at_ a (at_ (at_ y28.1 y28.2.1) y28.2.2.2.2.2.1)).1).2.2.2.2.2.2.1).toList==(((at_ a (at_ (at_ y28.1 y28.2.1) (0:Int))).1).2.2.2.2.2.2.1).toList)) ((false=(a9 a))∧True) (Br (decide ((0:Int) < y28.2.2.2.2.2.1)) (Br (decide ((0:Int)≤(at_ (at_ y28.1 y28.2.1) y28.2.2.2.2.2.1))&&decide ((at_ (at_ y28.1 y28.2.1) y28.2.2.2.2.2.1) < (a.length:Int))) (Br ((((at_ a (at_ (at_ y28.1 y28.2.1) y28.2.2.2.2.2.1)).1).2.2.2.2.2.2.1).toList==ByteArray.empty.toList) ((false=(a9 a))∧True) (Br (decide ((0:Int)≤(at_ (at_ y28.1 y28.2.1) y28.2.2.2.2.2.1))&&decide ((at_ (at_ y28.1 y28.2.1) y28.2.2.2.2.2.1) < (List.length y28.2.2.2.2.2.2:Int))) ((y28.2.2.2.2.2.2.length=y28.2.2.2.2.2.2.length)∧(Let (wI ((at_ y28.2.2.2.2.2.2 (at_ (at_ y28.1 y28.2.1) y28.2.2.2.2.2.1))+(1:Int))) (fun v57:Int=>Br (decide ((0:Int)≤(at_ (at_ y28.1 y28.2.1) y28.2.2.2.2.2.1))&&decide ((at_ (at_ y28.1 y28.2.1) y28.2.2.2.2.2.1) < (List.length y28.2.2.2.2.2.2:Int))) ((y28.2.2.2.2.2.2.length=y28.2.2.2.2.2.2.length)∧(Let (wI (y28.2.2.2.2.2.1+(1:Int))) (fun v59:Int=>∃ x60:(List (List (Int)))×Int×Int×Int×Int×Int×(List (Int)),SlS aD a (SlQ y28.1.length x60.1.length (gl aL y28.1) (gl aL x60.1) ((y28.2.2.2.2.2.2.length=x60.2.2.2.2.2.2.length)∧(y28.2.1=x60.2.1)∧(y28.2.2.1=x60.2.2.1)∧(y28.2.2.2.1=x60.2.2.2.1)∧(y28.2.2.2.2.1=x60.2.2.2.2.1)∧(v59=x60.2.2.2.2.2.1)∧SlQ y28.2.2.2.2.2.2.length x60.2.2.2.2.2.2.length (gset (gl aC y28.2.2.2.2.2.2) (Int.toNat (at_ (at_ y28.1 y28.2.1) y28.2.2.2.2.2.1)) [.int .i64 v57]) (gl aC x60.2.2.2.2.2.2) (I26 x60∧μ27 x60 < μ27 y28)))))) False))) False)) False) (Br (decide ((0:Int)≤(at_ (at_ y28.1 y28.2.1) y28.2.2.2.2.2.1))&&decide ((at_ (at_ y28.1 y28.2.1) y28.2.2.2.2.2.1) < (List.length y28.2.2.2.2.2.2:Int))) ((y28.2.2.2.2.2.2.length=y28.2.2.2.2.2.2.length)∧(Let (wI ((at_ y28.2.2.2.2.2.2 (at_ (at_ y28.1 y28.2.1) y28.2.2.2.2.2.1))+(1:Int))) (fun v74:Int=>Br (decide ((0:Int)≤(at_ (at_ y28.1 y28.2.1) y28.2.2.2.2.2.1))&&decide ((at_ (at_ y28.1 y28.2.1) y28.2.2.2.2.2.1) < (List.length y28.2.2.2.2.2.2:Int))) ((y28.2.2.2.2.2.2.length=y28.2.2.2.2.2.2.length)∧(Let (wI (y28.2.2.2.2.2.1+(1:Int))) (fun v76:Int=>∃ x77:(List (List (Int)))×Int×Int×Int×Int×Int×(List (Int)),SlS aD a (SlQ y28.1.length x77.1.length (gl aL y28.1) (gl aL x77.1) ((y28.2.2.2.2.2.2.length=x77.2.2.2.2.2.2.length)∧(y28.2.1=x77.2.1)∧(y28.2.2.1=x77.2.2.1)∧(y28.2.2.2.1=x77.2.2.2.1)∧(y28.2.2.2.2.1=x77.2.2.2.2.1)∧(v76=x77.2.2.2.2.2.1)∧SlQ y28.2.2.2.2.2.2.length x77.2.2.2.2.2.2.length (gset (gl aC y28.2.2.2.2.2.2) (Int.toNat (at_ (at_ y28.1 y28.2.1) y28.2.2.2.2.2.1)) [.int .i64 v74]) (gl aC x77.2.2.2.2.2.2) (I26 x77∧μ27 x77 < μ27 y28)))))) False))) False))) False) False) False) False)) False))) False) False) (Let (wI (y28.2.2.2.1+(1:Int))) (fun v104:Int=>∃ x105:(List (List (Int)))×Int×Int×(List (Int)),SlS aD a (SlQ y28.1.length x105.1.length (gl aL y28.1) (gl aL x105.1) ((y28.2.2.2.2.2.2.length=x105.2.2.2.length)∧(y28.2.2.1=x105.2.1)∧(v104=x105.2.2.1)∧SlQ y28.2.2.2.2.2.2.length x105.2.2.2.length (gl aC y28.2.2.2.2.2.2) (gl aC x105.2.2.2) (I15 x105∧μ16 x105 < μ16 y17))))))) False)) False) (∃ (I120:(Int×(List (Int)))→Prop) (μ121:(Int×(List (Int)))→Nat),(∃ x119:Int×(List (Int)),SlS aD a ((y17.2.2.2.length=x119.2.length)∧((a.length:Int)=(a.length:Int))∧((0:Int)=x119.1)∧SlQ y17.2.2.2.length x119.2.length (gl aC y17.2.2.2) (gl aC x119.2) (I120 x119)))∧∀ y122:Int×(List (Int)),I120 y122→(Br (decide (y122.1 < (a.length:Int))) (Br (decide ((0:Int)≤y122.1)&&decide (y122.1 < (List.length y122.2:Int))) ((y122.2.length=y122.2.length)∧(Br (decide ((1:Int) < (at_ y122.2 y122.1))) ((false=(a9 a))∧True) (Br (decide ((0:Int)≤y122.1)&&decide (y122.1 < (List.length y122.2:Int))) ((y122.2.length=y122.2.length)∧(Br ((at_ y122.2 y122.1)==(0:Int)) (Br (decide ((0:Int)≤y122.1)&&decide (y122.1 < (a.length:Int))) (Br (((at_ a y122.1).2.2.1).toList==ByteArray.empty.toList) (Br (decide ((0:Int)≤y122.1)&&decide (y122.1 < (a.length:Int))) (Br ((((at_ a y122.1).1).2.2.2.2.2.2.1).toList==ByteArray.empty.toList) ((false=(a9 a))∧True) (Let (wI (y122.1+(1:Int))) (fun v139:Int=>∃ x140:Int×(List (Int)),SlS aD a ((y122.2.length=x140.2.length)∧((a.length:Int)=(a.length:Int))∧(v139=x140.1)∧SlQ y122.2.length x140.2.length (gl aC y122.2) (gl aC x140.2) (I120 x140∧μ121 x140 < μ121 y122))))) False) (Let (wI (y122.1+(1:Int))) (fun v148:Int=>∃ x149:Int×(List (Int)),SlS aD a ((y122.2.length=x149.2.length)∧((a.length:Int)=(a.length:Int))∧(v148=x149.1)∧SlQ y122.2.length x149.2.length (gl aC y122.2) (gl aC x149.2) (I120 x149∧μ121 x149 < μ121 y122))))) False) (Let (wI (y122.1+(1:Int))) (fun v157:Int=>∃ x158:Int×(List (Int)),SlS aD a ((y122.2.length=x158.2.length)∧((a.length:Int)=(a.length:Int))∧(v157=x158.1)∧SlQ y122.2.length x158.2.length (gl aC y122.2) (gl aC x158.2) (I120 x158∧μ121 x158 < μ121 y122)))))) False))) False) ((true=(a9 a))∧True)))))) a)) a)
def f80.vc (a:List (aB)):Prop:=((¬((a9 ())=true)→((a9 ())=a9 a))∧(¬(¬((a9 ())=true))→(L20 a∧((¬((i4 a)=true)→((a9 ())=a9 a))∧(¬(¬((i4 a)=true))→(gA a∧((a.length:Int)≤1073741824∧(∃ (I15:((List (List (Int)))×Int×Int×(List (Int)))→Prop) (μ16:((List (List (Int)))×Int×Int×(List (Int)))→Nat),I15 ((bK a),((bK a).length:Int),(0:Int),(List.replicate (Int.toNat (a.length:Int)) (0:Int)))∧∀ y17:(List (List (Int)))×Int×Int×(List (Int)),I15 y17→((y17.2.2.1 < y17.2.1→((0:Int)≤y17.2.2.1∧y17.2.2.1 < (y17.1.length:Int)∧((((at_ y17.1 y17.2.2.1).length:Int)=(0:Int)→(false=a9 a))∧(¬(((at_ y17.1 y17.2.2.1).length:Int)=(0:Int))→((0:Int)≤y17.2.2.1∧y17.2.2.1 < (y17.1.length:Int)∧(∃ (I26:((List (List (Int)))×Int×Int×Int×Int×Int×(List (Int)))→Prop) (μ27:((List (List (Int)))×Int×Int×Int×Int×Int×(List (Int)))→Nat),I26 (y17.1,y17.2.2.1,y17.2.1,y17.2.2.1,((at_ y17.1 y17.2.2.1).length:Int),(0:Int),y17.2.2.2)∧∀ y28:(List (List (Int)))×Int×Int×Int×Int×Int×(List (Int)),I26 y28→((y28.2.2.2.2.2.1 < y28.2.2.2.2.1→((0:Int)≤y28.2.1∧y28.2.1 < (y28.1.length:Int)∧((0:Int)≤y28.2.2.2.2.2.1∧y28.2.2.2.2.2.1 < ((at_ y28.1 y28.2.1).length:Int)∧(((at_ (at_ y28.1 y28.2.1) y28.2.2.2.2.2.1) < (0:Int)→(false=a9 a))∧(¬((at_ (at_ y28.1 y28.2.1) y28.2.2.2.2.2.1) < (0:Int))→(((a.length:Int)≤(at_ (at_ y28.1 y28.2.1) y28.2.2.2.2.2.1)→(false=a9 a))∧(¬((a.length:Int)≤(at_ (at_ y28.1 y28.2.1) y28.2.2.2.2.2.1))→((0:Int)≤(at_ (at_ y28.1 y28.2.1) y28.2.2.2.2.2.1)∧(at_ (at_ y28.1 y28.2.1) y28.2.2.2.2.2.1) < (a.length:Int)∧((¬(((at_ a (at_ (at_ y28.1 y28.2.1) y28.2.2.2.2.2.1)).2.2.1)=ByteArray.empty)→(false=a9 a))∧(¬(¬(((at_ a (at_ (at_ y28.1 y28.2.1) y28.2.2.2.2.2.1)).2.2.1)=ByteArray.empty))→((0:Int)≤(at_ (at_ y28.1 y28.2.1) y28.2.2.2.2.2.1)∧(at_ (at_ y28.1 y28.2.1) y28.2.2.2.2.2.1) < (a.length:Int)∧((0:Int)≤y28.2.1∧y28.2.1 < (y28.1.length:Int)∧((0:Int) < ((at_ y28.1 y28.2.1).length:Int)∧((0:Int)≤(at_ (at_ y28.1 y28.2.1) (0:Int))∧(at_ (at_ y28.1 y28.2.1) (0:Int)) < (a.length:Int)∧((¬((((at_ a (at_ (at_ y28.1 y28.2.1) y28.2.2.2.2.2.1)).1).2.2.2.2.2.2.1)=(((at_ a (at_ (at_ y28.1 y28.2.1) (0:Int))).1).2.2.2.2.2.2.1))→(false=a9 a))∧(¬(¬((((at_ a (at_ (at_ y28.1 y28.2.1) y28.2.2.2.2.2.1)).1).2.2.2.2.2.2.1)=(((at_ a (at_ (at_ y28.1 y28.2.1) (0:Int))).1).2.2.2.2.2.2.1)))→(((0:Int) < y28.2.2.2.2.2.1→((0:Int)≤(at_ (at_ y28.1 y28.2.1) y28.2.2.2.2.2.1)∧(at_ (at_ y28.1 y28.2.1) y28.2.2.2.2.2.1) < (a.length:Int)∧(((((at_ a (at_ (at_ y28.1 y28.2.1) y28.2.2.2.2.2.1)).1).2.2.2.2.2.2.1)=ByteArray.empty→(false=a9 a))∧(¬((((at_ a (at_ (at_ y28.1 y28.2.1) y28.2.2.2.2.2.1)).1).2.2.2.2.2.2.1)=ByteArray.empty)→((0:Int)≤(at_ (at_ y28.1 y28.2.1) y28.2.2.2.2.2.1)∧(at_ (at_ y28.1 y28.2.1) y28.2.2.2.2.2.1) < (List.length y28.2.2.2.2.2.2:Int)∧(-9223372036854775808≤((at_ y28.2.2.2.2.2.2 (at_ (at_ y28.1 y28.2.1) y28.2.2.2.2.2.1))+(1:Int))∧((at_ y28.2.2.2.2.2.2 (at_ (at_ y28.1 y28.2.1) y28.2.2.2.2.2.1))+(1:Int))≤9223372036854775807∧((0:Int)≤(at_ (at_ y28.1 y28.2.1) y28.2.2.2.2.2.1)∧(at_ (at_ y28.1 y28.2.1) y28.2.2.2.2.2.1) < (List.length y28.2.2.2.2.2.2:Int)∧(-9223372036854775808≤(y28.2.2.2.2.2.1+(1:Int))∧(y28.2.2.2.2.2.1+(1:Int))≤9223372036854775807∧(I26 (y28.1,y28.2.1,y28.2.2.1,y28.2.2.2.1,y28.2.2.2.2.1,(y28.2.2.2.2.2.1+(1:Int)),List.set y28.2.2.2.2.2.2 (Int.toNat (at_ (at_ y28.1 y28.2.1) y28.2.2.2.2.2.1)) ((at_ y28.2.2.2.2.2.2 (at_ (at_ y28.1 y28.2.1) y28.2.2.2.2.2.1))+(1:Int)))∧μ27 (y28.1,y28.2.1,y28.2.2.1,y28.2.2.2.1,y28.2.2.2.2.1,(y28.2.2.2.2.2.1+(1:Int)),List.set y28.2.2.2.2.2.2 (Int.toNat (at_ (at_ y28.1 y28.2.1) y28.2.2.2.2.2.1)) ((at_ y28.2.2.2.2.2.2 (at_ (at_ y28.1 y28.2.1) y28.2.2.2.2.2.1))+(1:Int))) < μ27 y28)))))))))∧(¬((0:Int) < y28.2.2.2.2.2.1)→((0:Int)≤(at_ (at_ y28.1 y28.2.1) y28.2.2.2.2.2.1)∧(at_ (at_ y28.1 y28.2.1) y28.2.2.2.2.2.1) < (List.length y28.2.2.2.2.2.2:Int)∧(-9223372036854775808≤((at_ y28.2.2.2.2.2.2 (at_ (at_ y28.1 y28.2.1) y28.2.2.2.2.2.1))+(1:Int))∧((at_ y28.2.2.2.2.2.2 (at_ (at_ y28.1 y28.2.1) y28.2.2.2.2.2.1))+(1:Int))≤9223372036854775807∧((0:Int)≤(at_ (at_ y28.1 y28.2.1) y28.2.2.2.2.2.1)∧(at_ (at_ y28.1 y28.2.1) y28.2.2.2.2.2.1) < (List.length y28.2.2.2.2.2.2:Int)∧(-9223372036854775808≤(y28.2.2.2.2.2.1+(1:Int))∧(y28.2.2.2.2.2.1+(1:Int))≤9223372036854775807∧(I26 (y28.1,y28.2.1,y28.2.2.1,y28.2.2.2.1,y28.2.2.2.2.1,(y28.2.2.2.2.2.1+(1:Int)),List.set y28.2.2.2.2.2.2 (Int.toNat (at_ (at_ y28.1 y28.2.1) y28.2.2.2.2.2.1)) ((at_ y28.2.2.2.2.2.2 (at_ (at_ y28.1 y28.2.1) y28.2.2.2.2.2.1))+(1:Int)))∧μ27 (y28.1,y28.2.1,y28.2.2.1,y28.2.2.2.1,y28.2.2.2.2.1,(y28.2.2.2.2.2.1+(1:Int)),List.set y28.2.2.2.2.2.2 (Int.toNat (at_ (at_ y28.1 y28.2.1) y28.2.2.2.2.2.1)) ((at_ y28.2.2.2.2.2.2 (at_ (at_ y28.1 y28.2.1) y28.2.2.2.2.2.1))+(1:Int))) < μ27 y28)))))))))))))))))))))))∧(¬(y28.2.2.2.2.2.1 < y28.2.2.2.2.1)→(-9223372036854775808≤(y28.2.2.2.1+(1:Int))∧(y28.2.2.2.1+(1:Int))≤9223372036854775807∧(I15 (y28.1,y28.2.2.1,(y28.2.2.2.1+(1:Int)),y28.2.2.2.2.2.2)∧μ16 (y28.1,y28.2.2.1,(y28.2.2.2.1+(1:Int)),y28.2.2.2.2.2.2) < μ16 y17))))))))))∧(¬(y17.2.2.1 < y17.2.1)→(∃ (I120:(Int×(List (Int)))→Prop) (μ121:(Int×(List (Int)))→Nat),I120 ((0:Int),y17.2.2.2)∧∀ y122:Int×(List (Int)),I120 y122→((y122.1 < (a.length:Int)→((0:Int)≤y122.1∧y122.1 < (List.length y122.2:Int)∧(((1:Int) < (at_ y122.2 y122.1)→(false=a9 a))∧(¬((1:Int) < (at_ y122.2 y122.1))→((0:Int)≤y122.1∧y122.1 < (List.length y122.2:Int)∧(((at_ y122.2 y122.1)=(0:Int)→((0:Int)≤y122.1∧y122.1 < (a.length:Int)∧((((at_ a y122.1).2.2.1)=ByteArray.empty→((0:Int)≤y122.1∧y122.1 < (a.length:Int)∧(((((at_ a y122.1).1).2.2.2.2.2.2.1)=ByteArray.empty→(false=a9 a))∧(¬((((at_ a y122.1).1).2.2.2.2.2.2.1)=ByteArray.empty)→(-9223372036854775808≤(y122.1+(1:Int))∧(y122.1+(1:Int))≤9223372036854775807∧(I120 ((y122.1+(1:Int)),y122.2)∧μ121 ((y122.1+(1:Int)),y122.2) < μ121 y122))))))∧(¬(((at_ a y122.1).2.2.1)=ByteArray.empty)→(-9223372036854775808≤(y122.1+(1:Int))∧(y122.1+(1:Int))≤9223372036854775807∧(I120 ((y122.1+(1:Int)),y122.2)∧μ121 ((y122.1+(1:Int)),y122.2) < μ121 y122))))))∧(¬((at_ y122.2 y122.1)=(0:Int))→(-9223372036854775808≤(y122.1+(1:Int))∧(y122.1+(1:Int))≤9223372036854775807∧(I120 ((y122.1+(1:Int)),y122.2)∧μ121 ((y122.1+(1:Int)),y122.2) < μ121 y122)))))))))∧(¬(y122.1 < (a.length:Int))→(true=a9 a))))))))))))))
theorem f80.of (a:List (aB)) (h:f80.vc a):f80.tree a:=⟨(),⟨trivial,br h (Cnd.not Cnd.b) (fun h2 k184=>⟨(),⟨trivial,⟨k184,trivial⟩⟩⟩) (fun h3 k185=>(f92.ei ⟨k185.1,br k185.2 (Cnd.not Cnd.b) (fun h8 k181=>⟨(),⟨trivial,⟨k181,trivial⟩⟩⟩) (fun h9 k182=>(f93.ei ⟨k182.1,⟨⟨(Int.natCast_nonneg _),(Int.le_refl _),aDY k182.2.1 (by decide)⟩,Exists.elim k182.2.2 (fun I15 h177_=>Exists.elim h177_ (fun μ16 h177=>⟨I15,μ16,⟨((bK a),((bK a).length:Int),(0:Int),(List.replicate (Int.toNat (a.length:Int)) (0:Int))),SlS.mk  (slQ (rS aL) (⟨(bP (fun _=>[.int .i64 (0:Int)]) (Rds.rep (enc:=aC))),⟨rfl,⟨rfl,slQ (Rds.rep (enc:=aC)) (h177.1)⟩⟩⟩))⟩,fun y17 h179=>br (h177.2 y17 h179) Cnd.dec (fun h18 k175=>chk k175.2.2 Cnd.ix ⟨k175.1,k175.2.1⟩ (fun h20 k118=>br k118 Cnd.eq (fun h21 k116=>⟨k116,trivial⟩) (fun h22 k117=>chk k117.2.2 Cnd.ix ⟨k117.1,k117.2.1⟩ (fun h24 k115=>Exists.elim k115 (fun I26 h112_=>Exists.elim h112_ (fun μ27 h112=>⟨I26,μ27,⟨(y17.1,y17.2.2.1,y17.2.1,y17.2.2.1,((at_ y17.1 y17.2.2.1).length:Int),(0:Int),y17.2.2.2),SlS.mk  (slQ (rS aL) (⟨(bP (gl aC y17.2.2.2) (rS aC)),⟨rfl,⟨rfl,⟨rfl,⟨rfl,⟨rfl,slQ (rS aC) (h112.1)⟩⟩⟩⟩⟩⟩))⟩,fun y28 h114=>br (h112.2 y28 h114) Cnd.dec (fun h29 k110=>chk k110.2.2 Cnd.ix ⟨k110.1,k110.2.1⟩ (fun h31 k103=>chk k103.2.2 Cnd.ix ⟨k103.1,k103.2.1⟩ (fun h32 k102=>br k102 Cnd.dec (fun h33 k100=>⟨k100,trivial⟩) (fun h34 k101=>br k101 Cnd.dec (fun h36 k98=>⟨k98,trivial⟩) (fun h37 k99=>chk k99.2.2 Cnd.ix ⟨k99.1,k99.2.1⟩ (fun h39 k97=>br k97 (Cnd.not Cnd.seq) (fun h40 k95=>⟨k95,trivial⟩) (fun h41 k96=>chk k96.2.2 Cnd.ix ⟨k96.1,k96.2.1⟩ (fun h43 k94=>chk k94.2.2 Cnd.ix ⟨k94.1,k94.2.1⟩ (fun h44 k93=>chk k93.2 Cnd.ix ⟨(by decide),k93.1⟩ (fun h45 k92=>chk k92.2.2 Cnd.ix ⟨k92.1,k92.2.1⟩ (fun h46 k91=>br k91 (Cnd.not Cnd.seq) (fun h47 k89=>⟨k89,trivial⟩) (fun h48 k90=>br k90 Cnd.dec (fun h50 k87=>chk k87.2.2 Cnd.ix ⟨k87.1,k87.2.1⟩ (fun h52 k72=>br k72 Cnd.seq (fun h53 k70=>⟨k70,trivial⟩) (fun h54 k71=>chk k71.2.2 Cnd.ix ⟨k71.1,k71.2.1⟩ (fun h56 k69=>⟨rfl,wrapK.i64 k69 (fun h66 h67 k68=>chk k68.2.2 Cnd.ix ⟨k68.1,k68.2.1⟩ (fun h58 k65=>⟨rfl,wrapK.i64 k65 (fun h62 h63 k64=>⟨(y28.1,y28.2.1,y28.2.2.1,y28.2.2.2.1,y28.2.2.2.2.1,(y28.2.2.2.2.2.1+(1:Int)),List.set y28.2.2.2.2.2.2 (Int.toNat (at_ (at_ y28.1 y28.2.1) y28.2.2.2.2.2.1)) ((at_ y28.2.2.2.2.2.2 (at_ (at_ y28.1 y28.2.1) y28.2.2.2.2.2.1))+(1:Int))),SlS.mk  (slQ (rS aL) (⟨(bP (gset (gl aC y28.2.2.2.2.2.2) (Int.toNat (at_ (at_ y28.1 y28.2.1) y28.2.2.2.2.2.1)) [.int .i64 ((at_ y28.2.2.2.2.2.2 (at_ (at_ y28.1 y28.2.1) y28.2.2.2.2.2.1))+(1:Int))]) (Rds.gset (enc:=aC) (rS aC) (DEqs.refl _))),⟨rfl,⟨rfl,⟨rfl,⟨rfl,⟨rfl,slQ (Rds.gset (enc:=aC) (rS aC) (DEqs.refl _)) (k64)⟩⟩⟩⟩⟩⟩))⟩)⟩))⟩)))) (fun h51 k88=>chk k88.2.2 Cnd.ix ⟨k88.1,k88.2.1⟩ (fun h73 k86=>⟨rfl,wrapK.i64 k86 (fun h83 h84 k85=>chk k85.2.2 Cnd.ix ⟨k85.1,k85.2.1⟩ (fun h75 k82=>⟨rfl,wrapK.i64 k82 (fun h79 h80 k81=>⟨(y28.1,y28.2.1,y28.2.2.1,y28.2.2.2.1,y28.2.2.2.2.1,(y28.2.2.2.2.2.1+(1:Int)),List.set y28.2.2.2.2.2.2 (Int.toNat (at_ (at_ y28.1 y28.2.1) y28.2.2.2.2.2.1)) ((at_ y28.2.2.2.2.2.2 (at_ (at_ y28.1 y28.2.1) y28.2.2.2.2.2.1))+(1:Int))),SlS.mk  (slQ (rS aL) (⟨(bP (gset (gl aC y28.2.2.2.2.2.2) (Int.toNat (at_ (at_ y28.1 y28.2.1) y28.2.2.2.2.2.1)) [.int .i64 ((at_ y28.2.2.2.2.2.2 (at_ (at_ y28.1 y28.2.1) y28.2.2.2.2.2.1))+(1:Int))]) (Rds.gset (enc:=aC) (rS aC) (DEqs.refl _))),⟨rfl,⟨rfl,⟨rfl,⟨rfl,⟨rfl,slQ (Rds.gset (enc:=aC) (rS aC) (DEqs.refl _)) (k81)⟩⟩⟩⟩⟩⟩))⟩)⟩))⟩)))))))))))))) (fun h30 k111=>wrapK.i64 k111 (fun h107 h108 k109=>⟨(y28.1,y28.2.2.1,(y28.2.2.2.1+(1:Int)),y28.2.2.2.2.2.2),SlS.mk  (slQ (rS aL) (⟨(bP (gl aC y28.2.2.2.2.2.2) (rS aC)),⟨rfl,⟨rfl,slQ (rS aC) (k109)⟩⟩⟩))⟩))⟩)))))) (fun h19 k176=>Exists.elim k176 (fun I120 h172_=>Exists.elim h172_ (fun μ121 h172=>⟨I120,μ121,⟨((0:Int),y17.2.2.2),SlS.mk  (⟨(bP (gl aC y17.2.2.2) (rS aC)),⟨rfl,⟨rfl,slQ (rS aC) (h172.1)⟩⟩⟩)⟩,fun y122 h174=>br (h172.2 y122 h174) Cnd.dec (fun h123 k170=>chk k170.2.2 Cnd.ix ⟨k170.1,k170.2.1⟩ (fun h125 k168=>⟨rfl,br k168 Cnd.dec (fun h126 k166=>⟨k166,trivial⟩) (fun h127 k167=>chk k167.2.2 Cnd.ix ⟨k167.1,k167.2.1⟩ (fun h129 k165=>⟨rfl,br k165 Cnd.eq (fun h130 k163=>chk k163.2.2 Cnd.ix ⟨k163.1,k163.2.1⟩ (fun h132 k156=>br k156 Cnd.seq (fun h133 k154=>chk k154.2.2 Cnd.ix ⟨k154.1,k154.2.1⟩ (fun h135 k147=>br k147 Cnd.seq (fun h136 k145=>⟨k145,trivial⟩) (fun h137 k146=>wrapK.i64 k146 (fun h142 h143 k144=>⟨((y122.1+(1:Int)),y122.2),SlS.mk  (⟨(bP (gl aC y122.2) (rS aC)),⟨rfl,⟨rfl,slQ (rS aC) (k144)⟩⟩⟩)⟩)))) (fun h134 k155=>wrapK.i64 k155 (fun h151 h152 k153=>⟨((y122.1+(1:Int)),y122.2),SlS.mk  (⟨(bP (gl aC y122.2) (rS aC)),⟨rfl,⟨rfl,slQ (rS aC) (k153)⟩⟩⟩)⟩)))) (fun h131 k164=>wrapK.i64 k164 (fun h160 h161 k162=>⟨((y122.1+(1:Int)),y122.2),SlS.mk  (⟨(bP (gl aC y122.2) (rS aC)),⟨rfl,⟨rfl,slQ (rS aC) (k162)⟩⟩⟩)⟩))⟩))⟩)) (fun h124 k171=>⟨k171,trivial⟩)⟩)))⟩))⟩⟩))⟩))⟩⟩
theorem f80.eq (a:List (aB)):(f80.af a).gives f80.env (f80.args a) (f80.blks a) (f80.res a) (f80.blks' a)=f80.tree a:=by kernel_rfl
theorem y9 {js:List aU} {S:List Int} {n:Nat} {u:List Int} (h:u∈jR js S n):(aN (at_ js (S.getD n default))=ByteArray.empty∧u=[S.getD n default])∨(aN (at_ js (S.getD n default))≠ByteArray.empty∧(∀ q,q < n→aN (at_ js (S.getD q default))≠aN (at_ js (S.getD n default)))∧u=S.filter fun p=>decide (aN (at_ js p)=aN (at_ js (S.getD n default)))):=by
 by_cases c:aN (at_ js (S.getD n default))=ByteArray.empty
 ·rw [nE c] at h
  exact .inl ⟨c,List.mem_singleton.1 h⟩
 ·rw [iQ c] at h
  split at h
  next d=>exact .inr ⟨c,d.1,List.mem_singleton.1 h⟩
  next=>cases h
theorem qK {js:List aU} {S:List Int} {n:Nat} {u:List Int} {x:Int} (h:u∈jR js S n) (hx:x∈u):aN (at_ js x)=aN (at_ js (S.getD n default))∧(aN (at_ js x)=ByteArray.empty→x=S.getD n default∧u.length=1):=by
 rcases y9 h with ⟨c,rfl⟩ | ⟨c,_,rfl⟩
 ·rw [List.mem_singleton.1 hx]
  exact ⟨rfl,fun _=>⟨rfl,rfl⟩⟩
 ·have e:aN (at_ js x)=aN (at_ js (S.getD n default)):=of_decide_eq_true (List.mem_filter.1 hx).2
  exact ⟨e,fun d=>absurd (e.symm.trans d) c⟩
theorem qM {js:List aU} {S:List Int} (hd:S.Nodup):∀ {n:Nat},n≤S.length→(d6 js S n).flatten.Nodup
 | 0,_=>List.nodup_nil
 | n+1,hn=>by
  rw [kF,List.flatten_append]
  refine List.nodup_append.2 ⟨qM hd (by omega),?_,fun x hx y hy e=>?_⟩
  ·have hl:=u4 js S n
   match hc:jR js S n,hl with
   | [],_=>exact List.nodup_nil
   | [u],_ =>
    have:=(qH hd (js:=js) (n:=n) (u:=u) (by omega) (by rw [hc]; exact List.mem_cons_self ..)).2.2
    rw [List.flatten_cons,List.flatten_nil,List.append_nil]
    exact this.nodup hd
  ·subst e
   obtain ⟨u,hu,hxu⟩:=List.mem_flatten.1 hx
   obtain ⟨v,hv,hyv⟩:=List.mem_flatten.1 hy
   obtain ⟨k,hk,huk⟩:=l0 (by omega) hu
   obtain ⟨e1,e2⟩:=qK huk hxu
   obtain ⟨e3,e4⟩:=qK hv hyv
   rcases y9 hv with ⟨c,_⟩ | ⟨c,c2,_⟩
   ·rw [c] at e3
    have h1:=(e2 e3).1
    have h2:=(e4 e3).1
    rw [h1,cW (by omega),cW (by omega)] at h2
    exact List.pairwise_iff_getElem.1 hd k n (by omega) (by omega) hk h2
   ·exact c2 k hk (e1.symm.trans e3)
theorem aCQ {js:List aU} {S:List Int} {x:Int} (hx:x∈S) (hg:aN (at_ js x)=ByteArray.empty):x∈(d6 js S S.length).flatten:=by
 obtain ⟨k,hk,rfl⟩:=List.mem_iff_getElem.1 hx
 rw [← cW hk] at hg ⊢
 refine List.mem_flatten.2 ⟨[S.getD k default],?_,List.mem_singleton.2 rfl⟩
 unfold d6
 refine List.mem_flatMap.2 ⟨k,List.mem_range.2 hk,?_⟩
 rw [nE hg]
 exact List.mem_singleton.2 rfl
theorem f80.ok (a:List aU) (h:f80.lpre a):f80.vc a:=by
 obtain ⟨_,hs⟩:=h
 have hs:fK.size a≤1048576:=hs
 have h1:L20 a:=wZ hs
 have h20:a.length≤1048576:=h1
 have hnd:=j9 a
 have heach:∀ u∈bK a,0 < u.length∧u.Sublist (cU a):=fun u hu=>tU hnd hu
 have hel:∀ u∈bK a,∀ x∈u,aN (at_ a x)=aN (at_ a (u.getD 0 default))∧(aN (at_ a x)=ByteArray.empty→u.length=1):=fun u hu x hx=>by
  obtain ⟨k,hk,huk⟩:=l0 (Nat.le_refl _) hu
  have e1:=qK huk hx
  have e2:=(qH hnd hk huk).1
  rw [e2]
  exact ⟨e1.1,fun d=>(e1.2 d).2⟩
 have hfl:(bK a).flatten.Nodup:=qM hnd (Nat.le_refl _)
 have hown:∀ x∈cU a,aN (at_ a x)=ByteArray.empty→x∈(bK a).flatten:=fun x hx hg=>aCQ hx hg
 have hmem:∀ x,x∈cU a↔(0≤x∧x < (a.length:Int))∧dC (at_ a x)=true:=fun x=>t5
 have hlen:=mA a
 have hul:(bK a).length≤1048576:=(aDD h1).1
 refine ⟨fun _=>rfl,fun _=>⟨h1,fun _=>rfl,fun _=>⟨h1,by omega,?_⟩⟩⟩
 generalize cU a=S at heach hown hmem hlen
 generalize bK a=U at heach hel hfl hown hul
 have hu:∀ {i:Int},0≤i→i < (U.length:Int)→0 < (at_ U i).length∧(at_ U i).length≤1048576∧∀ x∈at_ U i,((0≤x∧x < (a.length:Int))∧(at_ a x).2.2.1=ByteArray.empty)∧aN (at_ a x)=aN (at_ a (at_ (at_ U i) 0))∧(aN (at_ a x)=ByteArray.empty→(at_ U i).length=1):=fun {i} h0 h2=>by
  obtain ⟨e1,e2⟩:=heach _ (jL h0 h2)
  refine ⟨e1,by have:=e2.length_le; omega,fun x hx=>⟨?_,hel _ (jL h0 h2) x hx⟩⟩
  have:=(hmem x).1 (e2.subset hx)
  exact ⟨this.1,(vK _).1 this.2⟩
 have hcount:∀ (i k:Nat) (p:Int),i < U.length→(U.take i).flatten.count p+((U.getD i default).take k).count p≤1:=fun i k p hi=>by
  have hsub:((U.take i).flatten++(U.getD i default).take k).Sublist U.flatten:=by
   have e:U.flatten=(U.take i).flatten++(U.getD i default++(U.drop (i+1)).flatten):=by
    conv=>lhs; rw [← List.take_append_drop i U,List.drop_eq_getElem_cons hi]
    rw [List.flatten_append,List.flatten_cons,cW hi]
   rw [e]
   exact (List.Sublist.refl _).append ((List.take_sublist _ _).trans (List.sublist_append_left ..))
  rw [← List.count_append]
  exact List.nodup_iff_count.1 (hsub.nodup hfl) p
 refine ⟨fun y=>y.1=U∧y.2.1=(U.length:Int)∧0≤y.2.2.1∧y.2.2.1≤(U.length:Int)∧y.2.2.2.length=a.length∧∀ p:Int,0≤p→p < (a.length:Int)→at_ y.2.2.2 p=((U.take y.2.2.1.toNat).flatten.count p:Int),fun y=>U.length - y.2.2.1.toNat,
  ⟨rfl,rfl,by simp only; omega,by simp only; omega,by simp,fun p p0 p1=>?_⟩,fun y hy=>?_⟩
 ·show (List.replicate (Int.toNat (a.length:Int)) (0:Int)).getD p.toNat default=0
  rw [cW (by rw [List.length_replicate]; omega),List.getElem_replicate]
 obtain ⟨U1,n,i,c⟩:=y
 obtain ⟨e1,e2,e3,e4,e5,e6⟩:=hy
 simp only at e1 e2 e3 e4 e5 e6 ⊢
 subst e1; subst e2
 refine ⟨fun hlt=>?_,fun hge=>?_⟩
 ·obtain ⟨u1,u2,u3⟩:=hu e3 hlt
  refine ⟨e3,hlt,fun d=>absurd d (by omega),fun _=>⟨e3,hlt,?_⟩⟩
  refine ⟨fun y=>y.1=U1∧y.2.1=i∧y.2.2.1=(U1.length:Int)∧y.2.2.2.1=i∧y.2.2.2.2.1=((at_ U1 i).length:Int)∧0≤y.2.2.2.2.2.1∧y.2.2.2.2.2.1≤((at_ U1 i).length:Int)∧y.2.2.2.2.2.2.length=a.length ∧
    ∀ p:Int,0≤p→p < (a.length:Int)→at_ y.2.2.2.2.2.2 p=((U1.take i.toNat).flatten.count p+((at_ U1 i).take y.2.2.2.2.2.1.toNat).count p:Int),
   fun y=>(at_ U1 i).length - y.2.2.2.2.2.1.toNat,⟨rfl,rfl,rfl,rfl,rfl,by simp only; omega,by simp only; omega,e5,fun p p0 p1=>?_⟩,fun y hy=>?_⟩
  ·simp only
   rw [e6 p p0 p1]
   simp
  obtain ⟨U2,i2,n2,i3,m2,k,c2⟩:=y
  obtain ⟨f1,f2,f3,f4,f5,f6,f7,f8,f9⟩:=hy
  simp only at f1 f2 f3 f4 f5 f6 f7 f8 f9 ⊢
  subst f1; subst f2; subst f3; subst f4; subst f5
  refine ⟨fun hk=>?_,fun hk=>⟨by omega,by omega,⟨rfl,rfl,by omega,by omega,f8,fun p p0 p1=>?_⟩,by omega⟩⟩
  ·obtain ⟨⟨⟨x0,x1⟩,x2⟩,x3,x4⟩:=u3 _ (jL f6 hk)
   obtain ⟨⟨⟨z0,z1⟩,_⟩,_⟩:=u3 _ (jL (l:=at_ U2 i3) (i:=0) (by omega) (by omega))
   have hx:(at_ U2 i3).take (k+1).toNat=(at_ U2 i3).take k.toNat++[at_ (at_ U2 i3) k]:=by
    rw [show (k+1).toNat=k.toNat+1 from by omega,j8 (by omega)]
    rfl
   generalize hX:at_ (at_ U2 i3) k=x at x0 x1 x2 x3 x4 hx ⊢
   have hc:=f9 x x0 x1
   have hb:=hcount i3.toNat k.toNat x (by omega)
   have hb:(U2.take i3.toNat).flatten.count x+((at_ U2 i3).take k.toNat).count x≤1:=hb
   have hlast:(-9223372036854775808:Int)≤at_ c2 x+1∧at_ c2 x+1≤9223372036854775807:=by omega
   have hnew:∀ p:Int,0≤p→p < (a.length:Int)→at_ (List.set c2 (Int.toNat x) (at_ c2 x+1)) p=((U2.take i3.toNat).flatten.count p+((at_ U2 i3).take (k+1).toNat).count p:Int):=fun p p0 p1=>by
    have hp:=f9 p p0 p1
    rw [hx,List.count_append,List.count_singleton]
    show (List.set c2 x.toNat (at_ c2 x+1)).getD p.toNat default=_
    rw [cW (by rw [List.length_set]; omega),List.getElem_set]
    by_cases hpx:x=p
    ·subst hpx
     rw [if_pos rfl,if_pos (beq_self_eq_true _),hc]
     omega
    ·rw [if_neg (by omega),if_neg (by simpa using hpx),← cW (by omega)]
     show at_ c2 p=_
     rw [hp]
     simp
   have tail:(0:Int)≤x∧x < (List.length c2:Int)∧-9223372036854775808≤(at_ c2 x+(1:Int))∧(at_ c2 x+(1:Int))≤9223372036854775807∧(0:Int)≤x∧x < (List.length c2:Int)∧-9223372036854775808≤(k+(1:Int))∧(k+(1:Int))≤9223372036854775807 ∧
     (U2=U2∧i3=i3∧(U2.length:Int)=(U2.length:Int)∧i3=i3∧((at_ U2 i3).length:Int)=((at_ U2 i3).length:Int)∧0≤k+1∧k+1≤((at_ U2 i3).length:Int)∧(List.set c2 (Int.toNat x) (at_ c2 x+1)).length=a.length∧∀ p:Int,0≤p→p < (a.length:Int)→at_ (List.set c2 (Int.toNat x) (at_ c2 x+1)) p=((U2.take i3.toNat).flatten.count p+((at_ U2 i3).take (k+1).toNat).count p:Int))∧(at_ U2 i3).length - (k+1).toNat < (at_ U2 i3).length - k.toNat :=
    ⟨x0,by omega,hlast.1,hlast.2,x0,by omega,by omega,by omega,⟨rfl,rfl,rfl,rfl,rfl,by omega,by omega,by rw [List.length_set]; exact f8,hnew⟩,by omega⟩
   refine ⟨e3,hlt,f6,hk,fun d=>absurd d (by omega),fun _=>⟨fun d=>absurd d (by omega),fun _=>⟨x0,x1,fun d=>absurd x2 d,fun _=>⟨x0,x1,e3,hlt,by omega,z0,z1,fun d=>absurd x3 d,fun _=>⟨fun k0=>⟨x0,x1,fun d=>?_,fun _=>tail⟩,fun _=>tail⟩⟩⟩⟩⟩
   have:=x4 d
   omega
  ·have hT:(at_ U2 i3).take k.toNat=at_ U2 i3:=List.take_of_length_le (by omega)
   rw [f9 p p0 p1,hT,show (i3+1).toNat=i3.toNat+1 from by omega,j8 (by omega),List.flatten_append,List.count_append,List.flatten_cons,List.flatten_nil,List.append_nil]
   simp only [Int.natCast_add]
   rfl
 ·have hU:U1.take i.toNat=U1:=List.take_of_length_le (by omega)
  rw [hU] at e6
  refine ⟨fun y=>0≤y.1∧y.1≤(a.length:Int)∧y.2=c,fun y=>a.length - y.1.toNat,⟨by simp only; omega,by simp only; omega,rfl⟩,fun y hy=>?_⟩
  obtain ⟨p,c2⟩:=y
  obtain ⟨g0,g1,g2⟩:=hy
  simp only at g0 g1 g2 ⊢
  subst g2
  refine ⟨fun hp=>?_,fun _=>rfl⟩
  have hc:=e6 p g0 hp
  have hb:=List.nodup_iff_count.1 hfl p
  refine ⟨g0,by omega,fun d=>absurd d (by omega),fun _=>⟨g0,by omega,fun d=>⟨g0,hp,fun w=>⟨g0,hp,fun g=>absurd ?_ (show ¬U1.flatten.count p=0 from ?_),fun _=>⟨by omega,by omega,⟨by omega,by omega,rfl⟩,by omega⟩⟩,fun _=>⟨by omega,by omega,⟨by omega,by omega,rfl⟩,by omega⟩⟩,fun _=>⟨by omega,by omega,⟨by omega,by omega,rfl⟩,by omega⟩⟩⟩
  ·omega
  ·have:=hown p ((hmem p).2 ⟨⟨g0,hp⟩,(vK _).2 w⟩) g
   have:=List.count_pos_iff.2 this
   omega
end Go.Abs
