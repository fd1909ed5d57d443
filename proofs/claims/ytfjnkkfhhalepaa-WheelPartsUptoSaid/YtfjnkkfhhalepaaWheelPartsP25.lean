/- Functions, and what the code asks of them: PWheelLaw3. -/
import Derived.KernelRfl
import Derived.Test.YtfjnkkfhhalepaaWheelPartsP4
import Derived.Test.YtfjnkkfhhalepaaWheelPartsP5
import Derived.Test.YtfjnkkfhhalepaaWheelPartsP6
import Derived.Test.YtfjnkkfhhalepaaWheelPartsP7
import Derived.Test.YtfjnkkfhhalepaaWheelPartsP8
import Derived.Test.YtfjnkkfhhalepaaWheelPartsP9
import Derived.Test.YtfjnkkfhhalepaaWheelPartsP10
import Derived.Test.YtfjnkkfhhalepaaWheelPartsP11
import Derived.Test.YtfjnkkfhhalepaaWheelPartsP12
import Derived.Test.YtfjnkkfhhalepaaWheelPartsP15
import Derived.Test.YtfjnkkfhhalepaaWheelPartsP16
import Derived.Test.YtfjnkkfhhalepaaWheelPartsP17
import Derived.Test.YtfjnkkfhhalepaaWheelPartsP18
import Derived.Test.YtfjnkkfhhalepaaWheelPartsP20
import Derived.Test.YtfjnkkfhhalepaaWheelPartsP21
import Derived.Test.YtfjnkkfhhalepaaWheelPartsP22
import Derived.Test.YtfjnkkfhhalepaaWheelPartsP23
import Derived.Test.YtfjnkkfhhalepaaWheelPartsP24
set_option maxRecDepth 100000
set_option maxHeartbeats 4000000
set_option linter.unusedVariables false
set_option linter.unusedSimpArgs false
set_option linter.unusedSectionVars false
-- interregnum/interregnumlaw19.WheelParts
namespace Go.Abs
open Go
def f270.wf (a:(List (aC))×Int×Int):Prop:=cK.ok a.1∧jT.ok a.2.1∧jT.ok a.2.2
def f270.size (a:(List (aC))×Int×Int):Nat:=cK.size a.1+(jT.size a.2.1+(jT.size a.2.2))
def f270.lpre (a:(List (aC))×Int×Int):Prop:=f270.wf a∧f270.size a≤1048576
def f270.args (a:(List (aC))×Int×Int):List D:=[.slice .ro 3 a.1.length (gl a9 a.1),.int .i64 a.2.1,.int .i64 a.2.2]
def f270.blks (a:(List (aC))×Int×Int):List (List D):=[]
def f270.res (a:(List (aC))×Int×Int):List D:=[.bool (bU a)]
def f270.blks' (a:(List (aC))×Int×Int):List (List D):=[]
def f270.C:aO:=FnC f270.args f270.blks (fun a=>f270.lpre a) f270.res f270.blks'
set_option linter.unusedVariables false
def f270.S0 (a:(List (aC))×Int×Int) (x:Int×(Nat×Ob Int)×(Nat×Ob Int)):Tm:=⟨.slice .ro 3 a.1.length (gl a9 a.1)::.int .i64 a.2.1::.int .i64 a.2.2::.dead::.dead::.dead::.dead::.ptr 19 0::.ptr 23 0::dd 27 (.int .i64 (a.1.length:Int)::.int .i64 x.1::dd 122 []),[(19,false,[.dead,.obj 17 x.2.1.1 1 x.2.1.2.nl x.2.1.2.n x.2.1.2.ks (ovs aJ x.2.1.2)]),(23,false,[.dead,.obj 17 x.2.2.1 1 x.2.2.2.nl x.2.2.2.n x.2.2.2.ks (ovs aJ x.2.2.2)])],[]⟩
def f270.S1 (a:(List (aC))×Int×Int) (x:(List (ByteArray))×(List (ByteArray))×(List (ByteArray))×Int×Int):Tm:=⟨dd 12 (.slice .ro 1 x.1.length (gl aA x.1)::.slice .ro 1 x.2.1.length (gl aA x.2.1)::.slice .ro 1 x.2.2.1.length (gl aA x.2.2.1)::dd 88 (.int .i64 x.2.2.2.1::.int .i64 x.2.2.2.2::dd 55 [])),[],[]⟩
def f270.S2 (a:(List (aC))×Int×Int) (x:(List (ByteArray))×(List (ByteArray))×(List (ByteArray))×Int×Int×Int×Int×Int×Int):Tm:=⟨dd 12 (.slice .ro 1 x.1.length (gl aA x.1)::.slice .ro 1 x.2.1.length (gl aA x.2.1)::.slice .ro 1 x.2.2.1.length (gl aA x.2.2.1)::.int .i64 x.2.2.2.1::.int .i64 x.2.2.2.2.1::dd 86 (.int .i64 x.2.2.2.2.2.1::.int .i64 x.2.2.2.2.2.2.1::.dead::.dead::.dead::.int .i64 x.2.2.2.2.2.2.2.1::.int .i64 x.2.2.2.2.2.2.2.2::dd 50 [])),[],[]⟩
def f270.S3 (a:(List (aC))×Int×Int) (x:(List (ByteArray))×(List (ByteArray))×(List (ByteArray))×Int×Int×Int×Int×Int×Int):Tm:=⟨dd 12 (.slice .ro 1 x.1.length (gl aA x.1)::.slice .ro 1 x.2.1.length (gl aA x.2.1)::.slice .ro 1 x.2.2.1.length (gl aA x.2.2.1)::.int .i64 x.2.2.2.1::.int .i64 x.2.2.2.2.1::dd 86 (.int .i64 x.2.2.2.2.2.1::.int .i64 x.2.2.2.2.2.2.1::dd 20 (.int .i64 x.2.2.2.2.2.2.2.1::.int .i64 x.2.2.2.2.2.2.2.2::dd 33 []))),[],[]⟩
def f270.l1 (a:(List (aC))×Int×Int) (K:((List (ByteArray))×(List (ByteArray))×(List (ByteArray))×Int×Int)→Prop) (t:(List (ByteArray))×(List (ByteArray))×(List (ByteArray))×Int×Int):Prop:=∃ x:(List (ByteArray))×(List (ByteArray))×(List (ByteArray))×Int×Int,SlQ t.1.length x.1.length (gl aA t.1) (gl aA x.1) (SlQ t.2.1.length x.2.1.length (gl aA t.2.1) (gl aA x.2.1) (SlQ t.2.2.1.length x.2.2.1.length (gl aA t.2.2.1) (gl aA x.2.2.1) ((t.2.2.2.1=x.2.2.2.1)∧(t.2.2.2.2=x.2.2.2.2)∧K x)))
theorem f270.l1i (a:(List (aC))×Int×Int) {K:((List (ByteArray))×(List (ByteArray))×(List (ByteArray))×Int×Int)→Prop} {t:(List (ByteArray))×(List (ByteArray))×(List (ByteArray))×Int×Int} (h:K t):f270.l1 a K t:=⟨t,slQ (rS aA) (slQ (rS aA) (slQ (rS aA) (⟨rfl,⟨rfl,h⟩⟩)))⟩
def f270.l2 (a:(List (aC))×Int×Int) (K:((List (ByteArray))×(List (ByteArray))×(List (ByteArray))×Int×Int×Int×Int×Int×Int)→Prop) (t:(List (ByteArray))×(List (ByteArray))×(List (ByteArray))×Int×Int×Int×Int×Int×Int):Prop:=∃ x:(List (ByteArray))×(List (ByteArray))×(List (ByteArray))×Int×Int×Int×Int×Int×Int,SlQ t.1.length x.1.length (gl aA t.1) (gl aA x.1) (SlQ t.2.1.length x.2.1.length (gl aA t.2.1) (gl aA x.2.1) (SlQ t.2.2.1.length x.2.2.1.length (gl aA t.2.2.1) (gl aA x.2.2.1) ((t.2.2.2.1=x.2.2.2.1)∧(t.2.2.2.2.1=x.2.2.2.2.1)∧(t.2.2.2.2.2.1=x.2.2.2.2.2.1)∧(t.2.2.2.2.2.2.1=x.2.2.2.2.2.2.1)∧(t.2.2.2.2.2.2.2.1=x.2.2.2.2.2.2.2.1)∧(t.2.2.2.2.2.2.2.2=x.2.2.2.2.2.2.2.2)∧K x)))
theorem f270.l2i (a:(List (aC))×Int×Int) {K:((List (ByteArray))×(List (ByteArray))×(List (ByteArray))×Int×Int×Int×Int×Int×Int)→Prop} {t:(List (ByteArray))×(List (ByteArray))×(List (ByteArray))×Int×Int×Int×Int×Int×Int} (h:K t):f270.l2 a K t:=⟨t,slQ (rS aA) (slQ (rS aA) (slQ (rS aA) (⟨rfl,⟨rfl,⟨rfl,⟨rfl,⟨rfl,⟨rfl,h⟩⟩⟩⟩⟩⟩)))⟩
def f270.l3 (a:(List (aC))×Int×Int) (K:((List (ByteArray))×(List (ByteArray))×(List (ByteArray))×Int×Int×Int×Int×Int×Int)→Prop) (t:(List (ByteArray))×(List (ByteArray))×(List (ByteArray))×Int×Int×Int×Int×Int×Int):Prop:=∃ x:(List (ByteArray))×(List (ByteArray))×(List (ByteArray))×Int×Int×Int×Int×Int×Int,SlQ t.1.length x.1.length (gl aA t.1) (gl aA x.1) (SlQ t.2.1.length x.2.1.length (gl aA t.2.1) (gl aA x.2.1) (SlQ t.2.2.1.length x.2.2.1.length (gl aA t.2.2.1) (gl aA x.2.2.1) ((t.2.2.2.1=x.2.2.2.1)∧(t.2.2.2.2.1=x.2.2.2.2.1)∧(t.2.2.2.2.2.1=x.2.2.2.2.2.1)∧(t.2.2.2.2.2.2.1=x.2.2.2.2.2.2.1)∧(t.2.2.2.2.2.2.2.1=x.2.2.2.2.2.2.2.1)∧(t.2.2.2.2.2.2.2.2=x.2.2.2.2.2.2.2.2)∧K x)))
theorem f270.l3i (a:(List (aC))×Int×Int) {K:((List (ByteArray))×(List (ByteArray))×(List (ByteArray))×Int×Int×Int×Int×Int×Int)→Prop} {t:(List (ByteArray))×(List (ByteArray))×(List (ByteArray))×Int×Int×Int×Int×Int×Int} (h:K t):f270.l3 a K t:=⟨t,slQ (rS aA) (slQ (rS aA) (slQ (rS aA) (⟨rfl,⟨rfl,⟨rfl,⟨rfl,⟨rfl,⟨rfl,h⟩⟩⟩⟩⟩⟩)))⟩
def f270.kills (a:(List (aC))×Int×Int):List Hint:=[.tell (Int×(Nat×Ob Int)×(Nat×Ob Int)) (f270.S0 a),
 .tell ((List (ByteArray))×(List (ByteArray))×(List (ByteArray))×Int×Int) (f270.S1 a),
 .tell ((List (ByteArray))×(List (ByteArray))×(List (ByteArray))×Int×Int×Int×Int×Int×Int) (f270.S2 a),
 .tell ((List (ByteArray))×(List (ByteArray))×(List (ByteArray))×Int×Int×Int×Int×Int×Int) (f270.S3 a)]
def f270.cuts (a:(List (aC))×Int×Int):List (Nat×Σ β:Type,β→Tm):=[(3001007000004,⟨Unit,fun x=>⟨[],[],[]⟩⟩),
 (3001008000005,⟨Unit,fun x=>⟨[],[],[]⟩⟩)]
def f270.af (a:(List (aC))×Int×Int):AF:=AF.mk (.seq (.region [⟨(some 6),0,.move,[.c (.bool false)],none⟩])
 (.seq (.seq (.region [oT 19 1 (.call false 293) [],
 oT 20 5 (.un .not) [19],
 mT 21 6 20,
 oG 22 7 .move [0] 21 false,
 oG 23 8 (.call false 294) [22] 21 false,
 oG 24 12 (.un .not) [23] 21 false,
 ⟨(some 25),13,.pick,[.t 21,.c (.bool true),.t 24],none⟩])
 (.cond (.t 25) (.seq (.region [oT 26 14 (.call false 293) [],
 mT 6 18 26])
 (.ret)) (.skip)))
 (.seq (.region [oT 27 19 (.call false 295) [],
 oT 28 23 (.call false 295) [],
 mT 7 27 27,
 mT 8 28 28])
 (.seq (.toObj 0 1 7) (.seq (.seq (.region [mT 29 29 7,
 oT 30 30 (.isNil true false) [29],
 mT 31 31 30,
 oG 32 32 .move [8] 31 false,
 oG 33 33 (.isNil true false) [32] 31 false,
 ⟨(some 34),34,.pick,[.t 31,.c (.bool true),.t 33],none⟩])
 (.cond (.t 34) (.seq (.region [⟨(some 6),35,.move,[.c (.bool false)],none⟩])
 (.ret)) (.skip)))
 (.seq (.toObj 0 1 8) (.seq (.seq (.region [mT 35 36 0,
 oT 36 37 (.len false) [35],
 ⟨(some 37),38,.move,[.c (.int .i64 (0))],none⟩])
 (.block 0 (.loopT (Int×(Nat×Ob Int)×(Nat×Ob Int)) (f270.S0 a) 39 74 (.seq (.region [oT 38 39 (.bin .lss) [37,36]])
 (.seq (.cond (.t 38) (.skip) (.exit 0))
 (.seq (.block 1 (.seq (.region [mT 39 40 37,
 mT 9 41 39])
 (.seq (.region [mT 40 42 7,
 mT 41 43 0,
 mT 42 44 9,
 oT 43 45 (.indexAddr 3 none) [41,42],
 oT 44 46 (.fieldAddr 2) [43],
 oT 45 47 (.load false 1) [44],
 mT 46 48 0,
 mT 47 49 9,
 oT 48 50 (.indexAddr 3 none) [46,47],
 oT 49 51 (.fieldAddr 1) [48],
 oT 50 52 (.load false 1) [49],
 oT 51 53 (.call true 296) [40,45,50]])
 (.region [mT 52 57 8,
 mT 53 58 0,
 mT 54 59 9,
 oT 55 60 (.indexAddr 3 none) [53,54],
 oT 56 61 (.fieldAddr 2) [55],
 oT 57 62 (.load false 1) [56],
 mT 58 63 0,
 mT 59 64 9,
 oT 60 65 (.indexAddr 3 none) [58,59],
 oT 61 66 (.fieldAddr 1) [60],
 oT 62 67 (.load false 1) [61],
 oT 63 68 (.call true 296) [52,57,62]]))))
 (.region [⟨(some 64),72,(.bin .add),[.t 37,.c (.int .i64 (1))],none⟩,
 mT 37 73 64])))))))
 (.seq (.region [mT 65 74 1,
 mT 66 75 2,
 oT 67 76 (.mnmx false) [65,66],
 mT 68 77 1,
 mT 69 78 2,
 oT 70 79 (.mnmx true) [68,69],
 mT 10 80 67,
 mT 11 81 70])
 (.seq (.region [mT 71 82 7,
 mT 72 83 10,
 oT 73 84 (.call true 302) [71,72],
 mT 74 88 7,
 mT 75 89 11,
 oT 76 90 (.call true 302) [74,75],
 mT 12 94 73,
 mT 13 95 76])
 (.seq (.region [mT 77 96 8,
 mT 78 97 11,
 oT 79 98 (.call true 302) [77,78],
 mT 14 102 79])
 (.seq (.seq (.region [mT 80 103 12,
 oT 81 104 (.len false) [80],
 mT 82 105 13,
 oT 83 106 (.len false) [82],
 oT 84 107 (.bin .add) [81,83],
 mT 85 108 14,
 oT 86 109 (.len false) [85],
 oT 87 110 (.bin .neq) [84,86],
 mT 88 111 87,
 oG 89 112 .move [7] 88 false,
 oG 90 113 .move [11] 88 false,
 oG 91 114 (.call true 302) [89,90] 88 false,
 oG 92 118 (.len false) [91] 88 false,
 ⟨(some 93),119,(.bin .neq),[.t 92,.c (.int .i64 (0))],(some (88,false))⟩,
 ⟨(some 94),120,.pick,[.t 88,.c (.bool true),.t 93],none⟩,
 mT 95 121 94,
 oG 96 122 .move [7] 95 false,
 oG 97 123 (.call true 304) [96] 95 false,
 oG 98 127 .move [8] 95 false,
 oG 99 128 (.call true 304) [98] 95 false,
 oG 100 132 (.bin .neq) [97,99] 95 false,
 ⟨(some 101),133,.pick,[.t 95,.c (.bool true),.t 100],none⟩])
 (.cond (.t 101) (.seq (.region [⟨(some 6),134,.move,[.c (.bool false)],none⟩])
 (.ret)) (.skip)))
 (.seq (.seq (.region [mT 102 135 14,
 oT 103 136 (.len false) [102],
 ⟨(some 104),137,.move,[.c (.int .i64 (0))],none⟩])
 (.block 2 (.loopT ((List (ByteArray))×(List (ByteArray))×(List (ByteArray))×Int×Int) (f270.S1 a) 138 203 (.seq (.region [oT 105 138 (.bin .lss) [104,103]])
 (.seq (.cond (.t 105) (.skip) (.exit 2))
 (.seq (.block 3 (.seq (.region [mT 106 139 104,
 mT 15 140 106])
 (.seq (.region [⟨(some 16),141,.move,[.c (.int .i64 (0))],none⟩])
 (.seq (.seq (.region [mT 107 142 12,
 oT 108 143 (.len false) [107],
 ⟨(some 109),144,.move,[.c (.int .i64 (0))],none⟩])
 (.block 4 (.loopT ((List (ByteArray))×(List (ByteArray))×(List (ByteArray))×Int×Int×Int×Int×Int×Int) (f270.S2 a) 145 162 (.seq (.region [oT 110 145 (.bin .lss) [109,108]])
 (.seq (.cond (.t 110) (.skip) (.exit 4))
 (.seq (.block 5 (.seq (.region [mT 111 146 109,
 mT 17 147 111])
 (.seq (.region [mT 112 148 12,
 mT 113 149 17,
 oT 114 150 (.indexAddr 1 none) [112,113],
 oT 115 151 (.load false 1) [114],
 mT 116 152 14,
 mT 117 153 15,
 oT 118 154 (.indexAddr 1 none) [116,117],
 oT 119 155 (.load false 1) [118],
 oT 120 156 (.bin .eql) [115,119]])
 (.cond (.t 120) (.region [mT 121 157 16,
 ⟨(some 122),158,(.bin .add),[.t 121,.c (.int .i64 (1))],none⟩,
 mT 16 159 122]) (.skip)))))
 (.region [⟨(some 123),160,(.bin .add),[.t 109,.c (.int .i64 (1))],none⟩,
 mT 109 161 123])))))))
 (.seq (.seq (.region [mT 124 162 13,
 oT 125 163 (.len false) [124],
 ⟨(some 126),164,.move,[.c (.int .i64 (0))],none⟩])
 (.block 6 (.loopT ((List (ByteArray))×(List (ByteArray))×(List (ByteArray))×Int×Int×Int×Int×Int×Int) (f270.S3 a) 165 182 (.seq (.region [oT 127 165 (.bin .lss) [126,125]])
 (.seq (.cond (.t 127) (.skip) (.exit 6))
 (.seq (.block 7 (.seq (.region [mT 128 166 126,
 mT 18 167 128])
 (.seq (.region [mT 129 168 13,
 mT 130 169 18,
 oT 131 170 (.indexAddr 1 none) [129,130],
 oT 132 171 (.load false 1) [131],
 mT 133 172 14,
 mT 134 173 15,
 oT 135 174 (.indexAddr 1 none) [133,134],
 oT 136 175 (.load false 1) [135],
 oT 137 176 (.bin .eql) [132,136]])
 (.cond (.t 137) (.region [mT 138 177 16,
 ⟨(some 139),178,(.bin .add),[.t 138,.c (.int .i64 (1))],none⟩,
 mT 16 179 139]) (.skip)))))
 (.region [⟨(some 140),180,(.bin .add),[.t 126,.c (.int .i64 (1))],none⟩,
 mT 126 181 140])))))))
 (.seq (.region [mT 141 182 16,
 ⟨(some 142),183,(.bin .neq),[.t 141,.c (.int .i64 (1))],none⟩,
 mT 143 184 142,
 oG 144 185 .move [15] 143 false,
 ⟨(some 145),186,(.bin .gtr),[.t 144,.c (.int .i64 (0))],(some (143,false))⟩,
 oG 146 187 .move [145] 143 false,
 oG 147 188 .move [14] 146 true,
 oG 148 189 .move [15] 146 true,
 ⟨(some 149),190,(.bin .sub),[.t 148,.c (.int .i64 (1))],(some (146,true))⟩,
 oG 150 191 (.indexAddr 1 none) [147,149] 146 true,
 oG 151 192 (.load false 1) [150] 146 true,
 oG 152 193 .move [14] 146 true,
 oG 153 194 .move [15] 146 true,
 oG 154 195 (.indexAddr 1 none) [152,153] 146 true,
 oG 155 196 (.load false 1) [154] 146 true,
 oG 156 197 (.bin .geq) [151,155] 146 true,
 ⟨(some 157),198,.pick,[.t 146,.t 156,.c (.bool false)],(some (143,false))⟩,
 ⟨(some 158),199,.pick,[.t 143,.c (.bool true),.t 157],none⟩])
 (.cond (.t 158) (.seq (.region [⟨(some 6),200,.move,[.c (.bool false)],none⟩])
 (.ret)) (.skip))))))))
 (.region [⟨(some 159),201,(.bin .add),[.t 104,.c (.int .i64 (1))],none⟩,
 mT 104 202 159])))))))
 (.seq (.region [⟨(some 6),203,.move,[.c (.bool true)],none⟩])
 (.ret))))))))))))))
 [.tmp 6] 0 157
def f270.env:Env:=[(293,f293.C),(294,f294.C),(295,f295.C),(296,f296.C),(302,f302.C),(304,f304.C)]
def f270.tree (a:(List (aC))×Int×Int):Prop:=∃ c1:Unit,True∧Br (!(bU c1)) (∃ c4:Unit,True∧((bU c4)=(bU a))∧True) (f294.ent (fun c7=>(L20 c7)∧Br (!(jR c7)) (∃ c10:Unit,True∧((bU c10)=(bU a))∧True) (∃ c13:Unit,True∧∃ c14:Unit,True∧∃ (I16:(Int×(Nat×Ob Int)×(Nat×Ob Int))→Prop) (μ17:(Int×(Nat×Ob Int)×(Nat×Ob Int))→Nat),(∃ x15:Int×(Nat×Ob Int)×(Nat×Ob Int),SlS a9 a.1 ((a.2.1=a.2.1)∧(a.2.2=a.2.2)∧((a.1.length:Int)=(a.1.length:Int))∧((0:Int)=x15.1)∧ObQ 0 x15.2.1.1 (ob0 Int).nl x15.2.1.2.nl (ob0 Int).n x15.2.1.2.n (ob0 Int).ks x15.2.1.2.ks (fun _ _=>[]) (ovs aJ x15.2.1.2) (ObQ 0 x15.2.2.1 (ob0 Int).nl x15.2.2.2.nl (ob0 Int).n x15.2.2.2.n (ob0 Int).ks x15.2.2.2.ks (fun _ _=>[]) (ovs aJ x15.2.2.2) (I16 x15))))∧∀ y18:Int×(Nat×Ob Int)×(Nat×Ob Int),I16 y18→(Br (decide (y18.1 < (a.1.length:Int))) (Br (decide ((0:Int)≤y18.1)&&decide (y18.1 < (a.1.length:Int))) (Br (decide ((0:Int)≤y18.1)&&decide (y18.1 < (a.1.length:Int))) (∃ c23:(Ob Int)×ByteArray×Int,(((at_ a.1 y18.1).2.2)=c23.2.1)∧(((at_ a.1 y18.1).2.1)=c23.2.2)∧ObQ 0 0 y18.2.1.2.nl c23.1.nl y18.2.1.2.n c23.1.n y18.2.1.2.ks c23.1.ks (ovs aJ y18.2.1.2) (ovs aJ c23.1) (True∧Br (decide ((0:Int)≤y18.1)&&decide (y18.1 < (a.1.length:Int))) (Br (decide ((0:Int)≤y18.1)&&decide (y18.1 < (a.1.length:Int))) (∃ c26:(Ob Int)×ByteArray×Int,(((at_ a.1 y18.1).2.2)=c26.2.1)∧(((at_ a.1 y18.1).2.1)=c26.2.2)∧ObQ 0 0 y18.2.2.2.nl c26.1.nl y18.2.2.2.n c26.1.n y18.2.2.2.ks c26.1.ks (ovs aJ y18.2.2.2) (ovs aJ c26.1) (True∧Let (wI (y18.1+(1:Int))) (fun v27:Int=>∃ x28:Int×(Nat×Ob Int)×(Nat×Ob Int),SlS a9 a.1 ((a.2.1=a.2.1)∧(a.2.2=a.2.2)∧((a.1.length:Int)=(a.1.length:Int))∧(v27=x28.1)∧ObQ (y18.2.1.1+1) x28.2.1.1 (setW c23).nl x28.2.1.2.nl (setW c23).n x28.2.1.2.n (setW c23).ks x28.2.1.2.ks (ovs aJ (setW c23)) (ovs aJ x28.2.1.2) (ObQ (y18.2.2.1+1) x28.2.2.1 (setW c26).nl x28.2.2.2.nl (setW c26).n x28.2.2.2.n (setW c26).ks x28.2.2.2.ks (ovs aJ (setW c26)) (ovs aJ x28.2.2.2) (I16 x28∧μ17 x28 < μ17 y18)))))) False) False)) False) False) (∃ c39:(Ob Int)×Int,((mn a.2.1 a.2.2)=c39.2)∧ObQ 0 0 y18.2.1.2.nl c39.1.nl y18.2.1.2.n c39.1.n y18.2.1.2.ks c39.1.ks (ovs aJ y18.2.1.2) (ovs aJ c39.1) ((eD c39)∧∃ c40:(Ob Int)×Int,((mx a.2.1 a.2.2)=c40.2)∧ObQ 0 0 ((bE c39).2).nl c40.1.nl ((bE c39).2).n c40.1.n ((bE c39).2).ks c40.1.ks (ovs aJ ((bE c39).2)) (ovs aJ c40.1) ((eD c40)∧∃ c41:(Ob Int)×Int,((mx a.2.1 a.2.2)=c41.2)∧ObQ 0 0 y18.2.2.2.nl c41.1.nl y18.2.2.2.n c41.1.n y18.2.2.2.ks c41.1.ks (ovs aJ y18.2.2.2) (ovs aJ c41.1) ((eD c41)∧Let (wI ((((bE c39).1).length:Int)+(((bE c40).1).length:Int))) (fun v42:Int=>Br (v42 != (((bE c41).1).length:Int)) ((false=(bU a))∧True) (∃ c46:(Ob Int)×Int,((mx a.2.1 a.2.2)=c46.2)∧ObQ 0 0 ((bE c40).2).nl c46.1.nl ((bE c40).2).n c46.1.n ((bE c40).2).ks c46.1.ks (ovs aJ ((bE c40).2)) (ovs aJ c46.1) ((eD c46)∧Br ((((bE c46).1).length:Int) != (0:Int)) ((false=(bU a))∧True) (∃ c50:Ob Int,ObQ 0 0 ((bE c46).2).nl c50.nl ((bE c46).2).n c50.n ((bE c46).2).ks c50.ks (ovs aJ ((bE c46).2)) (ovs aJ c50) (True∧∃ c51:Ob Int,ObQ 0 0 ((bE c41).2).nl c51.nl ((bE c41).2).n c51.n ((bE c41).2).ks c51.ks (ovs aJ ((bE c41).2)) (ovs aJ c51) (True∧Br (((fL c50).1) != ((fL c51).1)) ((false=(bU a))∧True) (∃ (I56:((List (ByteArray))×(List (ByteArray))×(List (ByteArray))×Int×Int)→Prop) (μ57:((List (ByteArray))×(List (ByteArray))×(List (ByteArray))×Int×Int)→Nat),(f270.l1 a I56 ((bE c39).1,(bE c40).1,(bE c41).1,(((bE c41).1).length:Int),(0:Int)))∧∀ y58:(List (ByteArray))×(List (ByteArray))×(List (ByteArray))×Int×Int,I56 y58→(Br (decide (y58.2.2.2.2 < y58.2.2.2.1)) (∃ (I62:((List (ByteArray))×(List (ByteArray))×(List (ByteArray))×Int×Int×Int×Int×Int×Int)→Prop) (μ63:((List (ByteArray))×(List (ByteArray))×(List (ByteArray))×Int×Int×Int×Int×Int×Int)→Nat),(f270.l2 a I62 (y58.1,y58.2.1,y58.2.2.1,y58.2.2.2.2,(0:Int),y58.2.2.2.1,y58.2.2.2.2,(y58.1.length:Int),(0:Int)))∧∀ y64:(List (ByteArray))×(List (ByteArray))×(List (ByteArray))×Int×Int×Int×Int×Int×Int,I62 y64→(Br (decide (y64.2.2.2.2.2.2.2.2 < y64.2.2.2.2.2.2.2.1)) (Br (decide ((0:Int)≤y64.2.2.2.2.2.2.2.2)&&decide (y64.2.2.2.2.2.2.2.2 < (y64.1.length:Int))) (Br (decide ((0:Int)≤y64.2.2.2.1)&&decide (y64.2.2.2.1 < (y64.2.2.1.length:Int))) (Br ((at_ y64.1 y64.2.2.2.2.2.2.2.2).toList==(at_ y64.2.2.1 y64.2.2.2.1).toList) (Let (wI (y64.2.2.2.2.1+(1:Int))) (fun v71:Int=>Let (wI (y64.2.2.2.2.2.2.2.2+(1:Int))) (fun v72:Int=>f270.l2 a (Dn I62 μ63 y64) (y64.1,y64.2.1,y64.2.2.1,y64.2.2.2.1,v71,y64.2.2.2.2.2.1,y64.2.2.2.2.2.2.1,y64.2.2.2.2.2.2.2.1,v72)))) (Let (wI (y64.2.2.2.2.2.2.2.2+(1:Int))) (fun v81:Int=>f270.l2 a (Dn I62 μ63 y64) (y64.1,y64.2.1,y64.2.2.1,y64.2.2.2.1,y64.2.2.2.2.1,y64.2.2.2.2.2.1,y64.2.2.2.2.2.2.1,y64.2.2.2.2.2.2.2.1,v81)))) False) False) (∃ (I92:((List (ByteArray))×(List (ByteArray))×(List (ByteArray))×Int×Int×Int×Int×Int×Int)→Prop) (μ93:((List (ByteArray))×(List (ByteArray))×(List (ByteArray))×Int×Int×Int×Int×Int×Int)→Nat),(f270.l3 a I92 (y64.1,y64.2.1,y64.2.2.1,y64.2.2.2.1,y64.2.2.2.2.1,y64.2.2.2.2.2.1,y64.2.2.2.2.2.2.1,(y64.2.1.length:Int),(0:Int)))∧∀ y94:(List (ByteArray))×(List (ByteArray))×(List (ByteArray))×Int×Int×Int×Int×Int×Int,I92 y94→(Br (decide (y94.2.2.2.2.2.2.2.2 < y94.2.2.2.2.2.2.2.1)) (Br (decide ((0:Int)≤y94.2.2.2.2.2.2.2.2)&&decide (y94.2.2.2.2.2.2.2.2 < (y94.2.1.length:Int))) (Br (decide ((0:Int)≤y94.2.2.2.1)&&decide (y94.2.2.2.1 < (y94.2.2.1.length:Int))) (Br ((at_ y94.2.1 y94.2.2.2.2.2.2.2.2).toList==(at_ y94.2.2.1 y94.2.2.2.1).toList) (Let (wI (y94.2.2.2.2.1+(1:Int))) (fun v101:Int=>Let (wI (y94.2.2.2.2.2.2.2.2+(1:Int))) (fun v102:Int=>f270.l3 a (Dn I92 μ93 y94) (y94.1,y94.2.1,y94.2.2.1,y94.2.2.2.1,v101,y94.2.2.2.2.2.1,y94.2.2.2.2.2.2.1,y94.2.2.2.2.2.2.2.1,v102)))) (Let (wI (y94.2.2.2.2.2.2.2.2+(1:Int))) (fun v111:Int=>f270.l3 a (Dn I92 μ93 y94) (y94.1,y94.2.1,y94.2.2.1,y94.2.2.2.1,y94.2.2.2.2.1,y94.2.2.2.2.2.1,y94.2.2.2.2.2.2.1,y94.2.2.2.2.2.2.2.1,v111)))) False) False) (Br (y94.2.2.2.2.1 != (1:Int)) ((false=(bU a))∧True) (Br (decide ((0:Int) < y94.2.2.2.1)) (Let (wI (y94.2.2.2.1 - (1:Int))) (fun v126:Int=>Br (decide ((0:Int)≤v126)&&decide (v126 < (y94.2.2.1.length:Int))) (Br (decide ((0:Int)≤y94.2.2.2.1)&&decide (y94.2.2.2.1 < (y94.2.2.1.length:Int))) (Br (!(Op.bytesLess (at_ y94.2.2.1 v126).toList (at_ y94.2.2.1 y94.2.2.2.1).toList)) ((false=(bU a))∧True) (Let (wI (y94.2.2.2.2.2.2.1+(1:Int))) (fun v132:Int=>f270.l1 a (Dn I56 μ57 y58) (y94.1,y94.2.1,y94.2.2.1,y94.2.2.2.2.2.1,v132)))) False) False)) (Let (wI (y94.2.2.2.2.2.2.1+(1:Int))) (fun v145:Int=>f270.l1 a (Dn I56 μ57 y58) (y94.1,y94.2.1,y94.2.2.1,y94.2.2.2.2.2.1,v145))))))))) ((true=(bU a))∧True)))))))))))))))) a.1)
def f270.vc (a:(List (aC))×Int×Int):Prop:=((¬((bU ())=true)→((bU ())=bU a))∧(¬(¬((bU ())=true))→(L20 a.1∧((¬((jR (a.1))=true)→((bU ())=bU a))∧(¬(¬((jR (a.1))=true))→(∃ (I16:(Int×(Nat×Ob Int)×(Nat×Ob Int))→Prop) (μ17:(Int×(Nat×Ob Int)×(Nat×Ob Int))→Nat),I16 ((0:Int),(0,ob0 Int),(0,ob0 Int))∧∀ y18:Int×(Nat×Ob Int)×(Nat×Ob Int),I16 y18→((y18.1 < (a.1.length:Int)→((0:Int)≤y18.1∧y18.1 < (a.1.length:Int)∧((0:Int)≤y18.1∧y18.1 < (a.1.length:Int)∧((0:Int)≤y18.1∧y18.1 < (a.1.length:Int)∧((0:Int)≤y18.1∧y18.1 < (a.1.length:Int)∧(-9223372036854775808≤(y18.1+(1:Int))∧(y18.1+(1:Int))≤9223372036854775807∧(I16 ((y18.1+(1:Int)),(y18.2.1.1+1,(setW (y18.2.1.2,(at_ a.1 y18.1).2.2,(at_ a.1 y18.1).2.1))),(y18.2.2.1+1,(setW (y18.2.2.2,(at_ a.1 y18.1).2.2,(at_ a.1 y18.1).2.1))))∧μ17 ((y18.1+(1:Int)),(y18.2.1.1+1,(setW (y18.2.1.2,(at_ a.1 y18.1).2.2,(at_ a.1 y18.1).2.1))),(y18.2.2.1+1,(setW (y18.2.2.2,(at_ a.1 y18.1).2.2,(at_ a.1 y18.1).2.1)))) < μ17 y18)))))))∧(¬(y18.1 < (a.1.length:Int))→(eD (y18.2.1.2,mn a.2.1 a.2.2)∧(eD ((bE (y18.2.1.2,mn a.2.1 a.2.2)).2,mx a.2.1 a.2.2)∧(eD (y18.2.2.2,mx a.2.1 a.2.2)∧(-9223372036854775808≤((((bE (y18.2.1.2,mn a.2.1 a.2.2)).1).length:Int)+(((bE ((bE (y18.2.1.2,mn a.2.1 a.2.2)).2,mx a.2.1 a.2.2)).1).length:Int))∧((((bE (y18.2.1.2,mn a.2.1 a.2.2)).1).length:Int)+(((bE ((bE (y18.2.1.2,mn a.2.1 a.2.2)).2,mx a.2.1 a.2.2)).1).length:Int))≤9223372036854775807∧((¬((((bE (y18.2.1.2,mn a.2.1 a.2.2)).1).length:Int)+(((bE ((bE (y18.2.1.2,mn a.2.1 a.2.2)).2,mx a.2.1 a.2.2)).1).length:Int))=(((bE (y18.2.2.2,mx a.2.1 a.2.2)).1).length:Int)→(false=bU a))∧(¬(¬((((bE (y18.2.1.2,mn a.2.1 a.2.2)).1).length:Int)+(((bE ((bE (y18.2.1.2,mn a.2.1 a.2.2)).2,mx a.2.1 a.2.2)).1).length:Int))=(((bE (y18.2.2.2,mx a.2.1 a.2.2)).1).length:Int))→(eD ((bE ((bE (y18.2.1.2,mn a.2.1 a.2.2)).2,mx a.2.1 a.2.2)).2,mx a.2.1 a.2.2)∧((¬(((bE ((bE ((bE (y18.2.1.2,mn a.2.1 a.2.2)).2,mx a.2.1 a.2.2)).2,mx a.2.1 a.2.2)).1).length:Int)=(0:Int)→(false=bU a))∧(¬(¬(((bE ((bE ((bE (y18.2.1.2,mn a.2.1 a.2.2)).2,mx a.2.1 a.2.2)).2,mx a.2.1 a.2.2)).1).length:Int)=(0:Int))→((¬((fL ((bE ((bE ((bE (y18.2.1.2,mn a.2.1 a.2.2)).2,mx a.2.1 a.2.2)).2,mx a.2.1 a.2.2)).2)).1)=((fL ((bE (y18.2.2.2,mx a.2.1 a.2.2)).2)).1)→(false=bU a))∧(¬(¬((fL ((bE ((bE ((bE (y18.2.1.2,mn a.2.1 a.2.2)).2,mx a.2.1 a.2.2)).2,mx a.2.1 a.2.2)).2)).1)=((fL ((bE (y18.2.2.2,mx a.2.1 a.2.2)).2)).1))→(∃ (I56:((List (ByteArray))×(List (ByteArray))×(List (ByteArray))×Int×Int)→Prop) (μ57:((List (ByteArray))×(List (ByteArray))×(List (ByteArray))×Int×Int)→Nat),I56 ((bE (y18.2.1.2,mn a.2.1 a.2.2)).1,(bE ((bE (y18.2.1.2,mn a.2.1 a.2.2)).2,mx a.2.1 a.2.2)).1,(bE (y18.2.2.2,mx a.2.1 a.2.2)).1,(((bE (y18.2.2.2,mx a.2.1 a.2.2)).1).length:Int),(0:Int))∧∀ y58:(List (ByteArray))×(List (ByteArray))×(List (ByteArray))×Int×Int,I56 y58→((y58.2.2.2.2 < y58.2.2.2.1→(∃ (I62:((List (ByteArray))×(List (ByteArray))×(List (ByteArray))×Int×Int×Int×Int×Int×Int)→Prop) (μ63:((List (ByteArray))×(List (ByteArray))×(List (ByteArray))×Int×Int×Int×Int×Int×Int)→Nat),I62 (y58.1,y58.2.1,y58.2.2.1,y58.2.2.2.2,(0:Int),y58.2.2.2.1,y58.2.2.2.2,(y58.1.length:Int),(0:Int))∧∀ y64:(List (ByteArray))×(List (ByteArray))×(List (ByteArray))×Int×Int×Int×Int×Int×Int,I62 y64→((y64.2.2.2.2.2.2.2.2 < y64.2.2.2.2.2.2.2.1→((0:Int)≤y64.2.2.2.2.2.2.2.2∧y64.2.2.2.2.2.2.2.2 < (y64.1.length:Int)∧((0:Int)≤y64.2.2.2.1∧y64.2.2.2.1 < (y64.2.2.1.length:Int)∧(((at_ y64.1 y64.2.2.2.2.2.2.2.2)=(at_ y64.2.2.1 y64.2.2.2.1)→(-9223372036854775808≤(y64.2.2.2.2.1+(1:Int))∧(y64.2.2.2.2.1+(1:Int))≤9223372036854775807∧(-9223372036854775808≤(y64.2.2.2.2.2.2.2.2+(1:Int))∧(y64.2.2.2.2.2.2.2.2+(1:Int))≤9223372036854775807∧(I62 (y64.1,y64.2.1,y64.2.2.1,y64.2.2.2.1,(y64.2.2.2.2.1+(1:Int)),y64.2.2.2.2.2.1,y64.2.2.2.2.2.2.1,y64.2.2.2.2.2.2.2.1,(y64.2.2.2.2.2.2.2.2+(1:Int)))∧μ63 (y64.1,y64.2.1,y64.2.2.1,y64.2.2.2.1,(y64.2.2.2.2.1+(1:Int)),y64.2.2.2.2.2.1,y64.2.2.2.2.2.2.1,y64.2.2.2.2.2.2.2.1,(y64.2.2.2.2.2.2.2.2+(1:Int))) < μ63 y64))))∧(¬((at_ y64.1 y64.2.2.2.2.2.2.2.2)=(at_ y64.2.2.1 y64.2.2.2.1))→(-9223372036854775808≤(y64.2.2.2.2.2.2.2.2+(1:Int))∧(y64.2.2.2.2.2.2.2.2+(1:Int))≤9223372036854775807∧(I62 (y64.1,y64.2.1,y64.2.2.1,y64.2.2.2.1,y64.2.2.2.2.1,y64.2.2.2.2.2.1,y64.2.2.2.2.2.2.1,y64.2.2.2.2.2.2.2.1,(y64.2.2.2.2.2.2.2.2+(1:Int)))∧μ63 (y64.1,y64.2.1,y64.2.2.1,y64.2.2.2.1,y64.2.2.2.2.1,y64.2.2.2.2.2.1,y64.2.2.2.2.2.2.1,y64.2.2.2.2.2.2.2.1,(y64.2.2.2.2.2.2.2.2+(1:Int))) < μ63 y64)))))))∧(¬(y64.2.2.2.2.2.2.2.2 < y64.2.2.2.2.2.2.2.1)→(∃ (I92:((List (ByteArray))×(List (ByteArray))×(List (ByteArray))×Int×Int×Int×Int×Int×Int)→Prop) (μ93:((List (ByteArray))×(List (ByteArray))×(List (ByteArray))×Int×Int×Int×Int×Int×Int)→Nat),I92 (y64.1,y64.2.1,y64.2.2.1,y64.2.2.2.1,y64.2.2.2.2.1,y64.2.2.2.2.2.1,y64.2.2.2.2.2.2.1,(y64.2.1.length:Int),(0:Int))∧∀ y94:(List (ByteArray))×(List (ByteArray))×(List (ByteArray))×Int×Int×Int×Int×Int×Int,I92 y94→((y94.2.2.2.2.2.2.2.2 < y94.2.2.2.2.2.2.2.1→((0:Int)≤y94.2.2.2.2.2.2.2.2∧y94.2.2.2.2.2.2.2.2 < (y94.2.1.length:Int)∧((0:Int)≤y94.2.2.2.1∧y94.2.2.2.1 < (y94.2.2.1.length:Int)∧(((at_ y94.2.1 y94.2.2.2.2.2.2.2.2)=(at_ y94.2.2.1 y94.2.2.2.1)→(-9223372036854775808≤(y94.2.2.2.2.1+(1:Int))∧(y94.2.2.2.2.1+(1:Int))≤9223372036854775807∧(-9223372036854775808≤(y94.2.2.2.2.2.2.2.2+(1:Int))∧(y94.2.2.2.2.2.2.2.2+(1:Int))≤9223372036854775807∧(I92 (y94.1,y94.2.1,y94.2.2.1,y94.2.2.2.1,(y94.2.2.2.2.1+(1:Int)),y94.2.2.2.2.2.1,y94.2.2.2.2.2.2.1,y94.2.2.2.2.2.2.2.1,(y94.2.2.2.2.2.2.2.2+(1:Int)))∧μ93 (y94.1,y94.2.1,y94.2.2.1,y94.2.2.2.1,(y94.2.2.2.2.1+(1:Int)),y94.2.2.2.2.2.1,y94.2.2.2.2.2.2.1,y94.2.2.2.2.2.2.2.1,(y94.2.2.2.2.2.2.2.2+(1:Int))) < μ93 y94))))∧(¬((at_ y94.2.1 y94.2.2.2.2.2.2.2.2)=(at_ y94.2.2.1 y94.2.2.2.1))→(-9223372036854775808≤(y94.2.2.2.2.2.2.2.2+(1:Int))∧(y94.2.2.2.2.2.2.2.2+(1:Int))≤9223372036854775807∧(I92 (y94.1,y94.2.1,y94.2.2.1,y94.2.2.2.1,y94.2.2.2.2.1,y94.2.2.2.2.2.1,y94.2.2.2.2.2.2.1,y94.2.2.2.2.2.2.2.1,(y94.2.2.2.2.2.2.2.2+(1:Int)))∧μ93 (y94.1,y94.2.1,y94.2.2.1,y94.2.2.2.1,y94.2.2.2.2.1,y94.2.2.2.2.2.1,y94.2.2.2.2.2.2.1,y94.2.2.2.2.2.2.2.1,(y94.2.2.2.2.2.2.2.2+(1:Int))) < μ93 y94)))))))∧(¬(y94.2.2.2.2.2.2.2.2 < y94.2.2.2.2.2.2.2.1)→((¬y94.2.2.2.2.1=(1:Int)→(false=bU a))∧(¬(¬y94.2.2.2.2.1=(1:Int))→(((0:Int) < y94.2.2.2.1→(-9223372036854775808≤(y94.2.2.2.1 - (1:Int))∧(y94.2.2.2.1 - (1:Int))≤9223372036854775807∧((0:Int)≤(y94.2.2.2.1 - (1:Int))∧(y94.2.2.2.1 - (1:Int)) < (y94.2.2.1.length:Int)∧((0:Int)≤y94.2.2.2.1∧y94.2.2.2.1 < (y94.2.2.1.length:Int)∧((¬sLt (at_ y94.2.2.1 (y94.2.2.2.1 - (1:Int))) (at_ y94.2.2.1 y94.2.2.2.1)→(false=bU a))∧(¬(¬sLt (at_ y94.2.2.1 (y94.2.2.2.1 - (1:Int))) (at_ y94.2.2.1 y94.2.2.2.1))→(-9223372036854775808≤(y94.2.2.2.2.2.2.1+(1:Int))∧(y94.2.2.2.2.2.2.1+(1:Int))≤9223372036854775807∧(I56 (y94.1,y94.2.1,y94.2.2.1,y94.2.2.2.2.2.1,(y94.2.2.2.2.2.2.1+(1:Int)))∧μ57 (y94.1,y94.2.1,y94.2.2.1,y94.2.2.2.2.2.1,(y94.2.2.2.2.2.2.1+(1:Int))) < μ57 y58))))))))∧(¬((0:Int) < y94.2.2.2.1)→(-9223372036854775808≤(y94.2.2.2.2.2.2.1+(1:Int))∧(y94.2.2.2.2.2.2.1+(1:Int))≤9223372036854775807∧(I56 (y94.1,y94.2.1,y94.2.2.1,y94.2.2.2.2.2.1,(y94.2.2.2.2.2.2.1+(1:Int)))∧μ57 (y94.1,y94.2.1,y94.2.2.1,y94.2.2.2.2.2.1,(y94.2.2.2.2.2.2.1+(1:Int))) < μ57 y58)))))))))))))∧(¬(y58.2.2.2.2 < y58.2.2.2.1)→(true=bU a)))))))))))))))))))))))
theorem f270.of (a:(List (aC))×Int×Int) (h:f270.vc a):f270.tree a:=⟨(),⟨trivial,br h (Cnd.not Cnd.b) (fun h2 k196=>⟨(),⟨trivial,⟨k196,trivial⟩⟩⟩) (fun h3 k197=>(f294.ei ⟨k197.1,br k197.2 (Cnd.not Cnd.b) (fun h8 k193=>⟨(),⟨trivial,⟨k193,trivial⟩⟩⟩) (fun h9 k194=>⟨(),⟨trivial,⟨(),⟨trivial,Exists.elim k194 (fun I16 h188_=>Exists.elim h188_ (fun μ17 h188=>⟨I16,μ17,⟨((0:Int),(0,ob0 Int),(0,ob0 Int)),SlS.mk  (⟨rfl,⟨rfl,⟨rfl,⟨rfl,obQ rfl (OV.zero (e:=aJ)) rfl (obQ rfl (OV.zero (e:=aJ)) rfl (h188.1))⟩⟩⟩⟩)⟩,fun y18 h190=>br (h188.2 y18 h190) Cnd.dec (fun h19 k186=>chk k186.2.2 Cnd.ix ⟨k186.1,k186.2.1⟩ (fun h21 k38=>chk k38.2.2 Cnd.ix ⟨k38.1,k38.2.1⟩ (fun h22 k37=>⟨(y18.2.1.2,(at_ a.1 y18.1).2.2,(at_ a.1 y18.1).2.1),⟨rfl,⟨rfl,obQ rfl (OV.self (e:=aJ)) rfl (⟨trivial,chk k37.2.2 Cnd.ix ⟨k37.1,k37.2.1⟩ (fun h24 k35=>chk k35.2.2 Cnd.ix ⟨k35.1,k35.2.1⟩ (fun h25 k34=>⟨(y18.2.2.2,(at_ a.1 y18.1).2.2,(at_ a.1 y18.1).2.1),⟨rfl,⟨rfl,obQ rfl (OV.self (e:=aJ)) rfl (⟨trivial,wrapK.i64 k34 (fun h30 h31 k32=>⟨((y18.1+(1:Int)),(y18.2.1.1+1,(setW (y18.2.1.2,(at_ a.1 y18.1).2.2,(at_ a.1 y18.1).2.1))),(y18.2.2.1+1,(setW (y18.2.2.2,(at_ a.1 y18.1).2.2,(at_ a.1 y18.1).2.1)))),SlS.mk  (⟨rfl,⟨rfl,⟨rfl,⟨rfl,obQ rfl (OV.self (e:=aJ)) rfl (obQ rfl (OV.self (e:=aJ)) rfl (k32))⟩⟩⟩⟩)⟩)⟩)⟩⟩⟩))⟩)⟩⟩⟩))) (fun h20 k187=>⟨(y18.2.1.2,mn a.2.1 a.2.2),⟨rfl,obQ rfl (OV.self (e:=aJ)) rfl (⟨k187.1,⟨((bE (y18.2.1.2,mn a.2.1 a.2.2)).2,mx a.2.1 a.2.2),⟨rfl,obQ rfl (OV.self (e:=aJ)) rfl (⟨k187.2.1,⟨(y18.2.2.2,mx a.2.1 a.2.2),⟨rfl,obQ rfl (OV.self (e:=aJ)) rfl (⟨k187.2.2.1,wrapK.i64 k187.2.2.2 (fun h180 h181 k182=>br k182 Cnd.ne (fun h43 k178=>⟨k178,trivial⟩) (fun h44 k179=>⟨((bE ((bE (y18.2.1.2,mn a.2.1 a.2.2)).2,mx a.2.1 a.2.2)).2,mx a.2.1 a.2.2),⟨rfl,obQ rfl (OV.self (e:=aJ)) rfl (⟨k179.1,br k179.2 Cnd.ne (fun h47 k175=>⟨k175,trivial⟩) (fun h48 k176=>⟨(bE ((bE ((bE (y18.2.1.2,mn a.2.1 a.2.2)).2,mx a.2.1 a.2.2)).2,mx a.2.1 a.2.2)).2,obQ rfl (OV.self (e:=aJ)) rfl (⟨trivial,⟨(bE (y18.2.2.2,mx a.2.1 a.2.2)).2,obQ rfl (OV.self (e:=aJ)) rfl (⟨trivial,br k176 Cnd.ne (fun h52 k171=>⟨k171,trivial⟩) (fun h53 k172=>Exists.elim k172 (fun I56 h168_=>Exists.elim h168_ (fun μ57 h168=>⟨I56,μ57,(f270.l1i a h168.1),fun y58 h170=>br (h168.2 y58 h170) Cnd.dec (fun h59 k166=>Exists.elim k166 (fun I62 h162_=>Exists.elim h162_ (fun μ63 h162=>⟨I62,μ63,(f270.l2i a h162.1),fun y64 h164=>br (h162.2 y64 h164) Cnd.dec (fun h65 k160=>chk k160.2.2 Cnd.ix ⟨k160.1,k160.2.1⟩ (fun h67 k90=>chk k90.2.2 Cnd.ix ⟨k90.1,k90.2.1⟩ (fun h68 k89=>br k89 Cnd.seq (fun h69 k87=>wrapK.i64 k87 (fun h78 h79 k80=>wrapK.i64 k80 (fun h75 h76 k77=>(f270.l2i a k77)))) (fun h70 k88=>wrapK.i64 k88 (fun h84 h85 k86=>(f270.l2i a k86)))))) (fun h66 k161=>Exists.elim k161 (fun I92 h157_=>Exists.elim h157_ (fun μ93 h157=>⟨I92,μ93,(f270.l3i a h157.1),fun y94 h159=>br (h157.2 y94 h159) Cnd.dec (fun h95 k155=>chk k155.2.2 Cnd.ix ⟨k155.1,k155.2.1⟩ (fun h97 k120=>chk k120.2.2 Cnd.ix ⟨k120.1,k120.2.1⟩ (fun h98 k119=>br k119 Cnd.seq (fun h99 k117=>wrapK.i64 k117 (fun h108 h109 k110=>wrapK.i64 k110 (fun h105 h106 k107=>(f270.l3i a k107)))) (fun h100 k118=>wrapK.i64 k118 (fun h114 h115 k116=>(f270.l3i a k116)))))) (fun h96 k156=>br k156 Cnd.ne (fun h121 k153=>⟨k153,trivial⟩) (fun h122 k154=>br k154 Cnd.dec (fun h124 k151=>wrapK.i64 k151 (fun h142 h143 k144=>chk k144.2.2 Cnd.ix ⟨k144.1,k144.2.1⟩ (fun h127 k141=>chk k141.2.2 Cnd.ix ⟨k141.1,k141.2.1⟩ (fun h128 k140=>br k140 (Cnd.not Cnd.sl_) (fun h129 k138=>⟨k138,trivial⟩) (fun h130 k139=>wrapK.i64 k139 (fun h135 h136 k137=>(f270.l1i a k137))))))) (fun h125 k152=>wrapK.i64 k152 (fun h148 h149 k150=>(f270.l1i a k150)))))⟩)))⟩))) (fun h60 k167=>⟨k167,trivial⟩)⟩)))⟩)⟩⟩)⟩)⟩)⟩⟩))⟩)⟩⟩⟩)⟩⟩⟩)⟩⟩)⟩))⟩⟩⟩⟩)⟩))⟩⟩
theorem f270.eq (a:(List (aC))×Int×Int):(f270.af a).gives f270.env (f270.args a) (f270.blks a) (f270.res a) (f270.blks' a)=f270.tree a:=by kernel_rfl
def rF (e:ByteArray) (l:List ByteArray):Nat:=(l.filter fun x=>decide (x=e)).length
theorem nY (e:ByteArray) (l:List ByteArray) (x:ByteArray):rF e (l++[x])=if x=e then rF e l+1 else rF e l:=by
 unfold rF
 rw [List.filter_append,List.length_append]
 split
 ·rename_i h
  rw [List.filter_cons_of_pos (by simpa using h)]
  rfl
 ·rename_i h
  rw [List.filter_cons_of_neg (by simpa using h)]
  rfl
theorem aAZ (e:ByteArray) (l:List ByteArray):rF e l≤l.length:=List.length_filter_le _ _
theorem aI3 {e:ByteArray} {l:List ByteArray} (h:l.Nodup) (hm:e∈l):rF e l=1:=by
 induction l with
 | nil=>cases hm
 | cons a l ih =>
  obtain ⟨h1,h2⟩:=List.nodup_cons.1 h
  unfold rF at ih ⊢
  by_cases ha:a=e
  ·rw [List.filter_cons_of_pos (by simpa using ha),List.length_cons,List.filter_eq_nil_iff.2 fun x hx=>?_]
   ·rfl
   ·rw [decide_eq_true_eq]
    intro hxe
    exact h1 (by rw [ha,← hxe]; exact hx)
  ·rw [List.filter_cons_of_neg (by simpa using ha)]
   exact ih h2 ((List.mem_cons.1 hm).resolve_left fun h=>ha h.symm)
theorem aAT {lo hi:Int} (h:lo≤hi):∀ l:List (ByteArray×Int),(iL l lo++iL (iB l lo) hi).Perm (iL l hi)∧iB (iB l lo) hi=iB l hi
 | []=>⟨List.Perm.refl _,rfl⟩
 | a::l=>by
  obtain ⟨ih1,ih2⟩:=aAT h l
  rw [rT,rT,rU,rU]
  by_cases h1:a.2 < lo
  ·rw [if_pos h1,if_pos h1,if_pos (show a.2 < hi by omega),if_pos (show a.2 < hi by omega)]
   exact ⟨ih1.cons a.1,ih2⟩
  ·rw [if_neg h1,if_neg h1,rT,rU]
   by_cases h2:a.2 < hi
   ·rw [if_pos h2,if_pos h2,if_pos h2,if_pos h2]
    exact ⟨List.perm_middle.trans (ih1.cons a.1),ih2⟩
   ·rw [if_neg h2,if_neg h2,if_neg h2,if_neg h2]
    exact ⟨ih1,by rw [ih2]⟩
theorem aJT (hi:Int) (l:List (ByteArray×Int)):iL (iB l hi) hi=[]:=by
 cases hd:iL (iB l hi) hi with
 | nil=>rfl
 | cons k r =>
  obtain ⟨t,h1,h2⟩:=vS.1 (show k∈iL (iB l hi) hi by rw [hd]; exact List.mem_cons_self)
  exact absurd h2 (aIK.1 h1).2
theorem aDY {l:List (ByteArray×Int)} (h:Rising l) (now:Int):(iL l now).Pairwise fun x y=>slt x y=true:=Rising.names (List.Pairwise.filter _ h)
theorem aMH (x y:Int):mn x y≤mx x y:=by
 unfold mn mx
 by_cases h1:y < x <;> by_cases h2:x < y <;> simp [h1,h2] <;> omega
theorem f270.ok (a:List (Int×Int×ByteArray)×Int×Int) (h:f270.lpre a):f270.vc a:=by
 obtain ⟨s,t1,t2⟩:=a
 have hs:cK.size s+(1+1)≤1048576:=h.2
 have hsz:s.length≤1048576:=aDT (by omega)
 refine ⟨fun c=>absurd rfl c,fun _=>⟨hsz,fun _=>rfl,fun hf=>?_⟩⟩
 have hf:=(oD.1 (Classical.not_not.1 hf)).1
 simp only at hf
 refine ⟨fun y=>0≤y.1∧y.1≤(s.length:Int)∧∃ l,Rep spW y.2.1.2 l∧Rep spW y.2.2.2 l∧l.length≤y.1.toNat,fun y=>s.length - y.1.toNat,⟨by simp only; omega,by simp only; omega,[],Rep.zero,Rep.zero,Nat.zero_le _⟩,fun y hy=>?_⟩
 obtain ⟨i,⟨c0,o⟩,c0',o'⟩:=y
 obtain ⟨g0,g1,l,r,r',hl⟩:=hy
 simp only at g0 g1 hl r r'
 refine ⟨fun hlt=>?_,fun _=>?_⟩
 ·simp only at hlt
  have hi:(i+1).toNat=i.toNat+1:=by omega
  exact ⟨g0,hlt,g0,hlt,g0,hlt,g0,hlt,by simp only; omega,by simp only; omega,⟨by simp only; omega,by simp only; omega,_,r.setW _ _,r'.setW _ _,by simp only [hi]; exact Nat.le_trans (aKN _ _ _) (by omega)⟩,by simp only; omega⟩
 have hl3:l.length≤300:=by omega
 have D1:=r.due (mn t1 t2)
 have hr1:=aFW l (mn t1 t2)
 have D2:=D1.2.due (mx t1 t2)
 have hr2:=aFW (iB l (mn t1 t2)) (mx t1 t2)
 have D3:=D2.2.due (mx t1 t2)
 have D4:=r'.due (mx t1 t2)
 obtain ⟨hp,hq⟩:=aAT (aMH t1 t2) l
 have hlen:=hp.length_eq
 rw [List.length_append] at hlen
 have hn3:iL (iB (iB l (mn t1 t2)) (mx t1 t2)) (mx t1 t2)=[]:=aJT _ _
 have hq3:iB (iB (iB l (mn t1 t2)) (mx t1 t2)) (mx t1 t2)=iB l (mx t1 t2):=by
  rw [hq,(aAT (Int.le_refl _) l).2]
 have hr4:=aK0 l (mx t1 t2)
 have hrise:=aDY r.ris (mx t1 t2)
 generalize hA1:iL l (mn t1 t2)=A1 at *
 generalize hA2:iL (iB l (mn t1 t2)) (mx t1 t2)=A2 at *
 generalize hA3:iL l (mx t1 t2)=A3 at *
 have L1:((bE (o,mn t1 t2)).1.length:Int)=A1.length:=by rw [D1.1]
 have L2:((bE ((bE (o,mn t1 t2)).2,mx t1 t2)).1.length:Int)=A2.length:=by rw [D2.1]
 have L4:((bE (o',mx t1 t2)).1.length:Int)=A3.length:=by rw [D4.1]
 refine ⟨r.duePre (by omega) _,D1.2.duePre (by omega) _,r'.duePre (by omega) _,by simp only; omega,by simp only; omega,fun c=>absurd (by simp only; omega) c,fun _=>⟨D2.2.duePre (by omega) _,fun c=>absurd (by simp only; rw [D3.1,hn3]; rfl) c,fun _=>⟨fun c=>absurd (D3.2.lenE.trans (by rw [D4.2.lenE,hq3])) c,fun _=>?_⟩⟩⟩
 refine ⟨fun y=>y.1=A1∧y.2.1=A2∧y.2.2.1=A3∧y.2.2.2.1=(A3.length:Int)∧0≤y.2.2.2.2∧y.2.2.2.2≤(A3.length:Int),fun y=>A3.length - y.2.2.2.2.toNat,⟨D1.1,D2.1,D4.1,L4,by simp only; omega,by simp only; omega⟩,fun y hy=>?_⟩
 obtain ⟨u,v,w,n,j⟩:=y
 obtain ⟨k1,k2,k3,k4,k5,k6⟩:=hy
 simp only at k1 k2 k3 k4 k5 k6
 subst k1 k2 k3 k4
 refine ⟨fun hlt=>?_,fun _=>rfl⟩
 simp only at hlt
 have hmem:=aLK k5 hlt
 have hnd:w.Nodup:=List.Pairwise.imp (fun {x y} hxy e=>by
  rw [e,n6] at hxy
  cases hxy) hrise
 have hone:=aI3 hnd hmem
 have hcnt:rF (at_ w j) u+rF (at_ w j) v=1:=by
  have:=(hp.filter fun x=>decide (x=at_ w j)).length_eq
  rw [List.filter_append,List.length_append] at this
  unfold rF at hone ⊢
  omega
 refine ⟨fun y=>y.1=u∧y.2.1=v∧y.2.2.1=w∧y.2.2.2.1=j∧y.2.2.2.2.2.1=(w.length:Int)∧y.2.2.2.2.2.2.1=j∧y.2.2.2.2.2.2.2.1=(u.length:Int)∧0≤y.2.2.2.2.2.2.2.2∧y.2.2.2.2.2.2.2.2≤(u.length:Int)∧y.2.2.2.2.1=(rF (at_ w j) (u.take y.2.2.2.2.2.2.2.2.toNat):Int),
  fun y=>u.length - y.2.2.2.2.2.2.2.2.toNat,⟨rfl,rfl,rfl,rfl,rfl,rfl,rfl,by simp only; omega,by simp only; omega,rfl⟩,fun y hy=>?_⟩
 obtain ⟨u',v',w',j1,f,n',j2,m,k⟩:=y
 obtain ⟨e1,e2,e3,e4,e5,e6,e7,e8,e9,e10⟩:=hy
 simp only at e1 e2 e3 e4 e5 e6 e7 e8 e9 e10
 subst e1 e2 e3 e4 e5 e6 e7 e10
 have hc1:=aAZ (at_ w' j2) (u'.take k.toNat)
 rw [List.length_take] at hc1
 refine ⟨fun hlt2=>?_,fun hge2=>?_⟩
 ·simp only at hlt2
  have hk:(k+1).toNat=k.toNat+1:=by omega
  refine ⟨e8,hlt2,k5,hlt,fun hc=>⟨by simp only; omega,by simp only; omega,by simp only; omega,by simp only; omega,⟨rfl,rfl,rfl,rfl,rfl,rfl,rfl,by simp only; omega,by simp only; omega,?_⟩,by simp only; omega⟩,
   fun hc=>⟨by simp only; omega,by simp only; omega,⟨rfl,rfl,rfl,rfl,rfl,rfl,rfl,by simp only; omega,by simp only; omega,?_⟩,by simp only; omega⟩⟩
  ·simp only at hc ⊢
   rw [hk,kN (by omega),nY,← jW,if_pos hc]
   omega
  ·simp only at hc ⊢
   rw [hk,kN (by omega),nY,← jW,if_neg hc]
 simp only at hge2
 rw [aD5 e8 e9 hge2] at hc1 ⊢
 refine ⟨fun y=>y.1=u'∧y.2.1=v'∧y.2.2.1=w'∧y.2.2.2.1=j2∧y.2.2.2.2.2.1=(w'.length:Int)∧y.2.2.2.2.2.2.1=j2∧y.2.2.2.2.2.2.2.1=(v'.length:Int)∧0≤y.2.2.2.2.2.2.2.2∧y.2.2.2.2.2.2.2.2≤(v'.length:Int)∧y.2.2.2.2.1=((rF (at_ w' j2) u'+rF (at_ w' j2) (v'.take y.2.2.2.2.2.2.2.2.toNat):Nat):Int),
  fun y=>v'.length - y.2.2.2.2.2.2.2.2.toNat,⟨rfl,rfl,rfl,rfl,rfl,rfl,rfl,by simp only; omega,by simp only; omega,rfl⟩,fun y hy=>?_⟩
 obtain ⟨u1,v1,w1,j3,f1,n1,j4,m1,k1⟩:=y
 obtain ⟨d1,d2,d3,d4,d5,d6,d7,d8,d9,d10⟩:=hy
 simp only at d1 d2 d3 d4 d5 d6 d7 d8 d9 d10
 subst d1 d2 d3 d4 d5 d6 d7 d10
 have hc2:=aAZ (at_ w1 j4) (v1.take k1.toNat)
 have hc3:=aAZ (at_ w1 j4) u1
 rw [List.length_take] at hc2
 refine ⟨fun hlt3=>?_,fun hge3=>?_⟩
 ·simp only at hlt3
  have hk:(k1+1).toNat=k1.toNat+1:=by omega
  refine ⟨d8,hlt3,k5,hlt,fun hc=>⟨by simp only; omega,by simp only; omega,by simp only; omega,by simp only; omega,⟨rfl,rfl,rfl,rfl,rfl,rfl,rfl,by simp only; omega,by simp only; omega,?_⟩,by simp only; omega⟩,
   fun hc=>⟨by simp only; omega,by simp only; omega,⟨rfl,rfl,rfl,rfl,rfl,rfl,rfl,by simp only; omega,by simp only; omega,?_⟩,by simp only; omega⟩⟩
  ·simp only at hc ⊢
   rw [hk,kN (by omega),nY,← jW,if_pos hc]
   omega
  ·simp only at hc ⊢
   rw [hk,kN (by omega),nY,← jW,if_neg hc]
 simp only at hge3
 rw [aD5 d8 d9 hge3] at hc2 ⊢
 refine ⟨fun c=>absurd (by simp only; omega) c,fun _=>⟨fun hj0=>?_,fun _=>⟨by simp only; omega,by simp only; omega,⟨rfl,rfl,rfl,rfl,by simp only; omega,by simp only; omega⟩,by simp only; omega⟩⟩⟩
 simp only at hj0
 refine ⟨by simp only; omega,by simp only; omega,by simp only; omega,by simp only; omega,by simp only; omega,by simp only; omega,fun c=>absurd ?_ c,fun _=>⟨by simp only; omega,by simp only; omega,⟨rfl,rfl,rfl,rfl,by simp only; omega,by simp only; omega⟩,by simp only; omega⟩⟩
 have:=List.pairwise_iff_getElem.1 hrise (j4 - 1).toNat j4.toNat (by omega) (by omega) (by omega)
 simp only
 rw [jW,jW,lE (by omega),lE (by omega)]
 exact this
end Go.Abs
