/- Functions, and what the code asks of them: PBucketLaw3. -/
import Derived.KernelRfl
import Derived.Test.YtcmjinkfgbadoaaBucketOrderP4
import Derived.Test.YtcmjinkfgbadoaaBucketOrderP5
import Derived.Test.YtcmjinkfgbadoaaBucketOrderP6
import Derived.Test.YtcmjinkfgbadoaaBucketOrderP7
import Derived.Test.YtcmjinkfgbadoaaBucketOrderP8
import Derived.Test.YtcmjinkfgbadoaaBucketOrderP9
import Derived.Test.YtcmjinkfgbadoaaBucketOrderP10
import Derived.Test.YtcmjinkfgbadoaaBucketOrderP11
import Derived.Test.YtcmjinkfgbadoaaBucketOrderP12
import Derived.Test.YtcmjinkfgbadoaaBucketOrderP15
import Derived.Test.YtcmjinkfgbadoaaBucketOrderP16
import Derived.Test.YtcmjinkfgbadoaaBucketOrderP17
import Derived.Test.YtcmjinkfgbadoaaBucketOrderP18
import Derived.Test.YtcmjinkfgbadoaaBucketOrderP20
import Derived.Test.YtcmjinkfgbadoaaBucketOrderP21
import Derived.Test.YtcmjinkfgbadoaaBucketOrderP22
import Derived.Test.YtcmjinkfgbadoaaBucketOrderP23
import Derived.Test.YtcmjinkfgbadoaaBucketOrderP24
set_option maxRecDepth 100000
set_option maxHeartbeats 4000000
set_option linter.unusedVariables false
set_option linter.unusedSimpArgs false
set_option linter.unusedSectionVars false
-- interregnum/interregnumlaw17.BucketOrder
namespace Go.Abs
open Go
def f274.wf (a:(List (aF))×aC):Prop:=b6.ok a.1∧cX.ok a.2
def f274.size (a:(List (aF))×aC):Nat:=b6.size a.1+cX.size a.2
def f274.lpre (a:(List (aF))×aC):Prop:=f274.wf a∧f274.size a≤1048576
def f274.args (a:(List (aF))×aC):List D:=[.slice .ro 5 a.1.length (gl aZ a.1),.agg [.int .i64 a.2.1,.int .i64 a.2.2.1,.int .i64 a.2.2.2]]
def f274.blks (a:(List (aF))×aC):List (List D):=[]
def f274.res (a:(List (aF))×aC):List D:=[.bool (bM a)]
def f274.blks' (a:(List (aF))×aC):List (List D):=[]
def f274.C:aO:=FnC f274.args f274.blks (fun a=>f274.lpre a) f274.res f274.blks'
set_option linter.unusedVariables false
def f274.S0 (a:(List (aF))×aC) (x:Int×(Nat×Ob aC)×(Nat×Ob aC)):Tm:=⟨.slice .ro 5 a.1.length (gl aZ a.1)::.dead::.dead::.ptr 0 0::.dead::.ptr 20 0::.ptr 24 0::dd 25 (.int .i64 (a.1.length:Int)::.int .i64 x.1::dd 116 []),[(0,false,[.int .i64 a.2.1,.int .i64 a.2.2.1,.int .i64 a.2.2.2]),(20,false,[.dead,.obj 66 x.2.1.1 0 x.2.1.2.nl x.2.1.2.n x.2.1.2.ks (ovs aD x.2.1.2)]),(24,false,[.dead,.obj 66 x.2.2.1 0 x.2.2.2.nl x.2.2.2.n x.2.2.2.ks (ovs aD x.2.2.2)])],[]⟩
def f274.S1 (a:(List (aF))×aC) (x:Int×(Nat×Ob aC)×(Nat×Ob aC)):Tm:=⟨.slice .ro 5 a.1.length (gl aZ a.1)::.dead::.dead::.ptr 0 0::.dead::.ptr 20 0::.ptr 24 0::.dead::.int .i64 x.1::dd 141 [],[(0,false,[.int .i64 a.2.1,.int .i64 a.2.2.1,.int .i64 a.2.2.2]),(20,false,[.dead,.obj 66 x.2.1.1 0 x.2.1.2.nl x.2.1.2.n x.2.1.2.ks (ovs aD x.2.1.2)]),(24,false,[.dead,.obj 66 x.2.2.1 0 x.2.2.2.nl x.2.2.2.n x.2.2.2.ks (ovs aD x.2.2.2)])],[]⟩
def f274.S2 (a:(List (aF))×aC) (x:(List (ByteArray))×Int×Int×(Nat×Ob aC)):Tm:=⟨.dead::.dead::.dead::.ptr 0 0::.dead::.ptr 20 0::.dead::.dead::.dead::.dead::.dead::.slice .ro 1 x.1.length (gl aA x.1)::dd 85 (.int .i64 x.2.1::.int .i64 x.2.2.1::dd 51 []),[(0,false,[.int .i64 a.2.1,.int .i64 a.2.2.1,.int .i64 a.2.2.2]),(20,false,[.dead,.obj 66 x.2.2.2.1 0 x.2.2.2.2.nl x.2.2.2.2.n x.2.2.2.2.ks (ovs aD x.2.2.2.2)])],[]⟩
def f274.l1 (a:(List (aF))×aC) (K:(Int×(Nat×Ob aC)×(Nat×Ob aC))→Prop) (t:Int×(Nat×Ob aC)×(Nat×Ob aC)):Prop:=∃ x:Int×(Nat×Ob aC)×(Nat×Ob aC),SlS aZ a.1 ((t.1=x.1)∧(a.2.1=a.2.1)∧(a.2.2.1=a.2.2.1)∧(a.2.2.2=a.2.2.2)∧ObQ t.2.1.1 x.2.1.1 t.2.1.2.nl x.2.1.2.nl t.2.1.2.n x.2.1.2.n t.2.1.2.ks x.2.1.2.ks (ovs aD t.2.1.2) (ovs aD x.2.1.2) (ObQ t.2.2.1 x.2.2.1 t.2.2.2.nl x.2.2.2.nl t.2.2.2.n x.2.2.2.n t.2.2.2.ks x.2.2.2.ks (ovs aD t.2.2.2) (ovs aD x.2.2.2) (K x)))
theorem f274.l1i (a:(List (aF))×aC) {K:(Int×(Nat×Ob aC)×(Nat×Ob aC))→Prop} {t:Int×(Nat×Ob aC)×(Nat×Ob aC)} (h:K t):f274.l1 a K t:=⟨t,SlS.mk  (⟨rfl,⟨rfl,⟨rfl,⟨rfl,obQ rfl (OV.self (e:=aD)) rfl (obQ rfl (OV.self (e:=aD)) rfl (h))⟩⟩⟩⟩)⟩
def f274.l2 (a:(List (aF))×aC) (K:((List (ByteArray))×Int×Int×(Nat×Ob aC))→Prop) (t:(List (ByteArray))×Int×Int×(Nat×Ob aC)):Prop:=∃ x:(List (ByteArray))×Int×Int×(Nat×Ob aC),SlQ t.1.length x.1.length (gl aA t.1) (gl aA x.1) ((t.2.1=x.2.1)∧(t.2.2.1=x.2.2.1)∧(a.2.1=a.2.1)∧(a.2.2.1=a.2.2.1)∧(a.2.2.2=a.2.2.2)∧ObQ t.2.2.2.1 x.2.2.2.1 t.2.2.2.2.nl x.2.2.2.2.nl t.2.2.2.2.n x.2.2.2.2.n t.2.2.2.2.ks x.2.2.2.2.ks (ovs aD t.2.2.2.2) (ovs aD x.2.2.2.2) (K x))
theorem f274.l2i (a:(List (aF))×aC) {K:((List (ByteArray))×Int×Int×(Nat×Ob aC))→Prop} {t:(List (ByteArray))×Int×Int×(Nat×Ob aC)} (h:K t):f274.l2 a K t:=⟨t,slQ (rS aA) (⟨rfl,⟨rfl,⟨rfl,⟨rfl,⟨rfl,obQ rfl (OV.self (e:=aD)) rfl (h)⟩⟩⟩⟩⟩)⟩
def f274.kills (a:(List (aF))×aC):List Hint:=[.tell (Int×(Nat×Ob aC)×(Nat×Ob aC)) (f274.S0 a),
 .tell (Int×(Nat×Ob aC)×(Nat×Ob aC)) (f274.S1 a),
 .tell ((List (ByteArray))×Int×Int×(Nat×Ob aC)) (f274.S2 a)]
def f274.cuts (a:(List (aF))×aC):List (Nat×Σ β:Type,β→Tm):=[(3000005000004,⟨Unit,fun x=>⟨[],[],[]⟩⟩),
 (3000006000005,⟨Unit,fun x=>⟨[],[],[]⟩⟩)]
def f274.af (a:(List (aF))×aC):AF:=AF.mk (.seq (.region [oT 3 0 .box [1],
 ⟨(some 4),1,.move,[.c (.bool false)],none⟩])
 (.seq (.seq (.region [oT 15 2 (.call false 305) [],
 oT 16 6 (.un .not) [15],
 mT 17 7 16,
 oG 18 8 .move [0] 17 false,
 oG 19 9 (.call false 306) [18] 17 false,
 oG 20 13 (.un .not) [19] 17 false,
 ⟨(some 21),14,.pick,[.t 17,.c (.bool true),.t 20],none⟩])
 (.cond (.t 21) (.seq (.region [oT 22 15 (.call false 305) [],
 mT 4 19 22])
 (.ret)) (.skip)))
 (.seq (.region [oT 23 20 (.call false 143) [],
 oT 24 24 (.call false 143) [],
 mT 5 28 23,
 mT 6 29 24])
 (.seq (.toObj 0 0 5) (.seq (.seq (.region [mT 25 30 5,
 oT 26 31 (.isNil true false) [25],
 mT 27 32 26,
 oG 28 33 .move [6] 27 false,
 oG 29 34 (.isNil true false) [28] 27 false,
 ⟨(some 30),35,.pick,[.t 27,.c (.bool true),.t 29],none⟩])
 (.cond (.t 30) (.seq (.region [⟨(some 4),36,.move,[.c (.bool false)],none⟩])
 (.ret)) (.skip)))
 (.seq (.toObj 0 0 6) (.seq (.seq (.region [mT 31 37 0,
 oT 32 38 (.len false) [31],
 ⟨(some 33),39,.move,[.c (.int .i64 (0))],none⟩])
 (.block 0 (.loopT (Int×(Nat×Ob aC)×(Nat×Ob aC)) (f274.S0 a) 40 60 (.seq (.region [oT 34 40 (.bin .lss) [33,32]])
 (.seq (.cond (.t 34) (.skip) (.exit 0))
 (.seq (.block 1 (.seq (.region [mT 35 41 33,
 mT 7 42 35])
 (.region [mT 36 43 5,
 mT 37 44 0,
 mT 38 45 7,
 oT 39 46 (.indexAddr 5 none) [37,38],
 oT 40 47 (.fieldAddr 1) [39],
 oT 41 48 (.load false 1) [40],
 mT 42 49 0,
 mT 43 50 7,
 oT 44 51 (.indexAddr 5 none) [42,43],
 oT 45 52 (.fieldAddr 2) [44],
 oT 46 53 (.load true 3) [45],
 oT 47 54 (.call true 145) [36,41,46]])))
 (.region [⟨(some 48),58,(.bin .add),[.t 33,.c (.int .i64 (1))],none⟩,
 mT 33 59 48])))))))
 (.seq (.seq (.region [mT 49 60 0,
 oT 50 61 (.len false) [49],
 ⟨(some 51),62,(.bin .sub),[.t 50,.c (.int .i64 (1))],none⟩,
 mT 8 63 51])
 (.block 2 (.loopT (Int×(Nat×Ob aC)×(Nat×Ob aC)) (f274.S1 a) 64 105 (.seq (.seq (.region [mT 52 64 8,
 ⟨(some 53),65,(.bin .geq),[.t 52,.c (.int .i64 (0))],none⟩])
 (.cond (.t 53) (.skip) (.exit 2)))
 (.seq (.block 3 (.seq (.region [mT 57 66 6,
 mT 58 67 0,
 mT 59 68 8,
 oT 60 69 (.indexAddr 5 none) [58,59],
 oT 61 70 (.fieldAddr 1) [60],
 oT 62 71 (.load false 1) [61],
 oT 63 72 (.call true 192) [57,62],
 mT 56 76 63,
 oT 64 77 (.extract 0) [56],
 oT 65 78 (.extract 1) [56],
 oT 9 79 (.alloc [.int .i64 (0),.int .i64 (0),.int .i64 (0)]) [],
 ⟨none,83,(.store 3),[.t 9,.t 64],none⟩,
 mT 10 84 65])
 (.seq (.region [mT 66 85 10,
 oT 67 86 (.un .not) [66]])
 (.cond (.t 67) (.region [mT 68 87 6,
 mT 69 88 0,
 mT 70 89 8,
 oT 71 90 (.indexAddr 5 none) [69,70],
 oT 72 91 (.fieldAddr 1) [71],
 oT 73 92 (.load false 1) [72],
 mT 74 93 0,
 mT 75 94 8,
 oT 76 95 (.indexAddr 5 none) [74,75],
 oT 77 96 (.fieldAddr 2) [76],
 oT 78 97 (.load true 3) [77],
 oT 79 98 (.call true 145) [68,73,78]]) (.skip)))))
 (.region [mT 54 102 8,
 ⟨(some 55),103,(.bin .sub),[.t 54,.c (.int .i64 (1))],none⟩,
 mT 8 104 55]))))))
 (.seq (.region [mT 80 105 5,
 oT 81 106 (.load true 3) [3],
 oT 82 107 (.call true 148) [80,81],
 mT 11 111 82])
 (.seq (.seq (.region [mT 83 112 11,
 mT 84 113 6,
 oT 85 114 (.load true 3) [3],
 oT 86 115 (.call true 148) [84,85],
 oT 87 119 (.call false 150) [83,86],
 oT 88 123 (.un .not) [87],
 mT 89 124 88,
 oG 90 125 .move [5] 89 false,
 oG 91 126 (.call true 261) [90] 89 false,
 oG 92 130 .move [6] 89 false,
 oG 93 131 (.call true 261) [92] 89 false,
 oG 94 135 (.bin .neq) [91,93] 89 false,
 ⟨(some 95),136,.pick,[.t 89,.c (.bool true),.t 94],none⟩])
 (.cond (.t 95) (.seq (.region [⟨(some 4),137,.move,[.c (.bool false)],none⟩])
 (.ret)) (.skip)))
 (.seq (.seq (.region [mT 96 138 11,
 oT 97 139 (.len false) [96],
 ⟨(some 98),140,.move,[.c (.int .i64 (0))],none⟩])
 (.block 4 (.loopT ((List (ByteArray))×Int×Int×(Nat×Ob aC)) (f274.S2 a) 141 204 (.seq (.region [oT 99 141 (.bin .lss) [98,97]])
 (.seq (.cond (.t 99) (.skip) (.exit 4))
 (.seq (.block 5 (.seq (.region [mT 100 142 98,
 mT 12 143 100])
 (.seq (.region [mT 102 144 5,
 mT 103 145 11,
 mT 104 146 12,
 oT 105 147 (.indexAddr 1 none) [103,104],
 oT 106 148 (.load false 1) [105],
 oT 107 149 (.call true 192) [102,106],
 mT 101 153 107,
 oT 108 154 (.extract 0) [101],
 oT 109 155 (.extract 1) [101],
 oT 13 156 (.alloc [.int .i64 (0),.int .i64 (0),.int .i64 (0)]) [],
 ⟨none,160,(.store 3),[.t 13,.t 108],none⟩,
 mT 14 161 109])
 (.seq (.region [mT 110 162 14,
 oT 111 163 (.un .not) [110],
 mT 112 164 111,
 ⟨(some 113),165,(.indexAddr 1 (some 3)),[.t 3,.c (.int .i64 (0))],(some (112,false))⟩,
 oG 114 166 (.load false 1) [113] 112 false,
 ⟨(some 115),167,(.indexAddr 1 (some 3)),[.t 13,.c (.int .i64 (0))],(some (112,false))⟩,
 oG 116 168 (.load false 1) [115] 112 false,
 oG 117 169 (.bin .gtr) [114,116] 112 false,
 ⟨(some 118),170,.pick,[.t 112,.c (.bool true),.t 117],none⟩,
 mT 119 171 118,
 ⟨(some 120),172,(.indexAddr 1 (some 3)),[.t 3,.c (.int .i64 (1))],(some (119,false))⟩,
 oG 121 173 (.load false 1) [120] 119 false,
 ⟨(some 122),174,(.indexAddr 1 (some 3)),[.t 13,.c (.int .i64 (1))],(some (119,false))⟩,
 oG 123 175 (.load false 1) [122] 119 false,
 oG 124 176 (.bin .gtr) [121,123] 119 false,
 ⟨(some 125),177,.pick,[.t 119,.c (.bool true),.t 124],none⟩,
 mT 126 178 125,
 ⟨(some 127),179,(.indexAddr 1 (some 3)),[.t 3,.c (.int .i64 (2))],(some (126,false))⟩,
 oG 128 180 (.load false 1) [127] 126 false,
 ⟨(some 129),181,(.indexAddr 1 (some 3)),[.t 13,.c (.int .i64 (2))],(some (126,false))⟩,
 oG 130 182 (.load false 1) [129] 126 false,
 oG 131 183 (.bin .gtr) [128,130] 126 false,
 ⟨(some 132),184,.pick,[.t 126,.c (.bool true),.t 131],none⟩,
 mT 133 185 132,
 oG 134 186 .move [12] 133 false,
 ⟨(some 135),187,(.bin .gtr),[.t 134,.c (.int .i64 (0))],(some (133,false))⟩,
 oG 136 188 .move [135] 133 false,
 oG 137 189 .move [11] 136 true,
 oG 138 190 .move [12] 136 true,
 ⟨(some 139),191,(.bin .sub),[.t 138,.c (.int .i64 (1))],(some (136,true))⟩,
 oG 140 192 (.indexAddr 1 none) [137,139] 136 true,
 oG 141 193 (.load false 1) [140] 136 true,
 oG 142 194 .move [11] 136 true,
 oG 143 195 .move [12] 136 true,
 oG 144 196 (.indexAddr 1 none) [142,143] 136 true,
 oG 145 197 (.load false 1) [144] 136 true,
 oG 146 198 (.bin .geq) [141,145] 136 true,
 ⟨(some 147),199,.pick,[.t 136,.t 146,.c (.bool false)],(some (133,false))⟩,
 ⟨(some 148),200,.pick,[.t 133,.c (.bool true),.t 147],none⟩])
 (.cond (.t 148) (.seq (.region [⟨(some 4),201,.move,[.c (.bool false)],none⟩])
 (.ret)) (.skip))))))
 (.region [⟨(some 149),202,(.bin .add),[.t 98,.c (.int .i64 (1))],none⟩,
 mT 98 203 149])))))))
 (.seq (.region [⟨(some 4),204,.move,[.c (.bool true)],none⟩])
 (.ret)))))))))))))
 [.tmp 4] 0 148
def f274.env:Env:=[(305,f305.C),(306,f306.C),(143,f143.C),(145,f145.C),(192,f192.C),(148,f148.C),(150,f150.C),(261,f261.C)]
def f274.tree (a:(List (aF))×aC):Prop:=∃ c1:Unit,True∧Br (!(bM c1)) (∃ c4:Unit,True∧((bM c4)=(bM a))∧True) (f306.ent (fun c7=>(L20 c7)∧Br (!(jZ c7)) (∃ c10:Unit,True∧((bM c10)=(bM a))∧True) (∃ c13:Unit,True∧∃ c14:Unit,True∧∃ (I16:(Int×(Nat×Ob aC)×(Nat×Ob aC))→Prop) (μ17:(Int×(Nat×Ob aC)×(Nat×Ob aC))→Nat),(∃ x15:Int×(Nat×Ob aC)×(Nat×Ob aC),SlS aZ a.1 (((a.1.length:Int)=(a.1.length:Int))∧((0:Int)=x15.1)∧(a.2.1=a.2.1)∧(a.2.2.1=a.2.2.1)∧(a.2.2.2=a.2.2.2)∧ObQ 0 x15.2.1.1 (ob0 aC).nl x15.2.1.2.nl (ob0 aC).n x15.2.1.2.n (ob0 aC).ks x15.2.1.2.ks (fun _ _=>[]) (ovs aD x15.2.1.2) (ObQ 0 x15.2.2.1 (ob0 aC).nl x15.2.2.2.nl (ob0 aC).n x15.2.2.2.n (ob0 aC).ks x15.2.2.2.ks (fun _ _=>[]) (ovs aD x15.2.2.2) (I16 x15))))∧∀ y18:Int×(Nat×Ob aC)×(Nat×Ob aC),I16 y18→(Br (decide (y18.1 < (a.1.length:Int))) (Br (decide ((0:Int)≤y18.1)&&decide (y18.1 < (a.1.length:Int))) (Br (decide ((0:Int)≤y18.1)&&decide (y18.1 < (a.1.length:Int))) (∃ c23:(Ob aC)×ByteArray×aC,(((at_ a.1 y18.1).2.1)=c23.2.1)∧((((at_ a.1 y18.1).2.2).1)=c23.2.2.1)∧((((at_ a.1 y18.1).2.2).2.1)=c23.2.2.2.1)∧((((at_ a.1 y18.1).2.2).2.2)=c23.2.2.2.2)∧ObQ 0 0 y18.2.1.2.nl c23.1.nl y18.2.1.2.n c23.1.n y18.2.1.2.ks c23.1.ks (ovs aD y18.2.1.2) (ovs aD c23.1) (True∧Let (wI (y18.1+(1:Int))) (fun v24:Int=>∃ x25:Int×(Nat×Ob aC)×(Nat×Ob aC),SlS aZ a.1 (((a.1.length:Int)=(a.1.length:Int))∧(v24=x25.1)∧(a.2.1=a.2.1)∧(a.2.2.1=a.2.2.1)∧(a.2.2.2=a.2.2.2)∧ObQ (y18.2.1.1+1) x25.2.1.1 (putX c23).nl x25.2.1.2.nl (putX c23).n x25.2.1.2.n (putX c23).ks x25.2.1.2.ks (ovs aD (putX c23)) (ovs aD x25.2.1.2) (ObQ y18.2.2.1 x25.2.2.1 y18.2.2.2.nl x25.2.2.2.nl y18.2.2.2.n x25.2.2.2.n y18.2.2.2.ks x25.2.2.2.ks (ovs aD y18.2.2.2) (ovs aD x25.2.2.2) (I16 x25∧μ17 x25 < μ17 y18)))))) False) False) (Let (wI ((a.1.length:Int) - (1:Int))) (fun v33:Int=>∃ (I35:(Int×(Nat×Ob aC)×(Nat×Ob aC))→Prop) (μ36:(Int×(Nat×Ob aC)×(Nat×Ob aC))→Nat),(f274.l1 a I35 (v33,(y18.2.1.1,y18.2.1.2),(y18.2.2.1,y18.2.2.2)))∧∀ y37:Int×(Nat×Ob aC)×(Nat×Ob aC),I35 y37→(Br (decide ((0:Int)≤y37.1)) (Br (decide ((0:Int)≤y37.1)&&decide (y37.1 < (a.1.length:Int))) (∃ c41:(Ob aC)×ByteArray,(((at_ a.1 y37.1).2.1)=c41.2)∧ObQ 0 0 y37.2.2.2.nl c41.1.nl y37.2.2.2.n c41.1.n y37.2.2.2.ks c41.1.ks (ovs aD y37.2.2.2) (ovs aD c41.1) (True∧Br (!((getX c41).2.1)) (Br (decide ((0:Int)≤y37.1)&&decide (y37.1 < (a.1.length:Int))) (Br (decide ((0:Int)≤y37.1)&&decide (y37.1 < (a.1.length:Int))) (∃ c46:(Ob aC)×ByteArray×aC,(((at_ a.1 y37.1).2.1)=c46.2.1)∧((((at_ a.1 y37.1).2.2).1)=c46.2.2.1)∧((((at_ a.1 y37.1).2.2).2.1)=c46.2.2.2.1)∧((((at_ a.1 y37.1).2.2).2.2)=c46.2.2.2.2)∧ObQ 0 0 ((getX c41).2.2).nl c46.1.nl ((getX c41).2.2).n c46.1.n ((getX c41).2.2).ks c46.1.ks (ovs aD ((getX c41).2.2)) (ovs aD c46.1) (True∧Let (wI (y37.1 - (1:Int))) (fun v47:Int=>f274.l1 a (Dn I35 μ36 y37) (v47,(y37.2.1.1,y37.2.1.2),((y37.2.2.1+1)+1,(putX c46)))))) False) False) (Let (wI (y37.1 - (1:Int))) (fun v56:Int=>f274.l1 a (Dn I35 μ36 y37) (v56,(y37.2.1.1,y37.2.1.2),(y37.2.2.1+1,(getX c41).2.2)))))) False) (∃ c66:(Ob aC)×aC,(a.2.1=c66.2.1)∧(a.2.2.1=c66.2.2.1)∧(a.2.2.2=c66.2.2.2)∧ObQ 0 0 y37.2.1.2.nl c66.1.nl y37.2.1.2.n c66.1.n y37.2.1.2.ks c66.1.ks (ovs aD y37.2.1.2) (ovs aD c66.1) ((fD c66)∧∃ c67:(Ob aC)×aC,(a.2.1=c67.2.1)∧(a.2.2.1=c67.2.2.1)∧(a.2.2.2=c67.2.2.2)∧ObQ 0 0 y37.2.2.2.nl c67.1.nl y37.2.2.2.n c67.1.n y37.2.2.2.ks c67.1.ks (ovs aD y37.2.2.2) (ovs aD c67.1) ((fD c67)∧f150.ent (fun c68=>(oH c68)∧Br (!(gU c68)) ((false=(bM a))∧True) (∃ c72:Ob aC,ObQ 0 0 ((bO c66).2).nl c72.nl ((bO c66).2).n c72.n ((bO c66).2).ks c72.ks (ovs aD ((bO c66).2)) (ovs aD c72) (True∧∃ c73:Ob aC,ObQ 0 0 ((bO c67).2).nl c73.nl ((bO c67).2).n c73.n ((bO c67).2).ks c73.ks (ovs aD ((bO c67).2)) (ovs aD c73) (True∧Br (((lenX c72).1) != ((lenX c73).1)) ((false=(bM a))∧True) (∃ (I78:((List (ByteArray))×Int×Int×(Nat×Ob aC))→Prop) (μ79:((List (ByteArray))×Int×Int×(Nat×Ob aC))→Nat),(f274.l2 a I78 ((bO c66).1,(((bO c66).1).length:Int),(0:Int),((y37.2.1.1+1)+1,(lenX c72).2)))∧∀ y80:(List (ByteArray))×Int×Int×(Nat×Ob aC),I78 y80→(Br (decide (y80.2.2.1 < y80.2.1)) (Br (decide ((0:Int)≤y80.2.2.1)&&decide (y80.2.2.1 < (y80.1.length:Int))) (∃ c84:(Ob aC)×ByteArray,((at_ y80.1 y80.2.2.1)=c84.2)∧ObQ 0 0 y80.2.2.2.2.nl c84.1.nl y80.2.2.2.2.n c84.1.n y80.2.2.2.2.ks c84.1.ks (ovs aD y80.2.2.2.2) (ovs aD c84.1) (True∧Br (!((getX c84).2.1)) ((false=(bM a))∧True) (Br (decide ((((getX c84).1).1) < a.2.1)) ((false=(bM a))∧True) (Br (decide ((((getX c84).1).2.1) < a.2.2.1)) ((false=(bM a))∧True) (Br (decide ((((getX c84).1).2.2) < a.2.2.2)) ((false=(bM a))∧True) (Br (decide ((0:Int) < y80.2.2.1)) (Let (wI (y80.2.2.1 - (1:Int))) (fun v99:Int=>Br (decide ((0:Int)≤v99)&&decide (v99 < (y80.1.length:Int))) (Br (decide ((0:Int)≤y80.2.2.1)&&decide (y80.2.2.1 < (y80.1.length:Int))) (Br (!(Op.bytesLess (at_ y80.1 v99).toList (at_ y80.1 y80.2.2.1).toList)) ((false=(bM a))∧True) (Let (wI (y80.2.2.1+(1:Int))) (fun v105:Int=>f274.l2 a (Dn I78 μ79 y80) (y80.1,y80.2.1,v105,(y80.2.2.2.1+1,(getX c84).2.2))))) False) False)) (Let (wI (y80.2.2.1+(1:Int))) (fun v118:Int=>f274.l2 a (Dn I78 μ79 y80) (y80.1,y80.2.1,v118,(y80.2.2.2.1+1,(getX c84).2.2)))))))))) False) ((true=(bM a))∧True))))))) ((bO c66).1,(bO c67).1)))))))))) a.1)
def f274.vc (a:(List (aF))×aC):Prop:=((¬((bM ())=true)→((bM ())=bM a))∧(¬(¬((bM ())=true))→(L20 a.1∧((¬((jZ (a.1))=true)→((bM ())=bM a))∧(¬(¬((jZ (a.1))=true))→(∃ (I16:(Int×(Nat×Ob aC)×(Nat×Ob aC))→Prop) (μ17:(Int×(Nat×Ob aC)×(Nat×Ob aC))→Nat),I16 ((0:Int),(0,ob0 aC),(0,ob0 aC))∧∀ y18:Int×(Nat×Ob aC)×(Nat×Ob aC),I16 y18→((y18.1 < (a.1.length:Int)→((0:Int)≤y18.1∧y18.1 < (a.1.length:Int)∧((0:Int)≤y18.1∧y18.1 < (a.1.length:Int)∧(-9223372036854775808≤(y18.1+(1:Int))∧(y18.1+(1:Int))≤9223372036854775807∧(I16 ((y18.1+(1:Int)),(y18.2.1.1+1,(putX (y18.2.1.2,(at_ a.1 y18.1).2.1,((at_ a.1 y18.1).2.2)))),(y18.2.2.1,y18.2.2.2))∧μ17 ((y18.1+(1:Int)),(y18.2.1.1+1,(putX (y18.2.1.2,(at_ a.1 y18.1).2.1,((at_ a.1 y18.1).2.2)))),(y18.2.2.1,y18.2.2.2)) < μ17 y18)))))∧(¬(y18.1 < (a.1.length:Int))→(-9223372036854775808≤((a.1.length:Int) - (1:Int))∧((a.1.length:Int) - (1:Int))≤9223372036854775807∧(∃ (I35:(Int×(Nat×Ob aC)×(Nat×Ob aC))→Prop) (μ36:(Int×(Nat×Ob aC)×(Nat×Ob aC))→Nat),I35 (((a.1.length:Int) - (1:Int)),(y18.2.1.1,y18.2.1.2),(y18.2.2.1,y18.2.2.2))∧∀ y37:Int×(Nat×Ob aC)×(Nat×Ob aC),I35 y37→(((0:Int)≤y37.1→((0:Int)≤y37.1∧y37.1 < (a.1.length:Int)∧((¬(((getX (y37.2.2.2,(at_ a.1 y37.1).2.1)).2.1)=true)→((0:Int)≤y37.1∧y37.1 < (a.1.length:Int)∧((0:Int)≤y37.1∧y37.1 < (a.1.length:Int)∧(-9223372036854775808≤(y37.1 - (1:Int))∧(y37.1 - (1:Int))≤9223372036854775807∧(I35 ((y37.1 - (1:Int)),(y37.2.1.1,y37.2.1.2),((y37.2.2.1+1)+1,(putX ((getX (y37.2.2.2,(at_ a.1 y37.1).2.1)).2.2,(at_ a.1 y37.1).2.1,((at_ a.1 y37.1).2.2)))))∧μ36 ((y37.1 - (1:Int)),(y37.2.1.1,y37.2.1.2),((y37.2.2.1+1)+1,(putX ((getX (y37.2.2.2,(at_ a.1 y37.1).2.1)).2.2,(at_ a.1 y37.1).2.1,((at_ a.1 y37.1).2.2))))) < μ36 y37)))))∧(¬(¬(((getX (y37.2.2.2,(at_ a.1 y37.1).2.1)).2.1)=true))→(-9223372036854775808≤(y37.1 - (1:Int))∧(y37.1 - (1:Int))≤9223372036854775807∧(I35 ((y37.1 - (1:Int)),(y37.2.1.1,y37.2.1.2),(y37.2.2.1+1,(getX (y37.2.2.2,(at_ a.1 y37.1).2.1)).2.2))∧μ36 ((y37.1 - (1:Int)),(y37.2.1.1,y37.2.1.2),(y37.2.2.1+1,(getX (y37.2.2.2,(at_ a.1 y37.1).2.1)).2.2)) < μ36 y37))))))∧(¬((0:Int)≤y37.1)→(fD (y37.2.1.2,a.2)∧(fD (y37.2.2.2,a.2)∧(oH ((bO (y37.2.1.2,a.2)).1,(bO (y37.2.2.2,a.2)).1)∧((¬((gU ((bO (y37.2.1.2,a.2)).1,(bO (y37.2.2.2,a.2)).1))=true)→(false=bM a))∧(¬(¬((gU ((bO (y37.2.1.2,a.2)).1,(bO (y37.2.2.2,a.2)).1))=true))→((¬((lenX ((bO (y37.2.1.2,a.2)).2)).1)=((lenX ((bO (y37.2.2.2,a.2)).2)).1)→(false=bM a))∧(¬(¬((lenX ((bO (y37.2.1.2,a.2)).2)).1)=((lenX ((bO (y37.2.2.2,a.2)).2)).1))→(∃ (I78:((List (ByteArray))×Int×Int×(Nat×Ob aC))→Prop) (μ79:((List (ByteArray))×Int×Int×(Nat×Ob aC))→Nat),I78 ((bO (y37.2.1.2,a.2)).1,(((bO (y37.2.1.2,a.2)).1).length:Int),(0:Int),((y37.2.1.1+1)+1,(lenX ((bO (y37.2.1.2,a.2)).2)).2))∧∀ y80:(List (ByteArray))×Int×Int×(Nat×Ob aC),I78 y80→((y80.2.2.1 < y80.2.1→((0:Int)≤y80.2.2.1∧y80.2.2.1 < (y80.1.length:Int)∧((¬(((getX (y80.2.2.2.2,at_ y80.1 y80.2.2.1)).2.1)=true)→(false=bM a))∧(¬(¬(((getX (y80.2.2.2.2,at_ y80.1 y80.2.2.1)).2.1)=true))→(((((getX (y80.2.2.2.2,at_ y80.1 y80.2.2.1)).1).1) < a.2.1→(false=bM a))∧(¬((((getX (y80.2.2.2.2,at_ y80.1 y80.2.2.1)).1).1) < a.2.1)→(((((getX (y80.2.2.2.2,at_ y80.1 y80.2.2.1)).1).2.1) < a.2.2.1→(false=bM a))∧(¬((((getX (y80.2.2.2.2,at_ y80.1 y80.2.2.1)).1).2.1) < a.2.2.1)→(((((getX (y80.2.2.2.2,at_ y80.1 y80.2.2.1)).1).2.2) < a.2.2.2→(false=bM a))∧(¬((((getX (y80.2.2.2.2,at_ y80.1 y80.2.2.1)).1).2.2) < a.2.2.2)→(((0:Int) < y80.2.2.1→(-9223372036854775808≤(y80.2.2.1 - (1:Int))∧(y80.2.2.1 - (1:Int))≤9223372036854775807∧((0:Int)≤(y80.2.2.1 - (1:Int))∧(y80.2.2.1 - (1:Int)) < (y80.1.length:Int)∧((0:Int)≤y80.2.2.1∧y80.2.2.1 < (y80.1.length:Int)∧((¬sLt (at_ y80.1 (y80.2.2.1 - (1:Int))) (at_ y80.1 y80.2.2.1)→(false=bM a))∧(¬(¬sLt (at_ y80.1 (y80.2.2.1 - (1:Int))) (at_ y80.1 y80.2.2.1))→(-9223372036854775808≤(y80.2.2.1+(1:Int))∧(y80.2.2.1+(1:Int))≤9223372036854775807∧(I78 (y80.1,y80.2.1,(y80.2.2.1+(1:Int)),(y80.2.2.2.1+1,(getX (y80.2.2.2.2,at_ y80.1 y80.2.2.1)).2.2))∧μ79 (y80.1,y80.2.1,(y80.2.2.1+(1:Int)),(y80.2.2.2.1+1,(getX (y80.2.2.2.2,at_ y80.1 y80.2.2.1)).2.2)) < μ79 y80))))))))∧(¬((0:Int) < y80.2.2.1)→(-9223372036854775808≤(y80.2.2.1+(1:Int))∧(y80.2.2.1+(1:Int))≤9223372036854775807∧(I78 (y80.1,y80.2.1,(y80.2.2.1+(1:Int)),(y80.2.2.2.1+1,(getX (y80.2.2.2.2,at_ y80.1 y80.2.2.1)).2.2))∧μ79 (y80.1,y80.2.1,(y80.2.2.1+(1:Int)),(y80.2.2.2.1+1,(getX (y80.2.2.2.2,at_ y80.1 y80.2.2.1)).2.2)) < μ79 y80))))))))))))))∧(¬(y80.2.2.1 < y80.2.1)→(true=bM a)))))))))))))))))))))))
theorem f274.of (a:(List (aF))×aC) (h:f274.vc a):f274.tree a:=⟨(),⟨trivial,br h (Cnd.not Cnd.b) (fun h2 k169=>⟨(),⟨trivial,⟨k169,trivial⟩⟩⟩) (fun h3 k170=>(f306.ei ⟨k170.1,br k170.2 (Cnd.not Cnd.b) (fun h8 k166=>⟨(),⟨trivial,⟨k166,trivial⟩⟩⟩) (fun h9 k167=>⟨(),⟨trivial,⟨(),⟨trivial,Exists.elim k167 (fun I16 h161_=>Exists.elim h161_ (fun μ17 h161=>⟨I16,μ17,⟨((0:Int),(0,ob0 aC),(0,ob0 aC)),SlS.mk  (⟨rfl,⟨rfl,⟨rfl,⟨rfl,⟨rfl,obQ rfl (OV.zero (e:=aD)) rfl (obQ rfl (OV.zero (e:=aD)) rfl (h161.1))⟩⟩⟩⟩⟩)⟩,fun y18 h163=>br (h161.2 y18 h163) Cnd.dec (fun h19 k159=>chk k159.2.2 Cnd.ix ⟨k159.1,k159.2.1⟩ (fun h21 k32=>chk k32.2.2 Cnd.ix ⟨k32.1,k32.2.1⟩ (fun h22 k31=>⟨(y18.2.1.2,(at_ a.1 y18.1).2.1,((at_ a.1 y18.1).2.2)),⟨rfl,⟨rfl,⟨rfl,⟨rfl,obQ rfl (OV.self (e:=aD)) rfl (⟨trivial,wrapK.i64 k31 (fun h27 h28 k29=>⟨((y18.1+(1:Int)),(y18.2.1.1+1,(putX (y18.2.1.2,(at_ a.1 y18.1).2.1,((at_ a.1 y18.1).2.2)))),(y18.2.2.1,y18.2.2.2)),SlS.mk  (⟨rfl,⟨rfl,⟨rfl,⟨rfl,⟨rfl,obQ rfl (OV.self (e:=aD)) rfl (obQ rfl (OV.self (e:=aD)) rfl (k29))⟩⟩⟩⟩⟩)⟩)⟩)⟩⟩⟩⟩⟩))) (fun h20 k160=>wrapK.i64 k160 (fun h156 h157 k158=>Exists.elim k158 (fun I35 h153_=>Exists.elim h153_ (fun μ36 h153=>⟨I35,μ36,(f274.l1i a h153.1),fun y37 h155=>br (h153.2 y37 h155) Cnd.dec (fun h38 k151=>chk k151.2.2 Cnd.ix ⟨k151.1,k151.2.1⟩ (fun h40 k65=>⟨(y37.2.2.2,(at_ a.1 y37.1).2.1),⟨rfl,obQ rfl (OV.self (e:=aD)) rfl (⟨trivial,br k65 (Cnd.not Cnd.b) (fun h42 k62=>chk k62.2.2 Cnd.ix ⟨k62.1,k62.2.1⟩ (fun h44 k55=>chk k55.2.2 Cnd.ix ⟨k55.1,k55.2.1⟩ (fun h45 k54=>⟨((getX (y37.2.2.2,(at_ a.1 y37.1).2.1)).2.2,(at_ a.1 y37.1).2.1,((at_ a.1 y37.1).2.2)),⟨rfl,⟨rfl,⟨rfl,⟨rfl,obQ rfl (OV.self (e:=aD)) rfl (⟨trivial,wrapK.i64 k54 (fun h50 h51 k52=>(f274.l1i a k52))⟩)⟩⟩⟩⟩⟩))) (fun h43 k63=>wrapK.i64 k63 (fun h59 h60 k61=>(f274.l1i a k61)))⟩)⟩⟩)) (fun h39 k152=>⟨(y37.2.1.2,a.2),⟨rfl,⟨rfl,⟨rfl,obQ rfl (OV.self (e:=aD)) rfl (⟨k152.1,⟨(y37.2.2.2,a.2),⟨rfl,⟨rfl,⟨rfl,obQ rfl (OV.self (e:=aD)) rfl (⟨k152.2.1,(f150.ei ⟨k152.2.2.1,br k152.2.2.2 (Cnd.not Cnd.b) (fun h69 k146=>⟨k146,trivial⟩) (fun h70 k147=>⟨(bO (y37.2.1.2,a.2)).2,obQ rfl (OV.self (e:=aD)) rfl (⟨trivial,⟨(bO (y37.2.2.2,a.2)).2,obQ rfl (OV.self (e:=aD)) rfl (⟨trivial,br k147 Cnd.ne (fun h74 k142=>⟨k142,trivial⟩) (fun h75 k143=>Exists.elim k143 (fun I78 h139_=>Exists.elim h139_ (fun μ79 h139=>⟨I78,μ79,(f274.l2i a h139.1),fun y80 h141=>br (h139.2 y80 h141) Cnd.dec (fun h81 k137=>chk k137.2.2 Cnd.ix ⟨k137.1,k137.2.1⟩ (fun h83 k135=>⟨(y80.2.2.2.2,at_ y80.1 y80.2.2.1),⟨rfl,obQ rfl (OV.self (e:=aD)) rfl (⟨trivial,br k135 (Cnd.not Cnd.b) (fun h85 k132=>⟨k132,trivial⟩) (fun h86 k133=>br k133 Cnd.dec (fun h88 k130=>⟨k130,trivial⟩) (fun h89 k131=>br k131 Cnd.dec (fun h91 k128=>⟨k128,trivial⟩) (fun h92 k129=>br k129 Cnd.dec (fun h94 k126=>⟨k126,trivial⟩) (fun h95 k127=>br k127 Cnd.dec (fun h97 k124=>wrapK.i64 k124 (fun h115 h116 k117=>chk k117.2.2 Cnd.ix ⟨k117.1,k117.2.1⟩ (fun h100 k114=>chk k114.2.2 Cnd.ix ⟨k114.1,k114.2.1⟩ (fun h101 k113=>br k113 (Cnd.not Cnd.sl_) (fun h102 k111=>⟨k111,trivial⟩) (fun h103 k112=>wrapK.i64 k112 (fun h108 h109 k110=>(f274.l2i a k110))))))) (fun h98 k125=>wrapK.i64 k125 (fun h121 h122 k123=>(f274.l2i a k123)))))))⟩)⟩⟩)) (fun h82 k138=>⟨k138,trivial⟩)⟩)))⟩)⟩⟩)⟩)⟩)⟩)⟩⟩⟩⟩⟩)⟩⟩⟩⟩)⟩))))⟩))⟩⟩⟩⟩)⟩))⟩⟩
theorem f274.eq (a:(List (aF))×aC):(f274.af a).gives f274.env (f274.args a) (f274.blks a) (f274.res a) (f274.blks' a)=f274.tree a:=by kernel_rfl
def nB:List (Int×ByteArray×Rs3)→ByteArray→Option Rs3
 | [],_=>none
 | x::s,k=>match nB s k with
  | some a=>some a
  | none=>if x.2.1=k then some x.2.2 else none
theorem aFK (s:List (Int×ByteArray×Rs3)) (x:Int×ByteArray×Rs3) (k:ByteArray):nB (s++[x]) k=if x.2.1=k then some x.2.2 else nB s k:=by
 induction s with
 | nil=>rfl
 | cons y s ih =>
  simp only [List.cons_append,nB,ih]
  by_cases h:x.2.1=k <;> simp [h]
def IsLast (l:List (ByteArray×Rs3)) (s:List (Int×ByteArray×Rs3)):Prop:=∀ k x,(k,x)∈l↔nB s k=some x
theorem IsLast.nil:IsLast [] []:=fun k x=>⟨fun h=>(by cases h),fun h=>(by cases h)⟩
theorem IsLast.put {l:List (ByteArray×Rs3)} {s:List (Int×ByteArray×Rs3)} (h:IsLast l s) (x:Int×ByteArray×Rs3):IsLast (tG l x.2.1 x.2.2) (s++[x]):=fun k y=>by
 rw [nP,aFK,h k y]
 by_cases e:x.2.1=k
 ·rw [if_pos e]
  constructor
  ·rintro (⟨_,rfl⟩ | ⟨h1,_⟩)
   ·rfl
   ·exact absurd e.symm h1
  ·intro hh
   exact .inl ⟨e.symm,(Option.some.inj hh).symm⟩
 ·rw [if_neg e]
  constructor
  ·rintro (⟨rfl,_⟩ | ⟨_,h2⟩)
   ·exact absurd rfl e
   ·exact h2
  ·intro hh
   exact .inr ⟨fun e'=>e e'.symm,hh⟩
theorem IsLast.front {l:List (ByteArray×Rs3)} {s:List (Int×ByteArray×Rs3)} (h:IsLast l s) (x:Int×ByteArray×Rs3) (hn:¬∃ y,(x.2.1,y)∈l):IsLast (tG l x.2.1 x.2.2) (x::s):=fun k y=>by
 rw [nP,h k y]
 have hno:nB s x.2.1=none:=by
  cases hh:nB s x.2.1 with
  | none=>rfl
  | some z=>exact absurd ⟨z,(h _ _).2 hh⟩ hn
 simp only [nB]
 by_cases e:x.2.1=k
 ·subst e
  rw [hno]
  show _↔(if x.2.1=x.2.1 then some x.2.2 else none)=some y
  rw [if_pos rfl]
  constructor
  ·rintro (⟨_,rfl⟩ | ⟨h1,_⟩)
   ·rfl
   ·exact absurd rfl h1
  ·intro hh
   exact .inl ⟨rfl,(Option.some.inj hh).symm⟩
 ·constructor
  ·rintro (⟨rfl,_⟩ | ⟨_,h2⟩)
   ·exact absurd rfl e
   ·rw [h2]
  ·intro hh
   refine .inr ⟨fun e'=>e e'.symm,?_⟩
   cases h3:nB s k with
   | some z=>rw [h3] at hh; exact hh
   | none=>rw [h3,if_neg e] at hh; cases hh
theorem IsLast.there {l:List (ByteArray×Rs3)} {s:List (Int×ByteArray×Rs3)} (h:IsLast l s) (x:Int×ByteArray×Rs3) (hn:∃ y,(x.2.1,y)∈l):IsLast l (x::s):=fun k y=>by
 rw [h k y]
 obtain ⟨z,hz⟩:=hn
 have hz:=(h _ _).1 hz
 simp only [nB]
 by_cases e:x.2.1=k
 ·subst e
  rw [hz]
 ·cases h3:nB s k with
  | some z=>exact Iff.rfl
  | none=>rw [if_neg e]
theorem uO {A:Type} [Inhabited A]:∀ {l m:List (ByteArray×A)},Rising l→Rising m→(∀ k x,(k,x)∈l↔(k,x)∈m)→l=m
 | [],[],_,_,_=>rfl
 | [],b::m,_,_,h=>by have:=(h b.1 b.2).2 List.mem_cons_self; cases this
 | a::l,[],_,_,h=>by have:=(h a.1 a.2).1 List.mem_cons_self; cases this
 | a::l,b::m,h1,h2,h=>by
  obtain ⟨p1,p2⟩:=List.pairwise_cons.1 h1
  obtain ⟨q1,q2⟩:=List.pairwise_cons.1 h2
  have e:a=b:=by
   rcases List.mem_cons.1 ((h a.1 a.2).1 List.mem_cons_self) with e | e
   ·exact e
   ·rcases List.mem_cons.1 ((h b.1 b.2).2 List.mem_cons_self) with e' | e'
    ·exact e'.symm
    ·have:=oK (p1 _ e') (q1 _ e)
     rw [j8] at this
     cases this
  subst e
  rw [uO p2 q2 fun k x=>?_]
  have hk:=h k x
  rw [List.mem_cons,List.mem_cons] at hk
  constructor
  ·intro hm
   rcases hk.1 (.inr hm) with e | e
   ·have:=p1 _ hm
    rw [← e,j8] at this
    cases this
   ·exact e
  ·intro hm
   rcases hk.2 (.inr hm) with e | e
   ·have:=q1 _ hm
    rw [← e,j8] at this
    cases this
   ·exact e
theorem aGY {l:List (ByteArray×Rs3)} {x:Rs3} {k:ByteArray}:k∈n6 l x↔∃ y,(k,y)∈l∧eJ (x,y)=true:=by
 unfold n6
 rw [List.mem_map]
 constructor
 ·rintro ⟨⟨k',y⟩,h,rfl⟩
  obtain ⟨h1,h2⟩:=List.mem_filter.1 h
  exact ⟨y,h1,h2⟩
 ·rintro ⟨y,h1,h2⟩
  exact ⟨(k,y),List.mem_filter.2 ⟨h1,h2⟩,rfl⟩
theorem aBN {l:List (ByteArray×Rs3)} (h:Rising l) (x:Rs3):(n6 l x).Pairwise fun x y=>slt x y=true:=Rising.names (List.Pairwise.filter _ h)
theorem aHH {α:Type} [Inhabited α] {l:List α} {i:Nat} (h:i < l.length):l.drop i=l.getD i default::l.drop (i+1):=by
 rw [List.drop_eq_getElem_cons h,List.getD_eq_getElem?_getD,List.getElem?_eq_getElem h,Option.getD_some]
theorem aG1 {l:List ByteArray} (h:l.Pairwise fun x y=>slt x y=true) {i j:Nat} (hij:i < j) (hj:j < l.length):slt (l.getD i default) (l.getD j default)=true:=by
 rw [lE (by omega),lE hj]
 exact List.pairwise_iff_getElem.1 h i j (by omega) hj hij
theorem f274.ok (a:List (Int×ByteArray×Rs3)×Rs3) (h:f274.lpre a):f274.vc a:=by
 obtain ⟨s,q⟩:=a
 have hs:b6.size s+(1+(1+1)+1)≤1048576:=h.2
 have hsz:s.length≤1048576:=aBR (by omega)
 have hwf:=aKQ h.1.1
 refine ⟨fun c=>absurd rfl c,fun _=>⟨hsz,fun _=>rfl,fun hf=>?_⟩⟩
 have hf:=(oJ.1 (Classical.not_not.1 hf)).1
 simp only at hf
 refine ⟨fun y=>0≤y.1∧y.1≤(s.length:Int)∧y.2.2.2=ob0 Rs3∧∃ l,Rep spB y.2.1.2 l∧Rg l∧IsLast l (s.take y.1.toNat)∧l.length≤y.1.toNat,fun y=>s.length - y.1.toNat,
  ⟨by simp only; omega,by simp only; omega,rfl,[],Rep.zero,Rg.nil,IsLast.nil,Nat.zero_le _⟩,fun y hy=>?_⟩
 obtain ⟨i,⟨c0,o⟩,c1,o'⟩:=y
 obtain ⟨g0,g1,ge,l,r,rg,hL,hl⟩:=hy
 simp only at g0 g1 ge hl r hL
 subst ge
 refine ⟨fun hlt=>?_,fun hge=>?_⟩
 ·simp only at hlt
  have hi:(i+1).toNat=i.toNat+1:=by omega
  refine ⟨g0,hlt,g0,hlt,by simp only; omega,by simp only; omega,⟨by simp only; omega,by simp only; omega,rfl,_,r.putX _ _,rg.put _ (hwf _ (aFF g0 hlt)),?_,by simp only [hi]; exact Nat.le_trans (aGA _ _ _) (by omega)⟩,by simp only; omega⟩
  simp only
  rw [hi,aHX (by omega)]
  exact hL.put _
 simp only at hge
 have hi:i.toNat=s.length:=by omega
 rw [hi,List.take_length] at hL
 have hl3:l.length≤300:=by omega
 refine ⟨by simp only; omega,by simp only; omega,fun y=>-1≤y.1∧y.1 < (s.length:Int)∧y.2.1.2=o∧∃ m,Rep spB y.2.2.2 m∧Rg m∧IsLast m (s.drop (y.1+1).toNat)∧m.length≤s.length - (y.1+1).toNat,fun y=>(y.1+1).toNat,
  ⟨by simp only; omega,by simp only; omega,rfl,[],Rep.zero,Rg.nil,?_,Nat.zero_le _⟩,fun y hy=>?_⟩
 ·simp only
  rw [show ((s.length:Int) - 1+1).toNat=s.length by omega,List.drop_length]
  exact IsLast.nil
 obtain ⟨j,⟨d0,o1⟩,d1,o2⟩:=y
 obtain ⟨k0,k1,ke,m,r2,rg2,hM,hm⟩:=hy
 simp only at k0 k1 ke hm r2 hM
 subst ke
 refine ⟨fun hpos=>?_,fun hneg=>?_⟩
 ·simp only at hpos
  have hj:(j - 1+1).toNat=j.toNat:=by omega
  have hj1:(j+1).toNat=j.toNat+1:=by omega
  have hd:=aHH (l:=s) (i:=j.toNat) (by omega)
  rw [hj1] at hM hm
  have hthere:(getX (o2,(at_ s j).2.1)).2.1=true↔∃ y,((at_ s j).2.1,y)∈m:=by
   rw [(r2.getX _).2,aH9 r2.ris]
  refine ⟨hpos,k1,fun hc=>⟨hpos,k1,hpos,k1,by simp only; omega,by simp only; omega,⟨by simp only; omega,by simp only; omega,rfl,_,r2.putX _ _,rg2.put _ (hwf _ (aFF hpos k1)),?_,by simp only [hj]; exact Nat.le_trans (aGA _ _ _) (by omega)⟩,by simp only [hj,hj1]; omega⟩,
   fun hc=>⟨by simp only; omega,by simp only; omega,⟨by simp only; omega,by simp only; omega,rfl,m,r2,rg2,?_,by simp only [hj]; omega⟩,by simp only [hj,hj1]; omega⟩⟩
  ·simp only
   rw [hj,hd,← oQ]
   exact hM.front _ fun hx=>hc (hthere.2 hx)
  ·simp only
   rw [hj,hd,← oQ]
   exact hM.there _ (hthere.1 (Classical.not_not.1 hc))
 simp only at hneg
 have hj:(j+1).toNat=0:=by omega
 rw [hj,List.drop_zero] at hM
 have hlm:l=m:=uO r.ris r2.ris fun k x=>(hL k x).trans (hM k x).symm
 subst hlm
 have E1:(bO (o1,q)).1=n6 l q:=r.atLe rg q
 have E2:(bO (o2,q)).1=n6 l q:=r2.atLe rg q
 have hfl:=aIS l q
 have hrise:=aBN r.ris q
 refine ⟨r.atLePre (by omega) q,r2.atLePre (by omega) q,?_,fun c=>absurd (decide_eq_true (E1.trans E2.symm)) c,fun _=>⟨fun c=>absurd (r.lenX.trans r2.lenX.symm) c,fun _=>?_⟩⟩
 ·show _≤_∧_≤_
  simp only
  rw [E1,E2]
  omega
 generalize hD:n6 l q=D at *
 refine ⟨fun y=>y.1=D∧y.2.1=(D.length:Int)∧0≤y.2.2.1∧y.2.2.1≤(D.length:Int)∧y.2.2.2.2=o1,fun y=>D.length - y.2.2.1.toNat,⟨E1,congrArg (fun z:List ByteArray=>(z.length:Int)) E1,by simp only; omega,by simp only; omega,rfl⟩,fun y hy=>?_⟩
 obtain ⟨u,n,b,c2,o3⟩:=y
 obtain ⟨m1,m2,m3,m4,m5⟩:=hy
 simp only at m1 m2 m3 m4 m5
 subst m1 m2 m5
 refine ⟨fun hlt=>?_,fun _=>rfl⟩
 simp only at hlt
 have hmem:=aFF m3 hlt
 rw [← hD] at hmem
 obtain ⟨v,hv1,hv2⟩:=aGY.1 hmem
 rw [hD] at hv1
 have G:=r.getX (at_ u b)
 rw [vT r.ris hv1] at G
 have hv:=aC8.1 hv2
 refine ⟨m3,hlt,fun c=>absurd G.2 c,fun _=>⟨fun c=>absurd c ?_,fun _=>⟨fun c=>absurd c ?_,fun _=>⟨fun c=>absurd c ?_,fun _=>⟨fun hb=>?_,fun _=>⟨by simp only; omega,by simp only; omega,⟨rfl,rfl,by simp only; omega,by simp only; omega,rfl⟩,by simp only; omega⟩⟩⟩⟩⟩⟩
 ·show ¬(getX (o3,at_ u b)).1.1 < q.1
  rw [G.1]
  simp only
  omega
 ·show ¬(getX (o3,at_ u b)).1.2.1 < q.2.1
  rw [G.1]
  simp only
  omega
 ·show ¬(getX (o3,at_ u b)).1.2.2 < q.2.2
  rw [G.1]
  simp only
  omega
 simp only at hb
 refine ⟨by simp only; omega,by simp only; omega,by simp only; omega,by simp only; omega,by simp only; omega,by simp only; omega,fun c=>absurd ?_ c,fun _=>⟨by simp only; omega,by simp only; omega,⟨rfl,rfl,by simp only; omega,by simp only; omega,rfl⟩,by simp only; omega⟩⟩
 simp only
 rw [oQ,oQ]
 exact aG1 hrise (by omega) (by omega)
end Go.Abs
