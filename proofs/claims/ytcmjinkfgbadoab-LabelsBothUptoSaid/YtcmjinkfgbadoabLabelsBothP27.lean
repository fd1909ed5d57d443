/- Functions, and what the code asks of them: PLabLaw3. -/
import Derived.KernelRfl
import Derived.Test.YtcmjinkfgbadoabLabelsBothP5
import Derived.Test.YtcmjinkfgbadoabLabelsBothP6
import Derived.Test.YtcmjinkfgbadoabLabelsBothP7
import Derived.Test.YtcmjinkfgbadoabLabelsBothP8
import Derived.Test.YtcmjinkfgbadoabLabelsBothP9
import Derived.Test.YtcmjinkfgbadoabLabelsBothP10
import Derived.Test.YtcmjinkfgbadoabLabelsBothP11
import Derived.Test.YtcmjinkfgbadoabLabelsBothP12
import Derived.Test.YtcmjinkfgbadoabLabelsBothP13
import Derived.Test.YtcmjinkfgbadoabLabelsBothP20
import Derived.Test.YtcmjinkfgbadoabLabelsBothP21
import Derived.Test.YtcmjinkfgbadoabLabelsBothP22
import Derived.Test.YtcmjinkfgbadoabLabelsBothP23
import Derived.Test.YtcmjinkfgbadoabLabelsBothP24
import Derived.Test.YtcmjinkfgbadoabLabelsBothP25
import Derived.Test.YtcmjinkfgbadoabLabelsBothP26
set_option maxRecDepth 100000
set_option maxHeartbeats 4000000
set_option linter.unusedVariables false
set_option linter.unusedSimpArgs false
set_option linter.unusedSectionVars false
-- interregnum/interregnumlaw18.LabelsBoth
namespace Go.Abs
open Go
def f334.wf (a:(List (aE))×(List (aB))×(List (aB))):Prop:=bD.ok a.1∧bZ.ok a.2.1∧bZ.ok a.2.2
def f334.size (a:(List (aE))×(List (aB))×(List (aB))):Nat:=bD.size a.1+(bZ.size a.2.1+(bZ.size a.2.2))
def f334.lpre (a:(List (aE))×(List (aB))×(List (aB))):Prop:=f334.wf a∧f334.size a≤1048576
def f334.args (a:(List (aE))×(List (aB))×(List (aB))):List D:=[.slice .ro 3 a.1.length (gl aH a.1),.slice .ro 2 a.2.1.length (gl aD a.2.1),.slice .ro 2 a.2.2.length (gl aD a.2.2)]
def f334.blks (a:(List (aE))×(List (aB))×(List (aB))):List (List D):=[]
def f334.res (a:(List (aE))×(List (aB))×(List (aB))):List D:=[.bool (aP a)]
def f334.blks' (a:(List (aE))×(List (aB))×(List (aB))):List (List D):=[]
def f334.C:bA:=FnC f334.args f334.blks (fun a=>f334.lpre a) f334.res f334.blks'
set_option linter.unusedVariables false
def f334.S0 (a:(List (aE))×(List (aB))×(List (aB))) (x:Int×(Nat×Ob (List (aB)))):Tm:=⟨.slice .ro 3 a.1.length (gl aH a.1)::.slice .ro 2 a.2.1.length (gl aD a.2.1)::.slice .ro 2 a.2.2.length (gl aD a.2.2)::.dead::.dead::.dead::.dead::.ptr 35 0::dd 29 (.int .i64 (a.1.length:Int)::.int .i64 x.1::dd 73 []),[(35,false,[.dead,.obj 202 x.2.1 1 x.2.2.nl x.2.2.n x.2.2.ks (ovs aA x.2.2)])],[]⟩
def f334.S1 (a:(List (aE))×(List (aB))×(List (aB))) (x:(List (ByteArray))×(List (ByteArray))×(List (ByteArray))×(List (ByteArray))×Int×Int):Tm:=⟨dd 9 (.slice .ro 1 x.1.length (gl aG x.1)::.slice .ro 1 x.2.1.length (gl aG x.2.1)::.slice .ro 1 x.2.2.1.length (gl aG x.2.2.1)::.slice (.own 91) 1 x.2.2.2.1.length (gl aG x.2.2.2.1)::dd 55 (.int .i64 x.2.2.2.2.1::.int .i64 x.2.2.2.2.2::dd 42 [])),[],[(91,1,x.2.2.2.1.length)]⟩
def f334.S2 (a:(List (aE))×(List (aB))×(List (aB))) (x:(List (ByteArray))×(List (ByteArray))×(List (ByteArray))×(List (ByteArray))×Int×Int×Int×Int×Int):Tm:=⟨dd 9 (.slice .ro 1 x.1.length (gl aG x.1)::.slice .ro 1 x.2.1.length (gl aG x.2.1)::.slice .ro 1 x.2.2.1.length (gl aG x.2.2.1)::.slice (.own 91) 1 x.2.2.2.1.length (gl aG x.2.2.2.1)::.int .i64 x.2.2.2.2.1::dd 54 (.int .i64 x.2.2.2.2.2.1::.int .i64 x.2.2.2.2.2.2.1::.dead::.dead::.dead::.int .i64 x.2.2.2.2.2.2.2.1::.int .i64 x.2.2.2.2.2.2.2.2::dd 37 [])),[],[(91,1,x.2.2.2.1.length)]⟩
def f334.kills (a:(List (aE))×(List (aB))×(List (aB))):List lT:=[.tell (Int×(Nat×Ob (List (aB)))) (f334.S0 a),
 .tell ((List (ByteArray))×(List (ByteArray))×(List (ByteArray))×(List (ByteArray))×Int×Int) (f334.S1 a),
 .tell ((List (ByteArray))×(List (ByteArray))×(List (ByteArray))×(List (ByteArray))×Int×Int×Int×Int×Int) (f334.S2 a)]
def f334.cuts (a:(List (aE))×(List (aB))×(List (aB))):List (Nat×Σ β:Type,β→Tm):=[(3201007000004,⟨Unit,fun x=>⟨[],[],[]⟩⟩),
 (100029,⟨(List (ByteArray))×(List (ByteArray))×(List (ByteArray))×(List (ByteArray))×Int×Int×Bool,fun x=>⟨dd 9 (.slice .ro 1 x.1.length (gl aG x.1)::.slice .ro 1 x.2.1.length (gl aG x.2.1)::.slice .ro 1 x.2.2.1.length (gl aG x.2.2.1)::.slice (.own 91) 1 x.2.2.2.1.length (gl aG x.2.2.2.1)::dd 55 (.int .i64 x.2.2.2.2.1::.int .i64 x.2.2.2.2.2.1::dd 37 ([.bool x.2.2.2.2.2.2,.dead,.dead,.dead,.dead]))),[],[(91,1,x.2.2.2.1.length)]⟩⟩)]
def f334.af (a:(List (aE))×(List (aB))×(List (aB))):AF:=AF.mk (.seq (.region [⟨(some 6),0,.move,[.c (.bool false)],none⟩])
 (.seq (.seq (.region [oT 15 1 (.call false 343) [],
 oT 16 5 (.un .not) [15],
 mT 17 6 16,
 oG 18 7 .move [0] 17 false,
 oG 19 8 (.call false 344) [18] 17 false,
 oG 20 12 (.un .not) [19] 17 false,
 ⟨(some 21),13,.pick,[.t 17,.c (.bool true),.t 20],none⟩,
 mT 22 14 21,
 oG 23 15 .move [1] 22 false,
 oG 24 16 (.call false 348) [23] 22 false,
 oG 25 20 (.un .not) [24] 22 false,
 ⟨(some 26),21,.pick,[.t 22,.c (.bool true),.t 25],none⟩,
 mT 27 22 26,
 oG 28 23 .move [2] 27 false,
 oG 29 24 (.call false 348) [28] 27 false,
 oG 30 28 (.un .not) [29] 27 false,
 ⟨(some 31),29,.pick,[.t 27,.c (.bool true),.t 30],none⟩])
 (.cond (.t 31) (.seq (.region [oT 32 30 (.call false 343) [],
 mT 6 34 32])
 (.ret)) (.skip)))
 (.seq (.region [oT 33 35 (.call false 144) [],
 mT 7 39 33])
 (.seq (.toObj 0 201 7) (.seq (.seq (.region [mT 34 40 7,
 oT 35 41 (.isNil true false) [34]])
 (.cond (.t 35) (.seq (.region [⟨(some 6),42,.move,[.c (.bool false)],none⟩])
 (.ret)) (.skip)))
 (.seq (.seq (.region [mT 36 43 0,
 oT 37 44 (.len false) [36],
 ⟨(some 38),45,.move,[.c (.int .i64 (0))],none⟩])
 (.block 0 (.loopT (Int×(Nat×Ob (List (aB)))) (f334.S0 a) 46 66 (.seq (.region [oT 39 46 (.bin .lss) [38,37]])
 (.seq (.cond (.t 39) (.skip) (.exit 0))
 (.seq (.block 1 (.seq (.region [mT 40 47 38,
 mT 8 48 40])
 (.region [mT 41 49 7,
 mT 42 50 0,
 mT 43 51 8,
 oT 44 52 (.indexAddr 3 none) [42,43],
 oT 45 53 (.fieldAddr 1) [44],
 oT 46 54 (.load false 1) [45],
 mT 47 55 0,
 mT 48 56 8,
 oT 49 57 (.indexAddr 3 none) [47,48],
 oT 50 58 (.fieldAddr 2) [49],
 oT 51 59 (.load false 1) [50],
 oT 52 60 (.call true 146) [41,46,51]])))
 (.region [⟨(some 53),64,(.bin .add),[.t 38,.c (.int .i64 (1))],none⟩,
 mT 38 65 53])))))))
 (.seq (.region [mT 54 66 7,
 mT 55 67 1,
 oT 56 68 (.call true 149) [54,55],
 mT 57 72 7,
 mT 58 73 2,
 oT 59 74 (.call true 149) [57,58],
 mT 60 78 7,
 oT 61 79 (.buildSlice 2 0 [.str ByteArray.empty,.str ByteArray.empty] []) [],
 mT 62 80 1,
 oT 63 81 (.append 2 32) [61,62],
 mT 64 82 2,
 oT 65 83 (.append 2 32) [63,64],
 oT 66 84 (.call true 149) [60,65],
 mT 9 88 56,
 mT 10 89 59,
 mT 11 90 66])
 (.seq (.region [oT 12 91 (.nilSl 1) []])
 (.seq (.seq (.region [mT 67 92 9,
 oT 68 93 (.len false) [67],
 ⟨(some 69),94,.move,[.c (.int .i64 (0))],none⟩])
 (.block 2 (.loopT ((List (ByteArray))×(List (ByteArray))×(List (ByteArray))×(List (ByteArray))×Int×Int) (f334.S1 a) 95 140 (.seq (.region [oT 70 95 (.bin .lss) [69,68]])
 (.seq (.cond (.t 70) (.skip) (.exit 2))
 (.seq (.block 3 (.seq (.region [mT 71 96 69,
 mT 13 97 71])
 (.seq (.seq (.region [mT 72 98 10,
 oT 73 99 (.len false) [72],
 ⟨(some 74),100,.move,[.c (.int .i64 (0))],none⟩])
 (.block 4 (.loopT ((List (ByteArray))×(List (ByteArray))×(List (ByteArray))×(List (ByteArray))×Int×Int×Int×Int×Int) (f334.S2 a) 101 123 (.seq (.region [oT 75 101 (.bin .lss) [74,73]])
 (.seq (.cond (.t 75) (.skip) (.exit 4))
 (.seq (.block 5 (.seq (.region [mT 76 102 74,
 mT 14 103 76])
 (.seq (.region [mT 77 104 9,
 mT 78 105 13,
 oT 79 106 (.indexAddr 1 none) [77,78],
 oT 80 107 (.load false 1) [79],
 mT 81 108 10,
 mT 82 109 14,
 oT 83 110 (.indexAddr 1 none) [81,82],
 oT 84 111 (.load false 1) [83],
 oT 85 112 (.bin .eql) [80,84]])
 (.cond (.t 85) (.region [mT 86 113 12,
 mT 87 114 9,
 mT 88 115 13,
 oT 89 116 (.indexAddr 1 none) [87,88],
 oT 90 117 (.load false 1) [89],
 oT 91 118 (.buildSlice 1 1 [.str ByteArray.empty] [(0,1)]) [90],
 oT 92 119 (.append 1 16) [86,91],
 mT 12 120 92]) (.skip)))))
 (.region [⟨(some 93),121,(.bin .add),[.t 74,.c (.int .i64 (1))],none⟩,
 mT 74 122 93])))))))
 (.joinT ((List (ByteArray))×(List (ByteArray))×(List (ByteArray))×(List (ByteArray))×Int×Int×Bool) (fun x=>⟨dd 9 (.slice .ro 1 x.1.length (gl aG x.1)::.slice .ro 1 x.2.1.length (gl aG x.2.1)::.slice .ro 1 x.2.2.1.length (gl aG x.2.2.1)::.slice (.own 91) 1 x.2.2.2.1.length (gl aG x.2.2.2.1)::dd 55 (.int .i64 x.2.2.2.2.1::.int .i64 x.2.2.2.2.2.1::dd 37 ([.bool x.2.2.2.2.2.2,.dead,.dead,.dead,.dead]))),[],[(91,1,x.2.2.2.1.length)]⟩) (.region [mT 94 123 13,
 ⟨(some 95),124,(.bin .gtr),[.t 94,.c (.int .i64 (0))],none⟩,
 mT 96 125 95,
 oG 97 126 .move [9] 96 true,
 oG 98 127 .move [13] 96 true,
 ⟨(some 99),128,(.bin .sub),[.t 98,.c (.int .i64 (1))],(some (96,true))⟩,
 oG 100 129 (.indexAddr 1 none) [97,99] 96 true,
 oG 101 130 (.load false 1) [100] 96 true,
 oG 102 131 .move [9] 96 true,
 oG 103 132 .move [13] 96 true,
 oG 104 133 (.indexAddr 1 none) [102,103] 96 true,
 oG 105 134 (.load false 1) [104] 96 true,
 oG 106 135 (.bin .geq) [101,105] 96 true,
 ⟨(some 107),136,.pick,[.t 96,.t 106,.c (.bool false)],none⟩])
 (.cond (.t 107) (.seq (.region [⟨(some 6),137,.move,[.c (.bool false)],none⟩])
 (.ret)) (.skip))))))
 (.region [⟨(some 108),138,(.bin .add),[.t 69,.c (.int .i64 (1))],none⟩,
 mT 69 139 108])))))))
 (.seq (.region [mT 109 140 11,
 mT 110 141 12,
 oT 111 142 (.call false 150) [109,110],
 mT 6 146 111])
 (.ret)))))))))))
 [.tmp 6] 0 109
def f334.env:Env:=[(343,f343.C),(344,f344.C),(348,f348.C),(144,f144.C),(146,f146.C),(149,f149.C),(150,f150.C)]
def f334.tree (a:(List (aE))×(List (aB))×(List (aB))):Prop:=∃ c1:Unit,True∧Br (!(aP c1)) (∃ c4:Unit,True∧((aP c4)=(aP a))∧True) (f344.ent (fun c7=>(fC c7)∧Br (!(fA c7)) (∃ c10:Unit,True∧((aP c10)=(aP a))∧True) (f348.ent (fun c13=>(dD c13)∧Br (!(cM c13)) (∃ c16:Unit,True∧((aP c16)=(aP a))∧True) (f348.ent (fun c19=>(dD c19)∧Br (!(cM c19)) (∃ c22:Unit,True∧((aP c22)=(aP a))∧True) (∃ c25:Unit,True∧∃ (I27:(Int×(Nat×Ob (List (aB))))→Prop) (μ28:(Int×(Nat×Ob (List (aB))))→Nat),(∃ x26:Int×(Nat×Ob (List (aB))),SlS aH a.1 (SlS aD a.2.1 (SlS aD a.2.2 (((a.1.length:Int)=(a.1.length:Int))∧((0:Int)=x26.1)∧ObQ 0 x26.2.1 (ob0 (List (aB))).nl x26.2.2.nl (ob0 (List (aB))).n x26.2.2.n (ob0 (List (aB))).ks x26.2.2.ks (fun _ _=>[]) (ovs aA x26.2.2) (I27 x26)))))∧∀ y29:Int×(Nat×Ob (List (aB))),I27 y29→(Br (decide (y29.1 < (a.1.length:Int))) (Br (decide ((0:Int)≤y29.1)&&decide (y29.1 < (a.1.length:Int))) (Br (decide ((0:Int)≤y29.1)&&decide (y29.1 < (a.1.length:Int))) (∃ c34:(Ob (List (aB)))×ByteArray×(List (aB)),(((at_ a.1 y29.1).2.1)=c34.2.1)∧SlQ (((at_ a.1 y29.1).2.2).length) c34.2.2.length (gl aD ((at_ a.1 y29.1).2.2)) (gl aD c34.2.2) (ObQ 0 0 y29.2.2.nl c34.1.nl y29.2.2.n c34.1.n y29.2.2.ks c34.1.ks (ovs aA y29.2.2) (ovs aA c34.1) ((eC c34)∧Let (wI (y29.1+(1:Int))) (fun v35:Int=>∃ x36:Int×(Nat×Ob (List (aB))),SlS aH a.1 (SlS aD a.2.1 (SlS aD a.2.2 (((a.1.length:Int)=(a.1.length:Int))∧(v35=x36.1)∧ObQ (y29.2.1+1) x36.2.1 (cE c34).nl x36.2.2.nl (cE c34).n x36.2.2.n (cE c34).ks x36.2.2.ks (ovs aA (cE c34)) (ovs aA x36.2.2) (I27 x36∧μ28 x36 < μ28 y29)))))))) False) False) (∃ c44:(Ob (List (aB)))×(List (aB)),SlQ a.2.1.length c44.2.length (gl aD a.2.1) (gl aD c44.2) (ObQ 0 0 y29.2.2.nl c44.1.nl y29.2.2.n c44.1.n y29.2.2.ks c44.1.ks (ovs aA y29.2.2) (ovs aA c44.1) ((bJ c44)∧∃ c45:(Ob (List (aB)))×(List (aB)),SlQ a.2.2.length c45.2.length (gl aD a.2.2) (gl aD c45.2) (ObQ 0 0 c44.1.nl c45.1.nl c44.1.n c45.1.n c44.1.ks c45.1.ks (ovs aA c44.1) (ovs aA c45.1) ((bJ c45)∧(oS ((0+a.2.1.length) * 32))∧(((0+a.2.1.length)=(0+a.2.1.length)∧oS (((0+a.2.1.length)+a.2.2.length) * 32))∧(∃ c46:(Ob (List (aB)))×(List (aB)),SlQ ((0+a.2.1.length)+a.2.2.length) c46.2.length (gO (gO (fun j=>List.take 2 (List.drop (j * 2) [])) 0 (gl aD a.2.1)) (0+a.2.1.length) (gl aD a.2.2)) (gl aD c46.2) (ObQ 0 0 c45.1.nl c46.1.nl c45.1.n c46.1.n c45.1.ks c46.1.ks (ovs aA c45.1) (ovs aA c46.1) ((bJ c46)∧∃ (I48:((List (ByteArray))×(List (ByteArray))×(List (ByteArray))×(List (ByteArray))×Int×Int)→Prop) (μ49:((List (ByteArray))×(List (ByteArray))×(List (ByteArray))×(List (ByteArray))×Int×Int)→Nat),(∃ x47:(List (ByteArray))×(List (ByteArray))×(List (ByteArray))×(List (ByteArray))×Int×Int,SlQ ((a6 c44).length) x47.1.length (gl aG (a6 c44)) (gl aG x47.1) (SlQ ((a6 c45).length) x47.2.1.length (gl aG (a6 c45)) (gl aG x47.2.1) (SlQ ((a6 c46).length) x47.2.2.1.length (gl aG (a6 c46)) (gl aG x47.2.2.1) (SlQ 0 x47.2.2.2.1.length d8 (gl aG x47.2.2.2.1) ((((a6 c44).length:Int)=x47.2.2.2.2.1)∧((0:Int)=x47.2.2.2.2.2)∧(0=x47.2.2.2.1.length)∧I48 x47)))))∧∀ y50:(List (ByteArray))×(List (ByteArray))×(List (ByteArray))×(List (ByteArray))×Int×Int,I48 y50→(Br (decide (y50.2.2.2.2.2 < y50.2.2.2.2.1)) (∃ (I54:((List (ByteArray))×(List (ByteArray))×(List (ByteArray))×(List (ByteArray))×Int×Int×Int×Int×Int)→Prop) (μ55:((List (ByteArray))×(List (ByteArray))×(List (ByteArray))×(List (ByteArray))×Int×Int×Int×Int×Int)→Nat),(∃ x53:(List (ByteArray))×(List (ByteArray))×(List (ByteArray))×(List (ByteArray))×Int×Int×Int×Int×Int,SlQ y50.1.length x53.1.length (gl aG y50.1) (gl aG x53.1) (SlQ y50.2.1.length x53.2.1.length (gl aG y50.2.1) (gl aG x53.2.1) (SlQ y50.2.2.1.length x53.2.2.1.length (gl aG y50.2.2.1) (gl aG x53.2.2.1) (SlQ y50.2.2.2.1.length x53.2.2.2.1.length (gl aG y50.2.2.2.1) (gl aG x53.2.2.2.1) ((y50.2.2.2.2.2=x53.2.2.2.2.1)∧(y50.2.2.2.2.1=x53.2.2.2.2.2.1)∧(y50.2.2.2.2.2=x53.2.2.2.2.2.2.1)∧((y50.2.1.length:Int)=x53.2.2.2.2.2.2.2.1)∧((0:Int)=x53.2.2.2.2.2.2.2.2)∧(y50.2.2.2.1.length=x53.2.2.2.1.length)∧I54 x53)))))∧∀ y56:(List (ByteArray))×(List (ByteArray))×(List (ByteArray))×(List (ByteArray))×Int×Int×Int×Int×Int,I54 y56→(Br (decide (y56.2.2.2.2.2.2.2.2 < y56.2.2.2.2.2.2.2.1)) (Br (decide ((0:Int)≤y56.2.2.2.2.1)&&decide (y56.2.2.2.2.1 < (y56.1.length:Int))) (Br (decide ((0:Int)≤y56.2.2.2.2.2.2.2.2)&&decide (y56.2.2.2.2.2.2.2.2 < (y56.2.1.length:Int))) (Br ((at_ y56.1 y56.2.2.2.2.1).toList==(at_ y56.2.1 y56.2.2.2.2.2.2.2.2).toList) (Br (decide ((0:Int)≤y56.2.2.2.2.1)&&decide (y56.2.2.2.2.1 < (y56.1.length:Int))) ((y56.2.2.2.1.length=y56.2.2.2.1.length∧oS ((y56.2.2.2.1.length+1) * 16))∧(Let (wI (y56.2.2.2.2.2.2.2.2+(1:Int))) (fun v64:Int=>∃ x65:(List (ByteArray))×(List (ByteArray))×(List (ByteArray))×(List (ByteArray))×Int×Int×Int×Int×Int,SlQ y56.1.length x65.1.length (gl aG y56.1) (gl aG x65.1) (SlQ y56.2.1.length x65.2.1.length (gl aG y56.2.1) (gl aG x65.2.1) (SlQ y56.2.2.1.length x65.2.2.1.length (gl aG y56.2.2.1) (gl aG x65.2.2.1) (SlQ (y56.2.2.2.1.length+1) x65.2.2.2.1.length (gO (gl aG y56.2.2.2.1) y56.2.2.2.1.length (fun _=>[.str (at_ y56.1 y56.2.2.2.2.1)])) (gl aG x65.2.2.2.1) ((y56.2.2.2.2.1=x65.2.2.2.2.1)∧(y56.2.2.2.2.2.1=x65.2.2.2.2.2.1)∧(y56.2.2.2.2.2.2.1=x65.2.2.2.2.2.2.1)∧(y56.2.2.2.2.2.2.2.1=x65.2.2.2.2.2.2.2.1)∧(v64=x65.2.2.2.2.2.2.2.2)∧((y56.2.2.2.1.length+1)=x65.2.2.2.1.length)∧I54 x65∧μ55 x65 < μ55 y56))))))) False) (Let (wI (y56.2.2.2.2.2.2.2.2+(1:Int))) (fun v71:Int=>∃ x72:(List (ByteArray))×(List (ByteArray))×(List (ByteArray))×(List (ByteArray))×Int×Int×Int×Int×Int,SlQ y56.1.length x72.1.length (gl aG y56.1) (gl aG x72.1) (SlQ y56.2.1.length x72.2.1.length (gl aG y56.2.1) (gl aG x72.2.1) (SlQ y56.2.2.1.length x72.2.2.1.length (gl aG y56.2.2.1) (gl aG x72.2.2.1) (SlQ y56.2.2.2.1.length x72.2.2.2.1.length (gl aG y56.2.2.2.1) (gl aG x72.2.2.2.1) ((y56.2.2.2.2.1=x72.2.2.2.2.1)∧(y56.2.2.2.2.2.1=x72.2.2.2.2.2.1)∧(y56.2.2.2.2.2.2.1=x72.2.2.2.2.2.2.1)∧(y56.2.2.2.2.2.2.2.1=x72.2.2.2.2.2.2.2.1)∧(v71=x72.2.2.2.2.2.2.2.2)∧(y56.2.2.2.1.length=x72.2.2.2.1.length)∧I54 x72∧μ55 x72 < μ55 y56))))))) False) False) (∃ I81:((List (ByteArray))×(List (ByteArray))×(List (ByteArray))×(List (ByteArray))×Int×Int×Bool)→Prop,(Br (decide ((0:Int) < y56.2.2.2.2.1)) (Let (wI (y56.2.2.2.2.1 - (1:Int))) (fun v84:Int=>Br (decide ((0:Int)≤v84)&&decide (v84 < (y56.1.length:Int))) (Br (decide ((0:Int)≤y56.2.2.2.2.1)&&decide (y56.2.2.2.2.1 < (y56.1.length:Int))) (∃ x87:(List (ByteArray))×(List (ByteArray))×(List (ByteArray))×(List (ByteArray))×Int×Int×Bool,SlQ y56.1.length x87.1.length (gl aG y56.1) (gl aG x87.1) (SlQ y56.2.1.length x87.2.1.length (gl aG y56.2.1) (gl aG x87.2.1) (SlQ y56.2.2.1.length x87.2.2.1.length (gl aG y56.2.2.1) (gl aG x87.2.2.1) (SlQ y56.2.2.2.1.length x87.2.2.2.1.length (gl aG y56.2.2.2.1) (gl aG x87.2.2.2.1) ((y56.2.2.2.2.2.1=x87.2.2.2.2.1)∧(y56.2.2.2.2.2.2.1=x87.2.2.2.2.2.1)∧((!(Op.bytesLess (at_ y56.1 v84).toList (at_ y56.1 y56.2.2.2.2.1).toList))=x87.2.2.2.2.2.2)∧(y56.2.2.2.1.length=x87.2.2.2.1.length)∧I81 x87))))) False) False)) (∃ x93:(List (ByteArray))×(List (ByteArray))×(List (ByteArray))×(List (ByteArray))×Int×Int×Bool,SlQ y56.1.length x93.1.length (gl aG y56.1) (gl aG x93.1) (SlQ y56.2.1.length x93.2.1.length (gl aG y56.2.1) (gl aG x93.2.1) (SlQ y56.2.2.1.length x93.2.2.1.length (gl aG y56.2.2.1) (gl aG x93.2.2.1) (SlQ y56.2.2.2.1.length x93.2.2.2.1.length (gl aG y56.2.2.2.1) (gl aG x93.2.2.2.1) ((y56.2.2.2.2.2.1=x93.2.2.2.2.1)∧(y56.2.2.2.2.2.2.1=x93.2.2.2.2.2.1)∧(false=x93.2.2.2.2.2.2)∧(y56.2.2.2.1.length=x93.2.2.2.1.length)∧I81 x93))))))∧∀ y96:(List (ByteArray))×(List (ByteArray))×(List (ByteArray))×(List (ByteArray))×Int×Int×Bool,I81 y96→(Br y96.2.2.2.2.2.2 ((false=(aP a))∧True) (Let (wI (y96.2.2.2.2.2.1+(1:Int))) (fun v102:Int=>∃ x103:(List (ByteArray))×(List (ByteArray))×(List (ByteArray))×(List (ByteArray))×Int×Int,SlQ y96.1.length x103.1.length (gl aG y96.1) (gl aG x103.1) (SlQ y96.2.1.length x103.2.1.length (gl aG y96.2.1) (gl aG x103.2.1) (SlQ y96.2.2.1.length x103.2.2.1.length (gl aG y96.2.2.1) (gl aG x103.2.2.1) (SlQ y96.2.2.2.1.length x103.2.2.2.1.length (gl aG y96.2.2.2.1) (gl aG x103.2.2.2.1) ((y96.2.2.2.2.1=x103.2.2.2.2.1)∧(v102=x103.2.2.2.2.2)∧(y96.2.2.2.1.length=x103.2.2.2.1.length)∧I48 x103∧μ49 x103 < μ49 y50)))))))))) (f150.ent (fun c115=>(cB c115)∧((cR c115)=(aP a))∧True) (y50.2.2.1,y50.2.2.2.1))))))))))))))) a.2.2)) a.2.1)) a.1)
def f334.vc (a:(List (aE))×(List (aB))×(List (aB))):Prop:=((¬((aP ())=true)→((aP ())=aP a))∧(¬(¬((aP ())=true))→(fC a.1∧((¬((fA (a.1))=true)→((aP ())=aP a))∧(¬(¬((fA (a.1))=true))→(dD a.2.1∧((¬((cM (a.2.1))=true)→((aP ())=aP a))∧(¬(¬((cM (a.2.1))=true))→(dD a.2.2∧((¬((cM (a.2.2))=true)→((aP ())=aP a))∧(¬(¬((cM (a.2.2))=true))→(∃ (I27:(Int×(Nat×Ob (List (aB))))→Prop) (μ28:(Int×(Nat×Ob (List (aB))))→Nat),I27 ((0:Int),(0,ob0 (List (aB))))∧∀ y29:Int×(Nat×Ob (List (aB))),I27 y29→((y29.1 < (a.1.length:Int)→((0:Int)≤y29.1∧y29.1 < (a.1.length:Int)∧((0:Int)≤y29.1∧y29.1 < (a.1.length:Int)∧(eC (y29.2.2,(at_ a.1 y29.1).2.1,(at_ a.1 y29.1).2.2)∧(-9223372036854775808≤(y29.1+(1:Int))∧(y29.1+(1:Int))≤9223372036854775807∧(I27 ((y29.1+(1:Int)),(y29.2.1+1,(cE (y29.2.2,(at_ a.1 y29.1).2.1,(at_ a.1 y29.1).2.2))))∧μ28 ((y29.1+(1:Int)),(y29.2.1+1,(cE (y29.2.2,(at_ a.1 y29.1).2.1,(at_ a.1 y29.1).2.2)))) < μ28 y29))))))∧(¬(y29.1 < (a.1.length:Int))→(bJ (y29.2.2,a.2.1)∧(bJ ((y29.2.2,a.2.1).1,a.2.2)∧(0+a.2.1.length≤1073741824∧((0+a.2.1.length)+a.2.2.length≤1073741824∧(bJ (((y29.2.2,a.2.1).1,a.2.2).1,(([])++a.2.1)++a.2.2)∧(∃ (I48:((List (ByteArray))×(List (ByteArray))×(List (ByteArray))×(List (ByteArray))×Int×Int)→Prop) (μ49:((List (ByteArray))×(List (ByteArray))×(List (ByteArray))×(List (ByteArray))×Int×Int)→Nat),I48 ((a6 (y29.2.2,a.2.1)),(a6 ((y29.2.2,a.2.1).1,a.2.2)),(a6 (((y29.2.2,a.2.1).1,a.2.2).1,(([])++a.2.1)++a.2.2)),[],((a6 (y29.2.2,a.2.1)).length:Int),(0:Int))∧∀ y50:(List (ByteArray))×(List (ByteArray))×(List (ByteArray))×(List (ByteArray))×Int×Int,I48 y50→((y50.2.2.2.2.2 < y50.2.2.2.2.1→(∃ (I54:((List (ByteArray))×(List (ByteArray))×(List (ByteArray))×(List (ByteArray))×Int×Int×Int×Int×Int)→Prop) (μ55:((List (ByteArray))×(List (ByteArray))×(List (ByteArray))×(List (ByteArray))×Int×Int×Int×Int×Int)→Nat),I54 (y50.1,y50.2.1,y50.2.2.1,y50.2.2.2.1,y50.2.2.2.2.2,y50.2.2.2.2.1,y50.2.2.2.2.2,(y50.2.1.length:Int),(0:Int))∧∀ y56:(List (ByteArray))×(List (ByteArray))×(List (ByteArray))×(List (ByteArray))×Int×Int×Int×Int×Int,I54 y56→((y56.2.2.2.2.2.2.2.2 < y56.2.2.2.2.2.2.2.1→((0:Int)≤y56.2.2.2.2.1∧y56.2.2.2.2.1 < (y56.1.length:Int)∧((0:Int)≤y56.2.2.2.2.2.2.2.2∧y56.2.2.2.2.2.2.2.2 < (y56.2.1.length:Int)∧(((at_ y56.1 y56.2.2.2.2.1)=(at_ y56.2.1 y56.2.2.2.2.2.2.2.2)→((0:Int)≤y56.2.2.2.2.1∧y56.2.2.2.2.1 < (y56.1.length:Int)∧(y56.2.2.2.1.length+1≤1073741824∧(-9223372036854775808≤(y56.2.2.2.2.2.2.2.2+(1:Int))∧(y56.2.2.2.2.2.2.2.2+(1:Int))≤9223372036854775807∧(I54 (y56.1,y56.2.1,y56.2.2.1,y56.2.2.2.1++([at_ y56.1 y56.2.2.2.2.1]),y56.2.2.2.2.1,y56.2.2.2.2.2.1,y56.2.2.2.2.2.2.1,y56.2.2.2.2.2.2.2.1,(y56.2.2.2.2.2.2.2.2+(1:Int)))∧μ55 (y56.1,y56.2.1,y56.2.2.1,y56.2.2.2.1++([at_ y56.1 y56.2.2.2.2.1]),y56.2.2.2.2.1,y56.2.2.2.2.2.1,y56.2.2.2.2.2.2.1,y56.2.2.2.2.2.2.2.1,(y56.2.2.2.2.2.2.2.2+(1:Int))) < μ55 y56)))))∧(¬((at_ y56.1 y56.2.2.2.2.1)=(at_ y56.2.1 y56.2.2.2.2.2.2.2.2))→(-9223372036854775808≤(y56.2.2.2.2.2.2.2.2+(1:Int))∧(y56.2.2.2.2.2.2.2.2+(1:Int))≤9223372036854775807∧(I54 (y56.1,y56.2.1,y56.2.2.1,y56.2.2.2.1,y56.2.2.2.2.1,y56.2.2.2.2.2.1,y56.2.2.2.2.2.2.1,y56.2.2.2.2.2.2.2.1,(y56.2.2.2.2.2.2.2.2+(1:Int)))∧μ55 (y56.1,y56.2.1,y56.2.2.1,y56.2.2.2.1,y56.2.2.2.2.1,y56.2.2.2.2.2.1,y56.2.2.2.2.2.2.1,y56.2.2.2.2.2.2.2.1,(y56.2.2.2.2.2.2.2.2+(1:Int))) < μ55 y56)))))))∧(¬(y56.2.2.2.2.2.2.2.2 < y56.2.2.2.2.2.2.2.1)→(∃ I81:((List (ByteArray))×(List (ByteArray))×(List (ByteArray))×(List (ByteArray))×Int×Int×Bool)→Prop,((((0:Int) < y56.2.2.2.2.1→(-9223372036854775808≤(y56.2.2.2.2.1 - (1:Int))∧(y56.2.2.2.2.1 - (1:Int))≤9223372036854775807∧((0:Int)≤(y56.2.2.2.2.1 - (1:Int))∧(y56.2.2.2.2.1 - (1:Int)) < (y56.1.length:Int)∧((0:Int)≤y56.2.2.2.2.1∧y56.2.2.2.2.1 < (y56.1.length:Int)∧(I81 (y56.1,y56.2.1,y56.2.2.1,y56.2.2.2.1,y56.2.2.2.2.2.1,y56.2.2.2.2.2.2.1,(!(Op.bytesLess (at_ y56.1 (y56.2.2.2.2.1 - (1:Int))).toList (at_ y56.1 y56.2.2.2.2.1).toList))))))))∧(¬((0:Int) < y56.2.2.2.2.1)→(I81 (y56.1,y56.2.1,y56.2.2.1,y56.2.2.2.1,y56.2.2.2.2.2.1,y56.2.2.2.2.2.2.1,false)))))∧∀ y96:(List (ByteArray))×(List (ByteArray))×(List (ByteArray))×(List (ByteArray))×Int×Int×Bool,I81 y96→((y96.2.2.2.2.2.2=true→(false=aP a))∧(¬(y96.2.2.2.2.2.2=true)→(-9223372036854775808≤(y96.2.2.2.2.2.1+(1:Int))∧(y96.2.2.2.2.2.1+(1:Int))≤9223372036854775807∧(I48 (y96.1,y96.2.1,y96.2.2.1,y96.2.2.2.1,y96.2.2.2.2.1,(y96.2.2.2.2.2.1+(1:Int)))∧μ49 (y96.1,y96.2.1,y96.2.2.1,y96.2.2.2.1,y96.2.2.2.2.1,(y96.2.2.2.2.2.1+(1:Int))) < μ49 y50)))))))))∧(¬(y50.2.2.2.2.2 < y50.2.2.2.2.1)→(cB (y50.2.2.1,y50.2.2.2.1)∧((cR (y50.2.2.1,y50.2.2.2.1))=aP a))))))))))))))))))))))))
theorem f334.of (a:(List (aE))×(List (aB))×(List (aB))) (h:f334.vc a):f334.tree a:=⟨(),⟨trivial,br h (Cnd.not Cnd.b) (fun h2 k141=>⟨(),⟨trivial,⟨k141,trivial⟩⟩⟩) (fun h3 k142=>(f344.ei ⟨k142.1,br k142.2 (Cnd.not Cnd.b) (fun h8 k138=>⟨(),⟨trivial,⟨k138,trivial⟩⟩⟩) (fun h9 k139=>(f348.ei ⟨k139.1,br k139.2 (Cnd.not Cnd.b) (fun h14 k135=>⟨(),⟨trivial,⟨k135,trivial⟩⟩⟩) (fun h15 k136=>(f348.ei ⟨k136.1,br k136.2 (Cnd.not Cnd.b) (fun h20 k132=>⟨(),⟨trivial,⟨k132,trivial⟩⟩⟩) (fun h21 k133=>⟨(),⟨trivial,Exists.elim k133 (fun I27 h128_=>Exists.elim h128_ (fun μ28 h128=>⟨I27,μ28,⟨((0:Int),(0,ob0 (List (aB)))),SlS.mk  (SlS.mk  (SlS.mk  (⟨rfl,⟨rfl,obQ rfl (OV.zero (e:=aA)) rfl (h128.1)⟩⟩)))⟩,fun y29 h130=>br (h128.2 y29 h130) Cnd.dec (fun h30 k126=>chk k126.2.2 Cnd.ix ⟨k126.1,k126.2.1⟩ (fun h32 k43=>chk k43.2.2 Cnd.ix ⟨k43.1,k43.2.1⟩ (fun h33 k42=>⟨(y29.2.2,(at_ a.1 y29.1).2.1,(at_ a.1 y29.1).2.2),⟨rfl,slQ (rS aD) (obQ rfl (OV.self (e:=aA)) rfl (⟨k42.1,wrapK.i64 k42.2 (fun h38 h39 k40=>⟨((y29.1+(1:Int)),(y29.2.1+1,(cE (y29.2.2,(at_ a.1 y29.1).2.1,(at_ a.1 y29.1).2.2)))),SlS.mk  (SlS.mk  (SlS.mk  (⟨rfl,⟨rfl,obQ rfl (OV.self (e:=aA)) rfl (k40)⟩⟩)))⟩)⟩))⟩⟩))) (fun h31 k127=>⟨(y29.2.2,a.2.1),slQ (rS aD) (obQ rfl (OV.self (e:=aA)) rfl (⟨k127.1,⟨((y29.2.2,a.2.1).1,a.2.2),slQ (rS aD) (obQ rfl (OV.self (e:=aA)) rfl (⟨k127.2.1,⟨(nU k127.2.2.1 (by decide)),⟨⟨rfl,(nU k127.2.2.2.1 (by decide))⟩,⟨(((y29.2.2,a.2.1).1,a.2.2).1,(([])++a.2.1)++a.2.2),slQ (Rds.app (enc:=aD) (Rds.app (enc:=aD) (Rds.nil (enc:=aD)) (rS aD)) (rS aD)) (obQ rfl (OV.self (e:=aA)) rfl (⟨k127.2.2.2.2.1,Exists.elim k127.2.2.2.2.2 (fun I48 h120_=>Exists.elim h120_ (fun μ49 h120=>⟨I48,μ49,⟨((a6 (y29.2.2,a.2.1)),(a6 ((y29.2.2,a.2.1).1,a.2.2)),(a6 (((y29.2.2,a.2.1).1,a.2.2).1,(([])++a.2.1)++a.2.2)),[],((a6 (y29.2.2,a.2.1)).length:Int),(0:Int)),slQ (rS aG) (slQ (rS aG) (slQ (rS aG) (slQ (Rds.nil (enc:=aG)) (⟨rfl,⟨rfl,⟨(uI d8 (Rds.nil (enc:=aG))),h120.1⟩⟩⟩))))⟩,fun y50 h122=>br (h120.2 y50 h122) Cnd.dec (fun h51 k118=>Exists.elim k118 (fun I54 h112_=>Exists.elim h112_ (fun μ55 h112=>⟨I54,μ55,⟨(y50.1,y50.2.1,y50.2.2.1,y50.2.2.2.1,y50.2.2.2.2.2,y50.2.2.2.2.1,y50.2.2.2.2.2,(y50.2.1.length:Int),(0:Int)),slQ (rS aG) (slQ (rS aG) (slQ (rS aG) (slQ (rS aG) (⟨rfl,⟨rfl,⟨rfl,⟨rfl,⟨rfl,⟨(uI (gl aG y50.2.2.2.1) (rS aG)),h112.1⟩⟩⟩⟩⟩⟩))))⟩,fun y56 h114=>br (h112.2 y56 h114) Cnd.dec (fun h57 k110=>chk k110.2.2 Cnd.ix ⟨k110.1,k110.2.1⟩ (fun h59 k80=>chk k80.2.2 Cnd.ix ⟨k80.1,k80.2.1⟩ (fun h60 k79=>br k79 Cnd.seq (fun h61 k77=>chk k77.2.2 Cnd.ix ⟨k77.1,k77.2.1⟩ (fun h63 k70=>⟨⟨rfl,(nU k70.1 (by decide))⟩,wrapK.i64 k70.2 (fun h67 h68 k69=>⟨(y56.1,y56.2.1,y56.2.2.1,y56.2.2.2.1++([at_ y56.1 y56.2.2.2.2.1]),y56.2.2.2.2.1,y56.2.2.2.2.2.1,y56.2.2.2.2.2.2.1,y56.2.2.2.2.2.2.2.1,(y56.2.2.2.2.2.2.2.2+(1:Int))),slQ (rS aG) (slQ (rS aG) (slQ (rS aG) (slQ (Rds.app (enc:=aG) (rS aG) (Rds.one (enc:=aG) (DEqs.refl _))) (⟨rfl,⟨rfl,⟨rfl,⟨rfl,⟨rfl,⟨(uI (gO (gl aG y56.2.2.2.1) y56.2.2.2.1.length (fun _=>[.str (at_ y56.1 y56.2.2.2.2.1)])) (Rds.app (enc:=aG) (rS aG) (Rds.one (enc:=aG) (DEqs.refl _)))),k69⟩⟩⟩⟩⟩⟩))))⟩)⟩)) (fun h62 k78=>wrapK.i64 k78 (fun h74 h75 k76=>⟨(y56.1,y56.2.1,y56.2.2.1,y56.2.2.2.1,y56.2.2.2.2.1,y56.2.2.2.2.2.1,y56.2.2.2.2.2.2.1,y56.2.2.2.2.2.2.2.1,(y56.2.2.2.2.2.2.2.2+(1:Int))),slQ (rS aG) (slQ (rS aG) (slQ (rS aG) (slQ (rS aG) (⟨rfl,⟨rfl,⟨rfl,⟨rfl,⟨rfl,⟨(uI (gl aG y56.2.2.2.1) (rS aG)),k76⟩⟩⟩⟩⟩⟩))))⟩))))) (fun h58 k111=>Exists.elim k111 (fun I81 h98=>⟨I81,br h98.1 Cnd.dec (fun h82 k94=>wrapK.i64 k94 (fun h90 h91 k92=>chk k92.2.2 Cnd.ix ⟨k92.1,k92.2.1⟩ (fun h85 k89=>chk k89.2.2 Cnd.ix ⟨k89.1,k89.2.1⟩ (fun h86 k88=>⟨(y56.1,y56.2.1,y56.2.2.1,y56.2.2.2.1,y56.2.2.2.2.2.1,y56.2.2.2.2.2.2.1,(!(Op.bytesLess (at_ y56.1 (y56.2.2.2.2.1 - (1:Int))).toList (at_ y56.1 y56.2.2.2.2.1).toList))),slQ (rS aG) (slQ (rS aG) (slQ (rS aG) (slQ (rS aG) (⟨rfl,⟨rfl,⟨rfl,⟨(uI (gl aG y56.2.2.2.1) (rS aG)),k88⟩⟩⟩⟩))))⟩)))) (fun h83 k95=>⟨(y56.1,y56.2.1,y56.2.2.1,y56.2.2.2.1,y56.2.2.2.2.2.1,y56.2.2.2.2.2.2.1,false),slQ (rS aG) (slQ (rS aG) (slQ (rS aG) (slQ (rS aG) (⟨rfl,⟨rfl,⟨rfl,⟨(uI (gl aG y56.2.2.2.1) (rS aG)),k95⟩⟩⟩⟩))))⟩),fun y96 h97=>br (h98.2 y96 h97) Cnd.b (fun h99 k108=>⟨k108,trivial⟩) (fun h100 k109=>wrapK.i64 k109 (fun h105 h106 k107=>⟨(y96.1,y96.2.1,y96.2.2.1,y96.2.2.2.1,y96.2.2.2.2.1,(y96.2.2.2.2.2.1+(1:Int))),slQ (rS aG) (slQ (rS aG) (slQ (rS aG) (slQ (rS aG) (⟨rfl,⟨rfl,⟨(uI (gl aG y96.2.2.2.1) (rS aG)),k107⟩⟩⟩))))⟩))⟩))⟩))) (fun h52 k119=>(f150.ei ⟨k119.1,⟨k119.2,trivial⟩⟩))⟩))⟩))⟩⟩⟩⟩))⟩⟩))⟩)⟩))⟩⟩)⟩))⟩))⟩))⟩⟩
theorem f334.eq (a:(List (aE))×(List (aB))×(List (aB))):(f334.af a).gives f334.env (f334.args a) (f334.blks a) (f334.res a) (f334.blks' a)=f334.tree a:=by kernel_rfl
def nB (x y:List ByteArray):List ByteArray:=x.flatMap fun t=>y.filter fun u=>decide (t=u)
def inB (t:ByteArray) (y:List ByteArray):Bool:=y.any fun u=>decide (t=u)
theorem aEK {t:ByteArray} {y:List ByteArray}:inB t y=true↔t∈y:=by
 unfold inB
 rw [List.any_eq_true]
 exact ⟨fun ⟨u,h1,h2⟩=>of_decide_eq_true h2 ▸ h1,fun h=>⟨t,h,decide_eq_true rfl⟩⟩
theorem o6:∀ {y:List ByteArray},y.Nodup→∀ t,(y.filter fun u=>decide (t=u))=bif inB t y then [t] else []
 | [],_,t=>rfl
 | u::y,h,t=>by
  obtain ⟨h1,h2⟩:=List.nodup_cons.1 h
  have hc:inB t (u::y)=(decide (t=u) || inB t y):=rfl
  by_cases e:t=u
  ·subst e
   rw [List.filter_cons_of_pos (by simp),o6 h2,hc,Bool.eq_false_iff.2 (fun hh=>h1 (aEK.1 hh))]
   simp
  ·rw [List.filter_cons_of_neg (by simpa using e),o6 h2,hc,decide_eq_false e]
   rfl
theorem aBU {y:List ByteArray} (h:y.Nodup) (x:List ByteArray):nB x y=x.filter fun t=>inB t y:=by
 unfold nB
 induction x with
 | nil=>rfl
 | cons t x ih =>
  rw [List.flatMap_cons,ih,o6 h]
  cases m:inB t y with
  | true =>
   rw [List.filter_cons_of_pos (p:=fun t=>inB t y) m]
   rfl
  | false =>
   rw [List.filter_cons_of_neg (by rw [m]; simp)]
   rfl
theorem aDW (x y:List ByteArray) (t:ByteArray):nB (x++[t]) y=nB x y++y.filter fun u=>decide (t=u):=by
 unfold nB
 rw [List.flatMap_append]
 simp
theorem aD0 (x a b:Lbs):jD (x,a++b)=(jD (x,a)&&jD (x,b)):=by
 unfold jD
 rw [List.all_append]
theorem aJC {l:List (ByteArray×Lbs)} (h:Rising l) (a b:Lbs):nB (iS l a) (iS l b)=iS l (a++b):=by
 have hr:Rising (l.filter fun x=>jD (x.2,b)):=List.Pairwise.filter _ h
 have hnd:(iS l b).Nodup:=hr.namesN
 rw [aBU hnd]
 unfold iS
 rw [List.filter_map,List.filter_filter]
 congr 1
 refine List.filter_congr fun x hx=>?_
 rw [aD0,Bool.and_comm]
 congr 1
 rw [Bool.eq_iff_iff]
 show inB x.1 _=true↔_
 rw [aEK,List.mem_map]
 constructor
 ·rintro ⟨y,hy,e⟩
  obtain ⟨h1,h2⟩:=List.mem_filter.1 hy
  have:y.2=x.2:=h.uniq (k:=x.1) (by rw [← e]; exact h1) hx
  rw [this] at h2
  exact h2
 ·intro hb
  exact ⟨x,List.mem_filter.2 ⟨hx,hb⟩,rfl⟩
theorem f334.ok (a:List (Int×ByteArray×Lbs)×Lbs×Lbs) (h:f334.lpre a):f334.vc a:=by
 obtain ⟨s,A,B⟩:=a
 obtain ⟨_,hs⟩:=h
 have hs:bD.size s+(bZ.size A+bZ.size B)≤1048576:=hs
 refine ⟨fun c=>absurd rfl c,fun _=>⟨kE (by simp only; omega),fun _=>rfl,fun hf=>⟨m8 (by simp only; omega),fun _=>rfl,fun ha=>⟨m8 (by simp only; omega),fun _=>rfl,fun hb=>?_⟩⟩⟩⟩
 have hf:=Classical.not_not.1 hf
 have ha:=(fY.1 (Classical.not_not.1 ha)).1
 have hb:=(fY.1 (Classical.not_not.1 hb)).1
 have hlen:=(fX.1 hf).1
 simp only at hlen ha hb
 refine ⟨fun y=>0≤y.1∧y.1≤(s.length:Int)∧∃ l,Play y.2.2 l y.1.toNat,fun y=>s.length - y.1.toNat,⟨by simp only; omega,by simp only; omega,[],Play.zero⟩,fun y hy=>?_⟩
 obtain ⟨i,c,o⟩:=y
 obtain ⟨g0,g1,l,p⟩:=hy
 simp only at g0 g1 p
 refine ⟨fun hlt=>?_,fun _=>?_⟩
 ·simp only at hlt ⊢
  obtain ⟨q1,q2,q3⟩:=wR hf g0 hlt
  refine ⟨g0,hlt,g0,hlt,p.putPre _ q2,by omega,by omega,⟨by omega,by omega,rV l (at_ s i).2.1 (at_ s i).2.2,?_⟩,by omega⟩
  rw [show (i+1).toNat=i.toNat+1 by omega]
  exact p.put q1 q2
 ·have hn:i.toNat≤200:=by omega
  have hn2:i.toNat≤1048576:=by omega
  have w:∀ W:Lbs,a6 (o,W)=iS l W:=fun W=>p.rep.with W
  have wl:∀ W:Lbs,(iS l W).length≤200:=fun W=>Nat.le_trans (aEN l W) (Nat.le_trans p.len hn)
  simp only [List.nil_append]
  rw [w A,w B,w (A++B)]
  have hlA:=wl A
  have hlB:=wl B
  have hris:(iS l A).Pairwise fun x y=>slt x y=true:=Rising.names (List.Pairwise.filter _ p.rep.ris)
  have hnd:(iS l B).Nodup:=Rising.namesN (List.Pairwise.filter _ p.rep.ris)
  have hb2:=aJC p.rep.ris A B
  have hX3:=wl (A++B)
  generalize iS l (A++B)=X3 at hb2 hX3 ⊢
  generalize iS l A=X1 at hlA hris hb2 ⊢
  generalize iS l B=X2 at hlB hnd hb2 ⊢
  have hwl:∀ n,(nB (X1.take n) X2).length≤200:=fun n=>by
   rw [aBU hnd]
   exact Nat.le_trans (List.length_filter_le _ _) (Nat.le_trans (by rw [List.length_take]; omega) hlA)
  refine ⟨p.withPre hn2 (by omega),p.withPre hn2 (by omega),by omega,by omega,p.withPre hn2 (by rw [List.length_append]; omega),?_⟩
  refine ⟨fun y=>y.1=X1∧y.2.1=X2∧y.2.2.1=X3∧y.2.2.2.2.1=(X1.length:Int)∧0≤y.2.2.2.2.2∧y.2.2.2.2.2≤(X1.length:Int)∧y.2.2.2.1=nB (X1.take y.2.2.2.2.2.toNat) X2,fun y=>X1.length - y.2.2.2.2.2.toNat,
   ⟨rfl,rfl,rfl,rfl,by simp only; omega,by simp only; omega,rfl⟩,fun y hy=>?_⟩
  obtain ⟨x1,x2,x3,out,n,j⟩:=y
  obtain ⟨e1,e2,e3,e4,k0,k1,k2⟩:=hy
  simp only at e1 e2 e3 e4 k0 k1 k2
  subst e1 e2 e3 e4
  refine ⟨fun hlt=>?_,fun hge=>?_⟩
  ·simp only at hlt ⊢
   refine ⟨fun y=>y.1=x1∧y.2.1=x2∧y.2.2.1=x3∧y.2.2.2.2.1=j∧y.2.2.2.2.2.1=(x1.length:Int)∧y.2.2.2.2.2.2.1=j∧y.2.2.2.2.2.2.2.1=(x2.length:Int)∧0≤y.2.2.2.2.2.2.2.2∧y.2.2.2.2.2.2.2.2≤(x2.length:Int) ∧
     y.2.2.2.1=nB (x1.take j.toNat) x2++(x2.take y.2.2.2.2.2.2.2.2.toNat).filter fun u=>decide (at_ x1 j=u),
    fun y=>x2.length - y.2.2.2.2.2.2.2.2.toNat,⟨rfl,rfl,rfl,rfl,rfl,rfl,rfl,by simp only; omega,by simp only; omega,by simp only; rw [k2]; simp⟩,fun y hy=>?_⟩
   obtain ⟨u1,u2,u3,out',j1,n1,j2,m,q⟩:=y
   obtain ⟨f1,f2,f3,f4,f5,f6,f7,r0,r1,r2⟩:=hy
   simp only at f1 f2 f3 f4 f5 f6 f7 r0 r1 r2
   subst f1 f2 f3 f4 f5 f6 f7
   refine ⟨fun hq=>?_,fun hq=>?_⟩
   ·simp only at hq ⊢
    have hs:u2.take (q+1).toNat=u2.take q.toNat++[at_ u2 q]:=by rw [show (q+1).toNat=q.toNat+1 by omega,oL (by omega),d9]
    have hol:out'.length≤400:=by
     rw [r2,List.length_append]
     have t1:=hwl j2.toNat
     have t2:((u2.take q.toNat).filter fun u=>decide (at_ u1 j2=u)).length≤(u2.take q.toNat).length:=List.length_filter_le _ _
     rw [List.length_take] at t2
     omega
    refine ⟨k0,hlt,r0,hq,fun c=>⟨k0,hlt,by omega,by omega,by omega,⟨trivial,trivial,trivial,trivial,trivial,trivial,trivial,by omega,by omega,?_⟩,by omega⟩,fun c=>⟨by omega,by omega,⟨trivial,trivial,trivial,trivial,trivial,trivial,trivial,by omega,by omega,?_⟩,by omega⟩⟩
    ·rw [hs,List.filter_append,List.filter_cons_of_pos (by simpa using c),List.filter_nil,← List.append_assoc,← r2,c]
    ·rw [hs,List.filter_append,List.filter_cons_of_neg (by simpa using c),List.filter_nil,List.append_nil]
     exact r2
   ·simp only at hq ⊢
    have hq2:q.toNat=u2.length:=by omega
    rw [hq2,List.take_length] at r2
    have hs:u1.take (j2+1).toNat=u1.take j2.toNat++[at_ u1 j2]:=by rw [show (j2+1).toNat=j2.toNat+1 by omega,oL (by omega),d9]
    have hw:out'=nB (u1.take (j2+1).toNat) u2:=by rw [hs,aDW]; exact r2
    refine ⟨fun y=>y.1=u1∧y.2.1=u2∧y.2.2.1=u3∧y.2.2.2.1=nB (u1.take (j2+1).toNat) u2∧y.2.2.2.2.1=(u1.length:Int)∧y.2.2.2.2.2.1=j2∧y.2.2.2.2.2.2=false,⟨fun hj=>⟨by omega,by omega,by omega,by omega,k0,hlt,rfl,rfl,rfl,hw,rfl,rfl,?_⟩,fun hj=>⟨rfl,rfl,rfl,hw,rfl,rfl,rfl⟩⟩,fun y hy=>?_⟩
    ·have hp:=List.pairwise_iff_getElem.1 hris (j2 - 1).toNat j2.toNat (by omega) (by omega) (by omega)
     have t1:at_ u1 (j2 - 1)=u1[(j2 - 1).toNat]'(by omega):=by rw [d9,List.getD_eq_getElem?_getD,List.getElem?_eq_getElem (by omega)]; rfl
     have t2:at_ u1 j2=u1[j2.toNat]'(by omega):=by rw [d9,List.getD_eq_getElem?_getD,List.getElem?_eq_getElem (by omega)]; rfl
     show (!(slt (at_ u1 (j2 - 1)) (at_ u1 j2)))=false
     rw [t1,t2,hp]
     rfl
    ·obtain ⟨v1,v2,v3,out2,n2,j3,b⟩:=y
     obtain ⟨d1,d2,d3,d4,d5,d6,d7⟩:=hy
     simp only at d1 d2 d3 d4 d5 d6 d7
     subst d1 d2 d3 d5 d6 d7
     refine ⟨fun c=>absurd c (by simp),fun _=>⟨by simp only; omega,by simp only; omega,⟨rfl,rfl,rfl,rfl,by simp only; omega,by simp only; omega,d4⟩,by simp only; omega⟩⟩
  ·simp only at hge ⊢
   have hj:j.toNat=x1.length:=by omega
   rw [hj,List.take_length] at k2
   have e:x3=out:=by rw [k2]; exact hb2.symm
   subst e
   exact ⟨⟨by show x3.length≤_; omega,by show x3.length≤_; omega⟩,decide_eq_true rfl⟩
end Go.Abs
