/- Functions, and what the code asks of them: PWheelLaw3. -/
import Derived.KernelRfl
import Derived.Test.YtfjnkkfhhalepaaWheelSetsP4
import Derived.Test.YtfjnkkfhhalepaaWheelSetsP5
import Derived.Test.YtfjnkkfhhalepaaWheelSetsP6
import Derived.Test.YtfjnkkfhhalepaaWheelSetsP7
import Derived.Test.YtfjnkkfhhalepaaWheelSetsP8
import Derived.Test.YtfjnkkfhhalepaaWheelSetsP9
import Derived.Test.YtfjnkkfhhalepaaWheelSetsP10
import Derived.Test.YtfjnkkfhhalepaaWheelSetsP11
import Derived.Test.YtfjnkkfhhalepaaWheelSetsP12
import Derived.Test.YtfjnkkfhhalepaaWheelSetsP15
import Derived.Test.YtfjnkkfhhalepaaWheelSetsP16
import Derived.Test.YtfjnkkfhhalepaaWheelSetsP17
import Derived.Test.YtfjnkkfhhalepaaWheelSetsP18
import Derived.Test.YtfjnkkfhhalepaaWheelSetsP20
import Derived.Test.YtfjnkkfhhalepaaWheelSetsP21
import Derived.Test.YtfjnkkfhhalepaaWheelSetsP22
import Derived.Test.YtfjnkkfhhalepaaWheelSetsP23
import Derived.Test.YtfjnkkfhhalepaaWheelSetsP24
set_option maxRecDepth 100000
set_option maxHeartbeats 4000000
set_option linter.unusedVariables false
set_option linter.unusedSimpArgs false
set_option linter.unusedSectionVars false
-- interregnum/interregnumlaw19.WheelParts
namespace Go.Abs
open Go
set_option linter.unusedVariables false
def f271.wf (a:(List (aD))×ByteArray×Int×Int):Prop:=cH.ok a.1∧q7.ok a.2.1∧jX.ok a.2.2.1∧jX.ok a.2.2.2
def f271.size (a:(List (aD))×ByteArray×Int×Int):Nat:=cH.size a.1+(q7.size a.2.1+(jX.size a.2.2.1+(jX.size a.2.2.2)))
def f271.lpre (a:(List (aD))×ByteArray×Int×Int):Prop:=f271.wf a∧f271.size a≤1048576
def f271.args (a:(List (aD))×ByteArray×Int×Int):List D:=[.slice .ro 3 a.1.length (gl a9 a.1),.str a.2.1,.int .i64 a.2.2.1,.int .i64 a.2.2.2]
def f271.blks (a:(List (aD))×ByteArray×Int×Int):List (List D):=[]
def f271.res (a:(List (aD))×ByteArray×Int×Int):List D:=[.bool (bG a)]
def f271.blks' (a:(List (aD))×ByteArray×Int×Int):List (List D):=[]
def f271.C:aO:=FnC f271.args f271.blks (fun a=>f271.lpre a) f271.res f271.blks'
def f271.S0 (a:(List (aD))×ByteArray×Int×Int) (x:Int×(Nat×Ob Int)):Tm:=⟨.slice .ro 3 a.1.length (gl a9 a.1)::.str a.2.1::.int .i64 a.2.2.1::.int .i64 a.2.2.2::.dead::.dead::.dead::.dead::.dead::.ptr 24 0::dd 26 (.int .i64 (a.1.length:Int)::.int .i64 x.1::dd 96 []),[(24,false,[.dead,.obj 17 x.2.1 1 x.2.2.nl x.2.2.n x.2.2.ks (ovs aJ x.2.2)])],[]⟩
def f271.S1 (a:(List (aD))×ByteArray×Int×Int) (x:(List (ByteArray))×Bool×Int×Int×(Nat×Ob Int)):Tm:=⟨.dead::.str a.2.1::.int .i64 a.2.2.1::.int .i64 a.2.2.2::.dead::.dead::.dead::.dead::.dead::.ptr 24 0::.dead::.dead::.dead::.slice .ro 1 x.1.length (gl aA x.1)::.bool x.2.1::dd 59 (.int .i64 x.2.2.1::.int .i64 x.2.2.2.1::dd 58 []),[(24,false,[.dead,.obj 17 x.2.2.2.2.1 1 x.2.2.2.2.2.nl x.2.2.2.2.2.n x.2.2.2.2.2.ks (ovs aJ x.2.2.2.2.2)])],[]⟩
def f271.S2 (a:(List (aD))×ByteArray×Int×Int) (x:(List (ByteArray))×Int×Int):Tm:=⟨.dead::.str a.2.1::dd 11 (.slice .ro 1 x.1.length (gl aA x.1)::dd 109 (.int .i64 x.2.1::.int .i64 x.2.2::dd 9 [])),[],[]⟩
def f271.l1 (a:(List (aD))×ByteArray×Int×Int) (K:((List (ByteArray))×Bool×Int×Int×(Nat×Ob Int))→Prop) (t:(List (ByteArray))×Bool×Int×Int×(Nat×Ob Int)):Prop:=∃ x:(List (ByteArray))×Bool×Int×Int×(Nat×Ob Int),(a.2.1=a.2.1)∧(a.2.2.1=a.2.2.1)∧(a.2.2.2=a.2.2.2)∧SlQ t.1.length x.1.length (gl aA t.1) (gl aA x.1) ((t.2.1=x.2.1)∧(t.2.2.1=x.2.2.1)∧(t.2.2.2.1=x.2.2.2.1)∧ObQ t.2.2.2.2.1 x.2.2.2.2.1 t.2.2.2.2.2.nl x.2.2.2.2.2.nl t.2.2.2.2.2.n x.2.2.2.2.2.n t.2.2.2.2.2.ks x.2.2.2.2.2.ks (ovs aJ t.2.2.2.2.2) (ovs aJ x.2.2.2.2.2) (K x))
theorem f271.l1i (a:(List (aD))×ByteArray×Int×Int) {K:((List (ByteArray))×Bool×Int×Int×(Nat×Ob Int))→Prop} {t:(List (ByteArray))×Bool×Int×Int×(Nat×Ob Int)} (h:K t):f271.l1 a K t:=⟨t,⟨rfl,⟨rfl,⟨rfl,slQ (rS aA) (⟨rfl,⟨rfl,⟨rfl,obQ rfl (OV.self (e:=aJ)) rfl (h)⟩⟩⟩)⟩⟩⟩⟩
def f271.kills (a:(List (aD))×ByteArray×Int×Int):List Hint:=[.tell (Int×(Nat×Ob Int)) (f271.S0 a),
 .tell ((List (ByteArray))×Bool×Int×Int×(Nat×Ob Int)) (f271.S1 a),
 .tell ((List (ByteArray))×Int×Int) (f271.S2 a)]
def f271.cuts (a:(List (aD))×ByteArray×Int×Int):List (Nat×Σ β:Type,β→Tm):=[(3001009000004,⟨Unit,fun x=>⟨[],[],[]⟩⟩)]
def f271.af (a:(List (aD))×ByteArray×Int×Int):AF:=AF.mk (.seq (.region [⟨(some 8),0,.move,[.c (.bool false)],none⟩])
 (.seq (.seq (.region [oT 19 1 (.call false 293) [],
 oT 20 5 (.un .not) [19],
 mT 21 6 20,
 oG 22 7 .move [0] 21 false,
 oG 23 8 (.call false 294) [22] 21 false,
 oG 24 12 (.un .not) [23] 21 false,
 ⟨(some 25),13,.pick,[.t 21,.c (.bool true),.t 24],none⟩,
 mT 26 14 25,
 oG 27 15 .move [1] 26 false,
 oG 28 16 (.len true) [27] 26 false,
 ⟨(some 29),17,(.bin .gtr),[.t 28,.c (.int .i64 (1000))],(some (26,false))⟩,
 ⟨(some 30),18,.pick,[.t 26,.c (.bool true),.t 29],none⟩])
 (.cond (.t 30) (.seq (.region [oT 31 19 (.call false 293) [],
 mT 8 23 31])
 (.ret)) (.skip)))
 (.seq (.region [oT 32 24 (.call false 295) [],
 mT 9 28 32])
 (.seq (.toObj 0 1 9) (.seq (.seq (.region [mT 33 29 9,
 oT 34 30 (.isNil true false) [33]])
 (.cond (.t 34) (.seq (.region [⟨(some 8),31,.move,[.c (.bool false)],none⟩])
 (.ret)) (.skip)))
 (.seq (.seq (.region [mT 35 32 0,
 oT 36 33 (.len false) [35],
 ⟨(some 37),34,.move,[.c (.int .i64 (0))],none⟩])
 (.block 0 (.loopT (Int×(Nat×Ob Int)) (f271.S0 a) 35 55 (.seq (.region [oT 38 35 (.bin .lss) [37,36]])
 (.seq (.cond (.t 38) (.skip) (.exit 0))
 (.seq (.block 1 (.seq (.region [mT 39 36 37,
 mT 10 37 39])
 (.region [mT 40 38 9,
 mT 41 39 0,
 mT 42 40 10,
 oT 43 41 (.indexAddr 3 none) [41,42],
 oT 44 42 (.fieldAddr 2) [43],
 oT 45 43 (.load false 1) [44],
 mT 46 44 0,
 mT 47 45 10,
 oT 48 46 (.indexAddr 3 none) [46,47],
 oT 49 47 (.fieldAddr 1) [48],
 oT 50 48 (.load false 1) [49],
 oT 51 49 (.call true 296) [40,45,50]])))
 (.region [⟨(some 52),53,(.bin .add),[.t 37,.c (.int .i64 (1))],none⟩,
 mT 37 54 52])))))))
 (.seq (.region [mT 53 55 9,
 mT 54 56 1,
 mT 55 57 2,
 oT 56 58 (.call true 296) [53,54,55]])
 (.seq (.region [mT 58 62 9,
 mT 59 63 1,
 oT 60 64 (.call true 300) [58,59],
 mT 57 68 60,
 oT 61 69 (.extract 0) [57],
 oT 62 70 (.extract 1) [57],
 mT 11 71 61,
 mT 12 72 62])
 (.seq (.seq (.region [mT 63 73 11,
 mT 64 74 2,
 oT 65 75 (.bin .neq) [63,64],
 mT 66 76 65,
 oG 67 77 .move [12] 66 false,
 oG 68 78 (.un .not) [67] 66 false,
 ⟨(some 69),79,.pick,[.t 66,.c (.bool true),.t 68],none⟩])
 (.cond (.t 69) (.seq (.region [⟨(some 8),80,.move,[.c (.bool false)],none⟩])
 (.ret)) (.skip)))
 (.seq (.region [mT 70 81 9,
 mT 71 82 3,
 oT 72 83 (.call true 302) [70,71],
 mT 13 87 72])
 (.seq (.region [⟨(some 14),88,.move,[.c (.bool false)],none⟩])
 (.seq (.seq (.region [mT 73 89 13,
 oT 74 90 (.len false) [73],
 ⟨(some 75),91,.move,[.c (.int .i64 (0))],none⟩])
 (.block 2 (.loopT ((List (ByteArray))×Bool×Int×Int×(Nat×Ob Int)) (f271.S1 a) 92 107 (.seq (.region [oT 76 92 (.bin .lss) [75,74]])
 (.seq (.cond (.t 76) (.skip) (.exit 2))
 (.seq (.block 3 (.seq (.region [mT 77 93 75,
 mT 15 94 77])
 (.region [mT 78 95 14,
 mT 79 96 78,
 oG 80 97 .move [13] 79 false,
 oG 81 98 .move [15] 79 false,
 oG 82 99 (.indexAddr 1 none) [80,81] 79 false,
 oG 83 100 (.load false 1) [82] 79 false,
 oG 84 101 .move [1] 79 false,
 oG 85 102 (.bin .eql) [83,84] 79 false,
 ⟨(some 86),103,.pick,[.t 79,.c (.bool true),.t 85],none⟩,
 mT 14 104 86])))
 (.region [⟨(some 87),105,(.bin .add),[.t 75,.c (.int .i64 (1))],none⟩,
 mT 75 106 87])))))))
 (.seq (.region [mT 89 107 9,
 mT 90 108 1,
 oT 91 109 (.call true 300) [89,90],
 mT 88 113 91,
 oT 92 114 (.extract 0) [88],
 oT 93 115 (.extract 1) [88],
 mT 16 116 92,
 mT 17 117 93])
 (.seq (.seq (.region [mT 94 118 14,
 mT 95 119 2,
 mT 96 120 3,
 oT 97 121 (.bin .lss) [95,96],
 oT 98 122 (.binB true) [94,97],
 mT 99 123 98,
 oG 100 124 .move [17] 99 false,
 oG 101 125 .move [14] 99 false,
 oG 102 126 (.binB false) [100,101] 99 false,
 ⟨(some 103),127,.pick,[.t 99,.c (.bool true),.t 102],none⟩])
 (.cond (.t 103) (.seq (.region [⟨(some 8),128,.move,[.c (.bool false)],none⟩])
 (.ret)) (.skip)))
 (.seq (.region [mT 104 129 9,
 mT 105 130 1,
 mT 106 131 2,
 oT 107 132 (.call true 296) [104,105,106]])
 (.seq (.seq (.region [mT 108 136 9,
 mT 109 137 1,
 oT 110 138 (.call true 298) [108,109],
 oT 111 142 (.un .not) [110],
 mT 112 143 111,
 oG 113 144 .move [9] 112 false,
 oG 114 145 .move [1] 112 false,
 oG 115 146 (.call true 298) [113,114] 112 false,
 ⟨(some 116),150,.pick,[.t 112,.c (.bool true),.t 115],none⟩])
 (.cond (.t 116) (.seq (.region [⟨(some 8),151,.move,[.c (.bool false)],none⟩])
 (.ret)) (.skip)))
 (.seq (.region [mT 117 152 9,
 mT 118 153 2,
 mT 119 154 3,
 oT 120 155 (.mnmx true) [118,119],
 oT 121 156 (.call true 302) [117,120],
 mT 13 160 121])
 (.seq (.seq (.region [mT 122 161 13,
 oT 123 162 (.len false) [122],
 ⟨(some 124),163,.move,[.c (.int .i64 (0))],none⟩])
 (.block 4 (.loopT ((List (ByteArray))×Int×Int) (f271.S2 a) 164 176 (.seq (.region [oT 125 164 (.bin .lss) [124,123]])
 (.seq (.cond (.t 125) (.skip) (.exit 4))
 (.seq (.block 5 (.seq (.region [mT 126 165 124,
 mT 18 166 126])
 (.seq (.region [mT 127 167 13,
 mT 128 168 18,
 oT 129 169 (.indexAddr 1 none) [127,128],
 oT 130 170 (.load false 1) [129],
 mT 131 171 1,
 oT 132 172 (.bin .eql) [130,131]])
 (.cond (.t 132) (.seq (.region [⟨(some 8),173,.move,[.c (.bool false)],none⟩])
 (.ret)) (.skip)))))
 (.region [⟨(some 133),174,(.bin .add),[.t 124,.c (.int .i64 (1))],none⟩,
 mT 124 175 133])))))))
 (.seq (.region [⟨(some 8),176,.move,[.c (.bool true)],none⟩])
 (.ret))))))))))))))))))))
 [.tmp 8] 0 130
def f271.env:Env:=[(293,f293.C),(294,f294.C),(295,f295.C),(296,f296.C),(300,f300.C),(302,f302.C),(298,f298.C)]
def f271.tree (a:(List (aD))×ByteArray×Int×Int):Prop:=∃ c1:Unit,True∧Br (!(bG c1)) (∃ c4:Unit,True∧((bG c4)=(bG a))∧True) (f294.ent (fun c7=>(L20 c7)∧Br (!(jU c7)) (∃ c10:Unit,True∧((bG c10)=(bG a))∧True) (Br (decide ((1000:Int) < (a.2.1.size:Int))) (∃ c15:Unit,True∧((bG c15)=(bG a))∧True) (∃ c18:Unit,True∧∃ (I20:(Int×(Nat×Ob Int))→Prop) (μ21:(Int×(Nat×Ob Int))→Nat),(∃ x19:Int×(Nat×Ob Int),SlS a9 a.1 ((a.2.1=a.2.1)∧(a.2.2.1=a.2.2.1)∧(a.2.2.2=a.2.2.2)∧((a.1.length:Int)=(a.1.length:Int))∧((0:Int)=x19.1)∧ObQ 0 x19.2.1 (ob0 Int).nl x19.2.2.nl (ob0 Int).n x19.2.2.n (ob0 Int).ks x19.2.2.ks (fun _ _=>[]) (ovs aJ x19.2.2) (I20 x19)))∧∀ y22:Int×(Nat×Ob Int),I20 y22→(Br (decide (y22.1 < (a.1.length:Int))) (Br (decide ((0:Int)≤y22.1)&&decide (y22.1 < (a.1.length:Int))) (Br (decide ((0:Int)≤y22.1)&&decide (y22.1 < (a.1.length:Int))) (∃ c27:(Ob Int)×ByteArray×Int,(((at_ a.1 y22.1).2.2)=c27.2.1)∧(((at_ a.1 y22.1).2.1)=c27.2.2)∧ObQ 0 0 y22.2.2.nl c27.1.nl y22.2.2.n c27.1.n y22.2.2.ks c27.1.ks (ovs aJ y22.2.2) (ovs aJ c27.1) (True∧Let (wI (y22.1+(1:Int))) (fun v28:Int=>∃ x29:Int×(Nat×Ob Int),SlS a9 a.1 ((a.2.1=a.2.1)∧(a.2.2.1=a.2.2.1)∧(a.2.2.2=a.2.2.2)∧((a.1.length:Int)=(a.1.length:Int))∧(v28=x29.1)∧ObQ (y22.2.1+1) x29.2.1 (setW c27).nl x29.2.2.nl (setW c27).n x29.2.2.n (setW c27).ks x29.2.2.ks (ovs aJ (setW c27)) (ovs aJ x29.2.2) (I20 x29∧μ21 x29 < μ21 y22))))) False) False) (∃ c37:(Ob Int)×ByteArray×Int,(a.2.1=c37.2.1)∧(a.2.2.1=c37.2.2)∧ObQ 0 0 y22.2.2.nl c37.1.nl y22.2.2.n c37.1.n y22.2.2.ks c37.1.ks (ovs aJ y22.2.2) (ovs aJ c37.1) (True∧∃ c38:(Ob Int)×ByteArray,(a.2.1=c38.2)∧ObQ 0 0 (setW c37).nl c38.1.nl (setW c37).n c38.1.n (setW c37).ks c38.1.ks (ovs aJ (setW c37)) (ovs aJ c38.1) (True∧Br (((atW c38).1) != a.2.2.1) ((false=(bG a))∧True) (Br (!((atW c38).2.1)) ((false=(bG a))∧True) (∃ c45:(Ob Int)×Int,(a.2.2.2=c45.2)∧ObQ 0 0 ((atW c38).2.2).nl c45.1.nl ((atW c38).2.2).n c45.1.n ((atW c38).2.2).ks c45.1.ks (ovs aJ ((atW c38).2.2)) (ovs aJ c45.1) ((f9 c45)∧∃ (I47:((List (ByteArray))×Bool×Int×Int×(Nat×Ob Int))→Prop) (μ48:((List (ByteArray))×Bool×Int×Int×(Nat×Ob Int))→Nat),(f271.l1 a I47 ((dU c45).1,false,(((dU c45).1).length:Int),(0:Int),(((y22.2.1+1)+1)+1,(dU c45).2)))∧∀ y49:(List (ByteArray))×Bool×Int×Int×(Nat×Ob Int),I47 y49→(Br (decide (y49.2.2.2.1 < y49.2.2.1)) (Br y49.2.1 (Let (wI (y49.2.2.2.1+(1:Int))) (fun v54:Int=>f271.l1 a (Dn I47 μ48 y49) (y49.1,true,y49.2.2.1,v54,(y49.2.2.2.2.1,y49.2.2.2.2.2)))) (Br (decide ((0:Int)≤y49.2.2.2.1)&&decide (y49.2.2.2.1 < (y49.1.length:Int))) (Let (wI (y49.2.2.2.1+(1:Int))) (fun v61:Int=>f271.l1 a (Dn I47 μ48 y49) (y49.1,((at_ y49.1 y49.2.2.2.1).toList==a.2.1.toList),y49.2.2.1,v61,(y49.2.2.2.2.1,y49.2.2.2.2.2)))) False)) (∃ c70:(Ob Int)×ByteArray,(a.2.1=c70.2)∧ObQ 0 0 y49.2.2.2.2.2.nl c70.1.nl y49.2.2.2.2.2.n c70.1.n y49.2.2.2.2.2.ks c70.1.ks (ovs aJ y49.2.2.2.2.2) (ovs aJ c70.1) (True∧Br (!(y49.2.1==(decide (a.2.2.1 < a.2.2.2)))) ((false=(bG a))∧True) (Br (((atW c70).2.1)==y49.2.1) ((false=(bG a))∧True) (∃ c77:(Ob Int)×ByteArray×Int,(a.2.1=c77.2.1)∧(a.2.2.1=c77.2.2)∧ObQ 0 0 ((atW c70).2.2).nl c77.1.nl ((atW c70).2.2).n c77.1.n ((atW c70).2.2).ks c77.1.ks (ovs aJ ((atW c70).2.2)) (ovs aJ c77.1) (True∧∃ c78:(Ob Int)×ByteArray,(a.2.1=c78.2)∧ObQ 0 0 (setW c77).nl c78.1.nl (setW c77).n c78.1.n (setW c77).ks c78.1.ks (ovs aJ (setW c77)) (ovs aJ c78.1) (True∧Br (!((delW c78).1)) ((false=(bG a))∧True) (∃ c82:(Ob Int)×ByteArray,(a.2.1=c82.2)∧ObQ 0 0 ((delW c78).2).nl c82.1.nl ((delW c78).2).n c82.1.n ((delW c78).2).ks c82.1.ks (ovs aJ ((delW c78).2)) (ovs aJ c82.1) (True∧Br ((delW c82).1) ((false=(bG a))∧True) (∃ c86:(Ob Int)×Int,((mx a.2.2.1 a.2.2.2)=c86.2)∧ObQ 0 0 ((delW c82).2).nl c86.1.nl ((delW c82).2).n c86.1.n ((delW c82).2).ks c86.1.ks (ovs aJ ((delW c82).2)) (ovs aJ c86.1) ((f9 c86)∧∃ (I88:((List (ByteArray))×Int×Int)→Prop) (μ89:((List (ByteArray))×Int×Int)→Nat),(∃ x87:(List (ByteArray))×Int×Int,(a.2.1=a.2.1)∧SlQ (((dU c86).1).length) x87.1.length (gl aA ((dU c86).1)) (gl aA x87.1) (((((dU c86).1).length:Int)=x87.2.1)∧((0:Int)=x87.2.2)∧I88 x87))∧∀ y90:(List (ByteArray))×Int×Int,I88 y90→(Br (decide (y90.2.2 < y90.2.1)) (Br (decide ((0:Int)≤y90.2.2)&&decide (y90.2.2 < (y90.1.length:Int))) (Br ((at_ y90.1 y90.2.2).toList==a.2.1.toList) ((false=(bG a))∧True) (Let (wI (y90.2.2+(1:Int))) (fun v97:Int=>∃ x98:(List (ByteArray))×Int×Int,(a.2.1=a.2.1)∧SlQ y90.1.length x98.1.length (gl aA y90.1) (gl aA x98.1) ((y90.2.1=x98.2.1)∧(v97=x98.2.2)∧I88 x98∧μ89 x98 < μ89 y90)))) False) ((true=(bG a))∧True))))))))))))))))))))))) a.1)
def f271.vc (a:(List (aD))×ByteArray×Int×Int):Prop:=((¬((bG ())=true)→((bG ())=bG a))∧(¬(¬((bG ())=true))→(L20 a.1∧((¬((jU (a.1))=true)→((bG ())=bG a))∧(¬(¬((jU (a.1))=true))→(((1000:Int) < (a.2.1.size:Int)→((bG ())=bG a))∧(¬((1000:Int) < (a.2.1.size:Int))→(∃ (I20:(Int×(Nat×Ob Int))→Prop) (μ21:(Int×(Nat×Ob Int))→Nat),I20 ((0:Int),(0,ob0 Int))∧∀ y22:Int×(Nat×Ob Int),I20 y22→((y22.1 < (a.1.length:Int)→((0:Int)≤y22.1∧y22.1 < (a.1.length:Int)∧((0:Int)≤y22.1∧y22.1 < (a.1.length:Int)∧(-9223372036854775808≤(y22.1+(1:Int))∧(y22.1+(1:Int))≤9223372036854775807∧(I20 ((y22.1+(1:Int)),(y22.2.1+1,(setW (y22.2.2,(at_ a.1 y22.1).2.2,(at_ a.1 y22.1).2.1))))∧μ21 ((y22.1+(1:Int)),(y22.2.1+1,(setW (y22.2.2,(at_ a.1 y22.1).2.2,(at_ a.1 y22.1).2.1)))) < μ21 y22)))))∧(¬(y22.1 < (a.1.length:Int))→((¬((atW ((setW (y22.2.2,a.2.1,a.2.2.1)),a.2.1)).1)=a.2.2.1→(false=bG a))∧(¬(¬((atW ((setW (y22.2.2,a.2.1,a.2.2.1)),a.2.1)).1)=a.2.2.1)→((¬(((atW ((setW (y22.2.2,a.2.1,a.2.2.1)),a.2.1)).2.1)=true)→(false=bG a))∧(¬(¬(((atW ((setW (y22.2.2,a.2.1,a.2.2.1)),a.2.1)).2.1)=true))→(f9 ((atW ((setW (y22.2.2,a.2.1,a.2.2.1)),a.2.1)).2.2,a.2.2.2)∧(∃ (I47:((List (ByteArray))×Bool×Int×Int×(Nat×Ob Int))→Prop) (μ48:((List (ByteArray))×Bool×Int×Int×(Nat×Ob Int))→Nat),I47 ((dU ((atW ((setW (y22.2.2,a.2.1,a.2.2.1)),a.2.1)).2.2,a.2.2.2)).1,false,(((dU ((atW ((setW (y22.2.2,a.2.1,a.2.2.1)),a.2.1)).2.2,a.2.2.2)).1).length:Int),(0:Int),(((y22.2.1+1)+1)+1,(dU ((atW ((setW (y22.2.2,a.2.1,a.2.2.1)),a.2.1)).2.2,a.2.2.2)).2))∧∀ y49:(List (ByteArray))×Bool×Int×Int×(Nat×Ob Int),I47 y49→((y49.2.2.2.1 < y49.2.2.1→((y49.2.1=true→(-9223372036854775808≤(y49.2.2.2.1+(1:Int))∧(y49.2.2.2.1+(1:Int))≤9223372036854775807∧(I47 (y49.1,true,y49.2.2.1,(y49.2.2.2.1+(1:Int)),(y49.2.2.2.2.1,y49.2.2.2.2.2))∧μ48 (y49.1,true,y49.2.2.1,(y49.2.2.2.1+(1:Int)),(y49.2.2.2.2.1,y49.2.2.2.2.2)) < μ48 y49)))∧(¬(y49.2.1=true)→((0:Int)≤y49.2.2.2.1∧y49.2.2.2.1 < (y49.1.length:Int)∧(-9223372036854775808≤(y49.2.2.2.1+(1:Int))∧(y49.2.2.2.1+(1:Int))≤9223372036854775807∧(I47 (y49.1,((at_ y49.1 y49.2.2.2.1).toList==a.2.1.toList),y49.2.2.1,(y49.2.2.2.1+(1:Int)),(y49.2.2.2.2.1,y49.2.2.2.2.2))∧μ48 (y49.1,((at_ y49.1 y49.2.2.2.1).toList==a.2.1.toList),y49.2.2.1,(y49.2.2.2.1+(1:Int)),(y49.2.2.2.2.1,y49.2.2.2.2.2)) < μ48 y49))))))∧(¬(y49.2.2.2.1 < y49.2.2.1)→(((!(y49.2.1==(decide (a.2.2.1 < a.2.2.2))))=true→(false=bG a))∧(¬((!(y49.2.1==(decide (a.2.2.1 < a.2.2.2))))=true)→(((((atW (y49.2.2.2.2.2,a.2.1)).2.1)==y49.2.1)=true→(false=bG a))∧(¬((((atW (y49.2.2.2.2.2,a.2.1)).2.1)==y49.2.1)=true)→((¬(((delW ((setW ((atW (y49.2.2.2.2.2,a.2.1)).2.2,a.2.1,a.2.2.1)),a.2.1)).1)=true)→(false=bG a))∧(¬(¬(((delW ((setW ((atW (y49.2.2.2.2.2,a.2.1)).2.2,a.2.1,a.2.2.1)),a.2.1)).1)=true))→((((delW ((delW ((setW ((atW (y49.2.2.2.2.2,a.2.1)).2.2,a.2.1,a.2.2.1)),a.2.1)).2,a.2.1)).1)=true→(false=bG a))∧(¬(((delW ((delW ((setW ((atW (y49.2.2.2.2.2,a.2.1)).2.2,a.2.1,a.2.2.1)),a.2.1)).2,a.2.1)).1)=true)→(f9 ((delW ((delW ((setW ((atW (y49.2.2.2.2.2,a.2.1)).2.2,a.2.1,a.2.2.1)),a.2.1)).2,a.2.1)).2,mx a.2.2.1 a.2.2.2)∧(∃ (I88:((List (ByteArray))×Int×Int)→Prop) (μ89:((List (ByteArray))×Int×Int)→Nat),I88 ((dU ((delW ((delW ((setW ((atW (y49.2.2.2.2.2,a.2.1)).2.2,a.2.1,a.2.2.1)),a.2.1)).2,a.2.1)).2,mx a.2.2.1 a.2.2.2)).1,(((dU ((delW ((delW ((setW ((atW (y49.2.2.2.2.2,a.2.1)).2.2,a.2.1,a.2.2.1)),a.2.1)).2,a.2.1)).2,mx a.2.2.1 a.2.2.2)).1).length:Int),(0:Int))∧∀ y90:(List (ByteArray))×Int×Int,I88 y90→((y90.2.2 < y90.2.1→((0:Int)≤y90.2.2∧y90.2.2 < (y90.1.length:Int)∧(((at_ y90.1 y90.2.2)=a.2.1→(false=bG a))∧(¬((at_ y90.1 y90.2.2)=a.2.1)→(-9223372036854775808≤(y90.2.2+(1:Int))∧(y90.2.2+(1:Int))≤9223372036854775807∧(I88 (y90.1,y90.2.1,(y90.2.2+(1:Int)))∧μ89 (y90.1,y90.2.1,(y90.2.2+(1:Int))) < μ89 y90))))))∧(¬(y90.2.2 < y90.2.1)→(true=bG a)))))))))))))))))))))))))))))))
theorem f271.of (a:(List (aD))×ByteArray×Int×Int) (h:f271.vc a):f271.tree a:=⟨(),⟨trivial,br h (Cnd.not Cnd.b) (fun h2 k148=>⟨(),⟨trivial,⟨k148,trivial⟩⟩⟩) (fun h3 k149=>(f294.ei ⟨k149.1,br k149.2 (Cnd.not Cnd.b) (fun h8 k145=>⟨(),⟨trivial,⟨k145,trivial⟩⟩⟩) (fun h9 k146=>br k146 Cnd.dec (fun h13 k143=>⟨(),⟨trivial,⟨k143,trivial⟩⟩⟩) (fun h14 k144=>⟨(),⟨trivial,Exists.elim k144 (fun I20 h139_=>Exists.elim h139_ (fun μ21 h139=>⟨I20,μ21,⟨((0:Int),(0,ob0 Int)),SlS.mk  (⟨rfl,⟨rfl,⟨rfl,⟨rfl,⟨rfl,obQ rfl (OV.zero (e:=aJ)) rfl (h139.1)⟩⟩⟩⟩⟩)⟩,fun y22 h141=>br (h139.2 y22 h141) Cnd.dec (fun h23 k137=>chk k137.2.2 Cnd.ix ⟨k137.1,k137.2.1⟩ (fun h25 k36=>chk k36.2.2 Cnd.ix ⟨k36.1,k36.2.1⟩ (fun h26 k35=>⟨(y22.2.2,(at_ a.1 y22.1).2.2,(at_ a.1 y22.1).2.1),⟨rfl,⟨rfl,obQ rfl (OV.self (e:=aJ)) rfl (⟨trivial,wrapK.i64 k35 (fun h31 h32 k33=>⟨((y22.1+(1:Int)),(y22.2.1+1,(setW (y22.2.2,(at_ a.1 y22.1).2.2,(at_ a.1 y22.1).2.1)))),SlS.mk  (⟨rfl,⟨rfl,⟨rfl,⟨rfl,⟨rfl,obQ rfl (OV.self (e:=aJ)) rfl (k33)⟩⟩⟩⟩⟩)⟩)⟩)⟩⟩⟩))) (fun h24 k138=>⟨(y22.2.2,a.2.1,a.2.2.1),⟨rfl,⟨rfl,obQ rfl (OV.self (e:=aJ)) rfl (⟨trivial,⟨((setW (y22.2.2,a.2.1,a.2.2.1)),a.2.1),⟨rfl,obQ rfl (OV.self (e:=aJ)) rfl (⟨trivial,br k138 Cnd.ne (fun h39 k133=>⟨k133,trivial⟩) (fun h40 k134=>br k134 (Cnd.not Cnd.b) (fun h42 k131=>⟨k131,trivial⟩) (fun h43 k132=>⟨((atW ((setW (y22.2.2,a.2.1,a.2.2.1)),a.2.1)).2.2,a.2.2.2),⟨rfl,obQ rfl (OV.self (e:=aJ)) rfl (⟨k132.1,Exists.elim k132.2 (fun I47 h127_=>Exists.elim h127_ (fun μ48 h127=>⟨I47,μ48,(f271.l1i a h127.1),fun y49 h129=>br (h127.2 y49 h129) Cnd.dec (fun h50 k125=>br k125 Cnd.b (fun h52 k68=>wrapK.i64 k68 (fun h57 h58 k59=>(f271.l1i a k59))) (fun h53 k69=>chk k69.2.2 Cnd.ix ⟨k69.1,k69.2.1⟩ (fun h60 k67=>wrapK.i64 k67 (fun h64 h65 k66=>(f271.l1i a k66))))) (fun h51 k126=>⟨(y49.2.2.2.2.2,a.2.1),⟨rfl,obQ rfl (OV.self (e:=aJ)) rfl (⟨trivial,br k126 Cnd.b (fun h71 k122=>⟨k122,trivial⟩) (fun h72 k123=>br k123 Cnd.b (fun h74 k120=>⟨k120,trivial⟩) (fun h75 k121=>⟨((atW (y49.2.2.2.2.2,a.2.1)).2.2,a.2.1,a.2.2.1),⟨rfl,⟨rfl,obQ rfl (OV.self (e:=aJ)) rfl (⟨trivial,⟨((setW ((atW (y49.2.2.2.2.2,a.2.1)).2.2,a.2.1,a.2.2.1)),a.2.1),⟨rfl,obQ rfl (OV.self (e:=aJ)) rfl (⟨trivial,br k121 (Cnd.not Cnd.b) (fun h79 k116=>⟨k116,trivial⟩) (fun h80 k117=>⟨((delW ((setW ((atW (y49.2.2.2.2.2,a.2.1)).2.2,a.2.1,a.2.2.1)),a.2.1)).2,a.2.1),⟨rfl,obQ rfl (OV.self (e:=aJ)) rfl (⟨trivial,br k117 Cnd.b (fun h83 k113=>⟨k113,trivial⟩) (fun h84 k114=>⟨((delW ((delW ((setW ((atW (y49.2.2.2.2.2,a.2.1)).2.2,a.2.1,a.2.2.1)),a.2.1)).2,a.2.1)).2,mx a.2.2.1 a.2.2.2),⟨rfl,obQ rfl (OV.self (e:=aJ)) rfl (⟨k114.1,Exists.elim k114.2 (fun I88 h109_=>Exists.elim h109_ (fun μ89 h109=>⟨I88,μ89,⟨((dU ((delW ((delW ((setW ((atW (y49.2.2.2.2.2,a.2.1)).2.2,a.2.1,a.2.2.1)),a.2.1)).2,a.2.1)).2,mx a.2.2.1 a.2.2.2)).1,(((dU ((delW ((delW ((setW ((atW (y49.2.2.2.2.2,a.2.1)).2.2,a.2.1,a.2.2.1)),a.2.1)).2,a.2.1)).2,mx a.2.2.1 a.2.2.2)).1).length:Int),(0:Int)),⟨rfl,slQ (rS aA) (⟨rfl,⟨rfl,h109.1⟩⟩)⟩⟩,fun y90 h111=>br (h109.2 y90 h111) Cnd.dec (fun h91 k107=>chk k107.2.2 Cnd.ix ⟨k107.1,k107.2.1⟩ (fun h93 k105=>br k105 Cnd.seq (fun h94 k103=>⟨k103,trivial⟩) (fun h95 k104=>wrapK.i64 k104 (fun h100 h101 k102=>⟨(y90.1,y90.2.1,(y90.2.2+(1:Int))),⟨rfl,slQ (rS aA) (⟨rfl,⟨rfl,k102⟩⟩)⟩⟩)))) (fun h92 k108=>⟨k108,trivial⟩)⟩))⟩)⟩⟩)⟩)⟩⟩)⟩)⟩⟩⟩)⟩⟩⟩))⟩)⟩⟩)⟩))⟩)⟩⟩))⟩)⟩⟩⟩)⟩⟩⟩)⟩))⟩⟩))⟩))⟩⟩
theorem f271.eq (a:(List (aD))×ByteArray×Int×Int):(f271.af a).gives f271.env (f271.args a) (f271.blks a) (f271.res a) (f271.blks' a)=f271.tree a:=by kernel_rfl
theorem f271.ok (a:List (Int×Int×ByteArray)×ByteArray×Int×Int) (h:f271.lpre a):f271.vc a:=by
 obtain ⟨s,name,t,now⟩:=a
 have hs:cH.size s+(name.size+1+(1+1))≤1048576:=h.2
 have hsz:s.length≤1048576:=aBT (by omega)
 refine ⟨fun c=>absurd rfl c,fun _=>⟨hsz,fun _=>rfl,fun hf=>⟨fun _=>rfl,fun _=>?_⟩⟩⟩
 have hf:=(oD.1 (Classical.not_not.1 hf)).1
 refine ⟨fun y=>0≤y.1∧y.1≤(s.length:Int)∧∃ l,Rep spW y.2.2 l∧l.length≤y.1.toNat,fun y=>s.length - y.1.toNat,⟨by simp only; omega,by simp only; omega,[],Rep.zero,Nat.zero_le _⟩,fun y hy=>?_⟩
 obtain ⟨i,c0,o⟩:=y
 obtain ⟨g0,g1,l,r,hl⟩:=hy
 simp only at g0 g1 hl r
 refine ⟨fun hlt=>?_,fun _=>?_⟩
 ·simp only at hlt
  have hi:(i+1).toNat=i.toNat+1:=by omega
  exact ⟨g0,hlt,g0,hlt,by simp only; omega,by simp only; omega,⟨by simp only; omega,by simp only; omega,_,r.setW _ _,by simp only [hi]; exact Nat.le_trans (aAQ _ _ _) (by omega)⟩,by simp only; omega⟩
 have r1:=r.setW name t
 have hl1:(fY l name t).length≤301:=Nat.le_trans (aAQ _ _ _) (by simp only at hf; omega)
 have e1:=aBZ r.ris name t 0
 have D:=r1.due now
 have hdue:(name∈l6 (fY l name t) now)↔t < now:=by
  rw [qD]
  refine ⟨fun ⟨t',h1,h2⟩=>?_,fun h=>⟨t,jI.2 (.inl ⟨rfl,rfl⟩),h⟩⟩
  rcases jI.1 h1 with ⟨_,rfl⟩ | ⟨h3,_⟩
  ·exact h2
  ·exact absurd rfl h3
 refine ⟨fun c=>absurd ((r1.atW name).1.trans (by rw [e1])) c,fun _=>⟨fun c=>absurd ((r1.atW name).2.trans (by rw [e1])) c,fun _=>⟨r1.duePre (by omega) now,?_⟩⟩⟩
 refine ⟨fun y=>y.1=l6 (fY l name t) now∧y.2.2.1=((l6 (fY l name t) now).length:Int)∧0≤y.2.2.2.1∧y.2.2.2.1≤((l6 (fY l name t) now).length:Int)∧y.2.1=(((l6 (fY l name t) now).take y.2.2.2.1.toNat).any fun x=>decide (x=name))∧Rep spW y.2.2.2.2.2 (vO (fY l name t) now),
  fun y=>(l6 (fY l name t) now).length - y.2.2.2.1.toNat,⟨D.1,congrArg (fun z:List ByteArray=>(z.length:Int)) D.1,by simp only; omega,by simp only; omega,rfl,D.2⟩,fun y hy=>?_⟩
 have hdl:(l6 (fY l name t) now).length≤301:=Nat.le_trans (aE7 _ _) hl1
 generalize hA:l6 (fY l name t) now=A at *
 obtain ⟨out,found,n,j,c1,o2⟩:=y
 obtain ⟨k1,k2,k3,k4,k5,r2⟩:=hy
 simp only at k1 k2 k3 k4 k5 r2
 subst k1 k2
 refine ⟨fun hlt=>?_,fun hge=>?_⟩
 ·simp only at hlt
  have hj:(j+1).toNat=j.toNat+1:=by omega
  refine ⟨fun hc=>⟨by simp only; omega,by simp only; omega,⟨rfl,rfl,by simp only; omega,by simp only; omega,?_,r2⟩,by simp only; omega⟩,fun hc=>⟨k3,hlt,by simp only; omega,by simp only; omega,⟨rfl,rfl,by simp only; omega,by simp only; omega,?_,r2⟩,by simp only; omega⟩⟩
  ·simp only at hc ⊢
   rw [hj,rX (by omega),List.any_append,← k5,hc]
   rfl
  ·simp only at hc ⊢
   rw [hj,rX (by omega),List.any_append,← k5,Bool.eq_false_iff.2 hc,aF9,aAX]
   simp
 simp only at hge
 rw [aJZ k3 k4 hge] at k5
 have hfd:found=decide (t < now):=by
  rw [k5,Bool.eq_iff_iff,List.any_eq_true,decide_eq_true_eq,← hdue]
  constructor
  ·rintro ⟨x,h1,h2⟩
   rw [← of_decide_eq_true h2]
   exact h1
  ·intro h
   exact ⟨name,h,decide_eq_true rfl⟩
 have hth:(atW (o2,name)).2.1=!found:=by
  rw [(r2.atW name).2,hfd,Bool.eq_iff_iff,aH7 r2.ris,Bool.not_eq_true',decide_eq_false_iff_not]
  constructor
  ·rintro ⟨t',h1⟩
   obtain ⟨h2,h3⟩:=aDI.1 h1
   rcases jI.1 h2 with ⟨_,rfl⟩ | ⟨h4,_⟩
   ·exact h3
   ·exact absurd rfl h4
  ·intro h
   exact ⟨t,aDI.2 ⟨jI.2 (.inl ⟨rfl,rfl⟩),h⟩⟩
 have r3:=r2.setW name t
 have r4:=r3.delW name
 have r5:=r4.2.delW name
 have hl5:(iG (iG (fY (vO (fY l name t) now) name t) name) name).length≤1048576:=Nat.le_trans (aAU _ _) (Nat.le_trans (aAU _ _) (Nat.le_trans (aAQ _ _ _) (by have:=aKG (fY l name t) now; omega)))
 have D5:=r5.2.due (mx t now)
 refine ⟨fun c=>absurd c (aJ2 hfd),fun _=>⟨fun c=>absurd c (aG4 hth),fun _=>⟨fun c=>absurd (r4.1.trans (by rw [aBZ r2.ris])) c,fun _=>⟨fun c=>absurd c (Bool.eq_false_iff.1 (r5.1.trans (by rw [aG6]))),fun _=>⟨r5.2.duePre hl5 _,?_⟩⟩⟩⟩⟩
 have hno:name ∉ l6 (iG (iG (fY (vO (fY l name t) now) name t) name) name) (mx t now):=fun hm=>by
  obtain ⟨t',h1,_⟩:=qD.1 hm
  exact (f8.1 h1).2 rfl
 have hbl:=aE7 (iG (iG (fY (vO (fY l name t) now) name t) name) name) (mx t now)
 generalize hB:l6 (iG (iG (fY (vO (fY l name t) now) name t) name) name) (mx t now)=B at *
 refine ⟨fun y=>y.1=B∧y.2.1=(B.length:Int)∧0≤y.2.2∧y.2.2≤(B.length:Int),fun y=>B.length - y.2.2.toNat,⟨D5.1,congrArg (fun z:List ByteArray=>(z.length:Int)) D5.1,by simp only; omega,by simp only; omega⟩,fun y hy=>?_⟩
 obtain ⟨out2,n2,q⟩:=y
 obtain ⟨m1,m2,m3,m4⟩:=hy
 simp only at m1 m2 m3 m4
 subst m1 m2
 refine ⟨fun hlt=>?_,fun _=>rfl⟩
 simp only at hlt
 refine ⟨m3,hlt,fun hc=>absurd ?_ hno,fun _=>⟨by simp only; omega,by simp only; omega,⟨rfl,rfl,by simp only; omega,by simp only; omega⟩,by simp only; omega⟩⟩
 have:=aLN m3 hlt
 simp only at hc
 rwa [hc] at this
end Go.Abs
