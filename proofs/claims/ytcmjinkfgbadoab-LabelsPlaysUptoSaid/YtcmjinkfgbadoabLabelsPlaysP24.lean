/- Functions, and what the code asks of them: PLab2. -/
import Derived.KernelRfl
import Derived.Test.YtcmjinkfgbadoabLabelsPlaysP5
import Derived.Test.YtcmjinkfgbadoabLabelsPlaysP6
import Derived.Test.YtcmjinkfgbadoabLabelsPlaysP7
import Derived.Test.YtcmjinkfgbadoabLabelsPlaysP8
import Derived.Test.YtcmjinkfgbadoabLabelsPlaysP9
import Derived.Test.YtcmjinkfgbadoabLabelsPlaysP10
import Derived.Test.YtcmjinkfgbadoabLabelsPlaysP11
import Derived.Test.YtcmjinkfgbadoabLabelsPlaysP12
import Derived.Test.YtcmjinkfgbadoabLabelsPlaysP13
import Derived.Test.YtcmjinkfgbadoabLabelsPlaysP20
import Derived.Test.YtcmjinkfgbadoabLabelsPlaysP21
import Derived.Test.YtcmjinkfgbadoabLabelsPlaysP22
import Derived.Test.YtcmjinkfgbadoabLabelsPlaysP23
set_option maxRecDepth 100000
set_option maxHeartbeats 4000000
set_option linter.unusedVariables false
set_option linter.unusedSimpArgs false
set_option linter.unusedSectionVars false
-- (*interregnum/interregnumref18.Index).Put
namespace Go.Abs
open Go
def f345.args (a:aD×ByteArray×(List (aB))):List D:=[.ptr 0 0,.str a.2.1,.slice .ro 2 a.2.2.length (gl aE a.2.2)]
def f345.blks (a:aD×ByteArray×(List (aB))):List (List D):=[[.slice .ro 1 a.1.1.length (gl aH a.1.1),.slice .ro 1 a.1.2.length (gl aA a.1.2)]]
def f345.res (a:aD×ByteArray×(List (aB))):List D:=[]
def f345.blks' (a:aD×ByteArray×(List (aB))):List (List D):=[[.slice .ro 1 (((fI a).1).length) (gl aH ((fI a).1)),.slice .ro 1 (((fI a).2).length) (gl aA ((fI a).2))]]
def f345.C:aZ:=FnC f345.args f345.blks (fun a=>kK a) f345.res f345.blks'
def f346.args (a:aD×ByteArray):List D:=[.ptr 0 0,.str a.2]
def f346.blks (a:aD×ByteArray):List (List D):=[[.slice .ro 1 a.1.1.length (gl aH a.1.1),.slice .ro 1 a.1.2.length (gl aA a.1.2)]]
def f346.res (a:aD×ByteArray):List D:=[.bool ((cM a).1)]
def f346.blks' (a:aD×ByteArray):List (List D):=[[.slice .ro 1 ((((cM a).2).1).length) (gl aH (((cM a).2).1)),.slice .ro 1 ((((cM a).2).2).length) (gl aA (((cM a).2).2))]]
def f346.C:aZ:=FnC f346.args f346.blks (fun a=>fK a) f346.res f346.blks'
set_option linter.unusedVariables false
def f345.S0 (a:aD×ByteArray×(List (aB))) (x:Int×(List (ByteArray))×(List (List (aB)))):Tm:=⟨.ptr 0 0::.str a.2.1::.slice .ro 2 a.2.2.length (gl aE a.2.2)::.dead::.dead::.dead::.int .i64 x.1::dd 69 [],[(0,false,[.slice .ro 1 x.2.1.length (gl aH x.2.1),.slice .ro 1 x.2.2.length (gl aA x.2.2)])],[]⟩
def f345.kills (a:aD×ByteArray×(List (aB))):List jM:=[.tell (Int×(List (ByteArray))×(List (List (aB)))) (f345.S0 a)]
def f345.cuts (a:aD×ByteArray×(List (aB))):List (Nat×Σ β:Type,β→Tm):=[]
def f345.af (a:aD×ByteArray×(List (aB))):AF:=AF.mk (.seq (.region [mT 9 1 0,
 mT 10 2 1,
 oT 11 3 (.call true 346) [9,10]])
 (.seq (.region [⟨(some 6),7,.move,[.c (.int .i64 (0))],none⟩])
 (.seq (.block 0 (.loopT (Int×(List (ByteArray))×(List (List (aB)))) (f345.S0 a) 8 29 (.seq (.seq (.region [mT 12 8 6,
 mT 13 9 0,
 oT 14 10 .nilCheck [13],
 oT 15 11 (.fieldAddr 0) [14],
 oT 16 12 (.load false 1) [15],
 oT 17 13 (.len false) [16],
 oT 18 14 (.bin .lss) [12,17],
 mT 19 15 18,
 oG 20 16 .move [0] 19 true,
 oG 21 17 .nilCheck [20] 19 true,
 oG 22 18 (.fieldAddr 0) [21] 19 true,
 oG 23 19 (.load false 1) [22] 19 true,
 oG 24 20 .move [6] 19 true,
 oG 25 21 (.indexAddr 1 none) [23,24] 19 true,
 oG 26 22 (.load false 1) [25] 19 true,
 oG 27 23 .move [1] 19 true,
 oG 28 24 (.bin .lss) [26,27] 19 true,
 ⟨(some 29),25,.pick,[.t 19,.t 28,.c (.bool false)],none⟩])
 (.cond (.t 29) (.skip) (.exit 0)))
 (.block 1 (.region [mT 30 26 6,
 ⟨(some 31),27,(.bin .add),[.t 30,.c (.int .i64 (1))],none⟩,
 mT 6 28 31])))))
 (.seq (.region [oT 7 29 (.nilSl 1) []])
 (.seq (.region [oT 8 30 (.nilSl 1) []])
 (.seq (.region [mT 32 31 7,
 mT 33 32 0,
 oT 34 33 .nilCheck [33],
 oT 35 34 (.fieldAddr 0) [34],
 oT 36 35 (.load false 1) [35],
 mT 37 36 6,
 oT 38 37 (.sliceSl 1 false true false) [36,37],
 oT 39 38 (.append 1 16) [32,38],
 mT 40 39 1,
 oT 41 40 (.buildSlice 1 1 [.str ByteArray.empty] [(0,1)]) [40],
 oT 42 41 (.append 1 16) [39,41],
 mT 43 42 0,
 oT 44 43 .nilCheck [43],
 oT 45 44 (.fieldAddr 0) [44],
 oT 46 45 (.load false 1) [45],
 mT 47 46 6,
 oT 48 47 (.sliceSl 1 true false false) [46,47],
 oT 49 48 (.append 1 16) [42,48],
 mT 7 49 49])
 (.seq (.region [mT 50 50 8,
 mT 51 51 0,
 oT 52 52 .nilCheck [51],
 oT 53 53 (.fieldAddr 1) [52],
 oT 54 54 (.load false 1) [53],
 mT 55 55 6,
 oT 56 56 (.sliceSl 1 false true false) [54,55],
 oT 57 57 (.append 1 24) [50,56],
 mT 58 58 2,
 oT 59 59 (.buildSlice 1 1 [.slice .full 2 0 c5] [(0,1)]) [58],
 oT 60 60 (.append 1 24) [57,59],
 mT 61 61 0,
 oT 62 62 .nilCheck [61],
 oT 63 63 (.fieldAddr 1) [62],
 oT 64 64 (.load false 1) [63],
 mT 65 65 6,
 oT 66 66 (.sliceSl 1 true false false) [64,65],
 oT 67 67 (.append 1 24) [60,66],
 mT 8 68 67])
 (.region [mT 68 69 0,
 mT 69 70 0,
 mT 70 71 7,
 mT 71 72 8,
 oT 72 73 .nilCheck [68],
 oT 73 74 (.fieldAddr 0) [72],
 ⟨none,75,(.store 1),[.t 73,.t 70],none⟩,
 oT 74 76 .nilCheck [69],
 oT 75 77 (.fieldAddr 1) [74],
 ⟨none,78,(.store 1),[.t 75,.t 71],none⟩]))))))))
 [] 1 73
def f345.env:Env:=[(346,f346.C)]
def f345.tree (a:aD×ByteArray×(List (aB))):Prop:=∃ c1:aD×ByteArray,(a.2.1=c1.2)∧SlQ a.1.1.length c1.1.1.length (gl aH a.1.1) (gl aH c1.1.1) (SlQ a.1.2.length c1.1.2.length (gl aA a.1.2) (gl aA c1.1.2) ((fK c1)∧∃ (I3:(Int×(List (ByteArray))×(List (List (aB))))→Prop) (μ4:(Int×(List (ByteArray))×(List (List (aB))))→Nat),(∃ x2:Int×(List (ByteArray))×(List (List (aB))),(a.2.1=a.2.1)∧SlS aE a.2.2 (((0:Int)=x2.1)∧SlQ ((((cM c1).2).1).length) x2.2.1.length (gl aH (((cM c1).2).1)) (gl aH x2.2.1) (SlQ ((((cM c1).2).2).length) x2.2.2.length (gl aA (((cM c1).2).2)) (gl aA x2.2.2) (I3 x2))))∧∀ y5:Int×(List (ByteArray))×(List (List (aB))),I3 y5→(Br (decide (y5.1 < (y5.2.1.length:Int))) (Br (decide ((0:Int)≤y5.1)&&decide (y5.1 < (y5.2.1.length:Int))) (Br (Op.bytesLess (at_ y5.2.1 y5.1).toList a.2.1.toList) (Let (wI (y5.1+(1:Int))) (fun v11:Int=>∃ x12:Int×(List (ByteArray))×(List (List (aB))),(a.2.1=a.2.1)∧SlS aE a.2.2 ((v11=x12.1)∧SlQ y5.2.1.length x12.2.1.length (gl aH y5.2.1) (gl aH x12.2.1) (SlQ y5.2.2.length x12.2.2.length (gl aA y5.2.2) (gl aA x12.2.2) (I3 x12∧μ4 x12 < μ4 y5))))) (Br (decide ((0:Int)≤(0:Int))&&decide ((0:Int)≤y5.1)&&decide (y5.1≤(y5.2.1.length:Int))&&(y5.1==y5.1)) ((0=0∧gI ((0+(Int.toNat (y5.1 - (0:Int)))) * 16))∧(((0+(Int.toNat (y5.1 - (0:Int))))=(0+(Int.toNat (y5.1 - (0:Int))))∧gI (((0+(Int.toNat (y5.1 - (0:Int))))+1) * 16))∧(Br (decide ((0:Int)≤y5.1)&&decide (y5.1≤(y5.2.1.length:Int))&&decide ((y5.2.1.length:Int)≤(y5.2.1.length:Int))&&((y5.2.1.length:Int)==(y5.2.1.length:Int))) ((((0+(Int.toNat (y5.1 - (0:Int))))+1)=((0+(Int.toNat (y5.1 - (0:Int))))+1)∧gI ((((0+(Int.toNat (y5.1 - (0:Int))))+1)+(Int.toNat ((y5.2.1.length:Int) - y5.1))) * 16))∧(Br (decide ((0:Int)≤(0:Int))&&decide ((0:Int)≤y5.1)&&decide (y5.1≤(y5.2.2.length:Int))&&(y5.1==y5.1)) ((0=0∧gI ((0+(Int.toNat (y5.1 - (0:Int)))) * 24))∧(((0+(Int.toNat (y5.1 - (0:Int))))=(0+(Int.toNat (y5.1 - (0:Int))))∧gI (((0+(Int.toNat (y5.1 - (0:Int))))+1) * 24))∧(Br (decide ((0:Int)≤y5.1)&&decide (y5.1≤(y5.2.2.length:Int))&&decide ((y5.2.2.length:Int)≤(y5.2.2.length:Int))&&((y5.2.2.length:Int)==(y5.2.2.length:Int))) ((((0+(Int.toNat (y5.1 - (0:Int))))+1)=((0+(Int.toNat (y5.1 - (0:Int))))+1)∧gI ((((0+(Int.toNat (y5.1 - (0:Int))))+1)+(Int.toNat ((y5.2.2.length:Int) - y5.1))) * 24))∧(SlQ (((0+(Int.toNat (y5.1 - (0:Int))))+1)+(Int.toNat ((y5.2.1.length:Int) - y5.1))) (((fI a).1).length) (eF (eF (eF c5 0 (q8 (gl aH y5.2.1) 0)) (0+(Int.toNat (y5.1 - (0:Int)))) (fun _=>[.str a.2.1])) ((0+(Int.toNat (y5.1 - (0:Int))))+1) (q8 (gl aH y5.2.1) (Int.toNat y5.1))) (gl aH ((fI a).1)) (SlQ (((0+(Int.toNat (y5.1 - (0:Int))))+1)+(Int.toNat ((y5.2.2.length:Int) - y5.1))) (((fI a).2).length) (eF (eF (eF c5 0 (q8 (gl aA y5.2.2) 0)) (0+(Int.toNat (y5.1 - (0:Int)))) (fun _=>[.slice .ro 2 a.2.2.length (gl aE a.2.2)])) ((0+(Int.toNat (y5.1 - (0:Int))))+1) (q8 (gl aA y5.2.2) (Int.toNat y5.1))) (gl aA ((fI a).2)) (True)))) False))) False)) False))) False)) False) (Br (decide ((0:Int)≤(0:Int))&&decide ((0:Int)≤y5.1)&&decide (y5.1≤(y5.2.1.length:Int))&&(y5.1==y5.1)) ((0=0∧gI ((0+(Int.toNat (y5.1 - (0:Int)))) * 16))∧(((0+(Int.toNat (y5.1 - (0:Int))))=(0+(Int.toNat (y5.1 - (0:Int))))∧gI (((0+(Int.toNat (y5.1 - (0:Int))))+1) * 16))∧(Br (decide ((0:Int)≤y5.1)&&decide (y5.1≤(y5.2.1.length:Int))&&decide ((y5.2.1.length:Int)≤(y5.2.1.length:Int))&&((y5.2.1.length:Int)==(y5.2.1.length:Int))) ((((0+(Int.toNat (y5.1 - (0:Int))))+1)=((0+(Int.toNat (y5.1 - (0:Int))))+1)∧gI ((((0+(Int.toNat (y5.1 - (0:Int))))+1)+(Int.toNat ((y5.2.1.length:Int) - y5.1))) * 16))∧(Br (decide ((0:Int)≤(0:Int))&&decide ((0:Int)≤y5.1)&&decide (y5.1≤(y5.2.2.length:Int))&&(y5.1==y5.1)) ((0=0∧gI ((0+(Int.toNat (y5.1 - (0:Int)))) * 24))∧(((0+(Int.toNat (y5.1 - (0:Int))))=(0+(Int.toNat (y5.1 - (0:Int))))∧gI (((0+(Int.toNat (y5.1 - (0:Int))))+1) * 24))∧(Br (decide ((0:Int)≤y5.1)&&decide (y5.1≤(y5.2.2.length:Int))&&decide ((y5.2.2.length:Int)≤(y5.2.2.length:Int))&&((y5.2.2.length:Int)==(y5.2.2.length:Int))) ((((0+(Int.toNat (y5.1 - (0:Int))))+1)=((0+(Int.toNat (y5.1 - (0:Int))))+1)∧gI ((((0+(Int.toNat (y5.1 - (0:Int))))+1)+(Int.toNat ((y5.2.2.length:Int) - y5.1))) * 24))∧(SlQ (((0+(Int.toNat (y5.1 - (0:Int))))+1)+(Int.toNat ((y5.2.1.length:Int) - y5.1))) (((fI a).1).length) (eF (eF (eF c5 0 (q8 (gl aH y5.2.1) 0)) (0+(Int.toNat (y5.1 - (0:Int)))) (fun _=>[.str a.2.1])) ((0+(Int.toNat (y5.1 - (0:Int))))+1) (q8 (gl aH y5.2.1) (Int.toNat y5.1))) (gl aH ((fI a).1)) (SlQ (((0+(Int.toNat (y5.1 - (0:Int))))+1)+(Int.toNat ((y5.2.2.length:Int) - y5.1))) (((fI a).2).length) (eF (eF (eF c5 0 (q8 (gl aA y5.2.2) 0)) (0+(Int.toNat (y5.1 - (0:Int)))) (fun _=>[.slice .ro 2 a.2.2.length (gl aE a.2.2)])) ((0+(Int.toNat (y5.1 - (0:Int))))+1) (q8 (gl aA y5.2.2) (Int.toNat y5.1))) (gl aA ((fI a).2)) (True)))) False))) False)) False))) False))))
def f345.vc (a:aD×ByteArray×(List (aB))):Prop:=(fK (a.1,a.2.1)∧(∃ (I3:(Int×(List (ByteArray))×(List (List (aB))))→Prop) (μ4:(Int×(List (ByteArray))×(List (List (aB))))→Nat),I3 ((0:Int),((cM (a.1,a.2.1)).2).1,((cM (a.1,a.2.1)).2).2)∧∀ y5:Int×(List (ByteArray))×(List (List (aB))),I3 y5→((y5.1 < (y5.2.1.length:Int)→((0:Int)≤y5.1∧y5.1 < (y5.2.1.length:Int)∧((sLt (at_ y5.2.1 y5.1) a.2.1→(-9223372036854775808≤(y5.1+(1:Int))∧(y5.1+(1:Int))≤9223372036854775807∧(I3 ((y5.1+(1:Int)),y5.2.1,y5.2.2)∧μ4 ((y5.1+(1:Int)),y5.2.1,y5.2.2) < μ4 y5)))∧(¬(sLt (at_ y5.2.1 y5.1) a.2.1)→((0:Int)≤y5.1∧y5.1≤(y5.2.1.length:Int)∧(0+(Int.toNat (y5.1 - (0:Int)))≤1073741824∧((0+(Int.toNat (y5.1 - (0:Int))))+1≤1073741824∧((0:Int)≤y5.1∧y5.1≤(y5.2.1.length:Int)∧(((0+(Int.toNat (y5.1 - (0:Int))))+1)+(Int.toNat ((y5.2.1.length:Int) - y5.1))≤1073741824∧((0:Int)≤y5.1∧y5.1≤(y5.2.2.length:Int)∧(0+(Int.toNat (y5.1 - (0:Int)))≤1073741824∧((0+(Int.toNat (y5.1 - (0:Int))))+1≤1073741824∧((0:Int)≤y5.1∧y5.1≤(y5.2.2.length:Int)∧(((0+(Int.toNat (y5.1 - (0:Int))))+1)+(Int.toNat ((y5.2.2.length:Int) - y5.1))≤1073741824∧((((([])++(gX y5.2.1 (0:Int) y5.1))++([a.2.1]))++(gX y5.2.1 y5.1 (y5.2.1.length:Int)),((([])++(gX y5.2.2 (0:Int) y5.1))++([a.2.2]))++(gX y5.2.2 y5.1 (y5.2.2.length:Int)))=fI a)))))))))))))))∧(¬(y5.1 < (y5.2.1.length:Int))→((0:Int)≤y5.1∧y5.1≤(y5.2.1.length:Int)∧(0+(Int.toNat (y5.1 - (0:Int)))≤1073741824∧((0+(Int.toNat (y5.1 - (0:Int))))+1≤1073741824∧((0:Int)≤y5.1∧y5.1≤(y5.2.1.length:Int)∧(((0+(Int.toNat (y5.1 - (0:Int))))+1)+(Int.toNat ((y5.2.1.length:Int) - y5.1))≤1073741824∧((0:Int)≤y5.1∧y5.1≤(y5.2.2.length:Int)∧(0+(Int.toNat (y5.1 - (0:Int)))≤1073741824∧((0+(Int.toNat (y5.1 - (0:Int))))+1≤1073741824∧((0:Int)≤y5.1∧y5.1≤(y5.2.2.length:Int)∧(((0+(Int.toNat (y5.1 - (0:Int))))+1)+(Int.toNat ((y5.2.2.length:Int) - y5.1))≤1073741824∧((((([])++(gX y5.2.1 (0:Int) y5.1))++([a.2.1]))++(gX y5.2.1 y5.1 (y5.2.1.length:Int)),((([])++(gX y5.2.2 (0:Int) y5.1))++([a.2.2]))++(gX y5.2.2 y5.1 (y5.2.2.length:Int)))=fI a)))))))))))))))
theorem f345.of (a:aD×ByteArray×(List (aB))) (h:f345.vc a):f345.tree a:=⟨(a.1,a.2.1),⟨rfl,slQ (rS aH) (slQ (rS aA) (⟨h.1,Exists.elim h.2 (fun I3 h40_=>Exists.elim h40_ (fun μ4 h40=>⟨I3,μ4,⟨((0:Int),((cM (a.1,a.2.1)).2).1,((cM (a.1,a.2.1)).2).2),⟨rfl,SlS.mk  (⟨rfl,slQ (rS aH) (slQ (rS aA) (h40.1))⟩)⟩⟩,fun y5 h42=>br (h40.2 y5 h42) Cnd.dec (fun h6 k38=>chk k38.2.2 Cnd.ix ⟨k38.1,k38.2.1⟩ (fun h8 k28=>br k28 Cnd.sl_ (fun h9 k26=>wrapK.i64 k26 (fun h14 h15 k16=>⟨((y5.1+(1:Int)),y5.2.1,y5.2.2),⟨rfl,SlS.mk  (⟨rfl,slQ (rS aH) (slQ (rS aA) (k16))⟩)⟩⟩)) (fun h10 k27=>chk k27.2.2 Cnd.sl ⟨(by decide),k27.1,k27.2.1⟩ (fun h17 k25=>⟨⟨rfl,(dO k25.1 (by decide))⟩,⟨⟨rfl,(dO k25.2.1 (by decide))⟩,chk k25.2.2.2.2 Cnd.sl ⟨k25.2.2.1,k25.2.2.2.1,(Int.le_refl _)⟩ (fun h18 k24=>⟨⟨rfl,(dO k24.1 (by decide))⟩,chk k24.2.2.2 Cnd.sl ⟨(by decide),k24.2.1,k24.2.2.1⟩ (fun h19 k23=>⟨⟨rfl,(dO k23.1 (by decide))⟩,⟨⟨rfl,(dO k23.2.1 (by decide))⟩,chk k23.2.2.2.2 Cnd.sl ⟨k23.2.2.1,k23.2.2.2.1,(Int.le_refl _)⟩ (fun h20 k22=>⟨⟨rfl,(dO k22.1 (by decide))⟩,slQ (Rds.to (Rds.app (enc:=aH) (Rds.app (enc:=aH) (Rds.app (enc:=aH) (Rds.nil (enc:=aH)) (Rds.sub (enc:=aH) (rS aH) h17)) (Rds.one (enc:=aH) (DEqs.refl _))) (Rds.sub (enc:=aH) (rS aH) h18)) (congrArg (fun x:aD=>x.1) k22.2 :)) (slQ (Rds.to (Rds.app (enc:=aA) (Rds.app (enc:=aA) (Rds.app (enc:=aA) (Rds.nil (enc:=aA)) (Rds.sub (enc:=aA) (rS aA) h19)) (Rds.one (enc:=aA) (DEqs.refl _))) (Rds.sub (enc:=aA) (rS aA) h20)) (congrArg (fun x:aD=>x.2) k22.2 :)) (trivial))⟩)⟩⟩)⟩)⟩⟩)))) (fun h7 k39=>chk k39.2.2 Cnd.sl ⟨(by decide),k39.1,k39.2.1⟩ (fun h29 k37=>⟨⟨rfl,(dO k37.1 (by decide))⟩,⟨⟨rfl,(dO k37.2.1 (by decide))⟩,chk k37.2.2.2.2 Cnd.sl ⟨k37.2.2.1,k37.2.2.2.1,(Int.le_refl _)⟩ (fun h30 k36=>⟨⟨rfl,(dO k36.1 (by decide))⟩,chk k36.2.2.2 Cnd.sl ⟨(by decide),k36.2.1,k36.2.2.1⟩ (fun h31 k35=>⟨⟨rfl,(dO k35.1 (by decide))⟩,⟨⟨rfl,(dO k35.2.1 (by decide))⟩,chk k35.2.2.2.2 Cnd.sl ⟨k35.2.2.1,k35.2.2.2.1,(Int.le_refl _)⟩ (fun h32 k34=>⟨⟨rfl,(dO k34.1 (by decide))⟩,slQ (Rds.to (Rds.app (enc:=aH) (Rds.app (enc:=aH) (Rds.app (enc:=aH) (Rds.nil (enc:=aH)) (Rds.sub (enc:=aH) (rS aH) h29)) (Rds.one (enc:=aH) (DEqs.refl _))) (Rds.sub (enc:=aH) (rS aH) h30)) (congrArg (fun x:aD=>x.1) k34.2 :)) (slQ (Rds.to (Rds.app (enc:=aA) (Rds.app (enc:=aA) (Rds.app (enc:=aA) (Rds.nil (enc:=aA)) (Rds.sub (enc:=aA) (rS aA) h31)) (Rds.one (enc:=aA) (DEqs.refl _))) (Rds.sub (enc:=aA) (rS aA) h32)) (congrArg (fun x:aD=>x.2) k34.2 :)) (trivial))⟩)⟩⟩)⟩)⟩⟩))⟩))⟩))⟩⟩
theorem f345.eq (a:aD×ByteArray×(List (aB))):(f345.af a).gives f345.env (f345.args a) (f345.blks a) (f345.res a) (f345.blks' a)=f345.tree a:=by kernel_rfl
def f346.S0 (a:aD×ByteArray) (x:(List (ByteArray))×(List (List (aB)))×Int):Tm:=⟨.ptr 0 0::.str a.2::.dead::.dead::.dead::.slice (.own 2) 1 x.1.length (gl aH x.1)::.slice (.own 3) 1 x.2.1.length (gl aA x.2.1)::dd 6 (.int .i64 (a.1.1.length:Int)::.int .i64 x.2.2::dd 49 []),[(0,false,[.slice .ro 1 a.1.1.length (gl aH a.1.1),.slice .ro 1 a.1.2.length (gl aA a.1.2)])],[(2,1,x.1.length),(3,1,x.2.1.length)]⟩
def f346.kills (a:aD×ByteArray):List jM:=[.tell ((List (ByteArray))×(List (List (aB)))×Int) (f346.S0 a)]
def f346.cuts (a:aD×ByteArray):List (Nat×Σ β:Type,β→Tm):=[]
def f346.af (a:aD×ByteArray):AF:=AF.mk (.seq (.region [⟨(some 4),1,.move,[.c (.bool false)],none⟩])
 (.seq (.region [oT 5 2 (.nilSl 1) []])
 (.seq (.region [oT 6 3 (.nilSl 1) []])
 (.seq (.seq (.region [mT 9 4 0,
 oT 10 5 .nilCheck [9],
 oT 11 6 (.fieldAddr 0) [10],
 oT 12 7 (.load false 1) [11],
 oT 13 8 (.len false) [12],
 ⟨(some 14),9,.move,[.c (.int .i64 (0))],none⟩])
 (.block 0 (.loopT ((List (ByteArray))×(List (List (aB)))×Int) (f346.S0 a) 10 46 (.seq (.region [oT 15 10 (.bin .lss) [14,13]])
 (.seq (.cond (.t 15) (.skip) (.exit 0))
 (.seq (.block 1 (.seq (.region [mT 16 11 14,
 mT 7 12 16])
 (.seq (.region [mT 17 13 0,
 oT 18 14 .nilCheck [17],
 oT 19 15 (.fieldAddr 0) [18],
 oT 20 16 (.load false 1) [19],
 mT 21 17 7,
 oT 22 18 (.indexAddr 1 none) [20,21],
 oT 23 19 (.load false 1) [22],
 mT 24 20 1,
 oT 25 21 (.bin .neq) [23,24]])
 (.cond (.t 25) (.seq (.region [mT 26 22 5,
 mT 27 23 0,
 oT 28 24 .nilCheck [27],
 oT 29 25 (.fieldAddr 0) [28],
 oT 30 26 (.load false 1) [29],
 mT 31 27 7,
 oT 32 28 (.indexAddr 1 none) [30,31],
 oT 33 29 (.load false 1) [32],
 oT 34 30 (.buildSlice 1 1 [.str ByteArray.empty] [(0,1)]) [33],
 oT 35 31 (.append 1 16) [26,34],
 mT 5 32 35])
 (.region [mT 36 33 6,
 mT 37 34 0,
 oT 38 35 .nilCheck [37],
 oT 39 36 (.fieldAddr 1) [38],
 oT 40 37 (.load false 1) [39],
 mT 41 38 7,
 oT 42 39 (.indexAddr 1 none) [40,41],
 oT 43 40 (.load false 1) [42],
 oT 44 41 (.buildSlice 1 1 [.slice .full 2 0 c5] [(0,1)]) [43],
 oT 45 42 (.append 1 24) [36,44],
 mT 6 43 45])) (.skip)))))
 (.region [⟨(some 46),44,(.bin .add),[.t 14,.c (.int .i64 (1))],none⟩,
 mT 14 45 46])))))))
 (.seq (.region [mT 47 46 5,
 oT 48 47 (.len false) [47],
 mT 49 48 0,
 oT 50 49 .nilCheck [49],
 oT 51 50 (.fieldAddr 0) [50],
 oT 52 51 (.load false 1) [51],
 oT 53 52 (.len false) [52],
 oT 54 53 (.bin .lss) [48,53],
 mT 8 54 54])
 (.seq (.region [mT 55 55 0,
 mT 56 56 0,
 mT 57 57 5,
 mT 58 58 6,
 oT 59 59 .nilCheck [55],
 oT 60 60 (.fieldAddr 0) [59],
 ⟨none,61,(.store 1),[.t 60,.t 57],none⟩,
 oT 61 62 .nilCheck [56],
 oT 62 63 (.fieldAddr 1) [61],
 ⟨none,64,(.store 1),[.t 62,.t 58],none⟩])
 (.seq (.region [mT 63 65 8,
 mT 4 66 63])
 (.ret))))))))
 [.tmp 4] 1 62
def f346.env:Env:=[]
def f346.tree (a:aD×ByteArray):Prop:=∃ (I2:((List (ByteArray))×(List (List (aB)))×Int)→Prop) (μ3:((List (ByteArray))×(List (List (aB)))×Int)→Nat),(∃ x1:(List (ByteArray))×(List (List (aB)))×Int,(a.2=a.2)∧SlQ 0 x1.1.length c5 (gl aH x1.1) (SlQ 0 x1.2.1.length c5 (gl aA x1.2.1) (((a.1.1.length:Int)=(a.1.1.length:Int))∧((0:Int)=x1.2.2)∧SlS aH a.1.1 (SlS aA a.1.2 ((0=x1.1.length)∧(0=x1.2.1.length)∧I2 x1)))))∧∀ y4:(List (ByteArray))×(List (List (aB)))×Int,I2 y4→(Br (decide (y4.2.2 < (a.1.1.length:Int))) (Br (decide ((0:Int)≤y4.2.2)&&decide (y4.2.2 < (a.1.1.length:Int))) (Br (!((at_ a.1.1 y4.2.2).toList==a.2.toList)) (Br (decide ((0:Int)≤y4.2.2)&&decide (y4.2.2 < (a.1.1.length:Int))) ((y4.1.length=y4.1.length∧gI ((y4.1.length+1) * 16))∧(Br (decide ((0:Int)≤y4.2.2)&&decide (y4.2.2 < (a.1.2.length:Int))) ((y4.2.1.length=y4.2.1.length∧gI ((y4.2.1.length+1) * 24))∧(Let (wI (y4.2.2+(1:Int))) (fun v12:Int=>∃ x13:(List (ByteArray))×(List (List (aB)))×Int,(a.2=a.2)∧SlQ (y4.1.length+1) x13.1.length (eF (gl aH y4.1) y4.1.length (fun _=>[.str (at_ a.1.1 y4.2.2)])) (gl aH x13.1) (SlQ (y4.2.1.length+1) x13.2.1.length (eF (gl aA y4.2.1) y4.2.1.length (fun _=>[.slice .ro 2 ((at_ a.1.2 y4.2.2).length) (gl aE (at_ a.1.2 y4.2.2))])) (gl aA x13.2.1) (((a.1.1.length:Int)=(a.1.1.length:Int))∧(v12=x13.2.2)∧SlS aH a.1.1 (SlS aA a.1.2 (((y4.1.length+1)=x13.1.length)∧((y4.2.1.length+1)=x13.2.1.length)∧I2 x13∧μ3 x13 < μ3 y4))))))) False)) False) (Let (wI (y4.2.2+(1:Int))) (fun v20:Int=>∃ x21:(List (ByteArray))×(List (List (aB)))×Int,(a.2=a.2)∧SlQ y4.1.length x21.1.length (gl aH y4.1) (gl aH x21.1) (SlQ y4.2.1.length x21.2.1.length (gl aA y4.2.1) (gl aA x21.2.1) (((a.1.1.length:Int)=(a.1.1.length:Int))∧(v20=x21.2.2)∧SlS aH a.1.1 (SlS aA a.1.2 ((y4.1.length=x21.1.length)∧(y4.2.1.length=x21.2.1.length)∧I2 x21∧μ3 x21 < μ3 y4))))))) False) (((decide ((y4.1.length:Int) < (a.1.1.length:Int)))=((cM a).1))∧SlQ y4.1.length ((((cM a).2).1).length) (gl aH y4.1) (gl aH (((cM a).2).1)) (SlQ y4.2.1.length ((((cM a).2).2).length) (gl aA y4.2.1) (gl aA (((cM a).2).2)) (True))))
def f346.vc (a:aD×ByteArray):Prop:=(∃ (I2:((List (ByteArray))×(List (List (aB)))×Int)→Prop) (μ3:((List (ByteArray))×(List (List (aB)))×Int)→Nat),I2 ([],[],(0:Int))∧∀ y4:(List (ByteArray))×(List (List (aB)))×Int,I2 y4→((y4.2.2 < (a.1.1.length:Int)→((0:Int)≤y4.2.2∧y4.2.2 < (a.1.1.length:Int)∧((¬((at_ a.1.1 y4.2.2)=a.2)→((0:Int)≤y4.2.2∧y4.2.2 < (a.1.1.length:Int)∧(y4.1.length+1≤1073741824∧((0:Int)≤y4.2.2∧y4.2.2 < (a.1.2.length:Int)∧(y4.2.1.length+1≤1073741824∧(-9223372036854775808≤(y4.2.2+(1:Int))∧(y4.2.2+(1:Int))≤9223372036854775807∧(I2 (y4.1++([at_ a.1.1 y4.2.2]),y4.2.1++([at_ a.1.2 y4.2.2]),(y4.2.2+(1:Int)))∧μ3 (y4.1++([at_ a.1.1 y4.2.2]),y4.2.1++([at_ a.1.2 y4.2.2]),(y4.2.2+(1:Int))) < μ3 y4)))))))∧(¬(¬((at_ a.1.1 y4.2.2)=a.2))→(-9223372036854775808≤(y4.2.2+(1:Int))∧(y4.2.2+(1:Int))≤9223372036854775807∧(I2 (y4.1,y4.2.1,(y4.2.2+(1:Int)))∧μ3 (y4.1,y4.2.1,(y4.2.2+(1:Int))) < μ3 y4))))))∧(¬(y4.2.2 < (a.1.1.length:Int))→((decide ((y4.1.length:Int) < (a.1.1.length:Int)),(y4.1,y4.2.1))=cM a))))
theorem f346.of (a:aD×ByteArray) (h:f346.vc a):f346.tree a:=Exists.elim h (fun I2 h32_=>Exists.elim h32_ (fun μ3 h32=>⟨I2,μ3,⟨([],[],(0:Int)),⟨rfl,slQ (Rds.nil (enc:=aH)) (slQ (Rds.nil (enc:=aA)) (⟨rfl,⟨rfl,SlS.mk  (SlS.mk  (⟨(sB c5 (Rds.nil (enc:=aH))),⟨(sB c5 (Rds.nil (enc:=aA))),h32.1⟩⟩))⟩⟩))⟩⟩,fun y4 h34=>br (h32.2 y4 h34) Cnd.dec (fun h5 k30=>chk k30.2.2 Cnd.ix ⟨k30.1,k30.2.1⟩ (fun h7 k28=>br k28 (Cnd.not Cnd.seq) (fun h8 k26=>chk k26.2.2 Cnd.ix ⟨k26.1,k26.2.1⟩ (fun h10 k19=>⟨⟨rfl,(dO k19.1 (by decide))⟩,chk k19.2.2.2 Cnd.ix ⟨k19.2.1,k19.2.2.1⟩ (fun h11 k18=>⟨⟨rfl,(dO k18.1 (by decide))⟩,wrapK.i64 k18.2 (fun h15 h16 k17=>⟨(y4.1++([at_ a.1.1 y4.2.2]),y4.2.1++([at_ a.1.2 y4.2.2]),(y4.2.2+(1:Int))),⟨rfl,slQ (Rds.app (enc:=aH) (rS aH) (Rds.one (enc:=aH) (DEqs.refl _))) (slQ (Rds.app (enc:=aA) (rS aA) (Rds.one (enc:=aA) (DEqs.refl _))) (⟨rfl,⟨rfl,SlS.mk  (SlS.mk  (⟨(sB (eF (gl aH y4.1) y4.1.length (fun _=>[.str (at_ a.1.1 y4.2.2)])) (Rds.app (enc:=aH) (rS aH) (Rds.one (enc:=aH) (DEqs.refl _)))),⟨(sB (eF (gl aA y4.2.1) y4.2.1.length (fun _=>[.slice .ro 2 ((at_ a.1.2 y4.2.2).length) (gl aE (at_ a.1.2 y4.2.2))])) (Rds.app (enc:=aA) (rS aA) (Rds.one (enc:=aA) (DEqs.refl _)))),k17⟩⟩))⟩⟩))⟩⟩)⟩)⟩)) (fun h9 k27=>wrapK.i64 k27 (fun h23 h24 k25=>⟨(y4.1,y4.2.1,(y4.2.2+(1:Int))),⟨rfl,slQ (rS aH) (slQ (rS aA) (⟨rfl,⟨rfl,SlS.mk  (SlS.mk  (⟨(sB (gl aH y4.1) (rS aH)),⟨(sB (gl aA y4.2.1) (rS aA)),k25⟩⟩))⟩⟩))⟩⟩)))) (fun h6 k31=>⟨(congrArg (fun x:Bool×aD=>x.1) k31 :),slQ (Rds.to (rS aH) (congrArg (fun x:Bool×aD=>x.2.1) k31 :)) (slQ (Rds.to (rS aA) (congrArg (fun x:Bool×aD=>x.2.2) k31 :)) (trivial))⟩)⟩))
theorem f346.eq (a:aD×ByteArray):(f346.af a).gives f346.env (f346.args a) (f346.blks a) (f346.res a) (f346.blks' a)=f346.tree a:=by kernel_rfl
def f347.args (a:aD×(List (aB))):List D:=[.ptr 0 0,.slice .ro 2 a.2.length (gl aE a.2)]
def f347.blks (a:aD×(List (aB))):List (List D):=[[.slice .ro 1 a.1.1.length (gl aH a.1.1),.slice .ro 1 a.1.2.length (gl aA a.1.2)]]
def f347.res (a:aD×(List (aB))):List D:=[.slice .ro 1 (((cT a).1).length) (gl aH ((cT a).1))]
def f347.blks' (a:aD×(List (aB))):List (List D):=[[.slice .ro 1 ((((cT a).2).1).length) (gl aH (((cT a).2).1)),.slice .ro 1 ((((cT a).2).2).length) (gl aA (((cT a).2).2))]]
def f347.C:aZ:=FnC f347.args f347.blks (fun a=>gB a) f347.res f347.blks'
def f347.S0 (a:aD×(List (aB))) (x:(List (ByteArray))×Int):Tm:=⟨.ptr 0 0::.slice .ro 2 a.2.length (gl aE a.2)::.dead::.dead::.dead::.slice (.own 2) 1 x.1.length (gl aH x.1)::.dead::.dead::.dead::.dead::.dead::.int .i64 (a.1.1.length:Int)::.int .i64 x.2::dd 23 [],[(0,false,[.slice .ro 1 a.1.1.length (gl aH a.1.1),.slice .ro 1 a.1.2.length (gl aA a.1.2)])],[(2,1,x.1.length)]⟩
def f347.kills (a:aD×(List (aB))):List jM:=[.tell ((List (ByteArray))×Int) (f347.S0 a)]
def f347.cuts (a:aD×(List (aB))):List (Nat×Σ β:Type,β→Tm):=[]
def f347.af (a:aD×(List (aB))):AF:=AF.mk (.seq (.region [oT 4 1 (.nilSl 1) []])
 (.seq (.region [oT 5 2 (.nilSl 1) []])
 (.seq (.seq (.region [mT 7 3 0,
 oT 8 4 .nilCheck [7],
 oT 9 5 (.fieldAddr 0) [8],
 oT 10 6 (.load false 1) [9],
 oT 11 7 (.len false) [10],
 ⟨(some 12),8,.move,[.c (.int .i64 (0))],none⟩])
 (.block 0 (.loopT ((List (ByteArray))×Int) (f347.S0 a) 9 37 (.seq (.region [oT 13 9 (.bin .lss) [12,11]])
 (.seq (.cond (.t 13) (.skip) (.exit 0))
 (.seq (.block 1 (.seq (.region [mT 14 10 12,
 mT 6 11 14])
 (.seq (.region [mT 15 12 0,
 oT 16 13 .nilCheck [15],
 oT 17 14 (.fieldAddr 1) [16],
 oT 18 15 (.load false 1) [17],
 mT 19 16 6,
 oT 20 17 (.indexAddr 1 none) [18,19],
 oT 21 18 (.load false 1) [20],
 mT 22 19 1,
 oT 23 20 (.call false 360) [21,22]])
 (.cond (.t 23) (.region [mT 24 24 5,
 mT 25 25 0,
 oT 26 26 .nilCheck [25],
 oT 27 27 (.fieldAddr 0) [26],
 oT 28 28 (.load false 1) [27],
 mT 29 29 6,
 oT 30 30 (.indexAddr 1 none) [28,29],
 oT 31 31 (.load false 1) [30],
 oT 32 32 (.buildSlice 1 1 [.str ByteArray.empty] [(0,1)]) [31],
 oT 33 33 (.append 1 16) [24,32],
 mT 5 34 33]) (.skip)))))
 (.region [⟨(some 34),35,(.bin .add),[.t 12,.c (.int .i64 (1))],none⟩,
 mT 12 36 34])))))))
 (.seq (.region [mT 35 37 5,
 mT 4 38 35])
 (.ret)))))
 [.tmp 4] 1 34
def f347.env:Env:=[(360,f360.C)]
def f347.tree (a:aD×(List (aB))):Prop:=∃ (I2:((List (ByteArray))×Int)→Prop) (μ3:((List (ByteArray))×Int)→Nat),(∃ x1:(List (ByteArray))×Int,SlS aE a.2 (SlQ 0 x1.1.length c5 (gl aH x1.1) (((a.1.1.length:Int)=(a.1.1.length:Int))∧((0:Int)=x1.2)∧SlS aH a.1.1 (SlS aA a.1.2 ((0=x1.1.length)∧I2 x1)))))∧∀ y4:(List (ByteArray))×Int,I2 y4→(Br (decide (y4.2 < (a.1.1.length:Int))) (Br (decide ((0:Int)≤y4.2)&&decide (y4.2 < (a.1.2.length:Int))) (f360.ent (fun c8=>(tL c8)∧Br (eU c8) (Br (decide ((0:Int)≤y4.2)&&decide (y4.2 < (a.1.1.length:Int))) ((y4.1.length=y4.1.length∧gI ((y4.1.length+1) * 16))∧(Let (wI (y4.2+(1:Int))) (fun v12:Int=>∃ x13:(List (ByteArray))×Int,SlS aE a.2 (SlQ (y4.1.length+1) x13.1.length (eF (gl aH y4.1) y4.1.length (fun _=>[.str (at_ a.1.1 y4.2)])) (gl aH x13.1) (((a.1.1.length:Int)=(a.1.1.length:Int))∧(v12=x13.2)∧SlS aH a.1.1 (SlS aA a.1.2 (((y4.1.length+1)=x13.1.length)∧I2 x13∧μ3 x13 < μ3 y4))))))) False) (Let (wI (y4.2+(1:Int))) (fun v19:Int=>∃ x20:(List (ByteArray))×Int,SlS aE a.2 (SlQ y4.1.length x20.1.length (gl aH y4.1) (gl aH x20.1) (((a.1.1.length:Int)=(a.1.1.length:Int))∧(v19=x20.2)∧SlS aH a.1.1 (SlS aA a.1.2 ((y4.1.length=x20.1.length)∧I2 x20∧μ3 x20 < μ3 y4))))))) (at_ a.1.2 y4.2,a.2)) False) ((y4.1.length=y4.1.length)∧SlQ y4.1.length (((cT a).1).length) (gl aH y4.1) (gl aH ((cT a).1)) (SlQ a.1.1.length ((((cT a).2).1).length) (gl aH a.1.1) (gl aH (((cT a).2).1)) (SlQ a.1.2.length ((((cT a).2).2).length) (gl aA a.1.2) (gl aA (((cT a).2).2)) (True)))))
def f347.vc (a:aD×(List (aB))):Prop:=(∃ (I2:((List (ByteArray))×Int)→Prop) (μ3:((List (ByteArray))×Int)→Nat),I2 ([],(0:Int))∧∀ y4:(List (ByteArray))×Int,I2 y4→((y4.2 < (a.1.1.length:Int)→((0:Int)≤y4.2∧y4.2 < (a.1.2.length:Int)∧(tL (at_ a.1.2 y4.2,a.2)∧(((eU (at_ a.1.2 y4.2,a.2))=true→((0:Int)≤y4.2∧y4.2 < (a.1.1.length:Int)∧(y4.1.length+1≤1073741824∧(-9223372036854775808≤(y4.2+(1:Int))∧(y4.2+(1:Int))≤9223372036854775807∧(I2 (y4.1++([at_ a.1.1 y4.2]),(y4.2+(1:Int)))∧μ3 (y4.1++([at_ a.1.1 y4.2]),(y4.2+(1:Int))) < μ3 y4)))))∧(¬((eU (at_ a.1.2 y4.2,a.2))=true)→(-9223372036854775808≤(y4.2+(1:Int))∧(y4.2+(1:Int))≤9223372036854775807∧(I2 (y4.1,(y4.2+(1:Int)))∧μ3 (y4.1,(y4.2+(1:Int))) < μ3 y4)))))))∧(¬(y4.2 < (a.1.1.length:Int))→((y4.1,a.1)=cT a))))
theorem f347.of (a:aD×(List (aB))) (h:f347.vc a):f347.tree a:=Exists.elim h (fun I2 h32_=>Exists.elim h32_ (fun μ3 h32=>⟨I2,μ3,⟨([],(0:Int)),SlS.mk  (slQ (Rds.nil (enc:=aH)) (⟨rfl,⟨rfl,SlS.mk  (SlS.mk  (⟨(sB c5 (Rds.nil (enc:=aH))),h32.1⟩))⟩⟩))⟩,fun y4 h34=>br (h32.2 y4 h34) Cnd.dec (fun h5 k30=>chk k30.2.2 Cnd.ix ⟨k30.1,k30.2.1⟩ (fun h7 k28=>(f360.ei ⟨k28.1,br k28.2 Cnd.b (fun h9 k25=>chk k25.2.2 Cnd.ix ⟨k25.1,k25.2.1⟩ (fun h11 k18=>⟨⟨rfl,(dO k18.1 (by decide))⟩,wrapK.i64 k18.2 (fun h15 h16 k17=>⟨(y4.1++([at_ a.1.1 y4.2]),(y4.2+(1:Int))),SlS.mk  (slQ (Rds.app (enc:=aH) (rS aH) (Rds.one (enc:=aH) (DEqs.refl _))) (⟨rfl,⟨rfl,SlS.mk  (SlS.mk  (⟨(sB (eF (gl aH y4.1) y4.1.length (fun _=>[.str (at_ a.1.1 y4.2)])) (Rds.app (enc:=aH) (rS aH) (Rds.one (enc:=aH) (DEqs.refl _)))),k17⟩))⟩⟩))⟩)⟩)) (fun h10 k26=>wrapK.i64 k26 (fun h22 h23 k24=>⟨(y4.1,(y4.2+(1:Int))),SlS.mk  (slQ (rS aH) (⟨rfl,⟨rfl,SlS.mk  (SlS.mk  (⟨(sB (gl aH y4.1) (rS aH)),k24⟩))⟩⟩))⟩))⟩))) (fun h6 k31=>⟨rfl,slQ (Rds.to (rS aH) (congrArg (fun x:(List (ByteArray))×aD=>x.1) k31 :)) (slQ (Rds.to (rS aH) (congrArg (fun x:(List (ByteArray))×aD=>x.2.1) k31 :)) (slQ (Rds.to (rS aA) (congrArg (fun x:(List (ByteArray))×aD=>x.2.2) k31 :)) (trivial)))⟩)⟩))
theorem f347.eq (a:aD×(List (aB))):(f347.af a).gives f347.env (f347.args a) (f347.blks a) (f347.res a) (f347.blks' a)=f347.tree a:=by kernel_rfl
theorem f346.ok (a:Ps Lbs×ByteArray) (h:fK a):f346.vc a:=by
 obtain ⟨⟨ns,ays⟩,k⟩:=a
 obtain ⟨h1,h2⟩:ns.length=ays.length∧ns.length≤1048576:=h
 have hl:(pz (ns,ays)).length=ns.length:=vL h1
 refine ⟨fun y=>0≤y.2.2∧y.2.2≤(ns.length:Int)∧(y.1,y.2.1)=pu (iR ((pz (ns,ays)).take y.2.2.toNat) k),fun y=>ns.length - y.2.2.toNat,⟨by simp only; omega,by simp only; omega,rfl⟩,fun y hy=>?_⟩
 obtain ⟨x,z,i⟩:=y
 obtain ⟨g0,g1,g2⟩:=hy
 simp only at g0 g1 g2
 obtain ⟨rfl,rfl⟩:=Prod.mk.inj g2
 have hx:(iR ((pz (ns,ays)).take i.toNat) k).length≤1048576:=Nat.le_trans (q6 _ _) (by rw [List.length_take]; omega)
 refine ⟨fun hlt=>?_,fun hge=>?_⟩
 ·simp only at hlt
  have hs:(pz (ns,ays)).take (i+1).toNat=(pz (ns,ays)).take i.toNat++[(at_ ns i,at_ ays i)]:=by
   rw [show (i+1).toNat=i.toNat+1 by omega,nR (by omega),aEP h1,dW,dW]
  refine ⟨g0,hlt,fun c=>⟨g0,hlt,by simp only [List.length_map]; omega,g0,by simp only; omega,by simp only [List.length_map]; omega,by simp only; omega,by simp only; omega,⟨by simp only; omega,by simp only; omega,?_⟩,by simp only; omega⟩,fun c=>⟨by simp only; omega,by simp only; omega,⟨by simp only; omega,by simp only; omega,?_⟩,by simp only; omega⟩⟩
  ·simp only
   rw [hs,yH,if_pos c]
   simp [pu]
  ·simp only
   rw [hs,yH,if_neg c]
   rfl
 ·simp only at hge
  have:i.toNat=ns.length:=by omega
  simp only
  rw [this,List.take_of_length_le (by omega)]
  unfold cM
  refine Prod.ext ?_ rfl
  simp only [List.length_map]
  exact decide_eq_decide.2 Int.ofNat_lt
theorem f345.ok (a:Ps Lbs×ByteArray×Lbs) (h:kK a):f345.vc a:=by
 obtain ⟨⟨ns,ays⟩,k,t⟩:=a
 obtain ⟨h1,h2⟩:ns.length=ays.length∧ns.length≤1048576:=h
 have hl:(pz (ns,ays)).length=ns.length:=vL h1
 let m:=iR (pz (ns,ays)) k
 have hm:m.length≤1048576:=Nat.le_trans (q6 _ _) (by omega)
 have e1:(m.map (·.1)).length=m.length:=List.length_map _
 have e2:(m.map (·.2)).length=m.length:=List.length_map _
 refine ⟨⟨h1,h2⟩,fun y=>0≤y.1∧y.1≤(m.length:Int)∧y.2.1=m.map (·.1)∧y.2.2=m.map (·.2)∧∀ j,j < y.1.toNat→slt (m.getD j default).1 k=true,fun y=>m.length - y.1.toNat,
  ⟨by simp only; omega,by simp only; omega,rfl,rfl,fun j hj=>absurd hj (Nat.not_lt_zero _)⟩,fun y hy=>?_⟩
 obtain ⟨i,x,z⟩:=y
 obtain ⟨g0,g1,g2,g3,g4⟩:=hy
 simp only at g0 g1 g2 g3 g4
 subst g2 g3
 have hat:(m.getD i.toNat default).1=at_ (m.map (·.1)) i:=by
  rw [dW]
  by_cases hi:i.toNat < m.length
  ·simp [List.getD_eq_getElem?_getD,hi]
  ·simp [List.getD_eq_getElem?_getD,List.getElem?_eq_none (Nat.le_of_not_lt hi)]
   rfl
 have fin:(i.toNat=m.length∨slt (m.getD i.toNat default).1 k=false)→(((([]:List ByteArray)++(gX (m.map (·.1)) 0 i))++[k])++(gX (m.map (·.1)) i ((m.map (·.1)).length:Int)),((([]:List Lbs)++(gX (m.map (·.2)) 0 i))++[t])++(gX (m.map (·.2)) i ((m.map (·.2)).length:Int)))=fI ((ns,ays),k,t):=fun hc=>by
  obtain ⟨w1,w2⟩:=vI (p:=fun y=>slt y.1 k) (m:=m) (i:=i.toNat) (by omega) g4 hc
  rw [aHU,aHU,aH8,aH8]
  show _=pu (aC5 m k t)
  unfold aC5 pu
  rw [w1,w2]
  simp [List.map_take,List.map_drop]
 refine ⟨fun hlt=>?_,fun hge=>?_⟩
 ·simp only [e1] at hlt
  refine ⟨g0,by simp only [e1]; omega,fun c=>⟨by simp only; omega,by simp only; omega,⟨by simp only; omega,by simp only; omega,rfl,rfl,fun j hj=>?_⟩,by simp only; omega⟩,fun c=>⟨g0,by simp only [e1]; omega,by simp only; omega,by simp only; omega,g0,by simp only [e1]; omega,by simp only [e1]; omega,g0,by simp only [e2]; omega,by simp only; omega,by simp only; omega,g0,by simp only [e2]; omega,by simp only [e2]; omega,fin (.inr ?_)⟩⟩
  ·simp only at hj
   by_cases he:j=i.toNat
   ·subst he
    rw [hat]
    exact c
   ·exact g4 j (by omega)
  ·rw [hat]
   exact Bool.eq_false_iff.2 c
 ·simp only [e1] at hge
  exact ⟨g0,by simp only [e1]; omega,by simp only; omega,by simp only; omega,g0,by simp only [e1]; omega,by simp only [e1]; omega,g0,by simp only [e2]; omega,by simp only; omega,by simp only; omega,g0,by simp only [e2]; omega,by simp only [e2]; omega,fin (.inl (by omega))⟩
theorem yV (l:List (ByteArray×Lbs)) (w:Lbs) (a:ByteArray×Lbs):mJ (l++[a]) w=if eU (a.2,w)=true then mJ l w++[a.1] else mJ l w:=by
 unfold mJ
 rw [List.filter_append,List.map_append]
 split
 ·rename_i h
  rw [List.filter_cons_of_pos (by simpa using h),List.filter_nil]
  rfl
 ·rename_i h
  rw [List.filter_cons_of_neg (by simpa using h),List.filter_nil]
  simp
theorem aE9 (l:List (ByteArray×Lbs)) (w:Lbs):(mJ l w).length≤l.length:=by
 unfold mJ
 rw [List.length_map]
 exact List.length_filter_le _ _
theorem f347.ok (a:Ps Lbs×Lbs) (h:gB a):f347.vc a:=by
 obtain ⟨⟨ns,ays⟩,w⟩:=a
 obtain ⟨⟨h1,h2⟩,h3,h4⟩:(ns.length=ays.length∧ns.length≤1048576)∧L20 w∧∀ x∈ays,L20 x:=h
 have hl:(pz (ns,ays)).length=ns.length:=vL h1
 refine ⟨fun y=>0≤y.2∧y.2≤(ns.length:Int)∧y.1=mJ ((pz (ns,ays)).take y.2.toNat) w,fun y=>ns.length - y.2.toNat,⟨by simp only; omega,by simp only; omega,rfl⟩,fun y hy=>?_⟩
 obtain ⟨u,i⟩:=y
 obtain ⟨g0,g1,g2⟩:=hy
 simp only at g0 g1 g2
 subst g2
 have hx:(mJ ((pz (ns,ays)).take i.toNat) w).length≤1048576:=Nat.le_trans (aE9 _ _) (by rw [List.length_take]; omega)
 refine ⟨fun hlt=>?_,fun hge=>?_⟩
 ·simp only at hlt
  have hs:(pz (ns,ays)).take (i+1).toNat=(pz (ns,ays)).take i.toNat++[(at_ ns i,at_ ays i)]:=by
   rw [show (i+1).toNat=i.toNat+1 by omega,nR (by omega),aEP h1,dW,dW]
  refine ⟨g0,by simp only; omega,⟨h4 _ (aKR g0 (by simp only; omega)),h3⟩,fun c=>⟨g0,hlt,by simp only; omega,by simp only; omega,by simp only; omega,⟨by simp only; omega,by simp only; omega,?_⟩,by simp only; omega⟩,fun c=>⟨by simp only; omega,by simp only; omega,⟨by simp only; omega,by simp only; omega,?_⟩,by simp only; omega⟩⟩
  ·simp only
   rw [hs,yV,if_pos c]
  ·simp only
   rw [hs,yV,if_neg c]
 ·simp only at hge
  have hi:i.toNat=ns.length:=by omega
  simp only
  rw [hi,List.take_of_length_le (by omega)]
  rfl
end Go.Abs
