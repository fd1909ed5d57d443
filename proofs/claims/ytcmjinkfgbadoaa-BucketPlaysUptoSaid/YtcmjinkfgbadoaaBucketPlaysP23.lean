/- Functions, and what the code asks of them: PBucket2. -/
import Derived.KernelRfl
import Derived.Test.YtcmjinkfgbadoaaBucketPlaysP4
import Derived.Test.YtcmjinkfgbadoaaBucketPlaysP5
import Derived.Test.YtcmjinkfgbadoaaBucketPlaysP6
import Derived.Test.YtcmjinkfgbadoaaBucketPlaysP7
import Derived.Test.YtcmjinkfgbadoaaBucketPlaysP8
import Derived.Test.YtcmjinkfgbadoaaBucketPlaysP9
import Derived.Test.YtcmjinkfgbadoaaBucketPlaysP10
import Derived.Test.YtcmjinkfgbadoaaBucketPlaysP11
import Derived.Test.YtcmjinkfgbadoaaBucketPlaysP12
import Derived.Test.YtcmjinkfgbadoaaBucketPlaysP15
import Derived.Test.YtcmjinkfgbadoaaBucketPlaysP16
import Derived.Test.YtcmjinkfgbadoaaBucketPlaysP17
import Derived.Test.YtcmjinkfgbadoaaBucketPlaysP18
import Derived.Test.YtcmjinkfgbadoaaBucketPlaysP20
import Derived.Test.YtcmjinkfgbadoaaBucketPlaysP21
import Derived.Test.YtcmjinkfgbadoaaBucketPlaysP22
set_option maxRecDepth 100000
set_option maxHeartbeats 4000000
set_option linter.unusedVariables false
set_option linter.unusedSimpArgs false
set_option linter.unusedSectionVars false
-- interregnum/interregnumlaw17.few
namespace Go.Abs
open Go
def f306.ent (K:(List (aF))→Prop) (t:List (aF)):Prop:=∃ c:List (aF),SlQ t.length c.length (gl aH t) (gl aH c) (K c)
theorem f306.ei {K:(List (aF))→Prop} {t:List (aF)} (h:K t):f306.ent K t:=⟨t,slQ (rS aH) (h)⟩
def f306.args (a:List (aF)):List D:=[.slice .ro 5 a.length (gl aH a)]
def f306.blks (a:List (aF)):List (List D):=[]
def f306.res (a:List (aF)):List D:=[.bool (iK a)]
def f306.blks' (a:List (aF)):List (List D):=[]
def f306.C:aQ:=FnC f306.args f306.blks (fun a=>L20 a) f306.res f306.blks'
set_option linter.unusedVariables false
def f306.S0 (a:List (aF)) (x:Int):Tm:=⟨.slice .ro 5 a.length (gl aH a)::dd 7 (.int .i64 (a.length:Int)::.int .i64 x::dd 10 []),[],[]⟩
def f306.kills (a:List (aF)):List Hint:=[.tell Int (f306.S0 a)]
def f306.cuts (a:List (aF)):List (Nat×Σ β:Type,β→Tm):=[]
def f306.af (a:List (aF)):AF:=AF.mk (.seq (.region [⟨(some 2),0,.move,[.c (.bool false)],none⟩])
 (.seq (.seq (.region [mT 4 1 0,
 oT 5 2 (.len false) [4],
 ⟨(some 6),3,(.bin .gtr),[.t 5,.c (.int .i64 (300))],none⟩])
 (.cond (.t 6) (.seq (.region [⟨(some 2),4,.move,[.c (.bool false)],none⟩])
 (.ret)) (.skip)))
 (.seq (.seq (.region [mT 7 5 0,
 oT 8 6 (.len false) [7],
 ⟨(some 9),7,.move,[.c (.int .i64 (0))],none⟩])
 (.block 0 (.loopT Int (f306.S0 a) 8 21 (.seq (.region [oT 10 8 (.bin .lss) [9,8]])
 (.seq (.cond (.t 10) (.skip) (.exit 0))
 (.seq (.block 1 (.seq (.region [mT 11 9 9,
 mT 3 10 11])
 (.seq (.region [mT 12 11 0,
 mT 13 12 3,
 oT 14 13 (.indexAddr 5 none) [12,13],
 oT 15 14 (.fieldAddr 1) [14],
 oT 16 15 (.load false 1) [15],
 oT 17 16 (.len true) [16],
 ⟨(some 18),17,(.bin .gtr),[.t 17,.c (.int .i64 (1000))],none⟩])
 (.cond (.t 18) (.seq (.region [⟨(some 2),18,.move,[.c (.bool false)],none⟩])
 (.ret)) (.skip)))))
 (.region [⟨(some 19),19,(.bin .add),[.t 9,.c (.int .i64 (1))],none⟩,
 mT 9 20 19])))))))
 (.seq (.region [⟨(some 2),21,.move,[.c (.bool true)],none⟩])
 (.ret)))))
 [.tmp 2] 0 19
def f306.env:Env:=[]
def f306.tree (a:List (aF)):Prop:=Br (decide ((300:Int) < (a.length:Int))) ((false=(iK a))∧True) (∃ (I5:Int→Prop) (μ6:Int→Nat),(∃ x4:Int,SlS aH a (((a.length:Int)=(a.length:Int))∧((0:Int)=x4)∧I5 x4))∧∀ y7:Int,I5 y7→(Br (decide (y7 < (a.length:Int))) (Br (decide ((0:Int)≤y7)&&decide (y7 < (a.length:Int))) (Br (decide ((1000:Int) < (((at_ a y7).2.1).size:Int))) ((false=(iK a))∧True) (Let (wI (y7+(1:Int))) (fun v14:Int=>∃ x15:Int,SlS aH a (((a.length:Int)=(a.length:Int))∧(v14=x15)∧I5 x15∧μ6 x15 < μ6 y7)))) False) ((true=(iK a))∧True)))
def f306.vc (a:List (aF)):Prop:=(((300:Int) < (a.length:Int)→(false=iK a))∧(¬((300:Int) < (a.length:Int))→(∃ (I5:Int→Prop) (μ6:Int→Nat),I5 (0:Int)∧∀ y7:Int,I5 y7→((y7 < (a.length:Int)→((0:Int)≤y7∧y7 < (a.length:Int)∧(((1000:Int) < (((at_ a y7).2.1).size:Int)→(false=iK a))∧(¬((1000:Int) < (((at_ a y7).2.1).size:Int))→(-9223372036854775808≤(y7+(1:Int))∧(y7+(1:Int))≤9223372036854775807∧(I5 (y7+(1:Int))∧μ6 (y7+(1:Int)) < μ6 y7))))))∧(¬(y7 < (a.length:Int))→(true=iK a))))))
theorem f306.of (a:List (aF)) (h:f306.vc a):f306.tree a:=br h Cnd.dec (fun h1 k29=>⟨k29,trivial⟩) (fun h2 k30=>Exists.elim k30 (fun I5 h26_=>Exists.elim h26_ (fun μ6 h26=>⟨I5,μ6,⟨(0:Int),SlS.mk  (⟨rfl,⟨rfl,h26.1⟩⟩)⟩,fun y7 h28=>br (h26.2 y7 h28) Cnd.dec (fun h8 k24=>chk k24.2.2 Cnd.ix ⟨k24.1,k24.2.1⟩ (fun h10 k22=>br k22 Cnd.dec (fun h11 k20=>⟨k20,trivial⟩) (fun h12 k21=>wrapK.i64 k21 (fun h17 h18 k19=>⟨(y7+(1:Int)),SlS.mk  (⟨rfl,⟨rfl,k19⟩⟩)⟩)))) (fun h9 k25=>⟨k25,trivial⟩)⟩)))
theorem f306.eq (a:List (aF)):(f306.af a).gives f306.env (f306.args a) (f306.blks a) (f306.res a) (f306.blks' a)=f306.tree a:=by kernel_rfl
def f307.args (a:aE×ByteArray×aB):List D:=[.ptr 0 0,.str a.2.1,.agg [.int .i64 a.2.2.1,.int .i64 a.2.2.2.1,.int .i64 a.2.2.2.2]]
def f307.blks (a:aE×ByteArray×aB):List (List D):=[[.slice .ro 1 a.1.1.length (gl aA a.1.1),.slice .ro 3 a.1.2.length (gl aC a.1.2)]]
def f307.res (a:aE×ByteArray×aB):List D:=[]
def f307.blks' (a:aE×ByteArray×aB):List (List D):=[[.slice .ro 1 (((fU a).1).length) (gl aA ((fU a).1)),.slice .ro 3 (((fU a).2).length) (gl aC ((fU a).2))]]
def f307.C:aQ:=FnC f307.args f307.blks (fun a=>lL a) f307.res f307.blks'
def f308.args (a:aE×ByteArray):List D:=[.ptr 0 0,.str a.2]
def f308.blks (a:aE×ByteArray):List (List D):=[[.slice .ro 1 a.1.1.length (gl aA a.1.1),.slice .ro 3 a.1.2.length (gl aC a.1.2)]]
def f308.res (a:aE×ByteArray):List D:=[.bool ((cU a).1)]
def f308.blks' (a:aE×ByteArray):List (List D):=[[.slice .ro 1 ((((cU a).2).1).length) (gl aA (((cU a).2).1)),.slice .ro 3 ((((cU a).2).2).length) (gl aC (((cU a).2).2))]]
def f308.C:aQ:=FnC f308.args f308.blks (fun a=>dL a) f308.res f308.blks'
def f307.S0 (a:aE×ByteArray×aB) (x:Int×(List (ByteArray))×(List (aB))):Tm:=⟨.ptr 0 0::.str a.2.1::.dead::.dead::.dead::.ptr 1 0::.int .i64 x.1::dd 69 [],[(0,false,[.slice .ro 1 x.2.1.length (gl aA x.2.1),.slice .ro 3 x.2.2.length (gl aC x.2.2)]),(1,false,[.int .i64 a.2.2.1,.int .i64 a.2.2.2.1,.int .i64 a.2.2.2.2])],[]⟩
def f307.kills (a:aE×ByteArray×aB):List Hint:=[.tell (Int×(List (ByteArray))×(List (aB))) (f307.S0 a)]
def f307.cuts (a:aE×ByteArray×aB):List (Nat×Σ β:Type,β→Tm):=[]
def f307.af (a:aE×ByteArray×aB):AF:=AF.mk (.seq (.region [oT 5 1 .box [2]])
 (.seq (.region [mT 9 2 0,
 mT 10 3 1,
 oT 11 4 (.call true 308) [9,10]])
 (.seq (.region [⟨(some 6),8,.move,[.c (.int .i64 (0))],none⟩])
 (.seq (.block 0 (.loopT (Int×(List (ByteArray))×(List (aB))) (f307.S0 a) 9 30 (.seq (.seq (.region [mT 12 9 6,
 mT 13 10 0,
 oT 14 11 .nilCheck [13],
 oT 15 12 (.fieldAddr 0) [14],
 oT 16 13 (.load false 1) [15],
 oT 17 14 (.len false) [16],
 oT 18 15 (.bin .lss) [12,17],
 mT 19 16 18,
 oG 20 17 .move [0] 19 true,
 oG 21 18 .nilCheck [20] 19 true,
 oG 22 19 (.fieldAddr 0) [21] 19 true,
 oG 23 20 (.load false 1) [22] 19 true,
 oG 24 21 .move [6] 19 true,
 oG 25 22 (.indexAddr 1 none) [23,24] 19 true,
 oG 26 23 (.load false 1) [25] 19 true,
 oG 27 24 .move [1] 19 true,
 oG 28 25 (.bin .lss) [26,27] 19 true,
 ⟨(some 29),26,.pick,[.t 19,.t 28,.c (.bool false)],none⟩])
 (.cond (.t 29) (.skip) (.exit 0)))
 (.block 1 (.region [mT 30 27 6,
 ⟨(some 31),28,(.bin .add),[.t 30,.c (.int .i64 (1))],none⟩,
 mT 6 29 31])))))
 (.seq (.region [oT 7 30 (.nilSl 1) []])
 (.seq (.region [oT 8 31 (.nilSl 3) []])
 (.seq (.region [mT 32 32 7,
 mT 33 33 0,
 oT 34 34 .nilCheck [33],
 oT 35 35 (.fieldAddr 0) [34],
 oT 36 36 (.load false 1) [35],
 mT 37 37 6,
 oT 38 38 (.sliceSl 1 false true false) [36,37],
 oT 39 39 (.append 1 16) [32,38],
 mT 40 40 1,
 oT 41 41 (.buildSlice 1 1 [.str ByteArray.empty] [(0,1)]) [40],
 oT 42 42 (.append 1 16) [39,41],
 mT 43 43 0,
 oT 44 44 .nilCheck [43],
 oT 45 45 (.fieldAddr 0) [44],
 oT 46 46 (.load false 1) [45],
 mT 47 47 6,
 oT 48 48 (.sliceSl 1 true false false) [46,47],
 oT 49 49 (.append 1 16) [42,48],
 mT 7 50 49])
 (.seq (.region [mT 50 51 8,
 mT 51 52 0,
 oT 52 53 .nilCheck [51],
 oT 53 54 (.fieldAddr 1) [52],
 oT 54 55 (.load false 1) [53],
 mT 55 56 6,
 oT 56 57 (.sliceSl 3 false true false) [54,55],
 oT 57 58 (.append 3 24) [50,56],
 oT 58 59 (.load true 3) [5],
 oT 59 60 (.buildSlice 3 1 [.int .i64 (0),.int .i64 (0),.int .i64 (0)] [(0,3)]) [58],
 oT 60 61 (.append 3 24) [57,59],
 mT 61 62 0,
 oT 62 63 .nilCheck [61],
 oT 63 64 (.fieldAddr 1) [62],
 oT 64 65 (.load false 1) [63],
 mT 65 66 6,
 oT 66 67 (.sliceSl 3 true false false) [64,65],
 oT 67 68 (.append 3 24) [60,66],
 mT 8 69 67])
 (.region [mT 68 70 0,
 mT 69 71 0,
 mT 70 72 7,
 mT 71 73 8,
 oT 72 74 .nilCheck [68],
 oT 73 75 (.fieldAddr 0) [72],
 ⟨none,76,(.store 1),[.t 73,.t 70],none⟩,
 oT 74 77 .nilCheck [69],
 oT 75 78 (.fieldAddr 1) [74],
 ⟨none,79,(.store 1),[.t 75,.t 71],none⟩])))))))))
 [] 1 73
def f307.env:Env:=[(308,f308.C)]
def f307.tree (a:aE×ByteArray×aB):Prop:=∃ c1:aE×ByteArray,(a.2.1=c1.2)∧SlQ a.1.1.length c1.1.1.length (gl aA a.1.1) (gl aA c1.1.1) (SlQ a.1.2.length c1.1.2.length (gl aC a.1.2) (gl aC c1.1.2) ((dL c1)∧∃ (I3:(Int×(List (ByteArray))×(List (aB)))→Prop) (μ4:(Int×(List (ByteArray))×(List (aB)))→Nat),(∃ x2:Int×(List (ByteArray))×(List (aB)),(a.2.1=a.2.1)∧((0:Int)=x2.1)∧SlQ ((((cU c1).2).1).length) x2.2.1.length (gl aA (((cU c1).2).1)) (gl aA x2.2.1) (SlQ ((((cU c1).2).2).length) x2.2.2.length (gl aC (((cU c1).2).2)) (gl aC x2.2.2) ((a.2.2.1=a.2.2.1)∧(a.2.2.2.1=a.2.2.2.1)∧(a.2.2.2.2=a.2.2.2.2)∧I3 x2)))∧∀ y5:Int×(List (ByteArray))×(List (aB)),I3 y5→(Br (decide (y5.1 < (y5.2.1.length:Int))) (Br (decide ((0:Int)≤y5.1)&&decide (y5.1 < (y5.2.1.length:Int))) (Br (Op.bytesLess (at_ y5.2.1 y5.1).toList a.2.1.toList) (Let (wI (y5.1+(1:Int))) (fun v11:Int=>∃ x12:Int×(List (ByteArray))×(List (aB)),(a.2.1=a.2.1)∧(v11=x12.1)∧SlQ y5.2.1.length x12.2.1.length (gl aA y5.2.1) (gl aA x12.2.1) (SlQ y5.2.2.length x12.2.2.length (gl aC y5.2.2) (gl aC x12.2.2) ((a.2.2.1=a.2.2.1)∧(a.2.2.2.1=a.2.2.2.1)∧(a.2.2.2.2=a.2.2.2.2)∧I3 x12∧μ4 x12 < μ4 y5)))) (Br (decide ((0:Int)≤(0:Int))&&decide ((0:Int)≤y5.1)&&decide (y5.1≤(y5.2.1.length:Int))&&(y5.1==y5.1)) ((0=0∧iJ ((0+(Int.toNat (y5.1 - (0:Int)))) * 16))∧(((0+(Int.toNat (y5.1 - (0:Int))))=(0+(Int.toNat (y5.1 - (0:Int))))∧iJ (((0+(Int.toNat (y5.1 - (0:Int))))+1) * 16))∧(Br (decide ((0:Int)≤y5.1)&&decide (y5.1≤(y5.2.1.length:Int))&&decide ((y5.2.1.length:Int)≤(y5.2.1.length:Int))&&((y5.2.1.length:Int)==(y5.2.1.length:Int))) ((((0+(Int.toNat (y5.1 - (0:Int))))+1)=((0+(Int.toNat (y5.1 - (0:Int))))+1)∧iJ ((((0+(Int.toNat (y5.1 - (0:Int))))+1)+(Int.toNat ((y5.2.1.length:Int) - y5.1))) * 16))∧(Br (decide ((0:Int)≤(0:Int))&&decide ((0:Int)≤y5.1)&&decide (y5.1≤(y5.2.2.length:Int))&&(y5.1==y5.1)) ((0=0∧iJ ((0+(Int.toNat (y5.1 - (0:Int)))) * 24))∧(((0+(Int.toNat (y5.1 - (0:Int))))=(0+(Int.toNat (y5.1 - (0:Int))))∧iJ (((0+(Int.toNat (y5.1 - (0:Int))))+1) * 24))∧(Br (decide ((0:Int)≤y5.1)&&decide (y5.1≤(y5.2.2.length:Int))&&decide ((y5.2.2.length:Int)≤(y5.2.2.length:Int))&&((y5.2.2.length:Int)==(y5.2.2.length:Int))) ((((0+(Int.toNat (y5.1 - (0:Int))))+1)=((0+(Int.toNat (y5.1 - (0:Int))))+1)∧iJ ((((0+(Int.toNat (y5.1 - (0:Int))))+1)+(Int.toNat ((y5.2.2.length:Int) - y5.1))) * 24))∧(SlQ (((0+(Int.toNat (y5.1 - (0:Int))))+1)+(Int.toNat ((y5.2.1.length:Int) - y5.1))) (((fU a).1).length) (eR (eR (eR fF 0 (sW (gl aA y5.2.1) 0)) (0+(Int.toNat (y5.1 - (0:Int)))) (fun _=>[.str a.2.1])) ((0+(Int.toNat (y5.1 - (0:Int))))+1) (sW (gl aA y5.2.1) (Int.toNat y5.1))) (gl aA ((fU a).1)) (SlQ (((0+(Int.toNat (y5.1 - (0:Int))))+1)+(Int.toNat ((y5.2.2.length:Int) - y5.1))) (((fU a).2).length) (eR (eR (eR fF 0 (sW (gl aC y5.2.2) 0)) (0+(Int.toNat (y5.1 - (0:Int)))) (fun _=>[.int .i64 a.2.2.1,.int .i64 a.2.2.2.1,.int .i64 a.2.2.2.2])) ((0+(Int.toNat (y5.1 - (0:Int))))+1) (sW (gl aC y5.2.2) (Int.toNat y5.1))) (gl aC ((fU a).2)) (True)))) False))) False)) False))) False)) False) (Br (decide ((0:Int)≤(0:Int))&&decide ((0:Int)≤y5.1)&&decide (y5.1≤(y5.2.1.length:Int))&&(y5.1==y5.1)) ((0=0∧iJ ((0+(Int.toNat (y5.1 - (0:Int)))) * 16))∧(((0+(Int.toNat (y5.1 - (0:Int))))=(0+(Int.toNat (y5.1 - (0:Int))))∧iJ (((0+(Int.toNat (y5.1 - (0:Int))))+1) * 16))∧(Br (decide ((0:Int)≤y5.1)&&decide (y5.1≤(y5.2.1.length:Int))&&decide ((y5.2.1.length:Int)≤(y5.2.1.length:Int))&&((y5.2.1.length:Int)==(y5.2.1.length:Int))) ((((0+(Int.toNat (y5.1 - (0:Int))))+1)=((0+(Int.toNat (y5.1 - (0:Int))))+1)∧iJ ((((0+(Int.toNat (y5.1 - (0:Int))))+1)+(Int.toNat ((y5.2.1.length:Int) - y5.1))) * 16))∧(Br (decide ((0:Int)≤(0:Int))&&decide ((0:Int)≤y5.1)&&decide (y5.1≤(y5.2.2.length:Int))&&(y5.1==y5.1)) ((0=0∧iJ ((0+(Int.toNat (y5.1 - (0:Int)))) * 24))∧(((0+(Int.toNat (y5.1 - (0:Int))))=(0+(Int.toNat (y5.1 - (0:Int))))∧iJ (((0+(Int.toNat (y5.1 - (0:Int))))+1) * 24))∧(Br (decide ((0:Int)≤y5.1)&&decide (y5.1≤(y5.2.2.length:Int))&&decide ((y5.2.2.length:Int)≤(y5.2.2.length:Int))&&((y5.2.2.length:Int)==(y5.2.2.length:Int))) ((((0+(Int.toNat (y5.1 - (0:Int))))+1)=((0+(Int.toNat (y5.1 - (0:Int))))+1)∧iJ ((((0+(Int.toNat (y5.1 - (0:Int))))+1)+(Int.toNat ((y5.2.2.length:Int) - y5.1))) * 24))∧(SlQ (((0+(Int.toNat (y5.1 - (0:Int))))+1)+(Int.toNat ((y5.2.1.length:Int) - y5.1))) (((fU a).1).length) (eR (eR (eR fF 0 (sW (gl aA y5.2.1) 0)) (0+(Int.toNat (y5.1 - (0:Int)))) (fun _=>[.str a.2.1])) ((0+(Int.toNat (y5.1 - (0:Int))))+1) (sW (gl aA y5.2.1) (Int.toNat y5.1))) (gl aA ((fU a).1)) (SlQ (((0+(Int.toNat (y5.1 - (0:Int))))+1)+(Int.toNat ((y5.2.2.length:Int) - y5.1))) (((fU a).2).length) (eR (eR (eR fF 0 (sW (gl aC y5.2.2) 0)) (0+(Int.toNat (y5.1 - (0:Int)))) (fun _=>[.int .i64 a.2.2.1,.int .i64 a.2.2.2.1,.int .i64 a.2.2.2.2])) ((0+(Int.toNat (y5.1 - (0:Int))))+1) (sW (gl aC y5.2.2) (Int.toNat y5.1))) (gl aC ((fU a).2)) (True)))) False))) False)) False))) False))))
def f307.vc (a:aE×ByteArray×aB):Prop:=(dL (a.1,a.2.1)∧(∃ (I3:(Int×(List (ByteArray))×(List (aB)))→Prop) (μ4:(Int×(List (ByteArray))×(List (aB)))→Nat),I3 ((0:Int),((cU (a.1,a.2.1)).2).1,((cU (a.1,a.2.1)).2).2)∧∀ y5:Int×(List (ByteArray))×(List (aB)),I3 y5→((y5.1 < (y5.2.1.length:Int)→((0:Int)≤y5.1∧y5.1 < (y5.2.1.length:Int)∧((sLt (at_ y5.2.1 y5.1) a.2.1→(-9223372036854775808≤(y5.1+(1:Int))∧(y5.1+(1:Int))≤9223372036854775807∧(I3 ((y5.1+(1:Int)),y5.2.1,y5.2.2)∧μ4 ((y5.1+(1:Int)),y5.2.1,y5.2.2) < μ4 y5)))∧(¬(sLt (at_ y5.2.1 y5.1) a.2.1)→((0:Int)≤y5.1∧y5.1≤(y5.2.1.length:Int)∧(0+(Int.toNat (y5.1 - (0:Int)))≤1073741824∧((0+(Int.toNat (y5.1 - (0:Int))))+1≤1073741824∧((0:Int)≤y5.1∧y5.1≤(y5.2.1.length:Int)∧(((0+(Int.toNat (y5.1 - (0:Int))))+1)+(Int.toNat ((y5.2.1.length:Int) - y5.1))≤1073741824∧((0:Int)≤y5.1∧y5.1≤(y5.2.2.length:Int)∧(0+(Int.toNat (y5.1 - (0:Int)))≤1073741824∧((0+(Int.toNat (y5.1 - (0:Int))))+1≤1073741824∧((0:Int)≤y5.1∧y5.1≤(y5.2.2.length:Int)∧(((0+(Int.toNat (y5.1 - (0:Int))))+1)+(Int.toNat ((y5.2.2.length:Int) - y5.1))≤1073741824∧((((([])++(kR y5.2.1 (0:Int) y5.1))++([a.2.1]))++(kR y5.2.1 y5.1 (y5.2.1.length:Int)),((([])++(kR y5.2.2 (0:Int) y5.1))++([a.2.2]))++(kR y5.2.2 y5.1 (y5.2.2.length:Int)))=fU a)))))))))))))))∧(¬(y5.1 < (y5.2.1.length:Int))→((0:Int)≤y5.1∧y5.1≤(y5.2.1.length:Int)∧(0+(Int.toNat (y5.1 - (0:Int)))≤1073741824∧((0+(Int.toNat (y5.1 - (0:Int))))+1≤1073741824∧((0:Int)≤y5.1∧y5.1≤(y5.2.1.length:Int)∧(((0+(Int.toNat (y5.1 - (0:Int))))+1)+(Int.toNat ((y5.2.1.length:Int) - y5.1))≤1073741824∧((0:Int)≤y5.1∧y5.1≤(y5.2.2.length:Int)∧(0+(Int.toNat (y5.1 - (0:Int)))≤1073741824∧((0+(Int.toNat (y5.1 - (0:Int))))+1≤1073741824∧((0:Int)≤y5.1∧y5.1≤(y5.2.2.length:Int)∧(((0+(Int.toNat (y5.1 - (0:Int))))+1)+(Int.toNat ((y5.2.2.length:Int) - y5.1))≤1073741824∧((((([])++(kR y5.2.1 (0:Int) y5.1))++([a.2.1]))++(kR y5.2.1 y5.1 (y5.2.1.length:Int)),((([])++(kR y5.2.2 (0:Int) y5.1))++([a.2.2]))++(kR y5.2.2 y5.1 (y5.2.2.length:Int)))=fU a)))))))))))))))
theorem f307.of (a:aE×ByteArray×aB) (h:f307.vc a):f307.tree a:=⟨(a.1,a.2.1),⟨rfl,slQ (rS aA) (slQ (rS aC) (⟨h.1,Exists.elim h.2 (fun I3 h40_=>Exists.elim h40_ (fun μ4 h40=>⟨I3,μ4,⟨((0:Int),((cU (a.1,a.2.1)).2).1,((cU (a.1,a.2.1)).2).2),⟨rfl,⟨rfl,slQ (rS aA) (slQ (rS aC) (⟨rfl,⟨rfl,⟨rfl,h40.1⟩⟩⟩))⟩⟩⟩,fun y5 h42=>br (h40.2 y5 h42) Cnd.dec (fun h6 k38=>chk k38.2.2 Cnd.ix ⟨k38.1,k38.2.1⟩ (fun h8 k28=>br k28 Cnd.sl_ (fun h9 k26=>wrapK.i64 k26 (fun h14 h15 k16=>⟨((y5.1+(1:Int)),y5.2.1,y5.2.2),⟨rfl,⟨rfl,slQ (rS aA) (slQ (rS aC) (⟨rfl,⟨rfl,⟨rfl,k16⟩⟩⟩))⟩⟩⟩)) (fun h10 k27=>chk k27.2.2 Cnd.sl ⟨(by decide),k27.1,k27.2.1⟩ (fun h17 k25=>⟨⟨rfl,(d6 k25.1 (by decide))⟩,⟨⟨rfl,(d6 k25.2.1 (by decide))⟩,chk k25.2.2.2.2 Cnd.sl ⟨k25.2.2.1,k25.2.2.2.1,(Int.le_refl _)⟩ (fun h18 k24=>⟨⟨rfl,(d6 k24.1 (by decide))⟩,chk k24.2.2.2 Cnd.sl ⟨(by decide),k24.2.1,k24.2.2.1⟩ (fun h19 k23=>⟨⟨rfl,(d6 k23.1 (by decide))⟩,⟨⟨rfl,(d6 k23.2.1 (by decide))⟩,chk k23.2.2.2.2 Cnd.sl ⟨k23.2.2.1,k23.2.2.2.1,(Int.le_refl _)⟩ (fun h20 k22=>⟨⟨rfl,(d6 k22.1 (by decide))⟩,slQ (Rds.to (Rds.app (enc:=aA) (Rds.app (enc:=aA) (Rds.app (enc:=aA) (Rds.nil (enc:=aA)) (Rds.sub (enc:=aA) (rS aA) h17)) (Rds.one (enc:=aA) (DEqs.refl _))) (Rds.sub (enc:=aA) (rS aA) h18)) (congrArg (fun x:aE=>x.1) k22.2 :)) (slQ (Rds.to (Rds.app (enc:=aC) (Rds.app (enc:=aC) (Rds.app (enc:=aC) (Rds.nil (enc:=aC)) (Rds.sub (enc:=aC) (rS aC) h19)) (Rds.one (enc:=aC) (DEqs.refl _))) (Rds.sub (enc:=aC) (rS aC) h20)) (congrArg (fun x:aE=>x.2) k22.2 :)) (trivial))⟩)⟩⟩)⟩)⟩⟩)))) (fun h7 k39=>chk k39.2.2 Cnd.sl ⟨(by decide),k39.1,k39.2.1⟩ (fun h29 k37=>⟨⟨rfl,(d6 k37.1 (by decide))⟩,⟨⟨rfl,(d6 k37.2.1 (by decide))⟩,chk k37.2.2.2.2 Cnd.sl ⟨k37.2.2.1,k37.2.2.2.1,(Int.le_refl _)⟩ (fun h30 k36=>⟨⟨rfl,(d6 k36.1 (by decide))⟩,chk k36.2.2.2 Cnd.sl ⟨(by decide),k36.2.1,k36.2.2.1⟩ (fun h31 k35=>⟨⟨rfl,(d6 k35.1 (by decide))⟩,⟨⟨rfl,(d6 k35.2.1 (by decide))⟩,chk k35.2.2.2.2 Cnd.sl ⟨k35.2.2.1,k35.2.2.2.1,(Int.le_refl _)⟩ (fun h32 k34=>⟨⟨rfl,(d6 k34.1 (by decide))⟩,slQ (Rds.to (Rds.app (enc:=aA) (Rds.app (enc:=aA) (Rds.app (enc:=aA) (Rds.nil (enc:=aA)) (Rds.sub (enc:=aA) (rS aA) h29)) (Rds.one (enc:=aA) (DEqs.refl _))) (Rds.sub (enc:=aA) (rS aA) h30)) (congrArg (fun x:aE=>x.1) k34.2 :)) (slQ (Rds.to (Rds.app (enc:=aC) (Rds.app (enc:=aC) (Rds.app (enc:=aC) (Rds.nil (enc:=aC)) (Rds.sub (enc:=aC) (rS aC) h31)) (Rds.one (enc:=aC) (DEqs.refl _))) (Rds.sub (enc:=aC) (rS aC) h32)) (congrArg (fun x:aE=>x.2) k34.2 :)) (trivial))⟩)⟩⟩)⟩)⟩⟩))⟩))⟩))⟩⟩
theorem f307.eq (a:aE×ByteArray×aB):(f307.af a).gives f307.env (f307.args a) (f307.blks a) (f307.res a) (f307.blks' a)=f307.tree a:=by kernel_rfl
def f308.S0 (a:aE×ByteArray) (x:(List (ByteArray))×(List (aB))×Int):Tm:=⟨.ptr 0 0::.str a.2::.dead::.dead::.dead::.slice (.own 2) 1 x.1.length (gl aA x.1)::.slice (.own 3) 3 x.2.1.length (gl aC x.2.1)::dd 6 (.int .i64 (a.1.1.length:Int)::.int .i64 x.2.2::dd 49 []),[(0,false,[.slice .ro 1 a.1.1.length (gl aA a.1.1),.slice .ro 3 a.1.2.length (gl aC a.1.2)])],[(2,1,x.1.length),(3,3,x.2.1.length)]⟩
def f308.kills (a:aE×ByteArray):List Hint:=[.tell ((List (ByteArray))×(List (aB))×Int) (f308.S0 a)]
def f308.cuts (a:aE×ByteArray):List (Nat×Σ β:Type,β→Tm):=[]
def f308.af (a:aE×ByteArray):AF:=AF.mk (.seq (.region [⟨(some 4),1,.move,[.c (.bool false)],none⟩])
 (.seq (.region [oT 5 2 (.nilSl 1) []])
 (.seq (.region [oT 6 3 (.nilSl 3) []])
 (.seq (.seq (.region [mT 9 4 0,
 oT 10 5 .nilCheck [9],
 oT 11 6 (.fieldAddr 0) [10],
 oT 12 7 (.load false 1) [11],
 oT 13 8 (.len false) [12],
 ⟨(some 14),9,.move,[.c (.int .i64 (0))],none⟩])
 (.block 0 (.loopT ((List (ByteArray))×(List (aB))×Int) (f308.S0 a) 10 46 (.seq (.region [oT 15 10 (.bin .lss) [14,13]])
 (.seq (.cond (.t 15) (.skip) (.exit 0))
 (.seq (.block 1 (.seq (.region [mT 16 11 14,
 mT 7 12 16])
 (.seq (.region [mT 17 13 0,
 oT 18 14 .nilCheck [17],
 oT 19 15 (.fieldAddr 0) [18],
 oT 20 16 (.load false 1) [19],
 mT 21 17 7,
 oT 22 18 (.indexAddr 1 none) [20,21],
 oT 23 19 (.load false 1) [22],
 mT 24 20 1,
 oT 25 21 (.bin .neq) [23,24]])
 (.cond (.t 25) (.seq (.region [mT 26 22 5,
 mT 27 23 0,
 oT 28 24 .nilCheck [27],
 oT 29 25 (.fieldAddr 0) [28],
 oT 30 26 (.load false 1) [29],
 mT 31 27 7,
 oT 32 28 (.indexAddr 1 none) [30,31],
 oT 33 29 (.load false 1) [32],
 oT 34 30 (.buildSlice 1 1 [.str ByteArray.empty] [(0,1)]) [33],
 oT 35 31 (.append 1 16) [26,34],
 mT 5 32 35])
 (.region [mT 36 33 6,
 mT 37 34 0,
 oT 38 35 .nilCheck [37],
 oT 39 36 (.fieldAddr 1) [38],
 oT 40 37 (.load false 1) [39],
 mT 41 38 7,
 oT 42 39 (.indexAddr 3 none) [40,41],
 oT 43 40 (.load true 3) [42],
 oT 44 41 (.buildSlice 3 1 [.int .i64 (0),.int .i64 (0),.int .i64 (0)] [(0,3)]) [43],
 oT 45 42 (.append 3 24) [36,44],
 mT 6 43 45])) (.skip)))))
 (.region [⟨(some 46),44,(.bin .add),[.t 14,.c (.int .i64 (1))],none⟩,
 mT 14 45 46])))))))
 (.seq (.region [mT 47 46 5,
 oT 48 47 (.len false) [47],
 mT 49 48 0,
 oT 50 49 .nilCheck [49],
 oT 51 50 (.fieldAddr 0) [50],
 oT 52 51 (.load false 1) [51],
 oT 53 52 (.len false) [52],
 oT 54 53 (.bin .lss) [48,53],
 mT 8 54 54])
 (.seq (.region [mT 55 55 0,
 mT 56 56 0,
 mT 57 57 5,
 mT 58 58 6,
 oT 59 59 .nilCheck [55],
 oT 60 60 (.fieldAddr 0) [59],
 ⟨none,61,(.store 1),[.t 60,.t 57],none⟩,
 oT 61 62 .nilCheck [56],
 oT 62 63 (.fieldAddr 1) [61],
 ⟨none,64,(.store 1),[.t 62,.t 58],none⟩])
 (.seq (.region [mT 63 65 8,
 mT 4 66 63])
 (.ret))))))))
 [.tmp 4] 1 62
def f308.env:Env:=[]
def f308.tree (a:aE×ByteArray):Prop:=∃ (I2:((List (ByteArray))×(List (aB))×Int)→Prop) (μ3:((List (ByteArray))×(List (aB))×Int)→Nat),(∃ x1:(List (ByteArray))×(List (aB))×Int,(a.2=a.2)∧SlQ 0 x1.1.length fF (gl aA x1.1) (SlQ 0 x1.2.1.length fF (gl aC x1.2.1) (((a.1.1.length:Int)=(a.1.1.length:Int))∧((0:Int)=x1.2.2)∧SlS aA a.1.1 (SlS aC a.1.2 ((0=x1.1.length)∧(0=x1.2.1.length)∧I2 x1)))))∧∀ y4:(List (ByteArray))×(List (aB))×Int,I2 y4→(Br (decide (y4.2.2 < (a.1.1.length:Int))) (Br (decide ((0:Int)≤y4.2.2)&&decide (y4.2.2 < (a.1.1.length:Int))) (Br (!((at_ a.1.1 y4.2.2).toList==a.2.toList)) (Br (decide ((0:Int)≤y4.2.2)&&decide (y4.2.2 < (a.1.1.length:Int))) ((y4.1.length=y4.1.length∧iJ ((y4.1.length+1) * 16))∧(Br (decide ((0:Int)≤y4.2.2)&&decide (y4.2.2 < (a.1.2.length:Int))) ((y4.2.1.length=y4.2.1.length∧iJ ((y4.2.1.length+1) * 24))∧(Let (wI (y4.2.2+(1:Int))) (fun v12:Int=>∃ x13:(List (ByteArray))×(List (aB))×Int,(a.2=a.2)∧SlQ (y4.1.length+1) x13.1.length (eR (gl aA y4.1) y4.1.length (fun _=>[.str (at_ a.1.1 y4.2.2)])) (gl aA x13.1) (SlQ (y4.2.1.length+1) x13.2.1.length (eR (gl aC y4.2.1) y4.2.1.length (fun _=>[.int .i64 ((at_ a.1.2 y4.2.2).1),.int .i64 ((at_ a.1.2 y4.2.2).2.1),.int .i64 ((at_ a.1.2 y4.2.2).2.2)])) (gl aC x13.2.1) (((a.1.1.length:Int)=(a.1.1.length:Int))∧(v12=x13.2.2)∧SlS aA a.1.1 (SlS aC a.1.2 (((y4.1.length+1)=x13.1.length)∧((y4.2.1.length+1)=x13.2.1.length)∧I2 x13∧μ3 x13 < μ3 y4))))))) False)) False) (Let (wI (y4.2.2+(1:Int))) (fun v20:Int=>∃ x21:(List (ByteArray))×(List (aB))×Int,(a.2=a.2)∧SlQ y4.1.length x21.1.length (gl aA y4.1) (gl aA x21.1) (SlQ y4.2.1.length x21.2.1.length (gl aC y4.2.1) (gl aC x21.2.1) (((a.1.1.length:Int)=(a.1.1.length:Int))∧(v20=x21.2.2)∧SlS aA a.1.1 (SlS aC a.1.2 ((y4.1.length=x21.1.length)∧(y4.2.1.length=x21.2.1.length)∧I2 x21∧μ3 x21 < μ3 y4))))))) False) (((decide ((y4.1.length:Int) < (a.1.1.length:Int)))=((cU a).1))∧SlQ y4.1.length ((((cU a).2).1).length) (gl aA y4.1) (gl aA (((cU a).2).1)) (SlQ y4.2.1.length ((((cU a).2).2).length) (gl aC y4.2.1) (gl aC (((cU a).2).2)) (True))))
def f308.vc (a:aE×ByteArray):Prop:=(∃ (I2:((List (ByteArray))×(List (aB))×Int)→Prop) (μ3:((List (ByteArray))×(List (aB))×Int)→Nat),I2 ([],[],(0:Int))∧∀ y4:(List (ByteArray))×(List (aB))×Int,I2 y4→((y4.2.2 < (a.1.1.length:Int)→((0:Int)≤y4.2.2∧y4.2.2 < (a.1.1.length:Int)∧((¬((at_ a.1.1 y4.2.2)=a.2)→((0:Int)≤y4.2.2∧y4.2.2 < (a.1.1.length:Int)∧(y4.1.length+1≤1073741824∧((0:Int)≤y4.2.2∧y4.2.2 < (a.1.2.length:Int)∧(y4.2.1.length+1≤1073741824∧(-9223372036854775808≤(y4.2.2+(1:Int))∧(y4.2.2+(1:Int))≤9223372036854775807∧(I2 (y4.1++([at_ a.1.1 y4.2.2]),y4.2.1++([(at_ a.1.2 y4.2.2)]),(y4.2.2+(1:Int)))∧μ3 (y4.1++([at_ a.1.1 y4.2.2]),y4.2.1++([(at_ a.1.2 y4.2.2)]),(y4.2.2+(1:Int))) < μ3 y4)))))))∧(¬(¬((at_ a.1.1 y4.2.2)=a.2))→(-9223372036854775808≤(y4.2.2+(1:Int))∧(y4.2.2+(1:Int))≤9223372036854775807∧(I2 (y4.1,y4.2.1,(y4.2.2+(1:Int)))∧μ3 (y4.1,y4.2.1,(y4.2.2+(1:Int))) < μ3 y4))))))∧(¬(y4.2.2 < (a.1.1.length:Int))→((decide ((y4.1.length:Int) < (a.1.1.length:Int)),(y4.1,y4.2.1))=cU a))))
theorem f308.of (a:aE×ByteArray) (h:f308.vc a):f308.tree a:=Exists.elim h (fun I2 h32_=>Exists.elim h32_ (fun μ3 h32=>⟨I2,μ3,⟨([],[],(0:Int)),⟨rfl,slQ (Rds.nil (enc:=aA)) (slQ (Rds.nil (enc:=aC)) (⟨rfl,⟨rfl,SlS.mk  (SlS.mk  (⟨(a8 fF (Rds.nil (enc:=aA))),⟨(a8 fF (Rds.nil (enc:=aC))),h32.1⟩⟩))⟩⟩))⟩⟩,fun y4 h34=>br (h32.2 y4 h34) Cnd.dec (fun h5 k30=>chk k30.2.2 Cnd.ix ⟨k30.1,k30.2.1⟩ (fun h7 k28=>br k28 (Cnd.not Cnd.seq) (fun h8 k26=>chk k26.2.2 Cnd.ix ⟨k26.1,k26.2.1⟩ (fun h10 k19=>⟨⟨rfl,(d6 k19.1 (by decide))⟩,chk k19.2.2.2 Cnd.ix ⟨k19.2.1,k19.2.2.1⟩ (fun h11 k18=>⟨⟨rfl,(d6 k18.1 (by decide))⟩,wrapK.i64 k18.2 (fun h15 h16 k17=>⟨(y4.1++([at_ a.1.1 y4.2.2]),y4.2.1++([(at_ a.1.2 y4.2.2)]),(y4.2.2+(1:Int))),⟨rfl,slQ (Rds.app (enc:=aA) (rS aA) (Rds.one (enc:=aA) (DEqs.refl _))) (slQ (Rds.app (enc:=aC) (rS aC) (Rds.one (enc:=aC) (DEqs.refl _))) (⟨rfl,⟨rfl,SlS.mk  (SlS.mk  (⟨(a8 (eR (gl aA y4.1) y4.1.length (fun _=>[.str (at_ a.1.1 y4.2.2)])) (Rds.app (enc:=aA) (rS aA) (Rds.one (enc:=aA) (DEqs.refl _)))),⟨(a8 (eR (gl aC y4.2.1) y4.2.1.length (fun _=>[.int .i64 ((at_ a.1.2 y4.2.2).1),.int .i64 ((at_ a.1.2 y4.2.2).2.1),.int .i64 ((at_ a.1.2 y4.2.2).2.2)])) (Rds.app (enc:=aC) (rS aC) (Rds.one (enc:=aC) (DEqs.refl _)))),k17⟩⟩))⟩⟩))⟩⟩)⟩)⟩)) (fun h9 k27=>wrapK.i64 k27 (fun h23 h24 k25=>⟨(y4.1,y4.2.1,(y4.2.2+(1:Int))),⟨rfl,slQ (rS aA) (slQ (rS aC) (⟨rfl,⟨rfl,SlS.mk  (SlS.mk  (⟨(a8 (gl aA y4.1) (rS aA)),⟨(a8 (gl aC y4.2.1) (rS aC)),k25⟩⟩))⟩⟩))⟩⟩)))) (fun h6 k31=>⟨(congrArg (fun x:Bool×aE=>x.1) k31 :),slQ (Rds.to (rS aA) (congrArg (fun x:Bool×aE=>x.2.1) k31 :)) (slQ (Rds.to (rS aC) (congrArg (fun x:Bool×aE=>x.2.2) k31 :)) (trivial))⟩)⟩))
theorem f308.eq (a:aE×ByteArray):(f308.af a).gives f308.env (f308.args a) (f308.blks a) (f308.res a) (f308.blks' a)=f308.tree a:=by kernel_rfl
def f309.args (a:aE×ByteArray):List D:=[.ptr 0 0,.str a.2]
def f309.blks (a:aE×ByteArray):List (List D):=[[.slice .ro 1 a.1.1.length (gl aA a.1.1),.slice .ro 3 a.1.2.length (gl aC a.1.2)]]
def f309.res (a:aE×ByteArray):List D:=[.agg [.int .i64 ((((cB (0,0,0)) a).1).1),.int .i64 ((((cB (0,0,0)) a).1).2.1),.int .i64 ((((cB (0,0,0)) a).1).2.2)],.bool (((cB (0,0,0)) a).2.1)]
def f309.blks' (a:aE×ByteArray):List (List D):=[[.slice .ro 1 (((((cB (0,0,0)) a).2.2).1).length) (gl aA ((((cB (0,0,0)) a).2.2).1)),.slice .ro 3 (((((cB (0,0,0)) a).2.2).2).length) (gl aC ((((cB (0,0,0)) a).2.2).2))]]
def f309.C:aQ:=FnC f309.args f309.blks (fun a=>dL a) f309.res f309.blks'
def f309.S0 (a:aE×ByteArray) (x:Int×Int×Int×Int):Tm:=⟨.ptr 0 0::.str a.2::.dead::.dead::.ptr 1 0::dd 6 (.int .i64 (a.1.1.length:Int)::.int .i64 x.1::dd 20 []),[(0,false,[.slice .ro 1 a.1.1.length (gl aA a.1.1),.slice .ro 3 a.1.2.length (gl aC a.1.2)]),(1,false,[.int .i64 x.2.1,.int .i64 x.2.2.1,.int .i64 x.2.2.2])],[]⟩
def f309.kills (a:aE×ByteArray):List Hint:=[.tell (Int×Int×Int×Int) (f309.S0 a)]
def f309.cuts (a:aE×ByteArray):List (Nat×Σ β:Type,β→Tm):=[]
def f309.af (a:aE×ByteArray):AF:=AF.mk (.seq (.region [oT 4 1 (.alloc [.int .i64 (0),.int .i64 (0),.int .i64 (0)]) [],
 ⟨(some 5),5,.move,[.c (.bool false)],none⟩])
 (.seq (.seq (.region [mT 7 6 0,
 oT 8 7 .nilCheck [7],
 oT 9 8 (.fieldAddr 0) [8],
 oT 10 9 (.load false 1) [9],
 oT 11 10 (.len false) [10],
 ⟨(some 12),11,.move,[.c (.int .i64 (0))],none⟩])
 (.block 0 (.loopT (Int×Int×Int×Int) (f309.S0 a) 12 35 (.seq (.region [oT 13 12 (.bin .lss) [12,11]])
 (.seq (.cond (.t 13) (.skip) (.exit 0))
 (.seq (.block 1 (.seq (.region [mT 14 13 12,
 mT 6 14 14])
 (.seq (.region [mT 15 15 0,
 oT 16 16 .nilCheck [15],
 oT 17 17 (.fieldAddr 0) [16],
 oT 18 18 (.load false 1) [17],
 mT 19 19 6,
 oT 20 20 (.indexAddr 1 none) [18,19],
 oT 21 21 (.load false 1) [20],
 mT 22 22 1,
 oT 23 23 (.bin .eql) [21,22]])
 (.cond (.t 23) (.seq (.region [mT 24 24 0,
 oT 25 25 .nilCheck [24],
 oT 26 26 (.fieldAddr 1) [25],
 oT 27 27 (.load false 1) [26],
 mT 28 28 6,
 oT 29 29 (.indexAddr 3 none) [27,28],
 oT 30 30 (.load true 3) [29],
 ⟨none,31,(.store 3),[.t 4,.t 30],none⟩,
 ⟨(some 5),32,.move,[.c (.bool true)],none⟩])
 (.ret)) (.skip)))))
 (.region [⟨(some 31),33,(.bin .add),[.t 12,.c (.int .i64 (1))],none⟩,
 mT 12 34 31])))))))
 (.seq (.region [oT 32 35 (.build [.int .i64 (0),.int .i64 (0),.int .i64 (0)] []) [],
 ⟨none,36,(.store 3),[.t 4,.t 32],none⟩,
 ⟨(some 5),37,.move,[.c (.bool false)],none⟩])
 (.ret))))
 [.cell 4 true 3,.tmp 5] 1 31
def f309.env:Env:=[]
def f309.tree (a:aE×ByteArray):Prop:=∃ (I2:(Int×Int×Int×Int)→Prop) (μ3:(Int×Int×Int×Int)→Nat),(∃ x1:Int×Int×Int×Int,(a.2=a.2)∧((a.1.1.length:Int)=(a.1.1.length:Int))∧((0:Int)=x1.1)∧SlS aA a.1.1 (SlS aC a.1.2 (((0:Int)=x1.2.1)∧((0:Int)=x1.2.2.1)∧((0:Int)=x1.2.2.2)∧I2 x1)))∧∀ y4:Int×Int×Int×Int,I2 y4→(Br (decide (y4.1 < (a.1.1.length:Int))) (Br (decide ((0:Int)≤y4.1)&&decide (y4.1 < (a.1.1.length:Int))) (Br ((at_ a.1.1 y4.1).toList==a.2.toList) (Br (decide ((0:Int)≤y4.1)&&decide (y4.1 < (a.1.2.length:Int))) ((((at_ a.1.2 y4.1).1)=((((cB (0,0,0)) a).1).1))∧(((at_ a.1.2 y4.1).2.1)=((((cB (0,0,0)) a).1).2.1))∧(((at_ a.1.2 y4.1).2.2)=((((cB (0,0,0)) a).1).2.2))∧(true=(((cB (0,0,0)) a).2.1))∧SlQ a.1.1.length (((((cB (0,0,0)) a).2.2).1).length) (gl aA a.1.1) (gl aA ((((cB (0,0,0)) a).2.2).1)) (SlQ a.1.2.length (((((cB (0,0,0)) a).2.2).2).length) (gl aC a.1.2) (gl aC ((((cB (0,0,0)) a).2.2).2)) (True))) False) (Let (wI (y4.1+(1:Int))) (fun v13:Int=>∃ x14:Int×Int×Int×Int,(a.2=a.2)∧((a.1.1.length:Int)=(a.1.1.length:Int))∧(v13=x14.1)∧SlS aA a.1.1 (SlS aC a.1.2 ((y4.2.1=x14.2.1)∧(y4.2.2.1=x14.2.2.1)∧(y4.2.2.2=x14.2.2.2)∧I2 x14∧μ3 x14 < μ3 y4))))) False) (((0:Int)=((((cB (0,0,0)) a).1).1))∧((0:Int)=((((cB (0,0,0)) a).1).2.1))∧((0:Int)=((((cB (0,0,0)) a).1).2.2))∧(false=(((cB (0,0,0)) a).2.1))∧SlQ a.1.1.length (((((cB (0,0,0)) a).2.2).1).length) (gl aA a.1.1) (gl aA ((((cB (0,0,0)) a).2.2).1)) (SlQ a.1.2.length (((((cB (0,0,0)) a).2.2).2).length) (gl aC a.1.2) (gl aC ((((cB (0,0,0)) a).2.2).2)) (True))))
def f309.vc (a:aE×ByteArray):Prop:=(∃ (I2:(Int×Int×Int×Int)→Prop) (μ3:(Int×Int×Int×Int)→Nat),I2 ((0:Int),(0:Int),(0:Int),(0:Int))∧∀ y4:Int×Int×Int×Int,I2 y4→((y4.1 < (a.1.1.length:Int)→((0:Int)≤y4.1∧y4.1 < (a.1.1.length:Int)∧(((at_ a.1.1 y4.1)=a.2→((0:Int)≤y4.1∧y4.1 < (a.1.2.length:Int)∧(((at_ a.1.2 y4.1),true,a.1)=(cB (0,0,0)) a)))∧(¬((at_ a.1.1 y4.1)=a.2)→(-9223372036854775808≤(y4.1+(1:Int))∧(y4.1+(1:Int))≤9223372036854775807∧(I2 ((y4.1+(1:Int)),y4.2.1,y4.2.2.1,y4.2.2.2)∧μ3 ((y4.1+(1:Int)),y4.2.1,y4.2.2.1,y4.2.2.2) < μ3 y4))))))∧(¬(y4.1 < (a.1.1.length:Int))→((((0:Int),(0:Int),(0:Int)),false,a.1)=(cB (0,0,0)) a))))
theorem f309.of (a:aE×ByteArray) (h:f309.vc a):f309.tree a:=Exists.elim h (fun I2 h25_=>Exists.elim h25_ (fun μ3 h25=>⟨I2,μ3,⟨((0:Int),(0:Int),(0:Int),(0:Int)),⟨rfl,⟨rfl,⟨rfl,SlS.mk  (SlS.mk  (⟨rfl,⟨rfl,⟨rfl,h25.1⟩⟩⟩))⟩⟩⟩⟩,fun y4 h27=>br (h25.2 y4 h27) Cnd.dec (fun h5 k23=>chk k23.2.2 Cnd.ix ⟨k23.1,k23.2.1⟩ (fun h7 k21=>br k21 Cnd.seq (fun h8 k19=>chk k19.2.2 Cnd.ix ⟨k19.1,k19.2.1⟩ (fun h10 k12=>⟨(congrArg (fun x:aB×Bool×aE=>x.1.1) k12 :),⟨(congrArg (fun x:aB×Bool×aE=>x.1.2.1) k12 :),⟨(congrArg (fun x:aB×Bool×aE=>x.1.2.2) k12 :),⟨(congrArg (fun x:aB×Bool×aE=>x.2.1) k12 :),slQ (Rds.to (rS aA) (congrArg (fun x:aB×Bool×aE=>x.2.2.1) k12 :)) (slQ (Rds.to (rS aC) (congrArg (fun x:aB×Bool×aE=>x.2.2.2) k12 :)) (trivial))⟩⟩⟩⟩)) (fun h9 k20=>wrapK.i64 k20 (fun h16 h17 k18=>⟨((y4.1+(1:Int)),y4.2.1,y4.2.2.1,y4.2.2.2),⟨rfl,⟨rfl,⟨rfl,SlS.mk  (SlS.mk  (⟨rfl,⟨rfl,⟨rfl,k18⟩⟩⟩))⟩⟩⟩⟩)))) (fun h6 k24=>⟨(congrArg (fun x:aB×Bool×aE=>x.1.1) k24 :),⟨(congrArg (fun x:aB×Bool×aE=>x.1.2.1) k24 :),⟨(congrArg (fun x:aB×Bool×aE=>x.1.2.2) k24 :),⟨(congrArg (fun x:aB×Bool×aE=>x.2.1) k24 :),slQ (Rds.to (rS aA) (congrArg (fun x:aB×Bool×aE=>x.2.2.1) k24 :)) (slQ (Rds.to (rS aC) (congrArg (fun x:aB×Bool×aE=>x.2.2.2) k24 :)) (trivial))⟩⟩⟩⟩)⟩))
theorem f309.eq (a:aE×ByteArray):(f309.af a).gives f309.env (f309.args a) (f309.blks a) (f309.res a) (f309.blks' a)=f309.tree a:=by kernel_rfl
def f310.args (a:aE×aB):List D:=[.ptr 0 0,.agg [.int .i64 a.2.1,.int .i64 a.2.2.1,.int .i64 a.2.2.2]]
def f310.blks (a:aE×aB):List (List D):=[[.slice .ro 1 a.1.1.length (gl aA a.1.1),.slice .ro 3 a.1.2.length (gl aC a.1.2)]]
def f310.res (a:aE×aB):List D:=[.slice .ro 1 (((bV a).1).length) (gl aA ((bV a).1))]
def f310.blks' (a:aE×aB):List (List D):=[[.slice .ro 1 ((((bV a).2).1).length) (gl aA (((bV a).2).1)),.slice .ro 3 ((((bV a).2).2).length) (gl aC (((bV a).2).2))]]
def f310.C:aQ:=FnC f310.args f310.blks (fun a=>gE a) f310.res f310.blks'
def f310.S0 (a:aE×aB) (x:(List (ByteArray))×Int):Tm:=⟨.ptr 0 0::.dead::.dead::.ptr 1 0::.dead::.slice (.own 3) 1 x.1.length (gl aA x.1)::.dead::.dead::.dead::.dead::.dead::.int .i64 (a.1.1.length:Int)::.int .i64 x.2::dd 23 [],[(0,false,[.slice .ro 1 a.1.1.length (gl aA a.1.1),.slice .ro 3 a.1.2.length (gl aC a.1.2)]),(1,false,[.int .i64 a.2.1,.int .i64 a.2.2.1,.int .i64 a.2.2.2])],[(3,1,x.1.length)]⟩
def f310.kills (a:aE×aB):List Hint:=[.tell ((List (ByteArray))×Int) (f310.S0 a)]
def f310.cuts (a:aE×aB):List (Nat×Σ β:Type,β→Tm):=[]
def f310.af (a:aE×aB):AF:=AF.mk (.seq (.region [oT 3 1 .box [1],
 oT 4 2 (.nilSl 1) []])
 (.seq (.region [oT 5 3 (.nilSl 1) []])
 (.seq (.seq (.region [mT 7 4 0,
 oT 8 5 .nilCheck [7],
 oT 9 6 (.fieldAddr 0) [8],
 oT 10 7 (.load false 1) [9],
 oT 11 8 (.len false) [10],
 ⟨(some 12),9,.move,[.c (.int .i64 (0))],none⟩])
 (.block 0 (.loopT ((List (ByteArray))×Int) (f310.S0 a) 10 38 (.seq (.region [oT 13 10 (.bin .lss) [12,11]])
 (.seq (.cond (.t 13) (.skip) (.exit 0))
 (.seq (.block 1 (.seq (.region [mT 14 11 12,
 mT 6 12 14])
 (.seq (.region [oT 15 13 (.load true 3) [3],
 mT 16 14 0,
 oT 17 15 .nilCheck [16],
 oT 18 16 (.fieldAddr 1) [17],
 oT 19 17 (.load false 1) [18],
 mT 20 18 6,
 oT 21 19 (.indexAddr 3 none) [19,20],
 oT 22 20 (.load true 3) [21],
 oT 23 21 (.call false 131) [15,22]])
 (.cond (.t 23) (.region [mT 24 25 5,
 mT 25 26 0,
 oT 26 27 .nilCheck [25],
 oT 27 28 (.fieldAddr 0) [26],
 oT 28 29 (.load false 1) [27],
 mT 29 30 6,
 oT 30 31 (.indexAddr 1 none) [28,29],
 oT 31 32 (.load false 1) [30],
 oT 32 33 (.buildSlice 1 1 [.str ByteArray.empty] [(0,1)]) [31],
 oT 33 34 (.append 1 16) [24,32],
 mT 5 35 33]) (.skip)))))
 (.region [⟨(some 34),36,(.bin .add),[.t 12,.c (.int .i64 (1))],none⟩,
 mT 12 37 34])))))))
 (.seq (.region [mT 35 38 5,
 mT 4 39 35])
 (.ret)))))
 [.tmp 4] 1 34
def f310.env:Env:=[(131,f131.C)]
def f310.tree (a:aE×aB):Prop:=∃ (I2:((List (ByteArray))×Int)→Prop) (μ3:((List (ByteArray))×Int)→Nat),(∃ x1:(List (ByteArray))×Int,SlQ 0 x1.1.length fF (gl aA x1.1) (((a.1.1.length:Int)=(a.1.1.length:Int))∧((0:Int)=x1.2)∧SlS aA a.1.1 (SlS aC a.1.2 ((a.2.1=a.2.1)∧(a.2.2.1=a.2.2.1)∧(a.2.2.2=a.2.2.2)∧(0=x1.1.length)∧I2 x1))))∧∀ y4:(List (ByteArray))×Int,I2 y4→(Br (decide (y4.2 < (a.1.1.length:Int))) (Br (decide ((0:Int)≤y4.2)&&decide (y4.2 < (a.1.2.length:Int))) (f131.ent (fun c8=>True∧Br (cY c8) (Br (decide ((0:Int)≤y4.2)&&decide (y4.2 < (a.1.1.length:Int))) ((y4.1.length=y4.1.length∧iJ ((y4.1.length+1) * 16))∧(Let (wI (y4.2+(1:Int))) (fun v12:Int=>∃ x13:(List (ByteArray))×Int,SlQ (y4.1.length+1) x13.1.length (eR (gl aA y4.1) y4.1.length (fun _=>[.str (at_ a.1.1 y4.2)])) (gl aA x13.1) (((a.1.1.length:Int)=(a.1.1.length:Int))∧(v12=x13.2)∧SlS aA a.1.1 (SlS aC a.1.2 ((a.2.1=a.2.1)∧(a.2.2.1=a.2.2.1)∧(a.2.2.2=a.2.2.2)∧((y4.1.length+1)=x13.1.length)∧I2 x13∧μ3 x13 < μ3 y4)))))) False) (Let (wI (y4.2+(1:Int))) (fun v19:Int=>∃ x20:(List (ByteArray))×Int,SlQ y4.1.length x20.1.length (gl aA y4.1) (gl aA x20.1) (((a.1.1.length:Int)=(a.1.1.length:Int))∧(v19=x20.2)∧SlS aA a.1.1 (SlS aC a.1.2 ((a.2.1=a.2.1)∧(a.2.2.1=a.2.2.1)∧(a.2.2.2=a.2.2.2)∧(y4.1.length=x20.1.length)∧I2 x20∧μ3 x20 < μ3 y4)))))) (a.2,(at_ a.1.2 y4.2))) False) ((y4.1.length=y4.1.length)∧SlQ y4.1.length (((bV a).1).length) (gl aA y4.1) (gl aA ((bV a).1)) (SlQ a.1.1.length ((((bV a).2).1).length) (gl aA a.1.1) (gl aA (((bV a).2).1)) (SlQ a.1.2.length ((((bV a).2).2).length) (gl aC a.1.2) (gl aC (((bV a).2).2)) (True)))))
def f310.vc (a:aE×aB):Prop:=(∃ (I2:((List (ByteArray))×Int)→Prop) (μ3:((List (ByteArray))×Int)→Nat),I2 ([],(0:Int))∧∀ y4:(List (ByteArray))×Int,I2 y4→((y4.2 < (a.1.1.length:Int)→((0:Int)≤y4.2∧y4.2 < (a.1.2.length:Int)∧(((cY (a.2,(at_ a.1.2 y4.2)))=true→((0:Int)≤y4.2∧y4.2 < (a.1.1.length:Int)∧(y4.1.length+1≤1073741824∧(-9223372036854775808≤(y4.2+(1:Int))∧(y4.2+(1:Int))≤9223372036854775807∧(I2 (y4.1++([at_ a.1.1 y4.2]),(y4.2+(1:Int)))∧μ3 (y4.1++([at_ a.1.1 y4.2]),(y4.2+(1:Int))) < μ3 y4)))))∧(¬((cY (a.2,(at_ a.1.2 y4.2)))=true)→(-9223372036854775808≤(y4.2+(1:Int))∧(y4.2+(1:Int))≤9223372036854775807∧(I2 (y4.1,(y4.2+(1:Int)))∧μ3 (y4.1,(y4.2+(1:Int))) < μ3 y4))))))∧(¬(y4.2 < (a.1.1.length:Int))→((y4.1,a.1)=bV a))))
theorem f310.of (a:aE×aB) (h:f310.vc a):f310.tree a:=Exists.elim h (fun I2 h32_=>Exists.elim h32_ (fun μ3 h32=>⟨I2,μ3,⟨([],(0:Int)),slQ (Rds.nil (enc:=aA)) (⟨rfl,⟨rfl,SlS.mk  (SlS.mk  (⟨rfl,⟨rfl,⟨rfl,⟨(a8 fF (Rds.nil (enc:=aA))),h32.1⟩⟩⟩⟩))⟩⟩)⟩,fun y4 h34=>br (h32.2 y4 h34) Cnd.dec (fun h5 k30=>chk k30.2.2 Cnd.ix ⟨k30.1,k30.2.1⟩ (fun h7 k28=>(f131.ei ⟨trivial,br k28 Cnd.b (fun h9 k25=>chk k25.2.2 Cnd.ix ⟨k25.1,k25.2.1⟩ (fun h11 k18=>⟨⟨rfl,(d6 k18.1 (by decide))⟩,wrapK.i64 k18.2 (fun h15 h16 k17=>⟨(y4.1++([at_ a.1.1 y4.2]),(y4.2+(1:Int))),slQ (Rds.app (enc:=aA) (rS aA) (Rds.one (enc:=aA) (DEqs.refl _))) (⟨rfl,⟨rfl,SlS.mk  (SlS.mk  (⟨rfl,⟨rfl,⟨rfl,⟨(a8 (eR (gl aA y4.1) y4.1.length (fun _=>[.str (at_ a.1.1 y4.2)])) (Rds.app (enc:=aA) (rS aA) (Rds.one (enc:=aA) (DEqs.refl _)))),k17⟩⟩⟩⟩))⟩⟩)⟩)⟩)) (fun h10 k26=>wrapK.i64 k26 (fun h22 h23 k24=>⟨(y4.1,(y4.2+(1:Int))),slQ (rS aA) (⟨rfl,⟨rfl,SlS.mk  (SlS.mk  (⟨rfl,⟨rfl,⟨rfl,⟨(a8 (gl aA y4.1) (rS aA)),k24⟩⟩⟩⟩))⟩⟩)⟩))⟩))) (fun h6 k31=>⟨rfl,slQ (Rds.to (rS aA) (congrArg (fun x:(List (ByteArray))×aE=>x.1) k31 :)) (slQ (Rds.to (rS aA) (congrArg (fun x:(List (ByteArray))×aE=>x.2.1) k31 :)) (slQ (Rds.to (rS aC) (congrArg (fun x:(List (ByteArray))×aE=>x.2.2) k31 :)) (trivial)))⟩)⟩))
theorem f310.eq (a:aE×aB):(f310.af a).gives f310.env (f310.args a) (f310.blks a) (f310.res a) (f310.blks' a)=f310.tree a:=by kernel_rfl
theorem f308.ok (a:Ps Rs3×ByteArray) (h:dL a):f308.vc a:=by
 obtain ⟨⟨ns,as⟩,k⟩:=a
 obtain ⟨h1,h2⟩:ns.length=as.length∧ns.length≤1048576:=h
 have hl:(pz (ns,as)).length=ns.length:=r6 h1
 refine ⟨fun y=>0≤y.2.2∧y.2.2≤(ns.length:Int)∧(y.1,y.2.1)=pu (jC ((pz (ns,as)).take y.2.2.toNat) k),fun y=>ns.length - y.2.2.toNat,⟨by simp only; omega,by simp only; omega,rfl⟩,fun y hy=>?_⟩
 obtain ⟨x,z,i⟩:=y
 obtain ⟨g0,g1,g2⟩:=hy
 simp only at g0 g1 g2
 obtain ⟨rfl,rfl⟩:=Prod.mk.inj g2
 have hx:(jC ((pz (ns,as)).take i.toNat) k).length≤1048576:=Nat.le_trans (o8 _ _) (by rw [List.length_take]; omega)
 refine ⟨fun hlt=>?_,fun hge=>?_⟩
 ·simp only at hlt
  have hs:(pz (ns,as)).take (i+1).toNat=(pz (ns,as)).take i.toNat++[(at_ ns i,at_ as i)]:=by
   rw [show (i+1).toNat=i.toNat+1 by omega,zX (by omega),uH h1,gR,gR]
  refine ⟨g0,hlt,fun c=>⟨g0,hlt,by simp only [List.length_map]; omega,g0,by simp only; omega,by simp only [List.length_map]; omega,by simp only; omega,by simp only; omega,⟨by simp only; omega,by simp only; omega,?_⟩,by simp only; omega⟩,fun c=>⟨by simp only; omega,by simp only; omega,⟨by simp only; omega,by simp only; omega,?_⟩,by simp only; omega⟩⟩
  ·simp only
   rw [hs,aAB,if_pos c]
   simp [pu]
  ·simp only
   rw [hs,aAB,if_neg c]
   rfl
 ·simp only at hge
  have:i.toNat=ns.length:=by omega
  simp only
  rw [this,List.take_of_length_le (by omega)]
  unfold cU
  refine Prod.ext ?_ rfl
  simp only [List.length_map]
  exact decide_eq_decide.2 Int.ofNat_lt
theorem f307.ok (a:Ps Rs3×ByteArray×Rs3) (h:lL a):f307.vc a:=by
 obtain ⟨⟨ns,as⟩,k,t⟩:=a
 obtain ⟨h1,h2⟩:ns.length=as.length∧ns.length≤1048576:=h
 have hl:(pz (ns,as)).length=ns.length:=r6 h1
 let m:=jC (pz (ns,as)) k
 have hm:m.length≤1048576:=Nat.le_trans (o8 _ _) (by omega)
 have e1:(m.map (·.1)).length=m.length:=List.length_map _
 have e2:(m.map (·.2)).length=m.length:=List.length_map _
 refine ⟨⟨h1,h2⟩,fun y=>0≤y.1∧y.1≤(m.length:Int)∧y.2.1=m.map (·.1)∧y.2.2=m.map (·.2)∧∀ j,j < y.1.toNat→slt (m.getD j default).1 k=true,fun y=>m.length - y.1.toNat,
  ⟨by simp only; omega,by simp only; omega,rfl,rfl,fun j hj=>absurd hj (Nat.not_lt_zero _)⟩,fun y hy=>?_⟩
 obtain ⟨i,x,z⟩:=y
 obtain ⟨g0,g1,g2,g3,g4⟩:=hy
 simp only at g0 g1 g2 g3 g4
 subst g2 g3
 have hat:(m.getD i.toNat default).1=at_ (m.map (·.1)) i:=by
  rw [gR]
  by_cases hi:i.toNat < m.length
  ·simp [List.getD_eq_getElem?_getD,hi]
  ·simp [List.getD_eq_getElem?_getD,List.getElem?_eq_none (Nat.le_of_not_lt hi)]
   rfl
 have fin:(i.toNat=m.length∨slt (m.getD i.toNat default).1 k=false)→(((([]:List ByteArray)++(kR (m.map (·.1)) 0 i))++[k])++(kR (m.map (·.1)) i ((m.map (·.1)).length:Int)),((([]:List Rs3)++(kR (m.map (·.2)) 0 i))++[t])++(kR (m.map (·.2)) i ((m.map (·.2)).length:Int)))=fU ((ns,as),k,t):=fun hc=>by
  obtain ⟨w1,w2⟩:=wK (p:=fun y=>slt y.1 k) (m:=m) (i:=i.toNat) (by omega) g4 hc
  rw [aKN,aKN,aK3,aK3]
  show _=pu (aE3 m k t)
  unfold aE3 pu
  rw [w1,w2]
  simp [List.map_take,List.map_drop]
 refine ⟨fun hlt=>?_,fun hge=>?_⟩
 ·simp only [e1] at hlt
  refine ⟨g0,by simp only [e1]; omega,fun c=>⟨by simp only; omega,by simp only; omega,⟨by simp only; omega,by simp only; omega,rfl,rfl,fun j hj=>?_⟩,by simp only; omega⟩,fun c=>⟨g0,by simp only [e1]; omega,by simp only; omega,by simp only; omega,g0,by simp only [e1]; omega,by simp only [e1]; omega,g0,by simp only [e2]; omega,by simp only; omega,by simp only; omega,g0,by simp only [e2]; omega,by simp only [e2]; omega,fin (.inr ?_)⟩⟩
  ·simp only at hj
   by_cases he:j=i.toNat
   ·subst he
    rw [hat]
    exact c
   ·exact g4 j (by omega)
  ·rw [hat]
   exact Bool.eq_false_iff.2 c
 ·simp only [e1] at hge
  exact ⟨g0,by simp only [e1]; omega,by simp only; omega,by simp only; omega,g0,by simp only [e1]; omega,by simp only [e1]; omega,g0,by simp only [e2]; omega,by simp only; omega,by simp only; omega,g0,by simp only [e2]; omega,by simp only [e2]; omega,fin (.inl (by omega))⟩
theorem f309.ok (a:Ps Rs3×ByteArray) (h:dL a):f309.vc a:=by
 obtain ⟨⟨ns,as⟩,k⟩:=a
 obtain ⟨h1,h2⟩:ns.length=as.length∧ns.length≤1048576:=h
 have hl:(pz (ns,as)).length=ns.length:=r6 h1
 have hat:∀ i:Nat,((pz (ns,as)).getD i default).1=ns.getD i default:=fun i=>by rw [uH h1]
 refine ⟨fun y=>0≤y.1∧y.1≤(ns.length:Int)∧∀ j,j < y.1.toNat→((pz (ns,as)).getD j default).1≠k,fun y=>ns.length - y.1.toNat,⟨by omega,by omega,fun j hj=>absurd hj (Nat.not_lt_zero _)⟩,fun y hy=>?_⟩
 obtain ⟨y,z1,z2,z3⟩:=y
 obtain ⟨g0,g1,g2⟩:=hy
 simp only at g0 g1 g2
 refine ⟨fun hlt=>?_,fun hge=>?_⟩
 ·simp only at hlt
  refine ⟨g0,hlt,fun c=>⟨g0,by simp only; omega,?_⟩,fun c=>⟨by simp only; omega,by simp only; omega,⟨by simp only; omega,by simp only; omega,fun j hj=>?_⟩,by simp only; omega⟩⟩
  ·unfold cB
   rw [aGR (l:=pz (ns,as)) (i:=y.toNat) (by omega) g2 (by rw [hat,← gR]; exact c),uH h1,← gR,← gR]
  ·by_cases he:j=y.toNat
   ·subst he
    rw [hat,← gR]
    exact c
   ·exact g2 j (by omega)
 ·simp only at hge
  unfold cB
  rw [aMA (l:=pz (ns,as)) fun j hj=>g2 j (by omega)]
theorem vN (l:List (ByteArray×Rs3)) (x:Rs3) (a:ByteArray×Rs3):jN (l++[a]) x=if cY (x,a.2)=true then jN l x++[a.1] else jN l x:=by
 unfold jN
 rw [List.filter_append,List.map_append]
 split
 ·rename_i h
  rw [List.filter_cons_of_pos (by simpa using h),List.filter_nil]
  rfl
 ·rename_i h
  rw [List.filter_cons_of_neg (by simpa using h),List.filter_nil]
  simp
theorem aDC (l:List (ByteArray×Rs3)) (x:Rs3):(jN l x).length≤l.length:=by
 unfold jN
 rw [List.length_map]
 exact List.length_filter_le _ _
theorem f310.ok (a:Ps Rs3×Rs3) (h:gE a):f310.vc a:=by
 obtain ⟨⟨ns,as⟩,x⟩:=a
 obtain ⟨h1,h2⟩:ns.length=as.length∧ns.length≤1048576:=h
 have hl:(pz (ns,as)).length=ns.length:=r6 h1
 refine ⟨fun y=>0≤y.2∧y.2≤(ns.length:Int)∧y.1=jN ((pz (ns,as)).take y.2.toNat) x,fun y=>ns.length - y.2.toNat,⟨by simp only; omega,by simp only; omega,rfl⟩,fun y hy=>?_⟩
 obtain ⟨u,i⟩:=y
 obtain ⟨g0,g1,g2⟩:=hy
 simp only at g0 g1 g2
 subst g2
 have hx:(jN ((pz (ns,as)).take i.toNat) x).length≤1048576:=Nat.le_trans (aDC _ _) (by rw [List.length_take]; omega)
 refine ⟨fun hlt=>?_,fun hge=>?_⟩
 ·simp only at hlt
  have hs:(pz (ns,as)).take (i+1).toNat=(pz (ns,as)).take i.toNat++[(at_ ns i,at_ as i)]:=by
   rw [show (i+1).toNat=i.toNat+1 by omega,zX (by omega),uH h1,gR,gR]
  refine ⟨g0,by simp only; omega,fun c=>⟨g0,hlt,by simp only; omega,by simp only; omega,by simp only; omega,⟨by simp only; omega,by simp only; omega,?_⟩,by simp only; omega⟩,fun c=>⟨by simp only; omega,by simp only; omega,⟨by simp only; omega,by simp only; omega,?_⟩,by simp only; omega⟩⟩
  ·simp only
   rw [hs,vN,if_pos c]
  ·simp only
   rw [hs,vN,if_neg c]
 ·simp only at hge
  have hi:i.toNat=ns.length:=by omega
  simp only
  rw [hi,List.take_of_length_le (by omega)]
  rfl
theorem lB {l:List (Int×ByteArray×Rs3)}:iK l=true↔l.length≤300∧∀ i,i < l.length→(l.getD i default).2.1.size≤1000:=by
 unfold iK
 simp only [Bool.and_eq_true,decide_eq_true_eq,List.all_eq_true,List.mem_range]
theorem s3 {l:List (Int×ByteArray×Rs3)} (h:¬iK l=true):false=iK l:=(Bool.eq_false_iff.2 h).symm
theorem f306.ok (a:List (Int×ByteArray×Rs3)) (h:L20 a):f306.vc a:=by
 have h:a.length≤1048576:=h
 refine ⟨fun c=>s3 fun hh=>by have:=(lB.1 hh).1; omega,fun c=>?_⟩
 refine ⟨fun y=>0≤y∧y≤(a.length:Int)∧(∀ i,i < y.toNat→(a.getD i default).2.1.size≤1000),fun y=>a.length - y.toNat,⟨by omega,by omega,fun i hi=>by simp at hi⟩,fun y hy=>?_⟩
 obtain ⟨g0,g1,g2⟩:=hy
 refine ⟨fun hlt=>?_,fun hge=>?_⟩
 ·refine ⟨g0,hlt,fun d=>s3 fun hh=>?_,fun d=>⟨by omega,by omega,⟨by omega,by omega,fun i hi=>?_⟩,by simp only; omega⟩⟩
  ·have:=(lB.1 hh).2 y.toNat (by omega)
   rw [← gR] at this
   omega
  ·by_cases he:i=y.toNat
   ·subst he
    rw [← gR]
    omega
   ·exact g2 i (by omega)
 ·symm
  rw [lB]
  exact ⟨by omega,fun i hi=>g2 i (by omega)⟩
end Go.Abs
