/- Functions, and what the code asks of them: PWheel2. -/
import Derived.KernelRfl
import Derived.Test.YtfjnkkfhhalepaaWheelPlaysP4
import Derived.Test.YtfjnkkfhhalepaaWheelPlaysP5
import Derived.Test.YtfjnkkfhhalepaaWheelPlaysP6
import Derived.Test.YtfjnkkfhhalepaaWheelPlaysP7
import Derived.Test.YtfjnkkfhhalepaaWheelPlaysP8
import Derived.Test.YtfjnkkfhhalepaaWheelPlaysP9
import Derived.Test.YtfjnkkfhhalepaaWheelPlaysP10
import Derived.Test.YtfjnkkfhhalepaaWheelPlaysP11
import Derived.Test.YtfjnkkfhhalepaaWheelPlaysP12
import Derived.Test.YtfjnkkfhhalepaaWheelPlaysP15
import Derived.Test.YtfjnkkfhhalepaaWheelPlaysP16
import Derived.Test.YtfjnkkfhhalepaaWheelPlaysP17
import Derived.Test.YtfjnkkfhhalepaaWheelPlaysP18
import Derived.Test.YtfjnkkfhhalepaaWheelPlaysP20
import Derived.Test.YtfjnkkfhhalepaaWheelPlaysP21
import Derived.Test.YtfjnkkfhhalepaaWheelPlaysP22
set_option maxRecDepth 100000
set_option maxHeartbeats 4000000
set_option linter.unusedVariables false
set_option linter.unusedSimpArgs false
set_option linter.unusedSectionVars false
-- interregnum/interregnumlaw19.few
namespace Go.Abs
open Go
def f294.ent (K:(List (aE))→Prop) (t:List (aE)):Prop:=∃ c:List (aE),SlQ t.length c.length (gl aH t) (gl aH c) (K c)
theorem f294.ei {K:(List (aE))→Prop} {t:List (aE)} (h:K t):f294.ent K t:=⟨t,slQ (rS aH) (h)⟩
def f294.args (a:List (aE)):List D:=[.slice .ro 3 a.length (gl aH a)]
def f294.blks (a:List (aE)):List (List D):=[]
def f294.res (a:List (aE)):List D:=[.bool (iL a)]
def f294.blks' (a:List (aE)):List (List D):=[]
def f294.C:aQ:=FnC f294.args f294.blks (fun a=>L20 a) f294.res f294.blks'
set_option linter.unusedVariables false
def f294.S0 (a:List (aE)) (x:Int):Tm:=⟨.slice .ro 3 a.length (gl aH a)::dd 7 (.int .i64 (a.length:Int)::.int .i64 x::dd 10 []),[],[]⟩
def f294.kills (a:List (aE)):List Hint:=[.tell Int (f294.S0 a)]
def f294.cuts (a:List (aE)):List (Nat×Σ β:Type,β→Tm):=[]
def f294.af (a:List (aE)):AF:=AF.mk (.seq (.region [⟨(some 2),0,.move,[.c (.bool false)],none⟩])
 (.seq (.seq (.region [mT 4 1 0,
 oT 5 2 (.len false) [4],
 ⟨(some 6),3,(.bin .gtr),[.t 5,.c (.int .i64 (300))],none⟩])
 (.cond (.t 6) (.seq (.region [⟨(some 2),4,.move,[.c (.bool false)],none⟩])
 (.ret)) (.skip)))
 (.seq (.seq (.region [mT 7 5 0,
 oT 8 6 (.len false) [7],
 ⟨(some 9),7,.move,[.c (.int .i64 (0))],none⟩])
 (.block 0 (.loopT Int (f294.S0 a) 8 21 (.seq (.region [oT 10 8 (.bin .lss) [9,8]])
 (.seq (.cond (.t 10) (.skip) (.exit 0))
 (.seq (.block 1 (.seq (.region [mT 11 9 9,
 mT 3 10 11])
 (.seq (.region [mT 12 11 0,
 mT 13 12 3,
 oT 14 13 (.indexAddr 3 none) [12,13],
 oT 15 14 (.fieldAddr 2) [14],
 oT 16 15 (.load false 1) [15],
 oT 17 16 (.len true) [16],
 ⟨(some 18),17,(.bin .gtr),[.t 17,.c (.int .i64 (1000))],none⟩])
 (.cond (.t 18) (.seq (.region [⟨(some 2),18,.move,[.c (.bool false)],none⟩])
 (.ret)) (.skip)))))
 (.region [⟨(some 19),19,(.bin .add),[.t 9,.c (.int .i64 (1))],none⟩,
 mT 9 20 19])))))))
 (.seq (.region [⟨(some 2),21,.move,[.c (.bool true)],none⟩])
 (.ret)))))
 [.tmp 2] 0 19
def f294.env:Env:=[]
def f294.tree (a:List (aE)):Prop:=Br (decide ((300:Int) < (a.length:Int))) ((false=(iL a))∧True) (∃ (I5:Int→Prop) (μ6:Int→Nat),(∃ x4:Int,SlS aH a (((a.length:Int)=(a.length:Int))∧((0:Int)=x4)∧I5 x4))∧∀ y7:Int,I5 y7→(Br (decide (y7 < (a.length:Int))) (Br (decide ((0:Int)≤y7)&&decide (y7 < (a.length:Int))) (Br (decide ((1000:Int) < (((at_ a y7).2.2).size:Int))) ((false=(iL a))∧True) (Let (wI (y7+(1:Int))) (fun v14:Int=>∃ x15:Int,SlS aH a (((a.length:Int)=(a.length:Int))∧(v14=x15)∧I5 x15∧μ6 x15 < μ6 y7)))) False) ((true=(iL a))∧True)))
def f294.vc (a:List (aE)):Prop:=(((300:Int) < (a.length:Int)→(false=iL a))∧(¬((300:Int) < (a.length:Int))→(∃ (I5:Int→Prop) (μ6:Int→Nat),I5 (0:Int)∧∀ y7:Int,I5 y7→((y7 < (a.length:Int)→((0:Int)≤y7∧y7 < (a.length:Int)∧(((1000:Int) < (((at_ a y7).2.2).size:Int)→(false=iL a))∧(¬((1000:Int) < (((at_ a y7).2.2).size:Int))→(-9223372036854775808≤(y7+(1:Int))∧(y7+(1:Int))≤9223372036854775807∧(I5 (y7+(1:Int))∧μ6 (y7+(1:Int)) < μ6 y7))))))∧(¬(y7 < (a.length:Int))→(true=iL a))))))
theorem f294.of (a:List (aE)) (h:f294.vc a):f294.tree a:=br h Cnd.dec (fun h1 k29=>⟨k29,trivial⟩) (fun h2 k30=>Exists.elim k30 (fun I5 h26_=>Exists.elim h26_ (fun μ6 h26=>⟨I5,μ6,⟨(0:Int),SlS.mk  (⟨rfl,⟨rfl,h26.1⟩⟩)⟩,fun y7 h28=>br (h26.2 y7 h28) Cnd.dec (fun h8 k24=>chk k24.2.2 Cnd.ix ⟨k24.1,k24.2.1⟩ (fun h10 k22=>br k22 Cnd.dec (fun h11 k20=>⟨k20,trivial⟩) (fun h12 k21=>wrapK.i64 k21 (fun h17 h18 k19=>⟨(y7+(1:Int)),SlS.mk  (⟨rfl,⟨rfl,k19⟩⟩)⟩)))) (fun h9 k25=>⟨k25,trivial⟩)⟩)))
theorem f294.eq (a:List (aE)):(f294.af a).gives f294.env (f294.args a) (f294.blks a) (f294.res a) (f294.blks' a)=f294.tree a:=by kernel_rfl
def f297.args (a:aC×ByteArray×Int):List D:=[.ptr 0 0,.str a.2.1,.int .i64 a.2.2]
def f297.blks (a:aC×ByteArray×Int):List (List D):=[[.slice .ro 1 a.1.1.length (gl aA a.1.1),.slice .ro 1 a.1.2.length (gl aD a.1.2)]]
def f297.res (a:aC×ByteArray×Int):List D:=[]
def f297.blks' (a:aC×ByteArray×Int):List (List D):=[[.slice .ro 1 (((fR a).1).length) (gl aA ((fR a).1)),.slice .ro 1 (((fR a).2).length) (gl aD ((fR a).2))]]
def f297.C:aQ:=FnC f297.args f297.blks (fun a=>kN a) f297.res f297.blks'
def f299.args (a:aC×ByteArray):List D:=[.ptr 0 0,.str a.2]
def f299.blks (a:aC×ByteArray):List (List D):=[[.slice .ro 1 a.1.1.length (gl aA a.1.1),.slice .ro 1 a.1.2.length (gl aD a.1.2)]]
def f299.res (a:aC×ByteArray):List D:=[.bool ((cF a).1)]
def f299.blks' (a:aC×ByteArray):List (List D):=[[.slice .ro 1 ((((cF a).2).1).length) (gl aA (((cF a).2).1)),.slice .ro 1 ((((cF a).2).2).length) (gl aD (((cF a).2).2))]]
def f299.C:aQ:=FnC f299.args f299.blks (fun a=>cY a) f299.res f299.blks'
def f297.S0 (a:aC×ByteArray×Int) (x:Int×(List (ByteArray))×(List (Int))):Tm:=⟨.ptr 0 0::.str a.2.1::.int .i64 a.2.2::.dead::.dead::.dead::.int .i64 x.1::dd 69 [],[(0,false,[.slice .ro 1 x.2.1.length (gl aA x.2.1),.slice .ro 1 x.2.2.length (gl aD x.2.2)])],[]⟩
def f297.kills (a:aC×ByteArray×Int):List Hint:=[.tell (Int×(List (ByteArray))×(List (Int))) (f297.S0 a)]
def f297.cuts (a:aC×ByteArray×Int):List (Nat×Σ β:Type,β→Tm):=[]
def f297.af (a:aC×ByteArray×Int):AF:=AF.mk (.seq (.region [mT 9 1 0,
 mT 10 2 1,
 oT 11 3 (.call true 299) [9,10]])
 (.seq (.region [⟨(some 6),7,.move,[.c (.int .i64 (0))],none⟩])
 (.seq (.block 0 (.loopT (Int×(List (ByteArray))×(List (Int))) (f297.S0 a) 8 29 (.seq (.seq (.region [mT 12 8 6,
 mT 13 9 0,
 oT 14 10 .nilCheck [13],
 oT 15 11 (.fieldAddr 0) [14],
 oT 16 12 (.load false 1) [15],
 oT 17 13 (.len false) [16],
 oT 18 14 (.bin .lss) [12,17],
 mT 19 15 18,
 oG 20 16 .move [0] 19 true,
 oG 21 17 .nilCheck [20] 19 true,
 oG 22 18 (.fieldAddr 0) [21] 19 true,
 oG 23 19 (.load false 1) [22] 19 true,
 oG 24 20 .move [6] 19 true,
 oG 25 21 (.indexAddr 1 none) [23,24] 19 true,
 oG 26 22 (.load false 1) [25] 19 true,
 oG 27 23 .move [1] 19 true,
 oG 28 24 (.bin .lss) [26,27] 19 true,
 ⟨(some 29),25,.pick,[.t 19,.t 28,.c (.bool false)],none⟩])
 (.cond (.t 29) (.skip) (.exit 0)))
 (.block 1 (.region [mT 30 26 6,
 ⟨(some 31),27,(.bin .add),[.t 30,.c (.int .i64 (1))],none⟩,
 mT 6 28 31])))))
 (.seq (.region [oT 7 29 (.nilSl 1) []])
 (.seq (.region [oT 8 30 (.nilSl 1) []])
 (.seq (.region [mT 32 31 7,
 mT 33 32 0,
 oT 34 33 .nilCheck [33],
 oT 35 34 (.fieldAddr 0) [34],
 oT 36 35 (.load false 1) [35],
 mT 37 36 6,
 oT 38 37 (.sliceSl 1 false true false) [36,37],
 oT 39 38 (.append 1 16) [32,38],
 mT 40 39 1,
 oT 41 40 (.buildSlice 1 1 [.str ByteArray.empty] [(0,1)]) [40],
 oT 42 41 (.append 1 16) [39,41],
 mT 43 42 0,
 oT 44 43 .nilCheck [43],
 oT 45 44 (.fieldAddr 0) [44],
 oT 46 45 (.load false 1) [45],
 mT 47 46 6,
 oT 48 47 (.sliceSl 1 true false false) [46,47],
 oT 49 48 (.append 1 16) [42,48],
 mT 7 49 49])
 (.seq (.region [mT 50 50 8,
 mT 51 51 0,
 oT 52 52 .nilCheck [51],
 oT 53 53 (.fieldAddr 1) [52],
 oT 54 54 (.load false 1) [53],
 mT 55 55 6,
 oT 56 56 (.sliceSl 1 false true false) [54,55],
 oT 57 57 (.append 1 8) [50,56],
 mT 58 58 2,
 oT 59 59 (.buildSlice 1 1 [.int .i64 (0)] [(0,1)]) [58],
 oT 60 60 (.append 1 8) [57,59],
 mT 61 61 0,
 oT 62 62 .nilCheck [61],
 oT 63 63 (.fieldAddr 1) [62],
 oT 64 64 (.load false 1) [63],
 mT 65 65 6,
 oT 66 66 (.sliceSl 1 true false false) [64,65],
 oT 67 67 (.append 1 8) [60,66],
 mT 8 68 67])
 (.region [mT 68 69 0,
 mT 69 70 0,
 mT 70 71 7,
 mT 71 72 8,
 oT 72 73 .nilCheck [68],
 oT 73 74 (.fieldAddr 0) [72],
 ⟨none,75,(.store 1),[.t 73,.t 70],none⟩,
 oT 74 76 .nilCheck [69],
 oT 75 77 (.fieldAddr 1) [74],
 ⟨none,78,(.store 1),[.t 75,.t 71],none⟩]))))))))
 [] 1 73
def f297.env:Env:=[(299,f299.C)]
def f297.tree (a:aC×ByteArray×Int):Prop:=∃ c1:aC×ByteArray,(a.2.1=c1.2)∧SlQ a.1.1.length c1.1.1.length (gl aA a.1.1) (gl aA c1.1.1) (SlQ a.1.2.length c1.1.2.length (gl aD a.1.2) (gl aD c1.1.2) ((cY c1)∧∃ (I3:(Int×(List (ByteArray))×(List (Int)))→Prop) (μ4:(Int×(List (ByteArray))×(List (Int)))→Nat),(∃ x2:Int×(List (ByteArray))×(List (Int)),(a.2.1=a.2.1)∧(a.2.2=a.2.2)∧((0:Int)=x2.1)∧SlQ ((((cF c1).2).1).length) x2.2.1.length (gl aA (((cF c1).2).1)) (gl aA x2.2.1) (SlQ ((((cF c1).2).2).length) x2.2.2.length (gl aD (((cF c1).2).2)) (gl aD x2.2.2) (I3 x2)))∧∀ y5:Int×(List (ByteArray))×(List (Int)),I3 y5→(Br (decide (y5.1 < (y5.2.1.length:Int))) (Br (decide ((0:Int)≤y5.1)&&decide (y5.1 < (y5.2.1.length:Int))) (Br (Op.bytesLess (at_ y5.2.1 y5.1).toList a.2.1.toList) (Let (wI (y5.1+(1:Int))) (fun v11:Int=>∃ x12:Int×(List (ByteArray))×(List (Int)),(a.2.1=a.2.1)∧(a.2.2=a.2.2)∧(v11=x12.1)∧SlQ y5.2.1.length x12.2.1.length (gl aA y5.2.1) (gl aA x12.2.1) (SlQ y5.2.2.length x12.2.2.length (gl aD y5.2.2) (gl aD x12.2.2) (I3 x12∧μ4 x12 < μ4 y5)))) (Br (decide ((0:Int)≤(0:Int))&&decide ((0:Int)≤y5.1)&&decide (y5.1≤(y5.2.1.length:Int))&&(y5.1==y5.1)) ((0=0∧iA ((0+(Int.toNat (y5.1 - (0:Int)))) * 16))∧(((0+(Int.toNat (y5.1 - (0:Int))))=(0+(Int.toNat (y5.1 - (0:Int))))∧iA (((0+(Int.toNat (y5.1 - (0:Int))))+1) * 16))∧(Br (decide ((0:Int)≤y5.1)&&decide (y5.1≤(y5.2.1.length:Int))&&decide ((y5.2.1.length:Int)≤(y5.2.1.length:Int))&&((y5.2.1.length:Int)==(y5.2.1.length:Int))) ((((0+(Int.toNat (y5.1 - (0:Int))))+1)=((0+(Int.toNat (y5.1 - (0:Int))))+1)∧iA ((((0+(Int.toNat (y5.1 - (0:Int))))+1)+(Int.toNat ((y5.2.1.length:Int) - y5.1))) * 16))∧(Br (decide ((0:Int)≤(0:Int))&&decide ((0:Int)≤y5.1)&&decide (y5.1≤(y5.2.2.length:Int))&&(y5.1==y5.1)) ((0=0∧iA ((0+(Int.toNat (y5.1 - (0:Int)))) * 8))∧(((0+(Int.toNat (y5.1 - (0:Int))))=(0+(Int.toNat (y5.1 - (0:Int))))∧iA (((0+(Int.toNat (y5.1 - (0:Int))))+1) * 8))∧(Br (decide ((0:Int)≤y5.1)&&decide (y5.1≤(y5.2.2.length:Int))&&decide ((y5.2.2.length:Int)≤(y5.2.2.length:Int))&&((y5.2.2.length:Int)==(y5.2.2.length:Int))) ((((0+(Int.toNat (y5.1 - (0:Int))))+1)=((0+(Int.toNat (y5.1 - (0:Int))))+1)∧iA ((((0+(Int.toNat (y5.1 - (0:Int))))+1)+(Int.toNat ((y5.2.2.length:Int) - y5.1))) * 8))∧(SlQ (((0+(Int.toNat (y5.1 - (0:Int))))+1)+(Int.toNat ((y5.2.1.length:Int) - y5.1))) (((fR a).1).length) (eF (eF (eF fA 0 (sL (gl aA y5.2.1) 0)) (0+(Int.toNat (y5.1 - (0:Int)))) (fun _=>[.str a.2.1])) ((0+(Int.toNat (y5.1 - (0:Int))))+1) (sL (gl aA y5.2.1) (Int.toNat y5.1))) (gl aA ((fR a).1)) (SlQ (((0+(Int.toNat (y5.1 - (0:Int))))+1)+(Int.toNat ((y5.2.2.length:Int) - y5.1))) (((fR a).2).length) (eF (eF (eF fA 0 (sL (gl aD y5.2.2) 0)) (0+(Int.toNat (y5.1 - (0:Int)))) (fun _=>[.int .i64 a.2.2])) ((0+(Int.toNat (y5.1 - (0:Int))))+1) (sL (gl aD y5.2.2) (Int.toNat y5.1))) (gl aD ((fR a).2)) (True)))) False))) False)) False))) False)) False) (Br (decide ((0:Int)≤(0:Int))&&decide ((0:Int)≤y5.1)&&decide (y5.1≤(y5.2.1.length:Int))&&(y5.1==y5.1)) ((0=0∧iA ((0+(Int.toNat (y5.1 - (0:Int)))) * 16))∧(((0+(Int.toNat (y5.1 - (0:Int))))=(0+(Int.toNat (y5.1 - (0:Int))))∧iA (((0+(Int.toNat (y5.1 - (0:Int))))+1) * 16))∧(Br (decide ((0:Int)≤y5.1)&&decide (y5.1≤(y5.2.1.length:Int))&&decide ((y5.2.1.length:Int)≤(y5.2.1.length:Int))&&((y5.2.1.length:Int)==(y5.2.1.length:Int))) ((((0+(Int.toNat (y5.1 - (0:Int))))+1)=((0+(Int.toNat (y5.1 - (0:Int))))+1)∧iA ((((0+(Int.toNat (y5.1 - (0:Int))))+1)+(Int.toNat ((y5.2.1.length:Int) - y5.1))) * 16))∧(Br (decide ((0:Int)≤(0:Int))&&decide ((0:Int)≤y5.1)&&decide (y5.1≤(y5.2.2.length:Int))&&(y5.1==y5.1)) ((0=0∧iA ((0+(Int.toNat (y5.1 - (0:Int)))) * 8))∧(((0+(Int.toNat (y5.1 - (0:Int))))=(0+(Int.toNat (y5.1 - (0:Int))))∧iA (((0+(Int.toNat (y5.1 - (0:Int))))+1) * 8))∧(Br (decide ((0:Int)≤y5.1)&&decide (y5.1≤(y5.2.2.length:Int))&&decide ((y5.2.2.length:Int)≤(y5.2.2.length:Int))&&((y5.2.2.length:Int)==(y5.2.2.length:Int))) ((((0+(Int.toNat (y5.1 - (0:Int))))+1)=((0+(Int.toNat (y5.1 - (0:Int))))+1)∧iA ((((0+(Int.toNat (y5.1 - (0:Int))))+1)+(Int.toNat ((y5.2.2.length:Int) - y5.1))) * 8))∧(SlQ (((0+(Int.toNat (y5.1 - (0:Int))))+1)+(Int.toNat ((y5.2.1.length:Int) - y5.1))) (((fR a).1).length) (eF (eF (eF fA 0 (sL (gl aA y5.2.1) 0)) (0+(Int.toNat (y5.1 - (0:Int)))) (fun _=>[.str a.2.1])) ((0+(Int.toNat (y5.1 - (0:Int))))+1) (sL (gl aA y5.2.1) (Int.toNat y5.1))) (gl aA ((fR a).1)) (SlQ (((0+(Int.toNat (y5.1 - (0:Int))))+1)+(Int.toNat ((y5.2.2.length:Int) - y5.1))) (((fR a).2).length) (eF (eF (eF fA 0 (sL (gl aD y5.2.2) 0)) (0+(Int.toNat (y5.1 - (0:Int)))) (fun _=>[.int .i64 a.2.2])) ((0+(Int.toNat (y5.1 - (0:Int))))+1) (sL (gl aD y5.2.2) (Int.toNat y5.1))) (gl aD ((fR a).2)) (True)))) False))) False)) False))) False))))
def f297.vc (a:aC×ByteArray×Int):Prop:=(cY (a.1,a.2.1)∧(∃ (I3:(Int×(List (ByteArray))×(List (Int)))→Prop) (μ4:(Int×(List (ByteArray))×(List (Int)))→Nat),I3 ((0:Int),((cF (a.1,a.2.1)).2).1,((cF (a.1,a.2.1)).2).2)∧∀ y5:Int×(List (ByteArray))×(List (Int)),I3 y5→((y5.1 < (y5.2.1.length:Int)→((0:Int)≤y5.1∧y5.1 < (y5.2.1.length:Int)∧((sLt (at_ y5.2.1 y5.1) a.2.1→(-9223372036854775808≤(y5.1+(1:Int))∧(y5.1+(1:Int))≤9223372036854775807∧(I3 ((y5.1+(1:Int)),y5.2.1,y5.2.2)∧μ4 ((y5.1+(1:Int)),y5.2.1,y5.2.2) < μ4 y5)))∧(¬(sLt (at_ y5.2.1 y5.1) a.2.1)→((0:Int)≤y5.1∧y5.1≤(y5.2.1.length:Int)∧(0+(Int.toNat (y5.1 - (0:Int)))≤1073741824∧((0+(Int.toNat (y5.1 - (0:Int))))+1≤1073741824∧((0:Int)≤y5.1∧y5.1≤(y5.2.1.length:Int)∧(((0+(Int.toNat (y5.1 - (0:Int))))+1)+(Int.toNat ((y5.2.1.length:Int) - y5.1))≤1073741824∧((0:Int)≤y5.1∧y5.1≤(y5.2.2.length:Int)∧(0+(Int.toNat (y5.1 - (0:Int)))≤1073741824∧((0+(Int.toNat (y5.1 - (0:Int))))+1≤1073741824∧((0:Int)≤y5.1∧y5.1≤(y5.2.2.length:Int)∧(((0+(Int.toNat (y5.1 - (0:Int))))+1)+(Int.toNat ((y5.2.2.length:Int) - y5.1))≤1073741824∧((((([])++(kE y5.2.1 (0:Int) y5.1))++([a.2.1]))++(kE y5.2.1 y5.1 (y5.2.1.length:Int)),((([])++(kE y5.2.2 (0:Int) y5.1))++([a.2.2]))++(kE y5.2.2 y5.1 (y5.2.2.length:Int)))=fR a)))))))))))))))∧(¬(y5.1 < (y5.2.1.length:Int))→((0:Int)≤y5.1∧y5.1≤(y5.2.1.length:Int)∧(0+(Int.toNat (y5.1 - (0:Int)))≤1073741824∧((0+(Int.toNat (y5.1 - (0:Int))))+1≤1073741824∧((0:Int)≤y5.1∧y5.1≤(y5.2.1.length:Int)∧(((0+(Int.toNat (y5.1 - (0:Int))))+1)+(Int.toNat ((y5.2.1.length:Int) - y5.1))≤1073741824∧((0:Int)≤y5.1∧y5.1≤(y5.2.2.length:Int)∧(0+(Int.toNat (y5.1 - (0:Int)))≤1073741824∧((0+(Int.toNat (y5.1 - (0:Int))))+1≤1073741824∧((0:Int)≤y5.1∧y5.1≤(y5.2.2.length:Int)∧(((0+(Int.toNat (y5.1 - (0:Int))))+1)+(Int.toNat ((y5.2.2.length:Int) - y5.1))≤1073741824∧((((([])++(kE y5.2.1 (0:Int) y5.1))++([a.2.1]))++(kE y5.2.1 y5.1 (y5.2.1.length:Int)),((([])++(kE y5.2.2 (0:Int) y5.1))++([a.2.2]))++(kE y5.2.2 y5.1 (y5.2.2.length:Int)))=fR a)))))))))))))))
theorem f297.of (a:aC×ByteArray×Int) (h:f297.vc a):f297.tree a:=⟨(a.1,a.2.1),⟨rfl,slQ (rS aA) (slQ (rS aD) (⟨h.1,Exists.elim h.2 (fun I3 h40_=>Exists.elim h40_ (fun μ4 h40=>⟨I3,μ4,⟨((0:Int),((cF (a.1,a.2.1)).2).1,((cF (a.1,a.2.1)).2).2),⟨rfl,⟨rfl,⟨rfl,slQ (rS aA) (slQ (rS aD) (h40.1))⟩⟩⟩⟩,fun y5 h42=>br (h40.2 y5 h42) Cnd.dec (fun h6 k38=>chk k38.2.2 Cnd.ix ⟨k38.1,k38.2.1⟩ (fun h8 k28=>br k28 Cnd.sl_ (fun h9 k26=>wrapK.i64 k26 (fun h14 h15 k16=>⟨((y5.1+(1:Int)),y5.2.1,y5.2.2),⟨rfl,⟨rfl,⟨rfl,slQ (rS aA) (slQ (rS aD) (k16))⟩⟩⟩⟩)) (fun h10 k27=>chk k27.2.2 Cnd.sl ⟨(by decide),k27.1,k27.2.1⟩ (fun h17 k25=>⟨⟨rfl,(d5 k25.1 (by decide))⟩,⟨⟨rfl,(d5 k25.2.1 (by decide))⟩,chk k25.2.2.2.2 Cnd.sl ⟨k25.2.2.1,k25.2.2.2.1,(Int.le_refl _)⟩ (fun h18 k24=>⟨⟨rfl,(d5 k24.1 (by decide))⟩,chk k24.2.2.2 Cnd.sl ⟨(by decide),k24.2.1,k24.2.2.1⟩ (fun h19 k23=>⟨⟨rfl,(d5 k23.1 (by decide))⟩,⟨⟨rfl,(d5 k23.2.1 (by decide))⟩,chk k23.2.2.2.2 Cnd.sl ⟨k23.2.2.1,k23.2.2.2.1,(Int.le_refl _)⟩ (fun h20 k22=>⟨⟨rfl,(d5 k22.1 (by decide))⟩,slQ (Rds.to (Rds.app (enc:=aA) (Rds.app (enc:=aA) (Rds.app (enc:=aA) (Rds.nil (enc:=aA)) (Rds.sub (enc:=aA) (rS aA) h17)) (Rds.one (enc:=aA) (DEqs.refl _))) (Rds.sub (enc:=aA) (rS aA) h18)) (congrArg (fun x:aC=>x.1) k22.2 :)) (slQ (Rds.to (Rds.app (enc:=aD) (Rds.app (enc:=aD) (Rds.app (enc:=aD) (Rds.nil (enc:=aD)) (Rds.sub (enc:=aD) (rS aD) h19)) (Rds.one (enc:=aD) (DEqs.refl _))) (Rds.sub (enc:=aD) (rS aD) h20)) (congrArg (fun x:aC=>x.2) k22.2 :)) (trivial))⟩)⟩⟩)⟩)⟩⟩)))) (fun h7 k39=>chk k39.2.2 Cnd.sl ⟨(by decide),k39.1,k39.2.1⟩ (fun h29 k37=>⟨⟨rfl,(d5 k37.1 (by decide))⟩,⟨⟨rfl,(d5 k37.2.1 (by decide))⟩,chk k37.2.2.2.2 Cnd.sl ⟨k37.2.2.1,k37.2.2.2.1,(Int.le_refl _)⟩ (fun h30 k36=>⟨⟨rfl,(d5 k36.1 (by decide))⟩,chk k36.2.2.2 Cnd.sl ⟨(by decide),k36.2.1,k36.2.2.1⟩ (fun h31 k35=>⟨⟨rfl,(d5 k35.1 (by decide))⟩,⟨⟨rfl,(d5 k35.2.1 (by decide))⟩,chk k35.2.2.2.2 Cnd.sl ⟨k35.2.2.1,k35.2.2.2.1,(Int.le_refl _)⟩ (fun h32 k34=>⟨⟨rfl,(d5 k34.1 (by decide))⟩,slQ (Rds.to (Rds.app (enc:=aA) (Rds.app (enc:=aA) (Rds.app (enc:=aA) (Rds.nil (enc:=aA)) (Rds.sub (enc:=aA) (rS aA) h29)) (Rds.one (enc:=aA) (DEqs.refl _))) (Rds.sub (enc:=aA) (rS aA) h30)) (congrArg (fun x:aC=>x.1) k34.2 :)) (slQ (Rds.to (Rds.app (enc:=aD) (Rds.app (enc:=aD) (Rds.app (enc:=aD) (Rds.nil (enc:=aD)) (Rds.sub (enc:=aD) (rS aD) h31)) (Rds.one (enc:=aD) (DEqs.refl _))) (Rds.sub (enc:=aD) (rS aD) h32)) (congrArg (fun x:aC=>x.2) k34.2 :)) (trivial))⟩)⟩⟩)⟩)⟩⟩))⟩))⟩))⟩⟩
theorem f297.eq (a:aC×ByteArray×Int):(f297.af a).gives f297.env (f297.args a) (f297.blks a) (f297.res a) (f297.blks' a)=f297.tree a:=by kernel_rfl
def f299.S0 (a:aC×ByteArray) (x:(List (ByteArray))×(List (Int))×Int):Tm:=⟨.ptr 0 0::.str a.2::.dead::.dead::.dead::.slice (.own 2) 1 x.1.length (gl aA x.1)::.slice (.own 3) 1 x.2.1.length (gl aD x.2.1)::dd 6 (.int .i64 (a.1.1.length:Int)::.int .i64 x.2.2::dd 49 []),[(0,false,[.slice .ro 1 a.1.1.length (gl aA a.1.1),.slice .ro 1 a.1.2.length (gl aD a.1.2)])],[(2,1,x.1.length),(3,1,x.2.1.length)]⟩
def f299.kills (a:aC×ByteArray):List Hint:=[.tell ((List (ByteArray))×(List (Int))×Int) (f299.S0 a)]
def f299.cuts (a:aC×ByteArray):List (Nat×Σ β:Type,β→Tm):=[]
def f299.af (a:aC×ByteArray):AF:=AF.mk (.seq (.region [⟨(some 4),1,.move,[.c (.bool false)],none⟩])
 (.seq (.region [oT 5 2 (.nilSl 1) []])
 (.seq (.region [oT 6 3 (.nilSl 1) []])
 (.seq (.seq (.region [mT 9 4 0,
 oT 10 5 .nilCheck [9],
 oT 11 6 (.fieldAddr 0) [10],
 oT 12 7 (.load false 1) [11],
 oT 13 8 (.len false) [12],
 ⟨(some 14),9,.move,[.c (.int .i64 (0))],none⟩])
 (.block 0 (.loopT ((List (ByteArray))×(List (Int))×Int) (f299.S0 a) 10 46 (.seq (.region [oT 15 10 (.bin .lss) [14,13]])
 (.seq (.cond (.t 15) (.skip) (.exit 0))
 (.seq (.block 1 (.seq (.region [mT 16 11 14,
 mT 7 12 16])
 (.seq (.region [mT 17 13 0,
 oT 18 14 .nilCheck [17],
 oT 19 15 (.fieldAddr 0) [18],
 oT 20 16 (.load false 1) [19],
 mT 21 17 7,
 oT 22 18 (.indexAddr 1 none) [20,21],
 oT 23 19 (.load false 1) [22],
 mT 24 20 1,
 oT 25 21 (.bin .neq) [23,24]])
 (.cond (.t 25) (.seq (.region [mT 26 22 5,
 mT 27 23 0,
 oT 28 24 .nilCheck [27],
 oT 29 25 (.fieldAddr 0) [28],
 oT 30 26 (.load false 1) [29],
 mT 31 27 7,
 oT 32 28 (.indexAddr 1 none) [30,31],
 oT 33 29 (.load false 1) [32],
 oT 34 30 (.buildSlice 1 1 [.str ByteArray.empty] [(0,1)]) [33],
 oT 35 31 (.append 1 16) [26,34],
 mT 5 32 35])
 (.region [mT 36 33 6,
 mT 37 34 0,
 oT 38 35 .nilCheck [37],
 oT 39 36 (.fieldAddr 1) [38],
 oT 40 37 (.load false 1) [39],
 mT 41 38 7,
 oT 42 39 (.indexAddr 1 none) [40,41],
 oT 43 40 (.load false 1) [42],
 oT 44 41 (.buildSlice 1 1 [.int .i64 (0)] [(0,1)]) [43],
 oT 45 42 (.append 1 8) [36,44],
 mT 6 43 45])) (.skip)))))
 (.region [⟨(some 46),44,(.bin .add),[.t 14,.c (.int .i64 (1))],none⟩,
 mT 14 45 46])))))))
 (.seq (.region [mT 47 46 5,
 oT 48 47 (.len false) [47],
 mT 49 48 0,
 oT 50 49 .nilCheck [49],
 oT 51 50 (.fieldAddr 0) [50],
 oT 52 51 (.load false 1) [51],
 oT 53 52 (.len false) [52],
 oT 54 53 (.bin .lss) [48,53],
 mT 8 54 54])
 (.seq (.region [mT 55 55 0,
 mT 56 56 0,
 mT 57 57 5,
 mT 58 58 6,
 oT 59 59 .nilCheck [55],
 oT 60 60 (.fieldAddr 0) [59],
 ⟨none,61,(.store 1),[.t 60,.t 57],none⟩,
 oT 61 62 .nilCheck [56],
 oT 62 63 (.fieldAddr 1) [61],
 ⟨none,64,(.store 1),[.t 62,.t 58],none⟩])
 (.seq (.region [mT 63 65 8,
 mT 4 66 63])
 (.ret))))))))
 [.tmp 4] 1 62
def f299.env:Env:=[]
def f299.tree (a:aC×ByteArray):Prop:=∃ (I2:((List (ByteArray))×(List (Int))×Int)→Prop) (μ3:((List (ByteArray))×(List (Int))×Int)→Nat),(∃ x1:(List (ByteArray))×(List (Int))×Int,(a.2=a.2)∧SlQ 0 x1.1.length fA (gl aA x1.1) (SlQ 0 x1.2.1.length fA (gl aD x1.2.1) (((a.1.1.length:Int)=(a.1.1.length:Int))∧((0:Int)=x1.2.2)∧SlS aA a.1.1 (SlS aD a.1.2 ((0=x1.1.length)∧(0=x1.2.1.length)∧I2 x1)))))∧∀ y4:(List (ByteArray))×(List (Int))×Int,I2 y4→(Br (decide (y4.2.2 < (a.1.1.length:Int))) (Br (decide ((0:Int)≤y4.2.2)&&decide (y4.2.2 < (a.1.1.length:Int))) (Br (!((at_ a.1.1 y4.2.2).toList==a.2.toList)) (Br (decide ((0:Int)≤y4.2.2)&&decide (y4.2.2 < (a.1.1.length:Int))) ((y4.1.length=y4.1.length∧iA ((y4.1.length+1) * 16))∧(Br (decide ((0:Int)≤y4.2.2)&&decide (y4.2.2 < (a.1.2.length:Int))) ((y4.2.1.length=y4.2.1.length∧iA ((y4.2.1.length+1) * 8))∧(Let (wI (y4.2.2+(1:Int))) (fun v12:Int=>∃ x13:(List (ByteArray))×(List (Int))×Int,(a.2=a.2)∧SlQ (y4.1.length+1) x13.1.length (eF (gl aA y4.1) y4.1.length (fun _=>[.str (at_ a.1.1 y4.2.2)])) (gl aA x13.1) (SlQ (y4.2.1.length+1) x13.2.1.length (eF (gl aD y4.2.1) y4.2.1.length (fun _=>[.int .i64 (at_ a.1.2 y4.2.2)])) (gl aD x13.2.1) (((a.1.1.length:Int)=(a.1.1.length:Int))∧(v12=x13.2.2)∧SlS aA a.1.1 (SlS aD a.1.2 (((y4.1.length+1)=x13.1.length)∧((y4.2.1.length+1)=x13.2.1.length)∧I2 x13∧μ3 x13 < μ3 y4))))))) False)) False) (Let (wI (y4.2.2+(1:Int))) (fun v20:Int=>∃ x21:(List (ByteArray))×(List (Int))×Int,(a.2=a.2)∧SlQ y4.1.length x21.1.length (gl aA y4.1) (gl aA x21.1) (SlQ y4.2.1.length x21.2.1.length (gl aD y4.2.1) (gl aD x21.2.1) (((a.1.1.length:Int)=(a.1.1.length:Int))∧(v20=x21.2.2)∧SlS aA a.1.1 (SlS aD a.1.2 ((y4.1.length=x21.1.length)∧(y4.2.1.length=x21.2.1.length)∧I2 x21∧μ3 x21 < μ3 y4))))))) False) (((decide ((y4.1.length:Int) < (a.1.1.length:Int)))=((cF a).1))∧SlQ y4.1.length ((((cF a).2).1).length) (gl aA y4.1) (gl aA (((cF a).2).1)) (SlQ y4.2.1.length ((((cF a).2).2).length) (gl aD y4.2.1) (gl aD (((cF a).2).2)) (True))))
def f299.vc (a:aC×ByteArray):Prop:=(∃ (I2:((List (ByteArray))×(List (Int))×Int)→Prop) (μ3:((List (ByteArray))×(List (Int))×Int)→Nat),I2 ([],[],(0:Int))∧∀ y4:(List (ByteArray))×(List (Int))×Int,I2 y4→((y4.2.2 < (a.1.1.length:Int)→((0:Int)≤y4.2.2∧y4.2.2 < (a.1.1.length:Int)∧((¬((at_ a.1.1 y4.2.2)=a.2)→((0:Int)≤y4.2.2∧y4.2.2 < (a.1.1.length:Int)∧(y4.1.length+1≤1073741824∧((0:Int)≤y4.2.2∧y4.2.2 < (a.1.2.length:Int)∧(y4.2.1.length+1≤1073741824∧(-9223372036854775808≤(y4.2.2+(1:Int))∧(y4.2.2+(1:Int))≤9223372036854775807∧(I2 (y4.1++([at_ a.1.1 y4.2.2]),y4.2.1++([at_ a.1.2 y4.2.2]),(y4.2.2+(1:Int)))∧μ3 (y4.1++([at_ a.1.1 y4.2.2]),y4.2.1++([at_ a.1.2 y4.2.2]),(y4.2.2+(1:Int))) < μ3 y4)))))))∧(¬(¬((at_ a.1.1 y4.2.2)=a.2))→(-9223372036854775808≤(y4.2.2+(1:Int))∧(y4.2.2+(1:Int))≤9223372036854775807∧(I2 (y4.1,y4.2.1,(y4.2.2+(1:Int)))∧μ3 (y4.1,y4.2.1,(y4.2.2+(1:Int))) < μ3 y4))))))∧(¬(y4.2.2 < (a.1.1.length:Int))→((decide ((y4.1.length:Int) < (a.1.1.length:Int)),(y4.1,y4.2.1))=cF a))))
theorem f299.of (a:aC×ByteArray) (h:f299.vc a):f299.tree a:=Exists.elim h (fun I2 h32_=>Exists.elim h32_ (fun μ3 h32=>⟨I2,μ3,⟨([],[],(0:Int)),⟨rfl,slQ (Rds.nil (enc:=aA)) (slQ (Rds.nil (enc:=aD)) (⟨rfl,⟨rfl,SlS.mk  (SlS.mk  (⟨(a8 fA (Rds.nil (enc:=aA))),⟨(a8 fA (Rds.nil (enc:=aD))),h32.1⟩⟩))⟩⟩))⟩⟩,fun y4 h34=>br (h32.2 y4 h34) Cnd.dec (fun h5 k30=>chk k30.2.2 Cnd.ix ⟨k30.1,k30.2.1⟩ (fun h7 k28=>br k28 (Cnd.not Cnd.seq) (fun h8 k26=>chk k26.2.2 Cnd.ix ⟨k26.1,k26.2.1⟩ (fun h10 k19=>⟨⟨rfl,(d5 k19.1 (by decide))⟩,chk k19.2.2.2 Cnd.ix ⟨k19.2.1,k19.2.2.1⟩ (fun h11 k18=>⟨⟨rfl,(d5 k18.1 (by decide))⟩,wrapK.i64 k18.2 (fun h15 h16 k17=>⟨(y4.1++([at_ a.1.1 y4.2.2]),y4.2.1++([at_ a.1.2 y4.2.2]),(y4.2.2+(1:Int))),⟨rfl,slQ (Rds.app (enc:=aA) (rS aA) (Rds.one (enc:=aA) (DEqs.refl _))) (slQ (Rds.app (enc:=aD) (rS aD) (Rds.one (enc:=aD) (DEqs.refl _))) (⟨rfl,⟨rfl,SlS.mk  (SlS.mk  (⟨(a8 (eF (gl aA y4.1) y4.1.length (fun _=>[.str (at_ a.1.1 y4.2.2)])) (Rds.app (enc:=aA) (rS aA) (Rds.one (enc:=aA) (DEqs.refl _)))),⟨(a8 (eF (gl aD y4.2.1) y4.2.1.length (fun _=>[.int .i64 (at_ a.1.2 y4.2.2)])) (Rds.app (enc:=aD) (rS aD) (Rds.one (enc:=aD) (DEqs.refl _)))),k17⟩⟩))⟩⟩))⟩⟩)⟩)⟩)) (fun h9 k27=>wrapK.i64 k27 (fun h23 h24 k25=>⟨(y4.1,y4.2.1,(y4.2.2+(1:Int))),⟨rfl,slQ (rS aA) (slQ (rS aD) (⟨rfl,⟨rfl,SlS.mk  (SlS.mk  (⟨(a8 (gl aA y4.1) (rS aA)),⟨(a8 (gl aD y4.2.1) (rS aD)),k25⟩⟩))⟩⟩))⟩⟩)))) (fun h6 k31=>⟨(congrArg (fun x:Bool×aC=>x.1) k31 :),slQ (Rds.to (rS aA) (congrArg (fun x:Bool×aC=>x.2.1) k31 :)) (slQ (Rds.to (rS aD) (congrArg (fun x:Bool×aC=>x.2.2) k31 :)) (trivial))⟩)⟩))
theorem f299.eq (a:aC×ByteArray):(f299.af a).gives f299.env (f299.args a) (f299.blks a) (f299.res a) (f299.blks' a)=f299.tree a:=by kernel_rfl
def f301.args (a:aC×ByteArray):List D:=[.ptr 0 0,.str a.2]
def f301.blks (a:aC×ByteArray):List (List D):=[[.slice .ro 1 a.1.1.length (gl aA a.1.1),.slice .ro 1 a.1.2.length (gl aD a.1.2)]]
def f301.res (a:aC×ByteArray):List D:=[.int .i64 (((dF 0) a).1),.bool (((dF 0) a).2.1)]
def f301.blks' (a:aC×ByteArray):List (List D):=[[.slice .ro 1 (((((dF 0) a).2.2).1).length) (gl aA ((((dF 0) a).2.2).1)),.slice .ro 1 (((((dF 0) a).2.2).2).length) (gl aD ((((dF 0) a).2.2).2))]]
def f301.C:aQ:=FnC f301.args f301.blks (fun a=>cY a) f301.res f301.blks'
def f301.S0 (a:aC×ByteArray) (x:Int):Tm:=⟨.ptr 0 0::.str a.2::dd 9 (.int .i64 (a.1.1.length:Int)::.int .i64 x::dd 19 []),[(0,false,[.slice .ro 1 a.1.1.length (gl aA a.1.1),.slice .ro 1 a.1.2.length (gl aD a.1.2)])],[]⟩
def f301.kills (a:aC×ByteArray):List Hint:=[.tell Int (f301.S0 a)]
def f301.cuts (a:aC×ByteArray):List (Nat×Σ β:Type,β→Tm):=[]
def f301.af (a:aC×ByteArray):AF:=AF.mk (.seq (.region [⟨(some 4),1,.move,[.c (.int .i64 (0))],none⟩,
 ⟨(some 5),2,.move,[.c (.bool false)],none⟩])
 (.seq (.seq (.region [mT 7 3 0,
 oT 8 4 .nilCheck [7],
 oT 9 5 (.fieldAddr 0) [8],
 oT 10 6 (.load false 1) [9],
 oT 11 7 (.len false) [10],
 ⟨(some 12),8,.move,[.c (.int .i64 (0))],none⟩])
 (.block 0 (.loopT Int (f301.S0 a) 9 32 (.seq (.region [oT 13 9 (.bin .lss) [12,11]])
 (.seq (.cond (.t 13) (.skip) (.exit 0))
 (.seq (.block 1 (.seq (.region [mT 14 10 12,
 mT 6 11 14])
 (.seq (.region [mT 15 12 0,
 oT 16 13 .nilCheck [15],
 oT 17 14 (.fieldAddr 0) [16],
 oT 18 15 (.load false 1) [17],
 mT 19 16 6,
 oT 20 17 (.indexAddr 1 none) [18,19],
 oT 21 18 (.load false 1) [20],
 mT 22 19 1,
 oT 23 20 (.bin .eql) [21,22]])
 (.cond (.t 23) (.seq (.region [mT 24 21 0,
 oT 25 22 .nilCheck [24],
 oT 26 23 (.fieldAddr 1) [25],
 oT 27 24 (.load false 1) [26],
 mT 28 25 6,
 oT 29 26 (.indexAddr 1 none) [27,28],
 oT 30 27 (.load false 1) [29],
 mT 4 28 30,
 ⟨(some 5),29,.move,[.c (.bool true)],none⟩])
 (.ret)) (.skip)))))
 (.region [⟨(some 31),30,(.bin .add),[.t 12,.c (.int .i64 (1))],none⟩,
 mT 12 31 31])))))))
 (.seq (.region [⟨(some 4),32,.move,[.c (.int .i64 (0))],none⟩,
 ⟨(some 5),33,.move,[.c (.bool false)],none⟩])
 (.ret))))
 [.tmp 4,.tmp 5] 1 30
def f301.env:Env:=[]
def f301.tree (a:aC×ByteArray):Prop:=∃ (I2:Int→Prop) (μ3:Int→Nat),(∃ x1:Int,(a.2=a.2)∧((a.1.1.length:Int)=(a.1.1.length:Int))∧((0:Int)=x1)∧SlS aA a.1.1 (SlS aD a.1.2 (I2 x1)))∧∀ y4:Int,I2 y4→(Br (decide (y4 < (a.1.1.length:Int))) (Br (decide ((0:Int)≤y4)&&decide (y4 < (a.1.1.length:Int))) (Br ((at_ a.1.1 y4).toList==a.2.toList) (Br (decide ((0:Int)≤y4)&&decide (y4 < (a.1.2.length:Int))) (((at_ a.1.2 y4)=(((dF 0) a).1))∧(true=(((dF 0) a).2.1))∧SlQ a.1.1.length (((((dF 0) a).2.2).1).length) (gl aA a.1.1) (gl aA ((((dF 0) a).2.2).1)) (SlQ a.1.2.length (((((dF 0) a).2.2).2).length) (gl aD a.1.2) (gl aD ((((dF 0) a).2.2).2)) (True))) False) (Let (wI (y4+(1:Int))) (fun v13:Int=>∃ x14:Int,(a.2=a.2)∧((a.1.1.length:Int)=(a.1.1.length:Int))∧(v13=x14)∧SlS aA a.1.1 (SlS aD a.1.2 (I2 x14∧μ3 x14 < μ3 y4))))) False) (((0:Int)=(((dF 0) a).1))∧(false=(((dF 0) a).2.1))∧SlQ a.1.1.length (((((dF 0) a).2.2).1).length) (gl aA a.1.1) (gl aA ((((dF 0) a).2.2).1)) (SlQ a.1.2.length (((((dF 0) a).2.2).2).length) (gl aD a.1.2) (gl aD ((((dF 0) a).2.2).2)) (True))))
def f301.vc (a:aC×ByteArray):Prop:=(∃ (I2:Int→Prop) (μ3:Int→Nat),I2 (0:Int)∧∀ y4:Int,I2 y4→((y4 < (a.1.1.length:Int)→((0:Int)≤y4∧y4 < (a.1.1.length:Int)∧(((at_ a.1.1 y4)=a.2→((0:Int)≤y4∧y4 < (a.1.2.length:Int)∧((at_ a.1.2 y4,true,a.1)=(dF 0) a)))∧(¬((at_ a.1.1 y4)=a.2)→(-9223372036854775808≤(y4+(1:Int))∧(y4+(1:Int))≤9223372036854775807∧(I2 (y4+(1:Int))∧μ3 (y4+(1:Int)) < μ3 y4))))))∧(¬(y4 < (a.1.1.length:Int))→(((0:Int),false,a.1)=(dF 0) a))))
theorem f301.of (a:aC×ByteArray) (h:f301.vc a):f301.tree a:=Exists.elim h (fun I2 h25_=>Exists.elim h25_ (fun μ3 h25=>⟨I2,μ3,⟨(0:Int),⟨rfl,⟨rfl,⟨rfl,SlS.mk  (SlS.mk  (h25.1))⟩⟩⟩⟩,fun y4 h27=>br (h25.2 y4 h27) Cnd.dec (fun h5 k23=>chk k23.2.2 Cnd.ix ⟨k23.1,k23.2.1⟩ (fun h7 k21=>br k21 Cnd.seq (fun h8 k19=>chk k19.2.2 Cnd.ix ⟨k19.1,k19.2.1⟩ (fun h10 k12=>⟨(congrArg (fun x:Int×Bool×aC=>x.1) k12 :),⟨(congrArg (fun x:Int×Bool×aC=>x.2.1) k12 :),slQ (Rds.to (rS aA) (congrArg (fun x:Int×Bool×aC=>x.2.2.1) k12 :)) (slQ (Rds.to (rS aD) (congrArg (fun x:Int×Bool×aC=>x.2.2.2) k12 :)) (trivial))⟩⟩)) (fun h9 k20=>wrapK.i64 k20 (fun h16 h17 k18=>⟨(y4+(1:Int)),⟨rfl,⟨rfl,⟨rfl,SlS.mk  (SlS.mk  (k18))⟩⟩⟩⟩)))) (fun h6 k24=>⟨(congrArg (fun x:Int×Bool×aC=>x.1) k24 :),⟨(congrArg (fun x:Int×Bool×aC=>x.2.1) k24 :),slQ (Rds.to (rS aA) (congrArg (fun x:Int×Bool×aC=>x.2.2.1) k24 :)) (slQ (Rds.to (rS aD) (congrArg (fun x:Int×Bool×aC=>x.2.2.2) k24 :)) (trivial))⟩⟩)⟩))
theorem f301.eq (a:aC×ByteArray):(f301.af a).gives f301.env (f301.args a) (f301.blks a) (f301.res a) (f301.blks' a)=f301.tree a:=by kernel_rfl
def f303.args (a:aC×Int):List D:=[.ptr 0 0,.int .i64 a.2]
def f303.blks (a:aC×Int):List (List D):=[[.slice .ro 1 a.1.1.length (gl aA a.1.1),.slice .ro 1 a.1.2.length (gl aD a.1.2)]]
def f303.res (a:aC×Int):List D:=[.slice .ro 1 (((dA a).1).length) (gl aA ((dA a).1))]
def f303.blks' (a:aC×Int):List (List D):=[[.slice .ro 1 ((((dA a).2).1).length) (gl aA (((dA a).2).1)),.slice .ro 1 ((((dA a).2).2).length) (gl aD (((dA a).2).2))]]
def f303.C:aQ:=FnC f303.args f303.blks (fun a=>iC a) f303.res f303.blks'
def f303.S0 (a:aC×Int) (x:(List (ByteArray))×Int):Tm:=⟨.ptr 0 0::.int .i64 a.2::.dead::.dead::.dead::.slice (.own 2) 1 x.1.length (gl aA x.1)::dd 6 (.int .i64 (a.1.1.length:Int)::.int .i64 x.2::dd 35 []),[(0,false,[.slice .ro 1 a.1.1.length (gl aA a.1.1),.slice .ro 1 a.1.2.length (gl aD a.1.2)])],[(2,1,x.1.length)]⟩
def f303.S1 (a:aC×Int) (x:(List (ByteArray))×Int×Int×(List (ByteArray))×(List (Int))):Tm:=⟨.ptr 0 0::.dead::.dead::.dead::.dead::.slice (.own 2) 1 x.1.length (gl aA x.1)::dd 31 (.int .i64 x.2.1::.int .i64 x.2.2.1::dd 10 []),[(0,false,[.slice .ro 1 x.2.2.2.1.length (gl aA x.2.2.2.1),.slice .ro 1 x.2.2.2.2.length (gl aD x.2.2.2.2)])],[(2,1,x.1.length)]⟩
def f303.kills (a:aC×Int):List Hint:=[.tell ((List (ByteArray))×Int) (f303.S0 a),
 .tell ((List (ByteArray))×Int×Int×(List (ByteArray))×(List (Int))) (f303.S1 a)]
def f303.cuts (a:aC×Int):List (Nat×Σ β:Type,β→Tm):=[]
def f303.af (a:aC×Int):AF:=AF.mk (.seq (.region [oT 4 1 (.nilSl 1) []])
 (.seq (.region [oT 5 2 (.nilSl 1) []])
 (.seq (.seq (.region [mT 8 3 0,
 oT 9 4 .nilCheck [8],
 oT 10 5 (.fieldAddr 0) [9],
 oT 11 6 (.load false 1) [10],
 oT 12 7 (.len false) [11],
 ⟨(some 13),8,.move,[.c (.int .i64 (0))],none⟩])
 (.block 0 (.loopT ((List (ByteArray))×Int) (f303.S0 a) 9 34 (.seq (.region [oT 14 9 (.bin .lss) [13,12]])
 (.seq (.cond (.t 14) (.skip) (.exit 0))
 (.seq (.block 1 (.seq (.region [mT 15 10 13,
 mT 6 11 15])
 (.seq (.region [mT 16 12 0,
 oT 17 13 .nilCheck [16],
 oT 18 14 (.fieldAddr 1) [17],
 oT 19 15 (.load false 1) [18],
 mT 20 16 6,
 oT 21 17 (.indexAddr 1 none) [19,20],
 oT 22 18 (.load false 1) [21],
 mT 23 19 1,
 oT 24 20 (.bin .lss) [22,23]])
 (.cond (.t 24) (.region [mT 25 21 5,
 mT 26 22 0,
 oT 27 23 .nilCheck [26],
 oT 28 24 (.fieldAddr 0) [27],
 oT 29 25 (.load false 1) [28],
 mT 30 26 6,
 oT 31 27 (.indexAddr 1 none) [29,30],
 oT 32 28 (.load false 1) [31],
 oT 33 29 (.buildSlice 1 1 [.str ByteArray.empty] [(0,1)]) [32],
 oT 34 30 (.append 1 16) [25,33],
 mT 5 31 34]) (.skip)))))
 (.region [⟨(some 35),32,(.bin .add),[.t 13,.c (.int .i64 (1))],none⟩,
 mT 13 33 35])))))))
 (.seq (.seq (.region [mT 36 34 5,
 oT 37 35 (.len false) [36],
 ⟨(some 38),36,.move,[.c (.int .i64 (0))],none⟩])
 (.block 2 (.loopT ((List (ByteArray))×Int×Int×(List (ByteArray))×(List (Int))) (f303.S1 a) 37 51 (.seq (.region [oT 39 37 (.bin .lss) [38,37]])
 (.seq (.cond (.t 39) (.skip) (.exit 2))
 (.seq (.block 3 (.seq (.region [mT 40 38 38,
 mT 7 39 40])
 (.region [mT 41 40 0,
 mT 42 41 5,
 mT 43 42 7,
 oT 44 43 (.indexAddr 1 none) [42,43],
 oT 45 44 (.load false 1) [44],
 oT 46 45 (.call true 299) [41,45]])))
 (.region [⟨(some 47),49,(.bin .add),[.t 38,.c (.int .i64 (1))],none⟩,
 mT 38 50 47])))))))
 (.seq (.region [mT 48 51 5,
 mT 4 52 48])
 (.ret))))))
 [.tmp 4] 1 47
def f303.env:Env:=[(299,f299.C)]
def f303.tree (a:aC×Int):Prop:=∃ (I2:((List (ByteArray))×Int)→Prop) (μ3:((List (ByteArray))×Int)→Nat),(∃ x1:(List (ByteArray))×Int,(a.2=a.2)∧SlQ 0 x1.1.length fA (gl aA x1.1) (((a.1.1.length:Int)=(a.1.1.length:Int))∧((0:Int)=x1.2)∧SlS aA a.1.1 (SlS aD a.1.2 ((0=x1.1.length)∧I2 x1))))∧∀ y4:(List (ByteArray))×Int,I2 y4→(Br (decide (y4.2 < (a.1.1.length:Int))) (Br (decide ((0:Int)≤y4.2)&&decide (y4.2 < (a.1.2.length:Int))) (Br (decide ((at_ a.1.2 y4.2) < a.2)) (Br (decide ((0:Int)≤y4.2)&&decide (y4.2 < (a.1.1.length:Int))) ((y4.1.length=y4.1.length∧iA ((y4.1.length+1) * 16))∧(Let (wI (y4.2+(1:Int))) (fun v11:Int=>∃ x12:(List (ByteArray))×Int,(a.2=a.2)∧SlQ (y4.1.length+1) x12.1.length (eF (gl aA y4.1) y4.1.length (fun _=>[.str (at_ a.1.1 y4.2)])) (gl aA x12.1) (((a.1.1.length:Int)=(a.1.1.length:Int))∧(v11=x12.2)∧SlS aA a.1.1 (SlS aD a.1.2 (((y4.1.length+1)=x12.1.length)∧I2 x12∧μ3 x12 < μ3 y4)))))) False) (Let (wI (y4.2+(1:Int))) (fun v18:Int=>∃ x19:(List (ByteArray))×Int,(a.2=a.2)∧SlQ y4.1.length x19.1.length (gl aA y4.1) (gl aA x19.1) (((a.1.1.length:Int)=(a.1.1.length:Int))∧(v18=x19.2)∧SlS aA a.1.1 (SlS aD a.1.2 ((y4.1.length=x19.1.length)∧I2 x19∧μ3 x19 < μ3 y4)))))) False) (∃ (I28:((List (ByteArray))×Int×Int×(List (ByteArray))×(List (Int)))→Prop) (μ29:((List (ByteArray))×Int×Int×(List (ByteArray))×(List (Int)))→Nat),(∃ x27:(List (ByteArray))×Int×Int×(List (ByteArray))×(List (Int)),SlQ y4.1.length x27.1.length (gl aA y4.1) (gl aA x27.1) (((y4.1.length:Int)=x27.2.1)∧((0:Int)=x27.2.2.1)∧SlQ a.1.1.length x27.2.2.2.1.length (gl aA a.1.1) (gl aA x27.2.2.2.1) (SlQ a.1.2.length x27.2.2.2.2.length (gl aD a.1.2) (gl aD x27.2.2.2.2) ((y4.1.length=x27.1.length)∧I28 x27))))∧∀ y30:(List (ByteArray))×Int×Int×(List (ByteArray))×(List (Int)),I28 y30→(Br (decide (y30.2.2.1 < y30.2.1)) (Br (decide ((0:Int)≤y30.2.2.1)&&decide (y30.2.2.1 < (y30.1.length:Int))) (∃ c34:aC×ByteArray,((at_ y30.1 y30.2.2.1)=c34.2)∧SlQ y30.2.2.2.1.length c34.1.1.length (gl aA y30.2.2.2.1) (gl aA c34.1.1) (SlQ y30.2.2.2.2.length c34.1.2.length (gl aD y30.2.2.2.2) (gl aD c34.1.2) ((cY c34)∧Let (wI (y30.2.2.1+(1:Int))) (fun v35:Int=>∃ x36:(List (ByteArray))×Int×Int×(List (ByteArray))×(List (Int)),SlQ y30.1.length x36.1.length (gl aA y30.1) (gl aA x36.1) ((y30.2.1=x36.2.1)∧(v35=x36.2.2.1)∧SlQ ((((cF c34).2).1).length) x36.2.2.2.1.length (gl aA (((cF c34).2).1)) (gl aA x36.2.2.2.1) (SlQ ((((cF c34).2).2).length) x36.2.2.2.2.length (gl aD (((cF c34).2).2)) (gl aD x36.2.2.2.2) ((y30.1.length=x36.1.length)∧I28 x36∧μ29 x36 < μ29 y30))))))) False) ((y30.1.length=y30.1.length)∧SlQ y30.1.length (((dA a).1).length) (gl aA y30.1) (gl aA ((dA a).1)) (SlQ y30.2.2.2.1.length ((((dA a).2).1).length) (gl aA y30.2.2.2.1) (gl aA (((dA a).2).1)) (SlQ y30.2.2.2.2.length ((((dA a).2).2).length) (gl aD y30.2.2.2.2) (gl aD (((dA a).2).2)) (True)))))))
def f303.vc (a:aC×Int):Prop:=(∃ (I2:((List (ByteArray))×Int)→Prop) (μ3:((List (ByteArray))×Int)→Nat),I2 ([],(0:Int))∧∀ y4:(List (ByteArray))×Int,I2 y4→((y4.2 < (a.1.1.length:Int)→((0:Int)≤y4.2∧y4.2 < (a.1.2.length:Int)∧(((at_ a.1.2 y4.2) < a.2→((0:Int)≤y4.2∧y4.2 < (a.1.1.length:Int)∧(y4.1.length+1≤1073741824∧(-9223372036854775808≤(y4.2+(1:Int))∧(y4.2+(1:Int))≤9223372036854775807∧(I2 (y4.1++([at_ a.1.1 y4.2]),(y4.2+(1:Int)))∧μ3 (y4.1++([at_ a.1.1 y4.2]),(y4.2+(1:Int))) < μ3 y4)))))∧(¬((at_ a.1.2 y4.2) < a.2)→(-9223372036854775808≤(y4.2+(1:Int))∧(y4.2+(1:Int))≤9223372036854775807∧(I2 (y4.1,(y4.2+(1:Int)))∧μ3 (y4.1,(y4.2+(1:Int))) < μ3 y4))))))∧(¬(y4.2 < (a.1.1.length:Int))→(∃ (I28:((List (ByteArray))×Int×Int×(List (ByteArray))×(List (Int)))→Prop) (μ29:((List (ByteArray))×Int×Int×(List (ByteArray))×(List (Int)))→Nat),I28 (y4.1,(y4.1.length:Int),(0:Int),a.1.1,a.1.2)∧∀ y30:(List (ByteArray))×Int×Int×(List (ByteArray))×(List (Int)),I28 y30→((y30.2.2.1 < y30.2.1→((0:Int)≤y30.2.2.1∧y30.2.2.1 < (y30.1.length:Int)∧(cY (y30.2.2.2,at_ y30.1 y30.2.2.1)∧(-9223372036854775808≤(y30.2.2.1+(1:Int))∧(y30.2.2.1+(1:Int))≤9223372036854775807∧(I28 (y30.1,y30.2.1,(y30.2.2.1+(1:Int)),((cF (y30.2.2.2,at_ y30.1 y30.2.2.1)).2).1,((cF (y30.2.2.2,at_ y30.1 y30.2.2.1)).2).2)∧μ29 (y30.1,y30.2.1,(y30.2.2.1+(1:Int)),((cF (y30.2.2.2,at_ y30.1 y30.2.2.1)).2).1,((cF (y30.2.2.2,at_ y30.1 y30.2.2.1)).2).2) < μ29 y30)))))∧(¬(y30.2.2.1 < y30.2.1)→((y30.1,y30.2.2.2)=dA a)))))))
theorem f303.of (a:aC×Int) (h:f303.vc a):f303.tree a:=Exists.elim h (fun I2 h51_=>Exists.elim h51_ (fun μ3 h51=>⟨I2,μ3,⟨([],(0:Int)),⟨rfl,slQ (Rds.nil (enc:=aA)) (⟨rfl,⟨rfl,SlS.mk  (SlS.mk  (⟨(a8 fA (Rds.nil (enc:=aA))),h51.1⟩))⟩⟩)⟩⟩,fun y4 h53=>br (h51.2 y4 h53) Cnd.dec (fun h5 k49=>chk k49.2.2 Cnd.ix ⟨k49.1,k49.2.1⟩ (fun h7 k26=>br k26 Cnd.dec (fun h8 k24=>chk k24.2.2 Cnd.ix ⟨k24.1,k24.2.1⟩ (fun h10 k17=>⟨⟨rfl,(d5 k17.1 (by decide))⟩,wrapK.i64 k17.2 (fun h14 h15 k16=>⟨(y4.1++([at_ a.1.1 y4.2]),(y4.2+(1:Int))),⟨rfl,slQ (Rds.app (enc:=aA) (rS aA) (Rds.one (enc:=aA) (DEqs.refl _))) (⟨rfl,⟨rfl,SlS.mk  (SlS.mk  (⟨(a8 (eF (gl aA y4.1) y4.1.length (fun _=>[.str (at_ a.1.1 y4.2)])) (Rds.app (enc:=aA) (rS aA) (Rds.one (enc:=aA) (DEqs.refl _)))),k16⟩))⟩⟩)⟩⟩)⟩)) (fun h9 k25=>wrapK.i64 k25 (fun h21 h22 k23=>⟨(y4.1,(y4.2+(1:Int))),⟨rfl,slQ (rS aA) (⟨rfl,⟨rfl,SlS.mk  (SlS.mk  (⟨(a8 (gl aA y4.1) (rS aA)),k23⟩))⟩⟩)⟩⟩)))) (fun h6 k50=>Exists.elim k50 (fun I28 h46_=>Exists.elim h46_ (fun μ29 h46=>⟨I28,μ29,⟨(y4.1,(y4.1.length:Int),(0:Int),a.1.1,a.1.2),slQ (rS aA) (⟨rfl,⟨rfl,slQ (rS aA) (slQ (rS aD) (⟨(a8 (gl aA y4.1) (rS aA)),h46.1⟩))⟩⟩)⟩,fun y30 h48=>br (h46.2 y30 h48) Cnd.dec (fun h31 k44=>chk k44.2.2 Cnd.ix ⟨k44.1,k44.2.1⟩ (fun h33 k42=>⟨(y30.2.2.2,at_ y30.1 y30.2.2.1),⟨rfl,slQ (rS aA) (slQ (rS aD) (⟨k42.1,wrapK.i64 k42.2 (fun h38 h39 k40=>⟨(y30.1,y30.2.1,(y30.2.2.1+(1:Int)),((cF (y30.2.2.2,at_ y30.1 y30.2.2.1)).2).1,((cF (y30.2.2.2,at_ y30.1 y30.2.2.1)).2).2),slQ (rS aA) (⟨rfl,⟨rfl,slQ (rS aA) (slQ (rS aD) (⟨(a8 (gl aA y30.1) (rS aA)),k40⟩))⟩⟩)⟩)⟩))⟩⟩)) (fun h32 k45=>⟨rfl,slQ (Rds.to (rS aA) (congrArg (fun x:(List (ByteArray))×aC=>x.1) k45 :)) (slQ (Rds.to (rS aA) (congrArg (fun x:(List (ByteArray))×aC=>x.2.1) k45 :)) (slQ (Rds.to (rS aD) (congrArg (fun x:(List (ByteArray))×aC=>x.2.2) k45 :)) (trivial)))⟩)⟩)))⟩))
theorem f303.eq (a:aC×Int):(f303.af a).gives f303.env (f303.args a) (f303.blks a) (f303.res a) (f303.blks' a)=f303.tree a:=by kernel_rfl
theorem f299.ok (a:Ps Int×ByteArray) (h:cY a):f299.vc a:=by
 obtain ⟨⟨ns,as⟩,k⟩:=a
 obtain ⟨h1,h2⟩:ns.length=as.length∧ns.length≤1048576:=h
 have hl:(pz (ns,as)).length=ns.length:=sE h1
 refine ⟨fun y=>0≤y.2.2∧y.2.2≤(ns.length:Int)∧(y.1,y.2.1)=pu (fQ ((pz (ns,as)).take y.2.2.toNat) k),fun y=>ns.length - y.2.2.toNat,⟨by simp only; omega,by simp only; omega,rfl⟩,fun y hy=>?_⟩
 obtain ⟨x,z,i⟩:=y
 obtain ⟨g0,g1,g2⟩:=hy
 simp only at g0 g1 g2
 obtain ⟨rfl,rfl⟩:=Prod.mk.inj g2
 have hx:(fQ ((pz (ns,as)).take i.toNat) k).length≤1048576:=Nat.le_trans (lZ _ _) (by rw [List.length_take]; omega)
 refine ⟨fun hlt=>?_,fun hge=>?_⟩
 ·simp only at hlt
  have hs:(pz (ns,as)).take (i+1).toNat=(pz (ns,as)).take i.toNat++[(at_ ns i,at_ as i)]:=by
   rw [show (i+1).toNat=i.toNat+1 by omega,oC (by omega),tZ h1,fZ,fZ]
  refine ⟨g0,hlt,fun c=>⟨g0,hlt,by simp only [List.length_map]; omega,g0,by simp only; omega,by simp only [List.length_map]; omega,by simp only; omega,by simp only; omega,⟨by simp only; omega,by simp only; omega,?_⟩,by simp only; omega⟩,fun c=>⟨by simp only; omega,by simp only; omega,⟨by simp only; omega,by simp only; omega,?_⟩,by simp only; omega⟩⟩
  ·simp only
   rw [hs,y2,if_pos c]
   simp [pu]
  ·simp only
   rw [hs,y2,if_neg c]
   rfl
 ·simp only at hge
  have:i.toNat=ns.length:=by omega
  simp only
  rw [this,List.take_of_length_le (by omega)]
  unfold cF
  refine Prod.ext ?_ rfl
  simp only [List.length_map]
  exact decide_eq_decide.2 Int.ofNat_lt
theorem f297.ok (a:Ps Int×ByteArray×Int) (h:kN a):f297.vc a:=by
 obtain ⟨⟨ns,as⟩,k,t⟩:=a
 obtain ⟨h1,h2⟩:ns.length=as.length∧ns.length≤1048576:=h
 have hl:(pz (ns,as)).length=ns.length:=sE h1
 let m:=fQ (pz (ns,as)) k
 have hm:m.length≤1048576:=Nat.le_trans (lZ _ _) (by omega)
 have e1:(m.map (·.1)).length=m.length:=List.length_map _
 have e2:(m.map (·.2)).length=m.length:=List.length_map _
 refine ⟨⟨h1,h2⟩,fun y=>0≤y.1∧y.1≤(m.length:Int)∧y.2.1=m.map (·.1)∧y.2.2=m.map (·.2)∧∀ j,j < y.1.toNat→slt (m.getD j default).1 k=true,fun y=>m.length - y.1.toNat,
  ⟨by simp only; omega,by simp only; omega,rfl,rfl,fun j hj=>absurd hj (Nat.not_lt_zero _)⟩,fun y hy=>?_⟩
 obtain ⟨i,x,z⟩:=y
 obtain ⟨g0,g1,g2,g3,g4⟩:=hy
 simp only at g0 g1 g2 g3 g4
 subst g2 g3
 have hat:(m.getD i.toNat default).1=at_ (m.map (·.1)) i:=by
  rw [fZ]
  by_cases hi:i.toNat < m.length
  ·simp [List.getD_eq_getElem?_getD,hi]
  ·simp [List.getD_eq_getElem?_getD,List.getElem?_eq_none (Nat.le_of_not_lt hi)]
   rfl
 have fin:(i.toNat=m.length∨slt (m.getD i.toNat default).1 k=false)→(((([]:List ByteArray)++(kE (m.map (·.1)) 0 i))++[k])++(kE (m.map (·.1)) i ((m.map (·.1)).length:Int)),((([]:List Int)++(kE (m.map (·.2)) 0 i))++[t])++(kE (m.map (·.2)) i ((m.map (·.2)).length:Int)))=fR ((ns,as),k,t):=fun hc=>by
  obtain ⟨w1,w2⟩:=xB (p:=fun y=>slt y.1 k) (m:=m) (i:=i.toNat) (by omega) g4 hc
  rw [aIL,aIL,aJT,aJT]
  show _=pu (aFL m k t)
  unfold aFL pu
  rw [w1,w2]
  simp [List.map_take,List.map_drop]
 refine ⟨fun hlt=>?_,fun hge=>?_⟩
 ·simp only [e1] at hlt
  refine ⟨g0,by simp only [e1]; omega,fun c=>⟨by simp only; omega,by simp only; omega,⟨by simp only; omega,by simp only; omega,rfl,rfl,fun j hj=>?_⟩,by simp only; omega⟩,fun c=>⟨g0,by simp only [e1]; omega,by simp only; omega,by simp only; omega,g0,by simp only [e1]; omega,by simp only [e1]; omega,g0,by simp only [e2]; omega,by simp only; omega,by simp only; omega,g0,by simp only [e2]; omega,by simp only [e2]; omega,fin (.inr ?_)⟩⟩
  ·simp only at hj
   by_cases he:j=i.toNat
   ·subst he
    rw [hat]
    exact c
   ·exact g4 j (by omega)
  ·rw [hat]
   exact Bool.eq_false_iff.2 c
 ·simp only [e1] at hge
  exact ⟨g0,by simp only [e1]; omega,by simp only; omega,by simp only; omega,g0,by simp only [e1]; omega,by simp only [e1]; omega,g0,by simp only [e2]; omega,by simp only; omega,by simp only; omega,g0,by simp only [e2]; omega,by simp only [e2]; omega,fin (.inl (by omega))⟩
theorem f301.ok (a:Ps Int×ByteArray) (h:cY a):f301.vc a:=by
 obtain ⟨⟨ns,as⟩,k⟩:=a
 obtain ⟨h1,h2⟩:ns.length=as.length∧ns.length≤1048576:=h
 have hl:(pz (ns,as)).length=ns.length:=sE h1
 have hat:∀ i:Nat,((pz (ns,as)).getD i default).1=ns.getD i default:=fun i=>by rw [tZ h1]
 refine ⟨fun y=>0≤y∧y≤(ns.length:Int)∧∀ j,j < y.toNat→((pz (ns,as)).getD j default).1≠k,fun y=>ns.length - y.toNat,⟨by omega,by omega,fun j hj=>absurd hj (Nat.not_lt_zero _)⟩,fun y hy=>?_⟩
 obtain ⟨g0,g1,g2⟩:=hy
 refine ⟨fun hlt=>?_,fun hge=>?_⟩
 ·simp only at hlt
  refine ⟨g0,hlt,fun c=>⟨g0,by simp only; omega,?_⟩,fun c=>⟨by omega,by omega,⟨by omega,by omega,fun j hj=>?_⟩,by simp only; omega⟩⟩
  ·unfold dF
   rw [aGY (l:=pz (ns,as)) (i:=y.toNat) (by omega) g2 (by rw [hat,← fZ]; exact c),tZ h1,← fZ,← fZ]
  ·by_cases he:j=y.toNat
   ·subst he
    rw [hat,← fZ]
    exact c
   ·exact g2 j (by omega)
 ·simp only at hge
  unfold dF
  rw [aLD (l:=pz (ns,as)) fun j hj=>g2 j (by omega)]
theorem zM (l:List (ByteArray×Int)) (now:Int) (a:ByteArray×Int):lF (l++[a]) now=if a.2 < now then lF l now++[a.1] else lF l now:=by
 unfold lF
 rw [List.filter_append,List.map_append]
 split
 ·rename_i h
  rw [List.filter_cons_of_pos (by simpa using h),List.filter_nil]
  rfl
 ·rename_i h
  rw [List.filter_cons_of_neg (by simpa using h),List.filter_nil]
  simp
theorem aGQ (l:List (ByteArray×Int)) (now:Int):(lF l now).length≤l.length:=by
 unfold lF
 rw [List.length_map]
 exact List.length_filter_le _ _
theorem f303.ok (a:Ps Int×Int) (h:iC a):f303.vc a:=by
 obtain ⟨⟨ns,as⟩,now⟩:=a
 obtain ⟨h1,h2⟩:ns.length=as.length∧ns.length≤1048576:=h
 have hl:(pz (ns,as)).length=ns.length:=sE h1
 refine ⟨fun y=>0≤y.2∧y.2≤(ns.length:Int)∧y.1=lF ((pz (ns,as)).take y.2.toNat) now,fun y=>ns.length - y.2.toNat,⟨by simp only; omega,by simp only; omega,rfl⟩,fun y hy=>?_⟩
 obtain ⟨x,i⟩:=y
 obtain ⟨g0,g1,g2⟩:=hy
 simp only at g0 g1 g2
 subst g2
 have hx:(lF ((pz (ns,as)).take i.toNat) now).length≤1048576:=Nat.le_trans (aGQ _ _) (by rw [List.length_take]; omega)
 refine ⟨fun hlt=>?_,fun hge=>?_⟩
 ·simp only at hlt
  have hs:(pz (ns,as)).take (i+1).toNat=(pz (ns,as)).take i.toNat++[(at_ ns i,at_ as i)]:=by
   rw [show (i+1).toNat=i.toNat+1 by omega,oC (by omega),tZ h1,fZ,fZ]
  refine ⟨g0,by simp only; omega,fun c=>⟨g0,hlt,by simp only; omega,by simp only; omega,by simp only; omega,⟨by simp only; omega,by simp only; omega,?_⟩,by simp only; omega⟩,fun c=>⟨by simp only; omega,by simp only; omega,⟨by simp only; omega,by simp only; omega,?_⟩,by simp only; omega⟩⟩
  ·simp only
   rw [hs,zM,if_pos c]
  ·simp only
   rw [hs,zM,if_neg c]
 ·simp only at hge
  have hi:i.toNat=ns.length:=by omega
  simp only
  rw [hi,List.take_of_length_le (by omega)] at hx ⊢
  let D:=lF (pz (ns,as)) now
  have hD:D.length≤1048576:=hx
  refine ⟨fun y=>y.1=D∧y.2.1=(D.length:Int)∧0≤y.2.2.1∧y.2.2.1≤(D.length:Int)∧(y.2.2.2.1,y.2.2.2.2)=pu ((D.take y.2.2.1.toNat).foldl fQ (pz (ns,as))),fun y=>D.length - y.2.2.1.toNat,
   ⟨rfl,rfl,by simp only; omega,by simp only; omega,(aMS h1).symm⟩,fun y hy=>?_⟩
  obtain ⟨u,n,j,x,z⟩:=y
  obtain ⟨k1,k2,k3,k4,k5⟩:=hy
  simp only at k1 k2 k3 k4 k5
  subst k1 k2
  obtain ⟨rfl,rfl⟩:=Prod.mk.inj k5
  refine ⟨fun hlt=>?_,fun hge=>?_⟩
  ·simp only at hlt
   have hq:((D.take j.toNat).foldl fQ (pz (ns,as))).length≤1048576:=Nat.le_trans (wJ _ _) (by omega)
   refine ⟨k3,hlt,aFZ hq,by simp only; omega,by simp only; omega,⟨rfl,rfl,by simp only; omega,by simp only; omega,?_⟩,by simp only; omega⟩
   simp only
   rw [show (j+1).toNat=j.toNat+1 by omega,oC (by omega),List.foldl_append]
   show pu (fQ (pz (pu ((D.take j.toNat).foldl fQ (pz (ns,as))))) (at_ D j))=_
   rw [aD4,fZ]
   rfl
  ·simp only at hge
   have:j.toNat=D.length:=by omega
   simp only
   rw [this,List.take_length]
   rfl
theorem kR {l:List (Int×Int×ByteArray)}:iL l=true↔l.length≤300∧∀ i,i < l.length→(l.getD i default).2.2.size≤1000:=by
 unfold iL
 simp only [Bool.and_eq_true,decide_eq_true_eq,List.all_eq_true,List.mem_range]
theorem sP {l:List (Int×Int×ByteArray)} (h:¬iL l=true):false=iL l:=(Bool.eq_false_iff.2 h).symm
theorem f294.ok (a:List (Int×Int×ByteArray)) (h:L20 a):f294.vc a:=by
 have h:a.length≤1048576:=h
 refine ⟨fun c=>sP fun hh=>by have:=(kR.1 hh).1; omega,fun c=>?_⟩
 refine ⟨fun y=>0≤y∧y≤(a.length:Int)∧(∀ i,i < y.toNat→(a.getD i default).2.2.size≤1000),fun y=>a.length - y.toNat,⟨by omega,by omega,fun i hi=>by simp at hi⟩,fun y hy=>?_⟩
 obtain ⟨g0,g1,g2⟩:=hy
 refine ⟨fun hlt=>?_,fun hge=>?_⟩
 ·refine ⟨g0,hlt,fun d=>sP fun hh=>?_,fun d=>⟨by omega,by omega,⟨by omega,by omega,fun i hi=>?_⟩,by simp only; omega⟩⟩
  ·have:=(kR.1 hh).2 y.toNat (by omega)
   rw [← fZ] at this
   omega
  ·by_cases he:i=y.toNat
   ·subst he
    rw [← fZ]
    omega
   ·exact g2 i (by omega)
 ·symm
  rw [kR]
  exact ⟨by omega,fun i hi=>g2 i (by omega)⟩
end Go.Abs
