/- Functions, and what the code asks of them: PBucketLaw3. -/
import Derived.KernelRfl
import Derived.Test.YtcmjinkfgbadoaaBucketMoreP4
import Derived.Test.YtcmjinkfgbadoaaBucketMoreP5
import Derived.Test.YtcmjinkfgbadoaaBucketMoreP6
import Derived.Test.YtcmjinkfgbadoaaBucketMoreP7
import Derived.Test.YtcmjinkfgbadoaaBucketMoreP8
import Derived.Test.YtcmjinkfgbadoaaBucketMoreP9
import Derived.Test.YtcmjinkfgbadoaaBucketMoreP10
import Derived.Test.YtcmjinkfgbadoaaBucketMoreP11
import Derived.Test.YtcmjinkfgbadoaaBucketMoreP12
import Derived.Test.YtcmjinkfgbadoaaBucketMoreP15
import Derived.Test.YtcmjinkfgbadoaaBucketMoreP16
import Derived.Test.YtcmjinkfgbadoaaBucketMoreP17
import Derived.Test.YtcmjinkfgbadoaaBucketMoreP18
import Derived.Test.YtcmjinkfgbadoaaBucketMoreP20
import Derived.Test.YtcmjinkfgbadoaaBucketMoreP21
import Derived.Test.YtcmjinkfgbadoaaBucketMoreP22
import Derived.Test.YtcmjinkfgbadoaaBucketMoreP23
import Derived.Test.YtcmjinkfgbadoaaBucketMoreP24
set_option maxRecDepth 100000
set_option maxHeartbeats 4000000
set_option linter.unusedVariables false
set_option linter.unusedSimpArgs false
set_option linter.unusedSectionVars false
-- interregnum/interregnumlaw17.BucketOrder
namespace Go.Abs
open Go
set_option linter.unusedVariables false
def f329.wf (a:(List (aF))×aC×aC):Prop:=bZ.ok a.1∧cP.ok a.2.1∧cP.ok a.2.2
def f329.size (a:(List (aF))×aC×aC):Nat:=bZ.size a.1+(cP.size a.2.1+(cP.size a.2.2))
def f329.lpre (a:(List (aF))×aC×aC):Prop:=f329.wf a∧f329.size a≤1048576
def f329.args (a:(List (aF))×aC×aC):List D:=[.slice .ro 5 a.1.length (gl a9 a.1),.agg [.int .i64 a.2.1.1,.int .i64 a.2.1.2.1,.int .i64 a.2.1.2.2],.agg [.int .i64 a.2.2.1,.int .i64 a.2.2.2.1,.int .i64 a.2.2.2.2]]
def f329.blks (a:(List (aF))×aC×aC):List (List D):=[]
def f329.res (a:(List (aF))×aC×aC):List D:=[.bool (cA a)]
def f329.blks' (a:(List (aF))×aC×aC):List (List D):=[]
def f329.C:aO:=FnC f329.args f329.blks (fun a=>f329.lpre a) f329.res f329.blks'
def f329.S0 (a:(List (aF))×aC×aC) (x:Int×(Nat×Ob aC)):Tm:=⟨.slice .ro 5 a.1.length (gl a9 a.1)::.dead::.dead::.dead::.ptr 0 0::.ptr 1 0::.dead::.ptr 21 0::dd 18 (.int .i64 (a.1.length:Int)::.int .i64 x.1::dd 61 []),[(0,false,[.int .i64 a.2.1.1,.int .i64 a.2.1.2.1,.int .i64 a.2.1.2.2]),(1,false,[.int .i64 a.2.2.1,.int .i64 a.2.2.2.1,.int .i64 a.2.2.2.2]),(21,false,[.dead,.obj 66 x.2.1 0 x.2.2.nl x.2.2.n x.2.2.ks (ovs aE x.2.2)])],[]⟩
def f329.S2 (a:(List (aF))×aC×aC) (x:(List (ByteArray))×(List (ByteArray))×Int×Int×Int):Tm:=⟨dd 10 (.slice .ro 1 x.1.length (gl aA x.1)::.slice .ro 1 x.2.1.length (gl aA x.2.1)::.int .i64 x.2.2.1::dd 50 (.int .i64 x.2.2.2.1::.int .i64 x.2.2.2.2::dd 24 [])),[],[]⟩
def f329.S3 (a:(List (aF))×aC×aC) (x:(List (ByteArray))×(List (ByteArray))×Int×Int×Int×Int):Tm:=⟨dd 10 (.slice .ro 1 x.1.length (gl aA x.1)::.slice .ro 1 x.2.1.length (gl aA x.2.1)::.int .i64 x.2.2.1::.int .i64 x.2.2.2.1::dd 49 (.int .i64 x.2.2.2.2.1::.int .i64 x.2.2.2.2.2::dd 24 [])),[],[]⟩
def f329.l2 (a:(List (aF))×aC×aC) (K:((List (ByteArray))×(List (ByteArray))×Int×Int×Int)→Prop) (t:(List (ByteArray))×(List (ByteArray))×Int×Int×Int):Prop:=∃ x:(List (ByteArray))×(List (ByteArray))×Int×Int×Int,SlQ t.1.length x.1.length (gl aA t.1) (gl aA x.1) (SlQ t.2.1.length x.2.1.length (gl aA t.2.1) (gl aA x.2.1) ((t.2.2.1=x.2.2.1)∧(t.2.2.2.1=x.2.2.2.1)∧(t.2.2.2.2=x.2.2.2.2)∧K x))
theorem f329.l2i (a:(List (aF))×aC×aC) {K:((List (ByteArray))×(List (ByteArray))×Int×Int×Int)→Prop} {t:(List (ByteArray))×(List (ByteArray))×Int×Int×Int} (h:K t):f329.l2 a K t:=⟨t,slQ (rS aA) (slQ (rS aA) (⟨rfl,⟨rfl,⟨rfl,h⟩⟩⟩))⟩
def f329.l3 (a:(List (aF))×aC×aC) (K:((List (ByteArray))×(List (ByteArray))×Int×Int×Int×Int)→Prop) (t:(List (ByteArray))×(List (ByteArray))×Int×Int×Int×Int):Prop:=∃ x:(List (ByteArray))×(List (ByteArray))×Int×Int×Int×Int,SlQ t.1.length x.1.length (gl aA t.1) (gl aA x.1) (SlQ t.2.1.length x.2.1.length (gl aA t.2.1) (gl aA x.2.1) ((t.2.2.1=x.2.2.1)∧(t.2.2.2.1=x.2.2.2.1)∧(t.2.2.2.2.1=x.2.2.2.2.1)∧(t.2.2.2.2.2=x.2.2.2.2.2)∧K x))
theorem f329.l3i (a:(List (aF))×aC×aC) {K:((List (ByteArray))×(List (ByteArray))×Int×Int×Int×Int)→Prop} {t:(List (ByteArray))×(List (ByteArray))×Int×Int×Int×Int} (h:K t):f329.l3 a K t:=⟨t,slQ (rS aA) (slQ (rS aA) (⟨rfl,⟨rfl,⟨rfl,⟨rfl,h⟩⟩⟩⟩))⟩
def f329.kills (a:(List (aF))×aC×aC):List Hint:=[.tell (Int×(Nat×Ob aC)) (f329.S0 a),
 .unroll 4 [0,1,2,3,6,8,9,10,11,12,13,14,15,16,17,18,19,20,21,22,23,24,25,26,27,28,29,30,31,32,33,34,35,36,37,38,39,40,41,42,44,45,46,47,48,49,50,51,52,53,54,55,56,57,58,59,60,61,62,63,64,65,66,67,68,69,70,71,72,73,74,75,76,77,78,79,80,81,82,83,84,85,86,87,88] [0,1,21] [],
 .tell ((List (ByteArray))×(List (ByteArray))×Int×Int×Int) (f329.S2 a),
 .tell ((List (ByteArray))×(List (ByteArray))×Int×Int×Int×Int) (f329.S3 a)]
def f329.cuts (a:(List (aF))×aC×aC):List (Nat×Σ β:Type,β→Tm):=[(3000007000004,⟨Unit,fun x=>⟨[],[],[]⟩⟩)]
def f329.af (a:(List (aF))×aC×aC):AF:=AF.mk (.seq (.region [oT 4 0 .box [1],
 oT 5 1 .box [2],
 ⟨(some 6),2,.move,[.c (.bool false)],none⟩])
 (.seq (.seq (.region [oT 14 3 (.call false 305) [],
 oT 15 7 (.un .not) [14],
 mT 16 8 15,
 oG 17 9 .move [0] 16 false,
 oG 18 10 (.call false 306) [17] 16 false,
 oG 19 14 (.un .not) [18] 16 false,
 ⟨(some 20),15,.pick,[.t 16,.c (.bool true),.t 19],none⟩])
 (.cond (.t 20) (.seq (.region [oT 21 16 (.call false 305) [],
 mT 6 20 21])
 (.ret)) (.skip)))
 (.seq (.region [oT 22 21 (.call false 143) [],
 mT 7 25 22])
 (.seq (.toObj 0 0 7) (.seq (.seq (.region [mT 23 26 7,
 oT 24 27 (.isNil true false) [23]])
 (.cond (.t 24) (.seq (.region [⟨(some 6),28,.move,[.c (.bool false)],none⟩])
 (.ret)) (.skip)))
 (.seq (.seq (.region [mT 25 29 0,
 oT 26 30 (.len false) [25],
 ⟨(some 27),31,.move,[.c (.int .i64 (0))],none⟩])
 (.block 0 (.loopT (Int×(Nat×Ob aC)) (f329.S0 a) 32 52 (.seq (.region [oT 28 32 (.bin .lss) [27,26]])
 (.seq (.cond (.t 28) (.skip) (.exit 0))
 (.seq (.block 1 (.seq (.region [mT 29 33 27,
 mT 8 34 29])
 (.region [mT 30 35 7,
 mT 31 36 0,
 mT 32 37 8,
 oT 33 38 (.indexAddr 5 none) [31,32],
 oT 34 39 (.fieldAddr 1) [33],
 oT 35 40 (.load false 1) [34],
 mT 36 41 0,
 mT 37 42 8,
 oT 38 43 (.indexAddr 5 none) [36,37],
 oT 39 44 (.fieldAddr 2) [38],
 oT 40 45 (.load true 3) [39],
 oT 41 46 (.call true 145) [30,35,40]])))
 (.region [⟨(some 42),50,(.bin .add),[.t 27,.c (.int .i64 (1))],none⟩,
 mT 27 51 42])))))))
 (.seq (.seq (.region [⟨(some 43),52,.move,[.c (.int .i64 (0))],none⟩])
 (.block 2 (.loop 4 [0,1,2,3,6,8,9,10,11,12,13,14,15,16,17,18,19,20,21,22,23,24,25,26,27,28,29,30,31,32,33,34,35,36,37,38,39,40,41,42,44,45,46,47,48,49,50,51,52,53,54,55,56,57,58,59,60,61,62,63,64,65,66,67,68,69,70,71,72,73,74,75,76,77,78,79,80,81,82,83,84,85,86,87,88] [0,1,21] [] 53 68 (.seq (.region [⟨(some 44),53,(.bin .lss),[.t 43,.c (.int .i64 (3))],none⟩])
 (.seq (.cond (.t 44) (.skip) (.exit 2))
 (.seq (.block 3 (.seq (.region [mT 45 54 43,
 mT 9 55 45])
 (.region [mT 46 56 9,
 mT 47 57 9,
 oT 48 58 (.indexAddr 1 (some 3)) [5,47],
 oT 49 59 (.load false 1) [48],
 mT 50 60 9,
 oT 51 61 (.indexAddr 1 (some 3)) [4,50],
 oT 52 62 (.load false 1) [51],
 oT 53 63 (.mnmx true) [49,52],
 oT 54 64 (.indexAddr 1 (some 3)) [5,46],
 ⟨none,65,(.store 1),[.t 54,.t 53],none⟩])))
 (.region [⟨(some 55),66,(.bin .add),[.t 43,.c (.int .i64 (1))],none⟩,
 mT 43 67 55])))))))
 (.seq (.orders [[mT 56 68 7,oT 57 69 (.load true 3) [4],oT 58 70 (.call true 148) [56,57],mT 59 74 7,oT 60 75 (.load true 3) [5],oT 61 76 (.call true 148) [59,60],mT 10 80 58,mT 11 81 61],
 [mT 56 68 7,oT 57 69 (.load true 3) [4],mT 59 74 7,oT 60 75 (.load true 3) [5],oT 58 70 (.call true 148) [56,57],oT 61 76 (.call true 148) [59,60],mT 10 80 58,mT 11 81 61]])
 (.seq (.region [⟨(some 12),82,.move,[.c (.int .i64 (0))],none⟩])
 (.seq (.seq (.region [mT 62 83 11,
 oT 63 84 (.len false) [62],
 ⟨(some 64),85,.move,[.c (.int .i64 (0))],none⟩])
 (.block 4 (.loopT ((List (ByteArray))×(List (ByteArray))×Int×Int×Int) (f329.S2 a) 86 114 (.seq (.region [oT 65 86 (.bin .lss) [64,63]])
 (.seq (.cond (.t 65) (.skip) (.exit 4))
 (.seq (.block 5 (.seq (.region [mT 66 87 64,
 mT 13 88 66])
 (.seq (.block 6 (.loopT ((List (ByteArray))×(List (ByteArray))×Int×Int×Int×Int) (f329.S3 a) 89 107 (.seq (.seq (.region [mT 67 89 12,
 mT 68 90 10,
 oT 69 91 (.len false) [68],
 oT 70 92 (.bin .lss) [67,69],
 mT 71 93 70,
 oG 72 94 .move [10] 71 true,
 oG 73 95 .move [12] 71 true,
 oG 74 96 (.indexAddr 1 none) [72,73] 71 true,
 oG 75 97 (.load false 1) [74] 71 true,
 oG 76 98 .move [11] 71 true,
 oG 77 99 .move [13] 71 true,
 oG 78 100 (.indexAddr 1 none) [76,77] 71 true,
 oG 79 101 (.load false 1) [78] 71 true,
 oG 80 102 (.bin .neq) [75,79] 71 true,
 ⟨(some 81),103,.pick,[.t 71,.t 80,.c (.bool false)],none⟩])
 (.cond (.t 81) (.skip) (.exit 6)))
 (.block 7 (.region [mT 82 104 12,
 ⟨(some 83),105,(.bin .add),[.t 82,.c (.int .i64 (1))],none⟩,
 mT 12 106 83])))))
 (.seq (.region [mT 84 107 12,
 mT 85 108 10,
 oT 86 109 (.len false) [85],
 oT 87 110 (.bin .eql) [84,86]])
 (.cond (.t 87) (.seq (.region [⟨(some 6),111,.move,[.c (.bool false)],none⟩])
 (.ret)) (.skip))))))
 (.region [⟨(some 88),112,(.bin .add),[.t 64,.c (.int .i64 (1))],none⟩,
 mT 64 113 88])))))))
 (.seq (.region [⟨(some 6),114,.move,[.c (.bool true)],none⟩])
 (.ret))))))))))))
 [.tmp 6] 0 86
def f329.env:Env:=[(305,f305.C),(306,f306.C),(143,f143.C),(145,f145.C),(148,f148.C)]
def f329.tree (a:(List (aF))×aC×aC):Prop:=∃ c1:Unit,True∧Br (!(cA c1)) (∃ c4:Unit,True∧((cA c4)=(cA a))∧True) (f306.ent (fun c7=>(L20 c7)∧Br (!(jX c7)) (∃ c10:Unit,True∧((cA c10)=(cA a))∧True) (∃ c13:Unit,True∧∃ (I15:(Int×(Nat×Ob aC))→Prop) (μ16:(Int×(Nat×Ob aC))→Nat),(∃ x14:Int×(Nat×Ob aC),SlS a9 a.1 (((a.1.length:Int)=(a.1.length:Int))∧((0:Int)=x14.1)∧(a.2.1.1=a.2.1.1)∧(a.2.1.2.1=a.2.1.2.1)∧(a.2.1.2.2=a.2.1.2.2)∧(a.2.2.1=a.2.2.1)∧(a.2.2.2.1=a.2.2.2.1)∧(a.2.2.2.2=a.2.2.2.2)∧ObQ 0 x14.2.1 (ob0 aC).nl x14.2.2.nl (ob0 aC).n x14.2.2.n (ob0 aC).ks x14.2.2.ks (fun _ _=>[]) (ovs aE x14.2.2) (I15 x14)))∧∀ y17:Int×(Nat×Ob aC),I15 y17→(Br (decide (y17.1 < (a.1.length:Int))) (Br (decide ((0:Int)≤y17.1)&&decide (y17.1 < (a.1.length:Int))) (Br (decide ((0:Int)≤y17.1)&&decide (y17.1 < (a.1.length:Int))) (∃ c22:(Ob aC)×ByteArray×aC,(((at_ a.1 y17.1).2.1)=c22.2.1)∧((((at_ a.1 y17.1).2.2).1)=c22.2.2.1)∧((((at_ a.1 y17.1).2.2).2.1)=c22.2.2.2.1)∧((((at_ a.1 y17.1).2.2).2.2)=c22.2.2.2.2)∧ObQ 0 0 y17.2.2.nl c22.1.nl y17.2.2.n c22.1.n y17.2.2.ks c22.1.ks (ovs aE y17.2.2) (ovs aE c22.1) (True∧Let (wI (y17.1+(1:Int))) (fun v23:Int=>∃ x24:Int×(Nat×Ob aC),SlS a9 a.1 (((a.1.length:Int)=(a.1.length:Int))∧(v23=x24.1)∧(a.2.1.1=a.2.1.1)∧(a.2.1.2.1=a.2.1.2.1)∧(a.2.1.2.2=a.2.1.2.2)∧(a.2.2.1=a.2.2.1)∧(a.2.2.2.1=a.2.2.2.1)∧(a.2.2.2.2=a.2.2.2.2)∧ObQ (y17.2.1+1) x24.2.1 (putX c22).nl x24.2.2.nl (putX c22).n x24.2.2.n (putX c22).ks x24.2.2.ks (ovs aE (putX c22)) (ovs aE x24.2.2) (I15 x24∧μ16 x24 < μ16 y17))))) False) False) ((∃ c32:(Ob aC)×aC,(a.2.1.1=c32.2.1)∧(a.2.1.2.1=c32.2.2.1)∧(a.2.1.2.2=c32.2.2.2)∧ObQ 0 0 y17.2.2.nl c32.1.nl y17.2.2.n c32.1.n y17.2.2.ks c32.1.ks (ovs aE y17.2.2) (ovs aE c32.1) ((eI c32)∧∃ c33:(Ob aC)×aC,((mx a.2.2.1 a.2.1.1)=c33.2.1)∧((mx a.2.2.2.1 a.2.1.2.1)=c33.2.2.1)∧((mx a.2.2.2.2 a.2.1.2.2)=c33.2.2.2)∧ObQ 0 0 ((bR c32).2).nl c33.1.nl ((bR c32).2).n c33.1.n ((bR c32).2).ks c33.1.ks (ovs aE ((bR c32).2)) (ovs aE c33.1) ((eI c33)∧∃ (I35:((List (ByteArray))×(List (ByteArray))×Int×Int×Int)→Prop) (μ36:((List (ByteArray))×(List (ByteArray))×Int×Int×Int)→Nat),(f329.l2 a I35 ((bR c32).1,(bR c33).1,(0:Int),(((bR c33).1).length:Int),(0:Int)))∧∀ y37:(List (ByteArray))×(List (ByteArray))×Int×Int×Int,I35 y37→(Br (decide (y37.2.2.2.2 < y37.2.2.2.1)) (∃ (I41:((List (ByteArray))×(List (ByteArray))×Int×Int×Int×Int)→Prop) (μ42:((List (ByteArray))×(List (ByteArray))×Int×Int×Int×Int)→Nat),(f329.l3 a I41 (y37.1,y37.2.1,y37.2.2.1,y37.2.2.2.2,y37.2.2.2.1,y37.2.2.2.2))∧∀ y43:(List (ByteArray))×(List (ByteArray))×Int×Int×Int×Int,I41 y43→(Br (decide (y43.2.2.1 < (y43.1.length:Int))) (Br (decide ((0:Int)≤y43.2.2.1)&&decide (y43.2.2.1 < (y43.1.length:Int))) (Br (decide ((0:Int)≤y43.2.2.2.1)&&decide (y43.2.2.2.1 < (y43.2.1.length:Int))) (Br (!((at_ y43.1 y43.2.2.1).toList==(at_ y43.2.1 y43.2.2.2.1).toList)) (Let (wI (y43.2.2.1+(1:Int))) (fun v50:Int=>f329.l3 a (Dn I41 μ42 y43) (y43.1,y43.2.1,v50,y43.2.2.2.1,y43.2.2.2.2.1,y43.2.2.2.2.2))) (Br (y43.2.2.1==(y43.1.length:Int)) ((false=(cA a))∧True) (Let (wI (y43.2.2.2.2.2+(1:Int))) (fun v59:Int=>f329.l2 a (Dn I35 μ36 y37) (y43.1,y43.2.1,y43.2.2.1,y43.2.2.2.2.1,v59))))) False) False) (Br (y43.2.2.1==(y43.1.length:Int)) ((false=(cA a))∧True) (Let (wI (y43.2.2.2.2.2+(1:Int))) (fun v74:Int=>f329.l2 a (Dn I35 μ36 y37) (y43.1,y43.2.1,y43.2.2.1,y43.2.2.2.2.1,v74)))))) ((true=(cA a))∧True)))))∧(∃ c32:(Ob aC)×aC,(a.2.1.1=c32.2.1)∧(a.2.1.2.1=c32.2.2.1)∧(a.2.1.2.2=c32.2.2.2)∧ObQ 0 0 y17.2.2.nl c32.1.nl y17.2.2.n c32.1.n y17.2.2.ks c32.1.ks (ovs aE y17.2.2) (ovs aE c32.1) ((eI c32)∧∃ c33:(Ob aC)×aC,((mx a.2.2.1 a.2.1.1)=c33.2.1)∧((mx a.2.2.2.1 a.2.1.2.1)=c33.2.2.1)∧((mx a.2.2.2.2 a.2.1.2.2)=c33.2.2.2)∧ObQ 0 0 ((bR c32).2).nl c33.1.nl ((bR c32).2).n c33.1.n ((bR c32).2).ks c33.1.ks (ovs aE ((bR c32).2)) (ovs aE c33.1) ((eI c33)∧∃ (I35:((List (ByteArray))×(List (ByteArray))×Int×Int×Int)→Prop) (μ36:((List (ByteArray))×(List (ByteArray))×Int×Int×Int)→Nat),(f329.l2 a I35 ((bR c32).1,(bR c33).1,(0:Int),(((bR c33).1).length:Int),(0:Int)))∧∀ y37:(List (ByteArray))×(List (ByteArray))×Int×Int×Int,I35 y37→(Br (decide (y37.2.2.2.2 < y37.2.2.2.1)) (∃ (I41:((List (ByteArray))×(List (ByteArray))×Int×Int×Int×Int)→Prop) (μ42:((List (ByteArray))×(List (ByteArray))×Int×Int×Int×Int)→Nat),(f329.l3 a I41 (y37.1,y37.2.1,y37.2.2.1,y37.2.2.2.2,y37.2.2.2.1,y37.2.2.2.2))∧∀ y43:(List (ByteArray))×(List (ByteArray))×Int×Int×Int×Int,I41 y43→(Br (decide (y43.2.2.1 < (y43.1.length:Int))) (Br (decide ((0:Int)≤y43.2.2.1)&&decide (y43.2.2.1 < (y43.1.length:Int))) (Br (decide ((0:Int)≤y43.2.2.2.1)&&decide (y43.2.2.2.1 < (y43.2.1.length:Int))) (Br (!((at_ y43.1 y43.2.2.1).toList==(at_ y43.2.1 y43.2.2.2.1).toList)) (Let (wI (y43.2.2.1+(1:Int))) (fun v50:Int=>f329.l3 a (Dn I41 μ42 y43) (y43.1,y43.2.1,v50,y43.2.2.2.1,y43.2.2.2.2.1,y43.2.2.2.2.2))) (Br (y43.2.2.1==(y43.1.length:Int)) ((false=(cA a))∧True) (Let (wI (y43.2.2.2.2.2+(1:Int))) (fun v59:Int=>f329.l2 a (Dn I35 μ36 y37) (y43.1,y43.2.1,y43.2.2.1,y43.2.2.2.2.1,v59))))) False) False) (Br (y43.2.2.1==(y43.1.length:Int)) ((false=(cA a))∧True) (Let (wI (y43.2.2.2.2.2+(1:Int))) (fun v74:Int=>f329.l2 a (Dn I35 μ36 y37) (y43.1,y43.2.1,y43.2.2.1,y43.2.2.2.2.1,v74)))))) ((true=(cA a))∧True))))))))) a.1)
def f329.vc (a:(List (aF))×aC×aC):Prop:=((¬((cA ())=true)→((cA ())=cA a))∧(¬(¬((cA ())=true))→(L20 a.1∧((¬((jX (a.1))=true)→((cA ())=cA a))∧(¬(¬((jX (a.1))=true))→(∃ (I15:(Int×(Nat×Ob aC))→Prop) (μ16:(Int×(Nat×Ob aC))→Nat),I15 ((0:Int),(0,ob0 aC))∧∀ y17:Int×(Nat×Ob aC),I15 y17→((y17.1 < (a.1.length:Int)→((0:Int)≤y17.1∧y17.1 < (a.1.length:Int)∧((0:Int)≤y17.1∧y17.1 < (a.1.length:Int)∧(-9223372036854775808≤(y17.1+(1:Int))∧(y17.1+(1:Int))≤9223372036854775807∧(I15 ((y17.1+(1:Int)),(y17.2.1+1,(putX (y17.2.2,(at_ a.1 y17.1).2.1,((at_ a.1 y17.1).2.2)))))∧μ16 ((y17.1+(1:Int)),(y17.2.1+1,(putX (y17.2.2,(at_ a.1 y17.1).2.1,((at_ a.1 y17.1).2.2))))) < μ16 y17)))))∧(¬(y17.1 < (a.1.length:Int))→(eI (y17.2.2,a.2.1)∧(eI ((bR (y17.2.2,a.2.1)).2,(mx a.2.2.1 a.2.1.1,mx a.2.2.2.1 a.2.1.2.1,mx a.2.2.2.2 a.2.1.2.2))∧(∃ (I35:((List (ByteArray))×(List (ByteArray))×Int×Int×Int)→Prop) (μ36:((List (ByteArray))×(List (ByteArray))×Int×Int×Int)→Nat),I35 ((bR (y17.2.2,a.2.1)).1,(bR ((bR (y17.2.2,a.2.1)).2,(mx a.2.2.1 a.2.1.1,mx a.2.2.2.1 a.2.1.2.1,mx a.2.2.2.2 a.2.1.2.2))).1,(0:Int),(((bR ((bR (y17.2.2,a.2.1)).2,(mx a.2.2.1 a.2.1.1,mx a.2.2.2.1 a.2.1.2.1,mx a.2.2.2.2 a.2.1.2.2))).1).length:Int),(0:Int))∧∀ y37:(List (ByteArray))×(List (ByteArray))×Int×Int×Int,I35 y37→((y37.2.2.2.2 < y37.2.2.2.1→(∃ (I41:((List (ByteArray))×(List (ByteArray))×Int×Int×Int×Int)→Prop) (μ42:((List (ByteArray))×(List (ByteArray))×Int×Int×Int×Int)→Nat),I41 (y37.1,y37.2.1,y37.2.2.1,y37.2.2.2.2,y37.2.2.2.1,y37.2.2.2.2)∧∀ y43:(List (ByteArray))×(List (ByteArray))×Int×Int×Int×Int,I41 y43→((y43.2.2.1 < (y43.1.length:Int)→((0:Int)≤y43.2.2.1∧y43.2.2.1 < (y43.1.length:Int)∧((0:Int)≤y43.2.2.2.1∧y43.2.2.2.1 < (y43.2.1.length:Int)∧((¬((at_ y43.1 y43.2.2.1)=(at_ y43.2.1 y43.2.2.2.1))→(-9223372036854775808≤(y43.2.2.1+(1:Int))∧(y43.2.2.1+(1:Int))≤9223372036854775807∧(I41 (y43.1,y43.2.1,(y43.2.2.1+(1:Int)),y43.2.2.2.1,y43.2.2.2.2.1,y43.2.2.2.2.2)∧μ42 (y43.1,y43.2.1,(y43.2.2.1+(1:Int)),y43.2.2.2.1,y43.2.2.2.2.1,y43.2.2.2.2.2) < μ42 y43)))∧(¬(¬((at_ y43.1 y43.2.2.1)=(at_ y43.2.1 y43.2.2.2.1)))→((y43.2.2.1=(y43.1.length:Int)→(false=cA a))∧(¬(y43.2.2.1=(y43.1.length:Int))→(-9223372036854775808≤(y43.2.2.2.2.2+(1:Int))∧(y43.2.2.2.2.2+(1:Int))≤9223372036854775807∧(I35 (y43.1,y43.2.1,y43.2.2.1,y43.2.2.2.2.1,(y43.2.2.2.2.2+(1:Int)))∧μ36 (y43.1,y43.2.1,y43.2.2.1,y43.2.2.2.2.1,(y43.2.2.2.2.2+(1:Int))) < μ36 y37)))))))))∧(¬(y43.2.2.1 < (y43.1.length:Int))→((y43.2.2.1=(y43.1.length:Int)→(false=cA a))∧(¬(y43.2.2.1=(y43.1.length:Int))→(-9223372036854775808≤(y43.2.2.2.2.2+(1:Int))∧(y43.2.2.2.2.2+(1:Int))≤9223372036854775807∧(I35 (y43.1,y43.2.1,y43.2.2.1,y43.2.2.2.2.1,(y43.2.2.2.2.2+(1:Int)))∧μ36 (y43.1,y43.2.1,y43.2.2.1,y43.2.2.2.2.1,(y43.2.2.2.2.2+(1:Int))) < μ36 y37))))))))∧(¬(y37.2.2.2.2 < y37.2.2.2.1)→(true=cA a))))))))))))))
theorem f329.of (a:(List (aF))×aC×aC) (h:f329.vc a):f329.tree a:=⟨(),⟨trivial,br h (Cnd.not Cnd.b) (fun h2 k104=>⟨(),⟨trivial,⟨k104,trivial⟩⟩⟩) (fun h3 k105=>(f306.ei ⟨k105.1,br k105.2 (Cnd.not Cnd.b) (fun h8 k101=>⟨(),⟨trivial,⟨k101,trivial⟩⟩⟩) (fun h9 k102=>⟨(),⟨trivial,Exists.elim k102 (fun I15 h97_=>Exists.elim h97_ (fun μ16 h97=>⟨I15,μ16,⟨((0:Int),(0,ob0 aC)),SlS.mk  (⟨rfl,⟨rfl,⟨rfl,⟨rfl,⟨rfl,⟨rfl,⟨rfl,⟨rfl,obQ rfl (OV.zero (e:=aE)) rfl (h97.1)⟩⟩⟩⟩⟩⟩⟩⟩)⟩,fun y17 h99=>br (h97.2 y17 h99) Cnd.dec (fun h18 k95=>chk k95.2.2 Cnd.ix ⟨k95.1,k95.2.1⟩ (fun h20 k31=>chk k31.2.2 Cnd.ix ⟨k31.1,k31.2.1⟩ (fun h21 k30=>⟨(y17.2.2,(at_ a.1 y17.1).2.1,((at_ a.1 y17.1).2.2)),⟨rfl,⟨rfl,⟨rfl,⟨rfl,obQ rfl (OV.self (e:=aE)) rfl (⟨trivial,wrapK.i64 k30 (fun h26 h27 k28=>⟨((y17.1+(1:Int)),(y17.2.1+1,(putX (y17.2.2,(at_ a.1 y17.1).2.1,((at_ a.1 y17.1).2.2))))),SlS.mk  (⟨rfl,⟨rfl,⟨rfl,⟨rfl,⟨rfl,⟨rfl,⟨rfl,⟨rfl,obQ rfl (OV.self (e:=aE)) rfl (k28)⟩⟩⟩⟩⟩⟩⟩⟩)⟩)⟩)⟩⟩⟩⟩⟩))) (fun h19 k96=>⟨⟨(y17.2.2,a.2.1),⟨rfl,⟨rfl,⟨rfl,obQ rfl (OV.self (e:=aE)) rfl (⟨k96.1,⟨((bR (y17.2.2,a.2.1)).2,(mx a.2.2.1 a.2.1.1,mx a.2.2.2.1 a.2.1.2.1,mx a.2.2.2.2 a.2.1.2.2)),⟨rfl,⟨rfl,⟨rfl,obQ rfl (OV.self (e:=aE)) rfl (⟨k96.2.1,Exists.elim k96.2.2 (fun I35 h90_=>Exists.elim h90_ (fun μ36 h90=>⟨I35,μ36,(f329.l2i a h90.1),fun y37 h92=>br (h90.2 y37 h92) Cnd.dec (fun h38 k88=>Exists.elim k88 (fun I41 h84_=>Exists.elim h84_ (fun μ42 h84=>⟨I41,μ42,(f329.l3i a h84.1),fun y43 h86=>br (h84.2 y43 h86) Cnd.dec (fun h44 k82=>chk k82.2.2 Cnd.ix ⟨k82.1,k82.2.1⟩ (fun h46 k70=>chk k70.2.2 Cnd.ix ⟨k70.1,k70.2.1⟩ (fun h47 k69=>br k69 (Cnd.not Cnd.seq) (fun h48 k67=>wrapK.i64 k67 (fun h53 h54 k55=>(f329.l3i a k55))) (fun h49 k68=>br k68 Cnd.eq (fun h56 k65=>⟨k65,trivial⟩) (fun h57 k66=>wrapK.i64 k66 (fun h62 h63 k64=>(f329.l2i a k64))))))) (fun h45 k83=>br k83 Cnd.eq (fun h71 k80=>⟨k80,trivial⟩) (fun h72 k81=>wrapK.i64 k81 (fun h77 h78 k79=>(f329.l2i a k79))))⟩))) (fun h39 k89=>⟨k89,trivial⟩)⟩))⟩)⟩⟩⟩⟩⟩)⟩⟩⟩⟩,⟨(y17.2.2,a.2.1),⟨rfl,⟨rfl,⟨rfl,obQ rfl (OV.self (e:=aE)) rfl (⟨k96.1,⟨((bR (y17.2.2,a.2.1)).2,(mx a.2.2.1 a.2.1.1,mx a.2.2.2.1 a.2.1.2.1,mx a.2.2.2.2 a.2.1.2.2)),⟨rfl,⟨rfl,⟨rfl,obQ rfl (OV.self (e:=aE)) rfl (⟨k96.2.1,Exists.elim k96.2.2 (fun I35 h90_=>Exists.elim h90_ (fun μ36 h90=>⟨I35,μ36,(f329.l2i a h90.1),fun y37 h92=>br (h90.2 y37 h92) Cnd.dec (fun h38 k88=>Exists.elim k88 (fun I41 h84_=>Exists.elim h84_ (fun μ42 h84=>⟨I41,μ42,(f329.l3i a h84.1),fun y43 h86=>br (h84.2 y43 h86) Cnd.dec (fun h44 k82=>chk k82.2.2 Cnd.ix ⟨k82.1,k82.2.1⟩ (fun h46 k70=>chk k70.2.2 Cnd.ix ⟨k70.1,k70.2.1⟩ (fun h47 k69=>br k69 (Cnd.not Cnd.seq) (fun h48 k67=>wrapK.i64 k67 (fun h53 h54 k55=>(f329.l3i a k55))) (fun h49 k68=>br k68 Cnd.eq (fun h56 k65=>⟨k65,trivial⟩) (fun h57 k66=>wrapK.i64 k66 (fun h62 h63 k64=>(f329.l2i a k64))))))) (fun h45 k83=>br k83 Cnd.eq (fun h71 k80=>⟨k80,trivial⟩) (fun h72 k81=>wrapK.i64 k81 (fun h77 h78 k79=>(f329.l2i a k79))))⟩))) (fun h39 k89=>⟨k89,trivial⟩)⟩))⟩)⟩⟩⟩⟩⟩)⟩⟩⟩⟩⟩)⟩))⟩⟩)⟩))⟩⟩
theorem f329.eq (a:(List (aF))×aC×aC):(f329.af a).gives f329.env (f329.args a) (f329.blks a) (f329.res a) (f329.blks' a)=f329.tree a:=by kernel_rfl
def aDW:List (Int×ByteArray×Rs3)→ByteArray→Option Rs3
 | [],_=>none
 | x::s,k=>match aDW s k with
  | some a=>some a
  | none=>if x.2.1=k then some x.2.2 else none
theorem aEO (s:List (Int×ByteArray×Rs3)) (x:Int×ByteArray×Rs3) (k:ByteArray):aDW (s++[x]) k=if x.2.1=k then some x.2.2 else aDW s k:=by
 induction s with
 | nil=>rfl
 | cons y s ih =>
  simp only [List.cons_append,aDW,ih]
  by_cases h:x.2.1=k <;> simp [h]
def IsLast (l:List (ByteArray×Rs3)) (s:List (Int×ByteArray×Rs3)):Prop:=∀ k x,(k,x)∈l↔aDW s k=some x
theorem IsLast.nil:IsLast [] []:=fun k x=>⟨fun h=>(by cases h),fun h=>(by cases h)⟩
theorem IsLast.put {l:List (ByteArray×Rs3)} {s:List (Int×ByteArray×Rs3)} (h:IsLast l s) (x:Int×ByteArray×Rs3):IsLast (uS l x.2.1 x.2.2) (s++[x]):=fun k y=>by
 rw [rC,aEO,h k y]
 by_cases e:x.2.1=k
 ·rw [if_pos e]
  constructor
  ·rintro (⟨_,rfl⟩ | ⟨h1,_⟩)
   ·rfl
   ·exact absurd e.symm h1
  ·intro hh
   exact .inl ⟨e.symm,(Option.some.inj hh).symm⟩
 ·rw [if_neg e]
  constructor
  ·rintro (⟨rfl,_⟩ | ⟨_,h2⟩)
   ·exact absurd rfl e
   ·exact h2
  ·intro hh
   exact .inr ⟨fun e'=>e e'.symm,hh⟩
theorem yY {l:List (ByteArray×Rs3)} {x:Rs3} {k:ByteArray}:k∈jT l x↔∃ y,(k,y)∈l∧dW (x,y)=true:=by
 unfold jT
 rw [List.mem_map]
 constructor
 ·rintro ⟨⟨k',y⟩,h,rfl⟩
  obtain ⟨h1,h2⟩:=List.mem_filter.1 h
  exact ⟨y,h1,h2⟩
 ·rintro ⟨y,h1,h2⟩
  exact ⟨(k,y),List.mem_filter.2 ⟨h1,h2⟩,rfl⟩
theorem q7 {l:List (ByteArray×Rs3)} (h:Rising l) (x:Rs3):(jT l x).Pairwise fun x y=>slt x y=true:=Rising.names (List.Pairwise.filter _ h)
theorem y9 {l:List ByteArray} (h:l.Pairwise fun x y=>slt x y=true) {i j:Nat} (hij:i < j) (hj:j < l.length):slt (l.getD i default) (l.getD j default)=true:=by
 rw [lU (by omega),lU hj]
 exact List.pairwise_iff_getElem.1 h i j (by omega) hj hij
theorem aHC {a m x:Rs3} (h:dW ((mx m.1 a.1,mx m.2.1 a.2.1,mx m.2.2 a.2.2),x)=true):dW (a,x)=true:=by
 rw [aD7] at h ⊢
 have hm:∀ u v:Int,v≤mx u v:=fun u v=>by
  unfold mx
  by_cases h:u < v <;> simp [h] <;> omega
 have h1:=hm m.1 a.1
 have h2:=hm m.2.1 a.2.1
 have h3:=hm m.2.2 a.2.2
 simp only at h
 omega
theorem f329.ok (a:List (Int×ByteArray×Rs3)×Rs3×Rs3) (h:f329.lpre a):f329.vc a:=by
 obtain ⟨s,q,e⟩:=a
 have hs:bZ.size s+((1+(1+1)+1)+(1+(1+1)+1))≤1048576:=h.2
 have hsz:s.length≤1048576:=aA7 (by omega)
 have hwf:=aKY h.1.1
 refine ⟨fun c=>absurd rfl c,fun _=>⟨hsz,fun _=>rfl,fun hf=>?_⟩⟩
 have hf:=(oP.1 (Classical.not_not.1 hf)).1
 simp only at hf
 refine ⟨fun y=>0≤y.1∧y.1≤(s.length:Int)∧∃ l,Rep spB y.2.2 l∧Rg l∧l.length≤y.1.toNat,fun y=>s.length - y.1.toNat,
  ⟨by simp only; omega,by simp only; omega,[],Rep.zero,Rg.nil,Nat.zero_le _⟩,fun y hy=>?_⟩
 obtain ⟨i,c0,o⟩:=y
 obtain ⟨g0,g1,l,r,rg,hl⟩:=hy
 simp only at g0 g1 hl r
 refine ⟨fun hlt=>?_,fun hge=>?_⟩
 ·simp only at hlt
  have hi:(i+1).toNat=i.toNat+1:=by omega
  exact ⟨g0,hlt,g0,hlt,by simp only; omega,by simp only; omega,⟨by simp only; omega,by simp only; omega,_,r.putX _ _,rg.put _ (hwf _ (aIF g0 hlt)),by simp only [hi]; exact Nat.le_trans (aLP _ _ _) (by omega)⟩,by simp only; omega⟩
 have hl3:l.length≤300:=by omega
 have E1:(bR (o,q)).1=jT l q:=r.atLe rg q
 have E2:(bR ((bR (o,q)).2,(mx e.1 q.1,mx e.2.1 q.2.1,mx e.2.2 q.2.2))).1=jT l (mx e.1 q.1,mx e.2.1 q.2.1,mx e.2.2 q.2.2):=r.atLe rg _
 have hsub:∀ k∈jT l (mx e.1 q.1,mx e.2.1 q.2.1,mx e.2.2 q.2.2),k∈jT l q:=fun k hk=>by
  obtain ⟨y,h1,h2⟩:=yY.1 hk
  exact yY.2 ⟨y,h1,aHC h2⟩
 have hr1:=q7 r.ris q
 have hr2:=q7 r.ris (mx e.1 q.1,mx e.2.1 q.2.1,mx e.2.2 q.2.2)
 have hn1:=aCE l q
 have hn2:=aCE l (mx e.1 q.1,mx e.2.1 q.2.1,mx e.2.2 q.2.2)
 refine ⟨r.atLePre (by omega) _,r.atLePre (by omega) _,?_⟩
 generalize hD1:jT l q=D at *
 generalize hD2:jT l (mx e.1 q.1,mx e.2.1 q.2.1,mx e.2.2 q.2.2)=M at *
 refine ⟨fun y=>y.1=D∧y.2.1=M∧0≤y.2.2.1∧y.2.2.1≤(D.length:Int)∧y.2.2.2.1=(M.length:Int)∧0≤y.2.2.2.2∧y.2.2.2.2≤(M.length:Int)∧(y.2.2.2.2 < (M.length:Int)→∀ j,j < y.2.2.1.toNat→slt (D.getD j default) (at_ M y.2.2.2.2)=true),fun y=>M.length - y.2.2.2.2.toNat,
  ⟨E1,E2,by simp only; omega,by simp only; omega,congrArg (fun z:List ByteArray=>(z.length:Int)) E2,by simp only; omega,by simp only; omega,fun _ j hj=>absurd hj (Nat.not_lt_zero _)⟩,fun y hy=>?_⟩
 obtain ⟨u,v,p,n,b⟩:=y
 obtain ⟨m1,m2,m3,m4,m5,m6,m7,m8⟩:=hy
 simp only at m1 m2 m3 m4 m5 m6 m7 m8
 subst m1 m2 m5
 refine ⟨fun hlt=>?_,fun _=>rfl⟩
 simp only at hlt
 have hmem:=hsub _ (aIF m6 hlt)
 obtain ⟨w,hw,ew⟩:=List.mem_iff_getElem.1 hmem
 have ew:u.getD w default=at_ v b:=by rw [lU hw]; exact ew
 refine ⟨fun y=>y.1=u∧y.2.1=v∧0≤y.2.2.1∧y.2.2.1≤(u.length:Int)∧y.2.2.2.1=b∧y.2.2.2.2.1=(v.length:Int)∧y.2.2.2.2.2=b∧(∀ j,j < y.2.2.1.toNat→slt (u.getD j default) (at_ v b)=true),fun y=>u.length - y.2.2.1.toNat,
  ⟨rfl,rfl,m3,m4,rfl,rfl,rfl,m8 hlt⟩,fun y hy=>?_⟩
 obtain ⟨u1,v1,p1,b1,n1,b2⟩:=y
 obtain ⟨k1,k2,k3,k4,k5,k6,k7,k8⟩:=hy
 simp only at k1 k2 k3 k4 k5 k6 k7 k8
 subst k1 k2 k5 k6
 subst k7
 have hw2:p1.toNat≤w:=Nat.le_of_not_lt fun hh=>by
  have:=k8 w hh
  rw [ew,oN] at this
  cases this
 refine ⟨fun hlt2=>?_,fun hge2=>?_⟩
 ·simp only at hlt2
  refine ⟨k3,hlt2,m6,hlt,fun hc=>⟨by simp only; omega,by simp only; omega,⟨rfl,rfl,by simp only; omega,by simp only; omega,rfl,rfl,rfl,fun j hj=>?_⟩,by simp only; omega⟩,fun hc=>⟨fun hh=>absurd hh (by simp only; omega),fun _=>⟨by simp only; omega,by simp only; omega,⟨rfl,rfl,k3,by simp only; omega,rfl,by simp only; omega,by simp only; omega,fun hb j hj=>?_⟩,by simp only; omega⟩⟩⟩
  ·simp only at hj hc
   by_cases hjp:j < p1.toNat
   ·exact k8 j hjp
   ·have hje:j=p1.toNat:=by omega
    have hne:p1.toNat≠w:=fun he=>hc (by rw [pZ u1,he]; exact ew)
    rw [hje,← ew]
    exact y9 hr1 (by omega) hw
  ·simp only at hj hb ⊢
   refine oX (k8 j hj) ?_
   rw [pZ,pZ]
   exact y9 hr2 (by omega) (by omega)
 ·simp only at hge2
  exact absurd hw (by omega)
end Go.Abs
