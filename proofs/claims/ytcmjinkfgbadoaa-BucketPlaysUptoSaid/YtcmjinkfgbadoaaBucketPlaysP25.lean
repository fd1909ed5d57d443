/- Functions, and what the code asks of them: PBucketLaw2. -/
import Derived.KernelRfl
import Derived.Test.YtcmjinkfgbadoaaBucketPlaysP4
import Derived.Test.YtcmjinkfgbadoaaBucketPlaysP5
import Derived.Test.YtcmjinkfgbadoaaBucketPlaysP6
import Derived.Test.YtcmjinkfgbadoaaBucketPlaysP7
import Derived.Test.YtcmjinkfgbadoaaBucketPlaysP8
import Derived.Test.YtcmjinkfgbadoaaBucketPlaysP9
import Derived.Test.YtcmjinkfgbadoaaBucketPlaysP10
import Derived.Test.YtcmjinkfgbadoaaBucketPlaysP11
import Derived.Test.YtcmjinkfgbadoaaBucketPlaysP12
import Derived.Test.YtcmjinkfgbadoaaBucketPlaysP15
import Derived.Test.YtcmjinkfgbadoaaBucketPlaysP16
import Derived.Test.YtcmjinkfgbadoaaBucketPlaysP17
import Derived.Test.YtcmjinkfgbadoaaBucketPlaysP18
import Derived.Test.YtcmjinkfgbadoaaBucketPlaysP20
import Derived.Test.YtcmjinkfgbadoaaBucketPlaysP21
import Derived.Test.YtcmjinkfgbadoaaBucketPlaysP22
import Derived.Test.YtcmjinkfgbadoaaBucketPlaysP23
import Derived.Test.YtcmjinkfgbadoaaBucketPlaysP24
set_option maxRecDepth 100000
set_option maxHeartbeats 4000000
set_option linter.unusedVariables false
set_option linter.unusedSimpArgs false
set_option linter.unusedSectionVars false
-- interregnum/interregnumlaw17.BucketPlays
namespace Go.Abs
open Go
def f273.wf (a:(List (aF))×Bool):Prop:=b9.ok a.1∧aGF.ok a.2
def f273.size (a:(List (aF))×Bool):Nat:=b9.size a.1+aGF.size a.2
def f273.lpre (a:(List (aF))×Bool):Prop:=f273.wf a∧f273.size a≤1048576
def f273.args (a:(List (aF))×Bool):List D:=[.slice .ro 5 a.1.length (gl aH a.1),.bool a.2]
def f273.blks (a:(List (aF))×Bool):List (List D):=[]
def f273.res (a:(List (aF))×Bool):List D:=[.bool (aT a)]
def f273.blks' (a:(List (aF))×Bool):List (List D):=[]
def f273.C:aQ:=FnC f273.args f273.blks (fun a=>f273.lpre a) f273.res f273.blks'
set_option linter.unusedVariables false
def f273t.S0 (a:List (aF)) (x:Int×(List (ByteArray))×(List (aB))×(Nat×Ob aB)):Tm:=⟨.slice .ro 5 a.length (gl aH a)::.dead::.dead::.dead::.dead::.ptr 29 0::.ptr 24 0::dd 23 (.int .i64 (a.length:Int)::.int .i64 x.1::dd 78 []),[(24,false,[.slice .ro 1 x.2.1.length (gl aA x.2.1),.slice .ro 3 x.2.2.1.length (gl aC x.2.2.1)]),(29,false,[.dead,.obj 66 x.2.2.2.1 0 x.2.2.2.2.nl x.2.2.2.2.n x.2.2.2.2.ks (ovs aC x.2.2.2.2)])],[]⟩
def f273t.kills (a:List (aF)):List Hint:=[.tell (Int×(List (ByteArray))×(List (aB))×(Nat×Ob aB)) (f273t.S0 a)]
def f273t.cuts (a:List (aF)):List (Nat×Σ β:Type,β→Tm):=[(3000005000005,⟨Unit,fun x=>⟨[],[],[]⟩⟩),
 (100017,⟨Int×(List (ByteArray))×(List (aB))×(Nat×Ob aB),fun x=>⟨.slice .ro 5 a.length (gl aH a)::.dead::.dead::.dead::.dead::.ptr 29 0::.ptr 24 0::dd 23 (.int .i64 (a.length:Int)::.int .i64 x.1::dd 78 []),[(24,false,[.slice .ro 1 x.2.1.length (gl aA x.2.1),.slice .ro 3 x.2.2.1.length (gl aC x.2.2.1)]),(29,false,[.dead,.obj 66 x.2.2.2.1 0 x.2.2.2.2.nl x.2.2.2.2.n x.2.2.2.2.ks (ovs aC x.2.2.2.2)])],[]⟩⟩)]
def f273t.af (a:List (aF)):AF:=AF.mk (.seq (.region [⟨(some 4),0,.move,[.c (.bool false)],none⟩])
 (.seq (.seq (.region [oT 13 1 (.call false 305) [],
 oT 14 5 (.un .not) [13],
 mT 15 6 14,
 oG 16 7 .move [0] 15 false,
 oG 17 8 (.call false 306) [16] 15 false,
 oG 18 12 (.un .not) [17] 15 false,
 ⟨(some 19),13,.pick,[.t 15,.c (.bool true),.t 18],none⟩])
 (.cond (.t 19) (.seq (.region [oT 20 14 (.call false 305) [],
 mT 4 18 20])
 (.ret)) (.skip)))
 (.seq (.region [oT 21 19 (.call false 143) [],
 oT 22 23 (.build [.slice .full 1 0 fF,.slice .full 3 0 fF] []) [],
 oT 23 24 .box [22],
 mT 5 25 21,
 mT 6 26 23])
 (.seq (.seq (.region [mT 24 27 1])
 (.cond (.t 24) (.region [oT 25 28 (.build [.nilm,.nilm,.nilm,.nilm,.nilm,.nilm,.nilm,.nilm,.nilm,.nilm,.nilm,.nilm,.nilm,.nilm,.nilm,.nilm,.nilm,.nilm,.nilm,.nilm,.nilm,.nilm,.nilm,.nilm,.nilm,.nilm,.nilm,.nilm,.nilm,.nilm,.nilm,.nilm,.nilm,.nilm,.nilm,.nilm,.nilm,.nilm,.nilm,.nilm,.nilm,.nilm,.nilm,.nilm,.nilm,.nilm,.nilm,.nilm,.nilm,.nilm,.nilm,.nilm,.nilm,.nilm,.nilm,.nilm,.nilm,.nilm,.nilm,.nilm,.nilm,.nilm,.nilm,.nilm,.nilm,.nilm] []) [],
 oT 26 29 .box [25],
 mT 5 30 26]) (.skip)))
 (.seq (.toObj 0 0 5) (.seq (.seq (.region [mT 27 31 5,
 oT 28 32 (.isNil true false) [27]])
 (.cond (.t 28) (.seq (.region [⟨(some 4),33,.move,[.c (.bool false)],none⟩])
 (.ret)) (.skip)))
 (.seq (.seq (.region [mT 29 34 0,
 oT 30 35 (.len false) [29],
 ⟨(some 31),36,.move,[.c (.int .i64 (0))],none⟩])
 (.block 0 (.loopT (Int×(List (ByteArray))×(List (aB))×(Nat×Ob aB)) (f273t.S0 a) 37 170 (.seq (.region [oT 32 37 (.bin .lss) [31,30]])
 (.seq (.cond (.t 32) (.skip) (.exit 0))
 (.seq (.block 1 (.seq (.region [mT 33 38 31,
 mT 7 39 33])
 (.seq (.region [mT 34 40 0,
 mT 35 41 7,
 oT 36 42 (.indexAddr 5 none) [34,35],
 oT 37 43 (.load true 5) [36],
 oT 8 44 (.alloc [.int .i64 (0),.str ByteArray.empty,.int .i64 (0),.int .i64 (0),.int .i64 (0)]) [],
 ⟨none,50,(.store 5),[.t 8,.t 37],none⟩])
 (.joinT (Int×(List (ByteArray))×(List (aB))×(Nat×Ob aB)) (fun x=>⟨.slice .ro 5 a.length (gl aH a)::.dead::.dead::.dead::.dead::.ptr 29 0::.ptr 24 0::dd 23 (.int .i64 (a.length:Int)::.int .i64 x.1::dd 78 []),[(24,false,[.slice .ro 1 x.2.1.length (gl aA x.2.1),.slice .ro 3 x.2.2.1.length (gl aC x.2.2.1)]),(29,false,[.dead,.obj 66 x.2.2.2.1 0 x.2.2.2.2.nl x.2.2.2.2.n x.2.2.2.2.ks (ovs aC x.2.2.2.2)])],[]⟩) (.seq (.region [oT 38 51 (.fieldAddr 0) [8],
 oT 39 52 (.load false 1) [38]])
 (.block 2 (.seq (.region [⟨(some 41),53,(.bin .eql),[.t 39,.c (.int .i64 (1))],none⟩,
 mT 40 54 41])
 (.cond (.t 40) (.seq (.region [mT 42 55 5,
 oT 43 56 (.fieldAddr 1) [8],
 oT 44 57 (.load false 1) [43],
 oT 45 58 (.fieldAddr 2) [8],
 oT 46 59 (.load true 3) [45],
 oT 47 60 (.call true 145) [42,44,46]])
 (.region [mT 48 64 6,
 oT 49 65 (.fieldAddr 1) [8],
 oT 50 66 (.load false 1) [49],
 oT 51 67 (.fieldAddr 2) [8],
 oT 52 68 (.load true 3) [51],
 oT 53 69 (.call true 307) [48,50,52]])) (.seq (.region [⟨(some 55),73,(.bin .eql),[.t 39,.c (.int .i64 (2))],none⟩,
 mT 54 74 55])
 (.cond (.t 54) (.seq (.orders [[mT 56 75 5,oT 57 76 (.fieldAddr 1) [8],oT 58 77 (.load false 1) [57],oT 59 78 (.call true 163) [56,58],mT 60 82 6,oT 61 83 (.fieldAddr 1) [8],oT 62 84 (.load false 1) [61],oT 63 85 (.call true 308) [60,62],oT 64 89 (.binB true) [59,63]],
 [mT 56 75 5,oT 57 76 (.fieldAddr 1) [8],oT 58 77 (.load false 1) [57],mT 60 82 6,oT 61 83 (.fieldAddr 1) [8],oT 62 84 (.load false 1) [61],oT 59 78 (.call true 163) [56,58],oT 63 85 (.call true 308) [60,62],oT 64 89 (.binB true) [59,63]]])
 (.cond (.t 64) (.seq (.region [⟨(some 4),90,.move,[.c (.bool false)],none⟩])
 (.ret)) (.skip))) (.seq (.region [⟨(some 66),91,(.bin .eql),[.t 39,.c (.int .i64 (3))],none⟩,
 mT 65 92 66])
 (.cond (.t 65) (.seq (.region [mT 68 93 5,
 oT 69 94 (.fieldAddr 1) [8],
 oT 70 95 (.load false 1) [69],
 oT 71 96 (.call true 192) [68,70],
 mT 67 100 71,
 oT 72 101 (.extract 0) [67],
 oT 73 102 (.extract 1) [67],
 oT 9 103 (.alloc [.int .i64 (0),.int .i64 (0),.int .i64 (0)]) [],
 ⟨none,107,(.store 3),[.t 9,.t 72],none⟩,
 mT 10 108 73])
 (.seq (.region [mT 75 109 6,
 oT 76 110 (.fieldAddr 1) [8],
 oT 77 111 (.load false 1) [76],
 oT 78 112 (.call true 309) [75,77],
 mT 74 116 78,
 oT 79 117 (.extract 0) [74],
 oT 80 118 (.extract 1) [74],
 oT 11 119 (.alloc [.int .i64 (0),.int .i64 (0),.int .i64 (0)]) [],
 ⟨none,123,(.store 3),[.t 11,.t 79],none⟩,
 mT 12 124 80])
 (.seq (.region [oT 81 125 (.load true 3) [9],
 oT 82 126 (.load true 3) [11],
 oT 83 127 (.eqAgg true [0,0,0]) [81,82],
 mT 84 128 83,
 oG 85 129 .move [10] 84 false,
 oG 86 130 .move [12] 84 false,
 oG 87 131 (.binB true) [85,86] 84 false,
 ⟨(some 88),132,.pick,[.t 84,.c (.bool true),.t 87],none⟩])
 (.cond (.t 88) (.seq (.region [⟨(some 4),133,.move,[.c (.bool false)],none⟩])
 (.ret)) (.skip))))) (.seq (.region [⟨(some 90),134,(.bin .eql),[.t 39,.c (.int .i64 (4))],none⟩,
 mT 89 135 90])
 (.cond (.t 89) (.seq (.orders [[mT 91 136 5,oT 92 137 (.fieldAddr 2) [8],oT 93 138 (.load true 3) [92],oT 94 139 (.call true 148) [91,93],mT 95 143 6,oT 96 144 (.fieldAddr 2) [8],oT 97 145 (.load true 3) [96],oT 98 146 (.call true 310) [95,97],oT 99 150 (.call false 150) [94,98],oT 100 154 (.un .not) [99]],
 [mT 91 136 5,oT 92 137 (.fieldAddr 2) [8],oT 93 138 (.load true 3) [92],mT 95 143 6,oT 96 144 (.fieldAddr 2) [8],oT 97 145 (.load true 3) [96],oT 94 139 (.call true 148) [91,93],oT 98 146 (.call true 310) [95,97],oT 99 150 (.call false 150) [94,98],oT 100 154 (.un .not) [99]]])
 (.cond (.t 100) (.seq (.region [⟨(some 4),155,.move,[.c (.bool false)],none⟩])
 (.ret)) (.skip))) (.skip)))))))))))
 (.seq (.orders [[mT 101 156 5,oT 102 157 (.call true 261) [101],mT 103 161 6,oT 104 162 .nilCheck [103],oT 105 163 (.fieldAddr 0) [104],oT 106 164 (.load false 1) [105],oT 107 165 (.len false) [106],oT 108 166 (.bin .neq) [102,107]],
 [mT 101 156 5,mT 103 161 6,oT 104 162 .nilCheck [103],oT 105 163 (.fieldAddr 0) [104],oT 106 164 (.load false 1) [105],oT 102 157 (.call true 261) [101],oT 107 165 (.len false) [106],oT 108 166 (.bin .neq) [102,107]]])
 (.cond (.t 108) (.seq (.region [⟨(some 4),167,.move,[.c (.bool false)],none⟩])
 (.ret)) (.skip)))))))
 (.region [⟨(some 109),168,(.bin .add),[.t 31,.c (.int .i64 (1))],none⟩,
 mT 31 169 109])))))))
 (.seq (.region [⟨(some 4),170,.move,[.c (.bool true)],none⟩])
 (.ret)))))))))
 [.tmp 4] 0 108
def f273t.env:Env:=[(305,f305.C),(306,f306.C),(143,f143.C),(145,f145.C),(307,f307.C),(163,f163.C),(308,f308.C),(192,f192.C),(309,f309.C),(148,f148.C),(310,f310.C),(150,f150.C),(261,f261.C)]
def f273t.tree (a:List (aF)):Prop:=∃ c1:Unit,True∧Br (!(aT c1)) (∃ c4:Unit,True∧((aT c4)=(aT a))∧True) (f306.ent (fun c7=>(L20 c7)∧Br (!(iK c7)) (∃ c10:Unit,True∧((aT c10)=(aT a))∧True) (∃ c13:Unit,True∧∃ (I15:(Int×(List (ByteArray))×(List (aB))×(Nat×Ob aB))→Prop) (μ16:(Int×(List (ByteArray))×(List (aB))×(Nat×Ob aB))→Nat),(∃ x14:Int×(List (ByteArray))×(List (aB))×(Nat×Ob aB),SlS aH a (((a.length:Int)=(a.length:Int))∧((0:Int)=x14.1)∧SlQ 0 x14.2.1.length fF (gl aA x14.2.1) (SlQ 0 x14.2.2.1.length fF (gl aC x14.2.2.1) (ObQ 0 x14.2.2.2.1 (ob0 aB).nl x14.2.2.2.2.nl (ob0 aB).n x14.2.2.2.2.n (ob0 aB).ks x14.2.2.2.2.ks (fun _ _=>[]) (ovs aC x14.2.2.2.2) (I15 x14)))))∧∀ y17:Int×(List (ByteArray))×(List (aB))×(Nat×Ob aB),I15 y17→(Br (decide (y17.1 < (a.length:Int))) (Br (decide ((0:Int)≤y17.1)&&decide (y17.1 < (a.length:Int))) (∃ I21:(Int×(List (ByteArray))×(List (aB))×(Nat×Ob aB))→Prop,(Br (((at_ a y17.1).1)==(1:Int)) (∃ c24:(Ob aB)×ByteArray×aB,(((at_ a y17.1).2.1)=c24.2.1)∧((((at_ a y17.1).2.2).1)=c24.2.2.1)∧((((at_ a y17.1).2.2).2.1)=c24.2.2.2.1)∧((((at_ a y17.1).2.2).2.2)=c24.2.2.2.2)∧ObQ 0 0 y17.2.2.2.2.nl c24.1.nl y17.2.2.2.2.n c24.1.n y17.2.2.2.2.ks c24.1.ks (ovs aC y17.2.2.2.2) (ovs aC c24.1) (True∧∃ c25:aE×ByteArray×aB,(((at_ a y17.1).2.1)=c25.2.1)∧((((at_ a y17.1).2.2).1)=c25.2.2.1)∧((((at_ a y17.1).2.2).2.1)=c25.2.2.2.1)∧((((at_ a y17.1).2.2).2.2)=c25.2.2.2.2)∧SlQ y17.2.1.length c25.1.1.length (gl aA y17.2.1) (gl aA c25.1.1) (SlQ y17.2.2.1.length c25.1.2.length (gl aC y17.2.2.1) (gl aC c25.1.2) ((lL c25)∧∃ x26:Int×(List (ByteArray))×(List (aB))×(Nat×Ob aB),SlS aH a (((a.length:Int)=(a.length:Int))∧(y17.1=x26.1)∧SlQ (((fU c25).1).length) x26.2.1.length (gl aA ((fU c25).1)) (gl aA x26.2.1) (SlQ (((fU c25).2).length) x26.2.2.1.length (gl aC ((fU c25).2)) (gl aC x26.2.2.1) (ObQ (y17.2.2.2.1+1) x26.2.2.2.1 (putX c24).nl x26.2.2.2.2.nl (putX c24).n x26.2.2.2.2.n (putX c24).ks x26.2.2.2.2.ks (ovs aC (putX c24)) (ovs aC x26.2.2.2.2) (I21 x26)))))))) (Br (((at_ a y17.1).1)==(2:Int)) ((∃ c31:(Ob aB)×ByteArray,(((at_ a y17.1).2.1)=c31.2)∧ObQ 0 0 y17.2.2.2.2.nl c31.1.nl y17.2.2.2.2.n c31.1.n y17.2.2.2.2.ks c31.1.ks (ovs aC y17.2.2.2.2) (ovs aC c31.1) (True∧∃ c32:aE×ByteArray,(((at_ a y17.1).2.1)=c32.2)∧SlQ y17.2.1.length c32.1.1.length (gl aA y17.2.1) (gl aA c32.1.1) (SlQ y17.2.2.1.length c32.1.2.length (gl aC y17.2.2.1) (gl aC c32.1.2) ((dL c32)∧Br (!(((delX c31).1)==((cU c32).1))) ((false=(aT a))∧True) (∃ x36:Int×(List (ByteArray))×(List (aB))×(Nat×Ob aB),SlS aH a (((a.length:Int)=(a.length:Int))∧(y17.1=x36.1)∧SlQ ((((cU c32).2).1).length) x36.2.1.length (gl aA (((cU c32).2).1)) (gl aA x36.2.1) (SlQ ((((cU c32).2).2).length) x36.2.2.1.length (gl aC (((cU c32).2).2)) (gl aC x36.2.2.1) (ObQ (y17.2.2.2.1+1) x36.2.2.2.1 ((delX c31).2).nl x36.2.2.2.2.nl ((delX c31).2).n x36.2.2.2.2.n ((delX c31).2).ks x36.2.2.2.2.ks (ovs aC ((delX c31).2)) (ovs aC x36.2.2.2.2) (I21 x36)))))))))∧(∃ c31:(Ob aB)×ByteArray,(((at_ a y17.1).2.1)=c31.2)∧ObQ 0 0 y17.2.2.2.2.nl c31.1.nl y17.2.2.2.2.n c31.1.n y17.2.2.2.2.ks c31.1.ks (ovs aC y17.2.2.2.2) (ovs aC c31.1) (True∧∃ c32:aE×ByteArray,(((at_ a y17.1).2.1)=c32.2)∧SlQ y17.2.1.length c32.1.1.length (gl aA y17.2.1) (gl aA c32.1.1) (SlQ y17.2.2.1.length c32.1.2.length (gl aC y17.2.2.1) (gl aC c32.1.2) ((dL c32)∧Br (!(((delX c31).1)==((cU c32).1))) ((false=(aT a))∧True) (∃ x36:Int×(List (ByteArray))×(List (aB))×(Nat×Ob aB),SlS aH a (((a.length:Int)=(a.length:Int))∧(y17.1=x36.1)∧SlQ ((((cU c32).2).1).length) x36.2.1.length (gl aA (((cU c32).2).1)) (gl aA x36.2.1) (SlQ ((((cU c32).2).2).length) x36.2.2.1.length (gl aC (((cU c32).2).2)) (gl aC x36.2.2.1) (ObQ (y17.2.2.2.1+1) x36.2.2.2.1 ((delX c31).2).nl x36.2.2.2.2.nl ((delX c31).2).n x36.2.2.2.2.n ((delX c31).2).ks x36.2.2.2.2.ks (ovs aC ((delX c31).2)) (ovs aC x36.2.2.2.2) (I21 x36)))))))))) (Br (((at_ a y17.1).1)==(3:Int)) (∃ c43:(Ob aB)×ByteArray,(((at_ a y17.1).2.1)=c43.2)∧ObQ 0 0 y17.2.2.2.2.nl c43.1.nl y17.2.2.2.2.n c43.1.n y17.2.2.2.2.ks c43.1.ks (ovs aC y17.2.2.2.2) (ovs aC c43.1) (True∧∃ c44:aE×ByteArray,(((at_ a y17.1).2.1)=c44.2)∧SlQ y17.2.1.length c44.1.1.length (gl aA y17.2.1) (gl aA c44.1.1) (SlQ y17.2.2.1.length c44.1.2.length (gl aC y17.2.2.1) (gl aC c44.1.2) ((dL c44)∧Br (!(((((getX c43).1).1)==((((cB (0,0,0)) c44).1).1))&&(((((getX c43).1).2.1)==((((cB (0,0,0)) c44).1).2.1))&&((((getX c43).1).2.2)==((((cB (0,0,0)) c44).1).2.2))))) ((false=(aT a))∧True) (Br (!(((getX c43).2.1)==(((cB (0,0,0)) c44).2.1))) ((false=(aT a))∧True) (∃ x51:Int×(List (ByteArray))×(List (aB))×(Nat×Ob aB),SlS aH a (((a.length:Int)=(a.length:Int))∧(y17.1=x51.1)∧SlQ (((((cB (0,0,0)) c44).2.2).1).length) x51.2.1.length (gl aA ((((cB (0,0,0)) c44).2.2).1)) (gl aA x51.2.1) (SlQ (((((cB (0,0,0)) c44).2.2).2).length) x51.2.2.1.length (gl aC ((((cB (0,0,0)) c44).2.2).2)) (gl aC x51.2.2.1) (ObQ (y17.2.2.2.1+1) x51.2.2.2.1 ((getX c43).2.2).nl x51.2.2.2.2.nl ((getX c43).2.2).n x51.2.2.2.2.n ((getX c43).2.2).ks x51.2.2.2.2.ks (ovs aC ((getX c43).2.2)) (ovs aC x51.2.2.2.2) (I21 x51)))))))))) (Br (((at_ a y17.1).1)==(4:Int)) ((∃ c60:(Ob aB)×aB,((((at_ a y17.1).2.2).1)=c60.2.1)∧((((at_ a y17.1).2.2).2.1)=c60.2.2.1)∧((((at_ a y17.1).2.2).2.2)=c60.2.2.2)∧ObQ 0 0 y17.2.2.2.2.nl c60.1.nl y17.2.2.2.2.n c60.1.n y17.2.2.2.2.ks c60.1.ks (ovs aC y17.2.2.2.2) (ovs aC c60.1) ((eP c60)∧∃ c61:aE×aB,((((at_ a y17.1).2.2).1)=c61.2.1)∧((((at_ a y17.1).2.2).2.1)=c61.2.2.1)∧((((at_ a y17.1).2.2).2.2)=c61.2.2.2)∧SlQ y17.2.1.length c61.1.1.length (gl aA y17.2.1) (gl aA c61.1.1) (SlQ y17.2.2.1.length c61.1.2.length (gl aC y17.2.2.1) (gl aC c61.1.2) ((gE c61)∧f150.ent (fun c62=>(fN c62)∧Br (!(eV c62)) ((false=(aT a))∧True) (∃ x66:Int×(List (ByteArray))×(List (aB))×(Nat×Ob aB),SlS aH a (((a.length:Int)=(a.length:Int))∧(y17.1=x66.1)∧SlQ ((((bV c61).2).1).length) x66.2.1.length (gl aA (((bV c61).2).1)) (gl aA x66.2.1) (SlQ ((((bV c61).2).2).length) x66.2.2.1.length (gl aC (((bV c61).2).2)) (gl aC x66.2.2.1) (ObQ (y17.2.2.2.1+1) x66.2.2.2.1 ((bK c60).2).nl x66.2.2.2.2.nl ((bK c60).2).n x66.2.2.2.2.n ((bK c60).2).ks x66.2.2.2.2.ks (ovs aC ((bK c60).2)) (ovs aC x66.2.2.2.2) (I21 x66)))))) ((bK c60).1,(bV c61).1)))))∧(∃ c60:(Ob aB)×aB,((((at_ a y17.1).2.2).1)=c60.2.1)∧((((at_ a y17.1).2.2).2.1)=c60.2.2.1)∧((((at_ a y17.1).2.2).2.2)=c60.2.2.2)∧ObQ 0 0 y17.2.2.2.2.nl c60.1.nl y17.2.2.2.2.n c60.1.n y17.2.2.2.2.ks c60.1.ks (ovs aC y17.2.2.2.2) (ovs aC c60.1) ((eP c60)∧∃ c61:aE×aB,((((at_ a y17.1).2.2).1)=c61.2.1)∧((((at_ a y17.1).2.2).2.1)=c61.2.2.1)∧((((at_ a y17.1).2.2).2.2)=c61.2.2.2)∧SlQ y17.2.1.length c61.1.1.length (gl aA y17.2.1) (gl aA c61.1.1) (SlQ y17.2.2.1.length c61.1.2.length (gl aC y17.2.2.1) (gl aC c61.1.2) ((gE c61)∧f150.ent (fun c62=>(fN c62)∧Br (!(eV c62)) ((false=(aT a))∧True) (∃ x66:Int×(List (ByteArray))×(List (aB))×(Nat×Ob aB),SlS aH a (((a.length:Int)=(a.length:Int))∧(y17.1=x66.1)∧SlQ ((((bV c61).2).1).length) x66.2.1.length (gl aA (((bV c61).2).1)) (gl aA x66.2.1) (SlQ ((((bV c61).2).2).length) x66.2.2.1.length (gl aC (((bV c61).2).2)) (gl aC x66.2.2.1) (ObQ (y17.2.2.2.1+1) x66.2.2.2.1 ((bK c60).2).nl x66.2.2.2.2.nl ((bK c60).2).n x66.2.2.2.2.n ((bK c60).2).ks x66.2.2.2.2.ks (ovs aC ((bK c60).2)) (ovs aC x66.2.2.2.2) (I21 x66)))))) ((bK c60).1,(bV c61).1)))))) (∃ x72:Int×(List (ByteArray))×(List (aB))×(Nat×Ob aB),SlS aH a (((a.length:Int)=(a.length:Int))∧(y17.1=x72.1)∧SlQ y17.2.1.length x72.2.1.length (gl aA y17.2.1) (gl aA x72.2.1) (SlQ y17.2.2.1.length x72.2.2.1.length (gl aC y17.2.2.1) (gl aC x72.2.2.1) (ObQ y17.2.2.2.1 x72.2.2.2.1 y17.2.2.2.2.nl x72.2.2.2.2.nl y17.2.2.2.2.n x72.2.2.2.2.n y17.2.2.2.2.ks x72.2.2.2.2.ks (ovs aC y17.2.2.2.2) (ovs aC x72.2.2.2.2) (I21 x72)))))))))∧∀ y81:Int×(List (ByteArray))×(List (aB))×(Nat×Ob aB),I21 y81→((∃ c84:Ob aB,ObQ 0 0 y81.2.2.2.2.nl c84.nl y81.2.2.2.2.n c84.n y81.2.2.2.2.ks c84.ks (ovs aC y81.2.2.2.2) (ovs aC c84) (True∧Br (((lenX c84).1) != (y81.2.1.length:Int)) ((false=(aT a))∧True) (Let (wI (y81.1+(1:Int))) (fun v88:Int=>∃ x89:Int×(List (ByteArray))×(List (aB))×(Nat×Ob aB),SlS aH a (((a.length:Int)=(a.length:Int))∧(v88=x89.1)∧SlQ y81.2.1.length x89.2.1.length (gl aA y81.2.1) (gl aA x89.2.1) (SlQ y81.2.2.1.length x89.2.2.1.length (gl aC y81.2.2.1) (gl aC x89.2.2.1) (ObQ (y81.2.2.2.1+1) x89.2.2.2.1 ((lenX c84).2).nl x89.2.2.2.2.nl ((lenX c84).2).n x89.2.2.2.2.n ((lenX c84).2).ks x89.2.2.2.2.ks (ovs aC ((lenX c84).2)) (ovs aC x89.2.2.2.2) (I15 x89∧μ16 x89 < μ16 y17))))))))∧(∃ c84:Ob aB,ObQ 0 0 y81.2.2.2.2.nl c84.nl y81.2.2.2.2.n c84.n y81.2.2.2.2.ks c84.ks (ovs aC y81.2.2.2.2) (ovs aC c84) (True∧Br (((lenX c84).1) != (y81.2.1.length:Int)) ((false=(aT a))∧True) (Let (wI (y81.1+(1:Int))) (fun v88:Int=>∃ x89:Int×(List (ByteArray))×(List (aB))×(Nat×Ob aB),SlS aH a (((a.length:Int)=(a.length:Int))∧(v88=x89.1)∧SlQ y81.2.1.length x89.2.1.length (gl aA y81.2.1) (gl aA x89.2.1) (SlQ y81.2.2.1.length x89.2.2.1.length (gl aC y81.2.2.1) (gl aC x89.2.2.1) (ObQ (y81.2.2.2.1+1) x89.2.2.2.1 ((lenX c84).2).nl x89.2.2.2.2.nl ((lenX c84).2).n x89.2.2.2.2.n ((lenX c84).2).ks x89.2.2.2.2.ks (ovs aC ((lenX c84).2)) (ovs aC x89.2.2.2.2) (I15 x89∧μ16 x89 < μ16 y17)))))))))) False) ((true=(aT a))∧True)))) a)
def f273t.vc (a:List (aF)):Prop:=((¬((aT ())=true)→((aT ())=aT a))∧(¬(¬((aT ())=true))→(L20 a∧((¬((iK a)=true)→((aT ())=aT a))∧(¬(¬((iK a)=true))→(∃ (I15:(Int×(List (ByteArray))×(List (aB))×(Nat×Ob aB))→Prop) (μ16:(Int×(List (ByteArray))×(List (aB))×(Nat×Ob aB))→Nat),I15 ((0:Int),[],[],(0,ob0 aB))∧∀ y17:Int×(List (ByteArray))×(List (aB))×(Nat×Ob aB),I15 y17→((y17.1 < (a.length:Int)→((0:Int)≤y17.1∧y17.1 < (a.length:Int)∧(∃ I21:(Int×(List (ByteArray))×(List (aB))×(Nat×Ob aB))→Prop,(((((at_ a y17.1).1)=(1:Int)→(lL ((y17.2.1,y17.2.2.1),(at_ a y17.1).2.1,((at_ a y17.1).2.2))∧(I21 (y17.1,(fU ((y17.2.1,y17.2.2.1),(at_ a y17.1).2.1,((at_ a y17.1).2.2))).1,(fU ((y17.2.1,y17.2.2.1),(at_ a y17.1).2.1,((at_ a y17.1).2.2))).2,(y17.2.2.2.1+1,(putX (y17.2.2.2.2,(at_ a y17.1).2.1,((at_ a y17.1).2.2))))))))∧(¬(((at_ a y17.1).1)=(1:Int))→((((at_ a y17.1).1)=(2:Int)→(dL ((y17.2.1,y17.2.2.1),(at_ a y17.1).2.1)∧(((!(((delX (y17.2.2.2.2,(at_ a y17.1).2.1)).1)==((cU ((y17.2.1,y17.2.2.1),(at_ a y17.1).2.1)).1)))=true→(false=aT a))∧(¬((!(((delX (y17.2.2.2.2,(at_ a y17.1).2.1)).1)==((cU ((y17.2.1,y17.2.2.1),(at_ a y17.1).2.1)).1)))=true)→(I21 (y17.1,((cU ((y17.2.1,y17.2.2.1),(at_ a y17.1).2.1)).2).1,((cU ((y17.2.1,y17.2.2.1),(at_ a y17.1).2.1)).2).2,(y17.2.2.2.1+1,(delX (y17.2.2.2.2,(at_ a y17.1).2.1)).2)))))))∧(¬(((at_ a y17.1).1)=(2:Int))→((((at_ a y17.1).1)=(3:Int)→(dL ((y17.2.1,y17.2.2.1),(at_ a y17.1).2.1)∧((¬((((getX (y17.2.2.2.2,(at_ a y17.1).2.1)).1).1)=((((cB (0,0,0)) ((y17.2.1,y17.2.2.1),(at_ a y17.1).2.1)).1).1)∧(((getX (y17.2.2.2.2,(at_ a y17.1).2.1)).1).2.1)=((((cB (0,0,0)) ((y17.2.1,y17.2.2.1),(at_ a y17.1).2.1)).1).2.1)∧(((getX (y17.2.2.2.2,(at_ a y17.1).2.1)).1).2.2)=((((cB (0,0,0)) ((y17.2.1,y17.2.2.1),(at_ a y17.1).2.1)).1).2.2))→(false=aT a))∧(¬(¬((((getX (y17.2.2.2.2,(at_ a y17.1).2.1)).1).1)=((((cB (0,0,0)) ((y17.2.1,y17.2.2.1),(at_ a y17.1).2.1)).1).1)∧(((getX (y17.2.2.2.2,(at_ a y17.1).2.1)).1).2.1)=((((cB (0,0,0)) ((y17.2.1,y17.2.2.1),(at_ a y17.1).2.1)).1).2.1)∧(((getX (y17.2.2.2.2,(at_ a y17.1).2.1)).1).2.2)=((((cB (0,0,0)) ((y17.2.1,y17.2.2.1),(at_ a y17.1).2.1)).1).2.2)))→(((!(((getX (y17.2.2.2.2,(at_ a y17.1).2.1)).2.1)==(((cB (0,0,0)) ((y17.2.1,y17.2.2.1),(at_ a y17.1).2.1)).2.1)))=true→(false=aT a))∧(¬((!(((getX (y17.2.2.2.2,(at_ a y17.1).2.1)).2.1)==(((cB (0,0,0)) ((y17.2.1,y17.2.2.1),(at_ a y17.1).2.1)).2.1)))=true)→(I21 (y17.1,(((cB (0,0,0)) ((y17.2.1,y17.2.2.1),(at_ a y17.1).2.1)).2.2).1,(((cB (0,0,0)) ((y17.2.1,y17.2.2.1),(at_ a y17.1).2.1)).2.2).2,(y17.2.2.2.1+1,(getX (y17.2.2.2.2,(at_ a y17.1).2.1)).2.2)))))))))∧(¬(((at_ a y17.1).1)=(3:Int))→((((at_ a y17.1).1)=(4:Int)→(eP (y17.2.2.2.2,((at_ a y17.1).2.2))∧(gE ((y17.2.1,y17.2.2.1),((at_ a y17.1).2.2))∧(fN ((bK (y17.2.2.2.2,((at_ a y17.1).2.2))).1,(bV ((y17.2.1,y17.2.2.1),((at_ a y17.1).2.2))).1)∧((¬((eV ((bK (y17.2.2.2.2,((at_ a y17.1).2.2))).1,(bV ((y17.2.1,y17.2.2.1),((at_ a y17.1).2.2))).1))=true)→(false=aT a))∧(¬(¬((eV ((bK (y17.2.2.2.2,((at_ a y17.1).2.2))).1,(bV ((y17.2.1,y17.2.2.1),((at_ a y17.1).2.2))).1))=true))→(I21 (y17.1,((bV ((y17.2.1,y17.2.2.1),((at_ a y17.1).2.2))).2).1,((bV ((y17.2.1,y17.2.2.1),((at_ a y17.1).2.2))).2).2,(y17.2.2.2.1+1,(bK (y17.2.2.2.2,((at_ a y17.1).2.2))).2)))))))))∧(¬(((at_ a y17.1).1)=(4:Int))→(I21 (y17.1,y17.2.1,y17.2.2.1,(y17.2.2.2.1,y17.2.2.2.2))))))))))))∧∀ y81:Int×(List (ByteArray))×(List (aB))×(Nat×Ob aB),I21 y81→((¬((lenX (y81.2.2.2.2)).1)=(y81.2.1.length:Int)→(false=aT a))∧(¬(¬((lenX (y81.2.2.2.2)).1)=(y81.2.1.length:Int))→(-9223372036854775808≤(y81.1+(1:Int))∧(y81.1+(1:Int))≤9223372036854775807∧(I15 ((y81.1+(1:Int)),y81.2.1,y81.2.2.1,(y81.2.2.2.1+1,(lenX (y81.2.2.2.2)).2))∧μ16 ((y81.1+(1:Int)),y81.2.1,y81.2.2.1,(y81.2.2.2.1+1,(lenX (y81.2.2.2.2)).2)) < μ16 y17)))))))∧(¬(y17.1 < (a.length:Int))→(true=aT a)))))))))
theorem f273t.of (a:List (aF)) (h:f273t.vc a):f273t.tree a:=⟨(),⟨trivial,br h (Cnd.not Cnd.b) (fun h2 k108=>⟨(),⟨trivial,⟨k108,trivial⟩⟩⟩) (fun h3 k109=>(f306.ei ⟨k109.1,br k109.2 (Cnd.not Cnd.b) (fun h8 k105=>⟨(),⟨trivial,⟨k105,trivial⟩⟩⟩) (fun h9 k106=>⟨(),⟨trivial,Exists.elim k106 (fun I15 h101_=>Exists.elim h101_ (fun μ16 h101=>⟨I15,μ16,⟨((0:Int),[],[],(0,ob0 aB)),SlS.mk  (⟨rfl,⟨rfl,slQ (Rds.nil (enc:=aA)) (slQ (Rds.nil (enc:=aC)) (obQ rfl (OV.zero (e:=aC)) rfl (h101.1)))⟩⟩)⟩,fun y17 h103=>br (h101.2 y17 h103) Cnd.dec (fun h18 k99=>chk k99.2.2 Cnd.ix ⟨k99.1,k99.2.1⟩ (fun h20 k97=>Exists.elim k97 (fun I21 h83=>⟨I21,br h83.1 Cnd.eq (fun h22 k79=>⟨(y17.2.2.2.2,(at_ a y17.1).2.1,((at_ a y17.1).2.2)),⟨rfl,⟨rfl,⟨rfl,⟨rfl,obQ rfl (OV.self (e:=aC)) rfl (⟨trivial,⟨((y17.2.1,y17.2.2.1),(at_ a y17.1).2.1,((at_ a y17.1).2.2)),⟨rfl,⟨rfl,⟨rfl,⟨rfl,slQ (rS aA) (slQ (rS aC) (⟨k79.1,⟨(y17.1,(fU ((y17.2.1,y17.2.2.1),(at_ a y17.1).2.1,((at_ a y17.1).2.2))).1,(fU ((y17.2.1,y17.2.2.1),(at_ a y17.1).2.1,((at_ a y17.1).2.2))).2,(y17.2.2.2.1+1,(putX (y17.2.2.2.2,(at_ a y17.1).2.1,((at_ a y17.1).2.2))))),SlS.mk  (⟨rfl,⟨rfl,slQ (rS aA) (slQ (rS aC) (obQ rfl (OV.self (e:=aC)) rfl (k79.2)))⟩⟩)⟩⟩))⟩⟩⟩⟩⟩⟩)⟩⟩⟩⟩⟩) (fun h23 k80=>br k80 Cnd.eq (fun h29 k77=>⟨⟨(y17.2.2.2.2,(at_ a y17.1).2.1),⟨rfl,obQ rfl (OV.self (e:=aC)) rfl (⟨trivial,⟨((y17.2.1,y17.2.2.1),(at_ a y17.1).2.1),⟨rfl,slQ (rS aA) (slQ (rS aC) (⟨k77.1,br k77.2 Cnd.b (fun h33 k37=>⟨k37,trivial⟩) (fun h34 k38=>⟨(y17.1,((cU ((y17.2.1,y17.2.2.1),(at_ a y17.1).2.1)).2).1,((cU ((y17.2.1,y17.2.2.1),(at_ a y17.1).2.1)).2).2,(y17.2.2.2.1+1,(delX (y17.2.2.2.2,(at_ a y17.1).2.1)).2)),SlS.mk  (⟨rfl,⟨rfl,slQ (rS aA) (slQ (rS aC) (obQ rfl (OV.self (e:=aC)) rfl (k38)))⟩⟩)⟩)⟩))⟩⟩⟩)⟩⟩,⟨(y17.2.2.2.2,(at_ a y17.1).2.1),⟨rfl,obQ rfl (OV.self (e:=aC)) rfl (⟨trivial,⟨((y17.2.1,y17.2.2.1),(at_ a y17.1).2.1),⟨rfl,slQ (rS aA) (slQ (rS aC) (⟨k77.1,br k77.2 Cnd.b (fun h33 k37=>⟨k37,trivial⟩) (fun h34 k38=>⟨(y17.1,((cU ((y17.2.1,y17.2.2.1),(at_ a y17.1).2.1)).2).1,((cU ((y17.2.1,y17.2.2.1),(at_ a y17.1).2.1)).2).2,(y17.2.2.2.1+1,(delX (y17.2.2.2.2,(at_ a y17.1).2.1)).2)),SlS.mk  (⟨rfl,⟨rfl,slQ (rS aA) (slQ (rS aC) (obQ rfl (OV.self (e:=aC)) rfl (k38)))⟩⟩)⟩)⟩))⟩⟩⟩)⟩⟩⟩) (fun h30 k78=>br k78 Cnd.eq (fun h41 k75=>⟨(y17.2.2.2.2,(at_ a y17.1).2.1),⟨rfl,obQ rfl (OV.self (e:=aC)) rfl (⟨trivial,⟨((y17.2.1,y17.2.2.1),(at_ a y17.1).2.1),⟨rfl,slQ (rS aA) (slQ (rS aC) (⟨k75.1,br k75.2 (Cnd.not (Cnd.and Cnd.eq (Cnd.and Cnd.eq Cnd.eq))) (fun h45 k54=>⟨k54,trivial⟩) (fun h46 k55=>br k55 Cnd.b (fun h48 k52=>⟨k52,trivial⟩) (fun h49 k53=>⟨(y17.1,(((cB (0,0,0)) ((y17.2.1,y17.2.2.1),(at_ a y17.1).2.1)).2.2).1,(((cB (0,0,0)) ((y17.2.1,y17.2.2.1),(at_ a y17.1).2.1)).2.2).2,(y17.2.2.2.1+1,(getX (y17.2.2.2.2,(at_ a y17.1).2.1)).2.2)),SlS.mk  (⟨rfl,⟨rfl,slQ (rS aA) (slQ (rS aC) (obQ rfl (OV.self (e:=aC)) rfl (k53)))⟩⟩)⟩))⟩))⟩⟩⟩)⟩⟩) (fun h42 k76=>br k76 Cnd.eq (fun h58 k73=>⟨⟨(y17.2.2.2.2,((at_ a y17.1).2.2)),⟨rfl,⟨rfl,⟨rfl,obQ rfl (OV.self (e:=aC)) rfl (⟨k73.1,⟨((y17.2.1,y17.2.2.1),((at_ a y17.1).2.2)),⟨rfl,⟨rfl,⟨rfl,slQ (rS aA) (slQ (rS aC) (⟨k73.2.1,(f150.ei ⟨k73.2.2.1,br k73.2.2.2 (Cnd.not Cnd.b) (fun h63 k67=>⟨k67,trivial⟩) (fun h64 k68=>⟨(y17.1,((bV ((y17.2.1,y17.2.2.1),((at_ a y17.1).2.2))).2).1,((bV ((y17.2.1,y17.2.2.1),((at_ a y17.1).2.2))).2).2,(y17.2.2.2.1+1,(bK (y17.2.2.2.2,((at_ a y17.1).2.2))).2)),SlS.mk  (⟨rfl,⟨rfl,slQ (rS aA) (slQ (rS aC) (obQ rfl (OV.self (e:=aC)) rfl (k68)))⟩⟩)⟩)⟩)⟩))⟩⟩⟩⟩⟩)⟩⟩⟩⟩,⟨(y17.2.2.2.2,((at_ a y17.1).2.2)),⟨rfl,⟨rfl,⟨rfl,obQ rfl (OV.self (e:=aC)) rfl (⟨k73.1,⟨((y17.2.1,y17.2.2.1),((at_ a y17.1).2.2)),⟨rfl,⟨rfl,⟨rfl,slQ (rS aA) (slQ (rS aC) (⟨k73.2.1,(f150.ei ⟨k73.2.2.1,br k73.2.2.2 (Cnd.not Cnd.b) (fun h63 k67=>⟨k67,trivial⟩) (fun h64 k68=>⟨(y17.1,((bV ((y17.2.1,y17.2.2.1),((at_ a y17.1).2.2))).2).1,((bV ((y17.2.1,y17.2.2.1),((at_ a y17.1).2.2))).2).2,(y17.2.2.2.1+1,(bK (y17.2.2.2.2,((at_ a y17.1).2.2))).2)),SlS.mk  (⟨rfl,⟨rfl,slQ (rS aA) (slQ (rS aC) (obQ rfl (OV.self (e:=aC)) rfl (k68)))⟩⟩)⟩)⟩)⟩))⟩⟩⟩⟩⟩)⟩⟩⟩⟩⟩) (fun h59 k74=>⟨(y17.1,y17.2.1,y17.2.2.1,(y17.2.2.2.1,y17.2.2.2.2)),SlS.mk  (⟨rfl,⟨rfl,slQ (rS aA) (slQ (rS aC) (obQ rfl (OV.self (e:=aC)) rfl (k74)))⟩⟩)⟩)))),fun y81 h82=>⟨⟨y81.2.2.2.2,obQ rfl (OV.self (e:=aC)) rfl (⟨trivial,br (h83.2 y81 h82) Cnd.ne (fun h85 k94=>⟨k94,trivial⟩) (fun h86 k95=>wrapK.i64 k95 (fun h91 h92 k93=>⟨((y81.1+(1:Int)),y81.2.1,y81.2.2.1,(y81.2.2.2.1+1,(lenX (y81.2.2.2.2)).2)),SlS.mk  (⟨rfl,⟨rfl,slQ (rS aA) (slQ (rS aC) (obQ rfl (OV.self (e:=aC)) rfl (k93)))⟩⟩)⟩))⟩)⟩,⟨y81.2.2.2.2,obQ rfl (OV.self (e:=aC)) rfl (⟨trivial,br (h83.2 y81 h82) Cnd.ne (fun h85 k94=>⟨k94,trivial⟩) (fun h86 k95=>wrapK.i64 k95 (fun h91 h92 k93=>⟨((y81.1+(1:Int)),y81.2.1,y81.2.2.1,(y81.2.2.2.1+1,(lenX (y81.2.2.2.2)).2)),SlS.mk  (⟨rfl,⟨rfl,slQ (rS aA) (slQ (rS aC) (obQ rfl (OV.self (e:=aC)) rfl (k93)))⟩⟩)⟩))⟩)⟩⟩⟩))) (fun h19 k100=>⟨k100,trivial⟩)⟩))⟩⟩)⟩))⟩⟩
theorem f273t.eq (a:List (aF)):(f273t.af a).gives f273t.env (f273.args (a,true)) (f273.blks (a,true)) (f273.res (a,true)) (f273.blks' (a,true))=f273t.tree a:=by kernel_rfl
def f273f.S0 (a:List (aF)) (x:Int×(Nat×Ob aB)×(List (ByteArray))×(List (aB))):Tm:=⟨.slice .ro 5 a.length (gl aH a)::.dead::.dead::.dead::.dead::.ptr 19 0::.ptr 24 0::dd 23 (.int .i64 (a.length:Int)::.int .i64 x.1::dd 78 []),[(19,false,[.dead,.obj 66 x.2.1.1 0 x.2.1.2.nl x.2.1.2.n x.2.1.2.ks (ovs aC x.2.1.2)]),(24,false,[.slice .ro 1 x.2.2.1.length (gl aA x.2.2.1),.slice .ro 3 x.2.2.2.length (gl aC x.2.2.2)])],[]⟩
def f273f.kills (a:List (aF)):List Hint:=[.tell (Int×(Nat×Ob aB)×(List (ByteArray))×(List (aB))) (f273f.S0 a)]
def f273f.cuts (a:List (aF)):List (Nat×Σ β:Type,β→Tm):=[(3000005000005,⟨Unit,fun x=>⟨[],[],[]⟩⟩),
 (100017,⟨Int×(Nat×Ob aB)×(List (ByteArray))×(List (aB)),fun x=>⟨.slice .ro 5 a.length (gl aH a)::.dead::.dead::.dead::.dead::.ptr 19 0::.ptr 24 0::dd 23 (.int .i64 (a.length:Int)::.int .i64 x.1::dd 78 []),[(19,false,[.dead,.obj 66 x.2.1.1 0 x.2.1.2.nl x.2.1.2.n x.2.1.2.ks (ovs aC x.2.1.2)]),(24,false,[.slice .ro 1 x.2.2.1.length (gl aA x.2.2.1),.slice .ro 3 x.2.2.2.length (gl aC x.2.2.2)])],[]⟩⟩)]
def f273f.af (a:List (aF)):AF:=AF.mk (.seq (.region [⟨(some 4),0,.move,[.c (.bool false)],none⟩])
 (.seq (.seq (.region [oT 13 1 (.call false 305) [],
 oT 14 5 (.un .not) [13],
 mT 15 6 14,
 oG 16 7 .move [0] 15 false,
 oG 17 8 (.call false 306) [16] 15 false,
 oG 18 12 (.un .not) [17] 15 false,
 ⟨(some 19),13,.pick,[.t 15,.c (.bool true),.t 18],none⟩])
 (.cond (.t 19) (.seq (.region [oT 20 14 (.call false 305) [],
 mT 4 18 20])
 (.ret)) (.skip)))
 (.seq (.region [oT 21 19 (.call false 143) [],
 oT 22 23 (.build [.slice .full 1 0 fF,.slice .full 3 0 fF] []) [],
 oT 23 24 .box [22],
 mT 5 25 21,
 mT 6 26 23])
 (.seq (.seq (.region [mT 24 27 1])
 (.cond (.t 24) (.region [oT 25 28 (.build [.nilm,.nilm,.nilm,.nilm,.nilm,.nilm,.nilm,.nilm,.nilm,.nilm,.nilm,.nilm,.nilm,.nilm,.nilm,.nilm,.nilm,.nilm,.nilm,.nilm,.nilm,.nilm,.nilm,.nilm,.nilm,.nilm,.nilm,.nilm,.nilm,.nilm,.nilm,.nilm,.nilm,.nilm,.nilm,.nilm,.nilm,.nilm,.nilm,.nilm,.nilm,.nilm,.nilm,.nilm,.nilm,.nilm,.nilm,.nilm,.nilm,.nilm,.nilm,.nilm,.nilm,.nilm,.nilm,.nilm,.nilm,.nilm,.nilm,.nilm,.nilm,.nilm,.nilm,.nilm,.nilm,.nilm] []) [],
 oT 26 29 .box [25],
 mT 5 30 26]) (.skip)))
 (.seq (.toObj 0 0 5) (.seq (.seq (.region [mT 27 31 5,
 oT 28 32 (.isNil true false) [27]])
 (.cond (.t 28) (.seq (.region [⟨(some 4),33,.move,[.c (.bool false)],none⟩])
 (.ret)) (.skip)))
 (.seq (.seq (.region [mT 29 34 0,
 oT 30 35 (.len false) [29],
 ⟨(some 31),36,.move,[.c (.int .i64 (0))],none⟩])
 (.block 0 (.loopT (Int×(Nat×Ob aB)×(List (ByteArray))×(List (aB))) (f273f.S0 a) 37 170 (.seq (.region [oT 32 37 (.bin .lss) [31,30]])
 (.seq (.cond (.t 32) (.skip) (.exit 0))
 (.seq (.block 1 (.seq (.region [mT 33 38 31,
 mT 7 39 33])
 (.seq (.region [mT 34 40 0,
 mT 35 41 7,
 oT 36 42 (.indexAddr 5 none) [34,35],
 oT 37 43 (.load true 5) [36],
 oT 8 44 (.alloc [.int .i64 (0),.str ByteArray.empty,.int .i64 (0),.int .i64 (0),.int .i64 (0)]) [],
 ⟨none,50,(.store 5),[.t 8,.t 37],none⟩])
 (.joinT (Int×(Nat×Ob aB)×(List (ByteArray))×(List (aB))) (fun x=>⟨.slice .ro 5 a.length (gl aH a)::.dead::.dead::.dead::.dead::.ptr 19 0::.ptr 24 0::dd 23 (.int .i64 (a.length:Int)::.int .i64 x.1::dd 78 []),[(19,false,[.dead,.obj 66 x.2.1.1 0 x.2.1.2.nl x.2.1.2.n x.2.1.2.ks (ovs aC x.2.1.2)]),(24,false,[.slice .ro 1 x.2.2.1.length (gl aA x.2.2.1),.slice .ro 3 x.2.2.2.length (gl aC x.2.2.2)])],[]⟩) (.seq (.region [oT 38 51 (.fieldAddr 0) [8],
 oT 39 52 (.load false 1) [38]])
 (.block 2 (.seq (.region [⟨(some 41),53,(.bin .eql),[.t 39,.c (.int .i64 (1))],none⟩,
 mT 40 54 41])
 (.cond (.t 40) (.seq (.region [mT 42 55 5,
 oT 43 56 (.fieldAddr 1) [8],
 oT 44 57 (.load false 1) [43],
 oT 45 58 (.fieldAddr 2) [8],
 oT 46 59 (.load true 3) [45],
 oT 47 60 (.call true 145) [42,44,46]])
 (.region [mT 48 64 6,
 oT 49 65 (.fieldAddr 1) [8],
 oT 50 66 (.load false 1) [49],
 oT 51 67 (.fieldAddr 2) [8],
 oT 52 68 (.load true 3) [51],
 oT 53 69 (.call true 307) [48,50,52]])) (.seq (.region [⟨(some 55),73,(.bin .eql),[.t 39,.c (.int .i64 (2))],none⟩,
 mT 54 74 55])
 (.cond (.t 54) (.seq (.orders [[mT 56 75 5,oT 57 76 (.fieldAddr 1) [8],oT 58 77 (.load false 1) [57],oT 59 78 (.call true 163) [56,58],mT 60 82 6,oT 61 83 (.fieldAddr 1) [8],oT 62 84 (.load false 1) [61],oT 63 85 (.call true 308) [60,62],oT 64 89 (.binB true) [59,63]],
 [mT 56 75 5,oT 57 76 (.fieldAddr 1) [8],oT 58 77 (.load false 1) [57],mT 60 82 6,oT 61 83 (.fieldAddr 1) [8],oT 62 84 (.load false 1) [61],oT 59 78 (.call true 163) [56,58],oT 63 85 (.call true 308) [60,62],oT 64 89 (.binB true) [59,63]]])
 (.cond (.t 64) (.seq (.region [⟨(some 4),90,.move,[.c (.bool false)],none⟩])
 (.ret)) (.skip))) (.seq (.region [⟨(some 66),91,(.bin .eql),[.t 39,.c (.int .i64 (3))],none⟩,
 mT 65 92 66])
 (.cond (.t 65) (.seq (.region [mT 68 93 5,
 oT 69 94 (.fieldAddr 1) [8],
 oT 70 95 (.load false 1) [69],
 oT 71 96 (.call true 192) [68,70],
 mT 67 100 71,
 oT 72 101 (.extract 0) [67],
 oT 73 102 (.extract 1) [67],
 oT 9 103 (.alloc [.int .i64 (0),.int .i64 (0),.int .i64 (0)]) [],
 ⟨none,107,(.store 3),[.t 9,.t 72],none⟩,
 mT 10 108 73])
 (.seq (.region [mT 75 109 6,
 oT 76 110 (.fieldAddr 1) [8],
 oT 77 111 (.load false 1) [76],
 oT 78 112 (.call true 309) [75,77],
 mT 74 116 78,
 oT 79 117 (.extract 0) [74],
 oT 80 118 (.extract 1) [74],
 oT 11 119 (.alloc [.int .i64 (0),.int .i64 (0),.int .i64 (0)]) [],
 ⟨none,123,(.store 3),[.t 11,.t 79],none⟩,
 mT 12 124 80])
 (.seq (.region [oT 81 125 (.load true 3) [9],
 oT 82 126 (.load true 3) [11],
 oT 83 127 (.eqAgg true [0,0,0]) [81,82],
 mT 84 128 83,
 oG 85 129 .move [10] 84 false,
 oG 86 130 .move [12] 84 false,
 oG 87 131 (.binB true) [85,86] 84 false,
 ⟨(some 88),132,.pick,[.t 84,.c (.bool true),.t 87],none⟩])
 (.cond (.t 88) (.seq (.region [⟨(some 4),133,.move,[.c (.bool false)],none⟩])
 (.ret)) (.skip))))) (.seq (.region [⟨(some 90),134,(.bin .eql),[.t 39,.c (.int .i64 (4))],none⟩,
 mT 89 135 90])
 (.cond (.t 89) (.seq (.orders [[mT 91 136 5,oT 92 137 (.fieldAddr 2) [8],oT 93 138 (.load true 3) [92],oT 94 139 (.call true 148) [91,93],mT 95 143 6,oT 96 144 (.fieldAddr 2) [8],oT 97 145 (.load true 3) [96],oT 98 146 (.call true 310) [95,97],oT 99 150 (.call false 150) [94,98],oT 100 154 (.un .not) [99]],
 [mT 91 136 5,oT 92 137 (.fieldAddr 2) [8],oT 93 138 (.load true 3) [92],mT 95 143 6,oT 96 144 (.fieldAddr 2) [8],oT 97 145 (.load true 3) [96],oT 94 139 (.call true 148) [91,93],oT 98 146 (.call true 310) [95,97],oT 99 150 (.call false 150) [94,98],oT 100 154 (.un .not) [99]]])
 (.cond (.t 100) (.seq (.region [⟨(some 4),155,.move,[.c (.bool false)],none⟩])
 (.ret)) (.skip))) (.skip)))))))))))
 (.seq (.orders [[mT 101 156 5,oT 102 157 (.call true 261) [101],mT 103 161 6,oT 104 162 .nilCheck [103],oT 105 163 (.fieldAddr 0) [104],oT 106 164 (.load false 1) [105],oT 107 165 (.len false) [106],oT 108 166 (.bin .neq) [102,107]],
 [mT 101 156 5,mT 103 161 6,oT 104 162 .nilCheck [103],oT 105 163 (.fieldAddr 0) [104],oT 106 164 (.load false 1) [105],oT 102 157 (.call true 261) [101],oT 107 165 (.len false) [106],oT 108 166 (.bin .neq) [102,107]]])
 (.cond (.t 108) (.seq (.region [⟨(some 4),167,.move,[.c (.bool false)],none⟩])
 (.ret)) (.skip)))))))
 (.region [⟨(some 109),168,(.bin .add),[.t 31,.c (.int .i64 (1))],none⟩,
 mT 31 169 109])))))))
 (.seq (.region [⟨(some 4),170,.move,[.c (.bool true)],none⟩])
 (.ret)))))))))
 [.tmp 4] 0 108
def f273f.env:Env:=[(305,f305.C),(306,f306.C),(143,f143.C),(145,f145.C),(307,f307.C),(163,f163.C),(308,f308.C),(192,f192.C),(309,f309.C),(148,f148.C),(310,f310.C),(150,f150.C),(261,f261.C)]
def f273f.tree (a:List (aF)):Prop:=∃ c1:Unit,True∧Br (!(aT c1)) (∃ c4:Unit,True∧((aT c4)=(aT a))∧True) (f306.ent (fun c7=>(L20 c7)∧Br (!(iK c7)) (∃ c10:Unit,True∧((aT c10)=(aT a))∧True) (∃ c13:Unit,True∧∃ (I15:(Int×(Nat×Ob aB)×(List (ByteArray))×(List (aB)))→Prop) (μ16:(Int×(Nat×Ob aB)×(List (ByteArray))×(List (aB)))→Nat),(∃ x14:Int×(Nat×Ob aB)×(List (ByteArray))×(List (aB)),SlS aH a (((a.length:Int)=(a.length:Int))∧((0:Int)=x14.1)∧ObQ 0 x14.2.1.1 (ob0 aB).nl x14.2.1.2.nl (ob0 aB).n x14.2.1.2.n (ob0 aB).ks x14.2.1.2.ks (fun _ _=>[]) (ovs aC x14.2.1.2) (SlQ 0 x14.2.2.1.length fF (gl aA x14.2.2.1) (SlQ 0 x14.2.2.2.length fF (gl aC x14.2.2.2) (I15 x14)))))∧∀ y17:Int×(Nat×Ob aB)×(List (ByteArray))×(List (aB)),I15 y17→(Br (decide (y17.1 < (a.length:Int))) (Br (decide ((0:Int)≤y17.1)&&decide (y17.1 < (a.length:Int))) (∃ I21:(Int×(Nat×Ob aB)×(List (ByteArray))×(List (aB)))→Prop,(Br (((at_ a y17.1).1)==(1:Int)) (∃ c24:(Ob aB)×ByteArray×aB,(((at_ a y17.1).2.1)=c24.2.1)∧((((at_ a y17.1).2.2).1)=c24.2.2.1)∧((((at_ a y17.1).2.2).2.1)=c24.2.2.2.1)∧((((at_ a y17.1).2.2).2.2)=c24.2.2.2.2)∧ObQ 0 0 y17.2.1.2.nl c24.1.nl y17.2.1.2.n c24.1.n y17.2.1.2.ks c24.1.ks (ovs aC y17.2.1.2) (ovs aC c24.1) (True∧∃ c25:aE×ByteArray×aB,(((at_ a y17.1).2.1)=c25.2.1)∧((((at_ a y17.1).2.2).1)=c25.2.2.1)∧((((at_ a y17.1).2.2).2.1)=c25.2.2.2.1)∧((((at_ a y17.1).2.2).2.2)=c25.2.2.2.2)∧SlQ y17.2.2.1.length c25.1.1.length (gl aA y17.2.2.1) (gl aA c25.1.1) (SlQ y17.2.2.2.length c25.1.2.length (gl aC y17.2.2.2) (gl aC c25.1.2) ((lL c25)∧∃ x26:Int×(Nat×Ob aB)×(List (ByteArray))×(List (aB)),SlS aH a (((a.length:Int)=(a.length:Int))∧(y17.1=x26.1)∧ObQ (y17.2.1.1+1) x26.2.1.1 (putX c24).nl x26.2.1.2.nl (putX c24).n x26.2.1.2.n (putX c24).ks x26.2.1.2.ks (ovs aC (putX c24)) (ovs aC x26.2.1.2) (SlQ (((fU c25).1).length) x26.2.2.1.length (gl aA ((fU c25).1)) (gl aA x26.2.2.1) (SlQ (((fU c25).2).length) x26.2.2.2.length (gl aC ((fU c25).2)) (gl aC x26.2.2.2) (I21 x26)))))))) (Br (((at_ a y17.1).1)==(2:Int)) ((∃ c31:(Ob aB)×ByteArray,(((at_ a y17.1).2.1)=c31.2)∧ObQ 0 0 y17.2.1.2.nl c31.1.nl y17.2.1.2.n c31.1.n y17.2.1.2.ks c31.1.ks (ovs aC y17.2.1.2) (ovs aC c31.1) (True∧∃ c32:aE×ByteArray,(((at_ a y17.1).2.1)=c32.2)∧SlQ y17.2.2.1.length c32.1.1.length (gl aA y17.2.2.1) (gl aA c32.1.1) (SlQ y17.2.2.2.length c32.1.2.length (gl aC y17.2.2.2) (gl aC c32.1.2) ((dL c32)∧Br (!(((delX c31).1)==((cU c32).1))) ((false=(aT a))∧True) (∃ x36:Int×(Nat×Ob aB)×(List (ByteArray))×(List (aB)),SlS aH a (((a.length:Int)=(a.length:Int))∧(y17.1=x36.1)∧ObQ (y17.2.1.1+1) x36.2.1.1 ((delX c31).2).nl x36.2.1.2.nl ((delX c31).2).n x36.2.1.2.n ((delX c31).2).ks x36.2.1.2.ks (ovs aC ((delX c31).2)) (ovs aC x36.2.1.2) (SlQ ((((cU c32).2).1).length) x36.2.2.1.length (gl aA (((cU c32).2).1)) (gl aA x36.2.2.1) (SlQ ((((cU c32).2).2).length) x36.2.2.2.length (gl aC (((cU c32).2).2)) (gl aC x36.2.2.2) (I21 x36)))))))))∧(∃ c31:(Ob aB)×ByteArray,(((at_ a y17.1).2.1)=c31.2)∧ObQ 0 0 y17.2.1.2.nl c31.1.nl y17.2.1.2.n c31.1.n y17.2.1.2.ks c31.1.ks (ovs aC y17.2.1.2) (ovs aC c31.1) (True∧∃ c32:aE×ByteArray,(((at_ a y17.1).2.1)=c32.2)∧SlQ y17.2.2.1.length c32.1.1.length (gl aA y17.2.2.1) (gl aA c32.1.1) (SlQ y17.2.2.2.length c32.1.2.length (gl aC y17.2.2.2) (gl aC c32.1.2) ((dL c32)∧Br (!(((delX c31).1)==((cU c32).1))) ((false=(aT a))∧True) (∃ x36:Int×(Nat×Ob aB)×(List (ByteArray))×(List (aB)),SlS aH a (((a.length:Int)=(a.length:Int))∧(y17.1=x36.1)∧ObQ (y17.2.1.1+1) x36.2.1.1 ((delX c31).2).nl x36.2.1.2.nl ((delX c31).2).n x36.2.1.2.n ((delX c31).2).ks x36.2.1.2.ks (ovs aC ((delX c31).2)) (ovs aC x36.2.1.2) (SlQ ((((cU c32).2).1).length) x36.2.2.1.length (gl aA (((cU c32).2).1)) (gl aA x36.2.2.1) (SlQ ((((cU c32).2).2).length) x36.2.2.2.length (gl aC (((cU c32).2).2)) (gl aC x36.2.2.2) (I21 x36)))))))))) (Br (((at_ a y17.1).1)==(3:Int)) (∃ c43:(Ob aB)×ByteArray,(((at_ a y17.1).2.1)=c43.2)∧ObQ 0 0 y17.2.1.2.nl c43.1.nl y17.2.1.2.n c43.1.n y17.2.1.2.ks c43.1.ks (ovs aC y17.2.1.2) (ovs aC c43.1) (True∧∃ c44:aE×ByteArray,(((at_ a y17.1).2.1)=c44.2)∧SlQ y17.2.2.1.length c44.1.1.length (gl aA y17.2.2.1) (gl aA c44.1.1) (SlQ y17.2.2.2.length c44.1.2.length (gl aC y17.2.2.2) (gl aC c44.1.2) ((dL c44)∧Br (!(((((getX c43).1).1)==((((cB (0,0,0)) c44).1).1))&&(((((getX c43).1).2.1)==((((cB (0,0,0)) c44).1).2.1))&&((((getX c43).1).2.2)==((((cB (0,0,0)) c44).1).2.2))))) ((false=(aT a))∧True) (Br (!(((getX c43).2.1)==(((cB (0,0,0)) c44).2.1))) ((false=(aT a))∧True) (∃ x51:Int×(Nat×Ob aB)×(List (ByteArray))×(List (aB)),SlS aH a (((a.length:Int)=(a.length:Int))∧(y17.1=x51.1)∧ObQ (y17.2.1.1+1) x51.2.1.1 ((getX c43).2.2).nl x51.2.1.2.nl ((getX c43).2.2).n x51.2.1.2.n ((getX c43).2.2).ks x51.2.1.2.ks (ovs aC ((getX c43).2.2)) (ovs aC x51.2.1.2) (SlQ (((((cB (0,0,0)) c44).2.2).1).length) x51.2.2.1.length (gl aA ((((cB (0,0,0)) c44).2.2).1)) (gl aA x51.2.2.1) (SlQ (((((cB (0,0,0)) c44).2.2).2).length) x51.2.2.2.length (gl aC ((((cB (0,0,0)) c44).2.2).2)) (gl aC x51.2.2.2) (I21 x51)))))))))) (Br (((at_ a y17.1).1)==(4:Int)) ((∃ c60:(Ob aB)×aB,((((at_ a y17.1).2.2).1)=c60.2.1)∧((((at_ a y17.1).2.2).2.1)=c60.2.2.1)∧((((at_ a y17.1).2.2).2.2)=c60.2.2.2)∧ObQ 0 0 y17.2.1.2.nl c60.1.nl y17.2.1.2.n c60.1.n y17.2.1.2.ks c60.1.ks (ovs aC y17.2.1.2) (ovs aC c60.1) ((eP c60)∧∃ c61:aE×aB,((((at_ a y17.1).2.2).1)=c61.2.1)∧((((at_ a y17.1).2.2).2.1)=c61.2.2.1)∧((((at_ a y17.1).2.2).2.2)=c61.2.2.2)∧SlQ y17.2.2.1.length c61.1.1.length (gl aA y17.2.2.1) (gl aA c61.1.1) (SlQ y17.2.2.2.length c61.1.2.length (gl aC y17.2.2.2) (gl aC c61.1.2) ((gE c61)∧f150.ent (fun c62=>(fN c62)∧Br (!(eV c62)) ((false=(aT a))∧True) (∃ x66:Int×(Nat×Ob aB)×(List (ByteArray))×(List (aB)),SlS aH a (((a.length:Int)=(a.length:Int))∧(y17.1=x66.1)∧ObQ (y17.2.1.1+1) x66.2.1.1 ((bK c60).2).nl x66.2.1.2.nl ((bK c60).2).n x66.2.1.2.n ((bK c60).2).ks x66.2.1.2.ks (ovs aC ((bK c60).2)) (ovs aC x66.2.1.2) (SlQ ((((bV c61).2).1).length) x66.2.2.1.length (gl aA (((bV c61).2).1)) (gl aA x66.2.2.1) (SlQ ((((bV c61).2).2).length) x66.2.2.2.length (gl aC (((bV c61).2).2)) (gl aC x66.2.2.2) (I21 x66)))))) ((bK c60).1,(bV c61).1)))))∧(∃ c60:(Ob aB)×aB,((((at_ a y17.1).2.2).1)=c60.2.1)∧((((at_ a y17.1).2.2).2.1)=c60.2.2.1)∧((((at_ a y17.1).2.2).2.2)=c60.2.2.2)∧ObQ 0 0 y17.2.1.2.nl c60.1.nl y17.2.1.2.n c60.1.n y17.2.1.2.ks c60.1.ks (ovs aC y17.2.1.2) (ovs aC c60.1) ((eP c60)∧∃ c61:aE×aB,((((at_ a y17.1).2.2).1)=c61.2.1)∧((((at_ a y17.1).2.2).2.1)=c61.2.2.1)∧((((at_ a y17.1).2.2).2.2)=c61.2.2.2)∧SlQ y17.2.2.1.length c61.1.1.length (gl aA y17.2.2.1) (gl aA c61.1.1) (SlQ y17.2.2.2.length c61.1.2.length (gl aC y17.2.2.2) (gl aC c61.1.2) ((gE c61)∧f150.ent (fun c62=>(fN c62)∧Br (!(eV c62)) ((false=(aT a))∧True) (∃ x66:Int×(Nat×Ob aB)×(List (ByteArray))×(List (aB)),SlS aH a (((a.length:Int)=(a.length:Int))∧(y17.1=x66.1)∧ObQ (y17.2.1.1+1) x66.2.1.1 ((bK c60).2).nl x66.2.1.2.nl ((bK c60).2).n x66.2.1.2.n ((bK c60).2).ks x66.2.1.2.ks (ovs aC ((bK c60).2)) (ovs aC x66.2.1.2) (SlQ ((((bV c61).2).1).length) x66.2.2.1.length (gl aA (((bV c61).2).1)) (gl aA x66.2.2.1) (SlQ ((((bV c61).2).2).length) x66.2.2.2.length (gl aC (((bV c61).2).2)) (gl aC x66.2.2.2) (I21 x66)))))) ((bK c60).1,(bV c61).1)))))) (∃ x72:Int×(Nat×Ob aB)×(List (ByteArray))×(List (aB)),SlS aH a (((a.length:Int)=(a.length:Int))∧(y17.1=x72.1)∧ObQ y17.2.1.1 x72.2.1.1 y17.2.1.2.nl x72.2.1.2.nl y17.2.1.2.n x72.2.1.2.n y17.2.1.2.ks x72.2.1.2.ks (ovs aC y17.2.1.2) (ovs aC x72.2.1.2) (SlQ y17.2.2.1.length x72.2.2.1.length (gl aA y17.2.2.1) (gl aA x72.2.2.1) (SlQ y17.2.2.2.length x72.2.2.2.length (gl aC y17.2.2.2) (gl aC x72.2.2.2) (I21 x72)))))))))∧∀ y81:Int×(Nat×Ob aB)×(List (ByteArray))×(List (aB)),I21 y81→((∃ c84:Ob aB,ObQ 0 0 y81.2.1.2.nl c84.nl y81.2.1.2.n c84.n y81.2.1.2.ks c84.ks (ovs aC y81.2.1.2) (ovs aC c84) (True∧Br (((lenX c84).1) != (y81.2.2.1.length:Int)) ((false=(aT a))∧True) (Let (wI (y81.1+(1:Int))) (fun v88:Int=>∃ x89:Int×(Nat×Ob aB)×(List (ByteArray))×(List (aB)),SlS aH a (((a.length:Int)=(a.length:Int))∧(v88=x89.1)∧ObQ (y81.2.1.1+1) x89.2.1.1 ((lenX c84).2).nl x89.2.1.2.nl ((lenX c84).2).n x89.2.1.2.n ((lenX c84).2).ks x89.2.1.2.ks (ovs aC ((lenX c84).2)) (ovs aC x89.2.1.2) (SlQ y81.2.2.1.length x89.2.2.1.length (gl aA y81.2.2.1) (gl aA x89.2.2.1) (SlQ y81.2.2.2.length x89.2.2.2.length (gl aC y81.2.2.2) (gl aC x89.2.2.2) (I15 x89∧μ16 x89 < μ16 y17))))))))∧(∃ c84:Ob aB,ObQ 0 0 y81.2.1.2.nl c84.nl y81.2.1.2.n c84.n y81.2.1.2.ks c84.ks (ovs aC y81.2.1.2) (ovs aC c84) (True∧Br (((lenX c84).1) != (y81.2.2.1.length:Int)) ((false=(aT a))∧True) (Let (wI (y81.1+(1:Int))) (fun v88:Int=>∃ x89:Int×(Nat×Ob aB)×(List (ByteArray))×(List (aB)),SlS aH a (((a.length:Int)=(a.length:Int))∧(v88=x89.1)∧ObQ (y81.2.1.1+1) x89.2.1.1 ((lenX c84).2).nl x89.2.1.2.nl ((lenX c84).2).n x89.2.1.2.n ((lenX c84).2).ks x89.2.1.2.ks (ovs aC ((lenX c84).2)) (ovs aC x89.2.1.2) (SlQ y81.2.2.1.length x89.2.2.1.length (gl aA y81.2.2.1) (gl aA x89.2.2.1) (SlQ y81.2.2.2.length x89.2.2.2.length (gl aC y81.2.2.2) (gl aC x89.2.2.2) (I15 x89∧μ16 x89 < μ16 y17)))))))))) False) ((true=(aT a))∧True)))) a)
def f273f.vc (a:List (aF)):Prop:=((¬((aT ())=true)→((aT ())=aT a))∧(¬(¬((aT ())=true))→(L20 a∧((¬((iK a)=true)→((aT ())=aT a))∧(¬(¬((iK a)=true))→(∃ (I15:(Int×(Nat×Ob aB)×(List (ByteArray))×(List (aB)))→Prop) (μ16:(Int×(Nat×Ob aB)×(List (ByteArray))×(List (aB)))→Nat),I15 ((0:Int),(0,ob0 aB),[],[])∧∀ y17:Int×(Nat×Ob aB)×(List (ByteArray))×(List (aB)),I15 y17→((y17.1 < (a.length:Int)→((0:Int)≤y17.1∧y17.1 < (a.length:Int)∧(∃ I21:(Int×(Nat×Ob aB)×(List (ByteArray))×(List (aB)))→Prop,(((((at_ a y17.1).1)=(1:Int)→(lL (y17.2.2,(at_ a y17.1).2.1,((at_ a y17.1).2.2))∧(I21 (y17.1,(y17.2.1.1+1,(putX (y17.2.1.2,(at_ a y17.1).2.1,((at_ a y17.1).2.2)))),(fU (y17.2.2,(at_ a y17.1).2.1,((at_ a y17.1).2.2))).1,(fU (y17.2.2,(at_ a y17.1).2.1,((at_ a y17.1).2.2))).2))))∧(¬(((at_ a y17.1).1)=(1:Int))→((((at_ a y17.1).1)=(2:Int)→(dL (y17.2.2,(at_ a y17.1).2.1)∧(((!(((delX (y17.2.1.2,(at_ a y17.1).2.1)).1)==((cU (y17.2.2,(at_ a y17.1).2.1)).1)))=true→(false=aT a))∧(¬((!(((delX (y17.2.1.2,(at_ a y17.1).2.1)).1)==((cU (y17.2.2,(at_ a y17.1).2.1)).1)))=true)→(I21 (y17.1,(y17.2.1.1+1,(delX (y17.2.1.2,(at_ a y17.1).2.1)).2),((cU (y17.2.2,(at_ a y17.1).2.1)).2).1,((cU (y17.2.2,(at_ a y17.1).2.1)).2).2))))))∧(¬(((at_ a y17.1).1)=(2:Int))→((((at_ a y17.1).1)=(3:Int)→(dL (y17.2.2,(at_ a y17.1).2.1)∧((¬((((getX (y17.2.1.2,(at_ a y17.1).2.1)).1).1)=((((cB (0,0,0)) (y17.2.2,(at_ a y17.1).2.1)).1).1)∧(((getX (y17.2.1.2,(at_ a y17.1).2.1)).1).2.1)=((((cB (0,0,0)) (y17.2.2,(at_ a y17.1).2.1)).1).2.1)∧(((getX (y17.2.1.2,(at_ a y17.1).2.1)).1).2.2)=((((cB (0,0,0)) (y17.2.2,(at_ a y17.1).2.1)).1).2.2))→(false=aT a))∧(¬(¬((((getX (y17.2.1.2,(at_ a y17.1).2.1)).1).1)=((((cB (0,0,0)) (y17.2.2,(at_ a y17.1).2.1)).1).1)∧(((getX (y17.2.1.2,(at_ a y17.1).2.1)).1).2.1)=((((cB (0,0,0)) (y17.2.2,(at_ a y17.1).2.1)).1).2.1)∧(((getX (y17.2.1.2,(at_ a y17.1).2.1)).1).2.2)=((((cB (0,0,0)) (y17.2.2,(at_ a y17.1).2.1)).1).2.2)))→(((!(((getX (y17.2.1.2,(at_ a y17.1).2.1)).2.1)==(((cB (0,0,0)) (y17.2.2,(at_ a y17.1).2.1)).2.1)))=true→(false=aT a))∧(¬((!(((getX (y17.2.1.2,(at_ a y17.1).2.1)).2.1)==(((cB (0,0,0)) (y17.2.2,(at_ a y17.1).2.1)).2.1)))=true)→(I21 (y17.1,(y17.2.1.1+1,(getX (y17.2.1.2,(at_ a y17.1).2.1)).2.2),(((cB (0,0,0)) (y17.2.2,(at_ a y17.1).2.1)).2.2).1,(((cB (0,0,0)) (y17.2.2,(at_ a y17.1).2.1)).2.2).2))))))))∧(¬(((at_ a y17.1).1)=(3:Int))→((((at_ a y17.1).1)=(4:Int)→(eP (y17.2.1.2,((at_ a y17.1).2.2))∧(gE (y17.2.2,((at_ a y17.1).2.2))∧(fN ((bK (y17.2.1.2,((at_ a y17.1).2.2))).1,(bV (y17.2.2,((at_ a y17.1).2.2))).1)∧((¬((eV ((bK (y17.2.1.2,((at_ a y17.1).2.2))).1,(bV (y17.2.2,((at_ a y17.1).2.2))).1))=true)→(false=aT a))∧(¬(¬((eV ((bK (y17.2.1.2,((at_ a y17.1).2.2))).1,(bV (y17.2.2,((at_ a y17.1).2.2))).1))=true))→(I21 (y17.1,(y17.2.1.1+1,(bK (y17.2.1.2,((at_ a y17.1).2.2))).2),((bV (y17.2.2,((at_ a y17.1).2.2))).2).1,((bV (y17.2.2,((at_ a y17.1).2.2))).2).2))))))))∧(¬(((at_ a y17.1).1)=(4:Int))→(I21 (y17.1,(y17.2.1.1,y17.2.1.2),y17.2.2.1,y17.2.2.2)))))))))))∧∀ y81:Int×(Nat×Ob aB)×(List (ByteArray))×(List (aB)),I21 y81→((¬((lenX (y81.2.1.2)).1)=(y81.2.2.1.length:Int)→(false=aT a))∧(¬(¬((lenX (y81.2.1.2)).1)=(y81.2.2.1.length:Int))→(-9223372036854775808≤(y81.1+(1:Int))∧(y81.1+(1:Int))≤9223372036854775807∧(I15 ((y81.1+(1:Int)),(y81.2.1.1+1,(lenX (y81.2.1.2)).2),y81.2.2.1,y81.2.2.2)∧μ16 ((y81.1+(1:Int)),(y81.2.1.1+1,(lenX (y81.2.1.2)).2),y81.2.2.1,y81.2.2.2) < μ16 y17)))))))∧(¬(y17.1 < (a.length:Int))→(true=aT a)))))))))
theorem f273f.of (a:List (aF)) (h:f273f.vc a):f273f.tree a:=⟨(),⟨trivial,br h (Cnd.not Cnd.b) (fun h2 k108=>⟨(),⟨trivial,⟨k108,trivial⟩⟩⟩) (fun h3 k109=>(f306.ei ⟨k109.1,br k109.2 (Cnd.not Cnd.b) (fun h8 k105=>⟨(),⟨trivial,⟨k105,trivial⟩⟩⟩) (fun h9 k106=>⟨(),⟨trivial,Exists.elim k106 (fun I15 h101_=>Exists.elim h101_ (fun μ16 h101=>⟨I15,μ16,⟨((0:Int),(0,ob0 aB),[],[]),SlS.mk  (⟨rfl,⟨rfl,obQ rfl (OV.zero (e:=aC)) rfl (slQ (Rds.nil (enc:=aA)) (slQ (Rds.nil (enc:=aC)) (h101.1)))⟩⟩)⟩,fun y17 h103=>br (h101.2 y17 h103) Cnd.dec (fun h18 k99=>chk k99.2.2 Cnd.ix ⟨k99.1,k99.2.1⟩ (fun h20 k97=>Exists.elim k97 (fun I21 h83=>⟨I21,br h83.1 Cnd.eq (fun h22 k79=>⟨(y17.2.1.2,(at_ a y17.1).2.1,((at_ a y17.1).2.2)),⟨rfl,⟨rfl,⟨rfl,⟨rfl,obQ rfl (OV.self (e:=aC)) rfl (⟨trivial,⟨(y17.2.2,(at_ a y17.1).2.1,((at_ a y17.1).2.2)),⟨rfl,⟨rfl,⟨rfl,⟨rfl,slQ (rS aA) (slQ (rS aC) (⟨k79.1,⟨(y17.1,(y17.2.1.1+1,(putX (y17.2.1.2,(at_ a y17.1).2.1,((at_ a y17.1).2.2)))),(fU (y17.2.2,(at_ a y17.1).2.1,((at_ a y17.1).2.2))).1,(fU (y17.2.2,(at_ a y17.1).2.1,((at_ a y17.1).2.2))).2),SlS.mk  (⟨rfl,⟨rfl,obQ rfl (OV.self (e:=aC)) rfl (slQ (rS aA) (slQ (rS aC) (k79.2)))⟩⟩)⟩⟩))⟩⟩⟩⟩⟩⟩)⟩⟩⟩⟩⟩) (fun h23 k80=>br k80 Cnd.eq (fun h29 k77=>⟨⟨(y17.2.1.2,(at_ a y17.1).2.1),⟨rfl,obQ rfl (OV.self (e:=aC)) rfl (⟨trivial,⟨(y17.2.2,(at_ a y17.1).2.1),⟨rfl,slQ (rS aA) (slQ (rS aC) (⟨k77.1,br k77.2 Cnd.b (fun h33 k37=>⟨k37,trivial⟩) (fun h34 k38=>⟨(y17.1,(y17.2.1.1+1,(delX (y17.2.1.2,(at_ a y17.1).2.1)).2),((cU (y17.2.2,(at_ a y17.1).2.1)).2).1,((cU (y17.2.2,(at_ a y17.1).2.1)).2).2),SlS.mk  (⟨rfl,⟨rfl,obQ rfl (OV.self (e:=aC)) rfl (slQ (rS aA) (slQ (rS aC) (k38)))⟩⟩)⟩)⟩))⟩⟩⟩)⟩⟩,⟨(y17.2.1.2,(at_ a y17.1).2.1),⟨rfl,obQ rfl (OV.self (e:=aC)) rfl (⟨trivial,⟨(y17.2.2,(at_ a y17.1).2.1),⟨rfl,slQ (rS aA) (slQ (rS aC) (⟨k77.1,br k77.2 Cnd.b (fun h33 k37=>⟨k37,trivial⟩) (fun h34 k38=>⟨(y17.1,(y17.2.1.1+1,(delX (y17.2.1.2,(at_ a y17.1).2.1)).2),((cU (y17.2.2,(at_ a y17.1).2.1)).2).1,((cU (y17.2.2,(at_ a y17.1).2.1)).2).2),SlS.mk  (⟨rfl,⟨rfl,obQ rfl (OV.self (e:=aC)) rfl (slQ (rS aA) (slQ (rS aC) (k38)))⟩⟩)⟩)⟩))⟩⟩⟩)⟩⟩⟩) (fun h30 k78=>br k78 Cnd.eq (fun h41 k75=>⟨(y17.2.1.2,(at_ a y17.1).2.1),⟨rfl,obQ rfl (OV.self (e:=aC)) rfl (⟨trivial,⟨(y17.2.2,(at_ a y17.1).2.1),⟨rfl,slQ (rS aA) (slQ (rS aC) (⟨k75.1,br k75.2 (Cnd.not (Cnd.and Cnd.eq (Cnd.and Cnd.eq Cnd.eq))) (fun h45 k54=>⟨k54,trivial⟩) (fun h46 k55=>br k55 Cnd.b (fun h48 k52=>⟨k52,trivial⟩) (fun h49 k53=>⟨(y17.1,(y17.2.1.1+1,(getX (y17.2.1.2,(at_ a y17.1).2.1)).2.2),(((cB (0,0,0)) (y17.2.2,(at_ a y17.1).2.1)).2.2).1,(((cB (0,0,0)) (y17.2.2,(at_ a y17.1).2.1)).2.2).2),SlS.mk  (⟨rfl,⟨rfl,obQ rfl (OV.self (e:=aC)) rfl (slQ (rS aA) (slQ (rS aC) (k53)))⟩⟩)⟩))⟩))⟩⟩⟩)⟩⟩) (fun h42 k76=>br k76 Cnd.eq (fun h58 k73=>⟨⟨(y17.2.1.2,((at_ a y17.1).2.2)),⟨rfl,⟨rfl,⟨rfl,obQ rfl (OV.self (e:=aC)) rfl (⟨k73.1,⟨(y17.2.2,((at_ a y17.1).2.2)),⟨rfl,⟨rfl,⟨rfl,slQ (rS aA) (slQ (rS aC) (⟨k73.2.1,(f150.ei ⟨k73.2.2.1,br k73.2.2.2 (Cnd.not Cnd.b) (fun h63 k67=>⟨k67,trivial⟩) (fun h64 k68=>⟨(y17.1,(y17.2.1.1+1,(bK (y17.2.1.2,((at_ a y17.1).2.2))).2),((bV (y17.2.2,((at_ a y17.1).2.2))).2).1,((bV (y17.2.2,((at_ a y17.1).2.2))).2).2),SlS.mk  (⟨rfl,⟨rfl,obQ rfl (OV.self (e:=aC)) rfl (slQ (rS aA) (slQ (rS aC) (k68)))⟩⟩)⟩)⟩)⟩))⟩⟩⟩⟩⟩)⟩⟩⟩⟩,⟨(y17.2.1.2,((at_ a y17.1).2.2)),⟨rfl,⟨rfl,⟨rfl,obQ rfl (OV.self (e:=aC)) rfl (⟨k73.1,⟨(y17.2.2,((at_ a y17.1).2.2)),⟨rfl,⟨rfl,⟨rfl,slQ (rS aA) (slQ (rS aC) (⟨k73.2.1,(f150.ei ⟨k73.2.2.1,br k73.2.2.2 (Cnd.not Cnd.b) (fun h63 k67=>⟨k67,trivial⟩) (fun h64 k68=>⟨(y17.1,(y17.2.1.1+1,(bK (y17.2.1.2,((at_ a y17.1).2.2))).2),((bV (y17.2.2,((at_ a y17.1).2.2))).2).1,((bV (y17.2.2,((at_ a y17.1).2.2))).2).2),SlS.mk  (⟨rfl,⟨rfl,obQ rfl (OV.self (e:=aC)) rfl (slQ (rS aA) (slQ (rS aC) (k68)))⟩⟩)⟩)⟩)⟩))⟩⟩⟩⟩⟩)⟩⟩⟩⟩⟩) (fun h59 k74=>⟨(y17.1,(y17.2.1.1,y17.2.1.2),y17.2.2.1,y17.2.2.2),SlS.mk  (⟨rfl,⟨rfl,obQ rfl (OV.self (e:=aC)) rfl (slQ (rS aA) (slQ (rS aC) (k74)))⟩⟩)⟩)))),fun y81 h82=>⟨⟨y81.2.1.2,obQ rfl (OV.self (e:=aC)) rfl (⟨trivial,br (h83.2 y81 h82) Cnd.ne (fun h85 k94=>⟨k94,trivial⟩) (fun h86 k95=>wrapK.i64 k95 (fun h91 h92 k93=>⟨((y81.1+(1:Int)),(y81.2.1.1+1,(lenX (y81.2.1.2)).2),y81.2.2.1,y81.2.2.2),SlS.mk  (⟨rfl,⟨rfl,obQ rfl (OV.self (e:=aC)) rfl (slQ (rS aA) (slQ (rS aC) (k93)))⟩⟩)⟩))⟩)⟩,⟨y81.2.1.2,obQ rfl (OV.self (e:=aC)) rfl (⟨trivial,br (h83.2 y81 h82) Cnd.ne (fun h85 k94=>⟨k94,trivial⟩) (fun h86 k95=>wrapK.i64 k95 (fun h91 h92 k93=>⟨((y81.1+(1:Int)),(y81.2.1.1+1,(lenX (y81.2.1.2)).2),y81.2.2.1,y81.2.2.2),SlS.mk  (⟨rfl,⟨rfl,obQ rfl (OV.self (e:=aC)) rfl (slQ (rS aA) (slQ (rS aC) (k93)))⟩⟩)⟩))⟩)⟩⟩⟩))) (fun h19 k100=>⟨k100,trivial⟩)⟩))⟩⟩)⟩))⟩⟩
theorem f273f.eq (a:List (aF)):(f273f.af a).gives f273f.env (f273.args (a,false)) (f273.blks (a,false)) (f273.res (a,false)) (f273.blks' (a,false))=f273f.tree a:=by kernel_rfl
def f273.kills (a:(List (aF))×Bool):List Hint:=bif a.2 then f273t.kills a.1 else f273f.kills a.1
def f273.cuts (a:(List (aF))×Bool):List (Nat×Σ β:Type,β→Tm):=bif a.2 then f273t.cuts a.1 else f273f.cuts a.1
def f273.af (a:(List (aF))×Bool):AF:=bif a.2 then f273t.af a.1 else f273f.af a.1
def f273.tree (a:(List (aF))×Bool):Prop:=bif a.2 then f273t.tree a.1 else f273f.tree a.1
def f273.env:Env:=f273t.env
def f273.vc (a:(List (aF))×Bool):Prop:=(a.2=true→f273t.vc a.1)∧(a.2=false→f273f.vc a.1)
theorem f273.of (a:(List (aF))×Bool) (h:f273.vc a):f273.tree a:=by
 obtain ⟨s0,s1⟩:=a
 cases s1 with
 | false=>exact f273f.of s0 (h.2 rfl)
 | true=>exact f273t.of s0 (h.1 rfl)
theorem f273.eq (a:(List (aF))×Bool):(f273.af a).gives f273.env (f273.args a) (f273.blks a) (f273.res a) (f273.blks' a)=f273.tree a:=by
 obtain ⟨s0,s1⟩:=a
 cases s1 with
 | false=>exact f273f.eq s0
 | true=>exact f273t.eq s0
section
variable {o:Ob Rs3} {l:List (ByteArray×Rs3)}
theorem y2 (r:Rep spB o l):(lenX o).1=(((pu l).1).length:Int):=by rw [r.lenX,aM0]
theorem zE (r:Rep spB o l) {k:ByteArray}:(delX (o,k)).1=(cU (pu l,k)).1:=by
 rw [(r.delX k).1,aAY r.ris k (0,0,0)]
theorem aKY (r:Rep spB o l) (k:ByteArray):(getX (o,k)).1=((cB (0,0,0)) (pu l,k)).1:=by
 rw [(r.getX k).1,aGT]
theorem aAO (r:Rep spB o l) (k:ByteArray):(getX (o,k)).2.1=((cB (0,0,0)) (pu l,k)).2.1:=by
 rw [(r.getX k).2,aGT]
theorem y0 (r:Rep spB o l) (k:ByteArray):(getX (o,k)).1.1=((cB (0,0,0)) (pu l,k)).1.1∧(getX (o,k)).1.2.1=((cB (0,0,0)) (pu l,k)).1.2.1∧(getX (o,k)).1.2.2=((cB (0,0,0)) (pu l,k)).1.2.2:=by
 rw [aKY r k]
 exact ⟨rfl,rfl,rfl⟩
theorem aEJ (r:Rep spB o l) (rg:Rg l) (x:Rs3):(bK (o,x)).1=(bV (pu l,x)).1:=by
 show aGK o x=jN (pz (pu l)) x
 rw [r.atLe rg,aD4]
theorem tN (r:Rep spB o l) (rg:Rg l) (h:l.length≤1048576) (x:Rs3):fN ((bK (o,x)).1,(bV (pu l,x)).1):=by
 rw [aEJ r rg]
 have h1:(bV (pu l,x)).1=jN l x:=by
  show jN (pz (pu l)) x=_
  rw [aD4]
 rw [h1]
 have:=aDC l x
 exact ⟨Nat.le_trans this h,Nat.le_trans this h⟩
theorem xW (r:Rep spB o l) (rg:Rg l) (x:Rs3):eV ((bK (o,x)).1,(bV (pu l,x)).1)=true:=decide_eq_true (aEJ r rg x)
end
theorem aNR (a:List (Int×ByteArray×Rs3)) (b:Bool) (h:f273.lpre (a,b)):a.length≤1048576∧∀ x∈a,x.2.2.1≤9223372036854775807:=by
 have h1:b9.size a+1≤1048576:=h.2
 exact ⟨aBD (by omega),aL3 h.1.1⟩
theorem f273t.ok (a:List (Int×ByteArray×Rs3)) (_:f273.lpre (a,true)):f273t.vc a:=by
 refine ⟨fun c=>absurd rfl c,fun _=>?_⟩
 obtain ⟨hsz,hwf⟩:=aNR a true ‹_›
 refine ⟨hsz,fun _=>rfl,fun hf=>?_⟩
 have hf:=(lB.1 (Classical.not_not.1 hf)).1
 refine ⟨fun y=>0≤y.1∧y.1≤(a.length:Int)∧∃ l,(y.2.1,y.2.2.1)=pu l∧Rep spB y.2.2.2.2 l∧Rg l∧l.length≤y.1.toNat,fun y=>a.length - y.1.toNat,
  ⟨by simp only; omega,by simp only; omega,[],rfl,Rep.zero,Rg.nil,Nat.zero_le _⟩,fun y hy=>?_⟩
 obtain ⟨i,ns,as,c,o⟩:=y
 obtain ⟨g0,g1,l,hp,r,rg,hl⟩:=hy
 simp only at g0 g1 hp r rg hl
 obtain ⟨rfl,rfl⟩:=Prod.mk.inj hp
 refine ⟨fun hlt=>?_,fun _=>rfl⟩
 simp only at hlt
 have pp:sN (pu l):=aJZ (by omega)
 refine ⟨g0,hlt,fun y=>y.1=i∧∃ l,(y.2.1,y.2.2.1)=pu l∧Rep spB y.2.2.2.2 l∧Rg l∧l.length≤i.toNat+1,?_,fun y hy=>?_⟩
 ·exact ⟨fun _=>⟨pp,rfl,_,aG9 l _ _,r.putX _ _,rg.put _ (hwf _ (aJ2 g0 hlt)),Nat.le_trans (aGU _ _ _) (by omega)⟩,
   fun _=>⟨fun _=>⟨pp,fun c=>absurd c (t7 (zE r)),fun _=>⟨rfl,_,congrArg Prod.snd (aAY r.ris _ (0,0,0)),(r.delX _).2,rg.del _,Nat.le_trans (o8 _ _) (by omega)⟩⟩,
    fun _=>⟨fun _=>⟨pp,fun c=>absurd (y0 r _) c,fun _=>⟨fun c=>absurd c (t7 (aAO r _)),fun _=>⟨rfl,l,rfl,r,rg,by omega⟩⟩⟩,
     fun _=>⟨fun _=>⟨r.atLePre (by omega) _,pp,tN r rg (by omega) _,fun c=>absurd (xW r rg _) c,fun _=>⟨rfl,l,rfl,r,rg,by omega⟩⟩,
      fun _=>⟨rfl,l,rfl,r,rg,by omega⟩⟩⟩⟩⟩
 ·obtain ⟨i2,ns2,as2,c2,o2⟩:=y
  obtain ⟨e1,l2,hp2,r2,rg2,hl2⟩:=hy
  simp only at e1 hp2 r2 rg2 hl2
  subst e1
  obtain ⟨rfl,rfl⟩:=Prod.mk.inj hp2
  exact ⟨fun c=>absurd (y2 r2) c,fun _=>⟨by simp only; omega,by simp only; omega,⟨by simp only; omega,by simp only; omega,l2,rfl,r2,rg2,by simp only; omega⟩,by simp only; omega⟩⟩
theorem f273f.ok (a:List (Int×ByteArray×Rs3)) (_:f273.lpre (a,false)):f273f.vc a:=by
 refine ⟨fun c=>absurd rfl c,fun _=>?_⟩
 obtain ⟨hsz,hwf⟩:=aNR a false ‹_›
 refine ⟨hsz,fun _=>rfl,fun hf=>?_⟩
 have hf:=(lB.1 (Classical.not_not.1 hf)).1
 refine ⟨fun y=>0≤y.1∧y.1≤(a.length:Int)∧∃ l,(y.2.2.1,y.2.2.2)=pu l∧Rep spB y.2.1.2 l∧Rg l∧l.length≤y.1.toNat,fun y=>a.length - y.1.toNat,
  ⟨by simp only; omega,by simp only; omega,[],rfl,Rep.zero,Rg.nil,Nat.zero_le _⟩,fun y hy=>?_⟩
 obtain ⟨i,⟨c,o⟩,ns,as⟩:=y
 obtain ⟨g0,g1,l,hp,r,rg,hl⟩:=hy
 simp only at g0 g1 hp r rg hl
 obtain ⟨rfl,rfl⟩:=Prod.mk.inj hp
 refine ⟨fun hlt=>?_,fun _=>rfl⟩
 simp only at hlt
 have pp:sN (pu l):=aJZ (by omega)
 refine ⟨g0,hlt,fun y=>y.1=i∧∃ l,(y.2.2.1,y.2.2.2)=pu l∧Rep spB y.2.1.2 l∧Rg l∧l.length≤i.toNat+1,?_,fun y hy=>?_⟩
 ·exact ⟨fun _=>⟨pp,rfl,_,aG9 l _ _,r.putX _ _,rg.put _ (hwf _ (aJ2 g0 hlt)),Nat.le_trans (aGU _ _ _) (by omega)⟩,
   fun _=>⟨fun _=>⟨pp,fun c=>absurd c (t7 (zE r)),fun _=>⟨rfl,_,congrArg Prod.snd (aAY r.ris _ (0,0,0)),(r.delX _).2,rg.del _,Nat.le_trans (o8 _ _) (by omega)⟩⟩,
    fun _=>⟨fun _=>⟨pp,fun c=>absurd (y0 r _) c,fun _=>⟨fun c=>absurd c (t7 (aAO r _)),fun _=>⟨rfl,l,rfl,r,rg,by omega⟩⟩⟩,
     fun _=>⟨fun _=>⟨r.atLePre (by omega) _,pp,tN r rg (by omega) _,fun c=>absurd (xW r rg _) c,fun _=>⟨rfl,l,rfl,r,rg,by omega⟩⟩,
      fun _=>⟨rfl,l,rfl,r,rg,by omega⟩⟩⟩⟩⟩
 ·obtain ⟨i2,⟨c2,o2⟩,ns2,as2⟩:=y
  obtain ⟨e1,l2,hp2,r2,rg2,hl2⟩:=hy
  simp only at e1 hp2 r2 rg2 hl2
  subst e1
  obtain ⟨rfl,rfl⟩:=Prod.mk.inj hp2
  exact ⟨fun c=>absurd (y2 r2) c,fun _=>⟨by simp only; omega,by simp only; omega,⟨by simp only; omega,by simp only; omega,l2,rfl,r2,rg2,by simp only; omega⟩,by simp only; omega⟩⟩
theorem f273.ok (a:List (Int×ByteArray×Rs3)×Bool) (h:f273.lpre a):f273.vc a:=by
 obtain ⟨s,b⟩:=a
 exact ⟨fun e=>f273t.ok s (by subst e; exact h),fun e=>f273f.ok s (by subst e; exact h)⟩
end Go.Abs
