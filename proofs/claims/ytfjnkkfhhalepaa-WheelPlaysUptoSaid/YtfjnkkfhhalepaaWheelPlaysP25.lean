/- Functions, and what the code asks of them: PWheelLaw2. -/
import Derived.KernelRfl
import Derived.Test.YtfjnkkfhhalepaaWheelPlaysP4
import Derived.Test.YtfjnkkfhhalepaaWheelPlaysP5
import Derived.Test.YtfjnkkfhhalepaaWheelPlaysP6
import Derived.Test.YtfjnkkfhhalepaaWheelPlaysP7
import Derived.Test.YtfjnkkfhhalepaaWheelPlaysP8
import Derived.Test.YtfjnkkfhhalepaaWheelPlaysP9
import Derived.Test.YtfjnkkfhhalepaaWheelPlaysP10
import Derived.Test.YtfjnkkfhhalepaaWheelPlaysP11
import Derived.Test.YtfjnkkfhhalepaaWheelPlaysP12
import Derived.Test.YtfjnkkfhhalepaaWheelPlaysP15
import Derived.Test.YtfjnkkfhhalepaaWheelPlaysP16
import Derived.Test.YtfjnkkfhhalepaaWheelPlaysP17
import Derived.Test.YtfjnkkfhhalepaaWheelPlaysP18
import Derived.Test.YtfjnkkfhhalepaaWheelPlaysP20
import Derived.Test.YtfjnkkfhhalepaaWheelPlaysP21
import Derived.Test.YtfjnkkfhhalepaaWheelPlaysP22
import Derived.Test.YtfjnkkfhhalepaaWheelPlaysP23
import Derived.Test.YtfjnkkfhhalepaaWheelPlaysP24
set_option maxRecDepth 100000
set_option maxHeartbeats 4000000
set_option linter.unusedVariables false
set_option linter.unusedSimpArgs false
set_option linter.unusedSectionVars false
-- interregnum/interregnumlaw19.WheelPlays
namespace Go.Abs
open Go
def f269.wf (a:(List (aE))×Bool):Prop:=cK.ok a.1∧aFR.ok a.2
def f269.size (a:(List (aE))×Bool):Nat:=cK.size a.1+aFR.size a.2
def f269.lpre (a:(List (aE))×Bool):Prop:=f269.wf a∧f269.size a≤1048576
def f269.args (a:(List (aE))×Bool):List D:=[.slice .ro 3 a.1.length (gl aH a.1),.bool a.2]
def f269.blks (a:(List (aE))×Bool):List (List D):=[]
def f269.res (a:(List (aE))×Bool):List D:=[.bool (aT a)]
def f269.blks' (a:(List (aE))×Bool):List (List D):=[]
def f269.C:aQ:=FnC f269.args f269.blks (fun a=>f269.lpre a) f269.res f269.blks'
set_option linter.unusedVariables false
def f269t.S0 (a:List (aE)) (x:Int×(List (ByteArray))×(List (Int))×(Nat×Ob Int)):Tm:=⟨.slice .ro 3 a.length (gl aH a)::.dead::.dead::.dead::.dead::.ptr 29 0::.ptr 24 0::dd 23 (.int .i64 (a.length:Int)::.int .i64 x.1::dd 78 []),[(24,false,[.slice .ro 1 x.2.1.length (gl aA x.2.1),.slice .ro 1 x.2.2.1.length (gl aD x.2.2.1)]),(29,false,[.dead,.obj 17 x.2.2.2.1 1 x.2.2.2.2.nl x.2.2.2.2.n x.2.2.2.2.ks (ovs aD x.2.2.2.2)])],[]⟩
def f269t.kills (a:List (aE)):List Hint:=[.tell (Int×(List (ByteArray))×(List (Int))×(Nat×Ob Int)) (f269t.S0 a)]
def f269t.cuts (a:List (aE)):List (Nat×Σ β:Type,β→Tm):=[(3001005000005,⟨Unit,fun x=>⟨[],[],[]⟩⟩),
 (100017,⟨Int×(List (ByteArray))×(List (Int))×(Nat×Ob Int),fun x=>⟨.slice .ro 3 a.length (gl aH a)::.dead::.dead::.dead::.dead::.ptr 29 0::.ptr 24 0::dd 23 (.int .i64 (a.length:Int)::.int .i64 x.1::dd 78 []),[(24,false,[.slice .ro 1 x.2.1.length (gl aA x.2.1),.slice .ro 1 x.2.2.1.length (gl aD x.2.2.1)]),(29,false,[.dead,.obj 17 x.2.2.2.1 1 x.2.2.2.2.nl x.2.2.2.2.n x.2.2.2.2.ks (ovs aD x.2.2.2.2)])],[]⟩⟩)]
def f269t.af (a:List (aE)):AF:=AF.mk (.seq (.region [⟨(some 4),0,.move,[.c (.bool false)],none⟩])
 (.seq (.seq (.region [oT 13 1 (.call false 293) [],
 oT 14 5 (.un .not) [13],
 mT 15 6 14,
 oG 16 7 .move [0] 15 false,
 oG 17 8 (.call false 294) [16] 15 false,
 oG 18 12 (.un .not) [17] 15 false,
 ⟨(some 19),13,.pick,[.t 15,.c (.bool true),.t 18],none⟩])
 (.cond (.t 19) (.seq (.region [oT 20 14 (.call false 293) [],
 mT 4 18 20])
 (.ret)) (.skip)))
 (.seq (.region [oT 21 19 (.call false 295) [],
 oT 22 23 (.build [.slice .full 1 0 fA,.slice .full 1 0 fA] []) [],
 oT 23 24 .box [22],
 mT 5 25 21,
 mT 6 26 23])
 (.seq (.seq (.region [mT 24 27 1])
 (.cond (.t 24) (.region [oT 25 28 (.build [.nilm,.nilm,.nilm,.nilm,.nilm,.nilm,.nilm,.nilm,.nilm,.nilm,.nilm,.nilm,.nilm,.nilm,.nilm,.nilm,.nilm] []) [],
 oT 26 29 .box [25],
 mT 5 30 26]) (.skip)))
 (.seq (.toObj 0 1 5) (.seq (.seq (.region [mT 27 31 5,
 oT 28 32 (.isNil true false) [27]])
 (.cond (.t 28) (.seq (.region [⟨(some 4),33,.move,[.c (.bool false)],none⟩])
 (.ret)) (.skip)))
 (.seq (.seq (.region [mT 29 34 0,
 oT 30 35 (.len false) [29],
 ⟨(some 31),36,.move,[.c (.int .i64 (0))],none⟩])
 (.block 0 (.loopT (Int×(List (ByteArray))×(List (Int))×(Nat×Ob Int)) (f269t.S0 a) 37 160 (.seq (.region [oT 32 37 (.bin .lss) [31,30]])
 (.seq (.cond (.t 32) (.skip) (.exit 0))
 (.seq (.block 1 (.seq (.region [mT 33 38 31,
 mT 7 39 33])
 (.seq (.region [mT 34 40 0,
 mT 35 41 7,
 oT 36 42 (.indexAddr 3 none) [34,35],
 oT 37 43 (.load true 3) [36],
 oT 8 44 (.alloc [.int .i64 (0),.int .i64 (0),.str ByteArray.empty]) [],
 ⟨none,48,(.store 3),[.t 8,.t 37],none⟩])
 (.joinT (Int×(List (ByteArray))×(List (Int))×(Nat×Ob Int)) (fun x=>⟨.slice .ro 3 a.length (gl aH a)::.dead::.dead::.dead::.dead::.ptr 29 0::.ptr 24 0::dd 23 (.int .i64 (a.length:Int)::.int .i64 x.1::dd 78 []),[(24,false,[.slice .ro 1 x.2.1.length (gl aA x.2.1),.slice .ro 1 x.2.2.1.length (gl aD x.2.2.1)]),(29,false,[.dead,.obj 17 x.2.2.2.1 1 x.2.2.2.2.nl x.2.2.2.2.n x.2.2.2.2.ks (ovs aD x.2.2.2.2)])],[]⟩) (.seq (.region [oT 38 49 (.fieldAddr 0) [8],
 oT 39 50 (.load false 1) [38]])
 (.block 2 (.seq (.region [⟨(some 41),51,(.bin .eql),[.t 39,.c (.int .i64 (1))],none⟩,
 mT 40 52 41])
 (.cond (.t 40) (.seq (.region [mT 42 53 5,
 oT 43 54 (.fieldAddr 2) [8],
 oT 44 55 (.load false 1) [43],
 oT 45 56 (.fieldAddr 1) [8],
 oT 46 57 (.load false 1) [45],
 oT 47 58 (.call true 296) [42,44,46]])
 (.region [mT 48 62 6,
 oT 49 63 (.fieldAddr 2) [8],
 oT 50 64 (.load false 1) [49],
 oT 51 65 (.fieldAddr 1) [8],
 oT 52 66 (.load false 1) [51],
 oT 53 67 (.call true 297) [48,50,52]])) (.seq (.region [⟨(some 55),71,(.bin .eql),[.t 39,.c (.int .i64 (2))],none⟩,
 mT 54 72 55])
 (.cond (.t 54) (.seq (.orders [[mT 56 73 5,oT 57 74 (.fieldAddr 2) [8],oT 58 75 (.load false 1) [57],oT 59 76 (.call true 298) [56,58],mT 60 80 6,oT 61 81 (.fieldAddr 2) [8],oT 62 82 (.load false 1) [61],oT 63 83 (.call true 299) [60,62],oT 64 87 (.binB true) [59,63]],
 [mT 56 73 5,oT 57 74 (.fieldAddr 2) [8],oT 58 75 (.load false 1) [57],mT 60 80 6,oT 61 81 (.fieldAddr 2) [8],oT 62 82 (.load false 1) [61],oT 59 76 (.call true 298) [56,58],oT 63 83 (.call true 299) [60,62],oT 64 87 (.binB true) [59,63]]])
 (.cond (.t 64) (.seq (.region [⟨(some 4),88,.move,[.c (.bool false)],none⟩])
 (.ret)) (.skip))) (.seq (.region [⟨(some 66),89,(.bin .eql),[.t 39,.c (.int .i64 (3))],none⟩,
 mT 65 90 66])
 (.cond (.t 65) (.seq (.region [mT 68 91 5,
 oT 69 92 (.fieldAddr 2) [8],
 oT 70 93 (.load false 1) [69],
 oT 71 94 (.call true 300) [68,70],
 mT 67 98 71,
 oT 72 99 (.extract 0) [67],
 oT 73 100 (.extract 1) [67],
 mT 9 101 72,
 mT 10 102 73])
 (.seq (.region [mT 75 103 6,
 oT 76 104 (.fieldAddr 2) [8],
 oT 77 105 (.load false 1) [76],
 oT 78 106 (.call true 301) [75,77],
 mT 74 110 78,
 oT 79 111 (.extract 0) [74],
 oT 80 112 (.extract 1) [74],
 mT 11 113 79,
 mT 12 114 80])
 (.seq (.region [mT 81 115 9,
 mT 82 116 11,
 oT 83 117 (.bin .neq) [81,82],
 mT 84 118 83,
 oG 85 119 .move [10] 84 false,
 oG 86 120 .move [12] 84 false,
 oG 87 121 (.binB true) [85,86] 84 false,
 ⟨(some 88),122,.pick,[.t 84,.c (.bool true),.t 87],none⟩])
 (.cond (.t 88) (.seq (.region [⟨(some 4),123,.move,[.c (.bool false)],none⟩])
 (.ret)) (.skip))))) (.seq (.region [⟨(some 90),124,(.bin .eql),[.t 39,.c (.int .i64 (4))],none⟩,
 mT 89 125 90])
 (.cond (.t 89) (.seq (.orders [[mT 91 126 5,oT 92 127 (.fieldAddr 1) [8],oT 93 128 (.load false 1) [92],oT 94 129 (.call true 302) [91,93],mT 95 133 6,oT 96 134 (.fieldAddr 1) [8],oT 97 135 (.load false 1) [96],oT 98 136 (.call true 303) [95,97],oT 99 140 (.call false 150) [94,98],oT 100 144 (.un .not) [99]],
 [mT 91 126 5,oT 92 127 (.fieldAddr 1) [8],oT 93 128 (.load false 1) [92],mT 95 133 6,oT 96 134 (.fieldAddr 1) [8],oT 97 135 (.load false 1) [96],oT 94 129 (.call true 302) [91,93],oT 98 136 (.call true 303) [95,97],oT 99 140 (.call false 150) [94,98],oT 100 144 (.un .not) [99]]])
 (.cond (.t 100) (.seq (.region [⟨(some 4),145,.move,[.c (.bool false)],none⟩])
 (.ret)) (.skip))) (.skip)))))))))))
 (.seq (.orders [[mT 101 146 5,oT 102 147 (.call true 304) [101],mT 103 151 6,oT 104 152 .nilCheck [103],oT 105 153 (.fieldAddr 0) [104],oT 106 154 (.load false 1) [105],oT 107 155 (.len false) [106],oT 108 156 (.bin .neq) [102,107]],
 [mT 101 146 5,mT 103 151 6,oT 104 152 .nilCheck [103],oT 105 153 (.fieldAddr 0) [104],oT 106 154 (.load false 1) [105],oT 102 147 (.call true 304) [101],oT 107 155 (.len false) [106],oT 108 156 (.bin .neq) [102,107]]])
 (.cond (.t 108) (.seq (.region [⟨(some 4),157,.move,[.c (.bool false)],none⟩])
 (.ret)) (.skip)))))))
 (.region [⟨(some 109),158,(.bin .add),[.t 31,.c (.int .i64 (1))],none⟩,
 mT 31 159 109])))))))
 (.seq (.region [⟨(some 4),160,.move,[.c (.bool true)],none⟩])
 (.ret)))))))))
 [.tmp 4] 0 108
def f269t.env:Env:=[(293,f293.C),(294,f294.C),(295,f295.C),(296,f296.C),(297,f297.C),(298,f298.C),(299,f299.C),(300,f300.C),(301,f301.C),(302,f302.C),(303,f303.C),(150,f150.C),(304,f304.C)]
def f269t.tree (a:List (aE)):Prop:=∃ c1:Unit,True∧Br (!(aT c1)) (∃ c4:Unit,True∧((aT c4)=(aT a))∧True) (f294.ent (fun c7=>(L20 c7)∧Br (!(iL c7)) (∃ c10:Unit,True∧((aT c10)=(aT a))∧True) (∃ c13:Unit,True∧∃ (I15:(Int×(List (ByteArray))×(List (Int))×(Nat×Ob Int))→Prop) (μ16:(Int×(List (ByteArray))×(List (Int))×(Nat×Ob Int))→Nat),(∃ x14:Int×(List (ByteArray))×(List (Int))×(Nat×Ob Int),SlS aH a (((a.length:Int)=(a.length:Int))∧((0:Int)=x14.1)∧SlQ 0 x14.2.1.length fA (gl aA x14.2.1) (SlQ 0 x14.2.2.1.length fA (gl aD x14.2.2.1) (ObQ 0 x14.2.2.2.1 (ob0 Int).nl x14.2.2.2.2.nl (ob0 Int).n x14.2.2.2.2.n (ob0 Int).ks x14.2.2.2.2.ks (fun _ _=>[]) (ovs aD x14.2.2.2.2) (I15 x14)))))∧∀ y17:Int×(List (ByteArray))×(List (Int))×(Nat×Ob Int),I15 y17→(Br (decide (y17.1 < (a.length:Int))) (Br (decide ((0:Int)≤y17.1)&&decide (y17.1 < (a.length:Int))) (∃ I21:(Int×(List (ByteArray))×(List (Int))×(Nat×Ob Int))→Prop,(Br (((at_ a y17.1).1)==(1:Int)) (∃ c24:(Ob Int)×ByteArray×Int,(((at_ a y17.1).2.2)=c24.2.1)∧(((at_ a y17.1).2.1)=c24.2.2)∧ObQ 0 0 y17.2.2.2.2.nl c24.1.nl y17.2.2.2.2.n c24.1.n y17.2.2.2.2.ks c24.1.ks (ovs aD y17.2.2.2.2) (ovs aD c24.1) (True∧∃ c25:aC×ByteArray×Int,(((at_ a y17.1).2.2)=c25.2.1)∧(((at_ a y17.1).2.1)=c25.2.2)∧SlQ y17.2.1.length c25.1.1.length (gl aA y17.2.1) (gl aA c25.1.1) (SlQ y17.2.2.1.length c25.1.2.length (gl aD y17.2.2.1) (gl aD c25.1.2) ((kN c25)∧∃ x26:Int×(List (ByteArray))×(List (Int))×(Nat×Ob Int),SlS aH a (((a.length:Int)=(a.length:Int))∧(y17.1=x26.1)∧SlQ (((fR c25).1).length) x26.2.1.length (gl aA ((fR c25).1)) (gl aA x26.2.1) (SlQ (((fR c25).2).length) x26.2.2.1.length (gl aD ((fR c25).2)) (gl aD x26.2.2.1) (ObQ (y17.2.2.2.1+1) x26.2.2.2.1 (setW c24).nl x26.2.2.2.2.nl (setW c24).n x26.2.2.2.2.n (setW c24).ks x26.2.2.2.2.ks (ovs aD (setW c24)) (ovs aD x26.2.2.2.2) (I21 x26)))))))) (Br (((at_ a y17.1).1)==(2:Int)) ((∃ c31:(Ob Int)×ByteArray,(((at_ a y17.1).2.2)=c31.2)∧ObQ 0 0 y17.2.2.2.2.nl c31.1.nl y17.2.2.2.2.n c31.1.n y17.2.2.2.2.ks c31.1.ks (ovs aD y17.2.2.2.2) (ovs aD c31.1) (True∧∃ c32:aC×ByteArray,(((at_ a y17.1).2.2)=c32.2)∧SlQ y17.2.1.length c32.1.1.length (gl aA y17.2.1) (gl aA c32.1.1) (SlQ y17.2.2.1.length c32.1.2.length (gl aD y17.2.2.1) (gl aD c32.1.2) ((cY c32)∧Br (!(((delW c31).1)==((cF c32).1))) ((false=(aT a))∧True) (∃ x36:Int×(List (ByteArray))×(List (Int))×(Nat×Ob Int),SlS aH a (((a.length:Int)=(a.length:Int))∧(y17.1=x36.1)∧SlQ ((((cF c32).2).1).length) x36.2.1.length (gl aA (((cF c32).2).1)) (gl aA x36.2.1) (SlQ ((((cF c32).2).2).length) x36.2.2.1.length (gl aD (((cF c32).2).2)) (gl aD x36.2.2.1) (ObQ (y17.2.2.2.1+1) x36.2.2.2.1 ((delW c31).2).nl x36.2.2.2.2.nl ((delW c31).2).n x36.2.2.2.2.n ((delW c31).2).ks x36.2.2.2.2.ks (ovs aD ((delW c31).2)) (ovs aD x36.2.2.2.2) (I21 x36)))))))))∧(∃ c31:(Ob Int)×ByteArray,(((at_ a y17.1).2.2)=c31.2)∧ObQ 0 0 y17.2.2.2.2.nl c31.1.nl y17.2.2.2.2.n c31.1.n y17.2.2.2.2.ks c31.1.ks (ovs aD y17.2.2.2.2) (ovs aD c31.1) (True∧∃ c32:aC×ByteArray,(((at_ a y17.1).2.2)=c32.2)∧SlQ y17.2.1.length c32.1.1.length (gl aA y17.2.1) (gl aA c32.1.1) (SlQ y17.2.2.1.length c32.1.2.length (gl aD y17.2.2.1) (gl aD c32.1.2) ((cY c32)∧Br (!(((delW c31).1)==((cF c32).1))) ((false=(aT a))∧True) (∃ x36:Int×(List (ByteArray))×(List (Int))×(Nat×Ob Int),SlS aH a (((a.length:Int)=(a.length:Int))∧(y17.1=x36.1)∧SlQ ((((cF c32).2).1).length) x36.2.1.length (gl aA (((cF c32).2).1)) (gl aA x36.2.1) (SlQ ((((cF c32).2).2).length) x36.2.2.1.length (gl aD (((cF c32).2).2)) (gl aD x36.2.2.1) (ObQ (y17.2.2.2.1+1) x36.2.2.2.1 ((delW c31).2).nl x36.2.2.2.2.nl ((delW c31).2).n x36.2.2.2.2.n ((delW c31).2).ks x36.2.2.2.2.ks (ovs aD ((delW c31).2)) (ovs aD x36.2.2.2.2) (I21 x36)))))))))) (Br (((at_ a y17.1).1)==(3:Int)) (∃ c43:(Ob Int)×ByteArray,(((at_ a y17.1).2.2)=c43.2)∧ObQ 0 0 y17.2.2.2.2.nl c43.1.nl y17.2.2.2.2.n c43.1.n y17.2.2.2.2.ks c43.1.ks (ovs aD y17.2.2.2.2) (ovs aD c43.1) (True∧∃ c44:aC×ByteArray,(((at_ a y17.1).2.2)=c44.2)∧SlQ y17.2.1.length c44.1.1.length (gl aA y17.2.1) (gl aA c44.1.1) (SlQ y17.2.2.1.length c44.1.2.length (gl aD y17.2.2.1) (gl aD c44.1.2) ((cY c44)∧Br (((atW c43).1) != (((dF 0) c44).1)) ((false=(aT a))∧True) (Br (!(((atW c43).2.1)==(((dF 0) c44).2.1))) ((false=(aT a))∧True) (∃ x51:Int×(List (ByteArray))×(List (Int))×(Nat×Ob Int),SlS aH a (((a.length:Int)=(a.length:Int))∧(y17.1=x51.1)∧SlQ (((((dF 0) c44).2.2).1).length) x51.2.1.length (gl aA ((((dF 0) c44).2.2).1)) (gl aA x51.2.1) (SlQ (((((dF 0) c44).2.2).2).length) x51.2.2.1.length (gl aD ((((dF 0) c44).2.2).2)) (gl aD x51.2.2.1) (ObQ (y17.2.2.2.1+1) x51.2.2.2.1 ((atW c43).2.2).nl x51.2.2.2.2.nl ((atW c43).2.2).n x51.2.2.2.2.n ((atW c43).2.2).ks x51.2.2.2.2.ks (ovs aD ((atW c43).2.2)) (ovs aD x51.2.2.2.2) (I21 x51)))))))))) (Br (((at_ a y17.1).1)==(4:Int)) ((∃ c60:(Ob Int)×Int,(((at_ a y17.1).2.1)=c60.2)∧ObQ 0 0 y17.2.2.2.2.nl c60.1.nl y17.2.2.2.2.n c60.1.n y17.2.2.2.2.ks c60.1.ks (ovs aD y17.2.2.2.2) (ovs aD c60.1) ((fC c60)∧∃ c61:aC×Int,(((at_ a y17.1).2.1)=c61.2)∧SlQ y17.2.1.length c61.1.1.length (gl aA y17.2.1) (gl aA c61.1.1) (SlQ y17.2.2.1.length c61.1.2.length (gl aD y17.2.2.1) (gl aD c61.1.2) ((iC c61)∧f150.ent (fun c62=>(fK c62)∧Br (!(eQ c62)) ((false=(aT a))∧True) (∃ x66:Int×(List (ByteArray))×(List (Int))×(Nat×Ob Int),SlS aH a (((a.length:Int)=(a.length:Int))∧(y17.1=x66.1)∧SlQ ((((dA c61).2).1).length) x66.2.1.length (gl aA (((dA c61).2).1)) (gl aA x66.2.1) (SlQ ((((dA c61).2).2).length) x66.2.2.1.length (gl aD (((dA c61).2).2)) (gl aD x66.2.2.1) (ObQ (y17.2.2.2.1+1) x66.2.2.2.1 ((cO c60).2).nl x66.2.2.2.2.nl ((cO c60).2).n x66.2.2.2.2.n ((cO c60).2).ks x66.2.2.2.2.ks (ovs aD ((cO c60).2)) (ovs aD x66.2.2.2.2) (I21 x66)))))) ((cO c60).1,(dA c61).1)))))∧(∃ c60:(Ob Int)×Int,(((at_ a y17.1).2.1)=c60.2)∧ObQ 0 0 y17.2.2.2.2.nl c60.1.nl y17.2.2.2.2.n c60.1.n y17.2.2.2.2.ks c60.1.ks (ovs aD y17.2.2.2.2) (ovs aD c60.1) ((fC c60)∧∃ c61:aC×Int,(((at_ a y17.1).2.1)=c61.2)∧SlQ y17.2.1.length c61.1.1.length (gl aA y17.2.1) (gl aA c61.1.1) (SlQ y17.2.2.1.length c61.1.2.length (gl aD y17.2.2.1) (gl aD c61.1.2) ((iC c61)∧f150.ent (fun c62=>(fK c62)∧Br (!(eQ c62)) ((false=(aT a))∧True) (∃ x66:Int×(List (ByteArray))×(List (Int))×(Nat×Ob Int),SlS aH a (((a.length:Int)=(a.length:Int))∧(y17.1=x66.1)∧SlQ ((((dA c61).2).1).length) x66.2.1.length (gl aA (((dA c61).2).1)) (gl aA x66.2.1) (SlQ ((((dA c61).2).2).length) x66.2.2.1.length (gl aD (((dA c61).2).2)) (gl aD x66.2.2.1) (ObQ (y17.2.2.2.1+1) x66.2.2.2.1 ((cO c60).2).nl x66.2.2.2.2.nl ((cO c60).2).n x66.2.2.2.2.n ((cO c60).2).ks x66.2.2.2.2.ks (ovs aD ((cO c60).2)) (ovs aD x66.2.2.2.2) (I21 x66)))))) ((cO c60).1,(dA c61).1)))))) (∃ x72:Int×(List (ByteArray))×(List (Int))×(Nat×Ob Int),SlS aH a (((a.length:Int)=(a.length:Int))∧(y17.1=x72.1)∧SlQ y17.2.1.length x72.2.1.length (gl aA y17.2.1) (gl aA x72.2.1) (SlQ y17.2.2.1.length x72.2.2.1.length (gl aD y17.2.2.1) (gl aD x72.2.2.1) (ObQ y17.2.2.2.1 x72.2.2.2.1 y17.2.2.2.2.nl x72.2.2.2.2.nl y17.2.2.2.2.n x72.2.2.2.2.n y17.2.2.2.2.ks x72.2.2.2.2.ks (ovs aD y17.2.2.2.2) (ovs aD x72.2.2.2.2) (I21 x72)))))))))∧∀ y81:Int×(List (ByteArray))×(List (Int))×(Nat×Ob Int),I21 y81→((∃ c84:Ob Int,ObQ 0 0 y81.2.2.2.2.nl c84.nl y81.2.2.2.2.n c84.n y81.2.2.2.2.ks c84.ks (ovs aD y81.2.2.2.2) (ovs aD c84) (True∧Br (((cA c84).1) != (y81.2.1.length:Int)) ((false=(aT a))∧True) (Let (wI (y81.1+(1:Int))) (fun v88:Int=>∃ x89:Int×(List (ByteArray))×(List (Int))×(Nat×Ob Int),SlS aH a (((a.length:Int)=(a.length:Int))∧(v88=x89.1)∧SlQ y81.2.1.length x89.2.1.length (gl aA y81.2.1) (gl aA x89.2.1) (SlQ y81.2.2.1.length x89.2.2.1.length (gl aD y81.2.2.1) (gl aD x89.2.2.1) (ObQ (y81.2.2.2.1+1) x89.2.2.2.1 ((cA c84).2).nl x89.2.2.2.2.nl ((cA c84).2).n x89.2.2.2.2.n ((cA c84).2).ks x89.2.2.2.2.ks (ovs aD ((cA c84).2)) (ovs aD x89.2.2.2.2) (I15 x89∧μ16 x89 < μ16 y17))))))))∧(∃ c84:Ob Int,ObQ 0 0 y81.2.2.2.2.nl c84.nl y81.2.2.2.2.n c84.n y81.2.2.2.2.ks c84.ks (ovs aD y81.2.2.2.2) (ovs aD c84) (True∧Br (((cA c84).1) != (y81.2.1.length:Int)) ((false=(aT a))∧True) (Let (wI (y81.1+(1:Int))) (fun v88:Int=>∃ x89:Int×(List (ByteArray))×(List (Int))×(Nat×Ob Int),SlS aH a (((a.length:Int)=(a.length:Int))∧(v88=x89.1)∧SlQ y81.2.1.length x89.2.1.length (gl aA y81.2.1) (gl aA x89.2.1) (SlQ y81.2.2.1.length x89.2.2.1.length (gl aD y81.2.2.1) (gl aD x89.2.2.1) (ObQ (y81.2.2.2.1+1) x89.2.2.2.1 ((cA c84).2).nl x89.2.2.2.2.nl ((cA c84).2).n x89.2.2.2.2.n ((cA c84).2).ks x89.2.2.2.2.ks (ovs aD ((cA c84).2)) (ovs aD x89.2.2.2.2) (I15 x89∧μ16 x89 < μ16 y17)))))))))) False) ((true=(aT a))∧True)))) a)
def f269t.vc (a:List (aE)):Prop:=((¬((aT ())=true)→((aT ())=aT a))∧(¬(¬((aT ())=true))→(L20 a∧((¬((iL a)=true)→((aT ())=aT a))∧(¬(¬((iL a)=true))→(∃ (I15:(Int×(List (ByteArray))×(List (Int))×(Nat×Ob Int))→Prop) (μ16:(Int×(List (ByteArray))×(List (Int))×(Nat×Ob Int))→Nat),I15 ((0:Int),[],[],(0,ob0 Int))∧∀ y17:Int×(List (ByteArray))×(List (Int))×(Nat×Ob Int),I15 y17→((y17.1 < (a.length:Int)→((0:Int)≤y17.1∧y17.1 < (a.length:Int)∧(∃ I21:(Int×(List (ByteArray))×(List (Int))×(Nat×Ob Int))→Prop,(((((at_ a y17.1).1)=(1:Int)→(kN ((y17.2.1,y17.2.2.1),(at_ a y17.1).2.2,(at_ a y17.1).2.1)∧(I21 (y17.1,(fR ((y17.2.1,y17.2.2.1),(at_ a y17.1).2.2,(at_ a y17.1).2.1)).1,(fR ((y17.2.1,y17.2.2.1),(at_ a y17.1).2.2,(at_ a y17.1).2.1)).2,(y17.2.2.2.1+1,(setW (y17.2.2.2.2,(at_ a y17.1).2.2,(at_ a y17.1).2.1)))))))∧(¬(((at_ a y17.1).1)=(1:Int))→((((at_ a y17.1).1)=(2:Int)→(cY ((y17.2.1,y17.2.2.1),(at_ a y17.1).2.2)∧(((!(((delW (y17.2.2.2.2,(at_ a y17.1).2.2)).1)==((cF ((y17.2.1,y17.2.2.1),(at_ a y17.1).2.2)).1)))=true→(false=aT a))∧(¬((!(((delW (y17.2.2.2.2,(at_ a y17.1).2.2)).1)==((cF ((y17.2.1,y17.2.2.1),(at_ a y17.1).2.2)).1)))=true)→(I21 (y17.1,((cF ((y17.2.1,y17.2.2.1),(at_ a y17.1).2.2)).2).1,((cF ((y17.2.1,y17.2.2.1),(at_ a y17.1).2.2)).2).2,(y17.2.2.2.1+1,(delW (y17.2.2.2.2,(at_ a y17.1).2.2)).2)))))))∧(¬(((at_ a y17.1).1)=(2:Int))→((((at_ a y17.1).1)=(3:Int)→(cY ((y17.2.1,y17.2.2.1),(at_ a y17.1).2.2)∧((¬((atW (y17.2.2.2.2,(at_ a y17.1).2.2)).1)=(((dF 0) ((y17.2.1,y17.2.2.1),(at_ a y17.1).2.2)).1)→(false=aT a))∧(¬(¬((atW (y17.2.2.2.2,(at_ a y17.1).2.2)).1)=(((dF 0) ((y17.2.1,y17.2.2.1),(at_ a y17.1).2.2)).1))→(((!(((atW (y17.2.2.2.2,(at_ a y17.1).2.2)).2.1)==(((dF 0) ((y17.2.1,y17.2.2.1),(at_ a y17.1).2.2)).2.1)))=true→(false=aT a))∧(¬((!(((atW (y17.2.2.2.2,(at_ a y17.1).2.2)).2.1)==(((dF 0) ((y17.2.1,y17.2.2.1),(at_ a y17.1).2.2)).2.1)))=true)→(I21 (y17.1,(((dF 0) ((y17.2.1,y17.2.2.1),(at_ a y17.1).2.2)).2.2).1,(((dF 0) ((y17.2.1,y17.2.2.1),(at_ a y17.1).2.2)).2.2).2,(y17.2.2.2.1+1,(atW (y17.2.2.2.2,(at_ a y17.1).2.2)).2.2)))))))))∧(¬(((at_ a y17.1).1)=(3:Int))→((((at_ a y17.1).1)=(4:Int)→(fC (y17.2.2.2.2,(at_ a y17.1).2.1)∧(iC ((y17.2.1,y17.2.2.1),(at_ a y17.1).2.1)∧(fK ((cO (y17.2.2.2.2,(at_ a y17.1).2.1)).1,(dA ((y17.2.1,y17.2.2.1),(at_ a y17.1).2.1)).1)∧((¬((eQ ((cO (y17.2.2.2.2,(at_ a y17.1).2.1)).1,(dA ((y17.2.1,y17.2.2.1),(at_ a y17.1).2.1)).1))=true)→(false=aT a))∧(¬(¬((eQ ((cO (y17.2.2.2.2,(at_ a y17.1).2.1)).1,(dA ((y17.2.1,y17.2.2.1),(at_ a y17.1).2.1)).1))=true))→(I21 (y17.1,((dA ((y17.2.1,y17.2.2.1),(at_ a y17.1).2.1)).2).1,((dA ((y17.2.1,y17.2.2.1),(at_ a y17.1).2.1)).2).2,(y17.2.2.2.1+1,(cO (y17.2.2.2.2,(at_ a y17.1).2.1)).2)))))))))∧(¬(((at_ a y17.1).1)=(4:Int))→(I21 (y17.1,y17.2.1,y17.2.2.1,(y17.2.2.2.1,y17.2.2.2.2))))))))))))∧∀ y81:Int×(List (ByteArray))×(List (Int))×(Nat×Ob Int),I21 y81→((¬((cA (y81.2.2.2.2)).1)=(y81.2.1.length:Int)→(false=aT a))∧(¬(¬((cA (y81.2.2.2.2)).1)=(y81.2.1.length:Int))→(-9223372036854775808≤(y81.1+(1:Int))∧(y81.1+(1:Int))≤9223372036854775807∧(I15 ((y81.1+(1:Int)),y81.2.1,y81.2.2.1,(y81.2.2.2.1+1,(cA (y81.2.2.2.2)).2))∧μ16 ((y81.1+(1:Int)),y81.2.1,y81.2.2.1,(y81.2.2.2.1+1,(cA (y81.2.2.2.2)).2)) < μ16 y17)))))))∧(¬(y17.1 < (a.length:Int))→(true=aT a)))))))))
theorem f269t.of (a:List (aE)) (h:f269t.vc a):f269t.tree a:=⟨(),⟨trivial,br h (Cnd.not Cnd.b) (fun h2 k108=>⟨(),⟨trivial,⟨k108,trivial⟩⟩⟩) (fun h3 k109=>(f294.ei ⟨k109.1,br k109.2 (Cnd.not Cnd.b) (fun h8 k105=>⟨(),⟨trivial,⟨k105,trivial⟩⟩⟩) (fun h9 k106=>⟨(),⟨trivial,Exists.elim k106 (fun I15 h101_=>Exists.elim h101_ (fun μ16 h101=>⟨I15,μ16,⟨((0:Int),[],[],(0,ob0 Int)),SlS.mk  (⟨rfl,⟨rfl,slQ (Rds.nil (enc:=aA)) (slQ (Rds.nil (enc:=aD)) (obQ rfl (OV.zero (e:=aD)) rfl (h101.1)))⟩⟩)⟩,fun y17 h103=>br (h101.2 y17 h103) Cnd.dec (fun h18 k99=>chk k99.2.2 Cnd.ix ⟨k99.1,k99.2.1⟩ (fun h20 k97=>Exists.elim k97 (fun I21 h83=>⟨I21,br h83.1 Cnd.eq (fun h22 k79=>⟨(y17.2.2.2.2,(at_ a y17.1).2.2,(at_ a y17.1).2.1),⟨rfl,⟨rfl,obQ rfl (OV.self (e:=aD)) rfl (⟨trivial,⟨((y17.2.1,y17.2.2.1),(at_ a y17.1).2.2,(at_ a y17.1).2.1),⟨rfl,⟨rfl,slQ (rS aA) (slQ (rS aD) (⟨k79.1,⟨(y17.1,(fR ((y17.2.1,y17.2.2.1),(at_ a y17.1).2.2,(at_ a y17.1).2.1)).1,(fR ((y17.2.1,y17.2.2.1),(at_ a y17.1).2.2,(at_ a y17.1).2.1)).2,(y17.2.2.2.1+1,(setW (y17.2.2.2.2,(at_ a y17.1).2.2,(at_ a y17.1).2.1)))),SlS.mk  (⟨rfl,⟨rfl,slQ (rS aA) (slQ (rS aD) (obQ rfl (OV.self (e:=aD)) rfl (k79.2)))⟩⟩)⟩⟩))⟩⟩⟩⟩)⟩⟩⟩) (fun h23 k80=>br k80 Cnd.eq (fun h29 k77=>⟨⟨(y17.2.2.2.2,(at_ a y17.1).2.2),⟨rfl,obQ rfl (OV.self (e:=aD)) rfl (⟨trivial,⟨((y17.2.1,y17.2.2.1),(at_ a y17.1).2.2),⟨rfl,slQ (rS aA) (slQ (rS aD) (⟨k77.1,br k77.2 Cnd.b (fun h33 k37=>⟨k37,trivial⟩) (fun h34 k38=>⟨(y17.1,((cF ((y17.2.1,y17.2.2.1),(at_ a y17.1).2.2)).2).1,((cF ((y17.2.1,y17.2.2.1),(at_ a y17.1).2.2)).2).2,(y17.2.2.2.1+1,(delW (y17.2.2.2.2,(at_ a y17.1).2.2)).2)),SlS.mk  (⟨rfl,⟨rfl,slQ (rS aA) (slQ (rS aD) (obQ rfl (OV.self (e:=aD)) rfl (k38)))⟩⟩)⟩)⟩))⟩⟩⟩)⟩⟩,⟨(y17.2.2.2.2,(at_ a y17.1).2.2),⟨rfl,obQ rfl (OV.self (e:=aD)) rfl (⟨trivial,⟨((y17.2.1,y17.2.2.1),(at_ a y17.1).2.2),⟨rfl,slQ (rS aA) (slQ (rS aD) (⟨k77.1,br k77.2 Cnd.b (fun h33 k37=>⟨k37,trivial⟩) (fun h34 k38=>⟨(y17.1,((cF ((y17.2.1,y17.2.2.1),(at_ a y17.1).2.2)).2).1,((cF ((y17.2.1,y17.2.2.1),(at_ a y17.1).2.2)).2).2,(y17.2.2.2.1+1,(delW (y17.2.2.2.2,(at_ a y17.1).2.2)).2)),SlS.mk  (⟨rfl,⟨rfl,slQ (rS aA) (slQ (rS aD) (obQ rfl (OV.self (e:=aD)) rfl (k38)))⟩⟩)⟩)⟩))⟩⟩⟩)⟩⟩⟩) (fun h30 k78=>br k78 Cnd.eq (fun h41 k75=>⟨(y17.2.2.2.2,(at_ a y17.1).2.2),⟨rfl,obQ rfl (OV.self (e:=aD)) rfl (⟨trivial,⟨((y17.2.1,y17.2.2.1),(at_ a y17.1).2.2),⟨rfl,slQ (rS aA) (slQ (rS aD) (⟨k75.1,br k75.2 Cnd.ne (fun h45 k54=>⟨k54,trivial⟩) (fun h46 k55=>br k55 Cnd.b (fun h48 k52=>⟨k52,trivial⟩) (fun h49 k53=>⟨(y17.1,(((dF 0) ((y17.2.1,y17.2.2.1),(at_ a y17.1).2.2)).2.2).1,(((dF 0) ((y17.2.1,y17.2.2.1),(at_ a y17.1).2.2)).2.2).2,(y17.2.2.2.1+1,(atW (y17.2.2.2.2,(at_ a y17.1).2.2)).2.2)),SlS.mk  (⟨rfl,⟨rfl,slQ (rS aA) (slQ (rS aD) (obQ rfl (OV.self (e:=aD)) rfl (k53)))⟩⟩)⟩))⟩))⟩⟩⟩)⟩⟩) (fun h42 k76=>br k76 Cnd.eq (fun h58 k73=>⟨⟨(y17.2.2.2.2,(at_ a y17.1).2.1),⟨rfl,obQ rfl (OV.self (e:=aD)) rfl (⟨k73.1,⟨((y17.2.1,y17.2.2.1),(at_ a y17.1).2.1),⟨rfl,slQ (rS aA) (slQ (rS aD) (⟨k73.2.1,(f150.ei ⟨k73.2.2.1,br k73.2.2.2 (Cnd.not Cnd.b) (fun h63 k67=>⟨k67,trivial⟩) (fun h64 k68=>⟨(y17.1,((dA ((y17.2.1,y17.2.2.1),(at_ a y17.1).2.1)).2).1,((dA ((y17.2.1,y17.2.2.1),(at_ a y17.1).2.1)).2).2,(y17.2.2.2.1+1,(cO (y17.2.2.2.2,(at_ a y17.1).2.1)).2)),SlS.mk  (⟨rfl,⟨rfl,slQ (rS aA) (slQ (rS aD) (obQ rfl (OV.self (e:=aD)) rfl (k68)))⟩⟩)⟩)⟩)⟩))⟩⟩⟩)⟩⟩,⟨(y17.2.2.2.2,(at_ a y17.1).2.1),⟨rfl,obQ rfl (OV.self (e:=aD)) rfl (⟨k73.1,⟨((y17.2.1,y17.2.2.1),(at_ a y17.1).2.1),⟨rfl,slQ (rS aA) (slQ (rS aD) (⟨k73.2.1,(f150.ei ⟨k73.2.2.1,br k73.2.2.2 (Cnd.not Cnd.b) (fun h63 k67=>⟨k67,trivial⟩) (fun h64 k68=>⟨(y17.1,((dA ((y17.2.1,y17.2.2.1),(at_ a y17.1).2.1)).2).1,((dA ((y17.2.1,y17.2.2.1),(at_ a y17.1).2.1)).2).2,(y17.2.2.2.1+1,(cO (y17.2.2.2.2,(at_ a y17.1).2.1)).2)),SlS.mk  (⟨rfl,⟨rfl,slQ (rS aA) (slQ (rS aD) (obQ rfl (OV.self (e:=aD)) rfl (k68)))⟩⟩)⟩)⟩)⟩))⟩⟩⟩)⟩⟩⟩) (fun h59 k74=>⟨(y17.1,y17.2.1,y17.2.2.1,(y17.2.2.2.1,y17.2.2.2.2)),SlS.mk  (⟨rfl,⟨rfl,slQ (rS aA) (slQ (rS aD) (obQ rfl (OV.self (e:=aD)) rfl (k74)))⟩⟩)⟩)))),fun y81 h82=>⟨⟨y81.2.2.2.2,obQ rfl (OV.self (e:=aD)) rfl (⟨trivial,br (h83.2 y81 h82) Cnd.ne (fun h85 k94=>⟨k94,trivial⟩) (fun h86 k95=>wrapK.i64 k95 (fun h91 h92 k93=>⟨((y81.1+(1:Int)),y81.2.1,y81.2.2.1,(y81.2.2.2.1+1,(cA (y81.2.2.2.2)).2)),SlS.mk  (⟨rfl,⟨rfl,slQ (rS aA) (slQ (rS aD) (obQ rfl (OV.self (e:=aD)) rfl (k93)))⟩⟩)⟩))⟩)⟩,⟨y81.2.2.2.2,obQ rfl (OV.self (e:=aD)) rfl (⟨trivial,br (h83.2 y81 h82) Cnd.ne (fun h85 k94=>⟨k94,trivial⟩) (fun h86 k95=>wrapK.i64 k95 (fun h91 h92 k93=>⟨((y81.1+(1:Int)),y81.2.1,y81.2.2.1,(y81.2.2.2.1+1,(cA (y81.2.2.2.2)).2)),SlS.mk  (⟨rfl,⟨rfl,slQ (rS aA) (slQ (rS aD) (obQ rfl (OV.self (e:=aD)) rfl (k93)))⟩⟩)⟩))⟩)⟩⟩⟩))) (fun h19 k100=>⟨k100,trivial⟩)⟩))⟩⟩)⟩))⟩⟩
theorem f269t.eq (a:List (aE)):(f269t.af a).gives f269t.env (f269.args (a,true)) (f269.blks (a,true)) (f269.res (a,true)) (f269.blks' (a,true))=f269t.tree a:=by kernel_rfl
def f269f.S0 (a:List (aE)) (x:Int×(Nat×Ob Int)×(List (ByteArray))×(List (Int))):Tm:=⟨.slice .ro 3 a.length (gl aH a)::.dead::.dead::.dead::.dead::.ptr 19 0::.ptr 24 0::dd 23 (.int .i64 (a.length:Int)::.int .i64 x.1::dd 78 []),[(19,false,[.dead,.obj 17 x.2.1.1 1 x.2.1.2.nl x.2.1.2.n x.2.1.2.ks (ovs aD x.2.1.2)]),(24,false,[.slice .ro 1 x.2.2.1.length (gl aA x.2.2.1),.slice .ro 1 x.2.2.2.length (gl aD x.2.2.2)])],[]⟩
def f269f.kills (a:List (aE)):List Hint:=[.tell (Int×(Nat×Ob Int)×(List (ByteArray))×(List (Int))) (f269f.S0 a)]
def f269f.cuts (a:List (aE)):List (Nat×Σ β:Type,β→Tm):=[(3001005000005,⟨Unit,fun x=>⟨[],[],[]⟩⟩),
 (100017,⟨Int×(Nat×Ob Int)×(List (ByteArray))×(List (Int)),fun x=>⟨.slice .ro 3 a.length (gl aH a)::.dead::.dead::.dead::.dead::.ptr 19 0::.ptr 24 0::dd 23 (.int .i64 (a.length:Int)::.int .i64 x.1::dd 78 []),[(19,false,[.dead,.obj 17 x.2.1.1 1 x.2.1.2.nl x.2.1.2.n x.2.1.2.ks (ovs aD x.2.1.2)]),(24,false,[.slice .ro 1 x.2.2.1.length (gl aA x.2.2.1),.slice .ro 1 x.2.2.2.length (gl aD x.2.2.2)])],[]⟩⟩)]
def f269f.af (a:List (aE)):AF:=AF.mk (.seq (.region [⟨(some 4),0,.move,[.c (.bool false)],none⟩])
 (.seq (.seq (.region [oT 13 1 (.call false 293) [],
 oT 14 5 (.un .not) [13],
 mT 15 6 14,
 oG 16 7 .move [0] 15 false,
 oG 17 8 (.call false 294) [16] 15 false,
 oG 18 12 (.un .not) [17] 15 false,
 ⟨(some 19),13,.pick,[.t 15,.c (.bool true),.t 18],none⟩])
 (.cond (.t 19) (.seq (.region [oT 20 14 (.call false 293) [],
 mT 4 18 20])
 (.ret)) (.skip)))
 (.seq (.region [oT 21 19 (.call false 295) [],
 oT 22 23 (.build [.slice .full 1 0 fA,.slice .full 1 0 fA] []) [],
 oT 23 24 .box [22],
 mT 5 25 21,
 mT 6 26 23])
 (.seq (.seq (.region [mT 24 27 1])
 (.cond (.t 24) (.region [oT 25 28 (.build [.nilm,.nilm,.nilm,.nilm,.nilm,.nilm,.nilm,.nilm,.nilm,.nilm,.nilm,.nilm,.nilm,.nilm,.nilm,.nilm,.nilm] []) [],
 oT 26 29 .box [25],
 mT 5 30 26]) (.skip)))
 (.seq (.toObj 0 1 5) (.seq (.seq (.region [mT 27 31 5,
 oT 28 32 (.isNil true false) [27]])
 (.cond (.t 28) (.seq (.region [⟨(some 4),33,.move,[.c (.bool false)],none⟩])
 (.ret)) (.skip)))
 (.seq (.seq (.region [mT 29 34 0,
 oT 30 35 (.len false) [29],
 ⟨(some 31),36,.move,[.c (.int .i64 (0))],none⟩])
 (.block 0 (.loopT (Int×(Nat×Ob Int)×(List (ByteArray))×(List (Int))) (f269f.S0 a) 37 160 (.seq (.region [oT 32 37 (.bin .lss) [31,30]])
 (.seq (.cond (.t 32) (.skip) (.exit 0))
 (.seq (.block 1 (.seq (.region [mT 33 38 31,
 mT 7 39 33])
 (.seq (.region [mT 34 40 0,
 mT 35 41 7,
 oT 36 42 (.indexAddr 3 none) [34,35],
 oT 37 43 (.load true 3) [36],
 oT 8 44 (.alloc [.int .i64 (0),.int .i64 (0),.str ByteArray.empty]) [],
 ⟨none,48,(.store 3),[.t 8,.t 37],none⟩])
 (.joinT (Int×(Nat×Ob Int)×(List (ByteArray))×(List (Int))) (fun x=>⟨.slice .ro 3 a.length (gl aH a)::.dead::.dead::.dead::.dead::.ptr 19 0::.ptr 24 0::dd 23 (.int .i64 (a.length:Int)::.int .i64 x.1::dd 78 []),[(19,false,[.dead,.obj 17 x.2.1.1 1 x.2.1.2.nl x.2.1.2.n x.2.1.2.ks (ovs aD x.2.1.2)]),(24,false,[.slice .ro 1 x.2.2.1.length (gl aA x.2.2.1),.slice .ro 1 x.2.2.2.length (gl aD x.2.2.2)])],[]⟩) (.seq (.region [oT 38 49 (.fieldAddr 0) [8],
 oT 39 50 (.load false 1) [38]])
 (.block 2 (.seq (.region [⟨(some 41),51,(.bin .eql),[.t 39,.c (.int .i64 (1))],none⟩,
 mT 40 52 41])
 (.cond (.t 40) (.seq (.region [mT 42 53 5,
 oT 43 54 (.fieldAddr 2) [8],
 oT 44 55 (.load false 1) [43],
 oT 45 56 (.fieldAddr 1) [8],
 oT 46 57 (.load false 1) [45],
 oT 47 58 (.call true 296) [42,44,46]])
 (.region [mT 48 62 6,
 oT 49 63 (.fieldAddr 2) [8],
 oT 50 64 (.load false 1) [49],
 oT 51 65 (.fieldAddr 1) [8],
 oT 52 66 (.load false 1) [51],
 oT 53 67 (.call true 297) [48,50,52]])) (.seq (.region [⟨(some 55),71,(.bin .eql),[.t 39,.c (.int .i64 (2))],none⟩,
 mT 54 72 55])
 (.cond (.t 54) (.seq (.orders [[mT 56 73 5,oT 57 74 (.fieldAddr 2) [8],oT 58 75 (.load false 1) [57],oT 59 76 (.call true 298) [56,58],mT 60 80 6,oT 61 81 (.fieldAddr 2) [8],oT 62 82 (.load false 1) [61],oT 63 83 (.call true 299) [60,62],oT 64 87 (.binB true) [59,63]],
 [mT 56 73 5,oT 57 74 (.fieldAddr 2) [8],oT 58 75 (.load false 1) [57],mT 60 80 6,oT 61 81 (.fieldAddr 2) [8],oT 62 82 (.load false 1) [61],oT 59 76 (.call true 298) [56,58],oT 63 83 (.call true 299) [60,62],oT 64 87 (.binB true) [59,63]]])
 (.cond (.t 64) (.seq (.region [⟨(some 4),88,.move,[.c (.bool false)],none⟩])
 (.ret)) (.skip))) (.seq (.region [⟨(some 66),89,(.bin .eql),[.t 39,.c (.int .i64 (3))],none⟩,
 mT 65 90 66])
 (.cond (.t 65) (.seq (.region [mT 68 91 5,
 oT 69 92 (.fieldAddr 2) [8],
 oT 70 93 (.load false 1) [69],
 oT 71 94 (.call true 300) [68,70],
 mT 67 98 71,
 oT 72 99 (.extract 0) [67],
 oT 73 100 (.extract 1) [67],
 mT 9 101 72,
 mT 10 102 73])
 (.seq (.region [mT 75 103 6,
 oT 76 104 (.fieldAddr 2) [8],
 oT 77 105 (.load false 1) [76],
 oT 78 106 (.call true 301) [75,77],
 mT 74 110 78,
 oT 79 111 (.extract 0) [74],
 oT 80 112 (.extract 1) [74],
 mT 11 113 79,
 mT 12 114 80])
 (.seq (.region [mT 81 115 9,
 mT 82 116 11,
 oT 83 117 (.bin .neq) [81,82],
 mT 84 118 83,
 oG 85 119 .move [10] 84 false,
 oG 86 120 .move [12] 84 false,
 oG 87 121 (.binB true) [85,86] 84 false,
 ⟨(some 88),122,.pick,[.t 84,.c (.bool true),.t 87],none⟩])
 (.cond (.t 88) (.seq (.region [⟨(some 4),123,.move,[.c (.bool false)],none⟩])
 (.ret)) (.skip))))) (.seq (.region [⟨(some 90),124,(.bin .eql),[.t 39,.c (.int .i64 (4))],none⟩,
 mT 89 125 90])
 (.cond (.t 89) (.seq (.orders [[mT 91 126 5,oT 92 127 (.fieldAddr 1) [8],oT 93 128 (.load false 1) [92],oT 94 129 (.call true 302) [91,93],mT 95 133 6,oT 96 134 (.fieldAddr 1) [8],oT 97 135 (.load false 1) [96],oT 98 136 (.call true 303) [95,97],oT 99 140 (.call false 150) [94,98],oT 100 144 (.un .not) [99]],
 [mT 91 126 5,oT 92 127 (.fieldAddr 1) [8],oT 93 128 (.load false 1) [92],mT 95 133 6,oT 96 134 (.fieldAddr 1) [8],oT 97 135 (.load false 1) [96],oT 94 129 (.call true 302) [91,93],oT 98 136 (.call true 303) [95,97],oT 99 140 (.call false 150) [94,98],oT 100 144 (.un .not) [99]]])
 (.cond (.t 100) (.seq (.region [⟨(some 4),145,.move,[.c (.bool false)],none⟩])
 (.ret)) (.skip))) (.skip)))))))))))
 (.seq (.orders [[mT 101 146 5,oT 102 147 (.call true 304) [101],mT 103 151 6,oT 104 152 .nilCheck [103],oT 105 153 (.fieldAddr 0) [104],oT 106 154 (.load false 1) [105],oT 107 155 (.len false) [106],oT 108 156 (.bin .neq) [102,107]],
 [mT 101 146 5,mT 103 151 6,oT 104 152 .nilCheck [103],oT 105 153 (.fieldAddr 0) [104],oT 106 154 (.load false 1) [105],oT 102 147 (.call true 304) [101],oT 107 155 (.len false) [106],oT 108 156 (.bin .neq) [102,107]]])
 (.cond (.t 108) (.seq (.region [⟨(some 4),157,.move,[.c (.bool false)],none⟩])
 (.ret)) (.skip)))))))
 (.region [⟨(some 109),158,(.bin .add),[.t 31,.c (.int .i64 (1))],none⟩,
 mT 31 159 109])))))))
 (.seq (.region [⟨(some 4),160,.move,[.c (.bool true)],none⟩])
 (.ret)))))))))
 [.tmp 4] 0 108
def f269f.env:Env:=[(293,f293.C),(294,f294.C),(295,f295.C),(296,f296.C),(297,f297.C),(298,f298.C),(299,f299.C),(300,f300.C),(301,f301.C),(302,f302.C),(303,f303.C),(150,f150.C),(304,f304.C)]
def f269f.tree (a:List (aE)):Prop:=∃ c1:Unit,True∧Br (!(aT c1)) (∃ c4:Unit,True∧((aT c4)=(aT a))∧True) (f294.ent (fun c7=>(L20 c7)∧Br (!(iL c7)) (∃ c10:Unit,True∧((aT c10)=(aT a))∧True) (∃ c13:Unit,True∧∃ (I15:(Int×(Nat×Ob Int)×(List (ByteArray))×(List (Int)))→Prop) (μ16:(Int×(Nat×Ob Int)×(List (ByteArray))×(List (Int)))→Nat),(∃ x14:Int×(Nat×Ob Int)×(List (ByteArray))×(List (Int)),SlS aH a (((a.length:Int)=(a.length:Int))∧((0:Int)=x14.1)∧ObQ 0 x14.2.1.1 (ob0 Int).nl x14.2.1.2.nl (ob0 Int).n x14.2.1.2.n (ob0 Int).ks x14.2.1.2.ks (fun _ _=>[]) (ovs aD x14.2.1.2) (SlQ 0 x14.2.2.1.length fA (gl aA x14.2.2.1) (SlQ 0 x14.2.2.2.length fA (gl aD x14.2.2.2) (I15 x14)))))∧∀ y17:Int×(Nat×Ob Int)×(List (ByteArray))×(List (Int)),I15 y17→(Br (decide (y17.1 < (a.length:Int))) (Br (decide ((0:Int)≤y17.1)&&decide (y17.1 < (a.length:Int))) (∃ I21:(Int×(Nat×Ob Int)×(List (ByteArray))×(List (Int)))→Prop,(Br (((at_ a y17.1).1)==(1:Int)) (∃ c24:(Ob Int)×ByteArray×Int,(((at_ a y17.1).2.2)=c24.2.1)∧(((at_ a y17.1).2.1)=c24.2.2)∧ObQ 0 0 y17.2.1.2.nl c24.1.nl y17.2.1.2.n c24.1.n y17.2.1.2.ks c24.1.ks (ovs aD y17.2.1.2) (ovs aD c24.1) (True∧∃ c25:aC×ByteArray×Int,(((at_ a y17.1).2.2)=c25.2.1)∧(((at_ a y17.1).2.1)=c25.2.2)∧SlQ y17.2.2.1.length c25.1.1.length (gl aA y17.2.2.1) (gl aA c25.1.1) (SlQ y17.2.2.2.length c25.1.2.length (gl aD y17.2.2.2) (gl aD c25.1.2) ((kN c25)∧∃ x26:Int×(Nat×Ob Int)×(List (ByteArray))×(List (Int)),SlS aH a (((a.length:Int)=(a.length:Int))∧(y17.1=x26.1)∧ObQ (y17.2.1.1+1) x26.2.1.1 (setW c24).nl x26.2.1.2.nl (setW c24).n x26.2.1.2.n (setW c24).ks x26.2.1.2.ks (ovs aD (setW c24)) (ovs aD x26.2.1.2) (SlQ (((fR c25).1).length) x26.2.2.1.length (gl aA ((fR c25).1)) (gl aA x26.2.2.1) (SlQ (((fR c25).2).length) x26.2.2.2.length (gl aD ((fR c25).2)) (gl aD x26.2.2.2) (I21 x26)))))))) (Br (((at_ a y17.1).1)==(2:Int)) ((∃ c31:(Ob Int)×ByteArray,(((at_ a y17.1).2.2)=c31.2)∧ObQ 0 0 y17.2.1.2.nl c31.1.nl y17.2.1.2.n c31.1.n y17.2.1.2.ks c31.1.ks (ovs aD y17.2.1.2) (ovs aD c31.1) (True∧∃ c32:aC×ByteArray,(((at_ a y17.1).2.2)=c32.2)∧SlQ y17.2.2.1.length c32.1.1.length (gl aA y17.2.2.1) (gl aA c32.1.1) (SlQ y17.2.2.2.length c32.1.2.length (gl aD y17.2.2.2) (gl aD c32.1.2) ((cY c32)∧Br (!(((delW c31).1)==((cF c32).1))) ((false=(aT a))∧True) (∃ x36:Int×(Nat×Ob Int)×(List (ByteArray))×(List (Int)),SlS aH a (((a.length:Int)=(a.length:Int))∧(y17.1=x36.1)∧ObQ (y17.2.1.1+1) x36.2.1.1 ((delW c31).2).nl x36.2.1.2.nl ((delW c31).2).n x36.2.1.2.n ((delW c31).2).ks x36.2.1.2.ks (ovs aD ((delW c31).2)) (ovs aD x36.2.1.2) (SlQ ((((cF c32).2).1).length) x36.2.2.1.length (gl aA (((cF c32).2).1)) (gl aA x36.2.2.1) (SlQ ((((cF c32).2).2).length) x36.2.2.2.length (gl aD (((cF c32).2).2)) (gl aD x36.2.2.2) (I21 x36)))))))))∧(∃ c31:(Ob Int)×ByteArray,(((at_ a y17.1).2.2)=c31.2)∧ObQ 0 0 y17.2.1.2.nl c31.1.nl y17.2.1.2.n c31.1.n y17.2.1.2.ks c31.1.ks (ovs aD y17.2.1.2) (ovs aD c31.1) (True∧∃ c32:aC×ByteArray,(((at_ a y17.1).2.2)=c32.2)∧SlQ y17.2.2.1.length c32.1.1.length (gl aA y17.2.2.1) (gl aA c32.1.1) (SlQ y17.2.2.2.length c32.1.2.length (gl aD y17.2.2.2) (gl aD c32.1.2) ((cY c32)∧Br (!(((delW c31).1)==((cF c32).1))) ((false=(aT a))∧True) (∃ x36:Int×(Nat×Ob Int)×(List (ByteArray))×(List (Int)),SlS aH a (((a.length:Int)=(a.length:Int))∧(y17.1=x36.1)∧ObQ (y17.2.1.1+1) x36.2.1.1 ((delW c31).2).nl x36.2.1.2.nl ((delW c31).2).n x36.2.1.2.n ((delW c31).2).ks x36.2.1.2.ks (ovs aD ((delW c31).2)) (ovs aD x36.2.1.2) (SlQ ((((cF c32).2).1).length) x36.2.2.1.length (gl aA (((cF c32).2).1)) (gl aA x36.2.2.1) (SlQ ((((cF c32).2).2).length) x36.2.2.2.length (gl aD (((cF c32).2).2)) (gl aD x36.2.2.2) (I21 x36)))))))))) (Br (((at_ a y17.1).1)==(3:Int)) (∃ c43:(Ob Int)×ByteArray,(((at_ a y17.1).2.2)=c43.2)∧ObQ 0 0 y17.2.1.2.nl c43.1.nl y17.2.1.2.n c43.1.n y17.2.1.2.ks c43.1.ks (ovs aD y17.2.1.2) (ovs aD c43.1) (True∧∃ c44:aC×ByteArray,(((at_ a y17.1).2.2)=c44.2)∧SlQ y17.2.2.1.length c44.1.1.length (gl aA y17.2.2.1) (gl aA c44.1.1) (SlQ y17.2.2.2.length c44.1.2.length (gl aD y17.2.2.2) (gl aD c44.1.2) ((cY c44)∧Br (((atW c43).1) != (((dF 0) c44).1)) ((false=(aT a))∧True) (Br (!(((atW c43).2.1)==(((dF 0) c44).2.1))) ((false=(aT a))∧True) (∃ x51:Int×(Nat×Ob Int)×(List (ByteArray))×(List (Int)),SlS aH a (((a.length:Int)=(a.length:Int))∧(y17.1=x51.1)∧ObQ (y17.2.1.1+1) x51.2.1.1 ((atW c43).2.2).nl x51.2.1.2.nl ((atW c43).2.2).n x51.2.1.2.n ((atW c43).2.2).ks x51.2.1.2.ks (ovs aD ((atW c43).2.2)) (ovs aD x51.2.1.2) (SlQ (((((dF 0) c44).2.2).1).length) x51.2.2.1.length (gl aA ((((dF 0) c44).2.2).1)) (gl aA x51.2.2.1) (SlQ (((((dF 0) c44).2.2).2).length) x51.2.2.2.length (gl aD ((((dF 0) c44).2.2).2)) (gl aD x51.2.2.2) (I21 x51)))))))))) (Br (((at_ a y17.1).1)==(4:Int)) ((∃ c60:(Ob Int)×Int,(((at_ a y17.1).2.1)=c60.2)∧ObQ 0 0 y17.2.1.2.nl c60.1.nl y17.2.1.2.n c60.1.n y17.2.1.2.ks c60.1.ks (ovs aD y17.2.1.2) (ovs aD c60.1) ((fC c60)∧∃ c61:aC×Int,(((at_ a y17.1).2.1)=c61.2)∧SlQ y17.2.2.1.length c61.1.1.length (gl aA y17.2.2.1) (gl aA c61.1.1) (SlQ y17.2.2.2.length c61.1.2.length (gl aD y17.2.2.2) (gl aD c61.1.2) ((iC c61)∧f150.ent (fun c62=>(fK c62)∧Br (!(eQ c62)) ((false=(aT a))∧True) (∃ x66:Int×(Nat×Ob Int)×(List (ByteArray))×(List (Int)),SlS aH a (((a.length:Int)=(a.length:Int))∧(y17.1=x66.1)∧ObQ (y17.2.1.1+1) x66.2.1.1 ((cO c60).2).nl x66.2.1.2.nl ((cO c60).2).n x66.2.1.2.n ((cO c60).2).ks x66.2.1.2.ks (ovs aD ((cO c60).2)) (ovs aD x66.2.1.2) (SlQ ((((dA c61).2).1).length) x66.2.2.1.length (gl aA (((dA c61).2).1)) (gl aA x66.2.2.1) (SlQ ((((dA c61).2).2).length) x66.2.2.2.length (gl aD (((dA c61).2).2)) (gl aD x66.2.2.2) (I21 x66)))))) ((cO c60).1,(dA c61).1)))))∧(∃ c60:(Ob Int)×Int,(((at_ a y17.1).2.1)=c60.2)∧ObQ 0 0 y17.2.1.2.nl c60.1.nl y17.2.1.2.n c60.1.n y17.2.1.2.ks c60.1.ks (ovs aD y17.2.1.2) (ovs aD c60.1) ((fC c60)∧∃ c61:aC×Int,(((at_ a y17.1).2.1)=c61.2)∧SlQ y17.2.2.1.length c61.1.1.length (gl aA y17.2.2.1) (gl aA c61.1.1) (SlQ y17.2.2.2.length c61.1.2.length (gl aD y17.2.2.2) (gl aD c61.1.2) ((iC c61)∧f150.ent (fun c62=>(fK c62)∧Br (!(eQ c62)) ((false=(aT a))∧True) (∃ x66:Int×(Nat×Ob Int)×(List (ByteArray))×(List (Int)),SlS aH a (((a.length:Int)=(a.length:Int))∧(y17.1=x66.1)∧ObQ (y17.2.1.1+1) x66.2.1.1 ((cO c60).2).nl x66.2.1.2.nl ((cO c60).2).n x66.2.1.2.n ((cO c60).2).ks x66.2.1.2.ks (ovs aD ((cO c60).2)) (ovs aD x66.2.1.2) (SlQ ((((dA c61).2).1).length) x66.2.2.1.length (gl aA (((dA c61).2).1)) (gl aA x66.2.2.1) (SlQ ((((dA c61).2).2).length) x66.2.2.2.length (gl aD (((dA c61).2).2)) (gl aD x66.2.2.2) (I21 x66)))))) ((cO c60).1,(dA c61).1)))))) (∃ x72:Int×(Nat×Ob Int)×(List (ByteArray))×(List (Int)),SlS aH a (((a.length:Int)=(a.length:Int))∧(y17.1=x72.1)∧ObQ y17.2.1.1 x72.2.1.1 y17.2.1.2.nl x72.2.1.2.nl y17.2.1.2.n x72.2.1.2.n y17.2.1.2.ks x72.2.1.2.ks (ovs aD y17.2.1.2) (ovs aD x72.2.1.2) (SlQ y17.2.2.1.length x72.2.2.1.length (gl aA y17.2.2.1) (gl aA x72.2.2.1) (SlQ y17.2.2.2.length x72.2.2.2.length (gl aD y17.2.2.2) (gl aD x72.2.2.2) (I21 x72)))))))))∧∀ y81:Int×(Nat×Ob Int)×(List (ByteArray))×(List (Int)),I21 y81→((∃ c84:Ob Int,ObQ 0 0 y81.2.1.2.nl c84.nl y81.2.1.2.n c84.n y81.2.1.2.ks c84.ks (ovs aD y81.2.1.2) (ovs aD c84) (True∧Br (((cA c84).1) != (y81.2.2.1.length:Int)) ((false=(aT a))∧True) (Let (wI (y81.1+(1:Int))) (fun v88:Int=>∃ x89:Int×(Nat×Ob Int)×(List (ByteArray))×(List (Int)),SlS aH a (((a.length:Int)=(a.length:Int))∧(v88=x89.1)∧ObQ (y81.2.1.1+1) x89.2.1.1 ((cA c84).2).nl x89.2.1.2.nl ((cA c84).2).n x89.2.1.2.n ((cA c84).2).ks x89.2.1.2.ks (ovs aD ((cA c84).2)) (ovs aD x89.2.1.2) (SlQ y81.2.2.1.length x89.2.2.1.length (gl aA y81.2.2.1) (gl aA x89.2.2.1) (SlQ y81.2.2.2.length x89.2.2.2.length (gl aD y81.2.2.2) (gl aD x89.2.2.2) (I15 x89∧μ16 x89 < μ16 y17))))))))∧(∃ c84:Ob Int,ObQ 0 0 y81.2.1.2.nl c84.nl y81.2.1.2.n c84.n y81.2.1.2.ks c84.ks (ovs aD y81.2.1.2) (ovs aD c84) (True∧Br (((cA c84).1) != (y81.2.2.1.length:Int)) ((false=(aT a))∧True) (Let (wI (y81.1+(1:Int))) (fun v88:Int=>∃ x89:Int×(Nat×Ob Int)×(List (ByteArray))×(List (Int)),SlS aH a (((a.length:Int)=(a.length:Int))∧(v88=x89.1)∧ObQ (y81.2.1.1+1) x89.2.1.1 ((cA c84).2).nl x89.2.1.2.nl ((cA c84).2).n x89.2.1.2.n ((cA c84).2).ks x89.2.1.2.ks (ovs aD ((cA c84).2)) (ovs aD x89.2.1.2) (SlQ y81.2.2.1.length x89.2.2.1.length (gl aA y81.2.2.1) (gl aA x89.2.2.1) (SlQ y81.2.2.2.length x89.2.2.2.length (gl aD y81.2.2.2) (gl aD x89.2.2.2) (I15 x89∧μ16 x89 < μ16 y17)))))))))) False) ((true=(aT a))∧True)))) a)
def f269f.vc (a:List (aE)):Prop:=((¬((aT ())=true)→((aT ())=aT a))∧(¬(¬((aT ())=true))→(L20 a∧((¬((iL a)=true)→((aT ())=aT a))∧(¬(¬((iL a)=true))→(∃ (I15:(Int×(Nat×Ob Int)×(List (ByteArray))×(List (Int)))→Prop) (μ16:(Int×(Nat×Ob Int)×(List (ByteArray))×(List (Int)))→Nat),I15 ((0:Int),(0,ob0 Int),[],[])∧∀ y17:Int×(Nat×Ob Int)×(List (ByteArray))×(List (Int)),I15 y17→((y17.1 < (a.length:Int)→((0:Int)≤y17.1∧y17.1 < (a.length:Int)∧(∃ I21:(Int×(Nat×Ob Int)×(List (ByteArray))×(List (Int)))→Prop,(((((at_ a y17.1).1)=(1:Int)→(kN (y17.2.2,(at_ a y17.1).2.2,(at_ a y17.1).2.1)∧(I21 (y17.1,(y17.2.1.1+1,(setW (y17.2.1.2,(at_ a y17.1).2.2,(at_ a y17.1).2.1))),(fR (y17.2.2,(at_ a y17.1).2.2,(at_ a y17.1).2.1)).1,(fR (y17.2.2,(at_ a y17.1).2.2,(at_ a y17.1).2.1)).2))))∧(¬(((at_ a y17.1).1)=(1:Int))→((((at_ a y17.1).1)=(2:Int)→(cY (y17.2.2,(at_ a y17.1).2.2)∧(((!(((delW (y17.2.1.2,(at_ a y17.1).2.2)).1)==((cF (y17.2.2,(at_ a y17.1).2.2)).1)))=true→(false=aT a))∧(¬((!(((delW (y17.2.1.2,(at_ a y17.1).2.2)).1)==((cF (y17.2.2,(at_ a y17.1).2.2)).1)))=true)→(I21 (y17.1,(y17.2.1.1+1,(delW (y17.2.1.2,(at_ a y17.1).2.2)).2),((cF (y17.2.2,(at_ a y17.1).2.2)).2).1,((cF (y17.2.2,(at_ a y17.1).2.2)).2).2))))))∧(¬(((at_ a y17.1).1)=(2:Int))→((((at_ a y17.1).1)=(3:Int)→(cY (y17.2.2,(at_ a y17.1).2.2)∧((¬((atW (y17.2.1.2,(at_ a y17.1).2.2)).1)=(((dF 0) (y17.2.2,(at_ a y17.1).2.2)).1)→(false=aT a))∧(¬(¬((atW (y17.2.1.2,(at_ a y17.1).2.2)).1)=(((dF 0) (y17.2.2,(at_ a y17.1).2.2)).1))→(((!(((atW (y17.2.1.2,(at_ a y17.1).2.2)).2.1)==(((dF 0) (y17.2.2,(at_ a y17.1).2.2)).2.1)))=true→(false=aT a))∧(¬((!(((atW (y17.2.1.2,(at_ a y17.1).2.2)).2.1)==(((dF 0) (y17.2.2,(at_ a y17.1).2.2)).2.1)))=true)→(I21 (y17.1,(y17.2.1.1+1,(atW (y17.2.1.2,(at_ a y17.1).2.2)).2.2),(((dF 0) (y17.2.2,(at_ a y17.1).2.2)).2.2).1,(((dF 0) (y17.2.2,(at_ a y17.1).2.2)).2.2).2))))))))∧(¬(((at_ a y17.1).1)=(3:Int))→((((at_ a y17.1).1)=(4:Int)→(fC (y17.2.1.2,(at_ a y17.1).2.1)∧(iC (y17.2.2,(at_ a y17.1).2.1)∧(fK ((cO (y17.2.1.2,(at_ a y17.1).2.1)).1,(dA (y17.2.2,(at_ a y17.1).2.1)).1)∧((¬((eQ ((cO (y17.2.1.2,(at_ a y17.1).2.1)).1,(dA (y17.2.2,(at_ a y17.1).2.1)).1))=true)→(false=aT a))∧(¬(¬((eQ ((cO (y17.2.1.2,(at_ a y17.1).2.1)).1,(dA (y17.2.2,(at_ a y17.1).2.1)).1))=true))→(I21 (y17.1,(y17.2.1.1+1,(cO (y17.2.1.2,(at_ a y17.1).2.1)).2),((dA (y17.2.2,(at_ a y17.1).2.1)).2).1,((dA (y17.2.2,(at_ a y17.1).2.1)).2).2))))))))∧(¬(((at_ a y17.1).1)=(4:Int))→(I21 (y17.1,(y17.2.1.1,y17.2.1.2),y17.2.2.1,y17.2.2.2)))))))))))∧∀ y81:Int×(Nat×Ob Int)×(List (ByteArray))×(List (Int)),I21 y81→((¬((cA (y81.2.1.2)).1)=(y81.2.2.1.length:Int)→(false=aT a))∧(¬(¬((cA (y81.2.1.2)).1)=(y81.2.2.1.length:Int))→(-9223372036854775808≤(y81.1+(1:Int))∧(y81.1+(1:Int))≤9223372036854775807∧(I15 ((y81.1+(1:Int)),(y81.2.1.1+1,(cA (y81.2.1.2)).2),y81.2.2.1,y81.2.2.2)∧μ16 ((y81.1+(1:Int)),(y81.2.1.1+1,(cA (y81.2.1.2)).2),y81.2.2.1,y81.2.2.2) < μ16 y17)))))))∧(¬(y17.1 < (a.length:Int))→(true=aT a)))))))))
theorem f269f.of (a:List (aE)) (h:f269f.vc a):f269f.tree a:=⟨(),⟨trivial,br h (Cnd.not Cnd.b) (fun h2 k108=>⟨(),⟨trivial,⟨k108,trivial⟩⟩⟩) (fun h3 k109=>(f294.ei ⟨k109.1,br k109.2 (Cnd.not Cnd.b) (fun h8 k105=>⟨(),⟨trivial,⟨k105,trivial⟩⟩⟩) (fun h9 k106=>⟨(),⟨trivial,Exists.elim k106 (fun I15 h101_=>Exists.elim h101_ (fun μ16 h101=>⟨I15,μ16,⟨((0:Int),(0,ob0 Int),[],[]),SlS.mk  (⟨rfl,⟨rfl,obQ rfl (OV.zero (e:=aD)) rfl (slQ (Rds.nil (enc:=aA)) (slQ (Rds.nil (enc:=aD)) (h101.1)))⟩⟩)⟩,fun y17 h103=>br (h101.2 y17 h103) Cnd.dec (fun h18 k99=>chk k99.2.2 Cnd.ix ⟨k99.1,k99.2.1⟩ (fun h20 k97=>Exists.elim k97 (fun I21 h83=>⟨I21,br h83.1 Cnd.eq (fun h22 k79=>⟨(y17.2.1.2,(at_ a y17.1).2.2,(at_ a y17.1).2.1),⟨rfl,⟨rfl,obQ rfl (OV.self (e:=aD)) rfl (⟨trivial,⟨(y17.2.2,(at_ a y17.1).2.2,(at_ a y17.1).2.1),⟨rfl,⟨rfl,slQ (rS aA) (slQ (rS aD) (⟨k79.1,⟨(y17.1,(y17.2.1.1+1,(setW (y17.2.1.2,(at_ a y17.1).2.2,(at_ a y17.1).2.1))),(fR (y17.2.2,(at_ a y17.1).2.2,(at_ a y17.1).2.1)).1,(fR (y17.2.2,(at_ a y17.1).2.2,(at_ a y17.1).2.1)).2),SlS.mk  (⟨rfl,⟨rfl,obQ rfl (OV.self (e:=aD)) rfl (slQ (rS aA) (slQ (rS aD) (k79.2)))⟩⟩)⟩⟩))⟩⟩⟩⟩)⟩⟩⟩) (fun h23 k80=>br k80 Cnd.eq (fun h29 k77=>⟨⟨(y17.2.1.2,(at_ a y17.1).2.2),⟨rfl,obQ rfl (OV.self (e:=aD)) rfl (⟨trivial,⟨(y17.2.2,(at_ a y17.1).2.2),⟨rfl,slQ (rS aA) (slQ (rS aD) (⟨k77.1,br k77.2 Cnd.b (fun h33 k37=>⟨k37,trivial⟩) (fun h34 k38=>⟨(y17.1,(y17.2.1.1+1,(delW (y17.2.1.2,(at_ a y17.1).2.2)).2),((cF (y17.2.2,(at_ a y17.1).2.2)).2).1,((cF (y17.2.2,(at_ a y17.1).2.2)).2).2),SlS.mk  (⟨rfl,⟨rfl,obQ rfl (OV.self (e:=aD)) rfl (slQ (rS aA) (slQ (rS aD) (k38)))⟩⟩)⟩)⟩))⟩⟩⟩)⟩⟩,⟨(y17.2.1.2,(at_ a y17.1).2.2),⟨rfl,obQ rfl (OV.self (e:=aD)) rfl (⟨trivial,⟨(y17.2.2,(at_ a y17.1).2.2),⟨rfl,slQ (rS aA) (slQ (rS aD) (⟨k77.1,br k77.2 Cnd.b (fun h33 k37=>⟨k37,trivial⟩) (fun h34 k38=>⟨(y17.1,(y17.2.1.1+1,(delW (y17.2.1.2,(at_ a y17.1).2.2)).2),((cF (y17.2.2,(at_ a y17.1).2.2)).2).1,((cF (y17.2.2,(at_ a y17.1).2.2)).2).2),SlS.mk  (⟨rfl,⟨rfl,obQ rfl (OV.self (e:=aD)) rfl (slQ (rS aA) (slQ (rS aD) (k38)))⟩⟩)⟩)⟩))⟩⟩⟩)⟩⟩⟩) (fun h30 k78=>br k78 Cnd.eq (fun h41 k75=>⟨(y17.2.1.2,(at_ a y17.1).2.2),⟨rfl,obQ rfl (OV.self (e:=aD)) rfl (⟨trivial,⟨(y17.2.2,(at_ a y17.1).2.2),⟨rfl,slQ (rS aA) (slQ (rS aD) (⟨k75.1,br k75.2 Cnd.ne (fun h45 k54=>⟨k54,trivial⟩) (fun h46 k55=>br k55 Cnd.b (fun h48 k52=>⟨k52,trivial⟩) (fun h49 k53=>⟨(y17.1,(y17.2.1.1+1,(atW (y17.2.1.2,(at_ a y17.1).2.2)).2.2),(((dF 0) (y17.2.2,(at_ a y17.1).2.2)).2.2).1,(((dF 0) (y17.2.2,(at_ a y17.1).2.2)).2.2).2),SlS.mk  (⟨rfl,⟨rfl,obQ rfl (OV.self (e:=aD)) rfl (slQ (rS aA) (slQ (rS aD) (k53)))⟩⟩)⟩))⟩))⟩⟩⟩)⟩⟩) (fun h42 k76=>br k76 Cnd.eq (fun h58 k73=>⟨⟨(y17.2.1.2,(at_ a y17.1).2.1),⟨rfl,obQ rfl (OV.self (e:=aD)) rfl (⟨k73.1,⟨(y17.2.2,(at_ a y17.1).2.1),⟨rfl,slQ (rS aA) (slQ (rS aD) (⟨k73.2.1,(f150.ei ⟨k73.2.2.1,br k73.2.2.2 (Cnd.not Cnd.b) (fun h63 k67=>⟨k67,trivial⟩) (fun h64 k68=>⟨(y17.1,(y17.2.1.1+1,(cO (y17.2.1.2,(at_ a y17.1).2.1)).2),((dA (y17.2.2,(at_ a y17.1).2.1)).2).1,((dA (y17.2.2,(at_ a y17.1).2.1)).2).2),SlS.mk  (⟨rfl,⟨rfl,obQ rfl (OV.self (e:=aD)) rfl (slQ (rS aA) (slQ (rS aD) (k68)))⟩⟩)⟩)⟩)⟩))⟩⟩⟩)⟩⟩,⟨(y17.2.1.2,(at_ a y17.1).2.1),⟨rfl,obQ rfl (OV.self (e:=aD)) rfl (⟨k73.1,⟨(y17.2.2,(at_ a y17.1).2.1),⟨rfl,slQ (rS aA) (slQ (rS aD) (⟨k73.2.1,(f150.ei ⟨k73.2.2.1,br k73.2.2.2 (Cnd.not Cnd.b) (fun h63 k67=>⟨k67,trivial⟩) (fun h64 k68=>⟨(y17.1,(y17.2.1.1+1,(cO (y17.2.1.2,(at_ a y17.1).2.1)).2),((dA (y17.2.2,(at_ a y17.1).2.1)).2).1,((dA (y17.2.2,(at_ a y17.1).2.1)).2).2),SlS.mk  (⟨rfl,⟨rfl,obQ rfl (OV.self (e:=aD)) rfl (slQ (rS aA) (slQ (rS aD) (k68)))⟩⟩)⟩)⟩)⟩))⟩⟩⟩)⟩⟩⟩) (fun h59 k74=>⟨(y17.1,(y17.2.1.1,y17.2.1.2),y17.2.2.1,y17.2.2.2),SlS.mk  (⟨rfl,⟨rfl,obQ rfl (OV.self (e:=aD)) rfl (slQ (rS aA) (slQ (rS aD) (k74)))⟩⟩)⟩)))),fun y81 h82=>⟨⟨y81.2.1.2,obQ rfl (OV.self (e:=aD)) rfl (⟨trivial,br (h83.2 y81 h82) Cnd.ne (fun h85 k94=>⟨k94,trivial⟩) (fun h86 k95=>wrapK.i64 k95 (fun h91 h92 k93=>⟨((y81.1+(1:Int)),(y81.2.1.1+1,(cA (y81.2.1.2)).2),y81.2.2.1,y81.2.2.2),SlS.mk  (⟨rfl,⟨rfl,obQ rfl (OV.self (e:=aD)) rfl (slQ (rS aA) (slQ (rS aD) (k93)))⟩⟩)⟩))⟩)⟩,⟨y81.2.1.2,obQ rfl (OV.self (e:=aD)) rfl (⟨trivial,br (h83.2 y81 h82) Cnd.ne (fun h85 k94=>⟨k94,trivial⟩) (fun h86 k95=>wrapK.i64 k95 (fun h91 h92 k93=>⟨((y81.1+(1:Int)),(y81.2.1.1+1,(cA (y81.2.1.2)).2),y81.2.2.1,y81.2.2.2),SlS.mk  (⟨rfl,⟨rfl,obQ rfl (OV.self (e:=aD)) rfl (slQ (rS aA) (slQ (rS aD) (k93)))⟩⟩)⟩))⟩)⟩⟩⟩))) (fun h19 k100=>⟨k100,trivial⟩)⟩))⟩⟩)⟩))⟩⟩
theorem f269f.eq (a:List (aE)):(f269f.af a).gives f269f.env (f269.args (a,false)) (f269.blks (a,false)) (f269.res (a,false)) (f269.blks' (a,false))=f269f.tree a:=by kernel_rfl
def f269.kills (a:(List (aE))×Bool):List Hint:=bif a.2 then f269t.kills a.1 else f269f.kills a.1
def f269.cuts (a:(List (aE))×Bool):List (Nat×Σ β:Type,β→Tm):=bif a.2 then f269t.cuts a.1 else f269f.cuts a.1
def f269.af (a:(List (aE))×Bool):AF:=bif a.2 then f269t.af a.1 else f269f.af a.1
def f269.tree (a:(List (aE))×Bool):Prop:=bif a.2 then f269t.tree a.1 else f269f.tree a.1
def f269.env:Env:=f269t.env
def f269.vc (a:(List (aE))×Bool):Prop:=(a.2=true→f269t.vc a.1)∧(a.2=false→f269f.vc a.1)
theorem f269.of (a:(List (aE))×Bool) (h:f269.vc a):f269.tree a:=by
 obtain ⟨s0,s1⟩:=a
 cases s1 with
 | false=>exact f269f.of s0 (h.2 rfl)
 | true=>exact f269t.of s0 (h.1 rfl)
theorem f269.eq (a:(List (aE))×Bool):(f269.af a).gives f269.env (f269.args a) (f269.blks a) (f269.res a) (f269.blks' a)=f269.tree a:=by
 obtain ⟨s0,s1⟩:=a
 cases s1 with
 | false=>exact f269f.eq s0
 | true=>exact f269t.eq s0
section
variable {o:Ob Int} {l:List (ByteArray×Int)}
theorem aDC (r:Rep spW o l):(cA o).1=(((pu l).1).length:Int):=by rw [r.lenE,aL6]
theorem aCF (r:Rep spW o l) {k:ByteArray}:(delW (o,k)).1=(cF (pu l,k)).1:=by
 rw [(r.delW k).1,aBX r.ris k 0]
theorem t8 (r:Rep spW o l) (k:ByteArray):(atW (o,k)).1=((dF 0) (pu l,k)).1∧(atW (o,k)).2.1=((dF 0) (pu l,k)).2.1:=by
 rw [(r.atW k).1,(r.atW k).2,aLJ]
 exact ⟨rfl,rfl⟩
theorem wS (r:Rep spW o l) (h:l.length≤1048576) (now:Int):fK ((cO (o,now)).1,(dA (pu l,now)).1):=by
 rw [(r.due now).1,tR r.ris]
 have:=aGQ l now
 exact ⟨Nat.le_trans this h,Nat.le_trans this h⟩
theorem aD7 (r:Rep spW o l) (now:Int):eQ ((cO (o,now)).1,(dA (pu l,now)).1)=true:=by
 rw [(r.due now).1,tR r.ris]
 exact decide_eq_true rfl
end
theorem aMK (a:List (Int×Int×ByteArray)) (b:Bool) (h:f269.lpre (a,b)):a.length≤1048576:=by
 have h1:cK.size a+1≤1048576:=h.2
 exact aDA (by omega)
theorem f269t.ok (a:List (Int×Int×ByteArray)) (_:f269.lpre (a,true)):f269t.vc a:=by
 refine ⟨fun c=>absurd rfl c,fun _=>?_⟩
 have hsz:a.length≤1048576:=aMK a true ‹_›
 refine ⟨hsz,fun _=>rfl,fun hf=>?_⟩
 have hf:=(kR.1 (Classical.not_not.1 hf)).1
 refine ⟨fun y=>0≤y.1∧y.1≤(a.length:Int)∧∃ l,(y.2.1,y.2.2.1)=pu l∧Rep spW y.2.2.2.2 l∧l.length≤y.1.toNat,fun y=>a.length - y.1.toNat,
  ⟨by simp only; omega,by simp only; omega,[],rfl,Rep.zero,Nat.zero_le _⟩,fun y hy=>?_⟩
 obtain ⟨i,ns,as,c,o⟩:=y
 obtain ⟨g0,g1,l,hp,r,hl⟩:=hy
 simp only at g0 g1 hp r hl
 obtain ⟨rfl,rfl⟩:=Prod.mk.inj hp
 refine ⟨fun hlt=>?_,fun _=>rfl⟩
 simp only at hlt
 have pp:sA (pu l):=aFZ (by omega)
 refine ⟨g0,hlt,fun y=>y.1=i∧∃ l,(y.2.1,y.2.2.1)=pu l∧Rep spW y.2.2.2.2 l∧l.length≤i.toNat+1,?_,fun y hy=>?_⟩
 ·exact ⟨fun _=>⟨pp,rfl,_,aGS l _ _,r.setW _ _,Nat.le_trans (aF4 _ _ _) (by omega)⟩,
   fun _=>⟨fun _=>⟨pp,fun c=>absurd c (t9 (aCF r)),fun _=>⟨rfl,_,congrArg Prod.snd (aBX r.ris _ 0),(r.delW _).2,Nat.le_trans (lZ _ _) (by omega)⟩⟩,
    fun _=>⟨fun _=>⟨pp,fun c=>absurd (t8 r _).1 c,fun _=>⟨fun c=>absurd c (t9 (t8 r _).2),fun _=>⟨rfl,l,rfl,r,by omega⟩⟩⟩,
     fun _=>⟨fun _=>⟨r.duePre (by omega) _,pp,wS r (by omega) _,fun c=>absurd (aD7 r _) c,fun _=>⟨rfl,_,congrArg Prod.snd (tR r.ris _),(r.due _).2,Nat.le_trans (aGI _ _) (by omega)⟩⟩,
      fun _=>⟨rfl,l,rfl,r,by omega⟩⟩⟩⟩⟩
 ·obtain ⟨i2,ns2,as2,c2,o2⟩:=y
  obtain ⟨e1,l2,hp2,r2,hl2⟩:=hy
  simp only at e1 hp2 r2 hl2
  subst e1
  obtain ⟨rfl,rfl⟩:=Prod.mk.inj hp2
  exact ⟨fun c=>absurd (aDC r2) c,fun _=>⟨by simp only; omega,by simp only; omega,⟨by simp only; omega,by simp only; omega,l2,rfl,r2,by simp only; omega⟩,by simp only; omega⟩⟩
theorem f269f.ok (a:List (Int×Int×ByteArray)) (_:f269.lpre (a,false)):f269f.vc a:=by
 refine ⟨fun c=>absurd rfl c,fun _=>?_⟩
 have hsz:a.length≤1048576:=aMK a false ‹_›
 refine ⟨hsz,fun _=>rfl,fun hf=>?_⟩
 have hf:=(kR.1 (Classical.not_not.1 hf)).1
 refine ⟨fun y=>0≤y.1∧y.1≤(a.length:Int)∧∃ l,(y.2.2.1,y.2.2.2)=pu l∧Rep spW y.2.1.2 l∧l.length≤y.1.toNat,fun y=>a.length - y.1.toNat,
  ⟨by simp only; omega,by simp only; omega,[],rfl,Rep.zero,Nat.zero_le _⟩,fun y hy=>?_⟩
 obtain ⟨i,⟨c,o⟩,ns,as⟩:=y
 obtain ⟨g0,g1,l,hp,r,hl⟩:=hy
 simp only at g0 g1 hp r hl
 obtain ⟨rfl,rfl⟩:=Prod.mk.inj hp
 refine ⟨fun hlt=>?_,fun _=>rfl⟩
 simp only at hlt
 have pp:sA (pu l):=aFZ (by omega)
 refine ⟨g0,hlt,fun y=>y.1=i∧∃ l,(y.2.2.1,y.2.2.2)=pu l∧Rep spW y.2.1.2 l∧l.length≤i.toNat+1,?_,fun y hy=>?_⟩
 ·exact ⟨fun _=>⟨pp,rfl,_,aGS l _ _,r.setW _ _,Nat.le_trans (aF4 _ _ _) (by omega)⟩,
   fun _=>⟨fun _=>⟨pp,fun c=>absurd c (t9 (aCF r)),fun _=>⟨rfl,_,congrArg Prod.snd (aBX r.ris _ 0),(r.delW _).2,Nat.le_trans (lZ _ _) (by omega)⟩⟩,
    fun _=>⟨fun _=>⟨pp,fun c=>absurd (t8 r _).1 c,fun _=>⟨fun c=>absurd c (t9 (t8 r _).2),fun _=>⟨rfl,l,rfl,r,by omega⟩⟩⟩,
     fun _=>⟨fun _=>⟨r.duePre (by omega) _,pp,wS r (by omega) _,fun c=>absurd (aD7 r _) c,fun _=>⟨rfl,_,congrArg Prod.snd (tR r.ris _),(r.due _).2,Nat.le_trans (aGI _ _) (by omega)⟩⟩,
      fun _=>⟨rfl,l,rfl,r,by omega⟩⟩⟩⟩⟩
 ·obtain ⟨i2,⟨c2,o2⟩,ns2,as2⟩:=y
  obtain ⟨e1,l2,hp2,r2,hl2⟩:=hy
  simp only at e1 hp2 r2 hl2
  subst e1
  obtain ⟨rfl,rfl⟩:=Prod.mk.inj hp2
  exact ⟨fun c=>absurd (aDC r2) c,fun _=>⟨by simp only; omega,by simp only; omega,⟨by simp only; omega,by simp only; omega,l2,rfl,r2,by simp only; omega⟩,by simp only; omega⟩⟩
theorem f269.ok (a:List (Int×Int×ByteArray)×Bool) (h:f269.lpre a):f269.vc a:=by
 obtain ⟨s,b⟩:=a
 exact ⟨fun e=>f269t.ok s (by subst e; exact h),fun e=>f269f.ok s (by subst e; exact h)⟩
end Go.Abs
