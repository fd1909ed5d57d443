/- Functions, and what the code asks of them: PLabLaw2. -/
import Derived.KernelRfl
import Derived.Test.YtcmjinkfgbadoabLabelsBothP5
import Derived.Test.YtcmjinkfgbadoabLabelsBothP6
import Derived.Test.YtcmjinkfgbadoabLabelsBothP7
import Derived.Test.YtcmjinkfgbadoabLabelsBothP8
import Derived.Test.YtcmjinkfgbadoabLabelsBothP9
import Derived.Test.YtcmjinkfgbadoabLabelsBothP10
import Derived.Test.YtcmjinkfgbadoabLabelsBothP11
import Derived.Test.YtcmjinkfgbadoabLabelsBothP12
import Derived.Test.YtcmjinkfgbadoabLabelsBothP13
import Derived.Test.YtcmjinkfgbadoabLabelsBothP20
import Derived.Test.YtcmjinkfgbadoabLabelsBothP21
import Derived.Test.YtcmjinkfgbadoabLabelsBothP22
import Derived.Test.YtcmjinkfgbadoabLabelsBothP23
import Derived.Test.YtcmjinkfgbadoabLabelsBothP24
import Derived.Test.YtcmjinkfgbadoabLabelsBothP25
set_option linter.unusedVariables false
set_option linter.unusedSimpArgs false
set_option linter.unusedSectionVars false
-- interregnum/interregnumlaw18.LabelsPlays
namespace Go.Abs
open Go
def f333.wf (a:(List (aE))×Bool):Prop:=bD.ok a.1∧aII.ok a.2
def f333.size (a:(List (aE))×Bool):Nat:=bD.size a.1+aII.size a.2
def f333.lpre (a:(List (aE))×Bool):Prop:=f333.wf a∧f333.size a≤1048576
def f333.args (a:(List (aE))×Bool):List D:=[.slice .ro 3 a.1.length (gl aH a.1),.bool a.2]
def f333.blks (a:(List (aE))×Bool):List (List D):=[]
def f333.res (a:(List (aE))×Bool):List D:=[.bool (aP a)]
def f333.blks' (a:(List (aE))×Bool):List (List D):=[]
set_option linter.unusedVariables false
def f333t.S0 (a:List (aE)) (x:Int×(List (ByteArray))×(List (List (aB)))×(Nat×Ob (List (aB)))):Tm:=⟨.slice .ro 3 a.length (gl aH a)::.dead::.dead::.dead::.dead::.ptr 29 0::.ptr 24 0::dd 19 (.int .i64 (a.length:Int)::.int .i64 x.1::dd 61 []),[(24,false,[.slice .ro 1 x.2.1.length (gl aG x.2.1),.slice .ro 1 x.2.2.1.length (gl aA x.2.2.1)]),(29,false,[.dead,.obj 202 x.2.2.2.1 1 x.2.2.2.2.nl x.2.2.2.2.n x.2.2.2.2.ks (ovs aA x.2.2.2.2)])],[]⟩
def f333t.kills (a:List (aE)):List lT:=[.tell (Int×(List (ByteArray))×(List (List (aB)))×(Nat×Ob (List (aB)))) (f333t.S0 a)]
def f333t.cuts (a:List (aE)):List (Nat×Σ β:Type,β→Tm):=[(3201005000005,⟨Unit,fun x=>⟨[],[],[]⟩⟩),
 (100017,⟨Int×(List (ByteArray))×(List (List (aB)))×(Nat×Ob (List (aB))),fun x=>⟨.slice .ro 3 a.length (gl aH a)::.dead::.dead::.dead::.dead::.ptr 29 0::.ptr 24 0::dd 19 (.int .i64 (a.length:Int)::.int .i64 x.1::dd 61 []),[(24,false,[.slice .ro 1 x.2.1.length (gl aG x.2.1),.slice .ro 1 x.2.2.1.length (gl aA x.2.2.1)]),(29,false,[.dead,.obj 202 x.2.2.2.1 1 x.2.2.2.2.nl x.2.2.2.2.n x.2.2.2.2.ks (ovs aA x.2.2.2.2)])],[]⟩⟩)]
def f333t.af (a:List (aE)):AF:=AF.mk (.seq (.region [⟨(some 4),0,.move,[.c (.bool false)],none⟩])
 (.seq (.seq (.region [oT 9 1 (.call false 343) [],
 oT 10 5 (.un .not) [9],
 mT 11 6 10,
 oG 12 7 .move [0] 11 false,
 oG 13 8 (.call false 344) [12] 11 false,
 oG 14 12 (.un .not) [13] 11 false,
 ⟨(some 15),13,.pick,[.t 11,.c (.bool true),.t 14],none⟩])
 (.cond (.t 15) (.seq (.region [oT 16 14 (.call false 343) [],
 mT 4 18 16])
 (.ret)) (.skip)))
 (.seq (.region [oT 17 19 (.call false 144) [],
 oT 18 23 (.build [.slice .full 1 0 d8,.slice .full 1 0 d8] []) [],
 oT 19 24 .box [18],
 mT 5 25 17,
 mT 6 26 19])
 (.seq (.seq (.region [mT 20 27 1])
 (.cond (.t 20) (.region [oT 21 28 (.build [.nilm,.nilm] []) [],
 oT 22 29 .box [21],
 mT 5 30 22]) (.skip)))
 (.seq (.toObj 0 201 5) (.seq (.seq (.region [mT 23 31 5,
 oT 24 32 (.isNil true false) [23]])
 (.cond (.t 24) (.seq (.region [⟨(some 4),33,.move,[.c (.bool false)],none⟩])
 (.ret)) (.skip)))
 (.seq (.seq (.region [mT 25 34 0,
 oT 26 35 (.len false) [25],
 ⟨(some 27),36,.move,[.c (.int .i64 (0))],none⟩])
 (.block 0 (.loopT (Int×(List (ByteArray))×(List (List (aB)))×(Nat×Ob (List (aB)))) (f333t.S0 a) 37 125 (.seq (.region [oT 28 37 (.bin .lss) [27,26]])
 (.seq (.cond (.t 28) (.skip) (.exit 0))
 (.seq (.block 1 (.seq (.region [mT 29 38 27,
 mT 7 39 29])
 (.seq (.region [mT 30 40 0,
 mT 31 41 7,
 oT 32 42 (.indexAddr 3 none) [30,31],
 oT 33 43 (.load true 3) [32],
 oT 8 44 (.alloc [.int .i64 (0),.str ByteArray.empty,.slice (.own 0) 2 0 d8]) [],
 ⟨none,48,(.store 3),[.t 8,.t 33],none⟩])
 (.joinT (Int×(List (ByteArray))×(List (List (aB)))×(Nat×Ob (List (aB)))) (fun x=>⟨.slice .ro 3 a.length (gl aH a)::.dead::.dead::.dead::.dead::.ptr 29 0::.ptr 24 0::dd 19 (.int .i64 (a.length:Int)::.int .i64 x.1::dd 61 []),[(24,false,[.slice .ro 1 x.2.1.length (gl aG x.2.1),.slice .ro 1 x.2.2.1.length (gl aA x.2.2.1)]),(29,false,[.dead,.obj 202 x.2.2.2.1 1 x.2.2.2.2.nl x.2.2.2.2.n x.2.2.2.2.ks (ovs aA x.2.2.2.2)])],[]⟩) (.seq (.region [oT 34 49 (.fieldAddr 0) [8],
 oT 35 50 (.load false 1) [34]])
 (.block 2 (.seq (.region [⟨(some 37),51,(.bin .eql),[.t 35,.c (.int .i64 (1))],none⟩,
 mT 36 52 37])
 (.cond (.t 36) (.seq (.region [mT 38 53 5,
 oT 39 54 (.fieldAddr 1) [8],
 oT 40 55 (.load false 1) [39],
 oT 41 56 (.fieldAddr 2) [8],
 oT 42 57 (.load false 1) [41],
 oT 43 58 (.call true 146) [38,40,42]])
 (.region [mT 44 62 6,
 oT 45 63 (.fieldAddr 1) [8],
 oT 46 64 (.load false 1) [45],
 oT 47 65 (.fieldAddr 2) [8],
 oT 48 66 (.load false 1) [47],
 oT 49 67 (.call true 345) [44,46,48]])) (.seq (.region [⟨(some 51),71,(.bin .eql),[.t 35,.c (.int .i64 (2))],none⟩,
 mT 50 72 51])
 (.cond (.t 50) (.seq (.orders [[mT 52 73 5,oT 53 74 (.fieldAddr 1) [8],oT 54 75 (.load false 1) [53],oT 55 76 (.call true 165) [52,54],mT 56 80 6,oT 57 81 (.fieldAddr 1) [8],oT 58 82 (.load false 1) [57],oT 59 83 (.call true 346) [56,58],oT 60 87 (.binB true) [55,59]],
 [mT 52 73 5,oT 53 74 (.fieldAddr 1) [8],oT 54 75 (.load false 1) [53],mT 56 80 6,oT 57 81 (.fieldAddr 1) [8],oT 58 82 (.load false 1) [57],oT 55 76 (.call true 165) [52,54],oT 59 83 (.call true 346) [56,58],oT 60 87 (.binB true) [55,59]]])
 (.cond (.t 60) (.seq (.region [⟨(some 4),88,.move,[.c (.bool false)],none⟩])
 (.ret)) (.skip))) (.seq (.region [⟨(some 62),89,(.bin .eql),[.t 35,.c (.int .i64 (3))],none⟩,
 mT 61 90 62])
 (.cond (.t 61) (.seq (.orders [[mT 63 91 5,oT 64 92 (.fieldAddr 2) [8],oT 65 93 (.load false 1) [64],oT 66 94 (.call true 149) [63,65],mT 67 98 6,oT 68 99 (.fieldAddr 2) [8],oT 69 100 (.load false 1) [68],oT 70 101 (.call true 347) [67,69],oT 71 105 (.call false 150) [66,70],oT 72 109 (.un .not) [71]],
 [mT 63 91 5,oT 64 92 (.fieldAddr 2) [8],oT 65 93 (.load false 1) [64],mT 67 98 6,oT 68 99 (.fieldAddr 2) [8],oT 69 100 (.load false 1) [68],oT 66 94 (.call true 149) [63,65],oT 70 101 (.call true 347) [67,69],oT 71 105 (.call false 150) [66,70],oT 72 109 (.un .not) [71]]])
 (.cond (.t 72) (.seq (.region [⟨(some 4),110,.move,[.c (.bool false)],none⟩])
 (.ret)) (.skip))) (.skip)))))))))
 (.seq (.orders [[mT 73 111 5,oT 74 112 (.call true 262) [73],mT 75 116 6,oT 76 117 .nilCheck [75],oT 77 118 (.fieldAddr 0) [76],oT 78 119 (.load false 1) [77],oT 79 120 (.len false) [78],oT 80 121 (.bin .neq) [74,79]],
 [mT 73 111 5,mT 75 116 6,oT 76 117 .nilCheck [75],oT 77 118 (.fieldAddr 0) [76],oT 78 119 (.load false 1) [77],oT 74 112 (.call true 262) [73],oT 79 120 (.len false) [78],oT 80 121 (.bin .neq) [74,79]]])
 (.cond (.t 80) (.seq (.region [⟨(some 4),122,.move,[.c (.bool false)],none⟩])
 (.ret)) (.skip)))))))
 (.region [⟨(some 81),123,(.bin .add),[.t 27,.c (.int .i64 (1))],none⟩,
 mT 27 124 81])))))))
 (.seq (.orders [[mT 82 125 5,⟨(some 83),126,(.call true 149),[.t 82,.c (.slice .full 2 0 d8)],none⟩,mT 84 130 6,oT 85 131 .nilCheck [84],oT 86 132 (.fieldAddr 0) [85],oT 87 133 (.load false 1) [86],oT 88 134 (.call false 150) [83,87],mT 4 138 88],
 [mT 82 125 5,mT 84 130 6,oT 85 131 .nilCheck [84],oT 86 132 (.fieldAddr 0) [85],oT 87 133 (.load false 1) [86],⟨(some 83),126,(.call true 149),[.t 82,.c (.slice .full 2 0 d8)],none⟩,oT 88 134 (.call false 150) [83,87],mT 4 138 88]])
 (.ret)))))))))
 [.tmp 4] 0 87
def f333t.env:Env:=[(343,f343.C),(344,f344.C),(144,f144.C),(146,f146.C),(345,f345.C),(165,f165.C),(346,f346.C),(149,f149.C),(347,f347.C),(150,f150.C),(262,f262.C)]
def f333t.tree (a:List (aE)):Prop:=∃ c1:Unit,True∧Br (!(aP c1)) (∃ c4:Unit,True∧((aP c4)=(aP a))∧True) (f344.ent (fun c7=>(fC c7)∧Br (!(fA c7)) (∃ c10:Unit,True∧((aP c10)=(aP a))∧True) (∃ c13:Unit,True∧∃ (I15:(Int×(List (ByteArray))×(List (List (aB)))×(Nat×Ob (List (aB))))→Prop) (μ16:(Int×(List (ByteArray))×(List (List (aB)))×(Nat×Ob (List (aB))))→Nat),(∃ x14:Int×(List (ByteArray))×(List (List (aB)))×(Nat×Ob (List (aB))),SlS aH a (((a.length:Int)=(a.length:Int))∧((0:Int)=x14.1)∧SlQ 0 x14.2.1.length d8 (gl aG x14.2.1) (SlQ 0 x14.2.2.1.length d8 (gl aA x14.2.2.1) (ObQ 0 x14.2.2.2.1 (ob0 (List (aB))).nl x14.2.2.2.2.nl (ob0 (List (aB))).n x14.2.2.2.2.n (ob0 (List (aB))).ks x14.2.2.2.2.ks (fun _ _=>[]) (ovs aA x14.2.2.2.2) (I15 x14)))))∧∀ y17:Int×(List (ByteArray))×(List (List (aB)))×(Nat×Ob (List (aB))),I15 y17→(Br (decide (y17.1 < (a.length:Int))) (Br (decide ((0:Int)≤y17.1)&&decide (y17.1 < (a.length:Int))) (∃ I21:(Int×(List (ByteArray))×(List (List (aB)))×(Nat×Ob (List (aB))))→Prop,(Br (((at_ a y17.1).1)==(1:Int)) (∃ c24:(Ob (List (aB)))×ByteArray×(List (aB)),(((at_ a y17.1).2.1)=c24.2.1)∧SlQ (((at_ a y17.1).2.2).length) c24.2.2.length (gl aD ((at_ a y17.1).2.2)) (gl aD c24.2.2) (ObQ 0 0 y17.2.2.2.2.nl c24.1.nl y17.2.2.2.2.n c24.1.n y17.2.2.2.2.ks c24.1.ks (ovs aA y17.2.2.2.2) (ovs aA c24.1) ((eC c24)∧∃ c25:aJ×ByteArray×(List (aB)),(((at_ a y17.1).2.1)=c25.2.1)∧SlQ (((at_ a y17.1).2.2).length) c25.2.2.length (gl aD ((at_ a y17.1).2.2)) (gl aD c25.2.2) (SlQ y17.2.1.length c25.1.1.length (gl aG y17.2.1) (gl aG c25.1.1) (SlQ y17.2.2.1.length c25.1.2.length (gl aA y17.2.2.1) (gl aA c25.1.2) ((nR c25)∧∃ x26:Int×(List (ByteArray))×(List (List (aB)))×(Nat×Ob (List (aB))),SlS aH a (((a.length:Int)=(a.length:Int))∧(y17.1=x26.1)∧SlQ (((jM c25).1).length) x26.2.1.length (gl aG ((jM c25).1)) (gl aG x26.2.1) (SlQ (((jM c25).2).length) x26.2.2.1.length (gl aA ((jM c25).2)) (gl aA x26.2.2.1) (ObQ (y17.2.2.2.1+1) x26.2.2.2.1 (cE c24).nl x26.2.2.2.2.nl (cE c24).n x26.2.2.2.2.n (cE c24).ks x26.2.2.2.2.ks (ovs aA (cE c24)) (ovs aA x26.2.2.2.2) (I21 x26)))))))))) (Br (((at_ a y17.1).1)==(2:Int)) ((∃ c31:(Ob (List (aB)))×ByteArray,(((at_ a y17.1).2.1)=c31.2)∧ObQ 0 0 y17.2.2.2.2.nl c31.1.nl y17.2.2.2.2.n c31.1.n y17.2.2.2.2.ks c31.1.ks (ovs aA y17.2.2.2.2) (ovs aA c31.1) ((eG c31)∧∃ c32:aJ×ByteArray,(((at_ a y17.1).2.1)=c32.2)∧SlQ y17.2.1.length c32.1.1.length (gl aG y17.2.1) (gl aG c32.1.1) (SlQ y17.2.2.1.length c32.1.2.length (gl aA y17.2.2.1) (gl aA c32.1.2) ((i6 c32)∧Br (!(((a7 c31).1)==((dW c32).1))) ((false=(aP a))∧True) (∃ x36:Int×(List (ByteArray))×(List (List (aB)))×(Nat×Ob (List (aB))),SlS aH a (((a.length:Int)=(a.length:Int))∧(y17.1=x36.1)∧SlQ ((((dW c32).2).1).length) x36.2.1.length (gl aG (((dW c32).2).1)) (gl aG x36.2.1) (SlQ ((((dW c32).2).2).length) x36.2.2.1.length (gl aA (((dW c32).2).2)) (gl aA x36.2.2.1) (ObQ (y17.2.2.2.1+1) x36.2.2.2.1 ((a7 c31).2).nl x36.2.2.2.2.nl ((a7 c31).2).n x36.2.2.2.2.n ((a7 c31).2).ks x36.2.2.2.2.ks (ovs aA ((a7 c31).2)) (ovs aA x36.2.2.2.2) (I21 x36)))))))))∧(∃ c31:(Ob (List (aB)))×ByteArray,(((at_ a y17.1).2.1)=c31.2)∧ObQ 0 0 y17.2.2.2.2.nl c31.1.nl y17.2.2.2.2.n c31.1.n y17.2.2.2.2.ks c31.1.ks (ovs aA y17.2.2.2.2) (ovs aA c31.1) ((eG c31)∧∃ c32:aJ×ByteArray,(((at_ a y17.1).2.1)=c32.2)∧SlQ y17.2.1.length c32.1.1.length (gl aG y17.2.1) (gl aG c32.1.1) (SlQ y17.2.2.1.length c32.1.2.length (gl aA y17.2.2.1) (gl aA c32.1.2) ((i6 c32)∧Br (!(((a7 c31).1)==((dW c32).1))) ((false=(aP a))∧True) (∃ x36:Int×(List (ByteArray))×(List (List (aB)))×(Nat×Ob (List (aB))),SlS aH a (((a.length:Int)=(a.length:Int))∧(y17.1=x36.1)∧SlQ ((((dW c32).2).1).length) x36.2.1.length (gl aG (((dW c32).2).1)) (gl aG x36.2.1) (SlQ ((((dW c32).2).2).length) x36.2.2.1.length (gl aA (((dW c32).2).2)) (gl aA x36.2.2.1) (ObQ (y17.2.2.2.1+1) x36.2.2.2.1 ((a7 c31).2).nl x36.2.2.2.2.nl ((a7 c31).2).n x36.2.2.2.2.n ((a7 c31).2).ks x36.2.2.2.2.ks (ovs aA ((a7 c31).2)) (ovs aA x36.2.2.2.2) (I21 x36)))))))))) (Br (((at_ a y17.1).1)==(3:Int)) ((∃ c43:(Ob (List (aB)))×(List (aB)),SlQ (((at_ a y17.1).2.2).length) c43.2.length (gl aD ((at_ a y17.1).2.2)) (gl aD c43.2) (ObQ 0 0 y17.2.2.2.2.nl c43.1.nl y17.2.2.2.2.n c43.1.n y17.2.2.2.2.ks c43.1.ks (ovs aA y17.2.2.2.2) (ovs aA c43.1) ((bJ c43)∧∃ c44:aJ×(List (aB)),SlQ (((at_ a y17.1).2.2).length) c44.2.length (gl aD ((at_ a y17.1).2.2)) (gl aD c44.2) (SlQ y17.2.1.length c44.1.1.length (gl aG y17.2.1) (gl aG c44.1.1) (SlQ y17.2.2.1.length c44.1.2.length (gl aA y17.2.2.1) (gl aA c44.1.2) ((hZ c44)∧f150.ent (fun c45=>(cB c45)∧Br (!(cR c45)) ((false=(aP a))∧True) (∃ x49:Int×(List (ByteArray))×(List (List (aB)))×(Nat×Ob (List (aB))),SlS aH a (((a.length:Int)=(a.length:Int))∧(y17.1=x49.1)∧SlQ ((((dC c44).2).1).length) x49.2.1.length (gl aG (((dC c44).2).1)) (gl aG x49.2.1) (SlQ ((((dC c44).2).2).length) x49.2.2.1.length (gl aA (((dC c44).2).2)) (gl aA x49.2.2.1) (ObQ y17.2.2.2.1 x49.2.2.2.1 c43.1.nl x49.2.2.2.2.nl c43.1.n x49.2.2.2.2.n c43.1.ks x49.2.2.2.2.ks (ovs aA c43.1) (ovs aA x49.2.2.2.2) (I21 x49)))))) ((a6 c43),(dC c44).1)))))))∧(∃ c43:(Ob (List (aB)))×(List (aB)),SlQ (((at_ a y17.1).2.2).length) c43.2.length (gl aD ((at_ a y17.1).2.2)) (gl aD c43.2) (ObQ 0 0 y17.2.2.2.2.nl c43.1.nl y17.2.2.2.2.n c43.1.n y17.2.2.2.2.ks c43.1.ks (ovs aA y17.2.2.2.2) (ovs aA c43.1) ((bJ c43)∧∃ c44:aJ×(List (aB)),SlQ (((at_ a y17.1).2.2).length) c44.2.length (gl aD ((at_ a y17.1).2.2)) (gl aD c44.2) (SlQ y17.2.1.length c44.1.1.length (gl aG y17.2.1) (gl aG c44.1.1) (SlQ y17.2.2.1.length c44.1.2.length (gl aA y17.2.2.1) (gl aA c44.1.2) ((hZ c44)∧f150.ent (fun c45=>(cB c45)∧Br (!(cR c45)) ((false=(aP a))∧True) (∃ x49:Int×(List (ByteArray))×(List (List (aB)))×(Nat×Ob (List (aB))),SlS aH a (((a.length:Int)=(a.length:Int))∧(y17.1=x49.1)∧SlQ ((((dC c44).2).1).length) x49.2.1.length (gl aG (((dC c44).2).1)) (gl aG x49.2.1) (SlQ ((((dC c44).2).2).length) x49.2.2.1.length (gl aA (((dC c44).2).2)) (gl aA x49.2.2.1) (ObQ y17.2.2.2.1 x49.2.2.2.1 c43.1.nl x49.2.2.2.2.nl c43.1.n x49.2.2.2.2.n c43.1.ks x49.2.2.2.2.ks (ovs aA c43.1) (ovs aA x49.2.2.2.2) (I21 x49)))))) ((a6 c43),(dC c44).1)))))))) (∃ x55:Int×(List (ByteArray))×(List (List (aB)))×(Nat×Ob (List (aB))),SlS aH a (((a.length:Int)=(a.length:Int))∧(y17.1=x55.1)∧SlQ y17.2.1.length x55.2.1.length (gl aG y17.2.1) (gl aG x55.2.1) (SlQ y17.2.2.1.length x55.2.2.1.length (gl aA y17.2.2.1) (gl aA x55.2.2.1) (ObQ y17.2.2.2.1 x55.2.2.2.1 y17.2.2.2.2.nl x55.2.2.2.2.nl y17.2.2.2.2.n x55.2.2.2.2.n y17.2.2.2.2.ks x55.2.2.2.2.ks (ovs aA y17.2.2.2.2) (ovs aA x55.2.2.2.2) (I21 x55))))))))∧∀ y62:Int×(List (ByteArray))×(List (List (aB)))×(Nat×Ob (List (aB))),I21 y62→((∃ c65:Ob (List (aB)),ObQ 0 0 y62.2.2.2.2.nl c65.nl y62.2.2.2.2.n c65.n y62.2.2.2.2.ks c65.ks (ovs aA y62.2.2.2.2) (ovs aA c65) (True∧Br ((iK c65) != (y62.2.1.length:Int)) ((false=(aP a))∧True) (Let (wI (y62.1+(1:Int))) (fun v69:Int=>∃ x70:Int×(List (ByteArray))×(List (List (aB)))×(Nat×Ob (List (aB))),SlS aH a (((a.length:Int)=(a.length:Int))∧(v69=x70.1)∧SlQ y62.2.1.length x70.2.1.length (gl aG y62.2.1) (gl aG x70.2.1) (SlQ y62.2.2.1.length x70.2.2.1.length (gl aA y62.2.2.1) (gl aA x70.2.2.1) (ObQ y62.2.2.2.1 x70.2.2.2.1 c65.nl x70.2.2.2.2.nl c65.n x70.2.2.2.2.n c65.ks x70.2.2.2.2.ks (ovs aA c65) (ovs aA x70.2.2.2.2) (I15 x70∧μ16 x70 < μ16 y17))))))))∧(∃ c65:Ob (List (aB)),ObQ 0 0 y62.2.2.2.2.nl c65.nl y62.2.2.2.2.n c65.n y62.2.2.2.2.ks c65.ks (ovs aA y62.2.2.2.2) (ovs aA c65) (True∧Br ((iK c65) != (y62.2.1.length:Int)) ((false=(aP a))∧True) (Let (wI (y62.1+(1:Int))) (fun v69:Int=>∃ x70:Int×(List (ByteArray))×(List (List (aB)))×(Nat×Ob (List (aB))),SlS aH a (((a.length:Int)=(a.length:Int))∧(v69=x70.1)∧SlQ y62.2.1.length x70.2.1.length (gl aG y62.2.1) (gl aG x70.2.1) (SlQ y62.2.2.1.length x70.2.2.1.length (gl aA y62.2.2.1) (gl aA x70.2.2.1) (ObQ y62.2.2.2.1 x70.2.2.2.1 c65.nl x70.2.2.2.2.nl c65.n x70.2.2.2.2.n c65.ks x70.2.2.2.2.ks (ovs aA c65) (ovs aA x70.2.2.2.2) (I15 x70∧μ16 x70 < μ16 y17)))))))))) False) ((∃ c79:(Ob (List (aB)))×(List (aB)),SlQ 0 c79.2.length d8 (gl aD c79.2) (ObQ 0 0 y17.2.2.2.2.nl c79.1.nl y17.2.2.2.2.n c79.1.n y17.2.2.2.2.ks c79.1.ks (ovs aA y17.2.2.2.2) (ovs aA c79.1) ((bJ c79)∧f150.ent (fun c80=>(cB c80)∧((cR c80)=(aP a))∧True) ((a6 c79),y17.2.1))))∧(∃ c79:(Ob (List (aB)))×(List (aB)),SlQ 0 c79.2.length d8 (gl aD c79.2) (ObQ 0 0 y17.2.2.2.2.nl c79.1.nl y17.2.2.2.2.n c79.1.n y17.2.2.2.2.ks c79.1.ks (ovs aA y17.2.2.2.2) (ovs aA c79.1) ((bJ c79)∧f150.ent (fun c80=>(cB c80)∧((cR c80)=(aP a))∧True) ((a6 c79),y17.2.1)))))))) a)
def f333t.vc (a:List (aE)):Prop:=((¬((aP ())=true)→((aP ())=aP a))∧(¬(¬((aP ())=true))→(fC a∧((¬((fA a)=true)→((aP ())=aP a))∧(¬(¬((fA a)=true))→(∃ (I15:(Int×(List (ByteArray))×(List (List (aB)))×(Nat×Ob (List (aB))))→Prop) (μ16:(Int×(List (ByteArray))×(List (List (aB)))×(Nat×Ob (List (aB))))→Nat),I15 ((0:Int),[],[],(0,ob0 (List (aB))))∧∀ y17:Int×(List (ByteArray))×(List (List (aB)))×(Nat×Ob (List (aB))),I15 y17→((y17.1 < (a.length:Int)→((0:Int)≤y17.1∧y17.1 < (a.length:Int)∧(∃ I21:(Int×(List (ByteArray))×(List (List (aB)))×(Nat×Ob (List (aB))))→Prop,(((((at_ a y17.1).1)=(1:Int)→(eC (y17.2.2.2.2,(at_ a y17.1).2.1,(at_ a y17.1).2.2)∧(nR ((y17.2.1,y17.2.2.1),(at_ a y17.1).2.1,(at_ a y17.1).2.2)∧(I21 (y17.1,(jM ((y17.2.1,y17.2.2.1),(at_ a y17.1).2.1,(at_ a y17.1).2.2)).1,(jM ((y17.2.1,y17.2.2.1),(at_ a y17.1).2.1,(at_ a y17.1).2.2)).2,(y17.2.2.2.1+1,(cE (y17.2.2.2.2,(at_ a y17.1).2.1,(at_ a y17.1).2.2))))))))∧(¬(((at_ a y17.1).1)=(1:Int))→((((at_ a y17.1).1)=(2:Int)→(eG (y17.2.2.2.2,(at_ a y17.1).2.1)∧(i6 ((y17.2.1,y17.2.2.1),(at_ a y17.1).2.1)∧(((!(((a7 (y17.2.2.2.2,(at_ a y17.1).2.1)).1)==((dW ((y17.2.1,y17.2.2.1),(at_ a y17.1).2.1)).1)))=true→(false=aP a))∧(¬((!(((a7 (y17.2.2.2.2,(at_ a y17.1).2.1)).1)==((dW ((y17.2.1,y17.2.2.1),(at_ a y17.1).2.1)).1)))=true)→(I21 (y17.1,((dW ((y17.2.1,y17.2.2.1),(at_ a y17.1).2.1)).2).1,((dW ((y17.2.1,y17.2.2.1),(at_ a y17.1).2.1)).2).2,(y17.2.2.2.1+1,(a7 (y17.2.2.2.2,(at_ a y17.1).2.1)).2))))))))∧(¬(((at_ a y17.1).1)=(2:Int))→((((at_ a y17.1).1)=(3:Int)→(bJ (y17.2.2.2.2,(at_ a y17.1).2.2)∧(hZ ((y17.2.1,y17.2.2.1),(at_ a y17.1).2.2)∧(cB ((a6 (y17.2.2.2.2,(at_ a y17.1).2.2)),(dC ((y17.2.1,y17.2.2.1),(at_ a y17.1).2.2)).1)∧((¬((cR ((a6 (y17.2.2.2.2,(at_ a y17.1).2.2)),(dC ((y17.2.1,y17.2.2.1),(at_ a y17.1).2.2)).1))=true)→(false=aP a))∧(¬(¬((cR ((a6 (y17.2.2.2.2,(at_ a y17.1).2.2)),(dC ((y17.2.1,y17.2.2.1),(at_ a y17.1).2.2)).1))=true))→(I21 (y17.1,((dC ((y17.2.1,y17.2.2.1),(at_ a y17.1).2.2)).2).1,((dC ((y17.2.1,y17.2.2.1),(at_ a y17.1).2.2)).2).2,(y17.2.2.2.1,(y17.2.2.2.2,(at_ a y17.1).2.2).1)))))))))∧(¬(((at_ a y17.1).1)=(3:Int))→(I21 (y17.1,y17.2.1,y17.2.2.1,(y17.2.2.2.1,y17.2.2.2.2))))))))))∧∀ y62:Int×(List (ByteArray))×(List (List (aB)))×(Nat×Ob (List (aB))),I21 y62→((¬(iK (y62.2.2.2.2))=(y62.2.1.length:Int)→(false=aP a))∧(¬(¬(iK (y62.2.2.2.2))=(y62.2.1.length:Int))→(-9223372036854775808≤(y62.1+(1:Int))∧(y62.1+(1:Int))≤9223372036854775807∧(I15 ((y62.1+(1:Int)),y62.2.1,y62.2.2.1,(y62.2.2.2.1,(y62.2.2.2.2)))∧μ16 ((y62.1+(1:Int)),y62.2.1,y62.2.2.1,(y62.2.2.2.1,(y62.2.2.2.2))) < μ16 y17)))))))∧(¬(y17.1 < (a.length:Int))→(bJ (y17.2.2.2.2,[])∧(cB ((a6 (y17.2.2.2.2,[])),y17.2.1)∧((cR ((a6 (y17.2.2.2.2,[])),y17.2.1))=aP a)))))))))))
theorem f333t.of (a:List (aE)) (h:f333t.vc a):f333t.tree a:=⟨(),⟨trivial,br h (Cnd.not Cnd.b) (fun h2 k93=>⟨(),⟨trivial,⟨k93,trivial⟩⟩⟩) (fun h3 k94=>(f344.ei ⟨k94.1,br k94.2 (Cnd.not Cnd.b) (fun h8 k90=>⟨(),⟨trivial,⟨k90,trivial⟩⟩⟩) (fun h9 k91=>⟨(),⟨trivial,Exists.elim k91 (fun I15 h86_=>Exists.elim h86_ (fun μ16 h86=>⟨I15,μ16,⟨((0:Int),[],[],(0,ob0 (List (aB)))),SlS.mk  (⟨rfl,⟨rfl,slQ (Rds.nil (enc:=aG)) (slQ (Rds.nil (enc:=aA)) (obQ rfl (OV.zero (e:=aA)) rfl (h86.1)))⟩⟩)⟩,fun y17 h88=>br (h86.2 y17 h88) Cnd.dec (fun h18 k84=>chk k84.2.2 Cnd.ix ⟨k84.1,k84.2.1⟩ (fun h20 k78=>Exists.elim k78 (fun I21 h64=>⟨I21,br h64.1 Cnd.eq (fun h22 k60=>⟨(y17.2.2.2.2,(at_ a y17.1).2.1,(at_ a y17.1).2.2),⟨rfl,slQ (rS aD) (obQ rfl (OV.self (e:=aA)) rfl (⟨k60.1,⟨((y17.2.1,y17.2.2.1),(at_ a y17.1).2.1,(at_ a y17.1).2.2),⟨rfl,slQ (rS aD) (slQ (rS aG) (slQ (rS aA) (⟨k60.2.1,⟨(y17.1,(jM ((y17.2.1,y17.2.2.1),(at_ a y17.1).2.1,(at_ a y17.1).2.2)).1,(jM ((y17.2.1,y17.2.2.1),(at_ a y17.1).2.1,(at_ a y17.1).2.2)).2,(y17.2.2.2.1+1,(cE (y17.2.2.2.2,(at_ a y17.1).2.1,(at_ a y17.1).2.2)))),SlS.mk  (⟨rfl,⟨rfl,slQ (rS aG) (slQ (rS aA) (obQ rfl (OV.self (e:=aA)) rfl (k60.2.2)))⟩⟩)⟩⟩)))⟩⟩⟩))⟩⟩) (fun h23 k61=>br k61 Cnd.eq (fun h29 k58=>⟨⟨(y17.2.2.2.2,(at_ a y17.1).2.1),⟨rfl,obQ rfl (OV.self (e:=aA)) rfl (⟨k58.1,⟨((y17.2.1,y17.2.2.1),(at_ a y17.1).2.1),⟨rfl,slQ (rS aG) (slQ (rS aA) (⟨k58.2.1,br k58.2.2 Cnd.b (fun h33 k37=>⟨k37,trivial⟩) (fun h34 k38=>⟨(y17.1,((dW ((y17.2.1,y17.2.2.1),(at_ a y17.1).2.1)).2).1,((dW ((y17.2.1,y17.2.2.1),(at_ a y17.1).2.1)).2).2,(y17.2.2.2.1+1,(a7 (y17.2.2.2.2,(at_ a y17.1).2.1)).2)),SlS.mk  (⟨rfl,⟨rfl,slQ (rS aG) (slQ (rS aA) (obQ rfl (OV.self (e:=aA)) rfl (k38)))⟩⟩)⟩)⟩))⟩⟩⟩)⟩⟩,⟨(y17.2.2.2.2,(at_ a y17.1).2.1),⟨rfl,obQ rfl (OV.self (e:=aA)) rfl (⟨k58.1,⟨((y17.2.1,y17.2.2.1),(at_ a y17.1).2.1),⟨rfl,slQ (rS aG) (slQ (rS aA) (⟨k58.2.1,br k58.2.2 Cnd.b (fun h33 k37=>⟨k37,trivial⟩) (fun h34 k38=>⟨(y17.1,((dW ((y17.2.1,y17.2.2.1),(at_ a y17.1).2.1)).2).1,((dW ((y17.2.1,y17.2.2.1),(at_ a y17.1).2.1)).2).2,(y17.2.2.2.1+1,(a7 (y17.2.2.2.2,(at_ a y17.1).2.1)).2)),SlS.mk  (⟨rfl,⟨rfl,slQ (rS aG) (slQ (rS aA) (obQ rfl (OV.self (e:=aA)) rfl (k38)))⟩⟩)⟩)⟩))⟩⟩⟩)⟩⟩⟩) (fun h30 k59=>br k59 Cnd.eq (fun h41 k56=>⟨⟨(y17.2.2.2.2,(at_ a y17.1).2.2),slQ (rS aD) (obQ rfl (OV.self (e:=aA)) rfl (⟨k56.1,⟨((y17.2.1,y17.2.2.1),(at_ a y17.1).2.2),slQ (rS aD) (slQ (rS aG) (slQ (rS aA) (⟨k56.2.1,(f150.ei ⟨k56.2.2.1,br k56.2.2.2 (Cnd.not Cnd.b) (fun h46 k50=>⟨k50,trivial⟩) (fun h47 k51=>⟨(y17.1,((dC ((y17.2.1,y17.2.2.1),(at_ a y17.1).2.2)).2).1,((dC ((y17.2.1,y17.2.2.1),(at_ a y17.1).2.2)).2).2,(y17.2.2.2.1,(y17.2.2.2.2,(at_ a y17.1).2.2).1)),SlS.mk  (⟨rfl,⟨rfl,slQ (rS aG) (slQ (rS aA) (obQ rfl (OV.self (e:=aA)) rfl (k51)))⟩⟩)⟩)⟩)⟩)))⟩⟩))⟩,⟨(y17.2.2.2.2,(at_ a y17.1).2.2),slQ (rS aD) (obQ rfl (OV.self (e:=aA)) rfl (⟨k56.1,⟨((y17.2.1,y17.2.2.1),(at_ a y17.1).2.2),slQ (rS aD) (slQ (rS aG) (slQ (rS aA) (⟨k56.2.1,(f150.ei ⟨k56.2.2.1,br k56.2.2.2 (Cnd.not Cnd.b) (fun h46 k50=>⟨k50,trivial⟩) (fun h47 k51=>⟨(y17.1,((dC ((y17.2.1,y17.2.2.1),(at_ a y17.1).2.2)).2).1,((dC ((y17.2.1,y17.2.2.1),(at_ a y17.1).2.2)).2).2,(y17.2.2.2.1,(y17.2.2.2.2,(at_ a y17.1).2.2).1)),SlS.mk  (⟨rfl,⟨rfl,slQ (rS aG) (slQ (rS aA) (obQ rfl (OV.self (e:=aA)) rfl (k51)))⟩⟩)⟩)⟩)⟩)))⟩⟩))⟩⟩) (fun h42 k57=>⟨(y17.1,y17.2.1,y17.2.2.1,(y17.2.2.2.1,y17.2.2.2.2)),SlS.mk  (⟨rfl,⟨rfl,slQ (rS aG) (slQ (rS aA) (obQ rfl (OV.self (e:=aA)) rfl (k57)))⟩⟩)⟩))),fun y62 h63=>⟨⟨y62.2.2.2.2,obQ rfl (OV.self (e:=aA)) rfl (⟨trivial,br (h64.2 y62 h63) Cnd.ne (fun h66 k75=>⟨k75,trivial⟩) (fun h67 k76=>wrapK.i64 k76 (fun h72 h73 k74=>⟨((y62.1+(1:Int)),y62.2.1,y62.2.2.1,(y62.2.2.2.1,(y62.2.2.2.2))),SlS.mk  (⟨rfl,⟨rfl,slQ (rS aG) (slQ (rS aA) (obQ rfl (OV.self (e:=aA)) rfl (k74)))⟩⟩)⟩))⟩)⟩,⟨y62.2.2.2.2,obQ rfl (OV.self (e:=aA)) rfl (⟨trivial,br (h64.2 y62 h63) Cnd.ne (fun h66 k75=>⟨k75,trivial⟩) (fun h67 k76=>wrapK.i64 k76 (fun h72 h73 k74=>⟨((y62.1+(1:Int)),y62.2.1,y62.2.2.1,(y62.2.2.2.1,(y62.2.2.2.2))),SlS.mk  (⟨rfl,⟨rfl,slQ (rS aG) (slQ (rS aA) (obQ rfl (OV.self (e:=aA)) rfl (k74)))⟩⟩)⟩))⟩)⟩⟩⟩))) (fun h19 k85=>⟨⟨(y17.2.2.2.2,[]),slQ (Rds.nil (enc:=aD)) (obQ rfl (OV.self (e:=aA)) rfl (⟨k85.1,(f150.ei ⟨k85.2.1,⟨k85.2.2,trivial⟩⟩)⟩))⟩,⟨(y17.2.2.2.2,[]),slQ (Rds.nil (enc:=aD)) (obQ rfl (OV.self (e:=aA)) rfl (⟨k85.1,(f150.ei ⟨k85.2.1,⟨k85.2.2,trivial⟩⟩)⟩))⟩⟩)⟩))⟩⟩)⟩))⟩⟩
theorem f333t.eq (a:List (aE)):(f333t.af a).gives f333t.env (f333.args (a,true)) (f333.blks (a,true)) (f333.res (a,true)) (f333.blks' (a,true))=f333t.tree a:=by kernel_rfl
def f333f.S0 (a:List (aE)) (x:Int×(Nat×Ob (List (aB)))×(List (ByteArray))×(List (List (aB)))):Tm:=⟨.slice .ro 3 a.length (gl aH a)::.dead::.dead::.dead::.dead::.ptr 19 0::.ptr 24 0::dd 19 (.int .i64 (a.length:Int)::.int .i64 x.1::dd 61 []),[(19,false,[.dead,.obj 202 x.2.1.1 1 x.2.1.2.nl x.2.1.2.n x.2.1.2.ks (ovs aA x.2.1.2)]),(24,false,[.slice .ro 1 x.2.2.1.length (gl aG x.2.2.1),.slice .ro 1 x.2.2.2.length (gl aA x.2.2.2)])],[]⟩
def f333f.kills (a:List (aE)):List lT:=[.tell (Int×(Nat×Ob (List (aB)))×(List (ByteArray))×(List (List (aB)))) (f333f.S0 a)]
def f333f.cuts (a:List (aE)):List (Nat×Σ β:Type,β→Tm):=[(3201005000005,⟨Unit,fun x=>⟨[],[],[]⟩⟩),
 (100017,⟨Int×(Nat×Ob (List (aB)))×(List (ByteArray))×(List (List (aB))),fun x=>⟨.slice .ro 3 a.length (gl aH a)::.dead::.dead::.dead::.dead::.ptr 19 0::.ptr 24 0::dd 19 (.int .i64 (a.length:Int)::.int .i64 x.1::dd 61 []),[(19,false,[.dead,.obj 202 x.2.1.1 1 x.2.1.2.nl x.2.1.2.n x.2.1.2.ks (ovs aA x.2.1.2)]),(24,false,[.slice .ro 1 x.2.2.1.length (gl aG x.2.2.1),.slice .ro 1 x.2.2.2.length (gl aA x.2.2.2)])],[]⟩⟩)]
def f333f.af (a:List (aE)):AF:=AF.mk (.seq (.region [⟨(some 4),0,.move,[.c (.bool false)],none⟩])
 (.seq (.seq (.region [oT 9 1 (.call false 343) [],
 oT 10 5 (.un .not) [9],
 mT 11 6 10,
 oG 12 7 .move [0] 11 false,
 oG 13 8 (.call false 344) [12] 11 false,
 oG 14 12 (.un .not) [13] 11 false,
 ⟨(some 15),13,.pick,[.t 11,.c (.bool true),.t 14],none⟩])
 (.cond (.t 15) (.seq (.region [oT 16 14 (.call false 343) [],
 mT 4 18 16])
 (.ret)) (.skip)))
 (.seq (.region [oT 17 19 (.call false 144) [],
 oT 18 23 (.build [.slice .full 1 0 d8,.slice .full 1 0 d8] []) [],
 oT 19 24 .box [18],
 mT 5 25 17,
 mT 6 26 19])
 (.seq (.seq (.region [mT 20 27 1])
 (.cond (.t 20) (.region [oT 21 28 (.build [.nilm,.nilm] []) [],
 oT 22 29 .box [21],
 mT 5 30 22]) (.skip)))
 (.seq (.toObj 0 201 5) (.seq (.seq (.region [mT 23 31 5,
 oT 24 32 (.isNil true false) [23]])
 (.cond (.t 24) (.seq (.region [⟨(some 4),33,.move,[.c (.bool false)],none⟩])
 (.ret)) (.skip)))
 (.seq (.seq (.region [mT 25 34 0,
 oT 26 35 (.len false) [25],
 ⟨(some 27),36,.move,[.c (.int .i64 (0))],none⟩])
 (.block 0 (.loopT (Int×(Nat×Ob (List (aB)))×(List (ByteArray))×(List (List (aB)))) (f333f.S0 a) 37 125 (.seq (.region [oT 28 37 (.bin .lss) [27,26]])
 (.seq (.cond (.t 28) (.skip) (.exit 0))
 (.seq (.block 1 (.seq (.region [mT 29 38 27,
 mT 7 39 29])
 (.seq (.region [mT 30 40 0,
 mT 31 41 7,
 oT 32 42 (.indexAddr 3 none) [30,31],
 oT 33 43 (.load true 3) [32],
 oT 8 44 (.alloc [.int .i64 (0),.str ByteArray.empty,.slice (.own 0) 2 0 d8]) [],
 ⟨none,48,(.store 3),[.t 8,.t 33],none⟩])
 (.joinT (Int×(Nat×Ob (List (aB)))×(List (ByteArray))×(List (List (aB)))) (fun x=>⟨.slice .ro 3 a.length (gl aH a)::.dead::.dead::.dead::.dead::.ptr 19 0::.ptr 24 0::dd 19 (.int .i64 (a.length:Int)::.int .i64 x.1::dd 61 []),[(19,false,[.dead,.obj 202 x.2.1.1 1 x.2.1.2.nl x.2.1.2.n x.2.1.2.ks (ovs aA x.2.1.2)]),(24,false,[.slice .ro 1 x.2.2.1.length (gl aG x.2.2.1),.slice .ro 1 x.2.2.2.length (gl aA x.2.2.2)])],[]⟩) (.seq (.region [oT 34 49 (.fieldAddr 0) [8],
 oT 35 50 (.load false 1) [34]])
 (.block 2 (.seq (.region [⟨(some 37),51,(.bin .eql),[.t 35,.c (.int .i64 (1))],none⟩,
 mT 36 52 37])
 (.cond (.t 36) (.seq (.region [mT 38 53 5,
 oT 39 54 (.fieldAddr 1) [8],
 oT 40 55 (.load false 1) [39],
 oT 41 56 (.fieldAddr 2) [8],
 oT 42 57 (.load false 1) [41],
 oT 43 58 (.call true 146) [38,40,42]])
 (.region [mT 44 62 6,
 oT 45 63 (.fieldAddr 1) [8],
 oT 46 64 (.load false 1) [45],
 oT 47 65 (.fieldAddr 2) [8],
 oT 48 66 (.load false 1) [47],
 oT 49 67 (.call true 345) [44,46,48]])) (.seq (.region [⟨(some 51),71,(.bin .eql),[.t 35,.c (.int .i64 (2))],none⟩,
 mT 50 72 51])
 (.cond (.t 50) (.seq (.orders [[mT 52 73 5,oT 53 74 (.fieldAddr 1) [8],oT 54 75 (.load false 1) [53],oT 55 76 (.call true 165) [52,54],mT 56 80 6,oT 57 81 (.fieldAddr 1) [8],oT 58 82 (.load false 1) [57],oT 59 83 (.call true 346) [56,58],oT 60 87 (.binB true) [55,59]],
 [mT 52 73 5,oT 53 74 (.fieldAddr 1) [8],oT 54 75 (.load false 1) [53],mT 56 80 6,oT 57 81 (.fieldAddr 1) [8],oT 58 82 (.load false 1) [57],oT 55 76 (.call true 165) [52,54],oT 59 83 (.call true 346) [56,58],oT 60 87 (.binB true) [55,59]]])
 (.cond (.t 60) (.seq (.region [⟨(some 4),88,.move,[.c (.bool false)],none⟩])
 (.ret)) (.skip))) (.seq (.region [⟨(some 62),89,(.bin .eql),[.t 35,.c (.int .i64 (3))],none⟩,
 mT 61 90 62])
 (.cond (.t 61) (.seq (.orders [[mT 63 91 5,oT 64 92 (.fieldAddr 2) [8],oT 65 93 (.load false 1) [64],oT 66 94 (.call true 149) [63,65],mT 67 98 6,oT 68 99 (.fieldAddr 2) [8],oT 69 100 (.load false 1) [68],oT 70 101 (.call true 347) [67,69],oT 71 105 (.call false 150) [66,70],oT 72 109 (.un .not) [71]],
 [mT 63 91 5,oT 64 92 (.fieldAddr 2) [8],oT 65 93 (.load false 1) [64],mT 67 98 6,oT 68 99 (.fieldAddr 2) [8],oT 69 100 (.load false 1) [68],oT 66 94 (.call true 149) [63,65],oT 70 101 (.call true 347) [67,69],oT 71 105 (.call false 150) [66,70],oT 72 109 (.un .not) [71]]])
 (.cond (.t 72) (.seq (.region [⟨(some 4),110,.move,[.c (.bool false)],none⟩])
 (.ret)) (.skip))) (.skip)))))))))
 (.seq (.orders [[mT 73 111 5,oT 74 112 (.call true 262) [73],mT 75 116 6,oT 76 117 .nilCheck [75],oT 77 118 (.fieldAddr 0) [76],oT 78 119 (.load false 1) [77],oT 79 120 (.len false) [78],oT 80 121 (.bin .neq) [74,79]],
 [mT 73 111 5,mT 75 116 6,oT 76 117 .nilCheck [75],oT 77 118 (.fieldAddr 0) [76],oT 78 119 (.load false 1) [77],oT 74 112 (.call true 262) [73],oT 79 120 (.len false) [78],oT 80 121 (.bin .neq) [74,79]]])
 (.cond (.t 80) (.seq (.region [⟨(some 4),122,.move,[.c (.bool false)],none⟩])
 (.ret)) (.skip)))))))
 (.region [⟨(some 81),123,(.bin .add),[.t 27,.c (.int .i64 (1))],none⟩,
 mT 27 124 81])))))))
 (.seq (.orders [[mT 82 125 5,⟨(some 83),126,(.call true 149),[.t 82,.c (.slice .full 2 0 d8)],none⟩,mT 84 130 6,oT 85 131 .nilCheck [84],oT 86 132 (.fieldAddr 0) [85],oT 87 133 (.load false 1) [86],oT 88 134 (.call false 150) [83,87],mT 4 138 88],
 [mT 82 125 5,mT 84 130 6,oT 85 131 .nilCheck [84],oT 86 132 (.fieldAddr 0) [85],oT 87 133 (.load false 1) [86],⟨(some 83),126,(.call true 149),[.t 82,.c (.slice .full 2 0 d8)],none⟩,oT 88 134 (.call false 150) [83,87],mT 4 138 88]])
 (.ret)))))))))
 [.tmp 4] 0 87
def f333f.env:Env:=[(343,f343.C),(344,f344.C),(144,f144.C),(146,f146.C),(345,f345.C),(165,f165.C),(346,f346.C),(149,f149.C),(347,f347.C),(150,f150.C),(262,f262.C)]
def f333f.tree (a:List (aE)):Prop:=∃ c1:Unit,True∧Br (!(aP c1)) (∃ c4:Unit,True∧((aP c4)=(aP a))∧True) (f344.ent (fun c7=>(fC c7)∧Br (!(fA c7)) (∃ c10:Unit,True∧((aP c10)=(aP a))∧True) (∃ c13:Unit,True∧∃ (I15:(Int×(Nat×Ob (List (aB)))×(List (ByteArray))×(List (List (aB))))→Prop) (μ16:(Int×(Nat×Ob (List (aB)))×(List (ByteArray))×(List (List (aB))))→Nat),(∃ x14:Int×(Nat×Ob (List (aB)))×(List (ByteArray))×(List (List (aB))),SlS aH a (((a.length:Int)=(a.length:Int))∧((0:Int)=x14.1)∧ObQ 0 x14.2.1.1 (ob0 (List (aB))).nl x14.2.1.2.nl (ob0 (List (aB))).n x14.2.1.2.n (ob0 (List (aB))).ks x14.2.1.2.ks (fun _ _=>[]) (ovs aA x14.2.1.2) (SlQ 0 x14.2.2.1.length d8 (gl aG x14.2.2.1) (SlQ 0 x14.2.2.2.length d8 (gl aA x14.2.2.2) (I15 x14)))))∧∀ y17:Int×(Nat×Ob (List (aB)))×(List (ByteArray))×(List (List (aB))),I15 y17→(Br (decide (y17.1 < (a.length:Int))) (Br (decide ((0:Int)≤y17.1)&&decide (y17.1 < (a.length:Int))) (∃ I21:(Int×(Nat×Ob (List (aB)))×(List (ByteArray))×(List (List (aB))))→Prop,(Br (((at_ a y17.1).1)==(1:Int)) (∃ c24:(Ob (List (aB)))×ByteArray×(List (aB)),(((at_ a y17.1).2.1)=c24.2.1)∧SlQ (((at_ a y17.1).2.2).length) c24.2.2.length (gl aD ((at_ a y17.1).2.2)) (gl aD c24.2.2) (ObQ 0 0 y17.2.1.2.nl c24.1.nl y17.2.1.2.n c24.1.n y17.2.1.2.ks c24.1.ks (ovs aA y17.2.1.2) (ovs aA c24.1) ((eC c24)∧∃ c25:aJ×ByteArray×(List (aB)),(((at_ a y17.1).2.1)=c25.2.1)∧SlQ (((at_ a y17.1).2.2).length) c25.2.2.length (gl aD ((at_ a y17.1).2.2)) (gl aD c25.2.2) (SlQ y17.2.2.1.length c25.1.1.length (gl aG y17.2.2.1) (gl aG c25.1.1) (SlQ y17.2.2.2.length c25.1.2.length (gl aA y17.2.2.2) (gl aA c25.1.2) ((nR c25)∧∃ x26:Int×(Nat×Ob (List (aB)))×(List (ByteArray))×(List (List (aB))),SlS aH a (((a.length:Int)=(a.length:Int))∧(y17.1=x26.1)∧ObQ (y17.2.1.1+1) x26.2.1.1 (cE c24).nl x26.2.1.2.nl (cE c24).n x26.2.1.2.n (cE c24).ks x26.2.1.2.ks (ovs aA (cE c24)) (ovs aA x26.2.1.2) (SlQ (((jM c25).1).length) x26.2.2.1.length (gl aG ((jM c25).1)) (gl aG x26.2.2.1) (SlQ (((jM c25).2).length) x26.2.2.2.length (gl aA ((jM c25).2)) (gl aA x26.2.2.2) (I21 x26)))))))))) (Br (((at_ a y17.1).1)==(2:Int)) ((∃ c31:(Ob (List (aB)))×ByteArray,(((at_ a y17.1).2.1)=c31.2)∧ObQ 0 0 y17.2.1.2.nl c31.1.nl y17.2.1.2.n c31.1.n y17.2.1.2.ks c31.1.ks (ovs aA y17.2.1.2) (ovs aA c31.1) ((eG c31)∧∃ c32:aJ×ByteArray,(((at_ a y17.1).2.1)=c32.2)∧SlQ y17.2.2.1.length c32.1.1.length (gl aG y17.2.2.1) (gl aG c32.1.1) (SlQ y17.2.2.2.length c32.1.2.length (gl aA y17.2.2.2) (gl aA c32.1.2) ((i6 c32)∧Br (!(((a7 c31).1)==((dW c32).1))) ((false=(aP a))∧True) (∃ x36:Int×(Nat×Ob (List (aB)))×(List (ByteArray))×(List (List (aB))),SlS aH a (((a.length:Int)=(a.length:Int))∧(y17.1=x36.1)∧ObQ (y17.2.1.1+1) x36.2.1.1 ((a7 c31).2).nl x36.2.1.2.nl ((a7 c31).2).n x36.2.1.2.n ((a7 c31).2).ks x36.2.1.2.ks (ovs aA ((a7 c31).2)) (ovs aA x36.2.1.2) (SlQ ((((dW c32).2).1).length) x36.2.2.1.length (gl aG (((dW c32).2).1)) (gl aG x36.2.2.1) (SlQ ((((dW c32).2).2).length) x36.2.2.2.length (gl aA (((dW c32).2).2)) (gl aA x36.2.2.2) (I21 x36)))))))))∧(∃ c31:(Ob (List (aB)))×ByteArray,(((at_ a y17.1).2.1)=c31.2)∧ObQ 0 0 y17.2.1.2.nl c31.1.nl y17.2.1.2.n c31.1.n y17.2.1.2.ks c31.1.ks (ovs aA y17.2.1.2) (ovs aA c31.1) ((eG c31)∧∃ c32:aJ×ByteArray,(((at_ a y17.1).2.1)=c32.2)∧SlQ y17.2.2.1.length c32.1.1.length (gl aG y17.2.2.1) (gl aG c32.1.1) (SlQ y17.2.2.2.length c32.1.2.length (gl aA y17.2.2.2) (gl aA c32.1.2) ((i6 c32)∧Br (!(((a7 c31).1)==((dW c32).1))) ((false=(aP a))∧True) (∃ x36:Int×(Nat×Ob (List (aB)))×(List (ByteArray))×(List (List (aB))),SlS aH a (((a.length:Int)=(a.length:Int))∧(y17.1=x36.1)∧ObQ (y17.2.1.1+1) x36.2.1.1 ((a7 c31).2).nl x36.2.1.2.nl ((a7 c31).2).n x36.2.1.2.n ((a7 c31).2).ks x36.2.1.2.ks (ovs aA ((a7 c31).2)) (ovs aA x36.2.1.2) (SlQ ((((dW c32).2).1).length) x36.2.2.1.length (gl aG (((dW c32).2).1)) (gl aG x36.2.2.1) (SlQ ((((dW c32).2).2).length) x36.2.2.2.length (gl aA (((dW c32).2).2)) (gl aA x36.2.2.2) (I21 x36)))))))))) (Br (((at_ a y17.1).1)==(3:Int)) ((∃ c43:(Ob (List (aB)))×(List (aB)),SlQ (((at_ a y17.1).2.2).length) c43.2.length (gl aD ((at_ a y17.1).2.2)) (gl aD c43.2) (ObQ 0 0 y17.2.1.2.nl c43.1.nl y17.2.1.2.n c43.1.n y17.2.1.2.ks c43.1.ks (ovs aA y17.2.1.2) (ovs aA c43.1) ((bJ c43)∧∃ c44:aJ×(List (aB)),SlQ (((at_ a y17.1).2.2).length) c44.2.length (gl aD ((at_ a y17.1).2.2)) (gl aD c44.2) (SlQ y17.2.2.1.length c44.1.1.length (gl aG y17.2.2.1) (gl aG c44.1.1) (SlQ y17.2.2.2.length c44.1.2.length (gl aA y17.2.2.2) (gl aA c44.1.2) ((hZ c44)∧f150.ent (fun c45=>(cB c45)∧Br (!(cR c45)) ((false=(aP a))∧True) (∃ x49:Int×(Nat×Ob (List (aB)))×(List (ByteArray))×(List (List (aB))),SlS aH a (((a.length:Int)=(a.length:Int))∧(y17.1=x49.1)∧ObQ y17.2.1.1 x49.2.1.1 c43.1.nl x49.2.1.2.nl c43.1.n x49.2.1.2.n c43.1.ks x49.2.1.2.ks (ovs aA c43.1) (ovs aA x49.2.1.2) (SlQ ((((dC c44).2).1).length) x49.2.2.1.length (gl aG (((dC c44).2).1)) (gl aG x49.2.2.1) (SlQ ((((dC c44).2).2).length) x49.2.2.2.length (gl aA (((dC c44).2).2)) (gl aA x49.2.2.2) (I21 x49)))))) ((a6 c43),(dC c44).1)))))))∧(∃ c43:(Ob (List (aB)))×(List (aB)),SlQ (((at_ a y17.1).2.2).length) c43.2.length (gl aD ((at_ a y17.1).2.2)) (gl aD c43.2) (ObQ 0 0 y17.2.1.2.nl c43.1.nl y17.2.1.2.n c43.1.n y17.2.1.2.ks c43.1.ks (ovs aA y17.2.1.2) (ovs aA c43.1) ((bJ c43)∧∃ c44:aJ×(List (aB)),SlQ (((at_ a y17.1).2.2).length) c44.2.length (gl aD ((at_ a y17.1).2.2)) (gl aD c44.2) (SlQ y17.2.2.1.length c44.1.1.length (gl aG y17.2.2.1) (gl aG c44.1.1) (SlQ y17.2.2.2.length c44.1.2.length (gl aA y17.2.2.2) (gl aA c44.1.2) ((hZ c44)∧f150.ent (fun c45=>(cB c45)∧Br (!(cR c45)) ((false=(aP a))∧True) (∃ x49:Int×(Nat×Ob (List (aB)))×(List (ByteArray))×(List (List (aB))),SlS aH a (((a.length:Int)=(a.length:Int))∧(y17.1=x49.1)∧ObQ y17.2.1.1 x49.2.1.1 c43.1.nl x49.2.1.2.nl c43.1.n x49.2.1.2.n c43.1.ks x49.2.1.2.ks (ovs aA c43.1) (ovs aA x49.2.1.2) (SlQ ((((dC c44).2).1).length) x49.2.2.1.length (gl aG (((dC c44).2).1)) (gl aG x49.2.2.1) (SlQ ((((dC c44).2).2).length) x49.2.2.2.length (gl aA (((dC c44).2).2)) (gl aA x49.2.2.2) (I21 x49)))))) ((a6 c43),(dC c44).1)))))))) (∃ x55:Int×(Nat×Ob (List (aB)))×(List (ByteArray))×(List (List (aB))),SlS aH a (((a.length:Int)=(a.length:Int))∧(y17.1=x55.1)∧ObQ y17.2.1.1 x55.2.1.1 y17.2.1.2.nl x55.2.1.2.nl y17.2.1.2.n x55.2.1.2.n y17.2.1.2.ks x55.2.1.2.ks (ovs aA y17.2.1.2) (ovs aA x55.2.1.2) (SlQ y17.2.2.1.length x55.2.2.1.length (gl aG y17.2.2.1) (gl aG x55.2.2.1) (SlQ y17.2.2.2.length x55.2.2.2.length (gl aA y17.2.2.2) (gl aA x55.2.2.2) (I21 x55))))))))∧∀ y62:Int×(Nat×Ob (List (aB)))×(List (ByteArray))×(List (List (aB))),I21 y62→((∃ c65:Ob (List (aB)),ObQ 0 0 y62.2.1.2.nl c65.nl y62.2.1.2.n c65.n y62.2.1.2.ks c65.ks (ovs aA y62.2.1.2) (ovs aA c65) (True∧Br ((iK c65) != (y62.2.2.1.length:Int)) ((false=(aP a))∧True) (Let (wI (y62.1+(1:Int))) (fun v69:Int=>∃ x70:Int×(Nat×Ob (List (aB)))×(List (ByteArray))×(List (List (aB))),SlS aH a (((a.length:Int)=(a.length:Int))∧(v69=x70.1)∧ObQ y62.2.1.1 x70.2.1.1 c65.nl x70.2.1.2.nl c65.n x70.2.1.2.n c65.ks x70.2.1.2.ks (ovs aA c65) (ovs aA x70.2.1.2) (SlQ y62.2.2.1.length x70.2.2.1.length (gl aG y62.2.2.1) (gl aG x70.2.2.1) (SlQ y62.2.2.2.length x70.2.2.2.length (gl aA y62.2.2.2) (gl aA x70.2.2.2) (I15 x70∧μ16 x70 < μ16 y17))))))))∧(∃ c65:Ob (List (aB)),ObQ 0 0 y62.2.1.2.nl c65.nl y62.2.1.2.n c65.n y62.2.1.2.ks c65.ks (ovs aA y62.2.1.2) (ovs aA c65) (True∧Br ((iK c65) != (y62.2.2.1.length:Int)) ((false=(aP a))∧True) (Let (wI (y62.1+(1:Int))) (fun v69:Int=>∃ x70:Int×(Nat×Ob (List (aB)))×(List (ByteArray))×(List (List (aB))),SlS aH a (((a.length:Int)=(a.length:Int))∧(v69=x70.1)∧ObQ y62.2.1.1 x70.2.1.1 c65.nl x70.2.1.2.nl c65.n x70.2.1.2.n c65.ks x70.2.1.2.ks (ovs aA c65) (ovs aA x70.2.1.2) (SlQ y62.2.2.1.length x70.2.2.1.length (gl aG y62.2.2.1) (gl aG x70.2.2.1) (SlQ y62.2.2.2.length x70.2.2.2.length (gl aA y62.2.2.2) (gl aA x70.2.2.2) (I15 x70∧μ16 x70 < μ16 y17)))))))))) False) ((∃ c79:(Ob (List (aB)))×(List (aB)),SlQ 0 c79.2.length d8 (gl aD c79.2) (ObQ 0 0 y17.2.1.2.nl c79.1.nl y17.2.1.2.n c79.1.n y17.2.1.2.ks c79.1.ks (ovs aA y17.2.1.2) (ovs aA c79.1) ((bJ c79)∧f150.ent (fun c80=>(cB c80)∧((cR c80)=(aP a))∧True) ((a6 c79),y17.2.2.1))))∧(∃ c79:(Ob (List (aB)))×(List (aB)),SlQ 0 c79.2.length d8 (gl aD c79.2) (ObQ 0 0 y17.2.1.2.nl c79.1.nl y17.2.1.2.n c79.1.n y17.2.1.2.ks c79.1.ks (ovs aA y17.2.1.2) (ovs aA c79.1) ((bJ c79)∧f150.ent (fun c80=>(cB c80)∧((cR c80)=(aP a))∧True) ((a6 c79),y17.2.2.1)))))))) a)
def f333f.vc (a:List (aE)):Prop:=((¬((aP ())=true)→((aP ())=aP a))∧(¬(¬((aP ())=true))→(fC a∧((¬((fA a)=true)→((aP ())=aP a))∧(¬(¬((fA a)=true))→(∃ (I15:(Int×(Nat×Ob (List (aB)))×(List (ByteArray))×(List (List (aB))))→Prop) (μ16:(Int×(Nat×Ob (List (aB)))×(List (ByteArray))×(List (List (aB))))→Nat),I15 ((0:Int),(0,ob0 (List (aB))),[],[])∧∀ y17:Int×(Nat×Ob (List (aB)))×(List (ByteArray))×(List (List (aB))),I15 y17→((y17.1 < (a.length:Int)→((0:Int)≤y17.1∧y17.1 < (a.length:Int)∧(∃ I21:(Int×(Nat×Ob (List (aB)))×(List (ByteArray))×(List (List (aB))))→Prop,(((((at_ a y17.1).1)=(1:Int)→(eC (y17.2.1.2,(at_ a y17.1).2.1,(at_ a y17.1).2.2)∧(nR (y17.2.2,(at_ a y17.1).2.1,(at_ a y17.1).2.2)∧(I21 (y17.1,(y17.2.1.1+1,(cE (y17.2.1.2,(at_ a y17.1).2.1,(at_ a y17.1).2.2))),(jM (y17.2.2,(at_ a y17.1).2.1,(at_ a y17.1).2.2)).1,(jM (y17.2.2,(at_ a y17.1).2.1,(at_ a y17.1).2.2)).2)))))∧(¬(((at_ a y17.1).1)=(1:Int))→((((at_ a y17.1).1)=(2:Int)→(eG (y17.2.1.2,(at_ a y17.1).2.1)∧(i6 (y17.2.2,(at_ a y17.1).2.1)∧(((!(((a7 (y17.2.1.2,(at_ a y17.1).2.1)).1)==((dW (y17.2.2,(at_ a y17.1).2.1)).1)))=true→(false=aP a))∧(¬((!(((a7 (y17.2.1.2,(at_ a y17.1).2.1)).1)==((dW (y17.2.2,(at_ a y17.1).2.1)).1)))=true)→(I21 (y17.1,(y17.2.1.1+1,(a7 (y17.2.1.2,(at_ a y17.1).2.1)).2),((dW (y17.2.2,(at_ a y17.1).2.1)).2).1,((dW (y17.2.2,(at_ a y17.1).2.1)).2).2)))))))∧(¬(((at_ a y17.1).1)=(2:Int))→((((at_ a y17.1).1)=(3:Int)→(bJ (y17.2.1.2,(at_ a y17.1).2.2)∧(hZ (y17.2.2,(at_ a y17.1).2.2)∧(cB ((a6 (y17.2.1.2,(at_ a y17.1).2.2)),(dC (y17.2.2,(at_ a y17.1).2.2)).1)∧((¬((cR ((a6 (y17.2.1.2,(at_ a y17.1).2.2)),(dC (y17.2.2,(at_ a y17.1).2.2)).1))=true)→(false=aP a))∧(¬(¬((cR ((a6 (y17.2.1.2,(at_ a y17.1).2.2)),(dC (y17.2.2,(at_ a y17.1).2.2)).1))=true))→(I21 (y17.1,(y17.2.1.1,(y17.2.1.2,(at_ a y17.1).2.2).1),((dC (y17.2.2,(at_ a y17.1).2.2)).2).1,((dC (y17.2.2,(at_ a y17.1).2.2)).2).2))))))))∧(¬(((at_ a y17.1).1)=(3:Int))→(I21 (y17.1,(y17.2.1.1,y17.2.1.2),y17.2.2.1,y17.2.2.2)))))))))∧∀ y62:Int×(Nat×Ob (List (aB)))×(List (ByteArray))×(List (List (aB))),I21 y62→((¬(iK (y62.2.1.2))=(y62.2.2.1.length:Int)→(false=aP a))∧(¬(¬(iK (y62.2.1.2))=(y62.2.2.1.length:Int))→(-9223372036854775808≤(y62.1+(1:Int))∧(y62.1+(1:Int))≤9223372036854775807∧(I15 ((y62.1+(1:Int)),(y62.2.1.1,(y62.2.1.2)),y62.2.2.1,y62.2.2.2)∧μ16 ((y62.1+(1:Int)),(y62.2.1.1,(y62.2.1.2)),y62.2.2.1,y62.2.2.2) < μ16 y17)))))))∧(¬(y17.1 < (a.length:Int))→(bJ (y17.2.1.2,[])∧(cB ((a6 (y17.2.1.2,[])),y17.2.2.1)∧((cR ((a6 (y17.2.1.2,[])),y17.2.2.1))=aP a)))))))))))
theorem f333f.of (a:List (aE)) (h:f333f.vc a):f333f.tree a:=⟨(),⟨trivial,br h (Cnd.not Cnd.b) (fun h2 k93=>⟨(),⟨trivial,⟨k93,trivial⟩⟩⟩) (fun h3 k94=>(f344.ei ⟨k94.1,br k94.2 (Cnd.not Cnd.b) (fun h8 k90=>⟨(),⟨trivial,⟨k90,trivial⟩⟩⟩) (fun h9 k91=>⟨(),⟨trivial,Exists.elim k91 (fun I15 h86_=>Exists.elim h86_ (fun μ16 h86=>⟨I15,μ16,⟨((0:Int),(0,ob0 (List (aB))),[],[]),SlS.mk  (⟨rfl,⟨rfl,obQ rfl (OV.zero (e:=aA)) rfl (slQ (Rds.nil (enc:=aG)) (slQ (Rds.nil (enc:=aA)) (h86.1)))⟩⟩)⟩,fun y17 h88=>br (h86.2 y17 h88) Cnd.dec (fun h18 k84=>chk k84.2.2 Cnd.ix ⟨k84.1,k84.2.1⟩ (fun h20 k78=>Exists.elim k78 (fun I21 h64=>⟨I21,br h64.1 Cnd.eq (fun h22 k60=>⟨(y17.2.1.2,(at_ a y17.1).2.1,(at_ a y17.1).2.2),⟨rfl,slQ (rS aD) (obQ rfl (OV.self (e:=aA)) rfl (⟨k60.1,⟨(y17.2.2,(at_ a y17.1).2.1,(at_ a y17.1).2.2),⟨rfl,slQ (rS aD) (slQ (rS aG) (slQ (rS aA) (⟨k60.2.1,⟨(y17.1,(y17.2.1.1+1,(cE (y17.2.1.2,(at_ a y17.1).2.1,(at_ a y17.1).2.2))),(jM (y17.2.2,(at_ a y17.1).2.1,(at_ a y17.1).2.2)).1,(jM (y17.2.2,(at_ a y17.1).2.1,(at_ a y17.1).2.2)).2),SlS.mk  (⟨rfl,⟨rfl,obQ rfl (OV.self (e:=aA)) rfl (slQ (rS aG) (slQ (rS aA) (k60.2.2)))⟩⟩)⟩⟩)))⟩⟩⟩))⟩⟩) (fun h23 k61=>br k61 Cnd.eq (fun h29 k58=>⟨⟨(y17.2.1.2,(at_ a y17.1).2.1),⟨rfl,obQ rfl (OV.self (e:=aA)) rfl (⟨k58.1,⟨(y17.2.2,(at_ a y17.1).2.1),⟨rfl,slQ (rS aG) (slQ (rS aA) (⟨k58.2.1,br k58.2.2 Cnd.b (fun h33 k37=>⟨k37,trivial⟩) (fun h34 k38=>⟨(y17.1,(y17.2.1.1+1,(a7 (y17.2.1.2,(at_ a y17.1).2.1)).2),((dW (y17.2.2,(at_ a y17.1).2.1)).2).1,((dW (y17.2.2,(at_ a y17.1).2.1)).2).2),SlS.mk  (⟨rfl,⟨rfl,obQ rfl (OV.self (e:=aA)) rfl (slQ (rS aG) (slQ (rS aA) (k38)))⟩⟩)⟩)⟩))⟩⟩⟩)⟩⟩,⟨(y17.2.1.2,(at_ a y17.1).2.1),⟨rfl,obQ rfl (OV.self (e:=aA)) rfl (⟨k58.1,⟨(y17.2.2,(at_ a y17.1).2.1),⟨rfl,slQ (rS aG) (slQ (rS aA) (⟨k58.2.1,br k58.2.2 Cnd.b (fun h33 k37=>⟨k37,trivial⟩) (fun h34 k38=>⟨(y17.1,(y17.2.1.1+1,(a7 (y17.2.1.2,(at_ a y17.1).2.1)).2),((dW (y17.2.2,(at_ a y17.1).2.1)).2).1,((dW (y17.2.2,(at_ a y17.1).2.1)).2).2),SlS.mk  (⟨rfl,⟨rfl,obQ rfl (OV.self (e:=aA)) rfl (slQ (rS aG) (slQ (rS aA) (k38)))⟩⟩)⟩)⟩))⟩⟩⟩)⟩⟩⟩) (fun h30 k59=>br k59 Cnd.eq (fun h41 k56=>⟨⟨(y17.2.1.2,(at_ a y17.1).2.2),slQ (rS aD) (obQ rfl (OV.self (e:=aA)) rfl (⟨k56.1,⟨(y17.2.2,(at_ a y17.1).2.2),slQ (rS aD) (slQ (rS aG) (slQ (rS aA) (⟨k56.2.1,(f150.ei ⟨k56.2.2.1,br k56.2.2.2 (Cnd.not Cnd.b) (fun h46 k50=>⟨k50,trivial⟩) (fun h47 k51=>⟨(y17.1,(y17.2.1.1,(y17.2.1.2,(at_ a y17.1).2.2).1),((dC (y17.2.2,(at_ a y17.1).2.2)).2).1,((dC (y17.2.2,(at_ a y17.1).2.2)).2).2),SlS.mk  (⟨rfl,⟨rfl,obQ rfl (OV.self (e:=aA)) rfl (slQ (rS aG) (slQ (rS aA) (k51)))⟩⟩)⟩)⟩)⟩)))⟩⟩))⟩,⟨(y17.2.1.2,(at_ a y17.1).2.2),slQ (rS aD) (obQ rfl (OV.self (e:=aA)) rfl (⟨k56.1,⟨(y17.2.2,(at_ a y17.1).2.2),slQ (rS aD) (slQ (rS aG) (slQ (rS aA) (⟨k56.2.1,(f150.ei ⟨k56.2.2.1,br k56.2.2.2 (Cnd.not Cnd.b) (fun h46 k50=>⟨k50,trivial⟩) (fun h47 k51=>⟨(y17.1,(y17.2.1.1,(y17.2.1.2,(at_ a y17.1).2.2).1),((dC (y17.2.2,(at_ a y17.1).2.2)).2).1,((dC (y17.2.2,(at_ a y17.1).2.2)).2).2),SlS.mk  (⟨rfl,⟨rfl,obQ rfl (OV.self (e:=aA)) rfl (slQ (rS aG) (slQ (rS aA) (k51)))⟩⟩)⟩)⟩)⟩)))⟩⟩))⟩⟩) (fun h42 k57=>⟨(y17.1,(y17.2.1.1,y17.2.1.2),y17.2.2.1,y17.2.2.2),SlS.mk  (⟨rfl,⟨rfl,obQ rfl (OV.self (e:=aA)) rfl (slQ (rS aG) (slQ (rS aA) (k57)))⟩⟩)⟩))),fun y62 h63=>⟨⟨y62.2.1.2,obQ rfl (OV.self (e:=aA)) rfl (⟨trivial,br (h64.2 y62 h63) Cnd.ne (fun h66 k75=>⟨k75,trivial⟩) (fun h67 k76=>wrapK.i64 k76 (fun h72 h73 k74=>⟨((y62.1+(1:Int)),(y62.2.1.1,(y62.2.1.2)),y62.2.2.1,y62.2.2.2),SlS.mk  (⟨rfl,⟨rfl,obQ rfl (OV.self (e:=aA)) rfl (slQ (rS aG) (slQ (rS aA) (k74)))⟩⟩)⟩))⟩)⟩,⟨y62.2.1.2,obQ rfl (OV.self (e:=aA)) rfl (⟨trivial,br (h64.2 y62 h63) Cnd.ne (fun h66 k75=>⟨k75,trivial⟩) (fun h67 k76=>wrapK.i64 k76 (fun h72 h73 k74=>⟨((y62.1+(1:Int)),(y62.2.1.1,(y62.2.1.2)),y62.2.2.1,y62.2.2.2),SlS.mk  (⟨rfl,⟨rfl,obQ rfl (OV.self (e:=aA)) rfl (slQ (rS aG) (slQ (rS aA) (k74)))⟩⟩)⟩))⟩)⟩⟩⟩))) (fun h19 k85=>⟨⟨(y17.2.1.2,[]),slQ (Rds.nil (enc:=aD)) (obQ rfl (OV.self (e:=aA)) rfl (⟨k85.1,(f150.ei ⟨k85.2.1,⟨k85.2.2,trivial⟩⟩)⟩))⟩,⟨(y17.2.1.2,[]),slQ (Rds.nil (enc:=aD)) (obQ rfl (OV.self (e:=aA)) rfl (⟨k85.1,(f150.ei ⟨k85.2.1,⟨k85.2.2,trivial⟩⟩)⟩))⟩⟩)⟩))⟩⟩)⟩))⟩⟩
theorem f333f.eq (a:List (aE)):(f333f.af a).gives f333f.env (f333.args (a,false)) (f333.blks (a,false)) (f333.res (a,false)) (f333.blks' (a,false))=f333f.tree a:=by kernel_rfl
def LsS (l:List (ByteArray×Lbs)):Prop:=∀ x∈l,x.2.length≤30
structure Play (o:Ob Lbs) (l:List (ByteArray×Lbs)) (n:Nat):Prop where
 rep:RepL o l
 len:l.length≤n
 nm:NmS l
 ls:LsS l
section
variable {o:Ob Lbs} {l:List (ByteArray×Lbs)} {n:Nat}
theorem Play.zero:Play (ob0 Lbs) [] 0:=⟨RepL.zero,Nat.le_refl _,fun x h=>(by cases h),fun x h=>(by cases h)⟩
theorem Play.mono (p:Play o l n) {m:Nat} (h:n≤m):Play o l m:=⟨p.rep,Nat.le_trans p.len h,p.nm,p.ls⟩
theorem Play.put (p:Play o l n) {k:ByteArray} {w:Lbs} (hk:k.size≤1048576) (hw:w.length≤30):Play (cE (o,k,w)) (rV l k w) (n+1):=by
 refine ⟨p.rep.put k w,Nat.le_trans (aJD _ _ _) (Nat.succ_le_succ p.len),fun x hx=>?_,fun x hx=>?_⟩
 ·rcases kH.1 (show (x.1,x.2)∈_ from hx) with ⟨h1,_⟩ | ⟨_,h2⟩
  ·rw [h1]; exact hk
  ·exact p.nm _ h2
 ·rcases kH.1 (show (x.1,x.2)∈_ from hx) with ⟨_,h1⟩ | ⟨_,h2⟩
  ·rw [h1]; exact hw
  ·exact p.ls _ h2
theorem Play.del (p:Play o l n) (k:ByteArray):Play (a7 (o,k)).2 (nE l k) n :=
 ⟨(p.rep.del k).2,Nat.le_trans (yY _ _) p.len,fun x hx=>p.nm x (eA (k':=x.1) (x:=x.2) |>.1 hx).1,fun x hx=>p.ls x (eA (k':=x.1) (x:=x.2) |>.1 hx).1⟩
theorem Play.delPre (p:Play o l n) (k:ByteArray):eG (o,k):=by
 show (kC o k []).length≤1048576
 by_cases h:∃ x,(k,x)∈l
 ·obtain ⟨x,hx⟩:=h
  rw [p.rep.gets hx]
  have:=p.ls _ hx
  simp only at this
  omega
 ·rw [p.rep.getNo fun x hx=>h ⟨x,hx⟩]
  exact Nat.zero_le _
theorem Play.putPre (p:Play o l n) (k:ByteArray) {w:Lbs} (hw:w.length≤30):eC (o,k,w):=⟨p.delPre k,Nat.le_trans hw (by decide),p.rep.fam⟩
theorem Play.withPre (p:Play o l n) (hn:n≤1048576) {w:Lbs} (hw:w.length≤1048576):bJ (o,w):=p.rep.withPre (Nat.le_trans p.len hn) p.nm hw
theorem Play.pp (p:Play o l n) (hn:n≤1048576):wF (pu l):=aK4 (Nat.le_trans p.len hn)
theorem Play.hasPre (p:Play o l n) (hn:n≤1048576) {w:Lbs} (hw:w.length≤1048576):hZ (pu l,w):=by
 refine ⟨p.pp hn,hw,fun x hx=>?_⟩
 obtain ⟨y,hy,rfl⟩:=List.mem_map.1 hx
 exact Nat.le_trans (p.ls y hy) (by decide)
theorem aE4 (l:List (ByteArray×Lbs)) (w:Lbs):dC (pu l,w)=(iS l w,pu l):=by
 unfold dC
 rw [aIR]
theorem yH (p:Play o l n) (k:ByteArray):(a7 (o,k)).1=(dW (pu l,k)).1:=by
 rw [(p.rep.del k).1,aAC p.rep.ris k []]
theorem uD (p:Play o l n) (w:Lbs):a6 (o,w)=(dC (pu l,w)).1:=by
 rw [p.rep.with,aE4]
theorem sW (p:Play o l n) (hn:n≤1048576) (w:Lbs):cB (a6 (o,w),(dC (pu l,w)).1):=by
 rw [uD p,aE4]
 have:=Nat.le_trans (aEN l w) (Nat.le_trans p.len hn)
 exact ⟨this,this⟩
theorem vL (p:Play o l n) (w:Lbs):cR (a6 (o,w),(dC (pu l,w)).1)=true:=decide_eq_true (uD p w)
theorem xQ (p:Play o l n):iK o=((pu l).1.length:Int):=by rw [p.rep.len,aC5]
theorem aHZ (l:List (ByteArray×Lbs)):iS l []=(pu l).1:=congrArg (List.map _) (List.filter_eq_self.2 fun _ _=>rfl)
theorem oI (p:Play o l n):a6 (o,[])=(pu l).1:=by rw [p.rep.with,aHZ]
end
theorem kE {l:List (Int×ByteArray×Lbs)} (h:bD.size l≤1048576):fC l:=by
 have h0:(l.map bU.size).sum+1≤1048576:=h
 have h1:∀ m:List (Int×ByteArray×Lbs),m.length≤(m.map bU.size).sum∧∀ x∈m,bU.size x≤(m.map bU.size).sum:=fun m=>by
  induction m with
  | nil=>exact ⟨Nat.le_refl _,fun x hx=>by cases hx⟩
  | cons a m ih =>
   have:1≤bU.size a:=Nat.le_add_left 1 _
   simp only [List.map_cons,List.sum_cons,List.length_cons]
   refine ⟨by omega,fun x hx=>?_⟩
   rcases List.mem_cons.1 hx with rfl | hx
   ·omega
   ·have:=ih.2 x hx
    omega
 refine ⟨?_,fun x hx=>m8 ?_⟩
 ·have:=(h1 l).1
  show l.length≤1048576
  omega
 ·have h2:=(h1 l).2 x hx
  have h3:1+(x.2.1.size+1+bZ.size x.2.2)+1=bU.size x:=rfl
  omega
theorem wR {a:List (Int×ByteArray×Lbs)} (h:fA a=true) {i:Int} (h0:0≤i) (h1:i < a.length):(at_ a i).2.1.size≤1048576∧(at_ a i).2.2.length≤30∧(at_ a i).2.2.length≤1048576:=by
 have:=(fX.1 h).2 i.toNat (by omega)
 rw [← d9] at this
 have h2:=(fY.1 this.2).1
 exact ⟨by omega,h2,by omega⟩
theorem f333t.ok (a:List (Int×ByteArray×Lbs)) (h:f333.lpre (a,true)):f333t.vc a:=by
 have hsz:bD.size a+1≤1048576:=h.2
 refine ⟨fun c=>absurd rfl c,fun _=>⟨kE (by omega),fun _=>rfl,fun hf=>?_⟩⟩
 have hf:=Classical.not_not.1 hf
 have hlen:=(fX.1 hf).1
 refine ⟨fun y=>0≤y.1∧y.1≤(a.length:Int)∧∃ l,(y.2.1,y.2.2.1)=pu l∧Play y.2.2.2.2 l y.1.toNat,fun y=>a.length - y.1.toNat,
  ⟨by simp only; omega,by simp only; omega,[],rfl,Play.zero⟩,fun y hy=>?_⟩
 obtain ⟨i,ns,ays,c,o⟩:=y
 obtain ⟨g0,g1,l,hp,p⟩:=hy
 simp only at g0 g1 hp p
 obtain ⟨rfl,rfl⟩:=Prod.mk.inj hp
 refine ⟨fun hlt=>?_,fun _=>?_⟩
 ·simp only at hlt
  obtain ⟨q1,q2,q3⟩:=wR hf g0 hlt
  have hn:i.toNat≤1048576:=by omega
  refine ⟨g0,hlt,fun y=>y.1=i∧∃ l,(y.2.1,y.2.2.1)=pu l∧Play y.2.2.2.2 l (i.toNat+1),?_,fun y hy=>?_⟩
  ·exact ⟨fun _=>⟨p.putPre _ q2,p.pp hn,rfl,_,aEW l _ _,p.put q1 q2⟩,
    fun _=>⟨fun _=>⟨p.delPre _,p.pp hn,fun c=>absurd c (aE9 (yH p _)),fun _=>⟨rfl,_,congrArg Prod.snd (aAC p.rep.ris _ []),(p.del _).mono (Nat.le_succ _)⟩⟩,
     fun _=>⟨fun _=>⟨p.withPre hn q3,p.hasPre hn q3,sW p hn _,fun c=>absurd (vL p _) c,fun _=>⟨rfl,l,rfl,p.mono (Nat.le_succ _)⟩⟩,
      fun _=>⟨rfl,l,rfl,p.mono (Nat.le_succ _)⟩⟩⟩⟩
  ·obtain ⟨i2,ns2,as2,c2,o2⟩:=y
   obtain ⟨e1,l2,hp2,p2⟩:=hy
   simp only at e1 hp2 p2
   subst e1
   obtain ⟨rfl,rfl⟩:=Prod.mk.inj hp2
   exact ⟨fun c=>absurd (xQ p2) c,fun _=>⟨by simp only; omega,by simp only; omega,⟨by simp only; omega,by simp only; omega,l2,rfl,by
    simp only
    rw [show (i2+1).toNat=i2.toNat+1 by omega]
    exact p2⟩,by simp only; omega⟩⟩
 ·have hn:i.toNat≤1048576:=by omega
  have hl:=p.len
  refine ⟨p.withPre hn (Nat.zero_le _),?_,?_⟩
  ·show cB (a6 (o,[]),(pu l).1)
   rw [oI p]
   have:(pu l).1.length≤1048576:=by rw [aC5]; omega
   exact ⟨this,this⟩
  ·show cR (a6 (o,[]),(pu l).1)=true
   rw [oI p]
   exact decide_eq_true rfl
theorem f333f.ok (a:List (Int×ByteArray×Lbs)) (h:f333.lpre (a,false)):f333f.vc a:=by
 have hsz:bD.size a+1≤1048576:=h.2
 refine ⟨fun c=>absurd rfl c,fun _=>⟨kE (by omega),fun _=>rfl,fun hf=>?_⟩⟩
 have hf:=Classical.not_not.1 hf
 have hlen:=(fX.1 hf).1
 refine ⟨fun y=>0≤y.1∧y.1≤(a.length:Int)∧∃ l,(y.2.2.1,y.2.2.2)=pu l∧Play y.2.1.2 l y.1.toNat,fun y=>a.length - y.1.toNat,
  ⟨by simp only; omega,by simp only; omega,[],rfl,Play.zero⟩,fun y hy=>?_⟩
 obtain ⟨i,⟨c,o⟩,ns,ays⟩:=y
 obtain ⟨g0,g1,l,hp,p⟩:=hy
 simp only at g0 g1 hp p
 obtain ⟨rfl,rfl⟩:=Prod.mk.inj hp
 refine ⟨fun hlt=>?_,fun _=>?_⟩
 ·simp only at hlt
  obtain ⟨q1,q2,q3⟩:=wR hf g0 hlt
  have hn:i.toNat≤1048576:=by omega
  refine ⟨g0,hlt,fun y=>y.1=i∧∃ l,(y.2.2.1,y.2.2.2)=pu l∧Play y.2.1.2 l (i.toNat+1),?_,fun y hy=>?_⟩
  ·exact ⟨fun _=>⟨p.putPre _ q2,p.pp hn,rfl,_,aEW l _ _,p.put q1 q2⟩,
    fun _=>⟨fun _=>⟨p.delPre _,p.pp hn,fun c=>absurd c (aE9 (yH p _)),fun _=>⟨rfl,_,congrArg Prod.snd (aAC p.rep.ris _ []),(p.del _).mono (Nat.le_succ _)⟩⟩,
     fun _=>⟨fun _=>⟨p.withPre hn q3,p.hasPre hn q3,sW p hn _,fun c=>absurd (vL p _) c,fun _=>⟨rfl,l,rfl,p.mono (Nat.le_succ _)⟩⟩,
      fun _=>⟨rfl,l,rfl,p.mono (Nat.le_succ _)⟩⟩⟩⟩
  ·obtain ⟨i2,⟨c2,o2⟩,ns2,as2⟩:=y
   obtain ⟨e1,l2,hp2,p2⟩:=hy
   simp only at e1 hp2 p2
   subst e1
   obtain ⟨rfl,rfl⟩:=Prod.mk.inj hp2
   exact ⟨fun c=>absurd (xQ p2) c,fun _=>⟨by simp only; omega,by simp only; omega,⟨by simp only; omega,by simp only; omega,l2,rfl,by
    simp only
    rw [show (i2+1).toNat=i2.toNat+1 by omega]
    exact p2⟩,by simp only; omega⟩⟩
 ·have hn:i.toNat≤1048576:=by omega
  have hl:=p.len
  refine ⟨p.withPre hn (Nat.zero_le _),?_,?_⟩
  ·show cB (a6 (o,[]),(pu l).1)
   rw [oI p]
   have:(pu l).1.length≤1048576:=by rw [aC5]; omega
   exact ⟨this,this⟩
  ·show cR (a6 (o,[]),(pu l).1)=true
   rw [oI p]
   exact decide_eq_true rfl
end Go.Abs
