/- Functions, and what the code asks of them: PRef11. -/
import Derived.KernelRfl
import Derived.Test.YtjlehbennimkgaaRankTellsP4
import Derived.Test.YtjlehbennimkgaaRankTellsP5
import Derived.Test.YtjlehbennimkgaaRankTellsP6
import Derived.Test.YtjlehbennimkgaaRankTellsP9
import Derived.Test.YtjlehbennimkgaaRankTellsP10
import Derived.Test.YtjlehbennimkgaaRankTellsP12
import Derived.Test.YtjlehbennimkgaaRankTellsP13
import Derived.Test.YtjlehbennimkgaaRankTellsP14
set_option maxRecDepth 100000
set_option maxHeartbeats 4000000
set_option linter.unusedVariables false
set_option linter.unusedSimpArgs false
namespace Go.Abs
open Go
def hZ (a:List ByteArray×List ByteArray):Bool:=decide (a.1=a.2)
def n7 (a:List ByteArray×List ByteArray):Prop:=L20 a.1∧L20 a.2
def f150.ent (K:((List (ByteArray))×(List (ByteArray)))→Prop) (t:(List (ByteArray))×(List (ByteArray))):Prop:=∃ c:(List (ByteArray))×(List (ByteArray)),SlQ t.1.length c.1.length (gl bU t.1) (gl bU c.1) (SlQ t.2.length c.2.length (gl bU t.2) (gl bU c.2) (K c))
theorem f150.ei {K:((List (ByteArray))×(List (ByteArray)))→Prop} {t:(List (ByteArray))×(List (ByteArray))} (h:K t):f150.ent K t:=⟨t,slQ (rS bU) (slQ (rS bU) (h))⟩
def f150.args (a:(List (ByteArray))×(List (ByteArray))):List D:=[.slice .ro 1 a.1.length (gl bU a.1),.slice .ro 1 a.2.length (gl bU a.2)]
def f150.blks (a:(List (ByteArray))×(List (ByteArray))):List (List D):=[]
def f150.res (a:(List (ByteArray))×(List (ByteArray))):List D:=[.bool (hZ a)]
def f150.blks' (a:(List (ByteArray))×(List (ByteArray))):List (List D):=[]
def f150.C:aN:=FnC f150.args f150.blks (fun a=>n7 a) f150.res f150.blks'
set_option linter.unusedVariables false
def f150.S0 (a:(List (ByteArray))×(List (ByteArray))) (x:Int):Tm:=⟨.slice .ro 1 a.1.length (gl bU a.1)::.slice .ro 1 a.2.length (gl bU a.2)::dd 10 (.int .i64 (a.1.length:Int)::.int .i64 x::dd 12 []),[],[]⟩
def f150.kills (a:(List (ByteArray))×(List (ByteArray))):List Hint:=[.tell Int (f150.S0 a)]
def f150.cuts (a:(List (ByteArray))×(List (ByteArray))):List (Nat×Σ β:Type,β→Tm):=[]
def f150.af (a:(List (ByteArray))×(List (ByteArray))):AF:=AF.mk (.seq (.region [⟨(some 4),0,.move,[.c (.bool false)],none⟩])
 (.seq (.seq (.region [mT 6 1 0,
 oT 7 2 (.len false) [6],
 mT 8 3 1,
 oT 9 4 (.len false) [8],
 oT 10 5 (.bin .neq) [7,9]])
 (.cond (.t 10) (.seq (.region [⟨(some 4),6,.move,[.c (.bool false)],none⟩])
 (.ret)) (.skip)))
 (.seq (.seq (.region [mT 11 7 0,
 oT 12 8 (.len false) [11],
 ⟨(some 13),9,.move,[.c (.int .i64 (0))],none⟩])
 (.block 0 (.loopT Int (f150.S0 a) 10 25 (.seq (.region [oT 14 10 (.bin .lss) [13,12]])
 (.seq (.cond (.t 14) (.skip) (.exit 0))
 (.seq (.block 1 (.seq (.region [mT 15 11 13,
 mT 5 12 15])
 (.seq (.region [mT 16 13 0,
 mT 17 14 5,
 oT 18 15 (.indexAddr 1 none) [16,17],
 oT 19 16 (.load false 1) [18],
 mT 20 17 1,
 mT 21 18 5,
 oT 22 19 (.indexAddr 1 none) [20,21],
 oT 23 20 (.load false 1) [22],
 oT 24 21 (.bin .neq) [19,23]])
 (.cond (.t 24) (.seq (.region [⟨(some 4),22,.move,[.c (.bool false)],none⟩])
 (.ret)) (.skip)))))
 (.region [⟨(some 25),23,(.bin .add),[.t 13,.c (.int .i64 (1))],none⟩,
 mT 13 24 25])))))))
 (.seq (.region [⟨(some 4),25,.move,[.c (.bool true)],none⟩])
 (.ret)))))
 [.tmp 4] 0 24
def f150.env:Env:=[]
def f150.tree (a:(List (ByteArray))×(List (ByteArray))):Prop:=Br ((a.1.length:Int) != (a.2.length:Int)) ((false=(hZ a))∧True) (∃ (I5:Int→Prop) (μ6:Int→Nat),(∃ x4:Int,SlS bU a.1 (SlS bU a.2 (((a.1.length:Int)=(a.1.length:Int))∧((0:Int)=x4)∧I5 x4)))∧∀ y7:Int,I5 y7→(Br (decide (y7 < (a.1.length:Int))) (Br (decide ((0:Int)≤y7)&&decide (y7 < (a.1.length:Int))) (Br (decide ((0:Int)≤y7)&&decide (y7 < (a.2.length:Int))) (Br (!((at_ a.1 y7).toList==(at_ a.2 y7).toList)) ((false=(hZ a))∧True) (Let (wI (y7+(1:Int))) (fun v15:Int=>∃ x16:Int,SlS bU a.1 (SlS bU a.2 (((a.1.length:Int)=(a.1.length:Int))∧(v15=x16)∧I5 x16∧μ6 x16 < μ6 y7))))) False) False) ((true=(hZ a))∧True)))
def f150.vc (a:(List (ByteArray))×(List (ByteArray))):Prop:=((¬(a.1.length:Int)=(a.2.length:Int)→(false=hZ a))∧(¬(¬(a.1.length:Int)=(a.2.length:Int))→(∃ (I5:Int→Prop) (μ6:Int→Nat),I5 (0:Int)∧∀ y7:Int,I5 y7→((y7 < (a.1.length:Int)→((0:Int)≤y7∧y7 < (a.1.length:Int)∧((0:Int)≤y7∧y7 < (a.2.length:Int)∧((¬((at_ a.1 y7)=(at_ a.2 y7))→(false=hZ a))∧(¬(¬((at_ a.1 y7)=(at_ a.2 y7)))→(-9223372036854775808≤(y7+(1:Int))∧(y7+(1:Int))≤9223372036854775807∧(I5 (y7+(1:Int))∧μ6 (y7+(1:Int)) < μ6 y7)))))))∧(¬(y7 < (a.1.length:Int))→(true=hZ a))))))
theorem f150.of (a:(List (ByteArray))×(List (ByteArray))) (h:f150.vc a):f150.tree a:=br h Cnd.ne (fun h1 k31=>⟨k31,trivial⟩) (fun h2 k32=>Exists.elim k32 (fun I5 h28_=>Exists.elim h28_ (fun μ6 h28=>⟨I5,μ6,⟨(0:Int),SlS.mk  (SlS.mk  (⟨rfl,⟨rfl,h28.1⟩⟩))⟩,fun y7 h30=>br (h28.2 y7 h30) Cnd.dec (fun h8 k26=>chk k26.2.2 Cnd.ix ⟨k26.1,k26.2.1⟩ (fun h10 k24=>chk k24.2.2 Cnd.ix ⟨k24.1,k24.2.1⟩ (fun h11 k23=>br k23 (Cnd.not Cnd.seq) (fun h12 k21=>⟨k21,trivial⟩) (fun h13 k22=>wrapK.i64 k22 (fun h18 h19 k20=>⟨(y7+(1:Int)),SlS.mk  (SlS.mk  (⟨rfl,⟨rfl,k20⟩⟩))⟩))))) (fun h9 k27=>⟨k27,trivial⟩)⟩)))
theorem f150.eq (a:(List (ByteArray))×(List (ByteArray))):(f150.af a).gives f150.env (f150.args a) (f150.blks a) (f150.res a) (f150.blks' a)=f150.tree a:=by kernel_rfl
def f399.ent (K:(aD×(List (aF))×aE)→Prop) (t:aD×(List (aF))×aE):Prop:=∃ c:aD×(List (aF))×aE,(t.1.1.1=c.1.1.1)∧(t.1.1.2.1.1=c.1.1.2.1.1)∧(t.1.1.2.1.2.1=c.1.1.2.1.2.1)∧(t.1.1.2.1.2.2=c.1.1.2.1.2.2)∧SlQ t.1.1.2.2.length c.1.1.2.2.length (gl aG t.1.1.2.2) (gl aG c.1.1.2.2) ((t.1.2.1=c.1.2.1)∧(t.1.2.2=c.1.2.2)∧SlQ t.2.1.length c.2.1.length (gl aM t.2.1) (gl aM c.2.1) ((t.2.2.1=c.2.2.1)∧(t.2.2.2.1=c.2.2.2.1)∧(t.2.2.2.2.1=c.2.2.2.2.1)∧(t.2.2.2.2.2.1.1=c.2.2.2.2.2.1.1)∧(t.2.2.2.2.2.1.2.1=c.2.2.2.2.2.1.2.1)∧(t.2.2.2.2.2.1.2.2=c.2.2.2.2.2.1.2.2)∧SlQ t.2.2.2.2.2.2.1.length c.2.2.2.2.2.2.1.length (gl aG t.2.2.2.2.2.2.1) (gl aG c.2.2.2.2.2.2.1) ((t.2.2.2.2.2.2.2.1=c.2.2.2.2.2.2.2.1)∧(t.2.2.2.2.2.2.2.2.1=c.2.2.2.2.2.2.2.2.1)∧(t.2.2.2.2.2.2.2.2.2=c.2.2.2.2.2.2.2.2.2)∧K c)))
theorem f399.ei {K:(aD×(List (aF))×aE)→Prop} {t:aD×(List (aF))×aE} (h:K t):f399.ent K t:=⟨t,⟨rfl,⟨rfl,⟨rfl,⟨rfl,slQ (rS aG) (⟨rfl,⟨rfl,slQ (rS aM) (⟨rfl,⟨rfl,⟨rfl,⟨rfl,⟨rfl,⟨rfl,slQ (rS aG) (⟨rfl,⟨rfl,⟨rfl,h⟩⟩⟩)⟩⟩⟩⟩⟩⟩)⟩⟩)⟩⟩⟩⟩⟩
def f399.args (a:aD×(List (aF))×aE):List D:=[.agg [.str a.1.1.1,.int .i64 a.1.1.2.1.1,.int .i64 a.1.1.2.1.2.1,.int .i64 a.1.1.2.1.2.2,.slice .ro 2 a.1.1.2.2.length (gl aG a.1.1.2.2),.bool a.1.2.1,.int .i64 a.1.2.2],.slice .ro 13 a.2.1.length (gl aM a.2.1),.agg [.str a.2.2.1,.str a.2.2.2.1,.int .i64 a.2.2.2.2.1,.int .i64 a.2.2.2.2.2.1.1,.int .i64 a.2.2.2.2.2.1.2.1,.int .i64 a.2.2.2.2.2.1.2.2,.slice .ro 2 a.2.2.2.2.2.2.1.length (gl aG a.2.2.2.2.2.2.1),.str a.2.2.2.2.2.2.2.1,.str a.2.2.2.2.2.2.2.2.1,.int .i64 a.2.2.2.2.2.2.2.2.2]]
def f399.blks (a:aD×(List (aF))×aE):List (List D):=[]
def f399.res (a:aD×(List (aF))×aE):List D:=[.int .i64 (eF a)]
def f399.blks' (a:aD×(List (aF))×aE):List (List D):=[]
def f399.C:aN:=FnC f399.args f399.blks (fun a=>dK a) f399.res f399.blks'
def f399.S0 (a:aD×(List (aF))×aE) (x:Int×Int×Int×Int):Tm:=⟨.dead::.slice .ro 13 a.2.1.length (gl aM a.2.1)::.dead::.ptr 0 0::.dead::.ptr 1 0::.dead::.ptr 12 0::dd 33 (.int .i64 (a.2.1.length:Int)::.int .i64 x.1::dd 39 []),[(0,false,[.str a.1.1.1,.int .i64 a.1.1.2.1.1,.int .i64 a.1.1.2.1.2.1,.int .i64 a.1.1.2.1.2.2,.slice .ro 2 a.1.1.2.2.length (gl aG a.1.1.2.2),.bool a.1.2.1,.int .i64 a.1.2.2]),(1,false,[.str a.2.2.1,.str a.2.2.2.1,.int .i64 a.2.2.2.2.1,.int .i64 a.2.2.2.2.2.1.1,.int .i64 a.2.2.2.2.2.1.2.1,.int .i64 a.2.2.2.2.2.1.2.2,.slice .ro 2 a.2.2.2.2.2.2.1.length (gl aG a.2.2.2.2.2.2.1),.str a.2.2.2.2.2.2.2.1,.str a.2.2.2.2.2.2.2.2.1,.int .i64 a.2.2.2.2.2.2.2.2.2]),(12,false,[.int .i64 x.2.1,.int .i64 x.2.2.1,.int .i64 x.2.2.2])],[]⟩
def f399.l0 (a:aD×(List (aF))×aE) (K:(Int×Int×Int×Int)→Prop) (t:Int×Int×Int×Int):Prop:=∃ x:Int×Int×Int×Int,SlS aM a.2.1 (((a.2.1.length:Int)=(a.2.1.length:Int))∧(t.1=x.1)∧(a.1.1.1=a.1.1.1)∧(a.1.1.2.1.1=a.1.1.2.1.1)∧(a.1.1.2.1.2.1=a.1.1.2.1.2.1)∧(a.1.1.2.1.2.2=a.1.1.2.1.2.2)∧SlS aG a.1.1.2.2 ((a.1.2.1=a.1.2.1)∧(a.1.2.2=a.1.2.2)∧(a.2.2.1=a.2.2.1)∧(a.2.2.2.1=a.2.2.2.1)∧(a.2.2.2.2.1=a.2.2.2.2.1)∧(a.2.2.2.2.2.1.1=a.2.2.2.2.2.1.1)∧(a.2.2.2.2.2.1.2.1=a.2.2.2.2.2.1.2.1)∧(a.2.2.2.2.2.1.2.2=a.2.2.2.2.2.1.2.2)∧SlS aG a.2.2.2.2.2.2.1 ((a.2.2.2.2.2.2.2.1=a.2.2.2.2.2.2.2.1)∧(a.2.2.2.2.2.2.2.2.1=a.2.2.2.2.2.2.2.2.1)∧(a.2.2.2.2.2.2.2.2.2=a.2.2.2.2.2.2.2.2.2)∧(t.2.1=x.2.1)∧(t.2.2.1=x.2.2.1)∧(t.2.2.2=x.2.2.2)∧K x)))
theorem f399.l0i (a:aD×(List (aF))×aE) {K:(Int×Int×Int×Int)→Prop} {t:Int×Int×Int×Int} (h:K t):f399.l0 a K t:=⟨t,SlS.mk  (⟨rfl,⟨rfl,⟨rfl,⟨rfl,⟨rfl,⟨rfl,SlS.mk  (⟨rfl,⟨rfl,⟨rfl,⟨rfl,⟨rfl,⟨rfl,⟨rfl,⟨rfl,SlS.mk  (⟨rfl,⟨rfl,⟨rfl,⟨rfl,⟨rfl,⟨rfl,h⟩⟩⟩⟩⟩⟩)⟩⟩⟩⟩⟩⟩⟩⟩)⟩⟩⟩⟩⟩⟩)⟩
def f399.kills (a:aD×(List (aF))×aE):List Hint:=[.tell (Int×Int×Int×Int) (f399.S0 a)]
def f399.cuts (a:aD×(List (aF))×aE):List (Nat×Σ β:Type,β→Tm):=[]
def f399.af (a:aD×(List (aF))×aE):AF:=AF.mk (.seq (.region [oT 3 0 .box [0],
 oT 5 1 .box [2],
 ⟨(some 6),2,.move,[.c (.int .i64 (0))],none⟩])
 (.seq (.region [oT 12 3 (.load true 7) [3],
 mT 13 4 1,
 oT 14 5 (.call false 365) [12,13],
 mT 11 9 14,
 oT 15 10 (.extract 0) [11],
 oT 16 11 (.extract 1) [11],
 oT 7 12 (.alloc [.int .i64 (0),.int .i64 (0),.int .i64 (0)]) [],
 ⟨none,16,(.store 3),[.t 7,.t 15],none⟩,
 mT 8 17 16])
 (.seq (.seq (.region [oT 17 18 (.fieldAddr 0) [3],
 oT 18 19 (.load true 5) [17],
 oT 19 20 (.call false 36) [18],
 oT 20 24 (.un .not) [19],
 mT 21 25 20,
 oG 22 26 (.load true 10) [5] 21 false,
 oG 23 27 (.call false 38) [22] 21 false,
 oG 24 31 (.un .not) [23] 21 false,
 ⟨(some 25),32,.pick,[.t 21,.c (.bool true),.t 24],none⟩,
 mT 26 33 25,
 oG 27 34 .move [8] 26 false,
 ⟨(some 28),35,(.bin .neq),[.t 27,.c (.int .i64 (0))],(some (26,false))⟩,
 ⟨(some 29),36,.pick,[.t 26,.c (.bool true),.t 28],none⟩])
 (.cond (.t 29) (.seq (.region [⟨(some 6),37,.move,[.c (.int .i64 (5))],none⟩])
 (.ret)) (.skip)))
 (.seq (.seq (.region [oT 30 38 (.fieldAddr 5) [3],
 oT 31 39 (.load false 1) [30],
 oT 32 40 (.un .not) [31]])
 (.cond (.t 32) (.seq (.region [⟨(some 6),41,.move,[.c (.int .i64 (1))],none⟩])
 (.ret)) (.skip)))
 (.seq (.seq (.region [oT 33 42 (.fieldAddr 0) [3],
 oT 34 43 (.fieldAddr 4) [33],
 oT 35 44 (.load false 1) [34],
 oT 36 45 (.fieldAddr 6) [5],
 oT 37 46 (.load false 1) [36],
 oT 38 47 (.call false 360) [35,37],
 oT 39 51 (.un .not) [38]])
 (.cond (.t 39) (.seq (.region [⟨(some 6),52,.move,[.c (.int .i64 (2))],none⟩])
 (.ret)) (.skip)))
 (.seq (.seq (.region [mT 40 53 1,
 oT 41 54 (.len false) [40],
 ⟨(some 42),55,.move,[.c (.int .i64 (0))],none⟩])
 (.block 0 (.loopT (Int×Int×Int×Int) (f399.S0 a) 56 108 (.seq (.region [oT 43 56 (.bin .lss) [42,41]])
 (.seq (.cond (.t 43) (.skip) (.exit 0))
 (.seq (.block 1 (.seq (.region [mT 44 57 42,
 mT 9 58 44])
 (.seq (.region [mT 45 59 1,
 mT 46 60 9,
 oT 47 61 (.indexAddr 13 none) [45,46],
 oT 48 62 (.load true 13) [47],
 oT 10 63 (.alloc [.str ByteArray.empty,.str ByteArray.empty,.int .i64 (0),.int .i64 (0),.int .i64 (0),.int .i64 (0),.slice (.own 0) 2 0 eM,.str ByteArray.empty,.str ByteArray.empty,.int .i64 (0),.int .i64 (0),.str ByteArray.empty,.int .i64 (0)]) [],
 ⟨none,77,(.store 13),[.t 10,.t 48],none⟩])
 (.seq (.region [oT 49 78 (.fieldAddr 7) [5],
 oT 50 79 (.load false 1) [49],
 ⟨(some 51),80,(.bin .neq),[.t 50,.c (.str ByteArray.empty)],none⟩,
 mT 52 81 51,
 oG 53 82 (.fieldAddr 11) [10] 52 true,
 oG 54 83 (.load false 1) [53] 52 true,
 oG 55 84 (.fieldAddr 0) [3] 52 true,
 oG 56 85 (.fieldAddr 0) [55] 52 true,
 oG 57 86 (.load false 1) [56] 52 true,
 oG 58 87 (.bin .eql) [54,57] 52 true,
 ⟨(some 59),88,.pick,[.t 52,.t 58,.c (.bool false)],none⟩,
 mT 60 89 59,
 oG 61 90 (.fieldAddr 0) [10] 60 true,
 oG 62 91 (.fieldAddr 0) [61] 60 true,
 oG 63 92 (.load false 1) [62] 60 true,
 oG 64 93 (.fieldAddr 0) [5] 60 true,
 oG 65 94 (.load false 1) [64] 60 true,
 oG 66 95 (.bin .neq) [63,65] 60 true,
 ⟨(some 67),96,.pick,[.t 60,.t 66,.c (.bool false)],none⟩,
 mT 68 97 67,
 oG 69 98 (.fieldAddr 0) [10] 68 true,
 oG 70 99 (.fieldAddr 7) [69] 68 true,
 oG 71 100 (.load false 1) [70] 68 true,
 oG 72 101 (.fieldAddr 7) [5] 68 true,
 oG 73 102 (.load false 1) [72] 68 true,
 oG 74 103 (.bin .eql) [71,73] 68 true,
 ⟨(some 75),104,.pick,[.t 68,.t 74,.c (.bool false)],none⟩])
 (.cond (.t 75) (.seq (.region [⟨(some 6),105,.move,[.c (.int .i64 (3))],none⟩])
 (.ret)) (.skip))))))
 (.region [⟨(some 76),106,(.bin .add),[.t 42,.c (.int .i64 (1))],none⟩,
 mT 42 107 76])))))))
 (.seq (.seq (.region [oT 77 108 (.fieldAddr 3) [5],
 oT 78 109 (.load true 3) [77],
 oT 79 110 (.load true 3) [7],
 oT 80 111 (.call false 131) [78,79],
 oT 81 115 (.un .not) [80]])
 (.cond (.t 81) (.seq (.region [⟨(some 6),116,.move,[.c (.int .i64 (4))],none⟩])
 (.ret)) (.skip)))
 (.seq (.region [⟨(some 6),117,.move,[.c (.int .i64 (0))],none⟩])
 (.ret)))))))))
 [.tmp 6] 0 79
def f399.env:Env:=[(365,f365.C),(36,f36.C),(38,f38.C),(360,f360.C),(131,f131.C)]
def f399.tree (a:aD×(List (aF))×aE):Prop:=f365.ent (fun c1=>(fI c1)∧f36.ent (fun c2=>(fJ c2)∧Br (!(fM c2)) (((5:Int)=(eF a))∧True) (f38.ent (fun c6=>(gE c6)∧Br (!(bM c6)) (((5:Int)=(eF a))∧True) (Br (((bX c1).2) != (0:Int)) (((5:Int)=(eF a))∧True) (Br (!a.1.2.1) (((1:Int)=(eF a))∧True) (f360.ent (fun c16=>(kF c16)∧Br (!(fA c16)) (((2:Int)=(eF a))∧True) (∃ (I21:(Int×Int×Int×Int)→Prop) (μ22:(Int×Int×Int×Int)→Nat),(f399.l0 a I21 ((0:Int),((bX c1).1).1,((bX c1).1).2.1,((bX c1).1).2.2))∧∀ y23:Int×Int×Int×Int,I21 y23→(Br (decide (y23.1 < (a.2.1.length:Int))) (Br (decide ((0:Int)≤y23.1)&&decide (y23.1 < (a.2.1.length:Int))) (Br (!(a.2.2.2.2.2.2.2.1.toList==ByteArray.empty.toList)) (Br (((at_ a.2.1 y23.1).2.2.1).toList==a.1.1.1.toList) (Br (!((((at_ a.2.1 y23.1).1).1).toList==a.2.2.1.toList)) (Br ((((at_ a.2.1 y23.1).1).2.2.2.2.2.1).toList==a.2.2.2.2.2.2.2.1.toList) (((3:Int)=(eF a))∧True) (Let (wI (y23.1+(1:Int))) (fun v36:Int=>f399.l0 a (Dn I21 μ22 y23) (v36,y23.2.1,y23.2.2.1,y23.2.2.2)))) (Let (wI (y23.1+(1:Int))) (fun v44:Int=>f399.l0 a (Dn I21 μ22 y23) (v44,y23.2.1,y23.2.2.1,y23.2.2.2)))) (Let (wI (y23.1+(1:Int))) (fun v52:Int=>f399.l0 a (Dn I21 μ22 y23) (v52,y23.2.1,y23.2.2.1,y23.2.2.2)))) (Let (wI (y23.1+(1:Int))) (fun v60:Int=>f399.l0 a (Dn I21 μ22 y23) (v60,y23.2.1,y23.2.2.1,y23.2.2.2)))) False) (f131.ent (fun c69=>True∧Br (!(eC c69)) (((4:Int)=(eF a))∧True) (((0:Int)=(eF a))∧True)) (a.2.2.2.2.2.1,y23.2))))) (a.1.1.2.2,a.2.2.2.2.2.2.1))))) a.2.2)) a.1.1) (a.1,a.2.1)
def f399.vc (a:aD×(List (aF))×aE):Prop:=(fI (a.1,a.2.1)∧(fJ a.1.1∧((¬((fM (a.1.1))=true)→((5:Int)=eF a))∧(¬(¬((fM (a.1.1))=true))→(gE a.2.2∧((¬((bM (a.2.2))=true)→((5:Int)=eF a))∧(¬(¬((bM (a.2.2))=true))→((¬((bX (a.1,a.2.1)).2)=(0:Int)→((5:Int)=eF a))∧(¬(¬((bX (a.1,a.2.1)).2)=(0:Int))→((¬(a.1.2.1=true)→((1:Int)=eF a))∧(¬(¬(a.1.2.1=true))→(kF (a.1.1.2.2,a.2.2.2.2.2.2.1)∧((¬((fA (a.1.1.2.2,a.2.2.2.2.2.2.1))=true)→((2:Int)=eF a))∧(¬(¬((fA (a.1.1.2.2,a.2.2.2.2.2.2.1))=true))→(∃ (I21:(Int×Int×Int×Int)→Prop) (μ22:(Int×Int×Int×Int)→Nat),I21 ((0:Int),((bX (a.1,a.2.1)).1).1,((bX (a.1,a.2.1)).1).2.1,((bX (a.1,a.2.1)).1).2.2)∧∀ y23:Int×Int×Int×Int,I21 y23→((y23.1 < (a.2.1.length:Int)→((0:Int)≤y23.1∧y23.1 < (a.2.1.length:Int)∧((¬(a.2.2.2.2.2.2.2.1=ByteArray.empty)→((((at_ a.2.1 y23.1).2.2.1)=a.1.1.1→((¬((((at_ a.2.1 y23.1).1).1)=a.2.2.1)→(((((at_ a.2.1 y23.1).1).2.2.2.2.2.1)=a.2.2.2.2.2.2.2.1→((3:Int)=eF a))∧(¬((((at_ a.2.1 y23.1).1).2.2.2.2.2.1)=a.2.2.2.2.2.2.2.1)→(-9223372036854775808≤(y23.1+(1:Int))∧(y23.1+(1:Int))≤9223372036854775807∧(I21 ((y23.1+(1:Int)),y23.2.1,y23.2.2.1,y23.2.2.2)∧μ22 ((y23.1+(1:Int)),y23.2.1,y23.2.2.1,y23.2.2.2) < μ22 y23)))))∧(¬(¬((((at_ a.2.1 y23.1).1).1)=a.2.2.1))→(-9223372036854775808≤(y23.1+(1:Int))∧(y23.1+(1:Int))≤9223372036854775807∧(I21 ((y23.1+(1:Int)),y23.2.1,y23.2.2.1,y23.2.2.2)∧μ22 ((y23.1+(1:Int)),y23.2.1,y23.2.2.1,y23.2.2.2) < μ22 y23)))))∧(¬(((at_ a.2.1 y23.1).2.2.1)=a.1.1.1)→(-9223372036854775808≤(y23.1+(1:Int))∧(y23.1+(1:Int))≤9223372036854775807∧(I21 ((y23.1+(1:Int)),y23.2.1,y23.2.2.1,y23.2.2.2)∧μ22 ((y23.1+(1:Int)),y23.2.1,y23.2.2.1,y23.2.2.2) < μ22 y23)))))∧(¬(¬(a.2.2.2.2.2.2.2.1=ByteArray.empty))→(-9223372036854775808≤(y23.1+(1:Int))∧(y23.1+(1:Int))≤9223372036854775807∧(I21 ((y23.1+(1:Int)),y23.2.1,y23.2.2.1,y23.2.2.2)∧μ22 ((y23.1+(1:Int)),y23.2.1,y23.2.2.1,y23.2.2.2) < μ22 y23))))))∧(¬(y23.1 < (a.2.1.length:Int))→((¬((eC (a.2.2.2.2.2.1,y23.2))=true)→((4:Int)=eF a))∧(¬(¬((eC (a.2.2.2.2.2.1,y23.2))=true))→((0:Int)=eF a))))))))))))))))))))
theorem f399.of (a:aD×(List (aF))×aE) (h:f399.vc a):f399.tree a:=(f365.ei ⟨h.1,(f36.ei ⟨h.2.1,br h.2.2 (Cnd.not Cnd.b) (fun h3 k92=>⟨k92,trivial⟩) (fun h4 k93=>(f38.ei ⟨k93.1,br k93.2 (Cnd.not Cnd.b) (fun h7 k89=>⟨k89,trivial⟩) (fun h8 k90=>br k90 Cnd.ne (fun h10 k87=>⟨k87,trivial⟩) (fun h11 k88=>br k88 (Cnd.not Cnd.b) (fun h13 k85=>⟨k85,trivial⟩) (fun h14 k86=>(f360.ei ⟨k86.1,br k86.2 (Cnd.not Cnd.b) (fun h17 k82=>⟨k82,trivial⟩) (fun h18 k83=>Exists.elim k83 (fun I21 h79_=>Exists.elim h79_ (fun μ22 h79=>⟨I21,μ22,(f399.l0i a h79.1),fun y23 h81=>br (h79.2 y23 h81) Cnd.dec (fun h24 k77=>chk k77.2.2 Cnd.ix ⟨k77.1,k77.2.1⟩ (fun h26 k68=>br k68 (Cnd.not Cnd.seq) (fun h27 k66=>br k66 Cnd.seq (fun h29 k58=>br k58 (Cnd.not Cnd.seq) (fun h31 k50=>br k50 Cnd.seq (fun h33 k42=>⟨k42,trivial⟩) (fun h34 k43=>wrapK.i64 k43 (fun h39 h40 k41=>(f399.l0i a k41)))) (fun h32 k51=>wrapK.i64 k51 (fun h47 h48 k49=>(f399.l0i a k49)))) (fun h30 k59=>wrapK.i64 k59 (fun h55 h56 k57=>(f399.l0i a k57)))) (fun h28 k67=>wrapK.i64 k67 (fun h63 h64 k65=>(f399.l0i a k65))))) (fun h25 k78=>(f131.ei ⟨trivial,br k78 (Cnd.not Cnd.b) (fun h70 k74=>⟨k74,trivial⟩) (fun h71 k75=>⟨k75,trivial⟩)⟩))⟩)))⟩))))⟩))⟩)⟩)
theorem f399.eq (a:aD×(List (aF))×aE):(f399.af a).gives f399.env (f399.args a) (f399.blks a) (f399.res a) (f399.blks' a)=f399.tree a:=by kernel_rfl
theorem xD {α:Type} [Inhabited α] {l:List α} {i:Nat} (h:i < l.length):l.take (i+1)=l.take i++[l.getD i default]:=by
 rw [hJ h,List.take_succ_eq_append_getElem h]
theorem f150.ok (a:List ByteArray×List ByteArray) (h:n7 a):f150.vc a:=by
 obtain ⟨l,m⟩:=a
 have h1:l.length≤1048576:=h.1
 refine ⟨fun c=>?_,fun c=>?_⟩
 ·unfold hZ
  refine (decide_eq_false fun e=>c ?_).symm
  simp only at e ⊢
  rw [e]
 ·have hl:l.length=m.length:=by
   have:=Classical.not_not.1 c
   simp only at this
   omega
  refine ⟨fun y=>0≤y∧y≤(l.length:Int)∧∀ k,k < y.toNat→l.getD k default=m.getD k default,fun y=>l.length - y.toNat,⟨by omega,by omega,fun k hk=>by simp at hk⟩,fun y hy=>?_⟩
  obtain ⟨g0,g1,g2⟩:=hy
  simp only
  refine ⟨fun hlt=>⟨g0,hlt,g0,by omega,fun c=>?_,fun c=>⟨by omega,by omega,⟨by omega,by omega,fun k hk=>?_⟩,by omega⟩⟩,fun hge=>?_⟩
  ·unfold hZ
   refine (decide_eq_false fun e=>c ?_).symm
   simp only at e
   rw [e]
  ·by_cases he:k=y.toNat
   ·subst he; exact Classical.not_not.1 c
   ·exact g2 k (by omega)
  ·unfold hZ
   exact (decide_eq_true (mW hl fun k hk=>g2 k (by omega))).symm
theorem f399.ok (a:cO×List dW×cJ) (h:dK a):f399.vc a:=by
 obtain ⟨m,l,t⟩:=a
 obtain ⟨h1,h2,h3,h4,h5⟩:=h
 have h1':l.length≤1048576:=h1
 refine ⟨h1,h2,fun c=>?_,fun c1=>⟨h3,fun c=>?_,fun c2=>⟨fun c=>?_,fun c3=>⟨fun c=>?_,fun c4=>⟨⟨h4,h5⟩,fun c=>?_,fun c5=>?_⟩⟩⟩⟩⟩
 ·exact (if_pos fun hh=>c hh.2.1).symm
 ·exact (if_pos fun hh=>c hh.2.2).symm
 ·exact (if_pos fun hh=>c hh.1).symm
 ·exact ((if_neg (not_not_intro ⟨Classical.not_not.1 c3,Classical.not_not.1 c1,Classical.not_not.1 c2⟩)).trans (if_pos c)).symm
 ·exact ((if_neg (not_not_intro ⟨Classical.not_not.1 c3,Classical.not_not.1 c1,Classical.not_not.1 c2⟩)).trans ((if_neg c4).trans (if_pos c))).symm
 ·have hw:eF (m,l,t)=if fW (l,m,t)=true then 3 else if ¬eC (t.2.2.2.1,(bX (m,l)).1)=true then 4 else 0 :=
   (if_neg (not_not_intro ⟨Classical.not_not.1 c3,Classical.not_not.1 c1,Classical.not_not.1 c2⟩)).trans ((if_neg c4).trans (if_neg c5))
  refine ⟨fun y=>0≤y.1∧y.1≤(l.length:Int)∧y.2=(bX (m,l)).1∧∀ k,k < y.1.toNat→¬bZ (l.getD k default,m,t)=true,fun y=>l.length - y.1.toNat,⟨by simp only; omega,by simp only; omega,rfl,fun k hk=>by simp at hk⟩,fun y hy=>?_⟩
  obtain ⟨i,fr⟩:=y
  obtain ⟨g0,g1,g2,g3⟩:=hy
  simp only at g0 g1 g2 g3 ⊢
  subst g2
  have go:i < (l.length:Int)→¬bZ (at_ l i,m,t)=true→-9223372036854775808≤i+1∧i+1≤9223372036854775807∧(0≤i+1∧i+1≤(l.length:Int)∧(bX (m,l)).1=(bX (m,l)).1∧∀ k,k < (i+1).toNat→¬bZ (l.getD k default,m,t)=true)∧l.length - (i+1).toNat < l.length - i.toNat:=fun hlt hb=>by
   refine ⟨by omega,by omega,⟨by omega,by omega,rfl,fun k hk=>?_⟩,by omega⟩
   by_cases he:k=i.toNat
   ·subst he; exact hb
   ·exact g3 k (by omega)
  refine ⟨fun hlt=>⟨g0,hlt,fun b1=>⟨fun b2=>⟨fun b3=>⟨fun b4=>?_,fun b4=>go hlt fun hh=>b4 (of_decide_eq_true hh).2.2.2⟩,fun b3=>go hlt fun hh=>b3 (of_decide_eq_true hh).2.2.1⟩,fun b2=>go hlt fun hh=>b2 (of_decide_eq_true hh).2.1⟩,fun b1=>go hlt fun hh=>b1 (of_decide_eq_true hh).1⟩,fun hge=>?_⟩
  ·rw [hw,if_pos]
   exact List.any_eq_true.2 ⟨at_ l i,kX (l:=l) (i:=i.toNat) (by omega),decide_eq_true ⟨b1,b2,b3,b4⟩⟩
  ·have hn:¬fW (l,m,t)=true:=fun hh=>by
    obtain ⟨j,hj,hb⟩:=List.any_eq_true.1 hh
    obtain ⟨k,hk,rfl⟩:=List.mem_iff_getElem.1 hj
    have hk:k < l.length:=hk
    refine g3 k (by omega) ?_
    rw [hJ hk]
    exact hb
   rw [hw,if_neg hn]
   exact ⟨fun c=>(if_pos c).symm,fun c=>(if_neg c).symm⟩
end Go.Abs
