/- Functions, and what the code asks of them: PPdqSt3. -/
import Derived.KernelRfl
import Derived.Test.YtcmjinkfgbadoabLabelsNilP4
import Derived.Test.YtcmjinkfgbadoabLabelsNilP5
import Derived.Test.YtcmjinkfgbadoabLabelsNilP6
import Derived.Test.YtcmjinkfgbadoabLabelsNilP7
import Derived.Test.YtcmjinkfgbadoabLabelsNilP8
import Derived.Test.YtcmjinkfgbadoabLabelsNilP9
import Derived.Test.YtcmjinkfgbadoabLabelsNilP10
import Derived.Test.YtcmjinkfgbadoabLabelsNilP12
import Derived.Test.YtcmjinkfgbadoabLabelsNilP15
import Derived.Test.YtcmjinkfgbadoabLabelsNilP16
import Derived.Test.YtcmjinkfgbadoabLabelsNilP17
set_option maxRecDepth 100000
set_option maxHeartbeats 4000000
set_option linter.unusedVariables false
set_option linter.unusedSimpArgs false
set_option linter.unusedSectionVars false
-- slices.Sort[[]string,string]
namespace Go.Abs
open Go
def f167.args (a:List (ByteArray)):List D:=[.msl 0 1 a.length]
def f167.blks (a:List (ByteArray)):List (List D):=[[.dead,.arr false 1 a.length (gl aB a)]]
def f167.res (a:List (ByteArray)):List D:=[]
def f167.blks' (a:List (ByteArray)):List (List D):=[[.dead,.arr false 1 (List.length ((eB slt) a)) (gl aB ((eB slt) a))]]
def f167.C:aP:=FnC f167.args f167.blks (fun a=>qZ a) f167.res f167.blks'
def f193.args (a:(List (ByteArray))×Int×Int×Int):List D:=[.msl 0 1 a.1.length,.int .i64 a.2.1,.int .i64 a.2.2.1,.int .i64 a.2.2.2]
def f193.blks (a:(List (ByteArray))×Int×Int×Int):List (List D):=[[.dead,.arr false 1 a.1.length (gl aB a.1)]]
def f193.res (a:(List (ByteArray))×Int×Int×Int):List D:=[]
def f193.blks' (a:(List (ByteArray))×Int×Int×Int):List (List D):=[[.dead,.arr false 1 (List.length ((eE slt) a)) (gl aB ((eE slt) a))]]
def f193.rpre (n:Nat) (a:(List (ByteArray))×Int×Int×Int):Prop:=qM a∧aFK a < n
def f193.Cn (n:Nat):aP:=FnC f193.args f193.blks (fun a=>f193.rpre n a) f193.res f193.blks'
def f193.C:aP:=FnC f193.args f193.blks (fun a=>qM a) f193.res f193.blks'
set_option linter.unusedVariables false
def f167.kills (a:List (ByteArray)):List Hint:=[]
def f167.cuts (a:List (ByteArray)):List (Nat×Σ β:Type,β→Tm):=[(999999,⟨Unit,fun x=>⟨[],[],[]⟩⟩)]
def f167.af (a:List (ByteArray)):AF:=AF.mk (.seq (.region [mR 3 0 0,
 oR 4 1 (.len false) [3],
 mR 2 2 4])
 (.region [mR 5 3 0,
 mR 6 4 2,
 mR 7 5 2,
 oR 8 6 (.conv (.int .u64)) [7],
 oR 9 7 (.call false 194) [8],
 ⟨(some 10),1000011,(.call true 193),[.t 5,.c (.int .i64 (0)),.t 6,.t 9],none⟩]))
 [] 1 10
def f167.env:Env:=[(194,f194.C),(193,f193.C)]
def f167.tree (a:List (ByteArray)):Prop:=Let (IntKind.u64.wrap (List.length a:Int)) (fun v1:Int=>∃ c2:Int,(v1=c2)∧(eR c2)∧(a.length=a.length)∧∃ c3:(List (ByteArray))×Int×Int×Int,(a.length=List.length c3.1)∧((0:Int)=c3.2.1)∧((List.length a:Int)=c3.2.2.1)∧((cR c2)=c3.2.2.2)∧SlQ a.length c3.1.length (gl aB a) (gl aB c3.1) ((qM c3)∧SlQ (List.length ((eE slt) c3)) (List.length ((eB slt) a)) (gl aB ((eE slt) c3)) (gl aB ((eB slt) a)) (True)))
def f167.vc (a:List (ByteArray)):Prop:=(0≤(List.length a:Int)∧(List.length a:Int)≤18446744073709551615∧(eR (List.length a:Int)∧(qM (a,(0:Int),(List.length a:Int),(cR (List.length a:Int)))∧((List.length ((eE slt) (a,(0:Int),(List.length a:Int),(cR (List.length a:Int)))))=a.length∧(((eE slt) (a,(0:Int),(List.length a:Int),(cR (List.length a:Int))))=(eB slt) a)))))
theorem f167.of (a:List (ByteArray)) (h:f167.vc a):f167.tree a:=wrapK.u64 h (fun h8 h9 k10=>⟨(List.length a:Int),⟨rfl,⟨k10.1,⟨rfl,⟨(a,(0:Int),(List.length a:Int),(cR (List.length a:Int))),⟨(bB (gl aB a) (rS aB)),⟨rfl,⟨rfl,⟨rfl,slQ (rS aB) (⟨k10.2.1,jX k10.2.2 (fun (h4:(List.length ((eE slt) (a,(0:Int),(List.length a:Int),(cR (List.length a:Int)))))=a.length) hk=>slQ (Rds.to (rS aB) hk) (trivial))⟩)⟩⟩⟩⟩⟩⟩⟩⟩⟩)
theorem f167.eq (a:List (ByteArray)):(f167.af a).gives f167.env (f167.args a) (f167.blks a) (f167.res a) (f167.blks' a)=f167.tree a:=by kernel_rfl
def f193.S0 (a:(List (ByteArray))×Int×Int×Int) (x:Int×Int×Int×Bool×Bool×(List (ByteArray))):Tm:=⟨.msl 0 1 x.2.2.2.2.2.length::.int .i64 x.1::.int .i64 x.2.1::.int .i64 x.2.2.1::.dead::.dead::.dead::.dead::.bool x.2.2.2.1::.bool x.2.2.2.2.1::dd 124 [],[(0,false,[.dead,.arr false 1 x.2.2.2.2.2.length (gl aB x.2.2.2.2.2)])],[]⟩
def f193.kills (a:(List (ByteArray))×Int×Int×Int):List Hint:=[.tell (Int×Int×Int×Bool×Bool×(List (ByteArray))) (f193.S0 a)]
def f193.cuts (a:(List (ByteArray))×Int×Int×Int):List (Nat×Σ β:Type,β→Tm):=[(999999,⟨Unit,fun x=>⟨[],[],[]⟩⟩),
 (100009,⟨Int×Int×Int×Bool×Bool×Int×(List (ByteArray)),fun x=>⟨.msl 0 1 x.2.2.2.2.2.2.length::.int .i64 x.1::.int .i64 x.2.1::.int .i64 x.2.2.1::.dead::.dead::.dead::.dead::.bool x.2.2.2.1::.bool x.2.2.2.2.1::.int .i64 x.2.2.2.2.2.1::dd 123 [],[(0,false,[.dead,.arr false 1 x.2.2.2.2.2.2.length (gl aB x.2.2.2.2.2.2)])],[]⟩⟩),
 (100013,⟨Int×Int×Int×Bool×Bool×Int×Int×Int×(List (ByteArray)),fun x=>⟨.msl 0 1 x.2.2.2.2.2.2.2.2.length::.int .i64 x.1::.int .i64 x.2.1::.int .i64 x.2.2.1::.dead::.dead::.dead::.dead::.bool x.2.2.2.1::.bool x.2.2.2.2.1::.int .i64 x.2.2.2.2.2.1::.int .i64 x.2.2.2.2.2.2.1::.int .i64 x.2.2.2.2.2.2.2.1::dd 121 [],[(0,false,[.dead,.arr false 1 x.2.2.2.2.2.2.2.2.length (gl aB x.2.2.2.2.2.2.2.2)])],[]⟩⟩),
 (100017,⟨Int×Int×Int×Bool×Bool×Int×Int×(List (ByteArray)),fun x=>⟨.msl 0 1 x.2.2.2.2.2.2.2.length::.int .i64 x.1::.int .i64 x.2.1::.int .i64 x.2.2.1::.dead::.dead::.dead::.dead::.bool x.2.2.2.1::.bool x.2.2.2.2.1::.int .i64 x.2.2.2.2.2.1::.int .i64 x.2.2.2.2.2.2.1::dd 122 [],[(0,false,[.dead,.arr false 1 x.2.2.2.2.2.2.2.length (gl aB x.2.2.2.2.2.2.2)])],[]⟩⟩),
 (100020,⟨Int×Int×Int×Int×Int×(List (ByteArray)),fun x=>⟨.msl 0 1 x.2.2.2.2.2.length::.int .i64 x.1::.int .i64 x.2.1::.int .i64 x.2.2.1::dd 6 (.int .i64 x.2.2.2.1::.int .i64 x.2.2.2.2.1::dd 122 []),[(0,false,[.dead,.arr false 1 x.2.2.2.2.2.length (gl aB x.2.2.2.2.2)])],[]⟩⟩)]
def f193.af (a:(List (ByteArray))×Int×Int×Int):AF:=AF.mk (.seq (.region [⟨(some 8),1000000,.move,[.c (.bool true)],none⟩])
 (.seq (.region [⟨(some 9),1000001,.move,[.c (.bool true)],none⟩])
 (.block 0 (.loopT (Int×Int×Int×Bool×Bool×(List (ByteArray))) (f193.S0 a) 1000002 1000168 (.block 1 (.seq (.region [mR 19 2 2,
 mR 20 3 1,
 oR 21 4 (.bin .sub) [19,20],
 mR 10 5 21])
 (.seq (.seq (.region [mR 22 6 10,
 ⟨(some 23),1000007,(.bin .leq),[.t 22,.c (.int .i64 (12))],none⟩])
 (.cond (.t 23) (.seq (.region [mR 24 8 0,
 mR 25 9 1,
 mR 26 10 2,
 oR 27 11 (.call true 211) [24,25,26]])
 (.ret)) (.skip)))
 (.seq (.seq (.region [mR 28 15 3,
 ⟨(some 29),1000016,(.bin .eql),[.t 28,.c (.int .i64 (0))],none⟩])
 (.cond (.t 29) (.seq (.region [mR 30 17 0,
 mR 31 18 1,
 mR 32 19 2,
 oR 33 20 (.call true 212) [30,31,32]])
 (.ret)) (.skip)))
 (.joinT (Int×Int×Int×Bool×Bool×Int×(List (ByteArray))) (fun x=>⟨.msl 0 1 x.2.2.2.2.2.2.length::.int .i64 x.1::.int .i64 x.2.1::.int .i64 x.2.2.1::.dead::.dead::.dead::.dead::.bool x.2.2.2.1::.bool x.2.2.2.2.1::.int .i64 x.2.2.2.2.2.1::dd 123 [],[(0,false,[.dead,.arr false 1 x.2.2.2.2.2.2.length (gl aB x.2.2.2.2.2.2)])],[]⟩) (.seq (.region [mR 34 24 8,
 oR 35 25 (.un .not) [34]])
 (.cond (.t 35) (.seq (.region [mR 36 26 0,
 mR 37 27 1,
 mR 38 28 2,
 oR 39 29 (.call true 213) [36,37,38]])
 (.region [mR 40 33 3,
 ⟨(some 41),1000034,(.bin .sub),[.t 40,.c (.int .i64 (1))],none⟩,
 mR 3 35 41])) (.skip)))
 (.seq (.region [mR 43 36 0,
 mR 44 37 1,
 mR 45 38 2,
 oR 46 39 (.call true 214) [43,44,45],
 mR 42 43 46,
 oR 47 44 (.extract 0) [42],
 oR 48 45 (.extract 1) [42],
 mR 11 46 47,
 mR 12 47 48])
 (.joinT (Int×Int×Int×Bool×Bool×Int×Int×Int×(List (ByteArray))) (fun x=>⟨.msl 0 1 x.2.2.2.2.2.2.2.2.length::.int .i64 x.1::.int .i64 x.2.1::.int .i64 x.2.2.1::.dead::.dead::.dead::.dead::.bool x.2.2.2.1::.bool x.2.2.2.2.1::.int .i64 x.2.2.2.2.2.1::.int .i64 x.2.2.2.2.2.2.1::.int .i64 x.2.2.2.2.2.2.2.1::dd 121 [],[(0,false,[.dead,.arr false 1 x.2.2.2.2.2.2.2.2.length (gl aB x.2.2.2.2.2.2.2.2)])],[]⟩) (.seq (.region [mR 49 48 12,
 ⟨(some 50),1000049,(.bin .eql),[.t 49,.c (.int .i64 (2))],none⟩])
 (.cond (.t 50) (.seq (.region [mR 51 50 0,
 mR 52 51 1,
 mR 53 52 2,
 oR 54 53 (.call true 215) [51,52,53]])
 (.seq (.region [mR 55 57 2,
 ⟨(some 56),1000058,(.bin .sub),[.t 55,.c (.int .i64 (1))],none⟩,
 mR 57 59 11,
 mR 58 60 1,
 oR 59 61 (.bin .sub) [57,58],
 oR 60 62 (.bin .sub) [56,59],
 mR 11 63 60])
 (.region [⟨(some 12),1000064,.move,[.c (.int .i64 (1))],none⟩]))) (.skip)))
 (.joinT (Int×Int×Int×Bool×Bool×Int×Int×(List (ByteArray))) (fun x=>⟨.msl 0 1 x.2.2.2.2.2.2.2.length::.int .i64 x.1::.int .i64 x.2.1::.int .i64 x.2.2.1::.dead::.dead::.dead::.dead::.bool x.2.2.2.1::.bool x.2.2.2.2.1::.int .i64 x.2.2.2.2.2.1::.int .i64 x.2.2.2.2.2.2.1::dd 122 [],[(0,false,[.dead,.arr false 1 x.2.2.2.2.2.2.2.length (gl aB x.2.2.2.2.2.2.2)])],[]⟩) (.seq (.region [mR 61 65 8,
 mR 62 66 61,
 oG 63 1000067 .move [9] 62 true,
 ⟨(some 64),1000068,.pick,[.t 62,.t 63,.c (.bool false)],none⟩,
 mR 65 69 64,
 oG 66 1000070 .move [12] 65 true,
 ⟨(some 67),1000071,(.bin .eql),[.t 66,.c (.int .i64 (1))],(some (65,true))⟩,
 ⟨(some 68),1000072,.pick,[.t 65,.t 67,.c (.bool false)],none⟩])
 (.cond (.t 68) (.seq (.region [mR 69 73 0,
 mR 70 74 1,
 mR 71 75 2,
 oR 72 76 (.call true 216) [69,70,71]])
 (.cond (.t 72) (.ret) (.skip))) (.skip)))
 (.joinT (Int×Int×Int×Int×Int×(List (ByteArray))) (fun x=>⟨.msl 0 1 x.2.2.2.2.2.length::.int .i64 x.1::.int .i64 x.2.1::.int .i64 x.2.2.1::dd 6 (.int .i64 x.2.2.2.1::.int .i64 x.2.2.2.2.1::dd 122 []),[(0,false,[.dead,.arr false 1 x.2.2.2.2.2.length (gl aB x.2.2.2.2.2)])],[]⟩) (.seq (.region [mR 73 80 1,
 ⟨(some 74),1000081,(.bin .gtr),[.t 73,.c (.int .i64 (0))],none⟩,
 mR 75 82 74,
 oG 76 1000083 .move [0] 75 true,
 oG 77 1000084 .move [1] 75 true,
 ⟨(some 78),1000085,(.bin .sub),[.t 77,.c (.int .i64 (1))],(some (75,true))⟩,
 oG 79 1000086 (.indexAddr 1 none) [76,78] 75 true,
 oG 80 1000087 (.load false 1) [79] 75 true,
 oG 81 1000088 .move [0] 75 true,
 oG 82 1000089 .move [11] 75 true,
 oG 83 1000090 (.indexAddr 1 none) [81,82] 75 true,
 oG 84 1000091 (.load false 1) [83] 75 true,
 oG 85 1000092 (.call false 217) [80,84] 75 true,
 oG 86 1000096 (.un .not) [85] 75 true,
 ⟨(some 87),1000097,.pick,[.t 75,.t 86,.c (.bool false)],none⟩])
 (.cond (.t 87) (.seq (.region [mR 88 98 0,
 mR 89 99 1,
 mR 90 100 2,
 mR 91 101 11,
 oR 92 102 (.call true 218) [88,89,90,91],
 mR 13 106 92])
 (.seq (.region [mR 93 107 13,
 mR 1 108 93])
 (.exit 1))) (.skip)))
 (.seq (.region [mR 95 109 0,
 mR 96 110 1,
 mR 97 111 2,
 mR 98 112 11,
 oR 99 113 (.call true 219) [95,96,97,98],
 mR 94 117 99,
 oR 100 118 (.extract 0) [94],
 oR 101 119 (.extract 1) [94],
 mR 14 120 100,
 mR 15 121 101])
 (.seq (.region [mR 102 122 15,
 mR 9 123 102])
 (.seq (.region [mR 103 124 14,
 mR 104 125 1,
 oR 105 126 (.bin .sub) [103,104],
 mR 106 127 2,
 mR 107 128 14,
 oR 108 129 (.bin .sub) [106,107],
 mR 16 130 105,
 mR 17 131 108])
 (.seq (.region [mR 109 132 10,
 ⟨(some 110),1000133,(.bin .quo),[.t 109,.c (.int .i64 (8))],none⟩,
 mR 18 134 110])
 (.seq (.region [mR 111 135 16,
 mR 112 136 17,
 oR 113 137 (.bin .lss) [111,112]])
 (.cond (.t 113) (.seq (.region [mR 114 138 16,
 mR 115 139 18,
 oR 116 140 (.bin .geq) [114,115],
 mR 8 141 116])
 (.seq (.region [mR 117 142 0,
 mR 118 143 1,
 mR 119 144 14,
 mR 120 145 3,
 oR 121 146 (.call true 193) [117,118,119,120]])
 (.region [mR 122 150 14,
 ⟨(some 123),1000151,(.bin .add),[.t 122,.c (.int .i64 (1))],none⟩,
 mR 1 152 123]))) (.seq (.region [mR 124 153 17,
 mR 125 154 18,
 oR 126 155 (.bin .geq) [124,125],
 mR 8 156 126])
 (.seq (.region [mR 127 157 0,
 mR 128 158 14,
 ⟨(some 129),1000159,(.bin .add),[.t 128,.c (.int .i64 (1))],none⟩,
 mR 130 160 2,
 mR 131 161 3,
 oR 132 162 (.call true 193) [127,129,130,131]])
 (.region [mR 133 166 14,
 mR 2 167 133]))))))))))))))))))))))
 [] 1 130
def f193.env (n:Nat):Env:=[(193,f193.Cn n),(211,f211.C),(212,f212.C),(213,f213.C),(214,f214.C),(215,f215.C),(216,f216.C),(217,f217.C),(218,f218.C),(219,f219.C)]
def f193.tree (a:(List (ByteArray))×Int×Int×Int) (n:Nat):Prop:=∃ (I2:(Int×Int×Int×Bool×Bool×(List (ByteArray)))→Prop) (μ3:(Int×Int×Int×Bool×Bool×(List (ByteArray)))→Nat),(∃ x1:Int×Int×Int×Bool×Bool×(List (ByteArray)),(a.1.length=x1.2.2.2.2.2.length)∧(a.2.1=x1.1)∧(a.2.2.1=x1.2.1)∧(a.2.2.2=x1.2.2.1)∧(true=x1.2.2.2.1)∧(true=x1.2.2.2.2.1)∧SlQ a.1.length x1.2.2.2.2.2.length (gl aB a.1) (gl aB x1.2.2.2.2.2) (I2 x1))∧∀ y4:Int×Int×Int×Bool×Bool×(List (ByteArray)),I2 y4→(Let (wI (y4.2.1 - y4.1)) (fun v5:Int=>Br (decide (v5≤(12:Int))) ((y4.2.2.2.2.2.length=y4.2.2.2.2.2.length)∧∃ c8:(List (ByteArray))×Int×Int,(y4.2.2.2.2.2.length=List.length c8.1)∧(y4.1=c8.2.1)∧(y4.2.1=c8.2.2)∧SlQ y4.2.2.2.2.2.length c8.1.length (gl aB y4.2.2.2.2.2) (gl aB c8.1) ((gN c8)∧SlQ (List.length ((t7 slt) c8)) (List.length ((eE slt) a)) (gl aB ((t7 slt) c8)) (gl aB ((eE slt) a)) (True))) (Br (y4.2.2.1==(0:Int)) ((y4.2.2.2.2.2.length=y4.2.2.2.2.2.length)∧∃ c14:(List (ByteArray))×Int×Int,(y4.2.2.2.2.2.length=List.length c14.1)∧(y4.1=c14.2.1)∧(y4.2.1=c14.2.2)∧SlQ y4.2.2.2.2.2.length c14.1.length (gl aB y4.2.2.2.2.2) (gl aB c14.1) ((fS c14)∧SlQ (List.length ((mK slt) c14)) (List.length ((eE slt) a)) (gl aB ((mK slt) c14)) (gl aB ((eE slt) a)) (True))) (∃ I18:(Int×Int×Int×Bool×Bool×Int×(List (ByteArray)))→Prop,(Br (!y4.2.2.2.1) ((y4.2.2.2.2.2.length=y4.2.2.2.2.2.length)∧∃ c21:(List (ByteArray))×Int×Int,(y4.2.2.2.2.2.length=List.length c21.1)∧(y4.1=c21.2.1)∧(y4.2.1=c21.2.2)∧SlQ y4.2.2.2.2.2.length c21.1.length (gl aB y4.2.2.2.2.2) (gl aB c21.1) ((gN c21)∧Let (wI (y4.2.2.1 - (1:Int))) (fun v23:Int=>∃ x24:Int×Int×Int×Bool×Bool×Int×(List (ByteArray)),(y4.2.2.2.2.2.length=x24.2.2.2.2.2.2.length)∧(y4.1=x24.1)∧(y4.2.1=x24.2.1)∧(v23=x24.2.2.1)∧(y4.2.2.2.1=x24.2.2.2.1)∧(y4.2.2.2.2.1=x24.2.2.2.2.1)∧(v5=x24.2.2.2.2.2.1)∧SlQ (List.length (eJ c21)) x24.2.2.2.2.2.2.length (gl aB (eJ c21)) (gl aB x24.2.2.2.2.2.2) (I18 x24)))) (∃ x29:Int×Int×Int×Bool×Bool×Int×(List (ByteArray)),(y4.2.2.2.2.2.length=x29.2.2.2.2.2.2.length)∧(y4.1=x29.1)∧(y4.2.1=x29.2.1)∧(y4.2.2.1=x29.2.2.1)∧(y4.2.2.2.1=x29.2.2.2.1)∧(y4.2.2.2.2.1=x29.2.2.2.2.1)∧(v5=x29.2.2.2.2.2.1)∧SlQ y4.2.2.2.2.2.length x29.2.2.2.2.2.2.length (gl aB y4.2.2.2.2.2) (gl aB x29.2.2.2.2.2.2) (I18 x29)))∧∀ y32:Int×Int×Int×Bool×Bool×Int×(List (ByteArray)),I18 y32→((y32.2.2.2.2.2.2.length=y32.2.2.2.2.2.2.length)∧∃ c35:(List (ByteArray))×Int×Int,(y32.2.2.2.2.2.2.length=List.length c35.1)∧(y32.1=c35.2.1)∧(y32.2.1=c35.2.2)∧SlQ y32.2.2.2.2.2.2.length c35.1.length (gl aB y32.2.2.2.2.2.2) (gl aB c35.1) ((fS c35)∧∃ I37:(Int×Int×Int×Bool×Bool×Int×Int×Int×(List (ByteArray)))→Prop,(Br ((((aV slt) c35).2.1)==(2:Int)) ((y32.2.2.2.2.2.2.length=(List.length (((aV slt) c35).2.2)))∧∃ c40:(List (ByteArray))×Int×Int,(y32.2.2.2.2.2.2.length=List.length c40.1)∧(y32.1=c40.2.1)∧(y32.2.1=c40.2.2)∧SlQ (List.length (((aV slt) c35).2.2)) c40.1.length (gl aB (((aV slt) c35).2.2)) (gl aB c40.1) ((gN c40)∧Let (wI (y32.2.1 - (1:Int))) (fun v42:Int=>Let (wI ((((aV slt) c35).1) - y32.1)) (fun v43:Int=>Let (wI (v42 - v43)) (fun v44:Int=>∃ x45:Int×Int×Int×Bool×Bool×Int×Int×Int×(List (ByteArray)),(y32.2.2.2.2.2.2.length=x45.2.2.2.2.2.2.2.2.length)∧(y32.1=x45.1)∧(y32.2.1=x45.2.1)∧(y32.2.2.1=x45.2.2.1)∧(y32.2.2.2.1=x45.2.2.2.1)∧(y32.2.2.2.2.1=x45.2.2.2.2.1)∧(y32.2.2.2.2.2.1=x45.2.2.2.2.2.1)∧(v44=x45.2.2.2.2.2.2.1)∧((1:Int)=x45.2.2.2.2.2.2.2.1)∧SlQ (List.length (rC c40)) x45.2.2.2.2.2.2.2.2.length (gl aB (rC c40)) (gl aB x45.2.2.2.2.2.2.2.2) (I37 x45)))))) (∃ x56:Int×Int×Int×Bool×Bool×Int×Int×Int×(List (ByteArray)),(y32.2.2.2.2.2.2.length=x56.2.2.2.2.2.2.2.2.length)∧(y32.1=x56.1)∧(y32.2.1=x56.2.1)∧(y32.2.2.1=x56.2.2.1)∧(y32.2.2.2.1=x56.2.2.2.1)∧(y32.2.2.2.2.1=x56.2.2.2.2.1)∧(y32.2.2.2.2.2.1=x56.2.2.2.2.2.1)∧((((aV slt) c35).1)=x56.2.2.2.2.2.2.1)∧((((aV slt) c35).2.1)=x56.2.2.2.2.2.2.2.1)∧SlQ (List.length (((aV slt) c35).2.2)) x56.2.2.2.2.2.2.2.2.length (gl aB (((aV slt) c35).2.2)) (gl aB x56.2.2.2.2.2.2.2.2) (I37 x56)))∧∀ y59:Int×Int×Int×Bool×Bool×Int×Int×Int×(List (ByteArray)),I37 y59→(∃ I62:(Int×Int×Int×Bool×Bool×Int×Int×(List (ByteArray)))→Prop,(Br y59.2.2.2.1 (Br y59.2.2.2.2.1 (Br (y59.2.2.2.2.2.2.2.1==(1:Int)) ((y59.2.2.2.2.2.2.2.2.length=y59.2.2.2.2.2.2.2.2.length)∧∃ c69:(List (ByteArray))×Int×Int,(y59.2.2.2.2.2.2.2.2.length=List.length c69.1)∧(y59.1=c69.2.1)∧(y59.2.1=c69.2.2)∧SlQ y59.2.2.2.2.2.2.2.2.length c69.1.length (gl aB y59.2.2.2.2.2.2.2.2) (gl aB c69.1) ((fS c69)∧Br (((bI slt) c69).1) (SlQ (List.length (((bI slt) c69).2)) (List.length ((eE slt) a)) (gl aB (((bI slt) c69).2)) (gl aB ((eE slt) a)) (True)) (∃ x74:Int×Int×Int×Bool×Bool×Int×Int×(List (ByteArray)),(y59.2.2.2.2.2.2.2.2.length=x74.2.2.2.2.2.2.2.length)∧(y59.1=x74.1)∧(y59.2.1=x74.2.1)∧(y59.2.2.1=x74.2.2.1)∧(y59.2.2.2.1=x74.2.2.2.1)∧(y59.2.2.2.2.1=x74.2.2.2.2.1)∧(y59.2.2.2.2.2.1=x74.2.2.2.2.2.1)∧(y59.2.2.2.2.2.2.1=x74.2.2.2.2.2.2.1)∧SlQ (List.length (((bI slt) c69).2)) x74.2.2.2.2.2.2.2.length (gl aB (((bI slt) c69).2)) (gl aB x74.2.2.2.2.2.2.2) (I62 x74)))) (∃ x78:Int×Int×Int×Bool×Bool×Int×Int×(List (ByteArray)),(y59.2.2.2.2.2.2.2.2.length=x78.2.2.2.2.2.2.2.length)∧(y59.1=x78.1)∧(y59.2.1=x78.2.1)∧(y59.2.2.1=x78.2.2.1)∧(y59.2.2.2.1=x78.2.2.2.1)∧(y59.2.2.2.2.1=x78.2.2.2.2.1)∧(y59.2.2.2.2.2.1=x78.2.2.2.2.2.1)∧(y59.2.2.2.2.2.2.1=x78.2.2.2.2.2.2.1)∧SlQ y59.2.2.2.2.2.2.2.2.length x78.2.2.2.2.2.2.2.length (gl aB y59.2.2.2.2.2.2.2.2) (gl aB x78.2.2.2.2.2.2.2) (I62 x78))) (∃ x81:Int×Int×Int×Bool×Bool×Int×Int×(List (ByteArray)),(y59.2.2.2.2.2.2.2.2.length=x81.2.2.2.2.2.2.2.length)∧(y59.1=x81.1)∧(y59.2.1=x81.2.1)∧(y59.2.2.1=x81.2.2.1)∧(y59.2.2.2.1=x81.2.2.2.1)∧(y59.2.2.2.2.1=x81.2.2.2.2.1)∧(y59.2.2.2.2.2.1=x81.2.2.2.2.2.1)∧(y59.2.2.2.2.2.2.1=x81.2.2.2.2.2.2.1)∧SlQ y59.2.2.2.2.2.2.2.2.length x81.2.2.2.2.2.2.2.length (gl aB y59.2.2.2.2.2.2.2.2) (gl aB x81.2.2.2.2.2.2.2) (I62 x81))) (∃ x84:Int×Int×Int×Bool×Bool×Int×Int×(List (ByteArray)),(y59.2.2.2.2.2.2.2.2.length=x84.2.2.2.2.2.2.2.length)∧(y59.1=x84.1)∧(y59.2.1=x84.2.1)∧(y59.2.2.1=x84.2.2.1)∧(y59.2.2.2.1=x84.2.2.2.1)∧(y59.2.2.2.2.1=x84.2.2.2.2.1)∧(y59.2.2.2.2.2.1=x84.2.2.2.2.2.1)∧(y59.2.2.2.2.2.2.1=x84.2.2.2.2.2.2.1)∧SlQ y59.2.2.2.2.2.2.2.2.length x84.2.2.2.2.2.2.2.length (gl aB y59.2.2.2.2.2.2.2.2) (gl aB x84.2.2.2.2.2.2.2) (I62 x84)))∧∀ y87:Int×Int×Int×Bool×Bool×Int×Int×(List (ByteArray)),I62 y87→(∃ I90:(Int×Int×Int×Int×Int×(List (ByteArray)))→Prop,(Br (decide ((0:Int) < y87.1)) (Let (wI (y87.1 - (1:Int))) (fun v93:Int=>Br (decide ((0:Int)≤v93)&&decide (v93 < (List.length y87.2.2.2.2.2.2.2:Int))) ((y87.2.2.2.2.2.2.2.length=y87.2.2.2.2.2.2.2.length)∧(Br (decide ((0:Int)≤y87.2.2.2.2.2.2.1)&&decide (y87.2.2.2.2.2.2.1 < (List.length y87.2.2.2.2.2.2.2:Int))) ((y87.2.2.2.2.2.2.2.length=y87.2.2.2.2.2.2.2.length)∧(∃ c96:ByteArray×ByteArray,((at_ y87.2.2.2.2.2.2.2 v93)=c96.1)∧((at_ y87.2.2.2.2.2.2.2 y87.2.2.2.2.2.2.1)=c96.2)∧True∧Br (!(b6 c96)) ((y87.2.2.2.2.2.2.2.length=y87.2.2.2.2.2.2.2.length)∧∃ c99:(List (ByteArray))×Int×Int×Int,(y87.2.2.2.2.2.2.2.length=List.length c99.1)∧(y87.1=c99.2.1)∧(y87.2.1=c99.2.2.1)∧(y87.2.2.2.2.2.2.1=c99.2.2.2)∧SlQ y87.2.2.2.2.2.2.2.length c99.1.length (gl aB y87.2.2.2.2.2.2.2) (gl aB c99.1) ((hT c99)∧∃ x101:Int×Int×Int×Bool×Bool×(List (ByteArray)),(y87.2.2.2.2.2.2.2.length=x101.2.2.2.2.2.length)∧((((cT slt) c99).1)=x101.1)∧(y87.2.1=x101.2.1)∧(y87.2.2.1=x101.2.2.1)∧(y87.2.2.2.1=x101.2.2.2.1)∧(y87.2.2.2.2.1=x101.2.2.2.2.1)∧SlQ (List.length (((cT slt) c99).2)) x101.2.2.2.2.2.length (gl aB (((cT slt) c99).2)) (gl aB x101.2.2.2.2.2) (I2 x101∧μ3 x101 < μ3 y4))) (∃ x104:Int×Int×Int×Int×Int×(List (ByteArray)),(y87.2.2.2.2.2.2.2.length=x104.2.2.2.2.2.length)∧(y87.1=x104.1)∧(y87.2.1=x104.2.1)∧(y87.2.2.1=x104.2.2.1)∧(y87.2.2.2.2.2.1=x104.2.2.2.1)∧(y87.2.2.2.2.2.2.1=x104.2.2.2.2.1)∧SlQ y87.2.2.2.2.2.2.2.length x104.2.2.2.2.2.length (gl aB y87.2.2.2.2.2.2.2) (gl aB x104.2.2.2.2.2) (I90 x104)))) False)) False)) (∃ x113:Int×Int×Int×Int×Int×(List (ByteArray)),(y87.2.2.2.2.2.2.2.length=x113.2.2.2.2.2.length)∧(y87.1=x113.1)∧(y87.2.1=x113.2.1)∧(y87.2.2.1=x113.2.2.1)∧(y87.2.2.2.2.2.1=x113.2.2.2.1)∧(y87.2.2.2.2.2.2.1=x113.2.2.2.2.1)∧SlQ y87.2.2.2.2.2.2.2.length x113.2.2.2.2.2.length (gl aB y87.2.2.2.2.2.2.2) (gl aB x113.2.2.2.2.2) (I90 x113)))∧∀ y116:Int×Int×Int×Int×Int×(List (ByteArray)),I90 y116→((y116.2.2.2.2.2.length=y116.2.2.2.2.2.length)∧∃ c119:(List (ByteArray))×Int×Int×Int,(y116.2.2.2.2.2.length=List.length c119.1)∧(y116.1=c119.2.1)∧(y116.2.1=c119.2.2.1)∧(y116.2.2.2.2.1=c119.2.2.2)∧SlQ y116.2.2.2.2.2.length c119.1.length (gl aB y116.2.2.2.2.2) (gl aB c119.1) ((hT c119)∧Let (wI ((((aS slt) c119).1) - y116.1)) (fun v121:Int=>Let (wI (y116.2.1 - (((aS slt) c119).1))) (fun v122:Int=>Let (wI (Int.tdiv y116.2.2.2.1 (8:Int))) (fun v123:Int=>Br (decide (v121 < v122)) ((y116.2.2.2.2.2.length=(List.length (((aS slt) c119).2.2)))∧∃ c126:(List (ByteArray))×Int×Int×Int,(y116.2.2.2.2.2.length=List.length c126.1)∧(y116.1=c126.2.1)∧((((aS slt) c119).1)=c126.2.2.1)∧(y116.2.2.1=c126.2.2.2)∧SlQ (List.length (((aS slt) c119).2.2)) c126.1.length (gl aB (((aS slt) c119).2.2)) (gl aB c126.1) ((f193.rpre n c126)∧Let (wI ((((aS slt) c119).1)+(1:Int))) (fun v128:Int=>∃ x129:Int×Int×Int×Bool×Bool×(List (ByteArray)),(y116.2.2.2.2.2.length=x129.2.2.2.2.2.length)∧(v128=x129.1)∧(y116.2.1=x129.2.1)∧(y116.2.2.1=x129.2.2.1)∧((decide (v123≤v121))=x129.2.2.2.1)∧((((aS slt) c119).2.1)=x129.2.2.2.2.1)∧SlQ (List.length ((eE slt) c126)) x129.2.2.2.2.2.length (gl aB ((eE slt) c126)) (gl aB x129.2.2.2.2.2) (I2 x129∧μ3 x129 < μ3 y4)))) (Let (wI ((((aS slt) c119).1)+(1:Int))) (fun v135:Int=>(y116.2.2.2.2.2.length=(List.length (((aS slt) c119).2.2)))∧∃ c136:(List (ByteArray))×Int×Int×Int,(y116.2.2.2.2.2.length=List.length c136.1)∧(v135=c136.2.1)∧(y116.2.1=c136.2.2.1)∧(y116.2.2.1=c136.2.2.2)∧SlQ (List.length (((aS slt) c119).2.2)) c136.1.length (gl aB (((aS slt) c119).2.2)) (gl aB c136.1) ((f193.rpre n c136)∧∃ x138:Int×Int×Int×Bool×Bool×(List (ByteArray)),(y116.2.2.2.2.2.length=x138.2.2.2.2.2.length)∧(y116.1=x138.1)∧((((aS slt) c119).1)=x138.2.1)∧(y116.2.2.1=x138.2.2.1)∧((decide (v123≤v122))=x138.2.2.2.1)∧((((aS slt) c119).2.1)=x138.2.2.2.2.1)∧SlQ (List.length ((eE slt) c136)) x138.2.2.2.2.2.length (gl aB ((eE slt) c136)) (gl aB x138.2.2.2.2.2) (I2 x138∧μ3 x138 < μ3 y4)))))))))))))))))
def f193.vc (a:(List (ByteArray))×Int×Int×Int) (n:Nat):Prop:=(∃ (I2:(Int×Int×Int×Bool×Bool×(List (ByteArray)))→Prop) (μ3:(Int×Int×Int×Bool×Bool×(List (ByteArray)))→Nat),I2 (a.2.1,a.2.2.1,a.2.2.2,true,true,a.1)∧∀ y4:Int×Int×Int×Bool×Bool×(List (ByteArray)),I2 y4→(-9223372036854775808≤(y4.2.1 - y4.1)∧(y4.2.1 - y4.1)≤9223372036854775807∧(((y4.2.1 - y4.1)≤(12:Int)→(gN (y4.2.2.2.2.2,y4.1,y4.2.1)∧((List.length ((t7 slt) (y4.2.2.2.2.2,y4.1,y4.2.1)))=y4.2.2.2.2.2.length∧(((t7 slt) (y4.2.2.2.2.2,y4.1,y4.2.1))=(eE slt) a))))∧(¬((y4.2.1 - y4.1)≤(12:Int))→((y4.2.2.1=(0:Int)→(fS (y4.2.2.2.2.2,y4.1,y4.2.1)∧((List.length ((mK slt) (y4.2.2.2.2.2,y4.1,y4.2.1)))=y4.2.2.2.2.2.length∧(((mK slt) (y4.2.2.2.2.2,y4.1,y4.2.1))=(eE slt) a))))∧(¬(y4.2.2.1=(0:Int))→(∃ I18:(Int×Int×Int×Bool×Bool×Int×(List (ByteArray)))→Prop,(((¬(y4.2.2.2.1=true)→(gN (y4.2.2.2.2.2,y4.1,y4.2.1)∧((List.length (eJ (y4.2.2.2.2.2,y4.1,y4.2.1)))=y4.2.2.2.2.2.length∧(-9223372036854775808≤(y4.2.2.1 - (1:Int))∧(y4.2.2.1 - (1:Int))≤9223372036854775807∧(I18 (y4.1,y4.2.1,(y4.2.2.1 - (1:Int)),y4.2.2.2.1,y4.2.2.2.2.1,(y4.2.1 - y4.1),(eJ (y4.2.2.2.2.2,y4.1,y4.2.1))))))))∧(¬(¬(y4.2.2.2.1=true))→(I18 (y4.1,y4.2.1,y4.2.2.1,y4.2.2.2.1,y4.2.2.2.2.1,(y4.2.1 - y4.1),y4.2.2.2.2.2)))))∧∀ y32:Int×Int×Int×Bool×Bool×Int×(List (ByteArray)),I18 y32→(fS (y32.2.2.2.2.2.2,y32.1,y32.2.1)∧((List.length (((aV slt) (y32.2.2.2.2.2.2,y32.1,y32.2.1)).2.2))=y32.2.2.2.2.2.2.length∧(∃ I37:(Int×Int×Int×Bool×Bool×Int×Int×Int×(List (ByteArray)))→Prop,((((((aV slt) (y32.2.2.2.2.2.2,y32.1,y32.2.1)).2.1)=(2:Int)→(gN (((aV slt) (y32.2.2.2.2.2.2,y32.1,y32.2.1)).2.2,y32.1,y32.2.1)∧((List.length (rC (((aV slt) (y32.2.2.2.2.2.2,y32.1,y32.2.1)).2.2,y32.1,y32.2.1)))=y32.2.2.2.2.2.2.length∧(-9223372036854775808≤(y32.2.1 - (1:Int))∧(y32.2.1 - (1:Int))≤9223372036854775807∧(-9223372036854775808≤((((aV slt) (y32.2.2.2.2.2.2,y32.1,y32.2.1)).1) - y32.1)∧((((aV slt) (y32.2.2.2.2.2.2,y32.1,y32.2.1)).1) - y32.1)≤9223372036854775807∧(-9223372036854775808≤((y32.2.1 - (1:Int)) - ((((aV slt) (y32.2.2.2.2.2.2,y32.1,y32.2.1)).1) - y32.1))∧((y32.2.1 - (1:Int)) - ((((aV slt) (y32.2.2.2.2.2.2,y32.1,y32.2.1)).1) - y32.1))≤9223372036854775807∧(I37 (y32.1,y32.2.1,y32.2.2.1,y32.2.2.2.1,y32.2.2.2.2.1,y32.2.2.2.2.2.1,((y32.2.1 - (1:Int)) - ((((aV slt) (y32.2.2.2.2.2.2,y32.1,y32.2.1)).1) - y32.1)),(1:Int),(rC (((aV slt) (y32.2.2.2.2.2.2,y32.1,y32.2.1)).2.2,y32.1,y32.2.1))))))))))∧(¬((((aV slt) (y32.2.2.2.2.2.2,y32.1,y32.2.1)).2.1)=(2:Int))→(I37 (y32.1,y32.2.1,y32.2.2.1,y32.2.2.2.1,y32.2.2.2.2.1,y32.2.2.2.2.2.1,((aV slt) (y32.2.2.2.2.2.2,y32.1,y32.2.1)).1,((aV slt) (y32.2.2.2.2.2.2,y32.1,y32.2.1)).2.1,((aV slt) (y32.2.2.2.2.2.2,y32.1,y32.2.1)).2.2)))))∧∀ y59:Int×Int×Int×Bool×Bool×Int×Int×Int×(List (ByteArray)),I37 y59→(∃ I62:(Int×Int×Int×Bool×Bool×Int×Int×(List (ByteArray)))→Prop,(((y59.2.2.2.1=true→((y59.2.2.2.2.1=true→((y59.2.2.2.2.2.2.2.1=(1:Int)→(fS (y59.2.2.2.2.2.2.2.2,y59.1,y59.2.1)∧((List.length (((bI slt) (y59.2.2.2.2.2.2.2.2,y59.1,y59.2.1)).2))=y59.2.2.2.2.2.2.2.2.length∧(((((bI slt) (y59.2.2.2.2.2.2.2.2,y59.1,y59.2.1)).1)=true→(((bI slt) (y59.2.2.2.2.2.2.2.2,y59.1,y59.2.1)).2=(eE slt) a))∧(¬((((bI slt) (y59.2.2.2.2.2.2.2.2,y59.1,y59.2.1)).1)=true)→(I62 (y59.1,y59.2.1,y59.2.2.1,y59.2.2.2.1,y59.2.2.2.2.1,y59.2.2.2.2.2.1,y59.2.2.2.2.2.2.1,((bI slt) (y59.2.2.2.2.2.2.2.2,y59.1,y59.2.1)).2)))))))∧(¬(y59.2.2.2.2.2.2.2.1=(1:Int))→(I62 (y59.1,y59.2.1,y59.2.2.1,y59.2.2.2.1,y59.2.2.2.2.1,y59.2.2.2.2.2.1,y59.2.2.2.2.2.2.1,y59.2.2.2.2.2.2.2.2)))))∧(¬(y59.2.2.2.2.1=true)→(I62 (y59.1,y59.2.1,y59.2.2.1,y59.2.2.2.1,y59.2.2.2.2.1,y59.2.2.2.2.2.1,y59.2.2.2.2.2.2.1,y59.2.2.2.2.2.2.2.2)))))∧(¬(y59.2.2.2.1=true)→(I62 (y59.1,y59.2.1,y59.2.2.1,y59.2.2.2.1,y59.2.2.2.2.1,y59.2.2.2.2.2.1,y59.2.2.2.2.2.2.1,y59.2.2.2.2.2.2.2.2)))))∧∀ y87:Int×Int×Int×Bool×Bool×Int×Int×(List (ByteArray)),I62 y87→(∃ I90:(Int×Int×Int×Int×Int×(List (ByteArray)))→Prop,((((0:Int) < y87.1→(-9223372036854775808≤(y87.1 - (1:Int))∧(y87.1 - (1:Int))≤9223372036854775807∧((0:Int)≤(y87.1 - (1:Int))∧(y87.1 - (1:Int)) < (List.length y87.2.2.2.2.2.2.2:Int)∧((0:Int)≤y87.2.2.2.2.2.2.1∧y87.2.2.2.2.2.2.1 < (List.length y87.2.2.2.2.2.2.2:Int)∧((¬((b6 (at_ y87.2.2.2.2.2.2.2 (y87.1 - (1:Int)),at_ y87.2.2.2.2.2.2.2 y87.2.2.2.2.2.2.1))=true)→(hT (y87.2.2.2.2.2.2.2,y87.1,y87.2.1,y87.2.2.2.2.2.2.1)∧((List.length (((cT slt) (y87.2.2.2.2.2.2.2,y87.1,y87.2.1,y87.2.2.2.2.2.2.1)).2))=y87.2.2.2.2.2.2.2.length∧(I2 (((cT slt) (y87.2.2.2.2.2.2.2,y87.1,y87.2.1,y87.2.2.2.2.2.2.1)).1,y87.2.1,y87.2.2.1,y87.2.2.2.1,y87.2.2.2.2.1,((cT slt) (y87.2.2.2.2.2.2.2,y87.1,y87.2.1,y87.2.2.2.2.2.2.1)).2)∧μ3 (((cT slt) (y87.2.2.2.2.2.2.2,y87.1,y87.2.1,y87.2.2.2.2.2.2.1)).1,y87.2.1,y87.2.2.1,y87.2.2.2.1,y87.2.2.2.2.1,((cT slt) (y87.2.2.2.2.2.2.2,y87.1,y87.2.1,y87.2.2.2.2.2.2.1)).2) < μ3 y4))))∧(¬(¬((b6 (at_ y87.2.2.2.2.2.2.2 (y87.1 - (1:Int)),at_ y87.2.2.2.2.2.2.2 y87.2.2.2.2.2.2.1))=true))→(I90 (y87.1,y87.2.1,y87.2.2.1,y87.2.2.2.2.2.1,y87.2.2.2.2.2.2.1,y87.2.2.2.2.2.2.2))))))))∧(¬((0:Int) < y87.1)→(I90 (y87.1,y87.2.1,y87.2.2.1,y87.2.2.2.2.2.1,y87.2.2.2.2.2.2.1,y87.2.2.2.2.2.2.2)))))∧∀ y116:Int×Int×Int×Int×Int×(List (ByteArray)),I90 y116→(hT (y116.2.2.2.2.2,y116.1,y116.2.1,y116.2.2.2.2.1)∧((List.length (((aS slt) (y116.2.2.2.2.2,y116.1,y116.2.1,y116.2.2.2.2.1)).2.2))=y116.2.2.2.2.2.length∧(-9223372036854775808≤((((aS slt) (y116.2.2.2.2.2,y116.1,y116.2.1,y116.2.2.2.2.1)).1) - y116.1)∧((((aS slt) (y116.2.2.2.2.2,y116.1,y116.2.1,y116.2.2.2.2.1)).1) - y116.1)≤9223372036854775807∧(-9223372036854775808≤(y116.2.1 - (((aS slt) (y116.2.2.2.2.2,y116.1,y116.2.1,y116.2.2.2.2.1)).1))∧(y116.2.1 - (((aS slt) (y116.2.2.2.2.2,y116.1,y116.2.1,y116.2.2.2.2.1)).1))≤9223372036854775807∧(0≤y116.2.2.2.1∧y116.2.2.2.1≤9223372036854775807∧((((((aS slt) (y116.2.2.2.2.2,y116.1,y116.2.1,y116.2.2.2.2.1)).1) - y116.1) < (y116.2.1 - (((aS slt) (y116.2.2.2.2.2,y116.1,y116.2.1,y116.2.2.2.2.1)).1))→(f193.rpre n (((aS slt) (y116.2.2.2.2.2,y116.1,y116.2.1,y116.2.2.2.2.1)).2.2,y116.1,((aS slt) (y116.2.2.2.2.2,y116.1,y116.2.1,y116.2.2.2.2.1)).1,y116.2.2.1)∧((List.length ((eE slt) (((aS slt) (y116.2.2.2.2.2,y116.1,y116.2.1,y116.2.2.2.2.1)).2.2,y116.1,((aS slt) (y116.2.2.2.2.2,y116.1,y116.2.1,y116.2.2.2.2.1)).1,y116.2.2.1)))=y116.2.2.2.2.2.length∧(-9223372036854775808≤((((aS slt) (y116.2.2.2.2.2,y116.1,y116.2.1,y116.2.2.2.2.1)).1)+(1:Int))∧((((aS slt) (y116.2.2.2.2.2,y116.1,y116.2.1,y116.2.2.2.2.1)).1)+(1:Int))≤9223372036854775807∧(I2 (((((aS slt) (y116.2.2.2.2.2,y116.1,y116.2.1,y116.2.2.2.2.1)).1)+(1:Int)),y116.2.1,y116.2.2.1,decide ((y116.2.2.2.1 / (8:Int))≤((((aS slt) (y116.2.2.2.2.2,y116.1,y116.2.1,y116.2.2.2.2.1)).1) - y116.1)),((aS slt) (y116.2.2.2.2.2,y116.1,y116.2.1,y116.2.2.2.2.1)).2.1,((eE slt) (((aS slt) (y116.2.2.2.2.2,y116.1,y116.2.1,y116.2.2.2.2.1)).2.2,y116.1,((aS slt) (y116.2.2.2.2.2,y116.1,y116.2.1,y116.2.2.2.2.1)).1,y116.2.2.1)))∧μ3 (((((aS slt) (y116.2.2.2.2.2,y116.1,y116.2.1,y116.2.2.2.2.1)).1)+(1:Int)),y116.2.1,y116.2.2.1,decide ((y116.2.2.2.1 / (8:Int))≤((((aS slt) (y116.2.2.2.2.2,y116.1,y116.2.1,y116.2.2.2.2.1)).1) - y116.1)),((aS slt) (y116.2.2.2.2.2,y116.1,y116.2.1,y116.2.2.2.2.1)).2.1,((eE slt) (((aS slt) (y116.2.2.2.2.2,y116.1,y116.2.1,y116.2.2.2.2.1)).2.2,y116.1,((aS slt) (y116.2.2.2.2.2,y116.1,y116.2.1,y116.2.2.2.2.1)).1,y116.2.2.1))) < μ3 y4)))))∧(¬(((((aS slt) (y116.2.2.2.2.2,y116.1,y116.2.1,y116.2.2.2.2.1)).1) - y116.1) < (y116.2.1 - (((aS slt) (y116.2.2.2.2.2,y116.1,y116.2.1,y116.2.2.2.2.1)).1)))→(-9223372036854775808≤((((aS slt) (y116.2.2.2.2.2,y116.1,y116.2.1,y116.2.2.2.2.1)).1)+(1:Int))∧((((aS slt) (y116.2.2.2.2.2,y116.1,y116.2.1,y116.2.2.2.2.1)).1)+(1:Int))≤9223372036854775807∧(f193.rpre n (((aS slt) (y116.2.2.2.2.2,y116.1,y116.2.1,y116.2.2.2.2.1)).2.2,((((aS slt) (y116.2.2.2.2.2,y116.1,y116.2.1,y116.2.2.2.2.1)).1)+(1:Int)),y116.2.1,y116.2.2.1)∧((List.length ((eE slt) (((aS slt) (y116.2.2.2.2.2,y116.1,y116.2.1,y116.2.2.2.2.1)).2.2,((((aS slt) (y116.2.2.2.2.2,y116.1,y116.2.1,y116.2.2.2.2.1)).1)+(1:Int)),y116.2.1,y116.2.2.1)))=y116.2.2.2.2.2.length∧(I2 (y116.1,((aS slt) (y116.2.2.2.2.2,y116.1,y116.2.1,y116.2.2.2.2.1)).1,y116.2.2.1,decide ((y116.2.2.2.1 / (8:Int))≤(y116.2.1 - (((aS slt) (y116.2.2.2.2.2,y116.1,y116.2.1,y116.2.2.2.2.1)).1))),((aS slt) (y116.2.2.2.2.2,y116.1,y116.2.1,y116.2.2.2.2.1)).2.1,((eE slt) (((aS slt) (y116.2.2.2.2.2,y116.1,y116.2.1,y116.2.2.2.2.1)).2.2,((((aS slt) (y116.2.2.2.2.2,y116.1,y116.2.1,y116.2.2.2.2.1)).1)+(1:Int)),y116.2.1,y116.2.2.1)))∧μ3 (y116.1,((aS slt) (y116.2.2.2.2.2,y116.1,y116.2.1,y116.2.2.2.2.1)).1,y116.2.2.1,decide ((y116.2.2.2.1 / (8:Int))≤(y116.2.1 - (((aS slt) (y116.2.2.2.2.2,y116.1,y116.2.1,y116.2.2.2.2.1)).1))),((aS slt) (y116.2.2.2.2.2,y116.1,y116.2.1,y116.2.2.2.2.1)).2.1,((eE slt) (((aS slt) (y116.2.2.2.2.2,y116.1,y116.2.1,y116.2.2.2.2.1)).2.2,((((aS slt) (y116.2.2.2.2.2,y116.1,y116.2.1,y116.2.2.2.2.1)).1)+(1:Int)),y116.2.1,y116.2.2.1))) < μ3 y4)))))))))))))))))))))))
theorem f193.of (a:(List (ByteArray))×Int×Int×Int) (n:Nat) (h:f193.vc a n):f193.tree a n:=Exists.elim h (fun I2 h161_=>Exists.elim h161_ (fun μ3 h161=>⟨I2,μ3,⟨(a.2.1,a.2.2.1,a.2.2.2,true,true,a.1),⟨(bB (gl aB a.1) (rS aB)),⟨rfl,⟨rfl,⟨rfl,⟨rfl,⟨rfl,slQ (rS aB) (h161.1)⟩⟩⟩⟩⟩⟩⟩,fun y4 h163=>wrapK.i64 (h161.2 y4 h163) (fun h158 h159 k160=>br k160 Cnd.dec (fun h6 k156=>⟨rfl,⟨(y4.2.2.2.2.2,y4.1,y4.2.1),⟨(bB (gl aB y4.2.2.2.2.2) (rS aB)),⟨rfl,⟨rfl,slQ (rS aB) (⟨k156.1,jX k156.2 (fun (h9:(List.length ((t7 slt) (y4.2.2.2.2.2,y4.1,y4.2.1)))=y4.2.2.2.2.2.length) hk=>slQ (Rds.to (rS aB) hk) (trivial))⟩)⟩⟩⟩⟩⟩) (fun h7 k157=>br k157 Cnd.eq (fun h12 k154=>⟨rfl,⟨(y4.2.2.2.2.2,y4.1,y4.2.1),⟨(bB (gl aB y4.2.2.2.2.2) (rS aB)),⟨rfl,⟨rfl,slQ (rS aB) (⟨k154.1,jX k154.2 (fun (h15:(List.length ((mK slt) (y4.2.2.2.2.2,y4.1,y4.2.1)))=y4.2.2.2.2.2.length) hk=>slQ (Rds.to (rS aB) hk) (trivial))⟩)⟩⟩⟩⟩⟩) (fun h13 k155=>Exists.elim k155 (fun I18 h34=>⟨I18,br h34.1 (Cnd.not Cnd.b) (fun h19 k30=>⟨rfl,⟨(y4.2.2.2.2.2,y4.1,y4.2.1),⟨(bB (gl aB y4.2.2.2.2.2) (rS aB)),⟨rfl,⟨rfl,slQ (rS aB) (⟨k30.1,jX k30.2 (fun (h22:(List.length (eJ (y4.2.2.2.2.2,y4.1,y4.2.1)))=y4.2.2.2.2.2.length) hk=>wrapK.i64 hk (fun h25 h26 k27=>⟨(y4.1,y4.2.1,(y4.2.2.1 - (1:Int)),y4.2.2.2.1,y4.2.2.2.2.1,(y4.2.1 - y4.1),(eJ (y4.2.2.2.2.2,y4.1,y4.2.1))),⟨((h22).symm.trans (bB (gl aB (eJ (y4.2.2.2.2.2,y4.1,y4.2.1))) (rS aB))),⟨rfl,⟨rfl,⟨rfl,⟨rfl,⟨rfl,⟨rfl,slQ (rS aB) (k27)⟩⟩⟩⟩⟩⟩⟩⟩))⟩)⟩⟩⟩⟩⟩) (fun h20 k31=>⟨(y4.1,y4.2.1,y4.2.2.1,y4.2.2.2.1,y4.2.2.2.2.1,(y4.2.1 - y4.1),y4.2.2.2.2.2),⟨(bB (gl aB y4.2.2.2.2.2) (rS aB)),⟨rfl,⟨rfl,⟨rfl,⟨rfl,⟨rfl,⟨rfl,slQ (rS aB) (k31)⟩⟩⟩⟩⟩⟩⟩⟩),fun y32 h33=>⟨rfl,⟨(y32.2.2.2.2.2.2,y32.1,y32.2.1),⟨(bB (gl aB y32.2.2.2.2.2.2) (rS aB)),⟨rfl,⟨rfl,slQ (rS aB) (⟨(h34.2 y32 h33).1,jX ((h34.2 y32 h33).2) (fun (h36:(List.length (((aV slt) (y32.2.2.2.2.2.2,y32.1,y32.2.1)).2.2))=y32.2.2.2.2.2.2.length) hk=>Exists.elim hk (fun I37 h61=>⟨I37,br h61.1 Cnd.eq (fun h38 k57=>⟨(h36).symm,⟨(((aV slt) (y32.2.2.2.2.2.2,y32.1,y32.2.1)).2.2,y32.1,y32.2.1),⟨((h36).symm.trans (bB (gl aB (((aV slt) (y32.2.2.2.2.2.2,y32.1,y32.2.1)).2.2)) (rS aB))),⟨rfl,⟨rfl,slQ (rS aB) (⟨k57.1,jX k57.2 (fun (h41:(List.length (rC (((aV slt) (y32.2.2.2.2.2.2,y32.1,y32.2.1)).2.2,y32.1,y32.2.1)))=y32.2.2.2.2.2.2.length) hk=>wrapK.i64 hk (fun h52 h53 k54=>wrapK.i64 k54 (fun h49 h50 k51=>wrapK.i64 k51 (fun h46 h47 k48=>⟨(y32.1,y32.2.1,y32.2.2.1,y32.2.2.2.1,y32.2.2.2.2.1,y32.2.2.2.2.2.1,((y32.2.1 - (1:Int)) - ((((aV slt) (y32.2.2.2.2.2.2,y32.1,y32.2.1)).1) - y32.1)),(1:Int),(rC (((aV slt) (y32.2.2.2.2.2.2,y32.1,y32.2.1)).2.2,y32.1,y32.2.1))),⟨((h41).symm.trans (bB (gl aB (rC (((aV slt) (y32.2.2.2.2.2.2,y32.1,y32.2.1)).2.2,y32.1,y32.2.1))) (rS aB))),⟨rfl,⟨rfl,⟨rfl,⟨rfl,⟨rfl,⟨rfl,⟨rfl,⟨rfl,slQ (rS aB) (k48)⟩⟩⟩⟩⟩⟩⟩⟩⟩⟩))))⟩)⟩⟩⟩⟩⟩) (fun h39 k58=>⟨(y32.1,y32.2.1,y32.2.2.1,y32.2.2.2.1,y32.2.2.2.2.1,y32.2.2.2.2.2.1,((aV slt) (y32.2.2.2.2.2.2,y32.1,y32.2.1)).1,((aV slt) (y32.2.2.2.2.2.2,y32.1,y32.2.1)).2.1,((aV slt) (y32.2.2.2.2.2.2,y32.1,y32.2.1)).2.2),⟨((h36).symm.trans (bB (gl aB (((aV slt) (y32.2.2.2.2.2.2,y32.1,y32.2.1)).2.2)) (rS aB))),⟨rfl,⟨rfl,⟨rfl,⟨rfl,⟨rfl,⟨rfl,⟨rfl,⟨rfl,slQ (rS aB) (k58)⟩⟩⟩⟩⟩⟩⟩⟩⟩⟩),fun y59 h60=>Exists.elim (h61.2 y59 h60) (fun I62 h89=>⟨I62,br h89.1 Cnd.b (fun h63 k85=>br k85 Cnd.b (fun h65 k82=>br k82 Cnd.eq (fun h67 k79=>⟨rfl,⟨(y59.2.2.2.2.2.2.2.2,y59.1,y59.2.1),⟨(bB (gl aB y59.2.2.2.2.2.2.2.2) (rS aB)),⟨rfl,⟨rfl,slQ (rS aB) (⟨k79.1,jX k79.2 (fun (h70:(List.length (((bI slt) (y59.2.2.2.2.2.2.2.2,y59.1,y59.2.1)).2))=y59.2.2.2.2.2.2.2.2.length) hk=>br hk Cnd.b (fun h71 k75=>slQ (Rds.to (rS aB) k75) (trivial)) (fun h72 k76=>⟨(y59.1,y59.2.1,y59.2.2.1,y59.2.2.2.1,y59.2.2.2.2.1,y59.2.2.2.2.2.1,y59.2.2.2.2.2.2.1,((bI slt) (y59.2.2.2.2.2.2.2.2,y59.1,y59.2.1)).2),⟨((h70).symm.trans (bB (gl aB (((bI slt) (y59.2.2.2.2.2.2.2.2,y59.1,y59.2.1)).2)) (rS aB))),⟨rfl,⟨rfl,⟨rfl,⟨rfl,⟨rfl,⟨rfl,⟨rfl,slQ (rS aB) (k76)⟩⟩⟩⟩⟩⟩⟩⟩⟩))⟩)⟩⟩⟩⟩⟩) (fun h68 k80=>⟨(y59.1,y59.2.1,y59.2.2.1,y59.2.2.2.1,y59.2.2.2.2.1,y59.2.2.2.2.2.1,y59.2.2.2.2.2.2.1,y59.2.2.2.2.2.2.2.2),⟨(bB (gl aB y59.2.2.2.2.2.2.2.2) (rS aB)),⟨rfl,⟨rfl,⟨rfl,⟨rfl,⟨rfl,⟨rfl,⟨rfl,slQ (rS aB) (k80)⟩⟩⟩⟩⟩⟩⟩⟩⟩)) (fun h66 k83=>⟨(y59.1,y59.2.1,y59.2.2.1,y59.2.2.2.1,y59.2.2.2.2.1,y59.2.2.2.2.2.1,y59.2.2.2.2.2.2.1,y59.2.2.2.2.2.2.2.2),⟨(bB (gl aB y59.2.2.2.2.2.2.2.2) (rS aB)),⟨rfl,⟨rfl,⟨rfl,⟨rfl,⟨rfl,⟨rfl,⟨rfl,slQ (rS aB) (k83)⟩⟩⟩⟩⟩⟩⟩⟩⟩)) (fun h64 k86=>⟨(y59.1,y59.2.1,y59.2.2.1,y59.2.2.2.1,y59.2.2.2.2.1,y59.2.2.2.2.2.1,y59.2.2.2.2.2.2.1,y59.2.2.2.2.2.2.2.2),⟨(bB (gl aB y59.2.2.2.2.2.2.2.2) (rS aB)),⟨rfl,⟨rfl,⟨rfl,⟨rfl,⟨rfl,⟨rfl,⟨rfl,slQ (rS aB) (k86)⟩⟩⟩⟩⟩⟩⟩⟩⟩),fun y87 h88=>Exists.elim (h89.2 y87 h88) (fun I90 h118=>⟨I90,br h118.1 Cnd.dec (fun h91 k114=>wrapK.i64 k114 (fun h110 h111 k112=>chk k112.2.2 Cnd.ix ⟨k112.1,k112.2.1⟩ (fun h94 k109=>⟨rfl,chk k109.2.2 Cnd.ix ⟨k109.1,k109.2.1⟩ (fun h95 k108=>⟨rfl,⟨(at_ y87.2.2.2.2.2.2.2 (y87.1 - (1:Int)),at_ y87.2.2.2.2.2.2.2 y87.2.2.2.2.2.2.1),⟨rfl,⟨rfl,⟨trivial,br k108 (Cnd.not Cnd.b) (fun h97 k105=>⟨rfl,⟨(y87.2.2.2.2.2.2.2,y87.1,y87.2.1,y87.2.2.2.2.2.2.1),⟨(bB (gl aB y87.2.2.2.2.2.2.2) (rS aB)),⟨rfl,⟨rfl,⟨rfl,slQ (rS aB) (⟨k105.1,jX k105.2 (fun (h100:(List.length (((cT slt) (y87.2.2.2.2.2.2.2,y87.1,y87.2.1,y87.2.2.2.2.2.2.1)).2))=y87.2.2.2.2.2.2.2.length) hk=>⟨(((cT slt) (y87.2.2.2.2.2.2.2,y87.1,y87.2.1,y87.2.2.2.2.2.2.1)).1,y87.2.1,y87.2.2.1,y87.2.2.2.1,y87.2.2.2.2.1,((cT slt) (y87.2.2.2.2.2.2.2,y87.1,y87.2.1,y87.2.2.2.2.2.2.1)).2),⟨((h100).symm.trans (bB (gl aB (((cT slt) (y87.2.2.2.2.2.2.2,y87.1,y87.2.1,y87.2.2.2.2.2.2.1)).2)) (rS aB))),⟨rfl,⟨rfl,⟨rfl,⟨rfl,⟨rfl,slQ (rS aB) (hk)⟩⟩⟩⟩⟩⟩⟩)⟩)⟩⟩⟩⟩⟩⟩) (fun h98 k106=>⟨(y87.1,y87.2.1,y87.2.2.1,y87.2.2.2.2.2.1,y87.2.2.2.2.2.2.1,y87.2.2.2.2.2.2.2),⟨(bB (gl aB y87.2.2.2.2.2.2.2) (rS aB)),⟨rfl,⟨rfl,⟨rfl,⟨rfl,⟨rfl,slQ (rS aB) (k106)⟩⟩⟩⟩⟩⟩⟩)⟩⟩⟩⟩⟩)⟩))) (fun h92 k115=>⟨(y87.1,y87.2.1,y87.2.2.1,y87.2.2.2.2.2.1,y87.2.2.2.2.2.2.1,y87.2.2.2.2.2.2.2),⟨(bB (gl aB y87.2.2.2.2.2.2.2) (rS aB)),⟨rfl,⟨rfl,⟨rfl,⟨rfl,⟨rfl,slQ (rS aB) (k115)⟩⟩⟩⟩⟩⟩⟩),fun y116 h117=>⟨rfl,⟨(y116.2.2.2.2.2,y116.1,y116.2.1,y116.2.2.2.2.1),⟨(bB (gl aB y116.2.2.2.2.2) (rS aB)),⟨rfl,⟨rfl,⟨rfl,slQ (rS aB) (⟨(h118.2 y116 h117).1,jX ((h118.2 y116 h117).2) (fun (h120:(List.length (((aS slt) (y116.2.2.2.2.2,y116.1,y116.2.1,y116.2.2.2.2.1)).2.2))=y116.2.2.2.2.2.length) hk=>wrapK.i64 hk (fun h149 h150 k151=>wrapK.i64 k151 (fun h146 h147 k148=>divK.i64 k148.1 k148.2.1 (by decide) (br k148.2.2 Cnd.dec (fun h124 k144=>⟨(h120).symm,⟨(((aS slt) (y116.2.2.2.2.2,y116.1,y116.2.1,y116.2.2.2.2.1)).2.2,y116.1,((aS slt) (y116.2.2.2.2.2,y116.1,y116.2.1,y116.2.2.2.2.1)).1,y116.2.2.1),⟨((h120).symm.trans (bB (gl aB (((aS slt) (y116.2.2.2.2.2,y116.1,y116.2.1,y116.2.2.2.2.1)).2.2)) (rS aB))),⟨rfl,⟨rfl,⟨rfl,slQ (rS aB) (⟨k144.1,jX k144.2 (fun (h127:(List.length ((eE slt) (((aS slt) (y116.2.2.2.2.2,y116.1,y116.2.1,y116.2.2.2.2.1)).2.2,y116.1,((aS slt) (y116.2.2.2.2.2,y116.1,y116.2.1,y116.2.2.2.2.1)).1,y116.2.2.1)))=y116.2.2.2.2.2.length) hk=>wrapK.i64 hk (fun h131 h132 k133=>⟨(((((aS slt) (y116.2.2.2.2.2,y116.1,y116.2.1,y116.2.2.2.2.1)).1)+(1:Int)),y116.2.1,y116.2.2.1,decide ((y116.2.2.2.1 / (8:Int))≤((((aS slt) (y116.2.2.2.2.2,y116.1,y116.2.1,y116.2.2.2.2.1)).1) - y116.1)),((aS slt) (y116.2.2.2.2.2,y116.1,y116.2.1,y116.2.2.2.2.1)).2.1,((eE slt) (((aS slt) (y116.2.2.2.2.2,y116.1,y116.2.1,y116.2.2.2.2.1)).2.2,y116.1,((aS slt) (y116.2.2.2.2.2,y116.1,y116.2.1,y116.2.2.2.2.1)).1,y116.2.2.1))),⟨((h127).symm.trans (bB (gl aB ((eE slt) (((aS slt) (y116.2.2.2.2.2,y116.1,y116.2.1,y116.2.2.2.2.1)).2.2,y116.1,((aS slt) (y116.2.2.2.2.2,y116.1,y116.2.1,y116.2.2.2.2.1)).1,y116.2.2.1))) (rS aB))),⟨rfl,⟨rfl,⟨rfl,⟨rfl,⟨rfl,slQ (rS aB) (k133)⟩⟩⟩⟩⟩⟩⟩))⟩)⟩⟩⟩⟩⟩⟩) (fun h125 k145=>wrapK.i64 k145 (fun h141 h142 k143=>⟨(h120).symm,⟨(((aS slt) (y116.2.2.2.2.2,y116.1,y116.2.1,y116.2.2.2.2.1)).2.2,((((aS slt) (y116.2.2.2.2.2,y116.1,y116.2.1,y116.2.2.2.2.1)).1)+(1:Int)),y116.2.1,y116.2.2.1),⟨((h120).symm.trans (bB (gl aB (((aS slt) (y116.2.2.2.2.2,y116.1,y116.2.1,y116.2.2.2.2.1)).2.2)) (rS aB))),⟨rfl,⟨rfl,⟨rfl,slQ (rS aB) (⟨k143.1,jX k143.2 (fun (h137:(List.length ((eE slt) (((aS slt) (y116.2.2.2.2.2,y116.1,y116.2.1,y116.2.2.2.2.1)).2.2,((((aS slt) (y116.2.2.2.2.2,y116.1,y116.2.1,y116.2.2.2.2.1)).1)+(1:Int)),y116.2.1,y116.2.2.1)))=y116.2.2.2.2.2.length) hk=>⟨(y116.1,((aS slt) (y116.2.2.2.2.2,y116.1,y116.2.1,y116.2.2.2.2.1)).1,y116.2.2.1,decide ((y116.2.2.2.1 / (8:Int))≤(y116.2.1 - (((aS slt) (y116.2.2.2.2.2,y116.1,y116.2.1,y116.2.2.2.2.1)).1))),((aS slt) (y116.2.2.2.2.2,y116.1,y116.2.1,y116.2.2.2.2.1)).2.1,((eE slt) (((aS slt) (y116.2.2.2.2.2,y116.1,y116.2.1,y116.2.2.2.2.1)).2.2,((((aS slt) (y116.2.2.2.2.2,y116.1,y116.2.1,y116.2.2.2.2.1)).1)+(1:Int)),y116.2.1,y116.2.2.1))),⟨((h137).symm.trans (bB (gl aB ((eE slt) (((aS slt) (y116.2.2.2.2.2,y116.1,y116.2.1,y116.2.2.2.2.1)).2.2,((((aS slt) (y116.2.2.2.2.2,y116.1,y116.2.1,y116.2.2.2.2.1)).1)+(1:Int)),y116.2.1,y116.2.2.1))) (rS aB))),⟨rfl,⟨rfl,⟨rfl,⟨rfl,⟨rfl,slQ (rS aB) (hk)⟩⟩⟩⟩⟩⟩⟩)⟩)⟩⟩⟩⟩⟩⟩))))))⟩)⟩⟩⟩⟩⟩⟩⟩)⟩)⟩))⟩)⟩⟩⟩⟩⟩⟩))))⟩))
theorem f193.eq (a:(List (ByteArray))×Int×Int×Int) (n:Nat):(f193.af a).gives (f193.env n) (f193.args a) (f193.blks a) (f193.res a) (f193.blks' a)=f193.tree a n:=by kernel_rfl
theorem aAC:Sort.SWO slt:=by
 refine ⟨fun x=>j8 _,fun x y z h1 h2=>jK h1 h2,fun x y z h1 h2=>?_⟩
 cases hh:slt x z with
 | false=>rfl
 | true =>
  rcases rI x.toList y.toList with c | c | c
  ·have c:slt x y=true:=c
   rw [h1] at c
   cases c
  ·have e:slt y z=slt x z:=by
    unfold slt
    rw [c]
   rw [h2,hh] at e
   cases e
  ·have:slt y z=true:=jK (x:=y.toList) c hh
   rw [h2] at this
   cases this
theorem aLV (x y:ByteArray) (h1:slt x y=false) (h2:slt y x=false):x=y:=by
 rcases rI x.toList y.toList with c | c | c
 ·have c:slt x y=true:=c
  rw [h1] at c
  cases c
 ·exact toList_inj.1 c
 ·have c:slt y x=true:=c
  rw [h2] at c
  cases c
theorem zR {h:Sort.Hint}:aCT h=2↔h=.decreasing:=by cases h <;> decide
theorem s7 {h:Sort.Hint}:aCT h=1↔h=.increasing:=by cases h <;> decide
set_option maxHeartbeats 4000000 in
theorem f193.ok (a:List ByteArray×Int×Int×Int) (h:qM a) (n:Nat) (hn:aFK a < n+1):f193.vc a n:=by
 obtain ⟨l,a0,b0,lim0⟩:=a
 obtain ⟨h1,h2,h3,h4,h5,h6⟩:=h
 simp only at h1 h2 h3 h4 h5 h6
 have hn:(b0 - a0).toNat < n+1:=hn
 generalize hX:Sort.pdq slt l.toArray a0.toNat b0.toNat lim0.toNat true true=X
 have res:∀ c:List ByteArray,c.toArray=X→c=eE slt (l,a0,b0,lim0):=fun c e=>by
  unfold eE
  simp only
  rw [hX,← e]
 refine ⟨fun y=>0≤y.1∧y.1≤y.2.1∧y.2.1≤l.length∧y.2.1 - y.1≤b0 - a0∧0≤y.2.2.1∧y.2.2.1≤1048576∧y.2.2.2.2.2.length=l.length∧Sort.pdq slt y.2.2.2.2.2.toArray y.1.toNat y.2.1.toNat y.2.2.1.toNat y.2.2.2.1 y.2.2.2.2.1=X,fun y=>(y.2.1 - y.1).toNat,⟨h1,h2,h3,Int.le_refl _,h5,h6,rfl,hX⟩,fun y hy=>?_⟩
 obtain ⟨a,b,lim,wb,wp,c⟩:=y
 obtain ⟨g1,g2,g3,g4,g5,g6,g7,g8⟩:=hy
 simp only at g1 g2 g3 g4 g5 g6 g7 g8 ⊢
 rw [p5] at g8
 refine ⟨by omega,by omega,fun h12=>?_,fun h12=>⟨fun hl=>?_,fun hl=>?_⟩⟩
 ·rw [if_pos (by omega)] at g8
  refine ⟨⟨g1,g2,by simp only; omega,by simp only; omega⟩,?_,?_⟩
  ·unfold t7
   rw [Array.length_toList,aJE slt aAC _ (by simp only; omega) (by simp only [List.size_toArray]; omega),List.size_toArray]
  ·exact res _ (by unfold t7; exact g8)
 ·rw [if_neg (by omega),if_pos (by omega)] at g8
  refine ⟨⟨⟨g1,g2,by simp only; omega,by simp only; omega⟩,by simp only; omega⟩,?_,?_⟩
  ·unfold mK
   rw [Array.length_toList,aH5 slt aAC _ (by simp only; omega) (by simp only [List.size_toArray]; omega),List.size_toArray]
  ·exact res _ (by unfold mK; exact g8)
 ·rw [if_neg (by omega),if_neg (by omega)] at g8
  refine ⟨fun z=>z.1=a∧z.2.1=b∧0≤z.2.2.1∧z.2.2.1≤1048576∧z.2.2.2.2.2.1=b - a∧z.2.2.2.2.2.2.length=l.length∧aDJ slt z.2.2.2.2.2.2.toArray a.toNat b.toNat z.2.2.1.toNat z.2.2.2.1 z.2.2.2.2.1=X,⟨fun hw=>?_,fun hw=>?_⟩,fun z hz=>?_⟩
  ·rw [if_neg hw] at g8
   have hs:(eJ (c,a,b)).length=c.length:=by
    unfold eJ
    rw [Array.length_toList,pT,List.size_toArray]
   refine ⟨⟨g1,g2,by simp only; omega,by simp only; omega⟩,hs,by omega,by omega,rfl,rfl,by simp only; omega,by simp only; omega,rfl,hs.trans g7,?_⟩
   simp only
   rw [show (lim - 1).toNat=lim.toNat - 1 from by omega]
   exact g8
  ·rw [if_pos (Classical.not_not.1 hw)] at g8
   exact ⟨rfl,rfl,g5,g6,rfl,g7,g8⟩
  ·obtain ⟨a',b',lim',wb',wp',len,c1⟩:=z
   obtain ⟨z1,z2,z3,z4,z5,z6,z7⟩:=hz
   simp only at z1 z2 z3 z4 z5 z6 z7 ⊢
   subst z1; subst z2; subst z5
   have hcr:=Sort.choosePivot_holds slt c1.toArray a'.toNat b'.toNat (by omega)
   have hcp:aV slt (c1,a',b')=(((Sort.choosePivot slt c1.toArray a'.toNat b'.toNat).1:Int),aCT (Sort.choosePivot slt c1.toArray a'.toNat b'.toNat).2,c1):=rfl
   rw [hcp]
   simp only
   unfold aDJ at z7
   generalize Sort.choosePivot slt c1.toArray a'.toNat b'.toNat=ch at hcr z7 ⊢
   refine ⟨⟨⟨g1,g2,by simp only; omega,by simp only; omega⟩,by simp only; omega⟩,by trivial,fun z=>z.1=a'∧z.2.1=b'∧z.2.2.1=lim'∧z.2.2.2.2.2.1=b' - a'∧a'≤z.2.2.2.2.2.2.1∧z.2.2.2.2.2.2.1 < b'∧z.2.2.2.2.2.2.2.2.length=l.length∧∃ hh:Sort.Hint,z.2.2.2.2.2.2.2.1=aCT hh∧aDF slt z.2.2.2.2.2.2.2.2.toArray a'.toNat b'.toNat lim'.toNat z.2.2.2.1 z.2.2.2.2.1 z.2.2.2.2.2.2.1.toNat hh=X,⟨fun hd=>?_,fun hd=>?_⟩,fun z hz=>?_⟩
   ·rw [if_pos (zR.1 hd)] at z7
    have hs:(rC (c1,a',b')).length=c1.length:=by
     unfold rC
     rw [Array.length_toList,xB,List.size_toArray]
    refine ⟨⟨g1,g2,by simp only; omega,by simp only; omega⟩,hs,by omega,by omega,by omega,by omega,by omega,by omega,rfl,rfl,rfl,rfl,by simp only; omega,by simp only; omega,hs.trans z6,.increasing,rfl,?_⟩
    simp only
    rw [show (b' - 1 - ((ch.1:Int) - a')).toNat=b'.toNat - 1 - (ch.1 - a'.toNat) from by omega]
    exact z7
   ·rw [if_neg (fun hh=>hd (zR.2 hh))] at z7
    exact ⟨rfl,rfl,rfl,rfl,by simp only; omega,by simp only; omega,z6,ch.2,rfl,z7⟩
   ·obtain ⟨a2,b2,lim2,wb2,wp2,len2,pv,hi,c2⟩:=z
    obtain ⟨u1,u2,u3,u4,u5,u6,u7,hh,u8,u9⟩:=hz
    simp only at u1 u2 u3 u4 u5 u6 u7 u8 u9 ⊢
    subst u1; subst u2; subst u3; subst u4; subst u8
    unfold aDF at u9
    have hps:((bI slt (c2,a2,b2)).2).length=c2.length:=by
     unfold bI
     simp only
     rw [Array.length_toList,p7,List.size_toArray]
    refine ⟨fun z=>z.1=a2∧z.2.1=b2∧z.2.2.1=lim2∧z.2.2.2.2.2.1=b2 - a2∧z.2.2.2.2.2.2.1=pv∧z.2.2.2.2.2.2.2.length=l.length∧aF7 slt z.2.2.2.2.2.2.2.toArray a2.toNat b2.toNat lim2.toNat z.2.2.2.1 z.2.2.2.2.1 pv.toNat=X,⟨fun hw=>⟨fun hp=>⟨fun hi=>⟨⟨⟨g1,g2,by simp only; omega,by simp only; omega⟩,by simp only; omega⟩,hps,fun ht=>?_,fun ht=>?_⟩,fun hi=>?_⟩,fun hp=>?_⟩,fun hw=>?_⟩,fun z hz=>?_⟩
    ·have ht:(Sort.partialInsertionSort slt c2.toArray a2.toNat b2.toNat).2=true:=ht
     rw [if_pos (by simp [hw,hp,s7.1 hi]),if_pos ht] at u9
     exact res _ u9
    ·have ht:¬(Sort.partialInsertionSort slt c2.toArray a2.toNat b2.toNat).2=true:=ht
     rw [if_pos (by simp [hw,hp,s7.1 hi]),if_neg ht] at u9
     exact ⟨rfl,rfl,rfl,rfl,rfl,hps.trans u7,u9⟩
    ·rw [if_neg (by simp [hw,hp]; exact fun e=>hi (s7.2 e))] at u9
     exact ⟨rfl,rfl,rfl,rfl,rfl,u7,u9⟩
    ·rw [if_neg (by simp [hp])] at u9
     exact ⟨rfl,rfl,rfl,rfl,rfl,u7,u9⟩
    ·rw [if_neg (by simp [hw])] at u9
     exact ⟨rfl,rfl,rfl,rfl,rfl,u7,u9⟩
    ·obtain ⟨a3,b3,lim3,wb3,wp3,len3,pv3,c3⟩:=z
     obtain ⟨v1,v2,v3,v4,v5,v6,v7⟩:=hz
     simp only at v1 v2 v3 v4 v5 v6 v7 ⊢
     subst v1; subst v2; subst v3; subst v4; subst v5
     unfold aF7 at v7
     have x1:a3.toNat - 1=(a3 - 1).toNat:=by omega
     refine ⟨fun z=>z.1=a3∧z.2.1=b3∧z.2.2.1=lim3∧z.2.2.2.1=b3 - a3∧z.2.2.2.2.1=pv3∧z.2.2.2.2.2.length=l.length∧aH4 slt z.2.2.2.2.2.toArray a3.toNat b3.toNat lim3.toNat pv3.toNat=X,⟨fun h0=>⟨by omega,by omega,by omega,by omega,by omega,by omega,fun hl=>?_,fun hl=>?_⟩,fun h0=>?_⟩,fun z hz=>?_⟩
     ·have hl:=stN hl
      rw [← d7,← x1] at hl
      rw [if_pos (by rw [hl,decide_eq_true (show a3.toNat > 0 by omega)]; rfl)] at v7
      obtain ⟨q1,q2,q3⟩:=qU slt (d:=c3.toArray) (a:=a3.toNat) (b:=b3.toNat) (pv:=pv3.toNat) (by omega) (by omega) (by simp only [List.size_toArray]; omega)
      have hpe:cT slt (c3,a3,b3,pv3)=(((Sort.partitionEqual slt c3.toArray a3.toNat b3.toNat pv3.toNat).1:Int),(Sort.partitionEqual slt c3.toArray a3.toNat b3.toNat pv3.toNat).2.toList):=rfl
      rw [hpe]
      simp only
      generalize Sort.partitionEqual slt c3.toArray a3.toNat b3.toNat pv3.toNat=r at q1 q2 q3 v7 ⊢
      obtain ⟨mid,d4⟩:=r
      simp only at q1 q2 q3 v7 ⊢
      rw [if_pos ⟨q1,q2⟩] at v7
      have q3:d4.size=c3.length:=q3
      exact ⟨⟨g1,u5,u6,by simp only; omega,by simp only; omega⟩,q3,⟨by omega,by omega,g3,by omega,z3,z4,q3.trans v6,by simp only [Int.toNat_natCast]; exact v7⟩,by omega⟩
     ·have hl:=stY (Classical.not_not.1 hl)
      rw [← d7,← x1] at hl
      rw [if_neg (by rw [hl]; simp)] at v7
      exact ⟨rfl,rfl,rfl,rfl,rfl,v6,v7⟩
     ·rw [if_neg (by simp; omega)] at v7
      exact ⟨rfl,rfl,rfl,rfl,rfl,v6,v7⟩
     ·obtain ⟨a4,b4,lim4,len4,pv4,c4⟩:=z
      obtain ⟨w1,w2,w3,w4,w5,w6,w7⟩:=hz
      simp only at w1 w2 w3 w4 w5 w6 w7 ⊢
      subst w1; subst w2; subst w3; subst w4; subst w5
      unfold aH4 at w7
      obtain ⟨q1,q2,q3⟩:=xQ slt (d:=c4.toArray) (a:=a4.toNat) (b:=b4.toNat) (pv:=pv4.toNat) (by omega) (by omega) (by simp only [List.size_toArray]; omega)
      have hpp:aS slt (c4,a4,b4,pv4)=(((Sort.partition slt c4.toArray a4.toNat b4.toNat pv4.toNat).1:Int),(Sort.partition slt c4.toArray a4.toNat b4.toNat pv4.toNat).2.1,(Sort.partition slt c4.toArray a4.toNat b4.toNat pv4.toNat).2.2.toList):=rfl
      rw [hpp]
      simp only
      generalize Sort.partition slt c4.toArray a4.toNat b4.toNat pv4.toNat=r at q1 q2 q3 w7 ⊢
      obtain ⟨mid,ap,d4⟩:=r
      simp only at q1 q2 q3 w7 ⊢
      rw [if_pos ⟨q1,q2⟩] at w7
      have q3:d4.size=c4.length:=q3
      have hd4:d4.toList.length=l.length:=q3.trans w6
      have psz:∀ x y:Int,0≤x→x≤y→y≤l.length→(eE slt (d4.toList,x,y,lim4)).length=c4.length:=fun x y e1 e2 e3=>by
       unfold eE
       rw [Array.length_toList]
       simp only [Array.toArray_toList]
       rw [jO slt aAC _ _ _ _ _ _ _ (Nat.le_refl _) (by omega) (by rw [q3]; omega),q3]
      refine ⟨⟨g1,u5,u6,by simp only; omega,by simp only; omega⟩,q3,by omega,by omega,by omega,by omega,by omega,by omega,fun hlt=>?_,fun hlt=>?_⟩
      ·rw [if_pos (by omega)] at w7
       refine ⟨⟨⟨g1,by simp only; omega,by simp only; omega,by simp only; omega,z3,z4⟩,?_⟩,psz _ _ g1 (by omega) (by omega),by omega,by omega,⟨by omega,by omega,g3,by omega,z3,z4,?_,?_⟩,by omega⟩
       ·show ((mid:Int) - a4).toNat < n
        omega
       ·rw [psz _ _ g1 (by omega) (by omega)]
        exact w6
       ·rw [show ((mid:Int)+1).toNat=mid+1 from by omega,show decide ((b4 - a4) / 8≤(mid:Int) - a4)=decide (mid - a4.toNat ≥ (b4.toNat - a4.toNat) / 8) from decide_eq_decide.2 (by omega)]
        unfold eE
        simp only [Array.toArray_toList,Int.toNat_natCast]
        exact w7
      ·rw [if_neg (by omega)] at w7
       refine ⟨by omega,by omega,⟨⟨by simp only; omega,by simp only; omega,by simp only; omega,by simp only; omega,z3,z4⟩,?_⟩,psz _ _ (by omega) (by omega) g3,⟨g1,by omega,by omega,by omega,z3,z4,?_,?_⟩,by omega⟩
       ·show (b4 - ((mid:Int)+1)).toNat < n
        omega
       ·rw [psz _ _ (by omega) (by omega) g3]
        exact w6
       ·rw [show decide ((b4 - a4) / 8≤b4 - (mid:Int))=decide (b4.toNat - mid ≥ (b4.toNat - a4.toNat) / 8) from decide_eq_decide.2 (by omega)]
        unfold eE
        simp only [Array.toArray_toList,Int.toNat_natCast]
        rw [show ((mid:Int)+1).toNat=mid+1 from by omega]
        exact w7
theorem f167.ok (a:List ByteArray) (h:qZ a):f167.vc a:=by
 have h:a.length≤1048576:=h
 have hb:eS a.length≤21:=(Sort.bitsLen_le_iff a.length 21).2 (by omega)
 have e:cR (a.length:Int)=(eS a.length:Int):=rfl
 refine ⟨by omega,by omega,⟨by omega,by omega⟩,⟨Int.le_refl _,by simp only; omega,by simp only; omega,h,by simp only; omega,by simp only; omega⟩,?_,?_⟩
 ·unfold eE
  rw [Array.length_toList]
  simp only [Int.toNat_natCast]
  rw [jO slt aAC _ _ _ _ _ _ _ (Nat.le_refl _) (by simp) (by simp),List.size_toArray]
 ·unfold eE eB Sort.sort
  rw [e]
  simp only [Int.toNat_natCast,List.size_toArray]
  rfl
end Go.Abs
