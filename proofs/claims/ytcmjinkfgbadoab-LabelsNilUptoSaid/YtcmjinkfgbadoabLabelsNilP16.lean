/- Functions, and what the code asks of them: PPdqSt. -/
import Derived.KernelRfl
import Derived.Test.YtcmjinkfgbadoabLabelsNilP4
import Derived.Test.YtcmjinkfgbadoabLabelsNilP5
import Derived.Test.YtcmjinkfgbadoabLabelsNilP6
import Derived.Test.YtcmjinkfgbadoabLabelsNilP7
import Derived.Test.YtcmjinkfgbadoabLabelsNilP8
import Derived.Test.YtcmjinkfgbadoabLabelsNilP9
import Derived.Test.YtcmjinkfgbadoabLabelsNilP10
import Derived.Test.YtcmjinkfgbadoabLabelsNilP12
set_option maxRecDepth 100000
set_option maxHeartbeats 4000000
set_option linter.unusedVariables false
set_option linter.unusedSimpArgs false
set_option linter.unusedSectionVars false
namespace Go.Abs
open Go
def b6 (c:ByteArray×ByteArray):Bool:=slt c.1 c.2
def f211.args (a:(List (ByteArray))×Int×Int):List D:=[.msl 0 1 a.1.length,.int .i64 a.2.1,.int .i64 a.2.2]
def f211.blks (a:(List (ByteArray))×Int×Int):List (List D):=[[.dead,.arr false 1 a.1.length (gl aB a.1)]]
def f211.res (a:(List (ByteArray))×Int×Int):List D:=[]
def f211.blks' (a:(List (ByteArray))×Int×Int):List (List D):=[[.dead,.arr false 1 (List.length ((t7 slt) a)) (gl aB ((t7 slt) a))]]
def f211.C:aP:=FnC f211.args f211.blks (fun a=>gN a) f211.res f211.blks'
def f217.args (a:ByteArray×ByteArray):List D:=[.str a.1,.str a.2]
def f217.blks (a:ByteArray×ByteArray):List (List D):=[]
def f217.res (a:ByteArray×ByteArray):List D:=[.bool (b6 a)]
def f217.blks' (a:ByteArray×ByteArray):List (List D):=[]
def f217.C:aP:=FnC f217.args f217.blks (fun _=>True) f217.res f217.blks'
set_option linter.unusedVariables false
def f211.S0 (a:(List (ByteArray))×Int×Int) (x:Int×(List (ByteArray))):Tm:=⟨.msl 0 1 x.2.length::.int .i64 a.2.1::.int .i64 a.2.2::.dead::.dead::.dead::.int .i64 x.1::dd 42 [],[(0,false,[.dead,.arr false 1 x.2.length (gl aB x.2)])],[]⟩
def f211.S1 (a:(List (ByteArray))×Int×Int) (x:Int×Int×(List (ByteArray))):Tm:=⟨.msl 0 1 x.2.2.length::.int .i64 a.2.1::.int .i64 a.2.2::.dead::.dead::.dead::.int .i64 x.1::.int .i64 x.2.1::dd 41 [],[(0,false,[.dead,.arr false 1 x.2.2.length (gl aB x.2.2)])],[]⟩
def f211.kills (a:(List (ByteArray))×Int×Int):List Hint:=[.tell (Int×(List (ByteArray))) (f211.S0 a),
 .tell (Int×Int×(List (ByteArray))) (f211.S1 a)]
def f211.cuts (a:(List (ByteArray))×Int×Int):List (Nat×Σ β:Type,β→Tm):=[(999999,⟨Unit,fun x=>⟨[],[],[]⟩⟩)]
def f211.af (a:(List (ByteArray))×Int×Int):AF:=AF.mk (.seq (.region [mR 8 0 1,
 ⟨(some 9),1000001,(.bin .add),[.t 8,.c (.int .i64 (1))],none⟩,
 mR 6 2 9])
 (.block 0 (.loopT (Int×(List (ByteArray))) (f211.S0 a) 1000003 1000050 (.seq (.seq (.region [mR 10 3 6,
 mR 11 4 2,
 oR 12 5 (.bin .lss) [10,11]])
 (.cond (.t 12) (.skip) (.exit 0)))
 (.seq (.block 1 (.seq (.region [mR 15 6 6,
 mR 7 7 15])
 (.block 2 (.loopT (Int×Int×(List (ByteArray))) (f211.S1 a) 1000008 1000047 (.seq (.seq (.region [mR 16 8 7,
 mR 17 9 1,
 oR 18 10 (.bin .gtr) [16,17],
 mR 19 11 18,
 oG 20 1000012 .move [0] 19 true,
 oG 21 1000013 .move [7] 19 true,
 oG 22 1000014 (.indexAddr 1 none) [20,21] 19 true,
 oG 23 1000015 (.load false 1) [22] 19 true,
 oG 24 1000016 .move [0] 19 true,
 oG 25 1000017 .move [7] 19 true,
 ⟨(some 26),1000018,(.bin .sub),[.t 25,.c (.int .i64 (1))],(some (19,true))⟩,
 oG 27 1000019 (.indexAddr 1 none) [24,26] 19 true,
 oG 28 1000020 (.load false 1) [27] 19 true,
 oG 29 1000021 (.call false 217) [23,28] 19 true,
 ⟨(some 30),1000025,.pick,[.t 19,.t 29,.c (.bool false)],none⟩])
 (.cond (.t 30) (.skip) (.exit 2)))
 (.seq (.block 3 (.region [mR 33 26 0,
 mR 34 27 7,
 mR 35 28 0,
 mR 36 29 7,
 ⟨(some 37),1000030,(.bin .sub),[.t 36,.c (.int .i64 (1))],none⟩,
 mR 38 31 0,
 mR 39 32 7,
 ⟨(some 40),1000033,(.bin .sub),[.t 39,.c (.int .i64 (1))],none⟩,
 oR 41 34 (.indexAddr 1 none) [38,40],
 oR 42 35 (.load false 1) [41],
 mR 43 36 0,
 mR 44 37 7,
 oR 45 38 (.indexAddr 1 none) [43,44],
 oR 46 39 (.load false 1) [45],
 oR 47 40 (.indexAddr 1 none) [33,34],
 ⟨none,1000041,(.store 1),[.t 47,.t 42],none⟩,
 oR 48 42 (.indexAddr 1 none) [35,37],
 ⟨none,1000043,(.store 1),[.t 48,.t 46],none⟩]))
 (.region [mR 31 44 7,
 ⟨(some 32),1000045,(.bin .sub),[.t 31,.c (.int .i64 (1))],none⟩,
 mR 7 46 32])))))))
 (.region [mR 13 47 6,
 ⟨(some 14),1000048,(.bin .add),[.t 13,.c (.int .i64 (1))],none⟩,
 mR 6 49 14]))))))
 [] 1 46
def f211.env:Env:=[(217,f217.C)]
def f211.tree (a:(List (ByteArray))×Int×Int):Prop:=Let (wI (a.2.1+(1:Int))) (fun v1:Int=>∃ (I3:(Int×(List (ByteArray)))→Prop) (μ4:(Int×(List (ByteArray)))→Nat),(∃ x2:Int×(List (ByteArray)),(a.1.length=x2.2.length)∧(a.2.1=a.2.1)∧(a.2.2=a.2.2)∧(v1=x2.1)∧SlQ a.1.length x2.2.length (gl aB a.1) (gl aB x2.2) (I3 x2))∧∀ y5:Int×(List (ByteArray)),I3 y5→(Br (decide (y5.1 < a.2.2)) (∃ (I9:(Int×Int×(List (ByteArray)))→Prop) (μ10:(Int×Int×(List (ByteArray)))→Nat),(∃ x8:Int×Int×(List (ByteArray)),(y5.2.length=x8.2.2.length)∧(a.2.1=a.2.1)∧(a.2.2=a.2.2)∧(y5.1=x8.1)∧(y5.1=x8.2.1)∧SlQ y5.2.length x8.2.2.length (gl aB y5.2) (gl aB x8.2.2) (I9 x8))∧∀ y11:Int×Int×(List (ByteArray)),I9 y11→(Br (decide (a.2.1 < y11.2.1)) (Br (decide ((0:Int)≤y11.2.1)&&decide (y11.2.1 < (List.length y11.2.2:Int))) ((y11.2.2.length=y11.2.2.length)∧(Let (wI (y11.2.1 - (1:Int))) (fun v15:Int=>Br (decide ((0:Int)≤v15)&&decide (v15 < (List.length y11.2.2:Int))) ((y11.2.2.length=y11.2.2.length)∧(∃ c17:ByteArray×ByteArray,((at_ y11.2.2 y11.2.1)=c17.1)∧((at_ y11.2.2 v15)=c17.2)∧True∧Br (b6 c17) (Let (wI (y11.2.1 - (1:Int))) (fun v20:Int=>Let (wI (y11.2.1 - (1:Int))) (fun v21:Int=>Br (decide ((0:Int)≤v21)&&decide (v21 < (List.length y11.2.2:Int))) ((y11.2.2.length=y11.2.2.length)∧(Br (decide ((0:Int)≤y11.2.1)&&decide (y11.2.1 < (List.length y11.2.2:Int))) ((y11.2.2.length=y11.2.2.length)∧(Br (decide ((0:Int)≤y11.2.1)&&decide (y11.2.1 < (List.length y11.2.2:Int))) ((y11.2.2.length=y11.2.2.length)∧(Br (decide ((0:Int)≤v20)&&decide (v20 < (List.length y11.2.2:Int))) ((y11.2.2.length=y11.2.2.length)∧(Let (wI (y11.2.1 - (1:Int))) (fun v26:Int=>∃ x27:Int×Int×(List (ByteArray)),(y11.2.2.length=x27.2.2.length)∧(a.2.1=a.2.1)∧(a.2.2=a.2.2)∧(y11.1=x27.1)∧(v26=x27.2.1)∧SlQ y11.2.2.length x27.2.2.length (gset (gset (gl aB y11.2.2) (Int.toNat y11.2.1) [.str (at_ y11.2.2 v21)]) (Int.toNat v20) [.str (at_ y11.2.2 y11.2.1)]) (gl aB x27.2.2) (I9 x27∧μ10 x27 < μ10 y11)))) False)) False)) False)) False))) (Let (wI (y11.1+(1:Int))) (fun v42:Int=>∃ x43:Int×(List (ByteArray)),(y11.2.2.length=x43.2.length)∧(a.2.1=a.2.1)∧(a.2.2=a.2.2)∧(v42=x43.1)∧SlQ y11.2.2.length x43.2.length (gl aB y11.2.2) (gl aB x43.2) (I3 x43∧μ4 x43 < μ4 y5))))) False))) False) (Let (wI (y11.1+(1:Int))) (fun v56:Int=>∃ x57:Int×(List (ByteArray)),(y11.2.2.length=x57.2.length)∧(a.2.1=a.2.1)∧(a.2.2=a.2.2)∧(v56=x57.1)∧SlQ y11.2.2.length x57.2.length (gl aB y11.2.2) (gl aB x57.2) (I3 x57∧μ4 x57 < μ4 y5))))) (SlQ y5.2.length (List.length ((t7 slt) a)) (gl aB y5.2) (gl aB ((t7 slt) a)) (True))))
def f211.vc (a:(List (ByteArray))×Int×Int):Prop:=(-9223372036854775808≤(a.2.1+(1:Int))∧(a.2.1+(1:Int))≤9223372036854775807∧(∃ (I3:(Int×(List (ByteArray)))→Prop) (μ4:(Int×(List (ByteArray)))→Nat),I3 ((a.2.1+(1:Int)),a.1)∧∀ y5:Int×(List (ByteArray)),I3 y5→((y5.1 < a.2.2→(∃ (I9:(Int×Int×(List (ByteArray)))→Prop) (μ10:(Int×Int×(List (ByteArray)))→Nat),I9 (y5.1,y5.1,y5.2)∧∀ y11:Int×Int×(List (ByteArray)),I9 y11→((a.2.1 < y11.2.1→((0:Int)≤y11.2.1∧y11.2.1 < (List.length y11.2.2:Int)∧(-9223372036854775808≤(y11.2.1 - (1:Int))∧(y11.2.1 - (1:Int))≤9223372036854775807∧((0:Int)≤(y11.2.1 - (1:Int))∧(y11.2.1 - (1:Int)) < (List.length y11.2.2:Int)∧(((b6 (at_ y11.2.2 y11.2.1,at_ y11.2.2 (y11.2.1 - (1:Int))))=true→(-9223372036854775808≤(y11.2.1 - (1:Int))∧(y11.2.1 - (1:Int))≤9223372036854775807∧(-9223372036854775808≤(y11.2.1 - (1:Int))∧(y11.2.1 - (1:Int))≤9223372036854775807∧((0:Int)≤(y11.2.1 - (1:Int))∧(y11.2.1 - (1:Int)) < (List.length y11.2.2:Int)∧((0:Int)≤y11.2.1∧y11.2.1 < (List.length y11.2.2:Int)∧((0:Int)≤y11.2.1∧y11.2.1 < (List.length y11.2.2:Int)∧((0:Int)≤(y11.2.1 - (1:Int))∧(y11.2.1 - (1:Int)) < (List.length y11.2.2:Int)∧(-9223372036854775808≤(y11.2.1 - (1:Int))∧(y11.2.1 - (1:Int))≤9223372036854775807∧(I9 (y11.1,(y11.2.1 - (1:Int)),List.set (List.set y11.2.2 (Int.toNat y11.2.1) (at_ y11.2.2 (y11.2.1 - (1:Int)))) (Int.toNat (y11.2.1 - (1:Int))) (at_ y11.2.2 y11.2.1))∧μ10 (y11.1,(y11.2.1 - (1:Int)),List.set (List.set y11.2.2 (Int.toNat y11.2.1) (at_ y11.2.2 (y11.2.1 - (1:Int)))) (Int.toNat (y11.2.1 - (1:Int))) (at_ y11.2.2 y11.2.1)) < μ10 y11)))))))))∧(¬((b6 (at_ y11.2.2 y11.2.1,at_ y11.2.2 (y11.2.1 - (1:Int))))=true)→(-9223372036854775808≤(y11.1+(1:Int))∧(y11.1+(1:Int))≤9223372036854775807∧(I3 ((y11.1+(1:Int)),y11.2.2)∧μ4 ((y11.1+(1:Int)),y11.2.2) < μ4 y5))))))))∧(¬(a.2.1 < y11.2.1)→(-9223372036854775808≤(y11.1+(1:Int))∧(y11.1+(1:Int))≤9223372036854775807∧(I3 ((y11.1+(1:Int)),y11.2.2)∧μ4 ((y11.1+(1:Int)),y11.2.2) < μ4 y5))))))∧(¬(y5.1 < a.2.2)→(y5.2=(t7 slt) a)))))
theorem f211.of (a:(List (ByteArray))×Int×Int) (h:f211.vc a):f211.tree a:=wrapK.i64 h (fun h73 h74 k75=>Exists.elim k75 (fun I3 h70_=>Exists.elim h70_ (fun μ4 h70=>⟨I3,μ4,⟨((a.2.1+(1:Int)),a.1),⟨(bB (gl aB a.1) (rS aB)),⟨rfl,⟨rfl,⟨rfl,slQ (rS aB) (h70.1)⟩⟩⟩⟩⟩,fun y5 h72=>br (h70.2 y5 h72) Cnd.dec (fun h6 k68=>Exists.elim k68 (fun I9 h64_=>Exists.elim h64_ (fun μ10 h64=>⟨I9,μ10,⟨(y5.1,y5.1,y5.2),⟨(bB (gl aB y5.2) (rS aB)),⟨rfl,⟨rfl,⟨rfl,⟨rfl,slQ (rS aB) (h64.1)⟩⟩⟩⟩⟩⟩,fun y11 h66=>br (h64.2 y11 h66) Cnd.dec (fun h12 k62=>chk k62.2.2 Cnd.ix ⟨k62.1,k62.2.1⟩ (fun h14 k55=>⟨rfl,wrapK.i64 k55 (fun h52 h53 k54=>chk k54.2.2 Cnd.ix ⟨k54.1,k54.2.1⟩ (fun h16 k51=>⟨rfl,⟨(at_ y11.2.2 y11.2.1,at_ y11.2.2 (y11.2.1 - (1:Int))),⟨rfl,⟨rfl,⟨trivial,br k51 Cnd.b (fun h18 k48=>wrapK.i64 k48 (fun h39 h40 k41=>wrapK.i64 k41 (fun h36 h37 k38=>chk k38.2.2 Cnd.ix ⟨k38.1,k38.2.1⟩ (fun h22 k35=>⟨rfl,chk k35.2.2 Cnd.ix ⟨k35.1,k35.2.1⟩ (fun h23 k34=>⟨rfl,chk k34.2.2 Cnd.ix ⟨k34.1,k34.2.1⟩ (fun h24 k33=>⟨rfl,chk k33.2.2 Cnd.ix ⟨k33.1,k33.2.1⟩ (fun h25 k32=>⟨rfl,wrapK.i64 k32 (fun h29 h30 k31=>⟨(y11.1,(y11.2.1 - (1:Int)),List.set (List.set y11.2.2 (Int.toNat y11.2.1) (at_ y11.2.2 (y11.2.1 - (1:Int)))) (Int.toNat (y11.2.1 - (1:Int))) (at_ y11.2.2 y11.2.1)),⟨(bB (gset (gset (gl aB y11.2.2) (Int.toNat y11.2.1) [.str (at_ y11.2.2 (y11.2.1 - (1:Int)))]) (Int.toNat (y11.2.1 - (1:Int))) [.str (at_ y11.2.2 y11.2.1)]) (Rds.gset (enc:=aB) (Rds.gset (enc:=aB) (rS aB) (DEqs.refl _)) (DEqs.refl _))),⟨rfl,⟨rfl,⟨rfl,⟨rfl,slQ (Rds.gset (enc:=aB) (Rds.gset (enc:=aB) (rS aB) (DEqs.refl _)) (DEqs.refl _)) (k31)⟩⟩⟩⟩⟩⟩)⟩)⟩)⟩)⟩)))) (fun h19 k49=>wrapK.i64 k49 (fun h45 h46 k47=>⟨((y11.1+(1:Int)),y11.2.2),⟨(bB (gl aB y11.2.2) (rS aB)),⟨rfl,⟨rfl,⟨rfl,slQ (rS aB) (k47)⟩⟩⟩⟩⟩))⟩⟩⟩⟩⟩))⟩)) (fun h13 k63=>wrapK.i64 k63 (fun h59 h60 k61=>⟨((y11.1+(1:Int)),y11.2.2),⟨(bB (gl aB y11.2.2) (rS aB)),⟨rfl,⟨rfl,⟨rfl,slQ (rS aB) (k61)⟩⟩⟩⟩⟩))⟩))) (fun h7 k69=>slQ (Rds.to (rS aB) k69) (trivial))⟩)))
theorem f211.eq (a:(List (ByteArray))×Int×Int):(f211.af a).gives f211.env (f211.args a) (f211.blks a) (f211.res a) (f211.blks' a)=f211.tree a:=by kernel_rfl
def f212.args (a:(List (ByteArray))×Int×Int):List D:=[.msl 0 1 a.1.length,.int .i64 a.2.1,.int .i64 a.2.2]
def f212.blks (a:(List (ByteArray))×Int×Int):List (List D):=[[.dead,.arr false 1 a.1.length (gl aB a.1)]]
def f212.res (a:(List (ByteArray))×Int×Int):List D:=[]
def f212.blks' (a:(List (ByteArray))×Int×Int):List (List D):=[[.dead,.arr false 1 (List.length ((mK slt) a)) (gl aB ((mK slt) a))]]
def f212.C:aP:=FnC f212.args f212.blks (fun a=>fS a) f212.res f212.blks'
def f228.args (a:(List (ByteArray))×Int×Int×Int):List D:=[.msl 0 1 a.1.length,.int .i64 a.2.1,.int .i64 a.2.2.1,.int .i64 a.2.2.2]
def f228.blks (a:(List (ByteArray))×Int×Int×Int):List (List D):=[[.dead,.arr false 1 a.1.length (gl aB a.1)]]
def f228.res (a:(List (ByteArray))×Int×Int×Int):List D:=[]
def f228.blks' (a:(List (ByteArray))×Int×Int×Int):List (List D):=[[.dead,.arr false 1 (List.length ((d9 slt) a)) (gl aB ((d9 slt) a))]]
def f228.C:aP:=FnC f228.args f228.blks (fun a=>kS a) f228.res f228.blks'
def f212.S0 (a:(List (ByteArray))×Int×Int) (x:Int×Int×(List (ByteArray))):Tm:=⟨.msl 0 1 x.2.2.length::.dead::.dead::.dead::.dead::.dead::.int .i64 a.2.1::.int .i64 (0:Int)::.int .i64 x.1::.int .i64 x.2.1::dd 46 [],[(0,false,[.dead,.arr false 1 x.2.2.length (gl aB x.2.2)])],[]⟩
def f212.S1 (a:(List (ByteArray))×Int×Int) (x:Int×(List (ByteArray))):Tm:=⟨.msl 0 1 x.2.length::.dead::.dead::.dead::.dead::.dead::.int .i64 a.2.1::.int .i64 (0:Int)::.dead::.dead::.int .i64 x.1::dd 45 [],[(0,false,[.dead,.arr false 1 x.2.length (gl aB x.2)])],[]⟩
def f212.kills (a:(List (ByteArray))×Int×Int):List Hint:=[.tell (Int×Int×(List (ByteArray))) (f212.S0 a),
 .tell (Int×(List (ByteArray))) (f212.S1 a)]
def f212.cuts (a:(List (ByteArray))×Int×Int):List (Nat×Σ β:Type,β→Tm):=[(999999,⟨Unit,fun x=>⟨[],[],[]⟩⟩)]
def f212.af (a:(List (ByteArray))×Int×Int):AF:=AF.mk (.seq (.region [mR 11 0 1,
 mR 6 1 11])
 (.seq (.region [⟨(some 7),1000002,.move,[.c (.int .i64 (0))],none⟩])
 (.seq (.region [mR 12 3 2,
 mR 13 4 1,
 oR 14 5 (.bin .sub) [12,13],
 mR 8 6 14])
 (.seq (.seq (.region [mR 15 7 8,
 ⟨(some 16),1000008,(.bin .sub),[.t 15,.c (.int .i64 (1))],none⟩,
 ⟨(some 17),1000009,(.bin .quo),[.t 16,.c (.int .i64 (2))],none⟩,
 mR 9 10 17])
 (.block 0 (.loopT (Int×Int×(List (ByteArray))) (f212.S0 a) 1000011 1000024 (.seq (.seq (.region [mR 18 11 9,
 ⟨(some 19),1000012,(.bin .geq),[.t 18,.c (.int .i64 (0))],none⟩])
 (.cond (.t 19) (.skip) (.exit 0)))
 (.seq (.block 1 (.region [mR 22 13 0,
 mR 23 14 9,
 mR 24 15 8,
 mR 25 16 6,
 oR 26 17 (.call true 228) [22,23,24,25]]))
 (.region [mR 20 21 9,
 ⟨(some 21),1000022,(.bin .sub),[.t 20,.c (.int .i64 (1))],none⟩,
 mR 9 23 21]))))))
 (.seq (.region [mR 27 24 8,
 ⟨(some 28),1000025,(.bin .sub),[.t 27,.c (.int .i64 (1))],none⟩,
 mR 10 26 28])
 (.block 2 (.loopT (Int×(List (ByteArray))) (f212.S1 a) 1000027 1000060 (.seq (.seq (.region [mR 29 27 10,
 ⟨(some 30),1000028,(.bin .geq),[.t 29,.c (.int .i64 (0))],none⟩])
 (.cond (.t 30) (.skip) (.exit 2)))
 (.seq (.block 3 (.seq (.region [mR 33 29 0,
 mR 34 30 6,
 mR 35 31 0,
 mR 36 32 6,
 mR 37 33 10,
 oR 38 34 (.bin .add) [36,37],
 mR 39 35 0,
 mR 40 36 6,
 mR 41 37 10,
 oR 42 38 (.bin .add) [40,41],
 oR 43 39 (.indexAddr 1 none) [39,42],
 oR 44 40 (.load false 1) [43],
 mR 45 41 0,
 mR 46 42 6,
 oR 47 43 (.indexAddr 1 none) [45,46],
 oR 48 44 (.load false 1) [47],
 oR 49 45 (.indexAddr 1 none) [33,34],
 ⟨none,1000046,(.store 1),[.t 49,.t 44],none⟩,
 oR 50 47 (.indexAddr 1 none) [35,38],
 ⟨none,1000048,(.store 1),[.t 50,.t 48],none⟩])
 (.region [mR 51 49 0,
 mR 52 50 7,
 mR 53 51 10,
 mR 54 52 6,
 oR 55 53 (.call true 228) [51,52,53,54]])))
 (.region [mR 31 57 10,
 ⟨(some 32),1000058,(.bin .sub),[.t 31,.c (.int .i64 (1))],none⟩,
 mR 10 59 32]))))))))))
 [] 1 53
def f212.env:Env:=[(228,f228.C)]
def f212.tree (a:(List (ByteArray))×Int×Int):Prop:=Let (wI (a.2.2 - a.2.1)) (fun v1:Int=>Let (wI (v1 - (1:Int))) (fun v2:Int=>Let (wI (Int.tdiv v2 (2:Int))) (fun v3:Int=>∃ (I5:(Int×Int×(List (ByteArray)))→Prop) (μ6:(Int×Int×(List (ByteArray)))→Nat),(∃ x4:Int×Int×(List (ByteArray)),(a.1.length=x4.2.2.length)∧(a.2.1=a.2.1)∧((0:Int)=(0:Int))∧(v1=x4.1)∧(v3=x4.2.1)∧SlQ a.1.length x4.2.2.length (gl aB a.1) (gl aB x4.2.2) (I5 x4))∧∀ y7:Int×Int×(List (ByteArray)),I5 y7→(Br (decide ((0:Int)≤y7.2.1)) ((y7.2.2.length=y7.2.2.length)∧∃ c10:(List (ByteArray))×Int×Int×Int,(y7.2.2.length=List.length c10.1)∧(y7.2.1=c10.2.1)∧(y7.1=c10.2.2.1)∧(a.2.1=c10.2.2.2)∧SlQ y7.2.2.length c10.1.length (gl aB y7.2.2) (gl aB c10.1) ((kS c10)∧Let (wI (y7.2.1 - (1:Int))) (fun v12:Int=>∃ x13:Int×Int×(List (ByteArray)),(y7.2.2.length=x13.2.2.length)∧(a.2.1=a.2.1)∧((0:Int)=(0:Int))∧(y7.1=x13.1)∧(v12=x13.2.1)∧SlQ (List.length ((d9 slt) c10)) x13.2.2.length (gl aB ((d9 slt) c10)) (gl aB x13.2.2) (I5 x13∧μ6 x13 < μ6 y7)))) (Let (wI (y7.1 - (1:Int))) (fun v19:Int=>∃ (I21:(Int×(List (ByteArray)))→Prop) (μ22:(Int×(List (ByteArray)))→Nat),(∃ x20:Int×(List (ByteArray)),(y7.2.2.length=x20.2.length)∧(a.2.1=a.2.1)∧((0:Int)=(0:Int))∧(v19=x20.1)∧SlQ y7.2.2.length x20.2.length (gl aB y7.2.2) (gl aB x20.2) (I21 x20))∧∀ y23:Int×(List (ByteArray)),I21 y23→(Br (decide ((0:Int)≤y23.1)) (Let (wI (a.2.1+y23.1)) (fun v26:Int=>Let (wI (a.2.1+y23.1)) (fun v27:Int=>Br (decide ((0:Int)≤v27)&&decide (v27 < (List.length y23.2:Int))) ((y23.2.length=y23.2.length)∧(Br (decide ((0:Int)≤a.2.1)&&decide (a.2.1 < (List.length y23.2:Int))) ((y23.2.length=y23.2.length)∧(Br (decide ((0:Int)≤a.2.1)&&decide (a.2.1 < (List.length y23.2:Int))) ((y23.2.length=y23.2.length)∧(Br (decide ((0:Int)≤v26)&&decide (v26 < (List.length y23.2:Int))) ((y23.2.length=y23.2.length)∧((y23.2.length=y23.2.length)∧∃ c32:(List (ByteArray))×Int×Int×Int,(y23.2.length=List.length c32.1)∧((0:Int)=c32.2.1)∧(y23.1=c32.2.2.1)∧(a.2.1=c32.2.2.2)∧SlQ y23.2.length c32.1.length (gset (gset (gl aB y23.2) (Int.toNat a.2.1) [.str (at_ y23.2 v27)]) (Int.toNat v26) [.str (at_ y23.2 a.2.1)]) (gl aB c32.1) ((kS c32)∧Let (wI (y23.1 - (1:Int))) (fun v34:Int=>∃ x35:Int×(List (ByteArray)),(y23.2.length=x35.2.length)∧(a.2.1=a.2.1)∧((0:Int)=(0:Int))∧(v34=x35.1)∧SlQ (List.length ((d9 slt) c32)) x35.2.length (gl aB ((d9 slt) c32)) (gl aB x35.2) (I21 x35∧μ22 x35 < μ22 y23))))) False)) False)) False)) False))) (SlQ y23.2.length (List.length ((mK slt) a)) (gl aB y23.2) (gl aB ((mK slt) a)) (True)))))))))
def f212.vc (a:(List (ByteArray))×Int×Int):Prop:=(-9223372036854775808≤(a.2.2 - a.2.1)∧(a.2.2 - a.2.1)≤9223372036854775807∧(-9223372036854775808≤((a.2.2 - a.2.1) - (1:Int))∧((a.2.2 - a.2.1) - (1:Int))≤9223372036854775807∧(0≤((a.2.2 - a.2.1) - (1:Int))∧((a.2.2 - a.2.1) - (1:Int))≤9223372036854775807∧(∃ (I5:(Int×Int×(List (ByteArray)))→Prop) (μ6:(Int×Int×(List (ByteArray)))→Nat),I5 ((a.2.2 - a.2.1),(((a.2.2 - a.2.1) - (1:Int)) / (2:Int)),a.1)∧∀ y7:Int×Int×(List (ByteArray)),I5 y7→(((0:Int)≤y7.2.1→(kS (y7.2.2,y7.2.1,y7.1,a.2.1)∧((List.length ((d9 slt) (y7.2.2,y7.2.1,y7.1,a.2.1)))=y7.2.2.length∧(-9223372036854775808≤(y7.2.1 - (1:Int))∧(y7.2.1 - (1:Int))≤9223372036854775807∧(I5 (y7.1,(y7.2.1 - (1:Int)),((d9 slt) (y7.2.2,y7.2.1,y7.1,a.2.1)))∧μ6 (y7.1,(y7.2.1 - (1:Int)),((d9 slt) (y7.2.2,y7.2.1,y7.1,a.2.1))) < μ6 y7)))))∧(¬((0:Int)≤y7.2.1)→(-9223372036854775808≤(y7.1 - (1:Int))∧(y7.1 - (1:Int))≤9223372036854775807∧(∃ (I21:(Int×(List (ByteArray)))→Prop) (μ22:(Int×(List (ByteArray)))→Nat),I21 ((y7.1 - (1:Int)),y7.2.2)∧∀ y23:Int×(List (ByteArray)),I21 y23→(((0:Int)≤y23.1→(-9223372036854775808≤(a.2.1+y23.1)∧(a.2.1+y23.1)≤9223372036854775807∧(-9223372036854775808≤(a.2.1+y23.1)∧(a.2.1+y23.1)≤9223372036854775807∧((0:Int)≤(a.2.1+y23.1)∧(a.2.1+y23.1) < (List.length y23.2:Int)∧((0:Int)≤a.2.1∧a.2.1 < (List.length y23.2:Int)∧((0:Int)≤a.2.1∧a.2.1 < (List.length y23.2:Int)∧((0:Int)≤(a.2.1+y23.1)∧(a.2.1+y23.1) < (List.length y23.2:Int)∧(kS (List.set (List.set y23.2 (Int.toNat a.2.1) (at_ y23.2 (a.2.1+y23.1))) (Int.toNat (a.2.1+y23.1)) (at_ y23.2 a.2.1),(0:Int),y23.1,a.2.1)∧((List.length ((d9 slt) (List.set (List.set y23.2 (Int.toNat a.2.1) (at_ y23.2 (a.2.1+y23.1))) (Int.toNat (a.2.1+y23.1)) (at_ y23.2 a.2.1),(0:Int),y23.1,a.2.1)))=y23.2.length∧(-9223372036854775808≤(y23.1 - (1:Int))∧(y23.1 - (1:Int))≤9223372036854775807∧(I21 ((y23.1 - (1:Int)),((d9 slt) (List.set (List.set y23.2 (Int.toNat a.2.1) (at_ y23.2 (a.2.1+y23.1))) (Int.toNat (a.2.1+y23.1)) (at_ y23.2 a.2.1),(0:Int),y23.1,a.2.1)))∧μ22 ((y23.1 - (1:Int)),((d9 slt) (List.set (List.set y23.2 (Int.toNat a.2.1) (at_ y23.2 (a.2.1+y23.1))) (Int.toNat (a.2.1+y23.1)) (at_ y23.2 a.2.1),(0:Int),y23.1,a.2.1))) < μ22 y23)))))))))))∧(¬((0:Int)≤y23.1)→(y23.2=(mK slt) a)))))))))))
theorem f212.of (a:(List (ByteArray))×Int×Int) (h:f212.vc a):f212.tree a:=wrapK.i64 h (fun h68 h69 k70=>wrapK.i64 k70 (fun h65 h66 k67=>divK.i64 k67.1 k67.2.1 (by decide) (Exists.elim k67.2.2 (fun I5 h62_=>Exists.elim h62_ (fun μ6 h62=>⟨I5,μ6,⟨((a.2.2 - a.2.1),(((a.2.2 - a.2.1) - (1:Int)) / (2:Int)),a.1),⟨(bB (gl aB a.1) (rS aB)),⟨rfl,⟨rfl,⟨rfl,⟨rfl,slQ (rS aB) (h62.1)⟩⟩⟩⟩⟩⟩,fun y7 h64=>br (h62.2 y7 h64) Cnd.dec (fun h8 k60=>⟨rfl,⟨(y7.2.2,y7.2.1,y7.1,a.2.1),⟨(bB (gl aB y7.2.2) (rS aB)),⟨rfl,⟨rfl,⟨rfl,slQ (rS aB) (⟨k60.1,jX k60.2 (fun (h11:(List.length ((d9 slt) (y7.2.2,y7.2.1,y7.1,a.2.1)))=y7.2.2.length) hk=>wrapK.i64 hk (fun h15 h16 k17=>⟨(y7.1,(y7.2.1 - (1:Int)),((d9 slt) (y7.2.2,y7.2.1,y7.1,a.2.1))),⟨((h11).symm.trans (bB (gl aB ((d9 slt) (y7.2.2,y7.2.1,y7.1,a.2.1))) (rS aB))),⟨rfl,⟨rfl,⟨rfl,⟨rfl,slQ (rS aB) (k17)⟩⟩⟩⟩⟩⟩))⟩)⟩⟩⟩⟩⟩⟩) (fun h9 k61=>wrapK.i64 k61 (fun h57 h58 k59=>Exists.elim k59 (fun I21 h54_=>Exists.elim h54_ (fun μ22 h54=>⟨I21,μ22,⟨((y7.1 - (1:Int)),y7.2.2),⟨(bB (gl aB y7.2.2) (rS aB)),⟨rfl,⟨rfl,⟨rfl,slQ (rS aB) (h54.1)⟩⟩⟩⟩⟩,fun y23 h56=>br (h54.2 y23 h56) Cnd.dec (fun h24 k52=>wrapK.i64 k52 (fun h48 h49 k50=>wrapK.i64 k50 (fun h45 h46 k47=>chk k47.2.2 Cnd.ix ⟨k47.1,k47.2.1⟩ (fun h28 k44=>⟨rfl,chk k44.2.2 Cnd.ix ⟨k44.1,k44.2.1⟩ (fun h29 k43=>⟨rfl,chk k43.2.2 Cnd.ix ⟨k43.1,k43.2.1⟩ (fun h30 k42=>⟨rfl,chk k42.2.2 Cnd.ix ⟨k42.1,k42.2.1⟩ (fun h31 k41=>⟨rfl,⟨rfl,⟨(List.set (List.set y23.2 (Int.toNat a.2.1) (at_ y23.2 (a.2.1+y23.1))) (Int.toNat (a.2.1+y23.1)) (at_ y23.2 a.2.1),(0:Int),y23.1,a.2.1),⟨(bB (gset (gset (gl aB y23.2) (Int.toNat a.2.1) [.str (at_ y23.2 (a.2.1+y23.1))]) (Int.toNat (a.2.1+y23.1)) [.str (at_ y23.2 a.2.1)]) (Rds.gset (enc:=aB) (Rds.gset (enc:=aB) (rS aB) (DEqs.refl _)) (DEqs.refl _))),⟨rfl,⟨rfl,⟨rfl,slQ (Rds.gset (enc:=aB) (Rds.gset (enc:=aB) (rS aB) (DEqs.refl _)) (DEqs.refl _)) (⟨k41.1,jX k41.2 (fun (h33:(List.length ((d9 slt) (List.set (List.set y23.2 (Int.toNat a.2.1) (at_ y23.2 (a.2.1+y23.1))) (Int.toNat (a.2.1+y23.1)) (at_ y23.2 a.2.1),(0:Int),y23.1,a.2.1)))=y23.2.length) hk=>wrapK.i64 hk (fun h37 h38 k39=>⟨((y23.1 - (1:Int)),((d9 slt) (List.set (List.set y23.2 (Int.toNat a.2.1) (at_ y23.2 (a.2.1+y23.1))) (Int.toNat (a.2.1+y23.1)) (at_ y23.2 a.2.1),(0:Int),y23.1,a.2.1))),⟨((h33).symm.trans (bB (gl aB ((d9 slt) (List.set (List.set y23.2 (Int.toNat a.2.1) (at_ y23.2 (a.2.1+y23.1))) (Int.toNat (a.2.1+y23.1)) (at_ y23.2 a.2.1),(0:Int),y23.1,a.2.1))) (rS aB))),⟨rfl,⟨rfl,⟨rfl,slQ (rS aB) (k39)⟩⟩⟩⟩⟩))⟩)⟩⟩⟩⟩⟩⟩⟩)⟩)⟩)⟩)))) (fun h25 k53=>slQ (Rds.to (rS aB) k53) (trivial))⟩))))⟩)))))
theorem f212.eq (a:(List (ByteArray))×Int×Int):(f212.af a).gives f212.env (f212.args a) (f212.blks a) (f212.res a) (f212.blks' a)=f212.tree a:=by kernel_rfl
def f213.args (a:(List (ByteArray))×Int×Int):List D:=[.msl 0 1 a.1.length,.int .i64 a.2.1,.int .i64 a.2.2]
def f213.blks (a:(List (ByteArray))×Int×Int):List (List D):=[[.dead,.arr false 1 a.1.length (gl aB a.1)]]
def f213.res (a:(List (ByteArray))×Int×Int):List D:=[]
def f213.blks' (a:(List (ByteArray))×Int×Int):List (List D):=[[.dead,.arr false 1 (List.length (eJ a)) (gl aB (eJ a))]]
def f213.C:aP:=FnC f213.args f213.blks (fun a=>gN a) f213.res f213.blks'
def f213.S0 (a:(List (ByteArray))×Int×Int) (x:Int×Int×Int×(List (ByteArray))×Int):Tm:=⟨.msl 0 1 x.2.2.2.1.length::.int .i64 a.2.1::.dead::.dead::.dead::.dead::.int .i64 x.1::.ptr 1000008 0::.int .u64 x.2.1::.int .i64 x.2.2.1::dd 55 [],[(0,false,[.dead,.arr false 1 x.2.2.2.1.length (gl aB x.2.2.2.1)]),(1000008,false,[.int .u64 x.2.2.2.2])],[]⟩
def f213.kills (a:(List (ByteArray))×Int×Int):List Hint:=[.tell (Int×Int×Int×(List (ByteArray))×Int) (f213.S0 a)]
def f213.cuts (a:(List (ByteArray))×Int×Int):List (Nat×Σ β:Type,β→Tm):=[(999999,⟨Unit,fun x=>⟨[],[],[]⟩⟩),
 (100009,⟨Int×Int×Int×Int×(List (ByteArray))×Int,fun x=>⟨.msl 0 1 x.2.2.2.2.1.length::.int .i64 a.2.1::.dead::.dead::.dead::.dead::.int .i64 x.1::.ptr 1000008 0::.int .u64 x.2.1::.int .i64 x.2.2.1::.int .i64 x.2.2.2.1::dd 54 [],[(0,false,[.dead,.arr false 1 x.2.2.2.2.1.length (gl aB x.2.2.2.2.1)]),(1000008,false,[.int .u64 x.2.2.2.2.2])],[]⟩⟩)]
def f213.af (a:(List (ByteArray))×Int×Int):AF:=AF.mk (.seq (.region [mR 11 0 2,
 mR 12 1 1,
 oR 13 2 (.bin .sub) [11,12],
 mR 6 3 13])
 (.seq (.region [mR 14 4 6,
 ⟨(some 15),1000005,(.bin .geq),[.t 14,.c (.int .i64 (8))],none⟩])
 (.cond (.t 15) (.seq (.region [mR 16 6 6,
 oR 17 7 (.conv (.int .u64)) [16],
 oR 7 8 (.alloc [.int .u64 (0)]) [],
 ⟨none,1000010,(.store 1),[.t 7,.t 17],none⟩])
 (.seq (.region [mR 18 11 6,
 oR 19 12 (.call false 229) [18],
 mR 8 16 19])
 (.seq (.region [mR 20 17 1,
 mR 21 18 6,
 ⟨(some 22),1000019,(.bin .quo),[.t 21,.c (.int .i64 (4))],none⟩,
 ⟨(some 23),1000020,(.bin .mul),[.t 22,.c (.int .i64 (2))],none⟩,
 oR 24 21 (.bin .add) [20,23],
 ⟨(some 25),1000022,(.bin .sub),[.t 24,.c (.int .i64 (1))],none⟩,
 mR 9 23 25])
 (.block 0 (.loopT (Int×Int×Int×(List (ByteArray))×Int) (f213.S0 a) 1000024 1000071 (.seq (.seq (.region [mR 26 24 9,
 mR 27 25 1,
 mR 28 26 6,
 ⟨(some 29),1000027,(.bin .quo),[.t 28,.c (.int .i64 (4))],none⟩,
 ⟨(some 30),1000028,(.bin .mul),[.t 29,.c (.int .i64 (2))],none⟩,
 oR 31 29 (.bin .add) [27,30],
 ⟨(some 32),1000030,(.bin .add),[.t 31,.c (.int .i64 (1))],none⟩,
 oR 33 31 (.bin .leq) [26,32]])
 (.cond (.t 33) (.skip) (.exit 0)))
 (.seq (.block 1 (.seq (.region [oR 36 32 (.call true 230) [7],
 mR 37 36 8,
 ⟨(some 38),1000037,(.bin .sub),[.t 37,.c (.int .u64 (1))],none⟩,
 oR 39 38 (.bin .and) [36,38],
 oR 40 39 (.conv (.int .i64)) [39],
 mR 10 40 40])
 (.joinT (Int×Int×Int×Int×(List (ByteArray))×Int) (fun x=>⟨.msl 0 1 x.2.2.2.2.1.length::.int .i64 a.2.1::.dead::.dead::.dead::.dead::.int .i64 x.1::.ptr 1000008 0::.int .u64 x.2.1::.int .i64 x.2.2.1::.int .i64 x.2.2.2.1::dd 54 [],[(0,false,[.dead,.arr false 1 x.2.2.2.2.1.length (gl aB x.2.2.2.2.1)]),(1000008,false,[.int .u64 x.2.2.2.2.2])],[]⟩) (.seq (.region [mR 41 41 10,
 mR 42 42 6,
 oR 43 43 (.bin .geq) [41,42]])
 (.cond (.t 43) (.region [mR 44 44 10,
 mR 45 45 6,
 oR 46 46 (.bin .sub) [44,45],
 mR 10 47 46]) (.skip)))
 (.region [mR 47 48 0,
 mR 48 49 9,
 mR 49 50 0,
 mR 50 51 1,
 mR 51 52 10,
 oR 52 53 (.bin .add) [50,51],
 mR 53 54 0,
 mR 54 55 1,
 mR 55 56 10,
 oR 56 57 (.bin .add) [54,55],
 oR 57 58 (.indexAddr 1 none) [53,56],
 oR 58 59 (.load false 1) [57],
 mR 59 60 0,
 mR 60 61 9,
 oR 61 62 (.indexAddr 1 none) [59,60],
 oR 62 63 (.load false 1) [61],
 oR 63 64 (.indexAddr 1 none) [47,48],
 ⟨none,1000065,(.store 1),[.t 63,.t 58],none⟩,
 oR 64 66 (.indexAddr 1 none) [49,52],
 ⟨none,1000067,(.store 1),[.t 64,.t 62],none⟩]))))
 (.region [mR 34 68 9,
 ⟨(some 35),1000069,(.bin .add),[.t 34,.c (.int .i64 (1))],none⟩,
 mR 9 70 35])))))))) (.skip))))
 [] 1 62
def f213.env:Env:=[(229,f229.C),(230,f230.C)]
def f213.tree (a:(List (ByteArray))×Int×Int):Prop:=Let (wI (a.2.2 - a.2.1)) (fun v1:Int=>Br (decide ((8:Int)≤v1)) (Let (IntKind.u64.wrap v1) (fun v4:Int=>∃ c5:Int,(v1=c5)∧(rZ c5)∧Let (wI (Int.tdiv v1 (4:Int))) (fun v6:Int=>Let (wI (v6 * (2:Int))) (fun v7:Int=>Let (wI (a.2.1+v7)) (fun v8:Int=>Let (wI (v8 - (1:Int))) (fun v9:Int=>∃ (I11:(Int×Int×Int×(List (ByteArray))×Int)→Prop) (μ12:(Int×Int×Int×(List (ByteArray))×Int)→Nat),(∃ x10:Int×Int×Int×(List (ByteArray))×Int,(a.1.length=x10.2.2.2.1.length)∧(a.2.1=a.2.1)∧(v1=x10.1)∧((mP c5)=x10.2.1)∧(v9=x10.2.2.1)∧SlQ a.1.length x10.2.2.2.1.length (gl aB a.1) (gl aB x10.2.2.2.1) ((v4=x10.2.2.2.2)∧I11 x10))∧∀ y13:Int×Int×Int×(List (ByteArray))×Int,I11 y13→(Let (wI (Int.tdiv y13.1 (4:Int))) (fun v14:Int=>Let (wI (v14 * (2:Int))) (fun v15:Int=>Let (wI (a.2.1+v15)) (fun v16:Int=>Let (wI (v16+(1:Int))) (fun v17:Int=>Br (decide (y13.2.2.1≤v17)) (∃ c20:Int,(y13.2.2.2.2=c20)∧(oJ c20)∧Let (IntKind.u64.wrap (y13.2.1 - (1:Int))) (fun v21:Int=>Let (wI (IntKind.u64.wrap ((BitVec.ofInt 64 ((eA c20).1) &&& BitVec.ofInt 64 v21).toNat:Int))) (fun v22:Int=>∃ I23:(Int×Int×Int×Int×(List (ByteArray))×Int)→Prop,(Br (decide (y13.1≤v22)) (Let (wI (v22 - y13.1)) (fun v26:Int=>∃ x27:Int×Int×Int×Int×(List (ByteArray))×Int,(y13.2.2.2.1.length=x27.2.2.2.2.1.length)∧(a.2.1=a.2.1)∧(y13.1=x27.1)∧(y13.2.1=x27.2.1)∧(y13.2.2.1=x27.2.2.1)∧(v26=x27.2.2.2.1)∧SlQ y13.2.2.2.1.length x27.2.2.2.2.1.length (gl aB y13.2.2.2.1) (gl aB x27.2.2.2.2.1) ((((eA c20).2)=x27.2.2.2.2.2)∧I23 x27))) (∃ x31:Int×Int×Int×Int×(List (ByteArray))×Int,(y13.2.2.2.1.length=x31.2.2.2.2.1.length)∧(a.2.1=a.2.1)∧(y13.1=x31.1)∧(y13.2.1=x31.2.1)∧(y13.2.2.1=x31.2.2.1)∧(v22=x31.2.2.2.1)∧SlQ y13.2.2.2.1.length x31.2.2.2.2.1.length (gl aB y13.2.2.2.1) (gl aB x31.2.2.2.2.1) ((((eA c20).2)=x31.2.2.2.2.2)∧I23 x31)))∧∀ y34:Int×Int×Int×Int×(List (ByteArray))×Int,I23 y34→(Let (wI (a.2.1+y34.2.2.2.1)) (fun v37:Int=>Let (wI (a.2.1+y34.2.2.2.1)) (fun v38:Int=>Br (decide ((0:Int)≤v38)&&decide (v38 < (List.length y34.2.2.2.2.1:Int))) ((y34.2.2.2.2.1.length=y34.2.2.2.2.1.length)∧(Br (decide ((0:Int)≤y34.2.2.1)&&decide (y34.2.2.1 < (List.length y34.2.2.2.2.1:Int))) ((y34.2.2.2.2.1.length=y34.2.2.2.2.1.length)∧(Br (decide ((0:Int)≤y34.2.2.1)&&decide (y34.2.2.1 < (List.length y34.2.2.2.2.1:Int))) ((y34.2.2.2.2.1.length=y34.2.2.2.2.1.length)∧(Br (decide ((0:Int)≤v37)&&decide (v37 < (List.length y34.2.2.2.2.1:Int))) ((y34.2.2.2.2.1.length=y34.2.2.2.2.1.length)∧(Let (wI (y34.2.2.1+(1:Int))) (fun v43:Int=>∃ x44:Int×Int×Int×(List (ByteArray))×Int,(y34.2.2.2.2.1.length=x44.2.2.2.1.length)∧(a.2.1=a.2.1)∧(y34.1=x44.1)∧(y34.2.1=x44.2.1)∧(v43=x44.2.2.1)∧SlQ y34.2.2.2.2.1.length x44.2.2.2.1.length (gset (gset (gl aB y34.2.2.2.2.1) (Int.toNat y34.2.2.1) [.str (at_ y34.2.2.2.2.1 v38)]) (Int.toNat v37) [.str (at_ y34.2.2.2.2.1 y34.2.2.1)]) (gl aB x44.2.2.2.1) ((y34.2.2.2.2.2=x44.2.2.2.2)∧I11 x44∧μ12 x44 < μ12 y13)))) False)) False)) False)) False)))))) (SlQ y13.2.2.2.1.length (List.length (eJ a)) (gl aB y13.2.2.2.1) (gl aB (eJ a)) (True))))))))))))) (SlQ a.1.length (List.length (eJ a)) (gl aB a.1) (gl aB (eJ a)) (True)))
def f213.vc (a:(List (ByteArray))×Int×Int):Prop:=(-9223372036854775808≤(a.2.2 - a.2.1)∧(a.2.2 - a.2.1)≤9223372036854775807∧(((8:Int)≤(a.2.2 - a.2.1)→(0≤(a.2.2 - a.2.1)∧(a.2.2 - a.2.1)≤18446744073709551615∧(rZ (a.2.2 - a.2.1)∧(0≤(a.2.2 - a.2.1)∧(a.2.2 - a.2.1)≤9223372036854775807∧(-9223372036854775808≤(((a.2.2 - a.2.1) / (4:Int)) * (2:Int))∧(((a.2.2 - a.2.1) / (4:Int)) * (2:Int))≤9223372036854775807∧(-9223372036854775808≤(a.2.1+(((a.2.2 - a.2.1) / (4:Int)) * (2:Int)))∧(a.2.1+(((a.2.2 - a.2.1) / (4:Int)) * (2:Int)))≤9223372036854775807∧(-9223372036854775808≤((a.2.1+(((a.2.2 - a.2.1) / (4:Int)) * (2:Int))) - (1:Int))∧((a.2.1+(((a.2.2 - a.2.1) / (4:Int)) * (2:Int))) - (1:Int))≤9223372036854775807∧(∃ (I11:(Int×Int×Int×(List (ByteArray))×Int)→Prop) (μ12:(Int×Int×Int×(List (ByteArray))×Int)→Nat),I11 ((a.2.2 - a.2.1),(mP (a.2.2 - a.2.1)),((a.2.1+(((a.2.2 - a.2.1) / (4:Int)) * (2:Int))) - (1:Int)),a.1,(a.2.2 - a.2.1))∧∀ y13:Int×Int×Int×(List (ByteArray))×Int,I11 y13→(0≤y13.1∧y13.1≤9223372036854775807∧(-9223372036854775808≤((y13.1 / (4:Int)) * (2:Int))∧((y13.1 / (4:Int)) * (2:Int))≤9223372036854775807∧(-9223372036854775808≤(a.2.1+((y13.1 / (4:Int)) * (2:Int)))∧(a.2.1+((y13.1 / (4:Int)) * (2:Int)))≤9223372036854775807∧(-9223372036854775808≤((a.2.1+((y13.1 / (4:Int)) * (2:Int)))+(1:Int))∧((a.2.1+((y13.1 / (4:Int)) * (2:Int)))+(1:Int))≤9223372036854775807∧((y13.2.2.1≤((a.2.1+((y13.1 / (4:Int)) * (2:Int)))+(1:Int))→(oJ y13.2.2.2.2∧(0≤(y13.2.1 - (1:Int))∧(y13.2.1 - (1:Int))≤18446744073709551615∧(-9223372036854775808≤(IntKind.u64.wrap ((BitVec.ofInt 64 ((eA (y13.2.2.2.2)).1) &&& BitVec.ofInt 64 (y13.2.1 - (1:Int))).toNat:Int))∧(IntKind.u64.wrap ((BitVec.ofInt 64 ((eA (y13.2.2.2.2)).1) &&& BitVec.ofInt 64 (y13.2.1 - (1:Int))).toNat:Int))≤9223372036854775807∧(∃ I23:(Int×Int×Int×Int×(List (ByteArray))×Int)→Prop,(((y13.1≤(IntKind.u64.wrap ((BitVec.ofInt 64 ((eA (y13.2.2.2.2)).1) &&& BitVec.ofInt 64 (y13.2.1 - (1:Int))).toNat:Int))→(-9223372036854775808≤((IntKind.u64.wrap ((BitVec.ofInt 64 ((eA (y13.2.2.2.2)).1) &&& BitVec.ofInt 64 (y13.2.1 - (1:Int))).toNat:Int)) - y13.1)∧((IntKind.u64.wrap ((BitVec.ofInt 64 ((eA (y13.2.2.2.2)).1) &&& BitVec.ofInt 64 (y13.2.1 - (1:Int))).toNat:Int)) - y13.1)≤9223372036854775807∧(I23 (y13.1,y13.2.1,y13.2.2.1,((IntKind.u64.wrap ((BitVec.ofInt 64 ((eA (y13.2.2.2.2)).1) &&& BitVec.ofInt 64 (y13.2.1 - (1:Int))).toNat:Int)) - y13.1),y13.2.2.2.1,(eA (y13.2.2.2.2)).2))))∧(¬(y13.1≤(IntKind.u64.wrap ((BitVec.ofInt 64 ((eA (y13.2.2.2.2)).1) &&& BitVec.ofInt 64 (y13.2.1 - (1:Int))).toNat:Int)))→(I23 (y13.1,y13.2.1,y13.2.2.1,(IntKind.u64.wrap ((BitVec.ofInt 64 ((eA (y13.2.2.2.2)).1) &&& BitVec.ofInt 64 (y13.2.1 - (1:Int))).toNat:Int)),y13.2.2.2.1,(eA (y13.2.2.2.2)).2)))))∧∀ y34:Int×Int×Int×Int×(List (ByteArray))×Int,I23 y34→(-9223372036854775808≤(a.2.1+y34.2.2.2.1)∧(a.2.1+y34.2.2.2.1)≤9223372036854775807∧(-9223372036854775808≤(a.2.1+y34.2.2.2.1)∧(a.2.1+y34.2.2.2.1)≤9223372036854775807∧((0:Int)≤(a.2.1+y34.2.2.2.1)∧(a.2.1+y34.2.2.2.1) < (List.length y34.2.2.2.2.1:Int)∧((0:Int)≤y34.2.2.1∧y34.2.2.1 < (List.length y34.2.2.2.2.1:Int)∧((0:Int)≤y34.2.2.1∧y34.2.2.1 < (List.length y34.2.2.2.2.1:Int)∧((0:Int)≤(a.2.1+y34.2.2.2.1)∧(a.2.1+y34.2.2.2.1) < (List.length y34.2.2.2.2.1:Int)∧(-9223372036854775808≤(y34.2.2.1+(1:Int))∧(y34.2.2.1+(1:Int))≤9223372036854775807∧(I11 (y34.1,y34.2.1,(y34.2.2.1+(1:Int)),List.set (List.set y34.2.2.2.2.1 (Int.toNat y34.2.2.1) (at_ y34.2.2.2.2.1 (a.2.1+y34.2.2.2.1))) (Int.toNat (a.2.1+y34.2.2.2.1)) (at_ y34.2.2.2.2.1 y34.2.2.1),y34.2.2.2.2.2)∧μ12 (y34.1,y34.2.1,(y34.2.2.1+(1:Int)),List.set (List.set y34.2.2.2.2.1 (Int.toNat y34.2.2.1) (at_ y34.2.2.2.2.1 (a.2.1+y34.2.2.2.1))) (Int.toNat (a.2.1+y34.2.2.2.1)) (at_ y34.2.2.2.2.1 y34.2.2.1),y34.2.2.2.2.2) < μ12 y13)))))))))))))∧(¬(y13.2.2.1≤((a.2.1+((y13.1 / (4:Int)) * (2:Int)))+(1:Int)))→(y13.2.2.2.1=eJ a)))))))))))))))∧(¬((8:Int)≤(a.2.2 - a.2.1))→(a.1=eJ a))))
theorem f213.of (a:(List (ByteArray))×Int×Int) (h:f213.vc a):f213.tree a:=wrapK.i64 h (fun h97 h98 k99=>br k99 Cnd.dec (fun h2 k95=>wrapK.u64 k95 (fun h91 h92 k93=>⟨(a.2.2 - a.2.1),⟨rfl,⟨k93.1,divK.i64 k93.2.1 k93.2.2.1 (by decide) (wrapK.i64 k93.2.2.2 (fun h87 h88 k89=>wrapK.i64 k89 (fun h84 h85 k86=>wrapK.i64 k86 (fun h81 h82 k83=>Exists.elim k83 (fun I11 h78_=>Exists.elim h78_ (fun μ12 h78=>⟨I11,μ12,⟨((a.2.2 - a.2.1),(mP (a.2.2 - a.2.1)),((a.2.1+(((a.2.2 - a.2.1) / (4:Int)) * (2:Int))) - (1:Int)),a.1,(a.2.2 - a.2.1)),⟨(bB (gl aB a.1) (rS aB)),⟨rfl,⟨rfl,⟨rfl,⟨rfl,slQ (rS aB) (⟨rfl,h78.1⟩)⟩⟩⟩⟩⟩⟩,fun y13 h80=>divK.i64 (h78.2 y13 h80).1 (h78.2 y13 h80).2.1 (by decide) (wrapK.i64 ((h78.2 y13 h80).2.2) (fun h75 h76 k77=>wrapK.i64 k77 (fun h72 h73 k74=>wrapK.i64 k74 (fun h69 h70 k71=>br k71 Cnd.dec (fun h18 k67=>⟨y13.2.2.2.2,⟨rfl,⟨k67.1,wrapK.u64 k67.2 (fun h62 h63 k64=>wrapK.i64 k64 (fun h59 h60 k61=>Exists.elim k61 (fun I23 h36=>⟨I23,br h36.1 Cnd.dec (fun h24 k32=>wrapK.i64 k32 (fun h28 h29 k30=>⟨(y13.1,y13.2.1,y13.2.2.1,((IntKind.u64.wrap ((BitVec.ofInt 64 ((eA (y13.2.2.2.2)).1) &&& BitVec.ofInt 64 (y13.2.1 - (1:Int))).toNat:Int)) - y13.1),y13.2.2.2.1,(eA (y13.2.2.2.2)).2),⟨(bB (gl aB y13.2.2.2.1) (rS aB)),⟨rfl,⟨rfl,⟨rfl,⟨rfl,⟨rfl,slQ (rS aB) (⟨rfl,k30⟩)⟩⟩⟩⟩⟩⟩⟩)) (fun h25 k33=>⟨(y13.1,y13.2.1,y13.2.2.1,(IntKind.u64.wrap ((BitVec.ofInt 64 ((eA (y13.2.2.2.2)).1) &&& BitVec.ofInt 64 (y13.2.1 - (1:Int))).toNat:Int)),y13.2.2.2.1,(eA (y13.2.2.2.2)).2),⟨(bB (gl aB y13.2.2.2.1) (rS aB)),⟨rfl,⟨rfl,⟨rfl,⟨rfl,⟨rfl,slQ (rS aB) (⟨rfl,k33⟩)⟩⟩⟩⟩⟩⟩⟩),fun y34 h35=>wrapK.i64 (h36.2 y34 h35) (fun h56 h57 k58=>wrapK.i64 k58 (fun h53 h54 k55=>chk k55.2.2 Cnd.ix ⟨k55.1,k55.2.1⟩ (fun h39 k52=>⟨rfl,chk k52.2.2 Cnd.ix ⟨k52.1,k52.2.1⟩ (fun h40 k51=>⟨rfl,chk k51.2.2 Cnd.ix ⟨k51.1,k51.2.1⟩ (fun h41 k50=>⟨rfl,chk k50.2.2 Cnd.ix ⟨k50.1,k50.2.1⟩ (fun h42 k49=>⟨rfl,wrapK.i64 k49 (fun h46 h47 k48=>⟨(y34.1,y34.2.1,(y34.2.2.1+(1:Int)),List.set (List.set y34.2.2.2.2.1 (Int.toNat y34.2.2.1) (at_ y34.2.2.2.2.1 (a.2.1+y34.2.2.2.1))) (Int.toNat (a.2.1+y34.2.2.2.1)) (at_ y34.2.2.2.2.1 y34.2.2.1),y34.2.2.2.2.2),⟨(bB (gset (gset (gl aB y34.2.2.2.2.1) (Int.toNat y34.2.2.1) [.str (at_ y34.2.2.2.2.1 (a.2.1+y34.2.2.2.1))]) (Int.toNat (a.2.1+y34.2.2.2.1)) [.str (at_ y34.2.2.2.2.1 y34.2.2.1)]) (Rds.gset (enc:=aB) (Rds.gset (enc:=aB) (rS aB) (DEqs.refl _)) (DEqs.refl _))),⟨rfl,⟨rfl,⟨rfl,⟨rfl,slQ (Rds.gset (enc:=aB) (Rds.gset (enc:=aB) (rS aB) (DEqs.refl _)) (DEqs.refl _)) (⟨rfl,k48⟩)⟩⟩⟩⟩⟩⟩)⟩)⟩)⟩)⟩)))⟩)))⟩⟩⟩) (fun h19 k68=>slQ (Rds.to (rS aB) k68) (trivial))))))⟩))))))⟩⟩⟩)) (fun h3 k96=>slQ (Rds.to (rS aB) k96) (trivial)))
theorem f213.eq (a:(List (ByteArray))×Int×Int):(f213.af a).gives f213.env (f213.args a) (f213.blks a) (f213.res a) (f213.blks' a)=f213.tree a:=by kernel_rfl
def f214.args (a:(List (ByteArray))×Int×Int):List D:=[.msl 0 1 a.1.length,.int .i64 a.2.1,.int .i64 a.2.2]
def f214.blks (a:(List (ByteArray))×Int×Int):List (List D):=[[.dead,.arr false 1 a.1.length (gl aB a.1)]]
def f214.res (a:(List (ByteArray))×Int×Int):List D:=[.int .i64 (((aV slt) a).1),.int .i64 (((aV slt) a).2.1)]
def f214.blks' (a:(List (ByteArray))×Int×Int):List (List D):=[[.dead,.arr false 1 (List.length (((aV slt) a).2.2)) (gl aB (((aV slt) a).2.2))]]
def f214.C:aP:=FnC f214.args f214.blks (fun a=>fS a) f214.res f214.blks'
def f231.args (a:(List (ByteArray))×Int×Int):List D:=[.msl 0 1 a.1.length,.int .i64 a.2.1,.ptr 1 0]
def f231.blks (a:(List (ByteArray))×Int×Int):List (List D):=[[.dead,.arr false 1 a.1.length (gl aB a.1)],[.int .i64 a.2.2]]
def f231.res (a:(List (ByteArray))×Int×Int):List D:=[.int .i64 (((aO slt) a).1)]
def f231.blks' (a:(List (ByteArray))×Int×Int):List (List D):=[[.dead,.arr false 1 (List.length (((aO slt) a).2.1)) (gl aB (((aO slt) a).2.1))],[.int .i64 (((aO slt) a).2.2)]]
def f231.C:aP:=FnC f231.args f231.blks (fun a=>iB a) f231.res f231.blks'
def f232.args (a:(List (ByteArray))×Int×Int×Int×Int):List D:=[.msl 0 1 a.1.length,.int .i64 a.2.1,.int .i64 a.2.2.1,.int .i64 a.2.2.2.1,.ptr 1 0]
def f232.blks (a:(List (ByteArray))×Int×Int×Int×Int):List (List D):=[[.dead,.arr false 1 a.1.length (gl aB a.1)],[.int .i64 a.2.2.2.2]]
def f232.res (a:(List (ByteArray))×Int×Int×Int×Int):List D:=[.int .i64 (((fL slt) a).1)]
def f232.blks' (a:(List (ByteArray))×Int×Int×Int×Int):List (List D):=[[.dead,.arr false 1 (List.length (((fL slt) a).2.1)) (gl aB (((fL slt) a).2.1))],[.int .i64 (((fL slt) a).2.2)]]
def f232.C:aP:=FnC f232.args f232.blks (fun a=>oP a) f232.res f232.blks'
def f214.kills (a:(List (ByteArray))×Int×Int):List Hint:=[]
def f214.cuts (a:(List (ByteArray))×Int×Int):List (Nat×Σ β:Type,β→Tm):=[(999999,⟨Unit,fun x=>⟨[],[],[]⟩⟩),
 (100008,⟨Int×Int×Int×(List (ByteArray))×Int,fun x=>⟨.msl 0 1 x.2.2.2.1.length::dd 8 (.ptr 1000006 0::.int .i64 x.1::.int .i64 x.2.1::.int .i64 x.2.2.1::dd 44 []),[(0,false,[.dead,.arr false 1 x.2.2.2.1.length (gl aB x.2.2.2.1)]),(1000006,false,[.int .i64 x.2.2.2.2])],[]⟩⟩),
 (100006,⟨Int×(List (ByteArray))×Int,fun x=>⟨.msl 0 1 x.2.1.length::dd 8 (.ptr 1000006 0::.dead::.int .i64 x.1::dd 45 []),[(0,false,[.dead,.arr false 1 x.2.1.length (gl aB x.2.1)]),(1000006,false,[.int .i64 x.2.2])],[]⟩⟩)]
def f214.af (a:(List (ByteArray))×Int×Int):AF:=AF.mk (.seq (.region [⟨(some 6),1000000,.move,[.c (.int .i64 (0))],none⟩,
 ⟨(some 7),1000001,.move,[.c (.int .i64 (0))],none⟩])
 (.seq (.region [mR 13 2 2,
 mR 14 3 1,
 oR 15 4 (.bin .sub) [13,14],
 mR 8 5 15])
 (.seq (.region [oR 9 6 (.alloc [.int .i64 (0)]) []])
 (.seq (.region [mR 16 8 1,
 mR 17 9 8,
 ⟨(some 18),1000010,(.bin .quo),[.t 17,.c (.int .i64 (4))],none⟩,
 ⟨(some 19),1000011,(.bin .mul),[.t 18,.c (.int .i64 (1))],none⟩,
 oR 20 12 (.bin .add) [16,19],
 mR 10 13 20])
 (.seq (.region [mR 21 14 1,
 mR 22 15 8,
 ⟨(some 23),1000016,(.bin .quo),[.t 22,.c (.int .i64 (4))],none⟩,
 ⟨(some 24),1000017,(.bin .mul),[.t 23,.c (.int .i64 (2))],none⟩,
 oR 25 18 (.bin .add) [21,24],
 mR 11 19 25])
 (.seq (.region [mR 26 20 1,
 mR 27 21 8,
 ⟨(some 28),1000022,(.bin .quo),[.t 27,.c (.int .i64 (4))],none⟩,
 ⟨(some 29),1000023,(.bin .mul),[.t 28,.c (.int .i64 (3))],none⟩,
 oR 30 24 (.bin .add) [26,29],
 mR 12 25 30])
 (.joinT (Int×(List (ByteArray))×Int) (fun x=>⟨.msl 0 1 x.2.1.length::dd 8 (.ptr 1000006 0::.dead::.int .i64 x.1::dd 45 []),[(0,false,[.dead,.arr false 1 x.2.1.length (gl aB x.2.1)]),(1000006,false,[.int .i64 x.2.2])],[]⟩) (.seq (.region [mR 31 26 8,
 ⟨(some 32),1000027,(.bin .geq),[.t 31,.c (.int .i64 (8))],none⟩])
 (.cond (.t 32) (.joinT (Int×Int×Int×(List (ByteArray))×Int) (fun x=>⟨.msl 0 1 x.2.2.2.1.length::dd 8 (.ptr 1000006 0::.int .i64 x.1::.int .i64 x.2.1::.int .i64 x.2.2.1::dd 44 []),[(0,false,[.dead,.arr false 1 x.2.2.2.1.length (gl aB x.2.2.2.1)]),(1000006,false,[.int .i64 x.2.2.2.2])],[]⟩) (.seq (.region [mR 33 28 8,
 ⟨(some 34),1000029,(.bin .geq),[.t 33,.c (.int .i64 (50))],none⟩])
 (.cond (.t 34) (.seq (.region [mR 35 30 0,
 mR 36 31 10,
 oR 37 32 (.call true 231) [35,36,9],
 mR 10 36 37])
 (.seq (.region [mR 38 37 0,
 mR 39 38 11,
 oR 40 39 (.call true 231) [38,39,9],
 mR 11 43 40])
 (.region [mR 41 44 0,
 mR 42 45 12,
 oR 43 46 (.call true 231) [41,42,9],
 mR 12 50 43]))) (.skip)))
 (.region [mR 44 51 0,
 mR 45 52 10,
 mR 46 53 11,
 mR 47 54 12,
 oR 48 55 (.call true 232) [44,45,46,47,9],
 mR 11 59 48])) (.skip)))
 (.seq (.region [oR 49 60 (.load false 1) [9]])
 (.block 0 (.seq (.region [⟨(some 52),1000061,(.bin .eql),[.t 49,.c (.int .i64 (0))],none⟩,
 mR 51 62 52])
 (.cond (.t 51) (.seq (.region [mR 53 63 11,
 mR 6 64 53,
 ⟨(some 7),1000065,.move,[.c (.int .i64 (1))],none⟩])
 (.ret)) (.seq (.region [⟨(some 55),1000066,(.bin .eql),[.t 49,.c (.int .i64 (12))],none⟩,
 mR 54 67 55])
 (.cond (.t 54) (.seq (.region [mR 56 68 11,
 mR 6 69 56,
 ⟨(some 7),1000070,.move,[.c (.int .i64 (2))],none⟩])
 (.ret)) (.seq (.region [mR 50 71 11,
 mR 6 72 50,
 ⟨(some 7),1000073,.move,[.c (.int .i64 (0))],none⟩])
 (.ret)))))))))))))))
 [.tmp 6,.tmp 7] 1 54
def f214.env:Env:=[(231,f231.C),(232,f232.C)]
def f214.tree (a:(List (ByteArray))×Int×Int):Prop:=Let (wI (a.2.2 - a.2.1)) (fun v1:Int=>Let (wI (Int.tdiv v1 (4:Int))) (fun v2:Int=>Let (wI (v2 * (1:Int))) (fun v3:Int=>Let (wI (a.2.1+v3)) (fun v4:Int=>Let (wI (Int.tdiv v1 (4:Int))) (fun v5:Int=>Let (wI (v5 * (2:Int))) (fun v6:Int=>Let (wI (a.2.1+v6)) (fun v7:Int=>Let (wI (Int.tdiv v1 (4:Int))) (fun v8:Int=>Let (wI (v8 * (3:Int))) (fun v9:Int=>Let (wI (a.2.1+v9)) (fun v10:Int=>∃ I11:(Int×(List (ByteArray))×Int)→Prop,(Br (decide ((8:Int)≤v1)) (∃ I14:(Int×Int×Int×(List (ByteArray))×Int)→Prop,(Br (decide ((50:Int)≤v1)) ((a.1.length=a.1.length)∧∃ c17:(List (ByteArray))×Int×Int,(a.1.length=List.length c17.1)∧(v4=c17.2.1)∧SlQ a.1.length c17.1.length (gl aB a.1) (gl aB c17.1) (((0:Int)=c17.2.2)∧(iB c17)∧(a.1.length=(List.length (((aO slt) c17).2.1)))∧∃ c19:(List (ByteArray))×Int×Int,(a.1.length=List.length c19.1)∧(v7=c19.2.1)∧SlQ (List.length (((aO slt) c17).2.1)) c19.1.length (gl aB (((aO slt) c17).2.1)) (gl aB c19.1) (((((aO slt) c17).2.2)=c19.2.2)∧(iB c19)∧(a.1.length=(List.length (((aO slt) c19).2.1)))∧∃ c21:(List (ByteArray))×Int×Int,(a.1.length=List.length c21.1)∧(v10=c21.2.1)∧SlQ (List.length (((aO slt) c19).2.1)) c21.1.length (gl aB (((aO slt) c19).2.1)) (gl aB c21.1) (((((aO slt) c19).2.2)=c21.2.2)∧(iB c21)∧∃ x23:Int×Int×Int×(List (ByteArray))×Int,(a.1.length=x23.2.2.2.1.length)∧((((aO slt) c17).1)=x23.1)∧((((aO slt) c19).1)=x23.2.1)∧((((aO slt) c21).1)=x23.2.2.1)∧SlQ (List.length (((aO slt) c21).2.1)) x23.2.2.2.1.length (gl aB (((aO slt) c21).2.1)) (gl aB x23.2.2.2.1) (((((aO slt) c21).2.2)=x23.2.2.2.2)∧I14 x23))))) (∃ x27:Int×Int×Int×(List (ByteArray))×Int,(a.1.length=x27.2.2.2.1.length)∧(v4=x27.1)∧(v7=x27.2.1)∧(v10=x27.2.2.1)∧SlQ a.1.length x27.2.2.2.1.length (gl aB a.1) (gl aB x27.2.2.2.1) (((0:Int)=x27.2.2.2.2)∧I14 x27)))∧∀ y30:Int×Int×Int×(List (ByteArray))×Int,I14 y30→((y30.2.2.2.1.length=y30.2.2.2.1.length)∧∃ c33:(List (ByteArray))×Int×Int×Int×Int,(y30.2.2.2.1.length=List.length c33.1)∧(y30.1=c33.2.1)∧(y30.2.1=c33.2.2.1)∧(y30.2.2.1=c33.2.2.2.1)∧SlQ y30.2.2.2.1.length c33.1.length (gl aB y30.2.2.2.1) (gl aB c33.1) ((y30.2.2.2.2=c33.2.2.2.2)∧(oP c33)∧∃ x35:Int×(List (ByteArray))×Int,(y30.2.2.2.1.length=x35.2.1.length)∧((((fL slt) c33).1)=x35.1)∧SlQ (List.length (((fL slt) c33).2.1)) x35.2.1.length (gl aB (((fL slt) c33).2.1)) (gl aB x35.2.1) (((((fL slt) c33).2.2)=x35.2.2)∧I11 x35)))) (∃ x37:Int×(List (ByteArray))×Int,(a.1.length=x37.2.1.length)∧(v7=x37.1)∧SlQ a.1.length x37.2.1.length (gl aB a.1) (gl aB x37.2.1) (((0:Int)=x37.2.2)∧I11 x37)))∧∀ y40:Int×(List (ByteArray))×Int,I11 y40→(Br (y40.2.2==(0:Int)) ((y40.1=(((aV slt) a).1))∧((1:Int)=(((aV slt) a).2.1))∧SlQ y40.2.1.length (List.length (((aV slt) a).2.2)) (gl aB y40.2.1) (gl aB (((aV slt) a).2.2)) (True)) (Br (y40.2.2==(12:Int)) ((y40.1=(((aV slt) a).1))∧((2:Int)=(((aV slt) a).2.1))∧SlQ y40.2.1.length (List.length (((aV slt) a).2.2)) (gl aB y40.2.1) (gl aB (((aV slt) a).2.2)) (True)) ((y40.1=(((aV slt) a).1))∧((0:Int)=(((aV slt) a).2.1))∧SlQ y40.2.1.length (List.length (((aV slt) a).2.2)) (gl aB y40.2.1) (gl aB (((aV slt) a).2.2)) (True))))))))))))))
def f214.vc (a:(List (ByteArray))×Int×Int):Prop:=(-9223372036854775808≤(a.2.2 - a.2.1)∧(a.2.2 - a.2.1)≤9223372036854775807∧(0≤(a.2.2 - a.2.1)∧(a.2.2 - a.2.1)≤9223372036854775807∧(-9223372036854775808≤(((a.2.2 - a.2.1) / (4:Int)) * (1:Int))∧(((a.2.2 - a.2.1) / (4:Int)) * (1:Int))≤9223372036854775807∧(-9223372036854775808≤(a.2.1+(((a.2.2 - a.2.1) / (4:Int)) * (1:Int)))∧(a.2.1+(((a.2.2 - a.2.1) / (4:Int)) * (1:Int)))≤9223372036854775807∧(0≤(a.2.2 - a.2.1)∧(a.2.2 - a.2.1)≤9223372036854775807∧(-9223372036854775808≤(((a.2.2 - a.2.1) / (4:Int)) * (2:Int))∧(((a.2.2 - a.2.1) / (4:Int)) * (2:Int))≤9223372036854775807∧(-9223372036854775808≤(a.2.1+(((a.2.2 - a.2.1) / (4:Int)) * (2:Int)))∧(a.2.1+(((a.2.2 - a.2.1) / (4:Int)) * (2:Int)))≤9223372036854775807∧(0≤(a.2.2 - a.2.1)∧(a.2.2 - a.2.1)≤9223372036854775807∧(-9223372036854775808≤(((a.2.2 - a.2.1) / (4:Int)) * (3:Int))∧(((a.2.2 - a.2.1) / (4:Int)) * (3:Int))≤9223372036854775807∧(-9223372036854775808≤(a.2.1+(((a.2.2 - a.2.1) / (4:Int)) * (3:Int)))∧(a.2.1+(((a.2.2 - a.2.1) / (4:Int)) * (3:Int)))≤9223372036854775807∧(∃ I11:(Int×(List (ByteArray))×Int)→Prop,((((8:Int)≤(a.2.2 - a.2.1)→(∃ I14:(Int×Int×Int×(List (ByteArray))×Int)→Prop,((((50:Int)≤(a.2.2 - a.2.1)→(iB (a.1,(a.2.1+(((a.2.2 - a.2.1) / (4:Int)) * (1:Int))),(0:Int))∧((List.length (((aO slt) (a.1,(a.2.1+(((a.2.2 - a.2.1) / (4:Int)) * (1:Int))),(0:Int))).2.1))=a.1.length∧(iB (((aO slt) (a.1,(a.2.1+(((a.2.2 - a.2.1) / (4:Int)) * (1:Int))),(0:Int))).2.1,(a.2.1+(((a.2.2 - a.2.1) / (4:Int)) * (2:Int))),((aO slt) (a.1,(a.2.1+(((a.2.2 - a.2.1) / (4:Int)) * (1:Int))),(0:Int))).2.2)∧((List.length (((aO slt) (((aO slt) (a.1,(a.2.1+(((a.2.2 - a.2.1) / (4:Int)) * (1:Int))),(0:Int))).2.1,(a.2.1+(((a.2.2 - a.2.1) / (4:Int)) * (2:Int))),((aO slt) (a.1,(a.2.1+(((a.2.2 - a.2.1) / (4:Int)) * (1:Int))),(0:Int))).2.2)).2.1))=a.1.length∧(iB (((aO slt) (((aO slt) (a.1,(a.2.1+(((a.2.2 - a.2.1) / (4:Int)) * (1:Int))),(0:Int))).2.1,(a.2.1+(((a.2.2 - a.2.1) / (4:Int)) * (2:Int))),((aO slt) (a.1,(a.2.1+(((a.2.2 - a.2.1) / (4:Int)) * (1:Int))),(0:Int))).2.2)).2.1,(a.2.1+(((a.2.2 - a.2.1) / (4:Int)) * (3:Int))),((aO slt) (((aO slt) (a.1,(a.2.1+(((a.2.2 - a.2.1) / (4:Int)) * (1:Int))),(0:Int))).2.1,(a.2.1+(((a.2.2 - a.2.1) / (4:Int)) * (2:Int))),((aO slt) (a.1,(a.2.1+(((a.2.2 - a.2.1) / (4:Int)) * (1:Int))),(0:Int))).2.2)).2.2)∧((List.length (((aO slt) (((aO slt) (((aO slt) (a.1,(a.2.1+(((a.2.2 - a.2.1) / (4:Int)) * (1:Int))),(0:Int))).2.1,(a.2.1+(((a.2.2 - a.2.1) / (4:Int)) * (2:Int))),((aO slt) (a.1,(a.2.1+(((a.2.2 - a.2.1) / (4:Int)) * (1:Int))),(0:Int))).2.2)).2.1,(a.2.1+(((a.2.2 - a.2.1) / (4:Int)) * (3:Int))),((aO slt) (((aO slt) (a.1,(a.2.1+(((a.2.2 - a.2.1) / (4:Int)) * (1:Int))),(0:Int))).2.1,(a.2.1+(((a.2.2 - a.2.1) / (4:Int)) * (2:Int))),((aO slt) (a.1,(a.2.1+(((a.2.2 - a.2.1) / (4:Int)) * (1:Int))),(0:Int))).2.2)).2.2)).2.1))=a.1.length∧(I14 (((aO slt) (a.1,(a.2.1+(((a.2.2 - a.2.1) / (4:Int)) * (1:Int))),(0:Int))).1,((aO slt) (((aO slt) (a.1,(a.2.1+(((a.2.2 - a.2.1) / (4:Int)) * (1:Int))),(0:Int))).2.1,(a.2.1+(((a.2.2 - a.2.1) / (4:Int)) * (2:Int))),((aO slt) (a.1,(a.2.1+(((a.2.2 - a.2.1) / (4:Int)) * (1:Int))),(0:Int))).2.2)).1,((aO slt) (((aO slt) (((aO slt) (a.1,(a.2.1+(((a.2.2 - a.2.1) / (4:Int)) * (1:Int))),(0:Int))).2.1,(a.2.1+(((a.2.2 - a.2.1) / (4:Int)) * (2:Int))),((aO slt) (a.1,(a.2.1+(((a.2.2 - a.2.1) / (4:Int)) * (1:Int))),(0:Int))).2.2)).2.1,(a.2.1+(((a.2.2 - a.2.1) / (4:Int)) * (3:Int))),((aO slt) (((aO slt) (a.1,(a.2.1+(((a.2.2 - a.2.1) / (4:Int)) * (1:Int))),(0:Int))).2.1,(a.2.1+(((a.2.2 - a.2.1) / (4:Int)) * (2:Int))),((aO slt) (a.1,(a.2.1+(((a.2.2 - a.2.1) / (4:Int)) * (1:Int))),(0:Int))).2.2)).2.2)).1,((aO slt) (((aO slt) (((aO slt) (a.1,(a.2.1+(((a.2.2 - a.2.1) / (4:Int)) * (1:Int))),(0:Int))).2.1,(a.2.1+(((a.2.2 - a.2.1) / (4:Int)) * (2:Int))),((aO slt) (a.1,(a.2.1+(((a.2.2 - a.2.1) / (4:Int)) * (1:Int))),(0:Int))).2.2)).2.1,(a.2.1+(((a.2.2 - a.2.1) / (4:Int)) * (3:Int))),((aO slt) (((aO slt) (a.1,(a.2.1+(((a.2.2 - a.2.1) / (4:Int)) * (1:Int))),(0:Int))).2.1,(a.2.1+(((a.2.2 - a.2.1) / (4:Int)) * (2:Int))),((aO slt) (a.1,(a.2.1+(((a.2.2 - a.2.1) / (4:Int)) * (1:Int))),(0:Int))).2.2)).2.2)).2.1,((aO slt) (((aO slt) (((aO slt) (a.1,(a.2.1+(((a.2.2 - a.2.1) / (4:Int)) * (1:Int))),(0:Int))).2.1,(a.2.1+(((a.2.2 - a.2.1) / (4:Int)) * (2:Int))),((aO slt) (a.1,(a.2.1+(((a.2.2 - a.2.1) / (4:Int)) * (1:Int))),(0:Int))).2.2)).2.1,(a.2.1+(((a.2.2 - a.2.1) / (4:Int)) * (3:Int))),((aO slt) (((aO slt) (a.1,(a.2.1+(((a.2.2 - a.2.1) / (4:Int)) * (1:Int))),(0:Int))).2.1,(a.2.1+(((a.2.2 - a.2.1) / (4:Int)) * (2:Int))),((aO slt) (a.1,(a.2.1+(((a.2.2 - a.2.1) / (4:Int)) * (1:Int))),(0:Int))).2.2)).2.2)).2.2)))))))))∧(¬((50:Int)≤(a.2.2 - a.2.1))→(I14 ((a.2.1+(((a.2.2 - a.2.1) / (4:Int)) * (1:Int))),(a.2.1+(((a.2.2 - a.2.1) / (4:Int)) * (2:Int))),(a.2.1+(((a.2.2 - a.2.1) / (4:Int)) * (3:Int))),a.1,(0:Int))))))∧∀ y30:Int×Int×Int×(List (ByteArray))×Int,I14 y30→(oP (y30.2.2.2.1,y30.1,y30.2.1,y30.2.2.1,y30.2.2.2.2)∧((List.length (((fL slt) (y30.2.2.2.1,y30.1,y30.2.1,y30.2.2.1,y30.2.2.2.2)).2.1))=y30.2.2.2.1.length∧(I11 (((fL slt) (y30.2.2.2.1,y30.1,y30.2.1,y30.2.2.1,y30.2.2.2.2)).1,((fL slt) (y30.2.2.2.1,y30.1,y30.2.1,y30.2.2.1,y30.2.2.2.2)).2.1,((fL slt) (y30.2.2.2.1,y30.1,y30.2.1,y30.2.2.1,y30.2.2.2.2)).2.2))))))∧(¬((8:Int)≤(a.2.2 - a.2.1))→(I11 ((a.2.1+(((a.2.2 - a.2.1) / (4:Int)) * (2:Int))),a.1,(0:Int))))))∧∀ y40:Int×(List (ByteArray))×Int,I11 y40→((y40.2.2=(0:Int)→((y40.1,(1:Int),y40.2.1)=(aV slt) a))∧(¬(y40.2.2=(0:Int))→((y40.2.2=(12:Int)→((y40.1,(2:Int),y40.2.1)=(aV slt) a))∧(¬(y40.2.2=(12:Int))→((y40.1,(0:Int),y40.2.1)=(aV slt) a))))))))))))))))
theorem f214.of (a:(List (ByteArray))×Int×Int) (h:f214.vc a):f214.tree a:=wrapK.i64 h (fun h72 h73 k74=>divK.i64 k74.1 k74.2.1 (by decide) (wrapK.i64 k74.2.2 (fun h69 h70 k71=>wrapK.i64 k71 (fun h66 h67 k68=>divK.i64 k68.1 k68.2.1 (by decide) (wrapK.i64 k68.2.2 (fun h63 h64 k65=>wrapK.i64 k65 (fun h60 h61 k62=>divK.i64 k62.1 k62.2.1 (by decide) (wrapK.i64 k62.2.2 (fun h57 h58 k59=>wrapK.i64 k59 (fun h54 h55 k56=>Exists.elim k56 (fun I11 h42=>⟨I11,br h42.1 Cnd.dec (fun h12 k38=>Exists.elim k38 (fun I14 h32=>⟨I14,br h32.1 Cnd.dec (fun h15 k28=>⟨rfl,⟨(a.1,(a.2.1+(((a.2.2 - a.2.1) / (4:Int)) * (1:Int))),(0:Int)),⟨(bB (gl aB a.1) (rS aB)),⟨rfl,slQ (rS aB) (⟨rfl,⟨k28.1,jX k28.2 (fun (h18:(List.length (((aO slt) (a.1,(a.2.1+(((a.2.2 - a.2.1) / (4:Int)) * (1:Int))),(0:Int))).2.1))=a.1.length) hk=>⟨(h18).symm,⟨(((aO slt) (a.1,(a.2.1+(((a.2.2 - a.2.1) / (4:Int)) * (1:Int))),(0:Int))).2.1,(a.2.1+(((a.2.2 - a.2.1) / (4:Int)) * (2:Int))),((aO slt) (a.1,(a.2.1+(((a.2.2 - a.2.1) / (4:Int)) * (1:Int))),(0:Int))).2.2),⟨((h18).symm.trans (bB (gl aB (((aO slt) (a.1,(a.2.1+(((a.2.2 - a.2.1) / (4:Int)) * (1:Int))),(0:Int))).2.1)) (rS aB))),⟨rfl,slQ (rS aB) (⟨rfl,⟨hk.1,jX hk.2 (fun (h20:(List.length (((aO slt) (((aO slt) (a.1,(a.2.1+(((a.2.2 - a.2.1) / (4:Int)) * (1:Int))),(0:Int))).2.1,(a.2.1+(((a.2.2 - a.2.1) / (4:Int)) * (2:Int))),((aO slt) (a.1,(a.2.1+(((a.2.2 - a.2.1) / (4:Int)) * (1:Int))),(0:Int))).2.2)).2.1))=a.1.length) hk=>⟨(h20).symm,⟨(((aO slt) (((aO slt) (a.1,(a.2.1+(((a.2.2 - a.2.1) / (4:Int)) * (1:Int))),(0:Int))).2.1,(a.2.1+(((a.2.2 - a.2.1) / (4:Int)) * (2:Int))),((aO slt) (a.1,(a.2.1+(((a.2.2 - a.2.1) / (4:Int)) * (1:Int))),(0:Int))).2.2)).2.1,(a.2.1+(((a.2.2 - a.2.1) / (4:Int)) * (3:Int))),((aO slt) (((aO slt) (a.1,(a.2.1+(((a.2.2 - a.2.1) / (4:Int)) * (1:Int))),(0:Int))).2.1,(a.2.1+(((a.2.2 - a.2.1) / (4:Int)) * (2:Int))),((aO slt) (a.1,(a.2.1+(((a.2.2 - a.2.1) / (4:Int)) * (1:Int))),(0:Int))).2.2)).2.2),⟨((h20).symm.trans (bB (gl aB (((aO slt) (((aO slt) (a.1,(a.2.1+(((a.2.2 - a.2.1) / (4:Int)) * (1:Int))),(0:Int))).2.1,(a.2.1+(((a.2.2 - a.2.1) / (4:Int)) * (2:Int))),((aO slt) (a.1,(a.2.1+(((a.2.2 - a.2.1) / (4:Int)) * (1:Int))),(0:Int))).2.2)).2.1)) (rS aB))),⟨rfl,slQ (rS aB) (⟨rfl,⟨hk.1,jX hk.2 (fun (h22:(List.length (((aO slt) (((aO slt) (((aO slt) (a.1,(a.2.1+(((a.2.2 - a.2.1) / (4:Int)) * (1:Int))),(0:Int))).2.1,(a.2.1+(((a.2.2 - a.2.1) / (4:Int)) * (2:Int))),((aO slt) (a.1,(a.2.1+(((a.2.2 - a.2.1) / (4:Int)) * (1:Int))),(0:Int))).2.2)).2.1,(a.2.1+(((a.2.2 - a.2.1) / (4:Int)) * (3:Int))),((aO slt) (((aO slt) (a.1,(a.2.1+(((a.2.2 - a.2.1) / (4:Int)) * (1:Int))),(0:Int))).2.1,(a.2.1+(((a.2.2 - a.2.1) / (4:Int)) * (2:Int))),((aO slt) (a.1,(a.2.1+(((a.2.2 - a.2.1) / (4:Int)) * (1:Int))),(0:Int))).2.2)).2.2)).2.1))=a.1.length) hk=>⟨(((aO slt) (a.1,(a.2.1+(((a.2.2 - a.2.1) / (4:Int)) * (1:Int))),(0:Int))).1,((aO slt) (((aO slt) (a.1,(a.2.1+(((a.2.2 - a.2.1) / (4:Int)) * (1:Int))),(0:Int))).2.1,(a.2.1+(((a.2.2 - a.2.1) / (4:Int)) * (2:Int))),((aO slt) (a.1,(a.2.1+(((a.2.2 - a.2.1) / (4:Int)) * (1:Int))),(0:Int))).2.2)).1,((aO slt) (((aO slt) (((aO slt) (a.1,(a.2.1+(((a.2.2 - a.2.1) / (4:Int)) * (1:Int))),(0:Int))).2.1,(a.2.1+(((a.2.2 - a.2.1) / (4:Int)) * (2:Int))),((aO slt) (a.1,(a.2.1+(((a.2.2 - a.2.1) / (4:Int)) * (1:Int))),(0:Int))).2.2)).2.1,(a.2.1+(((a.2.2 - a.2.1) / (4:Int)) * (3:Int))),((aO slt) (((aO slt) (a.1,(a.2.1+(((a.2.2 - a.2.1) / (4:Int)) * (1:Int))),(0:Int))).2.1,(a.2.1+(((a.2.2 - a.2.1) / (4:Int)) * (2:Int))),((aO slt) (a.1,(a.2.1+(((a.2.2 - a.2.1) / (4:Int)) * (1:Int))),(0:Int))).2.2)).2.2)).1,((aO slt) (((aO slt) (((aO slt) (a.1,(a.2.1+(((a.2.2 - a.2.1) / (4:Int)) * (1:Int))),(0:Int))).2.1,(a.2.1+(((a.2.2 - a.2.1) / (4:Int)) * (2:Int))),((aO slt) (a.1,(a.2.1+(((a.2.2 - a.2.1) / (4:Int)) * (1:Int))),(0:Int))).2.2)).2.1,(a.2.1+(((a.2.2 - a.2.1) / (4:Int)) * (3:Int))),((aO slt) (((aO slt) (a.1,(a.2.1+(((a.2.2 - a.2.1) / (4:Int)) * (1:Int))),(0:Int))).2.1,(a.2.1+(((a.2.2 - a.2.1) / (4:Int)) * (2:Int))),((aO slt) (a.1,(a.2.1+(((a.2.2 - a.2.1) / (4:Int)) * (1:Int))),(0:Int))).2.2)).2.2)).2.1,((aO slt) (((aO slt) (((aO slt) (a.1,(a.2.1+(((a.2.2 - a.2.1) / (4:Int)) * (1:Int))),(0:Int))).2.1,(a.2.1+(((a.2.2 - a.2.1) / (4:Int)) * (2:Int))),((aO slt) (a.1,(a.2.1+(((a.2.2 - a.2.1) / (4:Int)) * (1:Int))),(0:Int))).2.2)).2.1,(a.2.1+(((a.2.2 - a.2.1) / (4:Int)) * (3:Int))),((aO slt) (((aO slt) (a.1,(a.2.1+(((a.2.2 - a.2.1) / (4:Int)) * (1:Int))),(0:Int))).2.1,(a.2.1+(((a.2.2 - a.2.1) / (4:Int)) * (2:Int))),((aO slt) (a.1,(a.2.1+(((a.2.2 - a.2.1) / (4:Int)) * (1:Int))),(0:Int))).2.2)).2.2)).2.2),⟨((h22).symm.trans (bB (gl aB (((aO slt) (((aO slt) (((aO slt) (a.1,(a.2.1+(((a.2.2 - a.2.1) / (4:Int)) * (1:Int))),(0:Int))).2.1,(a.2.1+(((a.2.2 - a.2.1) / (4:Int)) * (2:Int))),((aO slt) (a.1,(a.2.1+(((a.2.2 - a.2.1) / (4:Int)) * (1:Int))),(0:Int))).2.2)).2.1,(a.2.1+(((a.2.2 - a.2.1) / (4:Int)) * (3:Int))),((aO slt) (((aO slt) (a.1,(a.2.1+(((a.2.2 - a.2.1) / (4:Int)) * (1:Int))),(0:Int))).2.1,(a.2.1+(((a.2.2 - a.2.1) / (4:Int)) * (2:Int))),((aO slt) (a.1,(a.2.1+(((a.2.2 - a.2.1) / (4:Int)) * (1:Int))),(0:Int))).2.2)).2.2)).2.1)) (rS aB))),⟨rfl,⟨rfl,⟨rfl,slQ (rS aB) (⟨rfl,hk⟩)⟩⟩⟩⟩⟩)⟩⟩)⟩⟩⟩⟩)⟩⟩)⟩⟩⟩⟩)⟩⟩)⟩⟩⟩⟩) (fun h16 k29=>⟨((a.2.1+(((a.2.2 - a.2.1) / (4:Int)) * (1:Int))),(a.2.1+(((a.2.2 - a.2.1) / (4:Int)) * (2:Int))),(a.2.1+(((a.2.2 - a.2.1) / (4:Int)) * (3:Int))),a.1,(0:Int)),⟨(bB (gl aB a.1) (rS aB)),⟨rfl,⟨rfl,⟨rfl,slQ (rS aB) (⟨rfl,k29⟩)⟩⟩⟩⟩⟩),fun y30 h31=>⟨rfl,⟨(y30.2.2.2.1,y30.1,y30.2.1,y30.2.2.1,y30.2.2.2.2),⟨(bB (gl aB y30.2.2.2.1) (rS aB)),⟨rfl,⟨rfl,⟨rfl,slQ (rS aB) (⟨rfl,⟨(h32.2 y30 h31).1,jX ((h32.2 y30 h31).2) (fun (h34:(List.length (((fL slt) (y30.2.2.2.1,y30.1,y30.2.1,y30.2.2.1,y30.2.2.2.2)).2.1))=y30.2.2.2.1.length) hk=>⟨(((fL slt) (y30.2.2.2.1,y30.1,y30.2.1,y30.2.2.1,y30.2.2.2.2)).1,((fL slt) (y30.2.2.2.1,y30.1,y30.2.1,y30.2.2.1,y30.2.2.2.2)).2.1,((fL slt) (y30.2.2.2.1,y30.1,y30.2.1,y30.2.2.1,y30.2.2.2.2)).2.2),⟨((h34).symm.trans (bB (gl aB (((fL slt) (y30.2.2.2.1,y30.1,y30.2.1,y30.2.2.1,y30.2.2.2.2)).2.1)) (rS aB))),⟨rfl,slQ (rS aB) (⟨rfl,hk⟩)⟩⟩⟩)⟩⟩)⟩⟩⟩⟩⟩⟩⟩)) (fun h13 k39=>⟨((a.2.1+(((a.2.2 - a.2.1) / (4:Int)) * (2:Int))),a.1,(0:Int)),⟨(bB (gl aB a.1) (rS aB)),⟨rfl,slQ (rS aB) (⟨rfl,k39⟩)⟩⟩⟩),fun y40 h41=>br (h42.2 y40 h41) Cnd.eq (fun h43 k52=>⟨(congrArg (fun x:Int×Int×(List (ByteArray))=>x.1) k52 :),⟨(congrArg (fun x:Int×Int×(List (ByteArray))=>x.2.1) k52 :),slQ (Rds.to (rS aB) (congrArg (fun x:Int×Int×(List (ByteArray))=>x.2.2) k52 :)) (trivial)⟩⟩) (fun h44 k53=>br k53 Cnd.eq (fun h46 k50=>⟨(congrArg (fun x:Int×Int×(List (ByteArray))=>x.1) k50 :),⟨(congrArg (fun x:Int×Int×(List (ByteArray))=>x.2.1) k50 :),slQ (Rds.to (rS aB) (congrArg (fun x:Int×Int×(List (ByteArray))=>x.2.2) k50 :)) (trivial)⟩⟩) (fun h47 k51=>⟨(congrArg (fun x:Int×Int×(List (ByteArray))=>x.1) k51 :),⟨(congrArg (fun x:Int×Int×(List (ByteArray))=>x.2.1) k51 :),slQ (Rds.to (rS aB) (congrArg (fun x:Int×Int×(List (ByteArray))=>x.2.2) k51 :)) (trivial)⟩⟩))⟩)))))))))))
theorem f214.eq (a:(List (ByteArray))×Int×Int):(f214.af a).gives f214.env (f214.args a) (f214.blks a) (f214.res a) (f214.blks' a)=f214.tree a:=by kernel_rfl
def f215.args (a:(List (ByteArray))×Int×Int):List D:=[.msl 0 1 a.1.length,.int .i64 a.2.1,.int .i64 a.2.2]
def f215.blks (a:(List (ByteArray))×Int×Int):List (List D):=[[.dead,.arr false 1 a.1.length (gl aB a.1)]]
def f215.res (a:(List (ByteArray))×Int×Int):List D:=[]
def f215.blks' (a:(List (ByteArray))×Int×Int):List (List D):=[[.dead,.arr false 1 (List.length (rC a)) (gl aB (rC a))]]
def f215.C:aP:=FnC f215.args f215.blks (fun a=>gN a) f215.res f215.blks'
def f215.S0 (a:(List (ByteArray))×Int×Int) (x:Int×Int×(List (ByteArray))):Tm:=⟨.msl 0 1 x.2.2.length::.dead::.dead::.dead::.dead::.dead::.int .i64 x.1::.int .i64 x.2.1::dd 24 [],[(0,false,[.dead,.arr false 1 x.2.2.length (gl aB x.2.2)])],[]⟩
def f215.kills (a:(List (ByteArray))×Int×Int):List Hint:=[.tell (Int×Int×(List (ByteArray))) (f215.S0 a)]
def f215.cuts (a:(List (ByteArray))×Int×Int):List (Nat×Σ β:Type,β→Tm):=[(999999,⟨Unit,fun x=>⟨[],[],[]⟩⟩)]
def f215.af (a:(List (ByteArray))×Int×Int):AF:=AF.mk (.seq (.region [mR 8 0 1,
 mR 6 1 8])
 (.seq (.region [mR 9 2 2,
 ⟨(some 10),1000003,(.bin .sub),[.t 9,.c (.int .i64 (1))],none⟩,
 mR 7 4 10])
 (.block 0 (.loopT (Int×Int×(List (ByteArray))) (f215.S0 a) 1000005 1000030 (.seq (.seq (.region [mR 11 5 6,
 mR 12 6 7,
 oR 13 7 (.bin .lss) [11,12]])
 (.cond (.t 13) (.skip) (.exit 0)))
 (.block 1 (.seq (.region [mR 14 8 0,
 mR 15 9 6,
 mR 16 10 0,
 mR 17 11 7,
 mR 18 12 0,
 mR 19 13 7,
 oR 20 14 (.indexAddr 1 none) [18,19],
 oR 21 15 (.load false 1) [20],
 mR 22 16 0,
 mR 23 17 6,
 oR 24 18 (.indexAddr 1 none) [22,23],
 oR 25 19 (.load false 1) [24],
 oR 26 20 (.indexAddr 1 none) [14,15],
 ⟨none,1000021,(.store 1),[.t 26,.t 21],none⟩,
 oR 27 22 (.indexAddr 1 none) [16,17],
 ⟨none,1000023,(.store 1),[.t 27,.t 25],none⟩])
 (.seq (.region [mR 28 24 6,
 ⟨(some 29),1000025,(.bin .add),[.t 28,.c (.int .i64 (1))],none⟩,
 mR 6 26 29])
 (.region [mR 30 27 7,
 ⟨(some 31),1000028,(.bin .sub),[.t 30,.c (.int .i64 (1))],none⟩,
 mR 7 29 31])))))))))
 [] 1 29
def f215.env:Env:=[]
def f215.tree (a:(List (ByteArray))×Int×Int):Prop:=Let (wI (a.2.2 - (1:Int))) (fun v1:Int=>∃ (I3:(Int×Int×(List (ByteArray)))→Prop) (μ4:(Int×Int×(List (ByteArray)))→Nat),(∃ x2:Int×Int×(List (ByteArray)),(a.1.length=x2.2.2.length)∧(a.2.1=x2.1)∧(v1=x2.2.1)∧SlQ a.1.length x2.2.2.length (gl aB a.1) (gl aB x2.2.2) (I3 x2))∧∀ y5:Int×Int×(List (ByteArray)),I3 y5→(Br (decide (y5.1 < y5.2.1)) (Br (decide ((0:Int)≤y5.2.1)&&decide (y5.2.1 < (List.length y5.2.2:Int))) ((y5.2.2.length=y5.2.2.length)∧(Br (decide ((0:Int)≤y5.1)&&decide (y5.1 < (List.length y5.2.2:Int))) ((y5.2.2.length=y5.2.2.length)∧(Br (decide ((0:Int)≤y5.1)&&decide (y5.1 < (List.length y5.2.2:Int))) ((y5.2.2.length=y5.2.2.length)∧(Br (decide ((0:Int)≤y5.2.1)&&decide (y5.2.1 < (List.length y5.2.2:Int))) ((y5.2.2.length=y5.2.2.length)∧(Let (wI (y5.1+(1:Int))) (fun v12:Int=>Let (wI (y5.2.1 - (1:Int))) (fun v13:Int=>∃ x14:Int×Int×(List (ByteArray)),(y5.2.2.length=x14.2.2.length)∧(v12=x14.1)∧(v13=x14.2.1)∧SlQ y5.2.2.length x14.2.2.length (gset (gset (gl aB y5.2.2) (Int.toNat y5.1) [.str (at_ y5.2.2 y5.2.1)]) (Int.toNat y5.2.1) [.str (at_ y5.2.2 y5.1)]) (gl aB x14.2.2) (I3 x14∧μ4 x14 < μ4 y5))))) False)) False)) False)) False) (SlQ y5.2.2.length (List.length (rC a)) (gl aB y5.2.2) (gl aB (rC a)) (True))))
def f215.vc (a:(List (ByteArray))×Int×Int):Prop:=(-9223372036854775808≤(a.2.2 - (1:Int))∧(a.2.2 - (1:Int))≤9223372036854775807∧(∃ (I3:(Int×Int×(List (ByteArray)))→Prop) (μ4:(Int×Int×(List (ByteArray)))→Nat),I3 (a.2.1,(a.2.2 - (1:Int)),a.1)∧∀ y5:Int×Int×(List (ByteArray)),I3 y5→((y5.1 < y5.2.1→((0:Int)≤y5.2.1∧y5.2.1 < (List.length y5.2.2:Int)∧((0:Int)≤y5.1∧y5.1 < (List.length y5.2.2:Int)∧((0:Int)≤y5.1∧y5.1 < (List.length y5.2.2:Int)∧((0:Int)≤y5.2.1∧y5.2.1 < (List.length y5.2.2:Int)∧(-9223372036854775808≤(y5.1+(1:Int))∧(y5.1+(1:Int))≤9223372036854775807∧(-9223372036854775808≤(y5.2.1 - (1:Int))∧(y5.2.1 - (1:Int))≤9223372036854775807∧(I3 ((y5.1+(1:Int)),(y5.2.1 - (1:Int)),List.set (List.set y5.2.2 (Int.toNat y5.1) (at_ y5.2.2 y5.2.1)) (Int.toNat y5.2.1) (at_ y5.2.2 y5.1))∧μ4 ((y5.1+(1:Int)),(y5.2.1 - (1:Int)),List.set (List.set y5.2.2 (Int.toNat y5.1) (at_ y5.2.2 y5.2.1)) (Int.toNat y5.2.1) (at_ y5.2.2 y5.1)) < μ4 y5))))))))∧(¬(y5.1 < y5.2.1)→(y5.2.2=rC a)))))
theorem f215.of (a:(List (ByteArray))×Int×Int) (h:f215.vc a):f215.tree a:=wrapK.i64 h (fun h32 h33 k34=>Exists.elim k34 (fun I3 h29_=>Exists.elim h29_ (fun μ4 h29=>⟨I3,μ4,⟨(a.2.1,(a.2.2 - (1:Int)),a.1),⟨(bB (gl aB a.1) (rS aB)),⟨rfl,⟨rfl,slQ (rS aB) (h29.1)⟩⟩⟩⟩,fun y5 h31=>br (h29.2 y5 h31) Cnd.dec (fun h6 k27=>chk k27.2.2 Cnd.ix ⟨k27.1,k27.2.1⟩ (fun h8 k25=>⟨rfl,chk k25.2.2 Cnd.ix ⟨k25.1,k25.2.1⟩ (fun h9 k24=>⟨rfl,chk k24.2.2 Cnd.ix ⟨k24.1,k24.2.1⟩ (fun h10 k23=>⟨rfl,chk k23.2.2 Cnd.ix ⟨k23.1,k23.2.1⟩ (fun h11 k22=>⟨rfl,wrapK.i64 k22 (fun h19 h20 k21=>wrapK.i64 k21 (fun h16 h17 k18=>⟨((y5.1+(1:Int)),(y5.2.1 - (1:Int)),List.set (List.set y5.2.2 (Int.toNat y5.1) (at_ y5.2.2 y5.2.1)) (Int.toNat y5.2.1) (at_ y5.2.2 y5.1)),⟨(bB (gset (gset (gl aB y5.2.2) (Int.toNat y5.1) [.str (at_ y5.2.2 y5.2.1)]) (Int.toNat y5.2.1) [.str (at_ y5.2.2 y5.1)]) (Rds.gset (enc:=aB) (Rds.gset (enc:=aB) (rS aB) (DEqs.refl _)) (DEqs.refl _))),⟨rfl,⟨rfl,slQ (Rds.gset (enc:=aB) (Rds.gset (enc:=aB) (rS aB) (DEqs.refl _)) (DEqs.refl _)) (k18)⟩⟩⟩⟩))⟩)⟩)⟩)⟩)) (fun h7 k28=>slQ (Rds.to (rS aB) k28) (trivial))⟩)))
theorem f215.eq (a:(List (ByteArray))×Int×Int):(f215.af a).gives f215.env (f215.args a) (f215.blks a) (f215.res a) (f215.blks' a)=f215.tree a:=by kernel_rfl
def f216.args (a:(List (ByteArray))×Int×Int):List D:=[.msl 0 1 a.1.length,.int .i64 a.2.1,.int .i64 a.2.2]
def f216.blks (a:(List (ByteArray))×Int×Int):List (List D):=[[.dead,.arr false 1 a.1.length (gl aB a.1)]]
def f216.res (a:(List (ByteArray))×Int×Int):List D:=[.bool (((bI slt) a).1)]
def f216.blks' (a:(List (ByteArray))×Int×Int):List (List D):=[[.dead,.arr false 1 (List.length (((bI slt) a).2)) (gl aB (((bI slt) a).2))]]
def f216.C:aP:=FnC f216.args f216.blks (fun a=>fS a) f216.res f216.blks'
def f216.S0 (a:(List (ByteArray))×Int×Int) (x:Int×Int×(List (ByteArray))):Tm:=⟨.msl 0 1 x.2.2.length::.int .i64 a.2.1::.int .i64 a.2.2::.dead::.dead::.dead::.dead::.int .i64 x.1::.int .i64 x.2.1::dd 124 [],[(0,false,[.dead,.arr false 1 x.2.2.length (gl aB x.2.2)])],[]⟩
def f216.S1 (a:(List (ByteArray))×Int×Int) (x:Int×Int×(List (ByteArray))):Tm:=⟨.msl 0 1 x.2.2.length::.int .i64 a.2.1::.int .i64 a.2.2::.dead::.dead::.dead::.dead::.int .i64 x.1::.int .i64 x.2.1::dd 124 [],[(0,false,[.dead,.arr false 1 x.2.2.length (gl aB x.2.2)])],[]⟩
def f216.S2 (a:(List (ByteArray))×Int×Int) (x:Int×Int×Int×(List (ByteArray))):Tm:=⟨.msl 0 1 x.2.2.2.length::.int .i64 a.2.1::.int .i64 a.2.2::.dead::.dead::.dead::.dead::.int .i64 x.1::.int .i64 x.2.1::.int .i64 x.2.2.1::dd 123 [],[(0,false,[.dead,.arr false 1 x.2.2.2.length (gl aB x.2.2.2)])],[]⟩
def f216.S3 (a:(List (ByteArray))×Int×Int) (x:Int×Int×Int×(List (ByteArray))):Tm:=⟨.msl 0 1 x.2.2.2.length::.int .i64 a.2.1::.int .i64 a.2.2::.dead::.dead::.dead::.dead::.int .i64 x.1::.int .i64 x.2.1::.dead::.int .i64 x.2.2.1::dd 122 [],[(0,false,[.dead,.arr false 1 x.2.2.2.length (gl aB x.2.2.2)])],[]⟩
def f216.kills (a:(List (ByteArray))×Int×Int):List Hint:=[.tell (Int×Int×(List (ByteArray))) (f216.S0 a),
 .tell (Int×Int×(List (ByteArray))) (f216.S1 a),
 .tell (Int×Int×Int×(List (ByteArray))) (f216.S2 a),
 .tell (Int×Int×Int×(List (ByteArray))) (f216.S3 a)]
def f216.cuts (a:(List (ByteArray))×Int×Int):List (Nat×Σ β:Type,β→Tm):=[(999999,⟨Unit,fun x=>⟨[],[],[]⟩⟩),
 (100007,⟨Int×Int×(List (ByteArray)),fun x=>⟨.msl 0 1 x.2.2.length::.int .i64 a.2.1::.int .i64 a.2.2::.dead::.dead::.dead::.dead::.int .i64 x.1::.int .i64 x.2.1::dd 124 [],[(0,false,[.dead,.arr false 1 x.2.2.length (gl aB x.2.2)])],[]⟩⟩),
 (100017,⟨Int×Int×(List (ByteArray)),fun x=>⟨.msl 0 1 x.2.2.length::.int .i64 a.2.1::.int .i64 a.2.2::.dead::.dead::.dead::.dead::.int .i64 x.1::.int .i64 x.2.1::dd 124 [],[(0,false,[.dead,.arr false 1 x.2.2.length (gl aB x.2.2)])],[]⟩⟩),
 (100006,⟨Int×Int×(List (ByteArray)),fun x=>⟨.msl 0 1 x.2.2.length::.int .i64 a.2.1::.int .i64 a.2.2::.dead::.dead::.dead::.dead::.int .i64 x.1::.int .i64 x.2.1::dd 124 [],[(0,false,[.dead,.arr false 1 x.2.2.length (gl aB x.2.2)])],[]⟩⟩)]
def f216.af (a:(List (ByteArray))×Int×Int):AF:=AF.mk (.seq (.region [⟨(some 6),1000000,.move,[.c (.bool false)],none⟩])
 (.seq (.region [mR 11 1 1,
 ⟨(some 12),1000002,(.bin .add),[.t 11,.c (.int .i64 (1))],none⟩,
 mR 7 3 12])
 (.seq (.seq (.region [⟨(some 8),1000004,.move,[.c (.int .i64 (0))],none⟩])
 (.block 0 (.loopT (Int×Int×(List (ByteArray))) (f216.S0 a) 1000005 1000148 (.seq (.seq (.region [mR 13 5 8,
 ⟨(some 14),1000006,(.bin .lss),[.t 13,.c (.int .i64 (5))],none⟩])
 (.cond (.t 14) (.skip) (.exit 0)))
 (.joinT (Int×Int×(List (ByteArray))) (fun x=>⟨.msl 0 1 x.2.2.length::.int .i64 a.2.1::.int .i64 a.2.2::.dead::.dead::.dead::.dead::.int .i64 x.1::.int .i64 x.2.1::dd 124 [],[(0,false,[.dead,.arr false 1 x.2.2.length (gl aB x.2.2)])],[]⟩) (.block 1 (.joinT (Int×Int×(List (ByteArray))) (fun x=>⟨.msl 0 1 x.2.2.length::.int .i64 a.2.1::.int .i64 a.2.2::.dead::.dead::.dead::.dead::.int .i64 x.1::.int .i64 x.2.1::dd 124 [],[(0,false,[.dead,.arr false 1 x.2.2.length (gl aB x.2.2)])],[]⟩) (.block 2 (.loopT (Int×Int×(List (ByteArray))) (f216.S1 a) 1000007 1000029 (.seq (.seq (.region [mR 17 7 7,
 mR 18 8 2,
 oR 19 9 (.bin .lss) [17,18],
 mR 20 10 19,
 oG 21 1000011 .move [0] 20 true,
 oG 22 1000012 .move [7] 20 true,
 oG 23 1000013 (.indexAddr 1 none) [21,22] 20 true,
 oG 24 1000014 (.load false 1) [23] 20 true,
 oG 25 1000015 .move [0] 20 true,
 oG 26 1000016 .move [7] 20 true,
 ⟨(some 27),1000017,(.bin .sub),[.t 26,.c (.int .i64 (1))],(some (20,true))⟩,
 oG 28 1000018 (.indexAddr 1 none) [25,27] 20 true,
 oG 29 1000019 (.load false 1) [28] 20 true,
 oG 30 1000020 (.call false 217) [24,29] 20 true,
 oG 31 1000024 (.un .not) [30] 20 true,
 ⟨(some 32),1000025,.pick,[.t 20,.t 31,.c (.bool false)],none⟩])
 (.cond (.t 32) (.skip) (.exit 2)))
 (.block 3 (.region [mR 33 26 7,
 ⟨(some 34),1000027,(.bin .add),[.t 33,.c (.int .i64 (1))],none⟩,
 mR 7 28 34])))))
 (.seq (.seq (.region [mR 35 29 7,
 mR 36 30 2,
 oR 37 31 (.bin .eql) [35,36]])
 (.cond (.t 37) (.seq (.region [⟨(some 6),1000032,.move,[.c (.bool true)],none⟩])
 (.ret)) (.skip)))
 (.seq (.seq (.region [mR 38 33 2,
 mR 39 34 1,
 oR 40 35 (.bin .sub) [38,39],
 ⟨(some 41),1000036,(.bin .lss),[.t 40,.c (.int .i64 (50))],none⟩])
 (.cond (.t 41) (.seq (.region [⟨(some 6),1000037,.move,[.c (.bool false)],none⟩])
 (.ret)) (.skip)))
 (.seq (.region [mR 42 38 0,
 mR 43 39 7,
 mR 44 40 0,
 mR 45 41 7,
 ⟨(some 46),1000042,(.bin .sub),[.t 45,.c (.int .i64 (1))],none⟩,
 mR 47 43 0,
 mR 48 44 7,
 ⟨(some 49),1000045,(.bin .sub),[.t 48,.c (.int .i64 (1))],none⟩,
 oR 50 46 (.indexAddr 1 none) [47,49],
 oR 51 47 (.load false 1) [50],
 mR 52 48 0,
 mR 53 49 7,
 oR 54 50 (.indexAddr 1 none) [52,53],
 oR 55 51 (.load false 1) [54],
 oR 56 52 (.indexAddr 1 none) [42,43],
 ⟨none,1000053,(.store 1),[.t 56,.t 51],none⟩,
 oR 57 54 (.indexAddr 1 none) [44,46],
 ⟨none,1000055,(.store 1),[.t 57,.t 55],none⟩])
 (.joinT (Int×Int×(List (ByteArray))) (fun x=>⟨.msl 0 1 x.2.2.length::.int .i64 a.2.1::.int .i64 a.2.2::.dead::.dead::.dead::.dead::.int .i64 x.1::.int .i64 x.2.1::dd 124 [],[(0,false,[.dead,.arr false 1 x.2.2.length (gl aB x.2.2)])],[]⟩) (.seq (.region [mR 58 56 7,
 mR 59 57 1,
 oR 60 58 (.bin .sub) [58,59],
 ⟨(some 61),1000059,(.bin .geq),[.t 60,.c (.int .i64 (2))],none⟩])
 (.cond (.t 61) (.seq (.region [mR 62 60 7,
 ⟨(some 63),1000061,(.bin .sub),[.t 62,.c (.int .i64 (1))],none⟩,
 mR 9 62 63])
 (.block 4 (.loopT (Int×Int×Int×(List (ByteArray))) (f216.S2 a) 1000063 1000100 (.seq (.seq (.region [mR 64 63 9,
 ⟨(some 65),1000064,(.bin .geq),[.t 64,.c (.int .i64 (1))],none⟩])
 (.cond (.t 65) (.skip) (.exit 4)))
 (.seq (.block 5 (.seq (.seq (.region [mR 68 65 0,
 mR 69 66 9,
 oR 70 67 (.indexAddr 1 none) [68,69],
 oR 71 68 (.load false 1) [70],
 mR 72 69 0,
 mR 73 70 9,
 ⟨(some 74),1000071,(.bin .sub),[.t 73,.c (.int .i64 (1))],none⟩,
 oR 75 72 (.indexAddr 1 none) [72,74],
 oR 76 73 (.load false 1) [75],
 oR 77 74 (.call false 217) [71,76],
 oR 78 78 (.un .not) [77]])
 (.cond (.t 78) (.exit 4) (.skip)))
 (.region [mR 79 79 0,
 mR 80 80 9,
 mR 81 81 0,
 mR 82 82 9,
 ⟨(some 83),1000083,(.bin .sub),[.t 82,.c (.int .i64 (1))],none⟩,
 mR 84 84 0,
 mR 85 85 9,
 ⟨(some 86),1000086,(.bin .sub),[.t 85,.c (.int .i64 (1))],none⟩,
 oR 87 87 (.indexAddr 1 none) [84,86],
 oR 88 88 (.load false 1) [87],
 mR 89 89 0,
 mR 90 90 9,
 oR 91 91 (.indexAddr 1 none) [89,90],
 oR 92 92 (.load false 1) [91],
 oR 93 93 (.indexAddr 1 none) [79,80],
 ⟨none,1000094,(.store 1),[.t 93,.t 88],none⟩,
 oR 94 95 (.indexAddr 1 none) [81,83],
 ⟨none,1000096,(.store 1),[.t 94,.t 92],none⟩])))
 (.region [mR 66 97 9,
 ⟨(some 67),1000098,(.bin .sub),[.t 66,.c (.int .i64 (1))],none⟩,
 mR 9 99 67])))))) (.skip)))
 (.seq (.region [mR 95 100 2,
 mR 96 101 7,
 oR 97 102 (.bin .sub) [95,96],
 ⟨(some 98),1000103,(.bin .geq),[.t 97,.c (.int .i64 (2))],none⟩])
 (.cond (.t 98) (.seq (.region [mR 99 104 7,
 ⟨(some 100),1000105,(.bin .add),[.t 99,.c (.int .i64 (1))],none⟩,
 mR 10 106 100])
 (.block 6 (.loopT (Int×Int×Int×(List (ByteArray))) (f216.S3 a) 1000107 1000145 (.seq (.seq (.region [mR 101 107 10,
 mR 102 108 2,
 oR 103 109 (.bin .lss) [101,102]])
 (.cond (.t 103) (.skip) (.exit 6)))
 (.seq (.block 7 (.seq (.seq (.region [mR 106 110 0,
 mR 107 111 10,
 oR 108 112 (.indexAddr 1 none) [106,107],
 oR 109 113 (.load false 1) [108],
 mR 110 114 0,
 mR 111 115 10,
 ⟨(some 112),1000116,(.bin .sub),[.t 111,.c (.int .i64 (1))],none⟩,
 oR 113 117 (.indexAddr 1 none) [110,112],
 oR 114 118 (.load false 1) [113],
 oR 115 119 (.call false 217) [109,114],
 oR 116 123 (.un .not) [115]])
 (.cond (.t 116) (.exit 6) (.skip)))
 (.region [mR 117 124 0,
 mR 118 125 10,
 mR 119 126 0,
 mR 120 127 10,
 ⟨(some 121),1000128,(.bin .sub),[.t 120,.c (.int .i64 (1))],none⟩,
 mR 122 129 0,
 mR 123 130 10,
 ⟨(some 124),1000131,(.bin .sub),[.t 123,.c (.int .i64 (1))],none⟩,
 oR 125 132 (.indexAddr 1 none) [122,124],
 oR 126 133 (.load false 1) [125],
 mR 127 134 0,
 mR 128 135 10,
 oR 129 136 (.indexAddr 1 none) [127,128],
 oR 130 137 (.load false 1) [129],
 oR 131 138 (.indexAddr 1 none) [117,118],
 ⟨none,1000139,(.store 1),[.t 131,.t 126],none⟩,
 oR 132 140 (.indexAddr 1 none) [119,121],
 ⟨none,1000141,(.store 1),[.t 132,.t 130],none⟩])))
 (.region [mR 104 142 10,
 ⟨(some 105),1000143,(.bin .add),[.t 104,.c (.int .i64 (1))],none⟩,
 mR 10 144 105])))))) (.skip)))))))))
 (.region [mR 15 145 8,
 ⟨(some 16),1000146,(.bin .add),[.t 15,.c (.int .i64 (1))],none⟩,
 mR 8 147 16]))))))
 (.seq (.region [⟨(some 6),1000148,.move,[.c (.bool false)],none⟩])
 (.ret)))))
 [.tmp 6] 1 130
def f216.env:Env:=[(217,f217.C)]
def f216.tree (a:(List (ByteArray))×Int×Int):Prop:=Let (wI (a.2.1+(1:Int))) (fun v1:Int=>∃ (I3:(Int×Int×(List (ByteArray)))→Prop) (μ4:(Int×Int×(List (ByteArray)))→Nat),(∃ x2:Int×Int×(List (ByteArray)),(a.1.length=x2.2.2.length)∧(a.2.1=a.2.1)∧(a.2.2=a.2.2)∧(v1=x2.1)∧((0:Int)=x2.2.1)∧SlQ a.1.length x2.2.2.length (gl aB a.1) (gl aB x2.2.2) (I3 x2))∧∀ y5:Int×Int×(List (ByteArray)),I3 y5→(Br (decide (y5.2.1 < (5:Int))) (∃ I8:(Int×Int×(List (ByteArray)))→Prop,(∃ I9:(Int×Int×(List (ByteArray)))→Prop,(∃ (I11:(Int×Int×(List (ByteArray)))→Prop) (μ12:(Int×Int×(List (ByteArray)))→Nat),(∃ x10:Int×Int×(List (ByteArray)),(y5.2.2.length=x10.2.2.length)∧(a.2.1=a.2.1)∧(a.2.2=a.2.2)∧(y5.1=x10.1)∧(y5.2.1=x10.2.1)∧SlQ y5.2.2.length x10.2.2.length (gl aB y5.2.2) (gl aB x10.2.2) (I11 x10))∧∀ y13:Int×Int×(List (ByteArray)),I11 y13→(Br (decide (y13.1 < a.2.2)) (Br (decide ((0:Int)≤y13.1)&&decide (y13.1 < (List.length y13.2.2:Int))) ((y13.2.2.length=y13.2.2.length)∧(Let (wI (y13.1 - (1:Int))) (fun v17:Int=>Br (decide ((0:Int)≤v17)&&decide (v17 < (List.length y13.2.2:Int))) ((y13.2.2.length=y13.2.2.length)∧(∃ c19:ByteArray×ByteArray,((at_ y13.2.2 y13.1)=c19.1)∧((at_ y13.2.2 v17)=c19.2)∧True∧Br (!(b6 c19)) (Let (wI (y13.1+(1:Int))) (fun v22:Int=>∃ x23:Int×Int×(List (ByteArray)),(y13.2.2.length=x23.2.2.length)∧(a.2.1=a.2.1)∧(a.2.2=a.2.2)∧(v22=x23.1)∧(y13.2.1=x23.2.1)∧SlQ y13.2.2.length x23.2.2.length (gl aB y13.2.2) (gl aB x23.2.2) (I11 x23∧μ12 x23 < μ12 y13))) (∃ x28:Int×Int×(List (ByteArray)),(y13.2.2.length=x28.2.2.length)∧(a.2.1=a.2.1)∧(a.2.2=a.2.2)∧(y13.1=x28.1)∧(y13.2.1=x28.2.1)∧SlQ y13.2.2.length x28.2.2.length (gl aB y13.2.2) (gl aB x28.2.2) (I9 x28)))) False))) False) (∃ x37:Int×Int×(List (ByteArray)),(y13.2.2.length=x37.2.2.length)∧(a.2.1=a.2.1)∧(a.2.2=a.2.2)∧(y13.1=x37.1)∧(y13.2.1=x37.2.1)∧SlQ y13.2.2.length x37.2.2.length (gl aB y13.2.2) (gl aB x37.2.2) (I9 x37))))∧∀ y43:Int×Int×(List (ByteArray)),I9 y43→(Br (y43.1==a.2.2) ((true=(((bI slt) a).1))∧SlQ y43.2.2.length (List.length (((bI slt) a).2)) (gl aB y43.2.2) (gl aB (((bI slt) a).2)) (True)) (Let (wI (a.2.2 - a.2.1)) (fun v49:Int=>Br (decide (v49 < (50:Int))) ((false=(((bI slt) a).1))∧SlQ y43.2.2.length (List.length (((bI slt) a).2)) (gl aB y43.2.2) (gl aB (((bI slt) a).2)) (True)) (Let (wI (y43.1 - (1:Int))) (fun v53:Int=>Let (wI (y43.1 - (1:Int))) (fun v54:Int=>Br (decide ((0:Int)≤v54)&&decide (v54 < (List.length y43.2.2:Int))) ((y43.2.2.length=y43.2.2.length)∧(Br (decide ((0:Int)≤y43.1)&&decide (y43.1 < (List.length y43.2.2:Int))) ((y43.2.2.length=y43.2.2.length)∧(Br (decide ((0:Int)≤y43.1)&&decide (y43.1 < (List.length y43.2.2:Int))) ((y43.2.2.length=y43.2.2.length)∧(Br (decide ((0:Int)≤v53)&&decide (v53 < (List.length y43.2.2:Int))) ((y43.2.2.length=y43.2.2.length)∧(∃ I59:(Int×Int×(List (ByteArray)))→Prop,(Let (wI (y43.1 - a.2.1)) (fun v60:Int=>Br (decide ((2:Int)≤v60)) (Let (wI (y43.1 - (1:Int))) (fun v63:Int=>∃ (I65:(Int×Int×Int×(List (ByteArray)))→Prop) (μ66:(Int×Int×Int×(List (ByteArray)))→Nat),(∃ x64:Int×Int×Int×(List (ByteArray)),(y43.2.2.length=x64.2.2.2.length)∧(a.2.1=a.2.1)∧(a.2.2=a.2.2)∧(y43.1=x64.1)∧(y43.2.1=x64.2.1)∧(v63=x64.2.2.1)∧SlQ y43.2.2.length x64.2.2.2.length (gset (gset (gl aB y43.2.2) (Int.toNat y43.1) [.str (at_ y43.2.2 v54)]) (Int.toNat v53) [.str (at_ y43.2.2 y43.1)]) (gl aB x64.2.2.2) (I65 x64))∧∀ y67:Int×Int×Int×(List (ByteArray)),I65 y67→(Br (decide ((1:Int)≤y67.2.2.1)) (Br (decide ((0:Int)≤y67.2.2.1)&&decide (y67.2.2.1 < (List.length y67.2.2.2:Int))) ((y67.2.2.2.length=y67.2.2.2.length)∧(Let (wI (y67.2.2.1 - (1:Int))) (fun v71:Int=>Br (decide ((0:Int)≤v71)&&decide (v71 < (List.length y67.2.2.2:Int))) ((y67.2.2.2.length=y67.2.2.2.length)∧(∃ c73:ByteArray×ByteArray,((at_ y67.2.2.2 y67.2.2.1)=c73.1)∧((at_ y67.2.2.2 v71)=c73.2)∧True∧Br (!(b6 c73)) (∃ x76:Int×Int×(List (ByteArray)),(y67.2.2.2.length=x76.2.2.length)∧(a.2.1=a.2.1)∧(a.2.2=a.2.2)∧(y67.1=x76.1)∧(y67.2.1=x76.2.1)∧SlQ y67.2.2.2.length x76.2.2.length (gl aB y67.2.2.2) (gl aB x76.2.2) (I59 x76)) (Let (wI (y67.2.2.1 - (1:Int))) (fun v77:Int=>Let (wI (y67.2.2.1 - (1:Int))) (fun v78:Int=>Br (decide ((0:Int)≤v78)&&decide (v78 < (List.length y67.2.2.2:Int))) ((y67.2.2.2.length=y67.2.2.2.length)∧(Br (decide ((0:Int)≤y67.2.2.1)&&decide (y67.2.2.1 < (List.length y67.2.2.2:Int))) ((y67.2.2.2.length=y67.2.2.2.length)∧(Br (decide ((0:Int)≤y67.2.2.1)&&decide (y67.2.2.1 < (List.length y67.2.2.2:Int))) ((y67.2.2.2.length=y67.2.2.2.length)∧(Br (decide ((0:Int)≤v77)&&decide (v77 < (List.length y67.2.2.2:Int))) ((y67.2.2.2.length=y67.2.2.2.length)∧(Let (wI (y67.2.2.1 - (1:Int))) (fun v83:Int=>∃ x84:Int×Int×Int×(List (ByteArray)),(y67.2.2.2.length=x84.2.2.2.length)∧(a.2.1=a.2.1)∧(a.2.2=a.2.2)∧(y67.1=x84.1)∧(y67.2.1=x84.2.1)∧(v83=x84.2.2.1)∧SlQ y67.2.2.2.length x84.2.2.2.length (gset (gset (gl aB y67.2.2.2) (Int.toNat y67.2.2.1) [.str (at_ y67.2.2.2 v78)]) (Int.toNat v77) [.str (at_ y67.2.2.2 y67.2.2.1)]) (gl aB x84.2.2.2) (I65 x84∧μ66 x84 < μ66 y67)))) False)) False)) False)) False))))) False))) False) (∃ x107:Int×Int×(List (ByteArray)),(y67.2.2.2.length=x107.2.2.length)∧(a.2.1=a.2.1)∧(a.2.2=a.2.2)∧(y67.1=x107.1)∧(y67.2.1=x107.2.1)∧SlQ y67.2.2.2.length x107.2.2.length (gl aB y67.2.2.2) (gl aB x107.2.2) (I59 x107))))) (∃ x116:Int×Int×(List (ByteArray)),(y43.2.2.length=x116.2.2.length)∧(a.2.1=a.2.1)∧(a.2.2=a.2.2)∧(y43.1=x116.1)∧(y43.2.1=x116.2.1)∧SlQ y43.2.2.length x116.2.2.length (gset (gset (gl aB y43.2.2) (Int.toNat y43.1) [.str (at_ y43.2.2 v54)]) (Int.toNat v53) [.str (at_ y43.2.2 y43.1)]) (gl aB x116.2.2) (I59 x116))))∧∀ y122:Int×Int×(List (ByteArray)),I59 y122→(Let (wI (a.2.2 - y122.1)) (fun v125:Int=>Br (decide ((2:Int)≤v125)) (Let (wI (y122.1+(1:Int))) (fun v128:Int=>∃ (I130:(Int×Int×Int×(List (ByteArray)))→Prop) (μ131:(Int×Int×Int×(List (ByteArray)))→Nat),(∃ x129:Int×Int×Int×(List (ByteArray)),(y122.2.2.length=x129.2.2.2.length)∧(a.2.1=a.2.1)∧(a.2.2=a.2.2)∧(y122.1=x129.1)∧(y122.2.1=x129.2.1)∧(v128=x129.2.2.1)∧SlQ y122.2.2.length x129.2.2.2.length (gl aB y122.2.2) (gl aB x129.2.2.2) (I130 x129))∧∀ y132:Int×Int×Int×(List (ByteArray)),I130 y132→(Br (decide (y132.2.2.1 < a.2.2)) (Br (decide ((0:Int)≤y132.2.2.1)&&decide (y132.2.2.1 < (List.length y132.2.2.2:Int))) ((y132.2.2.2.length=y132.2.2.2.length)∧(Let (wI (y132.2.2.1 - (1:Int))) (fun v136:Int=>Br (decide ((0:Int)≤v136)&&decide (v136 < (List.length y132.2.2.2:Int))) ((y132.2.2.2.length=y132.2.2.2.length)∧(∃ c138:ByteArray×ByteArray,((at_ y132.2.2.2 y132.2.2.1)=c138.1)∧((at_ y132.2.2.2 v136)=c138.2)∧True∧Br (!(b6 c138)) (∃ x141:Int×Int×(List (ByteArray)),(y132.2.2.2.length=x141.2.2.length)∧(a.2.1=a.2.1)∧(a.2.2=a.2.2)∧(y132.1=x141.1)∧(y132.2.1=x141.2.1)∧SlQ y132.2.2.2.length x141.2.2.length (gl aB y132.2.2.2) (gl aB x141.2.2) (I8 x141)) (Let (wI (y132.2.2.1 - (1:Int))) (fun v142:Int=>Let (wI (y132.2.2.1 - (1:Int))) (fun v143:Int=>Br (decide ((0:Int)≤v143)&&decide (v143 < (List.length y132.2.2.2:Int))) ((y132.2.2.2.length=y132.2.2.2.length)∧(Br (decide ((0:Int)≤y132.2.2.1)&&decide (y132.2.2.1 < (List.length y132.2.2.2:Int))) ((y132.2.2.2.length=y132.2.2.2.length)∧(Br (decide ((0:Int)≤y132.2.2.1)&&decide (y132.2.2.1 < (List.length y132.2.2.2:Int))) ((y132.2.2.2.length=y132.2.2.2.length)∧(Br (decide ((0:Int)≤v142)&&decide (v142 < (List.length y132.2.2.2:Int))) ((y132.2.2.2.length=y132.2.2.2.length)∧(Let (wI (y132.2.2.1+(1:Int))) (fun v148:Int=>∃ x149:Int×Int×Int×(List (ByteArray)),(y132.2.2.2.length=x149.2.2.2.length)∧(a.2.1=a.2.1)∧(a.2.2=a.2.2)∧(y132.1=x149.1)∧(y132.2.1=x149.2.1)∧(v148=x149.2.2.1)∧SlQ y132.2.2.2.length x149.2.2.2.length (gset (gset (gl aB y132.2.2.2) (Int.toNat y132.2.2.1) [.str (at_ y132.2.2.2 v143)]) (Int.toNat v142) [.str (at_ y132.2.2.2 y132.2.2.1)]) (gl aB x149.2.2.2) (I130 x149∧μ131 x149 < μ131 y132)))) False)) False)) False)) False))))) False))) False) (∃ x172:Int×Int×(List (ByteArray)),(y132.2.2.2.length=x172.2.2.length)∧(a.2.1=a.2.1)∧(a.2.2=a.2.2)∧(y132.1=x172.1)∧(y132.2.1=x172.2.1)∧SlQ y132.2.2.2.length x172.2.2.length (gl aB y132.2.2.2) (gl aB x172.2.2) (I8 x172))))) (∃ x181:Int×Int×(List (ByteArray)),(y122.2.2.length=x181.2.2.length)∧(a.2.1=a.2.1)∧(a.2.2=a.2.2)∧(y122.1=x181.1)∧(y122.2.1=x181.2.1)∧SlQ y122.2.2.length x181.2.2.length (gl aB y122.2.2) (gl aB x181.2.2) (I8 x181)))))) False)) False)) False)) False)))))))∧∀ y204:Int×Int×(List (ByteArray)),I8 y204→(Let (wI (y204.2.1+(1:Int))) (fun v207:Int=>∃ x208:Int×Int×(List (ByteArray)),(y204.2.2.length=x208.2.2.length)∧(a.2.1=a.2.1)∧(a.2.2=a.2.2)∧(y204.1=x208.1)∧(v207=x208.2.1)∧SlQ y204.2.2.length x208.2.2.length (gl aB y204.2.2) (gl aB x208.2.2) (I3 x208∧μ4 x208 < μ4 y5)))) ((false=(((bI slt) a).1))∧SlQ y5.2.2.length (List.length (((bI slt) a).2)) (gl aB y5.2.2) (gl aB (((bI slt) a).2)) (True))))
def f216.vc (a:(List (ByteArray))×Int×Int):Prop:=(-9223372036854775808≤(a.2.1+(1:Int))∧(a.2.1+(1:Int))≤9223372036854775807∧(∃ (I3:(Int×Int×(List (ByteArray)))→Prop) (μ4:(Int×Int×(List (ByteArray)))→Nat),I3 ((a.2.1+(1:Int)),(0:Int),a.1)∧∀ y5:Int×Int×(List (ByteArray)),I3 y5→((y5.2.1 < (5:Int)→(∃ I8:(Int×Int×(List (ByteArray)))→Prop,((∃ I9:(Int×Int×(List (ByteArray)))→Prop,((∃ (I11:(Int×Int×(List (ByteArray)))→Prop) (μ12:(Int×Int×(List (ByteArray)))→Nat),I11 (y5.1,y5.2.1,y5.2.2)∧∀ y13:Int×Int×(List (ByteArray)),I11 y13→((y13.1 < a.2.2→((0:Int)≤y13.1∧y13.1 < (List.length y13.2.2:Int)∧(-9223372036854775808≤(y13.1 - (1:Int))∧(y13.1 - (1:Int))≤9223372036854775807∧((0:Int)≤(y13.1 - (1:Int))∧(y13.1 - (1:Int)) < (List.length y13.2.2:Int)∧((¬((b6 (at_ y13.2.2 y13.1,at_ y13.2.2 (y13.1 - (1:Int))))=true)→(-9223372036854775808≤(y13.1+(1:Int))∧(y13.1+(1:Int))≤9223372036854775807∧(I11 ((y13.1+(1:Int)),y13.2.1,y13.2.2)∧μ12 ((y13.1+(1:Int)),y13.2.1,y13.2.2) < μ12 y13)))∧(¬(¬((b6 (at_ y13.2.2 y13.1,at_ y13.2.2 (y13.1 - (1:Int))))=true))→(I9 (y13.1,y13.2.1,y13.2.2))))))))∧(¬(y13.1 < a.2.2)→(I9 (y13.1,y13.2.1,y13.2.2))))))∧∀ y43:Int×Int×(List (ByteArray)),I9 y43→((y43.1=a.2.2→((true,y43.2.2)=(bI slt) a))∧(¬(y43.1=a.2.2)→(-9223372036854775808≤(a.2.2 - a.2.1)∧(a.2.2 - a.2.1)≤9223372036854775807∧(((a.2.2 - a.2.1) < (50:Int)→((false,y43.2.2)=(bI slt) a))∧(¬((a.2.2 - a.2.1) < (50:Int))→(-9223372036854775808≤(y43.1 - (1:Int))∧(y43.1 - (1:Int))≤9223372036854775807∧(-9223372036854775808≤(y43.1 - (1:Int))∧(y43.1 - (1:Int))≤9223372036854775807∧((0:Int)≤(y43.1 - (1:Int))∧(y43.1 - (1:Int)) < (List.length y43.2.2:Int)∧((0:Int)≤y43.1∧y43.1 < (List.length y43.2.2:Int)∧((0:Int)≤y43.1∧y43.1 < (List.length y43.2.2:Int)∧((0:Int)≤(y43.1 - (1:Int))∧(y43.1 - (1:Int)) < (List.length y43.2.2:Int)∧(∃ I59:(Int×Int×(List (ByteArray)))→Prop,((-9223372036854775808≤(y43.1 - a.2.1)∧(y43.1 - a.2.1)≤9223372036854775807∧(((2:Int)≤(y43.1 - a.2.1)→(-9223372036854775808≤(y43.1 - (1:Int))∧(y43.1 - (1:Int))≤9223372036854775807∧(∃ (I65:(Int×Int×Int×(List (ByteArray)))→Prop) (μ66:(Int×Int×Int×(List (ByteArray)))→Nat),I65 (y43.1,y43.2.1,(y43.1 - (1:Int)),List.set (List.set y43.2.2 (Int.toNat y43.1) (at_ y43.2.2 (y43.1 - (1:Int)))) (Int.toNat (y43.1 - (1:Int))) (at_ y43.2.2 y43.1))∧∀ y67:Int×Int×Int×(List (ByteArray)),I65 y67→(((1:Int)≤y67.2.2.1→((0:Int)≤y67.2.2.1∧y67.2.2.1 < (List.length y67.2.2.2:Int)∧(-9223372036854775808≤(y67.2.2.1 - (1:Int))∧(y67.2.2.1 - (1:Int))≤9223372036854775807∧((0:Int)≤(y67.2.2.1 - (1:Int))∧(y67.2.2.1 - (1:Int)) < (List.length y67.2.2.2:Int)∧((¬((b6 (at_ y67.2.2.2 y67.2.2.1,at_ y67.2.2.2 (y67.2.2.1 - (1:Int))))=true)→(I59 (y67.1,y67.2.1,y67.2.2.2)))∧(¬(¬((b6 (at_ y67.2.2.2 y67.2.2.1,at_ y67.2.2.2 (y67.2.2.1 - (1:Int))))=true))→(-9223372036854775808≤(y67.2.2.1 - (1:Int))∧(y67.2.2.1 - (1:Int))≤9223372036854775807∧(-9223372036854775808≤(y67.2.2.1 - (1:Int))∧(y67.2.2.1 - (1:Int))≤9223372036854775807∧((0:Int)≤(y67.2.2.1 - (1:Int))∧(y67.2.2.1 - (1:Int)) < (List.length y67.2.2.2:Int)∧((0:Int)≤y67.2.2.1∧y67.2.2.1 < (List.length y67.2.2.2:Int)∧((0:Int)≤y67.2.2.1∧y67.2.2.1 < (List.length y67.2.2.2:Int)∧((0:Int)≤(y67.2.2.1 - (1:Int))∧(y67.2.2.1 - (1:Int)) < (List.length y67.2.2.2:Int)∧(-9223372036854775808≤(y67.2.2.1 - (1:Int))∧(y67.2.2.1 - (1:Int))≤9223372036854775807∧(I65 (y67.1,y67.2.1,(y67.2.2.1 - (1:Int)),List.set (List.set y67.2.2.2 (Int.toNat y67.2.2.1) (at_ y67.2.2.2 (y67.2.2.1 - (1:Int)))) (Int.toNat (y67.2.2.1 - (1:Int))) (at_ y67.2.2.2 y67.2.2.1))∧μ66 (y67.1,y67.2.1,(y67.2.2.1 - (1:Int)),List.set (List.set y67.2.2.2 (Int.toNat y67.2.2.1) (at_ y67.2.2.2 (y67.2.2.1 - (1:Int)))) (Int.toNat (y67.2.2.1 - (1:Int))) (at_ y67.2.2.2 y67.2.2.1)) < μ66 y67))))))))))))))∧(¬((1:Int)≤y67.2.2.1)→(I59 (y67.1,y67.2.1,y67.2.2.2)))))))∧(¬((2:Int)≤(y43.1 - a.2.1))→(I59 (y43.1,y43.2.1,List.set (List.set y43.2.2 (Int.toNat y43.1) (at_ y43.2.2 (y43.1 - (1:Int)))) (Int.toNat (y43.1 - (1:Int))) (at_ y43.2.2 y43.1)))))))∧∀ y122:Int×Int×(List (ByteArray)),I59 y122→(-9223372036854775808≤(a.2.2 - y122.1)∧(a.2.2 - y122.1)≤9223372036854775807∧(((2:Int)≤(a.2.2 - y122.1)→(-9223372036854775808≤(y122.1+(1:Int))∧(y122.1+(1:Int))≤9223372036854775807∧(∃ (I130:(Int×Int×Int×(List (ByteArray)))→Prop) (μ131:(Int×Int×Int×(List (ByteArray)))→Nat),I130 (y122.1,y122.2.1,(y122.1+(1:Int)),y122.2.2)∧∀ y132:Int×Int×Int×(List (ByteArray)),I130 y132→((y132.2.2.1 < a.2.2→((0:Int)≤y132.2.2.1∧y132.2.2.1 < (List.length y132.2.2.2:Int)∧(-9223372036854775808≤(y132.2.2.1 - (1:Int))∧(y132.2.2.1 - (1:Int))≤9223372036854775807∧((0:Int)≤(y132.2.2.1 - (1:Int))∧(y132.2.2.1 - (1:Int)) < (List.length y132.2.2.2:Int)∧((¬((b6 (at_ y132.2.2.2 y132.2.2.1,at_ y132.2.2.2 (y132.2.2.1 - (1:Int))))=true)→(I8 (y132.1,y132.2.1,y132.2.2.2)))∧(¬(¬((b6 (at_ y132.2.2.2 y132.2.2.1,at_ y132.2.2.2 (y132.2.2.1 - (1:Int))))=true))→(-9223372036854775808≤(y132.2.2.1 - (1:Int))∧(y132.2.2.1 - (1:Int))≤9223372036854775807∧(-9223372036854775808≤(y132.2.2.1 - (1:Int))∧(y132.2.2.1 - (1:Int))≤9223372036854775807∧((0:Int)≤(y132.2.2.1 - (1:Int))∧(y132.2.2.1 - (1:Int)) < (List.length y132.2.2.2:Int)∧((0:Int)≤y132.2.2.1∧y132.2.2.1 < (List.length y132.2.2.2:Int)∧((0:Int)≤y132.2.2.1∧y132.2.2.1 < (List.length y132.2.2.2:Int)∧((0:Int)≤(y132.2.2.1 - (1:Int))∧(y132.2.2.1 - (1:Int)) < (List.length y132.2.2.2:Int)∧(-9223372036854775808≤(y132.2.2.1+(1:Int))∧(y132.2.2.1+(1:Int))≤9223372036854775807∧(I130 (y132.1,y132.2.1,(y132.2.2.1+(1:Int)),List.set (List.set y132.2.2.2 (Int.toNat y132.2.2.1) (at_ y132.2.2.2 (y132.2.2.1 - (1:Int)))) (Int.toNat (y132.2.2.1 - (1:Int))) (at_ y132.2.2.2 y132.2.2.1))∧μ131 (y132.1,y132.2.1,(y132.2.2.1+(1:Int)),List.set (List.set y132.2.2.2 (Int.toNat y132.2.2.1) (at_ y132.2.2.2 (y132.2.2.1 - (1:Int)))) (Int.toNat (y132.2.2.1 - (1:Int))) (at_ y132.2.2.2 y132.2.2.1)) < μ131 y132))))))))))))))∧(¬(y132.2.2.1 < a.2.2)→(I8 (y132.1,y132.2.1,y132.2.2.2)))))))∧(¬((2:Int)≤(a.2.2 - y122.1))→(I8 (y122.1,y122.2.1,y122.2.2)))))))))))))))))))∧∀ y204:Int×Int×(List (ByteArray)),I8 y204→(-9223372036854775808≤(y204.2.1+(1:Int))∧(y204.2.1+(1:Int))≤9223372036854775807∧(I3 (y204.1,(y204.2.1+(1:Int)),y204.2.2)∧μ4 (y204.1,(y204.2.1+(1:Int)),y204.2.2) < μ4 y5))))∧(¬(y5.2.1 < (5:Int))→((false,y5.2.2)=(bI slt) a)))))
theorem f216.of (a:(List (ByteArray))×Int×Int) (h:f216.vc a):f216.tree a:=wrapK.i64 h (fun h219 h220 k221=>Exists.elim k221 (fun I3 h216_=>Exists.elim h216_ (fun μ4 h216=>⟨I3,μ4,⟨((a.2.1+(1:Int)),(0:Int),a.1),⟨(bB (gl aB a.1) (rS aB)),⟨rfl,⟨rfl,⟨rfl,⟨rfl,slQ (rS aB) (h216.1)⟩⟩⟩⟩⟩⟩,fun y5 h218=>br (h216.2 y5 h218) Cnd.dec (fun h6 k214=>Exists.elim k214 (fun I8 h206=>⟨I8,Exists.elim h206.1 (fun I9 h45=>⟨I9,Exists.elim h45.1 (fun I11 h40_=>Exists.elim h40_ (fun μ12 h40=>⟨I11,μ12,⟨(y5.1,y5.2.1,y5.2.2),⟨(bB (gl aB y5.2.2) (rS aB)),⟨rfl,⟨rfl,⟨rfl,⟨rfl,slQ (rS aB) (h40.1)⟩⟩⟩⟩⟩⟩,fun y13 h42=>br (h40.2 y13 h42) Cnd.dec (fun h14 k38=>chk k38.2.2 Cnd.ix ⟨k38.1,k38.2.1⟩ (fun h16 k36=>⟨rfl,wrapK.i64 k36 (fun h33 h34 k35=>chk k35.2.2 Cnd.ix ⟨k35.1,k35.2.1⟩ (fun h18 k32=>⟨rfl,⟨(at_ y13.2.2 y13.1,at_ y13.2.2 (y13.1 - (1:Int))),⟨rfl,⟨rfl,⟨trivial,br k32 (Cnd.not Cnd.b) (fun h20 k29=>wrapK.i64 k29 (fun h25 h26 k27=>⟨((y13.1+(1:Int)),y13.2.1,y13.2.2),⟨(bB (gl aB y13.2.2) (rS aB)),⟨rfl,⟨rfl,⟨rfl,⟨rfl,slQ (rS aB) (k27)⟩⟩⟩⟩⟩⟩)) (fun h21 k30=>⟨(y13.1,y13.2.1,y13.2.2),⟨(bB (gl aB y13.2.2) (rS aB)),⟨rfl,⟨rfl,⟨rfl,⟨rfl,slQ (rS aB) (k30)⟩⟩⟩⟩⟩⟩)⟩⟩⟩⟩⟩))⟩)) (fun h15 k39=>⟨(y13.1,y13.2.1,y13.2.2),⟨(bB (gl aB y13.2.2) (rS aB)),⟨rfl,⟨rfl,⟨rfl,⟨rfl,slQ (rS aB) (k39)⟩⟩⟩⟩⟩⟩)⟩)),fun y43 h44=>br (h45.2 y43 h44) Cnd.eq (fun h46 k202=>⟨(congrArg (fun x:Bool×(List (ByteArray))=>x.1) k202 :),slQ (Rds.to (rS aB) (congrArg (fun x:Bool×(List (ByteArray))=>x.2) k202 :)) (trivial)⟩) (fun h47 k203=>wrapK.i64 k203 (fun h199 h200 k201=>br k201 Cnd.dec (fun h50 k197=>⟨(congrArg (fun x:Bool×(List (ByteArray))=>x.1) k197 :),slQ (Rds.to (rS aB) (congrArg (fun x:Bool×(List (ByteArray))=>x.2) k197 :)) (trivial)⟩) (fun h51 k198=>wrapK.i64 k198 (fun h194 h195 k196=>wrapK.i64 k196 (fun h191 h192 k193=>chk k193.2.2 Cnd.ix ⟨k193.1,k193.2.1⟩ (fun h55 k190=>⟨rfl,chk k190.2.2 Cnd.ix ⟨k190.1,k190.2.1⟩ (fun h56 k189=>⟨rfl,chk k189.2.2 Cnd.ix ⟨k189.1,k189.2.1⟩ (fun h57 k188=>⟨rfl,chk k188.2.2 Cnd.ix ⟨k188.1,k188.2.1⟩ (fun h58 k187=>⟨rfl,Exists.elim k187 (fun I59 h124=>⟨I59,wrapK.i64 h124.1 (fun h119 h120 k121=>br k121 Cnd.dec (fun h61 k117=>wrapK.i64 k117 (fun h113 h114 k115=>Exists.elim k115 (fun I65 h110_=>Exists.elim h110_ (fun μ66 h110=>⟨I65,μ66,⟨(y43.1,y43.2.1,(y43.1 - (1:Int)),List.set (List.set y43.2.2 (Int.toNat y43.1) (at_ y43.2.2 (y43.1 - (1:Int)))) (Int.toNat (y43.1 - (1:Int))) (at_ y43.2.2 y43.1)),⟨(bB (gset (gset (gl aB y43.2.2) (Int.toNat y43.1) [.str (at_ y43.2.2 (y43.1 - (1:Int)))]) (Int.toNat (y43.1 - (1:Int))) [.str (at_ y43.2.2 y43.1)]) (Rds.gset (enc:=aB) (Rds.gset (enc:=aB) (rS aB) (DEqs.refl _)) (DEqs.refl _))),⟨rfl,⟨rfl,⟨rfl,⟨rfl,⟨rfl,slQ (Rds.gset (enc:=aB) (Rds.gset (enc:=aB) (rS aB) (DEqs.refl _)) (DEqs.refl _)) (h110.1)⟩⟩⟩⟩⟩⟩⟩,fun y67 h112=>br (h110.2 y67 h112) Cnd.dec (fun h68 k108=>chk k108.2.2 Cnd.ix ⟨k108.1,k108.2.1⟩ (fun h70 k106=>⟨rfl,wrapK.i64 k106 (fun h103 h104 k105=>chk k105.2.2 Cnd.ix ⟨k105.1,k105.2.1⟩ (fun h72 k102=>⟨rfl,⟨(at_ y67.2.2.2 y67.2.2.1,at_ y67.2.2.2 (y67.2.2.1 - (1:Int))),⟨rfl,⟨rfl,⟨trivial,br k102 (Cnd.not Cnd.b) (fun h74 k99=>⟨(y67.1,y67.2.1,y67.2.2.2),⟨(bB (gl aB y67.2.2.2) (rS aB)),⟨rfl,⟨rfl,⟨rfl,⟨rfl,slQ (rS aB) (k99)⟩⟩⟩⟩⟩⟩) (fun h75 k100=>wrapK.i64 k100 (fun h96 h97 k98=>wrapK.i64 k98 (fun h93 h94 k95=>chk k95.2.2 Cnd.ix ⟨k95.1,k95.2.1⟩ (fun h79 k92=>⟨rfl,chk k92.2.2 Cnd.ix ⟨k92.1,k92.2.1⟩ (fun h80 k91=>⟨rfl,chk k91.2.2 Cnd.ix ⟨k91.1,k91.2.1⟩ (fun h81 k90=>⟨rfl,chk k90.2.2 Cnd.ix ⟨k90.1,k90.2.1⟩ (fun h82 k89=>⟨rfl,wrapK.i64 k89 (fun h86 h87 k88=>⟨(y67.1,y67.2.1,(y67.2.2.1 - (1:Int)),List.set (List.set y67.2.2.2 (Int.toNat y67.2.2.1) (at_ y67.2.2.2 (y67.2.2.1 - (1:Int)))) (Int.toNat (y67.2.2.1 - (1:Int))) (at_ y67.2.2.2 y67.2.2.1)),⟨(bB (gset (gset (gl aB y67.2.2.2) (Int.toNat y67.2.2.1) [.str (at_ y67.2.2.2 (y67.2.2.1 - (1:Int)))]) (Int.toNat (y67.2.2.1 - (1:Int))) [.str (at_ y67.2.2.2 y67.2.2.1)]) (Rds.gset (enc:=aB) (Rds.gset (enc:=aB) (rS aB) (DEqs.refl _)) (DEqs.refl _))),⟨rfl,⟨rfl,⟨rfl,⟨rfl,⟨rfl,slQ (Rds.gset (enc:=aB) (Rds.gset (enc:=aB) (rS aB) (DEqs.refl _)) (DEqs.refl _)) (k88)⟩⟩⟩⟩⟩⟩⟩)⟩)⟩)⟩)⟩))))⟩⟩⟩⟩⟩))⟩)) (fun h69 k109=>⟨(y67.1,y67.2.1,y67.2.2.2),⟨(bB (gl aB y67.2.2.2) (rS aB)),⟨rfl,⟨rfl,⟨rfl,⟨rfl,slQ (rS aB) (k109)⟩⟩⟩⟩⟩⟩)⟩)))) (fun h62 k118=>⟨(y43.1,y43.2.1,List.set (List.set y43.2.2 (Int.toNat y43.1) (at_ y43.2.2 (y43.1 - (1:Int)))) (Int.toNat (y43.1 - (1:Int))) (at_ y43.2.2 y43.1)),⟨(bB (gset (gset (gl aB y43.2.2) (Int.toNat y43.1) [.str (at_ y43.2.2 (y43.1 - (1:Int)))]) (Int.toNat (y43.1 - (1:Int))) [.str (at_ y43.2.2 y43.1)]) (Rds.gset (enc:=aB) (Rds.gset (enc:=aB) (rS aB) (DEqs.refl _)) (DEqs.refl _))),⟨rfl,⟨rfl,⟨rfl,⟨rfl,slQ (Rds.gset (enc:=aB) (Rds.gset (enc:=aB) (rS aB) (DEqs.refl _)) (DEqs.refl _)) (k118)⟩⟩⟩⟩⟩⟩)),fun y122 h123=>wrapK.i64 (h124.2 y122 h123) (fun h184 h185 k186=>br k186 Cnd.dec (fun h126 k182=>wrapK.i64 k182 (fun h178 h179 k180=>Exists.elim k180 (fun I130 h175_=>Exists.elim h175_ (fun μ131 h175=>⟨I130,μ131,⟨(y122.1,y122.2.1,(y122.1+(1:Int)),y122.2.2),⟨(bB (gl aB y122.2.2) (rS aB)),⟨rfl,⟨rfl,⟨rfl,⟨rfl,⟨rfl,slQ (rS aB) (h175.1)⟩⟩⟩⟩⟩⟩⟩,fun y132 h177=>br (h175.2 y132 h177) Cnd.dec (fun h133 k173=>chk k173.2.2 Cnd.ix ⟨k173.1,k173.2.1⟩ (fun h135 k171=>⟨rfl,wrapK.i64 k171 (fun h168 h169 k170=>chk k170.2.2 Cnd.ix ⟨k170.1,k170.2.1⟩ (fun h137 k167=>⟨rfl,⟨(at_ y132.2.2.2 y132.2.2.1,at_ y132.2.2.2 (y132.2.2.1 - (1:Int))),⟨rfl,⟨rfl,⟨trivial,br k167 (Cnd.not Cnd.b) (fun h139 k164=>⟨(y132.1,y132.2.1,y132.2.2.2),⟨(bB (gl aB y132.2.2.2) (rS aB)),⟨rfl,⟨rfl,⟨rfl,⟨rfl,slQ (rS aB) (k164)⟩⟩⟩⟩⟩⟩) (fun h140 k165=>wrapK.i64 k165 (fun h161 h162 k163=>wrapK.i64 k163 (fun h158 h159 k160=>chk k160.2.2 Cnd.ix ⟨k160.1,k160.2.1⟩ (fun h144 k157=>⟨rfl,chk k157.2.2 Cnd.ix ⟨k157.1,k157.2.1⟩ (fun h145 k156=>⟨rfl,chk k156.2.2 Cnd.ix ⟨k156.1,k156.2.1⟩ (fun h146 k155=>⟨rfl,chk k155.2.2 Cnd.ix ⟨k155.1,k155.2.1⟩ (fun h147 k154=>⟨rfl,wrapK.i64 k154 (fun h151 h152 k153=>⟨(y132.1,y132.2.1,(y132.2.2.1+(1:Int)),List.set (List.set y132.2.2.2 (Int.toNat y132.2.2.1) (at_ y132.2.2.2 (y132.2.2.1 - (1:Int)))) (Int.toNat (y132.2.2.1 - (1:Int))) (at_ y132.2.2.2 y132.2.2.1)),⟨(bB (gset (gset (gl aB y132.2.2.2) (Int.toNat y132.2.2.1) [.str (at_ y132.2.2.2 (y132.2.2.1 - (1:Int)))]) (Int.toNat (y132.2.2.1 - (1:Int))) [.str (at_ y132.2.2.2 y132.2.2.1)]) (Rds.gset (enc:=aB) (Rds.gset (enc:=aB) (rS aB) (DEqs.refl _)) (DEqs.refl _))),⟨rfl,⟨rfl,⟨rfl,⟨rfl,⟨rfl,slQ (Rds.gset (enc:=aB) (Rds.gset (enc:=aB) (rS aB) (DEqs.refl _)) (DEqs.refl _)) (k153)⟩⟩⟩⟩⟩⟩⟩)⟩)⟩)⟩)⟩))))⟩⟩⟩⟩⟩))⟩)) (fun h134 k174=>⟨(y132.1,y132.2.1,y132.2.2.2),⟨(bB (gl aB y132.2.2.2) (rS aB)),⟨rfl,⟨rfl,⟨rfl,⟨rfl,slQ (rS aB) (k174)⟩⟩⟩⟩⟩⟩)⟩)))) (fun h127 k183=>⟨(y122.1,y122.2.1,y122.2.2),⟨(bB (gl aB y122.2.2) (rS aB)),⟨rfl,⟨rfl,⟨rfl,⟨rfl,slQ (rS aB) (k183)⟩⟩⟩⟩⟩⟩))⟩)⟩)⟩)⟩)⟩))))))⟩),fun y204 h205=>wrapK.i64 (h206.2 y204 h205) (fun h210 h211 k212=>⟨(y204.1,(y204.2.1+(1:Int)),y204.2.2),⟨(bB (gl aB y204.2.2) (rS aB)),⟨rfl,⟨rfl,⟨rfl,⟨rfl,slQ (rS aB) (k212)⟩⟩⟩⟩⟩⟩)⟩)) (fun h7 k215=>⟨(congrArg (fun x:Bool×(List (ByteArray))=>x.1) k215 :),slQ (Rds.to (rS aB) (congrArg (fun x:Bool×(List (ByteArray))=>x.2) k215 :)) (trivial)⟩)⟩)))
theorem f216.eq (a:(List (ByteArray))×Int×Int):(f216.af a).gives f216.env (f216.args a) (f216.blks a) (f216.res a) (f216.blks' a)=f216.tree a:=by kernel_rfl
def f218.args (a:(List (ByteArray))×Int×Int×Int):List D:=[.msl 0 1 a.1.length,.int .i64 a.2.1,.int .i64 a.2.2.1,.int .i64 a.2.2.2]
def f218.blks (a:(List (ByteArray))×Int×Int×Int):List (List D):=[[.dead,.arr false 1 a.1.length (gl aB a.1)]]
def f218.res (a:(List (ByteArray))×Int×Int×Int):List D:=[.int .i64 (((cT slt) a).1)]
def f218.blks' (a:(List (ByteArray))×Int×Int×Int):List (List D):=[[.dead,.arr false 1 (List.length (((cT slt) a).2)) (gl aB (((cT slt) a).2))]]
def f218.C:aP:=FnC f218.args f218.blks (fun a=>hT a) f218.res f218.blks'
def f218.S0 (a:(List (ByteArray))×Int×Int×Int) (x:Int×Int×(List (ByteArray))):Tm:=⟨.msl 0 1 x.2.2.length::.int .i64 a.2.1::dd 7 (.int .i64 x.1::.int .i64 x.2.1::dd 73 []),[(0,false,[.dead,.arr false 1 x.2.2.length (gl aB x.2.2)])],[]⟩
def f218.S1 (a:(List (ByteArray))×Int×Int×Int) (x:Int×Int×(List (ByteArray))):Tm:=⟨.msl 0 1 x.2.2.length::.int .i64 a.2.1::dd 7 (.int .i64 x.1::.int .i64 x.2.1::dd 73 []),[(0,false,[.dead,.arr false 1 x.2.2.length (gl aB x.2.2)])],[]⟩
def f218.S2 (a:(List (ByteArray))×Int×Int×Int) (x:Int×Int×(List (ByteArray))):Tm:=⟨.msl 0 1 x.2.2.length::.int .i64 a.2.1::dd 7 (.int .i64 x.1::.int .i64 x.2.1::dd 73 []),[(0,false,[.dead,.arr false 1 x.2.2.length (gl aB x.2.2)])],[]⟩
def f218.kills (a:(List (ByteArray))×Int×Int×Int):List Hint:=[.tell (Int×Int×(List (ByteArray))) (f218.S0 a),
 .tell (Int×Int×(List (ByteArray))) (f218.S1 a),
 .tell (Int×Int×(List (ByteArray))) (f218.S2 a)]
def f218.cuts (a:(List (ByteArray))×Int×Int×Int):List (Nat×Σ β:Type,β→Tm):=[(999999,⟨Unit,fun x=>⟨[],[],[]⟩⟩),
 (100004,⟨Int×Int×(List (ByteArray)),fun x=>⟨.msl 0 1 x.2.2.length::.int .i64 a.2.1::dd 7 (.int .i64 x.1::.int .i64 x.2.1::dd 73 []),[(0,false,[.dead,.arr false 1 x.2.2.length (gl aB x.2.2)])],[]⟩⟩),
 (100007,⟨Int×Int×(List (ByteArray)),fun x=>⟨.msl 0 1 x.2.2.length::.int .i64 a.2.1::dd 7 (.int .i64 x.1::.int .i64 x.2.1::dd 73 []),[(0,false,[.dead,.arr false 1 x.2.2.length (gl aB x.2.2)])],[]⟩⟩)]
def f218.af (a:(List (ByteArray))×Int×Int×Int):AF:=AF.mk (.seq (.region [⟨(some 8),1000000,.move,[.c (.int .i64 (0))],none⟩])
 (.seq (.region [mR 11 1 0,
 mR 12 2 1,
 mR 13 3 0,
 mR 14 4 3,
 mR 15 5 0,
 mR 16 6 3,
 oR 17 7 (.indexAddr 1 none) [15,16],
 oR 18 8 (.load false 1) [17],
 mR 19 9 0,
 mR 20 10 1,
 oR 21 11 (.indexAddr 1 none) [19,20],
 oR 22 12 (.load false 1) [21],
 oR 23 13 (.indexAddr 1 none) [11,12],
 ⟨none,1000014,(.store 1),[.t 23,.t 18],none⟩,
 oR 24 15 (.indexAddr 1 none) [13,14],
 ⟨none,1000016,(.store 1),[.t 24,.t 22],none⟩])
 (.seq (.region [mR 25 17 1,
 ⟨(some 26),1000018,(.bin .add),[.t 25,.c (.int .i64 (1))],none⟩,
 mR 27 19 2,
 ⟨(some 28),1000020,(.bin .sub),[.t 27,.c (.int .i64 (1))],none⟩,
 mR 9 21 26,
 mR 10 22 28])
 (.seq (.block 0 (.loopT (Int×Int×(List (ByteArray))) (f218.S0 a) 1000023 1000089 (.block 1 (.joinT (Int×Int×(List (ByteArray))) (fun x=>⟨.msl 0 1 x.2.2.length::.int .i64 a.2.1::dd 7 (.int .i64 x.1::.int .i64 x.2.1::dd 73 []),[(0,false,[.dead,.arr false 1 x.2.2.length (gl aB x.2.2)])],[]⟩) (.block 2 (.loopT (Int×Int×(List (ByteArray))) (f218.S1 a) 1000023 1000044 (.seq (.seq (.region [mR 29 23 9,
 mR 30 24 10,
 oR 31 25 (.bin .leq) [29,30],
 mR 32 26 31,
 oG 33 1000027 .move [0] 32 true,
 oG 34 1000028 .move [1] 32 true,
 oG 35 1000029 (.indexAddr 1 none) [33,34] 32 true,
 oG 36 1000030 (.load false 1) [35] 32 true,
 oG 37 1000031 .move [0] 32 true,
 oG 38 1000032 .move [9] 32 true,
 oG 39 1000033 (.indexAddr 1 none) [37,38] 32 true,
 oG 40 1000034 (.load false 1) [39] 32 true,
 oG 41 1000035 (.call false 217) [36,40] 32 true,
 oG 42 1000039 (.un .not) [41] 32 true,
 ⟨(some 43),1000040,.pick,[.t 32,.t 42,.c (.bool false)],none⟩])
 (.cond (.t 43) (.skip) (.exit 2)))
 (.block 3 (.region [mR 44 41 9,
 ⟨(some 45),1000042,(.bin .add),[.t 44,.c (.int .i64 (1))],none⟩,
 mR 9 43 45])))))
 (.joinT (Int×Int×(List (ByteArray))) (fun x=>⟨.msl 0 1 x.2.2.length::.int .i64 a.2.1::dd 7 (.int .i64 x.1::.int .i64 x.2.1::dd 73 []),[(0,false,[.dead,.arr false 1 x.2.2.length (gl aB x.2.2)])],[]⟩) (.block 4 (.loopT (Int×Int×(List (ByteArray))) (f218.S2 a) 1000044 1000064 (.seq (.seq (.region [mR 46 44 9,
 mR 47 45 10,
 oR 48 46 (.bin .leq) [46,47],
 mR 49 47 48,
 oG 50 1000048 .move [0] 49 true,
 oG 51 1000049 .move [1] 49 true,
 oG 52 1000050 (.indexAddr 1 none) [50,51] 49 true,
 oG 53 1000051 (.load false 1) [52] 49 true,
 oG 54 1000052 .move [0] 49 true,
 oG 55 1000053 .move [10] 49 true,
 oG 56 1000054 (.indexAddr 1 none) [54,55] 49 true,
 oG 57 1000055 (.load false 1) [56] 49 true,
 oG 58 1000056 (.call false 217) [53,57] 49 true,
 ⟨(some 59),1000060,.pick,[.t 49,.t 58,.c (.bool false)],none⟩])
 (.cond (.t 59) (.skip) (.exit 4)))
 (.block 5 (.region [mR 60 61 10,
 ⟨(some 61),1000062,(.bin .sub),[.t 60,.c (.int .i64 (1))],none⟩,
 mR 10 63 61])))))
 (.seq (.seq (.region [mR 62 64 9,
 mR 63 65 10,
 oR 64 66 (.bin .gtr) [62,63]])
 (.cond (.t 64) (.exit 0) (.skip)))
 (.seq (.region [mR 65 67 0,
 mR 66 68 9,
 mR 67 69 0,
 mR 68 70 10,
 mR 69 71 0,
 mR 70 72 10,
 oR 71 73 (.indexAddr 1 none) [69,70],
 oR 72 74 (.load false 1) [71],
 mR 73 75 0,
 mR 74 76 9,
 oR 75 77 (.indexAddr 1 none) [73,74],
 oR 76 78 (.load false 1) [75],
 oR 77 79 (.indexAddr 1 none) [65,66],
 ⟨none,1000080,(.store 1),[.t 77,.t 72],none⟩,
 oR 78 81 (.indexAddr 1 none) [67,68],
 ⟨none,1000082,(.store 1),[.t 78,.t 76],none⟩])
 (.seq (.region [mR 79 83 9,
 ⟨(some 80),1000084,(.bin .add),[.t 79,.c (.int .i64 (1))],none⟩,
 mR 9 85 80])
 (.region [mR 81 86 10,
 ⟨(some 82),1000087,(.bin .sub),[.t 81,.c (.int .i64 (1))],none⟩,
 mR 10 88 82])))))))))
 (.seq (.region [mR 83 89 9,
 mR 8 90 83])
 (.ret))))))
 [.tmp 8] 1 80
def f218.env:Env:=[(217,f217.C)]
def f218.tree (a:(List (ByteArray))×Int×Int×Int):Prop:=Br (decide ((0:Int)≤a.2.2.2)&&decide (a.2.2.2 < (List.length a.1:Int))) ((a.1.length=a.1.length)∧(Br (decide ((0:Int)≤a.2.1)&&decide (a.2.1 < (List.length a.1:Int))) ((a.1.length=a.1.length)∧(Br (decide ((0:Int)≤a.2.1)&&decide (a.2.1 < (List.length a.1:Int))) ((a.1.length=a.1.length)∧(Br (decide ((0:Int)≤a.2.2.2)&&decide (a.2.2.2 < (List.length a.1:Int))) ((a.1.length=a.1.length)∧(Let (wI (a.2.1+(1:Int))) (fun v5:Int=>Let (wI (a.2.2.1 - (1:Int))) (fun v6:Int=>∃ (I8:(Int×Int×(List (ByteArray)))→Prop) (μ9:(Int×Int×(List (ByteArray)))→Nat),(∃ x7:Int×Int×(List (ByteArray)),(a.1.length=x7.2.2.length)∧(a.2.1=a.2.1)∧(v5=x7.1)∧(v6=x7.2.1)∧SlQ a.1.length x7.2.2.length (gset (gset (gl aB a.1) (Int.toNat a.2.1) [.str (at_ a.1 a.2.2.2)]) (Int.toNat a.2.2.2) [.str (at_ a.1 a.2.1)]) (gl aB x7.2.2) (I8 x7))∧∀ y10:Int×Int×(List (ByteArray)),I8 y10→(∃ I11:(Int×Int×(List (ByteArray)))→Prop,(∃ (I13:(Int×Int×(List (ByteArray)))→Prop) (μ14:(Int×Int×(List (ByteArray)))→Nat),(∃ x12:Int×Int×(List (ByteArray)),(y10.2.2.length=x12.2.2.length)∧(a.2.1=a.2.1)∧(y10.1=x12.1)∧(y10.2.1=x12.2.1)∧SlQ y10.2.2.length x12.2.2.length (gl aB y10.2.2) (gl aB x12.2.2) (I13 x12))∧∀ y15:Int×Int×(List (ByteArray)),I13 y15→(Br (decide (y15.1≤y15.2.1)) (Br (decide ((0:Int)≤a.2.1)&&decide (a.2.1 < (List.length y15.2.2:Int))) ((y15.2.2.length=y15.2.2.length)∧(Br (decide ((0:Int)≤y15.1)&&decide (y15.1 < (List.length y15.2.2:Int))) ((y15.2.2.length=y15.2.2.length)∧(∃ c20:ByteArray×ByteArray,((at_ y15.2.2 a.2.1)=c20.1)∧((at_ y15.2.2 y15.1)=c20.2)∧True∧Br (!(b6 c20)) (Let (wI (y15.1+(1:Int))) (fun v23:Int=>∃ x24:Int×Int×(List (ByteArray)),(y15.2.2.length=x24.2.2.length)∧(a.2.1=a.2.1)∧(v23=x24.1)∧(y15.2.1=x24.2.1)∧SlQ y15.2.2.length x24.2.2.length (gl aB y15.2.2) (gl aB x24.2.2) (I13 x24∧μ14 x24 < μ14 y15))) (∃ x29:Int×Int×(List (ByteArray)),(y15.2.2.length=x29.2.2.length)∧(a.2.1=a.2.1)∧(y15.1=x29.1)∧(y15.2.1=x29.2.1)∧SlQ y15.2.2.length x29.2.2.length (gl aB y15.2.2) (gl aB x29.2.2) (I11 x29)))) False)) False) (∃ x35:Int×Int×(List (ByteArray)),(y15.2.2.length=x35.2.2.length)∧(a.2.1=a.2.1)∧(y15.1=x35.1)∧(y15.2.1=x35.2.1)∧SlQ y15.2.2.length x35.2.2.length (gl aB y15.2.2) (gl aB x35.2.2) (I11 x35))))∧∀ y41:Int×Int×(List (ByteArray)),I11 y41→(∃ I44:(Int×Int×(List (ByteArray)))→Prop,(∃ (I46:(Int×Int×(List (ByteArray)))→Prop) (μ47:(Int×Int×(List (ByteArray)))→Nat),(∃ x45:Int×Int×(List (ByteArray)),(y41.2.2.length=x45.2.2.length)∧(a.2.1=a.2.1)∧(y41.1=x45.1)∧(y41.2.1=x45.2.1)∧SlQ y41.2.2.length x45.2.2.length (gl aB y41.2.2) (gl aB x45.2.2) (I46 x45))∧∀ y48:Int×Int×(List (ByteArray)),I46 y48→(Br (decide (y48.1≤y48.2.1)) (Br (decide ((0:Int)≤a.2.1)&&decide (a.2.1 < (List.length y48.2.2:Int))) ((y48.2.2.length=y48.2.2.length)∧(Br (decide ((0:Int)≤y48.2.1)&&decide (y48.2.1 < (List.length y48.2.2:Int))) ((y48.2.2.length=y48.2.2.length)∧(∃ c53:ByteArray×ByteArray,((at_ y48.2.2 a.2.1)=c53.1)∧((at_ y48.2.2 y48.2.1)=c53.2)∧True∧Br (b6 c53) (Let (wI (y48.2.1 - (1:Int))) (fun v56:Int=>∃ x57:Int×Int×(List (ByteArray)),(y48.2.2.length=x57.2.2.length)∧(a.2.1=a.2.1)∧(y48.1=x57.1)∧(v56=x57.2.1)∧SlQ y48.2.2.length x57.2.2.length (gl aB y48.2.2) (gl aB x57.2.2) (I46 x57∧μ47 x57 < μ47 y48))) (∃ x62:Int×Int×(List (ByteArray)),(y48.2.2.length=x62.2.2.length)∧(a.2.1=a.2.1)∧(y48.1=x62.1)∧(y48.2.1=x62.2.1)∧SlQ y48.2.2.length x62.2.2.length (gl aB y48.2.2) (gl aB x62.2.2) (I44 x62)))) False)) False) (∃ x68:Int×Int×(List (ByteArray)),(y48.2.2.length=x68.2.2.length)∧(a.2.1=a.2.1)∧(y48.1=x68.1)∧(y48.2.1=x68.2.1)∧SlQ y48.2.2.length x68.2.2.length (gl aB y48.2.2) (gl aB x68.2.2) (I44 x68))))∧∀ y74:Int×Int×(List (ByteArray)),I44 y74→(Br (decide (y74.2.1 < y74.1)) ((y74.1=(((cT slt) a).1))∧SlQ y74.2.2.length (List.length (((cT slt) a).2)) (gl aB y74.2.2) (gl aB (((cT slt) a).2)) (True)) (Br (decide ((0:Int)≤y74.2.1)&&decide (y74.2.1 < (List.length y74.2.2:Int))) ((y74.2.2.length=y74.2.2.length)∧(Br (decide ((0:Int)≤y74.1)&&decide (y74.1 < (List.length y74.2.2:Int))) ((y74.2.2.length=y74.2.2.length)∧(Br (decide ((0:Int)≤y74.1)&&decide (y74.1 < (List.length y74.2.2:Int))) ((y74.2.2.length=y74.2.2.length)∧(Br (decide ((0:Int)≤y74.2.1)&&decide (y74.2.1 < (List.length y74.2.2:Int))) ((y74.2.2.length=y74.2.2.length)∧(Let (wI (y74.1+(1:Int))) (fun v84:Int=>Let (wI (y74.2.1 - (1:Int))) (fun v85:Int=>∃ x86:Int×Int×(List (ByteArray)),(y74.2.2.length=x86.2.2.length)∧(a.2.1=a.2.1)∧(v84=x86.1)∧(v85=x86.2.1)∧SlQ y74.2.2.length x86.2.2.length (gset (gset (gl aB y74.2.2) (Int.toNat y74.1) [.str (at_ y74.2.2 y74.2.1)]) (Int.toNat y74.2.1) [.str (at_ y74.2.2 y74.1)]) (gl aB x86.2.2) (I8 x86∧μ9 x86 < μ9 y10))))) False)) False)) False)) False)))))))) False)) False)) False)) False
def f218.vc (a:(List (ByteArray))×Int×Int×Int):Prop:=((0:Int)≤a.2.2.2∧a.2.2.2 < (List.length a.1:Int)∧((0:Int)≤a.2.1∧a.2.1 < (List.length a.1:Int)∧((0:Int)≤a.2.1∧a.2.1 < (List.length a.1:Int)∧((0:Int)≤a.2.2.2∧a.2.2.2 < (List.length a.1:Int)∧(-9223372036854775808≤(a.2.1+(1:Int))∧(a.2.1+(1:Int))≤9223372036854775807∧(-9223372036854775808≤(a.2.2.1 - (1:Int))∧(a.2.2.1 - (1:Int))≤9223372036854775807∧(∃ (I8:(Int×Int×(List (ByteArray)))→Prop) (μ9:(Int×Int×(List (ByteArray)))→Nat),I8 ((a.2.1+(1:Int)),(a.2.2.1 - (1:Int)),List.set (List.set a.1 (Int.toNat a.2.1) (at_ a.1 a.2.2.2)) (Int.toNat a.2.2.2) (at_ a.1 a.2.1))∧∀ y10:Int×Int×(List (ByteArray)),I8 y10→(∃ I11:(Int×Int×(List (ByteArray)))→Prop,((∃ (I13:(Int×Int×(List (ByteArray)))→Prop) (μ14:(Int×Int×(List (ByteArray)))→Nat),I13 (y10.1,y10.2.1,y10.2.2)∧∀ y15:Int×Int×(List (ByteArray)),I13 y15→((y15.1≤y15.2.1→((0:Int)≤a.2.1∧a.2.1 < (List.length y15.2.2:Int)∧((0:Int)≤y15.1∧y15.1 < (List.length y15.2.2:Int)∧((¬((b6 (at_ y15.2.2 a.2.1,at_ y15.2.2 y15.1))=true)→(-9223372036854775808≤(y15.1+(1:Int))∧(y15.1+(1:Int))≤9223372036854775807∧(I13 ((y15.1+(1:Int)),y15.2.1,y15.2.2)∧μ14 ((y15.1+(1:Int)),y15.2.1,y15.2.2) < μ14 y15)))∧(¬(¬((b6 (at_ y15.2.2 a.2.1,at_ y15.2.2 y15.1))=true))→(I11 (y15.1,y15.2.1,y15.2.2)))))))∧(¬(y15.1≤y15.2.1)→(I11 (y15.1,y15.2.1,y15.2.2))))))∧∀ y41:Int×Int×(List (ByteArray)),I11 y41→(∃ I44:(Int×Int×(List (ByteArray)))→Prop,((∃ (I46:(Int×Int×(List (ByteArray)))→Prop) (μ47:(Int×Int×(List (ByteArray)))→Nat),I46 (y41.1,y41.2.1,y41.2.2)∧∀ y48:Int×Int×(List (ByteArray)),I46 y48→((y48.1≤y48.2.1→((0:Int)≤a.2.1∧a.2.1 < (List.length y48.2.2:Int)∧((0:Int)≤y48.2.1∧y48.2.1 < (List.length y48.2.2:Int)∧(((b6 (at_ y48.2.2 a.2.1,at_ y48.2.2 y48.2.1))=true→(-9223372036854775808≤(y48.2.1 - (1:Int))∧(y48.2.1 - (1:Int))≤9223372036854775807∧(I46 (y48.1,(y48.2.1 - (1:Int)),y48.2.2)∧μ47 (y48.1,(y48.2.1 - (1:Int)),y48.2.2) < μ47 y48)))∧(¬((b6 (at_ y48.2.2 a.2.1,at_ y48.2.2 y48.2.1))=true)→(I44 (y48.1,y48.2.1,y48.2.2)))))))∧(¬(y48.1≤y48.2.1)→(I44 (y48.1,y48.2.1,y48.2.2))))))∧∀ y74:Int×Int×(List (ByteArray)),I44 y74→((y74.2.1 < y74.1→((y74.1,y74.2.2)=(cT slt) a))∧(¬(y74.2.1 < y74.1)→((0:Int)≤y74.2.1∧y74.2.1 < (List.length y74.2.2:Int)∧((0:Int)≤y74.1∧y74.1 < (List.length y74.2.2:Int)∧((0:Int)≤y74.1∧y74.1 < (List.length y74.2.2:Int)∧((0:Int)≤y74.2.1∧y74.2.1 < (List.length y74.2.2:Int)∧(-9223372036854775808≤(y74.1+(1:Int))∧(y74.1+(1:Int))≤9223372036854775807∧(-9223372036854775808≤(y74.2.1 - (1:Int))∧(y74.2.1 - (1:Int))≤9223372036854775807∧(I8 ((y74.1+(1:Int)),(y74.2.1 - (1:Int)),List.set (List.set y74.2.2 (Int.toNat y74.1) (at_ y74.2.2 y74.2.1)) (Int.toNat y74.2.1) (at_ y74.2.2 y74.1))∧μ9 ((y74.1+(1:Int)),(y74.2.1 - (1:Int)),List.set (List.set y74.2.2 (Int.toNat y74.1) (at_ y74.2.2 y74.2.1)) (Int.toNat y74.2.1) (at_ y74.2.2 y74.1)) < μ9 y10))))))))))))))))))
theorem f218.of (a:(List (ByteArray))×Int×Int×Int) (h:f218.vc a):f218.tree a:=chk h.2.2 Cnd.ix ⟨h.1,h.2.1⟩ (fun h1 k112=>⟨rfl,chk k112.2.2 Cnd.ix ⟨k112.1,k112.2.1⟩ (fun h2 k111=>⟨rfl,chk k111.2.2 Cnd.ix ⟨k111.1,k111.2.1⟩ (fun h3 k110=>⟨rfl,chk k110.2.2 Cnd.ix ⟨k110.1,k110.2.1⟩ (fun h4 k109=>⟨rfl,wrapK.i64 k109 (fun h106 h107 k108=>wrapK.i64 k108 (fun h103 h104 k105=>Exists.elim k105 (fun I8 h100_=>Exists.elim h100_ (fun μ9 h100=>⟨I8,μ9,⟨((a.2.1+(1:Int)),(a.2.2.1 - (1:Int)),List.set (List.set a.1 (Int.toNat a.2.1) (at_ a.1 a.2.2.2)) (Int.toNat a.2.2.2) (at_ a.1 a.2.1)),⟨(bB (gset (gset (gl aB a.1) (Int.toNat a.2.1) [.str (at_ a.1 a.2.2.2)]) (Int.toNat a.2.2.2) [.str (at_ a.1 a.2.1)]) (Rds.gset (enc:=aB) (Rds.gset (enc:=aB) (rS aB) (DEqs.refl _)) (DEqs.refl _))),⟨rfl,⟨rfl,⟨rfl,slQ (Rds.gset (enc:=aB) (Rds.gset (enc:=aB) (rS aB) (DEqs.refl _)) (DEqs.refl _)) (h100.1)⟩⟩⟩⟩⟩,fun y10 h102=>Exists.elim (h100.2 y10 h102) (fun I11 h43=>⟨I11,Exists.elim h43.1 (fun I13 h38_=>Exists.elim h38_ (fun μ14 h38=>⟨I13,μ14,⟨(y10.1,y10.2.1,y10.2.2),⟨(bB (gl aB y10.2.2) (rS aB)),⟨rfl,⟨rfl,⟨rfl,slQ (rS aB) (h38.1)⟩⟩⟩⟩⟩,fun y15 h40=>br (h38.2 y15 h40) Cnd.dec (fun h16 k36=>chk k36.2.2 Cnd.ix ⟨k36.1,k36.2.1⟩ (fun h18 k34=>⟨rfl,chk k34.2.2 Cnd.ix ⟨k34.1,k34.2.1⟩ (fun h19 k33=>⟨rfl,⟨(at_ y15.2.2 a.2.1,at_ y15.2.2 y15.1),⟨rfl,⟨rfl,⟨trivial,br k33 (Cnd.not Cnd.b) (fun h21 k30=>wrapK.i64 k30 (fun h26 h27 k28=>⟨((y15.1+(1:Int)),y15.2.1,y15.2.2),⟨(bB (gl aB y15.2.2) (rS aB)),⟨rfl,⟨rfl,⟨rfl,slQ (rS aB) (k28)⟩⟩⟩⟩⟩)) (fun h22 k31=>⟨(y15.1,y15.2.1,y15.2.2),⟨(bB (gl aB y15.2.2) (rS aB)),⟨rfl,⟨rfl,⟨rfl,slQ (rS aB) (k31)⟩⟩⟩⟩⟩)⟩⟩⟩⟩⟩)⟩)) (fun h17 k37=>⟨(y15.1,y15.2.1,y15.2.2),⟨(bB (gl aB y15.2.2) (rS aB)),⟨rfl,⟨rfl,⟨rfl,slQ (rS aB) (k37)⟩⟩⟩⟩⟩)⟩)),fun y41 h42=>Exists.elim (h43.2 y41 h42) (fun I44 h76=>⟨I44,Exists.elim h76.1 (fun I46 h71_=>Exists.elim h71_ (fun μ47 h71=>⟨I46,μ47,⟨(y41.1,y41.2.1,y41.2.2),⟨(bB (gl aB y41.2.2) (rS aB)),⟨rfl,⟨rfl,⟨rfl,slQ (rS aB) (h71.1)⟩⟩⟩⟩⟩,fun y48 h73=>br (h71.2 y48 h73) Cnd.dec (fun h49 k69=>chk k69.2.2 Cnd.ix ⟨k69.1,k69.2.1⟩ (fun h51 k67=>⟨rfl,chk k67.2.2 Cnd.ix ⟨k67.1,k67.2.1⟩ (fun h52 k66=>⟨rfl,⟨(at_ y48.2.2 a.2.1,at_ y48.2.2 y48.2.1),⟨rfl,⟨rfl,⟨trivial,br k66 Cnd.b (fun h54 k63=>wrapK.i64 k63 (fun h59 h60 k61=>⟨(y48.1,(y48.2.1 - (1:Int)),y48.2.2),⟨(bB (gl aB y48.2.2) (rS aB)),⟨rfl,⟨rfl,⟨rfl,slQ (rS aB) (k61)⟩⟩⟩⟩⟩)) (fun h55 k64=>⟨(y48.1,y48.2.1,y48.2.2),⟨(bB (gl aB y48.2.2) (rS aB)),⟨rfl,⟨rfl,⟨rfl,slQ (rS aB) (k64)⟩⟩⟩⟩⟩)⟩⟩⟩⟩⟩)⟩)) (fun h50 k70=>⟨(y48.1,y48.2.1,y48.2.2),⟨(bB (gl aB y48.2.2) (rS aB)),⟨rfl,⟨rfl,⟨rfl,slQ (rS aB) (k70)⟩⟩⟩⟩⟩)⟩)),fun y74 h75=>br (h76.2 y74 h75) Cnd.dec (fun h77 k98=>⟨(congrArg (fun x:Int×(List (ByteArray))=>x.1) k98 :),slQ (Rds.to (rS aB) (congrArg (fun x:Int×(List (ByteArray))=>x.2) k98 :)) (trivial)⟩) (fun h78 k99=>chk k99.2.2 Cnd.ix ⟨k99.1,k99.2.1⟩ (fun h80 k97=>⟨rfl,chk k97.2.2 Cnd.ix ⟨k97.1,k97.2.1⟩ (fun h81 k96=>⟨rfl,chk k96.2.2 Cnd.ix ⟨k96.1,k96.2.1⟩ (fun h82 k95=>⟨rfl,chk k95.2.2 Cnd.ix ⟨k95.1,k95.2.1⟩ (fun h83 k94=>⟨rfl,wrapK.i64 k94 (fun h91 h92 k93=>wrapK.i64 k93 (fun h88 h89 k90=>⟨((y74.1+(1:Int)),(y74.2.1 - (1:Int)),List.set (List.set y74.2.2 (Int.toNat y74.1) (at_ y74.2.2 y74.2.1)) (Int.toNat y74.2.1) (at_ y74.2.2 y74.1)),⟨(bB (gset (gset (gl aB y74.2.2) (Int.toNat y74.1) [.str (at_ y74.2.2 y74.2.1)]) (Int.toNat y74.2.1) [.str (at_ y74.2.2 y74.1)]) (Rds.gset (enc:=aB) (Rds.gset (enc:=aB) (rS aB) (DEqs.refl _)) (DEqs.refl _))),⟨rfl,⟨rfl,⟨rfl,slQ (Rds.gset (enc:=aB) (Rds.gset (enc:=aB) (rS aB) (DEqs.refl _)) (DEqs.refl _)) (k90)⟩⟩⟩⟩⟩))⟩)⟩)⟩)⟩))⟩)⟩)⟩))))⟩)⟩)⟩)⟩)
theorem f218.eq (a:(List (ByteArray))×Int×Int×Int):(f218.af a).gives f218.env (f218.args a) (f218.blks a) (f218.res a) (f218.blks' a)=f218.tree a:=by kernel_rfl
def f219.args (a:(List (ByteArray))×Int×Int×Int):List D:=[.msl 0 1 a.1.length,.int .i64 a.2.1,.int .i64 a.2.2.1,.int .i64 a.2.2.2]
def f219.blks (a:(List (ByteArray))×Int×Int×Int):List (List D):=[[.dead,.arr false 1 a.1.length (gl aB a.1)]]
def f219.res (a:(List (ByteArray))×Int×Int×Int):List D:=[.int .i64 (((aS slt) a).1),.bool (((aS slt) a).2.1)]
def f219.blks' (a:(List (ByteArray))×Int×Int×Int):List (List D):=[[.dead,.arr false 1 (List.length (((aS slt) a).2.2)) (gl aB (((aS slt) a).2.2))]]
def f219.C:aP:=FnC f219.args f219.blks (fun a=>hT a) f219.res f219.blks'
def f219.S0 (a:(List (ByteArray))×Int×Int×Int) (x:Int×Int×(List (ByteArray))):Tm:=⟨.msl 0 1 x.2.2.length::.int .i64 a.2.1::dd 8 (.int .i64 x.1::.int .i64 x.2.1::dd 156 []),[(0,false,[.dead,.arr false 1 x.2.2.length (gl aB x.2.2)])],[]⟩
def f219.S1 (a:(List (ByteArray))×Int×Int×Int) (x:Int×Int×(List (ByteArray))):Tm:=⟨.msl 0 1 x.2.2.length::.int .i64 a.2.1::dd 8 (.int .i64 x.1::.int .i64 x.2.1::dd 156 []),[(0,false,[.dead,.arr false 1 x.2.2.length (gl aB x.2.2)])],[]⟩
def f219.S2 (a:(List (ByteArray))×Int×Int×Int) (x:Int×Int×(List (ByteArray))):Tm:=⟨.msl 0 1 x.2.2.length::.int .i64 a.2.1::dd 8 (.int .i64 x.1::.int .i64 x.2.1::dd 156 []),[(0,false,[.dead,.arr false 1 x.2.2.length (gl aB x.2.2)])],[]⟩
def f219.S3 (a:(List (ByteArray))×Int×Int×Int) (x:Int×Int×(List (ByteArray))):Tm:=⟨.msl 0 1 x.2.2.length::.int .i64 a.2.1::dd 8 (.int .i64 x.1::.int .i64 x.2.1::dd 156 []),[(0,false,[.dead,.arr false 1 x.2.2.length (gl aB x.2.2)])],[]⟩
def f219.S4 (a:(List (ByteArray))×Int×Int×Int) (x:Int×Int×(List (ByteArray))):Tm:=⟨.msl 0 1 x.2.2.length::.int .i64 a.2.1::dd 8 (.int .i64 x.1::.int .i64 x.2.1::dd 156 []),[(0,false,[.dead,.arr false 1 x.2.2.length (gl aB x.2.2)])],[]⟩
def f219.kills (a:(List (ByteArray))×Int×Int×Int):List Hint:=[.tell (Int×Int×(List (ByteArray))) (f219.S0 a),
 .tell (Int×Int×(List (ByteArray))) (f219.S1 a),
 .tell (Int×Int×(List (ByteArray))) (f219.S2 a),
 .tell (Int×Int×(List (ByteArray))) (f219.S3 a),
 .tell (Int×Int×(List (ByteArray))) (f219.S4 a)]
def f219.cuts (a:(List (ByteArray))×Int×Int×Int):List (Nat×Σ β:Type,β→Tm):=[(999999,⟨Unit,fun x=>⟨[],[],[]⟩⟩),
 (100003,⟨Int×Int×(List (ByteArray)),fun x=>⟨.msl 0 1 x.2.2.length::.int .i64 a.2.1::dd 8 (.int .i64 x.1::.int .i64 x.2.1::dd 156 []),[(0,false,[.dead,.arr false 1 x.2.2.length (gl aB x.2.2)])],[]⟩⟩),
 (100006,⟨Int×Int×(List (ByteArray)),fun x=>⟨.msl 0 1 x.2.2.length::.int .i64 a.2.1::dd 8 (.int .i64 x.1::.int .i64 x.2.1::dd 156 []),[(0,false,[.dead,.arr false 1 x.2.2.length (gl aB x.2.2)])],[]⟩⟩),
 (100017,⟨Int×Int×(List (ByteArray)),fun x=>⟨.msl 0 1 x.2.2.length::.int .i64 a.2.1::dd 8 (.int .i64 x.1::.int .i64 x.2.1::dd 156 []),[(0,false,[.dead,.arr false 1 x.2.2.length (gl aB x.2.2)])],[]⟩⟩),
 (100020,⟨Int×Int×(List (ByteArray)),fun x=>⟨.msl 0 1 x.2.2.length::.int .i64 a.2.1::dd 8 (.int .i64 x.1::.int .i64 x.2.1::dd 156 []),[(0,false,[.dead,.arr false 1 x.2.2.length (gl aB x.2.2)])],[]⟩⟩)]
def f219.af (a:(List (ByteArray))×Int×Int×Int):AF:=AF.mk (.seq (.region [⟨(some 8),1000000,.move,[.c (.int .i64 (0))],none⟩,
 ⟨(some 9),1000001,.move,[.c (.bool false)],none⟩])
 (.seq (.region [mR 12 2 0,
 mR 13 3 1,
 mR 14 4 0,
 mR 15 5 3,
 mR 16 6 0,
 mR 17 7 3,
 oR 18 8 (.indexAddr 1 none) [16,17],
 oR 19 9 (.load false 1) [18],
 mR 20 10 0,
 mR 21 11 1,
 oR 22 12 (.indexAddr 1 none) [20,21],
 oR 23 13 (.load false 1) [22],
 oR 24 14 (.indexAddr 1 none) [12,13],
 ⟨none,1000015,(.store 1),[.t 24,.t 19],none⟩,
 oR 25 16 (.indexAddr 1 none) [14,15],
 ⟨none,1000017,(.store 1),[.t 25,.t 23],none⟩])
 (.seq (.region [mR 26 18 1,
 ⟨(some 27),1000019,(.bin .add),[.t 26,.c (.int .i64 (1))],none⟩,
 mR 28 20 2,
 ⟨(some 29),1000021,(.bin .sub),[.t 28,.c (.int .i64 (1))],none⟩,
 mR 10 22 27,
 mR 11 23 29])
 (.joinT (Int×Int×(List (ByteArray))) (fun x=>⟨.msl 0 1 x.2.2.length::.int .i64 a.2.1::dd 8 (.int .i64 x.1::.int .i64 x.2.1::dd 156 []),[(0,false,[.dead,.arr false 1 x.2.2.length (gl aB x.2.2)])],[]⟩) (.block 0 (.loopT (Int×Int×(List (ByteArray))) (f219.S0 a) 1000024 1000044 (.seq (.seq (.region [mR 30 24 10,
 mR 31 25 11,
 oR 32 26 (.bin .leq) [30,31],
 mR 33 27 32,
 oG 34 1000028 .move [0] 33 true,
 oG 35 1000029 .move [10] 33 true,
 oG 36 1000030 (.indexAddr 1 none) [34,35] 33 true,
 oG 37 1000031 (.load false 1) [36] 33 true,
 oG 38 1000032 .move [0] 33 true,
 oG 39 1000033 .move [1] 33 true,
 oG 40 1000034 (.indexAddr 1 none) [38,39] 33 true,
 oG 41 1000035 (.load false 1) [40] 33 true,
 oG 42 1000036 (.call false 217) [37,41] 33 true,
 ⟨(some 43),1000040,.pick,[.t 33,.t 42,.c (.bool false)],none⟩])
 (.cond (.t 43) (.skip) (.exit 0)))
 (.block 1 (.region [mR 44 41 10,
 ⟨(some 45),1000042,(.bin .add),[.t 44,.c (.int .i64 (1))],none⟩,
 mR 10 43 45])))))
 (.joinT (Int×Int×(List (ByteArray))) (fun x=>⟨.msl 0 1 x.2.2.length::.int .i64 a.2.1::dd 8 (.int .i64 x.1::.int .i64 x.2.1::dd 156 []),[(0,false,[.dead,.arr false 1 x.2.2.length (gl aB x.2.2)])],[]⟩) (.block 2 (.loopT (Int×Int×(List (ByteArray))) (f219.S1 a) 1000044 1000065 (.seq (.seq (.region [mR 46 44 10,
 mR 47 45 11,
 oR 48 46 (.bin .leq) [46,47],
 mR 49 47 48,
 oG 50 1000048 .move [0] 49 true,
 oG 51 1000049 .move [11] 49 true,
 oG 52 1000050 (.indexAddr 1 none) [50,51] 49 true,
 oG 53 1000051 (.load false 1) [52] 49 true,
 oG 54 1000052 .move [0] 49 true,
 oG 55 1000053 .move [1] 49 true,
 oG 56 1000054 (.indexAddr 1 none) [54,55] 49 true,
 oG 57 1000055 (.load false 1) [56] 49 true,
 oG 58 1000056 (.call false 217) [53,57] 49 true,
 oG 59 1000060 (.un .not) [58] 49 true,
 ⟨(some 60),1000061,.pick,[.t 49,.t 59,.c (.bool false)],none⟩])
 (.cond (.t 60) (.skip) (.exit 2)))
 (.block 3 (.region [mR 61 62 11,
 ⟨(some 62),1000063,(.bin .sub),[.t 61,.c (.int .i64 (1))],none⟩,
 mR 11 64 62])))))
 (.seq (.seq (.region [mR 63 65 10,
 mR 64 66 11,
 oR 65 67 (.bin .gtr) [63,64]])
 (.cond (.t 65) (.seq (.region [mR 66 68 0,
 mR 67 69 11,
 mR 68 70 0,
 mR 69 71 1,
 mR 70 72 0,
 mR 71 73 1,
 oR 72 74 (.indexAddr 1 none) [70,71],
 oR 73 75 (.load false 1) [72],
 mR 74 76 0,
 mR 75 77 11,
 oR 76 78 (.indexAddr 1 none) [74,75],
 oR 77 79 (.load false 1) [76],
 oR 78 80 (.indexAddr 1 none) [66,67],
 ⟨none,1000081,(.store 1),[.t 78,.t 73],none⟩,
 oR 79 82 (.indexAddr 1 none) [68,69],
 ⟨none,1000083,(.store 1),[.t 79,.t 77],none⟩])
 (.seq (.region [mR 80 84 11,
 mR 8 85 80,
 ⟨(some 9),1000086,.move,[.c (.bool true)],none⟩])
 (.ret))) (.skip)))
 (.seq (.region [mR 81 87 0,
 mR 82 88 10,
 mR 83 89 0,
 mR 84 90 11,
 mR 85 91 0,
 mR 86 92 11,
 oR 87 93 (.indexAddr 1 none) [85,86],
 oR 88 94 (.load false 1) [87],
 mR 89 95 0,
 mR 90 96 10,
 oR 91 97 (.indexAddr 1 none) [89,90],
 oR 92 98 (.load false 1) [91],
 oR 93 99 (.indexAddr 1 none) [81,82],
 ⟨none,1000100,(.store 1),[.t 93,.t 88],none⟩,
 oR 94 101 (.indexAddr 1 none) [83,84],
 ⟨none,1000102,(.store 1),[.t 94,.t 92],none⟩])
 (.seq (.region [mR 95 103 10,
 ⟨(some 96),1000104,(.bin .add),[.t 95,.c (.int .i64 (1))],none⟩,
 mR 10 105 96])
 (.seq (.region [mR 97 106 11,
 ⟨(some 98),1000107,(.bin .sub),[.t 97,.c (.int .i64 (1))],none⟩,
 mR 11 108 98])
 (.seq (.block 4 (.loopT (Int×Int×(List (ByteArray))) (f219.S2 a) 1000109 1000175 (.block 5 (.joinT (Int×Int×(List (ByteArray))) (fun x=>⟨.msl 0 1 x.2.2.length::.int .i64 a.2.1::dd 8 (.int .i64 x.1::.int .i64 x.2.1::dd 156 []),[(0,false,[.dead,.arr false 1 x.2.2.length (gl aB x.2.2)])],[]⟩) (.block 6 (.loopT (Int×Int×(List (ByteArray))) (f219.S3 a) 1000109 1000129 (.seq (.seq (.region [mR 99 109 10,
 mR 100 110 11,
 oR 101 111 (.bin .leq) [99,100],
 mR 102 112 101,
 oG 103 1000113 .move [0] 102 true,
 oG 104 1000114 .move [10] 102 true,
 oG 105 1000115 (.indexAddr 1 none) [103,104] 102 true,
 oG 106 1000116 (.load false 1) [105] 102 true,
 oG 107 1000117 .move [0] 102 true,
 oG 108 1000118 .move [1] 102 true,
 oG 109 1000119 (.indexAddr 1 none) [107,108] 102 true,
 oG 110 1000120 (.load false 1) [109] 102 true,
 oG 111 1000121 (.call false 217) [106,110] 102 true,
 ⟨(some 112),1000125,.pick,[.t 102,.t 111,.c (.bool false)],none⟩])
 (.cond (.t 112) (.skip) (.exit 6)))
 (.block 7 (.region [mR 113 126 10,
 ⟨(some 114),1000127,(.bin .add),[.t 113,.c (.int .i64 (1))],none⟩,
 mR 10 128 114])))))
 (.joinT (Int×Int×(List (ByteArray))) (fun x=>⟨.msl 0 1 x.2.2.length::.int .i64 a.2.1::dd 8 (.int .i64 x.1::.int .i64 x.2.1::dd 156 []),[(0,false,[.dead,.arr false 1 x.2.2.length (gl aB x.2.2)])],[]⟩) (.block 8 (.loopT (Int×Int×(List (ByteArray))) (f219.S4 a) 1000129 1000150 (.seq (.seq (.region [mR 115 129 10,
 mR 116 130 11,
 oR 117 131 (.bin .leq) [115,116],
 mR 118 132 117,
 oG 119 1000133 .move [0] 118 true,
 oG 120 1000134 .move [11] 118 true,
 oG 121 1000135 (.indexAddr 1 none) [119,120] 118 true,
 oG 122 1000136 (.load false 1) [121] 118 true,
 oG 123 1000137 .move [0] 118 true,
 oG 124 1000138 .move [1] 118 true,
 oG 125 1000139 (.indexAddr 1 none) [123,124] 118 true,
 oG 126 1000140 (.load false 1) [125] 118 true,
 oG 127 1000141 (.call false 217) [122,126] 118 true,
 oG 128 1000145 (.un .not) [127] 118 true,
 ⟨(some 129),1000146,.pick,[.t 118,.t 128,.c (.bool false)],none⟩])
 (.cond (.t 129) (.skip) (.exit 8)))
 (.block 9 (.region [mR 130 147 11,
 ⟨(some 131),1000148,(.bin .sub),[.t 130,.c (.int .i64 (1))],none⟩,
 mR 11 149 131])))))
 (.seq (.seq (.region [mR 132 150 10,
 mR 133 151 11,
 oR 134 152 (.bin .gtr) [132,133]])
 (.cond (.t 134) (.exit 4) (.skip)))
 (.seq (.region [mR 135 153 0,
 mR 136 154 10,
 mR 137 155 0,
 mR 138 156 11,
 mR 139 157 0,
 mR 140 158 11,
 oR 141 159 (.indexAddr 1 none) [139,140],
 oR 142 160 (.load false 1) [141],
 mR 143 161 0,
 mR 144 162 10,
 oR 145 163 (.indexAddr 1 none) [143,144],
 oR 146 164 (.load false 1) [145],
 oR 147 165 (.indexAddr 1 none) [135,136],
 ⟨none,1000166,(.store 1),[.t 147,.t 142],none⟩,
 oR 148 167 (.indexAddr 1 none) [137,138],
 ⟨none,1000168,(.store 1),[.t 148,.t 146],none⟩])
 (.seq (.region [mR 149 169 10,
 ⟨(some 150),1000170,(.bin .add),[.t 149,.c (.int .i64 (1))],none⟩,
 mR 10 171 150])
 (.region [mR 151 172 11,
 ⟨(some 152),1000173,(.bin .sub),[.t 151,.c (.int .i64 (1))],none⟩,
 mR 11 174 152])))))))))
 (.seq (.region [mR 153 175 0,
 mR 154 176 11,
 mR 155 177 0,
 mR 156 178 1,
 mR 157 179 0,
 mR 158 180 1,
 oR 159 181 (.indexAddr 1 none) [157,158],
 oR 160 182 (.load false 1) [159],
 mR 161 183 0,
 mR 162 184 11,
 oR 163 185 (.indexAddr 1 none) [161,162],
 oR 164 186 (.load false 1) [163],
 oR 165 187 (.indexAddr 1 none) [153,154],
 ⟨none,1000188,(.store 1),[.t 165,.t 160],none⟩,
 oR 166 189 (.indexAddr 1 none) [155,156],
 ⟨none,1000190,(.store 1),[.t 166,.t 164],none⟩])
 (.seq (.region [mR 167 191 11,
 mR 8 192 167,
 ⟨(some 9),1000193,.move,[.c (.bool false)],none⟩])
 (.ret)))))))))))))
 [.tmp 8,.tmp 9] 1 164
def f219.env:Env:=[(217,f217.C)]
def f219.tree (a:(List (ByteArray))×Int×Int×Int):Prop:=Br (decide ((0:Int)≤a.2.2.2)&&decide (a.2.2.2 < (List.length a.1:Int))) ((a.1.length=a.1.length)∧(Br (decide ((0:Int)≤a.2.1)&&decide (a.2.1 < (List.length a.1:Int))) ((a.1.length=a.1.length)∧(Br (decide ((0:Int)≤a.2.1)&&decide (a.2.1 < (List.length a.1:Int))) ((a.1.length=a.1.length)∧(Br (decide ((0:Int)≤a.2.2.2)&&decide (a.2.2.2 < (List.length a.1:Int))) ((a.1.length=a.1.length)∧(Let (wI (a.2.1+(1:Int))) (fun v5:Int=>Let (wI (a.2.2.1 - (1:Int))) (fun v6:Int=>∃ I7:(Int×Int×(List (ByteArray)))→Prop,(∃ (I9:(Int×Int×(List (ByteArray)))→Prop) (μ10:(Int×Int×(List (ByteArray)))→Nat),(∃ x8:Int×Int×(List (ByteArray)),(a.1.length=x8.2.2.length)∧(a.2.1=a.2.1)∧(v5=x8.1)∧(v6=x8.2.1)∧SlQ a.1.length x8.2.2.length (gset (gset (gl aB a.1) (Int.toNat a.2.1) [.str (at_ a.1 a.2.2.2)]) (Int.toNat a.2.2.2) [.str (at_ a.1 a.2.1)]) (gl aB x8.2.2) (I9 x8))∧∀ y11:Int×Int×(List (ByteArray)),I9 y11→(Br (decide (y11.1≤y11.2.1)) (Br (decide ((0:Int)≤y11.1)&&decide (y11.1 < (List.length y11.2.2:Int))) ((y11.2.2.length=y11.2.2.length)∧(Br (decide ((0:Int)≤a.2.1)&&decide (a.2.1 < (List.length y11.2.2:Int))) ((y11.2.2.length=y11.2.2.length)∧(∃ c16:ByteArray×ByteArray,((at_ y11.2.2 y11.1)=c16.1)∧((at_ y11.2.2 a.2.1)=c16.2)∧True∧Br (b6 c16) (Let (wI (y11.1+(1:Int))) (fun v19:Int=>∃ x20:Int×Int×(List (ByteArray)),(y11.2.2.length=x20.2.2.length)∧(a.2.1=a.2.1)∧(v19=x20.1)∧(y11.2.1=x20.2.1)∧SlQ y11.2.2.length x20.2.2.length (gl aB y11.2.2) (gl aB x20.2.2) (I9 x20∧μ10 x20 < μ10 y11))) (∃ x25:Int×Int×(List (ByteArray)),(y11.2.2.length=x25.2.2.length)∧(a.2.1=a.2.1)∧(y11.1=x25.1)∧(y11.2.1=x25.2.1)∧SlQ y11.2.2.length x25.2.2.length (gl aB y11.2.2) (gl aB x25.2.2) (I7 x25)))) False)) False) (∃ x31:Int×Int×(List (ByteArray)),(y11.2.2.length=x31.2.2.length)∧(a.2.1=a.2.1)∧(y11.1=x31.1)∧(y11.2.1=x31.2.1)∧SlQ y11.2.2.length x31.2.2.length (gl aB y11.2.2) (gl aB x31.2.2) (I7 x31))))∧∀ y37:Int×Int×(List (ByteArray)),I7 y37→(∃ I40:(Int×Int×(List (ByteArray)))→Prop,(∃ (I42:(Int×Int×(List (ByteArray)))→Prop) (μ43:(Int×Int×(List (ByteArray)))→Nat),(∃ x41:Int×Int×(List (ByteArray)),(y37.2.2.length=x41.2.2.length)∧(a.2.1=a.2.1)∧(y37.1=x41.1)∧(y37.2.1=x41.2.1)∧SlQ y37.2.2.length x41.2.2.length (gl aB y37.2.2) (gl aB x41.2.2) (I42 x41))∧∀ y44:Int×Int×(List (ByteArray)),I42 y44→(Br (decide (y44.1≤y44.2.1)) (Br (decide ((0:Int)≤y44.2.1)&&decide (y44.2.1 < (List.length y44.2.2:Int))) ((y44.2.2.length=y44.2.2.length)∧(Br (decide ((0:Int)≤a.2.1)&&decide (a.2.1 < (List.length y44.2.2:Int))) ((y44.2.2.length=y44.2.2.length)∧(∃ c49:ByteArray×ByteArray,((at_ y44.2.2 y44.2.1)=c49.1)∧((at_ y44.2.2 a.2.1)=c49.2)∧True∧Br (!(b6 c49)) (Let (wI (y44.2.1 - (1:Int))) (fun v52:Int=>∃ x53:Int×Int×(List (ByteArray)),(y44.2.2.length=x53.2.2.length)∧(a.2.1=a.2.1)∧(y44.1=x53.1)∧(v52=x53.2.1)∧SlQ y44.2.2.length x53.2.2.length (gl aB y44.2.2) (gl aB x53.2.2) (I42 x53∧μ43 x53 < μ43 y44))) (∃ x58:Int×Int×(List (ByteArray)),(y44.2.2.length=x58.2.2.length)∧(a.2.1=a.2.1)∧(y44.1=x58.1)∧(y44.2.1=x58.2.1)∧SlQ y44.2.2.length x58.2.2.length (gl aB y44.2.2) (gl aB x58.2.2) (I40 x58)))) False)) False) (∃ x64:Int×Int×(List (ByteArray)),(y44.2.2.length=x64.2.2.length)∧(a.2.1=a.2.1)∧(y44.1=x64.1)∧(y44.2.1=x64.2.1)∧SlQ y44.2.2.length x64.2.2.length (gl aB y44.2.2) (gl aB x64.2.2) (I40 x64))))∧∀ y70:Int×Int×(List (ByteArray)),I40 y70→(Br (decide (y70.2.1 < y70.1)) (Br (decide ((0:Int)≤a.2.1)&&decide (a.2.1 < (List.length y70.2.2:Int))) ((y70.2.2.length=y70.2.2.length)∧(Br (decide ((0:Int)≤y70.2.1)&&decide (y70.2.1 < (List.length y70.2.2:Int))) ((y70.2.2.length=y70.2.2.length)∧(Br (decide ((0:Int)≤y70.2.1)&&decide (y70.2.1 < (List.length y70.2.2:Int))) ((y70.2.2.length=y70.2.2.length)∧(Br (decide ((0:Int)≤a.2.1)&&decide (a.2.1 < (List.length y70.2.2:Int))) ((y70.2.2.length=y70.2.2.length)∧((y70.2.1=(((aS slt) a).1))∧(true=(((aS slt) a).2.1))∧SlQ y70.2.2.length (List.length (((aS slt) a).2.2)) (gset (gset (gl aB y70.2.2) (Int.toNat y70.2.1) [.str (at_ y70.2.2 a.2.1)]) (Int.toNat a.2.1) [.str (at_ y70.2.2 y70.2.1)]) (gl aB (((aS slt) a).2.2)) (True))) False)) False)) False)) False) (Br (decide ((0:Int)≤y70.2.1)&&decide (y70.2.1 < (List.length y70.2.2:Int))) ((y70.2.2.length=y70.2.2.length)∧(Br (decide ((0:Int)≤y70.1)&&decide (y70.1 < (List.length y70.2.2:Int))) ((y70.2.2.length=y70.2.2.length)∧(Br (decide ((0:Int)≤y70.1)&&decide (y70.1 < (List.length y70.2.2:Int))) ((y70.2.2.length=y70.2.2.length)∧(Br (decide ((0:Int)≤y70.2.1)&&decide (y70.2.1 < (List.length y70.2.2:Int))) ((y70.2.2.length=y70.2.2.length)∧(Let (wI (y70.1+(1:Int))) (fun v88:Int=>Let (wI (y70.2.1 - (1:Int))) (fun v89:Int=>∃ (I91:(Int×Int×(List (ByteArray)))→Prop) (μ92:(Int×Int×(List (ByteArray)))→Nat),(∃ x90:Int×Int×(List (ByteArray)),(y70.2.2.length=x90.2.2.length)∧(a.2.1=a.2.1)∧(v88=x90.1)∧(v89=x90.2.1)∧SlQ y70.2.2.length x90.2.2.length (gset (gset (gl aB y70.2.2) (Int.toNat y70.1) [.str (at_ y70.2.2 y70.2.1)]) (Int.toNat y70.2.1) [.str (at_ y70.2.2 y70.1)]) (gl aB x90.2.2) (I91 x90))∧∀ y93:Int×Int×(List (ByteArray)),I91 y93→(∃ I94:(Int×Int×(List (ByteArray)))→Prop,(∃ (I96:(Int×Int×(List (ByteArray)))→Prop) (μ97:(Int×Int×(List (ByteArray)))→Nat),(∃ x95:Int×Int×(List (ByteArray)),(y93.2.2.length=x95.2.2.length)∧(a.2.1=a.2.1)∧(y93.1=x95.1)∧(y93.2.1=x95.2.1)∧SlQ y93.2.2.length x95.2.2.length (gl aB y93.2.2) (gl aB x95.2.2) (I96 x95))∧∀ y98:Int×Int×(List (ByteArray)),I96 y98→(Br (decide (y98.1≤y98.2.1)) (Br (decide ((0:Int)≤y98.1)&&decide (y98.1 < (List.length y98.2.2:Int))) ((y98.2.2.length=y98.2.2.length)∧(Br (decide ((0:Int)≤a.2.1)&&decide (a.2.1 < (List.length y98.2.2:Int))) ((y98.2.2.length=y98.2.2.length)∧(∃ c103:ByteArray×ByteArray,((at_ y98.2.2 y98.1)=c103.1)∧((at_ y98.2.2 a.2.1)=c103.2)∧True∧Br (b6 c103) (Let (wI (y98.1+(1:Int))) (fun v106:Int=>∃ x107:Int×Int×(List (ByteArray)),(y98.2.2.length=x107.2.2.length)∧(a.2.1=a.2.1)∧(v106=x107.1)∧(y98.2.1=x107.2.1)∧SlQ y98.2.2.length x107.2.2.length (gl aB y98.2.2) (gl aB x107.2.2) (I96 x107∧μ97 x107 < μ97 y98))) (∃ x112:Int×Int×(List (ByteArray)),(y98.2.2.length=x112.2.2.length)∧(a.2.1=a.2.1)∧(y98.1=x112.1)∧(y98.2.1=x112.2.1)∧SlQ y98.2.2.length x112.2.2.length (gl aB y98.2.2) (gl aB x112.2.2) (I94 x112)))) False)) False) (∃ x118:Int×Int×(List (ByteArray)),(y98.2.2.length=x118.2.2.length)∧(a.2.1=a.2.1)∧(y98.1=x118.1)∧(y98.2.1=x118.2.1)∧SlQ y98.2.2.length x118.2.2.length (gl aB y98.2.2) (gl aB x118.2.2) (I94 x118))))∧∀ y124:Int×Int×(List (ByteArray)),I94 y124→(∃ I127:(Int×Int×(List (ByteArray)))→Prop,(∃ (I129:(Int×Int×(List (ByteArray)))→Prop) (μ130:(Int×Int×(List (ByteArray)))→Nat),(∃ x128:Int×Int×(List (ByteArray)),(y124.2.2.length=x128.2.2.length)∧(a.2.1=a.2.1)∧(y124.1=x128.1)∧(y124.2.1=x128.2.1)∧SlQ y124.2.2.length x128.2.2.length (gl aB y124.2.2) (gl aB x128.2.2) (I129 x128))∧∀ y131:Int×Int×(List (ByteArray)),I129 y131→(Br (decide (y131.1≤y131.2.1)) (Br (decide ((0:Int)≤y131.2.1)&&decide (y131.2.1 < (List.length y131.2.2:Int))) ((y131.2.2.length=y131.2.2.length)∧(Br (decide ((0:Int)≤a.2.1)&&decide (a.2.1 < (List.length y131.2.2:Int))) ((y131.2.2.length=y131.2.2.length)∧(∃ c136:ByteArray×ByteArray,((at_ y131.2.2 y131.2.1)=c136.1)∧((at_ y131.2.2 a.2.1)=c136.2)∧True∧Br (!(b6 c136)) (Let (wI (y131.2.1 - (1:Int))) (fun v139:Int=>∃ x140:Int×Int×(List (ByteArray)),(y131.2.2.length=x140.2.2.length)∧(a.2.1=a.2.1)∧(y131.1=x140.1)∧(v139=x140.2.1)∧SlQ y131.2.2.length x140.2.2.length (gl aB y131.2.2) (gl aB x140.2.2) (I129 x140∧μ130 x140 < μ130 y131))) (∃ x145:Int×Int×(List (ByteArray)),(y131.2.2.length=x145.2.2.length)∧(a.2.1=a.2.1)∧(y131.1=x145.1)∧(y131.2.1=x145.2.1)∧SlQ y131.2.2.length x145.2.2.length (gl aB y131.2.2) (gl aB x145.2.2) (I127 x145)))) False)) False) (∃ x151:Int×Int×(List (ByteArray)),(y131.2.2.length=x151.2.2.length)∧(a.2.1=a.2.1)∧(y131.1=x151.1)∧(y131.2.1=x151.2.1)∧SlQ y131.2.2.length x151.2.2.length (gl aB y131.2.2) (gl aB x151.2.2) (I127 x151))))∧∀ y157:Int×Int×(List (ByteArray)),I127 y157→(Br (decide (y157.2.1 < y157.1)) (Br (decide ((0:Int)≤a.2.1)&&decide (a.2.1 < (List.length y157.2.2:Int))) ((y157.2.2.length=y157.2.2.length)∧(Br (decide ((0:Int)≤y157.2.1)&&decide (y157.2.1 < (List.length y157.2.2:Int))) ((y157.2.2.length=y157.2.2.length)∧(Br (decide ((0:Int)≤y157.2.1)&&decide (y157.2.1 < (List.length y157.2.2:Int))) ((y157.2.2.length=y157.2.2.length)∧(Br (decide ((0:Int)≤a.2.1)&&decide (a.2.1 < (List.length y157.2.2:Int))) ((y157.2.2.length=y157.2.2.length)∧((y157.2.1=(((aS slt) a).1))∧(false=(((aS slt) a).2.1))∧SlQ y157.2.2.length (List.length (((aS slt) a).2.2)) (gset (gset (gl aB y157.2.2) (Int.toNat y157.2.1) [.str (at_ y157.2.2 a.2.1)]) (Int.toNat a.2.1) [.str (at_ y157.2.2 y157.2.1)]) (gl aB (((aS slt) a).2.2)) (True))) False)) False)) False)) False) (Br (decide ((0:Int)≤y157.2.1)&&decide (y157.2.1 < (List.length y157.2.2:Int))) ((y157.2.2.length=y157.2.2.length)∧(Br (decide ((0:Int)≤y157.1)&&decide (y157.1 < (List.length y157.2.2:Int))) ((y157.2.2.length=y157.2.2.length)∧(Br (decide ((0:Int)≤y157.1)&&decide (y157.1 < (List.length y157.2.2:Int))) ((y157.2.2.length=y157.2.2.length)∧(Br (decide ((0:Int)≤y157.2.1)&&decide (y157.2.1 < (List.length y157.2.2:Int))) ((y157.2.2.length=y157.2.2.length)∧(Let (wI (y157.1+(1:Int))) (fun v175:Int=>Let (wI (y157.2.1 - (1:Int))) (fun v176:Int=>∃ x177:Int×Int×(List (ByteArray)),(y157.2.2.length=x177.2.2.length)∧(a.2.1=a.2.1)∧(v175=x177.1)∧(v176=x177.2.1)∧SlQ y157.2.2.length x177.2.2.length (gset (gset (gl aB y157.2.2) (Int.toNat y157.1) [.str (at_ y157.2.2 y157.2.1)]) (Int.toNat y157.2.1) [.str (at_ y157.2.2 y157.1)]) (gl aB x177.2.2) (I91 x177∧μ92 x177 < μ92 y93))))) False)) False)) False)) False)))))))) False)) False)) False)) False))))))) False)) False)) False)) False
def f219.vc (a:(List (ByteArray))×Int×Int×Int):Prop:=((0:Int)≤a.2.2.2∧a.2.2.2 < (List.length a.1:Int)∧((0:Int)≤a.2.1∧a.2.1 < (List.length a.1:Int)∧((0:Int)≤a.2.1∧a.2.1 < (List.length a.1:Int)∧((0:Int)≤a.2.2.2∧a.2.2.2 < (List.length a.1:Int)∧(-9223372036854775808≤(a.2.1+(1:Int))∧(a.2.1+(1:Int))≤9223372036854775807∧(-9223372036854775808≤(a.2.2.1 - (1:Int))∧(a.2.2.1 - (1:Int))≤9223372036854775807∧(∃ I7:(Int×Int×(List (ByteArray)))→Prop,((∃ (I9:(Int×Int×(List (ByteArray)))→Prop) (μ10:(Int×Int×(List (ByteArray)))→Nat),I9 ((a.2.1+(1:Int)),(a.2.2.1 - (1:Int)),List.set (List.set a.1 (Int.toNat a.2.1) (at_ a.1 a.2.2.2)) (Int.toNat a.2.2.2) (at_ a.1 a.2.1))∧∀ y11:Int×Int×(List (ByteArray)),I9 y11→((y11.1≤y11.2.1→((0:Int)≤y11.1∧y11.1 < (List.length y11.2.2:Int)∧((0:Int)≤a.2.1∧a.2.1 < (List.length y11.2.2:Int)∧(((b6 (at_ y11.2.2 y11.1,at_ y11.2.2 a.2.1))=true→(-9223372036854775808≤(y11.1+(1:Int))∧(y11.1+(1:Int))≤9223372036854775807∧(I9 ((y11.1+(1:Int)),y11.2.1,y11.2.2)∧μ10 ((y11.1+(1:Int)),y11.2.1,y11.2.2) < μ10 y11)))∧(¬((b6 (at_ y11.2.2 y11.1,at_ y11.2.2 a.2.1))=true)→(I7 (y11.1,y11.2.1,y11.2.2)))))))∧(¬(y11.1≤y11.2.1)→(I7 (y11.1,y11.2.1,y11.2.2))))))∧∀ y37:Int×Int×(List (ByteArray)),I7 y37→(∃ I40:(Int×Int×(List (ByteArray)))→Prop,((∃ (I42:(Int×Int×(List (ByteArray)))→Prop) (μ43:(Int×Int×(List (ByteArray)))→Nat),I42 (y37.1,y37.2.1,y37.2.2)∧∀ y44:Int×Int×(List (ByteArray)),I42 y44→((y44.1≤y44.2.1→((0:Int)≤y44.2.1∧y44.2.1 < (List.length y44.2.2:Int)∧((0:Int)≤a.2.1∧a.2.1 < (List.length y44.2.2:Int)∧((¬((b6 (at_ y44.2.2 y44.2.1,at_ y44.2.2 a.2.1))=true)→(-9223372036854775808≤(y44.2.1 - (1:Int))∧(y44.2.1 - (1:Int))≤9223372036854775807∧(I42 (y44.1,(y44.2.1 - (1:Int)),y44.2.2)∧μ43 (y44.1,(y44.2.1 - (1:Int)),y44.2.2) < μ43 y44)))∧(¬(¬((b6 (at_ y44.2.2 y44.2.1,at_ y44.2.2 a.2.1))=true))→(I40 (y44.1,y44.2.1,y44.2.2)))))))∧(¬(y44.1≤y44.2.1)→(I40 (y44.1,y44.2.1,y44.2.2))))))∧∀ y70:Int×Int×(List (ByteArray)),I40 y70→((y70.2.1 < y70.1→((0:Int)≤a.2.1∧a.2.1 < (List.length y70.2.2:Int)∧((0:Int)≤y70.2.1∧y70.2.1 < (List.length y70.2.2:Int)∧((0:Int)≤y70.2.1∧y70.2.1 < (List.length y70.2.2:Int)∧((0:Int)≤a.2.1∧a.2.1 < (List.length y70.2.2:Int)∧((y70.2.1,true,List.set (List.set y70.2.2 (Int.toNat y70.2.1) (at_ y70.2.2 a.2.1)) (Int.toNat a.2.1) (at_ y70.2.2 y70.2.1))=(aS slt) a))))))∧(¬(y70.2.1 < y70.1)→((0:Int)≤y70.2.1∧y70.2.1 < (List.length y70.2.2:Int)∧((0:Int)≤y70.1∧y70.1 < (List.length y70.2.2:Int)∧((0:Int)≤y70.1∧y70.1 < (List.length y70.2.2:Int)∧((0:Int)≤y70.2.1∧y70.2.1 < (List.length y70.2.2:Int)∧(-9223372036854775808≤(y70.1+(1:Int))∧(y70.1+(1:Int))≤9223372036854775807∧(-9223372036854775808≤(y70.2.1 - (1:Int))∧(y70.2.1 - (1:Int))≤9223372036854775807∧(∃ (I91:(Int×Int×(List (ByteArray)))→Prop) (μ92:(Int×Int×(List (ByteArray)))→Nat),I91 ((y70.1+(1:Int)),(y70.2.1 - (1:Int)),List.set (List.set y70.2.2 (Int.toNat y70.1) (at_ y70.2.2 y70.2.1)) (Int.toNat y70.2.1) (at_ y70.2.2 y70.1))∧∀ y93:Int×Int×(List (ByteArray)),I91 y93→(∃ I94:(Int×Int×(List (ByteArray)))→Prop,((∃ (I96:(Int×Int×(List (ByteArray)))→Prop) (μ97:(Int×Int×(List (ByteArray)))→Nat),I96 (y93.1,y93.2.1,y93.2.2)∧∀ y98:Int×Int×(List (ByteArray)),I96 y98→((y98.1≤y98.2.1→((0:Int)≤y98.1∧y98.1 < (List.length y98.2.2:Int)∧((0:Int)≤a.2.1∧a.2.1 < (List.length y98.2.2:Int)∧(((b6 (at_ y98.2.2 y98.1,at_ y98.2.2 a.2.1))=true→(-9223372036854775808≤(y98.1+(1:Int))∧(y98.1+(1:Int))≤9223372036854775807∧(I96 ((y98.1+(1:Int)),y98.2.1,y98.2.2)∧μ97 ((y98.1+(1:Int)),y98.2.1,y98.2.2) < μ97 y98)))∧(¬((b6 (at_ y98.2.2 y98.1,at_ y98.2.2 a.2.1))=true)→(I94 (y98.1,y98.2.1,y98.2.2)))))))∧(¬(y98.1≤y98.2.1)→(I94 (y98.1,y98.2.1,y98.2.2))))))∧∀ y124:Int×Int×(List (ByteArray)),I94 y124→(∃ I127:(Int×Int×(List (ByteArray)))→Prop,((∃ (I129:(Int×Int×(List (ByteArray)))→Prop) (μ130:(Int×Int×(List (ByteArray)))→Nat),I129 (y124.1,y124.2.1,y124.2.2)∧∀ y131:Int×Int×(List (ByteArray)),I129 y131→((y131.1≤y131.2.1→((0:Int)≤y131.2.1∧y131.2.1 < (List.length y131.2.2:Int)∧((0:Int)≤a.2.1∧a.2.1 < (List.length y131.2.2:Int)∧((¬((b6 (at_ y131.2.2 y131.2.1,at_ y131.2.2 a.2.1))=true)→(-9223372036854775808≤(y131.2.1 - (1:Int))∧(y131.2.1 - (1:Int))≤9223372036854775807∧(I129 (y131.1,(y131.2.1 - (1:Int)),y131.2.2)∧μ130 (y131.1,(y131.2.1 - (1:Int)),y131.2.2) < μ130 y131)))∧(¬(¬((b6 (at_ y131.2.2 y131.2.1,at_ y131.2.2 a.2.1))=true))→(I127 (y131.1,y131.2.1,y131.2.2)))))))∧(¬(y131.1≤y131.2.1)→(I127 (y131.1,y131.2.1,y131.2.2))))))∧∀ y157:Int×Int×(List (ByteArray)),I127 y157→((y157.2.1 < y157.1→((0:Int)≤a.2.1∧a.2.1 < (List.length y157.2.2:Int)∧((0:Int)≤y157.2.1∧y157.2.1 < (List.length y157.2.2:Int)∧((0:Int)≤y157.2.1∧y157.2.1 < (List.length y157.2.2:Int)∧((0:Int)≤a.2.1∧a.2.1 < (List.length y157.2.2:Int)∧((y157.2.1,false,List.set (List.set y157.2.2 (Int.toNat y157.2.1) (at_ y157.2.2 a.2.1)) (Int.toNat a.2.1) (at_ y157.2.2 y157.2.1))=(aS slt) a))))))∧(¬(y157.2.1 < y157.1)→((0:Int)≤y157.2.1∧y157.2.1 < (List.length y157.2.2:Int)∧((0:Int)≤y157.1∧y157.1 < (List.length y157.2.2:Int)∧((0:Int)≤y157.1∧y157.1 < (List.length y157.2.2:Int)∧((0:Int)≤y157.2.1∧y157.2.1 < (List.length y157.2.2:Int)∧(-9223372036854775808≤(y157.1+(1:Int))∧(y157.1+(1:Int))≤9223372036854775807∧(-9223372036854775808≤(y157.2.1 - (1:Int))∧(y157.2.1 - (1:Int))≤9223372036854775807∧(I91 ((y157.1+(1:Int)),(y157.2.1 - (1:Int)),List.set (List.set y157.2.2 (Int.toNat y157.1) (at_ y157.2.2 y157.2.1)) (Int.toNat y157.2.1) (at_ y157.2.2 y157.1))∧μ92 ((y157.1+(1:Int)),(y157.2.1 - (1:Int)),List.set (List.set y157.2.2 (Int.toNat y157.1) (at_ y157.2.2 y157.2.1)) (Int.toNat y157.2.1) (at_ y157.2.2 y157.1)) < μ92 y93))))))))))))))))))))))))))))
theorem f219.of (a:(List (ByteArray))×Int×Int×Int) (h:f219.vc a):f219.tree a:=chk h.2.2 Cnd.ix ⟨h.1,h.2.1⟩ (fun h1 k215=>⟨rfl,chk k215.2.2 Cnd.ix ⟨k215.1,k215.2.1⟩ (fun h2 k214=>⟨rfl,chk k214.2.2 Cnd.ix ⟨k214.1,k214.2.1⟩ (fun h3 k213=>⟨rfl,chk k213.2.2 Cnd.ix ⟨k213.1,k213.2.1⟩ (fun h4 k212=>⟨rfl,wrapK.i64 k212 (fun h209 h210 k211=>wrapK.i64 k211 (fun h206 h207 k208=>Exists.elim k208 (fun I7 h39=>⟨I7,Exists.elim h39.1 (fun I9 h34_=>Exists.elim h34_ (fun μ10 h34=>⟨I9,μ10,⟨((a.2.1+(1:Int)),(a.2.2.1 - (1:Int)),List.set (List.set a.1 (Int.toNat a.2.1) (at_ a.1 a.2.2.2)) (Int.toNat a.2.2.2) (at_ a.1 a.2.1)),⟨(bB (gset (gset (gl aB a.1) (Int.toNat a.2.1) [.str (at_ a.1 a.2.2.2)]) (Int.toNat a.2.2.2) [.str (at_ a.1 a.2.1)]) (Rds.gset (enc:=aB) (Rds.gset (enc:=aB) (rS aB) (DEqs.refl _)) (DEqs.refl _))),⟨rfl,⟨rfl,⟨rfl,slQ (Rds.gset (enc:=aB) (Rds.gset (enc:=aB) (rS aB) (DEqs.refl _)) (DEqs.refl _)) (h34.1)⟩⟩⟩⟩⟩,fun y11 h36=>br (h34.2 y11 h36) Cnd.dec (fun h12 k32=>chk k32.2.2 Cnd.ix ⟨k32.1,k32.2.1⟩ (fun h14 k30=>⟨rfl,chk k30.2.2 Cnd.ix ⟨k30.1,k30.2.1⟩ (fun h15 k29=>⟨rfl,⟨(at_ y11.2.2 y11.1,at_ y11.2.2 a.2.1),⟨rfl,⟨rfl,⟨trivial,br k29 Cnd.b (fun h17 k26=>wrapK.i64 k26 (fun h22 h23 k24=>⟨((y11.1+(1:Int)),y11.2.1,y11.2.2),⟨(bB (gl aB y11.2.2) (rS aB)),⟨rfl,⟨rfl,⟨rfl,slQ (rS aB) (k24)⟩⟩⟩⟩⟩)) (fun h18 k27=>⟨(y11.1,y11.2.1,y11.2.2),⟨(bB (gl aB y11.2.2) (rS aB)),⟨rfl,⟨rfl,⟨rfl,slQ (rS aB) (k27)⟩⟩⟩⟩⟩)⟩⟩⟩⟩⟩)⟩)) (fun h13 k33=>⟨(y11.1,y11.2.1,y11.2.2),⟨(bB (gl aB y11.2.2) (rS aB)),⟨rfl,⟨rfl,⟨rfl,slQ (rS aB) (k33)⟩⟩⟩⟩⟩)⟩)),fun y37 h38=>Exists.elim (h39.2 y37 h38) (fun I40 h72=>⟨I40,Exists.elim h72.1 (fun I42 h67_=>Exists.elim h67_ (fun μ43 h67=>⟨I42,μ43,⟨(y37.1,y37.2.1,y37.2.2),⟨(bB (gl aB y37.2.2) (rS aB)),⟨rfl,⟨rfl,⟨rfl,slQ (rS aB) (h67.1)⟩⟩⟩⟩⟩,fun y44 h69=>br (h67.2 y44 h69) Cnd.dec (fun h45 k65=>chk k65.2.2 Cnd.ix ⟨k65.1,k65.2.1⟩ (fun h47 k63=>⟨rfl,chk k63.2.2 Cnd.ix ⟨k63.1,k63.2.1⟩ (fun h48 k62=>⟨rfl,⟨(at_ y44.2.2 y44.2.1,at_ y44.2.2 a.2.1),⟨rfl,⟨rfl,⟨trivial,br k62 (Cnd.not Cnd.b) (fun h50 k59=>wrapK.i64 k59 (fun h55 h56 k57=>⟨(y44.1,(y44.2.1 - (1:Int)),y44.2.2),⟨(bB (gl aB y44.2.2) (rS aB)),⟨rfl,⟨rfl,⟨rfl,slQ (rS aB) (k57)⟩⟩⟩⟩⟩)) (fun h51 k60=>⟨(y44.1,y44.2.1,y44.2.2),⟨(bB (gl aB y44.2.2) (rS aB)),⟨rfl,⟨rfl,⟨rfl,slQ (rS aB) (k60)⟩⟩⟩⟩⟩)⟩⟩⟩⟩⟩)⟩)) (fun h46 k66=>⟨(y44.1,y44.2.1,y44.2.2),⟨(bB (gl aB y44.2.2) (rS aB)),⟨rfl,⟨rfl,⟨rfl,slQ (rS aB) (k66)⟩⟩⟩⟩⟩)⟩)),fun y70 h71=>br (h72.2 y70 h71) Cnd.dec (fun h73 k204=>chk k204.2.2 Cnd.ix ⟨k204.1,k204.2.1⟩ (fun h75 k83=>⟨rfl,chk k83.2.2 Cnd.ix ⟨k83.1,k83.2.1⟩ (fun h76 k82=>⟨rfl,chk k82.2.2 Cnd.ix ⟨k82.1,k82.2.1⟩ (fun h77 k81=>⟨rfl,chk k81.2.2 Cnd.ix ⟨k81.1,k81.2.1⟩ (fun h78 k80=>⟨rfl,⟨(congrArg (fun x:Int×Bool×(List (ByteArray))=>x.1) k80 :),⟨(congrArg (fun x:Int×Bool×(List (ByteArray))=>x.2.1) k80 :),slQ (Rds.to (Rds.gset (enc:=aB) (Rds.gset (enc:=aB) (rS aB) (DEqs.refl _)) (DEqs.refl _)) (congrArg (fun x:Int×Bool×(List (ByteArray))=>x.2.2) k80 :)) (trivial)⟩⟩⟩)⟩)⟩)⟩)) (fun h74 k205=>chk k205.2.2 Cnd.ix ⟨k205.1,k205.2.1⟩ (fun h84 k203=>⟨rfl,chk k203.2.2 Cnd.ix ⟨k203.1,k203.2.1⟩ (fun h85 k202=>⟨rfl,chk k202.2.2 Cnd.ix ⟨k202.1,k202.2.1⟩ (fun h86 k201=>⟨rfl,chk k201.2.2 Cnd.ix ⟨k201.1,k201.2.1⟩ (fun h87 k200=>⟨rfl,wrapK.i64 k200 (fun h197 h198 k199=>wrapK.i64 k199 (fun h194 h195 k196=>Exists.elim k196 (fun I91 h191_=>Exists.elim h191_ (fun μ92 h191=>⟨I91,μ92,⟨((y70.1+(1:Int)),(y70.2.1 - (1:Int)),List.set (List.set y70.2.2 (Int.toNat y70.1) (at_ y70.2.2 y70.2.1)) (Int.toNat y70.2.1) (at_ y70.2.2 y70.1)),⟨(bB (gset (gset (gl aB y70.2.2) (Int.toNat y70.1) [.str (at_ y70.2.2 y70.2.1)]) (Int.toNat y70.2.1) [.str (at_ y70.2.2 y70.1)]) (Rds.gset (enc:=aB) (Rds.gset (enc:=aB) (rS aB) (DEqs.refl _)) (DEqs.refl _))),⟨rfl,⟨rfl,⟨rfl,slQ (Rds.gset (enc:=aB) (Rds.gset (enc:=aB) (rS aB) (DEqs.refl _)) (DEqs.refl _)) (h191.1)⟩⟩⟩⟩⟩,fun y93 h193=>Exists.elim (h191.2 y93 h193) (fun I94 h126=>⟨I94,Exists.elim h126.1 (fun I96 h121_=>Exists.elim h121_ (fun μ97 h121=>⟨I96,μ97,⟨(y93.1,y93.2.1,y93.2.2),⟨(bB (gl aB y93.2.2) (rS aB)),⟨rfl,⟨rfl,⟨rfl,slQ (rS aB) (h121.1)⟩⟩⟩⟩⟩,fun y98 h123=>br (h121.2 y98 h123) Cnd.dec (fun h99 k119=>chk k119.2.2 Cnd.ix ⟨k119.1,k119.2.1⟩ (fun h101 k117=>⟨rfl,chk k117.2.2 Cnd.ix ⟨k117.1,k117.2.1⟩ (fun h102 k116=>⟨rfl,⟨(at_ y98.2.2 y98.1,at_ y98.2.2 a.2.1),⟨rfl,⟨rfl,⟨trivial,br k116 Cnd.b (fun h104 k113=>wrapK.i64 k113 (fun h109 h110 k111=>⟨((y98.1+(1:Int)),y98.2.1,y98.2.2),⟨(bB (gl aB y98.2.2) (rS aB)),⟨rfl,⟨rfl,⟨rfl,slQ (rS aB) (k111)⟩⟩⟩⟩⟩)) (fun h105 k114=>⟨(y98.1,y98.2.1,y98.2.2),⟨(bB (gl aB y98.2.2) (rS aB)),⟨rfl,⟨rfl,⟨rfl,slQ (rS aB) (k114)⟩⟩⟩⟩⟩)⟩⟩⟩⟩⟩)⟩)) (fun h100 k120=>⟨(y98.1,y98.2.1,y98.2.2),⟨(bB (gl aB y98.2.2) (rS aB)),⟨rfl,⟨rfl,⟨rfl,slQ (rS aB) (k120)⟩⟩⟩⟩⟩)⟩)),fun y124 h125=>Exists.elim (h126.2 y124 h125) (fun I127 h159=>⟨I127,Exists.elim h159.1 (fun I129 h154_=>Exists.elim h154_ (fun μ130 h154=>⟨I129,μ130,⟨(y124.1,y124.2.1,y124.2.2),⟨(bB (gl aB y124.2.2) (rS aB)),⟨rfl,⟨rfl,⟨rfl,slQ (rS aB) (h154.1)⟩⟩⟩⟩⟩,fun y131 h156=>br (h154.2 y131 h156) Cnd.dec (fun h132 k152=>chk k152.2.2 Cnd.ix ⟨k152.1,k152.2.1⟩ (fun h134 k150=>⟨rfl,chk k150.2.2 Cnd.ix ⟨k150.1,k150.2.1⟩ (fun h135 k149=>⟨rfl,⟨(at_ y131.2.2 y131.2.1,at_ y131.2.2 a.2.1),⟨rfl,⟨rfl,⟨trivial,br k149 (Cnd.not Cnd.b) (fun h137 k146=>wrapK.i64 k146 (fun h142 h143 k144=>⟨(y131.1,(y131.2.1 - (1:Int)),y131.2.2),⟨(bB (gl aB y131.2.2) (rS aB)),⟨rfl,⟨rfl,⟨rfl,slQ (rS aB) (k144)⟩⟩⟩⟩⟩)) (fun h138 k147=>⟨(y131.1,y131.2.1,y131.2.2),⟨(bB (gl aB y131.2.2) (rS aB)),⟨rfl,⟨rfl,⟨rfl,slQ (rS aB) (k147)⟩⟩⟩⟩⟩)⟩⟩⟩⟩⟩)⟩)) (fun h133 k153=>⟨(y131.1,y131.2.1,y131.2.2),⟨(bB (gl aB y131.2.2) (rS aB)),⟨rfl,⟨rfl,⟨rfl,slQ (rS aB) (k153)⟩⟩⟩⟩⟩)⟩)),fun y157 h158=>br (h159.2 y157 h158) Cnd.dec (fun h160 k189=>chk k189.2.2 Cnd.ix ⟨k189.1,k189.2.1⟩ (fun h162 k170=>⟨rfl,chk k170.2.2 Cnd.ix ⟨k170.1,k170.2.1⟩ (fun h163 k169=>⟨rfl,chk k169.2.2 Cnd.ix ⟨k169.1,k169.2.1⟩ (fun h164 k168=>⟨rfl,chk k168.2.2 Cnd.ix ⟨k168.1,k168.2.1⟩ (fun h165 k167=>⟨rfl,⟨(congrArg (fun x:Int×Bool×(List (ByteArray))=>x.1) k167 :),⟨(congrArg (fun x:Int×Bool×(List (ByteArray))=>x.2.1) k167 :),slQ (Rds.to (Rds.gset (enc:=aB) (Rds.gset (enc:=aB) (rS aB) (DEqs.refl _)) (DEqs.refl _)) (congrArg (fun x:Int×Bool×(List (ByteArray))=>x.2.2) k167 :)) (trivial)⟩⟩⟩)⟩)⟩)⟩)) (fun h161 k190=>chk k190.2.2 Cnd.ix ⟨k190.1,k190.2.1⟩ (fun h171 k188=>⟨rfl,chk k188.2.2 Cnd.ix ⟨k188.1,k188.2.1⟩ (fun h172 k187=>⟨rfl,chk k187.2.2 Cnd.ix ⟨k187.1,k187.2.1⟩ (fun h173 k186=>⟨rfl,chk k186.2.2 Cnd.ix ⟨k186.1,k186.2.1⟩ (fun h174 k185=>⟨rfl,wrapK.i64 k185 (fun h182 h183 k184=>wrapK.i64 k184 (fun h179 h180 k181=>⟨((y157.1+(1:Int)),(y157.2.1 - (1:Int)),List.set (List.set y157.2.2 (Int.toNat y157.1) (at_ y157.2.2 y157.2.1)) (Int.toNat y157.2.1) (at_ y157.2.2 y157.1)),⟨(bB (gset (gset (gl aB y157.2.2) (Int.toNat y157.1) [.str (at_ y157.2.2 y157.2.1)]) (Int.toNat y157.2.1) [.str (at_ y157.2.2 y157.1)]) (Rds.gset (enc:=aB) (Rds.gset (enc:=aB) (rS aB) (DEqs.refl _)) (DEqs.refl _))),⟨rfl,⟨rfl,⟨rfl,slQ (Rds.gset (enc:=aB) (Rds.gset (enc:=aB) (rS aB) (DEqs.refl _)) (DEqs.refl _)) (k181)⟩⟩⟩⟩⟩))⟩)⟩)⟩)⟩))⟩)⟩)⟩))))⟩)⟩)⟩)⟩))⟩)⟩)))⟩)⟩)⟩)⟩)
theorem f219.eq (a:(List (ByteArray))×Int×Int×Int):(f219.af a).gives f219.env (f219.args a) (f219.blks a) (f219.res a) (f219.blks' a)=f219.tree a:=by kernel_rfl
def f228.S0 (a:(List (ByteArray))×Int×Int×Int) (x:Int×(List (ByteArray))):Tm:=⟨.msl 0 1 x.2.length::.dead::.int .i64 a.2.2.1::.int .i64 a.2.2.2::.dead::.dead::.dead::.dead::.int .i64 x.1::dd 67 [],[(0,false,[.dead,.arr false 1 x.2.length (gl aB x.2)])],[]⟩
def f228.kills (a:(List (ByteArray))×Int×Int×Int):List Hint:=[.tell (Int×(List (ByteArray))) (f228.S0 a)]
def f228.cuts (a:(List (ByteArray))×Int×Int×Int):List (Nat×Σ β:Type,β→Tm):=[(999999,⟨Unit,fun x=>⟨[],[],[]⟩⟩),
 (100004,⟨Int×Int×(List (ByteArray)),fun x=>⟨.msl 0 1 x.2.2.length::.dead::.int .i64 a.2.2.1::.int .i64 a.2.2.2::.dead::.dead::.dead::.dead::.int .i64 x.1::.int .i64 x.2.1::dd 66 [],[(0,false,[.dead,.arr false 1 x.2.2.length (gl aB x.2.2)])],[]⟩⟩)]
def f228.af (a:(List (ByteArray))×Int×Int×Int):AF:=AF.mk (.seq (.region [mR 10 0 1,
 mR 8 1 10])
 (.block 0 (.loopT (Int×(List (ByteArray))) (f228.S0 a) 1000002 1000078 (.block 1 (.seq (.region [mR 11 2 8,
 ⟨(some 12),1000003,(.bin .mul),[.c (.int .i64 (2)),.t 11],none⟩,
 ⟨(some 13),1000004,(.bin .add),[.t 12,.c (.int .i64 (1))],none⟩,
 mR 9 5 13])
 (.seq (.seq (.region [mR 14 6 9,
 mR 15 7 2,
 oR 16 8 (.bin .geq) [14,15]])
 (.cond (.t 16) (.exit 0) (.skip)))
 (.joinT (Int×Int×(List (ByteArray))) (fun x=>⟨.msl 0 1 x.2.2.length::.dead::.int .i64 a.2.2.1::.int .i64 a.2.2.2::.dead::.dead::.dead::.dead::.int .i64 x.1::.int .i64 x.2.1::dd 66 [],[(0,false,[.dead,.arr false 1 x.2.2.length (gl aB x.2.2)])],[]⟩) (.seq (.region [mR 17 9 9,
 ⟨(some 18),1000010,(.bin .add),[.t 17,.c (.int .i64 (1))],none⟩,
 mR 19 11 2,
 oR 20 12 (.bin .lss) [18,19],
 mR 21 13 20,
 oG 22 1000014 .move [0] 21 true,
 oG 23 1000015 .move [3] 21 true,
 oG 24 1000016 .move [9] 21 true,
 oG 25 1000017 (.bin .add) [23,24] 21 true,
 oG 26 1000018 (.indexAddr 1 none) [22,25] 21 true,
 oG 27 1000019 (.load false 1) [26] 21 true,
 oG 28 1000020 .move [0] 21 true,
 oG 29 1000021 .move [3] 21 true,
 oG 30 1000022 .move [9] 21 true,
 oG 31 1000023 (.bin .add) [29,30] 21 true,
 ⟨(some 32),1000024,(.bin .add),[.t 31,.c (.int .i64 (1))],(some (21,true))⟩,
 oG 33 1000025 (.indexAddr 1 none) [28,32] 21 true,
 oG 34 1000026 (.load false 1) [33] 21 true,
 oG 35 1000027 (.call false 217) [27,34] 21 true,
 ⟨(some 36),1000031,.pick,[.t 21,.t 35,.c (.bool false)],none⟩])
 (.cond (.t 36) (.region [mR 37 32 9,
 ⟨(some 38),1000033,(.bin .add),[.t 37,.c (.int .i64 (1))],none⟩,
 mR 9 34 38]) (.skip)))
 (.seq (.seq (.region [mR 39 35 0,
 mR 40 36 3,
 mR 41 37 8,
 oR 42 38 (.bin .add) [40,41],
 oR 43 39 (.indexAddr 1 none) [39,42],
 oR 44 40 (.load false 1) [43],
 mR 45 41 0,
 mR 46 42 3,
 mR 47 43 9,
 oR 48 44 (.bin .add) [46,47],
 oR 49 45 (.indexAddr 1 none) [45,48],
 oR 50 46 (.load false 1) [49],
 oR 51 47 (.call false 217) [44,50],
 oR 52 51 (.un .not) [51]])
 (.cond (.t 52) (.ret) (.skip)))
 (.seq (.region [mR 53 52 0,
 mR 54 53 3,
 mR 55 54 8,
 oR 56 55 (.bin .add) [54,55],
 mR 57 56 0,
 mR 58 57 3,
 mR 59 58 9,
 oR 60 59 (.bin .add) [58,59],
 mR 61 60 0,
 mR 62 61 3,
 mR 63 62 9,
 oR 64 63 (.bin .add) [62,63],
 oR 65 64 (.indexAddr 1 none) [61,64],
 oR 66 65 (.load false 1) [65],
 mR 67 66 0,
 mR 68 67 3,
 mR 69 68 8,
 oR 70 69 (.bin .add) [68,69],
 oR 71 70 (.indexAddr 1 none) [67,70],
 oR 72 71 (.load false 1) [71],
 oR 73 72 (.indexAddr 1 none) [53,56],
 ⟨none,1000073,(.store 1),[.t 73,.t 66],none⟩,
 oR 74 74 (.indexAddr 1 none) [57,60],
 ⟨none,1000075,(.store 1),[.t 74,.t 72],none⟩])
 (.region [mR 75 76 9,
 mR 8 77 75]))))))))))
 [] 1 72
def f228.env:Env:=[(217,f217.C)]
def f228.tree (a:(List (ByteArray))×Int×Int×Int):Prop:=∃ (I2:(Int×(List (ByteArray)))→Prop) (μ3:(Int×(List (ByteArray)))→Nat),(∃ x1:Int×(List (ByteArray)),(a.1.length=x1.2.length)∧(a.2.2.1=a.2.2.1)∧(a.2.2.2=a.2.2.2)∧(a.2.1=x1.1)∧SlQ a.1.length x1.2.length (gl aB a.1) (gl aB x1.2) (I2 x1))∧∀ y4:Int×(List (ByteArray)),I2 y4→(Let (wI ((2:Int) * y4.1)) (fun v5:Int=>Let (wI (v5+(1:Int))) (fun v6:Int=>Br (decide (a.2.2.1≤v6)) (SlQ y4.2.length (List.length ((d9 slt) a)) (gl aB y4.2) (gl aB ((d9 slt) a)) (True)) (∃ I10:(Int×Int×(List (ByteArray)))→Prop,(Let (wI (v6+(1:Int))) (fun v11:Int=>Br (decide (v11 < a.2.2.1)) (Let (wI (a.2.2.2+v6)) (fun v14:Int=>Br (decide ((0:Int)≤v14)&&decide (v14 < (List.length y4.2:Int))) ((y4.2.length=y4.2.length)∧(Let (wI (a.2.2.2+v6)) (fun v16:Int=>Let (wI (v16+(1:Int))) (fun v17:Int=>Br (decide ((0:Int)≤v17)&&decide (v17 < (List.length y4.2:Int))) ((y4.2.length=y4.2.length)∧(∃ c19:ByteArray×ByteArray,((at_ y4.2 v14)=c19.1)∧((at_ y4.2 v17)=c19.2)∧True∧Br (b6 c19) (Let (wI (v6+(1:Int))) (fun v22:Int=>∃ x23:Int×Int×(List (ByteArray)),(y4.2.length=x23.2.2.length)∧(a.2.2.1=a.2.2.1)∧(a.2.2.2=a.2.2.2)∧(y4.1=x23.1)∧(v22=x23.2.1)∧SlQ y4.2.length x23.2.2.length (gl aB y4.2) (gl aB x23.2.2) (I10 x23))) (∃ x27:Int×Int×(List (ByteArray)),(y4.2.length=x27.2.2.length)∧(a.2.2.1=a.2.2.1)∧(a.2.2.2=a.2.2.2)∧(y4.1=x27.1)∧(v6=x27.2.1)∧SlQ y4.2.length x27.2.2.length (gl aB y4.2) (gl aB x27.2.2) (I10 x27)))) False)))) False)) (∃ x42:Int×Int×(List (ByteArray)),(y4.2.length=x42.2.2.length)∧(a.2.2.1=a.2.2.1)∧(a.2.2.2=a.2.2.2)∧(y4.1=x42.1)∧(v6=x42.2.1)∧SlQ y4.2.length x42.2.2.length (gl aB y4.2) (gl aB x42.2.2) (I10 x42))))∧∀ y48:Int×Int×(List (ByteArray)),I10 y48→(Let (wI (a.2.2.2+y48.1)) (fun v51:Int=>Br (decide ((0:Int)≤v51)&&decide (v51 < (List.length y48.2.2:Int))) ((y48.2.2.length=y48.2.2.length)∧(Let (wI (a.2.2.2+y48.2.1)) (fun v53:Int=>Br (decide ((0:Int)≤v53)&&decide (v53 < (List.length y48.2.2:Int))) ((y48.2.2.length=y48.2.2.length)∧(∃ c55:ByteArray×ByteArray,((at_ y48.2.2 v51)=c55.1)∧((at_ y48.2.2 v53)=c55.2)∧True∧Br (!(b6 c55)) (SlQ y48.2.2.length (List.length ((d9 slt) a)) (gl aB y48.2.2) (gl aB ((d9 slt) a)) (True)) (Let (wI (a.2.2.2+y48.1)) (fun v59:Int=>Let (wI (a.2.2.2+y48.2.1)) (fun v60:Int=>Let (wI (a.2.2.2+y48.2.1)) (fun v61:Int=>Br (decide ((0:Int)≤v61)&&decide (v61 < (List.length y48.2.2:Int))) ((y48.2.2.length=y48.2.2.length)∧(Let (wI (a.2.2.2+y48.1)) (fun v63:Int=>Br (decide ((0:Int)≤v63)&&decide (v63 < (List.length y48.2.2:Int))) ((y48.2.2.length=y48.2.2.length)∧(Br (decide ((0:Int)≤v59)&&decide (v59 < (List.length y48.2.2:Int))) ((y48.2.2.length=y48.2.2.length)∧(Br (decide ((0:Int)≤v60)&&decide (v60 < (List.length y48.2.2:Int))) ((y48.2.2.length=y48.2.2.length)∧(∃ x67:Int×(List (ByteArray)),(y48.2.2.length=x67.2.length)∧(a.2.2.1=a.2.2.1)∧(a.2.2.2=a.2.2.2)∧(y48.2.1=x67.1)∧SlQ y48.2.2.length x67.2.length (gset (gset (gl aB y48.2.2) (Int.toNat v59) [.str (at_ y48.2.2 v61)]) (Int.toNat v60) [.str (at_ y48.2.2 v63)]) (gl aB x67.2) (I2 x67∧μ3 x67 < μ3 y4))) False)) False)) False))) False)))))) False))) False))))))
def f228.vc (a:(List (ByteArray))×Int×Int×Int):Prop:=(∃ (I2:(Int×(List (ByteArray)))→Prop) (μ3:(Int×(List (ByteArray)))→Nat),I2 (a.2.1,a.1)∧∀ y4:Int×(List (ByteArray)),I2 y4→(-9223372036854775808≤((2:Int) * y4.1)∧((2:Int) * y4.1)≤9223372036854775807∧(-9223372036854775808≤(((2:Int) * y4.1)+(1:Int))∧(((2:Int) * y4.1)+(1:Int))≤9223372036854775807∧((a.2.2.1≤(((2:Int) * y4.1)+(1:Int))→(y4.2=(d9 slt) a))∧(¬(a.2.2.1≤(((2:Int) * y4.1)+(1:Int)))→(∃ I10:(Int×Int×(List (ByteArray)))→Prop,((-9223372036854775808≤((((2:Int) * y4.1)+(1:Int))+(1:Int))∧((((2:Int) * y4.1)+(1:Int))+(1:Int))≤9223372036854775807∧((((((2:Int) * y4.1)+(1:Int))+(1:Int)) < a.2.2.1→(-9223372036854775808≤(a.2.2.2+(((2:Int) * y4.1)+(1:Int)))∧(a.2.2.2+(((2:Int) * y4.1)+(1:Int)))≤9223372036854775807∧((0:Int)≤(a.2.2.2+(((2:Int) * y4.1)+(1:Int)))∧(a.2.2.2+(((2:Int) * y4.1)+(1:Int))) < (List.length y4.2:Int)∧(-9223372036854775808≤(a.2.2.2+(((2:Int) * y4.1)+(1:Int)))∧(a.2.2.2+(((2:Int) * y4.1)+(1:Int)))≤9223372036854775807∧(-9223372036854775808≤((a.2.2.2+(((2:Int) * y4.1)+(1:Int)))+(1:Int))∧((a.2.2.2+(((2:Int) * y4.1)+(1:Int)))+(1:Int))≤9223372036854775807∧((0:Int)≤((a.2.2.2+(((2:Int) * y4.1)+(1:Int)))+(1:Int))∧((a.2.2.2+(((2:Int) * y4.1)+(1:Int)))+(1:Int)) < (List.length y4.2:Int)∧(((b6 (at_ y4.2 (a.2.2.2+(((2:Int) * y4.1)+(1:Int))),at_ y4.2 ((a.2.2.2+(((2:Int) * y4.1)+(1:Int)))+(1:Int))))=true→(-9223372036854775808≤((((2:Int) * y4.1)+(1:Int))+(1:Int))∧((((2:Int) * y4.1)+(1:Int))+(1:Int))≤9223372036854775807∧(I10 (y4.1,((((2:Int) * y4.1)+(1:Int))+(1:Int)),y4.2))))∧(¬((b6 (at_ y4.2 (a.2.2.2+(((2:Int) * y4.1)+(1:Int))),at_ y4.2 ((a.2.2.2+(((2:Int) * y4.1)+(1:Int)))+(1:Int))))=true)→(I10 (y4.1,(((2:Int) * y4.1)+(1:Int)),y4.2))))))))))∧(¬(((((2:Int) * y4.1)+(1:Int))+(1:Int)) < a.2.2.1)→(I10 (y4.1,(((2:Int) * y4.1)+(1:Int)),y4.2))))))∧∀ y48:Int×Int×(List (ByteArray)),I10 y48→(-9223372036854775808≤(a.2.2.2+y48.1)∧(a.2.2.2+y48.1)≤9223372036854775807∧((0:Int)≤(a.2.2.2+y48.1)∧(a.2.2.2+y48.1) < (List.length y48.2.2:Int)∧(-9223372036854775808≤(a.2.2.2+y48.2.1)∧(a.2.2.2+y48.2.1)≤9223372036854775807∧((0:Int)≤(a.2.2.2+y48.2.1)∧(a.2.2.2+y48.2.1) < (List.length y48.2.2:Int)∧((¬((b6 (at_ y48.2.2 (a.2.2.2+y48.1),at_ y48.2.2 (a.2.2.2+y48.2.1)))=true)→(y48.2.2=(d9 slt) a))∧(¬(¬((b6 (at_ y48.2.2 (a.2.2.2+y48.1),at_ y48.2.2 (a.2.2.2+y48.2.1)))=true))→(-9223372036854775808≤(a.2.2.2+y48.1)∧(a.2.2.2+y48.1)≤9223372036854775807∧(-9223372036854775808≤(a.2.2.2+y48.2.1)∧(a.2.2.2+y48.2.1)≤9223372036854775807∧(-9223372036854775808≤(a.2.2.2+y48.2.1)∧(a.2.2.2+y48.2.1)≤9223372036854775807∧((0:Int)≤(a.2.2.2+y48.2.1)∧(a.2.2.2+y48.2.1) < (List.length y48.2.2:Int)∧(-9223372036854775808≤(a.2.2.2+y48.1)∧(a.2.2.2+y48.1)≤9223372036854775807∧((0:Int)≤(a.2.2.2+y48.1)∧(a.2.2.2+y48.1) < (List.length y48.2.2:Int)∧((0:Int)≤(a.2.2.2+y48.1)∧(a.2.2.2+y48.1) < (List.length y48.2.2:Int)∧((0:Int)≤(a.2.2.2+y48.2.1)∧(a.2.2.2+y48.2.1) < (List.length y48.2.2:Int)∧(I2 (y48.2.1,List.set (List.set y48.2.2 (Int.toNat (a.2.2.2+y48.1)) (at_ y48.2.2 (a.2.2.2+y48.2.1))) (Int.toNat (a.2.2.2+y48.2.1)) (at_ y48.2.2 (a.2.2.2+y48.1)))∧μ3 (y48.2.1,List.set (List.set y48.2.2 (Int.toNat (a.2.2.2+y48.1)) (at_ y48.2.2 (a.2.2.2+y48.2.1))) (Int.toNat (a.2.2.2+y48.2.1)) (at_ y48.2.2 (a.2.2.2+y48.1))) < μ3 y4)))))))))))))))))))))
theorem f228.of (a:(List (ByteArray))×Int×Int×Int) (h:f228.vc a):f228.tree a:=Exists.elim h (fun I2 h104_=>Exists.elim h104_ (fun μ3 h104=>⟨I2,μ3,⟨(a.2.1,a.1),⟨(bB (gl aB a.1) (rS aB)),⟨rfl,⟨rfl,⟨rfl,slQ (rS aB) (h104.1)⟩⟩⟩⟩⟩,fun y4 h106=>wrapK.i64 (h104.2 y4 h106) (fun h101 h102 k103=>wrapK.i64 k103 (fun h98 h99 k100=>br k100 Cnd.dec (fun h7 k96=>slQ (Rds.to (rS aB) k96) (trivial)) (fun h8 k97=>Exists.elim k97 (fun I10 h50=>⟨I10,wrapK.i64 h50.1 (fun h45 h46 k47=>br k47 Cnd.dec (fun h12 k43=>wrapK.i64 k43 (fun h39 h40 k41=>chk k41.2.2 Cnd.ix ⟨k41.1,k41.2.1⟩ (fun h15 k38=>⟨rfl,wrapK.i64 k38 (fun h35 h36 k37=>wrapK.i64 k37 (fun h32 h33 k34=>chk k34.2.2 Cnd.ix ⟨k34.1,k34.2.1⟩ (fun h18 k31=>⟨rfl,⟨(at_ y4.2 (a.2.2.2+(((2:Int) * y4.1)+(1:Int))),at_ y4.2 ((a.2.2.2+(((2:Int) * y4.1)+(1:Int)))+(1:Int))),⟨rfl,⟨rfl,⟨trivial,br k31 Cnd.b (fun h20 k28=>wrapK.i64 k28 (fun h24 h25 k26=>⟨(y4.1,((((2:Int) * y4.1)+(1:Int))+(1:Int)),y4.2),⟨(bB (gl aB y4.2) (rS aB)),⟨rfl,⟨rfl,⟨rfl,⟨rfl,slQ (rS aB) (k26)⟩⟩⟩⟩⟩⟩)) (fun h21 k29=>⟨(y4.1,(((2:Int) * y4.1)+(1:Int)),y4.2),⟨(bB (gl aB y4.2) (rS aB)),⟨rfl,⟨rfl,⟨rfl,⟨rfl,slQ (rS aB) (k29)⟩⟩⟩⟩⟩⟩)⟩⟩⟩⟩⟩)))⟩))) (fun h13 k44=>⟨(y4.1,(((2:Int) * y4.1)+(1:Int)),y4.2),⟨(bB (gl aB y4.2) (rS aB)),⟨rfl,⟨rfl,⟨rfl,⟨rfl,slQ (rS aB) (k44)⟩⟩⟩⟩⟩⟩)),fun y48 h49=>wrapK.i64 (h50.2 y48 h49) (fun h93 h94 k95=>chk k95.2.2 Cnd.ix ⟨k95.1,k95.2.1⟩ (fun h52 k92=>⟨rfl,wrapK.i64 k92 (fun h89 h90 k91=>chk k91.2.2 Cnd.ix ⟨k91.1,k91.2.1⟩ (fun h54 k88=>⟨rfl,⟨(at_ y48.2.2 (a.2.2.2+y48.1),at_ y48.2.2 (a.2.2.2+y48.2.1)),⟨rfl,⟨rfl,⟨trivial,br k88 (Cnd.not Cnd.b) (fun h56 k85=>slQ (Rds.to (rS aB) k85) (trivial)) (fun h57 k86=>wrapK.i64 k86 (fun h82 h83 k84=>wrapK.i64 k84 (fun h79 h80 k81=>wrapK.i64 k81 (fun h76 h77 k78=>chk k78.2.2 Cnd.ix ⟨k78.1,k78.2.1⟩ (fun h62 k75=>⟨rfl,wrapK.i64 k75 (fun h72 h73 k74=>chk k74.2.2 Cnd.ix ⟨k74.1,k74.2.1⟩ (fun h64 k71=>⟨rfl,chk k71.2.2 Cnd.ix ⟨k71.1,k71.2.1⟩ (fun h65 k70=>⟨rfl,chk k70.2.2 Cnd.ix ⟨k70.1,k70.2.1⟩ (fun h66 k69=>⟨rfl,⟨(y48.2.1,List.set (List.set y48.2.2 (Int.toNat (a.2.2.2+y48.1)) (at_ y48.2.2 (a.2.2.2+y48.2.1))) (Int.toNat (a.2.2.2+y48.2.1)) (at_ y48.2.2 (a.2.2.2+y48.1))),⟨(bB (gset (gset (gl aB y48.2.2) (Int.toNat (a.2.2.2+y48.1)) [.str (at_ y48.2.2 (a.2.2.2+y48.2.1))]) (Int.toNat (a.2.2.2+y48.2.1)) [.str (at_ y48.2.2 (a.2.2.2+y48.1))]) (Rds.gset (enc:=aB) (Rds.gset (enc:=aB) (rS aB) (DEqs.refl _)) (DEqs.refl _))),⟨rfl,⟨rfl,⟨rfl,slQ (Rds.gset (enc:=aB) (Rds.gset (enc:=aB) (rS aB) (DEqs.refl _)) (DEqs.refl _)) (k69)⟩⟩⟩⟩⟩⟩)⟩)⟩))⟩)))))⟩⟩⟩⟩⟩))⟩))⟩))))⟩))
theorem f228.eq (a:(List (ByteArray))×Int×Int×Int):(f228.af a).gives f228.env (f228.args a) (f228.blks a) (f228.res a) (f228.blks' a)=f228.tree a:=by kernel_rfl
def f231.kills (a:(List (ByteArray))×Int×Int):List Hint:=[]
def f231.cuts (a:(List (ByteArray))×Int×Int):List (Nat×Σ β:Type,β→Tm):=[(999999,⟨Unit,fun x=>⟨[],[],[]⟩⟩)]
def f231.af (a:(List (ByteArray))×Int×Int):AF:=AF.mk (.seq (.region [⟨(some 6),1000000,.move,[.c (.int .i64 (0))],none⟩])
 (.seq (.region [mR 7 1 0,
 mR 8 2 1,
 ⟨(some 9),1000003,(.bin .sub),[.t 8,.c (.int .i64 (1))],none⟩,
 mR 10 4 1,
 mR 11 5 1,
 ⟨(some 12),1000006,(.bin .add),[.t 11,.c (.int .i64 (1))],none⟩,
 mR 13 7 2,
 oR 14 8 (.call true 232) [7,9,10,12,13],
 mR 6 12 14])
 (.ret)))
 [.tmp 6] 2 12
def f231.env:Env:=[(232,f232.C)]
def f231.tree (a:(List (ByteArray))×Int×Int):Prop:=Let (wI (a.2.1 - (1:Int))) (fun v1:Int=>Let (wI (a.2.1+(1:Int))) (fun v2:Int=>(a.1.length=a.1.length)∧∃ c3:(List (ByteArray))×Int×Int×Int×Int,(a.1.length=List.length c3.1)∧(v1=c3.2.1)∧(a.2.1=c3.2.2.1)∧(v2=c3.2.2.2.1)∧SlQ a.1.length c3.1.length (gl aB a.1) (gl aB c3.1) ((a.2.2=c3.2.2.2.2)∧(oP c3)∧((((fL slt) c3).1)=(((aO slt) a).1))∧SlQ (List.length (((fL slt) c3).2.1)) (List.length (((aO slt) a).2.1)) (gl aB (((fL slt) c3).2.1)) (gl aB (((aO slt) a).2.1)) (((((fL slt) c3).2.2)=(((aO slt) a).2.2))∧True))))
def f231.vc (a:(List (ByteArray))×Int×Int):Prop:=(-9223372036854775808≤(a.2.1 - (1:Int))∧(a.2.1 - (1:Int))≤9223372036854775807∧(-9223372036854775808≤(a.2.1+(1:Int))∧(a.2.1+(1:Int))≤9223372036854775807∧(oP (a.1,(a.2.1 - (1:Int)),a.2.1,(a.2.1+(1:Int)),a.2.2)∧((List.length (((fL slt) (a.1,(a.2.1 - (1:Int)),a.2.1,(a.2.1+(1:Int)),a.2.2)).2.1))=a.1.length∧((((fL slt) (a.1,(a.2.1 - (1:Int)),a.2.1,(a.2.1+(1:Int)),a.2.2)).1,((fL slt) (a.1,(a.2.1 - (1:Int)),a.2.1,(a.2.1+(1:Int)),a.2.2)).2.1,((fL slt) (a.1,(a.2.1 - (1:Int)),a.2.1,(a.2.1+(1:Int)),a.2.2)).2.2)=(aO slt) a)))))
theorem f231.of (a:(List (ByteArray))×Int×Int) (h:f231.vc a):f231.tree a:=wrapK.i64 h (fun h10 h11 k12=>wrapK.i64 k12 (fun h7 h8 k9=>⟨rfl,⟨(a.1,(a.2.1 - (1:Int)),a.2.1,(a.2.1+(1:Int)),a.2.2),⟨(bB (gl aB a.1) (rS aB)),⟨rfl,⟨rfl,⟨rfl,slQ (rS aB) (⟨rfl,⟨k9.1,jX k9.2 (fun (h4:(List.length (((fL slt) (a.1,(a.2.1 - (1:Int)),a.2.1,(a.2.1+(1:Int)),a.2.2)).2.1))=a.1.length) hk=>⟨(congrArg (fun x:Int×(List (ByteArray))×Int=>x.1) hk :),slQ (Rds.to (rS aB) (congrArg (fun x:Int×(List (ByteArray))×Int=>x.2.1) hk :)) (⟨(congrArg (fun x:Int×(List (ByteArray))×Int=>x.2.2) hk :),trivial⟩)⟩)⟩⟩)⟩⟩⟩⟩⟩⟩))
theorem f231.eq (a:(List (ByteArray))×Int×Int):(f231.af a).gives f231.env (f231.args a) (f231.blks a) (f231.res a) (f231.blks' a)=f231.tree a:=by kernel_rfl
def f247.args (a:(List (ByteArray))×Int×Int×Int):List D:=[.msl 0 1 a.1.length,.int .i64 a.2.1,.int .i64 a.2.2.1,.ptr 1 0]
def f247.blks (a:(List (ByteArray))×Int×Int×Int):List (List D):=[[.dead,.arr false 1 a.1.length (gl aB a.1)],[.int .i64 a.2.2.2]]
def f247.res (a:(List (ByteArray))×Int×Int×Int):List D:=[.int .i64 (((aJ slt) a).1),.int .i64 (((aJ slt) a).2.1)]
def f247.blks' (a:(List (ByteArray))×Int×Int×Int):List (List D):=[[.dead,.arr false 1 (List.length (((aJ slt) a).2.2.1)) (gl aB (((aJ slt) a).2.2.1))],[.int .i64 (((aJ slt) a).2.2.2)]]
def f247.C:aP:=FnC f247.args f247.blks (fun a=>iF a) f247.res f247.blks'
def f232.kills (a:(List (ByteArray))×Int×Int×Int×Int):List Hint:=[]
def f232.cuts (a:(List (ByteArray))×Int×Int×Int×Int):List (Nat×Σ β:Type,β→Tm):=[(999999,⟨Unit,fun x=>⟨[],[],[]⟩⟩)]
def f232.af (a:(List (ByteArray))×Int×Int×Int×Int):AF:=AF.mk (.seq (.region [⟨(some 10),1000000,.move,[.c (.int .i64 (0))],none⟩])
 (.seq (.region [mR 12 1 0,
 mR 13 2 1,
 mR 14 3 2,
 mR 15 4 4,
 oR 16 5 (.call true 247) [12,13,14,15],
 mR 11 9 16,
 oR 17 10 (.extract 0) [11],
 oR 18 11 (.extract 1) [11],
 mR 1 12 17,
 mR 2 13 18])
 (.seq (.region [mR 20 14 0,
 mR 21 15 2,
 mR 22 16 3,
 mR 23 17 4,
 oR 24 18 (.call true 247) [20,21,22,23],
 mR 19 22 24,
 oR 25 23 (.extract 0) [19],
 oR 26 24 (.extract 1) [19],
 mR 2 25 25,
 mR 3 26 26])
 (.seq (.region [mR 28 27 0,
 mR 29 28 1,
 mR 30 29 2,
 mR 31 30 4,
 oR 32 31 (.call true 247) [28,29,30,31],
 mR 27 35 32,
 oR 33 36 (.extract 0) [27],
 oR 34 37 (.extract 1) [27],
 mR 1 38 33,
 mR 2 39 34])
 (.seq (.region [mR 35 40 2,
 mR 10 41 35])
 (.ret))))))
 [.tmp 10] 2 31
def f232.env:Env:=[(247,f247.C)]
def f232.tree (a:(List (ByteArray))×Int×Int×Int×Int):Prop:=(a.1.length=a.1.length)∧∃ c1:(List (ByteArray))×Int×Int×Int,(a.1.length=List.length c1.1)∧(a.2.1=c1.2.1)∧(a.2.2.1=c1.2.2.1)∧SlQ a.1.length c1.1.length (gl aB a.1) (gl aB c1.1) ((a.2.2.2.2=c1.2.2.2)∧(iF c1)∧(a.1.length=(List.length (((aJ slt) c1).2.2.1)))∧∃ c3:(List (ByteArray))×Int×Int×Int,(a.1.length=List.length c3.1)∧((((aJ slt) c1).2.1)=c3.2.1)∧(a.2.2.2.1=c3.2.2.1)∧SlQ (List.length (((aJ slt) c1).2.2.1)) c3.1.length (gl aB (((aJ slt) c1).2.2.1)) (gl aB c3.1) (((((aJ slt) c1).2.2.2)=c3.2.2.2)∧(iF c3)∧(a.1.length=(List.length (((aJ slt) c3).2.2.1)))∧∃ c5:(List (ByteArray))×Int×Int×Int,(a.1.length=List.length c5.1)∧((((aJ slt) c1).1)=c5.2.1)∧((((aJ slt) c3).1)=c5.2.2.1)∧SlQ (List.length (((aJ slt) c3).2.2.1)) c5.1.length (gl aB (((aJ slt) c3).2.2.1)) (gl aB c5.1) (((((aJ slt) c3).2.2.2)=c5.2.2.2)∧(iF c5)∧((((aJ slt) c5).2.1)=(((fL slt) a).1))∧SlQ (List.length (((aJ slt) c5).2.2.1)) (List.length (((fL slt) a).2.1)) (gl aB (((aJ slt) c5).2.2.1)) (gl aB (((fL slt) a).2.1)) (((((aJ slt) c5).2.2.2)=(((fL slt) a).2.2))∧True))))
def f232.vc (a:(List (ByteArray))×Int×Int×Int×Int):Prop:=(iF (a.1,a.2.1,a.2.2.1,a.2.2.2.2)∧((List.length (((aJ slt) (a.1,a.2.1,a.2.2.1,a.2.2.2.2)).2.2.1))=a.1.length∧(iF (((aJ slt) (a.1,a.2.1,a.2.2.1,a.2.2.2.2)).2.2.1,((aJ slt) (a.1,a.2.1,a.2.2.1,a.2.2.2.2)).2.1,a.2.2.2.1,((aJ slt) (a.1,a.2.1,a.2.2.1,a.2.2.2.2)).2.2.2)∧((List.length (((aJ slt) (((aJ slt) (a.1,a.2.1,a.2.2.1,a.2.2.2.2)).2.2.1,((aJ slt) (a.1,a.2.1,a.2.2.1,a.2.2.2.2)).2.1,a.2.2.2.1,((aJ slt) (a.1,a.2.1,a.2.2.1,a.2.2.2.2)).2.2.2)).2.2.1))=a.1.length∧(iF (((aJ slt) (((aJ slt) (a.1,a.2.1,a.2.2.1,a.2.2.2.2)).2.2.1,((aJ slt) (a.1,a.2.1,a.2.2.1,a.2.2.2.2)).2.1,a.2.2.2.1,((aJ slt) (a.1,a.2.1,a.2.2.1,a.2.2.2.2)).2.2.2)).2.2.1,((aJ slt) (a.1,a.2.1,a.2.2.1,a.2.2.2.2)).1,((aJ slt) (((aJ slt) (a.1,a.2.1,a.2.2.1,a.2.2.2.2)).2.2.1,((aJ slt) (a.1,a.2.1,a.2.2.1,a.2.2.2.2)).2.1,a.2.2.2.1,((aJ slt) (a.1,a.2.1,a.2.2.1,a.2.2.2.2)).2.2.2)).1,((aJ slt) (((aJ slt) (a.1,a.2.1,a.2.2.1,a.2.2.2.2)).2.2.1,((aJ slt) (a.1,a.2.1,a.2.2.1,a.2.2.2.2)).2.1,a.2.2.2.1,((aJ slt) (a.1,a.2.1,a.2.2.1,a.2.2.2.2)).2.2.2)).2.2.2)∧((List.length (((aJ slt) (((aJ slt) (((aJ slt) (a.1,a.2.1,a.2.2.1,a.2.2.2.2)).2.2.1,((aJ slt) (a.1,a.2.1,a.2.2.1,a.2.2.2.2)).2.1,a.2.2.2.1,((aJ slt) (a.1,a.2.1,a.2.2.1,a.2.2.2.2)).2.2.2)).2.2.1,((aJ slt) (a.1,a.2.1,a.2.2.1,a.2.2.2.2)).1,((aJ slt) (((aJ slt) (a.1,a.2.1,a.2.2.1,a.2.2.2.2)).2.2.1,((aJ slt) (a.1,a.2.1,a.2.2.1,a.2.2.2.2)).2.1,a.2.2.2.1,((aJ slt) (a.1,a.2.1,a.2.2.1,a.2.2.2.2)).2.2.2)).1,((aJ slt) (((aJ slt) (a.1,a.2.1,a.2.2.1,a.2.2.2.2)).2.2.1,((aJ slt) (a.1,a.2.1,a.2.2.1,a.2.2.2.2)).2.1,a.2.2.2.1,((aJ slt) (a.1,a.2.1,a.2.2.1,a.2.2.2.2)).2.2.2)).2.2.2)).2.2.1))=a.1.length∧((((aJ slt) (((aJ slt) (((aJ slt) (a.1,a.2.1,a.2.2.1,a.2.2.2.2)).2.2.1,((aJ slt) (a.1,a.2.1,a.2.2.1,a.2.2.2.2)).2.1,a.2.2.2.1,((aJ slt) (a.1,a.2.1,a.2.2.1,a.2.2.2.2)).2.2.2)).2.2.1,((aJ slt) (a.1,a.2.1,a.2.2.1,a.2.2.2.2)).1,((aJ slt) (((aJ slt) (a.1,a.2.1,a.2.2.1,a.2.2.2.2)).2.2.1,((aJ slt) (a.1,a.2.1,a.2.2.1,a.2.2.2.2)).2.1,a.2.2.2.1,((aJ slt) (a.1,a.2.1,a.2.2.1,a.2.2.2.2)).2.2.2)).1,((aJ slt) (((aJ slt) (a.1,a.2.1,a.2.2.1,a.2.2.2.2)).2.2.1,((aJ slt) (a.1,a.2.1,a.2.2.1,a.2.2.2.2)).2.1,a.2.2.2.1,((aJ slt) (a.1,a.2.1,a.2.2.1,a.2.2.2.2)).2.2.2)).2.2.2)).2.1,((aJ slt) (((aJ slt) (((aJ slt) (a.1,a.2.1,a.2.2.1,a.2.2.2.2)).2.2.1,((aJ slt) (a.1,a.2.1,a.2.2.1,a.2.2.2.2)).2.1,a.2.2.2.1,((aJ slt) (a.1,a.2.1,a.2.2.1,a.2.2.2.2)).2.2.2)).2.2.1,((aJ slt) (a.1,a.2.1,a.2.2.1,a.2.2.2.2)).1,((aJ slt) (((aJ slt) (a.1,a.2.1,a.2.2.1,a.2.2.2.2)).2.2.1,((aJ slt) (a.1,a.2.1,a.2.2.1,a.2.2.2.2)).2.1,a.2.2.2.1,((aJ slt) (a.1,a.2.1,a.2.2.1,a.2.2.2.2)).2.2.2)).1,((aJ slt) (((aJ slt) (a.1,a.2.1,a.2.2.1,a.2.2.2.2)).2.2.1,((aJ slt) (a.1,a.2.1,a.2.2.1,a.2.2.2.2)).2.1,a.2.2.2.1,((aJ slt) (a.1,a.2.1,a.2.2.1,a.2.2.2.2)).2.2.2)).2.2.2)).2.2.1,((aJ slt) (((aJ slt) (((aJ slt) (a.1,a.2.1,a.2.2.1,a.2.2.2.2)).2.2.1,((aJ slt) (a.1,a.2.1,a.2.2.1,a.2.2.2.2)).2.1,a.2.2.2.1,((aJ slt) (a.1,a.2.1,a.2.2.1,a.2.2.2.2)).2.2.2)).2.2.1,((aJ slt) (a.1,a.2.1,a.2.2.1,a.2.2.2.2)).1,((aJ slt) (((aJ slt) (a.1,a.2.1,a.2.2.1,a.2.2.2.2)).2.2.1,((aJ slt) (a.1,a.2.1,a.2.2.1,a.2.2.2.2)).2.1,a.2.2.2.1,((aJ slt) (a.1,a.2.1,a.2.2.1,a.2.2.2.2)).2.2.2)).1,((aJ slt) (((aJ slt) (a.1,a.2.1,a.2.2.1,a.2.2.2.2)).2.2.1,((aJ slt) (a.1,a.2.1,a.2.2.1,a.2.2.2.2)).2.1,a.2.2.2.1,((aJ slt) (a.1,a.2.1,a.2.2.1,a.2.2.2.2)).2.2.2)).2.2.2)).2.2.2)=(fL slt) a)))))))
theorem f232.of (a:(List (ByteArray))×Int×Int×Int×Int) (h:f232.vc a):f232.tree a:=⟨rfl,⟨(a.1,a.2.1,a.2.2.1,a.2.2.2.2),⟨(bB (gl aB a.1) (rS aB)),⟨rfl,⟨rfl,slQ (rS aB) (⟨rfl,⟨h.1,jX h.2 (fun (h2:(List.length (((aJ slt) (a.1,a.2.1,a.2.2.1,a.2.2.2.2)).2.2.1))=a.1.length) hk=>⟨(h2).symm,⟨(((aJ slt) (a.1,a.2.1,a.2.2.1,a.2.2.2.2)).2.2.1,((aJ slt) (a.1,a.2.1,a.2.2.1,a.2.2.2.2)).2.1,a.2.2.2.1,((aJ slt) (a.1,a.2.1,a.2.2.1,a.2.2.2.2)).2.2.2),⟨((h2).symm.trans (bB (gl aB (((aJ slt) (a.1,a.2.1,a.2.2.1,a.2.2.2.2)).2.2.1)) (rS aB))),⟨rfl,⟨rfl,slQ (rS aB) (⟨rfl,⟨hk.1,jX hk.2 (fun (h4:(List.length (((aJ slt) (((aJ slt) (a.1,a.2.1,a.2.2.1,a.2.2.2.2)).2.2.1,((aJ slt) (a.1,a.2.1,a.2.2.1,a.2.2.2.2)).2.1,a.2.2.2.1,((aJ slt) (a.1,a.2.1,a.2.2.1,a.2.2.2.2)).2.2.2)).2.2.1))=a.1.length) hk=>⟨(h4).symm,⟨(((aJ slt) (((aJ slt) (a.1,a.2.1,a.2.2.1,a.2.2.2.2)).2.2.1,((aJ slt) (a.1,a.2.1,a.2.2.1,a.2.2.2.2)).2.1,a.2.2.2.1,((aJ slt) (a.1,a.2.1,a.2.2.1,a.2.2.2.2)).2.2.2)).2.2.1,((aJ slt) (a.1,a.2.1,a.2.2.1,a.2.2.2.2)).1,((aJ slt) (((aJ slt) (a.1,a.2.1,a.2.2.1,a.2.2.2.2)).2.2.1,((aJ slt) (a.1,a.2.1,a.2.2.1,a.2.2.2.2)).2.1,a.2.2.2.1,((aJ slt) (a.1,a.2.1,a.2.2.1,a.2.2.2.2)).2.2.2)).1,((aJ slt) (((aJ slt) (a.1,a.2.1,a.2.2.1,a.2.2.2.2)).2.2.1,((aJ slt) (a.1,a.2.1,a.2.2.1,a.2.2.2.2)).2.1,a.2.2.2.1,((aJ slt) (a.1,a.2.1,a.2.2.1,a.2.2.2.2)).2.2.2)).2.2.2),⟨((h4).symm.trans (bB (gl aB (((aJ slt) (((aJ slt) (a.1,a.2.1,a.2.2.1,a.2.2.2.2)).2.2.1,((aJ slt) (a.1,a.2.1,a.2.2.1,a.2.2.2.2)).2.1,a.2.2.2.1,((aJ slt) (a.1,a.2.1,a.2.2.1,a.2.2.2.2)).2.2.2)).2.2.1)) (rS aB))),⟨rfl,⟨rfl,slQ (rS aB) (⟨rfl,⟨hk.1,jX hk.2 (fun (h6:(List.length (((aJ slt) (((aJ slt) (((aJ slt) (a.1,a.2.1,a.2.2.1,a.2.2.2.2)).2.2.1,((aJ slt) (a.1,a.2.1,a.2.2.1,a.2.2.2.2)).2.1,a.2.2.2.1,((aJ slt) (a.1,a.2.1,a.2.2.1,a.2.2.2.2)).2.2.2)).2.2.1,((aJ slt) (a.1,a.2.1,a.2.2.1,a.2.2.2.2)).1,((aJ slt) (((aJ slt) (a.1,a.2.1,a.2.2.1,a.2.2.2.2)).2.2.1,((aJ slt) (a.1,a.2.1,a.2.2.1,a.2.2.2.2)).2.1,a.2.2.2.1,((aJ slt) (a.1,a.2.1,a.2.2.1,a.2.2.2.2)).2.2.2)).1,((aJ slt) (((aJ slt) (a.1,a.2.1,a.2.2.1,a.2.2.2.2)).2.2.1,((aJ slt) (a.1,a.2.1,a.2.2.1,a.2.2.2.2)).2.1,a.2.2.2.1,((aJ slt) (a.1,a.2.1,a.2.2.1,a.2.2.2.2)).2.2.2)).2.2.2)).2.2.1))=a.1.length) hk=>⟨(congrArg (fun x:Int×(List (ByteArray))×Int=>x.1) hk :),slQ (Rds.to (rS aB) (congrArg (fun x:Int×(List (ByteArray))×Int=>x.2.1) hk :)) (⟨(congrArg (fun x:Int×(List (ByteArray))×Int=>x.2.2) hk :),trivial⟩)⟩)⟩⟩)⟩⟩⟩⟩⟩)⟩⟩)⟩⟩⟩⟩⟩)⟩⟩)⟩⟩⟩⟩⟩
theorem f232.eq (a:(List (ByteArray))×Int×Int×Int×Int):(f232.af a).gives f232.env (f232.args a) (f232.blks a) (f232.res a) (f232.blks' a)=f232.tree a:=by kernel_rfl
def f247.kills (a:(List (ByteArray))×Int×Int×Int):List Hint:=[]
def f247.cuts (a:(List (ByteArray))×Int×Int×Int):List (Nat×Σ β:Type,β→Tm):=[(999999,⟨Unit,fun x=>⟨[],[],[]⟩⟩)]
def f247.af (a:(List (ByteArray))×Int×Int×Int):AF:=AF.mk (.seq (.region [⟨(some 8),1000000,.move,[.c (.int .i64 (0))],none⟩,
 ⟨(some 9),1000001,.move,[.c (.int .i64 (0))],none⟩])
 (.seq (.seq (.region [mR 10 2 0,
 mR 11 3 2,
 oR 12 4 (.indexAddr 1 none) [10,11],
 oR 13 5 (.load false 1) [12],
 mR 14 6 0,
 mR 15 7 1,
 oR 16 8 (.indexAddr 1 none) [14,15],
 oR 17 9 (.load false 1) [16],
 oR 18 10 (.call false 217) [13,17]])
 (.cond (.t 18) (.seq (.region [mR 19 14 3,
 oR 20 15 .nilCheck [19],
 oR 21 16 (.load false 1) [20],
 ⟨(some 22),1000017,(.bin .add),[.t 21,.c (.int .i64 (1))],none⟩,
 oR 23 18 .nilCheck [19],
 ⟨none,1000019,(.store 1),[.t 23,.t 22],none⟩])
 (.seq (.region [mR 24 20 2,
 mR 25 21 1,
 mR 8 22 24,
 mR 9 23 25])
 (.ret))) (.skip)))
 (.seq (.region [mR 26 24 1,
 mR 27 25 2,
 mR 8 26 26,
 mR 9 27 27])
 (.ret))))
 [.tmp 8,.tmp 9] 2 24
def f247.env:Env:=[(217,f217.C)]
def f247.tree (a:(List (ByteArray))×Int×Int×Int):Prop:=Br (decide ((0:Int)≤a.2.2.1)&&decide (a.2.2.1 < (List.length a.1:Int))) ((a.1.length=a.1.length)∧(Br (decide ((0:Int)≤a.2.1)&&decide (a.2.1 < (List.length a.1:Int))) ((a.1.length=a.1.length)∧(∃ c3:ByteArray×ByteArray,((at_ a.1 a.2.2.1)=c3.1)∧((at_ a.1 a.2.1)=c3.2)∧True∧Br (b6 c3) (Let (wI (a.2.2.2+(1:Int))) (fun v6:Int=>(a.2.2.1=(((aJ slt) a).1))∧(a.2.1=(((aJ slt) a).2.1))∧SlQ a.1.length (List.length (((aJ slt) a).2.2.1)) (gl aB a.1) (gl aB (((aJ slt) a).2.2.1)) ((v6=(((aJ slt) a).2.2.2))∧True))) ((a.2.1=(((aJ slt) a).1))∧(a.2.2.1=(((aJ slt) a).2.1))∧SlQ a.1.length (List.length (((aJ slt) a).2.2.1)) (gl aB a.1) (gl aB (((aJ slt) a).2.2.1)) ((a.2.2.2=(((aJ slt) a).2.2.2))∧True)))) False)) False
def f247.vc (a:(List (ByteArray))×Int×Int×Int):Prop:=((0:Int)≤a.2.2.1∧a.2.2.1 < (List.length a.1:Int)∧((0:Int)≤a.2.1∧a.2.1 < (List.length a.1:Int)∧(((b6 (at_ a.1 a.2.2.1,at_ a.1 a.2.1))=true→(-9223372036854775808≤(a.2.2.2+(1:Int))∧(a.2.2.2+(1:Int))≤9223372036854775807∧((a.2.2.1,a.2.1,a.1,(a.2.2.2+(1:Int)))=(aJ slt) a)))∧(¬((b6 (at_ a.1 a.2.2.1,at_ a.1 a.2.1))=true)→((a.2.1,a.2.2.1,a.1,a.2.2.2)=(aJ slt) a)))))
theorem f247.of (a:(List (ByteArray))×Int×Int×Int) (h:f247.vc a):f247.tree a:=chk h.2.2 Cnd.ix ⟨h.1,h.2.1⟩ (fun h1 k16=>⟨rfl,chk k16.2.2 Cnd.ix ⟨k16.1,k16.2.1⟩ (fun h2 k15=>⟨rfl,⟨(at_ a.1 a.2.2.1,at_ a.1 a.2.1),⟨rfl,⟨rfl,⟨trivial,br k15 Cnd.b (fun h4 k12=>wrapK.i64 k12 (fun h8 h9 k10=>⟨(congrArg (fun x:Int×Int×(List (ByteArray))×Int=>x.1) k10 :),⟨(congrArg (fun x:Int×Int×(List (ByteArray))×Int=>x.2.1) k10 :),slQ (Rds.to (rS aB) (congrArg (fun x:Int×Int×(List (ByteArray))×Int=>x.2.2.1) k10 :)) (⟨(congrArg (fun x:Int×Int×(List (ByteArray))×Int=>x.2.2.2) k10 :),trivial⟩)⟩⟩)) (fun h5 k13=>⟨(congrArg (fun x:Int×Int×(List (ByteArray))×Int=>x.1) k13 :),⟨(congrArg (fun x:Int×Int×(List (ByteArray))×Int=>x.2.1) k13 :),slQ (Rds.to (rS aB) (congrArg (fun x:Int×Int×(List (ByteArray))×Int=>x.2.2.1) k13 :)) (⟨(congrArg (fun x:Int×Int×(List (ByteArray))×Int=>x.2.2.2) k13 :),trivial⟩)⟩⟩)⟩⟩⟩⟩⟩)⟩)
theorem f247.eq (a:(List (ByteArray))×Int×Int×Int):(f247.af a).gives f247.env (f247.args a) (f247.blks a) (f247.res a) (f247.blks' a)=f247.tree a:=by kernel_rfl
theorem stY {x y:ByteArray} (h:b6 (x,y)=true):slt x y=true:=h
theorem stN {x y:ByteArray} (h:¬b6 (x,y)=true):slt x y=false:=Bool.eq_false_iff.2 h
theorem d7 (l:List ByteArray) (i j:Int):slt l.toArray[i.toNat]! l.toArray[j.toNat]! = slt (at_ l i) (at_ l j):=by
 rw [aBS,aBS]
 rfl
theorem f211.ok (a:List ByteArray×Int×Int) (h:gN a):f211.vc a:=by
 obtain ⟨l,a,b⟩:=a
 obtain ⟨h1,h2,h3,h4⟩:=h
 simp only at h1 h2 h3 h4
 refine ⟨by simp only; omega,by simp only; omega,fun y=>a < y.1∧(y.1≤b∨y.1=a+1)∧y.2.length=l.length∧Sort.insOuter slt a.toNat b.toNat y.1.toNat y.2.toArray=Sort.insertionSort slt l.toArray a.toNat b.toNat,fun y=>(b+1 - y.1).toNat,⟨by simp only; omega,.inr rfl,rfl,?_⟩,fun y hy=>?_⟩
 ·simp only
  rw [show (a+1).toNat=a.toNat+1 from by omega]
  rfl
 ·obtain ⟨i,c⟩:=y
  obtain ⟨g1,g2,g3,g4⟩:=hy
  simp only at g1 g2 g3 g4 ⊢
  refine ⟨fun hib=>?_,fun hib=>?_⟩
  ·rw [aBU slt (by omega)] at g4
   refine ⟨fun z=>z.1=i∧a≤z.2.1∧z.2.1≤i∧z.2.2.length=l.length∧Sort.insOuter slt a.toNat b.toNat (i.toNat+1) (Sort.insInner slt a.toNat z.2.1.toNat z.2.2.toArray)=Sort.insertionSort slt l.toArray a.toNat b.toNat,fun z=>z.2.1.toNat,⟨rfl,by simp only; omega,by simp only; omega,g3,g4⟩,fun z hz=>?_⟩
   obtain ⟨i',j,d⟩:=z
   obtain ⟨e1,e2,e3,e4,e5⟩:=hz
   simp only at e1 e2 e3 e4 e5 ⊢
   subst e1
   have fin:Sort.insInner slt a.toNat j.toNat d.toArray=d.toArray→-9223372036854775808≤i'+(1:Int)∧i'+(1:Int)≤9223372036854775807∧(a < i'+1∧(i'+1≤b∨i'+1=a+1)∧d.length=l.length∧Sort.insOuter slt a.toNat b.toNat (i'+1).toNat d.toArray=Sort.insertionSort slt l.toArray a.toNat b.toNat)∧(b+1 - (i'+1)).toNat < (b+1 - i').toNat:=fun hh=>by
    rw [hh] at e5
    exact ⟨by omega,by omega,⟨by omega,by omega,e4,by rw [show (i'+1).toNat=i'.toNat+1 from by omega]; exact e5⟩,by omega⟩
   refine ⟨fun hj=>⟨by omega,by omega,by omega,by omega,by omega,by omega,fun hc=>⟨by omega,by omega,by omega,by omega,by omega,by omega,by omega,by omega,by omega,by omega,by omega,by omega,by omega,by omega,⟨rfl,by omega,by omega,by rw [List.length_set,List.length_set]; exact e4,?_⟩,by omega⟩,fun hc=>fin (tJ _ (.inr ?_))⟩,fun hj=>fin (tJ _ (.inl (by omega)))⟩
   ·have hl:slt d.toArray[j.toNat]! d.toArray[j.toNat - 1]! = true:=by
     rw [show j.toNat - 1=(j - 1).toNat from by omega,d7]
     exact stY hc
    rw [aBK slt (by omega) hl,eK,show j.toNat - 1=(j - 1).toNat from by omega] at e5
    exact e5
   ·rw [show j.toNat - 1=(j - 1).toNat from by omega,d7]
    exact stN hc
  ·rw [aCO slt (by omega)] at g4
   exact congrArg Array.toList g4
theorem f215.ok (a:List ByteArray×Int×Int) (h:gN a):f215.vc a:=by
 obtain ⟨l,a,b⟩:=a
 obtain ⟨h1,h2,h3,h4⟩:=h
 simp only at h1 h2 h3 h4
 refine ⟨by simp only; omega,by simp only; omega,fun y=>a≤y.1∧y.2.1 < b∧y.2.2.length=l.length∧Sort.reverseLoop y.1.toNat y.2.1.toNat y.2.2.toArray=Sort.reverseRange l.toArray a.toNat b.toNat,fun y=>(y.2.1 - y.1).toNat,⟨by simp only; omega,by simp only; omega,rfl,?_⟩,fun y hy=>?_⟩
 ·simp only
  rw [show (b - 1).toNat=b.toNat - 1 from by omega]
  rfl
 ·obtain ⟨i,j,c⟩:=y
  obtain ⟨g1,g2,g3,g4⟩:=hy
  simp only at g1 g2 g3 g4 ⊢
  refine ⟨fun hij=>⟨by omega,by omega,by omega,by omega,by omega,by omega,by omega,by omega,by omega,by omega,by omega,by omega,⟨by omega,by omega,by rw [List.length_set,List.length_set]; exact g3,?_⟩,by omega⟩,fun hij=>?_⟩
  ·rw [aC5 (by omega),eK,show i.toNat+1=(i+1).toNat from by omega,show j.toNat - 1=(j - 1).toNat from by omega] at g4
   exact g4
  ·rw [aE9 (by omega)] at g4
   exact congrArg Array.toList g4
theorem f228.ok (a:List ByteArray×Int×Int×Int) (h:kS a):f228.vc a:=by
 obtain ⟨l,lo,hi,first⟩:=a
 obtain ⟨h1,h2,h3,h4,h5,h6⟩:=h
 simp only at h1 h2 h3 h4 h5 h6
 refine ⟨fun y=>0≤y.1∧y.1≤1048576∧y.2.length=l.length∧Sort.siftDown slt hi.toNat first.toNat y.1.toNat y.2.toArray=Sort.siftDown slt hi.toNat first.toNat lo.toNat l.toArray,fun y=>(hi - y.1).toNat,⟨h1,h6,rfl,rfl⟩,fun y hy=>?_⟩
 obtain ⟨r,c⟩:=y
 obtain ⟨g1,g2,g3,g4⟩:=hy
 simp only at g1 g2 g3 g4 ⊢
 refine ⟨by omega,by omega,by omega,by omega,fun hc=>?_,fun hc=>?_⟩
 ·rw [xC slt (by omega)] at g4
  exact congrArg Array.toList g4
 ·refine ⟨fun z=>z.1=r∧z.2.2=c∧2 * r+1≤z.2.1∧z.2.1≤2 * r+2∧z.2.1 < hi∧z.2.1.toNat=iL slt hi.toNat first.toNat r.toNat c.toArray,
   ⟨by omega,by omega,fun h2c=>⟨by omega,by omega,by omega,by omega,by omega,by omega,by omega,by omega,by omega,by omega,fun hl=>⟨by omega,by omega,rfl,rfl,by simp only; omega,by simp only; omega,by simp only; omega,?_⟩,fun hl=>⟨rfl,rfl,by simp only; omega,by simp only; omega,by simp only; omega,?_⟩⟩,fun h2c=>⟨rfl,rfl,by simp only; omega,by simp only; omega,by simp only; omega,?_⟩⟩,fun z hz=>?_⟩
  ·have hl:=stY hl
   rw [← d7,show (first+(2 * r+1)).toNat=first.toNat+(2 * r.toNat+1) from by omega,show (first+(2 * r+1)+1).toNat=first.toNat+(2 * r.toNat+1)+1 from by omega] at hl
   unfold iL
   rw [hl,if_pos (by simp; omega)]
   simp only
   omega
  ·have hl:=stN hl
   rw [← d7,show (first+(2 * r+1)).toNat=first.toNat+(2 * r.toNat+1) from by omega,show (first+(2 * r+1)+1).toNat=first.toNat+(2 * r.toNat+1)+1 from by omega] at hl
   unfold iL
   rw [hl,if_neg (by simp)]
   simp only
   omega
  ·unfold iL
   rw [if_neg (by simp; omega)]
   simp only
   omega
  ·obtain ⟨r',ch,d⟩:=z
   obtain ⟨e1,e2,e3,e4,e5,e6⟩:=hz
   simp only at e1 e2 e3 e4 e5 e6 ⊢
   subst e1; subst e2
   have x1:(first+r').toNat=first.toNat+r'.toNat:=by omega
   have x2:(first+ch).toNat=first.toNat+ch.toNat:=by omega
   refine ⟨by omega,by omega,by omega,by omega,by omega,by omega,by omega,by omega,fun hl=>?_,fun hl=>⟨by omega,by omega,by omega,by omega,by omega,by omega,by omega,by omega,by omega,by omega,by omega,by omega,by omega,by omega,by omega,by omega,⟨by omega,by omega,by rw [List.length_set,List.length_set]; exact g3,?_⟩,by omega⟩⟩
   ·have hl:=stN hl
    rw [← d7,x1,x2,e6] at hl
    rw [aGP slt (by omega) hl] at g4
    exact congrArg Array.toList g4
   ·have hl:=stY (Classical.not_not.1 hl)
    rw [← d7,x1,x2,e6] at hl
    rw [aCF slt (by omega) hl,eK,← e6,← x1,← x2] at g4
    exact g4
theorem n5 (c:List ByteArray×Int×Int×Int):(d9 slt c).length=c.1.length:=by
 unfold d9
 rw [Array.length_toList,zI slt _ _ _ _ _ (Nat.le_refl _),List.size_toArray]
theorem f212.ok (a:List ByteArray×Int×Int) (h:fS a):f212.vc a:=by
 obtain ⟨l,a,b⟩:=a
 obtain ⟨⟨h1,h2,h3,h4⟩,h5⟩:=h
 simp only at h1 h2 h3 h4 h5
 refine ⟨by simp only; omega,by simp only; omega,by simp only; omega,by simp only; omega,by simp only; omega,by simp only; omega,
  fun y=>y.1=b - a∧-1≤y.2.1∧y.2.1≤b - a∧y.2.2.length=l.length∧Sort.heapPop slt a.toNat (b.toNat - a.toNat) (Sort.heapBuild slt (b.toNat - a.toNat) a.toNat (y.2.1+1).toNat y.2.2.toArray)=Sort.heapSort slt l.toArray a.toNat b.toNat,fun y=>(y.2.1+1).toNat,⟨rfl,by simp only; omega,by simp only; omega,rfl,?_⟩,fun y hy=>?_⟩
 ·simp only
  unfold Sort.heapSort
  rw [show ((b - a - 1) / 2+1).toNat=(b.toNat - a.toNat - 1) / 2+1 from by omega]
 ·obtain ⟨hi,k,c⟩:=y
  obtain ⟨g1,g2,g3,g4,g5⟩:=hy
  simp only at g1 g2 g3 g4 g5 ⊢
  subst g1
  refine ⟨fun hk=>?_,fun hk=>?_⟩
  ·refine ⟨⟨hk,by simp only; omega,h1,by simp only; omega,by simp only; omega,by simp only; omega⟩,n5 _,by omega,by omega,⟨rfl,by omega,by omega,(n5 _).trans g4,?_⟩,by omega⟩
   rw [show (k+1).toNat=k.toNat+1 from by omega,Sort.heapBuild] at g5
   rw [show (k - 1+1).toNat=k.toNat from by omega]
   unfold d9
   rw [show (b - a).toNat=b.toNat - a.toNat from by omega]
   exact g5
  ·rw [show (k+1).toNat=0 from by omega,Sort.heapBuild] at g5
   refine ⟨by omega,by omega,fun z=>-1≤z.1∧z.1 < b - a∧z.2.length=l.length∧Sort.heapPop slt a.toNat (z.1+1).toNat z.2.toArray=Sort.heapSort slt l.toArray a.toNat b.toNat,fun z=>(z.1+1).toNat,⟨by simp only; omega,by simp only; omega,g4,?_⟩,fun z hz=>?_⟩
   ·simp only
    rw [show (b - a - 1+1).toNat=b.toNat - a.toNat from by omega]
    exact g5
   ·obtain ⟨i,d⟩:=z
    obtain ⟨e1,e2,e3,e4⟩:=hz
    simp only at e1 e2 e3 e4 ⊢
    have hlen:(List.set (List.set d a.toNat (at_ d (a+i))) (a+i).toNat (at_ d a)).length=d.length:=by rw [List.length_set,List.length_set]
    refine ⟨fun hi=>⟨by omega,by omega,by omega,by omega,by omega,by omega,by omega,by omega,by omega,by omega,by omega,by omega,⟨Int.le_refl _,hi,h1,by simp only; rw [hlen]; omega,by simp only; rw [hlen]; omega,by simp only; omega⟩,(n5 _).trans hlen,by omega,by omega,⟨by omega,by omega,((n5 _).trans hlen).trans e3,?_⟩,by omega⟩,fun hi=>?_⟩
    ·rw [show (i+1).toNat=i.toNat+1 from by omega,Sort.heapPop,eK,show a.toNat+i.toNat=(a+i).toNat from by omega] at e4
     rw [show (i - 1+1).toNat=i.toNat from by omega]
     exact e4
    ·rw [show (i+1).toNat=0 from by omega] at e4
     exact congrArg Array.toList e4
theorem f247.ok (a:List ByteArray×Int×Int×Int) (h:iF a):f247.vc a:=by
 obtain ⟨l,a,b,s⟩:=a
 obtain ⟨h1,h2,h3,h4,h5,h6⟩:=h
 simp only at h1 h2 h3 h4 h5 h6
 exact ⟨h3,h4,h1,h2,fun c=>⟨by simp only; omega,by simp only; omega,(if_pos (stY c)).symm⟩,fun c=>(if_neg (by rw [stN c]; decide)).symm⟩
theorem f213.ok (a:List ByteArray×Int×Int) (h:gN a):f213.vc a:=by
 obtain ⟨l,a,b⟩:=a
 obtain ⟨h1,h2,h3,h4⟩:=h
 simp only at h1 h2 h3 h4
 refine ⟨by simp only; omega,by simp only; omega,fun h8=>?_,fun h8=>?_⟩
 ·simp only at h8 ⊢
  have hn:(b - a).toNat=b.toNat - a.toNat:=by omega
  have hp:=zH (n:=b.toNat - a.toNat) (by omega)
  have hm:mP (b - a)=((2 ^ eS (b.toNat - a.toNat):Nat):Int):=by
   unfold mP
   rw [hn]
  refine ⟨by omega,by omega,⟨by omega,by omega⟩,by omega,by omega,by omega,by omega,by omega,by omega,by omega,by omega,
   fun y=>y.1=b - a∧y.2.1=mP (b - a)∧∃ k:Nat,k≤3∧y.2.2.1=a+(b - a) / 4 * 2 - 1+k∧y.2.2.2.1.toArray=(gK l.toArray a.toNat (b.toNat - a.toNat) (1 <<< Sort.bitsLen (b.toNat - a.toNat)) (a.toNat+(b.toNat - a.toNat) / 4 * 2 - 1) k).2∧y.2.2.2.2=((gK l.toArray a.toNat (b.toNat - a.toNat) (1 <<< Sort.bitsLen (b.toNat - a.toNat)) (a.toNat+(b.toNat - a.toNat) / 4 * 2 - 1) k).1.toNat:Int),
   fun y=>(a+(b - a) / 4 * 2+2 - y.2.2.1).toNat,⟨rfl,rfl,0,by omega,by simp only; omega,rfl,?_⟩,fun y hy=>?_⟩
  ·simp only [gK]
   rw [UInt64.toNat_ofNat',Nat.mod_eq_of_lt (by simp; omega)]
   omega
  ·obtain ⟨n,m,idx,c,r⟩:=y
   obtain ⟨e1,e2,k,k3,e4,e5,e6⟩:=hy
   simp only at e1 e2 e4 e5 e6 ⊢
   subst e1; subst e2; subst e4; subst e6
   have hlen:c.length=l.length:=by
    have:=congrArg Array.size e5
    rw [l9] at this
    simpa using this
   have hsu:=qI l.toArray a.toNat (b.toNat - a.toNat) (1 <<< Sort.bitsLen (b.toNat - a.toNat)) (a.toNat+(b.toNat - a.toNat) / 4 * 2 - 1) k
   generalize hst:gK l.toArray a.toNat (b.toNat - a.toNat) (1 <<< Sort.bitsLen (b.toNat - a.toNat)) (a.toNat+(b.toNat - a.toNat) / 4 * 2 - 1) k=st at e5 hsu ⊢
   have hr:st.1.toNat < 18446744073709551616:=by have:=st.1.toNat_lt; simpa using this
   have hx:eA (st.1.toNat:Int)=(((Sort.xorNext st.1).toNat:Int),((Sort.xorNext st.1).toNat:Int)):=by
    unfold eA
    rw [Int.toNat_natCast,y6 hr,← Sort.xorNext_toNat]
   have hr2:(Sort.xorNext st.1).toNat < 18446744073709551616:=by have:=(Sort.xorNext st.1).toNat_lt; simpa using this
   have hand:IntKind.u64.wrap ((BitVec.ofInt 64 ((eA (st.1.toNat:Int)).1) &&& BitVec.ofInt 64 (mP (b - a) - 1)).toNat:Int)=(((Sort.xorNext st.1).toNat &&& (1 <<< Sort.bitsLen (b.toNat - a.toNat) - 1):Nat):Int):=by
    rw [hx,hm,show ((2 ^ eS (b.toNat - a.toNat):Nat):Int) - 1=((2 ^ eS (b.toNat - a.toNat) - 1:Nat):Int) from by omega]
    rw [Nat.one_shiftLeft,show Sort.bitsLen (b.toNat - a.toNat)=eS (b.toNat - a.toNat) from rfl]
    exact aK9 hr2 (by omega)
   have ho:=aKP (n:=b.toNat - a.toNat) (Sort.xorNext st.1) (by omega)
   have hle:(Sort.xorNext st.1).toNat &&& (1 <<< Sort.bitsLen (b.toNat - a.toNat) - 1)≤2097152:=by
    rw [Nat.one_shiftLeft,show Sort.bitsLen (b.toNat - a.toNat)=eS (b.toNat - a.toNat) from rfl]
    have h2:(Sort.xorNext st.1).toNat &&& (2 ^ eS (b.toNat - a.toNat) - 1)≤2 ^ eS (b.toNat - a.toNat) - 1:=Nat.and_le_right
    omega
   rw [hand]
   have hod:xX (b.toNat - a.toNat) (1 <<< Sort.bitsLen (b.toNat - a.toNat)) (Sort.xorNext st.1)=if ((Sort.xorNext st.1).toNat &&& (1 <<< Sort.bitsLen (b.toNat - a.toNat) - 1)) ≥ b.toNat - a.toNat then ((Sort.xorNext st.1).toNat &&& (1 <<< Sort.bitsLen (b.toNat - a.toNat) - 1)) - (b.toNat - a.toNat) else (Sort.xorNext st.1).toNat &&& (1 <<< Sort.bitsLen (b.toNat - a.toNat) - 1):=rfl
   generalize hq:(Sort.xorNext st.1).toNat &&& (1 <<< Sort.bitsLen (b.toNat - a.toNat) - 1)=q at hle hod ⊢
   generalize hoo:xX (b.toNat - a.toNat) (1 <<< Sort.bitsLen (b.toNat - a.toNat)) (Sort.xorNext st.1)=o at ho hod hsu
   refine ⟨by omega,by omega,by omega,by omega,by omega,by omega,by omega,by omega,fun hi=>?_,fun hi=>?_⟩
   ·refine ⟨⟨by omega,by omega⟩,by omega,by omega,by omega,by omega,fun z=>z.1=b - a∧z.2.1=mP (b - a)∧z.2.2.1=a+(b - a) / 4 * 2 - 1+k∧z.2.2.2.1=(o:Int)∧z.2.2.2.2.1=c∧z.2.2.2.2.2=((Sort.xorNext st.1).toNat:Int),
     ⟨fun hc=>⟨by omega,by omega,rfl,rfl,rfl,?_,rfl,by rw [hx]⟩,fun hc=>⟨rfl,rfl,rfl,?_,rfl,by rw [hx]⟩⟩,fun z hz=>?_⟩
    ·rw [if_pos (by omega)] at hod
     simp only
     omega
    ·rw [if_neg (by omega)] at hod
     simp only
     omega
    ·obtain ⟨n',m',i',o',c',r'⟩:=z
     obtain ⟨z1,z2,z3,z4,z5,z6⟩:=hz
     simp only at z1 z2 z3 z4 z5 z6 ⊢
     subst z1; subst z2; subst z3; subst z4; subst z5; subst z6
     refine ⟨by omega,by omega,by omega,by omega,by omega,by omega,by omega,by omega,by omega,by omega,by omega,by omega,by omega,by omega,⟨by trivial,by trivial,k+1,by omega,by omega,?_,?_⟩,by omega⟩
     ·rw [hsu,← e5,eK,show (a.toNat+(b.toNat - a.toNat) / 4 * 2 - 1+k)=(a+(b - a) / 4 * 2 - 1+(k:Int)).toNat from by omega,show a.toNat+o=(a+(o:Int)).toNat from by omega]
      rfl
     ·rw [hsu]
   ·have:k=3:=by omega
    subst this
    unfold eJ
    rw [aC0 _ (by simp only; omega)]
    simp only
    rw [hst,← e5]
 ·unfold eJ
  simp only at h8 ⊢
  rw [aCN _ (by omega)]
theorem vC (l:List ByteArray) {a b s:Int} (h1:0≤a) (h2:0≤b) (h3:0≤s):aJ slt (l,a,b,s)=(((Sort.order2 slt l.toArray a.toNat b.toNat s.toNat).1:Int),((Sort.order2 slt l.toArray a.toNat b.toNat s.toNat).2.1:Int),l,((Sort.order2 slt l.toArray a.toNat b.toNat s.toNat).2.2:Int)):=by
 unfold aJ Sort.order2
 rw [d7]
 simp only
 split
 ·rw [show ((b.toNat:Nat):Int)=b from by omega,show ((a.toNat:Nat):Int)=a from by omega,show ((s.toNat+1:Nat):Int)=s+1 from by omega]
 ·rw [show ((b.toNat:Nat):Int)=b from by omega,show ((a.toNat:Nat):Int)=a from by omega,show ((s.toNat:Nat):Int)=s from by omega]
theorem f232.ok (a:List ByteArray×Int×Int×Int×Int) (h:oP a):f232.vc a:=by
 obtain ⟨l,a,b,c,s⟩:=a
 obtain ⟨h1,h2,h3,h4,h5,h6,h7,h8⟩:=h
 simp only at h1 h2 h3 h4 h5 h6 h7 h8
 have mem:∀ x y z:Nat,(Sort.order2 slt l.toArray x y z).1 < l.length∧(Sort.order2 slt l.toArray x y z).2.1 < l.length∨¬(x < l.length∧y < l.length):=fun x y z=>by
  rcases Sort.order2_mem slt l.toArray x y z with ⟨e1,e2⟩ | ⟨e1,e2⟩ <;> omega
 have m1:=mem a.toNat b.toNat s.toNat
 have c1:=Sort.order2_count slt l.toArray a.toNat b.toNat s.toNat
 have q1:=vC l (a:=a) (b:=b) (s:=s) h1 h3 h7
 unfold f232.vc
 simp only
 rw [q1]
 simp only
 generalize hr1:Sort.order2 slt l.toArray a.toNat b.toNat s.toNat=r1 at m1 c1
 have q2:=vC l (a:=(r1.2.1:Int)) (b:=c) (s:=(r1.2.2:Int)) (by omega) h5 (by omega)
 rw [q2]
 simp only [Int.toNat_natCast]
 have m2:=mem r1.2.1 c.toNat r1.2.2
 have c2:=Sort.order2_count slt l.toArray r1.2.1 c.toNat r1.2.2
 generalize hr2:Sort.order2 slt l.toArray r1.2.1 c.toNat r1.2.2=r2 at m2 c2
 have q3:=vC l (a:=(r1.1:Int)) (b:=(r2.1:Int)) (s:=(r2.2.2:Int)) (by omega) (by omega) (by omega)
 rw [q3]
 simp only [Int.toNat_natCast]
 refine ⟨⟨h1,h2,h3,h4,h7,by simp only; omega⟩,by trivial,⟨by simp only; omega,by simp only; omega,h5,h6,by simp only; omega,by simp only; omega⟩,by trivial,⟨by simp only; omega,by simp only; omega,by simp only; omega,by simp only; omega,by simp only; omega,by simp only; omega⟩,by trivial,?_⟩
 unfold fL Sort.median
 simp only
 rw [hr1,hr2]
theorem f231.ok (a:List ByteArray×Int×Int) (h:iB a):f231.vc a:=by
 obtain ⟨l,a,s⟩:=a
 obtain ⟨h1,h2,h3,h4,h5⟩:=h
 simp only at h1 h2 h3 h4 h5
 refine ⟨by simp only; omega,by simp only; omega,by simp only; omega,by simp only; omega,⟨by simp only; omega,by simp only; omega,by simp only; omega,by simp only; omega,by simp only; omega,h2,h3,h4⟩,rfl,?_⟩
 unfold fL aO Sort.medianAdjacent
 simp only
 rw [show (a - 1).toNat=a.toNat - 1 from by omega,show (a+1).toNat=a.toNat+1 from by omega]
set_option maxHeartbeats 4000000 in
theorem f214.ok (a:List ByteArray×Int×Int) (h:fS a):f214.vc a:=by
 obtain ⟨l,a,b⟩:=a
 obtain ⟨⟨h1,h2,h3,h4⟩,h5⟩:=h
 simp only at h1 h2 h3 h4 h5
 have d4:((b - a) / 4).toNat=(b.toNat - a.toNat) / 4:=by omega
 have t1:(a+(b - a) / 4 * 1).toNat=a.toNat+(b.toNat - a.toNat) / 4 * 1:=by omega
 have t2:(a+(b - a) / 4 * 2).toNat=a.toNat+(b.toNat - a.toNat) / 4 * 2:=by omega
 have t3:(a+(b - a) / 4 * 3).toNat=a.toNat+(b.toNat - a.toNat) / 4 * 3:=by omega
 refine ⟨by simp only; omega,by simp only; omega,by simp only; omega,by simp only; omega,by simp only; omega,by simp only; omega,by simp only; omega,by simp only; omega,by simp only; omega,by simp only; omega,by simp only; omega,by simp only; omega,by simp only; omega,by simp only; omega,by simp only; omega,by simp only; omega,by simp only; omega,by simp only; omega,by simp only; omega,by simp only; omega,
  fun y=>y.2.1=l∧(y.1,y.2.2)=(((Sort.rawPivot slt l.toArray a.toNat b.toNat).1:Int),((Sort.rawPivot slt l.toArray a.toNat b.toNat).2:Int)),⟨fun h8=>?_,fun h8=>⟨rfl,?_⟩⟩,fun y hy=>?_⟩
 ·simp only at h8 ⊢
  refine ⟨fun z=>z.2.2.2.1=l∧a≤z.1∧z.1 < b∧a≤z.2.1∧z.2.1 < b∧a≤z.2.2.1∧z.2.2.1 < b∧0≤z.2.2.2.2∧z.2.2.2.2≤9∧Sort.rawPivot slt l.toArray a.toNat b.toNat=Sort.median slt l.toArray z.1.toNat z.2.1.toNat z.2.2.1.toNat z.2.2.2.2.toNat,⟨fun h50=>?_,fun h50=>⟨rfl,by simp only; omega,by simp only; omega,by simp only; omega,by simp only; omega,by simp only; omega,by simp only; omega,by simp only; omega,by simp only; omega,?_⟩⟩,fun z hz=>?_⟩
  ·have mem:∀ x s:Nat,((Sort.medianAdjacent slt l.toArray x s).1=x - 1∨(Sort.medianAdjacent slt l.toArray x s).1=x∨(Sort.medianAdjacent slt l.toArray x s).1=x+1)∧(Sort.medianAdjacent slt l.toArray x s).2≤s+3:=fun x s=>⟨Sort.medianAdjacent_mem slt l.toArray x s,Sort.medianAdjacent_count slt l.toArray x s⟩
   unfold aO
   simp only [t1,t2,t3,Int.toNat_natCast]
   rw [show (0:Int).toNat=0 from rfl]
   have hraw:Sort.rawPivot slt l.toArray a.toNat b.toNat=Sort.median slt l.toArray (Sort.medianAdjacent slt l.toArray (a.toNat+(b.toNat - a.toNat) / 4 * 1) 0).1 (Sort.medianAdjacent slt l.toArray (a.toNat+(b.toNat - a.toNat) / 4 * 2) (Sort.medianAdjacent slt l.toArray (a.toNat+(b.toNat - a.toNat) / 4 * 1) 0).2).1
    (Sort.medianAdjacent slt l.toArray (a.toNat+(b.toNat - a.toNat) / 4 * 3) (Sort.medianAdjacent slt l.toArray (a.toNat+(b.toNat - a.toNat) / 4 * 2) (Sort.medianAdjacent slt l.toArray (a.toNat+(b.toNat - a.toNat) / 4 * 1) 0).2).2).1
    (Sort.medianAdjacent slt l.toArray (a.toNat+(b.toNat - a.toNat) / 4 * 3) (Sort.medianAdjacent slt l.toArray (a.toNat+(b.toNat - a.toNat) / 4 * 2) (Sort.medianAdjacent slt l.toArray (a.toNat+(b.toNat - a.toNat) / 4 * 1) 0).2).2).2:=by
    unfold Sort.rawPivot
    rw [if_pos (by omega),if_pos (by omega)]
   have n1:=mem (a.toNat+(b.toNat - a.toNat) / 4 * 1) 0
   generalize Sort.medianAdjacent slt l.toArray (a.toNat+(b.toNat - a.toNat) / 4 * 1) 0=r1 at n1 hraw ⊢
   have n2:=mem (a.toNat+(b.toNat - a.toNat) / 4 * 2) r1.2
   generalize Sort.medianAdjacent slt l.toArray (a.toNat+(b.toNat - a.toNat) / 4 * 2) r1.2=r2 at n2 hraw ⊢
   have n3:=mem (a.toNat+(b.toNat - a.toNat) / 4 * 3) r2.2
   generalize Sort.medianAdjacent slt l.toArray (a.toNat+(b.toNat - a.toNat) / 4 * 3) r2.2=r3 at n3 hraw ⊢
   exact ⟨⟨by simp only; omega,by simp only; omega,by simp only; omega,by simp only; omega,h4⟩,by trivial,⟨by simp only; omega,by simp only; omega,by simp only; omega,by simp only; omega,h4⟩,by trivial,⟨by simp only; omega,by simp only; omega,by simp only; omega,by simp only; omega,h4⟩,by trivial,by trivial,by omega,by omega,by omega,by omega,by omega,by omega,by omega,by omega,hraw⟩
  ·unfold Sort.rawPivot
   rw [if_pos (by omega),if_neg (by omega)]
   simp only [t1,t2,t3]
   rfl
  ·obtain ⟨i,j,k,c,s⟩:=z
   obtain ⟨z0,z1,z2,z3,z4,z5,z6,z7,z8,z9⟩:=hz
   simp only at z0 z1 z2 z3 z4 z5 z6 z7 z8 z9 ⊢
   subst z0
   refine ⟨⟨by simp only; omega,by simp only; omega,by simp only; omega,by simp only; omega,by simp only; omega,by simp only; omega,by simp only; omega,by simp only; omega⟩,rfl,rfl,?_⟩
   rw [z9]
   rfl
 ·simp only at h8 ⊢
  unfold Sort.rawPivot
  rw [if_neg (by omega)]
  simp only
  rw [← t2]
  refine Prod.ext ?_ rfl
  simp only
  omega
 ·obtain ⟨j,c,s⟩:=y
  obtain ⟨e1,e2⟩:=hy
  simp only at e1 e2 ⊢
  subst e1
  have e3:=congrArg Prod.fst e2
  have e4:=congrArg Prod.snd e2
  simp only at e3 e4
  unfold aV
  simp only
  rw [Sort.choosePivot_eq]
  simp only
  rw [← e3]
  refine ⟨fun c0=>?_,fun c0=>⟨fun c12=>?_,fun c12=>?_⟩⟩
  ·unfold Sort.hintOf
   rw [if_pos (by omega)]
   rfl
  ·unfold Sort.hintOf
   rw [if_neg (by omega),if_pos (by omega)]
   rfl
  ·unfold Sort.hintOf
   rw [if_neg (by omega),if_neg (by omega)]
   rfl
end Go.Abs
