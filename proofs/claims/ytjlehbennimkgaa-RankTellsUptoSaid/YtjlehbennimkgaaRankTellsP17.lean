/- Functions, and what the code asks of them: PPdqSc. -/
import Derived.KernelRfl
import Derived.Test.YtjlehbennimkgaaRankTellsP4
import Derived.Test.YtjlehbennimkgaaRankTellsP5
import Derived.Test.YtjlehbennimkgaaRankTellsP6
import Derived.Test.YtjlehbennimkgaaRankTellsP9
import Derived.Test.YtjlehbennimkgaaRankTellsP10
import Derived.Test.YtjlehbennimkgaaRankTellsP12
import Derived.Test.YtjlehbennimkgaaRankTellsP14
import Derived.Test.YtjlehbennimkgaaRankTellsP16
set_option maxRecDepth 100000
set_option maxHeartbeats 4000000
set_option linter.unusedVariables false
set_option linter.unusedSimpArgs false
namespace Go.Abs
open Go
abbrev TSc:=ByteArray×Int
def cD (c:TSc×TSc):Int:=orI [lC (c.1.2,c.2.2),kK (c.1.1,c.2.1)]
def aJ (a b:TSc):Bool:=decide (cD (a,b) < 0)
def f199.ent (K:(aB×aB)→Prop) (t:aB×aB):Prop:=∃ c:aB×aB,(t.1.1=c.1.1)∧(t.1.2=c.1.2)∧(t.2.1=c.2.1)∧(t.2.2=c.2.2)∧K c
theorem f199.ei {K:(aB×aB)→Prop} {t:aB×aB} (h:K t):f199.ent K t:=⟨t,⟨rfl,⟨rfl,⟨rfl,⟨rfl,h⟩⟩⟩⟩⟩
def f199.args (a:aB×aB):List D:=[.agg [.str a.1.1,.int .i64 a.1.2],.agg [.str a.2.1,.int .i64 a.2.2]]
def f199.blks (a:aB×aB):List (List D):=[]
def f199.res (a:aB×aB):List D:=[.int .i64 (cD a)]
def f199.blks' (a:aB×aB):List (List D):=[]
def f199.C:aN:=FnC f199.args f199.blks (fun _=>True) f199.res f199.blks'
set_option linter.unusedVariables false
def f199.kills (a:aB×aB):List Hint:=[]
def f199.cuts (a:aB×aB):List (Nat×Σ β:Type,β→Tm):=[]
def f199.af (a:aB×aB):AF:=AF.mk (.seq (.region [oT 2 0 .box [0],
 oT 3 1 .box [1],
 ⟨(some 4),2,.move,[.c (.int .i64 (0))],none⟩])
 (.seq (.region [oT 5 3 (.fieldAddr 1) [2],
 oT 6 4 (.load false 1) [5],
 oT 7 5 (.fieldAddr 1) [3],
 oT 8 6 (.load false 1) [7],
 oT 9 7 (.call false 130) [6,8],
 oT 10 11 (.fieldAddr 0) [2],
 oT 11 12 (.load false 1) [10],
 oT 12 13 (.fieldAddr 0) [3],
 oT 13 14 (.load false 1) [12],
 oT 14 15 (.call false 176) [11,13],
 oT 15 19 (.buildSlice 1 2 [.int .i64 (0)] [(0,1),(1,1)]) [9,14],
 oT 16 20 (.call false 129) [15],
 mT 4 24 16])
 (.ret)))
 [.tmp 4] 0 15
def f199.env:Env:=[(130,f130.C),(176,f176.C),(129,f129.C)]
def f199.tree (a:aB×aB):Prop:=∃ c1:Int×Int,(a.1.2=c1.1)∧(a.2.2=c1.2)∧True∧∃ c2:ByteArray×ByteArray,(a.1.1=c2.1)∧(a.2.1=c2.2)∧True∧∃ c3:List (Int),SlQ 2 c3.length (fun j=>List.take 1 (List.drop (j * 1) [.int .i64 (lC c1),.int .i64 (kK c2)])) (gl dU c3) ((qI c3)∧((orI c3)=(cD a))∧True)
def f199.vc (a:aB×aB):Prop:=(qI ([(lC (a.1.2,a.2.2)),(kK (a.1.1,a.2.1))])∧((orI ([(lC (a.1.2,a.2.2)),(kK (a.1.1,a.2.1))]))=cD a))
theorem f199.of (a:aB×aB) (h:f199.vc a):f199.tree a:=⟨(a.1.2,a.2.2),⟨rfl,⟨rfl,⟨trivial,⟨(a.1.1,a.2.1),⟨rfl,⟨rfl,⟨trivial,⟨[(lC (a.1.2,a.2.2)),(kK (a.1.1,a.2.1))],slQ (Rds.row (enc:=dU) ⟨rfl,fun i hi=>by repeat (first | rfl | exact absurd hi (Nat.not_lt.2 (Nat.le_add_left 2 _)) | (cases i with | zero=>rfl | succ i=>?_))⟩) (⟨h.1,⟨h.2,trivial⟩⟩)⟩⟩⟩⟩⟩⟩⟩⟩⟩
theorem f199.eq (a:aB×aB):(f199.af a).gives f199.env (f199.args a) (f199.blks a) (f199.res a) (f199.blks' a)=f199.tree a:=by kernel_rfl
def f233.args (a:(List (aB))×Int×Int):List D:=[.msl 0 2 a.1.length,.int .i64 a.2.1,.int .i64 a.2.2,.fn 199 []]
def f233.blks (a:(List (aB))×Int×Int):List (List D):=[[.dead,.arr false 2 a.1.length (gl aA a.1)]]
def f233.res (a:(List (aB))×Int×Int):List D:=[]
def f233.blks' (a:(List (aB))×Int×Int):List (List D):=[[.dead,.arr false 2 (List.length ((s8 aJ) a)) (gl aA ((s8 aJ) a))]]
def f233.C:aN:=FnC f233.args f233.blks (fun a=>iA a) f233.res f233.blks'
def f233.S0 (a:(List (aB))×Int×Int) (x:Int×(List (aB))):Tm:=⟨.msl 0 2 x.2.length::.int .i64 a.2.1::.int .i64 a.2.2::.fn 199 []::.dead::.dead::.dead::.dead::.int .i64 x.1::dd 44 [],[(0,false,[.dead,.arr false 2 x.2.length (gl aA x.2)])],[]⟩
def f233.S1 (a:(List (aB))×Int×Int) (x:Int×Int×(List (aB))):Tm:=⟨.msl 0 2 x.2.2.length::.int .i64 a.2.1::.int .i64 a.2.2::.fn 199 []::.dead::.dead::.dead::.dead::.int .i64 x.1::.int .i64 x.2.1::dd 43 [],[(0,false,[.dead,.arr false 2 x.2.2.length (gl aA x.2.2)])],[]⟩
def f233.kills (a:(List (aB))×Int×Int):List Hint:=[.tell (Int×(List (aB))) (f233.S0 a),
 .tell (Int×Int×(List (aB))) (f233.S1 a)]
def f233.cuts (a:(List (aB))×Int×Int):List (Nat×Σ β:Type,β→Tm):=[(999999,⟨Unit,fun x=>⟨[],[],[]⟩⟩)]
def f233.af (a:(List (aB))×Int×Int):AF:=AF.mk (.seq (.region [mR 10 0 1,
 ⟨(some 11),1000001,(.bin .add),[.t 10,.c (.int .i64 (1))],none⟩,
 mR 8 2 11])
 (.block 0 (.loopT (Int×(List (aB))) (f233.S0 a) 1000003 1000052 (.seq (.seq (.region [mR 12 3 8,
 mR 13 4 2,
 oR 14 5 (.bin .lss) [12,13]])
 (.cond (.t 14) (.skip) (.exit 0)))
 (.seq (.block 1 (.seq (.region [mR 17 6 8,
 mR 9 7 17])
 (.block 2 (.loopT (Int×Int×(List (aB))) (f233.S1 a) 1000008 1000049 (.seq (.seq (.region [mR 18 8 9,
 mR 19 9 1,
 oR 20 10 (.bin .gtr) [18,19],
 mR 21 11 20,
 oG 22 1000012 .move [3] 21 true,
 oG 23 1000013 .move [0] 21 true,
 oG 24 1000014 .move [9] 21 true,
 oG 25 1000015 (.indexAddr 2 none) [23,24] 21 true,
 oG 26 1000016 (.load true 2) [25] 21 true,
 oG 27 1000017 .move [0] 21 true,
 oG 28 1000018 .move [9] 21 true,
 ⟨(some 29),1000019,(.bin .sub),[.t 28,.c (.int .i64 (1))],(some (21,true))⟩,
 oG 30 1000020 (.indexAddr 2 none) [27,29] 21 true,
 oG 31 1000021 (.load true 2) [30] 21 true,
 oG 32 1000022 (.callv false) [22,26,31] 21 true,
 ⟨(some 33),1000026,(.bin .lss),[.t 32,.c (.int .i64 (0))],(some (21,true))⟩,
 ⟨(some 34),1000027,.pick,[.t 21,.t 33,.c (.bool false)],none⟩])
 (.cond (.t 34) (.skip) (.exit 2)))
 (.seq (.block 3 (.region [mR 37 28 0,
 mR 38 29 9,
 mR 39 30 0,
 mR 40 31 9,
 ⟨(some 41),1000032,(.bin .sub),[.t 40,.c (.int .i64 (1))],none⟩,
 mR 42 33 0,
 mR 43 34 9,
 ⟨(some 44),1000035,(.bin .sub),[.t 43,.c (.int .i64 (1))],none⟩,
 oR 45 36 (.indexAddr 2 none) [42,44],
 oR 46 37 (.load true 2) [45],
 mR 47 38 0,
 mR 48 39 9,
 oR 49 40 (.indexAddr 2 none) [47,48],
 oR 50 41 (.load true 2) [49],
 oR 51 42 (.indexAddr 2 none) [37,38],
 ⟨none,1000043,(.store 2),[.t 51,.t 46],none⟩,
 oR 52 44 (.indexAddr 2 none) [39,41],
 ⟨none,1000045,(.store 2),[.t 52,.t 50],none⟩]))
 (.region [mR 35 46 9,
 ⟨(some 36),1000047,(.bin .sub),[.t 35,.c (.int .i64 (1))],none⟩,
 mR 9 48 36])))))))
 (.region [mR 15 49 8,
 ⟨(some 16),1000050,(.bin .add),[.t 15,.c (.int .i64 (1))],none⟩,
 mR 8 51 16]))))))
 [] 1 49
def f233.env:Env:=[(199,f199.C)]
def f233.tree (a:(List (aB))×Int×Int):Prop:=Let (wI (a.2.1+(1:Int))) (fun v1:Int=>∃ (I3:(Int×(List (aB)))→Prop) (μ4:(Int×(List (aB)))→Nat),(∃ x2:Int×(List (aB)),(a.1.length=x2.2.length)∧(a.2.1=a.2.1)∧(a.2.2=a.2.2)∧(DEqs [] [])∧(v1=x2.1)∧SlQ a.1.length x2.2.length (gl aA a.1) (gl aA x2.2) (I3 x2))∧∀ y5:Int×(List (aB)),I3 y5→(Br (decide (y5.1 < a.2.2)) (∃ (I9:(Int×Int×(List (aB)))→Prop) (μ10:(Int×Int×(List (aB)))→Nat),(∃ x8:Int×Int×(List (aB)),(y5.2.length=x8.2.2.length)∧(a.2.1=a.2.1)∧(a.2.2=a.2.2)∧(DEqs [] [])∧(y5.1=x8.1)∧(y5.1=x8.2.1)∧SlQ y5.2.length x8.2.2.length (gl aA y5.2) (gl aA x8.2.2) (I9 x8))∧∀ y11:Int×Int×(List (aB)),I9 y11→(Br (decide (a.2.1 < y11.2.1)) (Br (decide ((0:Int)≤y11.2.1)&&decide (y11.2.1 < (List.length y11.2.2:Int))) ((y11.2.2.length=y11.2.2.length)∧(Let (wI (y11.2.1 - (1:Int))) (fun v15:Int=>Br (decide ((0:Int)≤v15)&&decide (v15 < (List.length y11.2.2:Int))) ((y11.2.2.length=y11.2.2.length)∧(f199.ent (fun c17=>True∧Br (decide ((cD c17) < (0:Int))) (Let (wI (y11.2.1 - (1:Int))) (fun v20:Int=>Let (wI (y11.2.1 - (1:Int))) (fun v21:Int=>Br (decide ((0:Int)≤v21)&&decide (v21 < (List.length y11.2.2:Int))) ((y11.2.2.length=y11.2.2.length)∧(Br (decide ((0:Int)≤y11.2.1)&&decide (y11.2.1 < (List.length y11.2.2:Int))) ((y11.2.2.length=y11.2.2.length)∧(Br (decide ((0:Int)≤y11.2.1)&&decide (y11.2.1 < (List.length y11.2.2:Int))) ((y11.2.2.length=y11.2.2.length)∧(Br (decide ((0:Int)≤v20)&&decide (v20 < (List.length y11.2.2:Int))) ((y11.2.2.length=y11.2.2.length)∧(Let (wI (y11.2.1 - (1:Int))) (fun v26:Int=>∃ x27:Int×Int×(List (aB)),(y11.2.2.length=x27.2.2.length)∧(a.2.1=a.2.1)∧(a.2.2=a.2.2)∧(DEqs [] [])∧(y11.1=x27.1)∧(v26=x27.2.1)∧SlQ y11.2.2.length x27.2.2.length (gset (gset (gl aA y11.2.2) (Int.toNat y11.2.1) [.str ((at_ y11.2.2 v21).1),.int .i64 ((at_ y11.2.2 v21).2)]) (Int.toNat v20) [.str ((at_ y11.2.2 y11.2.1).1),.int .i64 ((at_ y11.2.2 y11.2.1).2)]) (gl aA x27.2.2) (I9 x27∧μ10 x27 < μ10 y11)))) False)) False)) False)) False))) (Let (wI (y11.1+(1:Int))) (fun v42:Int=>∃ x43:Int×(List (aB)),(y11.2.2.length=x43.2.length)∧(a.2.1=a.2.1)∧(a.2.2=a.2.2)∧(DEqs [] [])∧(v42=x43.1)∧SlQ y11.2.2.length x43.2.length (gl aA y11.2.2) (gl aA x43.2) (I3 x43∧μ4 x43 < μ4 y5)))) ((at_ y11.2.2 y11.2.1),(at_ y11.2.2 v15)))) False))) False) (Let (wI (y11.1+(1:Int))) (fun v56:Int=>∃ x57:Int×(List (aB)),(y11.2.2.length=x57.2.length)∧(a.2.1=a.2.1)∧(a.2.2=a.2.2)∧(DEqs [] [])∧(v56=x57.1)∧SlQ y11.2.2.length x57.2.length (gl aA y11.2.2) (gl aA x57.2) (I3 x57∧μ4 x57 < μ4 y5))))) (SlQ y5.2.length (List.length ((s8 aJ) a)) (gl aA y5.2) (gl aA ((s8 aJ) a)) (True))))
def f233.vc (a:(List (aB))×Int×Int):Prop:=(-9223372036854775808≤(a.2.1+(1:Int))∧(a.2.1+(1:Int))≤9223372036854775807∧(∃ (I3:(Int×(List (aB)))→Prop) (μ4:(Int×(List (aB)))→Nat),I3 ((a.2.1+(1:Int)),a.1)∧∀ y5:Int×(List (aB)),I3 y5→((y5.1 < a.2.2→(∃ (I9:(Int×Int×(List (aB)))→Prop) (μ10:(Int×Int×(List (aB)))→Nat),I9 (y5.1,y5.1,y5.2)∧∀ y11:Int×Int×(List (aB)),I9 y11→((a.2.1 < y11.2.1→((0:Int)≤y11.2.1∧y11.2.1 < (List.length y11.2.2:Int)∧(-9223372036854775808≤(y11.2.1 - (1:Int))∧(y11.2.1 - (1:Int))≤9223372036854775807∧((0:Int)≤(y11.2.1 - (1:Int))∧(y11.2.1 - (1:Int)) < (List.length y11.2.2:Int)∧(((cD ((at_ y11.2.2 y11.2.1),(at_ y11.2.2 (y11.2.1 - (1:Int))))) < (0:Int)→(-9223372036854775808≤(y11.2.1 - (1:Int))∧(y11.2.1 - (1:Int))≤9223372036854775807∧(-9223372036854775808≤(y11.2.1 - (1:Int))∧(y11.2.1 - (1:Int))≤9223372036854775807∧((0:Int)≤(y11.2.1 - (1:Int))∧(y11.2.1 - (1:Int)) < (List.length y11.2.2:Int)∧((0:Int)≤y11.2.1∧y11.2.1 < (List.length y11.2.2:Int)∧((0:Int)≤y11.2.1∧y11.2.1 < (List.length y11.2.2:Int)∧((0:Int)≤(y11.2.1 - (1:Int))∧(y11.2.1 - (1:Int)) < (List.length y11.2.2:Int)∧(-9223372036854775808≤(y11.2.1 - (1:Int))∧(y11.2.1 - (1:Int))≤9223372036854775807∧(I9 (y11.1,(y11.2.1 - (1:Int)),List.set (List.set y11.2.2 (Int.toNat y11.2.1) (at_ y11.2.2 (y11.2.1 - (1:Int)))) (Int.toNat (y11.2.1 - (1:Int))) (at_ y11.2.2 y11.2.1))∧μ10 (y11.1,(y11.2.1 - (1:Int)),List.set (List.set y11.2.2 (Int.toNat y11.2.1) (at_ y11.2.2 (y11.2.1 - (1:Int)))) (Int.toNat (y11.2.1 - (1:Int))) (at_ y11.2.2 y11.2.1)) < μ10 y11)))))))))∧(¬((cD ((at_ y11.2.2 y11.2.1),(at_ y11.2.2 (y11.2.1 - (1:Int))))) < (0:Int))→(-9223372036854775808≤(y11.1+(1:Int))∧(y11.1+(1:Int))≤9223372036854775807∧(I3 ((y11.1+(1:Int)),y11.2.2)∧μ4 ((y11.1+(1:Int)),y11.2.2) < μ4 y5))))))))∧(¬(a.2.1 < y11.2.1)→(-9223372036854775808≤(y11.1+(1:Int))∧(y11.1+(1:Int))≤9223372036854775807∧(I3 ((y11.1+(1:Int)),y11.2.2)∧μ4 ((y11.1+(1:Int)),y11.2.2) < μ4 y5))))))∧(¬(y5.1 < a.2.2)→(y5.2=(s8 aJ) a)))))
theorem f233.of (a:(List (aB))×Int×Int) (h:f233.vc a):f233.tree a:=wrapK.i64 h (fun h73 h74 k75=>Exists.elim k75 (fun I3 h70_=>Exists.elim h70_ (fun μ4 h70=>⟨I3,μ4,⟨((a.2.1+(1:Int)),a.1),⟨(bI (gl aA a.1) (rS aA)),⟨rfl,⟨rfl,⟨(DEqs.refl _),⟨rfl,slQ (rS aA) (h70.1)⟩⟩⟩⟩⟩⟩,fun y5 h72=>br (h70.2 y5 h72) Cnd.dec (fun h6 k68=>Exists.elim k68 (fun I9 h64_=>Exists.elim h64_ (fun μ10 h64=>⟨I9,μ10,⟨(y5.1,y5.1,y5.2),⟨(bI (gl aA y5.2) (rS aA)),⟨rfl,⟨rfl,⟨(DEqs.refl _),⟨rfl,⟨rfl,slQ (rS aA) (h64.1)⟩⟩⟩⟩⟩⟩⟩,fun y11 h66=>br (h64.2 y11 h66) Cnd.dec (fun h12 k62=>chk k62.2.2 Cnd.ix ⟨k62.1,k62.2.1⟩ (fun h14 k55=>⟨rfl,wrapK.i64 k55 (fun h52 h53 k54=>chk k54.2.2 Cnd.ix ⟨k54.1,k54.2.1⟩ (fun h16 k51=>⟨rfl,(f199.ei ⟨trivial,br k51 Cnd.dec (fun h18 k48=>wrapK.i64 k48 (fun h39 h40 k41=>wrapK.i64 k41 (fun h36 h37 k38=>chk k38.2.2 Cnd.ix ⟨k38.1,k38.2.1⟩ (fun h22 k35=>⟨rfl,chk k35.2.2 Cnd.ix ⟨k35.1,k35.2.1⟩ (fun h23 k34=>⟨rfl,chk k34.2.2 Cnd.ix ⟨k34.1,k34.2.1⟩ (fun h24 k33=>⟨rfl,chk k33.2.2 Cnd.ix ⟨k33.1,k33.2.1⟩ (fun h25 k32=>⟨rfl,wrapK.i64 k32 (fun h29 h30 k31=>⟨(y11.1,(y11.2.1 - (1:Int)),List.set (List.set y11.2.2 (Int.toNat y11.2.1) (at_ y11.2.2 (y11.2.1 - (1:Int)))) (Int.toNat (y11.2.1 - (1:Int))) (at_ y11.2.2 y11.2.1)),⟨(bI (gset (gset (gl aA y11.2.2) (Int.toNat y11.2.1) [.str ((at_ y11.2.2 (y11.2.1 - (1:Int))).1),.int .i64 ((at_ y11.2.2 (y11.2.1 - (1:Int))).2)]) (Int.toNat (y11.2.1 - (1:Int))) [.str ((at_ y11.2.2 y11.2.1).1),.int .i64 ((at_ y11.2.2 y11.2.1).2)]) (Rds.gset (enc:=aA) (Rds.gset (enc:=aA) (rS aA) (DEqs.refl _)) (DEqs.refl _))),⟨rfl,⟨rfl,⟨(DEqs.refl _),⟨rfl,⟨rfl,slQ (Rds.gset (enc:=aA) (Rds.gset (enc:=aA) (rS aA) (DEqs.refl _)) (DEqs.refl _)) (k31)⟩⟩⟩⟩⟩⟩⟩)⟩)⟩)⟩)⟩)))) (fun h19 k49=>wrapK.i64 k49 (fun h45 h46 k47=>⟨((y11.1+(1:Int)),y11.2.2),⟨(bI (gl aA y11.2.2) (rS aA)),⟨rfl,⟨rfl,⟨(DEqs.refl _),⟨rfl,slQ (rS aA) (k47)⟩⟩⟩⟩⟩⟩))⟩)⟩))⟩)) (fun h13 k63=>wrapK.i64 k63 (fun h59 h60 k61=>⟨((y11.1+(1:Int)),y11.2.2),⟨(bI (gl aA y11.2.2) (rS aA)),⟨rfl,⟨rfl,⟨(DEqs.refl _),⟨rfl,slQ (rS aA) (k61)⟩⟩⟩⟩⟩⟩))⟩))) (fun h7 k69=>slQ (Rds.to (rS aA) k69) (trivial))⟩)))
theorem f233.eq (a:(List (aB))×Int×Int):(f233.af a).gives f233.env (f233.args a) (f233.blks a) (f233.res a) (f233.blks' a)=f233.tree a:=by kernel_rfl
def f234.args (a:(List (aB))×Int×Int):List D:=[.msl 0 2 a.1.length,.int .i64 a.2.1,.int .i64 a.2.2,.fn 199 []]
def f234.blks (a:(List (aB))×Int×Int):List (List D):=[[.dead,.arr false 2 a.1.length (gl aA a.1)]]
def f234.res (a:(List (aB))×Int×Int):List D:=[]
def f234.blks' (a:(List (aB))×Int×Int):List (List D):=[[.dead,.arr false 2 (List.length ((mK aJ) a)) (gl aA ((mK aJ) a))]]
def f234.C:aN:=FnC f234.args f234.blks (fun a=>gG a) f234.res f234.blks'
def f248.args (a:(List (aB))×Int×Int×Int):List D:=[.msl 0 2 a.1.length,.int .i64 a.2.1,.int .i64 a.2.2.1,.int .i64 a.2.2.2,.fn 199 []]
def f248.blks (a:(List (aB))×Int×Int×Int):List (List D):=[[.dead,.arr false 2 a.1.length (gl aA a.1)]]
def f248.res (a:(List (aB))×Int×Int×Int):List D:=[]
def f248.blks' (a:(List (aB))×Int×Int×Int):List (List D):=[[.dead,.arr false 2 (List.length ((eU aJ) a)) (gl aA ((eU aJ) a))]]
def f248.C:aN:=FnC f248.args f248.blks (fun a=>kU a) f248.res f248.blks'
def f234.S0 (a:(List (aB))×Int×Int) (x:Int×Int×(List (aB))):Tm:=⟨.msl 0 2 x.2.2.length::.dead::.dead::.fn 199 []::.dead::.dead::.dead::.dead::.int .i64 a.2.1::.int .i64 (0:Int)::.int .i64 x.1::.int .i64 x.2.1::dd 48 [],[(0,false,[.dead,.arr false 2 x.2.2.length (gl aA x.2.2)])],[]⟩
def f234.S1 (a:(List (aB))×Int×Int) (x:Int×(List (aB))):Tm:=⟨.msl 0 2 x.2.length::.dead::.dead::.fn 199 []::.dead::.dead::.dead::.dead::.int .i64 a.2.1::.int .i64 (0:Int)::.dead::.dead::.int .i64 x.1::dd 47 [],[(0,false,[.dead,.arr false 2 x.2.length (gl aA x.2)])],[]⟩
def f234.kills (a:(List (aB))×Int×Int):List Hint:=[.tell (Int×Int×(List (aB))) (f234.S0 a),
 .tell (Int×(List (aB))) (f234.S1 a)]
def f234.cuts (a:(List (aB))×Int×Int):List (Nat×Σ β:Type,β→Tm):=[(999999,⟨Unit,fun x=>⟨[],[],[]⟩⟩)]
def f234.af (a:(List (aB))×Int×Int):AF:=AF.mk (.seq (.region [mR 13 0 1,
 mR 8 1 13])
 (.seq (.region [⟨(some 9),1000002,.move,[.c (.int .i64 (0))],none⟩])
 (.seq (.region [mR 14 3 2,
 mR 15 4 1,
 oR 16 5 (.bin .sub) [14,15],
 mR 10 6 16])
 (.seq (.seq (.region [mR 17 7 10,
 ⟨(some 18),1000008,(.bin .sub),[.t 17,.c (.int .i64 (1))],none⟩,
 ⟨(some 19),1000009,(.bin .quo),[.t 18,.c (.int .i64 (2))],none⟩,
 mR 11 10 19])
 (.block 0 (.loopT (Int×Int×(List (aB))) (f234.S0 a) 1000011 1000025 (.seq (.seq (.region [mR 20 11 11,
 ⟨(some 21),1000012,(.bin .geq),[.t 20,.c (.int .i64 (0))],none⟩])
 (.cond (.t 21) (.skip) (.exit 0)))
 (.seq (.block 1 (.region [mR 24 13 0,
 mR 25 14 11,
 mR 26 15 10,
 mR 27 16 8,
 mR 28 17 3,
 oR 29 18 (.call true 248) [24,25,26,27,28]]))
 (.region [mR 22 22 11,
 ⟨(some 23),1000023,(.bin .sub),[.t 22,.c (.int .i64 (1))],none⟩,
 mR 11 24 23]))))))
 (.seq (.region [mR 30 25 10,
 ⟨(some 31),1000026,(.bin .sub),[.t 30,.c (.int .i64 (1))],none⟩,
 mR 12 27 31])
 (.block 2 (.loopT (Int×(List (aB))) (f234.S1 a) 1000028 1000062 (.seq (.seq (.region [mR 32 28 12,
 ⟨(some 33),1000029,(.bin .geq),[.t 32,.c (.int .i64 (0))],none⟩])
 (.cond (.t 33) (.skip) (.exit 2)))
 (.seq (.block 3 (.seq (.region [mR 36 30 0,
 mR 37 31 8,
 mR 38 32 0,
 mR 39 33 8,
 mR 40 34 12,
 oR 41 35 (.bin .add) [39,40],
 mR 42 36 0,
 mR 43 37 8,
 mR 44 38 12,
 oR 45 39 (.bin .add) [43,44],
 oR 46 40 (.indexAddr 2 none) [42,45],
 oR 47 41 (.load true 2) [46],
 mR 48 42 0,
 mR 49 43 8,
 oR 50 44 (.indexAddr 2 none) [48,49],
 oR 51 45 (.load true 2) [50],
 oR 52 46 (.indexAddr 2 none) [36,37],
 ⟨none,1000047,(.store 2),[.t 52,.t 47],none⟩,
 oR 53 48 (.indexAddr 2 none) [38,41],
 ⟨none,1000049,(.store 2),[.t 53,.t 51],none⟩])
 (.region [mR 54 50 0,
 mR 55 51 9,
 mR 56 52 12,
 mR 57 53 8,
 mR 58 54 3,
 oR 59 55 (.call true 248) [54,55,56,57,58]])))
 (.region [mR 34 59 12,
 ⟨(some 35),1000060,(.bin .sub),[.t 34,.c (.int .i64 (1))],none⟩,
 mR 12 61 35]))))))))))
 [] 1 56
def f234.env:Env:=[(248,f248.C)]
def f234.tree (a:(List (aB))×Int×Int):Prop:=Let (wI (a.2.2 - a.2.1)) (fun v1:Int=>Let (wI (v1 - (1:Int))) (fun v2:Int=>Let (wI (Int.tdiv v2 (2:Int))) (fun v3:Int=>∃ (I5:(Int×Int×(List (aB)))→Prop) (μ6:(Int×Int×(List (aB)))→Nat),(∃ x4:Int×Int×(List (aB)),(a.1.length=x4.2.2.length)∧(DEqs [] [])∧(a.2.1=a.2.1)∧((0:Int)=(0:Int))∧(v1=x4.1)∧(v3=x4.2.1)∧SlQ a.1.length x4.2.2.length (gl aA a.1) (gl aA x4.2.2) (I5 x4))∧∀ y7:Int×Int×(List (aB)),I5 y7→(Br (decide ((0:Int)≤y7.2.1)) ((y7.2.2.length=y7.2.2.length)∧∃ c10:(List (aB))×Int×Int×Int,(y7.2.2.length=List.length c10.1)∧(y7.2.1=c10.2.1)∧(y7.1=c10.2.2.1)∧(a.2.1=c10.2.2.2)∧(DEqs [] [])∧SlQ y7.2.2.length c10.1.length (gl aA y7.2.2) (gl aA c10.1) ((kU c10)∧Let (wI (y7.2.1 - (1:Int))) (fun v12:Int=>∃ x13:Int×Int×(List (aB)),(y7.2.2.length=x13.2.2.length)∧(DEqs [] [])∧(a.2.1=a.2.1)∧((0:Int)=(0:Int))∧(y7.1=x13.1)∧(v12=x13.2.1)∧SlQ (List.length ((eU aJ) c10)) x13.2.2.length (gl aA ((eU aJ) c10)) (gl aA x13.2.2) (I5 x13∧μ6 x13 < μ6 y7)))) (Let (wI (y7.1 - (1:Int))) (fun v19:Int=>∃ (I21:(Int×(List (aB)))→Prop) (μ22:(Int×(List (aB)))→Nat),(∃ x20:Int×(List (aB)),(y7.2.2.length=x20.2.length)∧(DEqs [] [])∧(a.2.1=a.2.1)∧((0:Int)=(0:Int))∧(v19=x20.1)∧SlQ y7.2.2.length x20.2.length (gl aA y7.2.2) (gl aA x20.2) (I21 x20))∧∀ y23:Int×(List (aB)),I21 y23→(Br (decide ((0:Int)≤y23.1)) (Let (wI (a.2.1+y23.1)) (fun v26:Int=>Let (wI (a.2.1+y23.1)) (fun v27:Int=>Br (decide ((0:Int)≤v27)&&decide (v27 < (List.length y23.2:Int))) ((y23.2.length=y23.2.length)∧(Br (decide ((0:Int)≤a.2.1)&&decide (a.2.1 < (List.length y23.2:Int))) ((y23.2.length=y23.2.length)∧(Br (decide ((0:Int)≤a.2.1)&&decide (a.2.1 < (List.length y23.2:Int))) ((y23.2.length=y23.2.length)∧(Br (decide ((0:Int)≤v26)&&decide (v26 < (List.length y23.2:Int))) ((y23.2.length=y23.2.length)∧((y23.2.length=y23.2.length)∧∃ c32:(List (aB))×Int×Int×Int,(y23.2.length=List.length c32.1)∧((0:Int)=c32.2.1)∧(y23.1=c32.2.2.1)∧(a.2.1=c32.2.2.2)∧(DEqs [] [])∧SlQ y23.2.length c32.1.length (gset (gset (gl aA y23.2) (Int.toNat a.2.1) [.str ((at_ y23.2 v27).1),.int .i64 ((at_ y23.2 v27).2)]) (Int.toNat v26) [.str ((at_ y23.2 a.2.1).1),.int .i64 ((at_ y23.2 a.2.1).2)]) (gl aA c32.1) ((kU c32)∧Let (wI (y23.1 - (1:Int))) (fun v34:Int=>∃ x35:Int×(List (aB)),(y23.2.length=x35.2.length)∧(DEqs [] [])∧(a.2.1=a.2.1)∧((0:Int)=(0:Int))∧(v34=x35.1)∧SlQ (List.length ((eU aJ) c32)) x35.2.length (gl aA ((eU aJ) c32)) (gl aA x35.2) (I21 x35∧μ22 x35 < μ22 y23))))) False)) False)) False)) False))) (SlQ y23.2.length (List.length ((mK aJ) a)) (gl aA y23.2) (gl aA ((mK aJ) a)) (True)))))))))
def f234.vc (a:(List (aB))×Int×Int):Prop:=(-9223372036854775808≤(a.2.2 - a.2.1)∧(a.2.2 - a.2.1)≤9223372036854775807∧(-9223372036854775808≤((a.2.2 - a.2.1) - (1:Int))∧((a.2.2 - a.2.1) - (1:Int))≤9223372036854775807∧(0≤((a.2.2 - a.2.1) - (1:Int))∧((a.2.2 - a.2.1) - (1:Int))≤9223372036854775807∧(∃ (I5:(Int×Int×(List (aB)))→Prop) (μ6:(Int×Int×(List (aB)))→Nat),I5 ((a.2.2 - a.2.1),(((a.2.2 - a.2.1) - (1:Int)) / (2:Int)),a.1)∧∀ y7:Int×Int×(List (aB)),I5 y7→(((0:Int)≤y7.2.1→(kU (y7.2.2,y7.2.1,y7.1,a.2.1)∧((List.length ((eU aJ) (y7.2.2,y7.2.1,y7.1,a.2.1)))=y7.2.2.length∧(-9223372036854775808≤(y7.2.1 - (1:Int))∧(y7.2.1 - (1:Int))≤9223372036854775807∧(I5 (y7.1,(y7.2.1 - (1:Int)),((eU aJ) (y7.2.2,y7.2.1,y7.1,a.2.1)))∧μ6 (y7.1,(y7.2.1 - (1:Int)),((eU aJ) (y7.2.2,y7.2.1,y7.1,a.2.1))) < μ6 y7)))))∧(¬((0:Int)≤y7.2.1)→(-9223372036854775808≤(y7.1 - (1:Int))∧(y7.1 - (1:Int))≤9223372036854775807∧(∃ (I21:(Int×(List (aB)))→Prop) (μ22:(Int×(List (aB)))→Nat),I21 ((y7.1 - (1:Int)),y7.2.2)∧∀ y23:Int×(List (aB)),I21 y23→(((0:Int)≤y23.1→(-9223372036854775808≤(a.2.1+y23.1)∧(a.2.1+y23.1)≤9223372036854775807∧(-9223372036854775808≤(a.2.1+y23.1)∧(a.2.1+y23.1)≤9223372036854775807∧((0:Int)≤(a.2.1+y23.1)∧(a.2.1+y23.1) < (List.length y23.2:Int)∧((0:Int)≤a.2.1∧a.2.1 < (List.length y23.2:Int)∧((0:Int)≤a.2.1∧a.2.1 < (List.length y23.2:Int)∧((0:Int)≤(a.2.1+y23.1)∧(a.2.1+y23.1) < (List.length y23.2:Int)∧(kU (List.set (List.set y23.2 (Int.toNat a.2.1) (at_ y23.2 (a.2.1+y23.1))) (Int.toNat (a.2.1+y23.1)) (at_ y23.2 a.2.1),(0:Int),y23.1,a.2.1)∧((List.length ((eU aJ) (List.set (List.set y23.2 (Int.toNat a.2.1) (at_ y23.2 (a.2.1+y23.1))) (Int.toNat (a.2.1+y23.1)) (at_ y23.2 a.2.1),(0:Int),y23.1,a.2.1)))=y23.2.length∧(-9223372036854775808≤(y23.1 - (1:Int))∧(y23.1 - (1:Int))≤9223372036854775807∧(I21 ((y23.1 - (1:Int)),((eU aJ) (List.set (List.set y23.2 (Int.toNat a.2.1) (at_ y23.2 (a.2.1+y23.1))) (Int.toNat (a.2.1+y23.1)) (at_ y23.2 a.2.1),(0:Int),y23.1,a.2.1)))∧μ22 ((y23.1 - (1:Int)),((eU aJ) (List.set (List.set y23.2 (Int.toNat a.2.1) (at_ y23.2 (a.2.1+y23.1))) (Int.toNat (a.2.1+y23.1)) (at_ y23.2 a.2.1),(0:Int),y23.1,a.2.1))) < μ22 y23)))))))))))∧(¬((0:Int)≤y23.1)→(y23.2=(mK aJ) a)))))))))))
theorem f234.of (a:(List (aB))×Int×Int) (h:f234.vc a):f234.tree a:=wrapK.i64 h (fun h68 h69 k70=>wrapK.i64 k70 (fun h65 h66 k67=>divK.i64 k67.1 k67.2.1 (by decide) (Exists.elim k67.2.2 (fun I5 h62_=>Exists.elim h62_ (fun μ6 h62=>⟨I5,μ6,⟨((a.2.2 - a.2.1),(((a.2.2 - a.2.1) - (1:Int)) / (2:Int)),a.1),⟨(bI (gl aA a.1) (rS aA)),⟨(DEqs.refl _),⟨rfl,⟨rfl,⟨rfl,⟨rfl,slQ (rS aA) (h62.1)⟩⟩⟩⟩⟩⟩⟩,fun y7 h64=>br (h62.2 y7 h64) Cnd.dec (fun h8 k60=>⟨rfl,⟨(y7.2.2,y7.2.1,y7.1,a.2.1),⟨(bI (gl aA y7.2.2) (rS aA)),⟨rfl,⟨rfl,⟨rfl,⟨(DEqs.refl _),slQ (rS aA) (⟨k60.1,j5 k60.2 (fun (h11:(List.length ((eU aJ) (y7.2.2,y7.2.1,y7.1,a.2.1)))=y7.2.2.length) hk=>wrapK.i64 hk (fun h15 h16 k17=>⟨(y7.1,(y7.2.1 - (1:Int)),((eU aJ) (y7.2.2,y7.2.1,y7.1,a.2.1))),⟨((h11).symm.trans (bI (gl aA ((eU aJ) (y7.2.2,y7.2.1,y7.1,a.2.1))) (rS aA))),⟨(DEqs.refl _),⟨rfl,⟨rfl,⟨rfl,⟨rfl,slQ (rS aA) (k17)⟩⟩⟩⟩⟩⟩⟩))⟩)⟩⟩⟩⟩⟩⟩⟩) (fun h9 k61=>wrapK.i64 k61 (fun h57 h58 k59=>Exists.elim k59 (fun I21 h54_=>Exists.elim h54_ (fun μ22 h54=>⟨I21,μ22,⟨((y7.1 - (1:Int)),y7.2.2),⟨(bI (gl aA y7.2.2) (rS aA)),⟨(DEqs.refl _),⟨rfl,⟨rfl,⟨rfl,slQ (rS aA) (h54.1)⟩⟩⟩⟩⟩⟩,fun y23 h56=>br (h54.2 y23 h56) Cnd.dec (fun h24 k52=>wrapK.i64 k52 (fun h48 h49 k50=>wrapK.i64 k50 (fun h45 h46 k47=>chk k47.2.2 Cnd.ix ⟨k47.1,k47.2.1⟩ (fun h28 k44=>⟨rfl,chk k44.2.2 Cnd.ix ⟨k44.1,k44.2.1⟩ (fun h29 k43=>⟨rfl,chk k43.2.2 Cnd.ix ⟨k43.1,k43.2.1⟩ (fun h30 k42=>⟨rfl,chk k42.2.2 Cnd.ix ⟨k42.1,k42.2.1⟩ (fun h31 k41=>⟨rfl,⟨rfl,⟨(List.set (List.set y23.2 (Int.toNat a.2.1) (at_ y23.2 (a.2.1+y23.1))) (Int.toNat (a.2.1+y23.1)) (at_ y23.2 a.2.1),(0:Int),y23.1,a.2.1),⟨(bI (gset (gset (gl aA y23.2) (Int.toNat a.2.1) [.str ((at_ y23.2 (a.2.1+y23.1)).1),.int .i64 ((at_ y23.2 (a.2.1+y23.1)).2)]) (Int.toNat (a.2.1+y23.1)) [.str ((at_ y23.2 a.2.1).1),.int .i64 ((at_ y23.2 a.2.1).2)]) (Rds.gset (enc:=aA) (Rds.gset (enc:=aA) (rS aA) (DEqs.refl _)) (DEqs.refl _))),⟨rfl,⟨rfl,⟨rfl,⟨(DEqs.refl _),slQ (Rds.gset (enc:=aA) (Rds.gset (enc:=aA) (rS aA) (DEqs.refl _)) (DEqs.refl _)) (⟨k41.1,j5 k41.2 (fun (h33:(List.length ((eU aJ) (List.set (List.set y23.2 (Int.toNat a.2.1) (at_ y23.2 (a.2.1+y23.1))) (Int.toNat (a.2.1+y23.1)) (at_ y23.2 a.2.1),(0:Int),y23.1,a.2.1)))=y23.2.length) hk=>wrapK.i64 hk (fun h37 h38 k39=>⟨((y23.1 - (1:Int)),((eU aJ) (List.set (List.set y23.2 (Int.toNat a.2.1) (at_ y23.2 (a.2.1+y23.1))) (Int.toNat (a.2.1+y23.1)) (at_ y23.2 a.2.1),(0:Int),y23.1,a.2.1))),⟨((h33).symm.trans (bI (gl aA ((eU aJ) (List.set (List.set y23.2 (Int.toNat a.2.1) (at_ y23.2 (a.2.1+y23.1))) (Int.toNat (a.2.1+y23.1)) (at_ y23.2 a.2.1),(0:Int),y23.1,a.2.1))) (rS aA))),⟨(DEqs.refl _),⟨rfl,⟨rfl,⟨rfl,slQ (rS aA) (k39)⟩⟩⟩⟩⟩⟩))⟩)⟩⟩⟩⟩⟩⟩⟩⟩)⟩)⟩)⟩)))) (fun h25 k53=>slQ (Rds.to (rS aA) k53) (trivial))⟩))))⟩)))))
theorem f234.eq (a:(List (aB))×Int×Int):(f234.af a).gives f234.env (f234.args a) (f234.blks a) (f234.res a) (f234.blks' a)=f234.tree a:=by kernel_rfl
def f235.args (a:(List (aB))×Int×Int):List D:=[.msl 0 2 a.1.length,.int .i64 a.2.1,.int .i64 a.2.2,.fn 199 []]
def f235.blks (a:(List (aB))×Int×Int):List (List D):=[[.dead,.arr false 2 a.1.length (gl aA a.1)]]
def f235.res (a:(List (aB))×Int×Int):List D:=[]
def f235.blks' (a:(List (aB))×Int×Int):List (List D):=[[.dead,.arr false 2 (List.length (fD a)) (gl aA (fD a))]]
def f235.C:aN:=FnC f235.args f235.blks (fun a=>iA a) f235.res f235.blks'
def f235.S0 (a:(List (aB))×Int×Int) (x:Int×Int×Int×(List (aB))×Int):Tm:=⟨.msl 0 2 x.2.2.2.1.length::.int .i64 a.2.1::dd 6 (.int .i64 x.1::.ptr 1000008 0::.int .u64 x.2.1::.int .i64 x.2.2.1::dd 55 []),[(0,false,[.dead,.arr false 2 x.2.2.2.1.length (gl aA x.2.2.2.1)]),(1000008,false,[.int .u64 x.2.2.2.2])],[]⟩
def f235.kills (a:(List (aB))×Int×Int):List Hint:=[.tell (Int×Int×Int×(List (aB))×Int) (f235.S0 a)]
def f235.cuts (a:(List (aB))×Int×Int):List (Nat×Σ β:Type,β→Tm):=[(999999,⟨Unit,fun x=>⟨[],[],[]⟩⟩),
 (100009,⟨Int×Int×Int×Int×(List (aB))×Int,fun x=>⟨.msl 0 2 x.2.2.2.2.1.length::.int .i64 a.2.1::dd 6 (.int .i64 x.1::.ptr 1000008 0::.int .u64 x.2.1::.int .i64 x.2.2.1::.int .i64 x.2.2.2.1::dd 54 []),[(0,false,[.dead,.arr false 2 x.2.2.2.2.1.length (gl aA x.2.2.2.2.1)]),(1000008,false,[.int .u64 x.2.2.2.2.2])],[]⟩⟩)]
def f235.af (a:(List (aB))×Int×Int):AF:=AF.mk (.seq (.region [mR 13 0 2,
 mR 14 1 1,
 oR 15 2 (.bin .sub) [13,14],
 mR 8 3 15])
 (.seq (.region [mR 16 4 8,
 ⟨(some 17),1000005,(.bin .geq),[.t 16,.c (.int .i64 (8))],none⟩])
 (.cond (.t 17) (.seq (.region [mR 18 6 8,
 oR 19 7 (.conv (.int .u64)) [18],
 oR 9 8 (.alloc [.int .u64 (0)]) [],
 ⟨none,1000010,(.store 1),[.t 9,.t 19],none⟩])
 (.seq (.region [mR 20 11 8,
 oR 21 12 (.call false 229) [20],
 mR 10 16 21])
 (.seq (.region [mR 22 17 1,
 mR 23 18 8,
 ⟨(some 24),1000019,(.bin .quo),[.t 23,.c (.int .i64 (4))],none⟩,
 ⟨(some 25),1000020,(.bin .mul),[.t 24,.c (.int .i64 (2))],none⟩,
 oR 26 21 (.bin .add) [22,25],
 ⟨(some 27),1000022,(.bin .sub),[.t 26,.c (.int .i64 (1))],none⟩,
 mR 11 23 27])
 (.block 0 (.loopT (Int×Int×Int×(List (aB))×Int) (f235.S0 a) 1000024 1000071 (.seq (.seq (.region [mR 28 24 11,
 mR 29 25 1,
 mR 30 26 8,
 ⟨(some 31),1000027,(.bin .quo),[.t 30,.c (.int .i64 (4))],none⟩,
 ⟨(some 32),1000028,(.bin .mul),[.t 31,.c (.int .i64 (2))],none⟩,
 oR 33 29 (.bin .add) [29,32],
 ⟨(some 34),1000030,(.bin .add),[.t 33,.c (.int .i64 (1))],none⟩,
 oR 35 31 (.bin .leq) [28,34]])
 (.cond (.t 35) (.skip) (.exit 0)))
 (.seq (.block 1 (.seq (.region [oR 38 32 (.call true 230) [9],
 mR 39 36 10,
 ⟨(some 40),1000037,(.bin .sub),[.t 39,.c (.int .u64 (1))],none⟩,
 oR 41 38 (.bin .and) [38,40],
 oR 42 39 (.conv (.int .i64)) [41],
 mR 12 40 42])
 (.joinT (Int×Int×Int×Int×(List (aB))×Int) (fun x=>⟨.msl 0 2 x.2.2.2.2.1.length::.int .i64 a.2.1::dd 6 (.int .i64 x.1::.ptr 1000008 0::.int .u64 x.2.1::.int .i64 x.2.2.1::.int .i64 x.2.2.2.1::dd 54 []),[(0,false,[.dead,.arr false 2 x.2.2.2.2.1.length (gl aA x.2.2.2.2.1)]),(1000008,false,[.int .u64 x.2.2.2.2.2])],[]⟩) (.seq (.region [mR 43 41 12,
 mR 44 42 8,
 oR 45 43 (.bin .geq) [43,44]])
 (.cond (.t 45) (.region [mR 46 44 12,
 mR 47 45 8,
 oR 48 46 (.bin .sub) [46,47],
 mR 12 47 48]) (.skip)))
 (.region [mR 49 48 0,
 mR 50 49 11,
 mR 51 50 0,
 mR 52 51 1,
 mR 53 52 12,
 oR 54 53 (.bin .add) [52,53],
 mR 55 54 0,
 mR 56 55 1,
 mR 57 56 12,
 oR 58 57 (.bin .add) [56,57],
 oR 59 58 (.indexAddr 2 none) [55,58],
 oR 60 59 (.load true 2) [59],
 mR 61 60 0,
 mR 62 61 11,
 oR 63 62 (.indexAddr 2 none) [61,62],
 oR 64 63 (.load true 2) [63],
 oR 65 64 (.indexAddr 2 none) [49,50],
 ⟨none,1000065,(.store 2),[.t 65,.t 60],none⟩,
 oR 66 66 (.indexAddr 2 none) [51,54],
 ⟨none,1000067,(.store 2),[.t 66,.t 64],none⟩]))))
 (.region [mR 36 68 11,
 ⟨(some 37),1000069,(.bin .add),[.t 36,.c (.int .i64 (1))],none⟩,
 mR 11 70 37])))))))) (.skip))))
 [] 1 63
def f235.env:Env:=[(229,f229.C),(230,f230.C)]
def f235.tree (a:(List (aB))×Int×Int):Prop:=Let (wI (a.2.2 - a.2.1)) (fun v1:Int=>Br (decide ((8:Int)≤v1)) (Let (IntKind.u64.wrap v1) (fun v4:Int=>∃ c5:Int,(v1=c5)∧(rC c5)∧Let (wI (Int.tdiv v1 (4:Int))) (fun v6:Int=>Let (wI (v6 * (2:Int))) (fun v7:Int=>Let (wI (a.2.1+v7)) (fun v8:Int=>Let (wI (v8 - (1:Int))) (fun v9:Int=>∃ (I11:(Int×Int×Int×(List (aB))×Int)→Prop) (μ12:(Int×Int×Int×(List (aB))×Int)→Nat),(∃ x10:Int×Int×Int×(List (aB))×Int,(a.1.length=x10.2.2.2.1.length)∧(a.2.1=a.2.1)∧(v1=x10.1)∧((mP c5)=x10.2.1)∧(v9=x10.2.2.1)∧SlQ a.1.length x10.2.2.2.1.length (gl aA a.1) (gl aA x10.2.2.2.1) ((v4=x10.2.2.2.2)∧I11 x10))∧∀ y13:Int×Int×Int×(List (aB))×Int,I11 y13→(Let (wI (Int.tdiv y13.1 (4:Int))) (fun v14:Int=>Let (wI (v14 * (2:Int))) (fun v15:Int=>Let (wI (a.2.1+v15)) (fun v16:Int=>Let (wI (v16+(1:Int))) (fun v17:Int=>Br (decide (y13.2.2.1≤v17)) (∃ c20:Int,(y13.2.2.2.2=c20)∧(oL c20)∧Let (IntKind.u64.wrap (y13.2.1 - (1:Int))) (fun v21:Int=>Let (wI (IntKind.u64.wrap ((BitVec.ofInt 64 ((eT c20).1) &&& BitVec.ofInt 64 v21).toNat:Int))) (fun v22:Int=>∃ I23:(Int×Int×Int×Int×(List (aB))×Int)→Prop,(Br (decide (y13.1≤v22)) (Let (wI (v22 - y13.1)) (fun v26:Int=>∃ x27:Int×Int×Int×Int×(List (aB))×Int,(y13.2.2.2.1.length=x27.2.2.2.2.1.length)∧(a.2.1=a.2.1)∧(y13.1=x27.1)∧(y13.2.1=x27.2.1)∧(y13.2.2.1=x27.2.2.1)∧(v26=x27.2.2.2.1)∧SlQ y13.2.2.2.1.length x27.2.2.2.2.1.length (gl aA y13.2.2.2.1) (gl aA x27.2.2.2.2.1) ((((eT c20).2)=x27.2.2.2.2.2)∧I23 x27))) (∃ x31:Int×Int×Int×Int×(List (aB))×Int,(y13.2.2.2.1.length=x31.2.2.2.2.1.length)∧(a.2.1=a.2.1)∧(y13.1=x31.1)∧(y13.2.1=x31.2.1)∧(y13.2.2.1=x31.2.2.1)∧(v22=x31.2.2.2.1)∧SlQ y13.2.2.2.1.length x31.2.2.2.2.1.length (gl aA y13.2.2.2.1) (gl aA x31.2.2.2.2.1) ((((eT c20).2)=x31.2.2.2.2.2)∧I23 x31)))∧∀ y34:Int×Int×Int×Int×(List (aB))×Int,I23 y34→(Let (wI (a.2.1+y34.2.2.2.1)) (fun v37:Int=>Let (wI (a.2.1+y34.2.2.2.1)) (fun v38:Int=>Br (decide ((0:Int)≤v38)&&decide (v38 < (List.length y34.2.2.2.2.1:Int))) ((y34.2.2.2.2.1.length=y34.2.2.2.2.1.length)∧(Br (decide ((0:Int)≤y34.2.2.1)&&decide (y34.2.2.1 < (List.length y34.2.2.2.2.1:Int))) ((y34.2.2.2.2.1.length=y34.2.2.2.2.1.length)∧(Br (decide ((0:Int)≤y34.2.2.1)&&decide (y34.2.2.1 < (List.length y34.2.2.2.2.1:Int))) ((y34.2.2.2.2.1.length=y34.2.2.2.2.1.length)∧(Br (decide ((0:Int)≤v37)&&decide (v37 < (List.length y34.2.2.2.2.1:Int))) ((y34.2.2.2.2.1.length=y34.2.2.2.2.1.length)∧(Let (wI (y34.2.2.1+(1:Int))) (fun v43:Int=>∃ x44:Int×Int×Int×(List (aB))×Int,(y34.2.2.2.2.1.length=x44.2.2.2.1.length)∧(a.2.1=a.2.1)∧(y34.1=x44.1)∧(y34.2.1=x44.2.1)∧(v43=x44.2.2.1)∧SlQ y34.2.2.2.2.1.length x44.2.2.2.1.length (gset (gset (gl aA y34.2.2.2.2.1) (Int.toNat y34.2.2.1) [.str ((at_ y34.2.2.2.2.1 v38).1),.int .i64 ((at_ y34.2.2.2.2.1 v38).2)]) (Int.toNat v37) [.str ((at_ y34.2.2.2.2.1 y34.2.2.1).1),.int .i64 ((at_ y34.2.2.2.2.1 y34.2.2.1).2)]) (gl aA x44.2.2.2.1) ((y34.2.2.2.2.2=x44.2.2.2.2)∧I11 x44∧μ12 x44 < μ12 y13)))) False)) False)) False)) False)))))) (SlQ y13.2.2.2.1.length (List.length (fD a)) (gl aA y13.2.2.2.1) (gl aA (fD a)) (True))))))))))))) (SlQ a.1.length (List.length (fD a)) (gl aA a.1) (gl aA (fD a)) (True)))
def f235.vc (a:(List (aB))×Int×Int):Prop:=(-9223372036854775808≤(a.2.2 - a.2.1)∧(a.2.2 - a.2.1)≤9223372036854775807∧(((8:Int)≤(a.2.2 - a.2.1)→(0≤(a.2.2 - a.2.1)∧(a.2.2 - a.2.1)≤18446744073709551615∧(rC (a.2.2 - a.2.1)∧(0≤(a.2.2 - a.2.1)∧(a.2.2 - a.2.1)≤9223372036854775807∧(-9223372036854775808≤(((a.2.2 - a.2.1) / (4:Int)) * (2:Int))∧(((a.2.2 - a.2.1) / (4:Int)) * (2:Int))≤9223372036854775807∧(-9223372036854775808≤(a.2.1+(((a.2.2 - a.2.1) / (4:Int)) * (2:Int)))∧(a.2.1+(((a.2.2 - a.2.1) / (4:Int)) * (2:Int)))≤9223372036854775807∧(-9223372036854775808≤((a.2.1+(((a.2.2 - a.2.1) / (4:Int)) * (2:Int))) - (1:Int))∧((a.2.1+(((a.2.2 - a.2.1) / (4:Int)) * (2:Int))) - (1:Int))≤9223372036854775807∧(∃ (I11:(Int×Int×Int×(List (aB))×Int)→Prop) (μ12:(Int×Int×Int×(List (aB))×Int)→Nat),I11 ((a.2.2 - a.2.1),(mP (a.2.2 - a.2.1)),((a.2.1+(((a.2.2 - a.2.1) / (4:Int)) * (2:Int))) - (1:Int)),a.1,(a.2.2 - a.2.1))∧∀ y13:Int×Int×Int×(List (aB))×Int,I11 y13→(0≤y13.1∧y13.1≤9223372036854775807∧(-9223372036854775808≤((y13.1 / (4:Int)) * (2:Int))∧((y13.1 / (4:Int)) * (2:Int))≤9223372036854775807∧(-9223372036854775808≤(a.2.1+((y13.1 / (4:Int)) * (2:Int)))∧(a.2.1+((y13.1 / (4:Int)) * (2:Int)))≤9223372036854775807∧(-9223372036854775808≤((a.2.1+((y13.1 / (4:Int)) * (2:Int)))+(1:Int))∧((a.2.1+((y13.1 / (4:Int)) * (2:Int)))+(1:Int))≤9223372036854775807∧((y13.2.2.1≤((a.2.1+((y13.1 / (4:Int)) * (2:Int)))+(1:Int))→(oL y13.2.2.2.2∧(0≤(y13.2.1 - (1:Int))∧(y13.2.1 - (1:Int))≤18446744073709551615∧(-9223372036854775808≤(IntKind.u64.wrap ((BitVec.ofInt 64 ((eT (y13.2.2.2.2)).1) &&& BitVec.ofInt 64 (y13.2.1 - (1:Int))).toNat:Int))∧(IntKind.u64.wrap ((BitVec.ofInt 64 ((eT (y13.2.2.2.2)).1) &&& BitVec.ofInt 64 (y13.2.1 - (1:Int))).toNat:Int))≤9223372036854775807∧(∃ I23:(Int×Int×Int×Int×(List (aB))×Int)→Prop,(((y13.1≤(IntKind.u64.wrap ((BitVec.ofInt 64 ((eT (y13.2.2.2.2)).1) &&& BitVec.ofInt 64 (y13.2.1 - (1:Int))).toNat:Int))→(-9223372036854775808≤((IntKind.u64.wrap ((BitVec.ofInt 64 ((eT (y13.2.2.2.2)).1) &&& BitVec.ofInt 64 (y13.2.1 - (1:Int))).toNat:Int)) - y13.1)∧((IntKind.u64.wrap ((BitVec.ofInt 64 ((eT (y13.2.2.2.2)).1) &&& BitVec.ofInt 64 (y13.2.1 - (1:Int))).toNat:Int)) - y13.1)≤9223372036854775807∧(I23 (y13.1,y13.2.1,y13.2.2.1,((IntKind.u64.wrap ((BitVec.ofInt 64 ((eT (y13.2.2.2.2)).1) &&& BitVec.ofInt 64 (y13.2.1 - (1:Int))).toNat:Int)) - y13.1),y13.2.2.2.1,(eT (y13.2.2.2.2)).2))))∧(¬(y13.1≤(IntKind.u64.wrap ((BitVec.ofInt 64 ((eT (y13.2.2.2.2)).1) &&& BitVec.ofInt 64 (y13.2.1 - (1:Int))).toNat:Int)))→(I23 (y13.1,y13.2.1,y13.2.2.1,(IntKind.u64.wrap ((BitVec.ofInt 64 ((eT (y13.2.2.2.2)).1) &&& BitVec.ofInt 64 (y13.2.1 - (1:Int))).toNat:Int)),y13.2.2.2.1,(eT (y13.2.2.2.2)).2)))))∧∀ y34:Int×Int×Int×Int×(List (aB))×Int,I23 y34→(-9223372036854775808≤(a.2.1+y34.2.2.2.1)∧(a.2.1+y34.2.2.2.1)≤9223372036854775807∧(-9223372036854775808≤(a.2.1+y34.2.2.2.1)∧(a.2.1+y34.2.2.2.1)≤9223372036854775807∧((0:Int)≤(a.2.1+y34.2.2.2.1)∧(a.2.1+y34.2.2.2.1) < (List.length y34.2.2.2.2.1:Int)∧((0:Int)≤y34.2.2.1∧y34.2.2.1 < (List.length y34.2.2.2.2.1:Int)∧((0:Int)≤y34.2.2.1∧y34.2.2.1 < (List.length y34.2.2.2.2.1:Int)∧((0:Int)≤(a.2.1+y34.2.2.2.1)∧(a.2.1+y34.2.2.2.1) < (List.length y34.2.2.2.2.1:Int)∧(-9223372036854775808≤(y34.2.2.1+(1:Int))∧(y34.2.2.1+(1:Int))≤9223372036854775807∧(I11 (y34.1,y34.2.1,(y34.2.2.1+(1:Int)),List.set (List.set y34.2.2.2.2.1 (Int.toNat y34.2.2.1) (at_ y34.2.2.2.2.1 (a.2.1+y34.2.2.2.1))) (Int.toNat (a.2.1+y34.2.2.2.1)) (at_ y34.2.2.2.2.1 y34.2.2.1),y34.2.2.2.2.2)∧μ12 (y34.1,y34.2.1,(y34.2.2.1+(1:Int)),List.set (List.set y34.2.2.2.2.1 (Int.toNat y34.2.2.1) (at_ y34.2.2.2.2.1 (a.2.1+y34.2.2.2.1))) (Int.toNat (a.2.1+y34.2.2.2.1)) (at_ y34.2.2.2.2.1 y34.2.2.1),y34.2.2.2.2.2) < μ12 y13)))))))))))))∧(¬(y13.2.2.1≤((a.2.1+((y13.1 / (4:Int)) * (2:Int)))+(1:Int)))→(y13.2.2.2.1=fD a)))))))))))))))∧(¬((8:Int)≤(a.2.2 - a.2.1))→(a.1=fD a))))
theorem f235.of (a:(List (aB))×Int×Int) (h:f235.vc a):f235.tree a:=wrapK.i64 h (fun h97 h98 k99=>br k99 Cnd.dec (fun h2 k95=>wrapK.u64 k95 (fun h91 h92 k93=>⟨(a.2.2 - a.2.1),⟨rfl,⟨k93.1,divK.i64 k93.2.1 k93.2.2.1 (by decide) (wrapK.i64 k93.2.2.2 (fun h87 h88 k89=>wrapK.i64 k89 (fun h84 h85 k86=>wrapK.i64 k86 (fun h81 h82 k83=>Exists.elim k83 (fun I11 h78_=>Exists.elim h78_ (fun μ12 h78=>⟨I11,μ12,⟨((a.2.2 - a.2.1),(mP (a.2.2 - a.2.1)),((a.2.1+(((a.2.2 - a.2.1) / (4:Int)) * (2:Int))) - (1:Int)),a.1,(a.2.2 - a.2.1)),⟨(bI (gl aA a.1) (rS aA)),⟨rfl,⟨rfl,⟨rfl,⟨rfl,slQ (rS aA) (⟨rfl,h78.1⟩)⟩⟩⟩⟩⟩⟩,fun y13 h80=>divK.i64 (h78.2 y13 h80).1 (h78.2 y13 h80).2.1 (by decide) (wrapK.i64 ((h78.2 y13 h80).2.2) (fun h75 h76 k77=>wrapK.i64 k77 (fun h72 h73 k74=>wrapK.i64 k74 (fun h69 h70 k71=>br k71 Cnd.dec (fun h18 k67=>⟨y13.2.2.2.2,⟨rfl,⟨k67.1,wrapK.u64 k67.2 (fun h62 h63 k64=>wrapK.i64 k64 (fun h59 h60 k61=>Exists.elim k61 (fun I23 h36=>⟨I23,br h36.1 Cnd.dec (fun h24 k32=>wrapK.i64 k32 (fun h28 h29 k30=>⟨(y13.1,y13.2.1,y13.2.2.1,((IntKind.u64.wrap ((BitVec.ofInt 64 ((eT (y13.2.2.2.2)).1) &&& BitVec.ofInt 64 (y13.2.1 - (1:Int))).toNat:Int)) - y13.1),y13.2.2.2.1,(eT (y13.2.2.2.2)).2),⟨(bI (gl aA y13.2.2.2.1) (rS aA)),⟨rfl,⟨rfl,⟨rfl,⟨rfl,⟨rfl,slQ (rS aA) (⟨rfl,k30⟩)⟩⟩⟩⟩⟩⟩⟩)) (fun h25 k33=>⟨(y13.1,y13.2.1,y13.2.2.1,(IntKind.u64.wrap ((BitVec.ofInt 64 ((eT (y13.2.2.2.2)).1) &&& BitVec.ofInt 64 (y13.2.1 - (1:Int))).toNat:Int)),y13.2.2.2.1,(eT (y13.2.2.2.2)).2),⟨(bI (gl aA y13.2.2.2.1) (rS aA)),⟨rfl,⟨rfl,⟨rfl,⟨rfl,⟨rfl,slQ (rS aA) (⟨rfl,k33⟩)⟩⟩⟩⟩⟩⟩⟩),fun y34 h35=>wrapK.i64 (h36.2 y34 h35) (fun h56 h57 k58=>wrapK.i64 k58 (fun h53 h54 k55=>chk k55.2.2 Cnd.ix ⟨k55.1,k55.2.1⟩ (fun h39 k52=>⟨rfl,chk k52.2.2 Cnd.ix ⟨k52.1,k52.2.1⟩ (fun h40 k51=>⟨rfl,chk k51.2.2 Cnd.ix ⟨k51.1,k51.2.1⟩ (fun h41 k50=>⟨rfl,chk k50.2.2 Cnd.ix ⟨k50.1,k50.2.1⟩ (fun h42 k49=>⟨rfl,wrapK.i64 k49 (fun h46 h47 k48=>⟨(y34.1,y34.2.1,(y34.2.2.1+(1:Int)),List.set (List.set y34.2.2.2.2.1 (Int.toNat y34.2.2.1) (at_ y34.2.2.2.2.1 (a.2.1+y34.2.2.2.1))) (Int.toNat (a.2.1+y34.2.2.2.1)) (at_ y34.2.2.2.2.1 y34.2.2.1),y34.2.2.2.2.2),⟨(bI (gset (gset (gl aA y34.2.2.2.2.1) (Int.toNat y34.2.2.1) [.str ((at_ y34.2.2.2.2.1 (a.2.1+y34.2.2.2.1)).1),.int .i64 ((at_ y34.2.2.2.2.1 (a.2.1+y34.2.2.2.1)).2)]) (Int.toNat (a.2.1+y34.2.2.2.1)) [.str ((at_ y34.2.2.2.2.1 y34.2.2.1).1),.int .i64 ((at_ y34.2.2.2.2.1 y34.2.2.1).2)]) (Rds.gset (enc:=aA) (Rds.gset (enc:=aA) (rS aA) (DEqs.refl _)) (DEqs.refl _))),⟨rfl,⟨rfl,⟨rfl,⟨rfl,slQ (Rds.gset (enc:=aA) (Rds.gset (enc:=aA) (rS aA) (DEqs.refl _)) (DEqs.refl _)) (⟨rfl,k48⟩)⟩⟩⟩⟩⟩⟩)⟩)⟩)⟩)⟩)))⟩)))⟩⟩⟩) (fun h19 k68=>slQ (Rds.to (rS aA) k68) (trivial))))))⟩))))))⟩⟩⟩)) (fun h3 k96=>slQ (Rds.to (rS aA) k96) (trivial)))
theorem f235.eq (a:(List (aB))×Int×Int):(f235.af a).gives f235.env (f235.args a) (f235.blks a) (f235.res a) (f235.blks' a)=f235.tree a:=by kernel_rfl
def f236.args (a:(List (aB))×Int×Int):List D:=[.msl 0 2 a.1.length,.int .i64 a.2.1,.int .i64 a.2.2,.fn 199 []]
def f236.blks (a:(List (aB))×Int×Int):List (List D):=[[.dead,.arr false 2 a.1.length (gl aA a.1)]]
def f236.res (a:(List (aB))×Int×Int):List D:=[.int .i64 (((a9 aJ) a).1),.int .i64 (((a9 aJ) a).2.1)]
def f236.blks' (a:(List (aB))×Int×Int):List (List D):=[[.dead,.arr false 2 (List.length (((a9 aJ) a).2.2)) (gl aA (((a9 aJ) a).2.2))]]
def f236.C:aN:=FnC f236.args f236.blks (fun a=>gG a) f236.res f236.blks'
def f249.args (a:(List (aB))×Int×Int):List D:=[.msl 0 2 a.1.length,.int .i64 a.2.1,.ptr 1 0,.fn 199 []]
def f249.blks (a:(List (aB))×Int×Int):List (List D):=[[.dead,.arr false 2 a.1.length (gl aA a.1)],[.int .i64 a.2.2]]
def f249.res (a:(List (aB))×Int×Int):List D:=[.int .i64 (((aW aJ) a).1)]
def f249.blks' (a:(List (aB))×Int×Int):List (List D):=[[.dead,.arr false 2 (List.length (((aW aJ) a).2.1)) (gl aA (((aW aJ) a).2.1))],[.int .i64 (((aW aJ) a).2.2)]]
def f249.C:aN:=FnC f249.args f249.blks (fun a=>iV a) f249.res f249.blks'
def f250.args (a:(List (aB))×Int×Int×Int×Int):List D:=[.msl 0 2 a.1.length,.int .i64 a.2.1,.int .i64 a.2.2.1,.int .i64 a.2.2.2.1,.ptr 1 0,.fn 199 []]
def f250.blks (a:(List (aB))×Int×Int×Int×Int):List (List D):=[[.dead,.arr false 2 a.1.length (gl aA a.1)],[.int .i64 a.2.2.2.2]]
def f250.res (a:(List (aB))×Int×Int×Int×Int):List D:=[.int .i64 (((f9 aJ) a).1)]
def f250.blks' (a:(List (aB))×Int×Int×Int×Int):List (List D):=[[.dead,.arr false 2 (List.length (((f9 aJ) a).2.1)) (gl aA (((f9 aJ) a).2.1))],[.int .i64 (((f9 aJ) a).2.2)]]
def f250.C:aN:=FnC f250.args f250.blks (fun a=>oF a) f250.res f250.blks'
def f236.kills (a:(List (aB))×Int×Int):List Hint:=[]
def f236.cuts (a:(List (aB))×Int×Int):List (Nat×Σ β:Type,β→Tm):=[(999999,⟨Unit,fun x=>⟨[],[],[]⟩⟩),
 (100008,⟨Int×Int×Int×(List (aB))×Int,fun x=>⟨.msl 0 2 x.2.2.2.1.length::.dead::.dead::.fn 199 []::dd 7 (.ptr 1000006 0::.int .i64 x.1::.int .i64 x.2.1::.int .i64 x.2.2.1::dd 48 []),[(0,false,[.dead,.arr false 2 x.2.2.2.1.length (gl aA x.2.2.2.1)]),(1000006,false,[.int .i64 x.2.2.2.2])],[]⟩⟩),
 (100006,⟨Int×(List (aB))×Int,fun x=>⟨.msl 0 2 x.2.1.length::dd 10 (.ptr 1000006 0::.dead::.int .i64 x.1::dd 49 []),[(0,false,[.dead,.arr false 2 x.2.1.length (gl aA x.2.1)]),(1000006,false,[.int .i64 x.2.2])],[]⟩⟩)]
def f236.af (a:(List (aB))×Int×Int):AF:=AF.mk (.seq (.region [⟨(some 8),1000000,.move,[.c (.int .i64 (0))],none⟩,
 ⟨(some 9),1000001,.move,[.c (.int .i64 (0))],none⟩])
 (.seq (.region [mR 15 2 2,
 mR 16 3 1,
 oR 17 4 (.bin .sub) [15,16],
 mR 10 5 17])
 (.seq (.region [oR 11 6 (.alloc [.int .i64 (0)]) []])
 (.seq (.region [mR 18 8 1,
 mR 19 9 10,
 ⟨(some 20),1000010,(.bin .quo),[.t 19,.c (.int .i64 (4))],none⟩,
 ⟨(some 21),1000011,(.bin .mul),[.t 20,.c (.int .i64 (1))],none⟩,
 oR 22 12 (.bin .add) [18,21],
 mR 12 13 22])
 (.seq (.region [mR 23 14 1,
 mR 24 15 10,
 ⟨(some 25),1000016,(.bin .quo),[.t 24,.c (.int .i64 (4))],none⟩,
 ⟨(some 26),1000017,(.bin .mul),[.t 25,.c (.int .i64 (2))],none⟩,
 oR 27 18 (.bin .add) [23,26],
 mR 13 19 27])
 (.seq (.region [mR 28 20 1,
 mR 29 21 10,
 ⟨(some 30),1000022,(.bin .quo),[.t 29,.c (.int .i64 (4))],none⟩,
 ⟨(some 31),1000023,(.bin .mul),[.t 30,.c (.int .i64 (3))],none⟩,
 oR 32 24 (.bin .add) [28,31],
 mR 14 25 32])
 (.joinT (Int×(List (aB))×Int) (fun x=>⟨.msl 0 2 x.2.1.length::dd 10 (.ptr 1000006 0::.dead::.int .i64 x.1::dd 49 []),[(0,false,[.dead,.arr false 2 x.2.1.length (gl aA x.2.1)]),(1000006,false,[.int .i64 x.2.2])],[]⟩) (.seq (.region [mR 33 26 10,
 ⟨(some 34),1000027,(.bin .geq),[.t 33,.c (.int .i64 (8))],none⟩])
 (.cond (.t 34) (.joinT (Int×Int×Int×(List (aB))×Int) (fun x=>⟨.msl 0 2 x.2.2.2.1.length::.dead::.dead::.fn 199 []::dd 7 (.ptr 1000006 0::.int .i64 x.1::.int .i64 x.2.1::.int .i64 x.2.2.1::dd 48 []),[(0,false,[.dead,.arr false 2 x.2.2.2.1.length (gl aA x.2.2.2.1)]),(1000006,false,[.int .i64 x.2.2.2.2])],[]⟩) (.seq (.region [mR 35 28 10,
 ⟨(some 36),1000029,(.bin .geq),[.t 35,.c (.int .i64 (50))],none⟩])
 (.cond (.t 36) (.seq (.region [mR 37 30 0,
 mR 38 31 12,
 mR 39 32 3,
 oR 40 33 (.call true 249) [37,38,11,39],
 mR 12 37 40])
 (.seq (.region [mR 41 38 0,
 mR 42 39 13,
 mR 43 40 3,
 oR 44 41 (.call true 249) [41,42,11,43],
 mR 13 45 44])
 (.region [mR 45 46 0,
 mR 46 47 14,
 mR 47 48 3,
 oR 48 49 (.call true 249) [45,46,11,47],
 mR 14 53 48]))) (.skip)))
 (.region [mR 49 54 0,
 mR 50 55 12,
 mR 51 56 13,
 mR 52 57 14,
 mR 53 58 3,
 oR 54 59 (.call true 250) [49,50,51,52,11,53],
 mR 13 63 54])) (.skip)))
 (.seq (.region [oR 55 64 (.load false 1) [11]])
 (.block 0 (.seq (.region [⟨(some 58),1000065,(.bin .eql),[.t 55,.c (.int .i64 (0))],none⟩,
 mR 57 66 58])
 (.cond (.t 57) (.seq (.region [mR 59 67 13,
 mR 8 68 59,
 ⟨(some 9),1000069,.move,[.c (.int .i64 (1))],none⟩])
 (.ret)) (.seq (.region [⟨(some 61),1000070,(.bin .eql),[.t 55,.c (.int .i64 (12))],none⟩,
 mR 60 71 61])
 (.cond (.t 60) (.seq (.region [mR 62 72 13,
 mR 8 73 62,
 ⟨(some 9),1000074,.move,[.c (.int .i64 (2))],none⟩])
 (.ret)) (.seq (.region [mR 56 75 13,
 mR 8 76 56,
 ⟨(some 9),1000077,.move,[.c (.int .i64 (0))],none⟩])
 (.ret)))))))))))))))
 [.tmp 8,.tmp 9] 1 59
def f236.env:Env:=[(249,f249.C),(250,f250.C)]
def f236.tree (a:(List (aB))×Int×Int):Prop:=Let (wI (a.2.2 - a.2.1)) (fun v1:Int=>Let (wI (Int.tdiv v1 (4:Int))) (fun v2:Int=>Let (wI (v2 * (1:Int))) (fun v3:Int=>Let (wI (a.2.1+v3)) (fun v4:Int=>Let (wI (Int.tdiv v1 (4:Int))) (fun v5:Int=>Let (wI (v5 * (2:Int))) (fun v6:Int=>Let (wI (a.2.1+v6)) (fun v7:Int=>Let (wI (Int.tdiv v1 (4:Int))) (fun v8:Int=>Let (wI (v8 * (3:Int))) (fun v9:Int=>Let (wI (a.2.1+v9)) (fun v10:Int=>∃ I11:(Int×(List (aB))×Int)→Prop,(Br (decide ((8:Int)≤v1)) (∃ I14:(Int×Int×Int×(List (aB))×Int)→Prop,(Br (decide ((50:Int)≤v1)) ((a.1.length=a.1.length)∧∃ c17:(List (aB))×Int×Int,(a.1.length=List.length c17.1)∧(v4=c17.2.1)∧(DEqs [] [])∧SlQ a.1.length c17.1.length (gl aA a.1) (gl aA c17.1) (((0:Int)=c17.2.2)∧(iV c17)∧(a.1.length=(List.length (((aW aJ) c17).2.1)))∧∃ c19:(List (aB))×Int×Int,(a.1.length=List.length c19.1)∧(v7=c19.2.1)∧(DEqs [] [])∧SlQ (List.length (((aW aJ) c17).2.1)) c19.1.length (gl aA (((aW aJ) c17).2.1)) (gl aA c19.1) (((((aW aJ) c17).2.2)=c19.2.2)∧(iV c19)∧(a.1.length=(List.length (((aW aJ) c19).2.1)))∧∃ c21:(List (aB))×Int×Int,(a.1.length=List.length c21.1)∧(v10=c21.2.1)∧(DEqs [] [])∧SlQ (List.length (((aW aJ) c19).2.1)) c21.1.length (gl aA (((aW aJ) c19).2.1)) (gl aA c21.1) (((((aW aJ) c19).2.2)=c21.2.2)∧(iV c21)∧∃ x23:Int×Int×Int×(List (aB))×Int,(a.1.length=x23.2.2.2.1.length)∧(DEqs [] [])∧((((aW aJ) c17).1)=x23.1)∧((((aW aJ) c19).1)=x23.2.1)∧((((aW aJ) c21).1)=x23.2.2.1)∧SlQ (List.length (((aW aJ) c21).2.1)) x23.2.2.2.1.length (gl aA (((aW aJ) c21).2.1)) (gl aA x23.2.2.2.1) (((((aW aJ) c21).2.2)=x23.2.2.2.2)∧I14 x23))))) (∃ x27:Int×Int×Int×(List (aB))×Int,(a.1.length=x27.2.2.2.1.length)∧(DEqs [] [])∧(v4=x27.1)∧(v7=x27.2.1)∧(v10=x27.2.2.1)∧SlQ a.1.length x27.2.2.2.1.length (gl aA a.1) (gl aA x27.2.2.2.1) (((0:Int)=x27.2.2.2.2)∧I14 x27)))∧∀ y30:Int×Int×Int×(List (aB))×Int,I14 y30→((y30.2.2.2.1.length=y30.2.2.2.1.length)∧∃ c33:(List (aB))×Int×Int×Int×Int,(y30.2.2.2.1.length=List.length c33.1)∧(y30.1=c33.2.1)∧(y30.2.1=c33.2.2.1)∧(y30.2.2.1=c33.2.2.2.1)∧(DEqs [] [])∧SlQ y30.2.2.2.1.length c33.1.length (gl aA y30.2.2.2.1) (gl aA c33.1) ((y30.2.2.2.2=c33.2.2.2.2)∧(oF c33)∧∃ x35:Int×(List (aB))×Int,(y30.2.2.2.1.length=x35.2.1.length)∧((((f9 aJ) c33).1)=x35.1)∧SlQ (List.length (((f9 aJ) c33).2.1)) x35.2.1.length (gl aA (((f9 aJ) c33).2.1)) (gl aA x35.2.1) (((((f9 aJ) c33).2.2)=x35.2.2)∧I11 x35)))) (∃ x37:Int×(List (aB))×Int,(a.1.length=x37.2.1.length)∧(v7=x37.1)∧SlQ a.1.length x37.2.1.length (gl aA a.1) (gl aA x37.2.1) (((0:Int)=x37.2.2)∧I11 x37)))∧∀ y40:Int×(List (aB))×Int,I11 y40→(Br (y40.2.2==(0:Int)) ((y40.1=(((a9 aJ) a).1))∧((1:Int)=(((a9 aJ) a).2.1))∧SlQ y40.2.1.length (List.length (((a9 aJ) a).2.2)) (gl aA y40.2.1) (gl aA (((a9 aJ) a).2.2)) (True)) (Br (y40.2.2==(12:Int)) ((y40.1=(((a9 aJ) a).1))∧((2:Int)=(((a9 aJ) a).2.1))∧SlQ y40.2.1.length (List.length (((a9 aJ) a).2.2)) (gl aA y40.2.1) (gl aA (((a9 aJ) a).2.2)) (True)) ((y40.1=(((a9 aJ) a).1))∧((0:Int)=(((a9 aJ) a).2.1))∧SlQ y40.2.1.length (List.length (((a9 aJ) a).2.2)) (gl aA y40.2.1) (gl aA (((a9 aJ) a).2.2)) (True))))))))))))))
def f236.vc (a:(List (aB))×Int×Int):Prop:=(-9223372036854775808≤(a.2.2 - a.2.1)∧(a.2.2 - a.2.1)≤9223372036854775807∧(0≤(a.2.2 - a.2.1)∧(a.2.2 - a.2.1)≤9223372036854775807∧(-9223372036854775808≤(((a.2.2 - a.2.1) / (4:Int)) * (1:Int))∧(((a.2.2 - a.2.1) / (4:Int)) * (1:Int))≤9223372036854775807∧(-9223372036854775808≤(a.2.1+(((a.2.2 - a.2.1) / (4:Int)) * (1:Int)))∧(a.2.1+(((a.2.2 - a.2.1) / (4:Int)) * (1:Int)))≤9223372036854775807∧(0≤(a.2.2 - a.2.1)∧(a.2.2 - a.2.1)≤9223372036854775807∧(-9223372036854775808≤(((a.2.2 - a.2.1) / (4:Int)) * (2:Int))∧(((a.2.2 - a.2.1) / (4:Int)) * (2:Int))≤9223372036854775807∧(-9223372036854775808≤(a.2.1+(((a.2.2 - a.2.1) / (4:Int)) * (2:Int)))∧(a.2.1+(((a.2.2 - a.2.1) / (4:Int)) * (2:Int)))≤9223372036854775807∧(0≤(a.2.2 - a.2.1)∧(a.2.2 - a.2.1)≤9223372036854775807∧(-9223372036854775808≤(((a.2.2 - a.2.1) / (4:Int)) * (3:Int))∧(((a.2.2 - a.2.1) / (4:Int)) * (3:Int))≤9223372036854775807∧(-9223372036854775808≤(a.2.1+(((a.2.2 - a.2.1) / (4:Int)) * (3:Int)))∧(a.2.1+(((a.2.2 - a.2.1) / (4:Int)) * (3:Int)))≤9223372036854775807∧(∃ I11:(Int×(List (aB))×Int)→Prop,((((8:Int)≤(a.2.2 - a.2.1)→(∃ I14:(Int×Int×Int×(List (aB))×Int)→Prop,((((50:Int)≤(a.2.2 - a.2.1)→(iV (a.1,(a.2.1+(((a.2.2 - a.2.1) / (4:Int)) * (1:Int))),(0:Int))∧((List.length (((aW aJ) (a.1,(a.2.1+(((a.2.2 - a.2.1) / (4:Int)) * (1:Int))),(0:Int))).2.1))=a.1.length∧(iV (((aW aJ) (a.1,(a.2.1+(((a.2.2 - a.2.1) / (4:Int)) * (1:Int))),(0:Int))).2.1,(a.2.1+(((a.2.2 - a.2.1) / (4:Int)) * (2:Int))),((aW aJ) (a.1,(a.2.1+(((a.2.2 - a.2.1) / (4:Int)) * (1:Int))),(0:Int))).2.2)∧((List.length (((aW aJ) (((aW aJ) (a.1,(a.2.1+(((a.2.2 - a.2.1) / (4:Int)) * (1:Int))),(0:Int))).2.1,(a.2.1+(((a.2.2 - a.2.1) / (4:Int)) * (2:Int))),((aW aJ) (a.1,(a.2.1+(((a.2.2 - a.2.1) / (4:Int)) * (1:Int))),(0:Int))).2.2)).2.1))=a.1.length∧(iV (((aW aJ) (((aW aJ) (a.1,(a.2.1+(((a.2.2 - a.2.1) / (4:Int)) * (1:Int))),(0:Int))).2.1,(a.2.1+(((a.2.2 - a.2.1) / (4:Int)) * (2:Int))),((aW aJ) (a.1,(a.2.1+(((a.2.2 - a.2.1) / (4:Int)) * (1:Int))),(0:Int))).2.2)).2.1,(a.2.1+(((a.2.2 - a.2.1) / (4:Int)) * (3:Int))),((aW aJ) (((aW aJ) (a.1,(a.2.1+(((a.2.2 - a.2.1) / (4:Int)) * (1:Int))),(0:Int))).2.1,(a.2.1+(((a.2.2 - a.2.1) / (4:Int)) * (2:Int))),((aW aJ) (a.1,(a.2.1+(((a.2.2 - a.2.1) / (4:Int)) * (1:Int))),(0:Int))).2.2)).2.2)∧((List.length (((aW aJ) (((aW aJ) (((aW aJ) (a.1,(a.2.1+(((a.2.2 - a.2.1) / (4:Int)) * (1:Int))),(0:Int))).2.1,(a.2.1+(((a.2.2 - a.2.1) / (4:Int)) * (2:Int))),((aW aJ) (a.1,(a.2.1+(((a.2.2 - a.2.1) / (4:Int)) * (1:Int))),(0:Int))).2.2)).2.1,(a.2.1+(((a.2.2 - a.2.1) / (4:Int)) * (3:Int))),((aW aJ) (((aW aJ) (a.1,(a.2.1+(((a.2.2 - a.2.1) / (4:Int)) * (1:Int))),(0:Int))).2.1,(a.2.1+(((a.2.2 - a.2.1) / (4:Int)) * (2:Int))),((aW aJ) (a.1,(a.2.1+(((a.2.2 - a.2.1) / (4:Int)) * (1:Int))),(0:Int))).2.2)).2.2)).2.1))=a.1.length∧(I14 (((aW aJ) (a.1,(a.2.1+(((a.2.2 - a.2.1) / (4:Int)) * (1:Int))),(0:Int))).1,((aW aJ) (((aW aJ) (a.1,(a.2.1+(((a.2.2 - a.2.1) / (4:Int)) * (1:Int))),(0:Int))).2.1,(a.2.1+(((a.2.2 - a.2.1) / (4:Int)) * (2:Int))),((aW aJ) (a.1,(a.2.1+(((a.2.2 - a.2.1) / (4:Int)) * (1:Int))),(0:Int))).2.2)).1,((aW aJ) (((aW aJ) (((aW aJ) (a.1,(a.2.1+(((a.2.2 - a.2.1) / (4:Int)) * (1:Int))),(0:Int))).2.1,(a.2.1+(((a.2.2 - a.2.1) / (4:Int)) * (2:Int))),((aW aJ) (a.1,(a.2.1+(((a.2.2 - a.2.1) / (4:Int)) * (1:Int))),(0:Int))).2.2)).2.1,(a.2.1+(((a.2.2 - a.2.1) / (4:Int)) * (3:Int))),((aW aJ) (((aW aJ) (a.1,(a.2.1+(((a.2.2 - a.2.1) / (4:Int)) * (1:Int))),(0:Int))).2.1,(a.2.1+(((a.2.2 - a.2.1) / (4:Int)) * (2:Int))),((aW aJ) (a.1,(a.2.1+(((a.2.2 - a.2.1) / (4:Int)) * (1:Int))),(0:Int))).2.2)).2.2)).1,((aW aJ) (((aW aJ) (((aW aJ) (a.1,(a.2.1+(((a.2.2 - a.2.1) / (4:Int)) * (1:Int))),(0:Int))).2.1,(a.2.1+(((a.2.2 - a.2.1) / (4:Int)) * (2:Int))),((aW aJ) (a.1,(a.2.1+(((a.2.2 - a.2.1) / (4:Int)) * (1:Int))),(0:Int))).2.2)).2.1,(a.2.1+(((a.2.2 - a.2.1) / (4:Int)) * (3:Int))),((aW aJ) (((aW aJ) (a.1,(a.2.1+(((a.2.2 - a.2.1) / (4:Int)) * (1:Int))),(0:Int))).2.1,(a.2.1+(((a.2.2 - a.2.1) / (4:Int)) * (2:Int))),((aW aJ) (a.1,(a.2.1+(((a.2.2 - a.2.1) / (4:Int)) * (1:Int))),(0:Int))).2.2)).2.2)).2.1,((aW aJ) (((aW aJ) (((aW aJ) (a.1,(a.2.1+(((a.2.2 - a.2.1) / (4:Int)) * (1:Int))),(0:Int))).2.1,(a.2.1+(((a.2.2 - a.2.1) / (4:Int)) * (2:Int))),((aW aJ) (a.1,(a.2.1+(((a.2.2 - a.2.1) / (4:Int)) * (1:Int))),(0:Int))).2.2)).2.1,(a.2.1+(((a.2.2 - a.2.1) / (4:Int)) * (3:Int))),((aW aJ) (((aW aJ) (a.1,(a.2.1+(((a.2.2 - a.2.1) / (4:Int)) * (1:Int))),(0:Int))).2.1,(a.2.1+(((a.2.2 - a.2.1) / (4:Int)) * (2:Int))),((aW aJ) (a.1,(a.2.1+(((a.2.2 - a.2.1) / (4:Int)) * (1:Int))),(0:Int))).2.2)).2.2)).2.2)))))))))∧(¬((50:Int)≤(a.2.2 - a.2.1))→(I14 ((a.2.1+(((a.2.2 - a.2.1) / (4:Int)) * (1:Int))),(a.2.1+(((a.2.2 - a.2.1) / (4:Int)) * (2:Int))),(a.2.1+(((a.2.2 - a.2.1) / (4:Int)) * (3:Int))),a.1,(0:Int))))))∧∀ y30:Int×Int×Int×(List (aB))×Int,I14 y30→(oF (y30.2.2.2.1,y30.1,y30.2.1,y30.2.2.1,y30.2.2.2.2)∧((List.length (((f9 aJ) (y30.2.2.2.1,y30.1,y30.2.1,y30.2.2.1,y30.2.2.2.2)).2.1))=y30.2.2.2.1.length∧(I11 (((f9 aJ) (y30.2.2.2.1,y30.1,y30.2.1,y30.2.2.1,y30.2.2.2.2)).1,((f9 aJ) (y30.2.2.2.1,y30.1,y30.2.1,y30.2.2.1,y30.2.2.2.2)).2.1,((f9 aJ) (y30.2.2.2.1,y30.1,y30.2.1,y30.2.2.1,y30.2.2.2.2)).2.2))))))∧(¬((8:Int)≤(a.2.2 - a.2.1))→(I11 ((a.2.1+(((a.2.2 - a.2.1) / (4:Int)) * (2:Int))),a.1,(0:Int))))))∧∀ y40:Int×(List (aB))×Int,I11 y40→((y40.2.2=(0:Int)→((y40.1,(1:Int),y40.2.1)=(a9 aJ) a))∧(¬(y40.2.2=(0:Int))→((y40.2.2=(12:Int)→((y40.1,(2:Int),y40.2.1)=(a9 aJ) a))∧(¬(y40.2.2=(12:Int))→((y40.1,(0:Int),y40.2.1)=(a9 aJ) a))))))))))))))))
theorem f236.of (a:(List (aB))×Int×Int) (h:f236.vc a):f236.tree a:=wrapK.i64 h (fun h72 h73 k74=>divK.i64 k74.1 k74.2.1 (by decide) (wrapK.i64 k74.2.2 (fun h69 h70 k71=>wrapK.i64 k71 (fun h66 h67 k68=>divK.i64 k68.1 k68.2.1 (by decide) (wrapK.i64 k68.2.2 (fun h63 h64 k65=>wrapK.i64 k65 (fun h60 h61 k62=>divK.i64 k62.1 k62.2.1 (by decide) (wrapK.i64 k62.2.2 (fun h57 h58 k59=>wrapK.i64 k59 (fun h54 h55 k56=>Exists.elim k56 (fun I11 h42=>⟨I11,br h42.1 Cnd.dec (fun h12 k38=>Exists.elim k38 (fun I14 h32=>⟨I14,br h32.1 Cnd.dec (fun h15 k28=>⟨rfl,⟨(a.1,(a.2.1+(((a.2.2 - a.2.1) / (4:Int)) * (1:Int))),(0:Int)),⟨(bI (gl aA a.1) (rS aA)),⟨rfl,⟨(DEqs.refl _),slQ (rS aA) (⟨rfl,⟨k28.1,j5 k28.2 (fun (h18:(List.length (((aW aJ) (a.1,(a.2.1+(((a.2.2 - a.2.1) / (4:Int)) * (1:Int))),(0:Int))).2.1))=a.1.length) hk=>⟨(h18).symm,⟨(((aW aJ) (a.1,(a.2.1+(((a.2.2 - a.2.1) / (4:Int)) * (1:Int))),(0:Int))).2.1,(a.2.1+(((a.2.2 - a.2.1) / (4:Int)) * (2:Int))),((aW aJ) (a.1,(a.2.1+(((a.2.2 - a.2.1) / (4:Int)) * (1:Int))),(0:Int))).2.2),⟨((h18).symm.trans (bI (gl aA (((aW aJ) (a.1,(a.2.1+(((a.2.2 - a.2.1) / (4:Int)) * (1:Int))),(0:Int))).2.1)) (rS aA))),⟨rfl,⟨(DEqs.refl _),slQ (rS aA) (⟨rfl,⟨hk.1,j5 hk.2 (fun (h20:(List.length (((aW aJ) (((aW aJ) (a.1,(a.2.1+(((a.2.2 - a.2.1) / (4:Int)) * (1:Int))),(0:Int))).2.1,(a.2.1+(((a.2.2 - a.2.1) / (4:Int)) * (2:Int))),((aW aJ) (a.1,(a.2.1+(((a.2.2 - a.2.1) / (4:Int)) * (1:Int))),(0:Int))).2.2)).2.1))=a.1.length) hk=>⟨(h20).symm,⟨(((aW aJ) (((aW aJ) (a.1,(a.2.1+(((a.2.2 - a.2.1) / (4:Int)) * (1:Int))),(0:Int))).2.1,(a.2.1+(((a.2.2 - a.2.1) / (4:Int)) * (2:Int))),((aW aJ) (a.1,(a.2.1+(((a.2.2 - a.2.1) / (4:Int)) * (1:Int))),(0:Int))).2.2)).2.1,(a.2.1+(((a.2.2 - a.2.1) / (4:Int)) * (3:Int))),((aW aJ) (((aW aJ) (a.1,(a.2.1+(((a.2.2 - a.2.1) / (4:Int)) * (1:Int))),(0:Int))).2.1,(a.2.1+(((a.2.2 - a.2.1) / (4:Int)) * (2:Int))),((aW aJ) (a.1,(a.2.1+(((a.2.2 - a.2.1) / (4:Int)) * (1:Int))),(0:Int))).2.2)).2.2),⟨((h20).symm.trans (bI (gl aA (((aW aJ) (((aW aJ) (a.1,(a.2.1+(((a.2.2 - a.2.1) / (4:Int)) * (1:Int))),(0:Int))).2.1,(a.2.1+(((a.2.2 - a.2.1) / (4:Int)) * (2:Int))),((aW aJ) (a.1,(a.2.1+(((a.2.2 - a.2.1) / (4:Int)) * (1:Int))),(0:Int))).2.2)).2.1)) (rS aA))),⟨rfl,⟨(DEqs.refl _),slQ (rS aA) (⟨rfl,⟨hk.1,j5 hk.2 (fun (h22:(List.length (((aW aJ) (((aW aJ) (((aW aJ) (a.1,(a.2.1+(((a.2.2 - a.2.1) / (4:Int)) * (1:Int))),(0:Int))).2.1,(a.2.1+(((a.2.2 - a.2.1) / (4:Int)) * (2:Int))),((aW aJ) (a.1,(a.2.1+(((a.2.2 - a.2.1) / (4:Int)) * (1:Int))),(0:Int))).2.2)).2.1,(a.2.1+(((a.2.2 - a.2.1) / (4:Int)) * (3:Int))),((aW aJ) (((aW aJ) (a.1,(a.2.1+(((a.2.2 - a.2.1) / (4:Int)) * (1:Int))),(0:Int))).2.1,(a.2.1+(((a.2.2 - a.2.1) / (4:Int)) * (2:Int))),((aW aJ) (a.1,(a.2.1+(((a.2.2 - a.2.1) / (4:Int)) * (1:Int))),(0:Int))).2.2)).2.2)).2.1))=a.1.length) hk=>⟨(((aW aJ) (a.1,(a.2.1+(((a.2.2 - a.2.1) / (4:Int)) * (1:Int))),(0:Int))).1,((aW aJ) (((aW aJ) (a.1,(a.2.1+(((a.2.2 - a.2.1) / (4:Int)) * (1:Int))),(0:Int))).2.1,(a.2.1+(((a.2.2 - a.2.1) / (4:Int)) * (2:Int))),((aW aJ) (a.1,(a.2.1+(((a.2.2 - a.2.1) / (4:Int)) * (1:Int))),(0:Int))).2.2)).1,((aW aJ) (((aW aJ) (((aW aJ) (a.1,(a.2.1+(((a.2.2 - a.2.1) / (4:Int)) * (1:Int))),(0:Int))).2.1,(a.2.1+(((a.2.2 - a.2.1) / (4:Int)) * (2:Int))),((aW aJ) (a.1,(a.2.1+(((a.2.2 - a.2.1) / (4:Int)) * (1:Int))),(0:Int))).2.2)).2.1,(a.2.1+(((a.2.2 - a.2.1) / (4:Int)) * (3:Int))),((aW aJ) (((aW aJ) (a.1,(a.2.1+(((a.2.2 - a.2.1) / (4:Int)) * (1:Int))),(0:Int))).2.1,(a.2.1+(((a.2.2 - a.2.1) / (4:Int)) * (2:Int))),((aW aJ) (a.1,(a.2.1+(((a.2.2 - a.2.1) / (4:Int)) * (1:Int))),(0:Int))).2.2)).2.2)).1,((aW aJ) (((aW aJ) (((aW aJ) (a.1,(a.2.1+(((a.2.2 - a.2.1) / (4:Int)) * (1:Int))),(0:Int))).2.1,(a.2.1+(((a.2.2 - a.2.1) / (4:Int)) * (2:Int))),((aW aJ) (a.1,(a.2.1+(((a.2.2 - a.2.1) / (4:Int)) * (1:Int))),(0:Int))).2.2)).2.1,(a.2.1+(((a.2.2 - a.2.1) / (4:Int)) * (3:Int))),((aW aJ) (((aW aJ) (a.1,(a.2.1+(((a.2.2 - a.2.1) / (4:Int)) * (1:Int))),(0:Int))).2.1,(a.2.1+(((a.2.2 - a.2.1) / (4:Int)) * (2:Int))),((aW aJ) (a.1,(a.2.1+(((a.2.2 - a.2.1) / (4:Int)) * (1:Int))),(0:Int))).2.2)).2.2)).2.1,((aW aJ) (((aW aJ) (((aW aJ) (a.1,(a.2.1+(((a.2.2 - a.2.1) / (4:Int)) * (1:Int))),(0:Int))).2.1,(a.2.1+(((a.2.2 - a.2.1) / (4:Int)) * (2:Int))),((aW aJ) (a.1,(a.2.1+(((a.2.2 - a.2.1) / (4:Int)) * (1:Int))),(0:Int))).2.2)).2.1,(a.2.1+(((a.2.2 - a.2.1) / (4:Int)) * (3:Int))),((aW aJ) (((aW aJ) (a.1,(a.2.1+(((a.2.2 - a.2.1) / (4:Int)) * (1:Int))),(0:Int))).2.1,(a.2.1+(((a.2.2 - a.2.1) / (4:Int)) * (2:Int))),((aW aJ) (a.1,(a.2.1+(((a.2.2 - a.2.1) / (4:Int)) * (1:Int))),(0:Int))).2.2)).2.2)).2.2),⟨((h22).symm.trans (bI (gl aA (((aW aJ) (((aW aJ) (((aW aJ) (a.1,(a.2.1+(((a.2.2 - a.2.1) / (4:Int)) * (1:Int))),(0:Int))).2.1,(a.2.1+(((a.2.2 - a.2.1) / (4:Int)) * (2:Int))),((aW aJ) (a.1,(a.2.1+(((a.2.2 - a.2.1) / (4:Int)) * (1:Int))),(0:Int))).2.2)).2.1,(a.2.1+(((a.2.2 - a.2.1) / (4:Int)) * (3:Int))),((aW aJ) (((aW aJ) (a.1,(a.2.1+(((a.2.2 - a.2.1) / (4:Int)) * (1:Int))),(0:Int))).2.1,(a.2.1+(((a.2.2 - a.2.1) / (4:Int)) * (2:Int))),((aW aJ) (a.1,(a.2.1+(((a.2.2 - a.2.1) / (4:Int)) * (1:Int))),(0:Int))).2.2)).2.2)).2.1)) (rS aA))),⟨(DEqs.refl _),⟨rfl,⟨rfl,⟨rfl,slQ (rS aA) (⟨rfl,hk⟩)⟩⟩⟩⟩⟩⟩)⟩⟩)⟩⟩⟩⟩⟩)⟩⟩)⟩⟩⟩⟩⟩)⟩⟩)⟩⟩⟩⟩⟩) (fun h16 k29=>⟨((a.2.1+(((a.2.2 - a.2.1) / (4:Int)) * (1:Int))),(a.2.1+(((a.2.2 - a.2.1) / (4:Int)) * (2:Int))),(a.2.1+(((a.2.2 - a.2.1) / (4:Int)) * (3:Int))),a.1,(0:Int)),⟨(bI (gl aA a.1) (rS aA)),⟨(DEqs.refl _),⟨rfl,⟨rfl,⟨rfl,slQ (rS aA) (⟨rfl,k29⟩)⟩⟩⟩⟩⟩⟩),fun y30 h31=>⟨rfl,⟨(y30.2.2.2.1,y30.1,y30.2.1,y30.2.2.1,y30.2.2.2.2),⟨(bI (gl aA y30.2.2.2.1) (rS aA)),⟨rfl,⟨rfl,⟨rfl,⟨(DEqs.refl _),slQ (rS aA) (⟨rfl,⟨(h32.2 y30 h31).1,j5 ((h32.2 y30 h31).2) (fun (h34:(List.length (((f9 aJ) (y30.2.2.2.1,y30.1,y30.2.1,y30.2.2.1,y30.2.2.2.2)).2.1))=y30.2.2.2.1.length) hk=>⟨(((f9 aJ) (y30.2.2.2.1,y30.1,y30.2.1,y30.2.2.1,y30.2.2.2.2)).1,((f9 aJ) (y30.2.2.2.1,y30.1,y30.2.1,y30.2.2.1,y30.2.2.2.2)).2.1,((f9 aJ) (y30.2.2.2.1,y30.1,y30.2.1,y30.2.2.1,y30.2.2.2.2)).2.2),⟨((h34).symm.trans (bI (gl aA (((f9 aJ) (y30.2.2.2.1,y30.1,y30.2.1,y30.2.2.1,y30.2.2.2.2)).2.1)) (rS aA))),⟨rfl,slQ (rS aA) (⟨rfl,hk⟩)⟩⟩⟩)⟩⟩)⟩⟩⟩⟩⟩⟩⟩⟩)) (fun h13 k39=>⟨((a.2.1+(((a.2.2 - a.2.1) / (4:Int)) * (2:Int))),a.1,(0:Int)),⟨(bI (gl aA a.1) (rS aA)),⟨rfl,slQ (rS aA) (⟨rfl,k39⟩)⟩⟩⟩),fun y40 h41=>br (h42.2 y40 h41) Cnd.eq (fun h43 k52=>⟨(congrArg (fun x:Int×Int×(List (aB))=>x.1) k52 :),⟨(congrArg (fun x:Int×Int×(List (aB))=>x.2.1) k52 :),slQ (Rds.to (rS aA) (congrArg (fun x:Int×Int×(List (aB))=>x.2.2) k52 :)) (trivial)⟩⟩) (fun h44 k53=>br k53 Cnd.eq (fun h46 k50=>⟨(congrArg (fun x:Int×Int×(List (aB))=>x.1) k50 :),⟨(congrArg (fun x:Int×Int×(List (aB))=>x.2.1) k50 :),slQ (Rds.to (rS aA) (congrArg (fun x:Int×Int×(List (aB))=>x.2.2) k50 :)) (trivial)⟩⟩) (fun h47 k51=>⟨(congrArg (fun x:Int×Int×(List (aB))=>x.1) k51 :),⟨(congrArg (fun x:Int×Int×(List (aB))=>x.2.1) k51 :),slQ (Rds.to (rS aA) (congrArg (fun x:Int×Int×(List (aB))=>x.2.2) k51 :)) (trivial)⟩⟩))⟩)))))))))))
theorem f236.eq (a:(List (aB))×Int×Int):(f236.af a).gives f236.env (f236.args a) (f236.blks a) (f236.res a) (f236.blks' a)=f236.tree a:=by kernel_rfl
def f237.args (a:(List (aB))×Int×Int):List D:=[.msl 0 2 a.1.length,.int .i64 a.2.1,.int .i64 a.2.2,.fn 199 []]
def f237.blks (a:(List (aB))×Int×Int):List (List D):=[[.dead,.arr false 2 a.1.length (gl aA a.1)]]
def f237.res (a:(List (aB))×Int×Int):List D:=[]
def f237.blks' (a:(List (aB))×Int×Int):List (List D):=[[.dead,.arr false 2 (List.length (qL a)) (gl aA (qL a))]]
def f237.C:aN:=FnC f237.args f237.blks (fun a=>iA a) f237.res f237.blks'
def f237.S0 (a:(List (aB))×Int×Int) (x:Int×Int×(List (aB))):Tm:=⟨.msl 0 2 x.2.2.length::dd 7 (.int .i64 x.1::.int .i64 x.2.1::dd 24 []),[(0,false,[.dead,.arr false 2 x.2.2.length (gl aA x.2.2)])],[]⟩
def f237.kills (a:(List (aB))×Int×Int):List Hint:=[.tell (Int×Int×(List (aB))) (f237.S0 a)]
def f237.cuts (a:(List (aB))×Int×Int):List (Nat×Σ β:Type,β→Tm):=[(999999,⟨Unit,fun x=>⟨[],[],[]⟩⟩)]
def f237.af (a:(List (aB))×Int×Int):AF:=AF.mk (.seq (.region [mR 10 0 1,
 mR 8 1 10])
 (.seq (.region [mR 11 2 2,
 ⟨(some 12),1000003,(.bin .sub),[.t 11,.c (.int .i64 (1))],none⟩,
 mR 9 4 12])
 (.block 0 (.loopT (Int×Int×(List (aB))) (f237.S0 a) 1000005 1000030 (.seq (.seq (.region [mR 13 5 8,
 mR 14 6 9,
 oR 15 7 (.bin .lss) [13,14]])
 (.cond (.t 15) (.skip) (.exit 0)))
 (.block 1 (.seq (.region [mR 16 8 0,
 mR 17 9 8,
 mR 18 10 0,
 mR 19 11 9,
 mR 20 12 0,
 mR 21 13 9,
 oR 22 14 (.indexAddr 2 none) [20,21],
 oR 23 15 (.load true 2) [22],
 mR 24 16 0,
 mR 25 17 8,
 oR 26 18 (.indexAddr 2 none) [24,25],
 oR 27 19 (.load true 2) [26],
 oR 28 20 (.indexAddr 2 none) [16,17],
 ⟨none,1000021,(.store 2),[.t 28,.t 23],none⟩,
 oR 29 22 (.indexAddr 2 none) [18,19],
 ⟨none,1000023,(.store 2),[.t 29,.t 27],none⟩])
 (.seq (.region [mR 30 24 8,
 ⟨(some 31),1000025,(.bin .add),[.t 30,.c (.int .i64 (1))],none⟩,
 mR 8 26 31])
 (.region [mR 32 27 9,
 ⟨(some 33),1000028,(.bin .sub),[.t 32,.c (.int .i64 (1))],none⟩,
 mR 9 29 33])))))))))
 [] 1 30
def f237.env:Env:=[]
def f237.tree (a:(List (aB))×Int×Int):Prop:=Let (wI (a.2.2 - (1:Int))) (fun v1:Int=>∃ (I3:(Int×Int×(List (aB)))→Prop) (μ4:(Int×Int×(List (aB)))→Nat),(∃ x2:Int×Int×(List (aB)),(a.1.length=x2.2.2.length)∧(a.2.1=x2.1)∧(v1=x2.2.1)∧SlQ a.1.length x2.2.2.length (gl aA a.1) (gl aA x2.2.2) (I3 x2))∧∀ y5:Int×Int×(List (aB)),I3 y5→(Br (decide (y5.1 < y5.2.1)) (Br (decide ((0:Int)≤y5.2.1)&&decide (y5.2.1 < (List.length y5.2.2:Int))) ((y5.2.2.length=y5.2.2.length)∧(Br (decide ((0:Int)≤y5.1)&&decide (y5.1 < (List.length y5.2.2:Int))) ((y5.2.2.length=y5.2.2.length)∧(Br (decide ((0:Int)≤y5.1)&&decide (y5.1 < (List.length y5.2.2:Int))) ((y5.2.2.length=y5.2.2.length)∧(Br (decide ((0:Int)≤y5.2.1)&&decide (y5.2.1 < (List.length y5.2.2:Int))) ((y5.2.2.length=y5.2.2.length)∧(Let (wI (y5.1+(1:Int))) (fun v12:Int=>Let (wI (y5.2.1 - (1:Int))) (fun v13:Int=>∃ x14:Int×Int×(List (aB)),(y5.2.2.length=x14.2.2.length)∧(v12=x14.1)∧(v13=x14.2.1)∧SlQ y5.2.2.length x14.2.2.length (gset (gset (gl aA y5.2.2) (Int.toNat y5.1) [.str ((at_ y5.2.2 y5.2.1).1),.int .i64 ((at_ y5.2.2 y5.2.1).2)]) (Int.toNat y5.2.1) [.str ((at_ y5.2.2 y5.1).1),.int .i64 ((at_ y5.2.2 y5.1).2)]) (gl aA x14.2.2) (I3 x14∧μ4 x14 < μ4 y5))))) False)) False)) False)) False) (SlQ y5.2.2.length (List.length (qL a)) (gl aA y5.2.2) (gl aA (qL a)) (True))))
def f237.vc (a:(List (aB))×Int×Int):Prop:=(-9223372036854775808≤(a.2.2 - (1:Int))∧(a.2.2 - (1:Int))≤9223372036854775807∧(∃ (I3:(Int×Int×(List (aB)))→Prop) (μ4:(Int×Int×(List (aB)))→Nat),I3 (a.2.1,(a.2.2 - (1:Int)),a.1)∧∀ y5:Int×Int×(List (aB)),I3 y5→((y5.1 < y5.2.1→((0:Int)≤y5.2.1∧y5.2.1 < (List.length y5.2.2:Int)∧((0:Int)≤y5.1∧y5.1 < (List.length y5.2.2:Int)∧((0:Int)≤y5.1∧y5.1 < (List.length y5.2.2:Int)∧((0:Int)≤y5.2.1∧y5.2.1 < (List.length y5.2.2:Int)∧(-9223372036854775808≤(y5.1+(1:Int))∧(y5.1+(1:Int))≤9223372036854775807∧(-9223372036854775808≤(y5.2.1 - (1:Int))∧(y5.2.1 - (1:Int))≤9223372036854775807∧(I3 ((y5.1+(1:Int)),(y5.2.1 - (1:Int)),List.set (List.set y5.2.2 (Int.toNat y5.1) (at_ y5.2.2 y5.2.1)) (Int.toNat y5.2.1) (at_ y5.2.2 y5.1))∧μ4 ((y5.1+(1:Int)),(y5.2.1 - (1:Int)),List.set (List.set y5.2.2 (Int.toNat y5.1) (at_ y5.2.2 y5.2.1)) (Int.toNat y5.2.1) (at_ y5.2.2 y5.1)) < μ4 y5))))))))∧(¬(y5.1 < y5.2.1)→(y5.2.2=qL a)))))
theorem f237.of (a:(List (aB))×Int×Int) (h:f237.vc a):f237.tree a:=wrapK.i64 h (fun h32 h33 k34=>Exists.elim k34 (fun I3 h29_=>Exists.elim h29_ (fun μ4 h29=>⟨I3,μ4,⟨(a.2.1,(a.2.2 - (1:Int)),a.1),⟨(bI (gl aA a.1) (rS aA)),⟨rfl,⟨rfl,slQ (rS aA) (h29.1)⟩⟩⟩⟩,fun y5 h31=>br (h29.2 y5 h31) Cnd.dec (fun h6 k27=>chk k27.2.2 Cnd.ix ⟨k27.1,k27.2.1⟩ (fun h8 k25=>⟨rfl,chk k25.2.2 Cnd.ix ⟨k25.1,k25.2.1⟩ (fun h9 k24=>⟨rfl,chk k24.2.2 Cnd.ix ⟨k24.1,k24.2.1⟩ (fun h10 k23=>⟨rfl,chk k23.2.2 Cnd.ix ⟨k23.1,k23.2.1⟩ (fun h11 k22=>⟨rfl,wrapK.i64 k22 (fun h19 h20 k21=>wrapK.i64 k21 (fun h16 h17 k18=>⟨((y5.1+(1:Int)),(y5.2.1 - (1:Int)),List.set (List.set y5.2.2 (Int.toNat y5.1) (at_ y5.2.2 y5.2.1)) (Int.toNat y5.2.1) (at_ y5.2.2 y5.1)),⟨(bI (gset (gset (gl aA y5.2.2) (Int.toNat y5.1) [.str ((at_ y5.2.2 y5.2.1).1),.int .i64 ((at_ y5.2.2 y5.2.1).2)]) (Int.toNat y5.2.1) [.str ((at_ y5.2.2 y5.1).1),.int .i64 ((at_ y5.2.2 y5.1).2)]) (Rds.gset (enc:=aA) (Rds.gset (enc:=aA) (rS aA) (DEqs.refl _)) (DEqs.refl _))),⟨rfl,⟨rfl,slQ (Rds.gset (enc:=aA) (Rds.gset (enc:=aA) (rS aA) (DEqs.refl _)) (DEqs.refl _)) (k18)⟩⟩⟩⟩))⟩)⟩)⟩)⟩)) (fun h7 k28=>slQ (Rds.to (rS aA) k28) (trivial))⟩)))
theorem f237.eq (a:(List (aB))×Int×Int):(f237.af a).gives f237.env (f237.args a) (f237.blks a) (f237.res a) (f237.blks' a)=f237.tree a:=by kernel_rfl
def f238.args (a:(List (aB))×Int×Int):List D:=[.msl 0 2 a.1.length,.int .i64 a.2.1,.int .i64 a.2.2,.fn 199 []]
def f238.blks (a:(List (aB))×Int×Int):List (List D):=[[.dead,.arr false 2 a.1.length (gl aA a.1)]]
def f238.res (a:(List (aB))×Int×Int):List D:=[.bool (((bR aJ) a).1)]
def f238.blks' (a:(List (aB))×Int×Int):List (List D):=[[.dead,.arr false 2 (List.length (((bR aJ) a).2)) (gl aA (((bR aJ) a).2))]]
def f238.C:aN:=FnC f238.args f238.blks (fun a=>gG a) f238.res f238.blks'
def f238.S0 (a:(List (aB))×Int×Int) (x:Int×Int×(List (aB))):Tm:=⟨.msl 0 2 x.2.2.length::.int .i64 a.2.1::.int .i64 a.2.2::.fn 199 []::.dead::.dead::.dead::.dead::.dead::.int .i64 x.1::.int .i64 x.2.1::dd 130 [],[(0,false,[.dead,.arr false 2 x.2.2.length (gl aA x.2.2)])],[]⟩
def f238.S1 (a:(List (aB))×Int×Int) (x:Int×Int×(List (aB))):Tm:=⟨.msl 0 2 x.2.2.length::.int .i64 a.2.1::.int .i64 a.2.2::.fn 199 []::.dead::.dead::.dead::.dead::.dead::.int .i64 x.1::.int .i64 x.2.1::dd 130 [],[(0,false,[.dead,.arr false 2 x.2.2.length (gl aA x.2.2)])],[]⟩
def f238.S2 (a:(List (aB))×Int×Int) (x:Int×Int×Int×(List (aB))):Tm:=⟨.msl 0 2 x.2.2.2.length::.int .i64 a.2.1::.int .i64 a.2.2::.fn 199 []::.dead::.dead::.dead::.dead::.dead::.int .i64 x.1::.int .i64 x.2.1::.int .i64 x.2.2.1::dd 129 [],[(0,false,[.dead,.arr false 2 x.2.2.2.length (gl aA x.2.2.2)])],[]⟩
def f238.S3 (a:(List (aB))×Int×Int) (x:Int×Int×Int×(List (aB))):Tm:=⟨.msl 0 2 x.2.2.2.length::.int .i64 a.2.1::.int .i64 a.2.2::.fn 199 []::.dead::.dead::.dead::.dead::.dead::.int .i64 x.1::.int .i64 x.2.1::.dead::.int .i64 x.2.2.1::dd 128 [],[(0,false,[.dead,.arr false 2 x.2.2.2.length (gl aA x.2.2.2)])],[]⟩
def f238.kills (a:(List (aB))×Int×Int):List Hint:=[.tell (Int×Int×(List (aB))) (f238.S0 a),
 .tell (Int×Int×(List (aB))) (f238.S1 a),
 .tell (Int×Int×Int×(List (aB))) (f238.S2 a),
 .tell (Int×Int×Int×(List (aB))) (f238.S3 a)]
def f238.cuts (a:(List (aB))×Int×Int):List (Nat×Σ β:Type,β→Tm):=[(999999,⟨Unit,fun x=>⟨[],[],[]⟩⟩),
 (100007,⟨Int×Int×(List (aB)),fun x=>⟨.msl 0 2 x.2.2.length::.int .i64 a.2.1::.int .i64 a.2.2::.fn 199 []::.dead::.dead::.dead::.dead::.dead::.int .i64 x.1::.int .i64 x.2.1::dd 130 [],[(0,false,[.dead,.arr false 2 x.2.2.length (gl aA x.2.2)])],[]⟩⟩),
 (100017,⟨Int×Int×(List (aB)),fun x=>⟨.msl 0 2 x.2.2.length::.int .i64 a.2.1::.int .i64 a.2.2::.fn 199 []::.dead::.dead::.dead::.dead::.dead::.int .i64 x.1::.int .i64 x.2.1::dd 130 [],[(0,false,[.dead,.arr false 2 x.2.2.length (gl aA x.2.2)])],[]⟩⟩),
 (100006,⟨Int×Int×(List (aB)),fun x=>⟨.msl 0 2 x.2.2.length::.int .i64 a.2.1::.int .i64 a.2.2::.fn 199 []::.dead::.dead::.dead::.dead::.dead::.int .i64 x.1::.int .i64 x.2.1::dd 130 [],[(0,false,[.dead,.arr false 2 x.2.2.length (gl aA x.2.2)])],[]⟩⟩)]
def f238.af (a:(List (aB))×Int×Int):AF:=AF.mk (.seq (.region [⟨(some 8),1000000,.move,[.c (.bool false)],none⟩])
 (.seq (.region [mR 13 1 1,
 ⟨(some 14),1000002,(.bin .add),[.t 13,.c (.int .i64 (1))],none⟩,
 mR 9 3 14])
 (.seq (.seq (.region [⟨(some 10),1000004,.move,[.c (.int .i64 (0))],none⟩])
 (.block 0 (.loopT (Int×Int×(List (aB))) (f238.S0 a) 1000005 1000154 (.seq (.seq (.region [mR 15 5 10,
 ⟨(some 16),1000006,(.bin .lss),[.t 15,.c (.int .i64 (5))],none⟩])
 (.cond (.t 16) (.skip) (.exit 0)))
 (.joinT (Int×Int×(List (aB))) (fun x=>⟨.msl 0 2 x.2.2.length::.int .i64 a.2.1::.int .i64 a.2.2::.fn 199 []::.dead::.dead::.dead::.dead::.dead::.int .i64 x.1::.int .i64 x.2.1::dd 130 [],[(0,false,[.dead,.arr false 2 x.2.2.length (gl aA x.2.2)])],[]⟩) (.block 1 (.joinT (Int×Int×(List (aB))) (fun x=>⟨.msl 0 2 x.2.2.length::.int .i64 a.2.1::.int .i64 a.2.2::.fn 199 []::.dead::.dead::.dead::.dead::.dead::.int .i64 x.1::.int .i64 x.2.1::dd 130 [],[(0,false,[.dead,.arr false 2 x.2.2.length (gl aA x.2.2)])],[]⟩) (.block 2 (.loopT (Int×Int×(List (aB))) (f238.S1 a) 1000007 1000031 (.seq (.seq (.region [mR 19 7 9,
 mR 20 8 2,
 oR 21 9 (.bin .lss) [19,20],
 mR 22 10 21,
 oG 23 1000011 .move [3] 22 true,
 oG 24 1000012 .move [0] 22 true,
 oG 25 1000013 .move [9] 22 true,
 oG 26 1000014 (.indexAddr 2 none) [24,25] 22 true,
 oG 27 1000015 (.load true 2) [26] 22 true,
 oG 28 1000016 .move [0] 22 true,
 oG 29 1000017 .move [9] 22 true,
 ⟨(some 30),1000018,(.bin .sub),[.t 29,.c (.int .i64 (1))],(some (22,true))⟩,
 oG 31 1000019 (.indexAddr 2 none) [28,30] 22 true,
 oG 32 1000020 (.load true 2) [31] 22 true,
 oG 33 1000021 (.callv false) [23,27,32] 22 true,
 ⟨(some 34),1000025,(.bin .lss),[.t 33,.c (.int .i64 (0))],(some (22,true))⟩,
 oG 35 1000026 (.un .not) [34] 22 true,
 ⟨(some 36),1000027,.pick,[.t 22,.t 35,.c (.bool false)],none⟩])
 (.cond (.t 36) (.skip) (.exit 2)))
 (.block 3 (.region [mR 37 28 9,
 ⟨(some 38),1000029,(.bin .add),[.t 37,.c (.int .i64 (1))],none⟩,
 mR 9 30 38])))))
 (.seq (.seq (.region [mR 39 31 9,
 mR 40 32 2,
 oR 41 33 (.bin .eql) [39,40]])
 (.cond (.t 41) (.seq (.region [⟨(some 8),1000034,.move,[.c (.bool true)],none⟩])
 (.ret)) (.skip)))
 (.seq (.seq (.region [mR 42 35 2,
 mR 43 36 1,
 oR 44 37 (.bin .sub) [42,43],
 ⟨(some 45),1000038,(.bin .lss),[.t 44,.c (.int .i64 (50))],none⟩])
 (.cond (.t 45) (.seq (.region [⟨(some 8),1000039,.move,[.c (.bool false)],none⟩])
 (.ret)) (.skip)))
 (.seq (.region [mR 46 40 0,
 mR 47 41 9,
 mR 48 42 0,
 mR 49 43 9,
 ⟨(some 50),1000044,(.bin .sub),[.t 49,.c (.int .i64 (1))],none⟩,
 mR 51 45 0,
 mR 52 46 9,
 ⟨(some 53),1000047,(.bin .sub),[.t 52,.c (.int .i64 (1))],none⟩,
 oR 54 48 (.indexAddr 2 none) [51,53],
 oR 55 49 (.load true 2) [54],
 mR 56 50 0,
 mR 57 51 9,
 oR 58 52 (.indexAddr 2 none) [56,57],
 oR 59 53 (.load true 2) [58],
 oR 60 54 (.indexAddr 2 none) [46,47],
 ⟨none,1000055,(.store 2),[.t 60,.t 55],none⟩,
 oR 61 56 (.indexAddr 2 none) [48,50],
 ⟨none,1000057,(.store 2),[.t 61,.t 59],none⟩])
 (.joinT (Int×Int×(List (aB))) (fun x=>⟨.msl 0 2 x.2.2.length::.int .i64 a.2.1::.int .i64 a.2.2::.fn 199 []::.dead::.dead::.dead::.dead::.dead::.int .i64 x.1::.int .i64 x.2.1::dd 130 [],[(0,false,[.dead,.arr false 2 x.2.2.length (gl aA x.2.2)])],[]⟩) (.seq (.region [mR 62 58 9,
 mR 63 59 1,
 oR 64 60 (.bin .sub) [62,63],
 ⟨(some 65),1000061,(.bin .geq),[.t 64,.c (.int .i64 (2))],none⟩])
 (.cond (.t 65) (.seq (.region [mR 66 62 9,
 ⟨(some 67),1000063,(.bin .sub),[.t 66,.c (.int .i64 (1))],none⟩,
 mR 11 64 67])
 (.block 4 (.loopT (Int×Int×Int×(List (aB))) (f238.S2 a) 1000065 1000104 (.seq (.seq (.region [mR 68 65 11,
 ⟨(some 69),1000066,(.bin .geq),[.t 68,.c (.int .i64 (1))],none⟩])
 (.cond (.t 69) (.skip) (.exit 4)))
 (.seq (.block 5 (.seq (.seq (.region [mR 72 67 3,
 mR 73 68 0,
 mR 74 69 11,
 oR 75 70 (.indexAddr 2 none) [73,74],
 oR 76 71 (.load true 2) [75],
 mR 77 72 0,
 mR 78 73 11,
 ⟨(some 79),1000074,(.bin .sub),[.t 78,.c (.int .i64 (1))],none⟩,
 oR 80 75 (.indexAddr 2 none) [77,79],
 oR 81 76 (.load true 2) [80],
 oR 82 77 (.callv false) [72,76,81],
 ⟨(some 83),1000081,(.bin .lss),[.t 82,.c (.int .i64 (0))],none⟩,
 oR 84 82 (.un .not) [83]])
 (.cond (.t 84) (.exit 4) (.skip)))
 (.region [mR 85 83 0,
 mR 86 84 11,
 mR 87 85 0,
 mR 88 86 11,
 ⟨(some 89),1000087,(.bin .sub),[.t 88,.c (.int .i64 (1))],none⟩,
 mR 90 88 0,
 mR 91 89 11,
 ⟨(some 92),1000090,(.bin .sub),[.t 91,.c (.int .i64 (1))],none⟩,
 oR 93 91 (.indexAddr 2 none) [90,92],
 oR 94 92 (.load true 2) [93],
 mR 95 93 0,
 mR 96 94 11,
 oR 97 95 (.indexAddr 2 none) [95,96],
 oR 98 96 (.load true 2) [97],
 oR 99 97 (.indexAddr 2 none) [85,86],
 ⟨none,1000098,(.store 2),[.t 99,.t 94],none⟩,
 oR 100 99 (.indexAddr 2 none) [87,89],
 ⟨none,1000100,(.store 2),[.t 100,.t 98],none⟩])))
 (.region [mR 70 101 11,
 ⟨(some 71),1000102,(.bin .sub),[.t 70,.c (.int .i64 (1))],none⟩,
 mR 11 103 71])))))) (.skip)))
 (.seq (.region [mR 101 104 2,
 mR 102 105 9,
 oR 103 106 (.bin .sub) [101,102],
 ⟨(some 104),1000107,(.bin .geq),[.t 103,.c (.int .i64 (2))],none⟩])
 (.cond (.t 104) (.seq (.region [mR 105 108 9,
 ⟨(some 106),1000109,(.bin .add),[.t 105,.c (.int .i64 (1))],none⟩,
 mR 12 110 106])
 (.block 6 (.loopT (Int×Int×Int×(List (aB))) (f238.S3 a) 1000111 1000151 (.seq (.seq (.region [mR 107 111 12,
 mR 108 112 2,
 oR 109 113 (.bin .lss) [107,108]])
 (.cond (.t 109) (.skip) (.exit 6)))
 (.seq (.block 7 (.seq (.seq (.region [mR 112 114 3,
 mR 113 115 0,
 mR 114 116 12,
 oR 115 117 (.indexAddr 2 none) [113,114],
 oR 116 118 (.load true 2) [115],
 mR 117 119 0,
 mR 118 120 12,
 ⟨(some 119),1000121,(.bin .sub),[.t 118,.c (.int .i64 (1))],none⟩,
 oR 120 122 (.indexAddr 2 none) [117,119],
 oR 121 123 (.load true 2) [120],
 oR 122 124 (.callv false) [112,116,121],
 ⟨(some 123),1000128,(.bin .lss),[.t 122,.c (.int .i64 (0))],none⟩,
 oR 124 129 (.un .not) [123]])
 (.cond (.t 124) (.exit 6) (.skip)))
 (.region [mR 125 130 0,
 mR 126 131 12,
 mR 127 132 0,
 mR 128 133 12,
 ⟨(some 129),1000134,(.bin .sub),[.t 128,.c (.int .i64 (1))],none⟩,
 mR 130 135 0,
 mR 131 136 12,
 ⟨(some 132),1000137,(.bin .sub),[.t 131,.c (.int .i64 (1))],none⟩,
 oR 133 138 (.indexAddr 2 none) [130,132],
 oR 134 139 (.load true 2) [133],
 mR 135 140 0,
 mR 136 141 12,
 oR 137 142 (.indexAddr 2 none) [135,136],
 oR 138 143 (.load true 2) [137],
 oR 139 144 (.indexAddr 2 none) [125,126],
 ⟨none,1000145,(.store 2),[.t 139,.t 134],none⟩,
 oR 140 146 (.indexAddr 2 none) [127,129],
 ⟨none,1000147,(.store 2),[.t 140,.t 138],none⟩])))
 (.region [mR 110 148 12,
 ⟨(some 111),1000149,(.bin .add),[.t 110,.c (.int .i64 (1))],none⟩,
 mR 12 150 111])))))) (.skip)))))))))
 (.region [mR 17 151 10,
 ⟨(some 18),1000152,(.bin .add),[.t 17,.c (.int .i64 (1))],none⟩,
 mR 10 153 18]))))))
 (.seq (.region [⟨(some 8),1000154,.move,[.c (.bool false)],none⟩])
 (.ret)))))
 [.tmp 8] 1 137
def f238.env:Env:=[(199,f199.C)]
def f238.tree (a:(List (aB))×Int×Int):Prop:=Let (wI (a.2.1+(1:Int))) (fun v1:Int=>∃ (I3:(Int×Int×(List (aB)))→Prop) (μ4:(Int×Int×(List (aB)))→Nat),(∃ x2:Int×Int×(List (aB)),(a.1.length=x2.2.2.length)∧(a.2.1=a.2.1)∧(a.2.2=a.2.2)∧(DEqs [] [])∧(v1=x2.1)∧((0:Int)=x2.2.1)∧SlQ a.1.length x2.2.2.length (gl aA a.1) (gl aA x2.2.2) (I3 x2))∧∀ y5:Int×Int×(List (aB)),I3 y5→(Br (decide (y5.2.1 < (5:Int))) (∃ I8:(Int×Int×(List (aB)))→Prop,(∃ I9:(Int×Int×(List (aB)))→Prop,(∃ (I11:(Int×Int×(List (aB)))→Prop) (μ12:(Int×Int×(List (aB)))→Nat),(∃ x10:Int×Int×(List (aB)),(y5.2.2.length=x10.2.2.length)∧(a.2.1=a.2.1)∧(a.2.2=a.2.2)∧(DEqs [] [])∧(y5.1=x10.1)∧(y5.2.1=x10.2.1)∧SlQ y5.2.2.length x10.2.2.length (gl aA y5.2.2) (gl aA x10.2.2) (I11 x10))∧∀ y13:Int×Int×(List (aB)),I11 y13→(Br (decide (y13.1 < a.2.2)) (Br (decide ((0:Int)≤y13.1)&&decide (y13.1 < (List.length y13.2.2:Int))) ((y13.2.2.length=y13.2.2.length)∧(Let (wI (y13.1 - (1:Int))) (fun v17:Int=>Br (decide ((0:Int)≤v17)&&decide (v17 < (List.length y13.2.2:Int))) ((y13.2.2.length=y13.2.2.length)∧(f199.ent (fun c19=>True∧Br (!(decide ((cD c19) < (0:Int)))) (Let (wI (y13.1+(1:Int))) (fun v22:Int=>∃ x23:Int×Int×(List (aB)),(y13.2.2.length=x23.2.2.length)∧(a.2.1=a.2.1)∧(a.2.2=a.2.2)∧(DEqs [] [])∧(v22=x23.1)∧(y13.2.1=x23.2.1)∧SlQ y13.2.2.length x23.2.2.length (gl aA y13.2.2) (gl aA x23.2.2) (I11 x23∧μ12 x23 < μ12 y13))) (∃ x28:Int×Int×(List (aB)),(y13.2.2.length=x28.2.2.length)∧(a.2.1=a.2.1)∧(a.2.2=a.2.2)∧(DEqs [] [])∧(y13.1=x28.1)∧(y13.2.1=x28.2.1)∧SlQ y13.2.2.length x28.2.2.length (gl aA y13.2.2) (gl aA x28.2.2) (I9 x28))) ((at_ y13.2.2 y13.1),(at_ y13.2.2 v17)))) False))) False) (∃ x37:Int×Int×(List (aB)),(y13.2.2.length=x37.2.2.length)∧(a.2.1=a.2.1)∧(a.2.2=a.2.2)∧(DEqs [] [])∧(y13.1=x37.1)∧(y13.2.1=x37.2.1)∧SlQ y13.2.2.length x37.2.2.length (gl aA y13.2.2) (gl aA x37.2.2) (I9 x37))))∧∀ y43:Int×Int×(List (aB)),I9 y43→(Br (y43.1==a.2.2) ((true=(((bR aJ) a).1))∧SlQ y43.2.2.length (List.length (((bR aJ) a).2)) (gl aA y43.2.2) (gl aA (((bR aJ) a).2)) (True)) (Let (wI (a.2.2 - a.2.1)) (fun v49:Int=>Br (decide (v49 < (50:Int))) ((false=(((bR aJ) a).1))∧SlQ y43.2.2.length (List.length (((bR aJ) a).2)) (gl aA y43.2.2) (gl aA (((bR aJ) a).2)) (True)) (Let (wI (y43.1 - (1:Int))) (fun v53:Int=>Let (wI (y43.1 - (1:Int))) (fun v54:Int=>Br (decide ((0:Int)≤v54)&&decide (v54 < (List.length y43.2.2:Int))) ((y43.2.2.length=y43.2.2.length)∧(Br (decide ((0:Int)≤y43.1)&&decide (y43.1 < (List.length y43.2.2:Int))) ((y43.2.2.length=y43.2.2.length)∧(Br (decide ((0:Int)≤y43.1)&&decide (y43.1 < (List.length y43.2.2:Int))) ((y43.2.2.length=y43.2.2.length)∧(Br (decide ((0:Int)≤v53)&&decide (v53 < (List.length y43.2.2:Int))) ((y43.2.2.length=y43.2.2.length)∧(∃ I59:(Int×Int×(List (aB)))→Prop,(Let (wI (y43.1 - a.2.1)) (fun v60:Int=>Br (decide ((2:Int)≤v60)) (Let (wI (y43.1 - (1:Int))) (fun v63:Int=>∃ (I65:(Int×Int×Int×(List (aB)))→Prop) (μ66:(Int×Int×Int×(List (aB)))→Nat),(∃ x64:Int×Int×Int×(List (aB)),(y43.2.2.length=x64.2.2.2.length)∧(a.2.1=a.2.1)∧(a.2.2=a.2.2)∧(DEqs [] [])∧(y43.1=x64.1)∧(y43.2.1=x64.2.1)∧(v63=x64.2.2.1)∧SlQ y43.2.2.length x64.2.2.2.length (gset (gset (gl aA y43.2.2) (Int.toNat y43.1) [.str ((at_ y43.2.2 v54).1),.int .i64 ((at_ y43.2.2 v54).2)]) (Int.toNat v53) [.str ((at_ y43.2.2 y43.1).1),.int .i64 ((at_ y43.2.2 y43.1).2)]) (gl aA x64.2.2.2) (I65 x64))∧∀ y67:Int×Int×Int×(List (aB)),I65 y67→(Br (decide ((1:Int)≤y67.2.2.1)) (Br (decide ((0:Int)≤y67.2.2.1)&&decide (y67.2.2.1 < (List.length y67.2.2.2:Int))) ((y67.2.2.2.length=y67.2.2.2.length)∧(Let (wI (y67.2.2.1 - (1:Int))) (fun v71:Int=>Br (decide ((0:Int)≤v71)&&decide (v71 < (List.length y67.2.2.2:Int))) ((y67.2.2.2.length=y67.2.2.2.length)∧(f199.ent (fun c73=>True∧Br (!(decide ((cD c73) < (0:Int)))) (∃ x76:Int×Int×(List (aB)),(y67.2.2.2.length=x76.2.2.length)∧(a.2.1=a.2.1)∧(a.2.2=a.2.2)∧(DEqs [] [])∧(y67.1=x76.1)∧(y67.2.1=x76.2.1)∧SlQ y67.2.2.2.length x76.2.2.length (gl aA y67.2.2.2) (gl aA x76.2.2) (I59 x76)) (Let (wI (y67.2.2.1 - (1:Int))) (fun v77:Int=>Let (wI (y67.2.2.1 - (1:Int))) (fun v78:Int=>Br (decide ((0:Int)≤v78)&&decide (v78 < (List.length y67.2.2.2:Int))) ((y67.2.2.2.length=y67.2.2.2.length)∧(Br (decide ((0:Int)≤y67.2.2.1)&&decide (y67.2.2.1 < (List.length y67.2.2.2:Int))) ((y67.2.2.2.length=y67.2.2.2.length)∧(Br (decide ((0:Int)≤y67.2.2.1)&&decide (y67.2.2.1 < (List.length y67.2.2.2:Int))) ((y67.2.2.2.length=y67.2.2.2.length)∧(Br (decide ((0:Int)≤v77)&&decide (v77 < (List.length y67.2.2.2:Int))) ((y67.2.2.2.length=y67.2.2.2.length)∧(Let (wI (y67.2.2.1 - (1:Int))) (fun v83:Int=>∃ x84:Int×Int×Int×(List (aB)),(y67.2.2.2.length=x84.2.2.2.length)∧(a.2.1=a.2.1)∧(a.2.2=a.2.2)∧(DEqs [] [])∧(y67.1=x84.1)∧(y67.2.1=x84.2.1)∧(v83=x84.2.2.1)∧SlQ y67.2.2.2.length x84.2.2.2.length (gset (gset (gl aA y67.2.2.2) (Int.toNat y67.2.2.1) [.str ((at_ y67.2.2.2 v78).1),.int .i64 ((at_ y67.2.2.2 v78).2)]) (Int.toNat v77) [.str ((at_ y67.2.2.2 y67.2.2.1).1),.int .i64 ((at_ y67.2.2.2 y67.2.2.1).2)]) (gl aA x84.2.2.2) (I65 x84∧μ66 x84 < μ66 y67)))) False)) False)) False)) False)))) ((at_ y67.2.2.2 y67.2.2.1),(at_ y67.2.2.2 v71)))) False))) False) (∃ x107:Int×Int×(List (aB)),(y67.2.2.2.length=x107.2.2.length)∧(a.2.1=a.2.1)∧(a.2.2=a.2.2)∧(DEqs [] [])∧(y67.1=x107.1)∧(y67.2.1=x107.2.1)∧SlQ y67.2.2.2.length x107.2.2.length (gl aA y67.2.2.2) (gl aA x107.2.2) (I59 x107))))) (∃ x116:Int×Int×(List (aB)),(y43.2.2.length=x116.2.2.length)∧(a.2.1=a.2.1)∧(a.2.2=a.2.2)∧(DEqs [] [])∧(y43.1=x116.1)∧(y43.2.1=x116.2.1)∧SlQ y43.2.2.length x116.2.2.length (gset (gset (gl aA y43.2.2) (Int.toNat y43.1) [.str ((at_ y43.2.2 v54).1),.int .i64 ((at_ y43.2.2 v54).2)]) (Int.toNat v53) [.str ((at_ y43.2.2 y43.1).1),.int .i64 ((at_ y43.2.2 y43.1).2)]) (gl aA x116.2.2) (I59 x116))))∧∀ y122:Int×Int×(List (aB)),I59 y122→(Let (wI (a.2.2 - y122.1)) (fun v125:Int=>Br (decide ((2:Int)≤v125)) (Let (wI (y122.1+(1:Int))) (fun v128:Int=>∃ (I130:(Int×Int×Int×(List (aB)))→Prop) (μ131:(Int×Int×Int×(List (aB)))→Nat),(∃ x129:Int×Int×Int×(List (aB)),(y122.2.2.length=x129.2.2.2.length)∧(a.2.1=a.2.1)∧(a.2.2=a.2.2)∧(DEqs [] [])∧(y122.1=x129.1)∧(y122.2.1=x129.2.1)∧(v128=x129.2.2.1)∧SlQ y122.2.2.length x129.2.2.2.length (gl aA y122.2.2) (gl aA x129.2.2.2) (I130 x129))∧∀ y132:Int×Int×Int×(List (aB)),I130 y132→(Br (decide (y132.2.2.1 < a.2.2)) (Br (decide ((0:Int)≤y132.2.2.1)&&decide (y132.2.2.1 < (List.length y132.2.2.2:Int))) ((y132.2.2.2.length=y132.2.2.2.length)∧(Let (wI (y132.2.2.1 - (1:Int))) (fun v136:Int=>Br (decide ((0:Int)≤v136)&&decide (v136 < (List.length y132.2.2.2:Int))) ((y132.2.2.2.length=y132.2.2.2.length)∧(f199.ent (fun c138=>True∧Br (!(decide ((cD c138) < (0:Int)))) (∃ x141:Int×Int×(List (aB)),(y132.2.2.2.length=x141.2.2.length)∧(a.2.1=a.2.1)∧(a.2.2=a.2.2)∧(DEqs [] [])∧(y132.1=x141.1)∧(y132.2.1=x141.2.1)∧SlQ y132.2.2.2.length x141.2.2.length (gl aA y132.2.2.2) (gl aA x141.2.2) (I8 x141)) (Let (wI (y132.2.2.1 - (1:Int))) (fun v142:Int=>Let (wI (y132.2.2.1 - (1:Int))) (fun v143:Int=>Br (decide ((0:Int)≤v143)&&decide (v143 < (List.length y132.2.2.2:Int))) ((y132.2.2.2.length=y132.2.2.2.length)∧(Br (decide ((0:Int)≤y132.2.2.1)&&decide (y132.2.2.1 < (List.length y132.2.2.2:Int))) ((y132.2.2.2.length=y132.2.2.2.length)∧(Br (decide ((0:Int)≤y132.2.2.1)&&decide (y132.2.2.1 < (List.length y132.2.2.2:Int))) ((y132.2.2.2.length=y132.2.2.2.length)∧(Br (decide ((0:Int)≤v142)&&decide (v142 < (List.length y132.2.2.2:Int))) ((y132.2.2.2.length=y132.2.2.2.length)∧(Let (wI (y132.2.2.1+(1:Int))) (fun v148:Int=>∃ x149:Int×Int×Int×(List (aB)),(y132.2.2.2.length=x149.2.2.2.length)∧(a.2.1=a.2.1)∧(a.2.2=a.2.2)∧(DEqs [] [])∧(y132.1=x149.1)∧(y132.2.1=x149.2.1)∧(v148=x149.2.2.1)∧SlQ y132.2.2.2.length x149.2.2.2.length (gset (gset (gl aA y132.2.2.2) (Int.toNat y132.2.2.1) [.str ((at_ y132.2.2.2 v143).1),.int .i64 ((at_ y132.2.2.2 v143).2)]) (Int.toNat v142) [.str ((at_ y132.2.2.2 y132.2.2.1).1),.int .i64 ((at_ y132.2.2.2 y132.2.2.1).2)]) (gl aA x149.2.2.2) (I130 x149∧μ131 x149 < μ131 y132)))) False)) False)) False)) False)))) ((at_ y132.2.2.2 y132.2.2.1),(at_ y132.2.2.2 v136)))) False))) False) (∃ x172:Int×Int×(List (aB)),(y132.2.2.2.length=x172.2.2.length)∧(a.2.1=a.2.1)∧(a.2.2=a.2.2)∧(DEqs [] [])∧(y132.1=x172.1)∧(y132.2.1=x172.2.1)∧SlQ y132.2.2.2.length x172.2.2.length (gl aA y132.2.2.2) (gl aA x172.2.2) (I8 x172))))) (∃ x181:Int×Int×(List (aB)),(y122.2.2.length=x181.2.2.length)∧(a.2.1=a.2.1)∧(a.2.2=a.2.2)∧(DEqs [] [])∧(y122.1=x181.1)∧(y122.2.1=x181.2.1)∧SlQ y122.2.2.length x181.2.2.length (gl aA y122.2.2) (gl aA x181.2.2) (I8 x181)))))) False)) False)) False)) False)))))))∧∀ y204:Int×Int×(List (aB)),I8 y204→(Let (wI (y204.2.1+(1:Int))) (fun v207:Int=>∃ x208:Int×Int×(List (aB)),(y204.2.2.length=x208.2.2.length)∧(a.2.1=a.2.1)∧(a.2.2=a.2.2)∧(DEqs [] [])∧(y204.1=x208.1)∧(v207=x208.2.1)∧SlQ y204.2.2.length x208.2.2.length (gl aA y204.2.2) (gl aA x208.2.2) (I3 x208∧μ4 x208 < μ4 y5)))) ((false=(((bR aJ) a).1))∧SlQ y5.2.2.length (List.length (((bR aJ) a).2)) (gl aA y5.2.2) (gl aA (((bR aJ) a).2)) (True))))
def f238.vc (a:(List (aB))×Int×Int):Prop:=(-9223372036854775808≤(a.2.1+(1:Int))∧(a.2.1+(1:Int))≤9223372036854775807∧(∃ (I3:(Int×Int×(List (aB)))→Prop) (μ4:(Int×Int×(List (aB)))→Nat),I3 ((a.2.1+(1:Int)),(0:Int),a.1)∧∀ y5:Int×Int×(List (aB)),I3 y5→((y5.2.1 < (5:Int)→(∃ I8:(Int×Int×(List (aB)))→Prop,((∃ I9:(Int×Int×(List (aB)))→Prop,((∃ (I11:(Int×Int×(List (aB)))→Prop) (μ12:(Int×Int×(List (aB)))→Nat),I11 (y5.1,y5.2.1,y5.2.2)∧∀ y13:Int×Int×(List (aB)),I11 y13→((y13.1 < a.2.2→((0:Int)≤y13.1∧y13.1 < (List.length y13.2.2:Int)∧(-9223372036854775808≤(y13.1 - (1:Int))∧(y13.1 - (1:Int))≤9223372036854775807∧((0:Int)≤(y13.1 - (1:Int))∧(y13.1 - (1:Int)) < (List.length y13.2.2:Int)∧((¬((cD ((at_ y13.2.2 y13.1),(at_ y13.2.2 (y13.1 - (1:Int))))) < (0:Int))→(-9223372036854775808≤(y13.1+(1:Int))∧(y13.1+(1:Int))≤9223372036854775807∧(I11 ((y13.1+(1:Int)),y13.2.1,y13.2.2)∧μ12 ((y13.1+(1:Int)),y13.2.1,y13.2.2) < μ12 y13)))∧(¬(¬((cD ((at_ y13.2.2 y13.1),(at_ y13.2.2 (y13.1 - (1:Int))))) < (0:Int)))→(I9 (y13.1,y13.2.1,y13.2.2))))))))∧(¬(y13.1 < a.2.2)→(I9 (y13.1,y13.2.1,y13.2.2))))))∧∀ y43:Int×Int×(List (aB)),I9 y43→((y43.1=a.2.2→((true,y43.2.2)=(bR aJ) a))∧(¬(y43.1=a.2.2)→(-9223372036854775808≤(a.2.2 - a.2.1)∧(a.2.2 - a.2.1)≤9223372036854775807∧(((a.2.2 - a.2.1) < (50:Int)→((false,y43.2.2)=(bR aJ) a))∧(¬((a.2.2 - a.2.1) < (50:Int))→(-9223372036854775808≤(y43.1 - (1:Int))∧(y43.1 - (1:Int))≤9223372036854775807∧(-9223372036854775808≤(y43.1 - (1:Int))∧(y43.1 - (1:Int))≤9223372036854775807∧((0:Int)≤(y43.1 - (1:Int))∧(y43.1 - (1:Int)) < (List.length y43.2.2:Int)∧((0:Int)≤y43.1∧y43.1 < (List.length y43.2.2:Int)∧((0:Int)≤y43.1∧y43.1 < (List.length y43.2.2:Int)∧((0:Int)≤(y43.1 - (1:Int))∧(y43.1 - (1:Int)) < (List.length y43.2.2:Int)∧(∃ I59:(Int×Int×(List (aB)))→Prop,((-9223372036854775808≤(y43.1 - a.2.1)∧(y43.1 - a.2.1)≤9223372036854775807∧(((2:Int)≤(y43.1 - a.2.1)→(-9223372036854775808≤(y43.1 - (1:Int))∧(y43.1 - (1:Int))≤9223372036854775807∧(∃ (I65:(Int×Int×Int×(List (aB)))→Prop) (μ66:(Int×Int×Int×(List (aB)))→Nat),I65 (y43.1,y43.2.1,(y43.1 - (1:Int)),List.set (List.set y43.2.2 (Int.toNat y43.1) (at_ y43.2.2 (y43.1 - (1:Int)))) (Int.toNat (y43.1 - (1:Int))) (at_ y43.2.2 y43.1))∧∀ y67:Int×Int×Int×(List (aB)),I65 y67→(((1:Int)≤y67.2.2.1→((0:Int)≤y67.2.2.1∧y67.2.2.1 < (List.length y67.2.2.2:Int)∧(-9223372036854775808≤(y67.2.2.1 - (1:Int))∧(y67.2.2.1 - (1:Int))≤9223372036854775807∧((0:Int)≤(y67.2.2.1 - (1:Int))∧(y67.2.2.1 - (1:Int)) < (List.length y67.2.2.2:Int)∧((¬((cD ((at_ y67.2.2.2 y67.2.2.1),(at_ y67.2.2.2 (y67.2.2.1 - (1:Int))))) < (0:Int))→(I59 (y67.1,y67.2.1,y67.2.2.2)))∧(¬(¬((cD ((at_ y67.2.2.2 y67.2.2.1),(at_ y67.2.2.2 (y67.2.2.1 - (1:Int))))) < (0:Int)))→(-9223372036854775808≤(y67.2.2.1 - (1:Int))∧(y67.2.2.1 - (1:Int))≤9223372036854775807∧(-9223372036854775808≤(y67.2.2.1 - (1:Int))∧(y67.2.2.1 - (1:Int))≤9223372036854775807∧((0:Int)≤(y67.2.2.1 - (1:Int))∧(y67.2.2.1 - (1:Int)) < (List.length y67.2.2.2:Int)∧((0:Int)≤y67.2.2.1∧y67.2.2.1 < (List.length y67.2.2.2:Int)∧((0:Int)≤y67.2.2.1∧y67.2.2.1 < (List.length y67.2.2.2:Int)∧((0:Int)≤(y67.2.2.1 - (1:Int))∧(y67.2.2.1 - (1:Int)) < (List.length y67.2.2.2:Int)∧(-9223372036854775808≤(y67.2.2.1 - (1:Int))∧(y67.2.2.1 - (1:Int))≤9223372036854775807∧(I65 (y67.1,y67.2.1,(y67.2.2.1 - (1:Int)),List.set (List.set y67.2.2.2 (Int.toNat y67.2.2.1) (at_ y67.2.2.2 (y67.2.2.1 - (1:Int)))) (Int.toNat (y67.2.2.1 - (1:Int))) (at_ y67.2.2.2 y67.2.2.1))∧μ66 (y67.1,y67.2.1,(y67.2.2.1 - (1:Int)),List.set (List.set y67.2.2.2 (Int.toNat y67.2.2.1) (at_ y67.2.2.2 (y67.2.2.1 - (1:Int)))) (Int.toNat (y67.2.2.1 - (1:Int))) (at_ y67.2.2.2 y67.2.2.1)) < μ66 y67))))))))))))))∧(¬((1:Int)≤y67.2.2.1)→(I59 (y67.1,y67.2.1,y67.2.2.2)))))))∧(¬((2:Int)≤(y43.1 - a.2.1))→(I59 (y43.1,y43.2.1,List.set (List.set y43.2.2 (Int.toNat y43.1) (at_ y43.2.2 (y43.1 - (1:Int)))) (Int.toNat (y43.1 - (1:Int))) (at_ y43.2.2 y43.1)))))))∧∀ y122:Int×Int×(List (aB)),I59 y122→(-9223372036854775808≤(a.2.2 - y122.1)∧(a.2.2 - y122.1)≤9223372036854775807∧(((2:Int)≤(a.2.2 - y122.1)→(-9223372036854775808≤(y122.1+(1:Int))∧(y122.1+(1:Int))≤9223372036854775807∧(∃ (I130:(Int×Int×Int×(List (aB)))→Prop) (μ131:(Int×Int×Int×(List (aB)))→Nat),I130 (y122.1,y122.2.1,(y122.1+(1:Int)),y122.2.2)∧∀ y132:Int×Int×Int×(List (aB)),I130 y132→((y132.2.2.1 < a.2.2→((0:Int)≤y132.2.2.1∧y132.2.2.1 < (List.length y132.2.2.2:Int)∧(-9223372036854775808≤(y132.2.2.1 - (1:Int))∧(y132.2.2.1 - (1:Int))≤9223372036854775807∧((0:Int)≤(y132.2.2.1 - (1:Int))∧(y132.2.2.1 - (1:Int)) < (List.length y132.2.2.2:Int)∧((¬((cD ((at_ y132.2.2.2 y132.2.2.1),(at_ y132.2.2.2 (y132.2.2.1 - (1:Int))))) < (0:Int))→(I8 (y132.1,y132.2.1,y132.2.2.2)))∧(¬(¬((cD ((at_ y132.2.2.2 y132.2.2.1),(at_ y132.2.2.2 (y132.2.2.1 - (1:Int))))) < (0:Int)))→(-9223372036854775808≤(y132.2.2.1 - (1:Int))∧(y132.2.2.1 - (1:Int))≤9223372036854775807∧(-9223372036854775808≤(y132.2.2.1 - (1:Int))∧(y132.2.2.1 - (1:Int))≤9223372036854775807∧((0:Int)≤(y132.2.2.1 - (1:Int))∧(y132.2.2.1 - (1:Int)) < (List.length y132.2.2.2:Int)∧((0:Int)≤y132.2.2.1∧y132.2.2.1 < (List.length y132.2.2.2:Int)∧((0:Int)≤y132.2.2.1∧y132.2.2.1 < (List.length y132.2.2.2:Int)∧((0:Int)≤(y132.2.2.1 - (1:Int))∧(y132.2.2.1 - (1:Int)) < (List.length y132.2.2.2:Int)∧(-9223372036854775808≤(y132.2.2.1+(1:Int))∧(y132.2.2.1+(1:Int))≤9223372036854775807∧(I130 (y132.1,y132.2.1,(y132.2.2.1+(1:Int)),List.set (List.set y132.2.2.2 (Int.toNat y132.2.2.1) (at_ y132.2.2.2 (y132.2.2.1 - (1:Int)))) (Int.toNat (y132.2.2.1 - (1:Int))) (at_ y132.2.2.2 y132.2.2.1))∧μ131 (y132.1,y132.2.1,(y132.2.2.1+(1:Int)),List.set (List.set y132.2.2.2 (Int.toNat y132.2.2.1) (at_ y132.2.2.2 (y132.2.2.1 - (1:Int)))) (Int.toNat (y132.2.2.1 - (1:Int))) (at_ y132.2.2.2 y132.2.2.1)) < μ131 y132))))))))))))))∧(¬(y132.2.2.1 < a.2.2)→(I8 (y132.1,y132.2.1,y132.2.2.2)))))))∧(¬((2:Int)≤(a.2.2 - y122.1))→(I8 (y122.1,y122.2.1,y122.2.2)))))))))))))))))))∧∀ y204:Int×Int×(List (aB)),I8 y204→(-9223372036854775808≤(y204.2.1+(1:Int))∧(y204.2.1+(1:Int))≤9223372036854775807∧(I3 (y204.1,(y204.2.1+(1:Int)),y204.2.2)∧μ4 (y204.1,(y204.2.1+(1:Int)),y204.2.2) < μ4 y5))))∧(¬(y5.2.1 < (5:Int))→((false,y5.2.2)=(bR aJ) a)))))
theorem f238.of (a:(List (aB))×Int×Int) (h:f238.vc a):f238.tree a:=wrapK.i64 h (fun h219 h220 k221=>Exists.elim k221 (fun I3 h216_=>Exists.elim h216_ (fun μ4 h216=>⟨I3,μ4,⟨((a.2.1+(1:Int)),(0:Int),a.1),⟨(bI (gl aA a.1) (rS aA)),⟨rfl,⟨rfl,⟨(DEqs.refl _),⟨rfl,⟨rfl,slQ (rS aA) (h216.1)⟩⟩⟩⟩⟩⟩⟩,fun y5 h218=>br (h216.2 y5 h218) Cnd.dec (fun h6 k214=>Exists.elim k214 (fun I8 h206=>⟨I8,Exists.elim h206.1 (fun I9 h45=>⟨I9,Exists.elim h45.1 (fun I11 h40_=>Exists.elim h40_ (fun μ12 h40=>⟨I11,μ12,⟨(y5.1,y5.2.1,y5.2.2),⟨(bI (gl aA y5.2.2) (rS aA)),⟨rfl,⟨rfl,⟨(DEqs.refl _),⟨rfl,⟨rfl,slQ (rS aA) (h40.1)⟩⟩⟩⟩⟩⟩⟩,fun y13 h42=>br (h40.2 y13 h42) Cnd.dec (fun h14 k38=>chk k38.2.2 Cnd.ix ⟨k38.1,k38.2.1⟩ (fun h16 k36=>⟨rfl,wrapK.i64 k36 (fun h33 h34 k35=>chk k35.2.2 Cnd.ix ⟨k35.1,k35.2.1⟩ (fun h18 k32=>⟨rfl,(f199.ei ⟨trivial,br k32 (Cnd.not Cnd.dec) (fun h20 k29=>wrapK.i64 k29 (fun h25 h26 k27=>⟨((y13.1+(1:Int)),y13.2.1,y13.2.2),⟨(bI (gl aA y13.2.2) (rS aA)),⟨rfl,⟨rfl,⟨(DEqs.refl _),⟨rfl,⟨rfl,slQ (rS aA) (k27)⟩⟩⟩⟩⟩⟩⟩)) (fun h21 k30=>⟨(y13.1,y13.2.1,y13.2.2),⟨(bI (gl aA y13.2.2) (rS aA)),⟨rfl,⟨rfl,⟨(DEqs.refl _),⟨rfl,⟨rfl,slQ (rS aA) (k30)⟩⟩⟩⟩⟩⟩⟩)⟩)⟩))⟩)) (fun h15 k39=>⟨(y13.1,y13.2.1,y13.2.2),⟨(bI (gl aA y13.2.2) (rS aA)),⟨rfl,⟨rfl,⟨(DEqs.refl _),⟨rfl,⟨rfl,slQ (rS aA) (k39)⟩⟩⟩⟩⟩⟩⟩)⟩)),fun y43 h44=>br (h45.2 y43 h44) Cnd.eq (fun h46 k202=>⟨(congrArg (fun x:Bool×(List (aB))=>x.1) k202 :),slQ (Rds.to (rS aA) (congrArg (fun x:Bool×(List (aB))=>x.2) k202 :)) (trivial)⟩) (fun h47 k203=>wrapK.i64 k203 (fun h199 h200 k201=>br k201 Cnd.dec (fun h50 k197=>⟨(congrArg (fun x:Bool×(List (aB))=>x.1) k197 :),slQ (Rds.to (rS aA) (congrArg (fun x:Bool×(List (aB))=>x.2) k197 :)) (trivial)⟩) (fun h51 k198=>wrapK.i64 k198 (fun h194 h195 k196=>wrapK.i64 k196 (fun h191 h192 k193=>chk k193.2.2 Cnd.ix ⟨k193.1,k193.2.1⟩ (fun h55 k190=>⟨rfl,chk k190.2.2 Cnd.ix ⟨k190.1,k190.2.1⟩ (fun h56 k189=>⟨rfl,chk k189.2.2 Cnd.ix ⟨k189.1,k189.2.1⟩ (fun h57 k188=>⟨rfl,chk k188.2.2 Cnd.ix ⟨k188.1,k188.2.1⟩ (fun h58 k187=>⟨rfl,Exists.elim k187 (fun I59 h124=>⟨I59,wrapK.i64 h124.1 (fun h119 h120 k121=>br k121 Cnd.dec (fun h61 k117=>wrapK.i64 k117 (fun h113 h114 k115=>Exists.elim k115 (fun I65 h110_=>Exists.elim h110_ (fun μ66 h110=>⟨I65,μ66,⟨(y43.1,y43.2.1,(y43.1 - (1:Int)),List.set (List.set y43.2.2 (Int.toNat y43.1) (at_ y43.2.2 (y43.1 - (1:Int)))) (Int.toNat (y43.1 - (1:Int))) (at_ y43.2.2 y43.1)),⟨(bI (gset (gset (gl aA y43.2.2) (Int.toNat y43.1) [.str ((at_ y43.2.2 (y43.1 - (1:Int))).1),.int .i64 ((at_ y43.2.2 (y43.1 - (1:Int))).2)]) (Int.toNat (y43.1 - (1:Int))) [.str ((at_ y43.2.2 y43.1).1),.int .i64 ((at_ y43.2.2 y43.1).2)]) (Rds.gset (enc:=aA) (Rds.gset (enc:=aA) (rS aA) (DEqs.refl _)) (DEqs.refl _))),⟨rfl,⟨rfl,⟨(DEqs.refl _),⟨rfl,⟨rfl,⟨rfl,slQ (Rds.gset (enc:=aA) (Rds.gset (enc:=aA) (rS aA) (DEqs.refl _)) (DEqs.refl _)) (h110.1)⟩⟩⟩⟩⟩⟩⟩⟩,fun y67 h112=>br (h110.2 y67 h112) Cnd.dec (fun h68 k108=>chk k108.2.2 Cnd.ix ⟨k108.1,k108.2.1⟩ (fun h70 k106=>⟨rfl,wrapK.i64 k106 (fun h103 h104 k105=>chk k105.2.2 Cnd.ix ⟨k105.1,k105.2.1⟩ (fun h72 k102=>⟨rfl,(f199.ei ⟨trivial,br k102 (Cnd.not Cnd.dec) (fun h74 k99=>⟨(y67.1,y67.2.1,y67.2.2.2),⟨(bI (gl aA y67.2.2.2) (rS aA)),⟨rfl,⟨rfl,⟨(DEqs.refl _),⟨rfl,⟨rfl,slQ (rS aA) (k99)⟩⟩⟩⟩⟩⟩⟩) (fun h75 k100=>wrapK.i64 k100 (fun h96 h97 k98=>wrapK.i64 k98 (fun h93 h94 k95=>chk k95.2.2 Cnd.ix ⟨k95.1,k95.2.1⟩ (fun h79 k92=>⟨rfl,chk k92.2.2 Cnd.ix ⟨k92.1,k92.2.1⟩ (fun h80 k91=>⟨rfl,chk k91.2.2 Cnd.ix ⟨k91.1,k91.2.1⟩ (fun h81 k90=>⟨rfl,chk k90.2.2 Cnd.ix ⟨k90.1,k90.2.1⟩ (fun h82 k89=>⟨rfl,wrapK.i64 k89 (fun h86 h87 k88=>⟨(y67.1,y67.2.1,(y67.2.2.1 - (1:Int)),List.set (List.set y67.2.2.2 (Int.toNat y67.2.2.1) (at_ y67.2.2.2 (y67.2.2.1 - (1:Int)))) (Int.toNat (y67.2.2.1 - (1:Int))) (at_ y67.2.2.2 y67.2.2.1)),⟨(bI (gset (gset (gl aA y67.2.2.2) (Int.toNat y67.2.2.1) [.str ((at_ y67.2.2.2 (y67.2.2.1 - (1:Int))).1),.int .i64 ((at_ y67.2.2.2 (y67.2.2.1 - (1:Int))).2)]) (Int.toNat (y67.2.2.1 - (1:Int))) [.str ((at_ y67.2.2.2 y67.2.2.1).1),.int .i64 ((at_ y67.2.2.2 y67.2.2.1).2)]) (Rds.gset (enc:=aA) (Rds.gset (enc:=aA) (rS aA) (DEqs.refl _)) (DEqs.refl _))),⟨rfl,⟨rfl,⟨(DEqs.refl _),⟨rfl,⟨rfl,⟨rfl,slQ (Rds.gset (enc:=aA) (Rds.gset (enc:=aA) (rS aA) (DEqs.refl _)) (DEqs.refl _)) (k88)⟩⟩⟩⟩⟩⟩⟩⟩)⟩)⟩)⟩)⟩))))⟩)⟩))⟩)) (fun h69 k109=>⟨(y67.1,y67.2.1,y67.2.2.2),⟨(bI (gl aA y67.2.2.2) (rS aA)),⟨rfl,⟨rfl,⟨(DEqs.refl _),⟨rfl,⟨rfl,slQ (rS aA) (k109)⟩⟩⟩⟩⟩⟩⟩)⟩)))) (fun h62 k118=>⟨(y43.1,y43.2.1,List.set (List.set y43.2.2 (Int.toNat y43.1) (at_ y43.2.2 (y43.1 - (1:Int)))) (Int.toNat (y43.1 - (1:Int))) (at_ y43.2.2 y43.1)),⟨(bI (gset (gset (gl aA y43.2.2) (Int.toNat y43.1) [.str ((at_ y43.2.2 (y43.1 - (1:Int))).1),.int .i64 ((at_ y43.2.2 (y43.1 - (1:Int))).2)]) (Int.toNat (y43.1 - (1:Int))) [.str ((at_ y43.2.2 y43.1).1),.int .i64 ((at_ y43.2.2 y43.1).2)]) (Rds.gset (enc:=aA) (Rds.gset (enc:=aA) (rS aA) (DEqs.refl _)) (DEqs.refl _))),⟨rfl,⟨rfl,⟨(DEqs.refl _),⟨rfl,⟨rfl,slQ (Rds.gset (enc:=aA) (Rds.gset (enc:=aA) (rS aA) (DEqs.refl _)) (DEqs.refl _)) (k118)⟩⟩⟩⟩⟩⟩⟩)),fun y122 h123=>wrapK.i64 (h124.2 y122 h123) (fun h184 h185 k186=>br k186 Cnd.dec (fun h126 k182=>wrapK.i64 k182 (fun h178 h179 k180=>Exists.elim k180 (fun I130 h175_=>Exists.elim h175_ (fun μ131 h175=>⟨I130,μ131,⟨(y122.1,y122.2.1,(y122.1+(1:Int)),y122.2.2),⟨(bI (gl aA y122.2.2) (rS aA)),⟨rfl,⟨rfl,⟨(DEqs.refl _),⟨rfl,⟨rfl,⟨rfl,slQ (rS aA) (h175.1)⟩⟩⟩⟩⟩⟩⟩⟩,fun y132 h177=>br (h175.2 y132 h177) Cnd.dec (fun h133 k173=>chk k173.2.2 Cnd.ix ⟨k173.1,k173.2.1⟩ (fun h135 k171=>⟨rfl,wrapK.i64 k171 (fun h168 h169 k170=>chk k170.2.2 Cnd.ix ⟨k170.1,k170.2.1⟩ (fun h137 k167=>⟨rfl,(f199.ei ⟨trivial,br k167 (Cnd.not Cnd.dec) (fun h139 k164=>⟨(y132.1,y132.2.1,y132.2.2.2),⟨(bI (gl aA y132.2.2.2) (rS aA)),⟨rfl,⟨rfl,⟨(DEqs.refl _),⟨rfl,⟨rfl,slQ (rS aA) (k164)⟩⟩⟩⟩⟩⟩⟩) (fun h140 k165=>wrapK.i64 k165 (fun h161 h162 k163=>wrapK.i64 k163 (fun h158 h159 k160=>chk k160.2.2 Cnd.ix ⟨k160.1,k160.2.1⟩ (fun h144 k157=>⟨rfl,chk k157.2.2 Cnd.ix ⟨k157.1,k157.2.1⟩ (fun h145 k156=>⟨rfl,chk k156.2.2 Cnd.ix ⟨k156.1,k156.2.1⟩ (fun h146 k155=>⟨rfl,chk k155.2.2 Cnd.ix ⟨k155.1,k155.2.1⟩ (fun h147 k154=>⟨rfl,wrapK.i64 k154 (fun h151 h152 k153=>⟨(y132.1,y132.2.1,(y132.2.2.1+(1:Int)),List.set (List.set y132.2.2.2 (Int.toNat y132.2.2.1) (at_ y132.2.2.2 (y132.2.2.1 - (1:Int)))) (Int.toNat (y132.2.2.1 - (1:Int))) (at_ y132.2.2.2 y132.2.2.1)),⟨(bI (gset (gset (gl aA y132.2.2.2) (Int.toNat y132.2.2.1) [.str ((at_ y132.2.2.2 (y132.2.2.1 - (1:Int))).1),.int .i64 ((at_ y132.2.2.2 (y132.2.2.1 - (1:Int))).2)]) (Int.toNat (y132.2.2.1 - (1:Int))) [.str ((at_ y132.2.2.2 y132.2.2.1).1),.int .i64 ((at_ y132.2.2.2 y132.2.2.1).2)]) (Rds.gset (enc:=aA) (Rds.gset (enc:=aA) (rS aA) (DEqs.refl _)) (DEqs.refl _))),⟨rfl,⟨rfl,⟨(DEqs.refl _),⟨rfl,⟨rfl,⟨rfl,slQ (Rds.gset (enc:=aA) (Rds.gset (enc:=aA) (rS aA) (DEqs.refl _)) (DEqs.refl _)) (k153)⟩⟩⟩⟩⟩⟩⟩⟩)⟩)⟩)⟩)⟩))))⟩)⟩))⟩)) (fun h134 k174=>⟨(y132.1,y132.2.1,y132.2.2.2),⟨(bI (gl aA y132.2.2.2) (rS aA)),⟨rfl,⟨rfl,⟨(DEqs.refl _),⟨rfl,⟨rfl,slQ (rS aA) (k174)⟩⟩⟩⟩⟩⟩⟩)⟩)))) (fun h127 k183=>⟨(y122.1,y122.2.1,y122.2.2),⟨(bI (gl aA y122.2.2) (rS aA)),⟨rfl,⟨rfl,⟨(DEqs.refl _),⟨rfl,⟨rfl,slQ (rS aA) (k183)⟩⟩⟩⟩⟩⟩⟩))⟩)⟩)⟩)⟩)⟩))))))⟩),fun y204 h205=>wrapK.i64 (h206.2 y204 h205) (fun h210 h211 k212=>⟨(y204.1,(y204.2.1+(1:Int)),y204.2.2),⟨(bI (gl aA y204.2.2) (rS aA)),⟨rfl,⟨rfl,⟨(DEqs.refl _),⟨rfl,⟨rfl,slQ (rS aA) (k212)⟩⟩⟩⟩⟩⟩⟩)⟩)) (fun h7 k215=>⟨(congrArg (fun x:Bool×(List (aB))=>x.1) k215 :),slQ (Rds.to (rS aA) (congrArg (fun x:Bool×(List (aB))=>x.2) k215 :)) (trivial)⟩)⟩)))
theorem f238.eq (a:(List (aB))×Int×Int):(f238.af a).gives f238.env (f238.args a) (f238.blks a) (f238.res a) (f238.blks' a)=f238.tree a:=by kernel_rfl
def f239.args (a:(List (aB))×Int×Int×Int):List D:=[.msl 0 2 a.1.length,.int .i64 a.2.1,.int .i64 a.2.2.1,.int .i64 a.2.2.2,.fn 199 []]
def f239.blks (a:(List (aB))×Int×Int×Int):List (List D):=[[.dead,.arr false 2 a.1.length (gl aA a.1)]]
def f239.res (a:(List (aB))×Int×Int×Int):List D:=[.int .i64 (((dJ aJ) a).1)]
def f239.blks' (a:(List (aB))×Int×Int×Int):List (List D):=[[.dead,.arr false 2 (List.length (((dJ aJ) a).2)) (gl aA (((dJ aJ) a).2))]]
def f239.C:aN:=FnC f239.args f239.blks (fun a=>iS a) f239.res f239.blks'
def f239.S0 (a:(List (aB))×Int×Int×Int) (x:Int×Int×(List (aB))):Tm:=⟨.msl 0 2 x.2.2.length::.int .i64 a.2.1::.dead::.dead::.fn 199 []::dd 6 (.int .i64 x.1::.int .i64 x.2.1::dd 77 []),[(0,false,[.dead,.arr false 2 x.2.2.length (gl aA x.2.2)])],[]⟩
def f239.S1 (a:(List (aB))×Int×Int×Int) (x:Int×Int×(List (aB))):Tm:=⟨.msl 0 2 x.2.2.length::.int .i64 a.2.1::.dead::.dead::.fn 199 []::dd 6 (.int .i64 x.1::.int .i64 x.2.1::dd 77 []),[(0,false,[.dead,.arr false 2 x.2.2.length (gl aA x.2.2)])],[]⟩
def f239.S2 (a:(List (aB))×Int×Int×Int) (x:Int×Int×(List (aB))):Tm:=⟨.msl 0 2 x.2.2.length::.int .i64 a.2.1::.dead::.dead::.fn 199 []::dd 6 (.int .i64 x.1::.int .i64 x.2.1::dd 77 []),[(0,false,[.dead,.arr false 2 x.2.2.length (gl aA x.2.2)])],[]⟩
def f239.kills (a:(List (aB))×Int×Int×Int):List Hint:=[.tell (Int×Int×(List (aB))) (f239.S0 a),
 .tell (Int×Int×(List (aB))) (f239.S1 a),
 .tell (Int×Int×(List (aB))) (f239.S2 a)]
def f239.cuts (a:(List (aB))×Int×Int×Int):List (Nat×Σ β:Type,β→Tm):=[(999999,⟨Unit,fun x=>⟨[],[],[]⟩⟩),
 (100004,⟨Int×Int×(List (aB)),fun x=>⟨.msl 0 2 x.2.2.length::.int .i64 a.2.1::.dead::.dead::.fn 199 []::dd 6 (.int .i64 x.1::.int .i64 x.2.1::dd 77 []),[(0,false,[.dead,.arr false 2 x.2.2.length (gl aA x.2.2)])],[]⟩⟩),
 (100007,⟨Int×Int×(List (aB)),fun x=>⟨.msl 0 2 x.2.2.length::.int .i64 a.2.1::.dead::.dead::.fn 199 []::dd 6 (.int .i64 x.1::.int .i64 x.2.1::dd 77 []),[(0,false,[.dead,.arr false 2 x.2.2.length (gl aA x.2.2)])],[]⟩⟩)]
def f239.af (a:(List (aB))×Int×Int×Int):AF:=AF.mk (.seq (.region [⟨(some 10),1000000,.move,[.c (.int .i64 (0))],none⟩])
 (.seq (.region [mR 13 1 0,
 mR 14 2 1,
 mR 15 3 0,
 mR 16 4 3,
 mR 17 5 0,
 mR 18 6 3,
 oR 19 7 (.indexAddr 2 none) [17,18],
 oR 20 8 (.load true 2) [19],
 mR 21 9 0,
 mR 22 10 1,
 oR 23 11 (.indexAddr 2 none) [21,22],
 oR 24 12 (.load true 2) [23],
 oR 25 13 (.indexAddr 2 none) [13,14],
 ⟨none,1000014,(.store 2),[.t 25,.t 20],none⟩,
 oR 26 15 (.indexAddr 2 none) [15,16],
 ⟨none,1000016,(.store 2),[.t 26,.t 24],none⟩])
 (.seq (.region [mR 27 17 1,
 ⟨(some 28),1000018,(.bin .add),[.t 27,.c (.int .i64 (1))],none⟩,
 mR 29 19 2,
 ⟨(some 30),1000020,(.bin .sub),[.t 29,.c (.int .i64 (1))],none⟩,
 mR 11 21 28,
 mR 12 22 30])
 (.seq (.block 0 (.loopT (Int×Int×(List (aB))) (f239.S0 a) 1000023 1000093 (.block 1 (.joinT (Int×Int×(List (aB))) (fun x=>⟨.msl 0 2 x.2.2.length::.int .i64 a.2.1::.dead::.dead::.fn 199 []::dd 6 (.int .i64 x.1::.int .i64 x.2.1::dd 77 []),[(0,false,[.dead,.arr false 2 x.2.2.length (gl aA x.2.2)])],[]⟩) (.block 2 (.loopT (Int×Int×(List (aB))) (f239.S1 a) 1000023 1000046 (.seq (.seq (.region [mR 31 23 11,
 mR 32 24 12,
 oR 33 25 (.bin .leq) [31,32],
 mR 34 26 33,
 oG 35 1000027 .move [4] 34 true,
 oG 36 1000028 .move [0] 34 true,
 oG 37 1000029 .move [1] 34 true,
 oG 38 1000030 (.indexAddr 2 none) [36,37] 34 true,
 oG 39 1000031 (.load true 2) [38] 34 true,
 oG 40 1000032 .move [0] 34 true,
 oG 41 1000033 .move [11] 34 true,
 oG 42 1000034 (.indexAddr 2 none) [40,41] 34 true,
 oG 43 1000035 (.load true 2) [42] 34 true,
 oG 44 1000036 (.callv false) [35,39,43] 34 true,
 ⟨(some 45),1000040,(.bin .lss),[.t 44,.c (.int .i64 (0))],(some (34,true))⟩,
 oG 46 1000041 (.un .not) [45] 34 true,
 ⟨(some 47),1000042,.pick,[.t 34,.t 46,.c (.bool false)],none⟩])
 (.cond (.t 47) (.skip) (.exit 2)))
 (.block 3 (.region [mR 48 43 11,
 ⟨(some 49),1000044,(.bin .add),[.t 48,.c (.int .i64 (1))],none⟩,
 mR 11 45 49])))))
 (.joinT (Int×Int×(List (aB))) (fun x=>⟨.msl 0 2 x.2.2.length::.int .i64 a.2.1::.dead::.dead::.fn 199 []::dd 6 (.int .i64 x.1::.int .i64 x.2.1::dd 77 []),[(0,false,[.dead,.arr false 2 x.2.2.length (gl aA x.2.2)])],[]⟩) (.block 4 (.loopT (Int×Int×(List (aB))) (f239.S2 a) 1000046 1000068 (.seq (.seq (.region [mR 50 46 11,
 mR 51 47 12,
 oR 52 48 (.bin .leq) [50,51],
 mR 53 49 52,
 oG 54 1000050 .move [4] 53 true,
 oG 55 1000051 .move [0] 53 true,
 oG 56 1000052 .move [1] 53 true,
 oG 57 1000053 (.indexAddr 2 none) [55,56] 53 true,
 oG 58 1000054 (.load true 2) [57] 53 true,
 oG 59 1000055 .move [0] 53 true,
 oG 60 1000056 .move [12] 53 true,
 oG 61 1000057 (.indexAddr 2 none) [59,60] 53 true,
 oG 62 1000058 (.load true 2) [61] 53 true,
 oG 63 1000059 (.callv false) [54,58,62] 53 true,
 ⟨(some 64),1000063,(.bin .lss),[.t 63,.c (.int .i64 (0))],(some (53,true))⟩,
 ⟨(some 65),1000064,.pick,[.t 53,.t 64,.c (.bool false)],none⟩])
 (.cond (.t 65) (.skip) (.exit 4)))
 (.block 5 (.region [mR 66 65 12,
 ⟨(some 67),1000066,(.bin .sub),[.t 66,.c (.int .i64 (1))],none⟩,
 mR 12 67 67])))))
 (.seq (.seq (.region [mR 68 68 11,
 mR 69 69 12,
 oR 70 70 (.bin .gtr) [68,69]])
 (.cond (.t 70) (.exit 0) (.skip)))
 (.seq (.region [mR 71 71 0,
 mR 72 72 11,
 mR 73 73 0,
 mR 74 74 12,
 mR 75 75 0,
 mR 76 76 12,
 oR 77 77 (.indexAddr 2 none) [75,76],
 oR 78 78 (.load true 2) [77],
 mR 79 79 0,
 mR 80 80 11,
 oR 81 81 (.indexAddr 2 none) [79,80],
 oR 82 82 (.load true 2) [81],
 oR 83 83 (.indexAddr 2 none) [71,72],
 ⟨none,1000084,(.store 2),[.t 83,.t 78],none⟩,
 oR 84 85 (.indexAddr 2 none) [73,74],
 ⟨none,1000086,(.store 2),[.t 84,.t 82],none⟩])
 (.seq (.region [mR 85 87 11,
 ⟨(some 86),1000088,(.bin .add),[.t 85,.c (.int .i64 (1))],none⟩,
 mR 11 89 86])
 (.region [mR 87 90 12,
 ⟨(some 88),1000091,(.bin .sub),[.t 87,.c (.int .i64 (1))],none⟩,
 mR 12 92 88])))))))))
 (.seq (.region [mR 89 93 11,
 mR 10 94 89])
 (.ret))))))
 [.tmp 10] 1 85
def f239.env:Env:=[(199,f199.C)]
def f239.tree (a:(List (aB))×Int×Int×Int):Prop:=Br (decide ((0:Int)≤a.2.2.2)&&decide (a.2.2.2 < (List.length a.1:Int))) ((a.1.length=a.1.length)∧(Br (decide ((0:Int)≤a.2.1)&&decide (a.2.1 < (List.length a.1:Int))) ((a.1.length=a.1.length)∧(Br (decide ((0:Int)≤a.2.1)&&decide (a.2.1 < (List.length a.1:Int))) ((a.1.length=a.1.length)∧(Br (decide ((0:Int)≤a.2.2.2)&&decide (a.2.2.2 < (List.length a.1:Int))) ((a.1.length=a.1.length)∧(Let (wI (a.2.1+(1:Int))) (fun v5:Int=>Let (wI (a.2.2.1 - (1:Int))) (fun v6:Int=>∃ (I8:(Int×Int×(List (aB)))→Prop) (μ9:(Int×Int×(List (aB)))→Nat),(∃ x7:Int×Int×(List (aB)),(a.1.length=x7.2.2.length)∧(a.2.1=a.2.1)∧(DEqs [] [])∧(v5=x7.1)∧(v6=x7.2.1)∧SlQ a.1.length x7.2.2.length (gset (gset (gl aA a.1) (Int.toNat a.2.1) [.str ((at_ a.1 a.2.2.2).1),.int .i64 ((at_ a.1 a.2.2.2).2)]) (Int.toNat a.2.2.2) [.str ((at_ a.1 a.2.1).1),.int .i64 ((at_ a.1 a.2.1).2)]) (gl aA x7.2.2) (I8 x7))∧∀ y10:Int×Int×(List (aB)),I8 y10→(∃ I11:(Int×Int×(List (aB)))→Prop,(∃ (I13:(Int×Int×(List (aB)))→Prop) (μ14:(Int×Int×(List (aB)))→Nat),(∃ x12:Int×Int×(List (aB)),(y10.2.2.length=x12.2.2.length)∧(a.2.1=a.2.1)∧(DEqs [] [])∧(y10.1=x12.1)∧(y10.2.1=x12.2.1)∧SlQ y10.2.2.length x12.2.2.length (gl aA y10.2.2) (gl aA x12.2.2) (I13 x12))∧∀ y15:Int×Int×(List (aB)),I13 y15→(Br (decide (y15.1≤y15.2.1)) (Br (decide ((0:Int)≤a.2.1)&&decide (a.2.1 < (List.length y15.2.2:Int))) ((y15.2.2.length=y15.2.2.length)∧(Br (decide ((0:Int)≤y15.1)&&decide (y15.1 < (List.length y15.2.2:Int))) ((y15.2.2.length=y15.2.2.length)∧(f199.ent (fun c20=>True∧Br (!(decide ((cD c20) < (0:Int)))) (Let (wI (y15.1+(1:Int))) (fun v23:Int=>∃ x24:Int×Int×(List (aB)),(y15.2.2.length=x24.2.2.length)∧(a.2.1=a.2.1)∧(DEqs [] [])∧(v23=x24.1)∧(y15.2.1=x24.2.1)∧SlQ y15.2.2.length x24.2.2.length (gl aA y15.2.2) (gl aA x24.2.2) (I13 x24∧μ14 x24 < μ14 y15))) (∃ x29:Int×Int×(List (aB)),(y15.2.2.length=x29.2.2.length)∧(a.2.1=a.2.1)∧(DEqs [] [])∧(y15.1=x29.1)∧(y15.2.1=x29.2.1)∧SlQ y15.2.2.length x29.2.2.length (gl aA y15.2.2) (gl aA x29.2.2) (I11 x29))) ((at_ y15.2.2 a.2.1),(at_ y15.2.2 y15.1)))) False)) False) (∃ x35:Int×Int×(List (aB)),(y15.2.2.length=x35.2.2.length)∧(a.2.1=a.2.1)∧(DEqs [] [])∧(y15.1=x35.1)∧(y15.2.1=x35.2.1)∧SlQ y15.2.2.length x35.2.2.length (gl aA y15.2.2) (gl aA x35.2.2) (I11 x35))))∧∀ y41:Int×Int×(List (aB)),I11 y41→(∃ I44:(Int×Int×(List (aB)))→Prop,(∃ (I46:(Int×Int×(List (aB)))→Prop) (μ47:(Int×Int×(List (aB)))→Nat),(∃ x45:Int×Int×(List (aB)),(y41.2.2.length=x45.2.2.length)∧(a.2.1=a.2.1)∧(DEqs [] [])∧(y41.1=x45.1)∧(y41.2.1=x45.2.1)∧SlQ y41.2.2.length x45.2.2.length (gl aA y41.2.2) (gl aA x45.2.2) (I46 x45))∧∀ y48:Int×Int×(List (aB)),I46 y48→(Br (decide (y48.1≤y48.2.1)) (Br (decide ((0:Int)≤a.2.1)&&decide (a.2.1 < (List.length y48.2.2:Int))) ((y48.2.2.length=y48.2.2.length)∧(Br (decide ((0:Int)≤y48.2.1)&&decide (y48.2.1 < (List.length y48.2.2:Int))) ((y48.2.2.length=y48.2.2.length)∧(f199.ent (fun c53=>True∧Br (decide ((cD c53) < (0:Int))) (Let (wI (y48.2.1 - (1:Int))) (fun v56:Int=>∃ x57:Int×Int×(List (aB)),(y48.2.2.length=x57.2.2.length)∧(a.2.1=a.2.1)∧(DEqs [] [])∧(y48.1=x57.1)∧(v56=x57.2.1)∧SlQ y48.2.2.length x57.2.2.length (gl aA y48.2.2) (gl aA x57.2.2) (I46 x57∧μ47 x57 < μ47 y48))) (∃ x62:Int×Int×(List (aB)),(y48.2.2.length=x62.2.2.length)∧(a.2.1=a.2.1)∧(DEqs [] [])∧(y48.1=x62.1)∧(y48.2.1=x62.2.1)∧SlQ y48.2.2.length x62.2.2.length (gl aA y48.2.2) (gl aA x62.2.2) (I44 x62))) ((at_ y48.2.2 a.2.1),(at_ y48.2.2 y48.2.1)))) False)) False) (∃ x68:Int×Int×(List (aB)),(y48.2.2.length=x68.2.2.length)∧(a.2.1=a.2.1)∧(DEqs [] [])∧(y48.1=x68.1)∧(y48.2.1=x68.2.1)∧SlQ y48.2.2.length x68.2.2.length (gl aA y48.2.2) (gl aA x68.2.2) (I44 x68))))∧∀ y74:Int×Int×(List (aB)),I44 y74→(Br (decide (y74.2.1 < y74.1)) ((y74.1=(((dJ aJ) a).1))∧SlQ y74.2.2.length (List.length (((dJ aJ) a).2)) (gl aA y74.2.2) (gl aA (((dJ aJ) a).2)) (True)) (Br (decide ((0:Int)≤y74.2.1)&&decide (y74.2.1 < (List.length y74.2.2:Int))) ((y74.2.2.length=y74.2.2.length)∧(Br (decide ((0:Int)≤y74.1)&&decide (y74.1 < (List.length y74.2.2:Int))) ((y74.2.2.length=y74.2.2.length)∧(Br (decide ((0:Int)≤y74.1)&&decide (y74.1 < (List.length y74.2.2:Int))) ((y74.2.2.length=y74.2.2.length)∧(Br (decide ((0:Int)≤y74.2.1)&&decide (y74.2.1 < (List.length y74.2.2:Int))) ((y74.2.2.length=y74.2.2.length)∧(Let (wI (y74.1+(1:Int))) (fun v84:Int=>Let (wI (y74.2.1 - (1:Int))) (fun v85:Int=>∃ x86:Int×Int×(List (aB)),(y74.2.2.length=x86.2.2.length)∧(a.2.1=a.2.1)∧(DEqs [] [])∧(v84=x86.1)∧(v85=x86.2.1)∧SlQ y74.2.2.length x86.2.2.length (gset (gset (gl aA y74.2.2) (Int.toNat y74.1) [.str ((at_ y74.2.2 y74.2.1).1),.int .i64 ((at_ y74.2.2 y74.2.1).2)]) (Int.toNat y74.2.1) [.str ((at_ y74.2.2 y74.1).1),.int .i64 ((at_ y74.2.2 y74.1).2)]) (gl aA x86.2.2) (I8 x86∧μ9 x86 < μ9 y10))))) False)) False)) False)) False)))))))) False)) False)) False)) False
def f239.vc (a:(List (aB))×Int×Int×Int):Prop:=((0:Int)≤a.2.2.2∧a.2.2.2 < (List.length a.1:Int)∧((0:Int)≤a.2.1∧a.2.1 < (List.length a.1:Int)∧((0:Int)≤a.2.1∧a.2.1 < (List.length a.1:Int)∧((0:Int)≤a.2.2.2∧a.2.2.2 < (List.length a.1:Int)∧(-9223372036854775808≤(a.2.1+(1:Int))∧(a.2.1+(1:Int))≤9223372036854775807∧(-9223372036854775808≤(a.2.2.1 - (1:Int))∧(a.2.2.1 - (1:Int))≤9223372036854775807∧(∃ (I8:(Int×Int×(List (aB)))→Prop) (μ9:(Int×Int×(List (aB)))→Nat),I8 ((a.2.1+(1:Int)),(a.2.2.1 - (1:Int)),List.set (List.set a.1 (Int.toNat a.2.1) (at_ a.1 a.2.2.2)) (Int.toNat a.2.2.2) (at_ a.1 a.2.1))∧∀ y10:Int×Int×(List (aB)),I8 y10→(∃ I11:(Int×Int×(List (aB)))→Prop,((∃ (I13:(Int×Int×(List (aB)))→Prop) (μ14:(Int×Int×(List (aB)))→Nat),I13 (y10.1,y10.2.1,y10.2.2)∧∀ y15:Int×Int×(List (aB)),I13 y15→((y15.1≤y15.2.1→((0:Int)≤a.2.1∧a.2.1 < (List.length y15.2.2:Int)∧((0:Int)≤y15.1∧y15.1 < (List.length y15.2.2:Int)∧((¬((cD ((at_ y15.2.2 a.2.1),(at_ y15.2.2 y15.1))) < (0:Int))→(-9223372036854775808≤(y15.1+(1:Int))∧(y15.1+(1:Int))≤9223372036854775807∧(I13 ((y15.1+(1:Int)),y15.2.1,y15.2.2)∧μ14 ((y15.1+(1:Int)),y15.2.1,y15.2.2) < μ14 y15)))∧(¬(¬((cD ((at_ y15.2.2 a.2.1),(at_ y15.2.2 y15.1))) < (0:Int)))→(I11 (y15.1,y15.2.1,y15.2.2)))))))∧(¬(y15.1≤y15.2.1)→(I11 (y15.1,y15.2.1,y15.2.2))))))∧∀ y41:Int×Int×(List (aB)),I11 y41→(∃ I44:(Int×Int×(List (aB)))→Prop,((∃ (I46:(Int×Int×(List (aB)))→Prop) (μ47:(Int×Int×(List (aB)))→Nat),I46 (y41.1,y41.2.1,y41.2.2)∧∀ y48:Int×Int×(List (aB)),I46 y48→((y48.1≤y48.2.1→((0:Int)≤a.2.1∧a.2.1 < (List.length y48.2.2:Int)∧((0:Int)≤y48.2.1∧y48.2.1 < (List.length y48.2.2:Int)∧(((cD ((at_ y48.2.2 a.2.1),(at_ y48.2.2 y48.2.1))) < (0:Int)→(-9223372036854775808≤(y48.2.1 - (1:Int))∧(y48.2.1 - (1:Int))≤9223372036854775807∧(I46 (y48.1,(y48.2.1 - (1:Int)),y48.2.2)∧μ47 (y48.1,(y48.2.1 - (1:Int)),y48.2.2) < μ47 y48)))∧(¬((cD ((at_ y48.2.2 a.2.1),(at_ y48.2.2 y48.2.1))) < (0:Int))→(I44 (y48.1,y48.2.1,y48.2.2)))))))∧(¬(y48.1≤y48.2.1)→(I44 (y48.1,y48.2.1,y48.2.2))))))∧∀ y74:Int×Int×(List (aB)),I44 y74→((y74.2.1 < y74.1→((y74.1,y74.2.2)=(dJ aJ) a))∧(¬(y74.2.1 < y74.1)→((0:Int)≤y74.2.1∧y74.2.1 < (List.length y74.2.2:Int)∧((0:Int)≤y74.1∧y74.1 < (List.length y74.2.2:Int)∧((0:Int)≤y74.1∧y74.1 < (List.length y74.2.2:Int)∧((0:Int)≤y74.2.1∧y74.2.1 < (List.length y74.2.2:Int)∧(-9223372036854775808≤(y74.1+(1:Int))∧(y74.1+(1:Int))≤9223372036854775807∧(-9223372036854775808≤(y74.2.1 - (1:Int))∧(y74.2.1 - (1:Int))≤9223372036854775807∧(I8 ((y74.1+(1:Int)),(y74.2.1 - (1:Int)),List.set (List.set y74.2.2 (Int.toNat y74.1) (at_ y74.2.2 y74.2.1)) (Int.toNat y74.2.1) (at_ y74.2.2 y74.1))∧μ9 ((y74.1+(1:Int)),(y74.2.1 - (1:Int)),List.set (List.set y74.2.2 (Int.toNat y74.1) (at_ y74.2.2 y74.2.1)) (Int.toNat y74.2.1) (at_ y74.2.2 y74.1)) < μ9 y10))))))))))))))))))
theorem f239.of (a:(List (aB))×Int×Int×Int) (h:f239.vc a):f239.tree a:=chk h.2.2 Cnd.ix ⟨h.1,h.2.1⟩ (fun h1 k112=>⟨rfl,chk k112.2.2 Cnd.ix ⟨k112.1,k112.2.1⟩ (fun h2 k111=>⟨rfl,chk k111.2.2 Cnd.ix ⟨k111.1,k111.2.1⟩ (fun h3 k110=>⟨rfl,chk k110.2.2 Cnd.ix ⟨k110.1,k110.2.1⟩ (fun h4 k109=>⟨rfl,wrapK.i64 k109 (fun h106 h107 k108=>wrapK.i64 k108 (fun h103 h104 k105=>Exists.elim k105 (fun I8 h100_=>Exists.elim h100_ (fun μ9 h100=>⟨I8,μ9,⟨((a.2.1+(1:Int)),(a.2.2.1 - (1:Int)),List.set (List.set a.1 (Int.toNat a.2.1) (at_ a.1 a.2.2.2)) (Int.toNat a.2.2.2) (at_ a.1 a.2.1)),⟨(bI (gset (gset (gl aA a.1) (Int.toNat a.2.1) [.str ((at_ a.1 a.2.2.2).1),.int .i64 ((at_ a.1 a.2.2.2).2)]) (Int.toNat a.2.2.2) [.str ((at_ a.1 a.2.1).1),.int .i64 ((at_ a.1 a.2.1).2)]) (Rds.gset (enc:=aA) (Rds.gset (enc:=aA) (rS aA) (DEqs.refl _)) (DEqs.refl _))),⟨rfl,⟨(DEqs.refl _),⟨rfl,⟨rfl,slQ (Rds.gset (enc:=aA) (Rds.gset (enc:=aA) (rS aA) (DEqs.refl _)) (DEqs.refl _)) (h100.1)⟩⟩⟩⟩⟩⟩,fun y10 h102=>Exists.elim (h100.2 y10 h102) (fun I11 h43=>⟨I11,Exists.elim h43.1 (fun I13 h38_=>Exists.elim h38_ (fun μ14 h38=>⟨I13,μ14,⟨(y10.1,y10.2.1,y10.2.2),⟨(bI (gl aA y10.2.2) (rS aA)),⟨rfl,⟨(DEqs.refl _),⟨rfl,⟨rfl,slQ (rS aA) (h38.1)⟩⟩⟩⟩⟩⟩,fun y15 h40=>br (h38.2 y15 h40) Cnd.dec (fun h16 k36=>chk k36.2.2 Cnd.ix ⟨k36.1,k36.2.1⟩ (fun h18 k34=>⟨rfl,chk k34.2.2 Cnd.ix ⟨k34.1,k34.2.1⟩ (fun h19 k33=>⟨rfl,(f199.ei ⟨trivial,br k33 (Cnd.not Cnd.dec) (fun h21 k30=>wrapK.i64 k30 (fun h26 h27 k28=>⟨((y15.1+(1:Int)),y15.2.1,y15.2.2),⟨(bI (gl aA y15.2.2) (rS aA)),⟨rfl,⟨(DEqs.refl _),⟨rfl,⟨rfl,slQ (rS aA) (k28)⟩⟩⟩⟩⟩⟩)) (fun h22 k31=>⟨(y15.1,y15.2.1,y15.2.2),⟨(bI (gl aA y15.2.2) (rS aA)),⟨rfl,⟨(DEqs.refl _),⟨rfl,⟨rfl,slQ (rS aA) (k31)⟩⟩⟩⟩⟩⟩)⟩)⟩)⟩)) (fun h17 k37=>⟨(y15.1,y15.2.1,y15.2.2),⟨(bI (gl aA y15.2.2) (rS aA)),⟨rfl,⟨(DEqs.refl _),⟨rfl,⟨rfl,slQ (rS aA) (k37)⟩⟩⟩⟩⟩⟩)⟩)),fun y41 h42=>Exists.elim (h43.2 y41 h42) (fun I44 h76=>⟨I44,Exists.elim h76.1 (fun I46 h71_=>Exists.elim h71_ (fun μ47 h71=>⟨I46,μ47,⟨(y41.1,y41.2.1,y41.2.2),⟨(bI (gl aA y41.2.2) (rS aA)),⟨rfl,⟨(DEqs.refl _),⟨rfl,⟨rfl,slQ (rS aA) (h71.1)⟩⟩⟩⟩⟩⟩,fun y48 h73=>br (h71.2 y48 h73) Cnd.dec (fun h49 k69=>chk k69.2.2 Cnd.ix ⟨k69.1,k69.2.1⟩ (fun h51 k67=>⟨rfl,chk k67.2.2 Cnd.ix ⟨k67.1,k67.2.1⟩ (fun h52 k66=>⟨rfl,(f199.ei ⟨trivial,br k66 Cnd.dec (fun h54 k63=>wrapK.i64 k63 (fun h59 h60 k61=>⟨(y48.1,(y48.2.1 - (1:Int)),y48.2.2),⟨(bI (gl aA y48.2.2) (rS aA)),⟨rfl,⟨(DEqs.refl _),⟨rfl,⟨rfl,slQ (rS aA) (k61)⟩⟩⟩⟩⟩⟩)) (fun h55 k64=>⟨(y48.1,y48.2.1,y48.2.2),⟨(bI (gl aA y48.2.2) (rS aA)),⟨rfl,⟨(DEqs.refl _),⟨rfl,⟨rfl,slQ (rS aA) (k64)⟩⟩⟩⟩⟩⟩)⟩)⟩)⟩)) (fun h50 k70=>⟨(y48.1,y48.2.1,y48.2.2),⟨(bI (gl aA y48.2.2) (rS aA)),⟨rfl,⟨(DEqs.refl _),⟨rfl,⟨rfl,slQ (rS aA) (k70)⟩⟩⟩⟩⟩⟩)⟩)),fun y74 h75=>br (h76.2 y74 h75) Cnd.dec (fun h77 k98=>⟨(congrArg (fun x:Int×(List (aB))=>x.1) k98 :),slQ (Rds.to (rS aA) (congrArg (fun x:Int×(List (aB))=>x.2) k98 :)) (trivial)⟩) (fun h78 k99=>chk k99.2.2 Cnd.ix ⟨k99.1,k99.2.1⟩ (fun h80 k97=>⟨rfl,chk k97.2.2 Cnd.ix ⟨k97.1,k97.2.1⟩ (fun h81 k96=>⟨rfl,chk k96.2.2 Cnd.ix ⟨k96.1,k96.2.1⟩ (fun h82 k95=>⟨rfl,chk k95.2.2 Cnd.ix ⟨k95.1,k95.2.1⟩ (fun h83 k94=>⟨rfl,wrapK.i64 k94 (fun h91 h92 k93=>wrapK.i64 k93 (fun h88 h89 k90=>⟨((y74.1+(1:Int)),(y74.2.1 - (1:Int)),List.set (List.set y74.2.2 (Int.toNat y74.1) (at_ y74.2.2 y74.2.1)) (Int.toNat y74.2.1) (at_ y74.2.2 y74.1)),⟨(bI (gset (gset (gl aA y74.2.2) (Int.toNat y74.1) [.str ((at_ y74.2.2 y74.2.1).1),.int .i64 ((at_ y74.2.2 y74.2.1).2)]) (Int.toNat y74.2.1) [.str ((at_ y74.2.2 y74.1).1),.int .i64 ((at_ y74.2.2 y74.1).2)]) (Rds.gset (enc:=aA) (Rds.gset (enc:=aA) (rS aA) (DEqs.refl _)) (DEqs.refl _))),⟨rfl,⟨(DEqs.refl _),⟨rfl,⟨rfl,slQ (Rds.gset (enc:=aA) (Rds.gset (enc:=aA) (rS aA) (DEqs.refl _)) (DEqs.refl _)) (k90)⟩⟩⟩⟩⟩⟩))⟩)⟩)⟩)⟩))⟩)⟩)⟩))))⟩)⟩)⟩)⟩)
theorem f239.eq (a:(List (aB))×Int×Int×Int):(f239.af a).gives f239.env (f239.args a) (f239.blks a) (f239.res a) (f239.blks' a)=f239.tree a:=by kernel_rfl
def f240.args (a:(List (aB))×Int×Int×Int):List D:=[.msl 0 2 a.1.length,.int .i64 a.2.1,.int .i64 a.2.2.1,.int .i64 a.2.2.2,.fn 199 []]
def f240.blks (a:(List (aB))×Int×Int×Int):List (List D):=[[.dead,.arr false 2 a.1.length (gl aA a.1)]]
def f240.res (a:(List (aB))×Int×Int×Int):List D:=[.int .i64 (((a6 aJ) a).1),.bool (((a6 aJ) a).2.1)]
def f240.blks' (a:(List (aB))×Int×Int×Int):List (List D):=[[.dead,.arr false 2 (List.length (((a6 aJ) a).2.2)) (gl aA (((a6 aJ) a).2.2))]]
def f240.C:aN:=FnC f240.args f240.blks (fun a=>iS a) f240.res f240.blks'
def f240.S0 (a:(List (aB))×Int×Int×Int) (x:Int×Int×(List (aB))):Tm:=⟨.msl 0 2 x.2.2.length::.int .i64 a.2.1::.dead::.dead::.fn 199 []::dd 7 (.int .i64 x.1::.int .i64 x.2.1::dd 164 []),[(0,false,[.dead,.arr false 2 x.2.2.length (gl aA x.2.2)])],[]⟩
def f240.S1 (a:(List (aB))×Int×Int×Int) (x:Int×Int×(List (aB))):Tm:=⟨.msl 0 2 x.2.2.length::.int .i64 a.2.1::.dead::.dead::.fn 199 []::dd 7 (.int .i64 x.1::.int .i64 x.2.1::dd 164 []),[(0,false,[.dead,.arr false 2 x.2.2.length (gl aA x.2.2)])],[]⟩
def f240.S2 (a:(List (aB))×Int×Int×Int) (x:Int×Int×(List (aB))):Tm:=⟨.msl 0 2 x.2.2.length::.int .i64 a.2.1::.dead::.dead::.fn 199 []::dd 7 (.int .i64 x.1::.int .i64 x.2.1::dd 164 []),[(0,false,[.dead,.arr false 2 x.2.2.length (gl aA x.2.2)])],[]⟩
def f240.S3 (a:(List (aB))×Int×Int×Int) (x:Int×Int×(List (aB))):Tm:=⟨.msl 0 2 x.2.2.length::.int .i64 a.2.1::.dead::.dead::.fn 199 []::dd 7 (.int .i64 x.1::.int .i64 x.2.1::dd 164 []),[(0,false,[.dead,.arr false 2 x.2.2.length (gl aA x.2.2)])],[]⟩
def f240.S4 (a:(List (aB))×Int×Int×Int) (x:Int×Int×(List (aB))):Tm:=⟨.msl 0 2 x.2.2.length::.int .i64 a.2.1::.dead::.dead::.fn 199 []::dd 7 (.int .i64 x.1::.int .i64 x.2.1::dd 164 []),[(0,false,[.dead,.arr false 2 x.2.2.length (gl aA x.2.2)])],[]⟩
def f240.kills (a:(List (aB))×Int×Int×Int):List Hint:=[.tell (Int×Int×(List (aB))) (f240.S0 a),
 .tell (Int×Int×(List (aB))) (f240.S1 a),
 .tell (Int×Int×(List (aB))) (f240.S2 a),
 .tell (Int×Int×(List (aB))) (f240.S3 a),
 .tell (Int×Int×(List (aB))) (f240.S4 a)]
def f240.cuts (a:(List (aB))×Int×Int×Int):List (Nat×Σ β:Type,β→Tm):=[(999999,⟨Unit,fun x=>⟨[],[],[]⟩⟩),
 (100003,⟨Int×Int×(List (aB)),fun x=>⟨.msl 0 2 x.2.2.length::.int .i64 a.2.1::.dead::.dead::.fn 199 []::dd 7 (.int .i64 x.1::.int .i64 x.2.1::dd 164 []),[(0,false,[.dead,.arr false 2 x.2.2.length (gl aA x.2.2)])],[]⟩⟩),
 (100006,⟨Int×Int×(List (aB)),fun x=>⟨.msl 0 2 x.2.2.length::.int .i64 a.2.1::.dead::.dead::.fn 199 []::dd 7 (.int .i64 x.1::.int .i64 x.2.1::dd 164 []),[(0,false,[.dead,.arr false 2 x.2.2.length (gl aA x.2.2)])],[]⟩⟩),
 (100017,⟨Int×Int×(List (aB)),fun x=>⟨.msl 0 2 x.2.2.length::.int .i64 a.2.1::.dead::.dead::.fn 199 []::dd 7 (.int .i64 x.1::.int .i64 x.2.1::dd 164 []),[(0,false,[.dead,.arr false 2 x.2.2.length (gl aA x.2.2)])],[]⟩⟩),
 (100020,⟨Int×Int×(List (aB)),fun x=>⟨.msl 0 2 x.2.2.length::.int .i64 a.2.1::.dead::.dead::.fn 199 []::dd 7 (.int .i64 x.1::.int .i64 x.2.1::dd 164 []),[(0,false,[.dead,.arr false 2 x.2.2.length (gl aA x.2.2)])],[]⟩⟩)]
def f240.af (a:(List (aB))×Int×Int×Int):AF:=AF.mk (.seq (.region [⟨(some 10),1000000,.move,[.c (.int .i64 (0))],none⟩,
 ⟨(some 11),1000001,.move,[.c (.bool false)],none⟩])
 (.seq (.region [mR 14 2 0,
 mR 15 3 1,
 mR 16 4 0,
 mR 17 5 3,
 mR 18 6 0,
 mR 19 7 3,
 oR 20 8 (.indexAddr 2 none) [18,19],
 oR 21 9 (.load true 2) [20],
 mR 22 10 0,
 mR 23 11 1,
 oR 24 12 (.indexAddr 2 none) [22,23],
 oR 25 13 (.load true 2) [24],
 oR 26 14 (.indexAddr 2 none) [14,15],
 ⟨none,1000015,(.store 2),[.t 26,.t 21],none⟩,
 oR 27 16 (.indexAddr 2 none) [16,17],
 ⟨none,1000017,(.store 2),[.t 27,.t 25],none⟩])
 (.seq (.region [mR 28 18 1,
 ⟨(some 29),1000019,(.bin .add),[.t 28,.c (.int .i64 (1))],none⟩,
 mR 30 20 2,
 ⟨(some 31),1000021,(.bin .sub),[.t 30,.c (.int .i64 (1))],none⟩,
 mR 12 22 29,
 mR 13 23 31])
 (.joinT (Int×Int×(List (aB))) (fun x=>⟨.msl 0 2 x.2.2.length::.int .i64 a.2.1::.dead::.dead::.fn 199 []::dd 7 (.int .i64 x.1::.int .i64 x.2.1::dd 164 []),[(0,false,[.dead,.arr false 2 x.2.2.length (gl aA x.2.2)])],[]⟩) (.block 0 (.loopT (Int×Int×(List (aB))) (f240.S0 a) 1000024 1000046 (.seq (.seq (.region [mR 32 24 12,
 mR 33 25 13,
 oR 34 26 (.bin .leq) [32,33],
 mR 35 27 34,
 oG 36 1000028 .move [4] 35 true,
 oG 37 1000029 .move [0] 35 true,
 oG 38 1000030 .move [12] 35 true,
 oG 39 1000031 (.indexAddr 2 none) [37,38] 35 true,
 oG 40 1000032 (.load true 2) [39] 35 true,
 oG 41 1000033 .move [0] 35 true,
 oG 42 1000034 .move [1] 35 true,
 oG 43 1000035 (.indexAddr 2 none) [41,42] 35 true,
 oG 44 1000036 (.load true 2) [43] 35 true,
 oG 45 1000037 (.callv false) [36,40,44] 35 true,
 ⟨(some 46),1000041,(.bin .lss),[.t 45,.c (.int .i64 (0))],(some (35,true))⟩,
 ⟨(some 47),1000042,.pick,[.t 35,.t 46,.c (.bool false)],none⟩])
 (.cond (.t 47) (.skip) (.exit 0)))
 (.block 1 (.region [mR 48 43 12,
 ⟨(some 49),1000044,(.bin .add),[.t 48,.c (.int .i64 (1))],none⟩,
 mR 12 45 49])))))
 (.joinT (Int×Int×(List (aB))) (fun x=>⟨.msl 0 2 x.2.2.length::.int .i64 a.2.1::.dead::.dead::.fn 199 []::dd 7 (.int .i64 x.1::.int .i64 x.2.1::dd 164 []),[(0,false,[.dead,.arr false 2 x.2.2.length (gl aA x.2.2)])],[]⟩) (.block 2 (.loopT (Int×Int×(List (aB))) (f240.S1 a) 1000046 1000069 (.seq (.seq (.region [mR 50 46 12,
 mR 51 47 13,
 oR 52 48 (.bin .leq) [50,51],
 mR 53 49 52,
 oG 54 1000050 .move [4] 53 true,
 oG 55 1000051 .move [0] 53 true,
 oG 56 1000052 .move [13] 53 true,
 oG 57 1000053 (.indexAddr 2 none) [55,56] 53 true,
 oG 58 1000054 (.load true 2) [57] 53 true,
 oG 59 1000055 .move [0] 53 true,
 oG 60 1000056 .move [1] 53 true,
 oG 61 1000057 (.indexAddr 2 none) [59,60] 53 true,
 oG 62 1000058 (.load true 2) [61] 53 true,
 oG 63 1000059 (.callv false) [54,58,62] 53 true,
 ⟨(some 64),1000063,(.bin .lss),[.t 63,.c (.int .i64 (0))],(some (53,true))⟩,
 oG 65 1000064 (.un .not) [64] 53 true,
 ⟨(some 66),1000065,.pick,[.t 53,.t 65,.c (.bool false)],none⟩])
 (.cond (.t 66) (.skip) (.exit 2)))
 (.block 3 (.region [mR 67 66 13,
 ⟨(some 68),1000067,(.bin .sub),[.t 67,.c (.int .i64 (1))],none⟩,
 mR 13 68 68])))))
 (.seq (.seq (.region [mR 69 69 12,
 mR 70 70 13,
 oR 71 71 (.bin .gtr) [69,70]])
 (.cond (.t 71) (.seq (.region [mR 72 72 0,
 mR 73 73 13,
 mR 74 74 0,
 mR 75 75 1,
 mR 76 76 0,
 mR 77 77 1,
 oR 78 78 (.indexAddr 2 none) [76,77],
 oR 79 79 (.load true 2) [78],
 mR 80 80 0,
 mR 81 81 13,
 oR 82 82 (.indexAddr 2 none) [80,81],
 oR 83 83 (.load true 2) [82],
 oR 84 84 (.indexAddr 2 none) [72,73],
 ⟨none,1000085,(.store 2),[.t 84,.t 79],none⟩,
 oR 85 86 (.indexAddr 2 none) [74,75],
 ⟨none,1000087,(.store 2),[.t 85,.t 83],none⟩])
 (.seq (.region [mR 86 88 13,
 mR 10 89 86,
 ⟨(some 11),1000090,.move,[.c (.bool true)],none⟩])
 (.ret))) (.skip)))
 (.seq (.region [mR 87 91 0,
 mR 88 92 12,
 mR 89 93 0,
 mR 90 94 13,
 mR 91 95 0,
 mR 92 96 13,
 oR 93 97 (.indexAddr 2 none) [91,92],
 oR 94 98 (.load true 2) [93],
 mR 95 99 0,
 mR 96 100 12,
 oR 97 101 (.indexAddr 2 none) [95,96],
 oR 98 102 (.load true 2) [97],
 oR 99 103 (.indexAddr 2 none) [87,88],
 ⟨none,1000104,(.store 2),[.t 99,.t 94],none⟩,
 oR 100 105 (.indexAddr 2 none) [89,90],
 ⟨none,1000106,(.store 2),[.t 100,.t 98],none⟩])
 (.seq (.region [mR 101 107 12,
 ⟨(some 102),1000108,(.bin .add),[.t 101,.c (.int .i64 (1))],none⟩,
 mR 12 109 102])
 (.seq (.region [mR 103 110 13,
 ⟨(some 104),1000111,(.bin .sub),[.t 103,.c (.int .i64 (1))],none⟩,
 mR 13 112 104])
 (.seq (.block 4 (.loopT (Int×Int×(List (aB))) (f240.S2 a) 1000113 1000183 (.block 5 (.joinT (Int×Int×(List (aB))) (fun x=>⟨.msl 0 2 x.2.2.length::.int .i64 a.2.1::.dead::.dead::.fn 199 []::dd 7 (.int .i64 x.1::.int .i64 x.2.1::dd 164 []),[(0,false,[.dead,.arr false 2 x.2.2.length (gl aA x.2.2)])],[]⟩) (.block 6 (.loopT (Int×Int×(List (aB))) (f240.S3 a) 1000113 1000135 (.seq (.seq (.region [mR 105 113 12,
 mR 106 114 13,
 oR 107 115 (.bin .leq) [105,106],
 mR 108 116 107,
 oG 109 1000117 .move [4] 108 true,
 oG 110 1000118 .move [0] 108 true,
 oG 111 1000119 .move [12] 108 true,
 oG 112 1000120 (.indexAddr 2 none) [110,111] 108 true,
 oG 113 1000121 (.load true 2) [112] 108 true,
 oG 114 1000122 .move [0] 108 true,
 oG 115 1000123 .move [1] 108 true,
 oG 116 1000124 (.indexAddr 2 none) [114,115] 108 true,
 oG 117 1000125 (.load true 2) [116] 108 true,
 oG 118 1000126 (.callv false) [109,113,117] 108 true,
 ⟨(some 119),1000130,(.bin .lss),[.t 118,.c (.int .i64 (0))],(some (108,true))⟩,
 ⟨(some 120),1000131,.pick,[.t 108,.t 119,.c (.bool false)],none⟩])
 (.cond (.t 120) (.skip) (.exit 6)))
 (.block 7 (.region [mR 121 132 12,
 ⟨(some 122),1000133,(.bin .add),[.t 121,.c (.int .i64 (1))],none⟩,
 mR 12 134 122])))))
 (.joinT (Int×Int×(List (aB))) (fun x=>⟨.msl 0 2 x.2.2.length::.int .i64 a.2.1::.dead::.dead::.fn 199 []::dd 7 (.int .i64 x.1::.int .i64 x.2.1::dd 164 []),[(0,false,[.dead,.arr false 2 x.2.2.length (gl aA x.2.2)])],[]⟩) (.block 8 (.loopT (Int×Int×(List (aB))) (f240.S4 a) 1000135 1000158 (.seq (.seq (.region [mR 123 135 12,
 mR 124 136 13,
 oR 125 137 (.bin .leq) [123,124],
 mR 126 138 125,
 oG 127 1000139 .move [4] 126 true,
 oG 128 1000140 .move [0] 126 true,
 oG 129 1000141 .move [13] 126 true,
 oG 130 1000142 (.indexAddr 2 none) [128,129] 126 true,
 oG 131 1000143 (.load true 2) [130] 126 true,
 oG 132 1000144 .move [0] 126 true,
 oG 133 1000145 .move [1] 126 true,
 oG 134 1000146 (.indexAddr 2 none) [132,133] 126 true,
 oG 135 1000147 (.load true 2) [134] 126 true,
 oG 136 1000148 (.callv false) [127,131,135] 126 true,
 ⟨(some 137),1000152,(.bin .lss),[.t 136,.c (.int .i64 (0))],(some (126,true))⟩,
 oG 138 1000153 (.un .not) [137] 126 true,
 ⟨(some 139),1000154,.pick,[.t 126,.t 138,.c (.bool false)],none⟩])
 (.cond (.t 139) (.skip) (.exit 8)))
 (.block 9 (.region [mR 140 155 13,
 ⟨(some 141),1000156,(.bin .sub),[.t 140,.c (.int .i64 (1))],none⟩,
 mR 13 157 141])))))
 (.seq (.seq (.region [mR 142 158 12,
 mR 143 159 13,
 oR 144 160 (.bin .gtr) [142,143]])
 (.cond (.t 144) (.exit 4) (.skip)))
 (.seq (.region [mR 145 161 0,
 mR 146 162 12,
 mR 147 163 0,
 mR 148 164 13,
 mR 149 165 0,
 mR 150 166 13,
 oR 151 167 (.indexAddr 2 none) [149,150],
 oR 152 168 (.load true 2) [151],
 mR 153 169 0,
 mR 154 170 12,
 oR 155 171 (.indexAddr 2 none) [153,154],
 oR 156 172 (.load true 2) [155],
 oR 157 173 (.indexAddr 2 none) [145,146],
 ⟨none,1000174,(.store 2),[.t 157,.t 152],none⟩,
 oR 158 175 (.indexAddr 2 none) [147,148],
 ⟨none,1000176,(.store 2),[.t 158,.t 156],none⟩])
 (.seq (.region [mR 159 177 12,
 ⟨(some 160),1000178,(.bin .add),[.t 159,.c (.int .i64 (1))],none⟩,
 mR 12 179 160])
 (.region [mR 161 180 13,
 ⟨(some 162),1000181,(.bin .sub),[.t 161,.c (.int .i64 (1))],none⟩,
 mR 13 182 162])))))))))
 (.seq (.region [mR 163 183 0,
 mR 164 184 13,
 mR 165 185 0,
 mR 166 186 1,
 mR 167 187 0,
 mR 168 188 1,
 oR 169 189 (.indexAddr 2 none) [167,168],
 oR 170 190 (.load true 2) [169],
 mR 171 191 0,
 mR 172 192 13,
 oR 173 193 (.indexAddr 2 none) [171,172],
 oR 174 194 (.load true 2) [173],
 oR 175 195 (.indexAddr 2 none) [163,164],
 ⟨none,1000196,(.store 2),[.t 175,.t 170],none⟩,
 oR 176 197 (.indexAddr 2 none) [165,166],
 ⟨none,1000198,(.store 2),[.t 176,.t 174],none⟩])
 (.seq (.region [mR 177 199 13,
 mR 10 200 177,
 ⟨(some 11),1000201,.move,[.c (.bool false)],none⟩])
 (.ret)))))))))))))
 [.tmp 10,.tmp 11] 1 173
def f240.env:Env:=[(199,f199.C)]
def f240.tree (a:(List (aB))×Int×Int×Int):Prop:=Br (decide ((0:Int)≤a.2.2.2)&&decide (a.2.2.2 < (List.length a.1:Int))) ((a.1.length=a.1.length)∧(Br (decide ((0:Int)≤a.2.1)&&decide (a.2.1 < (List.length a.1:Int))) ((a.1.length=a.1.length)∧(Br (decide ((0:Int)≤a.2.1)&&decide (a.2.1 < (List.length a.1:Int))) ((a.1.length=a.1.length)∧(Br (decide ((0:Int)≤a.2.2.2)&&decide (a.2.2.2 < (List.length a.1:Int))) ((a.1.length=a.1.length)∧(Let (wI (a.2.1+(1:Int))) (fun v5:Int=>Let (wI (a.2.2.1 - (1:Int))) (fun v6:Int=>∃ I7:(Int×Int×(List (aB)))→Prop,(∃ (I9:(Int×Int×(List (aB)))→Prop) (μ10:(Int×Int×(List (aB)))→Nat),(∃ x8:Int×Int×(List (aB)),(a.1.length=x8.2.2.length)∧(a.2.1=a.2.1)∧(DEqs [] [])∧(v5=x8.1)∧(v6=x8.2.1)∧SlQ a.1.length x8.2.2.length (gset (gset (gl aA a.1) (Int.toNat a.2.1) [.str ((at_ a.1 a.2.2.2).1),.int .i64 ((at_ a.1 a.2.2.2).2)]) (Int.toNat a.2.2.2) [.str ((at_ a.1 a.2.1).1),.int .i64 ((at_ a.1 a.2.1).2)]) (gl aA x8.2.2) (I9 x8))∧∀ y11:Int×Int×(List (aB)),I9 y11→(Br (decide (y11.1≤y11.2.1)) (Br (decide ((0:Int)≤y11.1)&&decide (y11.1 < (List.length y11.2.2:Int))) ((y11.2.2.length=y11.2.2.length)∧(Br (decide ((0:Int)≤a.2.1)&&decide (a.2.1 < (List.length y11.2.2:Int))) ((y11.2.2.length=y11.2.2.length)∧(f199.ent (fun c16=>True∧Br (decide ((cD c16) < (0:Int))) (Let (wI (y11.1+(1:Int))) (fun v19:Int=>∃ x20:Int×Int×(List (aB)),(y11.2.2.length=x20.2.2.length)∧(a.2.1=a.2.1)∧(DEqs [] [])∧(v19=x20.1)∧(y11.2.1=x20.2.1)∧SlQ y11.2.2.length x20.2.2.length (gl aA y11.2.2) (gl aA x20.2.2) (I9 x20∧μ10 x20 < μ10 y11))) (∃ x25:Int×Int×(List (aB)),(y11.2.2.length=x25.2.2.length)∧(a.2.1=a.2.1)∧(DEqs [] [])∧(y11.1=x25.1)∧(y11.2.1=x25.2.1)∧SlQ y11.2.2.length x25.2.2.length (gl aA y11.2.2) (gl aA x25.2.2) (I7 x25))) ((at_ y11.2.2 y11.1),(at_ y11.2.2 a.2.1)))) False)) False) (∃ x31:Int×Int×(List (aB)),(y11.2.2.length=x31.2.2.length)∧(a.2.1=a.2.1)∧(DEqs [] [])∧(y11.1=x31.1)∧(y11.2.1=x31.2.1)∧SlQ y11.2.2.length x31.2.2.length (gl aA y11.2.2) (gl aA x31.2.2) (I7 x31))))∧∀ y37:Int×Int×(List (aB)),I7 y37→(∃ I40:(Int×Int×(List (aB)))→Prop,(∃ (I42:(Int×Int×(List (aB)))→Prop) (μ43:(Int×Int×(List (aB)))→Nat),(∃ x41:Int×Int×(List (aB)),(y37.2.2.length=x41.2.2.length)∧(a.2.1=a.2.1)∧(DEqs [] [])∧(y37.1=x41.1)∧(y37.2.1=x41.2.1)∧SlQ y37.2.2.length x41.2.2.length (gl aA y37.2.2) (gl aA x41.2.2) (I42 x41))∧∀ y44:Int×Int×(List (aB)),I42 y44→(Br (decide (y44.1≤y44.2.1)) (Br (decide ((0:Int)≤y44.2.1)&&decide (y44.2.1 < (List.length y44.2.2:Int))) ((y44.2.2.length=y44.2.2.length)∧(Br (decide ((0:Int)≤a.2.1)&&decide (a.2.1 < (List.length y44.2.2:Int))) ((y44.2.2.length=y44.2.2.length)∧(f199.ent (fun c49=>True∧Br (!(decide ((cD c49) < (0:Int)))) (Let (wI (y44.2.1 - (1:Int))) (fun v52:Int=>∃ x53:Int×Int×(List (aB)),(y44.2.2.length=x53.2.2.length)∧(a.2.1=a.2.1)∧(DEqs [] [])∧(y44.1=x53.1)∧(v52=x53.2.1)∧SlQ y44.2.2.length x53.2.2.length (gl aA y44.2.2) (gl aA x53.2.2) (I42 x53∧μ43 x53 < μ43 y44))) (∃ x58:Int×Int×(List (aB)),(y44.2.2.length=x58.2.2.length)∧(a.2.1=a.2.1)∧(DEqs [] [])∧(y44.1=x58.1)∧(y44.2.1=x58.2.1)∧SlQ y44.2.2.length x58.2.2.length (gl aA y44.2.2) (gl aA x58.2.2) (I40 x58))) ((at_ y44.2.2 y44.2.1),(at_ y44.2.2 a.2.1)))) False)) False) (∃ x64:Int×Int×(List (aB)),(y44.2.2.length=x64.2.2.length)∧(a.2.1=a.2.1)∧(DEqs [] [])∧(y44.1=x64.1)∧(y44.2.1=x64.2.1)∧SlQ y44.2.2.length x64.2.2.length (gl aA y44.2.2) (gl aA x64.2.2) (I40 x64))))∧∀ y70:Int×Int×(List (aB)),I40 y70→(Br (decide (y70.2.1 < y70.1)) (Br (decide ((0:Int)≤a.2.1)&&decide (a.2.1 < (List.length y70.2.2:Int))) ((y70.2.2.length=y70.2.2.length)∧(Br (decide ((0:Int)≤y70.2.1)&&decide (y70.2.1 < (List.length y70.2.2:Int))) ((y70.2.2.length=y70.2.2.length)∧(Br (decide ((0:Int)≤y70.2.1)&&decide (y70.2.1 < (List.length y70.2.2:Int))) ((y70.2.2.length=y70.2.2.length)∧(Br (decide ((0:Int)≤a.2.1)&&decide (a.2.1 < (List.length y70.2.2:Int))) ((y70.2.2.length=y70.2.2.length)∧((y70.2.1=(((a6 aJ) a).1))∧(true=(((a6 aJ) a).2.1))∧SlQ y70.2.2.length (List.length (((a6 aJ) a).2.2)) (gset (gset (gl aA y70.2.2) (Int.toNat y70.2.1) [.str ((at_ y70.2.2 a.2.1).1),.int .i64 ((at_ y70.2.2 a.2.1).2)]) (Int.toNat a.2.1) [.str ((at_ y70.2.2 y70.2.1).1),.int .i64 ((at_ y70.2.2 y70.2.1).2)]) (gl aA (((a6 aJ) a).2.2)) (True))) False)) False)) False)) False) (Br (decide ((0:Int)≤y70.2.1)&&decide (y70.2.1 < (List.length y70.2.2:Int))) ((y70.2.2.length=y70.2.2.length)∧(Br (decide ((0:Int)≤y70.1)&&decide (y70.1 < (List.length y70.2.2:Int))) ((y70.2.2.length=y70.2.2.length)∧(Br (decide ((0:Int)≤y70.1)&&decide (y70.1 < (List.length y70.2.2:Int))) ((y70.2.2.length=y70.2.2.length)∧(Br (decide ((0:Int)≤y70.2.1)&&decide (y70.2.1 < (List.length y70.2.2:Int))) ((y70.2.2.length=y70.2.2.length)∧(Let (wI (y70.1+(1:Int))) (fun v88:Int=>Let (wI (y70.2.1 - (1:Int))) (fun v89:Int=>∃ (I91:(Int×Int×(List (aB)))→Prop) (μ92:(Int×Int×(List (aB)))→Nat),(∃ x90:Int×Int×(List (aB)),(y70.2.2.length=x90.2.2.length)∧(a.2.1=a.2.1)∧(DEqs [] [])∧(v88=x90.1)∧(v89=x90.2.1)∧SlQ y70.2.2.length x90.2.2.length (gset (gset (gl aA y70.2.2) (Int.toNat y70.1) [.str ((at_ y70.2.2 y70.2.1).1),.int .i64 ((at_ y70.2.2 y70.2.1).2)]) (Int.toNat y70.2.1) [.str ((at_ y70.2.2 y70.1).1),.int .i64 ((at_ y70.2.2 y70.1).2)]) (gl aA x90.2.2) (I91 x90))∧∀ y93:Int×Int×(List (aB)),I91 y93→(∃ I94:(Int×Int×(List (aB)))→Prop,(∃ (I96:(Int×Int×(List (aB)))→Prop) (μ97:(Int×Int×(List (aB)))→Nat),(∃ x95:Int×Int×(List (aB)),(y93.2.2.length=x95.2.2.length)∧(a.2.1=a.2.1)∧(DEqs [] [])∧(y93.1=x95.1)∧(y93.2.1=x95.2.1)∧SlQ y93.2.2.length x95.2.2.length (gl aA y93.2.2) (gl aA x95.2.2) (I96 x95))∧∀ y98:Int×Int×(List (aB)),I96 y98→(Br (decide (y98.1≤y98.2.1)) (Br (decide ((0:Int)≤y98.1)&&decide (y98.1 < (List.length y98.2.2:Int))) ((y98.2.2.length=y98.2.2.length)∧(Br (decide ((0:Int)≤a.2.1)&&decide (a.2.1 < (List.length y98.2.2:Int))) ((y98.2.2.length=y98.2.2.length)∧(f199.ent (fun c103=>True∧Br (decide ((cD c103) < (0:Int))) (Let (wI (y98.1+(1:Int))) (fun v106:Int=>∃ x107:Int×Int×(List (aB)),(y98.2.2.length=x107.2.2.length)∧(a.2.1=a.2.1)∧(DEqs [] [])∧(v106=x107.1)∧(y98.2.1=x107.2.1)∧SlQ y98.2.2.length x107.2.2.length (gl aA y98.2.2) (gl aA x107.2.2) (I96 x107∧μ97 x107 < μ97 y98))) (∃ x112:Int×Int×(List (aB)),(y98.2.2.length=x112.2.2.length)∧(a.2.1=a.2.1)∧(DEqs [] [])∧(y98.1=x112.1)∧(y98.2.1=x112.2.1)∧SlQ y98.2.2.length x112.2.2.length (gl aA y98.2.2) (gl aA x112.2.2) (I94 x112))) ((at_ y98.2.2 y98.1),(at_ y98.2.2 a.2.1)))) False)) False) (∃ x118:Int×Int×(List (aB)),(y98.2.2.length=x118.2.2.length)∧(a.2.1=a.2.1)∧(DEqs [] [])∧(y98.1=x118.1)∧(y98.2.1=x118.2.1)∧SlQ y98.2.2.length x118.2.2.length (gl aA y98.2.2) (gl aA x118.2.2) (I94 x118))))∧∀ y124:Int×Int×(List (aB)),I94 y124→(∃ I127:(Int×Int×(List (aB)))→Prop,(∃ (I129:(Int×Int×(List (aB)))→Prop) (μ130:(Int×Int×(List (aB)))→Nat),(∃ x128:Int×Int×(List (aB)),(y124.2.2.length=x128.2.2.length)∧(a.2.1=a.2.1)∧(DEqs [] [])∧(y124.1=x128.1)∧(y124.2.1=x128.2.1)∧SlQ y124.2.2.length x128.2.2.length (gl aA y124.2.2) (gl aA x128.2.2) (I129 x128))∧∀ y131:Int×Int×(List (aB)),I129 y131→(Br (decide (y131.1≤y131.2.1)) (Br (decide ((0:Int)≤y131.2.1)&&decide (y131.2.1 < (List.length y131.2.2:Int))) ((y131.2.2.length=y131.2.2.length)∧(Br (decide ((0:Int)≤a.2.1)&&decide (a.2.1 < (List.length y131.2.2:Int))) ((y131.2.2.length=y131.2.2.length)∧(f199.ent (fun sG=>True∧Br (!(decide ((cD sG) < (0:Int)))) (Let (wI (y131.2.1 - (1:Int))) (fun v139:Int=>∃ x140:Int×Int×(List (aB)),(y131.2.2.length=x140.2.2.length)∧(a.2.1=a.2.1)∧(DEqs [] [])∧(y131.1=x140.1)∧(v139=x140.2.1)∧SlQ y131.2.2.length x140.2.2.length (gl aA y131.2.2) (gl aA x140.2.2) (I129 x140∧μ130 x140 < μ130 y131))) (∃ x145:Int×Int×(List (aB)),(y131.2.2.length=x145.2.2.length)∧(a.2.1=a.2.1)∧(DEqs [] [])∧(y131.1=x145.1)∧(y131.2.1=x145.2.1)∧SlQ y131.2.2.length x145.2.2.length (gl aA y131.2.2) (gl aA x145.2.2) (I127 x145))) ((at_ y131.2.2 y131.2.1),(at_ y131.2.2 a.2.1)))) False)) False) (∃ x151:Int×Int×(List (aB)),(y131.2.2.length=x151.2.2.length)∧(a.2.1=a.2.1)∧(DEqs [] [])∧(y131.1=x151.1)∧(y131.2.1=x151.2.1)∧SlQ y131.2.2.length x151.2.2.length (gl aA y131.2.2) (gl aA x151.2.2) (I127 x151))))∧∀ y157:Int×Int×(List (aB)),I127 y157→(Br (decide (y157.2.1 < y157.1)) (Br (decide ((0:Int)≤a.2.1)&&decide (a.2.1 < (List.length y157.2.2:Int))) ((y157.2.2.length=y157.2.2.length)∧(Br (decide ((0:Int)≤y157.2.1)&&decide (y157.2.1 < (List.length y157.2.2:Int))) ((y157.2.2.length=y157.2.2.length)∧(Br (decide ((0:Int)≤y157.2.1)&&decide (y157.2.1 < (List.length y157.2.2:Int))) ((y157.2.2.length=y157.2.2.length)∧(Br (decide ((0:Int)≤a.2.1)&&decide (a.2.1 < (List.length y157.2.2:Int))) ((y157.2.2.length=y157.2.2.length)∧((y157.2.1=(((a6 aJ) a).1))∧(false=(((a6 aJ) a).2.1))∧SlQ y157.2.2.length (List.length (((a6 aJ) a).2.2)) (gset (gset (gl aA y157.2.2) (Int.toNat y157.2.1) [.str ((at_ y157.2.2 a.2.1).1),.int .i64 ((at_ y157.2.2 a.2.1).2)]) (Int.toNat a.2.1) [.str ((at_ y157.2.2 y157.2.1).1),.int .i64 ((at_ y157.2.2 y157.2.1).2)]) (gl aA (((a6 aJ) a).2.2)) (True))) False)) False)) False)) False) (Br (decide ((0:Int)≤y157.2.1)&&decide (y157.2.1 < (List.length y157.2.2:Int))) ((y157.2.2.length=y157.2.2.length)∧(Br (decide ((0:Int)≤y157.1)&&decide (y157.1 < (List.length y157.2.2:Int))) ((y157.2.2.length=y157.2.2.length)∧(Br (decide ((0:Int)≤y157.1)&&decide (y157.1 < (List.length y157.2.2:Int))) ((y157.2.2.length=y157.2.2.length)∧(Br (decide ((0:Int)≤y157.2.1)&&decide (y157.2.1 < (List.length y157.2.2:Int))) ((y157.2.2.length=y157.2.2.length)∧(Let (wI (y157.1+(1:Int))) (fun v175:Int=>Let (wI (y157.2.1 - (1:Int))) (fun v176:Int=>∃ x177:Int×Int×(List (aB)),(y157.2.2.length=x177.2.2.length)∧(a.2.1=a.2.1)∧(DEqs [] [])∧(v175=x177.1)∧(v176=x177.2.1)∧SlQ y157.2.2.length x177.2.2.length (gset (gset (gl aA y157.2.2) (Int.toNat y157.1) [.str ((at_ y157.2.2 y157.2.1).1),.int .i64 ((at_ y157.2.2 y157.2.1).2)]) (Int.toNat y157.2.1) [.str ((at_ y157.2.2 y157.1).1),.int .i64 ((at_ y157.2.2 y157.1).2)]) (gl aA x177.2.2) (I91 x177∧μ92 x177 < μ92 y93))))) False)) False)) False)) False)))))))) False)) False)) False)) False))))))) False)) False)) False)) False
def f240.vc (a:(List (aB))×Int×Int×Int):Prop:=((0:Int)≤a.2.2.2∧a.2.2.2 < (List.length a.1:Int)∧((0:Int)≤a.2.1∧a.2.1 < (List.length a.1:Int)∧((0:Int)≤a.2.1∧a.2.1 < (List.length a.1:Int)∧((0:Int)≤a.2.2.2∧a.2.2.2 < (List.length a.1:Int)∧(-9223372036854775808≤(a.2.1+(1:Int))∧(a.2.1+(1:Int))≤9223372036854775807∧(-9223372036854775808≤(a.2.2.1 - (1:Int))∧(a.2.2.1 - (1:Int))≤9223372036854775807∧(∃ I7:(Int×Int×(List (aB)))→Prop,((∃ (I9:(Int×Int×(List (aB)))→Prop) (μ10:(Int×Int×(List (aB)))→Nat),I9 ((a.2.1+(1:Int)),(a.2.2.1 - (1:Int)),List.set (List.set a.1 (Int.toNat a.2.1) (at_ a.1 a.2.2.2)) (Int.toNat a.2.2.2) (at_ a.1 a.2.1))∧∀ y11:Int×Int×(List (aB)),I9 y11→((y11.1≤y11.2.1→((0:Int)≤y11.1∧y11.1 < (List.length y11.2.2:Int)∧((0:Int)≤a.2.1∧a.2.1 < (List.length y11.2.2:Int)∧(((cD ((at_ y11.2.2 y11.1),(at_ y11.2.2 a.2.1))) < (0:Int)→(-9223372036854775808≤(y11.1+(1:Int))∧(y11.1+(1:Int))≤9223372036854775807∧(I9 ((y11.1+(1:Int)),y11.2.1,y11.2.2)∧μ10 ((y11.1+(1:Int)),y11.2.1,y11.2.2) < μ10 y11)))∧(¬((cD ((at_ y11.2.2 y11.1),(at_ y11.2.2 a.2.1))) < (0:Int))→(I7 (y11.1,y11.2.1,y11.2.2)))))))∧(¬(y11.1≤y11.2.1)→(I7 (y11.1,y11.2.1,y11.2.2))))))∧∀ y37:Int×Int×(List (aB)),I7 y37→(∃ I40:(Int×Int×(List (aB)))→Prop,((∃ (I42:(Int×Int×(List (aB)))→Prop) (μ43:(Int×Int×(List (aB)))→Nat),I42 (y37.1,y37.2.1,y37.2.2)∧∀ y44:Int×Int×(List (aB)),I42 y44→((y44.1≤y44.2.1→((0:Int)≤y44.2.1∧y44.2.1 < (List.length y44.2.2:Int)∧((0:Int)≤a.2.1∧a.2.1 < (List.length y44.2.2:Int)∧((¬((cD ((at_ y44.2.2 y44.2.1),(at_ y44.2.2 a.2.1))) < (0:Int))→(-9223372036854775808≤(y44.2.1 - (1:Int))∧(y44.2.1 - (1:Int))≤9223372036854775807∧(I42 (y44.1,(y44.2.1 - (1:Int)),y44.2.2)∧μ43 (y44.1,(y44.2.1 - (1:Int)),y44.2.2) < μ43 y44)))∧(¬(¬((cD ((at_ y44.2.2 y44.2.1),(at_ y44.2.2 a.2.1))) < (0:Int)))→(I40 (y44.1,y44.2.1,y44.2.2)))))))∧(¬(y44.1≤y44.2.1)→(I40 (y44.1,y44.2.1,y44.2.2))))))∧∀ y70:Int×Int×(List (aB)),I40 y70→((y70.2.1 < y70.1→((0:Int)≤a.2.1∧a.2.1 < (List.length y70.2.2:Int)∧((0:Int)≤y70.2.1∧y70.2.1 < (List.length y70.2.2:Int)∧((0:Int)≤y70.2.1∧y70.2.1 < (List.length y70.2.2:Int)∧((0:Int)≤a.2.1∧a.2.1 < (List.length y70.2.2:Int)∧((y70.2.1,true,List.set (List.set y70.2.2 (Int.toNat y70.2.1) (at_ y70.2.2 a.2.1)) (Int.toNat a.2.1) (at_ y70.2.2 y70.2.1))=(a6 aJ) a))))))∧(¬(y70.2.1 < y70.1)→((0:Int)≤y70.2.1∧y70.2.1 < (List.length y70.2.2:Int)∧((0:Int)≤y70.1∧y70.1 < (List.length y70.2.2:Int)∧((0:Int)≤y70.1∧y70.1 < (List.length y70.2.2:Int)∧((0:Int)≤y70.2.1∧y70.2.1 < (List.length y70.2.2:Int)∧(-9223372036854775808≤(y70.1+(1:Int))∧(y70.1+(1:Int))≤9223372036854775807∧(-9223372036854775808≤(y70.2.1 - (1:Int))∧(y70.2.1 - (1:Int))≤9223372036854775807∧(∃ (I91:(Int×Int×(List (aB)))→Prop) (μ92:(Int×Int×(List (aB)))→Nat),I91 ((y70.1+(1:Int)),(y70.2.1 - (1:Int)),List.set (List.set y70.2.2 (Int.toNat y70.1) (at_ y70.2.2 y70.2.1)) (Int.toNat y70.2.1) (at_ y70.2.2 y70.1))∧∀ y93:Int×Int×(List (aB)),I91 y93→(∃ I94:(Int×Int×(List (aB)))→Prop,((∃ (I96:(Int×Int×(List (aB)))→Prop) (μ97:(Int×Int×(List (aB)))→Nat),I96 (y93.1,y93.2.1,y93.2.2)∧∀ y98:Int×Int×(List (aB)),I96 y98→((y98.1≤y98.2.1→((0:Int)≤y98.1∧y98.1 < (List.length y98.2.2:Int)∧((0:Int)≤a.2.1∧a.2.1 < (List.length y98.2.2:Int)∧(((cD ((at_ y98.2.2 y98.1),(at_ y98.2.2 a.2.1))) < (0:Int)→(-9223372036854775808≤(y98.1+(1:Int))∧(y98.1+(1:Int))≤9223372036854775807∧(I96 ((y98.1+(1:Int)),y98.2.1,y98.2.2)∧μ97 ((y98.1+(1:Int)),y98.2.1,y98.2.2) < μ97 y98)))∧(¬((cD ((at_ y98.2.2 y98.1),(at_ y98.2.2 a.2.1))) < (0:Int))→(I94 (y98.1,y98.2.1,y98.2.2)))))))∧(¬(y98.1≤y98.2.1)→(I94 (y98.1,y98.2.1,y98.2.2))))))∧∀ y124:Int×Int×(List (aB)),I94 y124→(∃ I127:(Int×Int×(List (aB)))→Prop,((∃ (I129:(Int×Int×(List (aB)))→Prop) (μ130:(Int×Int×(List (aB)))→Nat),I129 (y124.1,y124.2.1,y124.2.2)∧∀ y131:Int×Int×(List (aB)),I129 y131→((y131.1≤y131.2.1→((0:Int)≤y131.2.1∧y131.2.1 < (List.length y131.2.2:Int)∧((0:Int)≤a.2.1∧a.2.1 < (List.length y131.2.2:Int)∧((¬((cD ((at_ y131.2.2 y131.2.1),(at_ y131.2.2 a.2.1))) < (0:Int))→(-9223372036854775808≤(y131.2.1 - (1:Int))∧(y131.2.1 - (1:Int))≤9223372036854775807∧(I129 (y131.1,(y131.2.1 - (1:Int)),y131.2.2)∧μ130 (y131.1,(y131.2.1 - (1:Int)),y131.2.2) < μ130 y131)))∧(¬(¬((cD ((at_ y131.2.2 y131.2.1),(at_ y131.2.2 a.2.1))) < (0:Int)))→(I127 (y131.1,y131.2.1,y131.2.2)))))))∧(¬(y131.1≤y131.2.1)→(I127 (y131.1,y131.2.1,y131.2.2))))))∧∀ y157:Int×Int×(List (aB)),I127 y157→((y157.2.1 < y157.1→((0:Int)≤a.2.1∧a.2.1 < (List.length y157.2.2:Int)∧((0:Int)≤y157.2.1∧y157.2.1 < (List.length y157.2.2:Int)∧((0:Int)≤y157.2.1∧y157.2.1 < (List.length y157.2.2:Int)∧((0:Int)≤a.2.1∧a.2.1 < (List.length y157.2.2:Int)∧((y157.2.1,false,List.set (List.set y157.2.2 (Int.toNat y157.2.1) (at_ y157.2.2 a.2.1)) (Int.toNat a.2.1) (at_ y157.2.2 y157.2.1))=(a6 aJ) a))))))∧(¬(y157.2.1 < y157.1)→((0:Int)≤y157.2.1∧y157.2.1 < (List.length y157.2.2:Int)∧((0:Int)≤y157.1∧y157.1 < (List.length y157.2.2:Int)∧((0:Int)≤y157.1∧y157.1 < (List.length y157.2.2:Int)∧((0:Int)≤y157.2.1∧y157.2.1 < (List.length y157.2.2:Int)∧(-9223372036854775808≤(y157.1+(1:Int))∧(y157.1+(1:Int))≤9223372036854775807∧(-9223372036854775808≤(y157.2.1 - (1:Int))∧(y157.2.1 - (1:Int))≤9223372036854775807∧(I91 ((y157.1+(1:Int)),(y157.2.1 - (1:Int)),List.set (List.set y157.2.2 (Int.toNat y157.1) (at_ y157.2.2 y157.2.1)) (Int.toNat y157.2.1) (at_ y157.2.2 y157.1))∧μ92 ((y157.1+(1:Int)),(y157.2.1 - (1:Int)),List.set (List.set y157.2.2 (Int.toNat y157.1) (at_ y157.2.2 y157.2.1)) (Int.toNat y157.2.1) (at_ y157.2.2 y157.1)) < μ92 y93))))))))))))))))))))))))))))
theorem f240.of (a:(List (aB))×Int×Int×Int) (h:f240.vc a):f240.tree a:=chk h.2.2 Cnd.ix ⟨h.1,h.2.1⟩ (fun h1 k215=>⟨rfl,chk k215.2.2 Cnd.ix ⟨k215.1,k215.2.1⟩ (fun h2 k214=>⟨rfl,chk k214.2.2 Cnd.ix ⟨k214.1,k214.2.1⟩ (fun h3 k213=>⟨rfl,chk k213.2.2 Cnd.ix ⟨k213.1,k213.2.1⟩ (fun h4 k212=>⟨rfl,wrapK.i64 k212 (fun h209 h210 k211=>wrapK.i64 k211 (fun h206 h207 k208=>Exists.elim k208 (fun I7 h39=>⟨I7,Exists.elim h39.1 (fun I9 h34_=>Exists.elim h34_ (fun μ10 h34=>⟨I9,μ10,⟨((a.2.1+(1:Int)),(a.2.2.1 - (1:Int)),List.set (List.set a.1 (Int.toNat a.2.1) (at_ a.1 a.2.2.2)) (Int.toNat a.2.2.2) (at_ a.1 a.2.1)),⟨(bI (gset (gset (gl aA a.1) (Int.toNat a.2.1) [.str ((at_ a.1 a.2.2.2).1),.int .i64 ((at_ a.1 a.2.2.2).2)]) (Int.toNat a.2.2.2) [.str ((at_ a.1 a.2.1).1),.int .i64 ((at_ a.1 a.2.1).2)]) (Rds.gset (enc:=aA) (Rds.gset (enc:=aA) (rS aA) (DEqs.refl _)) (DEqs.refl _))),⟨rfl,⟨(DEqs.refl _),⟨rfl,⟨rfl,slQ (Rds.gset (enc:=aA) (Rds.gset (enc:=aA) (rS aA) (DEqs.refl _)) (DEqs.refl _)) (h34.1)⟩⟩⟩⟩⟩⟩,fun y11 h36=>br (h34.2 y11 h36) Cnd.dec (fun h12 k32=>chk k32.2.2 Cnd.ix ⟨k32.1,k32.2.1⟩ (fun h14 k30=>⟨rfl,chk k30.2.2 Cnd.ix ⟨k30.1,k30.2.1⟩ (fun h15 k29=>⟨rfl,(f199.ei ⟨trivial,br k29 Cnd.dec (fun h17 k26=>wrapK.i64 k26 (fun h22 h23 k24=>⟨((y11.1+(1:Int)),y11.2.1,y11.2.2),⟨(bI (gl aA y11.2.2) (rS aA)),⟨rfl,⟨(DEqs.refl _),⟨rfl,⟨rfl,slQ (rS aA) (k24)⟩⟩⟩⟩⟩⟩)) (fun h18 k27=>⟨(y11.1,y11.2.1,y11.2.2),⟨(bI (gl aA y11.2.2) (rS aA)),⟨rfl,⟨(DEqs.refl _),⟨rfl,⟨rfl,slQ (rS aA) (k27)⟩⟩⟩⟩⟩⟩)⟩)⟩)⟩)) (fun h13 k33=>⟨(y11.1,y11.2.1,y11.2.2),⟨(bI (gl aA y11.2.2) (rS aA)),⟨rfl,⟨(DEqs.refl _),⟨rfl,⟨rfl,slQ (rS aA) (k33)⟩⟩⟩⟩⟩⟩)⟩)),fun y37 h38=>Exists.elim (h39.2 y37 h38) (fun I40 h72=>⟨I40,Exists.elim h72.1 (fun I42 h67_=>Exists.elim h67_ (fun μ43 h67=>⟨I42,μ43,⟨(y37.1,y37.2.1,y37.2.2),⟨(bI (gl aA y37.2.2) (rS aA)),⟨rfl,⟨(DEqs.refl _),⟨rfl,⟨rfl,slQ (rS aA) (h67.1)⟩⟩⟩⟩⟩⟩,fun y44 h69=>br (h67.2 y44 h69) Cnd.dec (fun h45 k65=>chk k65.2.2 Cnd.ix ⟨k65.1,k65.2.1⟩ (fun h47 k63=>⟨rfl,chk k63.2.2 Cnd.ix ⟨k63.1,k63.2.1⟩ (fun h48 k62=>⟨rfl,(f199.ei ⟨trivial,br k62 (Cnd.not Cnd.dec) (fun h50 k59=>wrapK.i64 k59 (fun h55 h56 k57=>⟨(y44.1,(y44.2.1 - (1:Int)),y44.2.2),⟨(bI (gl aA y44.2.2) (rS aA)),⟨rfl,⟨(DEqs.refl _),⟨rfl,⟨rfl,slQ (rS aA) (k57)⟩⟩⟩⟩⟩⟩)) (fun h51 k60=>⟨(y44.1,y44.2.1,y44.2.2),⟨(bI (gl aA y44.2.2) (rS aA)),⟨rfl,⟨(DEqs.refl _),⟨rfl,⟨rfl,slQ (rS aA) (k60)⟩⟩⟩⟩⟩⟩)⟩)⟩)⟩)) (fun h46 k66=>⟨(y44.1,y44.2.1,y44.2.2),⟨(bI (gl aA y44.2.2) (rS aA)),⟨rfl,⟨(DEqs.refl _),⟨rfl,⟨rfl,slQ (rS aA) (k66)⟩⟩⟩⟩⟩⟩)⟩)),fun y70 h71=>br (h72.2 y70 h71) Cnd.dec (fun h73 k204=>chk k204.2.2 Cnd.ix ⟨k204.1,k204.2.1⟩ (fun h75 k83=>⟨rfl,chk k83.2.2 Cnd.ix ⟨k83.1,k83.2.1⟩ (fun h76 k82=>⟨rfl,chk k82.2.2 Cnd.ix ⟨k82.1,k82.2.1⟩ (fun h77 k81=>⟨rfl,chk k81.2.2 Cnd.ix ⟨k81.1,k81.2.1⟩ (fun h78 k80=>⟨rfl,⟨(congrArg (fun x:Int×Bool×(List (aB))=>x.1) k80 :),⟨(congrArg (fun x:Int×Bool×(List (aB))=>x.2.1) k80 :),slQ (Rds.to (Rds.gset (enc:=aA) (Rds.gset (enc:=aA) (rS aA) (DEqs.refl _)) (DEqs.refl _)) (congrArg (fun x:Int×Bool×(List (aB))=>x.2.2) k80 :)) (trivial)⟩⟩⟩)⟩)⟩)⟩)) (fun h74 k205=>chk k205.2.2 Cnd.ix ⟨k205.1,k205.2.1⟩ (fun h84 k203=>⟨rfl,chk k203.2.2 Cnd.ix ⟨k203.1,k203.2.1⟩ (fun h85 k202=>⟨rfl,chk k202.2.2 Cnd.ix ⟨k202.1,k202.2.1⟩ (fun h86 k201=>⟨rfl,chk k201.2.2 Cnd.ix ⟨k201.1,k201.2.1⟩ (fun h87 k200=>⟨rfl,wrapK.i64 k200 (fun h197 h198 k199=>wrapK.i64 k199 (fun h194 h195 k196=>Exists.elim k196 (fun I91 h191_=>Exists.elim h191_ (fun μ92 h191=>⟨I91,μ92,⟨((y70.1+(1:Int)),(y70.2.1 - (1:Int)),List.set (List.set y70.2.2 (Int.toNat y70.1) (at_ y70.2.2 y70.2.1)) (Int.toNat y70.2.1) (at_ y70.2.2 y70.1)),⟨(bI (gset (gset (gl aA y70.2.2) (Int.toNat y70.1) [.str ((at_ y70.2.2 y70.2.1).1),.int .i64 ((at_ y70.2.2 y70.2.1).2)]) (Int.toNat y70.2.1) [.str ((at_ y70.2.2 y70.1).1),.int .i64 ((at_ y70.2.2 y70.1).2)]) (Rds.gset (enc:=aA) (Rds.gset (enc:=aA) (rS aA) (DEqs.refl _)) (DEqs.refl _))),⟨rfl,⟨(DEqs.refl _),⟨rfl,⟨rfl,slQ (Rds.gset (enc:=aA) (Rds.gset (enc:=aA) (rS aA) (DEqs.refl _)) (DEqs.refl _)) (h191.1)⟩⟩⟩⟩⟩⟩,fun y93 h193=>Exists.elim (h191.2 y93 h193) (fun I94 h126=>⟨I94,Exists.elim h126.1 (fun I96 h121_=>Exists.elim h121_ (fun μ97 h121=>⟨I96,μ97,⟨(y93.1,y93.2.1,y93.2.2),⟨(bI (gl aA y93.2.2) (rS aA)),⟨rfl,⟨(DEqs.refl _),⟨rfl,⟨rfl,slQ (rS aA) (h121.1)⟩⟩⟩⟩⟩⟩,fun y98 h123=>br (h121.2 y98 h123) Cnd.dec (fun h99 k119=>chk k119.2.2 Cnd.ix ⟨k119.1,k119.2.1⟩ (fun h101 k117=>⟨rfl,chk k117.2.2 Cnd.ix ⟨k117.1,k117.2.1⟩ (fun h102 k116=>⟨rfl,(f199.ei ⟨trivial,br k116 Cnd.dec (fun h104 k113=>wrapK.i64 k113 (fun h109 h110 k111=>⟨((y98.1+(1:Int)),y98.2.1,y98.2.2),⟨(bI (gl aA y98.2.2) (rS aA)),⟨rfl,⟨(DEqs.refl _),⟨rfl,⟨rfl,slQ (rS aA) (k111)⟩⟩⟩⟩⟩⟩)) (fun h105 k114=>⟨(y98.1,y98.2.1,y98.2.2),⟨(bI (gl aA y98.2.2) (rS aA)),⟨rfl,⟨(DEqs.refl _),⟨rfl,⟨rfl,slQ (rS aA) (k114)⟩⟩⟩⟩⟩⟩)⟩)⟩)⟩)) (fun h100 k120=>⟨(y98.1,y98.2.1,y98.2.2),⟨(bI (gl aA y98.2.2) (rS aA)),⟨rfl,⟨(DEqs.refl _),⟨rfl,⟨rfl,slQ (rS aA) (k120)⟩⟩⟩⟩⟩⟩)⟩)),fun y124 h125=>Exists.elim (h126.2 y124 h125) (fun I127 h159=>⟨I127,Exists.elim h159.1 (fun I129 h154_=>Exists.elim h154_ (fun μ130 h154=>⟨I129,μ130,⟨(y124.1,y124.2.1,y124.2.2),⟨(bI (gl aA y124.2.2) (rS aA)),⟨rfl,⟨(DEqs.refl _),⟨rfl,⟨rfl,slQ (rS aA) (h154.1)⟩⟩⟩⟩⟩⟩,fun y131 h156=>br (h154.2 y131 h156) Cnd.dec (fun h132 k152=>chk k152.2.2 Cnd.ix ⟨k152.1,k152.2.1⟩ (fun h134 k150=>⟨rfl,chk k150.2.2 Cnd.ix ⟨k150.1,k150.2.1⟩ (fun h135 k149=>⟨rfl,(f199.ei ⟨trivial,br k149 (Cnd.not Cnd.dec) (fun h137 k146=>wrapK.i64 k146 (fun h142 h143 k144=>⟨(y131.1,(y131.2.1 - (1:Int)),y131.2.2),⟨(bI (gl aA y131.2.2) (rS aA)),⟨rfl,⟨(DEqs.refl _),⟨rfl,⟨rfl,slQ (rS aA) (k144)⟩⟩⟩⟩⟩⟩)) (fun h138 k147=>⟨(y131.1,y131.2.1,y131.2.2),⟨(bI (gl aA y131.2.2) (rS aA)),⟨rfl,⟨(DEqs.refl _),⟨rfl,⟨rfl,slQ (rS aA) (k147)⟩⟩⟩⟩⟩⟩)⟩)⟩)⟩)) (fun h133 k153=>⟨(y131.1,y131.2.1,y131.2.2),⟨(bI (gl aA y131.2.2) (rS aA)),⟨rfl,⟨(DEqs.refl _),⟨rfl,⟨rfl,slQ (rS aA) (k153)⟩⟩⟩⟩⟩⟩)⟩)),fun y157 h158=>br (h159.2 y157 h158) Cnd.dec (fun h160 k189=>chk k189.2.2 Cnd.ix ⟨k189.1,k189.2.1⟩ (fun h162 k170=>⟨rfl,chk k170.2.2 Cnd.ix ⟨k170.1,k170.2.1⟩ (fun h163 k169=>⟨rfl,chk k169.2.2 Cnd.ix ⟨k169.1,k169.2.1⟩ (fun h164 k168=>⟨rfl,chk k168.2.2 Cnd.ix ⟨k168.1,k168.2.1⟩ (fun h165 k167=>⟨rfl,⟨(congrArg (fun x:Int×Bool×(List (aB))=>x.1) k167 :),⟨(congrArg (fun x:Int×Bool×(List (aB))=>x.2.1) k167 :),slQ (Rds.to (Rds.gset (enc:=aA) (Rds.gset (enc:=aA) (rS aA) (DEqs.refl _)) (DEqs.refl _)) (congrArg (fun x:Int×Bool×(List (aB))=>x.2.2) k167 :)) (trivial)⟩⟩⟩)⟩)⟩)⟩)) (fun h161 k190=>chk k190.2.2 Cnd.ix ⟨k190.1,k190.2.1⟩ (fun h171 k188=>⟨rfl,chk k188.2.2 Cnd.ix ⟨k188.1,k188.2.1⟩ (fun h172 k187=>⟨rfl,chk k187.2.2 Cnd.ix ⟨k187.1,k187.2.1⟩ (fun h173 k186=>⟨rfl,chk k186.2.2 Cnd.ix ⟨k186.1,k186.2.1⟩ (fun h174 k185=>⟨rfl,wrapK.i64 k185 (fun h182 h183 k184=>wrapK.i64 k184 (fun h179 h180 k181=>⟨((y157.1+(1:Int)),(y157.2.1 - (1:Int)),List.set (List.set y157.2.2 (Int.toNat y157.1) (at_ y157.2.2 y157.2.1)) (Int.toNat y157.2.1) (at_ y157.2.2 y157.1)),⟨(bI (gset (gset (gl aA y157.2.2) (Int.toNat y157.1) [.str ((at_ y157.2.2 y157.2.1).1),.int .i64 ((at_ y157.2.2 y157.2.1).2)]) (Int.toNat y157.2.1) [.str ((at_ y157.2.2 y157.1).1),.int .i64 ((at_ y157.2.2 y157.1).2)]) (Rds.gset (enc:=aA) (Rds.gset (enc:=aA) (rS aA) (DEqs.refl _)) (DEqs.refl _))),⟨rfl,⟨(DEqs.refl _),⟨rfl,⟨rfl,slQ (Rds.gset (enc:=aA) (Rds.gset (enc:=aA) (rS aA) (DEqs.refl _)) (DEqs.refl _)) (k181)⟩⟩⟩⟩⟩⟩))⟩)⟩)⟩)⟩))⟩)⟩)⟩))))⟩)⟩)⟩)⟩))⟩)⟩)))⟩)⟩)⟩)⟩)
theorem f240.eq (a:(List (aB))×Int×Int×Int):(f240.af a).gives f240.env (f240.args a) (f240.blks a) (f240.res a) (f240.blks' a)=f240.tree a:=by kernel_rfl
def f248.S0 (a:(List (aB))×Int×Int×Int) (x:Int×(List (aB))):Tm:=⟨.msl 0 2 x.2.length::.dead::.int .i64 a.2.2.1::.int .i64 a.2.2.2::.fn 199 []::.dead::.dead::.dead::.dead::.dead::.int .i64 x.1::dd 71 [],[(0,false,[.dead,.arr false 2 x.2.length (gl aA x.2)])],[]⟩
def f248.kills (a:(List (aB))×Int×Int×Int):List Hint:=[.tell (Int×(List (aB))) (f248.S0 a)]
def f248.cuts (a:(List (aB))×Int×Int×Int):List (Nat×Σ β:Type,β→Tm):=[(999999,⟨Unit,fun x=>⟨[],[],[]⟩⟩),
 (100004,⟨Int×Int×(List (aB)),fun x=>⟨.msl 0 2 x.2.2.length::.dead::.int .i64 a.2.2.1::.int .i64 a.2.2.2::.fn 199 []::.dead::.dead::.dead::.dead::.dead::.int .i64 x.1::.int .i64 x.2.1::dd 70 [],[(0,false,[.dead,.arr false 2 x.2.2.length (gl aA x.2.2)])],[]⟩⟩)]
def f248.af (a:(List (aB))×Int×Int×Int):AF:=AF.mk (.seq (.region [mR 12 0 1,
 mR 10 1 12])
 (.block 0 (.loopT (Int×(List (aB))) (f248.S0 a) 1000002 1000082 (.block 1 (.seq (.region [mR 13 2 10,
 ⟨(some 14),1000003,(.bin .mul),[.c (.int .i64 (2)),.t 13],none⟩,
 ⟨(some 15),1000004,(.bin .add),[.t 14,.c (.int .i64 (1))],none⟩,
 mR 11 5 15])
 (.seq (.seq (.region [mR 16 6 11,
 mR 17 7 2,
 oR 18 8 (.bin .geq) [16,17]])
 (.cond (.t 18) (.exit 0) (.skip)))
 (.joinT (Int×Int×(List (aB))) (fun x=>⟨.msl 0 2 x.2.2.length::.dead::.int .i64 a.2.2.1::.int .i64 a.2.2.2::.fn 199 []::.dead::.dead::.dead::.dead::.dead::.int .i64 x.1::.int .i64 x.2.1::dd 70 [],[(0,false,[.dead,.arr false 2 x.2.2.length (gl aA x.2.2)])],[]⟩) (.seq (.region [mR 19 9 11,
 ⟨(some 20),1000010,(.bin .add),[.t 19,.c (.int .i64 (1))],none⟩,
 mR 21 11 2,
 oR 22 12 (.bin .lss) [20,21],
 mR 23 13 22,
 oG 24 1000014 .move [4] 23 true,
 oG 25 1000015 .move [0] 23 true,
 oG 26 1000016 .move [3] 23 true,
 oG 27 1000017 .move [11] 23 true,
 oG 28 1000018 (.bin .add) [26,27] 23 true,
 oG 29 1000019 (.indexAddr 2 none) [25,28] 23 true,
 oG 30 1000020 (.load true 2) [29] 23 true,
 oG 31 1000021 .move [0] 23 true,
 oG 32 1000022 .move [3] 23 true,
 oG 33 1000023 .move [11] 23 true,
 oG 34 1000024 (.bin .add) [32,33] 23 true,
 ⟨(some 35),1000025,(.bin .add),[.t 34,.c (.int .i64 (1))],(some (23,true))⟩,
 oG 36 1000026 (.indexAddr 2 none) [31,35] 23 true,
 oG 37 1000027 (.load true 2) [36] 23 true,
 oG 38 1000028 (.callv false) [24,30,37] 23 true,
 ⟨(some 39),1000032,(.bin .lss),[.t 38,.c (.int .i64 (0))],(some (23,true))⟩,
 ⟨(some 40),1000033,.pick,[.t 23,.t 39,.c (.bool false)],none⟩])
 (.cond (.t 40) (.region [mR 41 34 11,
 ⟨(some 42),1000035,(.bin .add),[.t 41,.c (.int .i64 (1))],none⟩,
 mR 11 36 42]) (.skip)))
 (.seq (.seq (.region [mR 43 37 4,
 mR 44 38 0,
 mR 45 39 3,
 mR 46 40 10,
 oR 47 41 (.bin .add) [45,46],
 oR 48 42 (.indexAddr 2 none) [44,47],
 oR 49 43 (.load true 2) [48],
 mR 50 44 0,
 mR 51 45 3,
 mR 52 46 11,
 oR 53 47 (.bin .add) [51,52],
 oR 54 48 (.indexAddr 2 none) [50,53],
 oR 55 49 (.load true 2) [54],
 oR 56 50 (.callv false) [43,49,55],
 ⟨(some 57),1000054,(.bin .lss),[.t 56,.c (.int .i64 (0))],none⟩,
 oR 58 55 (.un .not) [57]])
 (.cond (.t 58) (.ret) (.skip)))
 (.seq (.region [mR 59 56 0,
 mR 60 57 3,
 mR 61 58 10,
 oR 62 59 (.bin .add) [60,61],
 mR 63 60 0,
 mR 64 61 3,
 mR 65 62 11,
 oR 66 63 (.bin .add) [64,65],
 mR 67 64 0,
 mR 68 65 3,
 mR 69 66 11,
 oR 70 67 (.bin .add) [68,69],
 oR 71 68 (.indexAddr 2 none) [67,70],
 oR 72 69 (.load true 2) [71],
 mR 73 70 0,
 mR 74 71 3,
 mR 75 72 10,
 oR 76 73 (.bin .add) [74,75],
 oR 77 74 (.indexAddr 2 none) [73,76],
 oR 78 75 (.load true 2) [77],
 oR 79 76 (.indexAddr 2 none) [59,62],
 ⟨none,1000077,(.store 2),[.t 79,.t 72],none⟩,
 oR 80 78 (.indexAddr 2 none) [63,66],
 ⟨none,1000079,(.store 2),[.t 80,.t 78],none⟩])
 (.region [mR 81 80 11,
 mR 10 81 81]))))))))))
 [] 1 77
def f248.env:Env:=[(199,f199.C)]
def f248.tree (a:(List (aB))×Int×Int×Int):Prop:=∃ (I2:(Int×(List (aB)))→Prop) (μ3:(Int×(List (aB)))→Nat),(∃ x1:Int×(List (aB)),(a.1.length=x1.2.length)∧(a.2.2.1=a.2.2.1)∧(a.2.2.2=a.2.2.2)∧(DEqs [] [])∧(a.2.1=x1.1)∧SlQ a.1.length x1.2.length (gl aA a.1) (gl aA x1.2) (I2 x1))∧∀ y4:Int×(List (aB)),I2 y4→(Let (wI ((2:Int) * y4.1)) (fun v5:Int=>Let (wI (v5+(1:Int))) (fun v6:Int=>Br (decide (a.2.2.1≤v6)) (SlQ y4.2.length (List.length ((eU aJ) a)) (gl aA y4.2) (gl aA ((eU aJ) a)) (True)) (∃ I10:(Int×Int×(List (aB)))→Prop,(Let (wI (v6+(1:Int))) (fun v11:Int=>Br (decide (v11 < a.2.2.1)) (Let (wI (a.2.2.2+v6)) (fun v14:Int=>Br (decide ((0:Int)≤v14)&&decide (v14 < (List.length y4.2:Int))) ((y4.2.length=y4.2.length)∧(Let (wI (a.2.2.2+v6)) (fun v16:Int=>Let (wI (v16+(1:Int))) (fun v17:Int=>Br (decide ((0:Int)≤v17)&&decide (v17 < (List.length y4.2:Int))) ((y4.2.length=y4.2.length)∧(f199.ent (fun c19=>True∧Br (decide ((cD c19) < (0:Int))) (Let (wI (v6+(1:Int))) (fun v22:Int=>∃ x23:Int×Int×(List (aB)),(y4.2.length=x23.2.2.length)∧(a.2.2.1=a.2.2.1)∧(a.2.2.2=a.2.2.2)∧(DEqs [] [])∧(y4.1=x23.1)∧(v22=x23.2.1)∧SlQ y4.2.length x23.2.2.length (gl aA y4.2) (gl aA x23.2.2) (I10 x23))) (∃ x27:Int×Int×(List (aB)),(y4.2.length=x27.2.2.length)∧(a.2.2.1=a.2.2.1)∧(a.2.2.2=a.2.2.2)∧(DEqs [] [])∧(y4.1=x27.1)∧(v6=x27.2.1)∧SlQ y4.2.length x27.2.2.length (gl aA y4.2) (gl aA x27.2.2) (I10 x27))) ((at_ y4.2 v14),(at_ y4.2 v17)))) False)))) False)) (∃ x42:Int×Int×(List (aB)),(y4.2.length=x42.2.2.length)∧(a.2.2.1=a.2.2.1)∧(a.2.2.2=a.2.2.2)∧(DEqs [] [])∧(y4.1=x42.1)∧(v6=x42.2.1)∧SlQ y4.2.length x42.2.2.length (gl aA y4.2) (gl aA x42.2.2) (I10 x42))))∧∀ y48:Int×Int×(List (aB)),I10 y48→(Let (wI (a.2.2.2+y48.1)) (fun v51:Int=>Br (decide ((0:Int)≤v51)&&decide (v51 < (List.length y48.2.2:Int))) ((y48.2.2.length=y48.2.2.length)∧(Let (wI (a.2.2.2+y48.2.1)) (fun v53:Int=>Br (decide ((0:Int)≤v53)&&decide (v53 < (List.length y48.2.2:Int))) ((y48.2.2.length=y48.2.2.length)∧(f199.ent (fun c55=>True∧Br (!(decide ((cD c55) < (0:Int)))) (SlQ y48.2.2.length (List.length ((eU aJ) a)) (gl aA y48.2.2) (gl aA ((eU aJ) a)) (True)) (Let (wI (a.2.2.2+y48.1)) (fun v59:Int=>Let (wI (a.2.2.2+y48.2.1)) (fun v60:Int=>Let (wI (a.2.2.2+y48.2.1)) (fun v61:Int=>Br (decide ((0:Int)≤v61)&&decide (v61 < (List.length y48.2.2:Int))) ((y48.2.2.length=y48.2.2.length)∧(Let (wI (a.2.2.2+y48.1)) (fun v63:Int=>Br (decide ((0:Int)≤v63)&&decide (v63 < (List.length y48.2.2:Int))) ((y48.2.2.length=y48.2.2.length)∧(Br (decide ((0:Int)≤v59)&&decide (v59 < (List.length y48.2.2:Int))) ((y48.2.2.length=y48.2.2.length)∧(Br (decide ((0:Int)≤v60)&&decide (v60 < (List.length y48.2.2:Int))) ((y48.2.2.length=y48.2.2.length)∧(∃ x67:Int×(List (aB)),(y48.2.2.length=x67.2.length)∧(a.2.2.1=a.2.2.1)∧(a.2.2.2=a.2.2.2)∧(DEqs [] [])∧(y48.2.1=x67.1)∧SlQ y48.2.2.length x67.2.length (gset (gset (gl aA y48.2.2) (Int.toNat v59) [.str ((at_ y48.2.2 v61).1),.int .i64 ((at_ y48.2.2 v61).2)]) (Int.toNat v60) [.str ((at_ y48.2.2 v63).1),.int .i64 ((at_ y48.2.2 v63).2)]) (gl aA x67.2) (I2 x67∧μ3 x67 < μ3 y4))) False)) False)) False))) False))))) ((at_ y48.2.2 v51),(at_ y48.2.2 v53)))) False))) False))))))
def f248.vc (a:(List (aB))×Int×Int×Int):Prop:=(∃ (I2:(Int×(List (aB)))→Prop) (μ3:(Int×(List (aB)))→Nat),I2 (a.2.1,a.1)∧∀ y4:Int×(List (aB)),I2 y4→(-9223372036854775808≤((2:Int) * y4.1)∧((2:Int) * y4.1)≤9223372036854775807∧(-9223372036854775808≤(((2:Int) * y4.1)+(1:Int))∧(((2:Int) * y4.1)+(1:Int))≤9223372036854775807∧((a.2.2.1≤(((2:Int) * y4.1)+(1:Int))→(y4.2=(eU aJ) a))∧(¬(a.2.2.1≤(((2:Int) * y4.1)+(1:Int)))→(∃ I10:(Int×Int×(List (aB)))→Prop,((-9223372036854775808≤((((2:Int) * y4.1)+(1:Int))+(1:Int))∧((((2:Int) * y4.1)+(1:Int))+(1:Int))≤9223372036854775807∧((((((2:Int) * y4.1)+(1:Int))+(1:Int)) < a.2.2.1→(-9223372036854775808≤(a.2.2.2+(((2:Int) * y4.1)+(1:Int)))∧(a.2.2.2+(((2:Int) * y4.1)+(1:Int)))≤9223372036854775807∧((0:Int)≤(a.2.2.2+(((2:Int) * y4.1)+(1:Int)))∧(a.2.2.2+(((2:Int) * y4.1)+(1:Int))) < (List.length y4.2:Int)∧(-9223372036854775808≤(a.2.2.2+(((2:Int) * y4.1)+(1:Int)))∧(a.2.2.2+(((2:Int) * y4.1)+(1:Int)))≤9223372036854775807∧(-9223372036854775808≤((a.2.2.2+(((2:Int) * y4.1)+(1:Int)))+(1:Int))∧((a.2.2.2+(((2:Int) * y4.1)+(1:Int)))+(1:Int))≤9223372036854775807∧((0:Int)≤((a.2.2.2+(((2:Int) * y4.1)+(1:Int)))+(1:Int))∧((a.2.2.2+(((2:Int) * y4.1)+(1:Int)))+(1:Int)) < (List.length y4.2:Int)∧(((cD ((at_ y4.2 (a.2.2.2+(((2:Int) * y4.1)+(1:Int)))),(at_ y4.2 ((a.2.2.2+(((2:Int) * y4.1)+(1:Int)))+(1:Int))))) < (0:Int)→(-9223372036854775808≤((((2:Int) * y4.1)+(1:Int))+(1:Int))∧((((2:Int) * y4.1)+(1:Int))+(1:Int))≤9223372036854775807∧(I10 (y4.1,((((2:Int) * y4.1)+(1:Int))+(1:Int)),y4.2))))∧(¬((cD ((at_ y4.2 (a.2.2.2+(((2:Int) * y4.1)+(1:Int)))),(at_ y4.2 ((a.2.2.2+(((2:Int) * y4.1)+(1:Int)))+(1:Int))))) < (0:Int))→(I10 (y4.1,(((2:Int) * y4.1)+(1:Int)),y4.2))))))))))∧(¬(((((2:Int) * y4.1)+(1:Int))+(1:Int)) < a.2.2.1)→(I10 (y4.1,(((2:Int) * y4.1)+(1:Int)),y4.2))))))∧∀ y48:Int×Int×(List (aB)),I10 y48→(-9223372036854775808≤(a.2.2.2+y48.1)∧(a.2.2.2+y48.1)≤9223372036854775807∧((0:Int)≤(a.2.2.2+y48.1)∧(a.2.2.2+y48.1) < (List.length y48.2.2:Int)∧(-9223372036854775808≤(a.2.2.2+y48.2.1)∧(a.2.2.2+y48.2.1)≤9223372036854775807∧((0:Int)≤(a.2.2.2+y48.2.1)∧(a.2.2.2+y48.2.1) < (List.length y48.2.2:Int)∧((¬((cD ((at_ y48.2.2 (a.2.2.2+y48.1)),(at_ y48.2.2 (a.2.2.2+y48.2.1)))) < (0:Int))→(y48.2.2=(eU aJ) a))∧(¬(¬((cD ((at_ y48.2.2 (a.2.2.2+y48.1)),(at_ y48.2.2 (a.2.2.2+y48.2.1)))) < (0:Int)))→(-9223372036854775808≤(a.2.2.2+y48.1)∧(a.2.2.2+y48.1)≤9223372036854775807∧(-9223372036854775808≤(a.2.2.2+y48.2.1)∧(a.2.2.2+y48.2.1)≤9223372036854775807∧(-9223372036854775808≤(a.2.2.2+y48.2.1)∧(a.2.2.2+y48.2.1)≤9223372036854775807∧((0:Int)≤(a.2.2.2+y48.2.1)∧(a.2.2.2+y48.2.1) < (List.length y48.2.2:Int)∧(-9223372036854775808≤(a.2.2.2+y48.1)∧(a.2.2.2+y48.1)≤9223372036854775807∧((0:Int)≤(a.2.2.2+y48.1)∧(a.2.2.2+y48.1) < (List.length y48.2.2:Int)∧((0:Int)≤(a.2.2.2+y48.1)∧(a.2.2.2+y48.1) < (List.length y48.2.2:Int)∧((0:Int)≤(a.2.2.2+y48.2.1)∧(a.2.2.2+y48.2.1) < (List.length y48.2.2:Int)∧(I2 (y48.2.1,List.set (List.set y48.2.2 (Int.toNat (a.2.2.2+y48.1)) (at_ y48.2.2 (a.2.2.2+y48.2.1))) (Int.toNat (a.2.2.2+y48.2.1)) (at_ y48.2.2 (a.2.2.2+y48.1)))∧μ3 (y48.2.1,List.set (List.set y48.2.2 (Int.toNat (a.2.2.2+y48.1)) (at_ y48.2.2 (a.2.2.2+y48.2.1))) (Int.toNat (a.2.2.2+y48.2.1)) (at_ y48.2.2 (a.2.2.2+y48.1))) < μ3 y4)))))))))))))))))))))
theorem f248.of (a:(List (aB))×Int×Int×Int) (h:f248.vc a):f248.tree a:=Exists.elim h (fun I2 h104_=>Exists.elim h104_ (fun μ3 h104=>⟨I2,μ3,⟨(a.2.1,a.1),⟨(bI (gl aA a.1) (rS aA)),⟨rfl,⟨rfl,⟨(DEqs.refl _),⟨rfl,slQ (rS aA) (h104.1)⟩⟩⟩⟩⟩⟩,fun y4 h106=>wrapK.i64 (h104.2 y4 h106) (fun h101 h102 k103=>wrapK.i64 k103 (fun h98 h99 k100=>br k100 Cnd.dec (fun h7 k96=>slQ (Rds.to (rS aA) k96) (trivial)) (fun h8 k97=>Exists.elim k97 (fun I10 h50=>⟨I10,wrapK.i64 h50.1 (fun h45 h46 k47=>br k47 Cnd.dec (fun h12 k43=>wrapK.i64 k43 (fun h39 h40 k41=>chk k41.2.2 Cnd.ix ⟨k41.1,k41.2.1⟩ (fun h15 k38=>⟨rfl,wrapK.i64 k38 (fun h35 h36 k37=>wrapK.i64 k37 (fun h32 h33 k34=>chk k34.2.2 Cnd.ix ⟨k34.1,k34.2.1⟩ (fun h18 k31=>⟨rfl,(f199.ei ⟨trivial,br k31 Cnd.dec (fun h20 k28=>wrapK.i64 k28 (fun h24 h25 k26=>⟨(y4.1,((((2:Int) * y4.1)+(1:Int))+(1:Int)),y4.2),⟨(bI (gl aA y4.2) (rS aA)),⟨rfl,⟨rfl,⟨(DEqs.refl _),⟨rfl,⟨rfl,slQ (rS aA) (k26)⟩⟩⟩⟩⟩⟩⟩)) (fun h21 k29=>⟨(y4.1,(((2:Int) * y4.1)+(1:Int)),y4.2),⟨(bI (gl aA y4.2) (rS aA)),⟨rfl,⟨rfl,⟨(DEqs.refl _),⟨rfl,⟨rfl,slQ (rS aA) (k29)⟩⟩⟩⟩⟩⟩⟩)⟩)⟩)))⟩))) (fun h13 k44=>⟨(y4.1,(((2:Int) * y4.1)+(1:Int)),y4.2),⟨(bI (gl aA y4.2) (rS aA)),⟨rfl,⟨rfl,⟨(DEqs.refl _),⟨rfl,⟨rfl,slQ (rS aA) (k44)⟩⟩⟩⟩⟩⟩⟩)),fun y48 h49=>wrapK.i64 (h50.2 y48 h49) (fun h93 h94 k95=>chk k95.2.2 Cnd.ix ⟨k95.1,k95.2.1⟩ (fun h52 k92=>⟨rfl,wrapK.i64 k92 (fun h89 h90 k91=>chk k91.2.2 Cnd.ix ⟨k91.1,k91.2.1⟩ (fun h54 k88=>⟨rfl,(f199.ei ⟨trivial,br k88 (Cnd.not Cnd.dec) (fun h56 k85=>slQ (Rds.to (rS aA) k85) (trivial)) (fun h57 k86=>wrapK.i64 k86 (fun h82 h83 k84=>wrapK.i64 k84 (fun h79 h80 k81=>wrapK.i64 k81 (fun h76 h77 k78=>chk k78.2.2 Cnd.ix ⟨k78.1,k78.2.1⟩ (fun h62 k75=>⟨rfl,wrapK.i64 k75 (fun h72 h73 k74=>chk k74.2.2 Cnd.ix ⟨k74.1,k74.2.1⟩ (fun h64 k71=>⟨rfl,chk k71.2.2 Cnd.ix ⟨k71.1,k71.2.1⟩ (fun h65 k70=>⟨rfl,chk k70.2.2 Cnd.ix ⟨k70.1,k70.2.1⟩ (fun h66 k69=>⟨rfl,⟨(y48.2.1,List.set (List.set y48.2.2 (Int.toNat (a.2.2.2+y48.1)) (at_ y48.2.2 (a.2.2.2+y48.2.1))) (Int.toNat (a.2.2.2+y48.2.1)) (at_ y48.2.2 (a.2.2.2+y48.1))),⟨(bI (gset (gset (gl aA y48.2.2) (Int.toNat (a.2.2.2+y48.1)) [.str ((at_ y48.2.2 (a.2.2.2+y48.2.1)).1),.int .i64 ((at_ y48.2.2 (a.2.2.2+y48.2.1)).2)]) (Int.toNat (a.2.2.2+y48.2.1)) [.str ((at_ y48.2.2 (a.2.2.2+y48.1)).1),.int .i64 ((at_ y48.2.2 (a.2.2.2+y48.1)).2)]) (Rds.gset (enc:=aA) (Rds.gset (enc:=aA) (rS aA) (DEqs.refl _)) (DEqs.refl _))),⟨rfl,⟨rfl,⟨(DEqs.refl _),⟨rfl,slQ (Rds.gset (enc:=aA) (Rds.gset (enc:=aA) (rS aA) (DEqs.refl _)) (DEqs.refl _)) (k69)⟩⟩⟩⟩⟩⟩⟩)⟩)⟩))⟩)))))⟩)⟩))⟩))⟩))))⟩))
theorem f248.eq (a:(List (aB))×Int×Int×Int):(f248.af a).gives f248.env (f248.args a) (f248.blks a) (f248.res a) (f248.blks' a)=f248.tree a:=by kernel_rfl
def f249.kills (a:(List (aB))×Int×Int):List Hint:=[]
def f249.cuts (a:(List (aB))×Int×Int):List (Nat×Σ β:Type,β→Tm):=[(999999,⟨Unit,fun x=>⟨[],[],[]⟩⟩)]
def f249.af (a:(List (aB))×Int×Int):AF:=AF.mk (.seq (.region [⟨(some 8),1000000,.move,[.c (.int .i64 (0))],none⟩])
 (.seq (.region [mR 9 1 0,
 mR 10 2 1,
 ⟨(some 11),1000003,(.bin .sub),[.t 10,.c (.int .i64 (1))],none⟩,
 mR 12 4 1,
 mR 13 5 1,
 ⟨(some 14),1000006,(.bin .add),[.t 13,.c (.int .i64 (1))],none⟩,
 mR 15 7 2,
 mR 16 8 3,
 oR 17 9 (.call true 250) [9,11,12,14,15,16],
 mR 8 13 17])
 (.ret)))
 [.tmp 8] 2 14
def f249.env:Env:=[(250,f250.C)]
def f249.tree (a:(List (aB))×Int×Int):Prop:=Let (wI (a.2.1 - (1:Int))) (fun v1:Int=>Let (wI (a.2.1+(1:Int))) (fun v2:Int=>(a.1.length=a.1.length)∧∃ c3:(List (aB))×Int×Int×Int×Int,(a.1.length=List.length c3.1)∧(v1=c3.2.1)∧(a.2.1=c3.2.2.1)∧(v2=c3.2.2.2.1)∧(DEqs [] [])∧SlQ a.1.length c3.1.length (gl aA a.1) (gl aA c3.1) ((a.2.2=c3.2.2.2.2)∧(oF c3)∧((((f9 aJ) c3).1)=(((aW aJ) a).1))∧SlQ (List.length (((f9 aJ) c3).2.1)) (List.length (((aW aJ) a).2.1)) (gl aA (((f9 aJ) c3).2.1)) (gl aA (((aW aJ) a).2.1)) (((((f9 aJ) c3).2.2)=(((aW aJ) a).2.2))∧True))))
def f249.vc (a:(List (aB))×Int×Int):Prop:=(-9223372036854775808≤(a.2.1 - (1:Int))∧(a.2.1 - (1:Int))≤9223372036854775807∧(-9223372036854775808≤(a.2.1+(1:Int))∧(a.2.1+(1:Int))≤9223372036854775807∧(oF (a.1,(a.2.1 - (1:Int)),a.2.1,(a.2.1+(1:Int)),a.2.2)∧((List.length (((f9 aJ) (a.1,(a.2.1 - (1:Int)),a.2.1,(a.2.1+(1:Int)),a.2.2)).2.1))=a.1.length∧((((f9 aJ) (a.1,(a.2.1 - (1:Int)),a.2.1,(a.2.1+(1:Int)),a.2.2)).1,((f9 aJ) (a.1,(a.2.1 - (1:Int)),a.2.1,(a.2.1+(1:Int)),a.2.2)).2.1,((f9 aJ) (a.1,(a.2.1 - (1:Int)),a.2.1,(a.2.1+(1:Int)),a.2.2)).2.2)=(aW aJ) a)))))
theorem f249.of (a:(List (aB))×Int×Int) (h:f249.vc a):f249.tree a:=wrapK.i64 h (fun h10 h11 k12=>wrapK.i64 k12 (fun h7 h8 k9=>⟨rfl,⟨(a.1,(a.2.1 - (1:Int)),a.2.1,(a.2.1+(1:Int)),a.2.2),⟨(bI (gl aA a.1) (rS aA)),⟨rfl,⟨rfl,⟨rfl,⟨(DEqs.refl _),slQ (rS aA) (⟨rfl,⟨k9.1,j5 k9.2 (fun (h4:(List.length (((f9 aJ) (a.1,(a.2.1 - (1:Int)),a.2.1,(a.2.1+(1:Int)),a.2.2)).2.1))=a.1.length) hk=>⟨(congrArg (fun x:Int×(List (aB))×Int=>x.1) hk :),slQ (Rds.to (rS aA) (congrArg (fun x:Int×(List (aB))×Int=>x.2.1) hk :)) (⟨(congrArg (fun x:Int×(List (aB))×Int=>x.2.2) hk :),trivial⟩)⟩)⟩⟩)⟩⟩⟩⟩⟩⟩⟩))
theorem f249.eq (a:(List (aB))×Int×Int):(f249.af a).gives f249.env (f249.args a) (f249.blks a) (f249.res a) (f249.blks' a)=f249.tree a:=by kernel_rfl
def f253.args (a:(List (aB))×Int×Int×Int):List D:=[.msl 0 2 a.1.length,.int .i64 a.2.1,.int .i64 a.2.2.1,.ptr 1 0,.fn 199 []]
def f253.blks (a:(List (aB))×Int×Int×Int):List (List D):=[[.dead,.arr false 2 a.1.length (gl aA a.1)],[.int .i64 a.2.2.2]]
def f253.res (a:(List (aB))×Int×Int×Int):List D:=[.int .i64 (((aP aJ) a).1),.int .i64 (((aP aJ) a).2.1)]
def f253.blks' (a:(List (aB))×Int×Int×Int):List (List D):=[[.dead,.arr false 2 (List.length (((aP aJ) a).2.2.1)) (gl aA (((aP aJ) a).2.2.1))],[.int .i64 (((aP aJ) a).2.2.2)]]
def f253.C:aN:=FnC f253.args f253.blks (fun a=>iO a) f253.res f253.blks'
def f250.kills (a:(List (aB))×Int×Int×Int×Int):List Hint:=[]
def f250.cuts (a:(List (aB))×Int×Int×Int×Int):List (Nat×Σ β:Type,β→Tm):=[(999999,⟨Unit,fun x=>⟨[],[],[]⟩⟩)]
def f250.af (a:(List (aB))×Int×Int×Int×Int):AF:=AF.mk (.seq (.region [⟨(some 12),1000000,.move,[.c (.int .i64 (0))],none⟩])
 (.seq (.region [mR 14 1 0,
 mR 15 2 1,
 mR 16 3 2,
 mR 17 4 4,
 mR 18 5 5,
 oR 19 6 (.call true 253) [14,15,16,17,18],
 mR 13 10 19,
 oR 20 11 (.extract 0) [13],
 oR 21 12 (.extract 1) [13],
 mR 1 13 20,
 mR 2 14 21])
 (.seq (.region [mR 23 15 0,
 mR 24 16 2,
 mR 25 17 3,
 mR 26 18 4,
 mR 27 19 5,
 oR 28 20 (.call true 253) [23,24,25,26,27],
 mR 22 24 28,
 oR 29 25 (.extract 0) [22],
 oR 30 26 (.extract 1) [22],
 mR 2 27 29,
 mR 3 28 30])
 (.seq (.region [mR 32 29 0,
 mR 33 30 1,
 mR 34 31 2,
 mR 35 32 4,
 mR 36 33 5,
 oR 37 34 (.call true 253) [32,33,34,35,36],
 mR 31 38 37,
 oR 38 39 (.extract 0) [31],
 oR 39 40 (.extract 1) [31],
 mR 1 41 38,
 mR 2 42 39])
 (.seq (.region [mR 40 43 2,
 mR 12 44 40])
 (.ret))))))
 [.tmp 12] 2 35
def f250.env:Env:=[(253,f253.C)]
def f250.tree (a:(List (aB))×Int×Int×Int×Int):Prop:=(a.1.length=a.1.length)∧∃ c1:(List (aB))×Int×Int×Int,(a.1.length=List.length c1.1)∧(a.2.1=c1.2.1)∧(a.2.2.1=c1.2.2.1)∧(DEqs [] [])∧SlQ a.1.length c1.1.length (gl aA a.1) (gl aA c1.1) ((a.2.2.2.2=c1.2.2.2)∧(iO c1)∧(a.1.length=(List.length (((aP aJ) c1).2.2.1)))∧∃ c3:(List (aB))×Int×Int×Int,(a.1.length=List.length c3.1)∧((((aP aJ) c1).2.1)=c3.2.1)∧(a.2.2.2.1=c3.2.2.1)∧(DEqs [] [])∧SlQ (List.length (((aP aJ) c1).2.2.1)) c3.1.length (gl aA (((aP aJ) c1).2.2.1)) (gl aA c3.1) (((((aP aJ) c1).2.2.2)=c3.2.2.2)∧(iO c3)∧(a.1.length=(List.length (((aP aJ) c3).2.2.1)))∧∃ c5:(List (aB))×Int×Int×Int,(a.1.length=List.length c5.1)∧((((aP aJ) c1).1)=c5.2.1)∧((((aP aJ) c3).1)=c5.2.2.1)∧(DEqs [] [])∧SlQ (List.length (((aP aJ) c3).2.2.1)) c5.1.length (gl aA (((aP aJ) c3).2.2.1)) (gl aA c5.1) (((((aP aJ) c3).2.2.2)=c5.2.2.2)∧(iO c5)∧((((aP aJ) c5).2.1)=(((f9 aJ) a).1))∧SlQ (List.length (((aP aJ) c5).2.2.1)) (List.length (((f9 aJ) a).2.1)) (gl aA (((aP aJ) c5).2.2.1)) (gl aA (((f9 aJ) a).2.1)) (((((aP aJ) c5).2.2.2)=(((f9 aJ) a).2.2))∧True))))
def f250.vc (a:(List (aB))×Int×Int×Int×Int):Prop:=(iO (a.1,a.2.1,a.2.2.1,a.2.2.2.2)∧((List.length (((aP aJ) (a.1,a.2.1,a.2.2.1,a.2.2.2.2)).2.2.1))=a.1.length∧(iO (((aP aJ) (a.1,a.2.1,a.2.2.1,a.2.2.2.2)).2.2.1,((aP aJ) (a.1,a.2.1,a.2.2.1,a.2.2.2.2)).2.1,a.2.2.2.1,((aP aJ) (a.1,a.2.1,a.2.2.1,a.2.2.2.2)).2.2.2)∧((List.length (((aP aJ) (((aP aJ) (a.1,a.2.1,a.2.2.1,a.2.2.2.2)).2.2.1,((aP aJ) (a.1,a.2.1,a.2.2.1,a.2.2.2.2)).2.1,a.2.2.2.1,((aP aJ) (a.1,a.2.1,a.2.2.1,a.2.2.2.2)).2.2.2)).2.2.1))=a.1.length∧(iO (((aP aJ) (((aP aJ) (a.1,a.2.1,a.2.2.1,a.2.2.2.2)).2.2.1,((aP aJ) (a.1,a.2.1,a.2.2.1,a.2.2.2.2)).2.1,a.2.2.2.1,((aP aJ) (a.1,a.2.1,a.2.2.1,a.2.2.2.2)).2.2.2)).2.2.1,((aP aJ) (a.1,a.2.1,a.2.2.1,a.2.2.2.2)).1,((aP aJ) (((aP aJ) (a.1,a.2.1,a.2.2.1,a.2.2.2.2)).2.2.1,((aP aJ) (a.1,a.2.1,a.2.2.1,a.2.2.2.2)).2.1,a.2.2.2.1,((aP aJ) (a.1,a.2.1,a.2.2.1,a.2.2.2.2)).2.2.2)).1,((aP aJ) (((aP aJ) (a.1,a.2.1,a.2.2.1,a.2.2.2.2)).2.2.1,((aP aJ) (a.1,a.2.1,a.2.2.1,a.2.2.2.2)).2.1,a.2.2.2.1,((aP aJ) (a.1,a.2.1,a.2.2.1,a.2.2.2.2)).2.2.2)).2.2.2)∧((List.length (((aP aJ) (((aP aJ) (((aP aJ) (a.1,a.2.1,a.2.2.1,a.2.2.2.2)).2.2.1,((aP aJ) (a.1,a.2.1,a.2.2.1,a.2.2.2.2)).2.1,a.2.2.2.1,((aP aJ) (a.1,a.2.1,a.2.2.1,a.2.2.2.2)).2.2.2)).2.2.1,((aP aJ) (a.1,a.2.1,a.2.2.1,a.2.2.2.2)).1,((aP aJ) (((aP aJ) (a.1,a.2.1,a.2.2.1,a.2.2.2.2)).2.2.1,((aP aJ) (a.1,a.2.1,a.2.2.1,a.2.2.2.2)).2.1,a.2.2.2.1,((aP aJ) (a.1,a.2.1,a.2.2.1,a.2.2.2.2)).2.2.2)).1,((aP aJ) (((aP aJ) (a.1,a.2.1,a.2.2.1,a.2.2.2.2)).2.2.1,((aP aJ) (a.1,a.2.1,a.2.2.1,a.2.2.2.2)).2.1,a.2.2.2.1,((aP aJ) (a.1,a.2.1,a.2.2.1,a.2.2.2.2)).2.2.2)).2.2.2)).2.2.1))=a.1.length∧((((aP aJ) (((aP aJ) (((aP aJ) (a.1,a.2.1,a.2.2.1,a.2.2.2.2)).2.2.1,((aP aJ) (a.1,a.2.1,a.2.2.1,a.2.2.2.2)).2.1,a.2.2.2.1,((aP aJ) (a.1,a.2.1,a.2.2.1,a.2.2.2.2)).2.2.2)).2.2.1,((aP aJ) (a.1,a.2.1,a.2.2.1,a.2.2.2.2)).1,((aP aJ) (((aP aJ) (a.1,a.2.1,a.2.2.1,a.2.2.2.2)).2.2.1,((aP aJ) (a.1,a.2.1,a.2.2.1,a.2.2.2.2)).2.1,a.2.2.2.1,((aP aJ) (a.1,a.2.1,a.2.2.1,a.2.2.2.2)).2.2.2)).1,((aP aJ) (((aP aJ) (a.1,a.2.1,a.2.2.1,a.2.2.2.2)).2.2.1,((aP aJ) (a.1,a.2.1,a.2.2.1,a.2.2.2.2)).2.1,a.2.2.2.1,((aP aJ) (a.1,a.2.1,a.2.2.1,a.2.2.2.2)).2.2.2)).2.2.2)).2.1,((aP aJ) (((aP aJ) (((aP aJ) (a.1,a.2.1,a.2.2.1,a.2.2.2.2)).2.2.1,((aP aJ) (a.1,a.2.1,a.2.2.1,a.2.2.2.2)).2.1,a.2.2.2.1,((aP aJ) (a.1,a.2.1,a.2.2.1,a.2.2.2.2)).2.2.2)).2.2.1,((aP aJ) (a.1,a.2.1,a.2.2.1,a.2.2.2.2)).1,((aP aJ) (((aP aJ) (a.1,a.2.1,a.2.2.1,a.2.2.2.2)).2.2.1,((aP aJ) (a.1,a.2.1,a.2.2.1,a.2.2.2.2)).2.1,a.2.2.2.1,((aP aJ) (a.1,a.2.1,a.2.2.1,a.2.2.2.2)).2.2.2)).1,((aP aJ) (((aP aJ) (a.1,a.2.1,a.2.2.1,a.2.2.2.2)).2.2.1,((aP aJ) (a.1,a.2.1,a.2.2.1,a.2.2.2.2)).2.1,a.2.2.2.1,((aP aJ) (a.1,a.2.1,a.2.2.1,a.2.2.2.2)).2.2.2)).2.2.2)).2.2.1,((aP aJ) (((aP aJ) (((aP aJ) (a.1,a.2.1,a.2.2.1,a.2.2.2.2)).2.2.1,((aP aJ) (a.1,a.2.1,a.2.2.1,a.2.2.2.2)).2.1,a.2.2.2.1,((aP aJ) (a.1,a.2.1,a.2.2.1,a.2.2.2.2)).2.2.2)).2.2.1,((aP aJ) (a.1,a.2.1,a.2.2.1,a.2.2.2.2)).1,((aP aJ) (((aP aJ) (a.1,a.2.1,a.2.2.1,a.2.2.2.2)).2.2.1,((aP aJ) (a.1,a.2.1,a.2.2.1,a.2.2.2.2)).2.1,a.2.2.2.1,((aP aJ) (a.1,a.2.1,a.2.2.1,a.2.2.2.2)).2.2.2)).1,((aP aJ) (((aP aJ) (a.1,a.2.1,a.2.2.1,a.2.2.2.2)).2.2.1,((aP aJ) (a.1,a.2.1,a.2.2.1,a.2.2.2.2)).2.1,a.2.2.2.1,((aP aJ) (a.1,a.2.1,a.2.2.1,a.2.2.2.2)).2.2.2)).2.2.2)).2.2.2)=(f9 aJ) a)))))))
theorem f250.of (a:(List (aB))×Int×Int×Int×Int) (h:f250.vc a):f250.tree a:=⟨rfl,⟨(a.1,a.2.1,a.2.2.1,a.2.2.2.2),⟨(bI (gl aA a.1) (rS aA)),⟨rfl,⟨rfl,⟨(DEqs.refl _),slQ (rS aA) (⟨rfl,⟨h.1,j5 h.2 (fun (h2:(List.length (((aP aJ) (a.1,a.2.1,a.2.2.1,a.2.2.2.2)).2.2.1))=a.1.length) hk=>⟨(h2).symm,⟨(((aP aJ) (a.1,a.2.1,a.2.2.1,a.2.2.2.2)).2.2.1,((aP aJ) (a.1,a.2.1,a.2.2.1,a.2.2.2.2)).2.1,a.2.2.2.1,((aP aJ) (a.1,a.2.1,a.2.2.1,a.2.2.2.2)).2.2.2),⟨((h2).symm.trans (bI (gl aA (((aP aJ) (a.1,a.2.1,a.2.2.1,a.2.2.2.2)).2.2.1)) (rS aA))),⟨rfl,⟨rfl,⟨(DEqs.refl _),slQ (rS aA) (⟨rfl,⟨hk.1,j5 hk.2 (fun (h4:(List.length (((aP aJ) (((aP aJ) (a.1,a.2.1,a.2.2.1,a.2.2.2.2)).2.2.1,((aP aJ) (a.1,a.2.1,a.2.2.1,a.2.2.2.2)).2.1,a.2.2.2.1,((aP aJ) (a.1,a.2.1,a.2.2.1,a.2.2.2.2)).2.2.2)).2.2.1))=a.1.length) hk=>⟨(h4).symm,⟨(((aP aJ) (((aP aJ) (a.1,a.2.1,a.2.2.1,a.2.2.2.2)).2.2.1,((aP aJ) (a.1,a.2.1,a.2.2.1,a.2.2.2.2)).2.1,a.2.2.2.1,((aP aJ) (a.1,a.2.1,a.2.2.1,a.2.2.2.2)).2.2.2)).2.2.1,((aP aJ) (a.1,a.2.1,a.2.2.1,a.2.2.2.2)).1,((aP aJ) (((aP aJ) (a.1,a.2.1,a.2.2.1,a.2.2.2.2)).2.2.1,((aP aJ) (a.1,a.2.1,a.2.2.1,a.2.2.2.2)).2.1,a.2.2.2.1,((aP aJ) (a.1,a.2.1,a.2.2.1,a.2.2.2.2)).2.2.2)).1,((aP aJ) (((aP aJ) (a.1,a.2.1,a.2.2.1,a.2.2.2.2)).2.2.1,((aP aJ) (a.1,a.2.1,a.2.2.1,a.2.2.2.2)).2.1,a.2.2.2.1,((aP aJ) (a.1,a.2.1,a.2.2.1,a.2.2.2.2)).2.2.2)).2.2.2),⟨((h4).symm.trans (bI (gl aA (((aP aJ) (((aP aJ) (a.1,a.2.1,a.2.2.1,a.2.2.2.2)).2.2.1,((aP aJ) (a.1,a.2.1,a.2.2.1,a.2.2.2.2)).2.1,a.2.2.2.1,((aP aJ) (a.1,a.2.1,a.2.2.1,a.2.2.2.2)).2.2.2)).2.2.1)) (rS aA))),⟨rfl,⟨rfl,⟨(DEqs.refl _),slQ (rS aA) (⟨rfl,⟨hk.1,j5 hk.2 (fun (h6:(List.length (((aP aJ) (((aP aJ) (((aP aJ) (a.1,a.2.1,a.2.2.1,a.2.2.2.2)).2.2.1,((aP aJ) (a.1,a.2.1,a.2.2.1,a.2.2.2.2)).2.1,a.2.2.2.1,((aP aJ) (a.1,a.2.1,a.2.2.1,a.2.2.2.2)).2.2.2)).2.2.1,((aP aJ) (a.1,a.2.1,a.2.2.1,a.2.2.2.2)).1,((aP aJ) (((aP aJ) (a.1,a.2.1,a.2.2.1,a.2.2.2.2)).2.2.1,((aP aJ) (a.1,a.2.1,a.2.2.1,a.2.2.2.2)).2.1,a.2.2.2.1,((aP aJ) (a.1,a.2.1,a.2.2.1,a.2.2.2.2)).2.2.2)).1,((aP aJ) (((aP aJ) (a.1,a.2.1,a.2.2.1,a.2.2.2.2)).2.2.1,((aP aJ) (a.1,a.2.1,a.2.2.1,a.2.2.2.2)).2.1,a.2.2.2.1,((aP aJ) (a.1,a.2.1,a.2.2.1,a.2.2.2.2)).2.2.2)).2.2.2)).2.2.1))=a.1.length) hk=>⟨(congrArg (fun x:Int×(List (aB))×Int=>x.1) hk :),slQ (Rds.to (rS aA) (congrArg (fun x:Int×(List (aB))×Int=>x.2.1) hk :)) (⟨(congrArg (fun x:Int×(List (aB))×Int=>x.2.2) hk :),trivial⟩)⟩)⟩⟩)⟩⟩⟩⟩⟩⟩)⟩⟩)⟩⟩⟩⟩⟩⟩)⟩⟩)⟩⟩⟩⟩⟩⟩
theorem f250.eq (a:(List (aB))×Int×Int×Int×Int):(f250.af a).gives f250.env (f250.args a) (f250.blks a) (f250.res a) (f250.blks' a)=f250.tree a:=by kernel_rfl
def f253.kills (a:(List (aB))×Int×Int×Int):List Hint:=[]
def f253.cuts (a:(List (aB))×Int×Int×Int):List (Nat×Σ β:Type,β→Tm):=[(999999,⟨Unit,fun x=>⟨[],[],[]⟩⟩)]
def f253.af (a:(List (aB))×Int×Int×Int):AF:=AF.mk (.seq (.region [⟨(some 10),1000000,.move,[.c (.int .i64 (0))],none⟩,
 ⟨(some 11),1000001,.move,[.c (.int .i64 (0))],none⟩])
 (.seq (.seq (.region [mR 12 2 4,
 mR 13 3 0,
 mR 14 4 2,
 oR 15 5 (.indexAddr 2 none) [13,14],
 oR 16 6 (.load true 2) [15],
 mR 17 7 0,
 mR 18 8 1,
 oR 19 9 (.indexAddr 2 none) [17,18],
 oR 20 10 (.load true 2) [19],
 oR 21 11 (.callv false) [12,16,20],
 ⟨(some 22),1000015,(.bin .lss),[.t 21,.c (.int .i64 (0))],none⟩])
 (.cond (.t 22) (.seq (.region [mR 23 16 3,
 oR 24 17 .nilCheck [23],
 oR 25 18 (.load false 1) [24],
 ⟨(some 26),1000019,(.bin .add),[.t 25,.c (.int .i64 (1))],none⟩,
 oR 27 20 .nilCheck [23],
 ⟨none,1000021,(.store 1),[.t 27,.t 26],none⟩])
 (.seq (.region [mR 28 22 2,
 mR 29 23 1,
 mR 10 24 28,
 mR 11 25 29])
 (.ret))) (.skip)))
 (.seq (.region [mR 30 26 1,
 mR 31 27 2,
 mR 10 28 30,
 mR 11 29 31])
 (.ret))))
 [.tmp 10,.tmp 11] 2 27
def f253.env:Env:=[(199,f199.C)]
def f253.tree (a:(List (aB))×Int×Int×Int):Prop:=Br (decide ((0:Int)≤a.2.2.1)&&decide (a.2.2.1 < (List.length a.1:Int))) ((a.1.length=a.1.length)∧(Br (decide ((0:Int)≤a.2.1)&&decide (a.2.1 < (List.length a.1:Int))) ((a.1.length=a.1.length)∧(f199.ent (fun c3=>True∧Br (decide ((cD c3) < (0:Int))) (Let (wI (a.2.2.2+(1:Int))) (fun v6:Int=>(a.2.2.1=(((aP aJ) a).1))∧(a.2.1=(((aP aJ) a).2.1))∧SlQ a.1.length (List.length (((aP aJ) a).2.2.1)) (gl aA a.1) (gl aA (((aP aJ) a).2.2.1)) ((v6=(((aP aJ) a).2.2.2))∧True))) ((a.2.1=(((aP aJ) a).1))∧(a.2.2.1=(((aP aJ) a).2.1))∧SlQ a.1.length (List.length (((aP aJ) a).2.2.1)) (gl aA a.1) (gl aA (((aP aJ) a).2.2.1)) ((a.2.2.2=(((aP aJ) a).2.2.2))∧True))) ((at_ a.1 a.2.2.1),(at_ a.1 a.2.1)))) False)) False
def f253.vc (a:(List (aB))×Int×Int×Int):Prop:=((0:Int)≤a.2.2.1∧a.2.2.1 < (List.length a.1:Int)∧((0:Int)≤a.2.1∧a.2.1 < (List.length a.1:Int)∧(((cD ((at_ a.1 a.2.2.1),(at_ a.1 a.2.1))) < (0:Int)→(-9223372036854775808≤(a.2.2.2+(1:Int))∧(a.2.2.2+(1:Int))≤9223372036854775807∧((a.2.2.1,a.2.1,a.1,(a.2.2.2+(1:Int)))=(aP aJ) a)))∧(¬((cD ((at_ a.1 a.2.2.1),(at_ a.1 a.2.1))) < (0:Int))→((a.2.1,a.2.2.1,a.1,a.2.2.2)=(aP aJ) a)))))
theorem f253.of (a:(List (aB))×Int×Int×Int) (h:f253.vc a):f253.tree a:=chk h.2.2 Cnd.ix ⟨h.1,h.2.1⟩ (fun h1 k16=>⟨rfl,chk k16.2.2 Cnd.ix ⟨k16.1,k16.2.1⟩ (fun h2 k15=>⟨rfl,(f199.ei ⟨trivial,br k15 Cnd.dec (fun h4 k12=>wrapK.i64 k12 (fun h8 h9 k10=>⟨(congrArg (fun x:Int×Int×(List (aB))×Int=>x.1) k10 :),⟨(congrArg (fun x:Int×Int×(List (aB))×Int=>x.2.1) k10 :),slQ (Rds.to (rS aA) (congrArg (fun x:Int×Int×(List (aB))×Int=>x.2.2.1) k10 :)) (⟨(congrArg (fun x:Int×Int×(List (aB))×Int=>x.2.2.2) k10 :),trivial⟩)⟩⟩)) (fun h5 k13=>⟨(congrArg (fun x:Int×Int×(List (aB))×Int=>x.1) k13 :),⟨(congrArg (fun x:Int×Int×(List (aB))×Int=>x.2.1) k13 :),slQ (Rds.to (rS aA) (congrArg (fun x:Int×Int×(List (aB))×Int=>x.2.2.1) k13 :)) (⟨(congrArg (fun x:Int×Int×(List (aB))×Int=>x.2.2.2) k13 :),trivial⟩)⟩⟩)⟩)⟩)⟩)
theorem f253.eq (a:(List (aB))×Int×Int×Int):(f253.af a).gives f253.env (f253.args a) (f253.blks a) (f253.res a) (f253.blks' a)=f253.tree a:=by kernel_rfl
theorem f199.ok (a:TSc×TSc) (_:True):f199.vc a:=⟨by unfold qI; simp,rfl⟩
theorem scY {x y:TSc} (h:cD (x,y) < 0):aJ x y=true:=decide_eq_true h
theorem scN {x y:TSc} (h:¬cD (x,y) < 0):aJ x y=false:=decide_eq_false h
theorem eO (l:List TSc) (i j:Int):aJ l.toArray[i.toNat]! l.toArray[j.toNat]! = aJ (at_ l i) (at_ l j):=by
 rw [yP,yP]
 rfl
theorem f233.ok (a:List TSc×Int×Int) (h:iA a):f233.vc a:=by
 obtain ⟨l,a,b⟩:=a
 obtain ⟨h1,h2,h3,h4⟩:=h
 simp only at h1 h2 h3 h4
 refine ⟨by simp only; omega,by simp only; omega,fun y=>a < y.1∧(y.1≤b∨y.1=a+1)∧y.2.length=l.length∧Sort.insOuter aJ a.toNat b.toNat y.1.toNat y.2.toArray=Sort.insertionSort aJ l.toArray a.toNat b.toNat,fun y=>(b+1 - y.1).toNat,⟨by simp only; omega,.inr rfl,rfl,?_⟩,fun y hy=>?_⟩
 ·simp only
  rw [show (a+1).toNat=a.toNat+1 from by omega]
  rfl
 ·obtain ⟨i,c⟩:=y
  obtain ⟨g1,g2,g3,g4⟩:=hy
  simp only at g1 g2 g3 g4 ⊢
  refine ⟨fun hib=>?_,fun hib=>?_⟩
  ·rw [zU aJ (by omega)] at g4
   refine ⟨fun z=>z.1=i∧a≤z.2.1∧z.2.1≤i∧z.2.2.length=l.length∧Sort.insOuter aJ a.toNat b.toNat (i.toNat+1) (Sort.insInner aJ a.toNat z.2.1.toNat z.2.2.toArray)=Sort.insertionSort aJ l.toArray a.toNat b.toNat,fun z=>z.2.1.toNat,⟨rfl,by simp only; omega,by simp only; omega,g3,g4⟩,fun z hz=>?_⟩
   obtain ⟨i',j,d⟩:=z
   obtain ⟨e1,e2,e3,e4,e5⟩:=hz
   simp only at e1 e2 e3 e4 e5 ⊢
   subst e1
   have fin:Sort.insInner aJ a.toNat j.toNat d.toArray=d.toArray→-9223372036854775808≤i'+(1:Int)∧i'+(1:Int)≤9223372036854775807∧(a < i'+1∧(i'+1≤b∨i'+1=a+1)∧d.length=l.length∧Sort.insOuter aJ a.toNat b.toNat (i'+1).toNat d.toArray=Sort.insertionSort aJ l.toArray a.toNat b.toNat)∧(b+1 - (i'+1)).toNat < (b+1 - i').toNat:=fun hh=>by
    rw [hh] at e5
    exact ⟨by omega,by omega,⟨by omega,by omega,e4,by rw [show (i'+1).toNat=i'.toNat+1 from by omega]; exact e5⟩,by omega⟩
   refine ⟨fun hj=>⟨by omega,by omega,by omega,by omega,by omega,by omega,fun hc=>⟨by omega,by omega,by omega,by omega,by omega,by omega,by omega,by omega,by omega,by omega,by omega,by omega,by omega,by omega,⟨rfl,by omega,by omega,by rw [List.length_set,List.length_set]; exact e4,?_⟩,by omega⟩,fun hc=>fin (sJ _ (.inr ?_))⟩,fun hj=>fin (sJ _ (.inl (by omega)))⟩
   ·have hl:aJ d.toArray[j.toNat]! d.toArray[j.toNat - 1]! = true:=by
     rw [show j.toNat - 1=(j - 1).toNat from by omega,eO]
     exact scY hc
    rw [yY aJ (by omega) hl,fH,show j.toNat - 1=(j - 1).toNat from by omega] at e5
    exact e5
   ·rw [show j.toNat - 1=(j - 1).toNat from by omega,eO]
    exact scN hc
  ·rw [aB0 aJ (by omega)] at g4
   exact congrArg Array.toList g4
theorem f237.ok (a:List TSc×Int×Int) (h:iA a):f237.vc a:=by
 obtain ⟨l,a,b⟩:=a
 obtain ⟨h1,h2,h3,h4⟩:=h
 simp only at h1 h2 h3 h4
 refine ⟨by simp only; omega,by simp only; omega,fun y=>a≤y.1∧y.2.1 < b∧y.2.2.length=l.length∧Sort.reverseLoop y.1.toNat y.2.1.toNat y.2.2.toArray=Sort.reverseRange l.toArray a.toNat b.toNat,fun y=>(y.2.1 - y.1).toNat,⟨by simp only; omega,by simp only; omega,rfl,?_⟩,fun y hy=>?_⟩
 ·simp only
  rw [show (b - 1).toNat=b.toNat - 1 from by omega]
  rfl
 ·obtain ⟨i,j,c⟩:=y
  obtain ⟨g1,g2,g3,g4⟩:=hy
  simp only at g1 g2 g3 g4 ⊢
  refine ⟨fun hij=>⟨by omega,by omega,by omega,by omega,by omega,by omega,by omega,by omega,by omega,by omega,by omega,by omega,⟨by omega,by omega,by rw [List.length_set,List.length_set]; exact g3,?_⟩,by omega⟩,fun hij=>?_⟩
  ·rw [aBD (by omega),fH,show i.toNat+1=(i+1).toNat from by omega,show j.toNat - 1=(j - 1).toNat from by omega] at g4
   exact g4
  ·rw [aC2 (by omega)] at g4
   exact congrArg Array.toList g4
theorem f248.ok (a:List TSc×Int×Int×Int) (h:kU a):f248.vc a:=by
 obtain ⟨l,lo,hi,first⟩:=a
 obtain ⟨h1,h2,h3,h4,h5,h6⟩:=h
 simp only at h1 h2 h3 h4 h5 h6
 refine ⟨fun y=>0≤y.1∧y.1≤1048576∧y.2.length=l.length∧Sort.siftDown aJ hi.toNat first.toNat y.1.toNat y.2.toArray=Sort.siftDown aJ hi.toNat first.toNat lo.toNat l.toArray,fun y=>(hi - y.1).toNat,⟨h1,h6,rfl,rfl⟩,fun y hy=>?_⟩
 obtain ⟨r,c⟩:=y
 obtain ⟨g1,g2,g3,g4⟩:=hy
 simp only at g1 g2 g3 g4 ⊢
 refine ⟨by omega,by omega,by omega,by omega,fun hc=>?_,fun hc=>?_⟩
 ·rw [tX aJ (by omega)] at g4
  exact congrArg Array.toList g4
 ·refine ⟨fun z=>z.1=r∧z.2.2=c∧2 * r+1≤z.2.1∧z.2.1≤2 * r+2∧z.2.1 < hi∧z.2.1.toNat=iY aJ hi.toNat first.toNat r.toNat c.toArray,
   ⟨by omega,by omega,fun h2c=>⟨by omega,by omega,by omega,by omega,by omega,by omega,by omega,by omega,by omega,by omega,fun hl=>⟨by omega,by omega,rfl,rfl,by simp only; omega,by simp only; omega,by simp only; omega,?_⟩,fun hl=>⟨rfl,rfl,by simp only; omega,by simp only; omega,by simp only; omega,?_⟩⟩,fun h2c=>⟨rfl,rfl,by simp only; omega,by simp only; omega,by simp only; omega,?_⟩⟩,fun z hz=>?_⟩
  ·have hl:=scY hl
   rw [← eO,show (first+(2 * r+1)).toNat=first.toNat+(2 * r.toNat+1) from by omega,show (first+(2 * r+1)+1).toNat=first.toNat+(2 * r.toNat+1)+1 from by omega] at hl
   unfold iY
   rw [hl,if_pos (by simp; omega)]
   simp only
   omega
  ·have hl:=scN hl
   rw [← eO,show (first+(2 * r+1)).toNat=first.toNat+(2 * r.toNat+1) from by omega,show (first+(2 * r+1)+1).toNat=first.toNat+(2 * r.toNat+1)+1 from by omega] at hl
   unfold iY
   rw [hl,if_neg (by simp)]
   simp only
   omega
  ·unfold iY
   rw [if_neg (by simp; omega)]
   simp only
   omega
  ·obtain ⟨r',ch,d⟩:=z
   obtain ⟨e1,e2,e3,e4,e5,e6⟩:=hz
   simp only at e1 e2 e3 e4 e5 e6 ⊢
   subst e1; subst e2
   have x1:(first+r').toNat=first.toNat+r'.toNat:=by omega
   have x2:(first+ch).toNat=first.toNat+ch.toNat:=by omega
   refine ⟨by omega,by omega,by omega,by omega,by omega,by omega,by omega,by omega,fun hl=>?_,fun hl=>⟨by omega,by omega,by omega,by omega,by omega,by omega,by omega,by omega,by omega,by omega,by omega,by omega,by omega,by omega,by omega,by omega,⟨by omega,by omega,by rw [List.length_set,List.length_set]; exact g3,?_⟩,by omega⟩⟩
   ·have hl:=scN hl
    rw [← eO,x1,x2,e6] at hl
    rw [aD9 aJ (by omega) hl] at g4
    exact congrArg Array.toList g4
   ·have hl:=scY (Classical.not_not.1 hl)
    rw [← eO,x1,x2,e6] at hl
    rw [aA5 aJ (by omega) hl,fH,← e6,← x1,← x2] at g4
    exact g4
theorem qF (c:List TSc×Int×Int×Int):(eU aJ c).length=c.1.length:=by
 unfold eU
 rw [Array.length_toList,xK aJ _ _ _ _ _ (Nat.le_refl _),List.size_toArray]
theorem f234.ok (a:List TSc×Int×Int) (h:gG a):f234.vc a:=by
 obtain ⟨l,a,b⟩:=a
 obtain ⟨⟨h1,h2,h3,h4⟩,h5⟩:=h
 simp only at h1 h2 h3 h4 h5
 refine ⟨by simp only; omega,by simp only; omega,by simp only; omega,by simp only; omega,by simp only; omega,by simp only; omega,
  fun y=>y.1=b - a∧-1≤y.2.1∧y.2.1≤b - a∧y.2.2.length=l.length∧Sort.heapPop aJ a.toNat (b.toNat - a.toNat) (Sort.heapBuild aJ (b.toNat - a.toNat) a.toNat (y.2.1+1).toNat y.2.2.toArray)=Sort.heapSort aJ l.toArray a.toNat b.toNat,fun y=>(y.2.1+1).toNat,⟨rfl,by simp only; omega,by simp only; omega,rfl,?_⟩,fun y hy=>?_⟩
 ·simp only
  unfold Sort.heapSort
  rw [show ((b - a - 1) / 2+1).toNat=(b.toNat - a.toNat - 1) / 2+1 from by omega]
 ·obtain ⟨hi,k,c⟩:=y
  obtain ⟨g1,g2,g3,g4,g5⟩:=hy
  simp only at g1 g2 g3 g4 g5 ⊢
  subst g1
  refine ⟨fun hk=>?_,fun hk=>?_⟩
  ·refine ⟨⟨hk,by simp only; omega,h1,by simp only; omega,by simp only; omega,by simp only; omega⟩,qF _,by omega,by omega,⟨rfl,by omega,by omega,(qF _).trans g4,?_⟩,by omega⟩
   rw [show (k+1).toNat=k.toNat+1 from by omega,Sort.heapBuild] at g5
   rw [show (k - 1+1).toNat=k.toNat from by omega]
   unfold eU
   rw [show (b - a).toNat=b.toNat - a.toNat from by omega]
   exact g5
  ·rw [show (k+1).toNat=0 from by omega,Sort.heapBuild] at g5
   refine ⟨by omega,by omega,fun z=>-1≤z.1∧z.1 < b - a∧z.2.length=l.length∧Sort.heapPop aJ a.toNat (z.1+1).toNat z.2.toArray=Sort.heapSort aJ l.toArray a.toNat b.toNat,fun z=>(z.1+1).toNat,⟨by simp only; omega,by simp only; omega,g4,?_⟩,fun z hz=>?_⟩
   ·simp only
    rw [show (b - a - 1+1).toNat=b.toNat - a.toNat from by omega]
    exact g5
   ·obtain ⟨i,d⟩:=z
    obtain ⟨e1,e2,e3,e4⟩:=hz
    simp only at e1 e2 e3 e4 ⊢
    have hlen:(List.set (List.set d a.toNat (at_ d (a+i))) (a+i).toNat (at_ d a)).length=d.length:=by rw [List.length_set,List.length_set]
    refine ⟨fun hi=>⟨by omega,by omega,by omega,by omega,by omega,by omega,by omega,by omega,by omega,by omega,by omega,by omega,⟨Int.le_refl _,hi,h1,by simp only; rw [hlen]; omega,by simp only; rw [hlen]; omega,by simp only; omega⟩,(qF _).trans hlen,by omega,by omega,⟨by omega,by omega,((qF _).trans hlen).trans e3,?_⟩,by omega⟩,fun hi=>?_⟩
    ·rw [show (i+1).toNat=i.toNat+1 from by omega,Sort.heapPop,fH,show a.toNat+i.toNat=(a+i).toNat from by omega] at e4
     rw [show (i - 1+1).toNat=i.toNat from by omega]
     exact e4
    ·rw [show (i+1).toNat=0 from by omega] at e4
     exact congrArg Array.toList e4
theorem f253.ok (a:List TSc×Int×Int×Int) (h:iO a):f253.vc a:=by
 obtain ⟨l,a,b,s⟩:=a
 obtain ⟨h1,h2,h3,h4,h5,h6⟩:=h
 simp only at h1 h2 h3 h4 h5 h6
 exact ⟨h3,h4,h1,h2,fun c=>⟨by simp only; omega,by simp only; omega,(if_pos (scY c)).symm⟩,fun c=>(if_neg (by rw [scN c]; decide)).symm⟩
theorem f235.ok (a:List TSc×Int×Int) (h:iA a):f235.vc a:=by
 obtain ⟨l,a,b⟩:=a
 obtain ⟨h1,h2,h3,h4⟩:=h
 simp only at h1 h2 h3 h4
 refine ⟨by simp only; omega,by simp only; omega,fun h8=>?_,fun h8=>?_⟩
 ·simp only at h8 ⊢
  have hn:(b - a).toNat=b.toNat - a.toNat:=by omega
  have hp:=wX (n:=b.toNat - a.toNat) (by omega)
  have hm:mP (b - a)=((2 ^ fP (b.toNat - a.toNat):Nat):Int):=by
   unfold mP
   rw [hn]
  refine ⟨by omega,by omega,⟨by omega,by omega⟩,by omega,by omega,by omega,by omega,by omega,by omega,by omega,by omega,
   fun y=>y.1=b - a∧y.2.1=mP (b - a)∧∃ k:Nat,k≤3∧y.2.2.1=a+(b - a) / 4 * 2 - 1+k∧y.2.2.2.1.toArray=(gV l.toArray a.toNat (b.toNat - a.toNat) (1 <<< Sort.bitsLen (b.toNat - a.toNat)) (a.toNat+(b.toNat - a.toNat) / 4 * 2 - 1) k).2∧y.2.2.2.2=((gV l.toArray a.toNat (b.toNat - a.toNat) (1 <<< Sort.bitsLen (b.toNat - a.toNat)) (a.toNat+(b.toNat - a.toNat) / 4 * 2 - 1) k).1.toNat:Int),
   fun y=>(a+(b - a) / 4 * 2+2 - y.2.2.1).toNat,⟨rfl,rfl,0,by omega,by simp only; omega,rfl,?_⟩,fun y hy=>?_⟩
  ·simp only [gV]
   rw [UInt64.toNat_ofNat',Nat.mod_eq_of_lt (by simp; omega)]
   omega
  ·obtain ⟨n,m,idx,c,r⟩:=y
   obtain ⟨e1,e2,k,k3,e4,e5,e6⟩:=hy
   simp only at e1 e2 e4 e5 e6 ⊢
   subst e1; subst e2; subst e4; subst e6
   have hlen:c.length=l.length:=by
    have:=congrArg Array.size e5
    rw [lZ] at this
    simpa using this
   have hsu:=qV l.toArray a.toNat (b.toNat - a.toNat) (1 <<< Sort.bitsLen (b.toNat - a.toNat)) (a.toNat+(b.toNat - a.toNat) / 4 * 2 - 1) k
   generalize hst:gV l.toArray a.toNat (b.toNat - a.toNat) (1 <<< Sort.bitsLen (b.toNat - a.toNat)) (a.toNat+(b.toNat - a.toNat) / 4 * 2 - 1) k=st at e5 hsu ⊢
   have hr:st.1.toNat < 18446744073709551616:=by have:=st.1.toNat_lt; simpa using this
   have hx:eT (st.1.toNat:Int)=(((Sort.xorNext st.1).toNat:Int),((Sort.xorNext st.1).toNat:Int)):=by
    unfold eT
    rw [Int.toNat_natCast,xH hr,← Sort.xorNext_toNat]
   have hr2:(Sort.xorNext st.1).toNat < 18446744073709551616:=by have:=(Sort.xorNext st.1).toNat_lt; simpa using this
   have hand:IntKind.u64.wrap ((BitVec.ofInt 64 ((eT (st.1.toNat:Int)).1) &&& BitVec.ofInt 64 (mP (b - a) - 1)).toNat:Int)=(((Sort.xorNext st.1).toNat &&& (1 <<< Sort.bitsLen (b.toNat - a.toNat) - 1):Nat):Int):=by
    rw [hx,hm,show ((2 ^ fP (b.toNat - a.toNat):Nat):Int) - 1=((2 ^ fP (b.toNat - a.toNat) - 1:Nat):Int) from by omega]
    rw [Nat.one_shiftLeft,show Sort.bitsLen (b.toNat - a.toNat)=fP (b.toNat - a.toNat) from rfl]
    exact aI3 hr2 (by omega)
   have ho:=aG7 (n:=b.toNat - a.toNat) (Sort.xorNext st.1) (by omega)
   have hle:(Sort.xorNext st.1).toNat &&& (1 <<< Sort.bitsLen (b.toNat - a.toNat) - 1)≤2097152:=by
    rw [Nat.one_shiftLeft,show Sort.bitsLen (b.toNat - a.toNat)=fP (b.toNat - a.toNat) from rfl]
    have h2:(Sort.xorNext st.1).toNat &&& (2 ^ fP (b.toNat - a.toNat) - 1)≤2 ^ fP (b.toNat - a.toNat) - 1:=Nat.and_le_right
    omega
   rw [hand]
   have hod:uI (b.toNat - a.toNat) (1 <<< Sort.bitsLen (b.toNat - a.toNat)) (Sort.xorNext st.1)=if ((Sort.xorNext st.1).toNat &&& (1 <<< Sort.bitsLen (b.toNat - a.toNat) - 1)) ≥ b.toNat - a.toNat then ((Sort.xorNext st.1).toNat &&& (1 <<< Sort.bitsLen (b.toNat - a.toNat) - 1)) - (b.toNat - a.toNat) else (Sort.xorNext st.1).toNat &&& (1 <<< Sort.bitsLen (b.toNat - a.toNat) - 1):=rfl
   generalize hq:(Sort.xorNext st.1).toNat &&& (1 <<< Sort.bitsLen (b.toNat - a.toNat) - 1)=q at hle hod ⊢
   generalize hoo:uI (b.toNat - a.toNat) (1 <<< Sort.bitsLen (b.toNat - a.toNat)) (Sort.xorNext st.1)=o at ho hod hsu
   refine ⟨by omega,by omega,by omega,by omega,by omega,by omega,by omega,by omega,fun hi=>?_,fun hi=>?_⟩
   ·refine ⟨⟨by omega,by omega⟩,by omega,by omega,by omega,by omega,fun z=>z.1=b - a∧z.2.1=mP (b - a)∧z.2.2.1=a+(b - a) / 4 * 2 - 1+k∧z.2.2.2.1=(o:Int)∧z.2.2.2.2.1=c∧z.2.2.2.2.2=((Sort.xorNext st.1).toNat:Int),
     ⟨fun hc=>⟨by omega,by omega,rfl,rfl,rfl,?_,rfl,by rw [hx]⟩,fun hc=>⟨rfl,rfl,rfl,?_,rfl,by rw [hx]⟩⟩,fun z hz=>?_⟩
    ·rw [if_pos (by omega)] at hod
     simp only
     omega
    ·rw [if_neg (by omega)] at hod
     simp only
     omega
    ·obtain ⟨n',m',i',o',c',r'⟩:=z
     obtain ⟨z1,z2,z3,z4,z5,z6⟩:=hz
     simp only at z1 z2 z3 z4 z5 z6 ⊢
     subst z1; subst z2; subst z3; subst z4; subst z5; subst z6
     refine ⟨by omega,by omega,by omega,by omega,by omega,by omega,by omega,by omega,by omega,by omega,by omega,by omega,by omega,by omega,⟨by trivial,by trivial,k+1,by omega,by omega,?_,?_⟩,by omega⟩
     ·rw [hsu,← e5,fH,show (a.toNat+(b.toNat - a.toNat) / 4 * 2 - 1+k)=(a+(b - a) / 4 * 2 - 1+(k:Int)).toNat from by omega,show a.toNat+o=(a+(o:Int)).toNat from by omega]
      rfl
     ·rw [hsu]
   ·have:k=3:=by omega
    subst this
    unfold fD
    rw [aCC _ (by simp only; omega)]
    simp only
    rw [hst,← e5]
 ·unfold fD
  simp only at h8 ⊢
  rw [aAK _ (by omega)]
theorem aAH (l:List TSc) {a b s:Int} (h1:0≤a) (h2:0≤b) (h3:0≤s):aP aJ (l,a,b,s)=(((Sort.order2 aJ l.toArray a.toNat b.toNat s.toNat).1:Int),((Sort.order2 aJ l.toArray a.toNat b.toNat s.toNat).2.1:Int),l,((Sort.order2 aJ l.toArray a.toNat b.toNat s.toNat).2.2:Int)):=by
 unfold aP Sort.order2
 rw [eO]
 simp only
 split
 ·rw [show ((b.toNat:Nat):Int)=b from by omega,show ((a.toNat:Nat):Int)=a from by omega,show ((s.toNat+1:Nat):Int)=s+1 from by omega]
 ·rw [show ((b.toNat:Nat):Int)=b from by omega,show ((a.toNat:Nat):Int)=a from by omega,show ((s.toNat:Nat):Int)=s from by omega]
theorem f250.ok (a:List TSc×Int×Int×Int×Int) (h:oF a):f250.vc a:=by
 obtain ⟨l,a,b,c,s⟩:=a
 obtain ⟨h1,h2,h3,h4,h5,h6,h7,h8⟩:=h
 simp only at h1 h2 h3 h4 h5 h6 h7 h8
 have mem:∀ x y z:Nat,(Sort.order2 aJ l.toArray x y z).1 < l.length∧(Sort.order2 aJ l.toArray x y z).2.1 < l.length∨¬(x < l.length∧y < l.length):=fun x y z=>by
  rcases Sort.order2_mem aJ l.toArray x y z with ⟨e1,e2⟩ | ⟨e1,e2⟩ <;> omega
 have m1:=mem a.toNat b.toNat s.toNat
 have c1:=Sort.order2_count aJ l.toArray a.toNat b.toNat s.toNat
 have q1:=aAH l (a:=a) (b:=b) (s:=s) h1 h3 h7
 unfold f250.vc
 simp only
 rw [q1]
 simp only
 generalize hr1:Sort.order2 aJ l.toArray a.toNat b.toNat s.toNat=r1 at m1 c1
 have q2:=aAH l (a:=(r1.2.1:Int)) (b:=c) (s:=(r1.2.2:Int)) (by omega) h5 (by omega)
 rw [q2]
 simp only [Int.toNat_natCast]
 have m2:=mem r1.2.1 c.toNat r1.2.2
 have c2:=Sort.order2_count aJ l.toArray r1.2.1 c.toNat r1.2.2
 generalize hr2:Sort.order2 aJ l.toArray r1.2.1 c.toNat r1.2.2=r2 at m2 c2
 have q3:=aAH l (a:=(r1.1:Int)) (b:=(r2.1:Int)) (s:=(r2.2.2:Int)) (by omega) (by omega) (by omega)
 rw [q3]
 simp only [Int.toNat_natCast]
 refine ⟨⟨h1,h2,h3,h4,h7,by simp only; omega⟩,by trivial,⟨by simp only; omega,by simp only; omega,h5,h6,by simp only; omega,by simp only; omega⟩,by trivial,⟨by simp only; omega,by simp only; omega,by simp only; omega,by simp only; omega,by simp only; omega,by simp only; omega⟩,by trivial,?_⟩
 unfold f9 Sort.median
 simp only
 rw [hr1,hr2]
theorem f249.ok (a:List TSc×Int×Int) (h:iV a):f249.vc a:=by
 obtain ⟨l,a,s⟩:=a
 obtain ⟨h1,h2,h3,h4,h5⟩:=h
 simp only at h1 h2 h3 h4 h5
 refine ⟨by simp only; omega,by simp only; omega,by simp only; omega,by simp only; omega,⟨by simp only; omega,by simp only; omega,by simp only; omega,by simp only; omega,by simp only; omega,h2,h3,h4⟩,rfl,?_⟩
 unfold f9 aW Sort.medianAdjacent
 simp only
 rw [show (a - 1).toNat=a.toNat - 1 from by omega,show (a+1).toNat=a.toNat+1 from by omega]
set_option maxHeartbeats 4000000 in
theorem f236.ok (a:List TSc×Int×Int) (h:gG a):f236.vc a:=by
 obtain ⟨l,a,b⟩:=a
 obtain ⟨⟨h1,h2,h3,h4⟩,h5⟩:=h
 simp only at h1 h2 h3 h4 h5
 have d4:((b - a) / 4).toNat=(b.toNat - a.toNat) / 4:=by omega
 have t1:(a+(b - a) / 4 * 1).toNat=a.toNat+(b.toNat - a.toNat) / 4 * 1:=by omega
 have t2:(a+(b - a) / 4 * 2).toNat=a.toNat+(b.toNat - a.toNat) / 4 * 2:=by omega
 have t3:(a+(b - a) / 4 * 3).toNat=a.toNat+(b.toNat - a.toNat) / 4 * 3:=by omega
 refine ⟨by simp only; omega,by simp only; omega,by simp only; omega,by simp only; omega,by simp only; omega,by simp only; omega,by simp only; omega,by simp only; omega,by simp only; omega,by simp only; omega,by simp only; omega,by simp only; omega,by simp only; omega,by simp only; omega,by simp only; omega,by simp only; omega,by simp only; omega,by simp only; omega,by simp only; omega,by simp only; omega,
  fun y=>y.2.1=l∧(y.1,y.2.2)=(((Sort.rawPivot aJ l.toArray a.toNat b.toNat).1:Int),((Sort.rawPivot aJ l.toArray a.toNat b.toNat).2:Int)),⟨fun h8=>?_,fun h8=>⟨rfl,?_⟩⟩,fun y hy=>?_⟩
 ·simp only at h8 ⊢
  refine ⟨fun z=>z.2.2.2.1=l∧a≤z.1∧z.1 < b∧a≤z.2.1∧z.2.1 < b∧a≤z.2.2.1∧z.2.2.1 < b∧0≤z.2.2.2.2∧z.2.2.2.2≤9∧Sort.rawPivot aJ l.toArray a.toNat b.toNat=Sort.median aJ l.toArray z.1.toNat z.2.1.toNat z.2.2.1.toNat z.2.2.2.2.toNat,⟨fun h50=>?_,fun h50=>⟨rfl,by simp only; omega,by simp only; omega,by simp only; omega,by simp only; omega,by simp only; omega,by simp only; omega,by simp only; omega,by simp only; omega,?_⟩⟩,fun z hz=>?_⟩
  ·have mem:∀ x s:Nat,((Sort.medianAdjacent aJ l.toArray x s).1=x - 1∨(Sort.medianAdjacent aJ l.toArray x s).1=x∨(Sort.medianAdjacent aJ l.toArray x s).1=x+1)∧(Sort.medianAdjacent aJ l.toArray x s).2≤s+3:=fun x s=>⟨Sort.medianAdjacent_mem aJ l.toArray x s,Sort.medianAdjacent_count aJ l.toArray x s⟩
   unfold aW
   simp only [t1,t2,t3,Int.toNat_natCast]
   rw [show (0:Int).toNat=0 from rfl]
   have hraw:Sort.rawPivot aJ l.toArray a.toNat b.toNat=Sort.median aJ l.toArray (Sort.medianAdjacent aJ l.toArray (a.toNat+(b.toNat - a.toNat) / 4 * 1) 0).1 (Sort.medianAdjacent aJ l.toArray (a.toNat+(b.toNat - a.toNat) / 4 * 2) (Sort.medianAdjacent aJ l.toArray (a.toNat+(b.toNat - a.toNat) / 4 * 1) 0).2).1
    (Sort.medianAdjacent aJ l.toArray (a.toNat+(b.toNat - a.toNat) / 4 * 3) (Sort.medianAdjacent aJ l.toArray (a.toNat+(b.toNat - a.toNat) / 4 * 2) (Sort.medianAdjacent aJ l.toArray (a.toNat+(b.toNat - a.toNat) / 4 * 1) 0).2).2).1
    (Sort.medianAdjacent aJ l.toArray (a.toNat+(b.toNat - a.toNat) / 4 * 3) (Sort.medianAdjacent aJ l.toArray (a.toNat+(b.toNat - a.toNat) / 4 * 2) (Sort.medianAdjacent aJ l.toArray (a.toNat+(b.toNat - a.toNat) / 4 * 1) 0).2).2).2:=by
    unfold Sort.rawPivot
    rw [if_pos (by omega),if_pos (by omega)]
   have n1:=mem (a.toNat+(b.toNat - a.toNat) / 4 * 1) 0
   generalize Sort.medianAdjacent aJ l.toArray (a.toNat+(b.toNat - a.toNat) / 4 * 1) 0=r1 at n1 hraw ⊢
   have n2:=mem (a.toNat+(b.toNat - a.toNat) / 4 * 2) r1.2
   generalize Sort.medianAdjacent aJ l.toArray (a.toNat+(b.toNat - a.toNat) / 4 * 2) r1.2=r2 at n2 hraw ⊢
   have n3:=mem (a.toNat+(b.toNat - a.toNat) / 4 * 3) r2.2
   generalize Sort.medianAdjacent aJ l.toArray (a.toNat+(b.toNat - a.toNat) / 4 * 3) r2.2=r3 at n3 hraw ⊢
   exact ⟨⟨by simp only; omega,by simp only; omega,by simp only; omega,by simp only; omega,h4⟩,by trivial,⟨by simp only; omega,by simp only; omega,by simp only; omega,by simp only; omega,h4⟩,by trivial,⟨by simp only; omega,by simp only; omega,by simp only; omega,by simp only; omega,h4⟩,by trivial,by trivial,by omega,by omega,by omega,by omega,by omega,by omega,by omega,by omega,hraw⟩
  ·unfold Sort.rawPivot
   rw [if_pos (by omega),if_neg (by omega)]
   simp only [t1,t2,t3]
   rfl
  ·obtain ⟨i,j,k,c,s⟩:=z
   obtain ⟨z0,z1,z2,z3,z4,z5,z6,z7,z8,z9⟩:=hz
   simp only at z0 z1 z2 z3 z4 z5 z6 z7 z8 z9 ⊢
   subst z0
   refine ⟨⟨by simp only; omega,by simp only; omega,by simp only; omega,by simp only; omega,by simp only; omega,by simp only; omega,by simp only; omega,by simp only; omega⟩,rfl,rfl,?_⟩
   rw [z9]
   rfl
 ·simp only at h8 ⊢
  unfold Sort.rawPivot
  rw [if_neg (by omega)]
  simp only
  rw [← t2]
  refine Prod.ext ?_ rfl
  simp only
  omega
 ·obtain ⟨j,c,s⟩:=y
  obtain ⟨e1,e2⟩:=hy
  simp only at e1 e2 ⊢
  subst e1
  have e3:=congrArg Prod.fst e2
  have e4:=congrArg Prod.snd e2
  simp only at e3 e4
  unfold a9
  simp only
  rw [Sort.choosePivot_eq]
  simp only
  rw [← e3]
  refine ⟨fun c0=>?_,fun c0=>⟨fun c12=>?_,fun c12=>?_⟩⟩
  ·unfold Sort.hintOf
   rw [if_pos (by omega)]
   rfl
  ·unfold Sort.hintOf
   rw [if_neg (by omega),if_pos (by omega)]
   rfl
  ·unfold Sort.hintOf
   rw [if_neg (by omega),if_neg (by omega)]
   rfl
end Go.Abs
