/- Functions, and what the code asks of them: PAgent4. -/
import Derived.KernelRfl
import Derived.Test.YtjlehbennimkgaaRankTellsP4
import Derived.Test.YtjlehbennimkgaaRankTellsP5
import Derived.Test.YtjlehbennimkgaaRankTellsP6
import Derived.Test.YtjlehbennimkgaaRankTellsP9
import Derived.Test.YtjlehbennimkgaaRankTellsP10
set_option maxRecDepth 100000
set_option maxHeartbeats 4000000
set_option linter.unusedVariables false
set_option linter.unusedSimpArgs false
-- interregnum/interregnumref04.Has
namespace Go.Abs
open Go
def f360.ent (K:((List (aI))×(List (aI)))→Prop) (t:(List (aI))×(List (aI))):Prop:=∃ c:(List (aI))×(List (aI)),SlQ t.1.length c.1.length (gl aG t.1) (gl aG c.1) (SlQ t.2.length c.2.length (gl aG t.2) (gl aG c.2) (K c))
theorem f360.ei {K:((List (aI))×(List (aI)))→Prop} {t:(List (aI))×(List (aI))} (h:K t):f360.ent K t:=⟨t,slQ (rS aG) (slQ (rS aG) (h))⟩
def f360.args (a:(List (aI))×(List (aI))):List D:=[.slice .ro 2 a.1.length (gl aG a.1),.slice .ro 2 a.2.length (gl aG a.2)]
def f360.blks (a:(List (aI))×(List (aI))):List (List D):=[]
def f360.res (a:(List (aI))×(List (aI))):List D:=[.bool (fA a)]
def f360.blks' (a:(List (aI))×(List (aI))):List (List D):=[]
def f360.C:aN:=FnC f360.args f360.blks (fun a=>kF a) f360.res f360.blks'
set_option linter.unusedVariables false
def f360.S0 (a:(List (aI))×(List (aI))) (x:Int):Tm:=⟨.slice .ro 2 a.1.length (gl aG a.1)::.slice .ro 2 a.2.length (gl aG a.2)::dd 7 (.int .i64 (a.2.length:Int)::.int .i64 x::dd 23 []),[],[]⟩
def f360.S1 (a:(List (aI))×(List (aI))) (x:Int×Bool×Int×Int):Tm:=⟨.slice .ro 2 a.1.length (gl aG a.1)::.slice .ro 2 a.2.length (gl aG a.2)::.dead::.dead::.dead::.int .i64 x.1::.bool x.2.1::.dead::.dead::.int .i64 (a.2.length:Int)::.int .i64 x.2.2.1::.dead::.dead::.dead::.int .i64 (a.1.length:Int)::.int .i64 x.2.2.2::dd 18 [],[],[]⟩
def f360.l1 (a:(List (aI))×(List (aI))) (K:(Int×Bool×Int×Int)→Prop) (t:Int×Bool×Int×Int):Prop:=∃ x:Int×Bool×Int×Int,SlS aG a.1 (SlS aG a.2 ((t.1=x.1)∧(t.2.1=x.2.1)∧((a.2.length:Int)=(a.2.length:Int))∧(t.2.2.1=x.2.2.1)∧((a.1.length:Int)=(a.1.length:Int))∧(t.2.2.2=x.2.2.2)∧K x))
theorem f360.l1i (a:(List (aI))×(List (aI))) {K:(Int×Bool×Int×Int)→Prop} {t:Int×Bool×Int×Int} (h:K t):f360.l1 a K t:=⟨t,SlS.mk  (SlS.mk  (⟨rfl,⟨rfl,⟨rfl,⟨rfl,⟨rfl,⟨rfl,h⟩⟩⟩⟩⟩⟩))⟩
def f360.kills (a:(List (aI))×(List (aI))):List Hint:=[.tell Int (f360.S0 a),
 .tell (Int×Bool×Int×Int) (f360.S1 a)]
def f360.cuts (a:(List (aI))×(List (aI))):List (Nat×Σ β:Type,β→Tm):=[]
def f360.af (a:(List (aI))×(List (aI))):AF:=AF.mk (.seq (.region [⟨(some 4),0,.move,[.c (.bool false)],none⟩])
 (.seq (.seq (.region [mT 8 1 1,
 oT 9 2 (.len false) [8],
 ⟨(some 10),3,.move,[.c (.int .i64 (0))],none⟩])
 (.block 0 (.loopT Int (f360.S0 a) 4 34 (.seq (.region [oT 11 4 (.bin .lss) [10,9]])
 (.seq (.cond (.t 11) (.skip) (.exit 0))
 (.seq (.block 1 (.seq (.region [mT 12 5 10,
 mT 5 6 12])
 (.seq (.region [⟨(some 6),7,.move,[.c (.bool false)],none⟩])
 (.seq (.seq (.region [mT 13 8 0,
 oT 14 9 (.len false) [13],
 ⟨(some 15),10,.move,[.c (.int .i64 (0))],none⟩])
 (.block 2 (.loopT (Int×Bool×Int×Int) (f360.S1 a) 11 29 (.seq (.region [oT 16 11 (.bin .lss) [15,14]])
 (.seq (.cond (.t 16) (.skip) (.exit 2))
 (.seq (.block 3 (.seq (.region [mT 17 12 15,
 mT 7 13 17])
 (.region [mT 18 14 6,
 mT 19 15 18,
 oG 20 16 .move [0] 19 false,
 oG 21 17 .move [7] 19 false,
 oG 22 18 (.indexAddr 2 none) [20,21] 19 false,
 oG 23 19 (.load true 2) [22] 19 false,
 oG 24 20 .move [1] 19 false,
 oG 25 21 .move [5] 19 false,
 oG 26 22 (.indexAddr 2 none) [24,25] 19 false,
 oG 27 23 (.load true 2) [26] 19 false,
 oG 28 24 (.eqAgg false [2,2]) [23,27] 19 false,
 ⟨(some 29),25,.pick,[.t 19,.c (.bool true),.t 28],none⟩,
 mT 6 26 29])))
 (.region [⟨(some 30),27,(.bin .add),[.t 15,.c (.int .i64 (1))],none⟩,
 mT 15 28 30])))))))
 (.seq (.region [mT 31 29 6,
 oT 32 30 (.un .not) [31]])
 (.cond (.t 32) (.seq (.region [⟨(some 4),31,.move,[.c (.bool false)],none⟩])
 (.ret)) (.skip)))))))
 (.region [⟨(some 33),32,(.bin .add),[.t 10,.c (.int .i64 (1))],none⟩,
 mT 10 33 33])))))))
 (.seq (.region [⟨(some 4),34,.move,[.c (.bool true)],none⟩])
 (.ret))))
 [.tmp 4] 0 32
def f360.env:Env:=[]
def f360.tree (a:(List (aI))×(List (aI))):Prop:=∃ (I2:Int→Prop) (μ3:Int→Nat),(∃ x1:Int,SlS aG a.1 (SlS aG a.2 (((a.2.length:Int)=(a.2.length:Int))∧((0:Int)=x1)∧I2 x1)))∧∀ y4:Int,I2 y4→(Br (decide (y4 < (a.2.length:Int))) (∃ (I8:(Int×Bool×Int×Int)→Prop) (μ9:(Int×Bool×Int×Int)→Nat),(f360.l1 a I8 (y4,false,y4,(0:Int)))∧∀ y10:Int×Bool×Int×Int,I8 y10→(Br (decide (y10.2.2.2 < (a.1.length:Int))) (Br y10.2.1 (Let (wI (y10.2.2.2+(1:Int))) (fun v15:Int=>f360.l1 a (Dn I8 μ9 y10) (y10.1,true,y10.2.2.1,v15))) (Br (decide ((0:Int)≤y10.2.2.2)&&decide (y10.2.2.2 < (a.1.length:Int))) (Br (decide ((0:Int)≤y10.1)&&decide (y10.1 < (a.2.length:Int))) (Let (wI (y10.2.2.2+(1:Int))) (fun v23:Int=>f360.l1 a (Dn I8 μ9 y10) (y10.1,((((at_ a.1 y10.2.2.2).1).toList==((at_ a.2 y10.1).1).toList)&&(((at_ a.1 y10.2.2.2).2).toList==((at_ a.2 y10.1).2).toList)),y10.2.2.1,v23))) False) False)) (Br (!y10.2.1) ((false=(fA a))∧True) (Let (wI (y10.2.2.1+(1:Int))) (fun v36:Int=>∃ x37:Int,SlS aG a.1 (SlS aG a.2 (((a.2.length:Int)=(a.2.length:Int))∧(v36=x37)∧I2 x37∧μ3 x37 < μ3 y4))))))) ((true=(fA a))∧True))
def f360.vc (a:(List (aI))×(List (aI))):Prop:=(∃ (I2:Int→Prop) (μ3:Int→Nat),I2 (0:Int)∧∀ y4:Int,I2 y4→((y4 < (a.2.length:Int)→(∃ (I8:(Int×Bool×Int×Int)→Prop) (μ9:(Int×Bool×Int×Int)→Nat),I8 (y4,false,y4,(0:Int))∧∀ y10:Int×Bool×Int×Int,I8 y10→((y10.2.2.2 < (a.1.length:Int)→((y10.2.1=true→(-9223372036854775808≤(y10.2.2.2+(1:Int))∧(y10.2.2.2+(1:Int))≤9223372036854775807∧(I8 (y10.1,true,y10.2.2.1,(y10.2.2.2+(1:Int)))∧μ9 (y10.1,true,y10.2.2.1,(y10.2.2.2+(1:Int))) < μ9 y10)))∧(¬(y10.2.1=true)→((0:Int)≤y10.2.2.2∧y10.2.2.2 < (a.1.length:Int)∧((0:Int)≤y10.1∧y10.1 < (a.2.length:Int)∧(-9223372036854775808≤(y10.2.2.2+(1:Int))∧(y10.2.2.2+(1:Int))≤9223372036854775807∧(I8 (y10.1,((((at_ a.1 y10.2.2.2).1).toList==((at_ a.2 y10.1).1).toList)&&(((at_ a.1 y10.2.2.2).2).toList==((at_ a.2 y10.1).2).toList)),y10.2.2.1,(y10.2.2.2+(1:Int)))∧μ9 (y10.1,((((at_ a.1 y10.2.2.2).1).toList==((at_ a.2 y10.1).1).toList)&&(((at_ a.1 y10.2.2.2).2).toList==((at_ a.2 y10.1).2).toList)),y10.2.2.1,(y10.2.2.2+(1:Int))) < μ9 y10)))))))∧(¬(y10.2.2.2 < (a.1.length:Int))→((¬(y10.2.1=true)→(false=fA a))∧(¬(¬(y10.2.1=true))→(-9223372036854775808≤(y10.2.2.1+(1:Int))∧(y10.2.2.1+(1:Int))≤9223372036854775807∧(I2 (y10.2.2.1+(1:Int))∧μ3 (y10.2.2.1+(1:Int)) < μ3 y4))))))))∧(¬(y4 < (a.2.length:Int))→(true=fA a))))
theorem f360.of (a:(List (aI))×(List (aI))) (h:f360.vc a):f360.tree a:=Exists.elim h (fun I2 h52_=>Exists.elim h52_ (fun μ3 h52=>⟨I2,μ3,⟨(0:Int),SlS.mk  (SlS.mk  (⟨rfl,⟨rfl,h52.1⟩⟩))⟩,fun y4 h54=>br (h52.2 y4 h54) Cnd.dec (fun h5 k50=>Exists.elim k50 (fun I8 h46_=>Exists.elim h46_ (fun μ9 h46=>⟨I8,μ9,(f360.l1i a h46.1),fun y10 h48=>br (h46.2 y10 h48) Cnd.dec (fun h11 k44=>br k44 Cnd.b (fun h13 k31=>wrapK.i64 k31 (fun h18 h19 k20=>(f360.l1i a k20))) (fun h14 k32=>chk k32.2.2 Cnd.ix ⟨k32.1,k32.2.1⟩ (fun h21 k30=>chk k30.2.2 Cnd.ix ⟨k30.1,k30.2.1⟩ (fun h22 k29=>wrapK.i64 k29 (fun h26 h27 k28=>(f360.l1i a k28)))))) (fun h12 k45=>br k45 (Cnd.not Cnd.b) (fun h33 k42=>⟨k42,trivial⟩) (fun h34 k43=>wrapK.i64 k43 (fun h39 h40 k41=>⟨(y10.2.2.1+(1:Int)),SlS.mk  (SlS.mk  (⟨rfl,⟨rfl,k41⟩⟩))⟩)))⟩))) (fun h6 k51=>⟨k51,trivial⟩)⟩))
theorem f360.eq (a:(List (aI))×(List (aI))):(f360.af a).gives f360.env (f360.args a) (f360.blks a) (f360.res a) (f360.blks' a)=f360.tree a:=by kernel_rfl
def f365.ent (K:(aD×(List (aF)))→Prop) (t:aD×(List (aF))):Prop:=∃ c:aD×(List (aF)),(t.1.1.1=c.1.1.1)∧(t.1.1.2.1.1=c.1.1.2.1.1)∧(t.1.1.2.1.2.1=c.1.1.2.1.2.1)∧(t.1.1.2.1.2.2=c.1.1.2.1.2.2)∧SlQ t.1.1.2.2.length c.1.1.2.2.length (gl aG t.1.1.2.2) (gl aG c.1.1.2.2) ((t.1.2.1=c.1.2.1)∧(t.1.2.2=c.1.2.2)∧SlQ t.2.length c.2.length (gl aM t.2) (gl aM c.2) (K c))
theorem f365.ei {K:(aD×(List (aF)))→Prop} {t:aD×(List (aF))} (h:K t):f365.ent K t:=⟨t,⟨rfl,⟨rfl,⟨rfl,⟨rfl,slQ (rS aG) (⟨rfl,⟨rfl,slQ (rS aM) (h)⟩⟩)⟩⟩⟩⟩⟩
def f365.args (a:aD×(List (aF))):List D:=[.agg [.str a.1.1.1,.int .i64 a.1.1.2.1.1,.int .i64 a.1.1.2.1.2.1,.int .i64 a.1.1.2.1.2.2,.slice .ro 2 a.1.1.2.2.length (gl aG a.1.1.2.2),.bool a.1.2.1,.int .i64 a.1.2.2],.slice .ro 13 a.2.length (gl aM a.2)]
def f365.blks (a:aD×(List (aF))):List (List D):=[]
def f365.res (a:aD×(List (aF))):List D:=[.agg [.int .i64 (((bX a).1).1),.int .i64 (((bX a).1).2.1),.int .i64 (((bX a).1).2.2)],.int .i64 ((bX a).2)]
def f365.blks' (a:aD×(List (aF))):List (List D):=[]
def f365.C:aN:=FnC f365.args f365.blks (fun a=>fI a) f365.res f365.blks'
def f369.ent (K:(aC×aC)→Prop) (t:aC×aC):Prop:=∃ c:aC×aC,(t.1.1=c.1.1)∧(t.1.2.1=c.1.2.1)∧(t.1.2.2=c.1.2.2)∧(t.2.1=c.2.1)∧(t.2.2.1=c.2.2.1)∧(t.2.2.2=c.2.2.2)∧K c
theorem f369.ei {K:(aC×aC)→Prop} {t:aC×aC} (h:K t):f369.ent K t:=⟨t,⟨rfl,⟨rfl,⟨rfl,⟨rfl,⟨rfl,⟨rfl,h⟩⟩⟩⟩⟩⟩⟩
def f369.args (a:aC×aC):List D:=[.agg [.int .i64 a.1.1,.int .i64 a.1.2.1,.int .i64 a.1.2.2],.agg [.int .i64 a.2.1,.int .i64 a.2.2.1,.int .i64 a.2.2.2]]
def f369.blks (a:aC×aC):List (List D):=[]
def f369.res (a:aC×aC):List D:=[.agg [.int .i64 (((dP a).1).1),.int .i64 (((dP a).1).2.1),.int .i64 (((dP a).1).2.2)],.int .i64 ((dP a).2)]
def f369.blks' (a:aC×aC):List (List D):=[]
def f369.C:aN:=FnC f369.args f369.blks (fun _=>True) f369.res f369.blks'
def f365.S0 (a:aD×(List (aF))) (x:(List (aC))×Int):Tm:=⟨.dead::.slice .ro 13 a.2.length (gl aM a.2)::.ptr 0 0::.dead::.ptr 1 0::.dead::.slice (.own 6) 3 x.1.length (gl aX x.1)::.dead::.dead::.dead::.dead::.int .i64 (a.2.length:Int)::.int .i64 x.2::dd 37 [],[(0,false,[.str a.1.1.1,.int .i64 a.1.1.2.1.1,.int .i64 a.1.1.2.1.2.1,.int .i64 a.1.1.2.1.2.2,.slice .ro 2 a.1.1.2.2.length (gl aG a.1.1.2.2),.bool a.1.2.1,.int .i64 a.1.2.2]),(1,false,[.int .i64 (0:Int),.int .i64 (0:Int),.int .i64 (0:Int)])],[(6,3,x.1.length)]⟩
def f365.kills (a:aD×(List (aF))):List Hint:=[.tell ((List (aC))×Int) (f365.S0 a)]
def f365.cuts (a:aD×(List (aF))):List (Nat×Σ β:Type,β→Tm):=[]
def f365.af (a:aD×(List (aF))):AF:=AF.mk (.seq (.region [oT 2 0 .box [0],
 oT 4 1 (.alloc [.int .i64 (0),.int .i64 (0),.int .i64 (0)]) [],
 ⟨(some 5),5,.move,[.c (.int .i64 (0))],none⟩])
 (.seq (.region [oT 6 6 (.nilSl 3) []])
 (.seq (.seq (.region [mT 10 7 1,
 oT 11 8 (.len false) [10],
 ⟨(some 12),9,.move,[.c (.int .i64 (0))],none⟩])
 (.block 0 (.loopT ((List (aC))×Int) (f365.S0 a) 10 34 (.seq (.region [oT 13 10 (.bin .lss) [12,11]])
 (.seq (.cond (.t 13) (.skip) (.exit 0))
 (.seq (.block 1 (.seq (.region [mT 14 11 12,
 mT 7 12 14])
 (.seq (.region [mT 15 13 1,
 mT 16 14 7,
 oT 17 15 (.indexAddr 13 none) [15,16],
 oT 18 16 (.fieldAddr 11) [17],
 oT 19 17 (.load false 1) [18],
 oT 20 18 (.fieldAddr 0) [2],
 oT 21 19 (.fieldAddr 0) [20],
 oT 22 20 (.load false 1) [21],
 oT 23 21 (.bin .eql) [19,22]])
 (.cond (.t 23) (.region [mT 24 22 6,
 mT 25 23 1,
 mT 26 24 7,
 oT 27 25 (.indexAddr 13 none) [25,26],
 oT 28 26 (.fieldAddr 0) [27],
 oT 29 27 (.fieldAddr 3) [28],
 oT 30 28 (.load true 3) [29],
 oT 31 29 (.buildSlice 3 1 [.int .i64 (0),.int .i64 (0),.int .i64 (0)] [(0,3)]) [30],
 oT 32 30 (.append 3 24) [24,31],
 mT 6 31 32]) (.skip)))))
 (.region [⟨(some 33),32,(.bin .add),[.t 12,.c (.int .i64 (1))],none⟩,
 mT 12 33 33])))))))
 (.seq (.region [mT 35 34 6,
 oT 36 35 (.call false 53) [35],
 mT 34 39 36,
 oT 37 40 (.extract 0) [34],
 oT 38 41 (.extract 1) [34],
 oT 8 42 (.alloc [.int .i64 (0),.int .i64 (0),.int .i64 (0)]) [],
 ⟨none,46,(.store 3),[.t 8,.t 37],none⟩,
 mT 9 47 38])
 (.seq (.seq (.region [mT 39 48 9,
 ⟨(some 40),49,(.bin .neq),[.t 39,.c (.int .i64 (0))],none⟩])
 (.cond (.t 40) (.seq (.region [oT 41 50 (.build [.int .i64 (0),.int .i64 (0),.int .i64 (0)] []) [],
 mT 42 51 9,
 ⟨none,52,(.store 3),[.t 4,.t 41],none⟩,
 mT 5 53 42])
 (.ret)) (.skip)))
 (.seq (.region [oT 43 54 (.fieldAddr 0) [2],
 oT 44 55 (.fieldAddr 1) [43],
 oT 45 56 (.load true 3) [44],
 oT 46 57 (.load true 3) [8],
 oT 47 58 (.call false 369) [45,46],
 oT 48 62 (.extract 0) [47],
 oT 49 63 (.extract 1) [47],
 ⟨none,64,(.store 3),[.t 4,.t 48],none⟩,
 mT 5 65 49])
 (.ret)))))))
 [.cell 4 true 3,.tmp 5] 0 48
def f365.env:Env:=[(53,f53.C),(369,f369.C)]
def f365.tree (a:aD×(List (aF))):Prop:=∃ (I2:((List (aC))×Int)→Prop) (μ3:((List (aC))×Int)→Nat),(∃ x1:(List (aC))×Int,SlS aM a.2 (SlQ 0 x1.1.length eM (gl aX x1.1) (((a.2.length:Int)=(a.2.length:Int))∧((0:Int)=x1.2)∧(a.1.1.1=a.1.1.1)∧(a.1.1.2.1.1=a.1.1.2.1.1)∧(a.1.1.2.1.2.1=a.1.1.2.1.2.1)∧(a.1.1.2.1.2.2=a.1.1.2.1.2.2)∧SlS aG a.1.1.2.2 ((a.1.2.1=a.1.2.1)∧(a.1.2.2=a.1.2.2)∧((0:Int)=(0:Int))∧((0:Int)=(0:Int))∧((0:Int)=(0:Int))∧(0=x1.1.length)∧I2 x1))))∧∀ y4:(List (aC))×Int,I2 y4→(Br (decide (y4.2 < (a.2.length:Int))) (Br (decide ((0:Int)≤y4.2)&&decide (y4.2 < (a.2.length:Int))) (Br (((at_ a.2 y4.2).2.2.1).toList==a.1.1.1.toList) (Br (decide ((0:Int)≤y4.2)&&decide (y4.2 < (a.2.length:Int))) ((y4.1.length=y4.1.length∧nX ((y4.1.length+1) * 24))∧(Let (wI (y4.2+(1:Int))) (fun v11:Int=>∃ x12:(List (aC))×Int,SlS aM a.2 (SlQ (y4.1.length+1) x12.1.length (gA (gl aX y4.1) y4.1.length (fun _=>[.int .i64 ((((at_ a.2 y4.2).1).2.2.2.1).1),.int .i64 ((((at_ a.2 y4.2).1).2.2.2.1).2.1),.int .i64 ((((at_ a.2 y4.2).1).2.2.2.1).2.2)])) (gl aX x12.1) (((a.2.length:Int)=(a.2.length:Int))∧(v11=x12.2)∧(a.1.1.1=a.1.1.1)∧(a.1.1.2.1.1=a.1.1.2.1.1)∧(a.1.1.2.1.2.1=a.1.1.2.1.2.1)∧(a.1.1.2.1.2.2=a.1.1.2.1.2.2)∧SlS aG a.1.1.2.2 ((a.1.2.1=a.1.2.1)∧(a.1.2.2=a.1.2.2)∧((0:Int)=(0:Int))∧((0:Int)=(0:Int))∧((0:Int)=(0:Int))∧((y4.1.length+1)=x12.1.length)∧I2 x12∧μ3 x12 < μ3 y4)))))) False) (Let (wI (y4.2+(1:Int))) (fun v18:Int=>∃ x19:(List (aC))×Int,SlS aM a.2 (SlQ y4.1.length x19.1.length (gl aX y4.1) (gl aX x19.1) (((a.2.length:Int)=(a.2.length:Int))∧(v18=x19.2)∧(a.1.1.1=a.1.1.1)∧(a.1.1.2.1.1=a.1.1.2.1.1)∧(a.1.1.2.1.2.1=a.1.1.2.1.2.1)∧(a.1.1.2.1.2.2=a.1.1.2.1.2.2)∧SlS aG a.1.1.2.2 ((a.1.2.1=a.1.2.1)∧(a.1.2.2=a.1.2.2)∧((0:Int)=(0:Int))∧((0:Int)=(0:Int))∧((0:Int)=(0:Int))∧(y4.1.length=x19.1.length)∧I2 x19∧μ3 x19 < μ3 y4)))))) False) (f53.ent (fun c27=>(L20 c27)∧Br (((dX c27).2) != (0:Int)) (((0:Int)=(((bX a).1).1))∧((0:Int)=(((bX a).1).2.1))∧((0:Int)=(((bX a).1).2.2))∧(((dX c27).2)=((bX a).2))∧True) (f369.ent (fun c31=>True∧((((dP c31).1).1)=(((bX a).1).1))∧((((dP c31).1).2.1)=(((bX a).1).2.1))∧((((dP c31).1).2.2)=(((bX a).1).2.2))∧(((dP c31).2)=((bX a).2))∧True) (a.1.1.2.1,((dX c27).1)))) y4.1))
def f365.vc (a:aD×(List (aF))):Prop:=(∃ (I2:((List (aC))×Int)→Prop) (μ3:((List (aC))×Int)→Nat),I2 ([],(0:Int))∧∀ y4:(List (aC))×Int,I2 y4→((y4.2 < (a.2.length:Int)→((0:Int)≤y4.2∧y4.2 < (a.2.length:Int)∧((((at_ a.2 y4.2).2.2.1)=a.1.1.1→((0:Int)≤y4.2∧y4.2 < (a.2.length:Int)∧(y4.1.length+1≤1073741824∧(-9223372036854775808≤(y4.2+(1:Int))∧(y4.2+(1:Int))≤9223372036854775807∧(I2 (y4.1++([(((at_ a.2 y4.2).1).2.2.2.1)]),(y4.2+(1:Int)))∧μ3 (y4.1++([(((at_ a.2 y4.2).1).2.2.2.1)]),(y4.2+(1:Int))) < μ3 y4)))))∧(¬(((at_ a.2 y4.2).2.2.1)=a.1.1.1)→(-9223372036854775808≤(y4.2+(1:Int))∧(y4.2+(1:Int))≤9223372036854775807∧(I2 (y4.1,(y4.2+(1:Int)))∧μ3 (y4.1,(y4.2+(1:Int))) < μ3 y4))))))∧(¬(y4.2 < (a.2.length:Int))→(L20 y4.1∧((¬((dX (y4.1)).2)=(0:Int)→((((0:Int),(0:Int),(0:Int)),(dX (y4.1)).2)=bX a))∧(¬(¬((dX (y4.1)).2)=(0:Int))→((((dP (a.1.1.2.1,((dX (y4.1)).1))).1),(dP (a.1.1.2.1,((dX (y4.1)).1))).2)=bX a)))))))
theorem f365.of (a:aD×(List (aF))) (h:f365.vc a):f365.tree a:=Exists.elim h (fun I2 h39_=>Exists.elim h39_ (fun μ3 h39=>⟨I2,μ3,⟨([],(0:Int)),SlS.mk  (slQ (Rds.nil (enc:=aX)) (⟨rfl,⟨rfl,⟨rfl,⟨rfl,⟨rfl,⟨rfl,SlS.mk  (⟨rfl,⟨rfl,⟨rfl,⟨rfl,⟨rfl,⟨(bI eM (Rds.nil (enc:=aX))),h39.1⟩⟩⟩⟩⟩⟩)⟩⟩⟩⟩⟩⟩))⟩,fun y4 h41=>br (h39.2 y4 h41) Cnd.dec (fun h5 k37=>chk k37.2.2 Cnd.ix ⟨k37.1,k37.2.1⟩ (fun h7 k26=>br k26 Cnd.seq (fun h8 k24=>chk k24.2.2 Cnd.ix ⟨k24.1,k24.2.1⟩ (fun h10 k17=>⟨⟨rfl,(iL k17.1 (by decide))⟩,wrapK.i64 k17.2 (fun h14 h15 k16=>⟨(y4.1++([(((at_ a.2 y4.2).1).2.2.2.1)]),(y4.2+(1:Int))),SlS.mk  (slQ (Rds.app (enc:=aX) (rS aX) (Rds.one (enc:=aX) (DEqs.refl _))) (⟨rfl,⟨rfl,⟨rfl,⟨rfl,⟨rfl,⟨rfl,SlS.mk  (⟨rfl,⟨rfl,⟨rfl,⟨rfl,⟨rfl,⟨(bI (gA (gl aX y4.1) y4.1.length (fun _=>[.int .i64 ((((at_ a.2 y4.2).1).2.2.2.1).1),.int .i64 ((((at_ a.2 y4.2).1).2.2.2.1).2.1),.int .i64 ((((at_ a.2 y4.2).1).2.2.2.1).2.2)])) (Rds.app (enc:=aX) (rS aX) (Rds.one (enc:=aX) (DEqs.refl _)))),k16⟩⟩⟩⟩⟩⟩)⟩⟩⟩⟩⟩⟩))⟩)⟩)) (fun h9 k25=>wrapK.i64 k25 (fun h21 h22 k23=>⟨(y4.1,(y4.2+(1:Int))),SlS.mk  (slQ (rS aX) (⟨rfl,⟨rfl,⟨rfl,⟨rfl,⟨rfl,⟨rfl,SlS.mk  (⟨rfl,⟨rfl,⟨rfl,⟨rfl,⟨rfl,⟨(bI (gl aX y4.1) (rS aX)),k23⟩⟩⟩⟩⟩⟩)⟩⟩⟩⟩⟩⟩))⟩)))) (fun h6 k38=>(f53.ei ⟨k38.1,br k38.2 Cnd.ne (fun h28 k34=>⟨(congrArg (fun x:aC×Int=>x.1.1) k34 :),⟨(congrArg (fun x:aC×Int=>x.1.2.1) k34 :),⟨(congrArg (fun x:aC×Int=>x.1.2.2) k34 :),⟨(congrArg (fun x:aC×Int=>x.2) k34 :),trivial⟩⟩⟩⟩) (fun h29 k35=>(f369.ei ⟨trivial,⟨(congrArg (fun x:aC×Int=>x.1.1) k35 :),⟨(congrArg (fun x:aC×Int=>x.1.2.1) k35 :),⟨(congrArg (fun x:aC×Int=>x.1.2.2) k35 :),⟨(congrArg (fun x:aC×Int=>x.2) k35 :),trivial⟩⟩⟩⟩⟩))⟩))⟩))
theorem f365.eq (a:aD×(List (aF))):(f365.af a).gives f365.env (f365.args a) (f365.blks a) (f365.res a) (f365.blks' a)=f365.tree a:=by kernel_rfl
def f369.kills (a:aC×aC):List Hint:=[.unroll 4 [0,1,5,7,8,9,10,11,12,13,14,15,16,17,18,19,20,21,22,23,24,25,26,27,28,29,30,31,32,33] [0,1,2] []]
def f369.cuts (a:aC×aC):List (Nat×Σ β:Type,β→Tm):=[]
def f369.af (a:aC×aC):AF:=AF.mk (.seq (.region [oT 2 0 .box [0],
 oT 3 1 .box [1],
 oT 4 2 (.alloc [.int .i64 (0),.int .i64 (0),.int .i64 (0)]) [],
 ⟨(some 5),6,.move,[.c (.int .i64 (0))],none⟩])
 (.seq (.seq (.region [oT 7 7 (.load true 3) [2],
 oT 8 8 (.call false 55) [7],
 oT 9 12 (.un .not) [8],
 mT 10 13 9,
 oG 11 14 (.load true 3) [3] 10 false,
 oG 12 15 (.call false 55) [11] 10 false,
 oG 13 19 (.un .not) [12] 10 false,
 ⟨(some 14),20,.pick,[.t 10,.c (.bool true),.t 13],none⟩])
 (.cond (.t 14) (.seq (.region [oT 15 21 (.build [.int .i64 (0),.int .i64 (0),.int .i64 (0)] []) [],
 ⟨none,22,(.store 3),[.t 4,.t 15],none⟩,
 ⟨(some 5),23,.move,[.c (.int .i64 (1))],none⟩])
 (.ret)) (.skip)))
 (.seq (.seq (.region [⟨(some 6),24,.move,[.c (.int .i64 (0))],none⟩])
 (.block 0 (.loop 4 [0,1,5,7,8,9,10,11,12,13,14,15,16,17,18,19,20,21,22,23,24,25,26,27,28,29,30,31,32,33] [0,1,2] [] 25 40 (.seq (.seq (.region [mT 16 25 6,
 ⟨(some 17),26,(.bin .lss),[.t 16,.c (.int .i64 (3))],none⟩])
 (.cond (.t 17) (.skip) (.exit 0)))
 (.seq (.block 1 (.region [mT 20 27 6,
 mT 21 28 6,
 oT 22 29 (.indexAddr 1 (some 3)) [2,21],
 oT 23 30 (.load false 1) [22],
 mT 24 31 6,
 oT 25 32 (.indexAddr 1 (some 3)) [3,24],
 oT 26 33 (.load false 1) [25],
 oT 27 34 (.bin .sub) [23,26],
 oT 28 35 (.indexAddr 1 (some 3)) [2,20],
 ⟨none,36,(.store 1),[.t 28,.t 27],none⟩]))
 (.region [mT 18 37 6,
 ⟨(some 19),38,(.bin .add),[.t 18,.c (.int .i64 (1))],none⟩,
 mT 6 39 19]))))))
 (.seq (.seq (.region [oT 29 40 (.load true 3) [2],
 oT 30 41 (.call false 55) [29],
 oT 31 45 (.un .not) [30]])
 (.cond (.t 31) (.seq (.region [oT 32 46 (.build [.int .i64 (0),.int .i64 (0),.int .i64 (0)] []) [],
 ⟨none,47,(.store 3),[.t 4,.t 32],none⟩,
 ⟨(some 5),48,.move,[.c (.int .i64 (6))],none⟩])
 (.ret)) (.skip)))
 (.seq (.region [oT 33 49 (.load true 3) [2],
 ⟨none,50,(.store 3),[.t 4,.t 33],none⟩,
 ⟨(some 5),51,.move,[.c (.int .i64 (0))],none⟩])
 (.ret))))))
 [.cell 4 true 3,.tmp 5] 0 32
def f369.env:Env:=[(55,f55.C)]
def f369.tree (a:aC×aC):Prop:=∃ c1:aC,(a.1.1=c1.1)∧(a.1.2.1=c1.2.1)∧(a.1.2.2=c1.2.2)∧True∧Br (!(aR c1)) (((0:Int)=(((dP a).1).1))∧((0:Int)=(((dP a).1).2.1))∧((0:Int)=(((dP a).1).2.2))∧((1:Int)=((dP a).2))∧True) (∃ c5:aC,(a.2.1=c5.1)∧(a.2.2.1=c5.2.1)∧(a.2.2.2=c5.2.2)∧True∧Br (!(aR c5)) (((0:Int)=(((dP a).1).1))∧((0:Int)=(((dP a).1).2.1))∧((0:Int)=(((dP a).1).2.2))∧((1:Int)=((dP a).2))∧True) (Let (wI (a.1.1 - a.2.1)) (fun v9:Int=>Let (wI (a.1.2.1 - a.2.2.1)) (fun v10:Int=>Let (wI (a.1.2.2 - a.2.2.2)) (fun v11:Int=>∃ c12:aC,(v9=c12.1)∧(v10=c12.2.1)∧(v11=c12.2.2)∧True∧Br (!(aR c12)) (((0:Int)=(((dP a).1).1))∧((0:Int)=(((dP a).1).2.1))∧((0:Int)=(((dP a).1).2.2))∧((6:Int)=((dP a).2))∧True) ((v9=(((dP a).1).1))∧(v10=(((dP a).1).2.1))∧(v11=(((dP a).1).2.2))∧((0:Int)=((dP a).2))∧True))))))
def f369.vc (a:aC×aC):Prop:=((¬((aR (a.1))=true)→((((0:Int),(0:Int),(0:Int)),(1:Int))=dP a))∧(¬(¬((aR (a.1))=true))→((¬((aR (a.2))=true)→((((0:Int),(0:Int),(0:Int)),(1:Int))=dP a))∧(¬(¬((aR (a.2))=true))→(-9223372036854775808≤(a.1.1 - a.2.1)∧(a.1.1 - a.2.1)≤9223372036854775807∧(-9223372036854775808≤(a.1.2.1 - a.2.2.1)∧(a.1.2.1 - a.2.2.1)≤9223372036854775807∧(-9223372036854775808≤(a.1.2.2 - a.2.2.2)∧(a.1.2.2 - a.2.2.2)≤9223372036854775807∧((¬((aR ((a.1.1 - a.2.1),(a.1.2.1 - a.2.2.1),(a.1.2.2 - a.2.2.2)))=true)→((((0:Int),(0:Int),(0:Int)),(6:Int))=dP a))∧(¬(¬((aR ((a.1.1 - a.2.1),(a.1.2.1 - a.2.2.1),(a.1.2.2 - a.2.2.2)))=true))→((((a.1.1 - a.2.1),(a.1.2.1 - a.2.2.1),(a.1.2.2 - a.2.2.2)),(0:Int))=dP a))))))))))
theorem f369.of (a:aC×aC) (h:f369.vc a):f369.tree a:=⟨a.1,⟨rfl,⟨rfl,⟨rfl,⟨trivial,br h (Cnd.not Cnd.b) (fun h2 k32=>⟨(congrArg (fun x:aC×Int=>x.1.1) k32 :),⟨(congrArg (fun x:aC×Int=>x.1.2.1) k32 :),⟨(congrArg (fun x:aC×Int=>x.1.2.2) k32 :),⟨(congrArg (fun x:aC×Int=>x.2) k32 :),trivial⟩⟩⟩⟩) (fun h3 k33=>⟨a.2,⟨rfl,⟨rfl,⟨rfl,⟨trivial,br k33 (Cnd.not Cnd.b) (fun h6 k29=>⟨(congrArg (fun x:aC×Int=>x.1.1) k29 :),⟨(congrArg (fun x:aC×Int=>x.1.2.1) k29 :),⟨(congrArg (fun x:aC×Int=>x.1.2.2) k29 :),⟨(congrArg (fun x:aC×Int=>x.2) k29 :),trivial⟩⟩⟩⟩) (fun h7 k30=>wrapK.i64 k30 (fun h26 h27 k28=>wrapK.i64 k28 (fun h23 h24 k25=>wrapK.i64 k25 (fun h20 h21 k22=>⟨((a.1.1 - a.2.1),(a.1.2.1 - a.2.2.1),(a.1.2.2 - a.2.2.2)),⟨rfl,⟨rfl,⟨rfl,⟨trivial,br k22 (Cnd.not Cnd.b) (fun h13 k17=>⟨(congrArg (fun x:aC×Int=>x.1.1) k17 :),⟨(congrArg (fun x:aC×Int=>x.1.2.1) k17 :),⟨(congrArg (fun x:aC×Int=>x.1.2.2) k17 :),⟨(congrArg (fun x:aC×Int=>x.2) k17 :),trivial⟩⟩⟩⟩) (fun h14 k18=>⟨(congrArg (fun x:aC×Int=>x.1.1) k18 :),⟨(congrArg (fun x:aC×Int=>x.1.2.1) k18 :),⟨(congrArg (fun x:aC×Int=>x.1.2.2) k18 :),⟨(congrArg (fun x:aC×Int=>x.2) k18 :),trivial⟩⟩⟩⟩)⟩⟩⟩⟩⟩))))⟩⟩⟩⟩⟩)⟩⟩⟩⟩⟩
theorem f369.eq (a:aC×aC):(f369.af a).gives f369.env (f369.args a) (f369.blks a) (f369.res a) (f369.blks' a)=f369.tree a:=by kernel_rfl
theorem f369.ok (a:dO×dO) (_:True):f369.vc a:=by
 obtain ⟨x,y⟩:=a
 have hne:¬((-1:Int)=1):=by decide
 unfold f369.vc dP dA
 simp only [hne,if_false]
 refine ⟨fun c=>?_,fun c1=>⟨fun c=>?_,fun c2=>?_⟩⟩
 ·rw [if_pos (fun hh=>c hh.1)]; rfl
 ·rw [if_pos (fun hh=>c hh.2)]; rfl
 ·have c1:=Classical.not_not.1 c1
  have c2:=Classical.not_not.1 c2
  have r1:=fG.1 c1
  have r2:=fG.1 c2
  rw [if_neg (not_not_intro (And.intro c1 c2))]
  refine ⟨by omega,by omega,by omega,by omega,by omega,by omega,fun c=>?_,fun c=>?_⟩
  ·rw [if_neg (show ¬aR (aDM x y)=true from c)]; rfl
  ·rw [if_pos (show aR (aDM x y)=true from Classical.not_not.1 c)]; rfl
theorem f365.ok (a:cO×List dW) (h:fI a):f365.vc a:=by
 obtain ⟨m,l⟩:=a
 have h:l.length≤1048576:=h
 refine ⟨fun y=>0≤y.2∧y.2≤(l.length:Int)∧y.1++jY (l.drop y.2.toNat) m.1.1=jY l m.1.1∧y.1.length≤y.2.toNat,fun y=>l.length - y.2.toNat,⟨by simp only; omega,by simp only; omega,rfl,Nat.le_refl _⟩,fun y hy=>?_⟩
 obtain ⟨out,i⟩:=y
 obtain ⟨g0,g1,g2,g3⟩:=hy
 simp only at g0 g1 g2 g3 ⊢
 refine ⟨fun hlt=>⟨g0,hlt,fun c=>⟨g0,hlt,by omega,by omega,by omega,⟨by omega,by omega,?_,?_⟩,by omega⟩,fun c=>⟨by omega,by omega,⟨by omega,by omega,?_,by omega⟩,by omega⟩⟩,fun hge=>?_⟩
 ·rw [← g2,oH g0 hlt,xZ c,List.append_assoc]
  rfl
 ·rw [List.length_append,List.length_singleton]
  omega
 ·rw [← g2,oH g0 hlt,aAS c]
 ·rw [List.drop_of_length_le (by omega)] at g2
  have g2:out=jY l m.1.1:=by rw [← g2]; exact (List.append_nil _).symm
  subst g2
  refine ⟨by unfold L20; omega,fun c=>?_,fun c=>?_⟩
  ·unfold bX
   rw [if_pos c]
   rfl
  ·unfold bX
   rw [if_neg c]
theorem f360.ok (a:List gT×List gT) (h:kF a):f360.vc a:=by
 obtain ⟨l,w⟩:=a
 have h1:l.length≤1048576:=h.1
 have h2:w.length≤1048576:=h.2
 refine ⟨fun i=>(0≤i∧i≤(w.length:Int))∧∀ q:Nat,q < i.toNat→qT (l,w.getD q default)=true,fun i=>w.length - i.toNat,⟨⟨Int.le_refl _,by simp⟩,fun q hq=>by simp at hq⟩,fun i hi=>?_⟩
 obtain ⟨⟨g0,g1⟩,g2⟩:=hi
 simp only
 refine ⟨fun hlt=>?_,fun hge=>(mE.2 fun q hq=>g2 q (by simp only at hq; omega)).symm⟩
 refine ⟨fun y=>(y.1=i∧y.2.2.1=i)∧(0≤y.2.2.2∧y.2.2.2≤(l.length:Int))∧y.2.1=qT (l.take y.2.2.2.toNat,at_ w i),fun y=>l.length - y.2.2.2.toNat,⟨⟨rfl,rfl⟩,⟨Int.le_refl _,by simp⟩,rfl⟩,fun y hy=>?_⟩
 obtain ⟨y1,b,y3,k⟩:=y
 simp only at hy
 obtain ⟨⟨e1,e2⟩,⟨k0,k1⟩,e3⟩:=hy
 replace e1:=e1.symm
 replace e2:=e2.symm
 subst e1 e2
 have step:k < (l.length:Int)→qT (l.take (k+1).toNat,at_ w i)=(qT (l.take k.toNat,at_ w i) || decide (at_ l k=at_ w i)):=fun kl=>by
  have hk:k.toNat < l.length:=by omega
  unfold qT
  simp only
  rw [show (k+1).toNat=k.toNat+1 from by omega,List.take_succ_eq_append_getElem hk,List.any_append]
  have:at_ l k=l[k.toNat]:=by simp [at_,hk]
  rw [this]
  simp
 simp only
 refine ⟨fun kl=>⟨fun hb=>⟨by omega,by omega,⟨⟨trivial,trivial⟩,⟨by omega,by omega⟩,?_⟩,by omega⟩,fun hb=>⟨k0,kl,g0,hlt,by omega,by omega,⟨⟨trivial,trivial⟩,⟨by omega,by omega⟩,?_⟩,by omega⟩⟩,fun kg=>⟨fun hb=>?_,fun hb=>⟨by omega,by omega,⟨⟨by omega,by omega⟩,fun q hq=>?_⟩,by omega⟩⟩⟩
 ·rw [step kl,← e3,hb]; rfl
 ·rw [step kl,← e3,Bool.eq_false_iff.2 hb,Bool.false_or]
  rw [Bool.eq_iff_iff,decide_eq_true_iff]
  simp only [Bool.and_eq_true,beq_iff_eq,toList_inj]
  exact ⟨fun ⟨e1,e2⟩=>Prod.ext e1 e2,fun e=>by rw [e]; exact ⟨rfl,rfl⟩⟩
 ·rw [List.take_of_length_le (by omega)] at e3
  refine (Bool.eq_false_iff.2 fun hh=>hb ?_).symm
  rw [e3]
  exact mE.1 hh i.toNat (by simp only; omega)
 ·rw [List.take_of_length_le (by omega)] at e3
  by_cases hqi:q=i.toNat
  ·subst hqi
   exact e3.symm.trans (Classical.not_not.1 hb)
  ·exact g2 q (by omega)
end Go.Abs
