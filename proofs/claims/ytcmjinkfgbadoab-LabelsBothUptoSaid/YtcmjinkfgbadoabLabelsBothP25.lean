/- Functions, and what the code asks of them: PLabLaw. -/
import Derived.KernelRfl
import Derived.Test.YtcmjinkfgbadoabLabelsBothP5
import Derived.Test.YtcmjinkfgbadoabLabelsBothP6
import Derived.Test.YtcmjinkfgbadoabLabelsBothP7
import Derived.Test.YtcmjinkfgbadoabLabelsBothP8
import Derived.Test.YtcmjinkfgbadoabLabelsBothP9
import Derived.Test.YtcmjinkfgbadoabLabelsBothP10
import Derived.Test.YtcmjinkfgbadoabLabelsBothP12
import Derived.Test.YtcmjinkfgbadoabLabelsBothP13
import Derived.Test.YtcmjinkfgbadoabLabelsBothP20
import Derived.Test.YtcmjinkfgbadoabLabelsBothP21
import Derived.Test.YtcmjinkfgbadoabLabelsBothP23
set_option maxRecDepth 100000
set_option maxHeartbeats 4000000
set_option linter.unusedVariables false
set_option linter.unusedSimpArgs false
set_option linter.unusedSectionVars false
-- interregnum/interregnumlaw18.small
namespace Go.Abs
open Go
def f348.ent (K:(List (aB))→Prop) (t:List (aB)):Prop:=∃ c:List (aB),SlQ t.length c.length (gl aD t) (gl aD c) (K c)
theorem f348.ei {K:(List (aB))→Prop} {t:List (aB)} (h:K t):f348.ent K t:=⟨t,slQ (rS aD) (h)⟩
def f348.args (a:List (aB)):List D:=[.slice .ro 2 a.length (gl aD a)]
def f348.blks (a:List (aB)):List (List D):=[]
def f348.res (a:List (aB)):List D:=[.bool (cM a)]
def f348.blks' (a:List (aB)):List (List D):=[]
def f348.C:bA:=FnC f348.args f348.blks (fun a=>dD a) f348.res f348.blks'
set_option linter.unusedVariables false
def f348.S0 (a:List (aB)) (x:Int):Tm:=⟨.slice .ro 2 a.length (gl aD a)::dd 7 (.int .i64 (a.length:Int)::.int .i64 x::dd 17 []),[],[]⟩
def f348.kills (a:List (aB)):List lT:=[.tell Int (f348.S0 a)]
def f348.cuts (a:List (aB)):List (Nat×Σ β:Type,β→Tm):=[]
def f348.af (a:List (aB)):AF:=AF.mk (.seq (.region [⟨(some 2),0,.move,[.c (.bool false)],none⟩])
 (.seq (.seq (.region [mT 4 1 0,
 oT 5 2 (.len false) [4],
 ⟨(some 6),3,(.bin .gtr),[.t 5,.c (.int .i64 (30))],none⟩])
 (.cond (.t 6) (.seq (.region [⟨(some 2),4,.move,[.c (.bool false)],none⟩])
 (.ret)) (.skip)))
 (.seq (.seq (.region [mT 7 5 0,
 oT 8 6 (.len false) [7],
 ⟨(some 9),7,.move,[.c (.int .i64 (0))],none⟩])
 (.block 0 (.loopT Int (f348.S0 a) 8 28 (.seq (.region [oT 10 8 (.bin .lss) [9,8]])
 (.seq (.cond (.t 10) (.skip) (.exit 0))
 (.seq (.block 1 (.seq (.region [mT 11 9 9,
 mT 3 10 11])
 (.seq (.region [mT 12 11 0,
 mT 13 12 3,
 oT 14 13 (.indexAddr 2 none) [12,13],
 oT 15 14 (.fieldAddr 0) [14],
 oT 16 15 (.load false 1) [15],
 oT 17 16 (.len true) [16],
 mT 18 17 0,
 mT 19 18 3,
 oT 20 19 (.indexAddr 2 none) [18,19],
 oT 21 20 (.fieldAddr 1) [20],
 oT 22 21 (.load false 1) [21],
 oT 23 22 (.len true) [22],
 oT 24 23 (.bin .add) [17,23],
 ⟨(some 25),24,(.bin .gtr),[.t 24,.c (.int .i64 (1000))],none⟩])
 (.cond (.t 25) (.seq (.region [⟨(some 2),25,.move,[.c (.bool false)],none⟩])
 (.ret)) (.skip)))))
 (.region [⟨(some 26),26,(.bin .add),[.t 9,.c (.int .i64 (1))],none⟩,
 mT 9 27 26])))))))
 (.seq (.region [⟨(some 2),28,.move,[.c (.bool true)],none⟩])
 (.ret)))))
 [.tmp 2] 0 26
def f348.env:Env:=[]
def f348.tree (a:List (aB)):Prop:=Br (decide ((30:Int) < (a.length:Int))) ((false=(cM a))∧True) (∃ (I5:Int→Prop) (μ6:Int→Nat),(∃ x4:Int,SlS aD a (((a.length:Int)=(a.length:Int))∧((0:Int)=x4)∧I5 x4))∧∀ y7:Int,I5 y7→(Br (decide (y7 < (a.length:Int))) (Br (decide ((0:Int)≤y7)&&decide (y7 < (a.length:Int))) (Br (decide ((0:Int)≤y7)&&decide (y7 < (a.length:Int))) (Let (wI ((((at_ a y7).1).size:Int)+(((at_ a y7).2).size:Int))) (fun v12:Int=>Br (decide ((1000:Int) < v12)) ((false=(cM a))∧True) (Let (wI (y7+(1:Int))) (fun v16:Int=>∃ x17:Int,SlS aD a (((a.length:Int)=(a.length:Int))∧(v16=x17)∧I5 x17∧μ6 x17 < μ6 y7))))) False) False) ((true=(cM a))∧True)))
def f348.vc (a:List (aB)):Prop:=(((30:Int) < (a.length:Int)→(false=cM a))∧(¬((30:Int) < (a.length:Int))→(∃ (I5:Int→Prop) (μ6:Int→Nat),I5 (0:Int)∧∀ y7:Int,I5 y7→((y7 < (a.length:Int)→((0:Int)≤y7∧y7 < (a.length:Int)∧((0:Int)≤y7∧y7 < (a.length:Int)∧(-9223372036854775808≤((((at_ a y7).1).size:Int)+(((at_ a y7).2).size:Int))∧((((at_ a y7).1).size:Int)+(((at_ a y7).2).size:Int))≤9223372036854775807∧(((1000:Int) < ((((at_ a y7).1).size:Int)+(((at_ a y7).2).size:Int))→(false=cM a))∧(¬((1000:Int) < ((((at_ a y7).1).size:Int)+(((at_ a y7).2).size:Int)))→(-9223372036854775808≤(y7+(1:Int))∧(y7+(1:Int))≤9223372036854775807∧(I5 (y7+(1:Int))∧μ6 (y7+(1:Int)) < μ6 y7))))))))∧(¬(y7 < (a.length:Int))→(true=cM a))))))
theorem f348.of (a:List (aB)) (h:f348.vc a):f348.tree a:=br h Cnd.dec (fun h1 k35=>⟨k35,trivial⟩) (fun h2 k36=>Exists.elim k36 (fun I5 h32_=>Exists.elim h32_ (fun μ6 h32=>⟨I5,μ6,⟨(0:Int),SlS.mk  (⟨rfl,⟨rfl,h32.1⟩⟩)⟩,fun y7 h34=>br (h32.2 y7 h34) Cnd.dec (fun h8 k30=>chk k30.2.2 Cnd.ix ⟨k30.1,k30.2.1⟩ (fun h10 k28=>chk k28.2.2 Cnd.ix ⟨k28.1,k28.2.1⟩ (fun h11 k27=>wrapK.i64 k27 (fun h24 h25 k26=>br k26 Cnd.dec (fun h13 k22=>⟨k22,trivial⟩) (fun h14 k23=>wrapK.i64 k23 (fun h19 h20 k21=>⟨(y7+(1:Int)),SlS.mk  (⟨rfl,⟨rfl,k21⟩⟩)⟩)))))) (fun h9 k31=>⟨k31,trivial⟩)⟩)))
theorem f348.eq (a:List (aB)):(f348.af a).gives f348.env (f348.args a) (f348.blks a) (f348.res a) (f348.blks' a)=f348.tree a:=by kernel_rfl
def f344.ent (K:(List (aE))→Prop) (t:List (aE)):Prop:=∃ c:List (aE),SlQ t.length c.length (gl aH t) (gl aH c) (K c)
theorem f344.ei {K:(List (aE))→Prop} {t:List (aE)} (h:K t):f344.ent K t:=⟨t,slQ (rS aH) (h)⟩
def f344.args (a:List (aE)):List D:=[.slice .ro 3 a.length (gl aH a)]
def f344.blks (a:List (aE)):List (List D):=[]
def f344.res (a:List (aE)):List D:=[.bool (fA a)]
def f344.blks' (a:List (aE)):List (List D):=[]
def f344.C:bA:=FnC f344.args f344.blks (fun a=>fC a) f344.res f344.blks'
def f344.S0 (a:List (aE)) (x:Int):Tm:=⟨.slice .ro 3 a.length (gl aH a)::dd 7 (.int .i64 (a.length:Int)::.int .i64 x::dd 19 []),[],[]⟩
def f344.kills (a:List (aE)):List lT:=[.tell Int (f344.S0 a)]
def f344.cuts (a:List (aE)):List (Nat×Σ β:Type,β→Tm):=[]
def f344.af (a:List (aE)):AF:=AF.mk (.seq (.region [⟨(some 2),0,.move,[.c (.bool false)],none⟩])
 (.seq (.seq (.region [mT 4 1 0,
 oT 5 2 (.len false) [4],
 ⟨(some 6),3,(.bin .gtr),[.t 5,.c (.int .i64 (200))],none⟩])
 (.cond (.t 6) (.seq (.region [⟨(some 2),4,.move,[.c (.bool false)],none⟩])
 (.ret)) (.skip)))
 (.seq (.seq (.region [mT 7 5 0,
 oT 8 6 (.len false) [7],
 ⟨(some 9),7,.move,[.c (.int .i64 (0))],none⟩])
 (.block 0 (.loopT Int (f344.S0 a) 8 33 (.seq (.region [oT 10 8 (.bin .lss) [9,8]])
 (.seq (.cond (.t 10) (.skip) (.exit 0))
 (.seq (.block 1 (.seq (.region [mT 11 9 9,
 mT 3 10 11])
 (.seq (.region [mT 12 11 0,
 mT 13 12 3,
 oT 14 13 (.indexAddr 3 none) [12,13],
 oT 15 14 (.fieldAddr 1) [14],
 oT 16 15 (.load false 1) [15],
 oT 17 16 (.len true) [16],
 ⟨(some 18),17,(.bin .gtr),[.t 17,.c (.int .i64 (1000))],none⟩,
 mT 19 18 18,
 oG 20 19 .move [0] 19 false,
 oG 21 20 .move [3] 19 false,
 oG 22 21 (.indexAddr 3 none) [20,21] 19 false,
 oG 23 22 (.fieldAddr 2) [22] 19 false,
 oG 24 23 (.load false 1) [23] 19 false,
 oG 25 24 (.call false 348) [24] 19 false,
 oG 26 28 (.un .not) [25] 19 false,
 ⟨(some 27),29,.pick,[.t 19,.c (.bool true),.t 26],none⟩])
 (.cond (.t 27) (.seq (.region [⟨(some 2),30,.move,[.c (.bool false)],none⟩])
 (.ret)) (.skip)))))
 (.region [⟨(some 28),31,(.bin .add),[.t 9,.c (.int .i64 (1))],none⟩,
 mT 9 32 28])))))))
 (.seq (.region [⟨(some 2),33,.move,[.c (.bool true)],none⟩])
 (.ret)))))
 [.tmp 2] 0 28
def f344.env:Env:=[(348,f348.C)]
def f344.tree (a:List (aE)):Prop:=Br (decide ((200:Int) < (a.length:Int))) ((false=(fA a))∧True) (∃ (I5:Int→Prop) (μ6:Int→Nat),(∃ x4:Int,SlS aH a (((a.length:Int)=(a.length:Int))∧((0:Int)=x4)∧I5 x4))∧∀ y7:Int,I5 y7→(Br (decide (y7 < (a.length:Int))) (Br (decide ((0:Int)≤y7)&&decide (y7 < (a.length:Int))) (Br (decide ((1000:Int) < (((at_ a y7).2.1).size:Int))) ((false=(fA a))∧True) (Br (decide ((0:Int)≤y7)&&decide (y7 < (a.length:Int))) (f348.ent (fun c15=>(dD c15)∧Br (!(cM c15)) ((false=(fA a))∧True) (Let (wI (y7+(1:Int))) (fun v19:Int=>∃ x20:Int,SlS aH a (((a.length:Int)=(a.length:Int))∧(v19=x20)∧I5 x20∧μ6 x20 < μ6 y7)))) ((at_ a y7).2.2)) False)) False) ((true=(fA a))∧True)))
def f344.vc (a:List (aE)):Prop:=(((200:Int) < (a.length:Int)→(false=fA a))∧(¬((200:Int) < (a.length:Int))→(∃ (I5:Int→Prop) (μ6:Int→Nat),I5 (0:Int)∧∀ y7:Int,I5 y7→((y7 < (a.length:Int)→((0:Int)≤y7∧y7 < (a.length:Int)∧(((1000:Int) < (((at_ a y7).2.1).size:Int)→(false=fA a))∧(¬((1000:Int) < (((at_ a y7).2.1).size:Int))→((0:Int)≤y7∧y7 < (a.length:Int)∧(dD ((at_ a y7).2.2)∧((¬((cM ((at_ a y7).2.2))=true)→(false=fA a))∧(¬(¬((cM ((at_ a y7).2.2))=true))→(-9223372036854775808≤(y7+(1:Int))∧(y7+(1:Int))≤9223372036854775807∧(I5 (y7+(1:Int))∧μ6 (y7+(1:Int)) < μ6 y7))))))))))∧(¬(y7 < (a.length:Int))→(true=fA a))))))
theorem f344.of (a:List (aE)) (h:f344.vc a):f344.tree a:=br h Cnd.dec (fun h1 k38=>⟨k38,trivial⟩) (fun h2 k39=>Exists.elim k39 (fun I5 h35_=>Exists.elim h35_ (fun μ6 h35=>⟨I5,μ6,⟨(0:Int),SlS.mk  (⟨rfl,⟨rfl,h35.1⟩⟩)⟩,fun y7 h37=>br (h35.2 y7 h37) Cnd.dec (fun h8 k33=>chk k33.2.2 Cnd.ix ⟨k33.1,k33.2.1⟩ (fun h10 k31=>br k31 Cnd.dec (fun h11 k29=>⟨k29,trivial⟩) (fun h12 k30=>chk k30.2.2 Cnd.ix ⟨k30.1,k30.2.1⟩ (fun h14 k28=>(f348.ei ⟨k28.1,br k28.2 (Cnd.not Cnd.b) (fun h16 k25=>⟨k25,trivial⟩) (fun h17 k26=>wrapK.i64 k26 (fun h22 h23 k24=>⟨(y7+(1:Int)),SlS.mk  (⟨rfl,⟨rfl,k24⟩⟩)⟩))⟩))))) (fun h9 k34=>⟨k34,trivial⟩)⟩)))
theorem f344.eq (a:List (aE)):(f344.af a).gives f344.env (f344.args a) (f344.blks a) (f344.res a) (f344.blks' a)=f344.tree a:=by kernel_rfl
def f343.args (a:Unit):List D:=[]
def f343.blks (a:Unit):List (List D):=[]
def f343.res (a:Unit):List D:=[.bool (aP a)]
def f343.blks' (a:Unit):List (List D):=[]
def f343.C:bA:=FnC f343.args f343.blks (fun _=>True) f343.res f343.blks'
def f343.s0:ByteArray:=⟨#[103,112,117]⟩
def f343.s1:ByteArray:=⟨#[49]⟩
def f343.s2:ByteArray:=⟨#[97]⟩
def f343.kills (a:Unit):List lT:=[]
def f343.cuts (a:Unit):List (Nat×Σ β:Type,β→Tm):=[(3201001000001,⟨Unit,fun x=>⟨[],[],[]⟩⟩)]
def f343.af (a:Unit):AF:=AF.mk (.seq (.region [⟨(some 0),0,.move,[.c (.bool false)],none⟩])
 (.seq (.region [oT 3 1 (.call false 144) [],
 mT 1 5 3])
 (.seq (.toObj 0 201 1) (.seq (.seq (.region [mT 4 6 1,
 oT 5 7 (.isNil true false) [4]])
 (.cond (.t 5) (.seq (.region [⟨(some 0),8,.move,[.c (.bool false)],none⟩])
 (.ret)) (.skip)))
 (.seq (.region [mT 6 9 1,
 ⟨(some 7),10,(.build [.str ByteArray.empty,.str ByteArray.empty] [(0,1),(1,1)]),[.c (.str f343.s0),.c (.str f343.s1)],none⟩,
 oT 8 11 (.buildSlice 2 1 [.str ByteArray.empty,.str ByteArray.empty] [(0,2)]) [7],
 ⟨(some 9),12,(.call true 146),[.t 6,.c (.str f343.s2),.t 8],none⟩])
 (.seq (.region [mT 10 16 1,
 ⟨(some 11),17,(.build [.str ByteArray.empty,.str ByteArray.empty] [(0,1),(1,1)]),[.c (.str f343.s0),.c (.str f343.s1)],none⟩,
 oT 12 18 (.buildSlice 2 1 [.str ByteArray.empty,.str ByteArray.empty] [(0,2)]) [11],
 oT 13 19 (.call true 149) [10,12],
 mT 2 23 13])
 (.seq (.region [mT 14 24 2,
 oT 15 25 (.len false) [14],
 ⟨(some 16),26,(.bin .eql),[.t 15,.c (.int .i64 (1))],none⟩,
 mT 17 27 16,
 oG 18 28 .move [2] 17 true,
 ⟨(some 19),29,(.indexAddr 1 none),[.t 18,.c (.int .i64 (0))],(some (17,true))⟩,
 oG 20 30 (.load false 1) [19] 17 true,
 ⟨(some 21),31,(.bin .eql),[.t 20,.c (.str f343.s2)],(some (17,true))⟩,
 ⟨(some 22),32,.pick,[.t 17,.t 21,.c (.bool false)],none⟩,
 mT 23 33 22,
 oG 24 34 .move [1] 23 true,
 oG 25 35 (.call true 262) [24] 23 true,
 ⟨(some 26),39,(.bin .eql),[.t 25,.c (.int .i64 (1))],(some (23,true))⟩,
 ⟨(some 27),40,.pick,[.t 23,.t 26,.c (.bool false)],none⟩,
 mT 0 41 27])
 (.ret))))))))
 [.tmp 0] 0 28
def f343.env:Env:=[(144,f144.C),(146,f146.C),(149,f149.C),(262,f262.C)]
def f343.tree (a:Unit):Prop:=∃ c1:Unit,True∧∃ c2:(Ob (List (aB)))×ByteArray×(List (aB)),(f343.s2=c2.2.1)∧SlQ 1 c2.2.2.length (fun _=>[.str f343.s0,.str f343.s1]) (gl aD c2.2.2) (ObQ 0 0 (ob0 (List (aB))).nl c2.1.nl (ob0 (List (aB))).n c2.1.n (ob0 (List (aB))).ks c2.1.ks (fun _ _=>[]) (ovs aA c2.1) ((eC c2)∧∃ c3:(Ob (List (aB)))×(List (aB)),SlQ 1 c3.2.length (fun _=>[.str f343.s0,.str f343.s1]) (gl aD c3.2) (ObQ 0 0 (cE c2).nl c3.1.nl (cE c2).n c3.1.n (cE c2).ks c3.1.ks (ovs aA (cE c2)) (ovs aA c3.1) ((bJ c3)∧Br (((a6 c3).length:Int)==(1:Int)) (Br (decide ((0:Int)≤(0:Int))&&decide ((0:Int) < ((a6 c3).length:Int))) (Br ((at_ (a6 c3) (0:Int)).toList==f343.s2.toList) (∃ c9:Ob (List (aB)),ObQ 0 0 c3.1.nl c9.nl c3.1.n c9.n c3.1.ks c9.ks (ovs aA c3.1) (ovs aA c9) (True∧(((iK c9)==(1:Int))=(aP a))∧True)) ((false=(aP a))∧True)) False) ((false=(aP a))∧True)))))
def f343.vc (a:Unit):Prop:=(eC (ob0 (List (aB)),f343.s2,[(f343.s0,f343.s1)])∧(bJ ((cE (ob0 (List (aB)),f343.s2,[(f343.s0,f343.s1)])),[(f343.s0,f343.s1)])∧((((a6 ((cE (ob0 (List (aB)),f343.s2,[(f343.s0,f343.s1)])),[(f343.s0,f343.s1)])).length:Int)=(1:Int)→((0:Int) < ((a6 ((cE (ob0 (List (aB)),f343.s2,[(f343.s0,f343.s1)])),[(f343.s0,f343.s1)])).length:Int)∧(((at_ (a6 ((cE (ob0 (List (aB)),f343.s2,[(f343.s0,f343.s1)])),[(f343.s0,f343.s1)])) (0:Int))=f343.s2→(((iK (((cE (ob0 (List (aB)),f343.s2,[(f343.s0,f343.s1)])),[(f343.s0,f343.s1)]).1))==(1:Int))=aP a))∧(¬((at_ (a6 ((cE (ob0 (List (aB)),f343.s2,[(f343.s0,f343.s1)])),[(f343.s0,f343.s1)])) (0:Int))=f343.s2)→(false=aP a)))))∧(¬(((a6 ((cE (ob0 (List (aB)),f343.s2,[(f343.s0,f343.s1)])),[(f343.s0,f343.s1)])).length:Int)=(1:Int))→(false=aP a)))))
theorem f343.of (a:Unit) (h:f343.vc a):f343.tree a:=⟨(),⟨trivial,⟨(ob0 (List (aB)),f343.s2,[(f343.s0,f343.s1)]),⟨rfl,slQ (Rds.one (enc:=aD) (DEqs.refl _)) (obQ rfl (OV.zero (e:=aA)) rfl (⟨h.1,⟨((cE (ob0 (List (aB)),f343.s2,[(f343.s0,f343.s1)])),[(f343.s0,f343.s1)]),slQ (Rds.one (enc:=aD) (DEqs.refl _)) (obQ rfl (OV.self (e:=aA)) rfl (⟨h.2.1,br h.2.2 Cnd.eq (fun h4 k17=>chk k17.2 Cnd.ix ⟨(by decide),k17.1⟩ (fun h6 k15=>br k15 Cnd.seq (fun h7 k13=>⟨((cE (ob0 (List (aB)),f343.s2,[(f343.s0,f343.s1)])),[(f343.s0,f343.s1)]).1,obQ rfl (OV.self (e:=aA)) rfl (⟨trivial,⟨k13,trivial⟩⟩)⟩) (fun h8 k14=>⟨k14,trivial⟩))) (fun h5 k18=>⟨k18,trivial⟩)⟩))⟩⟩))⟩⟩⟩⟩
theorem f343.eq (a:Unit):(f343.af a).gives f343.env (f343.args a) (f343.blks a) (f343.res a) (f343.blks' a)=f343.tree a:=by kernel_rfl
theorem fY {l:Lbs}:cM l=true↔l.length≤30∧∀ i,i < l.length→(l.getD i default).1.size+(l.getD i default).2.size≤1000:=by
 unfold cM
 simp only [Bool.and_eq_true,decide_eq_true_eq,List.all_eq_true,List.mem_range]
theorem oZ {l:Lbs} (h:¬cM l=true):false=cM l:=(Bool.eq_false_iff.2 h).symm
theorem f348.ok (a:Lbs) (h:dD a):f348.vc a:=by
 obtain ⟨h1,h2⟩:=h
 have h1:a.length≤1048576:=h1
 refine ⟨fun c=>oZ fun hh=>by have:=(fY.1 hh).1; omega,fun c=>?_⟩
 refine ⟨fun y=>0≤y∧y≤(a.length:Int)∧(∀ i,i < y.toNat→(a.getD i default).1.size+(a.getD i default).2.size≤1000),fun y:Int=>a.length - y.toNat,⟨by omega,by omega,fun i hi=>by simp at hi⟩,fun y hy=>?_⟩
 obtain ⟨g0,g1,g2⟩:=hy
 refine ⟨fun hlt=>?_,fun hge=>?_⟩
 ·have hs:=h2 (at_ a y) (by rw [d9]; exact aB1 (by omega))
  refine ⟨g0,hlt,g0,hlt,by omega,by omega,fun d=>oZ fun hh=>?_,fun d=>⟨by omega,by omega,⟨by omega,by omega,fun i hi=>?_⟩,by simp only; omega⟩⟩
  ·have:=(fY.1 hh).2 y.toNat (by omega)
   rw [← d9] at this
   omega
  ·by_cases he:i=y.toNat
   ·subst he
    rw [← d9]
    omega
   ·exact g2 i (by omega)
 ·symm
  rw [fY]
  exact ⟨by omega,fun i hi=>g2 i (by omega)⟩
theorem fX {l:List (Int×ByteArray×Lbs)}:fA l=true↔l.length≤200∧∀ i,i < l.length→(l.getD i default).2.1.size≤1000∧cM (l.getD i default).2.2=true:=by
 unfold fA
 simp only [Bool.and_eq_true,decide_eq_true_eq,List.all_eq_true,List.mem_range]
theorem mL {l:List (Int×ByteArray×Lbs)} (h:¬fA l=true):false=fA l:=(Bool.eq_false_iff.2 h).symm
theorem f344.ok (a:List (Int×ByteArray×Lbs)) (h:fC a):f344.vc a:=by
 obtain ⟨h1,h2⟩:=h
 have h1:a.length≤1048576:=h1
 refine ⟨fun c=>mL fun hh=>by have:=(fX.1 hh).1; omega,fun c=>?_⟩
 refine ⟨fun y=>0≤y∧y≤(a.length:Int)∧(∀ i,i < y.toNat→(a.getD i default).2.1.size≤1000∧cM (a.getD i default).2.2=true),fun y:Int=>a.length - y.toNat,⟨by omega,by omega,fun i hi=>by simp at hi⟩,fun y hy=>?_⟩
 obtain ⟨g0,g1,g2⟩:=hy
 refine ⟨fun hlt=>?_,fun hge=>?_⟩
 ·have hs:=h2 (at_ a y) (by rw [d9]; exact aB1 (by omega))
  refine ⟨g0,hlt,fun d=>mL fun hh=>?_,fun d=>⟨g0,hlt,hs,fun d2=>mL fun hh=>?_,fun d2=>⟨by omega,by omega,⟨by omega,by omega,fun i hi=>?_⟩,by simp only; omega⟩⟩⟩
  ·have:=((fX.1 hh).2 y.toNat (by omega)).1
   rw [← d9] at this
   omega
  ·have:=((fX.1 hh).2 y.toNat (by omega)).2
   rw [← d9] at this
   exact d2 this
  ·by_cases he:i=y.toNat
   ·subst he
    rw [← d9]
    exact ⟨by omega,Classical.not_not.1 d2⟩
   ·exact g2 i (by omega)
 ·symm
  rw [fX]
  exact ⟨by omega,fun i hi=>g2 i (by omega)⟩
section
variable {o:Ob Lbs} {l:List (ByteArray×Lbs)}
theorem aDV (n:Nat) (ks:Nat→ByteArray):gI n ks=dG ((List.range n).map ks):=by
 unfold gI dG
 rw [List.map_map]
 rfl
theorem RepL.with (r:RepL o l) (w:Lbs):a6 (o,w)=iS l w:=by
 cases w with
 | nil =>
  have e:iS l []=l.map (·.1):=by
   unfold iS
   exact congrArg (List.map _) (List.filter_eq_self.2 fun x _=>rfl)
  show gI (bif o.nl 0 then 0 else o.n 0) (o.ks 0)=_
  have e2:(List.range (bif o.nl 0 then 0 else o.n 0)).map (o.ks 0)=kF o (fun _=>true) 0:=by
   unfold kF
   have e3:∀ m:List ByteArray,m.filter (fun _=>true)=m:=fun m=>List.filter_eq_self.2 fun _ _=>rfl
   cases o.nl 0 <;> simp [e3]
  rw [aDV,e2,o7 r.perm0,aCB r.ris.names,e]
 | cons k w =>
  show dG (jW o k fun n=>i9 (o,n,w))=_
  rw [o7 (r.perm k w)]
  exact aCB (Rising.names (List.Pairwise.filter _ r.ris))
def NmS (l:List (ByteArray×Lbs)):Prop:=∀ x∈l,x.1.size≤1048576
theorem RepL.withPre (r:RepL o l) (hl:l.length≤1048576) (hn:NmS l) {w:Lbs} (hw:w.length≤1048576):bJ (o,w):=by
 refine ⟨hw,fun _=>?_,fun k=>Nat.le_trans (r.names_le k) hl⟩
 have hle:(bif o.nl 0 then 0 else o.n 0)≤o.n 0:=by cases o.nl 0 <;> simp
 have h1:=r.num
 refine ⟨?_,fun i hi=>?_,fun i j hi hj=>r.ok.inj 0 i j (Nat.lt_of_lt_of_le hi hle) (Nat.lt_of_lt_of_le hj hle)⟩
 ·show (bif o.nl 0 then 0 else o.n 0) * 16≤140737488355328
  omega
 ·have h2:(o.ks 0 i,o.v i)∈l:=(r.val _ _).1 ⟨i,Nat.lt_of_lt_of_le hi hle,rfl,rfl⟩
  have:=hn _ h2
  simp only at this ⊢
  omega
end
theorem f343.ok (a:Unit) (_:True):f343.vc a:=by
 have r:RepL (cE (ob0 Lbs,f343.s2,[(f343.s0,f343.s1)])) [(f343.s2,[(f343.s0,f343.s1)])]:=RepL.zero.put f343.s2 [(f343.s0,f343.s1)]
 have e:iS [(f343.s2,[(f343.s0,f343.s1)])] [(f343.s0,f343.s1)]=[f343.s2]:=by
  unfold iS
  rw [List.filter_cons_of_pos (by simp [jD,aDG]),List.filter_nil]
  rfl
 have hn:NmS [(f343.s2,[(f343.s0,f343.s1)])]:=fun x hx=>by
  obtain rfl:x=_:=by simpa using hx
  exact Nat.le_of_ble_eq_true rfl
 refine ⟨⟨Nat.zero_le _,Nat.le_of_ble_eq_true rfl,rfl⟩,r.withPre (by decide) hn (by decide),?_⟩
 rw [r.with,e,r.len]
 exact ⟨fun _=>⟨by decide,fun _=>rfl,fun c=>absurd rfl c⟩,fun c=>absurd rfl c⟩
theorem m8 {l:Lbs} (h:bZ.size l≤1048576):dD l:=by
 have h0:(l.map eK.size).sum+1≤1048576:=h
 have h1:∀ m:Lbs,m.length≤(m.map eK.size).sum∧∀ x∈m,eK.size x≤(m.map eK.size).sum:=fun m=>by
  induction m with
  | nil=>exact ⟨Nat.le_refl _,fun x hx=>by cases hx⟩
  | cons a m ih =>
   have:1≤eK.size a:=Nat.le_add_left 1 _
   simp only [List.map_cons,List.sum_cons,List.length_cons]
   refine ⟨by omega,fun x hx=>?_⟩
   rcases List.mem_cons.1 hx with rfl | hx
   ·omega
   ·have:=ih.2 x hx
    omega
 refine ⟨?_,fun x hx=>?_⟩
 ·have:=(h1 l).1
  show l.length≤1048576
  omega
 ·have h2:=(h1 l).2 x hx
  have h3:x.1.size+1+(x.2.size+1)+1=eK.size x:=rfl
  omega
end Go.Abs
