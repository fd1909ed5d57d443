/- Functions, and what the code asks of them: PLabLaw. -/
import Derived.KernelRfl
import Derived.Test.YtcmjinkfgbadoabLabelsNilP4
import Derived.Test.YtcmjinkfgbadoabLabelsNilP5
import Derived.Test.YtcmjinkfgbadoabLabelsNilP6
import Derived.Test.YtcmjinkfgbadoabLabelsNilP7
import Derived.Test.YtcmjinkfgbadoabLabelsNilP8
import Derived.Test.YtcmjinkfgbadoabLabelsNilP9
import Derived.Test.YtcmjinkfgbadoabLabelsNilP10
import Derived.Test.YtcmjinkfgbadoabLabelsNilP11
import Derived.Test.YtcmjinkfgbadoabLabelsNilP12
import Derived.Test.YtcmjinkfgbadoabLabelsNilP15
import Derived.Test.YtcmjinkfgbadoabLabelsNilP16
import Derived.Test.YtcmjinkfgbadoabLabelsNilP17
import Derived.Test.YtcmjinkfgbadoabLabelsNilP18
import Derived.Test.YtcmjinkfgbadoabLabelsNilP20
import Derived.Test.YtcmjinkfgbadoabLabelsNilP21
set_option maxRecDepth 100000
set_option maxHeartbeats 4000000
set_option linter.unusedVariables false
set_option linter.unusedSimpArgs false
set_option linter.unusedSectionVars false
-- interregnum/interregnumlaw18.small
namespace Go.Abs
open Go
def f348.ent (K:(List (aC))→Prop) (t:List (aC)):Prop:=∃ c:List (aC),SlQ t.length c.length (gl aF t) (gl aF c) (K c)
theorem f348.ei {K:(List (aC))→Prop} {t:List (aC)} (h:K t):f348.ent K t:=⟨t,slQ (rS aF) (h)⟩
def f348.args (a:List (aC)):List D:=[.slice .ro 2 a.length (gl aF a)]
def f348.blks (a:List (aC)):List (List D):=[]
def f348.res (a:List (aC)):List D:=[.bool (dT a)]
def f348.blks' (a:List (aC)):List (List D):=[]
def f348.C:aP:=FnC f348.args f348.blks (fun a=>fY a) f348.res f348.blks'
set_option linter.unusedVariables false
def f348.S0 (a:List (aC)) (x:Int):Tm:=⟨.slice .ro 2 a.length (gl aF a)::dd 7 (.int .i64 (a.length:Int)::.int .i64 x::dd 17 []),[],[]⟩
def f348.kills (a:List (aC)):List Hint:=[.tell Int (f348.S0 a)]
def f348.cuts (a:List (aC)):List (Nat×Σ β:Type,β→Tm):=[]
def f348.af (a:List (aC)):AF:=AF.mk (.seq (.region [⟨(some 2),0,.move,[.c (.bool false)],none⟩])
 (.seq (.seq (.region [mT 4 1 0,
 oT 5 2 (.len false) [4],
 ⟨(some 6),3,(.bin .gtr),[.t 5,.c (.int .i64 (30))],none⟩])
 (.cond (.t 6) (.seq (.region [⟨(some 2),4,.move,[.c (.bool false)],none⟩])
 (.ret)) (.skip)))
 (.seq (.seq (.region [mT 7 5 0,
 oT 8 6 (.len false) [7],
 ⟨(some 9),7,.move,[.c (.int .i64 (0))],none⟩])
 (.block 0 (.loopT Int (f348.S0 a) 8 28 (.seq (.region [oT 10 8 (.bin .lss) [9,8]])
 (.seq (.cond (.t 10) (.skip) (.exit 0))
 (.seq (.block 1 (.seq (.region [mT 11 9 9,
 mT 3 10 11])
 (.seq (.region [mT 12 11 0,
 mT 13 12 3,
 oT 14 13 (.indexAddr 2 none) [12,13],
 oT 15 14 (.fieldAddr 0) [14],
 oT 16 15 (.load false 1) [15],
 oT 17 16 (.len true) [16],
 mT 18 17 0,
 mT 19 18 3,
 oT 20 19 (.indexAddr 2 none) [18,19],
 oT 21 20 (.fieldAddr 1) [20],
 oT 22 21 (.load false 1) [21],
 oT 23 22 (.len true) [22],
 oT 24 23 (.bin .add) [17,23],
 ⟨(some 25),24,(.bin .gtr),[.t 24,.c (.int .i64 (1000))],none⟩])
 (.cond (.t 25) (.seq (.region [⟨(some 2),25,.move,[.c (.bool false)],none⟩])
 (.ret)) (.skip)))))
 (.region [⟨(some 26),26,(.bin .add),[.t 9,.c (.int .i64 (1))],none⟩,
 mT 9 27 26])))))))
 (.seq (.region [⟨(some 2),28,.move,[.c (.bool true)],none⟩])
 (.ret)))))
 [.tmp 2] 0 26
def f348.env:Env:=[]
def f348.tree (a:List (aC)):Prop:=Br (decide ((30:Int) < (a.length:Int))) ((false=(dT a))∧True) (∃ (I5:Int→Prop) (μ6:Int→Nat),(∃ x4:Int,SlS aF a (((a.length:Int)=(a.length:Int))∧((0:Int)=x4)∧I5 x4))∧∀ y7:Int,I5 y7→(Br (decide (y7 < (a.length:Int))) (Br (decide ((0:Int)≤y7)&&decide (y7 < (a.length:Int))) (Br (decide ((0:Int)≤y7)&&decide (y7 < (a.length:Int))) (Let (wI ((((at_ a y7).1).size:Int)+(((at_ a y7).2).size:Int))) (fun v12:Int=>Br (decide ((1000:Int) < v12)) ((false=(dT a))∧True) (Let (wI (y7+(1:Int))) (fun v16:Int=>∃ x17:Int,SlS aF a (((a.length:Int)=(a.length:Int))∧(v16=x17)∧I5 x17∧μ6 x17 < μ6 y7))))) False) False) ((true=(dT a))∧True)))
def f348.vc (a:List (aC)):Prop:=(((30:Int) < (a.length:Int)→(false=dT a))∧(¬((30:Int) < (a.length:Int))→(∃ (I5:Int→Prop) (μ6:Int→Nat),I5 (0:Int)∧∀ y7:Int,I5 y7→((y7 < (a.length:Int)→((0:Int)≤y7∧y7 < (a.length:Int)∧((0:Int)≤y7∧y7 < (a.length:Int)∧(-9223372036854775808≤((((at_ a y7).1).size:Int)+(((at_ a y7).2).size:Int))∧((((at_ a y7).1).size:Int)+(((at_ a y7).2).size:Int))≤9223372036854775807∧(((1000:Int) < ((((at_ a y7).1).size:Int)+(((at_ a y7).2).size:Int))→(false=dT a))∧(¬((1000:Int) < ((((at_ a y7).1).size:Int)+(((at_ a y7).2).size:Int)))→(-9223372036854775808≤(y7+(1:Int))∧(y7+(1:Int))≤9223372036854775807∧(I5 (y7+(1:Int))∧μ6 (y7+(1:Int)) < μ6 y7))))))))∧(¬(y7 < (a.length:Int))→(true=dT a))))))
theorem f348.of (a:List (aC)) (h:f348.vc a):f348.tree a:=br h Cnd.dec (fun h1 k35=>⟨k35,trivial⟩) (fun h2 k36=>Exists.elim k36 (fun I5 h32_=>Exists.elim h32_ (fun μ6 h32=>⟨I5,μ6,⟨(0:Int),SlS.mk  (⟨rfl,⟨rfl,h32.1⟩⟩)⟩,fun y7 h34=>br (h32.2 y7 h34) Cnd.dec (fun h8 k30=>chk k30.2.2 Cnd.ix ⟨k30.1,k30.2.1⟩ (fun h10 k28=>chk k28.2.2 Cnd.ix ⟨k28.1,k28.2.1⟩ (fun h11 k27=>wrapK.i64 k27 (fun h24 h25 k26=>br k26 Cnd.dec (fun h13 k22=>⟨k22,trivial⟩) (fun h14 k23=>wrapK.i64 k23 (fun h19 h20 k21=>⟨(y7+(1:Int)),SlS.mk  (⟨rfl,⟨rfl,k21⟩⟩)⟩)))))) (fun h9 k31=>⟨k31,trivial⟩)⟩)))
theorem f348.eq (a:List (aC)):(f348.af a).gives f348.env (f348.args a) (f348.blks a) (f348.res a) (f348.blks' a)=f348.tree a:=by kernel_rfl
def f344.args (a:List (aG)):List D:=[.slice .ro 3 a.length (gl cH a)]
def f344.blks (a:List (aG)):List (List D):=[]
def f344.res (a:List (aG)):List D:=[.bool (iO a)]
def f344.blks' (a:List (aG)):List (List D):=[]
def f344.C:aP:=FnC f344.args f344.blks (fun a=>oQ a) f344.res f344.blks'
def f344.S0 (a:List (aG)) (x:Int):Tm:=⟨.slice .ro 3 a.length (gl cH a)::dd 7 (.int .i64 (a.length:Int)::.int .i64 x::dd 19 []),[],[]⟩
def f344.kills (a:List (aG)):List Hint:=[.tell Int (f344.S0 a)]
def f344.cuts (a:List (aG)):List (Nat×Σ β:Type,β→Tm):=[]
def f344.af (a:List (aG)):AF:=AF.mk (.seq (.region [⟨(some 2),0,.move,[.c (.bool false)],none⟩])
 (.seq (.seq (.region [mT 4 1 0,
 oT 5 2 (.len false) [4],
 ⟨(some 6),3,(.bin .gtr),[.t 5,.c (.int .i64 (200))],none⟩])
 (.cond (.t 6) (.seq (.region [⟨(some 2),4,.move,[.c (.bool false)],none⟩])
 (.ret)) (.skip)))
 (.seq (.seq (.region [mT 7 5 0,
 oT 8 6 (.len false) [7],
 ⟨(some 9),7,.move,[.c (.int .i64 (0))],none⟩])
 (.block 0 (.loopT Int (f344.S0 a) 8 33 (.seq (.region [oT 10 8 (.bin .lss) [9,8]])
 (.seq (.cond (.t 10) (.skip) (.exit 0))
 (.seq (.block 1 (.seq (.region [mT 11 9 9,
 mT 3 10 11])
 (.seq (.region [mT 12 11 0,
 mT 13 12 3,
 oT 14 13 (.indexAddr 3 none) [12,13],
 oT 15 14 (.fieldAddr 1) [14],
 oT 16 15 (.load false 1) [15],
 oT 17 16 (.len true) [16],
 ⟨(some 18),17,(.bin .gtr),[.t 17,.c (.int .i64 (1000))],none⟩,
 mT 19 18 18,
 oG 20 19 .move [0] 19 false,
 oG 21 20 .move [3] 19 false,
 oG 22 21 (.indexAddr 3 none) [20,21] 19 false,
 oG 23 22 (.fieldAddr 2) [22] 19 false,
 oG 24 23 (.load false 1) [23] 19 false,
 oG 25 24 (.call false 348) [24] 19 false,
 oG 26 28 (.un .not) [25] 19 false,
 ⟨(some 27),29,.pick,[.t 19,.c (.bool true),.t 26],none⟩])
 (.cond (.t 27) (.seq (.region [⟨(some 2),30,.move,[.c (.bool false)],none⟩])
 (.ret)) (.skip)))))
 (.region [⟨(some 28),31,(.bin .add),[.t 9,.c (.int .i64 (1))],none⟩,
 mT 9 32 28])))))))
 (.seq (.region [⟨(some 2),33,.move,[.c (.bool true)],none⟩])
 (.ret)))))
 [.tmp 2] 0 28
def f344.env:Env:=[(348,f348.C)]
def f344.tree (a:List (aG)):Prop:=Br (decide ((200:Int) < (a.length:Int))) ((false=(iO a))∧True) (∃ (I5:Int→Prop) (μ6:Int→Nat),(∃ x4:Int,SlS cH a (((a.length:Int)=(a.length:Int))∧((0:Int)=x4)∧I5 x4))∧∀ y7:Int,I5 y7→(Br (decide (y7 < (a.length:Int))) (Br (decide ((0:Int)≤y7)&&decide (y7 < (a.length:Int))) (Br (decide ((1000:Int) < (((at_ a y7).2.1).size:Int))) ((false=(iO a))∧True) (Br (decide ((0:Int)≤y7)&&decide (y7 < (a.length:Int))) (f348.ent (fun c15=>(fY c15)∧Br (!(dT c15)) ((false=(iO a))∧True) (Let (wI (y7+(1:Int))) (fun v19:Int=>∃ x20:Int,SlS cH a (((a.length:Int)=(a.length:Int))∧(v19=x20)∧I5 x20∧μ6 x20 < μ6 y7)))) ((at_ a y7).2.2)) False)) False) ((true=(iO a))∧True)))
def f344.vc (a:List (aG)):Prop:=(((200:Int) < (a.length:Int)→(false=iO a))∧(¬((200:Int) < (a.length:Int))→(∃ (I5:Int→Prop) (μ6:Int→Nat),I5 (0:Int)∧∀ y7:Int,I5 y7→((y7 < (a.length:Int)→((0:Int)≤y7∧y7 < (a.length:Int)∧(((1000:Int) < (((at_ a y7).2.1).size:Int)→(false=iO a))∧(¬((1000:Int) < (((at_ a y7).2.1).size:Int))→((0:Int)≤y7∧y7 < (a.length:Int)∧(fY ((at_ a y7).2.2)∧((¬((dT ((at_ a y7).2.2))=true)→(false=iO a))∧(¬(¬((dT ((at_ a y7).2.2))=true))→(-9223372036854775808≤(y7+(1:Int))∧(y7+(1:Int))≤9223372036854775807∧(I5 (y7+(1:Int))∧μ6 (y7+(1:Int)) < μ6 y7))))))))))∧(¬(y7 < (a.length:Int))→(true=iO a))))))
theorem f344.of (a:List (aG)) (h:f344.vc a):f344.tree a:=br h Cnd.dec (fun h1 k38=>⟨k38,trivial⟩) (fun h2 k39=>Exists.elim k39 (fun I5 h35_=>Exists.elim h35_ (fun μ6 h35=>⟨I5,μ6,⟨(0:Int),SlS.mk  (⟨rfl,⟨rfl,h35.1⟩⟩)⟩,fun y7 h37=>br (h35.2 y7 h37) Cnd.dec (fun h8 k33=>chk k33.2.2 Cnd.ix ⟨k33.1,k33.2.1⟩ (fun h10 k31=>br k31 Cnd.dec (fun h11 k29=>⟨k29,trivial⟩) (fun h12 k30=>chk k30.2.2 Cnd.ix ⟨k30.1,k30.2.1⟩ (fun h14 k28=>(f348.ei ⟨k28.1,br k28.2 (Cnd.not Cnd.b) (fun h16 k25=>⟨k25,trivial⟩) (fun h17 k26=>wrapK.i64 k26 (fun h22 h23 k24=>⟨(y7+(1:Int)),SlS.mk  (⟨rfl,⟨rfl,k24⟩⟩)⟩))⟩))))) (fun h9 k34=>⟨k34,trivial⟩)⟩)))
theorem f344.eq (a:List (aG)):(f344.af a).gives f344.env (f344.args a) (f344.blks a) (f344.res a) (f344.blks' a)=f344.tree a:=by kernel_rfl
def f343.args (a:Unit):List D:=[]
def f343.blks (a:Unit):List (List D):=[]
def f343.res (a:Unit):List D:=[.bool (cD a)]
def f343.blks' (a:Unit):List (List D):=[]
def f343.C:aP:=FnC f343.args f343.blks (fun _=>True) f343.res f343.blks'
def f343.s0:ByteArray:=⟨#[103,112,117]⟩
def f343.s1:ByteArray:=⟨#[49]⟩
def f343.s2:ByteArray:=⟨#[97]⟩
def f343.kills (a:Unit):List Hint:=[]
def f343.cuts (a:Unit):List (Nat×Σ β:Type,β→Tm):=[(3201001000001,⟨Unit,fun x=>⟨[],[],[]⟩⟩)]
def f343.af (a:Unit):AF:=AF.mk (.seq (.region [⟨(some 0),0,.move,[.c (.bool false)],none⟩])
 (.seq (.region [oT 3 1 (.call false 144) [],
 mT 1 5 3])
 (.seq (.toObj 0 201 1) (.seq (.seq (.region [mT 4 6 1,
 oT 5 7 (.isNil true false) [4]])
 (.cond (.t 5) (.seq (.region [⟨(some 0),8,.move,[.c (.bool false)],none⟩])
 (.ret)) (.skip)))
 (.seq (.region [mT 6 9 1,
 ⟨(some 7),10,(.build [.str ByteArray.empty,.str ByteArray.empty] [(0,1),(1,1)]),[.c (.str f343.s0),.c (.str f343.s1)],none⟩,
 oT 8 11 (.buildSlice 2 1 [.str ByteArray.empty,.str ByteArray.empty] [(0,2)]) [7],
 ⟨(some 9),12,(.call true 146),[.t 6,.c (.str f343.s2),.t 8],none⟩])
 (.seq (.region [mT 10 16 1,
 ⟨(some 11),17,(.build [.str ByteArray.empty,.str ByteArray.empty] [(0,1),(1,1)]),[.c (.str f343.s0),.c (.str f343.s1)],none⟩,
 oT 12 18 (.buildSlice 2 1 [.str ByteArray.empty,.str ByteArray.empty] [(0,2)]) [11],
 oT 13 19 (.call true 149) [10,12],
 mT 2 23 13])
 (.seq (.region [mT 14 24 2,
 oT 15 25 (.len false) [14],
 ⟨(some 16),26,(.bin .eql),[.t 15,.c (.int .i64 (1))],none⟩,
 mT 17 27 16,
 oG 18 28 .move [2] 17 true,
 ⟨(some 19),29,(.indexAddr 1 none),[.t 18,.c (.int .i64 (0))],(some (17,true))⟩,
 oG 20 30 (.load false 1) [19] 17 true,
 ⟨(some 21),31,(.bin .eql),[.t 20,.c (.str f343.s2)],(some (17,true))⟩,
 ⟨(some 22),32,.pick,[.t 17,.t 21,.c (.bool false)],none⟩,
 mT 23 33 22,
 oG 24 34 .move [1] 23 true,
 oG 25 35 (.call true 262) [24] 23 true,
 ⟨(some 26),39,(.bin .eql),[.t 25,.c (.int .i64 (1))],(some (23,true))⟩,
 ⟨(some 27),40,.pick,[.t 23,.t 26,.c (.bool false)],none⟩,
 mT 0 41 27])
 (.ret))))))))
 [.tmp 0] 0 28
def f343.env:Env:=[(144,f144.C),(146,f146.C),(149,f149.C),(262,f262.C)]
def f343.tree (a:Unit):Prop:=∃ c1:Unit,True∧∃ c2:(Ob (List (aC)))×ByteArray×(List (aC)),(f343.s2=c2.2.1)∧SlQ 1 c2.2.2.length (fun _=>[.str f343.s0,.str f343.s1]) (gl aF c2.2.2) (ObQ 0 0 (ob0 (List (aC))).nl c2.1.nl (ob0 (List (aC))).n c2.1.n (ob0 (List (aC))).ks c2.1.ks (fun _ _=>[]) (ovs aD c2.1) ((oC c2)∧∃ c3:(Ob (List (aC)))×(List (aC)),SlQ 1 c3.2.length (fun _=>[.str f343.s0,.str f343.s1]) (gl aF c3.2) (ObQ 0 0 (eT c2).nl c3.1.nl (eT c2).n c3.1.n (eT c2).ks c3.1.ks (ovs aD (eT c2)) (ovs aD c3.1) ((jB c3)∧Br (((gC c3).length:Int)==(1:Int)) (Br (decide ((0:Int)≤(0:Int))&&decide ((0:Int) < ((gC c3).length:Int))) (Br ((at_ (gC c3) (0:Int)).toList==f343.s2.toList) (∃ c9:Ob (List (aC)),ObQ 0 0 c3.1.nl c9.nl c3.1.n c9.n c3.1.ks c9.ks (ovs aD c3.1) (ovs aD c9) (True∧(((wN c9)==(1:Int))=(cD a))∧True)) ((false=(cD a))∧True)) False) ((false=(cD a))∧True)))))
def f343.vc (a:Unit):Prop:=(oC (ob0 (List (aC)),f343.s2,[(f343.s0,f343.s1)])∧(jB ((eT (ob0 (List (aC)),f343.s2,[(f343.s0,f343.s1)])),[(f343.s0,f343.s1)])∧((((gC ((eT (ob0 (List (aC)),f343.s2,[(f343.s0,f343.s1)])),[(f343.s0,f343.s1)])).length:Int)=(1:Int)→((0:Int) < ((gC ((eT (ob0 (List (aC)),f343.s2,[(f343.s0,f343.s1)])),[(f343.s0,f343.s1)])).length:Int)∧(((at_ (gC ((eT (ob0 (List (aC)),f343.s2,[(f343.s0,f343.s1)])),[(f343.s0,f343.s1)])) (0:Int))=f343.s2→(((wN (((eT (ob0 (List (aC)),f343.s2,[(f343.s0,f343.s1)])),[(f343.s0,f343.s1)]).1))==(1:Int))=cD a))∧(¬((at_ (gC ((eT (ob0 (List (aC)),f343.s2,[(f343.s0,f343.s1)])),[(f343.s0,f343.s1)])) (0:Int))=f343.s2)→(false=cD a)))))∧(¬(((gC ((eT (ob0 (List (aC)),f343.s2,[(f343.s0,f343.s1)])),[(f343.s0,f343.s1)])).length:Int)=(1:Int))→(false=cD a)))))
theorem f343.of (a:Unit) (h:f343.vc a):f343.tree a:=⟨(),⟨trivial,⟨(ob0 (List (aC)),f343.s2,[(f343.s0,f343.s1)]),⟨rfl,slQ (Rds.one (enc:=aF) (DEqs.refl _)) (obQ rfl (OV.zero (e:=aD)) rfl (⟨h.1,⟨((eT (ob0 (List (aC)),f343.s2,[(f343.s0,f343.s1)])),[(f343.s0,f343.s1)]),slQ (Rds.one (enc:=aF) (DEqs.refl _)) (obQ rfl (OV.self (e:=aD)) rfl (⟨h.2.1,br h.2.2 Cnd.eq (fun h4 k17=>chk k17.2 Cnd.ix ⟨(by decide),k17.1⟩ (fun h6 k15=>br k15 Cnd.seq (fun h7 k13=>⟨((eT (ob0 (List (aC)),f343.s2,[(f343.s0,f343.s1)])),[(f343.s0,f343.s1)]).1,obQ rfl (OV.self (e:=aD)) rfl (⟨trivial,⟨k13,trivial⟩⟩)⟩) (fun h8 k14=>⟨k14,trivial⟩))) (fun h5 k18=>⟨k18,trivial⟩)⟩))⟩⟩))⟩⟩⟩⟩
theorem f343.eq (a:Unit):(f343.af a).gives f343.env (f343.args a) (f343.blks a) (f343.res a) (f343.blks' a)=f343.tree a:=by kernel_rfl
def f336.wf (a:aG):Prop:=dL.ok a
def f336.size (a:aG):Nat:=dL.size a
def f336.lpre (a:aG):Prop:=f336.wf a∧f336.size a≤1048576
def f336.args (a:aG):List D:=[.agg [.int .i64 a.1,.str a.2.1,.slice .ro 2 a.2.2.length (gl aF a.2.2)]]
def f336.blks (a:aG):List (List D):=[]
def f336.res (a:aG):List D:=[.bool (cD a)]
def f336.blks' (a:aG):List (List D):=[]
def f336.C:aP:=FnC f336.args f336.blks (fun a=>f336.lpre a) f336.res f336.blks'
def f336.kills (a:aG):List Hint:=[]
def f336.cuts (a:aG):List (Nat×Σ β:Type,β→Tm):=[]
def f336.af (a:aG):AF:=AF.mk (.seq (.region [oT 1 0 .box [0],
 ⟨(some 2),1,.move,[.c (.bool false)],none⟩])
 (.seq (.seq (.region [oT 4 2 (.call false 343) [],
 oT 5 6 (.un .not) [4],
 mT 6 7 5,
 oG 7 8 (.load true 3) [1] 6 false,
 oG 8 9 (.buildSlice 3 1 [.int .i64 (0),.str ByteArray.empty,.slice .full 2 0 gS] [(0,3)]) [7] 6 false,
 oG 9 10 (.call false 344) [8] 6 false,
 oG 10 14 (.un .not) [9] 6 false,
 ⟨(some 11),15,.pick,[.t 6,.c (.bool true),.t 10],none⟩])
 (.cond (.t 11) (.seq (.region [oT 12 16 (.call false 343) [],
 mT 2 20 12])
 (.ret)) (.skip)))
 (.seq (.region [⟨(some 3),21,.move,[.c (.nilp)],none⟩])
 (.seq (.region [mT 13 22 3,
 oT 14 23 (.fieldAddr 1) [1],
 oT 15 24 (.load false 1) [14],
 oT 16 25 (.fieldAddr 2) [1],
 oT 17 26 (.load false 1) [16],
 oT 18 27 (.call true 146) [13,15,17]])
 (.seq (.region [mT 19 31 3,
 oT 20 32 (.fieldAddr 1) [1],
 oT 21 33 (.load false 1) [20],
 oT 22 34 (.call true 165) [19,21],
 oT 23 38 (.un .not) [22],
 mT 24 39 23,
 oG 25 40 .move [3] 24 true,
 oG 26 41 (.call true 262) [25] 24 true,
 ⟨(some 27),45,(.bin .eql),[.t 26,.c (.int .i64 (0))],(some (24,true))⟩,
 ⟨(some 28),46,.pick,[.t 24,.t 27,.c (.bool false)],none⟩,
 mT 29 47 28,
 oG 30 48 .move [3] 29 true,
 oG 31 49 (.fieldAddr 2) [1] 29 true,
 oG 32 50 (.load false 1) [31] 29 true,
 oG 33 51 (.call true 149) [30,32] 29 true,
 oG 34 55 (.len false) [33] 29 true,
 ⟨(some 35),56,(.bin .eql),[.t 34,.c (.int .i64 (0))],(some (29,true))⟩,
 ⟨(some 36),57,.pick,[.t 29,.t 35,.c (.bool false)],none⟩,
 mT 37 58 36,
 oG 38 59 .move [3] 37 true,
 ⟨(some 39),60,(.call true 149),[.t 38,.c (.slice .full 2 0 gS)],(some (37,true))⟩,
 oG 40 64 (.len false) [39] 37 true,
 ⟨(some 41),65,(.bin .eql),[.t 40,.c (.int .i64 (0))],(some (37,true))⟩,
 ⟨(some 42),66,.pick,[.t 37,.t 41,.c (.bool false)],none⟩,
 mT 2 67 42])
 (.ret))))))
 [.tmp 2] 0 42
def f336.env:Env:=[(343,f343.C),(344,f344.C),(146,f1146.C),(165,f1165.C),(262,f1262.C),(149,f1149.C)]
def f336.tree (a:aG):Prop:=∃ c1:Unit,True∧Br (!(cD c1)) (∃ c4:Unit,True∧((cD c4)=(cD a))∧True) (∃ c7:List (aG),SlQ 1 c7.length (fun _=>[.int .i64 a.1,.str a.2.1,.slice .ro 2 a.2.2.length (gl aF a.2.2)]) (gl cH c7) ((oQ c7)∧Br (!(iO c7)) (∃ c10:Unit,True∧((cD c10)=(cD a))∧True) (∃ c13:ByteArray×(List (aC)),(a.2.1=c13.1)∧SlQ a.2.2.length c13.2.length (gl aF a.2.2) (gl aF c13.2) (True∧∃ c14:ByteArray,(a.2.1=c14)∧True∧Br (!(sX c14)) (∃ c17:Unit,True∧Br ((sP c17)==(0:Int)) (∃ c20:List (aC),SlQ a.2.2.length c20.length (gl aF a.2.2) (gl aF c20) (True∧Br (((hP c20).length:Int)==(0:Int)) (∃ c23:List (aC),SlQ 0 c23.length gS (gl aF c23) (True∧((((hP c23).length:Int)==(0:Int))=(cD a))∧True)) ((false=(cD a))∧True))) ((false=(cD a))∧True)) ((false=(cD a))∧True)))))
def f336.vc (a:aG):Prop:=((¬((cD ())=true)→((cD ())=cD a))∧(¬(¬((cD ())=true))→(oQ ([a])∧((¬((iO ([a]))=true)→((cD ())=cD a))∧(¬(¬((iO ([a]))=true))→((¬((sX (a.2.1))=true)→(((sP ())=(0:Int)→((((hP (a.2.2)).length:Int)=(0:Int)→((((hP ([])).length:Int)==(0:Int))=cD a))∧(¬(((hP (a.2.2)).length:Int)=(0:Int))→(false=cD a))))∧(¬((sP ())=(0:Int))→(false=cD a))))∧(¬(¬((sX (a.2.1))=true))→(false=cD a))))))))
theorem f336.of (a:aG) (h:f336.vc a):f336.tree a:=⟨(),⟨trivial,br h (Cnd.not Cnd.b) (fun h2 k42=>⟨(),⟨trivial,⟨k42,trivial⟩⟩⟩) (fun h3 k43=>⟨[a],slQ (Rds.one (enc:=cH) (DEqs.refl _)) (⟨k43.1,br k43.2 (Cnd.not Cnd.b) (fun h8 k39=>⟨(),⟨trivial,⟨k39,trivial⟩⟩⟩) (fun h9 k40=>⟨(a.2.1,a.2.2),⟨rfl,slQ (rS aF) (⟨trivial,⟨a.2.1,⟨rfl,⟨trivial,br k40 (Cnd.not Cnd.b) (fun h15 k35=>⟨(),⟨trivial,br k35 Cnd.eq (fun h18 k31=>⟨a.2.2,slQ (rS aF) (⟨trivial,br k31 Cnd.eq (fun h21 k27=>⟨[],slQ (Rds.nil (enc:=aF)) (⟨trivial,⟨k27,trivial⟩⟩)⟩) (fun h22 k28=>⟨k28,trivial⟩)⟩)⟩) (fun h19 k32=>⟨k32,trivial⟩)⟩⟩) (fun h16 k36=>⟨k36,trivial⟩)⟩⟩⟩⟩)⟩⟩)⟩)⟩)⟩⟩
theorem f336.eq (a:aG):(f336.af a).gives f336.env (f336.args a) (f336.blks a) (f336.res a) (f336.blks' a)=f336.tree a:=by kernel_rfl
theorem m5 {l:Lbs}:dT l=true↔l.length≤30∧∀ i,i < l.length→(l.getD i default).1.size+(l.getD i default).2.size≤1000:=by
 unfold dT
 simp only [Bool.and_eq_true,decide_eq_true_eq,List.all_eq_true,List.mem_range]
theorem pD {l:Lbs} (h:¬dT l=true):false=dT l:=(Bool.eq_false_iff.2 h).symm
theorem f348.ok (a:Lbs) (h:fY a):f348.vc a:=by
 obtain ⟨h1,h2⟩:=h
 have h1:a.length≤1048576:=h1
 refine ⟨fun c=>pD fun hh=>by have:=(m5.1 hh).1; omega,fun c=>?_⟩
 refine ⟨fun y=>0≤y∧y≤(a.length:Int)∧(∀ i,i < y.toNat→(a.getD i default).1.size+(a.getD i default).2.size≤1000),fun y:Int=>a.length - y.toNat,⟨by omega,by omega,fun i hi=>by simp at hi⟩,fun y hy=>?_⟩
 obtain ⟨g0,g1,g2⟩:=hy
 refine ⟨fun hlt=>?_,fun hge=>?_⟩
 ·have hs:=h2 (at_ a y) (by rw [gL]; exact aDN (by omega))
  refine ⟨g0,hlt,g0,hlt,by omega,by omega,fun d=>pD fun hh=>?_,fun d=>⟨by omega,by omega,⟨by omega,by omega,fun i hi=>?_⟩,by simp only; omega⟩⟩
  ·have:=(m5.1 hh).2 y.toNat (by omega)
   rw [← gL] at this
   omega
  ·by_cases he:i=y.toNat
   ·subst he
    rw [← gL]
    omega
   ·exact g2 i (by omega)
 ·symm
  rw [m5]
  exact ⟨by omega,fun i hi=>g2 i (by omega)⟩
theorem oN {l:List (Int×ByteArray×Lbs)}:iO l=true↔l.length≤200∧∀ i,i < l.length→(l.getD i default).2.1.size≤1000∧dT (l.getD i default).2.2=true:=by
 unfold iO
 simp only [Bool.and_eq_true,decide_eq_true_eq,List.all_eq_true,List.mem_range]
theorem nL {l:List (Int×ByteArray×Lbs)} (h:¬iO l=true):false=iO l:=(Bool.eq_false_iff.2 h).symm
theorem f344.ok (a:List (Int×ByteArray×Lbs)) (h:oQ a):f344.vc a:=by
 obtain ⟨h1,h2⟩:=h
 have h1:a.length≤1048576:=h1
 refine ⟨fun c=>nL fun hh=>by have:=(oN.1 hh).1; omega,fun c=>?_⟩
 refine ⟨fun y=>0≤y∧y≤(a.length:Int)∧(∀ i,i < y.toNat→(a.getD i default).2.1.size≤1000∧dT (a.getD i default).2.2=true),fun y:Int=>a.length - y.toNat,⟨by omega,by omega,fun i hi=>by simp at hi⟩,fun y hy=>?_⟩
 obtain ⟨g0,g1,g2⟩:=hy
 refine ⟨fun hlt=>?_,fun hge=>?_⟩
 ·have hs:=h2 (at_ a y) (by rw [gL]; exact aDN (by omega))
  refine ⟨g0,hlt,fun d=>nL fun hh=>?_,fun d=>⟨g0,hlt,hs,fun d2=>nL fun hh=>?_,fun d2=>⟨by omega,by omega,⟨by omega,by omega,fun i hi=>?_⟩,by simp only; omega⟩⟩⟩
  ·have:=((oN.1 hh).2 y.toNat (by omega)).1
   rw [← gL] at this
   omega
  ·have:=((oN.1 hh).2 y.toNat (by omega)).2
   rw [← gL] at this
   exact d2 this
  ·by_cases he:i=y.toNat
   ·subst he
    rw [← gL]
    exact ⟨by omega,Classical.not_not.1 d2⟩
   ·exact g2 i (by omega)
 ·symm
  rw [oN]
  exact ⟨by omega,fun i hi=>g2 i (by omega)⟩
section
variable {o:Ob Lbs} {l:List (ByteArray×Lbs)}
theorem RepL.with (r:RepL o l) {w:Lbs} (h:w≠[]):gC (o,w)=aKH l w:=by
 cases w with
 | nil=>exact absurd rfl h
 | cons k w =>
  show eB slt (kD o k fun n=>jJ (o,n,w))=_
  rw [wS (r.perm k w)]
  exact aJG (Rising.names (List.Pairwise.filter _ r.ris))
theorem RepL.withPre (r:RepL o l) (hl:l.length≤1048576) {w:Lbs} (h:w≠[]) (hw:w.length≤1048576):jB (o,w):=⟨hw,h,fun k=>Nat.le_trans (r.names_le k) hl⟩
end
theorem f343.ok (a:Unit) (_:True):f343.vc a:=by
 have r:RepL (eT (ob0 Lbs,f343.s2,[(f343.s0,f343.s1)])) [(f343.s2,[(f343.s0,f343.s1)])]:=RepL.zero.put f343.s2 [(f343.s0,f343.s1)]
 have e:aKH [(f343.s2,[(f343.s0,f343.s1)])] [(f343.s0,f343.s1)]=[f343.s2]:=by
  unfold aKH
  rw [List.filter_cons_of_pos (by simp [sW,aF5]),List.filter_nil]
  rfl
 have hn:([(f343.s0,f343.s1)]:Lbs)≠[]:=fun h=>by cases h
 refine ⟨⟨Nat.zero_le _,Nat.le_of_ble_eq_true rfl,rfl⟩,r.withPre (by decide) hn (by decide),?_⟩
 rw [r.with hn,e,r.len]
 exact ⟨fun _=>⟨by decide,fun _=>rfl,fun c=>absurd rfl c⟩,fun c=>absurd rfl c⟩
theorem aD6 {l:Lbs} (h:eW.size l≤1048576):fY l:=by
 have h0:(l.map eG.size).sum+1≤1048576:=h
 have h1:∀ m:Lbs,m.length≤(m.map eG.size).sum∧∀ x∈m,eG.size x≤(m.map eG.size).sum:=fun m=>by
  induction m with
  | nil=>exact ⟨Nat.le_refl _,fun x hx=>by cases hx⟩
  | cons a m ih =>
   have:1≤eG.size a:=Nat.le_add_left 1 _
   simp only [List.map_cons,List.sum_cons,List.length_cons]
   refine ⟨by omega,fun x hx=>?_⟩
   rcases List.mem_cons.1 hx with rfl | hx
   ·omega
   ·have:=ih.2 x hx
    omega
 refine ⟨?_,fun x hx=>?_⟩
 ·have:=(h1 l).1
  show l.length≤1048576
  omega
 ·have h2:=(h1 l).2 x hx
  have h3:x.1.size+1+(x.2.size+1)+1=eG.size x:=rfl
  omega
theorem f336.ok (a:Int×ByteArray×Lbs) (h:f336.lpre a):f336.vc a:=by
 obtain ⟨_,hs⟩:=h
 have hs:1+(a.2.1.size+1+eW.size a.2.2)+1≤1048576:=hs
 refine ⟨fun c=>absurd rfl c,fun _=>⟨⟨by show [a].length≤1048576; simp,fun x hx=>?_⟩,fun _=>rfl,fun _=>⟨fun _=>⟨fun _=>⟨fun _=>rfl,fun c=>absurd rfl c⟩,fun c=>absurd rfl c⟩,fun c=>absurd (fun hh=>by cases hh) c⟩⟩⟩
 obtain rfl:x=a:=by simpa using hx
 exact aD6 (by omega)
end Go.Abs
