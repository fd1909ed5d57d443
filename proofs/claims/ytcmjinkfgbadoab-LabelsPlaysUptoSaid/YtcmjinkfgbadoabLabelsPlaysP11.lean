/- Functions, and what the code asks of them: PAgent4. -/
import Derived.KernelRfl
import Derived.Test.YtcmjinkfgbadoabLabelsPlaysP5
import Derived.Test.YtcmjinkfgbadoabLabelsPlaysP6
import Derived.Test.YtcmjinkfgbadoabLabelsPlaysP7
import Derived.Test.YtcmjinkfgbadoabLabelsPlaysP8
import Derived.Test.YtcmjinkfgbadoabLabelsPlaysP9
set_option maxRecDepth 100000
set_option maxHeartbeats 4000000
set_option linter.unusedVariables false
set_option linter.unusedSimpArgs false
set_option linter.unusedSectionVars false
-- interregnum/interregnumref04.Has
namespace Go.Abs
open Go
def f360.ent (K:((List (aB))×(List (aB)))→Prop) (t:(List (aB))×(List (aB))):Prop:=∃ c:(List (aB))×(List (aB)),SlQ t.1.length c.1.length (gl aE t.1) (gl aE c.1) (SlQ t.2.length c.2.length (gl aE t.2) (gl aE c.2) (K c))
theorem f360.ei {K:((List (aB))×(List (aB)))→Prop} {t:(List (aB))×(List (aB))} (h:K t):f360.ent K t:=⟨t,slQ (rS aE) (slQ (rS aE) (h))⟩
def f360.args (a:(List (aB))×(List (aB))):List D:=[.slice .ro 2 a.1.length (gl aE a.1),.slice .ro 2 a.2.length (gl aE a.2)]
def f360.blks (a:(List (aB))×(List (aB))):List (List D):=[]
def f360.res (a:(List (aB))×(List (aB))):List D:=[.bool (eU a)]
def f360.blks' (a:(List (aB))×(List (aB))):List (List D):=[]
def f360.C:aZ:=FnC f360.args f360.blks (fun a=>tL a) f360.res f360.blks'
set_option linter.unusedVariables false
def f360.S0 (a:(List (aB))×(List (aB))) (x:Int):Tm:=⟨.slice .ro 2 a.1.length (gl aE a.1)::.slice .ro 2 a.2.length (gl aE a.2)::dd 7 (.int .i64 (a.2.length:Int)::.int .i64 x::dd 23 []),[],[]⟩
def f360.S1 (a:(List (aB))×(List (aB))) (x:Int×Bool×Int×Int):Tm:=⟨.slice .ro 2 a.1.length (gl aE a.1)::.slice .ro 2 a.2.length (gl aE a.2)::.dead::.dead::.dead::.int .i64 x.1::.bool x.2.1::.dead::.dead::.int .i64 (a.2.length:Int)::.int .i64 x.2.2.1::.dead::.dead::.dead::.int .i64 (a.1.length:Int)::.int .i64 x.2.2.2::dd 18 [],[],[]⟩
def f360.l1 (a:(List (aB))×(List (aB))) (K:(Int×Bool×Int×Int)→Prop) (t:Int×Bool×Int×Int):Prop:=∃ x:Int×Bool×Int×Int,SlS aE a.1 (SlS aE a.2 ((t.1=x.1)∧(t.2.1=x.2.1)∧((a.2.length:Int)=(a.2.length:Int))∧(t.2.2.1=x.2.2.1)∧((a.1.length:Int)=(a.1.length:Int))∧(t.2.2.2=x.2.2.2)∧K x))
theorem f360.l1i (a:(List (aB))×(List (aB))) {K:(Int×Bool×Int×Int)→Prop} {t:Int×Bool×Int×Int} (h:K t):f360.l1 a K t:=⟨t,SlS.mk  (SlS.mk  (⟨rfl,⟨rfl,⟨rfl,⟨rfl,⟨rfl,⟨rfl,h⟩⟩⟩⟩⟩⟩))⟩
def f360.kills (a:(List (aB))×(List (aB))):List jM:=[.tell Int (f360.S0 a),
 .tell (Int×Bool×Int×Int) (f360.S1 a)]
def f360.cuts (a:(List (aB))×(List (aB))):List (Nat×Σ β:Type,β→Tm):=[]
def f360.af (a:(List (aB))×(List (aB))):AF:=AF.mk (.seq (.region [⟨(some 4),0,.move,[.c (.bool false)],none⟩])
 (.seq (.seq (.region [mT 8 1 1,
 oT 9 2 (.len false) [8],
 ⟨(some 10),3,.move,[.c (.int .i64 (0))],none⟩])
 (.block 0 (.loopT Int (f360.S0 a) 4 34 (.seq (.region [oT 11 4 (.bin .lss) [10,9]])
 (.seq (.cond (.t 11) (.skip) (.exit 0))
 (.seq (.block 1 (.seq (.region [mT 12 5 10,
 mT 5 6 12])
 (.seq (.region [⟨(some 6),7,.move,[.c (.bool false)],none⟩])
 (.seq (.seq (.region [mT 13 8 0,
 oT 14 9 (.len false) [13],
 ⟨(some 15),10,.move,[.c (.int .i64 (0))],none⟩])
 (.block 2 (.loopT (Int×Bool×Int×Int) (f360.S1 a) 11 29 (.seq (.region [oT 16 11 (.bin .lss) [15,14]])
 (.seq (.cond (.t 16) (.skip) (.exit 2))
 (.seq (.block 3 (.seq (.region [mT 17 12 15,
 mT 7 13 17])
 (.region [mT 18 14 6,
 mT 19 15 18,
 oG 20 16 .move [0] 19 false,
 oG 21 17 .move [7] 19 false,
 oG 22 18 (.indexAddr 2 none) [20,21] 19 false,
 oG 23 19 (.load true 2) [22] 19 false,
 oG 24 20 .move [1] 19 false,
 oG 25 21 .move [5] 19 false,
 oG 26 22 (.indexAddr 2 none) [24,25] 19 false,
 oG 27 23 (.load true 2) [26] 19 false,
 oG 28 24 (.eqAgg false [2,2]) [23,27] 19 false,
 ⟨(some 29),25,.pick,[.t 19,.c (.bool true),.t 28],none⟩,
 mT 6 26 29])))
 (.region [⟨(some 30),27,(.bin .add),[.t 15,.c (.int .i64 (1))],none⟩,
 mT 15 28 30])))))))
 (.seq (.region [mT 31 29 6,
 oT 32 30 (.un .not) [31]])
 (.cond (.t 32) (.seq (.region [⟨(some 4),31,.move,[.c (.bool false)],none⟩])
 (.ret)) (.skip)))))))
 (.region [⟨(some 33),32,(.bin .add),[.t 10,.c (.int .i64 (1))],none⟩,
 mT 10 33 33])))))))
 (.seq (.region [⟨(some 4),34,.move,[.c (.bool true)],none⟩])
 (.ret))))
 [.tmp 4] 0 32
def f360.env:Env:=[]
def f360.tree (a:(List (aB))×(List (aB))):Prop:=∃ (I2:Int→Prop) (μ3:Int→Nat),(∃ x1:Int,SlS aE a.1 (SlS aE a.2 (((a.2.length:Int)=(a.2.length:Int))∧((0:Int)=x1)∧I2 x1)))∧∀ y4:Int,I2 y4→(Br (decide (y4 < (a.2.length:Int))) (∃ (I8:(Int×Bool×Int×Int)→Prop) (μ9:(Int×Bool×Int×Int)→Nat),(f360.l1 a I8 (y4,false,y4,(0:Int)))∧∀ y10:Int×Bool×Int×Int,I8 y10→(Br (decide (y10.2.2.2 < (a.1.length:Int))) (Br y10.2.1 (Let (wI (y10.2.2.2+(1:Int))) (fun v15:Int=>f360.l1 a (Dn I8 μ9 y10) (y10.1,true,y10.2.2.1,v15))) (Br (decide ((0:Int)≤y10.2.2.2)&&decide (y10.2.2.2 < (a.1.length:Int))) (Br (decide ((0:Int)≤y10.1)&&decide (y10.1 < (a.2.length:Int))) (Let (wI (y10.2.2.2+(1:Int))) (fun v23:Int=>f360.l1 a (Dn I8 μ9 y10) (y10.1,((((at_ a.1 y10.2.2.2).1).toList==((at_ a.2 y10.1).1).toList)&&(((at_ a.1 y10.2.2.2).2).toList==((at_ a.2 y10.1).2).toList)),y10.2.2.1,v23))) False) False)) (Br (!y10.2.1) ((false=(eU a))∧True) (Let (wI (y10.2.2.1+(1:Int))) (fun v36:Int=>∃ x37:Int,SlS aE a.1 (SlS aE a.2 (((a.2.length:Int)=(a.2.length:Int))∧(v36=x37)∧I2 x37∧μ3 x37 < μ3 y4))))))) ((true=(eU a))∧True))
def f360.vc (a:(List (aB))×(List (aB))):Prop:=(∃ (I2:Int→Prop) (μ3:Int→Nat),I2 (0:Int)∧∀ y4:Int,I2 y4→((y4 < (a.2.length:Int)→(∃ (I8:(Int×Bool×Int×Int)→Prop) (μ9:(Int×Bool×Int×Int)→Nat),I8 (y4,false,y4,(0:Int))∧∀ y10:Int×Bool×Int×Int,I8 y10→((y10.2.2.2 < (a.1.length:Int)→((y10.2.1=true→(-9223372036854775808≤(y10.2.2.2+(1:Int))∧(y10.2.2.2+(1:Int))≤9223372036854775807∧(I8 (y10.1,true,y10.2.2.1,(y10.2.2.2+(1:Int)))∧μ9 (y10.1,true,y10.2.2.1,(y10.2.2.2+(1:Int))) < μ9 y10)))∧(¬(y10.2.1=true)→((0:Int)≤y10.2.2.2∧y10.2.2.2 < (a.1.length:Int)∧((0:Int)≤y10.1∧y10.1 < (a.2.length:Int)∧(-9223372036854775808≤(y10.2.2.2+(1:Int))∧(y10.2.2.2+(1:Int))≤9223372036854775807∧(I8 (y10.1,((((at_ a.1 y10.2.2.2).1).toList==((at_ a.2 y10.1).1).toList)&&(((at_ a.1 y10.2.2.2).2).toList==((at_ a.2 y10.1).2).toList)),y10.2.2.1,(y10.2.2.2+(1:Int)))∧μ9 (y10.1,((((at_ a.1 y10.2.2.2).1).toList==((at_ a.2 y10.1).1).toList)&&(((at_ a.1 y10.2.2.2).2).toList==((at_ a.2 y10.1).2).toList)),y10.2.2.1,(y10.2.2.2+(1:Int))) < μ9 y10)))))))∧(¬(y10.2.2.2 < (a.1.length:Int))→((¬(y10.2.1=true)→(false=eU a))∧(¬(¬(y10.2.1=true))→(-9223372036854775808≤(y10.2.2.1+(1:Int))∧(y10.2.2.1+(1:Int))≤9223372036854775807∧(I2 (y10.2.2.1+(1:Int))∧μ3 (y10.2.2.1+(1:Int)) < μ3 y4))))))))∧(¬(y4 < (a.2.length:Int))→(true=eU a))))
theorem f360.of (a:(List (aB))×(List (aB))) (h:f360.vc a):f360.tree a:=Exists.elim h (fun I2 h52_=>Exists.elim h52_ (fun μ3 h52=>⟨I2,μ3,⟨(0:Int),SlS.mk  (SlS.mk  (⟨rfl,⟨rfl,h52.1⟩⟩))⟩,fun y4 h54=>br (h52.2 y4 h54) Cnd.dec (fun h5 k50=>Exists.elim k50 (fun I8 h46_=>Exists.elim h46_ (fun μ9 h46=>⟨I8,μ9,(f360.l1i a h46.1),fun y10 h48=>br (h46.2 y10 h48) Cnd.dec (fun h11 k44=>br k44 Cnd.b (fun h13 k31=>wrapK.i64 k31 (fun h18 h19 k20=>(f360.l1i a k20))) (fun h14 k32=>chk k32.2.2 Cnd.ix ⟨k32.1,k32.2.1⟩ (fun h21 k30=>chk k30.2.2 Cnd.ix ⟨k30.1,k30.2.1⟩ (fun h22 k29=>wrapK.i64 k29 (fun h26 h27 k28=>(f360.l1i a k28)))))) (fun h12 k45=>br k45 (Cnd.not Cnd.b) (fun h33 k42=>⟨k42,trivial⟩) (fun h34 k43=>wrapK.i64 k43 (fun h39 h40 k41=>⟨(y10.2.2.1+(1:Int)),SlS.mk  (SlS.mk  (⟨rfl,⟨rfl,k41⟩⟩))⟩)))⟩))) (fun h6 k51=>⟨k51,trivial⟩)⟩))
theorem f360.eq (a:(List (aB))×(List (aB))):(f360.af a).gives f360.env (f360.args a) (f360.blks a) (f360.res a) (f360.blks' a)=f360.tree a:=by kernel_rfl
theorem f360.ok (a:List iQ×List iQ) (h:tL a):f360.vc a:=by
 obtain ⟨l,w⟩:=a
 have h1:l.length≤1048576:=h.1
 have h2:w.length≤1048576:=h.2
 refine ⟨fun i=>(0≤i∧i≤(w.length:Int))∧∀ q:Nat,q < i.toNat→rT (l,w.getD q default)=true,fun i=>w.length - i.toNat,⟨⟨Int.le_refl _,by simp⟩,fun q hq=>by simp at hq⟩,fun i hi=>?_⟩
 obtain ⟨⟨g0,g1⟩,g2⟩:=hi
 simp only
 refine ⟨fun hlt=>?_,fun hge=>(uD.2 fun q hq=>g2 q (by simp only at hq; omega)).symm⟩
 refine ⟨fun y=>(y.1=i∧y.2.2.1=i)∧(0≤y.2.2.2∧y.2.2.2≤(l.length:Int))∧y.2.1=rT (l.take y.2.2.2.toNat,at_ w i),fun y=>l.length - y.2.2.2.toNat,⟨⟨rfl,rfl⟩,⟨Int.le_refl _,by simp⟩,rfl⟩,fun y hy=>?_⟩
 obtain ⟨y1,b,y3,k⟩:=y
 simp only at hy
 obtain ⟨⟨e1,e2⟩,⟨k0,k1⟩,e3⟩:=hy
 replace e1:=e1.symm
 replace e2:=e2.symm
 subst e1 e2
 have step:k < (l.length:Int)→rT (l.take (k+1).toNat,at_ w i)=(rT (l.take k.toNat,at_ w i) || decide (at_ l k=at_ w i)):=fun kl=>by
  have hk:k.toNat < l.length:=by omega
  unfold rT
  simp only
  rw [show (k+1).toNat=k.toNat+1 from by omega,List.take_succ_eq_append_getElem hk,List.any_append]
  have:at_ l k=l[k.toNat]:=by simp [at_,hk]
  rw [this]
  simp
 simp only
 refine ⟨fun kl=>⟨fun hb=>⟨by omega,by omega,⟨⟨trivial,trivial⟩,⟨by omega,by omega⟩,?_⟩,by omega⟩,fun hb=>⟨k0,kl,g0,hlt,by omega,by omega,⟨⟨trivial,trivial⟩,⟨by omega,by omega⟩,?_⟩,by omega⟩⟩,fun kg=>⟨fun hb=>?_,fun hb=>⟨by omega,by omega,⟨⟨by omega,by omega⟩,fun q hq=>?_⟩,by omega⟩⟩⟩
 ·rw [step kl,← e3,hb]; rfl
 ·rw [step kl,← e3,Bool.eq_false_iff.2 hb,Bool.false_or]
  rw [Bool.eq_iff_iff,decide_eq_true_iff]
  simp only [Bool.and_eq_true,beq_iff_eq,toList_inj]
  exact ⟨fun ⟨e1,e2⟩=>Prod.ext e1 e2,fun e=>by rw [e]; exact ⟨rfl,rfl⟩⟩
 ·rw [List.take_of_length_le (by omega)] at e3
  refine (Bool.eq_false_iff.2 fun hh=>hb ?_).symm
  rw [e3]
  exact uD.1 hh i.toNat (by simp only; omega)
 ·rw [List.take_of_length_le (by omega)] at e3
  by_cases hqi:q=i.toNat
  ·subst hqi
   exact e3.symm.trans (Classical.not_not.1 hb)
  ·exact g2 q (by omega)
end Go.Abs
