/- Functions, and what the code asks of them: PFeas. -/
import Derived.KernelRfl
import Derived.Test.YtjlehbennimkgaaRankTellsP4
import Derived.Test.YtjlehbennimkgaaRankTellsP5
import Derived.Test.YtjlehbennimkgaaRankTellsP6
import Derived.Test.YtjlehbennimkgaaRankTellsP9
set_option maxRecDepth 100000
set_option maxHeartbeats 4000000
set_option linter.unusedVariables false
set_option linter.unusedSimpArgs false
namespace Go.Abs
open Go
abbrev cO:=yB×Bool×Int
def oU {α β:Type} (a:List α×β):Prop:=L20 a.1
def ixL (a:List gT×gT):Int:=match a.1.findIdx? fun x=>decide (x=a.2) with
 | some i=>i
 | none=>-1
def qT (a:List gT×gT):Bool:=a.1.any fun x=>decide (x=a.2)
def kF (a:List gT×List gT):Prop:=L20 a.1∧L20 a.2
def fA (a:List gT×List gT):Bool:=a.2.all fun w=>qT (a.1,w)
def jY (jobs:List dW) (n:ByteArray):List dO:=(jobs.filter fun j=>decide (j.2.2.1=n)).map fun j=>j.1.2.2.2.1
def fI (a:cO×List dW):Prop:=L20 a.2
def bX (a:cO×List dW):dO×Int :=
 if (dX (jY a.2 a.1.1.1)).2≠0 then (vK,(dX (jY a.2 a.1.1.1)).2) else dP (a.1.1.2.1,(dX (jY a.2 a.1.1.1)).1)
def bZ (a:dW×cO×cJ):Bool :=
 decide (¬a.2.2.2.2.2.2.2.1=ByteArray.empty∧a.1.2.2.1=a.2.1.1.1∧¬a.1.1.1=a.2.2.1∧a.1.1.2.2.2.2.2.1=a.2.2.2.2.2.2.2.1)
def gU (a:List dW×cO×cJ):Int:=match a.1.findIdx? fun j=>bZ (j,a.2) with
 | some i=>i
 | none=>-1
def fW (a:List dW×cO×cJ):Bool:=a.1.any fun j=>bZ (j,a.2)
def dK (a:cO×List dW×cJ):Prop:=L20 a.2.1∧fJ a.1.1∧gE a.2.2∧L20 a.1.1.2.2∧L20 a.2.2.2.2.2.2.1
def eF (a:cO×List dW×cJ):Int :=
 if ¬((bX (a.1,a.2.1)).2=0∧fM a.1.1=true∧bM a.2.2=true) then 5 else
 if ¬a.1.2.1=true then 1 else
 if ¬fA (a.1.1.2.2,a.2.2.2.2.2.2.1)=true then 2 else
 if fW (a.2.1,a.1,a.2.2)=true then 3 else
 if ¬eC (a.2.2.2.2.2.1,(bX (a.1,a.2.1)).1)=true then 4 else 0
def f113.ent (K:(aC×aC)→Prop) (t:aC×aC):Prop:=∃ c:aC×aC,(t.1.1=c.1.1)∧(t.1.2.1=c.1.2.1)∧(t.1.2.2=c.1.2.2)∧(t.2.1=c.2.1)∧(t.2.2.1=c.2.2.1)∧(t.2.2.2=c.2.2.2)∧K c
theorem f113.ei {K:(aC×aC)→Prop} {t:aC×aC} (h:K t):f113.ent K t:=⟨t,⟨rfl,⟨rfl,⟨rfl,⟨rfl,⟨rfl,⟨rfl,h⟩⟩⟩⟩⟩⟩⟩
def f113.args (a:aC×aC):List D:=[.agg [.int .i64 a.1.1,.int .i64 a.1.2.1,.int .i64 a.1.2.2],.agg [.int .i64 a.2.1,.int .i64 a.2.2.1,.int .i64 a.2.2.2]]
def f113.blks (a:aC×aC):List (List D):=[]
def f113.res (a:aC×aC):List D:=[.agg [.int .i64 (((dP a).1).1),.int .i64 (((dP a).1).2.1),.int .i64 (((dP a).1).2.2)],.int .i64 ((dP a).2)]
def f113.blks' (a:aC×aC):List (List D):=[]
def f113.C:aN:=FnC f113.args f113.blks (fun _=>True) f113.res f113.blks'
set_option linter.unusedVariables false
def f113.kills (a:aC×aC):List Hint:=[]
def f113.cuts (a:aC×aC):List (Nat×Σ β:Type,β→Tm):=[]
def f113.af (a:aC×aC):AF:=AF.mk (.seq (.region [oT 2 0 .box [0],
 oT 3 1 .box [1],
 oT 4 2 (.alloc [.int .i64 (0),.int .i64 (0),.int .i64 (0)]) [],
 ⟨(some 5),6,.move,[.c (.int .i64 (0))],none⟩])
 (.seq (.region [oT 6 7 (.load true 3) [2],
 oT 7 8 (.load true 3) [3],
 ⟨(some 8),9,(.call false 69),[.t 6,.t 7,.c (.int .i64 (-1))],none⟩,
 oT 9 13 (.extract 0) [8],
 oT 10 14 (.extract 1) [8],
 ⟨none,15,(.store 3),[.t 4,.t 9],none⟩,
 mT 5 16 10])
 (.ret)))
 [.cell 4 true 3,.tmp 5] 0 9
def f113.env:Env:=[(69,f69.C)]
def f113.tree (a:aC×aC):Prop:=f69.ent (fun c1=>(kV c1)∧((((dA c1).1).1)=(((dP a).1).1))∧((((dA c1).1).2.1)=(((dP a).1).2.1))∧((((dA c1).1).2.2)=(((dP a).1).2.2))∧(((dA c1).2)=((dP a).2))∧True) (a.1,a.2,(-1:Int))
def f113.vc (a:aC×aC):Prop:=(kV (a.1,a.2,(-1:Int))∧((((dA (a.1,a.2,(-1:Int))).1),(dA (a.1,a.2,(-1:Int))).2)=dP a))
theorem f113.of (a:aC×aC) (h:f113.vc a):f113.tree a:=(f69.ei ⟨h.1,⟨(congrArg (fun x:aC×Int=>x.1.1) h.2 :),⟨(congrArg (fun x:aC×Int=>x.1.2.1) h.2 :),⟨(congrArg (fun x:aC×Int=>x.1.2.2) h.2 :),⟨(congrArg (fun x:aC×Int=>x.2) h.2 :),trivial⟩⟩⟩⟩⟩)
theorem f113.eq (a:aC×aC):(f113.af a).gives f113.env (f113.args a) (f113.blks a) (f113.res a) (f113.blks' a)=f113.tree a:=by kernel_rfl
def f136.ent (K:((List (aI))×aI)→Prop) (t:(List (aI))×aI):Prop:=∃ c:(List (aI))×aI,SlQ t.1.length c.1.length (gl aG t.1) (gl aG c.1) ((t.2.1=c.2.1)∧(t.2.2=c.2.2)∧K c)
theorem f136.ei {K:((List (aI))×aI)→Prop} {t:(List (aI))×aI} (h:K t):f136.ent K t:=⟨t,slQ (rS aG) (⟨rfl,⟨rfl,h⟩⟩)⟩
def f136.args (a:(List (aI))×aI):List D:=[.slice .ro 2 a.1.length (gl aG a.1),.agg [.str a.2.1,.str a.2.2]]
def f136.blks (a:(List (aI))×aI):List (List D):=[]
def f136.res (a:(List (aI))×aI):List D:=[.int .i64 (ixL a)]
def f136.blks' (a:(List (aI))×aI):List (List D):=[]
def f136.C:aN:=FnC f136.args f136.blks (fun a=>oU a) f136.res f136.blks'
def f136.S0 (a:(List (aI))×aI) (x:Int):Tm:=⟨.slice .ro 2 a.1.length (gl aG a.1)::.dead::.dead::.ptr 0 0::.dead::.dead::.dead::.int .i64 (a.1.length:Int)::.int .i64 x::dd 10 [],[(0,false,[.str a.2.1,.str a.2.2])],[]⟩
def f136.kills (a:(List (aI))×aI):List Hint:=[.tell Int (f136.S0 a)]
def f136.cuts (a:(List (aI))×aI):List (Nat×Σ β:Type,β→Tm):=[]
def f136.af (a:(List (aI))×aI):AF:=AF.mk (.seq (.region [oT 3 0 .box [1],
 ⟨(some 4),1,.move,[.c (.int .i64 (0))],none⟩])
 (.seq (.seq (.region [mT 6 2 0,
 oT 7 3 (.len false) [6],
 ⟨(some 8),4,.move,[.c (.int .i64 (0))],none⟩])
 (.block 0 (.loopT Int (f136.S0 a) 5 18 (.seq (.region [oT 9 5 (.bin .lss) [8,7]])
 (.seq (.cond (.t 9) (.skip) (.exit 0))
 (.seq (.block 1 (.seq (.region [mT 10 6 8,
 mT 5 7 10])
 (.seq (.region [oT 11 8 (.load true 2) [3],
 mT 12 9 0,
 mT 13 10 5,
 oT 14 11 (.indexAddr 2 none) [12,13],
 oT 15 12 (.load true 2) [14],
 oT 16 13 (.eqAgg false [2,2]) [11,15]])
 (.cond (.t 16) (.seq (.region [mT 17 14 5,
 mT 4 15 17])
 (.ret)) (.skip)))))
 (.region [⟨(some 18),16,(.bin .add),[.t 8,.c (.int .i64 (1))],none⟩,
 mT 8 17 18])))))))
 (.seq (.region [⟨(some 4),18,.move,[.c (.int .i64 (-1))],none⟩])
 (.ret))))
 [.tmp 4] 0 17
def f136.env:Env:=[]
def f136.tree (a:(List (aI))×aI):Prop:=∃ (I2:Int→Prop) (μ3:Int→Nat),(∃ x1:Int,SlS aG a.1 (((a.1.length:Int)=(a.1.length:Int))∧((0:Int)=x1)∧(a.2.1=a.2.1)∧(a.2.2=a.2.2)∧I2 x1))∧∀ y4:Int,I2 y4→(Br (decide (y4 < (a.1.length:Int))) (Br (decide ((0:Int)≤y4)&&decide (y4 < (a.1.length:Int))) (Br ((a.2.1.toList==((at_ a.1 y4).1).toList)&&(a.2.2.toList==((at_ a.1 y4).2).toList)) ((y4=(ixL a))∧True) (Let (wI (y4+(1:Int))) (fun v11:Int=>∃ x12:Int,SlS aG a.1 (((a.1.length:Int)=(a.1.length:Int))∧(v11=x12)∧(a.2.1=a.2.1)∧(a.2.2=a.2.2)∧I2 x12∧μ3 x12 < μ3 y4)))) False) (((-1:Int)=(ixL a))∧True))
def f136.vc (a:(List (aI))×aI):Prop:=(∃ (I2:Int→Prop) (μ3:Int→Nat),I2 (0:Int)∧∀ y4:Int,I2 y4→((y4 < (a.1.length:Int)→((0:Int)≤y4∧y4 < (a.1.length:Int)∧((a.2.1=((at_ a.1 y4).1)∧a.2.2=((at_ a.1 y4).2)→(y4=ixL a))∧(¬(a.2.1=((at_ a.1 y4).1)∧a.2.2=((at_ a.1 y4).2))→(-9223372036854775808≤(y4+(1:Int))∧(y4+(1:Int))≤9223372036854775807∧(I2 (y4+(1:Int))∧μ3 (y4+(1:Int)) < μ3 y4))))))∧(¬(y4 < (a.1.length:Int))→((-1:Int)=ixL a))))
theorem f136.of (a:(List (aI))×aI) (h:f136.vc a):f136.tree a:=Exists.elim h (fun I2 h23_=>Exists.elim h23_ (fun μ3 h23=>⟨I2,μ3,⟨(0:Int),SlS.mk  (⟨rfl,⟨rfl,⟨rfl,⟨rfl,h23.1⟩⟩⟩⟩)⟩,fun y4 h25=>br (h23.2 y4 h25) Cnd.dec (fun h5 k21=>chk k21.2.2 Cnd.ix ⟨k21.1,k21.2.1⟩ (fun h7 k19=>br k19 (Cnd.and Cnd.seq Cnd.seq) (fun h8 k17=>⟨k17,trivial⟩) (fun h9 k18=>wrapK.i64 k18 (fun h14 h15 k16=>⟨(y4+(1:Int)),SlS.mk  (⟨rfl,⟨rfl,⟨rfl,⟨rfl,k16⟩⟩⟩⟩)⟩)))) (fun h6 k22=>⟨k22,trivial⟩)⟩))
theorem f136.eq (a:(List (aI))×aI):(f136.af a).gives f136.env (f136.args a) (f136.blks a) (f136.res a) (f136.blks' a)=f136.tree a:=by kernel_rfl
def f132.ent (K:((List (aI))×aI)→Prop) (t:(List (aI))×aI):Prop:=∃ c:(List (aI))×aI,SlQ t.1.length c.1.length (gl aG t.1) (gl aG c.1) ((t.2.1=c.2.1)∧(t.2.2=c.2.2)∧K c)
theorem f132.ei {K:((List (aI))×aI)→Prop} {t:(List (aI))×aI} (h:K t):f132.ent K t:=⟨t,slQ (rS aG) (⟨rfl,⟨rfl,h⟩⟩)⟩
def f132.args (a:(List (aI))×aI):List D:=[.slice .ro 2 a.1.length (gl aG a.1),.agg [.str a.2.1,.str a.2.2]]
def f132.blks (a:(List (aI))×aI):List (List D):=[]
def f132.res (a:(List (aI))×aI):List D:=[.bool (qT a)]
def f132.blks' (a:(List (aI))×aI):List (List D):=[]
def f132.C:aN:=FnC f132.args f132.blks (fun a=>oU a) f132.res f132.blks'
def f132.kills (a:(List (aI))×aI):List Hint:=[]
def f132.cuts (a:(List (aI))×aI):List (Nat×Σ β:Type,β→Tm):=[]
def f132.af (a:(List (aI))×aI):AF:=AF.mk (.seq (.region [oT 3 0 .box [1],
 ⟨(some 4),1,.move,[.c (.bool false)],none⟩])
 (.seq (.region [mT 5 2 0,
 oT 6 3 (.load true 2) [3],
 oT 7 4 (.call false 136) [5,6],
 ⟨(some 8),8,(.bin .geq),[.t 7,.c (.int .i64 (0))],none⟩,
 mT 4 9 8])
 (.ret)))
 [.tmp 4] 0 7
def f132.env:Env:=[(136,f136.C)]
def f132.tree (a:(List (aI))×aI):Prop:=f136.ent (fun c1=>(oU c1)∧((decide ((0:Int)≤(ixL c1)))=(qT a))∧True) (a.1,a.2)
def f132.vc (a:(List (aI))×aI):Prop:=(oU (a.1,a.2)∧(decide ((0:Int)≤(ixL (a.1,a.2)))=qT a))
theorem f132.of (a:(List (aI))×aI) (h:f132.vc a):f132.tree a:=(f136.ei ⟨h.1,⟨h.2,trivial⟩⟩)
theorem f132.eq (a:(List (aI))×aI):(f132.af a).gives f132.env (f132.args a) (f132.blks a) (f132.res a) (f132.blks' a)=f132.tree a:=by kernel_rfl
def f124.ent (K:((List (aI))×(List (aI)))→Prop) (t:(List (aI))×(List (aI))):Prop:=∃ c:(List (aI))×(List (aI)),SlQ t.1.length c.1.length (gl aG t.1) (gl aG c.1) (SlQ t.2.length c.2.length (gl aG t.2) (gl aG c.2) (K c))
theorem f124.ei {K:((List (aI))×(List (aI)))→Prop} {t:(List (aI))×(List (aI))} (h:K t):f124.ent K t:=⟨t,slQ (rS aG) (slQ (rS aG) (h))⟩
def f124.args (a:(List (aI))×(List (aI))):List D:=[.slice .ro 2 a.1.length (gl aG a.1),.slice .ro 2 a.2.length (gl aG a.2)]
def f124.blks (a:(List (aI))×(List (aI))):List (List D):=[]
def f124.res (a:(List (aI))×(List (aI))):List D:=[.bool (fA a)]
def f124.blks' (a:(List (aI))×(List (aI))):List (List D):=[]
def f124.C:aN:=FnC f124.args f124.blks (fun a=>kF a) f124.res f124.blks'
def f124.S0 (a:(List (aI))×(List (aI))) (x:Int):Tm:=⟨.slice .ro 2 a.1.length (gl aG a.1)::dd 6 (.slice .ro 2 a.2.length (gl aG a.2)::.int .i64 (a.2.length:Int)::.int .i64 x::dd 8 []),[],[]⟩
def f124.kills (a:(List (aI))×(List (aI))):List Hint:=[.tell Int (f124.S0 a)]
def f124.cuts (a:(List (aI))×(List (aI))):List (Nat×Σ β:Type,β→Tm):=[]
def f124.af (a:(List (aI))×(List (aI))):AF:=AF.mk (.seq (.region [⟨(some 4),0,.move,[.c (.bool false)],none⟩])
 (.seq (.seq (.region [mT 7 1 1,
 oT 8 2 (.len false) [7],
 ⟨(some 9),3,.move,[.c (.int .i64 (0))],none⟩])
 (.block 0 (.loopT Int (f124.S0 a) 4 21 (.seq (.region [oT 10 4 (.bin .lss) [9,8]])
 (.seq (.cond (.t 10) (.skip) (.exit 0))
 (.seq (.block 1 (.seq (.region [oT 11 5 (.indexAddr 2 none) [7,9],
 oT 12 6 (.load true 2) [11],
 oT 6 7 (.alloc [.str ByteArray.empty,.str ByteArray.empty]) [],
 ⟨none,10,(.store 2),[.t 6,.t 12],none⟩])
 (.seq (.region [mT 13 11 0,
 oT 14 12 (.load true 2) [6],
 oT 15 13 (.call false 132) [13,14],
 oT 16 17 (.un .not) [15]])
 (.cond (.t 16) (.seq (.region [⟨(some 4),18,.move,[.c (.bool false)],none⟩])
 (.ret)) (.skip)))))
 (.region [⟨(some 17),19,(.bin .add),[.t 9,.c (.int .i64 (1))],none⟩,
 mT 9 20 17])))))))
 (.seq (.region [⟨(some 4),21,.move,[.c (.bool true)],none⟩])
 (.ret))))
 [.tmp 4] 0 16
def f124.env:Env:=[(132,f132.C)]
def f124.tree (a:(List (aI))×(List (aI))):Prop:=∃ (I2:Int→Prop) (μ3:Int→Nat),(∃ x1:Int,SlS aG a.1 (SlS aG a.2 (((a.2.length:Int)=(a.2.length:Int))∧((0:Int)=x1)∧I2 x1)))∧∀ y4:Int,I2 y4→(Br (decide (y4 < (a.2.length:Int))) (Br (decide ((0:Int)≤y4)&&decide (y4 < (a.2.length:Int))) (f132.ent (fun c8=>(oU c8)∧Br (!(qT c8)) ((false=(fA a))∧True) (Let (wI (y4+(1:Int))) (fun v12:Int=>∃ x13:Int,SlS aG a.1 (SlS aG a.2 (((a.2.length:Int)=(a.2.length:Int))∧(v12=x13)∧I2 x13∧μ3 x13 < μ3 y4))))) (a.1,(at_ a.2 y4))) False) ((true=(fA a))∧True))
def f124.vc (a:(List (aI))×(List (aI))):Prop:=(∃ (I2:Int→Prop) (μ3:Int→Nat),I2 (0:Int)∧∀ y4:Int,I2 y4→((y4 < (a.2.length:Int)→((0:Int)≤y4∧y4 < (a.2.length:Int)∧(oU (a.1,(at_ a.2 y4))∧((¬((qT (a.1,(at_ a.2 y4)))=true)→(false=fA a))∧(¬(¬((qT (a.1,(at_ a.2 y4)))=true))→(-9223372036854775808≤(y4+(1:Int))∧(y4+(1:Int))≤9223372036854775807∧(I2 (y4+(1:Int))∧μ3 (y4+(1:Int)) < μ3 y4)))))))∧(¬(y4 < (a.2.length:Int))→(true=fA a))))
theorem f124.of (a:(List (aI))×(List (aI))) (h:f124.vc a):f124.tree a:=Exists.elim h (fun I2 h25_=>Exists.elim h25_ (fun μ3 h25=>⟨I2,μ3,⟨(0:Int),SlS.mk  (SlS.mk  (⟨rfl,⟨rfl,h25.1⟩⟩))⟩,fun y4 h27=>br (h25.2 y4 h27) Cnd.dec (fun h5 k23=>chk k23.2.2 Cnd.ix ⟨k23.1,k23.2.1⟩ (fun h7 k21=>(f132.ei ⟨k21.1,br k21.2 (Cnd.not Cnd.b) (fun h9 k18=>⟨k18,trivial⟩) (fun h10 k19=>wrapK.i64 k19 (fun h15 h16 k17=>⟨(y4+(1:Int)),SlS.mk  (SlS.mk  (⟨rfl,⟨rfl,k17⟩⟩))⟩))⟩))) (fun h6 k24=>⟨k24,trivial⟩)⟩))
theorem f124.eq (a:(List (aI))×(List (aI))):(f124.af a).gives f124.env (f124.args a) (f124.blks a) (f124.res a) (f124.blks' a)=f124.tree a:=by kernel_rfl
def f112.ent (K:(aD×(List (aF)))→Prop) (t:aD×(List (aF))):Prop:=∃ c:aD×(List (aF)),(t.1.1.1=c.1.1.1)∧(t.1.1.2.1.1=c.1.1.2.1.1)∧(t.1.1.2.1.2.1=c.1.1.2.1.2.1)∧(t.1.1.2.1.2.2=c.1.1.2.1.2.2)∧SlQ t.1.1.2.2.length c.1.1.2.2.length (gl aG t.1.1.2.2) (gl aG c.1.1.2.2) ((t.1.2.1=c.1.2.1)∧(t.1.2.2=c.1.2.2)∧SlQ t.2.length c.2.length (gl aM t.2) (gl aM c.2) (K c))
theorem f112.ei {K:(aD×(List (aF)))→Prop} {t:aD×(List (aF))} (h:K t):f112.ent K t:=⟨t,⟨rfl,⟨rfl,⟨rfl,⟨rfl,slQ (rS aG) (⟨rfl,⟨rfl,slQ (rS aM) (h)⟩⟩)⟩⟩⟩⟩⟩
def f112.args (a:aD×(List (aF))):List D:=[.agg [.str a.1.1.1,.int .i64 a.1.1.2.1.1,.int .i64 a.1.1.2.1.2.1,.int .i64 a.1.1.2.1.2.2,.slice .ro 2 a.1.1.2.2.length (gl aG a.1.1.2.2),.bool a.1.2.1,.int .i64 a.1.2.2],.slice .ro 13 a.2.length (gl aM a.2)]
def f112.blks (a:aD×(List (aF))):List (List D):=[]
def f112.res (a:aD×(List (aF))):List D:=[.agg [.int .i64 (((bX a).1).1),.int .i64 (((bX a).1).2.1),.int .i64 (((bX a).1).2.2)],.int .i64 ((bX a).2)]
def f112.blks' (a:aD×(List (aF))):List (List D):=[]
def f112.C:aN:=FnC f112.args f112.blks (fun a=>fI a) f112.res f112.blks'
def f112.S0 (a:aD×(List (aF))) (x:(List (aC))×Int):Tm:=⟨.dead::.dead::.ptr 0 0::.dead::.ptr 1 0::.dead::.slice (.own 6) 3 x.1.length (gl aX x.1)::.dead::.dead::.dead::.dead::.slice .ro 13 a.2.length (gl aM a.2)::.int .i64 (a.2.length:Int)::.int .i64 x.2::dd 32 [],[(0,false,[.str a.1.1.1,.int .i64 a.1.1.2.1.1,.int .i64 a.1.1.2.1.2.1,.int .i64 a.1.1.2.1.2.2,.slice .ro 2 a.1.1.2.2.length (gl aG a.1.1.2.2),.bool a.1.2.1,.int .i64 a.1.2.2]),(1,false,[.int .i64 (0:Int),.int .i64 (0:Int),.int .i64 (0:Int)])],[(6,3,x.1.length)]⟩
def f112.kills (a:aD×(List (aF))):List Hint:=[.tell ((List (aC))×Int) (f112.S0 a)]
def f112.cuts (a:aD×(List (aF))):List (Nat×Σ β:Type,β→Tm):=[]
def f112.af (a:aD×(List (aF))):AF:=AF.mk (.seq (.region [oT 2 0 .box [0],
 oT 4 1 (.alloc [.int .i64 (0),.int .i64 (0),.int .i64 (0)]) [],
 ⟨(some 5),5,.move,[.c (.int .i64 (0))],none⟩])
 (.seq (.region [oT 6 6 (.nilSl 3) []])
 (.seq (.seq (.region [mT 11 7 1,
 oT 12 8 (.len false) [11],
 ⟨(some 13),9,.move,[.c (.int .i64 (0))],none⟩])
 (.block 0 (.loopT ((List (aC))×Int) (f112.S0 a) 10 43 (.seq (.region [oT 14 10 (.bin .lss) [13,12]])
 (.seq (.cond (.t 14) (.skip) (.exit 0))
 (.seq (.block 1 (.seq (.region [oT 15 11 (.indexAddr 13 none) [11,13],
 oT 16 12 (.load true 13) [15],
 oT 8 13 (.alloc [.str ByteArray.empty,.str ByteArray.empty,.int .i64 (0),.int .i64 (0),.int .i64 (0),.int .i64 (0),.slice (.own 0) 2 0 eM,.str ByteArray.empty,.str ByteArray.empty,.int .i64 (0),.int .i64 (0),.str ByteArray.empty,.int .i64 (0)]) [],
 ⟨none,27,(.store 13),[.t 8,.t 16],none⟩])
 (.seq (.region [oT 17 28 (.fieldAddr 11) [8],
 oT 18 29 (.load false 1) [17],
 oT 19 30 (.fieldAddr 0) [2],
 oT 20 31 (.fieldAddr 0) [19],
 oT 21 32 (.load false 1) [20],
 oT 22 33 (.bin .eql) [18,21]])
 (.cond (.t 22) (.region [mT 23 34 6,
 oT 24 35 (.fieldAddr 0) [8],
 oT 25 36 (.fieldAddr 3) [24],
 oT 26 37 (.load true 3) [25],
 oT 27 38 (.buildSlice 3 1 [.int .i64 (0),.int .i64 (0),.int .i64 (0)] [(0,3)]) [26],
 oT 28 39 (.append 3 24) [23,27],
 mT 6 40 28]) (.skip)))))
 (.region [⟨(some 29),41,(.bin .add),[.t 13,.c (.int .i64 (1))],none⟩,
 mT 13 42 29])))))))
 (.seq (.region [mT 31 43 6,
 oT 32 44 (.call false 52) [31],
 mT 30 48 32,
 oT 33 49 (.extract 0) [30],
 oT 34 50 (.extract 1) [30],
 oT 9 51 (.alloc [.int .i64 (0),.int .i64 (0),.int .i64 (0)]) [],
 ⟨none,55,(.store 3),[.t 9,.t 33],none⟩,
 mT 10 56 34])
 (.seq (.seq (.region [mT 35 57 10,
 ⟨(some 36),58,(.bin .neq),[.t 35,.c (.int .i64 (0))],none⟩])
 (.cond (.t 36) (.seq (.region [oT 37 59 (.build [.int .i64 (0),.int .i64 (0),.int .i64 (0)] []) [],
 mT 38 60 10,
 ⟨none,61,(.store 3),[.t 4,.t 37],none⟩,
 mT 5 62 38])
 (.ret)) (.skip)))
 (.seq (.region [oT 39 63 (.fieldAddr 0) [2],
 oT 40 64 (.fieldAddr 1) [39],
 oT 41 65 (.load true 3) [40],
 oT 42 66 (.load true 3) [9],
 oT 43 67 (.call false 113) [41,42],
 oT 44 71 (.extract 0) [43],
 oT 45 72 (.extract 1) [43],
 ⟨none,73,(.store 3),[.t 4,.t 44],none⟩,
 mT 5 74 45])
 (.ret)))))))
 [.cell 4 true 3,.tmp 5] 0 44
def f112.env:Env:=[(52,f52.C),(113,f113.C)]
def f112.tree (a:aD×(List (aF))):Prop:=∃ (I2:((List (aC))×Int)→Prop) (μ3:((List (aC))×Int)→Nat),(∃ x1:(List (aC))×Int,SlQ 0 x1.1.length eM (gl aX x1.1) (SlS aM a.2 (((a.2.length:Int)=(a.2.length:Int))∧((0:Int)=x1.2)∧(a.1.1.1=a.1.1.1)∧(a.1.1.2.1.1=a.1.1.2.1.1)∧(a.1.1.2.1.2.1=a.1.1.2.1.2.1)∧(a.1.1.2.1.2.2=a.1.1.2.1.2.2)∧SlS aG a.1.1.2.2 ((a.1.2.1=a.1.2.1)∧(a.1.2.2=a.1.2.2)∧((0:Int)=(0:Int))∧((0:Int)=(0:Int))∧((0:Int)=(0:Int))∧(0=x1.1.length)∧I2 x1))))∧∀ y4:(List (aC))×Int,I2 y4→(Br (decide (y4.2 < (a.2.length:Int))) (Br (decide ((0:Int)≤y4.2)&&decide (y4.2 < (a.2.length:Int))) (Br (((at_ a.2 y4.2).2.2.1).toList==a.1.1.1.toList) ((y4.1.length=y4.1.length∧nX ((y4.1.length+1) * 24))∧(Let (wI (y4.2+(1:Int))) (fun v10:Int=>∃ x11:(List (aC))×Int,SlQ (y4.1.length+1) x11.1.length (gA (gl aX y4.1) y4.1.length (fun _=>[.int .i64 ((((at_ a.2 y4.2).1).2.2.2.1).1),.int .i64 ((((at_ a.2 y4.2).1).2.2.2.1).2.1),.int .i64 ((((at_ a.2 y4.2).1).2.2.2.1).2.2)])) (gl aX x11.1) (SlS aM a.2 (((a.2.length:Int)=(a.2.length:Int))∧(v10=x11.2)∧(a.1.1.1=a.1.1.1)∧(a.1.1.2.1.1=a.1.1.2.1.1)∧(a.1.1.2.1.2.1=a.1.1.2.1.2.1)∧(a.1.1.2.1.2.2=a.1.1.2.1.2.2)∧SlS aG a.1.1.2.2 ((a.1.2.1=a.1.2.1)∧(a.1.2.2=a.1.2.2)∧((0:Int)=(0:Int))∧((0:Int)=(0:Int))∧((0:Int)=(0:Int))∧((y4.1.length+1)=x11.1.length)∧I2 x11∧μ3 x11 < μ3 y4)))))) (Let (wI (y4.2+(1:Int))) (fun v16:Int=>∃ x17:(List (aC))×Int,SlQ y4.1.length x17.1.length (gl aX y4.1) (gl aX x17.1) (SlS aM a.2 (((a.2.length:Int)=(a.2.length:Int))∧(v16=x17.2)∧(a.1.1.1=a.1.1.1)∧(a.1.1.2.1.1=a.1.1.2.1.1)∧(a.1.1.2.1.2.1=a.1.1.2.1.2.1)∧(a.1.1.2.1.2.2=a.1.1.2.1.2.2)∧SlS aG a.1.1.2.2 ((a.1.2.1=a.1.2.1)∧(a.1.2.2=a.1.2.2)∧((0:Int)=(0:Int))∧((0:Int)=(0:Int))∧((0:Int)=(0:Int))∧(y4.1.length=x17.1.length)∧I2 x17∧μ3 x17 < μ3 y4)))))) False) (f52.ent (fun c25=>(L20 c25)∧Br (((dX c25).2) != (0:Int)) (((0:Int)=(((bX a).1).1))∧((0:Int)=(((bX a).1).2.1))∧((0:Int)=(((bX a).1).2.2))∧(((dX c25).2)=((bX a).2))∧True) (f113.ent (fun c29=>True∧((((dP c29).1).1)=(((bX a).1).1))∧((((dP c29).1).2.1)=(((bX a).1).2.1))∧((((dP c29).1).2.2)=(((bX a).1).2.2))∧(((dP c29).2)=((bX a).2))∧True) (a.1.1.2.1,((dX c25).1)))) y4.1))
def f112.vc (a:aD×(List (aF))):Prop:=(∃ (I2:((List (aC))×Int)→Prop) (μ3:((List (aC))×Int)→Nat),I2 ([],(0:Int))∧∀ y4:(List (aC))×Int,I2 y4→((y4.2 < (a.2.length:Int)→((0:Int)≤y4.2∧y4.2 < (a.2.length:Int)∧((((at_ a.2 y4.2).2.2.1)=a.1.1.1→(y4.1.length+1≤1073741824∧(-9223372036854775808≤(y4.2+(1:Int))∧(y4.2+(1:Int))≤9223372036854775807∧(I2 (y4.1++([(((at_ a.2 y4.2).1).2.2.2.1)]),(y4.2+(1:Int)))∧μ3 (y4.1++([(((at_ a.2 y4.2).1).2.2.2.1)]),(y4.2+(1:Int))) < μ3 y4))))∧(¬(((at_ a.2 y4.2).2.2.1)=a.1.1.1)→(-9223372036854775808≤(y4.2+(1:Int))∧(y4.2+(1:Int))≤9223372036854775807∧(I2 (y4.1,(y4.2+(1:Int)))∧μ3 (y4.1,(y4.2+(1:Int))) < μ3 y4))))))∧(¬(y4.2 < (a.2.length:Int))→(L20 y4.1∧((¬((dX (y4.1)).2)=(0:Int)→((((0:Int),(0:Int),(0:Int)),(dX (y4.1)).2)=bX a))∧(¬(¬((dX (y4.1)).2)=(0:Int))→((((dP (a.1.1.2.1,((dX (y4.1)).1))).1),(dP (a.1.1.2.1,((dX (y4.1)).1))).2)=bX a)))))))
theorem f112.of (a:aD×(List (aF))) (h:f112.vc a):f112.tree a:=Exists.elim h (fun I2 h37_=>Exists.elim h37_ (fun μ3 h37=>⟨I2,μ3,⟨([],(0:Int)),slQ (Rds.nil (enc:=aX)) (SlS.mk  (⟨rfl,⟨rfl,⟨rfl,⟨rfl,⟨rfl,⟨rfl,SlS.mk  (⟨rfl,⟨rfl,⟨rfl,⟨rfl,⟨rfl,⟨(bI eM (Rds.nil (enc:=aX))),h37.1⟩⟩⟩⟩⟩⟩)⟩⟩⟩⟩⟩⟩))⟩,fun y4 h39=>br (h37.2 y4 h39) Cnd.dec (fun h5 k35=>chk k35.2.2 Cnd.ix ⟨k35.1,k35.2.1⟩ (fun h7 k24=>br k24 Cnd.seq (fun h8 k22=>⟨⟨rfl,(iL k22.1 (by decide))⟩,wrapK.i64 k22.2 (fun h13 h14 k15=>⟨(y4.1++([(((at_ a.2 y4.2).1).2.2.2.1)]),(y4.2+(1:Int))),slQ (Rds.app (enc:=aX) (rS aX) (Rds.one (enc:=aX) (DEqs.refl _))) (SlS.mk  (⟨rfl,⟨rfl,⟨rfl,⟨rfl,⟨rfl,⟨rfl,SlS.mk  (⟨rfl,⟨rfl,⟨rfl,⟨rfl,⟨rfl,⟨(bI (gA (gl aX y4.1) y4.1.length (fun _=>[.int .i64 ((((at_ a.2 y4.2).1).2.2.2.1).1),.int .i64 ((((at_ a.2 y4.2).1).2.2.2.1).2.1),.int .i64 ((((at_ a.2 y4.2).1).2.2.2.1).2.2)])) (Rds.app (enc:=aX) (rS aX) (Rds.one (enc:=aX) (DEqs.refl _)))),k15⟩⟩⟩⟩⟩⟩)⟩⟩⟩⟩⟩⟩))⟩)⟩) (fun h9 k23=>wrapK.i64 k23 (fun h19 h20 k21=>⟨(y4.1,(y4.2+(1:Int))),slQ (rS aX) (SlS.mk  (⟨rfl,⟨rfl,⟨rfl,⟨rfl,⟨rfl,⟨rfl,SlS.mk  (⟨rfl,⟨rfl,⟨rfl,⟨rfl,⟨rfl,⟨(bI (gl aX y4.1) (rS aX)),k21⟩⟩⟩⟩⟩⟩)⟩⟩⟩⟩⟩⟩))⟩)))) (fun h6 k36=>(f52.ei ⟨k36.1,br k36.2 Cnd.ne (fun h26 k32=>⟨(congrArg (fun x:aC×Int=>x.1.1) k32 :),⟨(congrArg (fun x:aC×Int=>x.1.2.1) k32 :),⟨(congrArg (fun x:aC×Int=>x.1.2.2) k32 :),⟨(congrArg (fun x:aC×Int=>x.2) k32 :),trivial⟩⟩⟩⟩) (fun h27 k33=>(f113.ei ⟨trivial,⟨(congrArg (fun x:aC×Int=>x.1.1) k33 :),⟨(congrArg (fun x:aC×Int=>x.1.2.1) k33 :),⟨(congrArg (fun x:aC×Int=>x.1.2.2) k33 :),⟨(congrArg (fun x:aC×Int=>x.2) k33 :),trivial⟩⟩⟩⟩⟩))⟩))⟩))
theorem f112.eq (a:aD×(List (aF))):(f112.af a).gives f112.env (f112.args a) (f112.blks a) (f112.res a) (f112.blks' a)=f112.tree a:=by kernel_rfl
def f127.ent (K:(aF×aD×aE)→Prop) (t:aF×aD×aE):Prop:=∃ c:aF×aD×aE,(t.1.1.1=c.1.1.1)∧(t.1.1.2.1=c.1.1.2.1)∧(t.1.1.2.2.1=c.1.1.2.2.1)∧(t.1.1.2.2.2.1.1=c.1.1.2.2.2.1.1)∧(t.1.1.2.2.2.1.2.1=c.1.1.2.2.2.1.2.1)∧(t.1.1.2.2.2.1.2.2=c.1.1.2.2.2.1.2.2)∧SlQ t.1.1.2.2.2.2.1.length c.1.1.2.2.2.2.1.length (gl aG t.1.1.2.2.2.2.1) (gl aG c.1.1.2.2.2.2.1) ((t.1.1.2.2.2.2.2.1=c.1.1.2.2.2.2.2.1)∧(t.1.1.2.2.2.2.2.2.1=c.1.1.2.2.2.2.2.2.1)∧(t.1.1.2.2.2.2.2.2.2=c.1.1.2.2.2.2.2.2.2)∧(t.1.2.1=c.1.2.1)∧(t.1.2.2.1=c.1.2.2.1)∧(t.1.2.2.2=c.1.2.2.2)∧(t.2.1.1.1=c.2.1.1.1)∧(t.2.1.1.2.1.1=c.2.1.1.2.1.1)∧(t.2.1.1.2.1.2.1=c.2.1.1.2.1.2.1)∧(t.2.1.1.2.1.2.2=c.2.1.1.2.1.2.2)∧SlQ t.2.1.1.2.2.length c.2.1.1.2.2.length (gl aG t.2.1.1.2.2) (gl aG c.2.1.1.2.2) ((t.2.1.2.1=c.2.1.2.1)∧(t.2.1.2.2=c.2.1.2.2)∧(t.2.2.1=c.2.2.1)∧(t.2.2.2.1=c.2.2.2.1)∧(t.2.2.2.2.1=c.2.2.2.2.1)∧(t.2.2.2.2.2.1.1=c.2.2.2.2.2.1.1)∧(t.2.2.2.2.2.1.2.1=c.2.2.2.2.2.1.2.1)∧(t.2.2.2.2.2.1.2.2=c.2.2.2.2.2.1.2.2)∧SlQ t.2.2.2.2.2.2.1.length c.2.2.2.2.2.2.1.length (gl aG t.2.2.2.2.2.2.1) (gl aG c.2.2.2.2.2.2.1) ((t.2.2.2.2.2.2.2.1=c.2.2.2.2.2.2.2.1)∧(t.2.2.2.2.2.2.2.2.1=c.2.2.2.2.2.2.2.2.1)∧(t.2.2.2.2.2.2.2.2.2=c.2.2.2.2.2.2.2.2.2)∧K c)))
theorem f127.ei {K:(aF×aD×aE)→Prop} {t:aF×aD×aE} (h:K t):f127.ent K t:=⟨t,⟨rfl,⟨rfl,⟨rfl,⟨rfl,⟨rfl,⟨rfl,slQ (rS aG) (⟨rfl,⟨rfl,⟨rfl,⟨rfl,⟨rfl,⟨rfl,⟨rfl,⟨rfl,⟨rfl,⟨rfl,slQ (rS aG) (⟨rfl,⟨rfl,⟨rfl,⟨rfl,⟨rfl,⟨rfl,⟨rfl,⟨rfl,slQ (rS aG) (⟨rfl,⟨rfl,⟨rfl,h⟩⟩⟩)⟩⟩⟩⟩⟩⟩⟩⟩)⟩⟩⟩⟩⟩⟩⟩⟩⟩⟩)⟩⟩⟩⟩⟩⟩⟩
def f127.args (a:aF×aD×aE):List D:=[.agg [.str a.1.1.1,.str a.1.1.2.1,.int .i64 a.1.1.2.2.1,.int .i64 a.1.1.2.2.2.1.1,.int .i64 a.1.1.2.2.2.1.2.1,.int .i64 a.1.1.2.2.2.1.2.2,.slice .ro 2 a.1.1.2.2.2.2.1.length (gl aG a.1.1.2.2.2.2.1),.str a.1.1.2.2.2.2.2.1,.str a.1.1.2.2.2.2.2.2.1,.int .i64 a.1.1.2.2.2.2.2.2.2,.int .i64 a.1.2.1,.str a.1.2.2.1,.int .i64 a.1.2.2.2],.agg [.str a.2.1.1.1,.int .i64 a.2.1.1.2.1.1,.int .i64 a.2.1.1.2.1.2.1,.int .i64 a.2.1.1.2.1.2.2,.slice .ro 2 a.2.1.1.2.2.length (gl aG a.2.1.1.2.2),.bool a.2.1.2.1,.int .i64 a.2.1.2.2],.agg [.str a.2.2.1,.str a.2.2.2.1,.int .i64 a.2.2.2.2.1,.int .i64 a.2.2.2.2.2.1.1,.int .i64 a.2.2.2.2.2.1.2.1,.int .i64 a.2.2.2.2.2.1.2.2,.slice .ro 2 a.2.2.2.2.2.2.1.length (gl aG a.2.2.2.2.2.2.1),.str a.2.2.2.2.2.2.2.1,.str a.2.2.2.2.2.2.2.2.1,.int .i64 a.2.2.2.2.2.2.2.2.2]]
def f127.blks (a:aF×aD×aE):List (List D):=[]
def f127.res (a:aF×aD×aE):List D:=[.bool (bZ a)]
def f127.blks' (a:aF×aD×aE):List (List D):=[]
def f127.C:aN:=FnC f127.args f127.blks (fun _=>True) f127.res f127.blks'
def f127.kills (a:aF×aD×aE):List Hint:=[]
def f127.cuts (a:aF×aD×aE):List (Nat×Σ β:Type,β→Tm):=[]
def f127.af (a:aF×aD×aE):AF:=AF.mk (.seq (.region [oT 3 0 .box [0],
 oT 4 1 .box [1],
 oT 5 2 .box [2],
 ⟨(some 6),3,.move,[.c (.bool false)],none⟩])
 (.seq (.region [oT 7 4 (.fieldAddr 7) [5],
 oT 8 5 (.load false 1) [7],
 ⟨(some 9),6,(.bin .neq),[.t 8,.c (.str ByteArray.empty)],none⟩,
 mT 10 7 9,
 oG 11 8 (.fieldAddr 11) [3] 10 true,
 oG 12 9 (.load false 1) [11] 10 true,
 oG 13 10 (.fieldAddr 0) [4] 10 true,
 oG 14 11 (.fieldAddr 0) [13] 10 true,
 oG 15 12 (.load false 1) [14] 10 true,
 oG 16 13 (.bin .eql) [12,15] 10 true,
 ⟨(some 17),14,.pick,[.t 10,.t 16,.c (.bool false)],none⟩,
 mT 18 15 17,
 oG 19 16 (.fieldAddr 0) [3] 18 true,
 oG 20 17 (.fieldAddr 0) [19] 18 true,
 oG 21 18 (.load false 1) [20] 18 true,
 oG 22 19 (.fieldAddr 0) [5] 18 true,
 oG 23 20 (.load false 1) [22] 18 true,
 oG 24 21 (.bin .neq) [21,23] 18 true,
 ⟨(some 25),22,.pick,[.t 18,.t 24,.c (.bool false)],none⟩,
 mT 26 23 25,
 oG 27 24 (.fieldAddr 0) [3] 26 true,
 oG 28 25 (.fieldAddr 7) [27] 26 true,
 oG 29 26 (.load false 1) [28] 26 true,
 oG 30 27 (.fieldAddr 7) [5] 26 true,
 oG 31 28 (.load false 1) [30] 26 true,
 oG 32 29 (.bin .eql) [29,31] 26 true,
 ⟨(some 33),30,.pick,[.t 26,.t 32,.c (.bool false)],none⟩,
 mT 6 31 33])
 (.ret)))
 [.tmp 6] 0 31
def f127.env:Env:=[]
def f127.tree (a:aF×aD×aE):Prop:=Br (!(a.2.2.2.2.2.2.2.1.toList==ByteArray.empty.toList)) (Br (a.1.2.2.1.toList==a.2.1.1.1.toList) (Br (!(a.1.1.1.toList==a.2.2.1.toList)) (((a.1.1.2.2.2.2.2.1.toList==a.2.2.2.2.2.2.2.1.toList)=(bZ a))∧True) ((false=(bZ a))∧True)) ((false=(bZ a))∧True)) ((false=(bZ a))∧True)
def f127.vc (a:aF×aD×aE):Prop:=((¬(a.2.2.2.2.2.2.2.1=ByteArray.empty)→((a.1.2.2.1=a.2.1.1.1→((¬(a.1.1.1=a.2.2.1)→((a.1.1.2.2.2.2.2.1.toList==a.2.2.2.2.2.2.2.1.toList)=bZ a))∧(¬(¬(a.1.1.1=a.2.2.1))→(false=bZ a))))∧(¬(a.1.2.2.1=a.2.1.1.1)→(false=bZ a))))∧(¬(¬(a.2.2.2.2.2.2.2.1=ByteArray.empty))→(false=bZ a)))
theorem f127.of (a:aF×aD×aE) (h:f127.vc a):f127.tree a:=br h (Cnd.not Cnd.seq) (fun h1 k15=>br k15 Cnd.seq (fun h3 k12=>br k12 (Cnd.not Cnd.seq) (fun h5 k9=>⟨k9,trivial⟩) (fun h6 k10=>⟨k10,trivial⟩)) (fun h4 k13=>⟨k13,trivial⟩)) (fun h2 k16=>⟨k16,trivial⟩)
theorem f127.eq (a:aF×aD×aE):(f127.af a).gives f127.env (f127.args a) (f127.blks a) (f127.res a) (f127.blks' a)=f127.tree a:=by kernel_rfl
def f126.args (a:aF×aD×aE):List D:=[.agg [.str a.1.1.1,.str a.1.1.2.1,.int .i64 a.1.1.2.2.1,.int .i64 a.1.1.2.2.2.1.1,.int .i64 a.1.1.2.2.2.1.2.1,.int .i64 a.1.1.2.2.2.1.2.2,.slice .ro 2 a.1.1.2.2.2.2.1.length (gl aG a.1.1.2.2.2.2.1),.str a.1.1.2.2.2.2.2.1,.str a.1.1.2.2.2.2.2.2.1,.int .i64 a.1.1.2.2.2.2.2.2.2,.int .i64 a.1.2.1,.str a.1.2.2.1,.int .i64 a.1.2.2.2],.eptr [.str a.2.1.1.1,.int .i64 a.2.1.1.2.1.1,.int .i64 a.2.1.1.2.1.2.1,.int .i64 a.2.1.1.2.1.2.2,.slice .ro 2 a.2.1.1.2.2.length (gl aG a.2.1.1.2.2),.bool a.2.1.2.1,.int .i64 a.2.1.2.2],.eptr [.str a.2.2.1,.str a.2.2.2.1,.int .i64 a.2.2.2.2.1,.int .i64 a.2.2.2.2.2.1.1,.int .i64 a.2.2.2.2.2.1.2.1,.int .i64 a.2.2.2.2.2.1.2.2,.slice .ro 2 a.2.2.2.2.2.2.1.length (gl aG a.2.2.2.2.2.2.1),.str a.2.2.2.2.2.2.2.1,.str a.2.2.2.2.2.2.2.2.1,.int .i64 a.2.2.2.2.2.2.2.2.2]]
def f126.blks (a:aF×aD×aE):List (List D):=[]
def f126.res (a:aF×aD×aE):List D:=[.bool (bZ a)]
def f126.blks' (a:aF×aD×aE):List (List D):=[]
def f126.C:aN:=FnC f126.args f126.blks (fun _=>True) f126.res f126.blks'
def f126.kills (a:aF×aD×aE):List Hint:=[]
def f126.cuts (a:aF×aD×aE):List (Nat×Σ β:Type,β→Tm):=[]
def f126.af (a:aF×aD×aE):AF:=AF.mk (.seq (.region [oT 3 0 .box [0],
 ⟨(some 4),1,.move,[.c (.bool false)],none⟩])
 (.seq (.region [oT 5 2 (.load true 13) [3],
 oT 6 3 (.load true 7) [1],
 oT 7 4 (.load true 10) [2],
 oT 8 5 (.call false 127) [5,6,7],
 mT 4 9 8])
 (.ret)))
 [.tmp 4] 0 6
def f126.env:Env:=[(127,f127.C)]
def f126.tree (a:aF×aD×aE):Prop:=f127.ent (fun c1=>True∧((bZ c1)=(bZ a))∧True) (a.1,a.2.1,a.2.2)
def f126.vc (a:aF×aD×aE):Prop:=((bZ (a.1,a.2.1,a.2.2))=bZ a)
theorem f126.of (a:aF×aD×aE) (h:f126.vc a):f126.tree a:=(f127.ei ⟨trivial,⟨h,trivial⟩⟩)
theorem f126.eq (a:aF×aD×aE):(f126.af a).gives f126.env (f126.args a) (f126.blks a) (f126.res a) (f126.blks' a)=f126.tree a:=by kernel_rfl
def f1056.args (a:(List (aF))×aD×aE):List D:=[.slice .ro 13 a.1.length (gl aM a.1),.fn 126 [.eptr [.str a.2.1.1.1,.int .i64 a.2.1.1.2.1.1,.int .i64 a.2.1.1.2.1.2.1,.int .i64 a.2.1.1.2.1.2.2,.slice .ro 2 a.2.1.1.2.2.length (gl aG a.2.1.1.2.2),.bool a.2.1.2.1,.int .i64 a.2.1.2.2],.eptr [.str a.2.2.1,.str a.2.2.2.1,.int .i64 a.2.2.2.2.1,.int .i64 a.2.2.2.2.2.1.1,.int .i64 a.2.2.2.2.2.1.2.1,.int .i64 a.2.2.2.2.2.1.2.2,.slice .ro 2 a.2.2.2.2.2.2.1.length (gl aG a.2.2.2.2.2.2.1),.str a.2.2.2.2.2.2.2.1,.str a.2.2.2.2.2.2.2.2.1,.int .i64 a.2.2.2.2.2.2.2.2.2]]]
def f1056.blks (a:(List (aF))×aD×aE):List (List D):=[]
def f1056.res (a:(List (aF))×aD×aE):List D:=[.int .i64 (gU a)]
def f1056.blks' (a:(List (aF))×aD×aE):List (List D):=[]
def f1056.C:aN:=FnC f1056.args f1056.blks (fun a=>oU a) f1056.res f1056.blks'
def f1056.S0 (a:(List (aF))×aD×aE) (x:Int):Tm:=⟨.slice .ro 13 a.1.length (gl aM a.1)::.fn 126 [.eptr [.str a.2.1.1.1,.int .i64 a.2.1.1.2.1.1,.int .i64 a.2.1.1.2.1.2.1,.int .i64 a.2.1.1.2.1.2.2,.slice .ro 2 a.2.1.1.2.2.length (gl aG a.2.1.1.2.2),.bool a.2.1.2.1,.int .i64 a.2.1.2.2],.eptr [.str a.2.2.1,.str a.2.2.2.1,.int .i64 a.2.2.2.2.1,.int .i64 a.2.2.2.2.2.1.1,.int .i64 a.2.2.2.2.2.1.2.1,.int .i64 a.2.2.2.2.2.1.2.2,.slice .ro 2 a.2.2.2.2.2.2.1.length (gl aG a.2.2.2.2.2.2.1),.str a.2.2.2.2.2.2.2.1,.str a.2.2.2.2.2.2.2.2.1,.int .i64 a.2.2.2.2.2.2.2.2.2]]::.dead::.dead::.dead::.dead::.dead::.int .i64 (a.1.length:Int)::.int .i64 x::dd 10 [],[],[]⟩
def f1056.l0 (a:(List (aF))×aD×aE) (K:Int→Prop) (t:Int):Prop:=∃ x:Int,SlS aM a.1 ((DEqs [.eptr [.str a.2.1.1.1,.int .i64 a.2.1.1.2.1.1,.int .i64 a.2.1.1.2.1.2.1,.int .i64 a.2.1.1.2.1.2.2,.slice .ro 2 a.2.1.1.2.2.length (gl aG a.2.1.1.2.2),.bool a.2.1.2.1,.int .i64 a.2.1.2.2],.eptr [.str a.2.2.1,.str a.2.2.2.1,.int .i64 a.2.2.2.2.1,.int .i64 a.2.2.2.2.2.1.1,.int .i64 a.2.2.2.2.2.1.2.1,.int .i64 a.2.2.2.2.2.1.2.2,.slice .ro 2 a.2.2.2.2.2.2.1.length (gl aG a.2.2.2.2.2.2.1),.str a.2.2.2.2.2.2.2.1,.str a.2.2.2.2.2.2.2.2.1,.int .i64 a.2.2.2.2.2.2.2.2.2]] [.eptr [.str a.2.1.1.1,.int .i64 a.2.1.1.2.1.1,.int .i64 a.2.1.1.2.1.2.1,.int .i64 a.2.1.1.2.1.2.2,.slice .ro 2 a.2.1.1.2.2.length (gl aG a.2.1.1.2.2),.bool a.2.1.2.1,.int .i64 a.2.1.2.2],.eptr [.str a.2.2.1,.str a.2.2.2.1,.int .i64 a.2.2.2.2.1,.int .i64 a.2.2.2.2.2.1.1,.int .i64 a.2.2.2.2.2.1.2.1,.int .i64 a.2.2.2.2.2.1.2.2,.slice .ro 2 a.2.2.2.2.2.2.1.length (gl aG a.2.2.2.2.2.2.1),.str a.2.2.2.2.2.2.2.1,.str a.2.2.2.2.2.2.2.2.1,.int .i64 a.2.2.2.2.2.2.2.2.2]])∧((a.1.length:Int)=(a.1.length:Int))∧(t=x)∧K x)
theorem f1056.l0i (a:(List (aF))×aD×aE) {K:Int→Prop} {t:Int} (h:K t):f1056.l0 a K t:=⟨t,SlS.mk  (⟨(DEqs.refl _),⟨rfl,⟨rfl,h⟩⟩⟩)⟩
def f1056.kills (a:(List (aF))×aD×aE):List Hint:=[.tell Int (f1056.S0 a)]
def f1056.cuts (a:(List (aF))×aD×aE):List (Nat×Σ β:Type,β→Tm):=[]
def f1056.af (a:(List (aF))×aD×aE):AF:=AF.mk (.seq (.region [⟨(some 4),0,.move,[.c (.int .i64 (0))],none⟩])
 (.seq (.seq (.region [mT 6 1 0,
 oT 7 2 (.len false) [6],
 ⟨(some 8),3,.move,[.c (.int .i64 (0))],none⟩])
 (.block 0 (.loopT Int (f1056.S0 a) 4 20 (.seq (.region [oT 9 4 (.bin .lss) [8,7]])
 (.seq (.cond (.t 9) (.skip) (.exit 0))
 (.seq (.block 1 (.seq (.region [mT 10 5 8,
 mT 5 6 10])
 (.seq (.region [mT 11 7 1,
 mT 12 8 0,
 mT 13 9 5,
 oT 14 10 (.indexAddr 13 none) [12,13],
 oT 15 11 (.load true 13) [14],
 oT 16 12 (.callv false) [11,15]])
 (.cond (.t 16) (.seq (.region [mT 17 16 5,
 mT 4 17 17])
 (.ret)) (.skip)))))
 (.region [⟨(some 18),18,(.bin .add),[.t 8,.c (.int .i64 (1))],none⟩,
 mT 8 19 18])))))))
 (.seq (.region [⟨(some 4),20,.move,[.c (.int .i64 (-1))],none⟩])
 (.ret))))
 [.tmp 4] 0 17
def f1056.env:Env:=[(126,f126.C)]
def f1056.tree (a:(List (aF))×aD×aE):Prop:=∃ (I2:Int→Prop) (μ3:Int→Nat),(f1056.l0 a I2 (0:Int))∧∀ y4:Int,I2 y4→(Br (decide (y4 < (a.1.length:Int))) (Br (decide ((0:Int)≤y4)&&decide (y4 < (a.1.length:Int))) (∃ c8:aF×aD×aE,((((at_ a.1 y4).1).1)=c8.1.1.1)∧((((at_ a.1 y4).1).2.1)=c8.1.1.2.1)∧((((at_ a.1 y4).1).2.2.1)=c8.1.1.2.2.1)∧(((((at_ a.1 y4).1).2.2.2.1).1)=c8.1.1.2.2.2.1.1)∧(((((at_ a.1 y4).1).2.2.2.1).2.1)=c8.1.1.2.2.2.1.2.1)∧(((((at_ a.1 y4).1).2.2.2.1).2.2)=c8.1.1.2.2.2.1.2.2)∧SlQ ((((at_ a.1 y4).1).2.2.2.2.1).length) c8.1.1.2.2.2.2.1.length (gl aG (((at_ a.1 y4).1).2.2.2.2.1)) (gl aG c8.1.1.2.2.2.2.1) (((((at_ a.1 y4).1).2.2.2.2.2.1)=c8.1.1.2.2.2.2.2.1)∧((((at_ a.1 y4).1).2.2.2.2.2.2.1)=c8.1.1.2.2.2.2.2.2.1)∧((((at_ a.1 y4).1).2.2.2.2.2.2.2)=c8.1.1.2.2.2.2.2.2.2)∧(((at_ a.1 y4).2.1)=c8.1.2.1)∧(((at_ a.1 y4).2.2.1)=c8.1.2.2.1)∧(((at_ a.1 y4).2.2.2)=c8.1.2.2.2)∧(DEqs [.str a.2.1.1.1,.int .i64 a.2.1.1.2.1.1,.int .i64 a.2.1.1.2.1.2.1,.int .i64 a.2.1.1.2.1.2.2,.slice .ro 2 a.2.1.1.2.2.length (gl aG a.2.1.1.2.2),.bool a.2.1.2.1,.int .i64 a.2.1.2.2] [.str c8.2.1.1.1,.int .i64 c8.2.1.1.2.1.1,.int .i64 c8.2.1.1.2.1.2.1,.int .i64 c8.2.1.1.2.1.2.2,.slice .ro 2 c8.2.1.1.2.2.length (gl aG c8.2.1.1.2.2),.bool c8.2.1.2.1,.int .i64 c8.2.1.2.2])∧(DEqs [.str a.2.2.1,.str a.2.2.2.1,.int .i64 a.2.2.2.2.1,.int .i64 a.2.2.2.2.2.1.1,.int .i64 a.2.2.2.2.2.1.2.1,.int .i64 a.2.2.2.2.2.1.2.2,.slice .ro 2 a.2.2.2.2.2.2.1.length (gl aG a.2.2.2.2.2.2.1),.str a.2.2.2.2.2.2.2.1,.str a.2.2.2.2.2.2.2.2.1,.int .i64 a.2.2.2.2.2.2.2.2.2] [.str c8.2.2.1,.str c8.2.2.2.1,.int .i64 c8.2.2.2.2.1,.int .i64 c8.2.2.2.2.2.1.1,.int .i64 c8.2.2.2.2.2.1.2.1,.int .i64 c8.2.2.2.2.2.1.2.2,.slice .ro 2 c8.2.2.2.2.2.2.1.length (gl aG c8.2.2.2.2.2.2.1),.str c8.2.2.2.2.2.2.2.1,.str c8.2.2.2.2.2.2.2.2.1,.int .i64 c8.2.2.2.2.2.2.2.2.2])∧True∧Br (bZ c8) ((y4=(gU a))∧True) (Let (wI (y4+(1:Int))) (fun v12:Int=>f1056.l0 a (Dn I2 μ3 y4) v12)))) False) (((-1:Int)=(gU a))∧True))
def f1056.vc (a:(List (aF))×aD×aE):Prop:=(∃ (I2:Int→Prop) (μ3:Int→Nat),I2 (0:Int)∧∀ y4:Int,I2 y4→((y4 < (a.1.length:Int)→((0:Int)≤y4∧y4 < (a.1.length:Int)∧(((bZ ((((at_ a.1 y4).1),(at_ a.1 y4).2.1,(at_ a.1 y4).2.2.1,(at_ a.1 y4).2.2.2),a.2.1,a.2.2))=true→(y4=gU a))∧(¬((bZ ((((at_ a.1 y4).1),(at_ a.1 y4).2.1,(at_ a.1 y4).2.2.1,(at_ a.1 y4).2.2.2),a.2.1,a.2.2))=true)→(-9223372036854775808≤(y4+(1:Int))∧(y4+(1:Int))≤9223372036854775807∧(I2 (y4+(1:Int))∧μ3 (y4+(1:Int)) < μ3 y4))))))∧(¬(y4 < (a.1.length:Int))→((-1:Int)=gU a))))
theorem f1056.of (a:(List (aF))×aD×aE) (h:f1056.vc a):f1056.tree a:=Exists.elim h (fun I2 h25_=>Exists.elim h25_ (fun μ3 h25=>⟨I2,μ3,(f1056.l0i a h25.1),fun y4 h27=>br (h25.2 y4 h27) Cnd.dec (fun h5 k23=>chk k23.2.2 Cnd.ix ⟨k23.1,k23.2.1⟩ (fun h7 k21=>⟨((((at_ a.1 y4).1),(at_ a.1 y4).2.1,(at_ a.1 y4).2.2.1,(at_ a.1 y4).2.2.2),a.2.1,a.2.2),⟨rfl,⟨rfl,⟨rfl,⟨rfl,⟨rfl,⟨rfl,slQ (rS aG) (⟨rfl,⟨rfl,⟨rfl,⟨rfl,⟨rfl,⟨rfl,⟨(DEqs.refl _),⟨(DEqs.refl _),⟨trivial,br k21 Cnd.b (fun h9 k18=>⟨k18,trivial⟩) (fun h10 k19=>wrapK.i64 k19 (fun h15 h16 k17=>(f1056.l0i a k17)))⟩⟩⟩⟩⟩⟩⟩⟩⟩)⟩⟩⟩⟩⟩⟩⟩)) (fun h6 k24=>⟨k24,trivial⟩)⟩))
theorem f1056.eq (a:(List (aF))×aD×aE):(f1056.af a).gives f1056.env (f1056.args a) (f1056.blks a) (f1056.res a) (f1056.blks' a)=f1056.tree a:=by kernel_rfl
def f125.args (a:(List (aF))×aD×aE):List D:=[.slice .ro 13 a.1.length (gl aM a.1),.fn 126 [.eptr [.str a.2.1.1.1,.int .i64 a.2.1.1.2.1.1,.int .i64 a.2.1.1.2.1.2.1,.int .i64 a.2.1.1.2.1.2.2,.slice .ro 2 a.2.1.1.2.2.length (gl aG a.2.1.1.2.2),.bool a.2.1.2.1,.int .i64 a.2.1.2.2],.eptr [.str a.2.2.1,.str a.2.2.2.1,.int .i64 a.2.2.2.2.1,.int .i64 a.2.2.2.2.2.1.1,.int .i64 a.2.2.2.2.2.1.2.1,.int .i64 a.2.2.2.2.2.1.2.2,.slice .ro 2 a.2.2.2.2.2.2.1.length (gl aG a.2.2.2.2.2.2.1),.str a.2.2.2.2.2.2.2.1,.str a.2.2.2.2.2.2.2.2.1,.int .i64 a.2.2.2.2.2.2.2.2.2]]]
def f125.blks (a:(List (aF))×aD×aE):List (List D):=[]
def f125.res (a:(List (aF))×aD×aE):List D:=[.bool (fW a)]
def f125.blks' (a:(List (aF))×aD×aE):List (List D):=[]
def f125.C:aN:=FnC f125.args f125.blks (fun a=>oU a) f125.res f125.blks'
def f125.kills (a:(List (aF))×aD×aE):List Hint:=[]
def f125.cuts (a:(List (aF))×aD×aE):List (Nat×Σ β:Type,β→Tm):=[]
def f125.af (a:(List (aF))×aD×aE):AF:=AF.mk (.seq (.region [⟨(some 4),0,.move,[.c (.bool false)],none⟩])
 (.seq (.region [mT 5 1 0,
 mT 6 2 1,
 oT 7 3 (.call false 56) [5,6],
 ⟨(some 8),7,(.bin .geq),[.t 7,.c (.int .i64 (0))],none⟩,
 mT 4 8 8])
 (.ret)))
 [.tmp 4] 0 7
def f125.env:Env:=[(56,f1056.C)]
def f125.tree (a:(List (aF))×aD×aE):Prop:=∃ c1:(List (aF))×aD×aE,SlQ a.1.length c1.1.length (gl aM a.1) (gl aM c1.1) ((DEqs [.eptr [.str a.2.1.1.1,.int .i64 a.2.1.1.2.1.1,.int .i64 a.2.1.1.2.1.2.1,.int .i64 a.2.1.1.2.1.2.2,.slice .ro 2 a.2.1.1.2.2.length (gl aG a.2.1.1.2.2),.bool a.2.1.2.1,.int .i64 a.2.1.2.2],.eptr [.str a.2.2.1,.str a.2.2.2.1,.int .i64 a.2.2.2.2.1,.int .i64 a.2.2.2.2.2.1.1,.int .i64 a.2.2.2.2.2.1.2.1,.int .i64 a.2.2.2.2.2.1.2.2,.slice .ro 2 a.2.2.2.2.2.2.1.length (gl aG a.2.2.2.2.2.2.1),.str a.2.2.2.2.2.2.2.1,.str a.2.2.2.2.2.2.2.2.1,.int .i64 a.2.2.2.2.2.2.2.2.2]] [.eptr [.str c1.2.1.1.1,.int .i64 c1.2.1.1.2.1.1,.int .i64 c1.2.1.1.2.1.2.1,.int .i64 c1.2.1.1.2.1.2.2,.slice .ro 2 c1.2.1.1.2.2.length (gl aG c1.2.1.1.2.2),.bool c1.2.1.2.1,.int .i64 c1.2.1.2.2],.eptr [.str c1.2.2.1,.str c1.2.2.2.1,.int .i64 c1.2.2.2.2.1,.int .i64 c1.2.2.2.2.2.1.1,.int .i64 c1.2.2.2.2.2.1.2.1,.int .i64 c1.2.2.2.2.2.1.2.2,.slice .ro 2 c1.2.2.2.2.2.2.1.length (gl aG c1.2.2.2.2.2.2.1),.str c1.2.2.2.2.2.2.2.1,.str c1.2.2.2.2.2.2.2.2.1,.int .i64 c1.2.2.2.2.2.2.2.2.2]])∧(oU c1)∧((decide ((0:Int)≤(gU c1)))=(fW a))∧True)
def f125.vc (a:(List (aF))×aD×aE):Prop:=(oU (a.1,a.2.1,a.2.2)∧(decide ((0:Int)≤(gU (a.1,a.2.1,a.2.2)))=fW a))
theorem f125.of (a:(List (aF))×aD×aE) (h:f125.vc a):f125.tree a:=⟨(a.1,a.2.1,a.2.2),slQ (rS aM) (⟨(DEqs.refl _),⟨h.1,⟨h.2,trivial⟩⟩⟩)⟩
theorem f125.eq (a:(List (aF))×aD×aE):(f125.af a).gives f125.env (f125.args a) (f125.blks a) (f125.res a) (f125.blks' a)=f125.tree a:=by kernel_rfl
def f111.ent (K:(aD×(List (aF))×aE)→Prop) (t:aD×(List (aF))×aE):Prop:=∃ c:aD×(List (aF))×aE,(t.1.1.1=c.1.1.1)∧(t.1.1.2.1.1=c.1.1.2.1.1)∧(t.1.1.2.1.2.1=c.1.1.2.1.2.1)∧(t.1.1.2.1.2.2=c.1.1.2.1.2.2)∧SlQ t.1.1.2.2.length c.1.1.2.2.length (gl aG t.1.1.2.2) (gl aG c.1.1.2.2) ((t.1.2.1=c.1.2.1)∧(t.1.2.2=c.1.2.2)∧SlQ t.2.1.length c.2.1.length (gl aM t.2.1) (gl aM c.2.1) ((t.2.2.1=c.2.2.1)∧(t.2.2.2.1=c.2.2.2.1)∧(t.2.2.2.2.1=c.2.2.2.2.1)∧(t.2.2.2.2.2.1.1=c.2.2.2.2.2.1.1)∧(t.2.2.2.2.2.1.2.1=c.2.2.2.2.2.1.2.1)∧(t.2.2.2.2.2.1.2.2=c.2.2.2.2.2.1.2.2)∧SlQ t.2.2.2.2.2.2.1.length c.2.2.2.2.2.2.1.length (gl aG t.2.2.2.2.2.2.1) (gl aG c.2.2.2.2.2.2.1) ((t.2.2.2.2.2.2.2.1=c.2.2.2.2.2.2.2.1)∧(t.2.2.2.2.2.2.2.2.1=c.2.2.2.2.2.2.2.2.1)∧(t.2.2.2.2.2.2.2.2.2=c.2.2.2.2.2.2.2.2.2)∧K c)))
theorem f111.ei {K:(aD×(List (aF))×aE)→Prop} {t:aD×(List (aF))×aE} (h:K t):f111.ent K t:=⟨t,⟨rfl,⟨rfl,⟨rfl,⟨rfl,slQ (rS aG) (⟨rfl,⟨rfl,slQ (rS aM) (⟨rfl,⟨rfl,⟨rfl,⟨rfl,⟨rfl,⟨rfl,slQ (rS aG) (⟨rfl,⟨rfl,⟨rfl,h⟩⟩⟩)⟩⟩⟩⟩⟩⟩)⟩⟩)⟩⟩⟩⟩⟩
def f111.args (a:aD×(List (aF))×aE):List D:=[.agg [.str a.1.1.1,.int .i64 a.1.1.2.1.1,.int .i64 a.1.1.2.1.2.1,.int .i64 a.1.1.2.1.2.2,.slice .ro 2 a.1.1.2.2.length (gl aG a.1.1.2.2),.bool a.1.2.1,.int .i64 a.1.2.2],.slice .ro 13 a.2.1.length (gl aM a.2.1),.agg [.str a.2.2.1,.str a.2.2.2.1,.int .i64 a.2.2.2.2.1,.int .i64 a.2.2.2.2.2.1.1,.int .i64 a.2.2.2.2.2.1.2.1,.int .i64 a.2.2.2.2.2.1.2.2,.slice .ro 2 a.2.2.2.2.2.2.1.length (gl aG a.2.2.2.2.2.2.1),.str a.2.2.2.2.2.2.2.1,.str a.2.2.2.2.2.2.2.2.1,.int .i64 a.2.2.2.2.2.2.2.2.2]]
def f111.blks (a:aD×(List (aF))×aE):List (List D):=[]
def f111.res (a:aD×(List (aF))×aE):List D:=[.int .i64 (eF a)]
def f111.blks' (a:aD×(List (aF))×aE):List (List D):=[]
def f111.C:aN:=FnC f111.args f111.blks (fun a=>dK a) f111.res f111.blks'
def f111.kills (a:aD×(List (aF))×aE):List Hint:=[]
def f111.cuts (a:aD×(List (aF))×aE):List (Nat×Σ β:Type,β→Tm):=[]
def f111.af (a:aD×(List (aF))×aE):AF:=AF.mk (.seq (.region [oT 3 0 .box [0],
 oT 5 1 .box [2],
 ⟨(some 6),2,.move,[.c (.int .i64 (0))],none⟩])
 (.seq (.region [oT 10 3 (.load true 7) [3],
 mT 11 4 1,
 oT 12 5 (.call false 112) [10,11],
 mT 9 9 12,
 oT 13 10 (.extract 0) [9],
 oT 14 11 (.extract 1) [9],
 oT 7 12 (.alloc [.int .i64 (0),.int .i64 (0),.int .i64 (0)]) [],
 ⟨none,16,(.store 3),[.t 7,.t 13],none⟩,
 mT 8 17 14])
 (.seq (.block 0 (.seq (.region [mT 16 18 8,
 ⟨(some 17),19,(.bin .neq),[.t 16,.c (.int .i64 (0))],none⟩,
 mT 18 20 17,
 oG 19 21 (.fieldAddr 0) [3] 18 false,
 oG 20 22 (.load true 5) [19] 18 false,
 oG 21 23 (.call false 35) [20] 18 false,
 oG 22 27 (.un .not) [21] 18 false,
 ⟨(some 23),28,.pick,[.t 18,.c (.bool true),.t 22],none⟩,
 mT 24 29 23,
 oG 25 30 (.load true 10) [5] 24 false,
 oG 26 31 (.call false 24) [25] 24 false,
 oG 27 35 (.un .not) [26] 24 false,
 ⟨(some 28),36,.pick,[.t 24,.c (.bool true),.t 27],none⟩,
 mT 15 37 28])
 (.cond (.t 15) (.seq (.region [⟨(some 6),38,.move,[.c (.int .i64 (5))],none⟩])
 (.ret)) (.seq (.region [oT 30 39 (.fieldAddr 5) [3],
 oT 31 40 (.load false 1) [30],
 oT 32 41 (.un .not) [31],
 mT 29 42 32])
 (.cond (.t 29) (.seq (.region [⟨(some 6),43,.move,[.c (.int .i64 (1))],none⟩])
 (.ret)) (.seq (.region [oT 34 44 (.fieldAddr 0) [3],
 oT 35 45 (.fieldAddr 4) [34],
 oT 36 46 (.load false 1) [35],
 oT 37 47 (.fieldAddr 6) [5],
 oT 38 48 (.load false 1) [37],
 oT 39 49 (.call false 124) [36,38],
 oT 40 53 (.un .not) [39],
 mT 33 54 40])
 (.cond (.t 33) (.seq (.region [⟨(some 6),55,.move,[.c (.int .i64 (2))],none⟩])
 (.ret)) (.seq (.region [mT 42 56 1,
 oT 43 57 (.mkfunc 126 0) [3,5],
 oT 44 58 (.call false 125) [42,43],
 mT 41 62 44])
 (.cond (.t 41) (.seq (.region [⟨(some 6),63,.move,[.c (.int .i64 (3))],none⟩])
 (.ret)) (.seq (.region [oT 46 64 (.fieldAddr 3) [5],
 oT 47 65 (.load true 3) [46],
 oT 48 66 (.load true 3) [7],
 oT 49 67 (.call false 34) [47,48],
 oT 50 71 (.un .not) [49],
 mT 45 72 50])
 (.cond (.t 45) (.seq (.region [⟨(some 6),73,.move,[.c (.int .i64 (4))],none⟩])
 (.ret)) (.skip))))))))))))
 (.seq (.region [⟨(some 6),74,.move,[.c (.int .i64 (0))],none⟩])
 (.ret)))))
 [.tmp 6] 0 48
def f111.env:Env:=[(112,f112.C),(35,f35.C),(24,f24.C),(124,f124.C),(125,f125.C),(34,f34.C)]
def f111.tree (a:aD×(List (aF))×aE):Prop:=f112.ent (fun c1=>(fI c1)∧Br (((bX c1).2) != (0:Int)) (((5:Int)=(eF a))∧True) (f35.ent (fun c5=>(fJ c5)∧Br (!(fM c5)) (((5:Int)=(eF a))∧True) (f24.ent (fun c9=>(gE c9)∧Br (!(bM c9)) (((5:Int)=(eF a))∧True) (Br (!a.1.2.1) (((1:Int)=(eF a))∧True) (f124.ent (fun c16=>(kF c16)∧Br (!(fA c16)) (((2:Int)=(eF a))∧True) (∃ c20:(List (aF))×aD×aE,SlQ a.2.1.length c20.1.length (gl aM a.2.1) (gl aM c20.1) ((DEqs [.eptr [.str a.1.1.1,.int .i64 a.1.1.2.1.1,.int .i64 a.1.1.2.1.2.1,.int .i64 a.1.1.2.1.2.2,.slice .ro 2 a.1.1.2.2.length (gl aG a.1.1.2.2),.bool a.1.2.1,.int .i64 a.1.2.2],.eptr [.str a.2.2.1,.str a.2.2.2.1,.int .i64 a.2.2.2.2.1,.int .i64 a.2.2.2.2.2.1.1,.int .i64 a.2.2.2.2.2.1.2.1,.int .i64 a.2.2.2.2.2.1.2.2,.slice .ro 2 a.2.2.2.2.2.2.1.length (gl aG a.2.2.2.2.2.2.1),.str a.2.2.2.2.2.2.2.1,.str a.2.2.2.2.2.2.2.2.1,.int .i64 a.2.2.2.2.2.2.2.2.2]] [.eptr [.str c20.2.1.1.1,.int .i64 c20.2.1.1.2.1.1,.int .i64 c20.2.1.1.2.1.2.1,.int .i64 c20.2.1.1.2.1.2.2,.slice .ro 2 c20.2.1.1.2.2.length (gl aG c20.2.1.1.2.2),.bool c20.2.1.2.1,.int .i64 c20.2.1.2.2],.eptr [.str c20.2.2.1,.str c20.2.2.2.1,.int .i64 c20.2.2.2.2.1,.int .i64 c20.2.2.2.2.2.1.1,.int .i64 c20.2.2.2.2.2.1.2.1,.int .i64 c20.2.2.2.2.2.1.2.2,.slice .ro 2 c20.2.2.2.2.2.2.1.length (gl aG c20.2.2.2.2.2.2.1),.str c20.2.2.2.2.2.2.2.1,.str c20.2.2.2.2.2.2.2.2.1,.int .i64 c20.2.2.2.2.2.2.2.2.2]])∧(oU c20)∧Br (fW c20) (((3:Int)=(eF a))∧True) (f34.ent (fun c24=>True∧Br (!(eC c24)) (((4:Int)=(eF a))∧True) (((0:Int)=(eF a))∧True)) (a.2.2.2.2.2.1,((bX c1).1)))))) (a.1.1.2.2,a.2.2.2.2.2.2.1)))) a.2.2)) a.1.1)) (a.1,a.2.1)
def f111.vc (a:aD×(List (aF))×aE):Prop:=(fI (a.1,a.2.1)∧((¬((bX (a.1,a.2.1)).2)=(0:Int)→((5:Int)=eF a))∧(¬(¬((bX (a.1,a.2.1)).2)=(0:Int))→(fJ a.1.1∧((¬((fM (a.1.1))=true)→((5:Int)=eF a))∧(¬(¬((fM (a.1.1))=true))→(gE a.2.2∧((¬((bM (a.2.2))=true)→((5:Int)=eF a))∧(¬(¬((bM (a.2.2))=true))→((¬(a.1.2.1=true)→((1:Int)=eF a))∧(¬(¬(a.1.2.1=true))→(kF (a.1.1.2.2,a.2.2.2.2.2.2.1)∧((¬((fA (a.1.1.2.2,a.2.2.2.2.2.2.1))=true)→((2:Int)=eF a))∧(¬(¬((fA (a.1.1.2.2,a.2.2.2.2.2.2.1))=true))→(oU (a.2.1,a.1,a.2.2)∧(((fW (a.2.1,a.1,a.2.2))=true→((3:Int)=eF a))∧(¬((fW (a.2.1,a.1,a.2.2))=true)→((¬((eC (a.2.2.2.2.2.1,((bX (a.1,a.2.1)).1)))=true)→((4:Int)=eF a))∧(¬(¬((eC (a.2.2.2.2.2.1,((bX (a.1,a.2.1)).1)))=true))→((0:Int)=eF a))))))))))))))))))))
theorem f111.of (a:aD×(List (aF))×aE) (h:f111.vc a):f111.tree a:=(f112.ei ⟨h.1,br h.2 Cnd.ne (fun h2 k46=>⟨k46,trivial⟩) (fun h3 k47=>(f35.ei ⟨k47.1,br k47.2 (Cnd.not Cnd.b) (fun h6 k43=>⟨k43,trivial⟩) (fun h7 k44=>(f24.ei ⟨k44.1,br k44.2 (Cnd.not Cnd.b) (fun h10 k40=>⟨k40,trivial⟩) (fun h11 k41=>br k41 (Cnd.not Cnd.b) (fun h13 k38=>⟨k38,trivial⟩) (fun h14 k39=>(f124.ei ⟨k39.1,br k39.2 (Cnd.not Cnd.b) (fun h17 k35=>⟨k35,trivial⟩) (fun h18 k36=>⟨(a.2.1,a.1,a.2.2),slQ (rS aM) (⟨(DEqs.refl _),⟨k36.1,br k36.2 Cnd.b (fun h21 k32=>⟨k32,trivial⟩) (fun h22 k33=>(f34.ei ⟨trivial,br k33 (Cnd.not Cnd.b) (fun h25 k29=>⟨k29,trivial⟩) (fun h26 k30=>⟨k30,trivial⟩)⟩))⟩⟩)⟩)⟩)))⟩))⟩))⟩)
theorem f111.eq (a:aD×(List (aF))×aE):(f111.af a).gives f111.env (f111.args a) (f111.blks a) (f111.res a) (f111.blks' a)=f111.tree a:=by kernel_rfl
theorem f113.ok (a:dO×dO) (_:True):f113.vc a:=⟨.inr rfl,rfl⟩
theorem f136.ok (a:List gT×gT) (h:oU a):f136.vc a:=by
 obtain ⟨l,q⟩:=a
 have h:l.length≤1048576:=h
 refine ⟨fun y=>0≤y∧y≤(l.length:Int)∧∀ k,k < y.toNat→decide (l.getD k default=q)=false,fun y=>l.length - y.toNat,⟨by omega,by omega,fun k hk=>by simp at hk⟩,fun y hy=>?_⟩
 obtain ⟨g0,g1,g2⟩:=hy
 refine ⟨fun hlt=>⟨g0,hlt,fun c=>?_,fun c=>⟨by simp only at hlt; omega,by simp only at hlt; omega,⟨by omega,by simp only at hlt; omega,fun k hk=>?_⟩,by simp only at hlt ⊢; omega⟩⟩,fun hge=>?_⟩
 ·have e:at_ l y=q:=(Prod.ext c.1 c.2).symm
  unfold ixL
  simp only at hlt ⊢
  rw [qQ (p:=fun x=>decide (x=q)) (k:=y.toNat) (by omega) (by rw [decide_eq_true_eq]; exact e) g2]
  simp only
  omega
 ·by_cases he:k=y.toNat
  ·subst he
   rw [decide_eq_false_iff_not]
   intro e
   exact c ⟨by rw [← e]; rfl,by rw [← e]; rfl⟩
  ·exact g2 k (by omega)
 ·unfold ixL
  simp only at hge ⊢
  rw [qX (p:=fun x=>decide (x=q)) fun k hk=>g2 k (by omega)]
theorem s5 {α:Type} (l:List α) (p:α→Bool):decide ((0:Int)≤(match l.findIdx? p with | some i=>(i:Int) | none=>-1))=l.any p:=by
 rw [Bool.eq_iff_iff,decide_eq_true_eq,List.any_eq_true]
 cases h:l.findIdx? p with
 | none =>
  have:=List.findIdx?_eq_none_iff.1 h
  simp only
  refine ⟨fun hh=>by omega,fun ⟨x,hx,hp⟩=>by rw [this x hx] at hp; cases hp⟩
 | some i =>
  obtain ⟨hi,hp,_⟩:=List.findIdx?_eq_some_iff_getElem.1 h
  simp only
  exact ⟨fun _=>⟨_,List.getElem_mem hi,hp⟩,fun _=>by omega⟩
theorem f132.ok (a:List gT×gT) (h:oU a):f132.vc a:=⟨h,s5 a.1 fun x=>decide (x=a.2)⟩
theorem mE {a:List gT×List gT}:fA a=true↔∀ i,i < a.2.length→qT (a.1,a.2.getD i default)=true:=by
 unfold fA
 rw [List.all_eq_true]
 constructor
 ·exact fun h i hi=>h _ (kX hi)
 ·intro h x hx
  obtain ⟨i,hi,rfl⟩:=List.mem_iff_getElem.1 hx
  have:=h i hi
  rwa [List.getD_eq_getElem?_getD,List.getElem?_eq_getElem hi] at this
theorem f124.ok (a:List gT×List gT) (h:kF a):f124.vc a:=by
 obtain ⟨l,w⟩:=a
 obtain ⟨h1,h2⟩:=h
 unfold L20 at h2
 simp only at h2
 refine ⟨fun y=>0≤y∧y≤(w.length:Int)∧∀ k,k < y.toNat→qT (l,w.getD k default)=true,fun y=>w.length - y.toNat,⟨by omega,by omega,fun k hk=>by simp at hk⟩,fun y hy=>?_⟩
 obtain ⟨g0,g1,g2⟩:=hy
 refine ⟨fun hlt=>⟨g0,hlt,h1,fun c=>?_,fun c=>⟨by simp only at hlt; omega,by simp only at hlt; omega,⟨by omega,by simp only at hlt; omega,fun k hk=>?_⟩,by simp only at hlt ⊢; omega⟩⟩,fun hge=>?_⟩
 ·refine (Bool.eq_false_iff.2 fun hh=>c ?_).symm
  exact mE.1 hh y.toNat (by simp only at hlt ⊢; omega)
 ·by_cases he:k=y.toNat
  ·subst he; exact Classical.not_not.1 c
  ·exact g2 k (by omega)
 ·exact (mE.2 fun i hi=>g2 i (by simp only at hi hge; omega)).symm
theorem xZ {j:dW} {q:ByteArray} (h:j.2.2.1=q) (l:List dW):jY (j::l) q=j.1.2.2.2.1::jY l q:=by
 unfold jY
 rw [List.filter_cons_of_pos (by simpa using h),List.map_cons]
theorem aAS {j:dW} {q:ByteArray} (h:¬j.2.2.1=q) (l:List dW):jY (j::l) q=jY l q:=by
 unfold jY
 rw [List.filter_cons_of_neg (by simpa using h)]
theorem f112.ok (a:cO×List dW) (h:fI a):f112.vc a:=by
 obtain ⟨m,l⟩:=a
 have h:l.length≤1048576:=h
 refine ⟨fun y=>0≤y.2∧y.2≤(l.length:Int)∧y.1++jY (l.drop y.2.toNat) m.1.1=jY l m.1.1∧y.1.length≤y.2.toNat,fun y=>l.length - y.2.toNat,⟨by simp only; omega,by simp only; omega,rfl,Nat.le_refl _⟩,fun y hy=>?_⟩
 obtain ⟨out,i⟩:=y
 obtain ⟨g0,g1,g2,g3⟩:=hy
 simp only at g0 g1 g2 g3 ⊢
 refine ⟨fun hlt=>⟨g0,hlt,fun c=>⟨by omega,by omega,by omega,⟨by omega,by omega,?_,?_⟩,by omega⟩,fun c=>⟨by omega,by omega,⟨by omega,by omega,?_,by omega⟩,by omega⟩⟩,fun hge=>?_⟩
 ·rw [← g2,oH g0 hlt,xZ c,List.append_assoc]
  rfl
 ·rw [List.length_append,List.length_singleton]
  omega
 ·rw [← g2,oH g0 hlt,aAS c]
 ·rw [List.drop_of_length_le (by omega)] at g2
  have g2:out=jY l m.1.1:=by rw [← g2]; exact (List.append_nil _).symm
  subst g2
  refine ⟨by unfold L20; omega,fun c=>?_,fun c=>?_⟩
  ·unfold bX
   rw [if_pos c]
   rfl
  ·unfold bX
   rw [if_neg c]
theorem f127.ok (a:dW×cO×cJ) (_:True):f127.vc a:=by
 have no:¬(¬a.2.2.2.2.2.2.2.1=ByteArray.empty∧a.1.2.2.1=a.2.1.1.1∧¬a.1.1.1=a.2.2.1∧a.1.1.2.2.2.2.2.1=a.2.2.2.2.2.2.2.1)→false=bZ a:=fun h=>(decide_eq_false h).symm
 refine ⟨fun c1=>⟨fun c2=>⟨fun c3=>?_,fun c=>no fun hh=>c hh.2.2.1⟩,fun c=>no fun hh=>c hh.2.1⟩,fun c=>no fun hh=>c hh.1⟩
 rw [aLU]
 unfold bZ
 rw [decide_eq_decide]
 exact ⟨fun h=>⟨c1,c2,c3,h⟩,fun h=>h.2.2.2⟩
theorem f126.ok (a:dW×cO×cJ) (_:True):f126.vc a:=rfl
theorem f1056.ok (a:List dW×cO×cJ) (h:oU a):f1056.vc a:=by
 obtain ⟨l,q⟩:=a
 have h:l.length≤1048576:=h
 refine ⟨fun y=>0≤y∧y≤(l.length:Int)∧∀ k,k < y.toNat→bZ (l.getD k default,q)=false,fun y=>l.length - y.toNat,⟨Int.le_refl _,by omega,fun k hk=>by simp at hk⟩,fun y hy=>?_⟩
 obtain ⟨g0,g1,g2⟩:=hy
 refine ⟨fun hlt=>⟨g0,hlt,fun c=>?_,fun c=>⟨by simp only at hlt; omega,by simp only at hlt; omega,⟨by omega,by simp only at hlt; omega,fun k hk=>?_⟩,by simp only at hlt ⊢; omega⟩⟩,fun hge=>?_⟩
 ·have hk:y.toNat < l.length:=by
   have:y < (l.length:Int):=hlt
   omega
  have e:=qQ (l:=l) (p:=fun x=>bZ (x,q)) hk c g2
  unfold gU
  simp only
  rw [e]
  simp only
  omega
 ·by_cases he:k=y.toNat
  ·subst he
   exact Bool.eq_false_iff.2 c
  ·exact g2 k (by omega)
 ·unfold gU
  simp only at hge ⊢
  rw [qX (p:=fun x=>bZ (x,q)) fun k hk=>g2 k (by omega)]
theorem f125.ok (a:List dW×cO×cJ) (h:oU a):f125.vc a:=⟨h,s5 a.1 fun j=>bZ (j,a.2)⟩
theorem f111.ok (a:cO×List dW×cJ) (h:dK a):f111.vc a:=by
 obtain ⟨h1,h2,h3,h4,h5⟩:=h
 unfold f111.vc eF
 refine ⟨h1,fun c=>?_,fun c1=>⟨h2,fun c=>?_,fun c2=>⟨h3,fun c=>?_,fun c3=>?_⟩⟩⟩
 ·rw [if_pos fun hh=>c hh.1]
 ·rw [if_pos fun hh=>c hh.2.1]
 ·rw [if_pos fun hh=>c hh.2.2]
 ·rw [if_neg (not_not_intro ⟨Classical.not_not.1 c1,Classical.not_not.1 c2,Classical.not_not.1 c3⟩)]
  refine ⟨fun c=>?_,fun c4=>⟨⟨h4,h5⟩,fun c=>?_,fun c5=>⟨h1,fun c=>?_,fun c6=>⟨fun c=>?_,fun c=>?_⟩⟩⟩⟩
  ·rw [if_pos c]
  ·rw [if_neg c4,if_pos c]
  ·rw [if_neg c4,if_neg c5,if_pos c]
  ·rw [if_neg c4,if_neg c5,if_neg c6,if_pos c]
  ·rw [if_neg c4,if_neg c5,if_neg c6,if_neg c]
end Go.Abs
