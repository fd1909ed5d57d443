/- Functions, and what the code asks of them: PWheel. -/
import Derived.KernelRfl
import Derived.Test.YtfjnkkfhhalepaaWheelSetsP4
import Derived.Test.YtfjnkkfhhalepaaWheelSetsP5
import Derived.Test.YtfjnkkfhhalepaaWheelSetsP6
import Derived.Test.YtfjnkkfhhalepaaWheelSetsP7
import Derived.Test.YtfjnkkfhhalepaaWheelSetsP8
import Derived.Test.YtfjnkkfhhalepaaWheelSetsP9
import Derived.Test.YtfjnkkfhhalepaaWheelSetsP10
import Derived.Test.YtfjnkkfhhalepaaWheelSetsP11
import Derived.Test.YtfjnkkfhhalepaaWheelSetsP12
import Derived.Test.YtfjnkkfhhalepaaWheelSetsP15
import Derived.Test.YtfjnkkfhhalepaaWheelSetsP16
import Derived.Test.YtfjnkkfhhalepaaWheelSetsP17
import Derived.Test.YtfjnkkfhhalepaaWheelSetsP18
import Derived.Test.YtfjnkkfhhalepaaWheelSetsP20
set_option maxRecDepth 100000
set_option maxHeartbeats 4000000
set_option linter.unusedVariables false
set_option linter.unusedSimpArgs false
set_option linter.unusedSectionVars false
namespace Go.Abs
open Go
def aE (t:Int):Int:=IntKind.i64.wrap (IntKind.u64.wrap t % 16)
def spW (t:Int):Nat:=1+Int.toNat (aE t) * 1
def aMU (_:Unit):Unit:=()
def atW (a:Ob Int×ByteArray):Int×Bool×Ob Int:=(j3 a.1 a.2 0,l5 a.1 0 (a.1.nl 0) a.2,a.1)
def delW (a:Ob Int×ByteArray):Bool×Ob Int:=(l5 a.1 0 (a.1.nl 0) a.2,fJ spW a.1 a.2)
def setW (a:Ob Int×ByteArray×Int):Ob Int:=aH0 spW a.1 a.2.1 a.2.2
def q9 (o:Ob Int) (now:Int):List ByteArray:=dD slt (eS o (fun k=>decide (j3 o k 0 < now)) 1 16)
def dU (a:Ob Int×Int):List ByteArray×Ob Int:=(q9 a.1 a.2,(q9 a.1 a.2).foldl (fJ spW) a.1)
def f9 (a:Ob Int×Int):Prop:=(eS a.1 (fun _=>true) 1 16).length≤1048576
def iX (a:Ob Int):Int×Ob Int:=((aGT a 0 (a.nl 0):Int),a)
def l6 (l:List (ByteArray×Int)) (now:Int):List ByteArray:=(l.filter fun x=>decide (x.2 < now)).map (·.1)
def jU (s:List (Int×Int×ByteArray)):Bool:=decide (s.length≤300)&&(List.range s.length).all fun i=>decide ((s.getD i default).2.2.size≤1000)
def f328.args (a:Int):List D:=[.int .i64 a]
def f328.blks (a:Int):List (List D):=[]
def f328.res (a:Int):List D:=[.int .i64 (aE a)]
def f328.blks' (a:Int):List (List D):=[]
def f328.C:aO:=FnC f328.args f328.blks (fun _=>True) f328.res f328.blks'
set_option linter.unusedVariables false
def f328.kills (a:Int):List Hint:=[]
def f328.cuts (a:Int):List (Nat×Σ β:Type,β→Tm):=[]
def f328.af (a:Int):AF:=AF.mk (.seq (.region [⟨(some 2),0,.move,[.c (.int .i64 (0))],none⟩])
 (.seq (.region [mT 3 1 0,
 oT 4 2 (.conv (.int .u64)) [3],
 ⟨(some 5),3,(.bin .rem),[.t 4,.c (.int .u64 (16))],none⟩,
 oT 6 4 (.conv (.int .i64)) [5],
 mT 2 5 6])
 (.ret)))
 [.tmp 2] 0 6
def f328.env:Env:=[]
def f328.tree (a:Int):Prop:=Let (Int.tmod (IntKind.u64.wrap a) (16:Int)) (fun v1:Int=>((wI v1)=(aE a))∧True)
def f328.vc (a:Int):Prop:=(0≤(IntKind.u64.wrap a)∧(wI ((IntKind.u64.wrap a) % (16:Int))=aE a))
theorem f328.of (a:Int) (h:f328.vc a):f328.tree a:=aME h.1 (⟨h.2,trivial⟩)
theorem f328.eq (a:Int):(f328.af a).gives f328.env (f328.args a) (f328.blks a) (f328.res a) (f328.blks' a)=f328.tree a:=by kernel_rfl
def f295.args (a:Unit):List D:=[]
def f295.blks (a:Unit):List (List D):=[]
def f295.res (a:Unit):List D:=[.newp [.nilm,.nilm,.nilm,.nilm,.nilm,.nilm,.nilm,.nilm,.nilm,.nilm,.nilm,.nilm,.nilm,.nilm,.nilm,.nilm,.nilm]]
def f295.blks' (a:Unit):List (List D):=[]
def f295.C:aO:=FnC f295.args f295.blks (fun _=>True) f295.res f295.blks'
def f295.kills (a:Unit):List Hint:=[]
def f295.cuts (a:Unit):List (Nat×Σ β:Type,β→Tm):=[]
def f295.af (a:Unit):AF:=AF.mk (.seq (.region [⟨(some 0),0,.move,[.c (.nilp)],none⟩])
 (.seq (.region [oT 1 1 (.build [.nilm,.nilm,.nilm,.nilm,.nilm,.nilm,.nilm,.nilm,.nilm,.nilm,.nilm,.nilm,.nilm,.nilm,.nilm,.nilm,.nilm] []) [],
 oT 2 2 .box [1],
 mT 0 3 2])
 (.ret)))
 [.tmp 0] 0 3
def f295.env:Env:=[]
def f295.tree (a:Unit):Prop:=(DEqs [.nilm,.nilm,.nilm,.nilm,.nilm,.nilm,.nilm,.nilm,.nilm,.nilm,.nilm,.nilm,.nilm,.nilm,.nilm,.nilm,.nilm] [.nilm,.nilm,.nilm,.nilm,.nilm,.nilm,.nilm,.nilm,.nilm,.nilm,.nilm,.nilm,.nilm,.nilm,.nilm,.nilm,.nilm])∧True
def f295.vc (a:Unit):Prop:=(()=aMU a)
theorem f295.of (a:Unit) (h:f295.vc a):f295.tree a:=⟨(Eq.mp (congrArg (fun x:Unit=>DEqs [.nilm,.nilm,.nilm,.nilm,.nilm,.nilm,.nilm,.nilm,.nilm,.nilm,.nilm,.nilm,.nilm,.nilm,.nilm,.nilm,.nilm] [.nilm,.nilm,.nilm,.nilm,.nilm,.nilm,.nilm,.nilm,.nilm,.nilm,.nilm,.nilm,.nilm,.nilm,.nilm,.nilm,.nilm]) h) (DEqs.refl _)),trivial⟩
theorem f295.eq (a:Unit):(f295.af a).gives f295.env (f295.args a) (f295.blks a) (f295.res a) (f295.blks' a)=f295.tree a:=by kernel_rfl
def f300.args (a:(Ob Int)×ByteArray):List D:=[.ptr 0 0,.str a.2]
def f300.blks (a:(Ob Int)×ByteArray):List (List D):=[[.dead,.obj 17 0 1 a.1.nl a.1.n a.1.ks (ovs aJ a.1)]]
def f300.res (a:(Ob Int)×ByteArray):List D:=[.int .i64 ((atW a).1),.bool ((atW a).2.1)]
def f300.blks' (a:(Ob Int)×ByteArray):List (List D):=[[.dead,.obj 17 0 1 ((atW a).2.2).nl ((atW a).2.2).n ((atW a).2.2).ks (ovs aJ ((atW a).2.2))]]
def f300.C:aO:=FnC f300.args f300.blks (fun _=>True) f300.res f300.blks'
def f300.kills (a:(Ob Int)×ByteArray):List Hint:=[]
def f300.cuts (a:(Ob Int)×ByteArray):List (Nat×Σ β:Type,β→Tm):=[]
def f300.af (a:(Ob Int)×ByteArray):AF:=AF.mk (.seq (.region [⟨(some 4),1,.move,[.c (.int .i64 (0))],none⟩,
 ⟨(some 5),2,.move,[.c (.bool false)],none⟩])
 (.seq (.seq (.region [mT 8 3 0,
 oT 9 4 (.isNil true false) [8]])
 (.cond (.t 9) (.seq (.region [⟨(some 4),5,.move,[.c (.int .i64 (0))],none⟩,
 ⟨(some 5),6,.move,[.c (.bool false)],none⟩])
 (.ret)) (.skip)))
 (.seq (.region [mT 11 7 0,
 oT 12 8 .nilCheck [11],
 oT 13 9 (.fieldAddr 0) [12],
 oT 14 10 (.load false 1) [13],
 mT 15 11 1,
 oT 16 12 (.mapGet true false [.int .i64 (0)]) [14,15],
 mT 10 13 16,
 oT 17 14 (.extract 0) [10],
 oT 18 15 (.extract 1) [10],
 mT 6 16 17,
 mT 7 17 18])
 (.seq (.region [mT 19 18 6,
 mT 20 19 7,
 mT 4 20 19,
 mT 5 21 20])
 (.ret)))))
 [.tmp 4,.tmp 5] 1 19
def f300.env:Env:=[]
def f300.tree (a:(Ob Int)×ByteArray):Prop:=Br (l5 a.1 0 (a.1.nl 0) a.2) (((oat a.1 a.2)=((atW a).1))∧(true=((atW a).2.1))∧ObQ 0 0 a.1.nl ((atW a).2.2).nl a.1.n ((atW a).2.2).n a.1.ks ((atW a).2.2).ks (ovs aJ a.1) (ovs aJ ((atW a).2.2)) (True)) (((0:Int)=((atW a).1))∧(false=((atW a).2.1))∧ObQ 0 0 a.1.nl ((atW a).2.2).nl a.1.n ((atW a).2.2).n a.1.ks ((atW a).2.2).ks (ovs aJ a.1) (ovs aJ ((atW a).2.2)) (True))
def f300.vc (a:(Ob Int)×ByteArray):Prop:=((l5 a.1 0 (a.1.nl 0) a.2=true→((oat a.1 a.2,true,a.1)=atW a))∧(¬(l5 a.1 0 (a.1.nl 0) a.2=true)→(((0:Int),false,a.1)=atW a)))
theorem f300.of (a:(Ob Int)×ByteArray) (h:f300.vc a):f300.tree a:=br h Cnd.b (fun h1 k5=>⟨(congrArg (fun x:Int×Bool×(Ob Int)=>x.1) k5 :),⟨(congrArg (fun x:Int×Bool×(Ob Int)=>x.2.1) k5 :),obQ rfl (OV.self (e:=aJ)) (congrArg (fun x:Int×Bool×(Ob Int)=>x.2.2) k5 :) (trivial)⟩⟩) (fun h2 k6=>⟨(congrArg (fun x:Int×Bool×(Ob Int)=>x.1) k6 :),⟨(congrArg (fun x:Int×Bool×(Ob Int)=>x.2.1) k6 :),obQ rfl (OV.self (e:=aJ)) (congrArg (fun x:Int×Bool×(Ob Int)=>x.2.2) k6 :) (trivial)⟩⟩)
theorem f300.eq (a:(Ob Int)×ByteArray):(f300.af a).gives f300.env (f300.args a) (f300.blks a) (f300.res a) (f300.blks' a)=f300.tree a:=by kernel_rfl
def f298.args (a:(Ob Int)×ByteArray):List D:=[.ptr 0 0,.str a.2]
def f298.blks (a:(Ob Int)×ByteArray):List (List D):=[[.dead,.obj 17 0 1 a.1.nl a.1.n a.1.ks (ovs aJ a.1)]]
def f298.res (a:(Ob Int)×ByteArray):List D:=[.bool ((delW a).1)]
def f298.blks' (a:(Ob Int)×ByteArray):List (List D):=[[.dead,.obj 17 0 1 ((delW a).2).nl ((delW a).2).n ((delW a).2).ks (ovs aJ ((delW a).2))]]
def f298.C:aO:=FnC f298.args f298.blks (fun _=>True) f298.res f298.blks'
def f298.kills (a:(Ob Int)×ByteArray):List Hint:=[]
def f298.cuts (a:(Ob Int)×ByteArray):List (Nat×Σ β:Type,β→Tm):=[]
def f298.af (a:(Ob Int)×ByteArray):AF:=AF.mk (.seq (.region [⟨(some 4),1,.move,[.c (.bool false)],none⟩])
 (.seq (.region [mT 8 2 0,
 mT 9 3 1,
 oT 10 4 (.call true 300) [8,9],
 mT 7 8 10,
 oT 11 9 (.extract 0) [7],
 oT 12 10 (.extract 1) [7],
 mT 5 11 11,
 mT 6 12 12])
 (.seq (.seq (.region [mT 13 13 6])
 (.cond (.t 13) (.seq (.region [mT 14 14 0,
 oT 15 15 .nilCheck [14],
 oT 16 16 (.fieldAddr 0) [15],
 oT 17 17 (.load false 1) [16],
 mT 18 18 1,
 ⟨none,19,.mapDel,[.t 17,.t 18],none⟩])
 (.region [mT 19 20 0,
 mT 20 21 5,
 oT 21 22 (.call false 328) [20],
 oT 22 26 .nilCheck [19],
 oT 23 27 (.fieldAddr 1) [22],
 oT 24 28 (.indexAddr 1 (some 16)) [23,21],
 oT 25 29 (.load false 1) [24],
 mT 26 30 1,
 ⟨none,31,.mapDel,[.t 25,.t 26],none⟩])) (.skip)))
 (.seq (.region [mT 27 32 6,
 mT 4 33 27])
 (.ret)))))
 [.tmp 4] 1 26
def f298.env:Env:=[(300,f300.C),(328,f328.C)]
def f298.tree (a:(Ob Int)×ByteArray):Prop:=∃ c1:(Ob Int)×ByteArray,(a.2=c1.2)∧ObQ 0 0 a.1.nl c1.1.nl a.1.n c1.1.n a.1.ks c1.1.ks (ovs aJ a.1) (ovs aJ c1.1) (True∧Br ((atW c1).2.1) (∃ c4:Int,(((atW c1).1)=c4)∧True∧Br (decide ((0:Int)≤(aE c4))&&decide ((aE c4) < (16:Int))) (Br (Nat.ble ((1+Int.toNat (aE c4) * 1)+1) 17) (Br (Nat.blt (1+Int.toNat (aE c4) * 1) 17) ((((atW c1).2.1)=((delW a).1))∧ObQ 0 0 (fV (fV ((atW c1).2.2) 0 (((atW c1).2.2).nl 0) a.2) (1+Int.toNat (aE c4) * 1) ((fV ((atW c1).2.2) 0 (((atW c1).2.2).nl 0) a.2).nl (1+Int.toNat (aE c4) * 1)) a.2).nl ((delW a).2).nl (fV (fV ((atW c1).2.2) 0 (((atW c1).2.2).nl 0) a.2) (1+Int.toNat (aE c4) * 1) ((fV ((atW c1).2.2) 0 (((atW c1).2.2).nl 0) a.2).nl (1+Int.toNat (aE c4) * 1)) a.2).n ((delW a).2).n (fV (fV ((atW c1).2.2) 0 (((atW c1).2.2).nl 0) a.2) (1+Int.toNat (aE c4) * 1) ((fV ((atW c1).2.2) 0 (((atW c1).2.2).nl 0) a.2).nl (1+Int.toNat (aE c4) * 1)) a.2).ks ((delW a).2).ks (bif ((fV ((atW c1).2.2) 0 (((atW c1).2.2).nl 0) a.2).nl (1+Int.toNat (aE c4) * 1)) then (bif (((atW c1).2.2).nl 0) then (ovs aJ ((atW c1).2.2)) else cC (ovs aJ ((atW c1).2.2)) 0 (d5 ((ovs aJ ((atW c1).2.2)) 0) (mpF (((atW c1).2.2).ks 0) a.2 (((atW c1).2.2).n 0)))) else cC (bif (((atW c1).2.2).nl 0) then (ovs aJ ((atW c1).2.2)) else cC (ovs aJ ((atW c1).2.2)) 0 (d5 ((ovs aJ ((atW c1).2.2)) 0) (mpF (((atW c1).2.2).ks 0) a.2 (((atW c1).2.2).n 0)))) (1+Int.toNat (aE c4) * 1) (d5 ((bif (((atW c1).2.2).nl 0) then (ovs aJ ((atW c1).2.2)) else cC (ovs aJ ((atW c1).2.2)) 0 (d5 ((ovs aJ ((atW c1).2.2)) 0) (mpF (((atW c1).2.2).ks 0) a.2 (((atW c1).2.2).n 0)))) (1+Int.toNat (aE c4) * 1)) (mpF ((fV ((atW c1).2.2) 0 (((atW c1).2.2).nl 0) a.2).ks (1+Int.toNat (aE c4) * 1)) a.2 ((fV ((atW c1).2.2) 0 (((atW c1).2.2).nl 0) a.2).n (1+Int.toNat (aE c4) * 1))))) (ovs aJ ((delW a).2)) (True)) False) False) False) ((((atW c1).2.1)=((delW a).1))∧ObQ 0 0 ((atW c1).2.2).nl ((delW a).2).nl ((atW c1).2.2).n ((delW a).2).n ((atW c1).2.2).ks ((delW a).2).ks (ovs aJ ((atW c1).2.2)) (ovs aJ ((delW a).2)) (True)))
def f298.vc (a:(Ob Int)×ByteArray):Prop:=((((atW (a.1,a.2)).2.1)=true→((0:Int)≤(aE ((atW (a.1,a.2)).1))∧(aE ((atW (a.1,a.2)).1)) < (16:Int)∧(((1+Int.toNat (aE ((atW (a.1,a.2)).1)) * 1)+1≤17)∧(((1+Int.toNat (aE ((atW (a.1,a.2)).1)) * 1) < 17)∧(((atW (a.1,a.2)).2.1,fV (fV ((atW (a.1,a.2)).2.2) 0 (((atW (a.1,a.2)).2.2).nl 0) a.2) (1+Int.toNat (aE ((atW (a.1,a.2)).1)) * 1) ((fV ((atW (a.1,a.2)).2.2) 0 (((atW (a.1,a.2)).2.2).nl 0) a.2).nl (1+Int.toNat (aE ((atW (a.1,a.2)).1)) * 1)) a.2)=delW a)))))∧(¬(((atW (a.1,a.2)).2.1)=true)→(((atW (a.1,a.2)).2.1,(atW (a.1,a.2)).2.2)=delW a)))
theorem f298.of (a:(Ob Int)×ByteArray) (h:f298.vc a):f298.tree a:=⟨(a.1,a.2),⟨rfl,obQ rfl (OV.self (e:=aJ)) rfl (⟨trivial,br h Cnd.b (fun h2 k14=>⟨(atW (a.1,a.2)).1,⟨rfl,⟨trivial,chk k14.2.2 Cnd.ix ⟨k14.1,k14.2.1⟩ (fun h5 k11=>chk k11.2 Cnd.ble k11.1 (fun h6 k10=>chk k10.2 Cnd.blt k10.1 (fun h7 k9=>⟨(congrArg (fun x:Bool×(Ob Int)=>x.1) k9 :),obQ rfl (OV.del (OV.del (OV.self (e:=aJ)))) (congrArg (fun x:Bool×(Ob Int)=>x.2) k9 :) (trivial)⟩)))⟩⟩⟩) (fun h3 k15=>⟨(congrArg (fun x:Bool×(Ob Int)=>x.1) k15 :),obQ rfl (OV.self (e:=aJ)) (congrArg (fun x:Bool×(Ob Int)=>x.2) k15 :) (trivial)⟩)⟩)⟩⟩
theorem f298.eq (a:(Ob Int)×ByteArray):(f298.af a).gives f298.env (f298.args a) (f298.blks a) (f298.res a) (f298.blks' a)=f298.tree a:=by kernel_rfl
def f296.args (a:(Ob Int)×ByteArray×Int):List D:=[.ptr 0 0,.str a.2.1,.int .i64 a.2.2]
def f296.blks (a:(Ob Int)×ByteArray×Int):List (List D):=[[.dead,.obj 17 0 1 a.1.nl a.1.n a.1.ks (ovs aJ a.1)]]
def f296.res (a:(Ob Int)×ByteArray×Int):List D:=[]
def f296.blks' (a:(Ob Int)×ByteArray×Int):List (List D):=[[.dead,.obj 17 0 1 (setW a).nl (setW a).n (setW a).ks (ovs aJ (setW a))]]
def f296.C:aO:=FnC f296.args f296.blks (fun _=>True) f296.res f296.blks'
def f296.kills (a:(Ob Int)×ByteArray×Int):List Hint:=[]
def f296.cuts (a:(Ob Int)×ByteArray×Int):List (Nat×Σ β:Type,β→Tm):=[]
def f296.af (a:(Ob Int)×ByteArray×Int):AF:=AF.mk (.seq (.seq (.region [mT 7 1 0,
 oT 8 2 (.isNil true false) [7]])
 (.cond (.t 8) (.ret) (.skip)))
 (.seq (.region [mT 9 3 0,
 mT 10 4 1,
 oT 11 5 (.call true 298) [9,10]])
 (.seq (.seq (.region [mT 12 9 0,
 oT 13 10 .nilCheck [12],
 oT 14 11 (.fieldAddr 0) [13],
 oT 15 12 (.load false 1) [14],
 oT 16 13 (.isNilM false) [15]])
 (.cond (.t 16) (.region [mT 17 14 0,
 oT 18 15 (.mkMap false false) [],
 oT 19 16 .nilCheck [17],
 oT 20 17 (.fieldAddr 0) [19],
 ⟨none,18,(.store 1),[.t 20,.t 18],none⟩]) (.skip)))
 (.seq (.region [mT 21 19 0,
 oT 22 20 .nilCheck [21],
 oT 23 21 (.fieldAddr 0) [22],
 oT 24 22 (.load false 1) [23],
 mT 25 23 1,
 mT 26 24 2,
 ⟨none,25,.mapSet,[.t 24,.t 25,.t 26],none⟩])
 (.seq (.region [mT 27 26 2,
 oT 28 27 (.call false 328) [27],
 mT 6 31 28])
 (.seq (.seq (.region [mT 29 32 0,
 mT 30 33 6,
 oT 31 34 .nilCheck [29],
 oT 32 35 (.fieldAddr 1) [31],
 oT 33 36 (.indexAddr 1 (some 16)) [32,30],
 oT 34 37 (.load false 1) [33],
 oT 35 38 (.isNilM false) [34]])
 (.cond (.t 35) (.region [mT 36 39 0,
 mT 37 40 6,
 oT 38 41 (.mkMap true false) [],
 oT 39 42 .nilCheck [36],
 oT 40 43 (.fieldAddr 1) [39],
 oT 41 44 (.indexAddr 1 (some 16)) [40,37],
 ⟨none,45,(.store 1),[.t 41,.t 38],none⟩]) (.skip)))
 (.region [mT 42 46 0,
 mT 43 47 6,
 oT 44 48 .nilCheck [42],
 oT 45 49 (.fieldAddr 1) [44],
 oT 46 50 (.indexAddr 1 (some 16)) [45,43],
 oT 47 51 (.load false 1) [46],
 mT 48 52 1,
 oT 49 53 (.build [] []) [],
 ⟨none,54,.mapSet,[.t 47,.t 48,.t 49],none⟩])))))))
 [] 1 47
def f296.env:Env:=[(298,f298.C),(328,f328.C)]
def f296.tree (a:(Ob Int)×ByteArray×Int):Prop:=∃ c1:(Ob Int)×ByteArray,(a.2.1=c1.2)∧ObQ 0 0 a.1.nl c1.1.nl a.1.n c1.1.n a.1.ks c1.1.ks (ovs aJ a.1) (ovs aJ c1.1) (True∧Br (((delW c1).2).nl 0) (Br (Nat.blt 0 17&&((delW c1).2).nl 0&&eqBB false (Nat.ble 1 0)) (Br (!((omk ((delW c1).2) 0).nl 0)&&Nat.blt 0 17&&eqBB false (Nat.ble 1 0)) (∃ c6:Int,(a.2.2=c6)∧True∧Br (decide ((0:Int)≤(aE c6))&&decide ((aE c6) < (16:Int))) (Br (Nat.ble ((1+Int.toNat (aE c6) * 1)+1) 17) (Br ((bN (omk ((delW c1).2) 0) a.2.1 a.2.2).nl (1+Int.toNat (aE c6) * 1)) (Br (decide ((0:Int)≤(aE c6))&&decide ((aE c6) < (16:Int))) (Br (Nat.blt (1+Int.toNat (aE c6) * 1) 17&&(bN (omk ((delW c1).2) 0) a.2.1 a.2.2).nl (1+Int.toNat (aE c6) * 1)&&eqBB true (Nat.ble 1 (1+Int.toNat (aE c6) * 1))) (Br (decide ((0:Int)≤(aE c6))&&decide ((aE c6) < (16:Int))) (Br (Nat.ble ((1+Int.toNat (aE c6) * 1)+1) 17) (Br (!((omk (bN (omk ((delW c1).2) 0) a.2.1 a.2.2) (1+Int.toNat (aE c6) * 1)).nl (1+Int.toNat (aE c6) * 1))&&Nat.blt (1+Int.toNat (aE c6) * 1) 17&&eqBB true (Nat.ble 1 (1+Int.toNat (aE c6) * 1))) (ObQ 0 0 (dN (omk (bN (omk ((delW c1).2) 0) a.2.1 a.2.2) (1+Int.toNat (aE c6) * 1)) (1+Int.toNat (aE c6) * 1) a.2.1).nl (setW a).nl (dN (omk (bN (omk ((delW c1).2) 0) a.2.1 a.2.2) (1+Int.toNat (aE c6) * 1)) (1+Int.toNat (aE c6) * 1) a.2.1).n (setW a).n (dN (omk (bN (omk ((delW c1).2) 0) a.2.1 a.2.2) (1+Int.toNat (aE c6) * 1)) (1+Int.toNat (aE c6) * 1) a.2.1).ks (setW a).ks (cC (cC (ovs aJ ((delW c1).2)) 0 (eN ((omk ((delW c1).2) 0).ks 0) ((ovs aJ ((delW c1).2)) 0) a.2.1 [.int .i64 a.2.2] ((omk ((delW c1).2) 0).n 0))) (1+Int.toNat (aE c6) * 1) (eN ((omk (bN (omk ((delW c1).2) 0) a.2.1 a.2.2) (1+Int.toNat (aE c6) * 1)).ks (1+Int.toNat (aE c6) * 1)) ((cC (ovs aJ ((delW c1).2)) 0 (eN ((omk ((delW c1).2) 0).ks 0) ((ovs aJ ((delW c1).2)) 0) a.2.1 [.int .i64 a.2.2] ((omk ((delW c1).2) 0).n 0))) (1+Int.toNat (aE c6) * 1)) a.2.1 [] ((omk (bN (omk ((delW c1).2) 0) a.2.1 a.2.2) (1+Int.toNat (aE c6) * 1)).n (1+Int.toNat (aE c6) * 1)))) (ovs aJ (setW a)) (True)) False) False) False) False) False) (Br (decide ((0:Int)≤(aE c6))&&decide ((aE c6) < (16:Int))) (Br (Nat.ble ((1+Int.toNat (aE c6) * 1)+1) 17) (Br (!((bN (omk ((delW c1).2) 0) a.2.1 a.2.2).nl (1+Int.toNat (aE c6) * 1))&&Nat.blt (1+Int.toNat (aE c6) * 1) 17&&eqBB true (Nat.ble 1 (1+Int.toNat (aE c6) * 1))) (ObQ 0 0 (dN (bN (omk ((delW c1).2) 0) a.2.1 a.2.2) (1+Int.toNat (aE c6) * 1) a.2.1).nl (setW a).nl (dN (bN (omk ((delW c1).2) 0) a.2.1 a.2.2) (1+Int.toNat (aE c6) * 1) a.2.1).n (setW a).n (dN (bN (omk ((delW c1).2) 0) a.2.1 a.2.2) (1+Int.toNat (aE c6) * 1) a.2.1).ks (setW a).ks (cC (cC (ovs aJ ((delW c1).2)) 0 (eN ((omk ((delW c1).2) 0).ks 0) ((ovs aJ ((delW c1).2)) 0) a.2.1 [.int .i64 a.2.2] ((omk ((delW c1).2) 0).n 0))) (1+Int.toNat (aE c6) * 1) (eN ((bN (omk ((delW c1).2) 0) a.2.1 a.2.2).ks (1+Int.toNat (aE c6) * 1)) ((cC (ovs aJ ((delW c1).2)) 0 (eN ((omk ((delW c1).2) 0).ks 0) ((ovs aJ ((delW c1).2)) 0) a.2.1 [.int .i64 a.2.2] ((omk ((delW c1).2) 0).n 0))) (1+Int.toNat (aE c6) * 1)) a.2.1 [] ((bN (omk ((delW c1).2) 0) a.2.1 a.2.2).n (1+Int.toNat (aE c6) * 1)))) (ovs aJ (setW a)) (True)) False) False) False)) False) False) False) False) (Br (!(((delW c1).2).nl 0)&&Nat.blt 0 17&&eqBB false (Nat.ble 1 0)) (∃ c37:Int,(a.2.2=c37)∧True∧Br (decide ((0:Int)≤(aE c37))&&decide ((aE c37) < (16:Int))) (Br (Nat.ble ((1+Int.toNat (aE c37) * 1)+1) 17) (Br ((bN ((delW c1).2) a.2.1 a.2.2).nl (1+Int.toNat (aE c37) * 1)) (Br (decide ((0:Int)≤(aE c37))&&decide ((aE c37) < (16:Int))) (Br (Nat.blt (1+Int.toNat (aE c37) * 1) 17&&(bN ((delW c1).2) a.2.1 a.2.2).nl (1+Int.toNat (aE c37) * 1)&&eqBB true (Nat.ble 1 (1+Int.toNat (aE c37) * 1))) (Br (decide ((0:Int)≤(aE c37))&&decide ((aE c37) < (16:Int))) (Br (Nat.ble ((1+Int.toNat (aE c37) * 1)+1) 17) (Br (!((omk (bN ((delW c1).2) a.2.1 a.2.2) (1+Int.toNat (aE c37) * 1)).nl (1+Int.toNat (aE c37) * 1))&&Nat.blt (1+Int.toNat (aE c37) * 1) 17&&eqBB true (Nat.ble 1 (1+Int.toNat (aE c37) * 1))) (ObQ 0 0 (dN (omk (bN ((delW c1).2) a.2.1 a.2.2) (1+Int.toNat (aE c37) * 1)) (1+Int.toNat (aE c37) * 1) a.2.1).nl (setW a).nl (dN (omk (bN ((delW c1).2) a.2.1 a.2.2) (1+Int.toNat (aE c37) * 1)) (1+Int.toNat (aE c37) * 1) a.2.1).n (setW a).n (dN (omk (bN ((delW c1).2) a.2.1 a.2.2) (1+Int.toNat (aE c37) * 1)) (1+Int.toNat (aE c37) * 1) a.2.1).ks (setW a).ks (cC (cC (ovs aJ ((delW c1).2)) 0 (eN (((delW c1).2).ks 0) ((ovs aJ ((delW c1).2)) 0) a.2.1 [.int .i64 a.2.2] (((delW c1).2).n 0))) (1+Int.toNat (aE c37) * 1) (eN ((omk (bN ((delW c1).2) a.2.1 a.2.2) (1+Int.toNat (aE c37) * 1)).ks (1+Int.toNat (aE c37) * 1)) ((cC (ovs aJ ((delW c1).2)) 0 (eN (((delW c1).2).ks 0) ((ovs aJ ((delW c1).2)) 0) a.2.1 [.int .i64 a.2.2] (((delW c1).2).n 0))) (1+Int.toNat (aE c37) * 1)) a.2.1 [] ((omk (bN ((delW c1).2) a.2.1 a.2.2) (1+Int.toNat (aE c37) * 1)).n (1+Int.toNat (aE c37) * 1)))) (ovs aJ (setW a)) (True)) False) False) False) False) False) (Br (decide ((0:Int)≤(aE c37))&&decide ((aE c37) < (16:Int))) (Br (Nat.ble ((1+Int.toNat (aE c37) * 1)+1) 17) (Br (!((bN ((delW c1).2) a.2.1 a.2.2).nl (1+Int.toNat (aE c37) * 1))&&Nat.blt (1+Int.toNat (aE c37) * 1) 17&&eqBB true (Nat.ble 1 (1+Int.toNat (aE c37) * 1))) (ObQ 0 0 (dN (bN ((delW c1).2) a.2.1 a.2.2) (1+Int.toNat (aE c37) * 1) a.2.1).nl (setW a).nl (dN (bN ((delW c1).2) a.2.1 a.2.2) (1+Int.toNat (aE c37) * 1) a.2.1).n (setW a).n (dN (bN ((delW c1).2) a.2.1 a.2.2) (1+Int.toNat (aE c37) * 1) a.2.1).ks (setW a).ks (cC (cC (ovs aJ ((delW c1).2)) 0 (eN (((delW c1).2).ks 0) ((ovs aJ ((delW c1).2)) 0) a.2.1 [.int .i64 a.2.2] (((delW c1).2).n 0))) (1+Int.toNat (aE c37) * 1) (eN ((bN ((delW c1).2) a.2.1 a.2.2).ks (1+Int.toNat (aE c37) * 1)) ((cC (ovs aJ ((delW c1).2)) 0 (eN (((delW c1).2).ks 0) ((ovs aJ ((delW c1).2)) 0) a.2.1 [.int .i64 a.2.2] (((delW c1).2).n 0))) (1+Int.toNat (aE c37) * 1)) a.2.1 [] ((bN ((delW c1).2) a.2.1 a.2.2).n (1+Int.toNat (aE c37) * 1)))) (ovs aJ (setW a)) (True)) False) False) False)) False) False) False))
def f296.vc (a:(Ob Int)×ByteArray×Int):Prop:=(((((delW (a.1,a.2.1)).2).nl 0)=true→((0 < 17∧((delW (a.1,a.2.1)).2).nl 0=true∧(false=true↔1≤0))∧((((omk ((delW (a.1,a.2.1)).2) 0).nl 0)=false∧0 < 17∧(false=true↔1≤0))∧((0:Int)≤(aE (a.2.2))∧(aE (a.2.2)) < (16:Int)∧(((1+Int.toNat (aE (a.2.2)) * 1)+1≤17)∧((((bN (omk ((delW (a.1,a.2.1)).2) 0) a.2.1 a.2.2).nl (1+Int.toNat (aE (a.2.2)) * 1))=true→((0:Int)≤(aE (a.2.2))∧(aE (a.2.2)) < (16:Int)∧(((1+Int.toNat (aE (a.2.2)) * 1) < 17∧(bN (omk ((delW (a.1,a.2.1)).2) 0) a.2.1 a.2.2).nl (1+Int.toNat (aE (a.2.2)) * 1)=true∧(true=true↔1≤(1+Int.toNat (aE (a.2.2)) * 1)))∧((0:Int)≤(aE (a.2.2))∧(aE (a.2.2)) < (16:Int)∧(((1+Int.toNat (aE (a.2.2)) * 1)+1≤17)∧((((omk (bN (omk ((delW (a.1,a.2.1)).2) 0) a.2.1 a.2.2) (1+Int.toNat (aE (a.2.2)) * 1)).nl (1+Int.toNat (aE (a.2.2)) * 1))=false∧(1+Int.toNat (aE (a.2.2)) * 1) < 17∧(true=true↔1≤(1+Int.toNat (aE (a.2.2)) * 1)))∧(dN (omk (bN (omk ((delW (a.1,a.2.1)).2) 0) a.2.1 a.2.2) (1+Int.toNat (aE (a.2.2)) * 1)) (1+Int.toNat (aE (a.2.2)) * 1) a.2.1=setW a)))))))∧(¬(((bN (omk ((delW (a.1,a.2.1)).2) 0) a.2.1 a.2.2).nl (1+Int.toNat (aE (a.2.2)) * 1))=true)→((0:Int)≤(aE (a.2.2))∧(aE (a.2.2)) < (16:Int)∧(((1+Int.toNat (aE (a.2.2)) * 1)+1≤17)∧((((bN (omk ((delW (a.1,a.2.1)).2) 0) a.2.1 a.2.2).nl (1+Int.toNat (aE (a.2.2)) * 1))=false∧(1+Int.toNat (aE (a.2.2)) * 1) < 17∧(true=true↔1≤(1+Int.toNat (aE (a.2.2)) * 1)))∧(dN (bN (omk ((delW (a.1,a.2.1)).2) 0) a.2.1 a.2.2) (1+Int.toNat (aE (a.2.2)) * 1) a.2.1=setW a)))))))))))∧(¬((((delW (a.1,a.2.1)).2).nl 0)=true)→(((((delW (a.1,a.2.1)).2).nl 0)=false∧0 < 17∧(false=true↔1≤0))∧((0:Int)≤(aE (a.2.2))∧(aE (a.2.2)) < (16:Int)∧(((1+Int.toNat (aE (a.2.2)) * 1)+1≤17)∧((((bN ((delW (a.1,a.2.1)).2) a.2.1 a.2.2).nl (1+Int.toNat (aE (a.2.2)) * 1))=true→((0:Int)≤(aE (a.2.2))∧(aE (a.2.2)) < (16:Int)∧(((1+Int.toNat (aE (a.2.2)) * 1) < 17∧(bN ((delW (a.1,a.2.1)).2) a.2.1 a.2.2).nl (1+Int.toNat (aE (a.2.2)) * 1)=true∧(true=true↔1≤(1+Int.toNat (aE (a.2.2)) * 1)))∧((0:Int)≤(aE (a.2.2))∧(aE (a.2.2)) < (16:Int)∧(((1+Int.toNat (aE (a.2.2)) * 1)+1≤17)∧((((omk (bN ((delW (a.1,a.2.1)).2) a.2.1 a.2.2) (1+Int.toNat (aE (a.2.2)) * 1)).nl (1+Int.toNat (aE (a.2.2)) * 1))=false∧(1+Int.toNat (aE (a.2.2)) * 1) < 17∧(true=true↔1≤(1+Int.toNat (aE (a.2.2)) * 1)))∧(dN (omk (bN ((delW (a.1,a.2.1)).2) a.2.1 a.2.2) (1+Int.toNat (aE (a.2.2)) * 1)) (1+Int.toNat (aE (a.2.2)) * 1) a.2.1=setW a)))))))∧(¬(((bN ((delW (a.1,a.2.1)).2) a.2.1 a.2.2).nl (1+Int.toNat (aE (a.2.2)) * 1))=true)→((0:Int)≤(aE (a.2.2))∧(aE (a.2.2)) < (16:Int)∧(((1+Int.toNat (aE (a.2.2)) * 1)+1≤17)∧((((bN ((delW (a.1,a.2.1)).2) a.2.1 a.2.2).nl (1+Int.toNat (aE (a.2.2)) * 1))=false∧(1+Int.toNat (aE (a.2.2)) * 1) < 17∧(true=true↔1≤(1+Int.toNat (aE (a.2.2)) * 1)))∧(dN (bN ((delW (a.1,a.2.1)).2) a.2.1 a.2.2) (1+Int.toNat (aE (a.2.2)) * 1) a.2.1=setW a)))))))))))
theorem f296.of (a:(Ob Int)×ByteArray×Int) (h:f296.vc a):f296.tree a:=⟨(a.1,a.2.1),⟨rfl,obQ rfl (OV.self (e:=aJ)) rfl (⟨trivial,br h Cnd.b (fun h2 k66=>chk k66.2 Cnd.ost k66.1 (fun h4 k35=>chk k35.2 Cnd.oset k35.1 (fun h5 k34=>⟨a.2.2,⟨rfl,⟨trivial,chk k34.2.2 Cnd.ix ⟨k34.1,k34.2.1⟩ (fun h7 k32=>chk k32.2 Cnd.ble k32.1 (fun h8 k31=>br k31 Cnd.b (fun h9 k29=>chk k29.2.2 Cnd.ix ⟨k29.1,k29.2.1⟩ (fun h11 k21=>chk k21.2 Cnd.ost k21.1 (fun h12 k20=>chk k20.2.2 Cnd.ix ⟨k20.1,k20.2.1⟩ (fun h13 k19=>chk k19.2 Cnd.ble k19.1 (fun h14 k18=>chk k18.2 Cnd.oset k18.1 (fun h15 k17=>obQ rfl (OV.setU (OV.mk (OV.setA (OV.mk (OV.self (e:=aJ)) 0) (DEqs.refl _)) (1+Int.toNat (aE (a.2.2)) * 1)) (by omega)) k17 (trivial))))))) (fun h10 k30=>chk k30.2.2 Cnd.ix ⟨k30.1,k30.2.1⟩ (fun h22 k28=>chk k28.2 Cnd.ble k28.1 (fun h23 k27=>chk k27.2 Cnd.oset k27.1 (fun h24 k26=>obQ rfl (OV.setU (OV.setA (OV.mk (OV.self (e:=aJ)) 0) (DEqs.refl _)) (by omega)) k26 (trivial)))))))⟩⟩⟩))) (fun h3 k67=>chk k67.2 Cnd.oset k67.1 (fun h36 k65=>⟨a.2.2,⟨rfl,⟨trivial,chk k65.2.2 Cnd.ix ⟨k65.1,k65.2.1⟩ (fun h38 k63=>chk k63.2 Cnd.ble k63.1 (fun h39 k62=>br k62 Cnd.b (fun h40 k60=>chk k60.2.2 Cnd.ix ⟨k60.1,k60.2.1⟩ (fun h42 k52=>chk k52.2 Cnd.ost k52.1 (fun h43 k51=>chk k51.2.2 Cnd.ix ⟨k51.1,k51.2.1⟩ (fun h44 k50=>chk k50.2 Cnd.ble k50.1 (fun h45 k49=>chk k49.2 Cnd.oset k49.1 (fun h46 k48=>obQ rfl (OV.setU (OV.mk (OV.setA (OV.self (e:=aJ)) (DEqs.refl _)) (1+Int.toNat (aE (a.2.2)) * 1)) (by omega)) k48 (trivial))))))) (fun h41 k61=>chk k61.2.2 Cnd.ix ⟨k61.1,k61.2.1⟩ (fun h53 k59=>chk k59.2 Cnd.ble k59.1 (fun h54 k58=>chk k58.2 Cnd.oset k58.1 (fun h55 k57=>obQ rfl (OV.setU (OV.setA (OV.self (e:=aJ)) (DEqs.refl _)) (by omega)) k57 (trivial)))))))⟩⟩⟩))⟩)⟩⟩
theorem f296.eq (a:(Ob Int)×ByteArray×Int):(f296.af a).gives f296.env (f296.args a) (f296.blks a) (f296.res a) (f296.blks' a)=f296.tree a:=by kernel_rfl
def f302.args (a:(Ob Int)×Int):List D:=[.ptr 0 0,.int .i64 a.2]
def f302.blks (a:(Ob Int)×Int):List (List D):=[[.dead,.obj 17 0 1 a.1.nl a.1.n a.1.ks (ovs aJ a.1)]]
def f302.res (a:(Ob Int)×Int):List D:=[.slice .ro 1 (((dU a).1).length) (gl aA ((dU a).1))]
def f302.blks' (a:(Ob Int)×Int):List (List D):=[[.dead,.obj 17 0 1 ((dU a).2).nl ((dU a).2).n ((dU a).2).ks (ovs aJ ((dU a).2))]]
def f302.C:aO:=FnC f302.args f302.blks (fun a=>f9 a) f302.res f302.blks'
def f302.S0 (a:(Ob Int)×Int) (x:Int×(List (ByteArray))):Tm:=⟨.ptr 0 0::.int .i64 a.2::.dead::.dead::.dead::.msl 1000005 1 x.2.length::dd 10 (.oagg 0 1 16 a.1.nl::.int .i64 x.1::dd 34 []),[(0,false,[.dead,.obj 17 0 1 a.1.nl a.1.n a.1.ks (ovs aJ a.1)]),(1000005,false,[.dead,.arr true 1 x.2.length (gl aA x.2)])],[]⟩
def f302.S1 (a:(Ob Int)×Int) (x:Int×(List (ByteArray))×(Nat×Bool×Nat×(Nat→Bool)×Option Nat)):Tm:=⟨.ptr 0 0::.int .i64 a.2::.dead::.dead::.dead::.msl 1000005 1 x.2.1.length::dd 10 (.oagg 0 1 16 a.1.nl::.int .i64 x.1::.dead::.dead::.dead::.ptr 1000015 0::dd 30 []),[(0,false,[.dead,.obj 17 0 1 a.1.nl a.1.n a.1.ks (ovs aJ a.1)]),(1000005,false,[.dead,.arr true 1 x.2.1.length (gl aA x.2.1)]),(1000015,false,[.dead,.mit 0 x.2.2.1 x.2.2.2.1 x.2.2.2.2.1 x.2.2.2.2.2.1 x.2.2.2.2.2.2])],[]⟩
def f302.S2 (a:(Ob Int)×Int) (x:(List (ByteArray))×(List (ByteArray))×Int×Int×(Nat×Ob Int)):Tm:=⟨.ptr 0 0::.dead::.dead::.dead::.dead::.slice .ro 1 x.1.length (gl aA x.1)::dd 35 (.slice .ro 1 x.2.1.length (gl aA x.2.1)::.int .i64 x.2.2.1::.int .i64 x.2.2.2.1::dd 8 []),[(0,false,[.dead,.obj 17 x.2.2.2.2.1 1 x.2.2.2.2.2.nl x.2.2.2.2.2.n x.2.2.2.2.2.ks (ovs aJ x.2.2.2.2.2)])],[]⟩
def f302.kills (a:(Ob Int)×Int):List Hint:=[.tell (Int×(List (ByteArray))) (f302.S0 a),
 .tell (Int×(List (ByteArray))×(Nat×Bool×Nat×(Nat→Bool)×Option Nat)) (f302.S1 a),
 .tell ((List (ByteArray))×(List (ByteArray))×Int×Int×(Nat×Ob Int)) (f302.S2 a)]
def f302.cuts (a:(Ob Int)×Int):List (Nat×Σ β:Type,β→Tm):=[(999999,⟨Unit,fun x=>⟨[],[],[]⟩⟩),
 (1000005000004,⟨Unit,fun x=>⟨[],[],[]⟩⟩),
 (2000005000016,⟨Unit,fun x=>⟨[],[],[]⟩⟩)]
def f302.af (a:(Ob Int)×Int):AF:=AF.mk (.seq (.region [oR 4 0 (.nilSl 1) []])
 (.seq (.seq (.region [mR 11 1 0,
 oR 12 2 (.isNil true false) [11]])
 (.cond (.t 12) (.seq (.region [oR 4 3 (.nilSl 1) []])
 (.ret)) (.skip)))
 (.seq (.region [oR 5 4 (.nilSl 1) []])
 (.seq (.thaw 1000005 5) (.seq (.seq (.region [mR 13 6 0,
 oR 14 7 .nilCheck [13],
 oR 15 8 (.fieldAddr 1) [14],
 oR 16 9 (.load true 16) [15],
 ⟨(some 17),1000010,.move,[.c (.int .i64 (0))],none⟩])
 (.block 0 (.loopT (Int×(List (ByteArray))) (f302.S0 a) 1000011 1000036 (.seq (.region [⟨(some 18),1000011,(.bin .lss),[.t 17,.c (.int .i64 (16))],none⟩])
 (.seq (.cond (.t 18) (.skip) (.exit 0))
 (.seq (.block 1 (.seq (.region [oR 19 12 (.indexArr false 1 16) [16,17],
 mR 7 13 19])
 (.seq (.region [mR 20 14 7,
 oR 21 15 .mapWalk [20]])
 (.block 2 (.loopT (Int×(List (ByteArray))×(Nat×Bool×Nat×(Nat→Bool)×Option Nat)) (f302.S1 a) 1000016 1000034 (.seq (.region [oR 22 16 .mapNext [21],
 oR 23 17 (.extract 0) [22]])
 (.seq (.cond (.t 23) (.skip) (.exit 2))
 (.block 3 (.seq (.region [oR 24 18 .mapEntry [21],
 oR 25 19 (.extract 0) [24],
 mR 8 20 25])
 (.seq (.region [mR 26 21 0,
 oR 27 22 .nilCheck [26],
 oR 28 23 (.fieldAddr 0) [27],
 oR 29 24 (.load false 1) [28],
 mR 30 25 8,
 oR 31 26 (.mapGet false false [.int .i64 (0)]) [29,30],
 mR 32 27 1,
 oR 33 28 (.bin .lss) [31,32]])
 (.cond (.t 33) (.region [mR 34 29 5,
 mR 35 30 8,
 oR 36 31 (.buildSlice 1 1 [.str ByteArray.empty] [(0,1)]) [35],
 oR 37 32 (.append 1 16) [34,36],
 mR 5 33 37]) (.skip))))))))))))
 (.region [⟨(some 38),1000034,(.bin .add),[.t 17,.c (.int .i64 (1))],none⟩,
 mR 17 35 38])))))))
 (.seq (.region [mR 39 36 5,
 oR 40 37 (.call true 167) [39]])
 (.seq (.frz 5) (.seq (.seq (.region [mR 41 41 5,
 oR 42 42 (.len false) [41],
 ⟨(some 43),1000043,.move,[.c (.int .i64 (0))],none⟩])
 (.block 4 (.loopT ((List (ByteArray))×(List (ByteArray))×Int×Int×(Nat×Ob Int)) (f302.S2 a) 1000044 1000056 (.seq (.region [oR 44 44 (.bin .lss) [43,42]])
 (.seq (.cond (.t 44) (.skip) (.exit 4))
 (.seq (.block 5 (.seq (.region [oR 45 45 (.indexAddr 1 none) [41,43],
 oR 46 46 (.load false 1) [45],
 mR 10 47 46])
 (.region [mR 47 48 0,
 mR 48 49 10,
 oR 49 50 (.call true 298) [47,48]])))
 (.region [⟨(some 50),1000054,(.bin .add),[.t 43,.c (.int .i64 (1))],none⟩,
 mR 43 55 50])))))))
 (.seq (.region [mR 51 56 5,
 mR 4 57 51])
 (.ret))))))))))
 [.tmp 4] 1 50
def f302.env:Env:=[(167,f167.C),(298,f298.C)]
def f302.tree (a:(Ob Int)×Int):Prop:=∃ (I2:(Int×(List (ByteArray)))→Prop) (μ3:(Int×(List (ByteArray)))→Nat),(∃ x1:Int×(List (ByteArray)),(a.2=a.2)∧(0=x1.2.length)∧(a.1.nl=a.1.nl)∧((0:Int)=x1.1)∧ObQ 0 0 a.1.nl a.1.nl a.1.n a.1.n a.1.ks a.1.ks (ovs aJ a.1) (ovs aJ a.1) (SlQ 0 x1.2.length kZ (gl aA x1.2) (I2 x1)))∧∀ y4:Int×(List (ByteArray)),I2 y4→(Br (decide (y4.1 < (16:Int))) (Br (decide ((0:Int)≤y4.1)&&decide (y4.1 < ((16:Nat):Int))&&Nat.ble 16 16) (Br (Nat.blt (1+Int.toNat y4.1) 17) (∃ (I10:(Int×(List (ByteArray))×(Nat×Bool×Nat×(Nat→Bool)×Option Nat))→Prop) (μ11:(Int×(List (ByteArray))×(Nat×Bool×Nat×(Nat→Bool)×Option Nat))→Nat),(∃ x9:Int×(List (ByteArray))×(Nat×Bool×Nat×(Nat→Bool)×Option Nat),(a.2=a.2)∧(y4.2.length=x9.2.1.length)∧(a.1.nl=a.1.nl)∧(y4.1=x9.1)∧ObQ 0 0 a.1.nl a.1.nl a.1.n a.1.n a.1.ks a.1.ks (ovs aJ a.1) (ovs aJ a.1) (SlQ y4.2.length x9.2.1.length (gl aA y4.2) (gl aA x9.2.1) (MtQ (1+Int.toNat y4.1) x9.2.2.1 (a.1.nl (1+Int.toNat y4.1)) x9.2.2.2.1 0 x9.2.2.2.2.1 (fun _=>false) x9.2.2.2.2.2.1 none x9.2.2.2.2.2.2 (I10 x9))))∧∀ y12:Int×(List (ByteArray))×(Nat×Bool×Nat×(Nat→Bool)×Option Nat),I10 y12→(0=y12.2.2.2.2.1∧y12.2.2.1 < 17∧((y12.2.2.2.1=true∨∀ x,x < a.1.n y12.2.2.1→y12.2.2.2.2.2.1 x=true)→(Let (wI (y12.1+(1:Int))) (fun v13:Int=>∃ x14:Int×(List (ByteArray)),(a.2=a.2)∧(y12.2.1.length=x14.2.length)∧(a.1.nl=a.1.nl)∧(v13=x14.1)∧ObQ 0 0 a.1.nl a.1.nl a.1.n a.1.n a.1.ks a.1.ks (ovs aJ a.1) (ovs aJ a.1) (SlQ y12.2.1.length x14.2.length (gl aA y12.2.1) (gl aA x14.2) (I2 x14∧μ3 x14 < μ3 y4)))))∧(y12.2.2.2.1=false→∀ x19:Nat,x19 < a.1.n y12.2.2.1→y12.2.2.2.2.2.1 x19=false→((0=y12.2.2.2.2.1∧y12.2.2.1 < 17∧x19 < a.1.n y12.2.2.1)∧(Br (l5 a.1 0 (a.1.nl 0) (a.1.ks y12.2.2.1 x19)) (Br (decide ((oat a.1 (a.1.ks y12.2.2.1 x19)) < a.2)) ((y12.2.1.length=y12.2.1.length∧vU ((y12.2.1.length+1) * 16))∧(∃ x31:Int×(List (ByteArray))×(Nat×Bool×Nat×(Nat→Bool)×Option Nat),(a.2=a.2)∧((y12.2.1.length+1)=x31.2.1.length)∧(a.1.nl=a.1.nl)∧(y12.1=x31.1)∧ObQ 0 0 a.1.nl a.1.nl a.1.n a.1.n a.1.ks a.1.ks (ovs aJ a.1) (ovs aJ a.1) (SlQ (y12.2.1.length+1) x31.2.1.length (jA (gl aA y12.2.1) y12.2.1.length (fun _=>[.str (a.1.ks y12.2.2.1 x19)])) (gl aA x31.2.1) (MtQ y12.2.2.1 x31.2.2.1 false x31.2.2.2.1 y12.2.2.2.2.1 x31.2.2.2.2.1 (fun y=>bif Nat.beq y x19 then true else y12.2.2.2.2.2.1 y) x31.2.2.2.2.2.1 (some x19) x31.2.2.2.2.2.2 (I10 x31∧μ11 x31 < μ11 y12))))) (∃ x33:Int×(List (ByteArray))×(Nat×Bool×Nat×(Nat→Bool)×Option Nat),(a.2=a.2)∧(y12.2.1.length=x33.2.1.length)∧(a.1.nl=a.1.nl)∧(y12.1=x33.1)∧ObQ 0 0 a.1.nl a.1.nl a.1.n a.1.n a.1.ks a.1.ks (ovs aJ a.1) (ovs aJ a.1) (SlQ y12.2.1.length x33.2.1.length (gl aA y12.2.1) (gl aA x33.2.1) (MtQ y12.2.2.1 x33.2.2.1 false x33.2.2.2.1 y12.2.2.2.2.1 x33.2.2.2.2.1 (fun y=>bif Nat.beq y x19 then true else y12.2.2.2.2.2.1 y) x33.2.2.2.2.2.1 (some x19) x33.2.2.2.2.2.2 (I10 x33∧μ11 x33 < μ11 y12))))) (Br (decide ((0:Int) < a.2)) ((y12.2.1.length=y12.2.1.length∧vU ((y12.2.1.length+1) * 16))∧(∃ x39:Int×(List (ByteArray))×(Nat×Bool×Nat×(Nat→Bool)×Option Nat),(a.2=a.2)∧((y12.2.1.length+1)=x39.2.1.length)∧(a.1.nl=a.1.nl)∧(y12.1=x39.1)∧ObQ 0 0 a.1.nl a.1.nl a.1.n a.1.n a.1.ks a.1.ks (ovs aJ a.1) (ovs aJ a.1) (SlQ (y12.2.1.length+1) x39.2.1.length (jA (gl aA y12.2.1) y12.2.1.length (fun _=>[.str (a.1.ks y12.2.2.1 x19)])) (gl aA x39.2.1) (MtQ y12.2.2.1 x39.2.2.1 false x39.2.2.2.1 y12.2.2.2.2.1 x39.2.2.2.2.1 (fun y=>bif Nat.beq y x19 then true else y12.2.2.2.2.2.1 y) x39.2.2.2.2.2.1 (some x19) x39.2.2.2.2.2.2 (I10 x39∧μ11 x39 < μ11 y12))))) (∃ x41:Int×(List (ByteArray))×(Nat×Bool×Nat×(Nat→Bool)×Option Nat),(a.2=a.2)∧(y12.2.1.length=x41.2.1.length)∧(a.1.nl=a.1.nl)∧(y12.1=x41.1)∧ObQ 0 0 a.1.nl a.1.nl a.1.n a.1.n a.1.ks a.1.ks (ovs aJ a.1) (ovs aJ a.1) (SlQ y12.2.1.length x41.2.1.length (gl aA y12.2.1) (gl aA x41.2.1) (MtQ y12.2.2.1 x41.2.2.1 false x41.2.2.2.1 y12.2.2.2.2.1 x41.2.2.2.2.1 (fun y=>bif Nat.beq y x19 then true else y12.2.2.2.2.2.1 y) x41.2.2.2.2.2.1 (some x19) x41.2.2.2.2.2.2 (I10 x41∧μ11 x41 < μ11 y12)))))))))) False) False) ((y4.2.length=y4.2.length)∧∃ c52:List (ByteArray),(y4.2.length=List.length c52)∧SlQ y4.2.length c52.length (gl aA y4.2) (gl aA c52) ((p0 c52)∧((List.length ((dD slt) c52))=y4.2.length)∧(∃ (I55:((List (ByteArray))×(List (ByteArray))×Int×Int×(Nat×Ob Int))→Prop) (μ56:((List (ByteArray))×(List (ByteArray))×Int×Int×(Nat×Ob Int))→Nat),(∃ x54:(List (ByteArray))×(List (ByteArray))×Int×Int×(Nat×Ob Int),SlQ (List.length ((dD slt) c52)) x54.1.length (gl aA ((dD slt) c52)) (gl aA x54.1) (SlQ (List.length ((dD slt) c52)) x54.2.1.length (gl aA ((dD slt) c52)) (gl aA x54.2.1) (((List.length ((dD slt) c52):Int)=x54.2.2.1)∧((0:Int)=x54.2.2.2.1)∧ObQ 0 x54.2.2.2.2.1 a.1.nl x54.2.2.2.2.2.nl a.1.n x54.2.2.2.2.2.n a.1.ks x54.2.2.2.2.2.ks (ovs aJ a.1) (ovs aJ x54.2.2.2.2.2) (I55 x54))))∧∀ y57:(List (ByteArray))×(List (ByteArray))×Int×Int×(Nat×Ob Int),I55 y57→(Br (decide (y57.2.2.2.1 < y57.2.2.1)) (Br (decide ((0:Int)≤y57.2.2.2.1)&&decide (y57.2.2.2.1 < (y57.2.1.length:Int))) (∃ c61:(Ob Int)×ByteArray,((at_ y57.2.1 y57.2.2.2.1)=c61.2)∧ObQ 0 0 y57.2.2.2.2.2.nl c61.1.nl y57.2.2.2.2.2.n c61.1.n y57.2.2.2.2.2.ks c61.1.ks (ovs aJ y57.2.2.2.2.2) (ovs aJ c61.1) (True∧Let (wI (y57.2.2.2.1+(1:Int))) (fun v62:Int=>∃ x63:(List (ByteArray))×(List (ByteArray))×Int×Int×(Nat×Ob Int),SlQ y57.1.length x63.1.length (gl aA y57.1) (gl aA x63.1) (SlQ y57.2.1.length x63.2.1.length (gl aA y57.2.1) (gl aA x63.2.1) ((y57.2.2.1=x63.2.2.1)∧(v62=x63.2.2.2.1)∧ObQ (y57.2.2.2.2.1+1) x63.2.2.2.2.1 ((delW c61).2).nl x63.2.2.2.2.2.nl ((delW c61).2).n x63.2.2.2.2.2.n ((delW c61).2).ks x63.2.2.2.2.2.ks (ovs aJ ((delW c61).2)) (ovs aJ x63.2.2.2.2.2) (I55 x63∧μ56 x63 < μ56 y57)))))) False) (SlQ y57.1.length (((dU a).1).length) (gl aA y57.1) (gl aA ((dU a).1)) (ObQ 0 0 y57.2.2.2.2.2.nl ((dU a).2).nl y57.2.2.2.2.2.n ((dU a).2).n y57.2.2.2.2.2.ks ((dU a).2).ks (ovs aJ y57.2.2.2.2.2) (ovs aJ ((dU a).2)) (True))))))))
def f302.vc (a:(Ob Int)×Int):Prop:=(∃ (I2:(Int×(List (ByteArray)))→Prop) (μ3:(Int×(List (ByteArray)))→Nat),I2 ((0:Int),[])∧∀ y4:Int×(List (ByteArray)),I2 y4→((y4.1 < (16:Int)→((0:Int)≤y4.1∧y4.1 < ((16:Nat):Int)∧(((1+Int.toNat y4.1) < 17)∧(∃ (I10:(Int×(List (ByteArray))×(Nat×Bool×Nat×(Nat→Bool)×Option Nat))→Prop) (μ11:(Int×(List (ByteArray))×(Nat×Bool×Nat×(Nat→Bool)×Option Nat))→Nat),I10 (y4.1,y4.2,(1+Int.toNat y4.1,a.1.nl (1+Int.toNat y4.1),0,fun _=>false,none))∧∀ y12:Int×(List (ByteArray))×(Nat×Bool×Nat×(Nat→Bool)×Option Nat),I10 y12→(0=y12.2.2.2.2.1∧y12.2.2.1 < 17∧((y12.2.2.2.1=true∨∀ x,x < a.1.n y12.2.2.1→y12.2.2.2.2.2.1 x=true)→(-9223372036854775808≤(y12.1+(1:Int))∧(y12.1+(1:Int))≤9223372036854775807∧(I2 ((y12.1+(1:Int)),y12.2.1)∧μ3 ((y12.1+(1:Int)),y12.2.1) < μ3 y4)))∧(y12.2.2.2.1=false→∀ x19:Nat,x19 < a.1.n y12.2.2.1→y12.2.2.2.2.2.1 x19=false→((l5 a.1 0 (a.1.nl 0) (a.1.ks y12.2.2.1 x19)=true→(((oat a.1 (a.1.ks y12.2.2.1 x19)) < a.2→(y12.2.1.length+1≤1073741824∧(I10 (y12.1,y12.2.1++([a.1.ks y12.2.2.1 x19]),(y12.2.2.1,false,y12.2.2.2.2.1,fun y=>bif Nat.beq y x19 then true else y12.2.2.2.2.2.1 y,some x19))∧μ11 (y12.1,y12.2.1++([a.1.ks y12.2.2.1 x19]),(y12.2.2.1,false,y12.2.2.2.2.1,fun y=>bif Nat.beq y x19 then true else y12.2.2.2.2.2.1 y,some x19)) < μ11 y12)))∧(¬((oat a.1 (a.1.ks y12.2.2.1 x19)) < a.2)→(I10 (y12.1,y12.2.1,(y12.2.2.1,false,y12.2.2.2.2.1,fun y=>bif Nat.beq y x19 then true else y12.2.2.2.2.2.1 y,some x19))∧μ11 (y12.1,y12.2.1,(y12.2.2.1,false,y12.2.2.2.2.1,fun y=>bif Nat.beq y x19 then true else y12.2.2.2.2.2.1 y,some x19)) < μ11 y12))))∧(¬(l5 a.1 0 (a.1.nl 0) (a.1.ks y12.2.2.1 x19)=true)→(((0:Int) < a.2→(y12.2.1.length+1≤1073741824∧(I10 (y12.1,y12.2.1++([a.1.ks y12.2.2.1 x19]),(y12.2.2.1,false,y12.2.2.2.2.1,fun y=>bif Nat.beq y x19 then true else y12.2.2.2.2.2.1 y,some x19))∧μ11 (y12.1,y12.2.1++([a.1.ks y12.2.2.1 x19]),(y12.2.2.1,false,y12.2.2.2.2.1,fun y=>bif Nat.beq y x19 then true else y12.2.2.2.2.2.1 y,some x19)) < μ11 y12)))∧(¬((0:Int) < a.2)→(I10 (y12.1,y12.2.1,(y12.2.2.1,false,y12.2.2.2.2.1,fun y=>bif Nat.beq y x19 then true else y12.2.2.2.2.2.1 y,some x19))∧μ11 (y12.1,y12.2.1,(y12.2.2.1,false,y12.2.2.2.2.1,fun y=>bif Nat.beq y x19 then true else y12.2.2.2.2.2.1 y,some x19)) < μ11 y12)))))))))))∧(¬(y4.1 < (16:Int))→(p0 y4.2∧((List.length ((dD slt) (y4.2)))=y4.2.length∧(∃ (I55:((List (ByteArray))×(List (ByteArray))×Int×Int×(Nat×Ob Int))→Prop) (μ56:((List (ByteArray))×(List (ByteArray))×Int×Int×(Nat×Ob Int))→Nat),I55 (((dD slt) (y4.2)),((dD slt) (y4.2)),(List.length ((dD slt) (y4.2)):Int),(0:Int),(0,a.1))∧∀ y57:(List (ByteArray))×(List (ByteArray))×Int×Int×(Nat×Ob Int),I55 y57→((y57.2.2.2.1 < y57.2.2.1→((0:Int)≤y57.2.2.2.1∧y57.2.2.2.1 < (y57.2.1.length:Int)∧(-9223372036854775808≤(y57.2.2.2.1+(1:Int))∧(y57.2.2.2.1+(1:Int))≤9223372036854775807∧(I55 (y57.1,y57.2.1,y57.2.2.1,(y57.2.2.2.1+(1:Int)),(y57.2.2.2.2.1+1,(delW (y57.2.2.2.2.2,at_ y57.2.1 y57.2.2.2.1)).2))∧μ56 (y57.1,y57.2.1,y57.2.2.1,(y57.2.2.2.1+(1:Int)),(y57.2.2.2.2.1+1,(delW (y57.2.2.2.2.2,at_ y57.2.1 y57.2.2.2.1)).2)) < μ56 y57))))∧(¬(y57.2.2.2.1 < y57.2.2.1)→((y57.1,y57.2.2.2.2.2)=dU a)))))))))
theorem f302.of (a:(Ob Int)×Int) (h:f302.vc a):f302.tree a:=Exists.elim h (fun I2 h79_=>Exists.elim h79_ (fun μ3 h79=>⟨I2,μ3,⟨((0:Int),[]),⟨rfl,⟨(bA kZ (Rds.nil (enc:=aA))),⟨rfl,⟨rfl,obQ rfl (OV.self (e:=aJ)) rfl (slQ (Rds.nil (enc:=aA)) (h79.1))⟩⟩⟩⟩⟩,fun y4 h81=>br (h79.2 y4 h81) Cnd.dec (fun h5 k77=>chk k77.2.2 Cnd.oix ⟨k77.1,k77.2.1,(by decide)⟩ (fun h7 k51=>chk k51.2 Cnd.blt k51.1 (fun h8 k50=>Exists.elim k50 (fun I10 h47_=>Exists.elim h47_ (fun μ11 h47=>⟨I10,μ11,⟨(y4.1,y4.2,(1+Int.toNat y4.1,a.1.nl (1+Int.toNat y4.1),0,fun _=>false,none)),⟨rfl,⟨(bA (gl aA y4.2) (rS aA)),⟨rfl,⟨rfl,obQ rfl (OV.self (e:=aJ)) rfl (slQ (rS aA) (mtQ  (h47.1)))⟩⟩⟩⟩⟩,fun y12 h49=>iH (h47.2 y12 h49) (fun (h20:0=y12.2.2.2.2.1) h25_=>iH h25_ (fun (h21:y12.2.2.1 < 17) h25=>⟨h20,h21,fun h26=>wrapK.i64 (h25.1 h26) (fun h16 h17 k18=>⟨((y12.1+(1:Int)),y12.2.1),⟨rfl,⟨(bA (gl aA y12.2.1) (rS aA)),⟨rfl,⟨rfl,obQ rfl (OV.self (e:=aJ)) rfl (slQ (rS aA) (k18))⟩⟩⟩⟩⟩),fun h24 x19 h22 h23=>⟨⟨h20,h21,h22⟩,br (h25.2 h24 x19 h22 h23) Cnd.b (fun h27 k45=>br k45 Cnd.dec (fun h29 k35=>⟨⟨rfl,aFV k35.1 (by decide)⟩,⟨(y12.1,y12.2.1++([a.1.ks y12.2.2.1 x19]),(y12.2.2.1,false,y12.2.2.2.2.1,fun y=>bif Nat.beq y x19 then true else y12.2.2.2.2.2.1 y,some x19)),⟨rfl,⟨(bA (jA (gl aA y12.2.1) y12.2.1.length (fun _=>[.str (a.1.ks y12.2.2.1 x19)])) (Rds.app (enc:=aA) (rS aA) (Rds.one (enc:=aA) (DEqs.refl _)))),⟨rfl,⟨rfl,obQ rfl (OV.self (e:=aJ)) rfl (slQ (Rds.app (enc:=aA) (rS aA) (Rds.one (enc:=aA) (DEqs.refl _))) (mtQ  (k35.2)))⟩⟩⟩⟩⟩⟩) (fun h30 k36=>⟨(y12.1,y12.2.1,(y12.2.2.1,false,y12.2.2.2.2.1,fun y=>bif Nat.beq y x19 then true else y12.2.2.2.2.2.1 y,some x19)),⟨rfl,⟨(bA (gl aA y12.2.1) (rS aA)),⟨rfl,⟨rfl,obQ rfl (OV.self (e:=aJ)) rfl (slQ (rS aA) (mtQ  (k36)))⟩⟩⟩⟩⟩)) (fun h28 k46=>br k46 Cnd.dec (fun h37 k43=>⟨⟨rfl,aFV k43.1 (by decide)⟩,⟨(y12.1,y12.2.1++([a.1.ks y12.2.2.1 x19]),(y12.2.2.1,false,y12.2.2.2.2.1,fun y=>bif Nat.beq y x19 then true else y12.2.2.2.2.2.1 y,some x19)),⟨rfl,⟨(bA (jA (gl aA y12.2.1) y12.2.1.length (fun _=>[.str (a.1.ks y12.2.2.1 x19)])) (Rds.app (enc:=aA) (rS aA) (Rds.one (enc:=aA) (DEqs.refl _)))),⟨rfl,⟨rfl,obQ rfl (OV.self (e:=aJ)) rfl (slQ (Rds.app (enc:=aA) (rS aA) (Rds.one (enc:=aA) (DEqs.refl _))) (mtQ  (k43.2)))⟩⟩⟩⟩⟩⟩) (fun h38 k44=>⟨(y12.1,y12.2.1,(y12.2.2.1,false,y12.2.2.2.2.1,fun y=>bif Nat.beq y x19 then true else y12.2.2.2.2.2.1 y,some x19)),⟨rfl,⟨(bA (gl aA y12.2.1) (rS aA)),⟨rfl,⟨rfl,obQ rfl (OV.self (e:=aJ)) rfl (slQ (rS aA) (mtQ  (k44)))⟩⟩⟩⟩⟩))⟩⟩))⟩))))) (fun h6 k78=>⟨rfl,⟨y4.2,⟨(bA (gl aA y4.2) (rS aA)),slQ (rS aA) (⟨k78.1,iH k78.2 (fun (h53:(List.length ((dD slt) (y4.2)))=y4.2.length) hk=>⟨h53,Exists.elim hk (fun I55 h73_=>Exists.elim h73_ (fun μ56 h73=>⟨I55,μ56,⟨(((dD slt) (y4.2)),((dD slt) (y4.2)),(List.length ((dD slt) (y4.2)):Int),(0:Int),(0,a.1)),slQ (rS aA) (slQ (rS aA) (⟨rfl,⟨rfl,obQ rfl (OV.self (e:=aJ)) rfl (h73.1)⟩⟩))⟩,fun y57 h75=>br (h73.2 y57 h75) Cnd.dec (fun h58 k71=>chk k71.2.2 Cnd.ix ⟨k71.1,k71.2.1⟩ (fun h60 k69=>⟨(y57.2.2.2.2.2,at_ y57.2.1 y57.2.2.2.1),⟨rfl,obQ rfl (OV.self (e:=aJ)) rfl (⟨trivial,wrapK.i64 k69 (fun h65 h66 k67=>⟨(y57.1,y57.2.1,y57.2.2.1,(y57.2.2.2.1+(1:Int)),(y57.2.2.2.2.1+1,(delW (y57.2.2.2.2.2,at_ y57.2.1 y57.2.2.2.1)).2)),slQ (rS aA) (slQ (rS aA) (⟨rfl,⟨rfl,obQ rfl (OV.self (e:=aJ)) rfl (k67)⟩⟩))⟩)⟩)⟩⟩)) (fun h59 k72=>slQ (Rds.to (rS aA) (congrArg (fun x:(List (ByteArray))×(Ob Int)=>x.1) k72 :)) (obQ rfl (OV.self (e:=aJ)) (congrArg (fun x:(List (ByteArray))×(Ob Int)=>x.2) k72 :) (trivial)))⟩))⟩)⟩)⟩⟩⟩)⟩))
theorem f302.eq (a:(Ob Int)×Int):(f302.af a).gives f302.env (f302.args a) (f302.blks a) (f302.res a) (f302.blks' a)=f302.tree a:=by kernel_rfl
def f304.args (a:Ob Int):List D:=[.ptr 0 0]
def f304.blks (a:Ob Int):List (List D):=[[.dead,.obj 17 0 1 a.nl a.n a.ks (ovs aJ a)]]
def f304.res (a:Ob Int):List D:=[.int .i64 ((iX a).1)]
def f304.blks' (a:Ob Int):List (List D):=[[.dead,.obj 17 0 1 ((iX a).2).nl ((iX a).2).n ((iX a).2).ks (ovs aJ ((iX a).2))]]
def f304.C:aO:=FnC f304.args f304.blks (fun _=>True) f304.res f304.blks'
def f304.kills (a:Ob Int):List Hint:=[]
def f304.cuts (a:Ob Int):List (Nat×Σ β:Type,β→Tm):=[]
def f304.af (a:Ob Int):AF:=AF.mk (.seq (.region [⟨(some 2),1,.move,[.c (.int .i64 (0))],none⟩])
 (.seq (.seq (.region [mT 3 2 0,
 oT 4 3 (.isNil true false) [3]])
 (.cond (.t 4) (.seq (.region [⟨(some 2),4,.move,[.c (.int .i64 (0))],none⟩])
 (.ret)) (.skip)))
 (.seq (.region [mT 5 5 0,
 oT 6 6 .nilCheck [5],
 oT 7 7 (.fieldAddr 0) [6],
 oT 8 8 (.load false 1) [7],
 oT 9 9 .mapLen [8],
 mT 2 10 9])
 (.ret))))
 [.tmp 2] 1 9
def f304.env:Env:=[]
def f304.tree (a:Ob Int):Prop:=((aGT a 0 (a.nl 0):Int)=((iX a).1))∧ObQ 0 0 a.nl ((iX a).2).nl a.n ((iX a).2).n a.ks ((iX a).2).ks (ovs aJ a) (ovs aJ ((iX a).2)) (True)
def f304.vc (a:Ob Int):Prop:=(((aGT a 0 (a.nl 0):Int),a)=iX a)
theorem f304.of (a:Ob Int) (h:f304.vc a):f304.tree a:=⟨(congrArg (fun x:Int×(Ob Int)=>x.1) h :),obQ rfl (OV.self (e:=aJ)) (congrArg (fun x:Int×(Ob Int)=>x.2) h :) (trivial)⟩
theorem f304.eq (a:Ob Int):(f304.af a).gives f304.env (f304.args a) (f304.blks a) (f304.res a) (f304.blks' a)=f304.tree a:=by kernel_rfl
set_option linter.unusedVariables false
set_option linter.unusedVariables false
theorem nA (t:Int):0≤aE t∧aE t < 16:=by
 have h:0≤IntKind.u64.wrap t % 16∧IntKind.u64.wrap t % 16 < 16:=by omega
 unfold aE
 rw [f6 (by unfold IntKind.signed IntKind.bits; simp; omega) (by unfold IntKind.signed IntKind.bits; simp; omega)]
 exact h
theorem y9 (t:Int):1≤spW t∧spW t < 17:=by
 have:=nA t
 unfold spW
 omega
theorem aD0 (t:Int):spW t≠0:=by have:=y9 t; omega
theorem f328.ok (a:Int) (_:True):f328.vc a:=by
 refine ⟨?_,rfl⟩
 simp [IntKind.wrap,IntKind.signed,IntKind.bits]
 omega
theorem f295.ok (a:Unit) (_:True):f295.vc a:=rfl
theorem f300.ok (a:Ob Int×ByteArray) (_:True):f300.vc a:=by
 refine ⟨fun h=>?_,fun h=>?_⟩
 ·unfold atW j3
  rw [h]
  rfl
 ·unfold atW j3
  rw [Bool.eq_false_iff.2 h]
  rfl
theorem f298.ok (a:Ob Int×ByteArray) (_:True):f298.vc a:=by
 have hs:=nA (j3 a.1 a.2 0)
 refine ⟨fun h=>⟨hs.1,hs.2,?_,?_,?_⟩,fun h=>?_⟩
 ·show 1+Int.toNat (aE (j3 a.1 a.2 0)) * 1+1≤17
  omega
 ·show 1+Int.toNat (aE (j3 a.1 a.2 0)) * 1 < 17
  omega
 ·have h:l5 a.1 0 (a.1.nl 0) a.2=true:=h
  unfold delW fJ atW j3
  simp only [h,cond_true]
  rfl
 ·have h:l5 a.1 0 (a.1.nl 0) a.2=false:=Bool.eq_false_iff.2 h
  unfold delW fJ atW
  simp only [h,cond_false]
theorem f296.ok (a:Ob Int×ByteArray×Int) (_:True):f296.vc a:=by
 have hs:=nA a.2.2
 have h1:1+Int.toNat (aE a.2.2) * 1+1≤17:=by omega
 have h2:1+Int.toNat (aE a.2.2) * 1 < 17:=by omega
 have h3:(true=true↔1≤1+Int.toNat (aE a.2.2) * 1):=⟨fun _=>by omega,fun _=>rfl⟩
 have h4:(false=true↔1≤0):=by simp
 refine ⟨fun c=>⟨⟨by omega,c,h4⟩,⟨aD1 _ _,by omega,h4⟩,hs.1,hs.2,h1,fun d=>⟨hs.1,hs.2,⟨h2,d,h3⟩,hs.1,hs.2,h1,⟨aD1 _ _,h2,h3⟩,?_⟩,fun d=>⟨hs.1,hs.2,h1,⟨Bool.eq_false_iff.2 d,h2,h3⟩,?_⟩⟩,
  fun c=>⟨⟨Bool.eq_false_iff.2 c,by omega,h4⟩,hs.1,hs.2,h1,fun d=>⟨hs.1,hs.2,⟨h2,d,h3⟩,hs.1,hs.2,h1,⟨aD1 _ _,h2,h3⟩,?_⟩,fun d=>⟨hs.1,hs.2,h1,⟨Bool.eq_false_iff.2 d,h2,h3⟩,?_⟩⟩⟩
 all_goals unfold setW aH0
 ·rw [aAN (o:=fJ spW a.1 a.2.1) (j:=0) c,aAN (o:=bN (omk (fJ spW a.1 a.2.1) 0) a.2.1 a.2.2) (j:=spW a.2.2) d]
  rfl
 ·rw [aAN (o:=fJ spW a.1 a.2.1) (j:=0) c,zN (o:=bN (omk (fJ spW a.1 a.2.1) 0) a.2.1 a.2.2) (j:=spW a.2.2) d]
  rfl
 ·rw [zN (o:=fJ spW a.1 a.2.1) (j:=0) c,aAN (o:=bN (fJ spW a.1 a.2.1) a.2.1 a.2.2) (j:=spW a.2.2) d]
  rfl
 ·rw [zN (o:=fJ spW a.1 a.2.1) (j:=0) c,zN (o:=bN (fJ spW a.1 a.2.1) a.2.1 a.2.2) (j:=spW a.2.2) d]
  rfl
theorem f304.ok (a:Ob Int) (_:True):f304.vc a:=rfl
theorem f302.ok (a:Ob Int×Int) (h:f9 a):f302.vc a:=by
 obtain ⟨o,now⟩:=a
 have h:(eS o (fun _=>true) 1 16).length≤1048576:=h
 let p:ByteArray→Bool:=fun k=>decide (j3 o k 0 < now)
 have hle:∀ n,n≤16→(eS o p 1 n).length≤1048576:=fun n hn=>Nat.le_trans (vE o p 1 hn) (Nat.le_trans (vM o p 1 16) h)
 refine ⟨fun y=>0≤y.1∧y.1≤16∧y.2.Perm (eS o p 1 y.1.toNat),fun y=>16 - y.1.toNat,⟨by simp only; omega,by simp only; omega,List.Perm.refl _⟩,fun y hy=>?_⟩
 obtain ⟨i,out⟩:=y
 obtain ⟨g0,g1,g2⟩:=hy
 simp only at g0 g1 g2
 refine ⟨fun hlt=>?_,fun hge=>?_⟩
 ·simp only at hlt
  refine ⟨g0,by simp only; omega,by simp only; omega,?_⟩
  refine ⟨fun y=>y.1=i∧y.2.2.1=1+i.toNat∧y.2.2.2.1=o.nl (1+i.toNat)∧y.2.2.2.2.1=0∧y.2.1.Perm (eS o p 1 i.toNat++i7 o p (1+i.toNat) y.2.2.2.2.2.1),
   fun y=>aFO o (1+i.toNat) y.2.2.2.2.2.1,⟨rfl,rfl,rfl,rfl,by simp only; rw [aDZ,List.append_nil]; exact g2⟩,fun y hy=>?_⟩
  obtain ⟨i',out',j,b,c,s,q⟩:=y
  obtain ⟨e1,e2,e3,e4,k1⟩:=hy
  simp only at e1 e2 e3 e4 k1
  subst e1 e2 e3 e4
  have hlen:out'.length≤1048576:=by
   rw [k1.length_eq,List.length_append]
   have h1:=hle (i'.toNat+1) (by omega)
   have h2:(eS o (fun _=>true) 1 (i'.toNat+1)).length≤1048576:=Nat.le_trans (vE o _ 1 (by omega)) h
   rw [jG,List.length_append] at h2
   have h3:=vM o p 1 i'.toNat
   have h4:=aI8 (o:=o) p (1+i'.toNat) s
   omega
  refine ⟨rfl,by simp only; omega,fun hov=>?_,fun hb x hx hs=>?_⟩
  ·refine ⟨by simp only; omega,by simp only; omega,⟨by simp only; omega,by simp only; omega,?_⟩,by simp only; omega⟩
   simp only at hov ⊢
   rw [aGS hov] at k1
   rw [show (i'+1).toNat=i'.toNat+1 by omega,jG]
   exact k1
  ·simp only at hb hx hs ⊢
   have add:p (o.ks (1+i'.toNat) x)=true→(out'++[o.ks (1+i'.toNat) x]).Perm (eS o p 1 i'.toNat++i7 o p (1+i'.toNat) fun y=>bif Nat.beq y x then true else s y):=fun hp =>
    (((k1.append_right _).trans (by rw [List.append_assoc])).trans ((aHN hb hx hs hp).symm.append_left _))
   have skip:p (o.ks (1+i'.toNat) x)=false→out'.Perm (eS o p 1 i'.toNat++i7 o p (1+i'.toNat) fun y=>bif Nat.beq y x then true else s y):=fun hp =>
    k1.trans ((aED hb hx hs hp).symm.append_left _)
   have hmu:=aG1 (o:=o) hx hs
   refine ⟨fun hh=>?_,fun hh=>?_⟩
   ·have hg:j3 o (o.ks (1+i'.toNat) x) 0=oat o (o.ks (1+i'.toNat) x):=by unfold j3; rw [hh]; rfl
    refine ⟨fun hc=>⟨by omega,⟨trivial,trivial,hb.symm,trivial,add ?_⟩,hmu⟩,fun hc=>⟨⟨trivial,trivial,hb.symm,trivial,skip ?_⟩,hmu⟩⟩
    ·show decide (j3 o _ 0 < now)=true
     rw [hg]
     exact decide_eq_true hc
    ·show decide (j3 o _ 0 < now)=false
     rw [hg]
     exact decide_eq_false hc
   ·have hg:j3 o (o.ks (1+i'.toNat) x) 0=0:=by unfold j3; rw [Bool.eq_false_iff.2 hh]; rfl
    refine ⟨fun hc=>⟨by omega,⟨trivial,trivial,hb.symm,trivial,add ?_⟩,hmu⟩,fun hc=>⟨⟨trivial,trivial,hb.symm,trivial,skip ?_⟩,hmu⟩⟩
    ·show decide (j3 o _ 0 < now)=true
     rw [hg]
     exact decide_eq_true hc
    ·show decide (j3 o _ 0 < now)=false
     rw [hg]
     exact decide_eq_false hc
 ·simp only at hge
  have hi:i=16:=by omega
  subst hi
  have hd:dD slt out=q9 o now:=wR g2
  have hl:out.length≤1048576:=by rw [g2.length_eq]; exact hle _ (Nat.le_refl _)
  simp only
  rw [hd]
  have hdl:(q9 o now).length=out.length:=by rw [← hd,aF7]
  refine ⟨hl,hdl,?_⟩
  refine ⟨fun y=>y.1=q9 o now∧y.2.1=q9 o now∧y.2.2.1=((q9 o now).length:Int)∧0≤y.2.2.2.1∧y.2.2.2.1≤((q9 o now).length:Int)∧y.2.2.2.2.2=((q9 o now).take y.2.2.2.1.toNat).foldl (fJ spW) o,
   fun y=>(q9 o now).length - y.2.2.2.1.toNat,⟨rfl,rfl,rfl,by simp only; omega,by simp only; omega,rfl⟩,fun y hy=>?_⟩
  obtain ⟨l1,l2,m,i,c,o'⟩:=y
  obtain ⟨e1,e2,e3,k1,k2,e4⟩:=hy
  simp only at e1 e2 e3 k1 k2 e4
  subst e1 e2 e3 e4
  refine ⟨fun hlt=>?_,fun hge=>?_⟩
  ·simp only at hlt
   refine ⟨k1,hlt,by simp only; omega,by simp only; omega,⟨rfl,rfl,rfl,by simp only; omega,by simp only; omega,?_⟩,by simp only; omega⟩
   simp only
   rw [show (i+1).toNat=i.toNat+1 by omega,rX (by omega),List.foldl_append]
   rfl
  ·simp only at hge ⊢
   have:i.toNat=(q9 o now).length:=by omega
   rw [this,List.take_length]
   rfl
end Go.Abs
