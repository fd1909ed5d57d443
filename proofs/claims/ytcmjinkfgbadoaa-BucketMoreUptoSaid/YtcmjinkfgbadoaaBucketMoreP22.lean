/- Functions, and what the code asks of them: PBucket. -/
import Derived.KernelRfl
import Derived.Test.YtcmjinkfgbadoaaBucketMoreP4
import Derived.Test.YtcmjinkfgbadoaaBucketMoreP5
import Derived.Test.YtcmjinkfgbadoaaBucketMoreP6
import Derived.Test.YtcmjinkfgbadoaaBucketMoreP7
import Derived.Test.YtcmjinkfgbadoaaBucketMoreP8
import Derived.Test.YtcmjinkfgbadoaaBucketMoreP9
import Derived.Test.YtcmjinkfgbadoaaBucketMoreP10
import Derived.Test.YtcmjinkfgbadoaaBucketMoreP11
import Derived.Test.YtcmjinkfgbadoaaBucketMoreP12
import Derived.Test.YtcmjinkfgbadoaaBucketMoreP15
import Derived.Test.YtcmjinkfgbadoaaBucketMoreP16
import Derived.Test.YtcmjinkfgbadoaaBucketMoreP17
import Derived.Test.YtcmjinkfgbadoaaBucketMoreP18
import Derived.Test.YtcmjinkfgbadoaaBucketMoreP20
set_option maxRecDepth 100000
set_option maxHeartbeats 4000000
set_option linter.unusedVariables false
set_option linter.unusedSimpArgs false
set_option linter.unusedSectionVars false
namespace Go.Abs
open Go
abbrev Rs3:Type:=Int×Int×Int
def ofR (a:Rs3):Int:=cH (IntKind.u64.wrap (mx a.1 0))
def spB (a:Rs3):Nat:=1+Int.toNat (ofR a) * 1
def aM5 (_:Unit):Unit:=()
def getX (a:Ob Rs3×ByteArray):Rs3×Bool×Ob Rs3:=(nI a.1 a.2 (0,0,0),kZ a.1 0 (a.1.nl 0) a.2,a.1)
def delX (a:Ob Rs3×ByteArray):Bool×Ob Rs3:=(kZ a.1 0 (a.1.nl 0) a.2,iC spB a.1 a.2)
def putX (a:Ob Rs3×ByteArray×Rs3):Ob Rs3:=aII spB a.1 a.2.1 a.2.2
def aJ8 (o:Ob Rs3) (a:Rs3):List ByteArray:=eX slt (fY o (fun k=>dW (a,nI o k (0,0,0))) (1+Int.toNat (ofR a)) (Int.toNat (65 - ofR a)))
def bR (a:Ob Rs3×Rs3):List ByteArray×Ob Rs3:=(aJ8 a.1 a.2,a.1)
def eI (a:Ob Rs3×Rs3):Prop:=∀ j n,j≠0→(fY a.1 (fun _=>true) j n).length≤1048576
def lenX (a:Ob Rs3):Int×Ob Rs3:=((aHJ a 0 (a.nl 0):Int),a)
def jT (l:List (ByteArray×Rs3)) (a:Rs3):List ByteArray:=(l.filter fun x=>dW (a,x.2)).map (·.1)
def jX (s:List (Int×ByteArray×Rs3)):Bool:=decide (s.length≤300)&&(List.range s.length).all fun i=>decide ((s.getD i default).2.1.size≤1000)
def f164.args (a:aC):List D:=[.agg [.int .i64 a.1,.int .i64 a.2.1,.int .i64 a.2.2]]
def f164.blks (a:aC):List (List D):=[]
def f164.res (a:aC):List D:=[.int .i64 (ofR a)]
def f164.blks' (a:aC):List (List D):=[]
def f164.C:aO:=FnC f164.args f164.blks (fun _=>True) f164.res f164.blks'
set_option linter.unusedVariables false
def f164.kills (a:aC):List Hint:=[]
def f164.cuts (a:aC):List (Nat×Σ β:Type,β→Tm):=[]
def f164.af (a:aC):AF:=AF.mk (.seq (.region [oT 1 0 .box [0],
 ⟨(some 2),1,.move,[.c (.int .i64 (0))],none⟩])
 (.seq (.region [⟨(some 3),2,(.indexAddr 1 (some 3)),[.t 1,.c (.int .i64 (0))],none⟩,
 oT 4 3 (.load false 1) [3],
 ⟨(some 5),4,(.mnmx true),[.t 4,.c (.int .i64 (0))],none⟩,
 oT 6 5 (.conv (.int .u64)) [5],
 oT 7 6 (.call false 45) [6],
 mT 2 10 7])
 (.ret)))
 [.tmp 2] 0 7
def f164.env:Env:=[(45,f45.C)]
def f164.tree (a:aC):Prop:=∃ c1:Int,((IntKind.u64.wrap (mx a.1 (0:Int)))=c1)∧(dU c1)∧((cH c1)=(ofR a))∧True
def f164.vc (a:aC):Prop:=(dU (IntKind.u64.wrap (mx a.1 (0:Int)))∧((cH (IntKind.u64.wrap (mx a.1 (0:Int))))=ofR a))
theorem f164.of (a:aC) (h:f164.vc a):f164.tree a:=⟨IntKind.u64.wrap (mx a.1 (0:Int)),⟨rfl,⟨h.1,⟨h.2,trivial⟩⟩⟩⟩
theorem f164.eq (a:aC):(f164.af a).gives f164.env (f164.args a) (f164.blks a) (f164.res a) (f164.blks' a)=f164.tree a:=by kernel_rfl
def f143.args (a:Unit):List D:=[]
def f143.blks (a:Unit):List (List D):=[]
def f143.res (a:Unit):List D:=[.newp [.nilm,.nilm,.nilm,.nilm,.nilm,.nilm,.nilm,.nilm,.nilm,.nilm,.nilm,.nilm,.nilm,.nilm,.nilm,.nilm,.nilm,.nilm,.nilm,.nilm,.nilm,.nilm,.nilm,.nilm,.nilm,.nilm,.nilm,.nilm,.nilm,.nilm,.nilm,.nilm,.nilm,.nilm,.nilm,.nilm,.nilm,.nilm,.nilm,.nilm,.nilm,.nilm,.nilm,.nilm,.nilm,.nilm,.nilm,.nilm,.nilm,.nilm,.nilm,.nilm,.nilm,.nilm,.nilm,.nilm,.nilm,.nilm,.nilm,.nilm,.nilm,.nilm,.nilm,.nilm,.nilm,.nilm]]
def f143.blks' (a:Unit):List (List D):=[]
def f143.C:aO:=FnC f143.args f143.blks (fun _=>True) f143.res f143.blks'
def f143.kills (a:Unit):List Hint:=[]
def f143.cuts (a:Unit):List (Nat×Σ β:Type,β→Tm):=[]
def f143.af (a:Unit):AF:=AF.mk (.seq (.region [⟨(some 0),0,.move,[.c (.nilp)],none⟩])
 (.seq (.region [oT 1 1 (.build [.nilm,.nilm,.nilm,.nilm,.nilm,.nilm,.nilm,.nilm,.nilm,.nilm,.nilm,.nilm,.nilm,.nilm,.nilm,.nilm,.nilm,.nilm,.nilm,.nilm,.nilm,.nilm,.nilm,.nilm,.nilm,.nilm,.nilm,.nilm,.nilm,.nilm,.nilm,.nilm,.nilm,.nilm,.nilm,.nilm,.nilm,.nilm,.nilm,.nilm,.nilm,.nilm,.nilm,.nilm,.nilm,.nilm,.nilm,.nilm,.nilm,.nilm,.nilm,.nilm,.nilm,.nilm,.nilm,.nilm,.nilm,.nilm,.nilm,.nilm,.nilm,.nilm,.nilm,.nilm,.nilm,.nilm] []) [],
 oT 2 2 .box [1],
 mT 0 3 2])
 (.ret)))
 [.tmp 0] 0 3
def f143.env:Env:=[]
def f143.tree (a:Unit):Prop:=(DEqs [.nilm,.nilm,.nilm,.nilm,.nilm,.nilm,.nilm,.nilm,.nilm,.nilm,.nilm,.nilm,.nilm,.nilm,.nilm,.nilm,.nilm,.nilm,.nilm,.nilm,.nilm,.nilm,.nilm,.nilm,.nilm,.nilm,.nilm,.nilm,.nilm,.nilm,.nilm,.nilm,.nilm,.nilm,.nilm,.nilm,.nilm,.nilm,.nilm,.nilm,.nilm,.nilm,.nilm,.nilm,.nilm,.nilm,.nilm,.nilm,.nilm,.nilm,.nilm,.nilm,.nilm,.nilm,.nilm,.nilm,.nilm,.nilm,.nilm,.nilm,.nilm,.nilm,.nilm,.nilm,.nilm,.nilm] [.nilm,.nilm,.nilm,.nilm,.nilm,.nilm,.nilm,.nilm,.nilm,.nilm,.nilm,.nilm,.nilm,.nilm,.nilm,.nilm,.nilm,.nilm,.nilm,.nilm,.nilm,.nilm,.nilm,.nilm,.nilm,.nilm,.nilm,.nilm,.nilm,.nilm,.nilm,.nilm,.nilm,.nilm,.nilm,.nilm,.nilm,.nilm,.nilm,.nilm,.nilm,.nilm,.nilm,.nilm,.nilm,.nilm,.nilm,.nilm,.nilm,.nilm,.nilm,.nilm,.nilm,.nilm,.nilm,.nilm,.nilm,.nilm,.nilm,.nilm,.nilm,.nilm,.nilm,.nilm,.nilm,.nilm])∧True
def f143.vc (a:Unit):Prop:=(()=aM5 a)
theorem f143.of (a:Unit) (h:f143.vc a):f143.tree a:=⟨(Eq.mp (congrArg (fun x:Unit=>DEqs [.nilm,.nilm,.nilm,.nilm,.nilm,.nilm,.nilm,.nilm,.nilm,.nilm,.nilm,.nilm,.nilm,.nilm,.nilm,.nilm,.nilm,.nilm,.nilm,.nilm,.nilm,.nilm,.nilm,.nilm,.nilm,.nilm,.nilm,.nilm,.nilm,.nilm,.nilm,.nilm,.nilm,.nilm,.nilm,.nilm,.nilm,.nilm,.nilm,.nilm,.nilm,.nilm,.nilm,.nilm,.nilm,.nilm,.nilm,.nilm,.nilm,.nilm,.nilm,.nilm,.nilm,.nilm,.nilm,.nilm,.nilm,.nilm,.nilm,.nilm,.nilm,.nilm,.nilm,.nilm,.nilm,.nilm] [.nilm,.nilm,.nilm,.nilm,.nilm,.nilm,.nilm,.nilm,.nilm,.nilm,.nilm,.nilm,.nilm,.nilm,.nilm,.nilm,.nilm,.nilm,.nilm,.nilm,.nilm,.nilm,.nilm,.nilm,.nilm,.nilm,.nilm,.nilm,.nilm,.nilm,.nilm,.nilm,.nilm,.nilm,.nilm,.nilm,.nilm,.nilm,.nilm,.nilm,.nilm,.nilm,.nilm,.nilm,.nilm,.nilm,.nilm,.nilm,.nilm,.nilm,.nilm,.nilm,.nilm,.nilm,.nilm,.nilm,.nilm,.nilm,.nilm,.nilm,.nilm,.nilm,.nilm,.nilm,.nilm,.nilm]) h) (DEqs.refl _)),trivial⟩
theorem f143.eq (a:Unit):(f143.af a).gives f143.env (f143.args a) (f143.blks a) (f143.res a) (f143.blks' a)=f143.tree a:=by kernel_rfl
def f192.args (a:(Ob aC)×ByteArray):List D:=[.ptr 0 0,.str a.2]
def f192.blks (a:(Ob aC)×ByteArray):List (List D):=[[.dead,.obj 66 0 0 a.1.nl a.1.n a.1.ks (ovs aE a.1)]]
def f192.res (a:(Ob aC)×ByteArray):List D:=[.agg [.int .i64 (((getX a).1).1),.int .i64 (((getX a).1).2.1),.int .i64 (((getX a).1).2.2)],.bool ((getX a).2.1)]
def f192.blks' (a:(Ob aC)×ByteArray):List (List D):=[[.dead,.obj 66 0 0 ((getX a).2.2).nl ((getX a).2.2).n ((getX a).2.2).ks (ovs aE ((getX a).2.2))]]
def f192.C:aO:=FnC f192.args f192.blks (fun _=>True) f192.res f192.blks'
def f192.kills (a:(Ob aC)×ByteArray):List Hint:=[]
def f192.cuts (a:(Ob aC)×ByteArray):List (Nat×Σ β:Type,β→Tm):=[]
def f192.af (a:(Ob aC)×ByteArray):AF:=AF.mk (.seq (.region [oT 4 1 (.alloc [.int .i64 (0),.int .i64 (0),.int .i64 (0)]) [],
 ⟨(some 5),5,.move,[.c (.bool false)],none⟩])
 (.seq (.seq (.region [mT 8 6 0,
 oT 9 7 (.isNil true false) [8]])
 (.cond (.t 9) (.seq (.region [oT 10 8 (.build [.int .i64 (0),.int .i64 (0),.int .i64 (0)] []) [],
 ⟨none,9,(.store 3),[.t 4,.t 10],none⟩,
 ⟨(some 5),10,.move,[.c (.bool false)],none⟩])
 (.ret)) (.skip)))
 (.seq (.region [mT 12 11 0,
 oT 13 12 .nilCheck [12],
 oT 14 13 (.fieldAddr 0) [13],
 oT 15 14 (.load false 1) [14],
 mT 16 15 1,
 oT 17 16 (.mapGet true true [.int .i64 (0),.int .i64 (0),.int .i64 (0)]) [15,16],
 mT 11 20 17,
 oT 18 21 (.extract 0) [11],
 oT 19 22 (.extract 1) [11],
 oT 6 23 (.alloc [.int .i64 (0),.int .i64 (0),.int .i64 (0)]) [],
 ⟨none,27,(.store 3),[.t 6,.t 18],none⟩,
 mT 7 28 19])
 (.seq (.region [oT 20 29 (.load true 3) [6],
 mT 21 30 7,
 ⟨none,31,(.store 3),[.t 4,.t 20],none⟩,
 mT 5 32 21])
 (.ret)))))
 [.cell 4 true 3,.tmp 5] 1 20
def f192.env:Env:=[]
def f192.tree (a:(Ob aC)×ByteArray):Prop:=Br (kZ a.1 0 (a.1.nl 0) a.2) ((((oat a.1 a.2).1)=(((getX a).1).1))∧(((oat a.1 a.2).2.1)=(((getX a).1).2.1))∧(((oat a.1 a.2).2.2)=(((getX a).1).2.2))∧(true=((getX a).2.1))∧ObQ 0 0 a.1.nl ((getX a).2.2).nl a.1.n ((getX a).2.2).n a.1.ks ((getX a).2.2).ks (ovs aE a.1) (ovs aE ((getX a).2.2)) (True)) (((0:Int)=(((getX a).1).1))∧((0:Int)=(((getX a).1).2.1))∧((0:Int)=(((getX a).1).2.2))∧(false=((getX a).2.1))∧ObQ 0 0 a.1.nl ((getX a).2.2).nl a.1.n ((getX a).2.2).n a.1.ks ((getX a).2.2).ks (ovs aE a.1) (ovs aE ((getX a).2.2)) (True))
def f192.vc (a:(Ob aC)×ByteArray):Prop:=((kZ a.1 0 (a.1.nl 0) a.2=true→(((oat a.1 a.2),true,a.1)=getX a))∧(¬(kZ a.1 0 (a.1.nl 0) a.2=true)→((((0:Int),(0:Int),(0:Int)),false,a.1)=getX a)))
theorem f192.of (a:(Ob aC)×ByteArray) (h:f192.vc a):f192.tree a:=br h Cnd.b (fun h1 k5=>⟨(congrArg (fun x:aC×Bool×(Ob aC)=>x.1.1) k5 :),⟨(congrArg (fun x:aC×Bool×(Ob aC)=>x.1.2.1) k5 :),⟨(congrArg (fun x:aC×Bool×(Ob aC)=>x.1.2.2) k5 :),⟨(congrArg (fun x:aC×Bool×(Ob aC)=>x.2.1) k5 :),obQ rfl (OV.self (e:=aE)) (congrArg (fun x:aC×Bool×(Ob aC)=>x.2.2) k5 :) (trivial)⟩⟩⟩⟩) (fun h2 k6=>⟨(congrArg (fun x:aC×Bool×(Ob aC)=>x.1.1) k6 :),⟨(congrArg (fun x:aC×Bool×(Ob aC)=>x.1.2.1) k6 :),⟨(congrArg (fun x:aC×Bool×(Ob aC)=>x.1.2.2) k6 :),⟨(congrArg (fun x:aC×Bool×(Ob aC)=>x.2.1) k6 :),obQ rfl (OV.self (e:=aE)) (congrArg (fun x:aC×Bool×(Ob aC)=>x.2.2) k6 :) (trivial)⟩⟩⟩⟩)
theorem f192.eq (a:(Ob aC)×ByteArray):(f192.af a).gives f192.env (f192.args a) (f192.blks a) (f192.res a) (f192.blks' a)=f192.tree a:=by kernel_rfl
def f163.args (a:(Ob aC)×ByteArray):List D:=[.ptr 0 0,.str a.2]
def f163.blks (a:(Ob aC)×ByteArray):List (List D):=[[.dead,.obj 66 0 0 a.1.nl a.1.n a.1.ks (ovs aE a.1)]]
def f163.res (a:(Ob aC)×ByteArray):List D:=[.bool ((delX a).1)]
def f163.blks' (a:(Ob aC)×ByteArray):List (List D):=[[.dead,.obj 66 0 0 ((delX a).2).nl ((delX a).2).n ((delX a).2).ks (ovs aE ((delX a).2))]]
def f163.C:aO:=FnC f163.args f163.blks (fun _=>True) f163.res f163.blks'
def f163.kills (a:(Ob aC)×ByteArray):List Hint:=[]
def f163.cuts (a:(Ob aC)×ByteArray):List (Nat×Σ β:Type,β→Tm):=[]
def f163.af (a:(Ob aC)×ByteArray):AF:=AF.mk (.seq (.region [⟨(some 4),1,.move,[.c (.bool false)],none⟩])
 (.seq (.region [mT 8 2 0,
 mT 9 3 1,
 oT 10 4 (.call true 192) [8,9],
 mT 7 8 10,
 oT 11 9 (.extract 0) [7],
 oT 12 10 (.extract 1) [7],
 oT 5 11 (.alloc [.int .i64 (0),.int .i64 (0),.int .i64 (0)]) [],
 ⟨none,15,(.store 3),[.t 5,.t 11],none⟩,
 mT 6 16 12])
 (.seq (.seq (.region [mT 13 17 6])
 (.cond (.t 13) (.seq (.region [mT 14 18 0,
 oT 15 19 .nilCheck [14],
 oT 16 20 (.fieldAddr 0) [15],
 oT 17 21 (.load false 1) [16],
 mT 18 22 1,
 ⟨none,23,.mapDel,[.t 17,.t 18],none⟩])
 (.region [mT 19 24 0,
 oT 20 25 (.load true 3) [5],
 oT 21 26 (.call false 164) [20],
 oT 22 30 .nilCheck [19],
 oT 23 31 (.fieldAddr 1) [22],
 oT 24 32 (.indexAddr 1 (some 65)) [23,21],
 oT 25 33 (.load false 1) [24],
 mT 26 34 1,
 ⟨none,35,.mapDel,[.t 25,.t 26],none⟩])) (.skip)))
 (.seq (.region [mT 27 36 6,
 mT 4 37 27])
 (.ret)))))
 [.tmp 4] 1 26
def f163.env:Env:=[(192,f192.C),(164,f164.C)]
def f163.tree (a:(Ob aC)×ByteArray):Prop:=∃ c1:(Ob aC)×ByteArray,(a.2=c1.2)∧ObQ 0 0 a.1.nl c1.1.nl a.1.n c1.1.n a.1.ks c1.1.ks (ovs aE a.1) (ovs aE c1.1) (True∧Br ((getX c1).2.1) (∃ c4:aC,((((getX c1).1).1)=c4.1)∧((((getX c1).1).2.1)=c4.2.1)∧((((getX c1).1).2.2)=c4.2.2)∧True∧Br (decide ((0:Int)≤(ofR c4))&&decide ((ofR c4) < (65:Int))) (Br (Nat.ble ((1+Int.toNat (ofR c4) * 1)+1) 66) (Br (Nat.blt (1+Int.toNat (ofR c4) * 1) 66) ((((getX c1).2.1)=((delX a).1))∧ObQ 0 0 (f6 (f6 ((getX c1).2.2) 0 (((getX c1).2.2).nl 0) a.2) (1+Int.toNat (ofR c4) * 1) ((f6 ((getX c1).2.2) 0 (((getX c1).2.2).nl 0) a.2).nl (1+Int.toNat (ofR c4) * 1)) a.2).nl ((delX a).2).nl (f6 (f6 ((getX c1).2.2) 0 (((getX c1).2.2).nl 0) a.2) (1+Int.toNat (ofR c4) * 1) ((f6 ((getX c1).2.2) 0 (((getX c1).2.2).nl 0) a.2).nl (1+Int.toNat (ofR c4) * 1)) a.2).n ((delX a).2).n (f6 (f6 ((getX c1).2.2) 0 (((getX c1).2.2).nl 0) a.2) (1+Int.toNat (ofR c4) * 1) ((f6 ((getX c1).2.2) 0 (((getX c1).2.2).nl 0) a.2).nl (1+Int.toNat (ofR c4) * 1)) a.2).ks ((delX a).2).ks (bif ((f6 ((getX c1).2.2) 0 (((getX c1).2.2).nl 0) a.2).nl (1+Int.toNat (ofR c4) * 1)) then (bif (((getX c1).2.2).nl 0) then (ovs aE ((getX c1).2.2)) else cE (ovs aE ((getX c1).2.2)) 0 (d9 ((ovs aE ((getX c1).2.2)) 0) (mpF (((getX c1).2.2).ks 0) a.2 (((getX c1).2.2).n 0)))) else cE (bif (((getX c1).2.2).nl 0) then (ovs aE ((getX c1).2.2)) else cE (ovs aE ((getX c1).2.2)) 0 (d9 ((ovs aE ((getX c1).2.2)) 0) (mpF (((getX c1).2.2).ks 0) a.2 (((getX c1).2.2).n 0)))) (1+Int.toNat (ofR c4) * 1) (d9 ((bif (((getX c1).2.2).nl 0) then (ovs aE ((getX c1).2.2)) else cE (ovs aE ((getX c1).2.2)) 0 (d9 ((ovs aE ((getX c1).2.2)) 0) (mpF (((getX c1).2.2).ks 0) a.2 (((getX c1).2.2).n 0)))) (1+Int.toNat (ofR c4) * 1)) (mpF ((f6 ((getX c1).2.2) 0 (((getX c1).2.2).nl 0) a.2).ks (1+Int.toNat (ofR c4) * 1)) a.2 ((f6 ((getX c1).2.2) 0 (((getX c1).2.2).nl 0) a.2).n (1+Int.toNat (ofR c4) * 1))))) (ovs aE ((delX a).2)) (True)) False) False) False) ((((getX c1).2.1)=((delX a).1))∧ObQ 0 0 ((getX c1).2.2).nl ((delX a).2).nl ((getX c1).2.2).n ((delX a).2).n ((getX c1).2.2).ks ((delX a).2).ks (ovs aE ((getX c1).2.2)) (ovs aE ((delX a).2)) (True)))
def f163.vc (a:(Ob aC)×ByteArray):Prop:=((((getX (a.1,a.2)).2.1)=true→((0:Int)≤(ofR ((getX (a.1,a.2)).1))∧(ofR ((getX (a.1,a.2)).1)) < (65:Int)∧(((1+Int.toNat (ofR ((getX (a.1,a.2)).1)) * 1)+1≤66)∧(((1+Int.toNat (ofR ((getX (a.1,a.2)).1)) * 1) < 66)∧(((getX (a.1,a.2)).2.1,f6 (f6 ((getX (a.1,a.2)).2.2) 0 (((getX (a.1,a.2)).2.2).nl 0) a.2) (1+Int.toNat (ofR ((getX (a.1,a.2)).1)) * 1) ((f6 ((getX (a.1,a.2)).2.2) 0 (((getX (a.1,a.2)).2.2).nl 0) a.2).nl (1+Int.toNat (ofR ((getX (a.1,a.2)).1)) * 1)) a.2)=delX a)))))∧(¬(((getX (a.1,a.2)).2.1)=true)→(((getX (a.1,a.2)).2.1,(getX (a.1,a.2)).2.2)=delX a)))
theorem f163.of (a:(Ob aC)×ByteArray) (h:f163.vc a):f163.tree a:=⟨(a.1,a.2),⟨rfl,obQ rfl (OV.self (e:=aE)) rfl (⟨trivial,br h Cnd.b (fun h2 k14=>⟨((getX (a.1,a.2)).1),⟨rfl,⟨rfl,⟨rfl,⟨trivial,chk k14.2.2 Cnd.ix ⟨k14.1,k14.2.1⟩ (fun h5 k11=>chk k11.2 Cnd.ble k11.1 (fun h6 k10=>chk k10.2 Cnd.blt k10.1 (fun h7 k9=>⟨(congrArg (fun x:Bool×(Ob aC)=>x.1) k9 :),obQ rfl (OV.del (OV.del (OV.self (e:=aE)))) (congrArg (fun x:Bool×(Ob aC)=>x.2) k9 :) (trivial)⟩)))⟩⟩⟩⟩⟩) (fun h3 k15=>⟨(congrArg (fun x:Bool×(Ob aC)=>x.1) k15 :),obQ rfl (OV.self (e:=aE)) (congrArg (fun x:Bool×(Ob aC)=>x.2) k15 :) (trivial)⟩)⟩)⟩⟩
theorem f163.eq (a:(Ob aC)×ByteArray):(f163.af a).gives f163.env (f163.args a) (f163.blks a) (f163.res a) (f163.blks' a)=f163.tree a:=by kernel_rfl
def f145.args (a:(Ob aC)×ByteArray×aC):List D:=[.ptr 0 0,.str a.2.1,.agg [.int .i64 a.2.2.1,.int .i64 a.2.2.2.1,.int .i64 a.2.2.2.2]]
def f145.blks (a:(Ob aC)×ByteArray×aC):List (List D):=[[.dead,.obj 66 0 0 a.1.nl a.1.n a.1.ks (ovs aE a.1)]]
def f145.res (a:(Ob aC)×ByteArray×aC):List D:=[]
def f145.blks' (a:(Ob aC)×ByteArray×aC):List (List D):=[[.dead,.obj 66 0 0 (putX a).nl (putX a).n (putX a).ks (ovs aE (putX a))]]
def f145.C:aO:=FnC f145.args f145.blks (fun _=>True) f145.res f145.blks'
def f145.kills (a:(Ob aC)×ByteArray×aC):List Hint:=[]
def f145.cuts (a:(Ob aC)×ByteArray×aC):List (Nat×Σ β:Type,β→Tm):=[]
def f145.af (a:(Ob aC)×ByteArray×aC):AF:=AF.mk (.seq (.region [oT 5 1 .box [2]])
 (.seq (.seq (.region [mT 7 2 0,
 oT 8 3 (.isNil true false) [7]])
 (.cond (.t 8) (.ret) (.skip)))
 (.seq (.region [mT 9 4 0,
 mT 10 5 1,
 oT 11 6 (.call true 163) [9,10]])
 (.seq (.seq (.region [mT 12 10 0,
 oT 13 11 .nilCheck [12],
 oT 14 12 (.fieldAddr 0) [13],
 oT 15 13 (.load false 1) [14],
 oT 16 14 (.isNilM false) [15]])
 (.cond (.t 16) (.region [mT 17 15 0,
 oT 18 16 (.mkMap true false) [],
 oT 19 17 .nilCheck [17],
 oT 20 18 (.fieldAddr 0) [19],
 ⟨none,19,(.store 1),[.t 20,.t 18],none⟩]) (.skip)))
 (.seq (.region [mT 21 20 0,
 oT 22 21 .nilCheck [21],
 oT 23 22 (.fieldAddr 0) [22],
 oT 24 23 (.load false 1) [23],
 mT 25 24 1,
 oT 26 25 (.load true 3) [5],
 ⟨none,26,.mapSet,[.t 24,.t 25,.t 26],none⟩])
 (.seq (.region [oT 27 27 (.load true 3) [5],
 oT 28 28 (.call false 164) [27],
 mT 6 32 28])
 (.seq (.seq (.region [mT 29 33 0,
 mT 30 34 6,
 oT 31 35 .nilCheck [29],
 oT 32 36 (.fieldAddr 1) [31],
 oT 33 37 (.indexAddr 1 (some 65)) [32,30],
 oT 34 38 (.load false 1) [33],
 oT 35 39 (.isNilM false) [34]])
 (.cond (.t 35) (.region [mT 36 40 0,
 mT 37 41 6,
 oT 38 42 (.mkMap true false) [],
 oT 39 43 .nilCheck [36],
 oT 40 44 (.fieldAddr 1) [39],
 oT 41 45 (.indexAddr 1 (some 65)) [40,37],
 ⟨none,46,(.store 1),[.t 41,.t 38],none⟩]) (.skip)))
 (.region [mT 42 47 0,
 mT 43 48 6,
 oT 44 49 .nilCheck [42],
 oT 45 50 (.fieldAddr 1) [44],
 oT 46 51 (.indexAddr 1 (some 65)) [45,43],
 oT 47 52 (.load false 1) [46],
 mT 48 53 1,
 oT 49 54 (.build [] []) [],
 ⟨none,55,.mapSet,[.t 47,.t 48,.t 49],none⟩]))))))))
 [] 1 47
def f145.env:Env:=[(163,f163.C),(164,f164.C)]
def f145.tree (a:(Ob aC)×ByteArray×aC):Prop:=∃ c1:(Ob aC)×ByteArray,(a.2.1=c1.2)∧ObQ 0 0 a.1.nl c1.1.nl a.1.n c1.1.n a.1.ks c1.1.ks (ovs aE a.1) (ovs aE c1.1) (True∧Br (((delX c1).2).nl 0) (Br (Nat.blt 0 66&&((delX c1).2).nl 0&&eqBB true (Nat.ble 0 0)) (Br (!((omk ((delX c1).2) 0).nl 0)&&Nat.blt 0 66&&eqBB true (Nat.ble 0 0)) (∃ c6:aC,(a.2.2.1=c6.1)∧(a.2.2.2.1=c6.2.1)∧(a.2.2.2.2=c6.2.2)∧True∧Br (decide ((0:Int)≤(ofR c6))&&decide ((ofR c6) < (65:Int))) (Br (Nat.ble ((1+Int.toNat (ofR c6) * 1)+1) 66) (Br ((bK (omk ((delX c1).2) 0) a.2.1 a.2.2).nl (1+Int.toNat (ofR c6) * 1)) (Br (decide ((0:Int)≤(ofR c6))&&decide ((ofR c6) < (65:Int))) (Br (Nat.blt (1+Int.toNat (ofR c6) * 1) 66&&(bK (omk ((delX c1).2) 0) a.2.1 a.2.2).nl (1+Int.toNat (ofR c6) * 1)&&eqBB true (Nat.ble 0 (1+Int.toNat (ofR c6) * 1))) (Br (decide ((0:Int)≤(ofR c6))&&decide ((ofR c6) < (65:Int))) (Br (Nat.ble ((1+Int.toNat (ofR c6) * 1)+1) 66) (Br (!((omk (bK (omk ((delX c1).2) 0) a.2.1 a.2.2) (1+Int.toNat (ofR c6) * 1)).nl (1+Int.toNat (ofR c6) * 1))&&Nat.blt (1+Int.toNat (ofR c6) * 1) 66&&eqBB true (Nat.ble 0 (1+Int.toNat (ofR c6) * 1))) (ObQ 0 0 (dQ (omk (bK (omk ((delX c1).2) 0) a.2.1 a.2.2) (1+Int.toNat (ofR c6) * 1)) (1+Int.toNat (ofR c6) * 1) a.2.1).nl (putX a).nl (dQ (omk (bK (omk ((delX c1).2) 0) a.2.1 a.2.2) (1+Int.toNat (ofR c6) * 1)) (1+Int.toNat (ofR c6) * 1) a.2.1).n (putX a).n (dQ (omk (bK (omk ((delX c1).2) 0) a.2.1 a.2.2) (1+Int.toNat (ofR c6) * 1)) (1+Int.toNat (ofR c6) * 1) a.2.1).ks (putX a).ks (cE (cE (ovs aE ((delX c1).2)) 0 (eT ((omk ((delX c1).2) 0).ks 0) ((ovs aE ((delX c1).2)) 0) a.2.1 [.int .i64 a.2.2.1,.int .i64 a.2.2.2.1,.int .i64 a.2.2.2.2] ((omk ((delX c1).2) 0).n 0))) (1+Int.toNat (ofR c6) * 1) (eT ((omk (bK (omk ((delX c1).2) 0) a.2.1 a.2.2) (1+Int.toNat (ofR c6) * 1)).ks (1+Int.toNat (ofR c6) * 1)) ((cE (ovs aE ((delX c1).2)) 0 (eT ((omk ((delX c1).2) 0).ks 0) ((ovs aE ((delX c1).2)) 0) a.2.1 [.int .i64 a.2.2.1,.int .i64 a.2.2.2.1,.int .i64 a.2.2.2.2] ((omk ((delX c1).2) 0).n 0))) (1+Int.toNat (ofR c6) * 1)) a.2.1 [] ((omk (bK (omk ((delX c1).2) 0) a.2.1 a.2.2) (1+Int.toNat (ofR c6) * 1)).n (1+Int.toNat (ofR c6) * 1)))) (ovs aE (putX a)) (True)) False) False) False) False) False) (Br (decide ((0:Int)≤(ofR c6))&&decide ((ofR c6) < (65:Int))) (Br (Nat.ble ((1+Int.toNat (ofR c6) * 1)+1) 66) (Br (!((bK (omk ((delX c1).2) 0) a.2.1 a.2.2).nl (1+Int.toNat (ofR c6) * 1))&&Nat.blt (1+Int.toNat (ofR c6) * 1) 66&&eqBB true (Nat.ble 0 (1+Int.toNat (ofR c6) * 1))) (ObQ 0 0 (dQ (bK (omk ((delX c1).2) 0) a.2.1 a.2.2) (1+Int.toNat (ofR c6) * 1) a.2.1).nl (putX a).nl (dQ (bK (omk ((delX c1).2) 0) a.2.1 a.2.2) (1+Int.toNat (ofR c6) * 1) a.2.1).n (putX a).n (dQ (bK (omk ((delX c1).2) 0) a.2.1 a.2.2) (1+Int.toNat (ofR c6) * 1) a.2.1).ks (putX a).ks (cE (cE (ovs aE ((delX c1).2)) 0 (eT ((omk ((delX c1).2) 0).ks 0) ((ovs aE ((delX c1).2)) 0) a.2.1 [.int .i64 a.2.2.1,.int .i64 a.2.2.2.1,.int .i64 a.2.2.2.2] ((omk ((delX c1).2) 0).n 0))) (1+Int.toNat (ofR c6) * 1) (eT ((bK (omk ((delX c1).2) 0) a.2.1 a.2.2).ks (1+Int.toNat (ofR c6) * 1)) ((cE (ovs aE ((delX c1).2)) 0 (eT ((omk ((delX c1).2) 0).ks 0) ((ovs aE ((delX c1).2)) 0) a.2.1 [.int .i64 a.2.2.1,.int .i64 a.2.2.2.1,.int .i64 a.2.2.2.2] ((omk ((delX c1).2) 0).n 0))) (1+Int.toNat (ofR c6) * 1)) a.2.1 [] ((bK (omk ((delX c1).2) 0) a.2.1 a.2.2).n (1+Int.toNat (ofR c6) * 1)))) (ovs aE (putX a)) (True)) False) False) False)) False) False) False) False) (Br (!(((delX c1).2).nl 0)&&Nat.blt 0 66&&eqBB true (Nat.ble 0 0)) (∃ c37:aC,(a.2.2.1=c37.1)∧(a.2.2.2.1=c37.2.1)∧(a.2.2.2.2=c37.2.2)∧True∧Br (decide ((0:Int)≤(ofR c37))&&decide ((ofR c37) < (65:Int))) (Br (Nat.ble ((1+Int.toNat (ofR c37) * 1)+1) 66) (Br ((bK ((delX c1).2) a.2.1 a.2.2).nl (1+Int.toNat (ofR c37) * 1)) (Br (decide ((0:Int)≤(ofR c37))&&decide ((ofR c37) < (65:Int))) (Br (Nat.blt (1+Int.toNat (ofR c37) * 1) 66&&(bK ((delX c1).2) a.2.1 a.2.2).nl (1+Int.toNat (ofR c37) * 1)&&eqBB true (Nat.ble 0 (1+Int.toNat (ofR c37) * 1))) (Br (decide ((0:Int)≤(ofR c37))&&decide ((ofR c37) < (65:Int))) (Br (Nat.ble ((1+Int.toNat (ofR c37) * 1)+1) 66) (Br (!((omk (bK ((delX c1).2) a.2.1 a.2.2) (1+Int.toNat (ofR c37) * 1)).nl (1+Int.toNat (ofR c37) * 1))&&Nat.blt (1+Int.toNat (ofR c37) * 1) 66&&eqBB true (Nat.ble 0 (1+Int.toNat (ofR c37) * 1))) (ObQ 0 0 (dQ (omk (bK ((delX c1).2) a.2.1 a.2.2) (1+Int.toNat (ofR c37) * 1)) (1+Int.toNat (ofR c37) * 1) a.2.1).nl (putX a).nl (dQ (omk (bK ((delX c1).2) a.2.1 a.2.2) (1+Int.toNat (ofR c37) * 1)) (1+Int.toNat (ofR c37) * 1) a.2.1).n (putX a).n (dQ (omk (bK ((delX c1).2) a.2.1 a.2.2) (1+Int.toNat (ofR c37) * 1)) (1+Int.toNat (ofR c37) * 1) a.2.1).ks (putX a).ks (cE (cE (ovs aE ((delX c1).2)) 0 (eT (((delX c1).2).ks 0) ((ovs aE ((delX c1).2)) 0) a.2.1 [.int .i64 a.2.2.1,.int .i64 a.2.2.2.1,.int .i64 a.2.2.2.2] (((delX c1).2).n 0))) (1+Int.toNat (ofR c37) * 1) (eT ((omk (bK ((delX c1).2) a.2.1 a.2.2) (1+Int.toNat (ofR c37) * 1)).ks (1+Int.toNat (ofR c37) * 1)) ((cE (ovs aE ((delX c1).2)) 0 (eT (((delX c1).2).ks 0) ((ovs aE ((delX c1).2)) 0) a.2.1 [.int .i64 a.2.2.1,.int .i64 a.2.2.2.1,.int .i64 a.2.2.2.2] (((delX c1).2).n 0))) (1+Int.toNat (ofR c37) * 1)) a.2.1 [] ((omk (bK ((delX c1).2) a.2.1 a.2.2) (1+Int.toNat (ofR c37) * 1)).n (1+Int.toNat (ofR c37) * 1)))) (ovs aE (putX a)) (True)) False) False) False) False) False) (Br (decide ((0:Int)≤(ofR c37))&&decide ((ofR c37) < (65:Int))) (Br (Nat.ble ((1+Int.toNat (ofR c37) * 1)+1) 66) (Br (!((bK ((delX c1).2) a.2.1 a.2.2).nl (1+Int.toNat (ofR c37) * 1))&&Nat.blt (1+Int.toNat (ofR c37) * 1) 66&&eqBB true (Nat.ble 0 (1+Int.toNat (ofR c37) * 1))) (ObQ 0 0 (dQ (bK ((delX c1).2) a.2.1 a.2.2) (1+Int.toNat (ofR c37) * 1) a.2.1).nl (putX a).nl (dQ (bK ((delX c1).2) a.2.1 a.2.2) (1+Int.toNat (ofR c37) * 1) a.2.1).n (putX a).n (dQ (bK ((delX c1).2) a.2.1 a.2.2) (1+Int.toNat (ofR c37) * 1) a.2.1).ks (putX a).ks (cE (cE (ovs aE ((delX c1).2)) 0 (eT (((delX c1).2).ks 0) ((ovs aE ((delX c1).2)) 0) a.2.1 [.int .i64 a.2.2.1,.int .i64 a.2.2.2.1,.int .i64 a.2.2.2.2] (((delX c1).2).n 0))) (1+Int.toNat (ofR c37) * 1) (eT ((bK ((delX c1).2) a.2.1 a.2.2).ks (1+Int.toNat (ofR c37) * 1)) ((cE (ovs aE ((delX c1).2)) 0 (eT (((delX c1).2).ks 0) ((ovs aE ((delX c1).2)) 0) a.2.1 [.int .i64 a.2.2.1,.int .i64 a.2.2.2.1,.int .i64 a.2.2.2.2] (((delX c1).2).n 0))) (1+Int.toNat (ofR c37) * 1)) a.2.1 [] ((bK ((delX c1).2) a.2.1 a.2.2).n (1+Int.toNat (ofR c37) * 1)))) (ovs aE (putX a)) (True)) False) False) False)) False) False) False))
def f145.vc (a:(Ob aC)×ByteArray×aC):Prop:=(((((delX (a.1,a.2.1)).2).nl 0)=true→((0 < 66∧((delX (a.1,a.2.1)).2).nl 0=true∧(true=true↔0≤0))∧((((omk ((delX (a.1,a.2.1)).2) 0).nl 0)=false∧0 < 66∧(true=true↔0≤0))∧((0:Int)≤(ofR (a.2.2))∧(ofR (a.2.2)) < (65:Int)∧(((1+Int.toNat (ofR (a.2.2)) * 1)+1≤66)∧((((bK (omk ((delX (a.1,a.2.1)).2) 0) a.2.1 a.2.2).nl (1+Int.toNat (ofR (a.2.2)) * 1))=true→((0:Int)≤(ofR (a.2.2))∧(ofR (a.2.2)) < (65:Int)∧(((1+Int.toNat (ofR (a.2.2)) * 1) < 66∧(bK (omk ((delX (a.1,a.2.1)).2) 0) a.2.1 a.2.2).nl (1+Int.toNat (ofR (a.2.2)) * 1)=true∧(true=true↔0≤(1+Int.toNat (ofR (a.2.2)) * 1)))∧((0:Int)≤(ofR (a.2.2))∧(ofR (a.2.2)) < (65:Int)∧(((1+Int.toNat (ofR (a.2.2)) * 1)+1≤66)∧((((omk (bK (omk ((delX (a.1,a.2.1)).2) 0) a.2.1 a.2.2) (1+Int.toNat (ofR (a.2.2)) * 1)).nl (1+Int.toNat (ofR (a.2.2)) * 1))=false∧(1+Int.toNat (ofR (a.2.2)) * 1) < 66∧(true=true↔0≤(1+Int.toNat (ofR (a.2.2)) * 1)))∧(dQ (omk (bK (omk ((delX (a.1,a.2.1)).2) 0) a.2.1 a.2.2) (1+Int.toNat (ofR (a.2.2)) * 1)) (1+Int.toNat (ofR (a.2.2)) * 1) a.2.1=putX a)))))))∧(¬(((bK (omk ((delX (a.1,a.2.1)).2) 0) a.2.1 a.2.2).nl (1+Int.toNat (ofR (a.2.2)) * 1))=true)→((0:Int)≤(ofR (a.2.2))∧(ofR (a.2.2)) < (65:Int)∧(((1+Int.toNat (ofR (a.2.2)) * 1)+1≤66)∧((((bK (omk ((delX (a.1,a.2.1)).2) 0) a.2.1 a.2.2).nl (1+Int.toNat (ofR (a.2.2)) * 1))=false∧(1+Int.toNat (ofR (a.2.2)) * 1) < 66∧(true=true↔0≤(1+Int.toNat (ofR (a.2.2)) * 1)))∧(dQ (bK (omk ((delX (a.1,a.2.1)).2) 0) a.2.1 a.2.2) (1+Int.toNat (ofR (a.2.2)) * 1) a.2.1=putX a)))))))))))∧(¬((((delX (a.1,a.2.1)).2).nl 0)=true)→(((((delX (a.1,a.2.1)).2).nl 0)=false∧0 < 66∧(true=true↔0≤0))∧((0:Int)≤(ofR (a.2.2))∧(ofR (a.2.2)) < (65:Int)∧(((1+Int.toNat (ofR (a.2.2)) * 1)+1≤66)∧((((bK ((delX (a.1,a.2.1)).2) a.2.1 a.2.2).nl (1+Int.toNat (ofR (a.2.2)) * 1))=true→((0:Int)≤(ofR (a.2.2))∧(ofR (a.2.2)) < (65:Int)∧(((1+Int.toNat (ofR (a.2.2)) * 1) < 66∧(bK ((delX (a.1,a.2.1)).2) a.2.1 a.2.2).nl (1+Int.toNat (ofR (a.2.2)) * 1)=true∧(true=true↔0≤(1+Int.toNat (ofR (a.2.2)) * 1)))∧((0:Int)≤(ofR (a.2.2))∧(ofR (a.2.2)) < (65:Int)∧(((1+Int.toNat (ofR (a.2.2)) * 1)+1≤66)∧((((omk (bK ((delX (a.1,a.2.1)).2) a.2.1 a.2.2) (1+Int.toNat (ofR (a.2.2)) * 1)).nl (1+Int.toNat (ofR (a.2.2)) * 1))=false∧(1+Int.toNat (ofR (a.2.2)) * 1) < 66∧(true=true↔0≤(1+Int.toNat (ofR (a.2.2)) * 1)))∧(dQ (omk (bK ((delX (a.1,a.2.1)).2) a.2.1 a.2.2) (1+Int.toNat (ofR (a.2.2)) * 1)) (1+Int.toNat (ofR (a.2.2)) * 1) a.2.1=putX a)))))))∧(¬(((bK ((delX (a.1,a.2.1)).2) a.2.1 a.2.2).nl (1+Int.toNat (ofR (a.2.2)) * 1))=true)→((0:Int)≤(ofR (a.2.2))∧(ofR (a.2.2)) < (65:Int)∧(((1+Int.toNat (ofR (a.2.2)) * 1)+1≤66)∧((((bK ((delX (a.1,a.2.1)).2) a.2.1 a.2.2).nl (1+Int.toNat (ofR (a.2.2)) * 1))=false∧(1+Int.toNat (ofR (a.2.2)) * 1) < 66∧(true=true↔0≤(1+Int.toNat (ofR (a.2.2)) * 1)))∧(dQ (bK ((delX (a.1,a.2.1)).2) a.2.1 a.2.2) (1+Int.toNat (ofR (a.2.2)) * 1) a.2.1=putX a)))))))))))
theorem f145.of (a:(Ob aC)×ByteArray×aC) (h:f145.vc a):f145.tree a:=⟨(a.1,a.2.1),⟨rfl,obQ rfl (OV.self (e:=aE)) rfl (⟨trivial,br h Cnd.b (fun h2 k66=>chk k66.2 Cnd.ost k66.1 (fun h4 k35=>chk k35.2 Cnd.oset k35.1 (fun h5 k34=>⟨a.2.2,⟨rfl,⟨rfl,⟨rfl,⟨trivial,chk k34.2.2 Cnd.ix ⟨k34.1,k34.2.1⟩ (fun h7 k32=>chk k32.2 Cnd.ble k32.1 (fun h8 k31=>br k31 Cnd.b (fun h9 k29=>chk k29.2.2 Cnd.ix ⟨k29.1,k29.2.1⟩ (fun h11 k21=>chk k21.2 Cnd.ost k21.1 (fun h12 k20=>chk k20.2.2 Cnd.ix ⟨k20.1,k20.2.1⟩ (fun h13 k19=>chk k19.2 Cnd.ble k19.1 (fun h14 k18=>chk k18.2 Cnd.oset k18.1 (fun h15 k17=>obQ rfl (OV.setU (OV.mk (OV.setA (OV.mk (OV.self (e:=aE)) 0) (DEqs.refl _)) (1+Int.toNat (ofR (a.2.2)) * 1)) (by omega)) k17 (trivial))))))) (fun h10 k30=>chk k30.2.2 Cnd.ix ⟨k30.1,k30.2.1⟩ (fun h22 k28=>chk k28.2 Cnd.ble k28.1 (fun h23 k27=>chk k27.2 Cnd.oset k27.1 (fun h24 k26=>obQ rfl (OV.setU (OV.setA (OV.mk (OV.self (e:=aE)) 0) (DEqs.refl _)) (by omega)) k26 (trivial)))))))⟩⟩⟩⟩⟩))) (fun h3 k67=>chk k67.2 Cnd.oset k67.1 (fun h36 k65=>⟨a.2.2,⟨rfl,⟨rfl,⟨rfl,⟨trivial,chk k65.2.2 Cnd.ix ⟨k65.1,k65.2.1⟩ (fun h38 k63=>chk k63.2 Cnd.ble k63.1 (fun h39 k62=>br k62 Cnd.b (fun h40 k60=>chk k60.2.2 Cnd.ix ⟨k60.1,k60.2.1⟩ (fun h42 k52=>chk k52.2 Cnd.ost k52.1 (fun h43 k51=>chk k51.2.2 Cnd.ix ⟨k51.1,k51.2.1⟩ (fun h44 k50=>chk k50.2 Cnd.ble k50.1 (fun h45 k49=>chk k49.2 Cnd.oset k49.1 (fun h46 k48=>obQ rfl (OV.setU (OV.mk (OV.setA (OV.self (e:=aE)) (DEqs.refl _)) (1+Int.toNat (ofR (a.2.2)) * 1)) (by omega)) k48 (trivial))))))) (fun h41 k61=>chk k61.2.2 Cnd.ix ⟨k61.1,k61.2.1⟩ (fun h53 k59=>chk k59.2 Cnd.ble k59.1 (fun h54 k58=>chk k58.2 Cnd.oset k58.1 (fun h55 k57=>obQ rfl (OV.setU (OV.setA (OV.self (e:=aE)) (DEqs.refl _)) (by omega)) k57 (trivial)))))))⟩⟩⟩⟩⟩))⟩)⟩⟩
theorem f145.eq (a:(Ob aC)×ByteArray×aC):(f145.af a).gives f145.env (f145.args a) (f145.blks a) (f145.res a) (f145.blks' a)=f145.tree a:=by kernel_rfl
def f148.args (a:(Ob aC)×aC):List D:=[.ptr 0 0,.agg [.int .i64 a.2.1,.int .i64 a.2.2.1,.int .i64 a.2.2.2]]
def f148.blks (a:(Ob aC)×aC):List (List D):=[[.dead,.obj 66 0 0 a.1.nl a.1.n a.1.ks (ovs aE a.1)]]
def f148.res (a:(Ob aC)×aC):List D:=[.slice .ro 1 (((bR a).1).length) (gl aA ((bR a).1))]
def f148.blks' (a:(Ob aC)×aC):List (List D):=[[.dead,.obj 66 0 0 ((bR a).2).nl ((bR a).2).n ((bR a).2).ks (ovs aE ((bR a).2))]]
def f148.C:aO:=FnC f148.args f148.blks (fun a=>eI a) f148.res f148.blks'
def f148.S0 (a:(Ob aC)×aC) (x:(Nat×Nat)×Int×Int×(List (ByteArray))):Tm:=⟨.ptr 0 0::.dead::.dead::.ptr 1000000 0::.dead::.msl 1000006 1 x.2.2.2.length::dd 10 (.osl 0 x.1.1 x.1.2::.int .i64 x.2.1::.int .i64 x.2.2.1::dd 25 []),[(0,false,[.dead,.obj 66 0 0 a.1.nl a.1.n a.1.ks (ovs aE a.1)]),(1000000,false,[.int .i64 a.2.1,.int .i64 a.2.2.1,.int .i64 a.2.2.2]),(1000006,false,[.dead,.arr true 1 x.2.2.2.length (gl aA x.2.2.2)])],[]⟩
def f148.S1 (a:(Ob aC)×aC) (x:(Nat×Nat)×Int×Int×(List (ByteArray))×(Nat×Bool×Nat×(Nat→Bool)×Option Nat)):Tm:=⟨.ptr 0 0::.dead::.dead::.ptr 1000000 0::.dead::.msl 1000006 1 x.2.2.2.1.length::dd 10 (.osl 0 x.1.1 x.1.2::.int .i64 x.2.1::.int .i64 x.2.2.1::.dead::.dead::.dead::.dead::.ptr 1000023 0::dd 20 []),[(0,false,[.dead,.obj 66 0 0 a.1.nl a.1.n a.1.ks (ovs aE a.1)]),(1000000,false,[.int .i64 a.2.1,.int .i64 a.2.2.1,.int .i64 a.2.2.2]),(1000006,false,[.dead,.arr true 1 x.2.2.2.1.length (gl aA x.2.2.2.1)]),(1000023,false,[.dead,.mit 0 x.2.2.2.2.1 x.2.2.2.2.2.1 x.2.2.2.2.2.2.1 x.2.2.2.2.2.2.2.1 x.2.2.2.2.2.2.2.2])],[]⟩
def f148.kills (a:(Ob aC)×aC):List Hint:=[.tell ((Nat×Nat)×Int×Int×(List (ByteArray))) (f148.S0 a),
 .tell ((Nat×Nat)×Int×Int×(List (ByteArray))×(Nat×Bool×Nat×(Nat→Bool)×Option Nat)) (f148.S1 a)]
def f148.cuts (a:(Ob aC)×aC):List (Nat×Σ β:Type,β→Tm):=[(999999,⟨Unit,fun x=>⟨[],[],[]⟩⟩),
 (1000005000004,⟨Unit,fun x=>⟨[],[],[]⟩⟩),
 (2000005000016,⟨Unit,fun x=>⟨[],[],[]⟩⟩)]
def f148.af (a:(Ob aC)×aC):AF:=AF.mk (.seq (.region [oR 3 0 .box [1],
 oR 4 1 (.nilSl 1) []])
 (.seq (.seq (.region [mR 9 2 0,
 oR 10 3 (.isNil true false) [9]])
 (.cond (.t 10) (.seq (.region [oR 4 4 (.nilSl 1) []])
 (.ret)) (.skip)))
 (.seq (.region [oR 5 5 (.nilSl 1) []])
 (.seq (.thaw 1000006 5) (.seq (.seq (.region [mR 11 7 0,
 oR 12 8 .nilCheck [11],
 oR 13 9 (.fieldAddr 1) [12],
 oR 14 10 (.load true 3) [3],
 oR 15 11 (.call false 164) [14],
 oR 16 15 (.sliceObj 65 true false) [13,15],
 oR 17 16 (.len false) [16],
 ⟨(some 18),1000017,.move,[.c (.int .i64 (0))],none⟩])
 (.block 0 (.loopT ((Nat×Nat)×Int×Int×(List (ByteArray))) (f148.S0 a) 1000018 1000050 (.seq (.region [oR 19 18 (.bin .lss) [18,17]])
 (.seq (.cond (.t 19) (.skip) (.exit 0))
 (.seq (.block 1 (.seq (.region [oR 20 19 (.indexAddr 1 none) [16,18],
 oR 21 20 (.load false 1) [20],
 mR 7 21 21])
 (.seq (.region [mR 22 22 7,
 oR 23 23 .mapWalk [22]])
 (.block 2 (.loopT ((Nat×Nat)×Int×Int×(List (ByteArray))×(Nat×Bool×Nat×(Nat→Bool)×Option Nat)) (f148.S1 a) 1000024 1000048 (.seq (.region [oR 24 24 .mapNext [23],
 oR 25 25 (.extract 0) [24]])
 (.seq (.cond (.t 25) (.skip) (.exit 2))
 (.block 3 (.seq (.region [oR 26 26 .mapEntry [23],
 oR 27 27 (.extract 0) [26],
 mR 8 28 27])
 (.seq (.region [oR 28 29 (.load true 3) [3],
 mR 29 30 0,
 oR 30 31 .nilCheck [29],
 oR 31 32 (.fieldAddr 0) [30],
 oR 32 33 (.load false 1) [31],
 mR 33 34 8,
 oR 34 35 (.mapGet false true [.int .i64 (0),.int .i64 (0),.int .i64 (0)]) [32,33],
 oR 35 39 (.call false 34) [28,34]])
 (.cond (.t 35) (.region [mR 36 43 5,
 mR 37 44 8,
 oR 38 45 (.buildSlice 1 1 [.str ByteArray.empty] [(0,1)]) [37],
 oR 39 46 (.append 1 16) [36,38],
 mR 5 47 39]) (.skip))))))))))))
 (.region [⟨(some 40),1000048,(.bin .add),[.t 18,.c (.int .i64 (1))],none⟩,
 mR 18 49 40])))))))
 (.seq (.region [mR 41 50 5,
 oR 42 51 (.call true 167) [41]])
 (.seq (.frz 5) (.seq (.region [mR 43 55 5,
 mR 4 56 43])
 (.ret)))))))))
 [.tmp 4] 1 42
def f148.env:Env:=[(164,f164.C),(34,f34.C),(167,f167.C)]
def f148.tree (a:(Ob aC)×aC):Prop:=∃ c1:aC,(a.2.1=c1.1)∧(a.2.2.1=c1.2.1)∧(a.2.2.2=c1.2.2)∧True∧Br (decide ((0:Int)≤(ofR c1))&&decide ((ofR c1)≤(65:Int))&&decide ((65:Int)≤(65:Int))&&Nat.ble (1+65) 66) (∃ (I4:((Nat×Nat)×Int×Int×(List (ByteArray)))→Prop) (μ5:((Nat×Nat)×Int×Int×(List (ByteArray)))→Nat),(∃ x3:(Nat×Nat)×Int×Int×(List (ByteArray)),(0=x3.2.2.2.length)∧((1+Int.toNat (ofR c1))=x3.1.1)∧((Int.toNat ((65:Int) - (ofR c1)))=x3.1.2)∧((Int.toNat ((65:Int) - (ofR c1)):Int)=x3.2.1)∧((0:Int)=x3.2.2.1)∧ObQ 0 0 a.1.nl a.1.nl a.1.n a.1.n a.1.ks a.1.ks (ovs aE a.1) (ovs aE a.1) ((a.2.1=a.2.1)∧(a.2.2.1=a.2.2.1)∧(a.2.2.2=a.2.2.2)∧SlQ 0 x3.2.2.2.length l4 (gl aA x3.2.2.2) (I4 x3)))∧∀ y6:(Nat×Nat)×Int×Int×(List (ByteArray)),I4 y6→(Br (decide (y6.2.2.1 < y6.2.1)) (Br (decide ((0:Int)≤y6.2.2.1)&&decide (y6.2.2.1 < (y6.1.2:Int))) (Br (Nat.ble ((y6.1.1+Int.toNat y6.2.2.1)+1) 66) (Br (Nat.blt (y6.1.1+Int.toNat y6.2.2.1) 66) (∃ (I13:((Nat×Nat)×Int×Int×(List (ByteArray))×(Nat×Bool×Nat×(Nat→Bool)×Option Nat))→Prop) (μ14:((Nat×Nat)×Int×Int×(List (ByteArray))×(Nat×Bool×Nat×(Nat→Bool)×Option Nat))→Nat),(∃ x12:(Nat×Nat)×Int×Int×(List (ByteArray))×(Nat×Bool×Nat×(Nat→Bool)×Option Nat),(y6.2.2.2.length=x12.2.2.2.1.length)∧(y6.1.1=x12.1.1)∧(y6.1.2=x12.1.2)∧(y6.2.1=x12.2.1)∧(y6.2.2.1=x12.2.2.1)∧ObQ 0 0 a.1.nl a.1.nl a.1.n a.1.n a.1.ks a.1.ks (ovs aE a.1) (ovs aE a.1) ((a.2.1=a.2.1)∧(a.2.2.1=a.2.2.1)∧(a.2.2.2=a.2.2.2)∧SlQ y6.2.2.2.length x12.2.2.2.1.length (gl aA y6.2.2.2) (gl aA x12.2.2.2.1) (MtQ (y6.1.1+Int.toNat y6.2.2.1) x12.2.2.2.2.1 (a.1.nl (y6.1.1+Int.toNat y6.2.2.1)) x12.2.2.2.2.2.1 0 x12.2.2.2.2.2.2.1 (fun _=>false) x12.2.2.2.2.2.2.2.1 none x12.2.2.2.2.2.2.2.2 (I13 x12))))∧∀ y15:(Nat×Nat)×Int×Int×(List (ByteArray))×(Nat×Bool×Nat×(Nat→Bool)×Option Nat),I13 y15→(0=y15.2.2.2.2.2.2.1∧y15.2.2.2.2.1 < 66∧((y15.2.2.2.2.2.1=true∨∀ x,x < a.1.n y15.2.2.2.2.1→y15.2.2.2.2.2.2.2.1 x=true)→(Let (wI (y15.2.2.1+(1:Int))) (fun v16:Int=>∃ x17:(Nat×Nat)×Int×Int×(List (ByteArray)),(y15.2.2.2.1.length=x17.2.2.2.length)∧(y15.1.1=x17.1.1)∧(y15.1.2=x17.1.2)∧(y15.2.1=x17.2.1)∧(v16=x17.2.2.1)∧ObQ 0 0 a.1.nl a.1.nl a.1.n a.1.n a.1.ks a.1.ks (ovs aE a.1) (ovs aE a.1) ((a.2.1=a.2.1)∧(a.2.2.1=a.2.2.1)∧(a.2.2.2=a.2.2.2)∧SlQ y15.2.2.2.1.length x17.2.2.2.length (gl aA y15.2.2.2.1) (gl aA x17.2.2.2) (I4 x17∧μ5 x17 < μ5 y6)))))∧(y15.2.2.2.2.2.1=false→∀ x22:Nat,x22 < a.1.n y15.2.2.2.2.1→y15.2.2.2.2.2.2.2.1 x22=false→((0=y15.2.2.2.2.2.2.1∧y15.2.2.2.2.1 < 66∧x22 < a.1.n y15.2.2.2.2.1)∧(Br (kZ a.1 0 (a.1.nl 0) (a.1.ks y15.2.2.2.2.1 x22)) (f34.ent (fun c32=>True∧Br (dW c32) ((y15.2.2.2.1.length=y15.2.2.2.1.length∧wU ((y15.2.2.2.1.length+1) * 16))∧(∃ x35:(Nat×Nat)×Int×Int×(List (ByteArray))×(Nat×Bool×Nat×(Nat→Bool)×Option Nat),((y15.2.2.2.1.length+1)=x35.2.2.2.1.length)∧(y15.1.1=x35.1.1)∧(y15.1.2=x35.1.2)∧(y15.2.1=x35.2.1)∧(y15.2.2.1=x35.2.2.1)∧ObQ 0 0 a.1.nl a.1.nl a.1.n a.1.n a.1.ks a.1.ks (ovs aE a.1) (ovs aE a.1) ((a.2.1=a.2.1)∧(a.2.2.1=a.2.2.1)∧(a.2.2.2=a.2.2.2)∧SlQ (y15.2.2.2.1.length+1) x35.2.2.2.1.length (i4 (gl aA y15.2.2.2.1) y15.2.2.2.1.length (fun _=>[.str (a.1.ks y15.2.2.2.2.1 x22)])) (gl aA x35.2.2.2.1) (MtQ y15.2.2.2.2.1 x35.2.2.2.2.1 false x35.2.2.2.2.2.1 y15.2.2.2.2.2.2.1 x35.2.2.2.2.2.2.1 (fun y=>bif Nat.beq y x22 then true else y15.2.2.2.2.2.2.2.1 y) x35.2.2.2.2.2.2.2.1 (some x22) x35.2.2.2.2.2.2.2.2 (I13 x35∧μ14 x35 < μ14 y15))))) (∃ x37:(Nat×Nat)×Int×Int×(List (ByteArray))×(Nat×Bool×Nat×(Nat→Bool)×Option Nat),(y15.2.2.2.1.length=x37.2.2.2.1.length)∧(y15.1.1=x37.1.1)∧(y15.1.2=x37.1.2)∧(y15.2.1=x37.2.1)∧(y15.2.2.1=x37.2.2.1)∧ObQ 0 0 a.1.nl a.1.nl a.1.n a.1.n a.1.ks a.1.ks (ovs aE a.1) (ovs aE a.1) ((a.2.1=a.2.1)∧(a.2.2.1=a.2.2.1)∧(a.2.2.2=a.2.2.2)∧SlQ y15.2.2.2.1.length x37.2.2.2.1.length (gl aA y15.2.2.2.1) (gl aA x37.2.2.2.1) (MtQ y15.2.2.2.2.1 x37.2.2.2.2.1 false x37.2.2.2.2.2.1 y15.2.2.2.2.2.2.1 x37.2.2.2.2.2.2.1 (fun y=>bif Nat.beq y x22 then true else y15.2.2.2.2.2.2.2.1 y) x37.2.2.2.2.2.2.2.1 (some x22) x37.2.2.2.2.2.2.2.2 (I13 x37∧μ14 x37 < μ14 y15))))) (a.2,(oat a.1 (a.1.ks y15.2.2.2.2.1 x22)))) (f34.ent (fun c42=>True∧Br (dW c42) ((y15.2.2.2.1.length=y15.2.2.2.1.length∧wU ((y15.2.2.2.1.length+1) * 16))∧(∃ x45:(Nat×Nat)×Int×Int×(List (ByteArray))×(Nat×Bool×Nat×(Nat→Bool)×Option Nat),((y15.2.2.2.1.length+1)=x45.2.2.2.1.length)∧(y15.1.1=x45.1.1)∧(y15.1.2=x45.1.2)∧(y15.2.1=x45.2.1)∧(y15.2.2.1=x45.2.2.1)∧ObQ 0 0 a.1.nl a.1.nl a.1.n a.1.n a.1.ks a.1.ks (ovs aE a.1) (ovs aE a.1) ((a.2.1=a.2.1)∧(a.2.2.1=a.2.2.1)∧(a.2.2.2=a.2.2.2)∧SlQ (y15.2.2.2.1.length+1) x45.2.2.2.1.length (i4 (gl aA y15.2.2.2.1) y15.2.2.2.1.length (fun _=>[.str (a.1.ks y15.2.2.2.2.1 x22)])) (gl aA x45.2.2.2.1) (MtQ y15.2.2.2.2.1 x45.2.2.2.2.1 false x45.2.2.2.2.2.1 y15.2.2.2.2.2.2.1 x45.2.2.2.2.2.2.1 (fun y=>bif Nat.beq y x22 then true else y15.2.2.2.2.2.2.2.1 y) x45.2.2.2.2.2.2.2.1 (some x22) x45.2.2.2.2.2.2.2.2 (I13 x45∧μ14 x45 < μ14 y15))))) (∃ x47:(Nat×Nat)×Int×Int×(List (ByteArray))×(Nat×Bool×Nat×(Nat→Bool)×Option Nat),(y15.2.2.2.1.length=x47.2.2.2.1.length)∧(y15.1.1=x47.1.1)∧(y15.1.2=x47.1.2)∧(y15.2.1=x47.2.1)∧(y15.2.2.1=x47.2.2.1)∧ObQ 0 0 a.1.nl a.1.nl a.1.n a.1.n a.1.ks a.1.ks (ovs aE a.1) (ovs aE a.1) ((a.2.1=a.2.1)∧(a.2.2.1=a.2.2.1)∧(a.2.2.2=a.2.2.2)∧SlQ y15.2.2.2.1.length x47.2.2.2.1.length (gl aA y15.2.2.2.1) (gl aA x47.2.2.2.1) (MtQ y15.2.2.2.2.1 x47.2.2.2.2.1 false x47.2.2.2.2.2.1 y15.2.2.2.2.2.2.1 x47.2.2.2.2.2.2.1 (fun y=>bif Nat.beq y x22 then true else y15.2.2.2.2.2.2.2.1 y) x47.2.2.2.2.2.2.2.1 (some x22) x47.2.2.2.2.2.2.2.2 (I13 x47∧μ14 x47 < μ14 y15))))) (a.2,((0:Int),(0:Int),(0:Int))))))))) False) False) False) ((y6.2.2.2.length=y6.2.2.2.length)∧∃ c60:List (ByteArray),(y6.2.2.2.length=List.length c60)∧SlQ y6.2.2.2.length c60.length (gl aA y6.2.2.2) (gl aA c60) ((p8 c60)∧((List.length ((eX slt) c60))=y6.2.2.2.length)∧(SlQ (List.length ((eX slt) c60)) (((bR a).1).length) (gl aA ((eX slt) c60)) (gl aA ((bR a).1)) (ObQ 0 0 a.1.nl ((bR a).2).nl a.1.n ((bR a).2).n a.1.ks ((bR a).2).ks (ovs aE a.1) (ovs aE ((bR a).2)) (True))))))) False
def f148.vc (a:(Ob aC)×aC):Prop:=((0:Int)≤(ofR (a.2))∧(ofR (a.2))≤(65:Int)∧(∃ (I4:((Nat×Nat)×Int×Int×(List (ByteArray)))→Prop) (μ5:((Nat×Nat)×Int×Int×(List (ByteArray)))→Nat),I4 ((1+Int.toNat (ofR (a.2)),Int.toNat ((65:Int) - (ofR (a.2)))),(Int.toNat ((65:Int) - (ofR (a.2))):Int),(0:Int),[])∧∀ y6:(Nat×Nat)×Int×Int×(List (ByteArray)),I4 y6→((y6.2.2.1 < y6.2.1→((0:Int)≤y6.2.2.1∧y6.2.2.1 < (y6.1.2:Int)∧(((y6.1.1+Int.toNat y6.2.2.1)+1≤66)∧(((y6.1.1+Int.toNat y6.2.2.1) < 66)∧(∃ (I13:((Nat×Nat)×Int×Int×(List (ByteArray))×(Nat×Bool×Nat×(Nat→Bool)×Option Nat))→Prop) (μ14:((Nat×Nat)×Int×Int×(List (ByteArray))×(Nat×Bool×Nat×(Nat→Bool)×Option Nat))→Nat),I13 ((y6.1.1,y6.1.2),y6.2.1,y6.2.2.1,y6.2.2.2,(y6.1.1+Int.toNat y6.2.2.1,a.1.nl (y6.1.1+Int.toNat y6.2.2.1),0,fun _=>false,none))∧∀ y15:(Nat×Nat)×Int×Int×(List (ByteArray))×(Nat×Bool×Nat×(Nat→Bool)×Option Nat),I13 y15→(0=y15.2.2.2.2.2.2.1∧y15.2.2.2.2.1 < 66∧((y15.2.2.2.2.2.1=true∨∀ x,x < a.1.n y15.2.2.2.2.1→y15.2.2.2.2.2.2.2.1 x=true)→(-9223372036854775808≤(y15.2.2.1+(1:Int))∧(y15.2.2.1+(1:Int))≤9223372036854775807∧(I4 ((y15.1.1,y15.1.2),y15.2.1,(y15.2.2.1+(1:Int)),y15.2.2.2.1)∧μ5 ((y15.1.1,y15.1.2),y15.2.1,(y15.2.2.1+(1:Int)),y15.2.2.2.1) < μ5 y6)))∧(y15.2.2.2.2.2.1=false→∀ x22:Nat,x22 < a.1.n y15.2.2.2.2.1→y15.2.2.2.2.2.2.2.1 x22=false→((kZ a.1 0 (a.1.nl 0) (a.1.ks y15.2.2.2.2.1 x22)=true→(((dW (a.2,(oat a.1 (a.1.ks y15.2.2.2.2.1 x22))))=true→(y15.2.2.2.1.length+1≤1073741824∧(I13 ((y15.1.1,y15.1.2),y15.2.1,y15.2.2.1,y15.2.2.2.1++([a.1.ks y15.2.2.2.2.1 x22]),(y15.2.2.2.2.1,false,y15.2.2.2.2.2.2.1,fun y=>bif Nat.beq y x22 then true else y15.2.2.2.2.2.2.2.1 y,some x22))∧μ14 ((y15.1.1,y15.1.2),y15.2.1,y15.2.2.1,y15.2.2.2.1++([a.1.ks y15.2.2.2.2.1 x22]),(y15.2.2.2.2.1,false,y15.2.2.2.2.2.2.1,fun y=>bif Nat.beq y x22 then true else y15.2.2.2.2.2.2.2.1 y,some x22)) < μ14 y15)))∧(¬((dW (a.2,(oat a.1 (a.1.ks y15.2.2.2.2.1 x22))))=true)→(I13 ((y15.1.1,y15.1.2),y15.2.1,y15.2.2.1,y15.2.2.2.1,(y15.2.2.2.2.1,false,y15.2.2.2.2.2.2.1,fun y=>bif Nat.beq y x22 then true else y15.2.2.2.2.2.2.2.1 y,some x22))∧μ14 ((y15.1.1,y15.1.2),y15.2.1,y15.2.2.1,y15.2.2.2.1,(y15.2.2.2.2.1,false,y15.2.2.2.2.2.2.1,fun y=>bif Nat.beq y x22 then true else y15.2.2.2.2.2.2.2.1 y,some x22)) < μ14 y15))))∧(¬(kZ a.1 0 (a.1.nl 0) (a.1.ks y15.2.2.2.2.1 x22)=true)→(((dW (a.2,((0:Int),(0:Int),(0:Int))))=true→(y15.2.2.2.1.length+1≤1073741824∧(I13 ((y15.1.1,y15.1.2),y15.2.1,y15.2.2.1,y15.2.2.2.1++([a.1.ks y15.2.2.2.2.1 x22]),(y15.2.2.2.2.1,false,y15.2.2.2.2.2.2.1,fun y=>bif Nat.beq y x22 then true else y15.2.2.2.2.2.2.2.1 y,some x22))∧μ14 ((y15.1.1,y15.1.2),y15.2.1,y15.2.2.1,y15.2.2.2.1++([a.1.ks y15.2.2.2.2.1 x22]),(y15.2.2.2.2.1,false,y15.2.2.2.2.2.2.1,fun y=>bif Nat.beq y x22 then true else y15.2.2.2.2.2.2.2.1 y,some x22)) < μ14 y15)))∧(¬((dW (a.2,((0:Int),(0:Int),(0:Int))))=true)→(I13 ((y15.1.1,y15.1.2),y15.2.1,y15.2.2.1,y15.2.2.2.1,(y15.2.2.2.2.1,false,y15.2.2.2.2.2.2.1,fun y=>bif Nat.beq y x22 then true else y15.2.2.2.2.2.2.2.1 y,some x22))∧μ14 ((y15.1.1,y15.1.2),y15.2.1,y15.2.2.1,y15.2.2.2.1,(y15.2.2.2.2.1,false,y15.2.2.2.2.2.2.1,fun y=>bif Nat.beq y x22 then true else y15.2.2.2.2.2.2.2.1 y,some x22)) < μ14 y15))))))))))))∧(¬(y6.2.2.1 < y6.2.1)→(p8 y6.2.2.2∧((List.length ((eX slt) (y6.2.2.2)))=y6.2.2.2.length∧((((eX slt) (y6.2.2.2)),a.1)=bR a)))))))
theorem f148.of (a:(Ob aC)×aC) (h:f148.vc a):f148.tree a:=⟨a.2,⟨rfl,⟨rfl,⟨rfl,⟨trivial,chk h.2.2 Cnd.osl ⟨h.1,h.2.1,(by decide),(by decide)⟩ (fun h2 k69=>Exists.elim k69 (fun I4 h66_=>Exists.elim h66_ (fun μ5 h66=>⟨I4,μ5,⟨((1+Int.toNat (ofR (a.2)),Int.toNat ((65:Int) - (ofR (a.2)))),(Int.toNat ((65:Int) - (ofR (a.2))):Int),(0:Int),[]),⟨(bA l4 (Rds.nil (enc:=aA))),⟨rfl,⟨rfl,⟨rfl,⟨rfl,obQ rfl (OV.self (e:=aE)) rfl (⟨rfl,⟨rfl,⟨rfl,slQ (Rds.nil (enc:=aA)) (h66.1)⟩⟩⟩)⟩⟩⟩⟩⟩⟩,fun y6 h68=>br (h66.2 y6 h68) Cnd.dec (fun h7 k64=>chk k64.2.2 Cnd.ix ⟨k64.1,k64.2.1⟩ (fun h9 k59=>chk k59.2 Cnd.ble k59.1 (fun h10 k58=>chk k58.2 Cnd.blt k58.1 (fun h11 k57=>Exists.elim k57 (fun I13 h54_=>Exists.elim h54_ (fun μ14 h54=>⟨I13,μ14,⟨((y6.1.1,y6.1.2),y6.2.1,y6.2.2.1,y6.2.2.2,(y6.1.1+Int.toNat y6.2.2.1,a.1.nl (y6.1.1+Int.toNat y6.2.2.1),0,fun _=>false,none)),⟨(bA (gl aA y6.2.2.2) (rS aA)),⟨rfl,⟨rfl,⟨rfl,⟨rfl,obQ rfl (OV.self (e:=aE)) rfl (⟨rfl,⟨rfl,⟨rfl,slQ (rS aA) (mtQ  (h54.1))⟩⟩⟩)⟩⟩⟩⟩⟩⟩,fun y15 h56=>iQ (h54.2 y15 h56) (fun (h23:0=y15.2.2.2.2.2.2.1) h28_=>iQ h28_ (fun (h24:y15.2.2.2.2.1 < 66) h28=>⟨h23,h24,fun h29=>wrapK.i64 (h28.1 h29) (fun h19 h20 k21=>⟨((y15.1.1,y15.1.2),y15.2.1,(y15.2.2.1+(1:Int)),y15.2.2.2.1),⟨(bA (gl aA y15.2.2.2.1) (rS aA)),⟨rfl,⟨rfl,⟨rfl,⟨rfl,obQ rfl (OV.self (e:=aE)) rfl (⟨rfl,⟨rfl,⟨rfl,slQ (rS aA) (k21)⟩⟩⟩)⟩⟩⟩⟩⟩⟩),fun h27 x22 h25 h26=>⟨⟨h23,h24,h25⟩,br (h28.2 h27 x22 h25 h26) Cnd.b (fun h30 k52=>(f34.ei ⟨trivial,br k52 Cnd.b (fun h33 k39=>⟨⟨rfl,aFR k39.1 (by decide)⟩,⟨((y15.1.1,y15.1.2),y15.2.1,y15.2.2.1,y15.2.2.2.1++([a.1.ks y15.2.2.2.2.1 x22]),(y15.2.2.2.2.1,false,y15.2.2.2.2.2.2.1,fun y=>bif Nat.beq y x22 then true else y15.2.2.2.2.2.2.2.1 y,some x22)),⟨(bA (i4 (gl aA y15.2.2.2.1) y15.2.2.2.1.length (fun _=>[.str (a.1.ks y15.2.2.2.2.1 x22)])) (Rds.app (enc:=aA) (rS aA) (Rds.one (enc:=aA) (DEqs.refl _)))),⟨rfl,⟨rfl,⟨rfl,⟨rfl,obQ rfl (OV.self (e:=aE)) rfl (⟨rfl,⟨rfl,⟨rfl,slQ (Rds.app (enc:=aA) (rS aA) (Rds.one (enc:=aA) (DEqs.refl _))) (mtQ  (k39.2))⟩⟩⟩)⟩⟩⟩⟩⟩⟩⟩) (fun h34 k40=>⟨((y15.1.1,y15.1.2),y15.2.1,y15.2.2.1,y15.2.2.2.1,(y15.2.2.2.2.1,false,y15.2.2.2.2.2.2.1,fun y=>bif Nat.beq y x22 then true else y15.2.2.2.2.2.2.2.1 y,some x22)),⟨(bA (gl aA y15.2.2.2.1) (rS aA)),⟨rfl,⟨rfl,⟨rfl,⟨rfl,obQ rfl (OV.self (e:=aE)) rfl (⟨rfl,⟨rfl,⟨rfl,slQ (rS aA) (mtQ  (k40))⟩⟩⟩)⟩⟩⟩⟩⟩⟩)⟩)) (fun h31 k53=>(f34.ei ⟨trivial,br k53 Cnd.b (fun h43 k49=>⟨⟨rfl,aFR k49.1 (by decide)⟩,⟨((y15.1.1,y15.1.2),y15.2.1,y15.2.2.1,y15.2.2.2.1++([a.1.ks y15.2.2.2.2.1 x22]),(y15.2.2.2.2.1,false,y15.2.2.2.2.2.2.1,fun y=>bif Nat.beq y x22 then true else y15.2.2.2.2.2.2.2.1 y,some x22)),⟨(bA (i4 (gl aA y15.2.2.2.1) y15.2.2.2.1.length (fun _=>[.str (a.1.ks y15.2.2.2.2.1 x22)])) (Rds.app (enc:=aA) (rS aA) (Rds.one (enc:=aA) (DEqs.refl _)))),⟨rfl,⟨rfl,⟨rfl,⟨rfl,obQ rfl (OV.self (e:=aE)) rfl (⟨rfl,⟨rfl,⟨rfl,slQ (Rds.app (enc:=aA) (rS aA) (Rds.one (enc:=aA) (DEqs.refl _))) (mtQ  (k49.2))⟩⟩⟩)⟩⟩⟩⟩⟩⟩⟩) (fun h44 k50=>⟨((y15.1.1,y15.1.2),y15.2.1,y15.2.2.1,y15.2.2.2.1,(y15.2.2.2.2.1,false,y15.2.2.2.2.2.2.1,fun y=>bif Nat.beq y x22 then true else y15.2.2.2.2.2.2.2.1 y,some x22)),⟨(bA (gl aA y15.2.2.2.1) (rS aA)),⟨rfl,⟨rfl,⟨rfl,⟨rfl,obQ rfl (OV.self (e:=aE)) rfl (⟨rfl,⟨rfl,⟨rfl,slQ (rS aA) (mtQ  (k50))⟩⟩⟩)⟩⟩⟩⟩⟩⟩)⟩))⟩⟩))⟩)))))) (fun h8 k65=>⟨rfl,⟨y6.2.2.2,⟨(bA (gl aA y6.2.2.2) (rS aA)),slQ (rS aA) (⟨k65.1,iQ k65.2 (fun (h61:(List.length ((eX slt) (y6.2.2.2)))=y6.2.2.2.length) hk=>⟨h61,slQ (Rds.to (rS aA) (congrArg (fun x:(List (ByteArray))×(Ob aC)=>x.1) hk :)) (obQ rfl (OV.self (e:=aE)) (congrArg (fun x:(List (ByteArray))×(Ob aC)=>x.2) hk :) (trivial))⟩)⟩)⟩⟩⟩)⟩)))⟩⟩⟩⟩⟩
theorem f148.eq (a:(Ob aC)×aC):(f148.af a).gives f148.env (f148.args a) (f148.blks a) (f148.res a) (f148.blks' a)=f148.tree a:=by kernel_rfl
def f261.args (a:Ob aC):List D:=[.ptr 0 0]
def f261.blks (a:Ob aC):List (List D):=[[.dead,.obj 66 0 0 a.nl a.n a.ks (ovs aE a)]]
def f261.res (a:Ob aC):List D:=[.int .i64 ((lenX a).1)]
def f261.blks' (a:Ob aC):List (List D):=[[.dead,.obj 66 0 0 ((lenX a).2).nl ((lenX a).2).n ((lenX a).2).ks (ovs aE ((lenX a).2))]]
def f261.C:aO:=FnC f261.args f261.blks (fun _=>True) f261.res f261.blks'
def f261.kills (a:Ob aC):List Hint:=[]
def f261.cuts (a:Ob aC):List (Nat×Σ β:Type,β→Tm):=[]
def f261.af (a:Ob aC):AF:=AF.mk (.seq (.region [⟨(some 2),1,.move,[.c (.int .i64 (0))],none⟩])
 (.seq (.seq (.region [mT 3 2 0,
 oT 4 3 (.isNil true false) [3]])
 (.cond (.t 4) (.seq (.region [⟨(some 2),4,.move,[.c (.int .i64 (0))],none⟩])
 (.ret)) (.skip)))
 (.seq (.region [mT 5 5 0,
 oT 6 6 .nilCheck [5],
 oT 7 7 (.fieldAddr 0) [6],
 oT 8 8 (.load false 1) [7],
 oT 9 9 .mapLen [8],
 mT 2 10 9])
 (.ret))))
 [.tmp 2] 1 9
def f261.env:Env:=[]
def f261.tree (a:Ob aC):Prop:=((aHJ a 0 (a.nl 0):Int)=((lenX a).1))∧ObQ 0 0 a.nl ((lenX a).2).nl a.n ((lenX a).2).n a.ks ((lenX a).2).ks (ovs aE a) (ovs aE ((lenX a).2)) (True)
def f261.vc (a:Ob aC):Prop:=(((aHJ a 0 (a.nl 0):Int),a)=lenX a)
theorem f261.of (a:Ob aC) (h:f261.vc a):f261.tree a:=⟨(congrArg (fun x:Int×(Ob aC)=>x.1) h :),obQ rfl (OV.self (e:=aE)) (congrArg (fun x:Int×(Ob aC)=>x.2) h :) (trivial)⟩
theorem f261.eq (a:Ob aC):(f261.af a).gives f261.env (f261.args a) (f261.blks a) (f261.res a) (f261.blks' a)=f261.tree a:=by kernel_rfl
set_option linter.unusedVariables false
set_option linter.unusedVariables false
theorem aLT {n:Nat} (h:n < 18446744073709551616):eA n≤64:=by
 unfold eA
 split
 ·omega
 ·rename_i h0
  have:n.log2 < 64:=(Nat.log2_lt h0).2 h
  omega
theorem zH (e:Int):0≤IntKind.u64.wrap e∧IntKind.u64.wrap e < 18446744073709551616:=by
 simp [IntKind.wrap,IntKind.signed,IntKind.bits]
 omega
theorem kN (a:Rs3):0≤ofR a∧ofR a < 65:=by
 have h:=zH (mx a.1 0)
 unfold ofR cH
 have:=aLT (n:=(IntKind.u64.wrap (mx a.1 0)).toNat) (by omega)
 omega
theorem aGL (a:Rs3):1≤spB a∧spB a < 66:=by
 have:=kN a
 unfold spB
 omega
theorem aJZ (a:Rs3):spB a≠0:=by have:=aGL a; omega
theorem f164.ok (a:Rs3) (_:True):f164.vc a:=by
 have h:=zH (mx a.1 0)
 exact ⟨⟨h.1,by omega⟩,rfl⟩
theorem f143.ok (a:Unit) (_:True):f143.vc a:=rfl
theorem f192.ok (a:Ob Rs3×ByteArray) (_:True):f192.vc a:=by
 refine ⟨fun h=>?_,fun h=>?_⟩
 ·unfold getX nI
  rw [h]
  rfl
 ·unfold getX nI
  rw [Bool.eq_false_iff.2 h]
  rfl
theorem f163.ok (a:Ob Rs3×ByteArray) (_:True):f163.vc a:=by
 have hs:=kN (nI a.1 a.2 (0,0,0))
 refine ⟨fun h=>⟨hs.1,hs.2,?_,?_,?_⟩,fun h=>?_⟩
 ·show 1+Int.toNat (ofR (nI a.1 a.2 (0,0,0))) * 1+1≤66
  omega
 ·show 1+Int.toNat (ofR (nI a.1 a.2 (0,0,0))) * 1 < 66
  omega
 ·have h:kZ a.1 0 (a.1.nl 0) a.2=true:=h
  unfold delX iC getX nI
  simp only [h,cond_true]
  rfl
 ·have h:kZ a.1 0 (a.1.nl 0) a.2=false:=Bool.eq_false_iff.2 h
  unfold delX iC getX
  simp only [h,cond_false]
theorem f145.ok (a:Ob Rs3×ByteArray×Rs3) (_:True):f145.vc a:=by
 have hs:=kN a.2.2
 have h1:1+Int.toNat (ofR a.2.2) * 1+1≤66:=by omega
 have h2:1+Int.toNat (ofR a.2.2) * 1 < 66:=by omega
 have h3:(true=true↔0≤1+Int.toNat (ofR a.2.2) * 1):=⟨fun _=>by omega,fun _=>rfl⟩
 have h4:(true=true↔0≤0):=by simp
 refine ⟨fun c=>⟨⟨by omega,c,h4⟩,⟨aEN _ _,by omega,h4⟩,hs.1,hs.2,h1,fun d=>⟨hs.1,hs.2,⟨h2,d,h3⟩,hs.1,hs.2,h1,⟨aEN _ _,h2,h3⟩,?_⟩,fun d=>⟨hs.1,hs.2,h1,⟨Bool.eq_false_iff.2 d,h2,h3⟩,?_⟩⟩,
  fun c=>⟨⟨Bool.eq_false_iff.2 c,by omega,h4⟩,hs.1,hs.2,h1,fun d=>⟨hs.1,hs.2,⟨h2,d,h3⟩,hs.1,hs.2,h1,⟨aEN _ _,h2,h3⟩,?_⟩,fun d=>⟨hs.1,hs.2,h1,⟨Bool.eq_false_iff.2 d,h2,h3⟩,?_⟩⟩⟩
 all_goals unfold putX aII
 ·rw [aA9 (o:=iC spB a.1 a.2.1) (j:=0) c,aA9 (o:=bK (omk (iC spB a.1 a.2.1) 0) a.2.1 a.2.2) (j:=spB a.2.2) d]
  rfl
 ·rw [aA9 (o:=iC spB a.1 a.2.1) (j:=0) c,aBG (o:=bK (omk (iC spB a.1 a.2.1) 0) a.2.1 a.2.2) (j:=spB a.2.2) d]
  rfl
 ·rw [aBG (o:=iC spB a.1 a.2.1) (j:=0) c,aA9 (o:=bK (iC spB a.1 a.2.1) a.2.1 a.2.2) (j:=spB a.2.2) d]
  rfl
 ·rw [aBG (o:=iC spB a.1 a.2.1) (j:=0) c,aBG (o:=bK (iC spB a.1 a.2.1) a.2.1 a.2.2) (j:=spB a.2.2) d]
  rfl
theorem f261.ok (a:Ob Rs3) (_:True):f261.vc a:=rfl
theorem f148.ok (a:Ob Rs3×Rs3) (h:eI a):f148.vc a:=by
 obtain ⟨o,x⟩:=a
 have h:∀ j n,j≠0→(fY o (fun _=>true) j n).length≤1048576:=h
 have hof:=kN x
 let p:ByteArray→Bool:=fun k=>dW (x,nI o k (0,0,0))
 let J:=1+Int.toNat (ofR x)
 let M:=Int.toNat (65 - ofR x)
 have hJ:J=1+Int.toNat (ofR x):=rfl
 have hM:M=Int.toNat (65 - ofR x):=rfl
 have hle:∀ n,(fY o p J n).length≤1048576:=fun n=>Nat.le_trans (wN o p J n) (h J n (by omega))
 refine ⟨hof.1,by simp only; omega,?_⟩
 refine ⟨fun y=>y.1.1=J∧y.1.2=M∧y.2.1=(M:Int)∧0≤y.2.2.1∧y.2.2.1≤(M:Int)∧y.2.2.2.Perm (fY o p J y.2.2.1.toNat),fun y=>M - y.2.2.1.toNat,⟨rfl,rfl,rfl,by simp only; omega,by simp only; omega,List.Perm.refl _⟩,fun y hy=>?_⟩
 obtain ⟨⟨J',M'⟩,n,i,out⟩:=y
 obtain ⟨q1,q2,q3,g0,g1,g2⟩:=hy
 simp only at q1 q2 q3 g0 g1 g2
 subst q1 q2 q3
 refine ⟨fun hlt=>?_,fun hge=>?_⟩
 ·simp only at hlt
  refine ⟨g0,hlt,by simp only; omega,by simp only; omega,?_⟩
  refine ⟨fun y=>y.1.1=J∧y.1.2=M∧y.2.1=(M:Int)∧y.2.2.1=i∧y.2.2.2.2.1=J+i.toNat∧y.2.2.2.2.2.1=o.nl (J+i.toNat)∧y.2.2.2.2.2.2.1=0∧y.2.2.2.1.Perm (fY o p J i.toNat++jH o p (J+i.toNat) y.2.2.2.2.2.2.2.1),
   fun y=>aGA o (J+i.toNat) y.2.2.2.2.2.2.2.1,⟨rfl,rfl,rfl,rfl,rfl,rfl,rfl,by simp only; rw [aFK,List.append_nil]; exact g2⟩,fun y hy=>?_⟩
  obtain ⟨⟨J2,M2⟩,n2,i',out',j,b,c,s,q⟩:=y
  obtain ⟨e1,e2,e3,e4,e5,e6,e7,k1⟩:=hy
  simp only at e1 e2 e3 e4 e5 e6 e7 k1
  subst e1 e2 e3 e4 e5 e6 e7
  have hlen:out'.length≤1048576:=by
   rw [k1.length_eq,List.length_append]
   have h2:=h J (i'.toNat+1) (by omega)
   rw [lP,List.length_append] at h2
   have h3:=wN o p J i'.toNat
   have h4:=aJM (o:=o) p (J+i'.toNat) s
   omega
  refine ⟨rfl,by simp only; omega,fun hov=>?_,fun hb x' hx hs=>?_⟩
  ·refine ⟨by simp only; omega,by simp only; omega,⟨rfl,rfl,rfl,by simp only; omega,by simp only; omega,?_⟩,by simp only; omega⟩
   simp only at hov ⊢
   rw [aGS hov] at k1
   rw [show (i'+1).toNat=i'.toNat+1 by omega,lP]
   exact k1
  ·simp only at hb hx hs ⊢
   have add:p (o.ks (J+i'.toNat) x')=true→(out'++[o.ks (J+i'.toNat) x']).Perm (fY o p J i'.toNat++jH o p (J+i'.toNat) fun y=>bif Nat.beq y x' then true else s y):=fun hp =>
    (((k1.append_right _).trans (by rw [List.append_assoc])).trans ((aG7 hb hx hs hp).symm.append_left _))
   have skip:p (o.ks (J+i'.toNat) x')=false→out'.Perm (fY o p J i'.toNat++jH o p (J+i'.toNat) fun y=>bif Nat.beq y x' then true else s y):=fun hp =>
    k1.trans ((aEL hb hx hs hp).symm.append_left _)
   have hmu:=aH4 (o:=o) hx hs
   refine ⟨fun hh=>?_,fun hh=>?_⟩
   ·have hg:nI o (o.ks (J+i'.toNat) x') (0,0,0)=oat o (o.ks (J+i'.toNat) x'):=by unfold nI; rw [hh]; rfl
    have hp:p (o.ks (J+i'.toNat) x')=dW (x,oat o (o.ks (J+i'.toNat) x')):=by rw [← hg]
    exact ⟨fun hc=>⟨by omega,⟨trivial,trivial,trivial,trivial,trivial,hb.symm,trivial,add (hp.trans hc)⟩,hmu⟩,fun hc=>⟨⟨trivial,trivial,trivial,trivial,trivial,hb.symm,trivial,skip (hp.trans (Bool.eq_false_iff.2 hc))⟩,hmu⟩⟩
   ·have hg:nI o (o.ks (J+i'.toNat) x') (0,0,0)=(0,0,0):=by unfold nI; rw [Bool.eq_false_iff.2 hh]; rfl
    have hp:p (o.ks (J+i'.toNat) x')=dW (x,(0,0,0)):=by rw [← hg]
    exact ⟨fun hc=>⟨by omega,⟨trivial,trivial,trivial,trivial,trivial,hb.symm,trivial,add (hp.trans hc)⟩,hmu⟩,fun hc=>⟨⟨trivial,trivial,trivial,trivial,trivial,hb.symm,trivial,skip (hp.trans (Bool.eq_false_iff.2 hc))⟩,hmu⟩⟩
 ·simp only at hge
  have hi:i.toNat=M:=by omega
  rw [hi] at g2
  have hl:out.length≤1048576:=by rw [g2.length_eq]; exact hle _
  exact ⟨hl,aHN out,Prod.ext (uZ g2) rfl⟩
end Go.Abs
