/- Functions, and what the code asks of them: PSortO. -/
import Derived.KernelRfl
import Derived.Test.YtjlehbennimkgabOrderOnceP4
import Derived.Test.YtjlehbennimkgabOrderOnceP5
import Derived.Test.YtjlehbennimkgabOrderOnceP6
import Derived.Test.YtjlehbennimkgabOrderOnceP9
import Derived.Test.YtjlehbennimkgabOrderOnceP10
import Derived.Test.YtjlehbennimkgabOrderOnceP12
import Derived.Test.YtjlehbennimkgabOrderOnceP14
import Derived.Test.YtjlehbennimkgabOrderOnceP15
import Derived.Test.YtjlehbennimkgabOrderOnceP17
import Derived.Test.YtjlehbennimkgabOrderOnceP18
set_option maxRecDepth 100000
set_option maxHeartbeats 4000000
set_option linter.unusedVariables false
set_option linter.unusedSimpArgs false
namespace Go.Abs
open Go
def yS (c:aU×aU):Int:=orI [fG (c.2.1.2.2.1,c.1.1.2.2.1),fG (c.1.2.1,c.2.2.1)]
def jQ (c:Int×Int×List aU):Int:=yS (at_ c.2.2 c.1,at_ c.2.2 c.2.1)
def cC (jobs:List aU) (i j:Int):Bool:=decide (jQ (i,j,jobs) < 0)
def InR (jobs:List aU) (l:List Int):Prop:=∀ x∈l,0≤x∧x < (jobs.length:Int)
def eL (c:Int×Int×List aU):Prop:=(0≤c.1∧c.1 < (c.2.2.length:Int))∧0≤c.2.1∧c.2.1 < (c.2.2.length:Int)
def b6 (c:List Int×Int×Int×Int×List aU):List Int:=mG c.1 c.2.1.toNat c.2.2.1.toNat c.2.2.2.1.toNat
def eD (c:List Int×Int×Int×Int×List aU):Prop:=aCP (c.1,c.2.1,c.2.2.1,c.2.2.2.1)
def nR (c:List Int×Int×Int×Int×List aU):List Int:=dH c.1 c.2.1.toNat c.2.2.1.toNat c.2.2.2.1.toNat
def lR (c:List Int×Int×Int×Int×List aU):Prop:=aA8 (c.1,c.2.1,c.2.2.1,c.2.2.2.1)
def jJ (c:List Int×Int×Int×List aU):List Int:=dY (bB (cC c.2.2.2)) c.1 c.2.1.toNat c.2.2.1.toNat
def iA (c:List Int×Int×Int×List aU):Prop:=aE7 (c.1,c.2.1,c.2.2.1)∧InR c.2.2.2 c.1
def cH (c:List Int×Int×Int×Int×List aU):List Int:=dY (bB (cC c.2.2.2.2)) c.1 c.2.1.toNat c.2.2.2.1.toNat
def gK (c:List Int×Int×Int×Int×List aU):Prop:=aFE (cC c.2.2.2.2) (c.1,c.2.1,c.2.2.1,c.2.2.2.1)∧InR c.2.2.2.2 c.1
def rT (c:List Int×Int×Int×Int×List aU):Nat:=aHD (c.1,c.2.1,c.2.2.1,c.2.2.2.1)
def gG (c:List Int×Int×List aU):List Int:=bB (cC c.2.2) c.1
def jB (c:List Int×Int×List aU):Prop:=(c.2.1=c.1.length∧c.1.length≤1048576)∧InR c.2.2 c.1
def fA (c:List Int×List aU):List Int:=bB (cC c.2) c.1
def nB (c:List Int×List aU):Prop:=c.1.length≤1048576∧InR c.2 c.1
def aN (j:aU):ByteArray:=j.1.2.2.2.2.2.2.1
def aF8 (j:aU):Int:=j.1.2.2.2.2.2.2.2
def aE6 (jobs:List aU):List Int:=(t8 jobs.length).filter fun i=>dC (at_ jobs i)
def cU (jobs:List aU):List Int:=bB (cC jobs) (aE6 jobs)
def eR (a:List aU×ByteArray):Int:=((a.1.filter fun j=>decide (aN j=a.2)).length:Int)
def jR (jobs:List aU) (l:List Int) (i:Nat):List (List Int) :=
 if aN (at_ jobs (l.getD i default))=ByteArray.empty then [[l.getD i default]] else
 if (∀ k,k < i→aN (at_ jobs (l.getD k default))≠aN (at_ jobs (l.getD i default)))∧aF8 (at_ jobs (l.getD i default))≤eR (jobs,aN (at_ jobs (l.getD i default))) then
  [l.filter fun p=>decide (aN (at_ jobs p)=aN (at_ jobs (l.getD i default)))] else []
def d6 (jobs:List aU) (l:List Int) (n:Nat):List (List Int):=(List.range n).flatMap (jR jobs l)
def bK (jobs:List aU):List (List Int):=d6 jobs (cU jobs) (cU jobs).length
def gA (jobs:List aU):Prop:=L20 jobs
def dZ (l:List Int):List Int:=l
def i4 (jobs:List aU):Bool:=decide (jobs.length≤100)&&(List.range jobs.length).all fun i=>decide ((aN (jobs.getD i default)).size≤1000)
def f114.args (a:(List (Int))×(List (aB))):List D:=[.msl 0 1 a.1.length,.fn 115 [.eptr [.slice .ro 13 a.2.length (gl aD a.2)]]]
def f114.blks (a:(List (Int))×(List (aB))):List (List D):=[[.dead,.arr false 1 a.1.length (gl aC a.1)]]
def f114.res (a:(List (Int))×(List (aB))):List D:=[]
def f114.blks' (a:(List (Int))×(List (aB))):List (List D):=[[.dead,.arr false 1 (List.length (fA a)) (gl aC (fA a))]]
def f114.C:aX:=FnC f114.args f114.blks (fun a=>nB a) f114.res f114.blks'
def f128.args (a:(List (Int))×Int×(List (aB))):List D:=[.msl 0 1 a.1.length,.int .i64 a.2.1,.fn 115 [.eptr [.slice .ro 13 a.2.2.length (gl aD a.2.2)]]]
def f128.blks (a:(List (Int))×Int×(List (aB))):List (List D):=[[.dead,.arr false 1 a.1.length (gl aC a.1)]]
def f128.res (a:(List (Int))×Int×(List (aB))):List D:=[]
def f128.blks' (a:(List (Int))×Int×(List (aB))):List (List D):=[[.dead,.arr false 1 (List.length (gG a)) (gl aC (gG a))]]
def f128.C:aX:=FnC f128.args f128.blks (fun a=>jB a) f128.res f128.blks'
set_option linter.unusedVariables false
def f114.kills (a:(List (Int))×(List (aB))):List iX:=[]
def f114.cuts (a:(List (Int))×(List (aB))):List (Nat×Σ β:Type,β→Tm):=[(999999,⟨Unit,fun x=>⟨[],[],[]⟩⟩)]
def f114.af (a:(List (Int))×(List (aB))):AF:=AF.mk (.region [oR 4 0 .move [0],
 oR 5 1 .move [0],
 oR 6 2 (.len false) [5],
 oR 7 3 .move [1],
 oR 8 4 (.call true 128) [4,6,7]])
 [] 1 7
def f114.env:Env:=[(128,f128.C)]
def f114.tree (a:(List (Int))×(List (aB))):Prop:=(a.1.length=a.1.length)∧∃ c1:(List (Int))×Int×(List (aB)),(a.1.length=List.length c1.1)∧((List.length a.1:Int)=c1.2.1)∧(DEqs [.eptr [.slice .ro 13 a.2.length (gl aD a.2)]] [.eptr [.slice .ro 13 c1.2.2.length (gl aD c1.2.2)]])∧SlQ a.1.length c1.1.length (gl aC a.1) (gl aC c1.1) ((jB c1)∧SlQ (List.length (gG c1)) (List.length (fA a)) (gl aC (gG c1)) (gl aC (fA a)) (True))
def f114.vc (a:(List (Int))×(List (aB))):Prop:=(jB (a.1,(List.length a.1:Int),a.2)∧((List.length (gG (a.1,(List.length a.1:Int),a.2)))=a.1.length∧((gG (a.1,(List.length a.1:Int),a.2))=fA a)))
theorem f114.of (a:(List (Int))×(List (aB))) (h:f114.vc a):f114.tree a:=⟨rfl,⟨(a.1,(List.length a.1:Int),a.2),⟨(bP (gl aC a.1) (rS aC)),⟨rfl,⟨(DEqs.refl _),slQ (rS aC) (⟨h.1,rG h.2 (fun (h2:(List.length (gG (a.1,(List.length a.1:Int),a.2)))=a.1.length) hk=>slQ (Rds.to (rS aC) hk) (trivial))⟩)⟩⟩⟩⟩⟩
theorem f114.eq (a:(List (Int))×(List (aB))):(f114.af a).gives f114.env (f114.args a) (f114.blks a) (f114.res a) (f114.blks' a)=f114.tree a:=by kernel_rfl
def f115.args (a:Int×Int×(List (aB))):List D:=[.int .i64 a.1,.int .i64 a.2.1,.eptr [.slice .ro 13 a.2.2.length (gl aD a.2.2)]]
def f115.blks (a:Int×Int×(List (aB))):List (List D):=[]
def f115.res (a:Int×Int×(List (aB))):List D:=[.int .i64 (jQ a)]
def f115.blks' (a:Int×Int×(List (aB))):List (List D):=[]
def f115.C:aX:=FnC f115.args f115.blks (fun a=>eL a) f115.res f115.blks'
def f116.ent (K:(aB×aB)→Prop) (t:aB×aB):Prop:=∃ c:aB×aB,(t.1.1.1=c.1.1.1)∧(t.1.1.2.1=c.1.1.2.1)∧(t.1.1.2.2.1=c.1.1.2.2.1)∧(t.1.1.2.2.2.1.1=c.1.1.2.2.2.1.1)∧(t.1.1.2.2.2.1.2.1=c.1.1.2.2.2.1.2.1)∧(t.1.1.2.2.2.1.2.2=c.1.1.2.2.2.1.2.2)∧SlQ t.1.1.2.2.2.2.1.length c.1.1.2.2.2.2.1.length (gl bO t.1.1.2.2.2.2.1) (gl bO c.1.1.2.2.2.2.1) ((t.1.1.2.2.2.2.2.1=c.1.1.2.2.2.2.2.1)∧(t.1.1.2.2.2.2.2.2.1=c.1.1.2.2.2.2.2.2.1)∧(t.1.1.2.2.2.2.2.2.2=c.1.1.2.2.2.2.2.2.2)∧(t.1.2.1=c.1.2.1)∧(t.1.2.2.1=c.1.2.2.1)∧(t.1.2.2.2=c.1.2.2.2)∧(t.2.1.1=c.2.1.1)∧(t.2.1.2.1=c.2.1.2.1)∧(t.2.1.2.2.1=c.2.1.2.2.1)∧(t.2.1.2.2.2.1.1=c.2.1.2.2.2.1.1)∧(t.2.1.2.2.2.1.2.1=c.2.1.2.2.2.1.2.1)∧(t.2.1.2.2.2.1.2.2=c.2.1.2.2.2.1.2.2)∧SlQ t.2.1.2.2.2.2.1.length c.2.1.2.2.2.2.1.length (gl bO t.2.1.2.2.2.2.1) (gl bO c.2.1.2.2.2.2.1) ((t.2.1.2.2.2.2.2.1=c.2.1.2.2.2.2.2.1)∧(t.2.1.2.2.2.2.2.2.1=c.2.1.2.2.2.2.2.2.1)∧(t.2.1.2.2.2.2.2.2.2=c.2.1.2.2.2.2.2.2.2)∧(t.2.2.1=c.2.2.1)∧(t.2.2.2.1=c.2.2.2.1)∧(t.2.2.2.2=c.2.2.2.2)∧K c))
theorem f116.ei {K:(aB×aB)→Prop} {t:aB×aB} (h:K t):f116.ent K t:=⟨t,⟨rfl,⟨rfl,⟨rfl,⟨rfl,⟨rfl,⟨rfl,slQ (rS bO) (⟨rfl,⟨rfl,⟨rfl,⟨rfl,⟨rfl,⟨rfl,⟨rfl,⟨rfl,⟨rfl,⟨rfl,⟨rfl,⟨rfl,slQ (rS bO) (⟨rfl,⟨rfl,⟨rfl,⟨rfl,⟨rfl,⟨rfl,h⟩⟩⟩⟩⟩⟩)⟩⟩⟩⟩⟩⟩⟩⟩⟩⟩⟩⟩)⟩⟩⟩⟩⟩⟩⟩
def f116.args (a:aB×aB):List D:=[.agg [.str a.1.1.1,.str a.1.1.2.1,.int .i64 a.1.1.2.2.1,.int .i64 a.1.1.2.2.2.1.1,.int .i64 a.1.1.2.2.2.1.2.1,.int .i64 a.1.1.2.2.2.1.2.2,.slice .ro 2 a.1.1.2.2.2.2.1.length (gl bO a.1.1.2.2.2.2.1),.str a.1.1.2.2.2.2.2.1,.str a.1.1.2.2.2.2.2.2.1,.int .i64 a.1.1.2.2.2.2.2.2.2,.int .i64 a.1.2.1,.str a.1.2.2.1,.int .i64 a.1.2.2.2],.agg [.str a.2.1.1,.str a.2.1.2.1,.int .i64 a.2.1.2.2.1,.int .i64 a.2.1.2.2.2.1.1,.int .i64 a.2.1.2.2.2.1.2.1,.int .i64 a.2.1.2.2.2.1.2.2,.slice .ro 2 a.2.1.2.2.2.2.1.length (gl bO a.2.1.2.2.2.2.1),.str a.2.1.2.2.2.2.2.1,.str a.2.1.2.2.2.2.2.2.1,.int .i64 a.2.1.2.2.2.2.2.2.2,.int .i64 a.2.2.1,.str a.2.2.2.1,.int .i64 a.2.2.2.2]]
def f116.blks (a:aB×aB):List (List D):=[]
def f116.res (a:aB×aB):List D:=[.int .i64 (yS a)]
def f116.blks' (a:aB×aB):List (List D):=[]
def f116.C:aX:=FnC f116.args f116.blks (fun _=>True) f116.res f116.blks'
def f115.kills (a:Int×Int×(List (aB))):List iX:=[]
def f115.cuts (a:Int×Int×(List (aB))):List (Nat×Σ β:Type,β→Tm):=[]
def f115.af (a:Int×Int×(List (aB))):AF:=AF.mk (.seq (.region [⟨(some 5),0,.move,[.c (.int .i64 (0))],none⟩])
 (.seq (.region [oT 6 1 (.load false 1) [2],
 oT 7 2 .move [0],
 oT 8 3 (.indexAddr 13 none) [6,7],
 oT 9 4 (.load true 13) [8],
 oT 10 5 (.load false 1) [2],
 oT 11 6 .move [1],
 oT 12 7 (.indexAddr 13 none) [10,11],
 oT 13 8 (.load true 13) [12],
 oT 14 9 (.call false 116) [9,13],
 oT 5 13 .move [14]])
 (.ret)))
 [.tmp 5] 0 12
def f115.env:Env:=[(116,f116.C)]
def f115.tree (a:Int×Int×(List (aB))):Prop:=Br (decide ((0:Int)≤a.1)&&decide (a.1 < (a.2.2.length:Int))) (Br (decide ((0:Int)≤a.2.1)&&decide (a.2.1 < (a.2.2.length:Int))) (f116.ent (fun c3=>True∧((yS c3)=(jQ a))∧True) ((at_ a.2.2 a.1),(at_ a.2.2 a.2.1))) False) False
def f115.vc (a:Int×Int×(List (aB))):Prop:=((0:Int)≤a.1∧a.1 < (a.2.2.length:Int)∧((0:Int)≤a.2.1∧a.2.1 < (a.2.2.length:Int)∧((yS ((at_ a.2.2 a.1),(at_ a.2.2 a.2.1)))=jQ a)))
theorem f115.of (a:Int×Int×(List (aB))) (h:f115.vc a):f115.tree a:=chk h.2.2 Cnd.ix ⟨h.1,h.2.1⟩ (fun h1 k7=>chk k7.2.2 Cnd.ix ⟨k7.1,k7.2.1⟩ (fun h2 k6=>(f116.ei ⟨trivial,⟨k6,trivial⟩⟩)))
theorem f115.eq (a:Int×Int×(List (aB))):(f115.af a).gives f115.env (f115.args a) (f115.blks a) (f115.res a) (f115.blks' a)=f115.tree a:=by kernel_rfl
def f116.kills (a:aB×aB):List iX:=[]
def f116.cuts (a:aB×aB):List (Nat×Σ β:Type,β→Tm):=[]
def f116.af (a:aB×aB):AF:=AF.mk (.seq (.region [oT 2 0 .box [0],
 oT 3 1 .box [1],
 ⟨(some 4),2,.move,[.c (.int .i64 (0))],none⟩])
 (.seq (.region [oT 5 3 (.fieldAddr 0) [3],
 oT 6 4 (.fieldAddr 2) [5],
 oT 7 5 (.load false 1) [6],
 oT 8 6 (.fieldAddr 0) [2],
 oT 9 7 (.fieldAddr 2) [8],
 oT 10 8 (.load false 1) [9],
 oT 11 9 (.call false 130) [7,10],
 oT 12 13 (.fieldAddr 10) [2],
 oT 13 14 (.load false 1) [12],
 oT 14 15 (.fieldAddr 10) [3],
 oT 15 16 (.load false 1) [14],
 oT 16 17 (.call false 130) [13,15],
 oT 17 21 (.buildSlice 1 2 [.int .i64 (0)] [(0,1),(1,1)]) [11,16],
 oT 18 22 (.call false 129) [17],
 oT 4 26 .move [18]])
 (.ret)))
 [.tmp 4] 0 17
def f116.env:Env:=[(130,f130.C),(129,f129.C)]
def f116.tree (a:aB×aB):Prop:=∃ c1:Int×Int,(a.2.1.2.2.1=c1.1)∧(a.1.1.2.2.1=c1.2)∧True∧∃ c2:Int×Int,(a.1.2.1=c2.1)∧(a.2.2.1=c2.2)∧True∧∃ c3:List (Int),SlQ 2 c3.length (fun j=>List.take 1 (List.drop (j * 1) [.int .i64 (fG c1),.int .i64 (fG c2)])) (gl aC c3) ((pH c3)∧((orI c3)=(yS a))∧True)
def f116.vc (a:aB×aB):Prop:=(pH ([(fG (a.2.1.2.2.1,a.1.1.2.2.1)),(fG (a.1.2.1,a.2.2.1))])∧((orI ([(fG (a.2.1.2.2.1,a.1.1.2.2.1)),(fG (a.1.2.1,a.2.2.1))]))=yS a))
theorem f116.of (a:aB×aB) (h:f116.vc a):f116.tree a:=⟨(a.2.1.2.2.1,a.1.1.2.2.1),⟨rfl,⟨rfl,⟨trivial,⟨(a.1.2.1,a.2.2.1),⟨rfl,⟨rfl,⟨trivial,⟨[(fG (a.2.1.2.2.1,a.1.1.2.2.1)),(fG (a.1.2.1,a.2.2.1))],slQ (Rds.row (enc:=aC) ⟨rfl,fun i hi=>by repeat (first | rfl | exact absurd hi (Nat.not_lt.2 (Nat.le_add_left 2 _)) | (cases i with | zero=>rfl | succ i=>?_))⟩) (⟨h.1,⟨h.2,trivial⟩⟩)⟩⟩⟩⟩⟩⟩⟩⟩⟩
theorem f116.eq (a:aB×aB):(f116.af a).gives f116.env (f116.args a) (f116.blks a) (f116.res a) (f116.blks' a)=f116.tree a:=by kernel_rfl
def f133.args (a:(List (Int))×Int×Int×(List (aB))):List D:=[.msl 0 1 a.1.length,.int .i64 a.2.1,.int .i64 a.2.2.1,.fn 115 [.eptr [.slice .ro 13 a.2.2.2.length (gl aD a.2.2.2)]]]
def f133.blks (a:(List (Int))×Int×Int×(List (aB))):List (List D):=[[.dead,.arr false 1 a.1.length (gl aC a.1)]]
def f133.res (a:(List (Int))×Int×Int×(List (aB))):List D:=[]
def f133.blks' (a:(List (Int))×Int×Int×(List (aB))):List (List D):=[[.dead,.arr false 1 (List.length (jJ a)) (gl aC (jJ a))]]
def f133.C:aX:=FnC f133.args f133.blks (fun a=>iA a) f133.res f133.blks'
def f134.args (a:(List (Int))×Int×Int×Int×(List (aB))):List D:=[.msl 0 1 a.1.length,.int .i64 a.2.1,.int .i64 a.2.2.1,.int .i64 a.2.2.2.1,.fn 115 [.eptr [.slice .ro 13 a.2.2.2.2.length (gl aD a.2.2.2.2)]]]
def f134.blks (a:(List (Int))×Int×Int×Int×(List (aB))):List (List D):=[[.dead,.arr false 1 a.1.length (gl aC a.1)]]
def f134.res (a:(List (Int))×Int×Int×Int×(List (aB))):List D:=[]
def f134.blks' (a:(List (Int))×Int×Int×Int×(List (aB))):List (List D):=[[.dead,.arr false 1 (List.length (cH a)) (gl aC (cH a))]]
def f134.rpre (n:Nat) (a:(List (Int))×Int×Int×Int×(List (aB))):Prop:=gK a∧rT a < n
def f134.Cn (n:Nat):aX:=FnC f134.args f134.blks (fun a=>f134.rpre n a) f134.res f134.blks'
def f134.C:aX:=FnC f134.args f134.blks (fun a=>gK a) f134.res f134.blks'
def f128.S0 (a:(List (Int))×Int×(List (aB))) (x:Int×Int×(List (Int))):Tm:=⟨[.msl 0 1 x.2.2.length,.int .i64 a.2.1,.fn 115 [.eptr [.slice .ro 13 a.2.2.length (gl aD a.2.2)]],.dead,.dead,.dead,.int .i64 (20:Int),.int .i64 x.1,.int .i64 x.2.1,.dead,.dead,.dead,.dead,.dead,.dead,.dead,.dead,.dead,.dead,.dead,.dead,.dead,.dead,.dead,.dead,.dead,.dead,.dead,.dead,.dead,.dead,.dead,.dead,.dead,.dead,.dead,.dead,.dead,.dead,.dead,.dead,.dead,.dead,.dead,.dead,.dead,.dead,.dead,.dead,.dead,.dead,.dead,.dead,.dead,.dead,.dead,.dead,.dead,.dead,.dead,.dead,.dead,.dead],[(0,false,[.dead,.arr false 1 x.2.2.length (gl aC x.2.2)])],[]⟩
def f128.S1 (a:(List (Int))×Int×(List (aB))) (x:Int×(List (Int))):Tm:=⟨[.msl 0 1 x.2.length,.int .i64 a.2.1,.fn 115 [.eptr [.slice .ro 13 a.2.2.length (gl aD a.2.2)]],.dead,.dead,.dead,.int .i64 x.1,.dead,.dead,.dead,.dead,.dead,.dead,.dead,.dead,.dead,.dead,.dead,.dead,.dead,.dead,.dead,.dead,.dead,.dead,.dead,.dead,.dead,.dead,.dead,.dead,.dead,.dead,.dead,.dead,.dead,.dead,.dead,.dead,.dead,.dead,.dead,.dead,.dead,.dead,.dead,.dead,.dead,.dead,.dead,.dead,.dead,.dead,.dead,.dead,.dead,.dead,.dead,.dead,.dead,.dead,.dead,.dead],[(0,false,[.dead,.arr false 1 x.2.length (gl aC x.2)])],[]⟩
def f128.S2 (a:(List (Int))×Int×(List (aB))) (x:Int×Int×Int×(List (Int))):Tm:=⟨[.msl 0 1 x.2.2.2.length,.int .i64 a.2.1,.fn 115 [.eptr [.slice .ro 13 a.2.2.length (gl aD a.2.2)]],.dead,.dead,.dead,.int .i64 x.1,.int .i64 x.2.1,.int .i64 x.2.2.1,.dead,.dead,.dead,.dead,.dead,.dead,.dead,.dead,.dead,.dead,.dead,.dead,.dead,.dead,.dead,.dead,.dead,.dead,.dead,.dead,.dead,.dead,.dead,.dead,.dead,.dead,.dead,.dead,.dead,.dead,.dead,.dead,.dead,.dead,.dead,.dead,.dead,.dead,.dead,.dead,.dead,.dead,.dead,.dead,.dead,.dead,.dead,.dead,.dead,.dead,.dead,.dead,.dead,.dead],[(0,false,[.dead,.arr false 1 x.2.2.2.length (gl aC x.2.2.2)])],[]⟩
def f128.kills (a:(List (Int))×Int×(List (aB))):List iX:=[.tell (Int×Int×(List (Int))) (f128.S0 a),
 .tell (Int×(List (Int))) (f128.S1 a),
 .tell (Int×Int×Int×(List (Int))) (f128.S2 a)]
def f128.cuts (a:(List (Int))×Int×(List (aB))):List (Nat×Σ β:Type,β→Tm):=[(999999,⟨Unit,fun x=>⟨[],[],[]⟩⟩)]
def f128.af (a:(List (Int))×Int×(List (aB))):AF:=AF.mk (.seq (.region [⟨(some 6),1000000,.move,[.c (.int .i64 (20))],none⟩])
 (.seq (.region [oR 10 1 .move [6],
 ⟨(some 7),1000002,.move,[.c (.int .i64 (0))],none⟩,
 oR 8 3 .move [10]])
 (.seq (.block 0 (.loopT (Int×Int×(List (Int))) (f128.S0 a) 1000004 1000021 (.seq (.seq (.region [oR 11 4 .move [8],
 oR 12 5 .move [1],
 oR 13 6 (.bin .leq) [11,12]])
 (.cond (.t 13) (.skip) (.exit 0)))
 (.block 1 (.seq (.region [oR 14 7 .move [0],
 oR 15 8 .move [7],
 oR 16 9 .move [8],
 oR 17 10 .move [2],
 oR 18 11 (.call true 133) [14,15,16,17]])
 (.seq (.region [oR 19 15 .move [8],
 oR 7 16 .move [19]])
 (.region [oR 20 17 .move [8],
 oR 21 18 .move [6],
 oR 22 19 (.bin .add) [20,21],
 oR 8 20 .move [22]])))))))
 (.seq (.region [oR 23 21 .move [0],
 oR 24 22 .move [7],
 oR 25 23 .move [1],
 oR 26 24 .move [2],
 oR 27 25 (.call true 133) [23,24,25,26]])
 (.block 2 (.loopT (Int×(List (Int))) (f128.S1 a) 1000029 1000076 (.seq (.seq (.region [oR 28 29 .move [6],
 oR 29 30 .move [1],
 oR 30 31 (.bin .lss) [28,29]])
 (.cond (.t 30) (.skip) (.exit 2)))
 (.block 3 (.seq (.region [oR 31 32 .move [6],
 ⟨(some 32),1000033,(.bin .mul),[.c (.int .i64 (2)),.t 31],none⟩,
 ⟨(some 7),1000034,.move,[.c (.int .i64 (0))],none⟩,
 oR 8 35 .move [32]])
 (.seq (.block 4 (.loopT (Int×Int×Int×(List (Int))) (f128.S2 a) 1000036 1000057 (.seq (.seq (.region [oR 33 36 .move [8],
 oR 34 37 .move [1],
 oR 35 38 (.bin .leq) [33,34]])
 (.cond (.t 35) (.skip) (.exit 4)))
 (.block 5 (.seq (.region [oR 36 39 .move [0],
 oR 37 40 .move [7],
 oR 38 41 .move [7],
 oR 39 42 .move [6],
 oR 40 43 (.bin .add) [38,39],
 oR 41 44 .move [8],
 oR 42 45 .move [2],
 oR 43 46 (.call true 134) [36,37,40,41,42]])
 (.seq (.region [oR 44 50 .move [8],
 oR 7 51 .move [44]])
 (.region [oR 45 52 .move [8],
 oR 46 53 .move [6],
 ⟨(some 47),1000054,(.bin .mul),[.c (.int .i64 (2)),.t 46],none⟩,
 oR 48 55 (.bin .add) [45,47],
 oR 8 56 .move [48]])))))))
 (.seq (.seq (.region [oR 49 57 .move [7],
 oR 50 58 .move [6],
 oR 51 59 (.bin .add) [49,50],
 oR 9 60 .move [51]])
 (.seq (.region [oR 52 61 .move [9],
 oR 53 62 .move [1],
 oR 54 63 (.bin .lss) [52,53]])
 (.cond (.t 54) (.region [oR 55 64 .move [0],
 oR 56 65 .move [7],
 oR 57 66 .move [9],
 oR 58 67 .move [1],
 oR 59 68 .move [2],
 oR 60 69 (.call true 134) [55,56,57,58,59]]) (.skip))))
 (.region [oR 61 73 .move [6],
 ⟨(some 62),1000074,(.bin .mul),[.t 61,.c (.int .i64 (2))],none⟩,
 oR 6 75 .move [62]]))))))))))))
 [] 1 60
def f128.env:Env:=[(133,f133.C),(134,f134.C)]
def f128.tree (a:(List (Int))×Int×(List (aB))):Prop:=∃ (I2:(Int×Int×(List (Int)))→Prop) (μ3:(Int×Int×(List (Int)))→Nat),(∃ x1:Int×Int×(List (Int)),(a.1.length=x1.2.2.length)∧(a.2.1=a.2.1)∧(DEqs [.eptr [.slice .ro 13 a.2.2.length (gl aD a.2.2)]] [.eptr [.slice .ro 13 a.2.2.length (gl aD a.2.2)]])∧((20:Int)=(20:Int))∧((0:Int)=x1.1)∧((20:Int)=x1.2.1)∧SlQ a.1.length x1.2.2.length (gl aC a.1) (gl aC x1.2.2) (I2 x1))∧∀ y4:Int×Int×(List (Int)),I2 y4→(Br (decide (y4.2.1≤a.2.1)) ((y4.2.2.length=y4.2.2.length)∧∃ c7:(List (Int))×Int×Int×(List (aB)),(y4.2.2.length=List.length c7.1)∧(y4.1=c7.2.1)∧(y4.2.1=c7.2.2.1)∧(DEqs [.eptr [.slice .ro 13 a.2.2.length (gl aD a.2.2)]] [.eptr [.slice .ro 13 c7.2.2.2.length (gl aD c7.2.2.2)]])∧SlQ y4.2.2.length c7.1.length (gl aC y4.2.2) (gl aC c7.1) ((iA c7)∧Let (wI (y4.2.1+(20:Int))) (fun v9:Int=>∃ x10:Int×Int×(List (Int)),(y4.2.2.length=x10.2.2.length)∧(a.2.1=a.2.1)∧(DEqs [.eptr [.slice .ro 13 a.2.2.length (gl aD a.2.2)]] [.eptr [.slice .ro 13 a.2.2.length (gl aD a.2.2)]])∧((20:Int)=(20:Int))∧(y4.2.1=x10.1)∧(v9=x10.2.1)∧SlQ (List.length (jJ c7)) x10.2.2.length (gl aC (jJ c7)) (gl aC x10.2.2) (I2 x10∧μ3 x10 < μ3 y4)))) ((y4.2.2.length=y4.2.2.length)∧∃ c16:(List (Int))×Int×Int×(List (aB)),(y4.2.2.length=List.length c16.1)∧(y4.1=c16.2.1)∧(a.2.1=c16.2.2.1)∧(DEqs [.eptr [.slice .ro 13 a.2.2.length (gl aD a.2.2)]] [.eptr [.slice .ro 13 c16.2.2.2.length (gl aD c16.2.2.2)]])∧SlQ y4.2.2.length c16.1.length (gl aC y4.2.2) (gl aC c16.1) ((iA c16)∧∃ (I19:(Int×(List (Int)))→Prop) (μ20:(Int×(List (Int)))→Nat),(∃ x18:Int×(List (Int)),(y4.2.2.length=x18.2.length)∧(a.2.1=a.2.1)∧(DEqs [.eptr [.slice .ro 13 a.2.2.length (gl aD a.2.2)]] [.eptr [.slice .ro 13 a.2.2.length (gl aD a.2.2)]])∧((20:Int)=x18.1)∧SlQ (List.length (jJ c16)) x18.2.length (gl aC (jJ c16)) (gl aC x18.2) (I19 x18))∧∀ y21:Int×(List (Int)),I19 y21→(Br (decide (y21.1 < a.2.1)) (Let (wI ((2:Int) * y21.1)) (fun v24:Int=>∃ (I26:(Int×Int×Int×(List (Int)))→Prop) (μ27:(Int×Int×Int×(List (Int)))→Nat),(∃ x25:Int×Int×Int×(List (Int)),(y21.2.length=x25.2.2.2.length)∧(a.2.1=a.2.1)∧(DEqs [.eptr [.slice .ro 13 a.2.2.length (gl aD a.2.2)]] [.eptr [.slice .ro 13 a.2.2.length (gl aD a.2.2)]])∧(y21.1=x25.1)∧((0:Int)=x25.2.1)∧(v24=x25.2.2.1)∧SlQ y21.2.length x25.2.2.2.length (gl aC y21.2) (gl aC x25.2.2.2) (I26 x25))∧∀ y28:Int×Int×Int×(List (Int)),I26 y28→(Br (decide (y28.2.2.1≤a.2.1)) (Let (wI (y28.2.1+y28.1)) (fun v31:Int=>(y28.2.2.2.length=y28.2.2.2.length)∧∃ c32:(List (Int))×Int×Int×Int×(List (aB)),(y28.2.2.2.length=List.length c32.1)∧(y28.2.1=c32.2.1)∧(v31=c32.2.2.1)∧(y28.2.2.1=c32.2.2.2.1)∧(DEqs [.eptr [.slice .ro 13 a.2.2.length (gl aD a.2.2)]] [.eptr [.slice .ro 13 c32.2.2.2.2.length (gl aD c32.2.2.2.2)]])∧SlQ y28.2.2.2.length c32.1.length (gl aC y28.2.2.2) (gl aC c32.1) ((gK c32)∧Let (wI ((2:Int) * y28.1)) (fun v34:Int=>Let (wI (y28.2.2.1+v34)) (fun v35:Int=>∃ x36:Int×Int×Int×(List (Int)),(y28.2.2.2.length=x36.2.2.2.length)∧(a.2.1=a.2.1)∧(DEqs [.eptr [.slice .ro 13 a.2.2.length (gl aD a.2.2)]] [.eptr [.slice .ro 13 a.2.2.length (gl aD a.2.2)]])∧(y28.1=x36.1)∧(y28.2.2.1=x36.2.1)∧(v35=x36.2.2.1)∧SlQ (List.length (cH c32)) x36.2.2.2.length (gl aC (cH c32)) (gl aC x36.2.2.2) (I26 x36∧μ27 x36 < μ27 y28)))))) (Let (wI (y28.2.1+y28.1)) (fun v48:Int=>Br (decide (v48 < a.2.1)) ((y28.2.2.2.length=y28.2.2.2.length)∧∃ c51:(List (Int))×Int×Int×Int×(List (aB)),(y28.2.2.2.length=List.length c51.1)∧(y28.2.1=c51.2.1)∧(v48=c51.2.2.1)∧(a.2.1=c51.2.2.2.1)∧(DEqs [.eptr [.slice .ro 13 a.2.2.length (gl aD a.2.2)]] [.eptr [.slice .ro 13 c51.2.2.2.2.length (gl aD c51.2.2.2.2)]])∧SlQ y28.2.2.2.length c51.1.length (gl aC y28.2.2.2) (gl aC c51.1) ((gK c51)∧Let (wI (y28.1 * (2:Int))) (fun v53:Int=>∃ x54:Int×(List (Int)),(y28.2.2.2.length=x54.2.length)∧(a.2.1=a.2.1)∧(DEqs [.eptr [.slice .ro 13 a.2.2.length (gl aD a.2.2)]] [.eptr [.slice .ro 13 a.2.2.length (gl aD a.2.2)]])∧(v53=x54.1)∧SlQ (List.length (cH c51)) x54.2.length (gl aC (cH c51)) (gl aC x54.2) (I19 x54∧μ20 x54 < μ20 y21)))) (Let (wI (y28.1 * (2:Int))) (fun v60:Int=>∃ x61:Int×(List (Int)),(y28.2.2.2.length=x61.2.length)∧(a.2.1=a.2.1)∧(DEqs [.eptr [.slice .ro 13 a.2.2.length (gl aD a.2.2)]] [.eptr [.slice .ro 13 a.2.2.length (gl aD a.2.2)]])∧(v60=x61.1)∧SlQ y28.2.2.2.length x61.2.length (gl aC y28.2.2.2) (gl aC x61.2) (I19 x61∧μ20 x61 < μ20 y21)))))))) (SlQ y21.2.length (List.length (gG a)) (gl aC y21.2) (gl aC (gG a)) (True))))))
def f128.vc (a:(List (Int))×Int×(List (aB))):Prop:=(∃ (I2:(Int×Int×(List (Int)))→Prop) (μ3:(Int×Int×(List (Int)))→Nat),I2 ((0:Int),(20:Int),a.1)∧∀ y4:Int×Int×(List (Int)),I2 y4→((y4.2.1≤a.2.1→(iA (y4.2.2,y4.1,y4.2.1,a.2.2)∧((List.length (jJ (y4.2.2,y4.1,y4.2.1,a.2.2)))=y4.2.2.length∧(-9223372036854775808≤(y4.2.1+(20:Int))∧(y4.2.1+(20:Int))≤9223372036854775807∧(I2 (y4.2.1,(y4.2.1+(20:Int)),(jJ (y4.2.2,y4.1,y4.2.1,a.2.2)))∧μ3 (y4.2.1,(y4.2.1+(20:Int)),(jJ (y4.2.2,y4.1,y4.2.1,a.2.2))) < μ3 y4)))))∧(¬(y4.2.1≤a.2.1)→(iA (y4.2.2,y4.1,a.2.1,a.2.2)∧((List.length (jJ (y4.2.2,y4.1,a.2.1,a.2.2)))=y4.2.2.length∧(∃ (I19:(Int×(List (Int)))→Prop) (μ20:(Int×(List (Int)))→Nat),I19 ((20:Int),(jJ (y4.2.2,y4.1,a.2.1,a.2.2)))∧∀ y21:Int×(List (Int)),I19 y21→((y21.1 < a.2.1→(-9223372036854775808≤((2:Int) * y21.1)∧((2:Int) * y21.1)≤9223372036854775807∧(∃ (I26:(Int×Int×Int×(List (Int)))→Prop) (μ27:(Int×Int×Int×(List (Int)))→Nat),I26 (y21.1,(0:Int),((2:Int) * y21.1),y21.2)∧∀ y28:Int×Int×Int×(List (Int)),I26 y28→((y28.2.2.1≤a.2.1→(-9223372036854775808≤(y28.2.1+y28.1)∧(y28.2.1+y28.1)≤9223372036854775807∧(gK (y28.2.2.2,y28.2.1,(y28.2.1+y28.1),y28.2.2.1,a.2.2)∧((List.length (cH (y28.2.2.2,y28.2.1,(y28.2.1+y28.1),y28.2.2.1,a.2.2)))=y28.2.2.2.length∧(-9223372036854775808≤((2:Int) * y28.1)∧((2:Int) * y28.1)≤9223372036854775807∧(-9223372036854775808≤(y28.2.2.1+((2:Int) * y28.1))∧(y28.2.2.1+((2:Int) * y28.1))≤9223372036854775807∧(I26 (y28.1,y28.2.2.1,(y28.2.2.1+((2:Int) * y28.1)),(cH (y28.2.2.2,y28.2.1,(y28.2.1+y28.1),y28.2.2.1,a.2.2)))∧μ27 (y28.1,y28.2.2.1,(y28.2.2.1+((2:Int) * y28.1)),(cH (y28.2.2.2,y28.2.1,(y28.2.1+y28.1),y28.2.2.1,a.2.2))) < μ27 y28)))))))∧(¬(y28.2.2.1≤a.2.1)→(-9223372036854775808≤(y28.2.1+y28.1)∧(y28.2.1+y28.1)≤9223372036854775807∧(((y28.2.1+y28.1) < a.2.1→(gK (y28.2.2.2,y28.2.1,(y28.2.1+y28.1),a.2.1,a.2.2)∧((List.length (cH (y28.2.2.2,y28.2.1,(y28.2.1+y28.1),a.2.1,a.2.2)))=y28.2.2.2.length∧(-9223372036854775808≤(y28.1 * (2:Int))∧(y28.1 * (2:Int))≤9223372036854775807∧(I19 ((y28.1 * (2:Int)),(cH (y28.2.2.2,y28.2.1,(y28.2.1+y28.1),a.2.1,a.2.2)))∧μ20 ((y28.1 * (2:Int)),(cH (y28.2.2.2,y28.2.1,(y28.2.1+y28.1),a.2.1,a.2.2))) < μ20 y21)))))∧(¬((y28.2.1+y28.1) < a.2.1)→(-9223372036854775808≤(y28.1 * (2:Int))∧(y28.1 * (2:Int))≤9223372036854775807∧(I19 ((y28.1 * (2:Int)),y28.2.2.2)∧μ20 ((y28.1 * (2:Int)),y28.2.2.2) < μ20 y21))))))))))∧(¬(y21.1 < a.2.1)→(y21.2=gG a)))))))))
theorem f128.of (a:(List (Int))×Int×(List (aB))) (h:f128.vc a):f128.tree a:=Exists.elim h (fun I2 h88_=>Exists.elim h88_ (fun μ3 h88=>⟨I2,μ3,⟨((0:Int),(20:Int),a.1),⟨(bP (gl aC a.1) (rS aC)),⟨rfl,⟨(DEqs.refl _),⟨rfl,⟨rfl,⟨rfl,slQ (rS aC) (h88.1)⟩⟩⟩⟩⟩⟩⟩,fun y4 h90=>br (h88.2 y4 h90) Cnd.dec (fun h5 k86=>⟨rfl,⟨(y4.2.2,y4.1,y4.2.1,a.2.2),⟨(bP (gl aC y4.2.2) (rS aC)),⟨rfl,⟨rfl,⟨(DEqs.refl _),slQ (rS aC) (⟨k86.1,rG k86.2 (fun (h8:(List.length (jJ (y4.2.2,y4.1,y4.2.1,a.2.2)))=y4.2.2.length) hk=>wrapK.i64 hk (fun h12 h13 k14=>⟨(y4.2.1,(y4.2.1+(20:Int)),(jJ (y4.2.2,y4.1,y4.2.1,a.2.2))),⟨((h8).symm.trans (bP (gl aC (jJ (y4.2.2,y4.1,y4.2.1,a.2.2))) (rS aC))),⟨rfl,⟨(DEqs.refl _),⟨rfl,⟨rfl,⟨rfl,slQ (rS aC) (k14)⟩⟩⟩⟩⟩⟩⟩))⟩)⟩⟩⟩⟩⟩⟩) (fun h6 k87=>⟨rfl,⟨(y4.2.2,y4.1,a.2.1,a.2.2),⟨(bP (gl aC y4.2.2) (rS aC)),⟨rfl,⟨rfl,⟨(DEqs.refl _),slQ (rS aC) (⟨k87.1,rG k87.2 (fun (h17:(List.length (jJ (y4.2.2,y4.1,a.2.1,a.2.2)))=y4.2.2.length) hk=>Exists.elim hk (fun I19 h82_=>Exists.elim h82_ (fun μ20 h82=>⟨I19,μ20,⟨((20:Int),(jJ (y4.2.2,y4.1,a.2.1,a.2.2))),⟨((h17).symm.trans (bP (gl aC (jJ (y4.2.2,y4.1,a.2.1,a.2.2))) (rS aC))),⟨rfl,⟨(DEqs.refl _),⟨rfl,slQ (rS aC) (h82.1)⟩⟩⟩⟩⟩,fun y21 h84=>br (h82.2 y21 h84) Cnd.dec (fun h22 k80=>wrapK.i64 k80 (fun h76 h77 k78=>Exists.elim k78 (fun I26 h73_=>Exists.elim h73_ (fun μ27 h73=>⟨I26,μ27,⟨(y21.1,(0:Int),((2:Int) * y21.1),y21.2),⟨(bP (gl aC y21.2) (rS aC)),⟨rfl,⟨(DEqs.refl _),⟨rfl,⟨rfl,⟨rfl,slQ (rS aC) (h73.1)⟩⟩⟩⟩⟩⟩⟩,fun y28 h75=>br (h73.2 y28 h75) Cnd.dec (fun h29 k71=>wrapK.i64 k71 (fun h45 h46 k47=>⟨rfl,⟨(y28.2.2.2,y28.2.1,(y28.2.1+y28.1),y28.2.2.1,a.2.2),⟨(bP (gl aC y28.2.2.2) (rS aC)),⟨rfl,⟨rfl,⟨rfl,⟨(DEqs.refl _),slQ (rS aC) (⟨k47.1,rG k47.2 (fun (h33:(List.length (cH (y28.2.2.2,y28.2.1,(y28.2.1+y28.1),y28.2.2.1,a.2.2)))=y28.2.2.2.length) hk=>wrapK.i64 hk (fun h41 h42 k43=>wrapK.i64 k43 (fun h38 h39 k40=>⟨(y28.1,y28.2.2.1,(y28.2.2.1+((2:Int) * y28.1)),(cH (y28.2.2.2,y28.2.1,(y28.2.1+y28.1),y28.2.2.1,a.2.2))),⟨((h33).symm.trans (bP (gl aC (cH (y28.2.2.2,y28.2.1,(y28.2.1+y28.1),y28.2.2.1,a.2.2))) (rS aC))),⟨rfl,⟨(DEqs.refl _),⟨rfl,⟨rfl,⟨rfl,slQ (rS aC) (k40)⟩⟩⟩⟩⟩⟩⟩)))⟩)⟩⟩⟩⟩⟩⟩⟩)) (fun h30 k72=>wrapK.i64 k72 (fun h68 h69 k70=>br k70 Cnd.dec (fun h49 k66=>⟨rfl,⟨(y28.2.2.2,y28.2.1,(y28.2.1+y28.1),a.2.1,a.2.2),⟨(bP (gl aC y28.2.2.2) (rS aC)),⟨rfl,⟨rfl,⟨rfl,⟨(DEqs.refl _),slQ (rS aC) (⟨k66.1,rG k66.2 (fun (h52:(List.length (cH (y28.2.2.2,y28.2.1,(y28.2.1+y28.1),a.2.1,a.2.2)))=y28.2.2.2.length) hk=>wrapK.i64 hk (fun h56 h57 k58=>⟨((y28.1 * (2:Int)),(cH (y28.2.2.2,y28.2.1,(y28.2.1+y28.1),a.2.1,a.2.2))),⟨((h52).symm.trans (bP (gl aC (cH (y28.2.2.2,y28.2.1,(y28.2.1+y28.1),a.2.1,a.2.2))) (rS aC))),⟨rfl,⟨(DEqs.refl _),⟨rfl,slQ (rS aC) (k58)⟩⟩⟩⟩⟩))⟩)⟩⟩⟩⟩⟩⟩⟩) (fun h50 k67=>wrapK.i64 k67 (fun h63 h64 k65=>⟨((y28.1 * (2:Int)),y28.2.2.2),⟨(bP (gl aC y28.2.2.2) (rS aC)),⟨rfl,⟨(DEqs.refl _),⟨rfl,slQ (rS aC) (k65)⟩⟩⟩⟩⟩))))⟩)))) (fun h23 k81=>slQ (Rds.to (rS aC) k81) (trivial))⟩)))⟩)⟩⟩⟩⟩⟩⟩)⟩))
theorem f128.eq (a:(List (Int))×Int×(List (aB))):(f128.af a).gives f128.env (f128.args a) (f128.blks a) (f128.res a) (f128.blks' a)=f128.tree a:=by kernel_rfl
def f133.S0 (a:(List (Int))×Int×Int×(List (aB))) (x:Int×(List (Int))):Tm:=⟨[.msl 0 1 x.2.length,.int .i64 a.2.1,.int .i64 a.2.2.1,.fn 115 [.eptr [.slice .ro 13 a.2.2.2.length (gl aD a.2.2.2)]],.dead,.dead,.dead,.dead,.int .i64 x.1,.dead,.dead,.dead,.dead,.dead,.dead,.dead,.dead,.dead,.dead,.dead,.dead,.dead,.dead,.dead,.dead,.dead,.dead,.dead,.dead,.dead,.dead,.dead,.dead,.dead,.dead,.dead,.dead,.dead,.dead,.dead,.dead,.dead,.dead,.dead,.dead,.dead,.dead,.dead,.dead,.dead,.dead,.dead,.dead],[(0,false,[.dead,.arr false 1 x.2.length (gl aC x.2)])],[]⟩
def f133.S1 (a:(List (Int))×Int×Int×(List (aB))) (x:Int×Int×(List (Int))):Tm:=⟨[.msl 0 1 x.2.2.length,.int .i64 a.2.1,.int .i64 a.2.2.1,.fn 115 [.eptr [.slice .ro 13 a.2.2.2.length (gl aD a.2.2.2)]],.dead,.dead,.dead,.dead,.int .i64 x.1,.int .i64 x.2.1,.dead,.dead,.dead,.dead,.dead,.dead,.dead,.dead,.dead,.dead,.dead,.dead,.dead,.dead,.dead,.dead,.dead,.dead,.dead,.dead,.dead,.dead,.dead,.dead,.dead,.dead,.dead,.dead,.dead,.dead,.dead,.dead,.dead,.dead,.dead,.dead,.dead,.dead,.dead,.dead,.dead,.dead,.dead],[(0,false,[.dead,.arr false 1 x.2.2.length (gl aC x.2.2)])],[]⟩
def f133.kills (a:(List (Int))×Int×Int×(List (aB))):List iX:=[.tell (Int×(List (Int))) (f133.S0 a),
 .tell (Int×Int×(List (Int))) (f133.S1 a)]
def f133.cuts (a:(List (Int))×Int×Int×(List (aB))):List (Nat×Σ β:Type,β→Tm):=[(999999,⟨Unit,fun x=>⟨[],[],[]⟩⟩)]
def f133.af (a:(List (Int))×Int×Int×(List (aB))):AF:=AF.mk (.seq (.region [oR 10 0 .move [1],
 ⟨(some 11),1000001,(.bin .add),[.t 10,.c (.int .i64 (1))],none⟩,
 oR 8 2 .move [11]])
 (.block 0 (.loopT (Int×(List (Int))) (f133.S0 a) 1000003 1000052 (.seq (.seq (.region [oR 12 3 .move [8],
 oR 13 4 .move [2],
 oR 14 5 (.bin .lss) [12,13]])
 (.cond (.t 14) (.skip) (.exit 0)))
 (.seq (.block 1 (.seq (.region [oR 17 6 .move [8],
 oR 9 7 .move [17]])
 (.block 2 (.loopT (Int×Int×(List (Int))) (f133.S1 a) 1000008 1000049 (.seq (.seq (.region [oR 18 8 .move [9],
 oR 19 9 .move [1],
 oR 20 10 (.bin .gtr) [18,19],
 oR 21 11 .move [20],
 oG 22 1000012 .move [3] 21 true,
 oG 23 1000013 .move [0] 21 true,
 oG 24 1000014 .move [9] 21 true,
 oG 25 1000015 (.indexAddr 1 none) [23,24] 21 true,
 oG 26 1000016 (.load false 1) [25] 21 true,
 oG 27 1000017 .move [0] 21 true,
 oG 28 1000018 .move [9] 21 true,
 ⟨(some 29),1000019,(.bin .sub),[.t 28,.c (.int .i64 (1))],(some (21,true))⟩,
 oG 30 1000020 (.indexAddr 1 none) [27,29] 21 true,
 oG 31 1000021 (.load false 1) [30] 21 true,
 oG 32 1000022 (.callv false) [22,26,31] 21 true,
 ⟨(some 33),1000026,(.bin .lss),[.t 32,.c (.int .i64 (0))],(some (21,true))⟩,
 ⟨(some 34),1000027,.pick,[.t 21,.t 33,.c (.bool false)],none⟩])
 (.cond (.t 34) (.skip) (.exit 2)))
 (.seq (.block 3 (.region [oR 37 28 .move [0],
 oR 38 29 .move [9],
 oR 39 30 .move [0],
 oR 40 31 .move [9],
 ⟨(some 41),1000032,(.bin .sub),[.t 40,.c (.int .i64 (1))],none⟩,
 oR 42 33 .move [0],
 oR 43 34 .move [9],
 ⟨(some 44),1000035,(.bin .sub),[.t 43,.c (.int .i64 (1))],none⟩,
 oR 45 36 (.indexAddr 1 none) [42,44],
 oR 46 37 (.load false 1) [45],
 oR 47 38 .move [0],
 oR 48 39 .move [9],
 oR 49 40 (.indexAddr 1 none) [47,48],
 oR 50 41 (.load false 1) [49],
 oR 51 42 (.indexAddr 1 none) [37,38],
 ⟨none,1000043,(.store 1),[.t 51,.t 46],none⟩,
 oR 52 44 (.indexAddr 1 none) [39,41],
 ⟨none,1000045,(.store 1),[.t 52,.t 50],none⟩]))
 (.region [oR 35 46 .move [9],
 ⟨(some 36),1000047,(.bin .sub),[.t 35,.c (.int .i64 (1))],none⟩,
 oR 9 48 .move [36]])))))))
 (.region [oR 15 49 .move [8],
 ⟨(some 16),1000050,(.bin .add),[.t 15,.c (.int .i64 (1))],none⟩,
 oR 8 51 .move [16]]))))))
 [] 1 49
def f133.env:Env:=[(115,f115.C)]
def f133.tree (a:(List (Int))×Int×Int×(List (aB))):Prop:=Let (wI (a.2.1+(1:Int))) (fun v1:Int=>∃ (I3:(Int×(List (Int)))→Prop) (μ4:(Int×(List (Int)))→Nat),(∃ x2:Int×(List (Int)),(a.1.length=x2.2.length)∧(a.2.1=a.2.1)∧(a.2.2.1=a.2.2.1)∧(DEqs [.eptr [.slice .ro 13 a.2.2.2.length (gl aD a.2.2.2)]] [.eptr [.slice .ro 13 a.2.2.2.length (gl aD a.2.2.2)]])∧(v1=x2.1)∧SlQ a.1.length x2.2.length (gl aC a.1) (gl aC x2.2) (I3 x2))∧∀ y5:Int×(List (Int)),I3 y5→(Br (decide (y5.1 < a.2.2.1)) (∃ (I9:(Int×Int×(List (Int)))→Prop) (μ10:(Int×Int×(List (Int)))→Nat),(∃ x8:Int×Int×(List (Int)),(y5.2.length=x8.2.2.length)∧(a.2.1=a.2.1)∧(a.2.2.1=a.2.2.1)∧(DEqs [.eptr [.slice .ro 13 a.2.2.2.length (gl aD a.2.2.2)]] [.eptr [.slice .ro 13 a.2.2.2.length (gl aD a.2.2.2)]])∧(y5.1=x8.1)∧(y5.1=x8.2.1)∧SlQ y5.2.length x8.2.2.length (gl aC y5.2) (gl aC x8.2.2) (I9 x8))∧∀ y11:Int×Int×(List (Int)),I9 y11→(Br (decide (a.2.1 < y11.2.1)) (Br (decide ((0:Int)≤y11.2.1)&&decide (y11.2.1 < (List.length y11.2.2:Int))) ((y11.2.2.length=y11.2.2.length)∧(Let (wI (y11.2.1 - (1:Int))) (fun v15:Int=>Br (decide ((0:Int)≤v15)&&decide (v15 < (List.length y11.2.2:Int))) ((y11.2.2.length=y11.2.2.length)∧(∃ c17:Int×Int×(List (aB)),((at_ y11.2.2 y11.2.1)=c17.1)∧((at_ y11.2.2 v15)=c17.2.1)∧(DEqs [.slice .ro 13 a.2.2.2.length (gl aD a.2.2.2)] [.slice .ro 13 c17.2.2.length (gl aD c17.2.2)])∧(eL c17)∧Br (decide ((jQ c17) < (0:Int))) (Let (wI (y11.2.1 - (1:Int))) (fun v20:Int=>Let (wI (y11.2.1 - (1:Int))) (fun v21:Int=>Br (decide ((0:Int)≤v21)&&decide (v21 < (List.length y11.2.2:Int))) ((y11.2.2.length=y11.2.2.length)∧(Br (decide ((0:Int)≤y11.2.1)&&decide (y11.2.1 < (List.length y11.2.2:Int))) ((y11.2.2.length=y11.2.2.length)∧(Br (decide ((0:Int)≤y11.2.1)&&decide (y11.2.1 < (List.length y11.2.2:Int))) ((y11.2.2.length=y11.2.2.length)∧(Br (decide ((0:Int)≤v20)&&decide (v20 < (List.length y11.2.2:Int))) ((y11.2.2.length=y11.2.2.length)∧(Let (wI (y11.2.1 - (1:Int))) (fun v26:Int=>∃ x27:Int×Int×(List (Int)),(y11.2.2.length=x27.2.2.length)∧(a.2.1=a.2.1)∧(a.2.2.1=a.2.2.1)∧(DEqs [.eptr [.slice .ro 13 a.2.2.2.length (gl aD a.2.2.2)]] [.eptr [.slice .ro 13 a.2.2.2.length (gl aD a.2.2.2)]])∧(y11.1=x27.1)∧(v26=x27.2.1)∧SlQ y11.2.2.length x27.2.2.length (gset (gset (gl aC y11.2.2) (Int.toNat y11.2.1) [.int .i64 (at_ y11.2.2 v21)]) (Int.toNat v20) [.int .i64 (at_ y11.2.2 y11.2.1)]) (gl aC x27.2.2) (I9 x27∧μ10 x27 < μ10 y11)))) False)) False)) False)) False))) (Let (wI (y11.1+(1:Int))) (fun v42:Int=>∃ x43:Int×(List (Int)),(y11.2.2.length=x43.2.length)∧(a.2.1=a.2.1)∧(a.2.2.1=a.2.2.1)∧(DEqs [.eptr [.slice .ro 13 a.2.2.2.length (gl aD a.2.2.2)]] [.eptr [.slice .ro 13 a.2.2.2.length (gl aD a.2.2.2)]])∧(v42=x43.1)∧SlQ y11.2.2.length x43.2.length (gl aC y11.2.2) (gl aC x43.2) (I3 x43∧μ4 x43 < μ4 y5))))) False))) False) (Let (wI (y11.1+(1:Int))) (fun v56:Int=>∃ x57:Int×(List (Int)),(y11.2.2.length=x57.2.length)∧(a.2.1=a.2.1)∧(a.2.2.1=a.2.2.1)∧(DEqs [.eptr [.slice .ro 13 a.2.2.2.length (gl aD a.2.2.2)]] [.eptr [.slice .ro 13 a.2.2.2.length (gl aD a.2.2.2)]])∧(v56=x57.1)∧SlQ y11.2.2.length x57.2.length (gl aC y11.2.2) (gl aC x57.2) (I3 x57∧μ4 x57 < μ4 y5))))) (SlQ y5.2.length (List.length (jJ a)) (gl aC y5.2) (gl aC (jJ a)) (True))))
def f133.vc (a:(List (Int))×Int×Int×(List (aB))):Prop:=(-9223372036854775808≤(a.2.1+(1:Int))∧(a.2.1+(1:Int))≤9223372036854775807∧(∃ (I3:(Int×(List (Int)))→Prop) (μ4:(Int×(List (Int)))→Nat),I3 ((a.2.1+(1:Int)),a.1)∧∀ y5:Int×(List (Int)),I3 y5→((y5.1 < a.2.2.1→(∃ (I9:(Int×Int×(List (Int)))→Prop) (μ10:(Int×Int×(List (Int)))→Nat),I9 (y5.1,y5.1,y5.2)∧∀ y11:Int×Int×(List (Int)),I9 y11→((a.2.1 < y11.2.1→((0:Int)≤y11.2.1∧y11.2.1 < (List.length y11.2.2:Int)∧(-9223372036854775808≤(y11.2.1 - (1:Int))∧(y11.2.1 - (1:Int))≤9223372036854775807∧((0:Int)≤(y11.2.1 - (1:Int))∧(y11.2.1 - (1:Int)) < (List.length y11.2.2:Int)∧(eL (at_ y11.2.2 y11.2.1,at_ y11.2.2 (y11.2.1 - (1:Int)),a.2.2.2)∧(((jQ (at_ y11.2.2 y11.2.1,at_ y11.2.2 (y11.2.1 - (1:Int)),a.2.2.2)) < (0:Int)→(-9223372036854775808≤(y11.2.1 - (1:Int))∧(y11.2.1 - (1:Int))≤9223372036854775807∧(-9223372036854775808≤(y11.2.1 - (1:Int))∧(y11.2.1 - (1:Int))≤9223372036854775807∧((0:Int)≤(y11.2.1 - (1:Int))∧(y11.2.1 - (1:Int)) < (List.length y11.2.2:Int)∧((0:Int)≤y11.2.1∧y11.2.1 < (List.length y11.2.2:Int)∧((0:Int)≤y11.2.1∧y11.2.1 < (List.length y11.2.2:Int)∧((0:Int)≤(y11.2.1 - (1:Int))∧(y11.2.1 - (1:Int)) < (List.length y11.2.2:Int)∧(-9223372036854775808≤(y11.2.1 - (1:Int))∧(y11.2.1 - (1:Int))≤9223372036854775807∧(I9 (y11.1,(y11.2.1 - (1:Int)),List.set (List.set y11.2.2 (Int.toNat y11.2.1) (at_ y11.2.2 (y11.2.1 - (1:Int)))) (Int.toNat (y11.2.1 - (1:Int))) (at_ y11.2.2 y11.2.1))∧μ10 (y11.1,(y11.2.1 - (1:Int)),List.set (List.set y11.2.2 (Int.toNat y11.2.1) (at_ y11.2.2 (y11.2.1 - (1:Int)))) (Int.toNat (y11.2.1 - (1:Int))) (at_ y11.2.2 y11.2.1)) < μ10 y11)))))))))∧(¬((jQ (at_ y11.2.2 y11.2.1,at_ y11.2.2 (y11.2.1 - (1:Int)),a.2.2.2)) < (0:Int))→(-9223372036854775808≤(y11.1+(1:Int))∧(y11.1+(1:Int))≤9223372036854775807∧(I3 ((y11.1+(1:Int)),y11.2.2)∧μ4 ((y11.1+(1:Int)),y11.2.2) < μ4 y5)))))))))∧(¬(a.2.1 < y11.2.1)→(-9223372036854775808≤(y11.1+(1:Int))∧(y11.1+(1:Int))≤9223372036854775807∧(I3 ((y11.1+(1:Int)),y11.2.2)∧μ4 ((y11.1+(1:Int)),y11.2.2) < μ4 y5))))))∧(¬(y5.1 < a.2.2.1)→(y5.2=jJ a)))))
theorem f133.of (a:(List (Int))×Int×Int×(List (aB))) (h:f133.vc a):f133.tree a:=wrapK.i64 h (fun h73 h74 k75=>Exists.elim k75 (fun I3 h70_=>Exists.elim h70_ (fun μ4 h70=>⟨I3,μ4,⟨((a.2.1+(1:Int)),a.1),⟨(bP (gl aC a.1) (rS aC)),⟨rfl,⟨rfl,⟨(DEqs.refl _),⟨rfl,slQ (rS aC) (h70.1)⟩⟩⟩⟩⟩⟩,fun y5 h72=>br (h70.2 y5 h72) Cnd.dec (fun h6 k68=>Exists.elim k68 (fun I9 h64_=>Exists.elim h64_ (fun μ10 h64=>⟨I9,μ10,⟨(y5.1,y5.1,y5.2),⟨(bP (gl aC y5.2) (rS aC)),⟨rfl,⟨rfl,⟨(DEqs.refl _),⟨rfl,⟨rfl,slQ (rS aC) (h64.1)⟩⟩⟩⟩⟩⟩⟩,fun y11 h66=>br (h64.2 y11 h66) Cnd.dec (fun h12 k62=>chk k62.2.2 Cnd.ix ⟨k62.1,k62.2.1⟩ (fun h14 k55=>⟨rfl,wrapK.i64 k55 (fun h52 h53 k54=>chk k54.2.2 Cnd.ix ⟨k54.1,k54.2.1⟩ (fun h16 k51=>⟨rfl,⟨(at_ y11.2.2 y11.2.1,at_ y11.2.2 (y11.2.1 - (1:Int)),a.2.2.2),⟨rfl,⟨rfl,⟨(DEqs.refl _),⟨k51.1,br k51.2 Cnd.dec (fun h18 k48=>wrapK.i64 k48 (fun h39 h40 k41=>wrapK.i64 k41 (fun h36 h37 k38=>chk k38.2.2 Cnd.ix ⟨k38.1,k38.2.1⟩ (fun h22 k35=>⟨rfl,chk k35.2.2 Cnd.ix ⟨k35.1,k35.2.1⟩ (fun h23 k34=>⟨rfl,chk k34.2.2 Cnd.ix ⟨k34.1,k34.2.1⟩ (fun h24 k33=>⟨rfl,chk k33.2.2 Cnd.ix ⟨k33.1,k33.2.1⟩ (fun h25 k32=>⟨rfl,wrapK.i64 k32 (fun h29 h30 k31=>⟨(y11.1,(y11.2.1 - (1:Int)),List.set (List.set y11.2.2 (Int.toNat y11.2.1) (at_ y11.2.2 (y11.2.1 - (1:Int)))) (Int.toNat (y11.2.1 - (1:Int))) (at_ y11.2.2 y11.2.1)),⟨(bP (gset (gset (gl aC y11.2.2) (Int.toNat y11.2.1) [.int .i64 (at_ y11.2.2 (y11.2.1 - (1:Int)))]) (Int.toNat (y11.2.1 - (1:Int))) [.int .i64 (at_ y11.2.2 y11.2.1)]) (Rds.gset (enc:=aC) (Rds.gset (enc:=aC) (rS aC) (DEqs.refl _)) (DEqs.refl _))),⟨rfl,⟨rfl,⟨(DEqs.refl _),⟨rfl,⟨rfl,slQ (Rds.gset (enc:=aC) (Rds.gset (enc:=aC) (rS aC) (DEqs.refl _)) (DEqs.refl _)) (k31)⟩⟩⟩⟩⟩⟩⟩)⟩)⟩)⟩)⟩)))) (fun h19 k49=>wrapK.i64 k49 (fun h45 h46 k47=>⟨((y11.1+(1:Int)),y11.2.2),⟨(bP (gl aC y11.2.2) (rS aC)),⟨rfl,⟨rfl,⟨(DEqs.refl _),⟨rfl,slQ (rS aC) (k47)⟩⟩⟩⟩⟩⟩))⟩⟩⟩⟩⟩⟩))⟩)) (fun h13 k63=>wrapK.i64 k63 (fun h59 h60 k61=>⟨((y11.1+(1:Int)),y11.2.2),⟨(bP (gl aC y11.2.2) (rS aC)),⟨rfl,⟨rfl,⟨(DEqs.refl _),⟨rfl,slQ (rS aC) (k61)⟩⟩⟩⟩⟩⟩))⟩))) (fun h7 k69=>slQ (Rds.to (rS aC) k69) (trivial))⟩)))
theorem f133.eq (a:(List (Int))×Int×Int×(List (aB))):(f133.af a).gives f133.env (f133.args a) (f133.blks a) (f133.res a) (f133.blks' a)=f133.tree a:=by kernel_rfl
def f137.args (a:(List (Int))×Int×Int×Int×(List (aB))):List D:=[.msl 0 1 a.1.length,.int .i64 a.2.1,.int .i64 a.2.2.1,.int .i64 a.2.2.2.1,.fn 115 [.eptr [.slice .ro 13 a.2.2.2.2.length (gl aD a.2.2.2.2)]]]
def f137.blks (a:(List (Int))×Int×Int×Int×(List (aB))):List (List D):=[[.dead,.arr false 1 a.1.length (gl aC a.1)]]
def f137.res (a:(List (Int))×Int×Int×Int×(List (aB))):List D:=[]
def f137.blks' (a:(List (Int))×Int×Int×Int×(List (aB))):List (List D):=[[.dead,.arr false 1 (List.length (nR a)) (gl aC (nR a))]]
def f137.C:aX:=FnC f137.args f137.blks (fun a=>lR a) f137.res f137.blks'
def f134.S0 (a:(List (Int))×Int×Int×Int×(List (aB))) (x:Int×Int×(List (Int))):Tm:=⟨[.msl 0 1 x.2.2.length,.int .i64 a.2.1,.dead,.dead,.fn 115 [.eptr [.slice .ro 13 a.2.2.2.2.length (gl aD a.2.2.2.2)]],.dead,.dead,.dead,.dead,.dead,.int .i64 x.1,.int .i64 x.2.1,.dead,.dead,.dead,.dead,.dead,.dead,.dead,.dead,.dead,.dead,.dead,.dead,.dead,.dead,.dead,.dead,.dead,.dead,.dead,.dead,.dead,.dead,.dead,.dead,.dead,.dead,.dead,.dead,.dead,.dead,.dead,.dead,.dead,.dead,.dead,.dead,.dead,.dead,.dead,.dead,.dead,.dead,.dead,.dead,.dead,.dead,.dead,.dead,.dead,.dead,.dead,.dead,.dead,.dead,.dead,.dead,.dead,.dead,.dead,.dead,.dead,.dead,.dead,.dead,.dead,.dead,.dead,.dead,.dead,.dead,.dead,.dead,.dead,.dead,.dead,.dead,.dead,.dead,.dead,.dead,.dead,.dead,.dead,.dead,.dead,.dead,.dead,.dead,.dead,.dead,.dead,.dead,.dead,.dead,.dead,.dead,.dead,.dead,.dead,.dead,.dead,.dead,.dead,.dead,.dead,.dead,.dead,.dead,.dead,.dead,.dead,.dead,.dead,.dead,.dead,.dead,.dead,.dead,.dead,.dead,.dead,.dead,.dead,.dead,.dead,.dead,.dead,.dead,.dead,.dead,.dead,.dead,.dead,.dead,.dead,.dead,.dead,.dead,.dead,.dead,.dead,.dead,.dead,.dead,.dead,.dead,.dead,.dead,.dead,.dead,.dead,.dead,.dead,.dead,.dead,.dead,.dead,.dead,.dead,.dead,.dead,.dead,.dead,.dead,.dead,.dead,.dead,.dead,.dead,.dead,.dead,.dead,.dead,.dead,.dead,.dead,.dead,.dead,.dead,.dead,.dead,.dead,.dead,.dead,.dead,.dead,.dead,.dead,.dead,.dead,.dead,.dead,.dead,.dead,.dead,.dead,.dead,.dead,.dead,.dead,.dead,.dead,.dead,.dead,.dead,.dead,.dead,.dead],[(0,false,[.dead,.arr false 1 x.2.2.length (gl aC x.2.2)])],[]⟩
def f134.S1 (a:(List (Int))×Int×Int×Int×(List (aB))) (x:Int×Int×(List (Int))):Tm:=⟨[.msl 0 1 x.2.2.length,.dead,.dead,.dead,.dead,.dead,.dead,.dead,.dead,.dead,.int .i64 x.1,.dead,.dead,.int .i64 x.2.1,.dead,.dead,.dead,.dead,.dead,.dead,.dead,.dead,.dead,.dead,.dead,.dead,.dead,.dead,.dead,.dead,.dead,.dead,.dead,.dead,.dead,.dead,.dead,.dead,.dead,.dead,.dead,.dead,.dead,.dead,.dead,.dead,.dead,.dead,.dead,.dead,.dead,.dead,.dead,.dead,.dead,.dead,.dead,.dead,.dead,.dead,.dead,.dead,.dead,.dead,.dead,.dead,.dead,.dead,.dead,.dead,.dead,.dead,.dead,.dead,.dead,.dead,.dead,.dead,.dead,.dead,.dead,.dead,.dead,.dead,.dead,.dead,.dead,.dead,.dead,.dead,.dead,.dead,.dead,.dead,.dead,.dead,.dead,.dead,.dead,.dead,.dead,.dead,.dead,.dead,.dead,.dead,.dead,.dead,.dead,.dead,.dead,.dead,.dead,.dead,.dead,.dead,.dead,.dead,.dead,.dead,.dead,.dead,.dead,.dead,.dead,.dead,.dead,.dead,.dead,.dead,.dead,.dead,.dead,.dead,.dead,.dead,.dead,.dead,.dead,.dead,.dead,.dead,.dead,.dead,.dead,.dead,.dead,.dead,.dead,.dead,.dead,.dead,.dead,.dead,.dead,.dead,.dead,.dead,.dead,.dead,.dead,.dead,.dead,.dead,.dead,.dead,.dead,.dead,.dead,.dead,.dead,.dead,.dead,.dead,.dead,.dead,.dead,.dead,.dead,.dead,.dead,.dead,.dead,.dead,.dead,.dead,.dead,.dead,.dead,.dead,.dead,.dead,.dead,.dead,.dead,.dead,.dead,.dead,.dead,.dead,.dead,.dead,.dead,.dead,.dead,.dead,.dead,.dead,.dead,.dead,.dead,.dead,.dead,.dead,.dead,.dead,.dead,.dead,.dead,.dead],[(0,false,[.dead,.arr false 1 x.2.2.length (gl aC x.2.2)])],[]⟩
def f134.S2 (a:(List (Int))×Int×Int×Int×(List (aB))) (x:Int×Int×(List (Int))):Tm:=⟨[.msl 0 1 x.2.2.length,.dead,.int .i64 a.2.2.1,.dead,.fn 115 [.eptr [.slice .ro 13 a.2.2.2.2.length (gl aD a.2.2.2.2)]],.dead,.dead,.dead,.dead,.dead,.dead,.dead,.dead,.dead,.int .i64 x.1,.int .i64 x.2.1,.dead,.dead,.dead,.dead,.dead,.dead,.dead,.dead,.dead,.dead,.dead,.dead,.dead,.dead,.dead,.dead,.dead,.dead,.dead,.dead,.dead,.dead,.dead,.dead,.dead,.dead,.dead,.dead,.dead,.dead,.dead,.dead,.dead,.dead,.dead,.dead,.dead,.dead,.dead,.dead,.dead,.dead,.dead,.dead,.dead,.dead,.dead,.dead,.dead,.dead,.dead,.dead,.dead,.dead,.dead,.dead,.dead,.dead,.dead,.dead,.dead,.dead,.dead,.dead,.dead,.dead,.dead,.dead,.dead,.dead,.dead,.dead,.dead,.dead,.dead,.dead,.dead,.dead,.dead,.dead,.dead,.dead,.dead,.dead,.dead,.dead,.dead,.dead,.dead,.dead,.dead,.dead,.dead,.dead,.dead,.dead,.dead,.dead,.dead,.dead,.dead,.dead,.dead,.dead,.dead,.dead,.dead,.dead,.dead,.dead,.dead,.dead,.dead,.dead,.dead,.dead,.dead,.dead,.dead,.dead,.dead,.dead,.dead,.dead,.dead,.dead,.dead,.dead,.dead,.dead,.dead,.dead,.dead,.dead,.dead,.dead,.dead,.dead,.dead,.dead,.dead,.dead,.dead,.dead,.dead,.dead,.dead,.dead,.dead,.dead,.dead,.dead,.dead,.dead,.dead,.dead,.dead,.dead,.dead,.dead,.dead,.dead,.dead,.dead,.dead,.dead,.dead,.dead,.dead,.dead,.dead,.dead,.dead,.dead,.dead,.dead,.dead,.dead,.dead,.dead,.dead,.dead,.dead,.dead,.dead,.dead,.dead,.dead,.dead,.dead,.dead,.dead,.dead,.dead,.dead,.dead,.dead,.dead,.dead,.dead,.dead,.dead,.dead,.dead],[(0,false,[.dead,.arr false 1 x.2.2.length (gl aC x.2.2)])],[]⟩
def f134.S3 (a:(List (Int))×Int×Int×Int×(List (aB))) (x:Int×Int×(List (Int))):Tm:=⟨[.msl 0 1 x.2.2.length,.dead,.dead,.dead,.dead,.dead,.dead,.dead,.dead,.dead,.dead,.dead,.dead,.dead,.int .i64 x.1,.dead,.dead,.int .i64 x.2.1,.dead,.dead,.dead,.dead,.dead,.dead,.dead,.dead,.dead,.dead,.dead,.dead,.dead,.dead,.dead,.dead,.dead,.dead,.dead,.dead,.dead,.dead,.dead,.dead,.dead,.dead,.dead,.dead,.dead,.dead,.dead,.dead,.dead,.dead,.dead,.dead,.dead,.dead,.dead,.dead,.dead,.dead,.dead,.dead,.dead,.dead,.dead,.dead,.dead,.dead,.dead,.dead,.dead,.dead,.dead,.dead,.dead,.dead,.dead,.dead,.dead,.dead,.dead,.dead,.dead,.dead,.dead,.dead,.dead,.dead,.dead,.dead,.dead,.dead,.dead,.dead,.dead,.dead,.dead,.dead,.dead,.dead,.dead,.dead,.dead,.dead,.dead,.dead,.dead,.dead,.dead,.dead,.dead,.dead,.dead,.dead,.dead,.dead,.dead,.dead,.dead,.dead,.dead,.dead,.dead,.dead,.dead,.dead,.dead,.dead,.dead,.dead,.dead,.dead,.dead,.dead,.dead,.dead,.dead,.dead,.dead,.dead,.dead,.dead,.dead,.dead,.dead,.dead,.dead,.dead,.dead,.dead,.dead,.dead,.dead,.dead,.dead,.dead,.dead,.dead,.dead,.dead,.dead,.dead,.dead,.dead,.dead,.dead,.dead,.dead,.dead,.dead,.dead,.dead,.dead,.dead,.dead,.dead,.dead,.dead,.dead,.dead,.dead,.dead,.dead,.dead,.dead,.dead,.dead,.dead,.dead,.dead,.dead,.dead,.dead,.dead,.dead,.dead,.dead,.dead,.dead,.dead,.dead,.dead,.dead,.dead,.dead,.dead,.dead,.dead,.dead,.dead,.dead,.dead,.dead,.dead,.dead,.dead,.dead,.dead,.dead,.dead],[(0,false,[.dead,.arr false 1 x.2.2.length (gl aC x.2.2)])],[]⟩
def f134.S4 (a:(List (Int))×Int×Int×Int×(List (aB))) (x:Int×Int×Int×Int×Int×(List (Int))):Tm:=⟨[.msl 0 1 x.2.2.2.2.2.length,.int .i64 a.2.1,.int .i64 a.2.2.1,.int .i64 a.2.2.2.1,.fn 115 [.eptr [.slice .ro 13 a.2.2.2.2.length (gl aD a.2.2.2.2)]],.dead,.dead,.dead,.dead,.dead,.dead,.dead,.dead,.dead,.dead,.dead,.dead,.dead,.int .i64 x.1,.int .i64 x.2.1,.int .i64 x.2.2.1,.int .i64 x.2.2.2.1,.int .i64 x.2.2.2.2.1,.dead,.dead,.dead,.dead,.dead,.dead,.dead,.dead,.dead,.dead,.dead,.dead,.dead,.dead,.dead,.dead,.dead,.dead,.dead,.dead,.dead,.dead,.dead,.dead,.dead,.dead,.dead,.dead,.dead,.dead,.dead,.dead,.dead,.dead,.dead,.dead,.dead,.dead,.dead,.dead,.dead,.dead,.dead,.dead,.dead,.dead,.dead,.dead,.dead,.dead,.dead,.dead,.dead,.dead,.dead,.dead,.dead,.dead,.dead,.dead,.dead,.dead,.dead,.dead,.dead,.dead,.dead,.dead,.dead,.dead,.dead,.dead,.dead,.dead,.dead,.dead,.dead,.dead,.dead,.dead,.dead,.dead,.dead,.dead,.dead,.dead,.dead,.dead,.dead,.dead,.dead,.dead,.dead,.dead,.dead,.dead,.dead,.dead,.dead,.dead,.dead,.dead,.dead,.dead,.dead,.dead,.dead,.dead,.dead,.dead,.dead,.dead,.dead,.dead,.dead,.dead,.dead,.dead,.dead,.dead,.dead,.dead,.dead,.dead,.dead,.dead,.dead,.dead,.dead,.dead,.dead,.dead,.dead,.dead,.dead,.dead,.dead,.dead,.dead,.dead,.dead,.dead,.dead,.dead,.dead,.dead,.dead,.dead,.dead,.dead,.dead,.dead,.dead,.dead,.dead,.dead,.dead,.dead,.dead,.dead,.dead,.dead,.dead,.dead,.dead,.dead,.dead,.dead,.dead,.dead,.dead,.dead,.dead,.dead,.dead,.dead,.dead,.dead,.dead,.dead,.dead,.dead,.dead,.dead,.dead,.dead,.dead,.dead,.dead,.dead,.dead,.dead,.dead,.dead,.dead,.dead,.dead],[(0,false,[.dead,.arr false 1 x.2.2.2.2.2.length (gl aC x.2.2.2.2.2)])],[]⟩
def f134.kills (a:(List (Int))×Int×Int×Int×(List (aB))):List iX:=[.tell (Int×Int×(List (Int))) (f134.S0 a),
 .tell (Int×Int×(List (Int))) (f134.S1 a),
 .tell (Int×Int×(List (Int))) (f134.S2 a),
 .tell (Int×Int×(List (Int))) (f134.S3 a),
 .tell (Int×Int×Int×Int×Int×(List (Int))) (f134.S4 a)]
def f134.cuts (a:(List (Int))×Int×Int×Int×(List (aB))):List (Nat×Σ β:Type,β→Tm):=[(999999,⟨Unit,fun x=>⟨[],[],[]⟩⟩),
 (100031,⟨Int×Int×Int×Int×(List (Int)),fun x=>⟨[.msl 0 1 x.2.2.2.2.length,.int .i64 a.2.1,.int .i64 a.2.2.1,.int .i64 a.2.2.2.1,.fn 115 [.eptr [.slice .ro 13 a.2.2.2.2.length (gl aD a.2.2.2.2)]],.dead,.dead,.dead,.dead,.dead,.dead,.dead,.dead,.dead,.dead,.dead,.dead,.dead,.int .i64 x.1,.int .i64 x.2.1,.int .i64 x.2.2.1,.int .i64 x.2.2.2.1,.dead,.dead,.dead,.dead,.dead,.dead,.dead,.dead,.dead,.dead,.dead,.dead,.dead,.dead,.dead,.dead,.dead,.dead,.dead,.dead,.dead,.dead,.dead,.dead,.dead,.dead,.dead,.dead,.dead,.dead,.dead,.dead,.dead,.dead,.dead,.dead,.dead,.dead,.dead,.dead,.dead,.dead,.dead,.dead,.dead,.dead,.dead,.dead,.dead,.dead,.dead,.dead,.dead,.dead,.dead,.dead,.dead,.dead,.dead,.dead,.dead,.dead,.dead,.dead,.dead,.dead,.dead,.dead,.dead,.dead,.dead,.dead,.dead,.dead,.dead,.dead,.dead,.dead,.dead,.dead,.dead,.dead,.dead,.dead,.dead,.dead,.dead,.dead,.dead,.dead,.dead,.dead,.dead,.dead,.dead,.dead,.dead,.dead,.dead,.dead,.dead,.dead,.dead,.dead,.dead,.dead,.dead,.dead,.dead,.dead,.dead,.dead,.dead,.dead,.dead,.dead,.dead,.dead,.dead,.dead,.dead,.dead,.dead,.dead,.dead,.dead,.dead,.dead,.dead,.dead,.dead,.dead,.dead,.dead,.dead,.dead,.dead,.dead,.dead,.dead,.dead,.dead,.dead,.dead,.dead,.dead,.dead,.dead,.dead,.dead,.dead,.dead,.dead,.dead,.dead,.dead,.dead,.dead,.dead,.dead,.dead,.dead,.dead,.dead,.dead,.dead,.dead,.dead,.dead,.dead,.dead,.dead,.dead,.dead,.dead,.dead,.dead,.dead,.dead,.dead,.dead,.dead,.dead,.dead,.dead,.dead,.dead,.dead,.dead,.dead,.dead,.dead,.dead,.dead,.dead,.dead,.dead,.dead],[(0,false,[.dead,.arr false 1 x.2.2.2.2.length (gl aC x.2.2.2.2)])],[]⟩⟩),
 (100042,⟨Int×Int×Int×(List (Int)),fun x=>⟨[.msl 0 1 x.2.2.2.length,.int .i64 a.2.1,.dead,.int .i64 a.2.2.2.1,.fn 115 [.eptr [.slice .ro 13 a.2.2.2.2.length (gl aD a.2.2.2.2)]],.dead,.dead,.dead,.dead,.dead,.dead,.dead,.dead,.dead,.dead,.dead,.dead,.dead,.int .i64 x.1,.dead,.int .i64 x.2.1,.dead,.dead,.dead,.int .i64 x.2.2.1,.dead,.dead,.dead,.dead,.dead,.dead,.dead,.dead,.dead,.dead,.dead,.dead,.dead,.dead,.dead,.dead,.dead,.dead,.dead,.dead,.dead,.dead,.dead,.dead,.dead,.dead,.dead,.dead,.dead,.dead,.dead,.dead,.dead,.dead,.dead,.dead,.dead,.dead,.dead,.dead,.dead,.dead,.dead,.dead,.dead,.dead,.dead,.dead,.dead,.dead,.dead,.dead,.dead,.dead,.dead,.dead,.dead,.dead,.dead,.dead,.dead,.dead,.dead,.dead,.dead,.dead,.dead,.dead,.dead,.dead,.dead,.dead,.dead,.dead,.dead,.dead,.dead,.dead,.dead,.dead,.dead,.dead,.dead,.dead,.dead,.dead,.dead,.dead,.dead,.dead,.dead,.dead,.dead,.dead,.dead,.dead,.dead,.dead,.dead,.dead,.dead,.dead,.dead,.dead,.dead,.dead,.dead,.dead,.dead,.dead,.dead,.dead,.dead,.dead,.dead,.dead,.dead,.dead,.dead,.dead,.dead,.dead,.dead,.dead,.dead,.dead,.dead,.dead,.dead,.dead,.dead,.dead,.dead,.dead,.dead,.dead,.dead,.dead,.dead,.dead,.dead,.dead,.dead,.dead,.dead,.dead,.dead,.dead,.dead,.dead,.dead,.dead,.dead,.dead,.dead,.dead,.dead,.dead,.dead,.dead,.dead,.dead,.dead,.dead,.dead,.dead,.dead,.dead,.dead,.dead,.dead,.dead,.dead,.dead,.dead,.dead,.dead,.dead,.dead,.dead,.dead,.dead,.dead,.dead,.dead,.dead,.dead,.dead,.dead,.dead,.dead,.dead,.dead,.dead,.dead],[(0,false,[.dead,.arr false 1 x.2.2.2.length (gl aC x.2.2.2)])],[]⟩⟩),
 (100044,⟨Int×Int×(List (Int)),fun x=>⟨[.msl 0 1 x.2.2.length,.dead,.dead,.int .i64 a.2.2.2.1,.fn 115 [.eptr [.slice .ro 13 a.2.2.2.2.length (gl aD a.2.2.2.2)]],.dead,.dead,.dead,.dead,.dead,.dead,.dead,.dead,.dead,.dead,.dead,.dead,.dead,.int .i64 x.1,.dead,.dead,.dead,.dead,.dead,.int .i64 x.2.1,.dead,.dead,.dead,.dead,.dead,.dead,.dead,.dead,.dead,.dead,.dead,.dead,.dead,.dead,.dead,.dead,.dead,.dead,.dead,.dead,.dead,.dead,.dead,.dead,.dead,.dead,.dead,.dead,.dead,.dead,.dead,.dead,.dead,.dead,.dead,.dead,.dead,.dead,.dead,.dead,.dead,.dead,.dead,.dead,.dead,.dead,.dead,.dead,.dead,.dead,.dead,.dead,.dead,.dead,.dead,.dead,.dead,.dead,.dead,.dead,.dead,.dead,.dead,.dead,.dead,.dead,.dead,.dead,.dead,.dead,.dead,.dead,.dead,.dead,.dead,.dead,.dead,.dead,.dead,.dead,.dead,.dead,.dead,.dead,.dead,.dead,.dead,.dead,.dead,.dead,.dead,.dead,.dead,.dead,.dead,.dead,.dead,.dead,.dead,.dead,.dead,.dead,.dead,.dead,.dead,.dead,.dead,.dead,.dead,.dead,.dead,.dead,.dead,.dead,.dead,.dead,.dead,.dead,.dead,.dead,.dead,.dead,.dead,.dead,.dead,.dead,.dead,.dead,.dead,.dead,.dead,.dead,.dead,.dead,.dead,.dead,.dead,.dead,.dead,.dead,.dead,.dead,.dead,.dead,.dead,.dead,.dead,.dead,.dead,.dead,.dead,.dead,.dead,.dead,.dead,.dead,.dead,.dead,.dead,.dead,.dead,.dead,.dead,.dead,.dead,.dead,.dead,.dead,.dead,.dead,.dead,.dead,.dead,.dead,.dead,.dead,.dead,.dead,.dead,.dead,.dead,.dead,.dead,.dead,.dead,.dead,.dead,.dead,.dead,.dead,.dead,.dead,.dead,.dead,.dead],[(0,false,[.dead,.arr false 1 x.2.2.length (gl aC x.2.2)])],[]⟩⟩)]
def f134.af (a:(List (Int))×Int×Int×Int×(List (aB))):AF:=AF.mk (.seq (.seq (.region [oR 25 0 .move [2],
 oR 26 1 .move [1],
 oR 27 2 (.bin .sub) [25,26],
 ⟨(some 28),1000003,(.bin .eql),[.t 27,.c (.int .i64 (1))],none⟩])
 (.cond (.t 28) (.seq (.region [oR 29 4 .move [2],
 oR 10 5 .move [29]])
 (.seq (.region [oR 30 6 .move [3],
 oR 11 7 .move [30]])
 (.seq (.block 0 (.loopT (Int×Int×(List (Int))) (f134.S0 a) 1000008 1000037 (.seq (.seq (.region [oR 31 8 .move [10],
 oR 32 9 .move [11],
 oR 33 10 (.bin .lss) [31,32]])
 (.cond (.t 33) (.skip) (.exit 0)))
 (.block 1 (.seq (.region [oR 34 11 .move [10],
 oR 35 12 .move [11],
 oR 36 13 (.bin .add) [34,35],
 oR 37 14 (.conv (.int .u64)) [36],
 ⟨(some 38),1000015,(.bin .shr),[.t 37,.c (.int .u64 (1))],none⟩,
 oR 39 16 (.conv (.int .i64)) [38],
 oR 12 17 .move [39]])
 (.seq (.region [oR 40 18 .move [4],
 oR 41 19 .move [0],
 oR 42 20 .move [12],
 oR 43 21 (.indexAddr 1 none) [41,42],
 oR 44 22 (.load false 1) [43],
 oR 45 23 .move [0],
 oR 46 24 .move [1],
 oR 47 25 (.indexAddr 1 none) [45,46],
 oR 48 26 (.load false 1) [47],
 oR 49 27 (.callv false) [40,44,48],
 ⟨(some 50),1000031,(.bin .lss),[.t 49,.c (.int .i64 (0))],none⟩])
 (.cond (.t 50) (.region [oR 51 32 .move [12],
 ⟨(some 52),1000033,(.bin .add),[.t 51,.c (.int .i64 (1))],none⟩,
 oR 10 34 .move [52]]) (.region [oR 53 35 .move [12],
 oR 11 36 .move [53]]))))))))
 (.seq (.seq (.region [oR 54 37 .move [1],
 oR 13 38 .move [54]])
 (.block 2 (.loopT (Int×Int×(List (Int))) (f134.S1 a) 1000039 1000064 (.seq (.seq (.region [oR 55 39 .move [13],
 oR 56 40 .move [10],
 ⟨(some 57),1000041,(.bin .sub),[.t 56,.c (.int .i64 (1))],none⟩,
 oR 58 42 (.bin .lss) [55,57]])
 (.cond (.t 58) (.skip) (.exit 2)))
 (.seq (.block 3 (.region [oR 61 43 .move [0],
 oR 62 44 .move [13],
 oR 63 45 .move [0],
 oR 64 46 .move [13],
 ⟨(some 65),1000047,(.bin .add),[.t 64,.c (.int .i64 (1))],none⟩,
 oR 66 48 .move [0],
 oR 67 49 .move [13],
 ⟨(some 68),1000050,(.bin .add),[.t 67,.c (.int .i64 (1))],none⟩,
 oR 69 51 (.indexAddr 1 none) [66,68],
 oR 70 52 (.load false 1) [69],
 oR 71 53 .move [0],
 oR 72 54 .move [13],
 oR 73 55 (.indexAddr 1 none) [71,72],
 oR 74 56 (.load false 1) [73],
 oR 75 57 (.indexAddr 1 none) [61,62],
 ⟨none,1000058,(.store 1),[.t 75,.t 70],none⟩,
 oR 76 59 (.indexAddr 1 none) [63,65],
 ⟨none,1000060,(.store 1),[.t 76,.t 74],none⟩]))
 (.region [oR 59 61 .move [13],
 ⟨(some 60),1000062,(.bin .add),[.t 59,.c (.int .i64 (1))],none⟩,
 oR 13 63 .move [60]]))))))
 (.ret))))) (.skip)))
 (.seq (.seq (.region [oR 77 64 .move [3],
 oR 78 65 .move [2],
 oR 79 66 (.bin .sub) [77,78],
 ⟨(some 80),1000067,(.bin .eql),[.t 79,.c (.int .i64 (1))],none⟩])
 (.cond (.t 80) (.seq (.region [oR 81 68 .move [1],
 oR 14 69 .move [81]])
 (.seq (.region [oR 82 70 .move [2],
 oR 15 71 .move [82]])
 (.seq (.block 4 (.loopT (Int×Int×(List (Int))) (f134.S2 a) 1000072 1000102 (.seq (.seq (.region [oR 83 72 .move [14],
 oR 84 73 .move [15],
 oR 85 74 (.bin .lss) [83,84]])
 (.cond (.t 85) (.skip) (.exit 4)))
 (.block 5 (.seq (.region [oR 86 75 .move [14],
 oR 87 76 .move [15],
 oR 88 77 (.bin .add) [86,87],
 oR 89 78 (.conv (.int .u64)) [88],
 ⟨(some 90),1000079,(.bin .shr),[.t 89,.c (.int .u64 (1))],none⟩,
 oR 91 80 (.conv (.int .i64)) [90],
 oR 16 81 .move [91]])
 (.seq (.region [oR 92 82 .move [4],
 oR 93 83 .move [0],
 oR 94 84 .move [2],
 oR 95 85 (.indexAddr 1 none) [93,94],
 oR 96 86 (.load false 1) [95],
 oR 97 87 .move [0],
 oR 98 88 .move [16],
 oR 99 89 (.indexAddr 1 none) [97,98],
 oR 100 90 (.load false 1) [99],
 oR 101 91 (.callv false) [92,96,100],
 ⟨(some 102),1000095,(.bin .lss),[.t 101,.c (.int .i64 (0))],none⟩,
 oR 103 96 (.un .not) [102]])
 (.cond (.t 103) (.region [oR 104 97 .move [16],
 ⟨(some 105),1000098,(.bin .add),[.t 104,.c (.int .i64 (1))],none⟩,
 oR 14 99 .move [105]]) (.region [oR 106 100 .move [16],
 oR 15 101 .move [106]]))))))))
 (.seq (.seq (.region [oR 107 102 .move [2],
 oR 17 103 .move [107]])
 (.block 6 (.loopT (Int×Int×(List (Int))) (f134.S3 a) 1000104 1000128 (.seq (.seq (.region [oR 108 104 .move [17],
 oR 109 105 .move [14],
 oR 110 106 (.bin .gtr) [108,109]])
 (.cond (.t 110) (.skip) (.exit 6)))
 (.seq (.block 7 (.region [oR 113 107 .move [0],
 oR 114 108 .move [17],
 oR 115 109 .move [0],
 oR 116 110 .move [17],
 ⟨(some 117),1000111,(.bin .sub),[.t 116,.c (.int .i64 (1))],none⟩,
 oR 118 112 .move [0],
 oR 119 113 .move [17],
 ⟨(some 120),1000114,(.bin .sub),[.t 119,.c (.int .i64 (1))],none⟩,
 oR 121 115 (.indexAddr 1 none) [118,120],
 oR 122 116 (.load false 1) [121],
 oR 123 117 .move [0],
 oR 124 118 .move [17],
 oR 125 119 (.indexAddr 1 none) [123,124],
 oR 126 120 (.load false 1) [125],
 oR 127 121 (.indexAddr 1 none) [113,114],
 ⟨none,1000122,(.store 1),[.t 127,.t 122],none⟩,
 oR 128 123 (.indexAddr 1 none) [115,117],
 ⟨none,1000124,(.store 1),[.t 128,.t 126],none⟩]))
 (.region [oR 111 125 .move [17],
 ⟨(some 112),1000126,(.bin .sub),[.t 111,.c (.int .i64 (1))],none⟩,
 oR 17 127 .move [112]]))))))
 (.ret))))) (.skip)))
 (.seq (.region [oR 129 128 .move [1],
 oR 130 129 .move [3],
 oR 131 130 (.bin .add) [129,130],
 oR 132 131 (.conv (.int .u64)) [131],
 ⟨(some 133),1000132,(.bin .shr),[.t 132,.c (.int .u64 (1))],none⟩,
 oR 134 133 (.conv (.int .i64)) [133],
 oR 18 134 .move [134]])
 (.seq (.region [oR 135 135 .move [18],
 oR 136 136 .move [2],
 oR 137 137 (.bin .add) [135,136],
 oR 19 138 .move [137]])
 (.seq (.region [⟨(some 20),1000139,.move,[.c (.int .i64 (0))],none⟩,
 ⟨(some 21),1000140,.move,[.c (.int .i64 (0))],none⟩])
 (.joinT (Int×Int×Int×Int×(List (Int))) (fun x=>⟨[.msl 0 1 x.2.2.2.2.length,.int .i64 a.2.1,.int .i64 a.2.2.1,.int .i64 a.2.2.2.1,.fn 115 [.eptr [.slice .ro 13 a.2.2.2.2.length (gl aD a.2.2.2.2)]],.dead,.dead,.dead,.dead,.dead,.dead,.dead,.dead,.dead,.dead,.dead,.dead,.dead,.int .i64 x.1,.int .i64 x.2.1,.int .i64 x.2.2.1,.int .i64 x.2.2.2.1,.dead,.dead,.dead,.dead,.dead,.dead,.dead,.dead,.dead,.dead,.dead,.dead,.dead,.dead,.dead,.dead,.dead,.dead,.dead,.dead,.dead,.dead,.dead,.dead,.dead,.dead,.dead,.dead,.dead,.dead,.dead,.dead,.dead,.dead,.dead,.dead,.dead,.dead,.dead,.dead,.dead,.dead,.dead,.dead,.dead,.dead,.dead,.dead,.dead,.dead,.dead,.dead,.dead,.dead,.dead,.dead,.dead,.dead,.dead,.dead,.dead,.dead,.dead,.dead,.dead,.dead,.dead,.dead,.dead,.dead,.dead,.dead,.dead,.dead,.dead,.dead,.dead,.dead,.dead,.dead,.dead,.dead,.dead,.dead,.dead,.dead,.dead,.dead,.dead,.dead,.dead,.dead,.dead,.dead,.dead,.dead,.dead,.dead,.dead,.dead,.dead,.dead,.dead,.dead,.dead,.dead,.dead,.dead,.dead,.dead,.dead,.dead,.dead,.dead,.dead,.dead,.dead,.dead,.dead,.dead,.dead,.dead,.dead,.dead,.dead,.dead,.dead,.dead,.dead,.dead,.dead,.dead,.dead,.dead,.dead,.dead,.dead,.dead,.dead,.dead,.dead,.dead,.dead,.dead,.dead,.dead,.dead,.dead,.dead,.dead,.dead,.dead,.dead,.dead,.dead,.dead,.dead,.dead,.dead,.dead,.dead,.dead,.dead,.dead,.dead,.dead,.dead,.dead,.dead,.dead,.dead,.dead,.dead,.dead,.dead,.dead,.dead,.dead,.dead,.dead,.dead,.dead,.dead,.dead,.dead,.dead,.dead,.dead,.dead,.dead,.dead,.dead,.dead,.dead,.dead,.dead,.dead,.dead],[(0,false,[.dead,.arr false 1 x.2.2.2.2.length (gl aC x.2.2.2.2)])],[]⟩) (.seq (.region [oR 138 141 .move [2],
 oR 139 142 .move [18],
 oR 140 143 (.bin .gtr) [138,139]])
 (.cond (.t 140) (.seq (.region [oR 141 144 .move [19],
 oR 142 145 .move [3],
 oR 143 146 (.bin .sub) [141,142],
 oR 20 147 .move [143]])
 (.region [oR 144 148 .move [18],
 oR 21 149 .move [144]])) (.seq (.region [oR 145 150 .move [1],
 oR 20 151 .move [145]])
 (.region [oR 146 152 .move [2],
 oR 21 153 .move [146]]))))
 (.seq (.region [oR 147 154 .move [19],
 ⟨(some 148),1000155,(.bin .sub),[.t 147,.c (.int .i64 (1))],none⟩,
 oR 22 156 .move [148]])
 (.seq (.block 8 (.loopT (Int×Int×Int×Int×Int×(List (Int))) (f134.S4 a) 1000157 1000189 (.seq (.seq (.region [oR 149 157 .move [20],
 oR 150 158 .move [21],
 oR 151 159 (.bin .lss) [149,150]])
 (.cond (.t 151) (.skip) (.exit 8)))
 (.block 9 (.seq (.region [oR 152 160 .move [20],
 oR 153 161 .move [21],
 oR 154 162 (.bin .add) [152,153],
 oR 155 163 (.conv (.int .u64)) [154],
 ⟨(some 156),1000164,(.bin .shr),[.t 155,.c (.int .u64 (1))],none⟩,
 oR 157 165 (.conv (.int .i64)) [156],
 oR 23 166 .move [157]])
 (.seq (.region [oR 158 167 .move [4],
 oR 159 168 .move [0],
 oR 160 169 .move [22],
 oR 161 170 .move [23],
 oR 162 171 (.bin .sub) [160,161],
 oR 163 172 (.indexAddr 1 none) [159,162],
 oR 164 173 (.load false 1) [163],
 oR 165 174 .move [0],
 oR 166 175 .move [23],
 oR 167 176 (.indexAddr 1 none) [165,166],
 oR 168 177 (.load false 1) [167],
 oR 169 178 (.callv false) [158,164,168],
 ⟨(some 170),1000182,(.bin .lss),[.t 169,.c (.int .i64 (0))],none⟩,
 oR 171 183 (.un .not) [170]])
 (.cond (.t 171) (.region [oR 172 184 .move [23],
 ⟨(some 173),1000185,(.bin .add),[.t 172,.c (.int .i64 (1))],none⟩,
 oR 20 186 .move [173]]) (.region [oR 174 187 .move [23],
 oR 21 188 .move [174]]))))))))
 (.seq (.region [oR 175 189 .move [19],
 oR 176 190 .move [20],
 oR 177 191 (.bin .sub) [175,176],
 oR 24 192 .move [177]])
 (.joinT (Int×Int×Int×(List (Int))) (fun x=>⟨[.msl 0 1 x.2.2.2.length,.int .i64 a.2.1,.dead,.int .i64 a.2.2.2.1,.fn 115 [.eptr [.slice .ro 13 a.2.2.2.2.length (gl aD a.2.2.2.2)]],.dead,.dead,.dead,.dead,.dead,.dead,.dead,.dead,.dead,.dead,.dead,.dead,.dead,.int .i64 x.1,.dead,.int .i64 x.2.1,.dead,.dead,.dead,.int .i64 x.2.2.1,.dead,.dead,.dead,.dead,.dead,.dead,.dead,.dead,.dead,.dead,.dead,.dead,.dead,.dead,.dead,.dead,.dead,.dead,.dead,.dead,.dead,.dead,.dead,.dead,.dead,.dead,.dead,.dead,.dead,.dead,.dead,.dead,.dead,.dead,.dead,.dead,.dead,.dead,.dead,.dead,.dead,.dead,.dead,.dead,.dead,.dead,.dead,.dead,.dead,.dead,.dead,.dead,.dead,.dead,.dead,.dead,.dead,.dead,.dead,.dead,.dead,.dead,.dead,.dead,.dead,.dead,.dead,.dead,.dead,.dead,.dead,.dead,.dead,.dead,.dead,.dead,.dead,.dead,.dead,.dead,.dead,.dead,.dead,.dead,.dead,.dead,.dead,.dead,.dead,.dead,.dead,.dead,.dead,.dead,.dead,.dead,.dead,.dead,.dead,.dead,.dead,.dead,.dead,.dead,.dead,.dead,.dead,.dead,.dead,.dead,.dead,.dead,.dead,.dead,.dead,.dead,.dead,.dead,.dead,.dead,.dead,.dead,.dead,.dead,.dead,.dead,.dead,.dead,.dead,.dead,.dead,.dead,.dead,.dead,.dead,.dead,.dead,.dead,.dead,.dead,.dead,.dead,.dead,.dead,.dead,.dead,.dead,.dead,.dead,.dead,.dead,.dead,.dead,.dead,.dead,.dead,.dead,.dead,.dead,.dead,.dead,.dead,.dead,.dead,.dead,.dead,.dead,.dead,.dead,.dead,.dead,.dead,.dead,.dead,.dead,.dead,.dead,.dead,.dead,.dead,.dead,.dead,.dead,.dead,.dead,.dead,.dead,.dead,.dead,.dead,.dead,.dead,.dead,.dead,.dead],[(0,false,[.dead,.arr false 1 x.2.2.2.length (gl aC x.2.2.2)])],[]⟩) (.seq (.region [oR 178 193 .move [20],
 oR 179 194 .move [2],
 oR 180 195 (.bin .lss) [178,179],
 oR 181 196 .move [180],
 oG 182 1000197 .move [2] 181 true,
 oG 183 1000198 .move [24] 181 true,
 oG 184 1000199 (.bin .lss) [182,183] 181 true,
 ⟨(some 185),1000200,.pick,[.t 181,.t 184,.c (.bool false)],none⟩])
 (.cond (.t 185) (.region [oR 186 201 .move [0],
 oR 187 202 .move [20],
 oR 188 203 .move [2],
 oR 189 204 .move [24],
 oR 190 205 .move [4],
 oR 191 206 (.call true 137) [186,187,188,189,190]]) (.skip)))
 (.joinT (Int×Int×(List (Int))) (fun x=>⟨[.msl 0 1 x.2.2.length,.dead,.dead,.int .i64 a.2.2.2.1,.fn 115 [.eptr [.slice .ro 13 a.2.2.2.2.length (gl aD a.2.2.2.2)]],.dead,.dead,.dead,.dead,.dead,.dead,.dead,.dead,.dead,.dead,.dead,.dead,.dead,.int .i64 x.1,.dead,.dead,.dead,.dead,.dead,.int .i64 x.2.1,.dead,.dead,.dead,.dead,.dead,.dead,.dead,.dead,.dead,.dead,.dead,.dead,.dead,.dead,.dead,.dead,.dead,.dead,.dead,.dead,.dead,.dead,.dead,.dead,.dead,.dead,.dead,.dead,.dead,.dead,.dead,.dead,.dead,.dead,.dead,.dead,.dead,.dead,.dead,.dead,.dead,.dead,.dead,.dead,.dead,.dead,.dead,.dead,.dead,.dead,.dead,.dead,.dead,.dead,.dead,.dead,.dead,.dead,.dead,.dead,.dead,.dead,.dead,.dead,.dead,.dead,.dead,.dead,.dead,.dead,.dead,.dead,.dead,.dead,.dead,.dead,.dead,.dead,.dead,.dead,.dead,.dead,.dead,.dead,.dead,.dead,.dead,.dead,.dead,.dead,.dead,.dead,.dead,.dead,.dead,.dead,.dead,.dead,.dead,.dead,.dead,.dead,.dead,.dead,.dead,.dead,.dead,.dead,.dead,.dead,.dead,.dead,.dead,.dead,.dead,.dead,.dead,.dead,.dead,.dead,.dead,.dead,.dead,.dead,.dead,.dead,.dead,.dead,.dead,.dead,.dead,.dead,.dead,.dead,.dead,.dead,.dead,.dead,.dead,.dead,.dead,.dead,.dead,.dead,.dead,.dead,.dead,.dead,.dead,.dead,.dead,.dead,.dead,.dead,.dead,.dead,.dead,.dead,.dead,.dead,.dead,.dead,.dead,.dead,.dead,.dead,.dead,.dead,.dead,.dead,.dead,.dead,.dead,.dead,.dead,.dead,.dead,.dead,.dead,.dead,.dead,.dead,.dead,.dead,.dead,.dead,.dead,.dead,.dead,.dead,.dead,.dead,.dead,.dead,.dead],[(0,false,[.dead,.arr false 1 x.2.2.length (gl aC x.2.2)])],[]⟩) (.seq (.region [oR 192 210 .move [1],
 oR 193 211 .move [20],
 oR 194 212 (.bin .lss) [192,193],
 oR 195 213 .move [194],
 oG 196 1000214 .move [20] 195 true,
 oG 197 1000215 .move [18] 195 true,
 oG 198 1000216 (.bin .lss) [196,197] 195 true,
 ⟨(some 199),1000217,.pick,[.t 195,.t 198,.c (.bool false)],none⟩])
 (.cond (.t 199) (.region [oR 200 218 .move [0],
 oR 201 219 .move [1],
 oR 202 220 .move [20],
 oR 203 221 .move [18],
 oR 204 222 .move [4],
 oR 205 223 (.call true 134) [200,201,202,203,204]]) (.skip)))
 (.seq (.region [oR 206 227 .move [18],
 oR 207 228 .move [24],
 oR 208 229 (.bin .lss) [206,207],
 oR 209 230 .move [208],
 oG 210 1000231 .move [24] 209 true,
 oG 211 1000232 .move [3] 209 true,
 oG 212 1000233 (.bin .lss) [210,211] 209 true,
 ⟨(some 213),1000234,.pick,[.t 209,.t 212,.c (.bool false)],none⟩])
 (.cond (.t 213) (.region [oR 214 235 .move [0],
 oR 215 236 .move [18],
 oR 216 237 .move [24],
 oR 217 238 .move [3],
 oR 218 239 .move [4],
 oR 219 240 (.call true 134) [214,215,216,217,218]]) (.skip))))))))))))))
 [] 1 215
def f134.env (n:Nat):Env:=[(134,f134.Cn n),(115,f115.C),(137,f137.C)]
def f134.tree (a:(List (Int))×Int×Int×Int×(List (aB))) (n:Nat):Prop:=Let (wI (a.2.2.1 - a.2.1)) (fun v1:Int=>Br (v1==(1:Int)) (∃ (I5:(Int×Int×(List (Int)))→Prop) (μ6:(Int×Int×(List (Int)))→Nat),(∃ x4:Int×Int×(List (Int)),(a.1.length=x4.2.2.length)∧(a.2.1=a.2.1)∧(DEqs [.eptr [.slice .ro 13 a.2.2.2.2.length (gl aD a.2.2.2.2)]] [.eptr [.slice .ro 13 a.2.2.2.2.length (gl aD a.2.2.2.2)]])∧(a.2.2.1=x4.1)∧(a.2.2.2.1=x4.2.1)∧SlQ a.1.length x4.2.2.length (gl aC a.1) (gl aC x4.2.2) (I5 x4))∧∀ y7:Int×Int×(List (Int)),I5 y7→(Br (decide (y7.1 < y7.2.1)) (Let (wI (y7.1+y7.2.1)) (fun v10:Int=>Let (IntKind.u64.wrap v10) (fun v11:Int=>Let (Int.fdiv v11 2) (fun v12:Int=>Let (wI v12) (fun v13:Int=>Br (decide ((0:Int)≤v13)&&decide (v13 < (List.length y7.2.2:Int))) ((y7.2.2.length=y7.2.2.length)∧(Br (decide ((0:Int)≤a.2.1)&&decide (a.2.1 < (List.length y7.2.2:Int))) ((y7.2.2.length=y7.2.2.length)∧(∃ c16:Int×Int×(List (aB)),((at_ y7.2.2 v13)=c16.1)∧((at_ y7.2.2 a.2.1)=c16.2.1)∧(DEqs [.slice .ro 13 a.2.2.2.2.length (gl aD a.2.2.2.2)] [.slice .ro 13 c16.2.2.length (gl aD c16.2.2)])∧(eL c16)∧Br (decide ((jQ c16) < (0:Int))) (Let (wI (v13+(1:Int))) (fun v19:Int=>∃ x20:Int×Int×(List (Int)),(y7.2.2.length=x20.2.2.length)∧(a.2.1=a.2.1)∧(DEqs [.eptr [.slice .ro 13 a.2.2.2.2.length (gl aD a.2.2.2.2)]] [.eptr [.slice .ro 13 a.2.2.2.2.length (gl aD a.2.2.2.2)]])∧(v19=x20.1)∧(y7.2.1=x20.2.1)∧SlQ y7.2.2.length x20.2.2.length (gl aC y7.2.2) (gl aC x20.2.2) (I5 x20∧μ6 x20 < μ6 y7))) (∃ x25:Int×Int×(List (Int)),(y7.2.2.length=x25.2.2.length)∧(a.2.1=a.2.1)∧(DEqs [.eptr [.slice .ro 13 a.2.2.2.2.length (gl aD a.2.2.2.2)]] [.eptr [.slice .ro 13 a.2.2.2.2.length (gl aD a.2.2.2.2)]])∧(y7.1=x25.1)∧(v13=x25.2.1)∧SlQ y7.2.2.length x25.2.2.length (gl aC y7.2.2) (gl aC x25.2.2) (I5 x25∧μ6 x25 < μ6 y7)))) False)) False))))) (∃ (I42:(Int×Int×(List (Int)))→Prop) (μ43:(Int×Int×(List (Int)))→Nat),(∃ x41:Int×Int×(List (Int)),(y7.2.2.length=x41.2.2.length)∧(y7.1=x41.1)∧(a.2.1=x41.2.1)∧SlQ y7.2.2.length x41.2.2.length (gl aC y7.2.2) (gl aC x41.2.2) (I42 x41))∧∀ y44:Int×Int×(List (Int)),I42 y44→(Let (wI (y44.1 - (1:Int))) (fun v45:Int=>Br (decide (y44.2.1 < v45)) (Let (wI (y44.2.1+(1:Int))) (fun v48:Int=>Let (wI (y44.2.1+(1:Int))) (fun v49:Int=>Br (decide ((0:Int)≤v49)&&decide (v49 < (List.length y44.2.2:Int))) ((y44.2.2.length=y44.2.2.length)∧(Br (decide ((0:Int)≤y44.2.1)&&decide (y44.2.1 < (List.length y44.2.2:Int))) ((y44.2.2.length=y44.2.2.length)∧(Br (decide ((0:Int)≤y44.2.1)&&decide (y44.2.1 < (List.length y44.2.2:Int))) ((y44.2.2.length=y44.2.2.length)∧(Br (decide ((0:Int)≤v48)&&decide (v48 < (List.length y44.2.2:Int))) ((y44.2.2.length=y44.2.2.length)∧(Let (wI (y44.2.1+(1:Int))) (fun v54:Int=>∃ x55:Int×Int×(List (Int)),(y44.2.2.length=x55.2.2.length)∧(y44.1=x55.1)∧(v54=x55.2.1)∧SlQ y44.2.2.length x55.2.2.length (gset (gset (gl aC y44.2.2) (Int.toNat y44.2.1) [.int .i64 (at_ y44.2.2 v49)]) (Int.toNat v48) [.int .i64 (at_ y44.2.2 y44.2.1)]) (gl aC x55.2.2) (I42 x55∧μ43 x55 < μ43 y44)))) False)) False)) False)) False))) (SlQ y44.2.2.length (List.length (cH a)) (gl aC y44.2.2) (gl aC (cH a)) (True))))))) (Let (wI (a.2.2.2.1 - a.2.2.1)) (fun v84:Int=>Br (v84==(1:Int)) (∃ (I88:(Int×Int×(List (Int)))→Prop) (μ89:(Int×Int×(List (Int)))→Nat),(∃ x87:Int×Int×(List (Int)),(a.1.length=x87.2.2.length)∧(a.2.2.1=a.2.2.1)∧(DEqs [.eptr [.slice .ro 13 a.2.2.2.2.length (gl aD a.2.2.2.2)]] [.eptr [.slice .ro 13 a.2.2.2.2.length (gl aD a.2.2.2.2)]])∧(a.2.1=x87.1)∧(a.2.2.1=x87.2.1)∧SlQ a.1.length x87.2.2.length (gl aC a.1) (gl aC x87.2.2) (I88 x87))∧∀ y90:Int×Int×(List (Int)),I88 y90→(Br (decide (y90.1 < y90.2.1)) (Let (wI (y90.1+y90.2.1)) (fun v93:Int=>Let (IntKind.u64.wrap v93) (fun v94:Int=>Let (Int.fdiv v94 2) (fun v95:Int=>Let (wI v95) (fun v96:Int=>Br (decide ((0:Int)≤a.2.2.1)&&decide (a.2.2.1 < (List.length y90.2.2:Int))) ((y90.2.2.length=y90.2.2.length)∧(Br (decide ((0:Int)≤v96)&&decide (v96 < (List.length y90.2.2:Int))) ((y90.2.2.length=y90.2.2.length)∧(∃ c99:Int×Int×(List (aB)),((at_ y90.2.2 a.2.2.1)=c99.1)∧((at_ y90.2.2 v96)=c99.2.1)∧(DEqs [.slice .ro 13 a.2.2.2.2.length (gl aD a.2.2.2.2)] [.slice .ro 13 c99.2.2.length (gl aD c99.2.2)])∧(eL c99)∧Br (!(decide ((jQ c99) < (0:Int)))) (Let (wI (v96+(1:Int))) (fun v102:Int=>∃ x103:Int×Int×(List (Int)),(y90.2.2.length=x103.2.2.length)∧(a.2.2.1=a.2.2.1)∧(DEqs [.eptr [.slice .ro 13 a.2.2.2.2.length (gl aD a.2.2.2.2)]] [.eptr [.slice .ro 13 a.2.2.2.2.length (gl aD a.2.2.2.2)]])∧(v102=x103.1)∧(y90.2.1=x103.2.1)∧SlQ y90.2.2.length x103.2.2.length (gl aC y90.2.2) (gl aC x103.2.2) (I88 x103∧μ89 x103 < μ89 y90))) (∃ x108:Int×Int×(List (Int)),(y90.2.2.length=x108.2.2.length)∧(a.2.2.1=a.2.2.1)∧(DEqs [.eptr [.slice .ro 13 a.2.2.2.2.length (gl aD a.2.2.2.2)]] [.eptr [.slice .ro 13 a.2.2.2.2.length (gl aD a.2.2.2.2)]])∧(y90.1=x108.1)∧(v96=x108.2.1)∧SlQ y90.2.2.length x108.2.2.length (gl aC y90.2.2) (gl aC x108.2.2) (I88 x108∧μ89 x108 < μ89 y90)))) False)) False))))) (∃ (I125:(Int×Int×(List (Int)))→Prop) (μ126:(Int×Int×(List (Int)))→Nat),(∃ x124:Int×Int×(List (Int)),(y90.2.2.length=x124.2.2.length)∧(y90.1=x124.1)∧(a.2.2.1=x124.2.1)∧SlQ y90.2.2.length x124.2.2.length (gl aC y90.2.2) (gl aC x124.2.2) (I125 x124))∧∀ y127:Int×Int×(List (Int)),I125 y127→(Br (decide (y127.1 < y127.2.1)) (Let (wI (y127.2.1 - (1:Int))) (fun v130:Int=>Let (wI (y127.2.1 - (1:Int))) (fun v131:Int=>Br (decide ((0:Int)≤v131)&&decide (v131 < (List.length y127.2.2:Int))) ((y127.2.2.length=y127.2.2.length)∧(Br (decide ((0:Int)≤y127.2.1)&&decide (y127.2.1 < (List.length y127.2.2:Int))) ((y127.2.2.length=y127.2.2.length)∧(Br (decide ((0:Int)≤y127.2.1)&&decide (y127.2.1 < (List.length y127.2.2:Int))) ((y127.2.2.length=y127.2.2.length)∧(Br (decide ((0:Int)≤v130)&&decide (v130 < (List.length y127.2.2:Int))) ((y127.2.2.length=y127.2.2.length)∧(Let (wI (y127.2.1 - (1:Int))) (fun v136:Int=>∃ x137:Int×Int×(List (Int)),(y127.2.2.length=x137.2.2.length)∧(y127.1=x137.1)∧(v136=x137.2.1)∧SlQ y127.2.2.length x137.2.2.length (gset (gset (gl aC y127.2.2) (Int.toNat y127.2.1) [.int .i64 (at_ y127.2.2 v131)]) (Int.toNat v130) [.int .i64 (at_ y127.2.2 y127.2.1)]) (gl aC x137.2.2) (I125 x137∧μ126 x137 < μ126 y127)))) False)) False)) False)) False))) (SlQ y127.2.2.length (List.length (cH a)) (gl aC y127.2.2) (gl aC (cH a)) (True)))))) (Let (wI (a.2.1+a.2.2.2.1)) (fun v163:Int=>Let (IntKind.u64.wrap v163) (fun v164:Int=>Let (Int.fdiv v164 2) (fun v165:Int=>Let (wI v165) (fun v166:Int=>Let (wI (v166+a.2.2.1)) (fun v167:Int=>∃ I168:(Int×Int×Int×Int×(List (Int)))→Prop,(Br (decide (v166 < a.2.2.1)) (Let (wI (v167 - a.2.2.2.1)) (fun v171:Int=>∃ x172:Int×Int×Int×Int×(List (Int)),(a.1.length=x172.2.2.2.2.length)∧(a.2.1=a.2.1)∧(a.2.2.1=a.2.2.1)∧(a.2.2.2.1=a.2.2.2.1)∧(DEqs [.eptr [.slice .ro 13 a.2.2.2.2.length (gl aD a.2.2.2.2)]] [.eptr [.slice .ro 13 a.2.2.2.2.length (gl aD a.2.2.2.2)]])∧(v166=x172.1)∧(v167=x172.2.1)∧(v171=x172.2.2.1)∧(v166=x172.2.2.2.1)∧SlQ a.1.length x172.2.2.2.2.length (gl aC a.1) (gl aC x172.2.2.2.2) (I168 x172))) (∃ x176:Int×Int×Int×Int×(List (Int)),(a.1.length=x176.2.2.2.2.length)∧(a.2.1=a.2.1)∧(a.2.2.1=a.2.2.1)∧(a.2.2.2.1=a.2.2.2.1)∧(DEqs [.eptr [.slice .ro 13 a.2.2.2.2.length (gl aD a.2.2.2.2)]] [.eptr [.slice .ro 13 a.2.2.2.2.length (gl aD a.2.2.2.2)]])∧(v166=x176.1)∧(v167=x176.2.1)∧(a.2.1=x176.2.2.1)∧(a.2.2.1=x176.2.2.2.1)∧SlQ a.1.length x176.2.2.2.2.length (gl aC a.1) (gl aC x176.2.2.2.2) (I168 x176)))∧∀ y179:Int×Int×Int×Int×(List (Int)),I168 y179→(Let (wI (y179.2.1 - (1:Int))) (fun v182:Int=>∃ (I184:(Int×Int×Int×Int×Int×(List (Int)))→Prop) (μ185:(Int×Int×Int×Int×Int×(List (Int)))→Nat),(∃ x183:Int×Int×Int×Int×Int×(List (Int)),(y179.2.2.2.2.length=x183.2.2.2.2.2.length)∧(a.2.1=a.2.1)∧(a.2.2.1=a.2.2.1)∧(a.2.2.2.1=a.2.2.2.1)∧(DEqs [.eptr [.slice .ro 13 a.2.2.2.2.length (gl aD a.2.2.2.2)]] [.eptr [.slice .ro 13 a.2.2.2.2.length (gl aD a.2.2.2.2)]])∧(y179.1=x183.1)∧(y179.2.1=x183.2.1)∧(y179.2.2.1=x183.2.2.1)∧(y179.2.2.2.1=x183.2.2.2.1)∧(v182=x183.2.2.2.2.1)∧SlQ y179.2.2.2.2.length x183.2.2.2.2.2.length (gl aC y179.2.2.2.2) (gl aC x183.2.2.2.2.2) (I184 x183))∧∀ y186:Int×Int×Int×Int×Int×(List (Int)),I184 y186→(Br (decide (y186.2.2.1 < y186.2.2.2.1)) (Let (wI (y186.2.2.1+y186.2.2.2.1)) (fun v189:Int=>Let (IntKind.u64.wrap v189) (fun v190:Int=>Let (Int.fdiv v190 2) (fun v191:Int=>Let (wI v191) (fun v192:Int=>Let (wI (y186.2.2.2.2.1 - v192)) (fun v193:Int=>Br (decide ((0:Int)≤v193)&&decide (v193 < (List.length y186.2.2.2.2.2:Int))) ((y186.2.2.2.2.2.length=y186.2.2.2.2.2.length)∧(Br (decide ((0:Int)≤v192)&&decide (v192 < (List.length y186.2.2.2.2.2:Int))) ((y186.2.2.2.2.2.length=y186.2.2.2.2.2.length)∧(∃ c196:Int×Int×(List (aB)),((at_ y186.2.2.2.2.2 v193)=c196.1)∧((at_ y186.2.2.2.2.2 v192)=c196.2.1)∧(DEqs [.slice .ro 13 a.2.2.2.2.length (gl aD a.2.2.2.2)] [.slice .ro 13 c196.2.2.length (gl aD c196.2.2)])∧(eL c196)∧Br (!(decide ((jQ c196) < (0:Int)))) (Let (wI (v192+(1:Int))) (fun v199:Int=>∃ x200:Int×Int×Int×Int×Int×(List (Int)),(y186.2.2.2.2.2.length=x200.2.2.2.2.2.length)∧(a.2.1=a.2.1)∧(a.2.2.1=a.2.2.1)∧(a.2.2.2.1=a.2.2.2.1)∧(DEqs [.eptr [.slice .ro 13 a.2.2.2.2.length (gl aD a.2.2.2.2)]] [.eptr [.slice .ro 13 a.2.2.2.2.length (gl aD a.2.2.2.2)]])∧(y186.1=x200.1)∧(y186.2.1=x200.2.1)∧(v199=x200.2.2.1)∧(y186.2.2.2.1=x200.2.2.2.1)∧(y186.2.2.2.2.1=x200.2.2.2.2.1)∧SlQ y186.2.2.2.2.2.length x200.2.2.2.2.2.length (gl aC y186.2.2.2.2.2) (gl aC x200.2.2.2.2.2) (I184 x200∧μ185 x200 < μ185 y186))) (∃ x205:Int×Int×Int×Int×Int×(List (Int)),(y186.2.2.2.2.2.length=x205.2.2.2.2.2.length)∧(a.2.1=a.2.1)∧(a.2.2.1=a.2.2.1)∧(a.2.2.2.1=a.2.2.2.1)∧(DEqs [.eptr [.slice .ro 13 a.2.2.2.2.length (gl aD a.2.2.2.2)]] [.eptr [.slice .ro 13 a.2.2.2.2.length (gl aD a.2.2.2.2)]])∧(y186.1=x205.1)∧(y186.2.1=x205.2.1)∧(y186.2.2.1=x205.2.2.1)∧(v192=x205.2.2.2.1)∧(y186.2.2.2.2.1=x205.2.2.2.2.1)∧SlQ y186.2.2.2.2.2.length x205.2.2.2.2.2.length (gl aC y186.2.2.2.2.2) (gl aC x205.2.2.2.2.2) (I184 x205∧μ185 x205 < μ185 y186)))) False)) False)))))) (Let (wI (y186.2.1 - y186.2.2.1)) (fun v224:Int=>∃ I225:(Int×Int×Int×(List (Int)))→Prop,(Br (decide (y186.2.2.1 < a.2.2.1)) (Br (decide (a.2.2.1 < v224)) ((y186.2.2.2.2.2.length=y186.2.2.2.2.2.length)∧∃ c230:(List (Int))×Int×Int×Int×(List (aB)),(y186.2.2.2.2.2.length=List.length c230.1)∧(y186.2.2.1=c230.2.1)∧(a.2.2.1=c230.2.2.1)∧(v224=c230.2.2.2.1)∧(DEqs [.eptr [.slice .ro 13 a.2.2.2.2.length (gl aD a.2.2.2.2)]] [.eptr [.slice .ro 13 c230.2.2.2.2.length (gl aD c230.2.2.2.2)]])∧SlQ y186.2.2.2.2.2.length c230.1.length (gl aC y186.2.2.2.2.2) (gl aC c230.1) ((lR c230)∧∃ x232:Int×Int×Int×(List (Int)),(y186.2.2.2.2.2.length=x232.2.2.2.length)∧(a.2.1=a.2.1)∧(a.2.2.2.1=a.2.2.2.1)∧(DEqs [.eptr [.slice .ro 13 a.2.2.2.2.length (gl aD a.2.2.2.2)]] [.eptr [.slice .ro 13 a.2.2.2.2.length (gl aD a.2.2.2.2)]])∧(y186.1=x232.1)∧(y186.2.2.1=x232.2.1)∧(v224=x232.2.2.1)∧SlQ (List.length (nR c230)) x232.2.2.2.length (gl aC (nR c230)) (gl aC x232.2.2.2) (I225 x232))) (∃ x234:Int×Int×Int×(List (Int)),(y186.2.2.2.2.2.length=x234.2.2.2.length)∧(a.2.1=a.2.1)∧(a.2.2.2.1=a.2.2.2.1)∧(DEqs [.eptr [.slice .ro 13 a.2.2.2.2.length (gl aD a.2.2.2.2)]] [.eptr [.slice .ro 13 a.2.2.2.2.length (gl aD a.2.2.2.2)]])∧(y186.1=x234.1)∧(y186.2.2.1=x234.2.1)∧(v224=x234.2.2.1)∧SlQ y186.2.2.2.2.2.length x234.2.2.2.length (gl aC y186.2.2.2.2.2) (gl aC x234.2.2.2) (I225 x234))) (∃ x237:Int×Int×Int×(List (Int)),(y186.2.2.2.2.2.length=x237.2.2.2.length)∧(a.2.1=a.2.1)∧(a.2.2.2.1=a.2.2.2.1)∧(DEqs [.eptr [.slice .ro 13 a.2.2.2.2.length (gl aD a.2.2.2.2)]] [.eptr [.slice .ro 13 a.2.2.2.2.length (gl aD a.2.2.2.2)]])∧(y186.1=x237.1)∧(y186.2.2.1=x237.2.1)∧(v224=x237.2.2.1)∧SlQ y186.2.2.2.2.2.length x237.2.2.2.length (gl aC y186.2.2.2.2.2) (gl aC x237.2.2.2) (I225 x237)))∧∀ y240:Int×Int×Int×(List (Int)),I225 y240→(∃ I243:(Int×Int×(List (Int)))→Prop,(Br (decide (a.2.1 < y240.2.1)) (Br (decide (y240.2.1 < y240.1)) ((y240.2.2.2.length=y240.2.2.2.length)∧∃ c248:(List (Int))×Int×Int×Int×(List (aB)),(y240.2.2.2.length=List.length c248.1)∧(a.2.1=c248.2.1)∧(y240.2.1=c248.2.2.1)∧(y240.1=c248.2.2.2.1)∧(DEqs [.eptr [.slice .ro 13 a.2.2.2.2.length (gl aD a.2.2.2.2)]] [.eptr [.slice .ro 13 c248.2.2.2.2.length (gl aD c248.2.2.2.2)]])∧SlQ y240.2.2.2.length c248.1.length (gl aC y240.2.2.2) (gl aC c248.1) ((f134.rpre n c248)∧∃ x250:Int×Int×(List (Int)),(y240.2.2.2.length=x250.2.2.length)∧(a.2.2.2.1=a.2.2.2.1)∧(DEqs [.eptr [.slice .ro 13 a.2.2.2.2.length (gl aD a.2.2.2.2)]] [.eptr [.slice .ro 13 a.2.2.2.2.length (gl aD a.2.2.2.2)]])∧(y240.1=x250.1)∧(y240.2.2.1=x250.2.1)∧SlQ (List.length (cH c248)) x250.2.2.length (gl aC (cH c248)) (gl aC x250.2.2) (I243 x250))) (∃ x252:Int×Int×(List (Int)),(y240.2.2.2.length=x252.2.2.length)∧(a.2.2.2.1=a.2.2.2.1)∧(DEqs [.eptr [.slice .ro 13 a.2.2.2.2.length (gl aD a.2.2.2.2)]] [.eptr [.slice .ro 13 a.2.2.2.2.length (gl aD a.2.2.2.2)]])∧(y240.1=x252.1)∧(y240.2.2.1=x252.2.1)∧SlQ y240.2.2.2.length x252.2.2.length (gl aC y240.2.2.2) (gl aC x252.2.2) (I243 x252))) (∃ x255:Int×Int×(List (Int)),(y240.2.2.2.length=x255.2.2.length)∧(a.2.2.2.1=a.2.2.2.1)∧(DEqs [.eptr [.slice .ro 13 a.2.2.2.2.length (gl aD a.2.2.2.2)]] [.eptr [.slice .ro 13 a.2.2.2.2.length (gl aD a.2.2.2.2)]])∧(y240.1=x255.1)∧(y240.2.2.1=x255.2.1)∧SlQ y240.2.2.2.length x255.2.2.length (gl aC y240.2.2.2) (gl aC x255.2.2) (I243 x255)))∧∀ y258:Int×Int×(List (Int)),I243 y258→(Br (decide (y258.1 < y258.2.1)) (Br (decide (y258.2.1 < a.2.2.2.1)) ((y258.2.2.length=y258.2.2.length)∧∃ c265:(List (Int))×Int×Int×Int×(List (aB)),(y258.2.2.length=List.length c265.1)∧(y258.1=c265.2.1)∧(y258.2.1=c265.2.2.1)∧(a.2.2.2.1=c265.2.2.2.1)∧(DEqs [.eptr [.slice .ro 13 a.2.2.2.2.length (gl aD a.2.2.2.2)]] [.eptr [.slice .ro 13 c265.2.2.2.2.length (gl aD c265.2.2.2.2)]])∧SlQ y258.2.2.length c265.1.length (gl aC y258.2.2) (gl aC c265.1) ((f134.rpre n c265)∧SlQ (List.length (cH c265)) (List.length (cH a)) (gl aC (cH c265)) (gl aC (cH a)) (True))) (SlQ y258.2.2.length (List.length (cH a)) (gl aC y258.2.2) (gl aC (cH a)) (True))) (SlQ y258.2.2.length (List.length (cH a)) (gl aC y258.2.2) (gl aC (cH a)) (True))))))))))))))))))
def f134.vc (a:(List (Int))×Int×Int×Int×(List (aB))) (n:Nat):Prop:=(-9223372036854775808≤(a.2.2.1 - a.2.1)∧(a.2.2.1 - a.2.1)≤9223372036854775807∧(((a.2.2.1 - a.2.1)=(1:Int)→(∃ (I5:(Int×Int×(List (Int)))→Prop) (μ6:(Int×Int×(List (Int)))→Nat),I5 (a.2.2.1,a.2.2.2.1,a.1)∧∀ y7:Int×Int×(List (Int)),I5 y7→((y7.1 < y7.2.1→(-9223372036854775808≤(y7.1+y7.2.1)∧(y7.1+y7.2.1)≤9223372036854775807∧(0≤(y7.1+y7.2.1)∧(y7.1+y7.2.1)≤18446744073709551615∧(-9223372036854775808≤((y7.1+y7.2.1) / 2)∧((y7.1+y7.2.1) / 2)≤9223372036854775807∧((0:Int)≤((y7.1+y7.2.1) / 2)∧((y7.1+y7.2.1) / 2) < (List.length y7.2.2:Int)∧((0:Int)≤a.2.1∧a.2.1 < (List.length y7.2.2:Int)∧(eL (at_ y7.2.2 ((y7.1+y7.2.1) / 2),at_ y7.2.2 a.2.1,a.2.2.2.2)∧(((jQ (at_ y7.2.2 ((y7.1+y7.2.1) / 2),at_ y7.2.2 a.2.1,a.2.2.2.2)) < (0:Int)→(-9223372036854775808≤(((y7.1+y7.2.1) / 2)+(1:Int))∧(((y7.1+y7.2.1) / 2)+(1:Int))≤9223372036854775807∧(I5 ((((y7.1+y7.2.1) / 2)+(1:Int)),y7.2.1,y7.2.2)∧μ6 ((((y7.1+y7.2.1) / 2)+(1:Int)),y7.2.1,y7.2.2) < μ6 y7)))∧(¬((jQ (at_ y7.2.2 ((y7.1+y7.2.1) / 2),at_ y7.2.2 a.2.1,a.2.2.2.2)) < (0:Int))→(I5 (y7.1,((y7.1+y7.2.1) / 2),y7.2.2)∧μ6 (y7.1,((y7.1+y7.2.1) / 2),y7.2.2) < μ6 y7))))))))))∧(¬(y7.1 < y7.2.1)→(∃ (I42:(Int×Int×(List (Int)))→Prop) (μ43:(Int×Int×(List (Int)))→Nat),I42 (y7.1,a.2.1,y7.2.2)∧∀ y44:Int×Int×(List (Int)),I42 y44→(-9223372036854775808≤(y44.1 - (1:Int))∧(y44.1 - (1:Int))≤9223372036854775807∧((y44.2.1 < (y44.1 - (1:Int))→(-9223372036854775808≤(y44.2.1+(1:Int))∧(y44.2.1+(1:Int))≤9223372036854775807∧(-9223372036854775808≤(y44.2.1+(1:Int))∧(y44.2.1+(1:Int))≤9223372036854775807∧((0:Int)≤(y44.2.1+(1:Int))∧(y44.2.1+(1:Int)) < (List.length y44.2.2:Int)∧((0:Int)≤y44.2.1∧y44.2.1 < (List.length y44.2.2:Int)∧((0:Int)≤y44.2.1∧y44.2.1 < (List.length y44.2.2:Int)∧((0:Int)≤(y44.2.1+(1:Int))∧(y44.2.1+(1:Int)) < (List.length y44.2.2:Int)∧(-9223372036854775808≤(y44.2.1+(1:Int))∧(y44.2.1+(1:Int))≤9223372036854775807∧(I42 (y44.1,(y44.2.1+(1:Int)),List.set (List.set y44.2.2 (Int.toNat y44.2.1) (at_ y44.2.2 (y44.2.1+(1:Int)))) (Int.toNat (y44.2.1+(1:Int))) (at_ y44.2.2 y44.2.1))∧μ43 (y44.1,(y44.2.1+(1:Int)),List.set (List.set y44.2.2 (Int.toNat y44.2.1) (at_ y44.2.2 (y44.2.1+(1:Int)))) (Int.toNat (y44.2.1+(1:Int))) (at_ y44.2.2 y44.2.1)) < μ43 y44)))))))))∧(¬(y44.2.1 < (y44.1 - (1:Int)))→(y44.2.2=cH a)))))))))∧(¬((a.2.2.1 - a.2.1)=(1:Int))→(-9223372036854775808≤(a.2.2.2.1 - a.2.2.1)∧(a.2.2.2.1 - a.2.2.1)≤9223372036854775807∧(((a.2.2.2.1 - a.2.2.1)=(1:Int)→(∃ (I88:(Int×Int×(List (Int)))→Prop) (μ89:(Int×Int×(List (Int)))→Nat),I88 (a.2.1,a.2.2.1,a.1)∧∀ y90:Int×Int×(List (Int)),I88 y90→((y90.1 < y90.2.1→(-9223372036854775808≤(y90.1+y90.2.1)∧(y90.1+y90.2.1)≤9223372036854775807∧(0≤(y90.1+y90.2.1)∧(y90.1+y90.2.1)≤18446744073709551615∧(-9223372036854775808≤((y90.1+y90.2.1) / 2)∧((y90.1+y90.2.1) / 2)≤9223372036854775807∧((0:Int)≤a.2.2.1∧a.2.2.1 < (List.length y90.2.2:Int)∧((0:Int)≤((y90.1+y90.2.1) / 2)∧((y90.1+y90.2.1) / 2) < (List.length y90.2.2:Int)∧(eL (at_ y90.2.2 a.2.2.1,at_ y90.2.2 ((y90.1+y90.2.1) / 2),a.2.2.2.2)∧((¬((jQ (at_ y90.2.2 a.2.2.1,at_ y90.2.2 ((y90.1+y90.2.1) / 2),a.2.2.2.2)) < (0:Int))→(-9223372036854775808≤(((y90.1+y90.2.1) / 2)+(1:Int))∧(((y90.1+y90.2.1) / 2)+(1:Int))≤9223372036854775807∧(I88 ((((y90.1+y90.2.1) / 2)+(1:Int)),y90.2.1,y90.2.2)∧μ89 ((((y90.1+y90.2.1) / 2)+(1:Int)),y90.2.1,y90.2.2) < μ89 y90)))∧(¬(¬((jQ (at_ y90.2.2 a.2.2.1,at_ y90.2.2 ((y90.1+y90.2.1) / 2),a.2.2.2.2)) < (0:Int)))→(I88 (y90.1,((y90.1+y90.2.1) / 2),y90.2.2)∧μ89 (y90.1,((y90.1+y90.2.1) / 2),y90.2.2) < μ89 y90))))))))))∧(¬(y90.1 < y90.2.1)→(∃ (I125:(Int×Int×(List (Int)))→Prop) (μ126:(Int×Int×(List (Int)))→Nat),I125 (y90.1,a.2.2.1,y90.2.2)∧∀ y127:Int×Int×(List (Int)),I125 y127→((y127.1 < y127.2.1→(-9223372036854775808≤(y127.2.1 - (1:Int))∧(y127.2.1 - (1:Int))≤9223372036854775807∧(-9223372036854775808≤(y127.2.1 - (1:Int))∧(y127.2.1 - (1:Int))≤9223372036854775807∧((0:Int)≤(y127.2.1 - (1:Int))∧(y127.2.1 - (1:Int)) < (List.length y127.2.2:Int)∧((0:Int)≤y127.2.1∧y127.2.1 < (List.length y127.2.2:Int)∧((0:Int)≤y127.2.1∧y127.2.1 < (List.length y127.2.2:Int)∧((0:Int)≤(y127.2.1 - (1:Int))∧(y127.2.1 - (1:Int)) < (List.length y127.2.2:Int)∧(-9223372036854775808≤(y127.2.1 - (1:Int))∧(y127.2.1 - (1:Int))≤9223372036854775807∧(I125 (y127.1,(y127.2.1 - (1:Int)),List.set (List.set y127.2.2 (Int.toNat y127.2.1) (at_ y127.2.2 (y127.2.1 - (1:Int)))) (Int.toNat (y127.2.1 - (1:Int))) (at_ y127.2.2 y127.2.1))∧μ126 (y127.1,(y127.2.1 - (1:Int)),List.set (List.set y127.2.2 (Int.toNat y127.2.1) (at_ y127.2.2 (y127.2.1 - (1:Int)))) (Int.toNat (y127.2.1 - (1:Int))) (at_ y127.2.2 y127.2.1)) < μ126 y127)))))))))∧(¬(y127.1 < y127.2.1)→(y127.2.2=cH a))))))))∧(¬((a.2.2.2.1 - a.2.2.1)=(1:Int))→(-9223372036854775808≤(a.2.1+a.2.2.2.1)∧(a.2.1+a.2.2.2.1)≤9223372036854775807∧(0≤(a.2.1+a.2.2.2.1)∧(a.2.1+a.2.2.2.1)≤18446744073709551615∧(-9223372036854775808≤((a.2.1+a.2.2.2.1) / 2)∧((a.2.1+a.2.2.2.1) / 2)≤9223372036854775807∧(-9223372036854775808≤(((a.2.1+a.2.2.2.1) / 2)+a.2.2.1)∧(((a.2.1+a.2.2.2.1) / 2)+a.2.2.1)≤9223372036854775807∧(∃ I168:(Int×Int×Int×Int×(List (Int)))→Prop,(((((a.2.1+a.2.2.2.1) / 2) < a.2.2.1→(-9223372036854775808≤((((a.2.1+a.2.2.2.1) / 2)+a.2.2.1) - a.2.2.2.1)∧((((a.2.1+a.2.2.2.1) / 2)+a.2.2.1) - a.2.2.2.1)≤9223372036854775807∧(I168 (((a.2.1+a.2.2.2.1) / 2),(((a.2.1+a.2.2.2.1) / 2)+a.2.2.1),((((a.2.1+a.2.2.2.1) / 2)+a.2.2.1) - a.2.2.2.1),((a.2.1+a.2.2.2.1) / 2),a.1))))∧(¬(((a.2.1+a.2.2.2.1) / 2) < a.2.2.1)→(I168 (((a.2.1+a.2.2.2.1) / 2),(((a.2.1+a.2.2.2.1) / 2)+a.2.2.1),a.2.1,a.2.2.1,a.1)))))∧∀ y179:Int×Int×Int×Int×(List (Int)),I168 y179→(-9223372036854775808≤(y179.2.1 - (1:Int))∧(y179.2.1 - (1:Int))≤9223372036854775807∧(∃ (I184:(Int×Int×Int×Int×Int×(List (Int)))→Prop) (μ185:(Int×Int×Int×Int×Int×(List (Int)))→Nat),I184 (y179.1,y179.2.1,y179.2.2.1,y179.2.2.2.1,(y179.2.1 - (1:Int)),y179.2.2.2.2)∧∀ y186:Int×Int×Int×Int×Int×(List (Int)),I184 y186→((y186.2.2.1 < y186.2.2.2.1→(-9223372036854775808≤(y186.2.2.1+y186.2.2.2.1)∧(y186.2.2.1+y186.2.2.2.1)≤9223372036854775807∧(0≤(y186.2.2.1+y186.2.2.2.1)∧(y186.2.2.1+y186.2.2.2.1)≤18446744073709551615∧(-9223372036854775808≤((y186.2.2.1+y186.2.2.2.1) / 2)∧((y186.2.2.1+y186.2.2.2.1) / 2)≤9223372036854775807∧(-9223372036854775808≤(y186.2.2.2.2.1 - ((y186.2.2.1+y186.2.2.2.1) / 2))∧(y186.2.2.2.2.1 - ((y186.2.2.1+y186.2.2.2.1) / 2))≤9223372036854775807∧((0:Int)≤(y186.2.2.2.2.1 - ((y186.2.2.1+y186.2.2.2.1) / 2))∧(y186.2.2.2.2.1 - ((y186.2.2.1+y186.2.2.2.1) / 2)) < (List.length y186.2.2.2.2.2:Int)∧((0:Int)≤((y186.2.2.1+y186.2.2.2.1) / 2)∧((y186.2.2.1+y186.2.2.2.1) / 2) < (List.length y186.2.2.2.2.2:Int)∧(eL (at_ y186.2.2.2.2.2 (y186.2.2.2.2.1 - ((y186.2.2.1+y186.2.2.2.1) / 2)),at_ y186.2.2.2.2.2 ((y186.2.2.1+y186.2.2.2.1) / 2),a.2.2.2.2)∧((¬((jQ (at_ y186.2.2.2.2.2 (y186.2.2.2.2.1 - ((y186.2.2.1+y186.2.2.2.1) / 2)),at_ y186.2.2.2.2.2 ((y186.2.2.1+y186.2.2.2.1) / 2),a.2.2.2.2)) < (0:Int))→(-9223372036854775808≤(((y186.2.2.1+y186.2.2.2.1) / 2)+(1:Int))∧(((y186.2.2.1+y186.2.2.2.1) / 2)+(1:Int))≤9223372036854775807∧(I184 (y186.1,y186.2.1,(((y186.2.2.1+y186.2.2.2.1) / 2)+(1:Int)),y186.2.2.2.1,y186.2.2.2.2.1,y186.2.2.2.2.2)∧μ185 (y186.1,y186.2.1,(((y186.2.2.1+y186.2.2.2.1) / 2)+(1:Int)),y186.2.2.2.1,y186.2.2.2.2.1,y186.2.2.2.2.2) < μ185 y186)))∧(¬(¬((jQ (at_ y186.2.2.2.2.2 (y186.2.2.2.2.1 - ((y186.2.2.1+y186.2.2.2.1) / 2)),at_ y186.2.2.2.2.2 ((y186.2.2.1+y186.2.2.2.1) / 2),a.2.2.2.2)) < (0:Int)))→(I184 (y186.1,y186.2.1,y186.2.2.1,((y186.2.2.1+y186.2.2.2.1) / 2),y186.2.2.2.2.1,y186.2.2.2.2.2)∧μ185 (y186.1,y186.2.1,y186.2.2.1,((y186.2.2.1+y186.2.2.2.1) / 2),y186.2.2.2.2.1,y186.2.2.2.2.2) < μ185 y186)))))))))))∧(¬(y186.2.2.1 < y186.2.2.2.1)→(-9223372036854775808≤(y186.2.1 - y186.2.2.1)∧(y186.2.1 - y186.2.2.1)≤9223372036854775807∧(∃ I225:(Int×Int×Int×(List (Int)))→Prop,(((y186.2.2.1 < a.2.2.1→((a.2.2.1 < (y186.2.1 - y186.2.2.1)→(lR (y186.2.2.2.2.2,y186.2.2.1,a.2.2.1,(y186.2.1 - y186.2.2.1),a.2.2.2.2)∧((List.length (nR (y186.2.2.2.2.2,y186.2.2.1,a.2.2.1,(y186.2.1 - y186.2.2.1),a.2.2.2.2)))=y186.2.2.2.2.2.length∧(I225 (y186.1,y186.2.2.1,(y186.2.1 - y186.2.2.1),(nR (y186.2.2.2.2.2,y186.2.2.1,a.2.2.1,(y186.2.1 - y186.2.2.1),a.2.2.2.2)))))))∧(¬(a.2.2.1 < (y186.2.1 - y186.2.2.1))→(I225 (y186.1,y186.2.2.1,(y186.2.1 - y186.2.2.1),y186.2.2.2.2.2)))))∧(¬(y186.2.2.1 < a.2.2.1)→(I225 (y186.1,y186.2.2.1,(y186.2.1 - y186.2.2.1),y186.2.2.2.2.2)))))∧∀ y240:Int×Int×Int×(List (Int)),I225 y240→(∃ I243:(Int×Int×(List (Int)))→Prop,(((a.2.1 < y240.2.1→((y240.2.1 < y240.1→(f134.rpre n (y240.2.2.2,a.2.1,y240.2.1,y240.1,a.2.2.2.2)∧((List.length (cH (y240.2.2.2,a.2.1,y240.2.1,y240.1,a.2.2.2.2)))=y240.2.2.2.length∧(I243 (y240.1,y240.2.2.1,(cH (y240.2.2.2,a.2.1,y240.2.1,y240.1,a.2.2.2.2)))))))∧(¬(y240.2.1 < y240.1)→(I243 (y240.1,y240.2.2.1,y240.2.2.2)))))∧(¬(a.2.1 < y240.2.1)→(I243 (y240.1,y240.2.2.1,y240.2.2.2)))))∧∀ y258:Int×Int×(List (Int)),I243 y258→((y258.1 < y258.2.1→((y258.2.1 < a.2.2.2.1→(f134.rpre n (y258.2.2,y258.1,y258.2.1,a.2.2.2.1,a.2.2.2.2)∧((List.length (cH (y258.2.2,y258.1,y258.2.1,a.2.2.2.1,a.2.2.2.2)))=y258.2.2.length∧((cH (y258.2.2,y258.1,y258.2.1,a.2.2.2.1,a.2.2.2.2))=cH a))))∧(¬(y258.2.1 < a.2.2.2.1)→(y258.2.2=cH a))))∧(¬(y258.1 < y258.2.1)→(y258.2.2=cH a)))))))))))))))))))))
theorem f134.of (a:(List (Int))×Int×Int×Int×(List (aB))) (n:Nat) (h:f134.vc a n):f134.tree a n:=wrapK.i64 h (fun h305 h306 k307=>br k307 Cnd.eq (fun h2 k303=>Exists.elim k303 (fun I5 h81_=>Exists.elim h81_ (fun μ6 h81=>⟨I5,μ6,⟨(a.2.2.1,a.2.2.2.1,a.1),⟨(bP (gl aC a.1) (rS aC)),⟨rfl,⟨(DEqs.refl _),⟨rfl,⟨rfl,slQ (rS aC) (h81.1)⟩⟩⟩⟩⟩⟩,fun y7 h83=>br (h81.2 y7 h83) Cnd.dec (fun h8 k79=>wrapK.i64 k79 (fun h38 h39 k40=>wrapK.u64 k40 (fun h35 h36 k37=>aBJ (by decide) (wrapK.i64 k37 (fun h32 h33 k34=>chk k34.2.2 Cnd.ix ⟨k34.1,k34.2.1⟩ (fun h14 k31=>⟨rfl,chk k31.2.2 Cnd.ix ⟨k31.1,k31.2.1⟩ (fun h15 k30=>⟨rfl,⟨(at_ y7.2.2 ((y7.1+y7.2.1) / 2),at_ y7.2.2 a.2.1,a.2.2.2.2),⟨rfl,⟨rfl,⟨(DEqs.refl _),⟨k30.1,br k30.2 Cnd.dec (fun h17 k27=>wrapK.i64 k27 (fun h22 h23 k24=>⟨((((y7.1+y7.2.1) / 2)+(1:Int)),y7.2.1,y7.2.2),⟨(bP (gl aC y7.2.2) (rS aC)),⟨rfl,⟨(DEqs.refl _),⟨rfl,⟨rfl,slQ (rS aC) (k24)⟩⟩⟩⟩⟩⟩)) (fun h18 k28=>⟨(y7.1,((y7.1+y7.2.1) / 2),y7.2.2),⟨(bP (gl aC y7.2.2) (rS aC)),⟨rfl,⟨(DEqs.refl _),⟨rfl,⟨rfl,slQ (rS aC) (k28)⟩⟩⟩⟩⟩⟩)⟩⟩⟩⟩⟩⟩)⟩)))))) (fun h9 k80=>Exists.elim k80 (fun I42 h76_=>Exists.elim h76_ (fun μ43 h76=>⟨I42,μ43,⟨(y7.1,a.2.1,y7.2.2),⟨(bP (gl aC y7.2.2) (rS aC)),⟨rfl,⟨rfl,slQ (rS aC) (h76.1)⟩⟩⟩⟩,fun y44 h78=>wrapK.i64 (h76.2 y44 h78) (fun h73 h74 k75=>br k75 Cnd.dec (fun h46 k71=>wrapK.i64 k71 (fun h67 h68 k69=>wrapK.i64 k69 (fun h64 h65 k66=>chk k66.2.2 Cnd.ix ⟨k66.1,k66.2.1⟩ (fun h50 k63=>⟨rfl,chk k63.2.2 Cnd.ix ⟨k63.1,k63.2.1⟩ (fun h51 k62=>⟨rfl,chk k62.2.2 Cnd.ix ⟨k62.1,k62.2.1⟩ (fun h52 k61=>⟨rfl,chk k61.2.2 Cnd.ix ⟨k61.1,k61.2.1⟩ (fun h53 k60=>⟨rfl,wrapK.i64 k60 (fun h57 h58 k59=>⟨(y44.1,(y44.2.1+(1:Int)),List.set (List.set y44.2.2 (Int.toNat y44.2.1) (at_ y44.2.2 (y44.2.1+(1:Int)))) (Int.toNat (y44.2.1+(1:Int))) (at_ y44.2.2 y44.2.1)),⟨(bP (gset (gset (gl aC y44.2.2) (Int.toNat y44.2.1) [.int .i64 (at_ y44.2.2 (y44.2.1+(1:Int)))]) (Int.toNat (y44.2.1+(1:Int))) [.int .i64 (at_ y44.2.2 y44.2.1)]) (Rds.gset (enc:=aC) (Rds.gset (enc:=aC) (rS aC) (DEqs.refl _)) (DEqs.refl _))),⟨rfl,⟨rfl,slQ (Rds.gset (enc:=aC) (Rds.gset (enc:=aC) (rS aC) (DEqs.refl _)) (DEqs.refl _)) (k59)⟩⟩⟩⟩)⟩)⟩)⟩)⟩)))) (fun h47 k72=>slQ (Rds.to (rS aC) k72) (trivial)))⟩)))⟩))) (fun h3 k304=>wrapK.i64 k304 (fun h300 h301 k302=>br k302 Cnd.eq (fun h85 k298=>Exists.elim k298 (fun I88 h160_=>Exists.elim h160_ (fun μ89 h160=>⟨I88,μ89,⟨(a.2.1,a.2.2.1,a.1),⟨(bP (gl aC a.1) (rS aC)),⟨rfl,⟨(DEqs.refl _),⟨rfl,⟨rfl,slQ (rS aC) (h160.1)⟩⟩⟩⟩⟩⟩,fun y90 h162=>br (h160.2 y90 h162) Cnd.dec (fun h91 k158=>wrapK.i64 k158 (fun h121 h122 k123=>wrapK.u64 k123 (fun h118 h119 k120=>aBJ (by decide) (wrapK.i64 k120 (fun h115 h116 k117=>chk k117.2.2 Cnd.ix ⟨k117.1,k117.2.1⟩ (fun h97 k114=>⟨rfl,chk k114.2.2 Cnd.ix ⟨k114.1,k114.2.1⟩ (fun h98 k113=>⟨rfl,⟨(at_ y90.2.2 a.2.2.1,at_ y90.2.2 ((y90.1+y90.2.1) / 2),a.2.2.2.2),⟨rfl,⟨rfl,⟨(DEqs.refl _),⟨k113.1,br k113.2 (Cnd.not Cnd.dec) (fun h100 k110=>wrapK.i64 k110 (fun h105 h106 k107=>⟨((((y90.1+y90.2.1) / 2)+(1:Int)),y90.2.1,y90.2.2),⟨(bP (gl aC y90.2.2) (rS aC)),⟨rfl,⟨(DEqs.refl _),⟨rfl,⟨rfl,slQ (rS aC) (k107)⟩⟩⟩⟩⟩⟩)) (fun h101 k111=>⟨(y90.1,((y90.1+y90.2.1) / 2),y90.2.2),⟨(bP (gl aC y90.2.2) (rS aC)),⟨rfl,⟨(DEqs.refl _),⟨rfl,⟨rfl,slQ (rS aC) (k111)⟩⟩⟩⟩⟩⟩)⟩⟩⟩⟩⟩⟩)⟩)))))) (fun h92 k159=>Exists.elim k159 (fun I125 h155_=>Exists.elim h155_ (fun μ126 h155=>⟨I125,μ126,⟨(y90.1,a.2.2.1,y90.2.2),⟨(bP (gl aC y90.2.2) (rS aC)),⟨rfl,⟨rfl,slQ (rS aC) (h155.1)⟩⟩⟩⟩,fun y127 h157=>br (h155.2 y127 h157) Cnd.dec (fun h128 k153=>wrapK.i64 k153 (fun h149 h150 k151=>wrapK.i64 k151 (fun h146 h147 k148=>chk k148.2.2 Cnd.ix ⟨k148.1,k148.2.1⟩ (fun h132 k145=>⟨rfl,chk k145.2.2 Cnd.ix ⟨k145.1,k145.2.1⟩ (fun h133 k144=>⟨rfl,chk k144.2.2 Cnd.ix ⟨k144.1,k144.2.1⟩ (fun h134 k143=>⟨rfl,chk k143.2.2 Cnd.ix ⟨k143.1,k143.2.1⟩ (fun h135 k142=>⟨rfl,wrapK.i64 k142 (fun h139 h140 k141=>⟨(y127.1,(y127.2.1 - (1:Int)),List.set (List.set y127.2.2 (Int.toNat y127.2.1) (at_ y127.2.2 (y127.2.1 - (1:Int)))) (Int.toNat (y127.2.1 - (1:Int))) (at_ y127.2.2 y127.2.1)),⟨(bP (gset (gset (gl aC y127.2.2) (Int.toNat y127.2.1) [.int .i64 (at_ y127.2.2 (y127.2.1 - (1:Int)))]) (Int.toNat (y127.2.1 - (1:Int))) [.int .i64 (at_ y127.2.2 y127.2.1)]) (Rds.gset (enc:=aC) (Rds.gset (enc:=aC) (rS aC) (DEqs.refl _)) (DEqs.refl _))),⟨rfl,⟨rfl,slQ (Rds.gset (enc:=aC) (Rds.gset (enc:=aC) (rS aC) (DEqs.refl _)) (DEqs.refl _)) (k141)⟩⟩⟩⟩)⟩)⟩)⟩)⟩)))) (fun h129 k154=>slQ (Rds.to (rS aC) k154) (trivial))⟩)))⟩))) (fun h86 k299=>wrapK.i64 k299 (fun h295 h296 k297=>wrapK.u64 k297 (fun h292 h293 k294=>aBJ (by decide) (wrapK.i64 k294 (fun h289 h290 k291=>wrapK.i64 k291 (fun h286 h287 k288=>Exists.elim k288 (fun I168 h181=>⟨I168,br h181.1 Cnd.dec (fun h169 k177=>wrapK.i64 k177 (fun h173 h174 k175=>⟨(((a.2.1+a.2.2.2.1) / 2),(((a.2.1+a.2.2.2.1) / 2)+a.2.2.1),((((a.2.1+a.2.2.2.1) / 2)+a.2.2.1) - a.2.2.2.1),((a.2.1+a.2.2.2.1) / 2),a.1),⟨(bP (gl aC a.1) (rS aC)),⟨rfl,⟨rfl,⟨rfl,⟨(DEqs.refl _),⟨rfl,⟨rfl,⟨rfl,⟨rfl,slQ (rS aC) (k175)⟩⟩⟩⟩⟩⟩⟩⟩⟩⟩)) (fun h170 k178=>⟨(((a.2.1+a.2.2.2.1) / 2),(((a.2.1+a.2.2.2.1) / 2)+a.2.2.1),a.2.1,a.2.2.1,a.1),⟨(bP (gl aC a.1) (rS aC)),⟨rfl,⟨rfl,⟨rfl,⟨(DEqs.refl _),⟨rfl,⟨rfl,⟨rfl,⟨rfl,slQ (rS aC) (k178)⟩⟩⟩⟩⟩⟩⟩⟩⟩⟩),fun y179 h180=>wrapK.i64 (h181.2 y179 h180) (fun h283 h284 k285=>Exists.elim k285 (fun I184 h280_=>Exists.elim h280_ (fun μ185 h280=>⟨I184,μ185,⟨(y179.1,y179.2.1,y179.2.2.1,y179.2.2.2.1,(y179.2.1 - (1:Int)),y179.2.2.2.2),⟨(bP (gl aC y179.2.2.2.2) (rS aC)),⟨rfl,⟨rfl,⟨rfl,⟨(DEqs.refl _),⟨rfl,⟨rfl,⟨rfl,⟨rfl,⟨rfl,slQ (rS aC) (h280.1)⟩⟩⟩⟩⟩⟩⟩⟩⟩⟩⟩,fun y186 h282=>br (h280.2 y186 h282) Cnd.dec (fun h187 k278=>wrapK.i64 k278 (fun h221 h222 k223=>wrapK.u64 k223 (fun h218 h219 k220=>aBJ (by decide) (wrapK.i64 k220 (fun h215 h216 k217=>wrapK.i64 k217 (fun h212 h213 k214=>chk k214.2.2 Cnd.ix ⟨k214.1,k214.2.1⟩ (fun h194 k211=>⟨rfl,chk k211.2.2 Cnd.ix ⟨k211.1,k211.2.1⟩ (fun h195 k210=>⟨rfl,⟨(at_ y186.2.2.2.2.2 (y186.2.2.2.2.1 - ((y186.2.2.1+y186.2.2.2.1) / 2)),at_ y186.2.2.2.2.2 ((y186.2.2.1+y186.2.2.2.1) / 2),a.2.2.2.2),⟨rfl,⟨rfl,⟨(DEqs.refl _),⟨k210.1,br k210.2 (Cnd.not Cnd.dec) (fun h197 k207=>wrapK.i64 k207 (fun h202 h203 k204=>⟨(y186.1,y186.2.1,(((y186.2.2.1+y186.2.2.2.1) / 2)+(1:Int)),y186.2.2.2.1,y186.2.2.2.2.1,y186.2.2.2.2.2),⟨(bP (gl aC y186.2.2.2.2.2) (rS aC)),⟨rfl,⟨rfl,⟨rfl,⟨(DEqs.refl _),⟨rfl,⟨rfl,⟨rfl,⟨rfl,⟨rfl,slQ (rS aC) (k204)⟩⟩⟩⟩⟩⟩⟩⟩⟩⟩⟩)) (fun h198 k208=>⟨(y186.1,y186.2.1,y186.2.2.1,((y186.2.2.1+y186.2.2.2.1) / 2),y186.2.2.2.2.1,y186.2.2.2.2.2),⟨(bP (gl aC y186.2.2.2.2.2) (rS aC)),⟨rfl,⟨rfl,⟨rfl,⟨(DEqs.refl _),⟨rfl,⟨rfl,⟨rfl,⟨rfl,⟨rfl,slQ (rS aC) (k208)⟩⟩⟩⟩⟩⟩⟩⟩⟩⟩⟩)⟩⟩⟩⟩⟩⟩)⟩))))))) (fun h188 k279=>wrapK.i64 k279 (fun h275 h276 k277=>Exists.elim k277 (fun I225 h242=>⟨I225,br h242.1 Cnd.dec (fun h226 k238=>br k238 Cnd.dec (fun h228 k235=>⟨rfl,⟨(y186.2.2.2.2.2,y186.2.2.1,a.2.2.1,(y186.2.1 - y186.2.2.1),a.2.2.2.2),⟨(bP (gl aC y186.2.2.2.2.2) (rS aC)),⟨rfl,⟨rfl,⟨rfl,⟨(DEqs.refl _),slQ (rS aC) (⟨k235.1,rG k235.2 (fun (h231:(List.length (nR (y186.2.2.2.2.2,y186.2.2.1,a.2.2.1,(y186.2.1 - y186.2.2.1),a.2.2.2.2)))=y186.2.2.2.2.2.length) hk=>⟨(y186.1,y186.2.2.1,(y186.2.1 - y186.2.2.1),(nR (y186.2.2.2.2.2,y186.2.2.1,a.2.2.1,(y186.2.1 - y186.2.2.1),a.2.2.2.2))),⟨((h231).symm.trans (bP (gl aC (nR (y186.2.2.2.2.2,y186.2.2.1,a.2.2.1,(y186.2.1 - y186.2.2.1),a.2.2.2.2))) (rS aC))),⟨rfl,⟨rfl,⟨(DEqs.refl _),⟨rfl,⟨rfl,⟨rfl,slQ (rS aC) (hk)⟩⟩⟩⟩⟩⟩⟩⟩)⟩)⟩⟩⟩⟩⟩⟩⟩) (fun h229 k236=>⟨(y186.1,y186.2.2.1,(y186.2.1 - y186.2.2.1),y186.2.2.2.2.2),⟨(bP (gl aC y186.2.2.2.2.2) (rS aC)),⟨rfl,⟨rfl,⟨(DEqs.refl _),⟨rfl,⟨rfl,⟨rfl,slQ (rS aC) (k236)⟩⟩⟩⟩⟩⟩⟩⟩)) (fun h227 k239=>⟨(y186.1,y186.2.2.1,(y186.2.1 - y186.2.2.1),y186.2.2.2.2.2),⟨(bP (gl aC y186.2.2.2.2.2) (rS aC)),⟨rfl,⟨rfl,⟨(DEqs.refl _),⟨rfl,⟨rfl,⟨rfl,slQ (rS aC) (k239)⟩⟩⟩⟩⟩⟩⟩⟩),fun y240 h241=>Exists.elim (h242.2 y240 h241) (fun I243 h260=>⟨I243,br h260.1 Cnd.dec (fun h244 k256=>br k256 Cnd.dec (fun h246 k253=>⟨rfl,⟨(y240.2.2.2,a.2.1,y240.2.1,y240.1,a.2.2.2.2),⟨(bP (gl aC y240.2.2.2) (rS aC)),⟨rfl,⟨rfl,⟨rfl,⟨(DEqs.refl _),slQ (rS aC) (⟨k253.1,rG k253.2 (fun (h249:(List.length (cH (y240.2.2.2,a.2.1,y240.2.1,y240.1,a.2.2.2.2)))=y240.2.2.2.length) hk=>⟨(y240.1,y240.2.2.1,(cH (y240.2.2.2,a.2.1,y240.2.1,y240.1,a.2.2.2.2))),⟨((h249).symm.trans (bP (gl aC (cH (y240.2.2.2,a.2.1,y240.2.1,y240.1,a.2.2.2.2))) (rS aC))),⟨rfl,⟨(DEqs.refl _),⟨rfl,⟨rfl,slQ (rS aC) (hk)⟩⟩⟩⟩⟩⟩)⟩)⟩⟩⟩⟩⟩⟩⟩) (fun h247 k254=>⟨(y240.1,y240.2.2.1,y240.2.2.2),⟨(bP (gl aC y240.2.2.2) (rS aC)),⟨rfl,⟨(DEqs.refl _),⟨rfl,⟨rfl,slQ (rS aC) (k254)⟩⟩⟩⟩⟩⟩)) (fun h245 k257=>⟨(y240.1,y240.2.2.1,y240.2.2.2),⟨(bP (gl aC y240.2.2.2) (rS aC)),⟨rfl,⟨(DEqs.refl _),⟨rfl,⟨rfl,slQ (rS aC) (k257)⟩⟩⟩⟩⟩⟩),fun y258 h259=>br (h260.2 y258 h259) Cnd.dec (fun h261 k273=>br k273 Cnd.dec (fun h263 k270=>⟨rfl,⟨(y258.2.2,y258.1,y258.2.1,a.2.2.2.1,a.2.2.2.2),⟨(bP (gl aC y258.2.2) (rS aC)),⟨rfl,⟨rfl,⟨rfl,⟨(DEqs.refl _),slQ (rS aC) (⟨k270.1,rG k270.2 (fun (h266:(List.length (cH (y258.2.2,y258.1,y258.2.1,a.2.2.2.1,a.2.2.2.2)))=y258.2.2.length) hk=>slQ (Rds.to (rS aC) hk) (trivial))⟩)⟩⟩⟩⟩⟩⟩⟩) (fun h264 k271=>slQ (Rds.to (rS aC) k271) (trivial))) (fun h262 k274=>slQ (Rds.to (rS aC) k274) (trivial))⟩)⟩)))⟩)))⟩))))))))))
theorem f134.eq (a:(List (Int))×Int×Int×Int×(List (aB))) (n:Nat):(f134.af a).gives (f134.env n) (f134.args a) (f134.blks a) (f134.res a) (f134.blks' a)=f134.tree a n:=by kernel_rfl
def f138.args (a:(List (Int))×Int×Int×Int×(List (aB))):List D:=[.msl 0 1 a.1.length,.int .i64 a.2.1,.int .i64 a.2.2.1,.int .i64 a.2.2.2.1,.fn 115 [.eptr [.slice .ro 13 a.2.2.2.2.length (gl aD a.2.2.2.2)]]]
def f138.blks (a:(List (Int))×Int×Int×Int×(List (aB))):List (List D):=[[.dead,.arr false 1 a.1.length (gl aC a.1)]]
def f138.res (a:(List (Int))×Int×Int×Int×(List (aB))):List D:=[]
def f138.blks' (a:(List (Int))×Int×Int×Int×(List (aB))):List (List D):=[[.dead,.arr false 1 (List.length (b6 a)) (gl aC (b6 a))]]
def f138.C:aX:=FnC f138.args f138.blks (fun a=>eD a) f138.res f138.blks'
def f137.S0 (a:(List (Int))×Int×Int×Int×(List (aB))) (x:Int×Int×(List (Int))):Tm:=⟨[.msl 0 1 x.2.2.length,.dead,.int .i64 a.2.2.1,.dead,.fn 115 [.eptr [.slice .ro 13 a.2.2.2.2.length (gl aD a.2.2.2.2)]],.dead,.dead,.dead,.dead,.dead,.int .i64 x.1,.int .i64 x.2.1,.dead,.dead,.dead,.dead,.dead,.dead,.dead,.dead,.dead,.dead,.dead,.dead,.dead,.dead,.dead,.dead,.dead,.dead,.dead,.dead,.dead,.dead,.dead,.dead,.dead,.dead,.dead,.dead,.dead,.dead,.dead,.dead,.dead,.dead,.dead,.dead,.dead,.dead,.dead,.dead,.dead,.dead,.dead,.dead,.dead,.dead],[(0,false,[.dead,.arr false 1 x.2.2.length (gl aC x.2.2)])],[]⟩
def f137.kills (a:(List (Int))×Int×Int×Int×(List (aB))):List iX:=[.tell (Int×Int×(List (Int))) (f137.S0 a)]
def f137.cuts (a:(List (Int))×Int×Int×Int×(List (aB))):List (Nat×Σ β:Type,β→Tm):=[(999999,⟨Unit,fun x=>⟨[],[],[]⟩⟩)]
def f137.af (a:(List (Int))×Int×Int×Int×(List (aB))):AF:=AF.mk (.seq (.region [oR 12 0 .move [2],
 oR 13 1 .move [1],
 oR 14 2 (.bin .sub) [12,13],
 oR 10 3 .move [14]])
 (.seq (.region [oR 15 4 .move [3],
 oR 16 5 .move [2],
 oR 17 6 (.bin .sub) [15,16],
 oR 11 7 .move [17]])
 (.seq (.block 0 (.loopT (Int×Int×(List (Int))) (f137.S0 a) 1000008 1000048 (.seq (.seq (.region [oR 18 8 .move [10],
 oR 19 9 .move [11],
 oR 20 10 (.bin .neq) [18,19]])
 (.cond (.t 20) (.skip) (.exit 0)))
 (.block 1 (.seq (.region [oR 21 11 .move [10],
 oR 22 12 .move [11],
 oR 23 13 (.bin .gtr) [21,22]])
 (.cond (.t 23) (.seq (.region [oR 24 14 .move [0],
 oR 25 15 .move [2],
 oR 26 16 .move [10],
 oR 27 17 (.bin .sub) [25,26],
 oR 28 18 .move [2],
 oR 29 19 .move [11],
 oR 30 20 .move [4],
 oR 31 21 (.call true 138) [24,27,28,29,30]])
 (.region [oR 32 25 .move [10],
 oR 33 26 .move [11],
 oR 34 27 (.bin .sub) [32,33],
 oR 10 28 .move [34]])) (.seq (.region [oR 35 29 .move [0],
 oR 36 30 .move [2],
 oR 37 31 .move [10],
 oR 38 32 (.bin .sub) [36,37],
 oR 39 33 .move [2],
 oR 40 34 .move [11],
 oR 41 35 (.bin .add) [39,40],
 oR 42 36 .move [10],
 oR 43 37 (.bin .sub) [41,42],
 oR 44 38 .move [10],
 oR 45 39 .move [4],
 oR 46 40 (.call true 138) [35,38,43,44,45]])
 (.region [oR 47 44 .move [11],
 oR 48 45 .move [10],
 oR 49 46 (.bin .sub) [47,48],
 oR 11 47 .move [49]]))))))))
 (.region [oR 50 48 .move [0],
 oR 51 49 .move [2],
 oR 52 50 .move [10],
 oR 53 51 (.bin .sub) [51,52],
 oR 54 52 .move [2],
 oR 55 53 .move [10],
 oR 56 54 .move [4],
 oR 57 55 (.call true 138) [50,53,54,55,56]]))))
 [] 1 53
def f137.env:Env:=[(138,f138.C)]
def f137.tree (a:(List (Int))×Int×Int×Int×(List (aB))):Prop:=Let (wI (a.2.2.1 - a.2.1)) (fun v1:Int=>Let (wI (a.2.2.2.1 - a.2.2.1)) (fun v2:Int=>∃ (I4:(Int×Int×(List (Int)))→Prop) (μ5:(Int×Int×(List (Int)))→Nat),(∃ x3:Int×Int×(List (Int)),(a.1.length=x3.2.2.length)∧(a.2.2.1=a.2.2.1)∧(DEqs [.eptr [.slice .ro 13 a.2.2.2.2.length (gl aD a.2.2.2.2)]] [.eptr [.slice .ro 13 a.2.2.2.2.length (gl aD a.2.2.2.2)]])∧(v1=x3.1)∧(v2=x3.2.1)∧SlQ a.1.length x3.2.2.length (gl aC a.1) (gl aC x3.2.2) (I4 x3))∧∀ y6:Int×Int×(List (Int)),I4 y6→(Br (y6.1 != y6.2.1) (Br (decide (y6.2.1 < y6.1)) (Let (wI (a.2.2.1 - y6.1)) (fun v11:Int=>(y6.2.2.length=y6.2.2.length)∧∃ c12:(List (Int))×Int×Int×Int×(List (aB)),(y6.2.2.length=List.length c12.1)∧(v11=c12.2.1)∧(a.2.2.1=c12.2.2.1)∧(y6.2.1=c12.2.2.2.1)∧(DEqs [.eptr [.slice .ro 13 a.2.2.2.2.length (gl aD a.2.2.2.2)]] [.eptr [.slice .ro 13 c12.2.2.2.2.length (gl aD c12.2.2.2.2)]])∧SlQ y6.2.2.length c12.1.length (gl aC y6.2.2) (gl aC c12.1) ((eD c12)∧Let (wI (y6.1 - y6.2.1)) (fun v14:Int=>∃ x15:Int×Int×(List (Int)),(y6.2.2.length=x15.2.2.length)∧(a.2.2.1=a.2.2.1)∧(DEqs [.eptr [.slice .ro 13 a.2.2.2.2.length (gl aD a.2.2.2.2)]] [.eptr [.slice .ro 13 a.2.2.2.2.length (gl aD a.2.2.2.2)]])∧(v14=x15.1)∧(y6.2.1=x15.2.1)∧SlQ (List.length (b6 c12)) x15.2.2.length (gl aC (b6 c12)) (gl aC x15.2.2) (I4 x15∧μ5 x15 < μ5 y6))))) (Let (wI (a.2.2.1 - y6.1)) (fun v24:Int=>Let (wI (a.2.2.1+y6.2.1)) (fun v25:Int=>Let (wI (v25 - y6.1)) (fun v26:Int=>(y6.2.2.length=y6.2.2.length)∧∃ c27:(List (Int))×Int×Int×Int×(List (aB)),(y6.2.2.length=List.length c27.1)∧(v24=c27.2.1)∧(v26=c27.2.2.1)∧(y6.1=c27.2.2.2.1)∧(DEqs [.eptr [.slice .ro 13 a.2.2.2.2.length (gl aD a.2.2.2.2)]] [.eptr [.slice .ro 13 c27.2.2.2.2.length (gl aD c27.2.2.2.2)]])∧SlQ y6.2.2.length c27.1.length (gl aC y6.2.2) (gl aC c27.1) ((eD c27)∧Let (wI (y6.2.1 - y6.1)) (fun v29:Int=>∃ x30:Int×Int×(List (Int)),(y6.2.2.length=x30.2.2.length)∧(a.2.2.1=a.2.2.1)∧(DEqs [.eptr [.slice .ro 13 a.2.2.2.2.length (gl aD a.2.2.2.2)]] [.eptr [.slice .ro 13 a.2.2.2.2.length (gl aD a.2.2.2.2)]])∧(y6.1=x30.1)∧(v29=x30.2.1)∧SlQ (List.length (b6 c27)) x30.2.2.length (gl aC (b6 c27)) (gl aC x30.2.2) (I4 x30∧μ5 x30 < μ5 y6)))))))) (Let (wI (a.2.2.1 - y6.1)) (fun v47:Int=>(y6.2.2.length=y6.2.2.length)∧∃ c48:(List (Int))×Int×Int×Int×(List (aB)),(y6.2.2.length=List.length c48.1)∧(v47=c48.2.1)∧(a.2.2.1=c48.2.2.1)∧(y6.1=c48.2.2.2.1)∧(DEqs [.eptr [.slice .ro 13 a.2.2.2.2.length (gl aD a.2.2.2.2)]] [.eptr [.slice .ro 13 c48.2.2.2.2.length (gl aD c48.2.2.2.2)]])∧SlQ y6.2.2.length c48.1.length (gl aC y6.2.2) (gl aC c48.1) ((eD c48)∧SlQ (List.length (b6 c48)) (List.length (nR a)) (gl aC (b6 c48)) (gl aC (nR a)) (True)))))))
def f137.vc (a:(List (Int))×Int×Int×Int×(List (aB))):Prop:=(-9223372036854775808≤(a.2.2.1 - a.2.1)∧(a.2.2.1 - a.2.1)≤9223372036854775807∧(-9223372036854775808≤(a.2.2.2.1 - a.2.2.1)∧(a.2.2.2.1 - a.2.2.1)≤9223372036854775807∧(∃ (I4:(Int×Int×(List (Int)))→Prop) (μ5:(Int×Int×(List (Int)))→Nat),I4 ((a.2.2.1 - a.2.1),(a.2.2.2.1 - a.2.2.1),a.1)∧∀ y6:Int×Int×(List (Int)),I4 y6→((¬y6.1=y6.2.1→((y6.2.1 < y6.1→(-9223372036854775808≤(a.2.2.1 - y6.1)∧(a.2.2.1 - y6.1)≤9223372036854775807∧(eD (y6.2.2,(a.2.2.1 - y6.1),a.2.2.1,y6.2.1,a.2.2.2.2)∧((List.length (b6 (y6.2.2,(a.2.2.1 - y6.1),a.2.2.1,y6.2.1,a.2.2.2.2)))=y6.2.2.length∧(-9223372036854775808≤(y6.1 - y6.2.1)∧(y6.1 - y6.2.1)≤9223372036854775807∧(I4 ((y6.1 - y6.2.1),y6.2.1,(b6 (y6.2.2,(a.2.2.1 - y6.1),a.2.2.1,y6.2.1,a.2.2.2.2)))∧μ5 ((y6.1 - y6.2.1),y6.2.1,(b6 (y6.2.2,(a.2.2.1 - y6.1),a.2.2.1,y6.2.1,a.2.2.2.2))) < μ5 y6))))))∧(¬(y6.2.1 < y6.1)→(-9223372036854775808≤(a.2.2.1 - y6.1)∧(a.2.2.1 - y6.1)≤9223372036854775807∧(-9223372036854775808≤(a.2.2.1+y6.2.1)∧(a.2.2.1+y6.2.1)≤9223372036854775807∧(-9223372036854775808≤((a.2.2.1+y6.2.1) - y6.1)∧((a.2.2.1+y6.2.1) - y6.1)≤9223372036854775807∧(eD (y6.2.2,(a.2.2.1 - y6.1),((a.2.2.1+y6.2.1) - y6.1),y6.1,a.2.2.2.2)∧((List.length (b6 (y6.2.2,(a.2.2.1 - y6.1),((a.2.2.1+y6.2.1) - y6.1),y6.1,a.2.2.2.2)))=y6.2.2.length∧(-9223372036854775808≤(y6.2.1 - y6.1)∧(y6.2.1 - y6.1)≤9223372036854775807∧(I4 (y6.1,(y6.2.1 - y6.1),(b6 (y6.2.2,(a.2.2.1 - y6.1),((a.2.2.1+y6.2.1) - y6.1),y6.1,a.2.2.2.2)))∧μ5 (y6.1,(y6.2.1 - y6.1),(b6 (y6.2.2,(a.2.2.1 - y6.1),((a.2.2.1+y6.2.1) - y6.1),y6.1,a.2.2.2.2))) < μ5 y6))))))))))∧(¬(¬y6.1=y6.2.1)→(-9223372036854775808≤(a.2.2.1 - y6.1)∧(a.2.2.1 - y6.1)≤9223372036854775807∧(eD (y6.2.2,(a.2.2.1 - y6.1),a.2.2.1,y6.1,a.2.2.2.2)∧((List.length (b6 (y6.2.2,(a.2.2.1 - y6.1),a.2.2.1,y6.1,a.2.2.2.2)))=y6.2.2.length∧((b6 (y6.2.2,(a.2.2.1 - y6.1),a.2.2.1,y6.1,a.2.2.2.2))=nR a)))))))))
theorem f137.of (a:(List (Int))×Int×Int×Int×(List (aB))) (h:f137.vc a):f137.tree a:=wrapK.i64 h (fun h63 h64 k65=>wrapK.i64 k65 (fun h60 h61 k62=>Exists.elim k62 (fun I4 h57_=>Exists.elim h57_ (fun μ5 h57=>⟨I4,μ5,⟨((a.2.2.1 - a.2.1),(a.2.2.2.1 - a.2.2.1),a.1),⟨(bP (gl aC a.1) (rS aC)),⟨rfl,⟨(DEqs.refl _),⟨rfl,⟨rfl,slQ (rS aC) (h57.1)⟩⟩⟩⟩⟩⟩,fun y6 h59=>br (h57.2 y6 h59) Cnd.ne (fun h7 k55=>br k55 Cnd.dec (fun h9 k45=>wrapK.i64 k45 (fun h21 h22 k23=>⟨rfl,⟨(y6.2.2,(a.2.2.1 - y6.1),a.2.2.1,y6.2.1,a.2.2.2.2),⟨(bP (gl aC y6.2.2) (rS aC)),⟨rfl,⟨rfl,⟨rfl,⟨(DEqs.refl _),slQ (rS aC) (⟨k23.1,rG k23.2 (fun (h13:(List.length (b6 (y6.2.2,(a.2.2.1 - y6.1),a.2.2.1,y6.2.1,a.2.2.2.2)))=y6.2.2.length) hk=>wrapK.i64 hk (fun h17 h18 k19=>⟨((y6.1 - y6.2.1),y6.2.1,(b6 (y6.2.2,(a.2.2.1 - y6.1),a.2.2.1,y6.2.1,a.2.2.2.2))),⟨((h13).symm.trans (bP (gl aC (b6 (y6.2.2,(a.2.2.1 - y6.1),a.2.2.1,y6.2.1,a.2.2.2.2))) (rS aC))),⟨rfl,⟨(DEqs.refl _),⟨rfl,⟨rfl,slQ (rS aC) (k19)⟩⟩⟩⟩⟩⟩))⟩)⟩⟩⟩⟩⟩⟩⟩)) (fun h10 k46=>wrapK.i64 k46 (fun h42 h43 k44=>wrapK.i64 k44 (fun h39 h40 k41=>wrapK.i64 k41 (fun h36 h37 k38=>⟨rfl,⟨(y6.2.2,(a.2.2.1 - y6.1),((a.2.2.1+y6.2.1) - y6.1),y6.1,a.2.2.2.2),⟨(bP (gl aC y6.2.2) (rS aC)),⟨rfl,⟨rfl,⟨rfl,⟨(DEqs.refl _),slQ (rS aC) (⟨k38.1,rG k38.2 (fun (h28:(List.length (b6 (y6.2.2,(a.2.2.1 - y6.1),((a.2.2.1+y6.2.1) - y6.1),y6.1,a.2.2.2.2)))=y6.2.2.length) hk=>wrapK.i64 hk (fun h32 h33 k34=>⟨(y6.1,(y6.2.1 - y6.1),(b6 (y6.2.2,(a.2.2.1 - y6.1),((a.2.2.1+y6.2.1) - y6.1),y6.1,a.2.2.2.2))),⟨((h28).symm.trans (bP (gl aC (b6 (y6.2.2,(a.2.2.1 - y6.1),((a.2.2.1+y6.2.1) - y6.1),y6.1,a.2.2.2.2))) (rS aC))),⟨rfl,⟨(DEqs.refl _),⟨rfl,⟨rfl,slQ (rS aC) (k34)⟩⟩⟩⟩⟩⟩))⟩)⟩⟩⟩⟩⟩⟩⟩))))) (fun h8 k56=>wrapK.i64 k56 (fun h52 h53 k54=>⟨rfl,⟨(y6.2.2,(a.2.2.1 - y6.1),a.2.2.1,y6.1,a.2.2.2.2),⟨(bP (gl aC y6.2.2) (rS aC)),⟨rfl,⟨rfl,⟨rfl,⟨(DEqs.refl _),slQ (rS aC) (⟨k54.1,rG k54.2 (fun (h49:(List.length (b6 (y6.2.2,(a.2.2.1 - y6.1),a.2.2.1,y6.1,a.2.2.2.2)))=y6.2.2.length) hk=>slQ (Rds.to (rS aC) hk) (trivial))⟩)⟩⟩⟩⟩⟩⟩⟩))⟩))))
theorem f137.eq (a:(List (Int))×Int×Int×Int×(List (aB))):(f137.af a).gives f137.env (f137.args a) (f137.blks a) (f137.res a) (f137.blks' a)=f137.tree a:=by kernel_rfl
def f138.S0 (a:(List (Int))×Int×Int×Int×(List (aB))) (x:Int×(List (Int))):Tm:=⟨[.msl 0 1 x.2.length,.int .i64 a.2.1,.int .i64 a.2.2.1,.int .i64 a.2.2.2.1,.dead,.dead,.dead,.dead,.dead,.dead,.int .i64 x.1,.dead,.dead,.dead,.dead,.dead,.dead,.dead,.dead,.dead,.dead,.dead,.dead,.dead,.dead,.dead,.dead,.dead,.dead,.dead,.dead,.dead,.dead,.dead,.dead,.dead,.dead,.dead],[(0,false,[.dead,.arr false 1 x.2.length (gl aC x.2)])],[]⟩
def f138.kills (a:(List (Int))×Int×Int×Int×(List (aB))):List iX:=[.tell (Int×(List (Int))) (f138.S0 a)]
def f138.cuts (a:(List (Int))×Int×Int×Int×(List (aB))):List (Nat×Σ β:Type,β→Tm):=[(999999,⟨Unit,fun x=>⟨[],[],[]⟩⟩)]
def f138.af (a:(List (Int))×Int×Int×Int×(List (aB))):AF:=AF.mk (.seq (.region [⟨(some 10),1000000,.move,[.c (.int .i64 (0))],none⟩])
 (.block 0 (.loopT (Int×(List (Int))) (f138.S0 a) 1000001 1000031 (.seq (.seq (.region [oR 11 1 .move [10],
 oR 12 2 .move [3],
 oR 13 3 (.bin .lss) [11,12]])
 (.cond (.t 13) (.skip) (.exit 0)))
 (.seq (.block 1 (.region [oR 16 4 .move [0],
 oR 17 5 .move [1],
 oR 18 6 .move [10],
 oR 19 7 (.bin .add) [17,18],
 oR 20 8 .move [0],
 oR 21 9 .move [2],
 oR 22 10 .move [10],
 oR 23 11 (.bin .add) [21,22],
 oR 24 12 .move [0],
 oR 25 13 .move [2],
 oR 26 14 .move [10],
 oR 27 15 (.bin .add) [25,26],
 oR 28 16 (.indexAddr 1 none) [24,27],
 oR 29 17 (.load false 1) [28],
 oR 30 18 .move [0],
 oR 31 19 .move [1],
 oR 32 20 .move [10],
 oR 33 21 (.bin .add) [31,32],
 oR 34 22 (.indexAddr 1 none) [30,33],
 oR 35 23 (.load false 1) [34],
 oR 36 24 (.indexAddr 1 none) [16,19],
 ⟨none,1000025,(.store 1),[.t 36,.t 29],none⟩,
 oR 37 26 (.indexAddr 1 none) [20,23],
 ⟨none,1000027,(.store 1),[.t 37,.t 35],none⟩]))
 (.region [oR 14 28 .move [10],
 ⟨(some 15),1000029,(.bin .add),[.t 14,.c (.int .i64 (1))],none⟩,
 oR 10 30 .move [15]]))))))
 [] 1 33
def f138.env:Env:=[]
def f138.tree (a:(List (Int))×Int×Int×Int×(List (aB))):Prop:=∃ (I2:(Int×(List (Int)))→Prop) (μ3:(Int×(List (Int)))→Nat),(∃ x1:Int×(List (Int)),(a.1.length=x1.2.length)∧(a.2.1=a.2.1)∧(a.2.2.1=a.2.2.1)∧(a.2.2.2.1=a.2.2.2.1)∧((0:Int)=x1.1)∧SlQ a.1.length x1.2.length (gl aC a.1) (gl aC x1.2) (I2 x1))∧∀ y4:Int×(List (Int)),I2 y4→(Br (decide (y4.1 < a.2.2.2.1)) (Let (wI (a.2.1+y4.1)) (fun v7:Int=>Let (wI (a.2.2.1+y4.1)) (fun v8:Int=>Let (wI (a.2.2.1+y4.1)) (fun v9:Int=>Br (decide ((0:Int)≤v9)&&decide (v9 < (List.length y4.2:Int))) ((y4.2.length=y4.2.length)∧(Let (wI (a.2.1+y4.1)) (fun v11:Int=>Br (decide ((0:Int)≤v11)&&decide (v11 < (List.length y4.2:Int))) ((y4.2.length=y4.2.length)∧(Br (decide ((0:Int)≤v7)&&decide (v7 < (List.length y4.2:Int))) ((y4.2.length=y4.2.length)∧(Br (decide ((0:Int)≤v8)&&decide (v8 < (List.length y4.2:Int))) ((y4.2.length=y4.2.length)∧(Let (wI (y4.1+(1:Int))) (fun v15:Int=>∃ x16:Int×(List (Int)),(y4.2.length=x16.2.length)∧(a.2.1=a.2.1)∧(a.2.2.1=a.2.2.1)∧(a.2.2.2.1=a.2.2.2.1)∧(v15=x16.1)∧SlQ y4.2.length x16.2.length (gset (gset (gl aC y4.2) (Int.toNat v7) [.int .i64 (at_ y4.2 v9)]) (Int.toNat v8) [.int .i64 (at_ y4.2 v11)]) (gl aC x16.2) (I2 x16∧μ3 x16 < μ3 y4)))) False)) False)) False))) False)))) (SlQ y4.2.length (List.length (b6 a)) (gl aC y4.2) (gl aC (b6 a)) (True)))
def f138.vc (a:(List (Int))×Int×Int×Int×(List (aB))):Prop:=(∃ (I2:(Int×(List (Int)))→Prop) (μ3:(Int×(List (Int)))→Nat),I2 ((0:Int),a.1)∧∀ y4:Int×(List (Int)),I2 y4→((y4.1 < a.2.2.2.1→(-9223372036854775808≤(a.2.1+y4.1)∧(a.2.1+y4.1)≤9223372036854775807∧(-9223372036854775808≤(a.2.2.1+y4.1)∧(a.2.2.1+y4.1)≤9223372036854775807∧(-9223372036854775808≤(a.2.2.1+y4.1)∧(a.2.2.1+y4.1)≤9223372036854775807∧((0:Int)≤(a.2.2.1+y4.1)∧(a.2.2.1+y4.1) < (List.length y4.2:Int)∧(-9223372036854775808≤(a.2.1+y4.1)∧(a.2.1+y4.1)≤9223372036854775807∧((0:Int)≤(a.2.1+y4.1)∧(a.2.1+y4.1) < (List.length y4.2:Int)∧((0:Int)≤(a.2.1+y4.1)∧(a.2.1+y4.1) < (List.length y4.2:Int)∧((0:Int)≤(a.2.2.1+y4.1)∧(a.2.2.1+y4.1) < (List.length y4.2:Int)∧(-9223372036854775808≤(y4.1+(1:Int))∧(y4.1+(1:Int))≤9223372036854775807∧(I2 ((y4.1+(1:Int)),List.set (List.set y4.2 (Int.toNat (a.2.1+y4.1)) (at_ y4.2 (a.2.2.1+y4.1))) (Int.toNat (a.2.2.1+y4.1)) (at_ y4.2 (a.2.1+y4.1)))∧μ3 ((y4.1+(1:Int)),List.set (List.set y4.2 (Int.toNat (a.2.1+y4.1)) (at_ y4.2 (a.2.2.1+y4.1))) (Int.toNat (a.2.2.1+y4.1)) (at_ y4.2 (a.2.1+y4.1))) < μ3 y4)))))))))))∧(¬(y4.1 < a.2.2.2.1)→(y4.2=b6 a))))
theorem f138.of (a:(List (Int))×Int×Int×Int×(List (aB))) (h:f138.vc a):f138.tree a:=Exists.elim h (fun I2 h40_=>Exists.elim h40_ (fun μ3 h40=>⟨I2,μ3,⟨((0:Int),a.1),⟨(bP (gl aC a.1) (rS aC)),⟨rfl,⟨rfl,⟨rfl,⟨rfl,slQ (rS aC) (h40.1)⟩⟩⟩⟩⟩⟩,fun y4 h42=>br (h40.2 y4 h42) Cnd.dec (fun h5 k38=>wrapK.i64 k38 (fun h34 h35 k36=>wrapK.i64 k36 (fun h31 h32 k33=>wrapK.i64 k33 (fun h28 h29 k30=>chk k30.2.2 Cnd.ix ⟨k30.1,k30.2.1⟩ (fun h10 k27=>⟨rfl,wrapK.i64 k27 (fun h24 h25 k26=>chk k26.2.2 Cnd.ix ⟨k26.1,k26.2.1⟩ (fun h12 k23=>⟨rfl,chk k23.2.2 Cnd.ix ⟨k23.1,k23.2.1⟩ (fun h13 k22=>⟨rfl,chk k22.2.2 Cnd.ix ⟨k22.1,k22.2.1⟩ (fun h14 k21=>⟨rfl,wrapK.i64 k21 (fun h18 h19 k20=>⟨((y4.1+(1:Int)),List.set (List.set y4.2 (Int.toNat (a.2.1+y4.1)) (at_ y4.2 (a.2.2.1+y4.1))) (Int.toNat (a.2.2.1+y4.1)) (at_ y4.2 (a.2.1+y4.1))),⟨(bP (gset (gset (gl aC y4.2) (Int.toNat (a.2.1+y4.1)) [.int .i64 (at_ y4.2 (a.2.2.1+y4.1))]) (Int.toNat (a.2.2.1+y4.1)) [.int .i64 (at_ y4.2 (a.2.1+y4.1))]) (Rds.gset (enc:=aC) (Rds.gset (enc:=aC) (rS aC) (DEqs.refl _)) (DEqs.refl _))),⟨rfl,⟨rfl,⟨rfl,⟨rfl,slQ (Rds.gset (enc:=aC) (Rds.gset (enc:=aC) (rS aC) (DEqs.refl _)) (DEqs.refl _)) (k20)⟩⟩⟩⟩⟩⟩)⟩)⟩)⟩))⟩))))) (fun h6 k39=>slQ (Rds.to (rS aC) k39) (trivial))⟩))
theorem f138.eq (a:(List (Int))×Int×Int×Int×(List (aB))):(f138.af a).gives f138.env (f138.args a) (f138.blks a) (f138.res a) (f138.blks' a)=f138.tree a:=by kernel_rfl
theorem f116.ok (a:aU×aU) (_:True):f116.vc a:=⟨by unfold pH; simp,rfl⟩
theorem f115.ok (a:Int×Int×List aU) (h:eL a):f115.vc a:=by
 obtain ⟨⟨h1,h2⟩,h3,h4⟩:=h
 exact ⟨h1,h2,h3,h4,rfl⟩
theorem zC (js:List aU) (i j:Int):cC js i j=true↔(at_ js j).1.2.2.1 < (at_ js i).1.2.2.1∨((at_ js j).1.2.2.1=(at_ js i).1.2.2.1∧(at_ js i).2.1 < (at_ js j).2.1):=by
 unfold cC jQ yS fG
 rw [decide_eq_true_eq]
 simp only [orI]
 constructor
 ·intro h
  split at h <;> split at h <;> (try split at h) <;> (try split at h) <;> (try split at h) <;> omega
 ·intro h
  split <;> split <;> (try split) <;> (try split) <;> (try split) <;> omega
theorem tM (js:List aU) (i j:Int):cC js i j=false↔¬((at_ js j).1.2.2.1 < (at_ js i).1.2.2.1∨((at_ js j).1.2.2.1=(at_ js i).1.2.2.1∧(at_ js i).2.1 < (at_ js j).2.1)):=by
 rw [← zC]
 simp
theorem gI (js:List aU):Weak (cC js):=by
 refine ⟨fun {x y} h=>?_,fun {x y z} h1 h2=>?_⟩
 ·rw [zC] at h
  rw [tM]
  omega
 ·rw [tM] at h1 h2 ⊢
  omega
theorem rN {js:List aU} {x y:Int} (h:jQ (x,y,js) < 0):cC js x y=true:=decide_eq_true h
theorem rM {js:List aU} {x y:Int} (h:¬jQ (x,y,js) < 0):cC js x y=false:=decide_eq_false h
theorem InR.at {js:List aU} {l:List Int} (h:InR js l) {i:Int} (h0:0≤i) (h1:i < (l.length:Int)):0≤at_ l i∧at_ l i < (js.length:Int):=h _ (jL h0 h1)
theorem InR.fe {js:List aU} {l c:List Int} (h:InR js l) (e:FE (cC js) c l):InR js c:=fun x hx=>h x (FE.mem (gI js) e hx)
theorem InR.same {js:List aU} {l c:List Int} {a b:Nat} (h:InR js l) (e:Same (cC js) l c a b):InR js c:=h.fe e.fe
theorem eU {α:Type} [Inhabited α] (l:List α) (i:Int):at_ l i=l.getD i.toNat default:=rfl
theorem f138.ok (a:List Int×Int×Int×Int×List aU) (h:eD a):f138.vc a:=by
 obtain ⟨l,p,q,k,js⟩:=a
 obtain ⟨h1,h2,h3,h4,h5,h6⟩:=h
 simp only at h1 h2 h3 h4 h5 h6
 refine ⟨fun y=>0≤y.1∧y.1≤k∧y.2=mG l p.toNat q.toNat y.1.toNat,fun y=>(k - y.1).toNat,⟨by simp,h3,rfl⟩,fun y hy=>?_⟩
 obtain ⟨i,c⟩:=y
 obtain ⟨g0,g1,g2⟩:=hy
 simp only at g0 g1 g2
 subst g2
 have hl:=b7 l p.toNat q.toNat i.toNat
 simp only
 rw [hl]
 refine ⟨fun c=>?_,fun c=>?_⟩
 ·refine ⟨by omega,by omega,by omega,by omega,by omega,by omega,by omega,by omega,by omega,by omega,by omega,by omega,by omega,by omega,by omega,by omega,by omega,by omega,⟨by omega,by omega,?_⟩,by omega⟩
  rw [show (i+1).toNat=i.toNat+1 from by omega,mG]
  unfold swp
  rw [show p.toNat+i.toNat=(p+i).toNat from by omega,show q.toNat+i.toNat=(q+i).toNat from by omega]
  rfl
 ·have:i=k:=by omega
  subst this
  rfl
theorem f137.ok (a:List Int×Int×Int×Int×List aU) (h:lR a):f137.vc a:=by
 obtain ⟨l,a,m,b,js⟩:=a
 obtain ⟨h1,h2,h3,h4,h5⟩:=h
 simp only at h1 h2 h3 h4 h5
 refine ⟨by simp only; omega,by simp only; omega,by simp only; omega,by simp only; omega,fun y=>0 < y.1∧0 < y.2.1∧a≤m - y.1∧m+y.2.1≤b∧y.2.2.length=l.length∧dH y.2.2 (m.toNat - y.1.toNat) m.toNat (m.toNat+y.2.1.toNat)=dH l a.toNat m.toNat b.toNat,
  fun y=>(y.1+y.2.1).toNat,⟨by simp only; omega,by simp only; omega,by simp only; omega,by simp only; omega,rfl,?_⟩,fun y hy=>?_⟩
 ·simp only
  rw [show m.toNat - (m - a).toNat=a.toNat from by omega,show m.toNat+(b - m).toNat=b.toNat from by omega]
 ·obtain ⟨i,j,c⟩:=y
  obtain ⟨g1,g2,g3,g4,g5,g6⟩:=hy
  simp only at g1 g2 g3 g4 g5 g6 ⊢
  have hsw:∀ x y k:Int,(b6 (c,x,y,k,js)).length=c.length:=fun x y k=>b7 _ _ _ _
  refine ⟨fun hne=>⟨fun hij=>⟨by omega,by omega,⟨by simp only; omega,by simp only; omega,by simp only; omega,by simp only; omega,by simp only; omega,by simp only; omega⟩,hsw _ _ _,by omega,by omega,⟨by omega,by omega,by omega,by omega,by rw [hsw]; exact g5,?_⟩,by omega⟩,
   fun hij=>⟨by omega,by omega,by omega,by omega,by omega,by omega,⟨by simp only; omega,by simp only; omega,by simp only; omega,by simp only; omega,by simp only; omega,by simp only; omega⟩,hsw _ _ _,by omega,by omega,⟨by omega,by omega,by omega,by omega,by rw [hsw]; exact g5,?_⟩,by omega⟩⟩,
   fun he=>⟨by omega,by omega,⟨by simp only; omega,by simp only; omega,by simp only; omega,by simp only; omega,by simp only; omega,by simp only; omega⟩,hsw _ _ _,?_⟩⟩
  ·rw [← g6]
   have:=aCA c (a:=0) (m:=m.toNat) (b:=0) (i:=i.toNat) (j:=j.toNat) (by omega) (by omega) (by omega) (by omega)
   unfold b6
   simp only
   rw [show (m - i).toNat=m.toNat - i.toNat from by omega,show (i - j).toNat=i.toNat - j.toNat from by omega]
   exact this
  ·rw [← g6]
   have:=aCS c (m:=m.toNat) (i:=i.toNat) (j:=j.toNat) (by omega) (by omega) (by omega) (by omega)
   unfold b6
   simp only
   rw [show (m - i).toNat=m.toNat - i.toNat from by omega,show (m+j - i).toNat=m.toNat+j.toNat - i.toNat from by omega,show (j - i).toNat=j.toNat - i.toNat from by omega]
   exact this
  ·have hij:i=j:=Classical.not_not.1 he
   subst hij
   have:=aFN c (m:=m.toNat) (i:=i.toNat) (by omega) (by omega)
   unfold b6 nR
   simp only
   rw [← g6,show (m - i).toNat=m.toNat - i.toNat from by omega]
   exact this
theorem yV (c:List Int) {a b:Int} {js:List aU} (h1:a≤b) (h2:b≤c.length):(jJ (c,a,b,js)).length=c.length:=iZ cJ c (by simp only; omega) (by simp only; omega)
theorem oN (c:List Int) {a b:Int} (m:Int) {js:List aU} (h1:a≤b) (h2:b≤c.length):(cH (c,a,m,b,js)).length=c.length:=iZ cJ c (by simp only; omega) (by simp only; omega)
theorem InR.rot {js:List aU} {l:List Int} (h:InR js l) {a m b:Nat}:InR js (dH l a m b):=fun x hx=>by
 refine h x ?_
 unfold dH Abs.seg at hx
 rcases List.mem_append.1 hx with hx | hx
 ·rcases List.mem_append.1 hx with hx | hx
  ·exact List.mem_of_mem_take hx
  ·rcases List.mem_append.1 hx with hx | hx
   ·exact List.mem_of_mem_drop (List.mem_of_mem_take hx)
   ·exact List.mem_of_mem_drop (List.mem_of_mem_take hx)
 ·exact List.mem_of_mem_drop hx
theorem InR.seg {js:List aU} {l:List Int} (h:InR js l) {a b:Nat} (h1:a≤b) (h2:b≤l.length):InR js (dY (bB (cC js)) l a b):=h.same (jP (gI js) l h1 h2).1
theorem f133.ok (a:List Int×Int×Int×List aU) (h:iA a):f133.vc a:=by
 obtain ⟨l,a,b,js⟩:=a
 obtain ⟨⟨h1,h2,h3,h4⟩,hR⟩:=h
 have hR:InR js l:=hR
 simp only at h1 h2 h3 h4
 refine ⟨by simp only; omega,by simp only; omega,fun y=>a < y.1∧(y.1≤b∨y.1=a+1)∧Same (cC js) l y.2 a.toNat b.toNat∧SdI (cC js) y.2 a.toNat y.1.toNat,fun y=>(b+1 - y.1).toNat,⟨by simp only; omega,.inr rfl,Same.refl _ _ _,fun p q e1 e2 e3=>by simp only at e3; omega⟩,fun y hy=>?_⟩
 obtain ⟨i,c⟩:=y
 obtain ⟨g1,g2,g3,g4⟩:=hy
 simp only at g1 g2 g3 g4 ⊢
 refine ⟨fun hib=>?_,fun hib=>?_⟩
 ·refine ⟨fun y=>y.1=i∧a≤y.2.1∧y.2.1≤i∧InsI (cC js) l a.toNat b.toNat i.toNat y.2.1.toNat y.2.2,fun y=>y.2.1.toNat,⟨rfl,by simp only; omega,by simp only; omega,InsI.init g3 (by omega) (by omega) g4⟩,fun y hy=>?_⟩
  obtain ⟨i',j,d⟩:=y
  obtain ⟨e1,e2,e3,e4⟩:=hy
  simp only at e1 e2 e3 e4 ⊢
  subst e1
  have hl:=e4.same.len
  have hRd:=hR.same e4.same
  have fin:(j.toNat=a.toNat∨a.toNat < j.toNat∧(cC js) (d.getD j.toNat default) (d.getD (j.toNat - 1) default)=false) →
    -9223372036854775808≤i'+(1:Int)∧i'+(1:Int)≤9223372036854775807∧(a < i'+1∧(i'+1≤b∨i'+1=a+1)∧Same (cC js) l d a.toNat b.toNat∧SdI (cC js) d a.toNat (i'+1).toNat)∧(b+1 - (i'+1)).toNat < (b+1 - i').toNat:=fun hh=>by
   obtain ⟨k1,k2⟩:=e4.stop (gI js) hh
   exact ⟨by omega,by omega,⟨by omega,by omega,k1,by rw [show (i'+1).toNat=i'.toNat+1 from by omega]; exact k2⟩,by omega⟩
  refine ⟨fun hj=>⟨by omega,by omega,by omega,by omega,by omega,by omega,⟨hRd.at (by omega) (by omega),hRd.at (by omega) (by omega)⟩,fun hc=>⟨by omega,by omega,by omega,by omega,by omega,by omega,by omega,by omega,by omega,by omega,by omega,by omega,by omega,by omega,⟨rfl,by omega,by omega,?_⟩,by omega⟩,fun hc=>fin (.inr ⟨by omega,?_⟩)⟩,fun hj=>fin (.inl (by omega))⟩
  ·have hc:=rN hc
   have e5:j.toNat=(j - 1).toNat+1:=by omega
   rw [e5] at e4
   have:=e4.step (gI js) (by omega) (by omega) (by rw [← e5]; exact hc)
   rw [← e5] at this
   exact this
  ·have hc:=rM hc
   rw [show j.toNat - 1=(j - 1).toNat from by omega]
   exact hc
 ·have:c=dY (bB (cC js)) l a.toNat b.toNat:=by
   refine g3.done (gI js) (by omega) (by omega) fun p q e1 e2 e3=>g4 p q e1 e2 ?_
   omega
  exact this
def T2o (n:Nat) (A:List Int×Int×Int×Int×List aU) (L:Nat) (c:List Int) (mid e b:Int) (js:List aU):Prop :=
 (mid < e→(e < b→f134.rpre n (c,mid,e,b,js)∧List.length (cH (c,mid,e,b,js))=L∧cH (c,mid,e,b,js)=cH A)∧(¬(e < b)→c=cH A))∧(¬(mid < e)→c=cH A)
def T1o (n:Nat) (A:List Int×Int×Int×Int×List aU) (L:Nat) (c:List Int) (a s mid e b:Int) (js:List aU):Prop :=
 (a < s→(s < mid→f134.rpre n (c,a,s,mid,js)∧List.length (cH (c,a,s,mid,js))=L∧T2o n A L (cH (c,a,s,mid,js)) mid e b js)∧(¬(s < mid)→T2o n A L c mid e b js))∧(¬(a < s)→T2o n A L c mid e b js)
def T0o (n:Nat) (A:List Int×Int×Int×Int×List aU) (L:Nat) (c:List Int) (a s m e mid b:Int) (js:List aU):Prop :=
 (s < m→(m < e→lR (c,s,m,e,js)∧List.length (nR (c,s,m,e,js))=L∧T1o n A L (nR (c,s,m,e,js)) a s mid e b js)∧(¬(m < e)→T1o n A L c a s mid e b js))∧(¬(s < m)→T1o n A L c a s mid e b js)
theorem aHG {n:Nat} {l:List Int} {a m b:Int} {js:List aU} (h:gK (l,a,m,b,js)) (hn:rT (l,a,m,b,js) < n+1) {s e mid:Int} (h1:a≤s) (h2:s≤m) (h3:m≤e) (h4:e≤b) (hmid:mid+m=s+e) (hb:mid < b) (ha:a < mid)
  (F1:s < m→m < e→(cC js) (at_ l (e - 1)) (at_ l s)=true) (F2:a < s→e < b→(cC js) (at_ l e) (at_ l (s - 1))=false):T0o n (l,a,m,b,js) l.length l a s m e mid b js:=by
 obtain ⟨⟨⟨p1,p2,p3,p4,p5⟩,p6,p7⟩,hR⟩:=h
 have hR:InR js l:=hR
 simp only at p1 p2 p3 p4 p5 p6 p7
 have hn:(b - a).toNat < n+1:=hn
 obtain ⟨q1,q2,q3,q4,q5,q6,q7⟩:=tO (gI js) l (a:=a.toNat) (s:=s.toNat) (m:=m.toNat) (e:=e.toNat) (b:=b.toNat) (mid:=mid.toNat) (by omega) (by omega) (by omega) (by omega) (by omega) (by omega) p6 p7
  (fun c1 c2=>by
   have:=F1 (by omega) (by omega)
   rw [eU,eU,show (e - 1).toNat=e.toNat - 1 from by omega] at this
   exact this)
  (fun c1 c2=>by
   have:=F2 (by omega) (by omega)
   rw [eU,eU,show (s - 1).toNat=s.toNat - 1 from by omega] at this
   exact this)
 have hrl:=bI l (a:=s.toNat) (m:=m.toNat) (b:=e.toNat) (by omega) (by omega) (by omega)
 have hR1:InR js (dH l s.toNat m.toNat e.toNat):=hR.rot
 generalize hc1:dH l s.toNat m.toNat e.toNat=c1 at *
 have hl2:(dY (bB (cC js)) c1 a.toNat mid.toNat).length=l.length:=by rw [iZ cJ c1 (by omega) (by omega),hrl]
 have t2:T2o n (l,a,m,b,js) l.length (dY (bB (cC js)) c1 a.toNat mid.toNat) mid e b js:=by
  have stop:e≤mid∨b≤e→dY (bB (cC js)) c1 a.toNat mid.toNat=cH (l,a,m,b,js):=fun hh=>by
   show _=dY (bB (cC js)) l a.toNat b.toNat
   rw [← q7]
   exact (q6 (by omega)).symm
  refine ⟨fun c=>⟨fun c'=>⟨⟨⟨⟨⟨by simp only; omega,by simp only; omega,by simp only; omega,by simp only; omega,by simp only; omega⟩,q4,q5⟩,hR1.seg (by omega) (by omega)⟩,?_⟩,?_,q7⟩,fun c'=>stop (by omega)⟩,fun c=>stop (by omega)⟩
  ·show (b - mid).toNat < n
   omega
  ·exact (oN _ _ (by omega) (by omega)).trans hl2
 have t1:T1o n (l,a,m,b,js) l.length c1 a s mid e b js:=by
  have stop:s≤a∨mid≤s→T2o n (l,a,m,b,js) l.length c1 mid e b js:=fun hh=>by
   have:=q3 (by omega)
   rw [this] at t2
   exact t2
  refine ⟨fun c=>⟨fun c'=>⟨⟨⟨⟨⟨by simp only; omega,by simp only; omega,by simp only; omega,by simp only; omega,by simp only; omega⟩,q1,q2⟩,hR1⟩,?_⟩,?_,t2⟩,fun c'=>stop (by omega)⟩,fun c=>stop (by omega)⟩
  ·show (mid - a).toNat < n
   omega
  ·exact (oN _ _ (by omega) (by omega)).trans hrl
 have stop:m≤s∨e≤m→T1o n (l,a,m,b,js) l.length l a s mid e b js:=fun hh=>by
  have:=rX l (s:=s.toNat) (m:=m.toNat) (e:=e.toNat) (by omega) (by omega) (by omega) (by omega)
  rw [hc1] at this
  rw [this] at t1
  exact t1
 refine ⟨fun c=>⟨fun c'=>⟨⟨by simp only; omega,by simp only; omega,by simp only; omega,by simp only; omega,by simp only; omega⟩,?_,?_⟩,fun c'=>stop (by omega)⟩,fun c=>stop (by omega)⟩
 ·exact bI l (by simp only; omega) (by simp only; omega) (by simp only; omega)
 ·show T1o n _ _ (dH l s.toNat m.toNat e.toNat) a s mid e b js
  rw [hc1]
  exact t1
theorem f134.ok (a:List Int×Int×Int×Int×List aU) (h:gK a) (n:Nat) (hn:rT a < n+1):f134.vc a n:=by
 obtain ⟨l,a,m,b,js⟩:=a
 have h0:=h
 obtain ⟨⟨⟨p1,p2,p3,p4,p5⟩,p6,p7⟩,hR⟩:=h
 have hR:InR js l:=hR
 simp only at p1 p2 p3 p4 p5 p6 p7
 have sX:=(eT (lt:=(cC js)) (by omega)).2 p6
 have sY:=(eT (lt:=(cC js)) (by omega)).2 p7
 refine ⟨by first | omega | (simp only; omega),by first | omega | (simp only; omega),fun hc=>?_,fun hc=>⟨by first | omega | (simp only; omega),by first | omega | (simp only; omega),fun hc2=>?_,fun hc2=>?_⟩⟩
 ·-- one element on the left
  simp only at hc ⊢
  refine ⟨fun y=>m≤y.1∧y.1≤y.2.1∧y.2.1≤b∧y.2.2=l∧(m < y.1→(cC js) (at_ l (y.1 - 1)) (at_ l a)=true)∧(y.2.1 < b→(cC js) (at_ l y.2.1) (at_ l a)=false),fun y=>(y.2.1 - y.1).toNat,⟨by first | omega | (simp only; omega),by first | omega | (simp only; omega),by first | omega | (simp only; omega),rfl,fun h=>by simp only at h; omega,fun h=>by simp only at h; omega⟩,fun y hy=>?_⟩
  obtain ⟨i,j,c⟩:=y
  obtain ⟨g1,g2,g3,g4,g5,g6⟩:=hy
  simp only at g1 g2 g3 g4 g5 g6 ⊢
  subst g4
  refine ⟨fun hij=>⟨by omega,by omega,by omega,by omega,by omega,by omega,by omega,by omega,by omega,by omega,⟨hR.at (by omega) (by omega),hR.at (by omega) (by omega)⟩,fun ht=>⟨by omega,by omega,⟨by omega,by omega,by omega,rfl,fun _=>?_,g6⟩,by omega⟩,fun ht=>⟨⟨by omega,by omega,by omega,rfl,g5,fun _=>rM ht⟩,by omega⟩⟩,fun hij=>?_⟩
  ·rw [show (i+j) / 2+1 - 1=(i+j) / 2 from by omega]
   exact rN ht
  ·have hij:i=j:=by omega
   subst hij
   refine ⟨fun y=>y.1=i∧a≤y.2.1∧(y.2.1 < i∨i=m∧y.2.1=a)∧y.2.2=dH c a.toNat (a.toNat+1) (y.2.1.toNat+1),fun y=>(i - y.2.1).toNat,⟨rfl,by first | omega | (simp only; omega),by first | omega | (simp only; omega),(rX c (by first | omega | (simp only; omega)) (by first | omega | (simp only; omega)) (by first | omega | (simp only; omega)) (.inr rfl)).symm⟩,fun y hy=>?_⟩
   obtain ⟨i',k,d⟩:=y
   obtain ⟨e1,e2,e3,e4⟩:=hy
   simp only at e1 e2 e3 e4 ⊢
   subst e1
   have hl:d.length=c.length:=by rw [e4]; exact bI c (by omega) (by omega) (by omega)
   refine ⟨by omega,by omega,fun hk=>⟨by omega,by omega,by omega,by omega,by omega,by omega,by omega,by omega,by omega,by omega,by omega,by omega,by omega,by omega,⟨rfl,by omega,by omega,?_⟩,by omega⟩,fun hk=>?_⟩
   ·have:=aCW c (a:=a.toNat) (k:=k.toNat) (by omega) (by omega)
    rw [← e4] at this
    rw [show (k+1).toNat+1=k.toNat+2 from by omega,← this,show k.toNat+1=(k+1).toNat from by omega]
    rfl
   ·have e5:d=dH c a.toNat m.toNat i'.toNat:=by
     rw [e4]
     congr 1 <;> omega
    obtain ⟨_,_,q3,_,_,_,q7⟩:=tO (gI js) c (a:=a.toNat) (s:=a.toNat) (m:=m.toNat) (e:=i'.toNat) (b:=b.toNat) (mid:=a.toNat+i'.toNat - m.toNat) (by omega) (by omega) (by omega) (by omega) (by omega) (by omega) p6 p7
     (fun c1 c2=>by
      have:=g5 (by omega)
      rw [eU,eU,show (i' - 1).toNat=i'.toNat - 1 from by omega] at this
      exact this) (fun c1=>by omega)
    have q6:Sd (cC js) (seg (dH c a.toNat m.toNat i'.toNat) (a.toNat+i'.toNat - m.toNat) b.toNat):=by
     have hr:=bI c (a:=a.toNat) (m:=m.toNat) (b:=i'.toNat) (by omega) (by omega) (by omega)
     refine (eT (by omega)).1 fun p q e1 e2 e3=>?_
     rw [cL c (by omega) (by omega) (by omega),cL c (by omega) (by omega) (by omega)]
     rw [if_neg (show ¬(a.toNat≤q∧q < i'.toNat) by omega)]
     by_cases hp:p < i'.toNat
     ·rw [if_pos (by omega),if_neg (by omega)]
      have hb:i' < b:=by omega
      have g7:=g6 hb
      rw [eU,eU] at g7
      rw [show p - (i'.toNat - m.toNat)=a.toNat from by omega]
      by_cases hq:q=i'.toNat
      ·subst hq; exact g7
      ·exact (gI js).le g7 (sY i'.toNat q (by omega) (by omega) (by omega))
     ·rw [if_neg (by omega)]
      exact sY p q (by omega) e2 e3
    show d=dY (bB (cC js)) c a.toNat b.toNat
    rw [e5,← q7,q3 (.inl rfl)]
    unfold dY
    rw [oZ (gI js) q6]
    exact oF _ (by omega)
 ·-- one element on the right
  simp only at hc hc2 ⊢
  refine ⟨fun y=>a≤y.1∧y.1≤y.2.1∧y.2.1≤m∧y.2.2=l∧(a < y.1→(cC js) (at_ l m) (at_ l (y.1 - 1))=false)∧(y.2.1 < m→(cC js) (at_ l m) (at_ l y.2.1)=true),fun y=>(y.2.1 - y.1).toNat,⟨by first | omega | (simp only; omega),by first | omega | (simp only; omega),by first | omega | (simp only; omega),rfl,fun h=>by simp only at h; omega,fun h=>by simp only at h; omega⟩,fun y hy=>?_⟩
  obtain ⟨i,j,c⟩:=y
  obtain ⟨g1,g2,g3,g4,g5,g6⟩:=hy
  simp only at g1 g2 g3 g4 g5 g6 ⊢
  subst g4
  refine ⟨fun hij=>⟨by omega,by omega,by omega,by omega,by omega,by omega,by omega,by omega,by omega,by omega,⟨hR.at (by omega) (by omega),hR.at (by omega) (by omega)⟩,fun ht=>⟨by omega,by omega,⟨by omega,by omega,by omega,rfl,fun _=>?_,g6⟩,by omega⟩,fun ht=>⟨⟨by omega,by omega,by omega,rfl,g5,fun _=>rN (Classical.not_not.1 ht)⟩,by omega⟩⟩,fun hij=>?_⟩
  ·rw [show (i+j) / 2+1 - 1=(i+j) / 2 from by omega]
   exact rM ht
  ·have hij:i=j:=by omega
   subst hij
   refine ⟨fun y=>y.1=i∧i≤y.2.1∧y.2.1≤m∧y.2.2=dH c y.2.1.toNat m.toNat (m.toNat+1),fun y=>y.2.1.toNat,⟨rfl,by first | omega | (simp only; omega),by first | omega | (simp only; omega),(rX c (by first | omega | (simp only; omega)) (by first | omega | (simp only; omega)) (by first | omega | (simp only; omega)) (.inl rfl)).symm⟩,fun y hy=>?_⟩
   obtain ⟨i',k,d⟩:=y
   obtain ⟨e1,e2,e3,e4⟩:=hy
   simp only at e1 e2 e3 e4 ⊢
   subst e1
   have hl:d.length=c.length:=by rw [e4]; exact bI c (by omega) (by omega) (by omega)
   refine ⟨fun hk=>⟨by omega,by omega,by omega,by omega,by omega,by omega,by omega,by omega,by omega,by omega,by omega,by omega,by omega,by omega,⟨rfl,by omega,by omega,?_⟩,by omega⟩,fun hk=>?_⟩
   ·have:=aDK c (k:=(k - 1).toNat) (m:=m.toNat) (by omega) (by omega)
    rw [show (k - 1).toNat+1=k.toNat from by omega,← e4] at this
    rw [← this]
    rfl
   ·have hk:k=i':=by omega
    subst hk
    have e5:d=dH c k.toNat m.toNat b.toNat:=by
     rw [e4]
     congr 1
     omega
    have hmid:a.toNat≤k.toNat:=by omega
    obtain ⟨_,_,_,_,_,q6,q7⟩:=tO (gI js) c (a:=a.toNat) (s:=k.toNat) (m:=m.toNat) (e:=b.toNat) (b:=b.toNat) (mid:=k.toNat+1) (by omega) (by omega) (by omega) (by omega) (by omega) (by omega) p6 p7
     (fun c1 c2=>by
      have:=g6 (by omega)
      rw [eU,eU] at this
      rw [show b.toNat - 1=m.toNat from by omega]
      exact this) (fun c1 c2=>by omega)
    have q3:Sd (cC js) (seg (dH c k.toNat m.toNat b.toNat) a.toNat (k.toNat+1)):=by
     have hr:=bI c (a:=k.toNat) (m:=m.toNat) (b:=b.toNat) (by omega) (by omega) (by omega)
     refine (eT (by omega)).1 fun p q e1 e2 e3=>?_
     rw [cL c (by omega) (by omega) (by omega),cL c (by omega) (by omega) (by omega)]
     rw [if_neg (show ¬(k.toNat≤p∧p < b.toNat) by omega)]
     by_cases hq:q=k.toNat
     ·rw [if_pos (by omega),if_pos (by omega),show m.toNat+(q - k.toNat)=m.toNat from by omega]
      have g7:=g5 (by omega)
      rw [eU,eU] at g7
      by_cases hp:p=(k - 1).toNat
      ·subst hp; exact g7
      ·exact (gI js).le (sX p (k - 1).toNat e1 (by omega) (by omega)) g7
     ·rw [if_neg (by omega)]
      exact sX p q e1 e2 (by omega)
    show d=dY (bB (cC js)) c a.toNat b.toNat
    rw [e5,← q7,q6 (.inr rfl)]
    unfold dY
    rw [oZ (gI js) q3]
    exact oF _ (by omega)
 ·-- a cut
  simp only at hc hc2 ⊢
  have hA:a < (a+b) / 2:=by omega
  have hB:(a+b) / 2 < b:=by omega
  have go:∀ (s0 r0:Int),a≤s0→s0≤r0→r0≤m→r0≤(a+b) / 2→(a+b) / 2+m - b≤s0→(s0=a∨s0=(a+b) / 2+m - b)→(r0=m∨r0=(a+b) / 2)→∀ s:Int,s0≤s→s≤r0→(s0 < s→(cC js) (at_ l ((a+b) / 2+m - s)) (at_ l (s - 1))=false)→(s < r0→(cC js) (at_ l ((a+b) / 2+m - s - 1)) (at_ l s)=true) →
    T0o n (l,a,m,b,js) l.length l a s m ((a+b) / 2+m - s) ((a+b) / 2) b js:=by
   intro s0 r0 z1 z2 z3 z4 z5 z6 z7 s z8 z9 z10 z11
   refine aHG h0 hn (by omega) (by omega) (by omega) (by omega) (by omega) hB hA (fun c1 c2=>?_) (fun c1 c2=>?_)
   ·exact z11 (by omega)
   ·exact z10 (by omega)
  refine ⟨by omega,by omega,by omega,by omega,by omega,by omega,by omega,by omega,fun y=>y.1=(a+b) / 2∧y.2.1=(a+b) / 2+m∧y.2.2.2.2=l∧a≤y.2.2.1∧y.2.2.1≤y.2.2.2.1∧y.2.2.2.1≤m∧y.2.2.2.1≤(a+b) / 2∧(a+b) / 2+m - b≤y.2.2.1∧(y.2.2.1=a∨y.2.2.1=(a+b) / 2+m - b)∧(y.2.2.2.1=m∨y.2.2.2.1=(a+b) / 2),
   ⟨fun hm=>⟨by omega,by omega,rfl,rfl,rfl,by simp only; omega,by simp only; omega,by simp only; omega,by simp only; omega,by simp only; omega,.inr rfl,.inr rfl⟩,fun hm=>⟨rfl,rfl,rfl,by simp only; omega,by simp only; omega,by simp only; omega,by simp only; omega,by simp only; omega,.inl rfl,.inl rfl⟩⟩,fun y hy=>?_⟩
  obtain ⟨md,nn,s0,r0,c⟩:=y
  obtain ⟨u1,u2,u3,z1,z2,z3,z4,z5,z6,z7⟩:=hy
  simp only at u1 u2 u3 z1 z2 z3 z4 z5 z6 z7 ⊢
  subst u1; subst u2; subst u3
  refine ⟨by omega,by omega,fun y=>y.1=(a+b) / 2∧y.2.1=(a+b) / 2+m∧y.2.2.2.2.1=(a+b) / 2+m - 1∧y.2.2.2.2.2=c∧s0≤y.2.2.1∧y.2.2.1≤y.2.2.2.1∧y.2.2.2.1≤r0∧(s0 < y.2.2.1→(cC js) (at_ c ((a+b) / 2+m - y.2.2.1)) (at_ c (y.2.2.1 - 1))=false)∧(y.2.2.2.1 < r0→(cC js) (at_ c ((a+b) / 2+m - y.2.2.2.1 - 1)) (at_ c y.2.2.2.1)=true),
   fun y=>(y.2.2.2.1 - y.2.2.1).toNat,⟨rfl,rfl,rfl,rfl,by first | omega | (simp only; omega),by first | omega | (simp only; omega),by first | omega | (simp only; omega),fun h=>by simp only at h; omega,fun h=>by simp only at h; omega⟩,fun y hy=>?_⟩
  obtain ⟨md,nn,s,r,p,d⟩:=y
  obtain ⟨g1,g2,g3,g4,g5,g6,g7,g8,g9⟩:=hy
  simp only at g1 g2 g3 g4 g5 g6 g7 g8 g9 ⊢
  subst g1; subst g2; subst g3; subst g4
  refine ⟨fun hsr=>⟨by omega,by omega,by omega,by omega,by omega,by omega,by omega,by omega,by omega,by omega,by omega,by omega,⟨hR.at (by omega) (by omega),hR.at (by omega) (by omega)⟩,fun ht=>⟨by omega,by omega,⟨rfl,rfl,rfl,rfl,by omega,by omega,by omega,fun _=>?_,g9⟩,by omega⟩,fun ht=>⟨⟨rfl,rfl,rfl,rfl,by omega,by omega,by omega,g8,fun _=>?_⟩,by omega⟩⟩,fun hsr=>⟨by omega,by omega,?_⟩⟩
  ·have:=rM ht
   rw [show (s+r) / 2+1 - 1=(s+r) / 2 from by omega,show (a+b) / 2+m - ((s+r) / 2+1)=(a+b) / 2+m - 1 - (s+r) / 2 from by omega]
   exact this
  ·have:=rN (Classical.not_not.1 ht)
   rw [show (a+b) / 2+m - (s+r) / 2 - 1=(a+b) / 2+m - 1 - (s+r) / 2 from by omega]
   exact this
  ·have hsr:s=r:=by omega
   subst hsr
   have h:=go s0 r0 z1 z2 z3 z4 z5 z6 z7 s g5 g7 g8 g9
   refine ⟨fun y=>y.1=(a+b) / 2∧y.2.1=s∧y.2.2.1=(a+b) / 2+m - s∧y.2.2.2.length=d.length∧T1o n (d,a,m,b,js) d.length y.2.2.2 a s ((a+b) / 2) ((a+b) / 2+m - s) b js,
    ⟨fun c1=>⟨fun c2=>⟨((h.1 c1).1 c2).1,((h.1 c1).1 c2).2.1,rfl,rfl,rfl,((h.1 c1).1 c2).2.1,((h.1 c1).1 c2).2.2⟩,fun c2=>⟨rfl,rfl,rfl,rfl,(h.1 c1).2 c2⟩⟩,fun c1=>⟨rfl,rfl,rfl,rfl,h.2 c1⟩⟩,fun y hy=>?_⟩
   obtain ⟨md,s',e',d1⟩:=y
   obtain ⟨u1,u2,u3,hl,h⟩:=hy
   simp only at u1 u2 u3 hl h ⊢
   subst u1; subst u2; subst u3
   refine ⟨fun y=>y.1=(a+b) / 2∧y.2.1=(a+b) / 2+m - s'∧y.2.2.length=d.length∧T2o n (d,a,m,b,js) d.length y.2.2 ((a+b) / 2) ((a+b) / 2+m - s') b js,
    ⟨fun c1=>⟨fun c2=>⟨((h.1 c1).1 c2).1,((h.1 c1).1 c2).2.1.trans hl.symm,rfl,rfl,((h.1 c1).1 c2).2.1,((h.1 c1).1 c2).2.2⟩,fun c2=>⟨rfl,rfl,hl,(h.1 c1).2 c2⟩⟩,fun c1=>⟨rfl,rfl,hl,h.2 c1⟩⟩,fun y hy=>?_⟩
   obtain ⟨md,e',d2⟩:=y
   obtain ⟨u1,u2,hl2,h⟩:=hy
   simp only at u1 u2 hl2 h ⊢
   subst u1; subst u2
   exact ⟨fun c1=>⟨fun c2=>⟨((h.1 c1).1 c2).1,((h.1 c1).1 c2).2.1.trans hl2.symm,((h.1 c1).1 c2).2.2⟩,(h.1 c1).2⟩,h.2⟩
def BlksO (js:List aU) (cur:List Int) (bs n:Nat):Prop:=∀ k,SdI (cC js) cur (k * bs) (min (k * bs+bs) n)
theorem BlksO.double {js:List aU} {cur:List Int} {bs n t:Nat} (hbs:0 < bs) (hend:n < t * (2 * bs)+2 * bs) (lo:∀ k,k * (2 * bs)+2 * bs≤t * (2 * bs)→SdI (cC js) cur (k * (2 * bs)) (k * (2 * bs)+2 * bs)) (last:SdI (cC js) cur (t * (2 * bs)) n):BlksO js cur (2 * bs) n:=by
 intro k p q h1 h2 h3
 rcases Nat.lt_trichotomy k t with hk | hk | hk
 ·have:=Nat.mul_le_mul_right (2 * bs) (show k+1≤t from hk)
  rw [Nat.add_mul,Nat.one_mul] at this
  exact lo k this p q h1 h2 (by omega)
 ·subst hk
  exact last p q h1 h2 (by omega)
 ·have:=Nat.mul_le_mul_right (2 * bs) (show t+1≤k from hk)
  rw [Nat.add_mul,Nat.one_mul] at this
  omega
theorem f128.ok (a:List Int×Int×List aU) (h:jB a):f128.vc a:=by
 obtain ⟨l,n,js⟩:=a
 obtain ⟨⟨hn,h5⟩,hR⟩:=h
 have hR:InR js l:=hR
 simp only at hn h5
 subst hn
 have insP:∀ (c:List Int) (a b:Int),c.length=l.length→0≤a→a≤b→b≤l.length→FE (cC js) c l→iA (c,a,b,js):=fun c a b e1 e2 e3 e4 e5=>⟨⟨e2,e3,by simp only; omega,by simp only; omega⟩,hR.fe e5⟩
 -- pieces of twenty
 refine ⟨fun y=>0≤y.1∧y.2.1=y.1+20∧y.1≤l.length∧y.2.2.length=l.length∧FE (cC js) y.2.2 l∧(∃ t:Nat,y.1=20 * t)∧∀ k:Nat,20 * k+20≤y.1.toNat→SdI (cC js) y.2.2 (20 * k) (20 * k+20),fun y=>(l.length - y.1:Int).toNat,
  ⟨by simp only; omega,rfl,by simp only; omega,rfl,FE.refl _,⟨0,rfl⟩,fun k hk=>by simp at hk⟩,fun y hy=>?_⟩
 obtain ⟨a,b,c⟩:=y
 obtain ⟨g1,g2,g3,g4,g5,⟨t,g6⟩,g7⟩:=hy
 simp only at g1 g2 g3 g4 g5 g6 g7 ⊢
 subst g2
 refine ⟨fun hb=>?_,fun hb=>?_⟩
 ·obtain ⟨s1,s2⟩:=jP (gI js) c (a:=a.toNat) (b:=(a+20).toNat) (by omega) (by omega)
  refine ⟨insP _ _ _ g4 g1 (by omega) hb g5,yV _ (by omega) (by omega),by omega,by omega,⟨by omega,by trivial,hb,s1.len.trans g4,s1.fe.trans g5,⟨t+1,by omega⟩,fun k hk=>?_⟩,by omega⟩
  by_cases he:20 * k+20≤a.toNat
  ·exact s1.sd (g7 k he) (.inl he)
  ·have:20 * k=a.toNat:=by omega
   rw [this,show a.toNat+20=(a+20).toNat from by omega]
   exact s2
 ·obtain ⟨s1,s2⟩:=jP (gI js) c (a:=a.toNat) (b:=(l.length:Int).toNat) (by omega) (by omega)
  refine ⟨insP _ _ _ g4 g1 g3 (Int.le_refl _) g5,yV _ (by omega) (by omega),?_⟩
  refine ⟨fun y=>20≤y.1∧y.2.length=l.length∧FE (cC js) y.2 l∧BlksO js y.2 y.1.toNat l.length,fun y=>(l.length - y.1:Int).toNat,⟨by simp only; omega,s1.len.trans g4,s1.fe.trans g5,fun k=>?_⟩,fun y hy=>?_⟩
  ·simp only
   rw [show (20:Int).toNat=20 from rfl]
   by_cases he:20 * k+20≤a.toNat
   ·rw [Nat.mul_comm,Nat.min_eq_left (by omega)]
    exact s1.sd (g7 k he) (.inl he)
   ·intro p q e1 e2 e3
    exact s2 p q (by omega) e2 (by omega)
  ·obtain ⟨bs,d⟩:=y
   obtain ⟨k1,k2,k3,k4⟩:=hy
   simp only at k1 k2 k3 k4 ⊢
   obtain ⟨z,rfl⟩:=Int.eq_ofNat_of_zero_le (show 0≤bs by omega)
   simp only [Int.toNat_natCast] at k4
   refine ⟨fun hz=>?_,fun hz=>?_⟩
   ·refine ⟨by omega,by omega,?_⟩
    refine ⟨fun y=>y.1=z∧y.2.2.1=y.2.1+2 * z∧0≤y.2.1∧y.2.1≤l.length∧y.2.2.2.length=l.length∧FE (cC js) y.2.2.2 l∧∃ t:Nat,y.2.1=((t * (2 * z):Nat):Int)∧(∀ k:Nat,k * (2 * z)+2 * z≤t * (2 * z)→SdI (cC js) y.2.2.2 (k * (2 * z)) (k * (2 * z)+2 * z))∧∀ k:Nat,t * (2 * z)≤k * z→SdI (cC js) y.2.2.2 (k * z) (min (k * z+z) l.length),
     fun y=>(l.length - y.2.1:Int).toNat,⟨rfl,by simp only; omega,by simp only; omega,by simp only; omega,k2,k3,0,by simp,fun k hk=>by simp at hk; omega,fun k _=>k4 k⟩,fun y hy=>?_⟩
    obtain ⟨z',a,b,e⟩:=y
    obtain ⟨m1,m2,m3,m4,m5,m6,t,m7,m8,m9⟩:=hy
    simp only at m1 m2 m3 m4 m5 m6 m7 m8 m9 ⊢
    subst m1; subst m2
    have hb1:(2 * t) * z=t * (2 * z):=by rw [Nat.mul_comm 2 t,Nat.mul_assoc]
    have hb2:(2 * t+1) * z=t * (2 * z)+z:=by rw [Nat.add_mul,hb1,Nat.one_mul]
    have q1:=m9 (2 * t) (by omega)
    have q2:=m9 (2 * t+1) (by omega)
    rw [hb1] at q1
    rw [hb2] at q2
    have q0:(t+1) * (2 * z)=t * (2 * z)+2 * z:=by rw [Nat.add_mul,Nat.one_mul]
    generalize hT:t * (2 * z)=T at *
    subst m7
    refine ⟨fun hb=>?_,fun hb=>?_⟩
    ·obtain ⟨s1,s2⟩:=jP (gI js) e (a:=(T:Int).toNat) (b:=((T:Int)+2 * z).toNat) (by omega) (by omega)
     simp only [Int.toNat_natCast] at s1 s2
     refine ⟨by omega,by omega,⟨⟨⟨by simp only; omega,by simp only; omega,by simp only; omega,by simp only; omega,by simp only; omega⟩,?_,?_⟩,hR.fe m6⟩,oN _ _ (by omega) (by omega),by omega,by omega,by omega,by omega,⟨rfl,rfl,by omega,by omega,s1.len.trans m5,s1.fe.trans m6,t+1,by rw [q0]; omega,fun k hk=>?_,fun k hk=>?_⟩,by omega⟩
     ·refine (eT (by simp only; omega)).1 fun p q e1 e2 e3=>?_
      simp only at e1 e3
      exact q1 p q (by omega) e2 (by omega)
     ·refine (eT (by simp only; omega)).1 fun p q e1 e2 e3=>?_
      simp only at e1 e3
      exact q2 p q (by omega) e2 (by omega)
     ·by_cases he:k * (2 * z)+2 * z≤T
      ·exact s1.sd (m8 k he) (.inl he)
      ·have hkt:k=t:=by
        rw [q0] at hk
        have e1:k≤t:=Nat.le_of_mul_le_mul_right (c:=2 * z) (by omega) (by omega)
        have e2:t < k+1:=Nat.lt_of_mul_lt_mul_right (a:=2 * z) (by rw [Nat.add_mul,Nat.one_mul]; omega)
        omega
       rw [hkt,hT,show T+2 * z=((T:Int)+2 * z).toNat from by omega]
       exact s2
     ·rw [q0] at hk
      exact s1.sd (m9 k (by omega)) (.inr (by omega))
    ·have pieces:∀ e':List Int,Same (cC js) e e' T l.length→SdI (cC js) e' T l.length→BlksO js e' (2 * z) l.length:=fun e' s1 s2 =>
      BlksO.double (t:=t) (by omega) (by omega) (fun k hk=>s1.sd (m8 k (by omega)) (.inl (by omega))) (by rw [hT]; exact s2)
     refine ⟨by omega,by omega,fun hm=>?_,fun hm=>?_⟩
     ·obtain ⟨s1,s2⟩:=jP (gI js) e (a:=(T:Int).toNat) (b:=(l.length:Int).toNat) (by omega) (by omega)
      simp only [Int.toNat_natCast] at s1 s2
      refine ⟨⟨⟨⟨by simp only; omega,by simp only; omega,by simp only; omega,by simp only; omega,by simp only; omega⟩,?_,?_⟩,hR.fe m6⟩,oN _ _ (by omega) (by omega),by omega,by omega,⟨by omega,s1.len.trans m5,s1.fe.trans m6,?_⟩,by omega⟩
      ·refine (eT (by simp only; omega)).1 fun p q e1 e2 e3=>?_
       simp only at e1 e3
       exact q1 p q (by omega) e2 (by omega)
      ·refine (eT (by simp only; omega)).1 fun p q e1 e2 e3=>?_
       simp only at e1 e3
       exact q2 p q (by omega) e2 (by omega)
      ·rw [show ((z:Int) * 2).toNat=2 * z from by omega]
       exact pieces _ s1 s2
     ·refine ⟨by omega,by omega,⟨by omega,m5,m6,?_⟩,by omega⟩
      rw [show ((z:Int) * 2).toNat=2 * z from by omega]
      refine pieces e (Same.refl _ _ _) fun p q e1 e2 e3=>q1 p q e1 e2 (by omega)
   ·show d=bB (cC js) l
    refine SdI.all (gI js) k2 k3 fun p q e1 e2 e3=>?_
    exact k4 0 p q (by omega) e2 (by simp; omega)
theorem f114.ok (a:List Int×List aU) (h:nB a):f114.vc a:=⟨⟨⟨rfl,h.1⟩,h.2⟩,cJ _,rfl⟩
end Go.Abs
