/- Functions, and what the code asks of them: PRank. -/
import Derived.KernelRfl
import Derived.Test.YtjlehbennimkgaaRankOrderP3
import Derived.Test.YtjlehbennimkgaaRankOrderP4
import Derived.Test.YtjlehbennimkgaaRankOrderP5
import Derived.Test.YtjlehbennimkgaaRankOrderP8
import Derived.Test.YtjlehbennimkgaaRankOrderP9
import Derived.Test.YtjlehbennimkgaaRankOrderP11
import Derived.Test.YtjlehbennimkgaaRankOrderP12
import Derived.Test.YtjlehbennimkgaaRankOrderP13
import Derived.Test.YtjlehbennimkgaaRankOrderP14
import Derived.Test.YtjlehbennimkgaaRankOrderP15
import Derived.Test.YtjlehbennimkgaaRankOrderP16
import Derived.Test.YtjlehbennimkgaaRankOrderP17
import Derived.Test.YtjlehbennimkgaaRankOrderP18
set_option linter.unusedVariables false
set_option linter.unusedSimpArgs false
/- Scores; the machines in the order of these. -/
namespace Go.Abs
open Go

def jA (x w:Int):Int:=if 0 < w then 1000 * x / w else 0
def dI (c:dR×dR):Int:=if ¬bE c.1=true then 0 else if ¬bE c.2=true then 0 else jA c.1.1 c.2.1+jA c.1.2.1 c.2.2.1+jA c.1.2.2 c.2.2.2
def cY (a:cM×List dT×cE):Int×Bool:=if ¬f9 a=0 then (0,false) else (dI ((lQ ((d7 (a.1,a.2.1)).1,a.2.2.2.2.2.1)).1,a.1.1.2.1),true)
def cI (a:List cM×List dT×cE):Prop:=L20 a.1∧∀ m∈a.1,gA (m,a.2)
def dV (a:List cM×List dT×cE):List TSc:=(a.1.filter fun m=>(cY (m,a.2)).2).map fun m=>(m.1.1,(cY (m,a.2)).1)
def fG (a:List cM×List dT×cE):List TSc:=lZ aF (dV a)
def iJ (a:List cM×List dT×cE):ByteArray×Bool:=if (fG a).length=0 then (ByteArray.empty,false) else ((at_ (fG a) 0).1,true)
def bR (a:List cM×List dT×cE):List ByteArray:=(fG a).map Prod.fst
def f0 (a:List cM×List dT×cE):Bool:=decide (a.1.length≤40∧a.2.1.length≤100∧a.2.2.2.2.2.2.1.length≤20)&&(List.range a.1.length).all fun i=>decide ((a.1.getD i default).1.2.2.length≤20∧(a.1.getD i default).1.1.size≤1000)
def kI (a:List cM×List dT×cE):Prop:=L20 a.1∧L20 a.2.1∧L20 a.2.2.2.2.2.2.1∧∀ m∈a.1,m.1.1.size≤1073741824∧L20 m.1.2.2
end Go.Abs

-- interregnum/res.Share
namespace Go.Abs
open Go
def f222.ent (K:(aD×aD)→Prop) (t:aD×aD):Prop:=∃ c:aD×aD,(t.1.1=c.1.1)∧(t.1.2.1=c.1.2.1)∧(t.1.2.2=c.1.2.2)∧(t.2.1=c.2.1)∧(t.2.2.1=c.2.2.1)∧(t.2.2.2=c.2.2.2)∧K c
theorem f222.ei {K:(aD×aD)→Prop} {t:aD×aD} (h:K t):f222.ent K t:=⟨t,⟨rfl,⟨rfl,⟨rfl,⟨rfl,⟨rfl,⟨rfl,h⟩⟩⟩⟩⟩⟩⟩
def f222.args (a:aD×aD):List D:=[.agg [.int .i64 a.1.1,.int .i64 a.1.2.1,.int .i64 a.1.2.2],.agg [.int .i64 a.2.1,.int .i64 a.2.2.1,.int .i64 a.2.2.2]]
def f222.blks (a:aD×aD):List (List D):=[]
def f222.res (a:aD×aD):List D:=[.int .i64 (dI a)]
def f222.blks' (a:aD×aD):List (List D):=[]
def f222.C:aN:=FnC f222.args f222.blks (fun _=>True) f222.res f222.blks'
end Go.Abs

/- interregnum/res.Share -/
namespace Go.Abs
open Go
set_option linter.unusedVariables false
def f222.kills (a:aD×aD):List Hint:=[.unroll 4 [0,1,3,4,6,7,8,9,10,11,12,13,14,15,18,19,20,21,22,23,24,25,26,27,28,29,30,31,32] [0] []]
def f222.cuts (a:aD×aD):List (Nat×Σ β:Type,β→Tm):=[]
def f222.af (a:aD×aD):AF:=AF.mk (.seq (.region [oT 2 0 .box [0],
 oT 3 1 .box [1],
 ⟨(some 4),2,.move,[.c (.int .i64 (0))],none⟩])
 (.seq (.seq (.region [oT 8 3 (.load true 3) [2],
 oT 9 4 (.call false 49) [8],
 oT 10 8 (.un .not) [9],
 oT 11 9 .move [10],
 oG 12 10 (.load true 3) [3] 11 false,
 oG 13 11 (.call false 49) [12] 11 false,
 oG 14 15 (.un .not) [13] 11 false,
 ⟨(some 15),16,.pick,[.t 11,.c (.bool true),.t 14],none⟩])
 (.cond (.t 15) (.seq (.region [⟨(some 4),17,.move,[.c (.int .i64 (0))],none⟩])
 (.ret)) (.skip)))
 (.seq (.region [⟨(some 5),18,.move,[.c (.int .i64 (0))],none⟩])
 (.seq (.seq (.region [oT 16 19 (.load true 3) [3],
 ⟨(some 17),20,.move,[.c (.int .i64 (0))],none⟩])
 (.block 0 (.loop 4 [0,1,3,4,6,7,8,9,10,11,12,13,14,15,18,19,20,21,22,23,24,25,26,27,28,29,30,31,32] [0] [] 21 39 (.seq (.region [⟨(some 18),21,(.bin .lss),[.t 17,.c (.int .i64 (3))],none⟩])
 (.seq (.cond (.t 18) (.skip) (.exit 0))
 (.seq (.block 1 (.seq (.region [oT 19 22 .move [17],
 oT 20 23 (.indexArr false 1 3) [16,17],
 oT 6 24 .move [19],
 oT 7 25 .move [20]])
 (.seq (.region [oT 21 26 .move [7],
 ⟨(some 22),27,(.bin .gtr),[.t 21,.c (.int .i64 (0))],none⟩])
 (.cond (.t 22) (.region [oT 23 28 .move [5],
 oT 24 29 .move [6],
 oT 25 30 (.indexAddr 1 (some 3)) [2,24],
 oT 26 31 (.load false 1) [25],
 ⟨(some 27),32,(.bin .mul),[.c (.int .i64 (1000)),.t 26],none⟩,
 oT 28 33 .move [7],
 oT 29 34 (.bin .quo) [27,28],
 oT 30 35 (.bin .add) [23,29],
 oT 5 36 .move [30]]) (.skip)))))
 (.region [⟨(some 31),37,(.bin .add),[.t 17,.c (.int .i64 (1))],none⟩,
 oT 17 38 .move [31]])))))))
 (.seq (.region [oT 32 39 .move [5],
 oT 4 40 .move [32]])
 (.ret))))))
 [.tmp 4] 0 31
def f222.env:Env:=[(49,f49.C)]
def f222.tree (a:aD×aD):Prop:=∃ c1:aD,(a.1.1=c1.1)∧(a.1.2.1=c1.2.1)∧(a.1.2.2=c1.2.2)∧True∧Br (!(bE c1)) (((0:Int)=(dI a))∧True) (∃ c5:aD,(a.2.1=c5.1)∧(a.2.2.1=c5.2.1)∧(a.2.2.2=c5.2.2)∧True∧Br (!(bE c5)) (((0:Int)=(dI a))∧True) (Br (decide ((0:Int) < a.2.1)) (Let (IntKind.i64.wrap ((1000:Int) * a.1.1)) (fun v11:Int=>Br (!(a.2.1==0)) (Let (IntKind.i64.wrap (Int.tdiv v11 a.2.1)) (fun v12:Int=>Let (IntKind.i64.wrap ((0:Int)+v12)) (fun v13:Int=>Br (decide ((0:Int) < a.2.2.1)) (Let (IntKind.i64.wrap ((1000:Int) * a.1.2.1)) (fun v16:Int=>Br (!(a.2.2.1==0)) (Let (IntKind.i64.wrap (Int.tdiv v16 a.2.2.1)) (fun v17:Int=>Let (IntKind.i64.wrap (v13+v17)) (fun v18:Int=>Br (decide ((0:Int) < a.2.2.2)) (Let (IntKind.i64.wrap ((1000:Int) * a.1.2.2)) (fun v21:Int=>Br (!(a.2.2.2==0)) (Let (IntKind.i64.wrap (Int.tdiv v21 a.2.2.2)) (fun v22:Int=>Let (IntKind.i64.wrap (v18+v22)) (fun v23:Int=>(v23=(dI a))∧True))) False)) ((v18=(dI a))∧True)))) False)) (Br (decide ((0:Int) < a.2.2.2)) (Let (IntKind.i64.wrap ((1000:Int) * a.1.2.2)) (fun v42:Int=>Br (!(a.2.2.2==0)) (Let (IntKind.i64.wrap (Int.tdiv v42 a.2.2.2)) (fun v43:Int=>Let (IntKind.i64.wrap (v13+v43)) (fun v44:Int=>(v44=(dI a))∧True))) False)) ((v13=(dI a))∧True))))) False)) (Br (decide ((0:Int) < a.2.2.1)) (Let (IntKind.i64.wrap ((1000:Int) * a.1.2.1)) (fun v65:Int=>Br (!(a.2.2.1==0)) (Let (IntKind.i64.wrap (Int.tdiv v65 a.2.2.1)) (fun v66:Int=>Let (IntKind.i64.wrap ((0:Int)+v66)) (fun v67:Int=>Br (decide ((0:Int) < a.2.2.2)) (Let (IntKind.i64.wrap ((1000:Int) * a.1.2.2)) (fun v70:Int=>Br (!(a.2.2.2==0)) (Let (IntKind.i64.wrap (Int.tdiv v70 a.2.2.2)) (fun v71:Int=>Let (IntKind.i64.wrap (v67+v71)) (fun v72:Int=>(v72=(dI a))∧True))) False)) ((v67=(dI a))∧True)))) False)) (Br (decide ((0:Int) < a.2.2.2)) (Let (IntKind.i64.wrap ((1000:Int) * a.1.2.2)) (fun v91:Int=>Br (!(a.2.2.2==0)) (Let (IntKind.i64.wrap (Int.tdiv v91 a.2.2.2)) (fun v92:Int=>Let (IntKind.i64.wrap ((0:Int)+v92)) (fun v93:Int=>(v93=(dI a))∧True))) False)) (((0:Int)=(dI a))∧True)))))
def f222.vc (a:aD×aD):Prop:=((¬((bE (a.1))=true)→((0:Int)=dI a))∧(¬(¬((bE (a.1))=true))→((¬((bE (a.2))=true)→((0:Int)=dI a))∧(¬(¬((bE (a.2))=true))→(((0:Int) < a.2.1→(-9223372036854775808≤((1000:Int) * a.1.1)∧((1000:Int) * a.1.1)≤9223372036854775807∧(0≤((1000:Int) * a.1.1)∧((1000:Int) * a.1.1)≤9223372036854775807∧0 < a.2.1∧(-9223372036854775808≤((0:Int)+(((1000:Int) * a.1.1) / a.2.1))∧((0:Int)+(((1000:Int) * a.1.1) / a.2.1))≤9223372036854775807∧(((0:Int) < a.2.2.1→(-9223372036854775808≤((1000:Int) * a.1.2.1)∧((1000:Int) * a.1.2.1)≤9223372036854775807∧(0≤((1000:Int) * a.1.2.1)∧((1000:Int) * a.1.2.1)≤9223372036854775807∧0 < a.2.2.1∧(-9223372036854775808≤(((0:Int)+(((1000:Int) * a.1.1) / a.2.1))+(((1000:Int) * a.1.2.1) / a.2.2.1))∧(((0:Int)+(((1000:Int) * a.1.1) / a.2.1))+(((1000:Int) * a.1.2.1) / a.2.2.1))≤9223372036854775807∧(((0:Int) < a.2.2.2→(-9223372036854775808≤((1000:Int) * a.1.2.2)∧((1000:Int) * a.1.2.2)≤9223372036854775807∧(0≤((1000:Int) * a.1.2.2)∧((1000:Int) * a.1.2.2)≤9223372036854775807∧0 < a.2.2.2∧(-9223372036854775808≤((((0:Int)+(((1000:Int) * a.1.1) / a.2.1))+(((1000:Int) * a.1.2.1) / a.2.2.1))+(((1000:Int) * a.1.2.2) / a.2.2.2))∧((((0:Int)+(((1000:Int) * a.1.1) / a.2.1))+(((1000:Int) * a.1.2.1) / a.2.2.1))+(((1000:Int) * a.1.2.2) / a.2.2.2))≤9223372036854775807∧(((((0:Int)+(((1000:Int) * a.1.1) / a.2.1))+(((1000:Int) * a.1.2.1) / a.2.2.1))+(((1000:Int) * a.1.2.2) / a.2.2.2))=dI a)))))∧(¬((0:Int) < a.2.2.2)→((((0:Int)+(((1000:Int) * a.1.1) / a.2.1))+(((1000:Int) * a.1.2.1) / a.2.2.1))=dI a)))))))∧(¬((0:Int) < a.2.2.1)→(((0:Int) < a.2.2.2→(-9223372036854775808≤((1000:Int) * a.1.2.2)∧((1000:Int) * a.1.2.2)≤9223372036854775807∧(0≤((1000:Int) * a.1.2.2)∧((1000:Int) * a.1.2.2)≤9223372036854775807∧0 < a.2.2.2∧(-9223372036854775808≤(((0:Int)+(((1000:Int) * a.1.1) / a.2.1))+(((1000:Int) * a.1.2.2) / a.2.2.2))∧(((0:Int)+(((1000:Int) * a.1.1) / a.2.1))+(((1000:Int) * a.1.2.2) / a.2.2.2))≤9223372036854775807∧((((0:Int)+(((1000:Int) * a.1.1) / a.2.1))+(((1000:Int) * a.1.2.2) / a.2.2.2))=dI a)))))∧(¬((0:Int) < a.2.2.2)→(((0:Int)+(((1000:Int) * a.1.1) / a.2.1))=dI a)))))))))∧(¬((0:Int) < a.2.1)→(((0:Int) < a.2.2.1→(-9223372036854775808≤((1000:Int) * a.1.2.1)∧((1000:Int) * a.1.2.1)≤9223372036854775807∧(0≤((1000:Int) * a.1.2.1)∧((1000:Int) * a.1.2.1)≤9223372036854775807∧0 < a.2.2.1∧(-9223372036854775808≤((0:Int)+(((1000:Int) * a.1.2.1) / a.2.2.1))∧((0:Int)+(((1000:Int) * a.1.2.1) / a.2.2.1))≤9223372036854775807∧(((0:Int) < a.2.2.2→(-9223372036854775808≤((1000:Int) * a.1.2.2)∧((1000:Int) * a.1.2.2)≤9223372036854775807∧(0≤((1000:Int) * a.1.2.2)∧((1000:Int) * a.1.2.2)≤9223372036854775807∧0 < a.2.2.2∧(-9223372036854775808≤(((0:Int)+(((1000:Int) * a.1.2.1) / a.2.2.1))+(((1000:Int) * a.1.2.2) / a.2.2.2))∧(((0:Int)+(((1000:Int) * a.1.2.1) / a.2.2.1))+(((1000:Int) * a.1.2.2) / a.2.2.2))≤9223372036854775807∧((((0:Int)+(((1000:Int) * a.1.2.1) / a.2.2.1))+(((1000:Int) * a.1.2.2) / a.2.2.2))=dI a)))))∧(¬((0:Int) < a.2.2.2)→(((0:Int)+(((1000:Int) * a.1.2.1) / a.2.2.1))=dI a)))))))∧(¬((0:Int) < a.2.2.1)→(((0:Int) < a.2.2.2→(-9223372036854775808≤((1000:Int) * a.1.2.2)∧((1000:Int) * a.1.2.2)≤9223372036854775807∧(0≤((1000:Int) * a.1.2.2)∧((1000:Int) * a.1.2.2)≤9223372036854775807∧0 < a.2.2.2∧(-9223372036854775808≤((0:Int)+(((1000:Int) * a.1.2.2) / a.2.2.2))∧((0:Int)+(((1000:Int) * a.1.2.2) / a.2.2.2))≤9223372036854775807∧(((0:Int)+(((1000:Int) * a.1.2.2) / a.2.2.2))=dI a)))))∧(¬((0:Int) < a.2.2.2)→((0:Int)=dI a)))))))))))
set_option maxRecDepth 100000 in
set_option maxHeartbeats 2000000 in
theorem f222.of (a:aD×aD) (h:f222.vc a):f222.tree a:=⟨a.1,⟨rfl,⟨rfl,⟨rfl,⟨trivial,br h (Cnd.not Cnd.b) (fun h2 k111=>⟨k111,trivial⟩) (fun h3 k112=>⟨a.2,⟨rfl,⟨rfl,⟨rfl,⟨trivial,br k112 (Cnd.not Cnd.b) (fun h6 k108=>⟨k108,trivial⟩) (fun h7 k109=>br k109 Cnd.dec (fun h9 k106=>wrapK.i64 k106 (fun h60 h61 k62=>y3 (Cnd.not Cnd.eq) (by have:=k62.2.2.1; omega) (divK.i64 k62.1 k62.2.1 k62.2.2.1 (wrapK.i64 k62.2.2.2 (fun h57 h58 k59=>br k59 Cnd.dec (fun h14 k55=>wrapK.i64 k55 (fun h37 h38 k39=>y3 (Cnd.not Cnd.eq) (by have:=k39.2.2.1; omega) (divK.i64 k39.1 k39.2.1 k39.2.2.1 (wrapK.i64 k39.2.2.2 (fun h34 h35 k36=>br k36 Cnd.dec (fun h19 k32=>wrapK.i64 k32 (fun h28 h29 k30=>y3 (Cnd.not Cnd.eq) (by have:=k30.2.2.1; omega) (divK.i64 k30.1 k30.2.1 k30.2.2.1 (wrapK.i64 k30.2.2.2 (fun h25 h26 k27=>⟨k27,trivial⟩))))) (fun h20 k33=>⟨k33,trivial⟩)))))) (fun h15 k56=>br k56 Cnd.dec (fun h40 k53=>wrapK.i64 k53 (fun h49 h50 k51=>y3 (Cnd.not Cnd.eq) (by have:=k51.2.2.1; omega) (divK.i64 k51.1 k51.2.1 k51.2.2.1 (wrapK.i64 k51.2.2.2 (fun h46 h47 k48=>⟨k48,trivial⟩))))) (fun h41 k54=>⟨k54,trivial⟩))))))) (fun h10 k107=>br k107 Cnd.dec (fun h63 k104=>wrapK.i64 k104 (fun h86 h87 k88=>y3 (Cnd.not Cnd.eq) (by have:=k88.2.2.1; omega) (divK.i64 k88.1 k88.2.1 k88.2.2.1 (wrapK.i64 k88.2.2.2 (fun h83 h84 k85=>br k85 Cnd.dec (fun h68 k81=>wrapK.i64 k81 (fun h77 h78 k79=>y3 (Cnd.not Cnd.eq) (by have:=k79.2.2.1; omega) (divK.i64 k79.1 k79.2.1 k79.2.2.1 (wrapK.i64 k79.2.2.2 (fun h74 h75 k76=>⟨k76,trivial⟩))))) (fun h69 k82=>⟨k82,trivial⟩)))))) (fun h64 k105=>br k105 Cnd.dec (fun h89 k102=>wrapK.i64 k102 (fun h98 h99 k100=>y3 (Cnd.not Cnd.eq) (by have:=k100.2.2.1; omega) (divK.i64 k100.1 k100.2.1 k100.2.2.1 (wrapK.i64 k100.2.2.2 (fun h95 h96 k97=>⟨k97,trivial⟩))))) (fun h90 k103=>⟨k103,trivial⟩))))⟩⟩⟩⟩⟩)⟩⟩⟩⟩⟩
theorem f222.eq (a:aD×aD):(f222.af a).gives f222.env (f222.args a) (f222.blks a) (f222.res a) (f222.blks' a)=f222.tree a:=by kernel_rfl
end Go.Abs

-- interregnum/interregnumref03.Share
namespace Go.Abs
open Go
end Go.Abs

/- interregnum/interregnumref03.Share -/
namespace Go.Abs
open Go
set_option linter.unusedVariables false
end Go.Abs

-- interregnum/rank.Score
namespace Go.Abs
open Go
def f197.ent (K:(aC×(List (aH))×aG)→Prop) (t:aC×(List (aH))×aG):Prop:=∃ c:aC×(List (aH))×aG,(t.1.1.1=c.1.1.1)∧(t.1.1.2.1.1=c.1.1.2.1.1)∧(t.1.1.2.1.2.1=c.1.1.2.1.2.1)∧(t.1.1.2.1.2.2=c.1.1.2.1.2.2)∧SlQ t.1.1.2.2.length c.1.1.2.2.length (gl aI t.1.1.2.2) (gl aI c.1.1.2.2) ((t.1.2.1=c.1.2.1)∧(t.1.2.2=c.1.2.2)∧SlQ t.2.1.length c.2.1.length (gl aT t.2.1) (gl aT c.2.1) ((t.2.2.1=c.2.2.1)∧(t.2.2.2.1=c.2.2.2.1)∧(t.2.2.2.2.1=c.2.2.2.2.1)∧(t.2.2.2.2.2.1.1=c.2.2.2.2.2.1.1)∧(t.2.2.2.2.2.1.2.1=c.2.2.2.2.2.1.2.1)∧(t.2.2.2.2.2.1.2.2=c.2.2.2.2.2.1.2.2)∧SlQ t.2.2.2.2.2.2.1.length c.2.2.2.2.2.2.1.length (gl aI t.2.2.2.2.2.2.1) (gl aI c.2.2.2.2.2.2.1) ((t.2.2.2.2.2.2.2.1=c.2.2.2.2.2.2.2.1)∧(t.2.2.2.2.2.2.2.2.1=c.2.2.2.2.2.2.2.2.1)∧(t.2.2.2.2.2.2.2.2.2=c.2.2.2.2.2.2.2.2.2)∧K c)))
theorem f197.ei {K:(aC×(List (aH))×aG)→Prop} {t:aC×(List (aH))×aG} (h:K t):f197.ent K t:=⟨t,⟨rfl,⟨rfl,⟨rfl,⟨rfl,slQ (Rds.self (enc:=aI)) (⟨rfl,⟨rfl,slQ (Rds.self (enc:=aT)) (⟨rfl,⟨rfl,⟨rfl,⟨rfl,⟨rfl,⟨rfl,slQ (Rds.self (enc:=aI)) (⟨rfl,⟨rfl,⟨rfl,h⟩⟩⟩)⟩⟩⟩⟩⟩⟩)⟩⟩)⟩⟩⟩⟩⟩
def f197.args (a:aC×(List (aH))×aG):List D:=[.agg [.str a.1.1.1,.int .i64 a.1.1.2.1.1,.int .i64 a.1.1.2.1.2.1,.int .i64 a.1.1.2.1.2.2,.slice .ro 2 a.1.1.2.2.length (gl aI a.1.1.2.2),.bool a.1.2.1,.int .i64 a.1.2.2],.slice .ro 13 a.2.1.length (gl aT a.2.1),.agg [.str a.2.2.1,.str a.2.2.2.1,.int .i64 a.2.2.2.2.1,.int .i64 a.2.2.2.2.2.1.1,.int .i64 a.2.2.2.2.2.1.2.1,.int .i64 a.2.2.2.2.2.1.2.2,.slice .ro 2 a.2.2.2.2.2.2.1.length (gl aI a.2.2.2.2.2.2.1),.str a.2.2.2.2.2.2.2.1,.str a.2.2.2.2.2.2.2.2.1,.int .i64 a.2.2.2.2.2.2.2.2.2]]
def f197.blks (a:aC×(List (aH))×aG):List (List D):=[]
def f197.res (a:aC×(List (aH))×aG):List D:=[.int .i64 ((cY a).1),.bool ((cY a).2)]
def f197.blks' (a:aC×(List (aH))×aG):List (List D):=[]
def f197.C:aN:=FnC f197.args f197.blks (fun a=>gA a) f197.res f197.blks'
end Go.Abs

/- interregnum/rank.Score -/
namespace Go.Abs
open Go
set_option linter.unusedVariables false
def f197.kills (a:aC×(List (aH))×aG):List Hint:=[]
def f197.cuts (a:aC×(List (aH))×aG):List (Nat×Σ β:Type,β→Tm):=[]
def f197.af (a:aC×(List (aH))×aG):AF:=AF.mk (.seq (.region [oT 3 0 .box [0],
 oT 5 1 .box [2],
 ⟨(some 6),2,.move,[.c (.int .i64 (0))],none⟩,
 ⟨(some 7),3,.move,[.c (.bool false)],none⟩])
 (.seq (.seq (.region [oT 12 4 (.load true 7) [3],
 oT 13 5 .move [1],
 oT 14 6 (.load true 10) [5],
 oT 15 7 (.call false 111) [12,13,14],
 ⟨(some 16),11,(.bin .neq),[.t 15,.c (.int .i64 (0))],none⟩])
 (.cond (.t 16) (.seq (.region [⟨(some 6),12,.move,[.c (.int .i64 (0))],none⟩,
 ⟨(some 7),13,.move,[.c (.bool false)],none⟩])
 (.ret)) (.skip)))
 (.seq (.region [oT 18 14 (.load true 7) [3],
 oT 19 15 .move [1],
 oT 20 16 (.call false 112) [18,19],
 oT 17 20 .move [20],
 oT 21 21 (.extract 0) [17],
 oT 22 22 (.extract 1) [17],
 oT 8 23 (.alloc [.int .i64 (0),.int .i64 (0),.int .i64 (0)]) [],
 ⟨none,27,(.store 3),[.t 8,.t 21],none⟩,
 oT 9 28 .move [22]])
 (.seq (.region [oT 24 29 (.load true 3) [8],
 oT 25 30 (.fieldAddr 3) [5],
 oT 26 31 (.load true 3) [25],
 oT 27 32 (.call false 113) [24,26],
 oT 23 36 .move [27],
 oT 28 37 (.extract 0) [23],
 oT 29 38 (.extract 1) [23],
 oT 10 39 (.alloc [.int .i64 (0),.int .i64 (0),.int .i64 (0)]) [],
 ⟨none,43,(.store 3),[.t 10,.t 28],none⟩,
 oT 11 44 .move [29]])
 (.seq (.region [oT 30 45 (.load true 3) [10],
 oT 31 46 (.fieldAddr 0) [3],
 oT 32 47 (.fieldAddr 1) [31],
 oT 33 48 (.load true 3) [32],
 oT 34 49 (.call false 222) [30,33],
 oT 6 53 .move [34],
 ⟨(some 7),54,.move,[.c (.bool true)],none⟩])
 (.ret))))))
 [.tmp 6,.tmp 7] 0 32
def f197.env:Env:=[(111,f111.C),(112,f112.C),(113,f113.C),(222,f222.C)]
def f197.tree (a:aC×(List (aH))×aG):Prop:=f111.ent (fun c1=>(gA c1)∧Br ((f9 c1) != (0:Int)) (((0:Int)=((cY a).1))∧(false=((cY a).2))∧True) (f112.ent (fun c5=>(kN c5)∧f113.ent (fun c6=>True∧f222.ent (fun c7=>True∧((dI c7)=((cY a).1))∧(true=((cY a).2))∧True) (((lQ c6).1),a.1.1.2.1)) (((d7 c5).1),a.2.2.2.2.2.1)) (a.1,a.2.1))) (a.1,a.2.1,a.2.2)
def f197.vc (a:aC×(List (aH))×aG):Prop:=(gA (a.1,a.2.1,a.2.2)∧((¬(f9 (a.1,a.2.1,a.2.2))=(0:Int)→(((0:Int),false)=cY a))∧(¬(¬(f9 (a.1,a.2.1,a.2.2))=(0:Int))→(kN (a.1,a.2.1)∧(((dI (((lQ (((d7 (a.1,a.2.1)).1),a.2.2.2.2.2.1)).1),a.1.1.2.1)),true)=cY a)))))
set_option maxRecDepth 100000 in
set_option maxHeartbeats 2000000 in
theorem f197.of (a:aC×(List (aH))×aG) (h:f197.vc a):f197.tree a:=(f111.ei ⟨h.1,br h.2 Cnd.ne (fun h2 k12=>⟨(congrArg (fun x:Int×Bool=>x.1) k12 :),⟨(congrArg (fun x:Int×Bool=>x.2) k12 :),trivial⟩⟩) (fun h3 k13=>(f112.ei ⟨k13.1,(f113.ei ⟨trivial,(f222.ei ⟨trivial,⟨(congrArg (fun x:Int×Bool=>x.1) k13.2 :),⟨(congrArg (fun x:Int×Bool=>x.2) k13.2 :),trivial⟩⟩⟩)⟩)⟩))⟩)
theorem f197.eq (a:aC×(List (aH))×aG):(f197.af a).gives f197.env (f197.args a) (f197.blks a) (f197.res a) (f197.blks' a)=f197.tree a:=by kernel_rfl
end Go.Abs

-- interregnum/interregnumref12.Score
namespace Go.Abs
open Go
end Go.Abs

/- interregnum/interregnumref12.Score -/
namespace Go.Abs
open Go
set_option linter.unusedVariables false
end Go.Abs

-- interregnum/rank.all
namespace Go.Abs
open Go
def f171.ent (K:((List (aC))×(List (aH))×aG)→Prop) (t:(List (aC))×(List (aH))×aG):Prop:=∃ c:(List (aC))×(List (aH))×aG,SlQ t.1.length c.1.length (gl aK t.1) (gl aK c.1) (SlQ t.2.1.length c.2.1.length (gl aT t.2.1) (gl aT c.2.1) ((t.2.2.1=c.2.2.1)∧(t.2.2.2.1=c.2.2.2.1)∧(t.2.2.2.2.1=c.2.2.2.2.1)∧(t.2.2.2.2.2.1.1=c.2.2.2.2.2.1.1)∧(t.2.2.2.2.2.1.2.1=c.2.2.2.2.2.1.2.1)∧(t.2.2.2.2.2.1.2.2=c.2.2.2.2.2.1.2.2)∧SlQ t.2.2.2.2.2.2.1.length c.2.2.2.2.2.2.1.length (gl aI t.2.2.2.2.2.2.1) (gl aI c.2.2.2.2.2.2.1) ((t.2.2.2.2.2.2.2.1=c.2.2.2.2.2.2.2.1)∧(t.2.2.2.2.2.2.2.2.1=c.2.2.2.2.2.2.2.2.1)∧(t.2.2.2.2.2.2.2.2.2=c.2.2.2.2.2.2.2.2.2)∧K c)))
theorem f171.ei {K:((List (aC))×(List (aH))×aG)→Prop} {t:(List (aC))×(List (aH))×aG} (h:K t):f171.ent K t:=⟨t,slQ (Rds.self (enc:=aK)) (slQ (Rds.self (enc:=aT)) (⟨rfl,⟨rfl,⟨rfl,⟨rfl,⟨rfl,⟨rfl,slQ (Rds.self (enc:=aI)) (⟨rfl,⟨rfl,⟨rfl,h⟩⟩⟩)⟩⟩⟩⟩⟩⟩))⟩
def f171.args (a:(List (aC))×(List (aH))×aG):List D:=[.slice .ro 7 a.1.length (gl aK a.1),.slice .ro 13 a.2.1.length (gl aT a.2.1),.agg [.str a.2.2.1,.str a.2.2.2.1,.int .i64 a.2.2.2.2.1,.int .i64 a.2.2.2.2.2.1.1,.int .i64 a.2.2.2.2.2.1.2.1,.int .i64 a.2.2.2.2.2.1.2.2,.slice .ro 2 a.2.2.2.2.2.2.1.length (gl aI a.2.2.2.2.2.2.1),.str a.2.2.2.2.2.2.2.1,.str a.2.2.2.2.2.2.2.2.1,.int .i64 a.2.2.2.2.2.2.2.2.2]]
def f171.blks (a:(List (aC))×(List (aH))×aG):List (List D):=[]
def f171.res (a:(List (aC))×(List (aH))×aG):List D:=[.slice .ro 2 ((fG a).length) (gl aA (fG a))]
def f171.blks' (a:(List (aC))×(List (aH))×aG):List (List D):=[]
def f171.C:aN:=FnC f171.args f171.blks (fun a=>cI a) f171.res f171.blks'
end Go.Abs

/- interregnum/rank.all -/
namespace Go.Abs
open Go
set_option linter.unusedVariables false
def f171.S0 (a:(List (aC))×(List (aH))×aG) (x:Int×(List (aB))):Tm:=⟨[.dead,.slice .ro 13 a.2.1.length (gl aT a.2.1),.dead,.dead,.dead,.ptr 1000000 0,.dead,.msl 1000003 2 (List.length x.2),.dead,.dead,.dead,.dead,.slice .ro 7 a.1.length (gl aK a.1),.int .i64 (a.1.length:Int),.int .i64 x.1,.dead,.dead,.dead,.dead,.dead,.dead,.dead,.dead,.dead,.dead,.dead,.dead,.dead,.dead,.dead,.dead,.dead,.dead,.dead,.dead,.dead,.dead,.dead],[(1000000,false,[.str a.2.2.1,.str a.2.2.2.1,.int .i64 a.2.2.2.2.1,.int .i64 a.2.2.2.2.2.1.1,.int .i64 a.2.2.2.2.2.1.2.1,.int .i64 a.2.2.2.2.2.1.2.2,.slice .ro 2 a.2.2.2.2.2.2.1.length (gl aI a.2.2.2.2.2.2.1),.str a.2.2.2.2.2.2.2.1,.str a.2.2.2.2.2.2.2.2.1,.int .i64 a.2.2.2.2.2.2.2.2.2]),(1000003,false,[.dead,.arr true 2 (List.length x.2) (gl aA x.2)])],[]⟩
def f171.kills (a:(List (aC))×(List (aH))×aG):List Hint:=[.tell (Int×(List (aB))) (f171.S0 a)]
def f171.cuts (a:(List (aC))×(List (aH))×aG):List (Nat×Σ β:Type,β→Tm):=[(999999,⟨Unit,fun x=>⟨[],[],[]⟩⟩),
 (1000007000001,⟨Unit,fun x=>⟨[],[],[]⟩⟩),
 (2000007000010,⟨Unit,fun x=>⟨[],[],[]⟩⟩)]
def f171.af (a:(List (aC))×(List (aH))×aG):AF:=AF.mk (.seq (.region [oT 5 1000000 .box [2],
 oT 6 1000001 (.nilSl 2) []])
 (.seq (.region [oT 7 1000002 (.nilSl 2) []])
 (.seq (.thaw 1000003 7) (.seq (.seq (.region [oT 12 1000004 .move [0],
 oT 13 1000005 (.len false) [12],
 ⟨(some 14),1000006,.move,[.c (.int .i64 (0))],none⟩])
 (.block 0 (.loopT (Int×(List (aB))) (f171.S0 a) 1000007 1000043 (.seq (.region [oT 15 1000007 (.bin .lss) [14,13]])
 (.seq (.cond (.t 15) (.skip) (.exit 0))
 (.seq (.block 1 (.seq (.region [oT 16 1000008 (.indexAddr 7 none) [12,14],
 oT 17 1000009 (.load true 7) [16],
 oT 9 1000010 (.alloc [.str ByteArray.empty,.int .i64 (0),.int .i64 (0),.int .i64 (0),.slice (.own 0) 2 0 d9,.bool false,.int .i64 (0)]) [],
 ⟨none,1000018,(.store 7),[.t 9,.t 17],none⟩])
 (.seq (.region [oT 19 1000019 (.load true 7) [9],
 oT 20 1000020 .move [1],
 oT 21 1000021 (.load true 10) [5],
 oT 22 1000022 (.call true 197) [19,20,21],
 oT 18 1000026 .move [22],
 oT 23 1000027 (.extract 0) [18],
 oT 24 1000028 (.extract 1) [18],
 oT 10 1000029 .move [23],
 oT 11 1000030 .move [24]])
 (.seq (.region [oT 25 1000031 .move [11]])
 (.cond (.t 25) (.region [oT 26 1000032 .move [7],
 oT 27 1000033 (.fieldAddr 0) [9],
 oT 28 1000034 (.fieldAddr 0) [27],
 oT 29 1000035 (.load false 1) [28],
 oT 30 1000036 .move [10],
 oT 31 1000037 (.build [.str ByteArray.empty,.int .i64 (0)] [(0,1),(1,1)]) [29,30],
 oT 32 1000038 (.buildSlice 2 1 [.str ByteArray.empty,.int .i64 (0)] [(0,2)]) [31],
 oT 33 1000039 (.append 2 24) [26,32],
 oT 7 1000040 .move [33]]) (.skip))))))
 (.region [⟨(some 34),1000041,(.bin .add),[.t 14,.c (.int .i64 (1))],none⟩,
 oT 14 1000042 .move [34]])))))))
 (.seq (.region [oT 35 1000043 .move [7],
 ⟨(some 36),1000044,(.call true 198),[.t 35,.c (.fn 199 [])],none⟩])
 (.seq (.frz 7) (.seq (.region [oT 37 1000048 .move [7],
 oT 6 1000049 .move [37]])
 (.ret))))))))
 [.tmp 6] 0 35
def f171.env:Env:=[(197,f197.C),(198,f198.C)]
def f171.tree (a:(List (aC))×(List (aH))×aG):Prop:=∃ (I2:(Int×(List (aB)))→Prop) (μ3:(Int×(List (aB)))→Nat),(∃ x1:Int×(List (aB)),SlS aT a.2.1 ((0=(List.length x1.2))∧SlS aK a.1 (((a.1.length:Int)=(a.1.length:Int))∧((0:Int)=x1.1)∧(a.2.2.1=a.2.2.1)∧(a.2.2.2.1=a.2.2.2.1)∧(a.2.2.2.2.1=a.2.2.2.2.1)∧(a.2.2.2.2.2.1.1=a.2.2.2.2.2.1.1)∧(a.2.2.2.2.2.1.2.1=a.2.2.2.2.2.1.2.1)∧(a.2.2.2.2.2.1.2.2=a.2.2.2.2.2.1.2.2)∧SlS aI a.2.2.2.2.2.2.1 ((a.2.2.2.2.2.2.2.1=a.2.2.2.2.2.2.2.1)∧(a.2.2.2.2.2.2.2.2.1=a.2.2.2.2.2.2.2.2.1)∧(a.2.2.2.2.2.2.2.2.2=a.2.2.2.2.2.2.2.2.2)∧SlQ 0 (List.length x1.2) d9 (gl aA x1.2) (I2 x1)))))∧∀ y4:Int×(List (aB)),I2 y4→(Br (decide (y4.1 < (a.1.length:Int))) (Br (decide ((0:Int)≤y4.1)&&decide (y4.1 < (a.1.length:Int))) (f197.ent (fun c8=>(gA c8)∧Br ((cY c8).2) (((List.length y4.2)=(List.length y4.2)∧sD (((List.length y4.2)+1) * 24))∧(Let (IntKind.i64.wrap (y4.1+(1:Int))) (fun v11:Int=>∃ x12:Int×(List (aB)),SlS aT a.2.1 ((((List.length y4.2)+1)=(List.length x12.2))∧SlS aK a.1 (((a.1.length:Int)=(a.1.length:Int))∧(v11=x12.1)∧(a.2.2.1=a.2.2.1)∧(a.2.2.2.1=a.2.2.2.1)∧(a.2.2.2.2.1=a.2.2.2.2.1)∧(a.2.2.2.2.2.1.1=a.2.2.2.2.2.1.1)∧(a.2.2.2.2.2.1.2.1=a.2.2.2.2.2.1.2.1)∧(a.2.2.2.2.2.1.2.2=a.2.2.2.2.2.1.2.2)∧SlS aI a.2.2.2.2.2.2.1 ((a.2.2.2.2.2.2.2.1=a.2.2.2.2.2.2.2.1)∧(a.2.2.2.2.2.2.2.2.1=a.2.2.2.2.2.2.2.2.1)∧(a.2.2.2.2.2.2.2.2.2=a.2.2.2.2.2.2.2.2.2)∧SlQ ((List.length y4.2)+1) (List.length x12.2) (fV (gl aA y4.2) (List.length y4.2) (fun _=>[.str (((at_ a.1 y4.1).1).1),.int .i64 ((cY c8).1)])) (gl aA x12.2) (I2 x12∧μ3 x12 < μ3 y4))))))) (Let (IntKind.i64.wrap (y4.1+(1:Int))) (fun v17:Int=>∃ x18:Int×(List (aB)),SlS aT a.2.1 (((List.length y4.2)=(List.length x18.2))∧SlS aK a.1 (((a.1.length:Int)=(a.1.length:Int))∧(v17=x18.1)∧(a.2.2.1=a.2.2.1)∧(a.2.2.2.1=a.2.2.2.1)∧(a.2.2.2.2.1=a.2.2.2.2.1)∧(a.2.2.2.2.2.1.1=a.2.2.2.2.2.1.1)∧(a.2.2.2.2.2.1.2.1=a.2.2.2.2.2.1.2.1)∧(a.2.2.2.2.2.1.2.2=a.2.2.2.2.2.1.2.2)∧SlS aI a.2.2.2.2.2.2.1 ((a.2.2.2.2.2.2.2.1=a.2.2.2.2.2.2.2.1)∧(a.2.2.2.2.2.2.2.2.1=a.2.2.2.2.2.2.2.2.1)∧(a.2.2.2.2.2.2.2.2.2=a.2.2.2.2.2.2.2.2.2)∧SlQ (List.length y4.2) (List.length x18.2) (gl aA y4.2) (gl aA x18.2) (I2 x18∧μ3 x18 < μ3 y4))))))) ((at_ a.1 y4.1),a.2.1,a.2.2)) False) (((List.length y4.2)=(List.length y4.2))∧∃ c27:List (aB),((List.length y4.2)=List.length c27)∧(DEqs [] [])∧SlQ (List.length y4.2) (List.length c27) (gl aA y4.2) (gl aA c27) ((mM c27)∧((List.length ((gQ aF) c27))=(List.length y4.2))∧(SlQ (List.length ((gQ aF) c27)) ((fG a).length) (gl aA ((gQ aF) c27)) (gl aA (fG a)) (True)))))
def f171.vc (a:(List (aC))×(List (aH))×aG):Prop:=(∃ (I2:(Int×(List (aB)))→Prop) (μ3:(Int×(List (aB)))→Nat),I2 ((0:Int),[])∧∀ y4:Int×(List (aB)),I2 y4→((y4.1 < (a.1.length:Int)→((0:Int)≤y4.1∧y4.1 < (a.1.length:Int)∧(gA ((at_ a.1 y4.1),a.2.1,a.2.2)∧((((cY ((at_ a.1 y4.1),a.2.1,a.2.2)).2)=true→((List.length y4.2)+1≤1073741824∧(-9223372036854775808≤(y4.1+(1:Int))∧(y4.1+(1:Int))≤9223372036854775807∧(I2 ((y4.1+(1:Int)),y4.2++([(((at_ a.1 y4.1).1).1,(cY ((at_ a.1 y4.1),a.2.1,a.2.2)).1)]))∧μ3 ((y4.1+(1:Int)),y4.2++([(((at_ a.1 y4.1).1).1,(cY ((at_ a.1 y4.1),a.2.1,a.2.2)).1)])) < μ3 y4))))∧(¬(((cY ((at_ a.1 y4.1),a.2.1,a.2.2)).2)=true)→(-9223372036854775808≤(y4.1+(1:Int))∧(y4.1+(1:Int))≤9223372036854775807∧(I2 ((y4.1+(1:Int)),y4.2)∧μ3 ((y4.1+(1:Int)),y4.2) < μ3 y4)))))))∧(¬(y4.1 < (a.1.length:Int))→(mM y4.2∧((List.length ((gQ aF) (y4.2)))=(List.length y4.2)∧(((gQ aF) (y4.2))=fG a))))))
set_option maxRecDepth 100000 in
set_option maxHeartbeats 2000000 in
theorem f171.of (a:(List (aC))×(List (aH))×aG) (h:f171.vc a):f171.tree a:=Exists.elim h (fun I2 h33_=>Exists.elim h33_ (fun μ3 h33=>⟨I2,μ3,⟨((0:Int),[]),SlS.mk  (⟨(a9 d9 (Rds.nil (enc:=aA))),SlS.mk  (⟨rfl,⟨rfl,⟨rfl,⟨rfl,⟨rfl,⟨rfl,⟨rfl,⟨rfl,SlS.mk  (⟨rfl,⟨rfl,⟨rfl,slQ (Rds.nil (enc:=aA)) (h33.1)⟩⟩⟩)⟩⟩⟩⟩⟩⟩⟩⟩)⟩)⟩,fun y4 h35=>br (h33.2 y4 h35) Cnd.dec (fun h5 k31=>chk k31.2.2 Cnd.ix ⟨k31.1,k31.2.1⟩ (fun h7 k26=>(f197.ei ⟨k26.1,br k26.2 Cnd.b (fun h9 k23=>⟨⟨rfl,pZ k23.1 (by decide)⟩,wrapK.i64 k23.2 (fun h14 h15 k16=>⟨((y4.1+(1:Int)),y4.2++([(((at_ a.1 y4.1).1).1,(cY ((at_ a.1 y4.1),a.2.1,a.2.2)).1)])),SlS.mk  (⟨(a9 (fV (gl aA y4.2) (List.length y4.2) (fun _=>[.str (((at_ a.1 y4.1).1).1),.int .i64 ((cY ((at_ a.1 y4.1),a.2.1,a.2.2)).1)])) (Rds.app (enc:=aA) (Rds.self (enc:=aA)) (Rds.one (enc:=aA) (DEqs.refl _)))),SlS.mk  (⟨rfl,⟨rfl,⟨rfl,⟨rfl,⟨rfl,⟨rfl,⟨rfl,⟨rfl,SlS.mk  (⟨rfl,⟨rfl,⟨rfl,slQ (Rds.app (enc:=aA) (Rds.self (enc:=aA)) (Rds.one (enc:=aA) (DEqs.refl _))) (k16)⟩⟩⟩)⟩⟩⟩⟩⟩⟩⟩⟩)⟩)⟩)⟩) (fun h10 k24=>wrapK.i64 k24 (fun h20 h21 k22=>⟨((y4.1+(1:Int)),y4.2),SlS.mk  (⟨(a9 (gl aA y4.2) (Rds.self (enc:=aA))),SlS.mk  (⟨rfl,⟨rfl,⟨rfl,⟨rfl,⟨rfl,⟨rfl,⟨rfl,⟨rfl,SlS.mk  (⟨rfl,⟨rfl,⟨rfl,slQ (Rds.self (enc:=aA)) (k22)⟩⟩⟩)⟩⟩⟩⟩⟩⟩⟩⟩)⟩)⟩))⟩))) (fun h6 k32=>⟨rfl,⟨y4.2,⟨(a9 (gl aA y4.2) (Rds.self (enc:=aA))),⟨(DEqs.refl _),slQ (Rds.self (enc:=aA)) (⟨k32.1,jQ k32.2 (fun (h28:(List.length ((gQ aF) (y4.2)))=(List.length y4.2)) hk=>⟨h28,slQ (Rds.to (Rds.self (enc:=aA)) hk) (trivial)⟩)⟩)⟩⟩⟩⟩)⟩))
theorem f171.eq (a:(List (aC))×(List (aH))×aG):(f171.af a).gives f171.env (f171.args a) (f171.blks a) (f171.res a) (f171.blks' a)=f171.tree a:=by kernel_rfl
end Go.Abs

-- interregnum/rank.Best
namespace Go.Abs
open Go
def f151.args (a:(List (aC))×(List (aH))×aG):List D:=[.slice .ro 7 a.1.length (gl aK a.1),.slice .ro 13 a.2.1.length (gl aT a.2.1),.agg [.str a.2.2.1,.str a.2.2.2.1,.int .i64 a.2.2.2.2.1,.int .i64 a.2.2.2.2.2.1.1,.int .i64 a.2.2.2.2.2.1.2.1,.int .i64 a.2.2.2.2.2.1.2.2,.slice .ro 2 a.2.2.2.2.2.2.1.length (gl aI a.2.2.2.2.2.2.1),.str a.2.2.2.2.2.2.2.1,.str a.2.2.2.2.2.2.2.2.1,.int .i64 a.2.2.2.2.2.2.2.2.2]]
def f151.blks (a:(List (aC))×(List (aH))×aG):List (List D):=[]
def f151.res (a:(List (aC))×(List (aH))×aG):List D:=[.str ((iJ a).1),.bool ((iJ a).2)]
def f151.blks' (a:(List (aC))×(List (aH))×aG):List (List D):=[]
def f151.C:aN:=FnC f151.args f151.blks (fun a=>cI a) f151.res f151.blks'
end Go.Abs

/- interregnum/rank.Best -/
namespace Go.Abs
open Go
set_option linter.unusedVariables false
def f151.kills (a:(List (aC))×(List (aH))×aG):List Hint:=[]
def f151.cuts (a:(List (aC))×(List (aH))×aG):List (Nat×Σ β:Type,β→Tm):=[]
def f151.af (a:(List (aC))×(List (aH))×aG):AF:=AF.mk (.seq (.region [oT 5 0 .box [2],
 ⟨(some 6),1,.move,[.c (.str ByteArray.empty)],none⟩,
 ⟨(some 7),2,.move,[.c (.bool false)],none⟩])
 (.seq (.region [oT 9 3 .move [0],
 oT 10 4 .move [1],
 oT 11 5 (.load true 10) [5],
 oT 12 6 (.call false 171) [9,10,11],
 oT 8 10 .move [12]])
 (.seq (.seq (.region [oT 13 11 .move [8],
 oT 14 12 (.len false) [13],
 ⟨(some 15),13,(.bin .eql),[.t 14,.c (.int .i64 (0))],none⟩])
 (.cond (.t 15) (.seq (.region [⟨(some 6),14,.move,[.c (.str ByteArray.empty)],none⟩,
 ⟨(some 7),15,.move,[.c (.bool false)],none⟩])
 (.ret)) (.skip)))
 (.seq (.region [oT 16 16 .move [8],
 ⟨(some 17),17,(.indexAddr 2 none),[.t 16,.c (.int .i64 (0))],none⟩,
 oT 18 18 (.fieldAddr 0) [17],
 oT 19 19 (.load false 1) [18],
 oT 6 20 .move [19],
 ⟨(some 7),21,.move,[.c (.bool true)],none⟩])
 (.ret)))))
 [.tmp 6,.tmp 7] 0 17
def f151.env:Env:=[(171,f171.C)]
def f151.tree (a:(List (aC))×(List (aH))×aG):Prop:=f171.ent (fun c1=>(cI c1)∧Br (((fG c1).length:Int)==(0:Int)) ((ByteArray.empty=((iJ a).1))∧(false=((iJ a).2))∧True) (Br (decide ((0:Int)≤(0:Int))&&decide ((0:Int) < ((fG c1).length:Int))) ((((at_ (fG c1) (0:Int)).1)=((iJ a).1))∧(true=((iJ a).2))∧True) False)) (a.1,a.2.1,a.2.2)
def f151.vc (a:(List (aC))×(List (aH))×aG):Prop:=(cI (a.1,a.2.1,a.2.2)∧((((fG (a.1,a.2.1,a.2.2)).length:Int)=(0:Int)→((ByteArray.empty,false)=iJ a))∧(¬(((fG (a.1,a.2.1,a.2.2)).length:Int)=(0:Int))→((0:Int) < ((fG (a.1,a.2.1,a.2.2)).length:Int)∧(((at_ (fG (a.1,a.2.1,a.2.2)) (0:Int)).1,true)=iJ a)))))
set_option maxRecDepth 100000 in
set_option maxHeartbeats 2000000 in
theorem f151.of (a:(List (aC))×(List (aH))×aG) (h:f151.vc a):f151.tree a:=(f171.ei ⟨h.1,br h.2 Cnd.eq (fun h2 k8=>⟨(congrArg (fun x:ByteArray×Bool=>x.1) k8 :),⟨(congrArg (fun x:ByteArray×Bool=>x.2) k8 :),trivial⟩⟩) (fun h3 k9=>chk k9.2 Cnd.ix ⟨(by decide),k9.1⟩ (fun h5 k7=>⟨(congrArg (fun x:ByteArray×Bool=>x.1) k7 :),⟨(congrArg (fun x:ByteArray×Bool=>x.2) k7 :),trivial⟩⟩))⟩)
theorem f151.eq (a:(List (aC))×(List (aH))×aG):(f151.af a).gives f151.env (f151.args a) (f151.blks a) (f151.res a) (f151.blks' a)=f151.tree a:=by kernel_rfl
end Go.Abs

-- interregnum/rank.Sorted
namespace Go.Abs
open Go
def f395.ent (K:((List (aC))×(List (aH))×aG)→Prop) (t:(List (aC))×(List (aH))×aG):Prop:=∃ c:(List (aC))×(List (aH))×aG,SlQ t.1.length c.1.length (gl aK t.1) (gl aK c.1) (SlQ t.2.1.length c.2.1.length (gl aT t.2.1) (gl aT c.2.1) ((t.2.2.1=c.2.2.1)∧(t.2.2.2.1=c.2.2.2.1)∧(t.2.2.2.2.1=c.2.2.2.2.1)∧(t.2.2.2.2.2.1.1=c.2.2.2.2.2.1.1)∧(t.2.2.2.2.2.1.2.1=c.2.2.2.2.2.1.2.1)∧(t.2.2.2.2.2.1.2.2=c.2.2.2.2.2.1.2.2)∧SlQ t.2.2.2.2.2.2.1.length c.2.2.2.2.2.2.1.length (gl aI t.2.2.2.2.2.2.1) (gl aI c.2.2.2.2.2.2.1) ((t.2.2.2.2.2.2.2.1=c.2.2.2.2.2.2.2.1)∧(t.2.2.2.2.2.2.2.2.1=c.2.2.2.2.2.2.2.2.1)∧(t.2.2.2.2.2.2.2.2.2=c.2.2.2.2.2.2.2.2.2)∧K c)))
theorem f395.ei {K:((List (aC))×(List (aH))×aG)→Prop} {t:(List (aC))×(List (aH))×aG} (h:K t):f395.ent K t:=⟨t,slQ (Rds.self (enc:=aK)) (slQ (Rds.self (enc:=aT)) (⟨rfl,⟨rfl,⟨rfl,⟨rfl,⟨rfl,⟨rfl,slQ (Rds.self (enc:=aI)) (⟨rfl,⟨rfl,⟨rfl,h⟩⟩⟩)⟩⟩⟩⟩⟩⟩))⟩
def f395.args (a:(List (aC))×(List (aH))×aG):List D:=[.slice .ro 7 a.1.length (gl aK a.1),.slice .ro 13 a.2.1.length (gl aT a.2.1),.agg [.str a.2.2.1,.str a.2.2.2.1,.int .i64 a.2.2.2.2.1,.int .i64 a.2.2.2.2.2.1.1,.int .i64 a.2.2.2.2.2.1.2.1,.int .i64 a.2.2.2.2.2.1.2.2,.slice .ro 2 a.2.2.2.2.2.2.1.length (gl aI a.2.2.2.2.2.2.1),.str a.2.2.2.2.2.2.2.1,.str a.2.2.2.2.2.2.2.2.1,.int .i64 a.2.2.2.2.2.2.2.2.2]]
def f395.blks (a:(List (aC))×(List (aH))×aG):List (List D):=[]
def f395.res (a:(List (aC))×(List (aH))×aG):List D:=[.slice .ro 1 ((bR a).length) (gl dP (bR a))]
def f395.blks' (a:(List (aC))×(List (aH))×aG):List (List D):=[]
def f395.C:aN:=FnC f395.args f395.blks (fun a=>cI a) f395.res f395.blks'
end Go.Abs

/- interregnum/rank.Sorted -/
namespace Go.Abs
open Go
set_option linter.unusedVariables false
def f395.S0 (a:(List (aC))×(List (aH))×aG) (x:(List (ByteArray))×(List (aB))×Int×Int):Tm:=⟨[.dead,.dead,.dead,.dead,.dead,.dead,.dead,.slice (.own 2) 1 x.1.length (gl dP x.1),.dead,.dead,.dead,.dead,.dead,.slice .ro 2 x.2.1.length (gl aA x.2.1),.int .i64 x.2.2.1,.int .i64 x.2.2.2,.dead,.dead,.dead,.dead,.dead,.dead,.dead,.dead,.dead,.dead],[],[(2,1,x.1.length)]⟩
def f395.kills (a:(List (aC))×(List (aH))×aG):List Hint:=[.tell ((List (ByteArray))×(List (aB))×Int×Int) (f395.S0 a)]
def f395.cuts (a:(List (aC))×(List (aH))×aG):List (Nat×Σ β:Type,β→Tm):=[]
def f395.af (a:(List (aC))×(List (aH))×aG):AF:=AF.mk (.seq (.region [oT 5 0 .box [2],
 oT 6 1 (.nilSl 1) []])
 (.seq (.region [oT 7 2 (.nilSl 1) []])
 (.seq (.seq (.region [oT 10 3 .move [0],
 oT 11 4 .move [1],
 oT 12 5 (.load true 10) [5],
 oT 13 6 (.call false 171) [10,11,12],
 oT 14 10 (.len false) [13],
 ⟨(some 15),11,.move,[.c (.int .i64 (0))],none⟩])
 (.block 0 (.loopT ((List (ByteArray))×(List (aB))×Int×Int) (f395.S0 a) 12 27 (.seq (.region [oT 16 12 (.bin .lss) [15,14]])
 (.seq (.cond (.t 16) (.skip) (.exit 0))
 (.seq (.block 1 (.seq (.region [oT 17 13 (.indexAddr 2 none) [13,15],
 oT 18 14 (.load true 2) [17],
 oT 9 15 (.alloc [.str ByteArray.empty,.int .i64 (0)]) [],
 ⟨none,18,(.store 2),[.t 9,.t 18],none⟩])
 (.region [oT 19 19 .move [7],
 oT 20 20 (.fieldAddr 0) [9],
 oT 21 21 (.load false 1) [20],
 oT 22 22 (.buildSlice 1 1 [.str ByteArray.empty] [(0,1)]) [21],
 oT 23 23 (.append 1 16) [19,22],
 oT 7 24 .move [23]])))
 (.region [⟨(some 24),25,(.bin .add),[.t 15,.c (.int .i64 (1))],none⟩,
 oT 15 26 .move [24]])))))))
 (.seq (.region [oT 25 27 .move [7],
 oT 6 28 .move [25]])
 (.ret)))))
 [.tmp 6] 0 23
def f395.env:Env:=[(171,f171.C)]
def f395.tree (a:(List (aC))×(List (aH))×aG):Prop:=f171.ent (fun c1=>(cI c1)∧∃ (I3:((List (ByteArray))×(List (aB))×Int×Int)→Prop) (μ4:((List (ByteArray))×(List (aB))×Int×Int)→Nat),(∃ x2:(List (ByteArray))×(List (aB))×Int×Int,SlQ 0 x2.1.length d9 (gl dP x2.1) (SlQ ((fG c1).length) x2.2.1.length (gl aA (fG c1)) (gl aA x2.2.1) ((((fG c1).length:Int)=x2.2.2.1)∧((0:Int)=x2.2.2.2)∧(0=x2.1.length)∧I3 x2)))∧∀ y5:(List (ByteArray))×(List (aB))×Int×Int,I3 y5→(Br (decide (y5.2.2.2 < y5.2.2.1)) (Br (decide ((0:Int)≤y5.2.2.2)&&decide (y5.2.2.2 < (y5.2.1.length:Int))) ((y5.1.length=y5.1.length∧sD ((y5.1.length+1) * 16))∧(Let (IntKind.i64.wrap (y5.2.2.2+(1:Int))) (fun v9:Int=>∃ x10:(List (ByteArray))×(List (aB))×Int×Int,SlQ (y5.1.length+1) x10.1.length (fV (gl dP y5.1) y5.1.length (fun _=>[.str ((at_ y5.2.1 y5.2.2.2).1)])) (gl dP x10.1) (SlQ y5.2.1.length x10.2.1.length (gl aA y5.2.1) (gl aA x10.2.1) ((y5.2.2.1=x10.2.2.1)∧(v9=x10.2.2.2)∧((y5.1.length+1)=x10.1.length)∧I3 x10∧μ4 x10 < μ4 y5))))) False) ((y5.1.length=y5.1.length)∧SlQ y5.1.length ((bR a).length) (gl dP y5.1) (gl dP (bR a)) (True)))) (a.1,a.2.1,a.2.2)
def f395.vc (a:(List (aC))×(List (aH))×aG):Prop:=(cI (a.1,a.2.1,a.2.2)∧(∃ (I3:((List (ByteArray))×(List (aB))×Int×Int)→Prop) (μ4:((List (ByteArray))×(List (aB))×Int×Int)→Nat),I3 ([],(fG (a.1,a.2.1,a.2.2)),((fG (a.1,a.2.1,a.2.2)).length:Int),(0:Int))∧∀ y5:(List (ByteArray))×(List (aB))×Int×Int,I3 y5→((y5.2.2.2 < y5.2.2.1→((0:Int)≤y5.2.2.2∧y5.2.2.2 < (y5.2.1.length:Int)∧(y5.1.length+1≤1073741824∧(-9223372036854775808≤(y5.2.2.2+(1:Int))∧(y5.2.2.2+(1:Int))≤9223372036854775807∧(I3 (y5.1++([(at_ y5.2.1 y5.2.2.2).1]),y5.2.1,y5.2.2.1,(y5.2.2.2+(1:Int)))∧μ4 (y5.1++([(at_ y5.2.1 y5.2.2.2).1]),y5.2.1,y5.2.2.1,(y5.2.2.2+(1:Int))) < μ4 y5)))))∧(¬(y5.2.2.2 < y5.2.2.1)→(y5.1=bR a)))))
set_option maxRecDepth 100000 in
set_option maxHeartbeats 2000000 in
theorem f395.of (a:(List (aC))×(List (aH))×aG) (h:f395.vc a):f395.tree a:=(f171.ei ⟨h.1,Exists.elim h.2 (fun I3 h19_=>Exists.elim h19_ (fun μ4 h19=>⟨I3,μ4,⟨([],(fG (a.1,a.2.1,a.2.2)),((fG (a.1,a.2.1,a.2.2)).length:Int),(0:Int)),slQ (Rds.nil (enc:=dP)) (slQ (Rds.self (enc:=aA)) (⟨rfl,⟨rfl,⟨(a9 d9 (Rds.nil (enc:=dP))),h19.1⟩⟩⟩))⟩,fun y5 h21=>br (h19.2 y5 h21) Cnd.dec (fun h6 k17=>chk k17.2.2 Cnd.ix ⟨k17.1,k17.2.1⟩ (fun h8 k15=>⟨⟨rfl,(pZ k15.1 (by decide))⟩,wrapK.i64 k15.2 (fun h12 h13 k14=>⟨(y5.1++([(at_ y5.2.1 y5.2.2.2).1]),y5.2.1,y5.2.2.1,(y5.2.2.2+(1:Int))),slQ (Rds.app (enc:=dP) (Rds.self (enc:=dP)) (Rds.one (enc:=dP) (DEqs.refl _))) (slQ (Rds.self (enc:=aA)) (⟨rfl,⟨rfl,⟨(a9 (fV (gl dP y5.1) y5.1.length (fun _=>[.str ((at_ y5.2.1 y5.2.2.2).1)])) (Rds.app (enc:=dP) (Rds.self (enc:=dP)) (Rds.one (enc:=dP) (DEqs.refl _)))),k14⟩⟩⟩))⟩)⟩)) (fun h7 k18=>⟨rfl,slQ (Rds.to (Rds.self (enc:=dP)) k18) (trivial)⟩)⟩))⟩)
theorem f395.eq (a:(List (aC))×(List (aH))×aG):(f395.af a).gives f395.env (f395.args a) (f395.blks a) (f395.res a) (f395.blks' a)=f395.tree a:=by kernel_rfl
end Go.Abs

-- interregnum/interregnumlaw12.few
namespace Go.Abs
open Go
def f392.ent (K:((List (aC))×(List (aH))×aG)→Prop) (t:(List (aC))×(List (aH))×aG):Prop:=∃ c:(List (aC))×(List (aH))×aG,SlQ t.1.length c.1.length (gl aK t.1) (gl aK c.1) (SlQ t.2.1.length c.2.1.length (gl aT t.2.1) (gl aT c.2.1) ((t.2.2.1=c.2.2.1)∧(t.2.2.2.1=c.2.2.2.1)∧(t.2.2.2.2.1=c.2.2.2.2.1)∧(t.2.2.2.2.2.1.1=c.2.2.2.2.2.1.1)∧(t.2.2.2.2.2.1.2.1=c.2.2.2.2.2.1.2.1)∧(t.2.2.2.2.2.1.2.2=c.2.2.2.2.2.1.2.2)∧SlQ t.2.2.2.2.2.2.1.length c.2.2.2.2.2.2.1.length (gl aI t.2.2.2.2.2.2.1) (gl aI c.2.2.2.2.2.2.1) ((t.2.2.2.2.2.2.2.1=c.2.2.2.2.2.2.2.1)∧(t.2.2.2.2.2.2.2.2.1=c.2.2.2.2.2.2.2.2.1)∧(t.2.2.2.2.2.2.2.2.2=c.2.2.2.2.2.2.2.2.2)∧K c)))
theorem f392.ei {K:((List (aC))×(List (aH))×aG)→Prop} {t:(List (aC))×(List (aH))×aG} (h:K t):f392.ent K t:=⟨t,slQ (Rds.self (enc:=aK)) (slQ (Rds.self (enc:=aT)) (⟨rfl,⟨rfl,⟨rfl,⟨rfl,⟨rfl,⟨rfl,slQ (Rds.self (enc:=aI)) (⟨rfl,⟨rfl,⟨rfl,h⟩⟩⟩)⟩⟩⟩⟩⟩⟩))⟩
def f392.args (a:(List (aC))×(List (aH))×aG):List D:=[.slice .ro 7 a.1.length (gl aK a.1),.slice .ro 13 a.2.1.length (gl aT a.2.1),.agg [.str a.2.2.1,.str a.2.2.2.1,.int .i64 a.2.2.2.2.1,.int .i64 a.2.2.2.2.2.1.1,.int .i64 a.2.2.2.2.2.1.2.1,.int .i64 a.2.2.2.2.2.1.2.2,.slice .ro 2 a.2.2.2.2.2.2.1.length (gl aI a.2.2.2.2.2.2.1),.str a.2.2.2.2.2.2.2.1,.str a.2.2.2.2.2.2.2.2.1,.int .i64 a.2.2.2.2.2.2.2.2.2]]
def f392.blks (a:(List (aC))×(List (aH))×aG):List (List D):=[]
def f392.res (a:(List (aC))×(List (aH))×aG):List D:=[.bool (f0 a)]
def f392.blks' (a:(List (aC))×(List (aH))×aG):List (List D):=[]
def f392.C:aN:=FnC f392.args f392.blks (fun a=>kI a) f392.res f392.blks'
end Go.Abs

/- interregnum/interregnumlaw12.few -/
namespace Go.Abs
open Go
set_option linter.unusedVariables false
def f392.S0 (a:(List (aC))×(List (aH))×aG) (x:Int):Tm:=⟨[.slice .ro 7 a.1.length (gl aK a.1),.dead,.dead,.dead,.dead,.dead,.dead,.dead,.dead,.dead,.dead,.dead,.dead,.dead,.dead,.dead,.dead,.dead,.dead,.dead,.dead,.dead,.dead,.int .i64 (a.1.length:Int),.int .i64 x,.dead,.dead,.dead,.dead,.dead,.dead,.dead,.dead,.dead,.dead,.dead,.dead,.dead,.dead,.dead,.dead,.dead,.dead,.dead,.dead,.dead],[],[]⟩
def f392.kills (a:(List (aC))×(List (aH))×aG):List Hint:=[.tell Int (f392.S0 a)]
def f392.cuts (a:(List (aC))×(List (aH))×aG):List (Nat×Σ β:Type,β→Tm):=[]
def f392.af (a:(List (aC))×(List (aH))×aG):AF:=AF.mk (.seq (.region [oT 5 0 .box [2],
 ⟨(some 6),1,.move,[.c (.bool false)],none⟩])
 (.seq (.seq (.region [oT 8 2 .move [0],
 oT 9 3 (.len false) [8],
 ⟨(some 10),4,(.bin .gtr),[.t 9,.c (.int .i64 (40))],none⟩,
 oT 11 5 .move [10],
 oG 12 6 .move [1] 11 false,
 oG 13 7 (.len false) [12] 11 false,
 ⟨(some 14),8,(.bin .gtr),[.t 13,.c (.int .i64 (100))],(some (11,false))⟩,
 ⟨(some 15),9,.pick,[.t 11,.c (.bool true),.t 14],none⟩,
 oT 16 10 .move [15],
 oG 17 11 (.fieldAddr 6) [5] 16 false,
 oG 18 12 (.load false 1) [17] 16 false,
 oG 19 13 (.len false) [18] 16 false,
 ⟨(some 20),14,(.bin .gtr),[.t 19,.c (.int .i64 (20))],(some (16,false))⟩,
 ⟨(some 21),15,.pick,[.t 16,.c (.bool true),.t 20],none⟩])
 (.cond (.t 21) (.seq (.region [⟨(some 6),16,.move,[.c (.bool false)],none⟩])
 (.ret)) (.skip)))
 (.seq (.seq (.region [oT 22 17 .move [0],
 oT 23 18 (.len false) [22],
 ⟨(some 24),19,.move,[.c (.int .i64 (0))],none⟩])
 (.block 0 (.loopT Int (f392.S0 a) 20 44 (.seq (.region [oT 25 20 (.bin .lss) [24,23]])
 (.seq (.cond (.t 25) (.skip) (.exit 0))
 (.seq (.block 1 (.seq (.region [oT 26 21 .move [24],
 oT 7 22 .move [26]])
 (.seq (.region [oT 27 23 .move [0],
 oT 28 24 .move [7],
 oT 29 25 (.indexAddr 7 none) [27,28],
 oT 30 26 (.fieldAddr 0) [29],
 oT 31 27 (.fieldAddr 4) [30],
 oT 32 28 (.load false 1) [31],
 oT 33 29 (.len false) [32],
 ⟨(some 34),30,(.bin .gtr),[.t 33,.c (.int .i64 (20))],none⟩,
 oT 35 31 .move [34],
 oG 36 32 .move [0] 35 false,
 oG 37 33 .move [7] 35 false,
 oG 38 34 (.indexAddr 7 none) [36,37] 35 false,
 oG 39 35 (.fieldAddr 0) [38] 35 false,
 oG 40 36 (.fieldAddr 0) [39] 35 false,
 oG 41 37 (.load false 1) [40] 35 false,
 oG 42 38 (.len true) [41] 35 false,
 ⟨(some 43),39,(.bin .gtr),[.t 42,.c (.int .i64 (1000))],(some (35,false))⟩,
 ⟨(some 44),40,.pick,[.t 35,.c (.bool true),.t 43],none⟩])
 (.cond (.t 44) (.seq (.region [⟨(some 6),41,.move,[.c (.bool false)],none⟩])
 (.ret)) (.skip)))))
 (.region [⟨(some 45),42,(.bin .add),[.t 24,.c (.int .i64 (1))],none⟩,
 oT 24 43 .move [45]])))))))
 (.seq (.region [⟨(some 6),44,.move,[.c (.bool true)],none⟩])
 (.ret)))))
 [.tmp 6] 0 43
def f392.env:Env:=[]
def f392.tree (a:(List (aC))×(List (aH))×aG):Prop:=Br (decide ((40:Int) < (a.1.length:Int))) ((false=(f0 a))∧True) (Br (decide ((100:Int) < (a.2.1.length:Int))) ((false=(f0 a))∧True) (Br (decide ((20:Int) < (a.2.2.2.2.2.2.1.length:Int))) ((false=(f0 a))∧True) (∃ (I11:Int→Prop) (μ12:Int→Nat),(∃ x10:Int,SlS aK a.1 (((a.1.length:Int)=(a.1.length:Int))∧((0:Int)=x10)∧I11 x10))∧∀ y13:Int,I11 y13→(Br (decide (y13 < (a.1.length:Int))) (Br (decide ((0:Int)≤y13)&&decide (y13 < (a.1.length:Int))) (Br (decide ((20:Int) < ((((at_ a.1 y13).1).2.2).length:Int))) ((false=(f0 a))∧True) (Br (decide ((0:Int)≤y13)&&decide (y13 < (a.1.length:Int))) (Br (decide ((1000:Int) < ((((at_ a.1 y13).1).1).size:Int))) ((false=(f0 a))∧True) (Let (IntKind.i64.wrap (y13+(1:Int))) (fun v24:Int=>∃ x25:Int,SlS aK a.1 (((a.1.length:Int)=(a.1.length:Int))∧(v24=x25)∧I11 x25∧μ12 x25 < μ12 y13)))) False)) False) ((true=(f0 a))∧True)))))
def f392.vc (a:(List (aC))×(List (aH))×aG):Prop:=(((40:Int) < (a.1.length:Int)→(false=f0 a))∧(¬((40:Int) < (a.1.length:Int))→(((100:Int) < (a.2.1.length:Int)→(false=f0 a))∧(¬((100:Int) < (a.2.1.length:Int))→(((20:Int) < (a.2.2.2.2.2.2.1.length:Int)→(false=f0 a))∧(¬((20:Int) < (a.2.2.2.2.2.2.1.length:Int))→(∃ (I11:Int→Prop) (μ12:Int→Nat),I11 (0:Int)∧∀ y13:Int,I11 y13→((y13 < (a.1.length:Int)→((0:Int)≤y13∧y13 < (a.1.length:Int)∧(((20:Int) < ((((at_ a.1 y13).1).2.2).length:Int)→(false=f0 a))∧(¬((20:Int) < ((((at_ a.1 y13).1).2.2).length:Int))→((0:Int)≤y13∧y13 < (a.1.length:Int)∧(((1000:Int) < ((((at_ a.1 y13).1).1).size:Int)→(false=f0 a))∧(¬((1000:Int) < ((((at_ a.1 y13).1).1).size:Int))→(-9223372036854775808≤(y13+(1:Int))∧(y13+(1:Int))≤9223372036854775807∧(I11 (y13+(1:Int))∧μ12 (y13+(1:Int)) < μ12 y13)))))))))∧(¬(y13 < (a.1.length:Int))→(true=f0 a))))))))))
set_option maxRecDepth 100000 in
set_option maxHeartbeats 2000000 in
theorem f392.of (a:(List (aC))×(List (aH))×aG) (h:f392.vc a):f392.tree a:=br h Cnd.dec (fun h1 k46=>⟨k46,trivial⟩) (fun h2 k47=>br k47 Cnd.dec (fun h4 k44=>⟨k44,trivial⟩) (fun h5 k45=>br k45 Cnd.dec (fun h7 k42=>⟨k42,trivial⟩) (fun h8 k43=>Exists.elim k43 (fun I11 h39_=>Exists.elim h39_ (fun μ12 h39=>⟨I11,μ12,⟨(0:Int),SlS.mk  (⟨rfl,⟨rfl,h39.1⟩⟩)⟩,fun y13 h41=>br (h39.2 y13 h41) Cnd.dec (fun h14 k37=>chk k37.2.2 Cnd.ix ⟨k37.1,k37.2.1⟩ (fun h16 k35=>br k35 Cnd.dec (fun h17 k33=>⟨k33,trivial⟩) (fun h18 k34=>chk k34.2.2 Cnd.ix ⟨k34.1,k34.2.1⟩ (fun h20 k32=>br k32 Cnd.dec (fun h21 k30=>⟨k30,trivial⟩) (fun h22 k31=>wrapK.i64 k31 (fun h27 h28 k29=>⟨(y13+(1:Int)),SlS.mk  (⟨rfl,⟨rfl,k29⟩⟩)⟩)))))) (fun h15 k38=>⟨k38,trivial⟩)⟩)))))
theorem f392.eq (a:(List (aC))×(List (aH))×aG):(f392.af a).gives f392.env (f392.args a) (f392.blks a) (f392.res a) (f392.blks' a)=f392.tree a:=by kernel_rfl
end Go.Abs

-- interregnum/interregnumref12.Sorted
namespace Go.Abs
open Go
end Go.Abs

/- interregnum/interregnumref12.Sorted -/
namespace Go.Abs
open Go
set_option linter.unusedVariables false
end Go.Abs

-- interregnum/interregnumref12.Best
namespace Go.Abs
open Go
end Go.Abs

/- interregnum/interregnumref12.Best -/
namespace Go.Abs
open Go
set_option linter.unusedVariables false
end Go.Abs

/- Scores,and the machines in the order of these: what the code asks is so. -/
namespace Go.Abs
open Go

theorem mN {x w:Int} (hx:0≤x∧x≤1048576):(0 < w→jA x w=1000 * x / w∧0≤1000 * x / w∧1000 * x / w≤1048576000)∧(¬0 < w→jA x w=0):=by
 refine ⟨fun h=>⟨if_pos h,Int.ediv_nonneg (by omega) (by omega),?_⟩,fun h=>if_neg h⟩
 have:=Int.ediv_le_self w (show 0≤1000 * x by omega)
 omega

theorem aGF {v:aD×aD→Prop} (hv:∀ a,v a↔f222.vc a) (a:aD×aD):v a:=by
 rw [hv]
 obtain ⟨⟨x,y,z⟩,⟨p,q,r⟩⟩:=a
 refine ⟨fun c=>(if_pos c).symm,fun c1=>⟨fun c=>((if_neg c1).trans (if_pos c)).symm,fun c2=>?_⟩⟩
 obtain ⟨hx,hy,hz⟩:=jK.1 (Classical.not_not.1 c1)
 have e:dI ((x,y,z),(p,q,r))=jA x p+jA y q+jA z r:=(if_neg c1).trans (if_neg c2)
 rw [e]
 simp only at hx hy hz ⊢
 obtain ⟨x1,x2⟩:=mN (w:=p) hx
 obtain ⟨y1,y2⟩:=mN (w:=q) hy
 obtain ⟨z1,z2⟩:=mN (w:=r) hz
 generalize 1000 * x / p=X at *
 generalize 1000 * y / q=Y at *
 generalize 1000 * z / r=Z at *
 generalize jA x p=sx at *
 generalize jA y q=sy at *
 generalize jA z r=sz at *
 refine ⟨fun a1=>⟨by omega,by omega,by omega,by omega,a1,by omega,by omega,fun b1=>⟨by omega,by omega,by omega,by omega,b1,by omega,by omega,fun d1=>⟨by omega,by omega,by omega,by omega,d1,by omega,by omega,by omega⟩,fun d1=>by omega⟩,fun b1=>⟨fun d1=>⟨by omega,by omega,by omega,by omega,d1,by omega,by omega,by omega⟩,fun d1=>by omega⟩⟩,
  fun a1=>⟨fun b1=>⟨by omega,by omega,by omega,by omega,b1,by omega,by omega,fun d1=>⟨by omega,by omega,by omega,by omega,d1,by omega,by omega,by omega⟩,fun d1=>by omega⟩,fun b1=>⟨fun d1=>⟨by omega,by omega,by omega,by omega,d1,by omega,by omega,by omega⟩,fun d1=>by omega⟩⟩⟩
theorem f222.ok (a:aD×aD) (_:True):f222.vc a:=aGF (fun _=>Iff.rfl) a
theorem f197.ok (a:cM×List dT×cE) (h:gA a):f197.vc a:=⟨h,fun c=>(if_pos c).symm,fun c=>⟨h.1,(if_neg c).symm⟩⟩
theorem aB7 (l m:List cM) (b:List dT×cE):dV (l++m,b)=dV (l,b)++dV (m,b):=by
 unfold dV
 rw [List.filter_append,List.map_append]
theorem aBY (m:cM) (b:List dT×cE):dV ([m],b)=if (cY (m,b)).2=true then [(m.1.1,(cY (m,b)).1)] else []:=by
 unfold dV
 by_cases h:(cY (m,b)).2=true
 ·rw [if_pos h,List.filter_cons_of_pos (p:=fun x:cM=>(cY (x,([m],b).2)).2) h]
  rfl
 ·rw [if_neg h,List.filter_cons_of_neg (p:=fun x:cM=>(cY (x,([m],b).2)).2) h]
  rfl
theorem uI (l:List cM) (b:List dT×cE):(dV (l,b)).length≤l.length:=by
 unfold dV
 rw [List.length_map]
 exact List.length_filter_le _ _
theorem rD {l:List cM} {i:Int} (b:List dT×cE) (h0:0≤i) (hlt:i < (l.length:Int)):dV (l.take (i+1).toNat,b)=dV (l.take i.toNat,b)++if (cY (at_ l i,b)).2=true then [((at_ l i).1.1,(cY (at_ l i,b)).1)] else []:=by
 rw [show (i+1).toNat=i.toNat+1 from by omega,wQ (by omega),aB7,aBY]
 rfl

theorem aFR (a:List cM×List dT×cE):gQ aF (dV a)=fG a:=aGT aF rJ aIE _
theorem aDG (a:List cM×List dT×cE):(fG a).length≤a.1.length:=by
 unfold fG
 rw [iS]
 exact uI _ _

theorem f171.ok (a:List cM×List dT×cE) (h:cI a):f171.vc a:=by
 obtain ⟨l,jobs,t⟩:=a
 obtain ⟨h1,h2⟩:=h
 have h1:l.length≤1048576:=h1
 refine ⟨fun y=>0≤y.1∧y.1≤(l.length:Int)∧y.2=dV (l.take y.1.toNat,jobs,t)∧y.2.length≤y.1.toNat,fun y=>l.length - y.1.toNat,⟨by simp only; omega,by simp only; omega,rfl,Nat.le_refl _⟩,fun y hy=>?_⟩
 obtain ⟨i,out⟩:=y
 obtain ⟨g0,g1,g2,g3⟩:=hy
 simp only at g0 g1 g2 g3 ⊢
 refine ⟨fun hlt=>⟨g0,hlt,h2 _ (pT (l:=l) (i:=i.toNat) (by omega)),fun c=>⟨by omega,by omega,by omega,⟨by omega,by omega,?_,?_⟩,by omega⟩,fun c=>⟨by omega,by omega,⟨by omega,by omega,?_,by omega⟩,by omega⟩⟩,fun hge=>?_⟩
 ·rw [rD _ g0 hlt,if_pos c,g2]
 ·rw [List.length_append,List.length_singleton]
  omega
 ·rw [rD _ g0 hlt,if_neg c,List.append_nil]
  exact g2
 ·rw [List.take_of_length_le (by omega)] at g2
  subst g2
  have hl:=uI l (jobs,t)
  refine ⟨by unfold mM; omega,?_,aFR _⟩
  rw [aFR]
  exact iS _

theorem f151.ok (a:List cM×List dT×cE) (h:cI a):f151.vc a:=by
 refine ⟨h,fun c=>?_,fun c=>⟨by omega,?_⟩⟩
 ·unfold iJ
  rw [if_pos (by exact Int.ofNat.inj c)]
 ·unfold iJ
  rw [if_neg (fun e=>c (by rw [show (a.1,a.2.1,a.2.2)=a from rfl,e]; rfl))]

theorem f395.ok (a:List cM×List dT×cE) (h:cI a):f395.vc a:=by
 have hl:=aDG a
 have h1:a.1.length≤1048576:=h.1
 refine ⟨h,fun y=>y.2.1=fG a∧y.2.2.1=((fG a).length:Int)∧0≤y.2.2.2∧y.2.2.2≤((fG a).length:Int)∧y.1=((fG a).take y.2.2.2.toNat).map Prod.fst,fun y=>(fG a).length - y.2.2.2.toNat,⟨rfl,rfl,by simp only; omega,by simp only; omega,rfl⟩,fun y hy=>?_⟩
 obtain ⟨out,s,n,i⟩:=y
 obtain ⟨e1,e2,g0,g1,g2⟩:=hy
 simp only at e1 e2 g0 g1 g2 ⊢
 subst e1; subst e2; subst g2
 refine ⟨fun hlt=>⟨g0,hlt,?_,by omega,by omega,⟨by trivial,by trivial,by omega,by omega,?_⟩,by omega⟩,fun hge=>?_⟩
 ·rw [List.length_map,List.length_take]
  omega
 ·rw [show (i+1).toNat=i.toNat+1 from by omega,wQ (by omega),List.map_append]
  rfl
 ·rw [List.take_of_length_le (by omega)]
  rfl

theorem t0 (a:List cM×List dT×cE):(bR a).length=(fG a).length:=List.length_map ..

theorem iV {a:List cM×List dT×cE}:f0 a=true↔(a.1.length≤40∧a.2.1.length≤100∧a.2.2.2.2.2.2.1.length≤20)∧∀ i,i < a.1.length→(a.1.getD i default).1.2.2.length≤20∧(a.1.getD i default).1.1.size≤1000:=by
 unfold f0
 rw [Bool.and_eq_true,decide_eq_true_eq,List.all_eq_true]
 exact ⟨fun h=>⟨h.1,fun i hi=>of_decide_eq_true (h.2 i (List.mem_range.2 hi))⟩,fun h=>⟨h.1,fun i hi=>decide_eq_true (h.2 i (List.mem_range.1 hi))⟩⟩

theorem f392.ok (a:List cM×List dT×cE) (h:kI a):f392.vc a:=by
 obtain ⟨l,j,t⟩:=a
 have no:¬f0 (l,j,t)=true→false=f0 (l,j,t):=fun h=>(Bool.eq_false_iff.2 h).symm
 refine ⟨fun c=>no fun hh=>?_,fun c1=>⟨fun c=>no fun hh=>?_,fun c2=>⟨fun c=>no fun hh=>?_,fun c0=>?_⟩⟩⟩
 ·have:=(iV.1 hh).1.1; simp only at c this; omega
 ·have:=(iV.1 hh).1.2.1; simp only at c this; omega
 ·have:=(iV.1 hh).1.2.2; simp only at c this; omega
 ·simp only at c0 c1 c2
  refine ⟨fun y=>0≤y∧y≤(l.length:Int)∧∀ k,k < y.toNat→(l.getD k default).1.2.2.length≤20∧(l.getD k default).1.1.size≤1000,fun y=>l.length - y.toNat,⟨by omega,by omega,fun k hk=>by simp at hk⟩,fun y hy=>?_⟩
  obtain ⟨g0,g1,g2⟩:=hy
  simp only
  refine ⟨fun hlt=>⟨g0,hlt,fun c=>no fun hh=>?_,fun c3=>⟨g0,hlt,fun c=>no fun hh=>?_,fun c4=>⟨by omega,by omega,⟨by omega,by omega,fun k hk=>?_⟩,by omega⟩⟩⟩,fun hge=>?_⟩
  ·have:=((iV.1 hh).2 y.toNat (by simp only; omega)).1
   simp only at this
   rw [← sN] at this
   omega
  ·have:=((iV.1 hh).2 y.toNat (by simp only; omega)).2
   simp only at this
   rw [← sN] at this
   omega
  ·by_cases he:k=y.toNat
   ·subst he
    rw [← sN]
    omega
   ·exact g2 k (by omega)
  ·exact (iV.2 ⟨⟨by simp only; omega,by simp only; omega,by simp only; omega⟩,fun i hi=>g2 i (by simp only at hi; omega)⟩).symm

theorem aH4 {α:Type} {lt:α→α→Bool} (tot:∀ x y,lt x y=false→lt y x=false→x=y) {l m:List α} (h:l.Perm m):FE lt l m:=fun z=>by
 have one:∀ m:List α,m.filter (kin lt z)=List.replicate (m.filter (kin lt z)).length z:=fun m=>by
  refine List.eq_replicate_iff.2 ⟨rfl,fun x hx=>?_⟩
  obtain ⟨k1,k2⟩:=sJ.1 (List.mem_filter.1 hx).2
  exact (tot z x k1 k2).symm
 rw [one l,one m,(h.filter _).length_eq]

theorem aCD:Weak aF:=by
 refine ⟨fun {x y} h=>?_,fun {x y z} h1 h2=>rJ.ntrans z y x h2 h1⟩
 cases hh:aF y x with
 | false=>rfl
 | true =>
  have:=rJ.trans x y x h hh
  rw [rJ.irrefl] at this
  cases this

theorem y6 {l m:List TSc} (h:l.Perm m):lZ aF l=lZ aF m:=tC aCD (uR aCD l) ((s9 aCD l).trans (aH4 aIE h))

end Go.Abs
