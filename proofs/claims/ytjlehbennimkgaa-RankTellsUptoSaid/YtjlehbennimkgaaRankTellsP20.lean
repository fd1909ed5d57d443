/- Functions, and what the code asks of them: PRank. -/
import Derived.KernelRfl
import Derived.Test.YtjlehbennimkgaaRankTellsP4
import Derived.Test.YtjlehbennimkgaaRankTellsP5
import Derived.Test.YtjlehbennimkgaaRankTellsP6
import Derived.Test.YtjlehbennimkgaaRankTellsP9
import Derived.Test.YtjlehbennimkgaaRankTellsP10
import Derived.Test.YtjlehbennimkgaaRankTellsP12
import Derived.Test.YtjlehbennimkgaaRankTellsP13
import Derived.Test.YtjlehbennimkgaaRankTellsP14
import Derived.Test.YtjlehbennimkgaaRankTellsP15
import Derived.Test.YtjlehbennimkgaaRankTellsP16
import Derived.Test.YtjlehbennimkgaaRankTellsP17
import Derived.Test.YtjlehbennimkgaaRankTellsP18
import Derived.Test.YtjlehbennimkgaaRankTellsP19
set_option maxRecDepth 100000
set_option maxHeartbeats 4000000
set_option linter.unusedVariables false
set_option linter.unusedSimpArgs false
namespace Go.Abs
open Go
def jX (x w:Int):Int:=if 0 < w then 1000 * x / w else 0
def bT (c:dO×dO):Int:=if ¬aR c.1=true then 0 else if ¬aR c.2=true then 0 else jX c.1.1 c.2.1+jX c.1.2.1 c.2.2.1+jX c.1.2.2 c.2.2.2
def bN (a:cO×List dW×cJ):Int×Bool:=if ¬eF a=0 then (0,false) else (bT ((dP ((bX (a.1,a.2.1)).1,a.2.2.2.2.2.1)).1,a.1.1.2.1),true)
def cA (a:List cO×List dW×cJ):Prop:=L20 a.1∧∀ m∈a.1,dK (m,a.2)
def fZ (a:List cO×List dW×cJ):List TSc:=(a.1.filter fun m=>(bN (m,a.2)).2).map fun m=>(m.1.1,(bN (m,a.2)).1)
def eA (a:List cO×List dW×cJ):List TSc:=kH aJ (fZ a)
def dI (a:List cO×List dW×cJ):ByteArray×Bool:=if (eA a).length=0 then (ByteArray.empty,false) else ((at_ (eA a) 0).1,true)
def cU (a:List cO×List dW×cJ):List ByteArray:=(eA a).map Prod.fst
def gS (a:List cO×List dW×cJ):Bool:=decide (a.1.length≤40∧a.2.1.length≤100∧a.2.2.2.2.2.2.1.length≤20)&&(List.range a.1.length).all fun i=>decide ((a.1.getD i default).1.2.2.length≤20∧(a.1.getD i default).1.1.size≤1000)
def kT (a:List cO×List dW×cJ):Prop:=L20 a.1∧L20 a.2.1∧L20 a.2.2.2.2.2.2.1∧∀ m∈a.1,m.1.1.size≤1073741824∧L20 m.1.2.2
def f222.ent (K:(aC×aC)→Prop) (t:aC×aC):Prop:=∃ c:aC×aC,(t.1.1=c.1.1)∧(t.1.2.1=c.1.2.1)∧(t.1.2.2=c.1.2.2)∧(t.2.1=c.2.1)∧(t.2.2.1=c.2.2.1)∧(t.2.2.2=c.2.2.2)∧K c
theorem f222.ei {K:(aC×aC)→Prop} {t:aC×aC} (h:K t):f222.ent K t:=⟨t,⟨rfl,⟨rfl,⟨rfl,⟨rfl,⟨rfl,⟨rfl,h⟩⟩⟩⟩⟩⟩⟩
def f222.args (a:aC×aC):List D:=[.agg [.int .i64 a.1.1,.int .i64 a.1.2.1,.int .i64 a.1.2.2],.agg [.int .i64 a.2.1,.int .i64 a.2.2.1,.int .i64 a.2.2.2]]
def f222.blks (a:aC×aC):List (List D):=[]
def f222.res (a:aC×aC):List D:=[.int .i64 (bT a)]
def f222.blks' (a:aC×aC):List (List D):=[]
def f222.C:aN:=FnC f222.args f222.blks (fun _=>True) f222.res f222.blks'
set_option linter.unusedVariables false
def f222.kills (a:aC×aC):List Hint:=[.unroll 4 [0,1,3,4,6,7,8,9,10,11,12,13,14,15,18,19,20,21,22,23,24,25,26,27,28,29,30,31,32] [0] []]
def f222.cuts (a:aC×aC):List (Nat×Σ β:Type,β→Tm):=[]
def f222.af (a:aC×aC):AF:=AF.mk (.seq (.region [oT 2 0 .box [0],
 oT 3 1 .box [1],
 ⟨(some 4),2,.move,[.c (.int .i64 (0))],none⟩])
 (.seq (.seq (.region [oT 8 3 (.load true 3) [2],
 oT 9 4 (.call false 49) [8],
 oT 10 8 (.un .not) [9],
 mT 11 9 10,
 oG 12 10 (.load true 3) [3] 11 false,
 oG 13 11 (.call false 49) [12] 11 false,
 oG 14 15 (.un .not) [13] 11 false,
 ⟨(some 15),16,.pick,[.t 11,.c (.bool true),.t 14],none⟩])
 (.cond (.t 15) (.seq (.region [⟨(some 4),17,.move,[.c (.int .i64 (0))],none⟩])
 (.ret)) (.skip)))
 (.seq (.region [⟨(some 5),18,.move,[.c (.int .i64 (0))],none⟩])
 (.seq (.seq (.region [oT 16 19 (.load true 3) [3],
 ⟨(some 17),20,.move,[.c (.int .i64 (0))],none⟩])
 (.block 0 (.loop 4 [0,1,3,4,6,7,8,9,10,11,12,13,14,15,18,19,20,21,22,23,24,25,26,27,28,29,30,31,32] [0] [] 21 39 (.seq (.region [⟨(some 18),21,(.bin .lss),[.t 17,.c (.int .i64 (3))],none⟩])
 (.seq (.cond (.t 18) (.skip) (.exit 0))
 (.seq (.block 1 (.seq (.region [mT 19 22 17,
 oT 20 23 (.indexArr false 1 3) [16,17],
 mT 6 24 19,
 mT 7 25 20])
 (.seq (.region [mT 21 26 7,
 ⟨(some 22),27,(.bin .gtr),[.t 21,.c (.int .i64 (0))],none⟩])
 (.cond (.t 22) (.region [mT 23 28 5,
 mT 24 29 6,
 oT 25 30 (.indexAddr 1 (some 3)) [2,24],
 oT 26 31 (.load false 1) [25],
 ⟨(some 27),32,(.bin .mul),[.c (.int .i64 (1000)),.t 26],none⟩,
 mT 28 33 7,
 oT 29 34 (.bin .quo) [27,28],
 oT 30 35 (.bin .add) [23,29],
 mT 5 36 30]) (.skip)))))
 (.region [⟨(some 31),37,(.bin .add),[.t 17,.c (.int .i64 (1))],none⟩,
 mT 17 38 31])))))))
 (.seq (.region [mT 32 39 5,
 mT 4 40 32])
 (.ret))))))
 [.tmp 4] 0 31
def f222.env:Env:=[(49,f49.C)]
def f222.tree (a:aC×aC):Prop:=∃ c1:aC,(a.1.1=c1.1)∧(a.1.2.1=c1.2.1)∧(a.1.2.2=c1.2.2)∧True∧Br (!(aR c1)) (((0:Int)=(bT a))∧True) (∃ c5:aC,(a.2.1=c5.1)∧(a.2.2.1=c5.2.1)∧(a.2.2.2=c5.2.2)∧True∧Br (!(aR c5)) (((0:Int)=(bT a))∧True) (Br (decide ((0:Int) < a.2.1)) (Let (wI ((1000:Int) * a.1.1)) (fun v11:Int=>Br (!(a.2.1==0)) (Let (wI (Int.tdiv v11 a.2.1)) (fun v12:Int=>Let (wI ((0:Int)+v12)) (fun v13:Int=>Br (decide ((0:Int) < a.2.2.1)) (Let (wI ((1000:Int) * a.1.2.1)) (fun v16:Int=>Br (!(a.2.2.1==0)) (Let (wI (Int.tdiv v16 a.2.2.1)) (fun v17:Int=>Let (wI (v13+v17)) (fun v18:Int=>Br (decide ((0:Int) < a.2.2.2)) (Let (wI ((1000:Int) * a.1.2.2)) (fun v21:Int=>Br (!(a.2.2.2==0)) (Let (wI (Int.tdiv v21 a.2.2.2)) (fun v22:Int=>Let (wI (v18+v22)) (fun v23:Int=>(v23=(bT a))∧True))) False)) ((v18=(bT a))∧True)))) False)) (Br (decide ((0:Int) < a.2.2.2)) (Let (wI ((1000:Int) * a.1.2.2)) (fun v42:Int=>Br (!(a.2.2.2==0)) (Let (wI (Int.tdiv v42 a.2.2.2)) (fun v43:Int=>Let (wI (v13+v43)) (fun v44:Int=>(v44=(bT a))∧True))) False)) ((v13=(bT a))∧True))))) False)) (Br (decide ((0:Int) < a.2.2.1)) (Let (wI ((1000:Int) * a.1.2.1)) (fun v65:Int=>Br (!(a.2.2.1==0)) (Let (wI (Int.tdiv v65 a.2.2.1)) (fun v66:Int=>Let (wI ((0:Int)+v66)) (fun v67:Int=>Br (decide ((0:Int) < a.2.2.2)) (Let (wI ((1000:Int) * a.1.2.2)) (fun v70:Int=>Br (!(a.2.2.2==0)) (Let (wI (Int.tdiv v70 a.2.2.2)) (fun v71:Int=>Let (wI (v67+v71)) (fun v72:Int=>(v72=(bT a))∧True))) False)) ((v67=(bT a))∧True)))) False)) (Br (decide ((0:Int) < a.2.2.2)) (Let (wI ((1000:Int) * a.1.2.2)) (fun v91:Int=>Br (!(a.2.2.2==0)) (Let (wI (Int.tdiv v91 a.2.2.2)) (fun v92:Int=>Let (wI ((0:Int)+v92)) (fun v93:Int=>(v93=(bT a))∧True))) False)) (((0:Int)=(bT a))∧True)))))
def f222.vc (a:aC×aC):Prop:=((¬((aR (a.1))=true)→((0:Int)=bT a))∧(¬(¬((aR (a.1))=true))→((¬((aR (a.2))=true)→((0:Int)=bT a))∧(¬(¬((aR (a.2))=true))→(((0:Int) < a.2.1→(-9223372036854775808≤((1000:Int) * a.1.1)∧((1000:Int) * a.1.1)≤9223372036854775807∧(0≤((1000:Int) * a.1.1)∧((1000:Int) * a.1.1)≤9223372036854775807∧0 < a.2.1∧(-9223372036854775808≤((0:Int)+(((1000:Int) * a.1.1) / a.2.1))∧((0:Int)+(((1000:Int) * a.1.1) / a.2.1))≤9223372036854775807∧(((0:Int) < a.2.2.1→(-9223372036854775808≤((1000:Int) * a.1.2.1)∧((1000:Int) * a.1.2.1)≤9223372036854775807∧(0≤((1000:Int) * a.1.2.1)∧((1000:Int) * a.1.2.1)≤9223372036854775807∧0 < a.2.2.1∧(-9223372036854775808≤(((0:Int)+(((1000:Int) * a.1.1) / a.2.1))+(((1000:Int) * a.1.2.1) / a.2.2.1))∧(((0:Int)+(((1000:Int) * a.1.1) / a.2.1))+(((1000:Int) * a.1.2.1) / a.2.2.1))≤9223372036854775807∧(((0:Int) < a.2.2.2→(-9223372036854775808≤((1000:Int) * a.1.2.2)∧((1000:Int) * a.1.2.2)≤9223372036854775807∧(0≤((1000:Int) * a.1.2.2)∧((1000:Int) * a.1.2.2)≤9223372036854775807∧0 < a.2.2.2∧(-9223372036854775808≤((((0:Int)+(((1000:Int) * a.1.1) / a.2.1))+(((1000:Int) * a.1.2.1) / a.2.2.1))+(((1000:Int) * a.1.2.2) / a.2.2.2))∧((((0:Int)+(((1000:Int) * a.1.1) / a.2.1))+(((1000:Int) * a.1.2.1) / a.2.2.1))+(((1000:Int) * a.1.2.2) / a.2.2.2))≤9223372036854775807∧(((((0:Int)+(((1000:Int) * a.1.1) / a.2.1))+(((1000:Int) * a.1.2.1) / a.2.2.1))+(((1000:Int) * a.1.2.2) / a.2.2.2))=bT a)))))∧(¬((0:Int) < a.2.2.2)→((((0:Int)+(((1000:Int) * a.1.1) / a.2.1))+(((1000:Int) * a.1.2.1) / a.2.2.1))=bT a)))))))∧(¬((0:Int) < a.2.2.1)→(((0:Int) < a.2.2.2→(-9223372036854775808≤((1000:Int) * a.1.2.2)∧((1000:Int) * a.1.2.2)≤9223372036854775807∧(0≤((1000:Int) * a.1.2.2)∧((1000:Int) * a.1.2.2)≤9223372036854775807∧0 < a.2.2.2∧(-9223372036854775808≤(((0:Int)+(((1000:Int) * a.1.1) / a.2.1))+(((1000:Int) * a.1.2.2) / a.2.2.2))∧(((0:Int)+(((1000:Int) * a.1.1) / a.2.1))+(((1000:Int) * a.1.2.2) / a.2.2.2))≤9223372036854775807∧((((0:Int)+(((1000:Int) * a.1.1) / a.2.1))+(((1000:Int) * a.1.2.2) / a.2.2.2))=bT a)))))∧(¬((0:Int) < a.2.2.2)→(((0:Int)+(((1000:Int) * a.1.1) / a.2.1))=bT a)))))))))∧(¬((0:Int) < a.2.1)→(((0:Int) < a.2.2.1→(-9223372036854775808≤((1000:Int) * a.1.2.1)∧((1000:Int) * a.1.2.1)≤9223372036854775807∧(0≤((1000:Int) * a.1.2.1)∧((1000:Int) * a.1.2.1)≤9223372036854775807∧0 < a.2.2.1∧(-9223372036854775808≤((0:Int)+(((1000:Int) * a.1.2.1) / a.2.2.1))∧((0:Int)+(((1000:Int) * a.1.2.1) / a.2.2.1))≤9223372036854775807∧(((0:Int) < a.2.2.2→(-9223372036854775808≤((1000:Int) * a.1.2.2)∧((1000:Int) * a.1.2.2)≤9223372036854775807∧(0≤((1000:Int) * a.1.2.2)∧((1000:Int) * a.1.2.2)≤9223372036854775807∧0 < a.2.2.2∧(-9223372036854775808≤(((0:Int)+(((1000:Int) * a.1.2.1) / a.2.2.1))+(((1000:Int) * a.1.2.2) / a.2.2.2))∧(((0:Int)+(((1000:Int) * a.1.2.1) / a.2.2.1))+(((1000:Int) * a.1.2.2) / a.2.2.2))≤9223372036854775807∧((((0:Int)+(((1000:Int) * a.1.2.1) / a.2.2.1))+(((1000:Int) * a.1.2.2) / a.2.2.2))=bT a)))))∧(¬((0:Int) < a.2.2.2)→(((0:Int)+(((1000:Int) * a.1.2.1) / a.2.2.1))=bT a)))))))∧(¬((0:Int) < a.2.2.1)→(((0:Int) < a.2.2.2→(-9223372036854775808≤((1000:Int) * a.1.2.2)∧((1000:Int) * a.1.2.2)≤9223372036854775807∧(0≤((1000:Int) * a.1.2.2)∧((1000:Int) * a.1.2.2)≤9223372036854775807∧0 < a.2.2.2∧(-9223372036854775808≤((0:Int)+(((1000:Int) * a.1.2.2) / a.2.2.2))∧((0:Int)+(((1000:Int) * a.1.2.2) / a.2.2.2))≤9223372036854775807∧(((0:Int)+(((1000:Int) * a.1.2.2) / a.2.2.2))=bT a)))))∧(¬((0:Int) < a.2.2.2)→((0:Int)=bT a)))))))))))
theorem f222.of (a:aC×aC) (h:f222.vc a):f222.tree a:=⟨a.1,⟨rfl,⟨rfl,⟨rfl,⟨trivial,br h (Cnd.not Cnd.b) (fun h2 k111=>⟨k111,trivial⟩) (fun h3 k112=>⟨a.2,⟨rfl,⟨rfl,⟨rfl,⟨trivial,br k112 (Cnd.not Cnd.b) (fun h6 k108=>⟨k108,trivial⟩) (fun h7 k109=>br k109 Cnd.dec (fun h9 k106=>wrapK.i64 k106 (fun h60 h61 k62=>rK (Cnd.not Cnd.eq) (by have:=k62.2.2.1; omega) (divK.i64 k62.1 k62.2.1 k62.2.2.1 (wrapK.i64 k62.2.2.2 (fun h57 h58 k59=>br k59 Cnd.dec (fun h14 k55=>wrapK.i64 k55 (fun h37 h38 k39=>rK (Cnd.not Cnd.eq) (by have:=k39.2.2.1; omega) (divK.i64 k39.1 k39.2.1 k39.2.2.1 (wrapK.i64 k39.2.2.2 (fun h34 h35 k36=>br k36 Cnd.dec (fun h19 k32=>wrapK.i64 k32 (fun h28 h29 k30=>rK (Cnd.not Cnd.eq) (by have:=k30.2.2.1; omega) (divK.i64 k30.1 k30.2.1 k30.2.2.1 (wrapK.i64 k30.2.2.2 (fun h25 h26 k27=>⟨k27,trivial⟩))))) (fun h20 k33=>⟨k33,trivial⟩)))))) (fun h15 k56=>br k56 Cnd.dec (fun h40 k53=>wrapK.i64 k53 (fun h49 h50 k51=>rK (Cnd.not Cnd.eq) (by have:=k51.2.2.1; omega) (divK.i64 k51.1 k51.2.1 k51.2.2.1 (wrapK.i64 k51.2.2.2 (fun h46 h47 k48=>⟨k48,trivial⟩))))) (fun h41 k54=>⟨k54,trivial⟩))))))) (fun h10 k107=>br k107 Cnd.dec (fun h63 k104=>wrapK.i64 k104 (fun h86 h87 k88=>rK (Cnd.not Cnd.eq) (by have:=k88.2.2.1; omega) (divK.i64 k88.1 k88.2.1 k88.2.2.1 (wrapK.i64 k88.2.2.2 (fun h83 h84 k85=>br k85 Cnd.dec (fun h68 k81=>wrapK.i64 k81 (fun h77 h78 k79=>rK (Cnd.not Cnd.eq) (by have:=k79.2.2.1; omega) (divK.i64 k79.1 k79.2.1 k79.2.2.1 (wrapK.i64 k79.2.2.2 (fun h74 h75 k76=>⟨k76,trivial⟩))))) (fun h69 k82=>⟨k82,trivial⟩)))))) (fun h64 k105=>br k105 Cnd.dec (fun h89 k102=>wrapK.i64 k102 (fun h98 h99 k100=>rK (Cnd.not Cnd.eq) (by have:=k100.2.2.1; omega) (divK.i64 k100.1 k100.2.1 k100.2.2.1 (wrapK.i64 k100.2.2.2 (fun h95 h96 k97=>⟨k97,trivial⟩))))) (fun h90 k103=>⟨k103,trivial⟩))))⟩⟩⟩⟩⟩)⟩⟩⟩⟩⟩
theorem f222.eq (a:aC×aC):(f222.af a).gives f222.env (f222.args a) (f222.blks a) (f222.res a) (f222.blks' a)=f222.tree a:=by kernel_rfl
def f400.ent (K:(aC×aC)→Prop) (t:aC×aC):Prop:=∃ c:aC×aC,(t.1.1=c.1.1)∧(t.1.2.1=c.1.2.1)∧(t.1.2.2=c.1.2.2)∧(t.2.1=c.2.1)∧(t.2.2.1=c.2.2.1)∧(t.2.2.2=c.2.2.2)∧K c
theorem f400.ei {K:(aC×aC)→Prop} {t:aC×aC} (h:K t):f400.ent K t:=⟨t,⟨rfl,⟨rfl,⟨rfl,⟨rfl,⟨rfl,⟨rfl,h⟩⟩⟩⟩⟩⟩⟩
def f400.args (a:aC×aC):List D:=[.agg [.int .i64 a.1.1,.int .i64 a.1.2.1,.int .i64 a.1.2.2],.agg [.int .i64 a.2.1,.int .i64 a.2.2.1,.int .i64 a.2.2.2]]
def f400.blks (a:aC×aC):List (List D):=[]
def f400.res (a:aC×aC):List D:=[.int .i64 (bT a)]
def f400.blks' (a:aC×aC):List (List D):=[]
def f400.C:aN:=FnC f400.args f400.blks (fun _=>True) f400.res f400.blks'
def f400.kills (a:aC×aC):List Hint:=[.unroll 4 [0,1,4,7,8,9,10,11,12,13,14,15,16,17,18,19,20,21,22,23,24,25,26,27,28,29,30,31,32,33] [0,1] []]
def f400.cuts (a:aC×aC):List (Nat×Σ β:Type,β→Tm):=[]
def f400.af (a:aC×aC):AF:=AF.mk (.seq (.region [oT 2 0 .box [0],
 oT 3 1 .box [1],
 ⟨(some 4),2,.move,[.c (.int .i64 (0))],none⟩])
 (.seq (.seq (.region [oT 7 3 (.load true 3) [2],
 oT 8 4 (.call false 55) [7],
 oT 9 8 (.un .not) [8],
 mT 10 9 9,
 oG 11 10 (.load true 3) [3] 10 false,
 oG 12 11 (.call false 55) [11] 10 false,
 oG 13 15 (.un .not) [12] 10 false,
 ⟨(some 14),16,.pick,[.t 10,.c (.bool true),.t 13],none⟩])
 (.cond (.t 14) (.seq (.region [⟨(some 4),17,.move,[.c (.int .i64 (0))],none⟩])
 (.ret)) (.skip)))
 (.seq (.region [⟨(some 5),18,.move,[.c (.int .i64 (0))],none⟩])
 (.seq (.seq (.region [⟨(some 6),19,.move,[.c (.int .i64 (0))],none⟩])
 (.block 0 (.loop 4 [0,1,4,7,8,9,10,11,12,13,14,15,16,17,18,19,20,21,22,23,24,25,26,27,28,29,30,31,32,33] [0,1] [] 20 40 (.seq (.seq (.region [mT 15 20 6,
 ⟨(some 16),21,(.bin .lss),[.t 15,.c (.int .i64 (3))],none⟩])
 (.cond (.t 16) (.skip) (.exit 0)))
 (.seq (.block 1 (.seq (.region [mT 19 22 6,
 oT 20 23 (.indexAddr 1 (some 3)) [3,19],
 oT 21 24 (.load false 1) [20],
 ⟨(some 22),25,(.bin .gtr),[.t 21,.c (.int .i64 (0))],none⟩])
 (.cond (.t 22) (.region [mT 23 26 5,
 mT 24 27 6,
 oT 25 28 (.indexAddr 1 (some 3)) [2,24],
 oT 26 29 (.load false 1) [25],
 ⟨(some 27),30,(.bin .mul),[.c (.int .i64 (1000)),.t 26],none⟩,
 mT 28 31 6,
 oT 29 32 (.indexAddr 1 (some 3)) [3,28],
 oT 30 33 (.load false 1) [29],
 oT 31 34 (.bin .quo) [27,30],
 oT 32 35 (.bin .add) [23,31],
 mT 5 36 32]) (.skip))))
 (.region [mT 17 37 6,
 ⟨(some 18),38,(.bin .add),[.t 17,.c (.int .i64 (1))],none⟩,
 mT 6 39 18]))))))
 (.seq (.region [mT 33 40 5,
 mT 4 41 33])
 (.ret))))))
 [.tmp 4] 0 32
def f400.env:Env:=[(55,f55.C)]
def f400.tree (a:aC×aC):Prop:=∃ c1:aC,(a.1.1=c1.1)∧(a.1.2.1=c1.2.1)∧(a.1.2.2=c1.2.2)∧True∧Br (!(aR c1)) (((0:Int)=(bT a))∧True) (∃ c5:aC,(a.2.1=c5.1)∧(a.2.2.1=c5.2.1)∧(a.2.2.2=c5.2.2)∧True∧Br (!(aR c5)) (((0:Int)=(bT a))∧True) (Br (decide ((0:Int) < a.2.1)) (Let (wI ((1000:Int) * a.1.1)) (fun v11:Int=>Br (!(a.2.1==0)) (Let (wI (Int.tdiv v11 a.2.1)) (fun v12:Int=>Let (wI ((0:Int)+v12)) (fun v13:Int=>Br (decide ((0:Int) < a.2.2.1)) (Let (wI ((1000:Int) * a.1.2.1)) (fun v16:Int=>Br (!(a.2.2.1==0)) (Let (wI (Int.tdiv v16 a.2.2.1)) (fun v17:Int=>Let (wI (v13+v17)) (fun v18:Int=>Br (decide ((0:Int) < a.2.2.2)) (Let (wI ((1000:Int) * a.1.2.2)) (fun v21:Int=>Br (!(a.2.2.2==0)) (Let (wI (Int.tdiv v21 a.2.2.2)) (fun v22:Int=>Let (wI (v18+v22)) (fun v23:Int=>(v23=(bT a))∧True))) False)) ((v18=(bT a))∧True)))) False)) (Br (decide ((0:Int) < a.2.2.2)) (Let (wI ((1000:Int) * a.1.2.2)) (fun v42:Int=>Br (!(a.2.2.2==0)) (Let (wI (Int.tdiv v42 a.2.2.2)) (fun v43:Int=>Let (wI (v13+v43)) (fun v44:Int=>(v44=(bT a))∧True))) False)) ((v13=(bT a))∧True))))) False)) (Br (decide ((0:Int) < a.2.2.1)) (Let (wI ((1000:Int) * a.1.2.1)) (fun v65:Int=>Br (!(a.2.2.1==0)) (Let (wI (Int.tdiv v65 a.2.2.1)) (fun v66:Int=>Let (wI ((0:Int)+v66)) (fun v67:Int=>Br (decide ((0:Int) < a.2.2.2)) (Let (wI ((1000:Int) * a.1.2.2)) (fun v70:Int=>Br (!(a.2.2.2==0)) (Let (wI (Int.tdiv v70 a.2.2.2)) (fun v71:Int=>Let (wI (v67+v71)) (fun v72:Int=>(v72=(bT a))∧True))) False)) ((v67=(bT a))∧True)))) False)) (Br (decide ((0:Int) < a.2.2.2)) (Let (wI ((1000:Int) * a.1.2.2)) (fun v91:Int=>Br (!(a.2.2.2==0)) (Let (wI (Int.tdiv v91 a.2.2.2)) (fun v92:Int=>Let (wI ((0:Int)+v92)) (fun v93:Int=>(v93=(bT a))∧True))) False)) (((0:Int)=(bT a))∧True)))))
def f400.vc (a:aC×aC):Prop:=((¬((aR (a.1))=true)→((0:Int)=bT a))∧(¬(¬((aR (a.1))=true))→((¬((aR (a.2))=true)→((0:Int)=bT a))∧(¬(¬((aR (a.2))=true))→(((0:Int) < a.2.1→(-9223372036854775808≤((1000:Int) * a.1.1)∧((1000:Int) * a.1.1)≤9223372036854775807∧(0≤((1000:Int) * a.1.1)∧((1000:Int) * a.1.1)≤9223372036854775807∧0 < a.2.1∧(-9223372036854775808≤((0:Int)+(((1000:Int) * a.1.1) / a.2.1))∧((0:Int)+(((1000:Int) * a.1.1) / a.2.1))≤9223372036854775807∧(((0:Int) < a.2.2.1→(-9223372036854775808≤((1000:Int) * a.1.2.1)∧((1000:Int) * a.1.2.1)≤9223372036854775807∧(0≤((1000:Int) * a.1.2.1)∧((1000:Int) * a.1.2.1)≤9223372036854775807∧0 < a.2.2.1∧(-9223372036854775808≤(((0:Int)+(((1000:Int) * a.1.1) / a.2.1))+(((1000:Int) * a.1.2.1) / a.2.2.1))∧(((0:Int)+(((1000:Int) * a.1.1) / a.2.1))+(((1000:Int) * a.1.2.1) / a.2.2.1))≤9223372036854775807∧(((0:Int) < a.2.2.2→(-9223372036854775808≤((1000:Int) * a.1.2.2)∧((1000:Int) * a.1.2.2)≤9223372036854775807∧(0≤((1000:Int) * a.1.2.2)∧((1000:Int) * a.1.2.2)≤9223372036854775807∧0 < a.2.2.2∧(-9223372036854775808≤((((0:Int)+(((1000:Int) * a.1.1) / a.2.1))+(((1000:Int) * a.1.2.1) / a.2.2.1))+(((1000:Int) * a.1.2.2) / a.2.2.2))∧((((0:Int)+(((1000:Int) * a.1.1) / a.2.1))+(((1000:Int) * a.1.2.1) / a.2.2.1))+(((1000:Int) * a.1.2.2) / a.2.2.2))≤9223372036854775807∧(((((0:Int)+(((1000:Int) * a.1.1) / a.2.1))+(((1000:Int) * a.1.2.1) / a.2.2.1))+(((1000:Int) * a.1.2.2) / a.2.2.2))=bT a)))))∧(¬((0:Int) < a.2.2.2)→((((0:Int)+(((1000:Int) * a.1.1) / a.2.1))+(((1000:Int) * a.1.2.1) / a.2.2.1))=bT a)))))))∧(¬((0:Int) < a.2.2.1)→(((0:Int) < a.2.2.2→(-9223372036854775808≤((1000:Int) * a.1.2.2)∧((1000:Int) * a.1.2.2)≤9223372036854775807∧(0≤((1000:Int) * a.1.2.2)∧((1000:Int) * a.1.2.2)≤9223372036854775807∧0 < a.2.2.2∧(-9223372036854775808≤(((0:Int)+(((1000:Int) * a.1.1) / a.2.1))+(((1000:Int) * a.1.2.2) / a.2.2.2))∧(((0:Int)+(((1000:Int) * a.1.1) / a.2.1))+(((1000:Int) * a.1.2.2) / a.2.2.2))≤9223372036854775807∧((((0:Int)+(((1000:Int) * a.1.1) / a.2.1))+(((1000:Int) * a.1.2.2) / a.2.2.2))=bT a)))))∧(¬((0:Int) < a.2.2.2)→(((0:Int)+(((1000:Int) * a.1.1) / a.2.1))=bT a)))))))))∧(¬((0:Int) < a.2.1)→(((0:Int) < a.2.2.1→(-9223372036854775808≤((1000:Int) * a.1.2.1)∧((1000:Int) * a.1.2.1)≤9223372036854775807∧(0≤((1000:Int) * a.1.2.1)∧((1000:Int) * a.1.2.1)≤9223372036854775807∧0 < a.2.2.1∧(-9223372036854775808≤((0:Int)+(((1000:Int) * a.1.2.1) / a.2.2.1))∧((0:Int)+(((1000:Int) * a.1.2.1) / a.2.2.1))≤9223372036854775807∧(((0:Int) < a.2.2.2→(-9223372036854775808≤((1000:Int) * a.1.2.2)∧((1000:Int) * a.1.2.2)≤9223372036854775807∧(0≤((1000:Int) * a.1.2.2)∧((1000:Int) * a.1.2.2)≤9223372036854775807∧0 < a.2.2.2∧(-9223372036854775808≤(((0:Int)+(((1000:Int) * a.1.2.1) / a.2.2.1))+(((1000:Int) * a.1.2.2) / a.2.2.2))∧(((0:Int)+(((1000:Int) * a.1.2.1) / a.2.2.1))+(((1000:Int) * a.1.2.2) / a.2.2.2))≤9223372036854775807∧((((0:Int)+(((1000:Int) * a.1.2.1) / a.2.2.1))+(((1000:Int) * a.1.2.2) / a.2.2.2))=bT a)))))∧(¬((0:Int) < a.2.2.2)→(((0:Int)+(((1000:Int) * a.1.2.1) / a.2.2.1))=bT a)))))))∧(¬((0:Int) < a.2.2.1)→(((0:Int) < a.2.2.2→(-9223372036854775808≤((1000:Int) * a.1.2.2)∧((1000:Int) * a.1.2.2)≤9223372036854775807∧(0≤((1000:Int) * a.1.2.2)∧((1000:Int) * a.1.2.2)≤9223372036854775807∧0 < a.2.2.2∧(-9223372036854775808≤((0:Int)+(((1000:Int) * a.1.2.2) / a.2.2.2))∧((0:Int)+(((1000:Int) * a.1.2.2) / a.2.2.2))≤9223372036854775807∧(((0:Int)+(((1000:Int) * a.1.2.2) / a.2.2.2))=bT a)))))∧(¬((0:Int) < a.2.2.2)→((0:Int)=bT a)))))))))))
theorem f400.of (a:aC×aC) (h:f400.vc a):f400.tree a:=⟨a.1,⟨rfl,⟨rfl,⟨rfl,⟨trivial,br h (Cnd.not Cnd.b) (fun h2 k111=>⟨k111,trivial⟩) (fun h3 k112=>⟨a.2,⟨rfl,⟨rfl,⟨rfl,⟨trivial,br k112 (Cnd.not Cnd.b) (fun h6 k108=>⟨k108,trivial⟩) (fun h7 k109=>br k109 Cnd.dec (fun h9 k106=>wrapK.i64 k106 (fun h60 h61 k62=>rK (Cnd.not Cnd.eq) (by have:=k62.2.2.1; omega) (divK.i64 k62.1 k62.2.1 k62.2.2.1 (wrapK.i64 k62.2.2.2 (fun h57 h58 k59=>br k59 Cnd.dec (fun h14 k55=>wrapK.i64 k55 (fun h37 h38 k39=>rK (Cnd.not Cnd.eq) (by have:=k39.2.2.1; omega) (divK.i64 k39.1 k39.2.1 k39.2.2.1 (wrapK.i64 k39.2.2.2 (fun h34 h35 k36=>br k36 Cnd.dec (fun h19 k32=>wrapK.i64 k32 (fun h28 h29 k30=>rK (Cnd.not Cnd.eq) (by have:=k30.2.2.1; omega) (divK.i64 k30.1 k30.2.1 k30.2.2.1 (wrapK.i64 k30.2.2.2 (fun h25 h26 k27=>⟨k27,trivial⟩))))) (fun h20 k33=>⟨k33,trivial⟩)))))) (fun h15 k56=>br k56 Cnd.dec (fun h40 k53=>wrapK.i64 k53 (fun h49 h50 k51=>rK (Cnd.not Cnd.eq) (by have:=k51.2.2.1; omega) (divK.i64 k51.1 k51.2.1 k51.2.2.1 (wrapK.i64 k51.2.2.2 (fun h46 h47 k48=>⟨k48,trivial⟩))))) (fun h41 k54=>⟨k54,trivial⟩))))))) (fun h10 k107=>br k107 Cnd.dec (fun h63 k104=>wrapK.i64 k104 (fun h86 h87 k88=>rK (Cnd.not Cnd.eq) (by have:=k88.2.2.1; omega) (divK.i64 k88.1 k88.2.1 k88.2.2.1 (wrapK.i64 k88.2.2.2 (fun h83 h84 k85=>br k85 Cnd.dec (fun h68 k81=>wrapK.i64 k81 (fun h77 h78 k79=>rK (Cnd.not Cnd.eq) (by have:=k79.2.2.1; omega) (divK.i64 k79.1 k79.2.1 k79.2.2.1 (wrapK.i64 k79.2.2.2 (fun h74 h75 k76=>⟨k76,trivial⟩))))) (fun h69 k82=>⟨k82,trivial⟩)))))) (fun h64 k105=>br k105 Cnd.dec (fun h89 k102=>wrapK.i64 k102 (fun h98 h99 k100=>rK (Cnd.not Cnd.eq) (by have:=k100.2.2.1; omega) (divK.i64 k100.1 k100.2.1 k100.2.2.1 (wrapK.i64 k100.2.2.2 (fun h95 h96 k97=>⟨k97,trivial⟩))))) (fun h90 k103=>⟨k103,trivial⟩))))⟩⟩⟩⟩⟩)⟩⟩⟩⟩⟩
theorem f400.eq (a:aC×aC):(f400.af a).gives f400.env (f400.args a) (f400.blks a) (f400.res a) (f400.blks' a)=f400.tree a:=by kernel_rfl
def f197.ent (K:(aD×(List (aF))×aE)→Prop) (t:aD×(List (aF))×aE):Prop:=∃ c:aD×(List (aF))×aE,(t.1.1.1=c.1.1.1)∧(t.1.1.2.1.1=c.1.1.2.1.1)∧(t.1.1.2.1.2.1=c.1.1.2.1.2.1)∧(t.1.1.2.1.2.2=c.1.1.2.1.2.2)∧SlQ t.1.1.2.2.length c.1.1.2.2.length (gl aG t.1.1.2.2) (gl aG c.1.1.2.2) ((t.1.2.1=c.1.2.1)∧(t.1.2.2=c.1.2.2)∧SlQ t.2.1.length c.2.1.length (gl aM t.2.1) (gl aM c.2.1) ((t.2.2.1=c.2.2.1)∧(t.2.2.2.1=c.2.2.2.1)∧(t.2.2.2.2.1=c.2.2.2.2.1)∧(t.2.2.2.2.2.1.1=c.2.2.2.2.2.1.1)∧(t.2.2.2.2.2.1.2.1=c.2.2.2.2.2.1.2.1)∧(t.2.2.2.2.2.1.2.2=c.2.2.2.2.2.1.2.2)∧SlQ t.2.2.2.2.2.2.1.length c.2.2.2.2.2.2.1.length (gl aG t.2.2.2.2.2.2.1) (gl aG c.2.2.2.2.2.2.1) ((t.2.2.2.2.2.2.2.1=c.2.2.2.2.2.2.2.1)∧(t.2.2.2.2.2.2.2.2.1=c.2.2.2.2.2.2.2.2.1)∧(t.2.2.2.2.2.2.2.2.2=c.2.2.2.2.2.2.2.2.2)∧K c)))
theorem f197.ei {K:(aD×(List (aF))×aE)→Prop} {t:aD×(List (aF))×aE} (h:K t):f197.ent K t:=⟨t,⟨rfl,⟨rfl,⟨rfl,⟨rfl,slQ (rS aG) (⟨rfl,⟨rfl,slQ (rS aM) (⟨rfl,⟨rfl,⟨rfl,⟨rfl,⟨rfl,⟨rfl,slQ (rS aG) (⟨rfl,⟨rfl,⟨rfl,h⟩⟩⟩)⟩⟩⟩⟩⟩⟩)⟩⟩)⟩⟩⟩⟩⟩
def f197.args (a:aD×(List (aF))×aE):List D:=[.agg [.str a.1.1.1,.int .i64 a.1.1.2.1.1,.int .i64 a.1.1.2.1.2.1,.int .i64 a.1.1.2.1.2.2,.slice .ro 2 a.1.1.2.2.length (gl aG a.1.1.2.2),.bool a.1.2.1,.int .i64 a.1.2.2],.slice .ro 13 a.2.1.length (gl aM a.2.1),.agg [.str a.2.2.1,.str a.2.2.2.1,.int .i64 a.2.2.2.2.1,.int .i64 a.2.2.2.2.2.1.1,.int .i64 a.2.2.2.2.2.1.2.1,.int .i64 a.2.2.2.2.2.1.2.2,.slice .ro 2 a.2.2.2.2.2.2.1.length (gl aG a.2.2.2.2.2.2.1),.str a.2.2.2.2.2.2.2.1,.str a.2.2.2.2.2.2.2.2.1,.int .i64 a.2.2.2.2.2.2.2.2.2]]
def f197.blks (a:aD×(List (aF))×aE):List (List D):=[]
def f197.res (a:aD×(List (aF))×aE):List D:=[.int .i64 ((bN a).1),.bool ((bN a).2)]
def f197.blks' (a:aD×(List (aF))×aE):List (List D):=[]
def f197.C:aN:=FnC f197.args f197.blks (fun a=>dK a) f197.res f197.blks'
def f197.kills (a:aD×(List (aF))×aE):List Hint:=[]
def f197.cuts (a:aD×(List (aF))×aE):List (Nat×Σ β:Type,β→Tm):=[]
def f197.af (a:aD×(List (aF))×aE):AF:=AF.mk (.seq (.region [oT 3 0 .box [0],
 oT 5 1 .box [2],
 ⟨(some 6),2,.move,[.c (.int .i64 (0))],none⟩,
 ⟨(some 7),3,.move,[.c (.bool false)],none⟩])
 (.seq (.seq (.region [oT 12 4 (.load true 7) [3],
 mT 13 5 1,
 oT 14 6 (.load true 10) [5],
 oT 15 7 (.call false 111) [12,13,14],
 ⟨(some 16),11,(.bin .neq),[.t 15,.c (.int .i64 (0))],none⟩])
 (.cond (.t 16) (.seq (.region [⟨(some 6),12,.move,[.c (.int .i64 (0))],none⟩,
 ⟨(some 7),13,.move,[.c (.bool false)],none⟩])
 (.ret)) (.skip)))
 (.seq (.region [oT 18 14 (.load true 7) [3],
 mT 19 15 1,
 oT 20 16 (.call false 112) [18,19],
 mT 17 20 20,
 oT 21 21 (.extract 0) [17],
 oT 22 22 (.extract 1) [17],
 oT 8 23 (.alloc [.int .i64 (0),.int .i64 (0),.int .i64 (0)]) [],
 ⟨none,27,(.store 3),[.t 8,.t 21],none⟩,
 mT 9 28 22])
 (.seq (.region [oT 24 29 (.load true 3) [8],
 oT 25 30 (.fieldAddr 3) [5],
 oT 26 31 (.load true 3) [25],
 oT 27 32 (.call false 113) [24,26],
 mT 23 36 27,
 oT 28 37 (.extract 0) [23],
 oT 29 38 (.extract 1) [23],
 oT 10 39 (.alloc [.int .i64 (0),.int .i64 (0),.int .i64 (0)]) [],
 ⟨none,43,(.store 3),[.t 10,.t 28],none⟩,
 mT 11 44 29])
 (.seq (.region [oT 30 45 (.load true 3) [10],
 oT 31 46 (.fieldAddr 0) [3],
 oT 32 47 (.fieldAddr 1) [31],
 oT 33 48 (.load true 3) [32],
 oT 34 49 (.call false 222) [30,33],
 mT 6 53 34,
 ⟨(some 7),54,.move,[.c (.bool true)],none⟩])
 (.ret))))))
 [.tmp 6,.tmp 7] 0 32
def f197.env:Env:=[(111,f111.C),(112,f112.C),(113,f113.C),(222,f222.C)]
def f197.tree (a:aD×(List (aF))×aE):Prop:=f111.ent (fun c1=>(dK c1)∧Br ((eF c1) != (0:Int)) (((0:Int)=((bN a).1))∧(false=((bN a).2))∧True) (f112.ent (fun c5=>(fI c5)∧f113.ent (fun c6=>True∧f222.ent (fun c7=>True∧((bT c7)=((bN a).1))∧(true=((bN a).2))∧True) (((dP c6).1),a.1.1.2.1)) (((bX c5).1),a.2.2.2.2.2.1)) (a.1,a.2.1))) (a.1,a.2.1,a.2.2)
def f197.vc (a:aD×(List (aF))×aE):Prop:=(dK (a.1,a.2.1,a.2.2)∧((¬(eF (a.1,a.2.1,a.2.2))=(0:Int)→(((0:Int),false)=bN a))∧(¬(¬(eF (a.1,a.2.1,a.2.2))=(0:Int))→(fI (a.1,a.2.1)∧(((bT (((dP (((bX (a.1,a.2.1)).1),a.2.2.2.2.2.1)).1),a.1.1.2.1)),true)=bN a)))))
theorem f197.of (a:aD×(List (aF))×aE) (h:f197.vc a):f197.tree a:=(f111.ei ⟨h.1,br h.2 Cnd.ne (fun h2 k12=>⟨(congrArg (fun x:Int×Bool=>x.1) k12 :),⟨(congrArg (fun x:Int×Bool=>x.2) k12 :),trivial⟩⟩) (fun h3 k13=>(f112.ei ⟨k13.1,(f113.ei ⟨trivial,(f222.ei ⟨trivial,⟨(congrArg (fun x:Int×Bool=>x.1) k13.2 :),⟨(congrArg (fun x:Int×Bool=>x.2) k13.2 :),trivial⟩⟩⟩)⟩)⟩))⟩)
theorem f197.eq (a:aD×(List (aF))×aE):(f197.af a).gives f197.env (f197.args a) (f197.blks a) (f197.res a) (f197.blks' a)=f197.tree a:=by kernel_rfl
def f393.ent (K:(aD×(List (aF))×aE)→Prop) (t:aD×(List (aF))×aE):Prop:=∃ c:aD×(List (aF))×aE,(t.1.1.1=c.1.1.1)∧(t.1.1.2.1.1=c.1.1.2.1.1)∧(t.1.1.2.1.2.1=c.1.1.2.1.2.1)∧(t.1.1.2.1.2.2=c.1.1.2.1.2.2)∧SlQ t.1.1.2.2.length c.1.1.2.2.length (gl aG t.1.1.2.2) (gl aG c.1.1.2.2) ((t.1.2.1=c.1.2.1)∧(t.1.2.2=c.1.2.2)∧SlQ t.2.1.length c.2.1.length (gl aM t.2.1) (gl aM c.2.1) ((t.2.2.1=c.2.2.1)∧(t.2.2.2.1=c.2.2.2.1)∧(t.2.2.2.2.1=c.2.2.2.2.1)∧(t.2.2.2.2.2.1.1=c.2.2.2.2.2.1.1)∧(t.2.2.2.2.2.1.2.1=c.2.2.2.2.2.1.2.1)∧(t.2.2.2.2.2.1.2.2=c.2.2.2.2.2.1.2.2)∧SlQ t.2.2.2.2.2.2.1.length c.2.2.2.2.2.2.1.length (gl aG t.2.2.2.2.2.2.1) (gl aG c.2.2.2.2.2.2.1) ((t.2.2.2.2.2.2.2.1=c.2.2.2.2.2.2.2.1)∧(t.2.2.2.2.2.2.2.2.1=c.2.2.2.2.2.2.2.2.1)∧(t.2.2.2.2.2.2.2.2.2=c.2.2.2.2.2.2.2.2.2)∧K c)))
theorem f393.ei {K:(aD×(List (aF))×aE)→Prop} {t:aD×(List (aF))×aE} (h:K t):f393.ent K t:=⟨t,⟨rfl,⟨rfl,⟨rfl,⟨rfl,slQ (rS aG) (⟨rfl,⟨rfl,slQ (rS aM) (⟨rfl,⟨rfl,⟨rfl,⟨rfl,⟨rfl,⟨rfl,slQ (rS aG) (⟨rfl,⟨rfl,⟨rfl,h⟩⟩⟩)⟩⟩⟩⟩⟩⟩)⟩⟩)⟩⟩⟩⟩⟩
def f393.args (a:aD×(List (aF))×aE):List D:=[.agg [.str a.1.1.1,.int .i64 a.1.1.2.1.1,.int .i64 a.1.1.2.1.2.1,.int .i64 a.1.1.2.1.2.2,.slice .ro 2 a.1.1.2.2.length (gl aG a.1.1.2.2),.bool a.1.2.1,.int .i64 a.1.2.2],.slice .ro 13 a.2.1.length (gl aM a.2.1),.agg [.str a.2.2.1,.str a.2.2.2.1,.int .i64 a.2.2.2.2.1,.int .i64 a.2.2.2.2.2.1.1,.int .i64 a.2.2.2.2.2.1.2.1,.int .i64 a.2.2.2.2.2.1.2.2,.slice .ro 2 a.2.2.2.2.2.2.1.length (gl aG a.2.2.2.2.2.2.1),.str a.2.2.2.2.2.2.2.1,.str a.2.2.2.2.2.2.2.2.1,.int .i64 a.2.2.2.2.2.2.2.2.2]]
def f393.blks (a:aD×(List (aF))×aE):List (List D):=[]
def f393.res (a:aD×(List (aF))×aE):List D:=[.int .i64 ((bN a).1),.bool ((bN a).2)]
def f393.blks' (a:aD×(List (aF))×aE):List (List D):=[]
def f393.C:aN:=FnC f393.args f393.blks (fun a=>dK a) f393.res f393.blks'
def f393.kills (a:aD×(List (aF))×aE):List Hint:=[]
def f393.cuts (a:aD×(List (aF))×aE):List (Nat×Σ β:Type,β→Tm):=[]
def f393.af (a:aD×(List (aF))×aE):AF:=AF.mk (.seq (.region [oT 3 0 .box [0],
 oT 5 1 .box [2],
 ⟨(some 6),2,.move,[.c (.int .i64 (0))],none⟩,
 ⟨(some 7),3,.move,[.c (.bool false)],none⟩])
 (.seq (.seq (.region [oT 12 4 (.load true 7) [3],
 mT 13 5 1,
 oT 14 6 (.load true 10) [5],
 oT 15 7 (.call false 399) [12,13,14],
 ⟨(some 16),11,(.bin .neq),[.t 15,.c (.int .i64 (0))],none⟩])
 (.cond (.t 16) (.seq (.region [⟨(some 6),12,.move,[.c (.int .i64 (0))],none⟩,
 ⟨(some 7),13,.move,[.c (.bool false)],none⟩])
 (.ret)) (.skip)))
 (.seq (.region [oT 18 14 (.load true 7) [3],
 mT 19 15 1,
 oT 20 16 (.call false 365) [18,19],
 mT 17 20 20,
 oT 21 21 (.extract 0) [17],
 oT 22 22 (.extract 1) [17],
 oT 8 23 (.alloc [.int .i64 (0),.int .i64 (0),.int .i64 (0)]) [],
 ⟨none,27,(.store 3),[.t 8,.t 21],none⟩,
 mT 9 28 22])
 (.seq (.region [oT 24 29 (.load true 3) [8],
 oT 25 30 (.fieldAddr 3) [5],
 oT 26 31 (.load true 3) [25],
 oT 27 32 (.call false 369) [24,26],
 mT 23 36 27,
 oT 28 37 (.extract 0) [23],
 oT 29 38 (.extract 1) [23],
 oT 10 39 (.alloc [.int .i64 (0),.int .i64 (0),.int .i64 (0)]) [],
 ⟨none,43,(.store 3),[.t 10,.t 28],none⟩,
 mT 11 44 29])
 (.seq (.region [oT 30 45 (.load true 3) [10],
 oT 31 46 (.fieldAddr 0) [3],
 oT 32 47 (.fieldAddr 1) [31],
 oT 33 48 (.load true 3) [32],
 oT 34 49 (.call false 400) [30,33],
 mT 6 53 34,
 ⟨(some 7),54,.move,[.c (.bool true)],none⟩])
 (.ret))))))
 [.tmp 6,.tmp 7] 0 32
def f393.env:Env:=[(399,f399.C),(365,f365.C),(369,f369.C),(400,f400.C)]
def f393.tree (a:aD×(List (aF))×aE):Prop:=f399.ent (fun c1=>(dK c1)∧Br ((eF c1) != (0:Int)) (((0:Int)=((bN a).1))∧(false=((bN a).2))∧True) (f365.ent (fun c5=>(fI c5)∧f369.ent (fun c6=>True∧f400.ent (fun c7=>True∧((bT c7)=((bN a).1))∧(true=((bN a).2))∧True) (((dP c6).1),a.1.1.2.1)) (((bX c5).1),a.2.2.2.2.2.1)) (a.1,a.2.1))) (a.1,a.2.1,a.2.2)
def f393.vc (a:aD×(List (aF))×aE):Prop:=(dK (a.1,a.2.1,a.2.2)∧((¬(eF (a.1,a.2.1,a.2.2))=(0:Int)→(((0:Int),false)=bN a))∧(¬(¬(eF (a.1,a.2.1,a.2.2))=(0:Int))→(fI (a.1,a.2.1)∧(((bT (((dP (((bX (a.1,a.2.1)).1),a.2.2.2.2.2.1)).1),a.1.1.2.1)),true)=bN a)))))
theorem f393.of (a:aD×(List (aF))×aE) (h:f393.vc a):f393.tree a:=(f399.ei ⟨h.1,br h.2 Cnd.ne (fun h2 k12=>⟨(congrArg (fun x:Int×Bool=>x.1) k12 :),⟨(congrArg (fun x:Int×Bool=>x.2) k12 :),trivial⟩⟩) (fun h3 k13=>(f365.ei ⟨k13.1,(f369.ei ⟨trivial,(f400.ei ⟨trivial,⟨(congrArg (fun x:Int×Bool=>x.1) k13.2 :),⟨(congrArg (fun x:Int×Bool=>x.2) k13.2 :),trivial⟩⟩⟩)⟩)⟩))⟩)
theorem f393.eq (a:aD×(List (aF))×aE):(f393.af a).gives f393.env (f393.args a) (f393.blks a) (f393.res a) (f393.blks' a)=f393.tree a:=by kernel_rfl
def f171.ent (K:((List (aD))×(List (aF))×aE)→Prop) (t:(List (aD))×(List (aF))×aE):Prop:=∃ c:(List (aD))×(List (aF))×aE,SlQ t.1.length c.1.length (gl aO t.1) (gl aO c.1) (SlQ t.2.1.length c.2.1.length (gl aM t.2.1) (gl aM c.2.1) ((t.2.2.1=c.2.2.1)∧(t.2.2.2.1=c.2.2.2.1)∧(t.2.2.2.2.1=c.2.2.2.2.1)∧(t.2.2.2.2.2.1.1=c.2.2.2.2.2.1.1)∧(t.2.2.2.2.2.1.2.1=c.2.2.2.2.2.1.2.1)∧(t.2.2.2.2.2.1.2.2=c.2.2.2.2.2.1.2.2)∧SlQ t.2.2.2.2.2.2.1.length c.2.2.2.2.2.2.1.length (gl aG t.2.2.2.2.2.2.1) (gl aG c.2.2.2.2.2.2.1) ((t.2.2.2.2.2.2.2.1=c.2.2.2.2.2.2.2.1)∧(t.2.2.2.2.2.2.2.2.1=c.2.2.2.2.2.2.2.2.1)∧(t.2.2.2.2.2.2.2.2.2=c.2.2.2.2.2.2.2.2.2)∧K c)))
theorem f171.ei {K:((List (aD))×(List (aF))×aE)→Prop} {t:(List (aD))×(List (aF))×aE} (h:K t):f171.ent K t:=⟨t,slQ (rS aO) (slQ (rS aM) (⟨rfl,⟨rfl,⟨rfl,⟨rfl,⟨rfl,⟨rfl,slQ (rS aG) (⟨rfl,⟨rfl,⟨rfl,h⟩⟩⟩)⟩⟩⟩⟩⟩⟩))⟩
def f171.args (a:(List (aD))×(List (aF))×aE):List D:=[.slice .ro 7 a.1.length (gl aO a.1),.slice .ro 13 a.2.1.length (gl aM a.2.1),.agg [.str a.2.2.1,.str a.2.2.2.1,.int .i64 a.2.2.2.2.1,.int .i64 a.2.2.2.2.2.1.1,.int .i64 a.2.2.2.2.2.1.2.1,.int .i64 a.2.2.2.2.2.1.2.2,.slice .ro 2 a.2.2.2.2.2.2.1.length (gl aG a.2.2.2.2.2.2.1),.str a.2.2.2.2.2.2.2.1,.str a.2.2.2.2.2.2.2.2.1,.int .i64 a.2.2.2.2.2.2.2.2.2]]
def f171.blks (a:(List (aD))×(List (aF))×aE):List (List D):=[]
def f171.res (a:(List (aD))×(List (aF))×aE):List D:=[.slice .ro 2 ((eA a).length) (gl aA (eA a))]
def f171.blks' (a:(List (aD))×(List (aF))×aE):List (List D):=[]
def f171.C:aN:=FnC f171.args f171.blks (fun a=>cA a) f171.res f171.blks'
def f171.S0 (a:(List (aD))×(List (aF))×aE) (x:Int×(List (aB))):Tm:=⟨.dead::.slice .ro 13 a.2.1.length (gl aM a.2.1)::.dead::.dead::.dead::.ptr 1000000 0::.dead::.msl 1000003 2 x.2.length::.dead::.dead::.dead::.dead::.slice .ro 7 a.1.length (gl aO a.1)::.int .i64 (a.1.length:Int)::.int .i64 x.1::dd 23 [],[(1000000,false,[.str a.2.2.1,.str a.2.2.2.1,.int .i64 a.2.2.2.2.1,.int .i64 a.2.2.2.2.2.1.1,.int .i64 a.2.2.2.2.2.1.2.1,.int .i64 a.2.2.2.2.2.1.2.2,.slice .ro 2 a.2.2.2.2.2.2.1.length (gl aG a.2.2.2.2.2.2.1),.str a.2.2.2.2.2.2.2.1,.str a.2.2.2.2.2.2.2.2.1,.int .i64 a.2.2.2.2.2.2.2.2.2]),(1000003,false,[.dead,.arr true 2 x.2.length (gl aA x.2)])],[]⟩
def f171.kills (a:(List (aD))×(List (aF))×aE):List Hint:=[.tell (Int×(List (aB))) (f171.S0 a)]
def f171.cuts (a:(List (aD))×(List (aF))×aE):List (Nat×Σ β:Type,β→Tm):=[(999999,⟨Unit,fun x=>⟨[],[],[]⟩⟩),
 (1000007000001,⟨Unit,fun x=>⟨[],[],[]⟩⟩),
 (2000007000010,⟨Unit,fun x=>⟨[],[],[]⟩⟩)]
def f171.af (a:(List (aD))×(List (aF))×aE):AF:=AF.mk (.seq (.region [oR 5 0 .box [2],
 oR 6 1 (.nilSl 2) []])
 (.seq (.region [oR 7 2 (.nilSl 2) []])
 (.seq (.thaw 1000003 7) (.seq (.seq (.region [mR 12 4 0,
 oR 13 5 (.len false) [12],
 ⟨(some 14),1000006,.move,[.c (.int .i64 (0))],none⟩])
 (.block 0 (.loopT (Int×(List (aB))) (f171.S0 a) 1000007 1000043 (.seq (.region [oR 15 7 (.bin .lss) [14,13]])
 (.seq (.cond (.t 15) (.skip) (.exit 0))
 (.seq (.block 1 (.seq (.region [oR 16 8 (.indexAddr 7 none) [12,14],
 oR 17 9 (.load true 7) [16],
 oR 9 10 (.alloc [.str ByteArray.empty,.int .i64 (0),.int .i64 (0),.int .i64 (0),.slice (.own 0) 2 0 eM,.bool false,.int .i64 (0)]) [],
 ⟨none,1000018,(.store 7),[.t 9,.t 17],none⟩])
 (.seq (.region [oR 19 19 (.load true 7) [9],
 mR 20 20 1,
 oR 21 21 (.load true 10) [5],
 oR 22 22 (.call true 197) [19,20,21],
 mR 18 26 22,
 oR 23 27 (.extract 0) [18],
 oR 24 28 (.extract 1) [18],
 mR 10 29 23,
 mR 11 30 24])
 (.seq (.region [mR 25 31 11])
 (.cond (.t 25) (.region [mR 26 32 7,
 oR 27 33 (.fieldAddr 0) [9],
 oR 28 34 (.fieldAddr 0) [27],
 oR 29 35 (.load false 1) [28],
 mR 30 36 10,
 oR 31 37 (.build [.str ByteArray.empty,.int .i64 (0)] [(0,1),(1,1)]) [29,30],
 oR 32 38 (.buildSlice 2 1 [.str ByteArray.empty,.int .i64 (0)] [(0,2)]) [31],
 oR 33 39 (.append 2 24) [26,32],
 mR 7 40 33]) (.skip))))))
 (.region [⟨(some 34),1000041,(.bin .add),[.t 14,.c (.int .i64 (1))],none⟩,
 mR 14 42 34])))))))
 (.seq (.region [mR 35 43 7,
 ⟨(some 36),1000044,(.call true 198),[.t 35,.c (.fn 199 [])],none⟩])
 (.seq (.frz 7) (.seq (.region [mR 37 48 7,
 mR 6 49 37])
 (.ret))))))))
 [.tmp 6] 0 35
def f171.env:Env:=[(197,f197.C),(198,f198.C)]
def f171.tree (a:(List (aD))×(List (aF))×aE):Prop:=∃ (I2:(Int×(List (aB)))→Prop) (μ3:(Int×(List (aB)))→Nat),(∃ x1:Int×(List (aB)),SlS aM a.2.1 ((0=x1.2.length)∧SlS aO a.1 (((a.1.length:Int)=(a.1.length:Int))∧((0:Int)=x1.1)∧(a.2.2.1=a.2.2.1)∧(a.2.2.2.1=a.2.2.2.1)∧(a.2.2.2.2.1=a.2.2.2.2.1)∧(a.2.2.2.2.2.1.1=a.2.2.2.2.2.1.1)∧(a.2.2.2.2.2.1.2.1=a.2.2.2.2.2.1.2.1)∧(a.2.2.2.2.2.1.2.2=a.2.2.2.2.2.1.2.2)∧SlS aG a.2.2.2.2.2.2.1 ((a.2.2.2.2.2.2.2.1=a.2.2.2.2.2.2.2.1)∧(a.2.2.2.2.2.2.2.2.1=a.2.2.2.2.2.2.2.2.1)∧(a.2.2.2.2.2.2.2.2.2=a.2.2.2.2.2.2.2.2.2)∧SlQ 0 x1.2.length eM (gl aA x1.2) (I2 x1)))))∧∀ y4:Int×(List (aB)),I2 y4→(Br (decide (y4.1 < (a.1.length:Int))) (Br (decide ((0:Int)≤y4.1)&&decide (y4.1 < (a.1.length:Int))) (f197.ent (fun c8=>(dK c8)∧Br ((bN c8).2) ((y4.2.length=y4.2.length∧nX ((y4.2.length+1) * 24))∧(Let (wI (y4.1+(1:Int))) (fun v11:Int=>∃ x12:Int×(List (aB)),SlS aM a.2.1 (((y4.2.length+1)=x12.2.length)∧SlS aO a.1 (((a.1.length:Int)=(a.1.length:Int))∧(v11=x12.1)∧(a.2.2.1=a.2.2.1)∧(a.2.2.2.1=a.2.2.2.1)∧(a.2.2.2.2.1=a.2.2.2.2.1)∧(a.2.2.2.2.2.1.1=a.2.2.2.2.2.1.1)∧(a.2.2.2.2.2.1.2.1=a.2.2.2.2.2.1.2.1)∧(a.2.2.2.2.2.1.2.2=a.2.2.2.2.2.1.2.2)∧SlS aG a.2.2.2.2.2.2.1 ((a.2.2.2.2.2.2.2.1=a.2.2.2.2.2.2.2.1)∧(a.2.2.2.2.2.2.2.2.1=a.2.2.2.2.2.2.2.2.1)∧(a.2.2.2.2.2.2.2.2.2=a.2.2.2.2.2.2.2.2.2)∧SlQ (y4.2.length+1) x12.2.length (gA (gl aA y4.2) y4.2.length (fun _=>[.str (((at_ a.1 y4.1).1).1),.int .i64 ((bN c8).1)])) (gl aA x12.2) (I2 x12∧μ3 x12 < μ3 y4))))))) (Let (wI (y4.1+(1:Int))) (fun v17:Int=>∃ x18:Int×(List (aB)),SlS aM a.2.1 ((y4.2.length=x18.2.length)∧SlS aO a.1 (((a.1.length:Int)=(a.1.length:Int))∧(v17=x18.1)∧(a.2.2.1=a.2.2.1)∧(a.2.2.2.1=a.2.2.2.1)∧(a.2.2.2.2.1=a.2.2.2.2.1)∧(a.2.2.2.2.2.1.1=a.2.2.2.2.2.1.1)∧(a.2.2.2.2.2.1.2.1=a.2.2.2.2.2.1.2.1)∧(a.2.2.2.2.2.1.2.2=a.2.2.2.2.2.1.2.2)∧SlS aG a.2.2.2.2.2.2.1 ((a.2.2.2.2.2.2.2.1=a.2.2.2.2.2.2.2.1)∧(a.2.2.2.2.2.2.2.2.1=a.2.2.2.2.2.2.2.2.1)∧(a.2.2.2.2.2.2.2.2.2=a.2.2.2.2.2.2.2.2.2)∧SlQ y4.2.length x18.2.length (gl aA y4.2) (gl aA x18.2) (I2 x18∧μ3 x18 < μ3 y4))))))) ((at_ a.1 y4.1),a.2.1,a.2.2)) False) ((y4.2.length=y4.2.length)∧∃ c27:List (aB),(y4.2.length=List.length c27)∧(DEqs [] [])∧SlQ y4.2.length c27.length (gl aA y4.2) (gl aA c27) ((mV c27)∧((List.length ((hT aJ) c27))=y4.2.length)∧(SlQ (List.length ((hT aJ) c27)) ((eA a).length) (gl aA ((hT aJ) c27)) (gl aA (eA a)) (True)))))
def f171.vc (a:(List (aD))×(List (aF))×aE):Prop:=(∃ (I2:(Int×(List (aB)))→Prop) (μ3:(Int×(List (aB)))→Nat),I2 ((0:Int),[])∧∀ y4:Int×(List (aB)),I2 y4→((y4.1 < (a.1.length:Int)→((0:Int)≤y4.1∧y4.1 < (a.1.length:Int)∧(dK ((at_ a.1 y4.1),a.2.1,a.2.2)∧((((bN ((at_ a.1 y4.1),a.2.1,a.2.2)).2)=true→(y4.2.length+1≤1073741824∧(-9223372036854775808≤(y4.1+(1:Int))∧(y4.1+(1:Int))≤9223372036854775807∧(I2 ((y4.1+(1:Int)),y4.2++([(((at_ a.1 y4.1).1).1,(bN ((at_ a.1 y4.1),a.2.1,a.2.2)).1)]))∧μ3 ((y4.1+(1:Int)),y4.2++([(((at_ a.1 y4.1).1).1,(bN ((at_ a.1 y4.1),a.2.1,a.2.2)).1)])) < μ3 y4))))∧(¬(((bN ((at_ a.1 y4.1),a.2.1,a.2.2)).2)=true)→(-9223372036854775808≤(y4.1+(1:Int))∧(y4.1+(1:Int))≤9223372036854775807∧(I2 ((y4.1+(1:Int)),y4.2)∧μ3 ((y4.1+(1:Int)),y4.2) < μ3 y4)))))))∧(¬(y4.1 < (a.1.length:Int))→(mV y4.2∧((List.length ((hT aJ) (y4.2)))=y4.2.length∧(((hT aJ) (y4.2))=eA a))))))
theorem f171.of (a:(List (aD))×(List (aF))×aE) (h:f171.vc a):f171.tree a:=Exists.elim h (fun I2 h33_=>Exists.elim h33_ (fun μ3 h33=>⟨I2,μ3,⟨((0:Int),[]),SlS.mk  (⟨(bI eM (Rds.nil (enc:=aA))),SlS.mk  (⟨rfl,⟨rfl,⟨rfl,⟨rfl,⟨rfl,⟨rfl,⟨rfl,⟨rfl,SlS.mk  (⟨rfl,⟨rfl,⟨rfl,slQ (Rds.nil (enc:=aA)) (h33.1)⟩⟩⟩)⟩⟩⟩⟩⟩⟩⟩⟩)⟩)⟩,fun y4 h35=>br (h33.2 y4 h35) Cnd.dec (fun h5 k31=>chk k31.2.2 Cnd.ix ⟨k31.1,k31.2.1⟩ (fun h7 k26=>(f197.ei ⟨k26.1,br k26.2 Cnd.b (fun h9 k23=>⟨⟨rfl,iL k23.1 (by decide)⟩,wrapK.i64 k23.2 (fun h14 h15 k16=>⟨((y4.1+(1:Int)),y4.2++([(((at_ a.1 y4.1).1).1,(bN ((at_ a.1 y4.1),a.2.1,a.2.2)).1)])),SlS.mk  (⟨(bI (gA (gl aA y4.2) y4.2.length (fun _=>[.str (((at_ a.1 y4.1).1).1),.int .i64 ((bN ((at_ a.1 y4.1),a.2.1,a.2.2)).1)])) (Rds.app (enc:=aA) (rS aA) (Rds.one (enc:=aA) (DEqs.refl _)))),SlS.mk  (⟨rfl,⟨rfl,⟨rfl,⟨rfl,⟨rfl,⟨rfl,⟨rfl,⟨rfl,SlS.mk  (⟨rfl,⟨rfl,⟨rfl,slQ (Rds.app (enc:=aA) (rS aA) (Rds.one (enc:=aA) (DEqs.refl _))) (k16)⟩⟩⟩)⟩⟩⟩⟩⟩⟩⟩⟩)⟩)⟩)⟩) (fun h10 k24=>wrapK.i64 k24 (fun h20 h21 k22=>⟨((y4.1+(1:Int)),y4.2),SlS.mk  (⟨(bI (gl aA y4.2) (rS aA)),SlS.mk  (⟨rfl,⟨rfl,⟨rfl,⟨rfl,⟨rfl,⟨rfl,⟨rfl,⟨rfl,SlS.mk  (⟨rfl,⟨rfl,⟨rfl,slQ (rS aA) (k22)⟩⟩⟩)⟩⟩⟩⟩⟩⟩⟩⟩)⟩)⟩))⟩))) (fun h6 k32=>⟨rfl,⟨y4.2,⟨(bI (gl aA y4.2) (rS aA)),⟨(DEqs.refl _),slQ (rS aA) (⟨k32.1,j5 k32.2 (fun (h28:(List.length ((hT aJ) (y4.2)))=y4.2.length) hk=>⟨h28,slQ (Rds.to (rS aA) hk) (trivial)⟩)⟩)⟩⟩⟩⟩)⟩))
theorem f171.eq (a:(List (aD))×(List (aF))×aE):(f171.af a).gives f171.env (f171.args a) (f171.blks a) (f171.res a) (f171.blks' a)=f171.tree a:=by kernel_rfl
def f151.ent (K:((List (aD))×(List (aF))×aE)→Prop) (t:(List (aD))×(List (aF))×aE):Prop:=∃ c:(List (aD))×(List (aF))×aE,SlQ t.1.length c.1.length (gl aO t.1) (gl aO c.1) (SlQ t.2.1.length c.2.1.length (gl aM t.2.1) (gl aM c.2.1) ((t.2.2.1=c.2.2.1)∧(t.2.2.2.1=c.2.2.2.1)∧(t.2.2.2.2.1=c.2.2.2.2.1)∧(t.2.2.2.2.2.1.1=c.2.2.2.2.2.1.1)∧(t.2.2.2.2.2.1.2.1=c.2.2.2.2.2.1.2.1)∧(t.2.2.2.2.2.1.2.2=c.2.2.2.2.2.1.2.2)∧SlQ t.2.2.2.2.2.2.1.length c.2.2.2.2.2.2.1.length (gl aG t.2.2.2.2.2.2.1) (gl aG c.2.2.2.2.2.2.1) ((t.2.2.2.2.2.2.2.1=c.2.2.2.2.2.2.2.1)∧(t.2.2.2.2.2.2.2.2.1=c.2.2.2.2.2.2.2.2.1)∧(t.2.2.2.2.2.2.2.2.2=c.2.2.2.2.2.2.2.2.2)∧K c)))
theorem f151.ei {K:((List (aD))×(List (aF))×aE)→Prop} {t:(List (aD))×(List (aF))×aE} (h:K t):f151.ent K t:=⟨t,slQ (rS aO) (slQ (rS aM) (⟨rfl,⟨rfl,⟨rfl,⟨rfl,⟨rfl,⟨rfl,slQ (rS aG) (⟨rfl,⟨rfl,⟨rfl,h⟩⟩⟩)⟩⟩⟩⟩⟩⟩))⟩
def f151.args (a:(List (aD))×(List (aF))×aE):List D:=[.slice .ro 7 a.1.length (gl aO a.1),.slice .ro 13 a.2.1.length (gl aM a.2.1),.agg [.str a.2.2.1,.str a.2.2.2.1,.int .i64 a.2.2.2.2.1,.int .i64 a.2.2.2.2.2.1.1,.int .i64 a.2.2.2.2.2.1.2.1,.int .i64 a.2.2.2.2.2.1.2.2,.slice .ro 2 a.2.2.2.2.2.2.1.length (gl aG a.2.2.2.2.2.2.1),.str a.2.2.2.2.2.2.2.1,.str a.2.2.2.2.2.2.2.2.1,.int .i64 a.2.2.2.2.2.2.2.2.2]]
def f151.blks (a:(List (aD))×(List (aF))×aE):List (List D):=[]
def f151.res (a:(List (aD))×(List (aF))×aE):List D:=[.str ((dI a).1),.bool ((dI a).2)]
def f151.blks' (a:(List (aD))×(List (aF))×aE):List (List D):=[]
def f151.C:aN:=FnC f151.args f151.blks (fun a=>cA a) f151.res f151.blks'
def f151.kills (a:(List (aD))×(List (aF))×aE):List Hint:=[]
def f151.cuts (a:(List (aD))×(List (aF))×aE):List (Nat×Σ β:Type,β→Tm):=[]
def f151.af (a:(List (aD))×(List (aF))×aE):AF:=AF.mk (.seq (.region [oT 5 0 .box [2],
 ⟨(some 6),1,.move,[.c (.str ByteArray.empty)],none⟩,
 ⟨(some 7),2,.move,[.c (.bool false)],none⟩])
 (.seq (.region [mT 9 3 0,
 mT 10 4 1,
 oT 11 5 (.load true 10) [5],
 oT 12 6 (.call false 171) [9,10,11],
 mT 8 10 12])
 (.seq (.seq (.region [mT 13 11 8,
 oT 14 12 (.len false) [13],
 ⟨(some 15),13,(.bin .eql),[.t 14,.c (.int .i64 (0))],none⟩])
 (.cond (.t 15) (.seq (.region [⟨(some 6),14,.move,[.c (.str ByteArray.empty)],none⟩,
 ⟨(some 7),15,.move,[.c (.bool false)],none⟩])
 (.ret)) (.skip)))
 (.seq (.region [mT 16 16 8,
 ⟨(some 17),17,(.indexAddr 2 none),[.t 16,.c (.int .i64 (0))],none⟩,
 oT 18 18 (.fieldAddr 0) [17],
 oT 19 19 (.load false 1) [18],
 mT 6 20 19,
 ⟨(some 7),21,.move,[.c (.bool true)],none⟩])
 (.ret)))))
 [.tmp 6,.tmp 7] 0 17
def f151.env:Env:=[(171,f171.C)]
def f151.tree (a:(List (aD))×(List (aF))×aE):Prop:=f171.ent (fun c1=>(cA c1)∧Br (((eA c1).length:Int)==(0:Int)) ((ByteArray.empty=((dI a).1))∧(false=((dI a).2))∧True) (Br (decide ((0:Int)≤(0:Int))&&decide ((0:Int) < ((eA c1).length:Int))) ((((at_ (eA c1) (0:Int)).1)=((dI a).1))∧(true=((dI a).2))∧True) False)) (a.1,a.2.1,a.2.2)
def f151.vc (a:(List (aD))×(List (aF))×aE):Prop:=(cA (a.1,a.2.1,a.2.2)∧((((eA (a.1,a.2.1,a.2.2)).length:Int)=(0:Int)→((ByteArray.empty,false)=dI a))∧(¬(((eA (a.1,a.2.1,a.2.2)).length:Int)=(0:Int))→((0:Int) < ((eA (a.1,a.2.1,a.2.2)).length:Int)∧(((at_ (eA (a.1,a.2.1,a.2.2)) (0:Int)).1,true)=dI a)))))
theorem f151.of (a:(List (aD))×(List (aF))×aE) (h:f151.vc a):f151.tree a:=(f171.ei ⟨h.1,br h.2 Cnd.eq (fun h2 k8=>⟨(congrArg (fun x:ByteArray×Bool=>x.1) k8 :),⟨(congrArg (fun x:ByteArray×Bool=>x.2) k8 :),trivial⟩⟩) (fun h3 k9=>chk k9.2 Cnd.ix ⟨(by decide),k9.1⟩ (fun h5 k7=>⟨(congrArg (fun x:ByteArray×Bool=>x.1) k7 :),⟨(congrArg (fun x:ByteArray×Bool=>x.2) k7 :),trivial⟩⟩))⟩)
theorem f151.eq (a:(List (aD))×(List (aF))×aE):(f151.af a).gives f151.env (f151.args a) (f151.blks a) (f151.res a) (f151.blks' a)=f151.tree a:=by kernel_rfl
def f395.ent (K:((List (aD))×(List (aF))×aE)→Prop) (t:(List (aD))×(List (aF))×aE):Prop:=∃ c:(List (aD))×(List (aF))×aE,SlQ t.1.length c.1.length (gl aO t.1) (gl aO c.1) (SlQ t.2.1.length c.2.1.length (gl aM t.2.1) (gl aM c.2.1) ((t.2.2.1=c.2.2.1)∧(t.2.2.2.1=c.2.2.2.1)∧(t.2.2.2.2.1=c.2.2.2.2.1)∧(t.2.2.2.2.2.1.1=c.2.2.2.2.2.1.1)∧(t.2.2.2.2.2.1.2.1=c.2.2.2.2.2.1.2.1)∧(t.2.2.2.2.2.1.2.2=c.2.2.2.2.2.1.2.2)∧SlQ t.2.2.2.2.2.2.1.length c.2.2.2.2.2.2.1.length (gl aG t.2.2.2.2.2.2.1) (gl aG c.2.2.2.2.2.2.1) ((t.2.2.2.2.2.2.2.1=c.2.2.2.2.2.2.2.1)∧(t.2.2.2.2.2.2.2.2.1=c.2.2.2.2.2.2.2.2.1)∧(t.2.2.2.2.2.2.2.2.2=c.2.2.2.2.2.2.2.2.2)∧K c)))
theorem f395.ei {K:((List (aD))×(List (aF))×aE)→Prop} {t:(List (aD))×(List (aF))×aE} (h:K t):f395.ent K t:=⟨t,slQ (rS aO) (slQ (rS aM) (⟨rfl,⟨rfl,⟨rfl,⟨rfl,⟨rfl,⟨rfl,slQ (rS aG) (⟨rfl,⟨rfl,⟨rfl,h⟩⟩⟩)⟩⟩⟩⟩⟩⟩))⟩
def f395.args (a:(List (aD))×(List (aF))×aE):List D:=[.slice .ro 7 a.1.length (gl aO a.1),.slice .ro 13 a.2.1.length (gl aM a.2.1),.agg [.str a.2.2.1,.str a.2.2.2.1,.int .i64 a.2.2.2.2.1,.int .i64 a.2.2.2.2.2.1.1,.int .i64 a.2.2.2.2.2.1.2.1,.int .i64 a.2.2.2.2.2.1.2.2,.slice .ro 2 a.2.2.2.2.2.2.1.length (gl aG a.2.2.2.2.2.2.1),.str a.2.2.2.2.2.2.2.1,.str a.2.2.2.2.2.2.2.2.1,.int .i64 a.2.2.2.2.2.2.2.2.2]]
def f395.blks (a:(List (aD))×(List (aF))×aE):List (List D):=[]
def f395.res (a:(List (aD))×(List (aF))×aE):List D:=[.slice .ro 1 ((cU a).length) (gl bU (cU a))]
def f395.blks' (a:(List (aD))×(List (aF))×aE):List (List D):=[]
def f395.C:aN:=FnC f395.args f395.blks (fun a=>cA a) f395.res f395.blks'
def f395.S0 (a:(List (aD))×(List (aF))×aE) (x:(List (ByteArray))×(List (aB))×Int×Int):Tm:=⟨dd 7 (.slice (.own 2) 1 x.1.length (gl bU x.1)::.dead::.dead::.dead::.dead::.dead::.slice .ro 2 x.2.1.length (gl aA x.2.1)::.int .i64 x.2.2.1::.int .i64 x.2.2.2::dd 10 []),[],[(2,1,x.1.length)]⟩
def f395.kills (a:(List (aD))×(List (aF))×aE):List Hint:=[.tell ((List (ByteArray))×(List (aB))×Int×Int) (f395.S0 a)]
def f395.cuts (a:(List (aD))×(List (aF))×aE):List (Nat×Σ β:Type,β→Tm):=[]
def f395.af (a:(List (aD))×(List (aF))×aE):AF:=AF.mk (.seq (.region [oT 5 0 .box [2],
 oT 6 1 (.nilSl 1) []])
 (.seq (.region [oT 7 2 (.nilSl 1) []])
 (.seq (.seq (.region [mT 10 3 0,
 mT 11 4 1,
 oT 12 5 (.load true 10) [5],
 oT 13 6 (.call false 171) [10,11,12],
 oT 14 10 (.len false) [13],
 ⟨(some 15),11,.move,[.c (.int .i64 (0))],none⟩])
 (.block 0 (.loopT ((List (ByteArray))×(List (aB))×Int×Int) (f395.S0 a) 12 27 (.seq (.region [oT 16 12 (.bin .lss) [15,14]])
 (.seq (.cond (.t 16) (.skip) (.exit 0))
 (.seq (.block 1 (.seq (.region [oT 17 13 (.indexAddr 2 none) [13,15],
 oT 18 14 (.load true 2) [17],
 oT 9 15 (.alloc [.str ByteArray.empty,.int .i64 (0)]) [],
 ⟨none,18,(.store 2),[.t 9,.t 18],none⟩])
 (.region [mT 19 19 7,
 oT 20 20 (.fieldAddr 0) [9],
 oT 21 21 (.load false 1) [20],
 oT 22 22 (.buildSlice 1 1 [.str ByteArray.empty] [(0,1)]) [21],
 oT 23 23 (.append 1 16) [19,22],
 mT 7 24 23])))
 (.region [⟨(some 24),25,(.bin .add),[.t 15,.c (.int .i64 (1))],none⟩,
 mT 15 26 24])))))))
 (.seq (.region [mT 25 27 7,
 mT 6 28 25])
 (.ret)))))
 [.tmp 6] 0 23
def f395.env:Env:=[(171,f171.C)]
def f395.tree (a:(List (aD))×(List (aF))×aE):Prop:=f171.ent (fun c1=>(cA c1)∧∃ (I3:((List (ByteArray))×(List (aB))×Int×Int)→Prop) (μ4:((List (ByteArray))×(List (aB))×Int×Int)→Nat),(∃ x2:(List (ByteArray))×(List (aB))×Int×Int,SlQ 0 x2.1.length eM (gl bU x2.1) (SlQ ((eA c1).length) x2.2.1.length (gl aA (eA c1)) (gl aA x2.2.1) ((((eA c1).length:Int)=x2.2.2.1)∧((0:Int)=x2.2.2.2)∧(0=x2.1.length)∧I3 x2)))∧∀ y5:(List (ByteArray))×(List (aB))×Int×Int,I3 y5→(Br (decide (y5.2.2.2 < y5.2.2.1)) (Br (decide ((0:Int)≤y5.2.2.2)&&decide (y5.2.2.2 < (y5.2.1.length:Int))) ((y5.1.length=y5.1.length∧nX ((y5.1.length+1) * 16))∧(Let (wI (y5.2.2.2+(1:Int))) (fun v9:Int=>∃ x10:(List (ByteArray))×(List (aB))×Int×Int,SlQ (y5.1.length+1) x10.1.length (gA (gl bU y5.1) y5.1.length (fun _=>[.str ((at_ y5.2.1 y5.2.2.2).1)])) (gl bU x10.1) (SlQ y5.2.1.length x10.2.1.length (gl aA y5.2.1) (gl aA x10.2.1) ((y5.2.2.1=x10.2.2.1)∧(v9=x10.2.2.2)∧((y5.1.length+1)=x10.1.length)∧I3 x10∧μ4 x10 < μ4 y5))))) False) ((y5.1.length=y5.1.length)∧SlQ y5.1.length ((cU a).length) (gl bU y5.1) (gl bU (cU a)) (True)))) (a.1,a.2.1,a.2.2)
def f395.vc (a:(List (aD))×(List (aF))×aE):Prop:=(cA (a.1,a.2.1,a.2.2)∧(∃ (I3:((List (ByteArray))×(List (aB))×Int×Int)→Prop) (μ4:((List (ByteArray))×(List (aB))×Int×Int)→Nat),I3 ([],(eA (a.1,a.2.1,a.2.2)),((eA (a.1,a.2.1,a.2.2)).length:Int),(0:Int))∧∀ y5:(List (ByteArray))×(List (aB))×Int×Int,I3 y5→((y5.2.2.2 < y5.2.2.1→((0:Int)≤y5.2.2.2∧y5.2.2.2 < (y5.2.1.length:Int)∧(y5.1.length+1≤1073741824∧(-9223372036854775808≤(y5.2.2.2+(1:Int))∧(y5.2.2.2+(1:Int))≤9223372036854775807∧(I3 (y5.1++([(at_ y5.2.1 y5.2.2.2).1]),y5.2.1,y5.2.2.1,(y5.2.2.2+(1:Int)))∧μ4 (y5.1++([(at_ y5.2.1 y5.2.2.2).1]),y5.2.1,y5.2.2.1,(y5.2.2.2+(1:Int))) < μ4 y5)))))∧(¬(y5.2.2.2 < y5.2.2.1)→(y5.1=cU a)))))
theorem f395.of (a:(List (aD))×(List (aF))×aE) (h:f395.vc a):f395.tree a:=(f171.ei ⟨h.1,Exists.elim h.2 (fun I3 h19_=>Exists.elim h19_ (fun μ4 h19=>⟨I3,μ4,⟨([],(eA (a.1,a.2.1,a.2.2)),((eA (a.1,a.2.1,a.2.2)).length:Int),(0:Int)),slQ (Rds.nil (enc:=bU)) (slQ (rS aA) (⟨rfl,⟨rfl,⟨(bI eM (Rds.nil (enc:=bU))),h19.1⟩⟩⟩))⟩,fun y5 h21=>br (h19.2 y5 h21) Cnd.dec (fun h6 k17=>chk k17.2.2 Cnd.ix ⟨k17.1,k17.2.1⟩ (fun h8 k15=>⟨⟨rfl,(iL k15.1 (by decide))⟩,wrapK.i64 k15.2 (fun h12 h13 k14=>⟨(y5.1++([(at_ y5.2.1 y5.2.2.2).1]),y5.2.1,y5.2.2.1,(y5.2.2.2+(1:Int))),slQ (Rds.app (enc:=bU) (rS bU) (Rds.one (enc:=bU) (DEqs.refl _))) (slQ (rS aA) (⟨rfl,⟨rfl,⟨(bI (gA (gl bU y5.1) y5.1.length (fun _=>[.str ((at_ y5.2.1 y5.2.2.2).1)])) (Rds.app (enc:=bU) (rS bU) (Rds.one (enc:=bU) (DEqs.refl _)))),k14⟩⟩⟩))⟩)⟩)) (fun h7 k18=>⟨rfl,slQ (Rds.to (rS bU) k18) (trivial)⟩)⟩))⟩)
theorem f395.eq (a:(List (aD))×(List (aF))×aE):(f395.af a).gives f395.env (f395.args a) (f395.blks a) (f395.res a) (f395.blks' a)=f395.tree a:=by kernel_rfl
def f392.ent (K:((List (aD))×(List (aF))×aE)→Prop) (t:(List (aD))×(List (aF))×aE):Prop:=∃ c:(List (aD))×(List (aF))×aE,SlQ t.1.length c.1.length (gl aO t.1) (gl aO c.1) (SlQ t.2.1.length c.2.1.length (gl aM t.2.1) (gl aM c.2.1) ((t.2.2.1=c.2.2.1)∧(t.2.2.2.1=c.2.2.2.1)∧(t.2.2.2.2.1=c.2.2.2.2.1)∧(t.2.2.2.2.2.1.1=c.2.2.2.2.2.1.1)∧(t.2.2.2.2.2.1.2.1=c.2.2.2.2.2.1.2.1)∧(t.2.2.2.2.2.1.2.2=c.2.2.2.2.2.1.2.2)∧SlQ t.2.2.2.2.2.2.1.length c.2.2.2.2.2.2.1.length (gl aG t.2.2.2.2.2.2.1) (gl aG c.2.2.2.2.2.2.1) ((t.2.2.2.2.2.2.2.1=c.2.2.2.2.2.2.2.1)∧(t.2.2.2.2.2.2.2.2.1=c.2.2.2.2.2.2.2.2.1)∧(t.2.2.2.2.2.2.2.2.2=c.2.2.2.2.2.2.2.2.2)∧K c)))
theorem f392.ei {K:((List (aD))×(List (aF))×aE)→Prop} {t:(List (aD))×(List (aF))×aE} (h:K t):f392.ent K t:=⟨t,slQ (rS aO) (slQ (rS aM) (⟨rfl,⟨rfl,⟨rfl,⟨rfl,⟨rfl,⟨rfl,slQ (rS aG) (⟨rfl,⟨rfl,⟨rfl,h⟩⟩⟩)⟩⟩⟩⟩⟩⟩))⟩
def f392.args (a:(List (aD))×(List (aF))×aE):List D:=[.slice .ro 7 a.1.length (gl aO a.1),.slice .ro 13 a.2.1.length (gl aM a.2.1),.agg [.str a.2.2.1,.str a.2.2.2.1,.int .i64 a.2.2.2.2.1,.int .i64 a.2.2.2.2.2.1.1,.int .i64 a.2.2.2.2.2.1.2.1,.int .i64 a.2.2.2.2.2.1.2.2,.slice .ro 2 a.2.2.2.2.2.2.1.length (gl aG a.2.2.2.2.2.2.1),.str a.2.2.2.2.2.2.2.1,.str a.2.2.2.2.2.2.2.2.1,.int .i64 a.2.2.2.2.2.2.2.2.2]]
def f392.blks (a:(List (aD))×(List (aF))×aE):List (List D):=[]
def f392.res (a:(List (aD))×(List (aF))×aE):List D:=[.bool (gS a)]
def f392.blks' (a:(List (aD))×(List (aF))×aE):List (List D):=[]
def f392.C:aN:=FnC f392.args f392.blks (fun a=>kT a) f392.res f392.blks'
def f392.S0 (a:(List (aD))×(List (aF))×aE) (x:Int):Tm:=⟨.slice .ro 7 a.1.length (gl aO a.1)::dd 22 (.int .i64 (a.1.length:Int)::.int .i64 x::dd 21 []),[],[]⟩
def f392.kills (a:(List (aD))×(List (aF))×aE):List Hint:=[.tell Int (f392.S0 a)]
def f392.cuts (a:(List (aD))×(List (aF))×aE):List (Nat×Σ β:Type,β→Tm):=[]
def f392.af (a:(List (aD))×(List (aF))×aE):AF:=AF.mk (.seq (.region [oT 5 0 .box [2],
 ⟨(some 6),1,.move,[.c (.bool false)],none⟩])
 (.seq (.seq (.region [mT 8 2 0,
 oT 9 3 (.len false) [8],
 ⟨(some 10),4,(.bin .gtr),[.t 9,.c (.int .i64 (40))],none⟩,
 mT 11 5 10,
 oG 12 6 .move [1] 11 false,
 oG 13 7 (.len false) [12] 11 false,
 ⟨(some 14),8,(.bin .gtr),[.t 13,.c (.int .i64 (100))],(some (11,false))⟩,
 ⟨(some 15),9,.pick,[.t 11,.c (.bool true),.t 14],none⟩,
 mT 16 10 15,
 oG 17 11 (.fieldAddr 6) [5] 16 false,
 oG 18 12 (.load false 1) [17] 16 false,
 oG 19 13 (.len false) [18] 16 false,
 ⟨(some 20),14,(.bin .gtr),[.t 19,.c (.int .i64 (20))],(some (16,false))⟩,
 ⟨(some 21),15,.pick,[.t 16,.c (.bool true),.t 20],none⟩])
 (.cond (.t 21) (.seq (.region [⟨(some 6),16,.move,[.c (.bool false)],none⟩])
 (.ret)) (.skip)))
 (.seq (.seq (.region [mT 22 17 0,
 oT 23 18 (.len false) [22],
 ⟨(some 24),19,.move,[.c (.int .i64 (0))],none⟩])
 (.block 0 (.loopT Int (f392.S0 a) 20 44 (.seq (.region [oT 25 20 (.bin .lss) [24,23]])
 (.seq (.cond (.t 25) (.skip) (.exit 0))
 (.seq (.block 1 (.seq (.region [mT 26 21 24,
 mT 7 22 26])
 (.seq (.region [mT 27 23 0,
 mT 28 24 7,
 oT 29 25 (.indexAddr 7 none) [27,28],
 oT 30 26 (.fieldAddr 0) [29],
 oT 31 27 (.fieldAddr 4) [30],
 oT 32 28 (.load false 1) [31],
 oT 33 29 (.len false) [32],
 ⟨(some 34),30,(.bin .gtr),[.t 33,.c (.int .i64 (20))],none⟩,
 mT 35 31 34,
 oG 36 32 .move [0] 35 false,
 oG 37 33 .move [7] 35 false,
 oG 38 34 (.indexAddr 7 none) [36,37] 35 false,
 oG 39 35 (.fieldAddr 0) [38] 35 false,
 oG 40 36 (.fieldAddr 0) [39] 35 false,
 oG 41 37 (.load false 1) [40] 35 false,
 oG 42 38 (.len true) [41] 35 false,
 ⟨(some 43),39,(.bin .gtr),[.t 42,.c (.int .i64 (1000))],(some (35,false))⟩,
 ⟨(some 44),40,.pick,[.t 35,.c (.bool true),.t 43],none⟩])
 (.cond (.t 44) (.seq (.region [⟨(some 6),41,.move,[.c (.bool false)],none⟩])
 (.ret)) (.skip)))))
 (.region [⟨(some 45),42,(.bin .add),[.t 24,.c (.int .i64 (1))],none⟩,
 mT 24 43 45])))))))
 (.seq (.region [⟨(some 6),44,.move,[.c (.bool true)],none⟩])
 (.ret)))))
 [.tmp 6] 0 43
def f392.env:Env:=[]
def f392.tree (a:(List (aD))×(List (aF))×aE):Prop:=Br (decide ((40:Int) < (a.1.length:Int))) ((false=(gS a))∧True) (Br (decide ((100:Int) < (a.2.1.length:Int))) ((false=(gS a))∧True) (Br (decide ((20:Int) < (a.2.2.2.2.2.2.1.length:Int))) ((false=(gS a))∧True) (∃ (I11:Int→Prop) (μ12:Int→Nat),(∃ x10:Int,SlS aO a.1 (((a.1.length:Int)=(a.1.length:Int))∧((0:Int)=x10)∧I11 x10))∧∀ y13:Int,I11 y13→(Br (decide (y13 < (a.1.length:Int))) (Br (decide ((0:Int)≤y13)&&decide (y13 < (a.1.length:Int))) (Br (decide ((20:Int) < ((((at_ a.1 y13).1).2.2).length:Int))) ((false=(gS a))∧True) (Br (decide ((0:Int)≤y13)&&decide (y13 < (a.1.length:Int))) (Br (decide ((1000:Int) < ((((at_ a.1 y13).1).1).size:Int))) ((false=(gS a))∧True) (Let (wI (y13+(1:Int))) (fun v24:Int=>∃ x25:Int,SlS aO a.1 (((a.1.length:Int)=(a.1.length:Int))∧(v24=x25)∧I11 x25∧μ12 x25 < μ12 y13)))) False)) False) ((true=(gS a))∧True)))))
def f392.vc (a:(List (aD))×(List (aF))×aE):Prop:=(((40:Int) < (a.1.length:Int)→(false=gS a))∧(¬((40:Int) < (a.1.length:Int))→(((100:Int) < (a.2.1.length:Int)→(false=gS a))∧(¬((100:Int) < (a.2.1.length:Int))→(((20:Int) < (a.2.2.2.2.2.2.1.length:Int)→(false=gS a))∧(¬((20:Int) < (a.2.2.2.2.2.2.1.length:Int))→(∃ (I11:Int→Prop) (μ12:Int→Nat),I11 (0:Int)∧∀ y13:Int,I11 y13→((y13 < (a.1.length:Int)→((0:Int)≤y13∧y13 < (a.1.length:Int)∧(((20:Int) < ((((at_ a.1 y13).1).2.2).length:Int)→(false=gS a))∧(¬((20:Int) < ((((at_ a.1 y13).1).2.2).length:Int))→((0:Int)≤y13∧y13 < (a.1.length:Int)∧(((1000:Int) < ((((at_ a.1 y13).1).1).size:Int)→(false=gS a))∧(¬((1000:Int) < ((((at_ a.1 y13).1).1).size:Int))→(-9223372036854775808≤(y13+(1:Int))∧(y13+(1:Int))≤9223372036854775807∧(I11 (y13+(1:Int))∧μ12 (y13+(1:Int)) < μ12 y13)))))))))∧(¬(y13 < (a.1.length:Int))→(true=gS a))))))))))
theorem f392.of (a:(List (aD))×(List (aF))×aE) (h:f392.vc a):f392.tree a:=br h Cnd.dec (fun h1 k46=>⟨k46,trivial⟩) (fun h2 k47=>br k47 Cnd.dec (fun h4 k44=>⟨k44,trivial⟩) (fun h5 k45=>br k45 Cnd.dec (fun h7 k42=>⟨k42,trivial⟩) (fun h8 k43=>Exists.elim k43 (fun I11 h39_=>Exists.elim h39_ (fun μ12 h39=>⟨I11,μ12,⟨(0:Int),SlS.mk  (⟨rfl,⟨rfl,h39.1⟩⟩)⟩,fun y13 h41=>br (h39.2 y13 h41) Cnd.dec (fun h14 k37=>chk k37.2.2 Cnd.ix ⟨k37.1,k37.2.1⟩ (fun h16 k35=>br k35 Cnd.dec (fun h17 k33=>⟨k33,trivial⟩) (fun h18 k34=>chk k34.2.2 Cnd.ix ⟨k34.1,k34.2.1⟩ (fun h20 k32=>br k32 Cnd.dec (fun h21 k30=>⟨k30,trivial⟩) (fun h22 k31=>wrapK.i64 k31 (fun h27 h28 k29=>⟨(y13+(1:Int)),SlS.mk  (⟨rfl,⟨rfl,k29⟩⟩)⟩)))))) (fun h15 k38=>⟨k38,trivial⟩)⟩)))))
theorem f392.eq (a:(List (aD))×(List (aF))×aE):(f392.af a).gives f392.env (f392.args a) (f392.blks a) (f392.res a) (f392.blks' a)=f392.tree a:=by kernel_rfl
def f396.ent (K:((List (aD))×(List (aF))×aE)→Prop) (t:(List (aD))×(List (aF))×aE):Prop:=∃ c:(List (aD))×(List (aF))×aE,SlQ t.1.length c.1.length (gl aO t.1) (gl aO c.1) (SlQ t.2.1.length c.2.1.length (gl aM t.2.1) (gl aM c.2.1) ((t.2.2.1=c.2.2.1)∧(t.2.2.2.1=c.2.2.2.1)∧(t.2.2.2.2.1=c.2.2.2.2.1)∧(t.2.2.2.2.2.1.1=c.2.2.2.2.2.1.1)∧(t.2.2.2.2.2.1.2.1=c.2.2.2.2.2.1.2.1)∧(t.2.2.2.2.2.1.2.2=c.2.2.2.2.2.1.2.2)∧SlQ t.2.2.2.2.2.2.1.length c.2.2.2.2.2.2.1.length (gl aG t.2.2.2.2.2.2.1) (gl aG c.2.2.2.2.2.2.1) ((t.2.2.2.2.2.2.2.1=c.2.2.2.2.2.2.2.1)∧(t.2.2.2.2.2.2.2.2.1=c.2.2.2.2.2.2.2.2.1)∧(t.2.2.2.2.2.2.2.2.2=c.2.2.2.2.2.2.2.2.2)∧K c)))
theorem f396.ei {K:((List (aD))×(List (aF))×aE)→Prop} {t:(List (aD))×(List (aF))×aE} (h:K t):f396.ent K t:=⟨t,slQ (rS aO) (slQ (rS aM) (⟨rfl,⟨rfl,⟨rfl,⟨rfl,⟨rfl,⟨rfl,slQ (rS aG) (⟨rfl,⟨rfl,⟨rfl,h⟩⟩⟩)⟩⟩⟩⟩⟩⟩))⟩
def f396.args (a:(List (aD))×(List (aF))×aE):List D:=[.slice .ro 7 a.1.length (gl aO a.1),.slice .ro 13 a.2.1.length (gl aM a.2.1),.agg [.str a.2.2.1,.str a.2.2.2.1,.int .i64 a.2.2.2.2.1,.int .i64 a.2.2.2.2.2.1.1,.int .i64 a.2.2.2.2.2.1.2.1,.int .i64 a.2.2.2.2.2.1.2.2,.slice .ro 2 a.2.2.2.2.2.2.1.length (gl aG a.2.2.2.2.2.2.1),.str a.2.2.2.2.2.2.2.1,.str a.2.2.2.2.2.2.2.2.1,.int .i64 a.2.2.2.2.2.2.2.2.2]]
def f396.blks (a:(List (aD))×(List (aF))×aE):List (List D):=[]
def f396.res (a:(List (aD))×(List (aF))×aE):List D:=[.slice .ro 1 ((cU a).length) (gl bU (cU a))]
def f396.blks' (a:(List (aD))×(List (aF))×aE):List (List D):=[]
def f396.C:aN:=FnC f396.args f396.blks (fun a=>cA a) f396.res f396.blks'
def f396.S0 (a:(List (aD))×(List (aF))×aE) (x:(List (ByteArray))×(List (Int))×Int):Tm:=⟨.slice .ro 7 a.1.length (gl aO a.1)::.slice .ro 13 a.2.1.length (gl aM a.2.1)::.dead::.dead::.dead::.ptr 0 0::.dead::.slice .ro 1 x.1.length (gl bU x.1)::.slice .ro 1 x.2.1.length (gl dU x.2.1)::dd 8 (.int .i64 (a.1.length:Int)::.int .i64 x.2.2::dd 78 []),[(0,false,[.str a.2.2.1,.str a.2.2.2.1,.int .i64 a.2.2.2.2.1,.int .i64 a.2.2.2.2.2.1.1,.int .i64 a.2.2.2.2.2.1.2.1,.int .i64 a.2.2.2.2.2.1.2.2,.slice .ro 2 a.2.2.2.2.2.2.1.length (gl aG a.2.2.2.2.2.2.1),.str a.2.2.2.2.2.2.2.1,.str a.2.2.2.2.2.2.2.2.1,.int .i64 a.2.2.2.2.2.2.2.2.2])],[]⟩
def f396.S1 (a:(List (aD))×(List (aF))×aE) (x:(List (ByteArray))×(List (Int))×Int×ByteArray×Int×Int):Tm:=⟨.slice .ro 7 a.1.length (gl aO a.1)::.slice .ro 13 a.2.1.length (gl aM a.2.1)::.dead::.dead::.dead::.ptr 0 0::.dead::.slice .ro 1 x.1.length (gl bU x.1)::.slice .ro 1 x.2.1.length (gl dU x.2.1)::.dead::.int .i64 x.2.2.1::.dead::.str x.2.2.2.1::.int .i64 x.2.2.2.2.1::.dead::.dead::.dead::.int .i64 (a.1.length:Int)::.int .i64 x.2.2.2.2.2::dd 78 [],[(0,false,[.str a.2.2.1,.str a.2.2.2.1,.int .i64 a.2.2.2.2.1,.int .i64 a.2.2.2.2.2.1.1,.int .i64 a.2.2.2.2.2.1.2.1,.int .i64 a.2.2.2.2.2.1.2.2,.slice .ro 2 a.2.2.2.2.2.2.1.length (gl aG a.2.2.2.2.2.2.1),.str a.2.2.2.2.2.2.2.1,.str a.2.2.2.2.2.2.2.2.1,.int .i64 a.2.2.2.2.2.2.2.2.2])],[]⟩
def f396.l1 (a:(List (aD))×(List (aF))×aE) (K:((List (ByteArray))×(List (Int))×Int×ByteArray×Int×Int)→Prop) (t:(List (ByteArray))×(List (Int))×Int×ByteArray×Int×Int):Prop:=∃ x:(List (ByteArray))×(List (Int))×Int×ByteArray×Int×Int,SlS aO a.1 (SlS aM a.2.1 (SlQ t.1.length x.1.length (gl bU t.1) (gl bU x.1) (SlQ t.2.1.length x.2.1.length (gl dU t.2.1) (gl dU x.2.1) ((t.2.2.1=x.2.2.1)∧(t.2.2.2.1=x.2.2.2.1)∧(t.2.2.2.2.1=x.2.2.2.2.1)∧((a.1.length:Int)=(a.1.length:Int))∧(t.2.2.2.2.2=x.2.2.2.2.2)∧(a.2.2.1=a.2.2.1)∧(a.2.2.2.1=a.2.2.2.1)∧(a.2.2.2.2.1=a.2.2.2.2.1)∧(a.2.2.2.2.2.1.1=a.2.2.2.2.2.1.1)∧(a.2.2.2.2.2.1.2.1=a.2.2.2.2.2.1.2.1)∧(a.2.2.2.2.2.1.2.2=a.2.2.2.2.2.1.2.2)∧SlS aG a.2.2.2.2.2.2.1 ((a.2.2.2.2.2.2.2.1=a.2.2.2.2.2.2.2.1)∧(a.2.2.2.2.2.2.2.2.1=a.2.2.2.2.2.2.2.2.1)∧(a.2.2.2.2.2.2.2.2.2=a.2.2.2.2.2.2.2.2.2)∧K x)))))
theorem f396.l1i (a:(List (aD))×(List (aF))×aE) {K:((List (ByteArray))×(List (Int))×Int×ByteArray×Int×Int)→Prop} {t:(List (ByteArray))×(List (Int))×Int×ByteArray×Int×Int} (h:K t):f396.l1 a K t:=⟨t,SlS.mk  (SlS.mk  (slQ (rS bU) (slQ (rS dU) (⟨rfl,⟨rfl,⟨rfl,⟨rfl,⟨rfl,⟨rfl,⟨rfl,⟨rfl,⟨rfl,⟨rfl,⟨rfl,SlS.mk  (⟨rfl,⟨rfl,⟨rfl,h⟩⟩⟩)⟩⟩⟩⟩⟩⟩⟩⟩⟩⟩⟩))))⟩
def f396.s14 (a:(List (aD))×(List (aF))×aE) (K:((List (ByteArray))×(List (Int))×Int×ByteArray×Int×Int)→Prop) (t:(List (ByteArray))×(List (Int))×Int×ByteArray×Int×Int):Prop:=∃ x:(List (ByteArray))×(List (Int))×Int×ByteArray×Int×Int,SlS aO a.1 (SlS aM a.2.1 (SlQ t.1.length x.1.length (gl bU t.1) (gl bU x.1) (SlQ t.2.1.length x.2.1.length (gl dU t.2.1) (gl dU x.2.1) ((t.2.2.1=x.2.2.1)∧(t.2.2.2.1=x.2.2.2.1)∧(t.2.2.2.2.1=x.2.2.2.2.1)∧((a.1.length:Int)=(a.1.length:Int))∧(t.2.2.2.2.2=x.2.2.2.2.2)∧(a.2.2.1=a.2.2.1)∧(a.2.2.2.1=a.2.2.2.1)∧(a.2.2.2.2.1=a.2.2.2.2.1)∧(a.2.2.2.2.2.1.1=a.2.2.2.2.2.1.1)∧(a.2.2.2.2.2.1.2.1=a.2.2.2.2.2.1.2.1)∧(a.2.2.2.2.2.1.2.2=a.2.2.2.2.2.1.2.2)∧SlS aG a.2.2.2.2.2.2.1 ((a.2.2.2.2.2.2.2.1=a.2.2.2.2.2.2.2.1)∧(a.2.2.2.2.2.2.2.2.1=a.2.2.2.2.2.2.2.2.1)∧(a.2.2.2.2.2.2.2.2.2=a.2.2.2.2.2.2.2.2.2)∧K x)))))
theorem f396.s14i (a:(List (aD))×(List (aF))×aE) {K:((List (ByteArray))×(List (Int))×Int×ByteArray×Int×Int)→Prop} {t:(List (ByteArray))×(List (Int))×Int×ByteArray×Int×Int} (h:K t):f396.s14 a K t:=⟨t,SlS.mk  (SlS.mk  (slQ (rS bU) (slQ (rS dU) (⟨rfl,⟨rfl,⟨rfl,⟨rfl,⟨rfl,⟨rfl,⟨rfl,⟨rfl,⟨rfl,⟨rfl,⟨rfl,SlS.mk  (⟨rfl,⟨rfl,⟨rfl,h⟩⟩⟩)⟩⟩⟩⟩⟩⟩⟩⟩⟩⟩⟩))))⟩
def f396.kills (a:(List (aD))×(List (aF))×aE):List Hint:=[.tell ((List (ByteArray))×(List (Int))×Int) (f396.S0 a),
 .tell ((List (ByteArray))×(List (Int))×Int×ByteArray×Int×Int) (f396.S1 a)]
def f396.cuts (a:(List (aD))×(List (aF))×aE):List (Nat×Σ β:Type,β→Tm):=[(100014,⟨(List (ByteArray))×(List (Int))×Int×ByteArray×Int×Int,fun x=>⟨.slice .ro 7 a.1.length (gl aO a.1)::.slice .ro 13 a.2.1.length (gl aM a.2.1)::.dead::.dead::.dead::.ptr 0 0::.dead::.slice .ro 1 x.1.length (gl bU x.1)::.slice .ro 1 x.2.1.length (gl dU x.2.1)::.dead::.int .i64 x.2.2.1::.dead::.str x.2.2.2.1::.int .i64 x.2.2.2.2.1::.dead::.dead::.dead::.int .i64 (a.1.length:Int)::.int .i64 x.2.2.2.2.2::dd 78 [],[(0,false,[.str a.2.2.1,.str a.2.2.2.1,.int .i64 a.2.2.2.2.1,.int .i64 a.2.2.2.2.2.1.1,.int .i64 a.2.2.2.2.2.1.2.1,.int .i64 a.2.2.2.2.2.1.2.2,.slice .ro 2 a.2.2.2.2.2.2.1.length (gl aG a.2.2.2.2.2.2.1),.str a.2.2.2.2.2.2.2.1,.str a.2.2.2.2.2.2.2.2.1,.int .i64 a.2.2.2.2.2.2.2.2.2])],[]⟩⟩)]
def f396.af (a:(List (aD))×(List (aF))×aE):AF:=AF.mk (.seq (.region [oT 5 0 .box [2],
 oT 6 1 (.nilSl 1) []])
 (.seq (.region [oT 7 2 (.nilSl 1) []])
 (.seq (.region [oT 8 3 (.nilSl 1) []])
 (.seq (.seq (.region [mT 16 4 0,
 oT 17 5 (.len false) [16],
 ⟨(some 18),6,.move,[.c (.int .i64 (0))],none⟩])
 (.block 0 (.loopT ((List (ByteArray))×(List (Int))×Int) (f396.S0 a) 7 100 (.seq (.region [oT 19 7 (.bin .lss) [18,17]])
 (.seq (.cond (.t 19) (.skip) (.exit 0))
 (.seq (.block 1 (.seq (.region [mT 20 8 18,
 mT 9 9 20])
 (.seq (.region [mT 22 10 0,
 mT 23 11 9,
 oT 24 12 (.indexAddr 7 none) [22,23],
 oT 25 13 (.load true 7) [24],
 mT 26 14 1,
 oT 27 15 (.load true 10) [5],
 oT 28 16 (.call false 393) [25,26,27],
 mT 21 20 28,
 oT 29 21 (.extract 0) [21],
 oT 30 22 (.extract 1) [21],
 mT 10 23 29,
 mT 11 24 30])
 (.seq (.seq (.region [mT 31 25 11,
 oT 32 26 (.un .not) [31]])
 (.cond (.t 32) (.exit 1) (.skip)))
 (.seq (.region [mT 33 27 0,
 mT 34 28 9,
 oT 35 29 (.indexAddr 7 none) [33,34],
 oT 36 30 (.fieldAddr 0) [35],
 oT 37 31 (.fieldAddr 0) [36],
 oT 38 32 (.load false 1) [37],
 mT 12 33 38])
 (.seq (.region [⟨(some 13),34,.move,[.c (.int .i64 (0))],none⟩])
 (.joinT ((List (ByteArray))×(List (Int))×Int×ByteArray×Int×Int) (fun x=>⟨.slice .ro 7 a.1.length (gl aO a.1)::.slice .ro 13 a.2.1.length (gl aM a.2.1)::.dead::.dead::.dead::.ptr 0 0::.dead::.slice .ro 1 x.1.length (gl bU x.1)::.slice .ro 1 x.2.1.length (gl dU x.2.1)::.dead::.int .i64 x.2.2.1::.dead::.str x.2.2.2.1::.int .i64 x.2.2.2.2.1::.dead::.dead::.dead::.int .i64 (a.1.length:Int)::.int .i64 x.2.2.2.2.2::dd 78 [],[(0,false,[.str a.2.2.1,.str a.2.2.2.1,.int .i64 a.2.2.2.2.1,.int .i64 a.2.2.2.2.2.1.1,.int .i64 a.2.2.2.2.2.1.2.1,.int .i64 a.2.2.2.2.2.1.2.2,.slice .ro 2 a.2.2.2.2.2.2.1.length (gl aG a.2.2.2.2.2.2.1),.str a.2.2.2.2.2.2.2.1,.str a.2.2.2.2.2.2.2.2.1,.int .i64 a.2.2.2.2.2.2.2.2.2])],[]⟩) (.block 2 (.loopT ((List (ByteArray))×(List (Int))×Int×ByteArray×Int×Int) (f396.S1 a) 35 66 (.seq (.seq (.region [mT 39 35 13,
 mT 40 36 7,
 oT 41 37 (.len false) [40],
 oT 42 38 (.bin .lss) [39,41],
 mT 43 39 42,
 oG 44 40 .move [8] 43 true,
 oG 45 41 .move [13] 43 true,
 oG 46 42 (.indexAddr 1 none) [44,45] 43 true,
 oG 47 43 (.load false 1) [46] 43 true,
 oG 48 44 .move [10] 43 true,
 oG 49 45 (.bin .lss) [47,48] 43 true,
 oG 50 46 .move [49] 43 true,
 oG 51 47 .move [8] 50 false,
 oG 52 48 .move [13] 50 false,
 oG 53 49 (.indexAddr 1 none) [51,52] 50 false,
 oG 54 50 (.load false 1) [53] 50 false,
 oG 55 51 .move [10] 50 false,
 oG 56 52 (.bin .eql) [54,55] 50 false,
 oG 57 53 .move [56] 50 false,
 oG 58 54 .move [7] 57 true,
 oG 59 55 .move [13] 57 true,
 oG 60 56 (.indexAddr 1 none) [58,59] 57 true,
 oG 61 57 (.load false 1) [60] 57 true,
 oG 62 58 .move [12] 57 true,
 oG 63 59 (.bin .lss) [61,62] 57 true,
 ⟨(some 64),60,.pick,[.t 57,.t 63,.c (.bool false)],(some (50,false))⟩,
 ⟨(some 65),61,.pick,[.t 50,.c (.bool true),.t 64],(some (43,true))⟩,
 ⟨(some 66),62,.pick,[.t 43,.t 65,.c (.bool false)],none⟩])
 (.cond (.t 66) (.skip) (.exit 2)))
 (.block 3 (.region [mT 67 63 13,
 ⟨(some 68),64,(.bin .add),[.t 67,.c (.int .i64 (1))],none⟩,
 mT 13 65 68])))))
 (.seq (.region [oT 14 66 (.nilSl 1) []])
 (.seq (.region [oT 15 67 (.nilSl 1) []])
 (.seq (.region [mT 69 68 14,
 mT 70 69 7,
 mT 71 70 13,
 oT 72 71 (.sliceSl 1 false true false) [70,71],
 oT 73 72 (.append 1 16) [69,72],
 mT 74 73 12,
 oT 75 74 (.buildSlice 1 1 [.str ByteArray.empty] [(0,1)]) [74],
 oT 76 75 (.append 1 16) [73,75],
 mT 77 76 7,
 mT 78 77 13,
 oT 79 78 (.sliceSl 1 true false false) [77,78],
 oT 80 79 (.append 1 16) [76,79],
 mT 14 80 80])
 (.seq (.region [mT 81 81 15,
 mT 82 82 8,
 mT 83 83 13,
 oT 84 84 (.sliceSl 1 false true false) [82,83],
 oT 85 85 (.append 1 8) [81,84],
 mT 86 86 10,
 oT 87 87 (.buildSlice 1 1 [.int .i64 (0)] [(0,1)]) [86],
 oT 88 88 (.append 1 8) [85,87],
 mT 89 89 8,
 mT 90 90 13,
 oT 91 91 (.sliceSl 1 true false false) [89,90],
 oT 92 92 (.append 1 8) [88,91],
 mT 15 93 92])
 (.region [mT 93 94 14,
 mT 94 95 15,
 mT 7 96 93,
 mT 8 97 94]))))))))))))
 (.region [⟨(some 95),98,(.bin .add),[.t 18,.c (.int .i64 (1))],none⟩,
 mT 18 99 95])))))))
 (.seq (.region [mT 96 100 7,
 mT 6 101 96])
 (.ret))))))
 [.tmp 6] 0 94
def f396.env:Env:=[(393,f393.C)]
def f396.tree (a:(List (aD))×(List (aF))×aE):Prop:=∃ (I2:((List (ByteArray))×(List (Int))×Int)→Prop) (μ3:((List (ByteArray))×(List (Int))×Int)→Nat),(∃ x1:(List (ByteArray))×(List (Int))×Int,SlS aO a.1 (SlS aM a.2.1 (SlQ 0 x1.1.length eM (gl bU x1.1) (SlQ 0 x1.2.1.length eM (gl dU x1.2.1) (((a.1.length:Int)=(a.1.length:Int))∧((0:Int)=x1.2.2)∧(a.2.2.1=a.2.2.1)∧(a.2.2.2.1=a.2.2.2.1)∧(a.2.2.2.2.1=a.2.2.2.2.1)∧(a.2.2.2.2.2.1.1=a.2.2.2.2.2.1.1)∧(a.2.2.2.2.2.1.2.1=a.2.2.2.2.2.1.2.1)∧(a.2.2.2.2.2.1.2.2=a.2.2.2.2.2.1.2.2)∧SlS aG a.2.2.2.2.2.2.1 ((a.2.2.2.2.2.2.2.1=a.2.2.2.2.2.2.2.1)∧(a.2.2.2.2.2.2.2.2.1=a.2.2.2.2.2.2.2.2.1)∧(a.2.2.2.2.2.2.2.2.2=a.2.2.2.2.2.2.2.2.2)∧I2 x1))))))∧∀ y4:(List (ByteArray))×(List (Int))×Int,I2 y4→(Br (decide (y4.2.2 < (a.1.length:Int))) (Br (decide ((0:Int)≤y4.2.2)&&decide (y4.2.2 < (a.1.length:Int))) (f393.ent (fun c8=>(dK c8)∧Br (!((bN c8).2)) (Let (wI (y4.2.2+(1:Int))) (fun v11:Int=>∃ x12:(List (ByteArray))×(List (Int))×Int,SlS aO a.1 (SlS aM a.2.1 (SlQ y4.1.length x12.1.length (gl bU y4.1) (gl bU x12.1) (SlQ y4.2.1.length x12.2.1.length (gl dU y4.2.1) (gl dU x12.2.1) (((a.1.length:Int)=(a.1.length:Int))∧(v11=x12.2.2)∧(a.2.2.1=a.2.2.1)∧(a.2.2.2.1=a.2.2.2.1)∧(a.2.2.2.2.1=a.2.2.2.2.1)∧(a.2.2.2.2.2.1.1=a.2.2.2.2.2.1.1)∧(a.2.2.2.2.2.1.2.1=a.2.2.2.2.2.1.2.1)∧(a.2.2.2.2.2.1.2.2=a.2.2.2.2.2.1.2.2)∧SlS aG a.2.2.2.2.2.2.1 ((a.2.2.2.2.2.2.2.1=a.2.2.2.2.2.2.2.1)∧(a.2.2.2.2.2.2.2.2.1=a.2.2.2.2.2.2.2.2.1)∧(a.2.2.2.2.2.2.2.2.2=a.2.2.2.2.2.2.2.2.2)∧I2 x12∧μ3 x12 < μ3 y4))))))) (Br (decide ((0:Int)≤y4.2.2)&&decide (y4.2.2 < (a.1.length:Int))) (∃ I18:((List (ByteArray))×(List (Int))×Int×ByteArray×Int×Int)→Prop,(∃ (I20:((List (ByteArray))×(List (Int))×Int×ByteArray×Int×Int)→Prop) (μ21:((List (ByteArray))×(List (Int))×Int×ByteArray×Int×Int)→Nat),(f396.l1 a I20 (y4.1,y4.2.1,(bN c8).1,((at_ a.1 y4.2.2).1).1,(0:Int),y4.2.2))∧∀ y22:(List (ByteArray))×(List (Int))×Int×ByteArray×Int×Int,I20 y22→(Br (decide (y22.2.2.2.2.1 < (y22.1.length:Int))) (Br (decide ((0:Int)≤y22.2.2.2.2.1)&&decide (y22.2.2.2.2.1 < (y22.2.1.length:Int))) (Br (decide ((at_ y22.2.1 y22.2.2.2.2.1) < y22.2.2.1)) (Let (wI (y22.2.2.2.2.1+(1:Int))) (fun v28:Int=>f396.l1 a (Dn I20 μ21 y22) (y22.1,y22.2.1,y22.2.2.1,y22.2.2.2.1,v28,y22.2.2.2.2.2))) (Br (decide ((0:Int)≤y22.2.2.2.2.1)&&decide (y22.2.2.2.2.1 < (y22.2.1.length:Int))) (Br ((at_ y22.2.1 y22.2.2.2.2.1)==y22.2.2.1) (Br (decide ((0:Int)≤y22.2.2.2.2.1)&&decide (y22.2.2.2.2.1 < (y22.1.length:Int))) (Br (Op.bytesLess (at_ y22.1 y22.2.2.2.2.1).toList y22.2.2.2.1.toList) (Let (wI (y22.2.2.2.2.1+(1:Int))) (fun v40:Int=>f396.l1 a (Dn I20 μ21 y22) (y22.1,y22.2.1,y22.2.2.1,y22.2.2.2.1,v40,y22.2.2.2.2.2))) (f396.s14 a I18 (y22.1,y22.2.1,y22.2.2.1,y22.2.2.2.1,y22.2.2.2.2.1,y22.2.2.2.2.2))) False) (f396.s14 a I18 (y22.1,y22.2.1,y22.2.2.1,y22.2.2.2.1,y22.2.2.2.2.1,y22.2.2.2.2.2))) False)) False) (f396.s14 a I18 (y22.1,y22.2.1,y22.2.2.1,y22.2.2.2.1,y22.2.2.2.2.1,y22.2.2.2.2.2))))∧∀ y63:(List (ByteArray))×(List (Int))×Int×ByteArray×Int×Int,I18 y63→(Br (decide ((0:Int)≤(0:Int))&&decide ((0:Int)≤y63.2.2.2.2.1)&&decide (y63.2.2.2.2.1≤(y63.1.length:Int))&&(y63.2.2.2.2.1==y63.2.2.2.2.1)) ((0=0∧nX ((0+(Int.toNat (y63.2.2.2.2.1 - (0:Int)))) * 16))∧(((0+(Int.toNat (y63.2.2.2.2.1 - (0:Int))))=(0+(Int.toNat (y63.2.2.2.2.1 - (0:Int))))∧nX (((0+(Int.toNat (y63.2.2.2.2.1 - (0:Int))))+1) * 16))∧(Br (decide ((0:Int)≤y63.2.2.2.2.1)&&decide (y63.2.2.2.2.1≤(y63.1.length:Int))&&decide ((y63.1.length:Int)≤(y63.1.length:Int))&&((y63.1.length:Int)==(y63.1.length:Int))) ((((0+(Int.toNat (y63.2.2.2.2.1 - (0:Int))))+1)=((0+(Int.toNat (y63.2.2.2.2.1 - (0:Int))))+1)∧nX ((((0+(Int.toNat (y63.2.2.2.2.1 - (0:Int))))+1)+(Int.toNat ((y63.1.length:Int) - y63.2.2.2.2.1))) * 16))∧(Br (decide ((0:Int)≤(0:Int))&&decide ((0:Int)≤y63.2.2.2.2.1)&&decide (y63.2.2.2.2.1≤(y63.2.1.length:Int))&&(y63.2.2.2.2.1==y63.2.2.2.2.1)) ((0=0∧nX ((0+(Int.toNat (y63.2.2.2.2.1 - (0:Int)))) * 8))∧(((0+(Int.toNat (y63.2.2.2.2.1 - (0:Int))))=(0+(Int.toNat (y63.2.2.2.2.1 - (0:Int))))∧nX (((0+(Int.toNat (y63.2.2.2.2.1 - (0:Int))))+1) * 8))∧(Br (decide ((0:Int)≤y63.2.2.2.2.1)&&decide (y63.2.2.2.2.1≤(y63.2.1.length:Int))&&decide ((y63.2.1.length:Int)≤(y63.2.1.length:Int))&&((y63.2.1.length:Int)==(y63.2.1.length:Int))) ((((0+(Int.toNat (y63.2.2.2.2.1 - (0:Int))))+1)=((0+(Int.toNat (y63.2.2.2.2.1 - (0:Int))))+1)∧nX ((((0+(Int.toNat (y63.2.2.2.2.1 - (0:Int))))+1)+(Int.toNat ((y63.2.1.length:Int) - y63.2.2.2.2.1))) * 8))∧(Let (wI (y63.2.2.2.2.2+(1:Int))) (fun v70:Int=>∃ x71:(List (ByteArray))×(List (Int))×Int,SlS aO a.1 (SlS aM a.2.1 (SlQ (((0+(Int.toNat (y63.2.2.2.2.1 - (0:Int))))+1)+(Int.toNat ((y63.1.length:Int) - y63.2.2.2.2.1))) x71.1.length (gA (gA (gA eM 0 (aAF (gl bU y63.1) 0)) (0+(Int.toNat (y63.2.2.2.2.1 - (0:Int)))) (fun _=>[.str y63.2.2.2.1])) ((0+(Int.toNat (y63.2.2.2.2.1 - (0:Int))))+1) (aAF (gl bU y63.1) (Int.toNat y63.2.2.2.2.1))) (gl bU x71.1) (SlQ (((0+(Int.toNat (y63.2.2.2.2.1 - (0:Int))))+1)+(Int.toNat ((y63.2.1.length:Int) - y63.2.2.2.2.1))) x71.2.1.length (gA (gA (gA eM 0 (aAF (gl dU y63.2.1) 0)) (0+(Int.toNat (y63.2.2.2.2.1 - (0:Int)))) (fun _=>[.int .i64 y63.2.2.1])) ((0+(Int.toNat (y63.2.2.2.2.1 - (0:Int))))+1) (aAF (gl dU y63.2.1) (Int.toNat y63.2.2.2.2.1))) (gl dU x71.2.1) (((a.1.length:Int)=(a.1.length:Int))∧(v70=x71.2.2)∧(a.2.2.1=a.2.2.1)∧(a.2.2.2.1=a.2.2.2.1)∧(a.2.2.2.2.1=a.2.2.2.2.1)∧(a.2.2.2.2.2.1.1=a.2.2.2.2.2.1.1)∧(a.2.2.2.2.2.1.2.1=a.2.2.2.2.2.1.2.1)∧(a.2.2.2.2.2.1.2.2=a.2.2.2.2.2.1.2.2)∧SlS aG a.2.2.2.2.2.2.1 ((a.2.2.2.2.2.2.2.1=a.2.2.2.2.2.2.2.1)∧(a.2.2.2.2.2.2.2.2.1=a.2.2.2.2.2.2.2.2.1)∧(a.2.2.2.2.2.2.2.2.2=a.2.2.2.2.2.2.2.2.2)∧I2 x71∧μ3 x71 < μ3 y4)))))))) False))) False)) False))) False)) False)) ((at_ a.1 y4.2.2),a.2.1,a.2.2)) False) (SlQ y4.1.length ((cU a).length) (gl bU y4.1) (gl bU (cU a)) (True)))
def f396.vc (a:(List (aD))×(List (aF))×aE):Prop:=(∃ (I2:((List (ByteArray))×(List (Int))×Int)→Prop) (μ3:((List (ByteArray))×(List (Int))×Int)→Nat),I2 ([],[],(0:Int))∧∀ y4:(List (ByteArray))×(List (Int))×Int,I2 y4→((y4.2.2 < (a.1.length:Int)→((0:Int)≤y4.2.2∧y4.2.2 < (a.1.length:Int)∧(dK ((at_ a.1 y4.2.2),a.2.1,a.2.2)∧((¬(((bN ((at_ a.1 y4.2.2),a.2.1,a.2.2)).2)=true)→(-9223372036854775808≤(y4.2.2+(1:Int))∧(y4.2.2+(1:Int))≤9223372036854775807∧(I2 (y4.1,y4.2.1,(y4.2.2+(1:Int)))∧μ3 (y4.1,y4.2.1,(y4.2.2+(1:Int))) < μ3 y4)))∧(¬(¬(((bN ((at_ a.1 y4.2.2),a.2.1,a.2.2)).2)=true))→((0:Int)≤y4.2.2∧y4.2.2 < (a.1.length:Int)∧(∃ I18:((List (ByteArray))×(List (Int))×Int×ByteArray×Int×Int)→Prop,((∃ (I20:((List (ByteArray))×(List (Int))×Int×ByteArray×Int×Int)→Prop) (μ21:((List (ByteArray))×(List (Int))×Int×ByteArray×Int×Int)→Nat),I20 (y4.1,y4.2.1,(bN ((at_ a.1 y4.2.2),a.2.1,a.2.2)).1,((at_ a.1 y4.2.2).1).1,(0:Int),y4.2.2)∧∀ y22:(List (ByteArray))×(List (Int))×Int×ByteArray×Int×Int,I20 y22→((y22.2.2.2.2.1 < (y22.1.length:Int)→((0:Int)≤y22.2.2.2.2.1∧y22.2.2.2.2.1 < (y22.2.1.length:Int)∧(((at_ y22.2.1 y22.2.2.2.2.1) < y22.2.2.1→(-9223372036854775808≤(y22.2.2.2.2.1+(1:Int))∧(y22.2.2.2.2.1+(1:Int))≤9223372036854775807∧(I20 (y22.1,y22.2.1,y22.2.2.1,y22.2.2.2.1,(y22.2.2.2.2.1+(1:Int)),y22.2.2.2.2.2)∧μ21 (y22.1,y22.2.1,y22.2.2.1,y22.2.2.2.1,(y22.2.2.2.2.1+(1:Int)),y22.2.2.2.2.2) < μ21 y22)))∧(¬((at_ y22.2.1 y22.2.2.2.2.1) < y22.2.2.1)→((0:Int)≤y22.2.2.2.2.1∧y22.2.2.2.2.1 < (y22.2.1.length:Int)∧(((at_ y22.2.1 y22.2.2.2.2.1)=y22.2.2.1→((0:Int)≤y22.2.2.2.2.1∧y22.2.2.2.2.1 < (y22.1.length:Int)∧((sLt (at_ y22.1 y22.2.2.2.2.1) y22.2.2.2.1→(-9223372036854775808≤(y22.2.2.2.2.1+(1:Int))∧(y22.2.2.2.2.1+(1:Int))≤9223372036854775807∧(I20 (y22.1,y22.2.1,y22.2.2.1,y22.2.2.2.1,(y22.2.2.2.2.1+(1:Int)),y22.2.2.2.2.2)∧μ21 (y22.1,y22.2.1,y22.2.2.1,y22.2.2.2.1,(y22.2.2.2.2.1+(1:Int)),y22.2.2.2.2.2) < μ21 y22)))∧(¬(sLt (at_ y22.1 y22.2.2.2.2.1) y22.2.2.2.1)→(I18 (y22.1,y22.2.1,y22.2.2.1,y22.2.2.2.1,y22.2.2.2.2.1,y22.2.2.2.2.2))))))∧(¬((at_ y22.2.1 y22.2.2.2.2.1)=y22.2.2.1)→(I18 (y22.1,y22.2.1,y22.2.2.1,y22.2.2.2.1,y22.2.2.2.2.1,y22.2.2.2.2.2)))))))))∧(¬(y22.2.2.2.2.1 < (y22.1.length:Int))→(I18 (y22.1,y22.2.1,y22.2.2.1,y22.2.2.2.1,y22.2.2.2.2.1,y22.2.2.2.2.2))))))∧∀ y63:(List (ByteArray))×(List (Int))×Int×ByteArray×Int×Int,I18 y63→((0:Int)≤y63.2.2.2.2.1∧y63.2.2.2.2.1≤(y63.1.length:Int)∧(0+(Int.toNat (y63.2.2.2.2.1 - (0:Int)))≤1073741824∧((0+(Int.toNat (y63.2.2.2.2.1 - (0:Int))))+1≤1073741824∧((0:Int)≤y63.2.2.2.2.1∧y63.2.2.2.2.1≤(y63.1.length:Int)∧(((0+(Int.toNat (y63.2.2.2.2.1 - (0:Int))))+1)+(Int.toNat ((y63.1.length:Int) - y63.2.2.2.2.1))≤1073741824∧((0:Int)≤y63.2.2.2.2.1∧y63.2.2.2.2.1≤(y63.2.1.length:Int)∧(0+(Int.toNat (y63.2.2.2.2.1 - (0:Int)))≤1073741824∧((0+(Int.toNat (y63.2.2.2.2.1 - (0:Int))))+1≤1073741824∧((0:Int)≤y63.2.2.2.2.1∧y63.2.2.2.2.1≤(y63.2.1.length:Int)∧(((0+(Int.toNat (y63.2.2.2.2.1 - (0:Int))))+1)+(Int.toNat ((y63.2.1.length:Int) - y63.2.2.2.2.1))≤1073741824∧(-9223372036854775808≤(y63.2.2.2.2.2+(1:Int))∧(y63.2.2.2.2.2+(1:Int))≤9223372036854775807∧(I2 (((([])++(kW y63.1 (0:Int) y63.2.2.2.2.1))++([y63.2.2.2.1]))++(kW y63.1 y63.2.2.2.2.1 (y63.1.length:Int)),((([])++(kW y63.2.1 (0:Int) y63.2.2.2.2.1))++([y63.2.2.1]))++(kW y63.2.1 y63.2.2.2.2.1 (y63.2.1.length:Int)),(y63.2.2.2.2.2+(1:Int)))∧μ3 (((([])++(kW y63.1 (0:Int) y63.2.2.2.2.1))++([y63.2.2.2.1]))++(kW y63.1 y63.2.2.2.2.1 (y63.1.length:Int)),((([])++(kW y63.2.1 (0:Int) y63.2.2.2.2.1))++([y63.2.2.1]))++(kW y63.2.1 y63.2.2.2.2.1 (y63.2.1.length:Int)),(y63.2.2.2.2.2+(1:Int))) < μ3 y4)))))))))))))))))))∧(¬(y4.2.2 < (a.1.length:Int))→(y4.1=cU a))))
theorem f396.of (a:(List (aD))×(List (aF))×aE) (h:f396.vc a):f396.tree a:=Exists.elim h (fun I2 h88_=>Exists.elim h88_ (fun μ3 h88=>⟨I2,μ3,⟨([],[],(0:Int)),SlS.mk  (SlS.mk  (slQ (Rds.nil (enc:=bU)) (slQ (Rds.nil (enc:=dU)) (⟨rfl,⟨rfl,⟨rfl,⟨rfl,⟨rfl,⟨rfl,⟨rfl,⟨rfl,SlS.mk  (⟨rfl,⟨rfl,⟨rfl,h88.1⟩⟩⟩)⟩⟩⟩⟩⟩⟩⟩⟩))))⟩,fun y4 h90=>br (h88.2 y4 h90) Cnd.dec (fun h5 k86=>chk k86.2.2 Cnd.ix ⟨k86.1,k86.2.1⟩ (fun h7 k84=>(f393.ei ⟨k84.1,br k84.2 (Cnd.not Cnd.b) (fun h9 k81=>wrapK.i64 k81 (fun h14 h15 k16=>⟨(y4.1,y4.2.1,(y4.2.2+(1:Int))),SlS.mk  (SlS.mk  (slQ (rS bU) (slQ (rS dU) (⟨rfl,⟨rfl,⟨rfl,⟨rfl,⟨rfl,⟨rfl,⟨rfl,⟨rfl,SlS.mk  (⟨rfl,⟨rfl,⟨rfl,k16⟩⟩⟩)⟩⟩⟩⟩⟩⟩⟩⟩))))⟩)) (fun h10 k82=>chk k82.2.2 Cnd.ix ⟨k82.1,k82.2.1⟩ (fun h17 k80=>Exists.elim k80 (fun I18 h65=>⟨I18,Exists.elim h65.1 (fun I20 h60_=>Exists.elim h60_ (fun μ21 h60=>⟨I20,μ21,(f396.l1i a h60.1),fun y22 h62=>br (h60.2 y22 h62) Cnd.dec (fun h23 k58=>chk k58.2.2 Cnd.ix ⟨k58.1,k58.2.1⟩ (fun h25 k56=>br k56 Cnd.dec (fun h26 k54=>wrapK.i64 k54 (fun h31 h32 k33=>(f396.l1i a k33))) (fun h27 k55=>chk k55.2.2 Cnd.ix ⟨k55.1,k55.2.1⟩ (fun h34 k53=>br k53 Cnd.eq (fun h35 k51=>chk k51.2.2 Cnd.ix ⟨k51.1,k51.2.1⟩ (fun h37 k49=>br k49 Cnd.sl_ (fun h38 k47=>wrapK.i64 k47 (fun h43 h44 k45=>(f396.l1i a k45))) (fun h39 k48=>(f396.s14i a k48)))) (fun h36 k52=>(f396.s14i a k52)))))) (fun h24 k59=>(f396.s14i a k59))⟩)),fun y63 h64=>chk (h65.2 y63 h64).2.2 Cnd.sl ⟨(by decide),(h65.2 y63 h64).1,(h65.2 y63 h64).2.1⟩ (fun h66 k79=>⟨⟨rfl,(iL k79.1 (by decide))⟩,⟨⟨rfl,(iL k79.2.1 (by decide))⟩,chk k79.2.2.2.2 Cnd.sl ⟨k79.2.2.1,k79.2.2.2.1,(Int.le_refl _)⟩ (fun h67 k78=>⟨⟨rfl,(iL k78.1 (by decide))⟩,chk k78.2.2.2 Cnd.sl ⟨(by decide),k78.2.1,k78.2.2.1⟩ (fun h68 k77=>⟨⟨rfl,(iL k77.1 (by decide))⟩,⟨⟨rfl,(iL k77.2.1 (by decide))⟩,chk k77.2.2.2.2 Cnd.sl ⟨k77.2.2.1,k77.2.2.2.1,(Int.le_refl _)⟩ (fun h69 k76=>⟨⟨rfl,(iL k76.1 (by decide))⟩,wrapK.i64 k76.2 (fun h73 h74 k75=>⟨(((([])++(kW y63.1 (0:Int) y63.2.2.2.2.1))++([y63.2.2.2.1]))++(kW y63.1 y63.2.2.2.2.1 (y63.1.length:Int)),((([])++(kW y63.2.1 (0:Int) y63.2.2.2.2.1))++([y63.2.2.1]))++(kW y63.2.1 y63.2.2.2.2.1 (y63.2.1.length:Int)),(y63.2.2.2.2.2+(1:Int))),SlS.mk  (SlS.mk  (slQ (Rds.app (enc:=bU) (Rds.app (enc:=bU) (Rds.app (enc:=bU) (Rds.nil (enc:=bU)) (Rds.sub (enc:=bU) (rS bU) h66)) (Rds.one (enc:=bU) (DEqs.refl _))) (Rds.sub (enc:=bU) (rS bU) h67)) (slQ (Rds.app (enc:=dU) (Rds.app (enc:=dU) (Rds.app (enc:=dU) (Rds.nil (enc:=dU)) (Rds.sub (enc:=dU) (rS dU) h68)) (Rds.one (enc:=dU) (DEqs.refl _))) (Rds.sub (enc:=dU) (rS dU) h69)) (⟨rfl,⟨rfl,⟨rfl,⟨rfl,⟨rfl,⟨rfl,⟨rfl,⟨rfl,SlS.mk  (⟨rfl,⟨rfl,⟨rfl,k75⟩⟩⟩)⟩⟩⟩⟩⟩⟩⟩⟩))))⟩)⟩)⟩⟩)⟩)⟩⟩)⟩)))⟩))) (fun h6 k87=>slQ (Rds.to (rS bU) k87) (trivial))⟩))
theorem f396.eq (a:(List (aD))×(List (aF))×aE):(f396.af a).gives f396.env (f396.args a) (f396.blks a) (f396.res a) (f396.blks' a)=f396.tree a:=by kernel_rfl
def f394.ent (K:((List (aD))×(List (aF))×aE)→Prop) (t:(List (aD))×(List (aF))×aE):Prop:=∃ c:(List (aD))×(List (aF))×aE,SlQ t.1.length c.1.length (gl aO t.1) (gl aO c.1) (SlQ t.2.1.length c.2.1.length (gl aM t.2.1) (gl aM c.2.1) ((t.2.2.1=c.2.2.1)∧(t.2.2.2.1=c.2.2.2.1)∧(t.2.2.2.2.1=c.2.2.2.2.1)∧(t.2.2.2.2.2.1.1=c.2.2.2.2.2.1.1)∧(t.2.2.2.2.2.1.2.1=c.2.2.2.2.2.1.2.1)∧(t.2.2.2.2.2.1.2.2=c.2.2.2.2.2.1.2.2)∧SlQ t.2.2.2.2.2.2.1.length c.2.2.2.2.2.2.1.length (gl aG t.2.2.2.2.2.2.1) (gl aG c.2.2.2.2.2.2.1) ((t.2.2.2.2.2.2.2.1=c.2.2.2.2.2.2.2.1)∧(t.2.2.2.2.2.2.2.2.1=c.2.2.2.2.2.2.2.2.1)∧(t.2.2.2.2.2.2.2.2.2=c.2.2.2.2.2.2.2.2.2)∧K c)))
theorem f394.ei {K:((List (aD))×(List (aF))×aE)→Prop} {t:(List (aD))×(List (aF))×aE} (h:K t):f394.ent K t:=⟨t,slQ (rS aO) (slQ (rS aM) (⟨rfl,⟨rfl,⟨rfl,⟨rfl,⟨rfl,⟨rfl,slQ (rS aG) (⟨rfl,⟨rfl,⟨rfl,h⟩⟩⟩)⟩⟩⟩⟩⟩⟩))⟩
def f394.args (a:(List (aD))×(List (aF))×aE):List D:=[.slice .ro 7 a.1.length (gl aO a.1),.slice .ro 13 a.2.1.length (gl aM a.2.1),.agg [.str a.2.2.1,.str a.2.2.2.1,.int .i64 a.2.2.2.2.1,.int .i64 a.2.2.2.2.2.1.1,.int .i64 a.2.2.2.2.2.1.2.1,.int .i64 a.2.2.2.2.2.1.2.2,.slice .ro 2 a.2.2.2.2.2.2.1.length (gl aG a.2.2.2.2.2.2.1),.str a.2.2.2.2.2.2.2.1,.str a.2.2.2.2.2.2.2.2.1,.int .i64 a.2.2.2.2.2.2.2.2.2]]
def f394.blks (a:(List (aD))×(List (aF))×aE):List (List D):=[]
def f394.res (a:(List (aD))×(List (aF))×aE):List D:=[.str ((dI a).1),.bool ((dI a).2)]
def f394.blks' (a:(List (aD))×(List (aF))×aE):List (List D):=[]
def f394.C:aN:=FnC f394.args f394.blks (fun a=>cA a) f394.res f394.blks'
def f394.kills (a:(List (aD))×(List (aF))×aE):List Hint:=[]
def f394.cuts (a:(List (aD))×(List (aF))×aE):List (Nat×Σ β:Type,β→Tm):=[]
def f394.af (a:(List (aD))×(List (aF))×aE):AF:=AF.mk (.seq (.region [oT 5 0 .box [2],
 ⟨(some 6),1,.move,[.c (.str ByteArray.empty)],none⟩,
 ⟨(some 7),2,.move,[.c (.bool false)],none⟩])
 (.seq (.region [mT 9 3 0,
 mT 10 4 1,
 oT 11 5 (.load true 10) [5],
 oT 12 6 (.call false 396) [9,10,11],
 mT 8 10 12])
 (.seq (.seq (.region [mT 13 11 8,
 oT 14 12 (.len false) [13],
 ⟨(some 15),13,(.bin .eql),[.t 14,.c (.int .i64 (0))],none⟩])
 (.cond (.t 15) (.seq (.region [⟨(some 6),14,.move,[.c (.str ByteArray.empty)],none⟩,
 ⟨(some 7),15,.move,[.c (.bool false)],none⟩])
 (.ret)) (.skip)))
 (.seq (.region [mT 16 16 8,
 ⟨(some 17),17,(.indexAddr 1 none),[.t 16,.c (.int .i64 (0))],none⟩,
 oT 18 18 (.load false 1) [17],
 mT 6 19 18,
 ⟨(some 7),20,.move,[.c (.bool true)],none⟩])
 (.ret)))))
 [.tmp 6,.tmp 7] 0 16
def f394.env:Env:=[(396,f396.C)]
def f394.tree (a:(List (aD))×(List (aF))×aE):Prop:=f396.ent (fun c1=>(cA c1)∧Br (((cU c1).length:Int)==(0:Int)) ((ByteArray.empty=((dI a).1))∧(false=((dI a).2))∧True) (Br (decide ((0:Int)≤(0:Int))&&decide ((0:Int) < ((cU c1).length:Int))) (((at_ (cU c1) (0:Int))=((dI a).1))∧(true=((dI a).2))∧True) False)) (a.1,a.2.1,a.2.2)
def f394.vc (a:(List (aD))×(List (aF))×aE):Prop:=(cA (a.1,a.2.1,a.2.2)∧((((cU (a.1,a.2.1,a.2.2)).length:Int)=(0:Int)→((ByteArray.empty,false)=dI a))∧(¬(((cU (a.1,a.2.1,a.2.2)).length:Int)=(0:Int))→((0:Int) < ((cU (a.1,a.2.1,a.2.2)).length:Int)∧((at_ (cU (a.1,a.2.1,a.2.2)) (0:Int),true)=dI a)))))
theorem f394.of (a:(List (aD))×(List (aF))×aE) (h:f394.vc a):f394.tree a:=(f396.ei ⟨h.1,br h.2 Cnd.eq (fun h2 k8=>⟨(congrArg (fun x:ByteArray×Bool=>x.1) k8 :),⟨(congrArg (fun x:ByteArray×Bool=>x.2) k8 :),trivial⟩⟩) (fun h3 k9=>chk k9.2 Cnd.ix ⟨(by decide),k9.1⟩ (fun h5 k7=>⟨(congrArg (fun x:ByteArray×Bool=>x.1) k7 :),⟨(congrArg (fun x:ByteArray×Bool=>x.2) k7 :),trivial⟩⟩))⟩)
theorem f394.eq (a:(List (aD))×(List (aF))×aE):(f394.af a).gives f394.env (f394.args a) (f394.blks a) (f394.res a) (f394.blks' a)=f394.tree a:=by kernel_rfl
theorem mY {x w:Int} (hx:0≤x∧x≤1048576):(0 < w→jX x w=1000 * x / w∧0≤1000 * x / w∧1000 * x / w≤1048576000)∧(¬0 < w→jX x w=0):=by
 refine ⟨fun h=>⟨if_pos h,Int.ediv_nonneg (by omega) (by omega),?_⟩,fun h=>if_neg h⟩
 have:=Int.ediv_le_self w (show 0≤1000 * x by omega)
 omega
theorem aAP {v:aC×aC→Prop} (hv:∀ a,v a↔f222.vc a) (a:aC×aC):v a:=by
 rw [hv]
 obtain ⟨⟨x,y,z⟩,⟨p,q,r⟩⟩:=a
 refine ⟨fun c=>(if_pos c).symm,fun c1=>⟨fun c=>((if_neg c1).trans (if_pos c)).symm,fun c2=>?_⟩⟩
 obtain ⟨hx,hy,hz⟩:=fG.1 (Classical.not_not.1 c1)
 have e:bT ((x,y,z),(p,q,r))=jX x p+jX y q+jX z r:=(if_neg c1).trans (if_neg c2)
 rw [e]
 simp only at hx hy hz ⊢
 obtain ⟨x1,x2⟩:=mY (w:=p) hx
 obtain ⟨y1,y2⟩:=mY (w:=q) hy
 obtain ⟨z1,z2⟩:=mY (w:=r) hz
 generalize 1000 * x / p=X at *
 generalize 1000 * y / q=Y at *
 generalize 1000 * z / r=Z at *
 generalize jX x p=sx at *
 generalize jX y q=sy at *
 generalize jX z r=sz at *
 refine ⟨fun a1=>⟨by omega,by omega,by omega,by omega,a1,by omega,by omega,fun b1=>⟨by omega,by omega,by omega,by omega,b1,by omega,by omega,fun d1=>⟨by omega,by omega,by omega,by omega,d1,by omega,by omega,by omega⟩,fun d1=>by omega⟩,fun b1=>⟨fun d1=>⟨by omega,by omega,by omega,by omega,d1,by omega,by omega,by omega⟩,fun d1=>by omega⟩⟩,
  fun a1=>⟨fun b1=>⟨by omega,by omega,by omega,by omega,b1,by omega,by omega,fun d1=>⟨by omega,by omega,by omega,by omega,d1,by omega,by omega,by omega⟩,fun d1=>by omega⟩,fun b1=>⟨fun d1=>⟨by omega,by omega,by omega,by omega,d1,by omega,by omega,by omega⟩,fun d1=>by omega⟩⟩⟩
theorem f222.ok (a:aC×aC) (_:True):f222.vc a:=aAP (fun _=>Iff.rfl) a
theorem f400.ok (a:aC×aC) (_:True):f400.vc a:=aAP (v:=f400.vc) (fun _=>Iff.rfl) a
theorem f197.ok (a:cO×List dW×cJ) (h:dK a):f197.vc a:=⟨h,fun c=>(if_pos c).symm,fun c=>⟨h.1,(if_neg c).symm⟩⟩
theorem f393.ok (a:cO×List dW×cJ) (h:dK a):f393.vc a:=⟨h,fun c=>(if_pos c).symm,fun c=>⟨h.1,(if_neg c).symm⟩⟩
theorem aCR (l m:List cO) (b:List dW×cJ):fZ (l++m,b)=fZ (l,b)++fZ (m,b):=by
 unfold fZ
 rw [List.filter_append,List.map_append]
theorem aC1 (m:cO) (b:List dW×cJ):fZ ([m],b)=if (bN (m,b)).2=true then [(m.1.1,(bN (m,b)).1)] else []:=by
 unfold fZ
 by_cases h:(bN (m,b)).2=true
 ·rw [if_pos h,List.filter_cons_of_pos (p:=fun x:cO=>(bN (x,([m],b).2)).2) h]
  rfl
 ·rw [if_neg h,List.filter_cons_of_neg (p:=fun x:cO=>(bN (x,([m],b).2)).2) h]
  rfl
theorem uG (l:List cO) (b:List dW×cJ):(fZ (l,b)).length≤l.length:=by
 unfold fZ
 rw [List.length_map]
 exact List.length_filter_le _ _
theorem iR {l:List cO} {i:Int} (b:List dW×cJ) (h0:0≤i) (hlt:i < (l.length:Int)):fZ (l.take (i+1).toNat,b)=fZ (l.take i.toNat,b)++if (bN (at_ l i,b)).2=true then [((at_ l i).1.1,(bN (at_ l i,b)).1)] else []:=by
 rw [show (i+1).toNat=i.toNat+1 from by omega,xD (by omega),aCR,aC1]
 rfl
theorem aG3 (a:List cO×List dW×cJ):hT aJ (fZ a)=eA a:=aGR aJ sX aI4 _
theorem zH (a:List cO×List dW×cJ):(eA a).length≤a.1.length:=by
 unfold eA
 rw [mH]
 exact uG _ _
theorem f171.ok (a:List cO×List dW×cJ) (h:cA a):f171.vc a:=by
 obtain ⟨l,jobs,t⟩:=a
 obtain ⟨h1,h2⟩:=h
 have h1:l.length≤1048576:=h1
 refine ⟨fun y=>0≤y.1∧y.1≤(l.length:Int)∧y.2=fZ (l.take y.1.toNat,jobs,t)∧y.2.length≤y.1.toNat,fun y=>l.length - y.1.toNat,⟨by simp only; omega,by simp only; omega,rfl,Nat.le_refl _⟩,fun y hy=>?_⟩
 obtain ⟨i,out⟩:=y
 obtain ⟨g0,g1,g2,g3⟩:=hy
 simp only at g0 g1 g2 g3 ⊢
 refine ⟨fun hlt=>⟨g0,hlt,h2 _ (kX (l:=l) (i:=i.toNat) (by omega)),fun c=>⟨by omega,by omega,by omega,⟨by omega,by omega,?_,?_⟩,by omega⟩,fun c=>⟨by omega,by omega,⟨by omega,by omega,?_,by omega⟩,by omega⟩⟩,fun hge=>?_⟩
 ·rw [iR _ g0 hlt,if_pos c,g2]
 ·rw [List.length_append,List.length_singleton]
  omega
 ·rw [iR _ g0 hlt,if_neg c,List.append_nil]
  exact g2
 ·rw [List.take_of_length_le (by omega)] at g2
  subst g2
  have hl:=uG l (jobs,t)
  refine ⟨by unfold mV; omega,?_,aG3 _⟩
  rw [aG3]
  exact mH _
theorem f151.ok (a:List cO×List dW×cJ) (h:cA a):f151.vc a:=by
 refine ⟨h,fun c=>?_,fun c=>⟨by omega,?_⟩⟩
 ·unfold dI
  rw [if_pos (by exact Int.ofNat.inj c)]
 ·unfold dI
  rw [if_neg (fun e=>c (by rw [show (a.1,a.2.1,a.2.2)=a from rfl,e]; rfl))]
theorem f395.ok (a:List cO×List dW×cJ) (h:cA a):f395.vc a:=by
 have hl:=zH a
 have h1:a.1.length≤1048576:=h.1
 refine ⟨h,fun y=>y.2.1=eA a∧y.2.2.1=((eA a).length:Int)∧0≤y.2.2.2∧y.2.2.2≤((eA a).length:Int)∧y.1=((eA a).take y.2.2.2.toNat).map Prod.fst,fun y=>(eA a).length - y.2.2.2.toNat,⟨rfl,rfl,by simp only; omega,by simp only; omega,rfl⟩,fun y hy=>?_⟩
 obtain ⟨out,s,n,i⟩:=y
 obtain ⟨e1,e2,g0,g1,g2⟩:=hy
 simp only at e1 e2 g0 g1 g2 ⊢
 subst e1; subst e2; subst g2
 refine ⟨fun hlt=>⟨g0,hlt,?_,by omega,by omega,⟨by trivial,by trivial,by omega,by omega,?_⟩,by omega⟩,fun hge=>?_⟩
 ·rw [List.length_map,List.length_take]
  omega
 ·rw [show (i+1).toNat=i.toNat+1 from by omega,xD (by omega),List.map_append]
  rfl
 ·rw [List.take_of_length_le (by omega)]
  rfl
theorem vO (a:List cO×List dW×cJ):(cU a).length=(eA a).length:=List.length_map ..
theorem f394.ok (a:List cO×List dW×cJ) (h:cA a):f394.vc a:=by
 have hl:(cU (a.1,a.2.1,a.2.2)).length=(eA a).length:=vO a
 refine ⟨h,fun c=>?_,fun c=>⟨by omega,?_⟩⟩
 ·unfold dI
  rw [if_pos (by omega)]
 ·unfold dI
  rw [if_neg (by omega)]
  refine Prod.ext ?_ rfl
  show at_ ((eA a).map Prod.fst) 0=_
  unfold at_
  have h0:(0:Int).toNat < (eA a).length:=by simp only [Int.toNat_zero]; omega
  rw [hJ (l:=(eA a).map Prod.fst) (by rw [List.length_map]; exact h0),List.getElem_map,hJ h0]
theorem jH {a:List cO×List dW×cJ}:gS a=true↔(a.1.length≤40∧a.2.1.length≤100∧a.2.2.2.2.2.2.1.length≤20)∧∀ i,i < a.1.length→(a.1.getD i default).1.2.2.length≤20∧(a.1.getD i default).1.1.size≤1000:=by
 unfold gS
 rw [Bool.and_eq_true,decide_eq_true_eq,List.all_eq_true]
 exact ⟨fun h=>⟨h.1,fun i hi=>of_decide_eq_true (h.2 i (List.mem_range.2 hi))⟩,fun h=>⟨h.1,fun i hi=>decide_eq_true (h.2 i (List.mem_range.1 hi))⟩⟩
theorem f392.ok (a:List cO×List dW×cJ) (h:kT a):f392.vc a:=by
 obtain ⟨l,j,t⟩:=a
 have no:¬gS (l,j,t)=true→false=gS (l,j,t):=fun h=>(Bool.eq_false_iff.2 h).symm
 refine ⟨fun c=>no fun hh=>?_,fun c1=>⟨fun c=>no fun hh=>?_,fun c2=>⟨fun c=>no fun hh=>?_,fun c0=>?_⟩⟩⟩
 ·have:=(jH.1 hh).1.1; simp only at c this; omega
 ·have:=(jH.1 hh).1.2.1; simp only at c this; omega
 ·have:=(jH.1 hh).1.2.2; simp only at c this; omega
 ·simp only at c0 c1 c2
  refine ⟨fun y=>0≤y∧y≤(l.length:Int)∧∀ k,k < y.toNat→(l.getD k default).1.2.2.length≤20∧(l.getD k default).1.1.size≤1000,fun y=>l.length - y.toNat,⟨by omega,by omega,fun k hk=>by simp at hk⟩,fun y hy=>?_⟩
  obtain ⟨g0,g1,g2⟩:=hy
  simp only
  refine ⟨fun hlt=>⟨g0,hlt,fun c=>no fun hh=>?_,fun c3=>⟨g0,hlt,fun c=>no fun hh=>?_,fun c4=>⟨by omega,by omega,⟨by omega,by omega,fun k hk=>?_⟩,by omega⟩⟩⟩,fun hge=>?_⟩
  ·have:=((jH.1 hh).2 y.toNat (by simp only; omega)).1
   simp only at this
   rw [← qW] at this
   omega
  ·have:=((jH.1 hh).2 y.toNat (by simp only; omega)).2
   simp only at this
   rw [← qW] at this
   omega
  ·by_cases he:k=y.toNat
   ·subst he
    rw [← qW]
    omega
   ·exact g2 k (by omega)
  ·exact (jH.2 ⟨⟨by simp only; omega,by simp only; omega,by simp only; omega⟩,fun i hi=>g2 i (by simp only at hi; omega)⟩).symm
theorem aBT {α:Type} [Inhabited α] (lt:α→α→Bool) (x:α):∀ (S:List α) (k:Nat),k≤S.length→(∀ i,i < k→lt (S.getD i default) x=true)→(k < S.length→lt (S.getD k default) x=false)→S.take k++[x]++S.drop k=p6 lt x S
 | [],k,h,_,_=>by
  have:k=0:=by simpa using h
  subst this
  rfl
 | y::S,0,_,_,h2=>by
  have h2:lt y x=false:=h2 (by simp)
  rw [p6,h2]
  rfl
 | y::S,k+1,h,h1,h2=>by
  have h0:lt y x=true:=h1 0 (by omega)
  rw [p6,if_pos h0,← aBT lt x S k (by simpa using h) (fun i hi=>h1 (i+1) (by omega)) (fun hk=>h2 (by simpa using hk))]
  rfl
theorem aIC {α:Type} {lt:α→α→Bool} (tot:∀ x y,lt x y=false→lt y x=false→x=y) {l m:List α} (h:l.Perm m):FE lt l m:=fun z=>by
 have one:∀ m:List α,m.filter (kin lt z)=List.replicate (m.filter (kin lt z)).length z:=fun m=>by
  refine List.eq_replicate_iff.2 ⟨rfl,fun x hx=>?_⟩
  obtain ⟨k1,k2⟩:=tK.1 (List.mem_filter.1 hx).2
  exact (tot z x k1 k2).symm
 rw [one l,one m,(h.filter _).length_eq]
theorem aDV:Weak aJ:=by
 refine ⟨fun {x y} h=>?_,fun {x y z} h1 h2=>sX.ntrans z y x h2 h1⟩
 cases hh:aJ y x with
 | false=>rfl
 | true =>
  have:=sX.trans x y x h hh
  rw [sX.irrefl] at this
  cases this
theorem yQ {l m:List TSc} (h:l.Perm m):kH aJ l=kH aJ m:=tN aDV (vE aDV l) ((tW aDV l).trans (aIC aI4 h))
theorem aFY (l:List TSc) (x:TSc):kH aJ (l++[x])=p6 aJ x (kH aJ l):=by
 rw [yQ (show (l++[x]).Perm (x::l) from List.perm_append_singleton x l)]
 rfl
theorem aD3 {α β:Type} [Inhabited α] [Inhabited β] (S:List (α×β)) (i:Int) (h:i.toNat < S.length):at_ (S.map Prod.fst) i=(at_ S i).1∧at_ (S.map Prod.snd) i=(at_ S i).2:=by
 unfold at_
 rw [hJ (l:=S.map Prod.fst) (by rw [List.length_map]; exact h),hJ (l:=S.map Prod.snd) (by rw [List.length_map]; exact h),hJ h,List.getElem_map,List.getElem_map]
 exact ⟨rfl,rfl⟩
theorem f396.ok (a:List cO×List dW×cJ) (h:cA a):f396.vc a:=by
 obtain ⟨l,jobs,t⟩:=a
 obtain ⟨h1,h2⟩:=h
 have h1:l.length≤1048576:=h1
 refine ⟨fun y=>0≤y.2.2∧y.2.2≤(l.length:Int)∧y.1=(eA (l.take y.2.2.toNat,jobs,t)).map Prod.fst∧y.2.1=(eA (l.take y.2.2.toNat,jobs,t)).map Prod.snd,fun y=>l.length - y.2.2.toNat,⟨by simp only; omega,by simp only; omega,rfl,rfl⟩,fun y hy=>?_⟩
 obtain ⟨ns,ss,i⟩:=y
 obtain ⟨g0,g1,g2,g3⟩:=hy
 simp only at g0 g1 g2 g3 ⊢
 refine ⟨fun hlt=>⟨g0,hlt,h2 _ (kX (l:=l) (i:=i.toNat) (by omega)),fun c=>⟨by omega,by omega,⟨by omega,by omega,?_,?_⟩,by omega⟩,fun c=>⟨g0,hlt,?_⟩⟩,fun hge=>?_⟩
 ·unfold eA at g2 ⊢
  rw [iR _ g0 hlt,if_neg c,List.append_nil]
  exact g2
 ·unfold eA at g3 ⊢
  rw [iR _ g0 hlt,if_neg c,List.append_nil]
  exact g3
 ·have c:=Classical.not_not.1 c
  have hS:eA (l.take (i+1).toNat,jobs,t)=p6 aJ ((at_ l i).1.1,(bN (at_ l i,jobs,t)).1) (eA (l.take i.toNat,jobs,t)):=by
   unfold eA
   rw [iR _ g0 hlt,if_pos c,aFY]
  have hSl:(eA (l.take i.toNat,jobs,t)).length≤l.length:=by
   refine Nat.le_trans (zH _) ?_
   simp only [List.length_take]
   omega
  generalize eA (l.take i.toNat,jobs,t)=S at g2 g3 hS hSl
  generalize (at_ l i).1.1=nm at hS ⊢
  generalize (bN (at_ l i,jobs,t)).1=sc at hS ⊢
  subst g2; subst g3
  have ll:=List.length_map (as:=S) Prod.fst
  have ls:=List.length_map (as:=S) Prod.snd
  refine ⟨fun y=>y.1=S.map Prod.fst∧y.2.1=S.map Prod.snd∧y.2.2.1=sc∧y.2.2.2.1=nm∧y.2.2.2.2.2=i∧0≤y.2.2.2.2.1∧y.2.2.2.2.1≤(S.length:Int)∧(∀ k,k < y.2.2.2.2.1.toNat→aJ (S.getD k default) (nm,sc)=true)∧(y.2.2.2.2.1 < (S.length:Int)→aJ (at_ S y.2.2.2.2.1) (nm,sc)=false),
   ⟨fun y=>y.1=S.map Prod.fst∧y.2.1=S.map Prod.snd∧y.2.2.1=sc∧y.2.2.2.1=nm∧y.2.2.2.2.2=i∧0≤y.2.2.2.2.1∧y.2.2.2.2.1≤(S.length:Int)∧(∀ k,k < y.2.2.2.2.1.toNat→aJ (S.getD k default) (nm,sc)=true),fun y=>S.length - y.2.2.2.2.1.toNat,⟨rfl,rfl,rfl,rfl,rfl,by simp only; omega,by simp only; omega,fun k hk=>by simp at hk⟩,fun y hy=>?_⟩,fun y hy=>?_⟩
  ·obtain ⟨ns,ss,sc',nm',k,i'⟩:=y
   obtain ⟨e1,e2,e3,e4,e5,k0,k1,k2⟩:=hy
   simp only at e1 e2 e3 e4 e5 k0 k1 k2 ⊢
   subst e1; subst e2; subst e3; subst e4; subst e5
   have ext:aJ (at_ S k) (nm',sc')=true→k < (S.length:Int)→∀ j,j < (k+1).toNat→aJ (S.getD j default) (nm',sc')=true:=fun hl hk j hj=>by
    by_cases he:j=k.toNat
    ·subst he; exact hl
    ·exact k2 j (by omega)
   refine ⟨fun hk=>?_,fun hk=>⟨rfl,rfl,rfl,rfl,rfl,k0,k1,k2,fun hh=>by omega⟩⟩
   obtain ⟨m1,m2⟩:=aD3 S k (by omega)
   rw [m2,m1]
   refine ⟨k0,by omega,fun hl=>⟨by omega,by omega,⟨rfl,rfl,rfl,rfl,rfl,by omega,by omega,ext ((rL _ _).2 (.inl hl)) (by omega)⟩,by omega⟩,fun hl=>⟨k0,by omega,fun he=>⟨k0,by omega,fun hs=>⟨by omega,by omega,⟨rfl,rfl,rfl,rfl,rfl,by omega,by omega,ext ((rL _ _).2 (.inr ⟨he,hs⟩)) (by omega)⟩,by omega⟩,fun hs=>⟨rfl,rfl,rfl,rfl,rfl,k0,k1,k2,fun _=>(qR _ _).2 ?_⟩⟩,fun he=>⟨rfl,rfl,rfl,rfl,rfl,k0,k1,k2,fun _=>(qR _ _).2 ?_⟩⟩⟩
   ·rintro (hh | ⟨_,hh⟩)
    ·exact hl hh
    ·exact hs hh
   ·rintro (hh | ⟨hh,_⟩)
    ·exact hl hh
    ·exact he hh
  ·obtain ⟨ns,ss,sc',nm',k,i'⟩:=y
   obtain ⟨e1,e2,e3,e4,e5,k0,k1,k2,k3⟩:=hy
   simp only at e1 e2 e3 e4 e5 k0 k1 k2 k3 ⊢
   subst e1; subst e2; subst e3; subst e4; subst e5
   have cut:=aBT aJ (nm',sc') S k.toNat (by omega) k2 (fun hk=>k3 (by omega))
   rw [← hS] at cut
   have sub:∀ {α:Type} (L:List α),L.length=S.length→∀ x,((([]++kW L 0 k)++[x])++kW L k (L.length:Int))=L.take k.toNat++[x]++L.drop k.toNat:=fun {α} L hL x=>by
    unfold kW
    simp only [List.nil_append,Int.toNat_zero,List.drop_zero]
    rw [show (k - 0).toNat=k.toNat from by omega,List.take_of_length_le (l:=L.drop k.toNat) (by rw [List.length_drop]; omega)]
   refine ⟨k0,by omega,by omega,by omega,k0,by omega,by omega,k0,by omega,by omega,by omega,k0,by omega,by omega,by omega,by omega,⟨by omega,by omega,?_,?_⟩,by omega⟩
   ·rw [sub _ ll,← cut,List.map_append,List.map_append,List.map_take,List.map_drop]
    rfl
   ·rw [sub _ ls,← cut,List.map_append,List.map_append,List.map_take,List.map_drop]
    rfl
 ·rw [List.take_of_length_le (by omega)] at g2
  exact g2
end Go.Abs
