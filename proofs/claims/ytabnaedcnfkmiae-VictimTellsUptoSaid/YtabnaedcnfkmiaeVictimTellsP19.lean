/- Functions, and what the code asks of them: PVictLaw2. -/
import Derived.KernelRfl
import Derived.Test.YtabnaedcnfkmiaeVictimTellsP3
import Derived.Test.YtabnaedcnfkmiaeVictimTellsP4
import Derived.Test.YtabnaedcnfkmiaeVictimTellsP5
import Derived.Test.YtabnaedcnfkmiaeVictimTellsP6
import Derived.Test.YtabnaedcnfkmiaeVictimTellsP7
import Derived.Test.YtabnaedcnfkmiaeVictimTellsP8
import Derived.Test.YtabnaedcnfkmiaeVictimTellsP9
import Derived.Test.YtabnaedcnfkmiaeVictimTellsP10
import Derived.Test.YtabnaedcnfkmiaeVictimTellsP11
import Derived.Test.YtabnaedcnfkmiaeVictimTellsP12
import Derived.Test.YtabnaedcnfkmiaeVictimTellsP13
import Derived.Test.YtabnaedcnfkmiaeVictimTellsP15
import Derived.Test.YtabnaedcnfkmiaeVictimTellsP16
import Derived.Test.YtabnaedcnfkmiaeVictimTellsP17
import Derived.Test.YtabnaedcnfkmiaeVictimTellsP18
set_option linter.unusedVariables false
set_option linter.unusedSimpArgs false
-- interregnum/interregnumlaw13.VictimTells
namespace Go.Abs
open Go
def f376.wf (a:(List (aC))×(List (aA))×aF):Prop:=eT.ok a.1∧f9.ok a.2.1∧fZ.ok a.2.2
def f376.size (a:(List (aC))×(List (aA))×aF):Nat:=eT.size a.1+(f9.size a.2.1+(fZ.size a.2.2))
def f376.lpre (a:(List (aC))×(List (aA))×aF):Prop:=f376.wf a∧f376.size a≤1048576
def f376.args (a:(List (aC))×(List (aA))×aF):List D:=[.slice .ro 7 a.1.length (gl a6 a.1),.slice .ro 13 a.2.1.length (gl aB a.2.1),.agg [.str a.2.2.1,.str a.2.2.2.1,.int .i64 a.2.2.2.2.1,.int .i64 a.2.2.2.2.2.1.1,.int .i64 a.2.2.2.2.2.1.2.1,.int .i64 a.2.2.2.2.2.1.2.2,.slice .ro 2 a.2.2.2.2.2.2.1.length (gl aE a.2.2.2.2.2.2.1),.str a.2.2.2.2.2.2.2.1,.str a.2.2.2.2.2.2.2.2.1,.int .i64 a.2.2.2.2.2.2.2.2.2]]
def f376.blks (a:(List (aC))×(List (aA))×aF):List (List D):=[]
def f376.res (a:(List (aC))×(List (aA))×aF):List D:=[.bool (cH a)]
def f376.blks' (a:(List (aC))×(List (aA))×aF):List (List D):=[]
def f376.C:aM:=FnC f376.args f376.blks (fun a=>f376.lpre a) f376.res f376.blks'
end Go.Abs

/- interregnum/interregnumlaw13.VictimTells -/
namespace Go.Abs
open Go
set_option linter.unusedVariables false
def f376.S0 (a:(List (aC))×(List (aA))×aF) (x:Int):Tm:=⟨[.slice .ro 7 a.1.length (gl a6 a.1),.slice .ro 13 a.2.1.length (gl aB a.2.1),.dead,.dead,.dead,.ptr 0 0,.dead,.dead,.dead,.dead,.dead,.dead,.dead,.dead,.dead,.dead,.dead,.dead,.dead,.dead,.dead,.dead,.dead,.dead,.dead,.dead,.dead,.dead,.dead,.int .i64 (a.1.length:Int),.int .i64 x,.dead,.dead,.dead,.dead,.dead,.dead,.dead,.dead,.dead,.dead,.dead,.dead,.dead,.dead,.dead,.dead,.dead,.dead,.dead,.dead,.dead,.dead,.dead,.dead,.dead,.dead,.dead,.dead,.dead,.dead,.dead,.dead,.dead,.dead,.dead,.dead,.dead,.dead,.dead,.dead,.dead,.dead,.dead,.dead,.dead,.dead,.dead,.dead,.dead,.dead,.dead,.dead,.dead,.dead,.dead,.dead,.dead,.dead,.dead,.dead,.dead],[(0,false,[.str a.2.2.1,.str a.2.2.2.1,.int .i64 a.2.2.2.2.1,.int .i64 a.2.2.2.2.2.1.1,.int .i64 a.2.2.2.2.2.1.2.1,.int .i64 a.2.2.2.2.2.1.2.2,.slice .ro 2 a.2.2.2.2.2.2.1.length (gl aE a.2.2.2.2.2.2.1),.str a.2.2.2.2.2.2.2.1,.str a.2.2.2.2.2.2.2.2.1,.int .i64 a.2.2.2.2.2.2.2.2.2])],[]⟩
def f376.l0 (a:(List (aC))×(List (aA))×aF) (K:Int→Prop) (t:Int):Prop:=∃ x:Int,SlS a6 a.1 (SlS aB a.2.1 (((a.1.length:Int)=(a.1.length:Int))∧(t=x)∧(a.2.2.1=a.2.2.1)∧(a.2.2.2.1=a.2.2.2.1)∧(a.2.2.2.2.1=a.2.2.2.2.1)∧(a.2.2.2.2.2.1.1=a.2.2.2.2.2.1.1)∧(a.2.2.2.2.2.1.2.1=a.2.2.2.2.2.1.2.1)∧(a.2.2.2.2.2.1.2.2=a.2.2.2.2.2.1.2.2)∧SlS aE a.2.2.2.2.2.2.1 ((a.2.2.2.2.2.2.2.1=a.2.2.2.2.2.2.2.1)∧(a.2.2.2.2.2.2.2.2.1=a.2.2.2.2.2.2.2.2.1)∧(a.2.2.2.2.2.2.2.2.2=a.2.2.2.2.2.2.2.2.2)∧K x)))
theorem f376.l0i (a:(List (aC))×(List (aA))×aF) {K:Int→Prop} {t:Int} (h:K t):f376.l0 a K t:=⟨t,SlS.mk  (SlS.mk  (⟨rfl,⟨rfl,⟨rfl,⟨rfl,⟨rfl,⟨rfl,⟨rfl,⟨rfl,SlS.mk  (⟨rfl,⟨rfl,⟨rfl,h⟩⟩⟩)⟩⟩⟩⟩⟩⟩⟩⟩))⟩
def f376.kills (a:(List (aC))×(List (aA))×aF):List cB:=[.tell Int (f376.S0 a)]
def f376.cuts (a:(List (aC))×(List (aA))×aF):List (Nat×Σ β:Type,β→Tm):=[]
def f376.af (a:(List (aC))×(List (aA))×aF):AF:=AF.mk (.seq (.region [oT 5 0 .box [2],
 ⟨(some 6),1,.move,[.c (.bool false)],none⟩])
 (.seq (.seq (.region [oT 18 2 (.call false 352) [],
 oT 19 6 (.un .not) [18],
 oT 20 7 .move [19],
 oG 21 8 .move [0] 20 false,
 oG 22 9 .move [1] 20 false,
 oG 23 10 (.load true 10) [5] 20 false,
 oG 24 11 (.call false 353) [21,22,23] 20 false,
 oG 25 15 (.un .not) [24] 20 false,
 ⟨(some 26),16,.pick,[.t 20,.c (.bool true),.t 25],none⟩])
 (.cond (.t 26) (.seq (.region [oT 27 17 (.call false 352) [],
 oT 6 21 .move [27]])
 (.ret)) (.skip)))
 (.seq (.seq (.region [oT 28 22 .move [0],
 oT 29 23 (.len false) [28],
 ⟨(some 30),24,.move,[.c (.int .i64 (0))],none⟩])
 (.block 0 (.loopT Int (f376.S0 a) 25 73 (.seq (.region [oT 31 25 (.bin .lss) [30,29]])
 (.seq (.cond (.t 31) (.skip) (.exit 0))
 (.seq (.block 1 (.seq (.region [oT 32 26 .move [30],
 oT 7 27 .move [32]])
 (.seq (.region [oT 34 28 .move [0],
 oT 35 29 .move [7],
 oT 36 30 (.indexAddr 7 none) [34,35],
 oT 37 31 (.load true 7) [36],
 oT 38 32 .move [1],
 oT 39 33 (.load true 10) [5],
 oT 40 34 (.call false 355) [37,38,39],
 oT 33 38 .move [40],
 oT 41 39 (.extract 0) [33],
 oT 42 40 (.extract 1) [33],
 oT 8 41 .move [41],
 oT 9 42 .move [42]])
 (.seq (.region [oT 44 43 .move [0],
 oT 45 44 .move [7],
 oT 46 45 (.indexAddr 7 none) [44,45],
 oT 47 46 (.load true 7) [46],
 oT 48 47 .move [1],
 oT 49 48 (.load true 10) [5],
 oT 50 49 (.call false 388) [47,48,49],
 oT 43 53 .move [50],
 oT 51 54 (.extract 0) [43],
 oT 52 55 (.extract 1) [43],
 oT 10 56 .move [51],
 oT 11 57 .move [52]])
 (.seq (.region [oT 53 58 .move [9],
 oT 54 59 .move [11],
 oT 55 60 (.binB true) [53,54],
 oT 56 61 .move [55],
 oG 57 62 .move [8] 56 false,
 oG 58 63 .move [10] 56 false,
 oG 59 64 (.call false 150) [57,58] 56 false,
 oG 60 68 (.un .not) [59] 56 false,
 ⟨(some 61),69,.pick,[.t 56,.c (.bool true),.t 60],none⟩])
 (.cond (.t 61) (.seq (.region [⟨(some 6),70,.move,[.c (.bool false)],none⟩])
 (.ret)) (.skip)))))))
 (.region [⟨(some 62),71,(.bin .add),[.t 30,.c (.int .i64 (1))],none⟩,
 oT 30 72 .move [62]])))))))
 (.seq (.region [oT 64 73 .move [0],
 oT 65 74 .move [1],
 oT 66 75 (.load true 10) [5],
 oT 67 76 (.call false 227) [64,65,66],
 oT 63 80 .move [67],
 oT 68 81 (.extract 0) [63],
 oT 69 82 (.extract 1) [63],
 oT 70 83 (.extract 2) [63],
 oT 12 84 .move [68],
 oT 13 85 .move [69],
 oT 14 86 .move [70]])
 (.seq (.region [oT 72 87 .move [0],
 oT 73 88 .move [1],
 oT 74 89 (.load true 10) [5],
 oT 75 90 (.call false 389) [72,73,74],
 oT 71 94 .move [75],
 oT 76 95 (.extract 0) [71],
 oT 77 96 (.extract 1) [71],
 oT 78 97 (.extract 2) [71],
 oT 15 98 .move [76],
 oT 16 99 .move [77],
 oT 17 100 .move [78]])
 (.seq (.region [oT 79 101 .move [12],
 oT 80 102 .move [15],
 oT 81 103 (.bin .eql) [79,80],
 oT 82 104 .move [81],
 oG 83 105 .move [14] 82 true,
 oG 84 106 .move [17] 82 true,
 oG 85 107 (.binB false) [83,84] 82 true,
 ⟨(some 86),108,.pick,[.t 82,.t 85,.c (.bool false)],none⟩,
 oT 87 109 .move [86],
 oG 88 110 .move [13] 87 true,
 oG 89 111 .move [16] 87 true,
 oG 90 112 (.call false 150) [88,89] 87 true,
 ⟨(some 91),116,.pick,[.t 87,.t 90,.c (.bool false)],none⟩,
 oT 6 117 .move [91]])
 (.ret)))))))
 [.tmp 6] 0 89
def f376.env:Env:=[(352,f352.C),(353,f353.C),(355,f355.C),(388,f388.C),(150,f150.C),(227,f227.C),(389,f389.C)]
def f376.tree (a:(List (aC))×(List (aA))×aF):Prop:=∃ c1:Unit,True∧Br (!(cH c1)) (∃ c4:Unit,True∧((cH c4)=(cH a))∧True) (f353.ent (fun c7=>(lK c7)∧Br (!(gY c7)) (∃ c10:Unit,True∧((cH c10)=(cH a))∧True) (∃ (I14:Int→Prop) (μ15:Int→Nat),(f376.l0 a I14 (0:Int))∧∀ y16:Int,I14 y16→(Br (decide (y16 < (a.1.length:Int))) (Br (decide ((0:Int)≤y16)&&decide (y16 < (a.1.length:Int))) (f355.ent (fun c20=>(bY c20)∧Br (decide ((0:Int)≤y16)&&decide (y16 < (a.1.length:Int))) (f388.ent (fun c22=>(bY c22)∧Br (!(((cN c20).2)==((cN c22).2))) ((false=(cH a))∧True) (f150.ent (fun c26=>(jN c26)∧Br (!(gE c26)) ((false=(cH a))∧True) (Let (IntKind.i64.wrap (y16+(1:Int))) (fun v30:Int=>f376.l0 a (Dn I14 μ15 y16) v30))) ((cN c20).1,(cN c22).1))) ((((at_ a.1 y16).1),(at_ a.1 y16).2.1,(at_ a.1 y16).2.2),a.2.1,a.2.2)) False) ((((at_ a.1 y16).1),(at_ a.1 y16).2.1,(at_ a.1 y16).2.2),a.2.1,a.2.2)) False) (f227.ent (fun c45=>(fD c45)∧f389.ent (fun c46=>(fD c46)∧Br (((bA c45).1).toList==((bA c46).1).toList) (Br (((bA c45).2.2)==((bA c46).2.2)) (f150.ent (fun c51=>(jN c51)∧((gE c51)=(cH a))∧True) ((bA c45).2.1,(bA c46).2.1)) ((false=(cH a))∧True)) ((false=(cH a))∧True)) (a.1,a.2.1,a.2.2)) (a.1,a.2.1,a.2.2))))) (a.1,a.2.1,a.2.2))
def f376.vc (a:(List (aC))×(List (aA))×aF):Prop:=((¬((cH ())=true)→((cH ())=cH a))∧(¬(¬((cH ())=true))→(lK (a.1,a.2.1,a.2.2)∧((¬((gY (a.1,a.2.1,a.2.2))=true)→((cH ())=cH a))∧(¬(¬((gY (a.1,a.2.1,a.2.2))=true))→(∃ (I14:Int→Prop) (μ15:Int→Nat),I14 (0:Int)∧∀ y16:Int,I14 y16→((y16 < (a.1.length:Int)→((0:Int)≤y16∧y16 < (a.1.length:Int)∧(bY ((((at_ a.1 y16).1),(at_ a.1 y16).2.1,(at_ a.1 y16).2.2),a.2.1,a.2.2)∧((0:Int)≤y16∧y16 < (a.1.length:Int)∧(bY ((((at_ a.1 y16).1),(at_ a.1 y16).2.1,(at_ a.1 y16).2.2),a.2.1,a.2.2)∧(((!(((cN ((((at_ a.1 y16).1),(at_ a.1 y16).2.1,(at_ a.1 y16).2.2),a.2.1,a.2.2)).2)==((cN ((((at_ a.1 y16).1),(at_ a.1 y16).2.1,(at_ a.1 y16).2.2),a.2.1,a.2.2)).2)))=true→(false=cH a))∧(¬((!(((cN ((((at_ a.1 y16).1),(at_ a.1 y16).2.1,(at_ a.1 y16).2.2),a.2.1,a.2.2)).2)==((cN ((((at_ a.1 y16).1),(at_ a.1 y16).2.1,(at_ a.1 y16).2.2),a.2.1,a.2.2)).2)))=true)→(jN ((cN ((((at_ a.1 y16).1),(at_ a.1 y16).2.1,(at_ a.1 y16).2.2),a.2.1,a.2.2)).1,(cN ((((at_ a.1 y16).1),(at_ a.1 y16).2.1,(at_ a.1 y16).2.2),a.2.1,a.2.2)).1)∧((¬((gE ((cN ((((at_ a.1 y16).1),(at_ a.1 y16).2.1,(at_ a.1 y16).2.2),a.2.1,a.2.2)).1,(cN ((((at_ a.1 y16).1),(at_ a.1 y16).2.1,(at_ a.1 y16).2.2),a.2.1,a.2.2)).1))=true)→(false=cH a))∧(¬(¬((gE ((cN ((((at_ a.1 y16).1),(at_ a.1 y16).2.1,(at_ a.1 y16).2.2),a.2.1,a.2.2)).1,(cN ((((at_ a.1 y16).1),(at_ a.1 y16).2.1,(at_ a.1 y16).2.2),a.2.1,a.2.2)).1))=true))→(-9223372036854775808≤(y16+(1:Int))∧(y16+(1:Int))≤9223372036854775807∧(I14 (y16+(1:Int))∧μ15 (y16+(1:Int)) < μ15 y16))))))))))))∧(¬(y16 < (a.1.length:Int))→(fD (a.1,a.2.1,a.2.2)∧(fD (a.1,a.2.1,a.2.2)∧((((bA (a.1,a.2.1,a.2.2)).1)=((bA (a.1,a.2.1,a.2.2)).1)→(((((bA (a.1,a.2.1,a.2.2)).2.2)==((bA (a.1,a.2.1,a.2.2)).2.2))=true→(jN ((bA (a.1,a.2.1,a.2.2)).2.1,(bA (a.1,a.2.1,a.2.2)).2.1)∧((gE ((bA (a.1,a.2.1,a.2.2)).2.1,(bA (a.1,a.2.1,a.2.2)).2.1))=cH a)))∧(¬((((bA (a.1,a.2.1,a.2.2)).2.2)==((bA (a.1,a.2.1,a.2.2)).2.2))=true)→(false=cH a))))∧(¬(((bA (a.1,a.2.1,a.2.2)).1)=((bA (a.1,a.2.1,a.2.2)).1))→(false=cH a)))))))))))))
set_option maxRecDepth 100000 in
set_option maxHeartbeats 2000000 in
theorem f376.of (a:(List (aC))×(List (aA))×aF) (h:f376.vc a):f376.tree a:=⟨(),⟨trivial,br h (Cnd.not Cnd.b) (fun h2 k70=>⟨(),⟨trivial,⟨k70,trivial⟩⟩⟩) (fun h3 k71=>(f353.ei ⟨k71.1,br k71.2 (Cnd.not Cnd.b) (fun h8 k67=>⟨(),⟨trivial,⟨k67,trivial⟩⟩⟩) (fun h9 k68=>Exists.elim k68 (fun I14 h64_=>Exists.elim h64_ (fun μ15 h64=>⟨I14,μ15,(f376.l0i a h64.1),fun y16 h66=>br (h64.2 y16 h66) Cnd.dec (fun h17 k62=>chk k62.2.2 Cnd.ix ⟨k62.1,k62.2.1⟩ (fun h19 k44=>(f355.ei ⟨k44.1,chk k44.2.2.2 Cnd.ix ⟨k44.2.1,k44.2.2.1⟩ (fun h21 k42=>(f388.ei ⟨k42.1,br k42.2 Cnd.b (fun h23 k39=>⟨k39,trivial⟩) (fun h24 k40=>(f150.ei ⟨k40.1,br k40.2 (Cnd.not Cnd.b) (fun h27 k36=>⟨k36,trivial⟩) (fun h28 k37=>wrapK.i64 k37 (fun h33 h34 k35=>(f376.l0i a k35)))⟩))⟩))⟩))) (fun h18 k63=>(f227.ei ⟨k63.1,(f389.ei ⟨k63.2.1,br k63.2.2 Cnd.seq (fun h47 k58=>br k58 Cnd.b (fun h49 k55=>(f150.ei ⟨k55.1,⟨k55.2,trivial⟩⟩)) (fun h50 k56=>⟨k56,trivial⟩)) (fun h48 k59=>⟨k59,trivial⟩)⟩)⟩))⟩)))⟩))⟩⟩
theorem f376.eq (a:(List (aC))×(List (aA))×aF):(f376.af a).gives f376.env (f376.args a) (f376.blks a) (f376.res a) (f376.blks' a)=f376.tree a:=by kernel_rfl
end Go.Abs

-- interregnum/interregnumlaw13.VictimFewest
namespace Go.Abs
open Go
end Go.Abs

/- interregnum/interregnumlaw13.VictimFewest -/
namespace Go.Abs
open Go
set_option linter.unusedVariables false
end Go.Abs

-- interregnum/interregnumlaw13.VictimOrder
namespace Go.Abs
open Go
end Go.Abs

/- interregnum/interregnumlaw13.VictimOrder -/
namespace Go.Abs
open Go
set_option linter.unusedVariables false
end Go.Abs

/- The laws of the machine from which jobs go. -/
namespace Go.Abs
open Go

theorem aFD {l:List bM} {jobs:List bQ} {t:bO} (hs:eT.size l+(f9.size jobs+fZ.size t)≤1048576):fD (l,jobs,t)∧lK (l,jobs,t):=by
 have h2:(l.map eO.size).sum+1=eT.size l:=rfl
 have h3:=y9 eO.size (fun x=>Nat.le_add_left 1 _) l
 have hj:=xX (l:=jobs) (by omega)
 have ht:=yY (t:=t) (by omega)
 have hw:=wA (t:=t) (by omega)
 have hl:L20 l:=by unfold L20; omega
 have hm:∀ m∈l,fH m.1∧L20 m.1.2.2:=fun m hm=>yE (by
  have h1:eO.size m≤(l.map eO.size).sum:=aDA _ hm
  omega)
 exact ⟨⟨hl,fun m hx=>⟨hj,(hm m hx).1,ht,(hm m hx).2,hw⟩⟩,hl,hj,hw,fun m hx=>⟨(hm m hx).1.1,(hm m hx).2⟩⟩

theorem qA {a:List bM×List bQ×bO} (h:L20 a.2.1):L20 (bA a).2.1:=by
 by_cases hn:cG a=[]
 ·unfold bA
  rw [hn]
  exact Nat.zero_le _
 ·rw [sK hn]
  unfold L20 fC
  simp only [List.length_map]
  exact qF h _ (f227.ok.minV_mem hn)

theorem vH {m:bM} {jobs:List bQ} {t:bO} (h:L20 jobs):L20 (cN (m,jobs,t)).1:=by
 unfold L20 cN fC
 simp only [List.length_map]
 exact Nat.le_trans (qZ _) h

theorem vI (l:List ByteArray):gE (l,l)=true:=decide_eq_true rfl

theorem f376.ok (a:List bM×List bQ×bO) (h:f376.lpre a):f376.vc a:=by
 obtain ⟨_,hs⟩:=h
 obtain ⟨l,jobs,t⟩:=a
 obtain ⟨hc,hf⟩:=aFD hs
 have h1:l.length≤1048576:=hc.1
 have hj:L20 jobs:=hf.2.1
 refine ⟨fun _=>rfl,fun _=>⟨hf,fun _=>rfl,fun _=>⟨fun y=>0≤y∧y≤(l.length:Int),fun y=>l.length - y.toNat,⟨by omega,by omega⟩,fun y hy=>?_⟩⟩⟩
 obtain ⟨g0,g1⟩:=hy
 simp only
 refine ⟨fun hlt=>?_,fun hge=>⟨hc,hc,fun _=>⟨fun _=>⟨⟨qA hj,qA hj⟩,vI _⟩,fun c=>absurd (beq_self_eq_true _) c⟩,fun c=>absurd trivial c⟩⟩
 have hw:bY (at_ l y,jobs,t):=hc.2 _ (eF (l:=l) (i:=y.toNat) (by omega))
 refine ⟨g0,hlt,hw,g0,hlt,hw,fun c=>?_,fun _=>⟨⟨vH hj,vH hj⟩,fun c=>absurd (vI _) c,fun _=>⟨by omega,by omega,⟨by omega,by omega⟩,by omega⟩⟩⟩
 rw [beq_self_eq_true] at c
 cases c

def ltO (x y:dF):Prop:=(x.2.length:Int) < y.2.length∨((x.2.length:Int)=y.2.length∧(fJ x < fJ y∨(fJ x=fJ y∧sLt x.1 y.1)))

theorem ltO.trans {x y z:dF} (h1:ltO x y) (h2:ltO y z):ltO x z:=by
 unfold ltO at *
 rcases h1 with h1 | ⟨e1,h1 | ⟨f1,h1⟩⟩ <;> rcases h2 with h2 | ⟨e2,h2 | ⟨f2,h2⟩⟩
 ·exact .inl (by omega)
 ·exact .inl (by omega)
 ·exact .inl (by omega)
 ·exact .inl (by omega)
 ·exact .inr ⟨by omega,.inl (by omega)⟩
 ·exact .inr ⟨by omega,.inl (by omega)⟩
 ·exact .inl (by omega)
 ·exact .inr ⟨by omega,.inl (by omega)⟩
 ·exact .inr ⟨by omega,.inr ⟨by omega,pU h1 h2⟩⟩

theorem ltO.irr (x:dF):¬ltO x x:=by
 unfold ltO
 rintro (h | ⟨_,h | ⟨_,h⟩⟩)
 ·omega
 ·omega
 ·have:=kN x.1.toList
  unfold sLt at h
  rw [this] at h
  cases h

structure RevI {α β:Type} [Inhabited α] (f:α→β) (l out:List α) (i:Int):Prop where
 lo:-1≤i
 hi:i < (l.length:Int)
 out:out=(l.drop (i+1).toNat).reverse
 ne:∀ j k:Nat,k < j→j < l.length→i < (j:Int)→f (l.getD j default)≠f (l.getD k default)

theorem RevI.init {α β:Type} [Inhabited α] (f:α→β) (l:List α):RevI f l [] ((l.length:Int) - 1):=by
 refine ⟨by omega,by omega,?_,fun j k _ h2 h3=>by omega⟩
 rw [List.drop_of_length_le (by omega)]
 rfl

theorem RevI.step {α β:Type} [Inhabited α] {f:α→β} {l out:List α} {i:Int} (h:RevI f l out i) (h0:0≤i) (hn:∀ k:Nat,k < i.toNat→f (at_ l i)≠f (l.getD k default)):RevI f l (out++[at_ l i]) (i - 1):=by
 have hi:=h.hi
 refine ⟨by omega,by omega,?_,fun j k h1 h2 h3=>?_⟩
 ·rw [h.out,show (i - 1+1).toNat=i.toNat from by omega,List.drop_eq_getElem_cons (i:=i.toNat) (by omega),List.reverse_cons,show (i+1).toNat=i.toNat+1 from by omega]
  unfold at_
  rw [eJ (by omega)]
 ·by_cases e:i=(j:Int)
  ·subst e
   exact hn k (by omega)
  ·exact h.ne j k h1 h2 (by omega)

theorem RevI.done {α β:Type} [Inhabited α] {f:α→β} {l out:List α} {i:Int} (h:RevI f l out i) (hi:¬0≤i):out=l.reverse∧(l.map f).Nodup:=by
 have lo:=h.lo
 have e:i=-1:=by omega
 subst e
 refine ⟨h.out,?_⟩
 refine List.pairwise_iff_getElem.2 fun k j hk hj hkj e=>?_
 rw [List.length_map] at hk hj
 rw [List.getElem_map,List.getElem_map] at e
 refine h.ne j k hkj hj (by omega) ?_
 rw [eJ hj,eJ hk]
 exact e.symm

end Go.Abs
