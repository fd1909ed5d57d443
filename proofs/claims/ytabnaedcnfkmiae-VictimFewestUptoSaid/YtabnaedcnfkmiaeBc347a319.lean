/- Functions, and what the code asks of them: PVictLaw2. -/
import Derived.KernelRfl
import Derived.Test.YtabnaedcnfkmiaeBa1eb4fe3
import Derived.Test.YtabnaedcnfkmiaeB7f17cbe2
import Derived.Test.YtabnaedcnfkmiaeB632c19ef
import Derived.Test.YtabnaedcnfkmiaeBde28f8a9
import Derived.Test.YtabnaedcnfkmiaeB2000ad9d
import Derived.Test.YtabnaedcnfkmiaeB1bc422e5
import Derived.Test.YtabnaedcnfkmiaeBd10b95f7
import Derived.Test.YtabnaedcnfkmiaeB87382551
import Derived.Test.YtabnaedcnfkmiaeB29fee5fc
import Derived.Test.YtabnaedcnfkmiaeB2a1a747c
import Derived.Test.YtabnaedcnfkmiaeBa90dc016
import Derived.Test.YtabnaedcnfkmiaeB4f237585
import Derived.Test.YtabnaedcnfkmiaeBad4bdd15
import Derived.Test.YtabnaedcnfkmiaeBd20b2472
set_option linter.unusedVariables false
set_option linter.unusedSimpArgs false
-- interregnum/interregnumlaw13.VictimTells
namespace Go.Abs
open Go
end Go.Abs

/- interregnum/interregnumlaw13.VictimTells -/
namespace Go.Abs
open Go
set_option linter.unusedVariables false
end Go.Abs

-- interregnum/interregnumlaw13.VictimFewest
namespace Go.Abs
open Go
def f377.wf (a : (List (T_api_Machine)) × (List (T_api_Job)) × T_api_Task) : Prop := k_sl_api_Machine.ok a.1∧k_sl_api_Job.ok a.2.1∧k_api_Task.ok a.2.2
def f377.size (a : (List (T_api_Machine)) × (List (T_api_Job)) × T_api_Task) : Nat := k_sl_api_Machine.size a.1 + (k_sl_api_Job.size a.2.1 + (k_api_Task.size a.2.2))
def f377.lpre (a : (List (T_api_Machine)) × (List (T_api_Job)) × T_api_Task) : Prop := f377.wf a∧f377.size a≤1048576
def f377.args (a : (List (T_api_Machine)) × (List (T_api_Job)) × T_api_Task) : List D := [.slice .ro 7 a.1.length (gl e_api_Machine a.1),.slice .ro 13 a.2.1.length (gl e_api_Job a.2.1),.agg [.str a.2.2.1,.str a.2.2.2.1,.int .i64 a.2.2.2.2.1,.int .i64 a.2.2.2.2.2.1.1,.int .i64 a.2.2.2.2.2.1.2.1,.int .i64 a.2.2.2.2.2.1.2.2,.slice .ro 2 a.2.2.2.2.2.2.1.length (gl e_api_Label a.2.2.2.2.2.2.1),.str a.2.2.2.2.2.2.2.1,.str a.2.2.2.2.2.2.2.2.1,.int .i64 a.2.2.2.2.2.2.2.2.2]]
def f377.blks (a : (List (T_api_Machine)) × (List (T_api_Job)) × T_api_Task) : List (List D) := []
def f377.res (a : (List (T_api_Machine)) × (List (T_api_Job)) × T_api_Task) : List D := [.bool (lawTrue a)]
def f377.blks' (a : (List (T_api_Machine)) × (List (T_api_Job)) × T_api_Task) : List (List D) := []
def f377.C : Contract := FnC f377.args f377.blks (fun a => f377.lpre a) f377.res f377.blks'
end Go.Abs

/- interregnum/interregnumlaw13.VictimFewest -/
namespace Go.Abs
open Go
set_option linter.unusedVariables false
def f377.S0 (a : (List (T_api_Machine)) × (List (T_api_Job)) × T_api_Task) (x : ByteArray × (List (ByteArray)) × Bool × Bool × Bool × Int) : Tm := ⟨[.slice .ro 7 a.1.length (gl e_api_Machine a.1),.slice .ro 13 a.2.1.length (gl e_api_Job a.2.1),.dead,.dead,.dead,.ptr 0 0,.dead,.str x.1,.slice .ro 1 x.2.1.length (gl e_str x.2.1),.bool x.2.2.1,.bool x.2.2.2.1,.bool x.2.2.2.2.1,.dead,.dead,.dead,.dead,.dead,.dead,.dead,.dead,.dead,.dead,.dead,.dead,.dead,.dead,.dead,.dead,.dead,.dead,.dead,.dead,.dead,.dead,.int .i64 (a.1.length : Int),.int .i64 x.2.2.2.2.2,.dead,.dead,.dead,.dead,.dead,.dead,.dead,.dead,.dead,.dead,.dead,.dead,.dead,.dead,.dead,.dead,.dead,.dead,.dead,.dead,.dead,.dead,.dead,.dead,.dead,.dead,.dead,.dead,.dead,.dead,.dead,.dead,.dead,.dead,.dead,.dead,.dead,.dead,.dead,.dead,.dead,.dead,.dead,.dead,.dead,.dead,.dead,.dead,.dead,.dead,.dead,.dead,.dead,.dead,.dead,.dead,.dead,.dead,.dead,.dead,.dead,.dead,.dead,.dead],[(0,false,[.str a.2.2.1,.str a.2.2.2.1,.int .i64 a.2.2.2.2.1,.int .i64 a.2.2.2.2.2.1.1,.int .i64 a.2.2.2.2.2.1.2.1,.int .i64 a.2.2.2.2.2.1.2.2,.slice .ro 2 a.2.2.2.2.2.2.1.length (gl e_api_Label a.2.2.2.2.2.2.1),.str a.2.2.2.2.2.2.2.1,.str a.2.2.2.2.2.2.2.2.1,.int .i64 a.2.2.2.2.2.2.2.2.2])],[]⟩
def f377.kills (a : (List (T_api_Machine)) × (List (T_api_Job)) × T_api_Task) : List Hint := [.tell (ByteArray × (List (ByteArray)) × Bool × Bool × Bool × Int) (f377.S0 a)]
def f377.cuts (a : (List (T_api_Machine)) × (List (T_api_Job)) × T_api_Task) : List (Nat × Σ β : Type,β→Tm) := []
def f377.af (a : (List (T_api_Machine)) × (List (T_api_Job)) × T_api_Task) : AF := AF.mk (.seq (.region [oT 5 0 .box [2],
 ⟨(some 6),1,.move,[.c (.bool false)],none⟩])
 (.seq (.seq (.region [oT 15 2 (.call false 352) [],
 oT 16 6 (.un .not) [15],
 oT 17 7 .move [16],
 oG 18 8 .move [0] 17 false,
 oG 19 9 .move [1] 17 false,
 oG 20 10 (.load true 10) [5] 17 false,
 oG 21 11 (.call false 353) [18,19,20] 17 false,
 oG 22 15 (.un .not) [21] 17 false,
 ⟨(some 23),16,.pick,[.t 17,.c (.bool true),.t 22],none⟩])
 (.cond (.t 23) (.seq (.region [oT 24 17 (.call false 352) [],
 oT 6 21 .move [24]])
 (.ret)) (.skip)))
 (.seq (.region [oT 26 22 .move [0],
 oT 27 23 .move [1],
 oT 28 24 (.load true 10) [5],
 oT 29 25 (.call false 227) [26,27,28],
 oT 25 29 .move [29],
 oT 30 30 (.extract 0) [25],
 oT 31 31 (.extract 1) [25],
 oT 32 32 (.extract 2) [25],
 oT 7 33 .move [30],
 oT 8 34 .move [31],
 oT 9 35 .move [32]])
 (.seq (.region [⟨(some 10),36,.move,[.c (.bool false)],none⟩,
 ⟨(some 11),37,.move,[.c (.bool false)],none⟩])
 (.seq (.seq (.region [oT 33 38 .move [0],
 oT 34 39 (.len false) [33],
 ⟨(some 35),40,.move,[.c (.int .i64 (0))],none⟩])
 (.block 0 (.loopT (ByteArray × (List (ByteArray)) × Bool × Bool × Bool × Int) (f377.S0 a) 41 98 (.seq (.region [oT 36 41 (.bin .lss) [35,34]])
 (.seq (.cond (.t 36) (.skip) (.exit 0))
 (.seq (.block 1 (.seq (.region [oT 37 42 .move [35],
 oT 12 43 .move [37]])
 (.seq (.region [oT 39 44 .move [0],
 oT 40 45 .move [12],
 oT 41 46 (.indexAddr 7 none) [39,40],
 oT 42 47 (.load true 7) [41],
 oT 43 48 .move [1],
 oT 44 49 (.load true 10) [5],
 oT 45 50 (.call false 355) [42,43,44],
 oT 38 54 .move [45],
 oT 46 55 (.extract 0) [38],
 oT 47 56 (.extract 1) [38],
 oT 13 57 .move [46],
 oT 14 58 .move [47]])
 (.seq (.region [oT 48 59 .move [10],
 oT 49 60 .move [48],
 oG 50 61 .move [14] 49 false,
 ⟨(some 51),62,.pick,[.t 49,.c (.bool true),.t 50],none⟩,
 oT 10 63 .move [51]])
 (.seq (.region [oT 52 64 .move [11],
 oT 53 65 .move [52],
 oG 54 66 .move [14] 53 false,
 oG 55 67 .move [54] 53 false,
 oG 56 68 .move [0] 55 true,
 oG 57 69 .move [12] 55 true,
 oG 58 70 (.indexAddr 7 none) [56,57] 55 true,
 oG 59 71 (.fieldAddr 0) [58] 55 true,
 oG 60 72 (.fieldAddr 0) [59] 55 true,
 oG 61 73 (.load false 1) [60] 55 true,
 oG 62 74 .move [7] 55 true,
 oG 63 75 (.bin .eql) [61,62] 55 true,
 ⟨(some 64),76,.pick,[.t 55,.t 63,.c (.bool false)],(some (53,false))⟩,
 oG 65 77 .move [64] 53 false,
 oG 66 78 .move [13] 65 true,
 oG 67 79 .move [8] 65 true,
 oG 68 80 (.call false 150) [66,67] 65 true,
 ⟨(some 69),84,.pick,[.t 65,.t 68,.c (.bool false)],(some (53,false))⟩,
 ⟨(some 70),85,.pick,[.t 53,.c (.bool true),.t 69],none⟩,
 oT 11 86 .move [70]])
 (.seq (.region [oT 71 87 .move [14],
 oT 72 88 .move [71],
 oG 73 89 .move [13] 72 true,
 oG 74 90 (.len false) [73] 72 true,
 oG 75 91 .move [8] 72 true,
 oG 76 92 (.len false) [75] 72 true,
 oG 77 93 (.bin .lss) [74,76] 72 true,
 ⟨(some 78),94,.pick,[.t 72,.t 77,.c (.bool false)],none⟩])
 (.cond (.t 78) (.seq (.region [⟨(some 6),95,.move,[.c (.bool false)],none⟩])
 (.ret)) (.skip))))))))
 (.region [⟨(some 79),96,(.bin .add),[.t 35,.c (.int .i64 (1))],none⟩,
 oT 35 97 .move [79]])))))))
 (.seq (.region [oT 80 98 .move [10],
 oT 81 99 .move [9],
 oT 82 100 (.binB false) [80,81],
 oT 83 101 .move [82],
 oG 84 102 .move [11] 83 true,
 oG 85 103 .move [9] 83 true,
 oG 86 104 (.binB false) [84,85] 83 true,
 ⟨(some 87),105,.pick,[.t 83,.t 86,.c (.bool false)],none⟩,
 oT 88 106 .move [87],
 oG 89 107 .move [9] 88 true,
 oG 90 108 .move [89] 88 true,
 oG 91 109 .move [7] 90 false,
 ⟨(some 92),110,(.bin .eql),[.t 91,.c (.str ByteArray.empty)],(some (90,false))⟩,
 oG 93 111 .move [92] 90 false,
 oG 94 112 .move [8] 93 true,
 oG 95 113 (.len false) [94] 93 true,
 ⟨(some 96),114,(.bin .eql),[.t 95,.c (.int .i64 (0))],(some (93,true))⟩,
 ⟨(some 97),115,.pick,[.t 93,.t 96,.c (.bool false)],(some (90,false))⟩,
 ⟨(some 98),116,.pick,[.t 90,.c (.bool true),.t 97],(some (88,true))⟩,
 ⟨(some 99),117,.pick,[.t 88,.t 98,.c (.bool false)],none⟩,
 oT 6 118 .move [99]])
 (.ret)))))))
 [.tmp 6] 0 97
def f377.env : Env := [(352,f352.C),(353,f353.C),(227,f227.C),(355,f355.C),(150,f150.C)]
def f377.tree (a : (List (T_api_Machine)) × (List (T_api_Job)) × T_api_Task) : Prop := ∃ c1 : Unit,True∧Br (!(lawTrue c1)) (∃ c4 : Unit,True∧((lawTrue c4) = (lawTrue a))∧True) (∃ c7 : (List (T_api_Machine)) × (List (T_api_Job)) × T_api_Task,SlQ a.1.length c7.1.length (gl e_api_Machine a.1) (gl e_api_Machine c7.1) (SlQ a.2.1.length c7.2.1.length (gl e_api_Job a.2.1) (gl e_api_Job c7.2.1) ((a.2.2.1 = c7.2.2.1)∧(a.2.2.2.1 = c7.2.2.2.1)∧(a.2.2.2.2.1 = c7.2.2.2.2.1)∧(a.2.2.2.2.2.1.1 = c7.2.2.2.2.2.1.1)∧(a.2.2.2.2.2.1.2.1 = c7.2.2.2.2.2.1.2.1)∧(a.2.2.2.2.2.1.2.2 = c7.2.2.2.2.2.1.2.2)∧SlQ a.2.2.2.2.2.2.1.length c7.2.2.2.2.2.2.1.length (gl e_api_Label a.2.2.2.2.2.2.1) (gl e_api_Label c7.2.2.2.2.2.2.1) ((a.2.2.2.2.2.2.2.1 = c7.2.2.2.2.2.2.2.1)∧(a.2.2.2.2.2.2.2.2.1 = c7.2.2.2.2.2.2.2.2.1)∧(a.2.2.2.2.2.2.2.2.2 = c7.2.2.2.2.2.2.2.2.2)∧(few13_pre c7)∧Br (!(few13 c7)) (∃ c10 : Unit,True∧((lawTrue c10) = (lawTrue a))∧True) (∃ c13 : (List (T_api_Machine)) × (List (T_api_Job)) × T_api_Task,SlQ a.1.length c13.1.length (gl e_api_Machine a.1) (gl e_api_Machine c13.1) (SlQ a.2.1.length c13.2.1.length (gl e_api_Job a.2.1) (gl e_api_Job c13.2.1) ((a.2.2.1 = c13.2.2.1)∧(a.2.2.2.1 = c13.2.2.2.1)∧(a.2.2.2.2.1 = c13.2.2.2.2.1)∧(a.2.2.2.2.2.1.1 = c13.2.2.2.2.2.1.1)∧(a.2.2.2.2.2.1.2.1 = c13.2.2.2.2.2.1.2.1)∧(a.2.2.2.2.2.1.2.2 = c13.2.2.2.2.2.1.2.2)∧SlQ a.2.2.2.2.2.2.1.length c13.2.2.2.2.2.2.1.length (gl e_api_Label a.2.2.2.2.2.2.1) (gl e_api_Label c13.2.2.2.2.2.2.1) ((a.2.2.2.2.2.2.2.1 = c13.2.2.2.2.2.2.2.1)∧(a.2.2.2.2.2.2.2.2.1 = c13.2.2.2.2.2.2.2.2.1)∧(a.2.2.2.2.2.2.2.2.2 = c13.2.2.2.2.2.2.2.2.2)∧(choose_pre c13)∧∃ (I15 : (ByteArray × (List (ByteArray)) × Bool × Bool × Bool × Int)→Prop) (μ16 : (ByteArray × (List (ByteArray)) × Bool × Bool × Bool × Int)→Nat),(∃ x14 : ByteArray × (List (ByteArray)) × Bool × Bool × Bool × Int,SlS e_api_Machine a.1 (SlS e_api_Job a.2.1 ((((chooseV c13).1) = x14.1)∧SlQ (((chooseV c13).2.1).length) x14.2.1.length (gl e_str ((chooseV c13).2.1)) (gl e_str x14.2.1) ((((chooseV c13).2.2) = x14.2.2.1)∧(false = x14.2.2.2.1)∧(false = x14.2.2.2.2.1)∧((a.1.length : Int) = (a.1.length : Int))∧((0 : Int) = x14.2.2.2.2.2)∧(a.2.2.1 = a.2.2.1)∧(a.2.2.2.1 = a.2.2.2.1)∧(a.2.2.2.2.1 = a.2.2.2.2.1)∧(a.2.2.2.2.2.1.1 = a.2.2.2.2.2.1.1)∧(a.2.2.2.2.2.1.2.1 = a.2.2.2.2.2.1.2.1)∧(a.2.2.2.2.2.1.2.2 = a.2.2.2.2.2.1.2.2)∧SlS e_api_Label a.2.2.2.2.2.2.1 ((a.2.2.2.2.2.2.2.1 = a.2.2.2.2.2.2.2.1)∧(a.2.2.2.2.2.2.2.2.1 = a.2.2.2.2.2.2.2.2.1)∧(a.2.2.2.2.2.2.2.2.2 = a.2.2.2.2.2.2.2.2.2)∧I15 x14)))))∧∀ y17 : ByteArray × (List (ByteArray)) × Bool × Bool × Bool × Int,I15 y17→(Br (decide (y17.2.2.2.2.2 < (a.1.length : Int))) (Br (decide ((0 : Int)≤y17.2.2.2.2.2) && decide (y17.2.2.2.2.2 < (a.1.length : Int))) (∃ c21 : T_api_Machine × (List (T_api_Job)) × T_api_Task,((((at_ a.1 y17.2.2.2.2.2).1).1) = c21.1.1.1)∧(((((at_ a.1 y17.2.2.2.2.2).1).2.1).1) = c21.1.1.2.1.1)∧(((((at_ a.1 y17.2.2.2.2.2).1).2.1).2.1) = c21.1.1.2.1.2.1)∧(((((at_ a.1 y17.2.2.2.2.2).1).2.1).2.2) = c21.1.1.2.1.2.2)∧SlQ ((((at_ a.1 y17.2.2.2.2.2).1).2.2).length) c21.1.1.2.2.length (gl e_api_Label (((at_ a.1 y17.2.2.2.2.2).1).2.2)) (gl e_api_Label c21.1.1.2.2) ((((at_ a.1 y17.2.2.2.2.2).2.1) = c21.1.2.1)∧(((at_ a.1 y17.2.2.2.2.2).2.2) = c21.1.2.2)∧SlQ a.2.1.length c21.2.1.length (gl e_api_Job a.2.1) (gl e_api_Job c21.2.1) ((a.2.2.1 = c21.2.2.1)∧(a.2.2.2.1 = c21.2.2.2.1)∧(a.2.2.2.2.1 = c21.2.2.2.2.1)∧(a.2.2.2.2.2.1.1 = c21.2.2.2.2.2.1.1)∧(a.2.2.2.2.2.1.2.1 = c21.2.2.2.2.2.1.2.1)∧(a.2.2.2.2.2.1.2.2 = c21.2.2.2.2.2.1.2.2)∧SlQ a.2.2.2.2.2.2.1.length c21.2.2.2.2.2.2.1.length (gl e_api_Label a.2.2.2.2.2.2.1) (gl e_api_Label c21.2.2.2.2.2.2.1) ((a.2.2.2.2.2.2.2.1 = c21.2.2.2.2.2.2.2.1)∧(a.2.2.2.2.2.2.2.2.1 = c21.2.2.2.2.2.2.2.2.1)∧(a.2.2.2.2.2.2.2.2.2 = c21.2.2.2.2.2.2.2.2.2)∧(why_pre c21)∧Br y17.2.2.2.1 (Br y17.2.2.2.2.1 (Br ((planV c21).2) (Br (decide ((((planV c21).1).length : Int) < (y17.2.1.length : Int))) ((false = (lawTrue a))∧True) (Let (IntKind.i64.wrap (y17.2.2.2.2.2 + (1 : Int))) (fun v31 : Int => ∃ x32 : ByteArray × (List (ByteArray)) × Bool × Bool × Bool × Int,SlS e_api_Machine a.1 (SlS e_api_Job a.2.1 ((y17.1 = x32.1)∧SlQ y17.2.1.length x32.2.1.length (gl e_str y17.2.1) (gl e_str x32.2.1) ((y17.2.2.1 = x32.2.2.1)∧(true = x32.2.2.2.1)∧(true = x32.2.2.2.2.1)∧((a.1.length : Int) = (a.1.length : Int))∧(v31 = x32.2.2.2.2.2)∧(a.2.2.1 = a.2.2.1)∧(a.2.2.2.1 = a.2.2.2.1)∧(a.2.2.2.2.1 = a.2.2.2.2.1)∧(a.2.2.2.2.2.1.1 = a.2.2.2.2.2.1.1)∧(a.2.2.2.2.2.1.2.1 = a.2.2.2.2.2.1.2.1)∧(a.2.2.2.2.2.1.2.2 = a.2.2.2.2.2.1.2.2)∧SlS e_api_Label a.2.2.2.2.2.2.1 ((a.2.2.2.2.2.2.2.1 = a.2.2.2.2.2.2.2.1)∧(a.2.2.2.2.2.2.2.2.1 = a.2.2.2.2.2.2.2.2.1)∧(a.2.2.2.2.2.2.2.2.2 = a.2.2.2.2.2.2.2.2.2)∧I15 x32∧μ16 x32 < μ16 y17))))))) (Let (IntKind.i64.wrap (y17.2.2.2.2.2 + (1 : Int))) (fun v39 : Int => ∃ x40 : ByteArray × (List (ByteArray)) × Bool × Bool × Bool × Int,SlS e_api_Machine a.1 (SlS e_api_Job a.2.1 ((y17.1 = x40.1)∧SlQ y17.2.1.length x40.2.1.length (gl e_str y17.2.1) (gl e_str x40.2.1) ((y17.2.2.1 = x40.2.2.1)∧(true = x40.2.2.2.1)∧(true = x40.2.2.2.2.1)∧((a.1.length : Int) = (a.1.length : Int))∧(v39 = x40.2.2.2.2.2)∧(a.2.2.1 = a.2.2.1)∧(a.2.2.2.1 = a.2.2.2.1)∧(a.2.2.2.2.1 = a.2.2.2.2.1)∧(a.2.2.2.2.2.1.1 = a.2.2.2.2.2.1.1)∧(a.2.2.2.2.2.1.2.1 = a.2.2.2.2.2.1.2.1)∧(a.2.2.2.2.2.1.2.2 = a.2.2.2.2.2.1.2.2)∧SlS e_api_Label a.2.2.2.2.2.2.1 ((a.2.2.2.2.2.2.2.1 = a.2.2.2.2.2.2.2.1)∧(a.2.2.2.2.2.2.2.2.1 = a.2.2.2.2.2.2.2.2.1)∧(a.2.2.2.2.2.2.2.2.2 = a.2.2.2.2.2.2.2.2.2)∧I15 x40∧μ16 x40 < μ16 y17))))))) (Br ((planV c21).2) (Br (decide ((0 : Int)≤y17.2.2.2.2.2) && decide (y17.2.2.2.2.2 < (a.1.length : Int))) (Br ((((at_ a.1 y17.2.2.2.2.2).1).1).toList == y17.1.toList) (∃ c52 : (List (ByteArray)) × (List (ByteArray)),SlQ (((planV c21).1).length) c52.1.length (gl e_str ((planV c21).1)) (gl e_str c52.1) (SlQ y17.2.1.length c52.2.length (gl e_str y17.2.1) (gl e_str c52.2) ((texts_pre c52)∧Br ((planV c21).2) (Br (decide ((((planV c21).1).length : Int) < (y17.2.1.length : Int))) ((false = (lawTrue a))∧True) (Let (IntKind.i64.wrap (y17.2.2.2.2.2 + (1 : Int))) (fun v56 : Int => ∃ x57 : ByteArray × (List (ByteArray)) × Bool × Bool × Bool × Int,SlS e_api_Machine a.1 (SlS e_api_Job a.2.1 ((y17.1 = x57.1)∧SlQ y17.2.1.length x57.2.1.length (gl e_str y17.2.1) (gl e_str x57.2.1) ((y17.2.2.1 = x57.2.2.1)∧(true = x57.2.2.2.1)∧((textsV c52) = x57.2.2.2.2.1)∧((a.1.length : Int) = (a.1.length : Int))∧(v56 = x57.2.2.2.2.2)∧(a.2.2.1 = a.2.2.1)∧(a.2.2.2.1 = a.2.2.2.1)∧(a.2.2.2.2.1 = a.2.2.2.2.1)∧(a.2.2.2.2.2.1.1 = a.2.2.2.2.2.1.1)∧(a.2.2.2.2.2.1.2.1 = a.2.2.2.2.2.1.2.1)∧(a.2.2.2.2.2.1.2.2 = a.2.2.2.2.2.1.2.2)∧SlS e_api_Label a.2.2.2.2.2.2.1 ((a.2.2.2.2.2.2.2.1 = a.2.2.2.2.2.2.2.1)∧(a.2.2.2.2.2.2.2.2.1 = a.2.2.2.2.2.2.2.2.1)∧(a.2.2.2.2.2.2.2.2.2 = a.2.2.2.2.2.2.2.2.2)∧I15 x57∧μ16 x57 < μ16 y17))))))) (Let (IntKind.i64.wrap (y17.2.2.2.2.2 + (1 : Int))) (fun v64 : Int => ∃ x65 : ByteArray × (List (ByteArray)) × Bool × Bool × Bool × Int,SlS e_api_Machine a.1 (SlS e_api_Job a.2.1 ((y17.1 = x65.1)∧SlQ y17.2.1.length x65.2.1.length (gl e_str y17.2.1) (gl e_str x65.2.1) ((y17.2.2.1 = x65.2.2.1)∧(true = x65.2.2.2.1)∧((textsV c52) = x65.2.2.2.2.1)∧((a.1.length : Int) = (a.1.length : Int))∧(v64 = x65.2.2.2.2.2)∧(a.2.2.1 = a.2.2.1)∧(a.2.2.2.1 = a.2.2.2.1)∧(a.2.2.2.2.1 = a.2.2.2.2.1)∧(a.2.2.2.2.2.1.1 = a.2.2.2.2.2.1.1)∧(a.2.2.2.2.2.1.2.1 = a.2.2.2.2.2.1.2.1)∧(a.2.2.2.2.2.1.2.2 = a.2.2.2.2.2.1.2.2)∧SlS e_api_Label a.2.2.2.2.2.2.1 ((a.2.2.2.2.2.2.2.1 = a.2.2.2.2.2.2.2.1)∧(a.2.2.2.2.2.2.2.2.1 = a.2.2.2.2.2.2.2.2.1)∧(a.2.2.2.2.2.2.2.2.2 = a.2.2.2.2.2.2.2.2.2)∧I15 x65∧μ16 x65 < μ16 y17))))))))) (Br ((planV c21).2) (Br (decide ((((planV c21).1).length : Int) < (y17.2.1.length : Int))) ((false = (lawTrue a))∧True) (Let (IntKind.i64.wrap (y17.2.2.2.2.2 + (1 : Int))) (fun v74 : Int => ∃ x75 : ByteArray × (List (ByteArray)) × Bool × Bool × Bool × Int,SlS e_api_Machine a.1 (SlS e_api_Job a.2.1 ((y17.1 = x75.1)∧SlQ y17.2.1.length x75.2.1.length (gl e_str y17.2.1) (gl e_str x75.2.1) ((y17.2.2.1 = x75.2.2.1)∧(true = x75.2.2.2.1)∧(false = x75.2.2.2.2.1)∧((a.1.length : Int) = (a.1.length : Int))∧(v74 = x75.2.2.2.2.2)∧(a.2.2.1 = a.2.2.1)∧(a.2.2.2.1 = a.2.2.2.1)∧(a.2.2.2.2.1 = a.2.2.2.2.1)∧(a.2.2.2.2.2.1.1 = a.2.2.2.2.2.1.1)∧(a.2.2.2.2.2.1.2.1 = a.2.2.2.2.2.1.2.1)∧(a.2.2.2.2.2.1.2.2 = a.2.2.2.2.2.1.2.2)∧SlS e_api_Label a.2.2.2.2.2.2.1 ((a.2.2.2.2.2.2.2.1 = a.2.2.2.2.2.2.2.1)∧(a.2.2.2.2.2.2.2.2.1 = a.2.2.2.2.2.2.2.2.1)∧(a.2.2.2.2.2.2.2.2.2 = a.2.2.2.2.2.2.2.2.2)∧I15 x75∧μ16 x75 < μ16 y17))))))) (Let (IntKind.i64.wrap (y17.2.2.2.2.2 + (1 : Int))) (fun v82 : Int => ∃ x83 : ByteArray × (List (ByteArray)) × Bool × Bool × Bool × Int,SlS e_api_Machine a.1 (SlS e_api_Job a.2.1 ((y17.1 = x83.1)∧SlQ y17.2.1.length x83.2.1.length (gl e_str y17.2.1) (gl e_str x83.2.1) ((y17.2.2.1 = x83.2.2.1)∧(true = x83.2.2.2.1)∧(false = x83.2.2.2.2.1)∧((a.1.length : Int) = (a.1.length : Int))∧(v82 = x83.2.2.2.2.2)∧(a.2.2.1 = a.2.2.1)∧(a.2.2.2.1 = a.2.2.2.1)∧(a.2.2.2.2.1 = a.2.2.2.2.1)∧(a.2.2.2.2.2.1.1 = a.2.2.2.2.2.1.1)∧(a.2.2.2.2.2.1.2.1 = a.2.2.2.2.2.1.2.1)∧(a.2.2.2.2.2.1.2.2 = a.2.2.2.2.2.1.2.2)∧SlS e_api_Label a.2.2.2.2.2.2.1 ((a.2.2.2.2.2.2.2.1 = a.2.2.2.2.2.2.2.1)∧(a.2.2.2.2.2.2.2.2.1 = a.2.2.2.2.2.2.2.2.1)∧(a.2.2.2.2.2.2.2.2.2 = a.2.2.2.2.2.2.2.2.2)∧I15 x83∧μ16 x83 < μ16 y17)))))))) False) (Br ((planV c21).2) (Br (decide ((((planV c21).1).length : Int) < (y17.2.1.length : Int))) ((false = (lawTrue a))∧True) (Let (IntKind.i64.wrap (y17.2.2.2.2.2 + (1 : Int))) (fun v94 : Int => ∃ x95 : ByteArray × (List (ByteArray)) × Bool × Bool × Bool × Int,SlS e_api_Machine a.1 (SlS e_api_Job a.2.1 ((y17.1 = x95.1)∧SlQ y17.2.1.length x95.2.1.length (gl e_str y17.2.1) (gl e_str x95.2.1) ((y17.2.2.1 = x95.2.2.1)∧(true = x95.2.2.2.1)∧(false = x95.2.2.2.2.1)∧((a.1.length : Int) = (a.1.length : Int))∧(v94 = x95.2.2.2.2.2)∧(a.2.2.1 = a.2.2.1)∧(a.2.2.2.1 = a.2.2.2.1)∧(a.2.2.2.2.1 = a.2.2.2.2.1)∧(a.2.2.2.2.2.1.1 = a.2.2.2.2.2.1.1)∧(a.2.2.2.2.2.1.2.1 = a.2.2.2.2.2.1.2.1)∧(a.2.2.2.2.2.1.2.2 = a.2.2.2.2.2.1.2.2)∧SlS e_api_Label a.2.2.2.2.2.2.1 ((a.2.2.2.2.2.2.2.1 = a.2.2.2.2.2.2.2.1)∧(a.2.2.2.2.2.2.2.2.1 = a.2.2.2.2.2.2.2.2.1)∧(a.2.2.2.2.2.2.2.2.2 = a.2.2.2.2.2.2.2.2.2)∧I15 x95∧μ16 x95 < μ16 y17))))))) (Let (IntKind.i64.wrap (y17.2.2.2.2.2 + (1 : Int))) (fun v102 : Int => ∃ x103 : ByteArray × (List (ByteArray)) × Bool × Bool × Bool × Int,SlS e_api_Machine a.1 (SlS e_api_Job a.2.1 ((y17.1 = x103.1)∧SlQ y17.2.1.length x103.2.1.length (gl e_str y17.2.1) (gl e_str x103.2.1) ((y17.2.2.1 = x103.2.2.1)∧(true = x103.2.2.2.1)∧(false = x103.2.2.2.2.1)∧((a.1.length : Int) = (a.1.length : Int))∧(v102 = x103.2.2.2.2.2)∧(a.2.2.1 = a.2.2.1)∧(a.2.2.2.1 = a.2.2.2.1)∧(a.2.2.2.2.1 = a.2.2.2.2.1)∧(a.2.2.2.2.2.1.1 = a.2.2.2.2.2.1.1)∧(a.2.2.2.2.2.1.2.1 = a.2.2.2.2.2.1.2.1)∧(a.2.2.2.2.2.1.2.2 = a.2.2.2.2.2.1.2.2)∧SlS e_api_Label a.2.2.2.2.2.2.1 ((a.2.2.2.2.2.2.2.1 = a.2.2.2.2.2.2.2.1)∧(a.2.2.2.2.2.2.2.2.1 = a.2.2.2.2.2.2.2.2.1)∧(a.2.2.2.2.2.2.2.2.2 = a.2.2.2.2.2.2.2.2.2)∧I15 x103∧μ16 x103 < μ16 y17))))))))) (Br y17.2.2.2.2.1 (Br ((planV c21).2) (Br (decide ((((planV c21).1).length : Int) < (y17.2.1.length : Int))) ((false = (lawTrue a))∧True) (Let (IntKind.i64.wrap (y17.2.2.2.2.2 + (1 : Int))) (fun v119 : Int => ∃ x120 : ByteArray × (List (ByteArray)) × Bool × Bool × Bool × Int,SlS e_api_Machine a.1 (SlS e_api_Job a.2.1 ((y17.1 = x120.1)∧SlQ y17.2.1.length x120.2.1.length (gl e_str y17.2.1) (gl e_str x120.2.1) ((y17.2.2.1 = x120.2.2.1)∧(((planV c21).2) = x120.2.2.2.1)∧(true = x120.2.2.2.2.1)∧((a.1.length : Int) = (a.1.length : Int))∧(v119 = x120.2.2.2.2.2)∧(a.2.2.1 = a.2.2.1)∧(a.2.2.2.1 = a.2.2.2.1)∧(a.2.2.2.2.1 = a.2.2.2.2.1)∧(a.2.2.2.2.2.1.1 = a.2.2.2.2.2.1.1)∧(a.2.2.2.2.2.1.2.1 = a.2.2.2.2.2.1.2.1)∧(a.2.2.2.2.2.1.2.2 = a.2.2.2.2.2.1.2.2)∧SlS e_api_Label a.2.2.2.2.2.2.1 ((a.2.2.2.2.2.2.2.1 = a.2.2.2.2.2.2.2.1)∧(a.2.2.2.2.2.2.2.2.1 = a.2.2.2.2.2.2.2.2.1)∧(a.2.2.2.2.2.2.2.2.2 = a.2.2.2.2.2.2.2.2.2)∧I15 x120∧μ16 x120 < μ16 y17))))))) (Let (IntKind.i64.wrap (y17.2.2.2.2.2 + (1 : Int))) (fun v127 : Int => ∃ x128 : ByteArray × (List (ByteArray)) × Bool × Bool × Bool × Int,SlS e_api_Machine a.1 (SlS e_api_Job a.2.1 ((y17.1 = x128.1)∧SlQ y17.2.1.length x128.2.1.length (gl e_str y17.2.1) (gl e_str x128.2.1) ((y17.2.2.1 = x128.2.2.1)∧(((planV c21).2) = x128.2.2.2.1)∧(true = x128.2.2.2.2.1)∧((a.1.length : Int) = (a.1.length : Int))∧(v127 = x128.2.2.2.2.2)∧(a.2.2.1 = a.2.2.1)∧(a.2.2.2.1 = a.2.2.2.1)∧(a.2.2.2.2.1 = a.2.2.2.2.1)∧(a.2.2.2.2.2.1.1 = a.2.2.2.2.2.1.1)∧(a.2.2.2.2.2.1.2.1 = a.2.2.2.2.2.1.2.1)∧(a.2.2.2.2.2.1.2.2 = a.2.2.2.2.2.1.2.2)∧SlS e_api_Label a.2.2.2.2.2.2.1 ((a.2.2.2.2.2.2.2.1 = a.2.2.2.2.2.2.2.1)∧(a.2.2.2.2.2.2.2.2.1 = a.2.2.2.2.2.2.2.2.1)∧(a.2.2.2.2.2.2.2.2.2 = a.2.2.2.2.2.2.2.2.2)∧I15 x128∧μ16 x128 < μ16 y17))))))) (Br ((planV c21).2) (Br (decide ((0 : Int)≤y17.2.2.2.2.2) && decide (y17.2.2.2.2.2 < (a.1.length : Int))) (Br ((((at_ a.1 y17.2.2.2.2.2).1).1).toList == y17.1.toList) (∃ c140 : (List (ByteArray)) × (List (ByteArray)),SlQ (((planV c21).1).length) c140.1.length (gl e_str ((planV c21).1)) (gl e_str c140.1) (SlQ y17.2.1.length c140.2.length (gl e_str y17.2.1) (gl e_str c140.2) ((texts_pre c140)∧Br ((planV c21).2) (Br (decide ((((planV c21).1).length : Int) < (y17.2.1.length : Int))) ((false = (lawTrue a))∧True) (Let (IntKind.i64.wrap (y17.2.2.2.2.2 + (1 : Int))) (fun v144 : Int => ∃ x145 : ByteArray × (List (ByteArray)) × Bool × Bool × Bool × Int,SlS e_api_Machine a.1 (SlS e_api_Job a.2.1 ((y17.1 = x145.1)∧SlQ y17.2.1.length x145.2.1.length (gl e_str y17.2.1) (gl e_str x145.2.1) ((y17.2.2.1 = x145.2.2.1)∧(((planV c21).2) = x145.2.2.2.1)∧((textsV c140) = x145.2.2.2.2.1)∧((a.1.length : Int) = (a.1.length : Int))∧(v144 = x145.2.2.2.2.2)∧(a.2.2.1 = a.2.2.1)∧(a.2.2.2.1 = a.2.2.2.1)∧(a.2.2.2.2.1 = a.2.2.2.2.1)∧(a.2.2.2.2.2.1.1 = a.2.2.2.2.2.1.1)∧(a.2.2.2.2.2.1.2.1 = a.2.2.2.2.2.1.2.1)∧(a.2.2.2.2.2.1.2.2 = a.2.2.2.2.2.1.2.2)∧SlS e_api_Label a.2.2.2.2.2.2.1 ((a.2.2.2.2.2.2.2.1 = a.2.2.2.2.2.2.2.1)∧(a.2.2.2.2.2.2.2.2.1 = a.2.2.2.2.2.2.2.2.1)∧(a.2.2.2.2.2.2.2.2.2 = a.2.2.2.2.2.2.2.2.2)∧I15 x145∧μ16 x145 < μ16 y17))))))) (Let (IntKind.i64.wrap (y17.2.2.2.2.2 + (1 : Int))) (fun v152 : Int => ∃ x153 : ByteArray × (List (ByteArray)) × Bool × Bool × Bool × Int,SlS e_api_Machine a.1 (SlS e_api_Job a.2.1 ((y17.1 = x153.1)∧SlQ y17.2.1.length x153.2.1.length (gl e_str y17.2.1) (gl e_str x153.2.1) ((y17.2.2.1 = x153.2.2.1)∧(((planV c21).2) = x153.2.2.2.1)∧((textsV c140) = x153.2.2.2.2.1)∧((a.1.length : Int) = (a.1.length : Int))∧(v152 = x153.2.2.2.2.2)∧(a.2.2.1 = a.2.2.1)∧(a.2.2.2.1 = a.2.2.2.1)∧(a.2.2.2.2.1 = a.2.2.2.2.1)∧(a.2.2.2.2.2.1.1 = a.2.2.2.2.2.1.1)∧(a.2.2.2.2.2.1.2.1 = a.2.2.2.2.2.1.2.1)∧(a.2.2.2.2.2.1.2.2 = a.2.2.2.2.2.1.2.2)∧SlS e_api_Label a.2.2.2.2.2.2.1 ((a.2.2.2.2.2.2.2.1 = a.2.2.2.2.2.2.2.1)∧(a.2.2.2.2.2.2.2.2.1 = a.2.2.2.2.2.2.2.2.1)∧(a.2.2.2.2.2.2.2.2.2 = a.2.2.2.2.2.2.2.2.2)∧I15 x153∧μ16 x153 < μ16 y17))))))))) (Br ((planV c21).2) (Br (decide ((((planV c21).1).length : Int) < (y17.2.1.length : Int))) ((false = (lawTrue a))∧True) (Let (IntKind.i64.wrap (y17.2.2.2.2.2 + (1 : Int))) (fun v162 : Int => ∃ x163 : ByteArray × (List (ByteArray)) × Bool × Bool × Bool × Int,SlS e_api_Machine a.1 (SlS e_api_Job a.2.1 ((y17.1 = x163.1)∧SlQ y17.2.1.length x163.2.1.length (gl e_str y17.2.1) (gl e_str x163.2.1) ((y17.2.2.1 = x163.2.2.1)∧(((planV c21).2) = x163.2.2.2.1)∧(false = x163.2.2.2.2.1)∧((a.1.length : Int) = (a.1.length : Int))∧(v162 = x163.2.2.2.2.2)∧(a.2.2.1 = a.2.2.1)∧(a.2.2.2.1 = a.2.2.2.1)∧(a.2.2.2.2.1 = a.2.2.2.2.1)∧(a.2.2.2.2.2.1.1 = a.2.2.2.2.2.1.1)∧(a.2.2.2.2.2.1.2.1 = a.2.2.2.2.2.1.2.1)∧(a.2.2.2.2.2.1.2.2 = a.2.2.2.2.2.1.2.2)∧SlS e_api_Label a.2.2.2.2.2.2.1 ((a.2.2.2.2.2.2.2.1 = a.2.2.2.2.2.2.2.1)∧(a.2.2.2.2.2.2.2.2.1 = a.2.2.2.2.2.2.2.2.1)∧(a.2.2.2.2.2.2.2.2.2 = a.2.2.2.2.2.2.2.2.2)∧I15 x163∧μ16 x163 < μ16 y17))))))) (Let (IntKind.i64.wrap (y17.2.2.2.2.2 + (1 : Int))) (fun v170 : Int => ∃ x171 : ByteArray × (List (ByteArray)) × Bool × Bool × Bool × Int,SlS e_api_Machine a.1 (SlS e_api_Job a.2.1 ((y17.1 = x171.1)∧SlQ y17.2.1.length x171.2.1.length (gl e_str y17.2.1) (gl e_str x171.2.1) ((y17.2.2.1 = x171.2.2.1)∧(((planV c21).2) = x171.2.2.2.1)∧(false = x171.2.2.2.2.1)∧((a.1.length : Int) = (a.1.length : Int))∧(v170 = x171.2.2.2.2.2)∧(a.2.2.1 = a.2.2.1)∧(a.2.2.2.1 = a.2.2.2.1)∧(a.2.2.2.2.1 = a.2.2.2.2.1)∧(a.2.2.2.2.2.1.1 = a.2.2.2.2.2.1.1)∧(a.2.2.2.2.2.1.2.1 = a.2.2.2.2.2.1.2.1)∧(a.2.2.2.2.2.1.2.2 = a.2.2.2.2.2.1.2.2)∧SlS e_api_Label a.2.2.2.2.2.2.1 ((a.2.2.2.2.2.2.2.1 = a.2.2.2.2.2.2.2.1)∧(a.2.2.2.2.2.2.2.2.1 = a.2.2.2.2.2.2.2.2.1)∧(a.2.2.2.2.2.2.2.2.2 = a.2.2.2.2.2.2.2.2.2)∧I15 x171∧μ16 x171 < μ16 y17)))))))) False) (Br ((planV c21).2) (Br (decide ((((planV c21).1).length : Int) < (y17.2.1.length : Int))) ((false = (lawTrue a))∧True) (Let (IntKind.i64.wrap (y17.2.2.2.2.2 + (1 : Int))) (fun v182 : Int => ∃ x183 : ByteArray × (List (ByteArray)) × Bool × Bool × Bool × Int,SlS e_api_Machine a.1 (SlS e_api_Job a.2.1 ((y17.1 = x183.1)∧SlQ y17.2.1.length x183.2.1.length (gl e_str y17.2.1) (gl e_str x183.2.1) ((y17.2.2.1 = x183.2.2.1)∧(((planV c21).2) = x183.2.2.2.1)∧(false = x183.2.2.2.2.1)∧((a.1.length : Int) = (a.1.length : Int))∧(v182 = x183.2.2.2.2.2)∧(a.2.2.1 = a.2.2.1)∧(a.2.2.2.1 = a.2.2.2.1)∧(a.2.2.2.2.1 = a.2.2.2.2.1)∧(a.2.2.2.2.2.1.1 = a.2.2.2.2.2.1.1)∧(a.2.2.2.2.2.1.2.1 = a.2.2.2.2.2.1.2.1)∧(a.2.2.2.2.2.1.2.2 = a.2.2.2.2.2.1.2.2)∧SlS e_api_Label a.2.2.2.2.2.2.1 ((a.2.2.2.2.2.2.2.1 = a.2.2.2.2.2.2.2.1)∧(a.2.2.2.2.2.2.2.2.1 = a.2.2.2.2.2.2.2.2.1)∧(a.2.2.2.2.2.2.2.2.2 = a.2.2.2.2.2.2.2.2.2)∧I15 x183∧μ16 x183 < μ16 y17))))))) (Let (IntKind.i64.wrap (y17.2.2.2.2.2 + (1 : Int))) (fun v190 : Int => ∃ x191 : ByteArray × (List (ByteArray)) × Bool × Bool × Bool × Int,SlS e_api_Machine a.1 (SlS e_api_Job a.2.1 ((y17.1 = x191.1)∧SlQ y17.2.1.length x191.2.1.length (gl e_str y17.2.1) (gl e_str x191.2.1) ((y17.2.2.1 = x191.2.2.1)∧(((planV c21).2) = x191.2.2.2.1)∧(false = x191.2.2.2.2.1)∧((a.1.length : Int) = (a.1.length : Int))∧(v190 = x191.2.2.2.2.2)∧(a.2.2.1 = a.2.2.1)∧(a.2.2.2.1 = a.2.2.2.1)∧(a.2.2.2.2.1 = a.2.2.2.2.1)∧(a.2.2.2.2.2.1.1 = a.2.2.2.2.2.1.1)∧(a.2.2.2.2.2.1.2.1 = a.2.2.2.2.2.1.2.1)∧(a.2.2.2.2.2.1.2.2 = a.2.2.2.2.2.1.2.2)∧SlS e_api_Label a.2.2.2.2.2.2.1 ((a.2.2.2.2.2.2.2.1 = a.2.2.2.2.2.2.2.1)∧(a.2.2.2.2.2.2.2.2.1 = a.2.2.2.2.2.2.2.2.1)∧(a.2.2.2.2.2.2.2.2.2 = a.2.2.2.2.2.2.2.2.2)∧I15 x191∧μ16 x191 < μ16 y17))))))))))))) False) (Br (y17.2.2.2.1 == y17.2.2.1) (Br (y17.2.2.2.2.1 == y17.2.2.1) (Br y17.2.2.1 ((true = (lawTrue a))∧True) (Br (y17.1.toList == ByteArray.empty.toList) ((((y17.2.1.length : Int) == (0 : Int)) = (lawTrue a))∧True) ((false = (lawTrue a))∧True))) ((false = (lawTrue a))∧True)) ((false = (lawTrue a))∧True)))))))))))
def f377.vc (a : (List (T_api_Machine)) × (List (T_api_Job)) × T_api_Task) : Prop := ((¬ ((lawTrue ()) = true)→((lawTrue ()) = lawTrue a))∧(¬ (¬ ((lawTrue ()) = true))→(few13_pre (a.1,a.2.1,a.2.2)∧((¬ ((few13 (a.1,a.2.1,a.2.2)) = true)→((lawTrue ()) = lawTrue a))∧(¬ (¬ ((few13 (a.1,a.2.1,a.2.2)) = true))→(choose_pre (a.1,a.2.1,a.2.2)∧(∃ (I15 : (ByteArray × (List (ByteArray)) × Bool × Bool × Bool × Int)→Prop) (μ16 : (ByteArray × (List (ByteArray)) × Bool × Bool × Bool × Int)→Nat),I15 ((chooseV (a.1,a.2.1,a.2.2)).1,(chooseV (a.1,a.2.1,a.2.2)).2.1,(chooseV (a.1,a.2.1,a.2.2)).2.2,false,false,(0 : Int))∧∀ y17 : ByteArray × (List (ByteArray)) × Bool × Bool × Bool × Int,I15 y17→((y17.2.2.2.2.2 < (a.1.length : Int)→((0 : Int)≤y17.2.2.2.2.2∧y17.2.2.2.2.2 < (a.1.length : Int)∧(why_pre ((((at_ a.1 y17.2.2.2.2.2).1),(at_ a.1 y17.2.2.2.2.2).2.1,(at_ a.1 y17.2.2.2.2.2).2.2),a.2.1,a.2.2)∧((y17.2.2.2.1 = true→((y17.2.2.2.2.1 = true→((((planV ((((at_ a.1 y17.2.2.2.2.2).1),(at_ a.1 y17.2.2.2.2.2).2.1,(at_ a.1 y17.2.2.2.2.2).2.2),a.2.1,a.2.2)).2) = true→(((((planV ((((at_ a.1 y17.2.2.2.2.2).1),(at_ a.1 y17.2.2.2.2.2).2.1,(at_ a.1 y17.2.2.2.2.2).2.2),a.2.1,a.2.2)).1).length : Int) < (y17.2.1.length : Int)→(false = lawTrue a))∧(¬ ((((planV ((((at_ a.1 y17.2.2.2.2.2).1),(at_ a.1 y17.2.2.2.2.2).2.1,(at_ a.1 y17.2.2.2.2.2).2.2),a.2.1,a.2.2)).1).length : Int) < (y17.2.1.length : Int))→(-9223372036854775808≤(y17.2.2.2.2.2 + (1 : Int))∧(y17.2.2.2.2.2 + (1 : Int))≤9223372036854775807∧(I15 (y17.1,y17.2.1,y17.2.2.1,true,true,(y17.2.2.2.2.2 + (1 : Int)))∧μ16 (y17.1,y17.2.1,y17.2.2.1,true,true,(y17.2.2.2.2.2 + (1 : Int))) < μ16 y17)))))∧(¬ (((planV ((((at_ a.1 y17.2.2.2.2.2).1),(at_ a.1 y17.2.2.2.2.2).2.1,(at_ a.1 y17.2.2.2.2.2).2.2),a.2.1,a.2.2)).2) = true)→(-9223372036854775808≤(y17.2.2.2.2.2 + (1 : Int))∧(y17.2.2.2.2.2 + (1 : Int))≤9223372036854775807∧(I15 (y17.1,y17.2.1,y17.2.2.1,true,true,(y17.2.2.2.2.2 + (1 : Int)))∧μ16 (y17.1,y17.2.1,y17.2.2.1,true,true,(y17.2.2.2.2.2 + (1 : Int))) < μ16 y17)))))∧(¬ (y17.2.2.2.2.1 = true)→((((planV ((((at_ a.1 y17.2.2.2.2.2).1),(at_ a.1 y17.2.2.2.2.2).2.1,(at_ a.1 y17.2.2.2.2.2).2.2),a.2.1,a.2.2)).2) = true→((0 : Int)≤y17.2.2.2.2.2∧y17.2.2.2.2.2 < (a.1.length : Int)∧(((((at_ a.1 y17.2.2.2.2.2).1).1) = y17.1→(texts_pre ((planV ((((at_ a.1 y17.2.2.2.2.2).1),(at_ a.1 y17.2.2.2.2.2).2.1,(at_ a.1 y17.2.2.2.2.2).2.2),a.2.1,a.2.2)).1,y17.2.1)∧(((((planV ((((at_ a.1 y17.2.2.2.2.2).1),(at_ a.1 y17.2.2.2.2.2).2.1,(at_ a.1 y17.2.2.2.2.2).2.2),a.2.1,a.2.2)).1).length : Int) < (y17.2.1.length : Int)→(false = lawTrue a))∧(¬ ((((planV ((((at_ a.1 y17.2.2.2.2.2).1),(at_ a.1 y17.2.2.2.2.2).2.1,(at_ a.1 y17.2.2.2.2.2).2.2),a.2.1,a.2.2)).1).length : Int) < (y17.2.1.length : Int))→(-9223372036854775808≤(y17.2.2.2.2.2 + (1 : Int))∧(y17.2.2.2.2.2 + (1 : Int))≤9223372036854775807∧(I15 (y17.1,y17.2.1,y17.2.2.1,true,(textsV ((planV ((((at_ a.1 y17.2.2.2.2.2).1),(at_ a.1 y17.2.2.2.2.2).2.1,(at_ a.1 y17.2.2.2.2.2).2.2),a.2.1,a.2.2)).1,y17.2.1)),(y17.2.2.2.2.2 + (1 : Int)))∧μ16 (y17.1,y17.2.1,y17.2.2.1,true,(textsV ((planV ((((at_ a.1 y17.2.2.2.2.2).1),(at_ a.1 y17.2.2.2.2.2).2.1,(at_ a.1 y17.2.2.2.2.2).2.2),a.2.1,a.2.2)).1,y17.2.1)),(y17.2.2.2.2.2 + (1 : Int))) < μ16 y17))))))∧(¬ ((((at_ a.1 y17.2.2.2.2.2).1).1) = y17.1)→(((((planV ((((at_ a.1 y17.2.2.2.2.2).1),(at_ a.1 y17.2.2.2.2.2).2.1,(at_ a.1 y17.2.2.2.2.2).2.2),a.2.1,a.2.2)).1).length : Int) < (y17.2.1.length : Int)→(false = lawTrue a))∧(¬ ((((planV ((((at_ a.1 y17.2.2.2.2.2).1),(at_ a.1 y17.2.2.2.2.2).2.1,(at_ a.1 y17.2.2.2.2.2).2.2),a.2.1,a.2.2)).1).length : Int) < (y17.2.1.length : Int))→(-9223372036854775808≤(y17.2.2.2.2.2 + (1 : Int))∧(y17.2.2.2.2.2 + (1 : Int))≤9223372036854775807∧(I15 (y17.1,y17.2.1,y17.2.2.1,true,false,(y17.2.2.2.2.2 + (1 : Int)))∧μ16 (y17.1,y17.2.1,y17.2.2.1,true,false,(y17.2.2.2.2.2 + (1 : Int))) < μ16 y17))))))))∧(¬ (((planV ((((at_ a.1 y17.2.2.2.2.2).1),(at_ a.1 y17.2.2.2.2.2).2.1,(at_ a.1 y17.2.2.2.2.2).2.2),a.2.1,a.2.2)).2) = true)→(-9223372036854775808≤(y17.2.2.2.2.2 + (1 : Int))∧(y17.2.2.2.2.2 + (1 : Int))≤9223372036854775807∧(I15 (y17.1,y17.2.1,y17.2.2.1,true,false,(y17.2.2.2.2.2 + (1 : Int)))∧μ16 (y17.1,y17.2.1,y17.2.2.1,true,false,(y17.2.2.2.2.2 + (1 : Int))) < μ16 y17)))))))∧(¬ (y17.2.2.2.1 = true)→((y17.2.2.2.2.1 = true→((((planV ((((at_ a.1 y17.2.2.2.2.2).1),(at_ a.1 y17.2.2.2.2.2).2.1,(at_ a.1 y17.2.2.2.2.2).2.2),a.2.1,a.2.2)).2) = true→(((((planV ((((at_ a.1 y17.2.2.2.2.2).1),(at_ a.1 y17.2.2.2.2.2).2.1,(at_ a.1 y17.2.2.2.2.2).2.2),a.2.1,a.2.2)).1).length : Int) < (y17.2.1.length : Int)→(false = lawTrue a))∧(¬ ((((planV ((((at_ a.1 y17.2.2.2.2.2).1),(at_ a.1 y17.2.2.2.2.2).2.1,(at_ a.1 y17.2.2.2.2.2).2.2),a.2.1,a.2.2)).1).length : Int) < (y17.2.1.length : Int))→(-9223372036854775808≤(y17.2.2.2.2.2 + (1 : Int))∧(y17.2.2.2.2.2 + (1 : Int))≤9223372036854775807∧(I15 (y17.1,y17.2.1,y17.2.2.1,(planV ((((at_ a.1 y17.2.2.2.2.2).1),(at_ a.1 y17.2.2.2.2.2).2.1,(at_ a.1 y17.2.2.2.2.2).2.2),a.2.1,a.2.2)).2,true,(y17.2.2.2.2.2 + (1 : Int)))∧μ16 (y17.1,y17.2.1,y17.2.2.1,(planV ((((at_ a.1 y17.2.2.2.2.2).1),(at_ a.1 y17.2.2.2.2.2).2.1,(at_ a.1 y17.2.2.2.2.2).2.2),a.2.1,a.2.2)).2,true,(y17.2.2.2.2.2 + (1 : Int))) < μ16 y17)))))∧(¬ (((planV ((((at_ a.1 y17.2.2.2.2.2).1),(at_ a.1 y17.2.2.2.2.2).2.1,(at_ a.1 y17.2.2.2.2.2).2.2),a.2.1,a.2.2)).2) = true)→(-9223372036854775808≤(y17.2.2.2.2.2 + (1 : Int))∧(y17.2.2.2.2.2 + (1 : Int))≤9223372036854775807∧(I15 (y17.1,y17.2.1,y17.2.2.1,(planV ((((at_ a.1 y17.2.2.2.2.2).1),(at_ a.1 y17.2.2.2.2.2).2.1,(at_ a.1 y17.2.2.2.2.2).2.2),a.2.1,a.2.2)).2,true,(y17.2.2.2.2.2 + (1 : Int)))∧μ16 (y17.1,y17.2.1,y17.2.2.1,(planV ((((at_ a.1 y17.2.2.2.2.2).1),(at_ a.1 y17.2.2.2.2.2).2.1,(at_ a.1 y17.2.2.2.2.2).2.2),a.2.1,a.2.2)).2,true,(y17.2.2.2.2.2 + (1 : Int))) < μ16 y17)))))∧(¬ (y17.2.2.2.2.1 = true)→((((planV ((((at_ a.1 y17.2.2.2.2.2).1),(at_ a.1 y17.2.2.2.2.2).2.1,(at_ a.1 y17.2.2.2.2.2).2.2),a.2.1,a.2.2)).2) = true→((0 : Int)≤y17.2.2.2.2.2∧y17.2.2.2.2.2 < (a.1.length : Int)∧(((((at_ a.1 y17.2.2.2.2.2).1).1) = y17.1→(texts_pre ((planV ((((at_ a.1 y17.2.2.2.2.2).1),(at_ a.1 y17.2.2.2.2.2).2.1,(at_ a.1 y17.2.2.2.2.2).2.2),a.2.1,a.2.2)).1,y17.2.1)∧(((((planV ((((at_ a.1 y17.2.2.2.2.2).1),(at_ a.1 y17.2.2.2.2.2).2.1,(at_ a.1 y17.2.2.2.2.2).2.2),a.2.1,a.2.2)).1).length : Int) < (y17.2.1.length : Int)→(false = lawTrue a))∧(¬ ((((planV ((((at_ a.1 y17.2.2.2.2.2).1),(at_ a.1 y17.2.2.2.2.2).2.1,(at_ a.1 y17.2.2.2.2.2).2.2),a.2.1,a.2.2)).1).length : Int) < (y17.2.1.length : Int))→(-9223372036854775808≤(y17.2.2.2.2.2 + (1 : Int))∧(y17.2.2.2.2.2 + (1 : Int))≤9223372036854775807∧(I15 (y17.1,y17.2.1,y17.2.2.1,(planV ((((at_ a.1 y17.2.2.2.2.2).1),(at_ a.1 y17.2.2.2.2.2).2.1,(at_ a.1 y17.2.2.2.2.2).2.2),a.2.1,a.2.2)).2,(textsV ((planV ((((at_ a.1 y17.2.2.2.2.2).1),(at_ a.1 y17.2.2.2.2.2).2.1,(at_ a.1 y17.2.2.2.2.2).2.2),a.2.1,a.2.2)).1,y17.2.1)),(y17.2.2.2.2.2 + (1 : Int)))∧μ16 (y17.1,y17.2.1,y17.2.2.1,(planV ((((at_ a.1 y17.2.2.2.2.2).1),(at_ a.1 y17.2.2.2.2.2).2.1,(at_ a.1 y17.2.2.2.2.2).2.2),a.2.1,a.2.2)).2,(textsV ((planV ((((at_ a.1 y17.2.2.2.2.2).1),(at_ a.1 y17.2.2.2.2.2).2.1,(at_ a.1 y17.2.2.2.2.2).2.2),a.2.1,a.2.2)).1,y17.2.1)),(y17.2.2.2.2.2 + (1 : Int))) < μ16 y17))))))∧(¬ ((((at_ a.1 y17.2.2.2.2.2).1).1) = y17.1)→(((((planV ((((at_ a.1 y17.2.2.2.2.2).1),(at_ a.1 y17.2.2.2.2.2).2.1,(at_ a.1 y17.2.2.2.2.2).2.2),a.2.1,a.2.2)).1).length : Int) < (y17.2.1.length : Int)→(false = lawTrue a))∧(¬ ((((planV ((((at_ a.1 y17.2.2.2.2.2).1),(at_ a.1 y17.2.2.2.2.2).2.1,(at_ a.1 y17.2.2.2.2.2).2.2),a.2.1,a.2.2)).1).length : Int) < (y17.2.1.length : Int))→(-9223372036854775808≤(y17.2.2.2.2.2 + (1 : Int))∧(y17.2.2.2.2.2 + (1 : Int))≤9223372036854775807∧(I15 (y17.1,y17.2.1,y17.2.2.1,(planV ((((at_ a.1 y17.2.2.2.2.2).1),(at_ a.1 y17.2.2.2.2.2).2.1,(at_ a.1 y17.2.2.2.2.2).2.2),a.2.1,a.2.2)).2,false,(y17.2.2.2.2.2 + (1 : Int)))∧μ16 (y17.1,y17.2.1,y17.2.2.1,(planV ((((at_ a.1 y17.2.2.2.2.2).1),(at_ a.1 y17.2.2.2.2.2).2.1,(at_ a.1 y17.2.2.2.2.2).2.2),a.2.1,a.2.2)).2,false,(y17.2.2.2.2.2 + (1 : Int))) < μ16 y17))))))))∧(¬ (((planV ((((at_ a.1 y17.2.2.2.2.2).1),(at_ a.1 y17.2.2.2.2.2).2.1,(at_ a.1 y17.2.2.2.2.2).2.2),a.2.1,a.2.2)).2) = true)→(-9223372036854775808≤(y17.2.2.2.2.2 + (1 : Int))∧(y17.2.2.2.2.2 + (1 : Int))≤9223372036854775807∧(I15 (y17.1,y17.2.1,y17.2.2.1,(planV ((((at_ a.1 y17.2.2.2.2.2).1),(at_ a.1 y17.2.2.2.2.2).2.1,(at_ a.1 y17.2.2.2.2.2).2.2),a.2.1,a.2.2)).2,false,(y17.2.2.2.2.2 + (1 : Int)))∧μ16 (y17.1,y17.2.1,y17.2.2.1,(planV ((((at_ a.1 y17.2.2.2.2.2).1),(at_ a.1 y17.2.2.2.2.2).2.1,(at_ a.1 y17.2.2.2.2.2).2.2),a.2.1,a.2.2)).2,false,(y17.2.2.2.2.2 + (1 : Int))) < μ16 y17)))))))))))∧(¬ (y17.2.2.2.2.2 < (a.1.length : Int))→(((y17.2.2.2.1 == y17.2.2.1) = true→(((y17.2.2.2.2.1 == y17.2.2.1) = true→((y17.2.2.1 = true→(true = lawTrue a))∧(¬ (y17.2.2.1 = true)→((y17.1 = ByteArray.empty→(((y17.2.1.length : Int) == (0 : Int)) = lawTrue a))∧(¬ (y17.1 = ByteArray.empty)→(false = lawTrue a))))))∧(¬ ((y17.2.2.2.2.1 == y17.2.2.1) = true)→(false = lawTrue a))))∧(¬ ((y17.2.2.2.1 == y17.2.2.1) = true)→(false = lawTrue a))))))))))))
set_option maxRecDepth 100000 in
set_option maxHeartbeats 2000000 in
theorem f377.of (a : (List (T_api_Machine)) × (List (T_api_Job)) × T_api_Task) (h : f377.vc a) : f377.tree a := ⟨(),⟨trivial,br h (Cnd.not Cnd.b) (fun h2 k234 => ⟨(),⟨trivial,⟨k234,trivial⟩⟩⟩) (fun h3 k235 => ⟨(a.1,a.2.1,a.2.2),slQ (Rds.self (enc := e_api_Machine)) (slQ (Rds.self (enc := e_api_Job)) (⟨rfl,⟨rfl,⟨rfl,⟨rfl,⟨rfl,⟨rfl,slQ (Rds.self (enc := e_api_Label)) (⟨rfl,⟨rfl,⟨rfl,⟨k235.1,br k235.2 (Cnd.not Cnd.b) (fun h8 k231 => ⟨(),⟨trivial,⟨k231,trivial⟩⟩⟩) (fun h9 k232 => ⟨(a.1,a.2.1,a.2.2),slQ (Rds.self (enc := e_api_Machine)) (slQ (Rds.self (enc := e_api_Job)) (⟨rfl,⟨rfl,⟨rfl,⟨rfl,⟨rfl,⟨rfl,slQ (Rds.self (enc := e_api_Label)) (⟨rfl,⟨rfl,⟨rfl,⟨k232.1,Exists.elim k232.2 (fun I15 h227_ => Exists.elim h227_ (fun μ16 h227 => ⟨I15,μ16,⟨((chooseV (a.1,a.2.1,a.2.2)).1,(chooseV (a.1,a.2.1,a.2.2)).2.1,(chooseV (a.1,a.2.1,a.2.2)).2.2,false,false,(0 : Int)),SlS.mk  (SlS.mk  (⟨rfl,slQ (Rds.self (enc := e_str)) (⟨rfl,⟨rfl,⟨rfl,⟨rfl,⟨rfl,⟨rfl,⟨rfl,⟨rfl,⟨rfl,⟨rfl,⟨rfl,SlS.mk  (⟨rfl,⟨rfl,⟨rfl,h227.1⟩⟩⟩)⟩⟩⟩⟩⟩⟩⟩⟩⟩⟩⟩)⟩))⟩,fun y17 h229 => br (h227.2 y17 h229) Cnd.dec (fun h18 k225 => chk k225.2.2 Cnd.ix ⟨k225.1,k225.2.1⟩ (fun h20 k203 => ⟨((((at_ a.1 y17.2.2.2.2.2).1),(at_ a.1 y17.2.2.2.2.2).2.1,(at_ a.1 y17.2.2.2.2.2).2.2),a.2.1,a.2.2),⟨rfl,⟨rfl,⟨rfl,⟨rfl,slQ (Rds.self (enc := e_api_Label)) (⟨rfl,⟨rfl,slQ (Rds.self (enc := e_api_Job)) (⟨rfl,⟨rfl,⟨rfl,⟨rfl,⟨rfl,⟨rfl,slQ (Rds.self (enc := e_api_Label)) (⟨rfl,⟨rfl,⟨rfl,⟨k203.1,br k203.2 Cnd.b (fun h22 k200 => br k200 Cnd.b (fun h24 k110 => br k110 Cnd.b (fun h26 k45 => br k45 Cnd.dec (fun h28 k37 => ⟨k37,trivial⟩) (fun h29 k38 => wrapK.i64 k38 (fun h34 h35 k36 => ⟨(y17.1,y17.2.1,y17.2.2.1,true,true,(y17.2.2.2.2.2 + (1 : Int))),SlS.mk  (SlS.mk  (⟨rfl,slQ (Rds.self (enc := e_str)) (⟨rfl,⟨rfl,⟨rfl,⟨rfl,⟨rfl,⟨rfl,⟨rfl,⟨rfl,⟨rfl,⟨rfl,⟨rfl,SlS.mk  (⟨rfl,⟨rfl,⟨rfl,k36⟩⟩⟩)⟩⟩⟩⟩⟩⟩⟩⟩⟩⟩⟩)⟩))⟩))) (fun h27 k46 => wrapK.i64 k46 (fun h42 h43 k44 => ⟨(y17.1,y17.2.1,y17.2.2.1,true,true,(y17.2.2.2.2.2 + (1 : Int))),SlS.mk  (SlS.mk  (⟨rfl,slQ (Rds.self (enc := e_str)) (⟨rfl,⟨rfl,⟨rfl,⟨rfl,⟨rfl,⟨rfl,⟨rfl,⟨rfl,⟨rfl,⟨rfl,⟨rfl,SlS.mk  (⟨rfl,⟨rfl,⟨rfl,k44⟩⟩⟩)⟩⟩⟩⟩⟩⟩⟩⟩⟩⟩⟩)⟩))⟩))) (fun h25 k111 => br k111 Cnd.b (fun h47 k108 => chk k108.2.2 Cnd.ix ⟨k108.1,k108.2.1⟩ (fun h49 k90 => br k90 Cnd.seq (fun h50 k88 => ⟨((planV ((((at_ a.1 y17.2.2.2.2.2).1),(at_ a.1 y17.2.2.2.2.2).2.1,(at_ a.1 y17.2.2.2.2.2).2.2),a.2.1,a.2.2)).1,y17.2.1),slQ (Rds.self (enc := e_str)) (slQ (Rds.self (enc := e_str)) (⟨k88.1,brT Cnd.b h47 (br k88.2 Cnd.dec (fun h53 k62 => ⟨k62,trivial⟩) (fun h54 k63 => wrapK.i64 k63 (fun h59 h60 k61 => ⟨(y17.1,y17.2.1,y17.2.2.1,true,(textsV ((planV ((((at_ a.1 y17.2.2.2.2.2).1),(at_ a.1 y17.2.2.2.2.2).2.1,(at_ a.1 y17.2.2.2.2.2).2.2),a.2.1,a.2.2)).1,y17.2.1)),(y17.2.2.2.2.2 + (1 : Int))),SlS.mk  (SlS.mk  (⟨rfl,slQ (Rds.self (enc := e_str)) (⟨rfl,⟨rfl,⟨rfl,⟨rfl,⟨rfl,⟨rfl,⟨rfl,⟨rfl,⟨rfl,⟨rfl,⟨rfl,SlS.mk  (⟨rfl,⟨rfl,⟨rfl,k61⟩⟩⟩)⟩⟩⟩⟩⟩⟩⟩⟩⟩⟩⟩)⟩))⟩)))⟩))⟩) (fun h51 k89 => brT Cnd.b h47 (br k89 Cnd.dec (fun h71 k80 => ⟨k80,trivial⟩) (fun h72 k81 => wrapK.i64 k81 (fun h77 h78 k79 => ⟨(y17.1,y17.2.1,y17.2.2.1,true,false,(y17.2.2.2.2.2 + (1 : Int))),SlS.mk  (SlS.mk  (⟨rfl,slQ (Rds.self (enc := e_str)) (⟨rfl,⟨rfl,⟨rfl,⟨rfl,⟨rfl,⟨rfl,⟨rfl,⟨rfl,⟨rfl,⟨rfl,⟨rfl,SlS.mk  (⟨rfl,⟨rfl,⟨rfl,k79⟩⟩⟩)⟩⟩⟩⟩⟩⟩⟩⟩⟩⟩⟩)⟩))⟩)))))) (fun h48 k109 => brF Cnd.b h48 (wrapK.i64 k109 (fun h105 h106 k107 => ⟨(y17.1,y17.2.1,y17.2.2.1,true,false,(y17.2.2.2.2.2 + (1 : Int))),SlS.mk  (SlS.mk  (⟨rfl,slQ (Rds.self (enc := e_str)) (⟨rfl,⟨rfl,⟨rfl,⟨rfl,⟨rfl,⟨rfl,⟨rfl,⟨rfl,⟨rfl,⟨rfl,⟨rfl,SlS.mk  (⟨rfl,⟨rfl,⟨rfl,k107⟩⟩⟩)⟩⟩⟩⟩⟩⟩⟩⟩⟩⟩⟩)⟩))⟩))))) (fun h23 k201 => br k201 Cnd.b (fun h112 k198 => br k198 Cnd.b (fun h114 k133 => br k133 Cnd.dec (fun h116 k125 => ⟨k125,trivial⟩) (fun h117 k126 => wrapK.i64 k126 (fun h122 h123 k124 => ⟨(y17.1,y17.2.1,y17.2.2.1,(planV ((((at_ a.1 y17.2.2.2.2.2).1),(at_ a.1 y17.2.2.2.2.2).2.1,(at_ a.1 y17.2.2.2.2.2).2.2),a.2.1,a.2.2)).2,true,(y17.2.2.2.2.2 + (1 : Int))),SlS.mk  (SlS.mk  (⟨rfl,slQ (Rds.self (enc := e_str)) (⟨rfl,⟨rfl,⟨rfl,⟨rfl,⟨rfl,⟨rfl,⟨rfl,⟨rfl,⟨rfl,⟨rfl,⟨rfl,SlS.mk  (⟨rfl,⟨rfl,⟨rfl,k124⟩⟩⟩)⟩⟩⟩⟩⟩⟩⟩⟩⟩⟩⟩)⟩))⟩))) (fun h115 k134 => wrapK.i64 k134 (fun h130 h131 k132 => ⟨(y17.1,y17.2.1,y17.2.2.1,(planV ((((at_ a.1 y17.2.2.2.2.2).1),(at_ a.1 y17.2.2.2.2.2).2.1,(at_ a.1 y17.2.2.2.2.2).2.2),a.2.1,a.2.2)).2,true,(y17.2.2.2.2.2 + (1 : Int))),SlS.mk  (SlS.mk  (⟨rfl,slQ (Rds.self (enc := e_str)) (⟨rfl,⟨rfl,⟨rfl,⟨rfl,⟨rfl,⟨rfl,⟨rfl,⟨rfl,⟨rfl,⟨rfl,⟨rfl,SlS.mk  (⟨rfl,⟨rfl,⟨rfl,k132⟩⟩⟩)⟩⟩⟩⟩⟩⟩⟩⟩⟩⟩⟩)⟩))⟩))) (fun h113 k199 => br k199 Cnd.b (fun h135 k196 => chk k196.2.2 Cnd.ix ⟨k196.1,k196.2.1⟩ (fun h137 k178 => br k178 Cnd.seq (fun h138 k176 => ⟨((planV ((((at_ a.1 y17.2.2.2.2.2).1),(at_ a.1 y17.2.2.2.2.2).2.1,(at_ a.1 y17.2.2.2.2.2).2.2),a.2.1,a.2.2)).1,y17.2.1),slQ (Rds.self (enc := e_str)) (slQ (Rds.self (enc := e_str)) (⟨k176.1,brT Cnd.b h135 (br k176.2 Cnd.dec (fun h141 k150 => ⟨k150,trivial⟩) (fun h142 k151 => wrapK.i64 k151 (fun h147 h148 k149 => ⟨(y17.1,y17.2.1,y17.2.2.1,(planV ((((at_ a.1 y17.2.2.2.2.2).1),(at_ a.1 y17.2.2.2.2.2).2.1,(at_ a.1 y17.2.2.2.2.2).2.2),a.2.1,a.2.2)).2,(textsV ((planV ((((at_ a.1 y17.2.2.2.2.2).1),(at_ a.1 y17.2.2.2.2.2).2.1,(at_ a.1 y17.2.2.2.2.2).2.2),a.2.1,a.2.2)).1,y17.2.1)),(y17.2.2.2.2.2 + (1 : Int))),SlS.mk  (SlS.mk  (⟨rfl,slQ (Rds.self (enc := e_str)) (⟨rfl,⟨rfl,⟨rfl,⟨rfl,⟨rfl,⟨rfl,⟨rfl,⟨rfl,⟨rfl,⟨rfl,⟨rfl,SlS.mk  (⟨rfl,⟨rfl,⟨rfl,k149⟩⟩⟩)⟩⟩⟩⟩⟩⟩⟩⟩⟩⟩⟩)⟩))⟩)))⟩))⟩) (fun h139 k177 => brT Cnd.b h135 (br k177 Cnd.dec (fun h159 k168 => ⟨k168,trivial⟩) (fun h160 k169 => wrapK.i64 k169 (fun h165 h166 k167 => ⟨(y17.1,y17.2.1,y17.2.2.1,(planV ((((at_ a.1 y17.2.2.2.2.2).1),(at_ a.1 y17.2.2.2.2.2).2.1,(at_ a.1 y17.2.2.2.2.2).2.2),a.2.1,a.2.2)).2,false,(y17.2.2.2.2.2 + (1 : Int))),SlS.mk  (SlS.mk  (⟨rfl,slQ (Rds.self (enc := e_str)) (⟨rfl,⟨rfl,⟨rfl,⟨rfl,⟨rfl,⟨rfl,⟨rfl,⟨rfl,⟨rfl,⟨rfl,⟨rfl,SlS.mk  (⟨rfl,⟨rfl,⟨rfl,k167⟩⟩⟩)⟩⟩⟩⟩⟩⟩⟩⟩⟩⟩⟩)⟩))⟩)))))) (fun h136 k197 => brF Cnd.b h136 (wrapK.i64 k197 (fun h193 h194 k195 => ⟨(y17.1,y17.2.1,y17.2.2.1,(planV ((((at_ a.1 y17.2.2.2.2.2).1),(at_ a.1 y17.2.2.2.2.2).2.1,(at_ a.1 y17.2.2.2.2.2).2.2),a.2.1,a.2.2)).2,false,(y17.2.2.2.2.2 + (1 : Int))),SlS.mk  (SlS.mk  (⟨rfl,slQ (Rds.self (enc := e_str)) (⟨rfl,⟨rfl,⟨rfl,⟨rfl,⟨rfl,⟨rfl,⟨rfl,⟨rfl,⟨rfl,⟨rfl,⟨rfl,SlS.mk  (⟨rfl,⟨rfl,⟨rfl,k195⟩⟩⟩)⟩⟩⟩⟩⟩⟩⟩⟩⟩⟩⟩)⟩))⟩)))))⟩⟩⟩⟩)⟩⟩⟩⟩⟩⟩)⟩⟩)⟩⟩⟩⟩⟩)) (fun h19 k226 => br k226 Cnd.b (fun h204 k223 => br k223 Cnd.b (fun h206 k220 => br k220 Cnd.b (fun h208 k217 => ⟨k217,trivial⟩) (fun h209 k218 => br k218 Cnd.seq (fun h211 k215 => ⟨k215,trivial⟩) (fun h212 k216 => ⟨k216,trivial⟩))) (fun h207 k221 => ⟨k221,trivial⟩)) (fun h205 k224 => ⟨k224,trivial⟩))⟩))⟩⟩⟩⟩)⟩⟩⟩⟩⟩⟩))⟩)⟩⟩⟩⟩)⟩⟩⟩⟩⟩⟩))⟩)⟩⟩
theorem f377.eq (a : (List (T_api_Machine)) × (List (T_api_Job)) × T_api_Task) : (f377.af a).gives f377.env (f377.args a) (f377.blks a) (f377.res a) (f377.blks' a) = f377.tree a := by kernel_rfl
end Go.Abs

-- interregnum/interregnumlaw13.VictimOrder
namespace Go.Abs
open Go
end Go.Abs

/- interregnum/interregnumlaw13.VictimOrder -/
namespace Go.Abs
open Go
set_option linter.unusedVariables false
end Go.Abs

/- The laws of the machine from which jobs go. -/
namespace Go.Abs
open Go

theorem machs_pre {l : List TMach} {jobs : List TJob} {t : TTask} (hs : k_sl_api_Machine.size l + (k_sl_api_Job.size jobs + k_api_Task.size t) ≤ 1048576) : choose_pre (l,jobs,t) ∧ few13_pre (l,jobs,t) := by
  have h2 : (l.map k_api_Machine.size).sum + 1 = k_sl_api_Machine.size l := rfl
  have h3 := sum_len k_api_Machine.size (fun x => Nat.le_add_left 1 _) l
  have hj := jobs_of_size (l := jobs) (by omega)
  have ht := task_of_size (t := t) (by omega)
  have hw := wants_of_size (t := t) (by omega)
  have hl : L20 l := by unfold L20; omega
  have hm : ∀ m ∈ l,node_pre m.1 ∧ L20 m.1.2.2 := fun m hm => mach_of_size (by
    have h1 : k_api_Machine.size m ≤ (l.map k_api_Machine.size).sum := sum_mem _ hm
    omega)
  exact ⟨⟨hl,fun m hx => ⟨hj,(hm m hx).1,ht,(hm m hx).2,hw⟩⟩,hl,hj,hw,fun m hx => ⟨(hm m hx).1.1,(hm m hx).2⟩⟩

theorem choose_small {a : List TMach × List TJob × TTask} (h : L20 a.2.1) : L20 (chooseV a).2.1 := by
  by_cases hn : offersV a = []
  · unfold chooseV
    rw [hn]
    exact Nat.zero_le _
  · rw [choose_eq hn]
    unfold L20 namesV
    simp only [List.length_map]
    exact offers_small h _ (f227.ok.minV_mem hn)

theorem plan_small {m : TMach} {jobs : List TJob} {t : TTask} (h : L20 jobs) : L20 (planV (m,jobs,t)).1 := by
  unfold L20 planV namesV
  simp only [List.length_map]
  exact Nat.le_trans (gone_len _) h

theorem texts_refl (l : List ByteArray) : textsV (l,l) = true := decide_eq_true rfl

def ltO (x y : TOffer) : Prop := (x.2.length : Int) < y.2.length ∨ ((x.2.length : Int) = y.2.length ∧ (topV x < topV y ∨ (topV x = topV y ∧ sLt x.1 y.1)))

theorem ltO.trans {x y z : TOffer} (h1 : ltO x y) (h2 : ltO y z) : ltO x z := by
  unfold ltO at *
  rcases h1 with h1 | ⟨e1,h1 | ⟨f1,h1⟩⟩ <;> rcases h2 with h2 | ⟨e2,h2 | ⟨f2,h2⟩⟩
  · exact .inl (by omega)
  · exact .inl (by omega)
  · exact .inl (by omega)
  · exact .inl (by omega)
  · exact .inr ⟨by omega,.inl (by omega)⟩
  · exact .inr ⟨by omega,.inl (by omega)⟩
  · exact .inl (by omega)
  · exact .inr ⟨by omega,.inl (by omega)⟩
  · exact .inr ⟨by omega,.inr ⟨by omega,less_trans h1 h2⟩⟩

theorem ltO.irr (x : TOffer) : ¬ ltO x x := by
  unfold ltO
  rintro (h | ⟨_,h | ⟨_,h⟩⟩)
  · omega
  · omega
  · have := less_irrefl x.1.toList
    unfold sLt at h
    rw [this] at h
    cases h

theorem ltO.tri {x y : TOffer} (h1 : ¬ ltO x y) (h2 : ¬ ltO y x) : x.1 = y.1 := by
  unfold ltO at *
  have e1 : (x.2.length : Int) = y.2.length := by
    rcases Int.lt_trichotomy (x.2.length : Int) y.2.length with h | h | h
    · exact absurd (.inl h) h1
    · exact h
    · exact absurd (.inl h) h2
  have e2 : topV x = topV y := by
    rcases Int.lt_trichotomy (topV x) (topV y) with h | h | h
    · exact absurd (.inr ⟨e1,.inl h⟩) h1
    · exact h
    · exact absurd (.inr ⟨e1.symm,.inl h⟩) h2
  rcases less_tri x.1.toList y.1.toList with h | h | h
  · exact absurd (.inr ⟨e1,.inr ⟨e2,h⟩⟩) h1
  · exact toList_inj.1 h
  · exact absurd (.inr ⟨e1.symm,.inr ⟨e2.symm,h⟩⟩) h2

theorem minFrom_least : ∀ (l : List TOffer) (m : TOffer),∀ o ∈ m :: l,¬ ltO o (minFrom m l)
  | [],m,o,h => by
    rw [List.mem_singleton.1 h]
    exact ltO.irr _
  | x :: l,m,o,h => by
    rw [minFrom]
    have ih := minFrom_least l (if cmpOff (x,m) < 0 then x else m)
    by_cases c : cmpOff (x,m) < 0
    · rw [if_pos c] at ih ⊢
      rcases List.mem_cons.1 h with h | h
      · subst h
        exact fun hh => ih x (List.mem_cons_self ..) (ltO.trans ((cmpOff_iff x o).1 c) hh)
      · exact ih o h
    · rw [if_neg c] at ih ⊢
      rcases List.mem_cons.1 h with h | h
      · subst h
        exact ih o (List.mem_cons_self ..)
      · rcases List.mem_cons.1 h with h | h
        · subst h
          intro hh
          have hm := ih m (List.mem_cons_self ..)
          -- o is not ahead of m; what is behind the least isn't before it
          by_cases q : ltO m o
          · exact hm (q.trans hh)
          · have e := ltO.tri q (fun hh2 => c ((cmpOff_iff o m).2 hh2))
            exact hm (ltO_kin e q (fun hh2 => c ((cmpOff_iff o m).2 hh2)) hh)
        · exact ih o (List.mem_cons_of_mem _ h)
where
  ltO_kin {m o z : TOffer} (e : m.1 = o.1) (h1 : ¬ ltO m o) (h2 : ¬ ltO o m) (h : ltO o z) : ltO m z := by
    unfold ltO at *
    have e1 : (m.2.length : Int) = o.2.length := by
      rcases Int.lt_trichotomy (m.2.length : Int) o.2.length with h | h | h
      · exact absurd (.inl h) h1
      · exact h
      · exact absurd (.inl h) h2
    have e2 : topV m = topV o := by
      rcases Int.lt_trichotomy (topV m) (topV o) with h | h | h
      · exact absurd (.inr ⟨e1,.inl h⟩) h1
      · exact h
      · exact absurd (.inr ⟨e1.symm,.inl h⟩) h2
    rw [e1,e2,e]
    exact h

theorem minV_least {l : List TOffer} {o : TOffer} (h : o ∈ l) : ¬ ltO o (minV l) := by
  cases l with
  | nil => cases h
  | cons x l => exact minFrom_least l x o h

theorem offers_mem {a : List TMach × List TJob × TTask} {o : TOffer} : o ∈ offersV a ↔ ∃ m ∈ a.1,(goneV (m,a.2)).2 = true ∧ o = (m.1.1,(goneV (m,a.2)).1) := by
  unfold offersV
  rw [List.mem_map]
  constructor
  · rintro ⟨m,hm,rfl⟩
    exact ⟨m,(List.mem_filter.1 hm).1,(List.mem_filter.1 hm).2,rfl⟩
  · rintro ⟨m,hm,h,rfl⟩
    exact ⟨m,List.mem_filter.2 ⟨hm,h⟩,rfl⟩

theorem choose_no {a : List TMach × List TJob × TTask} (h : offersV a = []) : chooseV a = (ByteArray.empty,[],false) := by
  unfold chooseV
  rw [h]

theorem any_snoc {α : Type} [Inhabited α] (p : α → Bool) {l : List α} {i : Int} (h0 : 0 ≤ i) (h : i < (l.length : Int)) : (l.take (i + 1).toNat).any p = ((l.take i.toNat).any p || p (at_ l i)) := by
  rw [show (i + 1).toNat = i.toNat + 1 from by omega,take_snoc (by omega),List.any_append]
  simp [at_]

theorem f377.ok (a : List TMach × List TJob × TTask) (h : f377.lpre a) : f377.vc a := by
  obtain ⟨_,hs⟩ := h
  obtain ⟨l,jobs,t⟩ := a
  obtain ⟨hc,hf⟩ := machs_pre hs
  have h1 : l.length ≤ 1048576 := hc.1
  have hj : L20 jobs := hf.2.1
  have ct := choose_small (a := (l,jobs,t)) hj
  have least : ∀ m ∈ l,(planV (m,jobs,t)).2 = true → ¬ ((planV (m,jobs,t)).1.length : Int) < ((chooseV (l,jobs,t)).2.1.length : Int) := fun m hm hp hh => by
    have ho : (m.1.1,(goneV (m,jobs,t)).1) ∈ offersV (l,jobs,t) := offers_mem.2 ⟨m,hm,hp,rfl⟩
    have hne : offersV (l,jobs,t) ≠ [] := List.ne_nil_of_mem ho
    rw [choose_eq hne] at hh
    simp only [planV,namesV,List.length_map] at hh
    exact minV_least ho (.inl hh)
  generalize hP : (fun m : TMach => (planV (m,jobs,t)).2) = p
  generalize hQ : (fun m : TMach => (planV (m,jobs,t)).2 && (decide (m.1.1 = (chooseV (l,jobs,t)).1) && textsV ((planV (m,jobs,t)).1,(chooseV (l,jobs,t)).2.1))) = q
  refine ⟨fun _ => rfl,fun _ => ⟨hf,fun _ => rfl,fun _ => ⟨hc,fun y => y.1 = (chooseV (l,jobs,t)).1 ∧ y.2.1 = (chooseV (l,jobs,t)).2.1 ∧ y.2.2.1 = (chooseV (l,jobs,t)).2.2 ∧ 0 ≤ y.2.2.2.2.2 ∧ y.2.2.2.2.2 ≤ (l.length : Int) ∧ y.2.2.2.1 = (l.take y.2.2.2.2.2.toNat).any p ∧ y.2.2.2.2.1 = (l.take y.2.2.2.2.2.toNat).any q,fun y => l.length - y.2.2.2.2.2.toNat,⟨rfl,rfl,rfl,by simp only; omega,by simp only; omega,rfl,rfl⟩,fun y hy => ?_⟩⟩⟩
  obtain ⟨N,T,K,so,ow,i⟩ := y
  obtain ⟨e1,e2,e3,g0,g1,g2,g3⟩ := hy
  simp only at e1 e2 e3 g0 g1 g2 g3 ⊢
  subst e1; subst e2; subst e3
  refine ⟨fun hlt => ?_,fun hge => ?_⟩
  · have hm : at_ l i ∈ l := getD_mem (by omega)
    have hw : why_pre (at_ l i,jobs,t) := hc.2 _ hm
    have hl := least _ hm
    have s1 := any_snoc p g0 hlt
    have s2 := any_snoc q g0 hlt
    rw [← g2] at s1
    rw [← g3] at s2
    have p1 : p (at_ l i) = (planV (at_ l i,jobs,t)).2 := by rw [← hP]
    have q1 : q (at_ l i) = ((planV (at_ l i,jobs,t)).2 && (decide ((at_ l i).1.1 = (chooseV (l,jobs,t)).1) && textsV ((planV (at_ l i,jobs,t)).1,(chooseV (l,jobs,t)).2.1))) := by rw [← hQ]
    rw [p1] at s1
    rw [q1] at s2
    have fin : ∀ s o,s = (so || (planV (at_ l i,jobs,t)).2) → o = (ow || ((planV (at_ l i,jobs,t)).2 && (decide ((at_ l i).1.1 = (chooseV (l,jobs,t)).1) && textsV ((planV (at_ l i,jobs,t)).1,(chooseV (l,jobs,t)).2.1)))) →
        -9223372036854775808 ≤ i + 1 ∧ i + 1 ≤ 9223372036854775807 ∧ ((chooseV (l,jobs,t)).1 = (chooseV (l,jobs,t)).1 ∧ (chooseV (l,jobs,t)).2.1 = (chooseV (l,jobs,t)).2.1 ∧ (chooseV (l,jobs,t)).2.2 = (chooseV (l,jobs,t)).2.2 ∧ 0 ≤ i + 1 ∧ i + 1 ≤ (l.length : Int) ∧ s = (l.take (i + 1).toNat).any p ∧ o = (l.take (i + 1).toNat).any q) ∧ l.length - (i + 1).toNat < l.length - i.toNat := fun s o hs ho =>
      ⟨by omega,by omega,⟨rfl,rfl,rfl,by omega,by omega,hs.trans s1.symm,ho.trans s2.symm⟩,by omega⟩
    have tp : texts_pre ((planV (at_ l i,jobs,t)).1,(chooseV (l,jobs,t)).2.1) := ⟨plan_small hj,ct⟩
    refine ⟨g0,hlt,hw,fun c1 => ⟨fun c2 => ⟨fun c3 => ⟨fun c4 => absurd c4 (hl c3),fun _ => fin _ _ ?_ ?_⟩,fun c3 => fin _ _ ?_ ?_⟩,fun c2 => ⟨fun c3 => ⟨g0,hlt,fun c4 => ⟨tp,fun c5 => absurd c5 (hl c3),fun _ => fin _ _ ?_ ?_⟩,fun c4 => ⟨fun c5 => absurd c5 (hl c3),fun _ => fin _ _ ?_ ?_⟩⟩,fun c3 => fin _ _ ?_ ?_⟩⟩,
      fun c1 => ⟨fun c2 => ⟨fun c3 => ⟨fun c4 => absurd c4 (hl c3),fun _ => fin _ _ ?_ ?_⟩,fun c3 => fin _ _ ?_ ?_⟩,fun c2 => ⟨fun c3 => ⟨g0,hlt,fun c4 => ⟨tp,fun c5 => absurd c5 (hl c3),fun _ => fin _ _ ?_ ?_⟩,fun c4 => ⟨fun c5 => absurd c5 (hl c3),fun _ => fin _ _ ?_ ?_⟩⟩,fun c3 => fin _ _ ?_ ?_⟩⟩⟩
    all_goals (clear fin tp least s1 s2 p1 q1 g2 g3 hs hf hc; simp_all)
  · rw [List.take_of_length_le (by omega)] at g2 g3
    have k1 : so = (chooseV (l,jobs,t)).2.2 := by
      rw [g2]
      by_cases hn : offersV (l,jobs,t) = []
      · rw [choose_no hn]
        simp only [List.any_eq_false]
        intro m hm hh
        rw [← hP] at hh
        have : (m.1.1,(goneV (m,jobs,t)).1) ∈ offersV (l,jobs,t) := offers_mem.2 ⟨m,hm,hh,rfl⟩
        rw [hn] at this
        cases this
      · rw [choose_eq hn]
        obtain ⟨m,hm,hg,_⟩ := offers_mem.1 (f227.ok.minV_mem hn)
        simp only [List.any_eq_true]
        exact ⟨m,hm,by rw [← hP]; exact hg⟩
    have k2 : ow = (chooseV (l,jobs,t)).2.2 := by
      rw [g3]
      by_cases hn : offersV (l,jobs,t) = []
      · rw [choose_no hn]
        simp only [List.any_eq_false]
        intro m hm hh
        rw [← hQ] at hh
        simp only [Bool.and_eq_true] at hh
        have : (m.1.1,(goneV (m,jobs,t)).1) ∈ offersV (l,jobs,t) := offers_mem.2 ⟨m,hm,hh.1,rfl⟩
        rw [hn] at this
        cases this
      · obtain ⟨m,hm,hg,he⟩ := offers_mem.1 (f227.ok.minV_mem hn)
        have : q m = true := by
          rw [← hQ]
          rw [choose_eq hn,he]
          simp only [Bool.and_eq_true,decide_eq_true_eq]
          exact ⟨hg,trivial,texts_refl _⟩
        rw [choose_eq hn]
        simp only [List.any_eq_true]
        exact ⟨m,hm,this⟩
    rw [k1,k2]
    refine ⟨fun _ => ⟨fun _ => ⟨fun _ => rfl,fun c => ?_⟩,fun c => absurd (beq_self_eq_true _) c⟩,fun c => absurd (beq_self_eq_true _) c⟩
    have hn : offersV (l,jobs,t) = [] := by
      refine Classical.byContradiction fun hn => c ?_
      rw [choose_eq hn]
    rw [choose_no hn]
    exact ⟨fun _ => rfl,fun c => absurd rfl c⟩

structure RevI {α β : Type} [Inhabited α] (f : α → β) (l out : List α) (i : Int) : Prop where
  lo : -1 ≤ i
  hi : i < (l.length : Int)
  out : out = (l.drop (i + 1).toNat).reverse
  ne : ∀ j k : Nat,k < j → j < l.length → i < (j : Int) → f (l.getD j default) ≠ f (l.getD k default)

theorem RevI.init {α β : Type} [Inhabited α] (f : α → β) (l : List α) : RevI f l [] ((l.length : Int) - 1) := by
  refine ⟨by omega,by omega,?_,fun j k _ h2 h3 => by omega⟩
  rw [List.drop_of_length_le (by omega)]
  rfl

theorem RevI.step {α β : Type} [Inhabited α] {f : α → β} {l out : List α} {i : Int} (h : RevI f l out i) (h0 : 0 ≤ i) (hn : ∀ k : Nat,k < i.toNat → f (at_ l i) ≠ f (l.getD k default)) : RevI f l (out ++ [at_ l i]) (i - 1) := by
  have hi := h.hi
  refine ⟨by omega,by omega,?_,fun j k h1 h2 h3 => ?_⟩
  · rw [h.out,show (i - 1 + 1).toNat = i.toNat from by omega,List.drop_eq_getElem_cons (i := i.toNat) (by omega),List.reverse_cons,show (i + 1).toNat = i.toNat + 1 from by omega]
    unfold at_
    rw [getD_of (by omega)]
  · by_cases e : i = (j : Int)
    · subst e
      exact hn k (by omega)
    · exact h.ne j k h1 h2 (by omega)

theorem RevI.done {α β : Type} [Inhabited α] {f : α → β} {l out : List α} {i : Int} (h : RevI f l out i) (hi : ¬ 0 ≤ i) : out = l.reverse ∧ (l.map f).Nodup := by
  have lo := h.lo
  have e : i = -1 := by omega
  subst e
  refine ⟨h.out,?_⟩
  refine List.pairwise_iff_getElem.2 fun k j hk hj hkj e => ?_
  rw [List.length_map] at hk hj
  rw [List.getElem_map,List.getElem_map] at e
  refine h.ne j k hkj hj (by omega) ?_
  rw [getD_of hj,getD_of hk]
  exact e.symm

end Go.Abs
