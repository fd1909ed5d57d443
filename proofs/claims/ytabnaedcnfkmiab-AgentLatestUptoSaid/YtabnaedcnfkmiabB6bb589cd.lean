/- Functions, and what the code asks of them: PAgentLaw. -/
import Derived.KernelRfl
import Derived.Test.YtabnaedcnfkmiabB37aea0bf
import Derived.Test.YtabnaedcnfkmiabB11639c58
import Derived.Test.YtabnaedcnfkmiabBafceca8d
import Derived.Test.YtabnaedcnfkmiabB99e8e87d
import Derived.Test.YtabnaedcnfkmiabB4237630a
import Derived.Test.YtabnaedcnfkmiabB30e92804
import Derived.Test.YtabnaedcnfkmiabBa82c8e14
import Derived.Test.YtabnaedcnfkmiabB3546d1ad
import Derived.Test.YtabnaedcnfkmiabB8eba9ece
set_option linter.unusedVariables false
set_option linter.unusedSimpArgs false
-- interregnum/interregnumlaw24.AgentStamps
namespace Go.Abs
open Go
end Go.Abs

/- interregnum/interregnumlaw24.AgentStamps -/
namespace Go.Abs
open Go
set_option linter.unusedVariables false
end Go.Abs

-- interregnum/interregnumlaw24.AgentPlays
namespace Go.Abs
open Go
end Go.Abs

/- interregnum/interregnumlaw24.AgentPlays -/
namespace Go.Abs
open Go
set_option linter.unusedVariables false
end Go.Abs

-- interregnum/interregnumlaw24.AgentLatest
namespace Go.Abs
open Go
def f87.wf (a : ByteArray × (List (T_interregnumref24_Order)) × (List (Int))) : Prop := k_str.ok a.1∧k_sl_interregnumref24_Order.ok a.2.1∧k_sl_u64.ok a.2.2
def f87.size (a : ByteArray × (List (T_interregnumref24_Order)) × (List (Int))) : Nat := k_str.size a.1 + (k_sl_interregnumref24_Order.size a.2.1 + (k_sl_u64.size a.2.2))
def f87.lpre (a : ByteArray × (List (T_interregnumref24_Order)) × (List (Int))) : Prop := f87.wf a∧f87.size a≤1048576
def f87.args (a : ByteArray × (List (T_interregnumref24_Order)) × (List (Int))) : List D := [.str a.1,.slice .ro 8 a.2.1.length (gl e_interregnumref24_Order a.2.1),.slice .ro 1 a.2.2.length (gl e_u64 a.2.2)]
def f87.blks (a : ByteArray × (List (T_interregnumref24_Order)) × (List (Int))) : List (List D) := []
def f87.res (a : ByteArray × (List (T_interregnumref24_Order)) × (List (Int))) : List D := [.bool (lawTrue a)]
def f87.blks' (a : ByteArray × (List (T_interregnumref24_Order)) × (List (Int))) : List (List D) := []
def f87.C : Contract := FnC f87.args f87.blks (fun a => f87.lpre a) f87.res f87.blks'
end Go.Abs

/- interregnum/interregnumlaw24.AgentLatest -/
namespace Go.Abs
open Go
set_option linter.unusedVariables false
def f87.kills (a : ByteArray × (List (T_interregnumref24_Order)) × (List (Int))) : List Hint := [.tell (Int × Int) (fun x => ⟨[.str a.1,.slice .ro 8 a.2.1.length (gl e_interregnumref24_Order a.2.1),.slice .ro 1 a.2.2.length (gl e_u64 a.2.2),.dead,.dead,.dead,.dead,.int .i64 x.1,.dead,.dead,.dead,.dead,.dead,.dead,.dead,.dead,.dead,.dead,.dead,.dead,.dead,.dead,.dead,.dead,.dead,.dead,.dead,.dead,.dead,.dead,.dead,.dead,.int .i64 (a.2.1.length : Int),.int .i64 x.2,.dead,.dead,.dead,.dead,.dead,.dead,.dead,.dead,.dead,.dead,.dead,.dead,.dead,.dead,.dead,.dead,.dead,.dead,.dead,.dead,.dead,.dead,.dead,.dead,.dead,.dead,.dead,.dead,.dead,.dead,.dead,.dead,.dead,.dead,.dead,.dead,.dead,.dead,.dead,.dead,.dead,.dead,.dead,.dead,.dead,.dead,.dead,.dead,.dead,.dead,.dead,.dead,.dead,.dead,.dead,.dead,.dead,.dead,.dead,.dead,.dead,.dead,.dead,.dead,.dead,.dead,.dead,.dead,.dead,.dead,.dead,.dead,.dead,.dead,.dead,.dead,.dead,.dead,.dead,.dead,.dead,.dead,.dead,.dead,.dead,.dead,.dead,.dead,.dead,.dead,.dead,.dead,.dead,.dead,.dead,.dead,.dead,.dead,.dead,.dead,.dead,.dead,.dead,.dead,.dead,.dead,.dead,.dead,.dead,.dead,.dead,.dead,.dead,.dead,.dead,.dead,.dead,.dead],[],[]⟩),
 .tell (Int × Int × Int × Int) (fun x => ⟨[.str a.1,.slice .ro 8 a.2.1.length (gl e_interregnumref24_Order a.2.1),.slice .ro 1 a.2.2.length (gl e_u64 a.2.2),.dead,.dead,.dead,.dead,.int .i64 x.1,.int .i64 x.2.1,.int .i64 x.2.2.1,.dead,.dead,.dead,.dead,.dead,.dead,.dead,.dead,.dead,.dead,.dead,.dead,.dead,.dead,.dead,.dead,.dead,.dead,.dead,.dead,.dead,.dead,.int .i64 (a.2.1.length : Int),.int .i64 x.2.2.2,.dead,.dead,.dead,.dead,.dead,.dead,.dead,.dead,.dead,.dead,.dead,.dead,.dead,.dead,.dead,.dead,.dead,.dead,.dead,.dead,.dead,.dead,.dead,.dead,.dead,.dead,.dead,.dead,.dead,.dead,.dead,.dead,.dead,.dead,.dead,.dead,.dead,.dead,.dead,.dead,.dead,.dead,.dead,.dead,.dead,.dead,.dead,.dead,.dead,.dead,.dead,.dead,.dead,.dead,.dead,.dead,.dead,.dead,.dead,.dead,.dead,.dead,.dead,.dead,.dead,.dead,.dead,.dead,.dead,.dead,.dead,.dead,.dead,.dead,.dead,.dead,.dead,.dead,.dead,.dead,.dead,.dead,.dead,.dead,.dead,.dead,.dead,.dead,.dead,.dead,.dead,.dead,.dead,.dead,.dead,.dead,.dead,.dead,.dead,.dead,.dead,.dead,.dead,.dead,.dead,.dead,.dead,.dead,.dead,.dead,.dead,.dead,.dead,.dead,.dead,.dead,.dead,.dead],[],[]⟩),
 .tell (Int × Int × ByteArray × Int × Int × Int × (List (T_agent_Item))) (fun x => ⟨[.dead,.slice .ro 8 a.2.1.length (gl e_interregnumref24_Order a.2.1),.slice .ro 1 a.2.2.length (gl e_u64 a.2.2),.dead,.dead,.dead,.dead,.int .i64 x.1,.dead,.dead,.ptr 118 0,.dead,.dead,.dead,.dead,.dead,.dead,.dead,.dead,.dead,.dead,.dead,.dead,.dead,.dead,.dead,.dead,.dead,.dead,.dead,.dead,.dead,.dead,.dead,.dead,.dead,.dead,.dead,.dead,.dead,.dead,.dead,.dead,.dead,.dead,.dead,.dead,.dead,.dead,.dead,.dead,.dead,.dead,.dead,.dead,.dead,.dead,.dead,.dead,.dead,.dead,.dead,.dead,.dead,.dead,.dead,.dead,.dead,.dead,.dead,.dead,.dead,.dead,.dead,.dead,.dead,.dead,.dead,.dead,.dead,.dead,.dead,.dead,.dead,.dead,.dead,.dead,.dead,.dead,.dead,.dead,.dead,.dead,.dead,.dead,.dead,.dead,.dead,.dead,.dead,.dead,.int .i64 (a.2.2.length : Int),.int .i64 x.2.1,.dead,.dead,.dead,.dead,.dead,.dead,.dead,.dead,.dead,.dead,.dead,.dead,.dead,.dead,.dead,.dead,.dead,.dead,.dead,.dead,.dead,.dead,.dead,.dead,.dead,.dead,.dead,.dead,.dead,.dead,.dead,.dead,.dead,.dead,.dead,.dead,.dead,.dead,.dead,.dead,.dead,.dead,.dead,.dead,.dead,.dead,.dead,.dead,.dead],[(118,false,[.str x.2.2.1,.int .i64 x.2.2.2.1,.int .i64 x.2.2.2.2.1,.int .i64 x.2.2.2.2.2.1,.slice .ro 6 x.2.2.2.2.2.2.length (gl e_agent_Item x.2.2.2.2.2.2)])],[]⟩),
 .tell (Int × Int × ByteArray × Int × Int × Int × (List (T_agent_Item))) (fun x => ⟨[.dead,.slice .ro 8 a.2.1.length (gl e_interregnumref24_Order a.2.1),.dead,.dead,.dead,.dead,.dead,.int .i64 x.1,.dead,.dead,.ptr 118 0,.dead,.dead,.dead,.dead,.dead,.dead,.dead,.dead,.dead,.dead,.dead,.dead,.dead,.dead,.dead,.dead,.dead,.dead,.dead,.dead,.dead,.dead,.dead,.dead,.dead,.dead,.dead,.dead,.dead,.dead,.dead,.dead,.dead,.dead,.dead,.dead,.dead,.dead,.dead,.dead,.dead,.dead,.dead,.dead,.dead,.dead,.dead,.dead,.dead,.dead,.dead,.dead,.dead,.dead,.dead,.dead,.dead,.dead,.dead,.dead,.dead,.dead,.dead,.dead,.dead,.dead,.dead,.dead,.dead,.dead,.dead,.dead,.dead,.dead,.dead,.dead,.dead,.dead,.dead,.dead,.dead,.dead,.dead,.dead,.dead,.dead,.dead,.dead,.dead,.dead,.dead,.dead,.dead,.dead,.dead,.dead,.dead,.dead,.dead,.dead,.dead,.dead,.dead,.dead,.dead,.dead,.dead,.dead,.dead,.dead,.int .i64 (a.2.1.length : Int),.int .i64 x.2.1,.dead,.dead,.dead,.dead,.dead,.dead,.dead,.dead,.dead,.dead,.dead,.dead,.dead,.dead,.dead,.dead,.dead,.dead,.dead,.dead,.dead,.dead,.dead,.dead,.dead,.dead,.dead,.dead,.dead],[(118,false,[.str x.2.2.1,.int .i64 x.2.2.2.1,.int .i64 x.2.2.2.2.1,.int .i64 x.2.2.2.2.2.1,.slice .ro 6 x.2.2.2.2.2.2.length (gl e_agent_Item x.2.2.2.2.2.2)])],[]⟩)]
def f87.cuts (a : ByteArray × (List (T_interregnumref24_Order)) × (List (Int))) : List (Nat × Σ β : Type,β→Tm) := []
def f87.af (a : ByteArray × (List (T_interregnumref24_Order)) × (List (Int))) : AF := AF.mk (.seq (.region [⟨(some 6),0,.move,[.c (.bool false)],none⟩])
 (.seq (.seq (.region [⟨(some 13),1,(.call false 98),[],none⟩,
 ⟨(some 14),5,(.un .not),[.t 13],none⟩,
 ⟨(some 15),6,.move,[.t 14],none⟩,
 ⟨(some 16),7,.move,[.t 1],(some (15,false))⟩,
 ⟨(some 17),8,(.call false 100),[.t 16],(some (15,false))⟩,
 ⟨(some 18),12,(.un .not),[.t 17],(some (15,false))⟩,
 ⟨(some 19),13,.pick,[.t 15,.c (.bool true),.t 18],none⟩,
 ⟨(some 20),14,.move,[.t 19],none⟩,
 ⟨(some 21),15,.move,[.t 0],(some (20,false))⟩,
 ⟨(some 22),16,(.len true),[.t 21],(some (20,false))⟩,
 ⟨(some 23),17,(.bin .gtr),[.t 22,.c (.int .i64 (1000))],(some (20,false))⟩,
 ⟨(some 24),18,.pick,[.t 20,.c (.bool true),.t 23],none⟩,
 ⟨(some 25),19,.move,[.t 24],none⟩,
 ⟨(some 26),20,.move,[.t 2],(some (25,false))⟩,
 ⟨(some 27),21,(.len false),[.t 26],(some (25,false))⟩,
 ⟨(some 28),22,(.bin .gtr),[.t 27,.c (.int .i64 (100))],(some (25,false))⟩,
 ⟨(some 29),23,.pick,[.t 25,.c (.bool true),.t 28],none⟩])
 (.cond (.t 29) (.seq (.region [⟨(some 30),24,(.call false 98),[],none⟩,
 ⟨(some 6),28,.move,[.t 30],none⟩])
 (.ret)) (.skip)))
 (.seq (.region [⟨(some 7),29,.move,[.c (.int .i64 (-1))],none⟩])
 (.seq (.seq (.region [⟨(some 31),30,.move,[.t 1],none⟩,
 ⟨(some 32),31,(.len false),[.t 31],none⟩,
 ⟨(some 33),32,.move,[.c (.int .i64 (0))],none⟩])
 (.block 0 (.loopT (Int × Int) (fun x => ⟨[.str a.1,.slice .ro 8 a.2.1.length (gl e_interregnumref24_Order a.2.1),.slice .ro 1 a.2.2.length (gl e_u64 a.2.2),.dead,.dead,.dead,.dead,.int .i64 x.1,.dead,.dead,.dead,.dead,.dead,.dead,.dead,.dead,.dead,.dead,.dead,.dead,.dead,.dead,.dead,.dead,.dead,.dead,.dead,.dead,.dead,.dead,.dead,.dead,.int .i64 (a.2.1.length : Int),.int .i64 x.2,.dead,.dead,.dead,.dead,.dead,.dead,.dead,.dead,.dead,.dead,.dead,.dead,.dead,.dead,.dead,.dead,.dead,.dead,.dead,.dead,.dead,.dead,.dead,.dead,.dead,.dead,.dead,.dead,.dead,.dead,.dead,.dead,.dead,.dead,.dead,.dead,.dead,.dead,.dead,.dead,.dead,.dead,.dead,.dead,.dead,.dead,.dead,.dead,.dead,.dead,.dead,.dead,.dead,.dead,.dead,.dead,.dead,.dead,.dead,.dead,.dead,.dead,.dead,.dead,.dead,.dead,.dead,.dead,.dead,.dead,.dead,.dead,.dead,.dead,.dead,.dead,.dead,.dead,.dead,.dead,.dead,.dead,.dead,.dead,.dead,.dead,.dead,.dead,.dead,.dead,.dead,.dead,.dead,.dead,.dead,.dead,.dead,.dead,.dead,.dead,.dead,.dead,.dead,.dead,.dead,.dead,.dead,.dead,.dead,.dead,.dead,.dead,.dead,.dead,.dead,.dead,.dead,.dead],[],[]⟩) 33 114 (.seq (.region [⟨(some 34),33,(.bin .lss),[.t 33,.t 32],none⟩])
 (.seq (.cond (.t 34) (.skip) (.exit 0))
 (.seq (.block 1 (.seq (.region [⟨(some 35),34,.move,[.t 33],none⟩,
 ⟨(some 8),35,.move,[.t 35],none⟩])
 (.seq (.seq (.region [⟨(some 9),36,.move,[.c (.int .i64 (0))],none⟩])
 (.block 2 (.loopT (Int × Int × Int × Int) (fun x => ⟨[.str a.1,.slice .ro 8 a.2.1.length (gl e_interregnumref24_Order a.2.1),.slice .ro 1 a.2.2.length (gl e_u64 a.2.2),.dead,.dead,.dead,.dead,.int .i64 x.1,.int .i64 x.2.1,.int .i64 x.2.2.1,.dead,.dead,.dead,.dead,.dead,.dead,.dead,.dead,.dead,.dead,.dead,.dead,.dead,.dead,.dead,.dead,.dead,.dead,.dead,.dead,.dead,.dead,.int .i64 (a.2.1.length : Int),.int .i64 x.2.2.2,.dead,.dead,.dead,.dead,.dead,.dead,.dead,.dead,.dead,.dead,.dead,.dead,.dead,.dead,.dead,.dead,.dead,.dead,.dead,.dead,.dead,.dead,.dead,.dead,.dead,.dead,.dead,.dead,.dead,.dead,.dead,.dead,.dead,.dead,.dead,.dead,.dead,.dead,.dead,.dead,.dead,.dead,.dead,.dead,.dead,.dead,.dead,.dead,.dead,.dead,.dead,.dead,.dead,.dead,.dead,.dead,.dead,.dead,.dead,.dead,.dead,.dead,.dead,.dead,.dead,.dead,.dead,.dead,.dead,.dead,.dead,.dead,.dead,.dead,.dead,.dead,.dead,.dead,.dead,.dead,.dead,.dead,.dead,.dead,.dead,.dead,.dead,.dead,.dead,.dead,.dead,.dead,.dead,.dead,.dead,.dead,.dead,.dead,.dead,.dead,.dead,.dead,.dead,.dead,.dead,.dead,.dead,.dead,.dead,.dead,.dead,.dead,.dead,.dead,.dead,.dead,.dead,.dead],[],[]⟩) 37 55 (.seq (.seq (.region [⟨(some 36),37,.move,[.t 9],none⟩,
 ⟨(some 37),38,.move,[.t 8],none⟩,
 ⟨(some 38),39,(.bin .lss),[.t 36,.t 37],none⟩])
 (.cond (.t 38) (.skip) (.exit 2)))
 (.seq (.block 3 (.seq (.region [⟨(some 41),40,.move,[.t 1],none⟩,
 ⟨(some 42),41,.move,[.t 8],none⟩,
 ⟨(some 43),42,(.indexAddr 8 none),[.t 41,.t 42],none⟩,
 ⟨(some 44),43,(.fieldAddr 1),[.t 43],none⟩,
 ⟨(some 45),44,(.load true 3),[.t 44],none⟩,
 ⟨(some 46),45,.move,[.t 1],none⟩,
 ⟨(some 47),46,.move,[.t 9],none⟩,
 ⟨(some 48),47,(.indexAddr 8 none),[.t 46,.t 47],none⟩,
 ⟨(some 49),48,(.fieldAddr 1),[.t 48],none⟩,
 ⟨(some 50),49,(.load true 3),[.t 49],none⟩,
 ⟨(some 51),50,(.eqAgg false [0,0,0]),[.t 45,.t 50],none⟩])
 (.cond (.t 51) (.seq (.region [⟨(some 6),51,.move,[.c (.bool true)],none⟩])
 (.ret)) (.skip))))
 (.region [⟨(some 39),52,.move,[.t 9],none⟩,
 ⟨(some 40),53,(.bin .add),[.t 39,.c (.int .i64 (1))],none⟩,
 ⟨(some 9),54,.move,[.t 40],none⟩]))))))
 (.seq (.seq (.region [⟨(some 52),55,.move,[.t 1],none⟩,
 ⟨(some 53),56,.move,[.t 8],none⟩,
 ⟨(some 54),57,(.indexAddr 8 none),[.t 52,.t 53],none⟩,
 ⟨(some 55),58,(.load true 8),[.t 54],none⟩,
 ⟨(some 56),59,(.call false 103),[.t 55],none⟩,
 ⟨(some 57),63,(.call false 108),[.t 56],none⟩,
 ⟨(some 58),67,(.un .not),[.t 57],none⟩,
 ⟨(some 59),68,.move,[.t 58],none⟩,
 ⟨(some 60),69,.move,[.t 1],(some (59,false))⟩,
 ⟨(some 61),70,.move,[.t 8],(some (59,false))⟩,
 ⟨(some 62),71,(.indexAddr 8 none),[.t 60,.t 61],(some (59,false))⟩,
 ⟨(some 63),72,(.fieldAddr 0),[.t 62],(some (59,false))⟩,
 ⟨(some 64),73,(.load false 1),[.t 63],(some (59,false))⟩,
 ⟨(some 65),74,.move,[.t 0],(some (59,false))⟩,
 ⟨(some 66),75,(.bin .neq),[.t 64,.t 65],(some (59,false))⟩,
 ⟨(some 67),76,.pick,[.t 59,.c (.bool true),.t 66],none⟩,
 ⟨(some 68),77,.move,[.t 67],none⟩,
 ⟨(some 69),78,.move,[.t 1],(some (68,false))⟩,
 ⟨(some 70),79,.move,[.t 8],(some (68,false))⟩,
 ⟨(some 71),80,(.indexAddr 8 none),[.t 69,.t 70],(some (68,false))⟩,
 ⟨(some 72),81,(.fieldAddr 1),[.t 71],(some (68,false))⟩,
 ⟨(some 73),82,(.load true 3),[.t 72],(some (68,false))⟩,
 ⟨(some 74),83,(.build [.int .i64 (0),.int .i64 (0),.int .i64 (0)] []),[],(some (68,false))⟩,
 ⟨(some 75),84,(.call false 99),[.t 73,.t 74],(some (68,false))⟩,
 ⟨(some 76),88,(.bin .lss),[.t 75,.c (.int .i64 (0))],(some (68,false))⟩,
 ⟨(some 77),89,.pick,[.t 68,.c (.bool true),.t 76],none⟩])
 (.cond (.t 77) (.seq (.region [⟨(some 6),90,.move,[.c (.bool true)],none⟩])
 (.ret)) (.skip)))
 (.seq (.region [⟨(some 78),91,.move,[.t 7],none⟩,
 ⟨(some 79),92,(.bin .lss),[.t 78,.c (.int .i64 (0))],none⟩,
 ⟨(some 80),93,.move,[.t 79],none⟩,
 ⟨(some 81),94,.move,[.t 1],(some (80,false))⟩,
 ⟨(some 82),95,.move,[.t 8],(some (80,false))⟩,
 ⟨(some 83),96,(.indexAddr 8 none),[.t 81,.t 82],(some (80,false))⟩,
 ⟨(some 84),97,(.fieldAddr 1),[.t 83],(some (80,false))⟩,
 ⟨(some 85),98,(.load true 3),[.t 84],(some (80,false))⟩,
 ⟨(some 86),99,.move,[.t 1],(some (80,false))⟩,
 ⟨(some 87),100,.move,[.t 7],(some (80,false))⟩,
 ⟨(some 88),101,(.indexAddr 8 none),[.t 86,.t 87],(some (80,false))⟩,
 ⟨(some 89),102,(.fieldAddr 1),[.t 88],(some (80,false))⟩,
 ⟨(some 90),103,(.load true 3),[.t 89],(some (80,false))⟩,
 ⟨(some 91),104,(.call false 99),[.t 85,.t 90],(some (80,false))⟩,
 ⟨(some 92),108,(.bin .gtr),[.t 91,.c (.int .i64 (0))],(some (80,false))⟩,
 ⟨(some 93),109,.pick,[.t 80,.c (.bool true),.t 92],none⟩])
 (.cond (.t 93) (.region [⟨(some 94),110,.move,[.t 8],none⟩,
 ⟨(some 7),111,.move,[.t 94],none⟩]) (.skip)))))))
 (.region [⟨(some 95),112,(.bin .add),[.t 33,.c (.int .i64 (1))],none⟩,
 ⟨(some 33),113,.move,[.t 95],none⟩])))))))
 (.seq (.seq (.region [⟨(some 96),114,.move,[.t 7],none⟩,
 ⟨(some 97),115,(.bin .lss),[.t 96,.c (.int .i64 (0))],none⟩])
 (.cond (.t 97) (.seq (.region [⟨(some 6),116,.move,[.c (.bool true)],none⟩])
 (.ret)) (.skip)))
 (.seq (.region [⟨(some 98),117,.move,[.t 0],none⟩,
 ⟨(some 99),118,(.call false 101),[.t 98],none⟩,
 ⟨(some 10),122,.move,[.t 99],none⟩])
 (.seq (.seq (.region [⟨(some 100),123,.move,[.t 2],none⟩,
 ⟨(some 101),124,(.len false),[.t 100],none⟩,
 ⟨(some 102),125,.move,[.c (.int .i64 (0))],none⟩])
 (.block 4 (.loopT (Int × Int × ByteArray × Int × Int × Int × (List (T_agent_Item))) (fun x => ⟨[.dead,.slice .ro 8 a.2.1.length (gl e_interregnumref24_Order a.2.1),.slice .ro 1 a.2.2.length (gl e_u64 a.2.2),.dead,.dead,.dead,.dead,.int .i64 x.1,.dead,.dead,.ptr 118 0,.dead,.dead,.dead,.dead,.dead,.dead,.dead,.dead,.dead,.dead,.dead,.dead,.dead,.dead,.dead,.dead,.dead,.dead,.dead,.dead,.dead,.dead,.dead,.dead,.dead,.dead,.dead,.dead,.dead,.dead,.dead,.dead,.dead,.dead,.dead,.dead,.dead,.dead,.dead,.dead,.dead,.dead,.dead,.dead,.dead,.dead,.dead,.dead,.dead,.dead,.dead,.dead,.dead,.dead,.dead,.dead,.dead,.dead,.dead,.dead,.dead,.dead,.dead,.dead,.dead,.dead,.dead,.dead,.dead,.dead,.dead,.dead,.dead,.dead,.dead,.dead,.dead,.dead,.dead,.dead,.dead,.dead,.dead,.dead,.dead,.dead,.dead,.dead,.dead,.dead,.int .i64 (a.2.2.length : Int),.int .i64 x.2.1,.dead,.dead,.dead,.dead,.dead,.dead,.dead,.dead,.dead,.dead,.dead,.dead,.dead,.dead,.dead,.dead,.dead,.dead,.dead,.dead,.dead,.dead,.dead,.dead,.dead,.dead,.dead,.dead,.dead,.dead,.dead,.dead,.dead,.dead,.dead,.dead,.dead,.dead,.dead,.dead,.dead,.dead,.dead,.dead,.dead,.dead,.dead,.dead,.dead],[(118,false,[.str x.2.2.1,.int .i64 x.2.2.2.1,.int .i64 x.2.2.2.2.1,.int .i64 x.2.2.2.2.2.1,.slice .ro 6 x.2.2.2.2.2.2.length (gl e_agent_Item x.2.2.2.2.2.2)])],[]⟩) 126 151 (.seq (.region [⟨(some 103),126,(.bin .lss),[.t 102,.t 101],none⟩])
 (.seq (.cond (.t 103) (.skip) (.exit 4))
 (.seq (.block 5 (.seq (.region [⟨(some 104),127,.move,[.t 102],none⟩,
 ⟨(some 11),128,.move,[.t 104],none⟩])
 (.region [⟨(some 105),129,.move,[.t 10],none⟩,
 ⟨(some 106),130,.move,[.t 1],none⟩,
 ⟨(some 107),131,.move,[.t 2],none⟩,
 ⟨(some 108),132,.move,[.t 11],none⟩,
 ⟨(some 109),133,(.indexAddr 1 none),[.t 107,.t 108],none⟩,
 ⟨(some 110),134,(.load false 1),[.t 109],none⟩,
 ⟨(some 111),135,.move,[.t 1],none⟩,
 ⟨(some 112),136,(.len false),[.t 111],none⟩,
 ⟨(some 113),137,(.conv (.int .u64)),[.t 112],none⟩,
 ⟨(some 114),138,(.bin .rem),[.t 110,.t 113],none⟩,
 ⟨(some 115),139,(.indexAddr 8 none),[.t 106,.t 114],none⟩,
 ⟨(some 116),140,(.load true 8),[.t 115],none⟩,
 ⟨(some 117),141,(.call false 103),[.t 116],none⟩,
 ⟨(some 118),145,(.call true 102),[.t 105,.t 117],none⟩])))
 (.region [⟨(some 119),149,(.bin .add),[.t 102,.c (.int .i64 (1))],none⟩,
 ⟨(some 102),150,.move,[.t 119],none⟩])))))))
 (.seq (.seq (.region [⟨(some 120),151,.move,[.t 1],none⟩,
 ⟨(some 121),152,(.len false),[.t 120],none⟩,
 ⟨(some 122),153,.move,[.c (.int .i64 (0))],none⟩])
 (.block 6 (.loopT (Int × Int × ByteArray × Int × Int × Int × (List (T_agent_Item))) (fun x => ⟨[.dead,.slice .ro 8 a.2.1.length (gl e_interregnumref24_Order a.2.1),.dead,.dead,.dead,.dead,.dead,.int .i64 x.1,.dead,.dead,.ptr 118 0,.dead,.dead,.dead,.dead,.dead,.dead,.dead,.dead,.dead,.dead,.dead,.dead,.dead,.dead,.dead,.dead,.dead,.dead,.dead,.dead,.dead,.dead,.dead,.dead,.dead,.dead,.dead,.dead,.dead,.dead,.dead,.dead,.dead,.dead,.dead,.dead,.dead,.dead,.dead,.dead,.dead,.dead,.dead,.dead,.dead,.dead,.dead,.dead,.dead,.dead,.dead,.dead,.dead,.dead,.dead,.dead,.dead,.dead,.dead,.dead,.dead,.dead,.dead,.dead,.dead,.dead,.dead,.dead,.dead,.dead,.dead,.dead,.dead,.dead,.dead,.dead,.dead,.dead,.dead,.dead,.dead,.dead,.dead,.dead,.dead,.dead,.dead,.dead,.dead,.dead,.dead,.dead,.dead,.dead,.dead,.dead,.dead,.dead,.dead,.dead,.dead,.dead,.dead,.dead,.dead,.dead,.dead,.dead,.dead,.dead,.int .i64 (a.2.1.length : Int),.int .i64 x.2.1,.dead,.dead,.dead,.dead,.dead,.dead,.dead,.dead,.dead,.dead,.dead,.dead,.dead,.dead,.dead,.dead,.dead,.dead,.dead,.dead,.dead,.dead,.dead,.dead,.dead,.dead,.dead,.dead,.dead],[(118,false,[.str x.2.2.1,.int .i64 x.2.2.2.1,.int .i64 x.2.2.2.2.1,.int .i64 x.2.2.2.2.2.1,.slice .ro 6 x.2.2.2.2.2.2.length (gl e_agent_Item x.2.2.2.2.2.2)])],[]⟩) 154 172 (.seq (.region [⟨(some 123),154,(.bin .lss),[.t 122,.t 121],none⟩])
 (.seq (.cond (.t 123) (.skip) (.exit 6))
 (.seq (.block 7 (.seq (.region [⟨(some 124),155,.move,[.t 122],none⟩,
 ⟨(some 12),156,.move,[.t 124],none⟩])
 (.region [⟨(some 125),157,.move,[.t 10],none⟩,
 ⟨(some 126),158,.move,[.t 1],none⟩,
 ⟨(some 127),159,.move,[.t 12],none⟩,
 ⟨(some 128),160,(.indexAddr 8 none),[.t 126,.t 127],none⟩,
 ⟨(some 129),161,(.load true 8),[.t 128],none⟩,
 ⟨(some 130),162,(.call false 103),[.t 129],none⟩,
 ⟨(some 131),166,(.call true 102),[.t 125,.t 130],none⟩])))
 (.region [⟨(some 132),170,(.bin .add),[.t 122,.c (.int .i64 (1))],none⟩,
 ⟨(some 122),171,.move,[.t 132],none⟩])))))))
 (.seq (.orders [[⟨(some 133),172,.move,[.t 10],none⟩,⟨(some 134),173,(.call true 106),[.t 133],none⟩,⟨(some 135),177,.move,[.t 1],none⟩,⟨(some 136),178,.move,[.t 7],none⟩,⟨(some 137),179,(.indexAddr 8 none),[.t 135,.t 136],none⟩,⟨(some 138),180,(.fieldAddr 7),[.t 137],none⟩,⟨(some 139),181,(.load false 1),[.t 138],none⟩,⟨(some 140),182,(.call false 105),[.t 134,.t 139],none⟩,⟨(some 141),186,.move,[.t 140],none⟩,⟨(some 142),187,.move,[.t 10],(some (141,true))⟩,⟨(some 143),188,(.call true 107),[.t 142],(some (141,true))⟩,⟨(some 144),192,(.field true 1 3),[.t 143],(some (141,true))⟩,⟨(some 145),193,.move,[.t 1],(some (141,true))⟩,⟨(some 146),194,.move,[.t 7],(some (141,true))⟩,⟨(some 147),195,(.indexAddr 8 none),[.t 145,.t 146],(some (141,true))⟩,⟨(some 148),196,(.fieldAddr 1),[.t 147],(some (141,true))⟩,⟨(some 149),197,(.load true 3),[.t 148],(some (141,true))⟩,⟨(some 150),198,(.eqAgg false [0,0,0]),[.t 144,.t 149],(some (141,true))⟩,⟨(some 151),199,.pick,[.t 141,.t 150,.c (.bool false)],none⟩,⟨(some 6),200,.move,[.t 151],none⟩],
 [⟨(some 133),172,.move,[.t 10],none⟩,⟨(some 135),177,.move,[.t 1],none⟩,⟨(some 136),178,.move,[.t 7],none⟩,⟨(some 137),179,(.indexAddr 8 none),[.t 135,.t 136],none⟩,⟨(some 138),180,(.fieldAddr 7),[.t 137],none⟩,⟨(some 139),181,(.load false 1),[.t 138],none⟩,⟨(some 134),173,(.call true 106),[.t 133],none⟩,⟨(some 140),182,(.call false 105),[.t 134,.t 139],none⟩,⟨(some 141),186,.move,[.t 140],none⟩,⟨(some 142),187,.move,[.t 10],(some (141,true))⟩,⟨(some 143),188,(.call true 107),[.t 142],(some (141,true))⟩,⟨(some 144),192,(.field true 1 3),[.t 143],(some (141,true))⟩,⟨(some 145),193,.move,[.t 1],(some (141,true))⟩,⟨(some 146),194,.move,[.t 7],(some (141,true))⟩,⟨(some 147),195,(.indexAddr 8 none),[.t 145,.t 146],(some (141,true))⟩,⟨(some 148),196,(.fieldAddr 1),[.t 147],(some (141,true))⟩,⟨(some 149),197,(.load true 3),[.t 148],(some (141,true))⟩,⟨(some 150),198,(.eqAgg false [0,0,0]),[.t 144,.t 149],(some (141,true))⟩,⟨(some 151),199,.pick,[.t 141,.t 150,.c (.bool false)],none⟩,⟨(some 6),200,.move,[.t 151],none⟩],
 [⟨(some 133),172,.move,[.t 10],none⟩,⟨(some 134),173,(.call true 106),[.t 133],none⟩,⟨(some 135),177,.move,[.t 1],none⟩,⟨(some 136),178,.move,[.t 7],none⟩,⟨(some 137),179,(.indexAddr 8 none),[.t 135,.t 136],none⟩,⟨(some 138),180,(.fieldAddr 7),[.t 137],none⟩,⟨(some 139),181,(.load false 1),[.t 138],none⟩,⟨(some 140),182,(.call false 105),[.t 134,.t 139],none⟩,⟨(some 141),186,.move,[.t 140],none⟩,⟨(some 142),187,.move,[.t 10],(some (141,true))⟩,⟨(some 145),193,.move,[.t 1],(some (141,true))⟩,⟨(some 146),194,.move,[.t 7],(some (141,true))⟩,⟨(some 147),195,(.indexAddr 8 none),[.t 145,.t 146],(some (141,true))⟩,⟨(some 148),196,(.fieldAddr 1),[.t 147],(some (141,true))⟩,⟨(some 149),197,(.load true 3),[.t 148],(some (141,true))⟩,⟨(some 143),188,(.call true 107),[.t 142],(some (141,true))⟩,⟨(some 144),192,(.field true 1 3),[.t 143],(some (141,true))⟩,⟨(some 150),198,(.eqAgg false [0,0,0]),[.t 144,.t 149],(some (141,true))⟩,⟨(some 151),199,.pick,[.t 141,.t 150,.c (.bool false)],none⟩,⟨(some 6),200,.move,[.t 151],none⟩],
 [⟨(some 133),172,.move,[.t 10],none⟩,⟨(some 135),177,.move,[.t 1],none⟩,⟨(some 136),178,.move,[.t 7],none⟩,⟨(some 137),179,(.indexAddr 8 none),[.t 135,.t 136],none⟩,⟨(some 138),180,(.fieldAddr 7),[.t 137],none⟩,⟨(some 139),181,(.load false 1),[.t 138],none⟩,⟨(some 134),173,(.call true 106),[.t 133],none⟩,⟨(some 140),182,(.call false 105),[.t 134,.t 139],none⟩,⟨(some 141),186,.move,[.t 140],none⟩,⟨(some 142),187,.move,[.t 10],(some (141,true))⟩,⟨(some 145),193,.move,[.t 1],(some (141,true))⟩,⟨(some 146),194,.move,[.t 7],(some (141,true))⟩,⟨(some 147),195,(.indexAddr 8 none),[.t 145,.t 146],(some (141,true))⟩,⟨(some 148),196,(.fieldAddr 1),[.t 147],(some (141,true))⟩,⟨(some 149),197,(.load true 3),[.t 148],(some (141,true))⟩,⟨(some 143),188,(.call true 107),[.t 142],(some (141,true))⟩,⟨(some 144),192,(.field true 1 3),[.t 143],(some (141,true))⟩,⟨(some 150),198,(.eqAgg false [0,0,0]),[.t 144,.t 149],(some (141,true))⟩,⟨(some 151),199,.pick,[.t 141,.t 150,.c (.bool false)],none⟩,⟨(some 6),200,.move,[.t 151],none⟩]])
 (.ret))))))))))
 [.tmp 6] 0 149
def f87.env : Env := [(98,f98.C),(100,f100.C),(103,f103.C),(108,f108.C),(99,f99.C),(101,f101.C),(102,f102.C),(106,f106.C),(105,f105.C),(107,f107.C)]
def f87.tree (a : ByteArray × (List (T_interregnumref24_Order)) × (List (Int))) : Prop := ∃ c1 : Unit,True∧Br (!(lawTrue c1)) (∃ c4 : Unit,True∧((lawTrue c4) = (lawTrue a))∧True) (∃ c7 : List (T_interregnumref24_Order),(a.2.1.length = c7.length)∧(∀ i,i < c7.length→DEqs ((gl e_interregnumref24_Order a.2.1) i) ((gl e_interregnumref24_Order c7) i))∧(few24_pre c7)∧Br (!(few24 c7)) (∃ c10 : Unit,True∧((lawTrue c10) = (lawTrue a))∧True) (Br (decide ((1000 : Int) < (a.1.size : Int))) (∃ c15 : Unit,True∧((lawTrue c15) = (lawTrue a))∧True) (Br (decide ((100 : Int) < (a.2.2.length : Int))) (∃ c20 : Unit,True∧((lawTrue c20) = (lawTrue a))∧True) (∃ (I24 : (Int × Int)→Prop) (μ25 : (Int × Int)→Nat),(∃ x23 : Int × Int,(a.1 = a.1)∧(a.2.1.length = a.2.1.length)∧(∀ i,i < a.2.1.length→DEqs ((gl e_interregnumref24_Order a.2.1) i) ((gl e_interregnumref24_Order a.2.1) i))∧(a.2.2.length = a.2.2.length)∧(∀ i,i < a.2.2.length→DEqs ((gl e_u64 a.2.2) i) ((gl e_u64 a.2.2) i))∧((-1 : Int) = x23.1)∧((a.2.1.length : Int) = (a.2.1.length : Int))∧((0 : Int) = x23.2)∧I24 x23)∧∀ y26 : Int × Int,I24 y26→(Br (decide (y26.2 < (a.2.1.length : Int))) (∃ (I30 : (Int × Int × Int × Int)→Prop) (μ31 : (Int × Int × Int × Int)→Nat),(∃ x29 : Int × Int × Int × Int,(a.1 = a.1)∧(a.2.1.length = a.2.1.length)∧(∀ i,i < a.2.1.length→DEqs ((gl e_interregnumref24_Order a.2.1) i) ((gl e_interregnumref24_Order a.2.1) i))∧(a.2.2.length = a.2.2.length)∧(∀ i,i < a.2.2.length→DEqs ((gl e_u64 a.2.2) i) ((gl e_u64 a.2.2) i))∧(y26.1 = x29.1)∧(y26.2 = x29.2.1)∧((0 : Int) = x29.2.2.1)∧((a.2.1.length : Int) = (a.2.1.length : Int))∧(y26.2 = x29.2.2.2)∧I30 x29)∧∀ y32 : Int × Int × Int × Int,I30 y32→(Br (decide (y32.2.2.1 < y32.2.1)) (Br (decide ((0 : Int)≤y32.2.1) && decide (y32.2.1 < (a.2.1.length : Int))) (Br (decide ((0 : Int)≤y32.2.2.1) && decide (y32.2.2.1 < (a.2.1.length : Int))) (Br (((((at_ a.2.1 y32.2.1).2.1).1) == (((at_ a.2.1 y32.2.2.1).2.1).1)) && (((((at_ a.2.1 y32.2.1).2.1).2.1) == (((at_ a.2.1 y32.2.2.1).2.1).2.1)) && ((((at_ a.2.1 y32.2.1).2.1).2.2) == (((at_ a.2.1 y32.2.2.1).2.1).2.2)))) ((true = (lawTrue a))∧True) (Let (IntKind.i64.wrap (y32.2.2.1 + (1 : Int))) (fun v40 : Int => ∃ x41 : Int × Int × Int × Int,(a.1 = a.1)∧(a.2.1.length = a.2.1.length)∧(∀ i,i < a.2.1.length→DEqs ((gl e_interregnumref24_Order a.2.1) i) ((gl e_interregnumref24_Order a.2.1) i))∧(a.2.2.length = a.2.2.length)∧(∀ i,i < a.2.2.length→DEqs ((gl e_u64 a.2.2) i) ((gl e_u64 a.2.2) i))∧(y32.1 = x41.1)∧(y32.2.1 = x41.2.1)∧(v40 = x41.2.2.1)∧((a.2.1.length : Int) = (a.2.1.length : Int))∧(y32.2.2.2 = x41.2.2.2)∧I30 x41∧μ31 x41 < μ31 y32))) False) False) (Br (decide ((0 : Int)≤y32.2.1) && decide (y32.2.1 < (a.2.1.length : Int))) (∃ c51 : T_interregnumref24_Order,(((at_ a.2.1 y32.2.1).1) = c51.1)∧((((at_ a.2.1 y32.2.1).2.1).1) = c51.2.1.1)∧((((at_ a.2.1 y32.2.1).2.1).2.1) = c51.2.1.2.1)∧((((at_ a.2.1 y32.2.1).2.1).2.2) = c51.2.1.2.2)∧((((at_ a.2.1 y32.2.1).2.2.1).1) = c51.2.2.1.1)∧((((at_ a.2.1 y32.2.1).2.2.1).2.1) = c51.2.2.1.2.1)∧((((at_ a.2.1 y32.2.1).2.2.1).2.2) = c51.2.2.1.2.2)∧((((at_ a.2.1 y32.2.1).2.2.2).length) = c51.2.2.2.length)∧(∀ i,i < c51.2.2.2.length→DEqs ((gl e_interregnumref24_Item ((at_ a.2.1 y32.2.1).2.2.2)) i) ((gl e_interregnumref24_Item c51.2.2.2) i))∧(ord_pre c51)∧∃ c52 : T_agent_Order,(((madeA c51).1) = c52.1)∧((((madeA c51).2.1).1) = c52.2.1.1)∧((((madeA c51).2.1).2.1) = c52.2.1.2.1)∧((((madeA c51).2.1).2.2) = c52.2.1.2.2)∧((((madeA c51).2.2.1).1) = c52.2.2.1.1)∧((((madeA c51).2.2.1).2.1) = c52.2.2.1.2.1)∧((((madeA c51).2.2.1).2.2) = c52.2.2.1.2.2)∧((((madeA c51).2.2.2).length) = c52.2.2.2.length)∧(∀ i,i < c52.2.2.2.length→DEqs ((gl e_agent_Item ((madeA c51).2.2.2)) i) ((gl e_agent_Item c52.2.2.2) i))∧(ord_pre c52)∧Br (!(ordB c52)) ((true = (lawTrue a))∧True) (Br (decide ((0 : Int)≤y32.2.1) && decide (y32.2.1 < (a.2.1.length : Int))) (Br (!(((at_ a.2.1 y32.2.1).1).toList == a.1.toList)) ((true = (lawTrue a))∧True) (Br (decide ((0 : Int)≤y32.2.1) && decide (y32.2.1 < (a.2.1.length : Int))) (∃ c61 : T_ar3_i64 × T_ar3_i64,((((at_ a.2.1 y32.2.1).2.1).1) = c61.1.1)∧((((at_ a.2.1 y32.2.1).2.1).2.1) = c61.1.2.1)∧((((at_ a.2.1 y32.2.1).2.1).2.2) = c61.1.2.2)∧((0 : Int) = c61.2.1)∧((0 : Int) = c61.2.2.1)∧((0 : Int) = c61.2.2.2)∧True∧Br (decide ((cmpS c61) < (0 : Int))) ((true = (lawTrue a))∧True) (Br (decide (y32.1 < (0 : Int))) (Let (IntKind.i64.wrap (y32.2.2.2 + (1 : Int))) (fun v67 : Int => ∃ x68 : Int × Int,(a.1 = a.1)∧(a.2.1.length = a.2.1.length)∧(∀ i,i < a.2.1.length→DEqs ((gl e_interregnumref24_Order a.2.1) i) ((gl e_interregnumref24_Order a.2.1) i))∧(a.2.2.length = a.2.2.length)∧(∀ i,i < a.2.2.length→DEqs ((gl e_u64 a.2.2) i) ((gl e_u64 a.2.2) i))∧(y32.2.1 = x68.1)∧((a.2.1.length : Int) = (a.2.1.length : Int))∧(v67 = x68.2)∧I24 x68∧μ25 x68 < μ25 y26)) (Br (decide ((0 : Int)≤y32.2.1) && decide (y32.2.1 < (a.2.1.length : Int))) (Br (decide ((0 : Int)≤y32.1) && decide (y32.1 < (a.2.1.length : Int))) (∃ c75 : T_ar3_i64 × T_ar3_i64,((((at_ a.2.1 y32.2.1).2.1).1) = c75.1.1)∧((((at_ a.2.1 y32.2.1).2.1).2.1) = c75.1.2.1)∧((((at_ a.2.1 y32.2.1).2.1).2.2) = c75.1.2.2)∧((((at_ a.2.1 y32.1).2.1).1) = c75.2.1)∧((((at_ a.2.1 y32.1).2.1).2.1) = c75.2.2.1)∧((((at_ a.2.1 y32.1).2.1).2.2) = c75.2.2.2)∧True∧Br (decide ((0 : Int) < (cmpS c75))) (Let (IntKind.i64.wrap (y32.2.2.2 + (1 : Int))) (fun v78 : Int => ∃ x79 : Int × Int,(a.1 = a.1)∧(a.2.1.length = a.2.1.length)∧(∀ i,i < a.2.1.length→DEqs ((gl e_interregnumref24_Order a.2.1) i) ((gl e_interregnumref24_Order a.2.1) i))∧(a.2.2.length = a.2.2.length)∧(∀ i,i < a.2.2.length→DEqs ((gl e_u64 a.2.2) i) ((gl e_u64 a.2.2) i))∧(y32.2.1 = x79.1)∧((a.2.1.length : Int) = (a.2.1.length : Int))∧(v78 = x79.2)∧I24 x79∧μ25 x79 < μ25 y26)) (Let (IntKind.i64.wrap (y32.2.2.2 + (1 : Int))) (fun v84 : Int => ∃ x85 : Int × Int,(a.1 = a.1)∧(a.2.1.length = a.2.1.length)∧(∀ i,i < a.2.1.length→DEqs ((gl e_interregnumref24_Order a.2.1) i) ((gl e_interregnumref24_Order a.2.1) i))∧(a.2.2.length = a.2.2.length)∧(∀ i,i < a.2.2.length→DEqs ((gl e_u64 a.2.2) i) ((gl e_u64 a.2.2) i))∧(y32.1 = x85.1)∧((a.2.1.length : Int) = (a.2.1.length : Int))∧(v84 = x85.2)∧I24 x85∧μ25 x85 < μ25 y26))) False) False))) False)) False)) False))) (Br (decide (y26.1 < (0 : Int))) ((true = (lawTrue a))∧True) (∃ c117 : ByteArray,(a.1 = c117)∧True∧∃ (I119 : (Int × Int × ByteArray × Int × Int × Int × (List (T_agent_Item)))→Prop) (μ120 : (Int × Int × ByteArray × Int × Int × Int × (List (T_agent_Item)))→Nat),(∃ x118 : Int × Int × ByteArray × Int × Int × Int × (List (T_agent_Item)),(a.2.1.length = a.2.1.length)∧(∀ i,i < a.2.1.length→DEqs ((gl e_interregnumref24_Order a.2.1) i) ((gl e_interregnumref24_Order a.2.1) i))∧(a.2.2.length = a.2.2.length)∧(∀ i,i < a.2.2.length→DEqs ((gl e_u64 a.2.2) i) ((gl e_u64 a.2.2) i))∧(y26.1 = x118.1)∧((a.2.2.length : Int) = (a.2.2.length : Int))∧((0 : Int) = x118.2.1)∧(((newA c117).1) = x118.2.2.1)∧((((newA c117).2.1).1) = x118.2.2.2.1)∧((((newA c117).2.1).2.1) = x118.2.2.2.2.1)∧((((newA c117).2.1).2.2) = x118.2.2.2.2.2.1)∧((((newA c117).2.2).length) = x118.2.2.2.2.2.2.length)∧(∀ i,i < x118.2.2.2.2.2.2.length→DEqs ((gl e_agent_Item ((newA c117).2.2)) i) ((gl e_agent_Item x118.2.2.2.2.2.2) i))∧I119 x118)∧∀ y121 : Int × Int × ByteArray × Int × Int × Int × (List (T_agent_Item)),I119 y121→(Br (decide (y121.2.1 < (a.2.2.length : Int))) (Br (decide ((0 : Int)≤y121.2.1) && decide (y121.2.1 < (a.2.2.length : Int))) (Let (IntKind.u64.wrap (a.2.1.length : Int)) (fun v125 : Int => Br (!(v125 == 0)) (Let (Int.tmod (at_ a.2.2 y121.2.1) v125) (fun v126 : Int => Br (decide ((0 : Int)≤v126) && decide (v126 < (a.2.1.length : Int))) (∃ c128 : T_interregnumref24_Order,(((at_ a.2.1 v126).1) = c128.1)∧((((at_ a.2.1 v126).2.1).1) = c128.2.1.1)∧((((at_ a.2.1 v126).2.1).2.1) = c128.2.1.2.1)∧((((at_ a.2.1 v126).2.1).2.2) = c128.2.1.2.2)∧((((at_ a.2.1 v126).2.2.1).1) = c128.2.2.1.1)∧((((at_ a.2.1 v126).2.2.1).2.1) = c128.2.2.1.2.1)∧((((at_ a.2.1 v126).2.2.1).2.2) = c128.2.2.1.2.2)∧((((at_ a.2.1 v126).2.2.2).length) = c128.2.2.2.length)∧(∀ i,i < c128.2.2.2.length→DEqs ((gl e_interregnumref24_Item ((at_ a.2.1 v126).2.2.2)) i) ((gl e_interregnumref24_Item c128.2.2.2) i))∧(ord_pre c128)∧∃ c129 : T_agent_Agent × T_agent_Order,(((madeA c128).1) = c129.2.1)∧((((madeA c128).2.1).1) = c129.2.2.1.1)∧((((madeA c128).2.1).2.1) = c129.2.2.1.2.1)∧((((madeA c128).2.1).2.2) = c129.2.2.1.2.2)∧((((madeA c128).2.2.1).1) = c129.2.2.2.1.1)∧((((madeA c128).2.2.1).2.1) = c129.2.2.2.1.2.1)∧((((madeA c128).2.2.1).2.2) = c129.2.2.2.1.2.2)∧((((madeA c128).2.2.2).length) = c129.2.2.2.2.length)∧(∀ i,i < c129.2.2.2.2.length→DEqs ((gl e_agent_Item ((madeA c128).2.2.2)) i) ((gl e_agent_Item c129.2.2.2.2) i))∧(y121.2.2.1 = c129.1.1)∧(y121.2.2.2.1 = c129.1.2.1.1)∧(y121.2.2.2.2.1 = c129.1.2.1.2.1)∧(y121.2.2.2.2.2.1 = c129.1.2.1.2.2)∧(y121.2.2.2.2.2.2.length = c129.1.2.2.length)∧(∀ i,i < c129.1.2.2.length→DEqs ((gl e_agent_Item y121.2.2.2.2.2.2) i) ((gl e_agent_Item c129.1.2.2) i))∧(takeA_pre c129)∧Let (IntKind.i64.wrap (y121.2.1 + (1 : Int))) (fun v130 : Int => ∃ x131 : Int × Int × ByteArray × Int × Int × Int × (List (T_agent_Item)),(a.2.1.length = a.2.1.length)∧(∀ i,i < a.2.1.length→DEqs ((gl e_interregnumref24_Order a.2.1) i) ((gl e_interregnumref24_Order a.2.1) i))∧(a.2.2.length = a.2.2.length)∧(∀ i,i < a.2.2.length→DEqs ((gl e_u64 a.2.2) i) ((gl e_u64 a.2.2) i))∧(y121.1 = x131.1)∧((a.2.2.length : Int) = (a.2.2.length : Int))∧(v130 = x131.2.1)∧((((takeA c129).2.2).1) = x131.2.2.1)∧(((((takeA c129).2.2).2.1).1) = x131.2.2.2.1)∧(((((takeA c129).2.2).2.1).2.1) = x131.2.2.2.2.1)∧(((((takeA c129).2.2).2.1).2.2) = x131.2.2.2.2.2.1)∧(((((takeA c129).2.2).2.2).length) = x131.2.2.2.2.2.2.length)∧(∀ i,i < x131.2.2.2.2.2.2.length→DEqs ((gl e_agent_Item (((takeA c129).2.2).2.2)) i) ((gl e_agent_Item x131.2.2.2.2.2.2) i))∧I119 x131∧μ120 x131 < μ120 y121)) False)) False)) False) (∃ (I144 : (Int × Int × ByteArray × Int × Int × Int × (List (T_agent_Item)))→Prop) (μ145 : (Int × Int × ByteArray × Int × Int × Int × (List (T_agent_Item)))→Nat),(∃ x143 : Int × Int × ByteArray × Int × Int × Int × (List (T_agent_Item)),(a.2.1.length = a.2.1.length)∧(∀ i,i < a.2.1.length→DEqs ((gl e_interregnumref24_Order a.2.1) i) ((gl e_interregnumref24_Order a.2.1) i))∧(y121.1 = x143.1)∧((a.2.1.length : Int) = (a.2.1.length : Int))∧((0 : Int) = x143.2.1)∧(y121.2.2.1 = x143.2.2.1)∧(y121.2.2.2.1 = x143.2.2.2.1)∧(y121.2.2.2.2.1 = x143.2.2.2.2.1)∧(y121.2.2.2.2.2.1 = x143.2.2.2.2.2.1)∧(y121.2.2.2.2.2.2.length = x143.2.2.2.2.2.2.length)∧(∀ i,i < x143.2.2.2.2.2.2.length→DEqs ((gl e_agent_Item y121.2.2.2.2.2.2) i) ((gl e_agent_Item x143.2.2.2.2.2.2) i))∧I144 x143)∧∀ y146 : Int × Int × ByteArray × Int × Int × Int × (List (T_agent_Item)),I144 y146→(Br (decide (y146.2.1 < (a.2.1.length : Int))) (Br (decide ((0 : Int)≤y146.2.1) && decide (y146.2.1 < (a.2.1.length : Int))) (∃ c150 : T_interregnumref24_Order,(((at_ a.2.1 y146.2.1).1) = c150.1)∧((((at_ a.2.1 y146.2.1).2.1).1) = c150.2.1.1)∧((((at_ a.2.1 y146.2.1).2.1).2.1) = c150.2.1.2.1)∧((((at_ a.2.1 y146.2.1).2.1).2.2) = c150.2.1.2.2)∧((((at_ a.2.1 y146.2.1).2.2.1).1) = c150.2.2.1.1)∧((((at_ a.2.1 y146.2.1).2.2.1).2.1) = c150.2.2.1.2.1)∧((((at_ a.2.1 y146.2.1).2.2.1).2.2) = c150.2.2.1.2.2)∧((((at_ a.2.1 y146.2.1).2.2.2).length) = c150.2.2.2.length)∧(∀ i,i < c150.2.2.2.length→DEqs ((gl e_interregnumref24_Item ((at_ a.2.1 y146.2.1).2.2.2)) i) ((gl e_interregnumref24_Item c150.2.2.2) i))∧(ord_pre c150)∧∃ c151 : T_agent_Agent × T_agent_Order,(((madeA c150).1) = c151.2.1)∧((((madeA c150).2.1).1) = c151.2.2.1.1)∧((((madeA c150).2.1).2.1) = c151.2.2.1.2.1)∧((((madeA c150).2.1).2.2) = c151.2.2.1.2.2)∧((((madeA c150).2.2.1).1) = c151.2.2.2.1.1)∧((((madeA c150).2.2.1).2.1) = c151.2.2.2.1.2.1)∧((((madeA c150).2.2.1).2.2) = c151.2.2.2.1.2.2)∧((((madeA c150).2.2.2).length) = c151.2.2.2.2.length)∧(∀ i,i < c151.2.2.2.2.length→DEqs ((gl e_agent_Item ((madeA c150).2.2.2)) i) ((gl e_agent_Item c151.2.2.2.2) i))∧(y146.2.2.1 = c151.1.1)∧(y146.2.2.2.1 = c151.1.2.1.1)∧(y146.2.2.2.2.1 = c151.1.2.1.2.1)∧(y146.2.2.2.2.2.1 = c151.1.2.1.2.2)∧(y146.2.2.2.2.2.2.length = c151.1.2.2.length)∧(∀ i,i < c151.1.2.2.length→DEqs ((gl e_agent_Item y146.2.2.2.2.2.2) i) ((gl e_agent_Item c151.1.2.2) i))∧(takeA_pre c151)∧Let (IntKind.i64.wrap (y146.2.1 + (1 : Int))) (fun v152 : Int => ∃ x153 : Int × Int × ByteArray × Int × Int × Int × (List (T_agent_Item)),(a.2.1.length = a.2.1.length)∧(∀ i,i < a.2.1.length→DEqs ((gl e_interregnumref24_Order a.2.1) i) ((gl e_interregnumref24_Order a.2.1) i))∧(y146.1 = x153.1)∧((a.2.1.length : Int) = (a.2.1.length : Int))∧(v152 = x153.2.1)∧((((takeA c151).2.2).1) = x153.2.2.1)∧(((((takeA c151).2.2).2.1).1) = x153.2.2.2.1)∧(((((takeA c151).2.2).2.1).2.1) = x153.2.2.2.2.1)∧(((((takeA c151).2.2).2.1).2.2) = x153.2.2.2.2.2.1)∧(((((takeA c151).2.2).2.2).length) = x153.2.2.2.2.2.2.length)∧(∀ i,i < x153.2.2.2.2.2.2.length→DEqs ((gl e_agent_Item (((takeA c151).2.2).2.2)) i) ((gl e_agent_Item x153.2.2.2.2.2.2) i))∧I144 x153∧μ145 x153 < μ145 y146)) False) ((∃ c161 : T_agent_Agent,(y146.2.2.1 = c161.1)∧(y146.2.2.2.1 = c161.2.1.1)∧(y146.2.2.2.2.1 = c161.2.1.2.1)∧(y146.2.2.2.2.2.1 = c161.2.1.2.2)∧(y146.2.2.2.2.2.2.length = c161.2.2.length)∧(∀ i,i < c161.2.2.length→DEqs ((gl e_agent_Item y146.2.2.2.2.2.2) i) ((gl e_agent_Item c161.2.2) i))∧(runA_pre c161)∧Br (decide ((0 : Int)≤y146.1) && decide (y146.1 < (a.2.1.length : Int))) (∃ c163 : (List (T_agent_Item)) × (List (T_interregnumref24_Item)),((((runningA c161).1).length) = c163.1.length)∧(∀ i,i < c163.1.length→DEqs ((gl e_agent_Item ((runningA c161).1)) i) ((gl e_agent_Item c163.1) i))∧((((at_ a.2.1 y146.1).2.2.2).length) = c163.2.length)∧(∀ i,i < c163.2.length→DEqs ((gl e_interregnumref24_Item ((at_ a.2.1 y146.1).2.2.2)) i) ((gl e_interregnumref24_Item c163.2) i))∧(sameI_pre c163)∧Br (sameI c163) (∃ c166 : T_agent_Agent,((((runningA c161).2).1) = c166.1)∧(((((runningA c161).2).2.1).1) = c166.2.1.1)∧(((((runningA c161).2).2.1).2.1) = c166.2.1.2.1)∧(((((runningA c161).2).2.1).2.2) = c166.2.1.2.2)∧(((((runningA c161).2).2.2).length) = c166.2.2.length)∧(∀ i,i < c166.2.2.length→DEqs ((gl e_agent_Item (((runningA c161).2).2.2)) i) ((gl e_agent_Item c166.2.2) i))∧True∧Br (decide ((0 : Int)≤y146.1) && decide (y146.1 < (a.2.1.length : Int))) ((((((((reportA c166).1).2).1) == (((at_ a.2.1 y146.1).2.1).1)) && ((((((reportA c166).1).2).2.1) == (((at_ a.2.1 y146.1).2.1).2.1)) && (((((reportA c166).1).2).2.2) == (((at_ a.2.1 y146.1).2.1).2.2)))) = (lawTrue a))∧True) False) ((false = (lawTrue a))∧True)) False)∧((Br (decide ((0 : Int)≤y146.1) && decide (y146.1 < (a.2.1.length : Int))) (∃ c162 : T_agent_Agent,(y146.2.2.1 = c162.1)∧(y146.2.2.2.1 = c162.2.1.1)∧(y146.2.2.2.2.1 = c162.2.1.2.1)∧(y146.2.2.2.2.2.1 = c162.2.1.2.2)∧(y146.2.2.2.2.2.2.length = c162.2.2.length)∧(∀ i,i < c162.2.2.length→DEqs ((gl e_agent_Item y146.2.2.2.2.2.2) i) ((gl e_agent_Item c162.2.2) i))∧(runA_pre c162)∧∃ c163 : (List (T_agent_Item)) × (List (T_interregnumref24_Item)),((((runningA c162).1).length) = c163.1.length)∧(∀ i,i < c163.1.length→DEqs ((gl e_agent_Item ((runningA c162).1)) i) ((gl e_agent_Item c163.1) i))∧((((at_ a.2.1 y146.1).2.2.2).length) = c163.2.length)∧(∀ i,i < c163.2.length→DEqs ((gl e_interregnumref24_Item ((at_ a.2.1 y146.1).2.2.2)) i) ((gl e_interregnumref24_Item c163.2) i))∧(sameI_pre c163)∧Br (sameI c163) (∃ c166 : T_agent_Agent,((((runningA c162).2).1) = c166.1)∧(((((runningA c162).2).2.1).1) = c166.2.1.1)∧(((((runningA c162).2).2.1).2.1) = c166.2.1.2.1)∧(((((runningA c162).2).2.1).2.2) = c166.2.1.2.2)∧(((((runningA c162).2).2.2).length) = c166.2.2.length)∧(∀ i,i < c166.2.2.length→DEqs ((gl e_agent_Item (((runningA c162).2).2.2)) i) ((gl e_agent_Item c166.2.2) i))∧True∧Br (decide ((0 : Int)≤y146.1) && decide (y146.1 < (a.2.1.length : Int))) ((((((((reportA c166).1).2).1) == (((at_ a.2.1 y146.1).2.1).1)) && ((((((reportA c166).1).2).2.1) == (((at_ a.2.1 y146.1).2.1).2.1)) && (((((reportA c166).1).2).2.2) == (((at_ a.2.1 y146.1).2.1).2.2)))) = (lawTrue a))∧True) False) ((false = (lawTrue a))∧True)) False)∧((∃ c161 : T_agent_Agent,(y146.2.2.1 = c161.1)∧(y146.2.2.2.1 = c161.2.1.1)∧(y146.2.2.2.2.1 = c161.2.1.2.1)∧(y146.2.2.2.2.2.1 = c161.2.1.2.2)∧(y146.2.2.2.2.2.2.length = c161.2.2.length)∧(∀ i,i < c161.2.2.length→DEqs ((gl e_agent_Item y146.2.2.2.2.2.2) i) ((gl e_agent_Item c161.2.2) i))∧(runA_pre c161)∧Br (decide ((0 : Int)≤y146.1) && decide (y146.1 < (a.2.1.length : Int))) (∃ c163 : (List (T_agent_Item)) × (List (T_interregnumref24_Item)),((((runningA c161).1).length) = c163.1.length)∧(∀ i,i < c163.1.length→DEqs ((gl e_agent_Item ((runningA c161).1)) i) ((gl e_agent_Item c163.1) i))∧((((at_ a.2.1 y146.1).2.2.2).length) = c163.2.length)∧(∀ i,i < c163.2.length→DEqs ((gl e_interregnumref24_Item ((at_ a.2.1 y146.1).2.2.2)) i) ((gl e_interregnumref24_Item c163.2) i))∧(sameI_pre c163)∧Br (sameI c163) (Br (decide ((0 : Int)≤y146.1) && decide (y146.1 < (a.2.1.length : Int))) (∃ c167 : T_agent_Agent,((((runningA c161).2).1) = c167.1)∧(((((runningA c161).2).2.1).1) = c167.2.1.1)∧(((((runningA c161).2).2.1).2.1) = c167.2.1.2.1)∧(((((runningA c161).2).2.1).2.2) = c167.2.1.2.2)∧(((((runningA c161).2).2.2).length) = c167.2.2.length)∧(∀ i,i < c167.2.2.length→DEqs ((gl e_agent_Item (((runningA c161).2).2.2)) i) ((gl e_agent_Item c167.2.2) i))∧True∧(((((((reportA c167).1).2).1) == (((at_ a.2.1 y146.1).2.1).1)) && ((((((reportA c167).1).2).2.1) == (((at_ a.2.1 y146.1).2.1).2.1)) && (((((reportA c167).1).2).2.2) == (((at_ a.2.1 y146.1).2.1).2.2)))) = (lawTrue a))∧True) False) ((false = (lawTrue a))∧True)) False)∧(Br (decide ((0 : Int)≤y146.1) && decide (y146.1 < (a.2.1.length : Int))) (∃ c162 : T_agent_Agent,(y146.2.2.1 = c162.1)∧(y146.2.2.2.1 = c162.2.1.1)∧(y146.2.2.2.2.1 = c162.2.1.2.1)∧(y146.2.2.2.2.2.1 = c162.2.1.2.2)∧(y146.2.2.2.2.2.2.length = c162.2.2.length)∧(∀ i,i < c162.2.2.length→DEqs ((gl e_agent_Item y146.2.2.2.2.2.2) i) ((gl e_agent_Item c162.2.2) i))∧(runA_pre c162)∧∃ c163 : (List (T_agent_Item)) × (List (T_interregnumref24_Item)),((((runningA c162).1).length) = c163.1.length)∧(∀ i,i < c163.1.length→DEqs ((gl e_agent_Item ((runningA c162).1)) i) ((gl e_agent_Item c163.1) i))∧((((at_ a.2.1 y146.1).2.2.2).length) = c163.2.length)∧(∀ i,i < c163.2.length→DEqs ((gl e_interregnumref24_Item ((at_ a.2.1 y146.1).2.2.2)) i) ((gl e_interregnumref24_Item c163.2) i))∧(sameI_pre c163)∧Br (sameI c163) (Br (decide ((0 : Int)≤y146.1) && decide (y146.1 < (a.2.1.length : Int))) (∃ c167 : T_agent_Agent,((((runningA c162).2).1) = c167.1)∧(((((runningA c162).2).2.1).1) = c167.2.1.1)∧(((((runningA c162).2).2.1).2.1) = c167.2.1.2.1)∧(((((runningA c162).2).2.1).2.2) = c167.2.1.2.2)∧(((((runningA c162).2).2.2).length) = c167.2.2.length)∧(∀ i,i < c167.2.2.length→DEqs ((gl e_agent_Item (((runningA c162).2).2.2)) i) ((gl e_agent_Item c167.2.2) i))∧True∧(((((((reportA c167).1).2).1) == (((at_ a.2.1 y146.1).2.1).1)) && ((((((reportA c167).1).2).2.1) == (((at_ a.2.1 y146.1).2.1).2.1)) && (((((reportA c167).1).2).2.2) == (((at_ a.2.1 y146.1).2.1).2.2)))) = (lawTrue a))∧True) False) ((false = (lawTrue a))∧True)) False))))))))))))))
def f87.vc (a : ByteArray × (List (T_interregnumref24_Order)) × (List (Int))) : Prop := ((¬ ((lawTrue ()) = true)→((lawTrue ()) = lawTrue a))∧(¬ (¬ ((lawTrue ()) = true))→(few24_pre a.2.1∧((¬ ((few24 (a.2.1)) = true)→((lawTrue ()) = lawTrue a))∧(¬ (¬ ((few24 (a.2.1)) = true))→(((1000 : Int) < (a.1.size : Int)→((lawTrue ()) = lawTrue a))∧(¬ ((1000 : Int) < (a.1.size : Int))→(((100 : Int) < (a.2.2.length : Int)→((lawTrue ()) = lawTrue a))∧(¬ ((100 : Int) < (a.2.2.length : Int))→(∃ (I24 : (Int × Int)→Prop) (μ25 : (Int × Int)→Nat),I24 ((-1 : Int),(0 : Int))∧∀ y26 : Int × Int,I24 y26→((y26.2 < (a.2.1.length : Int)→(∃ (I30 : (Int × Int × Int × Int)→Prop) (μ31 : (Int × Int × Int × Int)→Nat),I30 (y26.1,y26.2,(0 : Int),y26.2)∧∀ y32 : Int × Int × Int × Int,I30 y32→((y32.2.2.1 < y32.2.1→((0 : Int)≤y32.2.1∧y32.2.1 < (a.2.1.length : Int)∧((0 : Int)≤y32.2.2.1∧y32.2.2.1 < (a.2.1.length : Int)∧(((((at_ a.2.1 y32.2.1).2.1).1) = (((at_ a.2.1 y32.2.2.1).2.1).1)∧(((at_ a.2.1 y32.2.1).2.1).2.1) = (((at_ a.2.1 y32.2.2.1).2.1).2.1)∧(((at_ a.2.1 y32.2.1).2.1).2.2) = (((at_ a.2.1 y32.2.2.1).2.1).2.2)→(true = lawTrue a))∧(¬ ((((at_ a.2.1 y32.2.1).2.1).1) = (((at_ a.2.1 y32.2.2.1).2.1).1)∧(((at_ a.2.1 y32.2.1).2.1).2.1) = (((at_ a.2.1 y32.2.2.1).2.1).2.1)∧(((at_ a.2.1 y32.2.1).2.1).2.2) = (((at_ a.2.1 y32.2.2.1).2.1).2.2))→(-9223372036854775808≤(y32.2.2.1 + (1 : Int))∧(y32.2.2.1 + (1 : Int))≤9223372036854775807∧(I30 (y32.1,y32.2.1,(y32.2.2.1 + (1 : Int)),y32.2.2.2)∧μ31 (y32.1,y32.2.1,(y32.2.2.1 + (1 : Int)),y32.2.2.2) < μ31 y32)))))))∧(¬ (y32.2.2.1 < y32.2.1)→((0 : Int)≤y32.2.1∧y32.2.1 < (a.2.1.length : Int)∧(ord_pre (at_ a.2.1 y32.2.1)∧(ord_pre (madeA (at_ a.2.1 y32.2.1))∧((¬ ((ordB (madeA (at_ a.2.1 y32.2.1))) = true)→(true = lawTrue a))∧(¬ (¬ ((ordB (madeA (at_ a.2.1 y32.2.1))) = true))→((0 : Int)≤y32.2.1∧y32.2.1 < (a.2.1.length : Int)∧((¬ (((at_ a.2.1 y32.2.1).1) = a.1)→(true = lawTrue a))∧(¬ (¬ (((at_ a.2.1 y32.2.1).1) = a.1))→((0 : Int)≤y32.2.1∧y32.2.1 < (a.2.1.length : Int)∧(((cmpS (((at_ a.2.1 y32.2.1).2.1),((0 : Int),(0 : Int),(0 : Int)))) < (0 : Int)→(true = lawTrue a))∧(¬ ((cmpS (((at_ a.2.1 y32.2.1).2.1),((0 : Int),(0 : Int),(0 : Int)))) < (0 : Int))→((y32.1 < (0 : Int)→(-9223372036854775808≤(y32.2.2.2 + (1 : Int))∧(y32.2.2.2 + (1 : Int))≤9223372036854775807∧(I24 (y32.2.1,(y32.2.2.2 + (1 : Int)))∧μ25 (y32.2.1,(y32.2.2.2 + (1 : Int))) < μ25 y26)))∧(¬ (y32.1 < (0 : Int))→((0 : Int)≤y32.2.1∧y32.2.1 < (a.2.1.length : Int)∧((0 : Int)≤y32.1∧y32.1 < (a.2.1.length : Int)∧(((0 : Int) < (cmpS (((at_ a.2.1 y32.2.1).2.1),((at_ a.2.1 y32.1).2.1)))→(-9223372036854775808≤(y32.2.2.2 + (1 : Int))∧(y32.2.2.2 + (1 : Int))≤9223372036854775807∧(I24 (y32.2.1,(y32.2.2.2 + (1 : Int)))∧μ25 (y32.2.1,(y32.2.2.2 + (1 : Int))) < μ25 y26)))∧(¬ ((0 : Int) < (cmpS (((at_ a.2.1 y32.2.1).2.1),((at_ a.2.1 y32.1).2.1))))→(-9223372036854775808≤(y32.2.2.2 + (1 : Int))∧(y32.2.2.2 + (1 : Int))≤9223372036854775807∧(I24 (y32.1,(y32.2.2.2 + (1 : Int)))∧μ25 (y32.1,(y32.2.2.2 + (1 : Int))) < μ25 y26)))))))))))))))))))))))∧(¬ (y26.2 < (a.2.1.length : Int))→((y26.1 < (0 : Int)→(true = lawTrue a))∧(¬ (y26.1 < (0 : Int))→(∃ (I119 : (Int × Int × ByteArray × Int × Int × Int × (List (T_agent_Item)))→Prop) (μ120 : (Int × Int × ByteArray × Int × Int × Int × (List (T_agent_Item)))→Nat),I119 (y26.1,(0 : Int),(newA (a.1)).1,((newA (a.1)).2.1).1,((newA (a.1)).2.1).2.1,((newA (a.1)).2.1).2.2,(newA (a.1)).2.2)∧∀ y121 : Int × Int × ByteArray × Int × Int × Int × (List (T_agent_Item)),I119 y121→((y121.2.1 < (a.2.2.length : Int)→((0 : Int)≤y121.2.1∧y121.2.1 < (a.2.2.length : Int)∧(0≤(a.2.1.length : Int)∧(a.2.1.length : Int)≤18446744073709551615∧(0≤(at_ a.2.2 y121.2.1)∧0 < (a.2.1.length : Int)∧((0 : Int)≤((at_ a.2.2 y121.2.1) % (a.2.1.length : Int))∧((at_ a.2.2 y121.2.1) % (a.2.1.length : Int)) < (a.2.1.length : Int)∧(ord_pre (at_ a.2.1 ((at_ a.2.2 y121.2.1) % (a.2.1.length : Int)))∧(takeA_pre ((y121.2.2.1,(y121.2.2.2.1,y121.2.2.2.2.1,y121.2.2.2.2.2.1),y121.2.2.2.2.2.2),(madeA (at_ a.2.1 ((at_ a.2.2 y121.2.1) % (a.2.1.length : Int)))))∧(-9223372036854775808≤(y121.2.1 + (1 : Int))∧(y121.2.1 + (1 : Int))≤9223372036854775807∧(I119 (y121.1,(y121.2.1 + (1 : Int)),((takeA ((y121.2.2.1,(y121.2.2.2.1,y121.2.2.2.2.1,y121.2.2.2.2.2.1),y121.2.2.2.2.2.2),(madeA (at_ a.2.1 ((at_ a.2.2 y121.2.1) % (a.2.1.length : Int)))))).2.2).1,(((takeA ((y121.2.2.1,(y121.2.2.2.1,y121.2.2.2.2.1,y121.2.2.2.2.2.1),y121.2.2.2.2.2.2),(madeA (at_ a.2.1 ((at_ a.2.2 y121.2.1) % (a.2.1.length : Int)))))).2.2).2.1).1,(((takeA ((y121.2.2.1,(y121.2.2.2.1,y121.2.2.2.2.1,y121.2.2.2.2.2.1),y121.2.2.2.2.2.2),(madeA (at_ a.2.1 ((at_ a.2.2 y121.2.1) % (a.2.1.length : Int)))))).2.2).2.1).2.1,(((takeA ((y121.2.2.1,(y121.2.2.2.1,y121.2.2.2.2.1,y121.2.2.2.2.2.1),y121.2.2.2.2.2.2),(madeA (at_ a.2.1 ((at_ a.2.2 y121.2.1) % (a.2.1.length : Int)))))).2.2).2.1).2.2,((takeA ((y121.2.2.1,(y121.2.2.2.1,y121.2.2.2.2.1,y121.2.2.2.2.2.1),y121.2.2.2.2.2.2),(madeA (at_ a.2.1 ((at_ a.2.2 y121.2.1) % (a.2.1.length : Int)))))).2.2).2.2)∧μ120 (y121.1,(y121.2.1 + (1 : Int)),((takeA ((y121.2.2.1,(y121.2.2.2.1,y121.2.2.2.2.1,y121.2.2.2.2.2.1),y121.2.2.2.2.2.2),(madeA (at_ a.2.1 ((at_ a.2.2 y121.2.1) % (a.2.1.length : Int)))))).2.2).1,(((takeA ((y121.2.2.1,(y121.2.2.2.1,y121.2.2.2.2.1,y121.2.2.2.2.2.1),y121.2.2.2.2.2.2),(madeA (at_ a.2.1 ((at_ a.2.2 y121.2.1) % (a.2.1.length : Int)))))).2.2).2.1).1,(((takeA ((y121.2.2.1,(y121.2.2.2.1,y121.2.2.2.2.1,y121.2.2.2.2.2.1),y121.2.2.2.2.2.2),(madeA (at_ a.2.1 ((at_ a.2.2 y121.2.1) % (a.2.1.length : Int)))))).2.2).2.1).2.1,(((takeA ((y121.2.2.1,(y121.2.2.2.1,y121.2.2.2.2.1,y121.2.2.2.2.2.1),y121.2.2.2.2.2.2),(madeA (at_ a.2.1 ((at_ a.2.2 y121.2.1) % (a.2.1.length : Int)))))).2.2).2.1).2.2,((takeA ((y121.2.2.1,(y121.2.2.2.1,y121.2.2.2.2.1,y121.2.2.2.2.2.1),y121.2.2.2.2.2.2),(madeA (at_ a.2.1 ((at_ a.2.2 y121.2.1) % (a.2.1.length : Int)))))).2.2).2.2) < μ120 y121)))))))))∧(¬ (y121.2.1 < (a.2.2.length : Int))→(∃ (I144 : (Int × Int × ByteArray × Int × Int × Int × (List (T_agent_Item)))→Prop) (μ145 : (Int × Int × ByteArray × Int × Int × Int × (List (T_agent_Item)))→Nat),I144 (y121.1,(0 : Int),y121.2.2.1,y121.2.2.2.1,y121.2.2.2.2.1,y121.2.2.2.2.2.1,y121.2.2.2.2.2.2)∧∀ y146 : Int × Int × ByteArray × Int × Int × Int × (List (T_agent_Item)),I144 y146→((y146.2.1 < (a.2.1.length : Int)→((0 : Int)≤y146.2.1∧y146.2.1 < (a.2.1.length : Int)∧(ord_pre (at_ a.2.1 y146.2.1)∧(takeA_pre ((y146.2.2.1,(y146.2.2.2.1,y146.2.2.2.2.1,y146.2.2.2.2.2.1),y146.2.2.2.2.2.2),(madeA (at_ a.2.1 y146.2.1)))∧(-9223372036854775808≤(y146.2.1 + (1 : Int))∧(y146.2.1 + (1 : Int))≤9223372036854775807∧(I144 (y146.1,(y146.2.1 + (1 : Int)),((takeA ((y146.2.2.1,(y146.2.2.2.1,y146.2.2.2.2.1,y146.2.2.2.2.2.1),y146.2.2.2.2.2.2),(madeA (at_ a.2.1 y146.2.1)))).2.2).1,(((takeA ((y146.2.2.1,(y146.2.2.2.1,y146.2.2.2.2.1,y146.2.2.2.2.2.1),y146.2.2.2.2.2.2),(madeA (at_ a.2.1 y146.2.1)))).2.2).2.1).1,(((takeA ((y146.2.2.1,(y146.2.2.2.1,y146.2.2.2.2.1,y146.2.2.2.2.2.1),y146.2.2.2.2.2.2),(madeA (at_ a.2.1 y146.2.1)))).2.2).2.1).2.1,(((takeA ((y146.2.2.1,(y146.2.2.2.1,y146.2.2.2.2.1,y146.2.2.2.2.2.1),y146.2.2.2.2.2.2),(madeA (at_ a.2.1 y146.2.1)))).2.2).2.1).2.2,((takeA ((y146.2.2.1,(y146.2.2.2.1,y146.2.2.2.2.1,y146.2.2.2.2.2.1),y146.2.2.2.2.2.2),(madeA (at_ a.2.1 y146.2.1)))).2.2).2.2)∧μ145 (y146.1,(y146.2.1 + (1 : Int)),((takeA ((y146.2.2.1,(y146.2.2.2.1,y146.2.2.2.2.1,y146.2.2.2.2.2.1),y146.2.2.2.2.2.2),(madeA (at_ a.2.1 y146.2.1)))).2.2).1,(((takeA ((y146.2.2.1,(y146.2.2.2.1,y146.2.2.2.2.1,y146.2.2.2.2.2.1),y146.2.2.2.2.2.2),(madeA (at_ a.2.1 y146.2.1)))).2.2).2.1).1,(((takeA ((y146.2.2.1,(y146.2.2.2.1,y146.2.2.2.2.1,y146.2.2.2.2.2.1),y146.2.2.2.2.2.2),(madeA (at_ a.2.1 y146.2.1)))).2.2).2.1).2.1,(((takeA ((y146.2.2.1,(y146.2.2.2.1,y146.2.2.2.2.1,y146.2.2.2.2.2.1),y146.2.2.2.2.2.2),(madeA (at_ a.2.1 y146.2.1)))).2.2).2.1).2.2,((takeA ((y146.2.2.1,(y146.2.2.2.1,y146.2.2.2.2.1,y146.2.2.2.2.2.1),y146.2.2.2.2.2.2),(madeA (at_ a.2.1 y146.2.1)))).2.2).2.2) < μ145 y146))))))∧(¬ (y146.2.1 < (a.2.1.length : Int))→((runA_pre (y146.2.2.1,(y146.2.2.2.1,y146.2.2.2.2.1,y146.2.2.2.2.2.1),y146.2.2.2.2.2.2)∧((0 : Int)≤y146.1∧y146.1 < (a.2.1.length : Int)∧(sameI_pre ((runningA (y146.2.2.1,(y146.2.2.2.1,y146.2.2.2.2.1,y146.2.2.2.2.2.1),y146.2.2.2.2.2.2)).1,(at_ a.2.1 y146.1).2.2.2)∧(((sameI ((runningA (y146.2.2.1,(y146.2.2.2.1,y146.2.2.2.2.1,y146.2.2.2.2.2.1),y146.2.2.2.2.2.2)).1,(at_ a.2.1 y146.1).2.2.2)) = true→((0 : Int)≤y146.1∧y146.1 < (a.2.1.length : Int)∧(((((((reportA ((runningA (y146.2.2.1,(y146.2.2.2.1,y146.2.2.2.2.1,y146.2.2.2.2.2.1),y146.2.2.2.2.2.2)).2)).1).2).1) == (((at_ a.2.1 y146.1).2.1).1)) && ((((((reportA ((runningA (y146.2.2.1,(y146.2.2.2.1,y146.2.2.2.2.1,y146.2.2.2.2.2.1),y146.2.2.2.2.2.2)).2)).1).2).2.1) == (((at_ a.2.1 y146.1).2.1).2.1)) && (((((reportA ((runningA (y146.2.2.1,(y146.2.2.2.1,y146.2.2.2.2.1,y146.2.2.2.2.2.1),y146.2.2.2.2.2.2)).2)).1).2).2.2) == (((at_ a.2.1 y146.1).2.1).2.2)))) = lawTrue a)))∧(¬ ((sameI ((runningA (y146.2.2.1,(y146.2.2.2.1,y146.2.2.2.2.1,y146.2.2.2.2.2.1),y146.2.2.2.2.2.2)).1,(at_ a.2.1 y146.1).2.2.2)) = true)→(false = lawTrue a))))))∧((0 : Int)≤y146.1∧y146.1 < (a.2.1.length : Int)∧(runA_pre (y146.2.2.1,(y146.2.2.2.1,y146.2.2.2.2.1,y146.2.2.2.2.2.1),y146.2.2.2.2.2.2)∧(sameI_pre ((runningA (y146.2.2.1,(y146.2.2.2.1,y146.2.2.2.2.1,y146.2.2.2.2.2.1),y146.2.2.2.2.2.2)).1,(at_ a.2.1 y146.1).2.2.2)∧(((sameI ((runningA (y146.2.2.1,(y146.2.2.2.1,y146.2.2.2.2.1,y146.2.2.2.2.2.1),y146.2.2.2.2.2.2)).1,(at_ a.2.1 y146.1).2.2.2)) = true→((0 : Int)≤y146.1∧y146.1 < (a.2.1.length : Int)∧(((((((reportA ((runningA (y146.2.2.1,(y146.2.2.2.1,y146.2.2.2.2.1,y146.2.2.2.2.2.1),y146.2.2.2.2.2.2)).2)).1).2).1) == (((at_ a.2.1 y146.1).2.1).1)) && ((((((reportA ((runningA (y146.2.2.1,(y146.2.2.2.1,y146.2.2.2.2.1,y146.2.2.2.2.2.1),y146.2.2.2.2.2.2)).2)).1).2).2.1) == (((at_ a.2.1 y146.1).2.1).2.1)) && (((((reportA ((runningA (y146.2.2.1,(y146.2.2.2.1,y146.2.2.2.2.1,y146.2.2.2.2.2.1),y146.2.2.2.2.2.2)).2)).1).2).2.2) == (((at_ a.2.1 y146.1).2.1).2.2)))) = lawTrue a)))∧(¬ ((sameI ((runningA (y146.2.2.1,(y146.2.2.2.1,y146.2.2.2.2.1,y146.2.2.2.2.2.1),y146.2.2.2.2.2.2)).1,(at_ a.2.1 y146.1).2.2.2)) = true)→(false = lawTrue a)))))))))))))))))))))))))))
set_option maxRecDepth 100000 in
set_option maxHeartbeats 2000000 in
theorem f87.of (a : ByteArray × (List (T_interregnumref24_Order)) × (List (Int))) (h : f87.vc a) : f87.tree a := ⟨(),⟨trivial,br h (Cnd.not Cnd.b) (fun h2 k202 => ⟨(),⟨trivial,⟨k202,trivial⟩⟩⟩) (fun h3 k203 => ⟨a.2.1,slK (Rds.self (enc := e_interregnumref24_Order)) (⟨k203.1,br k203.2 (Cnd.not Cnd.b) (fun h8 k199 => ⟨(),⟨trivial,⟨k199,trivial⟩⟩⟩) (fun h9 k200 => br k200 Cnd.dec (fun h13 k197 => ⟨(),⟨trivial,⟨k197,trivial⟩⟩⟩) (fun h14 k198 => br k198 Cnd.dec (fun h18 k195 => ⟨(),⟨trivial,⟨k195,trivial⟩⟩⟩) (fun h19 k196 => Exists.elim k196 (fun I24 h192_ => Exists.elim h192_ (fun μ25 h192 => ⟨I24,μ25,⟨((-1 : Int),(0 : Int)),⟨rfl,slK (Rds.self (enc := e_interregnumref24_Order)) (slK (Rds.self (enc := e_u64)) (⟨rfl,⟨rfl,⟨rfl,h192.1⟩⟩⟩))⟩⟩,fun y26 h194 => br (h192.2 y26 h194) Cnd.dec (fun h27 k190 => Exists.elim k190 (fun I30 h111_ => Exists.elim h111_ (fun μ31 h111 => ⟨I30,μ31,⟨(y26.1,y26.2,(0 : Int),y26.2),⟨rfl,slK (Rds.self (enc := e_interregnumref24_Order)) (slK (Rds.self (enc := e_u64)) (⟨rfl,⟨rfl,⟨rfl,⟨rfl,⟨rfl,h111.1⟩⟩⟩⟩⟩))⟩⟩,fun y32 h113 => br (h111.2 y32 h113) Cnd.dec (fun h33 k109 => chk k109.2.2 Cnd.ix ⟨k109.1,k109.2.1⟩ (fun h35 k49 => chk k49.2.2 Cnd.ix ⟨k49.1,k49.2.1⟩ (fun h36 k48 => br k48 (Cnd.and Cnd.eq (Cnd.and Cnd.eq Cnd.eq)) (fun h37 k46 => ⟨k46,trivial⟩) (fun h38 k47 => wrapK.i64 k47 (fun h43 h44 k45 => ⟨(y32.1,y32.2.1,(y32.2.2.1 + (1 : Int)),y32.2.2.2),⟨rfl,slK (Rds.self (enc := e_interregnumref24_Order)) (slK (Rds.self (enc := e_u64)) (⟨rfl,⟨rfl,⟨rfl,⟨rfl,⟨rfl,k45⟩⟩⟩⟩⟩))⟩⟩))))) (fun h34 k110 => chk k110.2.2 Cnd.ix ⟨k110.1,k110.2.1⟩ (fun h50 k108 => ⟨(at_ a.2.1 y32.2.1),⟨rfl,⟨rfl,⟨rfl,⟨rfl,⟨rfl,⟨rfl,⟨rfl,slK (Rds.self (enc := e_interregnumref24_Item)) (⟨k108.1,⟨(madeA (at_ a.2.1 y32.2.1)),⟨rfl,⟨rfl,⟨rfl,⟨rfl,⟨rfl,⟨rfl,⟨rfl,slK (Rds.self (enc := e_agent_Item)) (⟨k108.2.1,br k108.2.2 (Cnd.not Cnd.b) (fun h53 k104 => ⟨k104,trivial⟩) (fun h54 k105 => chk k105.2.2 Cnd.ix ⟨k105.1,k105.2.1⟩ (fun h56 k103 => br k103 (Cnd.not Cnd.seq) (fun h57 k101 => ⟨k101,trivial⟩) (fun h58 k102 => chk k102.2.2 Cnd.ix ⟨k102.1,k102.2.1⟩ (fun h60 k100 => ⟨(((at_ a.2.1 y32.2.1).2.1),((0 : Int),(0 : Int),(0 : Int))),⟨rfl,⟨rfl,⟨rfl,⟨rfl,⟨rfl,⟨rfl,⟨trivial,br k100 Cnd.dec (fun h62 k97 => ⟨k97,trivial⟩) (fun h63 k98 => br k98 Cnd.dec (fun h65 k95 => wrapK.i64 k95 (fun h70 h71 k72 => ⟨(y32.2.1,(y32.2.2.2 + (1 : Int))),⟨rfl,slK (Rds.self (enc := e_interregnumref24_Order)) (slK (Rds.self (enc := e_u64)) (⟨rfl,⟨rfl,⟨rfl,k72⟩⟩⟩))⟩⟩)) (fun h66 k96 => chk k96.2.2 Cnd.ix ⟨k96.1,k96.2.1⟩ (fun h73 k94 => chk k94.2.2 Cnd.ix ⟨k94.1,k94.2.1⟩ (fun h74 k93 => ⟨(((at_ a.2.1 y32.2.1).2.1),((at_ a.2.1 y32.1).2.1)),⟨rfl,⟨rfl,⟨rfl,⟨rfl,⟨rfl,⟨rfl,⟨trivial,br k93 Cnd.dec (fun h76 k90 => wrapK.i64 k90 (fun h81 h82 k83 => ⟨(y32.2.1,(y32.2.2.2 + (1 : Int))),⟨rfl,slK (Rds.self (enc := e_interregnumref24_Order)) (slK (Rds.self (enc := e_u64)) (⟨rfl,⟨rfl,⟨rfl,k83⟩⟩⟩))⟩⟩)) (fun h77 k91 => wrapK.i64 k91 (fun h87 h88 k89 => ⟨(y32.1,(y32.2.2.2 + (1 : Int))),⟨rfl,slK (Rds.self (enc := e_interregnumref24_Order)) (slK (Rds.self (enc := e_u64)) (⟨rfl,⟨rfl,⟨rfl,k89⟩⟩⟩))⟩⟩))⟩⟩⟩⟩⟩⟩⟩⟩))))⟩⟩⟩⟩⟩⟩⟩⟩))))⟩)⟩⟩⟩⟩⟩⟩⟩⟩⟩)⟩⟩⟩⟩⟩⟩⟩⟩))⟩))) (fun h28 k191 => br k191 Cnd.dec (fun h114 k188 => ⟨k188,trivial⟩) (fun h115 k189 => ⟨a.1,⟨rfl,⟨trivial,Exists.elim k189 (fun I119 h184_ => Exists.elim h184_ (fun μ120 h184 => ⟨I119,μ120,⟨(y26.1,(0 : Int),(newA (a.1)).1,((newA (a.1)).2.1).1,((newA (a.1)).2.1).2.1,((newA (a.1)).2.1).2.2,(newA (a.1)).2.2),slK (Rds.self (enc := e_interregnumref24_Order)) (slK (Rds.self (enc := e_u64)) (⟨rfl,⟨rfl,⟨rfl,⟨rfl,⟨rfl,⟨rfl,⟨rfl,slK (Rds.self (enc := e_agent_Item)) (h184.1)⟩⟩⟩⟩⟩⟩⟩))⟩,fun y121 h186 => br (h184.2 y121 h186) Cnd.dec (fun h122 k182 => chk k182.2.2 Cnd.ix ⟨k182.1,k182.2.1⟩ (fun h124 k142 => wrapK.u64 k142 (fun h139 h140 k141 => chk0 (Cnd.not Cnd.eq) (by have := k141.2.1; omega) (modK k141.1 (chk k141.2.2.2.2 Cnd.ix ⟨k141.2.2.1,k141.2.2.2.1⟩ (fun h127 k138 => ⟨(at_ a.2.1 ((at_ a.2.2 y121.2.1) % (a.2.1.length : Int))),⟨rfl,⟨rfl,⟨rfl,⟨rfl,⟨rfl,⟨rfl,⟨rfl,slK (Rds.self (enc := e_interregnumref24_Item)) (⟨k138.1,⟨((y121.2.2.1,(y121.2.2.2.1,y121.2.2.2.2.1,y121.2.2.2.2.2.1),y121.2.2.2.2.2.2),(madeA (at_ a.2.1 ((at_ a.2.2 y121.2.1) % (a.2.1.length : Int))))),⟨rfl,⟨rfl,⟨rfl,⟨rfl,⟨rfl,⟨rfl,⟨rfl,slK (Rds.self (enc := e_agent_Item)) (⟨rfl,⟨rfl,⟨rfl,⟨rfl,slK (Rds.self (enc := e_agent_Item)) (⟨k138.2.1,wrapK.i64 k138.2.2 (fun h133 h134 k135 => ⟨(y121.1,(y121.2.1 + (1 : Int)),((takeA ((y121.2.2.1,(y121.2.2.2.1,y121.2.2.2.2.1,y121.2.2.2.2.2.1),y121.2.2.2.2.2.2),(madeA (at_ a.2.1 ((at_ a.2.2 y121.2.1) % (a.2.1.length : Int)))))).2.2).1,(((takeA ((y121.2.2.1,(y121.2.2.2.1,y121.2.2.2.2.1,y121.2.2.2.2.2.1),y121.2.2.2.2.2.2),(madeA (at_ a.2.1 ((at_ a.2.2 y121.2.1) % (a.2.1.length : Int)))))).2.2).2.1).1,(((takeA ((y121.2.2.1,(y121.2.2.2.1,y121.2.2.2.2.1,y121.2.2.2.2.2.1),y121.2.2.2.2.2.2),(madeA (at_ a.2.1 ((at_ a.2.2 y121.2.1) % (a.2.1.length : Int)))))).2.2).2.1).2.1,(((takeA ((y121.2.2.1,(y121.2.2.2.1,y121.2.2.2.2.1,y121.2.2.2.2.2.1),y121.2.2.2.2.2.2),(madeA (at_ a.2.1 ((at_ a.2.2 y121.2.1) % (a.2.1.length : Int)))))).2.2).2.1).2.2,((takeA ((y121.2.2.1,(y121.2.2.2.1,y121.2.2.2.2.1,y121.2.2.2.2.2.1),y121.2.2.2.2.2.2),(madeA (at_ a.2.1 ((at_ a.2.2 y121.2.1) % (a.2.1.length : Int)))))).2.2).2.2),slK (Rds.self (enc := e_interregnumref24_Order)) (slK (Rds.self (enc := e_u64)) (⟨rfl,⟨rfl,⟨rfl,⟨rfl,⟨rfl,⟨rfl,⟨rfl,slK (Rds.self (enc := e_agent_Item)) (k135)⟩⟩⟩⟩⟩⟩⟩))⟩)⟩)⟩⟩⟩⟩)⟩⟩⟩⟩⟩⟩⟩⟩⟩)⟩⟩⟩⟩⟩⟩⟩⟩)))))) (fun h123 k183 => Exists.elim k183 (fun I144 h179_ => Exists.elim h179_ (fun μ145 h179 => ⟨I144,μ145,⟨(y121.1,(0 : Int),y121.2.2.1,y121.2.2.2.1,y121.2.2.2.2.1,y121.2.2.2.2.2.1,y121.2.2.2.2.2.2),slK (Rds.self (enc := e_interregnumref24_Order)) (⟨rfl,⟨rfl,⟨rfl,⟨rfl,⟨rfl,⟨rfl,⟨rfl,slK (Rds.self (enc := e_agent_Item)) (h179.1)⟩⟩⟩⟩⟩⟩⟩)⟩,fun y146 h181 => br (h179.2 y146 h181) Cnd.dec (fun h147 k177 => chk k177.2.2 Cnd.ix ⟨k177.1,k177.2.1⟩ (fun h149 k160 => ⟨(at_ a.2.1 y146.2.1),⟨rfl,⟨rfl,⟨rfl,⟨rfl,⟨rfl,⟨rfl,⟨rfl,slK (Rds.self (enc := e_interregnumref24_Item)) (⟨k160.1,⟨((y146.2.2.1,(y146.2.2.2.1,y146.2.2.2.2.1,y146.2.2.2.2.2.1),y146.2.2.2.2.2.2),(madeA (at_ a.2.1 y146.2.1))),⟨rfl,⟨rfl,⟨rfl,⟨rfl,⟨rfl,⟨rfl,⟨rfl,slK (Rds.self (enc := e_agent_Item)) (⟨rfl,⟨rfl,⟨rfl,⟨rfl,slK (Rds.self (enc := e_agent_Item)) (⟨k160.2.1,wrapK.i64 k160.2.2 (fun h155 h156 k157 => ⟨(y146.1,(y146.2.1 + (1 : Int)),((takeA ((y146.2.2.1,(y146.2.2.2.1,y146.2.2.2.2.1,y146.2.2.2.2.2.1),y146.2.2.2.2.2.2),(madeA (at_ a.2.1 y146.2.1)))).2.2).1,(((takeA ((y146.2.2.1,(y146.2.2.2.1,y146.2.2.2.2.1,y146.2.2.2.2.2.1),y146.2.2.2.2.2.2),(madeA (at_ a.2.1 y146.2.1)))).2.2).2.1).1,(((takeA ((y146.2.2.1,(y146.2.2.2.1,y146.2.2.2.2.1,y146.2.2.2.2.2.1),y146.2.2.2.2.2.2),(madeA (at_ a.2.1 y146.2.1)))).2.2).2.1).2.1,(((takeA ((y146.2.2.1,(y146.2.2.2.1,y146.2.2.2.2.1,y146.2.2.2.2.2.1),y146.2.2.2.2.2.2),(madeA (at_ a.2.1 y146.2.1)))).2.2).2.1).2.2,((takeA ((y146.2.2.1,(y146.2.2.2.1,y146.2.2.2.2.1,y146.2.2.2.2.2.1),y146.2.2.2.2.2.2),(madeA (at_ a.2.1 y146.2.1)))).2.2).2.2),slK (Rds.self (enc := e_interregnumref24_Order)) (⟨rfl,⟨rfl,⟨rfl,⟨rfl,⟨rfl,⟨rfl,⟨rfl,slK (Rds.self (enc := e_agent_Item)) (k157)⟩⟩⟩⟩⟩⟩⟩)⟩)⟩)⟩⟩⟩⟩)⟩⟩⟩⟩⟩⟩⟩⟩⟩)⟩⟩⟩⟩⟩⟩⟩⟩)) (fun h148 k178 => ⟨⟨(y146.2.2.1,(y146.2.2.2.1,y146.2.2.2.2.1,y146.2.2.2.2.2.1),y146.2.2.2.2.2.2),⟨rfl,⟨rfl,⟨rfl,⟨rfl,slK (Rds.self (enc := e_agent_Item)) (⟨k178.1.1,chk k178.1.2.2.2 Cnd.ix ⟨k178.1.2.1,k178.1.2.2.1⟩ (fun h162 k175 => ⟨((runningA (y146.2.2.1,(y146.2.2.2.1,y146.2.2.2.2.1,y146.2.2.2.2.2.1),y146.2.2.2.2.2.2)).1,(at_ a.2.1 y146.1).2.2.2),slK (Rds.self (enc := e_agent_Item)) (slK (Rds.self (enc := e_interregnumref24_Item)) (⟨k175.1,br k175.2 Cnd.b (fun h164 k172 => ⟨((runningA (y146.2.2.1,(y146.2.2.2.1,y146.2.2.2.2.1,y146.2.2.2.2.2.1),y146.2.2.2.2.2.2)).2),⟨rfl,⟨rfl,⟨rfl,⟨rfl,slK (Rds.self (enc := e_agent_Item)) (⟨trivial,chk k172.2.2 Cnd.ix ⟨k172.1,k172.2.1⟩ (fun h167 k169 => ⟨k169,trivial⟩)⟩)⟩⟩⟩⟩⟩) (fun h165 k173 => ⟨k173,trivial⟩)⟩))⟩)⟩)⟩⟩⟩⟩⟩,chk k178.2.2.2 Cnd.ix ⟨k178.2.1,k178.2.2.1⟩ (fun h161 k176 => ⟨(y146.2.2.1,(y146.2.2.2.1,y146.2.2.2.2.1,y146.2.2.2.2.2.1),y146.2.2.2.2.2.2),⟨rfl,⟨rfl,⟨rfl,⟨rfl,slK (Rds.self (enc := e_agent_Item)) (⟨k176.1,⟨((runningA (y146.2.2.1,(y146.2.2.2.1,y146.2.2.2.2.1,y146.2.2.2.2.2.1),y146.2.2.2.2.2.2)).1,(at_ a.2.1 y146.1).2.2.2),slK (Rds.self (enc := e_agent_Item)) (slK (Rds.self (enc := e_interregnumref24_Item)) (⟨k176.2.1,br k176.2.2 Cnd.b (fun h164 k172 => ⟨((runningA (y146.2.2.1,(y146.2.2.2.1,y146.2.2.2.2.1,y146.2.2.2.2.2.1),y146.2.2.2.2.2.2)).2),⟨rfl,⟨rfl,⟨rfl,⟨rfl,slK (Rds.self (enc := e_agent_Item)) (⟨trivial,chk k172.2.2 Cnd.ix ⟨k172.1,k172.2.1⟩ (fun h167 k169 => ⟨k169,trivial⟩)⟩)⟩⟩⟩⟩⟩) (fun h165 k173 => ⟨k173,trivial⟩)⟩))⟩⟩)⟩⟩⟩⟩⟩),⟨(y146.2.2.1,(y146.2.2.2.1,y146.2.2.2.2.1,y146.2.2.2.2.2.1),y146.2.2.2.2.2.2),⟨rfl,⟨rfl,⟨rfl,⟨rfl,slK (Rds.self (enc := e_agent_Item)) (⟨k178.1.1,chk k178.1.2.2.2 Cnd.ix ⟨k178.1.2.1,k178.1.2.2.1⟩ (fun h162 k175 => ⟨((runningA (y146.2.2.1,(y146.2.2.2.1,y146.2.2.2.2.1,y146.2.2.2.2.2.1),y146.2.2.2.2.2.2)).1,(at_ a.2.1 y146.1).2.2.2),slK (Rds.self (enc := e_agent_Item)) (slK (Rds.self (enc := e_interregnumref24_Item)) (⟨k175.1,br k175.2 Cnd.b (fun h164 k172 => chk k172.2.2 Cnd.ix ⟨k172.1,k172.2.1⟩ (fun h166 k170 => ⟨((runningA (y146.2.2.1,(y146.2.2.2.1,y146.2.2.2.2.1,y146.2.2.2.2.2.1),y146.2.2.2.2.2.2)).2),⟨rfl,⟨rfl,⟨rfl,⟨rfl,slK (Rds.self (enc := e_agent_Item)) (⟨trivial,⟨k170,trivial⟩⟩)⟩⟩⟩⟩⟩)) (fun h165 k173 => ⟨k173,trivial⟩)⟩))⟩)⟩)⟩⟩⟩⟩⟩,chk k178.2.2.2 Cnd.ix ⟨k178.2.1,k178.2.2.1⟩ (fun h161 k176 => ⟨(y146.2.2.1,(y146.2.2.2.1,y146.2.2.2.2.1,y146.2.2.2.2.2.1),y146.2.2.2.2.2.2),⟨rfl,⟨rfl,⟨rfl,⟨rfl,slK (Rds.self (enc := e_agent_Item)) (⟨k176.1,⟨((runningA (y146.2.2.1,(y146.2.2.2.1,y146.2.2.2.2.1,y146.2.2.2.2.2.1),y146.2.2.2.2.2.2)).1,(at_ a.2.1 y146.1).2.2.2),slK (Rds.self (enc := e_agent_Item)) (slK (Rds.self (enc := e_interregnumref24_Item)) (⟨k176.2.1,br k176.2.2 Cnd.b (fun h164 k172 => chk k172.2.2 Cnd.ix ⟨k172.1,k172.2.1⟩ (fun h166 k170 => ⟨((runningA (y146.2.2.1,(y146.2.2.2.1,y146.2.2.2.2.1,y146.2.2.2.2.2.1),y146.2.2.2.2.2.2)).2),⟨rfl,⟨rfl,⟨rfl,⟨rfl,slK (Rds.self (enc := e_agent_Item)) (⟨trivial,⟨k170,trivial⟩⟩)⟩⟩⟩⟩⟩)) (fun h165 k173 => ⟨k173,trivial⟩)⟩))⟩⟩)⟩⟩⟩⟩⟩)⟩)⟩)))⟩))⟩⟩⟩))⟩)))))⟩)⟩)⟩⟩
theorem f87.eq (a : ByteArray × (List (T_interregnumref24_Order)) × (List (Int))) : (f87.af a).gives f87.env (f87.args a) (f87.blks a) (f87.res a) (f87.blks' a) = f87.tree a := by kernel_rfl
end Go.Abs

/- The laws of layer 24. -/
namespace Go.Abs
open Go

def Lt3 (a b : TRes) : Prop := a.1 < b.1 ∨ a.1 = b.1 ∧ (a.2.1 < b.2.1 ∨ a.2.1 = b.2.1 ∧ a.2.2 < b.2.2)

theorem cmp3 (a b : TRes) : (cmpS (a,b) = -1 ∧ Lt3 a b) ∨ (cmpS (a,b) = 0 ∧ a = b) ∨ (cmpS (a,b) = 1 ∧ Lt3 b a) := by
  obtain ⟨a1,a2,a3⟩ := a
  obtain ⟨b1,b2,b3⟩ := b
  have c : ∀ x y : Int,(cmpI (x,y) = -1 ∧ x < y) ∨ (cmpI (x,y) = 0 ∧ x = y) ∨ (cmpI (x,y) = 1 ∧ y < x) := fun x y => by
    unfold cmpI
    simp only
    by_cases h : x < y
    · rw [if_pos h]; exact .inl ⟨rfl,h⟩
    · rw [if_neg h]
      by_cases h2 : y < x
      · rw [if_pos h2]; exact .inr (.inr ⟨rfl,h2⟩)
      · rw [if_neg h2]; exact .inr (.inl ⟨rfl,by omega⟩)
  unfold cmpS Lt3
  simp only [Prod.mk.injEq]
  have n1 : ¬ ((-1 : Int) = 0) := by decide
  have n2 : ¬ ((1 : Int) = 0) := by decide
  rcases c a1 b1 with ⟨e1,h1⟩ | ⟨e1,h1⟩ | ⟨e1,h1⟩
  · rw [e1,if_pos n1]; exact .inl ⟨rfl,.inl h1⟩
  · rw [e1,if_neg (not_not_intro rfl)]
    rcases c a2 b2 with ⟨e2,h2⟩ | ⟨e2,h2⟩ | ⟨e2,h2⟩
    · rw [e2,if_pos n1]; exact .inl ⟨rfl,.inr ⟨h1,.inl h2⟩⟩
    · rw [e2,if_neg (not_not_intro rfl)]
      rcases c a3 b3 with ⟨e3,h3⟩ | ⟨e3,h3⟩ | ⟨e3,h3⟩
      · exact .inl ⟨e3,.inr ⟨h1,.inr ⟨h2,h3⟩⟩⟩
      · exact .inr (.inl ⟨e3,h1,h2,h3⟩)
      · exact .inr (.inr ⟨e3,.inr ⟨h1.symm,.inr ⟨h2.symm,h3⟩⟩⟩)
    · rw [e2,if_pos n2]; exact .inr (.inr ⟨rfl,.inr ⟨h1.symm,.inl h2⟩⟩)
  · rw [e1,if_pos n2]; exact .inr (.inr ⟨rfl,.inl h1⟩)

theorem lt3_irr {a : TRes} (h : Lt3 a a) : False := by unfold Lt3 at h; omega
theorem lt3_anti {a b : TRes} (h : Lt3 a b) (k : Lt3 b a) : False := by unfold Lt3 at h k; omega
theorem lt3_trans {a b c : TRes} (h : Lt3 a b) (k : Lt3 b c) : Lt3 a c := by unfold Lt3 at *; omega

theorem cmp_neg {a b : TRes} : cmpS (a,b) < 0 ↔ Lt3 a b := by
  rcases cmp3 a b with ⟨e,h⟩ | ⟨e,h⟩ | ⟨e,h⟩ <;> rw [e]
  · exact ⟨fun _ => h,fun _ => by decide⟩
  · exact ⟨fun hh => absurd hh (by decide),fun hh => (lt3_irr (h ▸ hh)).elim⟩
  · exact ⟨fun hh => absurd hh (by decide),fun hh => (lt3_anti h hh).elim⟩
theorem cmp_pos {a b : TRes} : 0 < cmpS (a,b) ↔ Lt3 b a := by
  rcases cmp3 a b with ⟨e,h⟩ | ⟨e,h⟩ | ⟨e,h⟩ <;> rw [e]
  · exact ⟨fun hh => absurd hh (by decide),fun hh => (lt3_anti h hh).elim⟩
  · exact ⟨fun hh => absurd hh (by decide),fun hh => (lt3_irr (h ▸ hh)).elim⟩
  · exact ⟨fun _ => h,fun _ => by decide⟩
theorem item_of_size {l : List TItem} (h : k_sl_interregnumref24_Item.size l ≤ 1048576) : items_pre l := by
  have h2 : (l.map k_interregnumref24_Item.size).sum + 1 ≤ 1048576 := h
  have h3 := sum_len k_interregnumref24_Item.size (fun x => Nat.le_add_left 1 _) l
  refine ⟨by unfold L20; omega,fun x hx => ?_⟩
  have h1 : k_interregnumref24_Item.size x ≤ (l.map k_interregnumref24_Item.size).sum := sum_mem _ hx
  have h4 : x.1.size + 1 + (1 + (1 + (1 + (1 + 1) + 1))) + 1 = k_interregnumref24_Item.size x := rfl
  unfold name_pre
  omega
theorem ord_of_size {o : TOrd} (h : k_interregnumref24_Order.size o ≤ 1048576) : ord_pre o := by
  have h : o.1.size + 1 + (1 + (1 + 1) + 1 + (1 + (1 + 1) + 1 + k_sl_interregnumref24_Item.size o.2.2.2)) + 1 ≤ 1048576 := h
  exact ⟨by unfold name_pre; omega,item_of_size (by omega)⟩
theorem ords_of_size {l : List TOrd} (h : k_sl_interregnumref24_Order.size l ≤ 1048576) : few24_pre l := by
  have h2 : (l.map k_interregnumref24_Order.size).sum + 1 ≤ 1048576 := h
  have h3 := sum_len k_interregnumref24_Order.size (fun x => Nat.le_add_left 1 _) l
  refine ⟨by unfold L20; omega,fun x hx => ord_of_size ?_⟩
  have h1 : k_interregnumref24_Order.size x ≤ (l.map k_interregnumref24_Order.size).sum := sum_mem _ hx
  omega

def Okay (name : ByteArray) (o : TOrd) : Prop := ordB o = true ∧ o.1 = name ∧ ¬ cmpS (o.2.1,((0 : Int),(0 : Int),(0 : Int))) < 0
def Jag (name : ByteArray) (l : List TOrd) (g : TAg) : Prop := g.1 = name ∧ L20 g.2.2 ∧ (g.2.1 = (0,0,0) ∨ ∃ q : Int,0 ≤ q ∧ q < (l.length : Int) ∧ g.2.1 = (at_ l q).2.1)
def Lat (l : List TOrd) (i : Int) (g : TAg) : Prop := ∀ q : Int,0 ≤ q → q < i → Lt3 (at_ l q).2.1 g.2.1 ∨ ((at_ l q).2.1 = g.2.1 ∧ (at_ l q).2.2.2 = g.2.2)

theorem take_okay {name : ByteArray} {g : TAg} {o : TOrd} (h : Okay name o) (hg : g.1 = name) : (takeA (g,o)).2.2 = if cmpS (o.2.1,g.2.1) < 0 then g else (g.1,o.2.1,o.2.2.2) := by
  unfold takeA
  rw [if_neg (not_not_intro ⟨h.1,by rw [h.2.1,hg]⟩)]
  simp only
  split <;> rfl

theorem jag_take {name : ByteArray} {l : List TOrd} {g : TAg} {q : Int} (hJ : Jag name l g) (h : Okay name (at_ l q)) (ho : ord_pre (at_ l q)) (h0 : 0 ≤ q) (h1 : q < (l.length : Int)) : Jag name l (takeA (g,at_ l q)).2.2 := by
  rw [take_okay h hJ.1]
  split
  · exact hJ
  · exact ⟨hJ.1,ho.2.1,.inr ⟨q,h0,h1,rfl⟩⟩

theorem lat_take {name : ByteArray} {l : List TOrd} {g : TAg} {i : Int} (hL : Lat l i g) (hg : g.1 = name) (h : Okay name (at_ l i)) (hd : ∀ q : Int,0 ≤ q → q < i → (at_ l i).2.1 ≠ (at_ l q).2.1) : Lat l (i + 1) (takeA (g,at_ l i)).2.2 := by
  rw [take_okay h hg]
  intro q h0 h1
  split
  · rename_i hc
    by_cases hq : q = i
    · subst hq; exact .inl (cmp_neg.1 hc)
    · exact hL q h0 (by omega)
  · rename_i hc
    by_cases hq : q = i
    · subst hq; exact .inr ⟨rfl,rfl⟩
    · left
      show Lt3 (at_ l q).2.1 (at_ l i).2.1
      rcases cmp3 (at_ l q).2.1 (at_ l i).2.1 with ⟨_,h2⟩ | ⟨_,h2⟩ | ⟨_,h2⟩
      · exact h2
      · exact absurd h2.symm (hd q h0 (by omega))
      · exfalso
        rcases hL q h0 (by omega) with h3 | ⟨h3,_⟩
        · exact hc (cmp_neg.2 (lt3_trans h2 h3))
        · exact hc (cmp_neg.2 (h3 ▸ h2))

theorem f87.ok (a : ByteArray × List TOrd × List Int) (h : f87.lpre a) : f87.vc a := by
  obtain ⟨hwf,hs⟩ := h
  have hu : ∀ x ∈ a.2.2,0 ≤ x := fun x hx => by
    have h1 : (Lit.int .u64 x).wf = true := hwf.2.2 x hx
    simp [Lit.wf,IntKind.min,IntKind.max,IntKind.signed,IntKind.bits] at h1
    omega
  obtain ⟨name,l,ord⟩ := a
  have hs : name.size + 1 + (k_sl_interregnumref24_Order.size l + k_sl_u64.size ord) ≤ 1048576 := hs
  have hf := ords_of_size (l := l) (by omega)
  have hl : l.length ≤ 1048576 := hf.1
  unfold f87.vc
  simp only [madeA,runningA,reportA,lawTrue]
  refine ⟨fun _ => trivial,fun _ => ⟨hf,fun _ => trivial,fun _ => ⟨fun _ => trivial,fun _ => ⟨fun _ => trivial,fun hord => ?_⟩⟩⟩⟩
  refine ⟨fun y => (0 ≤ y.2 ∧ y.2 ≤ (l.length : Int) ∧ y.1 < y.2 ∧ (0 < y.2 → 0 ≤ y.1)) ∧ (∀ q : Int,0 ≤ q → q < y.2 → Okay name (at_ l q) ∧ ∀ p : Int,0 ≤ p → p < q → (at_ l q).2.1 ≠ (at_ l p).2.1) ∧ ∀ q : Int,0 ≤ q → q < y.2 → ¬ Lt3 (at_ l y.1).2.1 (at_ l q).2.1,
    fun y => l.length - y.2.toNat,⟨by simp,fun q h0 h1 => by simp only at h1; omega,fun q h0 h1 => by simp only at h1; omega⟩,fun y hy => ?_⟩
  obtain ⟨top,i⟩ := y
  simp only at hy
  obtain ⟨⟨g0,g1,g2,g3⟩,g4,g5⟩ := hy
  simp only
  refine ⟨fun hlt => ?_,fun hge => ⟨fun _ => trivial,fun htop => ?_⟩⟩
  · refine ⟨fun y => (0 ≤ y.2.2.1 ∧ y.2.2.1 ≤ i ∧ ∀ p : Int,0 ≤ p → p < y.2.2.1 → (at_ l i).2.1 ≠ (at_ l p).2.1) ∧ y.1 = top ∧ y.2.1 = i ∧ y.2.2.2 = i,fun y => i.toNat - y.2.2.1.toNat,⟨⟨Int.le_refl _,g0,fun p h0 h1 => by simp only at h1; omega⟩,rfl,rfl,rfl⟩,fun y hy => ?_⟩
    obtain ⟨y1,y2,k,y4⟩ := y
    simp only at hy
    obtain ⟨⟨k0,k1,k2⟩,e1,e2,e3⟩ := hy
    replace e1 := e1.symm
    replace e2 := e2.symm
    replace e3 := e3.symm
    subst e1 e2 e3
    simp only
    refine ⟨fun kl => ⟨g0,hlt,k0,by omega,fun _ => trivial,fun d => ⟨by omega,by omega,⟨⟨by omega,by omega,fun p h0 h1 => ?_⟩,trivial,trivial,trivial⟩,by omega⟩⟩,fun kg => ⟨g0,hlt,hf.2 _ (at_mem g0 hlt),hf.2 _ (at_mem g0 hlt),fun _ => trivial,fun o1 => ⟨g0,hlt,fun _ => trivial,fun o2 => ⟨g0,hlt,fun _ => trivial,fun o3 => ?_⟩⟩⟩⟩
    · by_cases hp : p = k
      · subst hp
        exact fun e => d ⟨by rw [e],by rw [e],by rw [e]⟩
      · exact k2 p h0 (by omega)
    · have hok : Okay name (at_ l i) := ⟨Classical.not_not.1 o1,Classical.not_not.1 o2,o3⟩
      have next : ∀ q : Int,0 ≤ q → q < i + 1 → Okay name (at_ l q) ∧ ∀ p : Int,0 ≤ p → p < q → (at_ l q).2.1 ≠ (at_ l p).2.1 := fun q h0 h1 => by
        by_cases hq : q = i
        · subst hq; exact ⟨hok,fun p hp1 hp2 => k2 p hp1 (by omega)⟩
        · exact g4 q h0 (by omega)
      refine ⟨fun ht => ⟨by omega,by omega,⟨⟨by omega,by omega,by omega,fun _ => g0⟩,next,fun q h0 h1 => ?_⟩,by omega⟩,fun ht => ⟨g0,hlt,by omega,by omega,fun hc => ⟨by omega,by omega,⟨⟨by omega,by omega,by omega,fun _ => g0⟩,next,fun q h0 h1 => ?_⟩,by omega⟩,fun hc => ⟨by omega,by omega,⟨⟨by omega,by omega,by omega,fun _ => by omega⟩,next,fun q h0 h1 => ?_⟩,by omega⟩⟩⟩
      · have : ¬ 0 < i := fun hh => by have := g3 hh; omega
        have : q = i := by omega
        subst this
        exact fun hh => lt3_irr hh
      · by_cases hq : q = i
        · subst hq; exact fun hh => lt3_irr hh
        · exact fun hh => g5 q h0 (by omega) (lt3_trans (cmp_pos.1 hc) hh)
      · by_cases hq : q = i
        · subst hq; exact fun hh => hc (cmp_pos.2 hh)
        · exact g5 q h0 (by omega)
  · have hi : i = (l.length : Int) := by omega
    subst hi
    have hok : ∀ q : Int,0 ≤ q → q < (l.length : Int) → Okay name (at_ l q) := fun q h0 h1 => (g4 q h0 h1).1
    have hdis : ∀ q p : Int,0 ≤ p → p < q → q < (l.length : Int) → (at_ l q).2.1 ≠ (at_ l p).2.1 := fun q p h0 h1 h2 => (g4 q (by omega) h2).2 p h0 h1
    refine ⟨fun y => (0 ≤ y.2.1 ∧ y.2.1 ≤ (ord.length : Int)) ∧ y.1 = top ∧ Jag name l (y.2.2.1,(y.2.2.2.1,y.2.2.2.2.1,y.2.2.2.2.2.1),y.2.2.2.2.2.2),fun y => ord.length - y.2.1.toNat,⟨by simp,rfl,rfl,Nat.zero_le _,.inl rfl⟩,fun y hy => ?_⟩
    obtain ⟨y1,k,n,s1,s2,s3,it⟩ := y
    simp only at hy
    obtain ⟨⟨k0,k1⟩,rfl,hJ⟩ := hy
    simp only
    refine ⟨fun kl => ?_,fun kg => ?_⟩
    · have hx := hu _ (at_mem (l := ord) k0 kl)
      have hpos : 0 < (l.length : Int) := by omega
      have m0 : 0 ≤ at_ ord k % (l.length : Int) := Int.emod_nonneg _ (by omega)
      have m1 : at_ ord k % (l.length : Int) < (l.length : Int) := Int.emod_lt_of_pos _ hpos
      have hj := jag_take hJ (hok _ m0 m1) (hf.2 _ (at_mem m0 m1)) m0 m1
      generalize takeA ((n,(s1,s2,s3),it),at_ l (at_ ord k % (l.length : Int))) = T at hj ⊢
      obtain ⟨r,e,n',⟨q1,q2,q3⟩,it'⟩ := T
      exact ⟨k0,kl,by omega,by omega,hx,hpos,m0,m1,hf.2 _ (at_mem m0 m1),hf.2 _ (at_mem m0 m1),by omega,by omega,⟨⟨by omega,by omega⟩,trivial,hj⟩,by omega⟩
    · refine ⟨fun z => (0 ≤ z.2.1 ∧ z.2.1 ≤ (l.length : Int)) ∧ z.1 = y1 ∧ Jag name l (z.2.2.1,(z.2.2.2.1,z.2.2.2.2.1,z.2.2.2.2.2.1),z.2.2.2.2.2.2) ∧ Lat l z.2.1 (z.2.2.1,(z.2.2.2.1,z.2.2.2.2.1,z.2.2.2.2.2.1),z.2.2.2.2.2.2),fun z => l.length - z.2.1.toNat,⟨by simp,rfl,hJ,fun q h0 h1 => by simp only at h1; omega⟩,fun z hz => ?_⟩
      obtain ⟨z1,p,n,s1,s2,s3,it⟩ := z
      simp only at hz
      obtain ⟨⟨p0,p1⟩,rfl,hJ,hL⟩ := hz
      simp only
      refine ⟨fun pl => ?_,fun pg => ?_⟩
      · have hj := jag_take hJ (hok _ p0 pl) (hf.2 _ (at_mem p0 pl)) p0 pl
        have hlt := lat_take hL hJ.1 (hok _ p0 pl) (fun q h0 h1 => hdis p q h0 h1 pl)
        generalize takeA ((n,(s1,s2,s3),it),at_ l p) = T at hj hlt ⊢
        obtain ⟨r,e,n',⟨q1,q2,q3⟩,it'⟩ := T
        exact ⟨p0,pl,hf.2 _ (at_mem p0 pl),hf.2 _ (at_mem p0 pl),by omega,by omega,⟨⟨by omega,by omega⟩,trivial,hj,hlt⟩,by omega⟩
      · have hp : p = (l.length : Int) := by omega
        subst hp
        have t0 : 0 ≤ z1 := by omega
        have t1 : z1 < (l.length : Int) := g2
        have key : (at_ l z1).2.1 = (s1,s2,s3) ∧ (at_ l z1).2.2.2 = it := by
          rcases hL z1 t0 t1 with h1 | h1
          · exfalso
            rcases hJ.2.2 with h2 | ⟨q,q0,q1,h2⟩
            · simp only at h1 h2
              rw [h2] at h1
              exact (hok z1 t0 t1).2.2 (cmp_neg.2 h1)
            · simp only at h1 h2
              rw [h2] at h1
              exact g5 q q0 q1 h1
          · exact h1
        have hit : L20 (at_ l z1).2.2.2 := (hf.2 _ (at_mem t0 t1)).2.1
        have hsm : sameI (it,(at_ l z1).2.2.2) = true := decide_eq_true key.2.symm
        have e1 : (at_ l z1).2.1.1 = s1 := by rw [key.1]
        have e2 : (at_ l z1).2.1.2.1 = s2 := by rw [key.1]
        have e3 : (at_ l z1).2.1.2.2 = s3 := by rw [key.1]
        have hst : ((s1 == (at_ l z1).2.1.1) && ((s2 == (at_ l z1).2.1.2.1) && (s3 == (at_ l z1).2.1.2.2))) = true := by
          rw [e1,e2,e3]; simp
        exact ⟨⟨hJ.2.1,t0,t1,⟨hJ.2.1,hit⟩,fun _ => ⟨t0,t1,hst⟩,fun c => absurd hsm c⟩,t0,t1,hJ.2.1,⟨hJ.2.1,hit⟩,fun _ => ⟨t0,t1,hst⟩,fun c => absurd hsm c⟩
end Go.Abs
