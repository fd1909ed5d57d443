/- Functions, and what the code asks of them: PVict. -/
import Derived.KernelRfl
import Derived.Test.YtabnaedcnfkmiaeVictimTellsP3
import Derived.Test.YtabnaedcnfkmiaeVictimTellsP4
import Derived.Test.YtabnaedcnfkmiaeVictimTellsP5
import Derived.Test.YtabnaedcnfkmiaeVictimTellsP8
import Derived.Test.YtabnaedcnfkmiaeVictimTellsP9
import Derived.Test.YtabnaedcnfkmiaeVictimTellsP11
import Derived.Test.YtabnaedcnfkmiaeVictimTellsP15
set_option linter.unusedVariables false
set_option linter.unusedSimpArgs false
/- Which jobs must go,so that a task has k6. -/
namespace Go.Abs
open Go

def pD (a:bM×List bQ×bO):List bQ:=a.2.1.filter fun j=>decide (j.2.2.1=a.1.1.1∧j.1.2.2.1 < a.2.2.2.2.1)
def i7 (a:bM×List bQ×bO):Prop:=L20 a.2.1
def dZ (a:bM×List bQ×bO):List bQ:=bK ltW (pD a)
def goK (need:b8):b8→List bQ→Option Nat
 | _,[]=>none
 | free,j::l=>if ¬(bP (free,j.1.2.2.2.1)).2=0 then none else if cT (need,(bP (free,j.1.2.2.2.1)).1)=true then some 1 else (goK need (bP (free,j.1.2.2.2.1)).1 l).map (·+1)
def bB (a:bM×List bQ×bO):List bQ×Bool :=
 if dS a=0 then ([],true) else if ¬dS a=4 then ([],false) else
 match goK a.2.2.2.2.2.1 (aX (a.1,a.2.1)).1 (dZ a) with
 | some k=>((dZ a).take k,true)
 | none=>([],false)
def fC (l:List bQ):List ByteArray:=l.map fun j=>j.1.1
def jR (l:List bQ):Prop:=L20 l
def cN (a:bM×List bQ×bO):List ByteArray×Bool:=(fC (bB a).1,(bB a).2)
def gY (a:List bM×List bQ×bO):Bool:=decide (a.1.length≤30∧a.2.1.length≤60∧a.2.2.2.2.2.2.1.length≤20)&&(List.range a.1.length).all fun i=>decide ((a.1.getD i default).1.2.2.length≤20∧(a.1.getD i default).1.1.size≤1000)
def lK (a:List bM×List bQ×bO):Prop:=L20 a.1∧L20 a.2.1∧L20 a.2.2.2.2.2.2.1∧∀ m∈a.1,m.1.1.size≤1073741824∧L20 m.1.2.2
end Go.Abs

-- interregnum/victim.weaker
namespace Go.Abs
open Go
def f251.ent (K:(aC×(List (aA))×aF)→Prop) (t:aC×(List (aA))×aF):Prop:=∃ c:aC×(List (aA))×aF,(t.1.1.1=c.1.1.1)∧(t.1.1.2.1.1=c.1.1.2.1.1)∧(t.1.1.2.1.2.1=c.1.1.2.1.2.1)∧(t.1.1.2.1.2.2=c.1.1.2.1.2.2)∧SlQ t.1.1.2.2.length c.1.1.2.2.length (gl aE t.1.1.2.2) (gl aE c.1.1.2.2) ((t.1.2.1=c.1.2.1)∧(t.1.2.2=c.1.2.2)∧SlQ t.2.1.length c.2.1.length (gl aB t.2.1) (gl aB c.2.1) ((t.2.2.1=c.2.2.1)∧(t.2.2.2.1=c.2.2.2.1)∧(t.2.2.2.2.1=c.2.2.2.2.1)∧(t.2.2.2.2.2.1.1=c.2.2.2.2.2.1.1)∧(t.2.2.2.2.2.1.2.1=c.2.2.2.2.2.1.2.1)∧(t.2.2.2.2.2.1.2.2=c.2.2.2.2.2.1.2.2)∧SlQ t.2.2.2.2.2.2.1.length c.2.2.2.2.2.2.1.length (gl aE t.2.2.2.2.2.2.1) (gl aE c.2.2.2.2.2.2.1) ((t.2.2.2.2.2.2.2.1=c.2.2.2.2.2.2.2.1)∧(t.2.2.2.2.2.2.2.2.1=c.2.2.2.2.2.2.2.2.1)∧(t.2.2.2.2.2.2.2.2.2=c.2.2.2.2.2.2.2.2.2)∧K c)))
theorem f251.ei {K:(aC×(List (aA))×aF)→Prop} {t:aC×(List (aA))×aF} (h:K t):f251.ent K t:=⟨t,⟨rfl,⟨rfl,⟨rfl,⟨rfl,slQ (Rds.self (enc:=aE)) (⟨rfl,⟨rfl,slQ (Rds.self (enc:=aB)) (⟨rfl,⟨rfl,⟨rfl,⟨rfl,⟨rfl,⟨rfl,slQ (Rds.self (enc:=aE)) (⟨rfl,⟨rfl,⟨rfl,h⟩⟩⟩)⟩⟩⟩⟩⟩⟩)⟩⟩)⟩⟩⟩⟩⟩
def f251.args (a:aC×(List (aA))×aF):List D:=[.agg [.str a.1.1.1,.int .i64 a.1.1.2.1.1,.int .i64 a.1.1.2.1.2.1,.int .i64 a.1.1.2.1.2.2,.slice .ro 2 a.1.1.2.2.length (gl aE a.1.1.2.2),.bool a.1.2.1,.int .i64 a.1.2.2],.slice .ro 13 a.2.1.length (gl aB a.2.1),.agg [.str a.2.2.1,.str a.2.2.2.1,.int .i64 a.2.2.2.2.1,.int .i64 a.2.2.2.2.2.1.1,.int .i64 a.2.2.2.2.2.1.2.1,.int .i64 a.2.2.2.2.2.1.2.2,.slice .ro 2 a.2.2.2.2.2.2.1.length (gl aE a.2.2.2.2.2.2.1),.str a.2.2.2.2.2.2.2.1,.str a.2.2.2.2.2.2.2.2.1,.int .i64 a.2.2.2.2.2.2.2.2.2]]
def f251.blks (a:aC×(List (aA))×aF):List (List D):=[]
def f251.res (a:aC×(List (aA))×aF):List D:=[.slice .ro 13 ((dZ a).length) (gl aB (dZ a))]
def f251.blks' (a:aC×(List (aA))×aF):List (List D):=[]
def f251.C:aM:=FnC f251.args f251.blks (fun a=>i7 a) f251.res f251.blks'
end Go.Abs

/- interregnum/victim.weaker -/
namespace Go.Abs
open Go
set_option linter.unusedVariables false
def f251.S0 (a:aC×(List (aA))×aF) (x:Int×(List (aA))):Tm:=⟨[.dead,.dead,.dead,.ptr 1000000 0,.dead,.ptr 1000001 0,.dead,.msl 1000004 13 (List.length x.2),.dead,.dead,.slice .ro 13 a.2.1.length (gl aB a.2.1),.int .i64 (a.2.1.length:Int),.int .i64 x.1,.dead,.dead,.dead,.dead,.dead,.dead,.dead,.dead,.dead,.dead,.dead,.dead,.dead,.dead,.dead,.dead,.dead,.dead,.dead,.dead,.dead,.dead,.dead,.dead,.dead],[(1000000,false,[.str a.1.1.1,.int .i64 a.1.1.2.1.1,.int .i64 a.1.1.2.1.2.1,.int .i64 a.1.1.2.1.2.2,.slice .ro 2 a.1.1.2.2.length (gl aE a.1.1.2.2),.bool a.1.2.1,.int .i64 a.1.2.2]),(1000001,false,[.str a.2.2.1,.str a.2.2.2.1,.int .i64 a.2.2.2.2.1,.int .i64 a.2.2.2.2.2.1.1,.int .i64 a.2.2.2.2.2.1.2.1,.int .i64 a.2.2.2.2.2.1.2.2,.slice .ro 2 a.2.2.2.2.2.2.1.length (gl aE a.2.2.2.2.2.2.1),.str a.2.2.2.2.2.2.2.1,.str a.2.2.2.2.2.2.2.2.1,.int .i64 a.2.2.2.2.2.2.2.2.2]),(1000004,false,[.dead,.arr true 13 (List.length x.2) (gl aB x.2)])],[]⟩
def f251.kills (a:aC×(List (aA))×aF):List cB:=[.tell (Int×(List (aA))) (f251.S0 a)]
def f251.cuts (a:aC×(List (aA))×aF):List (Nat×Σ β:Type,β→Tm):=[(999999,⟨Unit,fun x=>⟨[],[],[]⟩⟩),
 (1000007000001,⟨Unit,fun x=>⟨[],[],[]⟩⟩),
 (2000007000009,⟨Unit,fun x=>⟨[],[],[]⟩⟩)]
def f251.af (a:aC×(List (aA))×aF):AF:=AF.mk (.seq (.region [oT 3 1000000 .box [0],
 oT 5 1000001 .box [2],
 oT 6 1000002 (.nilSl 13) []])
 (.seq (.region [oT 7 1000003 (.nilSl 13) []])
 (.seq (.thaw 1000004 7) (.seq (.seq (.region [oT 10 1000005 .move [1],
 oT 11 1000006 (.len false) [10],
 ⟨(some 12),1000007,.move,[.c (.int .i64 (0))],none⟩])
 (.block 0 (.loopT (Int×(List (aA))) (f251.S0 a) 1000008 1000047 (.seq (.region [oT 13 1000008 (.bin .lss) [12,11]])
 (.seq (.cond (.t 13) (.skip) (.exit 0))
 (.seq (.block 1 (.seq (.region [oT 14 1000009 (.indexAddr 13 none) [10,12],
 oT 15 1000010 (.load true 13) [14],
 oT 9 1000011 (.alloc [.str ByteArray.empty,.str ByteArray.empty,.int .i64 (0),.int .i64 (0),.int .i64 (0),.int .i64 (0),.slice (.own 0) 2 0 cO,.str ByteArray.empty,.str ByteArray.empty,.int .i64 (0),.int .i64 (0),.str ByteArray.empty,.int .i64 (0)]) [],
 ⟨none,1000025,(.store 13),[.t 9,.t 15],none⟩])
 (.seq (.region [oT 16 1000026 (.fieldAddr 11) [9],
 oT 17 1000027 (.load false 1) [16],
 oT 18 1000028 (.fieldAddr 0) [3],
 oT 19 1000029 (.fieldAddr 0) [18],
 oT 20 1000030 (.load false 1) [19],
 oT 21 1000031 (.bin .eql) [17,20],
 oT 22 1000032 .move [21],
 oG 23 1000033 (.fieldAddr 0) [9] 22 true,
 oG 24 1000034 (.fieldAddr 2) [23] 22 true,
 oG 25 1000035 (.load false 1) [24] 22 true,
 oG 26 1000036 (.fieldAddr 2) [5] 22 true,
 oG 27 1000037 (.load false 1) [26] 22 true,
 oG 28 1000038 (.bin .lss) [25,27] 22 true,
 ⟨(some 29),1000039,.pick,[.t 22,.t 28,.c (.bool false)],none⟩])
 (.cond (.t 29) (.region [oT 30 1000040 .move [7],
 oT 31 1000041 (.load true 13) [9],
 oT 32 1000042 (.buildSlice 13 1 [.str ByteArray.empty,.str ByteArray.empty,.int .i64 (0),.int .i64 (0),.int .i64 (0),.int .i64 (0),.slice .full 2 0 cO,.str ByteArray.empty,.str ByteArray.empty,.int .i64 (0),.int .i64 (0),.str ByteArray.empty,.int .i64 (0)] [(0,13)]) [31],
 oT 33 1000043 (.append 13 160) [30,32],
 oT 7 1000044 .move [33]]) (.skip)))))
 (.region [⟨(some 34),1000045,(.bin .add),[.t 12,.c (.int .i64 (1))],none⟩,
 oT 12 1000046 .move [34]])))))))
 (.seq (.region [oT 35 1000047 .move [7],
 ⟨(some 36),1000048,(.call true 254),[.t 35,.c (.fn 255 [])],none⟩])
 (.seq (.frz 7) (.seq (.region [oT 37 1000052 .move [7],
 oT 6 1000053 .move [37]])
 (.ret))))))))
 [.tmp 6] 0 35
def f251.env:Env:=[(254,f254.C)]
def f251.tree (a:aC×(List (aA))×aF):Prop:=∃ (I2:(Int×(List (aA)))→Prop) (μ3:(Int×(List (aA)))→Nat),(∃ x1:Int×(List (aA)),(0=(List.length x1.2))∧SlS aB a.2.1 (((a.2.1.length:Int)=(a.2.1.length:Int))∧((0:Int)=x1.1)∧(a.1.1.1=a.1.1.1)∧(a.1.1.2.1.1=a.1.1.2.1.1)∧(a.1.1.2.1.2.1=a.1.1.2.1.2.1)∧(a.1.1.2.1.2.2=a.1.1.2.1.2.2)∧SlS aE a.1.1.2.2 ((a.1.2.1=a.1.2.1)∧(a.1.2.2=a.1.2.2)∧(a.2.2.1=a.2.2.1)∧(a.2.2.2.1=a.2.2.2.1)∧(a.2.2.2.2.1=a.2.2.2.2.1)∧(a.2.2.2.2.2.1.1=a.2.2.2.2.2.1.1)∧(a.2.2.2.2.2.1.2.1=a.2.2.2.2.2.1.2.1)∧(a.2.2.2.2.2.1.2.2=a.2.2.2.2.2.1.2.2)∧SlS aE a.2.2.2.2.2.2.1 ((a.2.2.2.2.2.2.2.1=a.2.2.2.2.2.2.2.1)∧(a.2.2.2.2.2.2.2.2.1=a.2.2.2.2.2.2.2.2.1)∧(a.2.2.2.2.2.2.2.2.2=a.2.2.2.2.2.2.2.2.2)∧SlQ 0 (List.length x1.2) cO (gl aB x1.2) (I2 x1)))))∧∀ y4:Int×(List (aA)),I2 y4→(Br (decide (y4.1 < (a.2.1.length:Int))) (Br (decide ((0:Int)≤y4.1)&&decide (y4.1 < (a.2.1.length:Int))) (Br (((at_ a.2.1 y4.1).2.2.1).toList==a.1.1.1.toList) (Br (decide ((((at_ a.2.1 y4.1).1).2.2.1) < a.2.2.2.2.1)) (((List.length y4.2)=(List.length y4.2)∧k6 (((List.length y4.2)+1) * 160))∧(Let (IntKind.i64.wrap (y4.1+(1:Int))) (fun v12:Int=>∃ x13:Int×(List (aA)),(((List.length y4.2)+1)=(List.length x13.2))∧SlS aB a.2.1 (((a.2.1.length:Int)=(a.2.1.length:Int))∧(v12=x13.1)∧(a.1.1.1=a.1.1.1)∧(a.1.1.2.1.1=a.1.1.2.1.1)∧(a.1.1.2.1.2.1=a.1.1.2.1.2.1)∧(a.1.1.2.1.2.2=a.1.1.2.1.2.2)∧SlS aE a.1.1.2.2 ((a.1.2.1=a.1.2.1)∧(a.1.2.2=a.1.2.2)∧(a.2.2.1=a.2.2.1)∧(a.2.2.2.1=a.2.2.2.1)∧(a.2.2.2.2.1=a.2.2.2.2.1)∧(a.2.2.2.2.2.1.1=a.2.2.2.2.2.1.1)∧(a.2.2.2.2.2.1.2.1=a.2.2.2.2.2.1.2.1)∧(a.2.2.2.2.2.1.2.2=a.2.2.2.2.2.1.2.2)∧SlS aE a.2.2.2.2.2.2.1 ((a.2.2.2.2.2.2.2.1=a.2.2.2.2.2.2.2.1)∧(a.2.2.2.2.2.2.2.2.1=a.2.2.2.2.2.2.2.2.1)∧(a.2.2.2.2.2.2.2.2.2=a.2.2.2.2.2.2.2.2.2)∧SlQ ((List.length y4.2)+1) (List.length x13.2) (fF (gl aB y4.2) (List.length y4.2) (fun _=>[.str (((at_ a.2.1 y4.1).1).1),.str (((at_ a.2.1 y4.1).1).2.1),.int .i64 (((at_ a.2.1 y4.1).1).2.2.1),.int .i64 ((((at_ a.2.1 y4.1).1).2.2.2.1).1),.int .i64 ((((at_ a.2.1 y4.1).1).2.2.2.1).2.1),.int .i64 ((((at_ a.2.1 y4.1).1).2.2.2.1).2.2),.slice .ro 2 ((((at_ a.2.1 y4.1).1).2.2.2.2.1).length) (gl aE (((at_ a.2.1 y4.1).1).2.2.2.2.1)),.str (((at_ a.2.1 y4.1).1).2.2.2.2.2.1),.str (((at_ a.2.1 y4.1).1).2.2.2.2.2.2.1),.int .i64 (((at_ a.2.1 y4.1).1).2.2.2.2.2.2.2),.int .i64 ((at_ a.2.1 y4.1).2.1),.str ((at_ a.2.1 y4.1).2.2.1),.int .i64 ((at_ a.2.1 y4.1).2.2.2)])) (gl aB x13.2) (I2 x13∧μ3 x13 < μ3 y4))))))) (Let (IntKind.i64.wrap (y4.1+(1:Int))) (fun v18:Int=>∃ x19:Int×(List (aA)),((List.length y4.2)=(List.length x19.2))∧SlS aB a.2.1 (((a.2.1.length:Int)=(a.2.1.length:Int))∧(v18=x19.1)∧(a.1.1.1=a.1.1.1)∧(a.1.1.2.1.1=a.1.1.2.1.1)∧(a.1.1.2.1.2.1=a.1.1.2.1.2.1)∧(a.1.1.2.1.2.2=a.1.1.2.1.2.2)∧SlS aE a.1.1.2.2 ((a.1.2.1=a.1.2.1)∧(a.1.2.2=a.1.2.2)∧(a.2.2.1=a.2.2.1)∧(a.2.2.2.1=a.2.2.2.1)∧(a.2.2.2.2.1=a.2.2.2.2.1)∧(a.2.2.2.2.2.1.1=a.2.2.2.2.2.1.1)∧(a.2.2.2.2.2.1.2.1=a.2.2.2.2.2.1.2.1)∧(a.2.2.2.2.2.1.2.2=a.2.2.2.2.2.1.2.2)∧SlS aE a.2.2.2.2.2.2.1 ((a.2.2.2.2.2.2.2.1=a.2.2.2.2.2.2.2.1)∧(a.2.2.2.2.2.2.2.2.1=a.2.2.2.2.2.2.2.2.1)∧(a.2.2.2.2.2.2.2.2.2=a.2.2.2.2.2.2.2.2.2)∧SlQ (List.length y4.2) (List.length x19.2) (gl aB y4.2) (gl aB x19.2) (I2 x19∧μ3 x19 < μ3 y4))))))) (Let (IntKind.i64.wrap (y4.1+(1:Int))) (fun v26:Int=>∃ x27:Int×(List (aA)),((List.length y4.2)=(List.length x27.2))∧SlS aB a.2.1 (((a.2.1.length:Int)=(a.2.1.length:Int))∧(v26=x27.1)∧(a.1.1.1=a.1.1.1)∧(a.1.1.2.1.1=a.1.1.2.1.1)∧(a.1.1.2.1.2.1=a.1.1.2.1.2.1)∧(a.1.1.2.1.2.2=a.1.1.2.1.2.2)∧SlS aE a.1.1.2.2 ((a.1.2.1=a.1.2.1)∧(a.1.2.2=a.1.2.2)∧(a.2.2.1=a.2.2.1)∧(a.2.2.2.1=a.2.2.2.1)∧(a.2.2.2.2.1=a.2.2.2.2.1)∧(a.2.2.2.2.2.1.1=a.2.2.2.2.2.1.1)∧(a.2.2.2.2.2.1.2.1=a.2.2.2.2.2.1.2.1)∧(a.2.2.2.2.2.1.2.2=a.2.2.2.2.2.1.2.2)∧SlS aE a.2.2.2.2.2.2.1 ((a.2.2.2.2.2.2.2.1=a.2.2.2.2.2.2.2.1)∧(a.2.2.2.2.2.2.2.2.1=a.2.2.2.2.2.2.2.2.1)∧(a.2.2.2.2.2.2.2.2.2=a.2.2.2.2.2.2.2.2.2)∧SlQ (List.length y4.2) (List.length x27.2) (gl aB y4.2) (gl aB x27.2) (I2 x27∧μ3 x27 < μ3 y4))))))) False) (((List.length y4.2)=(List.length y4.2))∧∃ c35:List (aA),((List.length y4.2)=List.length c35)∧(DEqs [] [])∧SlQ (List.length y4.2) (List.length c35) (gl aB y4.2) (gl aB c35) ((lB c35)∧((List.length (nV c35))=(List.length y4.2))∧(SlQ (List.length (nV c35)) ((dZ a).length) (gl aB (nV c35)) (gl aB (dZ a)) (True)))))
def f251.vc (a:aC×(List (aA))×aF):Prop:=(∃ (I2:(Int×(List (aA)))→Prop) (μ3:(Int×(List (aA)))→Nat),I2 ((0:Int),[])∧∀ y4:Int×(List (aA)),I2 y4→((y4.1 < (a.2.1.length:Int)→((0:Int)≤y4.1∧y4.1 < (a.2.1.length:Int)∧((((at_ a.2.1 y4.1).2.2.1)=a.1.1.1→(((((at_ a.2.1 y4.1).1).2.2.1) < a.2.2.2.2.1→((List.length y4.2)+1≤1073741824∧(-9223372036854775808≤(y4.1+(1:Int))∧(y4.1+(1:Int))≤9223372036854775807∧(I2 ((y4.1+(1:Int)),y4.2++([(((at_ a.2.1 y4.1).1),(at_ a.2.1 y4.1).2.1,(at_ a.2.1 y4.1).2.2.1,(at_ a.2.1 y4.1).2.2.2)]))∧μ3 ((y4.1+(1:Int)),y4.2++([(((at_ a.2.1 y4.1).1),(at_ a.2.1 y4.1).2.1,(at_ a.2.1 y4.1).2.2.1,(at_ a.2.1 y4.1).2.2.2)])) < μ3 y4))))∧(¬((((at_ a.2.1 y4.1).1).2.2.1) < a.2.2.2.2.1)→(-9223372036854775808≤(y4.1+(1:Int))∧(y4.1+(1:Int))≤9223372036854775807∧(I2 ((y4.1+(1:Int)),y4.2)∧μ3 ((y4.1+(1:Int)),y4.2) < μ3 y4)))))∧(¬(((at_ a.2.1 y4.1).2.2.1)=a.1.1.1)→(-9223372036854775808≤(y4.1+(1:Int))∧(y4.1+(1:Int))≤9223372036854775807∧(I2 ((y4.1+(1:Int)),y4.2)∧μ3 ((y4.1+(1:Int)),y4.2) < μ3 y4))))))∧(¬(y4.1 < (a.2.1.length:Int))→(lB y4.2∧((List.length (nV (y4.2)))=(List.length y4.2)∧((nV (y4.2))=dZ a))))))
set_option maxRecDepth 100000 in
set_option maxHeartbeats 2000000 in
theorem f251.of (a:aC×(List (aA))×aF) (h:f251.vc a):f251.tree a:=Exists.elim h (fun I2 h41_=>Exists.elim h41_ (fun μ3 h41=>⟨I2,μ3,⟨((0:Int),[]),⟨(cI cO (Rds.nil (enc:=aB))),SlS.mk  (⟨rfl,⟨rfl,⟨rfl,⟨rfl,⟨rfl,⟨rfl,SlS.mk  (⟨rfl,⟨rfl,⟨rfl,⟨rfl,⟨rfl,⟨rfl,⟨rfl,⟨rfl,SlS.mk  (⟨rfl,⟨rfl,⟨rfl,slQ (Rds.nil (enc:=aB)) (h41.1)⟩⟩⟩)⟩⟩⟩⟩⟩⟩⟩⟩)⟩⟩⟩⟩⟩⟩)⟩⟩,fun y4 h43=>br (h41.2 y4 h43) Cnd.dec (fun h5 k39=>chk k39.2.2 Cnd.ix ⟨k39.1,k39.2.1⟩ (fun h7 k34=>br k34 Cnd.seq (fun h8 k32=>br k32 Cnd.dec (fun h10 k24=>⟨⟨rfl,f7 k24.1 (by decide)⟩,wrapK.i64 k24.2 (fun h15 h16 k17=>⟨((y4.1+(1:Int)),y4.2++([(((at_ a.2.1 y4.1).1),(at_ a.2.1 y4.1).2.1,(at_ a.2.1 y4.1).2.2.1,(at_ a.2.1 y4.1).2.2.2)])),⟨(cI (fF (gl aB y4.2) (List.length y4.2) (fun _=>[.str (((at_ a.2.1 y4.1).1).1),.str (((at_ a.2.1 y4.1).1).2.1),.int .i64 (((at_ a.2.1 y4.1).1).2.2.1),.int .i64 ((((at_ a.2.1 y4.1).1).2.2.2.1).1),.int .i64 ((((at_ a.2.1 y4.1).1).2.2.2.1).2.1),.int .i64 ((((at_ a.2.1 y4.1).1).2.2.2.1).2.2),.slice .ro 2 ((((at_ a.2.1 y4.1).1).2.2.2.2.1).length) (gl aE (((at_ a.2.1 y4.1).1).2.2.2.2.1)),.str (((at_ a.2.1 y4.1).1).2.2.2.2.2.1),.str (((at_ a.2.1 y4.1).1).2.2.2.2.2.2.1),.int .i64 (((at_ a.2.1 y4.1).1).2.2.2.2.2.2.2),.int .i64 ((at_ a.2.1 y4.1).2.1),.str ((at_ a.2.1 y4.1).2.2.1),.int .i64 ((at_ a.2.1 y4.1).2.2.2)])) (Rds.app (enc:=aB) (Rds.self (enc:=aB)) (Rds.one (enc:=aB) (DEqs.refl _)))),SlS.mk  (⟨rfl,⟨rfl,⟨rfl,⟨rfl,⟨rfl,⟨rfl,SlS.mk  (⟨rfl,⟨rfl,⟨rfl,⟨rfl,⟨rfl,⟨rfl,⟨rfl,⟨rfl,SlS.mk  (⟨rfl,⟨rfl,⟨rfl,slQ (Rds.app (enc:=aB) (Rds.self (enc:=aB)) (Rds.one (enc:=aB) (DEqs.refl _))) (k17)⟩⟩⟩)⟩⟩⟩⟩⟩⟩⟩⟩)⟩⟩⟩⟩⟩⟩)⟩⟩)⟩) (fun h11 k25=>wrapK.i64 k25 (fun h21 h22 k23=>⟨((y4.1+(1:Int)),y4.2),⟨(cI (gl aB y4.2) (Rds.self (enc:=aB))),SlS.mk  (⟨rfl,⟨rfl,⟨rfl,⟨rfl,⟨rfl,⟨rfl,SlS.mk  (⟨rfl,⟨rfl,⟨rfl,⟨rfl,⟨rfl,⟨rfl,⟨rfl,⟨rfl,SlS.mk  (⟨rfl,⟨rfl,⟨rfl,slQ (Rds.self (enc:=aB)) (k23)⟩⟩⟩)⟩⟩⟩⟩⟩⟩⟩⟩)⟩⟩⟩⟩⟩⟩)⟩⟩))) (fun h9 k33=>wrapK.i64 k33 (fun h29 h30 k31=>⟨((y4.1+(1:Int)),y4.2),⟨(cI (gl aB y4.2) (Rds.self (enc:=aB))),SlS.mk  (⟨rfl,⟨rfl,⟨rfl,⟨rfl,⟨rfl,⟨rfl,SlS.mk  (⟨rfl,⟨rfl,⟨rfl,⟨rfl,⟨rfl,⟨rfl,⟨rfl,⟨rfl,SlS.mk  (⟨rfl,⟨rfl,⟨rfl,slQ (Rds.self (enc:=aB)) (k31)⟩⟩⟩)⟩⟩⟩⟩⟩⟩⟩⟩)⟩⟩⟩⟩⟩⟩)⟩⟩)))) (fun h6 k40=>⟨rfl,⟨y4.2,⟨(cI (gl aB y4.2) (Rds.self (enc:=aB))),⟨(DEqs.refl _),slQ (Rds.self (enc:=aB)) (⟨k40.1,tG k40.2 (fun (h36:(List.length (nV (y4.2)))=(List.length y4.2)) hk=>⟨h36,slQ (Rds.to (Rds.self (enc:=aB)) hk) (trivial)⟩)⟩)⟩⟩⟩⟩)⟩))
theorem f251.eq (a:aC×(List (aA))×aF):(f251.af a).gives f251.env (f251.args a) (f251.blks a) (f251.res a) (f251.blks' a)=f251.tree a:=by kernel_rfl
end Go.Abs

-- interregnum/victim.gone
namespace Go.Abs
open Go
def f243.ent (K:(aC×(List (aA))×aF)→Prop) (t:aC×(List (aA))×aF):Prop:=∃ c:aC×(List (aA))×aF,(t.1.1.1=c.1.1.1)∧(t.1.1.2.1.1=c.1.1.2.1.1)∧(t.1.1.2.1.2.1=c.1.1.2.1.2.1)∧(t.1.1.2.1.2.2=c.1.1.2.1.2.2)∧SlQ t.1.1.2.2.length c.1.1.2.2.length (gl aE t.1.1.2.2) (gl aE c.1.1.2.2) ((t.1.2.1=c.1.2.1)∧(t.1.2.2=c.1.2.2)∧SlQ t.2.1.length c.2.1.length (gl aB t.2.1) (gl aB c.2.1) ((t.2.2.1=c.2.2.1)∧(t.2.2.2.1=c.2.2.2.1)∧(t.2.2.2.2.1=c.2.2.2.2.1)∧(t.2.2.2.2.2.1.1=c.2.2.2.2.2.1.1)∧(t.2.2.2.2.2.1.2.1=c.2.2.2.2.2.1.2.1)∧(t.2.2.2.2.2.1.2.2=c.2.2.2.2.2.1.2.2)∧SlQ t.2.2.2.2.2.2.1.length c.2.2.2.2.2.2.1.length (gl aE t.2.2.2.2.2.2.1) (gl aE c.2.2.2.2.2.2.1) ((t.2.2.2.2.2.2.2.1=c.2.2.2.2.2.2.2.1)∧(t.2.2.2.2.2.2.2.2.1=c.2.2.2.2.2.2.2.2.1)∧(t.2.2.2.2.2.2.2.2.2=c.2.2.2.2.2.2.2.2.2)∧K c)))
theorem f243.ei {K:(aC×(List (aA))×aF)→Prop} {t:aC×(List (aA))×aF} (h:K t):f243.ent K t:=⟨t,⟨rfl,⟨rfl,⟨rfl,⟨rfl,slQ (Rds.self (enc:=aE)) (⟨rfl,⟨rfl,slQ (Rds.self (enc:=aB)) (⟨rfl,⟨rfl,⟨rfl,⟨rfl,⟨rfl,⟨rfl,slQ (Rds.self (enc:=aE)) (⟨rfl,⟨rfl,⟨rfl,h⟩⟩⟩)⟩⟩⟩⟩⟩⟩)⟩⟩)⟩⟩⟩⟩⟩
def f243.args (a:aC×(List (aA))×aF):List D:=[.agg [.str a.1.1.1,.int .i64 a.1.1.2.1.1,.int .i64 a.1.1.2.1.2.1,.int .i64 a.1.1.2.1.2.2,.slice .ro 2 a.1.1.2.2.length (gl aE a.1.1.2.2),.bool a.1.2.1,.int .i64 a.1.2.2],.slice .ro 13 a.2.1.length (gl aB a.2.1),.agg [.str a.2.2.1,.str a.2.2.2.1,.int .i64 a.2.2.2.2.1,.int .i64 a.2.2.2.2.2.1.1,.int .i64 a.2.2.2.2.2.1.2.1,.int .i64 a.2.2.2.2.2.1.2.2,.slice .ro 2 a.2.2.2.2.2.2.1.length (gl aE a.2.2.2.2.2.2.1),.str a.2.2.2.2.2.2.2.1,.str a.2.2.2.2.2.2.2.2.1,.int .i64 a.2.2.2.2.2.2.2.2.2]]
def f243.blks (a:aC×(List (aA))×aF):List (List D):=[]
def f243.res (a:aC×(List (aA))×aF):List D:=[.slice .ro 13 (((bB a).1).length) (gl aB ((bB a).1)),.bool ((bB a).2)]
def f243.blks' (a:aC×(List (aA))×aF):List (List D):=[]
def f243.C:aM:=FnC f243.args f243.blks (fun a=>bY a) f243.res f243.blks'
end Go.Abs

/- interregnum/victim.gone -/
namespace Go.Abs
open Go
set_option linter.unusedVariables false
def f243.S0 (a:aC×(List (aA))×aF) (x:(List (aA))×(List (aA))×Int×Int×Int×Int×Int):Tm:=⟨[.dead,.dead,.dead,.dead,.dead,.ptr 1 0,.dead,.dead,.ptr 28 0,.dead,.slice .ro 13 x.1.length (gl aB x.1),.dead,.dead,.dead,.dead,.dead,.dead,.dead,.dead,.dead,.dead,.dead,.dead,.dead,.dead,.dead,.dead,.dead,.dead,.dead,.dead,.dead,.dead,.slice .ro 13 x.2.1.length (gl aB x.2.1),.int .i64 x.2.2.1,.int .i64 x.2.2.2.1,.dead,.dead,.dead,.dead,.dead,.dead,.dead,.dead,.dead,.dead,.dead,.dead,.dead,.dead,.dead,.dead,.dead,.dead,.dead,.dead,.dead,.dead,.dead,.dead],[(1,false,[.str a.2.2.1,.str a.2.2.2.1,.int .i64 a.2.2.2.2.1,.int .i64 a.2.2.2.2.2.1.1,.int .i64 a.2.2.2.2.2.1.2.1,.int .i64 a.2.2.2.2.2.1.2.2,.slice .ro 2 a.2.2.2.2.2.2.1.length (gl aE a.2.2.2.2.2.2.1),.str a.2.2.2.2.2.2.2.1,.str a.2.2.2.2.2.2.2.2.1,.int .i64 a.2.2.2.2.2.2.2.2.2]),(28,false,[.int .i64 x.2.2.2.2.1,.int .i64 x.2.2.2.2.2.1,.int .i64 x.2.2.2.2.2.2])],[]⟩
def f243.l0 (a:aC×(List (aA))×aF) (K:((List (aA))×(List (aA))×Int×Int×Int×Int×Int)→Prop) (t:(List (aA))×(List (aA))×Int×Int×Int×Int×Int):Prop:=∃ x:(List (aA))×(List (aA))×Int×Int×Int×Int×Int,SlQ t.1.length x.1.length (gl aB t.1) (gl aB x.1) (SlQ t.2.1.length x.2.1.length (gl aB t.2.1) (gl aB x.2.1) ((t.2.2.1=x.2.2.1)∧(t.2.2.2.1=x.2.2.2.1)∧(a.2.2.1=a.2.2.1)∧(a.2.2.2.1=a.2.2.2.1)∧(a.2.2.2.2.1=a.2.2.2.2.1)∧(a.2.2.2.2.2.1.1=a.2.2.2.2.2.1.1)∧(a.2.2.2.2.2.1.2.1=a.2.2.2.2.2.1.2.1)∧(a.2.2.2.2.2.1.2.2=a.2.2.2.2.2.1.2.2)∧SlS aE a.2.2.2.2.2.2.1 ((a.2.2.2.2.2.2.2.1=a.2.2.2.2.2.2.2.1)∧(a.2.2.2.2.2.2.2.2.1=a.2.2.2.2.2.2.2.2.1)∧(a.2.2.2.2.2.2.2.2.2=a.2.2.2.2.2.2.2.2.2)∧(t.2.2.2.2.1=x.2.2.2.2.1)∧(t.2.2.2.2.2.1=x.2.2.2.2.2.1)∧(t.2.2.2.2.2.2=x.2.2.2.2.2.2)∧K x)))
theorem f243.l0i (a:aC×(List (aA))×aF) {K:((List (aA))×(List (aA))×Int×Int×Int×Int×Int)→Prop} {t:(List (aA))×(List (aA))×Int×Int×Int×Int×Int} (h:K t):f243.l0 a K t:=⟨t,slQ (Rds.self (enc:=aB)) (slQ (Rds.self (enc:=aB)) (⟨rfl,⟨rfl,⟨rfl,⟨rfl,⟨rfl,⟨rfl,⟨rfl,⟨rfl,SlS.mk  (⟨rfl,⟨rfl,⟨rfl,⟨rfl,⟨rfl,⟨rfl,h⟩⟩⟩⟩⟩⟩)⟩⟩⟩⟩⟩⟩⟩⟩))⟩
def f243.kills (a:aC×(List (aA))×aF):List cB:=[.tell ((List (aA))×(List (aA))×Int×Int×Int×Int×Int) (f243.S0 a)]
def f243.cuts (a:aC×(List (aA))×aF):List (Nat×Σ β:Type,β→Tm):=[]
def f243.af (a:aC×(List (aA))×aF):AF:=AF.mk (.seq (.region [oT 3 0 .box [0],
 oT 5 1 .box [2],
 oT 6 2 (.nilSl 13) [],
 ⟨(some 7),3,.move,[.c (.bool false)],none⟩])
 (.seq (.seq (.region [oT 15 4 (.load true 7) [3],
 oT 16 5 .move [1],
 oT 17 6 (.load true 10) [5],
 oT 18 7 (.call false 111) [15,16,17]])
 (.block 0 (.seq (.region [⟨(some 20),11,(.bin .eql),[.t 18,.c (.int .i64 (0))],none⟩,
 oT 19 12 .move [20]])
 (.cond (.t 19) (.seq (.region [oT 6 13 (.nilSl 13) [],
 ⟨(some 7),14,.move,[.c (.bool true)],none⟩])
 (.ret)) (.seq (.region [⟨(some 22),15,(.bin .eql),[.t 18,.c (.int .i64 (4))],none⟩,
 oT 21 16 .move [22]])
 (.cond (.t 21) (.skip) (.seq (.region [oT 6 17 (.nilSl 13) [],
 ⟨(some 7),18,.move,[.c (.bool false)],none⟩])
 (.ret))))))))
 (.seq (.region [oT 24 19 (.load true 7) [3],
 oT 25 20 .move [1],
 oT 26 21 (.call false 112) [24,25],
 oT 23 25 .move [26],
 oT 27 26 (.extract 0) [23],
 oT 28 27 (.extract 1) [23],
 oT 8 28 (.alloc [.int .i64 (0),.int .i64 (0),.int .i64 (0)]) [],
 ⟨none,32,(.store 3),[.t 8,.t 27],none⟩,
 oT 9 33 .move [28]])
 (.seq (.region [oT 29 34 (.load true 7) [3],
 oT 30 35 .move [1],
 oT 31 36 (.load true 10) [5],
 oT 32 37 (.call false 251) [29,30,31],
 oT 10 41 .move [32]])
 (.seq (.seq (.region [oT 33 42 .move [10],
 oT 34 43 (.len false) [33],
 ⟨(some 35),44,.move,[.c (.int .i64 (0))],none⟩])
 (.block 1 (.loopT ((List (aA))×(List (aA))×Int×Int×Int×Int×Int) (f243.S0 a) 45 103 (.seq (.region [oT 36 45 (.bin .lss) [35,34]])
 (.seq (.cond (.t 36) (.skip) (.exit 1))
 (.seq (.block 2 (.seq (.region [oT 37 46 .move [35],
 oT 38 47 (.indexAddr 13 none) [33,35],
 oT 39 48 (.load true 13) [38],
 oT 12 49 (.alloc [.str ByteArray.empty,.str ByteArray.empty,.int .i64 (0),.int .i64 (0),.int .i64 (0),.int .i64 (0),.slice (.own 0) 2 0 cO,.str ByteArray.empty,.str ByteArray.empty,.int .i64 (0),.int .i64 (0),.str ByteArray.empty,.int .i64 (0)]) [],
 oT 11 63 .move [37],
 ⟨none,64,(.store 13),[.t 12,.t 39],none⟩])
 (.seq (.region [oT 41 65 (.load true 3) [8],
 oT 42 66 (.fieldAddr 0) [12],
 oT 43 67 (.fieldAddr 3) [42],
 oT 44 68 (.load true 3) [43],
 oT 45 69 (.call false 54) [41,44],
 oT 40 73 .move [45],
 oT 46 74 (.extract 0) [40],
 oT 47 75 (.extract 1) [40],
 oT 13 76 (.alloc [.int .i64 (0),.int .i64 (0),.int .i64 (0)]) [],
 ⟨none,80,(.store 3),[.t 13,.t 46],none⟩,
 oT 14 81 .move [47]])
 (.seq (.seq (.region [oT 48 82 .move [14],
 ⟨(some 49),83,(.bin .neq),[.t 48,.c (.int .i64 (0))],none⟩])
 (.cond (.t 49) (.seq (.region [oT 6 84 (.nilSl 13) [],
 ⟨(some 7),85,.move,[.c (.bool false)],none⟩])
 (.ret)) (.skip)))
 (.seq (.region [oT 50 86 (.load true 3) [13],
 ⟨none,87,(.store 3),[.t 8,.t 50],none⟩])
 (.seq (.region [oT 51 88 (.fieldAddr 3) [5],
 oT 52 89 (.load true 3) [51],
 oT 53 90 (.load true 3) [8],
 oT 54 91 (.call false 34) [52,53]])
 (.cond (.t 54) (.seq (.region [oT 55 95 .move [10],
 oT 56 96 .move [11],
 ⟨(some 57),97,(.bin .add),[.t 56,.c (.int .i64 (1))],none⟩,
 oT 58 98 (.sliceSl 13 false true false) [55,57],
 oT 6 99 .move [58],
 ⟨(some 7),100,.move,[.c (.bool true)],none⟩])
 (.ret)) (.skip))))))))
 (.region [⟨(some 59),101,(.bin .add),[.t 35,.c (.int .i64 (1))],none⟩,
 oT 35 102 .move [59]])))))))
 (.seq (.region [oT 6 103 (.nilSl 13) [],
 ⟨(some 7),104,.move,[.c (.bool false)],none⟩])
 (.ret)))))))
 [.tmp 6,.tmp 7] 0 57
def f243.env:Env:=[(111,f111.C),(112,f112.C),(251,f251.C),(54,f54.C),(34,f34.C)]
def f243.tree (a:aC×(List (aA))×aF):Prop:=f111.ent (fun c1=>(bY c1)∧Br ((dS c1)==(0:Int)) ((0=0)∧SlQ 0 (((bB a).1).length) cO (gl aB ((bB a).1)) ((true=((bB a).2))∧True)) (Br ((dS c1)==(4:Int)) (f112.ent (fun c7=>(fK c7)∧f251.ent (fun c8=>(i7 c8)∧∃ (I10:((List (aA))×(List (aA))×Int×Int×Int×Int×Int)→Prop) (μ11:((List (aA))×(List (aA))×Int×Int×Int×Int×Int)→Nat),(f243.l0 a I10 ((dZ c8),(dZ c8),((dZ c8).length:Int),(0:Int),((aX c7).1).1,((aX c7).1).2.1,((aX c7).1).2.2))∧∀ y12:(List (aA))×(List (aA))×Int×Int×Int×Int×Int,I10 y12→(Br (decide (y12.2.2.2.1 < y12.2.2.1)) (Br (decide ((0:Int)≤y12.2.2.2.1)&&decide (y12.2.2.2.1 < (y12.2.1.length:Int))) (f54.ent (fun c16=>True∧Br (((bP c16).2) != (0:Int)) ((0=0)∧SlQ 0 (((bB a).1).length) cO (gl aB ((bB a).1)) ((false=((bB a).2))∧True)) (f34.ent (fun c20=>True∧Br (cT c20) (Let (IntKind.i64.wrap (y12.2.2.2.1+(1:Int))) (fun v23:Int=>Br (decide ((0:Int)≤(0:Int))&&decide ((0:Int)≤v23)&&decide (v23≤(y12.1.length:Int))&&(v23==v23)) (SlQ (Int.toNat (v23 - (0:Int))) (((bB a).1).length) (tL (gl aB y12.1) 0) (gl aB ((bB a).1)) ((true=((bB a).2))∧True)) False)) (Let (IntKind.i64.wrap (y12.2.2.2.1+(1:Int))) (fun v30:Int=>f243.l0 a (Dn I10 μ11 y12) (y12.1,y12.2.1,y12.2.2.1,v30,((bP c16).1).1,((bP c16).1).2.1,((bP c16).1).2.2)))) (a.2.2.2.2.2.1,((bP c16).1)))) (y12.2.2.2.2,(((at_ y12.2.1 y12.2.2.2.1).1).2.2.2.1))) False) ((0=0)∧SlQ 0 (((bB a).1).length) cO (gl aB ((bB a).1)) ((false=((bB a).2))∧True)))) (a.1,a.2.1,a.2.2)) (a.1,a.2.1)) ((0=0)∧SlQ 0 (((bB a).1).length) cO (gl aB ((bB a).1)) ((false=((bB a).2))∧True)))) (a.1,a.2.1,a.2.2)
def f243.vc (a:aC×(List (aA))×aF):Prop:=(bY (a.1,a.2.1,a.2.2)∧(((dS (a.1,a.2.1,a.2.2))=(0:Int)→(([],true)=bB a))∧(¬((dS (a.1,a.2.1,a.2.2))=(0:Int))→(((dS (a.1,a.2.1,a.2.2))=(4:Int)→(fK (a.1,a.2.1)∧(i7 (a.1,a.2.1,a.2.2)∧(∃ (I10:((List (aA))×(List (aA))×Int×Int×Int×Int×Int)→Prop) (μ11:((List (aA))×(List (aA))×Int×Int×Int×Int×Int)→Nat),I10 ((dZ (a.1,a.2.1,a.2.2)),(dZ (a.1,a.2.1,a.2.2)),((dZ (a.1,a.2.1,a.2.2)).length:Int),(0:Int),((aX (a.1,a.2.1)).1).1,((aX (a.1,a.2.1)).1).2.1,((aX (a.1,a.2.1)).1).2.2)∧∀ y12:(List (aA))×(List (aA))×Int×Int×Int×Int×Int,I10 y12→((y12.2.2.2.1 < y12.2.2.1→((0:Int)≤y12.2.2.2.1∧y12.2.2.2.1 < (y12.2.1.length:Int)∧((¬((bP (y12.2.2.2.2,(((at_ y12.2.1 y12.2.2.2.1).1).2.2.2.1))).2)=(0:Int)→(([],false)=bB a))∧(¬(¬((bP (y12.2.2.2.2,(((at_ y12.2.1 y12.2.2.2.1).1).2.2.2.1))).2)=(0:Int))→(((cT (a.2.2.2.2.2.1,((bP (y12.2.2.2.2,(((at_ y12.2.1 y12.2.2.2.1).1).2.2.2.1))).1)))=true→(-9223372036854775808≤(y12.2.2.2.1+(1:Int))∧(y12.2.2.2.1+(1:Int))≤9223372036854775807∧((0:Int)≤(y12.2.2.2.1+(1:Int))∧(y12.2.2.2.1+(1:Int))≤(y12.1.length:Int)∧(((gK y12.1 (0:Int) (y12.2.2.2.1+(1:Int))),true)=bB a))))∧(¬((cT (a.2.2.2.2.2.1,((bP (y12.2.2.2.2,(((at_ y12.2.1 y12.2.2.2.1).1).2.2.2.1))).1)))=true)→(-9223372036854775808≤(y12.2.2.2.1+(1:Int))∧(y12.2.2.2.1+(1:Int))≤9223372036854775807∧(I10 (y12.1,y12.2.1,y12.2.2.1,(y12.2.2.2.1+(1:Int)),((bP (y12.2.2.2.2,(((at_ y12.2.1 y12.2.2.2.1).1).2.2.2.1))).1).1,((bP (y12.2.2.2.2,(((at_ y12.2.1 y12.2.2.2.1).1).2.2.2.1))).1).2.1,((bP (y12.2.2.2.2,(((at_ y12.2.1 y12.2.2.2.1).1).2.2.2.1))).1).2.2)∧μ11 (y12.1,y12.2.1,y12.2.2.1,(y12.2.2.2.1+(1:Int)),((bP (y12.2.2.2.2,(((at_ y12.2.1 y12.2.2.2.1).1).2.2.2.1))).1).1,((bP (y12.2.2.2.2,(((at_ y12.2.1 y12.2.2.2.1).1).2.2.2.1))).1).2.1,((bP (y12.2.2.2.2,(((at_ y12.2.1 y12.2.2.2.1).1).2.2.2.1))).1).2.2) < μ11 y12))))))))∧(¬(y12.2.2.2.1 < y12.2.2.1)→(([],false)=bB a)))))))∧(¬((dS (a.1,a.2.1,a.2.2))=(4:Int))→(([],false)=bB a))))))
set_option maxRecDepth 100000 in
set_option maxHeartbeats 2000000 in
theorem f243.of (a:aC×(List (aA))×aF) (h:f243.vc a):f243.tree a:=(f111.ei ⟨h.1,br h.2 Cnd.eq (fun h2 k54=>⟨rfl,slQ (Rds.to (Rds.nil (enc:=aB)) (congrArg (fun x:(List (aA))×Bool=>x.1) k54 :)) (⟨(congrArg (fun x:(List (aA))×Bool=>x.2) k54 :),trivial⟩)⟩) (fun h3 k55=>br k55 Cnd.eq (fun h5 k52=>(f112.ei ⟨k52.1,(f251.ei ⟨k52.2.1,Exists.elim k52.2.2 (fun I10 h46_=>Exists.elim h46_ (fun μ11 h46=>⟨I10,μ11,(f243.l0i a h46.1),fun y12 h48=>br (h46.2 y12 h48) Cnd.dec (fun h13 k44=>chk k44.2.2 Cnd.ix ⟨k44.1,k44.2.1⟩ (fun h15 k42=>(f54.ei ⟨trivial,br k42 Cnd.ne (fun h17 k39=>⟨rfl,slQ (Rds.to (Rds.nil (enc:=aB)) (congrArg (fun x:(List (aA))×Bool=>x.1) k39 :)) (⟨(congrArg (fun x:(List (aA))×Bool=>x.2) k39 :),trivial⟩)⟩) (fun h18 k40=>(f34.ei ⟨trivial,br k40 Cnd.b (fun h21 k36=>wrapK.i64 k36 (fun h27 h28 k29=>chk k29.2.2 Cnd.sl ⟨(by decide),k29.1,k29.2.1⟩ (fun h24 k26=>slQ (Rds.to (Rds.sub (enc:=aB) (Rds.self (enc:=aB)) h24) (congrArg (fun x:(List (aA))×Bool=>x.1) k26 :)) (⟨(congrArg (fun x:(List (aA))×Bool=>x.2) k26 :),trivial⟩)))) (fun h22 k37=>wrapK.i64 k37 (fun h33 h34 k35=>(f243.l0i a k35)))⟩))⟩))) (fun h14 k45=>⟨rfl,slQ (Rds.to (Rds.nil (enc:=aB)) (congrArg (fun x:(List (aA))×Bool=>x.1) k45 :)) (⟨(congrArg (fun x:(List (aA))×Bool=>x.2) k45 :),trivial⟩)⟩)⟩))⟩)⟩)) (fun h6 k53=>⟨rfl,slQ (Rds.to (Rds.nil (enc:=aB)) (congrArg (fun x:(List (aA))×Bool=>x.1) k53 :)) (⟨(congrArg (fun x:(List (aA))×Bool=>x.2) k53 :),trivial⟩)⟩))⟩)
theorem f243.eq (a:aC×(List (aA))×aF):(f243.af a).gives f243.env (f243.args a) (f243.blks a) (f243.res a) (f243.blks' a)=f243.tree a:=by kernel_rfl
end Go.Abs

-- interregnum/victim.names
namespace Go.Abs
open Go
def f246.ent (K:(List (aA))→Prop) (t:List (aA)):Prop:=∃ c:List (aA),SlQ t.length c.length (gl aB t) (gl aB c) (K c)
theorem f246.ei {K:(List (aA))→Prop} {t:List (aA)} (h:K t):f246.ent K t:=⟨t,slQ (Rds.self (enc:=aB)) (h)⟩
def f246.args (a:List (aA)):List D:=[.slice .ro 13 a.length (gl aB a)]
def f246.blks (a:List (aA)):List (List D):=[]
def f246.res (a:List (aA)):List D:=[.slice .ro 1 ((fC a).length) (gl bN (fC a))]
def f246.blks' (a:List (aA)):List (List D):=[]
def f246.C:aM:=FnC f246.args f246.blks (fun a=>jR a) f246.res f246.blks'
end Go.Abs

/- interregnum/victim.names -/
namespace Go.Abs
open Go
set_option linter.unusedVariables false
def f246.S0 (a:List (aA)) (x:(List (ByteArray))×Int):Tm:=⟨[.dead,.dead,.dead,.slice (.own 1) 1 x.1.length (gl bN x.1),.dead,.dead,.slice .ro 13 a.length (gl aB a),.int .i64 (a.length:Int),.int .i64 x.2,.dead,.dead,.dead,.dead,.dead,.dead,.dead,.dead,.dead,.dead,.dead],[],[(1,1,x.1.length)]⟩
def f246.kills (a:List (aA)):List cB:=[.tell ((List (ByteArray))×Int) (f246.S0 a)]
def f246.cuts (a:List (aA)):List (Nat×Σ β:Type,β→Tm):=[]
def f246.af (a:List (aA)):AF:=AF.mk (.seq (.region [oT 2 0 (.nilSl 1) []])
 (.seq (.region [oT 3 1 (.nilSl 1) []])
 (.seq (.seq (.region [oT 6 2 .move [0],
 oT 7 3 (.len false) [6],
 ⟨(some 8),4,.move,[.c (.int .i64 (0))],none⟩])
 (.block 0 (.loopT ((List (ByteArray))×Int) (f246.S0 a) 5 32 (.seq (.region [oT 9 5 (.bin .lss) [8,7]])
 (.seq (.cond (.t 9) (.skip) (.exit 0))
 (.seq (.block 1 (.seq (.region [oT 10 6 (.indexAddr 13 none) [6,8],
 oT 11 7 (.load true 13) [10],
 oT 5 8 (.alloc [.str ByteArray.empty,.str ByteArray.empty,.int .i64 (0),.int .i64 (0),.int .i64 (0),.int .i64 (0),.slice (.own 0) 2 0 cO,.str ByteArray.empty,.str ByteArray.empty,.int .i64 (0),.int .i64 (0),.str ByteArray.empty,.int .i64 (0)]) [],
 ⟨none,22,(.store 13),[.t 5,.t 11],none⟩])
 (.region [oT 12 23 .move [3],
 oT 13 24 (.fieldAddr 0) [5],
 oT 14 25 (.fieldAddr 0) [13],
 oT 15 26 (.load false 1) [14],
 oT 16 27 (.buildSlice 1 1 [.str ByteArray.empty] [(0,1)]) [15],
 oT 17 28 (.append 1 16) [12,16],
 oT 3 29 .move [17]])))
 (.region [⟨(some 18),30,(.bin .add),[.t 8,.c (.int .i64 (1))],none⟩,
 oT 8 31 .move [18]])))))))
 (.seq (.region [oT 19 32 .move [3],
 oT 2 33 .move [19]])
 (.ret)))))
 [.tmp 2] 0 19
def f246.env:Env:=[]
def f246.tree (a:List (aA)):Prop:=∃ (I2:((List (ByteArray))×Int)→Prop) (μ3:((List (ByteArray))×Int)→Nat),(∃ x1:(List (ByteArray))×Int,SlQ 0 x1.1.length cO (gl bN x1.1) (SlS aB a (((a.length:Int)=(a.length:Int))∧((0:Int)=x1.2)∧(0=x1.1.length)∧I2 x1)))∧∀ y4:(List (ByteArray))×Int,I2 y4→(Br (decide (y4.2 < (a.length:Int))) (Br (decide ((0:Int)≤y4.2)&&decide (y4.2 < (a.length:Int))) ((y4.1.length=y4.1.length∧k6 ((y4.1.length+1) * 16))∧(Let (IntKind.i64.wrap (y4.2+(1:Int))) (fun v8:Int=>∃ x9:(List (ByteArray))×Int,SlQ (y4.1.length+1) x9.1.length (fF (gl bN y4.1) y4.1.length (fun _=>[.str (((at_ a y4.2).1).1)])) (gl bN x9.1) (SlS aB a (((a.length:Int)=(a.length:Int))∧(v8=x9.2)∧((y4.1.length+1)=x9.1.length)∧I2 x9∧μ3 x9 < μ3 y4))))) False) ((y4.1.length=y4.1.length)∧SlQ y4.1.length ((fC a).length) (gl bN y4.1) (gl bN (fC a)) (True)))
def f246.vc (a:List (aA)):Prop:=(∃ (I2:((List (ByteArray))×Int)→Prop) (μ3:((List (ByteArray))×Int)→Nat),I2 ([],(0:Int))∧∀ y4:(List (ByteArray))×Int,I2 y4→((y4.2 < (a.length:Int)→((0:Int)≤y4.2∧y4.2 < (a.length:Int)∧(y4.1.length+1≤1073741824∧(-9223372036854775808≤(y4.2+(1:Int))∧(y4.2+(1:Int))≤9223372036854775807∧(I2 (y4.1++([((at_ a y4.2).1).1]),(y4.2+(1:Int)))∧μ3 (y4.1++([((at_ a y4.2).1).1]),(y4.2+(1:Int))) < μ3 y4)))))∧(¬(y4.2 < (a.length:Int))→(y4.1=fC a))))
set_option maxRecDepth 100000 in
set_option maxHeartbeats 2000000 in
theorem f246.of (a:List (aA)) (h:f246.vc a):f246.tree a:=Exists.elim h (fun I2 h18_=>Exists.elim h18_ (fun μ3 h18=>⟨I2,μ3,⟨([],(0:Int)),slQ (Rds.nil (enc:=bN)) (SlS.mk  (⟨rfl,⟨rfl,⟨(cI cO (Rds.nil (enc:=bN))),h18.1⟩⟩⟩))⟩,fun y4 h20=>br (h18.2 y4 h20) Cnd.dec (fun h5 k16=>chk k16.2.2 Cnd.ix ⟨k16.1,k16.2.1⟩ (fun h7 k14=>⟨⟨rfl,(f7 k14.1 (by decide))⟩,wrapK.i64 k14.2 (fun h11 h12 k13=>⟨(y4.1++([((at_ a y4.2).1).1]),(y4.2+(1:Int))),slQ (Rds.app (enc:=bN) (Rds.self (enc:=bN)) (Rds.one (enc:=bN) (DEqs.refl _))) (SlS.mk  (⟨rfl,⟨rfl,⟨(cI (fF (gl bN y4.1) y4.1.length (fun _=>[.str (((at_ a y4.2).1).1)])) (Rds.app (enc:=bN) (Rds.self (enc:=bN)) (Rds.one (enc:=bN) (DEqs.refl _)))),k13⟩⟩⟩))⟩)⟩)) (fun h6 k17=>⟨rfl,slQ (Rds.to (Rds.self (enc:=bN)) k17) (trivial)⟩)⟩))
theorem f246.eq (a:List (aA)):(f246.af a).gives f246.env (f246.args a) (f246.blks a) (f246.res a) (f246.blks' a)=f246.tree a:=by kernel_rfl
end Go.Abs

-- interregnum/victim.Plan
namespace Go.Abs
open Go
def f355.ent (K:(aC×(List (aA))×aF)→Prop) (t:aC×(List (aA))×aF):Prop:=∃ c:aC×(List (aA))×aF,(t.1.1.1=c.1.1.1)∧(t.1.1.2.1.1=c.1.1.2.1.1)∧(t.1.1.2.1.2.1=c.1.1.2.1.2.1)∧(t.1.1.2.1.2.2=c.1.1.2.1.2.2)∧SlQ t.1.1.2.2.length c.1.1.2.2.length (gl aE t.1.1.2.2) (gl aE c.1.1.2.2) ((t.1.2.1=c.1.2.1)∧(t.1.2.2=c.1.2.2)∧SlQ t.2.1.length c.2.1.length (gl aB t.2.1) (gl aB c.2.1) ((t.2.2.1=c.2.2.1)∧(t.2.2.2.1=c.2.2.2.1)∧(t.2.2.2.2.1=c.2.2.2.2.1)∧(t.2.2.2.2.2.1.1=c.2.2.2.2.2.1.1)∧(t.2.2.2.2.2.1.2.1=c.2.2.2.2.2.1.2.1)∧(t.2.2.2.2.2.1.2.2=c.2.2.2.2.2.1.2.2)∧SlQ t.2.2.2.2.2.2.1.length c.2.2.2.2.2.2.1.length (gl aE t.2.2.2.2.2.2.1) (gl aE c.2.2.2.2.2.2.1) ((t.2.2.2.2.2.2.2.1=c.2.2.2.2.2.2.2.1)∧(t.2.2.2.2.2.2.2.2.1=c.2.2.2.2.2.2.2.2.1)∧(t.2.2.2.2.2.2.2.2.2=c.2.2.2.2.2.2.2.2.2)∧K c)))
theorem f355.ei {K:(aC×(List (aA))×aF)→Prop} {t:aC×(List (aA))×aF} (h:K t):f355.ent K t:=⟨t,⟨rfl,⟨rfl,⟨rfl,⟨rfl,slQ (Rds.self (enc:=aE)) (⟨rfl,⟨rfl,slQ (Rds.self (enc:=aB)) (⟨rfl,⟨rfl,⟨rfl,⟨rfl,⟨rfl,⟨rfl,slQ (Rds.self (enc:=aE)) (⟨rfl,⟨rfl,⟨rfl,h⟩⟩⟩)⟩⟩⟩⟩⟩⟩)⟩⟩)⟩⟩⟩⟩⟩
def f355.args (a:aC×(List (aA))×aF):List D:=[.agg [.str a.1.1.1,.int .i64 a.1.1.2.1.1,.int .i64 a.1.1.2.1.2.1,.int .i64 a.1.1.2.1.2.2,.slice .ro 2 a.1.1.2.2.length (gl aE a.1.1.2.2),.bool a.1.2.1,.int .i64 a.1.2.2],.slice .ro 13 a.2.1.length (gl aB a.2.1),.agg [.str a.2.2.1,.str a.2.2.2.1,.int .i64 a.2.2.2.2.1,.int .i64 a.2.2.2.2.2.1.1,.int .i64 a.2.2.2.2.2.1.2.1,.int .i64 a.2.2.2.2.2.1.2.2,.slice .ro 2 a.2.2.2.2.2.2.1.length (gl aE a.2.2.2.2.2.2.1),.str a.2.2.2.2.2.2.2.1,.str a.2.2.2.2.2.2.2.2.1,.int .i64 a.2.2.2.2.2.2.2.2.2]]
def f355.blks (a:aC×(List (aA))×aF):List (List D):=[]
def f355.res (a:aC×(List (aA))×aF):List D:=[.slice .ro 1 (((cN a).1).length) (gl bN ((cN a).1)),.bool ((cN a).2)]
def f355.blks' (a:aC×(List (aA))×aF):List (List D):=[]
def f355.C:aM:=FnC f355.args f355.blks (fun a=>bY a) f355.res f355.blks'
end Go.Abs

/- interregnum/victim.Plan -/
namespace Go.Abs
open Go
set_option linter.unusedVariables false
def f355.kills (a:aC×(List (aA))×aF):List cB:=[]
def f355.cuts (a:aC×(List (aA))×aF):List (Nat×Σ β:Type,β→Tm):=[]
def f355.af (a:aC×(List (aA))×aF):AF:=AF.mk (.seq (.region [oT 3 0 .box [0],
 oT 5 1 .box [2],
 oT 6 2 (.nilSl 1) [],
 ⟨(some 7),3,.move,[.c (.bool false)],none⟩])
 (.seq (.region [oT 11 4 (.load true 7) [3],
 oT 12 5 .move [1],
 oT 13 6 (.load true 10) [5],
 oT 14 7 (.call false 243) [11,12,13],
 oT 10 11 .move [14],
 oT 15 12 (.extract 0) [10],
 oT 16 13 (.extract 1) [10],
 oT 8 14 .move [15],
 oT 9 15 .move [16]])
 (.seq (.region [oT 17 16 .move [8],
 oT 18 17 (.call false 246) [17],
 oT 19 21 .move [9],
 oT 6 22 .move [18],
 oT 7 23 .move [19]])
 (.ret))))
 [.tmp 6,.tmp 7] 0 17
def f355.env:Env:=[(243,f243.C),(246,f246.C)]
def f355.tree (a:aC×(List (aA))×aF):Prop:=f243.ent (fun c1=>(bY c1)∧f246.ent (fun c2=>(jR c2)∧SlQ ((fC c2).length) (((cN a).1).length) (gl bN (fC c2)) (gl bN ((cN a).1)) ((((bB c1).2)=((cN a).2))∧True)) ((bB c1).1)) (a.1,a.2.1,a.2.2)
def f355.vc (a:aC×(List (aA))×aF):Prop:=(bY (a.1,a.2.1,a.2.2)∧(jR ((bB (a.1,a.2.1,a.2.2)).1)∧(((fC ((bB (a.1,a.2.1,a.2.2)).1)),(bB (a.1,a.2.1,a.2.2)).2)=cN a)))
set_option maxRecDepth 100000 in
set_option maxHeartbeats 2000000 in
theorem f355.of (a:aC×(List (aA))×aF) (h:f355.vc a):f355.tree a:=(f243.ei ⟨h.1,(f246.ei ⟨h.2.1,slQ (Rds.to (Rds.self (enc:=bN)) (congrArg (fun x:(List (ByteArray))×Bool=>x.1) h.2.2 :)) (⟨(congrArg (fun x:(List (ByteArray))×Bool=>x.2) h.2.2 :),trivial⟩)⟩)⟩)
theorem f355.eq (a:aC×(List (aA))×aF):(f355.af a).gives f355.env (f355.args a) (f355.blks a) (f355.res a) (f355.blks' a)=f355.tree a:=by kernel_rfl
end Go.Abs

-- interregnum/interregnumlaw13.few
namespace Go.Abs
open Go
def f353.ent (K:((List (aC))×(List (aA))×aF)→Prop) (t:(List (aC))×(List (aA))×aF):Prop:=∃ c:(List (aC))×(List (aA))×aF,SlQ t.1.length c.1.length (gl a6 t.1) (gl a6 c.1) (SlQ t.2.1.length c.2.1.length (gl aB t.2.1) (gl aB c.2.1) ((t.2.2.1=c.2.2.1)∧(t.2.2.2.1=c.2.2.2.1)∧(t.2.2.2.2.1=c.2.2.2.2.1)∧(t.2.2.2.2.2.1.1=c.2.2.2.2.2.1.1)∧(t.2.2.2.2.2.1.2.1=c.2.2.2.2.2.1.2.1)∧(t.2.2.2.2.2.1.2.2=c.2.2.2.2.2.1.2.2)∧SlQ t.2.2.2.2.2.2.1.length c.2.2.2.2.2.2.1.length (gl aE t.2.2.2.2.2.2.1) (gl aE c.2.2.2.2.2.2.1) ((t.2.2.2.2.2.2.2.1=c.2.2.2.2.2.2.2.1)∧(t.2.2.2.2.2.2.2.2.1=c.2.2.2.2.2.2.2.2.1)∧(t.2.2.2.2.2.2.2.2.2=c.2.2.2.2.2.2.2.2.2)∧K c)))
theorem f353.ei {K:((List (aC))×(List (aA))×aF)→Prop} {t:(List (aC))×(List (aA))×aF} (h:K t):f353.ent K t:=⟨t,slQ (Rds.self (enc:=a6)) (slQ (Rds.self (enc:=aB)) (⟨rfl,⟨rfl,⟨rfl,⟨rfl,⟨rfl,⟨rfl,slQ (Rds.self (enc:=aE)) (⟨rfl,⟨rfl,⟨rfl,h⟩⟩⟩)⟩⟩⟩⟩⟩⟩))⟩
def f353.args (a:(List (aC))×(List (aA))×aF):List D:=[.slice .ro 7 a.1.length (gl a6 a.1),.slice .ro 13 a.2.1.length (gl aB a.2.1),.agg [.str a.2.2.1,.str a.2.2.2.1,.int .i64 a.2.2.2.2.1,.int .i64 a.2.2.2.2.2.1.1,.int .i64 a.2.2.2.2.2.1.2.1,.int .i64 a.2.2.2.2.2.1.2.2,.slice .ro 2 a.2.2.2.2.2.2.1.length (gl aE a.2.2.2.2.2.2.1),.str a.2.2.2.2.2.2.2.1,.str a.2.2.2.2.2.2.2.2.1,.int .i64 a.2.2.2.2.2.2.2.2.2]]
def f353.blks (a:(List (aC))×(List (aA))×aF):List (List D):=[]
def f353.res (a:(List (aC))×(List (aA))×aF):List D:=[.bool (gY a)]
def f353.blks' (a:(List (aC))×(List (aA))×aF):List (List D):=[]
def f353.C:aM:=FnC f353.args f353.blks (fun a=>lK a) f353.res f353.blks'
end Go.Abs

/- interregnum/interregnumlaw13.few -/
namespace Go.Abs
open Go
set_option linter.unusedVariables false
def f353.S0 (a:(List (aC))×(List (aA))×aF) (x:Int):Tm:=⟨[.slice .ro 7 a.1.length (gl a6 a.1),.dead,.dead,.dead,.dead,.dead,.dead,.dead,.dead,.dead,.dead,.dead,.dead,.dead,.dead,.dead,.dead,.dead,.dead,.dead,.dead,.dead,.dead,.int .i64 (a.1.length:Int),.int .i64 x,.dead,.dead,.dead,.dead,.dead,.dead,.dead,.dead,.dead,.dead,.dead,.dead,.dead,.dead,.dead,.dead,.dead,.dead,.dead,.dead,.dead],[],[]⟩
def f353.kills (a:(List (aC))×(List (aA))×aF):List cB:=[.tell Int (f353.S0 a)]
def f353.cuts (a:(List (aC))×(List (aA))×aF):List (Nat×Σ β:Type,β→Tm):=[]
def f353.af (a:(List (aC))×(List (aA))×aF):AF:=AF.mk (.seq (.region [oT 5 0 .box [2],
 ⟨(some 6),1,.move,[.c (.bool false)],none⟩])
 (.seq (.seq (.region [oT 8 2 .move [0],
 oT 9 3 (.len false) [8],
 ⟨(some 10),4,(.bin .gtr),[.t 9,.c (.int .i64 (30))],none⟩,
 oT 11 5 .move [10],
 oG 12 6 .move [1] 11 false,
 oG 13 7 (.len false) [12] 11 false,
 ⟨(some 14),8,(.bin .gtr),[.t 13,.c (.int .i64 (60))],(some (11,false))⟩,
 ⟨(some 15),9,.pick,[.t 11,.c (.bool true),.t 14],none⟩,
 oT 16 10 .move [15],
 oG 17 11 (.fieldAddr 6) [5] 16 false,
 oG 18 12 (.load false 1) [17] 16 false,
 oG 19 13 (.len false) [18] 16 false,
 ⟨(some 20),14,(.bin .gtr),[.t 19,.c (.int .i64 (20))],(some (16,false))⟩,
 ⟨(some 21),15,.pick,[.t 16,.c (.bool true),.t 20],none⟩])
 (.cond (.t 21) (.seq (.region [⟨(some 6),16,.move,[.c (.bool false)],none⟩])
 (.ret)) (.skip)))
 (.seq (.seq (.region [oT 22 17 .move [0],
 oT 23 18 (.len false) [22],
 ⟨(some 24),19,.move,[.c (.int .i64 (0))],none⟩])
 (.block 0 (.loopT Int (f353.S0 a) 20 44 (.seq (.region [oT 25 20 (.bin .lss) [24,23]])
 (.seq (.cond (.t 25) (.skip) (.exit 0))
 (.seq (.block 1 (.seq (.region [oT 26 21 .move [24],
 oT 7 22 .move [26]])
 (.seq (.region [oT 27 23 .move [0],
 oT 28 24 .move [7],
 oT 29 25 (.indexAddr 7 none) [27,28],
 oT 30 26 (.fieldAddr 0) [29],
 oT 31 27 (.fieldAddr 4) [30],
 oT 32 28 (.load false 1) [31],
 oT 33 29 (.len false) [32],
 ⟨(some 34),30,(.bin .gtr),[.t 33,.c (.int .i64 (20))],none⟩,
 oT 35 31 .move [34],
 oG 36 32 .move [0] 35 false,
 oG 37 33 .move [7] 35 false,
 oG 38 34 (.indexAddr 7 none) [36,37] 35 false,
 oG 39 35 (.fieldAddr 0) [38] 35 false,
 oG 40 36 (.fieldAddr 0) [39] 35 false,
 oG 41 37 (.load false 1) [40] 35 false,
 oG 42 38 (.len true) [41] 35 false,
 ⟨(some 43),39,(.bin .gtr),[.t 42,.c (.int .i64 (1000))],(some (35,false))⟩,
 ⟨(some 44),40,.pick,[.t 35,.c (.bool true),.t 43],none⟩])
 (.cond (.t 44) (.seq (.region [⟨(some 6),41,.move,[.c (.bool false)],none⟩])
 (.ret)) (.skip)))))
 (.region [⟨(some 45),42,(.bin .add),[.t 24,.c (.int .i64 (1))],none⟩,
 oT 24 43 .move [45]])))))))
 (.seq (.region [⟨(some 6),44,.move,[.c (.bool true)],none⟩])
 (.ret)))))
 [.tmp 6] 0 43
def f353.env:Env:=[]
def f353.tree (a:(List (aC))×(List (aA))×aF):Prop:=Br (decide ((30:Int) < (a.1.length:Int))) ((false=(gY a))∧True) (Br (decide ((60:Int) < (a.2.1.length:Int))) ((false=(gY a))∧True) (Br (decide ((20:Int) < (a.2.2.2.2.2.2.1.length:Int))) ((false=(gY a))∧True) (∃ (I11:Int→Prop) (μ12:Int→Nat),(∃ x10:Int,SlS a6 a.1 (((a.1.length:Int)=(a.1.length:Int))∧((0:Int)=x10)∧I11 x10))∧∀ y13:Int,I11 y13→(Br (decide (y13 < (a.1.length:Int))) (Br (decide ((0:Int)≤y13)&&decide (y13 < (a.1.length:Int))) (Br (decide ((20:Int) < ((((at_ a.1 y13).1).2.2).length:Int))) ((false=(gY a))∧True) (Br (decide ((0:Int)≤y13)&&decide (y13 < (a.1.length:Int))) (Br (decide ((1000:Int) < ((((at_ a.1 y13).1).1).size:Int))) ((false=(gY a))∧True) (Let (IntKind.i64.wrap (y13+(1:Int))) (fun v24:Int=>∃ x25:Int,SlS a6 a.1 (((a.1.length:Int)=(a.1.length:Int))∧(v24=x25)∧I11 x25∧μ12 x25 < μ12 y13)))) False)) False) ((true=(gY a))∧True)))))
def f353.vc (a:(List (aC))×(List (aA))×aF):Prop:=(((30:Int) < (a.1.length:Int)→(false=gY a))∧(¬((30:Int) < (a.1.length:Int))→(((60:Int) < (a.2.1.length:Int)→(false=gY a))∧(¬((60:Int) < (a.2.1.length:Int))→(((20:Int) < (a.2.2.2.2.2.2.1.length:Int)→(false=gY a))∧(¬((20:Int) < (a.2.2.2.2.2.2.1.length:Int))→(∃ (I11:Int→Prop) (μ12:Int→Nat),I11 (0:Int)∧∀ y13:Int,I11 y13→((y13 < (a.1.length:Int)→((0:Int)≤y13∧y13 < (a.1.length:Int)∧(((20:Int) < ((((at_ a.1 y13).1).2.2).length:Int)→(false=gY a))∧(¬((20:Int) < ((((at_ a.1 y13).1).2.2).length:Int))→((0:Int)≤y13∧y13 < (a.1.length:Int)∧(((1000:Int) < ((((at_ a.1 y13).1).1).size:Int)→(false=gY a))∧(¬((1000:Int) < ((((at_ a.1 y13).1).1).size:Int))→(-9223372036854775808≤(y13+(1:Int))∧(y13+(1:Int))≤9223372036854775807∧(I11 (y13+(1:Int))∧μ12 (y13+(1:Int)) < μ12 y13)))))))))∧(¬(y13 < (a.1.length:Int))→(true=gY a))))))))))
set_option maxRecDepth 100000 in
set_option maxHeartbeats 2000000 in
theorem f353.of (a:(List (aC))×(List (aA))×aF) (h:f353.vc a):f353.tree a:=br h Cnd.dec (fun h1 k46=>⟨k46,trivial⟩) (fun h2 k47=>br k47 Cnd.dec (fun h4 k44=>⟨k44,trivial⟩) (fun h5 k45=>br k45 Cnd.dec (fun h7 k42=>⟨k42,trivial⟩) (fun h8 k43=>Exists.elim k43 (fun I11 h39_=>Exists.elim h39_ (fun μ12 h39=>⟨I11,μ12,⟨(0:Int),SlS.mk  (⟨rfl,⟨rfl,h39.1⟩⟩)⟩,fun y13 h41=>br (h39.2 y13 h41) Cnd.dec (fun h14 k37=>chk k37.2.2 Cnd.ix ⟨k37.1,k37.2.1⟩ (fun h16 k35=>br k35 Cnd.dec (fun h17 k33=>⟨k33,trivial⟩) (fun h18 k34=>chk k34.2.2 Cnd.ix ⟨k34.1,k34.2.1⟩ (fun h20 k32=>br k32 Cnd.dec (fun h21 k30=>⟨k30,trivial⟩) (fun h22 k31=>wrapK.i64 k31 (fun h27 h28 k29=>⟨(y13+(1:Int)),SlS.mk  (⟨rfl,⟨rfl,k29⟩⟩)⟩)))))) (fun h15 k38=>⟨k38,trivial⟩)⟩)))))
theorem f353.eq (a:(List (aC))×(List (aA))×aF):(f353.af a).gives f353.env (f353.args a) (f353.blks a) (f353.res a) (f353.blks' a)=f353.tree a:=by kernel_rfl
end Go.Abs

-- interregnum/interregnumlaw13.unlike
namespace Go.Abs
open Go
end Go.Abs

/- interregnum/interregnumlaw13.unlike -/
namespace Go.Abs
open Go
set_option linter.unusedVariables false
end Go.Abs

-- interregnum/interregnumlaw13.without
namespace Go.Abs
open Go
end Go.Abs

/- interregnum/interregnumlaw13.without -/
namespace Go.Abs
open Go
set_option linter.unusedVariables false
end Go.Abs

/- Which jobs must go: what the code asks is so. -/
namespace Go.Abs
open Go
theorem qB (a:bM×List bQ×bO):(dZ a).length≤a.2.1.length:=by
 unfold dZ pD
 rw [dD]
 exact List.length_filter_le _ _

theorem f251.ok (a:bM×List bQ×bO) (h:i7 a):f251.vc a:=by
 obtain ⟨m,l,t⟩:=a
 have h:l.length≤1048576:=h
 refine ⟨fun y=>0≤y.1∧y.1≤(l.length:Int)∧y.2++pD (m,l.drop y.1.toNat,t)=pD (m,l,t)∧y.2.length≤y.1.toNat,fun y=>l.length - y.1.toNat,⟨by simp only; omega,by simp only; omega,rfl,Nat.le_refl _⟩,fun y hy=>?_⟩
 obtain ⟨i,out⟩:=y
 obtain ⟨g0,g1,g2,g3⟩:=hy
 simp only at g0 g1 g2 g3 ⊢
 have skip:i < (l.length:Int)→¬((at_ l i).2.2.1=m.1.1∧(at_ l i).1.2.2.1 < t.2.2.1)→out++pD (m,l.drop (i+1).toNat,t)=pD (m,l,t):=fun hlt c=>by
  rw [← g2,iU g0 hlt]
  unfold pD
  simp only
  rw [List.filter_cons_of_neg (by simpa using c)]
 refine ⟨fun hlt=>⟨g0,hlt,fun c=>⟨fun c2=>⟨by omega,by omega,by omega,⟨by omega,by omega,?_,?_⟩,by omega⟩,fun c2=>⟨by omega,by omega,⟨by omega,by omega,skip hlt fun hh=>c2 hh.2,by omega⟩,by omega⟩⟩,fun c=>⟨by omega,by omega,⟨by omega,by omega,skip hlt fun hh=>c hh.1,by omega⟩,by omega⟩⟩,fun hge=>?_⟩
 ·rw [← g2,iU g0 hlt]
  unfold pD
  simp only
  rw [List.filter_cons_of_pos (by simpa using ⟨c,c2⟩),List.append_assoc]
  rfl
 ·rw [List.length_append,List.length_singleton]
  omega
 ·rw [List.drop_of_length_le (by omega)] at g2
  have g2:out=pD (m,l,t):=by rw [← g2]; exact (List.append_nil _).symm
  subst g2
  exact ⟨by unfold lB; omega,dD _,rfl⟩

theorem f246.ok (a:List bQ) (h:jR a):f246.vc a:=by
 have h:a.length≤1048576:=h
 refine ⟨fun y=>0≤y.2∧y.2≤(a.length:Int)∧y.1++fC (a.drop y.2.toNat)=fC a∧y.1.length≤y.2.toNat,fun y=>a.length - y.2.toNat,⟨by simp only; omega,by simp only; omega,rfl,Nat.le_refl _⟩,fun y hy=>?_⟩
 obtain ⟨out,i⟩:=y
 obtain ⟨g0,g1,g2,g3⟩:=hy
 simp only at g0 g1 g2 g3 ⊢
 refine ⟨fun hlt=>⟨g0,hlt,by omega,by omega,by omega,⟨by omega,by omega,?_,?_⟩,by omega⟩,fun hge=>?_⟩
 ·rw [← g2,iU g0 hlt,List.append_assoc]
  rfl
 ·rw [List.length_append,List.length_singleton]
  omega
 ·rw [List.drop_of_length_le (by omega)] at g2
  rw [← g2]
  exact (List.append_nil _).symm

theorem f355.ok (a:bM×List bQ×bO) (h:bY a):f355.vc a:=by
 obtain ⟨m,l,t⟩:=a
 refine ⟨h,?_,rfl⟩
 show L20 _
 have h1:l.length≤1048576:=h.1
 have h2:=qB (m,l,t)
 simp only at h2
 unfold L20 bB
 split
 ·simp
 ·split
  ·simp
  ·split
   ·simp only [List.length_take]
    omega
   ·simp

theorem aIQ {need:b8} {L:List bQ} {free:b8} {i:Nat} (hi:i < L.length):goK need free (L.drop i)=(if ¬(bP (free,(L.getD i default).1.2.2.2.1)).2=0 then none else if cT (need,(bP (free,(L.getD i default).1.2.2.2.1)).1)=true then some 1 else (goK need (bP (free,(L.getD i default).1.2.2.2.1)).1 (L.drop (i+1))).map (·+1)):=by
 rw [List.drop_eq_getElem_cons hi,goK,eJ hi]

theorem f243.ok (a:bM×List bQ×bO) (h:bY a):f243.vc a:=by
 obtain ⟨m,l,t⟩:=a
 have h1:l.length≤1048576:=h.1
 have h2:=qB (m,l,t)
 simp only at h2
 refine ⟨h,fun c=>?_,fun c=>⟨fun c4=>⟨h.1,h.1,?_⟩,fun c4=>?_⟩⟩
 ·simp only at c ⊢
  unfold bB
  rw [if_pos c]
 ·simp only at c c4 ⊢
  have hg:bB (m,l,t)=match goK t.2.2.2.1 (aX (m,l)).1 (dZ (m,l,t)) with
   | some k=>((dZ (m,l,t)).take k,true)
   | none=>([],false):=by
   unfold bB
   exact (if_neg c).trans (if_neg (not_not_intro c4))
  rw [hg]
  generalize dZ (m,l,t)=L at *
  refine ⟨fun y=>y.1=L∧y.2.1=L∧y.2.2.1=L.length∧0≤y.2.2.2.1∧y.2.2.2.1≤L.length∧goK t.2.2.2.1 (aX (m,l)).1 L=(goK t.2.2.2.1 y.2.2.2.2 (L.drop y.2.2.2.1.toNat)).map (·+y.2.2.2.1.toNat),fun y=>L.length - y.2.2.2.1.toNat,⟨rfl,rfl,rfl,by simp only; omega,by simp only; omega,?_⟩,fun y hy=>?_⟩
  ·simp only [Int.toNat_zero,List.drop_zero,Nat.add_zero]
   cases goK t.2.2.2.1 (aX (m,l)).1 L <;> rfl
  ·obtain ⟨L1,L2,n,i,free⟩:=y
   obtain ⟨g1,g2,g3,g4,g5,g6⟩:=hy
   simp only at g1 g2 g3 g4 g5 g6 ⊢
   subst g1; subst g2; subst g3
   refine ⟨fun hlt=>?_,fun hlt=>?_⟩
   ·have hi:i.toNat < L2.length:=by omega
    rw [aIQ hi,← iS] at g6
    refine ⟨g4,hlt,fun c1=>?_,fun c1=>⟨fun c2=>⟨by omega,by omega,by omega,by omega,?_⟩,fun c2=>⟨by omega,by omega,⟨by trivial,by trivial,by trivial,by omega,by omega,?_⟩,by omega⟩⟩⟩
    ·rw [if_pos c1] at g6
     rw [g6]
     rfl
    ·rw [if_neg c1,if_pos c2] at g6
     rw [g6]
     simp only [Option.map_some,Prod.mk.injEq,and_true]
     unfold gK
     simp only [Int.toNat_zero,List.drop_zero]
     congr 1
     omega
    ·rw [if_neg c1,if_neg c2] at g6
     rw [g6,Option.map_map,show (i+1).toNat=i.toNat+1 from by omega]
     congr 1
     funext k
     simp only [Function.comp]
     omega
   ·rw [List.drop_of_length_le (by omega),goK] at g6
    rw [g6]
    rfl
 ·simp only at c c4 ⊢
  unfold bB
  rw [if_neg c,if_pos c4]

theorem jO {a:List bM×List bQ×bO}:gY a=true↔(a.1.length≤30∧a.2.1.length≤60∧a.2.2.2.2.2.2.1.length≤20)∧∀ i,i < a.1.length→(a.1.getD i default).1.2.2.length≤20∧(a.1.getD i default).1.1.size≤1000:=by
 unfold gY
 rw [Bool.and_eq_true,decide_eq_true_eq,List.all_eq_true]
 exact ⟨fun h=>⟨h.1,fun i hi=>of_decide_eq_true (h.2 i (List.mem_range.2 hi))⟩,fun h=>⟨h.1,fun i hi=>decide_eq_true (h.2 i (List.mem_range.1 hi))⟩⟩

theorem f353.ok (a:List bM×List bQ×bO) (h:lK a):f353.vc a:=by
 obtain ⟨l,j,t⟩:=a
 have no:¬gY (l,j,t)=true→false=gY (l,j,t):=fun h=>(Bool.eq_false_iff.2 h).symm
 refine ⟨fun c=>no fun hh=>?_,fun c1=>⟨fun c=>no fun hh=>?_,fun c2=>⟨fun c=>no fun hh=>?_,fun c0=>?_⟩⟩⟩
 ·have:=(jO.1 hh).1.1; simp only at c this; omega
 ·have:=(jO.1 hh).1.2.1; simp only at c this; omega
 ·have:=(jO.1 hh).1.2.2; simp only at c this; omega
 ·simp only at c0 c1 c2
  refine ⟨fun y=>0≤y∧y≤(l.length:Int)∧∀ k,k < y.toNat→(l.getD k default).1.2.2.length≤20∧(l.getD k default).1.1.size≤1000,fun y=>l.length - y.toNat,⟨by omega,by omega,fun k hk=>by simp at hk⟩,fun y hy=>?_⟩
  obtain ⟨g0,g1,g2⟩:=hy
  simp only
  refine ⟨fun hlt=>⟨g0,hlt,fun c=>no fun hh=>?_,fun c3=>⟨g0,hlt,fun c=>no fun hh=>?_,fun c4=>⟨by omega,by omega,⟨by omega,by omega,fun k hk=>?_⟩,by omega⟩⟩⟩,fun hge=>?_⟩
  ·have:=((jO.1 hh).2 y.toNat (by simp only; omega)).1
   simp only at this
   rw [← qY] at this
   omega
  ·have:=((jO.1 hh).2 y.toNat (by simp only; omega)).2
   simp only at this
   rw [← qY] at this
   omega
  ·by_cases he:k=y.toNat
   ·subst he
    rw [← qY]
    omega
   ·exact g2 k (by omega)
  ·exact (jO.2 ⟨⟨by simp only; omega,by simp only; omega,by simp only; omega⟩,fun i hi=>g2 i (by simp only at hi; omega)⟩).symm

end Go.Abs
